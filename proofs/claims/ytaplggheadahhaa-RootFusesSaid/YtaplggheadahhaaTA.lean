/- What the references' lists of limbs are worth: Trim, Of, Nat, Cmp, limb, Bit. What the references' lists of limbs are worth: Twice, Less, Plus. What the references' lists of limbs are worth: Parts, Up, Value, Len, from, low. -/
import Derived.Test.YtaplggheadahhaaRA
import Derived.Test.YtaplggheadahhaaN1
import Derived.Test.YtaplggheadahhaaRB
import Derived.Test.YtaplggheadahhaaRC
namespace Go.Proofs.Ytaplggheadahhaa.R
open Go.RowKit Go.Proofs.YtaplggheadahhaaW.PrintWords
set_option linter.unusedVariables false
set_option linter.unusedSimpArgs false

/-- from some fuel on -/
def Ev (p : Nat → Prop) : Prop := ∃ K, ∀ k, K ≤ k → p k
theorem Ev.of {p : Nat → Prop} (h : ∀ k, p k) : Ev p := ⟨0, fun k _ => h k⟩
theorem Ev.and {p q : Nat → Prop} : Ev p → Ev q → Ev fun k => p k ∧ q k := fun ⟨K, h⟩ ⟨J, g⟩ => ⟨K + J, fun k hk => ⟨h k (by omega), g k (by omega)⟩⟩
theorem Ev.imp {p q : Nat → Prop} (h : Ev p) (f : ∀ k, p k → q k) : Ev q := let ⟨K, h⟩ := h; ⟨K, fun k hk => f k (h k hk)⟩
theorem Ev.step {p q : Nat → Prop} (h : Ev p) (f : ∀ k, p k → q (k + 1)) : Ev q :=
  let ⟨K, h⟩ := h
  ⟨K + 1, fun k hk => by
    obtain ⟨j, rfl⟩ : ∃ j, k = j + 1 := ⟨k - 1, by omega⟩
    exact f j (h j (by omega))⟩
theorem Ev.get {p : Nat → Prop} (h : Ev p) : ∃ k, p k := let ⟨K, h⟩ := h; ⟨K, h K (Nat.le_refl _)⟩

theorem w64 {n : Int} (h : -9223372036854775808 ≤ n) (h' : n < 9223372036854775808) : wrap64 n = n := by unfold wrap64; omega
theorem u64 {n : Int} (h : 0 ≤ n) (h' : n < 18446744073709551616) : IntKind.u64.wrap n = n := by
  simp [IntKind.wrap, IntKind.bits, IntKind.signed]; omega

def Lm (l : List Int) : Prop := ∀ x ∈ l, 0 ≤ x ∧ x < 4294967296
def val : List Int → Nat
  | [] => 0
  | x :: l => x.toNat + 4294967296 * val l
def lst (n : Nat) : List Int := if h : n = 0 then [] else ((n % 4294967296 : Nat) : Int) :: lst (n / 4294967296)
termination_by n
decreasing_by omega

theorem lst_zero : lst 0 = [] := by rw [lst]; simp
theorem lst_pos {n : Nat} (h : n ≠ 0) : lst n = ((n % 4294967296 : Nat) : Int) :: lst (n / 4294967296) := by rw [lst]; simp [h]
theorem val_lst (n : Nat) : val (lst n) = n := by
  induction n using Nat.strongRecOn with
  | _ n ih =>
    by_cases h : n = 0
    · subst h; rw [lst_zero]; rfl
    · rw [lst_pos h]
      simp only [val, Int.toNat_natCast]
      rw [ih (n / 4294967296) (by omega)]
      omega
theorem lm_nil : Lm [] := fun x hx => by simp at hx
theorem lm_cons {x : Int} {l : List Int} : Lm (x :: l) ↔ (0 ≤ x ∧ x < 4294967296) ∧ Lm l := by simp [Lm]
theorem lm_append {a b : List Int} : Lm (a ++ b) ↔ Lm a ∧ Lm b := by
  simp only [Lm, List.mem_append]
  exact ⟨fun h => ⟨fun x hx => h x (.inl hx), fun x hx => h x (.inr hx)⟩, fun h x hx => hx.elim (h.1 x) (h.2 x)⟩
theorem lm_take {l : List Int} (h : Lm l) (n : Nat) : Lm (l.take n) := fun x hx => h x (List.mem_of_mem_take hx)
theorem lm_lst (n : Nat) : Lm (lst n) := by
  induction n using Nat.strongRecOn with
  | _ n ih =>
    by_cases h : n = 0
    · subst h; rw [lst_zero]; exact lm_nil
    · rw [lst_pos h, lm_cons]
      exact ⟨by omega, ih _ (by omega)⟩
theorem val_append (a b : List Int) : val (a ++ b) = val a + 2 ^ (32 * a.length) * val b := by
  induction a with
  | nil => simp [val]
  | cons x l ih =>
    simp only [List.cons_append, val, ih, List.length_cons]
    rw [show 32 * (l.length + 1) = 32 + 32 * l.length by omega, Nat.pow_add, Nat.mul_add, Nat.mul_assoc]
    omega
theorem val_lt {l : List Int} (h : Lm l) : val l < 2 ^ (32 * l.length) := by
  induction l with
  | nil => simp [val]
  | cons x l ih =>
    rw [lm_cons] at h
    have := ih h.2
    simp only [val, List.length_cons]
    rw [show 32 * (l.length + 1) = 32 + 32 * l.length by omega, Nat.pow_add, show (2:Nat) ^ 32 = 4294967296 from rfl]
    omega
theorem lst_val {l : List Int} (h : Lm l) (hl : ∀ x, l.getLast? = some x → x ≠ 0) : lst (val l) = l := by
  induction l with
  | nil => exact lst_zero
  | cons x l ih =>
    rw [lm_cons] at h
    by_cases e : l = []
    · subst e
      have hx := hl x (by simp)
      rw [lst_pos (by simp only [val]; omega)]
      simp only [val]
      rw [show (x.toNat + 4294967296 * 0) / 4294967296 = 0 by omega, lst_zero, show (((x.toNat + 4294967296 * 0) % 4294967296 : Nat) : Int) = x by omega]
    · have i := ih h.2 (fun y hy => hl y (by rw [List.getLast?_cons]; simp [hy]))
      have hv : val l ≠ 0 := fun h0 => by rw [h0, lst_zero] at i; exact e i.symm
      rw [lst_pos (by simp only [val]; omega)]
      simp only [val]
      rw [show (x.toNat + 4294967296 * val l) / 4294967296 = val l by omega, i, show (((x.toNat + 4294967296 * val l) % 4294967296 : Nat) : Int) = x by omega]
theorem length_lst {n m : Nat} (h : n < 2 ^ (32 * m)) : (lst n).length ≤ m := by
  induction m generalizing n with
  | zero => rw [show n = 0 by simpa using h, lst_zero]; simp
  | succ m ih =>
    by_cases h0 : n = 0
    · subst h0; rw [lst_zero]; simp
    · rw [lst_pos h0, List.length_cons]
      have : n / 4294967296 < 2 ^ (32 * m) := by
        rw [Nat.div_lt_iff_lt_mul (by decide)]
        rw [show 32 * (m + 1) = 32 * m + 32 by omega, Nat.pow_add] at h
        exact h
      have := ih this
      omega
theorem lst_length_lt {n : Nat} : n < 2 ^ (32 * (lst n).length) := by
  have := val_lt (lm_lst n); rwa [val_lst] at this
theorem lst_length_ge {n : Nat} (h : n ≠ 0) : 2 ^ (32 * ((lst n).length - 1)) ≤ n := by
  by_cases h' : n < 2 ^ (32 * ((lst n).length - 1))
  · have h1 := length_lst h'
    have h2 : (lst n).length ≠ 0 := by rw [lst_pos h]; simp
    omega
  · omega

theorem rd_nat {l : List Int} (h : Lm l) (i : Int) : 0 ≤ rd l i ∧ rd l i < 4294967296 := by
  unfold rd
  rw [List.getD_eq_getElem?_getD]
  rcases e : l[i.toNat]? with _ | x
  · simp
  · exact h x (List.mem_of_getElem? e)
/-- the i-th limb -/
theorem val_mod {l : List Int} (h : Lm l) (i : Nat) : val l % 2 ^ (32 * (i + 1)) = val l % 2 ^ (32 * i) + (rd l (i : Int)).toNat * 2 ^ (32 * i) := by
  induction l generalizing i with
  | nil => simp [val, rd]
  | cons x l ih =>
    rw [lm_cons] at h
    cases i with
    | zero =>
      simp only [val, rd]
      have : (2:Nat) ^ (32 * (0 + 1)) = 4294967296 := rfl
      rw [this]
      simp
      omega
    | succ i =>
      have := ih h.2 i
      have e : rd (x :: l) ((i + 1 : Nat) : Int) = rd l (i : Int) := by simp [rd]
      rw [e]
      simp only [val]
      have p (j : Nat) : (x.toNat + 4294967296 * val l) % 2 ^ (32 * (j + 1)) = x.toNat + 4294967296 * (val l % 2 ^ (32 * j)) := by
        rw [show 32 * (j + 1) = 32 + 32 * j by omega, Nat.pow_add, show (2:Nat) ^ 32 = 4294967296 from rfl, Nat.mod_mul]
        rw [show (x.toNat + 4294967296 * val l) % 4294967296 = x.toNat by omega, show (x.toNat + 4294967296 * val l) / 4294967296 = val l by omega]
      rw [p, p, this, show 32 * (i + 1) = 32 + 32 * i by omega, Nat.pow_add, show (2:Nat) ^ 32 = 4294967296 from rfl, Nat.mul_add, Nat.mul_left_comm]
      omega
theorem val_limb {l : List Int} (h : Lm l) (i : Nat) : (rd l (i : Int)).toNat = val l / 2 ^ (32 * i) % 4294967296 := by
  have h1 := val_mod h i
  have h2 := rd_nat h i
  have p : (0:Nat) < 2 ^ (32 * i) := Nat.pow_pos (by decide)
  rw [show 32 * (i + 1) = 32 * i + 32 by omega, Nat.pow_add, Nat.mod_mul] at h1
  have h3 : 2 ^ (32 * i) * (val l / 2 ^ (32 * i) % 2 ^ 32) = 2 ^ (32 * i) * (rd l (i : Int)).toNat := by rw [Nat.mul_comm _ (rd l (i : Int)).toNat]; omega
  exact (Nat.eq_of_mul_eq_mul_left p h3).symm
theorem val_mod_len {l : List Int} (h : Lm l) {i : Nat} (hi : l.length ≤ i) : val l % 2 ^ (32 * i) = val l :=
  Nat.mod_eq_of_lt (Nat.lt_of_lt_of_le (val_lt h) (Nat.pow_le_pow_right (by decide) (by omega)))
theorem val_take {l : List Int} (h : Lm l) (i : Nat) (hi : i ≤ l.length) : val (l.take i) = val l % 2 ^ (32 * i) := by
  have e := List.take_append_drop i l
  have hL : (l.take i).length = i := by rw [List.length_take]; omega
  have h1 : val l = val (l.take i) + 2 ^ (32 * i) * val (l.drop i) := by
    conv => lhs; rw [← e]
    rw [val_append, hL]
  have h2 := val_lt (lm_take h i)
  rw [hL] at h2
  rw [h1, Nat.add_mul_mod_self_left, Nat.mod_eq_of_lt h2]

/-! ### Trim, Of, Nat -/
theorem trim_l0 (l : List Int) (h : Lm l) (hb : l.length < 35184372088832) : ∀ n k : Nat, n ≤ l.length → n < k → tabardref1_Trim.l0 k l (n : Int) = some (lst (val l % 2 ^ (32 * n))) := by
  intro n
  induction n with
  | zero =>
    intro k _ hk
    obtain ⟨j, rfl⟩ : ∃ j, k = j + 1 := ⟨k - 1, by omega⟩
    simp [tabardref1_Trim.l0, Nat.mod_one, lst_zero]
  | succ n ih =>
    intro k hn hk
    obtain ⟨j, rfl⟩ : ∃ j, k = j + 1 := ⟨k - 1, by omega⟩
    have e : wrap64 (((n + 1 : Nat) : Int) - 1) = (n : Int) := by rw [w64 (by omega) (by omega)]; omega
    unfold tabardref1_Trim.l0
    rw [e, if_pos (by omega), if_pos (by omega), if_pos (by omega)]
    by_cases h0 : rd l (n : Int) = 0
    · rw [if_pos h0, ih j (by omega) (by omega), val_mod h n, h0]; simp
    · rw [if_neg h0]
      simp only [Option.bind_some, List.nil_append, List.length_nil, Nat.zero_add]
      rw [if_pos (by omega), if_pos (by omega), if_pos (by rw [List.length_take]; omega), show ((n + 1 : Nat) : Int).toNat = n + 1 by omega]
      rw [← val_take h (n + 1) hn, lst_val (lm_take h _)]
      intro x hx
      rw [List.getLast?_eq_getElem?, List.length_take, show min (n + 1) l.length - 1 = n by omega, List.getElem?_take, if_pos (by omega)] at hx
      have : rd l (n : Int) = x := by simp [rd, List.getD_eq_getElem?_getD, hx]
      rwa [← this]
theorem trim_ev (l : List Int) (h : Lm l) (hb : l.length < 35184372088832) : Ev fun k => tabardref1_Trim.f k l = some (lst (val l)) :=
  ⟨l.length + 1, fun k hk => by
    have := trim_l0 l h hb l.length k (Nat.le_refl _) (by omega)
    rw [val_mod_len h (Nat.le_refl _)] at this
    exact this⟩
theorem trim_lst {n : Nat} (hb : (lst n).length < 35184372088832) : Ev fun k => tabardref1_Trim.f k (lst n) = some (lst n) := by
  have := trim_ev (lst n) (lm_lst n) hb; rwa [val_lst] at this
theorem of_ev (n : Nat) (hn : n < 18446744073709551616) : Ev fun k => tabardref1_Of.f k (n : Int) = some (lst n) := by
  have e : ([(Int.tmod (n : Int) 4294967296) % 4294967296, ((n : Int) / 4294967296) % 4294967296] : List Int) = [((n % 4294967296 : Nat) : Int), ((n / 4294967296 : Nat) : Int)] := by
    rw [Int.tmod_eq_emod_of_nonneg (by omega)]
    simp; omega
  have hL : Lm [((n % 4294967296 : Nat) : Int), ((n / 4294967296 : Nat) : Int)] := by
    rw [lm_cons, lm_cons]; exact ⟨by omega, by omega, lm_nil⟩
  have hv : val [((n % 4294967296 : Nat) : Int), ((n / 4294967296 : Nat) : Int)] = n := by simp only [val]; omega
  refine (trim_ev _ hL (by simp)).imp fun k h => ?_
  unfold tabardref1_Of.f
  rw [e, h, hv]; rfl
theorem nat_ev (n : Nat) (hn : n < 18446744073709551616) : Ev fun k => tabardref3_Nat.f k (n : Int) = some (lst n) :=
  (of_ev n hn).imp fun k h => by unfold tabardref3_Nat.f; rw [h]; rfl

/-! ### Cmp -/
def sgn (a b : Nat) : Int := if a < b then -1 else if b < a then 1 else 0
theorem cmp_l0 (x y : List Int) (hx : Lm x) (hy : Lm y) (hb : x.length < 35184372088832) (hl : x.length = y.length) : ∀ n k : Nat, n ≤ x.length → n < k →
    tabardref1_Cmp.l0 k x y ((n : Int) - 1) = some (sgn (val x % 2 ^ (32 * n)) (val y % 2 ^ (32 * n))) := by
  intro n
  induction n with
  | zero =>
    intro k _ hk
    obtain ⟨j, rfl⟩ : ∃ j, k = j + 1 := ⟨k - 1, by omega⟩
    simp [tabardref1_Cmp.l0, Nat.mod_one, sgn]
  | succ n ih =>
    intro k hn hk
    obtain ⟨j, rfl⟩ : ∃ j, k = j + 1 := ⟨k - 1, by omega⟩
    have i := ih j (by omega) (by omega)
    have e0 : (((n + 1 : Nat) : Int) - 1) = (n : Int) := by omega
    unfold tabardref1_Cmp.l0
    rw [e0, w64 (by omega) (by omega), if_pos (by omega), if_pos (by omega), if_pos (by omega), if_pos (by omega), i, val_mod hx n, val_mod hy n]
    have r1 := rd_nat hx (n : Int)
    have r2 := rd_nat hy (n : Int)
    have p : (0:Nat) < 2 ^ (32 * n) := Nat.pow_pos (by decide)
    have m1 := Nat.mod_lt (val x) p
    have m2 := Nat.mod_lt (val y) p
    generalize 2 ^ (32 * n) = P at *
    generalize val x % P = A at *
    generalize val y % P = B at *
    obtain ⟨r, hr⟩ : ∃ r : Nat, rd x (n : Int) = r := ⟨(rd x (n : Int)).toNat, by omega⟩
    obtain ⟨s, hs⟩ : ∃ s : Nat, rd y (n : Int) = s := ⟨(rd y (n : Int)).toNat, by omega⟩
    rw [hr, hs, Int.toNat_natCast, Int.toNat_natCast]
    by_cases c : r < s
    · rw [if_pos (by omega)]
      have : (r + 1) * P ≤ s * P := Nat.mul_le_mul_right _ c
      rw [Nat.add_mul] at this
      unfold sgn; rw [if_pos (by omega)]
    · rw [if_neg (by omega)]
      by_cases c2 : s < r
      · rw [if_pos (by omega)]
        have : (s + 1) * P ≤ r * P := Nat.mul_le_mul_right _ c2
        rw [Nat.add_mul] at this
        unfold sgn; rw [if_neg (by omega), if_pos (by omega)]
      · rw [if_neg (by omega)]
        have : r = s := by omega
        subst this
        unfold sgn
        congr 1
        generalize r * P = z
        split <;> split <;> (try split) <;> (try split) <;> omega
theorem cmp_ev (x y : List Int) (hx : Lm x) (hy : Lm y) (bx : x.length < 35184372088832) (by_ : y.length < 35184372088832) : Ev fun k => tabardref1_Cmp.f k x y = some (sgn (val x) (val y)) := by
  have t1 := trim_ev x hx bx
  have t2 := trim_ev y hy by_
  generalize hA : val x = a at *
  generalize hB : val y = b at *
  have la : (lst a).length ≤ x.length := length_lst (by rw [← hA]; exact val_lt hx)
  have ⟨K, h⟩ := t1.and t2
  refine ⟨K + (lst a).length + 1, fun k hk => ?_⟩
  obtain ⟨h1, h2⟩ := h k (by omega)
  unfold tabardref1_Cmp.f
  rw [h1, h2]
  simp only [Option.bind_some]
  have pa := @lst_length_lt a
  have pb := @lst_length_lt b
  by_cases c : ((lst a).length : Int) = ((lst b).length : Int)
  · rw [if_pos c, w64 (by omega) (by omega)]
    have := cmp_l0 (lst a) (lst b) (lm_lst a) (lm_lst b) (by omega) (by omega) (lst a).length k (Nat.le_refl _) (by omega)
    rw [this, val_lst, val_lst, Nat.mod_eq_of_lt pa, Nat.mod_eq_of_lt (by rw [show (lst a).length = (lst b).length by omega]; exact pb)]
  · rw [if_neg c]
    by_cases c2 : ((lst a).length : Int) < ((lst b).length : Int)
    · rw [if_pos c2]
      have hb1 : (lst b).length ≠ 0 := by omega
      have hb0 : b ≠ 0 := fun h0 => hb1 (by rw [h0, lst_zero]; rfl)
      have g := lst_length_ge hb0
      have : 2 ^ (32 * (lst a).length) ≤ 2 ^ (32 * ((lst b).length - 1)) := Nat.pow_le_pow_right (by decide) (by omega)
      unfold sgn; rw [if_pos (by omega)]
    · rw [if_neg c2]
      have ha1 : (lst a).length ≠ 0 := by omega
      have ha0 : a ≠ 0 := fun h0 => ha1 (by rw [h0, lst_zero]; rfl)
      have g := lst_length_ge ha0
      have : 2 ^ (32 * (lst b).length) ≤ 2 ^ (32 * ((lst a).length - 1)) := Nat.pow_le_pow_right (by decide) (by omega)
      unfold sgn; rw [if_neg (by omega), if_pos (by omega)]

/-! ### limb, Bit -/
theorem limb_eq {l : List Int} (h : Lm l) (i : Nat) : tabardref1_limb.f l (i : Int) = some (rd l (i : Int)) := by
  have r := rd_nat h (i : Int)
  unfold tabardref1_limb.f
  rw [if_neg (by omega), u64 (by omega) (by omega)]
  by_cases c : (i : Int) ≥ (l.length : Int)
  · rw [if_pos c]
    have : l[i]? = none := List.getElem?_eq_none (by omega)
    simp [rd, List.getD_eq_getElem?_getD, this]
  · rw [if_neg c, if_pos (by omega), if_pos (by omega)]
theorem shr64 (t s : Nat) (hs : s < 64) : shr .u64 (t : Int) (s : Int) = ((t / 2 ^ s : Nat) : Int) := by
  unfold shr
  rw [Int.toNat_natCast, show min s IntKind.u64.bits = s from Nat.min_eq_left (Nat.le_of_lt hs)]
  simp
theorem bit_eq {l : List Int} (h : Lm l) (i : Nat) (hi : i < 4611686018427387904) : tabardref1_Bit.f l (i : Int) = some ((val l).testBit i) := by
  have r := rd_nat h ((i / 32 : Nat) : Int)
  have hv := val_limb h (i / 32)
  have e1 : wrap64 (Int.tdiv (i : Int) 32) = ((i / 32 : Nat) : Int) := by
    rw [Int.tdiv_eq_ediv_of_nonneg (by omega), w64 (by omega) (by omega)]; omega
  have e2 : IntKind.u64.wrap (Int.tmod (i : Int) 32) = ((i % 32 : Nat) : Int) := by
    rw [Int.tmod_eq_emod_of_nonneg (by omega), u64 (by omega) (by omega)]; omega
  unfold tabardref1_Bit.f
  rw [e1, e2, limb_eq h]
  simp only [Option.bind_some]
  obtain ⟨t, ht⟩ : ∃ t : Nat, rd l ((i / 32 : Nat) : Int) = t := ⟨_, (Int.toNat_of_nonneg r.1).symm⟩
  rw [ht, Int.toNat_natCast] at hv
  rw [if_pos (by omega), ht, shr64 _ _ (by omega), Int.tmod_eq_emod_of_nonneg (Int.natCast_nonneg _)]
  congr 1
  have e3 : (val l).testBit i = t.testBit (i % 32) := by
    rw [hv, show (4294967296:Nat) = 2 ^ 32 from rfl, Nat.testBit_mod_two_pow, Nat.testBit_div_two_pow, decide_eq_true (by omega), Bool.true_and]
    congr 1; omega
  rw [e3, Nat.testBit_eq_decide_div_mod_eq]
  generalize t / 2 ^ (i % 32) = z
  by_cases c : z % 2 = 1
  · rw [decide_eq_true c]; simp; omega
  · rw [decide_eq_false c]; simp; omega
end Go.Proofs.Ytaplggheadahhaa.R

namespace Go.Proofs.Ytaplggheadahhaa.R
open Go.RowKit Go.Proofs.YtaplggheadahhaaW.PrintWords
set_option linter.unusedVariables false
set_option linter.unusedSimpArgs false

theorem lim (s : Nat) (hs : s < 18446744073709551616) : Int.tmod (IntKind.u64.wrap (s : Int)) 4294967296 % 4294967296 = ((s % 4294967296 : Nat) : Int) := by
  rw [u64 (by omega) (by omega), Int.tmod_eq_emod_of_nonneg (by omega)]; omega
theorem lim_div (s : Nat) (hs : s < 18446744073709551616) : IntKind.u64.wrap (s : Int) / 4294967296 = ((s / 4294967296 : Nat) : Int) := by
  rw [u64 (by omega) (by omega)]; omega
theorem lm_snoc {l : List Int} (h : Lm l) (a : Nat) : Lm (l ++ [((a % 4294967296 : Nat) : Int)]) := by
  rw [lm_append, lm_cons]; exact ⟨h, by omega, lm_nil⟩
theorem val_snoc (l : List Int) (a : Nat) : val (l ++ [(a : Int)]) = val l + 2 ^ (32 * l.length) * a := by
  rw [val_append]; simp [val]
theorem pow_limb (i : Nat) : 2 ^ (32 * (i + 1)) = 4294967296 * 2 ^ (32 * i) := by
  rw [show 32 * (i + 1) = 32 + 32 * i by omega, Nat.pow_add]
theorem rd_ex {l : List Int} (h : Lm l) (i : Int) : ∃ r : Nat, rd l i = r ∧ r < 4294967296 := by
  have := rd_nat h i
  exact ⟨(rd l i).toNat, by omega, by omega⟩
/-- the carry -/
theorem carry (V P s : Nat) : V + P * (s % 4294967296) + s / 4294967296 * (4294967296 * P) = V + s * P := by
  have := Nat.mod_add_div s 4294967296
  have h : P * (s % 4294967296) + s / 4294967296 * (4294967296 * P) = s * P := by
    conv => rhs; rw [← this]
    rw [Nat.add_mul]
    ac_rfl
  omega

theorem twice_l0 (x : List Int) (h : Lm x) (hb : x.length < 35184372088831) (c0 : Nat) : ∀ d i c : Nat, ∀ x5 : List Int, i + d = x.length → x5.length = i → c ≤ 1 → Lm x5 →
    val x5 + c * 2 ^ (32 * i) = 2 * (val x % 2 ^ (32 * i)) + c0 → Ev fun k => tabardref1_Twice.l0 k x x5 (c : Int) (i : Int) = some (lst (2 * val x + c0)) := by
  intro d
  induction d with
  | zero =>
    intro i c x5 hi h5 hc hl hv
    rw [val_mod_len h (by omega)] at hv
    have hc1 : ((c : Nat) : Int) % 4294967296 = ((c % 4294967296 : Nat) : Int) := by omega
    refine (trim_ev (x5 ++ [((c % 4294967296 : Nat) : Int)]) (lm_snoc hl c) (by simp; omega)).step fun k ht => ?_
    unfold tabardref1_Twice.l0
    rw [if_neg (by omega), if_pos (by omega), hc1, ht, val_snoc, h5, show c % 4294967296 = c by omega, Nat.mul_comm, hv]
    rfl
  | succ d ih =>
    intro i c x5 hi h5 hc hl hv
    obtain ⟨r, hr, hr2⟩ := rd_ex h (i : Int)
    have e1 : (IntKind.u64.wrap (2 * IntKind.u64.wrap (rd x (i : Int))) + (c : Int)) = ((2 * r + c : Nat) : Int) := by
      rw [hr, u64 (n := (r : Int)) (by omega) (by omega), u64 (by omega) (by omega)]; omega
    have m := val_mod h i
    rw [hr, Int.toNat_natCast] at m
    refine (ih (i + 1) ((2 * r + c) / 4294967296) (x5 ++ [(((2 * r + c) % 4294967296 : Nat) : Int)]) (by omega) (by simp; omega) (by omega) (lm_snoc hl _) ?_).step fun k ht => ?_
    · rw [val_snoc, h5, m, pow_limb, carry, Nat.add_mul, Nat.mul_add, ← Nat.mul_assoc]
      omega
    · unfold tabardref1_Twice.l0
      rw [if_pos (by omega), if_pos (by omega), if_pos (by omega), e1, lim _ (by omega), lim_div _ (by omega), w64 (by omega) (by omega)]
      exact ht
theorem twice_ev (x : List Int) (h : Lm x) (hb : x.length < 35184372088831) (b : Bool) : Ev fun k => tabardref1_Twice.f k x b = some (lst (2 * val x + b.toNat)) := by
  have := twice_l0 x h hb b.toNat x.length 0 b.toNat [] (by omega) rfl (by cases b <;> simp) lm_nil (by simp [val, Nat.mod_one])
  refine (this.step (q := fun k => tabardref1_Twice.f k x b = some (lst (2 * val x + b.toNat))) fun k ht => ?_)
  unfold tabardref1_Twice.f
  cases b
  · rw [if_neg (by simp)]; unfold tabardref1_Twice.j0; exact ht
  · rw [if_pos rfl]; unfold tabardref1_Twice.j0; exact ht

theorem plus_l0 (x y : List Int) (h : Lm x) (g : Lm y) (n : Nat) (hx : x.length ≤ n) (hy : y.length ≤ n) (hn : n = x.length ∨ n = y.length) (hb : n < 35184372088831) : ∀ d i c : Nat, ∀ x5 : List Int, i + d = n → x5.length = i → c ≤ 1 → Lm x5 →
    val x5 + c * 2 ^ (32 * i) = val x % 2 ^ (32 * i) + val y % 2 ^ (32 * i) → Ev fun k => tabardref1_Plus.l0 k x y x5 (c : Int) (i : Int) = some (lst (val x + val y)) := by
  intro d
  induction d with
  | zero =>
    intro i c x5 hi h5 hc hl hv
    rw [val_mod_len h (by omega), val_mod_len g (by omega)] at hv
    have hc1 : ((c : Nat) : Int) % 4294967296 = ((c % 4294967296 : Nat) : Int) := by omega
    refine (((trim_ev (x5 ++ [((c % 4294967296 : Nat) : Int)]) (lm_snoc hl c) (by simp; omega)).step (q := fun k => tabardref1_Plus.j1 k x y x5 (c : Int) (i : Int) false = some (lst (val x + val y))) fun k ht => ?_).step fun k ht => ?_)
    · unfold tabardref1_Plus.j1
      rw [if_neg (by simp), if_pos (by omega), hc1, ht, val_snoc, h5, show c % 4294967296 = c by omega, Nat.mul_comm, hv]
      rfl
    · unfold tabardref1_Plus.l0
      rw [if_neg (by omega), decide_eq_false (by omega)]
      exact ht
  | succ d ih =>
    intro i c x5 hi h5 hc hl hv
    obtain ⟨r, hr, hr2⟩ := rd_ex h (i : Int)
    obtain ⟨s, hs, hs2⟩ := rd_ex g (i : Int)
    have e1 : (IntKind.u64.wrap ((r : Int) + (s : Int)) + (c : Int)) = ((r + s + c : Nat) : Int) := by
      rw [u64 (by omega) (by omega)]; omega
    have m := val_mod h i
    have m2 := val_mod g i
    rw [hr, Int.toNat_natCast] at m
    rw [hs, Int.toNat_natCast] at m2
    refine (((ih (i + 1) ((r + s + c) / 4294967296) (x5 ++ [(((r + s + c) % 4294967296 : Nat) : Int)]) (by omega) (by simp; omega) (by omega) (lm_snoc hl _) ?_).step (q := fun k => tabardref1_Plus.j1 k x y x5 (c : Int) (i : Int) true = some (lst (val x + val y))) fun k ht => ?_).step fun k ht => ?_)
    · rw [val_snoc, h5, m, m2, pow_limb, carry, Nat.add_mul, Nat.add_mul]
      omega
    · unfold tabardref1_Plus.j1
      rw [if_pos rfl, limb_eq h, limb_eq g, hr, hs]
      simp only [Option.bind_some]
      rw [if_pos (by omega), e1, lim _ (by omega), lim_div _ (by omega), w64 (by omega) (by omega)]
      exact ht
    · unfold tabardref1_Plus.l0
      by_cases c1 : (i : Int) < (x.length : Int)
      · rw [if_pos c1]; exact ht
      · rw [if_neg c1, decide_eq_true (by omega)]; exact ht
theorem plus_ev (x y : List Int) (h : Lm x) (g : Lm y) (hx : x.length < 35184372088831) (hy : y.length < 35184372088831) : Ev fun k => tabardref1_Plus.f k x y = some (lst (val x + val y)) := by
  exact plus_l0 x y h g (max x.length y.length) (by omega) (by omega) (by omega) (by omega) (max x.length y.length) 0 0 [] (by omega) rfl (by omega) lm_nil (by simp [val, Nat.mod_one])

theorem less_l0 (x y : List Int) (h : Lm x) (g : Lm y) (hb : x.length < 35184372088831) (hle : val y ≤ val x) : ∀ d i c : Nat, ∀ x5 : List Int, i + d = x.length → x5.length = i → c ≤ 1 → Lm x5 →
    val x5 + val y % 2 ^ (32 * i) = val x % 2 ^ (32 * i) + c * 2 ^ (32 * i) → Ev fun k => tabardref1_Less.l0 k x y x5 (c : Int) (i : Int) = some (lst (val x - val y)) := by
  intro d
  induction d with
  | zero =>
    intro i c x5 hi h5 hc hl hv
    have hx := val_lt h
    have h5v := val_lt hl
    rw [val_mod_len h (by omega), show i = x.length by omega, Nat.mod_eq_of_lt (by omega)] at hv
    rw [h5, show i = x.length by omega] at h5v
    have hc0 : val x5 = val x - val y := by
      rcases (show c = 0 ∨ c = 1 by omega) with rfl | rfl <;> omega
    refine (trim_ev x5 hl (by omega)).step fun k ht => ?_
    unfold tabardref1_Less.l0
    rw [if_neg (by omega), ht, hc0]
    rfl
  | succ d ih =>
    intro i c x5 hi h5 hc hl hv
    obtain ⟨r, hr, hr2⟩ := rd_ex h (i : Int)
    obtain ⟨s, hs, hs2⟩ := rd_ex g (i : Int)
    have m := val_mod h i
    have m2 := val_mod g i
    rw [hr, Int.toNat_natCast] at m
    rw [hs, Int.toNat_natCast] at m2
    have e1 : IntKind.u64.wrap ((s : Int) + (c : Int)) = ((s + c : Nat) : Int) := by rw [u64 (by omega) (by omega)]; omega
    by_cases c1 : r < s + c
    · refine (ih (i + 1) 1 (x5 ++ [(((r + 4294967296 - (s + c)) % 4294967296 : Nat) : Int)]) (by omega) (by simp; omega) (by omega) (lm_snoc hl _) ?_).step fun k ht => ?_
      · rw [val_snoc, h5, m, m2, pow_limb, Nat.mod_eq_of_lt (by omega)]
        have e : 2 ^ (32 * i) * (r + 4294967296 - (s + c)) + (s + c) * 2 ^ (32 * i) = r * 2 ^ (32 * i) + 4294967296 * 2 ^ (32 * i) := by
          rw [Nat.mul_comm, ← Nat.add_mul, ← Nat.add_mul]; congr 1; omega
        rw [Nat.add_mul s c] at e
        generalize 2 ^ (32 * i) * (r + 4294967296 - (s + c)) = z at *
        omega
      · unfold tabardref1_Less.l0
        rw [if_pos (by omega), limb_eq h, limb_eq g, hr, hs]
        simp only [Option.bind_some]
        rw [e1, if_pos (by omega), if_pos (by omega), u64 (n := (r : Int) + 4294967296) (by omega) (by omega), u64 (by omega) (by omega), w64 (by omega) (by omega), show ((r : Int) + 4294967296 - ((s + c : Nat) : Int)) % 4294967296 = (((r + 4294967296 - (s + c)) % 4294967296 : Nat) : Int) by omega]
        exact ht
    · refine (ih (i + 1) 0 (x5 ++ [(((r - (s + c)) % 4294967296 : Nat) : Int)]) (by omega) (by simp; omega) (by omega) (lm_snoc hl _) ?_).step fun k ht => ?_
      · rw [val_snoc, h5, m, m2, Nat.mod_eq_of_lt (show r - (s + c) < 4294967296 by omega)]
        have e : 2 ^ (32 * i) * (r - (s + c)) + (s + c) * 2 ^ (32 * i) = r * 2 ^ (32 * i) := by
          rw [Nat.mul_comm, ← Nat.add_mul]; congr 1; omega
        rw [Nat.add_mul s c] at e
        generalize 2 ^ (32 * i) * (r - (s + c)) = z at *
        omega
      · unfold tabardref1_Less.l0
        rw [if_pos (by omega), limb_eq h, limb_eq g, hr, hs]
        simp only [Option.bind_some]
        rw [e1, if_neg (by omega), if_pos (by omega), u64 (by omega) (by omega), w64 (by omega) (by omega), show ((r : Int) - ((s + c : Nat) : Int)) % 4294967296 = (((r - (s + c)) % 4294967296 : Nat) : Int) by omega]
        exact ht
theorem less_ev (x y : List Int) (h : Lm x) (g : Lm y) (hx : x.length < 35184372088831) (hle : val y ≤ val x) : Ev fun k => tabardref1_Less.f k x y = some (lst (val x - val y)) := by
  exact less_l0 x y h g hx hle x.length 0 0 [] (by omega) rfl (by omega) lm_nil (by simp [val, Nat.mod_one])
end Go.Proofs.Ytaplggheadahhaa.R

namespace Go.Proofs.Ytaplggheadahhaa.R
open Go.RowKit Go.Proofs.YtaplggheadahhaaW.PrintWords
set_option linter.unusedVariables false
set_option linter.unusedSimpArgs false

theorem val_set (q : List Int) (j : Nat) (v : Int) (hj : j < q.length) : val (q.set j v) + (rd q (j : Int)).toNat * 2 ^ (32 * j) = val q + v.toNat * 2 ^ (32 * j) := by
  induction q generalizing j with
  | nil => simp at hj
  | cons x l ih =>
    cases j with
    | zero => simp [val, rd]; omega
    | succ j =>
      have := ih j (by simpa using hj)
      have e : rd (x :: l) ((j + 1 : Nat) : Int) = rd l (j : Int) := by simp [rd]
      rw [e, List.set_cons_succ]
      simp only [val]
      rw [pow_limb, Nat.mul_left_comm, Nat.mul_left_comm v.toNat]
      omega
theorem divstep {A B : Nat} (hB : 0 < B) :
    (B ≤ 2 * (A / 2 % B) + A % 2 → A / B = 2 * (A / 2 / B) + 1 ∧ A % B = 2 * (A / 2 % B) + A % 2 - B) ∧
    (¬ B ≤ 2 * (A / 2 % B) + A % 2 → A / B = 2 * (A / 2 / B) ∧ A % B = 2 * (A / 2 % B) + A % 2) := by
  have h1 := Nat.div_add_mod (A / 2) B
  have h2 := Nat.mod_lt (A / 2) hB
  have h3 : A = 2 * (A / 2) + A % 2 := by omega
  generalize A / 2 / B = Q at *
  generalize A / 2 % B = r at *
  have h4 : B * (2 * Q) = 2 * (B * Q) := by rw [Nat.mul_left_comm]
  constructor
  · intro h
    rw [Nat.div_mod_unique hB]
    rw [Nat.mul_add, Nat.mul_one, h4]
    omega
  · intro h
    rw [Nat.div_mod_unique hB, h4]
    omega
theorem div_pow_succ (A i : Nat) : A / 2 ^ (i + 1) = A / 2 ^ i / 2 := by rw [Nat.pow_succ, Nat.div_div_eq_div_mul]
theorem bit_nat (A i : Nat) : (A.testBit i).toNat = A / 2 ^ i % 2 := by
  rw [Nat.testBit_eq_decide_div_mod_eq]
  generalize A / 2 ^ i = z
  by_cases c : z % 2 = 1
  · rw [decide_eq_true c, c]; rfl
  · rw [decide_eq_false c]; show 0 = _; omega
theorem shl32 (r : Nat) (h : r < 32) : shl .u32 1 (r : Int) = ((2 ^ r : Nat) : Int) := by
  have : ∀ r : Fin 32, shl .u32 1 ((r.val : Nat) : Int) = ((2 ^ r.val : Nat) : Int) := by decide
  exact this ⟨r, h⟩
theorem wraps_u32 (n : Int) (h0 : 0 ≤ n) (h1 : n < 2 ^ 32) : IntKind.u32.wrap n = n := by
  simp [IntKind.wrap, IntKind.bits, IntKind.signed]; omega
theorem or_limb {a r : Nat} (ha : a < 4294967296) (hr : r < 32) (hd : a % 2 ^ (r + 1) = 0) : Go.bits .or .u32 (a : Int) (shl .u32 1 (r : Int)) = ((a + 2 ^ r : Nat) : Int) ∧ a + 2 ^ r < 4294967296 := by
  have p : 2 ^ r < 4294967296 := by rw [show (4294967296:Nat) = 2 ^ 32 from rfl]; exact Nat.pow_lt_pow_right (by decide) hr
  have h1 := (bits_nat .u32 32 (by decide) wraps_u32 a (2 ^ r) ha p).2
  have h2 : a ||| 2 ^ r = a + 2 ^ r := by
    have hq : a = 2 ^ (r + 1) * (a / 2 ^ (r + 1)) := by have := Nat.div_add_mod a (2 ^ (r + 1)); omega
    rw [hq]
    exact (Nat.two_pow_add_eq_or_of_lt (Nat.pow_lt_pow_right (by decide) (by omega)) _).symm
  rw [shl32 r hr, h1, h2]
  exact ⟨rfl, by rw [← h2]; exact Nat.or_lt_two_pow (n := 32) ha p⟩
theorem lm_set {q : List Int} (h : Lm q) (j : Nat) {v : Int} (hv : 0 ≤ v ∧ v < 4294967296) : Lm (q.set j v) := fun x hx => by
  rcases List.mem_or_eq_of_mem_set hx with h1 | h1
  · exact h x h1
  · rw [h1]; exact hv
theorem set_bit {q : List Int} (h : Lm q) (i Q : Nat) (hi : i / 32 < q.length) (hv : val q = Q * 2 ^ (i + 1)) :
    Lm (q.set (i / 32) (Go.bits .or .u32 (rd q ((i / 32 : Nat) : Int)) (shl .u32 1 ((i % 32 : Nat) : Int)))) ∧
    val (q.set (i / 32) (Go.bits .or .u32 (rd q ((i / 32 : Nat) : Int)) (shl .u32 1 ((i % 32 : Nat) : Int)))) = val q + 2 ^ i := by
  obtain ⟨a, ha, ha2⟩ := rd_ex h ((i / 32 : Nat) : Int)
  have hl := val_limb h (i / 32)
  rw [ha, Int.toNat_natCast] at hl
  have hd : a % 2 ^ (i % 32 + 1) = 0 := by
    rw [hl, show (4294967296:Nat) = 2 ^ 32 from rfl, Nat.mod_mod_of_dvd _ (Nat.pow_dvd_pow 2 (by omega)), hv, show i + 1 = (i % 32 + 1) + 32 * (i / 32) by omega, Nat.pow_add, ← Nat.mul_assoc, Nat.mul_div_cancel _ (Nat.pow_pos (by decide))]
    exact Nat.mul_mod_left _ _
  obtain ⟨h1, h2⟩ := or_limb ha2 (Nat.mod_lt i (by decide)) hd
  have hs := val_set q (i / 32) ((a + 2 ^ (i % 32) : Nat) : Int) hi
  rw [ha, h1]
  refine ⟨lm_set h _ ⟨Int.natCast_nonneg _, by omega⟩, ?_⟩
  rw [ha, Int.toNat_natCast, Int.toNat_natCast, Nat.add_mul, ← Nat.pow_add, show i % 32 + 32 * (i / 32) = i by omega] at hs
  omega

theorem sgn_ge (a b : Nat) : sgn a b ≥ 0 ↔ b ≤ a := by
  unfold sgn; split
  · constructor <;> intro h <;> omega
  · split <;> constructor <;> intro h <;> omega
theorem parts_idx (i : Nat) (hi : i < 4611686018427387904) : wrap64 (Int.tdiv (i : Int) 32) = ((i / 32 : Nat) : Int) ∧ IntKind.u64.wrap (Int.tmod (i : Int) 32) = ((i % 32 : Nat) : Int) ∧ wrap64 ((i : Int) - 1) = (i : Int) - 1 ∧ ((i + 1 : Nat) : Int) - 1 = (i : Int) := by
  refine ⟨?_, ?_, ?_, ?_⟩
  · rw [Int.tdiv_eq_ediv_of_nonneg (by omega), w64 (by omega) (by omega)]; omega
  · rw [Int.tmod_eq_emod_of_nonneg (by omega), u64 (by omega) (by omega)]; omega
  · rw [w64 (by omega) (by omega)]
  · omega
theorem parts_hit_ (k : Nat) (x8 x9 J S v : Int) (j : Nat) (x b q t1 t2 t3 : List Int) (g : Int) (bit : Bool)
    (p1 : x8 ≥ 0) (hJ : wrap64 (Int.tdiv x8 32) = J) (hS : IntKind.u64.wrap (Int.tmod x8 32) = S) (h9 : wrap64 (x8 - 1) = x9) (p2 : 0 ≤ J) (p3 : 0 ≤ S) (p4 : J < (q.length : Int)) (hj : J.toNat = j)
    (e0 : tabardref1_Bit.f x x8 = some bit) (e1 : tabardref1_Twice.f k t1 bit = some t2) (e2 : tabardref1_Cmp.f k t2 b = some g) (e3 : tabardref1_Less.f k t2 b = some t3) (hc : g ≥ 0)
    (hv : Go.bits .or .u32 (rd q J) (shl .u32 1 S) = v) :
    tabardref1_Parts.l0 (k + 1) x b q t1 x8 = tabardref1_Parts.l0 k x b (q.set j v) t3 x9 := by
  have e : tabardref1_Parts.l0 (k + 1) x b q t1 x8 = if x8 ≥ 0 then ((tabardref1_Bit.f x x8).bind fun t253 => ((tabardref1_Twice.f k t1 t253).bind fun t254 => ((tabardref1_Cmp.f k t254 b).bind fun t257 => (if t257 ≥ 0 then ((tabardref1_Less.f k t254 b).bind fun t258 => (if 0 ≤ (wrap64 (Int.tdiv x8 32)) then (if (wrap64 (Int.tdiv x8 32)) < (q.length : Int) then (if 0 ≤ (IntKind.u64.wrap (Int.tmod x8 32)) then (tabardref1_Parts.l0 k x b (q.set ((wrap64 (Int.tdiv x8 32)) : Int).toNat (Go.bits .or .u32 (rd q (wrap64 (Int.tdiv x8 32))) (shl .u32 1 (IntKind.u64.wrap (Int.tmod x8 32))))) t258 (wrap64 (x8 - 1))) else (none)) else (none)) else (none))) else (tabardref1_Parts.l0 k x b q t254 (wrap64 (x8 - 1))))))) else ((tabardref1_Trim.f k q).bind fun t247 => ((tabardref1_Trim.f k t1).bind fun t250 => (some (t247, t250)))) := by
    conv => lhs; unfold tabardref1_Parts.l0
  rw [hJ, hS, h9, hv, hj] at e
  rw [e, if_pos p1, e0]
  simp only [Option.bind_some]
  rw [e1]
  simp only [Option.bind_some]
  rw [e2]
  simp only [Option.bind_some]
  rw [if_pos hc, e3]
  simp only [Option.bind_some]
  rw [if_pos p2, if_pos p4, if_pos p3]
theorem parts_hit (k i : Nat) (hi : i < 4611686018427387904) (x b q t1 t3 : List Int) (n B : Nat) (bit : Bool) (hq : i / 32 < q.length)
    (e0 : tabardref1_Bit.f x (i : Int) = some bit) (e1 : tabardref1_Twice.f k t1 bit = some (lst n)) (e2 : tabardref1_Cmp.f k (lst n) b = some (sgn n B)) (e3 : tabardref1_Less.f k (lst n) b = some t3) (hc : B ≤ n) :
    tabardref1_Parts.l0 (k + 1) x b q t1 (((i + 1 : Nat) : Int) - 1) = tabardref1_Parts.l0 k x b (q.set (i / 32) (Go.bits .or .u32 (rd q ((i / 32 : Nat) : Int)) (shl .u32 1 ((i % 32 : Nat) : Int)))) t3 ((i : Int) - 1) := by
  obtain ⟨i1, i2, i3, i4⟩ := parts_idx i hi
  rw [i4]
  exact parts_hit_ k i _ _ _ _ _ x b q t1 (lst n) t3 _ bit (Int.natCast_nonneg _) i1 i2 i3 (Int.natCast_nonneg _) (Int.natCast_nonneg _) (Int.ofNat_lt.2 hq) (Int.toNat_natCast _) e0 e1 e2 e3 ((sgn_ge n B).2 hc) rfl
theorem parts_miss (k i : Nat) (hi : i < 4611686018427387904) (x b q t1 : List Int) (n B : Nat) (bit : Bool)
    (e0 : tabardref1_Bit.f x (i : Int) = some bit) (e1 : tabardref1_Twice.f k t1 bit = some (lst n)) (e2 : tabardref1_Cmp.f k (lst n) b = some (sgn n B)) (hc : ¬ B ≤ n) :
    tabardref1_Parts.l0 (k + 1) x b q t1 (((i + 1 : Nat) : Int) - 1) = tabardref1_Parts.l0 k x b q (lst n) ((i : Int) - 1) := by
  obtain ⟨i1, i2, i3, i4⟩ := parts_idx i hi
  have g : ¬ sgn n B ≥ 0 := fun h => hc ((sgn_ge n B).1 h)
  have p1 : (i : Int) ≥ 0 := Int.natCast_nonneg _
  rw [i4]
  generalize (i : Int) = y at *
  conv => lhs; unfold tabardref1_Parts.l0
  rw [if_pos p1, e0]
  simp only [Option.bind_some]
  rw [e1]
  simp only [Option.bind_some]
  rw [e2]
  simp only [Option.bind_some]
  rw [if_neg g, i3]
theorem length_two {B n L : Nat} (h : n < 2 * B) (hB : B < 2 ^ (32 * L)) : (lst n).length ≤ L + 1 := length_lst (by
    rw [Nat.mul_add, Nat.pow_add, show (2:Nat) ^ (32 * 1) = 4294967296 from rfl]; omega)
theorem shift_q {Q i : Nat} : Q * 2 ^ (i + 1) = 2 * Q * 2 ^ i := by
  rw [Nat.pow_succ, Nat.mul_comm (2 ^ i) 2, ← Nat.mul_assoc, Nat.mul_comm _ 2]
theorem parts_l0 (x b : List Int) (hx : Lm x) (hb : Lm b) (lx : x.length < 1073741824) (lb : b.length < 1073741824) (h0 : 0 < val b) : ∀ i : Nat, ∀ q : List Int, i ≤ 32 * x.length → Lm q → q.length = x.length →
    val q = val x / 2 ^ i / val b * 2 ^ i → Ev fun k => tabardref1_Parts.l0 k x b q (lst (val x / 2 ^ i % val b)) ((i : Int) - 1) = some (lst (val x / val b), lst (val x % val b)) := by
  intro i
  induction i with
  | zero =>
    intro q _ hl hq hv
    have e : val x / 2 ^ 0 = val x := by simp
    rw [e] at hv ⊢
    have l1 : (lst (val x % val b)).length ≤ b.length + 1 := length_two (by have := Nat.mod_lt (val x) h0; omega) (val_lt hb)
    refine ((trim_ev q hl (by omega)).and (trim_lst (n := val x % val b) (by omega))).step fun k ⟨t1, t2⟩ => ?_
    unfold tabardref1_Parts.l0
    rw [if_neg (by omega), t1, t2, hv]
    simp
  | succ i ih =>
    intro q hi hl hq hv
    have hi' : i < 4611686018427387904 := by omega
    have hi2 : i ≤ 32 * x.length := by omega
    have hi3 : i / 32 < q.length := by omega
    have rl := Nat.mod_lt (val x / 2 ^ (i + 1)) h0
    have bt := bit_nat (val x) i
    have bl1 : ((val x).testBit i).toNat ≤ 1 := by cases (val x).testBit i <;> simp
    have bq := bit_eq hx i hi'
    have ds := divstep (A := val x / 2 ^ i) h0
    rw [← bt] at ds
    rw [div_pow_succ] at hv rl ⊢
    have vb := val_lt hb
    clear bt
    generalize (val x).testBit i = bit at *
    generalize hr : val x / 2 ^ i / 2 % val b = r at *
    have l1 : (lst r).length ≤ b.length + 1 := by clear hv ds hi bq ih; exact length_two (by omega) vb
    have l2 : (lst (2 * r + bit.toNat)).length ≤ b.length + 1 := by clear hv ds hi bq ih; exact length_two (by omega) vb
    have t1 := twice_ev (lst r) (lm_lst _) (by clear hv ds hi bq ih vb; omega) bit
    rw [val_lst] at t1
    have t2 := cmp_ev (lst (2 * r + bit.toNat)) b (lm_lst _) hb (by clear hv ds hi bq ih vb; omega) (by clear hv ds hi bq ih vb; omega)
    rw [val_lst] at t2
    by_cases c : val b ≤ 2 * r + bit.toNat
    · obtain ⟨d1, d2⟩ := ds.1 c
      have t3 := less_ev (lst (2 * r + bit.toNat)) b (lm_lst _) hb (by clear hv ds hi bq ih vb d1 d2; omega) (by rw [val_lst]; exact c)
      rw [val_lst] at t3
      have sb := set_bit hl i _ hi3 hv
      have t4 := ih _ hi2 sb.1 (by rw [List.length_set]; exact hq) (by
        rw [sb.2, d1, hv, Nat.add_mul, Nat.one_mul, shift_q])
      rw [d2] at t4
      exact (((t1.and t2).and t3).and t4).step fun k ⟨⟨⟨t1, t2⟩, t3⟩, t4⟩ => (parts_hit k i hi' x b q (lst r) _ _ (val b) bit hi3 bq t1 t2 t3 c).trans t4
    · obtain ⟨d1, d2⟩ := ds.2 c
      have t4 := ih q hi2 hl hq (by rw [d1, hv, shift_q])
      rw [d2] at t4
      exact ((t1.and t2).and t4).step fun k ⟨⟨t1, t2⟩, t4⟩ => (parts_miss k i hi' x b q (lst r) _ (val b) bit bq t1 t2 c).trans t4
theorem val_zeros (n : Nat) : val (List.replicate n 0) = 0 := by
  induction n with
  | zero => rfl
  | succ n ih => rw [List.replicate_succ]; simp [val, ih]
theorem lm_zeros (n : Nat) : Lm (List.replicate n 0) := fun x hx => by rw [List.eq_of_mem_replicate hx]; omega
theorem parts_ev (x b : List Int) (hx : Lm x) (hb : Lm b) (lx : x.length < 1073741824) (lb : b.length < 1073741824) (h0 : 0 < val b) : Ev fun k => tabardref1_Parts.f k x b = some (lst (val x / val b), lst (val x % val b)) := by
  have e : val x / 2 ^ (32 * x.length) = 0 := Nat.div_eq_of_lt (val_lt hx)
  have := parts_l0 x b hx hb lx lb h0 (32 * x.length) (List.replicate x.length 0) (Nat.le_refl _) (lm_zeros _) (by simp) (by rw [e, val_zeros]; simp)
  rw [e, Nat.zero_mod, lst_zero] at this
  refine this.imp fun k h => ?_
  unfold tabardref1_Parts.f
  rw [if_pos (by omega), if_pos (by omega), w64 (n := 32 * (x.length : Int)) (by omega) (by omega), w64 (by omega) (by omega), Int.toNat_natCast]
  rw [show 32 * (x.length : Int) - 1 = ((32 * x.length : Nat) : Int) - 1 by omega]
  exact h

/-! ### Up -/
theorem up_l0 (n : Nat) (hn : n < 1099511627776) : ∀ d i : Nat, ∀ x : List Int, i + d = n % 32 → Lm x → x.length + d < 2199023255552 → Ev fun k => tabardref3_Up.l0 k (n : Int) x (i : Int) = some (lst (val x * 2 ^ d)) := by
  have en : Int.tmod (n : Int) 32 = ((n % 32 : Nat) : Int) := by rw [Int.tmod_eq_emod_of_nonneg (by omega)]; omega
  intro d
  induction d with
  | zero =>
    intro i x hi hx hl
    refine (trim_ev x hx (by omega)).step fun k h => ?_
    unfold tabardref3_Up.l0
    rw [en, if_neg (by omega), h]
    simp
  | succ d ih =>
    intro i x hi hx hl
    have t := twice_ev x hx (by omega) false
    simp only [Bool.toNat_false, Nat.add_zero] at t
    have ll : (lst (2 * val x)).length ≤ x.length + 1 := length_lst (by
      have := val_lt hx
      rw [Nat.mul_add, Nat.pow_add, show (2:Nat) ^ (32 * 1) = 4294967296 from rfl]; omega)
    have t2 := ih (i + 1) (lst (2 * val x)) (by omega) (lm_lst _) (by omega)
    rw [val_lst] at t2
    refine (t.and t2).step fun k ⟨h1, h2⟩ => ?_
    unfold tabardref3_Up.l0
    rw [en, if_pos (by omega), h1]
    simp only [Option.bind_some]
    rw [w64 (by omega) (by omega), Nat.pow_succ, Nat.mul_comm (2 ^ d) 2, ← Nat.mul_assoc, Nat.mul_comm _ 2]
    exact h2
theorem up_ev (l : List Int) (h : Lm l) (n : Nat) (hn : n < 1099511627776) (hl : l.length < 1099511627776) : Ev fun k => tabardref3_Up.f k l (n : Int) = some (lst (val l * 2 ^ n)) := by
  have := up_l0 n hn (n % 32) 0 (List.replicate (n / 32) 0 ++ l) (by omega) (by rw [lm_append]; exact ⟨lm_zeros _, h⟩) (by simp; omega)
  rw [val_append, val_zeros, List.length_replicate, Nat.zero_add, Nat.mul_comm (2 ^ _), Nat.mul_assoc, ← Nat.pow_add, show 32 * (n / 32) + n % 32 = n by omega] at this
  refine this.imp fun k h => ?_
  have e1 : wrap64 (Int.tdiv (n : Int) 32) = ((n / 32 : Nat) : Int) := by
    rw [Int.tdiv_eq_ediv_of_nonneg (by omega), w64 (by omega) (by omega)]; omega
  unfold tabardref3_Up.f
  rw [e1, if_pos (by omega), Int.toNat_natCast, if_pos (by omega)]
  simp only [Option.bind_some]
  rw [if_pos (by simp; omega)]
  exact h

/-! ### Value -/
theorem value_ev (l : List Int) (h : Lm l) (hl : l.length < 35184372088832) : Ev fun k => tabardref1_Value.f k l = some (if val l < 18446744073709551616 then ((val l : Int), true) else (0, false)) := by
  have t := trim_ev l h hl
  generalize val l = n at *
  have ⟨K, h⟩ := t
  refine ⟨K + 4, fun k hk => ?_⟩
  have hk2 : tabardref1_Trim.f k l = some (lst n) := h k (by omega)
  show tabardref1_Value.f k l = _
  unfold tabardref1_Value.f
  rw [hk2]
  simp only [Option.bind_some]
  clear hk2 t h
  obtain ⟨j, rfl⟩ : ∃ j, k = j + 3 := ⟨k - 3, by omega⟩
  by_cases c : n < 18446744073709551616
  · rw [if_pos c]
    by_cases c0 : n = 0
    · subst c0
      rw [lst_zero]
      simp [tabardref1_Value.l0, wrap64]
    · rw [lst_pos c0]
      by_cases c1 : n / 4294967296 = 0
      · rw [c1, lst_zero]
        rw [if_neg (by simp)]
        simp only [List.length_cons, List.length_nil]
        rw [show wrap64 (((0 + 1 : Nat) : Int) - 1) = 0 by unfold wrap64; rfl]
        unfold tabardref1_Value.l0
        rw [if_pos (by omega), if_pos (by omega), if_pos (by simp), show wrap64 (0 - 1) = -1 by unfold wrap64; rfl]
        unfold tabardref1_Value.l0
        rw [if_neg (by omega)]
        have : rd [((n % 4294967296 : Nat) : Int)] 0 = ((n % 4294967296 : Nat) : Int) := rfl
        rw [this, u64 (n := ((n % 4294967296 : Nat) : Int)) (by omega) (by omega), show IntKind.u64.wrap (0 * 4294967296) = 0 by decide, u64 (by omega) (by omega)]
        congr 2; omega
      · rw [lst_pos c1, show n / 4294967296 / 4294967296 = 0 by omega, lst_zero]
        rw [if_neg (by simp)]
        simp only [List.length_cons, List.length_nil]
        rw [show wrap64 (((0 + 1 + 1 : Nat) : Int) - 1) = 1 by unfold wrap64; rfl]
        unfold tabardref1_Value.l0
        rw [if_pos (by omega), if_pos (by omega), if_pos (by simp), show wrap64 (1 - 1) = 0 by unfold wrap64; rfl]
        unfold tabardref1_Value.l0
        rw [if_pos (by omega), if_pos (by omega), if_pos (by simp), show wrap64 (0 - 1) = -1 by unfold wrap64; rfl]
        unfold tabardref1_Value.l0
        rw [if_neg (by omega)]
        have r0 : rd [((n % 4294967296 : Nat) : Int), ((n / 4294967296 % 4294967296 : Nat) : Int)] 0 = ((n % 4294967296 : Nat) : Int) := rfl
        have r1 : rd [((n % 4294967296 : Nat) : Int), ((n / 4294967296 % 4294967296 : Nat) : Int)] 1 = ((n / 4294967296 % 4294967296 : Nat) : Int) := rfl
        rw [r0, r1, show IntKind.u64.wrap (0 * 4294967296) = 0 by decide, u64 (n := ((n / 4294967296 % 4294967296 : Nat) : Int)) (by omega) (by omega), u64 (n := 0 + ((n / 4294967296 % 4294967296 : Nat) : Int)) (by omega) (by omega), u64 (n := ((n % 4294967296 : Nat) : Int)) (by omega) (by omega), u64 (n := (0 + ((n / 4294967296 % 4294967296 : Nat) : Int)) * 4294967296) (by omega) (by omega), u64 (by omega) (by omega)]
        congr 2; omega
  · rw [if_neg c]
    have := @lst_length_lt n
    have hl : 2 < (lst n).length := by
      rcases Nat.lt_or_ge 2 (lst n).length with h2 | h2
      · exact h2
      · have : 2 ^ (32 * (lst n).length) ≤ 2 ^ (32 * 2) := Nat.pow_le_pow_right (by decide) (by omega)
        rw [show (2:Nat) ^ (32 * 2) = 18446744073709551616 from rfl] at this
        omega
    rw [if_pos (by omega)]
end Go.Proofs.Ytaplggheadahhaa.R

