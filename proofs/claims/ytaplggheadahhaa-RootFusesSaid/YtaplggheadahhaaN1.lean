/- Plain arithmetic of binary64, no Go in it: rounding to the nearest, what a number is worth, sums, products, their order, exact differences. -/
namespace Go.Proofs.Ytaplggheadahhaa.Fl
set_option linter.unusedVariables false
set_option linter.unusedSimpArgs false

def INF : Nat := 9218868437227405312
def bl (n : Nat) : Nat := if n = 0 then 0 else Nat.log2 n + 1

theorem bl_zero : bl 0 = 0 := rfl
theorem bl_pos {n : Nat} (h : 0 < n) : 0 < bl n := by unfold bl; rw [if_neg (by omega)]; omega
theorem lt_bl (n : Nat) : n < 2 ^ bl n := by
  unfold bl; split
  · subst_vars; decide
  · exact (Nat.log2_lt (by omega)).1 (by omega)
theorem bl_le {n : Nat} (h : 0 < n) : 2 ^ (bl n - 1) ≤ n := by
  unfold bl; rw [if_neg (by omega)]; exact Nat.log2_self_le (by omega)
theorem bl_le_of_lt {n k : Nat} (h : n < 2 ^ k) : bl n ≤ k := by
  rcases Nat.eq_zero_or_pos n with rfl | hn
  · simp [bl_zero]
  · have h1 := bl_le hn
    have h2 := bl_pos hn
    have : bl n - 1 < k := (Nat.pow_lt_pow_iff_right (by decide : 1 < 2)).1 (Nat.lt_of_le_of_lt h1 h)
    omega
theorem lt_bl_of_le {n k : Nat} (h : 2 ^ k ≤ n) : k < bl n := by
  have h1 := lt_bl n
  exact (Nat.pow_lt_pow_iff_right (by decide : 1 < 2)).1 (Nat.lt_of_le_of_lt h h1)
theorem bl_eq {n k : Nat} (h : 2 ^ k ≤ n) (h' : n < 2 ^ (k + 1)) : bl n = k + 1 := by
  have := bl_le_of_lt h'; have := lt_bl_of_le h; omega
theorem bl_mono {n m : Nat} (h : n ≤ m) : bl n ≤ bl m := bl_le_of_lt (Nat.lt_of_le_of_lt h (lt_bl m))
theorem bl_mul {n : Nat} (h : 0 < n) (j : Nat) : bl (n * 2 ^ j) = bl n + j := by
  have h1 := bl_le h; have h2 := lt_bl n; have h3 := bl_pos h
  have : bl n + j = (bl n - 1 + j) + 1 := by omega
  rw [this]
  apply bl_eq
  · rw [Nat.pow_add]; exact Nat.mul_le_mul_right _ h1
  · rw [show bl n - 1 + j + 1 = bl n + j by omega, Nat.pow_add]; exact Nat.mul_lt_mul_of_pos_right h2 (Nat.pow_pos (by decide))
theorem bl_mul_add {n : Nat} (h : 0 < n) (j r : Nat) (hr : r < 2 ^ j) : bl (n * 2 ^ j + r) = bl n + j := by
  have h1 := bl_le h; have h2 := lt_bl n; have h3 := bl_pos h
  have : bl n + j = (bl n - 1 + j) + 1 := by omega
  rw [this]
  apply bl_eq
  · rw [Nat.pow_add]; exact Nat.le_trans (Nat.mul_le_mul_right _ h1) (Nat.le_add_right _ _)
  · rw [show bl n - 1 + j + 1 = bl n + j by omega, Nat.pow_add]
    have : (n + 1) * 2 ^ j ≤ 2 ^ bl n * 2 ^ j := Nat.mul_le_mul_right _ h2
    rw [Nat.add_mul] at this; omega

/-- The rounded quotient of n by 2^K, ties to even; more: a little more than n. -/
def rq (n K : Nat) (more : Bool) : Nat :=
  if n / 2 ^ (K - 1) % 2 = 1 ∧ (n % 2 ^ (K - 1) ≠ 0 ∨ more = true ∨ n / 2 ^ K % 2 = 1) then n / 2 ^ K + 1 else n / 2 ^ K

def un (n : Nat) (e : Int) : Int := max (e + bl n - 53) (-1074)

/-- The bits of the number nearest to n * 2^e (and a little more). -/
def rnd (n : Nat) (e : Int) (more : Bool) : Nat :=
  if n = 0 then 0 else
    min INF ((un n e + 1074).toNat * 4503599627370496 + if un n e ≤ e then n * 2 ^ (e - un n e).toNat else rq n (un n e - e).toNat more)

theorem rq_ge (n K : Nat) (more : Bool) : n / 2 ^ K ≤ rq n K more := by unfold rq; split <;> omega
theorem rq_le (n K : Nat) (more : Bool) : rq n K more ≤ n / 2 ^ K + 1 := by unfold rq; split <;> omega

/-- the significand before packing -/
def sg (n : Nat) (e : Int) (more : Bool) : Nat := if un n e ≤ e then n * 2 ^ (e - un n e).toNat else rq n (un n e - e).toNat more

theorem rnd_eq {n : Nat} (h : 0 < n) (e : Int) (more : Bool) : rnd n e more = min INF ((un n e + 1074).toNat * 4503599627370496 + sg n e more) := by
  unfold rnd sg; rw [if_neg (by omega)]

theorem un_ge (n : Nat) (e : Int) : -1074 ≤ un n e := by unfold un; omega
theorem pow53 : (2:Nat) ^ 53 = 9007199254740992 := rfl
theorem pow52 : (2:Nat) ^ 52 = 4503599627370496 := rfl

theorem sg_le {n : Nat} (_h : 0 < n) (e : Int) (more : Bool) : sg n e more ≤ 9007199254740992 := by
  have h1 := lt_bl n
  unfold sg; split
  · rename_i hu
    have : (e - un n e).toNat + bl n ≤ 53 := by unfold un at *; omega
    have h2 : n * 2 ^ (e - un n e).toNat < 2 ^ (bl n + (e - un n e).toNat) := by
      rw [Nat.pow_add]; exact Nat.mul_lt_mul_of_pos_right h1 (Nat.pow_pos (by decide))
    have h3 : 2 ^ (bl n + (e - un n e).toNat) ≤ 2 ^ 53 := Nat.pow_le_pow_right (by decide) (by omega)
    rw [pow53] at h3; omega
  · rename_i hu
    have h2 := rq_le n (un n e - e).toNat more
    have h3 : bl n ≤ 53 + (un n e - e).toNat := by unfold un at *; omega
    have h4 : n < 2 ^ 53 * 2 ^ (un n e - e).toNat := by
      rw [← Nat.pow_add]; exact Nat.lt_of_lt_of_le h1 (Nat.pow_le_pow_right (by decide) h3)
    have h5 : n / 2 ^ (un n e - e).toNat < 2 ^ 53 := Nat.div_lt_of_lt_mul (by rw [Nat.mul_comm]; exact h4)
    rw [pow53] at h5; omega

theorem sg_ge {n : Nat} (h : 0 < n) (e : Int) (more : Bool) (hu : -1074 < un n e) : 4503599627370496 ≤ sg n e more := by
  have h1 := bl_le h
  have hb := bl_pos h
  unfold sg; split
  · rename_i hu'
    have h3 : (bl n - 1) + (e - un n e).toNat = 52 := by unfold un at *; omega
    have h2 : 2 ^ ((bl n - 1) + (e - un n e).toNat) ≤ n * 2 ^ (e - un n e).toNat := by
      rw [Nat.pow_add]; exact Nat.mul_le_mul_right _ h1
    rw [h3, pow52] at h2; exact h2
  · rename_i hu'
    have h2 := rq_ge n (un n e - e).toNat more
    have h3 : bl n - 1 = 52 + (un n e - e).toNat := by unfold un at *; omega
    rw [h3, Nat.pow_add] at h1
    have h5 : 2 ^ 52 ≤ n / 2 ^ (un n e - e).toNat := (Nat.le_div_iff_mul_le (Nat.pow_pos (by decide))).2 h1
    rw [pow52] at h5; omega

theorem rq_mono {n m : Nat} (h : n ≤ m) (K : Nat) (hK : 0 < K) : rq n K false ≤ rq m K false := by
  have hp : 2 ^ K = 2 * 2 ^ (K - 1) := by rw [← Nat.pow_succ']; congr 1; omega
  have hpos : 0 < 2 ^ (K - 1) := Nat.pow_pos (by decide)
  unfold rq
  generalize hP : 2 ^ (K - 1) = P at *
  rw [hp]
  rw [show n / (2 * P) = n / P / 2 by rw [Nat.mul_comm, Nat.div_div_eq_div_mul], show m / (2 * P) = m / P / 2 by rw [Nat.mul_comm, Nat.div_div_eq_div_mul]]
  have hd : n / P ≤ m / P := Nat.div_le_div_right h
  have hn := Nat.div_add_mod n P
  have hm := Nat.div_add_mod m P
  by_cases he : n / P = m / P
  · rw [he] at hn ⊢
    have : n % P ≤ m % P := by omega
    simp only [Bool.false_eq_true, false_or]
    split <;> split <;> omega
  · simp only [Bool.false_eq_true, false_or]
    split <;> split <;> omega

theorem rnd_mono {n m : Nat} (h : n ≤ m) (e : Int) : rnd n e false ≤ rnd m e false := by
  rcases Nat.eq_zero_or_pos n with rfl | hn
  · simp [rnd]
  have hm : 0 < m := by omega
  rw [rnd_eq hn, rnd_eq hm]
  have hb := bl_mono h
  have hu : un n e ≤ un m e := by unfold un; omega
  have hl := un_ge n e
  by_cases hue : un n e = un m e
  · have : sg n e false ≤ sg m e false := by
      unfold sg; rw [hue]; split
      · exact Nat.mul_le_mul_right _ h
      · exact rq_mono h _ (by omega)
    rw [hue]; omega
  · have h1 := sg_le hn e false
    have h2 := sg_ge hm e false (by omega)
    omega

theorem rq_scale (n K j : Nat) (hK : 0 < K) : rq (n * 2 ^ j) (K + j) false = rq n K false := by
  have e1 : n * 2 ^ j / 2 ^ (K + j) = n / 2 ^ K := by rw [Nat.pow_add]; exact Nat.mul_div_mul_right _ _ (Nat.pow_pos (by decide))
  have e2 : K + j - 1 = (K - 1) + j := by omega
  have e3 : n * 2 ^ j / 2 ^ (K + j - 1) = n / 2 ^ (K - 1) := by rw [e2, Nat.pow_add]; exact Nat.mul_div_mul_right _ _ (Nat.pow_pos (by decide))
  have e4 : n * 2 ^ j % 2 ^ (K + j - 1) = n % 2 ^ (K - 1) * 2 ^ j := by rw [e2, Nat.pow_add]; exact Nat.mul_mod_mul_right _ _ _
  have e5 : (n % 2 ^ (K - 1) * 2 ^ j ≠ 0) ↔ n % 2 ^ (K - 1) ≠ 0 := by
    have : 0 < 2 ^ j := Nat.pow_pos (by decide)
    simp [Nat.mul_eq_zero]
  unfold rq
  rw [e1, e3, e4]; simp only [e5]

theorem rq_exact (n K : Nat) (hK : 0 < K) : rq (n * 2 ^ K) K false = n := by
  have hp : 2 ^ K = 2 * 2 ^ (K - 1) := by rw [← Nat.pow_succ']; congr 1; omega
  have hpos : 0 < 2 ^ (K - 1) := Nat.pow_pos (by decide)
  have e1 : n * 2 ^ K / 2 ^ K = n := Nat.mul_div_cancel _ (Nat.pow_pos (by decide))
  have e2 : n * 2 ^ K / 2 ^ (K - 1) = 2 * n := by rw [hp, ← Nat.mul_assoc, Nat.mul_div_cancel _ hpos, Nat.mul_comm]
  unfold rq
  rw [e1, e2, if_neg (by omega)]

theorem un_scale {n : Nat} (h : 0 < n) (e : Int) (j : Nat) : un (n * 2 ^ j) (e - j) = un n e := by
  unfold un; rw [bl_mul h]; congr 1; omega

theorem rnd_scale (n : Nat) (e : Int) (j : Nat) : rnd (n * 2 ^ j) (e - j) false = rnd n e false := by
  rcases Nat.eq_zero_or_pos n with rfl | hn
  · simp [rnd]
  have hn' : 0 < n * 2 ^ j := Nat.mul_pos hn (Nat.pow_pos (by decide))
  rw [rnd_eq hn, rnd_eq hn', un_scale hn]
  congr 2
  unfold sg; rw [un_scale hn]
  by_cases h1 : un n e ≤ e
  · rw [if_pos h1]
    by_cases h2 : un n e ≤ e - j
    · rw [if_pos h2, Nat.mul_assoc, ← Nat.pow_add]; congr 2; omega
    · rw [if_neg h2]
      obtain ⟨d, hd⟩ : ∃ d : Nat, e - un n e = d := ⟨(e - un n e).toNat, by omega⟩
      obtain ⟨K, hK⟩ : ∃ K : Nat, un n e - (e - j) = K := ⟨(un n e - (e - j)).toNat, by omega⟩
      rw [hd, hK]
      have : n * 2 ^ j = n * 2 ^ d * 2 ^ K := by rw [Nat.mul_assoc, ← Nat.pow_add]; congr 2; omega
      simp only [Int.toNat_natCast]
      rw [this, rq_exact _ _ (by omega)]
  · rw [if_neg h1, if_neg (by omega)]
    rw [show (un n e - (e - j)).toNat = (un n e - e).toNat + j by omega, rq_scale _ _ _ (by omega)]

theorem rq_trunc (n K j r : Nat) (hr : r < 2 ^ j) (hK : 0 < K) : rq (n * 2 ^ j + r) (K + j) false = rq n K (decide (r ≠ 0)) := by
  have hj : 0 < 2 ^ j := Nat.pow_pos (by decide)
  have dv : ∀ i, (n * 2 ^ j + r) / 2 ^ (i + j) = n / 2 ^ i := fun i => by
    rw [Nat.add_comm i j, Nat.pow_add, ← Nat.div_div_eq_div_mul, Nat.add_comm, Nat.add_mul_div_right _ _ hj, Nat.div_eq_of_lt hr, Nat.zero_add]
  have e2 : K + j - 1 = (K - 1) + j := by omega
  have md : (n * 2 ^ j + r) % 2 ^ (K + j - 1) = n % 2 ^ (K - 1) * 2 ^ j + r := by
    rw [e2, Nat.add_comm (K - 1) j, Nat.pow_add, Nat.mod_mul, Nat.add_comm (n * 2 ^ j), Nat.add_mul_mod_self_right, Nat.mod_eq_of_lt hr, Nat.add_mul_div_right _ _ hj, Nat.div_eq_of_lt hr, Nat.zero_add, Nat.mul_comm]; omega
  have e5 : (n % 2 ^ (K - 1) * 2 ^ j + r ≠ 0) ↔ (n % 2 ^ (K - 1) ≠ 0 ∨ r ≠ 0) := by
    have : n % 2 ^ (K - 1) * 2 ^ j = 0 ↔ n % 2 ^ (K - 1) = 0 := by simp [Nat.mul_eq_zero]
    omega
  unfold rq
  rw [dv, md]
  rw [e2, dv]
  simp only [e5, Bool.false_eq_true, false_or, decide_eq_true_eq, or_assoc]

/-- What is cut off a number of 54 bits and more is told by 'more'. -/
theorem rnd_trunc (n : Nat) (e : Int) (j r : Nat) (hr : r < 2 ^ j) (hn : 54 ≤ bl n) : rnd (n * 2 ^ j + r) (e - j) false = rnd n e (decide (r ≠ 0)) := by
  have h0 : 0 < n := by rcases Nat.eq_zero_or_pos n with rfl | h; (· simp [bl_zero] at hn); exact h
  have h1 : 0 < n * 2 ^ j + r := by have := Nat.mul_pos h0 (Nat.pow_pos (n := j) (by decide : 0 < 2)); omega
  have hu : un (n * 2 ^ j + r) (e - j) = un n e := by unfold un; rw [bl_mul_add h0 _ _ hr]; congr 1; omega
  have hue : e < un n e := by unfold un; omega
  rw [rnd_eq h0, rnd_eq h1, hu]
  congr 2
  unfold sg; rw [hu, if_neg (by omega), if_neg (by omega)]
  rw [show (un n e - (e - j)).toNat = (un n e - e).toNat + j by omega, rq_trunc _ _ _ _ hr (by omega)]

/-- the significand, and the shift (the exponent is sh - 1074), of a finite number's bits without sign -/
def mant (x : Nat) : Nat := if x / 4503599627370496 = 0 then x else 4503599627370496 + x % 4503599627370496
def sh (x : Nat) : Nat := x / 4503599627370496 - 1
/-- what a finite number is worth, in units of 2^-1074 -/
def V (x : Nat) : Nat := mant x * 2 ^ sh x

theorem mant_lt (x : Nat) : mant x < 9007199254740992 := by unfold mant; split <;> omega
theorem mant_ge {x : Nat} (h : 0 < sh x) : 4503599627370496 ≤ mant x := by unfold mant sh at *; split <;> omega
theorem mant_pos {x : Nat} (h : 0 < x) : 0 < mant x := by unfold mant; split <;> omega
theorem mant_sh (x : Nat) : sh x * 4503599627370496 + mant x = x := by unfold mant sh; split <;> omega
theorem V_zero : V 0 = 0 := by decide
theorem V_pos {x : Nat} (h : 0 < x) : 0 < V x := Nat.mul_pos (mant_pos h) (Nat.pow_pos (by decide))

theorem bl_lt_pow {n k : Nat} (h : n < 2 ^ k) : bl n ≤ k := bl_le_of_lt h

theorem bl_mant_le (x : Nat) : bl (mant x) ≤ 53 := bl_le_of_lt (by rw [pow53]; exact mant_lt x)
theorem bl_mant_eq {x : Nat} (h : 0 < sh x) : bl (mant x) = 53 :=
  bl_eq (k := 52) (by rw [pow52]; exact mant_ge h) (by rw [pow53]; exact mant_lt x)

/-- a finite number is the nearest to itself -/
theorem rnd_self {x : Nat} (h : x < INF) : rnd (V x) (-1074) false = x := by
  rcases Nat.eq_zero_or_pos x with rfl | hx
  · decide
  have hm := mant_pos hx
  have e1 : rnd (V x) (-1074) false = rnd (mant x) ((sh x : Int) - 1074) false := by
    rw [← rnd_scale (mant x) ((sh x : Int) - 1074) (sh x)]; unfold V; congr 1; omega
  rw [e1, rnd_eq hm]
  have hs := mant_sh x
  have hb := bl_mant_le x
  have hu : un (mant x) ((sh x : Int) - 1074) = sh x - 1074 := by
    unfold un
    rcases Nat.eq_zero_or_pos (sh x) with h0 | h0
    · omega
    · rw [bl_mant_eq h0]; omega
  unfold sg; rw [hu, if_pos (Int.le_refl _)]
  simp only [Int.sub_self, Int.toNat_zero, Nat.pow_zero, Nat.mul_one]
  rw [show ((sh x : Int) - 1074 + 1074).toNat = sh x by omega, hs]
  omega

/-- 2^1024 in units -/
def pw (k : Nat) : Nat := 2 ^ k
def TOP : Nat := pw 2098
theorem lt_of_pow_lt_pw {a b : Nat} (h : 2 ^ a < pw b) : a < b := (Nat.pow_lt_pow_iff_right (by decide : 1 < 2)).1 h
theorem V_INF : V INF = TOP := by decide +kernel
theorem V_lt_succ (x : Nat) : V x < V (x + 1) := by
  unfold V
  by_cases h : (x + 1) % 4503599627370496 = 0
  · have e : mant (x + 1) = 4503599627370496 := by unfold mant; split <;> omega
    rcases Nat.eq_zero_or_pos (sh (x + 1)) with h0 | h0
    · have e2 : sh x = 0 := by unfold sh at *; omega
      have e3 : mant x = x := by unfold mant; unfold sh at h0; split <;> omega
      have e4 : x + 1 = 4503599627370496 := by unfold sh at h0; omega
      rw [e, e2, h0, e3]; omega
    · have e2 : sh (x + 1) = sh x + 1 := by unfold sh at *; omega
      rw [e, e2, Nat.pow_succ']
      have := mant_lt x
      have hp : 0 < 2 ^ sh x := Nat.pow_pos (by decide)
      have : mant x * 2 ^ sh x < 9007199254740992 * 2 ^ sh x := Nat.mul_lt_mul_of_pos_right this hp
      omega
  · have e2 : sh (x + 1) = sh x := by unfold sh at *; omega
    have e3 : mant (x + 1) = mant x + 1 := by unfold mant; split <;> split <;> omega
    rw [e2, e3]
    exact Nat.mul_lt_mul_of_pos_right (by omega) (Nat.pow_pos (by decide))
theorem V_lt {x y : Nat} (h : x < y) : V x < V y := by
  induction y with
  | zero => omega
  | succ y ih =>
    rcases Nat.lt_or_ge x y with h1 | h1
    · exact Nat.lt_trans (ih h1) (V_lt_succ y)
    · obtain rfl : x = y := by omega
      exact V_lt_succ x
theorem V_le {x y : Nat} (h : x ≤ y) : V x ≤ V y := by
  rcases Nat.eq_or_lt_of_le h with rfl | h
  · exact Nat.le_refl _
  · exact Nat.le_of_lt (V_lt h)
theorem V_le_iff {x y : Nat} : V x ≤ V y ↔ x ≤ y :=
  ⟨fun h => by rcases Nat.lt_or_ge y x with h1 | h1; (· have := V_lt h1; omega); exact h1, V_le⟩
theorem V_lt_iff {x y : Nat} : V x < V y ↔ x < y :=
  ⟨fun h => by rcases Nat.lt_or_ge x y with h1 | h1; (· exact h1); have := V_le h1; omega, V_lt⟩
theorem V_inj {x y : Nat} (h : V x = V y) : x = y := by
  have h1 := (V_le_iff (x := x) (y := y)).1 (by omega); have h2 := (V_le_iff (x := y) (y := x)).1 (by omega); omega

theorem rnd_le_INF (n : Nat) (e : Int) (m : Bool) : rnd n e m ≤ INF := by
  unfold rnd; split
  · exact Nat.zero_le _
  · exact Nat.min_le_left _ _

/-- a number of at most 53 bits and noughts behind is a number, if it is not too great -/
theorem rep {m j : Nat} (hm : m < 9007199254740992) (h : m * 2 ^ j < TOP) : ∃ x, x < INF ∧ V x = m * 2 ^ j := by
  rcases Nat.eq_zero_or_pos m with rfl | h0
  · exact ⟨0, by decide, by simp [V_zero]⟩
  -- the highest bit of m brought to the 53rd, or as far up as j lets
  have hb1 := bl_le h0
  have hb2 := lt_bl m
  have hb3 := bl_pos h0
  have hb4 : bl m ≤ 53 := bl_le_of_lt (by rw [pow53]; exact hm)
  have hd : min j (53 - bl m) + (j - min j (53 - bl m)) = j := by omega
  generalize hD : min j (53 - bl m) = d at *
  have hval : m * 2 ^ j = (m * 2 ^ d) * 2 ^ (j - d) := by rw [Nat.mul_assoc, ← Nat.pow_add, hd]
  have hlt : m * 2 ^ d < 9007199254740992 := by
    have : m * 2 ^ d < 2 ^ (bl m + d) := by rw [Nat.pow_add]; exact Nat.mul_lt_mul_of_pos_right hb2 (Nat.pow_pos (by decide))
    have h3 : 2 ^ (bl m + d) ≤ 2 ^ 53 := Nat.pow_le_pow_right (by decide) (by omega)
    rw [pow53] at h3; omega
  by_cases hj : j - d = 0
  · refine ⟨m * 2 ^ d, by unfold INF; omega, ?_⟩
    rw [hval, hj]
    unfold V
    have e1 : sh (m * 2 ^ d) = 0 := by unfold sh; omega
    have e2 : mant (m * 2 ^ d) = m * 2 ^ d := by have := mant_sh (m * 2 ^ d); omega
    rw [e1, e2]
  · have hge : 4503599627370496 ≤ m * 2 ^ d := by
      have : 2 ^ (bl m - 1 + d) ≤ m * 2 ^ d := by rw [Nat.pow_add]; exact Nat.mul_le_mul_right _ hb1
      rw [show bl m - 1 + d = 52 by omega, pow52] at this; exact this
    generalize m * 2 ^ d = q at *
    generalize j - d = i at *
    have hi : i < 2046 := by
      have : 2 ^ 52 * 2 ^ i ≤ q * 2 ^ i := Nat.mul_le_mul_right _ (by rw [pow52]; exact hge)
      rw [← Nat.pow_add] at this
      have := lt_of_pow_lt_pw (b := 2098) (Nat.lt_of_le_of_lt this (by rw [← hval]; exact h))
      omega
    refine ⟨i * 4503599627370496 + q, by unfold INF; omega, ?_⟩
    rw [hval]; unfold V
    have e1 : sh (i * 4503599627370496 + q) = i := by unfold sh; omega
    have e2 := mant_sh (i * 4503599627370496 + q)
    rw [e1] at e2 ⊢
    rw [show mant (i * 4503599627370496 + q) = q by omega]

theorem rnd_rep {m j : Nat} (hm : m < 9007199254740992) (h : m * 2 ^ j < TOP) : rnd (m * 2 ^ j) (-1074) false < INF ∧ V (rnd (m * 2 ^ j) (-1074) false) = m * 2 ^ j := by
  obtain ⟨x, hx, hv⟩ := rep hm h
  rw [← hv, rnd_self hx]; exact ⟨hx, rfl⟩

def SG : Nat := 9223372036854775808
def NAN : Nat := 9221120237041090560

/-- the kinds of numbers -/
def kd (x : Nat) : Nat :=
  if x / 4503599627370496 % 2048 = 2047 then (if x % 4503599627370496 = 0 then 3 else 4)
  else if x / 4503599627370496 % 2048 = 0 then (if x % 4503599627370496 = 0 then 0 else 1) else 2
def ng (x : Nat) : Bool := decide (9223372036854775808 ≤ x)
def ab (x : Nat) : Nat := x % 9223372036854775808
def pk (neg : Bool) (m : Nat) : Nat := if neg = true then m + 9223372036854775808 else m
def sV (x : Nat) : Int := if ng x = true then -(V (ab x) : Int) else V (ab x)
def rank (x : Nat) : Int := if ng x = true then -(ab x : Int) else ab x

theorem kd_fin {x : Nat} (h : kd x < 3) : ab x < INF := by unfold kd ab INF at *; (repeat' split at h) <;> omega
theorem kd_fin_iff {x : Nat} : kd x < 3 ↔ ab x < INF := by unfold kd ab INF; (repeat' split) <;> omega
theorem kd_zero {x : Nat} : kd x = 0 ↔ ab x = 0 := by unfold kd ab; (repeat' split) <;> omega
theorem kd_inf {x : Nat} : kd x = 3 ↔ ab x = INF := by unfold kd ab INF; (repeat' split) <;> omega
theorem kd_nan {x : Nat} : kd x = 4 ↔ INF < ab x := by unfold kd ab INF; (repeat' split) <;> omega
theorem kd_le (x : Nat) : kd x ≤ 4 := by unfold kd; (repeat' split) <;> omega
theorem ab_pk {neg : Bool} {m : Nat} (h : m ≤ INF) : ab (pk neg m) = m := by unfold ab pk INF at *; split <;> omega
theorem ng_pk {neg : Bool} {m : Nat} (h : m ≤ INF) : ng (pk neg m) = neg := by
  unfold ng pk INF at *; cases neg <;> simp <;> omega
theorem pk_ab {x : Nat} (h : x < 18446744073709551616) : pk (ng x) (ab x) = x := by
  unfold pk ng ab; by_cases h' : 9223372036854775808 ≤ x <;> simp [h'] <;> omega
theorem pk_lt {neg : Bool} {m : Nat} (h : m ≤ INF) : pk neg m < 18446744073709551616 := by unfold pk INF at *; split <;> omega

def addN (a b : Nat) : Nat :=
  if kd a = 4 ∨ kd b = 4 then NAN
  else if kd a = 3 ∧ kd b = 3 ∧ a ≠ b then NAN
  else if kd a = 3 then a
  else if kd b = 3 then b
  else if kd a = 0 ∧ kd b = 0 then pk (ng a && ng b) 0
  else if sV a + sV b = 0 then 0
  else pk (decide (sV a + sV b < 0)) (rnd (sV a + sV b).natAbs (-1074) false)

def negN (x : Nat) : Nat := if kd x = 4 then NAN else pk (!ng x) (ab x)
def absN (x : Nat) : Nat := if kd x = 4 then NAN else ab x
def subN (a b : Nat) : Nat := addN a (negN b)

def mulN (a b : Nat) : Nat :=
  if kd a = 4 ∨ kd b = 4 ∨ (kd a = 3 ∧ kd b = 0) ∨ (kd a = 0 ∧ kd b = 3) then NAN
  else if kd a = 3 ∨ kd b = 3 then pk (ng a != ng b) INF
  else pk (ng a != ng b) (rnd (mant (ab a) * mant (ab b)) ((sh (ab a) : Int) + sh (ab b) - 2148) false)

/-- the signed rounding of a whole number of units 2^e -/
def sr (s : Int) (e : Int) : Int := if s < 0 then -(rnd s.natAbs e false : Int) else rnd s.natAbs e false
theorem sr_mono {s t : Int} (h : s ≤ t) (e : Int) : sr s e ≤ sr t e := by
  unfold sr
  by_cases h1 : s < 0 <;> by_cases h2 : t < 0
  · rw [if_pos h1, if_pos h2]
    have := rnd_mono (show t.natAbs ≤ s.natAbs by omega) e
    omega
  · rw [if_pos h1, if_neg h2]; omega
  · omega
  · rw [if_neg h1, if_neg h2]
    have := rnd_mono (show s.natAbs ≤ t.natAbs by omega) e
    omega
theorem sr_zero (e : Int) : sr 0 e = 0 := by simp [sr, rnd]
theorem rank_pk {neg : Bool} {m : Nat} (h : m ≤ INF) : rank (pk neg m) = if neg = true then -(m : Int) else m := by
  unfold rank; rw [ng_pk h, ab_pk h]

theorem sV_zero {x : Nat} (h : kd x = 0) : sV x = 0 := by
  have := kd_zero.1 h; unfold sV; rw [this, V_zero]; split <;> rfl
theorem sV_eq_zero {x : Nat} (h : sV x = 0) : kd x = 0 := by
  rw [kd_zero]; rcases Nat.eq_zero_or_pos (ab x) with h0 | h0
  · exact h0
  · have := V_pos h0; unfold sV at h; split at h <;> omega
theorem sV_mono {a b : Nat} (h : rank a ≤ rank b) : sV a ≤ sV b := by
  unfold rank at h; unfold sV
  split at h <;> split at h <;> rename_i h1 h2
  · rw [if_pos h1, if_pos h2]; have := V_le (show ab b ≤ ab a by omega); omega
  · rw [if_pos h1, if_neg h2]; omega
  · rw [if_neg h1, if_pos h2]
    have e1 : ab a = 0 := by omega
    have e2 : ab b = 0 := by omega
    rw [e1, e2, V_zero]; omega
  · rw [if_neg h1, if_neg h2]; have := V_le (show ab a ≤ ab b by omega); omega

theorem addN_fin {a b : Nat} (ha : kd a < 3) (hb : kd b < 3) : addN a b < 18446744073709551616 ∧ kd (addN a b) < 4 ∧ rank (addN a b) = sr (sV a + sV b) (-1074) := by
  unfold addN
  rw [if_neg (by omega), if_neg (by omega), if_neg (by omega), if_neg (by omega)]
  by_cases h0 : kd a = 0 ∧ kd b = 0
  · rw [if_pos h0, sV_zero h0.1, sV_zero h0.2]
    refine ⟨pk_lt (by decide), ?_, ?_⟩
    · cases (ng a && ng b) <;> decide
    · rw [rank_pk (by decide)]; split <;> simp [sr_zero]
  · rw [if_neg h0]
    by_cases h1 : sV a + sV b = 0
    · rw [if_pos h1, h1]; exact ⟨by decide, by decide, by rw [sr_zero]; decide⟩
    · rw [if_neg h1]
      have hI := rnd_le_INF (sV a + sV b).natAbs (-1074) false
      refine ⟨pk_lt hI, ?_, ?_⟩
      · have := kd_nan (x := pk (decide (sV a + sV b < 0)) (rnd (sV a + sV b).natAbs (-1074) false))
        rw [ab_pk hI] at this
        have := kd_le (pk (decide (sV a + sV b < 0)) (rnd (sV a + sV b).natAbs (-1074) false))
        omega
      · rw [rank_pk hI]; unfold sr
        by_cases h2 : sV a + sV b < 0 <;> simp [h2]

theorem rank_le_of_kd {x : Nat} (h : kd x < 4) : rank x ≤ INF ∧ -(INF : Int) ≤ rank x := by
  have h1 : ab x ≤ INF := by rcases Nat.lt_or_ge INF (ab x) with h' | h'; (· have := kd_nan.2 h'; omega); exact h'
  unfold rank; unfold INF at *; split <;> omega

theorem addN_lt {a b : Nat} (ha : a < 18446744073709551616) (hb : b < 18446744073709551616) : addN a b < 18446744073709551616 := by
  by_cases h1 : kd a < 3 ∧ kd b < 3
  · exact (addN_fin h1.1 h1.2).1
  · unfold addN
    split
    · decide
    split
    · decide
    split
    · exact ha
    split
    · exact hb
    have := kd_le a; have := kd_le b; omega

/-- what is added to a greater number is no less -/
theorem add_orders {a b c : Nat} (ha : kd a < 4) (hb : kd b < 4) (hab : rank a ≤ rank b) (hal : a < 18446744073709551616) (hbl : b < 18446744073709551616) :
    (addN a c = NAN ∨ addN b c = NAN → 3 ≤ kd c) ∧ (addN a c ≠ NAN → addN b c ≠ NAN → rank (addN a c) ≤ rank (addN b c)) := by
  by_cases hcf : kd c < 3
  · have key : ∀ x, kd x < 4 → x < 18446744073709551616 → kd (addN x c) < 4 := fun x hx hxl => by
      by_cases h3 : kd x = 3
      · unfold addN; rw [if_neg (by omega), if_neg (by omega), if_pos h3]; omega
      · exact (addN_fin (by omega) hcf).2.1
    have kn : kd NAN = 4 := by decide
    refine ⟨fun h => ?_, fun _ _ => ?_⟩
    · rcases h with h | h
      · have := key a ha hal; rw [h] at this; omega
      · have := key b hb hbl; rw [h] at this; omega
    · have ra := rank_le_of_kd (key a ha hal)
      have rb := rank_le_of_kd (key b hb hbl)
      have r1 := rank_le_of_kd ha
      have r2 := rank_le_of_kd hb
      by_cases h3 : kd a = 3
      · have hI := kd_inf.1 h3
        have e : addN a c = a := by unfold addN; rw [if_neg (by omega), if_neg (by omega), if_pos h3]
        by_cases h4 : ng a = true
        · have : rank a = -(INF : Int) := by unfold rank; rw [if_pos h4, hI]
          rw [e]; omega
        · have h5 : rank a = INF := by unfold rank; rw [if_neg h4, hI]
          have h6 : rank b = INF := by omega
          have h7 : kd b = 3 := by
            rw [kd_inf]; unfold rank at h6; unfold INF at *; split at h6 <;> omega
          have e' : addN b c = b := by unfold addN; rw [if_neg (by omega), if_neg (by omega), if_pos h7]
          rw [e, e']; omega
      · by_cases h4 : kd b = 3
        · have hI := kd_inf.1 h4
          have e : addN b c = b := by unfold addN; rw [if_neg (by omega), if_neg (by omega), if_pos h4]
          by_cases h5 : ng b = true
          · have h6 : rank b = -(INF : Int) := by unfold rank; rw [if_pos h5, hI]
            have h7 : rank a = -(INF : Int) := by omega
            have h8 := kd_fin (x := a) (by omega)
            unfold rank at h7; unfold INF at *; split at h7 <;> omega
          · have : rank b = INF := by unfold rank; rw [if_neg h5, hI]
            rw [e]; omega
        · rw [(addN_fin (by omega) hcf).2.2, (addN_fin (by omega) hcf).2.2]
          exact sr_mono (by have := sV_mono hab; omega) _
  · refine ⟨fun _ => by omega, fun h1 h2 => ?_⟩
    have key : ∀ x, kd x < 4 → addN x c ≠ NAN → addN x c = c := fun x hx hn => by
      unfold addN at *
      by_cases k1 : kd x = 4 ∨ kd c = 4
      · rw [if_pos k1] at hn; exact absurd rfl hn
      rw [if_neg k1] at hn ⊢
      by_cases k2 : kd x = 3 ∧ kd c = 3 ∧ x ≠ c
      · rw [if_pos k2] at hn; exact absurd rfl hn
      rw [if_neg k2] at hn ⊢
      have hc3 : kd c = 3 := by have := kd_le c; omega
      by_cases k3 : kd x = 3
      · rw [if_pos k3]; exact Classical.byContradiction fun h => k2 ⟨k3, hc3, h⟩
      · rw [if_neg k3, if_pos hc3]
    rw [key a ha h1, key b hb h2]; exact Int.le_refl _

theorem natAbs_sV (x : Nat) : (sV x).natAbs = V (ab x) := by unfold sV; split <;> omega
theorem sV_neg_iff {x : Nat} (h : kd x ≠ 0) : sV x < 0 ↔ ng x = true := by
  have h0 : 0 < ab x := by rcases Nat.eq_zero_or_pos (ab x) with h0 | h0; (· exact absurd (kd_zero.2 h0) h); exact h0
  have := V_pos h0; unfold sV; split <;> simp_all <;> omega

theorem mant_mul_V (a b : Nat) : rnd (mant a * mant b) ((sh a : Int) + sh b - 2148) false = rnd (V a * V b) (-2148) false := by
  rw [← rnd_scale (mant a * mant b) ((sh a : Int) + sh b - 2148) (sh a + sh b)]
  congr 1
  · unfold V; rw [Nat.pow_add]; simp only [Nat.mul_assoc, Nat.mul_left_comm]
  · omega

theorem rnd_zero (e : Int) (m : Bool) : rnd 0 e m = 0 := by simp [rnd]

theorem mulN_fin {a b : Nat} (ha : kd a < 3) (hb : kd b < 3) : mulN a b = pk (ng a != ng b) (rnd (V (ab a) * V (ab b)) (-2148) false) := by
  unfold mulN; rw [if_neg (by omega), if_neg (by omega), mant_mul_V]

theorem mulN_rank {a b : Nat} (ha : kd a < 3) (hb : kd b < 3) : rank (mulN a b) = sr (sV a * sV b) (-2148) := by
  rw [mulN_fin ha hb, rank_pk (rnd_le_INF _ _ _)]
  have h1 : (sV a * sV b).natAbs = V (ab a) * V (ab b) := by rw [Int.natAbs_mul, natAbs_sV, natAbs_sV]
  unfold sr; rw [h1]
  by_cases za : kd a = 0
  · rw [sV_zero za, kd_zero.1 za, V_zero]; simp [rnd_zero]
  by_cases zb : kd b = 0
  · rw [sV_zero zb, kd_zero.1 zb, V_zero]; simp [rnd_zero]
  have na := sV_neg_iff za
  have nb := sV_neg_iff zb
  have h0 : sV a ≠ 0 := fun h => za (sV_eq_zero h)
  have h0' : sV b ≠ 0 := fun h => zb (sV_eq_zero h)
  by_cases pa : sV a < 0 <;> by_cases pb : sV b < 0
  · rw [na.1 pa, nb.1 pb]
    have := Int.mul_pos_of_neg_of_neg pa pb
    rw [if_neg (by simp), if_neg (by omega)]
  · have e1 : ng b = false := by simpa using (fun h => pb (nb.2 h))
    rw [na.1 pa, e1]
    have := Int.mul_neg_of_neg_of_pos pa (show 0 < sV b by omega)
    rw [if_pos (by decide), if_pos this]
  · have e1 : ng a = false := by simpa using (fun h => pa (na.2 h))
    rw [nb.1 pb, e1]
    have := Int.mul_neg_of_pos_of_neg (show 0 < sV a by omega) pb
    rw [if_pos (by decide), if_pos this]
  · have e1 : ng a = false := by simpa using (fun h => pa (na.2 h))
    have e2 : ng b = false := by simpa using (fun h => pb (nb.2 h))
    rw [e1, e2]
    have := Int.mul_pos (show 0 < sV a by omega) (show 0 < sV b by omega)
    rw [if_neg (by decide), if_neg (by omega)]

theorem mulN_kd {a b : Nat} (h : mulN a b ≠ NAN) : kd (mulN a b) < 4 ∧ mulN a b < 18446744073709551616 := by
  have key : ∀ (n : Bool) (m : Nat), m ≤ INF → kd (pk n m) < 4 ∧ pk n m < 18446744073709551616 := fun n m hm => by
    refine ⟨?_, pk_lt hm⟩
    have := kd_nan (x := pk n m); rw [ab_pk hm] at this; have := kd_le (pk n m); omega
  unfold mulN at *
  by_cases h1 : kd a = 4 ∨ kd b = 4 ∨ (kd a = 3 ∧ kd b = 0) ∨ (kd a = 0 ∧ kd b = 3)
  · rw [if_pos h1] at h; exact absurd rfl h
  · rw [if_neg h1]
    split
    · exact key _ _ (Nat.le_refl _)
    · exact key _ _ (rnd_le_INF _ _ _)

/-- the sign of a number as -1, 0, 1 -/
theorem rank_neg {x : Nat} (h : kd x ≠ 0) : (rank x < 0 ↔ ng x = true) ∧ rank x ≠ 0 := by
  have h0 : ab x ≠ 0 := fun h0 => h (kd_zero.2 h0)
  unfold rank; split <;> simp_all <;> omega

theorem mulN_inf {a b : Nat} (h : kd a = 3 ∨ kd b = 3) (hn : mulN a b ≠ NAN) : kd a ≠ 0 ∧ kd b ≠ 0 ∧ rank (mulN a b) = if (ng a != ng b) = true then -(INF : Int) else INF := by
  unfold mulN at *
  by_cases h1 : kd a = 4 ∨ kd b = 4 ∨ (kd a = 3 ∧ kd b = 0) ∨ (kd a = 0 ∧ kd b = 3)
  · rw [if_pos h1] at hn; exact absurd rfl hn
  · rw [if_neg h1, if_pos h]
    exact ⟨by omega, by omega, rank_pk (Nat.le_refl _)⟩

theorem rank_inf {x : Nat} (h : kd x = 3) : rank x = if ng x = true then -(INF : Int) else INF := by
  unfold rank; rw [kd_inf.1 h]

theorem ng_of_rank_le {a b : Nat} (hb : ng b = true) (hab : rank a ≤ rank b) (h0 : kd b ≠ 0) : ng a = true := by
  have h1 := (rank_neg h0).1.2 hb
  unfold rank at hab h1; rw [if_pos hb] at hab h1
  split at hab
  · assumption
  · omega

theorem mul_orders {a b c : Nat} (ha : kd a < 4) (hb : kd b < 4) (hab : rank a ≤ rank b) (hp : mulN a c ≠ NAN) (hq : mulN b c ≠ NAN) :
    (ng c = true → rank (mulN b c) ≤ rank (mulN a c)) ∧ (ng c = false → rank (mulN a c) ≤ rank (mulN b c)) := by
  have hcn : kd c < 4 := by
    have := kd_le c
    rcases Nat.lt_or_ge (kd c) 4 with h | h
    · exact h
    · exfalso; apply hp; unfold mulN; rw [if_pos (by omega)]
  have kp := rank_le_of_kd (mulN_kd hp).1
  have kq := rank_le_of_kd (mulN_kd hq).1
  by_cases hc : kd c = 3
  · -- c is endless: a and b are no zeros
    have h1 := mulN_inf (.inr hc) hp
    have h2 := mulN_inf (.inr hc) hq
    rw [h1.2.2, h2.2.2]
    by_cases na : ng a = true <;> by_cases nb : ng b = true <;> by_cases nc : ng c = true <;> simp [na, nb, nc] <;>
      first | (unfold INF; omega) | (exact absurd (ng_of_rank_le nb hab h2.1) na)
  · by_cases ha3 : kd a = 3
    · have h1 := mulN_inf (.inl ha3) hp
      by_cases na : ng a = true
      · rw [h1.2.2, na]
        by_cases nc : ng c = true <;> simp [nc] <;> omega
      · have hr := rank_inf ha3
        rw [if_neg na] at hr
        have hrb := rank_le_of_kd hb
        have hb3 : kd b = 3 := by
          rw [kd_inf]; have h6 : rank b = INF := by omega
          unfold rank at h6; unfold INF at *; split at h6 <;> omega
        have nb : ng b = false := by
          have h6 : rank b = INF := by omega
          unfold rank at h6; unfold INF at h6; split at h6 <;> simp_all; omega
        have h2 := mulN_inf (.inl hb3) hq
        rw [h1.2.2, h2.2.2, nb]; simp [na]
    · by_cases hb3 : kd b = 3
      · have h2 := mulN_inf (.inl hb3) hq
        by_cases nb : ng b = true
        · have hr := rank_inf hb3
          rw [if_pos nb] at hr
          have := rank_le_of_kd ha
          have h6 : rank a = -(INF : Int) := by omega
          have := kd_fin (x := a) (by omega)
          exfalso; unfold rank at h6; unfold INF at *; split at h6 <;> omega
        · rw [h2.2.2]
          by_cases nc : ng c = true <;> simp [nb, nc] <;> omega
      · rw [mulN_rank (by omega) (by omega), mulN_rank (by omega) (by omega)]
        have hs := sV_mono hab
        constructor
        · intro nc
          apply sr_mono
          by_cases hz : kd c = 0
          · rw [sV_zero hz]; simp
          · have := (sV_neg_iff hz).2 nc
            exact Int.mul_le_mul_of_nonpos_right hs (by omega)
        · intro nc
          apply sr_mono
          by_cases hz : kd c = 0
          · rw [sV_zero hz]; simp
          · have : ¬ sV c < 0 := fun h => by have := (sV_neg_iff hz).1 h; simp [nc] at this
            exact Int.mul_le_mul_of_nonneg_right hs (by omega)

theorem ab_of_lt {x : Nat} (h : x < 9223372036854775808) : ab x = x := by unfold ab; omega
theorem ng_of_lt {x : Nat} (h : x < 9223372036854775808) : ng x = false := by unfold ng; simp; omega
theorem sV_of_lt {x : Nat} (h : x < 9223372036854775808) : sV x = V x := by unfold sV; rw [ng_of_lt h, ab_of_lt h]; simp
theorem kd_of_lt {x : Nat} (h : x < INF) : kd x < 3 := by rw [kd_fin_iff, ab_of_lt (by unfold INF at h; omega)]; exact h
theorem negN_of_lt {x : Nat} (h : x < INF) : negN x = x + 9223372036854775808 := by
  have h1 : x < 9223372036854775808 := by unfold INF at h; omega
  have := kd_of_lt h
  unfold negN; rw [if_neg (by omega), ng_of_lt h1, ab_of_lt h1]; rfl
theorem neg_facts {x : Nat} (h : x < INF) : ab (x + 9223372036854775808) = x ∧ ng (x + 9223372036854775808) = true ∧ sV (x + 9223372036854775808) = -(V x : Int) ∧ kd (x + 9223372036854775808) < 3 := by
  have h1 : x < 9223372036854775808 := by unfold INF at h; omega
  have e1 : ab (x + 9223372036854775808) = x := by unfold ab; omega
  have e2 : ng (x + 9223372036854775808) = true := by unfold ng; simp
  refine ⟨e1, e2, ?_, ?_⟩
  · unfold sV; rw [e1, e2]; simp
  · rw [kd_fin_iff, e1]; exact h

theorem addN_pos {a b : Nat} (ha : a < INF) (hb : b < INF) : addN a b = rnd (V a + V b) (-1074) false := by
  have ha1 : a < 9223372036854775808 := by unfold INF at ha; omega
  have hb1 : b < 9223372036854775808 := by unfold INF at hb; omega
  have ka := kd_of_lt ha
  have kb := kd_of_lt hb
  unfold addN
  rw [if_neg (by omega), if_neg (by omega), if_neg (by omega), if_neg (by omega), sV_of_lt ha1, sV_of_lt hb1, ng_of_lt ha1, ng_of_lt hb1]
  by_cases h : kd a = 0 ∧ kd b = 0
  · have e1 := kd_zero.1 h.1
    have e2 := kd_zero.1 h.2
    rw [ab_of_lt ha1] at e1; rw [ab_of_lt hb1] at e2
    rw [if_pos h, e1, e2, V_zero, rnd_zero]; rfl
  · rw [if_neg h]
    by_cases h1 : (V a : Int) + V b = 0
    · rw [if_pos h1, show V a + V b = 0 by omega, rnd_zero]
    · rw [if_neg h1, decide_eq_false (by omega), show ((V a : Int) + V b).natAbs = V a + V b by omega]; simp [pk]

theorem subN_pos {a b : Nat} (hab : a ≤ b) (hb : b < INF) : subN b a = rnd (V b - V a) (-1074) false := by
  have ha : a < INF := by omega
  have hb1 : b < 9223372036854775808 := by unfold INF at hb; omega
  have kb := kd_of_lt hb
  obtain ⟨n1, n2, n3, n4⟩ := neg_facts ha
  unfold subN; rw [negN_of_lt ha]
  unfold addN
  rw [if_neg (by omega), if_neg (by omega), if_neg (by omega), if_neg (by omega), sV_of_lt hb1, n3, ng_of_lt hb1, n2]
  have hv := V_le hab
  by_cases h : kd b = 0 ∧ kd (a + 9223372036854775808) = 0
  · have e1 := kd_zero.1 h.1
    rw [ab_of_lt hb1] at e1
    rw [if_pos h, e1, V_zero, Nat.zero_sub, rnd_zero]; rfl
  · rw [if_neg h]
    by_cases h1 : (V b : Int) + -(V a : Int) = 0
    · rw [if_pos h1, show V b - V a = 0 by omega, rnd_zero]
    · rw [if_neg h1, decide_eq_false (by omega), show ((V b : Int) + -(V a : Int)).natAbs = V b - V a by omega]; simp [pk]

theorem sh_mono {a b : Nat} (h : a ≤ b) : sh a ≤ sh b := by unfold sh; omega

theorem V_sub_form {a b : Nat} (hab : a ≤ b) : ∃ q, V b - V a = q * 2 ^ sh a := by
  have hs := sh_mono hab
  refine ⟨mant b * 2 ^ (sh b - sh a) - mant a, ?_⟩
  rw [Nat.sub_mul]; unfold V
  rw [Nat.mul_assoc, ← Nat.pow_add]; congr 3; omega

theorem V_lt_INF {x : Nat} (h : x < INF) : V x < TOP := by rw [← V_INF]; exact V_lt h

/-- the half of Sterbenz: b less a, where b is at most twice a, is a number -/
theorem sub_exact {a b : Nat} (hab : a ≤ b) (hb : b < INF) (h2 : V b ≤ 2 * V a) : rnd (V b - V a) (-1074) false < INF ∧ V (rnd (V b - V a) (-1074) false) = V b - V a := by
  obtain ⟨q, hq⟩ := V_sub_form hab
  have hv := V_lt_INF hb
  rw [hq]
  apply rnd_rep
  · have h3 : q * 2 ^ sh a ≤ mant a * 2 ^ sh a := by rw [← hq]; show _ ≤ V a; omega
    have := Nat.le_of_mul_le_mul_right h3 (Nat.pow_pos (by decide))
    have := mant_lt a; omega
  · rw [← hq]; omega

theorem double_le {a b : Nat} (_hab : a ≤ b) (hb : b < INF) (h : b ≤ rnd (V a + V a) (-1074) false) : V b ≤ 2 * V a := by
  have hv := V_lt_INF hb
  have e : V a + V a = mant a * 2 ^ (sh a + 1) := by unfold V; rw [Nat.pow_succ, ← Nat.mul_assoc]; omega
  rcases Nat.lt_or_ge (V a + V a) TOP with h1 | h1
  · rw [e] at h1 h
    have h2 := rnd_rep (mant_lt a) h1
    have := V_le h
    rw [h2.2] at this; omega
  · omega

/-- ArithExact's plain law -/
theorem exact_law {a b : Nat} (hab : a ≤ b) (hb : b < INF) (h : b ≤ addN a a) :
    addN a (subN b a) = b ∧ subN b (subN b a) = a ∧ subN b a ≤ a := by
  have ha : a < INF := by omega
  rw [addN_pos ha ha] at h
  have h2 := double_le hab hb h
  obtain ⟨h3, h4⟩ := sub_exact hab hb h2
  have hv := V_le hab
  rw [subN_pos hab hb]
  have hle : rnd (V b - V a) (-1074) false ≤ a := by rw [← V_le_iff, h4]; omega
  generalize rnd (V b - V a) (-1074) false = d at *
  refine ⟨?_, ?_, hle⟩
  · rw [addN_pos ha h3, h4, show V a + (V b - V a) = V b by omega, rnd_self hb]
  · rw [subN_pos (by omega) hb, h4, show V b - (V b - V a) = V a by omega, rnd_self ha]
end Go.Proofs.Ytaplggheadahhaa.Fl
