/- Naturals as rows of limbs in memory; the walks of nat.right, nat.cut. A row of limbs that is being written; the walk of nat.shift. The walks of nat.Shl, root.natural. The walks of bits.Add32, nat.Add. The walks of bits.Sub32, nat.Cmp. The walk of nat.Sub. The walks of nat.Trim, float.Round. -/
import Derived.Test.YtaplggheadahhaaA3
import Derived.Test.YtaplggheadahhaaB0
import Derived.Deep.RegionHeld3
import Derived.Test.YtaplggheadahhaaA4
import Derived.Deep.OwnRows
import Derived.KernelRfl
import Derived.Deep.QuietTactic
import Derived.BigQuiet
import Derived.Test.YtaplggheadahhaaC5
import Derived.Test.YtaplggheadahhaaNA
import Derived.Laws.CopyRow
import Derived.Deep.WholeRow
import Derived.StillTailTactics
namespace Go.Proofs.Ytaplggheadahhaa
open Go.RowKit
set_option linter.unusedVariables false
set_option linter.unusedSimpArgs false

/-- a number's i-th limb, and how many it has -/
def Fl.lb (N i : Nat) : Nat := N / 2 ^ (32 * i) % 4294967296
def Fl.rl (N : Nat) : Nat := (Fl.bl N + 31) / 32
theorem Fl.lb_lt (N i : Nat) : Fl.lb N i < 4294967296 := Nat.mod_lt _ (by decide)
theorem Fl.rl_le {N n : Nat} : N < 2 ^ (32 * n) ↔ Fl.rl N ≤ n := by
  unfold Fl.rl
  constructor
  · intro h; have := Fl.bl_le_of_lt h; omega
  · intro h; exact Nat.lt_of_lt_of_le (Fl.lt_bl N) (Nat.pow_le_pow_right (by decide) (by omega))
theorem Fl.lt_rl (N : Nat) : N < 2 ^ (32 * Fl.rl N) := Fl.rl_le.2 (Nat.le_refl _)
theorem Fl.p32 (n : Nat) : 2 ^ (32 * (n + 1)) = 4294967296 * 2 ^ (32 * n) := by rw [show 32 * (n + 1) = 32 + 32 * n by omega, Nat.pow_add]
theorem Fl.lb_zero {N n : Nat} (h : N < 2 ^ (32 * (n + 1))) (h0 : Fl.lb N n = 0) : N < 2 ^ (32 * n) := by
  unfold Fl.lb at h0
  rw [Fl.p32, Nat.mul_comm] at h
  have hp : 0 < 2 ^ (32 * n) := Nat.pow_pos (by decide)
  have := Nat.div_lt_of_lt_mul h
  rw [Nat.mod_eq_of_lt this] at h0
  rcases Nat.lt_or_ge N (2 ^ (32 * n)) with c | c
  · exact c
  · have := Nat.div_pos c hp; rw [h0] at this; exact absurd this (by decide)
theorem Fl.lb_top {N n : Nat} (h : N < 2 ^ (32 * (n + 1))) (h0 : Fl.lb N n ≠ 0) : Fl.rl N = n + 1 := by
  have h1 := Fl.rl_le.1 h
  rcases Nat.lt_or_ge n (Fl.rl N) with c | c
  · omega
  · have h2 := Fl.rl_le.2 c
    exact absurd (by unfold Fl.lb; rw [Nat.div_eq_of_lt h2]) h0
theorem Fl.lb_over {N i : Nat} (h : Fl.rl N ≤ i) : Fl.lb N i = 0 := by
  unfold Fl.lb; rw [Nat.div_eq_of_lt (Fl.rl_le.2 h)]
theorem Fl.lb_rl {N n : Nat} (h : Fl.rl N = n + 1) : Fl.lb N n = N / 2 ^ (32 * n) := by
  have := Fl.lt_rl N
  rw [h, Fl.p32, Nat.mul_comm] at this
  unfold Fl.lb
  exact Nat.mod_eq_of_lt (Nat.div_lt_of_lt_mul this)

/-- the slice's block holds the limbs of N -/
def Num (w : World) (A : Option Addr) (c N L : Nat) : Prop :=
  L ≤ c ∧ N < 2 ^ (32 * L) ∧ ((A = none ∧ L = 0 ∧ c = 0) ∨ ∃ g, A = some ⟨g, 0, none⟩ ∧ g < w.heap.size ∧ ∀ i, i < L → w.cell? ⟨g, i, none⟩ = some (.int .u32 ((Fl.lb N i : Nat) : Int)))
theorem Num.below {w w' : World} {A : Option Addr} {c N L : Nat} (h : Num w A c N L) (hb : Below w.heap.size w w') : Num w' A c N L := by
  obtain ⟨h1, h2, h3⟩ := h
  refine ⟨h1, h2, ?_⟩
  rcases h3 with h3 | ⟨g, h3, h4, h5⟩
  · exact .inl h3
  · exact .inr ⟨g, h3, Nat.lt_of_lt_of_le h4 hb.size, fun i hi => (hb.cell h4).trans (h5 i hi)⟩

set_option maxHeartbeats 2000000 in
set_option maxRecDepth 100000 in
theorem right_core (g c N L : Nat) (w : World) (hc : L ≤ c) (hN : N < 2 ^ (32 * L)) (hg : ∀ i, i < L → w.cell? ⟨g, i, none⟩ = some (.int .u32 ((Fl.lb N i : Nat) : Int))) (hL : L ≤ 1000000000) :
    Calls Try.prog 147 #[.slice (some ⟨g, 0, none⟩) L c] w fun e w' => e = .returned (.int .i64 ((Fl.rl N : Nat) : Int)) ∧ w = w' := by
  have G := Lib.hid hg; clear hg
  have HN := Lib.hid (Fl.rl_le.1 hN); clear hN
  go_enter Try.func147, Try.ntmps147
  go_wp2_with fail
  go_loopw [3] (fun v wr => ∃ n : Nat, v = .int .i64 (n : Int) ∧ n ≤ L ∧ Fl.rl N ≤ n ∧ wr = w) (fun v _ => (intOf v).toNat)
  case atStart => exact ⟨L, rfl, by omega, HN.out, rfl⟩
  case round =>
    obtain ⟨n, rfl, h1, h2, rfl⟩ := hrel
    clear HN
    rcases Nat.eq_zero_or_pos n with h0 | h0
    · have b1 : decide ((0 : Int) < (n : Int)) = false := decide_eq_false (by omega)
      have e : Hid (Fl.rl N = n) := Lib.hid (by omega)
      have b2 : ¬ 0 < n := by omega
      clear h0 h2
      go_wp2
      go_ret
      exact ⟨by rw [e.out]; rfl, rfl⟩
    · obtain ⟨m, hm⟩ : ∃ m : Nat, (n : Int) - 1 = (m : Int) := ⟨n - 1, by omega⟩
      have b1 : decide ((0 : Int) < (n : Int)) = true := decide_eq_true (by omega)
      have hcell := G.out m (by omega)
      have hm1 : IntKind.i64.wrap ((n : Int) - 1) = (m : Int) := by rw [IntWalk.i64_in _ (by omega), hm]
      have hn : n = m + 1 := by omega
      have hml : m < L := by omega
      have hmc : m < c := by omega
      have hmi : (m : Int) < (L : Int) := by omega
      by_cases hz : Fl.lb N m = 0
      · have h3 : Hid (Fl.rl N ≤ m) := Lib.hid (Fl.rl_le.1 (Fl.lb_zero (Fl.rl_le.2 (by omega)) hz))
        have b3 : (((Fl.lb N m : Nat) : Int) == 0) = true := by rw [hz]; rfl
        have hmn : m < n := by omega
        clear G hn hz h2
        generalize Fl.lb N m = x at *
        go_wp2
        exact ⟨⟨m, rfl, by omega, h3.out, by trivial⟩, by simp [intOf]; omega⟩
      · have h3 : Hid (Fl.rl N = n) := Lib.hid (by rw [hn]; exact Fl.lb_top (Fl.rl_le.2 (by omega)) hz)
        have b3 : (((Fl.lb N m : Nat) : Int) == 0) = false := by simp; omega
        clear G hn hz h2
        generalize Fl.lb N m = x at *
        go_wp2
        go_ret
        exact ⟨by rw [h3.out]; rfl, rfl⟩
set_option maxHeartbeats 1000000 in
theorem right_nil (w : World) : Calls Try.prog 147 #[.slice none 0 0] w fun e w' => e = .returned (.int .i64 0) ∧ w = w' := by
  go_enter Try.func147, Try.ntmps147
  go_wp2_with fail
  go_loopw [3] (fun v wr => v = .int .i64 0 ∧ wr = w) (fun v _ => (intOf v).toNat)
  case atStart => exact ⟨rfl, rfl⟩
  case round =>
    obtain ⟨rfl, rfl⟩ := hrel
    go_wp2
    go_ret
    exact ⟨rfl, rfl⟩
theorem Fl.rl_zero_of {N : Nat} (h : N < 2 ^ (32 * 0)) : Fl.rl N = 0 := Nat.le_zero.1 (Fl.rl_le.1 h)
theorem right_any {w : World} {A : Option Addr} {c N L : Nat} (h : Num w A c N L) (hL : L ≤ 1000000000) :
    Calls Try.prog 147 #[.slice A L c] w fun e w' => e = .returned (.int .i64 ((Fl.rl N : Nat) : Int)) ∧ w = w' := by
  obtain ⟨h1, h2, ⟨rfl, rfl, rfl⟩ | ⟨g, rfl, h4, h5⟩⟩ := h
  · rw [Fl.rl_zero_of h2]; exact right_nil w
  · exact right_core g c N L w h1 h2 h5 hL

set_option maxHeartbeats 1000000 in
theorem cut_core (g c L r : Nat) (w : World) (hr : r ≤ L) (hc : L ≤ c) (k : Calls Try.prog 147 #[.slice (some ⟨g, 0, none⟩) L c] w fun e w' => e = .returned (.int .i64 (r : Int)) ∧ w = w') :
    Calls Try.prog 132 #[.slice (some ⟨g, 0, none⟩) L c] w fun e w' => e = .returned (.slice (some ⟨g, 0, none⟩) r c) ∧ w = w' := by
  have hr1 : (r : Int) ≤ (L : Int) := by omega
  have hr2 : (r : Int) ≤ (c : Int) := by omega
  have hr3 : r ≤ c := by omega
  go_enter Try.func132, Try.ntmps132
  go_wp2_with fail
  refine k.mono ?_
  rintro e w' ⟨rfl, rfl⟩
  go_wp2
  go_ret
  exact ⟨rfl, rfl⟩

set_option maxHeartbeats 1000000 in
theorem cut_nil (w : World) : Calls Try.prog 132 #[.slice none 0 0] w fun e w' => e = .returned (.slice none 0 0) ∧ w = w' := by
  go_enter Try.func132, Try.ntmps132
  go_wp2_with fail
  refine (right_nil w).mono ?_
  rintro e w' ⟨rfl, rfl⟩
  go_wp2
  go_ret
  exact ⟨rfl, rfl⟩
theorem Num.cut {w : World} {A : Option Addr} {c N L : Nat} (h : Num w A c N L) : Num w A c N (Fl.rl N) := by
  obtain ⟨h1, h2, h3⟩ := h
  have hr := Fl.rl_le.1 h2
  refine ⟨by omega, Fl.lt_rl N, ?_⟩
  rcases h3 with ⟨rfl, rfl, h3⟩ | ⟨g, h3, h4, h5⟩
  · exact .inl ⟨rfl, by omega, h3⟩
  · exact .inr ⟨g, h3, h4, fun i hi => h5 i (by omega)⟩
theorem cut_any {w : World} {A : Option Addr} {c N L : Nat} (h : Num w A c N L) (hL : L ≤ 1000000000) :
    Calls Try.prog 132 #[.slice A L c] w fun e w' => e = .returned (.slice A (Fl.rl N) c) ∧ w = w' := by
  have hr := right_any h hL
  obtain ⟨h1, h2, ⟨rfl, rfl, rfl⟩ | ⟨g, rfl, h4, h5⟩⟩ := h
  · rw [Fl.rl_zero_of h2]; exact cut_nil w
  · exact cut_core g c L _ w (Fl.rl_le.1 h2) h1 hr

set_option maxHeartbeats 2000000 in
set_option maxRecDepth 100000 in
theorem over_core (g n : Nat) (A : Nat → Option Addr) (L c r : Nat → Nat) (w : World) (hn : n ≤ 1000) (hcell : ∀ i, i < n → w.cell? ⟨g, i, none⟩ = some (.slice (A i) (L i) (c i)))
    (hr : ∀ i, i < n → Calls Try.prog 147 #[.slice (A i) (L i) (c i)] w fun e w' => e = .returned (.int .i64 ((r i : Nat) : Int)) ∧ w = w') (h256 : ∀ i, i < n → r i ≤ 256) :
    Calls Try.prog 131 #[.slice (some ⟨g, 0, none⟩) n n] w fun e w' => e = .returned (.bool false) ∧ w = w' := by
  have G := Lib.hid hcell; clear hcell
  have R := Lib.hid hr; clear hr
  have S := Lib.hid h256; clear h256
  go_enter Try.func131, Try.ntmps131
  go_wp2_with fail
  go_loopw [7] (fun v wr => ∃ i : Nat, v = .int .i64 (i : Int) ∧ i ≤ n ∧ wr = w) (fun v _ => n - (intOf v).toNat)
  case atStart => exact ⟨0, rfl, by omega, rfl⟩
  case round =>
    obtain ⟨i, rfl, h1, rfl⟩ := hrel
    by_cases hi : i < n
    · have b1 : decide ((i : Int) < (n : Int)) = true := decide_eq_true (by omega)
      have hc := G.out i hi
      have hr := R.out i hi
      have hs := S.out i hi
      clear G R S
      generalize A i = a at *
      generalize L i = l at *
      generalize c i = cc at *
      generalize r i = rr at *
      have b2 : decide ((256 : Int) < (rr : Int)) = false := decide_eq_false (by omega)
      have b3 : ¬ (256 : Int) < (rr : Int) := by omega
      go_wp2_with fail
      refine hr.mono ?_
      rintro e w' ⟨rfl, rfl⟩
      go_wp2
      exact ⟨⟨i + 1, by go_num, by omega, by trivial⟩, by simp [intOf]; omega⟩
    · have b1 : decide ((i : Int) < (n : Int)) = false := decide_eq_false (by omega)
      go_wp2
      go_ret
      exact ⟨rfl, rfl⟩

set_option maxHeartbeats 1000000 in
set_option maxRecDepth 100000 in
theorem fits_core (A : Option Addr) (c L r : Nat) (w : World) (hr : r ≤ 256) (k : Calls Try.prog 132 #[.slice A L c] w fun e w' => e = .returned (.slice A r c) ∧ w = w') :
    Calls Try.prog 134 #[.slice A L c] w fun e w' => e = .returned (.tuple #[.slice A r c, .int .i64 0]) ∧ w = w' := by
  have b2 : decide ((256 : Int) < (r : Int)) = false := decide_eq_false (by omega)
  have b3 : ¬ (256 : Int) < (r : Int) := by omega
  go_enter Try.func134, Try.ntmps134
  go_wp2_with fail
  refine k.mono ?_
  rintro e w' ⟨rfl, rfl⟩
  go_wp2
  go_ret2
  exact ⟨rfl, rfl⟩
theorem fits_any {w : World} {A : Option Addr} {c N L : Nat} (h : Num w A c N L) (hL : L ≤ 1000000000) (hr : Fl.rl N ≤ 256) :
    Calls Try.prog 134 #[.slice A L c] w fun e w' => e = .returned (.tuple #[.slice A (Fl.rl N) c, .int .i64 0]) ∧ w = w' := fits_core A c L _ w hr (cut_any h hL)

theorem len32_any (x : Nat) (hx : x < 4294967296) (w : World) : Calls Try.prog 150 #[.int .u32 (x : Int)] w fun e w' => e = .returned (.int .i64 ((Fl.bl x : Nat) : Int)) ∧ w = w' :=
  (Try.bits_Len32 (x : Int) w (by omega) (by omega)).mono fun e w' ⟨h1, h2⟩ => ⟨by rw [h1, Int.toNat_natCast, bitLen_eq _ (by omega)], h2.symm⟩
set_option maxHeartbeats 1000000 in
set_option maxRecDepth 100000 in
theorem len_core (g c L m x b B : Nat) (w : World) (hm : m + 1 ≤ 100000000) (hc : m < c) (hB : 32 * (m : Int) + (b : Int) = (B : Int)) (hb : b ≤ 32) (hcell : w.cell? ⟨g, m, none⟩ = some (.int .u32 (x : Int)))
    (k : Calls Try.prog 132 #[.slice (some ⟨g, 0, none⟩) L c] w fun e w' => e = .returned (.slice (some ⟨g, 0, none⟩) (m + 1) c) ∧ w = w')
    (l : Calls Try.prog 150 #[.int .u32 (x : Int)] w fun e w' => e = .returned (.int .i64 (b : Int)) ∧ w = w') :
    Calls Try.prog 148 #[.slice (some ⟨g, 0, none⟩) L c] w fun e w' => e = .returned (.int .i64 (B : Int)) ∧ w = w' := by
  go_enter Try.func148, Try.ntmps148
  go_wp2_with fail
  refine k.mono ?_
  rintro e w' ⟨rfl, rfl⟩
  go_wp2_with fail
  refine l.mono ?_
  rintro e w' ⟨rfl, rfl⟩
  go_wp2
  go_ret
  exact ⟨rfl, rfl⟩

set_option maxHeartbeats 1000000 in
theorem len_zero_core (A : Option Addr) (c L : Nat) (w : World) (k : Calls Try.prog 132 #[.slice A L c] w fun e w' => e = .returned (.slice A 0 c) ∧ w = w') :
    Calls Try.prog 148 #[.slice A L c] w fun e w' => e = .returned (.int .i64 0) ∧ w = w' := by
  go_enter Try.func148, Try.ntmps148
  go_wp2_with fail
  refine k.mono ?_
  rintro e w' ⟨rfl, rfl⟩
  go_wp2
  go_ret
  exact ⟨rfl, rfl⟩
theorem Fl.bl_limbs {N m : Nat} (h : Fl.rl N = m + 1) : 32 * m + Fl.bl (Fl.lb N m) = Fl.bl N := by
  rw [Fl.lb_rl h]
  have hp : 0 < 2 ^ (32 * m) := Nat.pow_pos (by decide)
  have e := Nat.div_add_mod N (2 ^ (32 * m))
  have hm := Nat.mod_lt N hp
  have h0 : 0 < N / 2 ^ (32 * m) := by
    apply Nat.div_pos _ hp
    rcases Nat.lt_or_ge N (2 ^ (32 * m)) with c | c
    · have := Fl.rl_le.1 c; omega
    · exact c
  have := Fl.bl_mul_add h0 (32 * m) _ hm
  rw [Nat.mul_comm] at e
  rw [e] at this
  omega
/-- nat.Len -/
theorem nlen_any {w : World} {A : Option Addr} {c N L : Nat} (h : Num w A c N L) (hL : L ≤ 10000000) :
    Calls Try.prog 148 #[.slice A L c] w fun e w' => e = .returned (.int .i64 ((Fl.bl N : Nat) : Int)) ∧ w = w' := by
  have hc := cut_any h (by omega)
  obtain ⟨h1, h2, h3⟩ := h
  have hr := Fl.rl_le.1 h2
  rcases Nat.eq_zero_or_pos (Fl.rl N) with e | e
  · rw [e] at hc
    have : Fl.bl N = 0 := by unfold Fl.rl at e; omega
    rw [this]
    exact len_zero_core A c L w hc
  · obtain ⟨m, hm⟩ : ∃ m, Fl.rl N = m + 1 := ⟨Fl.rl N - 1, by omega⟩
    rcases h3 with ⟨rfl, rfl, _⟩ | ⟨g, rfl, h4, h5⟩
    · omega
    · rw [hm] at hc
      have := Fl.bl_limbs hm
      exact len_core g c L m _ _ _ w (by omega) (by omega) (by omega) (Fl.bl_le_of_lt (Fl.lb_lt N m)) (h5 m (by omega)) hc (len32_any _ (Fl.lb_lt N m) w)
end Go.Proofs.Ytaplggheadahhaa

namespace Go.Proofs.Ytaplggheadahhaa
open Go.RowKit
set_option linter.unusedVariables false
set_option linter.unusedSimpArgs false

/-- block g holds the T limbs f -/
def Arr (w : World) (g T : Nat) (f : Nat → Nat) : Prop := ∃ cs : Array Value, Blk w g 98 cs ∧ cs.size = T ∧ ∀ i, i < T → cs[i]? = some (.int .u32 ((f i : Nat) : Int))
section
variable {w w' : World} {g T : Nat} {f : Nat → Nat}
theorem Arr.lt (h : Arr w g T f) : g < w.heap.size := by obtain ⟨cs, h1, _, _⟩ := h; exact h1.lt
theorem Arr.cell (h : Arr w g T f) {i : Nat} (hi : i < T) : w.cell? ⟨g, i, none⟩ = some (.int .u32 ((f i : Nat) : Int)) := by obtain ⟨cs, h1, _, h3⟩ := h; exact h1.cell i (h3 i hi)
theorem Arr.frozen (h : Arr w g T f) (i : Nat) : w.frozen? ⟨g, i, none⟩ = false := by obtain ⟨cs, h1, _, h3⟩ := h; exact h1.frozen i
theorem Arr.congr {f' : Nat → Nat} (h : Arr w g T f) (e : ∀ i, i < T → f i = f' i) : Arr w g T f' := by obtain ⟨cs, h1, h2, h3⟩ := h; exact ⟨cs, h1, h2, fun i hi => by rw [← e i hi]; exact h3 i hi⟩
theorem Arr.set (h : Arr w g T f) {j v : Nat} (hj : j < T) : Arr (w.setCell ⟨g, j, none⟩ (.int .u32 (v : Int))) g T (fun i => if i = j then v else f i) := by
  obtain ⟨cs, h1, h2, h3⟩ := h
  refine ⟨_, h1.set_ j _, by simpa using h2, fun i hi => ?_⟩
  by_cases c : i = j
  · subst c; simp [h2, hj]
  · simp only [c, if_false]
    rw [Array.getElem?_setIfInBounds_ne (by omega)]
    exact h3 i hi
theorem Arr.below {B : Nat} (h : Arr w g T f) (hb : Below B w w') (hg : g < B) : Arr w' g T f := by obtain ⟨cs, h1, h2, h3⟩ := h; exact ⟨cs, h1.below hb hg, h2, h3⟩
theorem Arr.belowS (h : Arr w g T f) (hb : Below w.heap.size w w') : Arr w' g T f := h.below hb h.lt
theorem Arr.num {N L c : Nat} (h : Arr w g T f) (e : ∀ i, i < T → f i = Fl.lb N i) (hc : L ≤ c) (hT : L ≤ T) (hN : N < 2 ^ (32 * L)) : Num w (some ⟨g, 0, none⟩) c N L :=
  ⟨hc, hN, .inr ⟨g, rfl, h.lt, fun i hi => by rw [h.cell (by omega), e i (by omega)]⟩⟩
end

/-- what is carried when a number is shifted up, limb by limb -/
def Fl.sc (N s i : Nat) : Nat := N % 2 ^ (32 * i) * 2 ^ s / 2 ^ (32 * i)
theorem Fl.sc_zero (N s : Nat) : Fl.sc N s 0 = 0 := by unfold Fl.sc; simp [Nat.mod_one]
theorem Fl.sc_lt (N s i : Nat) : Fl.sc N s i < 2 ^ s := by
  unfold Fl.sc
  have hp : 0 < 2 ^ (32 * i) := Nat.pow_pos (by decide)
  apply Nat.div_lt_of_lt_mul
  exact Nat.mul_lt_mul_of_pos_right (Nat.mod_lt _ hp) (Nat.pow_pos (by decide))
theorem Fl.sc_d (N s i : Nat) : N % 2 ^ (32 * (i + 1)) * 2 ^ s / 2 ^ (32 * i) = Fl.sc N s i + Fl.lb N i * 2 ^ s := by
  unfold Fl.sc Fl.lb
  have hp : 0 < 2 ^ (32 * i) := Nat.pow_pos (by decide)
  rw [Fl.p32, Nat.mul_comm 4294967296, Nat.mod_mul, Nat.add_mul, Nat.mul_assoc, Nat.add_mul_div_left _ _ hp]
theorem Fl.sc_succ (N s i : Nat) : Fl.sc N s (i + 1) = (Fl.sc N s i + Fl.lb N i * 2 ^ s) / 4294967296 := by
  have e := (Fl.p32 i).trans (Nat.mul_comm _ _)
  rw [← Fl.sc_d, Nat.div_div_eq_div_mul, ← e]
  rfl
theorem Fl.sc_lb (N s i : Nat) : Fl.lb (N * 2 ^ s) i = (Fl.sc N s i + Fl.lb N i * 2 ^ s) % 4294967296 := by
  rw [← Fl.sc_d]
  have hp : 0 < 2 ^ (32 * i) := Nat.pow_pos (by decide)
  have e := Nat.div_add_mod N (2 ^ (32 * (i + 1)))
  have e2 : N * 2 ^ s = N % 2 ^ (32 * (i + 1)) * 2 ^ s + 2 ^ (32 * i) * (4294967296 * (N / 2 ^ (32 * (i + 1)) * 2 ^ s)) := by
    conv => lhs; rw [← e]
    rw [Fl.p32, Nat.add_mul, Nat.add_comm]
    congr 1
    rw [Nat.mul_comm 4294967296 (2 ^ (32 * i)), Nat.mul_assoc, Nat.mul_assoc]
  unfold Fl.lb
  rw [e2, Nat.add_mul_div_left _ _ hp, Nat.add_mul_mod_self_left]

theorem or_words' {a b k : Nat} (ha : a < 18446744073709551616) (hk : k ≤ 64) (h1 : a % 2 ^ k = 0) (h2 : b < 2 ^ k) : Go.bits .or .u64 (b : Int) (a : Int) = ((b + a : Nat) : Int) := by
  have hb : b < 18446744073709551616 := Nat.lt_of_lt_of_le h2 (by rw [← pow64]; exact Nat.pow_le_pow_right (by decide) (by omega))
  have e := Nat.two_pow_add_eq_or_of_lt h2 (a / 2 ^ k)
  have e2 : 2 ^ k * (a / 2 ^ k) = a := by have := Nat.div_add_mod a (2 ^ k); omega
  rw [e2] at e
  rw [Nat.add_comm, e, Nat.or_comm]; exact u64_or_nat b a hb ha
theorem wrap_u32 (n : Nat) : IntKind.u32.wrap (n : Int) = ((n % 4294967296 : Nat) : Int) := by simp [IntKind.wrap, IntKind.bits, IntKind.signed]

def shF (N s k i : Nat) : Nat → Nat := fun j => if k ≤ j ∧ j < k + i then Fl.lb (N * 2 ^ s) (j - k) else 0
set_option maxHeartbeats 4000000 in
set_option maxRecDepth 100000 in
theorem shift_any (g T k Lo co N s : Nat) (A : Option Addr) (ca La : Nat) (w : World) (hT : k + Lo = T) (hco : Lo ≤ co) (hs : s < 32) (hLo : Lo ≤ 1000000) (hLa : La ≤ 1000000) (ha : Num w A ca N La) (hg : ∀ a, A = some a → a.block < g) (hA : Arr w g T (fun _ => 0)) :
    Calls Try.prog 149 #[.slice (some ⟨g, k, none⟩) Lo co, .slice A La ca, .int .i64 (s : Int)] w fun e w' => e = .returned (.tuple #[]) ∧ Arr w' g T (shF N s k Lo) ∧ Below g w w' := by
  have HN := Lib.hid ha; clear ha
  have HG := Lib.hid hg; clear hg
  go_enter Try.func149, Try.ntmps149
  go_wp2_with fail
  go_loopw [10, 6] (fun v v2 wr => ∃ i : Nat, v = .int .i64 (i : Int) ∧ v2 = .int .u64 ((Fl.sc N s i : Nat) : Int) ∧ i ≤ Lo ∧ Arr wr g T (shF N s k i) ∧ Below g w wr) (fun v _ _ => Lo - (intOf v).toNat)
  case atStart => exact ⟨0, rfl, by rw [Fl.sc_zero]; rfl, by omega, hA.congr fun i _ => by unfold shF; rw [if_neg (by omega)], Below.refl _ _⟩
  case round =>
    clear hA
    obtain ⟨i, rfl, rfl, h1, hA, L⟩ := hrel
    by_cases hi : i < Lo
    · have b1 : decide ((i : Int) < (Lo : Int)) = true := decide_eq_true (by omega)
      have hic : i < co := by omega
      have hcl := hA.cell (i := k + i) (by omega)
      have hfr := hA.frozen (k + i)
      have n1 := Fl.sc_succ N s i
      have n2 := Fl.sc_lb N s i
      have n3 := Fl.sc_lt N s i
      have A2 := hA.set (j := k + i) (v := Fl.lb (N * 2 ^ s) i) (by omega)
      have L2 := Below.setCell L (p := ⟨g, k + i, none⟩) (Nat.le_refl _) (.int .u32 ((Fl.lb (N * 2 ^ s) i : Nat) : Int))
      have A3 : Hid (Arr (wr.setCell ⟨g, k + i, none⟩ (.int .u32 ((Fl.lb (N * 2 ^ s) i : Nat) : Int))) g T (shF N s k (i + 1))) := Lib.hid (A2.congr fun j hj => by
        unfold shF
        by_cases c : j = k + i
        · rw [if_pos c, if_pos (by omega)]; congr 1; omega
        · rw [if_neg c]
          by_cases d : k ≤ j ∧ j < k + i
          · rw [if_pos d, if_pos (by omega)]
          · rw [if_neg d, if_neg (by omega)])
      have L3 := Lib.hid L2
      clear A2 L2 hA
      by_cases hj : i < La
      · have b2 : decide ((i : Int) < (La : Int)) = true := decide_eq_true (by omega)
        have b3 : (i : Int) < (La : Int) := by omega
        obtain ⟨ga, rfl, hac⟩ : ∃ ga, A = some ⟨ga, 0, none⟩ ∧ wr.cell? ⟨ga, i, none⟩ = some (.int .u32 ((Fl.lb N i : Nat) : Int)) := by
          rcases HN.out.2.2 with ⟨_, h, _⟩ | ⟨ga, h, _, h2⟩
          · omega
          · exact ⟨ga, h, (L.cell (p := ⟨ga, i, none⟩) (HG.out ⟨ga, 0, none⟩ h)).trans (h2 i hj)⟩
        have hca : i < ca := by have := HN.out.1; omega
        have n4 := Fl.lb_lt N i
        have n5 : Fl.lb N i * 2 ^ s < 18446744073709551616 := by
          have h1 : Fl.lb N i * 2 ^ s < 4294967296 * 2 ^ s := Nat.mul_lt_mul_of_pos_right n4 (Nat.pow_pos (by decide))
          have h2 : 2 ^ s ≤ 2 ^ 31 := Nat.pow_le_pow_right (by decide) (by omega)
          have h3 : 4294967296 * 2 ^ s ≤ 4294967296 * 2 ^ 31 := Nat.mul_le_mul_left _ h2
          have h4 : 4294967296 * 2 ^ 31 < 18446744073709551616 := by decide
          omega
        have e1 := wrap_shl (Fl.lb N i) s
        rw [Nat.mod_eq_of_lt n5] at e1
        have e2 := or_words' n5 (by omega) (Nat.mul_mod_left _ _) n3
        have e3 := wrap_u32 (Fl.sc N s i + Fl.lb N i * 2 ^ s)
        rw [← n2] at e3
        have e4 : ((Fl.sc N s i + Fl.lb N i * 2 ^ s : Nat) : Int) / 4294967296 = ((Fl.sc N s (i + 1) : Nat) : Int) := by rw [n1]; omega
        have e5 : ((Fl.sc N s i + Fl.lb N i * 2 ^ s : Nat) : Int) % 4294967296 = ((Fl.lb (N * 2 ^ s) i : Nat) : Int) := by rw [n2]; omega
        have e6 : IntKind.u64.wrap ((Fl.lb N i : Nat) : Int) = ((Fl.lb N i : Nat) : Int) := by rw [wrap_u64_nat, Nat.mod_eq_of_lt (by omega)]
        have C1 : Hid (Fl.sc N s (i + 1) = Fl.sc N s (i + 1)) := Lib.hid rfl
        clear HN HG n1 n2 n3 n4 n5
        generalize hX : Fl.sc N s i + Fl.lb N i * 2 ^ s = X at *
        clear hX
        generalize Fl.sc N s i = C at *
        generalize hC' : Fl.sc N s (i + 1) = C' at *
        have HC := Lib.hid hC'; clear hC'
        generalize Fl.lb N i * 2 ^ s = y at *
        generalize Fl.lb N i = x at *
        generalize Fl.lb (N * 2 ^ s) i = z at *
        go_wp2
        exact ⟨⟨i + 1, by go_num, by rw [HC.out], by omega, A3.out, L3.out⟩, by simp [intOf]; omega⟩
      · have b2 : decide ((i : Int) < (La : Int)) = false := decide_eq_false (by omega)
        have b3 : ¬ (i : Int) < (La : Int) := by omega
        have hz : Fl.lb N i = 0 := Fl.lb_over (Nat.le_trans (Fl.rl_le.1 HN.out.2.1) (by omega))
        rw [hz, Nat.zero_mul, Nat.add_zero] at n1 n2
        have e3 := wrap_u32 (Fl.sc N s i)
        rw [← n2] at e3
        have e4 : ((Fl.sc N s i : Nat) : Int) / 4294967296 = ((Fl.sc N s (i + 1) : Nat) : Int) := by rw [n1]; omega
        have e5 : ((Fl.sc N s i : Nat) : Int) % 4294967296 = ((Fl.lb (N * 2 ^ s) i : Nat) : Int) := by rw [n2]; omega
        clear HN HG n1 n2 n3 hz
        generalize Fl.sc N s i = C at *
        generalize hC' : Fl.sc N s (i + 1) = C' at *
        have HC := Lib.hid hC'; clear hC'
        generalize Fl.lb (N * 2 ^ s) i = z at *
        go_wp2
        exact ⟨⟨i + 1, by go_num, by rw [HC.out], by omega, A3.out, L3.out⟩, by simp [intOf]; omega⟩
    · have b1 : decide ((i : Int) < (Lo : Int)) = false := decide_eq_false (by omega)
      have : i = Lo := by omega
      subst this
      go_wp2
      go_end0
      exact ⟨rfl, hA, L⟩
end Go.Proofs.Ytaplggheadahhaa

namespace Go.Proofs.Ytaplggheadahhaa
open Go.RowKit
set_option linter.unusedVariables false
set_option linter.unusedSimpArgs false

theorem cell98 : (Try.prog.info? 98).map (fun i => (i.zero, i.size, i.bytes)) = some (some (.int .u32 0), 1, 4) := by kernel_rfl
theorem mk78 (m : Nat) (hm : m ≤ 1000000) (W : World) : (Instr.makeSlice 78 (.int .i64 (m : Int)) (.int .i64 (m : Int))).run Try.prog W = .ok (.slice (some ⟨W.heap.size, 0, none⟩) m m) (W.alloc (.cells (madeCells #[.int .u32 0] m) 98)) :=
  run_make_row' 78 98 (.int .u32 0) 4 Try.underlying78 cell98 rfl .i64 .i64 m (by omega) (by omega) W
theorem Arr.made (W : World) (m : Nat) : Arr (W.alloc (.cells (madeCells #[.int .u32 0] m) 98)) W.heap.size m (fun _ => 0) :=
  ⟨_, Blk.new W 98 _, size_madeCells _ _, fun i hi => by
    have h := congrArg (fun l : List Value => l[i]?) (toList_madeCells_one (.int .u32 0) m)
    simp only [Array.getElem?_toList] at h
    rw [h, List.getElem?_replicate, if_pos hi]; rfl⟩
theorem Fl.lb_up (M k i : Nat) : Fl.lb (M * 2 ^ (32 * k)) (k + i) = Fl.lb M i := by
  unfold Fl.lb
  rw [show 32 * (k + i) = 32 * i + 32 * k by omega, Nat.pow_add, Nat.mul_div_mul_right _ _ (Nat.pow_pos (by decide))]
theorem Fl.lb_up0 (M k j : Nat) (h : j < k) : Fl.lb (M * 2 ^ (32 * k)) j = 0 := by
  unfold Fl.lb
  obtain ⟨d, rfl⟩ : ∃ d, k = j + 1 + d := ⟨k - j - 1, by omega⟩
  have : M * 2 ^ (32 * (j + 1 + d)) = M * 2 ^ (32 * d) * 4294967296 * 2 ^ (32 * j) := by
    rw [Nat.mul_assoc, Nat.mul_assoc, ← Fl.p32, ← Nat.pow_add]; congr 2; omega
  rw [this, Nat.mul_div_cancel _ (Nat.pow_pos (by decide)), Nat.mul_mod_left]
theorem shF_lb {N s k n T j : Nat} (hn : n = 32 * k + s) (hj : j < T) : shF N s k (T - k) j = Fl.lb (N * 2 ^ n) j := by
  have e : N * 2 ^ n = N * 2 ^ s * 2 ^ (32 * k) := by rw [Nat.mul_assoc, ← Nat.pow_add]; congr 2; omega
  unfold shF
  rw [e]
  by_cases c : k ≤ j
  · rw [if_pos ⟨c, by omega⟩]
    have := Fl.lb_up (N * 2 ^ s) k (j - k)
    rw [show k + (j - k) = j by omega] at this
    exact this.symm
  · rw [if_neg (by omega), Fl.lb_up0 _ _ _ (by omega)]
theorem shl_fit {N n k s r T : Nat} (hn : n = 32 * k + s) (hs : s < 32) (hT : k + (r + 1) = T) (h : N < 2 ^ (32 * r)) : N * 2 ^ n < 2 ^ (32 * T) := by
  have h1 : N * 2 ^ n < 2 ^ (32 * r) * 2 ^ n := Nat.mul_lt_mul_of_pos_right h (Nat.pow_pos (by decide))
  rw [← Nat.pow_add] at h1
  exact Nat.lt_of_lt_of_le h1 (Nat.pow_le_pow_right (by decide) (by omega))
set_option maxHeartbeats 4000000 in
set_option maxRecDepth 100000 in
theorem nshl_core (A : Option Addr) (c N L n k s r B T M R : Nat) (w : World) (hM : Hid (N * 2 ^ n = M)) (hR : Hid (Fl.rl M = R)) (hA : Num w A c N L) (hL : L ≤ 1000) (hn : n ≤ 8192) (hr : r = Fl.rl N) (hr0 : 0 < r) (hr2 : r ≤ 256) (hB : Fl.bl N = B) (hBn : B + n ≤ 8192)
    (hk : Int.tdiv (n : Int) 32 = (k : Int)) (hs : Int.tmod (n : Int) 32 = (s : Int)) (hs2 : s < 32) (hns : Hid (n = 32 * k + s)) (hk2 : k ≤ 256) (hT : k + (r + 1) = T) :
    Calls Try.prog 130 #[.slice A L c, .int .i64 (n : Int)] w fun e w' => ∃ g, e = .returned (.tuple #[.slice (some ⟨g, 0, none⟩) R T, .int .i64 0]) ∧ Num w' (some ⟨g, 0, none⟩) T M R ∧ w.heap.size ≤ g ∧ Below w.heap.size w w' := by
  have b1 : decide ((n : Int) < 0) = false := decide_eq_false (by omega)
  have b1' : ¬ (n : Int) < 0 := by omega
  have b2 : decide ((8192 : Int) < (n : Int)) = false := decide_eq_false (by omega)
  have b2' : ¬ (8192 : Int) < (n : Int) := by omega
  have b3 : decide ((8192 : Int) < (B : Int) + (n : Int)) = false := decide_eq_false (by omega)
  have b3' : ¬ (8192 : Int) < (B : Int) + (n : Int) := by omega
  have b4 : ((r : Int) == 0) = false := by simp; omega
  have b4' : ¬ r = 0 := by omega
  have HA := Lib.hid hA
  have h0 := hA.below ((Below.refl w.heap.size w).alloc (Nat.le_refl _) (.cells #[.slice A L c] 78))
  have Q1 := over_core w.heap.size 1 (fun _ => A) (fun _ => L) (fun _ => c) (fun _ => r) (w.alloc (.cells #[.slice A L c] 78)) (by decide) (fun i hi => by
      obtain rfl : i = 0 := by omega
      exact (Blk.new w 78 #[.slice A L c]).cell 0 rfl) (fun i hi => by rw [hr]; exact right_any h0 (by omega)) (fun i _ => hr2)
  have Q2 := right_any h0 (by omega)
  have Q3 := nlen_any h0 (by omega)
  have Q4 := cut_any h0 (by omega)
  rw [← hr] at Q2 Q4
  rw [hB] at Q3
  have HR := Lib.hid hr; clear hr hB hA
  have hmk := mk78 T (by omega)
  have hT2 : (k : Int) + (r : Int) + 1 = (T : Int) := by omega
  go_enter Try.func130, Try.ntmps130
  go_wp2_with fail
  refine Q1.mono ?_
  rintro e w' ⟨rfl, rfl⟩
  go_wp2_with fail
  refine Q2.mono ?_
  rintro e w' ⟨rfl, rfl⟩
  go_wp2_with fail
  refine Q3.mono ?_
  rintro e w' ⟨rfl, rfl⟩
  go_wp2_with fail
  refine Q4.mono ?_
  rintro e w' ⟨rfl, rfl⟩
  have hAr := Arr.made (w.alloc (.cells #[.slice A L c] 78)) T
  have L0 := ((Below.refl w.heap.size w).alloc (Nat.le_refl _) (.cells #[.slice A L c] 78)).alloc (by simp) (.cells (madeCells #[.int .u32 0] T) 98)
  have hNu : Num ((w.alloc (.cells #[.slice A L c] 78)).alloc (.cells (madeCells #[.int .u32 0] T) 98)) A c N r := by
    rw [HR.out]; exact (HA.out.cut).below (L0.mono (Nat.le_refl _))
  have hbk : ∀ a, A = some a → a.block < w.heap.size + 1 := fun a ha => by
    rcases HA.out.2.2 with ⟨h, _⟩ | ⟨g, h, h2, _⟩
    · rw [h] at ha; cases ha
    · rw [h] at ha; cases ha; exact Nat.lt_succ_of_lt h2
  have Q5 := shift_any (w.heap.size + 1) T k (T - k) (T - k) N s A c r _ (by omega) (Nat.le_refl _) hs2 (by omega) (by omega) hNu hbk (by simpa using hAr)
  clear hAr hNu hbk
  go_wp2_with fail
  refine Q5.mono ?_
  rintro e w2 ⟨rfl, hAr, hb⟩
  have L2 := L0.trans (hb.mono (by omega))
  have hfit := shl_fit hns.out hs2 hT (Fl.rl_le.2 (Nat.le_of_eq HR.out.symm))
  have hNu : Num w2 (some ⟨w.heap.size + 1, 0, none⟩) T (N * 2 ^ n) T := hAr.num (fun i hi => shF_lb hns.out hi) (Nat.le_refl _) (Nat.le_refl _) hfit
  have Q6 := cut_any hNu (by omega)
  have hNu2 := Lib.hid hNu.cut
  have L3 := Lib.hid L2
  clear hNu hfit hAr hb L0 L2 Q1 Q2 Q3 Q4 Q5 h0
  rw [hM.out, hR.out] at Q6
  replace hNu2 := Lib.hid (show Num w2 (some ⟨w.heap.size + 1, 0, none⟩) T M R by have := hNu2.out; rwa [hM.out, hR.out] at this)
  go_wp2_with fail
  refine Q6.mono ?_
  rintro e w' ⟨rfl, rfl⟩
  go_wp2
  go_ret2
  exact ⟨w.heap.size + 1, rfl, hNu2.out, by omega, L3.out⟩

set_option maxHeartbeats 4000000 in
set_option maxRecDepth 100000 in
theorem nshl_zero (A : Option Addr) (c L n : Nat) (w : World) (hA : Num w A c 0 L) (hL : L ≤ 1000) :
    Calls Try.prog 130 #[.slice A L c, .int .i64 (n : Int)] w fun e w' => e = .returned (.tuple #[.slice none 0 0, .int .i64 0]) ∧ Below w.heap.size w w' := by
  have b1 : decide ((n : Int) < 0) = false := decide_eq_false (by omega)
  have b1' : ¬ (n : Int) < 0 := by omega
  have h0 := hA.below ((Below.refl w.heap.size w).alloc (Nat.le_refl _) (.cells #[.slice A L c] 78))
  have L0 := (Below.refl w.heap.size w).alloc (Nat.le_refl _) (.cells #[.slice A L c] 78)
  have Q1 := over_core w.heap.size 1 (fun _ => A) (fun _ => L) (fun _ => c) (fun _ => 0) (w.alloc (.cells #[.slice A L c] 78)) (by decide) (fun i hi => by
      obtain rfl : i = 0 := by omega
      exact (Blk.new w 78 #[.slice A L c]).cell 0 rfl) (fun i hi => right_any h0 (by omega)) (fun i _ => by omega)
  have Q2 : Calls Try.prog 147 #[.slice A L c] (w.alloc (.cells #[.slice A L c] 78)) fun e w' => e = .returned (.int .i64 0) ∧ w.alloc (.cells #[.slice A L c] 78) = w' := right_any h0 (by omega)
  clear hA h0
  go_enter Try.func130, Try.ntmps130
  go_wp2_with fail
  refine Q1.mono ?_
  rintro e w' ⟨rfl, rfl⟩
  go_wp2_with fail
  refine Q2.mono ?_
  rintro e w' ⟨rfl, rfl⟩
  go_wp2
  go_ret2
  exact ⟨rfl, L0⟩

theorem Num.nil (w : World) : Num w none 0 0 0 := ⟨Nat.le_refl _, by decide, .inl ⟨rfl, rfl, rfl⟩⟩
theorem Fl.rl_nil : Fl.rl 0 = 0 := rfl
/-- nat.Shl -/
theorem nshl_any {A : Option Addr} {c N L n : Nat} {w : World} (hA : Num w A c N L) (hL : L ≤ 1000) (hB : Fl.bl N + n ≤ 8192) :
    Calls Try.prog 130 #[.slice A L c, .int .i64 (n : Int)] w fun e w' => ∃ A' c', e = .returned (.tuple #[.slice A' (Fl.rl (N * 2 ^ n)) c', .int .i64 0]) ∧ Num w' A' c' (N * 2 ^ n) (Fl.rl (N * 2 ^ n)) ∧ (∀ a, A' = some a → w.heap.size ≤ a.block) ∧ Below w.heap.size w w' := by
  rcases Nat.eq_zero_or_pos N with rfl | hN
  · refine (nshl_zero A c L n w hA hL).mono ?_
    rintro e w' ⟨rfl, hb⟩
    refine ⟨none, 0, ?_, ?_, (fun a h => by cases h), hb⟩
    · rw [Nat.zero_mul]; rfl
    · rw [Nat.zero_mul]; exact Num.nil w'
  · have hr0 : 0 < Fl.rl N := by
      rcases Nat.eq_zero_or_pos (Fl.rl N) with h | h
      · have := Fl.rl_le.2 (Nat.le_of_eq h); simp at this; omega
      · exact h
    have hr2 : Fl.rl N ≤ 256 := by unfold Fl.rl; omega
    refine (nshl_core A c N L n (n / 32) (n % 32) (Fl.rl N) (Fl.bl N) (n / 32 + (Fl.rl N + 1)) (N * 2 ^ n) (Fl.rl (N * 2 ^ n)) w (Lib.hid rfl) (Lib.hid rfl) hA hL (by omega) rfl hr0 hr2 rfl hB ?_ ?_ (Nat.mod_lt _ (by decide)) (Lib.hid (by omega)) (by omega) rfl).mono ?_
    · rw [Int.tdiv_eq_ediv_of_nonneg (by omega)]; omega
    · rw [Int.tmod_eq_emod_of_nonneg (by omega)]; omega
    · rintro e w' ⟨g, rfl, h1, h2, h3⟩
      exact ⟨_, _, rfl, h1, fun a h => by cases h; exact h2, h3⟩

set_option maxHeartbeats 2000000 in
set_option maxRecDepth 100000 in
theorem natural_core (hi lo n q p l0 l1 l2 l3 R : Nat) (P : World → Option Addr → Nat → Prop) (w : World)
    (e0 : IntKind.u32.wrap (lo : Int) = (l0 : Int)) (e0' : (lo : Int) % 4294967296 = (l0 : Int)) (eq : (lo : Int) / 4294967296 = (q : Int)) (e1 : IntKind.u32.wrap (q : Int) = (l1 : Int)) (e1' : (q : Int) % 4294967296 = (l1 : Int))
    (e2 : IntKind.u32.wrap (hi : Int) = (l2 : Int)) (e2' : (hi : Int) % 4294967296 = (l2 : Int)) (ep : (hi : Int) / 4294967296 = (p : Int)) (e3 : IntKind.u32.wrap (p : Int) = (l3 : Int)) (e3' : (p : Int) % 4294967296 = (l3 : Int))
    (s : Calls Try.prog 130 #[.slice (some ⟨w.heap.size + 1, 0, none⟩) 4 4, .int .i64 (n : Int)] ((w.alloc (.cells #[.int .u64 (hi : Int), .int .u64 (lo : Int)] 51)).alloc (.cells #[.int .u32 (l0 : Int), .int .u32 (l1 : Int), .int .u32 (l2 : Int), .int .u32 (l3 : Int)] 98)) fun e w' => ∃ A' c', e = .returned (.tuple #[.slice A' R c', .int .i64 0]) ∧ P w' A' c') :
    Calls Try.prog 95 #[.agg #[.int .u64 (hi : Int), .int .u64 (lo : Int)], .int .i64 (n : Int)] w fun e w' => ∃ A' c', e = .returned (.slice A' R c') ∧ P w' A' c' := by
  go_enter Try.func95, Try.ntmps95
  go_wp2_with fail
  refine s.mono ?_
  rintro e w' ⟨A', c', rfl, h⟩
  go_wp2
  go_ret
  exact ⟨A', c', rfl, h⟩
/-- root.natural -/
theorem natural_any (N n : Nat) (hN : N < 340282366920938463463374607431768211456) (hB : Fl.bl N + n ≤ 8192) (w : World) :
    Calls Try.prog 95 #[.agg #[.int .u64 ((Fl.hi N : Nat) : Int), .int .u64 ((Fl.lo N : Nat) : Int)], .int .i64 (n : Int)] w fun e w' => ∃ A' c', e = .returned (.slice A' (Fl.rl (N * 2 ^ n)) c') ∧ Num w' A' c' (N * 2 ^ n) (Fl.rl (N * 2 ^ n)) ∧ (∀ a, A' = some a → w.heap.size ≤ a.block) ∧ Below w.heap.size w w' := by
  have hb0 : Blk ((w.alloc (.cells #[.int .u64 ((Fl.hi N : Nat) : Int), .int .u64 ((Fl.lo N : Nat) : Int)] 51)).alloc (.cells #[.int .u32 ((Fl.lb N 0 : Nat) : Int), .int .u32 ((Fl.lb N 1 : Nat) : Int), .int .u32 ((Fl.lb N 2 : Nat) : Int), .int .u32 ((Fl.lb N 3 : Nat) : Int)] 98)) (w.heap.size + 1) 98 #[.int .u32 ((Fl.lb N 0 : Nat) : Int), .int .u32 ((Fl.lb N 1 : Nat) : Int), .int .u32 ((Fl.lb N 2 : Nat) : Int), .int .u32 ((Fl.lb N 3 : Nat) : Int)] := Blk.new' _ _ _ (by simp)
  have L0 := ((Below.refl w.heap.size w).alloc (Nat.le_refl _) (.cells #[.int .u64 ((Fl.hi N : Nat) : Int), .int .u64 ((Fl.lo N : Nat) : Int)] 51)).alloc (by simp) (.cells #[.int .u32 ((Fl.lb N 0 : Nat) : Int), .int .u32 ((Fl.lb N 1 : Nat) : Int), .int .u32 ((Fl.lb N 2 : Nat) : Int), .int .u32 ((Fl.lb N 3 : Nat) : Int)] 98)
  have hNu : Num ((w.alloc (.cells #[.int .u64 ((Fl.hi N : Nat) : Int), .int .u64 ((Fl.lo N : Nat) : Int)] 51)).alloc (.cells #[.int .u32 ((Fl.lb N 0 : Nat) : Int), .int .u32 ((Fl.lb N 1 : Nat) : Int), .int .u32 ((Fl.lb N 2 : Nat) : Int), .int .u32 ((Fl.lb N 3 : Nat) : Int)] 98)) (some ⟨w.heap.size + 1, 0, none⟩) 4 N 4 :=
    ⟨Nat.le_refl _, hN, .inr ⟨_, rfl, hb0.lt, fun i hi => by
      rcases (show i = 0 ∨ i = 1 ∨ i = 2 ∨ i = 3 by omega) with rfl | rfl | rfl | rfl
      · exact hb0.cell 0 rfl
      · exact hb0.cell 1 rfl
      · exact hb0.cell 2 rfl
      · exact hb0.cell 3 rfl⟩⟩
  have s := (nshl_any hNu (by decide) hB).mono (fun e w' ⟨A', c', h1, h2, h3, h4⟩ => (⟨A', c', h1, h2, (fun a h => by have := h3 a h; simp at this; omega), L0.trans (h4.mono (by simp; omega))⟩ : ∃ A' c', e = Ending.returned (.tuple #[.slice A' (Fl.rl (N * 2 ^ n)) c', .int .i64 0]) ∧ Num w' A' c' (N * 2 ^ n) (Fl.rl (N * 2 ^ n)) ∧ (∀ a, A' = some a → w.heap.size ≤ a.block) ∧ Below w.heap.size w w'))
  have hlo := Fl.lo_lt N
  have hhi := Fl.hi_lt N
  have i0 : Fl.lb N 0 = Fl.lo N % 4294967296 := by unfold Fl.lb Fl.lo; simp
  have i1 : Fl.lb N 1 = Fl.lo N / 4294967296 % 4294967296 := by unfold Fl.lb Fl.lo; simp; omega
  have i2 : Fl.lb N 2 = Fl.hi N % 4294967296 := by unfold Fl.lb Fl.hi; simp
  have i3 : Fl.lb N 3 = Fl.hi N / 4294967296 % 4294967296 := by unfold Fl.lb Fl.hi; simp; omega
  exact natural_core (Fl.hi N) (Fl.lo N) n (Fl.lo N / 4294967296) (Fl.hi N / 4294967296) (Fl.lb N 0) (Fl.lb N 1) (Fl.lb N 2) (Fl.lb N 3) (Fl.rl (N * 2 ^ n)) (fun w' A' c' => Num w' A' c' (N * 2 ^ n) (Fl.rl (N * 2 ^ n)) ∧ (∀ a, A' = some a → w.heap.size ≤ a.block) ∧ Below w.heap.size w w') w (by rw [wrap_u32, i0]) (by rw [i0]; omega) (by omega) (by rw [wrap_u32, i1]) (by rw [i1]; omega) (by rw [wrap_u32, i2]) (by rw [i2]; omega) (by omega) (by rw [wrap_u32, i3]) (by rw [i3]; omega) s
end Go.Proofs.Ytaplggheadahhaa

namespace Go.Proofs.Ytaplggheadahhaa
open Go.RowKit
set_option linter.unusedVariables false
set_option linter.unusedSimpArgs false

set_option maxHeartbeats 1000000 in
theorem add32_core (x y c s z d q : Nat) (h1 : IntKind.u64.wrap (x : Int) = (x : Int)) (h2 : IntKind.u64.wrap (y : Int) = (y : Int)) (h3 : IntKind.u64.wrap (c : Int) = (c : Int)) (h4 : IntKind.u64.wrap ((x : Int) + (y : Int)) = (s : Int)) (h5 : IntKind.u64.wrap ((s : Int) + (c : Int)) = (q : Int))
    (h6 : IntKind.u32.wrap (q : Int) = (z : Int)) (h6' : (q : Int) % 4294967296 = (z : Int)) (h7 : (q : Int) / 4294967296 = (d : Int)) (h8 : IntKind.u32.wrap (d : Int) = (d : Int)) (h8' : (d : Int) % 4294967296 = (d : Int)) (w : World) :
    Calls Try.prog 133 #[.int .u32 (x : Int), .int .u32 (y : Int), .int .u32 (c : Int)] w fun e w' => e = .returned (.tuple #[.int .u32 (z : Int), .int .u32 (d : Int)]) ∧ w = w' := by
  go_enter Try.func133, Try.ntmps133
  go_wp2
  go_ret2
  exact ⟨rfl, rfl⟩
theorem add32_any (x y c : Nat) (hx : x < 4294967296) (hy : y < 4294967296) (hc : c < 4294967296) (w : World) :
    Calls Try.prog 133 #[.int .u32 (x : Int), .int .u32 (y : Int), .int .u32 (c : Int)] w fun e w' => e = .returned (.tuple #[.int .u32 (((x + y + c) % 4294967296 : Nat) : Int), .int .u32 (((x + y + c) / 4294967296 : Nat) : Int)]) ∧ w = w' := by
  have e : ∀ n : Nat, n < 18446744073709551616 → IntKind.u64.wrap (n : Int) = (n : Int) := fun n h => by rw [wrap_u64_nat, Nat.mod_eq_of_lt h]
  refine add32_core x y c (x + y) _ _ (x + y + c) (e _ (by omega)) (e _ (by omega)) (e _ (by omega)) ?_ ?_ (wrap_u32 _) (by omega) (by omega) ?_ (by omega) w
  · rw [← Int.natCast_add, e _ (by omega)]
  · rw [← Int.natCast_add, e _ (by omega)]
  · rw [wrap_u32]; omega

/-- what is carried in a sum -/
def Fl.ac (N M i : Nat) : Nat := (N % 2 ^ (32 * i) + M % 2 ^ (32 * i)) / 2 ^ (32 * i)
theorem Fl.ac_zero (N M : Nat) : Fl.ac N M 0 = 0 := by unfold Fl.ac; simp [Nat.mod_one]
theorem Fl.ac_le (N M i : Nat) : Fl.ac N M i ≤ 1 := by
  unfold Fl.ac
  have hp : 0 < 2 ^ (32 * i) := Nat.pow_pos (by decide)
  have h1 := Nat.mod_lt N hp
  have h2 := Nat.mod_lt M hp
  apply Nat.le_of_lt_succ
  rw [Nat.div_lt_iff_lt_mul hp]; omega
theorem Fl.ac_d (N M i : Nat) : (N % 2 ^ (32 * (i + 1)) + M % 2 ^ (32 * (i + 1))) / 2 ^ (32 * i) = Fl.lb N i + Fl.lb M i + Fl.ac N M i := by
  unfold Fl.ac Fl.lb
  have hp : 0 < 2 ^ (32 * i) := Nat.pow_pos (by decide)
  rw [Fl.p32, Nat.mul_comm 4294967296, Nat.mod_mul, Nat.mod_mul]
  rw [show ∀ a b c d e : Nat, a + e * b + (c + e * d) = a + c + e * (b + d) from fun a b c d e => by rw [Nat.mul_add]; omega, Nat.add_mul_div_left _ _ hp]
  omega
theorem Fl.ac_succ (N M i : Nat) : Fl.ac N M (i + 1) = (Fl.lb N i + Fl.lb M i + Fl.ac N M i) / 4294967296 := by
  have e := (Fl.p32 i).trans (Nat.mul_comm _ _)
  rw [← Fl.ac_d, Nat.div_div_eq_div_mul, ← e]
  rfl
theorem Fl.ac_lb (N M i : Nat) : Fl.lb (N + M) i = (Fl.lb N i + Fl.lb M i + Fl.ac N M i) % 4294967296 := by
  rw [← Fl.ac_d]
  have hp : 0 < 2 ^ (32 * i) := Nat.pow_pos (by decide)
  have e := Nat.div_add_mod N (2 ^ (32 * (i + 1)))
  have e' := Nat.div_add_mod M (2 ^ (32 * (i + 1)))
  have q := (Fl.p32 i).trans (Nat.mul_comm _ _)
  have e2 : N + M = N % 2 ^ (32 * (i + 1)) + M % 2 ^ (32 * (i + 1)) + 2 ^ (32 * i) * (4294967296 * (N / 2 ^ (32 * (i + 1)) + M / 2 ^ (32 * (i + 1)))) := by
    have t : ∀ X, 2 ^ (32 * i) * (4294967296 * X) = 2 ^ (32 * (i + 1)) * X := fun X => by rw [← Nat.mul_assoc, ← q]
    rw [t, Nat.mul_add (2 ^ (32 * (i + 1)))]
    clear t q
    generalize 2 ^ (32 * (i + 1)) = P at *
    generalize N / P = n1 at *
    generalize M / P = m1 at *
    omega
  conv => lhs; unfold Fl.lb; rw [e2]
  rw [Nat.add_mul_div_left _ _ hp, Nat.add_mul_mod_self_left]
theorem Fl.ac_last {N M r : Nat} (h1 : N < 2 ^ (32 * r)) (h2 : M < 2 ^ (32 * r)) : Fl.ac N M r = Fl.lb (N + M) r := by
  have h := Fl.ac_le N M r
  unfold Fl.ac Fl.lb at *
  rw [Nat.mod_eq_of_lt h1, Nat.mod_eq_of_lt h2] at *
  exact (Nat.mod_eq_of_lt (by omega)).symm
theorem Fl.rl_add {N M K : Nat} (h1 : Fl.rl N ≤ K) (h2 : Fl.rl M ≤ K) : Fl.rl (N + M) ≤ K + 1 := Fl.rl_le.1 (by
  have a := Fl.rl_le.2 h1
  have b := Fl.rl_le.2 h2
  rw [Fl.p32]; omega)
def adF (S i : Nat) : Nat → Nat := fun j => if j < i then Fl.lb S j else 0
theorem adF_step {w : World} {g T S i v : Nat} (h : Arr w g T (adF S i)) (hi : i < T) (hv : v = Fl.lb S i) : Arr (w.setCell ⟨g, i, none⟩ (.int .u32 (v : Int))) g T (adF S (i + 1)) :=
  (h.set hi).congr fun j hj => by
    unfold adF
    by_cases c : j = i
    · subst c; rw [if_pos rfl, if_pos (by omega), hv]
    · rw [if_neg c]
      by_cases d : j < i
      · rw [if_pos d, if_pos (by omega)]
      · rw [if_neg d, if_neg (by omega)]
theorem Num.at {w w' : World} {A : Option Addr} {c N L i : Nat} (h : Num w A c N L) (hi : i < L) (hb : Below w.heap.size w w') : ∃ g, A = some ⟨g, 0, none⟩ ∧ i < c ∧ w'.cell? ⟨g, i, none⟩ = some (.int .u32 ((Fl.lb N i : Nat) : Int)) := by
  obtain ⟨h1, h2, ⟨rfl, rfl, rfl⟩ | ⟨g, rfl, h4, h5⟩⟩ := h
  · omega
  · exact ⟨g, rfl, by omega, (hb.cell (p := ⟨g, i, none⟩) h4).trans (h5 i hi)⟩

set_option maxHeartbeats 4000000 in
set_option maxRecDepth 100000 in
theorem nadd_ns (A A2 : Option Addr) (c c2 N M L L2 r r2 T S R : Nat) (w : World) (hS : Hid (N + M = S)) (hR : Hid (Fl.rl S = R)) (hA : Num w A c N L) (hA2 : Num w A2 c2 M L2) (hL : L ≤ 1000) (hL2 : L2 ≤ 1000) (hr : Fl.rl N = r) (hr2 : Fl.rl M = r2)
    (hs : ¬ r < r2) (hrl : r ≤ 256) (hrl2 : r2 ≤ 256) (hT : r + 1 = T) (hRl : R ≤ 256) :
    Calls Try.prog 96 #[.slice A L c, .slice A2 L2 c2] w fun e w' => ∃ g, e = .returned (.tuple #[.slice (some ⟨g, 0, none⟩) R T, .int .i64 0]) ∧ Num w' (some ⟨g, 0, none⟩) T S R ∧ Below w.heap.size w w' := by
  have b1 : decide ((r : Int) < (r2 : Int)) = false := decide_eq_false (by omega)
  have b2 : ¬ r < r2 := by omega
  have L0 := (Below.refl w.heap.size w).alloc (Nat.le_refl _) (.cells #[.slice A L c, .slice A2 L2 c2] 78)
  have B0 := Blk.new w 78 #[.slice A L c, .slice A2 L2 c2]
  have h0 := hA.below L0
  have h02 := hA2.below L0
  have Q1 := over_core w.heap.size 2 (fun i => if i = 0 then A else A2) (fun i => if i = 0 then L else L2) (fun i => if i = 0 then c else c2) (fun i => if i = 0 then r else r2) (w.alloc (.cells #[.slice A L c, .slice A2 L2 c2] 78)) (by decide) (fun i hi => by
      rcases (show i = 0 ∨ i = 1 by omega) with rfl | rfl
      · exact B0.cell 0 rfl
      · exact B0.cell 1 rfl) (fun i hi => by
      rcases (show i = 0 ∨ i = 1 by omega) with rfl | rfl
      · rw [← hr]; exact right_any h0 (show L ≤ 1000000000 by omega)
      · rw [← hr2]; exact right_any h02 (show L2 ≤ 1000000000 by omega)) (fun i hi => by
      rcases (show i = 0 ∨ i = 1 by omega) with rfl | rfl
      · exact hrl
      · exact hrl2)
  have Q2 := cut_any h0 (by omega)
  have Q3 := cut_any h02 (by omega)
  rw [hr] at Q2
  rw [hr2] at Q3
  have HX : Hid (Num w A c N r) := Lib.hid (by rw [← hr]; exact hA.cut)
  have HY : Hid (Num w A2 c2 M r2) := Lib.hid (by rw [← hr2]; exact hA2.cut)
  have HL0 := Lib.hid L0
  clear hr hr2 hA hA2 h0 h02 B0 L0
  have hmk := mk78 T (by omega)
  have hT2 : (r : Int) + 1 = (T : Int) := by omega
  go_enter Try.func96, Try.ntmps96
  go_wp2_with fail
  refine Q1.mono ?_
  rintro e w' ⟨rfl, rfl⟩
  go_wp2_with fail
  refine Q2.mono ?_
  rintro e w' ⟨rfl, rfl⟩
  go_wp2_with fail
  refine Q3.mono ?_
  rintro e w' ⟨rfl, rfl⟩
  clear Q1 Q2 Q3
  go_wp2_with fail
  have hAr : Arr ((w.alloc (.cells #[.slice A L c, .slice A2 L2 c2] 78)).alloc (.cells (madeCells #[.int .u32 0] T) 98)) (w.heap.size + 1) T (adF S 0) := by
    have h := Arr.made (w.alloc (.cells #[.slice A L c, .slice A2 L2 c2] 78)) T
    rw [show (w.alloc (.cells #[.slice A L c, .slice A2 L2 c2] 78)).heap.size = w.heap.size + 1 by simp] at h
    exact h.congr fun i _ => by unfold adF; rw [if_neg (by omega)]
  have L1 := HL0.out.alloc (by simp) (.cells (madeCells #[.int .u32 0] T) 98)
  go_loopw [31, 7] (fun v v2 wr => ∃ i : Nat, v = .int .i64 (i : Int) ∧ v2 = .int .u32 ((Fl.ac N M i : Nat) : Int) ∧ i ≤ r ∧ Arr wr (w.heap.size + 1) T (adF S i) ∧ Below w.heap.size w wr) (fun v _ _ => r - (intOf v).toNat)
  case atStart => exact ⟨0, rfl, by rw [Fl.ac_zero]; rfl, by omega, hAr, L1⟩
  case round =>
    clear hAr L1
    obtain ⟨i, rfl, rfl, h1, hAr, LR⟩ := hrel
    have hcl := fun (h : i < T) => hAr.cell h
    have hfr := hAr.frozen i
    by_cases hi : i < r
    · have d1 : decide ((i : Int) < (r : Int)) = true := decide_eq_true (by omega)
      have hiT : i < T := by omega
      have hcl := hcl hiT
      obtain ⟨gx, hgx, hcx, hax⟩ := HX.out.at hi LR
      obtain rfl := hgx
      have q1 := Fl.ac_succ N M i
      have q2 := Fl.ac_lb N M i
      rw [hS.out] at q2
      have q3 := Fl.ac_le N M i
      have A2_ : Hid (Arr (wr.setCell ⟨w.heap.size + 1, i, none⟩ (.int .u32 ((Fl.lb S i : Nat) : Int))) (w.heap.size + 1) T (adF S (i + 1))) := Lib.hid (adF_step hAr hiT rfl)
      have L2_ := Lib.hid (LR.setCell (p := ⟨w.heap.size + 1, i, none⟩) (Nat.le_succ _) (.int .u32 ((Fl.lb S i : Nat) : Int)))
      have ad := fun w => add32_any (Fl.lb N i) (Fl.lb M i) (Fl.ac N M i) (Fl.lb_lt _ _) (Fl.lb_lt _ _) (by omega) w
      rw [show Fl.lb N i + Fl.lb M i + Fl.ac N M i = Fl.lb N i + Fl.lb M i + Fl.ac N M i by omega, ← q1, ← q2] at ad
      have hib : (i : Int) < (r : Int) := by omega
      clear q1 q2 q3 hAr
      by_cases hj : i < r2
      · have d2 : decide ((i : Int) < (r2 : Int)) = true := decide_eq_true (by omega)
        have hjb : (i : Int) < (r2 : Int) := by omega
        obtain ⟨gy, hgy, hcy, hay⟩ := HY.out.at hj LR
        obtain rfl := hgy
        clear HX HY
        generalize Fl.lb M i = yy at *
        generalize Fl.lb N i = xx at *
        generalize Fl.lb S i = zz at *
        generalize Fl.ac N M i = cc at *
        generalize hac : Fl.ac N M (i + 1) = cc' at *
        have HAC := Lib.hid hac; clear hac
        go_wp2_with fail
        refine (ad _).mono ?_
        rintro e w' ⟨rfl, rfl⟩
        go_wp2
        exact ⟨⟨i + 1, by go_num, by rw [HAC.out], by omega, A2_.out, L2_.out⟩, by simp [intOf]; omega⟩
      · have d2 : decide ((i : Int) < (r2 : Int)) = false := decide_eq_false (by omega)
        have hjb : ¬ (i : Int) < (r2 : Int) := by omega
        have hz : Fl.lb M i = 0 := Fl.lb_over (Nat.le_trans (Fl.rl_le.1 HY.out.2.1) (by omega))
        rw [hz] at ad
        have ad : ∀ w, Calls Try.prog 133 #[.int .u32 ((Fl.lb N i : Nat) : Int), .int .u32 0, .int .u32 ((Fl.ac N M i : Nat) : Int)] w fun e w' => e = .returned (.tuple #[.int .u32 ((Fl.lb S i : Nat) : Int), .int .u32 ((Fl.ac N M (i + 1) : Nat) : Int)]) ∧ w = w' := ad
        clear HX HY hz
        generalize Fl.lb N i = xx at *
        generalize Fl.lb S i = zz at *
        generalize Fl.ac N M i = cc at *
        generalize hac : Fl.ac N M (i + 1) = cc' at *
        have HAC := Lib.hid hac; clear hac
        go_wp2_with fail
        refine (ad _).mono ?_
        rintro e w' ⟨rfl, rfl⟩
        go_wp2
        exact ⟨⟨i + 1, by go_num, by rw [HAC.out], by omega, A2_.out, L2_.out⟩, by simp [intOf]; omega⟩
    · have d1 : decide ((i : Int) < (r : Int)) = false := decide_eq_false (by omega)
      have hiT : i < T := by omega
      have hcl := hcl hiT
      have hie : i = r := by omega
      have q := Fl.ac_last (N := N) (M := M) (r := r) (Fl.rl_le.2 (Nat.le_trans (Fl.rl_le.1 HX.out.2.1) (by omega))) (Fl.rl_le.2 (Nat.le_trans (Fl.rl_le.1 HY.out.2.1) (by omega)))
      rw [hS.out, ← hie] at q
      have A2_ := adF_step hAr hiT (v := Fl.ac N M i) q
      have L2_ := LR.setCell (p := ⟨w.heap.size + 1, i, none⟩) (Nat.le_succ _) (.int .u32 ((Fl.ac N M i : Nat) : Int))
      have hfit : S < 2 ^ (32 * T) := Fl.rl_le.2 (by
        rw [← hS.out]
        have h1 : N < 2 ^ (32 * r) := Fl.rl_le.2 (Nat.le_trans (Fl.rl_le.1 HX.out.2.1) (by omega))
        have h2 : M < 2 ^ (32 * r) := Fl.rl_le.2 (Nat.le_trans (Fl.rl_le.1 HY.out.2.1) (by omega))
        apply Fl.rl_le.1
        rw [← hT, Fl.p32]; omega)
      have hNu : Num (wr.setCell ⟨w.heap.size + 1, i, none⟩ (.int .u32 ((Fl.ac N M i : Nat) : Int))) (some ⟨w.heap.size + 1, 0, none⟩) T S T :=
        A2_.num (fun j hj => by unfold adF; rw [if_pos (by omega)]) (Nat.le_refl _) (Nat.le_refl _) hfit
      have Qf := fits_any hNu (by omega) (by rw [hR.out]; exact hRl)
      have hNu2 := hNu.cut
      rw [hR.out] at Qf hNu2
      have HNu := Lib.hid hNu2
      have HL2 := Lib.hid L2_
      clear hNu hNu2 hfit A2_ q hAr L2_ HX HY
      generalize Fl.ac N M i = cc at *
      subst hie
      go_wp2_with fail
      refine Qf.mono ?_
      rintro e w' ⟨rfl, rfl⟩
      go_wp2
      go_ret2
      exact ⟨w.heap.size + 1, rfl, HNu.out, HL2.out⟩

set_option maxHeartbeats 4000000 in
set_option maxRecDepth 100000 in
theorem nadd_sw (A A2 : Option Addr) (c c2 N M L L2 r r2 T S R : Nat) (w : World) (hS : Hid (N + M = S)) (hR : Hid (Fl.rl S = R)) (hA : Num w A c N L) (hA2 : Num w A2 c2 M L2) (hL : L ≤ 1000) (hL2 : L2 ≤ 1000) (hr : Fl.rl N = r) (hr2 : Fl.rl M = r2)
    (hs : r < r2) (hrl : r ≤ 256) (hrl2 : r2 ≤ 256) (hT : r2 + 1 = T) (hRl : R ≤ 256) :
    Calls Try.prog 96 #[.slice A L c, .slice A2 L2 c2] w fun e w' => ∃ g, e = .returned (.tuple #[.slice (some ⟨g, 0, none⟩) R T, .int .i64 0]) ∧ Num w' (some ⟨g, 0, none⟩) T S R ∧ Below w.heap.size w w' := by
  have b1 : decide ((r : Int) < (r2 : Int)) = true := decide_eq_true (by omega)
  have b2 :  r < r2 := by omega
  have L0 := (Below.refl w.heap.size w).alloc (Nat.le_refl _) (.cells #[.slice A L c, .slice A2 L2 c2] 78)
  have B0 := Blk.new w 78 #[.slice A L c, .slice A2 L2 c2]
  have h0 := hA.below L0
  have h02 := hA2.below L0
  have Q1 := over_core w.heap.size 2 (fun i => if i = 0 then A else A2) (fun i => if i = 0 then L else L2) (fun i => if i = 0 then c else c2) (fun i => if i = 0 then r else r2) (w.alloc (.cells #[.slice A L c, .slice A2 L2 c2] 78)) (by decide) (fun i hi => by
      rcases (show i = 0 ∨ i = 1 by omega) with rfl | rfl
      · exact B0.cell 0 rfl
      · exact B0.cell 1 rfl) (fun i hi => by
      rcases (show i = 0 ∨ i = 1 by omega) with rfl | rfl
      · rw [← hr]; exact right_any h0 (show L ≤ 1000000000 by omega)
      · rw [← hr2]; exact right_any h02 (show L2 ≤ 1000000000 by omega)) (fun i hi => by
      rcases (show i = 0 ∨ i = 1 by omega) with rfl | rfl
      · exact hrl
      · exact hrl2)
  have Q2 := cut_any h0 (by omega)
  have Q3 := cut_any h02 (by omega)
  rw [hr] at Q2
  rw [hr2] at Q3
  have HX : Hid (Num w A c N r) := Lib.hid (by rw [← hr]; exact hA.cut)
  have HY : Hid (Num w A2 c2 M r2) := Lib.hid (by rw [← hr2]; exact hA2.cut)
  have HL0 := Lib.hid L0
  clear hr hr2 hA hA2 h0 h02 B0 L0
  have hmk := mk78 T (by omega)
  have hT2 : (r2 : Int) + 1 = (T : Int) := by omega
  go_enter Try.func96, Try.ntmps96
  go_wp2_with fail
  refine Q1.mono ?_
  rintro e w' ⟨rfl, rfl⟩
  go_wp2_with fail
  refine Q2.mono ?_
  rintro e w' ⟨rfl, rfl⟩
  go_wp2_with fail
  refine Q3.mono ?_
  rintro e w' ⟨rfl, rfl⟩
  clear Q1 Q2 Q3
  go_wp2_with fail
  have hAr : Arr ((w.alloc (.cells #[.slice A L c, .slice A2 L2 c2] 78)).alloc (.cells (madeCells #[.int .u32 0] T) 98)) (w.heap.size + 1) T (adF S 0) := by
    have h := Arr.made (w.alloc (.cells #[.slice A L c, .slice A2 L2 c2] 78)) T
    rw [show (w.alloc (.cells #[.slice A L c, .slice A2 L2 c2] 78)).heap.size = w.heap.size + 1 by simp] at h
    exact h.congr fun i _ => by unfold adF; rw [if_neg (by omega)]
  have L1 := HL0.out.alloc (by simp) (.cells (madeCells #[.int .u32 0] T) 98)
  go_loopw [31, 7] (fun v v2 wr => ∃ i : Nat, v = .int .i64 (i : Int) ∧ v2 = .int .u32 ((Fl.ac N M i : Nat) : Int) ∧ i ≤ r2 ∧ Arr wr (w.heap.size + 1) T (adF S i) ∧ Below w.heap.size w wr) (fun v _ _ => r2 - (intOf v).toNat)
  case atStart => exact ⟨0, rfl, by rw [Fl.ac_zero]; rfl, by omega, hAr, L1⟩
  case round =>
    clear hAr L1
    obtain ⟨i, rfl, rfl, h1, hAr, LR⟩ := hrel
    have hcl := fun (h : i < T) => hAr.cell h
    have hfr := hAr.frozen i
    by_cases hi : i < r2
    · have d1 : decide ((i : Int) < (r2 : Int)) = true := decide_eq_true (by omega)
      have hiT : i < T := by omega
      have hcl := hcl hiT
      obtain ⟨gx, hgx, hcx, hax⟩ := HY.out.at hi LR
      obtain rfl := hgx
      have q1 := Fl.ac_succ N M i
      have q2 := Fl.ac_lb N M i
      rw [hS.out] at q2
      have q3 := Fl.ac_le N M i
      have A2_ : Hid (Arr (wr.setCell ⟨w.heap.size + 1, i, none⟩ (.int .u32 ((Fl.lb S i : Nat) : Int))) (w.heap.size + 1) T (adF S (i + 1))) := Lib.hid (adF_step hAr hiT rfl)
      have L2_ := Lib.hid (LR.setCell (p := ⟨w.heap.size + 1, i, none⟩) (Nat.le_succ _) (.int .u32 ((Fl.lb S i : Nat) : Int)))
      have ad := fun w => add32_any (Fl.lb M i) (Fl.lb N i) (Fl.ac N M i) (Fl.lb_lt _ _) (Fl.lb_lt _ _) (by omega) w
      rw [show Fl.lb M i + Fl.lb N i + Fl.ac N M i = Fl.lb N i + Fl.lb M i + Fl.ac N M i by omega, ← q1, ← q2] at ad
      have hib : (i : Int) < (r2 : Int) := by omega
      clear q1 q2 q3 hAr
      by_cases hj : i < r
      · have d2 : decide ((i : Int) < (r : Int)) = true := decide_eq_true (by omega)
        have hjb : (i : Int) < (r : Int) := by omega
        obtain ⟨gy, hgy, hcy, hay⟩ := HX.out.at hj LR
        obtain rfl := hgy
        clear HX HY
        generalize Fl.lb N i = yy at *
        generalize Fl.lb M i = xx at *
        generalize Fl.lb S i = zz at *
        generalize Fl.ac N M i = cc at *
        generalize hac : Fl.ac N M (i + 1) = cc' at *
        have HAC := Lib.hid hac; clear hac
        go_wp2_with fail
        refine (ad _).mono ?_
        rintro e w' ⟨rfl, rfl⟩
        go_wp2
        exact ⟨⟨i + 1, by go_num, by rw [HAC.out], by omega, A2_.out, L2_.out⟩, by simp [intOf]; omega⟩
      · have d2 : decide ((i : Int) < (r : Int)) = false := decide_eq_false (by omega)
        have hjb : ¬ (i : Int) < (r : Int) := by omega
        have hz : Fl.lb N i = 0 := Fl.lb_over (Nat.le_trans (Fl.rl_le.1 HX.out.2.1) (by omega))
        rw [hz] at ad
        have ad : ∀ w, Calls Try.prog 133 #[.int .u32 ((Fl.lb M i : Nat) : Int), .int .u32 0, .int .u32 ((Fl.ac N M i : Nat) : Int)] w fun e w' => e = .returned (.tuple #[.int .u32 ((Fl.lb S i : Nat) : Int), .int .u32 ((Fl.ac N M (i + 1) : Nat) : Int)]) ∧ w = w' := ad
        clear HX HY hz
        generalize Fl.lb M i = xx at *
        generalize Fl.lb S i = zz at *
        generalize Fl.ac N M i = cc at *
        generalize hac : Fl.ac N M (i + 1) = cc' at *
        have HAC := Lib.hid hac; clear hac
        go_wp2_with fail
        refine (ad _).mono ?_
        rintro e w' ⟨rfl, rfl⟩
        go_wp2
        exact ⟨⟨i + 1, by go_num, by rw [HAC.out], by omega, A2_.out, L2_.out⟩, by simp [intOf]; omega⟩
    · have d1 : decide ((i : Int) < (r2 : Int)) = false := decide_eq_false (by omega)
      have hiT : i < T := by omega
      have hcl := hcl hiT
      have hie : i = r2 := by omega
      have q := Fl.ac_last (N := N) (M := M) (r := r2) (Fl.rl_le.2 (Nat.le_trans (Fl.rl_le.1 HX.out.2.1) (by omega))) (Fl.rl_le.2 (Nat.le_trans (Fl.rl_le.1 HY.out.2.1) (by omega)))
      rw [hS.out, ← hie] at q
      have A2_ := adF_step hAr hiT (v := Fl.ac N M i) q
      have L2_ := LR.setCell (p := ⟨w.heap.size + 1, i, none⟩) (Nat.le_succ _) (.int .u32 ((Fl.ac N M i : Nat) : Int))
      have hfit : S < 2 ^ (32 * T) := Fl.rl_le.2 (by
        rw [← hS.out]
        have h1 : N < 2 ^ (32 * r2) := Fl.rl_le.2 (Nat.le_trans (Fl.rl_le.1 HX.out.2.1) (by omega))
        have h2 : M < 2 ^ (32 * r2) := Fl.rl_le.2 (Nat.le_trans (Fl.rl_le.1 HY.out.2.1) (by omega))
        apply Fl.rl_le.1
        rw [← hT, Fl.p32]; omega)
      have hNu : Num (wr.setCell ⟨w.heap.size + 1, i, none⟩ (.int .u32 ((Fl.ac N M i : Nat) : Int))) (some ⟨w.heap.size + 1, 0, none⟩) T S T :=
        A2_.num (fun j hj => by unfold adF; rw [if_pos (by omega)]) (Nat.le_refl _) (Nat.le_refl _) hfit
      have Qf := fits_any hNu (by omega) (by rw [hR.out]; exact hRl)
      have hNu2 := hNu.cut
      rw [hR.out] at Qf hNu2
      have HNu := Lib.hid hNu2
      have HL2 := Lib.hid L2_
      clear hNu hNu2 hfit A2_ q hAr L2_ HX HY
      generalize Fl.ac N M i = cc at *
      subst hie
      go_wp2_with fail
      refine Qf.mono ?_
      rintro e w' ⟨rfl, rfl⟩
      go_wp2
      go_ret2
      exact ⟨w.heap.size + 1, rfl, HNu.out, HL2.out⟩

/-- nat.Add -/
theorem nadd_any {A A2 : Option Addr} {c c2 N M L L2 : Nat} {w : World} (hA : Num w A c N L) (hA2 : Num w A2 c2 M L2) (hL : L ≤ 255) (hL2 : L2 ≤ 255) :
    Calls Try.prog 96 #[.slice A L c, .slice A2 L2 c2] w fun e w' => ∃ g T, e = .returned (.tuple #[.slice (some ⟨g, 0, none⟩) (Fl.rl (N + M)) T, .int .i64 0]) ∧ Num w' (some ⟨g, 0, none⟩) T (N + M) (Fl.rl (N + M)) ∧ Below w.heap.size w w' := by
  have h1 := Fl.rl_le.1 hA.2.1
  have h2 := Fl.rl_le.1 hA2.2.1
  have h3 : Fl.rl (N + M) ≤ 256 := Fl.rl_add (K := 255) (by omega) (by omega)
  by_cases hs : Fl.rl N < Fl.rl M
  · refine (nadd_sw A A2 c c2 N M L L2 _ _ (Fl.rl M + 1) (N + M) (Fl.rl (N + M)) w (Lib.hid rfl) (Lib.hid rfl) hA hA2 (by omega) (by omega) rfl rfl hs (by omega) (by omega) rfl h3).mono ?_
    rintro e w' ⟨g, k1, k2, k3⟩
    exact ⟨g, _, k1, k2, k3⟩
  · refine (nadd_ns A A2 c c2 N M L L2 _ _ (Fl.rl N + 1) (N + M) (Fl.rl (N + M)) w (Lib.hid rfl) (Lib.hid rfl) hA hA2 (by omega) (by omega) rfl rfl hs (by omega) (by omega) rfl h3).mono ?_
    rintro e w' ⟨g, k1, k2, k3⟩
    exact ⟨g, _, k1, k2, k3⟩
end Go.Proofs.Ytaplggheadahhaa

namespace Go.Proofs.Ytaplggheadahhaa
open Go.RowKit
set_option linter.unusedVariables false
set_option linter.unusedSimpArgs false

set_option maxHeartbeats 1000000 in
theorem sub32_core (x y c e d b : Nat) (h1 : IntKind.u32.wrap ((x : Int) - (y : Int)) = (e : Int)) (h2 : IntKind.u32.wrap ((e : Int) - (c : Int)) = (d : Int))
    (hb : Go.bits .or .u32 (Go.bits .and .u32 (Go.bits .xor .u32 IntKind.u32.max (x : Int)) (y : Int)) (Go.bits .and .u32 (Go.bits .xor .u32 IntKind.u32.max (Go.bits .xor .u32 (x : Int) (y : Int))) (d : Int)) / 2147483648 = (b : Int)) (w : World) :
    Calls Try.prog 136 #[.int .u32 (x : Int), .int .u32 (y : Int), .int .u32 (c : Int)] w fun e w' => e = .returned (.tuple #[.int .u32 (d : Int), .int .u32 (b : Int)]) ∧ w = w' := by
  go_enter Try.func136, Try.ntmps136
  go_wp2
  go_ret2
  exact ⟨rfl, rfl⟩
theorem wrap_u32_emod (z : Int) : IntKind.u32.wrap z = z % 4294967296 := by simp [IntKind.wrap, IntKind.bits, IntKind.signed]
theorem borrow_bits (X Y D : Nat) (hX : X = 0 ∨ X = 1) (hY : Y = 0 ∨ Y = 1) (hD : D = 0 ∨ D = 1) :
    ((1 ^^^ X) &&& Y) ||| ((1 ^^^ (X ^^^ Y)) &&& D) = if X < Y then 1 else if Y < X then 0 else D := by
  rcases hX with rfl | rfl <;> rcases hY with rfl | rfl <;> rcases hD with rfl | rfl <;> rfl
theorem sub32_any (x y c : Nat) (hx : x < 4294967296) (hy : y < 4294967296) (hc : c ≤ 1) (w : World) :
    Calls Try.prog 136 #[.int .u32 (x : Int), .int .u32 (y : Int), .int .u32 (c : Int)] w fun e w' => e = .returned (.tuple #[.int .u32 (((x + 8589934592 - y - c) % 4294967296 : Nat) : Int), .int .u32 (((if x < y + c then 1 else 0) : Nat) : Int)]) ∧ w = w' := by
  have hd : (x + 8589934592 - y - c) % 4294967296 < 4294967296 := Nat.mod_lt _ (by decide)
  have e1 : IntKind.u32.wrap ((x : Int) - (y : Int)) = (((x + 4294967296 - y) % 4294967296 : Nat) : Int) := by rw [wrap_u32_emod]; omega
  have e2 : IntKind.u32.wrap ((((x + 4294967296 - y) % 4294967296 : Nat) : Int) - (c : Int)) = (((x + 8589934592 - y - c) % 4294967296 : Nat) : Int) := by rw [wrap_u32_emod]; omega
  refine sub32_core x y c _ _ _ e1 e2 ?_ w
  clear e1 e2
  obtain ⟨d, hdd⟩ : ∃ d, (x + 8589934592 - y - c) % 4294967296 = d := ⟨_, rfl⟩
  rw [hdd] at hd ⊢
  have m : IntKind.u32.max = ((4294967295 : Nat) : Int) := rfl
  have a1 : x ^^^ y < 4294967296 := Nat.xor_lt_two_pow (n := 32) hx hy
  have a2 : 4294967295 ^^^ x < 4294967296 := Nat.xor_lt_two_pow (n := 32) (by decide) hx
  have a3 : 4294967295 ^^^ (x ^^^ y) < 4294967296 := Nat.xor_lt_two_pow (n := 32) (by decide) a1
  have a4 : (4294967295 ^^^ x) &&& y < 4294967296 := Nat.lt_of_le_of_lt Nat.and_le_right hy
  have a5 : (4294967295 ^^^ (x ^^^ y)) &&& d < 4294967296 := Nat.lt_of_le_of_lt Nat.and_le_right hd
  rw [m, u32_xor_nat x y hx hy, u32_xor_nat _ x (by decide) hx, u32_xor_nat _ _ (by decide) a1, u32_and_nat _ y a2 hy, u32_and_nat _ d a3 hd, u32_or_nat _ _ a4 a5]
  have t : (((4294967295 ^^^ x) &&& y) ||| ((4294967295 ^^^ (x ^^^ y)) &&& d)) / 2147483648 = if x < y + c then 1 else 0 := by
    rw [show 2147483648 = 2 ^ 31 from rfl, Nat.or_div_two_pow, Nat.and_div_two_pow, Nat.and_div_two_pow, Nat.xor_div_two_pow, Nat.xor_div_two_pow, Nat.xor_div_two_pow, show 4294967295 / 2 ^ 31 = 1 from rfl, show (2 : Nat) ^ 31 = 2147483648 from rfl]
    rw [borrow_bits _ _ _ (by omega) (by omega) (by omega)]
    split
    · rw [if_pos (by omega)]
    · split
      · rw [if_neg (by omega)]
      · split
        · omega
        · omega
  rw [← t]
  rfl

/-! ### Cmp -/
def nsg (N M : Nat) : Int := if N < M then -1 else if M < N then 1 else 0
theorem Fl.top_lt {N M k : Nat} (h : N / 2 ^ (32 * k) < M / 2 ^ (32 * k)) : N < M := by
  rcases Nat.lt_or_ge N M with c | c
  · exact c
  · have := Nat.div_le_div_right (c := 2 ^ (32 * k)) c; omega
theorem Fl.top_succ (N k : Nat) : N / 2 ^ (32 * k) = 4294967296 * (N / 2 ^ (32 * (k + 1))) + Fl.lb N k := by
  unfold Fl.lb
  have e := (Fl.p32 k).trans (Nat.mul_comm _ _)
  rw [e, ← Nat.div_div_eq_div_mul]
  omega
theorem nsg_lt {N M k : Nat} (h : N / 2 ^ (32 * (k + 1)) = M / 2 ^ (32 * (k + 1))) (c : Fl.lb N k < Fl.lb M k) : nsg N M = -1 := by
  have := Fl.top_lt (N := N) (M := M) (k := k) (by rw [Fl.top_succ N k, Fl.top_succ M k, h]; omega)
  unfold nsg; rw [if_pos this]
theorem nsg_gt {N M k : Nat} (h : N / 2 ^ (32 * (k + 1)) = M / 2 ^ (32 * (k + 1))) (c : Fl.lb M k < Fl.lb N k) : nsg N M = 1 := by
  have := Fl.top_lt (N := M) (M := N) (k := k) (by rw [Fl.top_succ N k, Fl.top_succ M k, h]; omega)
  unfold nsg; rw [if_neg (by omega), if_pos this]
theorem nsg_rl_lt {N M : Nat} (h : Fl.rl N < Fl.rl M) : nsg N M = -1 := by
  have h1 := Fl.lt_rl N
  unfold nsg; rw [if_pos]
  rcases Nat.lt_or_ge N M with c | c
  · exact c
  · have := Fl.rl_le.1 (Nat.lt_of_le_of_lt c h1); omega
theorem nsg_rl_gt {N M : Nat} (h : Fl.rl M < Fl.rl N) : nsg N M = 1 := by
  have h1 := Fl.lt_rl M
  have : M < N := by
    rcases Nat.lt_or_ge M N with c | c
    · exact c
    · have := Fl.rl_le.1 (Nat.lt_of_le_of_lt c h1); omega
  unfold nsg; rw [if_neg (by omega), if_pos this]

set_option maxHeartbeats 1000000 in
set_option maxRecDepth 100000 in
theorem ncmp_ne (A A2 : Option Addr) (c c2 L L2 r r2 : Nat) (g : Int) (w : World) (q1 : Calls Try.prog 132 #[.slice A L c] w fun e w' => e = .returned (.slice A r c) ∧ w = w') (q2 : Calls Try.prog 132 #[.slice A2 L2 c2] w fun e w' => e = .returned (.slice A2 r2 c2) ∧ w = w')
    (hne : ((r : Int) != (r2 : Int)) = true) (hne2 : ¬ r = r2) (hg : r < r2 ∧ g = -1 ∨ ¬ r < r2 ∧ g = 1) :
    Calls Try.prog 98 #[.slice A L c, .slice A2 L2 c2] w fun e w' => e = .returned (.int .i64 g) ∧ Below w.heap.size w w' := by
  rcases hg with ⟨h, rfl⟩ | ⟨h, rfl⟩
  · have b1 : decide ((r : Int) < (r2 : Int)) = true := decide_eq_true (by omega)
    go_enter Try.func98, Try.ntmps98
    go_wp2_with fail
    refine q1.mono ?_
    rintro e w' ⟨rfl, rfl⟩
    go_wp2_with fail
    refine q2.mono ?_
    rintro e w' ⟨rfl, rfl⟩
    go_wp2
    go_ret
    exact ⟨rfl, Below.refl _ _⟩
  · have b1 : decide ((r : Int) < (r2 : Int)) = false := decide_eq_false (by omega)
    go_enter Try.func98, Try.ntmps98
    go_wp2_with fail
    refine q1.mono ?_
    rintro e w' ⟨rfl, rfl⟩
    go_wp2_with fail
    refine q2.mono ?_
    rintro e w' ⟨rfl, rfl⟩
    go_wp2
    go_ret
    exact ⟨rfl, Below.refl _ _⟩

set_option maxHeartbeats 4000000 in
set_option maxRecDepth 100000 in
theorem ncmp_eq (A A2 : Option Addr) (c c2 L L2 r N M : Nat) (g : Int) (w : World) (hg : Hid (nsg N M = g)) (hr : r ≤ 1000) (hA : Hid (Num w A c N r)) (hA2 : Hid (Num w A2 c2 M r)) (q1 : Calls Try.prog 132 #[.slice A L c] w fun e w' => e = .returned (.slice A r c) ∧ w = w') (q2 : Calls Try.prog 132 #[.slice A2 L2 c2] w fun e w' => e = .returned (.slice A2 r c2) ∧ w = w') :
    Calls Try.prog 98 #[.slice A L c, .slice A2 L2 c2] w fun e w' => e = .returned (.int .i64 g) ∧ Below w.heap.size w w' := by
  go_enter Try.func98, Try.ntmps98
  go_wp2_with fail
  refine q1.mono ?_
  rintro e w' ⟨rfl, rfl⟩
  go_wp2_with fail
  refine q2.mono ?_
  rintro e w' ⟨rfl, rfl⟩
  clear q1 q2
  go_wp2_with fail
  go_loopw [23] (fun v wr => ∃ i k : Nat, v = .int .i64 (i : Int) ∧ i + k = r ∧ Hid (N / 2 ^ (32 * k) = M / 2 ^ (32 * k)) ∧ Below w.heap.size w wr) (fun v _ => r - (intOf v).toNat)
  case atStart =>
    refine ⟨0, r, rfl, by omega, Lib.hid ?_, Below.refl _ _⟩
    rw [Nat.div_eq_of_lt hA.out.2.1, Nat.div_eq_of_lt hA2.out.2.1]
  case round =>
    obtain ⟨i, k, rfl, hik, hE, LR⟩ := hrel
    rcases Nat.eq_zero_or_pos k with hk | hk
    · have b1 : decide ((i : Int) < (r : Int)) = false := decide_eq_false (by omega)
      have b2 : ¬ i < r := by omega
      have hz : Hid (g = 0) := Lib.hid (by
        have e := hE.out
        rw [hk, Nat.mul_zero, Nat.pow_zero, Nat.div_one, Nat.div_one] at e
        rw [← hg.out]; unfold nsg; rw [if_neg (by omega), if_neg (by omega)])
      clear hA hA2 hE hg
      go_wp2
      go_ret
      exact ⟨by rw [hz.out]; rfl, LR⟩
    · obtain ⟨m, hm⟩ : ∃ m : Nat, (r : Int) - 1 - (i : Int) = (m : Int) := ⟨k - 1, by omega⟩
      have hkm : Hid (k = m + 1) := Lib.hid (by omega)
      have b1 : decide ((i : Int) < (r : Int)) = true := decide_eq_true (by omega)
      have b2 : i < r := by omega
      have hmr : m < r := by omega
      have hmr2 : (m : Int) < (r : Int) := by omega
      obtain ⟨gx, hgx, hcx, hax⟩ := hA.out.at hmr LR
      obtain ⟨gy, hgy, hcy, hay⟩ := hA2.out.at hmr LR
      obtain rfl := hgx
      obtain rfl := hgy
      have E : Hid (N / 2 ^ (32 * (m + 1)) = M / 2 ^ (32 * (m + 1))) := Lib.hid (by rw [← hkm.out]; exact hE.out)
      clear hA hA2 hE
      by_cases hlt : Fl.lb N m < Fl.lb M m
      · have hz : Hid (g = -1) := Lib.hid (by rw [← hg.out]; exact nsg_lt E.out hlt)
        have b3 : decide (((Fl.lb N m : Nat) : Int) < ((Fl.lb M m : Nat) : Int)) = true := decide_eq_true (by omega)
        clear E hg
        generalize Fl.lb N m = x at *
        generalize Fl.lb M m = y at *
        go_wp2_with fail
        go_quiet (fail)
        go_wp2
        go_ret
        exact ⟨by rw [hz.out]; rfl, below_drewN LR _⟩
      · have b3 : decide (((Fl.lb N m : Nat) : Int) < ((Fl.lb M m : Nat) : Int)) = false := decide_eq_false (by omega)
        by_cases hgt : Fl.lb M m < Fl.lb N m
        · have hz : Hid (g = 1) := Lib.hid (by rw [← hg.out]; exact nsg_gt E.out hgt)
          have b4 : decide (((Fl.lb M m : Nat) : Int) < ((Fl.lb N m : Nat) : Int)) = true := decide_eq_true (by omega)
          clear E hg
          generalize Fl.lb N m = x at *
          generalize Fl.lb M m = y at *
          go_wp2_with fail
          go_quiet (fail)
          go_wp2_with fail
          go_quiet (fail)
          go_wp2
          go_ret
          exact ⟨by rw [hz.out]; rfl, below_drewN (below_drewN LR _) _⟩
        · have b4 : decide (((Fl.lb M m : Nat) : Int) < ((Fl.lb N m : Nat) : Int)) = false := decide_eq_false (by omega)
          have E2 : Hid (N / 2 ^ (32 * m) = M / 2 ^ (32 * m)) := Lib.hid (by
            rw [Fl.top_succ N m, Fl.top_succ M m, E.out, show Fl.lb N m = Fl.lb M m by omega])
          clear E
          generalize Fl.lb N m = x at *
          generalize Fl.lb M m = y at *
          go_wp2_with fail
          go_quiet (fail)
          go_wp2_with fail
          go_quiet (fail)
          go_wp2
          exact ⟨⟨i + 1, m, by go_num, by have := hkm.out; omega, E2, below_drewN LR _⟩, by simp [intOf]; omega⟩
/-- nat.Cmp -/
theorem ncmp_any {A A2 : Option Addr} {c c2 N M L L2 : Nat} {w : World} (hA : Num w A c N L) (hA2 : Num w A2 c2 M L2) (hL : L ≤ 1000) (hL2 : L2 ≤ 1000) :
    Calls Try.prog 98 #[.slice A L c, .slice A2 L2 c2] w fun e w' => e = .returned (.int .i64 (nsg N M)) ∧ Below w.heap.size w w' := by
  have q1 := cut_any hA (by omega)
  have q2 := cut_any hA2 (by omega)
  have h1 := Fl.rl_le.1 hA.2.1
  by_cases e : Fl.rl N = Fl.rl M
  · have hA2' := hA2.cut
    rw [← e] at q2 hA2'
    exact ncmp_eq A A2 c c2 L L2 _ N M _ w (Lib.hid rfl) (by omega) (Lib.hid hA.cut) (Lib.hid hA2') q1 q2
  · refine ncmp_ne A A2 c c2 L L2 _ _ _ w q1 q2 (by simp; omega) e ?_
    by_cases d : Fl.rl N < Fl.rl M
    · exact .inl ⟨d, nsg_rl_lt d⟩
    · exact .inr ⟨d, nsg_rl_gt (by omega)⟩
end Go.Proofs.Ytaplggheadahhaa

namespace Go.Proofs.Ytaplggheadahhaa
open Go.RowKit
set_option linter.unusedVariables false
set_option linter.unusedSimpArgs false

/-- what is borrowed in a difference -/
def Fl.bw (N M i : Nat) : Nat := if N % 2 ^ (32 * i) < M % 2 ^ (32 * i) then 1 else 0
theorem Fl.bw_zero (N M : Nat) : Fl.bw N M 0 = 0 := by unfold Fl.bw; simp [Nat.mod_one]
theorem Fl.bw_le (N M i : Nat) : Fl.bw N M i ≤ 1 := by unfold Fl.bw; split <;> omega
theorem Fl.bw_aux {P n m a b : Nat} (h1 : a < P) (h2 : b < P) : a + P * n < b + P * m ↔ n < m + (if a < b then 1 else 0) := by
  rcases Nat.lt_trichotomy n m with c | c | c
  · have := Nat.mul_le_mul_left P (show n + 1 ≤ m from c)
    rw [Nat.mul_add] at this
    split <;> omega
  · subst c
    split <;> omega
  · have := Nat.mul_le_mul_left P (show m + 1 ≤ n from c)
    rw [Nat.mul_add] at this
    split <;> omega
theorem Fl.bw_succ (N M i : Nat) : Fl.bw N M (i + 1) = if Fl.lb N i < Fl.lb M i + Fl.bw N M i then 1 else 0 := by
  have q := (Fl.p32 i).trans (Nat.mul_comm _ _)
  have hp : 0 < 2 ^ (32 * i) := Nat.pow_pos (by decide)
  have h := Fl.bw_aux (n := Fl.lb N i) (m := Fl.lb M i) (Nat.mod_lt N hp) (Nat.mod_lt M hp)
  have e1 : N % 2 ^ (32 * (i + 1)) = N % 2 ^ (32 * i) + 2 ^ (32 * i) * Fl.lb N i := by unfold Fl.lb; rw [q, Nat.mod_mul]
  have e2 : M % 2 ^ (32 * (i + 1)) = M % 2 ^ (32 * i) + 2 ^ (32 * i) * Fl.lb M i := by unfold Fl.lb; rw [q, Nat.mod_mul]
  unfold Fl.bw
  rw [e1, e2]
  by_cases c : N % 2 ^ (32 * i) + 2 ^ (32 * i) * Fl.lb N i < M % 2 ^ (32 * i) + 2 ^ (32 * i) * Fl.lb M i
  · rw [if_pos c, if_pos (h.1 c)]
  · rw [if_neg c, if_neg (fun d => c (h.2 d))]
theorem Fl.sub_div {N M P : Nat} (hp : 0 < P) (h : M ≤ N) : (N - M) / P + (if N % P < M % P then 1 else 0) + M / P = N / P := by
  have e1 := Nat.div_add_mod N P
  have e2 := Nat.div_add_mod M P
  have h1 := Nat.mod_lt N hp
  have h2 := Nat.mod_lt M hp
  generalize N / P = n at *
  generalize M / P = m at *
  generalize N % P = a at *
  generalize M % P = b at *
  by_cases c : a < b
  · rw [if_pos c]
    have hnm : m < n := by
      rcases Nat.lt_or_ge m n with d | d
      · exact d
      · have := Nat.mul_le_mul_left P d; omega
    obtain ⟨k, rfl⟩ : ∃ k, n = m + 1 + k := ⟨n - m - 1, by omega⟩
    rw [Nat.mul_add, Nat.mul_add] at e1
    have : N - M = P * k + (a + P - b) := by omega
    rw [this, Nat.mul_add_div hp, Nat.div_eq_of_lt (by omega)]; omega
  · rw [if_neg c]
    have hnm : m ≤ n := by
      rcases Nat.lt_or_ge n m with d | d
      · have := Nat.mul_le_mul_left P (show n + 1 ≤ m from d)
        rw [Nat.mul_add] at this; omega
      · exact d
    obtain ⟨k, rfl⟩ : ∃ k, n = m + k := ⟨n - m, by omega⟩
    rw [Nat.mul_add] at e1
    have : N - M = P * k + (a - b) := by omega
    rw [this, Nat.mul_add_div hp, Nat.div_eq_of_lt (by omega)]; omega
theorem Fl.bw_lb {N M : Nat} (h : M ≤ N) (i : Nat) : Fl.lb (N - M) i = (Fl.lb N i + 8589934592 - Fl.lb M i - Fl.bw N M i) % 4294967296 := by
  have := Fl.sub_div (Nat.pow_pos (by decide) : 0 < 2 ^ (32 * i)) h
  have hb := Fl.bw_le N M i
  unfold Fl.bw Fl.lb at *
  generalize (if N % 2 ^ (32 * i) < M % 2 ^ (32 * i) then 1 else 0) = b at *
  generalize (N - M) / 2 ^ (32 * i) = d at *
  generalize N / 2 ^ (32 * i) = n at *
  generalize M / 2 ^ (32 * i) = m at *
  omega
theorem nsg_le {N M : Nat} (h : M ≤ N) : 0 ≤ nsg N M ∧ nsg N M ≤ 1 := by unfold nsg; rw [if_neg (by omega)]; split <;> omega

set_option maxHeartbeats 4000000 in
set_option maxRecDepth 100000 in
theorem nsub_core (A A2 : Option Addr) (c c2 N M L L2 r r2 S R : Nat) (g : Int) (w : World) (hS : Hid (N - M = S)) (hR : Hid (Fl.rl S = R)) (hle : Hid (M ≤ N)) (hg : 0 ≤ g) (hg1 : g ≤ 1) (hA : Num w A c N L) (hA2 : Num w A2 c2 M L2) (hL : L ≤ 1000) (hL2 : L2 ≤ 1000) (hr : Fl.rl N = r) (hr2 : Fl.rl M = r2)
    (hrl : r ≤ 256) (hrl2 : r2 ≤ 256) (hrr : r2 ≤ r)
    (hc : ∀ w, Num w A c N L → Num w A2 c2 M L2 → Calls Try.prog 98 #[.slice A L c, .slice A2 L2 c2] w fun e w' => e = .returned (.int .i64 g) ∧ Below w.heap.size w w') :
    Calls Try.prog 99 #[.slice A L c, .slice A2 L2 c2] w fun e w' => ∃ gb, e = .returned (.tuple #[.slice (some ⟨gb, 0, none⟩) R r, .int .i64 0]) ∧ Num w' (some ⟨gb, 0, none⟩) r S R ∧ Below w.heap.size w w' := by
  have b1 : decide (g < 0) = false := decide_eq_false (by omega)
  have b2 : ¬ g < 0 := by omega
  have L0 := (Below.refl w.heap.size w).alloc (Nat.le_refl _) (.cells #[.slice A L c, .slice A2 L2 c2] 78)
  have B0 := Blk.new w 78 #[.slice A L c, .slice A2 L2 c2]
  have h0 := hA.below L0
  have h02 := hA2.below L0
  have Q1 := over_core w.heap.size 2 (fun i => if i = 0 then A else A2) (fun i => if i = 0 then L else L2) (fun i => if i = 0 then c else c2) (fun i => if i = 0 then r else r2) (w.alloc (.cells #[.slice A L c, .slice A2 L2 c2] 78)) (by decide) (fun i hi => by
      rcases (show i = 0 ∨ i = 1 by omega) with rfl | rfl
      · exact B0.cell 0 rfl
      · exact B0.cell 1 rfl) (fun i hi => by
      rcases (show i = 0 ∨ i = 1 by omega) with rfl | rfl
      · rw [← hr]; exact right_any h0 (show L ≤ 1000000000 by omega)
      · rw [← hr2]; exact right_any h02 (show L2 ≤ 1000000000 by omega)) (fun i hi => by
      rcases (show i = 0 ∨ i = 1 by omega) with rfl | rfl
      · exact hrl
      · exact hrl2)
  have Q0 := hc _ h0 h02
  have HA := Lib.hid hA
  have HA2 := Lib.hid hA2
  have HR1 := Lib.hid hr
  have HR2 := Lib.hid hr2
  have HX : Hid (Num w A c N r) := Lib.hid (by rw [← hr]; exact hA.cut)
  have HY : Hid (Num w A2 c2 M r2) := Lib.hid (by rw [← hr2]; exact hA2.cut)
  have HL0 := Lib.hid L0
  clear hr hr2 hA hA2 h0 h02 B0 L0 hc
  have hmk := mk78 r (by omega)
  go_enter Try.func99, Try.ntmps99
  go_wp2_with fail
  refine Q1.mono ?_
  rintro e w' ⟨rfl, rfl⟩
  go_wp2_with fail
  refine Q0.mono ?_
  rintro e w1 ⟨rfl, hb⟩
  have L1 := HL0.out.trans (hb.mono (by simp))
  have Q2 := cut_any (HA.out.below L1) (by omega)
  have Q3 := cut_any (HA2.out.below L1) (by omega)
  rw [HR1.out] at Q2
  rw [HR2.out] at Q3
  clear hb Q1 Q0 HL0
  have HL1 := Lib.hid L1; clear L1
  go_wp2_with fail
  refine Q2.mono ?_
  rintro e w' ⟨rfl, rfl⟩
  go_wp2_with fail
  refine Q3.mono ?_
  rintro e w' ⟨rfl, rfl⟩
  clear Q2 Q3
  go_wp2_with fail
  obtain ⟨G, hG⟩ : ∃ G, w1.heap.size = G := ⟨_, rfl⟩
  have hGw : w.heap.size ≤ G := by rw [← hG]; exact HL1.out.size
  have hAr : Arr (w1.alloc (.cells (madeCells #[.int .u32 0] r) 98)) w1.heap.size r (adF S 0) :=
    (Arr.made w1 r).congr fun i _ => by unfold adF; rw [if_neg (by omega)]
  have L1 := HL1.out.alloc HL1.out.size (.cells (madeCells #[.int .u32 0] r) 98)
  rw [hG] at hAr ⊢
  clear HL1 hG
  go_loopw [29, 7] (fun v v2 wr => ∃ i : Nat, v = .int .i64 (i : Int) ∧ v2 = .int .u32 ((Fl.bw N M i : Nat) : Int) ∧ i ≤ r ∧ Arr wr G r (adF S i) ∧ Below w.heap.size w wr) (fun v _ _ => r - (intOf v).toNat)
  case atStart => exact ⟨0, rfl, by rw [Fl.bw_zero]; rfl, by omega, hAr, L1⟩
  case round =>
    clear hAr L1
    obtain ⟨i, rfl, rfl, h1, hAr, LR⟩ := hrel
    have hcl := fun (h : i < r) => hAr.cell h
    have hfr := hAr.frozen i
    by_cases hi : i < r
    · have d1 : decide ((i : Int) < (r : Int)) = true := decide_eq_true (by omega)
      have hcl := hcl hi
      obtain ⟨gx, hgx, hcx, hax⟩ := HX.out.at hi LR
      obtain rfl := hgx
      have q1 := Fl.bw_succ N M i
      have q2 := Fl.bw_lb hle.out i
      rw [hS.out] at q2
      have q3 := Fl.bw_le N M i
      have A2_ : Hid (Arr (wr.setCell ⟨G, i, none⟩ (.int .u32 ((Fl.lb S i : Nat) : Int))) G r (adF S (i + 1))) := Lib.hid (adF_step hAr hi rfl)
      have L2_ := Lib.hid (LR.setCell (p := ⟨G, i, none⟩) hGw (.int .u32 ((Fl.lb S i : Nat) : Int)))
      have ad := fun w => sub32_any (Fl.lb N i) (Fl.lb M i) (Fl.bw N M i) (Fl.lb_lt _ _) (Fl.lb_lt _ _) q3 w
      rw [← q1, ← q2] at ad
      have hib : (i : Int) < (r : Int) := by omega
      clear q1 q2 q3 hAr
      by_cases hj : i < r2
      · have d2 : decide ((i : Int) < (r2 : Int)) = true := decide_eq_true (by omega)
        have hjb : (i : Int) < (r2 : Int) := by omega
        obtain ⟨gy, hgy, hcy, hay⟩ := HY.out.at hj LR
        obtain rfl := hgy
        clear HX HY HA HA2
        generalize Fl.lb M i = yy at *
        generalize Fl.lb N i = xx at *
        generalize Fl.lb S i = zz at *
        generalize Fl.bw N M i = cc at *
        generalize hac : Fl.bw N M (i + 1) = cc' at *
        have HAC := Lib.hid hac; clear hac
        go_wp2_with fail
        refine (ad _).mono ?_
        rintro e w' ⟨rfl, rfl⟩
        go_wp2
        exact ⟨⟨i + 1, by go_num, by rw [HAC.out], by omega, A2_.out, L2_.out⟩, by simp [intOf]; omega⟩
      · have d2 : decide ((i : Int) < (r2 : Int)) = false := decide_eq_false (by omega)
        have hjb : ¬ (i : Int) < (r2 : Int) := by omega
        have hz : Fl.lb M i = 0 := Fl.lb_over (Nat.le_trans (Fl.rl_le.1 HY.out.2.1) (by omega))
        rw [hz] at ad
        have ad : ∀ w, Calls Try.prog 136 #[.int .u32 ((Fl.lb N i : Nat) : Int), .int .u32 0, .int .u32 ((Fl.bw N M i : Nat) : Int)] w fun e w' => e = .returned (.tuple #[.int .u32 ((Fl.lb S i : Nat) : Int), .int .u32 ((Fl.bw N M (i + 1) : Nat) : Int)]) ∧ w = w' := ad
        clear HX HY HA HA2 hz
        generalize Fl.lb N i = xx at *
        generalize Fl.lb S i = zz at *
        generalize Fl.bw N M i = cc at *
        generalize hac : Fl.bw N M (i + 1) = cc' at *
        have HAC := Lib.hid hac; clear hac
        go_wp2_with fail
        refine (ad _).mono ?_
        rintro e w' ⟨rfl, rfl⟩
        go_wp2
        exact ⟨⟨i + 1, by go_num, by rw [HAC.out], by omega, A2_.out, L2_.out⟩, by simp [intOf]; omega⟩
    · have d1 : decide ((i : Int) < (r : Int)) = false := decide_eq_false (by omega)
      have hir : ¬ (i : Int) < (r : Int) := by omega
      have hfit : S < 2 ^ (32 * r) := Nat.lt_of_le_of_lt (by rw [← hS.out]; exact Nat.sub_le _ _) HX.out.2.1
      have hNu : Num wr (some ⟨G, 0, none⟩) r S r := hAr.num (fun j hj => by unfold adF; rw [if_pos (by omega)]) (Nat.le_refl _) (Nat.le_refl _) hfit
      have Qf := cut_any hNu (by omega)
      have hNu2 := hNu.cut
      rw [hR.out] at Qf hNu2
      have HNu := Lib.hid hNu2
      have HL2 := Lib.hid LR
      clear hNu hNu2 hfit hAr LR HX HY HA HA2 hcl hfr
      generalize Fl.bw N M i = cc at *
      go_wp2_with fail
      refine Qf.mono ?_
      rintro e w' ⟨rfl, rfl⟩
      go_wp2
      go_ret2
      exact ⟨G, rfl, HNu.out, HL2.out⟩
/-- nat.Sub -/
theorem nsub_any {A A2 : Option Addr} {c c2 N M L L2 : Nat} {w : World} (hA : Num w A c N L) (hA2 : Num w A2 c2 M L2) (hL : L ≤ 255) (hL2 : L2 ≤ 255) (h : M ≤ N) :
    Calls Try.prog 99 #[.slice A L c, .slice A2 L2 c2] w fun e w' => ∃ g T, e = .returned (.tuple #[.slice (some ⟨g, 0, none⟩) (Fl.rl (N - M)) T, .int .i64 0]) ∧ Num w' (some ⟨g, 0, none⟩) T (N - M) (Fl.rl (N - M)) ∧ Below w.heap.size w w' := by
  have h1 := Fl.rl_le.1 hA.2.1
  have h2 := Fl.rl_le.1 hA2.2.1
  have h3 : Fl.rl M ≤ Fl.rl N := Fl.rl_le.1 (Nat.lt_of_le_of_lt h (Fl.lt_rl N))
  obtain ⟨g1, g2⟩ := nsg_le h
  refine (nsub_core A A2 c c2 N M L L2 _ _ (N - M) (Fl.rl (N - M)) (nsg N M) w (Lib.hid rfl) (Lib.hid rfl) (Lib.hid h) g1 g2 hA hA2 (by omega) (by omega) rfl rfl (by omega) (by omega) h3 (fun w a b => ncmp_any a b (by omega) (by omega))).mono ?_
  rintro e w' ⟨g, k1, k2, k3⟩
  exact ⟨g, _, k1, k2, k3⟩
end Go.Proofs.Ytaplggheadahhaa

namespace Go.Proofs.Ytaplggheadahhaa
open Go.RowKit
set_option linter.unusedVariables false
set_option linter.unusedSimpArgs false

set_option maxHeartbeats 2000000 in
set_option maxRecDepth 100000 in
theorem trim_core (A : Option Addr) (c L r : Nat) (w W2 : World) (hr : r ≤ 1000) (q : Calls Try.prog 147 #[.slice A L c] w fun e w' => e = .returned (.int .i64 (r : Int)) ∧ w = w')
    (hcp : ∀ ty, (Builtin.copy_ #[78, 78] ty #[.slice (some ⟨w.heap.size, 0, none⟩) r r, .slice A L c]).run Try.prog (w.alloc (.cells (madeCells #[.int .u32 0] r) 98)) = .ok (goInt r) W2) :
    Calls Try.prog 135 #[.slice A L c] w fun e w' => e = .returned (.slice (some ⟨w.heap.size, 0, none⟩) r r) ∧ w' = W2 := by
  have hmk := mk78 r (by omega)
  go_enter Try.func135, Try.ntmps135
  go_wp2_with fail
  refine q.mono ?_
  rintro e w' ⟨rfl, rfl⟩
  go_wp2
  go_ret
  exact ⟨rfl, rfl⟩
def limbs (N r : Nat) : List Value := (List.range r).map fun i => .int .u32 ((Fl.lb N i : Nat) : Int)
theorem limbs_get {N r i : Nat} (h : i < r) : (limbs N r)[i]? = some (.int .u32 ((Fl.lb N i : Nat) : Int)) := by
  unfold limbs; rw [List.getElem?_map, List.getElem?_range h]; rfl
theorem limbs_length (N r : Nat) : (limbs N r).length = r := by unfold limbs; simp
theorem cell98s : (Try.prog.info? 98).map (·.size) = some 1 := by
  have := congrArg (Option.map fun x : Option Value × Nat × Nat => x.2.1) cell98
  rw [Option.map_map] at this
  exact this
/-- nat.Trim -/
theorem trim_any {A : Option Addr} {c N L : Nat} {w : World} (h : Num w A c N L) (hL : L ≤ 1000) :
    Calls Try.prog 135 #[.slice A L c] w fun e w' => e = .returned (.slice (some ⟨w.heap.size, 0, none⟩) (Fl.rl N) (Fl.rl N)) ∧ Num w' (some ⟨w.heap.size, 0, none⟩) (Fl.rl N) N (Fl.rl N) ∧ Below w.heap.size w w' := by
  have q := right_any h (by omega)
  have hr := Fl.rl_le.1 h.2.1
  have hB := Blk.new w 98 (limbs N (Fl.rl N)).toArray
  have hNu : Num (w.alloc (.cells (limbs N (Fl.rl N)).toArray 98)) (some ⟨w.heap.size, 0, none⟩) (Fl.rl N) N (Fl.rl N) :=
    ⟨Nat.le_refl _, Fl.lt_rl N, .inr ⟨_, rfl, hB.lt, fun i hi => hB.cell i (by rw [List.getElem?_toArray]; exact limbs_get hi)⟩⟩
  refine (trim_core A c L _ w (w.alloc (.cells (limbs N (Fl.rl N)).toArray 98)) (by omega) q fun ty => ?_).mono ?_
  · obtain ⟨h1, h2, ⟨rfl, rfl, rfl⟩ | ⟨g, rfl, h4, h5⟩⟩ := h
    · have e : Fl.rl N = 0 := by omega
      rw [e, run_copy_nil (P := Try.prog) (elem := 98) _ 78 78 ty _ 0 0 Try.underlying78 (by rw [cell98s]; rfl)]
      rw [show madeCells #[.int .u32 0] 0 = (limbs N 0).toArray by simp [madeCells, limbs]]
      rfl
    · have hb := (Blk.new w 98 (madeCells #[.int .u32 0] (Fl.rl N)))
      have := run_copy_row (P := Try.prog) (elem := 98) (w.alloc (.cells (madeCells #[.int .u32 0] (Fl.rl N)) 98)) 78 78 ty w.heap.size 0 (Fl.rl N) (Fl.rl N) ⟨g, 0, none⟩ L c (madeCells #[.int .u32 0] (Fl.rl N)) 98 (limbs N (Fl.rl N)) Try.underlying78 cell98s hb
        (by rw [limbs_length]; exact (Nat.min_eq_right hr).symm) (fun j v hv => by
          have hj : j < Fl.rl N := by
            rcases Nat.lt_or_ge j (Fl.rl N) with d | d
            · exact d
            · rw [List.getElem?_eq_none (by rw [limbs_length]; exact d)] at hv; cases hv
          rw [limbs_get hj] at hv
          cases hv
          have := ((Below.refl w.heap.size w).alloc (Nat.le_refl _) (.cells (madeCells #[.int .u32 0] (Fl.rl N)) 98)).cell (p := ⟨g, j, none⟩) h4
          rw [show (⟨g, 0, none⟩ : Addr).add j = ⟨g, j, none⟩ by unfold Addr.add; split <;> simp_all, this]
          exact h5 j (by omega)) (by rw [limbs_length, size_madeCells]; omega) (fun v hv => by
          unfold limbs at hv
          rw [List.mem_map] at hv
          obtain ⟨i, _, rfl⟩ := hv
          rfl)
      rw [this, limbs_length, World.setRow_alloc_new]
      rw [List.take_zero, List.nil_append, List.drop_eq_nil_of_le (by simp [size_madeCells]), List.append_nil]
  · rintro e w' ⟨h1, rfl⟩
    exact ⟨h1, hNu, (Below.refl _ _).alloc (Nat.le_refl _) _⟩

/-- the top i limbs of n -/
def Fl.hd (N r i : Nat) : Nat := N / 2 ^ (32 * (r - i))
theorem hd_step {N r i : Nat} (h : i < r) : Fl.hd N r (i + 1) = Fl.hd N r i * 4294967296 + Fl.lb N (r - 1 - i) := by
  unfold Fl.hd
  rw [show r - (i + 1) = r - 1 - i by omega, show r - i = r - 1 - i + 1 by omega, Fl.top_succ N (r - 1 - i), Nat.mul_comm]
theorem hd_lt {N r i : Nat} (hi : i ≤ r) (h : N < 2 ^ (32 * r)) : Fl.hd N r i < 2 ^ (32 * i) := by
  unfold Fl.hd
  apply Nat.div_lt_of_lt_mul
  rw [← Nat.pow_add, show 32 * (r - i) + 32 * i = 32 * r by omega]
  exact h
/-- one limb more: the words of the number -/
theorem hd_words {N r i x : Nat} (hi : i < 4 ∧ i < r) (h : N < 2 ^ (32 * r)) (hx : x < 4294967296) (st : Fl.hd N r (i + 1) = Fl.hd N r i * 4294967296 + x) :
    Fl.hd N r i < 340282366920938463463374607431768211456 ∧ Fl.hi (Fl.hd N r (i + 1)) = Fl.hi (Fl.hd N r i * 2 ^ 32) ∧
    Go.bits .or .u64 ((Fl.lo (Fl.hd N r i * 2 ^ 32) : Nat) : Int) (x : Int) = ((Fl.lo (Fl.hd N r (i + 1)) : Nat) : Int) ∧ True := by
  have h1 := hd_lt (N := N) (r := r) (i := i) (by omega) h
  have h2 : 2 ^ (32 * i) ≤ 2 ^ 96 := Nat.pow_le_pow_right (by decide) (by omega)
  have h3 : (2 : Nat) ^ 96 = 79228162514264337593543950336 := rfl
  rw [st]
  generalize Fl.hd N r i = a at *
  have h4 : a < 79228162514264337593543950336 := by omega
  clear h1 h2 h3
  rw [show (2 : Nat) ^ 32 = 4294967296 from rfl]
  have e1 : Fl.lo (a * 4294967296) % 2 ^ 32 = 0 := by unfold Fl.lo; rw [show (2 : Nat) ^ 32 = 4294967296 from rfl]; omega
  have e2 := or_words (k := 32) (Fl.lo_lt (a * 4294967296)) (by decide) e1 (show x < 2 ^ 32 from hx)
  refine ⟨by omega, ?_, ?_, trivial⟩
  · unfold Fl.hi; omega
  · rw [e2]; unfold Fl.lo; omega
set_option maxHeartbeats 4000000 in
set_option maxRecDepth 100000 in
theorem round_A (A : Option Addr) (c N L r J : Nat) (neg more : Bool) (e : Int) (w : World) (hr : r ≤ 4) (he1 : -1000000 ≤ e) (he2 : e ≤ 1000000)
    (q : ∀ w, Num w A c N L → Calls Try.prog 135 #[.slice A L c] w fun e w' => e = .returned (.slice (some ⟨w.heap.size, 0, none⟩) r r) ∧ Num w' (some ⟨w.heap.size, 0, none⟩) r N r ∧ Below w.heap.size w w') (hA : Hid (Num w A c N L))
    (j : ∀ w, Calls Try.prog 62 #[.bool neg, .agg #[.int .u64 ((Fl.hi N : Nat) : Int), .int .u64 ((Fl.lo N : Nat) : Int)], .int .i64 e, .bool more] w fun e' w' => e' = .returned (.int .u64 (J : Int)) ∧ Below w.heap.size w w') :
    Calls Try.prog 97 #[.bool neg, .slice A L c, .int .i64 e, .bool more] w fun e w' => e = .returned (.int .u64 (J : Int)) ∧ Below w.heap.size w w' := by
  have b1 : decide (0 < (r : Int) - 4) = false := decide_eq_false (by omega)
  have b2 : ¬ 0 < (r : Int) - 4 := by omega
  have Q := q w hA.out
  clear q
  go_enter Try.func97, Try.ntmps97
  go_wp2_with fail
  refine Q.mono ?_
  rintro e1 w1 ⟨rfl, hN, hb⟩
  have HN := Lib.hid hN; clear hN
  have HB := Lib.hid hb; clear hb Q
  go_wp2_with fail
  obtain ⟨G, hG⟩ : ∃ G, w1.heap.size = G := ⟨_, rfl⟩
  have HGw := Lib.hid hG
  have hB0 : Blk (w1.alloc (.cells #[.int .u64 0, .int .u64 0] 51)) G 51 #[.int .u64 ((Fl.hi (Fl.hd N r 0) : Nat) : Int), .int .u64 ((Fl.lo (Fl.hd N r 0) : Nat) : Int)] := by
    have h := Blk.new w1 51 #[.int .u64 0, .int .u64 0]
    rw [hG] at h
    rw [show Fl.hd N r 0 = 0 by unfold Fl.hd; exact Nat.div_eq_of_lt HN.out.2.1]
    exact h
  have L0 : Below G w1 (w1.alloc (.cells #[.int .u64 0, .int .u64 0] 51)) := by rw [← hG]; exact (Below.refl _ _).alloc (Nat.le_refl _) _
  rw [hG]
  clear hG
  go_loopw [46] (fun v wr => ∃ i : Nat, v = .int .i64 (i : Int) ∧ i ≤ r ∧ Blk wr G 51 #[.int .u64 ((Fl.hi (Fl.hd N r i) : Nat) : Int), .int .u64 ((Fl.lo (Fl.hd N r i) : Nat) : Int)] ∧ Below G w1 wr) (fun v _ => r - (intOf v).toNat)
  case atStart => exact ⟨0, rfl, by omega, hB0, L0⟩
  case round =>
    clear hB0 L0
    obtain ⟨i, rfl, hi, B, LR⟩ := hrel
    by_cases hlt : i < r
    · obtain ⟨m, hm⟩ : ∃ m : Nat, (r : Int) - 1 - (i : Int) = (m : Int) := ⟨r - 1 - i, by omega⟩
      have d1 : decide ((i : Int) < (r : Int)) = true := decide_eq_true (by omega)
      have d2 : (i : Int) < (r : Int) := by omega
      have hmr : (m : Int) < (r : Int) := by omega
      have hmr' : m < r := by omega
      have st := hd_step (N := N) (r := r) (i := i) (by omega)
      obtain ⟨h4, hc1⟩ : w.heap.size < G ∧ w1.cell? ⟨w.heap.size, m, none⟩ = some (.int .u32 ((Fl.lb N (0 + m) : Nat) : Int)) := by
        obtain ⟨g, h1, h2, h3⟩ := HN.out.at (show 0 + m < r by omega) (Below.refl _ _)
        cases h1
        refine ⟨?_, by first | exact h3 | simpa using h3⟩
        rcases HN.out.2.2 with ⟨h, _⟩ | ⟨g, h, h5, _⟩
        · cases h
        · cases h; rw [← HGw.out]; exact h5
      rw [show r - 1 - i = 0 + m by omega] at st
      obtain ⟨s1, s2, s3, s4⟩ := hd_words (N := N) (r := r) (i := i) ⟨by omega, by omega⟩ HN.out.2.1 (Fl.lb_lt N (0 + m)) st
      have sh := wshl_any (Fl.hi (Fl.hd N r i)) (Fl.lo (Fl.hd N r i)) 32 (Fl.lo_lt _) (by decide) (by decide)
      rw [Fl.jn_hi s1] at sh
      rw [show ((32 : Int).toNat) = 32 from rfl] at sh
      have e6 : IntKind.u64.wrap ((Fl.lb N (0 + m) : Nat) : Int) = ((Fl.lb N (0 + m) : Nat) : Int) := by rw [wrap_u64_nat, Nat.mod_eq_of_lt (by have := Fl.lb_lt N (0 + m); omega)]
      have eh := s2
      rw [← eh] at sh
      have ZB := B.lt
      have c0 := B.cell 0 rfl
      have c1 := B.cell 1 rfl
      have f0 := B.frozen 0
      have f1 := B.frozen 1
      clear s1 s2 st eh
      generalize Fl.lb N (0 + m) = x at *
      generalize Fl.lo (Fl.hd N r i * 2 ^ 32) = lo1 at *
      generalize hH : Fl.hi (Fl.hd N r (i + 1)) = hi1 at *
      generalize hL : Fl.lo (Fl.hd N r (i + 1)) = lo2 at *
      have HH := Lib.hid hH; clear hH
      have HL := Lib.hid hL; clear hL
      generalize Fl.hi (Fl.hd N r i) = hi0 at *
      generalize Fl.lo (Fl.hd N r i) = lo0 at *
      go_wp2_with fail
      refine (sh _).mono ?_
      rintro e2 w2 ⟨rfl, hb⟩
      have B2 := B.belowS hb
      have L2 := LR.trans (hb.mono (by omega))
      have B3 := (B2.set_ 0 (.int .u64 (hi1 : Int))).set_ 1 (.int .u64 (lo1 : Int))
      have L3 := (L2.setCell (p := ⟨G, 0, none⟩) (Nat.le_refl _) (.int .u64 (hi1 : Int))).setCell (p := ⟨G, 1, none⟩) (Nat.le_refl _) (.int .u64 (lo1 : Int))
      clear c0 c1 f0 f1
      have c0 := B2.cell 0 rfl
      have c1 := B2.cell 1 rfl
      have f0 := B2.frozen 0
      have f1 := B2.frozen 1
      have hc3 := (L3.cell (p := ⟨w.heap.size, m, none⟩) h4).trans hc1
      have d0 := B3.cell 1 (v := .int .u64 (lo1 : Int)) rfl
      have g0 := B3.frozen 1
      have HB3 := Lib.hid B3
      have HL3 := Lib.hid L3
      clear hb B B2 B3 L2 L3 LR
      go_wp2_with fail
      clear c0 c1 f0 f1
      have HW : ∃ W3 : World, W3 = ((w2.setCell ⟨G, 0, none⟩ (.int .u64 (hi1 : Int))).setCell ⟨G, 1, none⟩ (.int .u64 (lo1 : Int))) := ⟨_, rfl⟩
      obtain ⟨W3, HW⟩ := HW
      rw [← HW] at hc3 d0 g0 HB3 HL3 ⊢
      clear HW
      go_region
      go_wp2
      have B4 : Blk (W3.setCell ⟨G, 1, none⟩ (.int .u64 (lo2 : Int))).drew G 51 #[.int .u64 (hi1 : Int), .int .u64 (lo2 : Int)] := (HB3.out.set_ 1 (.int .u64 (lo2 : Int))).drew
      exact ⟨⟨i + 1, by go_num, by omega, by rw [HH.out, HL.out]; exact B4, (HL3.out.setCell (p := ⟨G, 1, none⟩) (Nat.le_refl _) _).drew⟩, by simp [intOf]; omega⟩
    · have d1 : decide ((i : Int) < (r : Int)) = false := decide_eq_false (by omega)
      have d2 : ¬ (i : Int) < (r : Int) := by omega
      have hie : i = r := by omega
      have c0 := B.cell 0 rfl
      have c1 := B.cell 1 rfl
      rw [hie, show Fl.hd N r r = N by unfold Fl.hd; rw [Nat.sub_self, Nat.mul_zero, Nat.pow_zero, Nat.div_one]] at c0 c1
      have LL : Below w.heap.size w wr := HB.out.trans (LR.mono (by rw [← HGw.out]; exact HB.out.size))
      have HLL := Lib.hid LL
      clear HN hA HB LR LL B
      go_wp2_with fail
      refine (j _).mono ?_
      rintro e2 w2 ⟨rfl, hb⟩
      go_wp2
      go_ret
      exact ⟨rfl, HLL.out.trans (hb.mono HLL.out.size)⟩

theorem more_step {N i x : Nat} {more : Bool} (hx : x = Fl.lb N i) : (more || decide (N % 2 ^ (32 * (i + 1)) ≠ 0)) = ((more || decide (N % 2 ^ (32 * i) ≠ 0)) || decide (0 < x)) := by
  have e : N % 2 ^ (32 * (i + 1)) = N % 2 ^ (32 * i) + 2 ^ (32 * i) * x := by rw [hx]; unfold Fl.lb; rw [(Fl.p32 i).trans (Nat.mul_comm _ _), Nat.mod_mul]
  have hp : 0 < 2 ^ (32 * i) := Nat.pow_pos (by decide)
  rw [e, Bool.or_assoc]
  congr 1
  rcases Nat.eq_zero_or_pos x with h | h
  · subst h; simp
  · have : 0 < 2 ^ (32 * i) * x := Nat.mul_pos hp h
    rw [decide_eq_true (p := 0 < x) h, Bool.or_true, decide_eq_true (by omega)]
set_option maxHeartbeats 8000000 in
set_option maxRecDepth 100000 in
theorem round_B (A : Option Addr) (c N L r k J : Nat) (neg more mo2 : Bool) (e : Int) (w : World) (hk0 : 0 < k) (hk2 : k ≤ 1000) (hrk : (r : Int) - 4 = (k : Int)) (he1 : -1000000 ≤ e) (he2 : e ≤ 1000000) (hmo : Hid ((more || decide (N % 2 ^ (32 * k) ≠ 0)) = mo2))
    (q : ∀ w, Num w A c N L → Calls Try.prog 135 #[.slice A L c] w fun e w' => e = .returned (.slice (some ⟨w.heap.size, 0, none⟩) r r) ∧ Num w' (some ⟨w.heap.size, 0, none⟩) r N r ∧ Below w.heap.size w w') (hA : Hid (Num w A c N L))
    (j : ∀ w, Calls Try.prog 62 #[.bool neg, .agg #[.int .u64 ((Fl.hi (N / 2 ^ (32 * k)) : Nat) : Int), .int .u64 ((Fl.lo (N / 2 ^ (32 * k)) : Nat) : Int)], .int .i64 (e + 32 * (k : Int)), .bool mo2] w fun e' w' => e' = .returned (.int .u64 (J : Int)) ∧ Below w.heap.size w w') :
    Calls Try.prog 97 #[.bool neg, .slice A L c, .int .i64 e, .bool more] w fun e w' => e = .returned (.int .u64 (J : Int)) ∧ Below w.heap.size w w' := by
  have b1 : decide (0 < (k : Int)) = true := decide_eq_true (by omega)
  have b2 : 0 < (k : Int) := by omega
  have hrn : Hid (r = k + 4) := Lib.hid (by omega)
  have hrk2 : r - k = 4 := by omega
  have hkr : (k : Int) ≤ (r : Int) := by omega
  have hkr2 : k ≤ r := by omega
  have b3 : decide (e < 4611686018427387904) = true := decide_eq_true (by omega)
  have b4 : e < 4611686018427387904 := by omega
  have Q := q w hA.out
  clear q
  go_enter Try.func97, Try.ntmps97
  go_wp2_with fail
  refine Q.mono ?_
  rintro e1 w1 ⟨rfl, hN, hb⟩
  have HN := Lib.hid hN; clear hN
  have HB := Lib.hid hb; clear hb Q
  go_wp2_with fail
  go_loopw [25, 3] (fun v v2 wr => ∃ i : Nat, v = .int .i64 (i : Int) ∧ v2 = .bool (more || decide (N % 2 ^ (32 * i) ≠ 0)) ∧ i ≤ k ∧ wr = w1) (fun v _ _ => k - (intOf v).toNat)
  case atStart => exact ⟨0, rfl, by simp [Nat.mod_one], by omega, rfl⟩
  case round =>
    obtain ⟨i, rfl, rfl, hi, rfl⟩ := hrel
    by_cases hlt : i < k
    · have d1 : decide ((i : Int) < (k : Int)) = true := decide_eq_true (by omega)
      obtain ⟨x, hx⟩ : ∃ x, x = Fl.lb N i := ⟨_, rfl⟩
      have hc : wr.cell? ⟨w.heap.size, i, none⟩ = some (.int .u32 (x : Int)) := by
        obtain ⟨g, h1, h2, h3⟩ := HN.out.at (show i < r by omega) (Below.refl _ _)
        cases h1
        rw [hx]; exact h3
      have hir : i < r := by omega
      have ms := Lib.hid (more_step (more := more) hx)
      clear HN HB hA hx
      obtain ⟨mb, hmb⟩ : ∃ mb, (more || decide (N % 2 ^ (32 * i) ≠ 0)) = mb := ⟨_, rfl⟩
      rw [hmb]
      have HM := Lib.hid hmb; clear hmb
      cases mb
      · obtain ⟨bx, hbx⟩ : ∃ bx : Bool, decide (0 < x) = bx := ⟨_, rfl⟩
        have hbx2 : decide ((0 : Int) < (x : Int)) = bx := by rw [← hbx]; simp
        have HX := Lib.hid hbx
        cases bx
        · have g1 : ¬ 0 < x := of_decide_eq_false hbx
          have g2 : ¬ (0 : Int) < (x : Int) := by omega
          clear hbx
          go_wp2
          exact ⟨⟨i + 1, by go_num, by rw [ms.out, HM.out, HX.out]; rfl, by omega, by trivial⟩, by simp [intOf]; omega⟩
        · have g1 : 0 < x := of_decide_eq_true hbx
          have g2 : (0 : Int) < (x : Int) := by omega
          clear hbx
          go_wp2
          exact ⟨⟨i + 1, by go_num, by rw [ms.out, HM.out, HX.out]; rfl, by omega, by trivial⟩, by simp [intOf]; omega⟩
      · go_wp2
        exact ⟨⟨i + 1, by go_num, by rw [ms.out, HM.out]; rfl, by omega, by trivial⟩, by simp [intOf]; omega⟩
    · have d1 : decide ((i : Int) < (k : Int)) = false := decide_eq_false (by omega)
      have d2 : ¬ (i : Int) < (k : Int) := by omega
      have hik : i = k := by omega
      rw [hik, hmo.out]
      clear hik
      obtain ⟨w1, hw1⟩ : ∃ w1 : World, w1 = wr := ⟨_, rfl⟩
      rw [← hw1] at HN HB ⊢
      clear hw1 d1 d2 hlt hi
      go_wp2_with fail
      obtain ⟨G, hG⟩ : ∃ G, w1.heap.size = G := ⟨_, rfl⟩
      have HGw := Lib.hid hG
      have hB0 : Blk (w1.alloc (.cells #[.int .u64 0, .int .u64 0] 51)) G 51 #[.int .u64 ((Fl.hi (Fl.hd N r 0) : Nat) : Int), .int .u64 ((Fl.lo (Fl.hd N r 0) : Nat) : Int)] := by
        have h := Blk.new w1 51 #[.int .u64 0, .int .u64 0]
        rw [hG] at h
        rw [show Fl.hd N r 0 = 0 by unfold Fl.hd; exact Nat.div_eq_of_lt HN.out.2.1]
        exact h
      have L0 : Below G w1 (w1.alloc (.cells #[.int .u64 0, .int .u64 0] 51)) := by rw [← hG]; exact (Below.refl _ _).alloc (Nat.le_refl _) _
      rw [hG]
      clear hG
      go_loopw [46] (fun v wr => ∃ i : Nat, v = .int .i64 (i : Int) ∧ i ≤ 4 ∧ Blk wr G 51 #[.int .u64 ((Fl.hi (Fl.hd N r i) : Nat) : Int), .int .u64 ((Fl.lo (Fl.hd N r i) : Nat) : Int)] ∧ Below G w1 wr) (fun v _ => 4 - (intOf v).toNat)
      case atStart => exact ⟨0, rfl, by omega, hB0, L0⟩
      case round =>
        clear hB0 L0
        obtain ⟨i, rfl, hi, B, LR⟩ := hrel
        by_cases hlt : i < 4
        · obtain ⟨m, hm⟩ : ∃ m : Nat, (3 : Int) - (i : Int) = (m : Int) := ⟨4 - 1 - i, by omega⟩
          have d1 : decide ((i : Int) < (4 : Int)) = true := decide_eq_true (by omega)
          have d2 : (i : Int) < (4 : Int) := by omega
          have hmr : (m : Int) < (4 : Int) := by omega
          have hmr' : m < 4 := by omega
          have st := hd_step (N := N) (r := r) (i := i) (by omega)
          obtain ⟨h4, hc1⟩ : w.heap.size < G ∧ w1.cell? ⟨w.heap.size, k + m, none⟩ = some (.int .u32 ((Fl.lb N (k + m) : Nat) : Int)) := by
            obtain ⟨g, h1, h2, h3⟩ := HN.out.at (show k + m < r by omega) (Below.refl _ _)
            cases h1
            refine ⟨?_, by first | exact h3 | simpa using h3⟩
            rcases HN.out.2.2 with ⟨h, _⟩ | ⟨g, h, h5, _⟩
            · cases h
            · cases h; rw [← HGw.out]; exact h5
          rw [show r - 1 - i = k + m by omega] at st
          obtain ⟨s1, s2, s3, s4⟩ := hd_words (N := N) (r := r) (i := i) ⟨by omega, by omega⟩ HN.out.2.1 (Fl.lb_lt N (k + m)) st
          have sh := wshl_any (Fl.hi (Fl.hd N r i)) (Fl.lo (Fl.hd N r i)) 32 (Fl.lo_lt _) (by decide) (by decide)
          rw [Fl.jn_hi s1] at sh
          rw [show ((32 : Int).toNat) = 32 from rfl] at sh
          have e6 : IntKind.u64.wrap ((Fl.lb N (k + m) : Nat) : Int) = ((Fl.lb N (k + m) : Nat) : Int) := by rw [wrap_u64_nat, Nat.mod_eq_of_lt (by have := Fl.lb_lt N (k + m); omega)]
          have eh := s2
          rw [← eh] at sh
          have ZB := B.lt
          have c0 := B.cell 0 rfl
          have c1 := B.cell 1 rfl
          have f0 := B.frozen 0
          have f1 := B.frozen 1
          clear s1 s2 st eh
          generalize Fl.lb N (k + m) = x at *
          generalize Fl.lo (Fl.hd N r i * 2 ^ 32) = lo1 at *
          generalize hH : Fl.hi (Fl.hd N r (i + 1)) = hi1 at *
          generalize hL : Fl.lo (Fl.hd N r (i + 1)) = lo2 at *
          have HH := Lib.hid hH; clear hH
          have HL := Lib.hid hL; clear hL
          generalize Fl.hi (Fl.hd N r i) = hi0 at *
          generalize Fl.lo (Fl.hd N r i) = lo0 at *
          go_wp2_with fail
          refine (sh _).mono ?_
          rintro e2 w2 ⟨rfl, hb⟩
          have B2 := B.belowS hb
          have L2 := LR.trans (hb.mono (by omega))
          have B3 := (B2.set_ 0 (.int .u64 (hi1 : Int))).set_ 1 (.int .u64 (lo1 : Int))
          have L3 := (L2.setCell (p := ⟨G, 0, none⟩) (Nat.le_refl _) (.int .u64 (hi1 : Int))).setCell (p := ⟨G, 1, none⟩) (Nat.le_refl _) (.int .u64 (lo1 : Int))
          clear c0 c1 f0 f1
          have c0 := B2.cell 0 rfl
          have c1 := B2.cell 1 rfl
          have f0 := B2.frozen 0
          have f1 := B2.frozen 1
          have hc3 := (L3.cell (p := ⟨w.heap.size, k + m, none⟩) h4).trans hc1
          have d0 := B3.cell 1 (v := .int .u64 (lo1 : Int)) rfl
          have g0 := B3.frozen 1
          have HB3 := Lib.hid B3
          have HL3 := Lib.hid L3
          clear hb B B2 B3 L2 L3 LR
          go_wp2_with fail
          clear c0 c1 f0 f1
          have HW : ∃ W3 : World, W3 = ((w2.setCell ⟨G, 0, none⟩ (.int .u64 (hi1 : Int))).setCell ⟨G, 1, none⟩ (.int .u64 (lo1 : Int))) := ⟨_, rfl⟩
          obtain ⟨W3, HW⟩ := HW
          rw [← HW] at hc3 d0 g0 HB3 HL3 ⊢
          clear HW
          go_region
          go_wp2
          have B4 : Blk (W3.setCell ⟨G, 1, none⟩ (.int .u64 (lo2 : Int))).drew G 51 #[.int .u64 (hi1 : Int), .int .u64 (lo2 : Int)] := (HB3.out.set_ 1 (.int .u64 (lo2 : Int))).drew
          exact ⟨⟨i + 1, by go_num, by omega, by rw [HH.out, HL.out]; exact B4, (HL3.out.setCell (p := ⟨G, 1, none⟩) (Nat.le_refl _) _).drew⟩, by simp [intOf]; omega⟩
        · have d1 : decide ((i : Int) < (4 : Int)) = false := decide_eq_false (by omega)
          have d2 : ¬ (i : Int) < (4 : Int) := by omega
          have hie : i = 4 := by omega
          have c0 := B.cell 0 rfl
          have c1 := B.cell 1 rfl
          rw [hie, show Fl.hd N r 4 = N / 2 ^ (32 * k) by unfold Fl.hd; rw [hrn.out, Nat.add_sub_cancel]] at c0 c1
          have LL : Below w.heap.size w wr := HB.out.trans (LR.mono (by rw [← HGw.out]; exact HB.out.size))
          have HLL := Lib.hid LL
          clear HN hA HB LR LL B
          go_wp2_with fail
          refine (j _).mono ?_
          rintro e2 w2 ⟨rfl, hb⟩
          go_wp2
          go_ret
          exact ⟨rfl, HLL.out.trans (hb.mono HLL.out.size)⟩

/-- float.Round -/
theorem round_any {A : Option Addr} {c N L : Nat} {w : World} (h : Num w A c N L) (hL : L ≤ 255) (neg more : Bool) (e : Int) (he1 : -1000000 ≤ e) (he2 : e ≤ 1000000) :
    Calls Try.prog 97 #[.bool neg, .slice A L c, .int .i64 e, .bool more] w fun e' w' => e' = .returned (.int .u64 ((Fl.pk neg (Fl.rnd N e more) : Nat) : Int)) ∧ Below w.heap.size w w' := by
  have h1 := Fl.rl_le.1 h.2.1
  have q : ∀ w, Num w A c N L → Calls Try.prog 135 #[.slice A L c] w fun e w' => e = .returned (.slice (some ⟨w.heap.size, 0, none⟩) (Fl.rl N) (Fl.rl N)) ∧ Num w' (some ⟨w.heap.size, 0, none⟩) (Fl.rl N) N (Fl.rl N) ∧ Below w.heap.size w w' := fun w h => trim_any h (by omega)
  by_cases hr : Fl.rl N ≤ 4
  · have hN : N < 340282366920938463463374607431768211456 := Fl.rl_le.2 hr
    exact round_A A c N L _ _ neg more e w hr he1 he2 q (Lib.hid h) (join' neg more N e hN (by omega) (by omega))
  · obtain ⟨k, hk⟩ : ∃ k, Fl.rl N = k + 4 := ⟨Fl.rl N - 4, by omega⟩
    have hp : 0 < 2 ^ (32 * k) := Nat.pow_pos (by decide)
    have hN := Fl.lt_rl N
    rw [hk, show 32 * (k + 4) = 32 * k + 128 by omega, Nat.pow_add] at hN
    have hq : N / 2 ^ (32 * k) < 340282366920938463463374607431768211456 := Nat.div_lt_of_lt_mul hN
    have hbig : 2 ^ 96 ≤ N / 2 ^ (32 * k) := by
      rw [Nat.le_div_iff_mul_le hp, ← Nat.pow_add]
      rcases Nat.lt_or_ge N (2 ^ (96 + 32 * k)) with d | d
      · have := Fl.rl_le.1 (show N < 2 ^ (32 * (k + 3)) by rw [show 32 * (k + 3) = 96 + 32 * k by omega]; exact d)
        omega
      · exact d
    have hb : 54 ≤ Fl.bl (N / 2 ^ (32 * k)) := by have := Fl.lt_bl_of_le hbig; omega
    have t := Fl.rnd_trunc2 (N / 2 ^ (32 * k)) (e + 32 * (k : Int)) (32 * k) (N % 2 ^ (32 * k)) (Nat.mod_lt _ hp) hb more
    rw [show N / 2 ^ (32 * k) * 2 ^ (32 * k) + N % 2 ^ (32 * k) = N by have := Nat.div_add_mod N (2 ^ (32 * k)); rw [Nat.mul_comm]; exact this, show e + 32 * (k : Int) - ((32 * k : Nat) : Int) = e by omega, Bool.or_comm] at t
    rw [t]
    exact round_B A c N L _ k _ neg more _ e w (by omega) (by omega) (by omega) he1 he2 (Lib.hid rfl) q (Lib.hid h) (join' neg _ _ _ hq (by omega) (by omega))

end Go.Proofs.Ytaplggheadahhaa

