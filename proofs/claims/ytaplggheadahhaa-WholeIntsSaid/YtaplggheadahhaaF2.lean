/- The walks of whole.of, Cmp, Sign, Is, Min, Max. -/
import Derived.Test.YtaplggheadahhaaF1
import Derived.Test.YtaplggheadahhaaC5
namespace Go.Proofs.Ytaplggheadahhaa
open Go.RowKit
set_option linter.unusedVariables false
set_option linter.unusedSimpArgs false

set_option maxHeartbeats 1000000 in
theorem of_ge (x M : Nat) (neg : Bool) (e : Int) (he : 0 ≤ e)
    (h1 : ∀ w, Calls Try.prog 61 #[.int .u64 (x : Int)] w fun e' w' => e' = .returned (.tuple #[.bool neg, .int .u64 (M : Int), .int .i64 e]) ∧ w = w') (w : World) :
    Calls Try.prog 68 #[.int .u64 (x : Int)] w fun e w' => e = .returned (.tuple #[.agg #[.bool neg, .bool false, .bool false, .int .u64 (M : Int)], .bool false]) ∧ Below w.heap.size w w' := by
  go_enter Try.func68, Try.ntmps68
  go_wp2_with (go_at_call 61; refine (h1 _).mono ?_; rintro e w' ⟨rfl, rfl⟩)
  refine bodyPost_ret (v := .tuple #[.agg #[.bool neg, .bool false, .bool false, .int .u64 (M : Int)], .bool false]) (by simp [results, Try.results68, go_sem]) rfl ⟨rfl, ?_⟩
  exact (Below.refl _ _).alloc (Nat.le_refl _) _

set_option maxHeartbeats 1000000 in
theorem of_lt (x M Q H : Nat) (neg rest half : Bool) (e : Int) (he : e < 0) (he2 : -1074 ≤ e)
    (h1 : ∀ w, Calls Try.prog 61 #[.int .u64 (x : Int)] w fun e' w' => e' = .returned (.tuple #[.bool neg, .int .u64 (M : Int), .int .i64 e]) ∧ w = w')
    (h2 : ∀ w, Calls Try.prog 106 #[.agg #[.int .u64 0, .int .u64 (M : Int)], .int .i64 (-e - 1)] w fun e w' => e = .returned (.tuple #[.agg #[.int .u64 0, .int .u64 (Q : Int)], .bool rest]) ∧ Below w.heap.size w w')
    (ea : ((Go.bits .and .u64 (Q : Int) 1) == 1) = half) (eh : (Q : Int) / 2 = (H : Int)) (w : World) :
    Calls Try.prog 68 #[.int .u64 (x : Int)] w fun e w' => e = .returned (.tuple #[.agg #[.bool neg, .bool half, .bool rest, .int .u64 (H : Int)], .bool true]) ∧ Below w.heap.size w w' := by
  go_enter Try.func68, Try.ntmps68
  go_wp2_with fail
  refine (h1 _).mono ?_
  rintro e w' ⟨rfl, rfl⟩
  go_wp2_with fail
  refine (h2 _).mono ?_
  rintro e w1 ⟨rfl, hb⟩
  have B1 := (Blk.new w 54 #[.bool false, .bool false, .bool false, .int .u64 0]).belowS hb
  have L := ((Below.refl w.heap.size w).alloc (Nat.le_refl _) _).trans (hb.mono (by simp))
  have z := B1.lt
  have c0 := B1.cell 0 rfl
  have c1 := B1.cell 1 rfl
  have c2 := B1.cell 2 rfl
  have c3 := B1.cell 3 rfl
  have f0 := B1.frozen 0
  have f1 := B1.frozen 1
  have f2 := B1.frozen 2
  have f3 := B1.frozen 3
  have B2 := ((((B1.set_ 0 (.bool neg)).set_ 1 (.bool half)).set_ 2 (.bool rest)).set_ 3 (.int .u64 (H : Int))).alloc (.cells #[.int .u64 0, .int .u64 (Q : Int)] 51)
  have d0 := B2.cell 0 (v := .bool neg) rfl
  have d1 := B2.cell 1 (v := .bool half) rfl
  have d2 := B2.cell 2 (v := .bool rest) rfl
  have d3 := B2.cell 3 (v := .int .u64 (H : Int)) rfl
  clear hb B1 B2
  go_wp2
  refine bodyPost_ret (v := .tuple #[.agg #[.bool neg, .bool half, .bool rest, .int .u64 (H : Int)], .bool true]) (by simp [results, Try.results68, go_sem, d0, d1, d2, d3]) rfl ⟨rfl, ?_⟩
  repeat (first | exact L | refine Below.setCell ?_ (by simp) _ | refine below_drewN ?_ _ | refine Below.drew ?_ | refine Below.alloc ?_ (by simp; try omega) _)

/-- a number's parts below the point: so many bits (t) are cut off -/
def Fl.tt (x : Nat) : Nat := 1074 - Fl.sh (Fl.ab x)
def Fl.half (x : Nat) : Bool := decide (Fl.mant (Fl.ab x) / 2 ^ (Fl.tt x - 1) % 2 = 1)
def Fl.rest (x : Nat) : Bool := decide (Fl.mant (Fl.ab x) % 2 ^ (Fl.tt x - 1) ≠ 0)
def Fl.whole (x : Nat) : Nat := Fl.mant (Fl.ab x) / 2 ^ (Fl.tt x - 1) / 2

theorem of_small (x : Nat) (hx : x < 18446744073709551616) (hk : Fl.kd x < 3) (hs : Fl.sh (Fl.ab x) < 1074) (w : World) :
    Calls Try.prog 68 #[.int .u64 (x : Int)] w fun e w' => e = .returned (.tuple #[.agg #[.bool (Fl.ng x), .bool (Fl.half x), .bool (Fl.rest x), .int .u64 ((Fl.whole x : Nat) : Int)], .bool true]) ∧ Below w.heap.size w w' := by
  have hm := Fl.mant_lt (Fl.ab x)
  have hq : Fl.mant (Fl.ab x) / 2 ^ (Fl.tt x - 1) < 9007199254740992 := Nat.lt_of_le_of_lt (Nat.div_le_self _ _) hm
  have h2 := wshr0 (Fl.mant (Fl.ab x)) (Fl.tt x - 1) (by omega) (by unfold Fl.tt; omega)
  rw [Fl.hi_of_lt (by omega), Fl.lo_of_lt (by omega), show ((Fl.tt x - 1 : Nat) : Int) = -((Fl.sh (Fl.ab x) : Int) - 1074) - 1 by unfold Fl.tt; omega] at h2
  refine of_lt x _ _ _ _ _ _ _ (by omega) (by omega) (split_fin x hx hk) h2 ?_ ?_ w
  · rw [and_1 _ (Nat.lt_trans hq (by decide))]; unfold Fl.half; clear h2; generalize Fl.mant (Fl.ab x) / 2 ^ (Fl.tt x - 1) = q at *; rw [Bool.eq_iff_iff]; simp; omega
  · unfold Fl.whole; generalize Fl.mant (Fl.ab x) / 2 ^ (Fl.tt x - 1) = q; omega
theorem of_large (x : Nat) (hx : x < 18446744073709551616) (hk : Fl.kd x < 3) (hs : 1074 ≤ Fl.sh (Fl.ab x)) (w : World) :
    Calls Try.prog 68 #[.int .u64 (x : Int)] w fun e w' => e = .returned (.tuple #[.agg #[.bool (Fl.ng x), .bool false, .bool false, .int .u64 ((Fl.mant (Fl.ab x) : Nat) : Int)], .bool false]) ∧ Below w.heap.size w w' :=
  of_ge x _ _ _ (by omega) (split_fin x hx hk) w
theorem of_none (x : Nat) (hx : x < 18446744073709551616) (hk : 3 ≤ Fl.kd x) (w : World) :
    Calls Try.prog 68 #[.int .u64 (x : Int)] w fun e w' => e = .returned (.tuple #[.agg #[.bool (Fl.ng x), .bool false, .bool false, .int .u64 0], .bool false]) ∧ Below w.heap.size w w' :=
  of_ge x 0 _ _ (by omega) (split_big x hx hk) w

/-! ### order -/
def cmpI (x y : Int) : Int := if x < y then -1 else if y < x then 1 else 0
def cmpN (a b : Nat) : Int := if Fl.kd a = 4 ∨ Fl.kd b = 4 then 0 else cmpI (Fl.rank a) (Fl.rank b)
def cmpB (a b : Nat) : Bool := decide (¬ (Fl.kd a = 4 ∨ Fl.kd b = 4))

theorem absN_of {x : Nat} (h : Fl.kd x ≠ 4) : Fl.absN x = Fl.ab x := by unfold Fl.absN; rw [if_neg h]

set_option maxHeartbeats 1000000 in
theorem order_any (x : Nat) (hx : x < 18446744073709551616) (hk : Fl.kd x ≠ 4) (w : World) :
    Calls Try.prog 65 #[.int .u64 (x : Int)] w fun e w' => e = .returned (.int .i64 (Fl.rank x)) ∧ w = w' := by
  have ha := abs_any x hx
  rw [absN_of hk] at ha
  have hl : Fl.ab x < 9223372036854775808 := Nat.mod_lt _ (by decide)
  unfold Fl.rank
  cases hn : Fl.ng x
  · rw [if_neg (by decide)]
    have e1 : ((x : Int) / 9223372036854775808 == 1) = false := by
      have := (ng_dec x).trans hn
      simp at this ⊢; omega
    have e2 : IntKind.i64.wrap (x : Int) = (x : Int) := IntWalk.i64_in _ (by have := (ng_dec x).trans hn; simp at this; omega)
    have e3 : ((Fl.ab x : Nat) : Int) = (x : Int) := by have := (ng_dec x).trans hn; simp at this; unfold Fl.ab; omega
    rw [e3]
    clear hx hl hn e3 ha
    go_enter Try.func65, Try.ntmps65
    go_wp2
    go_ret
    exact ⟨rfl, rfl⟩
  · rw [if_pos rfl]
    have e1 : ((x : Int) / 9223372036854775808 == 1) = true := by
      have := (ng_dec x).trans hn
      simp at this ⊢; omega
    have e4 : IntKind.i64.wrap ((Fl.ab x : Nat) : Int) = ((Fl.ab x : Nat) : Int) := IntWalk.i64_in _ (by omega)
    have e5 : IntKind.i64.wrap (-((Fl.ab x : Nat) : Int)) = -((Fl.ab x : Nat) : Int) := IntWalk.i64_in _ (by omega)
    generalize Fl.ab x = A at *
    clear hx hl hn
    go_enter Try.func65, Try.ntmps65
    go_wp2_with (go_at_call 102; refine (ha _).mono ?_; rintro e w' ⟨rfl, rfl⟩)
    go_ret
    exact ⟨rfl, rfl⟩

set_option maxHeartbeats 1000000 in
/-- whole.Cmp -/
theorem cmp_any (a b : Nat) (ha : a < 18446744073709551616) (hb : b < 18446744073709551616) (w : World) :
    Calls Try.prog 27 #[.int .u64 (a : Int), .int .u64 (b : Int)] w fun e w' => e = .returned (.tuple #[.int .i64 (cmpN a b), .bool (cmpB a b)]) ∧ w = w' := by
  have k1 := kind_any a ha
  have k2 := kind_any b hb
  have la := Fl.kd_le a
  have lb := Fl.kd_le b
  unfold cmpN cmpB
  by_cases c1 : Fl.kd a = 4
  · rw [if_pos (.inl c1), decide_eq_false (by simp [c1])]
    rw [c1] at k1; clear la lb c1
    go_enter Try.func27, Try.ntmps27
    go_wp2_with (go_at_call 58; refine (k1 _).mono ?_; rintro e w' ⟨rfl, rfl⟩)
    go_ret2
    exact ⟨rfl, rfl⟩
  have n1 : (((Fl.kd a : Nat) : Int) == 4) = false := by simp; omega
  by_cases c2 : Fl.kd b = 4
  · rw [if_pos (.inr c2), decide_eq_false (by simp [c2])]
    rw [c2] at k2
    generalize Fl.kd a = K at *
    clear la lb c1 c2
    go_enter Try.func27, Try.ntmps27
    go_wp2_with fail
    refine (k1 _).mono ?_
    rintro e w' ⟨rfl, rfl⟩
    go_wp2_with fail
    refine (k2 _).mono ?_
    rintro e w' ⟨rfl, rfl⟩
    go_wp2
    go_ret2
    exact ⟨rfl, rfl⟩
  have n2 : (((Fl.kd b : Nat) : Int) == 4) = false := by simp; omega
  have o1 := order_any a ha c1
  have o2 := order_any b hb c2
  rw [if_neg (by omega), decide_eq_true (by omega)]
  unfold cmpI
  generalize Fl.rank a = ra at *
  generalize Fl.rank b = rb at *
  generalize Fl.kd a = K at *
  generalize Fl.kd b = J at *
  clear la lb c1 c2
  by_cases h1 : ra < rb
  · rw [if_pos h1]
    go_enter Try.func27, Try.ntmps27
    go_wp2_with fail
    refine (k1 _).mono ?_
    rintro e w' ⟨rfl, rfl⟩
    go_wp2_with fail
    refine (k2 _).mono ?_
    rintro e w' ⟨rfl, rfl⟩
    go_wp2_with fail
    refine (o1 _).mono ?_
    rintro e w' ⟨rfl, rfl⟩
    go_wp2_with fail
    refine (o2 _).mono ?_
    rintro e w' ⟨rfl, rfl⟩
    go_wp2
    go_ret2
    exact ⟨rfl, rfl⟩
  rw [if_neg h1]
  by_cases h2 : rb < ra
  · rw [if_pos h2]
    go_enter Try.func27, Try.ntmps27
    go_wp2_with fail
    refine (k1 _).mono ?_
    rintro e w' ⟨rfl, rfl⟩
    go_wp2_with fail
    refine (k2 _).mono ?_
    rintro e w' ⟨rfl, rfl⟩
    go_wp2_with fail
    refine (o1 _).mono ?_
    rintro e w' ⟨rfl, rfl⟩
    go_wp2_with fail
    refine (o2 _).mono ?_
    rintro e w' ⟨rfl, rfl⟩
    go_wp2
    go_ret2
    exact ⟨rfl, rfl⟩
  · rw [if_neg h2]
    go_enter Try.func27, Try.ntmps27
    go_wp2_with fail
    refine (k1 _).mono ?_
    rintro e w' ⟨rfl, rfl⟩
    go_wp2_with fail
    refine (k2 _).mono ?_
    rintro e w' ⟨rfl, rfl⟩
    go_wp2_with fail
    refine (o1 _).mono ?_
    rintro e w' ⟨rfl, rfl⟩
    go_wp2_with fail
    refine (o2 _).mono ?_
    rintro e w' ⟨rfl, rfl⟩
    go_wp2
    go_ret2
    exact ⟨rfl, rfl⟩

set_option maxHeartbeats 1000000 in
theorem sign_any (x : Nat) (hx : x < 18446744073709551616) (w : World) :
    Calls Try.prog 29 #[.int .u64 (x : Int)] w fun e w' => e = .returned (.int .i64 (cmpN x 0)) ∧ w = w' := by
  have hc : ∀ w, Calls Try.prog 27 #[.int .u64 (x : Int), .int .u64 0] w fun e w' => e = .returned (.tuple #[.int .i64 (cmpN x 0), .bool (cmpB x 0)]) ∧ w = w' := fun w => cmp_any x 0 hx (by omega) w
  generalize cmpN x 0 = R at *
  generalize cmpB x 0 = R2 at *
  go_enter Try.func29, Try.ntmps29
  go_wp2_with (go_at_call 27; refine (hc _).mono ?_; rintro e w' ⟨rfl, rfl⟩)
  go_ret
  exact ⟨rfl, rfl⟩
end Go.Proofs.Ytaplggheadahhaa
