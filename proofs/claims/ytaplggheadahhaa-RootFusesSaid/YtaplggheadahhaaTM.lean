/- The reference of the fused product and sum is that of plain numbers. -/
import Derived.Test.YtaplggheadahhaaRM
import Derived.Test.YtaplggheadahhaaTJ
import Derived.Test.YtaplggheadahhaaTI
namespace Go.Proofs.Ytaplggheadahhaa.Fl
/-- the sum of two signed naturals -/
def PS (n : Bool) (X : Nat) (m : Bool) (Y : Nat) : Bool × Nat := if (n == m) = true then (n, X + Y) else if Y ≤ X then (n, X - Y) else (m, Y - X)
theorem PS_sgi (n : Bool) (X : Nat) (m : Bool) (Y : Nat) : sgi n X + sgi m Y = sgi (PS n X m Y).1 (PS n X m Y).2 := by
  unfold PS
  by_cases h : (n == m) = true
  · rw [if_pos h, show m = n from (beq_iff_eq.1 h).symm]; exact sgi_add n X Y
  · rw [if_neg h]
    have hm : m = !n := by cases n <;> cases m <;> first | rfl | exact absurd rfl h
    subst hm
    by_cases c : Y ≤ X
    · rw [if_pos c]; exact sgi_sub n c
    · rw [if_neg c]
      have := sgi_sub' (!n) (x := X) (y := Y) (by omega)
      rw [Bool.not_not] at this
      exact this
theorem PS_le (n : Bool) (X : Nat) (m : Bool) (Y : Nat) : (PS n X m Y).2 ≤ X + Y := by
  unfold PS; (repeat' split) <;> simp only <;> omega
theorem fsum_V (a b c : Nat) : fsum a b c = sgi (ng a != ng b) (V (ab a) * V (ab b)) + sgi (ng c) (V (ab c) * p2 1074) := by
  unfold fsum sV sgi
  generalize V (ab a) = x
  generalize V (ab b) = y
  generalize V (ab c) = z
  generalize p2 1074 = P
  cases ng a <;> cases ng b <;> cases ng c <;> simp [Int.neg_mul, Int.mul_neg]
theorem fin_z {s : Int} {n : Bool} {Z : Nat} (h : s = sgi n Z) : s = 0 ↔ Z = 0 := by
  cases n
  · have h : s = (Z : Int) := h
    omega
  · have h : s = -(Z : Int) := h
    omega
end Go.Proofs.Ytaplggheadahhaa.Fl
namespace Go.Proofs.Ytaplggheadahhaa.R
open Go.RowKit Go.Proofs.YtaplggheadahhaaW.PrintWords
set_option linter.unusedVariables false
set_option linter.unusedSimpArgs false

theorem exact4_ev (x : Nat) (hx : x < 18446744073709551616) (hk : Fl.kd x < 3) : Ev fun k => tabardref4_Exact.f k (x : Int) = some (Fl.ng x, lst (Fl.V (Fl.ab x))) := by
  have fa := Fl.kd_fin hk
  have sa : Fl.sh (Fl.ab x) ≤ 2045 := by unfold Fl.sh Fl.INF at *; omega
  have ma := Fl.mant_lt (Fl.ab x)
  have t1 := split_ev x hx hk
  have l1 := len2c (n := Fl.mant (Fl.ab x)) (by omega)
  have t2 := nat_ev (Fl.mant (Fl.ab x)) (by omega)
  have t3 := up_ev (lst (Fl.mant (Fl.ab x))) (lm_lst _) (Fl.sh (Fl.ab x)) (by omega) (by omega)
  rw [val_lst] at t3
  unfold Fl.V
  generalize Fl.mant (Fl.ab x) = m at *
  generalize Fl.sh (Fl.ab x) = s at *
  refine ((t1.and t2).and t3).imp fun k ⟨⟨h1, h2⟩, h3⟩ => ?_
  unfold tabardref4_Exact.f
  rw [h1, Option.bind_some]
  dsimp only
  rw [h2, Option.bind_some, show wrap64 ((s : Int) - 1074 + 1074) = (s : Int) by rw [w64 (by omega) (by omega)]; omega, h3, Option.bind_some]
theorem plus4_b (P : List Int → List Int → Option (List Int)) (L : List Int → List Int → Option (List Int)) (C : Option Int) (n m : Bool) (x y p d1 d2 : List Int) (X Y : Nat) (hp : (n == m) = true → P x y = some (lst (X + Y))) (hc : C = some (sgn X Y)) (h1 : Y ≤ X → L x y = some (lst (X - Y))) (h2 : ¬ Y ≤ X → L y x = some (lst (Y - X))) :
    (if (n == m) = true then ((P x y).bind fun t421 => (some (n, t421))) else (C.bind fun t424 => (if t424 ≥ 0 then ((L x y).bind fun t425 => (some (n, t425))) else ((L y x).bind fun t428 => (some (m, t428)))))) = some ((Fl.PS n X m Y).1, lst (Fl.PS n X m Y).2) := by
  unfold Fl.PS
  by_cases c : (n == m) = true
  · rw [if_pos c, if_pos c, hp c]; rfl
  · rw [if_neg c, if_neg c, hc, Option.bind_some]
    by_cases g : Y ≤ X
    · rw [if_pos ((sgn_ge X Y).2 g), if_pos g, h1 g]; rfl
    · rw [if_neg (fun h => g ((sgn_ge X Y).1 h)), if_neg g, h2 g]; rfl
theorem plus4_ev (n m : Bool) (X Y : Nat) (hx : (lst X).length < 1048576) (hy : (lst Y).length < 1048576) : Ev fun k => tabardref4_Plus.f k n (lst X) m (lst Y) = some ((Fl.PS n X m Y).1, lst (Fl.PS n X m Y).2) := by
  have t1 := plus_ev (lst X) (lst Y) (lm_lst _) (lm_lst _) (by omega) (by omega)
  have t2 := cmp_ev (lst X) (lst Y) (lm_lst _) (lm_lst _) (by omega) (by omega)
  rw [val_lst, val_lst] at t1 t2
  by_cases g : Y ≤ X
  · have t3 := less_ev (lst X) (lst Y) (lm_lst _) (lm_lst _) (by omega) (by rw [val_lst, val_lst]; exact g)
    rw [val_lst, val_lst] at t3
    refine ((t1.and t2).and t3).imp fun k ⟨⟨h1, h2⟩, h3⟩ => ?_
    unfold tabardref4_Plus.f
    exact plus4_b (tabardref1_Plus.f k) (tabardref1_Less.f k) _ n m (lst X) (lst Y) [] [] [] X Y (fun _ => h1) h2 (fun _ => h3) (fun h => absurd g h)
  · have t3 := less_ev (lst Y) (lst X) (lm_lst _) (lm_lst _) (by omega) (by rw [val_lst, val_lst]; omega)
    rw [val_lst, val_lst] at t3
    refine ((t1.and t2).and t3).imp fun k ⟨⟨h1, h2⟩, h3⟩ => ?_
    unfold tabardref4_Plus.f
    exact plus4_b (tabardref1_Plus.f k) (tabardref1_Less.f k) _ n m (lst X) (lst Y) [] [] [] X Y (fun _ => h1) h2 (fun h => absurd h g) (fun _ => h3)

/-- the guards -/
theorem fma5_f_b (s0 s1 i0 i1 : Option Bool) (F : Bool → Bool → Option Int) (sa sb ia ib : Bool) (h1 : s0 = some sa) (h2 : s1 = some sb) (h3 : i0 = some ia) (h4 : i1 = some ib) :
    (s0.bind fun t431 => (s1.bind fun t432 => (i0.bind fun t433 => (if t433 = true then (F (t431 != t432) true) else (i1.bind fun t434 => (F (t431 != t432) t434)))))) = F (sa != sb) (ia || ib) := by
  subst h1 h2 h3 h4
  cases ia <;> rfl
theorem fma5_f_a (k : Nat) (a b c : Int) (sa sb ia ib : Bool) (h1 : tabardref3_Is.f a = some sa) (h2 : tabardref3_Is.f b = some sb) (h3 : tabardref5_endless.f k a = some ia) (h4 : tabardref5_endless.f k b = some ib) :
    tabardref5_Fma.f k a b c = tabardref5_Fma.j0 k a b c (sa != sb) (ia || ib) := by
  unfold tabardref5_Fma.f
  exact fma5_f_b _ _ _ _ (fun n p => tabardref5_Fma.j0 k a b c n p) sa sb ia ib h1 h2 h3 h4
theorem fma5_j0_b (n0 n1 n2 z0 z1 i2 s2 : Option Bool) (F : Bool → Option Int) (n p na nb nc za zb ic sc : Bool) (h1 : n0 = some na) (h2 : n1 = some nb) (h3 : n2 = some nc) (h4 : z0 = some za) (h5 : z1 = some zb) (h6 : i2 = some ic) (h7 : s2 = some sc) :
    (n0.bind fun t435 => (if t435 = true then (F true) else (n1.bind fun t436 => (if t436 = true then (F true) else (n2.bind fun t437 => (if t437 = true then (F true) else (if p = true then (z0.bind fun t438 => (if t438 = true then (F true) else (z1.bind fun t439 => (if t439 = true then (F true) else (i2.bind fun t440 => (if t440 = true then (s2.bind fun t441 => (F (t441 != n))) else (F false))))))) else (F false))))))))
      = F (na || nb || nc || (p && (za || zb)) || (p && ic && (sc != n))) := by
  subst h1 h2 h3 h4 h5 h6 h7
  cases na <;> cases nb <;> cases nc <;> cases p <;> cases za <;> cases zb <;> cases ic <;> rfl
theorem fma5_j0_a (k : Nat) (a b c : Int) (n p na nb nc za zb ic sc : Bool) (h1 : tabardref5_none.f k a = some na) (h2 : tabardref5_none.f k b = some nb) (h3 : tabardref5_none.f k c = some nc) (h4 : tabardref5_zero.f k a = some za) (h5 : tabardref5_zero.f k b = some zb) (h6 : tabardref5_endless.f k c = some ic) (h7 : tabardref3_Is.f c = some sc) :
    tabardref5_Fma.j0 (k + 1) a b c n p = tabardref5_Fma.j1 k a b c n p (na || nb || nc || (p && (za || zb)) || (p && ic && (sc != n))) := by
  rw [tabardref5_Fma.j0]
  exact fma5_j0_b _ _ _ _ _ _ _ (fun g => tabardref5_Fma.j1 k a b c n p g) n p na nb nc za zb ic sc h1 h2 h3 h4 h5 h6 h7
theorem fma5_j1_nan (k : Nat) (a b c : Int) (n p : Bool) : tabardref5_Fma.j1 (k + 1) a b c n p true = some 9221120237041090560 := by
  rw [tabardref5_Fma.j1, if_pos rfl]
theorem fma5_j1_inf (k : Nat) (a b c : Int) (n : Bool) : tabardref5_Fma.j1 (k + 1) a b c n true false = ((tabardref5_with.f n 9218868437227405312).bind fun t442 => (some t442)) := by
  rw [tabardref5_Fma.j1, if_neg (by decide), if_pos rfl]
theorem fma5_z (z0 z1 z2 i2 : Option Bool) (za zb zc sc n : Bool) (h0 : z0 = some za) (h1 : z1 = some zb) (h2 : z2 = some zc) (h3 : i2 = some sc) :
    (z0.bind fun t476 => (if t476 = true then (z2.bind fun t477 => (if t477 = true then (if n = true then (i2.bind fun t478 => (if t478 = true then (some (9223372036854775808 : Int)) else (some 0))) else (some 0)) else (some 0))) else (z1.bind fun t479 => (if t479 = true then (z2.bind fun t480 => (if t480 = true then (if n = true then (i2.bind fun t481 => (if t481 = true then (some 9223372036854775808) else (some 0))) else (some 0)) else (some 0))) else (some 0)))))
      = some (if ((za || zb) && zc && n && sc) = true then 9223372036854775808 else 0) := by
  subst h0 h1 h2 h3
  cases za <;> cases zb <;> cases zc <;> cases n <;> cases sc <;> rfl
theorem fma5_m_b (x2 r E F M N D : Int) (x7 s0 s1 sc s : Bool) (e2 : Option Bool) (S0 S1 : Option (Bool × Int × Int)) (Nf : Int → Option (List Int)) (Tf : List Int → List Int → Option (List Int)) (Uf : List Int → Int → Option (List Int)) (Ef : Option (Bool × List Int)) (Pf : Bool → List Int → Bool → List Int → Option (Bool × List Int)) (ZZ : Option Int) (Rf : Bool → List Int → Option Int)
    (lM lN lT lX lC lY lZ : List Int) (he : e2 = some false) (hS0 : S0 = some (s0, M, E)) (hS1 : S1 = some (s1, N, F)) (hM : Nf M = some lM) (hN : Nf N = some lN) (hT : Tf lM lN = some lT) (hD : wrap64 ((wrap64 (E + F)) + 2148) = D) (hU : Uf lT D = some lX) (hE : Ef = some (sc, lC)) (hU2 : Uf lC 1074 = some lY) (hP : Pf x7 lX sc lY = some (s, lZ))
    (h : ((lZ.length : Int) = 0 ∧ ZZ = some r) ∨ (¬ (lZ.length : Int) = 0 ∧ Rf s lZ = some r)) :
    (e2.bind fun t443 => (if t443 = true then (some x2) else (S0.bind fun bt444 => (S1.bind fun bt447 => ((Nf bt444.2.1).bind fun t450 => ((Nf bt447.2.1).bind fun t453 => ((Tf t450 t453).bind fun t456 => ((Uf t456 (wrap64 ((wrap64 (bt444.2.2 + bt447.2.2)) + 2148))).bind fun t459 => (Ef.bind fun bt463 => ((Uf bt463.2 1074).bind fun t468 => ((Pf x7 t459 bt463.1 t468).bind fun bt471 => (if (bt471.2.length : Int) = 0 then ZZ else ((Rf bt471.1 bt471.2).bind fun t482 => (some t482)))))))))))))) = some r := by
  subst he hS0 hS1 hE
  rw [Option.bind_some, if_neg (by decide), Option.bind_some, Option.bind_some]
  dsimp only
  rw [hM, Option.bind_some, hN, Option.bind_some, hT, Option.bind_some, hD, hU, Option.bind_some, Option.bind_some]
  dsimp only
  rw [hU2, Option.bind_some, hP, Option.bind_some]
  dsimp only
  rcases h with ⟨h, g⟩ | ⟨h, g⟩
  · rw [if_pos h]; exact g
  · rw [if_neg h, g]; rfl
theorem fma5_m_a (k : Nat) (a b c r E F M N D : Int) (n s0 s1 sc s za zb zc : Bool) (lM lN lT lX lC lY lZ : List Int) (he : tabardref5_endless.f k c = some false) (hS0 : tabardref3_Split.f k a = some (s0, M, E)) (hS1 : tabardref3_Split.f k b = some (s1, N, F)) (hM : tabardref3_Nat.f k M = some lM) (hN : tabardref3_Nat.f k N = some lN) (hT : tabardref1_Times.f k lM lN = some lT) (hD : wrap64 ((wrap64 (E + F)) + 2148) = D) (hU : tabardref3_Up.f k lT D = some lX) (hE : tabardref4_Exact.f k c = some (sc, lC)) (hU2 : tabardref3_Up.f k lC 1074 = some lY) (hP : tabardref4_Plus.f k n lX sc lY = some (s, lZ))
    (z0 : tabardref5_zero.f k a = some za) (z1 : tabardref5_zero.f k b = some zb) (z2 : tabardref5_zero.f k c = some zc) (i2 : tabardref3_Is.f c = some sc)
    (h : ((lZ.length : Int) = 0 ∧ some (if ((za || zb) && zc && n && sc) = true then 9223372036854775808 else 0) = some r) ∨ (¬ (lZ.length : Int) = 0 ∧ tabardref3_Round.f k s lZ (-2148) false = some r)) :
    tabardref5_Fma.j1 (k + 1) a b c n false false = some r := by
  rw [tabardref5_Fma.j1, if_neg (by decide), if_neg (by decide)]
  refine fma5_m_b c r E F M N D n s0 s1 sc s _ _ _ (fun x => tabardref3_Nat.f k x) (fun x y => tabardref1_Times.f k x y) (fun x y => tabardref3_Up.f k x y) _ (fun x y z u => tabardref4_Plus.f k x y z u) _ (fun x y => tabardref3_Round.f k x y (-2148) false) lM lN lT lX lC lY lZ he hS0 hS1 hM hN hT hD hU hE hU2 hP ?_
  rcases h with ⟨h, g⟩ | ⟨h, g⟩
  · exact .inl ⟨h, (fma5_z _ _ _ _ za zb zc sc n z0 z1 z2 i2).trans g⟩
  · exact .inr ⟨h, g⟩
theorem fma5_j1_c (k : Nat) (a b c : Int) (n : Bool) (he : tabardref5_endless.f k c = some true) : tabardref5_Fma.j1 (k + 1) a b c n false false = some c := by
  rw [tabardref5_Fma.j1, if_neg (by decide), if_neg (by decide), he, Option.bind_some, if_pos rfl]
theorem up4 (l : List Int) (h : Lm l) (n : Nat) (m : Int) (hm : (n : Int) = m) (hn : n < 1099511627776) (hl : l.length < 1099511627776) : Ev fun k => tabardref3_Up.f k l m = some (lst (val l * 2 ^ n)) := by
  subst hm; exact up_ev l h n hn hl
theorem lst_bd {X e L : Nat} (h : X < 2 ^ e) (he : e ≤ 32 * L) : (lst X).length ≤ L := length_lst (Nat.lt_of_lt_of_le h (Nat.pow_le_pow_right (by decide) he))
theorem fma5_lists (ma mb mc sa sb sc K L : Nat) (hK : K = 1074) (hL : L = 140) (n m : Bool) (hma : ma < 9007199254740992) (hmb : mb < 9007199254740992) (hmc : mc < 9007199254740992) (hsa : sa ≤ 2045) (hsb : sb ≤ 2045) (hsc : sc ≤ 2045) :
    Ev fun k => (tabardref1_Times.f k (lst ma) (lst mb) = some (lst (ma * mb)) ∧ tabardref3_Up.f k (lst (ma * mb)) ((sa + sb : Nat) : Int) = some (lst (ma * mb * 2 ^ (sa + sb)))) ∧ (tabardref3_Up.f k (lst (mc * 2 ^ sc)) 1074 = some (lst (mc * 2 ^ sc * 2 ^ K)) ∧
      tabardref4_Plus.f k n (lst (ma * mb * 2 ^ (sa + sb))) m (lst (mc * 2 ^ sc * 2 ^ K)) = some ((Fl.PS n (ma * mb * 2 ^ (sa + sb)) m (mc * 2 ^ sc * 2 ^ K)).1, lst (Fl.PS n (ma * mb * 2 ^ (sa + sb)) m (mc * 2 ^ sc * 2 ^ K)).2)) ∧
      tabardref3_Round.f k (Fl.PS n (ma * mb * 2 ^ (sa + sb)) m (mc * 2 ^ sc * 2 ^ K)).1 (lst (Fl.PS n (ma * mb * 2 ^ (sa + sb)) m (mc * 2 ^ sc * 2 ^ K)).2) (-2148) false = some ((Fl.pk (Fl.PS n (ma * mb * 2 ^ (sa + sb)) m (mc * 2 ^ sc * 2 ^ K)).1 (Fl.rnd (Fl.PS n (ma * mb * 2 ^ (sa + sb)) m (mc * 2 ^ sc * 2 ^ K)).2 (-2148) false) : Nat) : Int) := by
  have l1 := len2c (n := ma) (by omega)
  have l2 := len2c (n := mb) (by omega)
  have t1 := times_ev (lst ma) (lst mb) (lm_lst _) (lm_lst _) (by omega) (by omega)
  rw [val_lst, val_lst] at t1
  have hP : ma * mb < 2 ^ 106 := Nat.lt_of_lt_of_le (Nat.mul_lt_mul'' hma hmb) (by decide)
  generalize ma * mb = P at *
  have l3 : (lst P).length ≤ L := lst_bd hP (by omega)
  have t2 := up_ev (lst P) (lm_lst _) (sa + sb) (by omega) (by omega)
  rw [val_lst] at t2
  have hX : P * 2 ^ (sa + sb) < 2 ^ (106 + (sa + sb)) := by rw [Nat.pow_add 2 106]; exact Nat.mul_lt_mul_of_pos_right hP (Nat.pow_pos (a := 2) (by decide))
  generalize P * 2 ^ (sa + sb) = X at *
  have hQ : mc * 2 ^ sc < 2 ^ (53 + sc) := by rw [Nat.pow_add]; exact Nat.mul_lt_mul_of_pos_right (Nat.lt_of_lt_of_le hmc (by decide)) (Nat.pow_pos (a := 2) (by decide))
  generalize mc * 2 ^ sc = Q at *
  have l4 : (lst Q).length ≤ L := lst_bd hQ (by omega)
  have t3 := up4 (lst Q) (lm_lst _) K 1074 (by omega) (by omega) (by omega)
  rw [val_lst] at t3
  have hY : Q * 2 ^ K < 2 ^ (53 + sc + K) := by rw [Nat.pow_add _ _ K]; exact Nat.mul_lt_mul_of_pos_right hQ (Nat.pow_pos (a := 2) (by decide))
  generalize Q * 2 ^ K = Y at *
  have l5 : (lst X).length ≤ L := lst_bd hX (by omega)
  have l6 : (lst Y).length ≤ L := lst_bd hY (by omega)
  have t4 := plus4_ev n m X Y (by omega) (by omega)
  have hZ : (Fl.PS n X m Y).2 < 2 ^ (32 * L) := by
    have h1 := Fl.PS_le n X m Y
    have h2 : X < 2 ^ (32 * L - 1) := Nat.lt_of_lt_of_le hX (Nat.pow_le_pow_right (by decide) (by omega))
    have h3 : Y < 2 ^ (32 * L - 1) := Nat.lt_of_lt_of_le hY (Nat.pow_le_pow_right (by decide) (by omega))
    have h4 : 2 ^ (32 * L) = 2 ^ (32 * L - 1) * 2 := (congrArg (2 ^ ·) (show 32 * L = 32 * L - 1 + 1 by omega)).trans (Nat.pow_succ ..)
    rw [h4]
    generalize 2 ^ (32 * L - 1) = B at *
    omega
  have l7 : (lst (Fl.PS n X m Y).2).length ≤ L := lst_bd hZ (Nat.le_refl _)
  have hb : Fl.bl (Fl.PS n X m Y).2 ≤ 32 * L := Fl.bl_le_of_lt hZ
  clear hX hY hQ hP
  generalize Fl.PS n X m Y = z at *
  have t5 := round_ev z.1 (lst z.2) (lm_lst _) (by omega) (-2148) (by omega) (by omega) false (fun _ => by rw [val_lst]; unfold Fl.un; omega)
  rw [val_lst] at t5
  exact (t1.and t2).and ((t3.and t4).and t5)
theorem len_zero (n : Nat) : (((lst n).length : Int) = 0) ↔ n = 0 := by
  by_cases h : n = 0
  · subst h; rw [lst_zero]; simp
  · rw [lst_pos h]; simp only [List.length_cons]; constructor <;> intro g <;> omega
theorem fma5_tail (za zb zc n m : Bool) (s : Int) (z : Bool × Nat) (hs : s = Fl.sgi z.1 z.2) (Zp : Prop) [Decidable Zp] (hZ : Zp ↔ ((za || zb) && zc && n && m) = true) (R : Option Int) (hR : R = some ((Fl.pk z.1 (Fl.rnd z.2 (-2148) false) : Nat) : Int)) :
    (((lst z.2).length : Int) = 0 ∧ some (if ((za || zb) && zc && n && m) = true then (9223372036854775808 : Int) else 0) = some (((if s = 0 then (if Zp then Fl.SG else 0) else Fl.pk (decide (s < 0)) (Fl.rnd s.natAbs (-2148) false)) : Nat) : Int)) ∨ (¬ ((lst z.2).length : Int) = 0 ∧ R = some (((if s = 0 then (if Zp then Fl.SG else 0) else Fl.pk (decide (s < 0)) (Fl.rnd s.natAbs (-2148) false)) : Nat) : Int)) := by
  by_cases h : z.2 = 0
  · refine .inl ⟨(len_zero _).2 h, ?_⟩
    rw [if_pos ((Fl.fin_z hs).2 h)]
    by_cases c : Zp
    · rw [if_pos c, if_pos (hZ.1 c)]; rfl
    · rw [if_neg c, if_neg (fun g => c (hZ.2 g))]; rfl
  · refine .inr ⟨fun g => h ((len_zero _).1 g), ?_⟩
    have hne : ¬ s = 0 := fun g => h ((Fl.fin_z hs).1 g)
    have := Fl.fin_of hs (Nat.pos_of_ne_zero h)
    rw [if_neg hne] at this
    rw [if_neg hne, this, hR]
theorem fma5_main (a b c : Nat) (ha : a < 18446744073709551616) (hb : b < 18446744073709551616) (hc : c < 18446744073709551616) (ka : Fl.kd a < 3) (kb : Fl.kd b < 3) (kc : Fl.kd c < 3) :
    Ev fun k => tabardref5_Fma.j1 (k + 1) (a : Int) (b : Int) (c : Int) (Fl.ng a != Fl.ng b) false false = some (((if Fl.fsum a b c = 0 then (if (Fl.kd a = 0 ∨ Fl.kd b = 0) ∧ Fl.kd c = 0 ∧ (Fl.ng a != Fl.ng b) = true ∧ Fl.ng c = true then Fl.SG else 0) else Fl.pk (decide (Fl.fsum a b c < 0)) (Fl.rnd (Fl.fsum a b c).natAbs (-2148) false)) : Nat) : Int) := by
  have fa := Fl.kd_fin ka
  have fb := Fl.kd_fin kb
  have fc := Fl.kd_fin kc
  have sa : Fl.sh (Fl.ab a) ≤ 2045 := by unfold Fl.sh Fl.INF at *; omega
  have sb : Fl.sh (Fl.ab b) ≤ 2045 := by unfold Fl.sh Fl.INF at *; omega
  have sc : Fl.sh (Fl.ab c) ≤ 2045 := by unfold Fl.sh Fl.INF at *; omega
  have ma := Fl.mant_lt (Fl.ab a)
  have mb := Fl.mant_lt (Fl.ab b)
  have mc := Fl.mant_lt (Fl.ab c)
  have t1 := (split_ev a ha ka).and (split_ev b hb kb)
  have t2 := (nat_ev (Fl.mant (Fl.ab a)) (by omega)).and (nat_ev (Fl.mant (Fl.ab b)) (by omega))
  have t3 := exact4_ev c hc kc
  have t4 := (inf5_ev c).and ((zero5_ev a).and ((zero5_ev b).and (zero5_ev c)))
  obtain ⟨K, hK⟩ : ∃ K, K = 1074 := ⟨_, rfl⟩
  obtain ⟨L, hL⟩ : ∃ L, L = 140 := ⟨_, rfl⟩
  have t5 := fma5_lists (Fl.mant (Fl.ab a)) (Fl.mant (Fl.ab b)) (Fl.mant (Fl.ab c)) (Fl.sh (Fl.ab a)) (Fl.sh (Fl.ab b)) (Fl.sh (Fl.ab c)) K L hK hL (Fl.ng a != Fl.ng b) (Fl.ng c) ma mb mc sa sb sc
  have hs : Fl.fsum a b c = Fl.sgi (Fl.PS (Fl.ng a != Fl.ng b) (Fl.mant (Fl.ab a) * Fl.mant (Fl.ab b) * 2 ^ (Fl.sh (Fl.ab a) + Fl.sh (Fl.ab b))) (Fl.ng c) (Fl.mant (Fl.ab c) * 2 ^ Fl.sh (Fl.ab c) * 2 ^ K)).1 (Fl.PS (Fl.ng a != Fl.ng b) (Fl.mant (Fl.ab a) * Fl.mant (Fl.ab b) * 2 ^ (Fl.sh (Fl.ab a) + Fl.sh (Fl.ab b))) (Fl.ng c) (Fl.mant (Fl.ab c) * 2 ^ Fl.sh (Fl.ab c) * 2 ^ K)).2 := by
    rw [← Fl.PS_sgi, Fl.fsum_V, ← hK]
    unfold Fl.V
    rw [Nat.mul_mul_mul_comm, ← Nat.pow_add, Fl.p2_eq]
  unfold Fl.V at t3
  have hd : decide (Fl.kd c = 3) = false := decide_eq_false (by omega)
  rw [hd] at t4
  generalize Fl.PS (Fl.ng a != Fl.ng b) (Fl.mant (Fl.ab a) * Fl.mant (Fl.ab b) * 2 ^ (Fl.sh (Fl.ab a) + Fl.sh (Fl.ab b))) (Fl.ng c) (Fl.mant (Fl.ab c) * 2 ^ Fl.sh (Fl.ab c) * 2 ^ K) = z at *
  refine ((t1.and t2).and ((t3.and t4).and t5)).imp fun k ⟨⟨⟨h1, h2⟩, h3, h4⟩, ⟨h5, h6, h7, h8, h9⟩, ⟨h10, h11⟩, ⟨h12, h13⟩, h14⟩ => ?_
  have hw : wrap64 ((wrap64 ((((Fl.sh (Fl.ab a) : Nat) : Int) - 1074) + (((Fl.sh (Fl.ab b) : Nat) : Int) - 1074))) + 2148) = ((Fl.sh (Fl.ab a) + Fl.sh (Fl.ab b) : Nat) : Int) := by
    rw [w64 (n := (((Fl.sh (Fl.ab a) : Nat) : Int) - 1074) + (((Fl.sh (Fl.ab b) : Nat) : Int) - 1074)) (by omega) (by omega), w64 (by omega) (by omega)]; omega
  exact fma5_m_a k _ _ _ _ _ _ _ _ _ _ _ _ _ _ _ _ _ _ _ _ _ _ _ _ h6 h1 h2 h3 h4 h10 hw h11 h5 h12 h13 h7 h8 h9 (is3_eq c)
    (fma5_tail _ _ _ _ _ _ z hs _ (by simp only [Bool.and_eq_true, Bool.or_eq_true, decide_eq_true_eq, and_assoc]) _ h14)
theorem fma5_ev (a b c : Nat) (ha : a < 18446744073709551616) (hb : b < 18446744073709551616) (hc : c < 18446744073709551616) : Ev fun k => tabardref5_Fma.f k (a : Int) (b : Int) (c : Int) = some ((Fl.fmaN a b c : Nat) : Int) := by
  have T := ((none5_ev a).and ((none5_ev b).and (none5_ev c))).and (((inf5_ev a).and ((inf5_ev b).and (inf5_ev c))).and ((zero5_ev a).and (zero5_ev b)))
  have la := Fl.kd_le a
  have lb := Fl.kd_le b
  have lc := Fl.kd_le c
  have head : ∀ (p G : Bool), (decide (Fl.kd a = 3) || decide (Fl.kd b = 3)) = p → (decide (Fl.kd a = 4) || decide (Fl.kd b = 4) || decide (Fl.kd c = 4) || (p && (decide (Fl.kd a = 0) || decide (Fl.kd b = 0))) || (p && decide (Fl.kd c = 3) && (Fl.ng c != (Fl.ng a != Fl.ng b)))) = G →
      Ev fun k => tabardref5_Fma.f (k + 1) (a : Int) (b : Int) (c : Int) = tabardref5_Fma.j1 k (a : Int) (b : Int) (c : Int) (Fl.ng a != Fl.ng b) p G := by
    intro p G hp hG
    have ⟨K, h⟩ := T
    refine ⟨K, fun k hk => ?_⟩
    obtain ⟨⟨_, _, _⟩, ⟨b4, b5, _⟩, _, _⟩ := h (k + 1) (by omega)
    obtain ⟨⟨a1, a2, a3⟩, ⟨_, _, a6⟩, a7, a8⟩ := h k hk
    rw [fma5_f_a (k + 1) _ _ _ _ _ _ _ (is3_eq a) (is3_eq b) b4 b5, hp, fma5_j0_a k _ _ _ _ _ _ _ _ _ _ _ _ a1 a2 a3 a7 a8 a6 (is3_eq c), hG]
  have fin : ∀ (p G : Bool) (r : Nat), (decide (Fl.kd a = 3) || decide (Fl.kd b = 3)) = p → (decide (Fl.kd a = 4) || decide (Fl.kd b = 4) || decide (Fl.kd c = 4) || (p && (decide (Fl.kd a = 0) || decide (Fl.kd b = 0))) || (p && decide (Fl.kd c = 3) && (Fl.ng c != (Fl.ng a != Fl.ng b)))) = G →
      (Ev fun k => tabardref5_Fma.j1 (k + 1) (a : Int) (b : Int) (c : Int) (Fl.ng a != Fl.ng b) p G = some ((r : Nat) : Int)) → Ev fun k => tabardref5_Fma.f k (a : Int) (b : Int) (c : Int) = some ((r : Nat) : Int) := by
    intro p G r hp hG hj
    have ⟨K, h⟩ := (head p G hp hG)
    have ⟨J, g⟩ := hj
    refine ⟨K + J + 2, fun k hk => ?_⟩
    obtain ⟨k, rfl⟩ : ∃ j, k = j + 2 := ⟨k - 2, by omega⟩
    exact (h (k + 1) (by omega)).trans (g k (by omega))
  unfold Fl.fmaN
  by_cases c1 : Fl.kd a = 4 ∨ Fl.kd b = 4 ∨ Fl.kd c = 4 ∨ ((Fl.kd a = 3 ∨ Fl.kd b = 3) ∧ (Fl.kd a = 0 ∨ Fl.kd b = 0)) ∨ ((Fl.kd a = 3 ∨ Fl.kd b = 3) ∧ Fl.kd c = 3 ∧ Fl.ng c ≠ (Fl.ng a != Fl.ng b))
  · rw [if_pos c1]
    refine fin _ true _ rfl ?_ (Ev.of fun k => fma5_j1_nan k _ _ _ _ _)
    simp only [Bool.or_eq_true, Bool.and_eq_true, decide_eq_true_eq, bne_iff_ne, and_assoc, or_assoc]
    exact c1
  rw [if_neg c1]
  have hG : ∀ p, (decide (Fl.kd a = 3) || decide (Fl.kd b = 3)) = p → (decide (Fl.kd a = 4) || decide (Fl.kd b = 4) || decide (Fl.kd c = 4) || (p && (decide (Fl.kd a = 0) || decide (Fl.kd b = 0))) || (p && decide (Fl.kd c = 3) && (Fl.ng c != (Fl.ng a != Fl.ng b)))) = false := by
    intro p hp
    subst hp
    rw [← Bool.not_eq_true]
    simp only [Bool.or_eq_true, Bool.and_eq_true, decide_eq_true_eq, bne_iff_ne, and_assoc, or_assoc]
    exact c1
  by_cases c2 : Fl.kd a = 3 ∨ Fl.kd b = 3
  · rw [if_pos c2]
    have hp : (decide (Fl.kd a = 3) || decide (Fl.kd b = 3)) = true := by simp only [Bool.or_eq_true, decide_eq_true_eq]; exact c2
    refine fin true false _ hp (hG _ hp) (Ev.of fun k => ?_)
    rw [fma5_j1_inf]
    exact congrArg (fun o : Option Int => o.bind fun t => some t) (with5_eq (Fl.ng a != Fl.ng b) 9218868437227405312 (by decide))
  rw [if_neg c2]
  have hp : (decide (Fl.kd a = 3) || decide (Fl.kd b = 3)) = false := by rw [← Bool.not_eq_true]; simp only [Bool.or_eq_true, decide_eq_true_eq]; exact c2
  by_cases c3 : Fl.kd c = 3
  · rw [if_pos c3]
    have hi := inf5_ev c
    rw [decide_eq_true c3] at hi
    exact fin false false _ hp (hG _ hp) (hi.imp fun k h => fma5_j1_c k _ _ _ _ h)
  rw [if_neg c3]
  exact fin false false _ hp (hG _ hp) (fma5_main a b c ha hb hc (by omega) (by omega) (by omega))
end Go.Proofs.Ytaplggheadahhaa.R
