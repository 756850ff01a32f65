/- The walk of the law RootLeft. -/
import Derived.Test.YtaplggheadahhaaKB
import Derived.Test.YtaplggheadahhaaTB
import Derived.Test.YtaplggheadahhaaND
namespace Go.Proofs.Ytaplggheadahhaa
open Go.RowKit Go.Proofs.YtaplggheadahhaaW.PrintWords
set_option linter.unusedVariables false
set_option linter.unusedSimpArgs false

set_option maxHeartbeats 1000000 in
set_option maxRecDepth 100000 in
theorem rl_core (a b x y p q l m t : Nat) (e : Int) (n : Bool)
    (x1 : Int.tmod (a : Int) 4503599627370496 = (a : Int) % 4503599627370496) (x2 : IntKind.u64.wrap (4607182418800017408 + (a : Int) % 4503599627370496) = (x : Int))
    (y1 : Int.tmod (b : Int) 4503599627370496 = (b : Int) % 4503599627370496) (y2 : IntKind.u64.wrap (4607182418800017408 + (b : Int) % 4503599627370496) = (y : Int))
    (c1 : ∀ w, Calls Try.prog 24 #[.int .u64 (x : Int), .int .u64 (y : Int)] w fun e w' => e = .returned (.int .u64 (p : Int)) ∧ Below w.heap.size w w')
    (z1 : Go.bits .xor .u64 (p : Int) 9223372036854775808 = (q : Int))
    (c2 : ∀ w, Calls Try.prog 49 #[.int .u64 (x : Int), .int .u64 (y : Int), .int .u64 (q : Int)] w fun e w' => e = .returned (.int .u64 (l : Int)) ∧ Below w.heap.size w w')
    (c3 : ∀ w, Calls Try.prog 23 #[.int .u64 (p : Int), .int .u64 (l : Int)] w fun e w' => e = .returned (.int .u64 (p : Int)) ∧ Below w.heap.size w w')
    (c4 : ∀ w, Calls Try.prog 55 #[.int .u64 (l : Int)] w fun r w' => r = .returned (.tuple #[.bool n, .int .u64 (m : Int), .int .i64 e]) ∧ Below w.heap.size w w')
    (t1 : Int.tmod (l : Int) 9223372036854775808 = (t : Int)) (hm : m = 0 ∨ m ≠ 0) (he : -1074 ≤ e) (ht : t ≤ 4372995238176751616)
    (w : World) : Calls Try.prog 18 #[.int .u64 (a : Int), .int .u64 (b : Int)] w fun e w' => e = .returned (.bool true) ∧ Below w.heap.size w w' := by
  have b1 : decide (-1074 ≤ e) = true := decide_eq_true he
  have b2 : decide ((t : Int) ≤ 4372995238176751616) = true := decide_eq_true (by omega)
  have b3 : (t : Int) ≤ 4372995238176751616 := by omega
  rcases hm with rfl | hm
  · go_enter Try.func18, Try.ntmps18
    go_wp2_with fail
    refine (shown5 _).mono ?_
    rintro r w1 ⟨rfl, hb⟩
    have L := hb
    clear hb
    go_wp2_with fail
    refine (c1 _).mono ?_
    rintro r w2 ⟨rfl, hb⟩
    replace L := L.trans (hb.mono L.size)
    clear hb
    go_wp2_with fail
    refine (c2 _).mono ?_
    rintro r w3 ⟨rfl, hb⟩
    replace L := L.trans (hb.mono L.size)
    clear hb
    go_wp2_with fail
    refine (c3 _).mono ?_
    rintro r w4 ⟨rfl, hb⟩
    replace L := L.trans (hb.mono L.size)
    clear hb
    go_wp2_with fail
    refine (c4 _).mono ?_
    rintro r w5 ⟨rfl, hb⟩
    replace L := L.trans (hb.mono L.size)
    clear hb
    go_wp2
    go_ret
    exact ⟨rfl, L⟩
  · have m1 : ((m : Int) == 0) = false := by simp; omega
    go_enter Try.func18, Try.ntmps18
    go_wp2_with fail
    refine (shown5 _).mono ?_
    rintro r w1 ⟨rfl, hb⟩
    have L := hb
    clear hb
    go_wp2_with fail
    refine (c1 _).mono ?_
    rintro r w2 ⟨rfl, hb⟩
    replace L := L.trans (hb.mono L.size)
    clear hb
    go_wp2_with fail
    refine (c2 _).mono ?_
    rintro r w3 ⟨rfl, hb⟩
    replace L := L.trans (hb.mono L.size)
    clear hb
    go_wp2_with fail
    refine (c3 _).mono ?_
    rintro r w4 ⟨rfl, hb⟩
    replace L := L.trans (hb.mono L.size)
    clear hb
    go_wp2_with fail
    refine (c4 _).mono ?_
    rintro r w5 ⟨rfl, hb⟩
    replace L := L.trans (hb.mono L.size)
    clear hb
    go_wp2
    go_ret
    exact ⟨rfl, L⟩
theorem u64_in {n : Int} (h : 0 ≤ n) (h2 : n < 18446744073709551616) : IntKind.u64.wrap n = n := by
  obtain ⟨m, rfl⟩ : ∃ m : Nat, n = m := ⟨n.toNat, by omega⟩
  exact wrap_small (by omega)
theorem rsplit_any (l : Nat) (hl : l < 18446744073709551616) (hk : Fl.kd l < 3) (w : World) :
    Calls Try.prog 55 #[.int .u64 (l : Int)] w fun r w' => r = .returned (.tuple #[.bool (Fl.ng l), .int .u64 ((Fl.mant (Fl.ab l) : Nat) : Int), .int .i64 (((Fl.sh (Fl.ab l) : Nat) : Int) - 1074)]) ∧ Below w.heap.size w w' := by
  obtain ⟨k, h⟩ := (R.split_ev l hl hk).get
  refine (R.tabardref3_Split.calls k _ _ _ _ w h).mono ?_
  rintro r w' ⟨rfl, hd⟩
  exact ⟨rfl, hd.below⟩
theorem rleft_walk (a b : Nat) (ha : a < 18446744073709551616) (hb : b < 18446744073709551616) (w : World) :
    Calls Try.prog 18 #[.int .u64 (a : Int), .int .u64 (b : Int)] w fun e w' => e = .returned (.bool true) ∧ Below w.heap.size w w' := by
  obtain ⟨p, l, h⟩ := Fl.lefts (a % 4503599627370496) (b % 4503599627370496) (by omega) (by omega)
  have hp : p < 18446744073709551616 := by have := h.hp; unfold Fl.INF at this; omega
  have hq : p + 9223372036854775808 < 18446744073709551616 := by have := h.hp; unfold Fl.INF at this; omega
  have c1 := mul_any (4607182418800017408 + a % 4503599627370496) (4607182418800017408 + b % 4503599627370496) (by omega) (by omega)
  rw [h.hm] at c1
  have c2 := fma_any (4607182418800017408 + a % 4503599627370496) (4607182418800017408 + b % 4503599627370496) (p + 9223372036854775808) (by omega) (by omega) hq
  rw [h.fm] at c2
  have c3 := add_any p l hp h.hl
  rw [h.ad] at c3
  have c4 := rsplit_any l h.hl h.kl
  have z1 := xor_sign p hp
  have hp2 : p < 9223372036854775808 := by have := h.hp; unfold Fl.INF at this; omega
  rw [Fl.ng_of_lt hp2, Fl.ab_of_lt hp2, show Fl.pk (!false) p = p + 9223372036854775808 from rfl] at z1
  have hl := h.hl
  have hab := h.ab
  generalize Fl.mant (Fl.ab l) = m at *
  generalize Fl.ng l = n at *
  have he : (-1074 : Int) ≤ ((Fl.sh (Fl.ab l) : Nat) : Int) - 1074 := by omega
  generalize ((Fl.sh (Fl.ab l) : Nat) : Int) - 1074 = e at *
  exact rl_core a b _ _ p _ l m (Fl.ab l) e n (Int.tmod_eq_emod_of_nonneg (by omega)) (by rw [u64_in (by omega) (by omega)]; omega) (Int.tmod_eq_emod_of_nonneg (by omega)) (by rw [u64_in (by omega) (by omega)]; omega)
    c1 z1 c2 c3 c4 (by rw [Int.tmod_eq_emod_of_nonneg (by omega)]; unfold Fl.ab; omega) (by omega) he hab w
end Go.Proofs.Ytaplggheadahhaa
