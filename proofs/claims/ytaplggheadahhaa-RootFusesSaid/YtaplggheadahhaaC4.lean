/- The walks of arith.sum, one for each way through it (the exponents exchanged). -/
import Derived.Test.YtaplggheadahhaaA10
import Derived.Test.YtaplggheadahhaaC1
namespace Go.Proofs.Ytaplggheadahhaa
open Go.RowKit
set_option linter.unusedVariables false
set_option linter.unusedSimpArgs false

set_option maxHeartbeats 2000000 in
set_option maxRecDepth 100000 in
theorem sum_S_sw (a b ma mb XH XL YH YL R SH SL : Nat) (na nb c more : Bool) (ea eb U : Int)
    (h1 : ∀ w, Calls Try.prog 61 #[.int .u64 (a : Int)] w fun e w' => e = .returned (.tuple #[.bool nb, .int .u64 (mb : Int), .int .i64 eb]) ∧ w = w')
    (h2 : ∀ w, Calls Try.prog 61 #[.int .u64 (b : Int)] w fun e w' => e = .returned (.tuple #[.bool na, .int .u64 (ma : Int), .int .i64 ea]) ∧ w = w')
    (he1 : -1074 ≤ ea) (he2 : ea ≤ 1000) (he3 : -1074 ≤ eb) (he4 : eb ≤ 1000)
    (hs : eb < ea)
    (hU : min (ea - eb) 64 = U) (hU1 : 0 ≤ U) (hU2 : U ≤ 64)
    (h3 : ∀ w, Calls Try.prog 91 #[.agg #[.int .u64 0, .int .u64 (ma : Int)], .int .i64 U] w fun e w' => e = .returned (.agg #[.int .u64 (XH : Int), .int .u64 (XL : Int)]) ∧ Below w.heap.size w w')
    (h4 : ∀ w, Calls Try.prog 106 #[.agg #[.int .u64 0, .int .u64 (mb : Int)], .int .i64 (ea - U - eb)] w fun e w' => e = .returned (.tuple #[.agg #[.int .u64 (YH : Int), .int .u64 (YL : Int)], .bool more]) ∧ Below w.heap.size w w')
    (hn : (na == nb) = true)
    (h5 : ∀ w, Calls Try.prog 107 #[.agg #[.int .u64 (XH : Int), .int .u64 (XL : Int)], .agg #[.int .u64 (YH : Int), .int .u64 (YL : Int)]] w fun e w' => e = .returned (.tuple #[.agg #[.int .u64 (SH : Int), .int .u64 (SL : Int)], .bool c]) ∧ Below w.heap.size w w')
    (h6 : ∀ w, Calls Try.prog 62 #[.bool na, .agg #[.int .u64 (SH : Int), .int .u64 (SL : Int)], .int .i64 (ea - U), .bool more] w fun e w' => e = .returned (.int .u64 (R : Int)) ∧ Below w.heap.size w w')
    (w : World) : Calls Try.prog 59 #[.int .u64 (a : Int), .int .u64 (b : Int)] w fun e w' => e = .returned (.int .u64 (R : Int)) ∧ Below w.heap.size w w' := by
  go_enter Try.func59, Try.ntmps59
  go_wp2_with fail
  refine (h1 _).mono ?_
  rintro e w' ⟨rfl, rfl⟩
  go_wp2_with fail
  refine (h2 _).mono ?_
  rintro e w' ⟨rfl, rfl⟩
  go_wp2_with fail
  refine (h3 _).mono ?_
  rintro e w1 ⟨rfl, hb⟩
  have L1 := hb.alloc hb.size (.cells #[.int .u64 (XH : Int), .int .u64 (XL : Int)] 51)
  have B1 := Blk.new w1 51 #[.int .u64 (XH : Int), .int .u64 (XL : Int)]
  have z1 : w.heap.size ≤ w1.heap.size := hb.size
  clear hb
  go_wp2_with fail
  refine (h4 _).mono ?_
  rintro e w2 ⟨rfl, hb⟩
  replace B1 := B1.belowS hb
  have z2 := B1.lt
  replace L1 := L1.trans (hb.mono (by simp; omega))
  replace L1 := L1.alloc (by omega) (.cells #[.int .u64 (YH : Int), .int .u64 (YL : Int)] 51)
  replace B1 := B1.alloc (.cells #[.int .u64 (YH : Int), .int .u64 (YL : Int)] 51)
  have B2 := Blk.new w2 51 #[.int .u64 (YH : Int), .int .u64 (YL : Int)]
  have c10 := B1.cell 0 rfl
  have c11 := B1.cell 1 rfl
  clear hb
  go_wp2_with fail
  refine (h5 _).mono ?_
  rintro e w3 ⟨rfl, hb⟩
  replace L1 := L1.trans (hb.mono (by simp; omega))
  have z3 := hb.size
  simp at z3
  clear B1 B2 c10 c11
  go_wp2_with fail
  refine (h6 _).mono ?_
  rintro e w4 ⟨rfl, hb4⟩
  go_wp2
  go_ret
  refine ⟨rfl, ?_⟩
  exact (L1.alloc (by omega) _).trans (hb4.mono (by simp; omega))

set_option maxHeartbeats 2000000 in
set_option maxRecDepth 100000 in
theorem sum_M_sw (a b ma mb XH XL YH YL R ZH ZL DH DL : Nat) (na nb c : Bool) (ea eb U : Int)
    (h1 : ∀ w, Calls Try.prog 61 #[.int .u64 (a : Int)] w fun e w' => e = .returned (.tuple #[.bool nb, .int .u64 (mb : Int), .int .i64 eb]) ∧ w = w')
    (h2 : ∀ w, Calls Try.prog 61 #[.int .u64 (b : Int)] w fun e w' => e = .returned (.tuple #[.bool na, .int .u64 (ma : Int), .int .i64 ea]) ∧ w = w')
    (he1 : -1074 ≤ ea) (he2 : ea ≤ 1000) (he3 : -1074 ≤ eb) (he4 : eb ≤ 1000)
    (hs : eb < ea)
    (hU : min (ea - eb) 64 = U) (hU1 : 0 ≤ U) (hU2 : U ≤ 64)
    (h3 : ∀ w, Calls Try.prog 91 #[.agg #[.int .u64 0, .int .u64 (ma : Int)], .int .i64 U] w fun e w' => e = .returned (.agg #[.int .u64 (XH : Int), .int .u64 (XL : Int)]) ∧ Below w.heap.size w w')
    (h4 : ∀ w, Calls Try.prog 106 #[.agg #[.int .u64 0, .int .u64 (mb : Int)], .int .i64 (ea - U - eb)] w fun e w' => e = .returned (.tuple #[.agg #[.int .u64 (YH : Int), .int .u64 (YL : Int)], .bool true]) ∧ Below w.heap.size w w')
    (hn : (na == nb) = false)
    (h5 : ∀ w, Calls Try.prog 107 #[.agg #[.int .u64 (YH : Int), .int .u64 (YL : Int)], .agg #[.int .u64 0, .int .u64 1]] w fun e w' => e = .returned (.tuple #[.agg #[.int .u64 (ZH : Int), .int .u64 (ZL : Int)], .bool c]) ∧ Below w.heap.size w w')
    (h7 : ∀ w, Calls Try.prog 108 #[.agg #[.int .u64 (XH : Int), .int .u64 (XL : Int)], .agg #[.int .u64 (ZH : Int), .int .u64 (ZL : Int)]] w fun e w' => e = .returned (.tuple #[.agg #[.int .u64 (DH : Int), .int .u64 (DL : Int)], .bool false]) ∧ Below w.heap.size w w')
    (hd : ((DH : Int) == 0) = false)
    (h6 : ∀ w, Calls Try.prog 62 #[.bool na, .agg #[.int .u64 (DH : Int), .int .u64 (DL : Int)], .int .i64 (ea - U), .bool true] w fun e w' => e = .returned (.int .u64 (R : Int)) ∧ Below w.heap.size w w')
    (w : World) : Calls Try.prog 59 #[.int .u64 (a : Int), .int .u64 (b : Int)] w fun e w' => e = .returned (.int .u64 (R : Int)) ∧ Below w.heap.size w w' := by
  go_enter Try.func59, Try.ntmps59
  go_wp2_with fail
  refine (h1 _).mono ?_
  rintro e w' ⟨rfl, rfl⟩
  go_wp2_with fail
  refine (h2 _).mono ?_
  rintro e w' ⟨rfl, rfl⟩
  go_wp2_with fail
  refine (h3 _).mono ?_
  rintro e w1 ⟨rfl, hb⟩
  have L1 := hb.alloc hb.size (.cells #[.int .u64 (XH : Int), .int .u64 (XL : Int)] 51)
  have B1 := Blk.new w1 51 #[.int .u64 (XH : Int), .int .u64 (XL : Int)]
  have z1 : w.heap.size ≤ w1.heap.size := hb.size
  clear hb
  go_wp2_with fail
  refine (h4 _).mono ?_
  rintro e w2 ⟨rfl, hb⟩
  replace B1 := B1.belowS hb
  have z2 := B1.lt
  replace L1 := L1.trans (hb.mono (by simp; omega))
  replace L1 := L1.alloc (by omega) (.cells #[.int .u64 (YH : Int), .int .u64 (YL : Int)] 51)
  replace B1 := B1.alloc (.cells #[.int .u64 (YH : Int), .int .u64 (YL : Int)] 51)
  have B2 := Blk.new w2 51 #[.int .u64 (YH : Int), .int .u64 (YL : Int)]
  have c10 := B1.cell 0 rfl
  have c11 := B1.cell 1 rfl
  clear hb
  go_wp2_with fail
  refine (h5 _).mono ?_
  rintro e w3 ⟨rfl, hb⟩
  replace L1 := L1.trans (hb.mono (by simp; omega))
  replace B1 := B1.belowS hb
  replace B2 := B2.belowS hb
  have z3 := B2.lt
  clear c10 c11
  have c10 := B1.cell 0 rfl
  have c11 := B1.cell 1 rfl
  have c20 := B2.cell 0 rfl
  have c21 := B2.cell 1 rfl
  have f20 := B2.frozen 0
  have f21 := B2.frozen 1
  clear hb
  go_wp2_with fail
  refine (h7 _).mono ?_
  rintro e w4 ⟨rfl, hb⟩
  replace L1 := ((L1.setCell (p := ⟨w2.heap.size, 0, none⟩) (by simp; omega) (.int .u64 (ZH : Int))).setCell (p := ⟨w2.heap.size, 1, none⟩) (by simp; omega) (.int .u64 (ZL : Int))).trans (hb.mono (by simp; omega))
  have z4 := hb.size
  simp at z4
  clear B1 B2 c10 c11 c20 c21 f20 f21
  go_wp2_with fail
  refine (h6 _).mono ?_
  rintro e w5 ⟨rfl, hb5⟩
  go_wp2
  go_ret
  refine ⟨rfl, ?_⟩
  exact (L1.alloc (by omega) _).trans (hb5.mono (by simp; omega))

set_option maxHeartbeats 2000000 in
set_option maxRecDepth 100000 in
theorem sum_B_sw (a b ma mb XH XL YH YL R EH EL DH DL : Nat) (na nb c : Bool) (ea eb U : Int)
    (h1 : ∀ w, Calls Try.prog 61 #[.int .u64 (a : Int)] w fun e w' => e = .returned (.tuple #[.bool nb, .int .u64 (mb : Int), .int .i64 eb]) ∧ w = w')
    (h2 : ∀ w, Calls Try.prog 61 #[.int .u64 (b : Int)] w fun e w' => e = .returned (.tuple #[.bool na, .int .u64 (ma : Int), .int .i64 ea]) ∧ w = w')
    (he1 : -1074 ≤ ea) (he2 : ea ≤ 1000) (he3 : -1074 ≤ eb) (he4 : eb ≤ 1000)
    (hs : eb < ea)
    (hU : min (ea - eb) 64 = U) (hU1 : 0 ≤ U) (hU2 : U ≤ 64)
    (h3 : ∀ w, Calls Try.prog 91 #[.agg #[.int .u64 0, .int .u64 (ma : Int)], .int .i64 U] w fun e w' => e = .returned (.agg #[.int .u64 (XH : Int), .int .u64 (XL : Int)]) ∧ Below w.heap.size w w')
    (h4 : ∀ w, Calls Try.prog 106 #[.agg #[.int .u64 0, .int .u64 (mb : Int)], .int .i64 (ea - U - eb)] w fun e w' => e = .returned (.tuple #[.agg #[.int .u64 (YH : Int), .int .u64 (YL : Int)], .bool false]) ∧ Below w.heap.size w w')
    (hn : (na == nb) = false)
    (h5 : ∀ w, Calls Try.prog 108 #[.agg #[.int .u64 (XH : Int), .int .u64 (XL : Int)], .agg #[.int .u64 (YH : Int), .int .u64 (YL : Int)]] w fun e w' => e = .returned (.tuple #[.agg #[.int .u64 (EH : Int), .int .u64 (EL : Int)], .bool true]) ∧ Below w.heap.size w w')
    (h7 : ∀ w, Calls Try.prog 108 #[.agg #[.int .u64 (YH : Int), .int .u64 (YL : Int)], .agg #[.int .u64 (XH : Int), .int .u64 (XL : Int)]] w fun e w' => e = .returned (.tuple #[.agg #[.int .u64 (DH : Int), .int .u64 (DL : Int)], .bool c]) ∧ Below w.heap.size w w')
    (h6 : ∀ w, Calls Try.prog 62 #[.bool nb, .agg #[.int .u64 (DH : Int), .int .u64 (DL : Int)], .int .i64 (ea - U), .bool false] w fun e w' => e = .returned (.int .u64 (R : Int)) ∧ Below w.heap.size w w')
    (w : World) : Calls Try.prog 59 #[.int .u64 (a : Int), .int .u64 (b : Int)] w fun e w' => e = .returned (.int .u64 (R : Int)) ∧ Below w.heap.size w w' := by
  go_enter Try.func59, Try.ntmps59
  go_wp2_with fail
  refine (h1 _).mono ?_
  rintro e w' ⟨rfl, rfl⟩
  go_wp2_with fail
  refine (h2 _).mono ?_
  rintro e w' ⟨rfl, rfl⟩
  go_wp2_with fail
  refine (h3 _).mono ?_
  rintro e w1 ⟨rfl, hb⟩
  have L1 := hb.alloc hb.size (.cells #[.int .u64 (XH : Int), .int .u64 (XL : Int)] 51)
  have B1 := Blk.new w1 51 #[.int .u64 (XH : Int), .int .u64 (XL : Int)]
  have z1 : w.heap.size ≤ w1.heap.size := hb.size
  clear hb
  go_wp2_with fail
  refine (h4 _).mono ?_
  rintro e w2 ⟨rfl, hb⟩
  replace B1 := B1.belowS hb
  have z2 := B1.lt
  replace L1 := L1.trans (hb.mono (by simp; omega))
  replace L1 := L1.alloc (by omega) (.cells #[.int .u64 (YH : Int), .int .u64 (YL : Int)] 51)
  replace B1 := B1.alloc (.cells #[.int .u64 (YH : Int), .int .u64 (YL : Int)] 51)
  have B2 := Blk.new w2 51 #[.int .u64 (YH : Int), .int .u64 (YL : Int)]
  have c10 := B1.cell 0 rfl
  have c11 := B1.cell 1 rfl
  clear hb
  go_wp2_with fail
  refine (h5 _).mono ?_
  rintro e w3 ⟨rfl, hb⟩
  replace L1 := L1.trans (hb.mono (by simp; omega))
  replace B1 := B1.belowS hb
  replace B2 := B2.belowS hb
  have z3 := B2.lt
  replace L1 := L1.alloc (by omega) (.cells #[.int .u64 (EH : Int), .int .u64 (EL : Int)] 51)
  replace B1 := B1.alloc (.cells #[.int .u64 (EH : Int), .int .u64 (EL : Int)] 51)
  replace B2 := B2.alloc (.cells #[.int .u64 (EH : Int), .int .u64 (EL : Int)] 51)
  have B3 := Blk.new w3 51 #[.int .u64 (EH : Int), .int .u64 (EL : Int)]
  clear c10 c11
  have c10 := B1.cell 0 rfl
  have c11 := B1.cell 1 rfl
  have c20 := B2.cell 0 rfl
  have c21 := B2.cell 1 rfl
  clear hb
  go_wp2_with fail
  refine (h7 _).mono ?_
  rintro e w4 ⟨rfl, hb⟩
  replace L1 := L1.trans (hb.mono (by simp; omega))
  replace B3 := B3.belowS hb
  have z4 := B3.lt
  clear B1 B2 c10 c11 c20 c21 hb
  have c30 := B3.cell 0 rfl
  have c31 := B3.cell 1 rfl
  have f30 := B3.frozen 0
  have f31 := B3.frozen 1
  go_wp2_with fail
  refine (h6 _).mono ?_
  rintro e w5 ⟨rfl, hb5⟩
  go_wp2
  go_ret
  refine ⟨rfl, ?_⟩
  exact ((L1.setCell (by simp; omega) _).setCell (by simp; omega) _).trans (hb5.mono (by simp; omega))

set_option maxHeartbeats 2000000 in
set_option maxRecDepth 100000 in
theorem sum_Z_sw (a b ma mb XH XL YH YL : Nat) (na nb : Bool) (ea eb U : Int)
    (h1 : ∀ w, Calls Try.prog 61 #[.int .u64 (a : Int)] w fun e w' => e = .returned (.tuple #[.bool nb, .int .u64 (mb : Int), .int .i64 eb]) ∧ w = w')
    (h2 : ∀ w, Calls Try.prog 61 #[.int .u64 (b : Int)] w fun e w' => e = .returned (.tuple #[.bool na, .int .u64 (ma : Int), .int .i64 ea]) ∧ w = w')
    (he1 : -1074 ≤ ea) (he2 : ea ≤ 1000) (he3 : -1074 ≤ eb) (he4 : eb ≤ 1000)
    (hs : eb < ea)
    (hU : min (ea - eb) 64 = U) (hU1 : 0 ≤ U) (hU2 : U ≤ 64)
    (h3 : ∀ w, Calls Try.prog 91 #[.agg #[.int .u64 0, .int .u64 (ma : Int)], .int .i64 U] w fun e w' => e = .returned (.agg #[.int .u64 (XH : Int), .int .u64 (XL : Int)]) ∧ Below w.heap.size w w')
    (h4 : ∀ w, Calls Try.prog 106 #[.agg #[.int .u64 0, .int .u64 (mb : Int)], .int .i64 (ea - U - eb)] w fun e w' => e = .returned (.tuple #[.agg #[.int .u64 (YH : Int), .int .u64 (YL : Int)], .bool false]) ∧ Below w.heap.size w w')
    (hn : (na == nb) = false)
    (h5 : ∀ w, Calls Try.prog 108 #[.agg #[.int .u64 (XH : Int), .int .u64 (XL : Int)], .agg #[.int .u64 (YH : Int), .int .u64 (YL : Int)]] w fun e w' => e = .returned (.tuple #[.agg #[.int .u64 0, .int .u64 0], .bool false]) ∧ Below w.heap.size w w')
    (w : World) : Calls Try.prog 59 #[.int .u64 (a : Int), .int .u64 (b : Int)] w fun e w' => e = .returned (.int .u64 0) ∧ Below w.heap.size w w' := by
  go_enter Try.func59, Try.ntmps59
  go_wp2_with fail
  refine (h1 _).mono ?_
  rintro e w' ⟨rfl, rfl⟩
  go_wp2_with fail
  refine (h2 _).mono ?_
  rintro e w' ⟨rfl, rfl⟩
  go_wp2_with fail
  refine (h3 _).mono ?_
  rintro e w1 ⟨rfl, hb⟩
  have L1 := hb.alloc hb.size (.cells #[.int .u64 (XH : Int), .int .u64 (XL : Int)] 51)
  have B1 := Blk.new w1 51 #[.int .u64 (XH : Int), .int .u64 (XL : Int)]
  have z1 : w.heap.size ≤ w1.heap.size := hb.size
  clear hb
  go_wp2_with fail
  refine (h4 _).mono ?_
  rintro e w2 ⟨rfl, hb⟩
  replace B1 := B1.belowS hb
  have z2 := B1.lt
  replace L1 := L1.trans (hb.mono (by simp; omega))
  replace L1 := L1.alloc (by omega) (.cells #[.int .u64 (YH : Int), .int .u64 (YL : Int)] 51)
  replace B1 := B1.alloc (.cells #[.int .u64 (YH : Int), .int .u64 (YL : Int)] 51)
  have B2 := Blk.new w2 51 #[.int .u64 (YH : Int), .int .u64 (YL : Int)]
  have c10 := B1.cell 0 rfl
  have c11 := B1.cell 1 rfl
  clear hb
  go_wp2_with fail
  refine (h5 _).mono ?_
  rintro e w3 ⟨rfl, hb⟩
  replace L1 := L1.trans (hb.mono (by simp; omega))
  have z3 := hb.size
  simp at z3
  clear B1 B2 c10 c11
  go_wp2
  go_ret
  refine ⟨rfl, ?_⟩
  exact L1.alloc (by omega) _

set_option maxHeartbeats 2000000 in
set_option maxRecDepth 100000 in
theorem sum_D1_sw (a b ma mb XH XL YH YL R DH DL : Nat) (na nb : Bool) (ea eb U : Int)
    (h1 : ∀ w, Calls Try.prog 61 #[.int .u64 (a : Int)] w fun e w' => e = .returned (.tuple #[.bool nb, .int .u64 (mb : Int), .int .i64 eb]) ∧ w = w')
    (h2 : ∀ w, Calls Try.prog 61 #[.int .u64 (b : Int)] w fun e w' => e = .returned (.tuple #[.bool na, .int .u64 (ma : Int), .int .i64 ea]) ∧ w = w')
    (he1 : -1074 ≤ ea) (he2 : ea ≤ 1000) (he3 : -1074 ≤ eb) (he4 : eb ≤ 1000)
    (hs : eb < ea)
    (hU : min (ea - eb) 64 = U) (hU1 : 0 ≤ U) (hU2 : U ≤ 64)
    (h3 : ∀ w, Calls Try.prog 91 #[.agg #[.int .u64 0, .int .u64 (ma : Int)], .int .i64 U] w fun e w' => e = .returned (.agg #[.int .u64 (XH : Int), .int .u64 (XL : Int)]) ∧ Below w.heap.size w w')
    (h4 : ∀ w, Calls Try.prog 106 #[.agg #[.int .u64 0, .int .u64 (mb : Int)], .int .i64 (ea - U - eb)] w fun e w' => e = .returned (.tuple #[.agg #[.int .u64 (YH : Int), .int .u64 (YL : Int)], .bool false]) ∧ Below w.heap.size w w')
    (hn : (na == nb) = false)
    (h5 : ∀ w, Calls Try.prog 108 #[.agg #[.int .u64 (XH : Int), .int .u64 (XL : Int)], .agg #[.int .u64 (YH : Int), .int .u64 (YL : Int)]] w fun e w' => e = .returned (.tuple #[.agg #[.int .u64 (DH : Int), .int .u64 (DL : Int)], .bool false]) ∧ Below w.heap.size w w')
    (hd : ((DH : Int) == 0) = false)
    (h6 : ∀ w, Calls Try.prog 62 #[.bool na, .agg #[.int .u64 (DH : Int), .int .u64 (DL : Int)], .int .i64 (ea - U), .bool false] w fun e w' => e = .returned (.int .u64 (R : Int)) ∧ Below w.heap.size w w')
    (w : World) : Calls Try.prog 59 #[.int .u64 (a : Int), .int .u64 (b : Int)] w fun e w' => e = .returned (.int .u64 (R : Int)) ∧ Below w.heap.size w w' := by
  go_enter Try.func59, Try.ntmps59
  go_wp2_with fail
  refine (h1 _).mono ?_
  rintro e w' ⟨rfl, rfl⟩
  go_wp2_with fail
  refine (h2 _).mono ?_
  rintro e w' ⟨rfl, rfl⟩
  go_wp2_with fail
  refine (h3 _).mono ?_
  rintro e w1 ⟨rfl, hb⟩
  have L1 := hb.alloc hb.size (.cells #[.int .u64 (XH : Int), .int .u64 (XL : Int)] 51)
  have B1 := Blk.new w1 51 #[.int .u64 (XH : Int), .int .u64 (XL : Int)]
  have z1 : w.heap.size ≤ w1.heap.size := hb.size
  clear hb
  go_wp2_with fail
  refine (h4 _).mono ?_
  rintro e w2 ⟨rfl, hb⟩
  replace B1 := B1.belowS hb
  have z2 := B1.lt
  replace L1 := L1.trans (hb.mono (by simp; omega))
  replace L1 := L1.alloc (by omega) (.cells #[.int .u64 (YH : Int), .int .u64 (YL : Int)] 51)
  replace B1 := B1.alloc (.cells #[.int .u64 (YH : Int), .int .u64 (YL : Int)] 51)
  have B2 := Blk.new w2 51 #[.int .u64 (YH : Int), .int .u64 (YL : Int)]
  have c10 := B1.cell 0 rfl
  have c11 := B1.cell 1 rfl
  clear hb
  go_wp2_with fail
  refine (h5 _).mono ?_
  rintro e w3 ⟨rfl, hb⟩
  replace L1 := L1.trans (hb.mono (by simp; omega))
  have z3 := hb.size
  simp at z3
  clear B1 B2 c10 c11
  go_wp2_with fail
  refine (h6 _).mono ?_
  rintro e w4 ⟨rfl, hb4⟩
  go_wp2
  go_ret
  refine ⟨rfl, ?_⟩
  exact (L1.alloc (by omega) _).trans (hb4.mono (by simp; omega))

set_option maxHeartbeats 2000000 in
set_option maxRecDepth 100000 in
theorem sum_D2_sw (a b ma mb XH XL YH YL R DL : Nat) (na nb : Bool) (ea eb U : Int)
    (h1 : ∀ w, Calls Try.prog 61 #[.int .u64 (a : Int)] w fun e w' => e = .returned (.tuple #[.bool nb, .int .u64 (mb : Int), .int .i64 eb]) ∧ w = w')
    (h2 : ∀ w, Calls Try.prog 61 #[.int .u64 (b : Int)] w fun e w' => e = .returned (.tuple #[.bool na, .int .u64 (ma : Int), .int .i64 ea]) ∧ w = w')
    (he1 : -1074 ≤ ea) (he2 : ea ≤ 1000) (he3 : -1074 ≤ eb) (he4 : eb ≤ 1000)
    (hs : eb < ea)
    (hU : min (ea - eb) 64 = U) (hU1 : 0 ≤ U) (hU2 : U ≤ 64)
    (h3 : ∀ w, Calls Try.prog 91 #[.agg #[.int .u64 0, .int .u64 (ma : Int)], .int .i64 U] w fun e w' => e = .returned (.agg #[.int .u64 (XH : Int), .int .u64 (XL : Int)]) ∧ Below w.heap.size w w')
    (h4 : ∀ w, Calls Try.prog 106 #[.agg #[.int .u64 0, .int .u64 (mb : Int)], .int .i64 (ea - U - eb)] w fun e w' => e = .returned (.tuple #[.agg #[.int .u64 (YH : Int), .int .u64 (YL : Int)], .bool false]) ∧ Below w.heap.size w w')
    (hn : (na == nb) = false)
    (h5 : ∀ w, Calls Try.prog 108 #[.agg #[.int .u64 (XH : Int), .int .u64 (XL : Int)], .agg #[.int .u64 (YH : Int), .int .u64 (YL : Int)]] w fun e w' => e = .returned (.tuple #[.agg #[.int .u64 0, .int .u64 (DL : Int)], .bool false]) ∧ Below w.heap.size w w')
    (hd : ((DL : Int) == 0) = false)
    (h6 : ∀ w, Calls Try.prog 62 #[.bool na, .agg #[.int .u64 0, .int .u64 (DL : Int)], .int .i64 (ea - U), .bool false] w fun e w' => e = .returned (.int .u64 (R : Int)) ∧ Below w.heap.size w w')
    (w : World) : Calls Try.prog 59 #[.int .u64 (a : Int), .int .u64 (b : Int)] w fun e w' => e = .returned (.int .u64 (R : Int)) ∧ Below w.heap.size w w' := by
  go_enter Try.func59, Try.ntmps59
  go_wp2_with fail
  refine (h1 _).mono ?_
  rintro e w' ⟨rfl, rfl⟩
  go_wp2_with fail
  refine (h2 _).mono ?_
  rintro e w' ⟨rfl, rfl⟩
  go_wp2_with fail
  refine (h3 _).mono ?_
  rintro e w1 ⟨rfl, hb⟩
  have L1 := hb.alloc hb.size (.cells #[.int .u64 (XH : Int), .int .u64 (XL : Int)] 51)
  have B1 := Blk.new w1 51 #[.int .u64 (XH : Int), .int .u64 (XL : Int)]
  have z1 : w.heap.size ≤ w1.heap.size := hb.size
  clear hb
  go_wp2_with fail
  refine (h4 _).mono ?_
  rintro e w2 ⟨rfl, hb⟩
  replace B1 := B1.belowS hb
  have z2 := B1.lt
  replace L1 := L1.trans (hb.mono (by simp; omega))
  replace L1 := L1.alloc (by omega) (.cells #[.int .u64 (YH : Int), .int .u64 (YL : Int)] 51)
  replace B1 := B1.alloc (.cells #[.int .u64 (YH : Int), .int .u64 (YL : Int)] 51)
  have B2 := Blk.new w2 51 #[.int .u64 (YH : Int), .int .u64 (YL : Int)]
  have c10 := B1.cell 0 rfl
  have c11 := B1.cell 1 rfl
  clear hb
  go_wp2_with fail
  refine (h5 _).mono ?_
  rintro e w3 ⟨rfl, hb⟩
  replace L1 := L1.trans (hb.mono (by simp; omega))
  have z3 := hb.size
  simp at z3
  clear B1 B2 c10 c11
  go_wp2_with fail
  refine (h6 _).mono ?_
  rintro e w4 ⟨rfl, hb4⟩
  go_wp2
  go_ret
  refine ⟨rfl, ?_⟩
  exact (L1.alloc (by omega) _).trans (hb4.mono (by simp; omega))

end Go.Proofs.Ytaplggheadahhaa
