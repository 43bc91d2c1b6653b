/- Part 6 of the proofs that: What the statements SensorChecks, SensorTakes and SensorVotes rest on. -/
import Derived.Test.YtdoailkigecmkaaGreatDoorV5
import Derived.Test.YtdoailkigecmkaaGreatDoorProg
set_option linter.unusedVariables false
set_option linter.unusedSimpArgs false
set_option maxRecDepth 100000
namespace Go.Proofs.YtdoailkigecmkaaGreatDoor.F
open Go Go.RowKit Go.Proofs Go.Proofs.YtdoailkigecmkaaGreatDoor.Vc
noncomputable def integer_Valid.cx (w : World) (B : Nat) (R : Value → World → Prop) : Cx := ⟨Tryz.prog, 113, 11, Tryz.f113.results.toList, [], [], w, B, R⟩
theorem integer_Valid.vc (sp0 : ByteArray) (w : World) (R : Value → World → Prop)
    (h : (Pure Tryz.prog 130 #[(.string sp0)] w fun r4 w5 => ∃ (b1 : Bool) (s2 : ByteArray) (b3 : Bool), r4 = (.tuple #[(.agg #[(.bool b1), (.string s2)]), (.bool b3)]) ∧ (∀ w6, Ext w.heap.size [] w5 w6 → (R (.bool b3) w6)))) :
    Pure Tryz.prog 113 #[(.string sp0)] w R :=
  pure_of_run (integer_Valid.cx w w.heap.size R) 100000 follows Tryz.func113 rfl rfl rfl rfl rfl rfl rfl (Eq.mp (by kernel_rfl) h)

noncomputable def integer_Mul.cx (w : World) (B : Nat) (R : Value → World → Prop) : Cx := ⟨Tryz.prog, 122, 23, Tryz.f122.results.toList, [], [], w, B, R⟩
theorem integer_Mul.vc (sp0 : ByteArray) (sp1 : ByteArray) (w : World) (R : Value → World → Prop)
    (h : (Pure Tryz.prog 138 #[(.string sp0), (.string sp1)] w fun r6 w7 => ∃ (b1 : Bool) (s2 : ByteArray) (b3 : Bool) (s4 : ByteArray) (i5 : Int), r6 = (.tuple #[(.agg #[(.bool b1), (.string s2)]), (.agg #[(.bool b3), (.string s4)]), (.int .i64 i5)]) ∧ ((((i5 : Int) ≠ (0 : Int)) → (∀ w8, Ext w.heap.size [] w7 w8 → (R (.tuple #[(.string (⟨#[]⟩ : ByteArray)), (.int .i64 i5)]) w8))) ∧ (¬ ((i5 : Int) ≠ (0 : Int)) → (∀ w9, Ext w.heap.size [] w7 w9 → (Pure Tryz.prog 139 #[(.agg #[(.bool b1), (.string s2)]), (.agg #[(.bool b3), (.string s4)])] w9 fun r12 w13 => ∃ (b10 : Bool) (s11 : ByteArray), r12 = (.agg #[(.bool b10), (.string s11)]) ∧ (Pure Tryz.prog 140 #[(.agg #[(.bool b10), (.string s11)])] w13 fun r15 w16 => ∃ (s14 : ByteArray), r15 = (.string s14) ∧ (R (.tuple #[(.string s14), (.int .i64 (0 : Int))]) w16)))))))) :
    Pure Tryz.prog 122 #[(.string sp0), (.string sp1)] w R :=
  pure_of_run (integer_Mul.cx w w.heap.size R) 100000 follows Tryz.func122 rfl rfl rfl rfl rfl rfl rfl (Eq.mp (by kernel_rfl) h)

noncomputable def integer_Compare.cx (w : World) (B : Nat) (R : Value → World → Prop) : Cx := ⟨Tryz.prog, 123, 22, Tryz.f123.results.toList, [], [], w, B, R⟩
theorem integer_Compare.vc (sp0 : ByteArray) (sp1 : ByteArray) (w : World) (R : Value → World → Prop)
    (h : (Pure Tryz.prog 138 #[(.string sp0), (.string sp1)] w fun r6 w7 => ∃ (b1 : Bool) (s2 : ByteArray) (b3 : Bool) (s4 : ByteArray) (i5 : Int), r6 = (.tuple #[(.agg #[(.bool b1), (.string s2)]), (.agg #[(.bool b3), (.string s4)]), (.int .i64 i5)]) ∧ (∀ w8, Ext w.heap.size [] w7 w8 → (Pure Tryz.prog 142 #[(.agg #[(.bool b3), (.string s4)])] w8 fun r11 w12 => ∃ (b9 : Bool) (s10 : ByteArray), r11 = (.agg #[(.bool b9), (.string s10)]) ∧ (Pure Tryz.prog 141 #[(.agg #[(.bool b1), (.string s2)]), (.agg #[(.bool b9), (.string s10)])] w12 fun r15 w16 => ∃ (b13 : Bool) (s14 : ByteArray), r15 = (.agg #[(.bool b13), (.string s14)]) ∧ (Pure Tryz.prog 143 #[(.agg #[(.bool b13), (.string s14)])] w16 fun r18 w19 => ∃ (i17 : Int), r18 = (.int .i64 i17) ∧ (R (.tuple #[(.int .i64 i17), (.int .i64 i5)]) w19))))))) :
    Pure Tryz.prog 123 #[(.string sp0), (.string sp1)] w R :=
  pure_of_run (integer_Compare.cx w w.heap.size R) 100000 follows Tryz.func123 rfl rfl rfl rfl rfl rfl rfl (Eq.mp (by kernel_rfl) h)

noncomputable def integer_read.cx (w : World) (B : Nat) (R : Value → World → Prop) : Cx := ⟨Tryz.prog, 130, 23, Tryz.f130.results.toList, [], [], w, B, R⟩
theorem integer_read.vc (sp0 : ByteArray) (w : World) (R : Value → World → Prop)
    (h : (∀ w1, Ext w.heap.size [] w w1 → (Pure Tryz.prog 145 #[(.string sp0), (.string (⟨#[45]⟩ : ByteArray))] w1 fun r4 w5 => ∃ (s2 : ByteArray) (b3 : Bool), r4 = (.tuple #[(.string s2), (.bool b3)]) ∧ (∀ w6, Ext w.heap.size [] w5 w6 → (Pure Tryz.prog 114 #[(.string s2)] w6 fun r8 w9 => ∃ (b7 : Bool), r8 = (.bool b7) ∧ ((b7 = true → ((∀ w10, Ext w.heap.size [157] w9 w10 → (R (.tuple #[(.agg #[(.bool b3), (.string s2)]), (.bool (decide (¬ (b3 = true ∧ s2 = (⟨#[48]⟩ : ByteArray) ∧ True))))]) w10)) ∧ (∀ w11, Ext w.heap.size [157] w9 w11 → (R (.tuple #[(.agg #[(.bool b3), (.string s2)]), (.bool (decide (¬ (b3 = true ∧ s2 = (⟨#[48]⟩ : ByteArray) ∧ True))))]) w11)))) ∧ (b7 = false → ((∀ w12, Ext w.heap.size [157] w9 w12 → (R (.tuple #[(.agg #[(.bool b3), (.string s2)]), (.bool false)]) w12)) ∧ (∀ w13, Ext w.heap.size [157] w9 w13 → (R (.tuple #[(.agg #[(.bool b3), (.string s2)]), (.bool false)]) w13)))))))))) :
    Pure Tryz.prog 130 #[(.string sp0)] w R :=
  pure_of_run (integer_read.cx w w.heap.size R) 100000 follows Tryz.func130 rfl rfl rfl rfl rfl rfl rfl (Eq.mp (by kernel_rfl) h)

noncomputable def integer_Abs.cx (w : World) (B : Nat) (R : Value → World → Prop) : Cx := ⟨Tryz.prog, 131, 16, Tryz.f131.results.toList, [], [], w, B, R⟩
theorem integer_Abs.vc (sp0 : ByteArray) (w : World) (R : Value → World → Prop)
    (h : (Pure Tryz.prog 146 #[(.string sp0)] w fun r4 w5 => ∃ (b1 : Bool) (s2 : ByteArray) (i3 : Int), r4 = (.tuple #[(.agg #[(.bool b1), (.string s2)]), (.int .i64 i3)]) ∧ ((((i3 : Int) ≠ (0 : Int)) → (∀ w6, Ext w.heap.size [] w5 w6 → (R (.tuple #[(.string (⟨#[]⟩ : ByteArray)), (.int .i64 i3)]) w6))) ∧ (¬ ((i3 : Int) ≠ (0 : Int)) → (∀ w7, Ext w.heap.size [] w5 w7 → (R (.tuple #[(.string s2), (.int .i64 (0 : Int))]) w7)))))) :
    Pure Tryz.prog 131 #[(.string sp0)] w R :=
  pure_of_run (integer_Abs.cx w w.heap.size R) 100000 follows Tryz.func131 rfl rfl rfl rfl rfl rfl rfl (Eq.mp (by kernel_rfl) h)

noncomputable def integer_Sign.cx (w : World) (B : Nat) (R : Value → World → Prop) : Cx := ⟨Tryz.prog, 137, 14, Tryz.f137.results.toList, [], [], w, B, R⟩
theorem integer_Sign.vc (sp0 : ByteArray) (w : World) (R : Value → World → Prop)
    (h : (Pure Tryz.prog 146 #[(.string sp0)] w fun r4 w5 => ∃ (b1 : Bool) (s2 : ByteArray) (i3 : Int), r4 = (.tuple #[(.agg #[(.bool b1), (.string s2)]), (.int .i64 i3)]) ∧ (∀ w6, Ext w.heap.size [] w5 w6 → (Pure Tryz.prog 143 #[(.agg #[(.bool b1), (.string s2)])] w6 fun r8 w9 => ∃ (i7 : Int), r8 = (.int .i64 i7) ∧ (R (.tuple #[(.int .i64 i7), (.int .i64 i3)]) w9))))) :
    Pure Tryz.prog 137 #[(.string sp0)] w R :=
  pure_of_run (integer_Sign.cx w w.heap.size R) 100000 follows Tryz.func137 rfl rfl rfl rfl rfl rfl rfl (Eq.mp (by kernel_rfl) h)

noncomputable def integer_both.cx (w : World) (B : Nat) (R : Value → World → Prop) : Cx := ⟨Tryz.prog, 138, 31, Tryz.f138.results.toList, [], [], w, B, R⟩
theorem integer_both.vc (sp0 : ByteArray) (sp1 : ByteArray) (w : World) (R : Value → World → Prop)
    (h : (∀ w1, Ext w.heap.size [] w w1 → (Pure Tryz.prog 130 #[(.string sp0)] w1 fun r5 w6 => ∃ (b2 : Bool) (s3 : ByteArray) (b4 : Bool), r5 = (.tuple #[(.agg #[(.bool b2), (.string s3)]), (.bool b4)]) ∧ (∀ w7, Ext w.heap.size [] w6 w7 → (Pure Tryz.prog 130 #[(.string sp1)] w7 fun r11 w12 => ∃ (b8 : Bool) (s9 : ByteArray) (b10 : Bool), r11 = (.tuple #[(.agg #[(.bool b8), (.string s9)]), (.bool b10)]) ∧ (((b4 = false) → (∀ w13, Ext w.heap.size [] w12 w13 → (Pure Tryz.prog 153 #[] w13 fun r16 w17 => ∃ (b14 : Bool) (s15 : ByteArray), r16 = (.agg #[(.bool b14), (.string s15)]) ∧ (Pure Tryz.prog 153 #[] w17 fun r20 w21 => ∃ (b18 : Bool) (s19 : ByteArray), r20 = (.agg #[(.bool b18), (.string s19)]) ∧ (∀ w22, Ext w.heap.size [157] w21 w22 → (R (.tuple #[(.agg #[(.bool b14), (.string s15)]), (.agg #[(.bool b18), (.string s19)]), (.int .i64 (1 : Int))]) w22)))))) ∧ (¬ (b4 = false) → (((b10 = false) → (∀ w23, Ext w.heap.size [] w12 w23 → (Pure Tryz.prog 153 #[] w23 fun r26 w27 => ∃ (b24 : Bool) (s25 : ByteArray), r26 = (.agg #[(.bool b24), (.string s25)]) ∧ (Pure Tryz.prog 153 #[] w27 fun r30 w31 => ∃ (b28 : Bool) (s29 : ByteArray), r30 = (.agg #[(.bool b28), (.string s29)]) ∧ (∀ w32, Ext w.heap.size [157] w31 w32 → (R (.tuple #[(.agg #[(.bool b24), (.string s25)]), (.agg #[(.bool b28), (.string s29)]), (.int .i64 (1 : Int))]) w32)))))) ∧ (¬ (b10 = false) → ((∀ w33, Ext w.heap.size [157] w12 w33 → (R (.tuple #[(.agg #[(.bool b2), (.string s3)]), (.agg #[(.bool b8), (.string s9)]), (.int .i64 (0 : Int))]) w33)) ∧ (∀ w34, Ext w.heap.size [157] w12 w34 → (R (.tuple #[(.agg #[(.bool b2), (.string s3)]), (.agg #[(.bool b8), (.string s9)]), (.int .i64 (0 : Int))]) w34)))))))))))) :
    Pure Tryz.prog 138 #[(.string sp0), (.string sp1)] w R :=
  pure_of_run (integer_both.cx w w.heap.size R) 100000 follows Tryz.func138 rfl rfl rfl rfl rfl rfl rfl (Eq.mp (by kernel_rfl) h)

noncomputable def integer_number_times.cx (w : World) (B : Nat) (R : Value → World → Prop) : Cx := ⟨Tryz.prog, 139, 22, Tryz.f139.results.toList, [], [], w, B, R⟩
theorem integer_number_times.vc (bp0_0 : Bool) (sp0_1 : ByteArray) (bp1_0 : Bool) (sp1_1 : ByteArray) (w : World) (R : Value → World → Prop)
    (h : (∀ w1, Ext w.heap.size [] w w1 → (Pure Tryz.prog 154 #[(.string sp0_1), (.string sp1_1)] w1 fun r4 w5 => ∃ (s2 : ByteArray) (i3 : Int), r4 = (.tuple #[(.string s2), (.int .i64 i3)]) ∧ (Pure Tryz.prog 155 #[(.bool (decide (¬ ((bp0_0 : Bool) = bp1_0)))), (.string s2)] w5 fun r8 w9 => ∃ (b6 : Bool) (s7 : ByteArray), r8 = (.agg #[(.bool b6), (.string s7)]) ∧ (∀ w10, Ext w.heap.size [157] w9 w10 → (R (.agg #[(.bool b6), (.string s7)]) w10)))))) :
    Pure Tryz.prog 139 #[(.agg #[(.bool bp0_0), (.string sp0_1)]), (.agg #[(.bool bp1_0), (.string sp1_1)])] w R :=
  pure_of_run (integer_number_times.cx w w.heap.size R) 100000 follows Tryz.func139 rfl rfl rfl rfl rfl rfl rfl (Eq.mp (by kernel_rfl) h)

noncomputable def integer_number_text.cx (w : World) (B : Nat) (R : Value → World → Prop) : Cx := ⟨Tryz.prog, 140, 10, Tryz.f140.results.toList, [], [], w, B, R⟩
theorem integer_number_text.vc (bp0_0 : Bool) (sp0_1 : ByteArray) (w : World) (R : Value → World → Prop)
    (h : ((bp0_0 = true → (ByteArray.size (⟨#[45]⟩ : ByteArray) + ByteArray.size sp0_1 ≤ 9223372036854775807 ∧ (∀ w1, Ext w.heap.size [] w w1 → (R (.string ((⟨#[45]⟩ : ByteArray) ++ sp0_1)) w1)))) ∧ (bp0_0 = false → (∀ w2, Ext w.heap.size [] w w2 → (R (.string sp0_1) w2))))) :
    Pure Tryz.prog 140 #[(.agg #[(.bool bp0_0), (.string sp0_1)])] w R :=
  pure_of_run (integer_number_text.cx w w.heap.size R) 100000 follows Tryz.func140 rfl rfl rfl rfl rfl rfl rfl (Eq.mp (by kernel_rfl) h)

noncomputable def integer_number_plus.cx (w : World) (B : Nat) (R : Value → World → Prop) : Cx := ⟨Tryz.prog, 141, 21, Tryz.f141.results.toList, [], [(2, 6, 1), (2, 7, 1)], w, B, R⟩
theorem integer_number_plus.vc (bp0_0 : Bool) (sp0_1 : ByteArray) (bp1_0 : Bool) (sp1_1 : ByteArray) (w : World) (R : Value → World → Prop)
    (h : (∀ w1, Ext w.heap.size [] w w1 → (Pure Tryz.prog 158 #[(.bool bp0_0)] w1 fun r3 w4 => ∃ (i2 : Int), r3 = (.int .i64 i2) ∧ ((0 ≤ i2 ∧ i2 < (2 : Int)) ∧ ((True ∧ (i2 = (0 : Int) → (Pure Tryz.prog 158 #[(.bool bp1_0)] w4 fun r6 w7 => ∃ (i5 : Int), r6 = (.int .i64 i5) ∧ ((0 ≤ i5 ∧ i5 < (2 : Int)) ∧ ((True ∧ (i5 = (0 : Int) → (Pure Tryz.prog 156 #[(.agg #[(.bool bp0_0), (.string sp0_1)]), (.agg #[(.bool bp1_0), (.string sp1_1)])] w7 fun r10 w11 => ∃ (b8 : Bool) (s9 : ByteArray), r10 = (.agg #[(.bool b8), (.string s9)]) ∧ (∀ w12, Ext w.heap.size [157] w11 w12 → (R (.agg #[(.bool b8), (.string s9)]) w12))))) ∧ (i5 = (1 : Int) → (Pure Tryz.prog 157 #[(.agg #[(.bool bp0_0), (.string sp0_1)]), (.agg #[(.bool bp1_0), (.string sp1_1)])] w7 fun r15 w16 => ∃ (b13 : Bool) (s14 : ByteArray), r15 = (.agg #[(.bool b13), (.string s14)]) ∧ (∀ w17, Ext w.heap.size [157] w16 w17 → (R (.agg #[(.bool b13), (.string s14)]) w17))))))))) ∧ (i2 = (1 : Int) → (Pure Tryz.prog 158 #[(.bool bp1_0)] w4 fun r19 w20 => ∃ (i18 : Int), r19 = (.int .i64 i18) ∧ ((0 ≤ i18 ∧ i18 < (2 : Int)) ∧ ((True ∧ (i18 = (0 : Int) → (Pure Tryz.prog 157 #[(.agg #[(.bool bp0_0), (.string sp0_1)]), (.agg #[(.bool bp1_0), (.string sp1_1)])] w20 fun r23 w24 => ∃ (b21 : Bool) (s22 : ByteArray), r23 = (.agg #[(.bool b21), (.string s22)]) ∧ (∀ w25, Ext w.heap.size [157] w24 w25 → (R (.agg #[(.bool b21), (.string s22)]) w25))))) ∧ (i18 = (1 : Int) → (Pure Tryz.prog 156 #[(.agg #[(.bool bp0_0), (.string sp0_1)]), (.agg #[(.bool bp1_0), (.string sp1_1)])] w20 fun r28 w29 => ∃ (b26 : Bool) (s27 : ByteArray), r28 = (.agg #[(.bool b26), (.string s27)]) ∧ (∀ w30, Ext w.heap.size [157] w29 w30 → (R (.agg #[(.bool b26), (.string s27)]) w30))))))))))))) :
    Pure Tryz.prog 141 #[(.agg #[(.bool bp0_0), (.string sp0_1)]), (.agg #[(.bool bp1_0), (.string sp1_1)])] w R :=
  pure_of_run (integer_number_plus.cx w w.heap.size R) 100000 follows Tryz.func141 rfl rfl rfl rfl rfl rfl rfl (Eq.mp (by kernel_rfl) h)

noncomputable def integer_number_opposite.cx (w : World) (B : Nat) (R : Value → World → Prop) : Cx := ⟨Tryz.prog, 142, 9, Tryz.f142.results.toList, [], [], w, B, R⟩
theorem integer_number_opposite.vc (bp0_0 : Bool) (sp0_1 : ByteArray) (w : World) (R : Value → World → Prop)
    (h : (∀ w1, Ext w.heap.size [] w w1 → (Pure Tryz.prog 155 #[(.bool (decide (bp0_0 = false))), (.string sp0_1)] w1 fun r4 w5 => ∃ (b2 : Bool) (s3 : ByteArray), r4 = (.agg #[(.bool b2), (.string s3)]) ∧ (∀ w6, Ext w.heap.size [157] w5 w6 → (R (.agg #[(.bool b2), (.string s3)]) w6))))) :
    Pure Tryz.prog 142 #[(.agg #[(.bool bp0_0), (.string sp0_1)])] w R :=
  pure_of_run (integer_number_opposite.cx w w.heap.size R) 100000 follows Tryz.func142 rfl rfl rfl rfl rfl rfl rfl (Eq.mp (by kernel_rfl) h)

noncomputable def integer_number_sign.cx (w : World) (B : Nat) (R : Value → World → Prop) : Cx := ⟨Tryz.prog, 143, 10, Tryz.f143.results.toList, [], [], w, B, R⟩
theorem integer_number_sign.vc (bp0_0 : Bool) (sp0_1 : ByteArray) (w : World) (R : Value → World → Prop)
    (h : (∀ w1, Ext w.heap.size [] w w1 → (Pure Tryz.prog 153 #[] w1 fun r4 w5 => ∃ (b2 : Bool) (s3 : ByteArray), r4 = (.agg #[(.bool b2), (.string s3)]) ∧ (((bp0_0 = b2 ∧ sp0_1 = s3 ∧ True) → (R (.int .i64 (0 : Int)) w5)) ∧ (¬ (bp0_0 = b2 ∧ sp0_1 = s3 ∧ True) → ((bp0_0 = true → (R (.int .i64 (-1 : Int)) w5)) ∧ (bp0_0 = false → (R (.int .i64 (1 : Int)) w5)))))))) :
    Pure Tryz.prog 143 #[(.agg #[(.bool bp0_0), (.string sp0_1)])] w R :=
  pure_of_run (integer_number_sign.cx w w.heap.size R) 100000 follows Tryz.func143 rfl rfl rfl rfl rfl rfl rfl (Eq.mp (by kernel_rfl) h)

noncomputable def integer_one.cx (w : World) (B : Nat) (R : Value → World → Prop) : Cx := ⟨Tryz.prog, 146, 15, Tryz.f146.results.toList, [], [], w, B, R⟩
theorem integer_one.vc (sp0 : ByteArray) (w : World) (R : Value → World → Prop)
    (h : (∀ w1, Ext w.heap.size [] w w1 → (Pure Tryz.prog 138 #[(.string sp0), (.string (⟨#[48]⟩ : ByteArray))] w1 fun r7 w8 => ∃ (b2 : Bool) (s3 : ByteArray) (b4 : Bool) (s5 : ByteArray) (i6 : Int), r7 = (.tuple #[(.agg #[(.bool b2), (.string s3)]), (.agg #[(.bool b4), (.string s5)]), (.int .i64 i6)]) ∧ (∀ w9, Ext w.heap.size [157] w8 w9 → (R (.tuple #[(.agg #[(.bool b2), (.string s3)]), (.int .i64 i6)]) w9))))) :
    Pure Tryz.prog 146 #[(.string sp0)] w R :=
  pure_of_run (integer_one.cx w w.heap.size R) 100000 follows Tryz.func146 rfl rfl rfl rfl rfl rfl rfl (Eq.mp (by kernel_rfl) h)

noncomputable def integer_zero.cx (w : World) (B : Nat) (R : Value → World → Prop) : Cx := ⟨Tryz.prog, 153, 2, Tryz.f153.results.toList, [], [], w, B, R⟩
theorem integer_zero.vc  (w : World) (R : Value → World → Prop)
    (h : (∀ w1, Ext w.heap.size [] w w1 → (R (.agg #[(.bool false), (.string (⟨#[48]⟩ : ByteArray))]) w1))) :
    Pure Tryz.prog 153 #[] w R :=
  pure_of_run (integer_zero.cx w w.heap.size R) 100000 follows Tryz.func153 rfl rfl rfl rfl rfl rfl rfl (Eq.mp (by kernel_rfl) h)

noncomputable def integer_with.cx (w : World) (B : Nat) (R : Value → World → Prop) : Cx := ⟨Tryz.prog, 155, 12, Tryz.f155.results.toList, [], [], w, B, R⟩
theorem integer_with.vc (bp0 : Bool) (sp1 : ByteArray) (w : World) (R : Value → World → Prop)
    (h : ((bp0 = true → (∀ w1, Ext w.heap.size [] w w1 → (R (.agg #[(.bool (decide (sp1 ≠ (⟨#[48]⟩ : ByteArray)))), (.string sp1)]) w1))) ∧ (bp0 = false → (∀ w2, Ext w.heap.size [] w w2 → (R (.agg #[(.bool false), (.string sp1)]) w2))))) :
    Pure Tryz.prog 155 #[(.bool bp0), (.string sp1)] w R :=
  pure_of_run (integer_with.cx w w.heap.size R) 100000 follows Tryz.func155 rfl rfl rfl rfl rfl rfl rfl (Eq.mp (by kernel_rfl) h)

noncomputable def integer_sum.cx (w : World) (B : Nat) (R : Value → World → Prop) : Cx := ⟨Tryz.prog, 156, 19, Tryz.f156.results.toList, [], [], w, B, R⟩
theorem integer_sum.vc (bp0_0 : Bool) (sp0_1 : ByteArray) (bp1_0 : Bool) (sp1_1 : ByteArray) (w : World) (R : Value → World → Prop)
    (h : (∀ w1, Ext w.heap.size [] w w1 → (Pure Tryz.prog 180 #[(.string sp0_1), (.string sp1_1)] w1 fun r4 w5 => ∃ (s2 : ByteArray) (i3 : Int), r4 = (.tuple #[(.string s2), (.int .i64 i3)]) ∧ (Pure Tryz.prog 155 #[(.bool bp0_0), (.string s2)] w5 fun r8 w9 => ∃ (b6 : Bool) (s7 : ByteArray), r8 = (.agg #[(.bool b6), (.string s7)]) ∧ (∀ w10, Ext w.heap.size [157] w9 w10 → (R (.agg #[(.bool b6), (.string s7)]) w10)))))) :
    Pure Tryz.prog 156 #[(.agg #[(.bool bp0_0), (.string sp0_1)]), (.agg #[(.bool bp1_0), (.string sp1_1)])] w R :=
  pure_of_run (integer_sum.cx w w.heap.size R) 100000 follows Tryz.func156 rfl rfl rfl rfl rfl rfl rfl (Eq.mp (by kernel_rfl) h)

def integer_difference.J4 (blx2_0 : Bool) (slx2_1 : ByteArray) (blx3_0 : Bool) (slx3_1 : ByteArray) (blx4_0 : Bool) (slx4_1 : ByteArray) (B : Nat) (w : World) (R : Value → World → Prop) : Prop := At Tryz.prog 157 33 (regionAt Tryz.f157 4) [(2, .loc 2 0), (3, .loc 3 0), (4, .loc 4 0)] [⟨2, false, 157, [(.bool blx2_0), (.string slx2_1)]⟩, ⟨3, false, 157, [(.bool blx3_0), (.string slx3_1)]⟩, ⟨4, false, 157, [(.bool blx4_0), (.string slx4_1)]⟩] B w R
noncomputable def integer_difference.cx (w : World) (B : Nat) (R : Value → World → Prop) : Cx := ⟨Tryz.prog, 157, 33, Tryz.f157.results.toList, [((false, 4), [2, 3, 4], [2, 3, 4])], [], w, B, R⟩
theorem integer_difference.J4.step (blx2_0 : Bool) (slx2_1 : ByteArray) (blx3_0 : Bool) (slx3_1 : ByteArray) (blx4_0 : Bool) (slx4_1 : ByteArray) (B : Nat) (w : World) (R : Value → World → Prop)
    (h : (Pure Tryz.prog 182 #[(.string slx2_1), (.string slx3_1)] w fun r9 w10 => ∃ (s7 : ByteArray) (i8 : Int), r9 = (.tuple #[(.string s7), (.int .i64 i8)]) ∧ (Pure Tryz.prog 155 #[(.bool blx2_0), (.string s7)] w10 fun r13 w14 => ∃ (b11 : Bool) (s12 : ByteArray), r13 = (.agg #[(.bool b11), (.string s12)]) ∧ (∀ w15, Ext B [157] w14 w15 → (R (.agg #[(.bool b11), (.string s12)]) w15))))) :
    integer_difference.J4 blx2_0 slx2_1 blx3_0 slx3_1 blx4_0 slx4_1 B w R :=
  join_of_run (integer_difference.cx w B R) 100000 (regionAt Tryz.f157 4) _ _ follows Tryz.func157 rfl rfl rfl (Eq.mp (by kernel_rfl) h)
theorem integer_difference.vc (bp0_0 : Bool) (sp0_1 : ByteArray) (bp1_0 : Bool) (sp1_1 : ByteArray) (w : World) (R : Value → World → Prop)
    (h : (∀ w1, Ext w.heap.size [] w w1 → (Pure Tryz.prog 181 #[(.string sp0_1), (.string sp1_1)] w1 fun r4 w5 => ∃ (i2 : Int) (i3 : Int), r4 = (.tuple #[(.int .i64 i2), (.int .i64 i3)]) ∧ ((((i2 : Int) < (0 : Int)) → (∀ w6, Ext w.heap.size [157] w5 w6 → (integer_difference.J4 bp1_0 sp1_1 bp0_0 sp0_1 false (⟨#[]⟩ : ByteArray) w.heap.size w6 R))) ∧ (¬ ((i2 : Int) < (0 : Int)) → (integer_difference.J4 bp0_0 sp0_1 bp1_0 sp1_1 false (⟨#[]⟩ : ByteArray) w.heap.size w5 R)))))) :
    Pure Tryz.prog 157 #[(.agg #[(.bool bp0_0), (.string sp0_1)]), (.agg #[(.bool bp1_0), (.string sp1_1)])] w R :=
  pure_of_run (integer_difference.cx w w.heap.size R) 100000 follows Tryz.func157 rfl rfl rfl rfl rfl rfl rfl (Eq.mp (by kernel_rfl) h)

noncomputable def integer_bit.cx (w : World) (B : Nat) (R : Value → World → Prop) : Cx := ⟨Tryz.prog, 158, 4, Tryz.f158.results.toList, [], [], w, B, R⟩
theorem integer_bit.vc (bp0 : Bool) (w : World) (R : Value → World → Prop)
    (h : ((bp0 = true → (R (.int .i64 (1 : Int)) w)) ∧ (bp0 = false → (R (.int .i64 (0 : Int)) w)))) :
    Pure Tryz.prog 158 #[(.bool bp0)] w R :=
  pure_of_run (integer_bit.cx w w.heap.size R) 100000 follows Tryz.func158 rfl rfl rfl rfl rfl rfl rfl (Eq.mp (by kernel_rfl) h)

noncomputable def integer_Add.cx (w : World) (B : Nat) (R : Value → World → Prop) : Cx := ⟨Tryz.prog, 197, 23, Tryz.f197.results.toList, [], [], w, B, R⟩
theorem integer_Add.vc (sp0 : ByteArray) (sp1 : ByteArray) (w : World) (R : Value → World → Prop)
    (h : (Pure Tryz.prog 138 #[(.string sp0), (.string sp1)] w fun r6 w7 => ∃ (b1 : Bool) (s2 : ByteArray) (b3 : Bool) (s4 : ByteArray) (i5 : Int), r6 = (.tuple #[(.agg #[(.bool b1), (.string s2)]), (.agg #[(.bool b3), (.string s4)]), (.int .i64 i5)]) ∧ ((((i5 : Int) ≠ (0 : Int)) → (∀ w8, Ext w.heap.size [] w7 w8 → (R (.tuple #[(.string (⟨#[]⟩ : ByteArray)), (.int .i64 i5)]) w8))) ∧ (¬ ((i5 : Int) ≠ (0 : Int)) → (∀ w9, Ext w.heap.size [] w7 w9 → (Pure Tryz.prog 141 #[(.agg #[(.bool b1), (.string s2)]), (.agg #[(.bool b3), (.string s4)])] w9 fun r12 w13 => ∃ (b10 : Bool) (s11 : ByteArray), r12 = (.agg #[(.bool b10), (.string s11)]) ∧ (Pure Tryz.prog 140 #[(.agg #[(.bool b10), (.string s11)])] w13 fun r15 w16 => ∃ (s14 : ByteArray), r15 = (.string s14) ∧ (R (.tuple #[(.string s14), (.int .i64 (0 : Int))]) w16)))))))) :
    Pure Tryz.prog 197 #[(.string sp0), (.string sp1)] w R :=
  pure_of_run (integer_Add.cx w w.heap.size R) 100000 follows Tryz.func197 rfl rfl rfl rfl rfl rfl rfl (Eq.mp (by kernel_rfl) h)

noncomputable def integer_Neg.cx (w : World) (B : Nat) (R : Value → World → Prop) : Cx := ⟨Tryz.prog, 199, 17, Tryz.f199.results.toList, [], [], w, B, R⟩
theorem integer_Neg.vc (sp0 : ByteArray) (w : World) (R : Value → World → Prop)
    (h : (Pure Tryz.prog 146 #[(.string sp0)] w fun r4 w5 => ∃ (b1 : Bool) (s2 : ByteArray) (i3 : Int), r4 = (.tuple #[(.agg #[(.bool b1), (.string s2)]), (.int .i64 i3)]) ∧ ((((i3 : Int) ≠ (0 : Int)) → (∀ w6, Ext w.heap.size [] w5 w6 → (R (.tuple #[(.string (⟨#[]⟩ : ByteArray)), (.int .i64 i3)]) w6))) ∧ (¬ ((i3 : Int) ≠ (0 : Int)) → (∀ w7, Ext w.heap.size [] w5 w7 → (Pure Tryz.prog 142 #[(.agg #[(.bool b1), (.string s2)])] w7 fun r10 w11 => ∃ (b8 : Bool) (s9 : ByteArray), r10 = (.agg #[(.bool b8), (.string s9)]) ∧ (Pure Tryz.prog 140 #[(.agg #[(.bool b8), (.string s9)])] w11 fun r13 w14 => ∃ (s12 : ByteArray), r13 = (.string s12) ∧ (R (.tuple #[(.string s12), (.int .i64 (0 : Int))]) w14)))))))) :
    Pure Tryz.prog 199 #[(.string sp0)] w R :=
  pure_of_run (integer_Neg.cx w w.heap.size R) 100000 follows Tryz.func199 rfl rfl rfl rfl rfl rfl rfl (Eq.mp (by kernel_rfl) h)

noncomputable def integer_DivMod.cx (w : World) (B : Nat) (R : Value → World → Prop) : Cx := ⟨Tryz.prog, 220, 37, Tryz.f220.results.toList, [], [], w, B, R⟩
theorem integer_DivMod.vc (sp0 : ByteArray) (sp1 : ByteArray) (w : World) (R : Value → World → Prop)
    (h : (Pure Tryz.prog 138 #[(.string sp0), (.string sp1)] w fun r6 w7 => ∃ (b1 : Bool) (s2 : ByteArray) (b3 : Bool) (s4 : ByteArray) (i5 : Int), r6 = (.tuple #[(.agg #[(.bool b1), (.string s2)]), (.agg #[(.bool b3), (.string s4)]), (.int .i64 i5)]) ∧ ((((i5 : Int) ≠ (0 : Int)) → (∀ w8, Ext w.heap.size [] w7 w8 → (R (.tuple #[(.string (⟨#[]⟩ : ByteArray)), (.string (⟨#[]⟩ : ByteArray)), (.int .i64 i5)]) w8))) ∧ (¬ ((i5 : Int) ≠ (0 : Int)) → (∀ w9, Ext w.heap.size [] w7 w9 → (Pure Tryz.prog 153 #[] w9 fun r12 w13 => ∃ (b10 : Bool) (s11 : ByteArray), r12 = (.agg #[(.bool b10), (.string s11)]) ∧ (((b3 = b10 ∧ s4 = s11 ∧ True) → (R (.tuple #[(.string (⟨#[]⟩ : ByteArray)), (.string (⟨#[]⟩ : ByteArray)), (.int .i64 (16 : Int))]) w13)) ∧ (¬ (b3 = b10 ∧ s4 = s11 ∧ True) → (Pure Tryz.prog 238 #[(.agg #[(.bool b1), (.string s2)]), (.agg #[(.bool b3), (.string s4)])] w13 fun r18 w19 => ∃ (b14 : Bool) (s15 : ByteArray) (b16 : Bool) (s17 : ByteArray), r18 = (.tuple #[(.agg #[(.bool b14), (.string s15)]), (.agg #[(.bool b16), (.string s17)])]) ∧ (∀ w20, Ext w.heap.size [] w19 w20 → (Pure Tryz.prog 140 #[(.agg #[(.bool b14), (.string s15)])] w20 fun r22 w23 => ∃ (s21 : ByteArray), r22 = (.string s21) ∧ (Pure Tryz.prog 140 #[(.agg #[(.bool b16), (.string s17)])] w23 fun r25 w26 => ∃ (s24 : ByteArray), r25 = (.string s24) ∧ (R (.tuple #[(.string s21), (.string s24), (.int .i64 (0 : Int))]) w26))))))))))))) :
    Pure Tryz.prog 220 #[(.string sp0), (.string sp1)] w R :=
  pure_of_run (integer_DivMod.cx w w.heap.size R) 100000 follows Tryz.func220 rfl rfl rfl rfl rfl rfl rfl (Eq.mp (by kernel_rfl) h)

noncomputable def integer_number_divide.cx (w : World) (B : Nat) (R : Value → World → Prop) : Cx := ⟨Tryz.prog, 238, 45, Tryz.f238.results.toList, [], [], w, B, R⟩
theorem integer_number_divide.vc (bp0_0 : Bool) (sp0_1 : ByteArray) (bp1_0 : Bool) (sp1_1 : ByteArray) (w : World) (R : Value → World → Prop)
    (h : (∀ w1, Ext w.heap.size [] w w1 → (Pure Tryz.prog 221 #[(.string sp0_1), (.string sp1_1)] w1 fun r5 w6 => ∃ (s2 : ByteArray) (s3 : ByteArray) (i4 : Int), r5 = (.tuple #[(.string s2), (.string s3), (.int .i64 i4)]) ∧ ((bp0_0 = true → (((s3 ≠ (⟨#[48]⟩ : ByteArray)) → (Pure Tryz.prog 180 #[(.string s2), (.string (⟨#[49]⟩ : ByteArray))] w6 fun r9 w10 => ∃ (s7 : ByteArray) (i8 : Int), r9 = (.tuple #[(.string s7), (.int .i64 i8)]) ∧ (Pure Tryz.prog 182 #[(.string sp1_1), (.string s3)] w10 fun r13 w14 => ∃ (s11 : ByteArray) (i12 : Int), r13 = (.tuple #[(.string s11), (.int .i64 i12)]) ∧ (Pure Tryz.prog 155 #[(.bool (decide (¬ ((bp0_0 : Bool) = bp1_0)))), (.string s7)] w14 fun r17 w18 => ∃ (b15 : Bool) (s16 : ByteArray), r17 = (.agg #[(.bool b15), (.string s16)]) ∧ (Pure Tryz.prog 155 #[(.bool false), (.string s11)] w18 fun r21 w22 => ∃ (b19 : Bool) (s20 : ByteArray), r21 = (.agg #[(.bool b19), (.string s20)]) ∧ (∀ w23, Ext w.heap.size [157] w22 w23 → (R (.tuple #[(.agg #[(.bool b15), (.string s16)]), (.agg #[(.bool b19), (.string s20)])]) w23))))))) ∧ (¬ (s3 ≠ (⟨#[48]⟩ : ByteArray)) → (Pure Tryz.prog 155 #[(.bool (decide (¬ ((bp0_0 : Bool) = bp1_0)))), (.string s2)] w6 fun r26 w27 => ∃ (b24 : Bool) (s25 : ByteArray), r26 = (.agg #[(.bool b24), (.string s25)]) ∧ (Pure Tryz.prog 155 #[(.bool false), (.string s3)] w27 fun r30 w31 => ∃ (b28 : Bool) (s29 : ByteArray), r30 = (.agg #[(.bool b28), (.string s29)]) ∧ (∀ w32, Ext w.heap.size [157] w31 w32 → (R (.tuple #[(.agg #[(.bool b24), (.string s25)]), (.agg #[(.bool b28), (.string s29)])]) w32))))))) ∧ (bp0_0 = false → (Pure Tryz.prog 155 #[(.bool (decide (¬ ((bp0_0 : Bool) = bp1_0)))), (.string s2)] w6 fun r35 w36 => ∃ (b33 : Bool) (s34 : ByteArray), r35 = (.agg #[(.bool b33), (.string s34)]) ∧ (Pure Tryz.prog 155 #[(.bool false), (.string s3)] w36 fun r39 w40 => ∃ (b37 : Bool) (s38 : ByteArray), r39 = (.agg #[(.bool b37), (.string s38)]) ∧ (∀ w41, Ext w.heap.size [157] w40 w41 → (R (.tuple #[(.agg #[(.bool b33), (.string s34)]), (.agg #[(.bool b37), (.string s38)])]) w41))))))))) :
    Pure Tryz.prog 238 #[(.agg #[(.bool bp0_0), (.string sp0_1)]), (.agg #[(.bool bp1_0), (.string sp1_1)])] w R :=
  pure_of_run (integer_number_divide.cx w w.heap.size R) 100000 follows Tryz.func238 rfl rfl rfl rfl rfl rfl rfl (Eq.mp (by kernel_rfl) h)

end Go.Proofs.YtdoailkigecmkaaGreatDoor.F

namespace Go.Proofs.YtdoailkigecmkaaGreatDoor.B
open Go Go.RowKit Go.Proofs Go.Proofs.YtdoailkigecmkaaGreatDoor.Vc

theorem kE {w a b : World} {ts : List Nat} (h : Below w.heap.size w a) (e : Ext w.heap.size ts a b) : Below w.heap.size w b := h.trans e.below
theorem kP {w a b : World} (h : Below w.heap.size w a) (k : Below a.heap.size a b) : Below w.heap.size w b := h.trans (k.mono h.size)
theorem k0 {w b : World} {ts : List Nat} (e : Ext w.heap.size ts w b) : Below w.heap.size w b := e.below

abbrev iV (z : Int) : Value := .agg #[.bool (decide (z < 0)), .string (nS z.natAbs)]

theorem integer_zero (w : World) : Pure Tryz.prog 153 #[] w fun v _ => v = iV 0 := by
  refine F.integer_zero.vc _ _ fun w1 _ => ?_
  rw [nS_0]; rfl

theorem integer_with (neg : Bool) (n : Nat) (w : World) : Pure Tryz.prog 155 #[.bool neg, .string (nS n)] w fun v _ => v = iV (if neg then -(n : Int) else n) := by
  refine F.integer_with.vc _ _ _ _ ⟨fun h w1 _ => ?_, fun h w1 _ => ?_⟩
  · subst h
    rw [nS_0]
    simp only [if_true, iV]
    congr 3
    · by_cases h0 : n = 0
      · subst h0; simp
      · have h1 : nS n ≠ nS 0 := fun k => h0 (nS_inj k)
        simp [h1]
        omega
    · simp
  · subst h
    have h2 : ¬ (n : Int) < 0 := by omega
    simp [iV, h2]

theorem integer_opposite (z : Int) (w : World) : Pure Tryz.prog 142 #[iV z] w fun v _ => v = iV (-z) := by
  refine F.integer_number_opposite.vc _ _ _ _ fun w1 _ => ?_
  refine Pure.mono (integer_with _ _ _) ?_
  rintro v w2 _ rfl
  refine ⟨_, _, rfl, fun w3 _ => ?_⟩
  have e : (if decide (decide (z < 0) = false) = true then -((z.natAbs : Nat) : Int) else (z.natAbs : Int)) = -z := by
    by_cases h : z < 0
    · simp [h]; omega
    · simp [h]; omega
  rw [e]

theorem integer_sign (z : Int) (w : World) : Pure Tryz.prog 143 #[iV z] w fun v _ => v = .int .i64 z.sign := by
  refine F.integer_number_sign.vc _ _ _ _ fun w1 _ => Pure.mono (integer_zero _) ?_
  rintro v w2 _ rfl
  refine ⟨_, _, rfl, fun h => ?_, fun h => ⟨fun h1 => ?_, fun h1 => ?_⟩⟩
  · have : z.natAbs = 0 := nS_inj h.2.1
    have : z = 0 := by omega
    subst this; rfl
  · have : z < 0 := by simpa using h1
    rw [Int.sign_eq_neg_one_of_neg this]
  · have h2 : ¬ z < 0 := by simpa using h1
    have : z ≠ 0 := fun k => by subst k; exact h ⟨by simp, rfl, trivial⟩
    rw [Int.sign_eq_one_of_pos (by omega)]

theorem st_cons (c : UInt8) (l : Tx) : (⟨#[c]⟩ : ByteArray) ++ st l = st (c :: l) := by
  apply by_inj
  simp [by_, st, ByteArray.data_append]
theorem integer_text {z : Int} (h : z.natAbs < Lim) (w : World) : Pure Tryz.prog 140 #[iV z] w fun v _ => v = .string (iS z) := by
  have hs := size_nS_le h
  refine F.integer_number_text.vc _ _ _ _ ⟨fun h => ⟨by show 1 + (nS z.natAbs).size ≤ _; omega, fun w1 _ => ?_⟩, fun h w1 _ => ?_⟩
  · have h1 : z < 0 := by simpa using h
    have e : iS z = st (45 :: natT z.natAbs) := by unfold iS; rw [intT_eq, if_pos h1]
    rw [e, ← st_cons]; rfl
  · have h1 : ¬ z < 0 := by simpa using h
    have e : iS z = nS z.natAbs := by unfold iS nS; rw [intT_eq, if_neg h1]
    rw [e]

theorem integer_sum {w : World} {x y : Int} (hg : Glob w) (hx : x.natAbs < Lim) (hy : y.natAbs < Lim) :
    Pure Tryz.prog 156 #[iV x, iV y] w fun v _ => v = iV (if x < 0 then -((x.natAbs + y.natAbs : Nat) : Int) else ((x.natAbs + y.natAbs : Nat) : Int)) := by
  refine F.integer_sum.vc _ _ _ _ _ _ fun w1 e1 => Pure.mono (natural_Add (hg.next (k0 e1)) hx hy) ?_
  rintro v w2 _ rfl
  refine ⟨_, _, rfl, Pure.mono (integer_with _ _ _) ?_⟩
  rintro v w3 _ rfl
  refine ⟨_, _, rfl, fun w4 _ => ?_⟩
  simp

theorem integer_diff_J {w0 : World} {x y : Int} (hg : Glob w0) {a b : Bool} {s t : ByteArray} {R : Value → World → Prop} (hx : x.natAbs < Lim) (hyx : y.natAbs ≤ x.natAbs) {w : World} {c : Bool} {r : ByteArray} (hb : Below w0.heap.size w0 w)
    (hR : ∀ w, R (iV (if x < 0 then -((x.natAbs - y.natAbs : Nat) : Int) else ((x.natAbs - y.natAbs : Nat) : Int))) w) :
    F.integer_difference.J4 (decide (x < 0)) (nS x.natAbs) (decide (y < 0)) (nS y.natAbs) c r w0.heap.size w R := by
  refine F.integer_difference.J4.step _ _ _ _ _ _ _ _ _ (Pure.mono (natural_Sub (hg.next hb) hx hyx) ?_)
  rintro v w2 _ rfl
  refine ⟨_, _, rfl, Pure.mono (integer_with _ _ _) ?_⟩
  rintro v w3 _ rfl
  refine ⟨_, _, rfl, fun w4 _ => ?_⟩
  have := hR w4
  simpa using this

theorem integer_difference {w : World} {x y : Int} (hg : Glob w) (hx : x.natAbs < Lim) (hy : y.natAbs < Lim) (hs : (x < 0 ∧ 0 ≤ y) ∨ (0 ≤ x ∧ y < 0)) :
    Pure Tryz.prog 157 #[iV x, iV y] w fun v _ => v = iV (x + y) := by
  refine F.integer_difference.vc _ _ _ _ _ _ fun w1 e1 => Pure.mono (natural_Compare hx hy) ?_
  rintro v w2 hb2 rfl
  refine ⟨_, _, rfl, fun h w3 e3 => ?_, fun h => ?_⟩
  · have hlt : x.natAbs < y.natAbs := by
      simp only [cmpI] at h
      split at h
      · omega
      · split at h <;> omega
    refine integer_diff_J (a := false) (b := false) (s := ⟨#[]⟩) (t := ⟨#[]⟩) hg hy (Nat.le_of_lt hlt) (kE (kP (k0 e1) hb2) e3) fun w => ?_
    congr 1
    split <;> omega
  · have hlt : y.natAbs ≤ x.natAbs := by
      simp only [cmpI] at h
      split at h <;> omega
    refine integer_diff_J (a := false) (b := false) (s := ⟨#[]⟩) (t := ⟨#[]⟩) hg hx hlt (kP (k0 e1) hb2) fun w => ?_
    congr 1
    split <;> omega

theorem integer_bit (b : Bool) (w : World) : Pure Tryz.prog 158 #[.bool b] w fun v _ => v = .int .i64 (if b then 1 else 0) := by
  refine F.integer_bit.vc _ _ _ ⟨fun h => ?_, fun h => ?_⟩ <;> subst h <;> rfl

theorem integer_plus {w : World} {x y : Int} (hg : Glob w) (hx : x.natAbs < Lim) (hy : y.natAbs < Lim) :
    Pure Tryz.prog 141 #[iV x, iV y] w fun v _ => v = iV (x + y) := by
  refine F.integer_number_plus.vc _ _ _ _ _ _ fun w1 e1 => Pure.mono (integer_bit _ _) ?_
  rintro v w2 hb2 rfl
  have hb := kP (k0 e1) hb2
  refine ⟨_, rfl, by split <;> omega, ⟨trivial, fun h1 => Pure.mono (integer_bit _ _) ?_⟩, fun h1 => Pure.mono (integer_bit _ _) ?_⟩
  all_goals
    rintro v w3 hb3 rfl
    have hg3 := hg.next (kP hb hb3)
    refine ⟨_, rfl, by split <;> omega, ⟨trivial, fun h2 => ?_⟩, fun h2 => ?_⟩
  · have hx0 : ¬ x < 0 := fun k => by simp [k] at h1
    have hy0 : ¬ y < 0 := fun k => by simp [k] at h2
    refine Pure.mono (integer_sum hg3 hx hy) ?_
    rintro v w4 _ rfl
    refine ⟨_, _, rfl, fun w5 _ => ?_⟩
    rw [if_neg hx0]
    show iV _ = iV _
    congr 1
    omega
  · have hx0 : ¬ x < 0 := fun k => by simp [k] at h1
    have hy0 : y < 0 := by apply Decidable.byContradiction; intro k; simp [k] at h2
    refine Pure.mono (integer_difference hg3 hx hy (by omega)) ?_
    rintro v w4 _ rfl
    exact ⟨_, _, rfl, fun w5 _ => rfl⟩
  · have hx0 : x < 0 := by apply Decidable.byContradiction; intro k; simp [k] at h1
    have hy0 : ¬ y < 0 := fun k => by simp [k] at h2
    refine Pure.mono (integer_difference hg3 hx hy (by omega)) ?_
    rintro v w4 _ rfl
    exact ⟨_, _, rfl, fun w5 _ => rfl⟩
  · have hx0 : x < 0 := by apply Decidable.byContradiction; intro k; simp [k] at h1
    have hy0 : y < 0 := by apply Decidable.byContradiction; intro k; simp [k] at h2
    refine Pure.mono (integer_sum hg3 hx hy) ?_
    rintro v w4 _ rfl
    refine ⟨_, _, rfl, fun w5 _ => ?_⟩
    rw [if_pos hx0]
    show iV _ = iV _
    congr 1
    omega

theorem mul_sign (x y : Int) : (if decide (¬ (decide (x < 0) = decide (y < 0))) = true then -((x.natAbs * y.natAbs : Nat) : Int) else ((x.natAbs * y.natAbs : Nat) : Int)) = x * y := by
  have e : (x * y).natAbs = x.natAbs * y.natAbs := Int.natAbs_mul x y
  rw [← e]
  rcases Int.lt_or_le x 0 with hx | hx <;> rcases Int.lt_or_le y 0 with hy | hy
  · have := Int.mul_nonneg_of_nonpos_of_nonpos (Int.le_of_lt hx) (Int.le_of_lt hy)
    simp [hx, hy]; omega
  · have := Int.mul_nonpos_of_nonpos_of_nonneg (Int.le_of_lt hx) hy
    simp [hx, Int.not_lt.2 hy]; omega
  · have := Int.mul_nonpos_of_nonneg_of_nonpos hx (Int.le_of_lt hy)
    simp [hy, Int.not_lt.2 hx]; omega
  · have := Int.mul_nonneg hx hy
    simp [Int.not_lt.2 hx, Int.not_lt.2 hy]; omega

theorem integer_times {w : World} {x y : Int} (hg : Glob w) (hx : x.natAbs < Lim) (hy : y.natAbs < Lim) :
    Pure Tryz.prog 139 #[iV x, iV y] w fun v _ => v = iV (x * y) := by
  refine F.integer_number_times.vc _ _ _ _ _ _ fun w1 e1 => Pure.mono (natural_Mul (hg.next (k0 e1)) hx hy) ?_
  rintro v w2 _ rfl
  refine ⟨_, _, rfl, Pure.mono (integer_with _ _ _) ?_⟩
  rintro v w3 _ rfl
  refine ⟨_, _, rfl, fun w4 _ => ?_⟩
  rw [mul_sign]
end Go.Proofs.YtdoailkigecmkaaGreatDoor.B

namespace Go.Proofs.YtdoailkigecmkaaGreatDoor.B
open Go Go.RowKit Go.Proofs Go.Proofs.YtdoailkigecmkaaGreatDoor.Vc

theorem CutMinus (s : ByteArray) (w : World) :
    Pure Tryz.prog 145 #[.string s, .string ⟨#[45]⟩] w fun v _ => v = .tuple #[.string (if (by_ s).head? = some 45 then st (by_ s).tail else s), .bool (decide ((by_ s).head? = some 45))] := by
  refine Calls.mono (Tryz.strings_CutPrefix s ⟨#[45]⟩ w) ?_
  rintro e w' ⟨rfl, rfl⟩
  refine ⟨_, rfl, Below.refl _ _, ?_⟩
  have h1 : Lib.hasPrefix s.data.toList [45] = decide ((by_ s).head? = some 45) := by
    show List.isPrefixOf [45] (by_ s) = _
    cases by_ s with
    | nil => rfl
    | cons c r =>
      by_cases h : c = 45
      · subst h; simp [List.isPrefixOf]
      · have h2 : (45 == c) = false := by simpa using fun k => h k.symm
        simp [List.isPrefixOf, h, h2]
  have h2 : (⟨(Lib.trimPrefix s.data.toList [45]).toArray⟩ : ByteArray) = if (by_ s).head? = some 45 then st (by_ s).tail else s := by
    unfold Lib.trimPrefix
    rw [h1]
    by_cases h : (by_ s).head? = some 45
    · simp only [h, decide_true, if_true]
      show st ((by_ s).drop 1) = st (by_ s).tail
      rw [List.drop_one]
    · simp only [h, decide_false, if_false]
      rfl
  rw [← h1, ← h2]

theorem integer_read (s : ByteArray) (hs : s.size < 2147483648) (w : World) :
    Pure Tryz.prog 130 #[.string s] w fun v _ => ∃ b t, v = .tuple #[.agg #[.bool b, .string t], .bool (isInt (by_ s))] ∧ (isInt (by_ s) = true → b = decide (valI (by_ s) < 0) ∧ t = nS (valI (by_ s)).natAbs) := by
  refine F.integer_read.vc _ _ _ fun w1 _ => Pure.mono (CutMinus s _) ?_
  rintro v w2 _ rfl
  refine ⟨_, _, rfl, fun w3 _ => ?_⟩
  obtain ⟨t, ht⟩ : ∃ t, t = (if (by_ s).head? = some 45 then st (by_ s).tail else s) := ⟨_, rfl⟩
  rw [← ht]
  have hts : t.size < 2147483648 := by
    rw [ht]
    split
    · have : (st (by_ s).tail).size = (by_ s).tail.length := rfl
      have := size_by s
      simp at *
      omega
    · exact hs
  refine Pure.mono (natural_Valid t hts _) ?_
  rintro v w4 _ rfl
  have hval : isNat (by_ t) = true → valD (by_ t) = (valI (by_ s)).natAbs ∧ t = nS (valI (by_ s)).natAbs := by
    intro hn
    have e : valD (by_ t) = (valI (by_ s)).natAbs := by
      rw [ht]
      unfold valI
      split
      · simp [by_st]
      · simp
    refine ⟨e, ?_⟩
    rw [← e]
    exact (by rw [← st_by t]; unfold nS; rw [by_st, natT_of hn] : t = nS (valD (by_ t)))
  have hneg : isInt (by_ s) = true → decide ((by_ s).head? = some 45) = decide (valI (by_ s) < 0) := by
    intro hi
    have e := intT_of hi
    conv => lhs; rw [← e]
    rw [intT_eq]
    split
    · rename_i k; simp [k]
    · rename_i k; simp [k, natT_head45]
  have hres : isInt (by_ s) = (isNat (by_ t) && decide (¬ (decide ((by_ s).head? = some 45) = true ∧ t = (⟨#[48]⟩ : ByteArray) ∧ True))) := by
    unfold isInt
    by_cases h : (by_ s).head? = some 45
    · have e2 : t = st (by_ s).tail := by rw [ht, if_pos h]
      rw [if_pos h, e2, by_st]
      congr 1
      by_cases h3 : (by_ s).tail = [48]
      · simp [h, h3]; rfl
      · have : st (by_ s).tail ≠ (⟨#[48]⟩ : ByteArray) := fun k => h3 (st_inj (k.trans rfl : st (by_ s).tail = st [48]))
        simp [h, h3, this]
    · have e2 : t = s := by rw [ht, if_neg h]
      rw [if_neg h, e2]
      simp [h]
  refine ⟨_, rfl, fun h => ?_, fun h => ?_⟩
  · rw [h, Bool.true_and] at hres
    have fin : ∀ w', (fun v (_ : World) => ∃ b t, v = Value.tuple #[.agg #[.bool b, .string t], .bool (isInt (by_ s))] ∧ (isInt (by_ s) = true → b = decide (valI (by_ s) < 0) ∧ t = nS (valI (by_ s)).natAbs)) (.tuple #[(.agg #[(.bool (decide ((by_ s).head? = some 45))), (.string t)]), (.bool (decide (¬ (decide ((by_ s).head? = some 45) = true ∧ t = (⟨#[48]⟩ : ByteArray) ∧ True))))]) w' :=
      fun w' => ⟨_, _, by rw [hres], fun hi => ⟨hneg hi, (hval h).2⟩⟩
    exact ⟨fun w5 _ => fin w5, fun w5 _ => fin w5⟩
  · rw [h, Bool.false_and] at hres
    have fin : ∀ w', (fun v (_ : World) => ∃ b t, v = Value.tuple #[.agg #[.bool b, .string t], .bool (isInt (by_ s))] ∧ (isInt (by_ s) = true → b = decide (valI (by_ s) < 0) ∧ t = nS (valI (by_ s)).natAbs)) (.tuple #[(.agg #[(.bool (decide ((by_ s).head? = some 45))), (.string t)]), (.bool false)]) w' :=
      fun w' => ⟨_, _, by rw [hres], fun hi => by rw [hres] at hi; cases hi⟩
    exact ⟨fun w5 _ => fin w5, fun w5 _ => fin w5⟩

theorem size_iS_le {z : Int} (h : z.natAbs < Lim) : (iS z).size < 2147483648 := by
  rw [lim_eq] at h
  have k := klim
  have := intT_length_le h (by omega)
  show (intT z).length < _
  omega
theorem integer_read_ok {z : Int} (h : z.natAbs < Lim) (w : World) : Pure Tryz.prog 130 #[.string (iS z)] w fun v _ => v = .tuple #[iV z, .bool true] := by
  refine Pure.mono (integer_read _ (size_iS_le h) w) ?_
  rintro v w2 _ ⟨b, t, rfl, hv⟩
  rw [by_iS, intT_isInt, intT_val] at *
  obtain ⟨rfl, rfl⟩ := hv rfl
  rfl
theorem integer_Valid (s : ByteArray) (hs : s.size < 2147483648) (w : World) : Pure Tryz.prog 113 #[.string s] w fun v _ => v = .bool (isInt (by_ s)) := by
  refine F.integer_Valid.vc _ _ _ (Pure.mono (integer_read s hs w) ?_)
  rintro v w2 _ ⟨b, t, rfl, _⟩
  exact ⟨_, _, _, rfl, fun w3 _ => rfl⟩

theorem integer_both {x y : Int} (hx : x.natAbs < Lim) (hy : y.natAbs < Lim) (w : World) :
    Pure Tryz.prog 138 #[.string (iS x), .string (iS y)] w fun v _ => v = .tuple #[iV x, iV y, .int .i64 0] := by
  refine F.integer_both.vc _ _ _ _ fun w1 _ => Pure.mono (integer_read_ok hx _) ?_
  rintro v w2 _ rfl
  refine ⟨_, _, _, rfl, fun w3 _ => Pure.mono (integer_read_ok hy _) ?_⟩
  rintro v w4 _ rfl
  exact ⟨_, _, _, rfl, fun h => by simp at h, fun _ => ⟨fun h => by simp at h, fun _ => ⟨fun w5 _ => rfl, fun w5 _ => rfl⟩⟩⟩
theorem lim_pos : 0 < Lim := by rw [lim_eq]; exact Nat.pow_pos (by omega)
theorem integer_one {x : Int} (hx : x.natAbs < Lim) (w : World) :
    Pure Tryz.prog 146 #[.string (iS x)] w fun v _ => v = .tuple #[iV x, .int .i64 0] := by
  refine F.integer_one.vc _ _ _ fun w1 _ => ?_
  rw [iS_0]
  refine Pure.mono (integer_both hx (by simpa using lim_pos) _) ?_
  rintro v w2 _ rfl
  exact ⟨_, _, _, _, _, rfl, fun w3 _ => rfl⟩
theorem integer_Sign {x : Int} (hx : x.natAbs < Lim) (w : World) :
    Pure Tryz.prog 137 #[.string (iS x)] w fun v _ => v = .tuple #[.int .i64 x.sign, .int .i64 0] := by
  refine F.integer_Sign.vc _ _ _ (Pure.mono (integer_one hx w) ?_)
  rintro v w2 _ rfl
  refine ⟨_, _, _, rfl, fun w3 _ => Pure.mono (integer_sign _ _) ?_⟩
  rintro v w4 _ rfl
  exact ⟨_, rfl, rfl⟩
theorem integer_Abs {x : Int} (hx : x.natAbs < Lim) (w : World) :
    Pure Tryz.prog 131 #[.string (iS x)] w fun v _ => v = .tuple #[.string (nS x.natAbs), .int .i64 0] := by
  refine F.integer_Abs.vc _ _ _ (Pure.mono (integer_one hx w) ?_)
  rintro v w2 _ rfl
  exact ⟨_, _, _, rfl, fun h => absurd rfl h, fun _ w3 _ => rfl⟩
theorem integer_Neg {x : Int} (hx : x.natAbs < Lim) (w : World) :
    Pure Tryz.prog 199 #[.string (iS x)] w fun v _ => v = .tuple #[.string (iS (-x)), .int .i64 0] := by
  refine F.integer_Neg.vc _ _ _ (Pure.mono (integer_one hx w) ?_)
  rintro v w2 _ rfl
  refine ⟨_, _, _, rfl, fun h => absurd rfl h, fun _ w3 _ => Pure.mono (integer_opposite _ _) ?_⟩
  rintro v w4 _ rfl
  refine ⟨_, _, rfl, Pure.mono (integer_text (by rw [Int.natAbs_neg]; exact hx) _) ?_⟩
  rintro v w5 _ rfl
  exact ⟨_, rfl, rfl⟩
theorem integer_Add {w : World} {x y : Int} (hg : Glob w) (hx : x.natAbs < Lim) (hy : y.natAbs < Lim) (hxy : (x + y).natAbs < Lim) :
    Pure Tryz.prog 197 #[.string (iS x), .string (iS y)] w fun v _ => v = .tuple #[.string (iS (x + y)), .int .i64 0] := by
  refine F.integer_Add.vc _ _ _ _ (Pure.mono (integer_both hx hy w) ?_)
  rintro v w2 hb2 rfl
  refine ⟨_, _, _, _, _, rfl, fun h => absurd rfl h, fun _ w3 e3 => Pure.mono (integer_plus (hg.next (kE hb2 e3)) hx hy) ?_⟩
  rintro v w4 _ rfl
  refine ⟨_, _, rfl, Pure.mono (integer_text hxy _) ?_⟩
  rintro v w5 _ rfl
  exact ⟨_, rfl, rfl⟩
theorem integer_Mul {w : World} {x y : Int} (hg : Glob w) (hx : x.natAbs < Lim) (hy : y.natAbs < Lim) (hxy : (x * y).natAbs < Lim) :
    Pure Tryz.prog 122 #[.string (iS x), .string (iS y)] w fun v _ => v = .tuple #[.string (iS (x * y)), .int .i64 0] := by
  refine F.integer_Mul.vc _ _ _ _ (Pure.mono (integer_both hx hy w) ?_)
  rintro v w2 hb2 rfl
  refine ⟨_, _, _, _, _, rfl, fun h => absurd rfl h, fun _ w3 e3 => Pure.mono (integer_times (hg.next (kE hb2 e3)) hx hy) ?_⟩
  rintro v w4 _ rfl
  refine ⟨_, _, rfl, Pure.mono (integer_text hxy _) ?_⟩
  rintro v w5 _ rfl
  exact ⟨_, rfl, rfl⟩
theorem integer_Compare {w : World} {x y : Int} (hg : Glob w) (hx : x.natAbs < Lim) (hy : y.natAbs < Lim) :
    Pure Tryz.prog 123 #[.string (iS x), .string (iS y)] w fun v _ => v = .tuple #[.int .i64 (x - y).sign, .int .i64 0] := by
  refine F.integer_Compare.vc _ _ _ _ (Pure.mono (integer_both hx hy w) ?_)
  rintro v w2 hb2 rfl
  refine ⟨_, _, _, _, _, rfl, fun w3 e3 => Pure.mono (integer_opposite _ _) ?_⟩
  rintro v w4 hb4 rfl
  refine ⟨_, _, rfl, Pure.mono (integer_plus (hg.next (kP (kE hb2 e3) hb4)) hx (by rw [Int.natAbs_neg]; exact hy)) ?_⟩
  rintro v w5 _ rfl
  refine ⟨_, _, rfl, Pure.mono (integer_sign _ _) ?_⟩
  rintro v w6 _ rfl
  refine ⟨_, rfl, ?_⟩
  rw [Int.sub_eq_add_neg]

theorem integer_divide {w : World} {x : Int} {d : Nat} (hg : Glob w) (hx : x.natAbs < Lim) (hd : d < Lim) (hd0 : d ≠ 0) :
    Pure Tryz.prog 238 #[iV x, iV (d : Int)] w fun v _ => v = .tuple #[iV (x / (d : Int)), iV (x % (d : Int))] := by
  have hdn : decide ((d : Int) < 0) = false := by simp
  have hda : ((d : Int)).natAbs = d := by simp
  have hdp : (0 : Int) < (d : Int) := by omega
  refine F.integer_number_divide.vc _ _ _ _ _ _ fun w1 e1 => ?_
  rw [hda]
  refine Pure.mono (natural_DivMod (hg.next (k0 e1)) hx hd hd0) ?_
  rintro v w2 hb2 rfl
  have hb := kP (k0 e1) hb2
  have hm := Nat.mod_lt x.natAbs (show 0 < d by omega)
  have hdm := Nat.div_add_mod x.natAbs d
  obtain ⟨q, hq⟩ : ∃ q, q = x.natAbs / d := ⟨_, rfl⟩
  obtain ⟨r, hr⟩ : ∃ r, r = x.natAbs % d := ⟨_, rfl⟩
  rw [← hq, ← hr] at hdm
  rw [← hr] at hm
  have hql : q ≤ x.natAbs := by rw [hq]; exact Nat.div_le_self _ _
  rw [← hq, ← hr]
  have hcast : ((d * q : Nat) : Int) = (d : Int) * (q : Int) := by simp
  have pos : 0 ≤ x → x / (d : Int) = (q : Int) ∧ x % (d : Int) = (r : Int) := fun h => by
    rw [Int.ediv_emod_unique hdp]
    omega
  have neg0 : x < 0 → r = 0 → x / (d : Int) = -(q : Int) ∧ x % (d : Int) = (r : Int) := fun h h2 => by
    rw [Int.ediv_emod_unique hdp, Int.mul_neg]
    omega
  have neg1 : x < 0 → r ≠ 0 → x / (d : Int) = -((q + 1 : Nat) : Int) ∧ x % (d : Int) = ((d - r : Nat) : Int) := fun h h2 => by
    have e : (d : Int) * ((q + 1 : Nat) : Int) = (d : Int) * (q : Int) + d := by grind
    rw [Int.ediv_emod_unique hdp, Int.mul_neg, e]
    omega
  refine ⟨_, _, _, rfl, fun h => ⟨fun h1 => ?_, fun h1 => ?_⟩, fun h => ?_⟩
  · have hx0 : x < 0 := by simpa using h
    have hr0 : r ≠ 0 := fun k => by rw [k, nS_0] at h1; exact h1 rfl
    obtain ⟨eq1, eq2⟩ := neg1 hx0 hr0
    rw [nS_1]
    refine Pure.mono (natural_Add (hg.next hb) (Nat.lt_of_le_of_lt hql hx) ?_) ?_
    · rw [lim_eq]; exact Nat.lt_of_lt_of_le (by omega) (Nat.pow_le_pow_right (n := 10) (by omega) (show 1 ≤ 9 * KLim by have := klim; omega))
    rintro v w3 hb3 rfl
    refine ⟨_, _, rfl, Pure.mono (natural_Sub (hg.next (kP hb hb3)) hd (Nat.le_of_lt hm)) ?_⟩
    rintro v w4 _ rfl
    refine ⟨_, _, rfl, Pure.mono (integer_with _ _ _) ?_⟩
    rintro v w5 _ rfl
    refine ⟨_, _, rfl, Pure.mono (integer_with _ _ _) ?_⟩
    rintro v w6 _ rfl
    refine ⟨_, _, rfl, fun w7 _ => ?_⟩
    rw [eq1, eq2]
    simp [hx0]
  · have hx0 : x < 0 := by simpa using h
    have hr0 : r = 0 := by
      apply Decidable.byContradiction
      intro k
      rw [nS_0] at h1
      exact h1 fun e => k (nS_inj e)
    obtain ⟨eq1, eq2⟩ := neg0 hx0 hr0
    refine Pure.mono (integer_with _ _ _) ?_
    rintro v w5 _ rfl
    refine ⟨_, _, rfl, Pure.mono (integer_with _ _ _) ?_⟩
    rintro v w6 _ rfl
    refine ⟨_, _, rfl, fun w7 _ => ?_⟩
    rw [eq1, eq2]
    simp [hx0]
  · have hx0 : ¬ x < 0 := by simpa using h
    obtain ⟨eq1, eq2⟩ := pos (by omega)
    refine Pure.mono (integer_with _ _ _) ?_
    rintro v w5 _ rfl
    refine ⟨_, _, rfl, Pure.mono (integer_with _ _ _) ?_⟩
    rintro v w6 _ rfl
    refine ⟨_, _, rfl, fun w7 _ => ?_⟩
    rw [eq1, eq2]
    simp [hx0]

theorem natAbs_ediv_le (x : Int) (d : Nat) : (x / (d : Int)).natAbs ≤ x.natAbs := Int.natAbs_ediv_le_natAbs _ _
theorem integer_DivMod {w : World} {x : Int} {d : Nat} (hg : Glob w) (hx : x.natAbs < Lim) (hd : d < Lim) (hd0 : d ≠ 0) :
    Pure Tryz.prog 220 #[.string (iS x), .string (nS d)] w fun v _ => v = .tuple #[.string (iS (x / (d : Int))), .string (nS (x % (d : Int)).toNat), .int .i64 0] := by
  have hda : ((d : Int)).natAbs = d := by simp
  have hm0 := Int.emod_nonneg x (show (d : Int) ≠ 0 by omega)
  have hm1 := Int.emod_lt_of_pos x (show (0 : Int) < d by omega)
  rw [← iS_nat]
  refine F.integer_DivMod.vc _ _ _ _ (Pure.mono (integer_both hx (by rw [hda]; exact hd) w) ?_)
  rintro v w2 hb2 rfl
  refine ⟨_, _, _, _, _, rfl, fun h => absurd rfl h, fun _ w3 e3 => Pure.mono (integer_zero _) ?_⟩
  rintro v w4 hb4 rfl
  refine ⟨_, _, rfl, fun h => ?_, fun _ => Pure.mono (integer_divide (hg.next (kP (kE hb2 e3) hb4)) hx hd hd0) ?_⟩
  · have := nS_inj h.2.1
    omega
  rintro v w5 _ rfl
  refine ⟨_, _, _, _, rfl, fun w6 _ => Pure.mono (integer_text (Nat.lt_of_le_of_lt (natAbs_ediv_le _ _) hx) _) ?_⟩
  rintro v w7 _ rfl
  refine ⟨_, rfl, Pure.mono (integer_text (by omega) _) ?_⟩
  rintro v w8 _ rfl
  refine ⟨_, rfl, ?_⟩
  rw [← iS_nat, Int.toNat_of_nonneg hm0]
end Go.Proofs.YtdoailkigecmkaaGreatDoor.B

set_option maxRecDepth 100000
namespace Go.Proofs.YtdoailkigecmkaaGreatDoor.F
open Go Go.RowKit Go.Proofs Go.Proofs.YtdoailkigecmkaaGreatDoor.Vc
noncomputable def garboardref03_From.cx (w : World) (B : Nat) (R : Value → World → Prop) : Cx := ⟨Tryz.prog, 34, 60, Tryz.f34.results.toList, [], [], w, B, R⟩
theorem garboardref03_From.vc (sp0 : ByteArray) (w : World) (R : Value → World → Prop)
    (h : (∀ w1, Ext w.heap.size [] w w1 → (Pure Tryz.prog 73 #[(.string sp0)] w1 fun r5 w6 => ∃ (s2 : ByteArray) (s3 : ByteArray) (b4 : Bool), r5 = (.tuple #[(.string s2), (.string s3), (.bool b4)]) ∧ (Pure Tryz.prog 74 #[(.string s2)] w6 fun r8 w9 => ∃ (b7 : Bool), r8 = (.bool b7) ∧ (((b7 = false) → (Pure Tryz.prog 36 #[(.int .i64 (0 : Int))] w9 fun r13 w14 => ∃ (b10 : Bool) (A11 : Option Addr) (n11 c11 : Nat) (A12 : Option Addr) (n12 c12 : Nat), r13 = (.agg #[(.bool b10), (.slice A11 n11 c11), (.slice A12 n12 c12)]) ∧ (∀ w15, Ext w.heap.size [62] w14 w15 → (R (.tuple #[(.agg #[(.bool b10), (.slice A11 n11 c11), (.slice A12 n12 c12)]), (.bool false)]) w15)))) ∧ (¬ (b7 = false) → (Pure Tryz.prog 75 #[(.string s3)] w9 fun r17 w18 => ∃ (b16 : Bool), r17 = (.bool b16) ∧ (((b16 = false) → (Pure Tryz.prog 36 #[(.int .i64 (0 : Int))] w18 fun r22 w23 => ∃ (b19 : Bool) (A20 : Option Addr) (n20 c20 : Nat) (A21 : Option Addr) (n21 c21 : Nat), r22 = (.agg #[(.bool b19), (.slice A20 n20 c20), (.slice A21 n21 c21)]) ∧ (∀ w24, Ext w.heap.size [62] w23 w24 → (R (.tuple #[(.agg #[(.bool b19), (.slice A20 n20 c20), (.slice A21 n21 c21)]), (.bool false)]) w24)))) ∧ (¬ (b16 = false) → (Pure Tryz.prog 76 #[(.string s2)] w18 fun r27 w28 => ∃ (b25 : Bool) (A26 : Option Addr) (n26 c26 : Nat), r27 = (.agg #[(.bool b25), (.slice A26 n26 c26)]) ∧ (Pure Tryz.prog 77 #[(.string s3)] w28 fun r30 w31 => ∃ (A29 : Option Addr) (n29 c29 : Nat), r30 = (.slice A29 n29 c29) ∧ (((b4 = false) → (∀ w32, Ext w.heap.size [62] w31 w32 → (R (.tuple #[(.agg #[(.bool b25), (.slice A26 n26 c26), (.slice A29 n29 c29)]), (.bool true)]) w32))) ∧ (¬ (b4 = false) → (∀ w33, Ext w.heap.size [] w31 w33 → (Pure Tryz.prog 78 #[(.int .u32 (1 : Int))] w33 fun r35 w36 => ∃ (A34 : Option Addr) (n34 c34 : Nat), r35 = (.slice A34 n34 c34) ∧ (Pure Tryz.prog 79 #[(.slice A29 n29 c29), (.slice A34 n34 c34)] w36 fun r38 w39 => ∃ (i37 : Int), r38 = (.int .i64 i37) ∧ ((((i37 : Int) > (0 : Int)) → (Pure Tryz.prog 80 #[(.agg #[(.bool b25), (.slice A26 n26 c26)])] w39 fun r41 w42 => ∃ (i40 : Int), r41 = (.int .i64 i40) ∧ ((((i40 : Int) ≠ (0 : Int)) → (Pure Tryz.prog 81 #[(.slice A26 n26 c26), (.slice A29 n29 c29)] w42 fun r44 w45 => ∃ (A43 : Option Addr) (n43 c43 : Nat), r44 = (.slice A43 n43 c43) ∧ (Pure Tryz.prog 79 #[(.slice A43 n43 c43), (.slice A34 n34 c34)] w45 fun r47 w48 => ∃ (i46 : Int), r47 = (.int .i64 i46) ∧ (((¬ ((i46 : Int) = (0 : Int))) → (Pure Tryz.prog 36 #[(.int .i64 (0 : Int))] w48 fun r52 w53 => ∃ (b49 : Bool) (A50 : Option Addr) (n50 c50 : Nat) (A51 : Option Addr) (n51 c51 : Nat), r52 = (.agg #[(.bool b49), (.slice A50 n50 c50), (.slice A51 n51 c51)]) ∧ (∀ w54, Ext w.heap.size [62] w53 w54 → (R (.tuple #[(.agg #[(.bool b49), (.slice A50 n50 c50), (.slice A51 n51 c51)]), (.bool false)]) w54)))) ∧ (¬ (¬ ((i46 : Int) = (0 : Int))) → (∀ w55, Ext w.heap.size [62] w48 w55 → (R (.tuple #[(.agg #[(.bool b25), (.slice A26 n26 c26), (.slice A29 n29 c29)]), (.bool true)]) w55))))))) ∧ (¬ ((i40 : Int) ≠ (0 : Int)) → (Pure Tryz.prog 36 #[(.int .i64 (0 : Int))] w42 fun r59 w60 => ∃ (b56 : Bool) (A57 : Option Addr) (n57 c57 : Nat) (A58 : Option Addr) (n58 c58 : Nat), r59 = (.agg #[(.bool b56), (.slice A57 n57 c57), (.slice A58 n58 c58)]) ∧ (∀ w61, Ext w.heap.size [62] w60 w61 → (R (.tuple #[(.agg #[(.bool b56), (.slice A57 n57 c57), (.slice A58 n58 c58)]), (.bool false)]) w61))))))) ∧ (¬ ((i37 : Int) > (0 : Int)) → (Pure Tryz.prog 36 #[(.int .i64 (0 : Int))] w39 fun r65 w66 => ∃ (b62 : Bool) (A63 : Option Addr) (n63 c63 : Nat) (A64 : Option Addr) (n64 c64 : Nat), r65 = (.agg #[(.bool b62), (.slice A63 n63 c63), (.slice A64 n64 c64)]) ∧ (∀ w67, Ext w.heap.size [62] w66 w67 → (R (.tuple #[(.agg #[(.bool b62), (.slice A63 n63 c63), (.slice A64 n64 c64)]), (.bool false)]) w67))))))))))))))))))))) :
    Pure Tryz.prog 34 #[(.string sp0)] w R :=
  pure_of_run (garboardref03_From.cx w w.heap.size R) 100000 follows Tryz.func34 rfl rfl rfl rfl rfl rfl rfl (Eq.mp (by kernel_rfl) h)

noncomputable def garboardref03_Mul.cx (w : World) (B : Nat) (R : Value → World → Prop) : Cx := ⟨Tryz.prog, 35, 16, Tryz.f35.results.toList, [], [], w, B, R⟩
theorem garboardref03_Mul.vc (bp0_0 : Bool) (Ap0_1 : Option Addr) (np0_1 cp0_1 : Nat) (Ap0_2 : Option Addr) (np0_2 cp0_2 : Nat) (bp1_0 : Bool) (Ap1_1 : Option Addr) (np1_1 cp1_1 : Nat) (Ap1_2 : Option Addr) (np1_2 cp1_2 : Nat) (w : World) (R : Value → World → Prop)
    (h : (∀ w1, Ext w.heap.size [] w w1 → (Pure Tryz.prog 83 #[(.agg #[(.bool bp0_0), (.slice Ap0_1 np0_1 cp0_1)]), (.agg #[(.bool bp1_0), (.slice Ap1_1 np1_1 cp1_1)])] w1 fun r4 w5 => ∃ (b2 : Bool) (A3 : Option Addr) (n3 c3 : Nat), r4 = (.agg #[(.bool b2), (.slice A3 n3 c3)]) ∧ (Pure Tryz.prog 84 #[(.slice Ap0_2 np0_2 cp0_2), (.slice Ap1_2 np1_2 cp1_2)] w5 fun r7 w8 => ∃ (A6 : Option Addr) (n6 c6 : Nat), r7 = (.slice A6 n6 c6) ∧ (Pure Tryz.prog 82 #[(.agg #[(.bool b2), (.slice A3 n3 c3)]), (.slice A6 n6 c6)] w8 fun r12 w13 => ∃ (b9 : Bool) (A10 : Option Addr) (n10 c10 : Nat) (A11 : Option Addr) (n11 c11 : Nat), r12 = (.agg #[(.bool b9), (.slice A10 n10 c10), (.slice A11 n11 c11)]) ∧ (∀ w14, Ext w.heap.size [62] w13 w14 → (R (.agg #[(.bool b9), (.slice A10 n10 c10), (.slice A11 n11 c11)]) w14))))))) :
    Pure Tryz.prog 35 #[(.agg #[(.bool bp0_0), (.slice Ap0_1 np0_1 cp0_1), (.slice Ap0_2 np0_2 cp0_2)]), (.agg #[(.bool bp1_0), (.slice Ap1_1 np1_1 cp1_1), (.slice Ap1_2 np1_2 cp1_2)])] w R :=
  pure_of_run (garboardref03_Mul.cx w w.heap.size R) 100000 follows Tryz.func35 rfl rfl rfl rfl rfl rfl rfl (Eq.mp (by kernel_rfl) h)

noncomputable def garboardref03_Int.cx (w : World) (B : Nat) (R : Value → World → Prop) : Cx := ⟨Tryz.prog, 36, 7, Tryz.f36.results.toList, [], [], w, B, R⟩
theorem garboardref03_Int.vc (ip0 : Int) (w : World) (R : Value → World → Prop)
    (h : (∀ w1, Ext w.heap.size [] w w1 → (Pure Tryz.prog 85 #[(.int .i64 ip0)] w1 fun r4 w5 => ∃ (b2 : Bool) (A3 : Option Addr) (n3 c3 : Nat), r4 = (.agg #[(.bool b2), (.slice A3 n3 c3)]) ∧ (Pure Tryz.prog 78 #[(.int .u32 (1 : Int))] w5 fun r7 w8 => ∃ (A6 : Option Addr) (n6 c6 : Nat), r7 = (.slice A6 n6 c6) ∧ (∀ w9, Ext w.heap.size [62] w8 w9 → (R (.agg #[(.bool b2), (.slice A3 n3 c3), (.slice A6 n6 c6)]) w9)))))) :
    Pure Tryz.prog 36 #[(.int .i64 ip0)] w R :=
  pure_of_run (garboardref03_Int.cx w w.heap.size R) 100000 follows Tryz.func36 rfl rfl rfl rfl rfl rfl rfl (Eq.mp (by kernel_rfl) h)

noncomputable def garboardref03_Sub.cx (w : World) (B : Nat) (R : Value → World → Prop) : Cx := ⟨Tryz.prog, 37, 9, Tryz.f37.results.toList, [], [], w, B, R⟩
theorem garboardref03_Sub.vc (bp0_0 : Bool) (Ap0_1 : Option Addr) (np0_1 cp0_1 : Nat) (Ap0_2 : Option Addr) (np0_2 cp0_2 : Nat) (bp1_0 : Bool) (Ap1_1 : Option Addr) (np1_1 cp1_1 : Nat) (Ap1_2 : Option Addr) (np1_2 cp1_2 : Nat) (w : World) (R : Value → World → Prop)
    (h : (∀ w1, Ext w.heap.size [] w w1 → (Pure Tryz.prog 39 #[(.agg #[(.bool bp1_0), (.slice Ap1_1 np1_1 cp1_1), (.slice Ap1_2 np1_2 cp1_2)])] w1 fun r5 w6 => ∃ (b2 : Bool) (A3 : Option Addr) (n3 c3 : Nat) (A4 : Option Addr) (n4 c4 : Nat), r5 = (.agg #[(.bool b2), (.slice A3 n3 c3), (.slice A4 n4 c4)]) ∧ (Pure Tryz.prog 86 #[(.agg #[(.bool bp0_0), (.slice Ap0_1 np0_1 cp0_1), (.slice Ap0_2 np0_2 cp0_2)]), (.agg #[(.bool b2), (.slice A3 n3 c3), (.slice A4 n4 c4)])] w6 fun r10 w11 => ∃ (b7 : Bool) (A8 : Option Addr) (n8 c8 : Nat) (A9 : Option Addr) (n9 c9 : Nat), r10 = (.agg #[(.bool b7), (.slice A8 n8 c8), (.slice A9 n9 c9)]) ∧ (∀ w12, Ext w.heap.size [62] w11 w12 → (R (.agg #[(.bool b7), (.slice A8 n8 c8), (.slice A9 n9 c9)]) w12)))))) :
    Pure Tryz.prog 37 #[(.agg #[(.bool bp0_0), (.slice Ap0_1 np0_1 cp0_1), (.slice Ap0_2 np0_2 cp0_2)]), (.agg #[(.bool bp1_0), (.slice Ap1_1 np1_1 cp1_1), (.slice Ap1_2 np1_2 cp1_2)])] w R :=
  pure_of_run (garboardref03_Sub.cx w w.heap.size R) 100000 follows Tryz.func37 rfl rfl rfl rfl rfl rfl rfl (Eq.mp (by kernel_rfl) h)

noncomputable def garboardref03_Less.cx (w : World) (B : Nat) (R : Value → World → Prop) : Cx := ⟨Tryz.prog, 38, 9, Tryz.f38.results.toList, [], [], w, B, R⟩
theorem garboardref03_Less.vc (bp0_0 : Bool) (Ap0_1 : Option Addr) (np0_1 cp0_1 : Nat) (Ap0_2 : Option Addr) (np0_2 cp0_2 : Nat) (bp1_0 : Bool) (Ap1_1 : Option Addr) (np1_1 cp1_1 : Nat) (Ap1_2 : Option Addr) (np1_2 cp1_2 : Nat) (w : World) (R : Value → World → Prop)
    (h : (∀ w1, Ext w.heap.size [] w w1 → (Pure Tryz.prog 87 #[(.agg #[(.bool bp0_0), (.slice Ap0_1 np0_1 cp0_1), (.slice Ap0_2 np0_2 cp0_2)]), (.agg #[(.bool bp1_0), (.slice Ap1_1 np1_1 cp1_1), (.slice Ap1_2 np1_2 cp1_2)])] w1 fun r3 w4 => ∃ (i2 : Int), r3 = (.int .i64 i2) ∧ (R (.bool (decide ((i2 : Int) < (0 : Int)))) w4)))) :
    Pure Tryz.prog 38 #[(.agg #[(.bool bp0_0), (.slice Ap0_1 np0_1 cp0_1), (.slice Ap0_2 np0_2 cp0_2)]), (.agg #[(.bool bp1_0), (.slice Ap1_1 np1_1 cp1_1), (.slice Ap1_2 np1_2 cp1_2)])] w R :=
  pure_of_run (garboardref03_Less.cx w w.heap.size R) 100000 follows Tryz.func38 rfl rfl rfl rfl rfl rfl rfl (Eq.mp (by kernel_rfl) h)

noncomputable def garboardref03_Neg.cx (w : World) (B : Nat) (R : Value → World → Prop) : Cx := ⟨Tryz.prog, 39, 9, Tryz.f39.results.toList, [], [], w, B, R⟩
theorem garboardref03_Neg.vc (bp0_0 : Bool) (Ap0_1 : Option Addr) (np0_1 cp0_1 : Nat) (Ap0_2 : Option Addr) (np0_2 cp0_2 : Nat) (w : World) (R : Value → World → Prop)
    (h : (∀ w1, Ext w.heap.size [] w w1 → (Pure Tryz.prog 88 #[(.agg #[(.bool bp0_0), (.slice Ap0_1 np0_1 cp0_1)])] w1 fun r4 w5 => ∃ (b2 : Bool) (A3 : Option Addr) (n3 c3 : Nat), r4 = (.agg #[(.bool b2), (.slice A3 n3 c3)]) ∧ (∀ w6, Ext w.heap.size [62] w5 w6 → (R (.agg #[(.bool b2), (.slice A3 n3 c3), (.slice Ap0_2 np0_2 cp0_2)]) w6))))) :
    Pure Tryz.prog 39 #[(.agg #[(.bool bp0_0), (.slice Ap0_1 np0_1 cp0_1), (.slice Ap0_2 np0_2 cp0_2)])] w R :=
  pure_of_run (garboardref03_Neg.cx w w.heap.size R) 100000 follows Tryz.func39 rfl rfl rfl rfl rfl rfl rfl (Eq.mp (by kernel_rfl) h)

noncomputable def garboardref03_Valid.cx (w : World) (B : Nat) (R : Value → World → Prop) : Cx := ⟨Tryz.prog, 50, 11, Tryz.f50.results.toList, [], [], w, B, R⟩
theorem garboardref03_Valid.vc (sp0 : ByteArray) (w : World) (R : Value → World → Prop)
    (h : (Pure Tryz.prog 34 #[(.string sp0)] w fun r5 w6 => ∃ (b1 : Bool) (A2 : Option Addr) (n2 c2 : Nat) (A3 : Option Addr) (n3 c3 : Nat) (b4 : Bool), r5 = (.tuple #[(.agg #[(.bool b1), (.slice A2 n2 c2), (.slice A3 n3 c3)]), (.bool b4)]) ∧ (∀ w7, Ext w.heap.size [] w6 w7 → (R (.bool b4) w7)))) :
    Pure Tryz.prog 50 #[(.string sp0)] w R :=
  pure_of_run (garboardref03_Valid.cx w w.heap.size R) 100000 follows Tryz.func50 rfl rfl rfl rfl rfl rfl rfl (Eq.mp (by kernel_rfl) h)

noncomputable def garboardref03_To.cx (w : World) (B : Nat) (R : Value → World → Prop) : Cx := ⟨Tryz.prog, 51, 18, Tryz.f51.results.toList, [], [], w, B, R⟩
theorem garboardref03_To.vc (bp0_0 : Bool) (Ap0_1 : Option Addr) (np0_1 cp0_1 : Nat) (Ap0_2 : Option Addr) (np0_2 cp0_2 : Nat) (w : World) (R : Value → World → Prop)
    (h : (∀ w1, Ext w.heap.size [] w w1 → (Pure Tryz.prog 92 #[(.agg #[(.bool bp0_0), (.slice Ap0_1 np0_1 cp0_1)])] w1 fun r3 w4 => ∃ (s2 : ByteArray), r3 = (.string s2) ∧ (Pure Tryz.prog 93 #[(.slice Ap0_2 np0_2 cp0_2)] w4 fun r6 w7 => ∃ (s5 : ByteArray), r6 = (.string s5) ∧ (((s5 ≠ (⟨#[49]⟩ : ByteArray)) → (ByteArray.size (⟨#[47]⟩ : ByteArray) + ByteArray.size s5 ≤ 9223372036854775807 ∧ (ByteArray.size s2 + ByteArray.size ((⟨#[47]⟩ : ByteArray) ++ s5) ≤ 9223372036854775807 ∧ (R (.string (s2 ++ ((⟨#[47]⟩ : ByteArray) ++ s5))) w7)))) ∧ (¬ (s5 ≠ (⟨#[49]⟩ : ByteArray)) → (R (.string s2) w7))))))) :
    Pure Tryz.prog 51 #[(.agg #[(.bool bp0_0), (.slice Ap0_1 np0_1 cp0_1), (.slice Ap0_2 np0_2 cp0_2)])] w R :=
  pure_of_run (garboardref03_To.cx w w.heap.size R) 100000 follows Tryz.func51 rfl rfl rfl rfl rfl rfl rfl (Eq.mp (by kernel_rfl) h)

noncomputable def garboardref03_Sign.cx (w : World) (B : Nat) (R : Value → World → Prop) : Cx := ⟨Tryz.prog, 69, 6, Tryz.f69.results.toList, [], [], w, B, R⟩
theorem garboardref03_Sign.vc (bp0_0 : Bool) (Ap0_1 : Option Addr) (np0_1 cp0_1 : Nat) (Ap0_2 : Option Addr) (np0_2 cp0_2 : Nat) (w : World) (R : Value → World → Prop)
    (h : (∀ w1, Ext w.heap.size [] w w1 → (Pure Tryz.prog 80 #[(.agg #[(.bool bp0_0), (.slice Ap0_1 np0_1 cp0_1)])] w1 fun r3 w4 => ∃ (i2 : Int), r3 = (.int .i64 i2) ∧ (R (.int .i64 i2) w4)))) :
    Pure Tryz.prog 69 #[(.agg #[(.bool bp0_0), (.slice Ap0_1 np0_1 cp0_1), (.slice Ap0_2 np0_2 cp0_2)])] w R :=
  pure_of_run (garboardref03_Sign.cx w w.heap.size R) 100000 follows Tryz.func69 rfl rfl rfl rfl rfl rfl rfl (Eq.mp (by kernel_rfl) h)

def garboardref03_split.L2 (sl0 : ByteArray) (il5 : Int) (B : Nat) (w : World) (R : Value → World → Prop) : Prop := At Tryz.prog 73 24 (loopAt Tryz.f73 2) [(0, .v (.string sl0)), (5, .v (.int .i64 il5))] [] B w R
noncomputable def garboardref03_split.cx (w : World) (B : Nat) (R : Value → World → Prop) : Cx := ⟨Tryz.prog, 73, 24, Tryz.f73.results.toList, [((true, 2), [0, 5], [])], [], w, B, R⟩
theorem garboardref03_split.L2.step (sl0 : ByteArray) (il5 : Int) (B : Nat) (w : World) (R : Value → World → Prop)
    (h : ((((il5 : Int) < (ByteArray.size sl0 : Int)) → ((0 ≤ il5 ∧ il5 < (ByteArray.size sl0 : Int)) ∧ (((((bt sl0 il5) : Int) = (47 : Int)) → ((0 ≤ il5 ∧ il5 ≤ (ByteArray.size sl0 : Int)) ∧ (inR .i64 (il5 + (1 : Int)) ∧ ((0 ≤ (il5 + (1 : Int)) ∧ (il5 + (1 : Int)) ≤ (ByteArray.size sl0 : Int)) ∧ (∀ w1, Ext B [] w w1 → (R (.tuple #[(.string (ByteArray.extract sl0 0 (il5).toNat)), (.string (ByteArray.extract sl0 ((il5 + (1 : Int))).toNat (ByteArray.size sl0))), (.bool true)]) w1)))))) ∧ (¬ (((bt sl0 il5) : Int) = (47 : Int)) → (inR .i64 (il5 + (1 : Int)) ∧ (garboardref03_split.L2 sl0 (il5 + (1 : Int)) B w R)))))) ∧ (¬ ((il5 : Int) < (ByteArray.size sl0 : Int)) → (R (.tuple #[(.string sl0), (.string (⟨#[49]⟩ : ByteArray)), (.bool false)]) w)))) :
    garboardref03_split.L2 sl0 il5 B w R :=
  loop_of_run (garboardref03_split.cx w B R) 100000 (loopAt Tryz.f73 2) _ _ follows Tryz.func73 rfl rfl rfl (Eq.mp (by kernel_rfl) h)
theorem garboardref03_split.vc (sp0 : ByteArray) (w : World) (R : Value → World → Prop)
    (h : (garboardref03_split.L2 sp0 (0 : Int) w.heap.size w R)) :
    Pure Tryz.prog 73 #[(.string sp0)] w R :=
  pure_of_run (garboardref03_split.cx w w.heap.size R) 100000 follows Tryz.func73 rfl rfl rfl rfl rfl rfl rfl (Eq.mp (by kernel_rfl) h)

noncomputable def garboardref03_lowest.cx (w : World) (B : Nat) (R : Value → World → Prop) : Cx := ⟨Tryz.prog, 82, 45, Tryz.f82.results.toList, [], [], w, B, R⟩
theorem garboardref03_lowest.vc (bp0_0 : Bool) (Ap0_1 : Option Addr) (np0_1 cp0_1 : Nat) (Ap1 : Option Addr) (np1 cp1 : Nat) (w : World) (R : Value → World → Prop)
    (h : (∀ w1, Ext w.heap.size [] w w1 → (Pure Tryz.prog 81 #[(.slice Ap0_1 np0_1 cp0_1), (.slice Ap1 np1 cp1)] w1 fun r3 w4 => ∃ (A2 : Option Addr) (n2 c2 : Nat), r3 = (.slice A2 n2 c2) ∧ (((((n2 : Int) : Int) = (1 : Int)) → ((0 ≤ (0 : Int) ∧ (0 : Int) < n2) ∧ ∃ a5, A2 = some a5 ∧ (∃ (i6 : Int), CellsAt w4 (a5.add (((0 : Int)).toNat * 1)) [(.int .u32 i6)] ∧ ((((i6 : Int) = (1 : Int)) → (∀ w7, Ext w.heap.size [62] w4 w7 → (R (.agg #[(.bool bp0_0), (.slice Ap0_1 np0_1 cp0_1), (.slice Ap1 np1 cp1)]) w7))) ∧ (¬ ((i6 : Int) = (1 : Int)) → (Pure Tryz.prog 108 #[(.slice Ap0_1 np0_1 cp0_1), (.slice A2 n2 c2)] w4 fun r10 w11 => ∃ (A8 : Option Addr) (n8 c8 : Nat) (A9 : Option Addr) (n9 c9 : Nat), r10 = (.tuple #[(.slice A8 n8 c8), (.slice A9 n9 c9)]) ∧ (Pure Tryz.prog 108 #[(.slice Ap1 np1 cp1), (.slice A2 n2 c2)] w11 fun r14 w15 => ∃ (A12 : Option Addr) (n12 c12 : Nat) (A13 : Option Addr) (n13 c13 : Nat), r14 = (.tuple #[(.slice A12 n12 c12), (.slice A13 n13 c13)]) ∧ (Pure Tryz.prog 109 #[(.bool bp0_0), (.slice A8 n8 c8)] w15 fun r18 w19 => ∃ (b16 : Bool) (A17 : Option Addr) (n17 c17 : Nat), r18 = (.agg #[(.bool b16), (.slice A17 n17 c17)]) ∧ (∀ w20, Ext w.heap.size [62] w19 w20 → (R (.agg #[(.bool b16), (.slice A17 n17 c17), (.slice A12 n12 c12)]) w20)))))))))) ∧ (¬ (((n2 : Int) : Int) = (1 : Int)) → (Pure Tryz.prog 108 #[(.slice Ap0_1 np0_1 cp0_1), (.slice A2 n2 c2)] w4 fun r23 w24 => ∃ (A21 : Option Addr) (n21 c21 : Nat) (A22 : Option Addr) (n22 c22 : Nat), r23 = (.tuple #[(.slice A21 n21 c21), (.slice A22 n22 c22)]) ∧ (Pure Tryz.prog 108 #[(.slice Ap1 np1 cp1), (.slice A2 n2 c2)] w24 fun r27 w28 => ∃ (A25 : Option Addr) (n25 c25 : Nat) (A26 : Option Addr) (n26 c26 : Nat), r27 = (.tuple #[(.slice A25 n25 c25), (.slice A26 n26 c26)]) ∧ (Pure Tryz.prog 109 #[(.bool bp0_0), (.slice A21 n21 c21)] w28 fun r31 w32 => ∃ (b29 : Bool) (A30 : Option Addr) (n30 c30 : Nat), r31 = (.agg #[(.bool b29), (.slice A30 n30 c30)]) ∧ (∀ w33, Ext w.heap.size [62] w32 w33 → (R (.agg #[(.bool b29), (.slice A30 n30 c30), (.slice A25 n25 c25)]) w33)))))))))) :
    Pure Tryz.prog 82 #[(.agg #[(.bool bp0_0), (.slice Ap0_1 np0_1 cp0_1)]), (.slice Ap1 np1 cp1)] w R :=
  pure_of_run (garboardref03_lowest.cx w w.heap.size R) 100000 follows Tryz.func82 rfl rfl rfl rfl rfl rfl rfl (Eq.mp (by kernel_rfl) h)

noncomputable def garboardref03_Add.cx (w : World) (B : Nat) (R : Value → World → Prop) : Cx := ⟨Tryz.prog, 86, 50, Tryz.f86.results.toList, [], [], w, B, R⟩
theorem garboardref03_Add.vc (bp0_0 : Bool) (Ap0_1 : Option Addr) (np0_1 cp0_1 : Nat) (Ap0_2 : Option Addr) (np0_2 cp0_2 : Nat) (bp1_0 : Bool) (Ap1_1 : Option Addr) (np1_1 cp1_1 : Nat) (Ap1_2 : Option Addr) (np1_2 cp1_2 : Nat) (w : World) (R : Value → World → Prop)
    (h : (∀ w1, Ext w.heap.size [] w w1 → (Pure Tryz.prog 79 #[(.slice Ap0_2 np0_2 cp0_2), (.slice Ap1_2 np1_2 cp1_2)] w1 fun r3 w4 => ∃ (i2 : Int), r3 = (.int .i64 i2) ∧ ((((i2 : Int) = (0 : Int)) → (∀ w5, Ext w.heap.size [] w4 w5 → (Pure Tryz.prog 110 #[(.agg #[(.bool bp0_0), (.slice Ap0_1 np0_1 cp0_1)]), (.agg #[(.bool bp1_0), (.slice Ap1_1 np1_1 cp1_1)])] w5 fun r8 w9 => ∃ (b6 : Bool) (A7 : Option Addr) (n7 c7 : Nat), r8 = (.agg #[(.bool b6), (.slice A7 n7 c7)]) ∧ (Pure Tryz.prog 82 #[(.agg #[(.bool b6), (.slice A7 n7 c7)]), (.slice Ap0_2 np0_2 cp0_2)] w9 fun r13 w14 => ∃ (b10 : Bool) (A11 : Option Addr) (n11 c11 : Nat) (A12 : Option Addr) (n12 c12 : Nat), r13 = (.agg #[(.bool b10), (.slice A11 n11 c11), (.slice A12 n12 c12)]) ∧ (∀ w15, Ext w.heap.size [62] w14 w15 → (R (.agg #[(.bool b10), (.slice A11 n11 c11), (.slice A12 n12 c12)]) w15)))))) ∧ (¬ ((i2 : Int) = (0 : Int)) → ((∀ w16, Ext w.heap.size [] w4 w16 → (Pure Tryz.prog 84 #[(.slice Ap0_1 np0_1 cp0_1), (.slice Ap1_2 np1_2 cp1_2)] w16 fun r18 w19 => ∃ (A17 : Option Addr) (n17 c17 : Nat), r18 = (.slice A17 n17 c17) ∧ ((Pure Tryz.prog 109 #[(.bool bp0_0), (.slice A17 n17 c17)] w19 fun r22 w23 => ∃ (b20 : Bool) (A21 : Option Addr) (n21 c21 : Nat), r22 = (.agg #[(.bool b20), (.slice A21 n21 c21)]) ∧ ((∀ w24, Ext w.heap.size [] w23 w24 → (Pure Tryz.prog 84 #[(.slice Ap1_1 np1_1 cp1_1), (.slice Ap0_2 np0_2 cp0_2)] w24 fun r26 w27 => ∃ (A25 : Option Addr) (n25 c25 : Nat), r26 = (.slice A25 n25 c25) ∧ ((Pure Tryz.prog 109 #[(.bool bp1_0), (.slice A25 n25 c25)] w27 fun r30 w31 => ∃ (b28 : Bool) (A29 : Option Addr) (n29 c29 : Nat), r30 = (.agg #[(.bool b28), (.slice A29 n29 c29)]) ∧ (∀ w32, Ext w.heap.size [] w31 w32 → (Pure Tryz.prog 110 #[(.agg #[(.bool b20), (.slice A21 n21 c21)]), (.agg #[(.bool b28), (.slice A29 n29 c29)])] w32 fun r35 w36 => ∃ (b33 : Bool) (A34 : Option Addr) (n34 c34 : Nat), r35 = (.agg #[(.bool b33), (.slice A34 n34 c34)]) ∧ (Pure Tryz.prog 84 #[(.slice Ap0_2 np0_2 cp0_2), (.slice Ap1_2 np1_2 cp1_2)] w36 fun r38 w39 => ∃ (A37 : Option Addr) (n37 c37 : Nat), r38 = (.slice A37 n37 c37) ∧ (Pure Tryz.prog 82 #[(.agg #[(.bool b33), (.slice A34 n34 c34)]), (.slice A37 n37 c37)] w39 fun r43 w44 => ∃ (b40 : Bool) (A41 : Option Addr) (n41 c41 : Nat) (A42 : Option Addr) (n42 c42 : Nat), r43 = (.agg #[(.bool b40), (.slice A41 n41 c41), (.slice A42 n42 c42)]) ∧ (∀ w45, Ext w.heap.size [62] w44 w45 → (R (.agg #[(.bool b40), (.slice A41 n41 c41), (.slice A42 n42 c42)]) w45))))))) ∧ (∀ w46, Ext w.heap.size [] w27 w46 → (Pure Tryz.prog 109 #[(.bool bp1_0), (.slice A25 n25 c25)] w46 fun r49 w50 => ∃ (b47 : Bool) (A48 : Option Addr) (n48 c48 : Nat), r49 = (.agg #[(.bool b47), (.slice A48 n48 c48)]) ∧ (∀ w51, Ext w.heap.size [60] w50 w51 → (Pure Tryz.prog 110 #[(.agg #[(.bool b20), (.slice A21 n21 c21)]), (.agg #[(.bool b47), (.slice A48 n48 c48)])] w51 fun r54 w55 => ∃ (b52 : Bool) (A53 : Option Addr) (n53 c53 : Nat), r54 = (.agg #[(.bool b52), (.slice A53 n53 c53)]) ∧ (Pure Tryz.prog 84 #[(.slice Ap0_2 np0_2 cp0_2), (.slice Ap1_2 np1_2 cp1_2)] w55 fun r57 w58 => ∃ (A56 : Option Addr) (n56 c56 : Nat), r57 = (.slice A56 n56 c56) ∧ (Pure Tryz.prog 82 #[(.agg #[(.bool b52), (.slice A53 n53 c53)]), (.slice A56 n56 c56)] w58 fun r62 w63 => ∃ (b59 : Bool) (A60 : Option Addr) (n60 c60 : Nat) (A61 : Option Addr) (n61 c61 : Nat), r62 = (.agg #[(.bool b59), (.slice A60 n60 c60), (.slice A61 n61 c61)]) ∧ (∀ w64, Ext w.heap.size [62] w63 w64 → (R (.agg #[(.bool b59), (.slice A60 n60 c60), (.slice A61 n61 c61)]) w64))))))))))) ∧ (∀ w65, Ext w.heap.size [] w23 w65 → (Pure Tryz.prog 84 #[(.slice Ap1_1 np1_1 cp1_1), (.slice Ap0_2 np0_2 cp0_2)] w65 fun r67 w68 => ∃ (A66 : Option Addr) (n66 c66 : Nat), r67 = (.slice A66 n66 c66) ∧ (Pure Tryz.prog 109 #[(.bool bp1_0), (.slice A66 n66 c66)] w68 fun r71 w72 => ∃ (b69 : Bool) (A70 : Option Addr) (n70 c70 : Nat), r71 = (.agg #[(.bool b69), (.slice A70 n70 c70)]) ∧ (∀ w73, Ext w.heap.size [60] w72 w73 → (Pure Tryz.prog 110 #[(.agg #[(.bool b20), (.slice A21 n21 c21)]), (.agg #[(.bool b69), (.slice A70 n70 c70)])] w73 fun r76 w77 => ∃ (b74 : Bool) (A75 : Option Addr) (n75 c75 : Nat), r76 = (.agg #[(.bool b74), (.slice A75 n75 c75)]) ∧ (Pure Tryz.prog 84 #[(.slice Ap0_2 np0_2 cp0_2), (.slice Ap1_2 np1_2 cp1_2)] w77 fun r79 w80 => ∃ (A78 : Option Addr) (n78 c78 : Nat), r79 = (.slice A78 n78 c78) ∧ (Pure Tryz.prog 82 #[(.agg #[(.bool b74), (.slice A75 n75 c75)]), (.slice A78 n78 c78)] w80 fun r84 w85 => ∃ (b81 : Bool) (A82 : Option Addr) (n82 c82 : Nat) (A83 : Option Addr) (n83 c83 : Nat), r84 = (.agg #[(.bool b81), (.slice A82 n82 c82), (.slice A83 n83 c83)]) ∧ (∀ w86, Ext w.heap.size [62] w85 w86 → (R (.agg #[(.bool b81), (.slice A82 n82 c82), (.slice A83 n83 c83)]) w86))))))))))) ∧ (∀ w87, Ext w.heap.size [] w19 w87 → (Pure Tryz.prog 109 #[(.bool bp0_0), (.slice A17 n17 c17)] w87 fun r90 w91 => ∃ (b88 : Bool) (A89 : Option Addr) (n89 c89 : Nat), r90 = (.agg #[(.bool b88), (.slice A89 n89 c89)]) ∧ ((∀ w92, Ext w.heap.size [60] w91 w92 → (Pure Tryz.prog 84 #[(.slice Ap1_1 np1_1 cp1_1), (.slice Ap0_2 np0_2 cp0_2)] w92 fun r94 w95 => ∃ (A93 : Option Addr) (n93 c93 : Nat), r94 = (.slice A93 n93 c93) ∧ ((Pure Tryz.prog 109 #[(.bool bp1_0), (.slice A93 n93 c93)] w95 fun r98 w99 => ∃ (b96 : Bool) (A97 : Option Addr) (n97 c97 : Nat), r98 = (.agg #[(.bool b96), (.slice A97 n97 c97)]) ∧ (∀ w100, Ext w.heap.size [] w99 w100 → (Pure Tryz.prog 110 #[(.agg #[(.bool b88), (.slice A89 n89 c89)]), (.agg #[(.bool b96), (.slice A97 n97 c97)])] w100 fun r103 w104 => ∃ (b101 : Bool) (A102 : Option Addr) (n102 c102 : Nat), r103 = (.agg #[(.bool b101), (.slice A102 n102 c102)]) ∧ (Pure Tryz.prog 84 #[(.slice Ap0_2 np0_2 cp0_2), (.slice Ap1_2 np1_2 cp1_2)] w104 fun r106 w107 => ∃ (A105 : Option Addr) (n105 c105 : Nat), r106 = (.slice A105 n105 c105) ∧ (Pure Tryz.prog 82 #[(.agg #[(.bool b101), (.slice A102 n102 c102)]), (.slice A105 n105 c105)] w107 fun r111 w112 => ∃ (b108 : Bool) (A109 : Option Addr) (n109 c109 : Nat) (A110 : Option Addr) (n110 c110 : Nat), r111 = (.agg #[(.bool b108), (.slice A109 n109 c109), (.slice A110 n110 c110)]) ∧ (∀ w113, Ext w.heap.size [62] w112 w113 → (R (.agg #[(.bool b108), (.slice A109 n109 c109), (.slice A110 n110 c110)]) w113))))))) ∧ (∀ w114, Ext w.heap.size [] w95 w114 → (Pure Tryz.prog 109 #[(.bool bp1_0), (.slice A93 n93 c93)] w114 fun r117 w118 => ∃ (b115 : Bool) (A116 : Option Addr) (n116 c116 : Nat), r117 = (.agg #[(.bool b115), (.slice A116 n116 c116)]) ∧ (∀ w119, Ext w.heap.size [60] w118 w119 → (Pure Tryz.prog 110 #[(.agg #[(.bool b88), (.slice A89 n89 c89)]), (.agg #[(.bool b115), (.slice A116 n116 c116)])] w119 fun r122 w123 => ∃ (b120 : Bool) (A121 : Option Addr) (n121 c121 : Nat), r122 = (.agg #[(.bool b120), (.slice A121 n121 c121)]) ∧ (Pure Tryz.prog 84 #[(.slice Ap0_2 np0_2 cp0_2), (.slice Ap1_2 np1_2 cp1_2)] w123 fun r125 w126 => ∃ (A124 : Option Addr) (n124 c124 : Nat), r125 = (.slice A124 n124 c124) ∧ (Pure Tryz.prog 82 #[(.agg #[(.bool b120), (.slice A121 n121 c121)]), (.slice A124 n124 c124)] w126 fun r130 w131 => ∃ (b127 : Bool) (A128 : Option Addr) (n128 c128 : Nat) (A129 : Option Addr) (n129 c129 : Nat), r130 = (.agg #[(.bool b127), (.slice A128 n128 c128), (.slice A129 n129 c129)]) ∧ (∀ w132, Ext w.heap.size [62] w131 w132 → (R (.agg #[(.bool b127), (.slice A128 n128 c128), (.slice A129 n129 c129)]) w132))))))))))) ∧ (∀ w133, Ext w.heap.size [60] w91 w133 → (Pure Tryz.prog 84 #[(.slice Ap1_1 np1_1 cp1_1), (.slice Ap0_2 np0_2 cp0_2)] w133 fun r135 w136 => ∃ (A134 : Option Addr) (n134 c134 : Nat), r135 = (.slice A134 n134 c134) ∧ (Pure Tryz.prog 109 #[(.bool bp1_0), (.slice A134 n134 c134)] w136 fun r139 w140 => ∃ (b137 : Bool) (A138 : Option Addr) (n138 c138 : Nat), r139 = (.agg #[(.bool b137), (.slice A138 n138 c138)]) ∧ (∀ w141, Ext w.heap.size [60] w140 w141 → (Pure Tryz.prog 110 #[(.agg #[(.bool b88), (.slice A89 n89 c89)]), (.agg #[(.bool b137), (.slice A138 n138 c138)])] w141 fun r144 w145 => ∃ (b142 : Bool) (A143 : Option Addr) (n143 c143 : Nat), r144 = (.agg #[(.bool b142), (.slice A143 n143 c143)]) ∧ (Pure Tryz.prog 84 #[(.slice Ap0_2 np0_2 cp0_2), (.slice Ap1_2 np1_2 cp1_2)] w145 fun r147 w148 => ∃ (A146 : Option Addr) (n146 c146 : Nat), r147 = (.slice A146 n146 c146) ∧ (Pure Tryz.prog 82 #[(.agg #[(.bool b142), (.slice A143 n143 c143)]), (.slice A146 n146 c146)] w148 fun r152 w153 => ∃ (b149 : Bool) (A150 : Option Addr) (n150 c150 : Nat) (A151 : Option Addr) (n151 c151 : Nat), r152 = (.agg #[(.bool b149), (.slice A150 n150 c150), (.slice A151 n151 c151)]) ∧ (∀ w154, Ext w.heap.size [62] w153 w154 → (R (.agg #[(.bool b149), (.slice A150 n150 c150), (.slice A151 n151 c151)]) w154))))))))))))))) ∧ (∀ w155, Ext w.heap.size [] w4 w155 → (Pure Tryz.prog 84 #[(.slice Ap0_1 np0_1 cp0_1), (.slice Ap1_2 np1_2 cp1_2)] w155 fun r157 w158 => ∃ (A156 : Option Addr) (n156 c156 : Nat), r157 = (.slice A156 n156 c156) ∧ (Pure Tryz.prog 109 #[(.bool bp0_0), (.slice A156 n156 c156)] w158 fun r161 w162 => ∃ (b159 : Bool) (A160 : Option Addr) (n160 c160 : Nat), r161 = (.agg #[(.bool b159), (.slice A160 n160 c160)]) ∧ ((∀ w163, Ext w.heap.size [60] w162 w163 → (Pure Tryz.prog 84 #[(.slice Ap1_1 np1_1 cp1_1), (.slice Ap0_2 np0_2 cp0_2)] w163 fun r165 w166 => ∃ (A164 : Option Addr) (n164 c164 : Nat), r165 = (.slice A164 n164 c164) ∧ ((Pure Tryz.prog 109 #[(.bool bp1_0), (.slice A164 n164 c164)] w166 fun r169 w170 => ∃ (b167 : Bool) (A168 : Option Addr) (n168 c168 : Nat), r169 = (.agg #[(.bool b167), (.slice A168 n168 c168)]) ∧ (∀ w171, Ext w.heap.size [] w170 w171 → (Pure Tryz.prog 110 #[(.agg #[(.bool b159), (.slice A160 n160 c160)]), (.agg #[(.bool b167), (.slice A168 n168 c168)])] w171 fun r174 w175 => ∃ (b172 : Bool) (A173 : Option Addr) (n173 c173 : Nat), r174 = (.agg #[(.bool b172), (.slice A173 n173 c173)]) ∧ (Pure Tryz.prog 84 #[(.slice Ap0_2 np0_2 cp0_2), (.slice Ap1_2 np1_2 cp1_2)] w175 fun r177 w178 => ∃ (A176 : Option Addr) (n176 c176 : Nat), r177 = (.slice A176 n176 c176) ∧ (Pure Tryz.prog 82 #[(.agg #[(.bool b172), (.slice A173 n173 c173)]), (.slice A176 n176 c176)] w178 fun r182 w183 => ∃ (b179 : Bool) (A180 : Option Addr) (n180 c180 : Nat) (A181 : Option Addr) (n181 c181 : Nat), r182 = (.agg #[(.bool b179), (.slice A180 n180 c180), (.slice A181 n181 c181)]) ∧ (∀ w184, Ext w.heap.size [62] w183 w184 → (R (.agg #[(.bool b179), (.slice A180 n180 c180), (.slice A181 n181 c181)]) w184))))))) ∧ (∀ w185, Ext w.heap.size [] w166 w185 → (Pure Tryz.prog 109 #[(.bool bp1_0), (.slice A164 n164 c164)] w185 fun r188 w189 => ∃ (b186 : Bool) (A187 : Option Addr) (n187 c187 : Nat), r188 = (.agg #[(.bool b186), (.slice A187 n187 c187)]) ∧ (∀ w190, Ext w.heap.size [60] w189 w190 → (Pure Tryz.prog 110 #[(.agg #[(.bool b159), (.slice A160 n160 c160)]), (.agg #[(.bool b186), (.slice A187 n187 c187)])] w190 fun r193 w194 => ∃ (b191 : Bool) (A192 : Option Addr) (n192 c192 : Nat), r193 = (.agg #[(.bool b191), (.slice A192 n192 c192)]) ∧ (Pure Tryz.prog 84 #[(.slice Ap0_2 np0_2 cp0_2), (.slice Ap1_2 np1_2 cp1_2)] w194 fun r196 w197 => ∃ (A195 : Option Addr) (n195 c195 : Nat), r196 = (.slice A195 n195 c195) ∧ (Pure Tryz.prog 82 #[(.agg #[(.bool b191), (.slice A192 n192 c192)]), (.slice A195 n195 c195)] w197 fun r201 w202 => ∃ (b198 : Bool) (A199 : Option Addr) (n199 c199 : Nat) (A200 : Option Addr) (n200 c200 : Nat), r201 = (.agg #[(.bool b198), (.slice A199 n199 c199), (.slice A200 n200 c200)]) ∧ (∀ w203, Ext w.heap.size [62] w202 w203 → (R (.agg #[(.bool b198), (.slice A199 n199 c199), (.slice A200 n200 c200)]) w203))))))))))) ∧ (∀ w204, Ext w.heap.size [60] w162 w204 → (Pure Tryz.prog 84 #[(.slice Ap1_1 np1_1 cp1_1), (.slice Ap0_2 np0_2 cp0_2)] w204 fun r206 w207 => ∃ (A205 : Option Addr) (n205 c205 : Nat), r206 = (.slice A205 n205 c205) ∧ (Pure Tryz.prog 109 #[(.bool bp1_0), (.slice A205 n205 c205)] w207 fun r210 w211 => ∃ (b208 : Bool) (A209 : Option Addr) (n209 c209 : Nat), r210 = (.agg #[(.bool b208), (.slice A209 n209 c209)]) ∧ (∀ w212, Ext w.heap.size [60] w211 w212 → (Pure Tryz.prog 110 #[(.agg #[(.bool b159), (.slice A160 n160 c160)]), (.agg #[(.bool b208), (.slice A209 n209 c209)])] w212 fun r215 w216 => ∃ (b213 : Bool) (A214 : Option Addr) (n214 c214 : Nat), r215 = (.agg #[(.bool b213), (.slice A214 n214 c214)]) ∧ (Pure Tryz.prog 84 #[(.slice Ap0_2 np0_2 cp0_2), (.slice Ap1_2 np1_2 cp1_2)] w216 fun r218 w219 => ∃ (A217 : Option Addr) (n217 c217 : Nat), r218 = (.slice A217 n217 c217) ∧ (Pure Tryz.prog 82 #[(.agg #[(.bool b213), (.slice A214 n214 c214)]), (.slice A217 n217 c217)] w219 fun r223 w224 => ∃ (b220 : Bool) (A221 : Option Addr) (n221 c221 : Nat) (A222 : Option Addr) (n222 c222 : Nat), r223 = (.agg #[(.bool b220), (.slice A221 n221 c221), (.slice A222 n222 c222)]) ∧ (∀ w225, Ext w.heap.size [62] w224 w225 → (R (.agg #[(.bool b220), (.slice A221 n221 c221), (.slice A222 n222 c222)]) w225))))))))))))))))))) :
    Pure Tryz.prog 86 #[(.agg #[(.bool bp0_0), (.slice Ap0_1 np0_1 cp0_1), (.slice Ap0_2 np0_2 cp0_2)]), (.agg #[(.bool bp1_0), (.slice Ap1_1 np1_1 cp1_1), (.slice Ap1_2 np1_2 cp1_2)])] w R :=
  pure_of_run (garboardref03_Add.cx w w.heap.size R) 100000 follows Tryz.func86 rfl rfl rfl rfl rfl rfl rfl (Eq.mp (by kernel_rfl) h)

noncomputable def garboardref03_Cmp.cx (w : World) (B : Nat) (R : Value → World → Prop) : Cx := ⟨Tryz.prog, 87, 42, Tryz.f87.results.toList, [], [], w, B, R⟩
theorem garboardref03_Cmp.vc (bp0_0 : Bool) (Ap0_1 : Option Addr) (np0_1 cp0_1 : Nat) (Ap0_2 : Option Addr) (np0_2 cp0_2 : Nat) (bp1_0 : Bool) (Ap1_1 : Option Addr) (np1_1 cp1_1 : Nat) (Ap1_2 : Option Addr) (np1_2 cp1_2 : Nat) (w : World) (R : Value → World → Prop)
    (h : (∀ w1, Ext w.heap.size [] w w1 → (Pure Tryz.prog 69 #[(.agg #[(.bool bp0_0), (.slice Ap0_1 np0_1 cp0_1), (.slice Ap0_2 np0_2 cp0_2)])] w1 fun r3 w4 => ∃ (i2 : Int), r3 = (.int .i64 i2) ∧ (Pure Tryz.prog 69 #[(.agg #[(.bool bp1_0), (.slice Ap1_1 np1_1 cp1_1), (.slice Ap1_2 np1_2 cp1_2)])] w4 fun r6 w7 => ∃ (i5 : Int), r6 = (.int .i64 i5) ∧ ((((i2 : Int) ≠ i5) → ((((i2 : Int) < i5) → (R (.int .i64 (-1 : Int)) w7)) ∧ (¬ ((i2 : Int) < i5) → (R (.int .i64 (1 : Int)) w7)))) ∧ (¬ ((i2 : Int) ≠ i5) → ((∀ w8, Ext w.heap.size [] w7 w8 → (Pure Tryz.prog 84 #[(.slice Ap0_1 np0_1 cp0_1), (.slice Ap1_2 np1_2 cp1_2)] w8 fun r10 w11 => ∃ (A9 : Option Addr) (n9 c9 : Nat), r10 = (.slice A9 n9 c9) ∧ ((Pure Tryz.prog 109 #[(.bool bp0_0), (.slice A9 n9 c9)] w11 fun r14 w15 => ∃ (b12 : Bool) (A13 : Option Addr) (n13 c13 : Nat), r14 = (.agg #[(.bool b12), (.slice A13 n13 c13)]) ∧ ((∀ w16, Ext w.heap.size [] w15 w16 → (Pure Tryz.prog 84 #[(.slice Ap1_1 np1_1 cp1_1), (.slice Ap0_2 np0_2 cp0_2)] w16 fun r18 w19 => ∃ (A17 : Option Addr) (n17 c17 : Nat), r18 = (.slice A17 n17 c17) ∧ ((Pure Tryz.prog 109 #[(.bool bp1_0), (.slice A17 n17 c17)] w19 fun r22 w23 => ∃ (b20 : Bool) (A21 : Option Addr) (n21 c21 : Nat), r22 = (.agg #[(.bool b20), (.slice A21 n21 c21)]) ∧ (∀ w24, Ext w.heap.size [] w23 w24 → (Pure Tryz.prog 111 #[(.agg #[(.bool b12), (.slice A13 n13 c13)]), (.agg #[(.bool b20), (.slice A21 n21 c21)])] w24 fun r26 w27 => ∃ (i25 : Int), r26 = (.int .i64 i25) ∧ (R (.int .i64 i25) w27)))) ∧ (∀ w28, Ext w.heap.size [] w19 w28 → (Pure Tryz.prog 109 #[(.bool bp1_0), (.slice A17 n17 c17)] w28 fun r31 w32 => ∃ (b29 : Bool) (A30 : Option Addr) (n30 c30 : Nat), r31 = (.agg #[(.bool b29), (.slice A30 n30 c30)]) ∧ (∀ w33, Ext w.heap.size [60] w32 w33 → (Pure Tryz.prog 111 #[(.agg #[(.bool b12), (.slice A13 n13 c13)]), (.agg #[(.bool b29), (.slice A30 n30 c30)])] w33 fun r35 w36 => ∃ (i34 : Int), r35 = (.int .i64 i34) ∧ (R (.int .i64 i34) w36)))))))) ∧ (∀ w37, Ext w.heap.size [] w15 w37 → (Pure Tryz.prog 84 #[(.slice Ap1_1 np1_1 cp1_1), (.slice Ap0_2 np0_2 cp0_2)] w37 fun r39 w40 => ∃ (A38 : Option Addr) (n38 c38 : Nat), r39 = (.slice A38 n38 c38) ∧ (Pure Tryz.prog 109 #[(.bool bp1_0), (.slice A38 n38 c38)] w40 fun r43 w44 => ∃ (b41 : Bool) (A42 : Option Addr) (n42 c42 : Nat), r43 = (.agg #[(.bool b41), (.slice A42 n42 c42)]) ∧ (∀ w45, Ext w.heap.size [60] w44 w45 → (Pure Tryz.prog 111 #[(.agg #[(.bool b12), (.slice A13 n13 c13)]), (.agg #[(.bool b41), (.slice A42 n42 c42)])] w45 fun r47 w48 => ∃ (i46 : Int), r47 = (.int .i64 i46) ∧ (R (.int .i64 i46) w48)))))))) ∧ (∀ w49, Ext w.heap.size [] w11 w49 → (Pure Tryz.prog 109 #[(.bool bp0_0), (.slice A9 n9 c9)] w49 fun r52 w53 => ∃ (b50 : Bool) (A51 : Option Addr) (n51 c51 : Nat), r52 = (.agg #[(.bool b50), (.slice A51 n51 c51)]) ∧ ((∀ w54, Ext w.heap.size [60] w53 w54 → (Pure Tryz.prog 84 #[(.slice Ap1_1 np1_1 cp1_1), (.slice Ap0_2 np0_2 cp0_2)] w54 fun r56 w57 => ∃ (A55 : Option Addr) (n55 c55 : Nat), r56 = (.slice A55 n55 c55) ∧ ((Pure Tryz.prog 109 #[(.bool bp1_0), (.slice A55 n55 c55)] w57 fun r60 w61 => ∃ (b58 : Bool) (A59 : Option Addr) (n59 c59 : Nat), r60 = (.agg #[(.bool b58), (.slice A59 n59 c59)]) ∧ (∀ w62, Ext w.heap.size [] w61 w62 → (Pure Tryz.prog 111 #[(.agg #[(.bool b50), (.slice A51 n51 c51)]), (.agg #[(.bool b58), (.slice A59 n59 c59)])] w62 fun r64 w65 => ∃ (i63 : Int), r64 = (.int .i64 i63) ∧ (R (.int .i64 i63) w65)))) ∧ (∀ w66, Ext w.heap.size [] w57 w66 → (Pure Tryz.prog 109 #[(.bool bp1_0), (.slice A55 n55 c55)] w66 fun r69 w70 => ∃ (b67 : Bool) (A68 : Option Addr) (n68 c68 : Nat), r69 = (.agg #[(.bool b67), (.slice A68 n68 c68)]) ∧ (∀ w71, Ext w.heap.size [60] w70 w71 → (Pure Tryz.prog 111 #[(.agg #[(.bool b50), (.slice A51 n51 c51)]), (.agg #[(.bool b67), (.slice A68 n68 c68)])] w71 fun r73 w74 => ∃ (i72 : Int), r73 = (.int .i64 i72) ∧ (R (.int .i64 i72) w74)))))))) ∧ (∀ w75, Ext w.heap.size [60] w53 w75 → (Pure Tryz.prog 84 #[(.slice Ap1_1 np1_1 cp1_1), (.slice Ap0_2 np0_2 cp0_2)] w75 fun r77 w78 => ∃ (A76 : Option Addr) (n76 c76 : Nat), r77 = (.slice A76 n76 c76) ∧ (Pure Tryz.prog 109 #[(.bool bp1_0), (.slice A76 n76 c76)] w78 fun r81 w82 => ∃ (b79 : Bool) (A80 : Option Addr) (n80 c80 : Nat), r81 = (.agg #[(.bool b79), (.slice A80 n80 c80)]) ∧ (∀ w83, Ext w.heap.size [60] w82 w83 → (Pure Tryz.prog 111 #[(.agg #[(.bool b50), (.slice A51 n51 c51)]), (.agg #[(.bool b79), (.slice A80 n80 c80)])] w83 fun r85 w86 => ∃ (i84 : Int), r85 = (.int .i64 i84) ∧ (R (.int .i64 i84) w86)))))))))))) ∧ (∀ w87, Ext w.heap.size [] w7 w87 → (Pure Tryz.prog 84 #[(.slice Ap0_1 np0_1 cp0_1), (.slice Ap1_2 np1_2 cp1_2)] w87 fun r89 w90 => ∃ (A88 : Option Addr) (n88 c88 : Nat), r89 = (.slice A88 n88 c88) ∧ (Pure Tryz.prog 109 #[(.bool bp0_0), (.slice A88 n88 c88)] w90 fun r93 w94 => ∃ (b91 : Bool) (A92 : Option Addr) (n92 c92 : Nat), r93 = (.agg #[(.bool b91), (.slice A92 n92 c92)]) ∧ ((∀ w95, Ext w.heap.size [60] w94 w95 → (Pure Tryz.prog 84 #[(.slice Ap1_1 np1_1 cp1_1), (.slice Ap0_2 np0_2 cp0_2)] w95 fun r97 w98 => ∃ (A96 : Option Addr) (n96 c96 : Nat), r97 = (.slice A96 n96 c96) ∧ ((Pure Tryz.prog 109 #[(.bool bp1_0), (.slice A96 n96 c96)] w98 fun r101 w102 => ∃ (b99 : Bool) (A100 : Option Addr) (n100 c100 : Nat), r101 = (.agg #[(.bool b99), (.slice A100 n100 c100)]) ∧ (∀ w103, Ext w.heap.size [] w102 w103 → (Pure Tryz.prog 111 #[(.agg #[(.bool b91), (.slice A92 n92 c92)]), (.agg #[(.bool b99), (.slice A100 n100 c100)])] w103 fun r105 w106 => ∃ (i104 : Int), r105 = (.int .i64 i104) ∧ (R (.int .i64 i104) w106)))) ∧ (∀ w107, Ext w.heap.size [] w98 w107 → (Pure Tryz.prog 109 #[(.bool bp1_0), (.slice A96 n96 c96)] w107 fun r110 w111 => ∃ (b108 : Bool) (A109 : Option Addr) (n109 c109 : Nat), r110 = (.agg #[(.bool b108), (.slice A109 n109 c109)]) ∧ (∀ w112, Ext w.heap.size [60] w111 w112 → (Pure Tryz.prog 111 #[(.agg #[(.bool b91), (.slice A92 n92 c92)]), (.agg #[(.bool b108), (.slice A109 n109 c109)])] w112 fun r114 w115 => ∃ (i113 : Int), r114 = (.int .i64 i113) ∧ (R (.int .i64 i113) w115)))))))) ∧ (∀ w116, Ext w.heap.size [60] w94 w116 → (Pure Tryz.prog 84 #[(.slice Ap1_1 np1_1 cp1_1), (.slice Ap0_2 np0_2 cp0_2)] w116 fun r118 w119 => ∃ (A117 : Option Addr) (n117 c117 : Nat), r118 = (.slice A117 n117 c117) ∧ (Pure Tryz.prog 109 #[(.bool bp1_0), (.slice A117 n117 c117)] w119 fun r122 w123 => ∃ (b120 : Bool) (A121 : Option Addr) (n121 c121 : Nat), r122 = (.agg #[(.bool b120), (.slice A121 n121 c121)]) ∧ (∀ w124, Ext w.heap.size [60] w123 w124 → (Pure Tryz.prog 111 #[(.agg #[(.bool b91), (.slice A92 n92 c92)]), (.agg #[(.bool b120), (.slice A121 n121 c121)])] w124 fun r126 w127 => ∃ (i125 : Int), r126 = (.int .i64 i125) ∧ (R (.int .i64 i125) w127))))))))))))))))) :
    Pure Tryz.prog 87 #[(.agg #[(.bool bp0_0), (.slice Ap0_1 np0_1 cp0_1), (.slice Ap0_2 np0_2 cp0_2)]), (.agg #[(.bool bp1_0), (.slice Ap1_1 np1_1 cp1_1), (.slice Ap1_2 np1_2 cp1_2)])] w R :=
  pure_of_run (garboardref03_Cmp.cx w w.heap.size R) 100000 follows Tryz.func87 rfl rfl rfl rfl rfl rfl rfl (Eq.mp (by kernel_rfl) h)

end Go.Proofs.YtdoailkigecmkaaGreatDoor.F

namespace Go.Proofs.YtdoailkigecmkaaGreatDoor.B
open Go Go.RowKit Go.Proofs Go.Proofs.YtdoailkigecmkaaGreatDoor.Vc

theorem head_by {s : ByteArray} (h : 0 < s.size) : bt s 0 = 45 ↔ (by_ s).head? = some 45 := by
  obtain ⟨c, hc, hb, _⟩ := bt_get (s := s) (i := 0) (by omega) (by omega)
  have e : (by_ s).head? = some c := by rw [List.head?_eq_getElem?]; exact hc
  rw [hb, e]
  constructor
  · intro h
    have h2 : c.toNat = 45 := by omega
    exact congrArg some (UInt8.toNat_inj.1 h2)
  · intro h
    cases h
    rfl
theorem by_tail {s : ByteArray} : by_ (s.extract ((1 : Int)).toNat s.size) = (by_ s).tail := by
  rw [by_extract, List.take_of_length_le (by rw [size_by]; omega)]
  cases by_ s <;> rfl
theorem isInt_of_head {t : Tx} (h : t.head? = some 45) : isInt t = (isNat t.tail && t.tail != [48]) := by unfold isInt; rw [if_pos h]
theorem isInt_of_not {t : Tx} (h : ¬ t.head? = some 45) : isInt t = isNat t := by unfold isInt; rw [if_neg h]

theorem ref2_Valid (s : ByteArray) (hs : s.size < 2147483648) (w : World) : Pure Tryz.prog 74 #[.string s] w fun v _ => v = .bool (isInt (by_ s)) := by
  have ht : ∀ w1, Pure Tryz.prog 75 #[.string s] w1 fun v _ => v = .bool (isNat (by_ s)) := fun w1 => ref_Valid s hs w1
  refine F.garboardref02_Valid.vc _ _ _ ⟨fun h1 => ⟨⟨by omega, by omega⟩, fun h2 => ⟨fun h3 => ⟨⟨by omega, by omega⟩, ?_⟩, fun h3 => ?_⟩, fun h2 => ?_⟩, fun h1 => ?_⟩
  · have hh := (head_by (by omega)).1 h2
    refine Pure.mono (ref_Valid _ (by rw [size_by, by_tail]; have := size_by s; simp; omega) w) ?_
    rintro v w2 _ rfl
    refine ⟨_, rfl, ?_⟩
    rw [by_tail, isInt_of_head hh]
    have hne : ((by_ s).tail != [48]) = true := by
      rw [bne_iff_ne]
      intro k
      refine h3 (by_inj ?_)
      show by_ s = [45, 48]
      cases hb : by_ s with
      | nil => rw [hb] at hh; cases hh
      | cons c r => rw [hb] at hh k; simp at hh k; rw [hh, k]
    rw [hne, Bool.and_true]
  · have e : s = ⟨#[45, 48]⟩ := Decidable.not_not.1 h3
    subst e
    refine congrArg Value.bool ?_
    decide
  · have hh : ¬ (by_ s).head? = some 45 := fun k => h2 ((head_by (by omega)).2 k)
    refine Pure.mono (ht w) ?_
    rintro v w2 _ rfl
    exact ⟨_, rfl, by rw [isInt_of_not hh]⟩
  · refine Pure.mono (ht w) ?_
    rintro v w2 _ rfl
    refine ⟨_, rfl, ?_⟩
    by_cases hh : (by_ s).head? = some 45
    · rw [isInt_of_head hh]
      have hl : (by_ s).length ≤ 1 := by rw [← size_by]; omega
      cases hb : by_ s with
      | nil => rw [hb] at hh; cases hh
      | cons c r =>
        rw [hb] at hh hl
        simp at hh hl
        subst hh
        subst hl
        rfl
    · rw [isInt_of_not hh]
theorem ref2_Read {s : ByteArray} (hs : s.size ≤ 900000) (h : isInt (by_ s) = true) (w : World) : Pure Tryz.prog 76 #[.string s] w (ZR (valI (by_ s))) := by
  have hne : by_ s ≠ [] := fun e => by rw [e] at h; cases h
  have hpos : 0 < s.size := by rw [size_by]; exact List.length_pos_iff.2 hne
  refine F.garboardref02_Read.vc _ _ _ ⟨⟨by omega, by omega⟩, fun h2 => ⟨⟨by omega, by omega⟩, fun w1 x1 => ?_⟩, fun h2 w1 x1 => ?_⟩
  · have hh := (head_by hpos).1 h2
    rw [isInt_of_head hh, Bool.and_eq_true] at h
    have hv : valI (by_ s) = -(valD (by_ s).tail : Int) := by unfold valI; rw [if_pos hh]
    refine Pure.mono (ref_From (by rw [size_by, by_tail]; have := size_by s; simp; omega) (by rw [by_tail]; exact h.1)) ?_
    rintro v w2 b2 ⟨A, n, c, rfl, k⟩
    rw [by_tail] at k
    refine ⟨_, _, _, rfl, fun w3 x3 => ⟨_, _, _, _, rfl, ?_, ?_⟩⟩
    · have h0 : valD (by_ s).tail ≠ 0 := fun e => by
        have := natT_of h.1
        rw [e, natT_0] at this
        rw [← this] at h
        exact absurd h.2 (by decide)
      symm
      exact decide_eq_true (by omega)
    · rw [hv, Int.natAbs_neg, Int.natAbs_natCast]
      exact k.ext x3 (by decide)
  · have hh : ¬ (by_ s).head? = some 45 := fun k => h2 ((head_by hpos).2 k)
    rw [isInt_of_not hh] at h
    have hv : valI (by_ s) = (valD (by_ s) : Int) := by unfold valI; rw [if_neg hh]
    refine Pure.mono (ref_From hs h) ?_
    rintro v w2 b2 ⟨A, n, c, rfl, k⟩
    refine ⟨_, _, _, rfl, fun w3 x3 => ⟨_, _, _, _, rfl, ?_, ?_⟩⟩
    · symm
      exact decide_eq_false (by omega)
    · rw [hv, Int.natAbs_natCast]
      exact k.ext x3 (by decide)

def IsQ (w : World) (b : Bool) (A : Option Addr) (n c : Nat) (A' : Option Addr) (n' c' : Nat) (r : Rat) : Prop := IsZ w b A n c r.num ∧ IsN w A' n' c' r.den
theorem IsQ.below {w w' : World} {b : Bool} {A A' : Option Addr} {n c n' c' : Nat} {r : Rat} (h : IsQ w b A n c A' n' c' r) (hb : Below w.heap.size w w') : IsQ w' b A n c A' n' c' r := ⟨h.1.below hb, h.2.below hb⟩
theorem IsQ.ext {w w' : World} {B : Nat} {ts : List Nat} {b : Bool} {A A' : Option Addr} {n c n' c' : Nat} {r : Rat} (h : IsQ w b A n c A' n' c' r) (e : Ext B ts w w') (ht : 106 ∉ ts) : IsQ w' b A n c A' n' c' r := ⟨h.1.ext e ht, h.2.ext e ht⟩
abbrev QR (r : Rat) (v : Value) (w : World) : Prop := ∃ b A n c A' n' c', v = .agg #[.bool b, .slice A n c, .slice A' n' c'] ∧ IsQ w b A n c A' n' c' r

theorem int_of_abs (z : Int) (g : Nat) (h : g ∣ z.natAbs) : (if decide (z < 0) = true then -((z.natAbs / g : Nat) : Int) else ((z.natAbs / g : Nat) : Int)) = z / (g : Int) := by
  obtain ⟨k, hk⟩ := h
  by_cases hg : g = 0
  · subst hg; simp
  have hk2 : z.natAbs / g = k := by rw [hk, Nat.mul_div_cancel_left _ (by omega)]
  rw [hk2]
  by_cases hz : z < 0
  · rw [if_pos (decide_eq_true hz)]
    have e : z = (g : Int) * (-(k : Int)) := by
      have : (z.natAbs : Int) = (g : Int) * (k : Int) := by rw [hk]; simp
      rw [Int.mul_neg]
      omega
    rw [e, Int.mul_ediv_cancel_left _ (by omega)]
  · rw [if_neg (by simp [hz])]
    have e : z = (g : Int) * (k : Int) := by
      have : (z.natAbs : Int) = (g : Int) * (k : Int) := by rw [hk]; simp
      omega
    rw [e, Int.mul_ediv_cancel_left _ (by omega)]

theorem ref3_lowest {w : World} {b : Bool} {A A1 : Option Addr} {n c n1 c1 : Nat} {p : Int} {d : Nat} (hp : IsZ w b A n c p) (hd : IsN w A1 n1 c1 d) (hd0 : d ≠ 0) (lp : p.natAbs < Lim) (ld : d < Lim) :
    Pure Tryz.prog 82 #[.agg #[.bool b, .slice A n c], .slice A1 n1 c1] w (QR (mkRat p d)) := by
  obtain ⟨en, ed⟩ := mkRat_red (p := p) hd0
  have hp' := hp
  obtain ⟨rfl, kp⟩ := hp'
  refine F.garboardref03_lowest.vc _ _ _ _ _ _ _ _ _ fun w1 x1 => Pure.mono (ref_Common (kp.ext x1 (by decide)) (hd.ext x1 (by decide)) lp ld) ?_
  rintro v w2 b2 ⟨A2, n2, c2, rfl, kg⟩
  obtain ⟨g, hg⟩ : ∃ g, g = Nat.gcd p.natAbs d := ⟨_, rfl⟩
  rw [← hg] at kg en ed
  have hg0 : g ≠ 0 := fun e => by
    rw [e] at hg
    exact hd0 (Nat.eq_zero_of_gcd_eq_zero_right hg.symm)
  have gp : g ∣ p.natAbs := by rw [hg]; exact Nat.gcd_dvd_left _ _
  have gd : g ∣ d := by rw [hg]; exact Nat.gcd_dvd_right _ _
  have lg : g < Lim := Nat.lt_of_le_of_lt (Nat.le_of_dvd (by omega) gd) ld
  have kp2 := (kp.ext x1 (by decide)).below b2
  have kd2 := (hd.ext x1 (by decide)).below b2
  have rest : Pure Tryz.prog 108 #[.slice A n c, .slice A2 n2 c2] w2 fun r10 w11 => ∃ (A8 : Option Addr) (n8 c8 : Nat) (A9 : Option Addr) (n9 c9 : Nat), r10 = (.tuple #[(.slice A8 n8 c8), (.slice A9 n9 c9)]) ∧ (Pure Tryz.prog 108 #[(.slice A1 n1 c1), (.slice A2 n2 c2)] w11 fun r14 w15 => ∃ (A12 : Option Addr) (n12 c12 : Nat) (A13 : Option Addr) (n13 c13 : Nat), r14 = (.tuple #[(.slice A12 n12 c12), (.slice A13 n13 c13)]) ∧ (Pure Tryz.prog 109 #[(.bool (decide (p < 0))), (.slice A8 n8 c8)] w15 fun r18 w19 => ∃ (b16 : Bool) (A17 : Option Addr) (n17 c17 : Nat), r18 = (.agg #[(.bool b16), (.slice A17 n17 c17)]) ∧ (∀ w20, Ext w.heap.size [62] w19 w20 → (QR (mkRat p d) (.agg #[(.bool b16), (.slice A17 n17 c17), (.slice A12 n12 c12)]) w20)))) := by
    refine Pure.mono (ref_Over kp2 kg lp lg hg0) ?_
    rintro v w3 b3 ⟨A8, n8, c8, A9, n9, c9, rfl, k8, _⟩
    refine ⟨_, _, _, _, _, _, rfl, Pure.mono (ref_Over (kd2.below b3) (kg.below b3) ld lg hg0) ?_⟩
    rintro v w4 b4 ⟨A12, n12, c12, A13, n13, c13, rfl, k12, _⟩
    refine ⟨_, _, _, _, _, _, rfl, Pure.mono (ref2_Make _ (k8.below b4)) ?_⟩
    rintro v w5 b5 ⟨b, A, n, c, rfl, k⟩
    refine ⟨_, _, _, _, rfl, fun w6 x6 => ⟨_, _, _, _, _, _, _, rfl, ?_, ?_⟩⟩
    · rw [int_of_abs p g gp, ← en] at k
      exact k.ext x6 (by decide)
    · rw [ed]
      exact (k12.below b5).ext x6 (by decide)
  refine ⟨_, _, _, rfl, fun h1 => ?_, fun _ => rest⟩
  obtain ⟨ws, q1, q2, q3, q4, q5, q6, q7⟩ := kg
  refine q1.load q2 (by omega) (by omega) ?_
  have e : ws.getD (Int.toNat 0) 0 = g := by
    obtain ⟨z, rfl⟩ := List.length_eq_one_iff.1 (by omega : ws.length = 1)
    simpa [wv] using q7
  rw [e]
  refine ⟨fun hone w3 x3 => ?_, fun _ => rest⟩
  have hg1 : g = 1 := by omega
  rw [hg1] at en ed
  refine ⟨_, _, _, _, _, _, _, rfl, ?_, ?_⟩
  · have e1 : (mkRat p d).num = p := by rw [en]; simp
    rw [e1]
    exact ((hp.ext x1 (by decide)).below b2).ext x3 (by decide)
  · have e1 : (mkRat p d).den = d := by rw [ed]; simp
    rw [e1]
    exact kd2.ext x3 (by decide)

theorem lim_of {k x : Nat} (h : x < 10 ^ k) (hk : k ≤ 900000) : x < Lim := lt_lim h hk
theorem ref3_Mul {w : World} {b0 b1 : Bool} {A0 A1 A0' A1' : Option Addr} {n0 c0 n1 c1 n0' c0' n1' c1' : Nat} {x y : Rat} (hx : IsQ w b0 A0 n0 c0 A0' n0' c0' x) (hy : IsQ w b1 A1 n1 c1 A1' n1' c1' y) (sx : Sm 100000 x) (sy : Sm 100000 y) :
    Pure Tryz.prog 35 #[.agg #[.bool b0, .slice A0 n0 c0, .slice A0' n0' c0'], .agg #[.bool b1, .slice A1 n1 c1, .slice A1' n1' c1']] w (QR (x * y)) := by
  have l1 := lim_of sx.1 (by omega)
  have l2 := lim_of sy.1 (by omega)
  have l3 := lim_of sx.2 (by omega)
  have l4 := lim_of sy.2 (by omega)
  refine F.garboardref03_Mul.vc _ _ _ _ _ _ _ _ _ _ _ _ _ _ _ _ fun w1 x1 => Pure.mono (ref2_Times (hx.1.ext x1 (by decide)) (hy.1.ext x1 (by decide)) l1 l2) ?_
  rintro v w2 b2 ⟨b, A, n, c, rfl, k⟩
  refine ⟨_, _, _, _, rfl, Pure.mono (ref_Times ((hx.2.ext x1 (by decide)).below b2) ((hy.2.ext x1 (by decide)).below b2) l3 l4) ?_⟩
  rintro v w3 b3 ⟨A', n', c', rfl, k', _⟩
  refine ⟨_, _, _, rfl, Pure.mono (ref3_lowest (k.below b3) k' (den_mul_ne x y) (by rw [Int.natAbs_mul]; exact lim_of (mul_lt_pow sx.1 sy.1) (by omega)) (lim_of (den_mul_lt sx sy) (by omega))) ?_⟩
  rintro v w4 b4 ⟨b, A, n, c, A', n', c', rfl, q⟩
  refine ⟨_, _, _, _, _, _, _, rfl, fun w5 x5 => ⟨_, _, _, _, _, _, _, rfl, ?_⟩⟩
  rw [Rat.mul_def']
  exact q.ext x5 (by decide)
theorem ref3_Neg {w : World} {b0 : Bool} {A0 A0' : Option Addr} {n0 c0 n0' c0' : Nat} {x : Rat} (hx : IsQ w b0 A0 n0 c0 A0' n0' c0' x) :
    Pure Tryz.prog 39 #[.agg #[.bool b0, .slice A0 n0 c0, .slice A0' n0' c0']] w (QR (-x)) := by
  refine F.garboardref03_Neg.vc _ _ _ _ _ _ _ _ _ fun w1 x1 => Pure.mono (ref2_Opposite (hx.1.ext x1 (by decide))) ?_
  rintro v w2 b2 ⟨b, A, n, c, rfl, k⟩
  refine ⟨_, _, _, _, rfl, fun w3 x3 => ⟨_, _, _, _, _, _, _, rfl, ?_, ?_⟩⟩
  · rw [Rat.neg_num]
    exact k.ext x3 (by decide)
  · have e : (-x).den = x.den := rfl
    rw [e]
    exact ((hx.2.ext x1 (by decide)).below b2).ext x3 (by decide)
theorem sgn_num (r : Rat) : sgn r.num = cmpR r 0 := by
  rw [← num_sign]
  unfold sgn
  rcases Int.lt_trichotomy r.num 0 with h | h | h
  · rw [if_pos h, Int.sign_eq_neg_one_of_neg h]
  · rw [h]; rfl
  · rw [if_neg (by omega), if_pos h, Int.sign_eq_one_of_pos h]
theorem ref3_Sign {w : World} {b0 : Bool} {A0 A0' : Option Addr} {n0 c0 n0' c0' : Nat} {x : Rat} (hx : IsQ w b0 A0 n0 c0 A0' n0' c0' x) :
    Pure Tryz.prog 69 #[.agg #[.bool b0, .slice A0 n0 c0, .slice A0' n0' c0']] w fun v _ => v = .int .i64 (cmpR x 0) := by
  refine F.garboardref03_Sign.vc _ _ _ _ _ _ _ _ _ fun w1 x1 => Pure.mono (ref2_Signum (hx.1.ext x1 (by decide))) ?_
  rintro v w2 _ rfl
  exact ⟨_, rfl, by rw [sgn_num]⟩
theorem ref3_Int {w : World} {z : Int} (h : z.natAbs < 4294967296) : Pure Tryz.prog 36 #[.int .i64 z] w (QR (z : Rat)) := by
  refine F.garboardref03_Int.vc _ _ _ fun w1 x1 => Pure.mono (ref2_Small h) ?_
  rintro v w2 b2 ⟨b, A, n, c, rfl, k⟩
  refine ⟨_, _, _, _, rfl, Pure.mono (ref_Small (x := 1) (by omega)) ?_⟩
  rintro v w3 b3 ⟨A', n', c', rfl, k'⟩
  exact ⟨_, _, _, rfl, fun w4 x4 => ⟨_, _, _, _, _, _, _, rfl, (k.below b3).ext x4 (by decide), k'.ext x4 (by decide)⟩⟩
end Go.Proofs.YtdoailkigecmkaaGreatDoor.B

namespace Go.Proofs.YtdoailkigecmkaaGreatDoor.B
open Go Go.RowKit Go.Proofs Go.Proofs.YtdoailkigecmkaaGreatDoor.Vc

def crossT (B : Nat) (b1 : Bool) (L : Bool → Option Addr → Nat → Nat → World → Prop) (ts : List Nat) (A : Option Addr) (n c : Nat) (w : World) : Prop :=
  Pure Tryz.prog 109 #[.bool b1, .slice A n c] w fun r w31 => ∃ (b28 : Bool) (A29 : Option Addr) (n29 c29 : Nat), r = .agg #[.bool b28, .slice A29 n29 c29] ∧ ∀ w32, Ext B ts w31 w32 → L b28 A29 n29 c29 w32
def cross2 (B : Nat) (b1 : Bool) (A1 : Option Addr) (n1 c1 : Nat) (A0' : Option Addr) (n0' c0' : Nat) (L : Bool → Option Addr → Nat → Nat → World → Prop) (ts : List Nat) (w : World) : Prop :=
  (∀ w24, Ext B ts w w24 → Pure Tryz.prog 84 #[.slice A1 n1 c1, .slice A0' n0' c0'] w24 fun r w27 => ∃ (A25 : Option Addr) (n25 c25 : Nat), r = .slice A25 n25 c25 ∧ (crossT B b1 L [] A25 n25 c25 w27 ∧ ∀ w46, Ext B [] w27 w46 → crossT B b1 L [60] A25 n25 c25 w46)) ∧
  (∀ w65, Ext B ts w w65 → Pure Tryz.prog 84 #[.slice A1 n1 c1, .slice A0' n0' c0'] w65 fun r w68 => ∃ (A66 : Option Addr) (n66 c66 : Nat), r = .slice A66 n66 c66 ∧ crossT B b1 L [60] A66 n66 c66 w68)
def cross1 (B : Nat) (b0 : Bool) (A0 : Option Addr) (n0 c0 : Nat) (A0' : Option Addr) (n0' c0' : Nat) (b1 : Bool) (A1 : Option Addr) (n1 c1 : Nat) (A1' : Option Addr) (n1' c1' : Nat) (L : Bool → Option Addr → Nat → Nat → Bool → Option Addr → Nat → Nat → World → Prop) (w : World) : Prop :=
  (∀ w16, Ext B [] w w16 → Pure Tryz.prog 84 #[.slice A0 n0 c0, .slice A1' n1' c1'] w16 fun r w19 => ∃ (A17 : Option Addr) (n17 c17 : Nat), r = .slice A17 n17 c17 ∧
    ((Pure Tryz.prog 109 #[.bool b0, .slice A17 n17 c17] w19 fun r w23 => ∃ (b20 : Bool) (A21 : Option Addr) (n21 c21 : Nat), r = .agg #[.bool b20, .slice A21 n21 c21] ∧ cross2 B b1 A1 n1 c1 A0' n0' c0' (L b20 A21 n21 c21) [] w23) ∧
    ∀ w87, Ext B [] w19 w87 → Pure Tryz.prog 109 #[.bool b0, .slice A17 n17 c17] w87 fun r w91 => ∃ (b88 : Bool) (A89 : Option Addr) (n89 c89 : Nat), r = .agg #[.bool b88, .slice A89 n89 c89] ∧ cross2 B b1 A1 n1 c1 A0' n0' c0' (L b88 A89 n89 c89) [60] w91)) ∧
  (∀ w155, Ext B [] w w155 → Pure Tryz.prog 84 #[.slice A0 n0 c0, .slice A1' n1' c1'] w155 fun r w158 => ∃ (A156 : Option Addr) (n156 c156 : Nat), r = .slice A156 n156 c156 ∧
    (Pure Tryz.prog 109 #[.bool b0, .slice A156 n156 c156] w158 fun r w162 => ∃ (b159 : Bool) (A160 : Option Addr) (n160 c160 : Nat), r = .agg #[.bool b159, .slice A160 n160 c160] ∧ cross2 B b1 A1 n1 c1 A0' n0' c0' (L b159 A160 n160 c160) [60] w162))

theorem add_lt_pow {a b j : Nat} (ha : a < 10 ^ j) (hb : b < 10 ^ j) : a + b < 10 ^ (j + j + 1) := by
  have h4 : 10 ^ j ≤ 10 ^ (j + j) := Nat.pow_le_pow_right (by omega) (by omega)
  rw [Nat.pow_succ]
  omega
theorem sign_mul (p : Int) (d : Nat) : (if decide (p < 0) = true then -((p.natAbs * d : Nat) : Int) else ((p.natAbs * d : Nat) : Int)) = p * (d : Int) := by
  by_cases hp : p < 0
  · rw [if_pos (decide_eq_true hp)]
    have e : p = -(p.natAbs : Int) := by omega
    conv => rhs; rw [e]
    rw [Int.natCast_mul, Int.neg_mul]
  · rw [if_neg (by simp [hp])]
    have e : p = (p.natAbs : Int) := by omega
    conv => rhs; rw [e]
    simp
section
variable {B : Nat} {b0 b1 : Bool} {A0 A1 A0' A1' : Option Addr} {n0 c0 n1 c1 n0' c0' n1' c1' : Nat} {x y : Rat}
theorem zn : 106 ∉ [60] := by decide
theorem cross2_ok {w : World} {L : Bool → Option Addr → Nat → Nat → World → Prop} {K : World → Prop} {ts : List Nat} (ht : 106 ∉ ts) (hK : ∀ w w', K w → Below w.heap.size w w' → K w') (hKe : ∀ ts w w', 106 ∉ ts → K w → Ext B ts w w' → K w')
    (hx : IsQ w b0 A0 n0 c0 A0' n0' c0' x) (hy : IsQ w b1 A1 n1 c1 A1' n1' c1' y) (lx : x.den < Lim) (ly : y.num.natAbs < Lim) (hk : K w)
    (hL : ∀ b A n c w', IsZ w' b A n c (y.num * (x.den : Int)) → IsQ w' b0 A0 n0 c0 A0' n0' c0' x → IsQ w' b1 A1 n1 c1 A1' n1' c1' y → K w' → L b A n c w') : cross2 B b1 A1 n1 c1 A0' n0' c0' L ts w := by
  have make : ∀ (ts : List Nat) (w1 : World) (A : Option Addr) (n c : Nat), 106 ∉ ts → IsN w1 A n c (y.num.natAbs * x.den) → IsQ w1 b0 A0 n0 c0 A0' n0' c0' x → IsQ w1 b1 A1 n1 c1 A1' n1' c1' y → K w1 → crossT B b1 L ts A n c w1 := by
    intro ts w1 A n c ht k hx hy hk
    refine Pure.mono (ref2_Make b1 k) ?_
    rintro v w2 b2 ⟨b, A, n, c, rfl, q⟩
    refine ⟨_, _, _, _, rfl, fun w3 x3 => hL _ _ _ _ _ ?_ ((hx.below b2).ext x3 ht) ((hy.below b2).ext x3 ht) (hKe _ _ _ ht (hK _ _ hk b2) x3)⟩
    rw [hy.1.1, sign_mul] at q
    exact q.ext x3 ht
  refine ⟨fun w1 x1 => ?_, fun w1 x1 => ?_⟩
  · refine Pure.mono (ref_Times ((hy.ext x1 ht).1.2) ((hx.ext x1 ht).2) ly lx) ?_
    rintro v w2 b2 ⟨A, n, c, rfl, k, _⟩
    have hx2 := (hx.ext x1 ht).below b2
    have hy2 := (hy.ext x1 ht).below b2
    have hk2 := hK _ _ (hKe _ _ _ ht hk x1) b2
    exact ⟨_, _, _, rfl, make _ _ _ _ _ (by simp) k hx2 hy2 hk2, fun w3 x3 => make _ _ _ _ _ zn (k.ext x3 (by simp)) (hx2.ext x3 (by simp)) (hy2.ext x3 (by simp)) (hKe _ _ _ (by simp) hk2 x3)⟩
  · refine Pure.mono (ref_Times ((hy.ext x1 ht).1.2) ((hx.ext x1 ht).2) ly lx) ?_
    rintro v w2 b2 ⟨A, n, c, rfl, k, _⟩
    exact ⟨_, _, _, rfl, make _ _ _ _ _ zn k ((hx.ext x1 ht).below b2) ((hy.ext x1 ht).below b2) (hK _ _ (hKe _ _ _ ht hk x1) b2)⟩
theorem cross1_ok {w : World} {L : Bool → Option Addr → Nat → Nat → Bool → Option Addr → Nat → Nat → World → Prop}
    (hx : IsQ w b0 A0 n0 c0 A0' n0' c0' x) (hy : IsQ w b1 A1 n1 c1 A1' n1' c1' y) (lx : x.den < Lim) (ly : y.num.natAbs < Lim) (lx2 : x.num.natAbs < Lim) (ly2 : y.den < Lim)
    (hL : ∀ b A n c b' A' n' c' w', IsZ w' b A n c (x.num * (y.den : Int)) → IsZ w' b' A' n' c' (y.num * (x.den : Int)) → IsQ w' b0 A0 n0 c0 A0' n0' c0' x → IsQ w' b1 A1 n1 c1 A1' n1' c1' y → L b A n c b' A' n' c' w') : cross1 B b0 A0 n0 c0 A0' n0' c0' b1 A1 n1 c1 A1' n1' c1' L w := by
  have make : ∀ (ts : List Nat) (w1 : World) (A : Option Addr) (n c : Nat), 106 ∉ ts → IsN w1 A n c (x.num.natAbs * y.den) → IsQ w1 b0 A0 n0 c0 A0' n0' c0' x → IsQ w1 b1 A1 n1 c1 A1' n1' c1' y →
      Pure Tryz.prog 109 #[.bool b0, .slice A n c] w1 fun r w23 => ∃ (b20 : Bool) (A21 : Option Addr) (n21 c21 : Nat), r = .agg #[.bool b20, .slice A21 n21 c21] ∧ cross2 B b1 A1 n1 c1 A0' n0' c0' (L b20 A21 n21 c21) ts w23 := by
    intro ts w1 A n c ht k hx hy
    refine Pure.mono (ref2_Make b0 k) ?_
    rintro v w2 b2 ⟨b, A, n, c, rfl, q⟩
    rw [hx.1.1, sign_mul] at q
    exact ⟨_, _, _, _, rfl, cross2_ok (K := fun w' => IsZ w' b A n c (x.num * (y.den : Int))) ht (fun _ _ h hb => h.below hb) (fun _ _ _ ht h e => h.ext e ht) (hx.below b2) (hy.below b2) lx ly q fun b' A' n' c' w' k1 k2 k3 k4 => hL _ _ _ _ _ _ _ _ _ k4 k1 k2 k3⟩
  refine ⟨fun w1 x1 => ?_, fun w1 x1 => ?_⟩
  · refine Pure.mono (ref_Times ((hx.ext x1 (by simp)).1.2) ((hy.ext x1 (by simp)).2) lx2 ly2) ?_
    rintro v w2 b2 ⟨A, n, c, rfl, k, _⟩
    have hx2 := (hx.ext x1 (by simp)).below b2
    have hy2 := (hy.ext x1 (by simp)).below b2
    exact ⟨_, _, _, rfl, make _ _ _ _ _ (by simp) k hx2 hy2, fun w3 x3 => make _ _ _ _ _ zn (k.ext x3 (by simp)) (hx2.ext x3 (by simp)) (hy2.ext x3 (by simp))⟩
  · refine Pure.mono (ref_Times ((hx.ext x1 (by simp)).1.2) ((hy.ext x1 (by simp)).2) lx2 ly2) ?_
    rintro v w2 b2 ⟨A, n, c, rfl, k, _⟩
    exact ⟨_, _, _, rfl, make _ _ _ _ _ zn k ((hx.ext x1 (by simp)).below b2) ((hy.ext x1 (by simp)).below b2)⟩
end

theorem ref3_Cmp {w : World} {b0 b1 : Bool} {A0 A1 A0' A1' : Option Addr} {n0 c0 n1 c1 n0' c0' n1' c1' : Nat} {x y : Rat} (hx : IsQ w b0 A0 n0 c0 A0' n0' c0' x) (hy : IsQ w b1 A1 n1 c1 A1' n1' c1' y) (sx : Sm 100000 x) (sy : Sm 100000 y) :
    Pure Tryz.prog 87 #[.agg #[.bool b0, .slice A0 n0 c0, .slice A0' n0' c0'], .agg #[.bool b1, .slice A1 n1 c1, .slice A1' n1' c1']] w fun v _ => v = .int .i64 (cmpR x y) := by
  refine F.garboardref03_Cmp.vc _ _ _ _ _ _ _ _ _ _ _ _ _ _ _ _ fun w1 x1 => Pure.mono (ref3_Sign (hx.ext x1 (by decide))) ?_
  rintro v w2 b2 rfl
  refine ⟨_, rfl, Pure.mono (ref3_Sign ((hy.ext x1 (by decide)).below b2)) ?_⟩
  rintro v w3 b3 rfl
  have fx : (cmpR x 0 = -1 ∧ x < 0) ∨ (cmpR x 0 = 0 ∧ x = 0) ∨ (cmpR x 0 = 1 ∧ 0 < x) := by
    unfold cmpR
    split
    · rename_i h; exact .inl ⟨rfl, h⟩
    · split
      · rename_i h; exact .inr (.inr ⟨rfl, h⟩)
      · exact .inr (.inl ⟨rfl, by grind⟩)
  have fy : (cmpR y 0 = -1 ∧ y < 0) ∨ (cmpR y 0 = 0 ∧ y = 0) ∨ (cmpR y 0 = 1 ∧ 0 < y) := by
    unfold cmpR
    split
    · rename_i h; exact .inl ⟨rfl, h⟩
    · split
      · rename_i h; exact .inr (.inr ⟨rfl, h⟩)
      · exact .inr (.inl ⟨rfl, by grind⟩)
  refine ⟨_, rfl, fun hne => ⟨fun hlt => ?_, fun hge => ?_⟩, fun heq => ?_⟩
  · have h : x < y := by
      rcases fx with ⟨e1, h1⟩ | ⟨e1, h1⟩ | ⟨e1, h1⟩ <;> rcases fy with ⟨e2, h2⟩ | ⟨e2, h2⟩ | ⟨e2, h2⟩ <;> first | (exfalso; omega) | grind
    unfold cmpR
    rw [if_pos h]
  · have h : y < x := by
      rcases fx with ⟨e1, h1⟩ | ⟨e1, h1⟩ | ⟨e1, h1⟩ <;> rcases fy with ⟨e2, h2⟩ | ⟨e2, h2⟩ | ⟨e2, h2⟩ <;> first | (exfalso; omega) | grind
    unfold cmpR
    rw [if_neg (by grind), if_pos h]
  · have hx3 := ((hx.ext x1 (by decide)).below b2).below b3
    have hy3 := ((hy.ext x1 (by decide)).below b2).below b3
    refine cross1_ok (L := fun b12 A13 n13 c13 b20 A21 n21 c21 w24 => Pure Tryz.prog 111 #[.agg #[.bool b12, .slice A13 n13 c13], .agg #[.bool b20, .slice A21 n21 c21]] w24 fun r26 w27 => ∃ (i25 : Int), r26 = (.int .i64 i25) ∧ (.int .i64 i25 : Value) = .int .i64 (cmpR x y)) hx3 hy3 (lim_of sx.2 (by omega)) (lim_of sy.1 (by omega)) (lim_of sx.1 (by omega)) (lim_of sy.2 (by omega)) fun b A n c b' A' n' c' w' k1 k2 _ _ => ?_
    refine Pure.mono (ref2_Cmp k1 k2 (by rw [Int.natAbs_mul, Int.natAbs_natCast]; exact lim_of (mul_lt_pow sx.1 sy.2) (by omega)) (by rw [Int.natAbs_mul, Int.natAbs_natCast]; exact lim_of (mul_lt_pow sy.1 sx.2) (by omega))) ?_
    rintro v w4 _ rfl
    refine ⟨_, rfl, congrArg (Value.int .i64) ?_⟩
    have h1 := lt_cross x y
    have h2 := lt_cross y x
    unfold sgn cmpR
    by_cases h : x < y
    · rw [if_pos (h1.1 h), if_pos h]
    · rw [if_neg (fun k => h (h1.2 k)), if_neg h]
      by_cases h' : y < x
      · have := h2.1 h'
        rw [if_pos (by omega), if_pos h']
      · rw [if_neg (fun k => h' (h2.2 (by omega))), if_neg h']
theorem ref3_Less {w : World} {b0 b1 : Bool} {A0 A1 A0' A1' : Option Addr} {n0 c0 n1 c1 n0' c0' n1' c1' : Nat} {x y : Rat} (hx : IsQ w b0 A0 n0 c0 A0' n0' c0' x) (hy : IsQ w b1 A1 n1 c1 A1' n1' c1' y) (sx : Sm 100000 x) (sy : Sm 100000 y) :
    Pure Tryz.prog 38 #[.agg #[.bool b0, .slice A0 n0 c0, .slice A0' n0' c0'], .agg #[.bool b1, .slice A1 n1 c1, .slice A1' n1' c1']] w fun v _ => v = .bool (decide (x < y)) := by
  refine F.garboardref03_Less.vc _ _ _ _ _ _ _ _ _ _ _ _ _ _ _ _ fun w1 x1 => Pure.mono (ref3_Cmp (hx.ext x1 (by decide)) (hy.ext x1 (by decide)) sx sy) ?_
  rintro v w2 _ rfl
  refine ⟨_, rfl, congrArg Value.bool ?_⟩
  rw [decide_eq_decide, cmpR_lt]
theorem ref3_Add {w : World} {b0 b1 : Bool} {A0 A1 A0' A1' : Option Addr} {n0 c0 n1 c1 n0' c0' n1' c1' : Nat} {x y : Rat} (hx : IsQ w b0 A0 n0 c0 A0' n0' c0' x) (hy : IsQ w b1 A1 n1 c1 A1' n1' c1' y) (sx : Sm 100000 x) (sy : Sm 100000 y) :
    Pure Tryz.prog 86 #[.agg #[.bool b0, .slice A0 n0 c0, .slice A0' n0' c0'], .agg #[.bool b1, .slice A1 n1 c1, .slice A1' n1' c1']] w (QR (x + y)) := by
  have l1 := lim_of sx.1 (by omega)
  have l2 := lim_of sy.1 (by omega)
  have l3 := lim_of sx.2 (by omega)
  have l4 := lim_of sy.2 (by omega)
  refine F.garboardref03_Add.vc _ _ _ _ _ _ _ _ _ _ _ _ _ _ _ _ fun w1 x1 => Pure.mono (ref_Cmp (hx.ext x1 (by decide)).2 (hy.ext x1 (by decide)).2 l3 l4) ?_
  rintro v w2 b2 rfl
  have hx2 := (hx.ext x1 (by decide)).below b2
  have hy2 := (hy.ext x1 (by decide)).below b2
  refine ⟨_, rfl, fun h w3 x3 => ?_, fun h => ?_⟩
  · have hd : x.den = y.den := by
      simp only [cmpI] at h
      split at h
      · omega
      · split at h <;> omega
    have hs : (x.num + y.num).natAbs < Lim := lim_of (Nat.lt_of_le_of_lt (Int.natAbs_add_le x.num y.num) (add_lt_pow sx.1 sy.1)) (by omega)
    refine Pure.mono (ref2_Plus (hx2.ext x3 (by decide)).1 (hy2.ext x3 (by decide)).1 l1 l2) ?_
    rintro v w4 b4 ⟨b, A, n, c, rfl, k⟩
    refine ⟨_, _, _, _, rfl, Pure.mono (ref3_lowest k ((hx2.ext x3 (by decide)).below b4).2 x.den_nz hs l3) ?_⟩
    rintro v w5 b5 ⟨b, A, n, c, A', n', c', rfl, q⟩
    refine ⟨_, _, _, _, _, _, _, rfl, fun w6 x6 => ⟨_, _, _, _, _, _, _, rfl, ?_⟩⟩
    rw [add_same hd]
    exact q.ext x6 (by decide)
  · refine cross1_ok (L := fun b20 A21 n21 c21 b28 A29 n29 c29 w32 => Pure Tryz.prog 110 #[.agg #[.bool b20, .slice A21 n21 c21], .agg #[.bool b28, .slice A29 n29 c29]] w32 fun r35 w36 => ∃ (b33 : Bool) (A34 : Option Addr) (n34 c34 : Nat), r35 = (.agg #[(.bool b33), (.slice A34 n34 c34)]) ∧
      (Pure Tryz.prog 84 #[(.slice A0' n0' c0'), (.slice A1' n1' c1')] w36 fun r38 w39 => ∃ (A37 : Option Addr) (n37 c37 : Nat), r38 = (.slice A37 n37 c37) ∧ (Pure Tryz.prog 82 #[(.agg #[(.bool b33), (.slice A34 n34 c34)]), (.slice A37 n37 c37)] w39 fun r43 w44 => ∃ (b40 : Bool) (A41 : Option Addr) (n41 c41 : Nat) (A42 : Option Addr) (n42 c42 : Nat), r43 = (.agg #[(.bool b40), (.slice A41 n41 c41), (.slice A42 n42 c42)]) ∧ (∀ w45, Ext w.heap.size [62] w44 w45 → (QR (x + y) (.agg #[(.bool b40), (.slice A41 n41 c41), (.slice A42 n42 c42)]) w45))))) hx2 hy2 l3 l2 l1 l4 fun b A n c b' A' n' c' w' k1 k2 k3 k4 => ?_
    refine Pure.mono (ref2_Plus k1 k2 (by rw [Int.natAbs_mul, Int.natAbs_natCast]; exact lim_of (mul_lt_pow sx.1 sy.2) (by omega)) (by rw [Int.natAbs_mul, Int.natAbs_natCast]; exact lim_of (mul_lt_pow sy.1 sx.2) (by omega))) ?_
    rintro v w4 b4 ⟨b, A, n, c, rfl, k⟩
    refine ⟨_, _, _, _, rfl, Pure.mono (ref_Times (k3.below b4).2 (k4.below b4).2 l3 l4) ?_⟩
    rintro v w5 b5 ⟨A', n', c', rfl, k', _⟩
    refine ⟨_, _, _, rfl, Pure.mono (ref3_lowest (k.below b5) k' (den_mul_ne x y) (lim_of (add_num_lt sx sy) (by omega)) (lim_of (den_mul_lt sx sy) (by omega))) ?_⟩
    rintro v w6 b6 ⟨b, A, n, c, A', n', c', rfl, q⟩
    refine ⟨_, _, _, _, _, _, _, rfl, fun w7 x7 => ⟨_, _, _, _, _, _, _, rfl, ?_⟩⟩
    rw [Rat.add_def']
    exact q.ext x7 (by decide)
theorem ref3_Sub {w : World} {b0 b1 : Bool} {A0 A1 A0' A1' : Option Addr} {n0 c0 n1 c1 n0' c0' n1' c1' : Nat} {x y : Rat} (hx : IsQ w b0 A0 n0 c0 A0' n0' c0' x) (hy : IsQ w b1 A1 n1 c1 A1' n1' c1' y) (sx : Sm 100000 x) (sy : Sm 100000 y) :
    Pure Tryz.prog 37 #[.agg #[.bool b0, .slice A0 n0 c0, .slice A0' n0' c0'], .agg #[.bool b1, .slice A1 n1 c1, .slice A1' n1' c1']] w (QR (x - y)) := by
  refine F.garboardref03_Sub.vc _ _ _ _ _ _ _ _ _ _ _ _ _ _ _ _ fun w1 x1 => Pure.mono (ref3_Neg (hy.ext x1 (by decide))) ?_
  rintro v w2 b2 ⟨b, A, n, c, A', n', c', rfl, q⟩
  refine ⟨_, _, _, _, _, _, _, rfl, Pure.mono (ref3_Add ((hx.ext x1 (by decide)).below b2) q sx sy.neg) ?_⟩
  rintro v w3 b3 ⟨b, A, n, c, A', n', c', rfl, q⟩
  refine ⟨_, _, _, _, _, _, _, rfl, fun w4 x4 => ⟨_, _, _, _, _, _, _, rfl, ?_⟩⟩
  rw [Rat.sub_eq_add_neg]
  exact q.ext x4 (by decide)
end Go.Proofs.YtdoailkigecmkaaGreatDoor.B
