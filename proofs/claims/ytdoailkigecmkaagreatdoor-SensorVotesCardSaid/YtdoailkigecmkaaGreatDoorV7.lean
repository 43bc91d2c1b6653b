/- Part 7 of the proofs that: What the statements SensorChecks, SensorTakes and SensorVotes rest on. -/
import Derived.Test.YtdoailkigecmkaaGreatDoorV6
import Derived.Test.YtdoailkigecmkaaGreatDoorProg
import Derived.MapKept
set_option linter.unusedVariables false
set_option linter.unusedSimpArgs false
set_option maxRecDepth 100000
namespace Go.Proofs.YtdoailkigecmkaaGreatDoor.F
open Go Go.RowKit Go.Proofs Go.Proofs.YtdoailkigecmkaaGreatDoor.Vc
noncomputable def rational_Valid.cx (w : World) (B : Nat) (R : Value → World → Prop) : Cx := ⟨Tryz.prog, 47, 11, Tryz.f47.results.toList, [], [], w, B, R⟩
theorem rational_Valid.vc (sp0 : ByteArray) (w : World) (R : Value → World → Prop)
    (h : (Pure Tryz.prog 89 #[(.string sp0)] w fun r4 w5 => ∃ (s1 : ByteArray) (s2 : ByteArray) (b3 : Bool), r4 = (.tuple #[(.agg #[(.string s1), (.string s2)]), (.bool b3)]) ∧ (∀ w6, Ext w.heap.size [] w5 w6 → (R (.bool b3) w6)))) :
    Pure Tryz.prog 47 #[(.string sp0)] w R :=
  pure_of_run (rational_Valid.cx w w.heap.size R) 100000 follows Tryz.func47 rfl rfl rfl rfl rfl rfl rfl (Eq.mp (by kernel_rfl) h)

noncomputable def rational_read.cx (w : World) (B : Nat) (R : Value → World → Prop) : Cx := ⟨Tryz.prog, 89, 48, Tryz.f89.results.toList, [], [], w, B, R⟩
theorem rational_read.vc (sp0 : ByteArray) (w : World) (R : Value → World → Prop)
    (h : (∀ w1, Ext w.heap.size [] w w1 → (Pure Tryz.prog 112 #[(.string sp0), (.string (⟨#[47]⟩ : ByteArray))] w1 fun r5 w6 => ∃ (s2 : ByteArray) (s3 : ByteArray) (b4 : Bool), r5 = (.tuple #[(.string s2), (.string s3), (.bool b4)]) ∧ (((b4 = false) → (Pure Tryz.prog 113 #[(.string s2)] w6 fun r8 w9 => ∃ (b7 : Bool), r8 = (.bool b7) ∧ (∀ w10, Ext w.heap.size [116] w9 w10 → (R (.tuple #[(.agg #[(.string s2), (.string (⟨#[49]⟩ : ByteArray))]), (.bool b7)]) w10)))) ∧ (¬ (b4 = false) → (Pure Tryz.prog 113 #[(.string s2)] w6 fun r12 w13 => ∃ (b11 : Bool), r12 = (.bool b11) ∧ ((b11 = true → (((s2 ≠ (⟨#[48]⟩ : ByteArray)) → (Pure Tryz.prog 114 #[(.string s3)] w13 fun r15 w16 => ∃ (b14 : Bool), r15 = (.bool b14) ∧ ((b14 = true → (((s3 ≠ (⟨#[48]⟩ : ByteArray)) → (((s3 ≠ (⟨#[49]⟩ : ByteArray)) → (Pure Tryz.prog 115 #[(.string s2), (.string s3)] w16 fun r18 w19 => ∃ (s17 : ByteArray), r18 = (.string s17) ∧ (∀ w20, Ext w.heap.size [116] w19 w20 → (R (.tuple #[(.agg #[(.string s2), (.string s3)]), (.bool (decide (s17 = (⟨#[49]⟩ : ByteArray))))]) w20)))) ∧ (¬ (s3 ≠ (⟨#[49]⟩ : ByteArray)) → (∀ w21, Ext w.heap.size [116] w16 w21 → (R (.tuple #[(.agg #[(.string s2), (.string s3)]), (.bool false)]) w21))))) ∧ (¬ (s3 ≠ (⟨#[48]⟩ : ByteArray)) → (∀ w22, Ext w.heap.size [116] w16 w22 → (R (.tuple #[(.agg #[(.string s2), (.string s3)]), (.bool false)]) w22))))) ∧ (b14 = false → (∀ w23, Ext w.heap.size [116] w16 w23 → (R (.tuple #[(.agg #[(.string s2), (.string s3)]), (.bool false)]) w23)))))) ∧ (¬ (s2 ≠ (⟨#[48]⟩ : ByteArray)) → (∀ w24, Ext w.heap.size [116] w13 w24 → (R (.tuple #[(.agg #[(.string s2), (.string s3)]), (.bool false)]) w24))))) ∧ (b11 = false → (∀ w25, Ext w.heap.size [116] w13 w25 → (R (.tuple #[(.agg #[(.string s2), (.string s3)]), (.bool false)]) w25)))))))))) :
    Pure Tryz.prog 89 #[(.string sp0)] w R :=
  pure_of_run (rational_read.cx w w.heap.size R) 100000 follows Tryz.func89 rfl rfl rfl rfl rfl rfl rfl (Eq.mp (by kernel_rfl) h)

noncomputable def rational_Add.cx (w : World) (B : Nat) (R : Value → World → Prop) : Cx := ⟨Tryz.prog, 90, 11, Tryz.f90.results.toList, [], [], w, B, R⟩
theorem rational_Add.vc (sp0 : ByteArray) (sp1 : ByteArray) (w : World) (R : Value → World → Prop)
    (h : (Pure Tryz.prog 116 #[(.int .u8 (43 : Int)), (.string sp0), (.string sp1)] w fun r3 w4 => ∃ (s1 : ByteArray) (i2 : Int), r3 = (.tuple #[(.string s1), (.int .i64 i2)]) ∧ (R (.tuple #[(.string s1), (.int .i64 i2)]) w4))) :
    Pure Tryz.prog 90 #[(.string sp0), (.string sp1)] w R :=
  pure_of_run (rational_Add.cx w w.heap.size R) 100000 follows Tryz.func90 rfl rfl rfl rfl rfl rfl rfl (Eq.mp (by kernel_rfl) h)

noncomputable def rational_Mul.cx (w : World) (B : Nat) (R : Value → World → Prop) : Cx := ⟨Tryz.prog, 91, 11, Tryz.f91.results.toList, [], [], w, B, R⟩
theorem rational_Mul.vc (sp0 : ByteArray) (sp1 : ByteArray) (w : World) (R : Value → World → Prop)
    (h : (Pure Tryz.prog 116 #[(.int .u8 (42 : Int)), (.string sp0), (.string sp1)] w fun r3 w4 => ∃ (s1 : ByteArray) (i2 : Int), r3 = (.tuple #[(.string s1), (.int .i64 i2)]) ∧ (R (.tuple #[(.string s1), (.int .i64 i2)]) w4))) :
    Pure Tryz.prog 91 #[(.string sp0), (.string sp1)] w R :=
  pure_of_run (rational_Mul.cx w w.heap.size R) 100000 follows Tryz.func91 rfl rfl rfl rfl rfl rfl rfl (Eq.mp (by kernel_rfl) h)

noncomputable def rational_Compare.cx (w : World) (B : Nat) (R : Value → World → Prop) : Cx := ⟨Tryz.prog, 101, 63, Tryz.f101.results.toList, [], [], w, B, R⟩
theorem rational_Compare.vc (sp0 : ByteArray) (sp1 : ByteArray) (w : World) (R : Value → World → Prop)
    (h : (Pure Tryz.prog 120 #[(.string sp0), (.string sp1)] w fun r6 w7 => ∃ (s1 : ByteArray) (s2 : ByteArray) (s3 : ByteArray) (s4 : ByteArray) (i5 : Int), r6 = (.tuple #[(.agg #[(.string s1), (.string s2)]), (.agg #[(.string s3), (.string s4)]), (.int .i64 i5)]) ∧ ((((i5 : Int) ≠ (0 : Int)) → (∀ w8, Ext w.heap.size [] w7 w8 → (R (.tuple #[(.int .i64 (0 : Int)), (.int .i64 i5)]) w8))) ∧ (¬ ((i5 : Int) ≠ (0 : Int)) → (((sp0 = sp1) → (∀ w9, Ext w.heap.size [] w7 w9 → (R (.tuple #[(.int .i64 (0 : Int)), (.int .i64 i5)]) w9))) ∧ (¬ (sp0 = sp1) → (∀ w10, Ext w.heap.size [] w7 w10 → (Pure Tryz.prog 121 #[(.agg #[(.string s1), (.string s2)])] w10 fun r12 w13 => ∃ (i11 : Int), r12 = (.int .i64 i11) ∧ (Pure Tryz.prog 121 #[(.agg #[(.string s3), (.string s4)])] w13 fun r15 w16 => ∃ (i14 : Int), r15 = (.int .i64 i14) ∧ ((((i11 : Int) ≠ i14) → (inR .i64 (i11 - i14) ∧ (R (.tuple #[(.int .i64 (if (if (1 : Int) < (i11 - i14) then (1 : Int) else (i11 - i14)) > (-1 : Int) then (if (1 : Int) < (i11 - i14) then (1 : Int) else (i11 - i14)) else (-1 : Int))), (.int .i64 (0 : Int))]) w16))) ∧ (¬ ((i11 : Int) ≠ i14) → (Pure Tryz.prog 122 #[(.string s1), (.string s4)] w16 fun r19 w20 => ∃ (s17 : ByteArray) (i18 : Int), r19 = (.tuple #[(.string s17), (.int .i64 i18)]) ∧ (Pure Tryz.prog 122 #[(.string s3), (.string s2)] w20 fun r23 w24 => ∃ (s21 : ByteArray) (i22 : Int), r23 = (.tuple #[(.string s21), (.int .i64 i22)]) ∧ (Pure Tryz.prog 123 #[(.string s17), (.string s21)] w24 fun r27 w28 => ∃ (i25 : Int) (i26 : Int), r27 = (.tuple #[(.int .i64 i25), (.int .i64 i26)]) ∧ (R (.tuple #[(.int .i64 i25), (.int .i64 i26)]) w28))))))))))))))) :
    Pure Tryz.prog 101 #[(.string sp0), (.string sp1)] w R :=
  pure_of_run (rational_Compare.cx w w.heap.size R) 100000 follows Tryz.func101 rfl rfl rfl rfl rfl rfl rfl (Eq.mp (by kernel_rfl) h)

noncomputable def rational_Sub.cx (w : World) (B : Nat) (R : Value → World → Prop) : Cx := ⟨Tryz.prog, 102, 11, Tryz.f102.results.toList, [], [], w, B, R⟩
theorem rational_Sub.vc (sp0 : ByteArray) (sp1 : ByteArray) (w : World) (R : Value → World → Prop)
    (h : (Pure Tryz.prog 116 #[(.int .u8 (45 : Int)), (.string sp0), (.string sp1)] w fun r3 w4 => ∃ (s1 : ByteArray) (i2 : Int), r3 = (.tuple #[(.string s1), (.int .i64 i2)]) ∧ (R (.tuple #[(.string s1), (.int .i64 i2)]) w4))) :
    Pure Tryz.prog 102 #[(.string sp0), (.string sp1)] w R :=
  pure_of_run (rational_Sub.cx w w.heap.size R) 100000 follows Tryz.func102 rfl rfl rfl rfl rfl rfl rfl (Eq.mp (by kernel_rfl) h)

noncomputable def rational_divisor.cx (w : World) (B : Nat) (R : Value → World → Prop) : Cx := ⟨Tryz.prog, 115, 21, Tryz.f115.results.toList, [], [], w, B, R⟩
theorem rational_divisor.vc (sp0 : ByteArray) (sp1 : ByteArray) (w : World) (R : Value → World → Prop)
    (h : (Pure Tryz.prog 131 #[(.string sp0)] w fun r3 w4 => ∃ (s1 : ByteArray) (i2 : Int), r3 = (.tuple #[(.string s1), (.int .i64 i2)]) ∧ (Pure Tryz.prog 132 #[(.string s1), (.string sp1)] w4 fun r7 w8 => ∃ (s5 : ByteArray) (i6 : Int), r7 = (.tuple #[(.string s5), (.int .i64 i6)]) ∧ (R (.string s5) w8)))) :
    Pure Tryz.prog 115 #[(.string sp0), (.string sp1)] w R :=
  pure_of_run (rational_divisor.cx w w.heap.size R) 100000 follows Tryz.func115 rfl rfl rfl rfl rfl rfl rfl (Eq.mp (by kernel_rfl) h)

noncomputable def rational_apply.cx (w : World) (B : Nat) (R : Value → World → Prop) : Cx := ⟨Tryz.prog, 116, 37, Tryz.f116.results.toList, [], [(6, 2, 2), (6, 5, 4)], w, B, R⟩
theorem rational_apply.vc (ip0 : Int) (sp1 : ByteArray) (sp2 : ByteArray) (w : World) (R : Value → World → Prop)
    (h : (Pure Tryz.prog 120 #[(.string sp1), (.string sp2)] w fun r6 w7 => ∃ (s1 : ByteArray) (s2 : ByteArray) (s3 : ByteArray) (s4 : ByteArray) (i5 : Int), r6 = (.tuple #[(.agg #[(.string s1), (.string s2)]), (.agg #[(.string s3), (.string s4)]), (.int .i64 i5)]) ∧ ((((i5 : Int) ≠ (0 : Int)) → (∀ w8, Ext w.heap.size [] w7 w8 → (R (.tuple #[(.string (⟨#[]⟩ : ByteArray)), (.int .i64 i5)]) w8))) ∧ (¬ ((i5 : Int) ≠ (0 : Int)) → ((((ip0 : Int) = (47 : Int)) → (((s3 = (⟨#[48]⟩ : ByteArray)) → (∀ w9, Ext w.heap.size [] w7 w9 → (R (.tuple #[(.string (⟨#[]⟩ : ByteArray)), (.int .i64 (16 : Int))]) w9))) ∧ (¬ (s3 = (⟨#[48]⟩ : ByteArray)) → ((∀ w10, Ext w.heap.size [] w7 w10 → (Pure Tryz.prog 133 #[] w10 fun r12 w13 => ∃ (v11 : Value), r12 = v11 ∧ ((RunOk Tryz.prog (Instr.lookup 162 v11 (.int .u8 ip0) false) w.heap.size [116, 116] w13 fun r15 w16 => ∃ (f14 : Nat) (a14 k14 : Array Value), r15 = (.func (.func f14) a14 k14) ∧ ((callable Tryz.prog f14 = true ∧ (Pure Tryz.prog f14 ((Array.toList a14) ++ ([(.agg #[(.string s1), (.string s2)]), (.agg #[(.string s3), (.string s4)])] : List Value) ++ (Array.toList k14)).toArray w16 fun r19 w20 => ∃ (s17 : ByteArray) (s18 : ByteArray), r19 = (.agg #[(.string s17), (.string s18)]) ∧ (Pure Tryz.prog 134 #[(.agg #[(.string s17), (.string s18)])] w20 fun r22 w23 => ∃ (s21 : ByteArray), r22 = (.string s21) ∧ (R (.tuple #[(.string s21), (.int .i64 (0 : Int))]) w23)))) ∧ (callable Tryz.prog f14 = true ∧ (Pure Tryz.prog f14 ((Array.toList a14) ++ ([(.agg #[(.string s1), (.string s2)]), (.agg #[(.string s3), (.string s4)])] : List Value) ++ (Array.toList k14)).toArray w16 fun r26 w27 => ∃ (s24 : ByteArray) (s25 : ByteArray), r26 = (.agg #[(.string s24), (.string s25)]) ∧ (Pure Tryz.prog 134 #[(.agg #[(.string s24), (.string s25)])] w27 fun r29 w30 => ∃ (s28 : ByteArray), r29 = (.string s28) ∧ (R (.tuple #[(.string s28), (.int .i64 (0 : Int))]) w30)))))) ∧ (((RunOk Tryz.prog (Instr.lookup 162 v11 (.int .u8 ip0) false) w.heap.size [116, 116] w13 fun r32 w33 => ∃ (f31 : Nat) (a31 k31 : Array Value), r32 = (.func (.func f31) a31 k31) ∧ (callable Tryz.prog f31 = true ∧ (Pure Tryz.prog f31 ((Array.toList a31) ++ ([(.agg #[(.string s1), (.string s2)]), (.agg #[(.string s3), (.string s4)])] : List Value) ++ (Array.toList k31)).toArray w33 fun r36 w37 => ∃ (s34 : ByteArray) (s35 : ByteArray), r36 = (.agg #[(.string s34), (.string s35)]) ∧ (Pure Tryz.prog 134 #[(.agg #[(.string s34), (.string s35)])] w37 fun r39 w40 => ∃ (s38 : ByteArray), r39 = (.string s38) ∧ (R (.tuple #[(.string s38), (.int .i64 (0 : Int))]) w40))))) ∧ (RunOk Tryz.prog (Instr.lookup 162 v11 (.int .u8 ip0) false) w.heap.size [116, 116] w13 fun r42 w43 => ∃ (f41 : Nat) (a41 k41 : Array Value), r42 = (.func (.func f41) a41 k41) ∧ (callable Tryz.prog f41 = true ∧ (Pure Tryz.prog f41 ((Array.toList a41) ++ ([(.agg #[(.string s1), (.string s2)]), (.agg #[(.string s3), (.string s4)])] : List Value) ++ (Array.toList k41)).toArray w43 fun r46 w47 => ∃ (s44 : ByteArray) (s45 : ByteArray), r46 = (.agg #[(.string s44), (.string s45)]) ∧ (Pure Tryz.prog 134 #[(.agg #[(.string s44), (.string s45)])] w47 fun r49 w50 => ∃ (s48 : ByteArray), r49 = (.string s48) ∧ (R (.tuple #[(.string s48), (.int .i64 (0 : Int))]) w50)))))) ∧ ((RunOk Tryz.prog (Instr.lookup 162 v11 (.int .u8 ip0) false) w.heap.size [116, 116] w13 fun r52 w53 => ∃ (f51 : Nat) (a51 k51 : Array Value), r52 = (.func (.func f51) a51 k51) ∧ (callable Tryz.prog f51 = true ∧ (Pure Tryz.prog f51 ((Array.toList a51) ++ ([(.agg #[(.string s1), (.string s2)]), (.agg #[(.string s3), (.string s4)])] : List Value) ++ (Array.toList k51)).toArray w53 fun r56 w57 => ∃ (s54 : ByteArray) (s55 : ByteArray), r56 = (.agg #[(.string s54), (.string s55)]) ∧ (Pure Tryz.prog 134 #[(.agg #[(.string s54), (.string s55)])] w57 fun r59 w60 => ∃ (s58 : ByteArray), r59 = (.string s58) ∧ (R (.tuple #[(.string s58), (.int .i64 (0 : Int))]) w60))))) ∧ (RunOk Tryz.prog (Instr.lookup 162 v11 (.int .u8 ip0) false) w.heap.size [116, 116] w13 fun r62 w63 => ∃ (f61 : Nat) (a61 k61 : Array Value), r62 = (.func (.func f61) a61 k61) ∧ (callable Tryz.prog f61 = true ∧ (Pure Tryz.prog f61 ((Array.toList a61) ++ ([(.agg #[(.string s1), (.string s2)]), (.agg #[(.string s3), (.string s4)])] : List Value) ++ (Array.toList k61)).toArray w63 fun r66 w67 => ∃ (s64 : ByteArray) (s65 : ByteArray), r66 = (.agg #[(.string s64), (.string s65)]) ∧ (Pure Tryz.prog 134 #[(.agg #[(.string s64), (.string s65)])] w67 fun r69 w70 => ∃ (s68 : ByteArray), r69 = (.string s68) ∧ (R (.tuple #[(.string s68), (.int .i64 (0 : Int))]) w70)))))))))) ∧ (((∀ w71, Ext w.heap.size [] w7 w71 → (Pure Tryz.prog 133 #[] w71 fun r73 w74 => ∃ (v72 : Value), r73 = v72 ∧ ((RunOk Tryz.prog (Instr.lookup 162 v72 (.int .u8 ip0) false) w.heap.size [116, 116] w74 fun r76 w77 => ∃ (f75 : Nat) (a75 k75 : Array Value), r76 = (.func (.func f75) a75 k75) ∧ (callable Tryz.prog f75 = true ∧ (Pure Tryz.prog f75 ((Array.toList a75) ++ ([(.agg #[(.string s1), (.string s2)]), (.agg #[(.string s3), (.string s4)])] : List Value) ++ (Array.toList k75)).toArray w77 fun r80 w81 => ∃ (s78 : ByteArray) (s79 : ByteArray), r80 = (.agg #[(.string s78), (.string s79)]) ∧ (Pure Tryz.prog 134 #[(.agg #[(.string s78), (.string s79)])] w81 fun r83 w84 => ∃ (s82 : ByteArray), r83 = (.string s82) ∧ (R (.tuple #[(.string s82), (.int .i64 (0 : Int))]) w84))))) ∧ (RunOk Tryz.prog (Instr.lookup 162 v72 (.int .u8 ip0) false) w.heap.size [116, 116] w74 fun r86 w87 => ∃ (f85 : Nat) (a85 k85 : Array Value), r86 = (.func (.func f85) a85 k85) ∧ (callable Tryz.prog f85 = true ∧ (Pure Tryz.prog f85 ((Array.toList a85) ++ ([(.agg #[(.string s1), (.string s2)]), (.agg #[(.string s3), (.string s4)])] : List Value) ++ (Array.toList k85)).toArray w87 fun r90 w91 => ∃ (s88 : ByteArray) (s89 : ByteArray), r90 = (.agg #[(.string s88), (.string s89)]) ∧ (Pure Tryz.prog 134 #[(.agg #[(.string s88), (.string s89)])] w91 fun r93 w94 => ∃ (s92 : ByteArray), r93 = (.string s92) ∧ (R (.tuple #[(.string s92), (.int .i64 (0 : Int))]) w94)))))))) ∧ (∀ w95, Ext w.heap.size [] w7 w95 → (Pure Tryz.prog 133 #[] w95 fun r97 w98 => ∃ (v96 : Value), r97 = v96 ∧ (RunOk Tryz.prog (Instr.lookup 162 v96 (.int .u8 ip0) false) w.heap.size [116, 116] w98 fun r100 w101 => ∃ (f99 : Nat) (a99 k99 : Array Value), r100 = (.func (.func f99) a99 k99) ∧ (callable Tryz.prog f99 = true ∧ (Pure Tryz.prog f99 ((Array.toList a99) ++ ([(.agg #[(.string s1), (.string s2)]), (.agg #[(.string s3), (.string s4)])] : List Value) ++ (Array.toList k99)).toArray w101 fun r104 w105 => ∃ (s102 : ByteArray) (s103 : ByteArray), r104 = (.agg #[(.string s102), (.string s103)]) ∧ (Pure Tryz.prog 134 #[(.agg #[(.string s102), (.string s103)])] w105 fun r107 w108 => ∃ (s106 : ByteArray), r107 = (.string s106) ∧ (R (.tuple #[(.string s106), (.int .i64 (0 : Int))]) w108)))))))) ∧ ((∀ w109, Ext w.heap.size [] w7 w109 → (Pure Tryz.prog 133 #[] w109 fun r111 w112 => ∃ (v110 : Value), r111 = v110 ∧ ((RunOk Tryz.prog (Instr.lookup 162 v110 (.int .u8 ip0) false) w.heap.size [116, 116] w112 fun r114 w115 => ∃ (f113 : Nat) (a113 k113 : Array Value), r114 = (.func (.func f113) a113 k113) ∧ (callable Tryz.prog f113 = true ∧ (Pure Tryz.prog f113 ((Array.toList a113) ++ ([(.agg #[(.string s1), (.string s2)]), (.agg #[(.string s3), (.string s4)])] : List Value) ++ (Array.toList k113)).toArray w115 fun r118 w119 => ∃ (s116 : ByteArray) (s117 : ByteArray), r118 = (.agg #[(.string s116), (.string s117)]) ∧ (Pure Tryz.prog 134 #[(.agg #[(.string s116), (.string s117)])] w119 fun r121 w122 => ∃ (s120 : ByteArray), r121 = (.string s120) ∧ (R (.tuple #[(.string s120), (.int .i64 (0 : Int))]) w122))))) ∧ (RunOk Tryz.prog (Instr.lookup 162 v110 (.int .u8 ip0) false) w.heap.size [116, 116] w112 fun r124 w125 => ∃ (f123 : Nat) (a123 k123 : Array Value), r124 = (.func (.func f123) a123 k123) ∧ (callable Tryz.prog f123 = true ∧ (Pure Tryz.prog f123 ((Array.toList a123) ++ ([(.agg #[(.string s1), (.string s2)]), (.agg #[(.string s3), (.string s4)])] : List Value) ++ (Array.toList k123)).toArray w125 fun r128 w129 => ∃ (s126 : ByteArray) (s127 : ByteArray), r128 = (.agg #[(.string s126), (.string s127)]) ∧ (Pure Tryz.prog 134 #[(.agg #[(.string s126), (.string s127)])] w129 fun r131 w132 => ∃ (s130 : ByteArray), r131 = (.string s130) ∧ (R (.tuple #[(.string s130), (.int .i64 (0 : Int))]) w132)))))))) ∧ (∀ w133, Ext w.heap.size [] w7 w133 → (Pure Tryz.prog 133 #[] w133 fun r135 w136 => ∃ (v134 : Value), r135 = v134 ∧ (RunOk Tryz.prog (Instr.lookup 162 v134 (.int .u8 ip0) false) w.heap.size [116, 116] w136 fun r138 w139 => ∃ (f137 : Nat) (a137 k137 : Array Value), r138 = (.func (.func f137) a137 k137) ∧ (callable Tryz.prog f137 = true ∧ (Pure Tryz.prog f137 ((Array.toList a137) ++ ([(.agg #[(.string s1), (.string s2)]), (.agg #[(.string s3), (.string s4)])] : List Value) ++ (Array.toList k137)).toArray w139 fun r142 w143 => ∃ (s140 : ByteArray) (s141 : ByteArray), r142 = (.agg #[(.string s140), (.string s141)]) ∧ (Pure Tryz.prog 134 #[(.agg #[(.string s140), (.string s141)])] w143 fun r145 w146 => ∃ (s144 : ByteArray), r145 = (.string s144) ∧ (R (.tuple #[(.string s144), (.int .i64 (0 : Int))]) w146))))))))))))) ∧ (¬ ((ip0 : Int) = (47 : Int)) → ((∀ w147, Ext w.heap.size [] w7 w147 → (Pure Tryz.prog 133 #[] w147 fun r149 w150 => ∃ (v148 : Value), r149 = v148 ∧ ((RunOk Tryz.prog (Instr.lookup 162 v148 (.int .u8 ip0) false) w.heap.size [116, 116] w150 fun r152 w153 => ∃ (f151 : Nat) (a151 k151 : Array Value), r152 = (.func (.func f151) a151 k151) ∧ ((callable Tryz.prog f151 = true ∧ (Pure Tryz.prog f151 ((Array.toList a151) ++ ([(.agg #[(.string s1), (.string s2)]), (.agg #[(.string s3), (.string s4)])] : List Value) ++ (Array.toList k151)).toArray w153 fun r156 w157 => ∃ (s154 : ByteArray) (s155 : ByteArray), r156 = (.agg #[(.string s154), (.string s155)]) ∧ (Pure Tryz.prog 134 #[(.agg #[(.string s154), (.string s155)])] w157 fun r159 w160 => ∃ (s158 : ByteArray), r159 = (.string s158) ∧ (R (.tuple #[(.string s158), (.int .i64 (0 : Int))]) w160)))) ∧ (callable Tryz.prog f151 = true ∧ (Pure Tryz.prog f151 ((Array.toList a151) ++ ([(.agg #[(.string s1), (.string s2)]), (.agg #[(.string s3), (.string s4)])] : List Value) ++ (Array.toList k151)).toArray w153 fun r163 w164 => ∃ (s161 : ByteArray) (s162 : ByteArray), r163 = (.agg #[(.string s161), (.string s162)]) ∧ (Pure Tryz.prog 134 #[(.agg #[(.string s161), (.string s162)])] w164 fun r166 w167 => ∃ (s165 : ByteArray), r166 = (.string s165) ∧ (R (.tuple #[(.string s165), (.int .i64 (0 : Int))]) w167)))))) ∧ (((RunOk Tryz.prog (Instr.lookup 162 v148 (.int .u8 ip0) false) w.heap.size [116, 116] w150 fun r169 w170 => ∃ (f168 : Nat) (a168 k168 : Array Value), r169 = (.func (.func f168) a168 k168) ∧ (callable Tryz.prog f168 = true ∧ (Pure Tryz.prog f168 ((Array.toList a168) ++ ([(.agg #[(.string s1), (.string s2)]), (.agg #[(.string s3), (.string s4)])] : List Value) ++ (Array.toList k168)).toArray w170 fun r173 w174 => ∃ (s171 : ByteArray) (s172 : ByteArray), r173 = (.agg #[(.string s171), (.string s172)]) ∧ (Pure Tryz.prog 134 #[(.agg #[(.string s171), (.string s172)])] w174 fun r176 w177 => ∃ (s175 : ByteArray), r176 = (.string s175) ∧ (R (.tuple #[(.string s175), (.int .i64 (0 : Int))]) w177))))) ∧ (RunOk Tryz.prog (Instr.lookup 162 v148 (.int .u8 ip0) false) w.heap.size [116, 116] w150 fun r179 w180 => ∃ (f178 : Nat) (a178 k178 : Array Value), r179 = (.func (.func f178) a178 k178) ∧ (callable Tryz.prog f178 = true ∧ (Pure Tryz.prog f178 ((Array.toList a178) ++ ([(.agg #[(.string s1), (.string s2)]), (.agg #[(.string s3), (.string s4)])] : List Value) ++ (Array.toList k178)).toArray w180 fun r183 w184 => ∃ (s181 : ByteArray) (s182 : ByteArray), r183 = (.agg #[(.string s181), (.string s182)]) ∧ (Pure Tryz.prog 134 #[(.agg #[(.string s181), (.string s182)])] w184 fun r186 w187 => ∃ (s185 : ByteArray), r186 = (.string s185) ∧ (R (.tuple #[(.string s185), (.int .i64 (0 : Int))]) w187)))))) ∧ ((RunOk Tryz.prog (Instr.lookup 162 v148 (.int .u8 ip0) false) w.heap.size [116, 116] w150 fun r189 w190 => ∃ (f188 : Nat) (a188 k188 : Array Value), r189 = (.func (.func f188) a188 k188) ∧ (callable Tryz.prog f188 = true ∧ (Pure Tryz.prog f188 ((Array.toList a188) ++ ([(.agg #[(.string s1), (.string s2)]), (.agg #[(.string s3), (.string s4)])] : List Value) ++ (Array.toList k188)).toArray w190 fun r193 w194 => ∃ (s191 : ByteArray) (s192 : ByteArray), r193 = (.agg #[(.string s191), (.string s192)]) ∧ (Pure Tryz.prog 134 #[(.agg #[(.string s191), (.string s192)])] w194 fun r196 w197 => ∃ (s195 : ByteArray), r196 = (.string s195) ∧ (R (.tuple #[(.string s195), (.int .i64 (0 : Int))]) w197))))) ∧ (RunOk Tryz.prog (Instr.lookup 162 v148 (.int .u8 ip0) false) w.heap.size [116, 116] w150 fun r199 w200 => ∃ (f198 : Nat) (a198 k198 : Array Value), r199 = (.func (.func f198) a198 k198) ∧ (callable Tryz.prog f198 = true ∧ (Pure Tryz.prog f198 ((Array.toList a198) ++ ([(.agg #[(.string s1), (.string s2)]), (.agg #[(.string s3), (.string s4)])] : List Value) ++ (Array.toList k198)).toArray w200 fun r203 w204 => ∃ (s201 : ByteArray) (s202 : ByteArray), r203 = (.agg #[(.string s201), (.string s202)]) ∧ (Pure Tryz.prog 134 #[(.agg #[(.string s201), (.string s202)])] w204 fun r206 w207 => ∃ (s205 : ByteArray), r206 = (.string s205) ∧ (R (.tuple #[(.string s205), (.int .i64 (0 : Int))]) w207)))))))))) ∧ (((∀ w208, Ext w.heap.size [] w7 w208 → (Pure Tryz.prog 133 #[] w208 fun r210 w211 => ∃ (v209 : Value), r210 = v209 ∧ ((RunOk Tryz.prog (Instr.lookup 162 v209 (.int .u8 ip0) false) w.heap.size [116, 116] w211 fun r213 w214 => ∃ (f212 : Nat) (a212 k212 : Array Value), r213 = (.func (.func f212) a212 k212) ∧ (callable Tryz.prog f212 = true ∧ (Pure Tryz.prog f212 ((Array.toList a212) ++ ([(.agg #[(.string s1), (.string s2)]), (.agg #[(.string s3), (.string s4)])] : List Value) ++ (Array.toList k212)).toArray w214 fun r217 w218 => ∃ (s215 : ByteArray) (s216 : ByteArray), r217 = (.agg #[(.string s215), (.string s216)]) ∧ (Pure Tryz.prog 134 #[(.agg #[(.string s215), (.string s216)])] w218 fun r220 w221 => ∃ (s219 : ByteArray), r220 = (.string s219) ∧ (R (.tuple #[(.string s219), (.int .i64 (0 : Int))]) w221))))) ∧ (RunOk Tryz.prog (Instr.lookup 162 v209 (.int .u8 ip0) false) w.heap.size [116, 116] w211 fun r223 w224 => ∃ (f222 : Nat) (a222 k222 : Array Value), r223 = (.func (.func f222) a222 k222) ∧ (callable Tryz.prog f222 = true ∧ (Pure Tryz.prog f222 ((Array.toList a222) ++ ([(.agg #[(.string s1), (.string s2)]), (.agg #[(.string s3), (.string s4)])] : List Value) ++ (Array.toList k222)).toArray w224 fun r227 w228 => ∃ (s225 : ByteArray) (s226 : ByteArray), r227 = (.agg #[(.string s225), (.string s226)]) ∧ (Pure Tryz.prog 134 #[(.agg #[(.string s225), (.string s226)])] w228 fun r230 w231 => ∃ (s229 : ByteArray), r230 = (.string s229) ∧ (R (.tuple #[(.string s229), (.int .i64 (0 : Int))]) w231)))))))) ∧ (∀ w232, Ext w.heap.size [] w7 w232 → (Pure Tryz.prog 133 #[] w232 fun r234 w235 => ∃ (v233 : Value), r234 = v233 ∧ (RunOk Tryz.prog (Instr.lookup 162 v233 (.int .u8 ip0) false) w.heap.size [116, 116] w235 fun r237 w238 => ∃ (f236 : Nat) (a236 k236 : Array Value), r237 = (.func (.func f236) a236 k236) ∧ (callable Tryz.prog f236 = true ∧ (Pure Tryz.prog f236 ((Array.toList a236) ++ ([(.agg #[(.string s1), (.string s2)]), (.agg #[(.string s3), (.string s4)])] : List Value) ++ (Array.toList k236)).toArray w238 fun r241 w242 => ∃ (s239 : ByteArray) (s240 : ByteArray), r241 = (.agg #[(.string s239), (.string s240)]) ∧ (Pure Tryz.prog 134 #[(.agg #[(.string s239), (.string s240)])] w242 fun r244 w245 => ∃ (s243 : ByteArray), r244 = (.string s243) ∧ (R (.tuple #[(.string s243), (.int .i64 (0 : Int))]) w245)))))))) ∧ ((∀ w246, Ext w.heap.size [] w7 w246 → (Pure Tryz.prog 133 #[] w246 fun r248 w249 => ∃ (v247 : Value), r248 = v247 ∧ ((RunOk Tryz.prog (Instr.lookup 162 v247 (.int .u8 ip0) false) w.heap.size [116, 116] w249 fun r251 w252 => ∃ (f250 : Nat) (a250 k250 : Array Value), r251 = (.func (.func f250) a250 k250) ∧ (callable Tryz.prog f250 = true ∧ (Pure Tryz.prog f250 ((Array.toList a250) ++ ([(.agg #[(.string s1), (.string s2)]), (.agg #[(.string s3), (.string s4)])] : List Value) ++ (Array.toList k250)).toArray w252 fun r255 w256 => ∃ (s253 : ByteArray) (s254 : ByteArray), r255 = (.agg #[(.string s253), (.string s254)]) ∧ (Pure Tryz.prog 134 #[(.agg #[(.string s253), (.string s254)])] w256 fun r258 w259 => ∃ (s257 : ByteArray), r258 = (.string s257) ∧ (R (.tuple #[(.string s257), (.int .i64 (0 : Int))]) w259))))) ∧ (RunOk Tryz.prog (Instr.lookup 162 v247 (.int .u8 ip0) false) w.heap.size [116, 116] w249 fun r261 w262 => ∃ (f260 : Nat) (a260 k260 : Array Value), r261 = (.func (.func f260) a260 k260) ∧ (callable Tryz.prog f260 = true ∧ (Pure Tryz.prog f260 ((Array.toList a260) ++ ([(.agg #[(.string s1), (.string s2)]), (.agg #[(.string s3), (.string s4)])] : List Value) ++ (Array.toList k260)).toArray w262 fun r265 w266 => ∃ (s263 : ByteArray) (s264 : ByteArray), r265 = (.agg #[(.string s263), (.string s264)]) ∧ (Pure Tryz.prog 134 #[(.agg #[(.string s263), (.string s264)])] w266 fun r268 w269 => ∃ (s267 : ByteArray), r268 = (.string s267) ∧ (R (.tuple #[(.string s267), (.int .i64 (0 : Int))]) w269)))))))) ∧ (∀ w270, Ext w.heap.size [] w7 w270 → (Pure Tryz.prog 133 #[] w270 fun r272 w273 => ∃ (v271 : Value), r272 = v271 ∧ (RunOk Tryz.prog (Instr.lookup 162 v271 (.int .u8 ip0) false) w.heap.size [116, 116] w273 fun r275 w276 => ∃ (f274 : Nat) (a274 k274 : Array Value), r275 = (.func (.func f274) a274 k274) ∧ (callable Tryz.prog f274 = true ∧ (Pure Tryz.prog f274 ((Array.toList a274) ++ ([(.agg #[(.string s1), (.string s2)]), (.agg #[(.string s3), (.string s4)])] : List Value) ++ (Array.toList k274)).toArray w276 fun r279 w280 => ∃ (s277 : ByteArray) (s278 : ByteArray), r279 = (.agg #[(.string s277), (.string s278)]) ∧ (Pure Tryz.prog 134 #[(.agg #[(.string s277), (.string s278)])] w280 fun r282 w283 => ∃ (s281 : ByteArray), r282 = (.string s281) ∧ (R (.tuple #[(.string s281), (.int .i64 (0 : Int))]) w283)))))))))))))))) :
    Pure Tryz.prog 116 #[(.int .u8 ip0), (.string sp1), (.string sp2)] w R :=
  pure_of_run (rational_apply.cx w w.heap.size R) 100000 follows Tryz.func116 rfl rfl rfl rfl rfl rfl rfl (Eq.mp (by kernel_rfl) h)

noncomputable def rational_both.cx (w : World) (B : Nat) (R : Value → World → Prop) : Cx := ⟨Tryz.prog, 120, 31, Tryz.f120.results.toList, [], [], w, B, R⟩
theorem rational_both.vc (sp0 : ByteArray) (sp1 : ByteArray) (w : World) (R : Value → World → Prop)
    (h : (∀ w1, Ext w.heap.size [] w w1 → (Pure Tryz.prog 89 #[(.string sp0)] w1 fun r5 w6 => ∃ (s2 : ByteArray) (s3 : ByteArray) (b4 : Bool), r5 = (.tuple #[(.agg #[(.string s2), (.string s3)]), (.bool b4)]) ∧ (∀ w7, Ext w.heap.size [] w6 w7 → (Pure Tryz.prog 89 #[(.string sp1)] w7 fun r11 w12 => ∃ (s8 : ByteArray) (s9 : ByteArray) (b10 : Bool), r11 = (.tuple #[(.agg #[(.string s8), (.string s9)]), (.bool b10)]) ∧ (((b4 = false) → (∀ w13, Ext w.heap.size [116] w12 w13 → (R (.tuple #[(.agg #[(.string (⟨#[]⟩ : ByteArray)), (.string (⟨#[]⟩ : ByteArray))]), (.agg #[(.string (⟨#[]⟩ : ByteArray)), (.string (⟨#[]⟩ : ByteArray))]), (.int .i64 (1 : Int))]) w13))) ∧ (¬ (b4 = false) → (((b10 = false) → (∀ w14, Ext w.heap.size [116] w12 w14 → (R (.tuple #[(.agg #[(.string (⟨#[]⟩ : ByteArray)), (.string (⟨#[]⟩ : ByteArray))]), (.agg #[(.string (⟨#[]⟩ : ByteArray)), (.string (⟨#[]⟩ : ByteArray))]), (.int .i64 (1 : Int))]) w14))) ∧ (¬ (b10 = false) → ((∀ w15, Ext w.heap.size [116] w12 w15 → (R (.tuple #[(.agg #[(.string s2), (.string s3)]), (.agg #[(.string s8), (.string s9)]), (.int .i64 (0 : Int))]) w15)) ∧ (∀ w16, Ext w.heap.size [116] w12 w16 → (R (.tuple #[(.agg #[(.string s2), (.string s3)]), (.agg #[(.string s8), (.string s9)]), (.int .i64 (0 : Int))]) w16)))))))))))) :
    Pure Tryz.prog 120 #[(.string sp0), (.string sp1)] w R :=
  pure_of_run (rational_both.cx w w.heap.size R) 100000 follows Tryz.func120 rfl rfl rfl rfl rfl rfl rfl (Eq.mp (by kernel_rfl) h)

noncomputable def rational_frac_sign.cx (w : World) (B : Nat) (R : Value → World → Prop) : Cx := ⟨Tryz.prog, 121, 12, Tryz.f121.results.toList, [], [], w, B, R⟩
theorem rational_frac_sign.vc (sp0_0 : ByteArray) (sp0_1 : ByteArray) (w : World) (R : Value → World → Prop)
    (h : (∀ w1, Ext w.heap.size [] w w1 → (Pure Tryz.prog 137 #[(.string sp0_0)] w1 fun r4 w5 => ∃ (i2 : Int) (i3 : Int), r4 = (.tuple #[(.int .i64 i2), (.int .i64 i3)]) ∧ (R (.int .i64 i2) w5)))) :
    Pure Tryz.prog 121 #[(.agg #[(.string sp0_0), (.string sp0_1)])] w R :=
  pure_of_run (rational_frac_sign.cx w w.heap.size R) 100000 follows Tryz.func121 rfl rfl rfl rfl rfl rfl rfl (Eq.mp (by kernel_rfl) h)

noncomputable def rational_all.cx (w : World) (B : Nat) (R : Value → World → Prop) : Cx := ⟨Tryz.prog, 133, 2, Tryz.f133.results.toList, [], [], w, B, R⟩
theorem rational_all.vc  (w : World) (R : Value → World → Prop)
    (h : (Pure Tryz.prog 150 #[] w fun r2 w3 => ∃ (v1 : Value), r2 = v1 ∧ (R v1 w3))) :
    Pure Tryz.prog 133 #[] w R :=
  pure_of_run (rational_all.cx w w.heap.size R) 100000 follows Tryz.func133 rfl rfl rfl rfl rfl rfl rfl (Eq.mp (by kernel_rfl) h)

noncomputable def rational_frac_text.cx (w : World) (B : Nat) (R : Value → World → Prop) : Cx := ⟨Tryz.prog, 134, 14, Tryz.f134.results.toList, [], [], w, B, R⟩
theorem rational_frac_text.vc (sp0_0 : ByteArray) (sp0_1 : ByteArray) (w : World) (R : Value → World → Prop)
    (h : (((sp0_1 = (⟨#[49]⟩ : ByteArray)) → (∀ w1, Ext w.heap.size [] w w1 → (R (.string sp0_0) w1))) ∧ (¬ (sp0_1 = (⟨#[49]⟩ : ByteArray)) → (ByteArray.size sp0_0 + ByteArray.size (⟨#[47]⟩ : ByteArray) ≤ 9223372036854775807 ∧ (ByteArray.size (sp0_0 ++ (⟨#[47]⟩ : ByteArray)) + ByteArray.size sp0_1 ≤ 9223372036854775807 ∧ (∀ w2, Ext w.heap.size [] w w2 → (R (.string ((sp0_0 ++ (⟨#[47]⟩ : ByteArray)) ++ sp0_1)) w2))))))) :
    Pure Tryz.prog 134 #[(.agg #[(.string sp0_0), (.string sp0_1)])] w R :=
  pure_of_run (rational_frac_text.cx w w.heap.size R) 100000 follows Tryz.func134 rfl rfl rfl rfl rfl rfl rfl (Eq.mp (by kernel_rfl) h)

noncomputable def rational_operations.cx (w : World) (B : Nat) (R : Value → World → Prop) : Cx := ⟨Tryz.prog, 150, 3, Tryz.f150.results.toList, [], [(1, 0, 2), (1, 1, 2), (1, 2, 2), (1, 3, 2), (1, 4, 2)], w, B, R⟩
theorem rational_operations.vc  (w : World) (R : Value → World → Prop)
    (h : (RunOk Tryz.prog (Instr.makeMap 162 none) w.heap.size [] w fun r2 w3 => ∃ (v1 : Value), r2 = v1 ∧ (RunOkU Tryz.prog (Instr.mapUpdate 162 v1 (.int .u8 (43 : Int)) (.func (.func 169) #[] #[])) w.heap.size [] w3 fun w4 => (RunOkU Tryz.prog (Instr.mapUpdate 162 v1 (.int .u8 (42 : Int)) (.func (.func 170) #[] #[])) w.heap.size [] w4 fun w5 => (RunOkU Tryz.prog (Instr.mapUpdate 162 v1 (.int .u8 (45 : Int)) (.func (.func 171) #[] #[])) w.heap.size [] w5 fun w6 => (RunOkU Tryz.prog (Instr.mapUpdate 162 v1 (.int .u8 (47 : Int)) (.func (.func 173) #[] #[])) w.heap.size [] w6 fun w7 => (R v1 w7))))))) :
    Pure Tryz.prog 150 #[] w R :=
  pure_of_run (rational_operations.cx w w.heap.size R) 100000 follows Tryz.func150 rfl rfl rfl rfl rfl rfl rfl (Eq.mp (by kernel_rfl) h)

noncomputable def rational_plus.cx (w : World) (B : Nat) (R : Value → World → Prop) : Cx := ⟨Tryz.prog, 169, 77, Tryz.f169.results.toList, [], [], w, B, R⟩
theorem rational_plus.vc (sp0_0 : ByteArray) (sp0_1 : ByteArray) (sp1_0 : ByteArray) (sp1_1 : ByteArray) (w : World) (R : Value → World → Prop)
    (h : (∀ w1, Ext w.heap.size [] w w1 → (Pure Tryz.prog 195 #[(.agg #[(.string sp0_0), (.string sp0_1)])] w1 fun r5 w6 => ∃ (i2 : Int) (i3 : Int) (b4 : Bool), r5 = (.tuple #[(.int .i64 i2), (.int .i64 i3), (.bool b4)]) ∧ (Pure Tryz.prog 195 #[(.agg #[(.string sp1_0), (.string sp1_1)])] w6 fun r10 w11 => ∃ (i7 : Int) (i8 : Int) (b9 : Bool), r10 = (.tuple #[(.int .i64 i7), (.int .i64 i8), (.bool b9)]) ∧ ((b4 = true → ((b9 = true → (inR .i64 (i2 * i8) ∧ (inR .i64 (i7 * i3) ∧ (inR .i64 ((i2 * i8) + (i7 * i3)) ∧ (inR .i64 (i3 * i8) ∧ (Pure Tryz.prog 196 #[(.int .i64 ((i2 * i8) + (i7 * i3))), (.int .i64 (i3 * i8))] w11 fun r14 w15 => ∃ (s12 : ByteArray) (s13 : ByteArray), r14 = (.agg #[(.string s12), (.string s13)]) ∧ (∀ w16, Ext w.heap.size [116] w15 w16 → (R (.agg #[(.string s12), (.string s13)]) w16)))))))) ∧ (b9 = false → (Pure Tryz.prog 122 #[(.string sp0_0), (.string sp1_1)] w11 fun r19 w20 => ∃ (s17 : ByteArray) (i18 : Int), r19 = (.tuple #[(.string s17), (.int .i64 i18)]) ∧ (Pure Tryz.prog 122 #[(.string sp1_0), (.string sp0_1)] w20 fun r23 w24 => ∃ (s21 : ByteArray) (i22 : Int), r23 = (.tuple #[(.string s21), (.int .i64 i22)]) ∧ (Pure Tryz.prog 197 #[(.string s17), (.string s21)] w24 fun r27 w28 => ∃ (s25 : ByteArray) (i26 : Int), r27 = (.tuple #[(.string s25), (.int .i64 i26)]) ∧ (Pure Tryz.prog 154 #[(.string sp0_1), (.string sp1_1)] w28 fun r31 w32 => ∃ (s29 : ByteArray) (i30 : Int), r31 = (.tuple #[(.string s29), (.int .i64 i30)]) ∧ (Pure Tryz.prog 198 #[(.string s25), (.string s29)] w32 fun r35 w36 => ∃ (s33 : ByteArray) (s34 : ByteArray), r35 = (.agg #[(.string s33), (.string s34)]) ∧ (∀ w37, Ext w.heap.size [116] w36 w37 → (R (.agg #[(.string s33), (.string s34)]) w37)))))))))) ∧ (b4 = false → (Pure Tryz.prog 122 #[(.string sp0_0), (.string sp1_1)] w11 fun r40 w41 => ∃ (s38 : ByteArray) (i39 : Int), r40 = (.tuple #[(.string s38), (.int .i64 i39)]) ∧ (Pure Tryz.prog 122 #[(.string sp1_0), (.string sp0_1)] w41 fun r44 w45 => ∃ (s42 : ByteArray) (i43 : Int), r44 = (.tuple #[(.string s42), (.int .i64 i43)]) ∧ (Pure Tryz.prog 197 #[(.string s38), (.string s42)] w45 fun r48 w49 => ∃ (s46 : ByteArray) (i47 : Int), r48 = (.tuple #[(.string s46), (.int .i64 i47)]) ∧ (Pure Tryz.prog 154 #[(.string sp0_1), (.string sp1_1)] w49 fun r52 w53 => ∃ (s50 : ByteArray) (i51 : Int), r52 = (.tuple #[(.string s50), (.int .i64 i51)]) ∧ (Pure Tryz.prog 198 #[(.string s46), (.string s50)] w53 fun r56 w57 => ∃ (s54 : ByteArray) (s55 : ByteArray), r56 = (.agg #[(.string s54), (.string s55)]) ∧ (∀ w58, Ext w.heap.size [116] w57 w58 → (R (.agg #[(.string s54), (.string s55)]) w58))))))))))))) :
    Pure Tryz.prog 169 #[(.agg #[(.string sp0_0), (.string sp0_1)]), (.agg #[(.string sp1_0), (.string sp1_1)])] w R :=
  pure_of_run (rational_plus.cx w w.heap.size R) 100000 follows Tryz.func169 rfl rfl rfl rfl rfl rfl rfl (Eq.mp (by kernel_rfl) h)

noncomputable def rational_times.cx (w : World) (B : Nat) (R : Value → World → Prop) : Cx := ⟨Tryz.prog, 170, 57, Tryz.f170.results.toList, [], [], w, B, R⟩
theorem rational_times.vc (sp0_0 : ByteArray) (sp0_1 : ByteArray) (sp1_0 : ByteArray) (sp1_1 : ByteArray) (w : World) (R : Value → World → Prop)
    (h : (∀ w1, Ext w.heap.size [] w w1 → (Pure Tryz.prog 195 #[(.agg #[(.string sp0_0), (.string sp0_1)])] w1 fun r5 w6 => ∃ (i2 : Int) (i3 : Int) (b4 : Bool), r5 = (.tuple #[(.int .i64 i2), (.int .i64 i3), (.bool b4)]) ∧ (Pure Tryz.prog 195 #[(.agg #[(.string sp1_0), (.string sp1_1)])] w6 fun r10 w11 => ∃ (i7 : Int) (i8 : Int) (b9 : Bool), r10 = (.tuple #[(.int .i64 i7), (.int .i64 i8), (.bool b9)]) ∧ ((b4 = true → ((b9 = true → (inR .i64 (i2 * i7) ∧ (inR .i64 (i3 * i8) ∧ (Pure Tryz.prog 196 #[(.int .i64 (i2 * i7)), (.int .i64 (i3 * i8))] w11 fun r14 w15 => ∃ (s12 : ByteArray) (s13 : ByteArray), r14 = (.agg #[(.string s12), (.string s13)]) ∧ (∀ w16, Ext w.heap.size [116] w15 w16 → (R (.agg #[(.string s12), (.string s13)]) w16)))))) ∧ (b9 = false → (Pure Tryz.prog 122 #[(.string sp0_0), (.string sp1_0)] w11 fun r19 w20 => ∃ (s17 : ByteArray) (i18 : Int), r19 = (.tuple #[(.string s17), (.int .i64 i18)]) ∧ (Pure Tryz.prog 154 #[(.string sp0_1), (.string sp1_1)] w20 fun r23 w24 => ∃ (s21 : ByteArray) (i22 : Int), r23 = (.tuple #[(.string s21), (.int .i64 i22)]) ∧ (Pure Tryz.prog 198 #[(.string s17), (.string s21)] w24 fun r27 w28 => ∃ (s25 : ByteArray) (s26 : ByteArray), r27 = (.agg #[(.string s25), (.string s26)]) ∧ (∀ w29, Ext w.heap.size [116] w28 w29 → (R (.agg #[(.string s25), (.string s26)]) w29)))))))) ∧ (b4 = false → (Pure Tryz.prog 122 #[(.string sp0_0), (.string sp1_0)] w11 fun r32 w33 => ∃ (s30 : ByteArray) (i31 : Int), r32 = (.tuple #[(.string s30), (.int .i64 i31)]) ∧ (Pure Tryz.prog 154 #[(.string sp0_1), (.string sp1_1)] w33 fun r36 w37 => ∃ (s34 : ByteArray) (i35 : Int), r36 = (.tuple #[(.string s34), (.int .i64 i35)]) ∧ (Pure Tryz.prog 198 #[(.string s30), (.string s34)] w37 fun r40 w41 => ∃ (s38 : ByteArray) (s39 : ByteArray), r40 = (.agg #[(.string s38), (.string s39)]) ∧ (∀ w42, Ext w.heap.size [116] w41 w42 → (R (.agg #[(.string s38), (.string s39)]) w42))))))))))) :
    Pure Tryz.prog 170 #[(.agg #[(.string sp0_0), (.string sp0_1)]), (.agg #[(.string sp1_0), (.string sp1_1)])] w R :=
  pure_of_run (rational_times.cx w w.heap.size R) 100000 follows Tryz.func170 rfl rfl rfl rfl rfl rfl rfl (Eq.mp (by kernel_rfl) h)

noncomputable def rational_operations_c1.cx (w : World) (B : Nat) (R : Value → World → Prop) : Cx := ⟨Tryz.prog, 171, 9, Tryz.f171.results.toList, [], [], w, B, R⟩
theorem rational_operations_c1.vc (sp0_0 : ByteArray) (sp0_1 : ByteArray) (sp1_0 : ByteArray) (sp1_1 : ByteArray) (w : World) (R : Value → World → Prop)
    (h : (∀ w1, Ext w.heap.size [] w w1 → (Pure Tryz.prog 172 #[(.agg #[(.string sp1_0), (.string sp1_1)])] w1 fun r4 w5 => ∃ (s2 : ByteArray) (s3 : ByteArray), r4 = (.agg #[(.string s2), (.string s3)]) ∧ (Pure Tryz.prog 169 #[(.agg #[(.string sp0_0), (.string sp0_1)]), (.agg #[(.string s2), (.string s3)])] w5 fun r8 w9 => ∃ (s6 : ByteArray) (s7 : ByteArray), r8 = (.agg #[(.string s6), (.string s7)]) ∧ (∀ w10, Ext w.heap.size [116] w9 w10 → (R (.agg #[(.string s6), (.string s7)]) w10)))))) :
    Pure Tryz.prog 171 #[(.agg #[(.string sp0_0), (.string sp0_1)]), (.agg #[(.string sp1_0), (.string sp1_1)])] w R :=
  pure_of_run (rational_operations_c1.cx w w.heap.size R) 100000 follows Tryz.func171 rfl rfl rfl rfl rfl rfl rfl (Eq.mp (by kernel_rfl) h)

noncomputable def rational_opposite.cx (w : World) (B : Nat) (R : Value → World → Prop) : Cx := ⟨Tryz.prog, 172, 15, Tryz.f172.results.toList, [], [], w, B, R⟩
theorem rational_opposite.vc (sp0_0 : ByteArray) (sp0_1 : ByteArray) (w : World) (R : Value → World → Prop)
    (h : (∀ w1, Ext w.heap.size [] w w1 → (Pure Tryz.prog 199 #[(.string sp0_0)] w1 fun r4 w5 => ∃ (s2 : ByteArray) (i3 : Int), r4 = (.tuple #[(.string s2), (.int .i64 i3)]) ∧ (∀ w6, Ext w.heap.size [116] w5 w6 → (R (.agg #[(.string s2), (.string sp0_1)]) w6))))) :
    Pure Tryz.prog 172 #[(.agg #[(.string sp0_0), (.string sp0_1)])] w R :=
  pure_of_run (rational_opposite.cx w w.heap.size R) 100000 follows Tryz.func172 rfl rfl rfl rfl rfl rfl rfl (Eq.mp (by kernel_rfl) h)

noncomputable def rational_frac_little.cx (w : World) (B : Nat) (R : Value → World → Prop) : Cx := ⟨Tryz.prog, 195, 33, Tryz.f195.results.toList, [], [], w, B, R⟩
theorem rational_frac_little.vc (sp0_0 : ByteArray) (sp0_1 : ByteArray) (w : World) (R : Value → World → Prop)
    (h : (((((ByteArray.size sp0_0 : Int) : Int) > (9 : Int)) → (∀ w1, Ext w.heap.size [] w w1 → (R (.tuple #[(.int .i64 (0 : Int)), (.int .i64 (0 : Int)), (.bool false)]) w1))) ∧ (¬ (((ByteArray.size sp0_0 : Int) : Int) > (9 : Int)) → (((((ByteArray.size sp0_1 : Int) : Int) > (9 : Int)) → (∀ w2, Ext w.heap.size [] w w2 → (R (.tuple #[(.int .i64 (0 : Int)), (.int .i64 (0 : Int)), (.bool false)]) w2))) ∧ (¬ (((ByteArray.size sp0_1 : Int) : Int) > (9 : Int)) → (∀ w3, Ext w.heap.size [] w w3 → (Pure Tryz.prog 218 #[(.string sp0_0), (.int .i64 (10 : Int)), (.int .i64 (64 : Int))] w3 fun r6 w7 => ∃ (i4 : Int) (v5 : Value), r6 = (.tuple #[(.int .i64 i4), v5]) ∧ (Pure Tryz.prog 218 #[(.string sp0_1), (.int .i64 (10 : Int)), (.int .i64 (64 : Int))] w7 fun r10 w11 => ∃ (i8 : Int) (v9 : Value), r10 = (.tuple #[(.int .i64 i8), v9]) ∧ (R (.tuple #[(.int .i64 i4), (.int .i64 i8), (.bool true)]) w11))))))))) :
    Pure Tryz.prog 195 #[(.agg #[(.string sp0_0), (.string sp0_1)])] w R :=
  pure_of_run (rational_frac_little.cx w w.heap.size R) 100000 follows Tryz.func195 rfl rfl rfl rfl rfl rfl rfl (Eq.mp (by kernel_rfl) h)

def rational_of.L2 (il0 : Int) (il1 : Int) (il5 : Int) (il6 : Int) (slx4_0 : ByteArray) (slx4_1 : ByteArray) (B : Nat) (w : World) (R : Value → World → Prop) : Prop := At Tryz.prog 196 28 (loopAt Tryz.f196 2) [(0, .v (.int .i64 il0)), (1, .v (.int .i64 il1)), (4, .loc 4 0), (5, .v (.int .i64 il5)), (6, .v (.int .i64 il6))] [⟨4, false, 116, [(.string slx4_0), (.string slx4_1)]⟩] B w R
noncomputable def rational_of.cx (w : World) (B : Nat) (R : Value → World → Prop) : Cx := ⟨Tryz.prog, 196, 28, Tryz.f196.results.toList, [((true, 2), [0, 1, 4, 5, 6], [4])], [(3, 3, 1), (5, 2, 1)], w, B, R⟩
theorem rational_of.L2.step (il0 : Int) (il1 : Int) (il5 : Int) (il6 : Int) (slx4_0 : ByteArray) (slx4_1 : ByteArray) (B : Nat) (w : World) (R : Value → World → Prop)
    (h : ((((il6 : Int) ≠ (0 : Int)) → (il6 ≠ 0 ∧ (∀ w2, Ext B [] w w2 → (rational_of.L2 il0 il1 il6 (Int.tmod il5 il6) slx4_0 slx4_1 B w2 R)))) ∧ (¬ ((il6 : Int) ≠ (0 : Int)) → (inR .i64 (-il5) ∧ ((if (-il5) > il5 then (-il5) else il5) ≠ 0 ∧ ((0 ≤ il1 ∧ 0 < (if (-il5) > il5 then (-il5) else il5) ∧ inR .i64 il1) ∧ (∀ w3, Ext B [] w w3 → (Pure Tryz.prog 219 #[(.int .i64 (IntKind.wrap .i64 (Int.tdiv il0 (if (-il5) > il5 then (-il5) else il5)))), (.int .i64 (10 : Int))] w3 fun r5 w6 => ∃ (s4 : ByteArray), r5 = (.string s4) ∧ (Pure Tryz.prog 219 #[(.int .i64 (il1 / (if (-il5) > il5 then (-il5) else il5))), (.int .i64 (10 : Int))] w6 fun r8 w9 => ∃ (s7 : ByteArray), r8 = (.string s7) ∧ (∀ w10, Ext B [116] w9 w10 → (R (.agg #[(.string s4), (.string s7)]) w10))))))))))) :
    rational_of.L2 il0 il1 il5 il6 slx4_0 slx4_1 B w R :=
  loop_of_run (rational_of.cx w B R) 100000 (loopAt Tryz.f196 2) _ _ follows Tryz.func196 rfl rfl rfl (Eq.mp (by kernel_rfl) h)
theorem rational_of.vc (ip0 : Int) (ip1 : Int) (w : World) (R : Value → World → Prop)
    (h : (∀ w1, Ext w.heap.size [] w w1 → (rational_of.L2 ip0 ip1 ip0 ip1 (⟨#[]⟩ : ByteArray) (⟨#[]⟩ : ByteArray) w.heap.size w1 R))) :
    Pure Tryz.prog 196 #[(.int .i64 ip0), (.int .i64 ip1)] w R :=
  pure_of_run (rational_of.cx w w.heap.size R) 100000 follows Tryz.func196 rfl rfl rfl rfl rfl rfl rfl (Eq.mp (by kernel_rfl) h)

noncomputable def rational_lowest.cx (w : World) (B : Nat) (R : Value → World → Prop) : Cx := ⟨Tryz.prog, 198, 28, Tryz.f198.results.toList, [], [], w, B, R⟩
theorem rational_lowest.vc (sp0 : ByteArray) (sp1 : ByteArray) (w : World) (R : Value → World → Prop)
    (h : (∀ w1, Ext w.heap.size [] w w1 → (Pure Tryz.prog 115 #[(.string sp0), (.string sp1)] w1 fun r3 w4 => ∃ (s2 : ByteArray), r3 = (.string s2) ∧ (((s2 ≠ (⟨#[49]⟩ : ByteArray)) → (Pure Tryz.prog 220 #[(.string sp0), (.string s2)] w4 fun r8 w9 => ∃ (s5 : ByteArray) (s6 : ByteArray) (i7 : Int), r8 = (.tuple #[(.string s5), (.string s6), (.int .i64 i7)]) ∧ (Pure Tryz.prog 221 #[(.string sp1), (.string s2)] w9 fun r13 w14 => ∃ (s10 : ByteArray) (s11 : ByteArray) (i12 : Int), r13 = (.tuple #[(.string s10), (.string s11), (.int .i64 i12)]) ∧ (∀ w15, Ext w.heap.size [116] w14 w15 → (R (.agg #[(.string s5), (.string s10)]) w15))))) ∧ (¬ (s2 ≠ (⟨#[49]⟩ : ByteArray)) → (∀ w16, Ext w.heap.size [116] w4 w16 → (R (.agg #[(.string sp0), (.string sp1)]) w16))))))) :
    Pure Tryz.prog 198 #[(.string sp0), (.string sp1)] w R :=
  pure_of_run (rational_lowest.cx w w.heap.size R) 100000 follows Tryz.func198 rfl rfl rfl rfl rfl rfl rfl (Eq.mp (by kernel_rfl) h)

end Go.Proofs.YtdoailkigecmkaaGreatDoor.F

namespace Go.Proofs.YtdoailkigecmkaaGreatDoor.B
open Go Go.RowKit Go.Proofs Go.Proofs.YtdoailkigecmkaaGreatDoor.Vc

theorem index_slash (l : Tx) : (47 ∈ l → 0 ≤ Lib.index l [47] ∧ l.take (Lib.index l [47]).toNat = bef l ∧ l.drop ((Lib.index l [47]).toNat + 1) = aft l) ∧ (47 ∉ l → Lib.index l [47] = -1) := by
  induction l with
  | nil => simp [Lib.index]
  | cons b r ih =>
    by_cases h : b = 47
    · subst h
      have e : Lib.index (47 :: r) [47] = 0 := by simp [Lib.index]
      rw [e]
      simp [bef, aft]
    · have h2 : (47 == b) = false := by simpa using fun k => h k.symm
      have e : Lib.index (b :: r) [47] = if Lib.index r [47] == -1 then -1 else Lib.index r [47] + 1 := by
        rw [Lib.index]
        simp [List.isPrefixOf, h2]
      constructor
      · intro hm
        have hr : 47 ∈ r := by
          rcases List.mem_cons.1 hm with k | k
          · exact absurd k.symm h
          · exact k
        obtain ⟨h0, h1, h3⟩ := ih.1 hr
        have hne : ¬ (Lib.index r [47] == -1) = true := by simp; omega
        rw [e, if_neg hne]
        obtain ⟨m, hm2⟩ : ∃ m : Nat, Lib.index r [47] = m := ⟨(Lib.index r [47]).toNat, by omega⟩
        rw [hm2] at h1 h3 ⊢
        have e2 : ((m : Int) + 1).toNat = m + 1 := by omega
        rw [e2]
        simp only [Int.toNat_natCast] at h1 h3
        refine ⟨by omega, ?_, ?_⟩
        · simp [bef, h, h1]
        · simp [aft, h, h3]
      · intro hm
        have hr : 47 ∉ r := fun k => hm (List.mem_cons_of_mem _ k)
        rw [e, ih.2 hr]
        rfl
theorem CutSlash {w : World} (hg : Glob w) (s : ByteArray) (hs : s.size < 2147483648) :
    Pure Tryz.prog 112 #[.string s, .string ⟨#[47]⟩] w fun v _ =>
      (47 ∈ by_ s → v = .tuple #[.string (st (bef (by_ s))), .string (st (aft (by_ s))), .bool true]) ∧ (47 ∉ by_ s → v = .tuple #[.string s, .string (st []), .bool false]) := by
  obtain ⟨m, hm⟩ := hg.mx
  refine Calls.mono (Tryz.strings_Cut s ⟨#[47]⟩ m w (by omega) hm) ?_
  rintro e w' ⟨rfl, n, rfl⟩
  refine ⟨_, rfl, ?_, ?_, ?_⟩
  · exact ⟨rfl, rfl, rfl, Nat.le_refl _, fun _ _ => rfl⟩
  · intro h
    obtain ⟨h0, h1, h2⟩ := (index_slash (by_ s)).1 h
    have e : Lib.cut s.data.toList [47] = (bef (by_ s), aft (by_ s), true) := by
      show Lib.cut (by_ s) [47] = _
      unfold Lib.cut
      rw [if_pos h0]
      simp only [List.length_singleton]
      rw [h1, h2]
    show Value.tuple #[.string ⟨(Lib.cut s.data.toList [47]).1.toArray⟩, .string ⟨(Lib.cut s.data.toList [47]).2.1.toArray⟩, .bool (Lib.cut s.data.toList [47]).2.2] = _
    rw [e]
    rfl
  · intro h
    have h0 := (index_slash (by_ s)).2 h
    have e : Lib.cut s.data.toList [47] = (by_ s, [], false) := by
      show Lib.cut (by_ s) [47] = _
      unfold Lib.cut
      rw [h0, if_neg (by omega)]
    show Value.tuple #[.string ⟨(Lib.cut s.data.toList [47]).1.toArray⟩, .string ⟨(Lib.cut s.data.toList [47]).2.1.toArray⟩, .bool (Lib.cut s.data.toList [47]).2.2] = _
    rw [e]
    rfl
theorem FormatInt10 {w : World} (hg : Glob w) (z : Int) (h0 : -9223372036854775808 ≤ z) (h1 : z ≤ 9223372036854775807) :
    Pure Tryz.prog 219 #[.int .i64 z, .int .i64 10] w fun v _ => v = .string (iS z) := by
  refine Calls.mono (Tryz.strconv_FormatInt_10 z h0 h1 w hg.tab) ?_
  rintro e w' ⟨rfl, k, os, rfl⟩
  exact ⟨_, rfl, below_growN _ _ _, rfl⟩
theorem Itoa10 {w : World} (hg : Glob w) (z : Int) (h0 : -9223372036854775808 ≤ z) (h1 : z ≤ 9223372036854775807) :
    Pure Tryz.prog 117 #[.int .i64 z] w fun v _ => v = .string (iS z) := by
  refine Calls.mono (Tryz.strconv_Itoa z h0 h1 w hg.tab) ?_
  rintro e w' ⟨rfl, k, os, rfl⟩
  exact ⟨_, rfl, below_growN _ _ _, rfl⟩
theorem parse_nat {n : Nat} (h : n < 9223372036854775808) : Lib.parseUintB 64 (natT n) = .ok n := by
  have := parseUintB_ok (B := 64) (l := natT n) (by omega) (natT_ne n) (natT_all n) (by rw [natT_val]; omega)
  rwa [natT_val] at this
theorem parse_int {z : Int} (h : z.natAbs < 9223372036854775808) : Lib.parseIntB 64 (intT z) = .ok z := by
  have hp := parse_nat h
  rw [intT_eq]
  split
  · rename_i hz
    rw [Lib.parseIntB_minus, hp]
    simp only [Lib.signedC]
    rw [if_neg (by omega)]
    congr 1
    omega
  · rename_i hz
    have hd := natT_all z.natAbs
    cases hc : natT z.natAbs with
    | nil => exact absurd hc (natT_ne _)
    | cons c r =>
      rw [hc] at hp hd
      simp only [List.all_cons, Bool.and_eq_true] at hd
      have := hd.1
      simp only [dig, Bool.and_eq_true, decide_eq_true_eq] at this
      rw [Lib.parseIntB_plain 64 c r (by omega) (by omega), hp]
      simp only [Lib.signlessC]
      rw [if_neg (by omega)]
      congr 1
      omega
theorem ParseInt10 (z : Int) (h : z.natAbs < 9223372036854775808) (w : World) :
    Pure Tryz.prog 218 #[.string (iS z), .int .i64 10, .int .i64 64] w fun v _ => v = .tuple #[.int .i64 z, .nilIface] := by
  have hl : (iS z).size ≤ 9223372036854775806 := by
    have := intT_length_le (z := z) (k := 19) (by omega) (by omega)
    show (intT z).length ≤ _
    omega
  refine Calls.mono (Tryz.strconv_ParseInt_10_at64_ok (iS z) hl z (parse_int h) w) ?_
  rintro e w' ⟨rfl, hw⟩
  refine ⟨_, rfl, ?_, rfl⟩
  rcases hw with rfl | ⟨t, rfl⟩
  · exact Below.refl _ _
  · exact below_of_uint (.inr rfl)

abbrev fV (r : Rat) : Value := .agg #[.string (iS r.num), .string (nS r.den)]
abbrev Big (r : Rat) : Prop := Sm 100000 r
theorem Sm.nlim {k : Nat} {r : Rat} (h : Sm k r) (hk : k ≤ 900000) : r.num.natAbs < Lim := lt_lim h.1 hk
theorem Sm.dlim {k : Nat} {r : Rat} (h : Sm k r) (hk : k ≤ 900000) : r.den < Lim := lt_lim h.2 hk

theorem rational_divisor {w : World} {z : Int} {d : Nat} (hg : Glob w) (hz : z.natAbs < Lim) (hd : d < Lim) :
    Pure Tryz.prog 115 #[.string (iS z), .string (nS d)] w fun v _ => v = .string (nS (Nat.gcd z.natAbs d)) := by
  refine F.rational_divisor.vc _ _ _ _ (Pure.mono (integer_Abs hz w) ?_)
  rintro v w2 hb rfl
  refine ⟨_, _, rfl, Pure.mono (natural_GCD (hg.next hb) hz hd) ?_⟩
  rintro v w3 _ rfl
  exact ⟨_, _, rfl, rfl⟩

theorem rational_lowest {w : World} {z : Int} {d : Nat} (hg : Glob w) (hz : z.natAbs < Lim) (hd : d < Lim) (hd0 : d ≠ 0) :
    Pure Tryz.prog 198 #[.string (iS z), .string (nS d)] w fun v _ => v = fV (mkRat z d) := by
  obtain ⟨e1, e2⟩ := mkRat_red (p := z) hd0
  obtain ⟨g, hgd⟩ : ∃ g, g = Nat.gcd z.natAbs d := ⟨_, rfl⟩
  have hgp : g ≠ 0 := by rw [hgd]; intro k; exact hd0 (Nat.eq_zero_of_gcd_eq_zero_right k)
  have hgl : g ≤ d := by rw [hgd]; exact Nat.le_of_dvd (by omega) (Nat.gcd_dvd_right _ _)
  rw [← hgd] at e1 e2
  refine F.rational_lowest.vc _ _ _ _ fun w1 x1 => Pure.mono (rational_divisor (hg.next (k0 x1)) hz hd) ?_
  rintro v w2 hb2 rfl
  have hb := kP (k0 x1) hb2
  rw [← hgd]
  refine ⟨_, rfl, fun h => Pure.mono (integer_DivMod (hg.next hb) hz (by omega) hgp) ?_, fun h w3 _ => ?_⟩
  · rintro v w3 hb3 rfl
    refine ⟨_, _, _, rfl, Pure.mono (natural_DivMod (hg.next (kP hb hb3)) hd (by omega) hgp) ?_⟩
    rintro v w4 _ rfl
    refine ⟨_, _, _, rfl, fun w5 _ => ?_⟩
    rw [← e1, ← e2]
  · have h1 : g = 1 := by
      apply Decidable.byContradiction
      intro k
      rw [nS_1] at h
      exact h fun e => k (nS_inj e)
    rw [h1] at e1 e2
    simp only [Int.natCast_one, Int.ediv_one, Nat.div_one] at e1 e2
    show _ = fV _
    unfold fV
    rw [e1, e2]

theorem rational_read {w : World} (hg : Glob w) (s : ByteArray) (hs : s.size ≤ 800000) :
    Pure Tryz.prog 89 #[.string s] w fun v _ => ∃ p q, v = .tuple #[.agg #[.string p, .string q], .bool (isRat (by_ s))] ∧ (isRat (by_ s) = true → p = iS (valR (by_ s)).num ∧ q = nS (valR (by_ s)).den) := by
  refine F.rational_read.vc _ _ _ fun w1 x1 => Pure.mono (CutSlash (hg.next (k0 x1)) s (by omega)) ?_
  rintro v w2 hb2 ⟨hv1, hv2⟩
  have hb := kP (k0 x1) hb2
  by_cases h47 : 47 ∈ by_ s
  · have hv := hv1 h47
    subst hv
    obtain ⟨e0, hnb⟩ := cut_eq h47
    have hle : (bef (by_ s)).length + (aft (by_ s)).length + 1 = s.size := by
      have := congrArg List.length e0
      rw [size_by]
      simp at this
      omega
    have hlp : (st (bef (by_ s))).size = (bef (by_ s)).length := rfl
    have hlq : (st (aft (by_ s))).size = (aft (by_ s)).length := rfl
    have fin : ∀ (b : Bool), b = isRat (by_ s) → ∃ p q, Value.tuple #[.agg #[.string (st (bef (by_ s))), .string (st (aft (by_ s)))], .bool b] = Value.tuple #[.agg #[.string p, .string q], .bool (isRat (by_ s))] ∧ (isRat (by_ s) = true → p = iS (valR (by_ s)).num ∧ q = nS (valR (by_ s)).den) := by
      intro b hbb
      refine ⟨_, _, by rw [hbb], fun hi => ?_⟩
      have e := ratT_of hi
      obtain ⟨r, hr⟩ : ∃ r, r = valR (by_ s) := ⟨_, rfl⟩
      rw [← hr] at e ⊢
      rw [← e] at h47 ⊢
      unfold ratT at h47 ⊢
      split at h47
      · exact absurd h47 (not47_int _)
      · rename_i hden
        rw [if_neg hden, bef_app (not47_int _), aft_app (not47_int _)]
        exact ⟨rfl, rfl⟩
    have hrat : isRat (by_ s) = (isInt (bef (by_ s)) && bef (by_ s) != [48] && isNat (aft (by_ s)) && aft (by_ s) != [48] && aft (by_ s) != [49] && Nat.gcd (valI (bef (by_ s))).natAbs (valD (aft (by_ s))) == 1) := by
      unfold isRat
      rw [if_pos h47]
    have ne48 : ∀ l : Tx, st l ≠ (⟨#[48]⟩ : ByteArray) ↔ l ≠ [48] := fun l => ⟨fun h k => h (by rw [k]; rfl), fun h k => h (st_inj (k.trans rfl : st l = st [48]))⟩
    have ne49 : ∀ l : Tx, st l ≠ (⟨#[49]⟩ : ByteArray) ↔ l ≠ [49] := fun l => ⟨fun h k => h (by rw [k]; rfl), fun h k => h (st_inj (k.trans rfl : st l = st [49]))⟩
    refine ⟨_, _, _, rfl, fun h => (by cases h), fun _ => Pure.mono (integer_Valid _ (by omega) _) ?_⟩
    rintro v w3 hb3 rfl
    rw [by_st]
    refine ⟨_, rfl, fun h1 => ⟨fun h2 => Pure.mono (natural_Valid _ (by omega) _) ?_, fun h2 w4 _ => fin _ ?_⟩, fun h1 w4 _ => fin _ ?_⟩
    · rintro v w4 hb4 rfl
      rw [by_st]
      rw [ne48] at h2
      refine ⟨_, rfl, fun h3 => ⟨fun h4 => ⟨fun h5 => ?_, fun h5 w5 _ => fin _ ?_⟩, fun h4 w5 _ => fin _ ?_⟩, fun h3 w5 _ => fin _ ?_⟩
      · rw [ne48] at h4
        rw [ne49] at h5
        have ep : st (bef (by_ s)) = iS (valI (bef (by_ s))) := by unfold iS; rw [intT_of h1]
        have eq : st (aft (by_ s)) = nS (valD (aft (by_ s))) := by unfold nS; rw [natT_of h3]
        have lp : (valI (bef (by_ s))).natAbs < Lim := by
          have := lt_intT (valI (bef (by_ s)))
          rw [intT_of h1] at this
          exact lt_lim this (by omega)
        have lq : valD (aft (by_ s)) < Lim := by
          have := lt_natT (valD (aft (by_ s)))
          rw [natT_of h3] at this
          exact lt_lim this (by omega)
        have hc := rational_divisor (hg.next (kP (kP hb hb3) hb4)) lp lq
        rw [← ep, ← eq] at hc
        refine Pure.mono hc ?_
        rintro v w5 _ rfl
        refine ⟨_, rfl, fun w6 _ => fin _ ?_⟩
        rw [hrat, h1, h3, nS_1]
        have a2 : (bef (by_ s) != [48]) = true := by simpa using h2
        have a4 : (aft (by_ s) != [48]) = true := by simpa using h4
        have a5 : (aft (by_ s) != [49]) = true := by simpa using h5
        rw [a2, a4, a5]
        simp only [Bool.true_and, nS_iff]
        rfl
      · have : aft (by_ s) = [49] := by apply Decidable.byContradiction; intro k; exact h5 ((ne49 _).2 k)
        rw [hrat, this]; simp
      · have : aft (by_ s) = [48] := by apply Decidable.byContradiction; intro k; exact h4 ((ne48 _).2 k)
        rw [hrat, this]; simp
      · rw [hrat, h3]; simp
    · have : bef (by_ s) = [48] := by apply Decidable.byContradiction; intro k; exact h2 ((ne48 _).2 k)
      rw [hrat, this]; simp
    · rw [hrat, h1]; simp
  · have hv := hv2 h47
    subst hv
    have hrat : isRat (by_ s) = isInt (by_ s) := by unfold isRat; rw [if_neg h47]
    refine ⟨_, _, _, rfl, fun _ => Pure.mono (integer_Valid _ (by omega) _) ?_, fun h => by simp at h⟩
    rintro v w3 hb3 rfl
    refine ⟨_, rfl, fun w4 _ => ⟨_, _, by rw [hrat], fun hi => ?_⟩⟩
    have hv : valR (by_ s) = (valI (by_ s) : Rat) := by unfold valR; rw [if_neg h47]
    rw [hrat] at hi
    have e1 : ((valI (by_ s) : Rat)).num = valI (by_ s) := rfl
    have e2 : ((valI (by_ s) : Rat)).den = 1 := rfl
    rw [hv, e1, e2]
    refine ⟨?_, nS_1⟩
    unfold iS
    rw [intT_of hi]
    rfl

theorem Big.size {r : Rat} (h : Big r) : (rS r).size ≤ 800000 := by
  have := h.length (by omega)
  show (ratT r).length ≤ _
  omega
theorem rational_read_ok {w : World} {r : Rat} (hg : Glob w) (h : Big r) : Pure Tryz.prog 89 #[.string (rS r)] w fun v _ => v = .tuple #[fV r, .bool true] := by
  refine Pure.mono (rational_read hg _ h.size) ?_
  rintro v w2 _ ⟨p, q, rfl, hv⟩
  rw [by_rS, ratT_isRat, ratT_val] at *
  obtain ⟨rfl, rfl⟩ := hv rfl
  rfl
theorem rational_Valid {w : World} (hg : Glob w) (s : ByteArray) (hs : s.size ≤ 800000) : Pure Tryz.prog 47 #[.string s] w fun v _ => v = .bool (isRat (by_ s)) := by
  refine F.rational_Valid.vc _ _ _ (Pure.mono (rational_read hg s hs) ?_)
  rintro v w2 _ ⟨p, q, rfl, _⟩
  exact ⟨_, _, _, rfl, fun w3 _ => rfl⟩
theorem rational_both {w : World} {x y : Rat} (hg : Glob w) (hx : Big x) (hy : Big y) :
    Pure Tryz.prog 120 #[.string (rS x), .string (rS y)] w fun v _ => v = .tuple #[fV x, fV y, .int .i64 0] := by
  refine F.rational_both.vc _ _ _ _ fun w1 x1 => Pure.mono (rational_read_ok (hg.next (k0 x1)) hx) ?_
  rintro v w2 hb2 rfl
  refine ⟨_, _, _, rfl, fun w3 x3 => Pure.mono (rational_read_ok (hg.next (kE (kP (k0 x1) hb2) x3)) hy) ?_⟩
  rintro v w4 _ rfl
  exact ⟨_, _, _, rfl, fun h => (by simp at h), fun _ => ⟨fun h => (by simp at h), fun _ => ⟨fun w5 _ => rfl, fun w5 _ => rfl⟩⟩⟩

theorem rational_text {r : Rat} (h : Sm 300000 r) (w : World) : Pure Tryz.prog 134 #[fV r] w fun v _ => v = .string (rS r) := by
  have l1 : (iS r.num).size ≤ 300001 := h.int (by omega)
  have l2 : (nS r.den).size ≤ 300000 := h.nat (by omega)
  refine F.rational_frac_text.vc _ _ _ _ ⟨fun h1 w1 _ => ?_, fun h1 => ⟨?_, ?_, fun w1 _ => ?_⟩⟩
  · rw [nS_1] at h1
    have := nS_inj h1
    unfold rS ratT
    rw [if_pos this]; rfl
  · show _ + 1 ≤ _
    omega
  · rw [ByteArray.size_append]
    show _ + 1 + _ ≤ _
    omega
  · rw [nS_1] at h1
    have h2 : r.den ≠ 1 := fun k => h1 (by rw [k])
    have e : rS r = st (intT r.num ++ 47 :: natT r.den) := by unfold rS ratT; rw [if_neg h2]
    rw [e]
    congr 1
    apply by_inj
    simp [by_, st, iS, nS, ByteArray.data_append]

theorem rational_sign {r : Rat} (h : Big r) (w : World) : Pure Tryz.prog 121 #[fV r] w fun v _ => v = .int .i64 (cmpR r 0) := by
  refine F.rational_frac_sign.vc _ _ _ _ fun w1 _ => Pure.mono (integer_Sign (h.nlim (by omega)) _) ?_
  rintro v w2 _ rfl
  refine ⟨_, _, rfl, ?_⟩
  rw [num_sign]
theorem rational_opposite {r : Rat} (h : Big r) (w : World) : Pure Tryz.prog 172 #[fV r] w fun v _ => v = fV (-r) := by
  refine F.rational_opposite.vc _ _ _ _ fun w1 _ => Pure.mono (integer_Neg (h.nlim (by omega)) _) ?_
  rintro v w2 _ rfl
  exact ⟨_, _, rfl, fun w3 _ => rfl⟩
end Go.Proofs.YtdoailkigecmkaaGreatDoor.B

namespace Go.Proofs.YtdoailkigecmkaaGreatDoor.B
open Go Go.RowKit Go.Proofs Go.Proofs.YtdoailkigecmkaaGreatDoor.Vc

theorem rational_little {r : Rat} (h : Big r) (w : World) :
    Pure Tryz.prog 195 #[fV r] w fun v _ => v = .tuple #[.int .i64 0, .int .i64 0, .bool false] ∨ (v = .tuple #[.int .i64 r.num, .int .i64 (r.den : Int), .bool true] ∧ r.num.natAbs < 1000000000 ∧ r.den < 1000000000) := by
  refine F.rational_frac_little.vc _ _ _ _ ⟨fun _ w1 _ => .inl rfl, fun h1 => ⟨fun _ w1 _ => .inl rfl, fun h2 w1 _ => ?_⟩⟩
  have l1 := lt_intT r.num
  have l2 := lt_natT r.den
  have e1 : (iS r.num).size = (intT r.num).length := rfl
  have e2 : (nS r.den).size = (natT r.den).length := rfl
  have p1 : 10 ^ (intT r.num).length ≤ 10 ^ 9 := Nat.pow_le_pow_right (by omega) (by omega)
  have p2 : 10 ^ (natT r.den).length ≤ 10 ^ 9 := Nat.pow_le_pow_right (by omega) (by omega)
  refine Pure.mono (ParseInt10 r.num (by omega) _) ?_
  rintro v w2 _ rfl
  refine ⟨_, _, rfl, ?_⟩
  rw [← iS_nat]
  refine Pure.mono (ParseInt10 (r.den : Int) (by omega) _) ?_
  rintro v w3 _ rfl
  exact ⟨_, _, rfl, .inr ⟨rfl, by omega, by omega⟩⟩

theorem of_L2 {w0 : World} (hg : Glob w0) {p : Int} {q : Nat} {R : Value → World → Prop} (hp : p.natAbs < 9000000000000000000) (hq0 : q ≠ 0) (hq : q < 9000000000000000000) (hR : ∀ w, R (fV (mkRat p q)) w) :
    ∀ (n : Nat) (b a : Int) (s t : ByteArray) (w : World), b.natAbs ≤ n → Below w0.heap.size w0 w → Nat.gcd a.natAbs b.natAbs = Nat.gcd p.natAbs q → a.natAbs < 9000000000000000000 → b.natAbs < 9000000000000000000 → F.rational_of.L2 p q a b s t w0.heap.size w R := by
  obtain ⟨e1, e2⟩ := mkRat_red (p := p) hq0
  obtain ⟨g, hgd⟩ : ∃ g, g = Nat.gcd p.natAbs q := ⟨_, rfl⟩
  have hgp : g ≠ 0 := by rw [hgd]; intro k; exact hq0 (Nat.eq_zero_of_gcd_eq_zero_right k)
  have hdv : (g : Int) ∣ p := by rw [hgd]; exact Int.ofNat_dvd_left.2 (Nat.gcd_dvd_left _ _)
  rw [← hgd] at e1 e2 ⊢
  intro n
  induction n with
  | zero =>
    intro b a s t w hb hbw hgc ha hbl
    have hb0 : b = 0 := by omega
    subst hb0
    rw [Int.natAbs_zero, Nat.gcd_zero_right] at hgc
    refine F.rational_of.L2.step _ _ _ _ _ _ _ _ _ ⟨fun h => absurd rfl h, fun _ => ?_⟩
    have eg : (if (-a) > a then (-a) else a) = (g : Int) := by split <;> omega
    rw [eg]
    have hq1 : (p / (g : Int)).natAbs ≤ p.natAbs := Int.natAbs_ediv_le_natAbs _ _
    have hq2 := Nat.div_le_self q g
    have et : Int.tdiv p (g : Int) = p / (g : Int) := Int.tdiv_eq_ediv_of_dvd hdv
    have ew : IntKind.wrap .i64 (Int.tdiv p (g : Int)) = p / (g : Int) := by rw [et]; exact wrap64 (by simp only [inR]; omega)
    refine ⟨by simp only [inR]; omega, by omega, ⟨by omega, by omega, by simp only [inR]; omega⟩, fun w1 x1 => ?_⟩
    rw [ew]
    have hb1 := kE hbw x1
    refine Pure.mono (FormatInt10 (hg.next hb1) _ (by omega) (by omega)) ?_
    rintro v w2 hb2 rfl
    have ed : (q : Int) / (g : Int) = ((q / g : Nat) : Int) := by simp
    refine ⟨_, rfl, ?_⟩
    rw [ed]
    refine Pure.mono (FormatInt10 (hg.next (kP hb1 hb2)) _ (by omega) (by omega)) ?_
    rintro v w3 _ rfl
    refine ⟨_, rfl, fun w4 _ => ?_⟩
    have := hR w4
    rw [iS_nat, ← e1, ← e2]
    exact this
  | succ n ih =>
    intro b a s t w hb hbw hgc ha hbl
    by_cases hb0 : b = 0
    · exact ih b a s t w (by omega) hbw hgc ha hbl
    refine F.rational_of.L2.step _ _ _ _ _ _ _ _ _ ⟨fun _ => ⟨hb0, fun w1 x1 => ?_⟩, fun h => absurd hb0 h⟩
    have hml := Nat.mod_lt a.natAbs (show 0 < b.natAbs by omega)
    have etm : (Int.tmod a b).natAbs = a.natAbs % b.natAbs := Int.natAbs_tmod _ _
    have hgc2 : Nat.gcd b.natAbs (a.natAbs % b.natAbs) = g := by rw [Nat.gcd_comm, ← Nat.gcd_rec, Nat.gcd_comm]; exact hgc
    exact ih (Int.tmod a b) b s t w1 (by omega) (kE hbw x1) (by rw [etm]; exact hgc2) hbl (by omega)

theorem rational_of {w : World} (hg : Glob w) {p : Int} {q : Nat} (hp : p.natAbs < 9000000000000000000) (hq0 : q ≠ 0) (hq : q < 9000000000000000000) :
    Pure Tryz.prog 196 #[.int .i64 p, .int .i64 (q : Int)] w fun v _ => v = fV (mkRat p q) :=
  F.rational_of.vc _ _ _ _ fun w1 x1 => of_L2 hg hp hq0 hq (fun _ => rfl) _ (q : Int) p _ _ w1 (Nat.le_refl _) (k0 x1) (by simp) hp (by simpa using hq)

theorem mul9 {a b : Nat} (ha : a < 1000000000) (hb : b < 1000000000) : a * b < 1000000000000000000 := Nat.mul_lt_mul'' ha hb
theorem abs_mul9 {a b : Int} (ha : a.natAbs < 1000000000) (hb : b.natAbs < 1000000000) : (a * b).natAbs < 1000000000000000000 := by
  rw [Int.natAbs_mul]
  exact mul9 ha hb

theorem rational_plus {w : World} {x y : Rat} (hg : Glob w) (hx : Big x) (hy : Big y) :
    Pure Tryz.prog 169 #[fV x, fV y] w fun v _ => v = fV (x + y) := by
  have ex := Rat.add_def' x y
  have hd0 := den_mul_ne x y
  have n1 := mul_lt_pow hx.1 hy.2
  have n2 := mul_lt_pow hy.1 hx.2
  have a1 : (x.num * (y.den : Int)).natAbs = x.num.natAbs * y.den := by rw [Int.natAbs_mul, Int.natAbs_natCast]
  have a2 : (y.num * (x.den : Int)).natAbs = y.num.natAbs * x.den := by rw [Int.natAbs_mul, Int.natAbs_natCast]
  have m1 : (x.num * (y.den : Int)).natAbs < Lim := by rw [a1]; exact lt_lim n1 (by omega)
  have m2 : (y.num * (x.den : Int)).natAbs < Lim := by rw [a2]; exact lt_lim n2 (by omega)
  have m3 : (x.num * (y.den : Int) + y.num * (x.den : Int)).natAbs < Lim := lt_lim (add_num_lt hx hy) (by omega)
  have m4 : x.den * y.den < Lim := lt_lim (den_mul_lt hx hy) (by omega)
  have long : ∀ w', Below w.heap.size w w' → Pure Tryz.prog 122 #[.string (iS x.num), .string (nS y.den)] w' fun r w41 => ∃ (s38 : ByteArray) (i39 : Int), r = (.tuple #[(.string s38), (.int .i64 i39)]) ∧ (Pure Tryz.prog 122 #[(.string (iS y.num)), (.string (nS x.den))] w41 fun r44 w45 => ∃ (s42 : ByteArray) (i43 : Int), r44 = (.tuple #[(.string s42), (.int .i64 i43)]) ∧ (Pure Tryz.prog 197 #[(.string s38), (.string s42)] w45 fun r48 w49 => ∃ (s46 : ByteArray) (i47 : Int), r48 = (.tuple #[(.string s46), (.int .i64 i47)]) ∧ (Pure Tryz.prog 154 #[(.string (nS x.den)), (.string (nS y.den))] w49 fun r52 w53 => ∃ (s50 : ByteArray) (i51 : Int), r52 = (.tuple #[(.string s50), (.int .i64 i51)]) ∧ (Pure Tryz.prog 198 #[(.string s46), (.string s50)] w53 fun r56 w57 => ∃ (s54 : ByteArray) (s55 : ByteArray), r56 = (.agg #[(.string s54), (.string s55)]) ∧ (∀ w58, Ext w.heap.size [116] w57 w58 → (Value.agg #[(.string s54), (.string s55)] = fV (x + y))))))) := by
    intro w1 hb1
    rw [← iS_nat y.den]
    refine Pure.mono (integer_Mul (hg.next hb1) (hx.nlim (by omega)) (by rw [Int.natAbs_natCast]; exact hy.dlim (by omega)) m1) ?_
    rintro v w2 k2 rfl
    have hb2 := kP hb1 k2
    refine ⟨_, _, rfl, ?_⟩
    rw [← iS_nat x.den]
    refine Pure.mono (integer_Mul (hg.next hb2) (hy.nlim (by omega)) (by rw [Int.natAbs_natCast]; exact hx.dlim (by omega)) m2) ?_
    rintro v w3 k3 rfl
    have hb3 := kP hb2 k3
    refine ⟨_, _, rfl, Pure.mono (integer_Add (hg.next hb3) m1 m2 m3) ?_⟩
    rintro v w4 k4 rfl
    have hb4 := kP hb3 k4
    refine ⟨_, _, rfl, ?_⟩
    rw [iS_nat, iS_nat]
    refine Pure.mono (natural_Mul (hg.next hb4) (hx.dlim (by omega)) (hy.dlim (by omega))) ?_
    rintro v w5 k5 rfl
    have hb5 := kP hb4 k5
    refine ⟨_, _, rfl, Pure.mono (rational_lowest (hg.next hb5) m3 m4 hd0) ?_⟩
    rintro v w6 k6 rfl
    refine ⟨_, _, rfl, fun w7 _ => ?_⟩
    rw [← ex]
  refine F.rational_plus.vc _ _ _ _ _ _ fun w1 x1 => Pure.mono (rational_little hx _) ?_
  rintro v w2 k2 hv
  have hb2 := kP (k0 x1) k2
  rcases hv with rfl | ⟨rfl, p1, p2⟩
  · refine ⟨_, _, _, rfl, Pure.mono (rational_little hy _) ?_⟩
    rintro v w3 k3 hv
    have hb3 := kP hb2 k3
    rcases hv with rfl | ⟨rfl, _⟩
    · exact ⟨_, _, _, rfl, fun h => (by cases h), fun _ => long w3 hb3⟩
    · exact ⟨_, _, _, rfl, fun h => (by cases h), fun _ => long w3 hb3⟩
  · refine ⟨_, _, _, rfl, Pure.mono (rational_little hy _) ?_⟩
    rintro v w3 k3 hv
    have hb3 := kP hb2 k3
    rcases hv with rfl | ⟨rfl, q1, q2⟩
    · exact ⟨_, _, _, rfl, fun _ => ⟨fun h => (by cases h), fun _ => long w3 hb3⟩, fun h => (by cases h)⟩
    · have b1 := mul9 p1 q2
      have b2 := mul9 q1 p2
      have b3 := mul9 p2 q2
      have e3 : (x.den : Int) * (y.den : Int) = ((x.den * y.den : Nat) : Int) := by simp
      refine ⟨_, _, _, rfl, fun _ => ⟨fun _ => ⟨by simp only [inR]; omega, by simp only [inR]; omega, by simp only [inR]; omega, by rw [e3]; simp only [inR]; omega, ?_⟩, fun h => (by cases h)⟩, fun h => (by cases h)⟩
      rw [e3]
      refine Pure.mono (rational_of (hg.next hb3) (by omega) hd0 (by omega)) ?_
      rintro v w4 _ rfl
      refine ⟨_, _, rfl, fun w5 _ => ?_⟩
      rw [← ex]

theorem rational_times {w : World} {x y : Rat} (hg : Glob w) (hx : Big x) (hy : Big y) :
    Pure Tryz.prog 170 #[fV x, fV y] w fun v _ => v = fV (x * y) := by
  have ex := Rat.mul_def' x y
  have hd0 := den_mul_ne x y
  have a1 : (x.num * y.num).natAbs = x.num.natAbs * y.num.natAbs := Int.natAbs_mul _ _
  have m1 : (x.num * y.num).natAbs < Lim := by rw [a1]; exact lt_lim (mul_lt_pow hx.1 hy.1) (by omega)
  have m4 : x.den * y.den < Lim := lt_lim (den_mul_lt hx hy) (by omega)
  have long : ∀ w', Below w.heap.size w w' → Pure Tryz.prog 122 #[.string (iS x.num), .string (iS y.num)] w' fun r w41 => ∃ (s38 : ByteArray) (i39 : Int), r = (.tuple #[(.string s38), (.int .i64 i39)]) ∧ (Pure Tryz.prog 154 #[(.string (nS x.den)), (.string (nS y.den))] w41 fun r52 w53 => ∃ (s50 : ByteArray) (i51 : Int), r52 = (.tuple #[(.string s50), (.int .i64 i51)]) ∧ (Pure Tryz.prog 198 #[(.string s38), (.string s50)] w53 fun r56 w57 => ∃ (s54 : ByteArray) (s55 : ByteArray), r56 = (.agg #[(.string s54), (.string s55)]) ∧ (∀ w58, Ext w.heap.size [116] w57 w58 → (Value.agg #[(.string s54), (.string s55)] = fV (x * y))))) := by
    intro w1 hb1
    refine Pure.mono (integer_Mul (hg.next hb1) (hx.nlim (by omega)) (hy.nlim (by omega)) m1) ?_
    rintro v w4 k4 rfl
    have hb4 := kP hb1 k4
    refine ⟨_, _, rfl, Pure.mono (natural_Mul (hg.next hb4) (hx.dlim (by omega)) (hy.dlim (by omega))) ?_⟩
    rintro v w5 k5 rfl
    have hb5 := kP hb4 k5
    refine ⟨_, _, rfl, Pure.mono (rational_lowest (hg.next hb5) m1 m4 hd0) ?_⟩
    rintro v w6 k6 rfl
    refine ⟨_, _, rfl, fun w7 _ => ?_⟩
    rw [← ex]
  refine F.rational_times.vc _ _ _ _ _ _ fun w1 x1 => Pure.mono (rational_little hx _) ?_
  rintro v w2 k2 hv
  have hb2 := kP (k0 x1) k2
  rcases hv with rfl | ⟨rfl, p1, p2⟩
  · refine ⟨_, _, _, rfl, Pure.mono (rational_little hy _) ?_⟩
    rintro v w3 k3 hv
    have hb3 := kP hb2 k3
    rcases hv with rfl | ⟨rfl, _⟩
    · exact ⟨_, _, _, rfl, fun h => (by cases h), fun _ => long w3 hb3⟩
    · exact ⟨_, _, _, rfl, fun h => (by cases h), fun _ => long w3 hb3⟩
  · refine ⟨_, _, _, rfl, Pure.mono (rational_little hy _) ?_⟩
    rintro v w3 k3 hv
    have hb3 := kP hb2 k3
    rcases hv with rfl | ⟨rfl, q1, q2⟩
    · exact ⟨_, _, _, rfl, fun _ => ⟨fun h => (by cases h), fun _ => long w3 hb3⟩, fun h => (by cases h)⟩
    · have b1 := abs_mul9 p1 q1
      have b3 := mul9 p2 q2
      have e3 : (x.den : Int) * (y.den : Int) = ((x.den * y.den : Nat) : Int) := by simp
      refine ⟨_, _, _, rfl, fun _ => ⟨fun _ => ⟨by simp only [inR]; omega, by rw [e3]; simp only [inR]; omega, ?_⟩, fun h => (by cases h)⟩, fun h => (by cases h)⟩
      rw [e3]
      refine Pure.mono (rational_of (hg.next hb3) (by omega) hd0 (by omega)) ?_
      rintro v w4 _ rfl
      refine ⟨_, _, rfl, fun w5 _ => ?_⟩
      rw [← ex]
end Go.Proofs.YtdoailkigecmkaaGreatDoor.B

namespace Go.Proofs.YtdoailkigecmkaaGreatDoor.B
open Go Go.RowKit Go.Proofs Go.Proofs.YtdoailkigecmkaaGreatDoor.Vc

theorem setMap_below {w : World} {B r : Nat} (o : Obj) (hr : B ≤ r) : Below B w { w with heap := w.heap.setIfInBounds r o } :=
  ⟨rfl, rfl, rfl, by simp, fun k hk => by simp [Array.getElem?_setIfInBounds, show r ≠ k by omega]⟩
theorem runU_map {w : World} {B r : Nat} {es : Array MapEntry} {clock : Nat} {key : Int} {val : Value} {K : World → Prop} (hb : w.heap[r]? = some (.map es clock)) (hB : B ≤ r)
    (hf : Instr.findNow (.int .u8) (.int .u8 key) es.toList 0 = some none) (hK : ∀ w', w'.heap[r]? = some (.map (es.push { key := .int .u8 key, val := val, born := clock }) (clock + 1)) → K w') :
    RunOkU Tryz.prog (Instr.mapUpdate 162 (.map (some r)) (.int .u8 key) val) B [] w K := by
  have hm := Tryz.underlying162
  have hk := Tryz.underlying5
  have hc : (Instr.checkKey false 10000 5 (.int .u8 key)).run Tryz.prog w = .ok () w := MapKept.run_checkKey hk (by simp [MapKept.IsKey]) false 9999
  refine ⟨{ w with heap := w.heap.setIfInBounds r (.map (es.push { key := .int .u8 key, val := val, born := clock }) (clock + 1)) }, ?_, setMap_below _ hB, by simp, fun k ty cs h => (by cases h), hK _ ?_⟩
  · simp [Instr.mapUpdate, run_underlying hm, MapKept.run_getObj_map hb, hc, MapKept.run_findKey hk hf, MapKept.run_setObj_map _ hb, Result.andThen]
  · have := (Array.getElem?_eq_some_iff.1 hb).1
    simp [Array.getElem?_setIfInBounds, this]

def opMap : Array MapEntry := #[{ key := .int .u8 43, val := .func (.func 169) #[] #[], born := 0 }, { key := .int .u8 42, val := .func (.func 170) #[] #[], born := 1 },
  { key := .int .u8 45, val := .func (.func 171) #[] #[], born := 2 }, { key := .int .u8 47, val := .func (.func 173) #[] #[], born := 3 }]

theorem rational_operations (w : World) : Pure Tryz.prog 150 #[] w fun v w' => ∃ r, v = .map (some r) ∧ w'.heap[r]? = some (.map opMap 4) := by
  have hg := World.grownBy_alloc w (.map #[] 0) none
  refine F.rational_operations.vc _ _ ⟨_, _, (by simp [Instr.makeMap] : (Instr.makeMap 162 none).run Tryz.prog w = .ok (.map (some w.heap.size)) (w.alloc (.map #[] 0))), below_grown hg (by simp) (Nat.le_refl _), hg.size, fun k ty cs h => (by cases h), _, rfl, ?_⟩
  refine runU_map (World.alloc_heap_new w _) (Nat.le_refl _) rfl fun w2 h2 => ?_
  refine runU_map h2 (Nat.le_refl _) rfl fun w3 h3 => ?_
  refine runU_map h3 (Nat.le_refl _) rfl fun w4 h4 => ?_
  refine runU_map h4 (Nat.le_refl _) rfl fun w5 h5 => ?_
  exact ⟨_, rfl, h5⟩
theorem rational_all (w : World) : Pure Tryz.prog 133 #[] w fun v w' => ∃ r, v = .map (some r) ∧ w'.heap[r]? = some (.map opMap 4) := by
  refine F.rational_all.vc _ _ (Pure.mono (rational_operations w) ?_)
  rintro v w2 _ h
  exact ⟨_, rfl, h⟩

theorem run_op {w : World} {r : Nat} {key : Int} {f i : Nat} (h : w.heap[r]? = some (.map opMap 4)) (hf : Instr.findNow (.int .u8) (.int .u8 key) opMap.toList 0 = some (some (i, .func (.func f) #[] #[]))) :
    (Instr.lookup 162 (.map (some r)) (.int .u8 key) false).run Tryz.prog w = .ok (.func (.func f) #[] #[]) w := by
  have hm := Tryz.underlying162
  have hk := Tryz.underlying5
  have hc : (Instr.checkKey opMap.isEmpty 10000 5 (.int .u8 key)).run Tryz.prog w = .ok () w := MapKept.run_checkKey hk (by simp [MapKept.IsKey]) _ 9999
  simp [Instr.lookup, run_underlying hm, MapKept.run_getObj_map h, hc, MapKept.run_findKey hk hf, Result.andThen]

theorem rational_minus {w : World} {x y : Rat} (hg : Glob w) (hx : Big x) (hy : Big y) :
    Pure Tryz.prog 171 #[fV x, fV y] w fun v _ => v = fV (x - y) := by
  refine F.rational_operations_c1.vc _ _ _ _ _ _ fun w1 x1 => Pure.mono (rational_opposite hy _) ?_
  rintro v w2 k2 rfl
  refine ⟨_, _, rfl, Pure.mono (rational_plus (hg.next (kP (k0 x1) k2)) hx hy.neg) ?_⟩
  rintro v w3 _ rfl
  refine ⟨_, _, rfl, fun w4 _ => ?_⟩
  rw [Rat.sub_eq_add_neg]

theorem rational_apply {w : World} {x y z : Rat} {key : Int} {f i : Nat} (hg : Glob w) (hx : Big x) (hy : Big y) (hz : Sm 300000 z) (hk : key ≠ 47) (hf : Instr.findNow (.int .u8) (.int .u8 key) opMap.toList 0 = some (some (i, .func (.func f) #[] #[])))
    (hc : callable Tryz.prog f = true) (h : ∀ w, Glob w → Pure Tryz.prog f #[fV x, fV y] w fun v _ => v = fV z) :
    Pure Tryz.prog 116 #[.int .u8 key, .string (rS x), .string (rS y)] w fun v _ => v = .tuple #[.string (rS z), .int .i64 0] := by
  refine F.rational_apply.vc _ _ _ _ _ (Pure.mono (rational_both hg hx hy) ?_)
  rintro v w2 k2 rfl
  have call : ∀ w16, Below w.heap.size w w16 → callable Tryz.prog f = true ∧ (Pure Tryz.prog f ((Array.toList (#[] : Array Value)) ++ ([(.agg #[(.string (iS x.num)), (.string (nS x.den))]), (.agg #[(.string (iS y.num)), (.string (nS y.den))])] : List Value) ++ (Array.toList (#[] : Array Value))).toArray w16 fun r19 w20 => ∃ (s17 : ByteArray) (s18 : ByteArray), r19 = (.agg #[(.string s17), (.string s18)]) ∧ (Pure Tryz.prog 134 #[(.agg #[(.string s17), (.string s18)])] w20 fun r22 w23 => ∃ (s21 : ByteArray), r22 = (.string s21) ∧ (Value.tuple #[(.string s21), (.int .i64 (0 : Int))] = .tuple #[.string (rS z), .int .i64 0]))) := by
    intro w16 hb
    refine ⟨hc, Pure.mono (h w16 (hg.next hb)) ?_⟩
    rintro v w17 _ rfl
    refine ⟨_, _, rfl, Pure.mono (rational_text hz _) ?_⟩
    rintro v w18 _ rfl
    exact ⟨_, rfl, rfl⟩
  have look : ∀ w13 r, Below w.heap.size w w13 → w13.heap[r]? = some (.map opMap 4) → ∀ tys, ∀ K : Value → World → Prop, K (.func (.func f) #[] #[]) w13 → RunOk Tryz.prog (Instr.lookup 162 (.map (some r)) (.int .u8 key) false) w.heap.size tys w13 K := by
    intro w13 r hb hr tys K hK
    exact ⟨_, _, run_op hr hf, Below.refl _ _, Nat.le_refl _, fun _ _ _ _ h => rfl, hK⟩
  have all : ∀ w13 v, Below w.heap.size w w13 → (∃ r, v = Value.map (some r) ∧ w13.heap[r]? = some (.map opMap 4)) → ∀ tys, ∀ K : Value → World → Prop, K (.func (.func f) #[] #[]) w13 → RunOk Tryz.prog (Instr.lookup 162 v (.int .u8 key) false) w.heap.size tys w13 K := by
    rintro w13 v hb ⟨r, rfl, hr⟩ tys K hK
    exact look w13 r hb hr tys K hK
  refine ⟨_, _, _, _, _, rfl, fun h => absurd rfl h, fun _ => ⟨fun h => absurd h hk, fun _ => ?_⟩⟩
  repeat' apply And.intro
  all_goals (intro w3 x3; refine Pure.mono (rational_all _) ?_; rintro v w4 k4 hv; have hb4 := kP (kE k2 x3) k4; refine ⟨_, rfl, ?_⟩)
  all_goals repeat' apply And.intro
  all_goals (refine all _ _ hb4 hv _ _ ⟨_, _, _, rfl, ?_⟩)
  all_goals first | exact call _ hb4 | exact ⟨call _ hb4, call _ hb4⟩

theorem rational_Add {w : World} {x y : Rat} (hg : Glob w) (hx : Big x) (hy : Big y) :
    Pure Tryz.prog 90 #[.string (rS x), .string (rS y)] w fun v _ => v = .tuple #[.string (rS (x + y)), .int .i64 0] := by
  refine F.rational_Add.vc _ _ _ _ (Pure.mono (rational_apply hg hx hy ((hx.add hy).mono (by omega)) (by omega) rfl (by kernel_rfl) fun w hg => rational_plus hg hx hy) ?_)
  rintro v w2 _ rfl
  exact ⟨_, _, rfl, rfl⟩
theorem rational_Sub {w : World} {x y : Rat} (hg : Glob w) (hx : Big x) (hy : Big y) :
    Pure Tryz.prog 102 #[.string (rS x), .string (rS y)] w fun v _ => v = .tuple #[.string (rS (x - y)), .int .i64 0] := by
  refine F.rational_Sub.vc _ _ _ _ (Pure.mono (rational_apply hg hx hy ((hx.sub hy).mono (by omega)) (by omega) rfl (by kernel_rfl) fun w hg => rational_minus hg hx hy) ?_)
  rintro v w2 _ rfl
  exact ⟨_, _, rfl, rfl⟩
theorem rational_Mul {w : World} {x y : Rat} (hg : Glob w) (hx : Big x) (hy : Big y) :
    Pure Tryz.prog 91 #[.string (rS x), .string (rS y)] w fun v _ => v = .tuple #[.string (rS (x * y)), .int .i64 0] := by
  refine F.rational_Mul.vc _ _ _ _ (Pure.mono (rational_apply hg hx hy ((hx.mul hy).mono (by omega)) (by omega) rfl (by kernel_rfl) fun w hg => rational_times hg hx hy) ?_)
  rintro v w2 _ rfl
  exact ⟨_, _, rfl, rfl⟩

theorem rational_Compare {w : World} {x y : Rat} (hg : Glob w) (hx : Big x) (hy : Big y) :
    Pure Tryz.prog 101 #[.string (rS x), .string (rS y)] w fun v _ => v = .tuple #[.int .i64 (cmpR x y), .int .i64 0] := by
  refine F.rational_Compare.vc _ _ _ _ (Pure.mono (rational_both hg hx hy) ?_)
  rintro v w2 k2 rfl
  refine ⟨_, _, _, _, _, rfl, fun h => absurd rfl h, fun _ => ⟨fun h w3 _ => ?_, fun hne w3 x3 => Pure.mono (rational_sign hx _) ?_⟩⟩
  · have : x = y := ratT_inj (st_inj h)
    subst this
    rw [cmpR_eq.2 rfl]
  rintro v w4 k4 rfl
  have hb4 := kP (kE k2 x3) k4
  refine ⟨_, rfl, Pure.mono (rational_sign hy _) ?_⟩
  rintro v w5 k5 rfl
  have hb5 := kP hb4 k5
  have tri : ∀ z : Rat, (z < 0 ∧ cmpR z 0 = -1) ∨ (z = 0 ∧ cmpR z 0 = 0) ∨ (0 < z ∧ cmpR z 0 = 1) := by
    intro z
    unfold cmpR
    by_cases h1 : z < 0
    · rw [if_pos h1]; exact .inl ⟨h1, rfl⟩
    · rw [if_neg h1]
      by_cases h2 : 0 < z
      · rw [if_pos h2]; exact .inr (.inr ⟨h2, rfl⟩)
      · rw [if_neg h2]; exact .inr (.inl ⟨Rat.le_antisymm (Rat.not_lt.1 h2) (Rat.not_lt.1 h1), rfl⟩)
  have sgn : (x.num * (y.den : Int) - y.num * (x.den : Int)).sign = cmpR x y := by
    have h1 := lt_cross x y
    have h2 := lt_cross y x
    have h3 := eq_cross x y
    unfold cmpR
    rcases Int.lt_trichotomy (x.num * (y.den : Int) - y.num * (x.den : Int)) 0 with k | k | k
    · rw [if_pos (h1.2 k), Int.sign_eq_neg_one_of_neg k]
    · rw [if_neg (fun c => by have := h1.1 c; omega), if_neg (fun c => by have := h2.1 c; omega), k]; rfl
    · rw [if_neg (fun c => by have := h1.1 c; omega), if_pos (h2.2 (by omega)), Int.sign_eq_one_of_pos k]
  refine ⟨_, rfl, fun hs => ?_, fun hs => ?_⟩
  · have e : cmpR x y = (if (if (1 : Int) < (cmpR x 0 - cmpR y 0) then (1 : Int) else (cmpR x 0 - cmpR y 0)) > (-1 : Int) then (if (1 : Int) < (cmpR x 0 - cmpR y 0) then (1 : Int) else (cmpR x 0 - cmpR y 0)) else (-1 : Int)) := by
      rcases tri x with ⟨a1, a2⟩ | ⟨a1, a2⟩ | ⟨a1, a2⟩ <;> rcases tri y with ⟨b1, b2⟩ | ⟨b1, b2⟩ | ⟨b1, b2⟩ <;> rw [a2, b2] at hs ⊢ <;> first | exact absurd rfl hs | skip
      all_goals first
        | (have hlt : x < y := by grind
           have e1 : cmpR x y = -1 := by unfold cmpR; rw [if_pos hlt]
           rw [e1]; rfl)
        | (have hlt : y < x := by grind
           have e1 : cmpR x y = 1 := by unfold cmpR; rw [if_neg (Rat.not_lt.2 (Rat.le_of_lt hlt)), if_pos hlt]
           rw [e1]; rfl)
    refine ⟨?_, ?_⟩
    · rcases tri x with ⟨_, a2⟩ | ⟨_, a2⟩ | ⟨_, a2⟩ <;> rcases tri y with ⟨_, b2⟩ | ⟨_, b2⟩ | ⟨_, b2⟩ <;> rw [a2, b2] <;> simp only [inR] <;> omega
    · rw [← e]
  · have n1 := mul_lt_pow hx.1 hy.2
    have n2 := mul_lt_pow hy.1 hx.2
    have a1 : (x.num * (y.den : Int)).natAbs = x.num.natAbs * y.den := by rw [Int.natAbs_mul, Int.natAbs_natCast]
    have a2 : (y.num * (x.den : Int)).natAbs = y.num.natAbs * x.den := by rw [Int.natAbs_mul, Int.natAbs_natCast]
    have m1 : (x.num * (y.den : Int)).natAbs < Lim := by rw [a1]; exact lt_lim n1 (by omega)
    have m2 : (y.num * (x.den : Int)).natAbs < Lim := by rw [a2]; exact lt_lim n2 (by omega)
    rw [← iS_nat y.den, ← iS_nat x.den]
    refine Pure.mono (integer_Mul (hg.next hb5) (hx.nlim (by omega)) (by rw [Int.natAbs_natCast]; exact hy.dlim (by omega)) m1) ?_
    rintro v w6 k6 rfl
    have hb6 := kP hb5 k6
    refine ⟨_, _, rfl, Pure.mono (integer_Mul (hg.next hb6) (hy.nlim (by omega)) (by rw [Int.natAbs_natCast]; exact hx.dlim (by omega)) m2) ?_⟩
    rintro v w7 k7 rfl
    refine ⟨_, _, rfl, Pure.mono (integer_Compare (hg.next (kP hb6 k7)) m1 m2) ?_⟩
    rintro v w8 _ rfl
    refine ⟨_, _, rfl, ?_⟩
    rw [sgn]
end Go.Proofs.YtdoailkigecmkaaGreatDoor.B

namespace Go.Proofs.YtdoailkigecmkaaGreatDoor.B
open Go Go.RowKit Go.Proofs Go.Proofs.YtdoailkigecmkaaGreatDoor.Vc

def SlR (w : World) (A : Option Addr) (sz : Nat) (rows : List (List Value)) : Prop :=
  rows = [] ∨ ∃ b off cs ty fr, A = some ⟨b, off, none⟩ ∧ w.heap[b]? = some (.cells cs ty fr) ∧ ∀ i, (h : i < rows.length) → ∀ j, (hj : j < rows[i].length) → rows[i].length = sz ∧ cs[off + i * sz + j]? = some (rows[i][j])

theorem SlR.below {w w' : World} {A : Option Addr} {sz : Nat} {rows : List (List Value)} (h : SlR w A sz rows) (hb : Below w.heap.size w w') : SlR w' A sz rows := by
  rcases h with h | ⟨b, off, cs, ty, fr, hA, hh, hc⟩
  · exact .inl h
  · exact .inr ⟨b, off, cs, ty, fr, hA, (hb.block b (Array.getElem?_eq_some_iff.1 hh).1).trans hh, hc⟩
theorem SlR.keep {w w' : World} {A : Option Addr} {sz B : Nat} {rows : List (List Value)} (h : SlR w A sz rows) (hb : Below B w w') (hB : w.heap.size ≤ B) : SlR w' A sz rows := h.below (hb.mono hB)
theorem addr_add_mul (b off i j sz : Nat) : (((⟨b, off, none⟩ : Addr).add (i * sz)).add j) = ⟨b, off + i * sz + j, none⟩ := by
  have add1 : ∀ o k : Nat, (⟨b, o, none⟩ : Addr).add k = ⟨b, o + k, none⟩ := by
    intro o k
    unfold Addr.add
    split
    · rename_i h; subst h; rfl
    · rfl
  rw [add1, add1]

theorem SlR.load {w : World} {A : Option Addr} {sz n : Nat} {rows : List (List Value)} (h : SlR w A sz rows) (hl : rows.length = n) {j : Int} (h0 : 0 ≤ j) (h1 : j < n) :
    (0 ≤ j ∧ j < n) ∧ ∃ a, A = some a ∧ ∀ row, rows[j.toNat]? = some row → row.length = sz → CellsAt w (a.add (j.toNat * sz)) row ∧ ∀ k v, row[k]? = some v → CellsAt w ((a.add (j.toNat * sz)).add k) [v] := by
  refine ⟨⟨h0, h1⟩, ?_⟩
  rcases h with h | ⟨b, off, cs, ty, fr, hA, hh, hc⟩
  · subst h; simp at hl; omega
  · refine ⟨_, hA, fun row hrow hlen => ?_⟩
    have hj : j.toNat < rows.length := by omega
    have hr : rows[j.toNat] = row := by simpa [hj] using hrow
    have hcell : ∀ k v, row[k]? = some v → w.cell? (((⟨b, off, none⟩ : Addr).add (j.toNat * sz)).add k) = some v := by
      intro k v hk
      obtain ⟨hk1, hk2⟩ := List.getElem?_eq_some_iff.1 hk
      rw [addr_add_mul]
      simp only [World.cell?, hh]
      have := (hc j.toNat hj k (by rw [hr]; exact hk1)).2
      rw [this]
      subst hr
      simp [hk2]
    refine ⟨fun i hi => hcell i _ (by simp [hi]), fun k v hk i hi => ?_⟩
    simp at hi
    subst hi
    have := hcell k v hk
    rw [show ((((⟨b, off, none⟩ : Addr).add (j.toNat * sz)).add k).add 0) = (((⟨b, off, none⟩ : Addr).add (j.toNat * sz)).add k) by simp [Addr.add]]
    exact this

def OwnR (w : World) (B ty : Nat) (A : Option Addr) (n c sz : Nat) (rows : List (List Value)) : Prop :=
  w.ownsRow B ty sz (.slice A n c) n rows.flatten ∧ rows.length = n ∧ ∀ r ∈ rows, r.length = sz
theorem OwnR.sl {w : World} {B ty : Nat} {A : Option Addr} {n c sz : Nat} {rows : List (List Value)} (h : OwnR w B ty A n c sz rows) : SlR w A sz rows := by
  obtain ⟨h, hl, hr⟩ := h
  rcases h.2 with ⟨h1, h2⟩ | ⟨g, cap, cur, h1, hb, hg, hc, hm, hs, ht⟩
  · left
    exact List.eq_nil_of_length_eq_zero (by omega)
  · cases h1
    refine .inr ⟨g, 0, cur, ty, _, rfl, hg, fun i hi j hj => ⟨hr _ (List.getElem_mem _), ?_⟩⟩
    have hlen : rows[i].length = sz := hr _ (List.getElem_mem _)
    have key : rows.flatten[i * sz + j]? = some (rows[i][j]) := by
      clear ht h hl
      induction rows generalizing i with
      | nil => simp at hi
      | cons r rs ih =>
        have hr0 : r.length = sz := hr r (by simp)
        cases i with
        | zero =>
          have hj' : j < r.length := hj
          rw [Nat.zero_mul, Nat.zero_add, List.flatten_cons, List.getElem?_append_left hj']
          simp [hj']
        | succ i =>
          have hi' : i < rs.length := by simpa using hi
          have hj' : j < rs[i].length := hj
          rw [List.flatten_cons, List.getElem?_append_right (by rw [Nat.add_mul]; omega)]
          have := ih (fun x hx => hr x (by simp [hx])) i hi' hj' hlen
          have e : (i + 1) * sz + j - r.length = i * sz + j := by rw [Nat.add_mul]; omega
          rw [e, this]
          rfl
    rw [← ht, List.getElem?_take] at key
    split at key
    · simpa using key
    · cases key
theorem OwnR.len {w : World} {B ty : Nat} {A : Option Addr} {n c sz : Nat} {rows : List (List Value)} (h : OwnR w B ty A n c sz rows) : rows.length = n := h.2.1
theorem OwnR.blk {w : World} {B ty : Nat} {A : Option Addr} {n c sz : Nat} {rows : List (List Value)} (h : OwnR w B ty A n c sz rows) : ∀ a, A = some a → B ≤ a.block ∧ a.block < w.heap.size := by
  intro a ha
  subst ha
  exact World.ownsRow.lt h.1 a.block rfl
theorem OwnR.other {w w' : World} {B ty : Nat} {A : Option Addr} {n c sz : Nat} {rows : List (List Value)} (h : OwnR w B ty A n c sz rows) (hh : ∀ a, A = some a → w'.heap[a.block]? = w.heap[a.block]?) : OwnR w' B ty A n c sz rows := by
  refine ⟨⟨h.1.1, ?_⟩, h.2⟩
  rcases h.1.2 with h1 | ⟨g, cap, cur, h1, h2, h3, h4⟩
  · exact .inl h1
  · cases h1
    refine .inr ⟨g, _, cur, rfl, h2, ?_, h4⟩
    have := hh _ rfl
    simp only at this
    rw [this]
    exact h3
theorem OwnR.below {w w' : World} {B ty : Nat} {A : Option Addr} {n c sz : Nat} {rows : List (List Value)} (h : OwnR w B ty A n c sz rows) (hb : Below w.heap.size w w') : OwnR w' B ty A n c sz rows :=
  h.other fun a ha => hb.block _ (h.blk a ha).2
theorem OwnR.nil {w : World} {B ty sz : Nat} : OwnR w B ty none 0 0 sz [] := ⟨World.ownsRow_nil _ _ _ _, rfl, by simp⟩

end Go.Proofs.YtdoailkigecmkaaGreatDoor.B

set_option maxRecDepth 100000
namespace Go.Proofs.YtdoailkigecmkaaGreatDoor.F
open Go Go.RowKit Go.Proofs Go.Proofs.YtdoailkigecmkaaGreatDoor.Vc
def sensor_Check.L4 (Al0 : Option Addr) (nl0 cl0 : Nat) (il10 : Int) (il11 : Int) (B : Nat) (w : World) (R : Value → World → Prop) : Prop := At Tryz.prog 12 22 (loopAt Tryz.f12 4) [(0, .v (.slice Al0 nl0 cl0)), (10, .v (.int .i64 il10)), (11, .v (.int .i64 il11))] [] B w R
noncomputable def sensor_Check.cx (w : World) (B : Nat) (R : Value → World → Prop) : Cx := ⟨Tryz.prog, 12, 22, Tryz.f12.results.toList, [((true, 4), [0, 10, 11], [])], [], w, B, R⟩
theorem sensor_Check.L4.step (Al0 : Option Addr) (nl0 cl0 : Nat) (il10 : Int) (il11 : Int) (B : Nat) (w : World) (R : Value → World → Prop)
    (h : ((((il11 : Int) < il10) → (Pure Tryz.prog 44 #[(.slice Al0 nl0 cl0), (.int .i64 il11)] w fun r2 w3 => ∃ (i1 : Int), r2 = (.int .i64 i1) ∧ ((((i1 : Int) ≠ (0 : Int)) → (R (.tuple #[(.int .i64 il11), (.int .i64 i1)]) w3)) ∧ (¬ ((i1 : Int) ≠ (0 : Int)) → (inR .i64 (il11 + (1 : Int)) ∧ (sensor_Check.L4 Al0 nl0 cl0 il10 (il11 + (1 : Int)) B w3 R)))))) ∧ (¬ ((il11 : Int) < il10) → (R (.tuple #[(.int .i64 (-1 : Int)), (.int .i64 (0 : Int))]) w)))) :
    sensor_Check.L4 Al0 nl0 cl0 il10 il11 B w R :=
  loop_of_run (sensor_Check.cx w B R) 100000 (loopAt Tryz.f12 4) _ _ follows Tryz.func12 rfl rfl rfl (Eq.mp (by kernel_rfl) h)
theorem sensor_Check.vc (Ap0 : Option Addr) (np0 cp0 : Nat) (w : World) (R : Value → World → Prop)
    (h : (((((np0 : Int) : Int) > (16 : Int)) → (R (.tuple #[(.int .i64 (-1 : Int)), (.int .i64 (8 : Int))]) w)) ∧ (¬ (((np0 : Int) : Int) > (16 : Int)) → (sensor_Check.L4 Ap0 np0 cp0 (np0 : Int) (0 : Int) w.heap.size w R)))) :
    Pure Tryz.prog 12 #[(.slice Ap0 np0 cp0)] w R :=
  pure_of_run (sensor_Check.cx w w.heap.size R) 100000 follows Tryz.func12 rfl rfl rfl rfl rfl rfl rfl (Eq.mp (by kernel_rfl) h)

def sensor_Start.L5 (Al4 : Option Addr) (nl4 cl4 : Nat) (Al10 : Option Addr) (nl10 cl10 : Nat) (il11 : Int) (il12 : Int) (B : Nat) (w : World) (R : Value → World → Prop) : Prop := At Tryz.prog 15 24 (loopAt Tryz.f15 5) [(4, .v (.slice Al4 nl4 cl4)), (10, .v (.slice Al10 nl10 cl10)), (11, .v (.int .i64 il11)), (12, .v (.int .i64 il12))] [] B w R
noncomputable def sensor_Start.cx (w : World) (B : Nat) (R : Value → World → Prop) : Cx := ⟨Tryz.prog, 15, 24, Tryz.f15.results.toList, [((true, 5), [4, 10, 11, 12], [])], [(7, 4, 2), (7, 5, 2)], w, B, R⟩
theorem sensor_Start.L5.step (Al4 : Option Addr) (nl4 cl4 : Nat) (Al10 : Option Addr) (nl10 cl10 : Nat) (il11 : Int) (il12 : Int) (B : Nat) (w : World) (R : Value → World → Prop)
    (h : ((((il12 : Int) < il11) → ((0 ≤ il12 ∧ il12 < nl10) ∧ ∃ a4, Al10 = some a4 ∧ (∃ (i5 : Int) (s6 : ByteArray) (s7 : ByteArray) (s8 : ByteArray) (s9 : ByteArray) (s10 : ByteArray) (s11 : ByteArray), CellsAt w (a4.add ((il12).toNat * 7)) [(.int .i64 i5), (.string s6), (.string s7), (.string s8), (.string s9), (.string s10), (.string s11)] ∧ (∀ w12, Ext B [] w w12 → (RunOk Tryz.prog (Instr.buildSlice 32 1 #[(0, (.agg #[(.int .i64 i5), (.int .i64 (0 : Int)), (.int .i64 (0 : Int)), (.string (⟨#[48]⟩ : ByteArray))]))]) B [31] w12 fun r14 w15 => ∃ (A13 : Option Addr) (n13 c13 : Nat), r14 = (.slice A13 n13 c13) ∧ (RunOk Tryz.prog (Builtin.append_ #[32, 32] 32 #[(.slice Al4 nl4 cl4), (.slice A13 n13 c13)]) B [31] w15 fun r17 w18 => ∃ (A16 : Option Addr) (n16 c16 : Nat), r17 = (.slice A16 n16 c16) ∧ (inR .i64 (il12 + (1 : Int)) ∧ (sensor_Start.L5 A16 n16 c16 Al10 nl10 cl10 il11 (il12 + (1 : Int)) B w18 R)))))))) ∧ (¬ ((il12 : Int) < il11) → (R (.tuple #[(.slice Al4 nl4 cl4), (.int .i64 (0 : Int))]) w)))) :
    sensor_Start.L5 Al4 nl4 cl4 Al10 nl10 cl10 il11 il12 B w R :=
  loop_of_run (sensor_Start.cx w B R) 100000 (loopAt Tryz.f15 5) _ _ follows Tryz.func15 rfl rfl rfl (Eq.mp (by kernel_rfl) h)
theorem sensor_Start.vc (Ap0 : Option Addr) (np0 cp0 : Nat) (w : World) (R : Value → World → Prop)
    (h : (Pure Tryz.prog 46 #[(.slice Ap0 np0 cp0)] w fun r2 w3 => ∃ (b1 : Bool), r2 = (.bool b1) ∧ (((b1 = false) → (R (.tuple #[(.slice none 0 0), (.int .i64 (1 : Int))]) w3)) ∧ (¬ (b1 = false) → (sensor_Start.L5 none 0 0 Ap0 np0 cp0 (np0 : Int) (0 : Int) w.heap.size w3 R))))) :
    Pure Tryz.prog 15 #[(.slice Ap0 np0 cp0)] w R :=
  pure_of_run (sensor_Start.cx w w.heap.size R) 100000 follows Tryz.func15 rfl rfl rfl rfl rfl rfl rfl (Eq.mp (by kernel_rfl) h)

noncomputable def sensor_Number.cx (w : World) (B : Nat) (R : Value → World → Prop) : Cx := ⟨Tryz.prog, 20, 22, Tryz.f20.results.toList, [], [(1, 1, 2)], w, B, R⟩
theorem sensor_Number.vc (ip0_0 : Int) (sp0_1 : ByteArray) (sp0_2 : ByteArray) (sp0_3 : ByteArray) (sp0_4 : ByteArray) (sp0_5 : ByteArray) (sp0_6 : ByteArray) (sp1 : ByteArray) (w : World) (R : Value → World → Prop)
    (h : (∀ w1, Ext w.heap.size [] w w1 → (RunOk Tryz.prog (Instr.buildSlice 22 1 #[(0, (.agg #[(.int .i64 ip0_0), (.string sp0_1), (.string sp0_2), (.string sp0_3), (.string sp0_4), (.string sp0_5), (.string sp0_6)]))]) w.heap.size [31] w1 fun r3 w4 => ∃ (A2 : Option Addr) (n2 c2 : Nat), r3 = (.slice A2 n2 c2) ∧ (Pure Tryz.prog 46 #[(.slice A2 n2 c2)] w4 fun r6 w7 => ∃ (b5 : Bool), r6 = (.bool b5) ∧ (((b5 = false) → (R (.tuple #[(.string (⟨#[]⟩ : ByteArray)), (.int .i64 (1 : Int))]) w7)) ∧ (¬ (b5 = false) → (Pure Tryz.prog 47 #[(.string sp1)] w7 fun r9 w10 => ∃ (b8 : Bool), r9 = (.bool b8) ∧ (((b8 = false) → (R (.tuple #[(.string (⟨#[]⟩ : ByteArray)), (.int .i64 (1 : Int))]) w10)) ∧ (¬ (b8 = false) → (∀ w11, Ext w.heap.size [] w10 w11 → (Pure Tryz.prog 49 #[(.string sp0_2), (.string sp1)] w11 fun r13 w14 => ∃ (s12 : ByteArray), r13 = (.string s12) ∧ (Pure Tryz.prog 48 #[(.string s12), (.string sp0_3)] w14 fun r16 w17 => ∃ (s15 : ByteArray), r16 = (.string s15) ∧ (R (.tuple #[(.string s15), (.int .i64 (0 : Int))]) w17))))))))))))) :
    Pure Tryz.prog 20 #[(.agg #[(.int .i64 ip0_0), (.string sp0_1), (.string sp0_2), (.string sp0_3), (.string sp0_4), (.string sp0_5), (.string sp0_6)]), (.string sp1)] w R :=
  pure_of_run (sensor_Number.cx w w.heap.size R) 100000 follows Tryz.func20 rfl rfl rfl rfl rfl rfl rfl (Eq.mp (by kernel_rfl) h)

noncomputable def sensor_Take.cx (w : World) (B : Nat) (R : Value → World → Prop) : Cx := ⟨Tryz.prog, 22, 78, Tryz.f22.results.toList, [], [(3, 1, 5), (10, 9999, 3)], w, B, R⟩
theorem sensor_Take.vc (Ap0 : Option Addr) (np0 cp0 : Nat) (Ap1 : Option Addr) (np1 cp1 : Nat) (ip2_0 : Int) (ip2_1 : Int) (sp2_2 : ByteArray) (w : World) (R : Value → World → Prop)
    (h : (∀ w1, Ext w.heap.size [] w w1 → (Pure Tryz.prog 46 #[(.slice Ap0 np0 cp0)] w1 fun r3 w4 => ∃ (b2 : Bool), r3 = (.bool b2) ∧ (((b2 = false) → (R (.tuple #[(.slice none 0 0), (.int .i64 (1 : Int))]) w4)) ∧ (¬ (b2 = false) → (Pure Tryz.prog 53 #[(.slice Ap0 np0 cp0), (.slice Ap1 np1 cp1)] w4 fun r6 w7 => ∃ (b5 : Bool), r6 = (.bool b5) ∧ (((b5 = false) → (R (.tuple #[(.slice none 0 0), (.int .i64 (1 : Int))]) w7)) ∧ (¬ (b5 = false) → (Pure Tryz.prog 47 #[(.string sp2_2)] w7 fun r9 w10 => ∃ (b8 : Bool), r9 = (.bool b8) ∧ (((b8 = false) → (R (.tuple #[(.slice none 0 0), (.int .i64 (1 : Int))]) w10)) ∧ (¬ (b8 = false) → (∀ p11 : Nat, w.heap.size ≤ p11 → w10.heap[p11]? = some (.cells [(.int .i64 ip2_0), (.int .i64 ip2_1), (.string sp2_2)].toArray 42 (0, 0)) → (Pure Tryz.prog 31 #[(.slice Ap0 np0 cp0), (.func (.func 54) #[] #[(.pointer (some (⟨p11, 0, none⟩ : Addr)))])] w10 fun r13 w14 => ∃ (i12 : Int), r13 = (.int .i64 i12) ∧ ((((i12 : Int) < (0 : Int)) → (R (.tuple #[(.slice none 0 0), (.int .i64 (7 : Int))]) w14)) ∧ (¬ ((i12 : Int) < (0 : Int)) → (∃ (i15 : Int), CellsAt w14 ((⟨p11, 0, none⟩ : Addr).add 1) [(.int .i64 i15)] ∧ (Pure Tryz.prog 55 #[(.int .i64 i15)] w14 fun r17 w18 => ∃ (b16 : Bool), r17 = (.bool b16) ∧ (((b16 = false) → (R (.tuple #[(.slice none 0 0), (.int .i64 (2 : Int))]) w18)) ∧ (¬ (b16 = false) → (∃ (i19 : Int), CellsAt w18 ((⟨p11, 0, none⟩ : Addr).add 1) [(.int .i64 i19)] ∧ ((0 ≤ i12 ∧ i12 < np1) ∧ ∃ a20, Ap1 = some a20 ∧ (∃ (i21 : Int), CellsAt w18 ((a20.add ((i12).toNat * 4)).add 1) [(.int .i64 i21)] ∧ ((((i19 : Int) < i21) → (∀ w22, Ext w.heap.size [] w18 w22 → (R (.tuple #[(.slice none 0 0), (.int .i64 (5 : Int))]) w22))) ∧ (¬ ((i19 : Int) < i21) → (∀ w23, Ext w.heap.size [] w18 w23 → ((0 ≤ i12 ∧ i12 < np0) ∧ ∃ a24, Ap0 = some a24 ∧ (∃ (i25 : Int) (s26 : ByteArray) (s27 : ByteArray) (s28 : ByteArray) (s29 : ByteArray) (s30 : ByteArray) (s31 : ByteArray), CellsAt w23 (a24.add ((i12).toNat * 7)) [(.int .i64 i25), (.string s26), (.string s27), (.string s28), (.string s29), (.string s30), (.string s31)] ∧ (∃ (s32 : ByteArray), CellsAt w23 ((⟨p11, 0, none⟩ : Addr).add 2) [(.string s32)] ∧ (∀ w33, Ext w.heap.size [] w23 w33 → (Pure Tryz.prog 20 #[(.agg #[(.int .i64 i25), (.string s26), (.string s27), (.string s28), (.string s29), (.string s30), (.string s31)]), (.string s32)] w33 fun r36 w37 => ∃ (s34 : ByteArray) (i35 : Int), r36 = (.tuple #[(.string s34), (.int .i64 i35)]) ∧ (Pure Tryz.prog 23 #[(.slice Ap1 np1 cp1)] w37 fun r39 w40 => ∃ (A38 : Option Addr) (n38 c38 : Nat), r39 = (.slice A38 n38 c38) ∧ (∃ (i41 : Int), CellsAt w40 ((⟨p11, 0, none⟩ : Addr).add 0) [(.int .i64 i41)] ∧ (∃ (i42 : Int), CellsAt w40 ((⟨p11, 0, none⟩ : Addr).add 1) [(.int .i64 i42)] ∧ ((0 ≤ i12 ∧ i12 < np0) ∧ ∃ a43, Ap0 = some a43 ∧ (∃ (i44 : Int) (s45 : ByteArray) (s46 : ByteArray) (s47 : ByteArray) (s48 : ByteArray) (s49 : ByteArray) (s50 : ByteArray), CellsAt w40 (a43.add ((i12).toNat * 7)) [(.int .i64 i44), (.string s45), (.string s46), (.string s47), (.string s48), (.string s49), (.string s50)] ∧ ((0 ≤ i12 ∧ i12 < np1) ∧ ∃ a51, Ap1 = some a51 ∧ (∃ (i52 : Int) (i53 : Int) (i54 : Int) (s55 : ByteArray), CellsAt w40 (a51.add ((i12).toNat * 4)) [(.int .i64 i52), (.int .i64 i53), (.int .i64 i54), (.string s55)] ∧ (∃ (i56 : Int), CellsAt w40 ((⟨p11, 0, none⟩ : Addr).add 1) [(.int .i64 i56)] ∧ (∀ w57, Ext w.heap.size [] w40 w57 → (Pure Tryz.prog 56 #[(.agg #[(.int .i64 i44), (.string s45), (.string s46), (.string s47), (.string s48), (.string s49), (.string s50)]), (.agg #[(.int .i64 i52), (.int .i64 i53), (.int .i64 i54), (.string s55)]), (.string s34), (.int .i64 i56)] w57 fun r59 w60 => ∃ (i58 : Int), r59 = (.int .i64 i58) ∧ ((0 ≤ i12 ∧ i12 < n38) ∧ ∃ a61, A38 = some a61 ∧ (∃ (cs62 : List Value) (t63 : Nat), w.heap.size ≤ (a61.add ((i12).toNat * 4)).block ∧ (a61.add ((i12).toNat * 4)).spot = none ∧ w60.heap[(a61.add ((i12).toNat * 4)).block]? = some (.cells cs62.toArray t63 (0, 0)) ∧ (a61.add ((i12).toNat * 4)).off + 4 ≤ cs62.length ∧ hasType t63 [] = false ∧ ∀ w64, Wrote w60 w64 (a61.add ((i12).toNat * 4)).block t63 (setCells cs62 (a61.add ((i12).toNat * 4)).off [(.int .i64 i41), (.int .i64 i42), (.int .i64 i58), (.string s34)]) → (R (.tuple #[(.slice A38 n38 c38), (.int .i64 (0 : Int))]) w64))))))))))))))))))))))))))))))))))))))))))) :
    Pure Tryz.prog 22 #[(.slice Ap0 np0 cp0), (.slice Ap1 np1 cp1), (.agg #[(.int .i64 ip2_0), (.int .i64 ip2_1), (.string sp2_2)])] w R :=
  pure_of_run (sensor_Take.cx w w.heap.size R) 100000 follows Tryz.func22 rfl rfl rfl rfl rfl rfl rfl (Eq.mp (by kernel_rfl) h)

def sensor_See.L7 (il1 : Int) (il2 : Int) (Al8 : Option Addr) (nl8 cl8 : Nat) (Al24 : Option Addr) (nl24 cl24 : Nat) (il25 : Int) (il26 : Int) (B : Nat) (w : World) (R : Value → World → Prop) : Prop := At Tryz.prog 25 48 (loopAt Tryz.f25 7) [(1, .v (.int .i64 il1)), (2, .v (.int .i64 il2)), (8, .v (.slice Al8 nl8 cl8)), (24, .v (.slice Al24 nl24 cl24)), (25, .v (.int .i64 il25)), (26, .v (.int .i64 il26))] [] B w R
noncomputable def sensor_See.cx (w : World) (B : Nat) (R : Value → World → Prop) : Cx := ⟨Tryz.prog, 25, 48, Tryz.f25.results.toList, [((true, 7), [1, 2, 8, 24, 25, 26], [])], [(8, 3, 2)], w, B, R⟩
theorem sensor_See.L7.step (il1 : Int) (il2 : Int) (Al8 : Option Addr) (nl8 cl8 : Nat) (Al24 : Option Addr) (nl24 cl24 : Nat) (il25 : Int) (il26 : Int) (B : Nat) (w : World) (R : Value → World → Prop)
    (h : ((((il26 : Int) < il25) → ((0 ≤ il26 ∧ il26 < nl24) ∧ ∃ a10, Al24 = some a10 ∧ (∃ (i11 : Int) (i12 : Int) (i13 : Int) (s14 : ByteArray), CellsAt w (a10.add ((il26).toNat * 4)) [(.int .i64 i11), (.int .i64 i12), (.int .i64 i13), (.string s14)] ∧ (RunOk Tryz.prog (Instr.alloc 46 true (.tuple #[])) B [] w fun r16 w15 => ∃ (a17 : Addr), r16 = (.pointer (some a17)) ∧ (∃ (cs18 : List Value) (t19 : Nat), B ≤ a17.block ∧ a17.spot = none ∧ w15.heap[a17.block]? = some (.cells cs18.toArray t19 (0, 0)) ∧ a17.off + 4 ≤ cs18.length ∧ hasType t19 [] = false ∧ ∀ w20, Wrote w15 w20 a17.block t19 (setCells cs18 a17.off [(.int .i64 i11), (.int .i64 i12), (.int .i64 i13), (.string s14)]) → (∃ (i21 : Int), CellsAt w20 (a17.add 2) [(.int .i64 i21)] ∧ ((((i21 : Int) ≠ (0 : Int)) → (∃ (i22 : Int), CellsAt w20 (a17.add 1) [(.int .i64 i22)] ∧ (inR .i64 (il1 - il2) ∧ ((((i22 : Int) < (il1 - il2)) → ((0 ≤ il26 ∧ il26 < nl8) ∧ ∃ a23, Al8 = some a23 ∧ (∃ (cs24 : List Value) (t25 : Nat), B ≤ ((a23.add ((il26).toNat * 4)).add 2).block ∧ ((a23.add ((il26).toNat * 4)).add 2).spot = none ∧ w20.heap[((a23.add ((il26).toNat * 4)).add 2).block]? = some (.cells cs24.toArray t25 (0, 0)) ∧ ((a23.add ((il26).toNat * 4)).add 2).off + 1 ≤ cs24.length ∧ hasType t25 [] = false ∧ ∀ w26, Wrote w20 w26 ((a23.add ((il26).toNat * 4)).add 2).block t25 (setCells cs24 ((a23.add ((il26).toNat * 4)).add 2).off [(.int .i64 (4 : Int))]) → (inR .i64 (il26 + (1 : Int)) ∧ (sensor_See.L7 il1 il2 Al8 nl8 cl8 Al24 nl24 cl24 il25 (il26 + (1 : Int)) B w26 R))))) ∧ (¬ ((i22 : Int) < (il1 - il2)) → (inR .i64 (il26 + (1 : Int)) ∧ (sensor_See.L7 il1 il2 Al8 nl8 cl8 Al24 nl24 cl24 il25 (il26 + (1 : Int)) B w20 R))))))) ∧ (¬ ((i21 : Int) ≠ (0 : Int)) → (inR .i64 (il26 + (1 : Int)) ∧ (sensor_See.L7 il1 il2 Al8 nl8 cl8 Al24 nl24 cl24 il25 (il26 + (1 : Int)) B w20 R)))))))))) ∧ (¬ ((il26 : Int) < il25) → (R (.tuple #[(.slice Al8 nl8 cl8), (.int .i64 (0 : Int))]) w)))) :
    sensor_See.L7 il1 il2 Al8 nl8 cl8 Al24 nl24 cl24 il25 il26 B w R :=
  loop_of_run (sensor_See.cx w B R) 100000 (loopAt Tryz.f25 7) _ _ follows Tryz.func25 rfl rfl rfl (Eq.mp (by kernel_rfl) h)
theorem sensor_See.vc (Ap0 : Option Addr) (np0 cp0 : Nat) (ip1 : Int) (ip2 : Int) (w : World) (R : Value → World → Prop)
    (h : (((((np0 : Int) : Int) > (16 : Int)) → (R (.tuple #[(.slice none 0 0), (.int .i64 (8 : Int))]) w)) ∧ (¬ (((np0 : Int) : Int) > (16 : Int)) → (Pure Tryz.prog 55 #[(.int .i64 ip1)] w fun r2 w3 => ∃ (b1 : Bool), r2 = (.bool b1) ∧ (((b1 = false) → (R (.tuple #[(.slice none 0 0), (.int .i64 (2 : Int))]) w3)) ∧ (¬ (b1 = false) → (Pure Tryz.prog 55 #[(.int .i64 ip2)] w3 fun r5 w6 => ∃ (b4 : Bool), r5 = (.bool b4) ∧ (((b4 = false) → (R (.tuple #[(.slice none 0 0), (.int .i64 (2 : Int))]) w6)) ∧ (¬ (b4 = false) → (Pure Tryz.prog 23 #[(.slice Ap0 np0 cp0)] w6 fun r8 w9 => ∃ (A7 : Option Addr) (n7 c7 : Nat), r8 = (.slice A7 n7 c7) ∧ (sensor_See.L7 ip1 ip2 A7 n7 c7 A7 n7 c7 (n7 : Int) (0 : Int) w.heap.size w9 R))))))))))) :
    Pure Tryz.prog 25 #[(.slice Ap0 np0 cp0), (.int .i64 ip1), (.int .i64 ip2)] w R :=
  pure_of_run (sensor_See.cx w w.heap.size R) 100000 follows Tryz.func25 rfl rfl rfl rfl rfl rfl rfl (Eq.mp (by kernel_rfl) h)

def sensor_Vote.L8 (al3 : Addr) (al7 : Addr) (Al28 : Option Addr) (nl28 cl28 : Nat) (il29 : Int) (il30 : Int) (B : Nat) (w : World) (R : Value → World → Prop) : Prop := At Tryz.prog 27 58 (loopAt Tryz.f27 8) [(3, .v (.pointer (some al3))), (7, .v (.pointer (some al7))), (8, .v (.func (.func 63) #[] #[])), (28, .v (.slice Al28 nl28 cl28)), (29, .v (.int .i64 il29)), (30, .v (.int .i64 il30))] [] B w R
noncomputable def sensor_Vote.cx (w : World) (B : Nat) (R : Value → World → Prop) : Cx := ⟨Tryz.prog, 27, 58, Tryz.f27.results.toList, [((true, 8), [3, 7, 8, 28, 29, 30], [])], [(0, 0, 2), (5, 0, 2), (11, 3, 6), (16, 0, 5)], w, B, R⟩
theorem sensor_Vote.L8.step (al3 : Addr) (al7 : Addr) (Al28 : Option Addr) (nl28 cl28 : Nat) (il29 : Int) (il30 : Int) (B : Nat) (w : World) (R : Value → World → Prop)
    (h : ((((il30 : Int) < il29) → ((0 ≤ il30 ∧ il30 < nl28) ∧ ∃ a18, Al28 = some a18 ∧ (∃ (i19 : Int) (i20 : Int) (i21 : Int) (s22 : ByteArray), CellsAt w (a18.add ((il30).toNat * 4)) [(.int .i64 i19), (.int .i64 i20), (.int .i64 i21), (.string s22)] ∧ ((((i21 : Int) = (1 : Int)) → (∀ w23, Ext B [] w w23 → (PureB Tryz.prog 63 #[(.pointer (some al7)), (.string s22)] B w23 fun r24 w25 => (∀ (k ty : Nat) (cs : Array Value), ty ∈ ([46] : List Nat) → w23.heap[k]? = some (.cells cs ty (0, 0)) → w25.heap[k]? = w23.heap[k]?) ∧ r24 = (.tuple #[]) ∧ (inR .i64 (il30 + (1 : Int)) ∧ (sensor_Vote.L8 al3 al7 Al28 nl28 cl28 il29 (il30 + (1 : Int)) B w25 R))))) ∧ (¬ ((i21 : Int) = (1 : Int)) → (inR .i64 (il30 + (1 : Int)) ∧ (∀ w26, Ext B [] w w26 → (sensor_Vote.L8 al3 al7 Al28 nl28 cl28 il29 (il30 + (1 : Int)) B w26 R)))))))) ∧ (¬ ((il30 : Int) < il29) → (∃ (A27 : Option Addr) (n27 c27 : Nat), CellsAt w al7 [(.slice A27 n27 c27)] ∧ (((((n27 : Int) : Int) = (0 : Int)) → (R (.tuple #[(.string (⟨#[]⟩ : ByteArray)), (.bool false), (.int .i64 (9 : Int))]) w)) ∧ (¬ (((n27 : Int) : Int) = (0 : Int)) → (∃ (A28 : Option Addr) (n28 c28 : Nat), CellsAt w al7 [(.slice A28 n28 c28)] ∧ (∃ (A29 : Option Addr) (n29 c29 : Nat), CellsAt w al7 [(.slice A29 n29 c29)] ∧ (inR .i64 ((n29 : Int) - (1 : Int)) ∧ ((0 ≤ ((n29 : Int) - (1 : Int)) ∧ 0 < (2 : Int) ∧ inR .i64 ((n29 : Int) - (1 : Int))) ∧ ((0 ≤ (((n29 : Int) - (1 : Int)) / (2 : Int)) ∧ (((n29 : Int) - (1 : Int)) / (2 : Int)) < n28) ∧ ∃ a30, A28 = some a30 ∧ (∃ (s31 : ByteArray), CellsAt w (a30.add (((((n29 : Int) - (1 : Int)) / (2 : Int))).toNat * 1)) [(.string s31)] ∧ (∀ w32, Ext B [] w w32 → (∀ p33 : Nat, B ≤ p33 → w32.heap[p33]? = some (.cells [(.string s31)].toArray 23 (0, 0)) → (∃ (s34 : ByteArray), CellsAt w32 (⟨p33, 0, none⟩ : Addr) [(.string s34)] ∧ (∃ (A35 : Option Addr) (n35 c35 : Nat), CellsAt w32 al7 [(.slice A35 n35 c35)] ∧ (∀ w36, Ext B [] w32 w36 → (Pure Tryz.prog 68 #[(.slice A35 n35 c35), (.func (.func 64) #[] #[(.pointer (some (⟨p33, 0, none⟩ : Addr))), (.pointer (some al3))])] w36 fun r38 w39 => ∃ (b37 : Bool), r38 = (.bool b37) ∧ (R (.tuple #[(.string s34), (.bool (decide (b37 = false))), (.int .i64 (0 : Int))]) w39))))))))))))))))))) :
    sensor_Vote.L8 al3 al7 Al28 nl28 cl28 il29 il30 B w R :=
  loop_of_run (sensor_Vote.cx w B R) 100000 (loopAt Tryz.f27 8) _ _ follows Tryz.func27 rfl rfl rfl (Eq.mp (by kernel_rfl) h)
theorem sensor_Vote.vc (Ap0 : Option Addr) (np0 cp0 : Nat) (sp1 : ByteArray) (w : World) (R : Value → World → Prop)
    (h : (RunOk Tryz.prog (Instr.box 23 (.string sp1)) w.heap.size [] w fun r2 w1 => ∃ (a3 : Addr), r2 = (.pointer (some a3)) ∧ (∃ (s4 : ByteArray), CellsAt w1 a3 [(.string s4)] ∧ (Pure Tryz.prog 47 #[(.string s4)] w1 fun r6 w7 => ∃ (b5 : Bool), r6 = (.bool b5) ∧ (((b5 = false) → (R (.tuple #[(.string (⟨#[]⟩ : ByteArray)), (.bool false), (.int .i64 (1 : Int))]) w7)) ∧ (¬ (b5 = false) → (∃ (s8 : ByteArray), CellsAt w7 a3 [(.string s8)] ∧ (Pure Tryz.prog 60 #[(.string s8)] w7 fun r10 w11 => ∃ (i9 : Int), r10 = (.int .i64 i9) ∧ ((((i9 : Int) < (0 : Int)) → (R (.tuple #[(.string (⟨#[]⟩ : ByteArray)), (.bool false), (.int .i64 (1 : Int))]) w11)) ∧ (¬ ((i9 : Int) < (0 : Int)) → (Pure Tryz.prog 61 #[(.slice Ap0 np0 cp0), (.func (.func 62) #[] #[])] w11 fun r13 w14 => ∃ (b12 : Bool), r13 = (.bool b12) ∧ ((b12 = true → (R (.tuple #[(.string (⟨#[]⟩ : ByteArray)), (.bool false), (.int .i64 (1 : Int))]) w14)) ∧ (b12 = false → (((((np0 : Int) : Int) > (16 : Int)) → (R (.tuple #[(.string (⟨#[]⟩ : ByteArray)), (.bool false), (.int .i64 (8 : Int))]) w14)) ∧ (¬ (((np0 : Int) : Int) > (16 : Int)) → (RunOk Tryz.prog (Instr.alloc 89 true (.tuple #[])) w.heap.size [] w14 fun r16 w15 => ∃ (a17 : Addr), r16 = (.pointer (some a17)) ∧ (sensor_Vote.L8 a3 a17 Ap0 np0 cp0 (np0 : Int) (0 : Int) w.heap.size w15 R))))))))))))))))) :
    Pure Tryz.prog 27 #[(.slice Ap0 np0 cp0), (.string sp1)] w R :=
  pure_of_run (sensor_Vote.cx w w.heap.size R) 100000 follows Tryz.func27 rfl rfl rfl rfl rfl rfl rfl (Eq.mp (by kernel_rfl) h)

def sensor_fault.L3 (Al0 : Option Addr) (nl0 cl0 : Nat) (il1 : Int) (Al22 : Option Addr) (nl22 cl22 : Nat) (il23 : Int) (il24 : Int) (ilx5_0 : Int) (slx5_1 : ByteArray) (slx5_2 : ByteArray) (slx5_3 : ByteArray) (slx5_4 : ByteArray) (slx5_5 : ByteArray) (slx5_6 : ByteArray) (B : Nat) (w : World) (R : Value → World → Prop) : Prop := At Tryz.prog 44 83 (loopAt Tryz.f44 3) [(0, .v (.slice Al0 nl0 cl0)), (1, .v (.int .i64 il1)), (5, .loc 5 0), (22, .v (.slice Al22 nl22 cl22)), (23, .v (.int .i64 il23)), (24, .v (.int .i64 il24))] [⟨5, false, 31, [(.int .i64 ilx5_0), (.string slx5_1), (.string slx5_2), (.string slx5_3), (.string slx5_4), (.string slx5_5), (.string slx5_6)]⟩] B w R
noncomputable def sensor_fault.cx (w : World) (B : Nat) (R : Value → World → Prop) : Cx := ⟨Tryz.prog, 44, 83, Tryz.f44.results.toList, [((true, 3), [0, 1, 5, 22, 23, 24], [5])], [(2, 10, 2)], w, B, R⟩
theorem sensor_fault.L3.step (Al0 : Option Addr) (nl0 cl0 : Nat) (il1 : Int) (Al22 : Option Addr) (nl22 cl22 : Nat) (il23 : Int) (il24 : Int) (ilx5_0 : Int) (slx5_1 : ByteArray) (slx5_2 : ByteArray) (slx5_3 : ByteArray) (slx5_4 : ByteArray) (slx5_5 : ByteArray) (slx5_6 : ByteArray) (B : Nat) (w : World) (R : Value → World → Prop)
    (h : ((((il24 : Int) < il23) → ((0 ≤ il24 ∧ il24 < nl22) ∧ ∃ a13, Al22 = some a13 ∧ (∃ (s14 : ByteArray), CellsAt w (a13.add ((il24).toNat * 1)) [(.string s14)] ∧ (Pure Tryz.prog 47 #[(.string s14)] w fun r16 w17 => ∃ (b15 : Bool), r16 = (.bool b15) ∧ (((b15 = false) → (R (.int .i64 (1 : Int)) w17)) ∧ (¬ (b15 = false) → (inR .i64 (il24 + (1 : Int)) ∧ (sensor_fault.L3 Al0 nl0 cl0 il1 Al22 nl22 cl22 il23 (il24 + (1 : Int)) ilx5_0 slx5_1 slx5_2 slx5_3 slx5_4 slx5_5 slx5_6 B w17 R)))))))) ∧ (¬ ((il24 : Int) < il23) → (((((ByteArray.size slx5_1 : Int) : Int) < (1 : Int)) → (R (.int .i64 (4 : Int)) w)) ∧ (¬ (((ByteArray.size slx5_1 : Int) : Int) < (1 : Int)) → (((((ByteArray.size slx5_1 : Int) : Int) > (64 : Int)) → (R (.int .i64 (4 : Int)) w)) ∧ (¬ (((ByteArray.size slx5_1 : Int) : Int) > (64 : Int)) → ((((ilx5_0 : Int) < (1 : Int)) → (R (.int .i64 (2 : Int)) w)) ∧ (¬ ((ilx5_0 : Int) < (1 : Int)) → ((((ilx5_0 : Int) > (1073741824 : Int)) → (R (.int .i64 (2 : Int)) w)) ∧ (¬ ((ilx5_0 : Int) > (1073741824 : Int)) → (Pure Tryz.prog 60 #[(.string slx5_2)] w fun r19 w20 => ∃ (i18 : Int), r19 = (.int .i64 i18) ∧ ((((i18 : Int) = (0 : Int)) → (R (.int .i64 (2 : Int)) w20)) ∧ (¬ ((i18 : Int) = (0 : Int)) → (Pure Tryz.prog 65 #[(.string slx5_4), (.string slx5_5)] w20 fun r22 w23 => ∃ (i21 : Int), r22 = (.int .i64 i21) ∧ ((((i21 : Int) > (0 : Int)) → (R (.int .i64 (2 : Int)) w23)) ∧ (¬ ((i21 : Int) > (0 : Int)) → (Pure Tryz.prog 60 #[(.string slx5_6)] w23 fun r25 w26 => ∃ (i24 : Int), r25 = (.int .i64 i24) ∧ ((((i24 : Int) ≤ (0 : Int)) → (R (.int .i64 (2 : Int)) w26)) ∧ (¬ ((i24 : Int) ≤ (0 : Int)) → ((((il1 : Int) > (0 : Int)) → (inR .i64 (il1 - (1 : Int)) ∧ ((0 ≤ (il1 - (1 : Int)) ∧ (il1 - (1 : Int)) < nl0) ∧ ∃ a27, Al0 = some a27 ∧ (∃ (i28 : Int), CellsAt w26 ((a27.add (((il1 - (1 : Int))).toNat * 7)).add 0) [(.int .i64 i28)] ∧ ((((i28 : Int) ≥ ilx5_0) → (∀ w29, Ext B [] w26 w29 → (R (.int .i64 (5 : Int)) w29))) ∧ (¬ ((i28 : Int) ≥ ilx5_0) → (∀ w30, Ext B [] w26 w30 → (R (.int .i64 (0 : Int)) w30)))))))) ∧ (¬ ((il1 : Int) > (0 : Int)) → (∀ w31, Ext B [] w26 w31 → (R (.int .i64 (0 : Int)) w31)))))))))))))))))))))))) :
    sensor_fault.L3 Al0 nl0 cl0 il1 Al22 nl22 cl22 il23 il24 ilx5_0 slx5_1 slx5_2 slx5_3 slx5_4 slx5_5 slx5_6 B w R :=
  loop_of_run (sensor_fault.cx w B R) 100000 (loopAt Tryz.f44 3) _ _ follows Tryz.func44 rfl rfl rfl (Eq.mp (by kernel_rfl) h)
theorem sensor_fault.vc (Ap0 : Option Addr) (np0 cp0 : Nat) (ip1 : Int) (w : World) (R : Value → World → Prop)
    (h : ((0 ≤ ip1 ∧ ip1 < np0) ∧ ∃ a1, Ap0 = some a1 ∧ (∃ (i2 : Int) (s3 : ByteArray) (s4 : ByteArray) (s5 : ByteArray) (s6 : ByteArray) (s7 : ByteArray) (s8 : ByteArray), CellsAt w (a1.add ((ip1).toNat * 7)) [(.int .i64 i2), (.string s3), (.string s4), (.string s5), (.string s6), (.string s7), (.string s8)] ∧ (∀ w9, Ext w.heap.size [] w w9 → (RunOk Tryz.prog (Instr.buildSlice 88 5 #[(0, (.string s4)), (1, (.string s5)), (2, (.string s6)), (3, (.string s7)), (4, (.string s8))]) w.heap.size [31] w9 fun r11 w12 => ∃ (A10 : Option Addr) (n10 c10 : Nat), r11 = (.slice A10 n10 c10) ∧ (sensor_fault.L3 Ap0 np0 cp0 ip1 A10 n10 c10 (n10 : Int) (0 : Int) i2 s3 s4 s5 s6 s7 s8 w.heap.size w12 R)))))) :
    Pure Tryz.prog 44 #[(.slice Ap0 np0 cp0), (.int .i64 ip1)] w R :=
  pure_of_run (sensor_fault.cx w w.heap.size R) 100000 follows Tryz.func44 rfl rfl rfl rfl rfl rfl rfl (Eq.mp (by kernel_rfl) h)

noncomputable def sensor_right.cx (w : World) (B : Nat) (R : Value → World → Prop) : Cx := ⟨Tryz.prog, 46, 12, Tryz.f46.results.toList, [], [], w, B, R⟩
theorem sensor_right.vc (Ap0 : Option Addr) (np0 cp0 : Nat) (w : World) (R : Value → World → Prop)
    (h : (Pure Tryz.prog 12 #[(.slice Ap0 np0 cp0)] w fun r3 w4 => ∃ (i1 : Int) (i2 : Int), r3 = (.tuple #[(.int .i64 i1), (.int .i64 i2)]) ∧ (R (.bool (decide ((i2 : Int) = (0 : Int)))) w4))) :
    Pure Tryz.prog 46 #[(.slice Ap0 np0 cp0)] w R :=
  pure_of_run (sensor_right.cx w w.heap.size R) 100000 follows Tryz.func46 rfl rfl rfl rfl rfl rfl rfl (Eq.mp (by kernel_rfl) h)

noncomputable def sensor_add.cx (w : World) (B : Nat) (R : Value → World → Prop) : Cx := ⟨Tryz.prog, 48, 14, Tryz.f48.results.toList, [], [], w, B, R⟩
theorem sensor_add.vc (sp0 : ByteArray) (sp1 : ByteArray) (w : World) (R : Value → World → Prop)
    (h : (Pure Tryz.prog 90 #[(.string sp0), (.string sp1)] w fun r3 w4 => ∃ (s1 : ByteArray) (i2 : Int), r3 = (.tuple #[(.string s1), (.int .i64 i2)]) ∧ (R (.string s1) w4))) :
    Pure Tryz.prog 48 #[(.string sp0), (.string sp1)] w R :=
  pure_of_run (sensor_add.cx w w.heap.size R) 100000 follows Tryz.func48 rfl rfl rfl rfl rfl rfl rfl (Eq.mp (by kernel_rfl) h)

noncomputable def sensor_mul.cx (w : World) (B : Nat) (R : Value → World → Prop) : Cx := ⟨Tryz.prog, 49, 14, Tryz.f49.results.toList, [], [], w, B, R⟩
theorem sensor_mul.vc (sp0 : ByteArray) (sp1 : ByteArray) (w : World) (R : Value → World → Prop)
    (h : (Pure Tryz.prog 91 #[(.string sp0), (.string sp1)] w fun r3 w4 => ∃ (s1 : ByteArray) (i2 : Int), r3 = (.tuple #[(.string s1), (.int .i64 i2)]) ∧ (R (.string s1) w4))) :
    Pure Tryz.prog 49 #[(.string sp0), (.string sp1)] w R :=
  pure_of_run (sensor_mul.cx w w.heap.size R) 100000 follows Tryz.func49 rfl rfl rfl rfl rfl rfl rfl (Eq.mp (by kernel_rfl) h)

def sensor_fits.L4 (Al0 : Option Addr) (nl0 cl0 : Nat) (Al12 : Option Addr) (nl12 cl12 : Nat) (il13 : Int) (il14 : Int) (B : Nat) (w : World) (R : Value → World → Prop) : Prop := At Tryz.prog 53 63 (loopAt Tryz.f53 4) [(0, .v (.slice Al0 nl0 cl0)), (12, .v (.slice Al12 nl12 cl12)), (13, .v (.int .i64 il13)), (14, .v (.int .i64 il14))] [] B w R
noncomputable def sensor_fits.cx (w : World) (B : Nat) (R : Value → World → Prop) : Cx := ⟨Tryz.prog, 53, 63, Tryz.f53.results.toList, [((true, 4), [0, 12, 13, 14], [])], [(6, 9999, 3)], w, B, R⟩
theorem sensor_fits.L4.step (Al0 : Option Addr) (nl0 cl0 : Nat) (Al12 : Option Addr) (nl12 cl12 : Nat) (il13 : Int) (il14 : Int) (B : Nat) (w : World) (R : Value → World → Prop)
    (h : ((((il14 : Int) < il13) → ((0 ≤ il14 ∧ il14 < nl12) ∧ ∃ a1, Al12 = some a1 ∧ (∃ (i2 : Int) (i3 : Int) (i4 : Int) (s5 : ByteArray), CellsAt w (a1.add ((il14).toNat * 4)) [(.int .i64 i2), (.int .i64 i3), (.int .i64 i4), (.string s5)] ∧ (∀ w6, Ext B [] w w6 → ((0 ≤ il14 ∧ il14 < nl0) ∧ ∃ a7, Al0 = some a7 ∧ (∃ (i8 : Int), CellsAt w6 ((a7.add ((il14).toNat * 7)).add 0) [(.int .i64 i8)] ∧ ((((i2 : Int) ≠ i8) → (∀ w9, Ext B [] w6 w9 → (R (.bool false) w9))) ∧ (¬ ((i2 : Int) ≠ i8) → ((((i4 : Int) < (0 : Int)) → (∀ w10, Ext B [] w6 w10 → (R (.bool false) w10))) ∧ (¬ ((i4 : Int) < (0 : Int)) → ((((i4 : Int) > (3 : Int)) → (∀ w11, Ext B [] w6 w11 → (R (.bool false) w11))) ∧ (¬ ((i4 : Int) > (3 : Int)) → (∀ w12, Ext B [] w6 w12 → (Pure Tryz.prog 55 #[(.int .i64 i3)] w12 fun r14 w15 => ∃ (b13 : Bool), r14 = (.bool b13) ∧ (((b13 = false) → (R (.bool false) w15)) ∧ (¬ (b13 = false) → (Pure Tryz.prog 47 #[(.string s5)] w15 fun r17 w18 => ∃ (b16 : Bool), r17 = (.bool b16) ∧ (((b16 = false) → (R (.bool false) w18)) ∧ (¬ (b16 = false) → ((((i4 : Int) = (0 : Int)) → ((((i3 : Int) ≠ (0 : Int)) → (R (.bool false) w18)) ∧ (¬ ((i3 : Int) ≠ (0 : Int)) → (((s5 ≠ (⟨#[48]⟩ : ByteArray)) → (R (.bool false) w18)) ∧ (¬ (s5 ≠ (⟨#[48]⟩ : ByteArray)) → (inR .i64 (il14 + (1 : Int)) ∧ (sensor_fits.L4 Al0 nl0 cl0 Al12 nl12 cl12 il13 (il14 + (1 : Int)) B w18 R))))))) ∧ (¬ ((i4 : Int) = (0 : Int)) → (inR .i64 (il14 + (1 : Int)) ∧ (sensor_fits.L4 Al0 nl0 cl0 Al12 nl12 cl12 il13 (il14 + (1 : Int)) B w18 R))))))))))))))))))))))) ∧ (¬ ((il14 : Int) < il13) → (R (.bool true) w)))) :
    sensor_fits.L4 Al0 nl0 cl0 Al12 nl12 cl12 il13 il14 B w R :=
  loop_of_run (sensor_fits.cx w B R) 100000 (loopAt Tryz.f53 4) _ _ follows Tryz.func53 rfl rfl rfl (Eq.mp (by kernel_rfl) h)
theorem sensor_fits.vc (Ap0 : Option Addr) (np0 cp0 : Nat) (Ap1 : Option Addr) (np1 cp1 : Nat) (w : World) (R : Value → World → Prop)
    (h : (((((np0 : Int) : Int) ≠ (np1 : Int)) → (R (.bool false) w)) ∧ (¬ (((np0 : Int) : Int) ≠ (np1 : Int)) → (sensor_fits.L4 Ap0 np0 cp0 Ap1 np1 cp1 (np1 : Int) (0 : Int) w.heap.size w R)))) :
    Pure Tryz.prog 53 #[(.slice Ap0 np0 cp0), (.slice Ap1 np1 cp1)] w R :=
  pure_of_run (sensor_fits.cx w w.heap.size R) 100000 follows Tryz.func53 rfl rfl rfl rfl rfl rfl rfl (Eq.mp (by kernel_rfl) h)

noncomputable def sensor_Take_c1.cx (w : World) (B : Nat) (R : Value → World → Prop) : Cx := ⟨Tryz.prog, 54, 9, Tryz.f54.results.toList, [], [], w, B, R⟩
theorem sensor_Take_c1.vc (ip0_0 : Int) (sp0_1 : ByteArray) (sp0_2 : ByteArray) (sp0_3 : ByteArray) (sp0_4 : ByteArray) (sp0_5 : ByteArray) (sp0_6 : ByteArray) (q0 : Addr) (w : World) (R : Value → World → Prop)
    (h : (∀ w1, Ext w.heap.size [] w w1 → (∃ (i2 : Int), CellsAt w1 (q0.add 0) [(.int .i64 i2)] ∧ (R (.bool (decide ((ip0_0 : Int) = i2))) w1)))) :
    Pure Tryz.prog 54 #[(.agg #[(.int .i64 ip0_0), (.string sp0_1), (.string sp0_2), (.string sp0_3), (.string sp0_4), (.string sp0_5), (.string sp0_6)]), (.pointer (some q0))] w R :=
  pure_of_run (sensor_Take_c1.cx w w.heap.size R) 100000 follows Tryz.func54 rfl rfl rfl rfl rfl rfl rfl (Eq.mp (by kernel_rfl) h)

noncomputable def sensor_tick.cx (w : World) (B : Nat) (R : Value → World → Prop) : Cx := ⟨Tryz.prog, 55, 9, Tryz.f55.results.toList, [], [], w, B, R⟩
theorem sensor_tick.vc (ip0 : Int) (w : World) (R : Value → World → Prop)
    (h : ((((ip0 : Int) ≥ (0 : Int)) → (R (.bool (decide ((ip0 : Int) ≤ (1073741824 : Int)))) w)) ∧ (¬ ((ip0 : Int) ≥ (0 : Int)) → (R (.bool false) w)))) :
    Pure Tryz.prog 55 #[(.int .i64 ip0)] w R :=
  pure_of_run (sensor_tick.cx w w.heap.size R) 100000 follows Tryz.func55 rfl rfl rfl rfl rfl rfl rfl (Eq.mp (by kernel_rfl) h)

def sensor_quality.L3 (Al17 : Option Addr) (nl17 cl17 : Nat) (il18 : Int) (il19 : Int) (B : Nat) (w : World) (R : Value → World → Prop) : Prop := At Tryz.prog 56 29 (loopAt Tryz.f56 3) [(17, .v (.slice Al17 nl17 cl17)), (18, .v (.int .i64 il18)), (19, .v (.int .i64 il19))] [] B w R
noncomputable def sensor_quality.cx (w : World) (B : Nat) (R : Value → World → Prop) : Cx := ⟨Tryz.prog, 56, 29, Tryz.f56.results.toList, [((true, 3), [17, 18, 19], [])], [(1, 0, 5), (1, 2, 5), (1, 4, 2), (5, 2, 4)], w, B, R⟩
theorem sensor_quality.L3.step (Al17 : Option Addr) (nl17 cl17 : Nat) (il18 : Int) (il19 : Int) (B : Nat) (w : World) (R : Value → World → Prop)
    (h : ((((il19 : Int) < il18) → ((0 ≤ il19 ∧ il19 < nl17) ∧ ∃ a9, Al17 = some a9 ∧ (∃ (i10 : Int) (f11 : Nat) (a11 k11 : Array Value), CellsAt w (a9.add ((il19).toNat * 2)) [(.int .i64 i10), (.func (.func f11) a11 k11)] ∧ (callable Tryz.prog f11 = true ∧ (∀ w12, Ext B [] w w12 → (Pure Tryz.prog f11 ((Array.toList a11) ++ ([] : List Value) ++ (Array.toList k11)).toArray w12 fun r14 w15 => ∃ (b13 : Bool), r14 = (.bool b13) ∧ ((b13 = true → (R (.int .i64 i10) w15)) ∧ (b13 = false → (inR .i64 (il19 + (1 : Int)) ∧ (sensor_quality.L3 Al17 nl17 cl17 il18 (il19 + (1 : Int)) B w15 R)))))))))) ∧ (¬ ((il19 : Int) < il18) → (R (.int .i64 (1 : Int)) w)))) :
    sensor_quality.L3 Al17 nl17 cl17 il18 il19 B w R :=
  loop_of_run (sensor_quality.cx w B R) 100000 (loopAt Tryz.f56 3) _ _ follows Tryz.func56 rfl rfl rfl (Eq.mp (by kernel_rfl) h)
theorem sensor_quality.vc (ip0_0 : Int) (sp0_1 : ByteArray) (sp0_2 : ByteArray) (sp0_3 : ByteArray) (sp0_4 : ByteArray) (sp0_5 : ByteArray) (sp0_6 : ByteArray) (ip1_0 : Int) (ip1_1 : Int) (ip1_2 : Int) (sp1_3 : ByteArray) (sp2 : ByteArray) (ip3 : Int) (w : World) (R : Value → World → Prop)
    (h : (∀ w1, Ext w.heap.size [] w w1 → (∀ p2 : Nat, w.heap.size ≤ p2 → w1.heap[p2]? = some (.cells [(.int .i64 ip0_0), (.string sp0_1), (.string sp0_2), (.string sp0_3), (.string sp0_4), (.string sp0_5), (.string sp0_6)].toArray 31 (0, 0)) → (∀ p3 : Nat, w.heap.size ≤ p3 → w1.heap[p3]? = some (.cells [(.string sp2)].toArray 23 (0, 0)) → (∀ p4 : Nat, w.heap.size ≤ p4 → w1.heap[p4]? = some (.cells [(.int .i64 ip3)].toArray 3 (0, 0)) → (∀ p5 : Nat, w.heap.size ≤ p5 → w1.heap[p5]? = some (.cells [(.int .i64 ip1_0), (.int .i64 ip1_1), (.int .i64 ip1_2), (.string sp1_3)].toArray 46 (0, 0)) → (RunOk Tryz.prog (Instr.buildSlice 124 2 #[(0, (.agg #[(.int .i64 (2 : Int)), (.func (.func 94) #[] #[(.pointer (some (⟨p3, 0, none⟩ : Addr))), (.pointer (some (⟨p2, 0, none⟩ : Addr)))])])), (1, (.agg #[(.int .i64 (3 : Int)), (.func (.func 95) #[] #[(.pointer (some (⟨p5, 0, none⟩ : Addr))), (.pointer (some (⟨p3, 0, none⟩ : Addr))), (.pointer (some (⟨p2, 0, none⟩ : Addr))), (.pointer (some (⟨p4, 0, none⟩ : Addr)))])]))]) w.heap.size [] w1 fun r7 w8 => ∃ (A6 : Option Addr) (n6 c6 : Nat), r7 = (.slice A6 n6 c6) ∧ (sensor_quality.L3 A6 n6 c6 (n6 : Int) (0 : Int) w.heap.size w8 R)))))))) :
    Pure Tryz.prog 56 #[(.agg #[(.int .i64 ip0_0), (.string sp0_1), (.string sp0_2), (.string sp0_3), (.string sp0_4), (.string sp0_5), (.string sp0_6)]), (.agg #[(.int .i64 ip1_0), (.int .i64 ip1_1), (.int .i64 ip1_2), (.string sp1_3)]), (.string sp2), (.int .i64 ip3)] w R :=
  pure_of_run (sensor_quality.cx w w.heap.size R) 100000 follows Tryz.func56 rfl rfl rfl rfl rfl rfl rfl (Eq.mp (by kernel_rfl) h)

noncomputable def sensor_sign.cx (w : World) (B : Nat) (R : Value → World → Prop) : Cx := ⟨Tryz.prog, 60, 5, Tryz.f60.results.toList, [], [], w, B, R⟩
theorem sensor_sign.vc (sp0 : ByteArray) (w : World) (R : Value → World → Prop)
    (h : (Pure Tryz.prog 65 #[(.string sp0), (.string (⟨#[48]⟩ : ByteArray))] w fun r2 w3 => ∃ (i1 : Int), r2 = (.int .i64 i1) ∧ (R (.int .i64 i1) w3))) :
    Pure Tryz.prog 60 #[(.string sp0)] w R :=
  pure_of_run (sensor_sign.cx w w.heap.size R) 100000 follows Tryz.func60 rfl rfl rfl rfl rfl rfl rfl (Eq.mp (by kernel_rfl) h)

noncomputable def sensor_Vote_c1.cx (w : World) (B : Nat) (R : Value → World → Prop) : Cx := ⟨Tryz.prog, 62, 7, Tryz.f62.results.toList, [], [], w, B, R⟩
theorem sensor_Vote_c1.vc (ip0_0 : Int) (ip0_1 : Int) (ip0_2 : Int) (sp0_3 : ByteArray) (w : World) (R : Value → World → Prop)
    (h : (∀ w1, Ext w.heap.size [] w w1 → (Pure Tryz.prog 47 #[(.string sp0_3)] w1 fun r3 w4 => ∃ (b2 : Bool), r3 = (.bool b2) ∧ (R (.bool (decide (b2 = false))) w4)))) :
    Pure Tryz.prog 62 #[(.agg #[(.int .i64 ip0_0), (.int .i64 ip0_1), (.int .i64 ip0_2), (.string sp0_3)])] w R :=
  pure_of_run (sensor_Vote_c1.cx w w.heap.size R) 100000 follows Tryz.func62 rfl rfl rfl rfl rfl rfl rfl (Eq.mp (by kernel_rfl) h)

noncomputable def sensor_sorted_put.cx (w : World) (B : Nat) (R : Value → World → Prop) : Cx := ⟨Tryz.prog, 63, 23, Tryz.f63.results.toList, [], [(1, 6, 2), (1, 7, 6)], w, B, R⟩
theorem sensor_sorted_put.vcB (p0 : Addr) (sp1 : ByteArray) (B : Nat) (w : World) (hB : B ≤ w.heap.size) (R : Value → World → Prop)
    (h : (∃ (A1 : Option Addr) (n1 c1 : Nat), CellsAt w p0 [(.slice A1 n1 c1)] ∧ (Pure Tryz.prog 98 #[(.slice A1 n1 c1), (.string sp1), (.func (.func 99) #[] #[])] w fun r4 w5 => ∃ (i2 : Int) (b3 : Bool), r4 = (.tuple #[(.int .i64 i2), (.bool b3)]) ∧ (∃ (A6 : Option Addr) (n6 c6 : Nat), CellsAt w5 p0 [(.slice A6 n6 c6)] ∧ (RunOk Tryz.prog (Instr.buildSlice 88 1 #[(0, (.string sp1))]) B [] w5 fun r8 w9 => ∃ (A7 : Option Addr) (n7 c7 : Nat), r8 = (.slice A7 n7 c7) ∧ (PureB Tryz.prog 100 #[(.slice A6 n6 c6), (.int .i64 i2), (.slice A7 n7 c7)] B w9 fun r11 w12 => (∀ (k ty : Nat) (cs : Array Value), ty ∈ ([] : List Nat) → w9.heap[k]? = some (.cells cs ty (0, 0)) → w12.heap[k]? = w9.heap[k]?) ∧ ∃ (A10 : Option Addr) (n10 c10 : Nat), r11 = (.slice A10 n10 c10) ∧ (∃ (cs13 : List Value) (t14 : Nat), B ≤ p0.block ∧ p0.spot = none ∧ w12.heap[p0.block]? = some (.cells cs13.toArray t14 (0, 0)) ∧ p0.off + 1 ≤ cs13.length ∧ hasType t14 [] = false ∧ ∀ w15, Wrote w12 w15 p0.block t14 (setCells cs13 p0.off [(.slice A10 n10 c10)]) → (R (.tuple #[]) w15)))))))) :
    PureB Tryz.prog 63 #[(.pointer (some p0)), (.string sp1)] B w R :=
  pureB_of_run (sensor_sorted_put.cx w B R) 100000 follows Tryz.func63 rfl rfl rfl rfl hB rfl rfl (Eq.mp (by kernel_rfl) h)

noncomputable def sensor_Vote_c2.cx (w : World) (B : Nat) (R : Value → World → Prop) : Cx := ⟨Tryz.prog, 64, 12, Tryz.f64.results.toList, [], [], w, B, R⟩
theorem sensor_Vote_c2.vc (sp0 : ByteArray) (q0 : Addr) (q1 : Addr) (w : World) (R : Value → World → Prop)
    (h : (∃ (s1 : ByteArray), CellsAt w q0 [(.string s1)] ∧ (∃ (s2 : ByteArray), CellsAt w q1 [(.string s2)] ∧ (∀ w3, Ext w.heap.size [] w w3 → (Pure Tryz.prog 67 #[(.string sp0), (.string s1)] w3 fun r5 w6 => ∃ (s4 : ByteArray), r5 = (.string s4) ∧ (Pure Tryz.prog 66 #[(.string s4)] w6 fun r8 w9 => ∃ (s7 : ByteArray), r8 = (.string s7) ∧ (Pure Tryz.prog 65 #[(.string s7), (.string s2)] w9 fun r11 w12 => ∃ (i10 : Int), r11 = (.int .i64 i10) ∧ (R (.bool (decide ((i10 : Int) > (0 : Int)))) w12)))))))) :
    Pure Tryz.prog 64 #[(.string sp0), (.pointer (some q0)), (.pointer (some q1))] w R :=
  pure_of_run (sensor_Vote_c2.cx w w.heap.size R) 100000 follows Tryz.func64 rfl rfl rfl rfl rfl rfl rfl (Eq.mp (by kernel_rfl) h)

noncomputable def sensor_compare.cx (w : World) (B : Nat) (R : Value → World → Prop) : Cx := ⟨Tryz.prog, 65, 14, Tryz.f65.results.toList, [], [], w, B, R⟩
theorem sensor_compare.vc (sp0 : ByteArray) (sp1 : ByteArray) (w : World) (R : Value → World → Prop)
    (h : (Pure Tryz.prog 101 #[(.string sp0), (.string sp1)] w fun r3 w4 => ∃ (i1 : Int) (i2 : Int), r3 = (.tuple #[(.int .i64 i1), (.int .i64 i2)]) ∧ (R (.int .i64 i1) w4))) :
    Pure Tryz.prog 65 #[(.string sp0), (.string sp1)] w R :=
  pure_of_run (sensor_compare.cx w w.heap.size R) 100000 follows Tryz.func65 rfl rfl rfl rfl rfl rfl rfl (Eq.mp (by kernel_rfl) h)

noncomputable def sensor_size.cx (w : World) (B : Nat) (R : Value → World → Prop) : Cx := ⟨Tryz.prog, 66, 9, Tryz.f66.results.toList, [], [], w, B, R⟩
theorem sensor_size.vc (sp0 : ByteArray) (w : World) (R : Value → World → Prop)
    (h : (Pure Tryz.prog 60 #[(.string sp0)] w fun r2 w3 => ∃ (i1 : Int), r2 = (.int .i64 i1) ∧ ((((i1 : Int) < (0 : Int)) → (Pure Tryz.prog 67 #[(.string (⟨#[48]⟩ : ByteArray)), (.string sp0)] w3 fun r5 w6 => ∃ (s4 : ByteArray), r5 = (.string s4) ∧ (R (.string s4) w6))) ∧ (¬ ((i1 : Int) < (0 : Int)) → (R (.string sp0) w3))))) :
    Pure Tryz.prog 66 #[(.string sp0)] w R :=
  pure_of_run (sensor_size.cx w w.heap.size R) 100000 follows Tryz.func66 rfl rfl rfl rfl rfl rfl rfl (Eq.mp (by kernel_rfl) h)

noncomputable def sensor_sub.cx (w : World) (B : Nat) (R : Value → World → Prop) : Cx := ⟨Tryz.prog, 67, 14, Tryz.f67.results.toList, [], [], w, B, R⟩
theorem sensor_sub.vc (sp0 : ByteArray) (sp1 : ByteArray) (w : World) (R : Value → World → Prop)
    (h : (Pure Tryz.prog 102 #[(.string sp0), (.string sp1)] w fun r3 w4 => ∃ (s1 : ByteArray) (i2 : Int), r3 = (.tuple #[(.string s1), (.int .i64 i2)]) ∧ (R (.string s1) w4))) :
    Pure Tryz.prog 67 #[(.string sp0), (.string sp1)] w R :=
  pure_of_run (sensor_sub.cx w w.heap.size R) 100000 follows Tryz.func67 rfl rfl rfl rfl rfl rfl rfl (Eq.mp (by kernel_rfl) h)

noncomputable def sensor_quality_c1.cx (w : World) (B : Nat) (R : Value → World → Prop) : Cx := ⟨Tryz.prog, 94, 15, Tryz.f94.results.toList, [], [], w, B, R⟩
theorem sensor_quality_c1.vc (q0 : Addr) (q1 : Addr) (w : World) (R : Value → World → Prop)
    (h : (∃ (s1 : ByteArray), CellsAt w q0 [(.string s1)] ∧ (∃ (s2 : ByteArray), CellsAt w (q1.add 4) [(.string s2)] ∧ (Pure Tryz.prog 65 #[(.string s1), (.string s2)] w fun r4 w5 => ∃ (i3 : Int), r4 = (.int .i64 i3) ∧ ((((i3 : Int) < (0 : Int)) → (R (.bool true) w5)) ∧ (¬ ((i3 : Int) < (0 : Int)) → (∃ (s6 : ByteArray), CellsAt w5 q0 [(.string s6)] ∧ (∃ (s7 : ByteArray), CellsAt w5 (q1.add 5) [(.string s7)] ∧ (Pure Tryz.prog 65 #[(.string s6), (.string s7)] w5 fun r9 w10 => ∃ (i8 : Int), r9 = (.int .i64 i8) ∧ (R (.bool (decide ((i8 : Int) > (0 : Int)))) w10)))))))))) :
    Pure Tryz.prog 94 #[(.pointer (some q0)), (.pointer (some q1))] w R :=
  pure_of_run (sensor_quality_c1.cx w w.heap.size R) 100000 follows Tryz.func94 rfl rfl rfl rfl rfl rfl rfl (Eq.mp (by kernel_rfl) h)

noncomputable def sensor_quality_c2.cx (w : World) (B : Nat) (R : Value → World → Prop) : Cx := ⟨Tryz.prog, 95, 25, Tryz.f95.results.toList, [], [], w, B, R⟩
theorem sensor_quality_c2.vc (q0 : Addr) (q1 : Addr) (q2 : Addr) (q3 : Addr) (w : World) (R : Value → World → Prop)
    (h : (∃ (i1 : Int), CellsAt w (q0.add 2) [(.int .i64 i1)] ∧ ((((i1 : Int) = (1 : Int)) → (∃ (s2 : ByteArray), CellsAt w q1 [(.string s2)] ∧ (∃ (s3 : ByteArray), CellsAt w (q0.add 3) [(.string s3)] ∧ (∃ (s4 : ByteArray), CellsAt w (q2.add 6) [(.string s4)] ∧ (∃ (i5 : Int), CellsAt w q3 [(.int .i64 i5)] ∧ (∃ (i6 : Int), CellsAt w (q0.add 1) [(.int .i64 i6)] ∧ (inR .i64 (i5 - i6) ∧ (∀ w7, Ext w.heap.size [] w w7 → (Pure Tryz.prog 67 #[(.string s2), (.string s3)] w7 fun r9 w10 => ∃ (s8 : ByteArray), r9 = (.string s8) ∧ (Pure Tryz.prog 66 #[(.string s8)] w10 fun r12 w13 => ∃ (s11 : ByteArray), r12 = (.string s11) ∧ (Pure Tryz.prog 96 #[(.int .i64 (i5 - i6))] w13 fun r15 w16 => ∃ (s14 : ByteArray), r15 = (.string s14) ∧ (Pure Tryz.prog 49 #[(.string s4), (.string s14)] w16 fun r18 w19 => ∃ (s17 : ByteArray), r18 = (.string s17) ∧ (Pure Tryz.prog 65 #[(.string s11), (.string s17)] w19 fun r21 w22 => ∃ (i20 : Int), r21 = (.int .i64 i20) ∧ (R (.bool (decide ((i20 : Int) > (0 : Int)))) w22)))))))))))))) ∧ (¬ ((i1 : Int) = (1 : Int)) → (∀ w23, Ext w.heap.size [] w w23 → (R (.bool false) w23)))))) :
    Pure Tryz.prog 95 #[(.pointer (some q0)), (.pointer (some q1)), (.pointer (some q2)), (.pointer (some q3))] w R :=
  pure_of_run (sensor_quality_c2.cx w w.heap.size R) 100000 follows Tryz.func95 rfl rfl rfl rfl rfl rfl rfl (Eq.mp (by kernel_rfl) h)

noncomputable def sensor_number.cx (w : World) (B : Nat) (R : Value → World → Prop) : Cx := ⟨Tryz.prog, 96, 5, Tryz.f96.results.toList, [], [], w, B, R⟩
theorem sensor_number.vc (ip0 : Int) (w : World) (R : Value → World → Prop)
    (h : (Pure Tryz.prog 117 #[(.int .i64 ip0)] w fun r2 w3 => ∃ (s1 : ByteArray), r2 = (.string s1) ∧ (R (.string s1) w3))) :
    Pure Tryz.prog 96 #[(.int .i64 ip0)] w R :=
  pure_of_run (sensor_number.cx w w.heap.size R) 100000 follows Tryz.func96 rfl rfl rfl rfl rfl rfl rfl (Eq.mp (by kernel_rfl) h)

noncomputable def sensor_sorted_put_c1.cx (w : World) (B : Nat) (R : Value → World → Prop) : Cx := ⟨Tryz.prog, 99, 8, Tryz.f99.results.toList, [], [], w, B, R⟩
theorem sensor_sorted_put_c1.vc (sp0 : ByteArray) (sp1 : ByteArray) (w : World) (R : Value → World → Prop)
    (h : (Pure Tryz.prog 65 #[(.string sp0), (.string sp1)] w fun r2 w3 => ∃ (i1 : Int), r2 = (.int .i64 i1) ∧ (R (.int .i64 i1) w3))) :
    Pure Tryz.prog 99 #[(.string sp0), (.string sp1)] w R :=
  pure_of_run (sensor_sorted_put_c1.cx w w.heap.size R) 100000 follows Tryz.func99 rfl rfl rfl rfl rfl rfl rfl (Eq.mp (by kernel_rfl) h)

end Go.Proofs.YtdoailkigecmkaaGreatDoor.F

namespace Go.Proofs.YtdoailkigecmkaaGreatDoor.B
open Go Go.RowKit Go.Proofs Go.Proofs.YtdoailkigecmkaaGreatDoor.Vc

theorem runOk_lit {t e sz bytes : Nat} (el : El Tryz.prog t e sz bytes) (xs : List Value) (hx : ∀ v ∈ xs, v.cells.size = sz) (hn : xs.length ≤ 1024) {B : Nat} {w : World} {tys : List Nat} (hB : B ≤ w.heap.size) {K : Option Addr → Nat → Nat → World → Prop}
    (h : ∀ A c w2, OwnR w2 w.heap.size e A xs.length c sz (xs.map fun v => v.cells.toList) → Below w.heap.size w w2 → K A xs.length c w2) :
    RunOk Tryz.prog (Instr.buildSlice t xs.length (xs.zipIdx.map fun x => (x.2, x.1)).toArray) B tys w fun r w1 => ∃ A n c, r = .slice A n c ∧ K A n c w1 := by
  have hr := run_buildAll el xs hx hn w
  have hg := World.grownBy_alloc w (.cells (xs.flatMap fun v => v.cells.toList).toArray e) none
  have hb : Below w.heap.size w (w.alloc (.cells (xs.flatMap fun v => v.cells.toList).toArray e)) := below_grown hg (by simp) (Nat.le_refl _)
  have hlen : (xs.flatMap fun v => v.cells.toList).length = xs.length * sz := by
    clear hr hg hb h
    induction xs with
    | nil => simp
    | cons x r ih =>
      have h1 := hx x (by simp)
      rw [List.flatMap_cons, List.length_append, ih (fun v hv => hx v (by simp [hv])) (by simp at hn; omega), List.length_cons, Nat.add_mul, Array.length_toList, h1]
      omega
  refine ⟨_, _, hr, hb.mono hB, hg.size, fun k ty cs _ hk => hg.block k (Array.getElem?_eq_some_iff.1 hk).1 (by simp), _, _, _, rfl, h _ _ _ ⟨⟨?_, .inr ⟨w.heap.size, xs.length, _, rfl, Nat.le_refl _, heap_alloc_new w _, Nat.le_refl _, by simp only [maxLen]; omega, ?_, ?_⟩⟩, by simp, ?_⟩ hb⟩
  · rw [← List.flatMap_def]
    exact hlen
  · rw [List.size_toArray]
    exact hlen
  · rw [← List.flatMap_def]
    exact List.take_of_length_le (by rw [hlen]; exact Nat.le_refl _)
  · intro r hr
    obtain ⟨v, hv, rfl⟩ := List.mem_map.1 hr
    simpa using hx v hv

structure Ch where
  id : Int
  name : ByteArray
  gain : ByteArray
  offset : ByteArray
  low : ByteArray
  high : ByteArray
  rate : ByteArray
structure Va where
  chan : Int
  tick : Int
  qual : Int
  num : ByteArray
abbrev Ch.row (c : Ch) : List Value := [.int .i64 c.id, .string c.name, .string c.gain, .string c.offset, .string c.low, .string c.high, .string c.rate]
abbrev Ch.val (c : Ch) : Value := .agg #[.int .i64 c.id, .string c.name, .string c.gain, .string c.offset, .string c.low, .string c.high, .string c.rate]
abbrev Va.row (v : Va) : List Value := [.int .i64 v.chan, .int .i64 v.tick, .int .i64 v.qual, .string v.num]
abbrev Va.val (v : Va) : Value := .agg #[.int .i64 v.chan, .int .i64 v.tick, .int .i64 v.qual, .string v.num]
def vR (s : ByteArray) : Bool := isRat (by_ s)
def qR (s : ByteArray) : Rat := valR (by_ s)
theorem vR_eq {s : ByteArray} (h : vR s = true) : s = rS (qR s) := by
  unfold rS qR
  rw [ratT_of h]
  rfl
theorem vR_sm {s : ByteArray} {k : Nat} (h : vR s = true) (hs : s.size ≤ k) : Sm k (qR s) := by
  refine Sm.text ?_
  unfold qR
  rw [ratT_of h]
  exact hs
abbrev SmS (s : ByteArray) : Prop := s.size ≤ 1000
structure SmC (c : Ch) : Prop where
  name : c.name.size < 2147483648
  gain : SmS c.gain
  offset : SmS c.offset
  low : SmS c.low
  high : SmS c.high
  rate : SmS c.rate

def faultOf (p : Option Ch) (c : Ch) : Int :=
  if ¬ (vR c.gain = true ∧ vR c.offset = true ∧ vR c.low = true ∧ vR c.high = true ∧ vR c.rate = true) then 1
  else if c.name.size < 1 ∨ 64 < c.name.size then 4
  else if c.id < 1 ∨ 1073741824 < c.id ∨ qR c.gain = 0 ∨ qR c.high < qR c.low ∨ ¬ 0 < qR c.rate then 2
  else if ∃ q, p = some q ∧ c.id ≤ q.id then 5
  else 0

theorem s0 : (⟨#[48]⟩ : ByteArray) = rS 0 := by
  unfold rS ratT
  have h1 : (0 : Rat).den = 1 := rfl
  have h2 : (0 : Rat).num = 0 := rfl
  rw [if_pos h1, h2, iS_0]
  rfl
theorem Sm.zero {k : Nat} (h : 1 ≤ k) : Sm k 0 := by
  have hp : 10 ^ 1 ≤ 10 ^ k := Nat.pow_le_pow_right (by omega) h
  have h1 : (0 : Rat).den = 1 := rfl
  have h2 : (0 : Rat).num = 0 := rfl
  exact ⟨by rw [h2]; simp; omega, by omega⟩

theorem sensor_add {w : World} {x y : Rat} (hg : Glob w) (hx : Big x) (hy : Big y) : Pure Tryz.prog 48 #[.string (rS x), .string (rS y)] w fun v _ => v = .string (rS (x + y)) := by
  refine F.sensor_add.vc _ _ _ _ (Pure.mono (rational_Add hg hx hy) ?_)
  rintro v w2 _ rfl
  exact ⟨_, _, rfl, rfl⟩
theorem sensor_sub {w : World} {x y : Rat} (hg : Glob w) (hx : Big x) (hy : Big y) : Pure Tryz.prog 67 #[.string (rS x), .string (rS y)] w fun v _ => v = .string (rS (x - y)) := by
  refine F.sensor_sub.vc _ _ _ _ (Pure.mono (rational_Sub hg hx hy) ?_)
  rintro v w2 _ rfl
  exact ⟨_, _, rfl, rfl⟩
theorem sensor_mul {w : World} {x y : Rat} (hg : Glob w) (hx : Big x) (hy : Big y) : Pure Tryz.prog 49 #[.string (rS x), .string (rS y)] w fun v _ => v = .string (rS (x * y)) := by
  refine F.sensor_mul.vc _ _ _ _ (Pure.mono (rational_Mul hg hx hy) ?_)
  rintro v w2 _ rfl
  exact ⟨_, _, rfl, rfl⟩
theorem sensor_compare {w : World} {x y : Rat} (hg : Glob w) (hx : Big x) (hy : Big y) : Pure Tryz.prog 65 #[.string (rS x), .string (rS y)] w fun v _ => v = .int .i64 (cmpR x y) := by
  refine F.sensor_compare.vc _ _ _ _ (Pure.mono (rational_Compare hg hx hy) ?_)
  rintro v w2 _ rfl
  exact ⟨_, _, rfl, rfl⟩
theorem sensor_sign {w : World} {x : Rat} (hg : Glob w) (hx : Big x) : Pure Tryz.prog 60 #[.string (rS x)] w fun v _ => v = .int .i64 (cmpR x 0) := by
  refine F.sensor_sign.vc _ _ _ ?_
  rw [s0]
  refine Pure.mono (sensor_compare hg hx (Sm.zero (by omega))) ?_
  rintro v w2 _ rfl
  exact ⟨_, rfl, rfl⟩
theorem rS_int (z : Int) : iS z = rS (z : Rat) := by
  unfold rS ratT
  have h1 : (z : Rat).den = 1 := rfl
  have h2 : (z : Rat).num = z := rfl
  rw [if_pos h1, h2]
  rfl
theorem sensor_number {w : World} {z : Int} (hg : Glob w) (h0 : -9223372036854775808 ≤ z) (h1 : z ≤ 9223372036854775807) : Pure Tryz.prog 96 #[.int .i64 z] w fun v _ => v = .string (rS (z : Rat)) := by
  refine F.sensor_number.vc _ _ _ (Pure.mono (Itoa10 hg z h0 h1) ?_)
  rintro v w2 _ rfl
  refine ⟨_, rfl, ?_⟩
  rw [rS_int]
def absR (x : Rat) : Rat := if x < 0 then -x else x
theorem Sm.abs {k : Nat} {x : Rat} (h : Sm k x) : Sm k (absR x) := by
  unfold absR
  split
  · exact h.neg
  · exact h
theorem sensor_size {w : World} {x : Rat} (hg : Glob w) (hx : Big x) : Pure Tryz.prog 66 #[.string (rS x)] w fun v _ => v = .string (rS (absR x)) := by
  refine F.sensor_size.vc _ _ _ (Pure.mono (sensor_sign hg hx) ?_)
  rintro v w2 k2 rfl
  refine ⟨_, rfl, fun h => ?_, fun h => ?_⟩
  · rw [cmpR_lt] at h
    rw [s0]
    refine Pure.mono (sensor_sub (hg.next k2) (Sm.zero (by omega)) hx) ?_
    rintro v w3 _ rfl
    refine ⟨_, rfl, ?_⟩
    have e : (0 : Rat) - x = -x := by rw [Rat.sub_eq_add_neg, Rat.zero_add]
    rw [e]
    unfold absR
    rw [if_pos h]
  · rw [cmpR_lt] at h
    unfold absR
    rw [if_neg h]
theorem sensor_tick (n : Int) (w : World) : Pure Tryz.prog 55 #[.int .i64 n] w fun v _ => v = .bool (decide (0 ≤ n ∧ n ≤ 1073741824)) := by
  refine F.sensor_tick.vc _ _ _ ⟨fun h => ?_, fun h => ?_⟩
  · congr 1
    simp
    omega
  · congr 1
    simp
    omega

theorem el_Rats : El Tryz.prog 88 23 1 16 := El.of (by kernel_rfl)

end Go.Proofs.YtdoailkigecmkaaGreatDoor.B

set_option maxRecDepth 100000
namespace Go.Proofs.YtdoailkigecmkaaGreatDoor.F
open Go Go.RowKit Go.Proofs Go.Proofs.YtdoailkigecmkaaGreatDoor.Vc
noncomputable def garboardref47_Num.cx (w : World) (B : Nat) (R : Value → World → Prop) : Cx := ⟨Tryz.prog, 104, 11, Tryz.f104.results.toList, [], [], w, B, R⟩
theorem garboardref47_Num.vc (sp0 : ByteArray) (w : World) (R : Value → World → Prop)
    (h : (∀ w1, Ext w.heap.size [] w w1 → (Pure Tryz.prog 34 #[(.string sp0)] w1 fun r6 w7 => ∃ (b2 : Bool) (A3 : Option Addr) (n3 c3 : Nat) (A4 : Option Addr) (n4 c4 : Nat) (b5 : Bool), r6 = (.tuple #[(.agg #[(.bool b2), (.slice A3 n3 c3), (.slice A4 n4 c4)]), (.bool b5)]) ∧ (∀ w8, Ext w.heap.size [62] w7 w8 → (R (.agg #[(.bool b2), (.slice A3 n3 c3), (.slice A4 n4 c4)]) w8))))) :
    Pure Tryz.prog 104 #[(.string sp0)] w R :=
  pure_of_run (garboardref47_Num.cx w w.heap.size R) 100000 follows Tryz.func104 rfl rfl rfl rfl rfl rfl rfl (Eq.mp (by kernel_rfl) h)

end Go.Proofs.YtdoailkigecmkaaGreatDoor.F
