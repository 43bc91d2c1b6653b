/- Part 7 of the proof that: The statement SensorOlder holds: what is seen as old is old in every later tick and with every lesser hold, and nothing else is changed; no condition beyond the card. -/
import Derived.Test.YtdoailkigecmkaaGreatDoorPOlder6
import Derived.Test.YtdoailkigecmkaaGreatDoorProg
import Derived.Test.YtdoailkigecmkaaGreatDoorCards
import Derived.Test.YtdoailkigecmkaaGreatDoorTie
import Derived.WalkKit
import Derived.ProofKit
import Derived.OpenShut
import Derived.Carry
import Derived.Deep.DeepHandedRow
import Derived.Deep.DeepWitnessRowRef
import Derived.Deep.Slices
import Derived.Deep.Fields
import Derived.Lib.SmallJoins
import Derived.Lib.LaidIn
import Derived.Lib.LaidTab
import Derived.Stop.LaidErr
import Derived.Shelf.Vars
import Derived.Laws.IdiomArrays
set_option linter.unusedVariables false
set_option maxRecDepth 100000
namespace Go.Proofs.YtdoailkigecmkaaGreatDoor.F
open Go Go.RowKit Go.Proofs Go.Proofs.YtdoailkigecmkaaGreatDoor.Vc
def garboardlaw55_SensorOlder.L12 (Al0 : Option Addr) (nl0 cl0 : Nat) (Al5 : Option Addr) (nl5 cl5 : Nat) (Al7 : Option Addr) (nl7 cl7 : Nat) (il71 : Int) (il72 : Int) (ilx3_0 : Int) (ilx3_1 : Int) (ilx3_2 : Int) (ilx3_3 : Int) (B : Nat) (w : World) (R : Value → World → Prop) : Prop := At Tryz.prog 9 145 (loopAt Tryz.f9 12) [(0, .v (.slice Al0 nl0 cl0)), (3, .loc 3 0), (5, .v (.slice Al5 nl5 cl5)), (7, .v (.slice Al7 nl7 cl7)), (71, .v (.int .i64 il71)), (72, .v (.int .i64 il72))] [⟨3, false, 73, [(.int .i64 ilx3_0), (.int .i64 ilx3_1), (.int .i64 ilx3_2), (.int .i64 ilx3_3)]⟩] B w R
noncomputable def garboardlaw55_SensorOlder.cx (w : World) (B : Nat) (R : Value → World → Prop) : Cx := ⟨Tryz.prog, 9, 145, Tryz.f9.results.toList, [((true, 12), [0, 3, 5, 7, 71, 72], [3])], [(16, 9999, 3)], w, B, R⟩
theorem garboardlaw55_SensorOlder.L12.step (Al0 : Option Addr) (nl0 cl0 : Nat) (Al5 : Option Addr) (nl5 cl5 : Nat) (Al7 : Option Addr) (nl7 cl7 : Nat) (il71 : Int) (il72 : Int) (ilx3_0 : Int) (ilx3_1 : Int) (ilx3_2 : Int) (ilx3_3 : Int) (B : Nat) (w : World) (R : Value → World → Prop)
    (h : ((((il72 : Int) < il71) → ((0 ≤ il72 ∧ il72 < nl0) ∧ ∃ a24, Al0 = some a24 ∧ (∃ (i25 : Int) (i26 : Int) (i27 : Int) (s28 : ByteArray), CellsAt w (a24.add ((il72).toNat * 4)) [(.int .i64 i25), (.int .i64 i26), (.int .i64 i27), (.string s28)] ∧ (∀ w29, Ext B [] w w29 → ((0 ≤ il72 ∧ il72 < nl5) ∧ ∃ a30, Al5 = some a30 ∧ (∃ (i31 : Int) (i32 : Int) (i33 : Int) (s34 : ByteArray), CellsAt w29 (a30.add ((il72).toNat * 4)) [(.int .i64 i31), (.int .i64 i32), (.int .i64 i33), (.string s34)] ∧ ((0 ≤ il72 ∧ il72 < nl0) ∧ ∃ a35, Al0 = some a35 ∧ (∃ (i36 : Int) (i37 : Int) (i38 : Int) (s39 : ByteArray), CellsAt w29 (a35.add ((il72).toNat * 4)) [(.int .i64 i36), (.int .i64 i37), (.int .i64 i38), (.string s39)] ∧ (((¬ (i31 = i36 ∧ i32 = i37 ∧ i33 = i38 ∧ s34 = s39 ∧ True)) → ((0 ≤ il72 ∧ il72 < nl5) ∧ ∃ a40, Al5 = some a40 ∧ (∃ (i41 : Int) (i42 : Int) (i43 : Int) (s44 : ByteArray), CellsAt w29 (a40.add ((il72).toNat * 4)) [(.int .i64 i41), (.int .i64 i42), (.int .i64 i43), (.string s44)] ∧ (((¬ (i41 = i25 ∧ i42 = i26 ∧ i43 = (4 : Int) ∧ s44 = s28 ∧ True)) → (∀ w45, Ext B [] w29 w45 → (R (.bool false) w45))) ∧ (¬ (¬ (i41 = i25 ∧ i42 = i26 ∧ i43 = (4 : Int) ∧ s44 = s28 ∧ True)) → ((0 ≤ il72 ∧ il72 < nl0) ∧ ∃ a46, Al0 = some a46 ∧ (∃ (i47 : Int), CellsAt w29 ((a46.add ((il72).toNat * 4)).add 2) [(.int .i64 i47)] ∧ ((((i47 : Int) = (0 : Int)) → ((0 ≤ il72 ∧ il72 < nl5) ∧ ∃ a48, Al5 = some a48 ∧ (∃ (i49 : Int) (i50 : Int) (i51 : Int) (s52 : ByteArray), CellsAt w29 (a48.add ((il72).toNat * 4)) [(.int .i64 i49), (.int .i64 i50), (.int .i64 i51), (.string s52)] ∧ ((0 ≤ il72 ∧ il72 < nl0) ∧ ∃ a53, Al0 = some a53 ∧ (∃ (i54 : Int) (i55 : Int) (i56 : Int) (s57 : ByteArray), CellsAt w29 (a53.add ((il72).toNat * 4)) [(.int .i64 i54), (.int .i64 i55), (.int .i64 i56), (.string s57)] ∧ (((¬ (i49 = i54 ∧ i50 = i55 ∧ i51 = i56 ∧ s52 = s57 ∧ True)) → (∀ w58, Ext B [] w29 w58 → (R (.bool false) w58))) ∧ (¬ (¬ (i49 = i54 ∧ i50 = i55 ∧ i51 = i56 ∧ s52 = s57 ∧ True)) → ((((ilx3_2 : Int) ≥ ilx3_0) → ((((ilx3_3 : Int) ≤ ilx3_1) → ((0 ≤ il72 ∧ il72 < nl5) ∧ ∃ a59, Al5 = some a59 ∧ (∀ w60, Ext B [] w29 w60 → (∃ (i61 : Int), CellsAt w60 ((a59.add ((il72).toNat * 4)).add 2) [(.int .i64 i61)] ∧ ((((i61 : Int) = (4 : Int)) → ((0 ≤ il72 ∧ il72 < nl7) ∧ ∃ a62, Al7 = some a62 ∧ (∃ (i63 : Int), CellsAt w60 ((a62.add ((il72).toNat * 4)).add 2) [(.int .i64 i63)] ∧ ((((i63 : Int) ≠ (4 : Int)) → (R (.bool false) w60)) ∧ (¬ ((i63 : Int) ≠ (4 : Int)) → (inR .i64 (il72 + (1 : Int)) ∧ (garboardlaw55_SensorOlder.L12 Al0 nl0 cl0 Al5 nl5 cl5 Al7 nl7 cl7 il71 (il72 + (1 : Int)) ilx3_0 ilx3_1 ilx3_2 ilx3_3 B w60 R))))))) ∧ (¬ ((i61 : Int) = (4 : Int)) → (inR .i64 (il72 + (1 : Int)) ∧ (garboardlaw55_SensorOlder.L12 Al0 nl0 cl0 Al5 nl5 cl5 Al7 nl7 cl7 il71 (il72 + (1 : Int)) ilx3_0 ilx3_1 ilx3_2 ilx3_3 B w60 R)))))))) ∧ (¬ ((ilx3_3 : Int) ≤ ilx3_1) → (inR .i64 (il72 + (1 : Int)) ∧ (∀ w64, Ext B [] w29 w64 → (garboardlaw55_SensorOlder.L12 Al0 nl0 cl0 Al5 nl5 cl5 Al7 nl7 cl7 il71 (il72 + (1 : Int)) ilx3_0 ilx3_1 ilx3_2 ilx3_3 B w64 R)))))) ∧ (¬ ((ilx3_2 : Int) ≥ ilx3_0) → (inR .i64 (il72 + (1 : Int)) ∧ (∀ w65, Ext B [] w29 w65 → (garboardlaw55_SensorOlder.L12 Al0 nl0 cl0 Al5 nl5 cl5 Al7 nl7 cl7 il71 (il72 + (1 : Int)) ilx3_0 ilx3_1 ilx3_2 ilx3_3 B w65 R)))))))))))) ∧ (¬ ((i47 : Int) = (0 : Int)) → ((((ilx3_2 : Int) ≥ ilx3_0) → ((((ilx3_3 : Int) ≤ ilx3_1) → ((0 ≤ il72 ∧ il72 < nl5) ∧ ∃ a66, Al5 = some a66 ∧ (∀ w67, Ext B [] w29 w67 → (∃ (i68 : Int), CellsAt w67 ((a66.add ((il72).toNat * 4)).add 2) [(.int .i64 i68)] ∧ ((((i68 : Int) = (4 : Int)) → ((0 ≤ il72 ∧ il72 < nl7) ∧ ∃ a69, Al7 = some a69 ∧ (∃ (i70 : Int), CellsAt w67 ((a69.add ((il72).toNat * 4)).add 2) [(.int .i64 i70)] ∧ ((((i70 : Int) ≠ (4 : Int)) → (R (.bool false) w67)) ∧ (¬ ((i70 : Int) ≠ (4 : Int)) → (inR .i64 (il72 + (1 : Int)) ∧ (garboardlaw55_SensorOlder.L12 Al0 nl0 cl0 Al5 nl5 cl5 Al7 nl7 cl7 il71 (il72 + (1 : Int)) ilx3_0 ilx3_1 ilx3_2 ilx3_3 B w67 R))))))) ∧ (¬ ((i68 : Int) = (4 : Int)) → (inR .i64 (il72 + (1 : Int)) ∧ (garboardlaw55_SensorOlder.L12 Al0 nl0 cl0 Al5 nl5 cl5 Al7 nl7 cl7 il71 (il72 + (1 : Int)) ilx3_0 ilx3_1 ilx3_2 ilx3_3 B w67 R)))))))) ∧ (¬ ((ilx3_3 : Int) ≤ ilx3_1) → (inR .i64 (il72 + (1 : Int)) ∧ (∀ w71, Ext B [] w29 w71 → (garboardlaw55_SensorOlder.L12 Al0 nl0 cl0 Al5 nl5 cl5 Al7 nl7 cl7 il71 (il72 + (1 : Int)) ilx3_0 ilx3_1 ilx3_2 ilx3_3 B w71 R)))))) ∧ (¬ ((ilx3_2 : Int) ≥ ilx3_0) → (inR .i64 (il72 + (1 : Int)) ∧ (∀ w72, Ext B [] w29 w72 → (garboardlaw55_SensorOlder.L12 Al0 nl0 cl0 Al5 nl5 cl5 Al7 nl7 cl7 il71 (il72 + (1 : Int)) ilx3_0 ilx3_1 ilx3_2 ilx3_3 B w72 R)))))))))))))) ∧ (¬ (¬ (i31 = i36 ∧ i32 = i37 ∧ i33 = i38 ∧ s34 = s39 ∧ True)) → ((0 ≤ il72 ∧ il72 < nl0) ∧ ∃ a73, Al0 = some a73 ∧ (∃ (i74 : Int), CellsAt w29 ((a73.add ((il72).toNat * 4)).add 2) [(.int .i64 i74)] ∧ ((((i74 : Int) = (0 : Int)) → ((0 ≤ il72 ∧ il72 < nl5) ∧ ∃ a75, Al5 = some a75 ∧ (∃ (i76 : Int) (i77 : Int) (i78 : Int) (s79 : ByteArray), CellsAt w29 (a75.add ((il72).toNat * 4)) [(.int .i64 i76), (.int .i64 i77), (.int .i64 i78), (.string s79)] ∧ ((0 ≤ il72 ∧ il72 < nl0) ∧ ∃ a80, Al0 = some a80 ∧ (∃ (i81 : Int) (i82 : Int) (i83 : Int) (s84 : ByteArray), CellsAt w29 (a80.add ((il72).toNat * 4)) [(.int .i64 i81), (.int .i64 i82), (.int .i64 i83), (.string s84)] ∧ (((¬ (i76 = i81 ∧ i77 = i82 ∧ i78 = i83 ∧ s79 = s84 ∧ True)) → (∀ w85, Ext B [] w29 w85 → (R (.bool false) w85))) ∧ (¬ (¬ (i76 = i81 ∧ i77 = i82 ∧ i78 = i83 ∧ s79 = s84 ∧ True)) → ((((ilx3_2 : Int) ≥ ilx3_0) → ((((ilx3_3 : Int) ≤ ilx3_1) → ((0 ≤ il72 ∧ il72 < nl5) ∧ ∃ a86, Al5 = some a86 ∧ (∀ w87, Ext B [] w29 w87 → (∃ (i88 : Int), CellsAt w87 ((a86.add ((il72).toNat * 4)).add 2) [(.int .i64 i88)] ∧ ((((i88 : Int) = (4 : Int)) → ((0 ≤ il72 ∧ il72 < nl7) ∧ ∃ a89, Al7 = some a89 ∧ (∃ (i90 : Int), CellsAt w87 ((a89.add ((il72).toNat * 4)).add 2) [(.int .i64 i90)] ∧ ((((i90 : Int) ≠ (4 : Int)) → (R (.bool false) w87)) ∧ (¬ ((i90 : Int) ≠ (4 : Int)) → (inR .i64 (il72 + (1 : Int)) ∧ (garboardlaw55_SensorOlder.L12 Al0 nl0 cl0 Al5 nl5 cl5 Al7 nl7 cl7 il71 (il72 + (1 : Int)) ilx3_0 ilx3_1 ilx3_2 ilx3_3 B w87 R))))))) ∧ (¬ ((i88 : Int) = (4 : Int)) → (inR .i64 (il72 + (1 : Int)) ∧ (garboardlaw55_SensorOlder.L12 Al0 nl0 cl0 Al5 nl5 cl5 Al7 nl7 cl7 il71 (il72 + (1 : Int)) ilx3_0 ilx3_1 ilx3_2 ilx3_3 B w87 R)))))))) ∧ (¬ ((ilx3_3 : Int) ≤ ilx3_1) → (inR .i64 (il72 + (1 : Int)) ∧ (∀ w91, Ext B [] w29 w91 → (garboardlaw55_SensorOlder.L12 Al0 nl0 cl0 Al5 nl5 cl5 Al7 nl7 cl7 il71 (il72 + (1 : Int)) ilx3_0 ilx3_1 ilx3_2 ilx3_3 B w91 R)))))) ∧ (¬ ((ilx3_2 : Int) ≥ ilx3_0) → (inR .i64 (il72 + (1 : Int)) ∧ (∀ w92, Ext B [] w29 w92 → (garboardlaw55_SensorOlder.L12 Al0 nl0 cl0 Al5 nl5 cl5 Al7 nl7 cl7 il71 (il72 + (1 : Int)) ilx3_0 ilx3_1 ilx3_2 ilx3_3 B w92 R)))))))))))) ∧ (¬ ((i74 : Int) = (0 : Int)) → ((((ilx3_2 : Int) ≥ ilx3_0) → ((((ilx3_3 : Int) ≤ ilx3_1) → ((0 ≤ il72 ∧ il72 < nl5) ∧ ∃ a93, Al5 = some a93 ∧ (∀ w94, Ext B [] w29 w94 → (∃ (i95 : Int), CellsAt w94 ((a93.add ((il72).toNat * 4)).add 2) [(.int .i64 i95)] ∧ ((((i95 : Int) = (4 : Int)) → ((0 ≤ il72 ∧ il72 < nl7) ∧ ∃ a96, Al7 = some a96 ∧ (∃ (i97 : Int), CellsAt w94 ((a96.add ((il72).toNat * 4)).add 2) [(.int .i64 i97)] ∧ ((((i97 : Int) ≠ (4 : Int)) → (R (.bool false) w94)) ∧ (¬ ((i97 : Int) ≠ (4 : Int)) → (inR .i64 (il72 + (1 : Int)) ∧ (garboardlaw55_SensorOlder.L12 Al0 nl0 cl0 Al5 nl5 cl5 Al7 nl7 cl7 il71 (il72 + (1 : Int)) ilx3_0 ilx3_1 ilx3_2 ilx3_3 B w94 R))))))) ∧ (¬ ((i95 : Int) = (4 : Int)) → (inR .i64 (il72 + (1 : Int)) ∧ (garboardlaw55_SensorOlder.L12 Al0 nl0 cl0 Al5 nl5 cl5 Al7 nl7 cl7 il71 (il72 + (1 : Int)) ilx3_0 ilx3_1 ilx3_2 ilx3_3 B w94 R)))))))) ∧ (¬ ((ilx3_3 : Int) ≤ ilx3_1) → (inR .i64 (il72 + (1 : Int)) ∧ (∀ w98, Ext B [] w29 w98 → (garboardlaw55_SensorOlder.L12 Al0 nl0 cl0 Al5 nl5 cl5 Al7 nl7 cl7 il71 (il72 + (1 : Int)) ilx3_0 ilx3_1 ilx3_2 ilx3_3 B w98 R)))))) ∧ (¬ ((ilx3_2 : Int) ≥ ilx3_0) → (inR .i64 (il72 + (1 : Int)) ∧ (∀ w99, Ext B [] w29 w99 → (garboardlaw55_SensorOlder.L12 Al0 nl0 cl0 Al5 nl5 cl5 Al7 nl7 cl7 il71 (il72 + (1 : Int)) ilx3_0 ilx3_1 ilx3_2 ilx3_3 B w99 R))))))))))))))))))) ∧ (¬ ((il72 : Int) < il71) → (R (.bool true) w)))) :
    garboardlaw55_SensorOlder.L12 Al0 nl0 cl0 Al5 nl5 cl5 Al7 nl7 cl7 il71 il72 ilx3_0 ilx3_1 ilx3_2 ilx3_3 B w R :=
  loop_of_run (garboardlaw55_SensorOlder.cx w B R) 100000 (loopAt Tryz.f9 12) _ _ follows Tryz.func9 rfl rfl rfl (Eq.mp (by kernel_rfl) h)
theorem garboardlaw55_SensorOlder.vc (Ap0 : Option Addr) (np0 cp0 : Nat) (ip1_0 : Int) (ip1_1 : Int) (ip1_2 : Int) (ip1_3 : Int) (w : World) (R : Value → World → Prop)
    (h : (∀ w1, Ext w.heap.size [] w w1 → (Pure Tryz.prog 10 #[] w1 fun r3 w4 => ∃ (b2 : Bool), r3 = (.bool b2) ∧ (((b2 = false) → (R (.bool false) w4)) ∧ (¬ (b2 = false) → (Pure Tryz.prog 11 #[(.slice none 0 0), (.slice Ap0 np0 cp0)] w4 fun r6 w7 => ∃ (b5 : Bool), r6 = (.bool b5) ∧ (((b5 = false) → (R (.bool true) w7)) ∧ (¬ (b5 = false) → (∀ w8, Ext w.heap.size [] w7 w8 → (Pure Tryz.prog 23 #[(.slice Ap0 np0 cp0)] w8 fun r10 w11 => ∃ (A9 : Option Addr) (n9 c9 : Nat), r10 = (.slice A9 n9 c9) ∧ (Pure Tryz.prog 25 #[(.slice A9 n9 c9), (.int .i64 ip1_0), (.int .i64 ip1_1)] w11 fun r14 w15 => ∃ (A12 : Option Addr) (n12 c12 : Nat) (i13 : Int), r14 = (.tuple #[(.slice A12 n12 c12), (.int .i64 i13)]) ∧ (∀ w16, Ext w.heap.size [] w15 w16 → (Pure Tryz.prog 23 #[(.slice Ap0 np0 cp0)] w16 fun r18 w19 => ∃ (A17 : Option Addr) (n17 c17 : Nat), r18 = (.slice A17 n17 c17) ∧ (Pure Tryz.prog 25 #[(.slice A17 n17 c17), (.int .i64 ip1_2), (.int .i64 ip1_3)] w19 fun r22 w23 => ∃ (A20 : Option Addr) (n20 c20 : Nat) (i21 : Int), r22 = (.tuple #[(.slice A20 n20 c20), (.int .i64 i21)]) ∧ ((((i13 : Int) ≠ (0 : Int)) → ((((i13 : Int) = (0 : Int)) → ((((i21 : Int) = (0 : Int)) → (R (.bool true) w23)) ∧ (¬ ((i21 : Int) = (0 : Int)) → (R (.bool (decide (((n20 : Int) : Int) = (0 : Int)))) w23)))) ∧ (¬ ((i13 : Int) = (0 : Int)) → (((((n12 : Int) : Int) = (0 : Int)) → ((((i21 : Int) = (0 : Int)) → (R (.bool true) w23)) ∧ (¬ ((i21 : Int) = (0 : Int)) → (R (.bool (decide (((n20 : Int) : Int) = (0 : Int)))) w23)))) ∧ (¬ (((n12 : Int) : Int) = (0 : Int)) → (R (.bool false) w23)))))) ∧ (¬ ((i13 : Int) ≠ (0 : Int)) → ((((i21 : Int) ≠ (0 : Int)) → ((((i13 : Int) = (0 : Int)) → ((((i21 : Int) = (0 : Int)) → (R (.bool true) w23)) ∧ (¬ ((i21 : Int) = (0 : Int)) → (R (.bool (decide (((n20 : Int) : Int) = (0 : Int)))) w23)))) ∧ (¬ ((i13 : Int) = (0 : Int)) → (((((n12 : Int) : Int) = (0 : Int)) → ((((i21 : Int) = (0 : Int)) → (R (.bool true) w23)) ∧ (¬ ((i21 : Int) = (0 : Int)) → (R (.bool (decide (((n20 : Int) : Int) = (0 : Int)))) w23)))) ∧ (¬ (((n12 : Int) : Int) = (0 : Int)) → (R (.bool false) w23)))))) ∧ (¬ ((i21 : Int) ≠ (0 : Int)) → (((((n12 : Int) : Int) ≠ (np0 : Int)) → (R (.bool false) w23)) ∧ (¬ (((n12 : Int) : Int) ≠ (np0 : Int)) → (((((n20 : Int) : Int) ≠ (np0 : Int)) → (R (.bool false) w23)) ∧ (¬ (((n20 : Int) : Int) ≠ (np0 : Int)) → (garboardlaw55_SensorOlder.L12 Ap0 np0 cp0 A12 n12 c12 A20 n20 c20 (np0 : Int) (0 : Int) ip1_0 ip1_1 ip1_2 ip1_3 w.heap.size w23 R))))))))))))))))))))))) :
    Pure Tryz.prog 9 #[(.slice Ap0 np0 cp0), (.agg #[(.int .i64 ip1_0), (.int .i64 ip1_1), (.int .i64 ip1_2), (.int .i64 ip1_3)])] w R :=
  pure_of_run (garboardlaw55_SensorOlder.cx w w.heap.size R) 100000 follows Tryz.func9 rfl rfl rfl rfl rfl rfl rfl (Eq.mp (by kernel_rfl) h)

noncomputable def garboardlaw55_awake.cx (w : World) (B : Nat) (R : Value → World → Prop) : Cx := ⟨Tryz.prog, 10, 139, Tryz.f10.results.toList, [], [(6, 3, 2), (8, 33, 2)], w, B, R⟩
theorem garboardlaw55_awake.vc  (w : World) (R : Value → World → Prop)
    (h : (Pure Tryz.prog 42 #[] w fun r2 w3 => ∃ (A1 : Option Addr) (n1 c1 : Nat), r2 = (.slice A1 n1 c1) ∧ (Pure Tryz.prog 15 #[(.slice A1 n1 c1)] w3 fun r6 w7 => ∃ (A4 : Option Addr) (n4 c4 : Nat) (i5 : Int), r6 = (.tuple #[(.slice A4 n4 c4), (.int .i64 i5)]) ∧ (Pure Tryz.prog 42 #[] w7 fun r9 w10 => ∃ (A8 : Option Addr) (n8 c8 : Nat), r9 = (.slice A8 n8 c8) ∧ (Pure Tryz.prog 22 #[(.slice A8 n8 c8), (.slice A4 n4 c4), (.agg #[(.int .i64 (4 : Int)), (.int .i64 (10 : Int)), (.string (⟨#[52]⟩ : ByteArray))])] w10 fun r13 w14 => ∃ (A11 : Option Addr) (n11 c11 : Nat) (i12 : Int), r13 = (.tuple #[(.slice A11 n11 c11), (.int .i64 i12)]) ∧ (Pure Tryz.prog 42 #[] w14 fun r16 w17 => ∃ (A15 : Option Addr) (n15 c15 : Nat), r16 = (.slice A15 n15 c15) ∧ (Pure Tryz.prog 22 #[(.slice A15 n15 c15), (.slice A11 n11 c11), (.agg #[(.int .i64 (4 : Int)), (.int .i64 (11 : Int)), (.string (⟨#[49, 52]⟩ : ByteArray))])] w17 fun r20 w21 => ∃ (A18 : Option Addr) (n18 c18 : Nat) (i19 : Int), r20 = (.tuple #[(.slice A18 n18 c18), (.int .i64 i19)]) ∧ (Pure Tryz.prog 25 #[(.slice A11 n11 c11), (.int .i64 (16 : Int)), (.int .i64 (5 : Int))] w21 fun r24 w25 => ∃ (A22 : Option Addr) (n22 c22 : Nat) (i23 : Int), r24 = (.tuple #[(.slice A22 n22 c22), (.int .i64 i23)]) ∧ (Pure Tryz.prog 42 #[] w25 fun r27 w28 => ∃ (A26 : Option Addr) (n26 c26 : Nat), r27 = (.slice A26 n26 c26) ∧ ((0 ≤ (0 : Int) ∧ (0 : Int) < n26) ∧ ∃ a29, A26 = some a29 ∧ (∃ (i30 : Int) (s31 : ByteArray) (s32 : ByteArray) (s33 : ByteArray) (s34 : ByteArray) (s35 : ByteArray) (s36 : ByteArray), CellsAt w28 (a29.add (((0 : Int)).toNat * 7)) [(.int .i64 i30), (.string s31), (.string s32), (.string s33), (.string s34), (.string s35), (.string s36)] ∧ (Pure Tryz.prog 20 #[(.agg #[(.int .i64 i30), (.string s31), (.string s32), (.string s33), (.string s34), (.string s35), (.string s36)]), (.string (⟨#[52]⟩ : ByteArray))] w28 fun r39 w40 => ∃ (s37 : ByteArray) (i38 : Int), r39 = (.tuple #[(.string s37), (.int .i64 i38)]) ∧ (RunOk Tryz.prog (Instr.buildSlice 32 3 #[(0, (.agg #[(.int .i64 (0 : Int)), (.int .i64 (0 : Int)), (.int .i64 (1 : Int)), (.string (⟨#[51]⟩ : ByteArray))])), (1, (.agg #[(.int .i64 (0 : Int)), (.int .i64 (0 : Int)), (.int .i64 (1 : Int)), (.string (⟨#[53]⟩ : ByteArray))])), (2, (.agg #[(.int .i64 (0 : Int)), (.int .i64 (0 : Int)), (.int .i64 (1 : Int)), (.string (⟨#[52]⟩ : ByteArray))]))]) w.heap.size [] w40 fun r42 w43 => ∃ (A41 : Option Addr) (n41 c41 : Nat), r42 = (.slice A41 n41 c41) ∧ (Pure Tryz.prog 27 #[(.slice A41 n41 c41), (.string (⟨#[49]⟩ : ByteArray))] w43 fun r47 w48 => ∃ (s44 : ByteArray) (b45 : Bool) (i46 : Int), r47 = (.tuple #[(.string s44), (.bool b45), (.int .i64 i46)]) ∧ (Pure Tryz.prog 42 #[] w48 fun r50 w51 => ∃ (A49 : Option Addr) (n49 c49 : Nat), r50 = (.slice A49 n49 c49) ∧ (Pure Tryz.prog 12 #[(.slice A49 n49 c49)] w51 fun r54 w55 => ∃ (i52 : Int) (i53 : Int), r54 = (.tuple #[(.int .i64 i52), (.int .i64 i53)]) ∧ ((((i5 : Int) = (0 : Int)) → ((((i12 : Int) = (0 : Int)) → ((((i19 : Int) = (0 : Int)) → ((((i23 : Int) = (0 : Int)) → ((((i38 : Int) = (0 : Int)) → ((((i46 : Int) = (0 : Int)) → ((((i53 : Int) = (0 : Int)) → ((((i52 : Int) = (-1 : Int)) → (RunOk Tryz.prog (Instr.buildSlice 32 1 #[(0, (.agg #[(.int .i64 (4 : Int)), (.int .i64 (10 : Int)), (.int .i64 (1 : Int)), (.string (⟨#[51]⟩ : ByteArray))]))]) w.heap.size [] w55 fun r57 w58 => ∃ (A56 : Option Addr) (n56 c56 : Nat), r57 = (.slice A56 n56 c56) ∧ (Pure Tryz.prog 43 #[(.slice A11 n11 c11), (.slice A56 n56 c56)] w58 fun r60 w61 => ∃ (b59 : Bool), r60 = (.bool b59) ∧ ((b59 = true → (((((n18 : Int) : Int) = (1 : Int)) → ((0 ≤ (0 : Int) ∧ (0 : Int) < n18) ∧ ∃ a62, A18 = some a62 ∧ (∃ (i63 : Int), CellsAt w61 ((a62.add (((0 : Int)).toNat * 4)).add 2) [(.int .i64 i63)] ∧ ((((i63 : Int) = (3 : Int)) → ((0 ≤ (0 : Int) ∧ (0 : Int) < n18) ∧ ∃ a64, A18 = some a64 ∧ (∃ (s65 : ByteArray), CellsAt w61 ((a64.add (((0 : Int)).toNat * 4)).add 3) [(.string s65)] ∧ (((s65 = (⟨#[56]⟩ : ByteArray)) → (((((n22 : Int) : Int) = (1 : Int)) → ((0 ≤ (0 : Int) ∧ (0 : Int) < n22) ∧ ∃ a66, A22 = some a66 ∧ (∃ (i67 : Int), CellsAt w61 ((a66.add (((0 : Int)).toNat * 4)).add 2) [(.int .i64 i67)] ∧ ((((i67 : Int) = (4 : Int)) → (((s37 = (⟨#[51]⟩ : ByteArray)) → (((s44 = (⟨#[52]⟩ : ByteArray)) → (R (.bool b45) w61)) ∧ (¬ (s44 = (⟨#[52]⟩ : ByteArray)) → (R (.bool false) w61)))) ∧ (¬ (s37 = (⟨#[51]⟩ : ByteArray)) → (R (.bool false) w61)))) ∧ (¬ ((i67 : Int) = (4 : Int)) → (R (.bool false) w61)))))) ∧ (¬ (((n22 : Int) : Int) = (1 : Int)) → (R (.bool false) w61)))) ∧ (¬ (s65 = (⟨#[56]⟩ : ByteArray)) → (R (.bool false) w61)))))) ∧ (¬ ((i63 : Int) = (3 : Int)) → (R (.bool false) w61)))))) ∧ (¬ (((n18 : Int) : Int) = (1 : Int)) → (R (.bool false) w61)))) ∧ (b59 = false → (R (.bool false) w61)))))) ∧ (¬ ((i52 : Int) = (-1 : Int)) → (R (.bool false) w55)))) ∧ (¬ ((i53 : Int) = (0 : Int)) → (R (.bool false) w55)))) ∧ (¬ ((i46 : Int) = (0 : Int)) → (R (.bool false) w55)))) ∧ (¬ ((i38 : Int) = (0 : Int)) → (R (.bool false) w55)))) ∧ (¬ ((i23 : Int) = (0 : Int)) → (R (.bool false) w55)))) ∧ (¬ ((i19 : Int) = (0 : Int)) → (R (.bool false) w55)))) ∧ (¬ ((i12 : Int) = (0 : Int)) → (R (.bool false) w55)))) ∧ (¬ ((i5 : Int) = (0 : Int)) → (R (.bool false) w55))))))))))))))))))) :
    Pure Tryz.prog 10 #[] w R :=
  pure_of_run (garboardlaw55_awake.cx w w.heap.size R) 100000 follows Tryz.func10 rfl rfl rfl rfl rfl rfl rfl (Eq.mp (by kernel_rfl) h)

noncomputable def garboardlaw55_One.cx (w : World) (B : Nat) (R : Value → World → Prop) : Cx := ⟨Tryz.prog, 42, 3, Tryz.f42.results.toList, [], [(1, 1, 2)], w, B, R⟩
theorem garboardlaw55_One.vc  (w : World) (R : Value → World → Prop)
    (h : (RunOk Tryz.prog (Instr.buildSlice 22 1 #[(0, (.agg #[(.int .i64 (4 : Int)), (.string (⟨#[100, 114, 97, 102, 116]⟩ : ByteArray)), (.string (⟨#[49, 47, 50]⟩ : ByteArray)), (.string (⟨#[49]⟩ : ByteArray)), (.string (⟨#[48]⟩ : ByteArray)), (.string (⟨#[49, 48]⟩ : ByteArray)), (.string (⟨#[50]⟩ : ByteArray))]))]) w.heap.size [] w fun r2 w3 => ∃ (A1 : Option Addr) (n1 c1 : Nat), r2 = (.slice A1 n1 c1) ∧ (R (.slice A1 n1 c1) w3))) :
    Pure Tryz.prog 42 #[] w R :=
  pure_of_run (garboardlaw55_One.cx w w.heap.size R) 100000 follows Tryz.func42 rfl rfl rfl rfl rfl rfl rfl (Eq.mp (by kernel_rfl) h)

end Go.Proofs.YtdoailkigecmkaaGreatDoor.F

namespace Go.Proofs.YtdoailkigecmkaaGreatDoor.B
open Go Go.RowKit Go.Proofs Go.Proofs.YtdoailkigecmkaaGreatDoor.Vc

theorem law_One (w : World) : Pure Tryz.prog 42 #[] w fun v w' => ∃ A c, v = .slice A 1 c ∧ OwnR w' w.heap.size 31 A 1 c 7 [oneC.row] := by
  refine F.garboardlaw55_One.vc _ _ ?_
  refine runOk_lit el_Chs [oneC.val] (by simp [Value.cells]) (by simp) (Nat.le_refl _) fun A c w2 ho b2 => ⟨A, c, rfl, ?_⟩
  exact ho

theorem EqualV {w0 : World} {A A1 : Option Addr} {n c c1 : Nat} {v : List Va} (h : SlR w0 A 4 (v.map Va.row)) (h1 : SlR w0 A1 4 (v.map Va.row)) (hlen : v.length = n) (hn : n < 2147483648) :
    Pure Tryz.prog 43 #[.slice A n c, .slice A1 n c1] w0 fun y _ => y = .bool true := by
  have key : ∀ (d i : Nat) (w : World), n - i = d → i ≤ n → Below w0.heap.size w0 w → F.slices_Equal_api_Value_api_Value.L4 A n c A1 n c1 n i w0.heap.size w fun y _ => y = .bool true := by
    intro d
    induction d with
    | zero => intro i w hd hi hw; exact F.slices_Equal_api_Value_api_Value.L4.step _ _ _ _ _ _ _ _ _ _ _ ⟨fun h => by omega, fun _ => rfl⟩
    | succ d ih =>
      intro i w hd hi hw
      have hil : i < v.length := by omega
      obtain ⟨hb, a, hA, hrow⟩ := (h.keep hw (Nat.le_refl _)).load (n := n) (by simpa using hlen) (j := (i : Int)) (by omega) (by omega)
      obtain ⟨hcell, _⟩ := hrow v[i].row (by rw [Int.toNat_natCast]; simp [hil]) rfl
      obtain ⟨hb2, a2, hA2, hrow2⟩ := (h1.keep hw (Nat.le_refl _)).load (n := n) (by simpa using hlen) (j := (i : Int)) (by omega) (by omega)
      obtain ⟨hcell2, _⟩ := hrow2 v[i].row (by rw [Int.toNat_natCast]; simp [hil]) rfl
      refine F.slices_Equal_api_Value_api_Value.L4.step _ _ _ _ _ _ _ _ _ _ _ ⟨fun _ => ⟨hb, a, hA, _, _, _, _, hcell, hb2, a2, hA2, _, _, _, _, hcell2, fun k => absurd ⟨rfl, rfl, rfl, rfl, trivial⟩ k, fun _ => ⟨by simp only [inR]; omega, fun w2 x2 => ?_⟩⟩, fun h => by omega⟩
      have e3 : (i : Int) + 1 = ((i + 1 : Nat) : Int) := by omega
      rw [e3]
      exact ih (i + 1) w2 (by omega) (by omega) (kE hw x2)
  exact F.slices_Equal_api_Value_api_Value.vc _ _ _ _ _ _ _ _ ⟨fun h => absurd rfl h, fun _ => key n 0 w0 rfl (by omega) (Below.refl _ _)⟩

theorem smC_one : ∀ x ∈ [oneC], SmC x := by
  intro x hx
  rw [List.mem_singleton] at hx
  subst hx
  exact ⟨by decide, by unfold SmS; decide, by unfold SmS; decide, by unfold SmS; decide, by unfold SmS; decide, by unfold SmS; decide⟩

set_option maxRecDepth 4000 in
theorem law_awake {w : World} (hg : Glob w) : Pure Tryz.prog 10 #[] w fun v _ => v = .bool true := by
  have sV : ∀ (a b q : Int) (s : ByteArray), SmS s → ∀ x ∈ ([⟨a, b, q, s⟩] : List Va), SmV x := by
    intro a b q s hs x hx
    rw [List.mem_singleton] at hx
    subst hx
    exact hs
  refine F.garboardlaw55_awake.vc _ _ (Pure.mono (law_One w) ?_)
  rintro y w1 b1 ⟨A1, c1, rfl, o1⟩
  have g1 := hg.next b1
  refine ⟨_, _, _, rfl, Pure.mono (sensor_Start g1 (l := [oneC]) o1.sl rfl smC_one) ?_⟩
  rintro y w2 b2 ⟨_, k2⟩
  obtain ⟨A2, c2, rfl, o2⟩ := k2 (by rw [one_check])
  have g2 := g1.next b2
  refine ⟨_, _, _, _, rfl, Pure.mono (law_One w2) ?_⟩
  rintro y w3 b3 ⟨A3, c3, rfl, o3⟩
  have g3 := g2.next b3
  refine ⟨_, _, _, rfl, Pure.mono (sensor_Take g3 (l := [oneC]) (v := startF [oneC]) (chan := 4) (tick := 10) (raw := ⟨#[52]⟩) o3.sl rfl (o2.below b3).sl rfl (by omega) smC_one (sV _ _ _ _ (by unfold SmS; decide)) (by unfold SmS; decide)) ?_⟩
  rintro y w4 b4 k4
  rw [one_take1] at k4
  obtain ⟨A4, c4, rfl, o4⟩ := k4
  have g4 := g3.next b4
  refine ⟨_, _, _, _, rfl, Pure.mono (law_One w4) ?_⟩
  rintro y w5 b5 ⟨A5, c5, rfl, o5⟩
  have g5 := g4.next b5
  have o4a := o4.below b5
  refine ⟨_, _, _, rfl, Pure.mono (sensor_Take g5 (l := [oneC]) (v := [⟨4, 10, 1, ⟨#[51]⟩⟩]) (chan := 4) (tick := 11) (raw := ⟨#[49, 52]⟩) o5.sl rfl o4a.sl rfl (by omega) smC_one (sV _ _ _ _ (by unfold SmS; decide)) (by unfold SmS; decide)) ?_⟩
  rintro y w6 b6 k6
  rw [one_take2] at k6
  obtain ⟨A6, c6, rfl, o6⟩ := k6
  have g6 := g5.next b6
  have o4b := o4a.below b6
  refine ⟨_, _, _, _, rfl, Pure.mono (sensor_See (v := [⟨4, 10, 1, ⟨#[51]⟩⟩]) (at_ := 16) (hold := 5) o4b.sl rfl) ?_⟩
  rintro y w7 b7 k7
  rw [one_see] at k7
  obtain ⟨A7, c7, rfl, o7⟩ := k7
  have g7 := g6.next b7
  have o4c := o4b.below b7
  have o6a := o6.below b7
  refine ⟨_, _, _, _, rfl, Pure.mono (law_One w7) ?_⟩
  rintro y w8 b8 ⟨A8, c8, rfl, o8⟩
  have g8 := g7.next b8
  have o4d := o4c.below b8
  have o6b := o6a.below b8
  have o7a := o7.below b8
  obtain ⟨hb, a, hA, hrow⟩ := o8.sl.load (n := 1) rfl (j := 0) (by omega) (by omega)
  obtain ⟨hcell, _⟩ := hrow _ rfl rfl
  refine ⟨_, _, _, rfl, hb, a, hA, _, _, _, _, _, _, _, hcell, Pure.mono (sensor_Number g8 (c := oneC) (raw := ⟨#[52]⟩) (smC_one _ (by simp)) (by unfold SmS; decide)) ?_⟩
  rintro y w9 b9 rfl
  rw [one_number]
  have g9 := g8.next b9
  have o4e := o4d.below b9
  have o6c := o6b.below b9
  have o7b := o7a.below b9
  have hb9 := kP (kP (kP (kP (kP (kP (kP (kP b1 b2) b3) b4) b5) b6) b7) b8) b9
  refine ⟨_, _, rfl, ?_⟩
  refine runOk_lit el_Vas (threeV.map Va.val) (by simp [threeV, Value.cells]) (by simp [threeV]) hb9.size fun A10 c10 w10 o10 b10 => ?_
  have g10 := g9.next b10
  have o4f := o4e.below b10
  have o6d := o6c.below b10
  have o7c := o7b.below b10
  have hb10 := kP hb9 b10
  refine Pure.mono (sensor_Vote g10 (v := threeV) (n := 3) (tol := ⟨#[49]⟩) o10.sl rfl (by omega) (fun x hx => ?_) (by unfold SmS; decide)) ?_
  · simp only [threeV, List.mem_cons, List.not_mem_nil, or_false] at hx
    rcases hx with rfl | rfl | rfl <;> (show SmS _; unfold SmS; decide)
  rintro y w11 b11 rfl
  rw [one_vote]
  have g11 := g10.next b11
  have o4g := o4f.below b11
  have o6e := o6d.below b11
  have o7d := o7c.below b11
  have hb11 := kP hb10 b11
  refine ⟨_, _, _, rfl, Pure.mono (law_One w11) ?_⟩
  rintro y w12 b12 ⟨A12, c12, rfl, o12⟩
  have g12 := g11.next b12
  have o4h := o4g.below b12
  have o6f := o6e.below b12
  have o7e := o7d.below b12
  have hb12 := kP hb11 b12
  refine ⟨_, _, _, rfl, Pure.mono (sensor_Check g12 (l := [oneC]) o12.sl rfl smC_one) ?_⟩
  rintro y w13 b13 rfl
  rw [one_check]
  have g13 := g12.next b13
  have o4i := o4h.below b13
  have o6g := o6f.below b13
  have o7f := o7e.below b13
  have hb13 := kP hb12 b13
  refine ⟨_, _, rfl, fun _ => ⟨fun _ => ⟨fun _ => ⟨fun _ => ⟨fun _ => ⟨fun _ => ⟨fun _ => ⟨fun _ => ?_, fun k => absurd rfl k⟩, fun k => absurd rfl k⟩, fun k => absurd rfl k⟩, fun k => absurd rfl k⟩, fun k => absurd rfl k⟩, fun k => absurd rfl k⟩, fun k => absurd rfl k⟩, fun k => absurd rfl k⟩
  refine runOk_lit el_Vas [(⟨4, 10, 1, ⟨#[51]⟩⟩ : Va).val] (by simp [Value.cells]) (by simp) hb13.size fun A14 c14 w14 o14 b14 => ?_
  have o4j := o4i.below b14
  have o6h := o6g.below b14
  have o7g := o7f.below b14
  refine Pure.mono (EqualV (v := [⟨4, 10, 1, ⟨#[51]⟩⟩]) o4j.sl o14.sl rfl (by omega)) ?_
  rintro y w15 b15 rfl
  have o6i := o6h.below b15
  have o7h := o7g.below b15
  obtain ⟨q1, a1, hA1, hrow1⟩ := o6i.sl.load (n := 1) rfl (j := 0) (by omega) (by omega)
  obtain ⟨_, hcell1⟩ := hrow1 _ rfl rfl
  obtain ⟨q2, a2, hA2, hrow2⟩ := o7h.sl.load (n := 1) rfl (j := 0) (by omega) (by omega)
  obtain ⟨_, hcell2⟩ := hrow2 _ rfl rfl
  refine ⟨_, rfl, fun _ => ⟨fun _ => ⟨q1, a1, hA1, _, hcell1 2 _ rfl, fun _ => ⟨q1, a1, hA1, _, hcell1 3 _ rfl, fun _ => ⟨fun _ => ⟨q2, a2, hA2, _, hcell2 2 _ rfl, fun _ => ⟨fun _ => ⟨fun _ => rfl, fun k => absurd rfl k⟩, fun k => absurd rfl k⟩, fun k => absurd rfl k⟩, fun k => absurd rfl k⟩, fun k => absurd rfl k⟩, fun k => absurd rfl k⟩, fun k => absurd rfl k⟩, fun k => by cases k⟩
end Go.Proofs.YtdoailkigecmkaaGreatDoor.B

set_option linter.unusedVariables false
set_option maxRecDepth 100000
namespace Go.Proofs.YtdoailkigecmkaaGreatDoor.F
open Go Go.RowKit Go.Proofs Go.Proofs.YtdoailkigecmkaaGreatDoor.Vc
def garboardref55_Few.L2 (Al0 : Option Addr) (nl0 cl0 : Nat) (Al1 : Option Addr) (nl1 cl1 : Nat) (il5 : Int) (B : Nat) (w : World) (R : Value → World → Prop) : Prop := At Tryz.prog 11 73 (loopAt Tryz.f11 2) [(0, .v (.slice Al0 nl0 cl0)), (1, .v (.slice Al1 nl1 cl1)), (5, .v (.int .i64 il5))] [] B w R
def garboardref55_Few.L8 (Al0 : Option Addr) (nl0 cl0 : Nat) (Al1 : Option Addr) (nl1 cl1 : Nat) (il7 : Int) (B : Nat) (w : World) (R : Value → World → Prop) : Prop := At Tryz.prog 11 73 (loopAt Tryz.f11 8) [(0, .v (.slice Al0 nl0 cl0)), (1, .v (.slice Al1 nl1 cl1)), (7, .v (.int .i64 il7))] [] B w R
noncomputable def garboardref55_Few.cx (w : World) (B : Nat) (R : Value → World → Prop) : Cx := ⟨Tryz.prog, 11, 73, Tryz.f11.results.toList, [((true, 2), [0, 1, 5], []), ((true, 8), [0, 1, 7], [])], [], w, B, R⟩
theorem garboardref55_Few.L2.step (Al0 : Option Addr) (nl0 cl0 : Nat) (Al1 : Option Addr) (nl1 cl1 : Nat) (il5 : Int) (B : Nat) (w : World) (R : Value → World → Prop)
    (h : ((((il5 : Int) < (nl0 : Int)) → ((0 ≤ il5 ∧ il5 < nl0) ∧ ∃ a1, Al0 = some a1 ∧ (∃ (i2 : Int) (s3 : ByteArray) (s4 : ByteArray) (s5 : ByteArray) (s6 : ByteArray) (s7 : ByteArray) (s8 : ByteArray), CellsAt w (a1.add ((il5).toNat * 7)) [(.int .i64 i2), (.string s3), (.string s4), (.string s5), (.string s6), (.string s7), (.string s8)] ∧ (((((ByteArray.size s3 : Int) : Int) > (70 : Int)) → (∀ w9, Ext B [] w w9 → (R (.bool false) w9))) ∧ (¬ (((ByteArray.size s3 : Int) : Int) > (70 : Int)) → (((((ByteArray.size s4 : Int) : Int) > (40 : Int)) → (∀ w10, Ext B [] w w10 → (R (.bool false) w10))) ∧ (¬ (((ByteArray.size s4 : Int) : Int) > (40 : Int)) → (((((ByteArray.size s5 : Int) : Int) > (40 : Int)) → (∀ w11, Ext B [] w w11 → (R (.bool false) w11))) ∧ (¬ (((ByteArray.size s5 : Int) : Int) > (40 : Int)) → (((((ByteArray.size s6 : Int) : Int) > (40 : Int)) → (∀ w12, Ext B [] w w12 → (R (.bool false) w12))) ∧ (¬ (((ByteArray.size s6 : Int) : Int) > (40 : Int)) → (((((ByteArray.size s7 : Int) : Int) > (40 : Int)) → (∀ w13, Ext B [] w w13 → (R (.bool false) w13))) ∧ (¬ (((ByteArray.size s7 : Int) : Int) > (40 : Int)) → (((((ByteArray.size s8 : Int) : Int) > (40 : Int)) → (∀ w14, Ext B [] w w14 → (R (.bool false) w14))) ∧ (¬ (((ByteArray.size s8 : Int) : Int) > (40 : Int)) → (inR .i64 (il5 + (1 : Int)) ∧ (∀ w15, Ext B [] w w15 → (garboardref55_Few.L2 Al0 nl0 cl0 Al1 nl1 cl1 (il5 + (1 : Int)) B w15 R)))))))))))))))))) ∧ (¬ ((il5 : Int) < (nl0 : Int)) → (garboardref55_Few.L8 Al0 nl0 cl0 Al1 nl1 cl1 (0 : Int) B w R)))) :
    garboardref55_Few.L2 Al0 nl0 cl0 Al1 nl1 cl1 il5 B w R :=
  loop_of_run (garboardref55_Few.cx w B R) 100000 (loopAt Tryz.f11 2) _ _ follows Tryz.func11 rfl rfl rfl (Eq.mp (by kernel_rfl) h)
theorem garboardref55_Few.L8.step (Al0 : Option Addr) (nl0 cl0 : Nat) (Al1 : Option Addr) (nl1 cl1 : Nat) (il7 : Int) (B : Nat) (w : World) (R : Value → World → Prop)
    (h : ((((il7 : Int) < (nl1 : Int)) → ((0 ≤ il7 ∧ il7 < nl1) ∧ ∃ a16, Al1 = some a16 ∧ (∃ (s17 : ByteArray), CellsAt w ((a16.add ((il7).toNat * 4)).add 3) [(.string s17)] ∧ (((((ByteArray.size s17 : Int) : Int) > (40 : Int)) → (R (.bool false) w)) ∧ (¬ (((ByteArray.size s17 : Int) : Int) > (40 : Int)) → (inR .i64 (il7 + (1 : Int)) ∧ (garboardref55_Few.L8 Al0 nl0 cl0 Al1 nl1 cl1 (il7 + (1 : Int)) B w R))))))) ∧ (¬ ((il7 : Int) < (nl1 : Int)) → (((((nl0 : Int) : Int) ≤ (17 : Int)) → (R (.bool (decide (((nl1 : Int) : Int) ≤ (17 : Int)))) w)) ∧ (¬ (((nl0 : Int) : Int) ≤ (17 : Int)) → (R (.bool false) w)))))) :
    garboardref55_Few.L8 Al0 nl0 cl0 Al1 nl1 cl1 il7 B w R :=
  loop_of_run (garboardref55_Few.cx w B R) 100000 (loopAt Tryz.f11 8) _ _ follows Tryz.func11 rfl rfl rfl (Eq.mp (by kernel_rfl) h)
theorem garboardref55_Few.vc (Ap0 : Option Addr) (np0 cp0 : Nat) (Ap1 : Option Addr) (np1 cp1 : Nat) (w : World) (R : Value → World → Prop)
    (h : (garboardref55_Few.L2 Ap0 np0 cp0 Ap1 np1 cp1 (0 : Int) w.heap.size w R)) :
    Pure Tryz.prog 11 #[(.slice Ap0 np0 cp0), (.slice Ap1 np1 cp1)] w R :=
  pure_of_run (garboardref55_Few.cx w w.heap.size R) 100000 follows Tryz.func11 rfl rfl rfl rfl rfl rfl rfl (Eq.mp (by kernel_rfl) h)

end Go.Proofs.YtdoailkigecmkaaGreatDoor.F

namespace Go.Proofs.YtdoailkigecmkaaGreatDoor.B
open Go Go.RowKit Go.Proofs Go.Proofs.YtdoailkigecmkaaGreatDoor.Vc

def few1 (c : Ch) : Bool := decide (c.name.size ≤ 70 ∧ c.gain.size ≤ 40 ∧ c.offset.size ≤ 40 ∧ c.low.size ≤ 40 ∧ c.high.size ≤ 40 ∧ c.rate.size ≤ 40)
def fewV (v : Va) : Bool := decide (v.num.size ≤ 40)
def fewF (l : List Ch) (v : List Va) : Bool := l.all few1 && v.all fewV && decide (l.length ≤ 17 ∧ v.length ≤ 17)

theorem few_loop2 {w0 : World} {A A1 : Option Addr} {n n1 c c1 : Nat} {l : List Ch} {v : List Va} (hv : SlR w0 A1 4 (v.map Va.row)) (hlen : l.length = n) (hvlen : v.length = n1) (hn1 : n1 < 9223372036854775808) (hl : l.all few1 = true) {R : Value → World → Prop} (hR : ∀ w, R (.bool (fewF l v)) w) :
    ∀ (d i : Nat) (w : World), n1 - i = d → i ≤ n1 → Below w0.heap.size w0 w → (∀ x ∈ v.take i, fewV x = true) → F.garboardref55_Few.L8 A n c A1 n1 c1 i w0.heap.size w R := by
  intro d
  induction d with
  | zero =>
    intro i w hd hi hw hx
    have : i = n1 := by omega
    subst this
    rw [List.take_of_length_le (by omega)] at hx
    have hv' : v.all fewV = true := List.all_eq_true.2 hx
    refine F.garboardref55_Few.L8.step _ _ _ _ _ _ _ _ _ _ ⟨fun h => by omega, fun _ => ⟨fun h => ?_, fun h => ?_⟩⟩
    · have := hR w
      unfold fewF at this
      rw [hl, hv', Bool.true_and, Bool.true_and] at this
      have e : decide (((i : Nat) : Int) ≤ 17) = decide (l.length ≤ 17 ∧ v.length ≤ 17) := by
        rw [decide_eq_decide]
        omega
      rw [e]
      exact this
    · have := hR w
      unfold fewF at this
      rw [hl, hv', Bool.true_and, Bool.true_and, decide_eq_false (by omega)] at this
      exact this
  | succ d ih =>
    intro i w hd hi hw hx
    have hil : i < v.length := by omega
    obtain ⟨hb, a, hA, hrow⟩ := (hv.keep hw (Nat.le_refl _)).load (n := n1) (by simpa using hvlen) (j := (i : Int)) (by omega) (by omega)
    obtain ⟨_, hcell⟩ := hrow v[i].row (by rw [Int.toNat_natCast]; simp [hil]) rfl
    have e3 : (i : Int) + 1 = ((i + 1 : Nat) : Int) := by omega
    refine F.garboardref55_Few.L8.step _ _ _ _ _ _ _ _ _ _ ⟨fun _ => ⟨hb, a, hA, _, hcell 3 _ rfl, fun h => ?_, fun h => ⟨by simp only [inR]; omega, ?_⟩⟩, fun h => by omega⟩
    · have hbad : v.all fewV = false := by
        rw [Bool.eq_false_iff]
        intro k
        have := List.all_eq_true.1 k v[i] (List.getElem_mem _)
        unfold fewV at this
        have := of_decide_eq_true this
        omega
      have := hR w
      unfold fewF at this
      rw [hbad, Bool.and_false, Bool.false_and] at this
      exact this
    · rw [e3]
      refine ih (i + 1) w (by omega) (by omega) hw fun x hm => ?_
      rw [List.take_add_one, List.getElem?_eq_getElem hil] at hm
      rcases List.mem_append.1 hm with h' | h'
      · exact hx x h'
      · simp at h'
        subst h'
        exact decide_eq_true (by omega)
theorem few_loop1 {w0 : World} {A A1 : Option Addr} {n n1 c c1 : Nat} {l : List Ch} {v : List Va} (hc : SlR w0 A 7 (l.map Ch.row)) (hv : SlR w0 A1 4 (v.map Va.row)) (hlen : l.length = n) (hvlen : v.length = n1) (hn : n < 9223372036854775808) (hn1 : n1 < 9223372036854775808) {R : Value → World → Prop} (hR : ∀ w, R (.bool (fewF l v)) w) :
    ∀ (d i : Nat) (w : World), n - i = d → i ≤ n → Below w0.heap.size w0 w → (∀ x ∈ l.take i, few1 x = true) → F.garboardref55_Few.L2 A n c A1 n1 c1 i w0.heap.size w R := by
  intro d
  induction d with
  | zero =>
    intro i w hd hi hw hx
    have : i = n := by omega
    subst this
    rw [List.take_of_length_le (by omega)] at hx
    have hl' : l.all few1 = true := List.all_eq_true.2 hx
    exact F.garboardref55_Few.L2.step _ _ _ _ _ _ _ _ _ _ ⟨fun h => by omega, fun _ => few_loop2 hv hlen hvlen hn1 hl' hR n1 0 w rfl (by omega) hw (fun x hx => by simp at hx)⟩
  | succ d ih =>
    intro i w hd hi hw hx
    have hil : i < l.length := by omega
    obtain ⟨hb, a, hA, hrow⟩ := (hc.keep hw (Nat.le_refl _)).load (n := n) (by simpa using hlen) (j := (i : Int)) (by omega) (by omega)
    obtain ⟨hcell, _⟩ := hrow l[i].row (by rw [Int.toNat_natCast]; simp [hil]) rfl
    have e3 : (i : Int) + 1 = ((i + 1 : Nat) : Int) := by omega
    have bad : few1 l[i] = false → ∀ w, R (.bool false) w := fun h w2 => by
      have hbad : l.all few1 = false := by
        rw [Bool.eq_false_iff]
        intro k
        have := List.all_eq_true.1 k l[i] (List.getElem_mem _)
        rw [h] at this
        cases this
      have := hR w2
      unfold fewF at this
      rw [hbad, Bool.false_and, Bool.false_and] at this
      exact this
    refine F.garboardref55_Few.L2.step _ _ _ _ _ _ _ _ _ _ ⟨fun _ => ⟨hb, a, hA, _, _, _, _, _, _, _, hcell, fun h w2 _ => bad (decide_eq_false (by omega)) w2, fun h1 => ⟨fun h w2 _ => bad (decide_eq_false (by omega)) w2, fun h2 => ⟨fun h w2 _ => bad (decide_eq_false (by omega)) w2, fun h3 => ⟨fun h w2 _ => bad (decide_eq_false (by omega)) w2, fun h4 => ⟨fun h w2 _ => bad (decide_eq_false (by omega)) w2, fun h5 => ⟨fun h w2 _ => bad (decide_eq_false (by omega)) w2, fun h6 => ⟨by simp only [inR]; omega, fun w2 x2 => ?_⟩⟩⟩⟩⟩⟩⟩, fun h => by omega⟩
    rw [e3]
    refine ih (i + 1) w2 (by omega) (by omega) (kE hw x2) fun x hm => ?_
    rw [List.take_add_one, List.getElem?_eq_getElem hil] at hm
    rcases List.mem_append.1 hm with h' | h'
    · exact hx x h'
    · simp at h'
      subst h'
      exact decide_eq_true (by omega)
theorem ref_Few {w : World} {A A1 : Option Addr} {n n1 c c1 : Nat} {l : List Ch} {v : List Va} (hc : SlR w A 7 (l.map Ch.row)) (hv : SlR w A1 4 (v.map Va.row)) (hlen : l.length = n) (hvlen : v.length = n1) (hn : n < 9223372036854775808) (hn1 : n1 < 9223372036854775808) :
    Pure Tryz.prog 11 #[.slice A n c, .slice A1 n1 c1] w fun y _ => y = .bool (fewF l v) :=
  F.garboardref55_Few.vc _ _ _ _ _ _ _ _ (few_loop1 hc hv hlen hvlen hn hn1 (fun _ => rfl) n 0 w rfl (by omega) (Below.refl _ _) (fun x hx => by simp at hx))

theorem few_val {l : List Ch} {v : List Va} (h : fewF l v = true) : (l.length ≤ 17 ∧ v.length ≤ 17) ∧ (∀ x ∈ l, SmC x) ∧ (∀ x ∈ v, SmV x) := by
  unfold fewF at h
  rw [Bool.and_eq_true, Bool.and_eq_true] at h
  obtain ⟨⟨h1, h2⟩, h3⟩ := h
  refine ⟨of_decide_eq_true h3, fun x hx => ?_, fun x hx => ?_⟩
  · have := of_decide_eq_true (List.all_eq_true.1 h1 x hx)
    exact ⟨by omega, by unfold SmS; omega, by unfold SmS; omega, by unfold SmS; omega, by unfold SmS; omega, by unfold SmS; omega⟩
  · have := of_decide_eq_true (List.all_eq_true.1 h2 x hx)
    show x.num.size ≤ 1000
    omega
end Go.Proofs.YtdoailkigecmkaaGreatDoor.B

namespace Go.Proofs.YtdoailkigecmkaaGreatDoor.B
open Go Go.RowKit Go.Proofs Go.Proofs.YtdoailkigecmkaaGreatDoor.Vc

theorem seen_or (a h : Int) (u : Va) : seen a h u = u ∨ (u.qual ≠ 0 ∧ u.tick < a - h ∧ seen a h u = { u with qual := 4 }) := by
  unfold seen
  split
  · rename_i k
    exact .inr ⟨k.1, k.2, rfl⟩
  · exact .inl rfl
theorem seen_older {x0 x1 x2 x3 : Int} {u : Va} (h0 : x2 ≥ x0) (h1 : x3 ≤ x1) (h4 : (seen x0 x1 u).qual = 4) : (seen x2 x3 u).qual = 4 := by
  rcases seen_or x0 x1 u with e | ⟨k1, k2, e⟩
  · rw [e] at h4
    rcases seen_or x2 x3 u with e2 | ⟨_, _, e2⟩
    · rw [e2]; exact h4
    · rw [e2]
  · have : seen x2 x3 u = { u with qual := 4 } := if_pos ⟨k1, by omega⟩
    rw [this]

theorem SlR.spot {w : World} {A : Option Addr} {n : Nat} {v : List Va} (h : SlR w A 4 (v.map Va.row)) (hl : v.length = n) {i : Nat} (hi : i < v.length) :
    (0 ≤ (i : Int) ∧ (i : Int) < n) ∧ ∃ a, A = some a ∧ CellsAt w (a.add ((i : Int).toNat * 4)) v[i].row ∧ CellsAt w ((a.add ((i : Int).toNat * 4)).add 1) [.int .i64 v[i].tick] ∧ CellsAt w ((a.add ((i : Int).toNat * 4)).add 2) [.int .i64 v[i].qual] ∧ CellsAt w ((a.add ((i : Int).toNat * 4)).add 3) [.string v[i].num] := by
  obtain ⟨hb, a, hA, hrow⟩ := h.load (n := n) (by simpa using hl) (j := (i : Int)) (by omega) (by omega)
  obtain ⟨hc, hf⟩ := hrow v[i].row (by rw [Int.toNat_natCast]; simp [hi]) rfl
  exact ⟨hb, a, hA, hc, hf 1 _ rfl, hf 2 _ rfl, hf 3 _ rfl⟩

theorem older_loop {w0 : World} {A A5 A7 : Option Addr} {n c c5 c7 : Nat} {v : List Va} {x0 x1 x2 x3 : Int} (hv : SlR w0 A 4 (v.map Va.row)) (hlen : v.length = n) (hn : n ≤ 1000) {R : Value → World → Prop} (hR : ∀ w, R (.bool true) w) :
    ∀ (d i : Nat) (w : World), n - i = d → i ≤ n → Below w0.heap.size w0 w → OwnR w w0.heap.size 46 A5 n c5 4 ((v.map (seen x0 x1)).map Va.row) → OwnR w w0.heap.size 46 A7 n c7 4 ((v.map (seen x2 x3)).map Va.row) →
      F.garboardlaw55_SensorOlder.L12 A n c A5 n c5 A7 n c7 n i x0 x1 x2 x3 w0.heap.size w R := by
  intro d
  induction d with
  | zero =>
    intro i w hd hi hw h5 h7
    exact F.garboardlaw55_SensorOlder.L12.step _ _ _ _ _ _ _ _ _ _ _ _ _ _ _ _ _ _ ⟨fun h => by omega, fun _ => hR w⟩
  | succ d ih =>
    intro i w hd hi hw h5 h7
    have hil : i < v.length := by omega
    have e3 : (i : Int) + 1 = ((i + 1 : Nat) : Int) := by omega
    have hin : inR .i64 ((i : Int) + 1) := by simp only [inR]; omega
    have next : ∀ {u}, Ext w0.heap.size [] w u → F.garboardlaw55_SensorOlder.L12 A n c A5 n c5 A7 n c7 n ((i : Int) + 1) x0 x1 x2 x3 w0.heap.size u R := fun {u} x => by
      rw [e3]
      exact ih (i + 1) u (by omega) (by omega) (kE hw x) (h5.extNil x) (h7.extNil x)
    have s0 : ∀ {u}, Ext w0.heap.size [] w u → _ := fun {u} x => (hv.keep (kE hw x) (Nat.le_refl _)).spot hlen hil
    have s5 : ∀ {u}, Ext w0.heap.size [] w u → _ := fun {u} x => (h5.extNil x).sl.spot (n := n) (by simpa using hlen) (i := i) (by simpa using hil)
    have s7 : ∀ {u}, Ext w0.heap.size [] w u → _ := fun {u} x => (h7.extNil x).sl.spot (n := n) (by simpa using hlen) (i := i) (by simpa using hil)
    simp only [List.getElem_map] at s5 s7
    have tail : ∀ {w29}, Ext w0.heap.size [] w w29 → ((((x2 : Int) ≥ x0) → ((((x3 : Int) ≤ x1) → ((0 ≤ (i : Int) ∧ (i : Int) < n) ∧ ∃ a59, A5 = some a59 ∧ (∀ w60, Ext w0.heap.size [] w29 w60 → (∃ (i61 : Int), CellsAt w60 ((a59.add (((i : Int)).toNat * 4)).add 2) [(.int .i64 i61)] ∧ ((((i61 : Int) = (4 : Int)) → ((0 ≤ (i : Int) ∧ (i : Int) < n) ∧ ∃ a62, A7 = some a62 ∧ (∃ (i63 : Int), CellsAt w60 ((a62.add (((i : Int)).toNat * 4)).add 2) [(.int .i64 i63)] ∧ ((((i63 : Int) ≠ (4 : Int)) → (R (.bool false) w60)) ∧ (¬ ((i63 : Int) ≠ (4 : Int)) → (inR .i64 ((i : Int) + (1 : Int)) ∧ (F.garboardlaw55_SensorOlder.L12 A n c A5 n c5 A7 n c7 n ((i : Int) + (1 : Int)) x0 x1 x2 x3 w0.heap.size w60 R))))))) ∧ (¬ ((i61 : Int) = (4 : Int)) → (inR .i64 ((i : Int) + (1 : Int)) ∧ (F.garboardlaw55_SensorOlder.L12 A n c A5 n c5 A7 n c7 n ((i : Int) + (1 : Int)) x0 x1 x2 x3 w0.heap.size w60 R)))))))) ∧ (¬ ((x3 : Int) ≤ x1) → (inR .i64 ((i : Int) + (1 : Int)) ∧ (∀ w64, Ext w0.heap.size [] w29 w64 → (F.garboardlaw55_SensorOlder.L12 A n c A5 n c5 A7 n c7 n ((i : Int) + (1 : Int)) x0 x1 x2 x3 w0.heap.size w64 R)))))) ∧ (¬ ((x2 : Int) ≥ x0) → (inR .i64 ((i : Int) + (1 : Int)) ∧ (∀ w65, Ext w0.heap.size [] w29 w65 → (F.garboardlaw55_SensorOlder.L12 A n c A5 n c5 A7 n c7 n ((i : Int) + (1 : Int)) x0 x1 x2 x3 w0.heap.size w65 R))))) := by
      intro w29 x29
      obtain ⟨b5, a5, e5, _⟩ := s5 x29
      refine ⟨fun g0 => ⟨fun g1 => ⟨b5, a5, e5, fun w60 x60 => ?_⟩, fun _ => ⟨hin, fun u x => next (x29.trans' x)⟩⟩, fun _ => ⟨hin, fun u x => next (x29.trans' x)⟩⟩
      obtain ⟨b5', a5', e5', _, _, q5, _⟩ := s5 (x29.trans' x60)
      obtain ⟨b7, a7, e7, _, _, q7, _⟩ := s7 (x29.trans' x60)
      rw [e5] at e5'
      cases e5'
      exact ⟨_, q5, fun k => ⟨b7, a7, e7, _, q7, fun k2 => absurd (seen_older g0 g1 k) k2, fun _ => ⟨hin, next (x29.trans' x60)⟩⟩, fun _ => ⟨hin, next (x29.trans' x60)⟩⟩
    obtain ⟨b0, a0, e0, r0, _⟩ := s0 (Ext.refl _ _ w)
    refine F.garboardlaw55_SensorOlder.L12.step _ _ _ _ _ _ _ _ _ _ _ _ _ _ _ _ _ _ ⟨fun _ => ⟨b0, a0, e0, _, _, _, _, r0, fun w29 x29 => ?_⟩, fun h => by omega⟩
    obtain ⟨b5, a5, e5, r5, _⟩ := s5 x29
    obtain ⟨b0', a0', e0', r0', _, q0', _⟩ := s0 x29
    rcases seen_or x0 x1 v[i] with e | ⟨k1, k2, e⟩
    · have c1 : (seen x0 x1 v[i]).chan = v[i].chan ∧ (seen x0 x1 v[i]).tick = v[i].tick ∧ (seen x0 x1 v[i]).qual = v[i].qual ∧ (seen x0 x1 v[i]).num = v[i].num ∧ True := by rw [e]; exact ⟨rfl, rfl, rfl, rfl, trivial⟩
      exact ⟨b5, a5, e5, _, _, _, _, r5, b0', a0', e0', _, _, _, _, r0', fun k => absurd c1 k, fun _ => ⟨b0', a0', e0', _, q0', fun _ => ⟨b5, a5, e5, _, _, _, _, r5, b0', a0', e0', _, _, _, _, r0', fun k => absurd c1 k, fun _ => tail x29⟩, fun _ => tail x29⟩⟩
    · have c1 : (seen x0 x1 v[i]).chan = v[i].chan ∧ (seen x0 x1 v[i]).tick = v[i].tick ∧ (seen x0 x1 v[i]).qual = 4 ∧ (seen x0 x1 v[i]).num = v[i].num ∧ True := by rw [e]; exact ⟨rfl, rfl, rfl, rfl, trivial⟩
      exact ⟨b5, a5, e5, _, _, _, _, r5, b0', a0', e0', _, _, _, _, r0', fun _ => ⟨b5, a5, e5, _, _, _, _, r5, fun k => absurd c1 k, fun _ => ⟨b0', a0', e0', _, q0', fun k => absurd k k1, fun _ => tail x29⟩⟩, fun _ => ⟨b0', a0', e0', _, q0', fun k => absurd k k1, fun _ => tail x29⟩⟩

theorem see_any {v : List Va} {n B : Nat} {a h : Int} {y : Value} {w : World} (hlen : v.length = n) (hy : SeeR (seeF v a h) n B y w) :
    ∃ A' n' c' e, y = .tuple #[.slice A' n' c', .int .i64 e] ∧ (e = 0 → n' = n ∧ OwnR w B 46 A' n' c' 4 ((v.map (seen a h)).map Va.row)) ∧ (¬ e = 0 → n' = 0) := by
  unfold seeF at hy
  split at hy
  · exact ⟨none, 0, 0, 8, hy, fun k => (by cases k), fun _ => rfl⟩
  · split at hy
    · obtain ⟨A, c, rfl, o⟩ := hy
      exact ⟨A, n, c, 0, rfl, fun _ => ⟨rfl, o⟩, fun k => absurd rfl k⟩
    · exact ⟨none, 0, 0, 2, hy, fun k => (by cases k), fun _ => rfl⟩

theorem law_SensorOlder {w : World} (hg : Glob w) {A : Option Addr} {n c : Nat} {v : List Va} {x0 x1 x2 x3 : Int} (hv : SlR w A 4 (v.map Va.row)) (hlen : v.length = n) (hn : n < 9223372036854775808) :
    Pure Tryz.prog 9 #[.slice A n c, .agg #[.int .i64 x0, .int .i64 x1, .int .i64 x2, .int .i64 x3]] w fun y _ => y = .bool true := by
  refine F.garboardlaw55_SensorOlder.vc _ _ _ _ _ _ _ _ _ fun w1 x1' => Pure.mono (law_awake (hg.next (k0 x1'))) ?_
  have hb1 := k0 x1'
  rintro y w2 b2 rfl
  have hb2 := kP hb1 b2
  refine ⟨_, rfl, fun h => (by cases h), fun _ => Pure.mono (ref_Few (l := []) (v := v) (.inl rfl) (hv.keep hb2 (Nat.le_refl _)) rfl hlen (by omega) hn) ?_⟩
  rintro y w3 b3 rfl
  have hb3 := kP hb2 b3
  refine ⟨_, rfl, fun _ => rfl, fun hf w4 x4 => ?_⟩
  have hf' : fewF [] v = true := by simpa using hf
  obtain ⟨⟨_, h17⟩, _, hsm⟩ := few_val hf'
  have hb4 := kE hb3 x4
  refine Pure.mono (CloneV (hv.keep hb4 (Nat.le_refl _)) (by simpa using hlen) rowV_len rowV_cell (by omega)) ?_
  rintro y w5 b5 ⟨A5, c5, rfl, o5⟩
  have hb5 := kP hb4 b5
  refine ⟨_, _, _, rfl, Pure.mono (sensor_See (v := v) (at_ := x0) (hold := x1) o5.sl hlen) ?_⟩
  rintro y w6 b6 hy
  have hb6 := kP hb5 b6
  obtain ⟨A6, n6, c6, e6, rfl, k6, m6⟩ := see_any hlen hy
  refine ⟨_, _, _, _, rfl, fun w7 x7 => ?_⟩
  have hb7 := kE hb6 x7
  refine Pure.mono (CloneV (hv.keep hb7 (Nat.le_refl _)) (by simpa using hlen) rowV_len rowV_cell (by omega)) ?_
  rintro y w8 b8 ⟨A8, c8, rfl, o8⟩
  have hb8 := kP hb7 b8
  refine ⟨_, _, _, rfl, Pure.mono (sensor_See (v := v) (at_ := x2) (hold := x3) o8.sl hlen) ?_⟩
  rintro y w9 b9 hy
  have hb9 := kP hb8 b9
  obtain ⟨A9, n9, c9, e9, rfl, k9, m9⟩ := see_any hlen hy
  have t9 : ∀ {R : Value → World → Prop}, R (.bool true) w9 → ¬ e9 = 0 → R (.bool (decide (((n9 : Int) : Int) = (0 : Int)))) w9 := fun {R} h k => by
    rw [m9 k]
    exact h
  refine ⟨_, _, _, _, rfl, fun h6 => ⟨fun k => absurd k h6, fun _ => ⟨fun _ => ⟨fun _ => rfl, fun k => t9 (R := fun y _ => y = .bool true) rfl k⟩, fun k => absurd (by rw [m6 h6]; rfl) k⟩⟩, fun h6 => ⟨fun h9 => ⟨fun _ => ⟨fun _ => rfl, fun k => t9 (R := fun y _ => y = .bool true) rfl k⟩, fun k => absurd (Decidable.not_not.1 h6) k⟩, fun h9 => ?_⟩⟩
  obtain ⟨rfl, o6⟩ := k6 (Decidable.not_not.1 h6)
  obtain ⟨rfl, o9⟩ := k9 (Decidable.not_not.1 h9)
  refine ⟨fun k => absurd rfl k, fun _ => ⟨fun k => absurd rfl k, fun _ => ?_⟩⟩
  refine older_loop hv hlen (by omega) (fun _ => rfl) n9 0 w9 rfl (by omega) hb9 ?_ ?_
  · exact (((o6.extNil x7).below b8).below b9).base hb5.size
  · exact o9.base hb8.size
end Go.Proofs.YtdoailkigecmkaaGreatDoor.B

namespace Go.Proofs.YtdoailkigecmkaaGreatDoor.B
set_option maxRecDepth 100000
open Go Go.RowKit Go.Proofs Go.Proofs.YtdoailkigecmkaaGreatDoor.Vc Go.ChangeShapes Go.WideShapes Go.Deep

theorem own : ownKnob Tryz.prog.godebug = none := by kernel_rfl
theorem laidOut : laidOutB Tryz.prog = true := by kernel_rfl

section
variable {H : Type} {enc : TypeId × Value → H} {P : Program}

theorem below_trodAll (hl : laidOutB P = true) {W W' : World} (hb : Below W.heap.size W W') : ∀ {ts : List TypeId} {vs : List Value} {ds : List (DataW H)} {ps : List MemPlace},
    (∀ t ∈ ts, P.readableRec t = true ∧ t < P.types.size) → DataW.TrodAll enc P W 0 (fun _ => true) true ts vs ds ps → (∀ x ∈ ps, x.block < W.heap.size) → DataW.TrodAll enc P W' 0 (fun b => decide (b < W.heap.size)) true ts vs ds ps
  | [], _, _, _, _, h, _ => by
    obtain ⟨rfl, rfl, rfl⟩ := trodAll_nil h
    exact trodAll_mk0
  | t :: ts, _, _, _, ht, h, hlt => by
    obtain ⟨v, vs1, d, ds1, a, b, rfl, rfl, rfl, h1, h2⟩ := trodAll_cons h
    exact trodAll_cons_mk (Below.trod hl (ht t (by simp)).1 (ht t (by simp)).2 h1 hb (fun x hx => hlt x (by simp [hx])))
      (below_trodAll hl hb (fun u hu => ht u (by simp [hu])) h2 (fun x hx => hlt x (by simp [hx])))

theorem law_post {f : Func} {fid : FuncId} {s : ChangeSpec} {W : World} {args : Array Value} {ds gs : List (DataW H)} {before : List MemPlace} (hl : laidOutB P = true) (hW : DataW.Whole enc P f.params.toList s.vars false W args.toList ds gs before)
    (hvars : s.vars = []) {tb : TypeId} (hres : f.resultTypes = #[tb]) (htb : P.underlying tb = some .bool) (hrec : ∀ t ∈ f.params.toList, P.readableRec t = true ∧ t < P.types.size)
    (hs : s.fn H (ds ++ gs) = { results := [.lit (.bool true)], args := ds }) (key : Pure P fid args W fun y _ => y = .bool true) :
    Calls P fid args W fun e W' => ∃ v, e = .returned v ∧ s.post enc P f false true false false W args v W' := by
  refine Calls.mono key fun e W' ⟨v, he, hb, hy⟩ => ⟨v, he, ?_⟩
  subst hy
  have hlt := hW.lt
  have hW' := hW
  obtain ⟨p, q, hA, hV, rfl, _, _⟩ := hW
  rw [hvars] at hV
  obtain ⟨rfl, rfl⟩ := trodVars_none hV
  simp only [List.append_nil] at hlt hW'
  refine ⟨ds, _, _, [], p, [], hW', ?_, ?_, ?_, hb.frame _, fun h => by cases h⟩
  · rw [hs, hres]
    exact trodAll_cons_mk (shut_bool htb _) trodAll_mk0
  · rw [hs]
    exact below_trodAll hl hb hrec hA hlt
  · rw [hs, hvars]
    rfl

theorem open_slice_fields {w : World} {base : Nat} {spare : Nat → Bool} {held : Bool} {t e : TypeId} {fs : Array Field} {fuel : Nat} {cs : List Value} {x : DataW H × List MemPlace} (ht : P.underlying t = some (.slice e)) (he : P.underlying e = some (.struct fs))
    (hone : oneCellFields P fs = true) (hC : P.cellsOf e = fs.size) (h : DataW.trod enc P w base spare held fuel t cs = some x) :
    (cs = [.slice none 0 0]) ∨
    ∃ (a : Addr) (len cap : Nat), cs = [.slice (some a) len cap] ∧ len ≤ cap ∧ cap ≤ maxLen ∧
      ∀ i, i < len → ∃ (n : Nat), ∀ (j : Nat) (f : Field), fs[j]? = some f → ∃ (v : Value) (y : DataW H × List MemPlace), w.cell? (a.add (i * fs.size + j)) = some v ∧ DataW.trod enc P w base spare held n f.type [v] = some y := by
  rcases open_slice ht h with h0 | ⟨a, len, cap, m, n, D, Pl, hcs, hb, hl, hm, hmm, hx, hi⟩
  · exact .inl h0.1
  · refine .inr ⟨a, len, cap, hcs, hl, hm, fun i hlen => ?_⟩
    have him : i < m := by
      rw [hmm]
      split <;> omega
    obtain ⟨cs', hc, ht'⟩ := hi i him
    rw [hC] at hc
    obtain ⟨ys, n', hn', hy, hlen, hyl, hf⟩ := DataW.trod_struct he ht'
    obtain ⟨_, hcl, hat⟩ := World.cells?_some hc
    refine ⟨n', fun j f hj => ?_⟩
    obtain ⟨ho, hk⟩ := hone_of hone j f hj
    have hjl : j < fs.size := (Array.getElem?_eq_some_iff.1 hj).1
    have hcell := hat j hjl
    have hv : cs'[j]? = some (cs'[j]'(by omega)) := List.getElem?_eq_getElem (by omega)
    have h1 := hf j f hj
    rw [ho, hk] at h1
    have hone' : (cs'.drop j).take 1 = [cs'[j]'(by omega)] := by
      rw [List.drop_eq_getElem_cons (by omega)]
      rfl
    rw [hone'] at h1
    have hys : ys[j]? = some (ys[j]'(by omega)) := List.getElem?_eq_getElem (by omega)
    refine ⟨_, _, ?_, h1.trans hys⟩
    rw [← Go.Deep.add_add, hcell, hv]
end

theorem slR_of_cells {w : World} {a : Addr} {sz : Nat} (hsz : 0 < sz) {rows : List (List Value)} (hl : ∀ r ∈ rows, r.length = sz) (h : ∀ i, (hi : i < rows.length) → ∀ j, (hj : j < rows[i].length) → w.cell? (a.add (i * sz + j)) = some (rows[i][j])) : SlR w (some a) sz rows := by
  by_cases h0 : rows = []
  · exact .inl h0
  right
  have hp : 0 < rows.length := List.length_pos_iff.2 h0
  have hl0 : rows[0].length = sz := hl _ (List.getElem_mem _)
  have c0 := h 0 hp 0 (by omega)
  have hspot : a.spot = none := by simpa [Addr.add] using World.cell?_spot c0
  obtain ⟨b, off, spot⟩ := a
  simp only at hspot
  subst hspot
  have hadd : ∀ k, (⟨b, off, none⟩ : Addr).add k = ⟨b, off + k, none⟩ := fun k => add_plain0 b off k
  rw [hadd] at c0
  cases hh : w.heap[b]? with
  | none => simp [World.cell?, hh] at c0
  | some o =>
    cases o with
    | cells cs ty fr =>
      refine ⟨b, off, cs, ty, fr, rfl, hh, fun i hi j hj => ⟨hl _ (List.getElem_mem _), ?_⟩⟩
      have := h i hi j hj
      rw [hadd] at this
      simpa [World.cell?, hh, Nat.add_assoc] using this
    | _ => simp [World.cell?, hh] at c0

instance : Inhabited Va := ⟨⟨0, 0, 0, ⟨#[]⟩⟩⟩
instance : Inhabited Ch := ⟨⟨0, ⟨#[]⟩, ⟨#[]⟩, ⟨#[]⟩, ⟨#[]⟩, ⟨#[]⟩, ⟨#[]⟩⟩⟩
instance : Inhabited Sa := ⟨⟨0, 0, ⟨#[]⟩⟩⟩

theorem open_list {α : Type} [Inhabited α] {row : α → List Value} {sz : Nat} (hsz : 0 < sz) (hrow : ∀ x, (row x).length = sz) {H : Type} {enc : TypeId × Value → H} {w : World} {base b0 : Nat} {spare : Nat → Bool} {held : Bool} {r : Reach} {t e : TypeId} {fs : Array Field} (ht : Tryz.prog.underlying t = some (.slice e)) (he : Tryz.prog.underlying e = some (.struct fs))
    (hone : oneCellFields Tryz.prog fs = true) (hC : Tryz.prog.cellsOf e = fs.size) (hfs : fs.size = sz)
    (hx : ∀ (a : Addr) (n : Nat), (∀ (j : Nat) (f : Field), fs[j]? = some f → ∃ (v : Value) (y : DataW H × List MemPlace), w.cell? (a.add j) = some v ∧ DataW.trod enc Tryz.prog w base spare held n f.type [v] = some y) → ∃ x : α, ∀ j, (hj : j < (row x).length) → w.cell? (a.add j) = some ((row x)[j]))
    {v : Value} {d : DataW H} {p : List MemPlace} (hv : Value.okWide Tryz.prog w r b0 t v) (h : DataW.Trod enc Tryz.prog w base spare held t v d p) :
    ∃ (A : Option Addr) (n c : Nat) (l : List α), v = .slice A n c ∧ SlR w A sz (l.map row) ∧ l.length = n ∧ n < 9223372036854775808 := by
  obtain ⟨a0, len, cap, rfl⟩ := okWide_slice ht hv
  obtain ⟨fuel, hf⟩ := h
  rcases open_slice_fields ht he hone hC hf with hcs | ⟨a, len', cap', hcs, hl, hm, hi⟩
  · simp [Value.cells] at hcs
    obtain ⟨rfl, rfl, rfl⟩ := hcs
    exact ⟨none, 0, 0, [], rfl, .inl rfl, rfl, by omega⟩
  · simp [Value.cells] at hcs
    obtain ⟨rfl, rfl, rfl⟩ := hcs
    rw [hfs] at hi
    obtain ⟨g, hg⟩ := choose_lt (α := α) (n := len) (p := fun i x => ∀ j, (hj : j < (row x).length) → w.cell? (a.add (i * sz + j)) = some ((row x)[j])) fun i hilt => by
      obtain ⟨n, hn⟩ := hi i hilt
      obtain ⟨x, hx⟩ := hx (a.add (i * sz)) n fun j f hj => by
        obtain ⟨v, y, h1, h2⟩ := hn j f hj
        exact ⟨v, y, by rw [Go.Deep.add_add]; exact h1, h2⟩
      exact ⟨x, fun j hj => by rw [← Go.Deep.add_add]; exact hx j hj⟩
    refine ⟨some a, len, cap, (List.range len).map g, rfl, slR_of_cells hsz (fun r hr => ?_) (fun i hi2 j hj => ?_), by simp, by unfold maxLen at hm; omega⟩
    · obtain ⟨x, _, rfl⟩ := List.mem_map.1 hr
      exact hrow x
    · simp at hi2
      simp only [List.getElem_map, List.getElem_range] at hj ⊢
      exact hg i hi2 j hj

theorem int_cell {H : Type} {enc : TypeId × Value → H} {w : World} {base : Nat} {spare : Nat → Bool} {held : Bool} {n : Nat} {a : Addr} {t : TypeId} (ht : Tryz.prog.underlying t = some (.int .i64)) (h : ∃ (v : Value) (y : DataW H × List MemPlace), w.cell? a = some v ∧ DataW.trod enc Tryz.prog w base spare held n t [v] = some y) : ∃ z, w.cell? a = some (.int .i64 z) := by
  obtain ⟨v, y, h1, h2⟩ := h
  obtain ⟨z, hz, _⟩ := DataW.trod_int ht h2
  cases hz
  exact ⟨z, h1⟩
theorem str_cell {H : Type} {enc : TypeId × Value → H} {w : World} {base : Nat} {spare : Nat → Bool} {held : Bool} {n : Nat} {a : Addr} {t : TypeId} (ht : Tryz.prog.underlying t = some .string) (h : ∃ (v : Value) (y : DataW H × List MemPlace), w.cell? a = some v ∧ DataW.trod enc Tryz.prog w base spare held n t [v] = some y) : ∃ s, w.cell? a = some (.string s) := by
  obtain ⟨v, y, h1, h2⟩ := h
  obtain ⟨s, hs, _⟩ := DataW.trod_string ht h2
  cases hs
  exact ⟨s, h1⟩
theorem u_Rat : Tryz.prog.underlying 23 = some .string := by kernel_rfl
theorem u_int : Tryz.prog.underlying 3 = some (.int .i64) := by kernel_rfl
theorem open_values {H : Type} {enc : TypeId × Value → H} {w : World} {base b0 : Nat} {spare : Nat → Bool} {held : Bool} {r : Reach} {v : Value} {d : DataW H} {p : List MemPlace} (hv : Value.okWide Tryz.prog w r b0 32 v) (h : DataW.Trod enc Tryz.prog w base spare held 32 v d p) :
    ∃ (A : Option Addr) (n c : Nat) (l : List Va), v = .slice A n c ∧ SlR w A 4 (l.map Va.row) ∧ l.length = n ∧ n < 9223372036854775808 := by
  refine open_list (sz := 4) (row := Va.row) (by omega) (fun _ => rfl) Tryz.underlying32 Tryz.underlying46 (by kernel_rfl) (by kernel_rfl) rfl (fun a n hf => ?_) hv h
  obtain ⟨z0, h0⟩ := int_cell u_int (hf 0 _ rfl)
  obtain ⟨z1, h1⟩ := int_cell u_int (hf 1 _ rfl)
  obtain ⟨z2, h2⟩ := int_cell u_int (hf 2 _ rfl)
  obtain ⟨s3, h3⟩ := str_cell u_Rat (hf 3 _ rfl)
  refine ⟨⟨z0, z1, z2, s3⟩, fun j hj => ?_⟩
  match j, hj with
  | 0, _ => exact h0
  | 1, _ => exact h1
  | 2, _ => exact h2
  | 3, _ => exact h3
end Go.Proofs.YtdoailkigecmkaaGreatDoor.B

namespace Go.Proofs.YtdoailkigecmkaaGreatDoor.B
open Go Go.RowKit Go.Proofs Go.Proofs.YtdoailkigecmkaaGreatDoor.Vc Go.ChangeShapes Go.WideShapes Go.Deep Go.ChangeAt
set_option maxRecDepth 100000

noncomputable def laidWorld (os : Os) : World :=
  let N := (World.settled Tryz.prog os).heap.size
  let w0 := World.holding Tryz.prog os ⟨#[.cells #[.string ⟨#[118, 97, 108, 117, 101, 32, 111, 117, 116, 32, 111, 102, 32, 114, 97, 110, 103, 101]⟩] 265, .cells #[.string ⟨#[105, 110, 118, 97, 108, 105, 100, 32, 115, 121, 110, 116, 97, 120]⟩] 265], #[], []⟩
  let put (h : Array Obj) (g : Nat) (cs : Array Value) : Array Obj := h.modify g fun
    | .cells _ t frozen => .cells cs t frozen
    | o => o
  let h0 := put (put w0.heap 5 #[.iface 263 (.pointer (some ⟨N, 0, none⟩))]) 4 #[.iface 263 (.pointer (some ⟨N + 1, 0, none⟩))]
  let h1 := put h0 2 #[.int .u8 0, .int .u8 1, .int .u8 28, .int .u8 2, .int .u8 29, .int .u8 14, .int .u8 24, .int .u8 3, .int .u8 30, .int .u8 22, .int .u8 20, .int .u8 15, .int .u8 25, .int .u8 17, .int .u8 4, .int .u8 8, .int .u8 31, .int .u8 27, .int .u8 13, .int .u8 23, .int .u8 21, .int .u8 19, .int .u8 16, .int .u8 7, .int .u8 26, .int .u8 12, .int .u8 18, .int .u8 6, .int .u8 11, .int .u8 5, .int .u8 10, .int .u8 9]
  let h2 := put h1 3 #[.int .u8 0, .int .u8 1, .int .u8 56, .int .u8 2, .int .u8 57, .int .u8 49, .int .u8 28, .int .u8 3, .int .u8 61, .int .u8 58, .int .u8 42, .int .u8 50, .int .u8 38, .int .u8 29, .int .u8 17, .int .u8 4, .int .u8 62, .int .u8 47, .int .u8 59, .int .u8 36, .int .u8 45, .int .u8 43, .int .u8 51, .int .u8 22, .int .u8 53, .int .u8 39, .int .u8 33, .int .u8 30, .int .u8 24, .int .u8 18, .int .u8 12, .int .u8 5, .int .u8 63, .int .u8 55, .int .u8 48, .int .u8 27, .int .u8 60, .int .u8 41, .int .u8 37, .int .u8 16, .int .u8 46, .int .u8 35, .int .u8 44, .int .u8 21, .int .u8 52, .int .u8 32, .int .u8 23, .int .u8 11, .int .u8 54, .int .u8 26, .int .u8 40, .int .u8 15, .int .u8 34, .int .u8 20, .int .u8 31, .int .u8 10, .int .u8 25, .int .u8 14, .int .u8 19, .int .u8 9, .int .u8 13, .int .u8 8, .int .u8 7, .int .u8 6]
  let h3 := put h2 1 (Lib.pow10Tab.map fun z => Value.int .u64 z).toArray
  { w0 with heap := h3 }

noncomputable abbrev N0 : Nat := (World.settled Tryz.prog default).heap.size
theorem laid_met (os : Os) (args : Array Value) : laidMet Tryz.prog Rows.sensorOlderRow.laid ((laidWorld os).forCall (fun _ _ => 0) ⟨#[], args, []⟩).memory :=
  (LaidIn.of_run (l := Rows.sensorOlderRow.laid) [2, 3, 1, 5, 4, N0, N0 + 1] 8 (by kernel_rfl) (by kernel_rfl) (by kernel_rfl) (by kernel_rfl)).met

theorem world_vars (os : Os) (args : Array Value) : ((laidWorld os).forCall (fun _ _ => 0) ⟨#[], args, []⟩).variablesRefB Tryz.prog = true := by kernel_rfl
theorem world_rest (os : Os) (args : Array Value) : (((laidWorld os).forCall (fun _ _ => 0) ⟨#[], args, []⟩).heap.toList.drop Tryz.prog.globals.size).take ((begin Tryz.prog (fun _ _ => 0) default).world.heap.size - Tryz.prog.globals.size) =
      (begin Tryz.prog (fun _ _ => 0) default).world.heap.toList.drop Tryz.prog.globals.size := by kernel_rfl

theorem glob_of {W : World} (hL : laidMet Tryz.prog Rows.sensorOlderRow.laid W) (hS : W.ShapedOpen Tryz.prog) : Glob W :=
  ⟨Lib.tabIs_of_head (zs := Lib.pow10Tab) (g := 1) (t := 226) (e := 132) (n := 20) g_pow10 (by kernel_rfl) (by kernel_rfl) (by kernel_rfl) (by kernel_rfl) (by kernel_rfl) hL.tail.tail,
   cell_of_shapedOpen_int (g := 0) (t := 3) (zero := #[.int .i64 0]) hS (of_decide_eq_true (by kernel_rfl)) (by kernel_rfl) rfl (by kernel_rfl) (by kernel_rfl) (by kernel_rfl)⟩
theorem arr4 {α : Type} : ∀ {cs : Array α}, cs.size = 4 → ∃ a b c d, cs = #[a, b, c, d]
  | ⟨[a, b, c, d]⟩, _ => ⟨a, b, c, d, rfl⟩
theorem open_four {H : Type} {enc : TypeId × Value → H} {w : World} {base b0 : Nat} {spare : Nat → Bool} {held : Bool} {v : Value} {d : DataW H} {p : List MemPlace} (hv : Value.okWide Tryz.prog w .any b0 73 v) (h : DataW.Trod enc Tryz.prog w base spare held 73 v d p) :
    ∃ x0 x1 x2 x3 : Int, v = .agg #[.int .i64 x0, .int .i64 x1, .int .i64 x2, .int .i64 x3] := by
  have hu : Tryz.prog.underlying 73 = some (.array 4 3) := by kernel_rfl
  have hc : Tryz.prog.cellsOf 73 = 4 := by kernel_rfl
  simp only [Value.okWide, hu] at hv
  obtain ⟨cs, rfl, hsz, _⟩ := hv
  obtain ⟨c0, c1, c2, c3, rfl⟩ := arr4 (hsz.trans hc)
  obtain ⟨fuel, hf⟩ := h
  obtain ⟨y0, y1, y2, y3, n, _, h0, h1, h2, h3⟩ := trod_array4 hu (by kernel_rfl) hf
  obtain ⟨z0, e0, _⟩ := DataW.trod_int u_int h0
  obtain ⟨z1, e1, _⟩ := DataW.trod_int u_int h1
  obtain ⟨z2, e2, _⟩ := DataW.trod_int u_int h2
  obtain ⟨z3, e3, _⟩ := DataW.trod_int u_int h3
  cases e0; cases e1; cases e2; cases e3
  exact ⟨z0, z1, z2, z3, rfl⟩

end Go.Proofs.YtdoailkigecmkaaGreatDoor.B
