/- Part 8 of the proofs that: a claim about cargo holds -/
import Derived.Test.YtdnelnicnjplpaaGreatDoorC7
import Derived.Test.YtdnelnicnjplpaaGreatDoorProg
set_option linter.unusedVariables false
set_option linter.unusedSimpArgs false
set_option maxRecDepth 100000
set_option maxHeartbeats 4000000
namespace Go.Proofs.YtdnelnicnjplpaaGreatDoor.F
open Go Go.RowKit Go.Proofs Go.Proofs.YtdnelnicnjplpaaGreatDoor.Vc
def garboardref01_Valid.L2 (a : ByteArray) (b : Int) (B : Nat) (w : World) (R : Value → World → Prop) : Prop := At Tryz.prog 75 33 (loopAt Tryz.f75 2) [(0, .v (.string a)), (3, .v (.int .i64 b))] [] B w R
noncomputable def garboardref01_Valid.cx (w : World) (B : Nat) (R : Value → World → Prop) : Cx := ⟨Tryz.prog, 75, 33, Tryz.f75.results.toList, [((true, 2), [0, 3], [])], [], w, B, R⟩
theorem garboardref01_Valid.L2.step (a : ByteArray) (b : Int) (B : Nat) (w : World) (R : Value → World → Prop)
    (h : (((b < (ByteArray.size a : Int)) → ((0 ≤ b ∧ b < (ByteArray.size a : Int)) ∧ (((((bt a b) : Int) < 48) → (R (.bool false) w)) ∧ (¬ (((bt a b) : Int) < 48) → ((0 ≤ b ∧ b < (ByteArray.size a : Int)) ∧ (((((bt a b) : Int) > 57) → (R (.bool false) w)) ∧ (¬ (((bt a b) : Int) > 57) → (inR .i64 (b + 1) ∧ (garboardref01_Valid.L2 a (b + 1) B w R))))))))) ∧ (¬ (b < (ByteArray.size a : Int)) → (((((ByteArray.size a : Int) : Int) = 1) → (R (.bool true) w)) ∧ (¬ (((ByteArray.size a : Int) : Int) = 1) → (((((ByteArray.size a : Int) : Int) > 1) → ((0 ≤ (0 : Int) ∧ (0 : Int) < (ByteArray.size a : Int)) ∧ (R (.bool (decide (((bt a (0 : Int)) : Int) ≠ 48))) w))) ∧ (¬ (((ByteArray.size a : Int) : Int) > 1) → (R (.bool false) w)))))))) :
    garboardref01_Valid.L2 a b B w R :=
  loop_of_run (garboardref01_Valid.cx w B R) 100000 (loopAt Tryz.f75 2) _ _ follows Tryz.func75 rfl rfl rfl (Eq.mp (by kernel_rfl) h)
theorem garboardref01_Valid.vc (a : ByteArray) (w : World) (R : Value → World → Prop)
    (h : (garboardref01_Valid.L2 a (0 : Int) w.heap.size w R)) :
    Pure P 75 #[.string a] w R :=
  pure_of_run (garboardref01_Valid.cx w w.heap.size R) 100000 follows Tryz.func75 rfl rfl rfl rfl rfl rfl rfl (Eq.mp (by kernel_rfl) h)

def garboardref01_From.L3 (a : ByteArray) (b : Option Addr) (c d : Nat) (e : Int) (B : Nat) (w : World) (R : Value → World → Prop) : Prop := At Tryz.prog 77 35 (loopAt Tryz.f77 3) [(0, .v (.string a)), (3, .v (.slice b c d)), (4, .v (.int .i64 e))] [] B w R
def garboardref01_From.L7 (a : ByteArray) (b : Option Addr) (c d : Nat) (e f g : Int) (B : Nat) (w : World) (R : Value → World → Prop) : Prop := At Tryz.prog 77 35 (loopAt Tryz.f77 7) [(0, .v (.string a)), (3, .v (.slice b c d)), (4, .v (.int .i64 e)), (5, .v (.int .u32 f)), (6, .v (.int .i64 g))] [] B w R
noncomputable def garboardref01_From.cx (w : World) (B : Nat) (R : Value → World → Prop) : Cx := ⟨Tryz.prog, 77, 35, Tryz.f77.results.toList, [((true, 3), [0, 3, 4], []), ((true, 7), [0, 3, 4, 5, 6], [])], [(10, 2, 2), (10, 3, 2)], w, B, R⟩
theorem garboardref01_From.L3.step (e : ByteArray) (b : Option Addr) (c d : Nat) (a : Int) (B : Nat) (w : World) (R : Value → World → Prop)
    (h : (((a > 0) → (inR .i64 (a - (9 : Int)) ∧ (garboardref01_From.L7 e b c d a (0 : Int) (if (a - (9 : Int)) > (0 : Int) then (a - (9 : Int)) else (0 : Int)) B w R))) ∧ (¬ (a > 0) → (Pure P 110 #[.slice b c d] w fun j l => ∃ f g i, j = .slice f g i ∧ (R (.slice f g i) l))))) :
    garboardref01_From.L3 e b c d a B w R :=
  loop_of_run (garboardref01_From.cx w B R) 100000 (loopAt Tryz.f77 3) _ _ follows Tryz.func77 rfl rfl rfl (Eq.mp (by kernel_rfl) h)
theorem garboardref01_From.L7.step (b : ByteArray) (e : Option Addr) (f g : Nat) (c d a : Int) (B : Nat) (w : World) (R : Value → World → Prop)
    (h : (((a < c) → (inR .u32 ((10 : Int) * d) ∧ ((0 ≤ a ∧ a < (ByteArray.size b : Int)) ∧ (inR .u8 ((bt b a) - (48 : Int)) ∧ (inR .u32 (((bt b a) - (48 : Int))) ∧ (inR .u32 (((10 : Int) * d) + (((bt b a) - (48 : Int)))) ∧ (inR .i64 (a + 1) ∧ (garboardref01_From.L7 b e f g c (((10 : Int) * d) + (((bt b a) - (48 : Int)))) (a + 1) B w R)))))))) ∧ (¬ (a < c) → (RunOk P (Instr.buildSlice 69 1 #[(0, (.int .u32 d))]) B [] w fun p q => ∃ i j l, p = .slice i j l ∧ (RunOk P (Builtin.append_ #[69, 69] 69 #[.slice e f g, .slice i j l]) B [] q fun r s => ∃ m n o, r = .slice m n o ∧ (inR .i64 (c - (9 : Int)) ∧ (garboardref01_From.L3 b m n o (c - (9 : Int)) B s R))))))) :
    garboardref01_From.L7 b e f g c d a B w R :=
  loop_of_run (garboardref01_From.cx w B R) 100000 (loopAt Tryz.f77 7) _ _ follows Tryz.func77 rfl rfl rfl (Eq.mp (by kernel_rfl) h)
theorem garboardref01_From.vc (a : ByteArray) (w : World) (R : Value → World → Prop)
    (h : (garboardref01_From.L3 a none 0 0 (ByteArray.size a : Int) w.heap.size w R)) :
    Pure P 77 #[.string a] w R :=
  pure_of_run (garboardref01_From.cx w w.heap.size R) 100000 follows Tryz.func77 rfl rfl rfl rfl rfl rfl rfl (Eq.mp (by kernel_rfl) h)

noncomputable def garboardref01_Small.cx (w : World) (B : Nat) (R : Value → World → Prop) : Cx := ⟨Tryz.prog, 78, 9, Tryz.f78.results.toList, [], [(1, 4, 2)], w, B, R⟩
theorem garboardref01_Small.vc (ip0 : Int) (w : World) (R : Value → World → Prop)
    (h : ((0 ≤ ip0 ∧ 0 < (1000000000 : Int)) ∧ ((0 ≤ ip0 ∧ 0 < (1000000000 : Int) ∧ inR .u32 ip0) ∧ (RunOk Tryz.prog (Instr.buildSlice 69 2 #[(0, (.int .u32 (ip0 % (1000000000 : Int)))), (1, (.int .u32 (ip0 / (1000000000 : Int))))]) w.heap.size [] w fun r2 w3 => ∃ (A1 : Option Addr) (n1 c1 : Nat), r2 = (.slice A1 n1 c1) ∧ (Pure Tryz.prog 110 #[(.slice A1 n1 c1)] w3 fun r5 w6 => ∃ (A4 : Option Addr) (n4 c4 : Nat), r5 = (.slice A4 n4 c4) ∧ (R (.slice A4 n4 c4) w6)))))) :
    Pure Tryz.prog 78 #[(.int .u32 ip0)] w R :=
  pure_of_run (garboardref01_Small.cx w w.heap.size R) 100000 follows Tryz.func78 rfl rfl rfl rfl rfl rfl rfl (Eq.mp (by kernel_rfl) h)

def garboardref01_Cmp.L6 (a : Option Addr) (b c : Nat) (d : Option Addr) (e f : Nat) (g : Int) (B : Nat) (w : World) (R : Value → World → Prop) : Prop := At Tryz.prog 79 41 (loopAt Tryz.f79 6) [(0, .v (.slice a b c)), (1, .v (.slice d e f)), (5, .v (.int .i64 g))] [] B w R
noncomputable def garboardref01_Cmp.cx (w : World) (B : Nat) (R : Value → World → Prop) : Cx := ⟨Tryz.prog, 79, 41, Tryz.f79.results.toList, [((true, 6), [0, 1, 5], [])], [(10, 9999, 3)], w, B, R⟩
theorem garboardref01_Cmp.L6.step (c : Option Addr) (d m : Nat) (e : Option Addr) (f n : Nat) (a : Int) (B : Nat) (w : World) (R : Value → World → Prop)
    (h : (((a ≥ (0 : Int)) → ((0 ≤ a ∧ a < d) ∧ ∃ o, c = some o ∧ (∃ g, CellsAt w (o.add ((a).toNat * 1)) [.int .u32 g] ∧ ((0 ≤ a ∧ a < f) ∧ ∃ p, e = some p ∧ (∃ i, CellsAt w (p.add ((a).toNat * 1)) [.int .u32 i] ∧ (((g < i) → (∀ q, Ext B [] w q → (R (.int .i64 (-1 : Int)) q))) ∧ (¬ (g < i) → (∀ b, Ext B [] w b → ((0 ≤ a ∧ a < d) ∧ ∃ r, c = some r ∧ (∃ j, CellsAt b (r.add ((a).toNat * 1)) [.int .u32 j] ∧ ((0 ≤ a ∧ a < f) ∧ ∃ s, e = some s ∧ (∃ l, CellsAt b (s.add ((a).toNat * 1)) [.int .u32 l] ∧ (((j > l) → (∀ t, Ext B [] b t → (R (.int .i64 1) t))) ∧ (¬ (j > l) → (inR .i64 (a - (1 : Int)) ∧ (∀ u, Ext B [] b u → (garboardref01_Cmp.L6 c d m e f n (a - (1 : Int)) B u R))))))))))))))))) ∧ (¬ (a ≥ (0 : Int)) → (R (.int .i64 0) w)))) :
    garboardref01_Cmp.L6 c d m e f n a B w R :=
  loop_of_run (garboardref01_Cmp.cx w B R) 100000 (loopAt Tryz.f79 6) _ _ follows Tryz.func79 rfl rfl rfl (Eq.mp (by kernel_rfl) h)
theorem garboardref01_Cmp.vc (c : Option Addr) (a d : Nat) (e : Option Addr) (b f : Nat) (w : World) (R : Value → World → Prop)
    (h : ((((a : Int) ≠ (b : Int)) → ((((a : Int) < (b : Int)) → (R (.int .i64 (-1 : Int)) w)) ∧ (¬ ((a : Int) < (b : Int)) → (R (.int .i64 1) w)))) ∧ (¬ ((a : Int) ≠ (b : Int)) → (inR .i64 ((a : Int) - (1 : Int)) ∧ (garboardref01_Cmp.L6 c a d e b f ((a : Int) - (1 : Int)) w.heap.size w R))))) :
    Pure P 79 #[.slice c a d, .slice e b f] w R :=
  pure_of_run (garboardref01_Cmp.cx w w.heap.size R) 100000 follows Tryz.func79 rfl rfl rfl rfl rfl rfl rfl (Eq.mp (by kernel_rfl) h)

def garboardref01_Common.L1 (a : Option Addr) (b c : Nat) (d : Option Addr) (e f B : Nat) (w : World) (R : Value → World → Prop) : Prop := At Tryz.prog 81 41 (loopAt Tryz.f81 1) [(0, .v (.slice a b c)), (1, .v (.slice d e f))] [] B w R
def garboardref01_Common.L4 (a b : Int) (B : Nat) (w : World) (R : Value → World → Prop) : Prop := At Tryz.prog 81 41 (loopAt Tryz.f81 4) [(5, .v (.int .u64 a)), (6, .v (.int .u64 b))] [] B w R
noncomputable def garboardref01_Common.cx (w : World) (B : Nat) (R : Value → World → Prop) : Cx := ⟨Tryz.prog, 81, 41, Tryz.f81.results.toList, [((true, 1), [0, 1], []), ((true, 4), [5, 6], [])], [], w, B, R⟩
theorem garboardref01_Common.L1.step (e : Option Addr) (b f : Nat) (c : Option Addr) (a d B : Nat) (w : World) (R : Value → World → Prop)
    (h : ((((a : Int) > 0) → ((((b : Int) ≤ (2 : Int)) → ((((a : Int) ≤ (2 : Int)) → (Pure P 111 #[.slice e b f] w fun q r => ∃ g, q = .int .u64 g ∧ (Pure P 111 #[.slice c a d] r fun s t => ∃ i, s = .int .u64 i ∧ (garboardref01_Common.L4 g i B t R)))) ∧ (¬ ((a : Int) ≤ (2 : Int)) → (Pure P 113 #[.slice e b f, .slice c a d] w fun u v => ∃ x y z j l m, u = .tuple #[.slice x y z, .slice j l m] ∧ (garboardref01_Common.L1 c a d j l m B v R))))) ∧ (¬ ((b : Int) ≤ (2 : Int)) → (Pure P 113 #[.slice e b f, .slice c a d] w fun A C => ∃ D E G n o p, A = .tuple #[.slice D E G, .slice n o p] ∧ (garboardref01_Common.L1 c a d n o p B C R))))) ∧ (¬ ((a : Int) > 0) → (R (.slice e b f) w)))) :
    garboardref01_Common.L1 e b f c a d B w R :=
  loop_of_run (garboardref01_Common.cx w B R) 100000 (loopAt Tryz.f81 1) _ _ follows Tryz.func81 rfl rfl rfl (Eq.mp (by kernel_rfl) h)
theorem garboardref01_Common.L4.step (b a : Int) (B : Nat) (w : World) (R : Value → World → Prop)
    (h : (((a ≠ 0) → ((0 ≤ b ∧ 0 < a) ∧ (∀ c, Ext B [] w c → (garboardref01_Common.L4 a (b % a) B c R)))) ∧ (¬ (a ≠ 0) → (Pure P 112 #[.int .u64 b] w fun g i => ∃ d e f, g = .slice d e f ∧ (R (.slice d e f) i))))) :
    garboardref01_Common.L4 b a B w R :=
  loop_of_run (garboardref01_Common.cx w B R) 100000 (loopAt Tryz.f81 4) _ _ follows Tryz.func81 rfl rfl rfl (Eq.mp (by kernel_rfl) h)
theorem garboardref01_Common.vc (a : Option Addr) (b c : Nat) (d : Option Addr) (e f : Nat) (w : World) (R : Value → World → Prop)
    (h : (garboardref01_Common.L1 a b c d e f w.heap.size w R)) :
    Pure P 81 #[.slice a b c, .slice d e f] w R :=
  pure_of_run (garboardref01_Common.cx w w.heap.size R) 100000 follows Tryz.func81 rfl rfl rfl rfl rfl rfl rfl (Eq.mp (by kernel_rfl) h)

def garboardref01_To.L5 (a : Option Addr) (b c : Nat) (d : Option Addr) (e f : Nat) (g : Int) (B : Nat) (w : World) (R : Value → World → Prop) : Prop := At Tryz.prog 84 72 (loopAt Tryz.f84 5) [(0, .v (.slice a b c)), (3, .v (.slice d e f)), (4, .v (.int .i64 g))] [] B w R
def garboardref01_To.L9 (a : Option Addr) (b c : Nat) (d : Option Addr) (e f : Nat) (g i j : Int) (B : Nat) (w : World) (R : Value → World → Prop) : Prop := At Tryz.prog 84 72 (loopAt Tryz.f84 9) [(0, .v (.slice a b c)), (3, .v (.slice d e f)), (4, .v (.int .i64 g)), (5, .v (.int .u32 i)), (6, .v (.int .i64 j))] [] B w R
def garboardref01_To.L14 (a : Option Addr) (b c : Nat) (d e : Int) (B : Nat) (w : World) (R : Value → World → Prop) : Prop := At Tryz.prog 84 72 (loopAt Tryz.f84 14) [(3, .v (.slice a b c)), (7, .v (.int .i64 d)), (8, .v (.int .i64 e))] [] B w R
noncomputable def garboardref01_To.cx (w : World) (B : Nat) (R : Value → World → Prop) : Cx := ⟨Tryz.prog, 84, 72, Tryz.f84.results.toList, [((true, 5), [0, 3, 4], []), ((true, 9), [0, 3, 4, 5, 6], []), ((true, 14), [3, 7, 8], [])], [(11, 5, 2), (11, 6, 2), (17, 1, 2)], w, B, R⟩
theorem garboardref01_To.L5.step (d : Option Addr) (b g : Nat) (e : Option Addr) (c f : Nat) (a : Int) (B : Nat) (w : World) (R : Value → World → Prop)
    (h : (((a < (b : Int)) → ((0 ≤ a ∧ a < b) ∧ ∃ i, d = some i ∧ (∃ j, CellsAt w (i.add ((a).toNat * 1)) [.int .u32 j] ∧ (garboardref01_To.L9 d b g e c f a j (0 : Int) B w R)))) ∧ (¬ (a < (b : Int)) → (inR .i64 ((c : Int) - (1 : Int)) ∧ (garboardref01_To.L14 e c f (0 : Int) ((c : Int) - (1 : Int)) B w R))))) :
    garboardref01_To.L5 d b g e c f a B w R :=
  loop_of_run (garboardref01_To.cx w B R) 100000 (loopAt Tryz.f84 5) _ _ follows Tryz.func84 rfl rfl rfl (Eq.mp (by kernel_rfl) h)
theorem garboardref01_To.L9.step (Al0 : Option Addr) (nl0 cl0 : Nat) (Al3 : Option Addr) (nl3 cl3 : Nat) (il4 : Int) (il5 : Int) (il6 : Int) (B : Nat) (w : World) (R : Value → World → Prop)
    (h : ((((il6 : Int) < (9 : Int)) → (inR .i64 (il4 + (1 : Int)) ∧ (((((il4 + (1 : Int)) : Int) < (nl0 : Int)) → ((0 ≤ il5 ∧ 0 < (10 : Int)) ∧ (inR .u32 ((48 : Int) + (il5 % (10 : Int))) ∧ (inR .u8 (((48 : Int) + (il5 % (10 : Int)))) ∧ (RunOk Tryz.prog (Instr.buildSlice 145 1 #[(0, (.int .u8 (((48 : Int) + (il5 % (10 : Int))))))]) B [] w fun r4 w5 => ∃ (A3 : Option Addr) (n3 c3 : Nat), r4 = (.slice A3 n3 c3) ∧ (RunOk Tryz.prog (Builtin.append_ #[145, 145] 145 #[(.slice Al3 nl3 cl3), (.slice A3 n3 c3)]) B [] w5 fun r7 w8 => ∃ (A6 : Option Addr) (n6 c6 : Nat), r7 = (.slice A6 n6 c6) ∧ ((0 ≤ il5 ∧ 0 < (10 : Int) ∧ inR .u32 il5) ∧ (inR .i64 (il6 + (1 : Int)) ∧ (garboardref01_To.L9 Al0 nl0 cl0 A6 n6 c6 il4 (il5 / (10 : Int)) (il6 + (1 : Int)) B w8 R))))))))) ∧ (¬ (((il4 + (1 : Int)) : Int) < (nl0 : Int)) → ((((il5 : Int) > (0 : Int)) → ((0 ≤ il5 ∧ 0 < (10 : Int)) ∧ (inR .u32 ((48 : Int) + (il5 % (10 : Int))) ∧ (inR .u8 (((48 : Int) + (il5 % (10 : Int)))) ∧ (RunOk Tryz.prog (Instr.buildSlice 145 1 #[(0, (.int .u8 (((48 : Int) + (il5 % (10 : Int))))))]) B [] w fun r10 w11 => ∃ (A9 : Option Addr) (n9 c9 : Nat), r10 = (.slice A9 n9 c9) ∧ (RunOk Tryz.prog (Builtin.append_ #[145, 145] 145 #[(.slice Al3 nl3 cl3), (.slice A9 n9 c9)]) B [] w11 fun r13 w14 => ∃ (A12 : Option Addr) (n12 c12 : Nat), r13 = (.slice A12 n12 c12) ∧ ((0 ≤ il5 ∧ 0 < (10 : Int) ∧ inR .u32 il5) ∧ (inR .i64 (il6 + (1 : Int)) ∧ (garboardref01_To.L9 Al0 nl0 cl0 A12 n12 c12 il4 (il5 / (10 : Int)) (il6 + (1 : Int)) B w14 R))))))))) ∧ (¬ ((il5 : Int) > (0 : Int)) → (inR .i64 (il4 + (1 : Int)) ∧ (garboardref01_To.L5 Al0 nl0 cl0 Al3 nl3 cl3 (il4 + (1 : Int)) B w R)))))))) ∧ (¬ ((il6 : Int) < (9 : Int)) → (inR .i64 (il4 + (1 : Int)) ∧ (garboardref01_To.L5 Al0 nl0 cl0 Al3 nl3 cl3 (il4 + (1 : Int)) B w R))))) :
    garboardref01_To.L9 Al0 nl0 cl0 Al3 nl3 cl3 il4 il5 il6 B w R :=
  loop_of_run (garboardref01_To.cx w B R) 100000 (loopAt Tryz.f84 9) _ _ follows Tryz.func84 rfl rfl rfl (Eq.mp (by kernel_rfl) h)
theorem garboardref01_To.L14.step (c : Option Addr) (d g : Nat) (a b : Int) (B : Nat) (w : World) (R : Value → World → Prop)
    (h : (((a < b) → ((0 ≤ b ∧ b < d) ∧ ∃ p, c = some p ∧ (∃ q, CellsAt w (p.add ((b).toNat * 1)) [.int .u8 q] ∧ ((0 ≤ a ∧ a < d) ∧ ∃ r, c = some r ∧ (∃ s, CellsAt w (r.add ((a).toNat * 1)) [.int .u8 s] ∧ ((0 ≤ a ∧ a < d) ∧ ∃ e, c = some e ∧ (∀ i, Ext B [] w i → (∃ (j : List Value) (l : Nat), B ≤ (e.add ((a).toNat * 1)).block ∧ (e.add ((a).toNat * 1)).spot = none ∧ i.heap[(e.add ((a).toNat * 1)).block]? = some (.cells j.toArray l (0, 0)) ∧ (e.add ((a).toNat * 1)).off + 1 ≤ j.length ∧ hasType l [] = false ∧ ∀ m, Wrote i m (e.add ((a).toNat * 1)).block l (setCells j (e.add ((a).toNat * 1)).off [.int .u8 q]) → ((0 ≤ b ∧ b < d) ∧ ∃ f, c = some f ∧ (∃ (n : List Value) (o : Nat), B ≤ (f.add ((b).toNat * 1)).block ∧ (f.add ((b).toNat * 1)).spot = none ∧ m.heap[(f.add ((b).toNat * 1)).block]? = some (.cells n.toArray o (0, 0)) ∧ (f.add ((b).toNat * 1)).off + 1 ≤ n.length ∧ hasType o [] = false ∧ ∀ t, Wrote m t (f.add ((b).toNat * 1)).block o (setCells n (f.add ((b).toNat * 1)).off [.int .u8 s]) → (inR .i64 (a + 1) ∧ (inR .i64 (b - (1 : Int)) ∧ (garboardref01_To.L14 c d g (a + 1) (b - (1 : Int)) B t R))))))))))))) ∧ (¬ (a < b) → (RunOk P (convert 145 9 (.slice c d g)) B [] w fun v x => ∃ u, v = .string u ∧ (R (.string u) x))))) :
    garboardref01_To.L14 c d g a b B w R :=
  loop_of_run (garboardref01_To.cx w B R) 100000 (loopAt Tryz.f84 14) _ _ follows Tryz.func84 rfl rfl rfl (Eq.mp (by kernel_rfl) h)
theorem garboardref01_To.vc (b : Option Addr) (a c : Nat) (w : World) (R : Value → World → Prop)
    (h : ((((a : Int) = 0) → (R (.string ⟨#[48]⟩) w)) ∧ (¬ ((a : Int) = 0) → (garboardref01_To.L5 b a c none 0 0 (0 : Int) w.heap.size w R)))) :
    Pure P 84 #[.slice b a c] w R :=
  pure_of_run (garboardref01_To.cx w w.heap.size R) 100000 follows Tryz.func84 rfl rfl rfl rfl rfl rfl rfl (Eq.mp (by kernel_rfl) h)

def garboardref01_Times.L5 (a : Option Addr) (b c : Nat) (d : Option Addr) (e f : Nat) (g : Option Addr) (i j : Nat) (l : Int) (B : Nat) (w : World) (R : Value → World → Prop) : Prop := At Tryz.prog 87 77 (loopAt Tryz.f87 5) [(0, .v (.slice a b c)), (1, .v (.slice d e f)), (5, .v (.slice g i j)), (6, .v (.int .i64 l))] [] B w R
def garboardref01_Times.L9 (a : Option Addr) (b c : Nat) (d : Option Addr) (e f : Nat) (g : Option Addr) (i j : Nat) (l m n : Int) (B : Nat) (w : World) (R : Value → World → Prop) : Prop := At Tryz.prog 87 77 (loopAt Tryz.f87 9) [(0, .v (.slice a b c)), (1, .v (.slice d e f)), (5, .v (.slice g i j)), (6, .v (.int .i64 l)), (7, .v (.int .u64 m)), (8, .v (.int .i64 n))] [] B w R
noncomputable def garboardref01_Times.cx (w : World) (B : Nat) (R : Value → World → Prop) : Cx := ⟨Tryz.prog, 87, 77, Tryz.f87.results.toList, [((true, 5), [0, 1, 5, 6], []), ((true, 9), [0, 1, 5, 6, 7, 8], [])], [(3, 5, 2)], w, B, R⟩
theorem garboardref01_Times.L5.step (f : Option Addr) (a g : Nat) (i : Option Addr) (j l : Nat) (c : Option Addr) (d e : Nat) (b : Int) (B : Nat) (w : World) (R : Value → World → Prop)
    (h : (((b < (a : Int)) → (garboardref01_Times.L9 f a g i j l c d e b (0 : Int) (0 : Int) B w R)) ∧ (¬ (b < (a : Int)) → (Pure P 110 #[.slice c d e] w fun p q => ∃ m n o, p = .slice m n o ∧ (R (.slice m n o) q))))) :
    garboardref01_Times.L5 f a g i j l c d e b B w R :=
  loop_of_run (garboardref01_Times.cx w B R) 100000 (loopAt Tryz.f87 5) _ _ follows Tryz.func87 rfl rfl rfl (Eq.mp (by kernel_rfl) h)
theorem garboardref01_Times.L9.step (Al0 : Option Addr) (nl0 cl0 : Nat) (Al1 : Option Addr) (nl1 cl1 : Nat) (Al5 : Option Addr) (nl5 cl5 : Nat) (il6 : Int) (il7 : Int) (il8 : Int) (B : Nat) (w : World) (R : Value → World → Prop)
    (h : ((((il8 : Int) < (nl1 : Int)) → (inR .i64 (il6 + il8) ∧ ((0 ≤ (il6 + il8) ∧ (il6 + il8) < nl5) ∧ ∃ a7, Al5 = some a7 ∧ (∃ (i8 : Int), CellsAt w (a7.add (((il6 + il8)).toNat * 1)) [(.int .u32 i8)] ∧ (inR .u64 (i8) ∧ ((0 ≤ il6 ∧ il6 < nl0) ∧ ∃ a9, Al0 = some a9 ∧ (∃ (i10 : Int), CellsAt w (a9.add ((il6).toNat * 1)) [(.int .u32 i10)] ∧ (inR .u64 (i10) ∧ ((0 ≤ il8 ∧ il8 < nl1) ∧ ∃ a11, Al1 = some a11 ∧ (∃ (i12 : Int), CellsAt w (a11.add ((il8).toNat * 1)) [(.int .u32 i12)] ∧ (inR .u64 (i12) ∧ (inR .u64 ((i10) * (i12)) ∧ (inR .u64 ((i8) + ((i10) * (i12))) ∧ (inR .u64 (((i8) + ((i10) * (i12))) + il7) ∧ (inR .i64 (il6 + il8) ∧ ((0 ≤ (((i8) + ((i10) * (i12))) + il7) ∧ 0 < (1000000000 : Int)) ∧ (inR .u32 (((((i8) + ((i10) * (i12))) + il7) % (1000000000 : Int))) ∧ ((0 ≤ (il6 + il8) ∧ (il6 + il8) < nl5) ∧ ∃ a13, Al5 = some a13 ∧ (∀ w14, Ext B [] w w14 → (∃ (cs15 : List Value) (t16 : Nat), B ≤ (a13.add (((il6 + il8)).toNat * 1)).block ∧ (a13.add (((il6 + il8)).toNat * 1)).spot = none ∧ w14.heap[(a13.add (((il6 + il8)).toNat * 1)).block]? = some (.cells cs15.toArray t16 (0, 0)) ∧ (a13.add (((il6 + il8)).toNat * 1)).off + 1 ≤ cs15.length ∧ hasType t16 [] = false ∧ ∀ w17, Wrote w14 w17 (a13.add (((il6 + il8)).toNat * 1)).block t16 (setCells cs15 (a13.add (((il6 + il8)).toNat * 1)).off [(.int .u32 (((((i8) + ((i10) * (i12))) + il7) % (1000000000 : Int))))]) → ((0 ≤ (((i8) + ((i10) * (i12))) + il7) ∧ 0 < (1000000000 : Int) ∧ inR .u64 (((i8) + ((i10) * (i12))) + il7)) ∧ (inR .i64 (il8 + (1 : Int)) ∧ (garboardref01_Times.L9 Al0 nl0 cl0 Al1 nl1 cl1 Al5 nl5 cl5 il6 ((((i8) + ((i10) * (i12))) + il7) / (1000000000 : Int)) (il8 + (1 : Int)) B w17 R))))))))))))))))))))))) ∧ (¬ ((il8 : Int) < (nl1 : Int)) → (inR .i64 (il6 + (nl1 : Int)) ∧ (inR .u32 (il7) ∧ ((0 ≤ (il6 + (nl1 : Int)) ∧ (il6 + (nl1 : Int)) < nl5) ∧ ∃ a18, Al5 = some a18 ∧ (∃ (cs19 : List Value) (t20 : Nat), B ≤ (a18.add (((il6 + (nl1 : Int))).toNat * 1)).block ∧ (a18.add (((il6 + (nl1 : Int))).toNat * 1)).spot = none ∧ w.heap[(a18.add (((il6 + (nl1 : Int))).toNat * 1)).block]? = some (.cells cs19.toArray t20 (0, 0)) ∧ (a18.add (((il6 + (nl1 : Int))).toNat * 1)).off + 1 ≤ cs19.length ∧ hasType t20 [] = false ∧ ∀ w21, Wrote w w21 (a18.add (((il6 + (nl1 : Int))).toNat * 1)).block t20 (setCells cs19 (a18.add (((il6 + (nl1 : Int))).toNat * 1)).off [(.int .u32 (il7))]) → (inR .i64 (il6 + (1 : Int)) ∧ (garboardref01_Times.L5 Al0 nl0 cl0 Al1 nl1 cl1 Al5 nl5 cl5 (il6 + (1 : Int)) B w21 R))))))))) :
    garboardref01_Times.L9 Al0 nl0 cl0 Al1 nl1 cl1 Al5 nl5 cl5 il6 il7 il8 B w R :=
  loop_of_run (garboardref01_Times.cx w B R) 100000 (loopAt Tryz.f87 9) _ _ follows Tryz.func87 rfl rfl rfl (Eq.mp (by kernel_rfl) h)
theorem garboardref01_Times.vc (c : Option Addr) (a d : Nat) (e : Option Addr) (b f : Nat) (w : World) (R : Value → World → Prop)
    (h : ((((a : Int) = 0) → (R (.slice none 0 0) w)) ∧ (¬ ((a : Int) = 0) → ((((b : Int) = 0) → (R (.slice none 0 0) w)) ∧ (¬ ((b : Int) = 0) → (inR .i64 ((a : Int) + (b : Int)) ∧ (RunOk P (Instr.makeSlice 69 (.int .i64 ((a : Int) + (b : Int))) (.int .i64 ((a : Int) + (b : Int)))) w.heap.size [] w fun l m => ∃ g i j, l = .slice g i j ∧ (garboardref01_Times.L5 c a d e b f g i j (0 : Int) w.heap.size m R)))))))) :
    Pure P 87 #[.slice c a d, .slice e b f] w R :=
  pure_of_run (garboardref01_Times.cx w w.heap.size R) 100000 follows Tryz.func87 rfl rfl rfl rfl rfl rfl rfl (Eq.mp (by kernel_rfl) h)

def garboardref01_trim.L1 (a : Option Addr) (b c B : Nat) (w : World) (R : Value → World → Prop) : Prop := At Tryz.prog 110 21 (loopAt Tryz.f110 1) [(0, .v (.slice a b c))] [] B w R
noncomputable def garboardref01_trim.cx (w : World) (B : Nat) (R : Value → World → Prop) : Cx := ⟨Tryz.prog, 110, 21, Tryz.f110.results.toList, [((true, 1), [0], [])], [], w, B, R⟩
theorem garboardref01_trim.L1.step (b : Option Addr) (a c B : Nat) (w : World) (R : Value → World → Prop)
    (h : ((((a : Int) > 0) → (inR .i64 ((a : Int) - (1 : Int)) ∧ ((0 ≤ ((a : Int) - (1 : Int)) ∧ ((a : Int) - (1 : Int)) < a) ∧ ∃ e, b = some e ∧ (∃ d, CellsAt w (e.add ((((a : Int) - (1 : Int))).toNat * 1)) [.int .u32 d] ∧ (((d = 0) → (inR .i64 ((a : Int) - (1 : Int)) ∧ ((0 ≤ ((a : Int) - (1 : Int)) ∧ ((a : Int) - (1 : Int)) ≤ (c : Int)) ∧ (garboardref01_trim.L1 b ((((a : Int) - (1 : Int))).toNat) c B w R)))) ∧ (¬ (d = 0) → (R (.slice b a c) w))))))) ∧ (¬ ((a : Int) > 0) → (R (.slice b a c) w)))) :
    garboardref01_trim.L1 b a c B w R :=
  loop_of_run (garboardref01_trim.cx w B R) 100000 (loopAt Tryz.f110 1) _ _ follows Tryz.func110 rfl rfl rfl (Eq.mp (by kernel_rfl) h)
theorem garboardref01_trim.vc (a : Option Addr) (b c : Nat) (w : World) (R : Value → World → Prop)
    (h : (garboardref01_trim.L1 a b c w.heap.size w R)) :
    Pure P 110 #[.slice a b c] w R :=
  pure_of_run (garboardref01_trim.cx w w.heap.size R) 100000 follows Tryz.func110 rfl rfl rfl rfl rfl rfl rfl (Eq.mp (by kernel_rfl) h)

def garboardref01_word.L3 (a : Option Addr) (b c : Nat) (d e : Int) (B : Nat) (w : World) (R : Value → World → Prop) : Prop := At Tryz.prog 111 21 (loopAt Tryz.f111 3) [(0, .v (.slice a b c)), (3, .v (.int .u64 d)), (4, .v (.int .i64 e))] [] B w R
noncomputable def garboardref01_word.cx (w : World) (B : Nat) (R : Value → World → Prop) : Cx := ⟨Tryz.prog, 111, 21, Tryz.f111.results.toList, [((true, 3), [0, 3, 4], [])], [], w, B, R⟩
theorem garboardref01_word.L3.step (d : Option Addr) (e f : Nat) (b a : Int) (B : Nat) (w : World) (R : Value → World → Prop)
    (h : (((a ≥ (0 : Int)) → (inR .u64 (b * (1000000000 : Int)) ∧ ((0 ≤ a ∧ a < e) ∧ ∃ g, d = some g ∧ (∃ c, CellsAt w (g.add ((a).toNat * 1)) [.int .u32 c] ∧ (inR .u64 (c) ∧ (inR .u64 ((b * (1000000000 : Int)) + (c)) ∧ (inR .i64 (a - (1 : Int)) ∧ (garboardref01_word.L3 d e f ((b * (1000000000 : Int)) + (c)) (a - (1 : Int)) B w R)))))))) ∧ (¬ (a ≥ (0 : Int)) → (R (.int .u64 b) w)))) :
    garboardref01_word.L3 d e f b a B w R :=
  loop_of_run (garboardref01_word.cx w B R) 100000 (loopAt Tryz.f111 3) _ _ follows Tryz.func111 rfl rfl rfl (Eq.mp (by kernel_rfl) h)
theorem garboardref01_word.vc (b : Option Addr) (a c : Nat) (w : World) (R : Value → World → Prop)
    (h : (inR .i64 ((a : Int) - (1 : Int)) ∧ (garboardref01_word.L3 b a c (0 : Int) ((a : Int) - (1 : Int)) w.heap.size w R))) :
    Pure P 111 #[.slice b a c] w R :=
  pure_of_run (garboardref01_word.cx w w.heap.size R) 100000 follows Tryz.func111 rfl rfl rfl rfl rfl rfl rfl (Eq.mp (by kernel_rfl) h)

noncomputable def garboardref01_wide.cx (w : World) (B : Nat) (R : Value → World → Prop) : Cx := ⟨Tryz.prog, 112, 16, Tryz.f112.results.toList, [], [(1, 11, 2)], w, B, R⟩
theorem garboardref01_wide.vc (ip0 : Int) (w : World) (R : Value → World → Prop)
    (h : ((0 ≤ ip0 ∧ 0 < (1000000000 : Int)) ∧ (inR .u32 ((ip0 % (1000000000 : Int))) ∧ ((0 ≤ ip0 ∧ 0 < (1000000000 : Int) ∧ inR .u64 ip0) ∧ ((0 ≤ (ip0 / (1000000000 : Int)) ∧ 0 < (1000000000 : Int)) ∧ (inR .u32 (((ip0 / (1000000000 : Int)) % (1000000000 : Int))) ∧ ((0 ≤ ip0 ∧ 0 < (1000000000 : Int) ∧ inR .u64 ip0) ∧ ((0 ≤ (ip0 / (1000000000 : Int)) ∧ 0 < (1000000000 : Int) ∧ inR .u64 (ip0 / (1000000000 : Int))) ∧ (inR .u32 (((ip0 / (1000000000 : Int)) / (1000000000 : Int))) ∧ (RunOk Tryz.prog (Instr.buildSlice 69 3 #[(0, (.int .u32 ((ip0 % (1000000000 : Int))))), (1, (.int .u32 (((ip0 / (1000000000 : Int)) % (1000000000 : Int))))), (2, (.int .u32 (((ip0 / (1000000000 : Int)) / (1000000000 : Int)))))]) w.heap.size [] w fun r2 w3 => ∃ (A1 : Option Addr) (n1 c1 : Nat), r2 = (.slice A1 n1 c1) ∧ (Pure Tryz.prog 110 #[(.slice A1 n1 c1)] w3 fun r5 w6 => ∃ (A4 : Option Addr) (n4 c4 : Nat), r5 = (.slice A4 n4 c4) ∧ (R (.slice A4 n4 c4) w6)))))))))))) :
    Pure Tryz.prog 112 #[(.int .u64 ip0)] w R :=
  pure_of_run (garboardref01_wide.cx w w.heap.size R) 100000 follows Tryz.func112 rfl rfl rfl rfl rfl rfl rfl (Eq.mp (by kernel_rfl) h)

def garboardref01_Over.L13 (a : Int) (b : Option Addr) (c d : Nat) (e : Option Addr) (f g : Nat) (i : Option Addr) (j l : Nat) (m : Option Addr) (n o : Nat) (p : Int) (B : Nat) (w : World) (R : Value → World → Prop) : Prop := At Tryz.prog 113 176 (loopAt Tryz.f113 13) [(8, .v (.int .i64 a)), (9, .v (.slice b c d)), (10, .v (.slice e f g)), (11, .v (.slice i j l)), (12, .v (.slice m n o)), (13, .v (.int .i64 p))] [] B w R
def garboardref01_Over.L17 (a : Int) (b : Option Addr) (c d : Nat) (e : Option Addr) (f g : Nat) (i : Option Addr) (j l : Nat) (m : Option Addr) (n o : Nat) (p q r : Int) (B : Nat) (w : World) (R : Value → World → Prop) : Prop := At Tryz.prog 113 176 (loopAt Tryz.f113 17) [(8, .v (.int .i64 a)), (9, .v (.slice b c d)), (10, .v (.slice e f g)), (11, .v (.slice i j l)), (12, .v (.slice m n o)), (13, .v (.int .i64 p)), (15, .v (.int .u64 q)), (16, .v (.int .u64 r))] [] B w R
noncomputable def garboardref01_Over.cx (w : World) (B : Nat) (R : Value → World → Prop) : Cx := ⟨Tryz.prog, 113, 176, Tryz.f113.results.toList, [((true, 13), [8, 9, 10, 11, 12, 13], []), ((true, 17), [8, 9, 10, 11, 12, 13, 15, 16], [])], [(9, 0, 2), (9, 4, 2), (9, 5, 2), (9, 6, 2), (11, 4, 2), (16, 9999, 3), (20, 6, 6)], w, B, R⟩
theorem garboardref01_Over.L13.step (a : Int) (o : Option Addr) (p t : Nat) (f : Option Addr) (g u : Nat) (e : Option Addr) (i j : Nat) (q : Option Addr) (r s : Nat) (b : Int) (B : Nat) (w : World) (R : Value → World → Prop)
    (h : (((b ≥ (0 : Int)) → (inR .i64 (b + a) ∧ ((0 ≤ (b + a) ∧ (b + a) < i) ∧ ∃ v, e = some v ∧ (∃ c, CellsAt w (v.add (((b + a)).toNat * 1)) [.int .u32 c] ∧ (inR .u64 (c) ∧ (inR .u64 ((c) * (1000000000 : Int)) ∧ (inR .i64 (b + a) ∧ (inR .i64 ((b + a) - (1 : Int)) ∧ ((0 ≤ ((b + a) - (1 : Int)) ∧ ((b + a) - (1 : Int)) < i) ∧ ∃ x, e = some x ∧ (∃ d, CellsAt w (x.add ((((b + a) - (1 : Int))).toNat * 1)) [.int .u32 d] ∧ (inR .u64 (d) ∧ (inR .u64 (((c) * (1000000000 : Int)) + (d)) ∧ (∀ l, Ext B [] w l → (inR .i64 (a - (1 : Int)) ∧ ((0 ≤ (a - (1 : Int)) ∧ (a - (1 : Int)) < g) ∧ ∃ y, f = some y ∧ (∃ m, CellsAt l (y.add (((a - (1 : Int))).toNat * 1)) [.int .u32 m] ∧ (inR .u64 (m) ∧ ((0 ≤ (((c) * (1000000000 : Int)) + (d)) ∧ 0 < (m) ∧ inR .u64 (((c) * (1000000000 : Int)) + (d))) ∧ (inR .i64 (a - (1 : Int)) ∧ ((0 ≤ (a - (1 : Int)) ∧ (a - (1 : Int)) < g) ∧ ∃ z, f = some z ∧ (∃ n, CellsAt l (z.add (((a - (1 : Int))).toNat * 1)) [.int .u32 n] ∧ (inR .u64 (n) ∧ ((0 ≤ (((c) * (1000000000 : Int)) + (d)) ∧ 0 < (n)) ∧ (∀ A, Ext B [] l A → (garboardref01_Over.L17 a o p t f g u e i j q r s b ((((c) * (1000000000 : Int)) + (d)) / (m)) ((((c) * (1000000000 : Int)) + (d)) % (n)) B A R))))))))))))))))))))))))) ∧ (¬ (b ≥ (0 : Int)) → ((0 ≤ a ∧ a ≤ (j : Int)) ∧ ((0 ≤ (0 : Int) ∧ (0 : Int) < p) ∧ ∃ C, o = some C ∧ (∃ D, CellsAt w (C.add (((0 : Int)).toNat * 1)) [.int .u32 D] ∧ (∀ E, Ext B [] w E → (Pure P 110 #[(.slice e ((a).toNat) j)] E fun Q S => ∃ G H I, Q = .slice G H I ∧ (Pure P 131 #[.slice G H I, .int .u32 D] S fun T U => ∃ J K L V, T = .tuple #[.slice J K L, .int .u32 V] ∧ (Pure P 110 #[.slice q r s] U fun X Y => ∃ M N O, X = .slice M N O ∧ (R (.tuple #[.slice M N O, .slice J K L]) Y))))))))))) :
    garboardref01_Over.L13 a o p t f g u e i j q r s b B w R :=
  loop_of_run (garboardref01_Over.cx w B R) 100000 (loopAt Tryz.f113 13) _ _ follows Tryz.func113 rfl rfl rfl (Eq.mp (by kernel_rfl) h)
theorem garboardref01_Over.L17.step (b : Int) (q : Option Addr) (r s : Nat) (e : Option Addr) (f j : Nat) (g : Option Addr) (i l : Nat) (m : Option Addr) (n t : Nat) (a c d : Int) (B : Nat) (w : World) (R : Value → World → Prop)
    (h : (((d < 1000000000) → (((c ≥ (1000000000 : Int)) → (inR .u64 (c - (1 : Int)) ∧ (inR .i64 (b - (1 : Int)) ∧ ((0 ≤ (b - (1 : Int)) ∧ (b - (1 : Int)) < f) ∧ ∃ L, e = some L ∧ (∀ C, Ext B [] w C → (∃ x, CellsAt C (L.add (((b - (1 : Int))).toNat * 1)) [.int .u32 x] ∧ (inR .u64 (x) ∧ (inR .u64 (d + (x)) ∧ (garboardref01_Over.L17 b q r s e f j g i l m n t a (c - (1 : Int)) (d + (x)) B C R))))))))) ∧ (¬ (c ≥ (1000000000 : Int)) → (inR .i64 (b - (2 : Int)) ∧ ((0 ≤ (b - (2 : Int)) ∧ (b - (2 : Int)) < f) ∧ ∃ M, e = some M ∧ (∃ u, CellsAt w (M.add (((b - (2 : Int))).toNat * 1)) [.int .u32 u] ∧ (inR .u64 (u) ∧ (inR .u64 (c * (u)) ∧ (inR .u64 (d * (1000000000 : Int)) ∧ (inR .i64 (a + b) ∧ (inR .i64 ((a + b) - (2 : Int)) ∧ ((0 ≤ ((a + b) - (2 : Int)) ∧ ((a + b) - (2 : Int)) < i) ∧ ∃ N, g = some N ∧ (∃ v, CellsAt w (N.add ((((a + b) - (2 : Int))).toNat * 1)) [.int .u32 v] ∧ (inR .u64 (v) ∧ (inR .u64 ((d * (1000000000 : Int)) + (v)) ∧ (((((c * (u)) : Int) > ((d * (1000000000 : Int)) + (v))) → (inR .u64 (c - (1 : Int)) ∧ (inR .i64 (b - (1 : Int)) ∧ ((0 ≤ (b - (1 : Int)) ∧ (b - (1 : Int)) < f) ∧ ∃ O, e = some O ∧ (∀ D, Ext B [] w D → (∃ y, CellsAt D (O.add (((b - (1 : Int))).toNat * 1)) [.int .u32 y] ∧ (inR .u64 (y) ∧ (inR .u64 (d + (y)) ∧ (garboardref01_Over.L17 b q r s e f j g i l m n t a (c - (1 : Int)) (d + (y)) B D R))))))))) ∧ (¬ (((c * (u)) : Int) > ((d * (1000000000 : Int)) + (v))) → (∀ z, Ext B [] w z → (PureB P 132 #[.slice g i l, .slice e f j, .int .i64 a, .int .u64 c] B z fun V E => (∀ (k ty : Nat) (cs : Array Value), ty ∈ ([] : List Nat) → z.heap[k]? = some (.cells cs ty (0, 0)) → E.heap[k]? = z.heap[k]?) ∧ ∃ Q, V = .int .u32 Q ∧ ((0 ≤ a ∧ a < n) ∧ ∃ o, m = some o ∧ (∃ (G : List Value) (H : Nat), B ≤ (o.add ((a).toNat * 1)).block ∧ (o.add ((a).toNat * 1)).spot = none ∧ E.heap[(o.add ((a).toNat * 1)).block]? = some (.cells G.toArray H (0, 0)) ∧ (o.add ((a).toNat * 1)).off + 1 ≤ G.length ∧ hasType H [] = false ∧ ∀ S, Wrote E S (o.add ((a).toNat * 1)).block H (setCells G (o.add ((a).toNat * 1)).off [.int .u32 Q]) → (inR .i64 (a - (1 : Int)) ∧ (garboardref01_Over.L13 b q r s e f j g i l m n t (a - (1 : Int)) B S R))))))))))))))))))))))) ∧ (¬ (d < 1000000000) → (∀ A, Ext B [] w A → (PureB P 132 #[.slice g i l, .slice e f j, .int .i64 a, .int .u64 c] B A fun X I => (∀ (k ty : Nat) (cs : Array Value), ty ∈ ([] : List Nat) → A.heap[k]? = some (.cells cs ty (0, 0)) → I.heap[k]? = A.heap[k]?) ∧ ∃ T, X = .int .u32 T ∧ ((0 ≤ a ∧ a < n) ∧ ∃ p, m = some p ∧ (∃ (J : List Value) (K : Nat), B ≤ (p.add ((a).toNat * 1)).block ∧ (p.add ((a).toNat * 1)).spot = none ∧ I.heap[(p.add ((a).toNat * 1)).block]? = some (.cells J.toArray K (0, 0)) ∧ (p.add ((a).toNat * 1)).off + 1 ≤ J.length ∧ hasType K [] = false ∧ ∀ U, Wrote I U (p.add ((a).toNat * 1)).block K (setCells J (p.add ((a).toNat * 1)).off [.int .u32 T]) → (inR .i64 (a - (1 : Int)) ∧ (garboardref01_Over.L13 b q r s e f j g i l m n t (a - (1 : Int)) B U R))))))))) :
    garboardref01_Over.L17 b q r s e f j g i l m n t a c d B w R :=
  loop_of_run (garboardref01_Over.cx w B R) 100000 (loopAt Tryz.f113 17) _ _ follows Tryz.func113 rfl rfl rfl (Eq.mp (by kernel_rfl) h)
theorem garboardref01_Over.vc (e : Option Addr) (a f : Nat) (g : Option Addr) (c o : Nat) (w : World) (R : Value → World → Prop)
    (h : (Pure P 79 #[.slice e a f, .slice g c o] w fun r2 i => ∃ p, r2 = .int .i64 p ∧ (((p < 0) → (R (.tuple #[.slice none 0 0, .slice e a f]) i)) ∧ (¬ (p < 0) → ((((c : Int) = 1) → ((0 ≤ (0 : Int) ∧ (0 : Int) < c) ∧ ∃ r, g = some r ∧ (∃ s, CellsAt i (r.add (((0 : Int)).toNat * 1)) [.int .u32 s] ∧ (Pure P 131 #[.slice e a f, .int .u32 s] i fun r8 w9 => ∃ t u v x, r8 = .tuple #[.slice t u v, .int .u32 x] ∧ (Pure P 78 #[.int .u32 x] w9 fun a3 a4 => ∃ y z A, a3 = .slice y z A ∧ (R (.tuple #[.slice t u v, .slice y z A]) a4)))))) ∧ (¬ ((c : Int) = 1) → (inR .i64 ((c : Int) - (1 : Int)) ∧ ((0 ≤ ((c : Int) - (1 : Int)) ∧ ((c : Int) - (1 : Int)) < c) ∧ ∃ C, g = some C ∧ (∃ d, CellsAt i (C.add ((((c : Int) - (1 : Int))).toNat * 1)) [.int .u32 d] ∧ (inR .i64 (d) ∧ (inR .i64 ((d) + 1) ∧ ((0 ≤ (1000000000 : Int) ∧ 0 < ((d) + 1) ∧ inR .i64 1000000000) ∧ (inR .u32 (((1000000000 : Int) / ((d) + 1))) ∧ (Pure P 78 #[(.int .u32 (((1000000000 : Int) / ((d) + 1))))] i fun a5 a6 => ∃ j l m, a5 = .slice j l m ∧ (Pure P 87 #[.slice g c o, .slice j l m] a6 fun a7 a8 => ∃ D E G, a7 = .slice D E G ∧ (RunOk P (Instr.buildSlice 69 0 #[]) w.heap.size [] a8 fun a9 b0 => ∃ H I J, a9 = .slice H I J ∧ (Pure P 87 #[.slice e a f, .slice j l m] b0 fun b1 b2 => ∃ K L M, b1 = .slice K L M ∧ (RunOk P (Builtin.append_ #[69, 69] 69 #[.slice H I J, .slice K L M]) w.heap.size [] b2 fun b3 b4 => ∃ N O Q, b3 = .slice N O Q ∧ (RunOk P (Instr.buildSlice 69 2 #[(0, (.int .u32 (0 : Int))), (1, (.int .u32 (0 : Int)))]) w.heap.size [] b4 fun b5 b6 => ∃ S T U, b5 = .slice S T U ∧ (RunOk P (Builtin.append_ #[69, 69] 69 #[.slice N O Q, .slice S T U]) w.heap.size [] b6 fun b7 b8 => ∃ q V n, b7 = .slice q V n ∧ (inR .i64 ((a : Int) + 1) ∧ (Pure P 110 #[.slice q V n] b8 fun b9 c0 => ∃ c1 b c2, b9 = .slice c1 b c2 ∧ ((0 ≤ (if (b : Int) > ((a : Int) + 1) then (b : Int) else ((a : Int) + 1)) ∧ (if (b : Int) > ((a : Int) + 1) then (b : Int) else ((a : Int) + 1)) ≤ (n : Int)) ∧ (inR .i64 (((((if (b : Int) > ((a : Int) + 1) then (b : Int) else ((a : Int) + 1))).toNat : Nat) : Int) - (c : Int)) ∧ (RunOk P (Instr.makeSlice 69 (.int .i64 (((((if (b : Int) > ((a : Int) + 1) then (b : Int) else ((a : Int) + 1))).toNat : Nat) : Int) - (c : Int))) (.int .i64 (((((if (b : Int) > ((a : Int) + 1) then (b : Int) else ((a : Int) + 1))).toNat : Nat) : Int) - (c : Int)))) w.heap.size [] c0 fun c3 c4 => ∃ X Y Z, c3 = .slice X Y Z ∧ (inR .i64 (((((if (b : Int) > ((a : Int) + 1) then (b : Int) else ((a : Int) + 1))).toNat : Nat) : Int) - (c : Int)) ∧ (inR .i64 ((((((if (b : Int) > ((a : Int) + 1) then (b : Int) else ((a : Int) + 1))).toNat : Nat) : Int) - (c : Int)) - (1 : Int)) ∧ (garboardref01_Over.L13 (c : Int) j l m D E G q (((if (b : Int) > ((a : Int) + 1) then (b : Int) else ((a : Int) + 1))).toNat) n X Y Z ((((((if (b : Int) > ((a : Int) + 1) then (b : Int) else ((a : Int) + 1))).toNat : Nat) : Int) - (c : Int)) - (1 : Int)) w.heap.size c4 R)))))))))))))))))))))))))))) :
    Pure P 113 #[.slice e a f, .slice g c o] w R :=
  pure_of_run (garboardref01_Over.cx w w.heap.size R) 100000 follows Tryz.func113 rfl rfl rfl rfl rfl rfl rfl (Eq.mp (by kernel_rfl) h)

def garboardref01_Plus.L4 (a : Option Addr) (b c : Nat) (d : Option Addr) (e f : Nat) (g : Option Addr) (i j : Nat) (l m : Int) (B : Nat) (w : World) (R : Value → World → Prop) : Prop := At Tryz.prog 129 55 (loopAt Tryz.f129 4) [(0, .v (.slice a b c)), (1, .v (.slice d e f)), (5, .v (.slice g i j)), (6, .v (.int .u32 l)), (7, .v (.int .i64 m))] [] B w R
def garboardref01_Plus.J9 (a : Option Addr) (b c : Nat) (d : Option Addr) (e f : Nat) (g : Option Addr) (i j : Nat) (l m : Int) (B : Nat) (w : World) (R : Value → World → Prop) : Prop := At Tryz.prog 129 55 (regionAt Tryz.f129 9) [(0, .v (.slice a b c)), (1, .v (.slice d e f)), (5, .v (.slice g i j)), (7, .v (.int .i64 l)), (8, .v (.int .u32 m))] [] B w R
noncomputable def garboardref01_Plus.cx (w : World) (B : Nat) (R : Value → World → Prop) : Cx := ⟨Tryz.prog, 129, 55, Tryz.f129.results.toList, [((true, 4), [0, 1, 5, 6, 7], []), ((false, 9), [0, 1, 5, 7, 8], [])], [(11, 3, 2), (11, 4, 2)], w, B, R⟩
theorem garboardref01_Plus.L4.step (d : Option Addr) (b j : Nat) (l : Option Addr) (e m : Nat) (f : Option Addr) (g i : Nat) (c a : Int) (B : Nat) (w : World) (R : Value → World → Prop)
    (h : (((a < (b : Int)) → (((a < (b : Int)) → ((0 ≤ a ∧ a < b) ∧ ∃ q, d = some q ∧ (∃ n, CellsAt w (q.add ((a).toNat * 1)) [.int .u32 n] ∧ (inR .u32 (c + n) ∧ (garboardref01_Plus.J9 d b j l e m f g i a (c + n) B w R))))) ∧ (¬ (a < (b : Int)) → (garboardref01_Plus.J9 d b j l e m f g i a c B w R)))) ∧ (¬ (a < (b : Int)) → (((a < (e : Int)) → (((a < (b : Int)) → ((0 ≤ a ∧ a < b) ∧ ∃ r, d = some r ∧ (∃ o, CellsAt w (r.add ((a).toNat * 1)) [.int .u32 o] ∧ (inR .u32 (c + o) ∧ (garboardref01_Plus.J9 d b j l e m f g i a (c + o) B w R))))) ∧ (¬ (a < (b : Int)) → (garboardref01_Plus.J9 d b j l e m f g i a c B w R)))) ∧ (¬ (a < (e : Int)) → (((c > 0) → (((a < (b : Int)) → ((0 ≤ a ∧ a < b) ∧ ∃ s, d = some s ∧ (∃ p, CellsAt w (s.add ((a).toNat * 1)) [.int .u32 p] ∧ (inR .u32 (c + p) ∧ (garboardref01_Plus.J9 d b j l e m f g i a (c + p) B w R))))) ∧ (¬ (a < (b : Int)) → (garboardref01_Plus.J9 d b j l e m f g i a c B w R)))) ∧ (¬ (c > 0) → (Pure P 110 #[.slice f g i] w fun x y => ∃ t u v, x = .slice t u v ∧ (R (.slice t u v) y))))))))) :
    garboardref01_Plus.L4 d b j l e m f g i c a B w R :=
  loop_of_run (garboardref01_Plus.cx w B R) 100000 (loopAt Tryz.f129 4) _ _ follows Tryz.func129 rfl rfl rfl (Eq.mp (by kernel_rfl) h)
theorem garboardref01_Plus.J9.step (Al0 : Option Addr) (nl0 cl0 : Nat) (Al1 : Option Addr) (nl1 cl1 : Nat) (Al5 : Option Addr) (nl5 cl5 : Nat) (il7 : Int) (il8 : Int) (B : Nat) (w : World) (R : Value → World → Prop)
    (h : ((((il7 : Int) < (nl1 : Int)) → ((0 ≤ il7 ∧ il7 < nl1) ∧ ∃ a10, Al1 = some a10 ∧ (∃ (i11 : Int), CellsAt w (a10.add ((il7).toNat * 1)) [(.int .u32 i11)] ∧ (inR .u32 (il8 + i11) ∧ ((0 ≤ (il8 + i11) ∧ 0 < (1000000000 : Int)) ∧ (RunOk Tryz.prog (Instr.buildSlice 69 1 #[(0, (.int .u32 ((il8 + i11) % (1000000000 : Int))))]) B [] w fun r13 w14 => ∃ (A12 : Option Addr) (n12 c12 : Nat), r13 = (.slice A12 n12 c12) ∧ (RunOk Tryz.prog (Builtin.append_ #[69, 69] 69 #[(.slice Al5 nl5 cl5), (.slice A12 n12 c12)]) B [] w14 fun r16 w17 => ∃ (A15 : Option Addr) (n15 c15 : Nat), r16 = (.slice A15 n15 c15) ∧ ((0 ≤ (il8 + i11) ∧ 0 < (1000000000 : Int) ∧ inR .u32 (il8 + i11)) ∧ (inR .i64 (il7 + (1 : Int)) ∧ (garboardref01_Plus.L4 Al0 nl0 cl0 Al1 nl1 cl1 A15 n15 c15 ((il8 + i11) / (1000000000 : Int)) (il7 + (1 : Int)) B w17 R)))))))))) ∧ (¬ ((il7 : Int) < (nl1 : Int)) → ((0 ≤ il8 ∧ 0 < (1000000000 : Int)) ∧ (RunOk Tryz.prog (Instr.buildSlice 69 1 #[(0, (.int .u32 (il8 % (1000000000 : Int))))]) B [] w fun r19 w20 => ∃ (A18 : Option Addr) (n18 c18 : Nat), r19 = (.slice A18 n18 c18) ∧ (RunOk Tryz.prog (Builtin.append_ #[69, 69] 69 #[(.slice Al5 nl5 cl5), (.slice A18 n18 c18)]) B [] w20 fun r22 w23 => ∃ (A21 : Option Addr) (n21 c21 : Nat), r22 = (.slice A21 n21 c21) ∧ ((0 ≤ il8 ∧ 0 < (1000000000 : Int) ∧ inR .u32 il8) ∧ (inR .i64 (il7 + (1 : Int)) ∧ (garboardref01_Plus.L4 Al0 nl0 cl0 Al1 nl1 cl1 A21 n21 c21 (il8 / (1000000000 : Int)) (il7 + (1 : Int)) B w23 R))))))))) :
    garboardref01_Plus.J9 Al0 nl0 cl0 Al1 nl1 cl1 Al5 nl5 cl5 il7 il8 B w R :=
  join_of_run (garboardref01_Plus.cx w B R) 100000 (regionAt Tryz.f129 9) _ _ follows Tryz.func129 rfl rfl rfl (Eq.mp (by kernel_rfl) h)
theorem garboardref01_Plus.vc (a : Option Addr) (b c : Nat) (d : Option Addr) (e f : Nat) (w : World) (R : Value → World → Prop)
    (h : (garboardref01_Plus.L4 a b c d e f none 0 0 (0 : Int) (0 : Int) w.heap.size w R)) :
    Pure P 129 #[.slice a b c, .slice d e f] w R :=
  pure_of_run (garboardref01_Plus.cx w w.heap.size R) 100000 follows Tryz.func129 rfl rfl rfl rfl rfl rfl rfl (Eq.mp (by kernel_rfl) h)

def garboardref01_Minus.L4 (a : Option Addr) (b c : Nat) (d : Option Addr) (e f : Nat) (g : Option Addr) (i j : Nat) (l m : Int) (B : Nat) (w : World) (R : Value → World → Prop) : Prop := At Tryz.prog 130 44 (loopAt Tryz.f130 4) [(0, .v (.slice a b c)), (1, .v (.slice d e f)), (5, .v (.slice g i j)), (6, .v (.int .i64 l)), (7, .v (.int .i64 m))] [] B w R
def garboardref01_Minus.J9 (a : Option Addr) (b c : Nat) (d : Option Addr) (e f : Nat) (g : Option Addr) (i j : Nat) (l m : Int) (B : Nat) (w : World) (R : Value → World → Prop) : Prop := At Tryz.prog 130 44 (regionAt Tryz.f130 9) [(0, .v (.slice a b c)), (1, .v (.slice d e f)), (5, .v (.slice g i j)), (7, .v (.int .i64 l)), (8, .v (.int .i64 m))] [] B w R
noncomputable def garboardref01_Minus.cx (w : World) (B : Nat) (R : Value → World → Prop) : Cx := ⟨Tryz.prog, 130, 44, Tryz.f130.results.toList, [((true, 4), [0, 1, 5, 6, 7], []), ((false, 9), [0, 1, 5, 7, 8], [])], [(12, 3, 2), (12, 4, 2)], w, B, R⟩
theorem garboardref01_Minus.L4.step (f : Option Addr) (b n : Nat) (g : Option Addr) (c o : Nat) (i : Option Addr) (j l : Nat) (e a : Int) (B : Nat) (w : World) (R : Value → World → Prop)
    (h : (((a < (b : Int)) → ((0 ≤ a ∧ a < b) ∧ ∃ p, f = some p ∧ (∃ d, CellsAt w (p.add ((a).toNat * 1)) [.int .u32 d] ∧ (inR .i64 (d) ∧ (inR .i64 ((d) - e) ∧ (((a < (c : Int)) → ((0 ≤ a ∧ a < c) ∧ ∃ q, g = some q ∧ (∃ m, CellsAt w (q.add ((a).toNat * 1)) [.int .u32 m] ∧ (inR .i64 (m) ∧ (inR .i64 (((d) - e) - (m)) ∧ (garboardref01_Minus.J9 f b n g c o i j l a (((d) - e) - (m)) B w R)))))) ∧ (¬ (a < (c : Int)) → (garboardref01_Minus.J9 f b n g c o i j l a ((d) - e) B w R)))))))) ∧ (¬ (a < (b : Int)) → (Pure P 110 #[.slice i j l] w fun u v => ∃ r s t, u = .slice r s t ∧ (R (.slice r s t) v))))) :
    garboardref01_Minus.L4 f b n g c o i j l e a B w R :=
  loop_of_run (garboardref01_Minus.cx w B R) 100000 (loopAt Tryz.f130 4) _ _ follows Tryz.func130 rfl rfl rfl (Eq.mp (by kernel_rfl) h)
theorem garboardref01_Minus.J9.step (c : Option Addr) (d e : Nat) (f : Option Addr) (g i : Nat) (j : Option Addr) (l m : Nat) (b a : Int) (B : Nat) (w : World) (R : Value → World → Prop)
    (h : (((a < 0) → (inR .i64 (a + 1000000000) ∧ (inR .u32 ((a + 1000000000)) ∧ (RunOk P (Instr.buildSlice 69 1 #[(0, (.int .u32 ((a + 1000000000))))]) B [] w fun A C => ∃ n o p, A = .slice n o p ∧ (RunOk P (Builtin.append_ #[69, 69] 69 #[.slice j l m, .slice n o p]) B [] C fun D E => ∃ q r s, D = .slice q r s ∧ (inR .i64 (b + 1) ∧ (garboardref01_Minus.L4 c d e f g i q r s (1 : Int) (b + 1) B E R))))))) ∧ (¬ (a < 0) → (inR .u32 (a) ∧ (RunOk P (Instr.buildSlice 69 1 #[(0, (.int .u32 (a)))]) B [] w fun G H => ∃ t u v, G = .slice t u v ∧ (RunOk P (Builtin.append_ #[69, 69] 69 #[.slice j l m, .slice t u v]) B [] H fun I J => ∃ x y z, I = .slice x y z ∧ (inR .i64 (b + 1) ∧ (garboardref01_Minus.L4 c d e f g i x y z (0 : Int) (b + 1) B J R)))))))) :
    garboardref01_Minus.J9 c d e f g i j l m b a B w R :=
  join_of_run (garboardref01_Minus.cx w B R) 100000 (regionAt Tryz.f130 9) _ _ follows Tryz.func130 rfl rfl rfl (Eq.mp (by kernel_rfl) h)
theorem garboardref01_Minus.vc (a : Option Addr) (b c : Nat) (d : Option Addr) (e f : Nat) (w : World) (R : Value → World → Prop)
    (h : (garboardref01_Minus.L4 a b c d e f none 0 0 (0 : Int) (0 : Int) w.heap.size w R)) :
    Pure P 130 #[.slice a b c, .slice d e f] w R :=
  pure_of_run (garboardref01_Minus.cx w w.heap.size R) 100000 follows Tryz.func130 rfl rfl rfl rfl rfl rfl rfl (Eq.mp (by kernel_rfl) h)

def garboardref01_small.L4 (a : Option Addr) (b c : Nat) (d : Int) (e : Option Addr) (f g : Nat) (i j : Int) (B : Nat) (w : World) (R : Value → World → Prop) : Prop := At Tryz.prog 131 44 (loopAt Tryz.f131 4) [(0, .v (.slice a b c)), (1, .v (.int .u32 d)), (6, .v (.slice e f g)), (7, .v (.int .u64 i)), (8, .v (.int .i64 j))] [] B w R
noncomputable def garboardref01_small.cx (w : World) (B : Nat) (R : Value → World → Prop) : Cx := ⟨Tryz.prog, 131, 44, Tryz.f131.results.toList, [((true, 4), [0, 1, 6, 7, 8], [])], [(1, 2, 2)], w, B, R⟩
theorem garboardref01_small.L4.step (i : Option Addr) (j o : Nat) (c : Int) (f : Option Addr) (g l : Nat) (b a : Int) (B : Nat) (w : World) (R : Value → World → Prop)
    (h : (((a ≥ (0 : Int)) → (inR .u64 (b * (1000000000 : Int)) ∧ ((0 ≤ a ∧ a < j) ∧ ∃ p, i = some p ∧ (∃ d, CellsAt w (p.add ((a).toNat * 1)) [.int .u32 d] ∧ (inR .u64 (d) ∧ (inR .u64 ((b * (1000000000 : Int)) + (d)) ∧ (inR .u64 (c) ∧ ((0 ≤ ((b * (1000000000 : Int)) + (d)) ∧ 0 < (c) ∧ inR .u64 ((b * (1000000000 : Int)) + (d))) ∧ (inR .u32 ((((b * (1000000000 : Int)) + (d)) / (c))) ∧ ((0 ≤ a ∧ a < g) ∧ ∃ e, f = some e ∧ (∃ (m : List Value) (n : Nat), B ≤ (e.add ((a).toNat * 1)).block ∧ (e.add ((a).toNat * 1)).spot = none ∧ w.heap[(e.add ((a).toNat * 1)).block]? = some (.cells m.toArray n (0, 0)) ∧ (e.add ((a).toNat * 1)).off + 1 ≤ m.length ∧ hasType n [] = false ∧ ∀ q, Wrote w q (e.add ((a).toNat * 1)).block n (setCells m (e.add ((a).toNat * 1)).off [(.int .u32 ((((b * (1000000000 : Int)) + (d)) / (c))))]) → (inR .u64 (c) ∧ ((0 ≤ ((b * (1000000000 : Int)) + (d)) ∧ 0 < (c)) ∧ (inR .i64 (a - (1 : Int)) ∧ (garboardref01_small.L4 i j o c f g l (((b * (1000000000 : Int)) + (d)) % (c)) (a - (1 : Int)) B q R))))))))))))))) ∧ (¬ (a ≥ (0 : Int)) → (Pure P 110 #[.slice f g l] w fun u v => ∃ r s t, u = .slice r s t ∧ (inR .u32 (b) ∧ (R (.tuple #[.slice r s t, (.int .u32 (b))]) v)))))) :
    garboardref01_small.L4 i j o c f g l b a B w R :=
  loop_of_run (garboardref01_small.cx w B R) 100000 (loopAt Tryz.f131 4) _ _ follows Tryz.func131 rfl rfl rfl (Eq.mp (by kernel_rfl) h)
theorem garboardref01_small.vc (b : Option Addr) (a c : Nat) (d : Int) (w : World) (R : Value → World → Prop)
    (h : (RunOk P (Instr.makeSlice 69 (.int .i64 (a : Int)) (.int .i64 (a : Int))) w.heap.size [] w fun i j => ∃ e f g, i = .slice e f g ∧ (inR .i64 ((a : Int) - (1 : Int)) ∧ (garboardref01_small.L4 b a c d e f g (0 : Int) ((a : Int) - (1 : Int)) w.heap.size j R)))) :
    Pure P 131 #[.slice b a c, .int .u32 d] w R :=
  pure_of_run (garboardref01_small.cx w w.heap.size R) 100000 follows Tryz.func131 rfl rfl rfl rfl rfl rfl rfl (Eq.mp (by kernel_rfl) h)

def garboardref01_reduce.L5 (a : Option Addr) (b c : Nat) (d : Option Addr) (e f : Nat) (g i j l m n : Int) (B : Nat) (w : World) (R : Value → World → Prop) : Prop := At Tryz.prog 132 136 (loopAt Tryz.f132 5) [(0, .v (.slice a b c)), (1, .v (.slice d e f)), (2, .v (.int .i64 g)), (3, .v (.int .u64 i)), (9, .v (.int .i64 j)), (10, .v (.int .i64 l)), (11, .v (.int .u64 m)), (12, .v (.int .i64 n))] [] B w R
def garboardref01_reduce.L21 (a : Option Addr) (b c : Nat) (d : Option Addr) (e f : Nat) (g i j l m : Int) (B : Nat) (w : World) (R : Value → World → Prop) : Prop := At Tryz.prog 132 136 (loopAt Tryz.f132 21) [(0, .v (.slice a b c)), (1, .v (.slice d e f)), (2, .v (.int .i64 g)), (3, .v (.int .u64 i)), (9, .v (.int .i64 j)), (16, .v (.int .u32 l)), (17, .v (.int .i64 m))] [] B w R
noncomputable def garboardref01_reduce.cx (w : World) (B : Nat) (R : Value → World → Prop) : Cx := ⟨Tryz.prog, 132, 136, Tryz.f132.results.toList, [((true, 5), [0, 1, 2, 3, 9, 10, 11, 12], []), ((true, 21), [0, 1, 2, 3, 9, 16, 17], [])], [], w, B, R⟩
theorem garboardref01_reduce.L5.step (Al0 : Option Addr) (nl0 cl0 : Nat) (Al1 : Option Addr) (nl1 cl1 : Nat) (il2 : Int) (il3 : Int) (il9 : Int) (il10 : Int) (il11 : Int) (il12 : Int) (B : Nat) (w : World) (R : Value → World → Prop)
    (h : ((((il12 : Int) < il9) → ((0 ≤ il12 ∧ il12 < nl1) ∧ ∃ a1, Al1 = some a1 ∧ (∃ (i2 : Int), CellsAt w (a1.add ((il12).toNat * 1)) [(.int .u32 i2)] ∧ (inR .u64 (i2) ∧ (inR .u64 (il3 * (i2)) ∧ (inR .u64 ((il3 * (i2)) + il11) ∧ ((0 ≤ ((il3 * (i2)) + il11) ∧ 0 < (1000000000 : Int) ∧ inR .u64 ((il3 * (i2)) + il11)) ∧ (inR .i64 (il2 + il12) ∧ ((0 ≤ (il2 + il12) ∧ (il2 + il12) < nl0) ∧ ∃ a3, Al0 = some a3 ∧ (∃ (i4 : Int), CellsAt w (a3.add (((il2 + il12)).toNat * 1)) [(.int .u32 i4)] ∧ (inR .i64 (i4) ∧ ((0 ≤ ((il3 * (i2)) + il11) ∧ 0 < (1000000000 : Int)) ∧ (inR .i64 ((((il3 * (i2)) + il11) % (1000000000 : Int))) ∧ (inR .i64 ((i4) - ((((il3 * (i2)) + il11) % (1000000000 : Int)))) ∧ (inR .i64 (((i4) - ((((il3 * (i2)) + il11) % (1000000000 : Int)))) - il10) ∧ (((((((i4) - ((((il3 * (i2)) + il11) % (1000000000 : Int)))) - il10) : Int) < (0 : Int)) → (inR .i64 ((((i4) - ((((il3 * (i2)) + il11) % (1000000000 : Int)))) - il10) + (1000000000 : Int)) ∧ (inR .i64 (il2 + il12) ∧ (inR .u32 (((((i4) - ((((il3 * (i2)) + il11) % (1000000000 : Int)))) - il10) + (1000000000 : Int))) ∧ ((0 ≤ (il2 + il12) ∧ (il2 + il12) < nl0) ∧ ∃ a5, Al0 = some a5 ∧ (∃ (cs6 : List Value) (t7 : Nat), B ≤ (a5.add (((il2 + il12)).toNat * 1)).block ∧ (a5.add (((il2 + il12)).toNat * 1)).spot = none ∧ w.heap[(a5.add (((il2 + il12)).toNat * 1)).block]? = some (.cells cs6.toArray t7 (0, 0)) ∧ (a5.add (((il2 + il12)).toNat * 1)).off + 1 ≤ cs6.length ∧ hasType t7 [] = false ∧ ∀ w8, Wrote w w8 (a5.add (((il2 + il12)).toNat * 1)).block t7 (setCells cs6 (a5.add (((il2 + il12)).toNat * 1)).off [(.int .u32 (((((i4) - ((((il3 * (i2)) + il11) % (1000000000 : Int)))) - il10) + (1000000000 : Int))))]) → (inR .i64 (il12 + (1 : Int)) ∧ (garboardref01_reduce.L5 Al0 nl0 cl0 Al1 nl1 cl1 il2 il3 il9 (1 : Int) (((il3 * (i2)) + il11) / (1000000000 : Int)) (il12 + (1 : Int)) B w8 R)))))))) ∧ (¬ (((((i4) - ((((il3 * (i2)) + il11) % (1000000000 : Int)))) - il10) : Int) < (0 : Int)) → (inR .i64 (il2 + il12) ∧ (inR .u32 ((((i4) - ((((il3 * (i2)) + il11) % (1000000000 : Int)))) - il10)) ∧ ((0 ≤ (il2 + il12) ∧ (il2 + il12) < nl0) ∧ ∃ a9, Al0 = some a9 ∧ (∃ (cs10 : List Value) (t11 : Nat), B ≤ (a9.add (((il2 + il12)).toNat * 1)).block ∧ (a9.add (((il2 + il12)).toNat * 1)).spot = none ∧ w.heap[(a9.add (((il2 + il12)).toNat * 1)).block]? = some (.cells cs10.toArray t11 (0, 0)) ∧ (a9.add (((il2 + il12)).toNat * 1)).off + 1 ≤ cs10.length ∧ hasType t11 [] = false ∧ ∀ w12, Wrote w w12 (a9.add (((il2 + il12)).toNat * 1)).block t11 (setCells cs10 (a9.add (((il2 + il12)).toNat * 1)).off [(.int .u32 ((((i4) - ((((il3 * (i2)) + il11) % (1000000000 : Int)))) - il10)))]) → (inR .i64 (il12 + (1 : Int)) ∧ (garboardref01_reduce.L5 Al0 nl0 cl0 Al1 nl1 cl1 il2 il3 il9 (0 : Int) (((il3 * (i2)) + il11) / (1000000000 : Int)) (il12 + (1 : Int)) B w12 R))))))))))))))))))))))) ∧ (¬ ((il12 : Int) < il9) → (inR .i64 (il2 + il9) ∧ ((0 ≤ (il2 + il9) ∧ (il2 + il9) < nl0) ∧ ∃ a13, Al0 = some a13 ∧ (∃ (i14 : Int), CellsAt w (a13.add (((il2 + il9)).toNat * 1)) [(.int .u32 i14)] ∧ (inR .i64 (i14) ∧ (inR .i64 (il11) ∧ (inR .i64 ((i14) - (il11)) ∧ (inR .i64 (((i14) - (il11)) - il10) ∧ (((((((i14) - (il11)) - il10) : Int) ≥ (0 : Int)) → (inR .i64 (il2 + il9) ∧ (inR .u32 ((((i14) - (il11)) - il10)) ∧ ((0 ≤ (il2 + il9) ∧ (il2 + il9) < nl0) ∧ ∃ a15, Al0 = some a15 ∧ (∃ (cs16 : List Value) (t17 : Nat), B ≤ (a15.add (((il2 + il9)).toNat * 1)).block ∧ (a15.add (((il2 + il9)).toNat * 1)).spot = none ∧ w.heap[(a15.add (((il2 + il9)).toNat * 1)).block]? = some (.cells cs16.toArray t17 (0, 0)) ∧ (a15.add (((il2 + il9)).toNat * 1)).off + 1 ≤ cs16.length ∧ hasType t17 [] = false ∧ ∀ w18, Wrote w w18 (a15.add (((il2 + il9)).toNat * 1)).block t17 (setCells cs16 (a15.add (((il2 + il9)).toNat * 1)).off [(.int .u32 ((((i14) - (il11)) - il10)))]) → (inR .u32 (il3) ∧ (R (.int .u32 (il3)) w18))))))) ∧ (¬ (((((i14) - (il11)) - il10) : Int) ≥ (0 : Int)) → (inR .i64 (il2 + il9) ∧ (inR .i64 ((((i14) - (il11)) - il10) + (1000000000 : Int)) ∧ (inR .u32 (((((i14) - (il11)) - il10) + (1000000000 : Int))) ∧ ((0 ≤ (il2 + il9) ∧ (il2 + il9) < nl0) ∧ ∃ a19, Al0 = some a19 ∧ (∃ (cs20 : List Value) (t21 : Nat), B ≤ (a19.add (((il2 + il9)).toNat * 1)).block ∧ (a19.add (((il2 + il9)).toNat * 1)).spot = none ∧ w.heap[(a19.add (((il2 + il9)).toNat * 1)).block]? = some (.cells cs20.toArray t21 (0, 0)) ∧ (a19.add (((il2 + il9)).toNat * 1)).off + 1 ≤ cs20.length ∧ hasType t21 [] = false ∧ ∀ w22, Wrote w w22 (a19.add (((il2 + il9)).toNat * 1)).block t21 (setCells cs20 (a19.add (((il2 + il9)).toNat * 1)).off [(.int .u32 (((((i14) - (il11)) - il10) + (1000000000 : Int))))]) → (garboardref01_reduce.L21 Al0 nl0 cl0 Al1 nl1 cl1 il2 il3 il9 (0 : Int) (0 : Int) B w22 R)))))))))))))))))) :
    garboardref01_reduce.L5 Al0 nl0 cl0 Al1 nl1 cl1 il2 il3 il9 il10 il11 il12 B w R :=
  loop_of_run (garboardref01_reduce.cx w B R) 100000 (loopAt Tryz.f132 5) _ _ follows Tryz.func132 rfl rfl rfl (Eq.mp (by kernel_rfl) h)
theorem garboardref01_reduce.L21.step (Al0 : Option Addr) (nl0 cl0 : Nat) (Al1 : Option Addr) (nl1 cl1 : Nat) (il2 : Int) (il3 : Int) (il9 : Int) (il16 : Int) (il17 : Int) (B : Nat) (w : World) (R : Value → World → Prop)
    (h : ((((il17 : Int) < il9) → (inR .i64 (il2 + il17) ∧ ((0 ≤ (il2 + il17) ∧ (il2 + il17) < nl0) ∧ ∃ a23, Al0 = some a23 ∧ (∃ (i24 : Int), CellsAt w (a23.add (((il2 + il17)).toNat * 1)) [(.int .u32 i24)] ∧ ((0 ≤ il17 ∧ il17 < nl1) ∧ ∃ a25, Al1 = some a25 ∧ (∃ (i26 : Int), CellsAt w (a25.add ((il17).toNat * 1)) [(.int .u32 i26)] ∧ (inR .u32 (i24 + i26) ∧ (inR .u32 ((i24 + i26) + il16) ∧ (inR .i64 (il2 + il17) ∧ ((0 ≤ ((i24 + i26) + il16) ∧ 0 < (1000000000 : Int)) ∧ ((0 ≤ (il2 + il17) ∧ (il2 + il17) < nl0) ∧ ∃ a27, Al0 = some a27 ∧ (∀ w28, Ext B [] w w28 → (∃ (cs29 : List Value) (t30 : Nat), B ≤ (a27.add (((il2 + il17)).toNat * 1)).block ∧ (a27.add (((il2 + il17)).toNat * 1)).spot = none ∧ w28.heap[(a27.add (((il2 + il17)).toNat * 1)).block]? = some (.cells cs29.toArray t30 (0, 0)) ∧ (a27.add (((il2 + il17)).toNat * 1)).off + 1 ≤ cs29.length ∧ hasType t30 [] = false ∧ ∀ w31, Wrote w28 w31 (a27.add (((il2 + il17)).toNat * 1)).block t30 (setCells cs29 (a27.add (((il2 + il17)).toNat * 1)).off [(.int .u32 (((i24 + i26) + il16) % (1000000000 : Int)))]) → ((0 ≤ ((i24 + i26) + il16) ∧ 0 < (1000000000 : Int) ∧ inR .u32 ((i24 + i26) + il16)) ∧ (inR .i64 (il17 + (1 : Int)) ∧ (garboardref01_reduce.L21 Al0 nl0 cl0 Al1 nl1 cl1 il2 il3 il9 (((i24 + i26) + il16) / (1000000000 : Int)) (il17 + (1 : Int)) B w31 R)))))))))))))))) ∧ (¬ ((il17 : Int) < il9) → (inR .i64 (il2 + il9) ∧ (inR .i64 (il2 + il9) ∧ ((0 ≤ (il2 + il9) ∧ (il2 + il9) < nl0) ∧ ∃ a32, Al0 = some a32 ∧ (∃ (i33 : Int), CellsAt w (a32.add (((il2 + il9)).toNat * 1)) [(.int .u32 i33)] ∧ (inR .u32 (i33 + il16) ∧ ((0 ≤ (i33 + il16) ∧ 0 < (1000000000 : Int)) ∧ ((0 ≤ (il2 + il9) ∧ (il2 + il9) < nl0) ∧ ∃ a34, Al0 = some a34 ∧ (∃ (cs35 : List Value) (t36 : Nat), B ≤ (a34.add (((il2 + il9)).toNat * 1)).block ∧ (a34.add (((il2 + il9)).toNat * 1)).spot = none ∧ w.heap[(a34.add (((il2 + il9)).toNat * 1)).block]? = some (.cells cs35.toArray t36 (0, 0)) ∧ (a34.add (((il2 + il9)).toNat * 1)).off + 1 ≤ cs35.length ∧ hasType t36 [] = false ∧ ∀ w37, Wrote w w37 (a34.add (((il2 + il9)).toNat * 1)).block t36 (setCells cs35 (a34.add (((il2 + il9)).toNat * 1)).off [(.int .u32 ((i33 + il16) % (1000000000 : Int)))]) → (inR .u64 (il3 - (1 : Int)) ∧ (inR .u32 ((il3 - (1 : Int))) ∧ (R (.int .u32 ((il3 - (1 : Int)))) w37)))))))))))))) :
    garboardref01_reduce.L21 Al0 nl0 cl0 Al1 nl1 cl1 il2 il3 il9 il16 il17 B w R :=
  loop_of_run (garboardref01_reduce.cx w B R) 100000 (loopAt Tryz.f132 21) _ _ follows Tryz.func132 rfl rfl rfl (Eq.mp (by kernel_rfl) h)
theorem garboardref01_reduce.vcB (b : Option Addr) (c d : Nat) (e : Option Addr) (a f : Nat) (g i : Int) (B : Nat) (w : World) (hB : B ≤ w.heap.size) (R : Value → World → Prop)
    (h : (garboardref01_reduce.L5 b c d e a f g i (a : Int) (0 : Int) (0 : Int) (0 : Int) B w R)) :
    PureB P 132 #[.slice b c d, .slice e a f, .int .i64 g, .int .u64 i] B w R :=
  pureB_of_run (garboardref01_reduce.cx w B R) 100000 follows Tryz.func132 rfl rfl rfl rfl hB rfl rfl (Eq.mp (by kernel_rfl) h)

end Go.Proofs.YtdnelnicnjplpaaGreatDoor.F

namespace Go.Proofs.YtdnelnicnjplpaaGreatDoor.B
open Go Go.RowKit Go.Proofs Go.Proofs.YtdnelnicnjplpaaGreatDoor.Vc

theorem el_N : El Tryz.prog 69 112 1 4 := El.of (by kernel_rfl)

theorem bt_zero {s : ByteArray} {c : UInt8} {r : Tx} (h : by_ s = c :: r) : bt s 0 = (c.toNat : Int) := by
  have : bt s 0 = (((by_ s).getD 0 0).toNat : Int) := rfl
  rw [this, h]; rfl

theorem ref_Valid_loop (s : ByteArray) (hs : s.size < 2147483648) (B : Nat) (w : World) (R : Value → World → Prop) (hR : R (.bool (isNat (by_ s))) w) : ∀ (d : Nat) (i : Int), 0 ≤ i → i ≤ s.size → s.size - i = d →
    ((by_ s).take i.toNat).all dig = true → F.garboardref01_Valid.L2 s i B w R := by
  intro d
  induction d with
  | zero =>
    intro i h0 h1 hd hp
    have hsz := size_by s
    rw [List.take_of_length_le (by omega)] at hp
    refine F.garboardref01_Valid.L2.step _ _ _ _ _ ⟨fun h => by omega, fun h => ⟨fun h1 => ?_, fun h1 => ⟨fun h2 => ⟨by omega, ?_⟩, fun h2 => ?_⟩⟩⟩
    · obtain ⟨c, hc⟩ := List.length_eq_one_iff.1 (by omega : (by_ s).length = 1)
      rw [hc] at hR hp
      have : isNat [c] = true := by simp [isNat] at hp ⊢; exact hp
      rwa [this] at hR
    · cases hl : by_ s with
      | nil => rw [hl, List.length_nil] at hsz; omega
      | cons c r =>
        rw [bt_zero hl]
        rw [hl] at hR hp hsz
        have hr : r ≠ [] := fun k => by subst k; simp at hsz; omega
        have : isNat (c :: r) = decide ((c.toNat : Int) ≠ 48) := by
          unfold isNat
          rw [hp]
          have e : (c == 48) = decide (c.toNat = 48) := by
            by_cases k : c = 48
            · subst k; rfl
            · have : c.toNat ≠ 48 := fun k2 => k (UInt8.toNat_inj.1 k2)
              simp [k, this]
          have h2 : ((c :: r).length == 1) = false := by simp [hr]
          have e3 : ((c.toNat : Int) ≠ 48) ↔ ¬ c.toNat = 48 := by omega
          simp only [h2, List.isEmpty_cons, Bool.not_false, Bool.true_and, Bool.false_or, Bool.and_true, List.head?_cons]
          by_cases k : c.toNat = 48
          · have : c = 48 := UInt8.toNat_inj.1 k
            subst this
            simp
          · have : c ≠ 48 := fun k2 => k (by rw [k2]; rfl)
            rw [decide_eq_true (show (c.toNat : Int) ≠ 48 by omega)]
            simp [this]
        rwa [this] at hR
    · have : by_ s = [] := List.eq_nil_of_length_eq_zero (by omega)
      rw [this] at hR
      exact hR
  | succ d ih =>
    intro i h0 h1 hd hp
    have hsz := size_by s
    obtain ⟨c, hc, hb, hdr⟩ := bt_get h0 (show i < s.size by omega)
    have bad : dig c = false → isNat (by_ s) = false := by
      intro hk
      unfold isNat
      have : (by_ s).all dig = false := by
        rw [List.all_eq_false]
        exact ⟨c, List.mem_of_getElem? hc, by simp [hk]⟩
      rw [this]
      simp
    refine F.garboardref01_Valid.L2.step _ _ _ _ _ ⟨fun h => ⟨by omega, fun h2 => ?_, fun h2 => ⟨by omega, fun h3 => ?_, fun h3 => ⟨by simp only [inR]; omega, ?_⟩⟩⟩, fun h => by omega⟩
    · rw [bad (by simp [dig]; omega)] at hR; exact hR
    · rw [bad (by simp [dig]; omega)] at hR; exact hR
    · have hc2 : dig c = true := by simp [dig]; omega
      refine ih (i + 1) (by omega) (by omega) (by omega) ?_
      rw [show (i + 1).toNat = i.toNat + 1 by omega, List.take_add_one, hc]
      simp [hp, hc2]

theorem ref_Valid (s : ByteArray) (hs : s.size < 2147483648) (w : World) : Pure Tryz.prog 75 #[.string s] w fun v _ => v = .bool (isNat (by_ s)) :=
  F.garboardref01_Valid.vc _ _ _ (ref_Valid_loop s hs _ _ _ rfl s.size 0 (by omega) (by omega) (by omega) (by simp))

theorem ref_trim_loop (B : Nat) (w : World) (A : Option Addr) (c : Nat) (R : Value → World → Prop) : ∀ (n : Nat) (ws : List Nat), SlU w A ws → ws.length = n → n < 2147483648 → n ≤ c → Small ws →
    (∀ m, m ≤ n → Norm (ws.take m) → wv (ws.take m) = wv ws → R (.slice A m c) w) → F.garboardref01_trim.L1 A n c B w R := by
  intro n
  induction n with
  | zero =>
    intro ws h hl hc hn hs hR
    refine F.garboardref01_trim.L1.step _ _ _ _ _ _ ⟨fun h => by omega, fun _ => hR 0 (by omega) (by simp [Norm]) (by have := List.eq_nil_of_length_eq_zero hl; subst this; rfl)⟩
  | succ n ih =>
    intro ws h hl hc hn hs hR
    obtain ⟨a, hA, x, hx, hcell⟩ := h.cell (j := ((n + 1 : Nat) : Int) - 1) (by omega) (by omega)
    have e : (((n + 1 : Nat) : Int) - 1).toNat = n := by omega
    refine F.garboardref01_trim.L1.step _ _ _ _ _ _ ⟨fun _ => ⟨by simp only [inR]; omega, by omega, a, hA, _, hcell, fun h0 => ⟨by simp only [inR]; omega, by omega, ?_⟩, fun h0 => ?_⟩, fun h => by omega⟩
    · rw [e] at hx ⊢
      have hx0 : x = 0 := by omega
      subst hx0
      have ew := wv_take_zero hl hx
      refine ih (ws.take n) (h.take n) (by simp; omega) (by omega) (by omega) (hs.take n) fun m hm h1 h2 => hR m (by omega) ?_ ?_
      · rw [List.take_take, Nat.min_eq_left hm] at h1; exact h1
      · rw [List.take_take, Nat.min_eq_left hm] at h2; rw [h2, ew]
    · rw [e] at hx
      have et : ws.take (n + 1) = ws := List.take_of_length_le (by omega)
      refine hR (n + 1) (Nat.le_refl _) ?_ (by rw [et])
      rw [et]
      unfold Norm
      rw [List.getLast?_eq_getElem?, hl, Nat.add_sub_cancel, hx]
      intro k
      cases k
      exact h0 rfl

theorem ref_trim {w : World} {A : Option Addr} {n c : Nat} {ws : List Nat} (h : SlU w A ws) (hl : ws.length = n) (hn : n ≤ c) (hc : n < 2147483648) (hs : Small ws) :
    Pure Tryz.prog 110 #[.slice A n c] w fun v w' => w' = w ∧ ∃ m, v = .slice A m c ∧ IsN w A m c (wv ws) ∧ m ≤ n ∧ Norm (ws.take m) ∧ wv (ws.take m) = wv ws :=
  F.garboardref01_trim.vc _ _ _ _ _ (ref_trim_loop _ _ _ _ _ n ws h hl hc hn hs fun m hm h1 h2 => ⟨rfl, m, rfl, ⟨ws.take m, h.take m, by simp; omega, by omega, by omega, hs.take m, h1, h2⟩, hm, h1, h2⟩)
theorem ref_trim_own {w : World} {B : Nat} {A : Option Addr} {n c : Nat} {ws : List Nat} (h : OwnU w B A n c ws) (hn : n < 2147483648) (hs : Small ws) :
    Pure Tryz.prog 110 #[.slice A n c] w fun v w' => w' = w ∧ ∃ m, v = .slice A m c ∧ OwnN w B A m c (wv ws) ∧ IsN w A m c (wv ws) :=
  Pure.mono (ref_trim h.sl h.len h.cap hn hs) fun v w' _ ⟨e, m, e2, h2, h3, h4, h5⟩ => ⟨e, m, e2, ⟨ws.take m, h.take h3 (by
    rcases h.2 with ⟨e, e2⟩ | ⟨g, cap, cur, e, _⟩
    · right; omega
    · cases e; exact .inl (by simp)), hs.take m, h4, h5⟩, h2⟩

theorem ref_Cmp_loop {w0 : World} {A0 A1 : Option Addr} {n0 c0 n1 c1 : Nat} {a b : List Nat} {R : Value → World → Prop} (ha : SlU w0 A0 a) (hal : a.length = n0) (hsa : Small a) (hb : SlU w0 A1 b) (hbl : b.length = n1) (hsb : Small b) (hnn : n0 = n1) (hn : n0 ≤ 1000000)
    (hR : ∀ w, R (.int .i64 (cmpI (wv a) (wv b))) w) :
    ∀ (i : Nat) (w : World), i ≤ n0 → Below w0.heap.size w0 w → a.drop i = b.drop i → F.garboardref01_Cmp.L6 A0 n0 c0 A1 n1 c1 ((i : Int) - 1) w0.heap.size w R := by
  intro i
  induction i with
  | zero =>
    intro w hi hw hd
    refine F.garboardref01_Cmp.L6.step _ _ _ _ _ _ _ _ _ _ ⟨fun h => by omega, fun _ => ?_⟩
    have := hR w
    have e : a = b := by simpa using hd
    subst e
    simpa [cmpI] using this
  | succ i ih =>
    intro w hi hw hd
    have e : ((i + 1 : Nat) : Int) - 1 = i := by omega
    rw [e]
    refine F.garboardref01_Cmp.L6.step _ _ _ _ _ _ _ _ _ _ ⟨fun _ => ?_, fun h => by omega⟩
    refine (ha.keep hw (Nat.le_refl _)).load hal (by omega) (by omega) ?_
    refine (hb.keep hw (Nat.le_refl _)).load hbl (by omega) (by omega) ?_
    rw [Int.toNat_natCast]
    refine ⟨fun h w2 e2 => ?_, fun h w2 e2 => ?_⟩
    · have := hR w2
      have h2 := wv_lt_at hsa (by omega) (by omega) hd (show a.getD i 0 < b.getD i 0 by omega)
      simp only [cmpI] at this
      rwa [if_pos (by omega)] at this
    · have hw2 := hw.trans e2.below
      refine (ha.keep hw2 (Nat.le_refl _)).load hal (by omega) (by omega) ?_
      refine (hb.keep hw2 (Nat.le_refl _)).load hbl (by omega) (by omega) ?_
      rw [Int.toNat_natCast]
      refine ⟨fun h3 w3 e3 => ?_, fun h3 => ⟨by simp only [inR]; omega, fun w3 e3 => ?_⟩⟩
      · have := hR w3
        have h2 := wv_lt_at hsb (by omega) (by omega) hd.symm (show b.getD i 0 < a.getD i 0 by omega)
        simp only [cmpI] at this
        rwa [if_neg (by omega), if_pos (by omega)] at this
      · refine ih w3 (by omega) (hw2.trans e3.below) ?_
        have h1 : a.getD i 0 = b.getD i 0 := by omega
        rw [List.drop_eq_getElem_cons (by omega : i < a.length), List.drop_eq_getElem_cons (by omega : i < b.length), hd]
        congr 1
        rw [List.getD_eq_getElem?_getD, List.getD_eq_getElem?_getD, List.getElem?_eq_getElem (by omega), List.getElem?_eq_getElem (by omega)] at h1
        exact h1

theorem ref_Cmp {w : World} {A0 A1 : Option Addr} {n0 c0 n1 c1 x y : Nat} (ha : IsN w A0 n0 c0 x) (hb : IsN w A1 n1 c1 y) (hx : x < Lim) (hy : y < Lim) :
    Pure Tryz.prog 79 #[.slice A0 n0 c0, .slice A1 n1 c1] w fun v _ => v = .int .i64 (cmpI x y) := by
  have l0 := ha.len hx
  have l1 := hb.len hy
  obtain ⟨a, a1, a2, a3, a4, a5, a6, rfl⟩ := ha
  obtain ⟨b, b1, b2, b3, b4, b5, b6, rfl⟩ := hb
  refine F.garboardref01_Cmp.vc _ _ _ _ _ _ _ _ ⟨fun h => ⟨fun h1 => ?_, fun h1 => ?_⟩, fun h => ⟨by simp only [inR]; omega, ?_⟩⟩
  · have h2 := wv_lt_len a5 b6 (by omega)
    simp only [cmpI]
    rw [if_pos (by omega)]
  · have h2 := wv_lt_len b5 a6 (by omega)
    simp only [cmpI]
    rw [if_neg (by omega), if_pos (by omega)]
  · refine ref_Cmp_loop a1 a2 a5 b1 b2 b5 (by omega) (by omega) (fun w => rfl) n0 w (Nat.le_refl _) (Below.refl _ _) ?_
    rw [List.drop_eq_nil_of_le (by omega), List.drop_eq_nil_of_le (by omega)]
end Go.Proofs.YtdnelnicnjplpaaGreatDoor.B

namespace Go.Proofs.YtdnelnicnjplpaaGreatDoor.B
open Go Go.RowKit Go.Proofs Go.Proofs.YtdnelnicnjplpaaGreatDoor.Vc

theorem getD_over {l : List Nat} {n : Nat} (h : l.length ≤ n) : l.getD n 0 = 0 := by rw [List.getD_eq_getElem?_getD, List.getElem?_eq_none h]; rfl

section
variable {w0 : World} {A0 A1 : Option Addr} {n0 c0 n1 c1 : Nat} {a b : List Nat} {R : Value → World → Prop}

theorem plus_J9 (hb : SlU w0 A1 b) (hbl : b.length = n1) (hsb : Small b) {w : World} {A : Option Addr} {n c s : Nat} {ws : List Nat} (hn : n ≤ 1000000) (hw : Below w0.heap.size w0 w) (ho : OwnU w w0.heap.size A n c ws) (hs : s ≤ 1000000000)
    (h : ∀ A' c' w', OwnU w' w0.heap.size A' (n + 1) c' (ws ++ [(s + b.getD n 0) % 1000000000]) → Below w0.heap.size w0 w' → F.garboardref01_Plus.L4 A0 n0 c0 A1 n1 c1 A' (n + 1) c' ((s + b.getD n 0) / 1000000000 : Nat) (n + 1 : Nat) w0.heap.size w' R) :
    F.garboardref01_Plus.J9 A0 n0 c0 A1 n1 c1 A n c n s w0.heap.size w R := by
  have g := hsb.getD n
  have e3 : (n : Int) + 1 = ((n + 1 : Nat) : Int) := by omega
  refine F.garboardref01_Plus.J9.step _ _ _ _ _ _ _ _ _ _ _ _ _ _ ⟨fun h1 => ?_, fun h1 => ⟨⟨by omega, by omega⟩, ?_⟩⟩
  · refine (hb.keep hw (Nat.le_refl _)).load hbl (by omega) (by omega) ?_
    rw [Int.toNat_natCast]
    have et : (s : Int) + ((b.getD n 0 : Nat) : Int) = ((s + b.getD n 0 : Nat) : Int) := by omega
    rw [et]
    refine ⟨by simp only [inR]; omega, ⟨by omega, by omega⟩, ?_⟩
    refine app_u32 (B0 := w0.heap.size) el_N (Nat.le_refl _) ho hn hw.size (by simp) (by omega) fun A' c' w' k1 _ k2 => ⟨⟨by omega, by omega, by simp only [inR]; omega⟩, by simp only [inR]; omega, ?_⟩
    have e1 : (((s + b.getD n 0 : Nat) : Int) % 1000000000).toNat = (s + b.getD n 0) % 1000000000 := by omega
    have e2 : ((s + b.getD n 0 : Nat) : Int) / 1000000000 = (((s + b.getD n 0) / 1000000000 : Nat) : Int) := by omega
    rw [e1] at k1
    rw [e2, e3]
    exact h A' c' w' k1 (hw.trans k2)
  · have e0 := getD_over (l := b) (n := n) (by omega)
    rw [e0, Nat.add_zero] at h
    refine app_u32 (B0 := w0.heap.size) el_N (Nat.le_refl _) ho hn hw.size (by simp) (by omega) fun A' c' w' k1 _ k2 => ⟨⟨by omega, by omega, by simp only [inR]; omega⟩, by simp only [inR]; omega, ?_⟩
    have e1 : ((s : Int) % 1000000000).toNat = s % 1000000000 := by omega
    have e2 : (s : Int) / 1000000000 = ((s / 1000000000 : Nat) : Int) := by omega
    rw [e1] at k1
    rw [e2, e3]
    exact h A' c' w' k1 (hw.trans k2)

theorem plus_loop (ha : SlU w0 A0 a) (hal : a.length = n0) (hsa : Small a) (hb : SlU w0 A1 b) (hbl : b.length = n1) (hsb : Small b) (h0 : n0 ≤ 500000) (h1 : n1 ≤ 500000)
    (hR : ∀ A n c w', IsN w' A n c (wv a + wv b) → R (.slice A n c) w') :
    ∀ (d : Nat) (n : Nat) (A : Option Addr) (c : Nat) (w : World) (ws : List Nat) (s : Nat), max n0 n1 + 1 - n = d → n ≤ max n0 n1 + 1 → OwnU w w0.heap.size A n c ws → Small ws → Below w0.heap.size w0 w → s ≤ 1 → (max n0 n1 < n → s = 0) →
      wv ws + 1000000000 ^ n * s = wv (a.take n) + wv (b.take n) →
      F.garboardref01_Plus.L4 A0 n0 c0 A1 n1 c1 A n c s n w0.heap.size w R := by
  intro d
  induction d with
  | zero =>
    intro n A c w ws s hd hn ho hs hw hsr hz inv
    have hz0 := hz (by omega)
    subst hz0
    rw [List.take_of_length_le (by omega), List.take_of_length_le (by omega)] at inv
    refine F.garboardref01_Plus.L4.step _ _ _ _ _ _ _ _ _ _ _ _ _ _ ⟨fun h => by omega, fun _ => ⟨fun h => by omega, fun _ => ⟨fun h => by omega, fun _ => ?_⟩⟩⟩
    refine Pure.mono (ref_trim_own ho (by omega) hs) ?_
    rintro v w2 _ ⟨rfl, m, rfl, _, h⟩
    rw [show wv ws = wv a + wv b by omega] at h
    exact ⟨_, _, _, rfl, hR _ _ _ _ h⟩
  | succ d ih =>
    intro n A c w ws s hd hn ho hs hw hsr hz inv
    have ga := hsa.getD n
    have gb := hsb.getD n
    have j9 : F.garboardref01_Plus.J9 A0 n0 c0 A1 n1 c1 A n c n ((s + a.getD n 0 : Nat) : Int) w0.heap.size w R := by
      refine plus_J9 hb hbl hsb (by omega) hw ho (by omega) fun A' c' w' k1 k2 => ?_
      refine ih (n + 1) A' c' w' _ _ (by omega) (by omega) k1 (hs.append (Small.cons (by omega) Small.nil)) k2 (by omega) (fun hm => ?_) ?_
      · rw [getD_over (by omega), getD_over (by omega)]; omega
      · rw [wv_append, wv_take_succ, wv_take_succ, ho.len, Nat.pow_succ]
        simp only [wv, Nat.mul_zero, Nat.add_zero]
        have hm := Nat.div_add_mod (s + a.getD n 0 + b.getD n 0) 1000000000
        generalize (s + a.getD n 0 + b.getD n 0) % 1000000000 = r at *
        generalize (s + a.getD n 0 + b.getD n 0) / 1000000000 = q at *
        generalize 1000000000 ^ n = P at *
        clear ga gb hz
        grind
    have br : (((n : Int) < (n0 : Int)) → ((0 ≤ (n : Int) ∧ (n : Int) < n0) ∧ ∃ a1, A0 = some a1 ∧ (∃ (i2 : Int), CellsAt w (a1.add (((n : Int)).toNat * 1)) [(.int .u32 i2)] ∧ (inR .u32 ((s : Int) + i2) ∧ (F.garboardref01_Plus.J9 A0 n0 c0 A1 n1 c1 A n c n ((s : Int) + i2) w0.heap.size w R))))) ∧ (¬ ((n : Int) < (n0 : Int)) → (F.garboardref01_Plus.J9 A0 n0 c0 A1 n1 c1 A n c n s w0.heap.size w R)) := by
      refine ⟨fun h => ?_, fun h => ?_⟩
      · refine (ha.keep hw (Nat.le_refl _)).load hal (by omega) (by omega) ?_
        rw [Int.toNat_natCast]
        exact ⟨by simp only [inR]; omega, by simpa using j9⟩
      · rw [getD_over (by omega), Nat.add_zero] at j9
        exact j9
    refine F.garboardref01_Plus.L4.step _ _ _ _ _ _ _ _ _ _ _ _ _ _ ⟨fun _ => br, fun hn0 => ⟨fun _ => br, fun hn1 => ⟨fun _ => br, fun hs0 => ?_⟩⟩⟩
    have : s = 0 := by omega
    subst this
    rw [List.take_of_length_le (by omega), List.take_of_length_le (by omega)] at inv
    refine Pure.mono (ref_trim_own ho (by omega) hs) ?_
    rintro v w2 _ ⟨rfl, m, rfl, _, h⟩
    rw [show wv ws = wv a + wv b by omega] at h
    exact ⟨_, _, _, rfl, hR _ _ _ _ h⟩

theorem minus_J9 {w : World} {A : Option Addr} {n c : Nat} {s : Int} {ws : List Nat} (hn : n ≤ 1000000) (hw : Below w0.heap.size w0 w) (ho : OwnU w w0.heap.size A n c ws) (hs : -1000000000 ≤ s ∧ s < 1000000000)
    (h : ∀ A' c' w' (x br : Nat), x < 1000000000 → br ≤ 1 → (x : Int) = s + 1000000000 * br → OwnU w' w0.heap.size A' (n + 1) c' (ws ++ [x]) → Below w0.heap.size w0 w' → F.garboardref01_Minus.L4 A0 n0 c0 A1 n1 c1 A' (n + 1) c' br (n + 1 : Nat) w0.heap.size w' R) :
    F.garboardref01_Minus.J9 A0 n0 c0 A1 n1 c1 A n c n s w0.heap.size w R := by
  have e3 : (n : Int) + 1 = ((n + 1 : Nat) : Int) := by omega
  refine F.garboardref01_Minus.J9.step _ _ _ _ _ _ _ _ _ _ _ _ _ _ ⟨fun h1 => ⟨by simp only [inR]; omega, by simp only [inR]; omega, ?_⟩, fun h1 => ⟨by simp only [inR]; omega, ?_⟩⟩
  · refine app_u32 (B0 := w0.heap.size) el_N (Nat.le_refl _) ho hn hw.size (by simp) (by omega) fun A' c' w' k1 _ k2 => ⟨by simp only [inR]; omega, ?_⟩
    rw [e3]
    exact h A' c' w' _ 1 (by omega) (by omega) (by omega) k1 (hw.trans k2)
  · refine app_u32 (B0 := w0.heap.size) el_N (Nat.le_refl _) ho hn hw.size (by simp) (by omega) fun A' c' w' k1 _ k2 => ⟨by simp only [inR]; omega, ?_⟩
    rw [e3]
    exact h A' c' w' _ 0 (by omega) (by omega) (by omega) k1 (hw.trans k2)

theorem minus_loop (ha : SlU w0 A0 a) (hal : a.length = n0) (hsa : Small a) (hb : SlU w0 A1 b) (hbl : b.length = n1) (hsb : Small b) (h0 : n0 ≤ 500000) (h1 : n1 ≤ n0) (hle : wv b ≤ wv a)
    (hR : ∀ A n c w', IsN w' A n c (wv a - wv b) → R (.slice A n c) w') :
    ∀ (d : Nat) (n : Nat) (A : Option Addr) (c : Nat) (w : World) (ws : List Nat) (s : Nat), n0 - n = d → n ≤ n0 → OwnU w w0.heap.size A n c ws → Small ws → Below w0.heap.size w0 w → s ≤ 1 →
      wv ws + wv (b.take n) = wv (a.take n) + 1000000000 ^ n * s →
      F.garboardref01_Minus.L4 A0 n0 c0 A1 n1 c1 A n c s n w0.heap.size w R := by
  intro d
  induction d with
  | zero =>
    intro n A c w ws s hd hn ho hs hw hsr inv
    rw [List.take_of_length_le (by omega), List.take_of_length_le (by omega)] at inv
    refine F.garboardref01_Minus.L4.step _ _ _ _ _ _ _ _ _ _ _ _ _ _ ⟨fun h => by omega, fun _ => ?_⟩
    have hlt := wv_lt hs
    rw [ho.len] at hlt
    have hs0 : s = 0 := by
      rcases (by omega : s = 0 ∨ s = 1) with h | h
      · exact h
      · subst h; omega
    subst hs0
    refine Pure.mono (ref_trim_own ho (by omega) hs) ?_
    rintro v w2 _ ⟨rfl, m, rfl, _, h⟩
    rw [show wv ws = wv a - wv b by omega] at h
    exact ⟨_, _, _, rfl, hR _ _ _ _ h⟩
  | succ d ih =>
    intro n A c w ws s hd hn ho hs hw hsr inv
    have ga := hsa.getD n
    have gb := hsb.getD n
    have j9 : F.garboardref01_Minus.J9 A0 n0 c0 A1 n1 c1 A n c n ((a.getD n 0 : Nat) - (s : Int) - (b.getD n 0 : Nat)) w0.heap.size w R := by
      refine minus_J9 (by omega) hw ho (by omega) fun A' c' w' x br hx hbr he k1 k2 => ?_
      refine ih (n + 1) A' c' w' _ _ (by omega) (by omega) k1 (hs.append (Small.cons hx Small.nil)) k2 hbr ?_
      rw [wv_append, wv_take_succ, wv_take_succ, ho.len, Nat.pow_succ]
      simp only [wv, Nat.mul_zero, Nat.add_zero]
      have he2 : x + s + b.getD n 0 = a.getD n 0 + 1000000000 * br := by omega
      generalize 1000000000 ^ n = P at *
      clear ga gb he
      grind
    refine F.garboardref01_Minus.L4.step _ _ _ _ _ _ _ _ _ _ _ _ _ _ ⟨fun _ => ?_, fun h => by omega⟩
    refine (ha.keep hw (Nat.le_refl _)).load hal (by omega) (by omega) ?_
    rw [Int.toNat_natCast]
    refine ⟨by simp only [inR]; omega, by simp only [inR]; omega, fun h => ?_, fun h => ?_⟩
    · refine (hb.keep hw (Nat.le_refl _)).load hbl (by omega) (by omega) ?_
      rw [Int.toNat_natCast]
      exact ⟨by simp only [inR]; omega, by simp only [inR]; omega, j9⟩
    · rw [getD_over (l := b) (by omega)] at j9
      simpa using j9
end

theorem ref_Plus {w : World} {A0 A1 : Option Addr} {n0 c0 n1 c1 x y : Nat} (ha : IsN w A0 n0 c0 x) (hb : IsN w A1 n1 c1 y) (hx : x < Lim) (hy : y < Lim) :
    Pure Tryz.prog 129 #[.slice A0 n0 c0, .slice A1 n1 c1] w fun v w' => ∃ A n c, v = .slice A n c ∧ IsN w' A n c (x + y) := by
  have l0 := ha.len hx
  have l1 := hb.len hy
  obtain ⟨a, a1, a2, a3, a4, a5, a6, rfl⟩ := ha
  obtain ⟨b, b1, b2, b3, b4, b5, b6, rfl⟩ := hb
  refine F.garboardref01_Plus.vc _ _ _ _ _ _ _ _ ?_
  exact plus_loop a1 a2 a5 b1 b2 b5 (by omega) (by omega) (fun A n c w' k => ⟨A, n, c, rfl, k⟩) _ 0 none 0 w [] 0 rfl (by omega) (World.ownsRow_nil w _ _ _) Small.nil (Below.refl _ _) (by omega) (by omega) (by simp [wv])

theorem ref_Minus {w : World} {A0 A1 : Option Addr} {n0 c0 n1 c1 x y : Nat} (ha : IsN w A0 n0 c0 x) (hb : IsN w A1 n1 c1 y) (hx : x < Lim) (hyx : y ≤ x) :
    Pure Tryz.prog 130 #[.slice A0 n0 c0, .slice A1 n1 c1] w fun v w' => ∃ A n c, v = .slice A n c ∧ IsN w' A n c (x - y) := by
  have l0 := ha.len hx
  have l1 := hb.len (Nat.lt_of_le_of_lt hyx hx)
  obtain ⟨a, a1, a2, a3, a4, a5, a6, rfl⟩ := ha
  obtain ⟨b, b1, b2, b3, b4, b5, b6, rfl⟩ := hb
  have hlen : n1 ≤ n0 := by
    apply Decidable.byContradiction
    intro k
    have := wv_lt_len a5 b6 (by omega)
    omega
  refine F.garboardref01_Minus.vc _ _ _ _ _ _ _ _ ?_
  exact minus_loop a1 a2 a5 b1 b2 b5 (by omega) (by omega) hyx (fun A n c w' k => ⟨A, n, c, rfl, k⟩) _ 0 none 0 w [] 0 rfl (by omega) (World.ownsRow_nil w _ _ _) Small.nil (Below.refl _ _) (by omega) (by simp [wv])
end Go.Proofs.YtdnelnicnjplpaaGreatDoor.B

namespace Go.Proofs.YtdnelnicnjplpaaGreatDoor.B
open Go Go.RowKit Go.Proofs Go.Proofs.YtdnelnicnjplpaaGreatDoor.Vc

theorem OwnU.ext {w w2 : World} {B : Nat} {A : Option Addr} {n c : Nat} {ws : List Nat} (h : OwnU w B A n c ws) (e : Ext B [] w w2) : OwnU w2 B A n c ws :=
  h.other fun b hb => by
    rcases e.other b (h.blk b hb).2 with h1 | ⟨t, ht, _⟩
    · exact h1
    · cases ht

theorem OwnU.store2 {w : World} {B : Nat} {A : Option Addr} {n c : Nat} {ws : List Nat} (ho : OwnU w B A n c ws) {j x : Int} (h0 : 0 ≤ j) (h1 : j < n) (hx : 0 ≤ x) {bx : List Box} (hb : hasType 112 bx = false) {K : World → Prop}
    (h : ∀ w2 w3, Ext B [] w w2 → OwnU w3 B A n c (ws.set j.toNat x.toNat) → Below B w2 w3 → (∀ k, some k ≠ Value.ownBlock (.slice A n c) → w3.heap[k]? = w2.heap[k]?) → K w3) :
    (0 ≤ j ∧ j < n) ∧ ∃ a, A = some a ∧ ∀ w2, Ext B [] w w2 → ∃ (cs : List Value) (t : Nat), B ≤ (a.add (j.toNat * 1)).block ∧ (a.add (j.toNat * 1)).spot = none ∧ w2.heap[(a.add (j.toNat * 1)).block]? = some (.cells cs.toArray t (0, 0)) ∧
      (a.add (j.toNat * 1)).off + 1 ≤ cs.length ∧ hasType t bx = false ∧ ∀ w1, Wrote w2 w1 (a.add (j.toNat * 1)).block t (setCells cs (a.add (j.toNat * 1)).off [.int .u32 x]) → K w1 := by
  obtain ⟨_, a, hA, _⟩ := ho.store h0 h1 hx hb (K := fun _ => True) (fun _ _ _ _ => trivial)
  refine ⟨⟨h0, h1⟩, a, hA, fun w2 e => ?_⟩
  obtain ⟨_, a', hA', k⟩ := (ho.ext e).store h0 h1 hx hb (K := K) (fun w3 k1 k2 k3 => h w2 w3 e k1 k2 k3)
  rw [hA] at hA'
  cases hA'
  exact k

section
variable {w0 : World} {A1 A0 : Option Addr} {n1 c1 n0 c0 : Nat} {a b : List Nat} {R : Value → World → Prop}

theorem ref_times_inner (ha : SlU w0 A0 a) (hal : a.length = n0) (hsa : Small a) (hb : SlU w0 A1 b) (hbl : b.length = n1) (hsb : Small b) {i : Nat} (hi0 : i < n0) {n : Nat} (hn : i + n1 < n) (hn2 : n ≤ 1000000) {A : Option Addr} {c : Nat} {base : Nat}
    (hR : ∀ w ws, TimesInv w w0.heap.size A n c ws (i + 1 + n1) → Below w0.heap.size w0 w → wv ws = base + 1000000000 ^ i * a.getD i 0 * wv b →
      F.garboardref01_Times.L5 A0 n0 c0 A1 n1 c1 A n c ((i : Int) + 1) w0.heap.size w R) :
    ∀ (d k : Nat) (w : World) (ws : List Nat) (s : Nat), n1 - k = d → k ≤ n1 → TimesInv w w0.heap.size A n c ws (i + n1) → Below w0.heap.size w0 w → s < 1000000000 →
      wv ws + 1000000000 ^ (i + k) * s = base + 1000000000 ^ i * a.getD i 0 * wv (b.take k) →
      F.garboardref01_Times.L9 A0 n0 c0 A1 n1 c1 A n c i s k w0.heap.size w R := by
  have hx := hsa.getD i
  obtain ⟨x, hxe⟩ : ∃ x, x = a.getD i 0 := ⟨_, rfl⟩
  rw [← hxe] at hx hR
  rw [← hxe]
  intro d
  induction d with
  | zero =>
    intro k w ws s hd hk inv hw hs he
    have hkn : k = n1 := by omega
    subst hkn
    have eb : b.take k = b := List.take_of_length_le (by omega)
    rw [eb] at he
    refine F.garboardref01_Times.L9.step _ _ _ _ _ _ _ _ _ _ _ _ _ _ _ ⟨fun h => by omega, fun _ => ⟨by simp only [inR]; omega, by simp only [inR]; omega, ?_⟩⟩
    refine inv.own.store (by omega) (by omega) (by omega) rfl fun w1 o1 b1 _ => ⟨by simp only [inR]; omega, ?_⟩
    have e : ((i : Int) + (k : Int)).toNat = i + k := by omega
    rw [e, Int.toNat_natCast] at o1
    have hl := inv.own.len
    have hset := wv_set ws (i + k) s (by omega)
    rw [inv.zero (i + k) (Nat.le_refl _)] at hset
    refine hR w1 _ ⟨o1, inv.small.set hs, fun j hj => ?_⟩ (hw.trans b1) (by omega)
    rw [List.getD_eq_getElem?_getD, List.getElem?_set_ne (by omega), ← List.getD_eq_getElem?_getD]
    exact inv.zero j (by omega)
  | succ d ih =>
    intro k w ws s hd hk inv hw hs he
    have hl := inv.own.len
    have gb := hsb.getD k
    have go := inv.small.getD (i + k)
    have e : ((i : Int) + (k : Int)).toNat = i + k := by omega
    obtain ⟨y, hy⟩ : ∃ y, y = b.getD k 0 := ⟨_, rfl⟩
    obtain ⟨z, hz⟩ : ∃ z, z = ws.getD (i + k) 0 := ⟨_, rfl⟩
    rw [← hy] at gb
    rw [← hz] at go
    have hzv : ws.getD ((i : Int) + (k : Int)).toNat 0 = z := by rw [e, hz]
    have hxy : x * y ≤ 999999999 * 999999999 := Nat.mul_le_mul (by omega) (by omega)
    have hxy2 : (x : Int) * (y : Int) = ((x * y : Nat) : Int) := by simp
    refine F.garboardref01_Times.L9.step _ _ _ _ _ _ _ _ _ _ _ _ _ _ _ ⟨fun _ => ⟨by simp only [inR]; omega, ?_⟩, fun h => by omega⟩
    refine inv.own.sl.load hl (by omega) (by omega) ?_
    rw [hzv]
    refine ⟨by simp only [inR]; omega, ?_⟩
    refine (ha.keep hw (Nat.le_refl _)).load hal (by omega) (by omega) ?_
    rw [Int.toNat_natCast, ← hxe]
    refine ⟨by simp only [inR]; omega, ?_⟩
    refine (hb.keep hw (Nat.le_refl _)).load hbl (by omega) (by omega) ?_
    rw [Int.toNat_natCast, ← hy, hxy2]
    obtain ⟨t, ht⟩ : ∃ t : Nat, t = s + (x * y + z) := ⟨_, rfl⟩
    have et : (z : Int) + ((x * y : Nat) : Int) + (s : Int) = ((t : Nat) : Int) := by omega
    rw [et]
    refine ⟨by simp only [inR]; omega, by simp only [inR]; omega, by simp only [inR]; omega, by simp only [inR]; omega, by simp only [inR]; omega, by omega, by simp only [inR]; omega, ?_⟩
    refine inv.own.store2 (by omega) (by omega) (by omega) rfl fun w2 w1 e2 o1 b1 _ => ⟨⟨by omega, by omega, by simp only [inR]; omega⟩, by simp only [inR]; omega, ?_⟩
    have e1 : ((t : Int) % 1000000000).toNat = t % 1000000000 := by omega
    have e2' : (t : Int) / 1000000000 = ((t / 1000000000 : Nat) : Int) := by omega
    have e3 : (k : Int) + 1 = ((k + 1 : Nat) : Int) := by omega
    rw [e, e1] at o1
    rw [e2', e3]
    have hset := wv_set ws (i + k) (t % 1000000000) (by omega)
    rw [← hz] at hset
    refine ih (k + 1) w1 _ (t / 1000000000) (by omega) (by omega) ⟨o1, inv.small.set (by omega), fun j hj => ?_⟩ ((hw.trans e2.below).trans b1) (by omega) ?_
    · rw [List.getD_eq_getElem?_getD, List.getElem?_set_ne (by omega), ← List.getD_eq_getElem?_getD]
      exact inv.zero j (by omega)
    · rw [wv_take_succ, ← hy]
      have hm : t % 1000000000 + 1000000000 * (t / 1000000000) = s + (x * y + z) := by omega
      rw [show i + (k + 1) = (i + k) + 1 from rfl, Nat.pow_succ]
      have hp : 1000000000 ^ (i + k) = 1000000000 ^ i * 1000000000 ^ k := Nat.pow_add _ _ _
      generalize t % 1000000000 = r at *
      generalize t / 1000000000 = q at *
      generalize wv (ws.set (i + k) r) = W' at *
      generalize wv ws = W at *
      generalize wv (List.take k b) = V at *
      rw [hp] at hset he ⊢
      generalize 1000000000 ^ i = P at *
      generalize 1000000000 ^ k = Q at *
      clear hxy hxy2 et e1 e2' e3 o1 hz hy ht hxe hzv
      grind

theorem ref_times_outer (ha : SlU w0 A0 a) (hal : a.length = n0) (hsa : Small a) (hb : SlU w0 A1 b) (hbl : b.length = n1) (hsb : Small b) {A : Option Addr} {n c : Nat} (hn : n = n0 + n1) (hn2 : n ≤ 1000000)
    (hR : ∀ m w, IsN w A m c (wv a * wv b) → OwnN w w0.heap.size A m c (wv a * wv b) → Below w0.heap.size w0 w → R (.slice A m c) w) :
    ∀ (d i : Nat) (w : World) (ws : List Nat), n0 - i = d → i ≤ n0 → TimesInv w w0.heap.size A n c ws (i + n1) → Below w0.heap.size w0 w → wv ws = wv (a.take i) * wv b →
      F.garboardref01_Times.L5 A0 n0 c0 A1 n1 c1 A n c i w0.heap.size w R := by
  intro d
  induction d with
  | zero =>
    intro i w ws hd hi inv hw he
    have ea : a.take i = a := List.take_of_length_le (by omega)
    rw [ea] at he
    refine F.garboardref01_Times.L5.step _ _ _ _ _ _ _ _ _ _ _ _ _ ⟨fun h => by omega, fun _ => ?_⟩
    refine Pure.mono (ref_trim_own inv.own (by omega) inv.small) ?_
    rintro v w2 hb2 ⟨rfl, m, rfl, h, h2⟩
    rw [he] at h h2
    exact ⟨A, m, c, rfl, hR m w2 h2 h hw⟩
  | succ d ih =>
    intro i w ws hd hi inv hw he
    refine F.garboardref01_Times.L5.step _ _ _ _ _ _ _ _ _ _ _ _ _ ⟨fun _ => ?_, fun h => by omega⟩
    refine ref_times_inner ha hal hsa hb hbl hsb (by omega) (by omega) hn2 (base := wv ws) (fun w1 ws1 k1 k2 k3 => ?_) n1 0 w ws 0 (by omega) (by omega) inv hw (by omega) (by simp [wv])
    have e3 : (i : Int) + 1 = ((i + 1 : Nat) : Int) := by omega
    rw [e3]
    refine ih (i + 1) w1 ws1 (by omega) (by omega) k1 k2 ?_
    rw [k3, he, wv_take_succ, Nat.add_mul]
end

theorem IsN.nil (w : World) : IsN w none 0 0 0 := ⟨[], .inl rfl, rfl, by omega, by omega, Small.nil, by simp [Norm], rfl⟩
theorem OwnN.nil (w : World) (B : Nat) : OwnN w B none 0 0 0 := ⟨[], World.ownsRow_nil w _ _ _, Small.nil, by simp [Norm], rfl⟩
theorem IsN.zero {w : World} {A : Option Addr} {n c x : Nat} (h : IsN w A n c x) (hn : n = 0) : x = 0 := by
  have := h.pos_len
  apply Decidable.byContradiction
  intro k
  have := this.2 k
  omega

theorem ref_Times {w : World} {A0 A1 : Option Addr} {n0 c0 n1 c1 x y : Nat} (ha : IsN w A0 n0 c0 x) (hb : IsN w A1 n1 c1 y) (hx : x < Lim) (hy : y < Lim) :
    Pure Tryz.prog 87 #[.slice A0 n0 c0, .slice A1 n1 c1] w fun v w' => ∃ A n c, v = .slice A n c ∧ IsN w' A n c (x * y) ∧ OwnN w' w.heap.size A n c (x * y) := by
  have l0 := ha.len hx
  have l1 := hb.len hy
  have za := fun h => ha.zero h
  have zb := fun h => hb.zero h
  obtain ⟨a, a1, a2, a3, a4, a5, a6, rfl⟩ := ha
  obtain ⟨b, b1, b2, b3, b4, b5, b6, rfl⟩ := hb
  refine F.garboardref01_Times.vc _ _ _ _ _ _ _ _ ⟨fun h => ?_, fun h => ⟨fun h1 => ?_, fun h1 => ⟨by simp only [inR]; omega, ?_⟩⟩⟩
  · rw [za (by omega), Nat.zero_mul]
    exact ⟨_, _, _, rfl, IsN.nil w, OwnN.nil w _⟩
  · rw [zb (by omega), Nat.mul_zero]
    exact ⟨_, _, _, rfl, IsN.nil w, OwnN.nil w _⟩
  · refine runOk_make el_N El.zeroU32 rfl (by omega) (by omega) (Nat.le_refl _) fun A n w2 hn k1 _ k2 => ?_
    refine ref_times_outer a1 a2 a5 b1 b2 b5 (by omega) (by omega) (fun m w3 h1 h2 h3 => ⟨A, m, n, rfl, h1, h2⟩) n0 0 w2 _ rfl (by omega) ⟨OwnU.replicate k1, Small.replicate _, fun j _ => ?_⟩ k2 ?_
    · rw [List.getD_eq_getElem?_getD, List.getElem?_replicate]; split <;> rfl
    · rw [wv_replicate]; simp [wv]
end Go.Proofs.YtdnelnicnjplpaaGreatDoor.B

namespace Go.Proofs.YtdnelnicnjplpaaGreatDoor.B
open Go Go.RowKit Go.Proofs Go.Proofs.YtdnelnicnjplpaaGreatDoor.Vc

theorem lit_u32 {t : Nat} (el : El Tryz.prog t 112 1 4) (w : World) (xs : List Nat) (hl : xs.length ≤ 1024) :
    ∃ w', (Instr.buildSlice t xs.length ((u32s xs).zipIdx.map fun x => (x.2, x.1)).toArray).run Tryz.prog w = .ok (.slice (some ⟨w.heap.size, 0, none⟩) xs.length xs.length) w' ∧ Below w.heap.size w w' ∧ w.heap.size ≤ w'.heap.size ∧
      OwnU w' w.heap.size (some ⟨w.heap.size, 0, none⟩) xs.length xs.length xs := by
  have hcell : ∀ v ∈ u32s xs, v.cells = #[v] := by
    intro v hv
    simp only [u32s, List.mem_map] at hv
    obtain ⟨x, _, rfl⟩ := hv
    rfl
  have hflat : ∀ l : List Value, (∀ v ∈ l, v.cells = #[v]) → l.flatMap (fun v => v.cells.toList) = l := by
    intro l
    induction l with
    | nil => intro _; rfl
    | cons v r ih => intro h; rw [List.flatMap_cons, ih fun y hy => h y (by simp [hy]), h v (by simp)]; rfl
  have hr := run_buildAll el (u32s xs) (fun v hv => by rw [hcell v hv]; rfl) (by simpa [u32s] using hl) w
  rw [hflat _ hcell] at hr
  have hlen : (u32s xs).length = xs.length := by simp [u32s]
  rw [hlen] at hr
  have hg := World.grownBy_alloc w (.cells (u32s xs).toArray 112) none
  refine ⟨_, hr, below_grown hg (by simp) (Nat.le_refl _), hg.size, ?_⟩
  exact ⟨by simp [u32s], .inr ⟨w.heap.size, xs.length, _, rfl, Nat.le_refl _, heap_alloc_new w _, Nat.le_refl _, by simp only [maxLen]; omega, by simp [u32s], List.take_of_length_le (by simp [u32s])⟩⟩

theorem ref_wide {w : World} {x : Nat} (hx : x < 1000000000000000000) :
    Pure Tryz.prog 112 #[.int .u64 (x : Int)] w fun v w' => ∃ A n c, v = .slice A n c ∧ IsN w' A n c x := by
  have e1 : (x : Int) % 1000000000 = ((x % 1000000000 : Nat) : Int) := by omega
  have e2 : (x : Int) / 1000000000 % 1000000000 = ((x / 1000000000 % 1000000000 : Nat) : Int) := by omega
  have e3 : (x : Int) / 1000000000 / 1000000000 = ((x / 1000000000 / 1000000000 : Nat) : Int) := by omega
  refine F.garboardref01_wide.vc _ _ _ ⟨by omega, by simp only [inR]; omega, ⟨by omega, by omega, by simp only [inR]; omega⟩, by omega, by simp only [inR]; omega, ⟨by omega, by omega, by simp only [inR]; omega⟩, ⟨by omega, by omega, by simp only [inR]; omega⟩, by simp only [inR]; omega, ?_⟩
  rw [e1, e2, e3]
  obtain ⟨w', hr, hb, hs, ho⟩ := lit_u32 el_N w [x % 1000000000, x / 1000000000 % 1000000000, x / 1000000000 / 1000000000] (by simp)
  refine ⟨_, w', hr, hb, hs, fun k ty cs hty => (by cases hty), _, _, _, rfl, ?_⟩
  refine Pure.mono (ref_trim_own ho (by simp) (Small.cons (by omega) (Small.cons (by omega) (Small.cons (by omega) Small.nil)))) ?_
  rintro v w2 hb2 ⟨rfl, m, rfl, h, h2⟩
  have e : wv [x % 1000000000, x / 1000000000 % 1000000000, x / 1000000000 / 1000000000] = x := by simp only [wv]; omega
  rw [e] at h2
  exact ⟨_, _, _, rfl, _, _, _, rfl, h2⟩

theorem ref_Small {w : World} {x : Nat} (hx : x < 4294967296) :
    Pure Tryz.prog 78 #[.int .u32 (x : Int)] w fun v w' => ∃ A n c, v = .slice A n c ∧ IsN w' A n c x := by
  have e1 : (x : Int) % 1000000000 = ((x % 1000000000 : Nat) : Int) := by omega
  have e3 : (x : Int) / 1000000000 = ((x / 1000000000 : Nat) : Int) := by omega
  refine F.garboardref01_Small.vc _ _ _ ⟨by omega, ⟨by omega, by omega, by simp only [inR]; omega⟩, ?_⟩
  rw [e1, e3]
  obtain ⟨w', hr, hb, hs, ho⟩ := lit_u32 el_N w [x % 1000000000, x / 1000000000] (by simp)
  refine ⟨_, w', hr, hb, hs, fun k ty cs hty => (by cases hty), _, _, _, rfl, ?_⟩
  refine Pure.mono (ref_trim_own ho (by simp) (Small.cons (by omega) (Small.cons (by omega) Small.nil))) ?_
  rintro v w2 hb2 ⟨rfl, m, rfl, h, h2⟩
  have e : wv [x % 1000000000, x / 1000000000] = x := by simp only [wv]; omega
  rw [e] at h2
  exact ⟨_, _, _, rfl, _, _, _, rfl, h2⟩

theorem word_loop {w0 : World} {A0 : Option Addr} {n0 c0 : Nat} {a : List Nat} {R : Value → World → Prop} (ha : SlU w0 A0 a) (hal : a.length = n0) (hsa : Small a) (hn : n0 ≤ 2) (w : World) (hw : Below w0.heap.size w0 w) (hR : R (.int .u64 (wv a : Nat)) w) :
    ∀ (i : Nat) (s : Nat), i ≤ n0 → s = wv (a.drop i) → F.garboardref01_word.L3 A0 n0 c0 s ((i : Int) - 1) w0.heap.size w R := by
  intro i
  induction i with
  | zero =>
    intro s hi he
    refine F.garboardref01_word.L3.step _ _ _ _ _ _ _ _ ⟨fun h => by omega, fun _ => ?_⟩
    rw [he]
    exact hR
  | succ i ih =>
    intro s hi he
    have e : ((i + 1 : Nat) : Int) - 1 = i := by omega
    have g := hsa.getD i
    have hd := wv_lt (l := a.drop (i + 1)) fun x hx => hsa x (List.mem_of_mem_drop hx)
    have hp : 1000000000 ^ (a.drop (i + 1)).length ≤ 1000000000 ^ 1 := Nat.pow_le_pow_right (by omega) (by simp; omega)
    rw [← he] at hd
    rw [e]
    refine F.garboardref01_word.L3.step _ _ _ _ _ _ _ _ ⟨fun _ => ⟨by simp only [inR]; omega, ?_⟩, fun h => by omega⟩
    refine (ha.keep hw (Nat.le_refl _)).load hal (by omega) (by omega) ?_
    rw [Int.toNat_natCast]
    have et : (s : Int) * 1000000000 + ((a.getD i 0 : Nat) : Int) = ((s * 1000000000 + a.getD i 0 : Nat) : Int) := by omega
    rw [et]
    refine ⟨by simp only [inR]; omega, by simp only [inR]; omega, by simp only [inR]; omega, ih _ (by omega) ?_⟩
    rw [wv_drop a i, ← he]
    omega

theorem ref_word {w : World} {A0 : Option Addr} {n0 c0 x : Nat} (ha : IsN w A0 n0 c0 x) (hn : n0 ≤ 2) :
    Pure Tryz.prog 111 #[.slice A0 n0 c0] w fun v _ => v = .int .u64 (x : Nat) := by
  obtain ⟨a, a1, a2, a3, a4, a5, a6, rfl⟩ := ha
  refine F.garboardref01_word.vc _ _ _ _ _ ⟨by simp only [inR]; omega, ?_⟩
  exact word_loop a1 a2 a5 hn w (Below.refl _ _) rfl n0 0 (Nat.le_refl _) (by rw [List.drop_eq_nil_of_le (by omega)]; rfl)

theorem ref_small_loop {w0 : World} {A0 : Option Addr} {n0 c0 : Nat} {a : List Nat} {R : Value → World → Prop} (ha : SlU w0 A0 a) (hal : a.length = n0) (hsa : Small a) (hn : n0 ≤ 1000000) {d : Nat} (hd : 0 < d) (hd2 : d ≤ 1000000000) {A : Option Addr} {c : Nat}
    (hR : ∀ A n c w, IsN w A n c (wv a / d) → R (.tuple #[.slice A n c, .int .u32 (wv a % d : Nat)]) w) :
    ∀ (i : Nat) (w : World) (ws : List Nat) (r : Nat), i ≤ n0 → Below w0.heap.size w0 w → OwnU w w0.heap.size A n0 c ws → Small ws → r < d → wv (ws.drop i) * d + r = wv (a.drop i) →
      F.garboardref01_small.L4 A0 n0 c0 d A n0 c r ((i : Int) - 1) w0.heap.size w R := by
  intro i
  induction i with
  | zero =>
    intro w ws r hi hw ho hs hr he
    refine F.garboardref01_small.L4.step _ _ _ _ _ _ _ _ _ _ _ _ ⟨fun h => by omega, fun _ => ?_⟩
    refine Pure.mono (ref_trim_own ho (by omega) hs) ?_
    rintro v w2 hb2 ⟨rfl, m, rfl, h, h2⟩
    simp only [List.drop_zero] at he
    have e1 : wv a / d = wv ws := by rw [← he, Nat.mul_comm, Nat.mul_add_div hd, Nat.div_eq_of_lt hr, Nat.add_zero]
    have e2 : wv a % d = r := by rw [← he, Nat.mul_comm, Nat.mul_add_mod, Nat.mod_eq_of_lt hr]
    rw [e1, e2] at hR
    exact ⟨_, _, _, rfl, by simp only [inR]; omega, hR _ _ _ _ h2⟩
  | succ i ih =>
    intro w ws r hi hw ho hs hr he
    have e : ((i + 1 : Nat) : Int) - 1 = i := by omega
    have g := hsa.getD i
    rw [e]
    refine F.garboardref01_small.L4.step _ _ _ _ _ _ _ _ _ _ _ _ ⟨fun _ => ⟨by simp only [inR]; omega, ?_⟩, fun h => by omega⟩
    refine (ha.keep hw (Nat.le_refl _)).load hal (by omega) (by omega) ?_
    rw [Int.toNat_natCast]
    obtain ⟨t, ht⟩ : ∃ t : Nat, t = r * 1000000000 + a.getD i 0 := ⟨_, rfl⟩
    have et : (r : Int) * 1000000000 + ((a.getD i 0 : Nat) : Int) = (t : Int) := by omega
    have hq : t / d < 1000000000 := by
      rw [Nat.div_lt_iff_lt_mul hd]
      have : (r + 1) * 1000000000 ≤ d * 1000000000 := Nat.mul_le_mul_right _ (by omega)
      omega
    have eq : (t : Int) / (d : Int) = ((t / d : Nat) : Int) := by simp
    have em : (t : Int) % (d : Int) = ((t % d : Nat) : Int) := by simp
    have hdm := Nat.div_add_mod t d
    have hml := Nat.mod_lt t hd
    rw [et, eq, em]
    clear eq em
    generalize t / d = q at *
    generalize t % d = r' at *
    refine ⟨by simp only [inR]; omega, by simp only [inR]; omega, by simp only [inR]; omega, ⟨by omega, by omega, by simp only [inR]; omega⟩, by simp only [inR]; omega, ?_⟩
    refine ho.store (by omega) (by omega) (by omega) rfl fun w1 o1 b1 _ => ⟨by simp only [inR]; omega, ⟨by omega, by omega⟩, by simp only [inR]; omega, ?_⟩
    rw [Int.toNat_natCast, Int.toNat_natCast] at o1
    have hl := ho.len
    refine ih w1 _ _ (by omega) (hw.trans b1) o1 (hs.set hq) hml ?_
    rw [wv_drop, wv_drop a, ← he, List.drop_set, if_pos (by omega)]
    rw [List.getD_eq_getElem?_getD, List.getElem?_set_self (by omega)]
    simp only [Option.getD_some]
    generalize wv (List.drop (i + 1) ws) = V
    clear et o1 hq he hml
    grind

theorem ref_small {w : World} {A0 : Option Addr} {n0 c0 x d : Nat} (ha : IsN w A0 n0 c0 x) (l0 : n0 ≤ 1000000) (hd : 0 < d) (hd2 : d ≤ 1000000000) :
    Pure Tryz.prog 131 #[.slice A0 n0 c0, .int .u32 (d : Int)] w fun v w' => ∃ A n c, v = .tuple #[.slice A n c, .int .u32 (x % d : Nat)] ∧ IsN w' A n c (x / d) := by
  obtain ⟨a, a1, a2, a3, a4, a5, a6, rfl⟩ := ha
  refine F.garboardref01_small.vc _ _ _ _ _ _ ?_
  refine runOk_make el_N El.zeroU32 rfl (by omega) (by omega) (Nat.le_refl _) fun A n w2 hn k1 _ k2 => ⟨by simp only [inR]; omega, ?_⟩
  have hn' : n = n0 := by omega
  subst hn'
  refine ref_small_loop a1 a2 a5 (by omega) hd hd2 (fun A n c w h1 => ⟨A, n, c, rfl, h1⟩) n w2 _ 0 (Nat.le_refl _) k2 (OwnU.replicate k1) (Small.replicate _) hd ?_
  rw [List.drop_eq_nil_of_le (by simp), List.drop_eq_nil_of_le (by omega)]
  simp [wv]
end Go.Proofs.YtdnelnicnjplpaaGreatDoor.B

namespace Go.Proofs.YtdnelnicnjplpaaGreatDoor.B
open Go Go.RowKit Go.Proofs Go.Proofs.YtdnelnicnjplpaaGreatDoor.Vc

theorem foldE (l : Tx) : ∀ a : Nat, l.foldl (fun a c => 10 * a + dv c) a = a * 10 ^ l.length + valD l := by
  induction l with
  | nil => intro a; simp [valD]
  | cons c r ih =>
    intro a
    have h1 := ih (10 * a + dv c)
    have h2 := ih (10 * 0 + dv c)
    simp only [valD, List.foldl_cons, List.length_cons, Nat.pow_succ] at *
    rw [h1, h2]
    grind
theorem valE_append (a b : Tx) : valD (a ++ b) = valD a * 10 ^ b.length + valD b := by
  have := foldE b (valD a)
  rw [← this]
  simp [valD, List.foldl_append]

theorem from_inner {B : Nat} {R : Value → World → Prop} {s : ByteArray} (hs : s.size ≤ 900000) (hd : (by_ s).all dig = true) {A : Option Addr} {n c : Nat} {e b : Nat} (he : e ≤ s.size) (hbe : b ≤ e) (h9 : e - b ≤ 9) {w : World}
    (hR : ∀ x : Nat, x = valD (((by_ s).take e).drop b) → x < 1000000000 →
      F.garboardref01_From.L7 s A n c e x e B w R) :
    ∀ (d i x : Nat), e - i = d → b ≤ i → i ≤ e → x = valD (((by_ s).take i).drop b) → x < 10 ^ (i - b) → F.garboardref01_From.L7 s A n c e x i B w R := by
  intro d
  induction d with
  | zero =>
    intro i x hi hb2 hie hx hlt
    have : i = e := by omega
    subst this
    have hp : 10 ^ (i - b) ≤ 10 ^ 9 := Nat.pow_le_pow_right (by omega) h9
    exact hR x hx (by omega)
  | succ d ih =>
    intro i x hi hb2 hie hx hlt
    obtain ⟨ch, hc, hbt, _⟩ := bt_get (s := s) (i := (i : Int)) (by omega) (by omega)
    rw [Int.toNat_natCast] at hc
    have hdc : 48 ≤ ch.toNat ∧ ch.toNat ≤ 57 := by
      rw [List.all_eq_true] at hd
      have := hd ch (List.mem_of_getElem? hc)
      simpa [dig] using this
    have hp : 10 ^ (i - b) ≤ 10 ^ 8 := Nat.pow_le_pow_right (by omega) (by omega)
    refine F.garboardref01_From.L7.step _ _ _ _ _ _ _ _ _ _ ⟨fun _ => ?_, fun h => by omega⟩
    rw [hbt]
    have ev : (10 : Int) * (x : Int) + ((ch.toNat : Int) - 48) = ((10 * x + dv ch : Nat) : Int) := by simp only [dv]; omega
    have e3 : (i : Int) + 1 = ((i + 1 : Nat) : Int) := by omega
    rw [ev, e3]
    have hdv : dv ch ≤ 9 := by simp only [dv]; omega
    refine ⟨by simp only [inR]; omega, ⟨by omega, by omega⟩, by simp only [inR]; omega, by simp only [inR]; omega, by simp only [inR]; omega, by simp only [inR]; omega, ih (i + 1) _ (by omega) (by omega) (by omega) ?_ ?_⟩
    · rw [List.take_add_one, hc, List.drop_append_of_le_length (by rw [List.length_take, ← size_by]; omega)]
      have e4 : (some ch).toList = [ch] := rfl
      rw [e4, valE_append, ← hx]
      simp [valD]
      omega
    · rw [show i + 1 - b = (i - b) + 1 by omega, Nat.pow_succ]
      omega

theorem from_loop {w0 : World} {R : Value → World → Prop} {s : ByteArray} (hs : s.size ≤ 900000) (hd : (by_ s).all dig = true) (hR : ∀ A n c w, IsN w A n c (valD (by_ s)) → R (.slice A n c) w) :
    ∀ (d : Nat) (e : Nat) (w : World) (A : Option Addr) (n c : Nat) (ws : List Nat), e ≤ d → e ≤ s.size → n + e ≤ 900000 → OwnU w w0.heap.size A n c ws → Small ws → w0.heap.size ≤ w.heap.size →
      wv ws + 1000000000 ^ n * valD ((by_ s).take e) = valD (by_ s) → F.garboardref01_From.L3 s A n c e w0.heap.size w R ∧ (∀ k : Int, k ≤ 0 → e = 0 → F.garboardref01_From.L3 s A n c k w0.heap.size w R) := by
  intro d
  induction d with
  | zero =>
    intro e w A n c ws hed hes hn ho hsm hw he
    have h0 : e = 0 := by omega
    subst h0
    have fin : ∀ k : Int, k ≤ 0 → F.garboardref01_From.L3 s A n c k w0.heap.size w R := by
      intro k hk
      refine F.garboardref01_From.L3.step _ _ _ _ _ _ _ _ ⟨fun h => by omega, fun _ => ?_⟩
      refine Pure.mono (ref_trim_own ho (by omega) hsm) ?_
      rintro v w2 _ ⟨rfl, m, rfl, _, h⟩
      have e : wv ws = valD (by_ s) := by rw [← he]; simp [valD]
      rw [e] at h
      exact ⟨_, _, _, rfl, hR _ _ _ _ h⟩
    exact ⟨fin ((0 : Nat) : Int) (by omega), fun k hk _ => fin k hk⟩
  | succ d ih =>
    intro e w A n c ws hed hes hn ho hsm hw he
    by_cases h0 : e = 0
    · exact ih e w A n c ws (by omega) hes hn ho hsm hw he
    refine ⟨?_, fun k hk h => absurd h h0⟩
    obtain ⟨b, hb⟩ : ∃ b : Nat, b = e - 9 := ⟨_, rfl⟩
    have eb : (if ((e : Int) - 9) > (0 : Int) then ((e : Int) - 9) else (0 : Int)) = (b : Int) := by split <;> omega
    refine F.garboardref01_From.L3.step _ _ _ _ _ _ _ _ ⟨fun _ => ⟨by simp only [inR]; omega, ?_⟩, fun h => by omega⟩
    rw [eb]
    refine from_inner hs hd hes (by omega) (by omega) (fun x hx hxl => ?_) (e - b) b 0 rfl (Nat.le_refl _) (by omega) ?_ (Nat.pow_pos (by omega))
    · refine F.garboardref01_From.L7.step _ _ _ _ _ _ _ _ _ _ ⟨fun h => by omega, fun _ => ?_⟩
      refine app_u32 (B0 := w0.heap.size) el_N (Nat.le_refl _) ho (by omega) (by omega) (by simp) (by omega) fun A' c' w5 o5 _ b5 => ⟨by simp only [inR]; omega, ?_⟩
      rw [Int.toNat_natCast] at o5
      have s5 := b5.size
      have ev : valD ((by_ s).take e) = valD ((by_ s).take b) * 10 ^ (e - b) + x := by
        have e1 : (by_ s).take e = (by_ s).take b ++ ((by_ s).take e).drop b := by
          conv => lhs; rw [← List.take_append_drop b ((by_ s).take e)]
          rw [List.take_take, Nat.min_eq_left (by omega)]
        rw [e1, valE_append, ← hx, List.length_drop, List.length_take, ← size_by, Nat.min_eq_left hes]
      have hnew := ih b w5 A' (n + 1) c' (ws ++ [x]) (by omega) (by omega) (by omega) o5 (hsm.append (Small.cons hxl Small.nil)) (by omega) (by
        rw [wv_append, ho.len, Nat.pow_succ]
        rw [ev] at he
        rw [← he]
        simp only [wv]
        by_cases hb0 : b = 0
        · rw [hb0, List.take_zero]
          have e0 : valD [] = 0 := rfl
          rw [e0, Nat.zero_mul, Nat.zero_add, Nat.mul_zero, Nat.add_zero, Nat.mul_zero, Nat.add_zero]
        · have e10 : 10 ^ (e - b) = 1000000000 := by rw [show e - b = 9 by omega]
          rw [e10]
          generalize valD ((by_ s).take b) = V
          generalize 1000000000 ^ n = P
          grind)
      by_cases hb0 : b = 0
      · exact hnew.2 _ (by omega) hb0
      · have e9 : (e : Int) - 9 = (b : Int) := by omega
        rw [e9]
        exact hnew.1
    · rw [List.drop_eq_nil_of_le (by rw [List.length_take]; omega)]; simp [valD]

theorem ref_From {w : World} {s : ByteArray} (hs : s.size ≤ 900000) (h : isNat (by_ s) = true) :
    Pure Tryz.prog 77 #[.string s] w fun v w' => ∃ A n c, v = .slice A n c ∧ IsN w' A n c (valD (by_ s)) := by
  have hd : (by_ s).all dig = true := by simp [isNat] at h; simpa using h.2
  refine F.garboardref01_From.vc _ _ _ ?_
  exact (from_loop (w0 := w) hs hd (fun A n c w k => ⟨A, n, c, rfl, k⟩) s.size s.size w none 0 0 [] (Nat.le_refl _) (Nat.le_refl _) (by omega) (World.ownsRow_nil w _ _ _) Small.nil (Nat.le_refl _) (by
    rw [List.take_of_length_le (by rw [← size_by]; exact Nat.le_refl _)]; simp [wv])).1
end Go.Proofs.YtdnelnicnjplpaaGreatDoor.B

namespace Go.Proofs.YtdnelnicnjplpaaGreatDoor.B
open Go Go.RowKit Go.Proofs Go.Proofs.YtdnelnicnjplpaaGreatDoor.Vc

section
variable {w1 : World} {B : Nat} {Au Av : Option Addr} {nu cu nv cv : Nat} {vs : List Nat} {R : Value → World → Prop}

theorem apart_none : Apart Au none := fun _ _ _ h => by cases h

theorem red_L21 (hn : nu ≤ 1000000) (hv : SlU w1 Av vs) (hvl : vs.length = nv) (hsv : Small vs) (hsep : Sep Av Au none nu cu 0 0) {pre D0 : List Nat} {g j : Nat} (hj : pre.length = j) (hk : nv < D0.length) (hg : 1 ≤ g) (hg2 : g ≤ 1000000000)
    (hR : ∀ w D (up : Nat), up ≤ 1 → D.length = D0.length → D.drop nv = D0.drop nv → wv D + 1000000000 ^ nv * up = wv D0 + wv vs →
      Div w1 w B Au nu cu (pre ++ D.set nv ((D0.getD nv 0 + up) % 1000000000)) none 0 0 [] → R (.int .u32 ((g : Int) - 1)) w) :
    ∀ (d i : Nat) (w : World) (D : List Nat) (up : Nat), nv - i = d → i ≤ nv → Div w1 w B Au nu cu (pre ++ D) none 0 0 [] → D.length = D0.length → up ≤ 1 → D.drop nv = D0.drop nv → wv D + 1000000000 ^ i * up = wv D0 + wv (vs.take i) →
      F.garboardref01_reduce.L21 Au nu cu Av nv cv j g nv up i B w R := by
  intro d
  induction d with
  | zero =>
    intro i w D up hd hi h hl hu hk2 he
    have hin : i = nv := by omega
    subst hin
    have hul := h.u.len
    have hul2 := hul
    simp only [List.length_append] at hul
    have gu := h.su.getD (i + j)
    rw [app_getD hj] at gu
    rw [List.take_of_length_le (by omega)] at he
    have e2 : ((j : Int) + (i : Int)).toNat = i + j := by omega
    have hg5 := getD_of_drop hk2
    have hval : (pre ++ D).getD ((j : Int) + (i : Int)).toNat 0 = D0.getD i 0 := by rw [e2, app_getD hj, hg5]
    rw [hg5] at gu
    refine F.garboardref01_reduce.L21.step _ _ _ _ _ _ _ _ _ _ _ _ _ _ ⟨fun h => by omega, fun _ => ⟨by simp only [inR]; omega, by simp only [inR]; omega, ?_⟩⟩
    refine h.u.sl.load hul2 (by omega) (by omega) ?_
    rw [hval]
    refine ⟨by simp only [inR]; omega, by omega, ?_⟩
    refine h.storeU apart_none (by omega) (by omega) (by omega) (by omega) fun w2 h2 => ⟨by simp only [inR]; omega, by simp only [inR]; omega, ?_⟩
    have e4 : (((D0.getD i 0 : Nat) : Int) + (up : Int)) % 1000000000 = (((D0.getD i 0 + up) % 1000000000 : Nat) : Int) := by omega
    rw [e4, e2, Int.toNat_natCast, app_set hj] at h2
    exact hR w2 D up hu hl hk2 he h2
  | succ d ih =>
    intro i w D up hd hi h hl hu hk2 he
    have hul := h.u.len
    have hul2 := hul
    simp only [List.length_append] at hul
    have gv := hsv.getD i
    have gu := h.su.getD (i + j)
    have e2 : ((j : Int) + (i : Int)).toNat = i + j := by omega
    rw [app_getD hj] at gu
    have hval : (pre ++ D).getD ((j : Int) + (i : Int)).toNat 0 = D.getD i 0 := by rw [e2, app_getD hj]
    obtain ⟨t, ht⟩ : ∃ t, t = up + (D.getD i 0 + vs.getD i 0) := ⟨_, rfl⟩
    have et : ((D.getD i 0 : Nat) : Int) + ((vs.getD i 0 : Nat) : Int) + (up : Int) = (t : Int) := by omega
    refine F.garboardref01_reduce.L21.step _ _ _ _ _ _ _ _ _ _ _ _ _ _ ⟨fun _ => ⟨by simp only [inR]; omega, ?_⟩, fun h => by omega⟩
    refine h.u.sl.load hul2 (by omega) (by omega) ?_
    rw [hval]
    refine (h.sl hv hsep).load hvl (by omega) (by omega) ?_
    rw [Int.toNat_natCast, et]
    refine ⟨by simp only [inR]; omega, by simp only [inR]; omega, by simp only [inR]; omega, by omega, ?_⟩
    have hown : ∃ a, Au = some a := by
      obtain ⟨a, hA, _⟩ := h.u.sl.cell (j := (j : Int) + i) (by omega) (by omega)
      exact ⟨a, hA⟩
    obtain ⟨a, rfl⟩ := hown
    have step : ∀ w3, Div w1 w3 B (some a) nu cu ((pre ++ D).set ((j : Int) + (i : Int)).toNat ((t : Int) % 1000000000).toNat) none 0 0 [] →
        F.garboardref01_reduce.L21 (some a) nu cu Av nv cv j g nv ((t : Int) / 1000000000) ((i : Int) + 1) B w3 R := by
      intro w3 h3
      have e3 : (i : Int) + 1 = ((i + 1 : Nat) : Int) := by omega
      have e4 : ((t : Int) % 1000000000).toNat = t % 1000000000 := by omega
      have e5 : (t : Int) / 1000000000 = ((t / 1000000000 : Nat) : Int) := by omega
      rw [e2, e4, app_set hj] at h3
      rw [e3, e5]
      refine ih (i + 1) w3 _ _ (by omega) (by omega) h3 (by simpa using hl) (by omega) (by rw [List.drop_set, if_pos (by omega)]; exact hk2) ?_
      rw [wv_take_succ, Nat.pow_succ]
      exact add_word he (wv_set D i _ (by omega)) (by rw [ht]) (by rw [ht])
    refine ⟨⟨by omega, by omega⟩, a, rfl, fun w2 e => ?_⟩
    obtain ⟨_, a', ea, hst'⟩ := (h.ext e).storeU apart_none (j := (j : Int) + (i : Int)) (x := (t : Int) % 1000000000) (by omega) (by omega) (by omega) (by omega) (K := fun w3 => (0 ≤ (t : Int) ∧ 0 < (1000000000 : Int) ∧ inR .u32 (t : Int)) ∧ inR .i64 ((i : Int) + 1) ∧
      F.garboardref01_reduce.L21 (some a) nu cu Av nv cv j g nv ((t : Int) / 1000000000) ((i : Int) + 1) B w3 R) (fun w3 h3 => ⟨⟨by omega, by omega, by simp only [inR]; omega⟩, by simp only [inR]; omega, step w3 h3⟩)
    cases ea
    exact hst'

theorem red_L5 (hn : nu ≤ 1000000) (hv : SlU w1 Av vs) (hvl : vs.length = nv) (hsv : Small vs) (hsep : Sep Av Au none nu cu 0 0) {pre D0 : List Nat} {g j : Nat} (hj : pre.length = j) (hk : nv < D0.length) (hg : g ≤ 1000000000)
    (hR : ∀ w D (c br : Nat), Div w1 w B Au nu cu (pre ++ D) none 0 0 [] → D.length = D0.length → c < 1000000000 → br ≤ 1 → D.drop nv = D0.drop nv → wv D + g * wv vs = wv D0 + 1000000000 ^ nv * (c + br) →
      ((D0.getD nv 0 : Nat) - (c : Int) - (br : Int) ≥ 0 → ∀ w2, Div w1 w2 B Au nu cu (pre ++ D.set nv ((D0.getD nv 0 : Nat) - (c : Int) - (br : Int)).toNat) none 0 0 [] → R (.int .u32 (g : Int)) w2) ∧
      (¬ ((D0.getD nv 0 : Nat) - (c : Int) - (br : Int) ≥ 0) → ∀ w2, Div w1 w2 B Au nu cu (pre ++ D.set nv ((D0.getD nv 0 : Nat) - (c : Int) - (br : Int) + 1000000000).toNat) none 0 0 [] → F.garboardref01_reduce.L21 Au nu cu Av nv cv j g nv 0 0 B w2 R)) :
    ∀ (d i : Nat) (w : World) (D : List Nat) (c br : Nat), nv - i = d → i ≤ nv → Div w1 w B Au nu cu (pre ++ D) none 0 0 [] → D.length = D0.length → c < 1000000000 → br ≤ 1 → D.drop nv = D0.drop nv → wv D + g * wv (vs.take i) = wv D0 + 1000000000 ^ i * (c + br) →
      F.garboardref01_reduce.L5 Au nu cu Av nv cv j g nv br c i B w R := by
  intro d
  induction d with
  | zero =>
    intro i w D c br hd hi h hl hc hb hk2 he
    have hin : i = nv := by omega
    subst hin
    have hul := h.u.len
    have hul2 := hul
    simp only [List.length_append] at hul
    have gu := h.su.getD (i + j)
    rw [app_getD hj] at gu
    rw [List.take_of_length_le (by omega)] at he
    have e2 : ((j : Int) + (i : Int)).toNat = i + j := by omega
    have hr := hR w D c br h hl hc hb hk2 he
    have hg5 := getD_of_drop hk2
    rw [hg5] at gu
    have hval : (pre ++ D).getD ((j : Int) + (i : Int)).toNat 0 = D0.getD i 0 := by rw [e2, app_getD hj, hg5]
    refine F.garboardref01_reduce.L5.step _ _ _ _ _ _ _ _ _ _ _ _ _ _ _ ⟨fun h => by omega, fun _ => ⟨by simp only [inR]; omega, ?_⟩⟩
    refine h.u.sl.load hul2 (by omega) (by omega) ?_
    rw [hval]
    refine ⟨by simp only [inR]; omega, by simp only [inR]; omega, by simp only [inR]; omega, by simp only [inR]; omega, fun h0 => ⟨by simp only [inR]; omega, by simp only [inR]; omega, ?_⟩, fun h0 => ⟨by simp only [inR]; omega, by simp only [inR]; omega, by simp only [inR]; omega, ?_⟩⟩
    · refine h.storeU apart_none (by omega) (by omega) (by omega) (by omega) fun w2 h2 => ⟨by simp only [inR]; omega, ?_⟩
      rw [e2, app_set hj] at h2
      exact hr.1 h0 w2 h2
    · refine h.storeU apart_none (by omega) (by omega) (by omega) (by omega) fun w2 h2 => ?_
      rw [e2, app_set hj] at h2
      exact hr.2 h0 w2 h2
  | succ d ih =>
    intro i w D c br hd hi h hl hc hb hk2 he
    have hul := h.u.len
    have hul2 := hul
    simp only [List.length_append] at hul
    have gv := hsv.getD i
    have gu := h.su.getD (i + j)
    have e2 : ((j : Int) + (i : Int)).toNat = i + j := by omega
    rw [app_getD hj] at gu
    have hval : (pre ++ D).getD ((j : Int) + (i : Int)).toNat 0 = D.getD i 0 := by rw [e2, app_getD hj]
    have e3 : (i : Int) + 1 = ((i + 1 : Nat) : Int) := by omega
    have hgv : g * vs.getD i 0 ≤ 1000000000 * 999999999 := Nat.mul_le_mul hg (by omega)
    obtain ⟨p, hp⟩ : ∃ p, p = g * vs.getD i 0 + c := ⟨_, rfl⟩
    have ep : (g : Int) * (vs.getD i 0 : Nat) = ((g * vs.getD i 0 : Nat) : Int) := by simp
    have ep2 : ((g * vs.getD i 0 : Nat) : Int) + (c : Int) = (p : Int) := by omega
    have e5 : (p : Int) / 1000000000 = ((p / 1000000000 : Nat) : Int) := by omega
    have next : ∀ (br' x : Nat) w2, br' ≤ 1 → x + p % 1000000000 + br = D.getD i 0 + 1000000000 * br' → Div w1 w2 B Au nu cu ((pre ++ D).set (i + j) x) none 0 0 [] →
        F.garboardref01_reduce.L5 Au nu cu Av nv cv j g nv br' ((p / 1000000000 : Nat) : Int) ((i : Int) + 1) B w2 R := by
      intro br' x w2 hb' hx h2
      rw [app_set hj] at h2
      rw [e3]
      refine ih (i + 1) w2 _ _ br' (by omega) (by omega) h2 (by simpa using hl) (by omega) hb' (by rw [List.drop_set, if_pos (by omega)]; exact hk2) ?_
      rw [wv_take_succ, Nat.pow_succ]
      exact sub_word he (wv_set D i x (by omega)) (by rw [← hp]; exact hx) (by rw [← hp])
    refine F.garboardref01_reduce.L5.step _ _ _ _ _ _ _ _ _ _ _ _ _ _ _ ⟨fun _ => ?_, fun h => by omega⟩
    refine (h.sl hv hsep).load hvl (by omega) (by omega) ?_
    rw [Int.toNat_natCast, ep, ep2, e5]
    refine ⟨by simp only [inR]; omega, by simp only [inR]; omega, by simp only [inR]; omega, ⟨by omega, by omega, by simp only [inR]; omega⟩, by simp only [inR]; omega, ?_⟩
    refine h.u.sl.load hul2 (by omega) (by omega) ?_
    rw [hval]
    refine ⟨by simp only [inR]; omega, by omega, by simp only [inR]; omega, by simp only [inR]; omega, by simp only [inR]; omega, fun h0 => ⟨by simp only [inR]; omega, by simp only [inR]; omega, by simp only [inR]; omega, ?_⟩, fun h0 => ⟨by simp only [inR]; omega, by simp only [inR]; omega, ?_⟩⟩
    · refine h.storeU apart_none (by omega) (by omega) (by omega) (by omega) fun w2 h2 => ⟨by simp only [inR]; omega, ?_⟩
      rw [e2] at h2
      exact next 1 _ w2 (by omega) (by omega) h2
    · refine h.storeU apart_none (by omega) (by omega) (by omega) (by omega) fun w2 h2 => ⟨by simp only [inR]; omega, ?_⟩
      rw [e2] at h2
      exact next 0 _ w2 (by omega) (by omega) h2
end

theorem ref_reduce {w : World} {B : Nat} {Au Av : Option Addr} {nu cu nv cv : Nat} {vs pre D : List Nat} {g j q : Nat} (hB : B ≤ w.heap.size) (hn : nu ≤ 1000000) (hu : OwnU w B Au nu cu (pre ++ D)) (hsu : Small (pre ++ D)) (hv : SlU w Av vs) (hvl : vs.length = nv) (hsv : Small vs)
    (hvu : ∀ a b, Av = some a → Au = some b → a.block ≠ b.block) (hj : pre.length = j) (hk : nv < D.length) (hg : g ≤ 1000000000) (hqg : q ≤ g) (hq1 : q * wv vs ≤ wv D) (hq2 : wv D < q * wv vs + wv vs) (hgV : g * wv vs < wv D + wv vs) (hT : wv D < 1000000000 ^ (nv + 1)) (hV : wv vs < 1000000000 ^ nv) (hqb : q < 1000000000) :
    PureB Tryz.prog 132 #[.slice Au nu cu, .slice Av nv cv, .int .i64 (j : Int), .int .u64 (g : Int)] B w fun v w' => v = .int .u32 (q : Int) ∧ ∃ D3, D3.length = D.length ∧ wv D3 = wv D - q * wv vs ∧ Div w w' B Au nu cu (pre ++ D3) none 0 0 [] := by
  have hsep : Sep Av Au none nu cu 0 0 := Sep.of hvu fun _ _ _ h => by cases h
  have hVpos : 0 < wv vs := by omega
  have hsD : Small D := fun x hx => hsu x (by simp [hx])
  have gt0 := hsD.getD nv
  have t0 := wv_top (k := nv) (by omega) hsD hT
  have td : wv (D.drop nv) = D.getD nv 0 := by
    have h1 := wv_split D nv (by omega)
    have hp : 0 < 1000000000 ^ nv := Nat.pow_pos (by omega)
    exact Nat.eq_of_mul_eq_mul_left hp (by omega)
  refine F.garboardref01_reduce.vcB _ _ _ _ _ _ _ _ B w hB _ ?_
  refine red_L5 (w1 := w) hn hv hvl hsv hsep hj hk hg (fun w5 D5 c br h5 hl5 hc hbr hk5 he5 => ?_) nv 0 w D 0 0 (by omega) (by omega) ⟨hu, World.ownsRow_nil w _ _ _, hsu, Small.nil, fun _ _ _ _ => rfl, Below.refl _ _⟩ rfl (by omega) (by omega) rfl (by simp [wv])
  have t5 := wv_split D5 nv (by omega)
  have hs5 : Small D5 := fun x hx => h5.su x (by simp [hx])
  have l5 := wv_lt (hs5.take nv)
  rw [List.length_take, Nat.min_eq_left (by omega)] at l5
  rw [hk5, td] at t5
  have hg5 := getD_of_drop hk5
  obtain ⟨P, hP⟩ : ∃ P, P = 1000000000 ^ nv := ⟨_, rfl⟩
  rw [← hP] at t5 l5 he5 hV
  obtain ⟨z, hz⟩ : ∃ z, z = D.getD nv 0 := ⟨_, rfl⟩
  rw [← hz] at t5 hg5 gt0 ⊢
  rw [Nat.mul_add] at he5
  refine ⟨fun hpos w7 h7 => ?_, fun hneg w6 h6 => ?_⟩
  · have hle5 : g * wv vs ≤ wv D := by
      have k1 : P * (c + br) ≤ P * z := Nat.mul_le_mul_left _ (by omega)
      rw [Nat.mul_add] at k1
      omega
    have hq : q = g := by
      rcases Nat.lt_or_ge q g with k | k
      · have := Nat.mul_le_mul_right (wv vs) (show q + 1 ≤ g by omega)
        rw [Nat.add_mul] at this
        omega
      · omega
    subst hq
    refine ⟨rfl, _, by simpa using hl5, ?_, h7⟩
    have hset := wv_set D5 nv (((z : Int) - (c : Int) - (br : Int)).toNat) (by omega)
    rw [hg5, ← hP] at hset
    have e8 : P * (((z : Int) - (c : Int) - (br : Int)).toNat) + (P * c + P * br) = P * z := by
      rw [← Nat.mul_add, ← Nat.mul_add]
      congr 1
      omega
    omega
  · have hlt5 : wv D < g * wv vs := by
      have k1 : P * (z + 1) ≤ P * (c + br) := Nat.mul_le_mul_left _ (by omega)
      rw [Nat.mul_add, Nat.mul_add] at k1
      omega
    have hqg' : q + 1 = g := by
      have k1 : q < g := by
        apply Decidable.byContradiction
        intro k
        have := Nat.mul_le_mul_right (wv vs) (show g ≤ q by omega)
        omega
      apply Decidable.byContradiction
      intro k
      have := Nat.mul_le_mul_right (wv vs) (show q + 2 ≤ g by omega)
      rw [Nat.add_mul] at this
      omega
    obtain ⟨z', hz'⟩ : ∃ z', z' = ((z : Int) - (c : Int) - (br : Int) + 1000000000).toNat := ⟨_, rfl⟩
    rw [← hz'] at h6
    have eg : (g : Int) - 1 = (q : Int) := by omega
    have hset := wv_set D5 nv z' (by omega)
    rw [hg5, ← hP] at hset
    have hset' : (D5.set nv z').getD nv 0 = z' := by rw [List.getD_eq_getElem?_getD, List.getElem?_set_self (by omega)]; rfl
    refine red_L21 hn hv hvl hsv hsep hj (by simpa using (show nv < D5.length by omega)) (by omega) hg (fun w8 D6 up hup hl6 hk6 he6 h8 => ?_) nv 0 w6 _ 0 (by omega) (by omega) h6 rfl (by omega) rfl (by simp [wv])
    rw [eg]
    rw [hset'] at h8
    refine ⟨rfl, _, by simp at hl6; simp [hl6, hl5], ?_, h8⟩
    have hg6 := getD_of_drop hk6
    rw [hset'] at hg6
    have hgV2 : g * wv vs = q * wv vs + wv vs := by rw [← hqg', Nat.add_mul, Nat.one_mul]
    have z1 : wv (D.drop (nv + 1)) = 0 := by
      have := wv_drop D nv
      omega
    have dr : D5.drop (nv + 1) = D.drop (nv + 1) := by
      have := congrArg (List.drop 1) hk5
      rwa [List.drop_drop, List.drop_drop] at this
    have td6 : wv (D6.drop nv) = z' := by
      have := wv_drop (D5.set nv z') nv
      rw [hset', List.drop_set (i := nv + 1), if_pos (by omega), dr, z1] at this
      rw [hk6]
      omega
    have t6 := wv_split D6 nv (by simp at hl6; omega)
    have s6 : Small (D6.take nv) := by
      have e : (D6.set nv ((z' + up) % 1000000000)).take nv = D6.take nv := by
        rw [List.take_set_of_le (by omega)]
      rw [← e]
      exact fun x hx => h8.su x (by simp [List.mem_of_mem_take hx])
    have l6 := wv_lt s6
    rw [List.length_take, Nat.min_eq_left (by simp at hl6; omega), ← hP] at l6
    rw [td6, ← hP] at t6
    rw [← hP] at he6
    have e9 : P * z' + (P * c + P * br) = P * z + P * 1000000000 := by
      rw [← Nat.mul_add, ← Nat.mul_add, ← Nat.mul_add]
      congr 1
      omega
    have key : wv (D6.take nv) + P * (z' + up) = (wv D - q * wv vs) + P * 1000000000 := by rw [Nat.mul_add]; omega
    have hzz : z' + up = 1000000000 := by
      rcases Nat.lt_trichotomy (z' + up) 1000000000 with k | k | k
      · have := Nat.mul_le_mul_left P (show z' + up + 1 ≤ 1000000000 by omega)
        rw [Nat.mul_add] at this
        omega
      · exact k
      · have := Nat.mul_le_mul_left P (show 1000000000 + 1 ≤ z' + up by omega)
        rw [Nat.mul_add] at this
        omega
    have hset2 := wv_set D6 nv 0 (by simp at hl6; omega)
    rw [hg6, ← hP] at hset2
    have e10 : (z' + up) % 1000000000 = 0 := by rw [hzz]
    rw [e10] at h8 ⊢
    rw [hzz] at key
    omega
end Go.Proofs.YtdnelnicnjplpaaGreatDoor.B

namespace Go.Proofs.YtdnelnicnjplpaaGreatDoor.B
open Go Go.RowKit Go.Proofs Go.Proofs.YtdnelnicnjplpaaGreatDoor.Vc

theorem IsN.one {w : World} {A : Option Addr} {n c x : Nat} (h : IsN w A n c x) (h0 : 0 < x) (hx : x < 1000000000) : n = 1 ∧ SlU w A [x] := by
  obtain ⟨ws, h1, h2, h3, h4, h5, h6, rfl⟩ := h
  have hne : ws ≠ [] := fun e => by subst e; simp [wv] at h0
  have hp := wv_pos h6 hne
  have hl : ws.length = 1 := by
    have := List.length_pos_iff.2 hne
    apply Decidable.byContradiction
    intro k
    have : 1000000000 ^ 1 ≤ 1000000000 ^ (ws.length - 1) := Nat.pow_le_pow_right (by omega) (by omega)
    omega
  obtain ⟨z, rfl⟩ := List.length_eq_one_iff.1 hl
  refine ⟨by simpa using h2.symm, ?_⟩
  have e : wv [z] = z := by simp [wv]
  rw [e]
  exact h1

theorem Div.join {w1 w w' : World} {B : Nat} {Au : Option Addr} {nu cu : Nat} {us us' : List Nat} {Aq : Option Addr} {nq cq : Nat} {qs : List Nat} (h : Div w1 w B Au nu cu us Aq nq cq qs) (ha : Apart Au Aq) (k : Div w w' B Au nu cu us' none 0 0 []) : Div w1 w' B Au nu cu us' Aq nq cq qs := by
  have no : ∀ i : Nat, some i ≠ Value.ownBlock (.slice none 0 0) := fun i => by simp [Value.ownBlock]
  refine ⟨k.u, h.q.other fun b hb => k.fr b (h.q.blk b hb).2 (fun e => ?_) (no b), k.su, h.sq, fun i hi h1 h2 => (k.fr i (Nat.lt_of_lt_of_le hi h.below.size) h1 (no i)).trans (h.fr i hi h1 h2), h.below.trans k.below⟩
  cases Au with
  | none => simp [Value.ownBlock] at e
  | some a =>
    cases Aq with
    | none => simp [Value.ownBlock] at hb
    | some a' =>
      simp [Value.ownBlock] at e hb
      exact ha a a' rfl rfl (by omega)

section
variable {w1 : World} {B : Nat} {Af Au Av Aq : Option Addr} {nf cf nu cu nv cv nq cq : Nat} {vs : List Nat} {R : Value → World → Prop}

theorem over_L17 (hn : nu ≤ 1000000) (hv : SlU w1 Av vs) (hvl : vs.length = nv) (hsv : Small vs) (hsep : Sep Av Au Aq nu cu nq cq) (hnv : 2 ≤ nv) {pre D qs : List Nat} {j : Nat} (hj : pre.length = j) (hk : nv < D.length)
    {top low M vl q T V : Nat} (hlow : low < M) (hvlow : vl < M) (hv1 : 1 ≤ vs.getD (nv - 1) 0) (hV : V = (vs.getD (nv - 1) 0 * 1000000000 + vs.getD (nv - 2) 0) * M + vl) (hT : T = (top * 1000000000 + D.getD (nv - 2) 0) * M + low)
    (hqT : q * V ≤ T) (hqb : q < 1000000000)
    (hR : ∀ w (g : Nat), Div w1 w B Au nu cu (pre ++ D) Aq nq cq qs → g ≤ 1000000000 → q ≤ g → g * V < T + V → PureB Tryz.prog 132 #[.slice Au nu cu, .slice Av nv cv, .int .i64 (j : Int), .int .u64 (g : Int)] B w fun r w78 => (∀ (k ty : Nat) (cs : Array Value), ty ∈ ([] : List Nat) → w.heap[k]? = some (.cells cs ty (0, 0)) → w78.heap[k]? = w.heap[k]?) ∧ ∃ (i76 : Int), r = (.int .u32 i76) ∧ ((0 ≤ (j : Int) ∧ (j : Int) < nq) ∧ ∃ a79, Aq = some a79 ∧ (∃ (cs80 : List Value) (t81 : Nat), B ≤ (a79.add (((j : Int)).toNat * 1)).block ∧ (a79.add (((j : Int)).toNat * 1)).spot = none ∧ w78.heap[(a79.add (((j : Int)).toNat * 1)).block]? = some (.cells cs80.toArray t81 (0, 0)) ∧ (a79.add (((j : Int)).toNat * 1)).off + 1 ≤ cs80.length ∧ hasType t81 [] = false ∧ ∀ w82, Wrote w78 w82 (a79.add (((j : Int)).toNat * 1)).block t81 (setCells cs80 (a79.add (((j : Int)).toNat * 1)).off [(.int .u32 i76)]) → (inR .i64 ((j : Int) - (1 : Int)) ∧ (F.garboardref01_Over.L13 nv Af nf cf Av nv cv Au nu cu Aq nq cq ((j : Int) - (1 : Int)) B w82 R))))) :
    ∀ (g rest : Nat) (w : World), Div w1 w B Au nu cu (pre ++ D) Aq nq cq qs → g * vs.getD (nv - 1) 0 + rest = top → q ≤ g → g ≤ 1000000001 → rest < 2000000000 → (rest < 1000000000 ∨ g ≤ 1000000000) →
      F.garboardref01_Over.L17 nv Af nf cf Av nv cv Au nu cu Aq nq cq j g rest B w R := by
  have g1 := hsv.getD (nv - 1)
  have g2 := hsv.getD (nv - 2)
  have ex1 : ((nv : Int) - 1).toNat = nv - 1 := by omega
  have ex2 : ((nv : Int) - 2).toNat = nv - 2 := by omega
  have ex3 : ((j : Int) + (nv : Int) - 2).toNat = (nv - 2) + j := by omega
  intro g
  induction g with
  | zero =>
    intro rest w h ht hq hg hr ho
    have hul := h.u.len
    have hul2 := hul
    simp only [List.length_append] at hul
    have gu := h.su.getD (nv - 2 + j)
    rw [app_getD hj] at gu
    have lt0 : 0 * V < T + V := by
      rw [hT, hV]
      exact guess_le hvlow hv1 ht (by omega) (by omega)
    refine F.garboardref01_Over.L17.step _ _ _ _ _ _ _ _ _ _ _ _ _ _ _ _ _ _ _ ⟨fun hlt => ⟨fun hge => by omega, fun _ => ⟨by simp only [inR]; omega, ?_⟩⟩, fun _ w2 e => hR w2 0 (h.ext e) (by omega) hq lt0⟩
    refine (h.sl hv hsep).load hvl (by omega) (by omega) ?_
    rw [ex2]
    refine ⟨by simp only [inR]; omega, by simp only [inR]; omega, by simp only [inR]; omega, by simp only [inR]; omega, by simp only [inR]; omega, ?_⟩
    refine h.u.sl.load hul2 (by omega) (by omega) ?_
    rw [ex3, app_getD hj]
    exact ⟨by simp only [inR]; omega, by simp only [inR]; omega, fun h0 => by omega, fun h0 w2 e => hR w2 0 (h.ext e) (by omega) hq lt0⟩
  | succ g ih =>
    intro rest w h ht hq hg hr ho
    have hul := h.u.len
    have hul2 := hul
    simp only [List.length_append] at hul
    have gu := h.su.getD (nv - 2 + j)
    rw [app_getD hj] at gu
    have eg : ((g + 1 : Nat) : Int) - 1 = (g : Int) := by omega
    have hgv : (g + 1) * vs.getD (nv - 2) 0 ≤ 1000000001 * 1000000000 := Nat.mul_le_mul (by omega) (by omega)
    have ep : ((g + 1 : Nat) : Int) * (vs.getD (nv - 2) 0 : Nat) = (((g + 1) * vs.getD (nv - 2) 0 : Nat) : Int) := by simp
    have next : q ≤ g → rest < 1000000000 → ∀ w2, Ext B [] w w2 → inR .u64 ((vs.getD (nv - 1) 0 : Nat) : Int) ∧ inR .u64 ((rest : Int) + (vs.getD (nv - 1) 0 : Nat)) ∧
        F.garboardref01_Over.L17 nv Af nf cf Av nv cv Au nu cu Aq nq cq j g ((rest : Int) + (vs.getD (nv - 1) 0 : Nat)) B w2 R := by
      intro hqg hrl w2 e
      have ht2 : g * vs.getD (nv - 1) 0 + (rest + vs.getD (nv - 1) 0) = top := by rw [Nat.add_mul] at ht; omega
      exact ⟨by simp only [inR]; omega, by simp only [inR]; omega, ih (rest + vs.getD (nv - 1) 0) w2 (h.ext e) ht2 hqg (by omega) (by omega) (by omega)⟩
    refine F.garboardref01_Over.L17.step _ _ _ _ _ _ _ _ _ _ _ _ _ _ _ _ _ _ _ ⟨fun hlt => ⟨fun hge => ⟨by simp only [inR]; omega, by simp only [inR]; omega, ?_⟩, fun hg2 => ⟨by simp only [inR]; omega, ?_⟩⟩, fun hnot w2 e => hR w2 (g + 1) (h.ext e) (by omega) hq ?_⟩
    · rw [eg]
      refine (h.sl hv hsep).load2 hvl (by omega) (by omega) fun w2 e => ?_
      rw [ex1]
      exact next (by omega) (by omega) w2 e
    · refine (h.sl hv hsep).load hvl (by omega) (by omega) ?_
      rw [ex2, ep]
      refine ⟨by simp only [inR]; omega, by simp only [inR]; omega, by simp only [inR]; omega, by simp only [inR]; omega, by simp only [inR]; omega, ?_⟩
      refine h.u.sl.load hul2 (by omega) (by omega) ?_
      rw [ex3, app_getD hj, eg]
      refine ⟨by simp only [inR]; omega, by simp only [inR]; omega, fun h1 => ⟨by simp only [inR]; omega, by simp only [inR]; omega, ?_⟩, fun h1 w2 e => hR w2 (g + 1) (h.ext e) (by omega) hq ?_⟩
      · refine (h.sl hv hsep).load2 hvl (by omega) (by omega) fun w2 e => ?_
        rw [ex1]
        refine next ?_ (by omega) w2 e
        rw [hT, hV] at hqT
        have := guess_gt hlow hqT ht hq (by omega)
        omega
      · rw [hT, hV]
        exact guess_le hvlow hv1 ht (by omega) (by omega)
    · rw [hT, hV]
      have h4 : (g + 1) * vs.getD (nv - 2) 0 ≤ 1000000000 * 1000000000 := Nat.mul_le_mul (by omega) (by omega)
      exact guess_le hvlow hv1 ht (by omega) (by omega)

set_option maxHeartbeats 2000000 in
theorem over_L13 (ha : Apart Au Aq) (hn : nu ≤ 1000000) (hB : B ≤ w1.heap.size) (hv : SlU w1 Av vs) (hvl : vs.length = nv) (hsv : Small vs) (hsep : Sep Av Au Aq nu cu nq cq) (hvu : ∀ a b, Av = some a → Au = some b → a.block ≠ b.block) (hnv : 2 ≤ nv) (hnq : nu = nq + nv) (hhalf : 1000000000 ≤ 2 * vs.getD (nv - 1) 0)
    {f : Nat} (hf : SlU w1 Af [f]) (hnf : nf = 1) (hsepf : Sep Af Au Aq nu cu nq cq) (hf0 : 0 < f) (hf1 : f < 1000000000) {U0 : Nat}
    (hR : ∀ A n c A' n' c' w, IsN w A n c (U0 / wv vs) → IsN w A' n' c' (U0 % wv vs / f) → R (.tuple #[.slice A n c, .slice A' n' c']) w) :
    ∀ (i : Nat) (w : World) (us qs : List Nat), i ≤ nq → Div w1 w B Au nu cu us Aq nq cq qs → wv (us.drop i) < wv vs → wv (qs.drop i) * wv vs * 1000000000 ^ i + wv us = U0 →
      F.garboardref01_Over.L13 nv Af nf cf Av nv cv Au nu cu Aq nq cq ((i : Int) - 1) B w R := by
  obtain ⟨kk, rfl⟩ : ∃ kk, nv = kk + 2 := ⟨nv - 2, by omega⟩
  have hVlt : wv vs < 1000000000 ^ (kk + 2) := by have := wv_lt hsv; rwa [hvl] at this
  obtain ⟨hV, hvlow⟩ := words2 hvl hsv
  have ev1 : kk + 2 - 1 = kk + 1 := by omega
  have g1 := hsv.getD (kk + 1)
  have g2 := hsv.getD kk
  rw [ev1] at hhalf
  intro i
  induction i with
  | zero =>
    intro w us qs hi h hlt he
    have hul := h.u.len
    have hcap := h.u.cap
    simp only [List.drop_zero, Nat.pow_zero, Nat.mul_one] at hlt he
    have ediv : U0 / wv vs = wv qs := by rw [← he, Nat.mul_comm, Nat.mul_add_div (by omega), Nat.div_eq_of_lt hlt, Nat.add_zero]
    have emod : U0 % wv vs = wv us := by rw [← he, Nat.mul_comm, Nat.mul_add_mod, Nat.mod_eq_of_lt hlt]
    rw [ediv, emod] at hR
    have etake : wv (us.take (kk + 2)) = wv us := by
      have h1 := wv_split us (kk + 2) (by omega)
      have h2 : wv (us.drop (kk + 2)) = 0 := by
        apply Decidable.byContradiction
        intro h3
        have h4 : 1000000000 ^ (kk + 2) * 1 ≤ 1000000000 ^ (kk + 2) * wv (us.drop (kk + 2)) := Nat.mul_le_mul_left _ (by omega)
        omega
      rw [h2] at h1
      omega
    refine F.garboardref01_Over.L13.step _ _ _ _ _ _ _ _ _ _ _ _ _ _ _ _ _ ⟨fun h => by omega, fun _ => ⟨⟨by omega, by omega⟩, ?_⟩⟩
    refine (h.sl hf hsepf).load (n := nf) (by rw [hnf]; rfl) (by omega) (by omega) fun w2 e2 => ?_
    have h2 := h.ext e2
    have e3 : (((kk + 2 : Nat) : Int)).toNat = kk + 2 := by omega
    rw [e3]
    refine Pure.mono (ref_trim (h2.u.sl.take (kk + 2)) (by simp; omega) (by omega) (by omega) (h2.su.take _)) ?_
    rintro v w3 hb3 ⟨rfl, m, rfl, hm, hm1, _⟩
    rw [etake] at hm
    refine ⟨_, _, _, rfl, Pure.mono (ref_small (d := f) hm (by omega) hf0 (by omega)) ?_⟩
    rintro v w4 hb4 ⟨A1, n1, c1, rfl, k1⟩
    refine ⟨_, _, _, _, rfl, ?_⟩
    have hq4 : SlU w4 Aq qs := h2.q.sl.below hb4
    refine Pure.mono (ref_trim hq4 h2.q.len h2.q.cap (by have := h2.q.cap; omega) h2.sq) ?_
    rintro v w5 hb5 ⟨rfl, m', rfl, hm', _⟩
    exact ⟨_, _, _, rfl, hR _ _ _ _ _ _ _ hm' k1⟩
  | succ j ih =>
    intro w us qs hi h hlt he
    have hul := h.u.len
    have hql := h.q.len
    have e0 : ((j + 1 : Nat) : Int) - 1 = (j : Int) := by omega
    rw [e0]
    obtain ⟨pre, hpre⟩ : ∃ pre, pre = us.take j := ⟨_, rfl⟩
    obtain ⟨D, hD⟩ : ∃ D, D = us.drop j := ⟨_, rfl⟩
    have hus : us = pre ++ D := by rw [hpre, hD, List.take_append_drop]
    have hj : pre.length = j := by rw [hpre]; simp; omega
    have hDl : D.length = nu - j := by rw [hD]; simp [hul]
    have hsD : Small D := by rw [hD]; exact fun x hx => h.su x (List.mem_of_mem_drop hx)
    have hdrop : us.drop (j + 1) = D.drop 1 := by rw [hD, List.drop_drop]
    rw [hdrop] at hlt
    have hT0 : wv D = D.getD 0 0 + 1000000000 * wv (D.drop 1) := by have := wv_drop D 0; simpa using this
    have gD0 := hsD.getD 0
    have hT : wv D < 1000000000 * wv vs := by omega
    have hT3 : wv D < 1000000000 ^ (kk + 2 + 1) := by rw [Nat.pow_succ]; omega
    obtain ⟨hTw, hlow⟩ := words3 (by omega) hsD hT3
    have gt0 := hsD.getD (kk + 2)
    have gt1 := hsD.getD (kk + 1)
    have gt2 := hsD.getD kk
    have hwu : wv us = wv pre + 1000000000 ^ j * wv D := by rw [hus, wv_append, hj]
    obtain ⟨q, hq⟩ : ∃ q, q = wv D / wv vs := ⟨_, rfl⟩
    have hVpos : 0 < wv vs := by omega
    have hqT : q * wv vs ≤ wv D := by rw [hq]; exact Nat.div_mul_le_self _ _
    have hqT2 : wv D < q * wv vs + wv vs := by
      have h1 := Nat.div_add_mod (wv D) (wv vs)
      have h2 := Nat.mod_lt (wv D) hVpos
      rw [← hq, Nat.mul_comm] at h1
      omega
    have hqb : q < 1000000000 := by
      rw [hq, Nat.div_lt_iff_lt_mul hVpos]
      exact hT
    rw [hus] at h
    -- the next round
    have next : ∀ w2 D3, Div w1 w2 B Au nu cu (pre ++ D3) Aq nq cq (qs.set j q) → wv D3 = wv D - q * wv vs →
        F.garboardref01_Over.L13 (kk + 2 : Nat) Af nf cf Av (kk + 2) cv Au nu cu Aq nq cq ((j : Int) - 1) B w2 R := by
      intro w2 D3 h2 hw2
      refine ih w2 _ _ (by omega) h2 ?_ ?_
      · rw [← hj, List.drop_left, hw2]; omega
      · have eq1 : wv ((qs.set j q).drop j) = q + 1000000000 * wv (qs.drop (j + 1)) := by
          rw [wv_drop, List.drop_set, if_pos (by omega), List.getD_eq_getElem?_getD, List.getElem?_set_self (by omega)]
          rfl
        have e5 : wv D3 + q * wv vs = wv D := by omega
        rw [eq1, wv_append, hj]
        rw [hwu, ← e5, Nat.pow_succ] at he
        rw [← he]
        grind
    obtain ⟨top, htop⟩ : ∃ top, top = D.getD (kk + 2) 0 * 1000000000 + D.getD (kk + 1) 0 := ⟨_, rfl⟩
    rw [← htop] at hTw
    have etop : ((D.getD (kk + 2) 0 : Nat) : Int) * 1000000000 + ((D.getD (kk + 1) 0 : Nat) : Int) = (top : Int) := by omega
    obtain ⟨v1, hv1⟩ : ∃ v1, v1 = vs.getD (kk + 1) 0 := ⟨_, rfl⟩
    have ei1 : ((j : Int) + ((kk + 2 : Nat) : Int)).toNat = (kk + 2) + j := by omega
    have ei2 : ((j : Int) + ((kk + 2 : Nat) : Int) - 1).toNat = (kk + 1) + j := by omega
    have ei3 : (((kk + 2 : Nat) : Int) - 1).toNat = kk + 1 := by omega
    have hul2 := h.u.len
    refine F.garboardref01_Over.L13.step _ _ _ _ _ _ _ _ _ _ _ _ _ _ _ _ _ ⟨fun _ => ⟨by simp only [inR]; omega, ?_⟩, fun h => by omega⟩
    refine h.u.sl.load hul2 (by omega) (by omega) ?_
    rw [ei1, app_getD hj]
    refine ⟨by simp only [inR]; omega, by simp only [inR]; omega, by simp only [inR]; omega, by simp only [inR]; omega, ?_⟩
    refine h.u.sl.load hul2 (by omega) (by omega) ?_
    rw [ei2, app_getD hj, etop]
    refine ⟨by simp only [inR]; omega, by simp only [inR]; omega, fun w2 e2 => ⟨by simp only [inR]; omega, ?_⟩⟩
    have h2 := h.ext e2
    refine (h2.sl hv hsep).load hvl (by omega) (by omega) ?_
    have hval : vs.getD (((kk + 2 : Nat) : Int) - 1).toNat 0 = v1 := by rw [ei3, hv1]
    rw [hval]
    rw [← hv1] at hhalf g1
    refine ⟨by simp only [inR]; omega, ⟨by omega, by omega, by simp only [inR]; omega⟩, by simp only [inR]; omega, ?_⟩
    refine (h2.sl hv hsep).load hvl (by omega) (by omega) ?_
    rw [hval]
    refine ⟨by simp only [inR]; omega, ⟨by omega, by omega⟩, fun w3 e3 => ?_⟩
    have h3 := h2.ext e3
    have ed : (top : Int) / (v1 : Int) = ((top / v1 : Nat) : Int) := by simp
    have em : (top : Int) % (v1 : Int) = ((top % v1 : Nat) : Int) := by simp
    rw [ed, em]
    have hgq : q ≤ top / v1 := by
      rw [Nat.le_div_iff_mul_le (by omega)]
      rw [hTw, hV, ← hv1] at hqT
      exact guess_ge gt2 hlow hqT
    have hgb : top / v1 ≤ 1000000001 := by
      refine guess_first (by omega) g2 hvlow (by rw [hv1] at hhalf; exact hhalf) (by rw [← hTw, ← hV]; exact hT) ?_
      rw [← hv1]
      exact Nat.div_mul_le_self _ _
    have hml := Nat.mod_lt top (show 0 < v1 by omega)
    refine over_L17 hn hv hvl hsv hsep (by omega) hj (by omega) (top := top) (low := wv (D.take kk)) (M := 1000000000 ^ kk) (vl := wv (vs.take kk)) (q := q) (T := wv D) (V := wv vs) hlow hvlow (by rw [ev1, ← hv1]; omega) (by rw [ev1]; exact hV) hTw hqT hqb
      (fun w4 g h4 hg1 hg2 hg3 => ?_) (top / v1) (top % v1) w3 h3 (by rw [ev1, ← hv1]; have := Nat.div_add_mod top v1; rw [Nat.mul_comm] at this; exact this) hgq hgb (by omega) (.inl (by omega))
    refine PureB.mono (ref_reduce (q := q) (Nat.le_trans hB h4.below.size) hn h4.u h4.su (h4.sl hv hsep) hvl hsv hvu hj (by omega) hg1 hg2 hqT hqT2 hg3 hT3 hVlt hqb) ?_
    rintro v w5 b5 ⟨rfl, D3, hl3, hw3, k3⟩
    refine ⟨fun k ty cs h => (by cases h), _, rfl, ?_⟩
    refine (h4.join ha k3).storeQ ha (j := (j : Int)) (by omega) (by omega) (by omega) (by omega) fun w6 h6 => ⟨by simp only [inR]; omega, ?_⟩
    rw [Int.toNat_natCast, Int.toNat_natCast] at h6
    exact next w6 D3 h6 hw3
end

theorem lit_ok {t : Nat} (el : El Tryz.prog t 112 1 4) {B : Nat} {w : World} {tys : List Nat} (hB : B ≤ w.heap.size) (xs : List Nat) (hl : xs.length ≤ 1024) {K : Option Addr → Nat → Nat → World → Prop}
    (h : ∀ A c w2, OwnU w2 w.heap.size A xs.length c xs → Below w.heap.size w w2 → K A xs.length c w2) :
    RunOk Tryz.prog (Instr.buildSlice t xs.length ((u32s xs).zipIdx.map fun x => (x.2, x.1)).toArray) B tys w fun r w1 => ∃ A n c, r = .slice A n c ∧ K A n c w1 := by
  obtain ⟨w', hr, hb, hs, ho⟩ := lit_u32 el w xs hl
  exact ⟨_, w', hr, hb.mono hB, hs, fun k ty cs _ hk => hb.block k (Array.getElem?_eq_some_iff.1 hk).1, _, _, _, rfl, h _ _ _ ho hb⟩
theorem app_words {t ty : Nat} (el : El Tryz.prog t 112 1 4) {B0 B : Nat} (hBB : B0 ≤ B) {tys : List Nat} {w : World} {A A1 : Option Addr} {n c n1 c1 : Nat} {ws vs : List Nat} (ho : OwnU w B A n c ws) (hv : SlU w A1 vs) (hvl : vs.length = n1) (hB : B ≤ w.heap.size) (hn : n ≤ 1000000) (hn1 : n1 ≤ 1000000) (ht : 112 ∉ tys) (h0 : n1 ≠ 0)
    {K : Option Addr → Nat → Nat → World → Prop} (h : ∀ A' c' w', OwnU w' B A' (n + n1) c' (ws ++ vs) → Below B w w' → K A' (n + n1) c' w') :
    RunOk Tryz.prog (Builtin.append_ #[t, t] ty #[.slice A n c, .slice A1 n1 c1]) B0 tys w fun r w2 => ∃ A n c, r = .slice A n c ∧ K A n c w2 := by
  rcases hv with hv | ⟨b, off, all, fr, rfl, hb, hc⟩
  · subst hv; simp at hvl; omega
  · refine runOk_append el hBB ho (a := ⟨b, off, none⟩) (m := n1) (c := c1) (news := u32s vs) (by simp [u32s, hvl]) (fun j u hj => ?_) (fun u hu => ?_) hB (by omega) ht fun A' c' w' k1 k2 k3 => h A' c' w' ?_ (below_grown k2 (fun k hk => (ho.blk k hk).1) hB)
    · have hj' : j < vs.length := by
        have := (List.getElem?_eq_some_iff.1 hj).1
        simpa [u32s] using this
      have e : u = .int .u32 (vs[j] : Nat) := by
        have : (u32s vs)[j]? = some (.int .u32 (vs[j] : Nat)) := by simp [u32s, hj']
        rw [this] at hj
        exact (Option.some.inj hj).symm
      subst e
      have add1 : (⟨b, off, none⟩ : Addr).add j = ⟨b, off + j, none⟩ := by
        unfold Addr.add
        split
        · rename_i h; subst h; rfl
        · rfl
      rw [add1]
      simp only [World.cell?, hb]
      exact hc j hj'
    · simp only [u32s, List.mem_map] at hu
      obtain ⟨x, _, rfl⟩ := hu
      rfl
    · unfold OwnU
      rw [u32s_append]
      exact k1
end Go.Proofs.YtdnelnicnjplpaaGreatDoor.B
