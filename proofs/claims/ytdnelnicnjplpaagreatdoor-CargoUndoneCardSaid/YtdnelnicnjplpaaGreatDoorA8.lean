/- Part 8 of the proofs that: a claim about cargo holds -/
import Derived.Test.YtdnelnicnjplpaaGreatDoorA7
import Derived.Test.YtdnelnicnjplpaaGreatDoorProg
set_option linter.unusedVariables false
set_option linter.unusedSimpArgs false
set_option maxRecDepth 100000
set_option maxHeartbeats 4000000
namespace Go.Proofs.YtdnelnicnjplpaaGreatDoor.F
open Go Go.RowKit Go.Proofs Go.Proofs.YtdnelnicnjplpaaGreatDoor.Vc
def garboardref47_Few.L2 (a : Int) (b : Option Addr) (c d : Nat) (e : Option Addr) (f g B : Nat) (w : World) (R : Value → World → Prop) : Prop := At Tryz.prog 12 100 (loopAt Tryz.f12 2) [(1, .loc 1 0), (3, .v (.int .i64 a))] [⟨1, false, 25, [(.slice b c d), (.slice e f g)]⟩] B w R
def garboardref47_Few.L8 (a : Int) (b : Option Addr) (c d : Nat) (e : Option Addr) (f g B : Nat) (w : World) (R : Value → World → Prop) : Prop := At Tryz.prog 12 100 (loopAt Tryz.f12 8) [(1, .loc 1 0), (5, .v (.int .i64 a))] [⟨1, false, 25, [(.slice b c d), (.slice e f g)]⟩] B w R
noncomputable def garboardref47_Few.cx (w : World) (B : Nat) (R : Value → World → Prop) : Cx := ⟨Tryz.prog, 12, 100, Tryz.f12.results.toList, [((true, 2), [1, 3], [1]), ((true, 8), [1, 5], [1])], [], w, B, R⟩
theorem garboardref47_Few.L2.step (a : Int) (c : Option Addr) (b d : Nat) (e : Option Addr) (f g B : Nat) (w : World) (R : Value → World → Prop)
    (h : (((a < (b : Int)) → ((0 ≤ a ∧ a < b) ∧ ∃ n, c = some n ∧ (∃ t u v i j l m, CellsAt w (n.add ((a).toNat * 7)) [.int .i64 t, .int .i64 u, .int .i64 v, .string i, .string j, .string l, .string m] ∧ (((((ByteArray.size j : Int) : Int) > 40) → (∀ o, Ext B [] w o → (R (.bool false) o))) ∧ (¬ (((ByteArray.size j : Int) : Int) > 40) → (((((ByteArray.size l : Int) : Int) > 40) → (∀ p, Ext B [] w p → (R (.bool false) p))) ∧ (¬ (((ByteArray.size l : Int) : Int) > 40) → (((((ByteArray.size m : Int) : Int) > 40) → (∀ q, Ext B [] w q → (R (.bool false) q))) ∧ (¬ (((ByteArray.size m : Int) : Int) > 40) → (((((ByteArray.size i : Int) : Int) > 70) → (∀ r, Ext B [] w r → (R (.bool false) r))) ∧ (¬ (((ByteArray.size i : Int) : Int) > 70) → (inR .i64 (a + 1) ∧ (∀ s, Ext B [] w s → (garboardref47_Few.L2 (a + 1) c b d e f g B s R)))))))))))))) ∧ (¬ (a < (b : Int)) → (garboardref47_Few.L8 (0 : Int) c b d e f g B w R)))) :
    garboardref47_Few.L2 a c b d e f g B w R :=
  loop_of_run (garboardref47_Few.cx w B R) 100000 (loopAt Tryz.f12 2) _ _ follows Tryz.func12 rfl rfl rfl (Eq.mp (by kernel_rfl) h)
theorem garboardref47_Few.L8.step (a : Int) (m : Option Addr) (c n : Nat) (d : Option Addr) (b o B : Nat) (w : World) (R : Value → World → Prop)
    (h : (((a < (b : Int)) → ((0 ≤ a ∧ a < b) ∧ ∃ p, d = some p ∧ (∃ y e f g i j l, CellsAt w (p.add ((a).toNat * 7)) [.int .i64 y, .string e, .string f, .string g, .string i, .string j, .string l] ∧ (((((ByteArray.size f : Int) : Int) > 40) → (∀ q, Ext B [] w q → (R (.bool false) q))) ∧ (¬ (((ByteArray.size f : Int) : Int) > 40) → (((((ByteArray.size g : Int) : Int) > 40) → (∀ r, Ext B [] w r → (R (.bool false) r))) ∧ (¬ (((ByteArray.size g : Int) : Int) > 40) → (((((ByteArray.size i : Int) : Int) > 40) → (∀ s, Ext B [] w s → (R (.bool false) s))) ∧ (¬ (((ByteArray.size i : Int) : Int) > 40) → (((((ByteArray.size j : Int) : Int) > 40) → (∀ t, Ext B [] w t → (R (.bool false) t))) ∧ (¬ (((ByteArray.size j : Int) : Int) > 40) → (((((ByteArray.size l : Int) : Int) > 40) → (∀ u, Ext B [] w u → (R (.bool false) u))) ∧ (¬ (((ByteArray.size l : Int) : Int) > 40) → (((((ByteArray.size e : Int) : Int) > 70) → (∀ v, Ext B [] w v → (R (.bool false) v))) ∧ (¬ (((ByteArray.size e : Int) : Int) > 70) → (inR .i64 (a + 1) ∧ (∀ x, Ext B [] w x → (garboardref47_Few.L8 (a + 1) m c n d b o B x R)))))))))))))))))) ∧ (¬ (a < (b : Int)) → ((((c : Int) ≤ (7 : Int)) → (R (.bool (decide ((b : Int) ≤ (7 : Int)))) w)) ∧ (¬ ((c : Int) ≤ (7 : Int)) → (R (.bool false) w)))))) :
    garboardref47_Few.L8 a m c n d b o B w R :=
  loop_of_run (garboardref47_Few.cx w B R) 100000 (loopAt Tryz.f12 8) _ _ follows Tryz.func12 rfl rfl rfl (Eq.mp (by kernel_rfl) h)
theorem garboardref47_Few.vc (a : Option Addr) (b c : Nat) (d : Option Addr) (e f : Nat) (w : World) (R : Value → World → Prop)
    (h : (∀ g, Ext w.heap.size [] w g → (garboardref47_Few.L2 (0 : Int) a b c d e f w.heap.size g R))) :
    Pure Tryz.prog 12 #[.agg #[.slice a b c, .slice d e f]] w R :=
  pure_of_run (garboardref47_Few.cx w w.heap.size R) 100000 follows Tryz.func12 rfl rfl rfl rfl rfl rfl rfl (Eq.mp (by kernel_rfl) h)

noncomputable def garboardref47_Copy.cx (w : World) (B : Nat) (R : Value → World → Prop) : Cx := ⟨Tryz.prog, 14, 12, Tryz.f14.results.toList, [], [(1, 0, 7), (1, 3, 2), (1, 4, 7), (1, 7, 2), (1, 9999, 3)], w, B, R⟩
theorem garboardref47_Copy.vc (d : Option Addr) (e f : Nat) (a : Option Addr) (b c : Nat) (w : World) (R : Value → World → Prop)
    (h : (∀ m, Ext w.heap.size [] w m → ((∀ s, Ext w.heap.size [] m s → (RunOk Tryz.prog (Instr.buildSlice 22 0 #[]) s.heap.size [25, 25] s fun r4 g => ∃ i j l, r4 = .slice i j l ∧ ((RunOk Tryz.prog (Builtin.append_ #[22, 22] 22 #[.slice i j l, .slice d e f]) w.heap.size [25, 25] g fun r7 n => ∃ t u v, r7 = .slice t u v ∧ ((RunOk Tryz.prog (Instr.buildSlice 23 0 #[]) n.heap.size [25, 25] n fun n1 n2 => ∃ M N O, n1 = .slice M N O ∧ (RunOk Tryz.prog (Builtin.append_ #[23, 23] 23 #[.slice M N O, .slice a b c]) w.heap.size [25, 25] n2 fun n3 n4 => ∃ Q S T, n3 = .slice Q S T ∧ (∀ U, Ext w.heap.size [25] n4 U → (R (.agg #[.slice t u v, .slice Q S T]) U)))) ∧ (RunOk Tryz.prog (Instr.buildSlice 23 0 #[]) n.heap.size [25, 25] n fun n5 n6 => ∃ V X Y, n5 = .slice V X Y ∧ (RunOk Tryz.prog (Builtin.append_ #[23, 23] 23 #[.slice V X Y, .slice a b c]) w.heap.size [25, 25] n6 fun n7 n8 => ∃ Z a0 a1, n7 = .slice Z a0 a1 ∧ (∀ a2, Ext w.heap.size [25] n8 a2 → (R (.agg #[.slice t u v, .slice Z a0 a1]) a2)))))) ∧ ((RunOk Tryz.prog (Instr.buildSlice 23 0 #[]) g.heap.size [25, 25] g fun n9 a3 => ∃ x y z, n9 = .slice x y z ∧ ((RunOk Tryz.prog (Builtin.append_ #[22, 22] 22 #[.slice i j l, .slice d e f]) w.heap.size [25, 25] a3 fun o0 o1 => ∃ a4 a5 a6, o0 = .slice a4 a5 a6 ∧ (RunOk Tryz.prog (Builtin.append_ #[23, 23] 23 #[.slice x y z, .slice a b c]) w.heap.size [25, 25] o1 fun o2 o3 => ∃ a7 a8 a9, o2 = .slice a7 a8 a9 ∧ (∀ b0, Ext w.heap.size [25] o3 b0 → (R (.agg #[.slice a4 a5 a6, .slice a7 a8 a9]) b0)))) ∧ (RunOk Tryz.prog (Builtin.append_ #[22, 22] 22 #[.slice i j l, .slice d e f]) w.heap.size [25, 25] a3 fun o4 o5 => ∃ b1 b2 b3, o4 = .slice b1 b2 b3 ∧ (RunOk Tryz.prog (Builtin.append_ #[23, 23] 23 #[.slice x y z, .slice a b c]) w.heap.size [25, 25] o5 fun o6 o7 => ∃ b4 b5 b6, o6 = .slice b4 b5 b6 ∧ (∀ b7, Ext w.heap.size [25] o7 b7 → (R (.agg #[.slice b1 b2 b3, .slice b4 b5 b6]) b7)))))) ∧ ((RunOk Tryz.prog (Builtin.append_ #[22, 22] 22 #[.slice i j l, .slice d e f]) w.heap.size [25, 25] g fun o8 b8 => ∃ b9 c0 c1, o8 = .slice b9 c0 c1 ∧ (RunOk Tryz.prog (Instr.buildSlice 23 0 #[]) b8.heap.size [25, 25] b8 fun o9 p0 => ∃ c2 c3 c4, o9 = .slice c2 c3 c4 ∧ (RunOk Tryz.prog (Builtin.append_ #[23, 23] 23 #[.slice c2 c3 c4, .slice a b c]) w.heap.size [25, 25] p0 fun p1 p2 => ∃ c5 c6 c7, p1 = .slice c5 c6 c7 ∧ (∀ c8, Ext w.heap.size [25] p2 c8 → (R (.agg #[.slice b9 c0 c1, .slice c5 c6 c7]) c8))))) ∧ (RunOk Tryz.prog (Instr.buildSlice 23 0 #[]) g.heap.size [25, 25] g fun p3 p4 => ∃ c9 d0 d1, p3 = .slice c9 d0 d1 ∧ (RunOk Tryz.prog (Builtin.append_ #[22, 22] 22 #[.slice i j l, .slice d e f]) w.heap.size [25, 25] p4 fun p5 p6 => ∃ d2 d3 d4, p5 = .slice d2 d3 d4 ∧ (RunOk Tryz.prog (Builtin.append_ #[23, 23] 23 #[.slice c9 d0 d1, .slice a b c]) w.heap.size [25, 25] p6 fun p7 p8 => ∃ d5 d6 d7, p7 = .slice d5 d6 d7 ∧ (∀ d8, Ext w.heap.size [25] p8 d8 → (R (.agg #[.slice d2 d3 d4, .slice d5 d6 d7]) d8)))))))))) ∧ ((∀ A, Ext w.heap.size [] m A → (RunOk Tryz.prog (Instr.buildSlice 23 0 #[]) A.heap.size [25, 25] A fun p9 o => ∃ p q r, p9 = .slice p q r ∧ ((RunOk Tryz.prog (Instr.buildSlice 22 0 #[]) o.heap.size [25, 25] o fun q0 d9 => ∃ C D E, q0 = .slice C D E ∧ ((RunOk Tryz.prog (Builtin.append_ #[22, 22] 22 #[.slice C D E, .slice d e f]) w.heap.size [25, 25] d9 fun q1 q2 => ∃ e0 e1 e2, q1 = .slice e0 e1 e2 ∧ (RunOk Tryz.prog (Builtin.append_ #[23, 23] 23 #[.slice p q r, .slice a b c]) w.heap.size [25, 25] q2 fun q3 q4 => ∃ e3 e4 e5, q3 = .slice e3 e4 e5 ∧ (∀ e6, Ext w.heap.size [25] q4 e6 → (R (.agg #[.slice e0 e1 e2, .slice e3 e4 e5]) e6)))) ∧ (RunOk Tryz.prog (Builtin.append_ #[22, 22] 22 #[.slice C D E, .slice d e f]) w.heap.size [25, 25] d9 fun q5 q6 => ∃ e7 e8 e9, q5 = .slice e7 e8 e9 ∧ (RunOk Tryz.prog (Builtin.append_ #[23, 23] 23 #[.slice p q r, .slice a b c]) w.heap.size [25, 25] q6 fun q7 q8 => ∃ f0 f1 f2, q7 = .slice f0 f1 f2 ∧ (∀ f3, Ext w.heap.size [25] q8 f3 → (R (.agg #[.slice e7 e8 e9, .slice f0 f1 f2]) f3)))))) ∧ (RunOk Tryz.prog (Instr.buildSlice 22 0 #[]) o.heap.size [25, 25] o fun q9 r0 => ∃ f4 f5 f6, q9 = .slice f4 f5 f6 ∧ (RunOk Tryz.prog (Builtin.append_ #[22, 22] 22 #[.slice f4 f5 f6, .slice d e f]) w.heap.size [25, 25] r0 fun r1 r2 => ∃ f7 f8 f9, r1 = .slice f7 f8 f9 ∧ (RunOk Tryz.prog (Builtin.append_ #[23, 23] 23 #[.slice p q r, .slice a b c]) w.heap.size [25, 25] r2 fun r3 r4 => ∃ g0 g1 g2, r3 = .slice g0 g1 g2 ∧ (∀ g3, Ext w.heap.size [25] r4 g3 → (R (.agg #[.slice f7 f8 f9, .slice g0 g1 g2]) g3)))))))) ∧ ((∀ G, Ext w.heap.size [] m G → (RunOk Tryz.prog (Instr.buildSlice 22 0 #[]) G.heap.size [25, 25] G fun r5 H => ∃ I J K, r5 = .slice I J K ∧ ((RunOk Tryz.prog (Builtin.append_ #[22, 22] 22 #[.slice I J K, .slice d e f]) w.heap.size [25, 25] H fun r6 g4 => ∃ g5 g6 g7, r6 = .slice g5 g6 g7 ∧ (RunOk Tryz.prog (Instr.buildSlice 23 0 #[]) g4.heap.size [25, 25] g4 fun r7 r8 => ∃ g8 g9 j0, r7 = .slice g8 g9 j0 ∧ (RunOk Tryz.prog (Builtin.append_ #[23, 23] 23 #[.slice g8 g9 j0, .slice a b c]) w.heap.size [25, 25] r8 fun r9 s0 => ∃ j1 j2 j3, r9 = .slice j1 j2 j3 ∧ (∀ j4, Ext w.heap.size [25] s0 j4 → (R (.agg #[.slice g5 g6 g7, .slice j1 j2 j3]) j4))))) ∧ (RunOk Tryz.prog (Instr.buildSlice 23 0 #[]) H.heap.size [25, 25] H fun s1 s2 => ∃ j5 j6 j7, s1 = .slice j5 j6 j7 ∧ (RunOk Tryz.prog (Builtin.append_ #[22, 22] 22 #[.slice I J K, .slice d e f]) w.heap.size [25, 25] s2 fun s3 s4 => ∃ j8 j9 l0, s3 = .slice j8 j9 l0 ∧ (RunOk Tryz.prog (Builtin.append_ #[23, 23] 23 #[.slice j5 j6 j7, .slice a b c]) w.heap.size [25, 25] s4 fun s5 s6 => ∃ l1 l2 l3, s5 = .slice l1 l2 l3 ∧ (∀ l4, Ext w.heap.size [25] s6 l4 → (R (.agg #[.slice j8 j9 l0, .slice l1 l2 l3]) l4)))))))) ∧ (∀ L, Ext w.heap.size [] m L → (RunOk Tryz.prog (Instr.buildSlice 23 0 #[]) L.heap.size [25, 25] L fun s7 l5 => ∃ l6 l7 l8, s7 = .slice l6 l7 l8 ∧ (RunOk Tryz.prog (Instr.buildSlice 22 0 #[]) l5.heap.size [25, 25] l5 fun s8 s9 => ∃ l9 m0 m1, s8 = .slice l9 m0 m1 ∧ (RunOk Tryz.prog (Builtin.append_ #[22, 22] 22 #[.slice l9 m0 m1, .slice d e f]) w.heap.size [25, 25] s9 fun t0 t1 => ∃ m2 m3 m4, t0 = .slice m2 m3 m4 ∧ (RunOk Tryz.prog (Builtin.append_ #[23, 23] 23 #[.slice l6 l7 l8, .slice a b c]) w.heap.size [25, 25] t1 fun t2 t3 => ∃ m5 m6 m7, t2 = .slice m5 m6 m7 ∧ (∀ m8, Ext w.heap.size [25] t3 m8 → (R (.agg #[.slice m2 m3 m4, .slice m5 m6 m7]) m8)))))))))))) :
    Pure Tryz.prog 14 #[.agg #[.slice d e f, .slice a b c]] w R :=
  pure_of_run (garboardref47_Copy.cx w w.heap.size R) 100000 follows Tryz.func14 rfl rfl rfl rfl rfl rfl rfl (Eq.mp (by kernel_rfl) h)

def garboardref47_Check.L6 (a : Int) (b : Option Addr) (c d : Nat) (e : Option Addr) (f g B : Nat) (w : World) (R : Value → World → Prop) : Prop := At Tryz.prog 15 143 (loopAt Tryz.f15 6) [(1, .loc 1 0), (3, .v (.int .i64 a))] [⟨1, false, 25, [(.slice b c d), (.slice e f g)]⟩] B w R
def garboardref47_Check.L16 (a : Int) (b : Option Addr) (c d : Nat) (e : Option Addr) (f g B : Nat) (w : World) (R : Value → World → Prop) : Prop := At Tryz.prog 15 143 (loopAt Tryz.f15 16) [(1, .loc 1 0), (5, .v (.int .i64 a))] [⟨1, false, 25, [(.slice b c d), (.slice e f g)]⟩] B w R
noncomputable def garboardref47_Check.cx (w : World) (B : Nat) (R : Value → World → Prop) : Cx := ⟨Tryz.prog, 15, 143, Tryz.f15.results.toList, [((true, 6), [1, 3], [1]), ((true, 16), [1, 5], [1])], [], w, B, R⟩
theorem garboardref47_Check.L6.step (a : Int) (c : Option Addr) (b i : Nat) (j : Option Addr) (l m B : Nat) (w : World) (R : Value → World → Prop)
    (h : (((a < (b : Int)) → ((0 ≤ a ∧ a < b) ∧ ∃ u, c = some u ∧ (∃ n e f v x y z, CellsAt w (u.add ((a).toNat * 7)) [.int .i64 n, .int .i64 e, .int .i64 f, .string v, .string x, .string y, .string z] ∧ (∀ A, Ext B [] w A → (Pure Tryz.prog 47 #[.int .i64 n] A fun a8 d => ∃ o, a8 = .bool o ∧ (((o = false) → (R (.int .i64 2) d)) ∧ (¬ (o = false) → (((e < 1) → (R (.int .i64 2) d)) ∧ (¬ (e < 1) → (((e > 9) → (R (.int .i64 2) d)) ∧ (¬ (e > 9) → (((f < 1) → (R (.int .i64 2) d)) ∧ (¬ (f < 1) → (((f > 9) → (R (.int .i64 2) d)) ∧ (¬ (f > 9) → (Pure Tryz.prog 49 #[.string x] d fun a9 b0 => ∃ C D E G H I J, a9 = .agg #[.bool C, .slice D E G, .slice H I J] ∧ (Pure Tryz.prog 48 #[.agg #[.bool C, .slice D E G, .slice H I J]] b0 fun b1 K => ∃ p, b1 = .int .i64 p ∧ (((p ≤ (0 : Int)) → (R (.int .i64 2) K)) ∧ (¬ (p ≤ (0 : Int)) → (Pure Tryz.prog 49 #[.string y] K fun b2 b3 => ∃ L M N O Q S T, b2 = .agg #[.bool L, .slice M N O, .slice Q S T] ∧ (Pure Tryz.prog 48 #[.agg #[.bool L, .slice M N O, .slice Q S T]] b3 fun b4 U => ∃ q, b4 = .int .i64 q ∧ (((q ≤ (0 : Int)) → (R (.int .i64 2) U)) ∧ (¬ (q ≤ (0 : Int)) → (Pure Tryz.prog 49 #[.string z] U fun b5 b6 => ∃ V X Y Z a0 a1 a2, b5 = .agg #[.bool V, .slice X Y Z, .slice a0 a1 a2] ∧ (Pure Tryz.prog 48 #[.agg #[.bool V, .slice X Y Z, .slice a0 a1 a2]] b6 fun b7 a3 => ∃ r, b7 = .int .i64 r ∧ (((r < 0) → (R (.int .i64 2) a3)) ∧ (¬ (r < 0) → (Pure Tryz.prog 50 #[.string v] a3 fun b8 g => ∃ s, b8 = .bool s ∧ (((s = false) → (R (.int .i64 4) g)) ∧ (¬ (s = false) → (((a > 0) → (inR .i64 (a - (1 : Int)) ∧ ((0 ≤ (a - (1 : Int)) ∧ (a - (1 : Int)) < b) ∧ ∃ a4, c = some a4 ∧ (∃ t, CellsAt g ((a4.add (((a - (1 : Int))).toNat * 7)).add 0) [.int .i64 t] ∧ (((t ≥ n) → (∀ a5, Ext B [] g a5 → (R (.int .i64 5) a5))) ∧ (¬ (t ≥ n) → (inR .i64 (a + 1) ∧ (∀ a6, Ext B [] g a6 → (garboardref47_Check.L6 (a + 1) c b i j l m B a6 R))))))))) ∧ (¬ (a > 0) → (inR .i64 (a + 1) ∧ (∀ a7, Ext B [] g a7 → (garboardref47_Check.L6 (a + 1) c b i j l m B a7 R))))))))))))))))))))))))))))))))))) ∧ (¬ (a < (b : Int)) → (garboardref47_Check.L16 (0 : Int) c b i j l m B w R)))) :
    garboardref47_Check.L6 a c b i j l m B w R :=
  loop_of_run (garboardref47_Check.cx w B R) 100000 (loopAt Tryz.f15 6) _ _ follows Tryz.func15 rfl rfl rfl (Eq.mp (by kernel_rfl) h)
theorem garboardref47_Check.L16.step (a : Int) (f : Option Addr) (g i : Nat) (c : Option Addr) (b j B : Nat) (w : World) (R : Value → World → Prop)
    (h : (((a < (b : Int)) → ((0 ≤ a ∧ a < b) ∧ ∃ q, c = some q ∧ (∃ e r s t V X Y, CellsAt w (q.add ((a).toNat * 7)) [.int .i64 e, .string r, .string s, .string t, .string V, .string X, .string Y] ∧ (∀ u, Ext B [] w u → (Pure Tryz.prog 47 #[.int .i64 e] u fun Z v => ∃ l, Z = .bool l ∧ (((l = false) → (R (.int .i64 2) v)) ∧ (¬ (l = false) → (Pure Tryz.prog 49 #[.string s] v fun a0 a1 => ∃ x y z A C D E, a0 = .agg #[.bool x, .slice y z A, .slice C D E] ∧ (Pure Tryz.prog 48 #[.agg #[.bool x, .slice y z A, .slice C D E]] a1 fun a2 G => ∃ m, a2 = .int .i64 m ∧ (((m < 0) → (R (.int .i64 2) G)) ∧ (¬ (m < 0) → (Pure Tryz.prog 49 #[.string t] G fun a3 a4 => ∃ H I J K L M N, a3 = .agg #[.bool H, .slice I J K, .slice L M N] ∧ (Pure Tryz.prog 48 #[.agg #[.bool H, .slice I J K, .slice L M N]] a4 fun a5 O => ∃ n, a5 = .int .i64 n ∧ (((n < 0) → (R (.int .i64 2) O)) ∧ (¬ (n < 0) → (Pure Tryz.prog 50 #[.string r] O fun a6 d => ∃ o, a6 = .bool o ∧ (((o = false) → (R (.int .i64 4) d)) ∧ (¬ (o = false) → (((a > 0) → (inR .i64 (a - (1 : Int)) ∧ ((0 ≤ (a - (1 : Int)) ∧ (a - (1 : Int)) < b) ∧ ∃ Q, c = some Q ∧ (∃ p, CellsAt d ((Q.add (((a - (1 : Int))).toNat * 7)).add 0) [.int .i64 p] ∧ (((p ≥ e) → (∀ S, Ext B [] d S → (R (.int .i64 5) S))) ∧ (¬ (p ≥ e) → (inR .i64 (a + 1) ∧ (∀ T, Ext B [] d T → (garboardref47_Check.L16 (a + 1) f g i c b j B T R))))))))) ∧ (¬ (a > 0) → (inR .i64 (a + 1) ∧ (∀ U, Ext B [] d U → (garboardref47_Check.L16 (a + 1) f g i c b j B U R))))))))))))))))))))))) ∧ (¬ (a < (b : Int)) → (R (.int .i64 0) w)))) :
    garboardref47_Check.L16 a f g i c b j B w R :=
  loop_of_run (garboardref47_Check.cx w B R) 100000 (loopAt Tryz.f15 16) _ _ follows Tryz.func15 rfl rfl rfl (Eq.mp (by kernel_rfl) h)
theorem garboardref47_Check.vc (d : Option Addr) (a e : Nat) (f : Option Addr) (b g : Nat) (w : World) (R : Value → World → Prop)
    (h : (∀ j, Ext w.heap.size [] w j → (Pure Tryz.prog 46 #[.agg #[.slice d a e, .slice f b g]] j fun l c => ∃ i, l = .bool i ∧ (((i = false) → (R (.int .i64 1) c)) ∧ (¬ (i = false) → ((((a : Int) > 6) → (R (.int .i64 8) c)) ∧ (¬ ((a : Int) > 6) → ((((b : Int) > 6) → (R (.int .i64 8) c)) ∧ (¬ ((b : Int) > 6) → (garboardref47_Check.L6 (0 : Int) d a e f b g w.heap.size c R)))))))))) :
    Pure Tryz.prog 15 #[.agg #[.slice d a e, .slice f b g]] w R :=
  pure_of_run (garboardref47_Check.cx w w.heap.size R) 100000 follows Tryz.func15 rfl rfl rfl rfl rfl rfl rfl (Eq.mp (by kernel_rfl) h)

def garboardref47_Stowed.L4 (a : Option Addr) (b c : Nat) (d : Int) (e : Option Addr) (f g : Nat) (i : Option Addr) (j l B : Nat) (w : World) (R : Value → World → Prop) : Prop := At Tryz.prog 18 94 (loopAt Tryz.f18 4) [(1, .v (.slice a b c)), (2, .loc 2 0), (5, .v (.int .i64 d))] [⟨2, false, 25, [(.slice e f g), (.slice i j l)]⟩] B w R
def garboardref47_Stowed.L15 (a : Option Addr) (b c : Nat) (d e f : Int) (g : Option Addr) (i j : Nat) (l : Option Addr) (m n B : Nat) (w : World) (R : Value → World → Prop) : Prop := At Tryz.prog 18 94 (loopAt Tryz.f18 15) [(1, .v (.slice a b c)), (2, .loc 2 0), (5, .v (.int .i64 d)), (7, .v (.int .i64 e)), (8, .v (.int .i64 f))] [⟨2, false, 25, [(.slice g i j), (.slice l m n)]⟩] B w R
noncomputable def garboardref47_Stowed.cx (w : World) (B : Nat) (R : Value → World → Prop) : Cx := ⟨Tryz.prog, 18, 94, Tryz.f18.results.toList, [((true, 4), [1, 2, 5], [2]), ((true, 15), [1, 2, 5, 7, 8], [2])], [], w, B, R⟩
theorem garboardref47_Stowed.L4.step (d : Option Addr) (b n : Nat) (a : Int) (e : Option Addr) (f i : Nat) (j : Option Addr) (l m B : Nat) (w : World) (R : Value → World → Prop)
    (h : (((a < (b : Int)) → ((0 ≤ a ∧ a < b) ∧ ∃ u, d = some u ∧ (∃ v, CellsAt w ((u.add ((a).toNat * 3)).add 1) [.int .i64 v] ∧ (∀ x, Ext B [] w x → (Pure Tryz.prog 55 #[.agg #[.slice e f i, .slice j l m], .int .i64 v] x fun U o => ∃ c, U = .int .i64 c ∧ (((c < 0) → (∀ y, Ext B [] o y → (R (.int .i64 7) y))) ∧ (¬ (c < 0) → ((0 ≤ a ∧ a < b) ∧ ∃ z, d = some z ∧ (∃ A, CellsAt o ((z.add ((a).toNat * 3)).add 0) [.int .i64 A] ∧ (∀ C, Ext B [] o C → (Pure Tryz.prog 56 #[.agg #[.slice e f i, .slice j l m], .int .i64 A] C fun V g => ∃ p, V = .int .i64 p ∧ (((p < 0) → (R (.int .i64 7) g)) ∧ (¬ (p < 0) → ((0 ≤ a ∧ a < b) ∧ ∃ D, d = some D ∧ (∃ q, CellsAt g ((D.add ((a).toNat * 3)).add 2) [.int .i64 q] ∧ (((q < 1) → (R (.int .i64 2) g)) ∧ (¬ (q < 1) → (((a > 0) → (inR .i64 (a - (1 : Int)) ∧ ((0 ≤ (a - (1 : Int)) ∧ (a - (1 : Int)) < b) ∧ ∃ E, d = some E ∧ (∃ G H I, CellsAt g (E.add (((a - (1 : Int))).toNat * 3)) [.int .i64 G, .int .i64 H, .int .i64 I] ∧ ((0 ≤ a ∧ a < b) ∧ ∃ J, d = some J ∧ (∃ K L M, CellsAt g (J.add ((a).toNat * 3)) [.int .i64 K, .int .i64 L, .int .i64 M] ∧ (∀ N, Ext B [] g N → (Pure Tryz.prog 57 #[.agg #[.int .i64 G, .int .i64 H, .int .i64 I], .agg #[.int .i64 K, .int .i64 L, .int .i64 M]] N fun X r => ∃ s, X = .bool s ∧ (((s = false) → (R (.int .i64 5) r)) ∧ (¬ (s = false) → ((0 ≤ c ∧ c < f) ∧ ∃ O, e = some O ∧ (∃ Q, CellsAt r ((O.add ((c).toNat * 7)).add 1) [.int .i64 Q] ∧ (garboardref47_Stowed.L15 d b n a Q (0 : Int) e f i j l m B r R))))))))))))) ∧ (¬ (a > 0) → ((0 ≤ c ∧ c < f) ∧ ∃ S, e = some S ∧ (∀ t, Ext B [] g t → (∃ T, CellsAt t ((S.add ((c).toNat * 7)).add 1) [.int .i64 T] ∧ (garboardref47_Stowed.L15 d b n a T (0 : Int) e f i j l m B t R))))))))))))))))))))))) ∧ (¬ (a < (b : Int)) → (R (.int .i64 0) w)))) :
    garboardref47_Stowed.L4 d b n a e f i j l m B w R :=
  loop_of_run (garboardref47_Stowed.cx w B R) 100000 (loopAt Tryz.f18 4) _ _ follows Tryz.func18 rfl rfl rfl (Eq.mp (by kernel_rfl) h)
theorem garboardref47_Stowed.L15.step (c : Option Addr) (d g : Nat) (b e a : Int) (i : Option Addr) (j l : Nat) (m : Option Addr) (n o B : Nat) (w : World) (R : Value → World → Prop)
    (h : (((a ≤ b) → ((0 ≤ a ∧ a < d) ∧ ∃ t, c = some t ∧ (∃ p, CellsAt w ((t.add ((a).toNat * 3)).add 1) [.int .i64 p] ∧ ((0 ≤ b ∧ b < d) ∧ ∃ u, c = some u ∧ (∃ q, CellsAt w ((u.add ((b).toNat * 3)).add 1) [.int .i64 q] ∧ (((p = q) → ((0 ≤ a ∧ a < d) ∧ ∃ v, c = some v ∧ (∀ f, Ext B [] w f → (∃ r, CellsAt f ((v.add ((a).toNat * 3)).add 2) [.int .i64 r] ∧ (((r > e) → (R (.int .i64 12) f)) ∧ (¬ (r > e) → ((0 ≤ a ∧ a < d) ∧ ∃ x, c = some x ∧ (∃ s, CellsAt f ((x.add ((a).toNat * 3)).add 2) [.int .i64 s] ∧ (inR .i64 (e - s) ∧ (inR .i64 (a + 1) ∧ (garboardref47_Stowed.L15 c d g b (e - s) (a + 1) i j l m n o B f R))))))))))) ∧ (¬ (p = q) → (inR .i64 (a + 1) ∧ (∀ y, Ext B [] w y → (garboardref47_Stowed.L15 c d g b e (a + 1) i j l m n o B y R)))))))))) ∧ (¬ (a ≤ b) → (inR .i64 (b + 1) ∧ (garboardref47_Stowed.L4 c d g (b + 1) i j l m n o B w R))))) :
    garboardref47_Stowed.L15 c d g b e a i j l m n o B w R :=
  loop_of_run (garboardref47_Stowed.cx w B R) 100000 (loopAt Tryz.f18 15) _ _ follows Tryz.func18 rfl rfl rfl (Eq.mp (by kernel_rfl) h)
theorem garboardref47_Stowed.vc (a : Option Addr) (b c : Nat) (d : Option Addr) (e f : Nat) (i : Option Addr) (j l : Nat) (w : World) (R : Value → World → Prop)
    (h : (∀ m, Ext w.heap.size [] w m → (Pure Tryz.prog 15 #[.agg #[.slice a b c, .slice d e f]] m fun o n => ∃ g, o = .int .i64 g ∧ (((g ≠ 0) → (R (.int .i64 1) n)) ∧ (¬ (g ≠ 0) → (garboardref47_Stowed.L4 i j l (0 : Int) a b c d e f w.heap.size n R)))))) :
    Pure Tryz.prog 18 #[.agg #[.slice a b c, .slice d e f], .slice i j l] w R :=
  pure_of_run (garboardref47_Stowed.cx w w.heap.size R) 100000 follows Tryz.func18 rfl rfl rfl rfl rfl rfl rfl (Eq.mp (by kernel_rfl) h)

def garboardref47_Put.L11 (a : Int) (b : Option Addr) (c d : Nat) (e f g : Int) (i : Option Addr) (j l : Nat) (m : Option Addr) (n o : Nat) (p q r : Int) (B : Nat) (w : World) (R : Value → World → Prop) : Prop := At Tryz.prog 26 103 (loopAt Tryz.f26 11) [(3, .loc 3 0), (5, .loc 5 0), (8, .v (.int .i64 a)), (10, .v (.slice b c d)), (11, .v (.int .i64 e)), (12, .v (.int .i64 f)), (13, .v (.int .i64 g))] [⟨3, false, 25, [(.slice i j l), (.slice m n o)]⟩, ⟨5, false, 48, [(.int .i64 p), (.int .i64 q), (.int .i64 r)]⟩] B w R
noncomputable def garboardref47_Put.cx (w : World) (B : Nat) (R : Value → World → Prop) : Cx := ⟨Tryz.prog, 26, 103, Tryz.f26.results.toList, [((true, 11), [3, 5, 8, 10, 11, 12, 13], [3, 5])], [(18, 9999, 3)], w, B, R⟩
theorem garboardref47_Put.L11.step (e : Int) (f : Option Addr) (g r : Nat) (a j d : Int) (l : Option Addr) (m n : Nat) (o : Option Addr) (b p : Nat) (s t c : Int) (B : Nat) (w : World) (R : Value → World → Prop)
    (h : (((d < (b : Int)) → (inR .i64 (e * (b : Int)) ∧ (inR .i64 ((e * (b : Int)) + d) ∧ ((0 ≤ ((e * (b : Int)) + d) ∧ ((e * (b : Int)) + d) < g) ∧ ∃ C, f = some C ∧ (∃ u, CellsAt w (C.add ((((e * (b : Int)) + d)).toNat * 1)) [.int .i64 u] ∧ (inR .i64 (j - u) ∧ (inR .i64 (d + 1) ∧ (garboardref47_Put.L11 e f g r a (j - u) (d + 1) l m n o b p s t c B w R)))))))) ∧ (¬ (d < (b : Int)) → ((0 ≤ a ∧ a < g) ∧ ∃ D, f = some D ∧ (∃ q, CellsAt w (D.add ((a).toNat * 1)) [.int .i64 q] ∧ (inR .i64 (q + c) ∧ (((((q + c) : Int) < 0) → (∀ E, Ext B [] w E → (R (.tuple #[.slice none 0 0, .int .i64 11]) E))) ∧ (¬ (((q + c) : Int) < 0) → (((c > j) → (∀ G, Ext B [] w G → (R (.tuple #[.slice none 0 0, .int .i64 12]) G))) ∧ (¬ (c > j) → (∀ v, Ext B [] w v → ((0 ≤ a ∧ a < g) ∧ ∃ H, f = some H ∧ (∃ x, CellsAt v (H.add ((a).toNat * 1)) [.int .i64 x] ∧ (inR .i64 (x + c) ∧ ((0 ≤ a ∧ a < g) ∧ ∃ i, f = some i ∧ (∀ y, Ext B [] v y → (∃ (z : List Value) (A : Nat), B ≤ (i.add ((a).toNat * 1)).block ∧ (i.add ((a).toNat * 1)).spot = none ∧ y.heap[(i.add ((a).toNat * 1)).block]? = some (.cells z.toArray A (0, 0)) ∧ (i.add ((a).toNat * 1)).off + 1 ≤ z.length ∧ hasType A [⟨3, false, 25, [.slice l m n, .slice o b p]⟩, ⟨5, false, 48, [.int .i64 s, .int .i64 t, .int .i64 c]⟩] = false ∧ ∀ I, Wrote y I (i.add ((a).toNat * 1)).block A (setCells z (i.add ((a).toNat * 1)).off [(.int .i64 (x + c))]) → (Pure Tryz.prog 69 #[.agg #[.slice l m n, .slice o b p], .slice f g r] I fun M N => ∃ J K L, M = .slice J K L ∧ (R (.tuple #[.slice J K L, .int .i64 0]) N))))))))))))))))))) :
    garboardref47_Put.L11 e f g r a j d l m n o b p s t c B w R :=
  loop_of_run (garboardref47_Put.cx w B R) 100000 (loopAt Tryz.f26 11) _ _ follows Tryz.func26 rfl rfl rfl (Eq.mp (by kernel_rfl) h)
theorem garboardref47_Put.vc (d : Option Addr) (e f : Nat) (g : Option Addr) (b i : Nat) (m : Option Addr) (n o : Nat) (p q c : Int) (w : World) (R : Value → World → Prop)
    (h : (∀ s, Ext w.heap.size [] w s → (Pure Tryz.prog 18 #[.agg #[.slice d e f, .slice g b i], .slice m n o] s fun E t => ∃ r, E = .int .i64 r ∧ (((r ≠ 0) → (R (.tuple #[.slice none 0 0, .int .i64 1]) t)) ∧ (¬ (r ≠ 0) → (∀ u, Ext w.heap.size [] t u → (Pure Tryz.prog 55 #[.agg #[.slice d e f, .slice g b i], .int .i64 q] u fun G H => ∃ a, G = .int .i64 a ∧ (Pure Tryz.prog 56 #[.agg #[.slice d e f, .slice g b i], .int .i64 p] H fun I j => ∃ l, I = .int .i64 l ∧ (((a < 0) → (R (.tuple #[.slice none 0 0, .int .i64 7]) j)) ∧ (¬ (a < 0) → (((l < 0) → (R (.tuple #[.slice none 0 0, .int .i64 7]) j)) ∧ (¬ (l < 0) → (((c = 0) → (R (.tuple #[.slice none 0 0, .int .i64 2]) j)) ∧ (¬ (c = 0) → (((c < (-9 : Int)) → (R (.tuple #[.slice none 0 0, .int .i64 2]) j)) ∧ (¬ (c < (-9 : Int)) → (((c > 9) → (R (.tuple #[.slice none 0 0, .int .i64 2]) j)) ∧ (¬ (c > 9) → (Pure Tryz.prog 68 #[.agg #[.slice d e f, .slice g b i], .slice m n o] j fun J v => ∃ x y z, J = .slice x y z ∧ (inR .i64 (a * (b : Int)) ∧ (inR .i64 ((a * (b : Int)) + l) ∧ ((0 ≤ a ∧ a < e) ∧ ∃ A, d = some A ∧ (∃ C, CellsAt v ((A.add ((a).toNat * 7)).add 1) [.int .i64 C] ∧ (∀ D, Ext w.heap.size [] v D → (garboardref47_Put.L11 a x y z ((a * (b : Int)) + l) C (0 : Int) d e f g b i p q c w.heap.size D R))))))))))))))))))))))))) :
    Pure Tryz.prog 26 #[.agg #[.slice d e f, .slice g b i], .slice m n o, .agg #[.int .i64 p, .int .i64 q, .int .i64 c]] w R :=
  pure_of_run (garboardref47_Put.cx w w.heap.size R) 100000 follows Tryz.func26 rfl rfl rfl rfl rfl rfl rfl (Eq.mp (by kernel_rfl) h)

def garboardref47_Same.L4 (a : Option Addr) (b c : Nat) (d : Option Addr) (e f : Nat) (g : Int) (B : Nat) (w : World) (R : Value → World → Prop) : Prop := At Tryz.prog 27 26 (loopAt Tryz.f27 4) [(0, .v (.slice a b c)), (1, .v (.slice d e f)), (5, .v (.int .i64 g))] [] B w R
noncomputable def garboardref47_Same.cx (w : World) (B : Nat) (R : Value → World → Prop) : Cx := ⟨Tryz.prog, 27, 26, Tryz.f27.results.toList, [((true, 4), [0, 1, 5], [])], [], w, B, R⟩
theorem garboardref47_Same.L4.step (c : Option Addr) (b n : Nat) (d : Option Addr) (e o : Nat) (a : Int) (B : Nat) (w : World) (R : Value → World → Prop)
    (h : (((a < (b : Int)) → ((0 ≤ a ∧ a < b) ∧ ∃ p, c = some p ∧ (∃ f g i, CellsAt w (p.add ((a).toNat * 3)) [.int .i64 f, .int .i64 g, .int .i64 i] ∧ ((0 ≤ a ∧ a < e) ∧ ∃ q, d = some q ∧ (∃ j l m, CellsAt w (q.add ((a).toNat * 3)) [.int .i64 j, .int .i64 l, .int .i64 m] ∧ (((¬ (f = j ∧ g = l ∧ i = m ∧ True)) → (∀ r, Ext B [] w r → (R (.bool false) r))) ∧ (¬ (¬ (f = j ∧ g = l ∧ i = m ∧ True)) → (inR .i64 (a + 1) ∧ (∀ s, Ext B [] w s → (garboardref47_Same.L4 c b n d e o (a + 1) B s R)))))))))) ∧ (¬ (a < (b : Int)) → (R (.bool true) w)))) :
    garboardref47_Same.L4 c b n d e o a B w R :=
  loop_of_run (garboardref47_Same.cx w B R) 100000 (loopAt Tryz.f27 4) _ _ follows Tryz.func27 rfl rfl rfl (Eq.mp (by kernel_rfl) h)
theorem garboardref47_Same.vc (c : Option Addr) (a d : Nat) (e : Option Addr) (b f : Nat) (w : World) (R : Value → World → Prop)
    (h : ((((a : Int) ≠ (b : Int)) → (R (.bool false) w)) ∧ (¬ ((a : Int) ≠ (b : Int)) → (garboardref47_Same.L4 c a d e b f (0 : Int) w.heap.size w R)))) :
    Pure Tryz.prog 27 #[.slice c a d, .slice e b f] w R :=
  pure_of_run (garboardref47_Same.cx w w.heap.size R) 100000 follows Tryz.func27 rfl rfl rfl rfl rfl rfl rfl (Eq.mp (by kernel_rfl) h)

noncomputable def garboardref47_Amounts.cx (w : World) (B : Nat) (R : Value → World → Prop) : Cx := ⟨Tryz.prog, 29, 13, Tryz.f29.results.toList, [], [], w, B, R⟩
theorem garboardref47_Amounts.vc (a : Option Addr) (b c : Nat) (d : Option Addr) (e f : Nat) (g : Option Addr) (i j : Nat) (w : World) (R : Value → World → Prop)
    (h : (∀ m, Ext w.heap.size [] w m → (Pure Tryz.prog 18 #[.agg #[.slice a b c, .slice d e f], .slice g i j] m fun r n => ∃ l, r = .int .i64 l ∧ (((l ≠ 0) → (R (.tuple #[.slice none 0 0, .int .i64 1]) n)) ∧ (¬ (l ≠ 0) → (Pure Tryz.prog 68 #[.agg #[.slice a b c, .slice d e f], .slice g i j] n fun s t => ∃ o p q, s = .slice o p q ∧ (R (.tuple #[.slice o p q, .int .i64 0]) t))))))) :
    Pure Tryz.prog 29 #[.agg #[.slice a b c, .slice d e f], .slice g i j] w R :=
  pure_of_run (garboardref47_Amounts.cx w w.heap.size R) 100000 follows Tryz.func29 rfl rfl rfl rfl rfl rfl rfl (Eq.mp (by kernel_rfl) h)

def garboardref47_From.L6 (a : Option Addr) (b c : Nat) (d : Int) (e : Option Addr) (f g : Nat) (i : Option Addr) (j l B : Nat) (w : World) (R : Value → World → Prop) : Prop := At Tryz.prog 32 74 (loopAt Tryz.f32 6) [(1, .v (.slice a b c)), (2, .loc 2 0), (6, .v (.int .i64 d))] [⟨2, false, 25, [(.slice e f g), (.slice i j l)]⟩] B w R
def garboardref47_From.L11 (a : Option Addr) (b c : Nat) (d : Int) (e : Option Addr) (f g : Nat) (i : Option Addr) (j l B : Nat) (w : World) (R : Value → World → Prop) : Prop := At Tryz.prog 32 74 (loopAt Tryz.f32 11) [(1, .v (.slice a b c)), (2, .loc 2 0), (7, .v (.int .i64 d))] [⟨2, false, 25, [(.slice e f g), (.slice i j l)]⟩] B w R
def garboardref47_From.L15 (a : Option Addr) (b c : Nat) (d e f : Int) (g : Option Addr) (i j : Nat) (l : Option Addr) (m n B : Nat) (w : World) (R : Value → World → Prop) : Prop := At Tryz.prog 32 74 (loopAt Tryz.f32 15) [(1, .v (.slice a b c)), (2, .loc 2 0), (7, .v (.int .i64 d)), (8, .v (.int .i64 e)), (9, .v (.int .i64 f))] [⟨2, false, 25, [(.slice g i j), (.slice l m n)]⟩] B w R
noncomputable def garboardref47_From.cx (w : World) (B : Nat) (R : Value → World → Prop) : Cx := ⟨Tryz.prog, 32, 74, Tryz.f32.results.toList, [((true, 6), [1, 2, 6], [2]), ((true, 11), [1, 2, 7], [2]), ((true, 15), [1, 2, 7, 8, 9], [2])], [], w, B, R⟩
theorem garboardref47_From.L6.step (c : Option Addr) (b d : Nat) (a : Int) (e : Option Addr) (f g : Nat) (i : Option Addr) (j l B : Nat) (w : World) (R : Value → World → Prop)
    (h : (((a < (b : Int)) → ((0 ≤ a ∧ a < b) ∧ ∃ n, c = some n ∧ (∃ m, CellsAt w (n.add ((a).toNat * 1)) [.int .i64 m] ∧ (((m < 0) → (R (.tuple #[.slice none 0 0, .int .i64 2]) w)) ∧ (¬ (m < 0) → (inR .i64 (a + 1) ∧ (garboardref47_From.L6 c b d (a + 1) e f g i j l B w R))))))) ∧ (¬ (a < (b : Int)) → (garboardref47_From.L11 c b d (0 : Int) e f g i j l B w R)))) :
    garboardref47_From.L6 c b d a e f g i j l B w R :=
  loop_of_run (garboardref47_From.cx w B R) 100000 (loopAt Tryz.f32 6) _ _ follows Tryz.func32 rfl rfl rfl (Eq.mp (by kernel_rfl) h)
theorem garboardref47_From.L11.step (d : Option Addr) (e f : Nat) (a : Int) (c : Option Addr) (b g : Nat) (i : Option Addr) (j l B : Nat) (w : World) (R : Value → World → Prop)
    (h : (((a < (b : Int)) → ((0 ≤ a ∧ a < b) ∧ ∃ m, c = some m ∧ (∃ n, CellsAt w ((m.add ((a).toNat * 7)).add 1) [.int .i64 n] ∧ (garboardref47_From.L15 d e f a n (0 : Int) c b g i j l B w R)))) ∧ (¬ (a < (b : Int)) → (Pure Tryz.prog 69 #[.agg #[.slice c b g, .slice i j l], .slice d e f] w fun r s => ∃ o p q, r = .slice o p q ∧ (R (.tuple #[.slice o p q, .int .i64 0]) s))))) :
    garboardref47_From.L11 d e f a c b g i j l B w R :=
  loop_of_run (garboardref47_From.cx w B R) 100000 (loopAt Tryz.f32 11) _ _ follows Tryz.func32 rfl rfl rfl (Eq.mp (by kernel_rfl) h)
theorem garboardref47_From.L15.step (f : Option Addr) (g i : Nat) (b d c : Int) (j : Option Addr) (l m : Nat) (n : Option Addr) (a o B : Nat) (w : World) (R : Value → World → Prop)
    (h : (((c < (a : Int)) → (inR .i64 (b * (a : Int)) ∧ (inR .i64 ((b * (a : Int)) + c) ∧ ((0 ≤ ((b * (a : Int)) + c) ∧ ((b * (a : Int)) + c) < g) ∧ ∃ p, f = some p ∧ (∃ e, CellsAt w (p.add ((((b * (a : Int)) + c)).toNat * 1)) [.int .i64 e] ∧ (((e > d) → (R (.tuple #[.slice none 0 0, .int .i64 12]) w)) ∧ (¬ (e > d) → (inR .i64 (d - e) ∧ (inR .i64 (c + 1) ∧ (garboardref47_From.L15 f g i b (d - e) (c + 1) j l m n a o B w R)))))))))) ∧ (¬ (c < (a : Int)) → (inR .i64 (b + 1) ∧ (garboardref47_From.L11 f g i (b + 1) j l m n a o B w R))))) :
    garboardref47_From.L15 f g i b d c j l m n a o B w R :=
  loop_of_run (garboardref47_From.cx w B R) 100000 (loopAt Tryz.f32 15) _ _ follows Tryz.func32 rfl rfl rfl (Eq.mp (by kernel_rfl) h)
theorem garboardref47_From.vc (d : Option Addr) (a e : Nat) (f : Option Addr) (b g : Nat) (l : Option Addr) (c m : Nat) (w : World) (R : Value → World → Prop)
    (h : (∀ n, Ext w.heap.size [] w n → (Pure Tryz.prog 15 #[.agg #[.slice d a e, .slice f b g]] n fun o i => ∃ j, o = .int .i64 j ∧ (((j ≠ 0) → (R (.tuple #[.slice none 0 0, .int .i64 1]) i)) ∧ (¬ (j ≠ 0) → (inR .i64 ((a : Int) * (b : Int)) ∧ ((((c : Int) ≠ ((a : Int) * (b : Int))) → (R (.tuple #[.slice none 0 0, .int .i64 10]) i)) ∧ (¬ ((c : Int) ≠ ((a : Int) * (b : Int))) → (garboardref47_From.L6 l c m (0 : Int) d a e f b g w.heap.size i R))))))))) :
    Pure Tryz.prog 32 #[.agg #[.slice d a e, .slice f b g], .slice l c m] w R :=
  pure_of_run (garboardref47_From.cx w w.heap.size R) 100000 follows Tryz.func32 rfl rfl rfl rfl rfl rfl rfl (Eq.mp (by kernel_rfl) h)

def garboardref47_numbers.L2 (a : Int) (b : Option Addr) (c d : Nat) (e : Option Addr) (f g B : Nat) (w : World) (R : Value → World → Prop) : Prop := At Tryz.prog 46 78 (loopAt Tryz.f46 2) [(1, .loc 1 0), (3, .v (.int .i64 a))] [⟨1, false, 25, [(.slice b c d), (.slice e f g)]⟩] B w R
def garboardref47_numbers.L8 (a : Int) (b : Option Addr) (c d : Nat) (e : Option Addr) (f g B : Nat) (w : World) (R : Value → World → Prop) : Prop := At Tryz.prog 46 78 (loopAt Tryz.f46 8) [(1, .loc 1 0), (5, .v (.int .i64 a))] [⟨1, false, 25, [(.slice b c d), (.slice e f g)]⟩] B w R
noncomputable def garboardref47_numbers.cx (w : World) (B : Nat) (R : Value → World → Prop) : Cx := ⟨Tryz.prog, 46, 78, Tryz.f46.results.toList, [((true, 2), [1, 3], [1]), ((true, 8), [1, 5], [1])], [], w, B, R⟩
theorem garboardref47_numbers.L2.step (a : Int) (c : Option Addr) (b d : Nat) (e : Option Addr) (f g B : Nat) (w : World) (R : Value → World → Prop)
    (h : (((a < (b : Int)) → ((0 ≤ a ∧ a < b) ∧ ∃ m, c = some m ∧ (∃ u v x y n o p, CellsAt w (m.add ((a).toNat * 7)) [.int .i64 u, .int .i64 v, .int .i64 x, .string y, .string n, .string o, .string p] ∧ (∀ q, Ext B [] w q → (Pure Tryz.prog 91 #[.string n] q fun z r => ∃ i, z = .bool i ∧ (((i = false) → (R (.bool false) r)) ∧ (¬ (i = false) → (Pure Tryz.prog 91 #[.string o] r fun A s => ∃ j, A = .bool j ∧ (((j = false) → (R (.bool false) s)) ∧ (¬ (j = false) → (Pure Tryz.prog 91 #[.string p] s fun C t => ∃ l, C = .bool l ∧ (((l = false) → (R (.bool false) t)) ∧ (¬ (l = false) → (inR .i64 (a + 1) ∧ (garboardref47_numbers.L2 (a + 1) c b d e f g B t R))))))))))))))) ∧ (¬ (a < (b : Int)) → (garboardref47_numbers.L8 (0 : Int) c b d e f g B w R)))) :
    garboardref47_numbers.L2 a c b d e f g B w R :=
  loop_of_run (garboardref47_numbers.cx w B R) 100000 (loopAt Tryz.f46 2) _ _ follows Tryz.func46 rfl rfl rfl (Eq.mp (by kernel_rfl) h)
theorem garboardref47_numbers.L8.step (a : Int) (j : Option Addr) (l m : Nat) (c : Option Addr) (b n B : Nat) (w : World) (R : Value → World → Prop)
    (h : (((a < (b : Int)) → ((0 ≤ a ∧ a < b) ∧ ∃ o, c = some o ∧ (∃ C D p q r s t, CellsAt w (o.add ((a).toNat * 7)) [.int .i64 C, .string D, .string p, .string q, .string r, .string s, .string t] ∧ (∀ u, Ext B [] w u → (Pure Tryz.prog 91 #[.string p] u fun E v => ∃ d, E = .bool d ∧ (((d = false) → (R (.bool false) v)) ∧ (¬ (d = false) → (Pure Tryz.prog 91 #[.string q] v fun G x => ∃ e, G = .bool e ∧ (((e = false) → (R (.bool false) x)) ∧ (¬ (e = false) → (Pure Tryz.prog 91 #[.string r] x fun H y => ∃ f, H = .bool f ∧ (((f = false) → (R (.bool false) y)) ∧ (¬ (f = false) → (Pure Tryz.prog 91 #[.string s] y fun I z => ∃ g, I = .bool g ∧ (((g = false) → (R (.bool false) z)) ∧ (¬ (g = false) → (Pure Tryz.prog 91 #[.string t] z fun J A => ∃ i, J = .bool i ∧ (((i = false) → (R (.bool false) A)) ∧ (¬ (i = false) → (inR .i64 (a + 1) ∧ (garboardref47_numbers.L8 (a + 1) j l m c b n B A R))))))))))))))))))))) ∧ (¬ (a < (b : Int)) → (R (.bool true) w)))) :
    garboardref47_numbers.L8 a j l m c b n B w R :=
  loop_of_run (garboardref47_numbers.cx w B R) 100000 (loopAt Tryz.f46 8) _ _ follows Tryz.func46 rfl rfl rfl (Eq.mp (by kernel_rfl) h)
theorem garboardref47_numbers.vc (a : Option Addr) (b c : Nat) (d : Option Addr) (e f : Nat) (w : World) (R : Value → World → Prop)
    (h : (∀ g, Ext w.heap.size [] w g → (garboardref47_numbers.L2 (0 : Int) a b c d e f w.heap.size g R))) :
    Pure Tryz.prog 46 #[.agg #[.slice a b c, .slice d e f]] w R :=
  pure_of_run (garboardref47_numbers.cx w w.heap.size R) 100000 follows Tryz.func46 rfl rfl rfl rfl rfl rfl rfl (Eq.mp (by kernel_rfl) h)

noncomputable def garboardref47_isID.cx (w : World) (B : Nat) (R : Value → World → Prop) : Cx := ⟨Tryz.prog, 47, 9, Tryz.f47.results.toList, [], [], w, B, R⟩
theorem garboardref47_isID.vc (a : Int) (w : World) (R : Value → World → Prop)
    (h : (((a ≥ (1 : Int)) → (R (.bool (decide (a ≤ (1073741824 : Int)))) w)) ∧ (¬ (a ≥ (1 : Int)) → (R (.bool false) w)))) :
    Pure Tryz.prog 47 #[.int .i64 a] w R :=
  pure_of_run (garboardref47_isID.cx w w.heap.size R) 100000 follows Tryz.func47 rfl rfl rfl rfl rfl rfl rfl (Eq.mp (by kernel_rfl) h)

noncomputable def garboardref47_Num.cx (w : World) (B : Nat) (R : Value → World → Prop) : Cx := ⟨Tryz.prog, 49, 11, Tryz.f49.results.toList, [], [], w, B, R⟩
theorem garboardref47_Num.vc (a : ByteArray) (w : World) (R : Value → World → Prop)
    (h : (∀ b, Ext w.heap.size [] w b → (Pure Tryz.prog 37 #[.string a] b fun m n => ∃ c d e f g i j o, m = .tuple #[.agg #[.bool c, .slice d e f, .slice g i j], .bool o] ∧ (∀ l, Ext w.heap.size [73] n l → (R (.agg #[.bool c, .slice d e f, .slice g i j]) l))))) :
    Pure Tryz.prog 49 #[.string a] w R :=
  pure_of_run (garboardref47_Num.cx w w.heap.size R) 100000 follows Tryz.func49 rfl rfl rfl rfl rfl rfl rfl (Eq.mp (by kernel_rfl) h)

noncomputable def garboardref47_named.cx (w : World) (B : Nat) (R : Value → World → Prop) : Cx := ⟨Tryz.prog, 50, 11, Tryz.f50.results.toList, [], [], w, B, R⟩
theorem garboardref47_named.vc (a : ByteArray) (w : World) (R : Value → World → Prop)
    (h : (((((ByteArray.size a : Int) : Int) ≥ (1 : Int)) → (R (.bool (decide (((ByteArray.size a : Int) : Int) ≤ (64 : Int)))) w)) ∧ (¬ (((ByteArray.size a : Int) : Int) ≥ (1 : Int)) → (R (.bool false) w)))) :
    Pure Tryz.prog 50 #[.string a] w R :=
  pure_of_run (garboardref47_named.cx w w.heap.size R) 100000 follows Tryz.func50 rfl rfl rfl rfl rfl rfl rfl (Eq.mp (by kernel_rfl) h)

def garboardref47_Parcel.L2 (a b : Int) (c : Option Addr) (d e : Nat) (f : Option Addr) (g i B : Nat) (w : World) (R : Value → World → Prop) : Prop := At Tryz.prog 55 22 (loopAt Tryz.f55 2) [(1, .v (.int .i64 a)), (2, .loc 2 0), (5, .v (.int .i64 b))] [⟨2, false, 25, [(.slice c d e), (.slice f g i)]⟩] B w R
noncomputable def garboardref47_Parcel.cx (w : World) (B : Nat) (R : Value → World → Prop) : Cx := ⟨Tryz.prog, 55, 22, Tryz.f55.results.toList, [((true, 2), [1, 2, 5], [2])], [], w, B, R⟩
theorem garboardref47_Parcel.L2.step (c a : Int) (d : Option Addr) (b f : Nat) (g : Option Addr) (i j B : Nat) (w : World) (R : Value → World → Prop)
    (h : (((a < (b : Int)) → ((0 ≤ a ∧ a < b) ∧ ∃ l, d = some l ∧ (∃ e, CellsAt w ((l.add ((a).toNat * 7)).add 0) [.int .i64 e] ∧ (((e = c) → (R (.int .i64 a) w)) ∧ (¬ (e = c) → (inR .i64 (a + 1) ∧ (garboardref47_Parcel.L2 c (a + 1) d b f g i j B w R))))))) ∧ (¬ (a < (b : Int)) → (R (.int .i64 (-1 : Int)) w)))) :
    garboardref47_Parcel.L2 c a d b f g i j B w R :=
  loop_of_run (garboardref47_Parcel.cx w B R) 100000 (loopAt Tryz.f55 2) _ _ follows Tryz.func55 rfl rfl rfl (Eq.mp (by kernel_rfl) h)
theorem garboardref47_Parcel.vc (a : Option Addr) (b c : Nat) (d : Option Addr) (e f : Nat) (g : Int) (w : World) (R : Value → World → Prop)
    (h : (∀ i, Ext w.heap.size [] w i → (garboardref47_Parcel.L2 g (0 : Int) a b c d e f w.heap.size i R))) :
    Pure Tryz.prog 55 #[.agg #[.slice a b c, .slice d e f], .int .i64 g] w R :=
  pure_of_run (garboardref47_Parcel.cx w w.heap.size R) 100000 follows Tryz.func55 rfl rfl rfl rfl rfl rfl rfl (Eq.mp (by kernel_rfl) h)

def garboardref47_Hold.L2 (a b : Int) (c : Option Addr) (d e : Nat) (f : Option Addr) (g i B : Nat) (w : World) (R : Value → World → Prop) : Prop := At Tryz.prog 56 22 (loopAt Tryz.f56 2) [(1, .v (.int .i64 a)), (2, .loc 2 0), (5, .v (.int .i64 b))] [⟨2, false, 25, [(.slice c d e), (.slice f g i)]⟩] B w R
noncomputable def garboardref47_Hold.cx (w : World) (B : Nat) (R : Value → World → Prop) : Cx := ⟨Tryz.prog, 56, 22, Tryz.f56.results.toList, [((true, 2), [1, 2, 5], [2])], [], w, B, R⟩
theorem garboardref47_Hold.L2.step (c a : Int) (f : Option Addr) (g i : Nat) (d : Option Addr) (b j B : Nat) (w : World) (R : Value → World → Prop)
    (h : (((a < (b : Int)) → ((0 ≤ a ∧ a < b) ∧ ∃ l, d = some l ∧ (∃ e, CellsAt w ((l.add ((a).toNat * 7)).add 0) [.int .i64 e] ∧ (((e = c) → (R (.int .i64 a) w)) ∧ (¬ (e = c) → (inR .i64 (a + 1) ∧ (garboardref47_Hold.L2 c (a + 1) f g i d b j B w R))))))) ∧ (¬ (a < (b : Int)) → (R (.int .i64 (-1 : Int)) w)))) :
    garboardref47_Hold.L2 c a f g i d b j B w R :=
  loop_of_run (garboardref47_Hold.cx w B R) 100000 (loopAt Tryz.f56 2) _ _ follows Tryz.func56 rfl rfl rfl (Eq.mp (by kernel_rfl) h)
theorem garboardref47_Hold.vc (a : Option Addr) (b c : Nat) (d : Option Addr) (e f : Nat) (g : Int) (w : World) (R : Value → World → Prop)
    (h : (∀ i, Ext w.heap.size [] w i → (garboardref47_Hold.L2 g (0 : Int) a b c d e f w.heap.size i R))) :
    Pure Tryz.prog 56 #[.agg #[.slice a b c, .slice d e f], .int .i64 g] w R :=
  pure_of_run (garboardref47_Hold.cx w w.heap.size R) 100000 follows Tryz.func56 rfl rfl rfl rfl rfl rfl rfl (Eq.mp (by kernel_rfl) h)

noncomputable def garboardref47_before.cx (w : World) (B : Nat) (R : Value → World → Prop) : Cx := ⟨Tryz.prog, 57, 24, Tryz.f57.results.toList, [], [], w, B, R⟩
theorem garboardref47_before.vc (a c i b d j : Int) (w : World) (R : Value → World → Prop)
    (h : (((a < b) → (∀ e, Ext w.heap.size [] w e → (R (.bool true) e))) ∧ (¬ (a < b) → (((a = b) → (∀ f, Ext w.heap.size [] w f → (R (.bool (decide (c < d))) f))) ∧ (¬ (a = b) → (∀ g, Ext w.heap.size [] w g → (R (.bool false) g))))))) :
    Pure Tryz.prog 57 #[.agg #[.int .i64 a, .int .i64 c, .int .i64 i], .agg #[.int .i64 b, .int .i64 d, .int .i64 j]] w R :=
  pure_of_run (garboardref47_before.cx w w.heap.size R) 100000 follows Tryz.func57 rfl rfl rfl rfl rfl rfl rfl (Eq.mp (by kernel_rfl) h)

def garboardref47_amounts.L3 (a : Option Addr) (b c : Nat) (d : Option Addr) (e f : Nat) (g : Int) (i : Option Addr) (j l : Nat) (m : Option Addr) (n o B : Nat) (w : World) (R : Value → World → Prop) : Prop := At Tryz.prog 68 66 (loopAt Tryz.f68 3) [(1, .v (.slice a b c)), (2, .loc 2 0), (5, .v (.slice d e f)), (6, .v (.int .i64 g))] [⟨2, false, 25, [(.slice i j l), (.slice m n o)]⟩] B w R
def garboardref47_amounts.L6 (a : Option Addr) (b c : Nat) (d : Option Addr) (e f : Nat) (g i : Int) (j : Option Addr) (l m : Nat) (n : Option Addr) (o p B : Nat) (w : World) (R : Value → World → Prop) : Prop := At Tryz.prog 68 66 (loopAt Tryz.f68 6) [(1, .v (.slice a b c)), (2, .loc 2 0), (5, .v (.slice d e f)), (6, .v (.int .i64 g)), (7, .v (.int .i64 i))] [⟨2, false, 25, [(.slice j l m), (.slice n o p)]⟩] B w R
def garboardref47_amounts.L10 (a : Option Addr) (b c : Nat) (d : Option Addr) (e f : Nat) (g i j l : Int) (m : Option Addr) (n o : Nat) (p : Option Addr) (q r B : Nat) (w : World) (R : Value → World → Prop) : Prop := At Tryz.prog 68 66 (loopAt Tryz.f68 10) [(1, .v (.slice a b c)), (2, .loc 2 0), (5, .v (.slice d e f)), (6, .v (.int .i64 g)), (7, .v (.int .i64 i)), (8, .v (.int .i64 j)), (9, .v (.int .i64 l))] [⟨2, false, 25, [(.slice m n o), (.slice p q r)]⟩] B w R
noncomputable def garboardref47_amounts.cx (w : World) (B : Nat) (R : Value → World → Prop) : Cx := ⟨Tryz.prog, 68, 66, Tryz.f68.results.toList, [((true, 3), [1, 2, 5, 6], [2]), ((true, 6), [1, 2, 5, 6, 7], [2]), ((true, 10), [1, 2, 5, 6, 7, 8, 9], [2])], [(14, 2, 2), (14, 3, 2)], w, B, R⟩
theorem garboardref47_amounts.L3.step (f : Option Addr) (g i : Nat) (c : Option Addr) (d e : Nat) (a : Int) (j : Option Addr) (b l : Nat) (m : Option Addr) (n o B : Nat) (w : World) (R : Value → World → Prop)
    (h : (((a < (b : Int)) → (garboardref47_amounts.L6 f g i c d e a (0 : Int) j b l m n o B w R)) ∧ (¬ (a < (b : Int)) → (R (.slice c d e) w)))) :
    garboardref47_amounts.L3 f g i c d e a j b l m n o B w R :=
  loop_of_run (garboardref47_amounts.cx w B R) 100000 (loopAt Tryz.f68 3) _ _ follows Tryz.func68 rfl rfl rfl (Eq.mp (by kernel_rfl) h)
theorem garboardref47_amounts.L6.step (d : Option Addr) (e f : Nat) (g : Option Addr) (i j : Nat) (b c : Int) (l : Option Addr) (m n : Nat) (o : Option Addr) (a p B : Nat) (w : World) (R : Value → World → Prop)
    (h : (((c < (a : Int)) → (garboardref47_amounts.L10 d e f g i j b c (0 : Int) (0 : Int) l m n o a p B w R)) ∧ (¬ (c < (a : Int)) → (inR .i64 (b + 1) ∧ (garboardref47_amounts.L3 d e f g i j (b + 1) l m n o a p B w R))))) :
    garboardref47_amounts.L6 d e f g i j b c l m n o a p B w R :=
  loop_of_run (garboardref47_amounts.cx w B R) 100000 (loopAt Tryz.f68 6) _ _ follows Tryz.func68 rfl rfl rfl (Eq.mp (by kernel_rfl) h)
theorem garboardref47_amounts.L10.step (d : Option Addr) (b l : Nat) (m : Option Addr) (n o : Nat) (e c r a : Int) (f : Option Addr) (g p : Nat) (i : Option Addr) (j q B : Nat) (w : World) (R : Value → World → Prop)
    (h : (((a < (b : Int)) → ((0 ≤ a ∧ a < b) ∧ ∃ y, d = some y ∧ (∃ s, CellsAt w ((y.add ((a).toNat * 3)).add 1) [.int .i64 s] ∧ ((0 ≤ e ∧ e < g) ∧ ∃ z, f = some z ∧ (∃ t, CellsAt w ((z.add ((e).toNat * 7)).add 0) [.int .i64 t] ∧ (((s = t) → ((0 ≤ a ∧ a < b) ∧ ∃ A, d = some A ∧ (∃ u, CellsAt w ((A.add ((a).toNat * 3)).add 0) [.int .i64 u] ∧ ((0 ≤ c ∧ c < j) ∧ ∃ C, i = some C ∧ (∃ v, CellsAt w ((C.add ((c).toNat * 7)).add 0) [.int .i64 v] ∧ (((u = v) → ((0 ≤ a ∧ a < b) ∧ ∃ D, d = some D ∧ (∀ x, Ext B [] w x → (∃ E, CellsAt x ((D.add ((a).toNat * 3)).add 2) [.int .i64 E] ∧ (inR .i64 (a + 1) ∧ (garboardref47_amounts.L10 d b l m n o e c E (a + 1) f g p i j q B x R)))))) ∧ (¬ (u = v) → (inR .i64 (a + 1) ∧ (∀ G, Ext B [] w G → (garboardref47_amounts.L10 d b l m n o e c r (a + 1) f g p i j q B G R)))))))))) ∧ (¬ (s = t) → (inR .i64 (a + 1) ∧ (∀ H, Ext B [] w H → (garboardref47_amounts.L10 d b l m n o e c r (a + 1) f g p i j q B H R)))))))))) ∧ (¬ (a < (b : Int)) → (RunOk Tryz.prog (Instr.buildSlice 53 1 #[(0, (.int .i64 r))]) B [25] w fun O Q => ∃ I J K, O = .slice I J K ∧ (RunOk Tryz.prog (Builtin.append_ #[53, 53] 53 #[.slice m n o, .slice I J K]) B [25] Q fun S T => ∃ L M N, S = .slice L M N ∧ (inR .i64 (c + 1) ∧ (garboardref47_amounts.L6 d b l L M N e (c + 1) f g p i j q B T R))))))) :
    garboardref47_amounts.L10 d b l m n o e c r a f g p i j q B w R :=
  loop_of_run (garboardref47_amounts.cx w B R) 100000 (loopAt Tryz.f68 10) _ _ follows Tryz.func68 rfl rfl rfl (Eq.mp (by kernel_rfl) h)
theorem garboardref47_amounts.vc (a : Option Addr) (b c : Nat) (d : Option Addr) (e f : Nat) (g : Option Addr) (i j : Nat) (w : World) (R : Value → World → Prop)
    (h : (∀ l, Ext w.heap.size [] w l → (garboardref47_amounts.L3 g i j none 0 0 (0 : Int) a b c d e f w.heap.size l R))) :
    Pure Tryz.prog 68 #[.agg #[.slice a b c, .slice d e f], .slice g i j] w R :=
  pure_of_run (garboardref47_amounts.cx w w.heap.size R) 100000 follows Tryz.func68 rfl rfl rfl rfl rfl rfl rfl (Eq.mp (by kernel_rfl) h)

def garboardref47_stows.L3 (a : Option Addr) (b c : Nat) (d : Option Addr) (e f : Nat) (g : Int) (i : Option Addr) (j l : Nat) (m : Option Addr) (n o B : Nat) (w : World) (R : Value → World → Prop) : Prop := At Tryz.prog 69 53 (loopAt Tryz.f69 3) [(1, .v (.slice a b c)), (2, .loc 2 0), (5, .v (.slice d e f)), (6, .v (.int .i64 g))] [⟨2, false, 25, [(.slice i j l), (.slice m n o)]⟩] B w R
def garboardref47_stows.L6 (a : Option Addr) (b c : Nat) (d : Option Addr) (e f : Nat) (g i : Int) (j : Option Addr) (l m : Nat) (n : Option Addr) (o p B : Nat) (w : World) (R : Value → World → Prop) : Prop := At Tryz.prog 69 53 (loopAt Tryz.f69 6) [(1, .v (.slice a b c)), (2, .loc 2 0), (5, .v (.slice d e f)), (6, .v (.int .i64 g)), (7, .v (.int .i64 i))] [⟨2, false, 25, [(.slice j l m), (.slice n o p)]⟩] B w R
noncomputable def garboardref47_stows.cx (w : World) (B : Nat) (R : Value → World → Prop) : Cx := ⟨Tryz.prog, 69, 53, Tryz.f69.results.toList, [((true, 3), [1, 2, 5, 6], [2]), ((true, 6), [1, 2, 5, 6, 7], [2])], [(10, 15, 2), (10, 16, 2)], w, B, R⟩
theorem garboardref47_stows.L3.step (f : Option Addr) (g i : Nat) (c : Option Addr) (d e : Nat) (a : Int) (j : Option Addr) (l m : Nat) (n : Option Addr) (b o B : Nat) (w : World) (R : Value → World → Prop)
    (h : (((a < (b : Int)) → (garboardref47_stows.L6 f g i c d e a (0 : Int) j l m n b o B w R)) ∧ (¬ (a < (b : Int)) → (R (.slice c d e) w)))) :
    garboardref47_stows.L3 f g i c d e a j l m n b o B w R :=
  loop_of_run (garboardref47_stows.cx w B R) 100000 (loopAt Tryz.f69 3) _ _ follows Tryz.func69 rfl rfl rfl (Eq.mp (by kernel_rfl) h)
theorem garboardref47_stows.L6.step (e : Option Addr) (f j : Nat) (l : Option Addr) (m n : Nat) (b a : Int) (g : Option Addr) (d o : Nat) (i : Option Addr) (c p B : Nat) (w : World) (R : Value → World → Prop)
    (h : (((a < (d : Int)) → (inR .i64 (a * (c : Int)) ∧ (inR .i64 ((a * (c : Int)) + b) ∧ ((0 ≤ ((a * (c : Int)) + b) ∧ ((a * (c : Int)) + b) < f) ∧ ∃ r, e = some r ∧ (∃ q, CellsAt w (r.add ((((a * (c : Int)) + b)).toNat * 1)) [.int .i64 q] ∧ (((q > 0) → ((0 ≤ b ∧ b < c) ∧ ∃ s, i = some s ∧ (∃ t, CellsAt w ((s.add ((b).toNat * 7)).add 0) [.int .i64 t] ∧ ((0 ≤ a ∧ a < d) ∧ ∃ u, g = some u ∧ (∃ v, CellsAt w ((u.add ((a).toNat * 7)).add 0) [.int .i64 v] ∧ (∀ x, Ext B [] w x → (RunOk Tryz.prog (Instr.buildSlice 26 1 #[(0, (.agg #[.int .i64 t, .int .i64 v, .int .i64 q]))]) B [25] x fun G H => ∃ y z A, G = .slice y z A ∧ (RunOk Tryz.prog (Builtin.append_ #[26, 26] 26 #[.slice l m n, .slice y z A]) B [25] H fun I J => ∃ C D E, I = .slice C D E ∧ (inR .i64 (a + 1) ∧ (garboardref47_stows.L6 e f j C D E b (a + 1) g d o i c p B J R)))))))))) ∧ (¬ (q > 0) → (inR .i64 (a + 1) ∧ (garboardref47_stows.L6 e f j l m n b (a + 1) g d o i c p B w R))))))))) ∧ (¬ (a < (d : Int)) → (inR .i64 (b + 1) ∧ (garboardref47_stows.L3 e f j l m n (b + 1) g d o i c p B w R))))) :
    garboardref47_stows.L6 e f j l m n b a g d o i c p B w R :=
  loop_of_run (garboardref47_stows.cx w B R) 100000 (loopAt Tryz.f69 6) _ _ follows Tryz.func69 rfl rfl rfl (Eq.mp (by kernel_rfl) h)
theorem garboardref47_stows.vc (a : Option Addr) (b c : Nat) (d : Option Addr) (e f : Nat) (g : Option Addr) (i j : Nat) (w : World) (R : Value → World → Prop)
    (h : (∀ l, Ext w.heap.size [] w l → (garboardref47_stows.L3 g i j none 0 0 (0 : Int) a b c d e f w.heap.size l R))) :
    Pure Tryz.prog 69 #[.agg #[.slice a b c, .slice d e f], .slice g i j] w R :=
  pure_of_run (garboardref47_stows.cx w w.heap.size R) 100000 follows Tryz.func69 rfl rfl rfl rfl rfl rfl rfl (Eq.mp (by kernel_rfl) h)

end Go.Proofs.YtdnelnicnjplpaaGreatDoor.F

set_option maxRecDepth 100000
set_option maxHeartbeats 4000000
namespace Go.Proofs.YtdnelnicnjplpaaGreatDoor.F
open Go Go.RowKit Go.Proofs Go.Proofs.YtdnelnicnjplpaaGreatDoor.Vc
def garboardref01_Valid.L2 (a : ByteArray) (b : Int) (B : Nat) (w : World) (R : Value → World → Prop) : Prop := At Tryz.prog 75 33 (loopAt Tryz.f75 2) [(0, .v (.string a)), (3, .v (.int .i64 b))] [] B w R
noncomputable def garboardref01_Valid.cx (w : World) (B : Nat) (R : Value → World → Prop) : Cx := ⟨Tryz.prog, 75, 33, Tryz.f75.results.toList, [((true, 2), [0, 3], [])], [], w, B, R⟩
theorem garboardref01_Valid.L2.step (a : ByteArray) (b : Int) (B : Nat) (w : World) (R : Value → World → Prop)
    (h : (((b < (ByteArray.size a : Int)) → ((0 ≤ b ∧ b < (ByteArray.size a : Int)) ∧ (((((bt a b) : Int) < 48) → (R (.bool false) w)) ∧ (¬ (((bt a b) : Int) < 48) → ((0 ≤ b ∧ b < (ByteArray.size a : Int)) ∧ (((((bt a b) : Int) > 57) → (R (.bool false) w)) ∧ (¬ (((bt a b) : Int) > 57) → (inR .i64 (b + 1) ∧ (garboardref01_Valid.L2 a (b + 1) B w R))))))))) ∧ (¬ (b < (ByteArray.size a : Int)) → (((((ByteArray.size a : Int) : Int) = 1) → (R (.bool true) w)) ∧ (¬ (((ByteArray.size a : Int) : Int) = 1) → (((((ByteArray.size a : Int) : Int) > 1) → ((0 ≤ (0 : Int) ∧ (0 : Int) < (ByteArray.size a : Int)) ∧ (R (.bool (decide (((bt a (0 : Int)) : Int) ≠ 48))) w))) ∧ (¬ (((ByteArray.size a : Int) : Int) > 1) → (R (.bool false) w)))))))) :
    garboardref01_Valid.L2 a b B w R :=
  loop_of_run (garboardref01_Valid.cx w B R) 100000 (loopAt Tryz.f75 2) _ _ follows Tryz.func75 rfl rfl rfl (Eq.mp (by kernel_rfl) h)
theorem garboardref01_Valid.vc (a : ByteArray) (w : World) (R : Value → World → Prop)
    (h : (garboardref01_Valid.L2 a (0 : Int) w.heap.size w R)) :
    Pure Tryz.prog 75 #[.string a] w R :=
  pure_of_run (garboardref01_Valid.cx w w.heap.size R) 100000 follows Tryz.func75 rfl rfl rfl rfl rfl rfl rfl (Eq.mp (by kernel_rfl) h)

def garboardref01_From.L3 (a : ByteArray) (b : Option Addr) (c d : Nat) (e : Int) (B : Nat) (w : World) (R : Value → World → Prop) : Prop := At Tryz.prog 77 35 (loopAt Tryz.f77 3) [(0, .v (.string a)), (3, .v (.slice b c d)), (4, .v (.int .i64 e))] [] B w R
def garboardref01_From.L7 (a : ByteArray) (b : Option Addr) (c d : Nat) (e f g : Int) (B : Nat) (w : World) (R : Value → World → Prop) : Prop := At Tryz.prog 77 35 (loopAt Tryz.f77 7) [(0, .v (.string a)), (3, .v (.slice b c d)), (4, .v (.int .i64 e)), (5, .v (.int .u32 f)), (6, .v (.int .i64 g))] [] B w R
noncomputable def garboardref01_From.cx (w : World) (B : Nat) (R : Value → World → Prop) : Cx := ⟨Tryz.prog, 77, 35, Tryz.f77.results.toList, [((true, 3), [0, 3, 4], []), ((true, 7), [0, 3, 4, 5, 6], [])], [(10, 2, 2), (10, 3, 2)], w, B, R⟩
theorem garboardref01_From.L3.step (e : ByteArray) (b : Option Addr) (c d : Nat) (a : Int) (B : Nat) (w : World) (R : Value → World → Prop)
    (h : (((a > 0) → (inR .i64 (a - (9 : Int)) ∧ (garboardref01_From.L7 e b c d a (0 : Int) (if (a - (9 : Int)) > (0 : Int) then (a - (9 : Int)) else (0 : Int)) B w R))) ∧ (¬ (a > 0) → (Pure Tryz.prog 110 #[.slice b c d] w fun j l => ∃ f g i, j = .slice f g i ∧ (R (.slice f g i) l))))) :
    garboardref01_From.L3 e b c d a B w R :=
  loop_of_run (garboardref01_From.cx w B R) 100000 (loopAt Tryz.f77 3) _ _ follows Tryz.func77 rfl rfl rfl (Eq.mp (by kernel_rfl) h)
theorem garboardref01_From.L7.step (b : ByteArray) (e : Option Addr) (f g : Nat) (c d a : Int) (B : Nat) (w : World) (R : Value → World → Prop)
    (h : (((a < c) → (inR .u32 ((10 : Int) * d) ∧ ((0 ≤ a ∧ a < (ByteArray.size b : Int)) ∧ (inR .u8 ((bt b a) - (48 : Int)) ∧ (inR .u32 (((bt b a) - (48 : Int))) ∧ (inR .u32 (((10 : Int) * d) + (((bt b a) - (48 : Int)))) ∧ (inR .i64 (a + 1) ∧ (garboardref01_From.L7 b e f g c (((10 : Int) * d) + (((bt b a) - (48 : Int)))) (a + 1) B w R)))))))) ∧ (¬ (a < c) → (RunOk Tryz.prog (Instr.buildSlice 69 1 #[(0, (.int .u32 d))]) B [] w fun p q => ∃ i j l, p = .slice i j l ∧ (RunOk Tryz.prog (Builtin.append_ #[69, 69] 69 #[.slice e f g, .slice i j l]) B [] q fun r s => ∃ m n o, r = .slice m n o ∧ (inR .i64 (c - (9 : Int)) ∧ (garboardref01_From.L3 b m n o (c - (9 : Int)) B s R))))))) :
    garboardref01_From.L7 b e f g c d a B w R :=
  loop_of_run (garboardref01_From.cx w B R) 100000 (loopAt Tryz.f77 7) _ _ follows Tryz.func77 rfl rfl rfl (Eq.mp (by kernel_rfl) h)
theorem garboardref01_From.vc (a : ByteArray) (w : World) (R : Value → World → Prop)
    (h : (garboardref01_From.L3 a none 0 0 (ByteArray.size a : Int) w.heap.size w R)) :
    Pure Tryz.prog 77 #[.string a] w R :=
  pure_of_run (garboardref01_From.cx w w.heap.size R) 100000 follows Tryz.func77 rfl rfl rfl rfl rfl rfl rfl (Eq.mp (by kernel_rfl) h)

noncomputable def garboardref01_Small.cx (w : World) (B : Nat) (R : Value → World → Prop) : Cx := ⟨Tryz.prog, 78, 9, Tryz.f78.results.toList, [], [(1, 4, 2)], w, B, R⟩
theorem garboardref01_Small.vc (ip0 : Int) (w : World) (R : Value → World → Prop)
    (h : ((0 ≤ ip0 ∧ 0 < (1000000000 : Int)) ∧ ((0 ≤ ip0 ∧ 0 < (1000000000 : Int) ∧ inR .u32 ip0) ∧ (RunOk Tryz.prog (Instr.buildSlice 69 2 #[(0, (.int .u32 (ip0 % (1000000000 : Int)))), (1, (.int .u32 (ip0 / (1000000000 : Int))))]) w.heap.size [] w fun r2 w3 => ∃ (A1 : Option Addr) (n1 c1 : Nat), r2 = (.slice A1 n1 c1) ∧ (Pure Tryz.prog 110 #[(.slice A1 n1 c1)] w3 fun r5 w6 => ∃ (A4 : Option Addr) (n4 c4 : Nat), r5 = (.slice A4 n4 c4) ∧ (R (.slice A4 n4 c4) w6)))))) :
    Pure Tryz.prog 78 #[(.int .u32 ip0)] w R :=
  pure_of_run (garboardref01_Small.cx w w.heap.size R) 100000 follows Tryz.func78 rfl rfl rfl rfl rfl rfl rfl (Eq.mp (by kernel_rfl) h)

def garboardref01_Cmp.L6 (a : Option Addr) (b c : Nat) (d : Option Addr) (e f : Nat) (g : Int) (B : Nat) (w : World) (R : Value → World → Prop) : Prop := At Tryz.prog 79 41 (loopAt Tryz.f79 6) [(0, .v (.slice a b c)), (1, .v (.slice d e f)), (5, .v (.int .i64 g))] [] B w R
noncomputable def garboardref01_Cmp.cx (w : World) (B : Nat) (R : Value → World → Prop) : Cx := ⟨Tryz.prog, 79, 41, Tryz.f79.results.toList, [((true, 6), [0, 1, 5], [])], [(10, 9999, 3)], w, B, R⟩
theorem garboardref01_Cmp.L6.step (c : Option Addr) (d m : Nat) (e : Option Addr) (f n : Nat) (a : Int) (B : Nat) (w : World) (R : Value → World → Prop)
    (h : (((a ≥ (0 : Int)) → ((0 ≤ a ∧ a < d) ∧ ∃ o, c = some o ∧ (∃ g, CellsAt w (o.add ((a).toNat * 1)) [.int .u32 g] ∧ ((0 ≤ a ∧ a < f) ∧ ∃ p, e = some p ∧ (∃ i, CellsAt w (p.add ((a).toNat * 1)) [.int .u32 i] ∧ (((g < i) → (∀ q, Ext B [] w q → (R (.int .i64 (-1 : Int)) q))) ∧ (¬ (g < i) → (∀ b, Ext B [] w b → ((0 ≤ a ∧ a < d) ∧ ∃ r, c = some r ∧ (∃ j, CellsAt b (r.add ((a).toNat * 1)) [.int .u32 j] ∧ ((0 ≤ a ∧ a < f) ∧ ∃ s, e = some s ∧ (∃ l, CellsAt b (s.add ((a).toNat * 1)) [.int .u32 l] ∧ (((j > l) → (∀ t, Ext B [] b t → (R (.int .i64 1) t))) ∧ (¬ (j > l) → (inR .i64 (a - (1 : Int)) ∧ (∀ u, Ext B [] b u → (garboardref01_Cmp.L6 c d m e f n (a - (1 : Int)) B u R))))))))))))))))) ∧ (¬ (a ≥ (0 : Int)) → (R (.int .i64 0) w)))) :
    garboardref01_Cmp.L6 c d m e f n a B w R :=
  loop_of_run (garboardref01_Cmp.cx w B R) 100000 (loopAt Tryz.f79 6) _ _ follows Tryz.func79 rfl rfl rfl (Eq.mp (by kernel_rfl) h)
theorem garboardref01_Cmp.vc (c : Option Addr) (a d : Nat) (e : Option Addr) (b f : Nat) (w : World) (R : Value → World → Prop)
    (h : ((((a : Int) ≠ (b : Int)) → ((((a : Int) < (b : Int)) → (R (.int .i64 (-1 : Int)) w)) ∧ (¬ ((a : Int) < (b : Int)) → (R (.int .i64 1) w)))) ∧ (¬ ((a : Int) ≠ (b : Int)) → (inR .i64 ((a : Int) - (1 : Int)) ∧ (garboardref01_Cmp.L6 c a d e b f ((a : Int) - (1 : Int)) w.heap.size w R))))) :
    Pure Tryz.prog 79 #[.slice c a d, .slice e b f] w R :=
  pure_of_run (garboardref01_Cmp.cx w w.heap.size R) 100000 follows Tryz.func79 rfl rfl rfl rfl rfl rfl rfl (Eq.mp (by kernel_rfl) h)

def garboardref01_Common.L1 (a : Option Addr) (b c : Nat) (d : Option Addr) (e f B : Nat) (w : World) (R : Value → World → Prop) : Prop := At Tryz.prog 81 41 (loopAt Tryz.f81 1) [(0, .v (.slice a b c)), (1, .v (.slice d e f))] [] B w R
def garboardref01_Common.L4 (a b : Int) (B : Nat) (w : World) (R : Value → World → Prop) : Prop := At Tryz.prog 81 41 (loopAt Tryz.f81 4) [(5, .v (.int .u64 a)), (6, .v (.int .u64 b))] [] B w R
noncomputable def garboardref01_Common.cx (w : World) (B : Nat) (R : Value → World → Prop) : Cx := ⟨Tryz.prog, 81, 41, Tryz.f81.results.toList, [((true, 1), [0, 1], []), ((true, 4), [5, 6], [])], [], w, B, R⟩
theorem garboardref01_Common.L1.step (e : Option Addr) (b f : Nat) (c : Option Addr) (a d B : Nat) (w : World) (R : Value → World → Prop)
    (h : ((((a : Int) > 0) → ((((b : Int) ≤ (2 : Int)) → ((((a : Int) ≤ (2 : Int)) → (Pure Tryz.prog 111 #[.slice e b f] w fun q r => ∃ g, q = .int .u64 g ∧ (Pure Tryz.prog 111 #[.slice c a d] r fun s t => ∃ i, s = .int .u64 i ∧ (garboardref01_Common.L4 g i B t R)))) ∧ (¬ ((a : Int) ≤ (2 : Int)) → (Pure Tryz.prog 113 #[.slice e b f, .slice c a d] w fun u v => ∃ x y z j l m, u = .tuple #[.slice x y z, .slice j l m] ∧ (garboardref01_Common.L1 c a d j l m B v R))))) ∧ (¬ ((b : Int) ≤ (2 : Int)) → (Pure Tryz.prog 113 #[.slice e b f, .slice c a d] w fun A C => ∃ D E G n o p, A = .tuple #[.slice D E G, .slice n o p] ∧ (garboardref01_Common.L1 c a d n o p B C R))))) ∧ (¬ ((a : Int) > 0) → (R (.slice e b f) w)))) :
    garboardref01_Common.L1 e b f c a d B w R :=
  loop_of_run (garboardref01_Common.cx w B R) 100000 (loopAt Tryz.f81 1) _ _ follows Tryz.func81 rfl rfl rfl (Eq.mp (by kernel_rfl) h)
theorem garboardref01_Common.L4.step (b a : Int) (B : Nat) (w : World) (R : Value → World → Prop)
    (h : (((a ≠ 0) → ((0 ≤ b ∧ 0 < a) ∧ (∀ c, Ext B [] w c → (garboardref01_Common.L4 a (b % a) B c R)))) ∧ (¬ (a ≠ 0) → (Pure Tryz.prog 112 #[.int .u64 b] w fun g i => ∃ d e f, g = .slice d e f ∧ (R (.slice d e f) i))))) :
    garboardref01_Common.L4 b a B w R :=
  loop_of_run (garboardref01_Common.cx w B R) 100000 (loopAt Tryz.f81 4) _ _ follows Tryz.func81 rfl rfl rfl (Eq.mp (by kernel_rfl) h)
theorem garboardref01_Common.vc (a : Option Addr) (b c : Nat) (d : Option Addr) (e f : Nat) (w : World) (R : Value → World → Prop)
    (h : (garboardref01_Common.L1 a b c d e f w.heap.size w R)) :
    Pure Tryz.prog 81 #[.slice a b c, .slice d e f] w R :=
  pure_of_run (garboardref01_Common.cx w w.heap.size R) 100000 follows Tryz.func81 rfl rfl rfl rfl rfl rfl rfl (Eq.mp (by kernel_rfl) h)

def garboardref01_Times.L5 (a : Option Addr) (b c : Nat) (d : Option Addr) (e f : Nat) (g : Option Addr) (i j : Nat) (l : Int) (B : Nat) (w : World) (R : Value → World → Prop) : Prop := At Tryz.prog 87 77 (loopAt Tryz.f87 5) [(0, .v (.slice a b c)), (1, .v (.slice d e f)), (5, .v (.slice g i j)), (6, .v (.int .i64 l))] [] B w R
def garboardref01_Times.L9 (a : Option Addr) (b c : Nat) (d : Option Addr) (e f : Nat) (g : Option Addr) (i j : Nat) (l m n : Int) (B : Nat) (w : World) (R : Value → World → Prop) : Prop := At Tryz.prog 87 77 (loopAt Tryz.f87 9) [(0, .v (.slice a b c)), (1, .v (.slice d e f)), (5, .v (.slice g i j)), (6, .v (.int .i64 l)), (7, .v (.int .u64 m)), (8, .v (.int .i64 n))] [] B w R
noncomputable def garboardref01_Times.cx (w : World) (B : Nat) (R : Value → World → Prop) : Cx := ⟨Tryz.prog, 87, 77, Tryz.f87.results.toList, [((true, 5), [0, 1, 5, 6], []), ((true, 9), [0, 1, 5, 6, 7, 8], [])], [(3, 5, 2)], w, B, R⟩
theorem garboardref01_Times.L5.step (f : Option Addr) (a g : Nat) (i : Option Addr) (j l : Nat) (c : Option Addr) (d e : Nat) (b : Int) (B : Nat) (w : World) (R : Value → World → Prop)
    (h : (((b < (a : Int)) → (garboardref01_Times.L9 f a g i j l c d e b (0 : Int) (0 : Int) B w R)) ∧ (¬ (b < (a : Int)) → (Pure Tryz.prog 110 #[.slice c d e] w fun p q => ∃ m n o, p = .slice m n o ∧ (R (.slice m n o) q))))) :
    garboardref01_Times.L5 f a g i j l c d e b B w R :=
  loop_of_run (garboardref01_Times.cx w B R) 100000 (loopAt Tryz.f87 5) _ _ follows Tryz.func87 rfl rfl rfl (Eq.mp (by kernel_rfl) h)
theorem garboardref01_Times.L9.step (Al0 : Option Addr) (nl0 cl0 : Nat) (Al1 : Option Addr) (nl1 cl1 : Nat) (Al5 : Option Addr) (nl5 cl5 : Nat) (il6 : Int) (il7 : Int) (il8 : Int) (B : Nat) (w : World) (R : Value → World → Prop)
    (h : ((((il8 : Int) < (nl1 : Int)) → (inR .i64 (il6 + il8) ∧ ((0 ≤ (il6 + il8) ∧ (il6 + il8) < nl5) ∧ ∃ a7, Al5 = some a7 ∧ (∃ (i8 : Int), CellsAt w (a7.add (((il6 + il8)).toNat * 1)) [(.int .u32 i8)] ∧ (inR .u64 (i8) ∧ ((0 ≤ il6 ∧ il6 < nl0) ∧ ∃ a9, Al0 = some a9 ∧ (∃ (i10 : Int), CellsAt w (a9.add ((il6).toNat * 1)) [(.int .u32 i10)] ∧ (inR .u64 (i10) ∧ ((0 ≤ il8 ∧ il8 < nl1) ∧ ∃ a11, Al1 = some a11 ∧ (∃ (i12 : Int), CellsAt w (a11.add ((il8).toNat * 1)) [(.int .u32 i12)] ∧ (inR .u64 (i12) ∧ (inR .u64 ((i10) * (i12)) ∧ (inR .u64 ((i8) + ((i10) * (i12))) ∧ (inR .u64 (((i8) + ((i10) * (i12))) + il7) ∧ (inR .i64 (il6 + il8) ∧ ((0 ≤ (((i8) + ((i10) * (i12))) + il7) ∧ 0 < (1000000000 : Int)) ∧ (inR .u32 (((((i8) + ((i10) * (i12))) + il7) % (1000000000 : Int))) ∧ ((0 ≤ (il6 + il8) ∧ (il6 + il8) < nl5) ∧ ∃ a13, Al5 = some a13 ∧ (∀ w14, Ext B [] w w14 → (∃ (cs15 : List Value) (t16 : Nat), B ≤ (a13.add (((il6 + il8)).toNat * 1)).block ∧ (a13.add (((il6 + il8)).toNat * 1)).spot = none ∧ w14.heap[(a13.add (((il6 + il8)).toNat * 1)).block]? = some (.cells cs15.toArray t16 (0, 0)) ∧ (a13.add (((il6 + il8)).toNat * 1)).off + 1 ≤ cs15.length ∧ hasType t16 [] = false ∧ ∀ w17, Wrote w14 w17 (a13.add (((il6 + il8)).toNat * 1)).block t16 (setCells cs15 (a13.add (((il6 + il8)).toNat * 1)).off [(.int .u32 (((((i8) + ((i10) * (i12))) + il7) % (1000000000 : Int))))]) → ((0 ≤ (((i8) + ((i10) * (i12))) + il7) ∧ 0 < (1000000000 : Int) ∧ inR .u64 (((i8) + ((i10) * (i12))) + il7)) ∧ (inR .i64 (il8 + (1 : Int)) ∧ (garboardref01_Times.L9 Al0 nl0 cl0 Al1 nl1 cl1 Al5 nl5 cl5 il6 ((((i8) + ((i10) * (i12))) + il7) / (1000000000 : Int)) (il8 + (1 : Int)) B w17 R))))))))))))))))))))))) ∧ (¬ ((il8 : Int) < (nl1 : Int)) → (inR .i64 (il6 + (nl1 : Int)) ∧ (inR .u32 (il7) ∧ ((0 ≤ (il6 + (nl1 : Int)) ∧ (il6 + (nl1 : Int)) < nl5) ∧ ∃ a18, Al5 = some a18 ∧ (∃ (cs19 : List Value) (t20 : Nat), B ≤ (a18.add (((il6 + (nl1 : Int))).toNat * 1)).block ∧ (a18.add (((il6 + (nl1 : Int))).toNat * 1)).spot = none ∧ w.heap[(a18.add (((il6 + (nl1 : Int))).toNat * 1)).block]? = some (.cells cs19.toArray t20 (0, 0)) ∧ (a18.add (((il6 + (nl1 : Int))).toNat * 1)).off + 1 ≤ cs19.length ∧ hasType t20 [] = false ∧ ∀ w21, Wrote w w21 (a18.add (((il6 + (nl1 : Int))).toNat * 1)).block t20 (setCells cs19 (a18.add (((il6 + (nl1 : Int))).toNat * 1)).off [(.int .u32 (il7))]) → (inR .i64 (il6 + (1 : Int)) ∧ (garboardref01_Times.L5 Al0 nl0 cl0 Al1 nl1 cl1 Al5 nl5 cl5 (il6 + (1 : Int)) B w21 R))))))))) :
    garboardref01_Times.L9 Al0 nl0 cl0 Al1 nl1 cl1 Al5 nl5 cl5 il6 il7 il8 B w R :=
  loop_of_run (garboardref01_Times.cx w B R) 100000 (loopAt Tryz.f87 9) _ _ follows Tryz.func87 rfl rfl rfl (Eq.mp (by kernel_rfl) h)
theorem garboardref01_Times.vc (c : Option Addr) (a d : Nat) (e : Option Addr) (b f : Nat) (w : World) (R : Value → World → Prop)
    (h : ((((a : Int) = 0) → (R (.slice none 0 0) w)) ∧ (¬ ((a : Int) = 0) → ((((b : Int) = 0) → (R (.slice none 0 0) w)) ∧ (¬ ((b : Int) = 0) → (inR .i64 ((a : Int) + (b : Int)) ∧ (RunOk Tryz.prog (Instr.makeSlice 69 (.int .i64 ((a : Int) + (b : Int))) (.int .i64 ((a : Int) + (b : Int)))) w.heap.size [] w fun l m => ∃ g i j, l = .slice g i j ∧ (garboardref01_Times.L5 c a d e b f g i j (0 : Int) w.heap.size m R)))))))) :
    Pure Tryz.prog 87 #[.slice c a d, .slice e b f] w R :=
  pure_of_run (garboardref01_Times.cx w w.heap.size R) 100000 follows Tryz.func87 rfl rfl rfl rfl rfl rfl rfl (Eq.mp (by kernel_rfl) h)

def garboardref01_trim.L1 (a : Option Addr) (b c B : Nat) (w : World) (R : Value → World → Prop) : Prop := At Tryz.prog 110 21 (loopAt Tryz.f110 1) [(0, .v (.slice a b c))] [] B w R
noncomputable def garboardref01_trim.cx (w : World) (B : Nat) (R : Value → World → Prop) : Cx := ⟨Tryz.prog, 110, 21, Tryz.f110.results.toList, [((true, 1), [0], [])], [], w, B, R⟩
theorem garboardref01_trim.L1.step (b : Option Addr) (a c B : Nat) (w : World) (R : Value → World → Prop)
    (h : ((((a : Int) > 0) → (inR .i64 ((a : Int) - (1 : Int)) ∧ ((0 ≤ ((a : Int) - (1 : Int)) ∧ ((a : Int) - (1 : Int)) < a) ∧ ∃ e, b = some e ∧ (∃ d, CellsAt w (e.add ((((a : Int) - (1 : Int))).toNat * 1)) [.int .u32 d] ∧ (((d = 0) → (inR .i64 ((a : Int) - (1 : Int)) ∧ ((0 ≤ ((a : Int) - (1 : Int)) ∧ ((a : Int) - (1 : Int)) ≤ (c : Int)) ∧ (garboardref01_trim.L1 b ((((a : Int) - (1 : Int))).toNat) c B w R)))) ∧ (¬ (d = 0) → (R (.slice b a c) w))))))) ∧ (¬ ((a : Int) > 0) → (R (.slice b a c) w)))) :
    garboardref01_trim.L1 b a c B w R :=
  loop_of_run (garboardref01_trim.cx w B R) 100000 (loopAt Tryz.f110 1) _ _ follows Tryz.func110 rfl rfl rfl (Eq.mp (by kernel_rfl) h)
theorem garboardref01_trim.vc (a : Option Addr) (b c : Nat) (w : World) (R : Value → World → Prop)
    (h : (garboardref01_trim.L1 a b c w.heap.size w R)) :
    Pure Tryz.prog 110 #[.slice a b c] w R :=
  pure_of_run (garboardref01_trim.cx w w.heap.size R) 100000 follows Tryz.func110 rfl rfl rfl rfl rfl rfl rfl (Eq.mp (by kernel_rfl) h)

def garboardref01_word.L3 (a : Option Addr) (b c : Nat) (d e : Int) (B : Nat) (w : World) (R : Value → World → Prop) : Prop := At Tryz.prog 111 21 (loopAt Tryz.f111 3) [(0, .v (.slice a b c)), (3, .v (.int .u64 d)), (4, .v (.int .i64 e))] [] B w R
noncomputable def garboardref01_word.cx (w : World) (B : Nat) (R : Value → World → Prop) : Cx := ⟨Tryz.prog, 111, 21, Tryz.f111.results.toList, [((true, 3), [0, 3, 4], [])], [], w, B, R⟩
theorem garboardref01_word.L3.step (d : Option Addr) (e f : Nat) (b a : Int) (B : Nat) (w : World) (R : Value → World → Prop)
    (h : (((a ≥ (0 : Int)) → (inR .u64 (b * (1000000000 : Int)) ∧ ((0 ≤ a ∧ a < e) ∧ ∃ g, d = some g ∧ (∃ c, CellsAt w (g.add ((a).toNat * 1)) [.int .u32 c] ∧ (inR .u64 (c) ∧ (inR .u64 ((b * (1000000000 : Int)) + (c)) ∧ (inR .i64 (a - (1 : Int)) ∧ (garboardref01_word.L3 d e f ((b * (1000000000 : Int)) + (c)) (a - (1 : Int)) B w R)))))))) ∧ (¬ (a ≥ (0 : Int)) → (R (.int .u64 b) w)))) :
    garboardref01_word.L3 d e f b a B w R :=
  loop_of_run (garboardref01_word.cx w B R) 100000 (loopAt Tryz.f111 3) _ _ follows Tryz.func111 rfl rfl rfl (Eq.mp (by kernel_rfl) h)
theorem garboardref01_word.vc (b : Option Addr) (a c : Nat) (w : World) (R : Value → World → Prop)
    (h : (inR .i64 ((a : Int) - (1 : Int)) ∧ (garboardref01_word.L3 b a c (0 : Int) ((a : Int) - (1 : Int)) w.heap.size w R))) :
    Pure Tryz.prog 111 #[.slice b a c] w R :=
  pure_of_run (garboardref01_word.cx w w.heap.size R) 100000 follows Tryz.func111 rfl rfl rfl rfl rfl rfl rfl (Eq.mp (by kernel_rfl) h)

noncomputable def garboardref01_wide.cx (w : World) (B : Nat) (R : Value → World → Prop) : Cx := ⟨Tryz.prog, 112, 16, Tryz.f112.results.toList, [], [(1, 11, 2)], w, B, R⟩
theorem garboardref01_wide.vc (ip0 : Int) (w : World) (R : Value → World → Prop)
    (h : ((0 ≤ ip0 ∧ 0 < (1000000000 : Int)) ∧ (inR .u32 ((ip0 % (1000000000 : Int))) ∧ ((0 ≤ ip0 ∧ 0 < (1000000000 : Int) ∧ inR .u64 ip0) ∧ ((0 ≤ (ip0 / (1000000000 : Int)) ∧ 0 < (1000000000 : Int)) ∧ (inR .u32 (((ip0 / (1000000000 : Int)) % (1000000000 : Int))) ∧ ((0 ≤ ip0 ∧ 0 < (1000000000 : Int) ∧ inR .u64 ip0) ∧ ((0 ≤ (ip0 / (1000000000 : Int)) ∧ 0 < (1000000000 : Int) ∧ inR .u64 (ip0 / (1000000000 : Int))) ∧ (inR .u32 (((ip0 / (1000000000 : Int)) / (1000000000 : Int))) ∧ (RunOk Tryz.prog (Instr.buildSlice 69 3 #[(0, (.int .u32 ((ip0 % (1000000000 : Int))))), (1, (.int .u32 (((ip0 / (1000000000 : Int)) % (1000000000 : Int))))), (2, (.int .u32 (((ip0 / (1000000000 : Int)) / (1000000000 : Int)))))]) w.heap.size [] w fun r2 w3 => ∃ (A1 : Option Addr) (n1 c1 : Nat), r2 = (.slice A1 n1 c1) ∧ (Pure Tryz.prog 110 #[(.slice A1 n1 c1)] w3 fun r5 w6 => ∃ (A4 : Option Addr) (n4 c4 : Nat), r5 = (.slice A4 n4 c4) ∧ (R (.slice A4 n4 c4) w6)))))))))))) :
    Pure Tryz.prog 112 #[(.int .u64 ip0)] w R :=
  pure_of_run (garboardref01_wide.cx w w.heap.size R) 100000 follows Tryz.func112 rfl rfl rfl rfl rfl rfl rfl (Eq.mp (by kernel_rfl) h)

def garboardref01_Over.L13 (a : Int) (b : Option Addr) (c d : Nat) (e : Option Addr) (f g : Nat) (i : Option Addr) (j l : Nat) (m : Option Addr) (n o : Nat) (p : Int) (B : Nat) (w : World) (R : Value → World → Prop) : Prop := At Tryz.prog 113 176 (loopAt Tryz.f113 13) [(8, .v (.int .i64 a)), (9, .v (.slice b c d)), (10, .v (.slice e f g)), (11, .v (.slice i j l)), (12, .v (.slice m n o)), (13, .v (.int .i64 p))] [] B w R
def garboardref01_Over.L17 (a : Int) (b : Option Addr) (c d : Nat) (e : Option Addr) (f g : Nat) (i : Option Addr) (j l : Nat) (m : Option Addr) (n o : Nat) (p q r : Int) (B : Nat) (w : World) (R : Value → World → Prop) : Prop := At Tryz.prog 113 176 (loopAt Tryz.f113 17) [(8, .v (.int .i64 a)), (9, .v (.slice b c d)), (10, .v (.slice e f g)), (11, .v (.slice i j l)), (12, .v (.slice m n o)), (13, .v (.int .i64 p)), (15, .v (.int .u64 q)), (16, .v (.int .u64 r))] [] B w R
noncomputable def garboardref01_Over.cx (w : World) (B : Nat) (R : Value → World → Prop) : Cx := ⟨Tryz.prog, 113, 176, Tryz.f113.results.toList, [((true, 13), [8, 9, 10, 11, 12, 13], []), ((true, 17), [8, 9, 10, 11, 12, 13, 15, 16], [])], [(9, 0, 2), (9, 4, 2), (9, 5, 2), (9, 6, 2), (11, 4, 2), (16, 9999, 3), (20, 6, 6)], w, B, R⟩
theorem garboardref01_Over.L13.step (a : Int) (o : Option Addr) (p t : Nat) (f : Option Addr) (g u : Nat) (e : Option Addr) (i j : Nat) (q : Option Addr) (r s : Nat) (b : Int) (B : Nat) (w : World) (R : Value → World → Prop)
    (h : (((b ≥ (0 : Int)) → (inR .i64 (b + a) ∧ ((0 ≤ (b + a) ∧ (b + a) < i) ∧ ∃ v, e = some v ∧ (∃ c, CellsAt w (v.add (((b + a)).toNat * 1)) [.int .u32 c] ∧ (inR .u64 (c) ∧ (inR .u64 ((c) * (1000000000 : Int)) ∧ (inR .i64 (b + a) ∧ (inR .i64 ((b + a) - (1 : Int)) ∧ ((0 ≤ ((b + a) - (1 : Int)) ∧ ((b + a) - (1 : Int)) < i) ∧ ∃ x, e = some x ∧ (∃ d, CellsAt w (x.add ((((b + a) - (1 : Int))).toNat * 1)) [.int .u32 d] ∧ (inR .u64 (d) ∧ (inR .u64 (((c) * (1000000000 : Int)) + (d)) ∧ (∀ l, Ext B [] w l → (inR .i64 (a - (1 : Int)) ∧ ((0 ≤ (a - (1 : Int)) ∧ (a - (1 : Int)) < g) ∧ ∃ y, f = some y ∧ (∃ m, CellsAt l (y.add (((a - (1 : Int))).toNat * 1)) [.int .u32 m] ∧ (inR .u64 (m) ∧ ((0 ≤ (((c) * (1000000000 : Int)) + (d)) ∧ 0 < (m) ∧ inR .u64 (((c) * (1000000000 : Int)) + (d))) ∧ (inR .i64 (a - (1 : Int)) ∧ ((0 ≤ (a - (1 : Int)) ∧ (a - (1 : Int)) < g) ∧ ∃ z, f = some z ∧ (∃ n, CellsAt l (z.add (((a - (1 : Int))).toNat * 1)) [.int .u32 n] ∧ (inR .u64 (n) ∧ ((0 ≤ (((c) * (1000000000 : Int)) + (d)) ∧ 0 < (n)) ∧ (∀ A, Ext B [] l A → (garboardref01_Over.L17 a o p t f g u e i j q r s b ((((c) * (1000000000 : Int)) + (d)) / (m)) ((((c) * (1000000000 : Int)) + (d)) % (n)) B A R))))))))))))))))))))))))) ∧ (¬ (b ≥ (0 : Int)) → ((0 ≤ a ∧ a ≤ (j : Int)) ∧ ((0 ≤ (0 : Int) ∧ (0 : Int) < p) ∧ ∃ C, o = some C ∧ (∃ D, CellsAt w (C.add (((0 : Int)).toNat * 1)) [.int .u32 D] ∧ (∀ E, Ext B [] w E → (Pure Tryz.prog 110 #[(.slice e ((a).toNat) j)] E fun Q S => ∃ G H I, Q = .slice G H I ∧ (Pure Tryz.prog 131 #[.slice G H I, .int .u32 D] S fun T U => ∃ J K L V, T = .tuple #[.slice J K L, .int .u32 V] ∧ (Pure Tryz.prog 110 #[.slice q r s] U fun X Y => ∃ M N O, X = .slice M N O ∧ (R (.tuple #[.slice M N O, .slice J K L]) Y))))))))))) :
    garboardref01_Over.L13 a o p t f g u e i j q r s b B w R :=
  loop_of_run (garboardref01_Over.cx w B R) 100000 (loopAt Tryz.f113 13) _ _ follows Tryz.func113 rfl rfl rfl (Eq.mp (by kernel_rfl) h)
theorem garboardref01_Over.L17.step (b : Int) (q : Option Addr) (r s : Nat) (e : Option Addr) (f j : Nat) (g : Option Addr) (i l : Nat) (m : Option Addr) (n t : Nat) (a c d : Int) (B : Nat) (w : World) (R : Value → World → Prop)
    (h : (((d < 1000000000) → (((c ≥ (1000000000 : Int)) → (inR .u64 (c - (1 : Int)) ∧ (inR .i64 (b - (1 : Int)) ∧ ((0 ≤ (b - (1 : Int)) ∧ (b - (1 : Int)) < f) ∧ ∃ L, e = some L ∧ (∀ C, Ext B [] w C → (∃ x, CellsAt C (L.add (((b - (1 : Int))).toNat * 1)) [.int .u32 x] ∧ (inR .u64 (x) ∧ (inR .u64 (d + (x)) ∧ (garboardref01_Over.L17 b q r s e f j g i l m n t a (c - (1 : Int)) (d + (x)) B C R))))))))) ∧ (¬ (c ≥ (1000000000 : Int)) → (inR .i64 (b - (2 : Int)) ∧ ((0 ≤ (b - (2 : Int)) ∧ (b - (2 : Int)) < f) ∧ ∃ M, e = some M ∧ (∃ u, CellsAt w (M.add (((b - (2 : Int))).toNat * 1)) [.int .u32 u] ∧ (inR .u64 (u) ∧ (inR .u64 (c * (u)) ∧ (inR .u64 (d * (1000000000 : Int)) ∧ (inR .i64 (a + b) ∧ (inR .i64 ((a + b) - (2 : Int)) ∧ ((0 ≤ ((a + b) - (2 : Int)) ∧ ((a + b) - (2 : Int)) < i) ∧ ∃ N, g = some N ∧ (∃ v, CellsAt w (N.add ((((a + b) - (2 : Int))).toNat * 1)) [.int .u32 v] ∧ (inR .u64 (v) ∧ (inR .u64 ((d * (1000000000 : Int)) + (v)) ∧ (((((c * (u)) : Int) > ((d * (1000000000 : Int)) + (v))) → (inR .u64 (c - (1 : Int)) ∧ (inR .i64 (b - (1 : Int)) ∧ ((0 ≤ (b - (1 : Int)) ∧ (b - (1 : Int)) < f) ∧ ∃ O, e = some O ∧ (∀ D, Ext B [] w D → (∃ y, CellsAt D (O.add (((b - (1 : Int))).toNat * 1)) [.int .u32 y] ∧ (inR .u64 (y) ∧ (inR .u64 (d + (y)) ∧ (garboardref01_Over.L17 b q r s e f j g i l m n t a (c - (1 : Int)) (d + (y)) B D R))))))))) ∧ (¬ (((c * (u)) : Int) > ((d * (1000000000 : Int)) + (v))) → (∀ z, Ext B [] w z → (PureB Tryz.prog 132 #[.slice g i l, .slice e f j, .int .i64 a, .int .u64 c] B z fun V E => (∀ (k ty : Nat) (cs : Array Value), ty ∈ ([] : List Nat) → z.heap[k]? = some (.cells cs ty (0, 0)) → E.heap[k]? = z.heap[k]?) ∧ ∃ Q, V = .int .u32 Q ∧ ((0 ≤ a ∧ a < n) ∧ ∃ o, m = some o ∧ (∃ (G : List Value) (H : Nat), B ≤ (o.add ((a).toNat * 1)).block ∧ (o.add ((a).toNat * 1)).spot = none ∧ E.heap[(o.add ((a).toNat * 1)).block]? = some (.cells G.toArray H (0, 0)) ∧ (o.add ((a).toNat * 1)).off + 1 ≤ G.length ∧ hasType H [] = false ∧ ∀ S, Wrote E S (o.add ((a).toNat * 1)).block H (setCells G (o.add ((a).toNat * 1)).off [.int .u32 Q]) → (inR .i64 (a - (1 : Int)) ∧ (garboardref01_Over.L13 b q r s e f j g i l m n t (a - (1 : Int)) B S R))))))))))))))))))))))) ∧ (¬ (d < 1000000000) → (∀ A, Ext B [] w A → (PureB Tryz.prog 132 #[.slice g i l, .slice e f j, .int .i64 a, .int .u64 c] B A fun X I => (∀ (k ty : Nat) (cs : Array Value), ty ∈ ([] : List Nat) → A.heap[k]? = some (.cells cs ty (0, 0)) → I.heap[k]? = A.heap[k]?) ∧ ∃ T, X = .int .u32 T ∧ ((0 ≤ a ∧ a < n) ∧ ∃ p, m = some p ∧ (∃ (J : List Value) (K : Nat), B ≤ (p.add ((a).toNat * 1)).block ∧ (p.add ((a).toNat * 1)).spot = none ∧ I.heap[(p.add ((a).toNat * 1)).block]? = some (.cells J.toArray K (0, 0)) ∧ (p.add ((a).toNat * 1)).off + 1 ≤ J.length ∧ hasType K [] = false ∧ ∀ U, Wrote I U (p.add ((a).toNat * 1)).block K (setCells J (p.add ((a).toNat * 1)).off [.int .u32 T]) → (inR .i64 (a - (1 : Int)) ∧ (garboardref01_Over.L13 b q r s e f j g i l m n t (a - (1 : Int)) B U R))))))))) :
    garboardref01_Over.L17 b q r s e f j g i l m n t a c d B w R :=
  loop_of_run (garboardref01_Over.cx w B R) 100000 (loopAt Tryz.f113 17) _ _ follows Tryz.func113 rfl rfl rfl (Eq.mp (by kernel_rfl) h)
theorem garboardref01_Over.vc (e : Option Addr) (a f : Nat) (g : Option Addr) (c o : Nat) (w : World) (R : Value → World → Prop)
    (h : (Pure Tryz.prog 79 #[.slice e a f, .slice g c o] w fun r2 i => ∃ p, r2 = .int .i64 p ∧ (((p < 0) → (R (.tuple #[.slice none 0 0, .slice e a f]) i)) ∧ (¬ (p < 0) → ((((c : Int) = 1) → ((0 ≤ (0 : Int) ∧ (0 : Int) < c) ∧ ∃ r, g = some r ∧ (∃ s, CellsAt i (r.add (((0 : Int)).toNat * 1)) [.int .u32 s] ∧ (Pure Tryz.prog 131 #[.slice e a f, .int .u32 s] i fun r8 w9 => ∃ t u v x, r8 = .tuple #[.slice t u v, .int .u32 x] ∧ (Pure Tryz.prog 78 #[.int .u32 x] w9 fun a3 a4 => ∃ y z A, a3 = .slice y z A ∧ (R (.tuple #[.slice t u v, .slice y z A]) a4)))))) ∧ (¬ ((c : Int) = 1) → (inR .i64 ((c : Int) - (1 : Int)) ∧ ((0 ≤ ((c : Int) - (1 : Int)) ∧ ((c : Int) - (1 : Int)) < c) ∧ ∃ C, g = some C ∧ (∃ d, CellsAt i (C.add ((((c : Int) - (1 : Int))).toNat * 1)) [.int .u32 d] ∧ (inR .i64 (d) ∧ (inR .i64 ((d) + 1) ∧ ((0 ≤ (1000000000 : Int) ∧ 0 < ((d) + 1) ∧ inR .i64 1000000000) ∧ (inR .u32 (((1000000000 : Int) / ((d) + 1))) ∧ (Pure Tryz.prog 78 #[(.int .u32 (((1000000000 : Int) / ((d) + 1))))] i fun a5 a6 => ∃ j l m, a5 = .slice j l m ∧ (Pure Tryz.prog 87 #[.slice g c o, .slice j l m] a6 fun a7 a8 => ∃ D E G, a7 = .slice D E G ∧ (RunOk Tryz.prog (Instr.buildSlice 69 0 #[]) w.heap.size [] a8 fun a9 b0 => ∃ H I J, a9 = .slice H I J ∧ (Pure Tryz.prog 87 #[.slice e a f, .slice j l m] b0 fun b1 b2 => ∃ K L M, b1 = .slice K L M ∧ (RunOk Tryz.prog (Builtin.append_ #[69, 69] 69 #[.slice H I J, .slice K L M]) w.heap.size [] b2 fun b3 b4 => ∃ N O Q, b3 = .slice N O Q ∧ (RunOk Tryz.prog (Instr.buildSlice 69 2 #[(0, (.int .u32 (0 : Int))), (1, (.int .u32 (0 : Int)))]) w.heap.size [] b4 fun b5 b6 => ∃ S T U, b5 = .slice S T U ∧ (RunOk Tryz.prog (Builtin.append_ #[69, 69] 69 #[.slice N O Q, .slice S T U]) w.heap.size [] b6 fun b7 b8 => ∃ q V n, b7 = .slice q V n ∧ (inR .i64 ((a : Int) + 1) ∧ (Pure Tryz.prog 110 #[.slice q V n] b8 fun b9 c0 => ∃ c1 b c2, b9 = .slice c1 b c2 ∧ ((0 ≤ (if (b : Int) > ((a : Int) + 1) then (b : Int) else ((a : Int) + 1)) ∧ (if (b : Int) > ((a : Int) + 1) then (b : Int) else ((a : Int) + 1)) ≤ (n : Int)) ∧ (inR .i64 (((((if (b : Int) > ((a : Int) + 1) then (b : Int) else ((a : Int) + 1))).toNat : Nat) : Int) - (c : Int)) ∧ (RunOk Tryz.prog (Instr.makeSlice 69 (.int .i64 (((((if (b : Int) > ((a : Int) + 1) then (b : Int) else ((a : Int) + 1))).toNat : Nat) : Int) - (c : Int))) (.int .i64 (((((if (b : Int) > ((a : Int) + 1) then (b : Int) else ((a : Int) + 1))).toNat : Nat) : Int) - (c : Int)))) w.heap.size [] c0 fun c3 c4 => ∃ X Y Z, c3 = .slice X Y Z ∧ (inR .i64 (((((if (b : Int) > ((a : Int) + 1) then (b : Int) else ((a : Int) + 1))).toNat : Nat) : Int) - (c : Int)) ∧ (inR .i64 ((((((if (b : Int) > ((a : Int) + 1) then (b : Int) else ((a : Int) + 1))).toNat : Nat) : Int) - (c : Int)) - (1 : Int)) ∧ (garboardref01_Over.L13 (c : Int) j l m D E G q (((if (b : Int) > ((a : Int) + 1) then (b : Int) else ((a : Int) + 1))).toNat) n X Y Z ((((((if (b : Int) > ((a : Int) + 1) then (b : Int) else ((a : Int) + 1))).toNat : Nat) : Int) - (c : Int)) - (1 : Int)) w.heap.size c4 R)))))))))))))))))))))))))))) :
    Pure Tryz.prog 113 #[.slice e a f, .slice g c o] w R :=
  pure_of_run (garboardref01_Over.cx w w.heap.size R) 100000 follows Tryz.func113 rfl rfl rfl rfl rfl rfl rfl (Eq.mp (by kernel_rfl) h)

def garboardref01_small.L4 (a : Option Addr) (b c : Nat) (d : Int) (e : Option Addr) (f g : Nat) (i j : Int) (B : Nat) (w : World) (R : Value → World → Prop) : Prop := At Tryz.prog 131 44 (loopAt Tryz.f131 4) [(0, .v (.slice a b c)), (1, .v (.int .u32 d)), (6, .v (.slice e f g)), (7, .v (.int .u64 i)), (8, .v (.int .i64 j))] [] B w R
noncomputable def garboardref01_small.cx (w : World) (B : Nat) (R : Value → World → Prop) : Cx := ⟨Tryz.prog, 131, 44, Tryz.f131.results.toList, [((true, 4), [0, 1, 6, 7, 8], [])], [(1, 2, 2)], w, B, R⟩
theorem garboardref01_small.L4.step (i : Option Addr) (j o : Nat) (c : Int) (f : Option Addr) (g l : Nat) (b a : Int) (B : Nat) (w : World) (R : Value → World → Prop)
    (h : (((a ≥ (0 : Int)) → (inR .u64 (b * (1000000000 : Int)) ∧ ((0 ≤ a ∧ a < j) ∧ ∃ p, i = some p ∧ (∃ d, CellsAt w (p.add ((a).toNat * 1)) [.int .u32 d] ∧ (inR .u64 (d) ∧ (inR .u64 ((b * (1000000000 : Int)) + (d)) ∧ (inR .u64 (c) ∧ ((0 ≤ ((b * (1000000000 : Int)) + (d)) ∧ 0 < (c) ∧ inR .u64 ((b * (1000000000 : Int)) + (d))) ∧ (inR .u32 ((((b * (1000000000 : Int)) + (d)) / (c))) ∧ ((0 ≤ a ∧ a < g) ∧ ∃ e, f = some e ∧ (∃ (m : List Value) (n : Nat), B ≤ (e.add ((a).toNat * 1)).block ∧ (e.add ((a).toNat * 1)).spot = none ∧ w.heap[(e.add ((a).toNat * 1)).block]? = some (.cells m.toArray n (0, 0)) ∧ (e.add ((a).toNat * 1)).off + 1 ≤ m.length ∧ hasType n [] = false ∧ ∀ q, Wrote w q (e.add ((a).toNat * 1)).block n (setCells m (e.add ((a).toNat * 1)).off [(.int .u32 ((((b * (1000000000 : Int)) + (d)) / (c))))]) → (inR .u64 (c) ∧ ((0 ≤ ((b * (1000000000 : Int)) + (d)) ∧ 0 < (c)) ∧ (inR .i64 (a - (1 : Int)) ∧ (garboardref01_small.L4 i j o c f g l (((b * (1000000000 : Int)) + (d)) % (c)) (a - (1 : Int)) B q R))))))))))))))) ∧ (¬ (a ≥ (0 : Int)) → (Pure Tryz.prog 110 #[.slice f g l] w fun u v => ∃ r s t, u = .slice r s t ∧ (inR .u32 (b) ∧ (R (.tuple #[.slice r s t, (.int .u32 (b))]) v)))))) :
    garboardref01_small.L4 i j o c f g l b a B w R :=
  loop_of_run (garboardref01_small.cx w B R) 100000 (loopAt Tryz.f131 4) _ _ follows Tryz.func131 rfl rfl rfl (Eq.mp (by kernel_rfl) h)
theorem garboardref01_small.vc (b : Option Addr) (a c : Nat) (d : Int) (w : World) (R : Value → World → Prop)
    (h : (RunOk Tryz.prog (Instr.makeSlice 69 (.int .i64 (a : Int)) (.int .i64 (a : Int))) w.heap.size [] w fun i j => ∃ e f g, i = .slice e f g ∧ (inR .i64 ((a : Int) - (1 : Int)) ∧ (garboardref01_small.L4 b a c d e f g (0 : Int) ((a : Int) - (1 : Int)) w.heap.size j R)))) :
    Pure Tryz.prog 131 #[.slice b a c, .int .u32 d] w R :=
  pure_of_run (garboardref01_small.cx w w.heap.size R) 100000 follows Tryz.func131 rfl rfl rfl rfl rfl rfl rfl (Eq.mp (by kernel_rfl) h)

def garboardref01_reduce.L5 (a : Option Addr) (b c : Nat) (d : Option Addr) (e f : Nat) (g i j l m n : Int) (B : Nat) (w : World) (R : Value → World → Prop) : Prop := At Tryz.prog 132 136 (loopAt Tryz.f132 5) [(0, .v (.slice a b c)), (1, .v (.slice d e f)), (2, .v (.int .i64 g)), (3, .v (.int .u64 i)), (9, .v (.int .i64 j)), (10, .v (.int .i64 l)), (11, .v (.int .u64 m)), (12, .v (.int .i64 n))] [] B w R
def garboardref01_reduce.L21 (a : Option Addr) (b c : Nat) (d : Option Addr) (e f : Nat) (g i j l m : Int) (B : Nat) (w : World) (R : Value → World → Prop) : Prop := At Tryz.prog 132 136 (loopAt Tryz.f132 21) [(0, .v (.slice a b c)), (1, .v (.slice d e f)), (2, .v (.int .i64 g)), (3, .v (.int .u64 i)), (9, .v (.int .i64 j)), (16, .v (.int .u32 l)), (17, .v (.int .i64 m))] [] B w R
noncomputable def garboardref01_reduce.cx (w : World) (B : Nat) (R : Value → World → Prop) : Cx := ⟨Tryz.prog, 132, 136, Tryz.f132.results.toList, [((true, 5), [0, 1, 2, 3, 9, 10, 11, 12], []), ((true, 21), [0, 1, 2, 3, 9, 16, 17], [])], [], w, B, R⟩
theorem garboardref01_reduce.L5.step (Al0 : Option Addr) (nl0 cl0 : Nat) (Al1 : Option Addr) (nl1 cl1 : Nat) (il2 : Int) (il3 : Int) (il9 : Int) (il10 : Int) (il11 : Int) (il12 : Int) (B : Nat) (w : World) (R : Value → World → Prop)
    (h : ((((il12 : Int) < il9) → ((0 ≤ il12 ∧ il12 < nl1) ∧ ∃ a1, Al1 = some a1 ∧ (∃ (i2 : Int), CellsAt w (a1.add ((il12).toNat * 1)) [(.int .u32 i2)] ∧ (inR .u64 (i2) ∧ (inR .u64 (il3 * (i2)) ∧ (inR .u64 ((il3 * (i2)) + il11) ∧ ((0 ≤ ((il3 * (i2)) + il11) ∧ 0 < (1000000000 : Int) ∧ inR .u64 ((il3 * (i2)) + il11)) ∧ (inR .i64 (il2 + il12) ∧ ((0 ≤ (il2 + il12) ∧ (il2 + il12) < nl0) ∧ ∃ a3, Al0 = some a3 ∧ (∃ (i4 : Int), CellsAt w (a3.add (((il2 + il12)).toNat * 1)) [(.int .u32 i4)] ∧ (inR .i64 (i4) ∧ ((0 ≤ ((il3 * (i2)) + il11) ∧ 0 < (1000000000 : Int)) ∧ (inR .i64 ((((il3 * (i2)) + il11) % (1000000000 : Int))) ∧ (inR .i64 ((i4) - ((((il3 * (i2)) + il11) % (1000000000 : Int)))) ∧ (inR .i64 (((i4) - ((((il3 * (i2)) + il11) % (1000000000 : Int)))) - il10) ∧ (((((((i4) - ((((il3 * (i2)) + il11) % (1000000000 : Int)))) - il10) : Int) < (0 : Int)) → (inR .i64 ((((i4) - ((((il3 * (i2)) + il11) % (1000000000 : Int)))) - il10) + (1000000000 : Int)) ∧ (inR .i64 (il2 + il12) ∧ (inR .u32 (((((i4) - ((((il3 * (i2)) + il11) % (1000000000 : Int)))) - il10) + (1000000000 : Int))) ∧ ((0 ≤ (il2 + il12) ∧ (il2 + il12) < nl0) ∧ ∃ a5, Al0 = some a5 ∧ (∃ (cs6 : List Value) (t7 : Nat), B ≤ (a5.add (((il2 + il12)).toNat * 1)).block ∧ (a5.add (((il2 + il12)).toNat * 1)).spot = none ∧ w.heap[(a5.add (((il2 + il12)).toNat * 1)).block]? = some (.cells cs6.toArray t7 (0, 0)) ∧ (a5.add (((il2 + il12)).toNat * 1)).off + 1 ≤ cs6.length ∧ hasType t7 [] = false ∧ ∀ w8, Wrote w w8 (a5.add (((il2 + il12)).toNat * 1)).block t7 (setCells cs6 (a5.add (((il2 + il12)).toNat * 1)).off [(.int .u32 (((((i4) - ((((il3 * (i2)) + il11) % (1000000000 : Int)))) - il10) + (1000000000 : Int))))]) → (inR .i64 (il12 + (1 : Int)) ∧ (garboardref01_reduce.L5 Al0 nl0 cl0 Al1 nl1 cl1 il2 il3 il9 (1 : Int) (((il3 * (i2)) + il11) / (1000000000 : Int)) (il12 + (1 : Int)) B w8 R)))))))) ∧ (¬ (((((i4) - ((((il3 * (i2)) + il11) % (1000000000 : Int)))) - il10) : Int) < (0 : Int)) → (inR .i64 (il2 + il12) ∧ (inR .u32 ((((i4) - ((((il3 * (i2)) + il11) % (1000000000 : Int)))) - il10)) ∧ ((0 ≤ (il2 + il12) ∧ (il2 + il12) < nl0) ∧ ∃ a9, Al0 = some a9 ∧ (∃ (cs10 : List Value) (t11 : Nat), B ≤ (a9.add (((il2 + il12)).toNat * 1)).block ∧ (a9.add (((il2 + il12)).toNat * 1)).spot = none ∧ w.heap[(a9.add (((il2 + il12)).toNat * 1)).block]? = some (.cells cs10.toArray t11 (0, 0)) ∧ (a9.add (((il2 + il12)).toNat * 1)).off + 1 ≤ cs10.length ∧ hasType t11 [] = false ∧ ∀ w12, Wrote w w12 (a9.add (((il2 + il12)).toNat * 1)).block t11 (setCells cs10 (a9.add (((il2 + il12)).toNat * 1)).off [(.int .u32 ((((i4) - ((((il3 * (i2)) + il11) % (1000000000 : Int)))) - il10)))]) → (inR .i64 (il12 + (1 : Int)) ∧ (garboardref01_reduce.L5 Al0 nl0 cl0 Al1 nl1 cl1 il2 il3 il9 (0 : Int) (((il3 * (i2)) + il11) / (1000000000 : Int)) (il12 + (1 : Int)) B w12 R))))))))))))))))))))))) ∧ (¬ ((il12 : Int) < il9) → (inR .i64 (il2 + il9) ∧ ((0 ≤ (il2 + il9) ∧ (il2 + il9) < nl0) ∧ ∃ a13, Al0 = some a13 ∧ (∃ (i14 : Int), CellsAt w (a13.add (((il2 + il9)).toNat * 1)) [(.int .u32 i14)] ∧ (inR .i64 (i14) ∧ (inR .i64 (il11) ∧ (inR .i64 ((i14) - (il11)) ∧ (inR .i64 (((i14) - (il11)) - il10) ∧ (((((((i14) - (il11)) - il10) : Int) ≥ (0 : Int)) → (inR .i64 (il2 + il9) ∧ (inR .u32 ((((i14) - (il11)) - il10)) ∧ ((0 ≤ (il2 + il9) ∧ (il2 + il9) < nl0) ∧ ∃ a15, Al0 = some a15 ∧ (∃ (cs16 : List Value) (t17 : Nat), B ≤ (a15.add (((il2 + il9)).toNat * 1)).block ∧ (a15.add (((il2 + il9)).toNat * 1)).spot = none ∧ w.heap[(a15.add (((il2 + il9)).toNat * 1)).block]? = some (.cells cs16.toArray t17 (0, 0)) ∧ (a15.add (((il2 + il9)).toNat * 1)).off + 1 ≤ cs16.length ∧ hasType t17 [] = false ∧ ∀ w18, Wrote w w18 (a15.add (((il2 + il9)).toNat * 1)).block t17 (setCells cs16 (a15.add (((il2 + il9)).toNat * 1)).off [(.int .u32 ((((i14) - (il11)) - il10)))]) → (inR .u32 (il3) ∧ (R (.int .u32 (il3)) w18))))))) ∧ (¬ (((((i14) - (il11)) - il10) : Int) ≥ (0 : Int)) → (inR .i64 (il2 + il9) ∧ (inR .i64 ((((i14) - (il11)) - il10) + (1000000000 : Int)) ∧ (inR .u32 (((((i14) - (il11)) - il10) + (1000000000 : Int))) ∧ ((0 ≤ (il2 + il9) ∧ (il2 + il9) < nl0) ∧ ∃ a19, Al0 = some a19 ∧ (∃ (cs20 : List Value) (t21 : Nat), B ≤ (a19.add (((il2 + il9)).toNat * 1)).block ∧ (a19.add (((il2 + il9)).toNat * 1)).spot = none ∧ w.heap[(a19.add (((il2 + il9)).toNat * 1)).block]? = some (.cells cs20.toArray t21 (0, 0)) ∧ (a19.add (((il2 + il9)).toNat * 1)).off + 1 ≤ cs20.length ∧ hasType t21 [] = false ∧ ∀ w22, Wrote w w22 (a19.add (((il2 + il9)).toNat * 1)).block t21 (setCells cs20 (a19.add (((il2 + il9)).toNat * 1)).off [(.int .u32 (((((i14) - (il11)) - il10) + (1000000000 : Int))))]) → (garboardref01_reduce.L21 Al0 nl0 cl0 Al1 nl1 cl1 il2 il3 il9 (0 : Int) (0 : Int) B w22 R)))))))))))))))))) :
    garboardref01_reduce.L5 Al0 nl0 cl0 Al1 nl1 cl1 il2 il3 il9 il10 il11 il12 B w R :=
  loop_of_run (garboardref01_reduce.cx w B R) 100000 (loopAt Tryz.f132 5) _ _ follows Tryz.func132 rfl rfl rfl (Eq.mp (by kernel_rfl) h)
theorem garboardref01_reduce.L21.step (Al0 : Option Addr) (nl0 cl0 : Nat) (Al1 : Option Addr) (nl1 cl1 : Nat) (il2 : Int) (il3 : Int) (il9 : Int) (il16 : Int) (il17 : Int) (B : Nat) (w : World) (R : Value → World → Prop)
    (h : ((((il17 : Int) < il9) → (inR .i64 (il2 + il17) ∧ ((0 ≤ (il2 + il17) ∧ (il2 + il17) < nl0) ∧ ∃ a23, Al0 = some a23 ∧ (∃ (i24 : Int), CellsAt w (a23.add (((il2 + il17)).toNat * 1)) [(.int .u32 i24)] ∧ ((0 ≤ il17 ∧ il17 < nl1) ∧ ∃ a25, Al1 = some a25 ∧ (∃ (i26 : Int), CellsAt w (a25.add ((il17).toNat * 1)) [(.int .u32 i26)] ∧ (inR .u32 (i24 + i26) ∧ (inR .u32 ((i24 + i26) + il16) ∧ (inR .i64 (il2 + il17) ∧ ((0 ≤ ((i24 + i26) + il16) ∧ 0 < (1000000000 : Int)) ∧ ((0 ≤ (il2 + il17) ∧ (il2 + il17) < nl0) ∧ ∃ a27, Al0 = some a27 ∧ (∀ w28, Ext B [] w w28 → (∃ (cs29 : List Value) (t30 : Nat), B ≤ (a27.add (((il2 + il17)).toNat * 1)).block ∧ (a27.add (((il2 + il17)).toNat * 1)).spot = none ∧ w28.heap[(a27.add (((il2 + il17)).toNat * 1)).block]? = some (.cells cs29.toArray t30 (0, 0)) ∧ (a27.add (((il2 + il17)).toNat * 1)).off + 1 ≤ cs29.length ∧ hasType t30 [] = false ∧ ∀ w31, Wrote w28 w31 (a27.add (((il2 + il17)).toNat * 1)).block t30 (setCells cs29 (a27.add (((il2 + il17)).toNat * 1)).off [(.int .u32 (((i24 + i26) + il16) % (1000000000 : Int)))]) → ((0 ≤ ((i24 + i26) + il16) ∧ 0 < (1000000000 : Int) ∧ inR .u32 ((i24 + i26) + il16)) ∧ (inR .i64 (il17 + (1 : Int)) ∧ (garboardref01_reduce.L21 Al0 nl0 cl0 Al1 nl1 cl1 il2 il3 il9 (((i24 + i26) + il16) / (1000000000 : Int)) (il17 + (1 : Int)) B w31 R)))))))))))))))) ∧ (¬ ((il17 : Int) < il9) → (inR .i64 (il2 + il9) ∧ (inR .i64 (il2 + il9) ∧ ((0 ≤ (il2 + il9) ∧ (il2 + il9) < nl0) ∧ ∃ a32, Al0 = some a32 ∧ (∃ (i33 : Int), CellsAt w (a32.add (((il2 + il9)).toNat * 1)) [(.int .u32 i33)] ∧ (inR .u32 (i33 + il16) ∧ ((0 ≤ (i33 + il16) ∧ 0 < (1000000000 : Int)) ∧ ((0 ≤ (il2 + il9) ∧ (il2 + il9) < nl0) ∧ ∃ a34, Al0 = some a34 ∧ (∃ (cs35 : List Value) (t36 : Nat), B ≤ (a34.add (((il2 + il9)).toNat * 1)).block ∧ (a34.add (((il2 + il9)).toNat * 1)).spot = none ∧ w.heap[(a34.add (((il2 + il9)).toNat * 1)).block]? = some (.cells cs35.toArray t36 (0, 0)) ∧ (a34.add (((il2 + il9)).toNat * 1)).off + 1 ≤ cs35.length ∧ hasType t36 [] = false ∧ ∀ w37, Wrote w w37 (a34.add (((il2 + il9)).toNat * 1)).block t36 (setCells cs35 (a34.add (((il2 + il9)).toNat * 1)).off [(.int .u32 ((i33 + il16) % (1000000000 : Int)))]) → (inR .u64 (il3 - (1 : Int)) ∧ (inR .u32 ((il3 - (1 : Int))) ∧ (R (.int .u32 ((il3 - (1 : Int)))) w37)))))))))))))) :
    garboardref01_reduce.L21 Al0 nl0 cl0 Al1 nl1 cl1 il2 il3 il9 il16 il17 B w R :=
  loop_of_run (garboardref01_reduce.cx w B R) 100000 (loopAt Tryz.f132 21) _ _ follows Tryz.func132 rfl rfl rfl (Eq.mp (by kernel_rfl) h)
theorem garboardref01_reduce.vcB (b : Option Addr) (c d : Nat) (e : Option Addr) (a f : Nat) (g i : Int) (B : Nat) (w : World) (hB : B ≤ w.heap.size) (R : Value → World → Prop)
    (h : (garboardref01_reduce.L5 b c d e a f g i (a : Int) (0 : Int) (0 : Int) (0 : Int) B w R)) :
    PureB Tryz.prog 132 #[.slice b c d, .slice e a f, .int .i64 g, .int .u64 i] B w R :=
  pureB_of_run (garboardref01_reduce.cx w B R) 100000 follows Tryz.func132 rfl rfl rfl rfl hB rfl rfl (Eq.mp (by kernel_rfl) h)

end Go.Proofs.YtdnelnicnjplpaaGreatDoor.F

namespace Go.Proofs.YtdnelnicnjplpaaGreatDoor.B
open Go Go.RowKit Go.Proofs Go.Proofs.YtdnelnicnjplpaaGreatDoor.Vc

theorem el_N : El Tryz.prog 69 112 1 4 := El.of (by kernel_rfl)

theorem bt_zero {s : ByteArray} {c : UInt8} {r : Tx} (h : by_ s = c :: r) : bt s 0 = (c.toNat : Int) := by
  have : bt s 0 = (((by_ s).getD 0 0).toNat : Int) := rfl
  rw [this, h]; rfl

theorem ref_Valid_loop (s : ByteArray) (hs : s.size < 2147483648) (B : Nat) (w : World) (R : Value → World → Prop) (hR : R (.bool (isNat (by_ s))) w) : ∀ (d : Nat) (i : Int), 0 ≤ i → i ≤ s.size → s.size - i = d →
    ((by_ s).take i.toNat).all dig = true → F.garboardref01_Valid.L2 s i B w R := by
  intro d
  induction d with
  | zero =>
    intro i h0 h1 hd hp
    have hsz := size_by s
    rw [List.take_of_length_le (by omega)] at hp
    refine F.garboardref01_Valid.L2.step _ _ _ _ _ ⟨fun h => by omega, fun h => ⟨fun h1 => ?_, fun h1 => ⟨fun h2 => ⟨by omega, ?_⟩, fun h2 => ?_⟩⟩⟩
    · obtain ⟨c, hc⟩ := List.length_eq_one_iff.1 (by omega : (by_ s).length = 1)
      rw [hc] at hR hp
      have : isNat [c] = true := by simp [isNat] at hp ⊢; exact hp
      rwa [this] at hR
    · cases hl : by_ s with
      | nil => rw [hl, List.length_nil] at hsz; omega
      | cons c r =>
        rw [bt_zero hl]
        rw [hl] at hR hp hsz
        have hr : r ≠ [] := fun k => by subst k; simp at hsz; omega
        have : isNat (c :: r) = decide ((c.toNat : Int) ≠ 48) := by
          unfold isNat
          rw [hp]
          have e : (c == 48) = decide (c.toNat = 48) := by
            by_cases k : c = 48
            · subst k; rfl
            · have : c.toNat ≠ 48 := fun k2 => k (UInt8.toNat_inj.1 k2)
              simp [k, this]
          have h2 : ((c :: r).length == 1) = false := by simp [hr]
          have e3 : ((c.toNat : Int) ≠ 48) ↔ ¬ c.toNat = 48 := by omega
          simp only [h2, List.isEmpty_cons, Bool.not_false, Bool.true_and, Bool.false_or, Bool.and_true, List.head?_cons]
          by_cases k : c.toNat = 48
          · have : c = 48 := UInt8.toNat_inj.1 k
            subst this
            simp
          · have : c ≠ 48 := fun k2 => k (by rw [k2]; rfl)
            rw [decide_eq_true (show (c.toNat : Int) ≠ 48 by omega)]
            simp [this]
        rwa [this] at hR
    · have : by_ s = [] := List.eq_nil_of_length_eq_zero (by omega)
      rw [this] at hR
      exact hR
  | succ d ih =>
    intro i h0 h1 hd hp
    have hsz := size_by s
    obtain ⟨c, hc, hb, hdr⟩ := bt_get h0 (show i < s.size by omega)
    have bad : dig c = false → isNat (by_ s) = false := by
      intro hk
      unfold isNat
      have : (by_ s).all dig = false := by
        rw [List.all_eq_false]
        exact ⟨c, List.mem_of_getElem? hc, by simp [hk]⟩
      rw [this]
      simp
    refine F.garboardref01_Valid.L2.step _ _ _ _ _ ⟨fun h => ⟨by omega, fun h2 => ?_, fun h2 => ⟨by omega, fun h3 => ?_, fun h3 => ⟨by simp only [inR]; omega, ?_⟩⟩⟩, fun h => by omega⟩
    · rw [bad (by simp [dig]; omega)] at hR; exact hR
    · rw [bad (by simp [dig]; omega)] at hR; exact hR
    · have hc2 : dig c = true := by simp [dig]; omega
      refine ih (i + 1) (by omega) (by omega) (by omega) ?_
      rw [show (i + 1).toNat = i.toNat + 1 by omega, List.take_add_one, hc]
      simp [hp, hc2]

theorem ref_Valid (s : ByteArray) (hs : s.size < 2147483648) (w : World) : Pure Tryz.prog 75 #[.string s] w fun v _ => v = .bool (isNat (by_ s)) :=
  F.garboardref01_Valid.vc _ _ _ (ref_Valid_loop s hs _ _ _ rfl s.size 0 (by omega) (by omega) (by omega) (by simp))

theorem ref_trim_loop (B : Nat) (w : World) (A : Option Addr) (c : Nat) (R : Value → World → Prop) : ∀ (n : Nat) (ws : List Nat), SlU w A ws → ws.length = n → n < 2147483648 → n ≤ c → Small ws →
    (∀ m, m ≤ n → Norm (ws.take m) → wv (ws.take m) = wv ws → R (.slice A m c) w) → F.garboardref01_trim.L1 A n c B w R := by
  intro n
  induction n with
  | zero =>
    intro ws h hl hc hn hs hR
    refine F.garboardref01_trim.L1.step _ _ _ _ _ _ ⟨fun h => by omega, fun _ => hR 0 (by omega) (by simp [Norm]) (by have := List.eq_nil_of_length_eq_zero hl; subst this; rfl)⟩
  | succ n ih =>
    intro ws h hl hc hn hs hR
    obtain ⟨a, hA, x, hx, hcell⟩ := h.cell (j := ((n + 1 : Nat) : Int) - 1) (by omega) (by omega)
    have e : (((n + 1 : Nat) : Int) - 1).toNat = n := by omega
    refine F.garboardref01_trim.L1.step _ _ _ _ _ _ ⟨fun _ => ⟨by simp only [inR]; omega, by omega, a, hA, _, hcell, fun h0 => ⟨by simp only [inR]; omega, by omega, ?_⟩, fun h0 => ?_⟩, fun h => by omega⟩
    · rw [e] at hx ⊢
      have hx0 : x = 0 := by omega
      subst hx0
      have ew := wv_take_zero hl hx
      refine ih (ws.take n) (h.take n) (by simp; omega) (by omega) (by omega) (hs.take n) fun m hm h1 h2 => hR m (by omega) ?_ ?_
      · rw [List.take_take, Nat.min_eq_left hm] at h1; exact h1
      · rw [List.take_take, Nat.min_eq_left hm] at h2; rw [h2, ew]
    · rw [e] at hx
      have et : ws.take (n + 1) = ws := List.take_of_length_le (by omega)
      refine hR (n + 1) (Nat.le_refl _) ?_ (by rw [et])
      rw [et]
      unfold Norm
      rw [List.getLast?_eq_getElem?, hl, Nat.add_sub_cancel, hx]
      intro k
      cases k
      exact h0 rfl

theorem ref_trim {w : World} {A : Option Addr} {n c : Nat} {ws : List Nat} (h : SlU w A ws) (hl : ws.length = n) (hn : n ≤ c) (hc : n < 2147483648) (hs : Small ws) :
    Pure Tryz.prog 110 #[.slice A n c] w fun v w' => w' = w ∧ ∃ m, v = .slice A m c ∧ IsN w A m c (wv ws) ∧ m ≤ n ∧ Norm (ws.take m) ∧ wv (ws.take m) = wv ws :=
  F.garboardref01_trim.vc _ _ _ _ _ (ref_trim_loop _ _ _ _ _ n ws h hl hc hn hs fun m hm h1 h2 => ⟨rfl, m, rfl, ⟨ws.take m, h.take m, by simp; omega, by omega, by omega, hs.take m, h1, h2⟩, hm, h1, h2⟩)
theorem ref_trim_own {w : World} {B : Nat} {A : Option Addr} {n c : Nat} {ws : List Nat} (h : OwnU w B A n c ws) (hn : n < 2147483648) (hs : Small ws) :
    Pure Tryz.prog 110 #[.slice A n c] w fun v w' => w' = w ∧ ∃ m, v = .slice A m c ∧ OwnN w B A m c (wv ws) ∧ IsN w A m c (wv ws) :=
  Pure.mono (ref_trim h.sl h.len h.cap hn hs) fun v w' _ ⟨e, m, e2, h2, h3, h4, h5⟩ => ⟨e, m, e2, ⟨ws.take m, h.take h3 (by
    rcases h.2 with ⟨e, e2⟩ | ⟨g, cap, cur, e, _⟩
    · right; omega
    · cases e; exact .inl (by simp)), hs.take m, h4, h5⟩, h2⟩

theorem ref_Cmp_loop {w0 : World} {A0 A1 : Option Addr} {n0 c0 n1 c1 : Nat} {a b : List Nat} {R : Value → World → Prop} (ha : SlU w0 A0 a) (hal : a.length = n0) (hsa : Small a) (hb : SlU w0 A1 b) (hbl : b.length = n1) (hsb : Small b) (hnn : n0 = n1) (hn : n0 ≤ 1000000)
    (hR : ∀ w, R (.int .i64 (cmpI (wv a) (wv b))) w) :
    ∀ (i : Nat) (w : World), i ≤ n0 → Below w0.heap.size w0 w → a.drop i = b.drop i → F.garboardref01_Cmp.L6 A0 n0 c0 A1 n1 c1 ((i : Int) - 1) w0.heap.size w R := by
  intro i
  induction i with
  | zero =>
    intro w hi hw hd
    refine F.garboardref01_Cmp.L6.step _ _ _ _ _ _ _ _ _ _ ⟨fun h => by omega, fun _ => ?_⟩
    have := hR w
    have e : a = b := by simpa using hd
    subst e
    simpa [cmpI] using this
  | succ i ih =>
    intro w hi hw hd
    have e : ((i + 1 : Nat) : Int) - 1 = i := by omega
    rw [e]
    refine F.garboardref01_Cmp.L6.step _ _ _ _ _ _ _ _ _ _ ⟨fun _ => ?_, fun h => by omega⟩
    refine (ha.keep hw (Nat.le_refl _)).load hal (by omega) (by omega) ?_
    refine (hb.keep hw (Nat.le_refl _)).load hbl (by omega) (by omega) ?_
    rw [Int.toNat_natCast]
    refine ⟨fun h w2 e2 => ?_, fun h w2 e2 => ?_⟩
    · have := hR w2
      have h2 := wv_lt_at hsa (by omega) (by omega) hd (show a.getD i 0 < b.getD i 0 by omega)
      simp only [cmpI] at this
      rwa [if_pos (by omega)] at this
    · have hw2 := hw.trans e2.below
      refine (ha.keep hw2 (Nat.le_refl _)).load hal (by omega) (by omega) ?_
      refine (hb.keep hw2 (Nat.le_refl _)).load hbl (by omega) (by omega) ?_
      rw [Int.toNat_natCast]
      refine ⟨fun h3 w3 e3 => ?_, fun h3 => ⟨by simp only [inR]; omega, fun w3 e3 => ?_⟩⟩
      · have := hR w3
        have h2 := wv_lt_at hsb (by omega) (by omega) hd.symm (show b.getD i 0 < a.getD i 0 by omega)
        simp only [cmpI] at this
        rwa [if_neg (by omega), if_pos (by omega)] at this
      · refine ih w3 (by omega) (hw2.trans e3.below) ?_
        have h1 : a.getD i 0 = b.getD i 0 := by omega
        rw [List.drop_eq_getElem_cons (by omega : i < a.length), List.drop_eq_getElem_cons (by omega : i < b.length), hd]
        congr 1
        rw [List.getD_eq_getElem?_getD, List.getD_eq_getElem?_getD, List.getElem?_eq_getElem (by omega), List.getElem?_eq_getElem (by omega)] at h1
        exact h1

theorem ref_Cmp {w : World} {A0 A1 : Option Addr} {n0 c0 n1 c1 x y : Nat} (ha : IsN w A0 n0 c0 x) (hb : IsN w A1 n1 c1 y) (hx : x < Lim) (hy : y < Lim) :
    Pure Tryz.prog 79 #[.slice A0 n0 c0, .slice A1 n1 c1] w fun v _ => v = .int .i64 (cmpI x y) := by
  have l0 := ha.len hx
  have l1 := hb.len hy
  obtain ⟨a, a1, a2, a3, a4, a5, a6, rfl⟩ := ha
  obtain ⟨b, b1, b2, b3, b4, b5, b6, rfl⟩ := hb
  refine F.garboardref01_Cmp.vc _ _ _ _ _ _ _ _ ⟨fun h => ⟨fun h1 => ?_, fun h1 => ?_⟩, fun h => ⟨by simp only [inR]; omega, ?_⟩⟩
  · have h2 := wv_lt_len a5 b6 (by omega)
    simp only [cmpI]
    rw [if_pos (by omega)]
  · have h2 := wv_lt_len b5 a6 (by omega)
    simp only [cmpI]
    rw [if_neg (by omega), if_pos (by omega)]
  · refine ref_Cmp_loop a1 a2 a5 b1 b2 b5 (by omega) (by omega) (fun w => rfl) n0 w (Nat.le_refl _) (Below.refl _ _) ?_
    rw [List.drop_eq_nil_of_le (by omega), List.drop_eq_nil_of_le (by omega)]
end Go.Proofs.YtdnelnicnjplpaaGreatDoor.B

namespace Go.Proofs.YtdnelnicnjplpaaGreatDoor.B
open Go Go.RowKit Go.Proofs Go.Proofs.YtdnelnicnjplpaaGreatDoor.Vc

theorem OwnU.ext {w w2 : World} {B : Nat} {A : Option Addr} {n c : Nat} {ws : List Nat} (h : OwnU w B A n c ws) (e : Ext B [] w w2) : OwnU w2 B A n c ws :=
  h.other fun b hb => by
    rcases e.other b (h.blk b hb).2 with h1 | ⟨t, ht, _⟩
    · exact h1
    · cases ht

theorem OwnU.store2 {w : World} {B : Nat} {A : Option Addr} {n c : Nat} {ws : List Nat} (ho : OwnU w B A n c ws) {j x : Int} (h0 : 0 ≤ j) (h1 : j < n) (hx : 0 ≤ x) {bx : List Box} (hb : hasType 112 bx = false) {K : World → Prop}
    (h : ∀ w2 w3, Ext B [] w w2 → OwnU w3 B A n c (ws.set j.toNat x.toNat) → Below B w2 w3 → (∀ k, some k ≠ Value.ownBlock (.slice A n c) → w3.heap[k]? = w2.heap[k]?) → K w3) :
    (0 ≤ j ∧ j < n) ∧ ∃ a, A = some a ∧ ∀ w2, Ext B [] w w2 → ∃ (cs : List Value) (t : Nat), B ≤ (a.add (j.toNat * 1)).block ∧ (a.add (j.toNat * 1)).spot = none ∧ w2.heap[(a.add (j.toNat * 1)).block]? = some (.cells cs.toArray t (0, 0)) ∧
      (a.add (j.toNat * 1)).off + 1 ≤ cs.length ∧ hasType t bx = false ∧ ∀ w1, Wrote w2 w1 (a.add (j.toNat * 1)).block t (setCells cs (a.add (j.toNat * 1)).off [.int .u32 x]) → K w1 := by
  obtain ⟨_, a, hA, _⟩ := ho.store h0 h1 hx hb (K := fun _ => True) (fun _ _ _ _ => trivial)
  refine ⟨⟨h0, h1⟩, a, hA, fun w2 e => ?_⟩
  obtain ⟨_, a', hA', k⟩ := (ho.ext e).store h0 h1 hx hb (K := K) (fun w3 k1 k2 k3 => h w2 w3 e k1 k2 k3)
  rw [hA] at hA'
  cases hA'
  exact k

section
variable {w0 : World} {A1 A0 : Option Addr} {n1 c1 n0 c0 : Nat} {a b : List Nat} {R : Value → World → Prop}

theorem ref_times_inner (ha : SlU w0 A0 a) (hal : a.length = n0) (hsa : Small a) (hb : SlU w0 A1 b) (hbl : b.length = n1) (hsb : Small b) {i : Nat} (hi0 : i < n0) {n : Nat} (hn : i + n1 < n) (hn2 : n ≤ 1000000) {A : Option Addr} {c : Nat} {base : Nat}
    (hR : ∀ w ws, TimesInv w w0.heap.size A n c ws (i + 1 + n1) → Below w0.heap.size w0 w → wv ws = base + 1000000000 ^ i * a.getD i 0 * wv b →
      F.garboardref01_Times.L5 A0 n0 c0 A1 n1 c1 A n c ((i : Int) + 1) w0.heap.size w R) :
    ∀ (d k : Nat) (w : World) (ws : List Nat) (s : Nat), n1 - k = d → k ≤ n1 → TimesInv w w0.heap.size A n c ws (i + n1) → Below w0.heap.size w0 w → s < 1000000000 →
      wv ws + 1000000000 ^ (i + k) * s = base + 1000000000 ^ i * a.getD i 0 * wv (b.take k) →
      F.garboardref01_Times.L9 A0 n0 c0 A1 n1 c1 A n c i s k w0.heap.size w R := by
  have hx := hsa.getD i
  obtain ⟨x, hxe⟩ : ∃ x, x = a.getD i 0 := ⟨_, rfl⟩
  rw [← hxe] at hx hR
  rw [← hxe]
  intro d
  induction d with
  | zero =>
    intro k w ws s hd hk inv hw hs he
    have hkn : k = n1 := by omega
    subst hkn
    have eb : b.take k = b := List.take_of_length_le (by omega)
    rw [eb] at he
    refine F.garboardref01_Times.L9.step _ _ _ _ _ _ _ _ _ _ _ _ _ _ _ ⟨fun h => by omega, fun _ => ⟨by simp only [inR]; omega, by simp only [inR]; omega, ?_⟩⟩
    refine inv.own.store (by omega) (by omega) (by omega) rfl fun w1 o1 b1 _ => ⟨by simp only [inR]; omega, ?_⟩
    have e : ((i : Int) + (k : Int)).toNat = i + k := by omega
    rw [e, Int.toNat_natCast] at o1
    have hl := inv.own.len
    have hset := wv_set ws (i + k) s (by omega)
    rw [inv.zero (i + k) (Nat.le_refl _)] at hset
    refine hR w1 _ ⟨o1, inv.small.set hs, fun j hj => ?_⟩ (hw.trans b1) (by omega)
    rw [List.getD_eq_getElem?_getD, List.getElem?_set_ne (by omega), ← List.getD_eq_getElem?_getD]
    exact inv.zero j (by omega)
  | succ d ih =>
    intro k w ws s hd hk inv hw hs he
    have hl := inv.own.len
    have gb := hsb.getD k
    have go := inv.small.getD (i + k)
    have e : ((i : Int) + (k : Int)).toNat = i + k := by omega
    obtain ⟨y, hy⟩ : ∃ y, y = b.getD k 0 := ⟨_, rfl⟩
    obtain ⟨z, hz⟩ : ∃ z, z = ws.getD (i + k) 0 := ⟨_, rfl⟩
    rw [← hy] at gb
    rw [← hz] at go
    have hzv : ws.getD ((i : Int) + (k : Int)).toNat 0 = z := by rw [e, hz]
    have hxy : x * y ≤ 999999999 * 999999999 := Nat.mul_le_mul (by omega) (by omega)
    have hxy2 : (x : Int) * (y : Int) = ((x * y : Nat) : Int) := by simp
    refine F.garboardref01_Times.L9.step _ _ _ _ _ _ _ _ _ _ _ _ _ _ _ ⟨fun _ => ⟨by simp only [inR]; omega, ?_⟩, fun h => by omega⟩
    refine inv.own.sl.load hl (by omega) (by omega) ?_
    rw [hzv]
    refine ⟨by simp only [inR]; omega, ?_⟩
    refine (ha.keep hw (Nat.le_refl _)).load hal (by omega) (by omega) ?_
    rw [Int.toNat_natCast, ← hxe]
    refine ⟨by simp only [inR]; omega, ?_⟩
    refine (hb.keep hw (Nat.le_refl _)).load hbl (by omega) (by omega) ?_
    rw [Int.toNat_natCast, ← hy, hxy2]
    obtain ⟨t, ht⟩ : ∃ t : Nat, t = s + (x * y + z) := ⟨_, rfl⟩
    have et : (z : Int) + ((x * y : Nat) : Int) + (s : Int) = ((t : Nat) : Int) := by omega
    rw [et]
    refine ⟨by simp only [inR]; omega, by simp only [inR]; omega, by simp only [inR]; omega, by simp only [inR]; omega, by simp only [inR]; omega, by omega, by simp only [inR]; omega, ?_⟩
    refine inv.own.store2 (by omega) (by omega) (by omega) rfl fun w2 w1 e2 o1 b1 _ => ⟨⟨by omega, by omega, by simp only [inR]; omega⟩, by simp only [inR]; omega, ?_⟩
    have e1 : ((t : Int) % 1000000000).toNat = t % 1000000000 := by omega
    have e2' : (t : Int) / 1000000000 = ((t / 1000000000 : Nat) : Int) := by omega
    have e3 : (k : Int) + 1 = ((k + 1 : Nat) : Int) := by omega
    rw [e, e1] at o1
    rw [e2', e3]
    have hset := wv_set ws (i + k) (t % 1000000000) (by omega)
    rw [← hz] at hset
    refine ih (k + 1) w1 _ (t / 1000000000) (by omega) (by omega) ⟨o1, inv.small.set (by omega), fun j hj => ?_⟩ ((hw.trans e2.below).trans b1) (by omega) ?_
    · rw [List.getD_eq_getElem?_getD, List.getElem?_set_ne (by omega), ← List.getD_eq_getElem?_getD]
      exact inv.zero j (by omega)
    · rw [wv_take_succ, ← hy]
      have hm : t % 1000000000 + 1000000000 * (t / 1000000000) = s + (x * y + z) := by omega
      rw [show i + (k + 1) = (i + k) + 1 from rfl, Nat.pow_succ]
      have hp : 1000000000 ^ (i + k) = 1000000000 ^ i * 1000000000 ^ k := Nat.pow_add _ _ _
      generalize t % 1000000000 = r at *
      generalize t / 1000000000 = q at *
      generalize wv (ws.set (i + k) r) = W' at *
      generalize wv ws = W at *
      generalize wv (List.take k b) = V at *
      rw [hp] at hset he ⊢
      generalize 1000000000 ^ i = P at *
      generalize 1000000000 ^ k = Q at *
      clear hxy hxy2 et e1 e2' e3 o1 hz hy ht hxe hzv
      grind

theorem ref_times_outer (ha : SlU w0 A0 a) (hal : a.length = n0) (hsa : Small a) (hb : SlU w0 A1 b) (hbl : b.length = n1) (hsb : Small b) {A : Option Addr} {n c : Nat} (hn : n = n0 + n1) (hn2 : n ≤ 1000000)
    (hR : ∀ m w, IsN w A m c (wv a * wv b) → OwnN w w0.heap.size A m c (wv a * wv b) → Below w0.heap.size w0 w → R (.slice A m c) w) :
    ∀ (d i : Nat) (w : World) (ws : List Nat), n0 - i = d → i ≤ n0 → TimesInv w w0.heap.size A n c ws (i + n1) → Below w0.heap.size w0 w → wv ws = wv (a.take i) * wv b →
      F.garboardref01_Times.L5 A0 n0 c0 A1 n1 c1 A n c i w0.heap.size w R := by
  intro d
  induction d with
  | zero =>
    intro i w ws hd hi inv hw he
    have ea : a.take i = a := List.take_of_length_le (by omega)
    rw [ea] at he
    refine F.garboardref01_Times.L5.step _ _ _ _ _ _ _ _ _ _ _ _ _ ⟨fun h => by omega, fun _ => ?_⟩
    refine Pure.mono (ref_trim_own inv.own (by omega) inv.small) ?_
    rintro v w2 hb2 ⟨rfl, m, rfl, h, h2⟩
    rw [he] at h h2
    exact ⟨A, m, c, rfl, hR m w2 h2 h hw⟩
  | succ d ih =>
    intro i w ws hd hi inv hw he
    refine F.garboardref01_Times.L5.step _ _ _ _ _ _ _ _ _ _ _ _ _ ⟨fun _ => ?_, fun h => by omega⟩
    refine ref_times_inner ha hal hsa hb hbl hsb (by omega) (by omega) hn2 (base := wv ws) (fun w1 ws1 k1 k2 k3 => ?_) n1 0 w ws 0 (by omega) (by omega) inv hw (by omega) (by simp [wv])
    have e3 : (i : Int) + 1 = ((i + 1 : Nat) : Int) := by omega
    rw [e3]
    refine ih (i + 1) w1 ws1 (by omega) (by omega) k1 k2 ?_
    rw [k3, he, wv_take_succ, Nat.add_mul]
end

theorem IsN.nil (w : World) : IsN w none 0 0 0 := ⟨[], .inl rfl, rfl, by omega, by omega, Small.nil, by simp [Norm], rfl⟩
theorem OwnN.nil (w : World) (B : Nat) : OwnN w B none 0 0 0 := ⟨[], World.ownsRow_nil w _ _ _, Small.nil, by simp [Norm], rfl⟩
theorem IsN.zero {w : World} {A : Option Addr} {n c x : Nat} (h : IsN w A n c x) (hn : n = 0) : x = 0 := by
  have := h.pos_len
  apply Decidable.byContradiction
  intro k
  have := this.2 k
  omega

theorem ref_Times {w : World} {A0 A1 : Option Addr} {n0 c0 n1 c1 x y : Nat} (ha : IsN w A0 n0 c0 x) (hb : IsN w A1 n1 c1 y) (hx : x < Lim) (hy : y < Lim) :
    Pure Tryz.prog 87 #[.slice A0 n0 c0, .slice A1 n1 c1] w fun v w' => ∃ A n c, v = .slice A n c ∧ IsN w' A n c (x * y) ∧ OwnN w' w.heap.size A n c (x * y) := by
  have l0 := ha.len hx
  have l1 := hb.len hy
  have za := fun h => ha.zero h
  have zb := fun h => hb.zero h
  obtain ⟨a, a1, a2, a3, a4, a5, a6, rfl⟩ := ha
  obtain ⟨b, b1, b2, b3, b4, b5, b6, rfl⟩ := hb
  refine F.garboardref01_Times.vc _ _ _ _ _ _ _ _ ⟨fun h => ?_, fun h => ⟨fun h1 => ?_, fun h1 => ⟨by simp only [inR]; omega, ?_⟩⟩⟩
  · rw [za (by omega), Nat.zero_mul]
    exact ⟨_, _, _, rfl, IsN.nil w, OwnN.nil w _⟩
  · rw [zb (by omega), Nat.mul_zero]
    exact ⟨_, _, _, rfl, IsN.nil w, OwnN.nil w _⟩
  · refine runOk_make el_N El.zeroU32 rfl (by omega) (by omega) (Nat.le_refl _) fun A n w2 hn k1 _ k2 => ?_
    refine ref_times_outer a1 a2 a5 b1 b2 b5 (by omega) (by omega) (fun m w3 h1 h2 h3 => ⟨A, m, n, rfl, h1, h2⟩) n0 0 w2 _ rfl (by omega) ⟨OwnU.replicate k1, Small.replicate _, fun j _ => ?_⟩ k2 ?_
    · rw [List.getD_eq_getElem?_getD, List.getElem?_replicate]; split <;> rfl
    · rw [wv_replicate]; simp [wv]
end Go.Proofs.YtdnelnicnjplpaaGreatDoor.B

namespace Go.Proofs.YtdnelnicnjplpaaGreatDoor.B
open Go Go.RowKit Go.Proofs Go.Proofs.YtdnelnicnjplpaaGreatDoor.Vc

theorem lit_u32 {t : Nat} (el : El Tryz.prog t 112 1 4) (w : World) (xs : List Nat) (hl : xs.length ≤ 1024) :
    ∃ w', (Instr.buildSlice t xs.length ((u32s xs).zipIdx.map fun x => (x.2, x.1)).toArray).run Tryz.prog w = .ok (.slice (some ⟨w.heap.size, 0, none⟩) xs.length xs.length) w' ∧ Below w.heap.size w w' ∧ w.heap.size ≤ w'.heap.size ∧
      OwnU w' w.heap.size (some ⟨w.heap.size, 0, none⟩) xs.length xs.length xs := by
  have hcell : ∀ v ∈ u32s xs, v.cells = #[v] := by
    intro v hv
    simp only [u32s, List.mem_map] at hv
    obtain ⟨x, _, rfl⟩ := hv
    rfl
  have hflat : ∀ l : List Value, (∀ v ∈ l, v.cells = #[v]) → l.flatMap (fun v => v.cells.toList) = l := by
    intro l
    induction l with
    | nil => intro _; rfl
    | cons v r ih => intro h; rw [List.flatMap_cons, ih fun y hy => h y (by simp [hy]), h v (by simp)]; rfl
  have hr := run_buildAll el (u32s xs) (fun v hv => by rw [hcell v hv]; rfl) (by simpa [u32s] using hl) w
  rw [hflat _ hcell] at hr
  have hlen : (u32s xs).length = xs.length := by simp [u32s]
  rw [hlen] at hr
  have hg := World.grownBy_alloc w (.cells (u32s xs).toArray 112) none
  refine ⟨_, hr, below_grown hg (by simp) (Nat.le_refl _), hg.size, ?_⟩
  exact ⟨by simp [u32s], .inr ⟨w.heap.size, xs.length, _, rfl, Nat.le_refl _, heap_alloc_new w _, Nat.le_refl _, by simp only [maxLen]; omega, by simp [u32s], List.take_of_length_le (by simp [u32s])⟩⟩

theorem ref_wide {w : World} {x : Nat} (hx : x < 1000000000000000000) :
    Pure Tryz.prog 112 #[.int .u64 (x : Int)] w fun v w' => ∃ A n c, v = .slice A n c ∧ IsN w' A n c x := by
  have e1 : (x : Int) % 1000000000 = ((x % 1000000000 : Nat) : Int) := by omega
  have e2 : (x : Int) / 1000000000 % 1000000000 = ((x / 1000000000 % 1000000000 : Nat) : Int) := by omega
  have e3 : (x : Int) / 1000000000 / 1000000000 = ((x / 1000000000 / 1000000000 : Nat) : Int) := by omega
  refine F.garboardref01_wide.vc _ _ _ ⟨by omega, by simp only [inR]; omega, ⟨by omega, by omega, by simp only [inR]; omega⟩, by omega, by simp only [inR]; omega, ⟨by omega, by omega, by simp only [inR]; omega⟩, ⟨by omega, by omega, by simp only [inR]; omega⟩, by simp only [inR]; omega, ?_⟩
  rw [e1, e2, e3]
  obtain ⟨w', hr, hb, hs, ho⟩ := lit_u32 el_N w [x % 1000000000, x / 1000000000 % 1000000000, x / 1000000000 / 1000000000] (by simp)
  refine ⟨_, w', hr, hb, hs, fun k ty cs hty => (by cases hty), _, _, _, rfl, ?_⟩
  refine Pure.mono (ref_trim_own ho (by simp) (Small.cons (by omega) (Small.cons (by omega) (Small.cons (by omega) Small.nil)))) ?_
  rintro v w2 hb2 ⟨rfl, m, rfl, h, h2⟩
  have e : wv [x % 1000000000, x / 1000000000 % 1000000000, x / 1000000000 / 1000000000] = x := by simp only [wv]; omega
  rw [e] at h2
  exact ⟨_, _, _, rfl, _, _, _, rfl, h2⟩

theorem ref_Small {w : World} {x : Nat} (hx : x < 4294967296) :
    Pure Tryz.prog 78 #[.int .u32 (x : Int)] w fun v w' => ∃ A n c, v = .slice A n c ∧ IsN w' A n c x := by
  have e1 : (x : Int) % 1000000000 = ((x % 1000000000 : Nat) : Int) := by omega
  have e3 : (x : Int) / 1000000000 = ((x / 1000000000 : Nat) : Int) := by omega
  refine F.garboardref01_Small.vc _ _ _ ⟨by omega, ⟨by omega, by omega, by simp only [inR]; omega⟩, ?_⟩
  rw [e1, e3]
  obtain ⟨w', hr, hb, hs, ho⟩ := lit_u32 el_N w [x % 1000000000, x / 1000000000] (by simp)
  refine ⟨_, w', hr, hb, hs, fun k ty cs hty => (by cases hty), _, _, _, rfl, ?_⟩
  refine Pure.mono (ref_trim_own ho (by simp) (Small.cons (by omega) (Small.cons (by omega) Small.nil))) ?_
  rintro v w2 hb2 ⟨rfl, m, rfl, h, h2⟩
  have e : wv [x % 1000000000, x / 1000000000] = x := by simp only [wv]; omega
  rw [e] at h2
  exact ⟨_, _, _, rfl, _, _, _, rfl, h2⟩

theorem word_loop {w0 : World} {A0 : Option Addr} {n0 c0 : Nat} {a : List Nat} {R : Value → World → Prop} (ha : SlU w0 A0 a) (hal : a.length = n0) (hsa : Small a) (hn : n0 ≤ 2) (w : World) (hw : Below w0.heap.size w0 w) (hR : R (.int .u64 (wv a : Nat)) w) :
    ∀ (i : Nat) (s : Nat), i ≤ n0 → s = wv (a.drop i) → F.garboardref01_word.L3 A0 n0 c0 s ((i : Int) - 1) w0.heap.size w R := by
  intro i
  induction i with
  | zero =>
    intro s hi he
    refine F.garboardref01_word.L3.step _ _ _ _ _ _ _ _ ⟨fun h => by omega, fun _ => ?_⟩
    rw [he]
    exact hR
  | succ i ih =>
    intro s hi he
    have e : ((i + 1 : Nat) : Int) - 1 = i := by omega
    have g := hsa.getD i
    have hd := wv_lt (l := a.drop (i + 1)) fun x hx => hsa x (List.mem_of_mem_drop hx)
    have hp : 1000000000 ^ (a.drop (i + 1)).length ≤ 1000000000 ^ 1 := Nat.pow_le_pow_right (by omega) (by simp; omega)
    rw [← he] at hd
    rw [e]
    refine F.garboardref01_word.L3.step _ _ _ _ _ _ _ _ ⟨fun _ => ⟨by simp only [inR]; omega, ?_⟩, fun h => by omega⟩
    refine (ha.keep hw (Nat.le_refl _)).load hal (by omega) (by omega) ?_
    rw [Int.toNat_natCast]
    have et : (s : Int) * 1000000000 + ((a.getD i 0 : Nat) : Int) = ((s * 1000000000 + a.getD i 0 : Nat) : Int) := by omega
    rw [et]
    refine ⟨by simp only [inR]; omega, by simp only [inR]; omega, by simp only [inR]; omega, ih _ (by omega) ?_⟩
    rw [wv_drop a i, ← he]
    omega

theorem ref_word {w : World} {A0 : Option Addr} {n0 c0 x : Nat} (ha : IsN w A0 n0 c0 x) (hn : n0 ≤ 2) :
    Pure Tryz.prog 111 #[.slice A0 n0 c0] w fun v _ => v = .int .u64 (x : Nat) := by
  obtain ⟨a, a1, a2, a3, a4, a5, a6, rfl⟩ := ha
  refine F.garboardref01_word.vc _ _ _ _ _ ⟨by simp only [inR]; omega, ?_⟩
  exact word_loop a1 a2 a5 hn w (Below.refl _ _) rfl n0 0 (Nat.le_refl _) (by rw [List.drop_eq_nil_of_le (by omega)]; rfl)

theorem ref_small_loop {w0 : World} {A0 : Option Addr} {n0 c0 : Nat} {a : List Nat} {R : Value → World → Prop} (ha : SlU w0 A0 a) (hal : a.length = n0) (hsa : Small a) (hn : n0 ≤ 1000000) {d : Nat} (hd : 0 < d) (hd2 : d ≤ 1000000000) {A : Option Addr} {c : Nat}
    (hR : ∀ A n c w, IsN w A n c (wv a / d) → R (.tuple #[.slice A n c, .int .u32 (wv a % d : Nat)]) w) :
    ∀ (i : Nat) (w : World) (ws : List Nat) (r : Nat), i ≤ n0 → Below w0.heap.size w0 w → OwnU w w0.heap.size A n0 c ws → Small ws → r < d → wv (ws.drop i) * d + r = wv (a.drop i) →
      F.garboardref01_small.L4 A0 n0 c0 d A n0 c r ((i : Int) - 1) w0.heap.size w R := by
  intro i
  induction i with
  | zero =>
    intro w ws r hi hw ho hs hr he
    refine F.garboardref01_small.L4.step _ _ _ _ _ _ _ _ _ _ _ _ ⟨fun h => by omega, fun _ => ?_⟩
    refine Pure.mono (ref_trim_own ho (by omega) hs) ?_
    rintro v w2 hb2 ⟨rfl, m, rfl, h, h2⟩
    simp only [List.drop_zero] at he
    have e1 : wv a / d = wv ws := by rw [← he, Nat.mul_comm, Nat.mul_add_div hd, Nat.div_eq_of_lt hr, Nat.add_zero]
    have e2 : wv a % d = r := by rw [← he, Nat.mul_comm, Nat.mul_add_mod, Nat.mod_eq_of_lt hr]
    rw [e1, e2] at hR
    exact ⟨_, _, _, rfl, by simp only [inR]; omega, hR _ _ _ _ h2⟩
  | succ i ih =>
    intro w ws r hi hw ho hs hr he
    have e : ((i + 1 : Nat) : Int) - 1 = i := by omega
    have g := hsa.getD i
    rw [e]
    refine F.garboardref01_small.L4.step _ _ _ _ _ _ _ _ _ _ _ _ ⟨fun _ => ⟨by simp only [inR]; omega, ?_⟩, fun h => by omega⟩
    refine (ha.keep hw (Nat.le_refl _)).load hal (by omega) (by omega) ?_
    rw [Int.toNat_natCast]
    obtain ⟨t, ht⟩ : ∃ t : Nat, t = r * 1000000000 + a.getD i 0 := ⟨_, rfl⟩
    have et : (r : Int) * 1000000000 + ((a.getD i 0 : Nat) : Int) = (t : Int) := by omega
    have hq : t / d < 1000000000 := by
      rw [Nat.div_lt_iff_lt_mul hd]
      have : (r + 1) * 1000000000 ≤ d * 1000000000 := Nat.mul_le_mul_right _ (by omega)
      omega
    have eq : (t : Int) / (d : Int) = ((t / d : Nat) : Int) := by simp
    have em : (t : Int) % (d : Int) = ((t % d : Nat) : Int) := by simp
    have hdm := Nat.div_add_mod t d
    have hml := Nat.mod_lt t hd
    rw [et, eq, em]
    clear eq em
    generalize t / d = q at *
    generalize t % d = r' at *
    refine ⟨by simp only [inR]; omega, by simp only [inR]; omega, by simp only [inR]; omega, ⟨by omega, by omega, by simp only [inR]; omega⟩, by simp only [inR]; omega, ?_⟩
    refine ho.store (by omega) (by omega) (by omega) rfl fun w1 o1 b1 _ => ⟨by simp only [inR]; omega, ⟨by omega, by omega⟩, by simp only [inR]; omega, ?_⟩
    rw [Int.toNat_natCast, Int.toNat_natCast] at o1
    have hl := ho.len
    refine ih w1 _ _ (by omega) (hw.trans b1) o1 (hs.set hq) hml ?_
    rw [wv_drop, wv_drop a, ← he, List.drop_set, if_pos (by omega)]
    rw [List.getD_eq_getElem?_getD, List.getElem?_set_self (by omega)]
    simp only [Option.getD_some]
    generalize wv (List.drop (i + 1) ws) = V
    clear et o1 hq he hml
    grind

theorem ref_small {w : World} {A0 : Option Addr} {n0 c0 x d : Nat} (ha : IsN w A0 n0 c0 x) (l0 : n0 ≤ 1000000) (hd : 0 < d) (hd2 : d ≤ 1000000000) :
    Pure Tryz.prog 131 #[.slice A0 n0 c0, .int .u32 (d : Int)] w fun v w' => ∃ A n c, v = .tuple #[.slice A n c, .int .u32 (x % d : Nat)] ∧ IsN w' A n c (x / d) := by
  obtain ⟨a, a1, a2, a3, a4, a5, a6, rfl⟩ := ha
  refine F.garboardref01_small.vc _ _ _ _ _ _ ?_
  refine runOk_make el_N El.zeroU32 rfl (by omega) (by omega) (Nat.le_refl _) fun A n w2 hn k1 _ k2 => ⟨by simp only [inR]; omega, ?_⟩
  have hn' : n = n0 := by omega
  subst hn'
  refine ref_small_loop a1 a2 a5 (by omega) hd hd2 (fun A n c w h1 => ⟨A, n, c, rfl, h1⟩) n w2 _ 0 (Nat.le_refl _) k2 (OwnU.replicate k1) (Small.replicate _) hd ?_
  rw [List.drop_eq_nil_of_le (by simp), List.drop_eq_nil_of_le (by omega)]
  simp [wv]
end Go.Proofs.YtdnelnicnjplpaaGreatDoor.B

namespace Go.Proofs.YtdnelnicnjplpaaGreatDoor.B
open Go Go.RowKit Go.Proofs Go.Proofs.YtdnelnicnjplpaaGreatDoor.Vc

theorem foldE (l : Tx) : ∀ a : Nat, l.foldl (fun a c => 10 * a + dv c) a = a * 10 ^ l.length + valD l := by
  induction l with
  | nil => intro a; simp [valD]
  | cons c r ih =>
    intro a
    have h1 := ih (10 * a + dv c)
    have h2 := ih (10 * 0 + dv c)
    simp only [valD, List.foldl_cons, List.length_cons, Nat.pow_succ] at *
    rw [h1, h2]
    grind
theorem valE_append (a b : Tx) : valD (a ++ b) = valD a * 10 ^ b.length + valD b := by
  have := foldE b (valD a)
  rw [← this]
  simp [valD, List.foldl_append]

theorem from_inner {B : Nat} {R : Value → World → Prop} {s : ByteArray} (hs : s.size ≤ 900000) (hd : (by_ s).all dig = true) {A : Option Addr} {n c : Nat} {e b : Nat} (he : e ≤ s.size) (hbe : b ≤ e) (h9 : e - b ≤ 9) {w : World}
    (hR : ∀ x : Nat, x = valD (((by_ s).take e).drop b) → x < 1000000000 →
      F.garboardref01_From.L7 s A n c e x e B w R) :
    ∀ (d i x : Nat), e - i = d → b ≤ i → i ≤ e → x = valD (((by_ s).take i).drop b) → x < 10 ^ (i - b) → F.garboardref01_From.L7 s A n c e x i B w R := by
  intro d
  induction d with
  | zero =>
    intro i x hi hb2 hie hx hlt
    have : i = e := by omega
    subst this
    have hp : 10 ^ (i - b) ≤ 10 ^ 9 := Nat.pow_le_pow_right (by omega) h9
    exact hR x hx (by omega)
  | succ d ih =>
    intro i x hi hb2 hie hx hlt
    obtain ⟨ch, hc, hbt, _⟩ := bt_get (s := s) (i := (i : Int)) (by omega) (by omega)
    rw [Int.toNat_natCast] at hc
    have hdc : 48 ≤ ch.toNat ∧ ch.toNat ≤ 57 := by
      rw [List.all_eq_true] at hd
      have := hd ch (List.mem_of_getElem? hc)
      simpa [dig] using this
    have hp : 10 ^ (i - b) ≤ 10 ^ 8 := Nat.pow_le_pow_right (by omega) (by omega)
    refine F.garboardref01_From.L7.step _ _ _ _ _ _ _ _ _ _ ⟨fun _ => ?_, fun h => by omega⟩
    rw [hbt]
    have ev : (10 : Int) * (x : Int) + ((ch.toNat : Int) - 48) = ((10 * x + dv ch : Nat) : Int) := by simp only [dv]; omega
    have e3 : (i : Int) + 1 = ((i + 1 : Nat) : Int) := by omega
    rw [ev, e3]
    have hdv : dv ch ≤ 9 := by simp only [dv]; omega
    refine ⟨by simp only [inR]; omega, ⟨by omega, by omega⟩, by simp only [inR]; omega, by simp only [inR]; omega, by simp only [inR]; omega, by simp only [inR]; omega, ih (i + 1) _ (by omega) (by omega) (by omega) ?_ ?_⟩
    · rw [List.take_add_one, hc, List.drop_append_of_le_length (by rw [List.length_take, ← size_by]; omega)]
      have e4 : (some ch).toList = [ch] := rfl
      rw [e4, valE_append, ← hx]
      simp [valD]
      omega
    · rw [show i + 1 - b = (i - b) + 1 by omega, Nat.pow_succ]
      omega

theorem from_loop {w0 : World} {R : Value → World → Prop} {s : ByteArray} (hs : s.size ≤ 900000) (hd : (by_ s).all dig = true) (hR : ∀ A n c w, IsN w A n c (valD (by_ s)) → R (.slice A n c) w) :
    ∀ (d : Nat) (e : Nat) (w : World) (A : Option Addr) (n c : Nat) (ws : List Nat), e ≤ d → e ≤ s.size → n + e ≤ 900000 → OwnU w w0.heap.size A n c ws → Small ws → w0.heap.size ≤ w.heap.size →
      wv ws + 1000000000 ^ n * valD ((by_ s).take e) = valD (by_ s) → F.garboardref01_From.L3 s A n c e w0.heap.size w R ∧ (∀ k : Int, k ≤ 0 → e = 0 → F.garboardref01_From.L3 s A n c k w0.heap.size w R) := by
  intro d
  induction d with
  | zero =>
    intro e w A n c ws hed hes hn ho hsm hw he
    have h0 : e = 0 := by omega
    subst h0
    have fin : ∀ k : Int, k ≤ 0 → F.garboardref01_From.L3 s A n c k w0.heap.size w R := by
      intro k hk
      refine F.garboardref01_From.L3.step _ _ _ _ _ _ _ _ ⟨fun h => by omega, fun _ => ?_⟩
      refine Pure.mono (ref_trim_own ho (by omega) hsm) ?_
      rintro v w2 _ ⟨rfl, m, rfl, _, h⟩
      have e : wv ws = valD (by_ s) := by rw [← he]; simp [valD]
      rw [e] at h
      exact ⟨_, _, _, rfl, hR _ _ _ _ h⟩
    exact ⟨fin ((0 : Nat) : Int) (by omega), fun k hk _ => fin k hk⟩
  | succ d ih =>
    intro e w A n c ws hed hes hn ho hsm hw he
    by_cases h0 : e = 0
    · exact ih e w A n c ws (by omega) hes hn ho hsm hw he
    refine ⟨?_, fun k hk h => absurd h h0⟩
    obtain ⟨b, hb⟩ : ∃ b : Nat, b = e - 9 := ⟨_, rfl⟩
    have eb : (if ((e : Int) - 9) > (0 : Int) then ((e : Int) - 9) else (0 : Int)) = (b : Int) := by split <;> omega
    refine F.garboardref01_From.L3.step _ _ _ _ _ _ _ _ ⟨fun _ => ⟨by simp only [inR]; omega, ?_⟩, fun h => by omega⟩
    rw [eb]
    refine from_inner hs hd hes (by omega) (by omega) (fun x hx hxl => ?_) (e - b) b 0 rfl (Nat.le_refl _) (by omega) ?_ (Nat.pow_pos (by omega))
    · refine F.garboardref01_From.L7.step _ _ _ _ _ _ _ _ _ _ ⟨fun h => by omega, fun _ => ?_⟩
      refine app_u32 (B0 := w0.heap.size) el_N (Nat.le_refl _) ho (by omega) (by omega) (by simp) (by omega) fun A' c' w5 o5 _ b5 => ⟨by simp only [inR]; omega, ?_⟩
      rw [Int.toNat_natCast] at o5
      have s5 := b5.size
      have ev : valD ((by_ s).take e) = valD ((by_ s).take b) * 10 ^ (e - b) + x := by
        have e1 : (by_ s).take e = (by_ s).take b ++ ((by_ s).take e).drop b := by
          conv => lhs; rw [← List.take_append_drop b ((by_ s).take e)]
          rw [List.take_take, Nat.min_eq_left (by omega)]
        rw [e1, valE_append, ← hx, List.length_drop, List.length_take, ← size_by, Nat.min_eq_left hes]
      have hnew := ih b w5 A' (n + 1) c' (ws ++ [x]) (by omega) (by omega) (by omega) o5 (hsm.append (Small.cons hxl Small.nil)) (by omega) (by
        rw [wv_append, ho.len, Nat.pow_succ]
        rw [ev] at he
        rw [← he]
        simp only [wv]
        by_cases hb0 : b = 0
        · rw [hb0, List.take_zero]
          have e0 : valD [] = 0 := rfl
          rw [e0, Nat.zero_mul, Nat.zero_add, Nat.mul_zero, Nat.add_zero, Nat.mul_zero, Nat.add_zero]
        · have e10 : 10 ^ (e - b) = 1000000000 := by rw [show e - b = 9 by omega]
          rw [e10]
          generalize valD ((by_ s).take b) = V
          generalize 1000000000 ^ n = P
          grind)
      by_cases hb0 : b = 0
      · exact hnew.2 _ (by omega) hb0
      · have e9 : (e : Int) - 9 = (b : Int) := by omega
        rw [e9]
        exact hnew.1
    · rw [List.drop_eq_nil_of_le (by rw [List.length_take]; omega)]; simp [valD]

theorem ref_From {w : World} {s : ByteArray} (hs : s.size ≤ 900000) (h : isNat (by_ s) = true) :
    Pure Tryz.prog 77 #[.string s] w fun v w' => ∃ A n c, v = .slice A n c ∧ IsN w' A n c (valD (by_ s)) := by
  have hd : (by_ s).all dig = true := by simp [isNat] at h; simpa using h.2
  refine F.garboardref01_From.vc _ _ _ ?_
  exact (from_loop (w0 := w) hs hd (fun A n c w k => ⟨A, n, c, rfl, k⟩) s.size s.size w none 0 0 [] (Nat.le_refl _) (Nat.le_refl _) (by omega) (World.ownsRow_nil w _ _ _) Small.nil (Nat.le_refl _) (by
    rw [List.take_of_length_le (by rw [← size_by]; exact Nat.le_refl _)]; simp [wv])).1
end Go.Proofs.YtdnelnicnjplpaaGreatDoor.B
