/- Part 11 of the proofs that: a claim about cargo holds -/
import Derived.Test.YtdnelnicnjplpaaGreatDoorB10
import Derived.Test.YtdnelnicnjplpaaGreatDoorProg
import Derived.Test.YtdnelnicnjplpaaGreatDoorCards
import Derived.Test.YtdnelnicnjplpaaGreatDoorTie
import Derived.WalkKit
import Derived.ProofKit
import Derived.OpenShut
import Derived.Carry
import Derived.Deep.DeepHandedRow
import Derived.Deep.DeepWitnessRowRef
import Derived.Deep.Slices
import Derived.Deep.Fields
import Derived.Lib.SmallJoins
import Derived.Lib.LaidIn
import Derived.Lib.LaidTab
import Derived.Stop.LaidErr
import Derived.Shelf.Vars
import Derived.Laws.IdiomArrays
set_option linter.unusedVariables false
set_option linter.unusedSimpArgs false
namespace Go.Proofs.YtdnelnicnjplpaaGreatDoor.B
open Go Go.RowKit Go.Proofs Go.Proofs.YtdnelnicnjplpaaGreatDoor.Vc

section
variable {w : World} {A0 A1 A : Option Addr} {n0 c0 n1 c1 n c : Nat} {ps : List Pa} {hs : List Ho} {l : List Sw}
theorem r47_Held (hc : CgIn w A0 n0 A1 n1 ps hs) (h : SlR w A 3 (l.map Sw.row)) (hl : l.length = n) (hn : n ≤ 40) (id : Int) :
    Pure Tryz.prog 20 #[.agg #[.slice A0 n0 c0, .slice A1 n1 c1], .slice A n c, .int .i64 id] w fun v _ => v = heldV ps hs l id := by
  refine F.garboardref47_Held.vc _ _ _ _ _ _ _ _ _ _ _ _ fun w1 x1 => ?_
  have hw := k0 x1
  refine Pure.mono (r47_Stowed (hc.keep hw) (h.keep hw (Nat.le_refl _)) hl (by omega)) ?_
  rintro v w4 b4 rfl
  have hw := kP hw b4
  unfold heldV
  refine ⟨_, rfl, fun h0 w5 _ => by rw [if_pos h0], fun h0 => ?_⟩
  rw [if_neg h0]
  have hr := stowed_right (Decidable.not_not.1 h0)
  have hok := hr.ld (by omega)
  refine Pure.mono (r47_Hold (hc.keep hw) id) ?_
  rintro v w8 b8 rfl
  have hw := kP hw b8
  refine ⟨_, rfl, fun h1 w9 _ => by rw [if_pos (ixI_neg.1 h1)], fun h1 => ?_⟩
  rw [if_neg (fun k => h1 (ixI_neg.2 k))]
  have hid : id ≠ 0 := by
    cases hx : hix hs id with
    | none => exact absurd (ixI_neg.2 hx) h1
    | some k =>
      obtain ⟨x, e, e2⟩ := hix_some hx
      have := (hr.c.h1 x (List.mem_of_getElem? e)).1.1
      omega
  refine Pure.mono (r47_sum (hc.keep hw) (h.keep hw (Nat.le_refl _)) hl hok id) ?_
  rintro v w21 b21 rfl
  rw [selS_in hid]
  exact ⟨_, _, _, _, _, _, rfl, fun w22 _ => rfl⟩
theorem r47_Total (hc : CgIn w A0 n0 A1 n1 ps hs) (h : SlR w A 3 (l.map Sw.row)) (hl : l.length = n) (hn : n ≤ 40) :
    Pure Tryz.prog 22 #[.agg #[.slice A0 n0 c0, .slice A1 n1 c1], .slice A n c] w fun v _ => v = totalV ps hs l := by
  refine F.garboardref47_Total.vc _ _ _ _ _ _ _ _ _ _ _ fun w1 x1 => ?_
  have hw := k0 x1
  refine Pure.mono (r47_Stowed (hc.keep hw) (h.keep hw (Nat.le_refl _)) hl (by omega)) ?_
  rintro v w4 b4 rfl
  have hw := kP hw b4
  unfold totalV
  refine ⟨_, rfl, fun h0 w5 _ => by rw [if_pos h0], fun h0 => ?_⟩
  rw [if_neg h0]
  have hok := (stowed_right (Decidable.not_not.1 h0)).ld (by omega)
  refine Pure.mono (r47_sum (hc.keep hw) (h.keep hw (Nat.le_refl _)) hl hok 0) ?_
  rintro v w21 b21 rfl
  rw [selS_zero]
  exact ⟨_, _, _, _, _, _, rfl, fun w22 _ => rfl⟩
theorem r47_less {s s' : ByteArray} {x y : Rat} (h1 : ∀ w, Pure Tryz.prog 49 #[.string s] w (QR x)) (h2 : ∀ w, Pure Tryz.prog 49 #[.string s'] w (QR y)) (bx : Big x) (b_y : Big y) {K : Bool → World → Prop} {w : World} (hK : ∀ w', Below w.heap.size w w' → K (decide (x < y)) w') :
    Pure Tryz.prog 49 #[.string s] w fun r w1 => ∃ (b : Bool) (A : Option Addr) (n c : Nat) (A' : Option Addr) (n' c' : Nat), r = .agg #[.bool b, .slice A n c, .slice A' n' c'] ∧
      Pure Tryz.prog 49 #[.string s'] w1 fun r w2 => ∃ (b2 : Bool) (A2 : Option Addr) (n2 c2 : Nat) (A2' : Option Addr) (n2' c2' : Nat), r = .agg #[.bool b2, .slice A2 n2 c2, .slice A2' n2' c2'] ∧
        Pure Tryz.prog 64 #[.agg #[.bool b, .slice A n c, .slice A' n' c'], .agg #[.bool b2, .slice A2 n2 c2, .slice A2' n2' c2']] w2 fun r w3 => ∃ b, r = .bool b ∧ K b w3 := by
  refine Pure.mono (h1 w) ?_
  rintro v w1 b1 ⟨b, A, n, c, A', n', c', rfl, k1⟩
  refine ⟨_, _, _, _, _, _, _, rfl, Pure.mono (h2 w1) ?_⟩
  rintro v w2 b2 ⟨b', A2, n2, c2, A2', n2', c2', rfl, k2⟩
  refine ⟨_, _, _, _, _, _, _, rfl, Pure.mono (ref3_Less (k1.below b2) k2 bx b_y) ?_⟩
  rintro v w3 b3 rfl
  exact ⟨_, rfl, hK w3 (kP (kP b1 b2) b3)⟩
theorem num_rS {x : Rat} (hx : Big x) (w : World) : Pure Tryz.prog 49 #[.string (rS x)] w (QR x) := by
  have hlen := Sm.length hx (by omega)
  have hsz : (rS x).size ≤ 300000 := by
    have : (rS x).size = (ratT x).length := by unfold rS; rw [size_by, by_st]
    omega
  have := ref47_NumL hsz (vR_rS x) w
  rwa [qR_rS] at this
theorem over_L4 (hc : CgIn w A0 n0 A1 n1 ps hs) (h : SlR w A 3 (l.map Sw.row)) (hl : l.length = n) (hr : RightS ps hs l) (hok : LdOk ps hs l) {R : Value → World → Prop}
    (hR : ∀ w', R (.tuple #[.int .i64 (ixI (hs.findIdx? (overB ps hs l))), .int .i64 0]) w') :
    ∀ (d i : Nat) (w' : World), n1 - i = d → i ≤ n1 → Below w.heap.size w w' → ixI (hs.findIdx? (overB ps hs l)) = idxG (overB ps hs l) i (hs.drop i) → F.garboardref47_Overloaded.L4 A n c i A0 n0 c0 A1 n1 c1 w.heap.size w' R := by
  have hnh := hc.nh
  have hlh := hc.lh
  intro d
  induction d with
  | zero =>
    intro i w' hd hi hw hx
    rw [List.drop_eq_nil_of_le (by omega)] at hx
    rw [hx] at hR
    exact F.garboardref47_Overloaded.L4.step _ _ _ _ _ _ _ _ _ _ _ _ _ ⟨fun h => by omega, fun _ => hR w'⟩
  | succ d ih =>
    intro i w' hd hi hw hx
    have hil : i < hs.length := by omega
    have e3 : (i : Int) + 1 = ((i + 1 : Nat) : Int) := by omega
    have hm := List.getElem_mem hil
    have hvh := hr.c.vh _ hm
    unfold vH at hvh
    simp only [Bool.and_eq_true] at hvh
    have hsm := hc.sh _ hm
    have hid := (hr.c.h1 _ hm).1.1
    rw [List.drop_eq_getElem_cons hil, idxG] at hx
    have cells : ∀ w', Below w.heap.size w w' → _ := fun w' hw' => (hc.h.keep hw' (Nat.le_refl _)).at_ (fun _ => rfl) hlh hil
    obtain ⟨hb, a, hA, _, hcell⟩ := cells w' hw
    have cell : ∀ w', Below w.heap.size w w' → ∀ (k : Nat) (u : Value), (hs[i].row)[k]? = some u → CellsAt w' ((a.add ((i : Int).toNat * 7)).add k) [u] := fun w' hw' k u hk => by
      obtain ⟨_, a', hA', _, hc'⟩ := cells w' hw'
      rw [hA] at hA'
      cases hA'
      exact hc' k u hk
    obtain ⟨⟨b1, b2, b3⟩, b4, b5, b6⟩ := (hok.filter fun s => decide (s.hold = hs[i].id)).smL hc
    have b1 : Big (sumR (tP ps Pa.mass) (inS l hs[i].id)) := b1
    have b2 : Big (sumR (tP ps Pa.vol) (inS l hs[i].id)) := b2
    have bm : Big (qR hs[i].most) := hsm.most.big hvh.1.1.1.2
    have br : Big (qR hs[i].room) := hsm.room.big hvh.1.1.1.1
    have sum : ∀ w', Below w.heap.size w w' → Pure Tryz.prog 60 #[.agg #[.slice A0 n0 c0, .slice A1 n1 c1], .slice A n c, .int .i64 hs[i].id] w' fun v _ => v = ldF ps hs (inS l hs[i].id) := fun w' hw' => by
      have := r47_sum (c := c) (c0 := c0) (c1 := c1) (hc.keep hw') (h.keep hw' (Nat.le_refl _)) hl hok hs[i].id
      rwa [selS_in (by omega)] at this
    have one : ∀ w1, Below w.heap.size w w1 → ∀ w2, Below w.heap.size w w2 → _ := fun w1 hw1 w2 hw2 => r47_less (x := qR hs[i].most) (y := sumR (tP ps Pa.mass) (inS l hs[i].id)) (ref47_Num hsm.most hvh.1.1.1.2) (num_rS b1) bm b1 (w := w2)
      (K := fun b32 w32 => (b32 = true → R (.tuple #[.int .i64 (i : Int), .int .i64 0]) w32) ∧ (b32 = false → (0 ≤ (i : Int) ∧ (i : Int) < n1) ∧ ∃ a33, A1 = some a33 ∧ ∃ s34 : ByteArray, CellsAt w1 ((a33.add ((i : Int).toNat * 7)).add 2) [.string s34] ∧
        Pure Tryz.prog 49 #[.string s34] w32 fun r w1 => ∃ (b : Bool) (A3 : Option Addr) (n3 c3 : Nat) (A3' : Option Addr) (n3' c3' : Nat), r = .agg #[.bool b, .slice A3 n3 c3, .slice A3' n3' c3'] ∧
          Pure Tryz.prog 49 #[.string (rS (sumR (tP ps Pa.vol) (inS l hs[i].id)))] w1 fun r w2 => ∃ (b2 : Bool) (A2 : Option Addr) (n2 c2 : Nat) (A2' : Option Addr) (n2' c2' : Nat), r = .agg #[.bool b2, .slice A2 n2 c2, .slice A2' n2' c2'] ∧
            Pure Tryz.prog 64 #[.agg #[.bool b, .slice A3 n3 c3, .slice A3' n3' c3'], .agg #[.bool b2, .slice A2 n2 c2, .slice A2' n2' c2']] w2 fun r w3 => ∃ b, r = .bool b ∧ (b = true → R (.tuple #[.int .i64 (i : Int), .int .i64 0]) w3) ∧ (b = false → inR .i64 ((i : Int) + 1) ∧ F.garboardref47_Overloaded.L4 A n c ((i : Int) + 1) A0 n0 c0 A1 n1 c1 w.heap.size w3 R))) fun w32 h32 => by
      have hw32 := kP hw2 h32
      refine ⟨fun k => ?_, fun k => ⟨hb, a, hA, _, cell w1 hw1 2 _ rfl, ?_⟩⟩
      · rw [if_pos (by unfold overB; rw [k]; rfl)] at hx
        rw [← hx]
        exact hR w32
      · refine r47_less (x := qR hs[i].room) (y := sumR (tP ps Pa.vol) (inS l hs[i].id)) (ref47_Num hsm.room hvh.1.1.1.1) (num_rS b2) br b2 (K := fun b w3 => (b = true → R (.tuple #[.int .i64 (i : Int), .int .i64 0]) w3) ∧ (b = false → inR .i64 ((i : Int) + 1) ∧ F.garboardref47_Overloaded.L4 A n c ((i : Int) + 1) A0 n0 c0 A1 n1 c1 w.heap.size w3 R)) fun w3 h3 => ⟨fun k2 => ?_, fun k2 => ⟨by simp only [inR]; omega, ?_⟩⟩
        · rw [if_pos (by unfold overB; rw [k2, Bool.or_true])] at hx
          rw [← hx]
          exact hR w3
        · rw [if_neg (by unfold overB; rw [k, k2]; simp)] at hx
          rw [e3]
          exact ih (i + 1) w3 (by omega) (by omega) (kP hw32 h3) hx
    refine F.garboardref47_Overloaded.L4.step _ _ _ _ _ _ _ _ _ _ _ _ _ ⟨fun _ => ⟨hb, a, hA, _, cell w' hw 0 _ rfl, fun w7 x7 => ?_, fun w7 x7 => ?_⟩, fun h => by omega⟩
    · have hw7 := kE hw x7
      refine Pure.mono (sum w7 hw7) ?_
      rintro v w15 b15 rfl
      have hw15 := kP hw7 b15
      refine ⟨_, _, _, _, _, _, rfl, fun w16 x16 => ⟨hb, a, hA, _, cell w16 (kE hw15 x16) 3 _ rfl, fun w19 x19 => ?_⟩⟩
      exact one w16 (kE hw15 x16) w19 (kE (kE hw15 x16) x19)
    · have hw7 := kE hw x7
      refine Pure.mono (sum w7 hw7) ?_
      rintro v w15 b15 rfl
      have hw15 := kP hw7 b15
      refine ⟨_, _, _, _, _, _, rfl, fun w16 x16 => ⟨hb, a, hA, _, cell w16 (kE hw15 x16) 3 _ rfl, fun w19 x19 => ?_⟩⟩
      exact one w16 (kE hw15 x16) w19 (kE (kE hw15 x16) x19)
theorem r47_Overloaded (hc : CgIn w A0 n0 A1 n1 ps hs) (h : SlR w A 3 (l.map Sw.row)) (hl : l.length = n) (hn : n ≤ 40) :
    Pure Tryz.prog 24 #[.agg #[.slice A0 n0 c0, .slice A1 n1 c1], .slice A n c] w fun v _ => v = overV ps hs l := by
  have hnh := hc.nh
  refine F.garboardref47_Overloaded.vc _ _ _ _ _ _ _ _ _ _ _ fun w1 x1 => ?_
  have hw := k0 x1
  refine Pure.mono (r47_Stowed (hc.keep hw) (h.keep hw (Nat.le_refl _)) hl (by omega)) ?_
  rintro v w4 b4 rfl
  have hw := kP hw b4
  unfold overV
  refine ⟨_, rfl, fun h0 => by rw [if_pos h0], fun h0 => ?_⟩
  rw [if_neg h0]
  have hr := stowed_right (Decidable.not_not.1 h0)
  refine over_L4 hc h hl hr (hr.ld (by omega)) (fun _ => rfl) n1 0 w4 rfl (by omega) hw ?_
  have := idxG_find (overB ps hs l) hs 0
  rw [List.drop_zero, this]
  cases hs.findIdx? (overB ps hs l) with
  | none => rfl
  | some i => simp [ixI]
end
end Go.Proofs.YtdnelnicnjplpaaGreatDoor.B

set_option maxRecDepth 100000
set_option maxHeartbeats 4000000
namespace Go.Proofs.YtdnelnicnjplpaaGreatDoor.F
open Go Go.RowKit Go.Proofs Go.Proofs.YtdnelnicnjplpaaGreatDoor.Vc
noncomputable def garboardlaw47_CargoHolds.cx (w : World) (B : Nat) (R : Value → World → Prop) : Cx := ⟨Tryz.prog, 4, 101, Tryz.f4.results.toList, [], [], w, B, R⟩
theorem garboardlaw47_CargoHolds.vc (b : Option Addr) (c d : Nat) (e : Option Addr) (f g : Nat) (i : Option Addr) (a j : Nat) (m : Int) (w : World) (R : Value → World → Prop)
    (h : (∀ w1, Ext w.heap.size [] w w1 → (Pure P 11 #[] w1 fun r3 w4 => ∃ n, r3 = .bool n ∧ (((n = false) → (R (.bool false) w4)) ∧ (¬ (n = false) → (Pure P 12 #[.agg #[.slice b c d, .slice e f g]] w4 fun r6 o => ∃ p, r6 = .bool p ∧ (((p = false) → (R (.bool true) o)) ∧ (¬ (p = false) → ((((a : Int) > 40) → (R (.bool true) o)) ∧ (¬ ((a : Int) > 40) → (Pure P 14 #[.agg #[.slice b c d, .slice e f g]] o fun d7 d8 => ∃ A8 n8 c8 A9 n9 c9, d7 = .agg #[.slice A8 n8 c8, .slice A9 n9 c9] ∧ (Pure P 17 #[.slice i a j] d8 fun d9 e0 => ∃ a8 a9 b0, d9 = .slice a8 a9 b0 ∧ (Pure P 19 #[.agg #[.slice A8 n8 c8, .slice A9 n9 c9], .slice a8 a9 b0, .int .i64 m] e0 fun e1 e2 => ∃ q r s t u v x, e1 = .tuple #[.agg #[.string q, .string r, .string s, .string t, .string u, .string v], .int .i64 x] ∧ (∀ b1, Ext w.heap.size [] e2 b1 → (Pure P 20 #[.agg #[.slice b c d, .slice e f g], .slice i a j, .int .i64 m] b1 fun e3 e4 => ∃ y z A C D E G, e3 = .tuple #[.agg #[.string y, .string z, .string A, .string C, .string D, .string E], .int .i64 G] ∧ (∀ b2, Ext w.heap.size [] e4 b2 → (Pure P 14 #[.agg #[.slice b c d, .slice e f g]] b2 fun e5 e6 => ∃ b3 b4 b5 b6 b7 b8, e5 = .agg #[.slice b3 b4 b5, .slice b6 b7 b8] ∧ (Pure P 17 #[.slice i a j] e6 fun e7 e8 => ∃ b9 c0 c1, e7 = .slice b9 c0 c1 ∧ (Pure P 21 #[.agg #[.slice b3 b4 b5, .slice b6 b7 b8], .slice b9 c0 c1] e8 fun e9 f0 => ∃ H I J K L M N, e9 = .tuple #[.agg #[.string H, .string I, .string J, .string K, .string L, .string M], .int .i64 N] ∧ (∀ c2, Ext w.heap.size [] f0 c2 → (Pure P 22 #[.agg #[.slice b c d, .slice e f g], .slice i a j] c2 fun f1 f2 => ∃ O Q S T U V X, f1 = .tuple #[.agg #[.string O, .string Q, .string S, .string T, .string U, .string V], .int .i64 X] ∧ (∀ c3, Ext w.heap.size [] f2 c3 → (Pure P 14 #[.agg #[.slice b c d, .slice e f g]] c3 fun f3 f4 => ∃ c4 c5 c6 c7 c8 c9, f3 = .agg #[.slice c4 c5 c6, .slice c7 c8 c9] ∧ (Pure P 17 #[.slice i a j] f4 fun f5 f6 => ∃ d0 d1 d2, f5 = .slice d0 d1 d2 ∧ (Pure P 23 #[.agg #[.slice c4 c5 c6, .slice c7 c8 c9], .slice d0 d1 d2] f6 fun f7 f8 => ∃ Y d3, f7 = .tuple #[.int .i64 Y, .int .i64 d3] ∧ (Pure P 24 #[.agg #[.slice b c d, .slice e f g], .slice i a j] f8 fun f9 l => ∃ Z d4, f9 = .tuple #[.int .i64 Z, .int .i64 d4] ∧ (((q = y ∧ r = z ∧ s = A ∧ t = C ∧ u = D ∧ v = E ∧ True) → (((x = G) → (((H = O ∧ I = Q ∧ J = S ∧ K = T ∧ L = U ∧ M = V ∧ True) → (((N = X) → (((Y = Z) → (R (.bool (decide (d3 = d4))) l)) ∧ (¬ (Y = Z) → (R (.bool false) l)))) ∧ (¬ (N = X) → (R (.bool false) l)))) ∧ (¬ (H = O ∧ I = Q ∧ J = S ∧ K = T ∧ L = U ∧ M = V ∧ True) → (R (.bool false) l)))) ∧ (¬ (x = G) → (R (.bool false) l)))) ∧ (¬ (q = y ∧ r = z ∧ s = A ∧ t = C ∧ u = D ∧ v = E ∧ True) → (R (.bool false) l))))))))))))))))))))))))))))) :
    Pure P 4 #[.agg #[.slice b c d, .slice e f g], .slice i a j, .int .i64 m] w R :=
  pure_of_run (garboardlaw47_CargoHolds.cx w w.heap.size R) 100000 follows Tryz.func4 rfl rfl rfl rfl rfl rfl rfl (Eq.mp (by kernel_rfl) h)

noncomputable def garboardlaw47_awake.cx (w : World) (B : Nat) (R : Value → World → Prop) : Cx := ⟨Tryz.prog, 11, 119, Tryz.f11.results.toList, [], [(1, 2, 2), (4, 2, 2), (6, 1, 2), (8, 30, 2)], w, B, R⟩
theorem garboardlaw47_awake.vc  (w : World) (R : Value → World → Prop)
    (h : (RunOk P (Instr.buildSlice 26 2 #[(0, (.agg #[.int .i64 1, .int .i64 1, .int .i64 2])), (1, (.agg #[.int .i64 2, .int .i64 2, .int .i64 1]))]) w.heap.size [] w fun r2 w3 => ∃ b d a, r2 = .slice b d a ∧ (Pure P 41 #[] w3 fun r6 w7 => ∃ C D E G H I, r6 = .agg #[.slice C D E, .slice G H I] ∧ (Pure P 21 #[.agg #[.slice C D E, .slice G H I], .slice b d a] w7 fun g3 g4 => ∃ e f g i j l m, g3 = .tuple #[.agg #[.string e, .string f, .string g, .string i, .string j, .string l], .int .i64 m] ∧ (∀ J, Ext w.heap.size [] g4 J → (Pure P 41 #[] J fun g5 g6 => ∃ K L M N O Q, g5 = .agg #[.slice K L M, .slice N O Q] ∧ (Pure P 28 #[.agg #[.slice K L M, .slice N O Q], .slice b d a] g6 fun g7 g8 => ∃ S T U n, g7 = .tuple #[.slice S T U, .int .i64 n] ∧ (Pure P 41 #[] g8 fun g9 j0 => ∃ V X Y Z a0 a1, g9 = .agg #[.slice V X Y, .slice Z a0 a1] ∧ (RunOk P (Instr.buildSlice 26 1 #[(0, (.agg #[.int .i64 2, .int .i64 1, .int .i64 3]))]) w.heap.size [41] j0 fun j1 j2 => ∃ a2 a3 a4, j1 = .slice a2 a3 a4 ∧ (Pure P 23 #[.agg #[.slice V X Y, .slice Z a0 a1], .slice a2 a3 a4] j2 fun j3 j4 => ∃ o p, j3 = .tuple #[.int .i64 o, .int .i64 p] ∧ ((0 ≤ (1 : Int) ∧ (1 : Int) ≤ (a : Int)) ∧ (∀ a5, Ext w.heap.size [] j4 a5 → (Pure P 41 #[] a5 fun j5 j6 => ∃ a6 a7 a8 a9 b0 b1, j5 = .agg #[.slice a6 a7 a8, .slice a9 b0 b1] ∧ (Pure P 25 #[.agg #[.slice a6 a7 a8, .slice a9 b0 b1], (.slice b (((1 : Int)).toNat) a), .agg #[.int .i64 2, .int .i64 2, .int .i64 1]] j6 fun j7 j8 => ∃ b2 b3 b4 q, j7 = .tuple #[.slice b2 b3 b4, .int .i64 q] ∧ (Pure P 41 #[] j8 fun j9 l0 => ∃ b5 b6 b7 b8 b9 c0, j9 = .agg #[.slice b5 b6 b7, .slice b8 b9 c0] ∧ (RunOk P (Instr.buildSlice 53 4 #[(0, (.int .i64 2)), (1, (.int .i64 0)), (2, (.int .i64 0)), (3, (.int .i64 1))]) w.heap.size [41] l0 fun l1 l2 => ∃ c1 c2 c3, l1 = .slice c1 c2 c3 ∧ (Pure P 30 #[.agg #[.slice b5 b6 b7, .slice b8 b9 c0], .slice c1 c2 c3] l2 fun l3 l4 => ∃ c4 c5 c6 r, l3 = .tuple #[.slice c4 c5 c6, .int .i64 r] ∧ (Pure P 41 #[] l4 fun l5 l6 => ∃ c7 c8 c9 d0 d1 d2, l5 = .agg #[.slice c7 c8 c9, .slice d0 d1 d2] ∧ (Pure P 19 #[.agg #[.slice c7 c8 c9, .slice d0 d1 d2], .slice b d a, .int .i64 1] l6 fun l7 c => ∃ s l8 l9 m0 m1 m2 t, l7 = .tuple #[.agg #[.string s, .string l8, .string l9, .string m0, .string m1, .string m2], .int .i64 t] ∧ (((m = 0) → (((n = 0) → (((p = 0) → (((q = 0) → (((r = 0) → (((t = 0) → (((e = (⟨#[57, 47, 50]⟩ : ByteArray) ∧ f = (⟨#[54]⟩ : ByteArray) ∧ g = (⟨#[49, 49]⟩ : ByteArray) ∧ i = (⟨#[55, 53, 47, 50]⟩ : ByteArray) ∧ j = (⟨#[48]⟩ : ByteArray) ∧ l = (⟨#[57, 47, 50]⟩ : ByteArray) ∧ True) → (∀ d3, Ext w.heap.size [] c d3 → (RunOk P (Instr.buildSlice 53 4 #[(0, (.int .i64 2)), (1, (.int .i64 0)), (2, (.int .i64 0)), (3, (.int .i64 1))]) w.heap.size [41, 41] d3 fun m3 m4 => ∃ d4 d5 d6, m3 = .slice d4 d5 d6 ∧ (Pure P 33 #[.slice S T U, .slice d4 d5 d6] m4 fun m5 u => ∃ v, m5 = .bool v ∧ ((v = true → (((o = 1) → (Pure P 27 #[.slice b2 b3 b4, .slice b d a] u fun m6 d7 => ∃ x, m6 = .bool x ∧ ((x = true → (Pure P 27 #[.slice c4 c5 c6, .slice b d a] d7 fun m7 y => ∃ z, m7 = .bool z ∧ ((z = true → (((s = (⟨#[52]⟩ : ByteArray)) → (Pure P 41 #[] y fun m8 m9 => ∃ d8 d9 e0 e1 e2 e3, m8 = .agg #[.slice d8 d9 e0, .slice e1 e2 e3] ∧ (Pure P 13 #[.agg #[.slice d8 d9 e0, .slice e1 e2 e3]] m9 fun n0 e4 => ∃ A, n0 = .int .i64 A ∧ (((A = 0) → (Pure P 41 #[] e4 fun n1 n2 => ∃ e5 e6 e7 e8 e9 f0, n1 = .agg #[.slice e5 e6 e7, .slice e8 e9 f0] ∧ (Pure P 16 #[.agg #[.slice e5 e6 e7, .slice e8 e9 f0], .slice b d a] n2 fun n3 n4 => ∃ f1, n3 = .int .i64 f1 ∧ (R (.bool (decide (f1 = 0))) n4)))) ∧ (¬ (A = 0) → (R (.bool false) e4)))))) ∧ (¬ (s = (⟨#[52]⟩ : ByteArray)) → (R (.bool false) y)))) ∧ (z = false → (R (.bool false) y))))) ∧ (x = false → (R (.bool false) d7))))) ∧ (¬ (o = 1) → (R (.bool false) u)))) ∧ (v = false → (R (.bool false) u))))))) ∧ (¬ (e = (⟨#[57, 47, 50]⟩ : ByteArray) ∧ f = (⟨#[54]⟩ : ByteArray) ∧ g = (⟨#[49, 49]⟩ : ByteArray) ∧ i = (⟨#[55, 53, 47, 50]⟩ : ByteArray) ∧ j = (⟨#[48]⟩ : ByteArray) ∧ l = (⟨#[57, 47, 50]⟩ : ByteArray) ∧ True) → (∀ f2, Ext w.heap.size [] c f2 → (R (.bool false) f2))))) ∧ (¬ (t = 0) → (∀ f3, Ext w.heap.size [] c f3 → (R (.bool false) f3))))) ∧ (¬ (r = 0) → (∀ f4, Ext w.heap.size [] c f4 → (R (.bool false) f4))))) ∧ (¬ (q = 0) → (∀ f5, Ext w.heap.size [] c f5 → (R (.bool false) f5))))) ∧ (¬ (p = 0) → (∀ f6, Ext w.heap.size [] c f6 → (R (.bool false) f6))))) ∧ (¬ (n = 0) → (∀ f7, Ext w.heap.size [] c f7 → (R (.bool false) f7))))) ∧ (¬ (m = 0) → (∀ f8, Ext w.heap.size [] c f8 → (R (.bool false) f8))))))))))))))))))))))) :
    Pure P 11 #[] w R :=
  pure_of_run (garboardlaw47_awake.cx w w.heap.size R) 100000 follows Tryz.func11 rfl rfl rfl rfl rfl rfl rfl (Eq.mp (by kernel_rfl) h)

noncomputable def garboardlaw47_Two.cx (w : World) (B : Nat) (R : Value → World → Prop) : Cx := ⟨Tryz.prog, 41, 10, Tryz.f41.results.toList, [], [(1, 2, 2), (1, 7, 2)], w, B, R⟩
theorem garboardlaw47_Two.vc  (w : World) (R : Value → World → Prop)
    (h : (∀ a, Ext w.heap.size [] w a → (RunOk P (Instr.buildSlice 22 2 #[(0, (.agg #[.int .i64 1, .int .i64 3, .int .i64 1, (.string ⟨#[97]⟩), (.string ⟨#[50]⟩), (.string ⟨#[49]⟩), (.string ⟨#[53]⟩)])), (1, (.agg #[.int .i64 2, .int .i64 1, .int .i64 2, (.string ⟨#[98]⟩), (.string ⟨#[49, 47, 50]⟩), (.string ⟨#[52]⟩), (.string ⟨#[49]⟩)]))]) w.heap.size [25] a fun j l => ∃ b c d, j = .slice b c d ∧ (RunOk P (Instr.buildSlice 23 2 #[(0, (.agg #[.int .i64 1, (.string ⟨#[65]⟩), (.string ⟨#[52]⟩), (.string ⟨#[55]⟩), (.string ⟨#[49, 48]⟩), (.string ⟨#[48]⟩), (.string ⟨#[49]⟩)])), (1, (.agg #[.int .i64 2, (.string ⟨#[66]⟩), (.string ⟨#[57]⟩), (.string ⟨#[51]⟩), (.string ⟨#[45, 53]⟩), (.string ⟨#[48]⟩), (.string ⟨#[49]⟩)]))]) w.heap.size [25] l fun m n => ∃ e f g, m = .slice e f g ∧ (∀ i, Ext w.heap.size [25] n i → (R (.agg #[.slice b c d, .slice e f g]) i)))))) :
    Pure P 41 #[] w R :=
  pure_of_run (garboardlaw47_Two.cx w w.heap.size R) 100000 follows Tryz.func41 rfl rfl rfl rfl rfl rfl rfl (Eq.mp (by kernel_rfl) h)

end Go.Proofs.YtdnelnicnjplpaaGreatDoor.F

namespace Go.Proofs.YtdnelnicnjplpaaGreatDoor.B
open Go Go.RowKit Go.Proofs Go.Proofs.YtdnelnicnjplpaaGreatDoor.Vc

def psT : List Pa := [⟨1, 3, 1, ⟨#[97]⟩, ⟨#[50]⟩, ⟨#[49]⟩, ⟨#[53]⟩⟩, ⟨2, 1, 2, ⟨#[98]⟩, ⟨#[49, 47, 50]⟩, ⟨#[52]⟩, ⟨#[49]⟩⟩]
def hsT : List Ho := [⟨1, ⟨#[65]⟩, ⟨#[52]⟩, ⟨#[55]⟩, ⟨#[49, 48]⟩, ⟨#[48]⟩, ⟨#[49]⟩⟩, ⟨2, ⟨#[66]⟩, ⟨#[57]⟩, ⟨#[51]⟩, ⟨#[45, 53]⟩, ⟨#[48]⟩, ⟨#[49]⟩⟩]
def lT : List Sw := [⟨1, 1, 2⟩, ⟨2, 2, 1⟩]
theorem two_check : checkC psT hsT = 0 := by kernel_rfl
theorem two_stowed : stowedF psT hsT lT = 0 := by kernel_rfl
theorem two_total : totalV psT hsT lT = .tuple #[.agg #[.string ⟨#[57, 47, 50]⟩, .string ⟨#[54]⟩, .string ⟨#[49, 49]⟩, .string ⟨#[55, 53, 47, 50]⟩, .string ⟨#[48]⟩, .string ⟨#[57, 47, 50]⟩], .int .i64 0] := by kernel_rfl
theorem two_held : heldV psT hsT lT 1 = .tuple #[.agg #[.string ⟨#[52]⟩, .string ⟨#[50]⟩, .string ⟨#[49, 48]⟩, .string ⟨#[52, 48]⟩, .string ⟨#[48]⟩, .string ⟨#[52]⟩], .int .i64 0] := by kernel_rfl
theorem two_over : overV psT hsT [⟨2, 1, 3⟩] = .tuple #[.int .i64 1, .int .i64 0] := by kernel_rfl
theorem two_amts : amountsF psT hsT lT = [2, 0, 0, 1] := by kernel_rfl
theorem two_put : putF psT hsT [⟨1, 1, 2⟩] ⟨2, 2, 1⟩ = .ok lT := by kernel_rfl
theorem two_from : fromF psT hsT [2, 0, 0, 1] = .ok lT := by kernel_rfl

theorem extAll {B : Nat} {w w' : World} (x : Ext B [] w w') : Below w.heap.size w w' := ⟨x.below.os, x.below.tape, x.below.output, x.below.size, fun k hk => by
  rcases x.other k hk with e | ⟨t, ht, _⟩
  · exact e
  · simp at ht⟩
theorem law_Two (w : World) : Pure Tryz.prog 41 #[] w fun v w' => ∃ A c A' c', v = .agg #[.slice A 2 c, .slice A' 2 c'] ∧ CgIn w' A 2 A' 2 psT hsT := by
  refine F.garboardlaw47_Two.vc _ _ fun w1 x1 => ?_
  have hw := k0 x1
  refine runOk_lit el_Pas (psT.map Pa.val) (by simp [psT, Value.cells]) (by simp [psT]) hw.size fun A c w2 o2 b2 => ?_
  have hw := kP hw b2
  refine runOk_lit el_Hos (hsT.map Ho.val) (by simp [hsT, Value.cells]) (by simp [hsT]) hw.size fun A' c' w3 o3 b3 => ?_
  refine fun w4 x4 => ⟨A, c, A', c', rfl, ?_⟩
  have p2 : SlR w2 A 7 (psT.map Pa.row) := o2.sl
  have p3 : SlR w3 A' 7 (hsT.map Ho.row) := o3.sl
  have o2' := (o2.below b3).extT x4 (by decide)
  have o3' := o3.extT x4 (by decide)
  refine ⟨o2'.sl, o3'.sl, rfl, rfl, fun p hp => ?_, fun h hh => ?_, by omega, by omega⟩
  · simp only [psT, List.mem_cons, List.not_mem_nil, or_false] at hp
    rcases hp with rfl | rfl <;> exact ⟨by decide, by decide, by decide, by decide⟩
  · simp only [hsT, List.mem_cons, List.not_mem_nil, or_false] at hh
    rcases hh with rfl | rfl <;> exact ⟨by decide, by decide, by decide, by decide, by decide, by decide⟩

theorem EqualI {w0 : World} {A A1 : Option Addr} {n n1 c c1 : Nat} {l l1 : List Int} (h : SlR w0 A 1 (l.map iRow)) (h1 : SlR w0 A1 1 (l1.map iRow)) (hlen : l.length = n) (hlen1 : l1.length = n1) (hn : n < 2147483648) :
    Pure Tryz.prog 33 #[.slice A n c, .slice A1 n1 c1] w0 fun y _ => y = .bool (decide (l = l1)) := by
  have key : n = n1 → ∀ (d i : Nat) (w : World), n - i = d → i ≤ n → Below w0.heap.size w0 w → l.take i = l1.take i → F.slices_Equal_int_int.L4 A n c A1 n1 c1 n i w0.heap.size w fun y _ => y = .bool (decide (l = l1)) := by
    intro e d
    induction d with
    | zero =>
      intro i w hd hi hw hx
      refine F.slices_Equal_int_int.L4.step _ _ _ _ _ _ _ _ _ _ _ ⟨fun h => by omega, fun _ => ?_⟩
      rw [List.take_of_length_le (by omega), List.take_of_length_le (by omega)] at hx
      rw [decide_eq_true hx]
    | succ d ih =>
      intro i w hd hi hw hx
      have hil : i < l.length := by omega
      have hil1 : i < l1.length := by omega
      have e3 : (i : Int) + 1 = ((i + 1 : Nat) : Int) := by omega
      obtain ⟨hb, a, hA, hcell, _⟩ := (h.keep hw (Nat.le_refl _)).at_ (fun _ => rfl) hlen hil
      obtain ⟨hb1, a1, hA1, hcell1, _⟩ := (h1.keep hw (Nat.le_refl _)).at_ (fun _ => rfl) hlen1 hil1
      refine F.slices_Equal_int_int.L4.step _ _ _ _ _ _ _ _ _ _ _ ⟨fun _ => ⟨hb, a, hA, _, hcell, hb1, a1, hA1, _, hcell1, fun k w2 _ => ?_, fun k => ⟨by simp only [inR]; omega, fun w2 x2 => ?_⟩⟩, fun h => by omega⟩
      · rw [decide_eq_false fun e => k (by subst e; rfl)]
      · rw [e3]
        refine ih (i + 1) w2 (by omega) (by omega) (kE hw x2) ?_
        rw [List.take_add_one, List.take_add_one, hx, List.getElem?_eq_getElem hil, List.getElem?_eq_getElem hil1, Decidable.not_not.1 k]
  refine F.slices_Equal_int_int.vc _ _ _ _ _ _ _ _ ⟨fun k => ?_, fun k => key (by omega) n 0 w0 rfl (by omega) (Below.refl _ _) (by simp)⟩
  rw [decide_eq_false fun e => k (by subst e; omega)]

theorem law47_awake {w : World} (hg : Glob w) : Pure Tryz.prog 11 #[] w fun v _ => v = .bool true := by
  refine F.garboardlaw47_awake.vc _ _ ?_
  refine runOk_lit el_Sws (lT.map Sw.val) (by simp [lT, Value.cells]) (by simp [lT]) (Nat.le_refl _) fun A1 c1 w3 o3 b3 => ?_
  have h1 : SlR w3 A1 3 (lT.map Sw.row) := o3.sl
  have hc1 : 2 ≤ c1 := o3.len_le
  have hW := b3
  have hw : Below w3.heap.size w3 w3 := Below.refl _ _
  have g3 := hg.next b3
  refine Pure.mono (law_Two w3) ?_
  rintro v w7 b7 ⟨A, c, A', c', rfl, hc⟩
  have hw := kP hw b7
  refine ⟨_, _, _, _, _, _, rfl, Pure.mono (cargo_Total (g3.next hw) hc (h1.keep hw (Nat.le_refl _)) rfl hc1 (by decide)) ?_⟩
  rintro v w16 b16 rfl
  rw [two_total]
  have hw := kP hw b16
  refine ⟨_, _, _, _, _, _, _, rfl, fun w17 x17 => ?_⟩
  have hw := kP hw (extAll x17); clear x17
  refine Pure.mono (law_Two w17) ?_
  rintro v w21 b21 ⟨A18, c18, A19, c19, rfl, hc⟩
  have hw := kP hw b21
  refine ⟨_, _, _, _, _, _, rfl, Pure.mono (cargo_Amounts (g3.next hw) hc (h1.keep hw (Nat.le_refl _)) rfl hc1 (by decide)) ?_⟩
  rintro v w25 b25 ⟨_, k25⟩
  obtain ⟨A22, N, rfl, o22, hN⟩ := k25 two_stowed
  have hw := kP hw b25
  rw [two_amts] at o22
  have s22 := o22.sl
  refine ⟨_, _, _, _, rfl, Pure.mono (law_Two w25) ?_⟩
  rintro v w29 b29 ⟨A26, c26, A27, c27, rfl, hc⟩
  have hw := kP hw b29
  have s22 := s22.below b29
  refine ⟨_, _, _, _, _, _, rfl, ?_⟩
  refine runOk_lit el_Sws [Sw.val ⟨2, 1, 3⟩] (by simp [Value.cells]) (by simp) (hW.trans (hw.mono hW.size)).size fun A30 c30 w32 o30 b32 => ?_
  have hw := kP hw b32
  have s22 := s22.below b32
  have h30 : SlR w32 A30 3 (([⟨2, 1, 3⟩] : List Sw).map Sw.row) := o30.sl
  refine Pure.mono (cargo_Overloaded (l := [⟨2, 1, 3⟩]) (g3.next hw) (hc.keep b32) h30 rfl o30.len_le (by decide)) ?_
  rintro v w36 b36 rfl
  rw [two_over]
  have hw := kP hw b36
  have s22 := s22.below b36
  refine ⟨_, _, rfl, ⟨by omega, by omega⟩, fun w37 x37 => ?_⟩
  have hw := kP hw (extAll x37)
  have s22 := s22.below (extAll x37)
  refine Pure.mono (law_Two w37) ?_
  rintro v w41 b41 ⟨A38, c38, A39, c39, rfl, hc⟩
  have hw := kP hw b41
  have s22 := s22.below b41
  refine ⟨_, _, _, _, _, _, rfl, ?_⟩
  have h1a : SlR w41 A1 3 (([⟨1, 1, 2⟩] : List Sw).map Sw.row) := (h1.keep hw (Nat.le_refl _)).take 1
  refine Pure.mono (cargo_Put (n := 1) (l := [⟨1, 1, 2⟩]) (g3.next hw) hc h1a rfl (by omega) (by omega) ⟨2, 2, 1⟩) ?_
  rintro v w45 b45 k45
  rw [two_put] at k45
  obtain ⟨A42, m42, c42, rfl, o42⟩ := k45
  have hw := kP hw b45
  have s22 := s22.below b45
  have s42 := o42.sl
  have l42 : lT.length = m42 := by simpa using o42.len
  refine ⟨_, _, _, _, rfl, Pure.mono (law_Two w45) ?_⟩
  rintro v w49 b49 ⟨A46, c46, A47, c47, rfl, hc⟩
  have hw := kP hw b49
  have s22 := s22.below b49
  have s42 := s42.below b49
  refine ⟨_, _, _, _, _, _, rfl, ?_⟩
  refine runOk_lit el_Ints [.int .i64 2, .int .i64 0, .int .i64 0, .int .i64 1] (by simp [Value.cells]) (by simp) (hW.trans (hw.mono hW.size)).size fun A50 c50 w52 o50 b52 => ?_
  have hw := kP hw b52
  have s22 := s22.below b52
  have s42 := s42.below b52
  have h50 : SlR w52 A50 1 (([2, 0, 0, 1] : List Int).map iRow) := o50.sl
  refine Pure.mono (cargo_From (a := [2, 0, 0, 1]) (g3.next hw) (hc.keep b52) h50 rfl o50.len_le (by decide)) ?_
  rintro v w56 b56 k56
  rw [two_from] at k56
  obtain ⟨A53, m53, c53, rfl, o53⟩ := k56
  have hw := kP hw b56
  have s22 := s22.below b56
  have s42 := s42.below b56
  have s53 := o53.sl
  have l53 : lT.length = m53 := by simpa using o53.len
  refine ⟨_, _, _, _, rfl, Pure.mono (law_Two w56) ?_⟩
  rintro v w60 b60 ⟨A57, c57, A58, c58, rfl, hc⟩
  have hw := kP hw b60
  have s22 := s22.below b60
  have s42 := s42.below b60
  have s53 := s53.below b60
  refine ⟨_, _, _, _, _, _, rfl, Pure.mono (cargo_Held (g3.next hw) hc (h1.keep hw (Nat.le_refl _)) rfl hc1 (by decide) 1) ?_⟩
  rintro v w69 b69 rfl
  rw [two_held]
  have hw := kP hw b69
  have s22 := s22.below b69
  have s42 := s42.below b69
  have s53 := s53.below b69
  refine ⟨_, _, _, _, _, _, _, rfl, fun _ => ⟨fun _ => ⟨fun _ => ⟨fun _ => ⟨fun _ => ⟨fun _ => ⟨fun _ w70 x70 => ?_, fun k => absurd ⟨rfl, rfl, rfl, rfl, rfl, rfl, trivial⟩ k⟩, fun k => absurd rfl k⟩, fun k => absurd rfl k⟩, fun k => absurd rfl k⟩, fun k => absurd rfl k⟩, fun k => absurd rfl k⟩, fun k => absurd rfl k⟩
  have hw := kP hw (extAll x70)
  have s22 := s22.below (extAll x70)
  have s42 := s42.below (extAll x70)
  have s53 := s53.below (extAll x70)
  refine runOk_lit el_Ints [.int .i64 2, .int .i64 0, .int .i64 0, .int .i64 1] (by simp [Value.cells]) (by simp) (hW.trans (hw.mono hW.size)).size fun A71 c71 w73 o71 b73 => ?_
  have hw := kP hw b73
  have s22 := s22.below b73
  have s42 := s42.below b73
  have s53 := s53.below b73
  have h71 : SlR w73 A71 1 (([2, 0, 0, 1] : List Int).map iRow) := o71.sl
  refine Pure.mono (EqualI (l := [2, 0, 0, 1]) (l1 := [2, 0, 0, 1]) s22 h71 (by rw [hN]; rfl) rfl (by omega)) ?_
  rintro v w76 b76 rfl
  have hw := kP hw b76
  have s42 := s42.below b76
  have s53 := s53.below b76
  refine ⟨_, rfl, fun _ => ⟨fun _ => ?_, fun k => absurd rfl k⟩, fun k => by simp at k⟩
  refine Pure.mono (r47_Same s42 (h1.keep hw (Nat.le_refl _)) l42 rfl (by rw [← l42]; decide)) ?_
  rintro v w79 b79 rfl
  have hw := kP hw b79
  have s53 := s53.below b79
  refine ⟨_, rfl, fun _ => ?_, fun k => by simp at k⟩
  refine Pure.mono (r47_Same s53 (h1.keep hw (Nat.le_refl _)) l53 rfl (by rw [← l53]; decide)) ?_
  rintro v w82 b82 rfl
  have hw := kP hw b82
  refine ⟨_, rfl, fun _ => ⟨fun _ => ?_, fun k => absurd rfl k⟩, fun k => by simp at k⟩
  refine Pure.mono (law_Two w82) ?_
  rintro v w86 b86 ⟨A83, c83, A84, c84, rfl, hc⟩
  have hw := kP hw b86
  refine ⟨_, _, _, _, _, _, rfl, Pure.mono (cargo_Check (g3.next hw) hc) ?_⟩
  rintro v w89 b89 rfl
  rw [two_check]
  have hw := kP hw b89
  refine ⟨_, rfl, fun _ => ?_, fun k => absurd rfl k⟩
  refine Pure.mono (law_Two w89) ?_
  rintro v w93 b93 ⟨A90, c90, A91, c91, rfl, hc⟩
  have hw := kP hw b93
  refine ⟨_, _, _, _, _, _, rfl, Pure.mono (cargo_Stowed (g3.next hw) hc (h1.keep hw (Nat.le_refl _)) rfl hc1 (by decide)) ?_⟩
  rintro v w96 b96 rfl
  rw [two_stowed]
  exact ⟨_, rfl, rfl⟩
end Go.Proofs.YtdnelnicnjplpaaGreatDoor.B

namespace Go.Proofs.YtdnelnicnjplpaaGreatDoor.B
open Go Go.RowKit Go.Proofs Go.Proofs.YtdnelnicnjplpaaGreatDoor.Vc

theorem flatMap_le {α β : Type} {f : α → List β} {k : Nat} : ∀ {l : List α}, (∀ x ∈ l, (f x).length ≤ k) → (l.flatMap f).length ≤ l.length * k := by
  intro l
  induction l with
  | nil => intro _; simp
  | cons x r ih =>
    intro h
    rw [List.flatMap_cons, List.length_append, List.length_cons, Nat.add_mul, Nat.one_mul]
    have := h x (by simp)
    have := ih fun y hy => h y (by simp [hy])
    omega
theorem RightS.len {ps : List Pa} {hs : List Ho} {l : List Sw} (h : RightS ps hs l) : l.length ≤ 36 := by
  have e := stows_amts h (f := fA ps hs l) fun _ _ _ _ => rfl
  rw [← e]
  unfold stowsG
  have h1 : ∀ k ∈ List.range hs.length, ((List.range ps.length).flatMap fun i => entS (fA ps hs l) ps hs k i).length ≤ ps.length := fun k _ => by
    have := flatMap_le (f := fun i => entS (fA ps hs l) ps hs k i) (k := 1) (l := List.range ps.length) fun i _ => by
      unfold entS
      split
      · split <;> simp
      · simp
    simpa using this
  have h2 := flatMap_le h1
  rw [List.length_range] at h2
  have := Nat.mul_le_mul h.c.lh h.c.lp
  omega

def outE (r : Except Int (List Sw)) : List Sw × Int := match r with | .error e => ([], e) | .ok l => (l, 0)
theorem StowR.get {r : Except Int (List Sw)} {B : Nat} {y : Value} {w : World} (h : StowR r B y w) : ∃ A m c, y = .tuple #[.slice A m c, .int .i64 (outE r).2] ∧ SlR w A 3 ((outE r).1.map Sw.row) ∧ (outE r).1.length = m ∧ m ≤ c := by
  cases r with
  | error e => exact ⟨none, 0, 0, h, .inl rfl, rfl, Nat.le_refl _⟩
  | ok l =>
    obtain ⟨A, m, c, rfl, ho⟩ := h
    exact ⟨A, m, c, rfl, ho.sl, by simpa [outE] using ho.len, ho.len_le⟩
theorem held_shape (ps : List Pa) (hs : List Ho) (l : List Sw) (id : Int) : ∃ (s1 s2 s3 s4 s5 s6 : ByteArray) (e : Int), heldV ps hs l id = .tuple #[.agg #[.string s1, .string s2, .string s3, .string s4, .string s5, .string s6], .int .i64 e] := by
  unfold heldV
  split
  · exact ⟨_, _, _, _, _, _, _, rfl⟩
  · split <;> exact ⟨_, _, _, _, _, _, _, rfl⟩
theorem total_shape (ps : List Pa) (hs : List Ho) (l : List Sw) : ∃ (s1 s2 s3 s4 s5 s6 : ByteArray) (e : Int), totalV ps hs l = .tuple #[.agg #[.string s1, .string s2, .string s3, .string s4, .string s5, .string s6], .int .i64 e] := by
  unfold totalV
  split <;> exact ⟨_, _, _, _, _, _, _, rfl⟩
theorem over_shape (ps : List Pa) (hs : List Ho) (l : List Sw) : ∃ i e : Int, overV ps hs l = .tuple #[.int .i64 i, .int .i64 e] := by
  unfold overV
  split <;> exact ⟨_, _, rfl⟩

section
variable {w : World} {A0 A1 A A2 : Option Addr} {n0 c0 n1 c1 n c n2 c2 : Nat} {ps : List Pa} {hs : List Ho} {l : List Sw} {a : List Int}
theorem law47_CargoHolds (hg : Glob w) (hr : CgRaw w A0 n0 A1 n1 ps hs) (hz0 : A0 = none → c0 = 0) (hz1 : A1 = none → c1 = 0) (h : SlR w A 3 (l.map Sw.row)) (hl : l.length = n) (id : Int) :
    Pure Tryz.prog 4 #[.agg #[.slice A0 n0 c0, .slice A1 n1 c1], .slice A n c, .int .i64 id] w fun v _ => v = .bool true := by
  refine F.garboardlaw47_CargoHolds.vc _ _ _ _ _ _ _ _ _ _ _ _ fun w1 x1 => ?_
  have hw := k0 x1
  refine Pure.mono (law47_awake (hg.next hw)) ?_
  rintro v w4 b4 rfl
  have hw := kP hw b4
  refine ⟨_, rfl, fun k => absurd k (by decide), fun _ => ?_⟩
  refine Pure.mono (r47_Few (hr.keep hw)) ?_
  rintro v w7 b7 rfl
  have hw := kP hw b7
  refine ⟨_, rfl, fun _ => rfl, fun hf => ⟨fun _ => rfl, fun h40 => ?_⟩⟩
  have hc := hr.few (by simpa using hf)
  have hn : n ≤ 40 := by omega
  obtain ⟨s1, s2, s3, s4, s5, s6, e1, eH⟩ := held_shape ps hs l id
  obtain ⟨t1, t2, t3, t4, t5, t6, e2, eT⟩ := total_shape ps hs l
  obtain ⟨i3, e3, eO⟩ := over_shape ps hs l
  refine Pure.mono (r47_Copy (hc.keep hw) hz0 hz1) ?_
  rintro v w28 b ⟨B0, d0, B1, d1, rfl, hcc⟩
  have hw := kP hw b
  clear b
  refine ⟨_, _, _, _, _, _, rfl, Pure.mono (CloneS (h.keep hw (Nat.le_refl _)) hl (by omega)) ?_⟩
  rintro v w29 b ⟨A', c', rfl, ho⟩
  have hw := kP hw b
  have hcc := hcc.keep b
  clear b
  refine ⟨_, _, _, rfl, Pure.mono (cargo_Held (hg.next hw) hcc ho.sl hl ho.len_le hn id) ?_⟩
  rintro v w30 b rfl
  have hw := kP hw b
  rw [eH]
  refine ⟨_, _, _, _, _, _, _, rfl, fun w50 y => ?_⟩
  have hw := kE hw y
  refine Pure.mono (r47_Held (hc.keep hw) (h.keep hw (Nat.le_refl _)) hl hn id) ?_
  rintro v w31 b rfl
  have hw := kP hw b
  rw [eH]
  refine ⟨_, _, _, _, _, _, _, rfl, fun w51 y => ?_⟩
  have hw := kE hw y
  refine Pure.mono (r47_Copy (hc.keep hw) hz0 hz1) ?_
  rintro v w32 b ⟨B0, d0, B1, d1, rfl, hcc⟩
  have hw := kP hw b
  clear b
  refine ⟨_, _, _, _, _, _, rfl, Pure.mono (CloneS (h.keep hw (Nat.le_refl _)) hl (by omega)) ?_⟩
  rintro v w33 b ⟨A', c', rfl, ho⟩
  have hw := kP hw b
  have hcc := hcc.keep b
  clear b
  refine ⟨_, _, _, rfl, Pure.mono (cargo_Total (hg.next hw) hcc ho.sl hl ho.len_le hn) ?_⟩
  rintro v w34 b rfl
  have hw := kP hw b
  rw [eT]
  refine ⟨_, _, _, _, _, _, _, rfl, fun w52 y => ?_⟩
  have hw := kE hw y
  refine Pure.mono (r47_Total (hc.keep hw) (h.keep hw (Nat.le_refl _)) hl hn) ?_
  rintro v w35 b rfl
  have hw := kP hw b
  rw [eT]
  refine ⟨_, _, _, _, _, _, _, rfl, fun w53 y => ?_⟩
  have hw := kE hw y
  refine Pure.mono (r47_Copy (hc.keep hw) hz0 hz1) ?_
  rintro v w36 b ⟨B0, d0, B1, d1, rfl, hcc⟩
  have hw := kP hw b
  clear b
  refine ⟨_, _, _, _, _, _, rfl, Pure.mono (CloneS (h.keep hw (Nat.le_refl _)) hl (by omega)) ?_⟩
  rintro v w37 b ⟨A', c', rfl, ho⟩
  have hw := kP hw b
  have hcc := hcc.keep b
  clear b
  refine ⟨_, _, _, rfl, Pure.mono (cargo_Overloaded (hg.next hw) hcc ho.sl hl ho.len_le hn) ?_⟩
  rintro v w38 b rfl
  have hw := kP hw b
  rw [eO]
  refine ⟨_, _, rfl, Pure.mono (r47_Overloaded (hc.keep hw) (h.keep hw (Nat.le_refl _)) hl hn) ?_⟩
  rintro v w39 b rfl
  have hw := kP hw b
  rw [eO]
  exact ⟨_, _, rfl, fun _ => ⟨fun _ => ⟨fun _ => ⟨fun _ => ⟨fun _ => by simp, fun k => absurd rfl k⟩, fun k => absurd rfl k⟩, fun k => absurd ⟨rfl, rfl, rfl, rfl, rfl, rfl, trivial⟩ k⟩, fun k => absurd rfl k⟩, fun k => absurd ⟨rfl, rfl, rfl, rfl, rfl, rfl, trivial⟩ k⟩
end
end Go.Proofs.YtdnelnicnjplpaaGreatDoor.B

namespace Go.Proofs.YtdnelnicnjplpaaGreatDoor.B
set_option maxRecDepth 100000
open Go Go.RowKit Go.Proofs Go.Proofs.YtdnelnicnjplpaaGreatDoor.Vc Go.ChangeShapes Go.WideShapes Go.Deep

theorem own : ownKnob Tryz.prog.godebug = none := by kernel_rfl
theorem laidOut : laidOutB Tryz.prog = true := by kernel_rfl

section
variable {H : Type} {enc : TypeId × Value → H} {P : Program}

theorem below_trodAll (hl : laidOutB P = true) {W W' : World} (hb : Below W.heap.size W W') : ∀ {ts : List TypeId} {vs : List Value} {ds : List (DataW H)} {ps : List MemPlace},
    (∀ t ∈ ts, P.readableRec t = true ∧ t < P.types.size) → DataW.TrodAll enc P W 0 (fun _ => true) true ts vs ds ps → (∀ x ∈ ps, x.block < W.heap.size) → DataW.TrodAll enc P W' 0 (fun b => decide (b < W.heap.size)) true ts vs ds ps
  | [], _, _, _, _, h, _ => by
    obtain ⟨rfl, rfl, rfl⟩ := trodAll_nil h
    exact trodAll_mk0
  | t :: ts, _, _, _, ht, h, hlt => by
    obtain ⟨v, vs1, d, ds1, a, b, rfl, rfl, rfl, h1, h2⟩ := trodAll_cons h
    exact trodAll_cons_mk (Below.trod hl (ht t (by simp)).1 (ht t (by simp)).2 h1 hb (fun x hx => hlt x (by simp [hx])))
      (below_trodAll hl hb (fun u hu => ht u (by simp [hu])) h2 (fun x hx => hlt x (by simp [hx])))

theorem law_post {f : Func} {fid : FuncId} {s : ChangeSpec} {W : World} {args : Array Value} {ds gs : List (DataW H)} {before : List MemPlace} (hl : laidOutB P = true) (hW : DataW.Whole enc P f.params.toList s.vars false W args.toList ds gs before)
    (hvars : s.vars = []) {tb : TypeId} (hres : f.resultTypes = #[tb]) (htb : P.underlying tb = some .bool) (hrec : ∀ t ∈ f.params.toList, P.readableRec t = true ∧ t < P.types.size)
    (hs : s.fn H (ds ++ gs) = { results := [.lit (.bool true)], args := ds }) (key : Pure P fid args W fun y _ => y = .bool true) :
    Calls P fid args W fun e W' => ∃ v, e = .returned v ∧ s.post enc P f false true false false W args v W' := by
  refine Calls.mono key fun e W' ⟨v, he, hb, hy⟩ => ⟨v, he, ?_⟩
  subst hy
  have hlt := hW.lt
  have hW' := hW
  obtain ⟨p, q, hA, hV, rfl, _, _⟩ := hW
  rw [hvars] at hV
  obtain ⟨rfl, rfl⟩ := trodVars_none hV
  simp only [List.append_nil] at hlt hW'
  refine ⟨ds, _, _, [], p, [], hW', ?_, ?_, ?_, hb.frame _, fun h => by cases h⟩
  · rw [hs, hres]
    exact trodAll_cons_mk (shut_bool htb _) trodAll_mk0
  · rw [hs]
    exact below_trodAll hl hb hrec hA hlt
  · rw [hs, hvars]
    rfl

end

theorem slR_of_cells {w : World} {a : Addr} {sz : Nat} (hsz : 0 < sz) {rows : List (List Value)} (hl : ∀ r ∈ rows, r.length = sz) (h : ∀ i, (hi : i < rows.length) → ∀ j, (hj : j < rows[i].length) → w.cell? (a.add (i * sz + j)) = some (rows[i][j])) : SlR w (some a) sz rows := by
  by_cases h0 : rows = []
  · exact .inl h0
  right
  have hp : 0 < rows.length := List.length_pos_iff.2 h0
  have hl0 : rows[0].length = sz := hl _ (List.getElem_mem _)
  have c0 := h 0 hp 0 (by omega)
  have hspot : a.spot = none := by simpa [Addr.add] using World.cell?_spot c0
  obtain ⟨b, off, spot⟩ := a
  simp only at hspot
  subst hspot
  have hadd : ∀ k, (⟨b, off, none⟩ : Addr).add k = ⟨b, off + k, none⟩ := fun k => add_plain0 b off k
  rw [hadd] at c0
  cases hh : w.heap[b]? with
  | none => simp [World.cell?, hh] at c0
  | some o =>
    cases o with
    | cells cs ty fr =>
      refine ⟨b, off, cs, ty, fr, rfl, hh, fun i hi j hj => ⟨hl _ (List.getElem_mem _), ?_⟩⟩
      have := h i hi j hj
      rw [hadd] at this
      simpa [World.cell?, hh, Nat.add_assoc] using this
    | _ => simp [World.cell?, hh] at c0

theorem u_Rat : Tryz.prog.underlying 37 = some .string := by kernel_rfl
theorem u_int : Tryz.prog.underlying 3 = some (.int .i64) := by kernel_rfl
theorem u_str : Tryz.prog.underlying 9 = some .string := by kernel_rfl

end Go.Proofs.YtdnelnicnjplpaaGreatDoor.B

namespace Go.Proofs.YtdnelnicnjplpaaGreatDoor.B
open Go Go.RowKit Go.Proofs

abbrev aLaid := Rows.cargoChecksRow.laid
end Go.Proofs.YtdnelnicnjplpaaGreatDoor.B

namespace Go.Proofs.YtdnelnicnjplpaaGreatDoor.B
open Go Go.RowKit Go.Proofs Go.Proofs.YtdnelnicnjplpaaGreatDoor.Vc Go.ChangeShapes Go.WideShapes Go.Deep Go.ChangeAt
set_option maxRecDepth 100000

noncomputable def laidWorld (os : Os) : World :=
  let N := (World.settled Tryz.prog os).heap.size
  let w0 := World.holding Tryz.prog os ⟨#[.cells #[.string ⟨#[118, 97, 108, 117, 101, 32, 111, 117, 116, 32, 111, 102, 32, 114, 97, 110, 103, 101]⟩] 277, .cells #[.string ⟨#[105, 110, 118, 97, 108, 105, 100, 32, 115, 121, 110, 116, 97, 120]⟩] 277], #[], []⟩
  let put (h : Array Obj) (g : Nat) (cs : Array Value) : Array Obj := h.modify g fun
    | .cells _ t frozen => .cells cs t frozen
    | o => o
  let h0 := put (put w0.heap 5 #[.iface 275 (.pointer (some ⟨N, 0, none⟩))]) 4 #[.iface 275 (.pointer (some ⟨N + 1, 0, none⟩))]
  let h1 := put h0 2 #[.int .u8 0, .int .u8 1, .int .u8 28, .int .u8 2, .int .u8 29, .int .u8 14, .int .u8 24, .int .u8 3, .int .u8 30, .int .u8 22, .int .u8 20, .int .u8 15, .int .u8 25, .int .u8 17, .int .u8 4, .int .u8 8, .int .u8 31, .int .u8 27, .int .u8 13, .int .u8 23, .int .u8 21, .int .u8 19, .int .u8 16, .int .u8 7, .int .u8 26, .int .u8 12, .int .u8 18, .int .u8 6, .int .u8 11, .int .u8 5, .int .u8 10, .int .u8 9]
  let h2 := put h1 3 #[.int .u8 0, .int .u8 1, .int .u8 56, .int .u8 2, .int .u8 57, .int .u8 49, .int .u8 28, .int .u8 3, .int .u8 61, .int .u8 58, .int .u8 42, .int .u8 50, .int .u8 38, .int .u8 29, .int .u8 17, .int .u8 4, .int .u8 62, .int .u8 47, .int .u8 59, .int .u8 36, .int .u8 45, .int .u8 43, .int .u8 51, .int .u8 22, .int .u8 53, .int .u8 39, .int .u8 33, .int .u8 30, .int .u8 24, .int .u8 18, .int .u8 12, .int .u8 5, .int .u8 63, .int .u8 55, .int .u8 48, .int .u8 27, .int .u8 60, .int .u8 41, .int .u8 37, .int .u8 16, .int .u8 46, .int .u8 35, .int .u8 44, .int .u8 21, .int .u8 52, .int .u8 32, .int .u8 23, .int .u8 11, .int .u8 54, .int .u8 26, .int .u8 40, .int .u8 15, .int .u8 34, .int .u8 20, .int .u8 31, .int .u8 10, .int .u8 25, .int .u8 14, .int .u8 19, .int .u8 9, .int .u8 13, .int .u8 8, .int .u8 7, .int .u8 6]
  let h3 := put h2 1 (Lib.pow10Tab.map fun z => Value.int .u64 z).toArray
  { w0 with heap := h3 }

noncomputable abbrev N0 : Nat := (World.settled Tryz.prog default).heap.size
theorem laid_met (os : Os) (args : Array Value) : laidMet Tryz.prog aLaid ((laidWorld os).forCall (fun _ _ => 0) ⟨#[], args, []⟩).memory :=
  (LaidIn.of_run (l := aLaid) [2, 3, 1, 5, 4, N0, N0 + 1] 8 (by kernel_rfl) (by kernel_rfl) (by kernel_rfl) (by kernel_rfl)).met

theorem world_vars (os : Os) (args : Array Value) : ((laidWorld os).forCall (fun _ _ => 0) ⟨#[], args, []⟩).variablesRefB Tryz.prog = true := by kernel_rfl
theorem world_rest (os : Os) (args : Array Value) : (((laidWorld os).forCall (fun _ _ => 0) ⟨#[], args, []⟩).heap.toList.drop Tryz.prog.globals.size).take ((begin Tryz.prog (fun _ _ => 0) default).world.heap.size - Tryz.prog.globals.size) =
      (begin Tryz.prog (fun _ _ => 0) default).world.heap.toList.drop Tryz.prog.globals.size := by kernel_rfl

theorem glob_of {W : World} (hL : laidMet Tryz.prog aLaid W) (hS : W.ShapedOpen Tryz.prog) : Glob W :=
  ⟨Lib.tabIs_of_head (zs := Lib.pow10Tab) (g := 1) (t := 214) (e := 140) (n := 20) g_pow10 (by kernel_rfl) (by kernel_rfl) (by kernel_rfl) (by kernel_rfl) (by kernel_rfl) hL.tail.tail,
   cell_of_shapedOpen_int (g := 0) (t := 3) (zero := #[.int .i64 0]) hS (of_decide_eq_true (by kernel_rfl)) (by kernel_rfl) rfl (by kernel_rfl) (by kernel_rfl) (by kernel_rfl)⟩
end Go.Proofs.YtdnelnicnjplpaaGreatDoor.B

namespace Go.Proofs.YtdnelnicnjplpaaGreatDoor.B
set_option maxRecDepth 100000
open Go Go.RowKit Go.Proofs Go.Proofs.YtdnelnicnjplpaaGreatDoor.Vc Go.ChangeShapes Go.WideShapes Go.Deep

instance : Inhabited Pa := ⟨⟨0, 0, 0, ⟨#[]⟩, ⟨#[]⟩, ⟨#[]⟩, ⟨#[]⟩⟩⟩
instance : Inhabited Ho := ⟨⟨0, ⟨#[]⟩, ⟨#[]⟩, ⟨#[]⟩, ⟨#[]⟩, ⟨#[]⟩, ⟨#[]⟩⟩⟩
instance : Inhabited Sw := ⟨⟨0, 0, 0⟩⟩

section
variable {H : Type} {enc : TypeId × Value → H} {w : World} {base b0 : Nat} {spare : Nat → Bool} {held : Bool}
theorem open_rows {α : Type} [Inhabited α] {row : α → List Value} {sz : Nat} (hsz : 0 < sz) (hrow : ∀ x, (row x).length = sz) {t e : TypeId} (ht : Tryz.prog.underlying t = some (.slice e)) (hC : Tryz.prog.cellsOf e = sz)
    (hx : ∀ (n : Nat) (cs : List Value) (y : DataW H × List MemPlace), DataW.trod enc Tryz.prog w base spare held n e cs = some y → ∃ x : α, cs = row x)
    {v : Value} {fuel : Nat} {y : DataW H × List MemPlace} (h : DataW.trod enc Tryz.prog w base spare held fuel t [v] = some y) :
    ∃ (A : Option Addr) (n c : Nat) (l : List α), v = .slice A n c ∧ SlR w A sz (l.map row) ∧ l.length = n ∧ n < 9223372036854775808 ∧ (A = none → c = 0) := by
  rcases open_slice ht h with ⟨hcs, _⟩ | ⟨a, len, cap, m, n, D, Pl, hcs, hb, hl, hm, hmm, _, hi⟩
  · cases hcs
    exact ⟨none, 0, 0, [], rfl, .inl rfl, rfl, by omega, fun _ => rfl⟩
  · cases hcs
    rw [hC] at hi
    obtain ⟨g, hg⟩ := choose_lt (α := α) (n := len) (p := fun i x => ∀ j, (hj : j < (row x).length) → w.cell? (a.add (i * sz + j)) = some ((row x)[j])) fun i hilt => by
      have him : i < m := by
        rw [hmm]
        split <;> omega
      obtain ⟨cs', hc, ht'⟩ := hi i him
      obtain ⟨_, hcl, hat⟩ := World.cells?_some hc
      obtain ⟨x, rfl⟩ := hx _ _ _ ht'
      refine ⟨x, fun j hj => ?_⟩
      rw [← Go.Deep.add_add, hat j (by rw [hrow] at hj; omega), List.getElem?_eq_getElem hj]
    refine ⟨some a, len, cap, (List.range len).map g, rfl, slR_of_cells hsz (fun r hr => ?_) (fun i hi2 j hj => ?_), by simp, by unfold maxLen at hm; omega, fun k => by cases k⟩
    · obtain ⟨x, _, rfl⟩ := List.mem_map.1 hr
      exact hrow x
    · simp at hi2
      simp only [List.getElem_map, List.getElem_range] at hj ⊢
      exact hg i hi2 j hj

theorem k_int : Tryz.prog.cellsOf 3 = 1 := by kernel_rfl
theorem k_str : Tryz.prog.cellsOf 9 = 1 := by kernel_rfl
theorem k_Rat : Tryz.prog.cellsOf 37 = 1 := by kernel_rfl
theorem k_Vec : Tryz.prog.cellsOf 39 = 3 := by kernel_rfl
theorem k_Par : Tryz.prog.cellsOf 66 = 7 := by kernel_rfl
theorem k_Hol : Tryz.prog.cellsOf 61 = 7 := by kernel_rfl
theorem k_Sto : Tryz.prog.cellsOf 35 = 3 := by kernel_rfl
theorem int_of (n : Nat) (cs : List Value) (y : DataW H × List MemPlace) (h : DataW.trod enc Tryz.prog w base spare held n 3 cs = some y) : ∃ x : Int, cs = iRow x := by
  obtain ⟨z, hz, _⟩ := DataW.trod_int u_int h
  exact ⟨z, hz⟩
theorem rat_of {n : Nat} {cs : List Value} {y : DataW H × List MemPlace} (h : DataW.trod enc Tryz.prog w base spare held n 37 cs = some y) : ∃ x, cs = [.string x] := by
  obtain ⟨z, hz, _⟩ := DataW.trod_string u_Rat h
  exact ⟨z, hz⟩
theorem str_of {n : Nat} {cs : List Value} {y : DataW H × List MemPlace} (h : DataW.trod enc Tryz.prog w base spare held n 9 cs = some y) : ∃ x, cs = [.string x] := by
  obtain ⟨z, hz, _⟩ := DataW.trod_string u_str h
  exact ⟨z, hz⟩
theorem stow_of (n : Nat) (cs : List Value) (y : DataW H × List MemPlace) (h : DataW.trod enc Tryz.prog w base spare held n 35 cs = some y) : ∃ x : Sw, cs = x.row := by
  obtain ⟨ys, m, _, rfl, hl, hlen, hf⟩ := DataW.trod_struct Tryz.underlying35 h
  rw [k_Sto] at hl
  match cs, hl with
  | [v0, v1, v2], _ =>
    match ys, hlen with
    | [y0, y1, y2], _ =>
      obtain ⟨z0, e0⟩ := int_of m [v0] y0 (by simpa [k_int] using hf 0 _ rfl)
      obtain ⟨z1, e1⟩ := int_of m [v1] y1 (by simpa [k_int] using hf 1 _ rfl)
      obtain ⟨z2, e2⟩ := int_of m [v2] y2 (by simpa [k_int] using hf 2 _ rfl)
      cases e0; cases e1; cases e2
      exact ⟨⟨z0, z1, z2⟩, rfl⟩
theorem vec_of {n : Nat} {cs : List Value} {y : DataW H × List MemPlace} (h : DataW.trod enc Tryz.prog w base spare held n 39 cs = some y) : ∃ a b c, cs = [.string a, .string b, .string c] := by
  obtain ⟨ys, m, _, rfl, hl, hlen, hf⟩ := DataW.trod_struct Tryz.underlying39 h
  rw [k_Vec] at hl
  match cs, hl with
  | [v0, v1, v2], _ =>
    match ys, hlen with
    | [y0, y1, y2], _ =>
      obtain ⟨z0, e0⟩ := rat_of (n := m) (cs := [v0]) (y := y0) (by simpa [k_Rat] using hf 0 _ rfl)
      obtain ⟨z1, e1⟩ := rat_of (n := m) (cs := [v1]) (y := y1) (by simpa [k_Rat] using hf 1 _ rfl)
      obtain ⟨z2, e2⟩ := rat_of (n := m) (cs := [v2]) (y := y2) (by simpa [k_Rat] using hf 2 _ rfl)
      cases e0; cases e1; cases e2
      exact ⟨z0, z1, z2, rfl⟩
theorem par_of (n : Nat) (cs : List Value) (y : DataW H × List MemPlace) (h : DataW.trod enc Tryz.prog w base spare held n 66 cs = some y) : ∃ x : Pa, cs = x.row := by
  obtain ⟨ys, m, _, rfl, hl, hlen, hf⟩ := DataW.trod_struct Tryz.underlying66 h
  rw [k_Par] at hl
  match cs, hl with
  | [v0, v1, v2, v3, v4, v5, v6], _ =>
    match ys, hlen with
    | [y0, y1, y2, y3, y4, y5, y6], _ =>
      obtain ⟨z0, e0⟩ := int_of m [v0] y0 (by simpa [k_int] using hf 0 _ rfl)
      obtain ⟨z1, e1⟩ := int_of m [v1] y1 (by simpa [k_int] using hf 1 _ rfl)
      obtain ⟨z2, e2⟩ := int_of m [v2] y2 (by simpa [k_int] using hf 2 _ rfl)
      obtain ⟨z3, e3⟩ := str_of (n := m) (cs := [v3]) (y := y3) (by simpa [k_str] using hf 3 _ rfl)
      obtain ⟨z4, e4⟩ := rat_of (n := m) (cs := [v4]) (y := y4) (by simpa [k_Rat] using hf 4 _ rfl)
      obtain ⟨z5, e5⟩ := rat_of (n := m) (cs := [v5]) (y := y5) (by simpa [k_Rat] using hf 5 _ rfl)
      obtain ⟨z6, e6⟩ := rat_of (n := m) (cs := [v6]) (y := y6) (by simpa [k_Rat] using hf 6 _ rfl)
      cases e0; cases e1; cases e2; cases e3; cases e4; cases e5; cases e6
      exact ⟨⟨z0, z1, z2, z3, z4, z5, z6⟩, rfl⟩
theorem hold_of (n : Nat) (cs : List Value) (y : DataW H × List MemPlace) (h : DataW.trod enc Tryz.prog w base spare held n 61 cs = some y) : ∃ x : Ho, cs = x.row := by
  obtain ⟨ys, m, _, rfl, hl, hlen, hf⟩ := DataW.trod_struct Tryz.underlying61 h
  rw [k_Hol] at hl
  match cs, hl with
  | [v0, v1, v2, v3, v4, v5, v6], _ =>
    match ys, hlen with
    | [y0, y1, y2, y3, y4], _ =>
      obtain ⟨z0, e0⟩ := int_of m [v0] y0 (by simpa [k_int] using hf 0 _ rfl)
      obtain ⟨z1, e1⟩ := str_of (n := m) (cs := [v1]) (y := y1) (by simpa [k_str] using hf 1 _ rfl)
      obtain ⟨z2, e2⟩ := rat_of (n := m) (cs := [v2]) (y := y2) (by simpa [k_Rat] using hf 2 _ rfl)
      obtain ⟨z3, e3⟩ := rat_of (n := m) (cs := [v3]) (y := y3) (by simpa [k_Rat] using hf 3 _ rfl)
      obtain ⟨a, b, c, e4⟩ := vec_of (n := m) (cs := [v4, v5, v6]) (y := y4) (by simpa [k_Vec] using hf 4 _ rfl)
      cases e0; cases e1; cases e2; cases e3; cases e4
      exact ⟨⟨z0, z1, z2, z3, a, b, c⟩, rfl⟩

theorem trod_one {t e : TypeId} (ht : Tryz.prog.underlying t = some (.slice e)) {r : Reach} {v : Value} {d : DataW H} {p : List MemPlace} (hv : Value.okWide Tryz.prog w r b0 t v) (h : DataW.Trod enc Tryz.prog w base spare held t v d p) : ∃ fuel, DataW.trod enc Tryz.prog w base spare held fuel t [v] = some (d, p) := by
  obtain ⟨a0, len, cap, rfl⟩ := okWide_slice ht hv
  obtain ⟨fuel, hf⟩ := h
  exact ⟨fuel, by simpa [Value.cells] using hf⟩
theorem open_stows {v : Value} {d : DataW H} {p : List MemPlace} (hv : Value.okWide Tryz.prog w .any b0 26 v) (h : DataW.Trod enc Tryz.prog w base spare held 26 v d p) :
    ∃ (A : Option Addr) (n c : Nat) (l : List Sw), v = .slice A n c ∧ SlR w A 3 (l.map Sw.row) ∧ l.length = n := by
  obtain ⟨fuel, hf⟩ := trod_one Tryz.underlying26 hv h
  obtain ⟨A, n, c, l, h1, h2, h3, _⟩ := open_rows (row := Sw.row) (by decide) (fun _ => rfl) Tryz.underlying26 k_Sto stow_of hf
  exact ⟨A, n, c, l, h1, h2, h3⟩
theorem open_cargo {v : Value} {d : DataW H} {p : List MemPlace} (hv : Value.okWide Tryz.prog w .any b0 25 v) (h : DataW.Trod enc Tryz.prog w base spare held 25 v d p) :
    ∃ (A0 : Option Addr) (n0 c0 : Nat) (A1 : Option Addr) (n1 c1 : Nat) (ps : List Pa) (hs : List Ho), v = .agg #[.slice A0 n0 c0, .slice A1 n1 c1] ∧ CgRaw w A0 n0 A1 n1 ps hs ∧ (A0 = none → c0 = 0) ∧ (A1 = none → c1 = 0) := by
  obtain ⟨v0, v1, y0, y1, n, rfl, _, _, h0, h1⟩ := Go.Joins.open_agg2 Tryz.underlying25 (by kernel_rfl) (by kernel_rfl) hv h
  obtain ⟨A0, n0, c0, ps, rfl, p1, p2, p3, p4⟩ := open_rows (row := Pa.row) (by decide) (fun _ => rfl) Tryz.underlying22 k_Par par_of h0
  obtain ⟨A1, n1, c1, hs, rfl, q1, q2, q3, q4⟩ := open_rows (row := Ho.row) (by decide) (fun _ => rfl) Tryz.underlying23 k_Hol hold_of h1
  exact ⟨A0, n0, c0, A1, n1, c1, ps, hs, rfl, ⟨p1, q1, p2, q2, p3, q3⟩, p4, q4⟩
end
end Go.Proofs.YtdnelnicnjplpaaGreatDoor.B
