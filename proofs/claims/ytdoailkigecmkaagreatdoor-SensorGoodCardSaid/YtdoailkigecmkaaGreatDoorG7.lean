/- Part 7 of the proofs that: the statements about sensors hold -/
import Derived.Test.YtdoailkigecmkaaGreatDoorG6
import Derived.Test.YtdoailkigecmkaaGreatDoorProg
import Derived.Test.YtdoailkigecmkaaGreatDoorCards
import Derived.Test.YtdoailkigecmkaaGreatDoorTie
import Derived.WalkKit
import Derived.ProofKit
import Derived.OpenShut
import Derived.Carry
import Derived.Deep.DeepHandedRow
import Derived.Deep.DeepWitnessRowRef
import Derived.Deep.Slices
import Derived.Deep.Fields
import Derived.Lib.SmallJoins
import Derived.Lib.LaidIn
import Derived.Lib.LaidTab
import Derived.Stop.LaidErr
import Derived.Shelf.Vars
import Derived.Laws.IdiomArrays
set_option linter.unusedVariables false
set_option linter.unusedSimpArgs false
namespace Go.Proofs.YtdoailkigecmkaaGreatDoor.B
open Go Go.RowKit Go.Proofs Go.Proofs.YtdoailkigecmkaaGreatDoor.Vc

def seen (at_ hold : Int) (x : Va) : Va := if x.qual ≠ 0 ∧ x.tick < at_ - hold then { x with qual := 4 } else x
def seeF (v : List Va) (at_ hold : Int) : Except Int (List Va) :=
  if 16 < v.length then .error 8
  else if (0 ≤ at_ ∧ at_ ≤ 1073741824) ∧ (0 ≤ hold ∧ hold ≤ 1073741824) then .ok (v.map (seen at_ hold)) else .error 2

theorem set_row (v : List Va) (f : Va → Va) {i : Nat} (hi : i < v.length) : ((v.take i).map f ++ v.drop i).set i (f v[i]) = (v.take (i + 1)).map f ++ v.drop (i + 1) := by
  have hl : ((v.take i).map f).length = i := by simp; omega
  rw [List.drop_eq_getElem_cons hi, List.set_append_right _ _ (by omega), hl, Nat.sub_self, List.set_cons_zero, List.take_add_one, List.getElem?_eq_getElem hi, List.map_append, List.append_assoc]
  rfl
theorem get_row (v : List Va) (f : Va → Va) {i : Nat} (hi : i < v.length) : ((v.take i).map f ++ v.drop i)[i]? = some v[i] := by
  have hl : ((v.take i).map f).length = i := by simp; omega
  rw [List.getElem?_append_right (by omega), hl, Nat.sub_self, List.drop_eq_getElem_cons hi]
  rfl

theorem see_loop {w0 : World} {n : Nat} {v : List Va} {at_ hold : Int} (ha : 0 ≤ at_ ∧ at_ ≤ 1073741824) (hh : 0 ≤ hold ∧ hold ≤ 1073741824) (hlen : v.length = n) (hn : n ≤ 16) {A : Option Addr} {c : Nat} {R : Value → World → Prop}
    (hR : ∀ w, OwnR w w0.heap.size 46 A n c 4 ((v.map (seen at_ hold)).map Va.row) → R (.tuple #[.slice A n c, .int .i64 0]) w) :
    ∀ (d i : Nat) (w : World), n - i = d → i ≤ n → Below w0.heap.size w0 w → OwnR w w0.heap.size 46 A n c 4 (((v.take i).map (seen at_ hold) ++ v.drop i).map Va.row) →
      F.sensor_See.L7 at_ hold A n c A n c n i w0.heap.size w R := by
  intro d
  induction d with
  | zero =>
    intro i w hd hi hw ho
    have : i = n := by omega
    subst this
    rw [List.take_of_length_le (by omega), List.drop_eq_nil_of_le (by omega), List.append_nil] at ho
    exact F.sensor_See.L7.step _ _ _ _ _ _ _ _ _ _ _ _ _ ⟨fun h => by omega, fun _ => hR w ho⟩
  | succ d ih =>
    intro i w hd hi hw ho
    have hiv : i < v.length := by omega
    have hrow0 : (((v.take i).map (seen at_ hold) ++ v.drop i).map Va.row)[((i : Int)).toNat]? = some v[i].row := by
      rw [Int.toNat_natCast, List.getElem?_map, get_row v _ hiv]
      rfl
    obtain ⟨hb, a, hA, hrow⟩ := ho.sl.load (n := n) ho.len (j := (i : Int)) (by omega) (by omega)
    obtain ⟨hcell, _⟩ := hrow v[i].row hrow0 rfl
    have e3 : (i : Int) + 1 = ((i + 1 : Nat) : Int) := by omega
    refine F.sensor_See.L7.step _ _ _ _ _ _ _ _ _ _ _ _ _ ⟨fun _ => ⟨hb, a, hA, _, _, _, _, hcell, ?_⟩, fun h => by omega⟩
    refine runOk_alloc _ (z := .agg #[.int .i64 0, .int .i64 0, .int .i64 0, .string ⟨#[]⟩]) (by kernel_rfl) hw.size fun w1 h1 b1 hlt1 => ?_
    have hb1 := kP hw b1
    have o1 := ho.below b1
    refine ⟨[.int .i64 0, .int .i64 0, .int .i64 0, .string ⟨#[]⟩], _, hw.size, rfl, h1, by simp, rfl, fun w2 hw2 => ?_⟩
    have h2 : w2.heap[w.heap.size]? = some (.cells [.int .i64 v[i].chan, .int .i64 v[i].tick, .int .i64 v[i].qual, .string v[i].num].toArray 46 (0, 0)) := hw2.at_
    have b2 : Below w0.heap.size w0 w2 := hb1.trans ((Wrote.belowR hw2 hw.size))
    have o2 : OwnR w2 w0.heap.size 46 A n c 4 (((v.take i).map (seen at_ hold) ++ v.drop i).map Va.row) := by
      refine o1.other fun a' ha' => hw2.rest _ ?_
      have := (ho.blk a' ha').2
      show a'.block ≠ w.heap.size
      omega
    have go : ∀ w3, Below w0.heap.size w0 w3 → OwnR w3 w0.heap.size 46 A n c 4 (((v.take i).map (seen at_ hold) ++ v.drop i).map Va.row |>.set i (seen at_ hold v[i]).row) → F.sensor_See.L7 at_ hold A n c A n c n ((i : Int) + 1) w0.heap.size w3 R := fun w3 hb3 o3 => by
      rw [e3]
      refine ih (i + 1) w3 (by omega) (by omega) hb3 ?_
      rw [← set_row v _ hiv, List.map_set]
      exact o3
    have same : ¬ (v[i].qual ≠ 0 ∧ v[i].tick < at_ - hold) → OwnR w2 w0.heap.size 46 A n c 4 (((v.take i).map (seen at_ hold) ++ v.drop i).map Va.row |>.set i (seen at_ hold v[i]).row) := fun h => by
      have e : seen at_ hold v[i] = v[i] := if_neg h
      rw [e, ← List.map_set]
      have e2 : ((v.take i).map (seen at_ hold) ++ v.drop i).set i v[i] = (v.take i).map (seen at_ hold) ++ v.drop i := by
        refine List.ext_getElem? fun k => ?_
        rw [List.getElem?_set]
        split
        · rename_i hk
          subst hk
          rw [get_row v _ hiv, if_pos (by simp; omega)]
        · rfl
      rw [e2]
      exact o2
    refine ⟨_, box_cell h2 rfl, fun hq => ⟨_, box_cell h2 rfl, by simp only [inR]; omega, fun ht => ?_, fun ht => ⟨by simp only [inR]; omega, go w2 b2 (same fun k => ht k.2)⟩⟩, fun hq => ⟨by simp only [inR]; omega, go w2 b2 (same fun k => hq k.1)⟩⟩
    obtain ⟨q5, a5, hA5, cs, d1, d2, d3, d4, d5⟩ := o2.set (i := (i : Int)) (by omega) (by omega) 2 [.int .i64 4] v[i].row hrow0 (by simp)
    refine ⟨q5, a5, hA5, cs, _, d1, d2, d3, d4, rfl, fun w3 hw3 => ⟨by simp only [inR]; omega, go w3 (b2.trans (Wrote.belowR hw3 d1)) ?_⟩⟩
    have o5 := d5 w3 hw3
    rw [Int.toNat_natCast] at o5
    have e : seen at_ hold v[i] = { v[i] with qual := 4 } := if_pos ⟨hq, ht⟩
    rw [e]
    exact o5

def SeeR (r : Except Int (List Va)) (n B : Nat) (y : Value) (w : World) : Prop := match r with
  | .error e => y = .tuple #[.slice none 0 0, .int .i64 e]
  | .ok v => ∃ A c, y = .tuple #[.slice A n c, .int .i64 0] ∧ OwnR w B 46 A n c 4 (v.map Va.row)
theorem sensor_See {w : World} {A : Option Addr} {n c : Nat} {v : List Va} {at_ hold : Int} (hv : SlR w A 4 (v.map Va.row)) (hlen : v.length = n) :
    Pure Tryz.prog 25 #[.slice A n c, .int .i64 at_, .int .i64 hold] w (SeeR (seeF v at_ hold) n w.heap.size) := by
  refine F.sensor_See.vc _ _ _ _ _ _ _ ⟨fun h => ?_, fun h => Pure.mono (sensor_tick _ _) ?_⟩
  · unfold seeF
    rw [if_pos (by omega)]
    rfl
  have e : seeF v at_ hold = if (0 ≤ at_ ∧ at_ ≤ 1073741824) ∧ (0 ≤ hold ∧ hold ≤ 1073741824) then .ok (v.map (seen at_ hold)) else .error 2 := if_neg (by omega)
  rw [e]
  rintro y w1 b1 rfl
  refine ⟨_, rfl, fun h => ?_, fun h => Pure.mono (sensor_tick _ _) ?_⟩
  · have h' : ¬ (0 ≤ at_ ∧ at_ ≤ 1073741824) := of_decide_eq_false h
    rw [if_neg fun k => h' k.1]
    rfl
  rintro y w2 b2 rfl
  have hb2 := kP b1 b2
  refine ⟨_, rfl, fun h => ?_, fun h => ?_⟩
  · have h' : ¬ (0 ≤ hold ∧ hold ≤ 1073741824) := of_decide_eq_false h
    rw [if_neg fun k => h' k.2]
    rfl
  have k1 : 0 ≤ at_ ∧ at_ ≤ 1073741824 := by
    apply Decidable.byContradiction
    intro k
    rename_i h0
    exact h0 (decide_eq_false k)
  have k2 : 0 ≤ hold ∧ hold ≤ 1073741824 := by
    apply Decidable.byContradiction
    intro k
    exact h (decide_eq_false k)
  rw [if_pos ⟨k1, k2⟩]
  refine Pure.mono (CloneV (hv.keep hb2 (Nat.le_refl _)) (by simpa using hlen) rowV_len rowV_cell (by omega)) ?_
  rintro y w3 b3 ⟨A3, c3, rfl, o3⟩
  refine ⟨_, _, _, rfl, ?_⟩
  refine see_loop k1 k2 hlen (by omega) (fun w' ho => ⟨A3, c3, rfl, ho⟩) n 0 w3 rfl (by omega) (kP hb2 b3) ?_
  simpa using o3.base hb2.size
end Go.Proofs.YtdoailkigecmkaaGreatDoor.B

namespace Go.Proofs.YtdoailkigecmkaaGreatDoor.B
open Go Go.RowKit Go.Proofs Go.Proofs.YtdoailkigecmkaaGreatDoor.Vc

def oneC : Ch := ⟨4, ⟨#[100, 114, 97, 102, 116]⟩, ⟨#[49, 47, 50]⟩, ⟨#[49]⟩, ⟨#[48]⟩, ⟨#[49, 48]⟩, ⟨#[50]⟩⟩
theorem rS_one {n : Nat} (h : n < 10) : rS ((n : Int) : Rat) = ⟨#[UInt8.ofNat (48 + n)]⟩ := by
  rw [← rS_int]
  unfold iS
  rw [intT_nat, natT_small h]
  rfl
theorem one_check : checkF [oneC] = (-1, 0) := by
  have v1 : vR oneC.gain = true := by decide +kernel
  have v2 : vR oneC.offset = true := by decide +kernel
  have v3 : vR oneC.low = true := by decide +kernel
  have v4 : vR oneC.high = true := by decide +kernel
  have v5 : vR oneC.rate = true := by decide +kernel
  have q1 : qR oneC.gain = 1 / 2 := by decide +kernel
  have q3 : qR oneC.low = 0 := by decide +kernel
  have q4 : qR oneC.high = 10 := by decide +kernel
  have q5 : qR oneC.rate = 2 := by decide +kernel
  have f : faultOf none oneC = 0 := by
    unfold faultOf
    rw [if_neg (fun k => k ⟨v1, v2, v3, v4, v5⟩), if_neg (by decide), if_neg, if_neg]
    · rintro ⟨q, hq, _⟩
      cases hq
    · rw [q1, q3, q4, q5]
      decide +kernel
  unfold checkF
  rw [if_neg (by simp), chk, if_neg (fun k => k f)]
  rfl
theorem one_num3 : numberR oneC ⟨#[52]⟩ = ((3 : Nat) : Int) := by decide +kernel
theorem one_num8 : numberR oneC ⟨#[49, 52]⟩ = ((8 : Nat) : Int) := by decide +kernel
theorem one_vR : vR ⟨#[52]⟩ = true ∧ vR ⟨#[49, 52]⟩ = true := by decide +kernel
theorem one_number : numberF oneC ⟨#[52]⟩ = (⟨#[51]⟩, 0) := by
  unfold numberF
  rw [if_pos ⟨by rw [one_check], one_vR.1⟩, one_num3, rS_one (by decide)]
  rfl
theorem one_take1 : takeF [oneC] (startF [oneC]) 4 10 ⟨#[52]⟩ = .ok [⟨4, 10, 1, ⟨#[51]⟩⟩] := by
  have f : fitsF [oneC] (startF [oneC]) = true := by decide +kernel
  have q : qualF oneC ⟨4, 0, 0, ⟨#[48]⟩⟩ (((3 : Nat) : Int) : Rat) 10 = 1 := by decide +kernel
  unfold takeF
  rw [if_pos ⟨by rw [one_check], f, one_vR.1⟩]
  show (if (0 : Int) ≤ 10 ∧ (10 : Int) ≤ 1073741824 then _ else _) = _
  rw [if_pos (by decide)]
  show (if (10 : Int) < 0 then _ else Except.ok (([⟨4, 0, 0, ⟨#[48]⟩⟩] : List Va).set 0 ⟨4, 10, qualF oneC ⟨4, 0, 0, ⟨#[48]⟩⟩ (numberR oneC ⟨#[52]⟩) 10, rS (numberR oneC ⟨#[52]⟩)⟩)) = _
  rw [if_neg (by decide), one_num3, q, rS_one (by decide)]
  rfl
theorem one_take2 : takeF [oneC] [⟨4, 10, 1, ⟨#[51]⟩⟩] 4 11 ⟨#[49, 52]⟩ = .ok [⟨4, 11, 3, ⟨#[56]⟩⟩] := by
  have f : fitsF [oneC] [⟨4, 10, 1, ⟨#[51]⟩⟩] = true := by decide +kernel
  have q : qualF oneC ⟨4, 10, 1, ⟨#[51]⟩⟩ (((8 : Nat) : Int) : Rat) 11 = 3 := by decide +kernel
  unfold takeF
  rw [if_pos ⟨by rw [one_check], f, one_vR.2⟩]
  show (if (0 : Int) ≤ 11 ∧ (11 : Int) ≤ 1073741824 then _ else _) = _
  rw [if_pos (by decide)]
  show (if (11 : Int) < 10 then _ else Except.ok (([⟨4, 10, 1, ⟨#[51]⟩⟩] : List Va).set 0 ⟨4, 11, qualF oneC ⟨4, 10, 1, ⟨#[51]⟩⟩ (numberR oneC ⟨#[49, 52]⟩) 11, rS (numberR oneC ⟨#[49, 52]⟩)⟩)) = _
  rw [if_neg (by decide), one_num8, q, rS_one (by decide)]
  rfl
theorem one_see : seeF [⟨4, 10, 1, ⟨#[51]⟩⟩] 16 5 = .ok [⟨4, 10, 4, ⟨#[51]⟩⟩] := by
  unfold seeF
  rw [if_neg (by decide), if_pos (by decide)]
  rfl
abbrev threeV : List Va := [⟨0, 0, 1, ⟨#[51]⟩⟩, ⟨0, 0, 1, ⟨#[53]⟩⟩, ⟨0, 0, 1, ⟨#[52]⟩⟩]
theorem one_vote : voteF threeV ⟨#[49]⟩ = (⟨#[52]⟩, true, 0) := by
  have h1 : vR ⟨#[49]⟩ = true ∧ ¬ qR ⟨#[49]⟩ < 0 ∧ (threeV.any fun x => !vR x.num) = false := by decide +kernel
  have h2 : midF threeV = some (((4 : Nat) : Int) : Rat) := by decide +kernel
  have h3 : (!((srtF threeV).any fun x => decide (qR ⟨#[49]⟩ < absR (x - (((4 : Nat) : Int) : Rat))))) = true := by decide +kernel
  unfold voteF
  rw [if_pos h1, if_neg (by decide), h2]
  simp only
  rw [h3, rS_one (by decide)]
  rfl
end Go.Proofs.YtdoailkigecmkaaGreatDoor.B

set_option maxRecDepth 100000
namespace Go.Proofs.YtdoailkigecmkaaGreatDoor.F
open Go Go.RowKit Go.Proofs Go.Proofs.YtdoailkigecmkaaGreatDoor.Vc
def garboardlaw55_SensorGood.L9 (Al0 : Option Addr) (nl0 cl0 : Nat) (Al5 : Option Addr) (nl5 cl5 : Nat) (Al46 : Option Addr) (nl46 cl46 : Nat) (il47 : Int) (il48 : Int) (B : Nat) (w : World) (R : Value → World → Prop) : Prop := At Tryz.prog 6 211 (loopAt Tryz.f6 9) [(0, .v (.slice Al0 nl0 cl0)), (5, .v (.slice Al5 nl5 cl5)), (46, .v (.slice Al46 nl46 cl46)), (47, .v (.int .i64 il47)), (48, .v (.int .i64 il48))] [] B w R
def garboardlaw55_SensorGood.L17 (Al0 : Option Addr) (nl0 cl0 : Nat) (Al5 : Option Addr) (nl5 cl5 : Nat) (al8 : Addr) (Al9 : Option Addr) (nl9 cl9 : Nat) (il11 : Int) (Al46 : Option Addr) (nl46 cl46 : Nat) (il47 : Int) (il48 : Int) (il83 : Int) (il84 : Int) (B : Nat) (w : World) (R : Value → World → Prop) : Prop := At Tryz.prog 6 211 (loopAt Tryz.f6 17) [(0, .v (.slice Al0 nl0 cl0)), (5, .v (.slice Al5 nl5 cl5)), (8, .v (.pointer (some al8))), (9, .v (.slice Al9 nl9 cl9)), (11, .v (.int .i64 il11)), (46, .v (.slice Al46 nl46 cl46)), (47, .v (.int .i64 il47)), (48, .v (.int .i64 il48)), (83, .v (.int .i64 il83)), (84, .v (.int .i64 il84))] [] B w R
noncomputable def garboardlaw55_SensorGood.cx (w : World) (B : Nat) (R : Value → World → Prop) : Cx := ⟨Tryz.prog, 6, 211, Tryz.f6.results.toList, [((true, 9), [0, 5, 46, 47, 48], []), ((true, 17), [0, 5, 8, 9, 11, 46, 47, 48, 83, 84], [])], [(13, 1, 5), (30, 9999, 3), (32, 9999, 3)], w, B, R⟩
theorem garboardlaw55_SensorGood.L9.step (Al0 : Option Addr) (nl0 cl0 : Nat) (Al5 : Option Addr) (nl5 cl5 : Nat) (Al46 : Option Addr) (nl46 cl46 : Nat) (il47 : Int) (il48 : Int) (B : Nat) (w : World) (R : Value → World → Prop)
    (h : ((((il48 : Int) < il47) → ((0 ≤ il48 ∧ il48 < nl46) ∧ ∃ a17, Al46 = some a17 ∧ (∃ (i18 : Int) (i19 : Int) (s20 : ByteArray), CellsAt w (a17.add ((il48).toNat * 3)) [(.int .i64 i18), (.int .i64 i19), (.string s20)] ∧ (∀ w21, Ext B [] w w21 → (Pure Tryz.prog 13 #[(.slice Al0 nl0 cl0)] w21 fun r23 w24 => ∃ (A22 : Option Addr) (n22 c22 : Nat), r23 = (.slice A22 n22 c22) ∧ (Pure Tryz.prog 23 #[(.slice Al5 nl5 cl5)] w24 fun r26 w27 => ∃ (A25 : Option Addr) (n25 c25 : Nat), r26 = (.slice A25 n25 c25) ∧ (Pure Tryz.prog 22 #[(.slice A22 n22 c22), (.slice A25 n25 c25), (.agg #[(.int .i64 i18), (.int .i64 i19), (.string s20)])] w27 fun r30 w31 => ∃ (A28 : Option Addr) (n28 c28 : Nat) (i29 : Int), r30 = (.tuple #[(.slice A28 n28 c28), (.int .i64 i29)]) ∧ ((((i29 : Int) ≠ (0 : Int)) → (inR .i64 (il48 + (1 : Int)) ∧ (garboardlaw55_SensorGood.L9 Al0 nl0 cl0 Al5 nl5 cl5 Al46 nl46 cl46 il47 (il48 + (1 : Int)) B w31 R))) ∧ (¬ ((i29 : Int) ≠ (0 : Int)) → (∀ p32 : Nat, B ≤ p32 → w31.heap[p32]? = some (.cells [(.int .i64 i18), (.int .i64 i19), (.string s20)].toArray 42 (0, 0)) → (Pure Tryz.prog 31 #[(.slice Al0 nl0 cl0), (.func (.func 32) #[] #[(.pointer (some (⟨p32, 0, none⟩ : Addr)))])] w31 fun r34 w35 => ∃ (i33 : Int), r34 = (.int .i64 i33) ∧ ((((i33 : Int) < (0 : Int)) → (R (.bool false) w35)) ∧ (¬ ((i33 : Int) < (0 : Int)) → (((((n28 : Int) : Int) ≠ (nl5 : Int)) → (R (.bool false) w35)) ∧ (¬ (((n28 : Int) : Int) ≠ (nl5 : Int)) → (((((nl5 : Int) : Int) ≠ (nl0 : Int)) → (R (.bool false) w35)) ∧ (¬ (((nl5 : Int) : Int) ≠ (nl0 : Int)) → (garboardlaw55_SensorGood.L17 Al0 nl0 cl0 Al5 nl5 cl5 (⟨p32, 0, none⟩ : Addr) A28 n28 c28 i33 Al46 nl46 cl46 il47 il48 (n28 : Int) (0 : Int) B w35 R)))))))))))))))))) ∧ (¬ ((il48 : Int) < il47) → (R (.bool true) w)))) :
    garboardlaw55_SensorGood.L9 Al0 nl0 cl0 Al5 nl5 cl5 Al46 nl46 cl46 il47 il48 B w R :=
  loop_of_run (garboardlaw55_SensorGood.cx w B R) 100000 (loopAt Tryz.f6 9) _ _ follows Tryz.func6 rfl rfl rfl (Eq.mp (by kernel_rfl) h)
theorem garboardlaw55_SensorGood.L17.step (Al0 : Option Addr) (nl0 cl0 : Nat) (Al5 : Option Addr) (nl5 cl5 : Nat) (al8 : Addr) (Al9 : Option Addr) (nl9 cl9 : Nat) (il11 : Int) (Al46 : Option Addr) (nl46 cl46 : Nat) (il47 : Int) (il48 : Int) (il83 : Int) (il84 : Int) (B : Nat) (w : World) (R : Value → World → Prop)
    (h : ((((il84 : Int) < il83) → ((((il84 : Int) ≠ il11) → ((0 ≤ il84 ∧ il84 < nl9) ∧ ∃ a36, Al9 = some a36 ∧ (∃ (i37 : Int) (i38 : Int) (i39 : Int) (s40 : ByteArray), CellsAt w (a36.add ((il84).toNat * 4)) [(.int .i64 i37), (.int .i64 i38), (.int .i64 i39), (.string s40)] ∧ ((0 ≤ il84 ∧ il84 < nl5) ∧ ∃ a41, Al5 = some a41 ∧ (∃ (i42 : Int) (i43 : Int) (i44 : Int) (s45 : ByteArray), CellsAt w (a41.add ((il84).toNat * 4)) [(.int .i64 i42), (.int .i64 i43), (.int .i64 i44), (.string s45)] ∧ (((¬ (i37 = i42 ∧ i38 = i43 ∧ i39 = i44 ∧ s40 = s45 ∧ True)) → (∀ w46, Ext B [] w w46 → (R (.bool false) w46))) ∧ (¬ (¬ (i37 = i42 ∧ i38 = i43 ∧ i39 = i44 ∧ s40 = s45 ∧ True)) → (inR .i64 (il84 + (1 : Int)) ∧ (∀ w47, Ext B [] w w47 → (garboardlaw55_SensorGood.L17 Al0 nl0 cl0 Al5 nl5 cl5 al8 Al9 nl9 cl9 il11 Al46 nl46 cl46 il47 il48 il83 (il84 + (1 : Int)) B w47 R)))))))))) ∧ (¬ ((il84 : Int) ≠ il11) → (inR .i64 (il84 + (1 : Int)) ∧ (∀ w48, Ext B [] w w48 → (garboardlaw55_SensorGood.L17 Al0 nl0 cl0 Al5 nl5 cl5 al8 Al9 nl9 cl9 il11 Al46 nl46 cl46 il47 il48 il83 (il84 + (1 : Int)) B w48 R)))))) ∧ (¬ ((il84 : Int) < il83) → ((0 ≤ il11 ∧ il11 < nl9) ∧ ∃ a49, Al9 = some a49 ∧ (∃ (i50 : Int), CellsAt w ((a49.add ((il11).toNat * 4)).add 1) [(.int .i64 i50)] ∧ (∃ (i51 : Int), CellsAt w (al8.add 1) [(.int .i64 i51)] ∧ ((((i50 : Int) ≠ i51) → (∀ w52, Ext B [] w w52 → (R (.bool false) w52))) ∧ (¬ ((i50 : Int) ≠ i51) → ((0 ≤ il11 ∧ il11 < nl9) ∧ ∃ a53, Al9 = some a53 ∧ (∃ (i54 : Int), CellsAt w ((a53.add ((il11).toNat * 4)).add 2) [(.int .i64 i54)] ∧ ((((i54 : Int) = (0 : Int)) → (∀ w55, Ext B [] w w55 → (R (.bool false) w55))) ∧ (¬ ((i54 : Int) = (0 : Int)) → ((0 ≤ il11 ∧ il11 < nl9) ∧ ∃ a56, Al9 = some a56 ∧ (∀ w57, Ext B [] w w57 → (∃ (i58 : Int), CellsAt w57 ((a56.add ((il11).toNat * 4)).add 2) [(.int .i64 i58)] ∧ ((((i58 : Int) = (1 : Int)) → ((0 ≤ il11 ∧ il11 < nl9) ∧ ∃ a59, Al9 = some a59 ∧ (∃ (s60 : ByteArray), CellsAt w57 ((a59.add ((il11).toNat * 4)).add 3) [(.string s60)] ∧ ((0 ≤ il11 ∧ il11 < nl0) ∧ ∃ a61, Al0 = some a61 ∧ (∃ (s62 : ByteArray), CellsAt w57 ((a61.add ((il11).toNat * 7)).add 4) [(.string s62)] ∧ (∀ w63, Ext B [] w57 w63 → (Pure Tryz.prog 33 #[(.string s60), (.string s62)] w63 fun r65 w66 => ∃ (b64 : Bool), r65 = (.bool b64) ∧ ((b64 = true → (R (.bool false) w66)) ∧ (b64 = false → ((0 ≤ il11 ∧ il11 < nl0) ∧ ∃ a67, Al0 = some a67 ∧ (∃ (s68 : ByteArray), CellsAt w57 ((a67.add ((il11).toNat * 7)).add 5) [(.string s68)] ∧ ((0 ≤ il11 ∧ il11 < nl9) ∧ ∃ a69, Al9 = some a69 ∧ (∃ (s70 : ByteArray), CellsAt w57 ((a69.add ((il11).toNat * 4)).add 3) [(.string s70)] ∧ (Pure Tryz.prog 33 #[(.string s68), (.string s70)] w66 fun r72 w73 => ∃ (b71 : Bool), r72 = (.bool b71) ∧ ((b71 = true → (R (.bool false) w73)) ∧ (b71 = false → ((0 ≤ il11 ∧ il11 < nl9) ∧ ∃ a74, Al9 = some a74 ∧ (∃ (s75 : ByteArray), CellsAt w73 ((a74.add ((il11).toNat * 4)).add 3) [(.string s75)] ∧ (Pure Tryz.prog 34 #[(.string s75)] w73 fun r80 w81 => ∃ (b76 : Bool) (A77 : Option Addr) (n77 c77 : Nat) (A78 : Option Addr) (n78 c78 : Nat) (b79 : Bool), r80 = (.tuple #[(.agg #[(.bool b76), (.slice A77 n77 c77), (.slice A78 n78 c78)]), (.bool b79)]) ∧ ((0 ≤ il11 ∧ il11 < nl5) ∧ ∃ a82, Al5 = some a82 ∧ (∀ w83, Ext B [] w81 w83 → (∃ (s84 : ByteArray), CellsAt w83 ((a82.add ((il11).toNat * 4)).add 3) [(.string s84)] ∧ (Pure Tryz.prog 34 #[(.string s84)] w83 fun r89 w90 => ∃ (b85 : Bool) (A86 : Option Addr) (n86 c86 : Nat) (A87 : Option Addr) (n87 c87 : Nat) (b88 : Bool), r89 = (.tuple #[(.agg #[(.bool b85), (.slice A86 n86 c86), (.slice A87 n87 c87)]), (.bool b88)]) ∧ ((0 ≤ il11 ∧ il11 < nl0) ∧ ∃ a91, Al0 = some a91 ∧ (∀ w92, Ext B [] w90 w92 → (∃ (s93 : ByteArray), CellsAt w92 ((a91.add ((il11).toNat * 7)).add 6) [(.string s93)] ∧ (Pure Tryz.prog 34 #[(.string s93)] w92 fun r98 w99 => ∃ (b94 : Bool) (A95 : Option Addr) (n95 c95 : Nat) (A96 : Option Addr) (n96 c96 : Nat) (b97 : Bool), r98 = (.tuple #[(.agg #[(.bool b94), (.slice A95 n95 c95), (.slice A96 n96 c96)]), (.bool b97)]) ∧ (∀ w100, Ext B [] w99 w100 → ((0 ≤ il11 ∧ il11 < nl9) ∧ ∃ a101, Al9 = some a101 ∧ (∃ (i102 : Int), CellsAt w100 ((a101.add ((il11).toNat * 4)).add 1) [(.int .i64 i102)] ∧ ((0 ≤ il11 ∧ il11 < nl5) ∧ ∃ a103, Al5 = some a103 ∧ (∃ (i104 : Int), CellsAt w100 ((a103.add ((il11).toNat * 4)).add 1) [(.int .i64 i104)] ∧ (inR .i64 (i102 - i104) ∧ ((∀ w105, Ext B [] w100 w105 → (Pure Tryz.prog 36 #[(.int .i64 (i102 - i104))] w105 fun r109 w110 => ∃ (b106 : Bool) (A107 : Option Addr) (n107 c107 : Nat) (A108 : Option Addr) (n108 c108 : Nat), r109 = (.agg #[(.bool b106), (.slice A107 n107 c107), (.slice A108 n108 c108)]) ∧ ((Pure Tryz.prog 35 #[(.agg #[(.bool b94), (.slice A95 n95 c95), (.slice A96 n96 c96)]), (.agg #[(.bool b106), (.slice A107 n107 c107), (.slice A108 n108 c108)])] w110 fun r114 w115 => ∃ (b111 : Bool) (A112 : Option Addr) (n112 c112 : Nat) (A113 : Option Addr) (n113 c113 : Nat), r114 = (.agg #[(.bool b111), (.slice A112 n112 c112), (.slice A113 n113 c113)]) ∧ (∀ w116, Ext B [] w115 w116 → (Pure Tryz.prog 37 #[(.agg #[(.bool b76), (.slice A77 n77 c77), (.slice A78 n78 c78)]), (.agg #[(.bool b85), (.slice A86 n86 c86), (.slice A87 n87 c87)])] w116 fun r120 w121 => ∃ (b117 : Bool) (A118 : Option Addr) (n118 c118 : Nat) (A119 : Option Addr) (n119 c119 : Nat), r120 = (.agg #[(.bool b117), (.slice A118 n118 c118), (.slice A119 n119 c119)]) ∧ (∀ w122, Ext B [] w121 w122 → ((0 ≤ il11 ∧ il11 < nl5) ∧ ∃ a123, Al5 = some a123 ∧ (∃ (i124 : Int), CellsAt w122 ((a123.add ((il11).toNat * 4)).add 2) [(.int .i64 i124)] ∧ ((((i124 : Int) = (1 : Int)) → (∀ w125, Ext B [] w122 w125 → (Pure Tryz.prog 38 #[(.agg #[(.bool b111), (.slice A112 n112 c112), (.slice A113 n113 c113)]), (.agg #[(.bool b117), (.slice A118 n118 c118), (.slice A119 n119 c119)])] w125 fun r127 w128 => ∃ (b126 : Bool), r127 = (.bool b126) ∧ ((b126 = true → (R (.bool false) w128)) ∧ (b126 = false → (Pure Tryz.prog 39 #[(.agg #[(.bool b117), (.slice A118 n118 c118), (.slice A119 n119 c119)])] w128 fun r132 w133 => ∃ (b129 : Bool) (A130 : Option Addr) (n130 c130 : Nat) (A131 : Option Addr) (n131 c131 : Nat), r132 = (.agg #[(.bool b129), (.slice A130 n130 c130), (.slice A131 n131 c131)]) ∧ (Pure Tryz.prog 38 #[(.agg #[(.bool b111), (.slice A112 n112 c112), (.slice A113 n113 c113)]), (.agg #[(.bool b129), (.slice A130 n130 c130), (.slice A131 n131 c131)])] w133 fun r135 w136 => ∃ (b134 : Bool), r135 = (.bool b134) ∧ ((b134 = true → (R (.bool false) w136)) ∧ (b134 = false → (inR .i64 (il48 + (1 : Int)) ∧ (garboardlaw55_SensorGood.L9 Al0 nl0 cl0 Al9 nl9 cl9 Al46 nl46 cl46 il47 (il48 + (1 : Int)) B w136 R))))))))))) ∧ (¬ ((i124 : Int) = (1 : Int)) → (inR .i64 (il48 + (1 : Int)) ∧ (∀ w137, Ext B [] w122 w137 → (garboardlaw55_SensorGood.L9 Al0 nl0 cl0 Al9 nl9 cl9 Al46 nl46 cl46 il47 (il48 + (1 : Int)) B w137 R))))))))))) ∧ (∀ w138, Ext B [] w110 w138 → (Pure Tryz.prog 35 #[(.agg #[(.bool b94), (.slice A95 n95 c95), (.slice A96 n96 c96)]), (.agg #[(.bool b106), (.slice A107 n107 c107), (.slice A108 n108 c108)])] w138 fun r142 w143 => ∃ (b139 : Bool) (A140 : Option Addr) (n140 c140 : Nat) (A141 : Option Addr) (n141 c141 : Nat), r142 = (.agg #[(.bool b139), (.slice A140 n140 c140), (.slice A141 n141 c141)]) ∧ (∀ w144, Ext B [62] w143 w144 → (Pure Tryz.prog 37 #[(.agg #[(.bool b76), (.slice A77 n77 c77), (.slice A78 n78 c78)]), (.agg #[(.bool b85), (.slice A86 n86 c86), (.slice A87 n87 c87)])] w144 fun r148 w149 => ∃ (b145 : Bool) (A146 : Option Addr) (n146 c146 : Nat) (A147 : Option Addr) (n147 c147 : Nat), r148 = (.agg #[(.bool b145), (.slice A146 n146 c146), (.slice A147 n147 c147)]) ∧ (∀ w150, Ext B [] w149 w150 → ((0 ≤ il11 ∧ il11 < nl5) ∧ ∃ a151, Al5 = some a151 ∧ (∃ (i152 : Int), CellsAt w150 ((a151.add ((il11).toNat * 4)).add 2) [(.int .i64 i152)] ∧ ((((i152 : Int) = (1 : Int)) → (∀ w153, Ext B [] w150 w153 → (Pure Tryz.prog 38 #[(.agg #[(.bool b139), (.slice A140 n140 c140), (.slice A141 n141 c141)]), (.agg #[(.bool b145), (.slice A146 n146 c146), (.slice A147 n147 c147)])] w153 fun r155 w156 => ∃ (b154 : Bool), r155 = (.bool b154) ∧ ((b154 = true → (R (.bool false) w156)) ∧ (b154 = false → (Pure Tryz.prog 39 #[(.agg #[(.bool b145), (.slice A146 n146 c146), (.slice A147 n147 c147)])] w156 fun r160 w161 => ∃ (b157 : Bool) (A158 : Option Addr) (n158 c158 : Nat) (A159 : Option Addr) (n159 c159 : Nat), r160 = (.agg #[(.bool b157), (.slice A158 n158 c158), (.slice A159 n159 c159)]) ∧ (Pure Tryz.prog 38 #[(.agg #[(.bool b139), (.slice A140 n140 c140), (.slice A141 n141 c141)]), (.agg #[(.bool b157), (.slice A158 n158 c158), (.slice A159 n159 c159)])] w161 fun r163 w164 => ∃ (b162 : Bool), r163 = (.bool b162) ∧ ((b162 = true → (R (.bool false) w164)) ∧ (b162 = false → (inR .i64 (il48 + (1 : Int)) ∧ (garboardlaw55_SensorGood.L9 Al0 nl0 cl0 Al9 nl9 cl9 Al46 nl46 cl46 il47 (il48 + (1 : Int)) B w164 R))))))))))) ∧ (¬ ((i152 : Int) = (1 : Int)) → (inR .i64 (il48 + (1 : Int)) ∧ (∀ w165, Ext B [] w150 w165 → (garboardlaw55_SensorGood.L9 Al0 nl0 cl0 Al9 nl9 cl9 Al46 nl46 cl46 il47 (il48 + (1 : Int)) B w165 R))))))))))))))) ∧ (∀ w166, Ext B [] w100 w166 → (Pure Tryz.prog 36 #[(.int .i64 (i102 - i104))] w166 fun r170 w171 => ∃ (b167 : Bool) (A168 : Option Addr) (n168 c168 : Nat) (A169 : Option Addr) (n169 c169 : Nat), r170 = (.agg #[(.bool b167), (.slice A168 n168 c168), (.slice A169 n169 c169)]) ∧ (Pure Tryz.prog 35 #[(.agg #[(.bool b94), (.slice A95 n95 c95), (.slice A96 n96 c96)]), (.agg #[(.bool b167), (.slice A168 n168 c168), (.slice A169 n169 c169)])] w171 fun r175 w176 => ∃ (b172 : Bool) (A173 : Option Addr) (n173 c173 : Nat) (A174 : Option Addr) (n174 c174 : Nat), r175 = (.agg #[(.bool b172), (.slice A173 n173 c173), (.slice A174 n174 c174)]) ∧ (∀ w177, Ext B [62] w176 w177 → (Pure Tryz.prog 37 #[(.agg #[(.bool b76), (.slice A77 n77 c77), (.slice A78 n78 c78)]), (.agg #[(.bool b85), (.slice A86 n86 c86), (.slice A87 n87 c87)])] w177 fun r181 w182 => ∃ (b178 : Bool) (A179 : Option Addr) (n179 c179 : Nat) (A180 : Option Addr) (n180 c180 : Nat), r181 = (.agg #[(.bool b178), (.slice A179 n179 c179), (.slice A180 n180 c180)]) ∧ (∀ w183, Ext B [] w182 w183 → ((0 ≤ il11 ∧ il11 < nl5) ∧ ∃ a184, Al5 = some a184 ∧ (∃ (i185 : Int), CellsAt w183 ((a184.add ((il11).toNat * 4)).add 2) [(.int .i64 i185)] ∧ ((((i185 : Int) = (1 : Int)) → (∀ w186, Ext B [] w183 w186 → (Pure Tryz.prog 38 #[(.agg #[(.bool b172), (.slice A173 n173 c173), (.slice A174 n174 c174)]), (.agg #[(.bool b178), (.slice A179 n179 c179), (.slice A180 n180 c180)])] w186 fun r188 w189 => ∃ (b187 : Bool), r188 = (.bool b187) ∧ ((b187 = true → (R (.bool false) w189)) ∧ (b187 = false → (Pure Tryz.prog 39 #[(.agg #[(.bool b178), (.slice A179 n179 c179), (.slice A180 n180 c180)])] w189 fun r193 w194 => ∃ (b190 : Bool) (A191 : Option Addr) (n191 c191 : Nat) (A192 : Option Addr) (n192 c192 : Nat), r193 = (.agg #[(.bool b190), (.slice A191 n191 c191), (.slice A192 n192 c192)]) ∧ (Pure Tryz.prog 38 #[(.agg #[(.bool b172), (.slice A173 n173 c173), (.slice A174 n174 c174)]), (.agg #[(.bool b190), (.slice A191 n191 c191), (.slice A192 n192 c192)])] w194 fun r196 w197 => ∃ (b195 : Bool), r196 = (.bool b195) ∧ ((b195 = true → (R (.bool false) w197)) ∧ (b195 = false → (inR .i64 (il48 + (1 : Int)) ∧ (garboardlaw55_SensorGood.L9 Al0 nl0 cl0 Al9 nl9 cl9 Al46 nl46 cl46 il47 (il48 + (1 : Int)) B w197 R))))))))))) ∧ (¬ ((i185 : Int) = (1 : Int)) → (inR .i64 (il48 + (1 : Int)) ∧ (∀ w198, Ext B [] w183 w198 → (garboardlaw55_SensorGood.L9 Al0 nl0 cl0 Al9 nl9 cl9 Al46 nl46 cl46 il47 (il48 + (1 : Int)) B w198 R))))))))))))))))))))))))))))))))))))))))))))))) ∧ (¬ ((i58 : Int) = (1 : Int)) → (inR .i64 (il48 + (1 : Int)) ∧ (garboardlaw55_SensorGood.L9 Al0 nl0 cl0 Al9 nl9 cl9 Al46 nl46 cl46 il47 (il48 + (1 : Int)) B w57 R))))))))))))))))))) :
    garboardlaw55_SensorGood.L17 Al0 nl0 cl0 Al5 nl5 cl5 al8 Al9 nl9 cl9 il11 Al46 nl46 cl46 il47 il48 il83 il84 B w R :=
  loop_of_run (garboardlaw55_SensorGood.cx w B R) 100000 (loopAt Tryz.f6 17) _ _ follows Tryz.func6 rfl rfl rfl (Eq.mp (by kernel_rfl) h)
theorem garboardlaw55_SensorGood.vc (Ap0 : Option Addr) (np0 cp0 : Nat) (Ap1 : Option Addr) (np1 cp1 : Nat) (w : World) (R : Value → World → Prop)
    (h : (Pure Tryz.prog 10 #[] w fun r2 w3 => ∃ (b1 : Bool), r2 = (.bool b1) ∧ (((b1 = false) → (R (.bool false) w3)) ∧ (¬ (b1 = false) → (Pure Tryz.prog 11 #[(.slice Ap0 np0 cp0), (.slice none 0 0)] w3 fun r5 w6 => ∃ (b4 : Bool), r5 = (.bool b4) ∧ (((b4 = false) → (R (.bool true) w6)) ∧ (¬ (b4 = false) → (((((np1 : Int) : Int) > (12 : Int)) → (R (.bool true) w6)) ∧ (¬ (((np1 : Int) : Int) > (12 : Int)) → (Pure Tryz.prog 29 #[(.slice Ap1 np1 cp1), (.func (.func 30) #[] #[])] w6 fun r8 w9 => ∃ (b7 : Bool), r8 = (.bool b7) ∧ ((b7 = true → (R (.bool true) w9)) ∧ (b7 = false → (Pure Tryz.prog 13 #[(.slice Ap0 np0 cp0)] w9 fun r11 w12 => ∃ (A10 : Option Addr) (n10 c10 : Nat), r11 = (.slice A10 n10 c10) ∧ (Pure Tryz.prog 15 #[(.slice A10 n10 c10)] w12 fun r15 w16 => ∃ (A13 : Option Addr) (n13 c13 : Nat) (i14 : Int), r15 = (.tuple #[(.slice A13 n13 c13), (.int .i64 i14)]) ∧ ((((i14 : Int) ≠ (0 : Int)) → (R (.bool (decide (((n13 : Int) : Int) = (0 : Int)))) w16)) ∧ (¬ ((i14 : Int) ≠ (0 : Int)) → (garboardlaw55_SensorGood.L9 Ap0 np0 cp0 A13 n13 c13 Ap1 np1 cp1 (np1 : Int) (0 : Int) w.heap.size w16 R))))))))))))))))) :
    Pure Tryz.prog 6 #[(.slice Ap0 np0 cp0), (.slice Ap1 np1 cp1)] w R :=
  pure_of_run (garboardlaw55_SensorGood.cx w w.heap.size R) 100000 follows Tryz.func6 rfl rfl rfl rfl rfl rfl rfl (Eq.mp (by kernel_rfl) h)

noncomputable def garboardlaw55_SensorSteady.cx (w : World) (B : Nat) (R : Value → World → Prop) : Cx := ⟨Tryz.prog, 7, 132, Tryz.f7.results.toList, [], [(13, 1, 5)], w, B, R⟩
theorem garboardlaw55_SensorSteady.vc (Ap0 : Option Addr) (np0 cp0 : Nat) (ip1_0 : Int) (ip1_1 : Int) (sp1_2 : ByteArray) (ip2 : Int) (w : World) (R : Value → World → Prop)
    (h : (∀ w1, Ext w.heap.size [] w w1 → (Pure Tryz.prog 10 #[] w1 fun r3 w4 => ∃ (b2 : Bool), r3 = (.bool b2) ∧ (((b2 = false) → (R (.bool false) w4)) ∧ (¬ (b2 = false) → (Pure Tryz.prog 11 #[(.slice Ap0 np0 cp0), (.slice none 0 0)] w4 fun r6 w7 => ∃ (b5 : Bool), r6 = (.bool b5) ∧ (((b5 = false) → (R (.bool true) w7)) ∧ (¬ (b5 = false) → (((((ByteArray.size sp1_2 : Int) : Int) > (40 : Int)) → (R (.bool true) w7)) ∧ (¬ (((ByteArray.size sp1_2 : Int) : Int) > (40 : Int)) → ((((ip2 : Int) < (0 : Int)) → (R (.bool true) w7)) ∧ (¬ ((ip2 : Int) < (0 : Int)) → ((((ip2 : Int) > (1073741824 : Int)) → (R (.bool true) w7)) ∧ (¬ ((ip2 : Int) > (1073741824 : Int)) → (inR .i64 ((1073741824 : Int) - ip2) ∧ ((((ip1_1 : Int) > ((1073741824 : Int) - ip2)) → (R (.bool true) w7)) ∧ (¬ ((ip1_1 : Int) > ((1073741824 : Int) - ip2)) → (Pure Tryz.prog 13 #[(.slice Ap0 np0 cp0)] w7 fun r9 w10 => ∃ (A8 : Option Addr) (n8 c8 : Nat), r9 = (.slice A8 n8 c8) ∧ (Pure Tryz.prog 15 #[(.slice A8 n8 c8)] w10 fun r13 w14 => ∃ (A11 : Option Addr) (n11 c11 : Nat) (i12 : Int), r13 = (.tuple #[(.slice A11 n11 c11), (.int .i64 i12)]) ∧ ((((i12 : Int) ≠ (0 : Int)) → (R (.bool true) w14)) ∧ (¬ ((i12 : Int) ≠ (0 : Int)) → (∀ w15, Ext w.heap.size [] w14 w15 → (Pure Tryz.prog 13 #[(.slice Ap0 np0 cp0)] w15 fun r17 w18 => ∃ (A16 : Option Addr) (n16 c16 : Nat), r17 = (.slice A16 n16 c16) ∧ (Pure Tryz.prog 22 #[(.slice A16 n16 c16), (.slice A11 n11 c11), (.agg #[(.int .i64 ip1_0), (.int .i64 ip1_1), (.string sp1_2)])] w18 fun r21 w22 => ∃ (A19 : Option Addr) (n19 c19 : Nat) (i20 : Int), r21 = (.tuple #[(.slice A19 n19 c19), (.int .i64 i20)]) ∧ ((((i20 : Int) ≠ (0 : Int)) → (R (.bool (decide (((n19 : Int) : Int) = (0 : Int)))) w22)) ∧ (¬ ((i20 : Int) ≠ (0 : Int)) → (inR .i64 (ip1_1 + ip2) ∧ (∀ w23, Ext w.heap.size [42] w22 w23 → (Pure Tryz.prog 13 #[(.slice Ap0 np0 cp0)] w23 fun r25 w26 => ∃ (A24 : Option Addr) (n24 c24 : Nat), r25 = (.slice A24 n24 c24) ∧ (Pure Tryz.prog 23 #[(.slice A19 n19 c19)] w26 fun r28 w29 => ∃ (A27 : Option Addr) (n27 c27 : Nat), r28 = (.slice A27 n27 c27) ∧ (Pure Tryz.prog 22 #[(.slice A24 n24 c24), (.slice A27 n27 c27), (.agg #[(.int .i64 ip1_0), (.int .i64 (ip1_1 + ip2)), (.string sp1_2)])] w29 fun r32 w33 => ∃ (A30 : Option Addr) (n30 c30 : Nat) (i31 : Int), r32 = (.tuple #[(.slice A30 n30 c30), (.int .i64 i31)]) ∧ (∀ p34 : Nat, w.heap.size ≤ p34 → w33.heap[p34]? = some (.cells [(.int .i64 ip1_0), (.int .i64 (ip1_1 + ip2)), (.string sp1_2)].toArray 42 (0, 0)) → (Pure Tryz.prog 31 #[(.slice Ap0 np0 cp0), (.func (.func 40) #[] #[(.pointer (some (⟨p34, 0, none⟩ : Addr)))])] w33 fun r36 w37 => ∃ (i35 : Int), r36 = (.int .i64 i35) ∧ ((((i31 : Int) = (0 : Int)) → ((((i35 : Int) ≥ (0 : Int)) → ((((i35 : Int) < (n19 : Int)) → ((((i35 : Int) < (n30 : Int)) → ((0 ≤ i35 ∧ i35 < n19) ∧ ∃ a38, A19 = some a38 ∧ (∃ (i39 : Int), CellsAt w37 ((a38.add ((i35).toNat * 4)).add 2) [(.int .i64 i39)] ∧ ((0 ≤ i35 ∧ i35 < n30) ∧ ∃ a40, A30 = some a40 ∧ (∃ (i41 : Int), CellsAt w37 ((a40.add ((i35).toNat * 4)).add 2) [(.int .i64 i41)] ∧ ((((i39 : Int) = i41) → ((0 ≤ i35 ∧ i35 < n19) ∧ ∃ a42, A19 = some a42 ∧ (∃ (s43 : ByteArray), CellsAt w37 ((a42.add ((i35).toNat * 4)).add 3) [(.string s43)] ∧ ((0 ≤ i35 ∧ i35 < n30) ∧ ∃ a44, A30 = some a44 ∧ (∃ (s45 : ByteArray), CellsAt w37 ((a44.add ((i35).toNat * 4)).add 3) [(.string s45)] ∧ (((s43 = s45) → ((0 ≤ i35 ∧ i35 < n30) ∧ ∃ a46, A30 = some a46 ∧ (∃ (i47 : Int), CellsAt w37 ((a46.add ((i35).toNat * 4)).add 1) [(.int .i64 i47)] ∧ (∃ (i48 : Int), CellsAt w37 ((⟨p34, 0, none⟩ : Addr).add 1) [(.int .i64 i48)] ∧ (∀ w49, Ext w.heap.size [] w37 w49 → (R (.bool (decide ((i47 : Int) = i48))) w49)))))) ∧ (¬ (s43 = s45) → (∀ w50, Ext w.heap.size [] w37 w50 → (R (.bool false) w50))))))))) ∧ (¬ ((i39 : Int) = i41) → (∀ w51, Ext w.heap.size [] w37 w51 → (R (.bool false) w51))))))))) ∧ (¬ ((i35 : Int) < (n30 : Int)) → (∀ w52, Ext w.heap.size [] w37 w52 → (R (.bool false) w52))))) ∧ (¬ ((i35 : Int) < (n19 : Int)) → (∀ w53, Ext w.heap.size [] w37 w53 → (R (.bool false) w53))))) ∧ (¬ ((i35 : Int) ≥ (0 : Int)) → (∀ w54, Ext w.heap.size [] w37 w54 → (R (.bool false) w54))))) ∧ (¬ ((i31 : Int) = (0 : Int)) → (∀ w55, Ext w.heap.size [] w37 w55 → (R (.bool false) w55))))))))))))))))))))))))))))))))))))) :
    Pure Tryz.prog 7 #[(.slice Ap0 np0 cp0), (.agg #[(.int .i64 ip1_0), (.int .i64 ip1_1), (.string sp1_2)]), (.int .i64 ip2)] w R :=
  pure_of_run (garboardlaw55_SensorSteady.cx w w.heap.size R) 100000 follows Tryz.func7 rfl rfl rfl rfl rfl rfl rfl (Eq.mp (by kernel_rfl) h)

def garboardlaw55_SensorMiddle.L15 (sl5 : ByteArray) (il12 : Int) (il13 : Int) (il14 : Int) (bl15 : Bool) (Al68 : Option Addr) (nl68 cl68 : Nat) (il69 : Int) (il70 : Int) (B : Nat) (w : World) (R : Value → World → Prop) : Prop := At Tryz.prog 8 114 (loopAt Tryz.f8 15) [(5, .v (.string sl5)), (12, .v (.int .i64 il12)), (13, .v (.int .i64 il13)), (14, .v (.int .i64 il14)), (15, .v (.bool bl15)), (68, .v (.slice Al68 nl68 cl68)), (69, .v (.int .i64 il69)), (70, .v (.int .i64 il70))] [] B w R
def garboardlaw55_SensorMiddle.J22 (sl5 : ByteArray) (il12 : Int) (il13 : Int) (il14 : Int) (bl15 : Bool) (Al68 : Option Addr) (nl68 cl68 : Nat) (il69 : Int) (il70 : Int) (ilx17_0 : Int) (ilx17_1 : Int) (ilx17_2 : Int) (slx17_3 : ByteArray) (B : Nat) (w : World) (R : Value → World → Prop) : Prop := At Tryz.prog 8 114 (regionAt Tryz.f8 22) [(5, .v (.string sl5)), (12, .v (.int .i64 il12)), (13, .v (.int .i64 il13)), (14, .v (.int .i64 il14)), (15, .v (.bool bl15)), (17, .loc 17 0), (68, .v (.slice Al68 nl68 cl68)), (69, .v (.int .i64 il69)), (70, .v (.int .i64 il70))] [⟨17, false, 46, [(.int .i64 ilx17_0), (.int .i64 ilx17_1), (.int .i64 ilx17_2), (.string slx17_3)]⟩] B w R
noncomputable def garboardlaw55_SensorMiddle.cx (w : World) (B : Nat) (R : Value → World → Prop) : Cx := ⟨Tryz.prog, 8, 114, Tryz.f8.results.toList, [((true, 15), [5, 12, 13, 14, 15, 68, 69, 70], []), ((false, 22), [5, 12, 13, 14, 15, 17, 68, 69, 70], [17])], [(7, 1, 6)], w, B, R⟩
theorem garboardlaw55_SensorMiddle.L15.step (sl5 : ByteArray) (il12 : Int) (il13 : Int) (il14 : Int) (bl15 : Bool) (Al68 : Option Addr) (nl68 cl68 : Nat) (il69 : Int) (il70 : Int) (B : Nat) (w : World) (R : Value → World → Prop)
    (h : ((((il70 : Int) < il69) → ((0 ≤ il70 ∧ il70 < nl68) ∧ ∃ a25, Al68 = some a25 ∧ (∃ (i26 : Int) (i27 : Int) (i28 : Int) (s29 : ByteArray), CellsAt w (a25.add ((il70).toNat * 4)) [(.int .i64 i26), (.int .i64 i27), (.int .i64 i28), (.string s29)] ∧ ((((i28 : Int) ≠ (1 : Int)) → (inR .i64 (il70 + (1 : Int)) ∧ (∀ w30, Ext B [] w w30 → (garboardlaw55_SensorMiddle.L15 sl5 il12 il13 il14 bl15 Al68 nl68 cl68 il69 (il70 + (1 : Int)) B w30 R)))) ∧ (¬ ((i28 : Int) ≠ (1 : Int)) → (inR .i64 (il12 + (1 : Int)) ∧ ((bl15 = true → (∀ w31, Ext B [] w w31 → (Pure Tryz.prog 33 #[(.string sl5), (.string s29)] w31 fun r33 w34 => ∃ (b32 : Bool), r33 = (.bool b32) ∧ (((b32 = false) → (inR .i64 (il13 + (1 : Int)) ∧ (garboardlaw55_SensorMiddle.J22 sl5 (il12 + (1 : Int)) (il13 + (1 : Int)) il14 true Al68 nl68 cl68 il69 il70 i26 i27 i28 s29 B w34 R))) ∧ (¬ (b32 = false) → (garboardlaw55_SensorMiddle.J22 sl5 (il12 + (1 : Int)) il13 il14 true Al68 nl68 cl68 il69 il70 i26 i27 i28 s29 B w34 R)))))) ∧ (bl15 = false → (∀ w35, Ext B [] w w35 → (Pure Tryz.prog 33 #[(.string sl5), (.string s29)] w35 fun r37 w38 => ∃ (b36 : Bool), r37 = (.bool b36) ∧ (((b36 = false) → (inR .i64 (il13 + (1 : Int)) ∧ (garboardlaw55_SensorMiddle.J22 sl5 (il12 + (1 : Int)) (il13 + (1 : Int)) il14 (decide (s29 = sl5)) Al68 nl68 cl68 il69 il70 i26 i27 i28 s29 B w38 R))) ∧ (¬ (b36 = false) → (garboardlaw55_SensorMiddle.J22 sl5 (il12 + (1 : Int)) il13 il14 (decide (s29 = sl5)) Al68 nl68 cl68 il69 il70 i26 i27 i28 s29 B w38 R))))))))))))) ∧ (¬ ((il70 : Int) < il69) → ((bl15 = true → (inR .i64 ((2 : Int) * il13) ∧ ((((((2 : Int) * il13) : Int) ≥ il12) → (inR .i64 ((2 : Int) * il14) ∧ (R (.bool (decide ((((2 : Int) * il14) : Int) ≥ il12))) w))) ∧ (¬ ((((2 : Int) * il13) : Int) ≥ il12) → (R (.bool false) w))))) ∧ (bl15 = false → (R (.bool false) w)))))) :
    garboardlaw55_SensorMiddle.L15 sl5 il12 il13 il14 bl15 Al68 nl68 cl68 il69 il70 B w R :=
  loop_of_run (garboardlaw55_SensorMiddle.cx w B R) 100000 (loopAt Tryz.f8 15) _ _ follows Tryz.func8 rfl rfl rfl (Eq.mp (by kernel_rfl) h)
theorem garboardlaw55_SensorMiddle.J22.step (sl5 : ByteArray) (il12 : Int) (il13 : Int) (il14 : Int) (bl15 : Bool) (Al68 : Option Addr) (nl68 cl68 : Nat) (il69 : Int) (il70 : Int) (ilx17_0 : Int) (ilx17_1 : Int) (ilx17_2 : Int) (slx17_3 : ByteArray) (B : Nat) (w : World) (R : Value → World → Prop)
    (h : (Pure Tryz.prog 33 #[(.string slx17_3), (.string sl5)] w fun r40 w41 => ∃ (b39 : Bool), r40 = (.bool b39) ∧ (((b39 = false) → (inR .i64 (il14 + (1 : Int)) ∧ (inR .i64 (il70 + (1 : Int)) ∧ (garboardlaw55_SensorMiddle.L15 sl5 il12 il13 (il14 + (1 : Int)) bl15 Al68 nl68 cl68 il69 (il70 + (1 : Int)) B w41 R)))) ∧ (¬ (b39 = false) → (inR .i64 (il70 + (1 : Int)) ∧ (garboardlaw55_SensorMiddle.L15 sl5 il12 il13 il14 bl15 Al68 nl68 cl68 il69 (il70 + (1 : Int)) B w41 R)))))) :
    garboardlaw55_SensorMiddle.J22 sl5 il12 il13 il14 bl15 Al68 nl68 cl68 il69 il70 ilx17_0 ilx17_1 ilx17_2 slx17_3 B w R :=
  join_of_run (garboardlaw55_SensorMiddle.cx w B R) 100000 (regionAt Tryz.f8 22) _ _ follows Tryz.func8 rfl rfl rfl (Eq.mp (by kernel_rfl) h)
theorem garboardlaw55_SensorMiddle.vc (Ap0 : Option Addr) (np0 cp0 : Nat) (sp1 : ByteArray) (w : World) (R : Value → World → Prop)
    (h : (Pure Tryz.prog 10 #[] w fun r2 w3 => ∃ (b1 : Bool), r2 = (.bool b1) ∧ (((b1 = false) → (R (.bool false) w3)) ∧ (¬ (b1 = false) → (Pure Tryz.prog 11 #[(.slice none 0 0), (.slice Ap0 np0 cp0)] w3 fun r5 w6 => ∃ (b4 : Bool), r5 = (.bool b4) ∧ (((b4 = false) → (R (.bool true) w6)) ∧ (¬ (b4 = false) → (((((ByteArray.size sp1 : Int) : Int) > (40 : Int)) → (R (.bool true) w6)) ∧ (¬ (((ByteArray.size sp1 : Int) : Int) > (40 : Int)) → (Pure Tryz.prog 23 #[(.slice Ap0 np0 cp0)] w6 fun r8 w9 => ∃ (A7 : Option Addr) (n7 c7 : Nat), r8 = (.slice A7 n7 c7) ∧ (Pure Tryz.prog 27 #[(.slice A7 n7 c7), (.string sp1)] w9 fun r13 w14 => ∃ (s10 : ByteArray) (b11 : Bool) (i12 : Int), r13 = (.tuple #[(.string s10), (.bool b11), (.int .i64 i12)]) ∧ (Pure Tryz.prog 23 #[(.slice Ap0 np0 cp0)] w14 fun r16 w17 => ∃ (A15 : Option Addr) (n15 c15 : Nat), r16 = (.slice A15 n15 c15) ∧ (PureB Tryz.prog 41 #[(.slice A15 n15 c15)] w.heap.size w17 fun r18 w19 => (∀ (k ty : Nat) (cs : Array Value), ty ∈ ([] : List Nat) → w17.heap[k]? = some (.cells cs ty (0, 0)) → w19.heap[k]? = w17.heap[k]?) ∧ r18 = (.tuple #[]) ∧ (Pure Tryz.prog 27 #[(.slice A15 n15 c15), (.string sp1)] w19 fun r23 w24 => ∃ (s20 : ByteArray) (b21 : Bool) (i22 : Int), r23 = (.tuple #[(.string s20), (.bool b21), (.int .i64 i22)]) ∧ (((s10 ≠ s20) → (R (.bool false) w24)) ∧ (¬ (s10 ≠ s20) → (((¬ ((b11 : Bool) = b21)) → (R (.bool false) w24)) ∧ (¬ (¬ ((b11 : Bool) = b21)) → ((((i12 : Int) ≠ i22) → (R (.bool false) w24)) ∧ (¬ ((i12 : Int) ≠ i22) → ((((i12 : Int) ≠ (0 : Int)) → (((s10 = (⟨#[]⟩ : ByteArray)) → (R (.bool (decide (b11 = false))) w24)) ∧ (¬ (s10 = (⟨#[]⟩ : ByteArray)) → (R (.bool false) w24)))) ∧ (¬ ((i12 : Int) ≠ (0 : Int)) → (garboardlaw55_SensorMiddle.L15 s10 (0 : Int) (0 : Int) (0 : Int) false Ap0 np0 cp0 (np0 : Int) (0 : Int) w.heap.size w24 R))))))))))))))))))))))) :
    Pure Tryz.prog 8 #[(.slice Ap0 np0 cp0), (.string sp1)] w R :=
  pure_of_run (garboardlaw55_SensorMiddle.cx w w.heap.size R) 100000 follows Tryz.func8 rfl rfl rfl rfl rfl rfl rfl (Eq.mp (by kernel_rfl) h)

noncomputable def garboardlaw55_awake.cx (w : World) (B : Nat) (R : Value → World → Prop) : Cx := ⟨Tryz.prog, 10, 139, Tryz.f10.results.toList, [], [(6, 3, 2), (8, 33, 2)], w, B, R⟩
theorem garboardlaw55_awake.vc  (w : World) (R : Value → World → Prop)
    (h : (Pure Tryz.prog 42 #[] w fun r2 w3 => ∃ (A1 : Option Addr) (n1 c1 : Nat), r2 = (.slice A1 n1 c1) ∧ (Pure Tryz.prog 15 #[(.slice A1 n1 c1)] w3 fun r6 w7 => ∃ (A4 : Option Addr) (n4 c4 : Nat) (i5 : Int), r6 = (.tuple #[(.slice A4 n4 c4), (.int .i64 i5)]) ∧ (Pure Tryz.prog 42 #[] w7 fun r9 w10 => ∃ (A8 : Option Addr) (n8 c8 : Nat), r9 = (.slice A8 n8 c8) ∧ (Pure Tryz.prog 22 #[(.slice A8 n8 c8), (.slice A4 n4 c4), (.agg #[(.int .i64 (4 : Int)), (.int .i64 (10 : Int)), (.string (⟨#[52]⟩ : ByteArray))])] w10 fun r13 w14 => ∃ (A11 : Option Addr) (n11 c11 : Nat) (i12 : Int), r13 = (.tuple #[(.slice A11 n11 c11), (.int .i64 i12)]) ∧ (Pure Tryz.prog 42 #[] w14 fun r16 w17 => ∃ (A15 : Option Addr) (n15 c15 : Nat), r16 = (.slice A15 n15 c15) ∧ (Pure Tryz.prog 22 #[(.slice A15 n15 c15), (.slice A11 n11 c11), (.agg #[(.int .i64 (4 : Int)), (.int .i64 (11 : Int)), (.string (⟨#[49, 52]⟩ : ByteArray))])] w17 fun r20 w21 => ∃ (A18 : Option Addr) (n18 c18 : Nat) (i19 : Int), r20 = (.tuple #[(.slice A18 n18 c18), (.int .i64 i19)]) ∧ (Pure Tryz.prog 25 #[(.slice A11 n11 c11), (.int .i64 (16 : Int)), (.int .i64 (5 : Int))] w21 fun r24 w25 => ∃ (A22 : Option Addr) (n22 c22 : Nat) (i23 : Int), r24 = (.tuple #[(.slice A22 n22 c22), (.int .i64 i23)]) ∧ (Pure Tryz.prog 42 #[] w25 fun r27 w28 => ∃ (A26 : Option Addr) (n26 c26 : Nat), r27 = (.slice A26 n26 c26) ∧ ((0 ≤ (0 : Int) ∧ (0 : Int) < n26) ∧ ∃ a29, A26 = some a29 ∧ (∃ (i30 : Int) (s31 : ByteArray) (s32 : ByteArray) (s33 : ByteArray) (s34 : ByteArray) (s35 : ByteArray) (s36 : ByteArray), CellsAt w28 (a29.add (((0 : Int)).toNat * 7)) [(.int .i64 i30), (.string s31), (.string s32), (.string s33), (.string s34), (.string s35), (.string s36)] ∧ (Pure Tryz.prog 20 #[(.agg #[(.int .i64 i30), (.string s31), (.string s32), (.string s33), (.string s34), (.string s35), (.string s36)]), (.string (⟨#[52]⟩ : ByteArray))] w28 fun r39 w40 => ∃ (s37 : ByteArray) (i38 : Int), r39 = (.tuple #[(.string s37), (.int .i64 i38)]) ∧ (RunOk Tryz.prog (Instr.buildSlice 32 3 #[(0, (.agg #[(.int .i64 (0 : Int)), (.int .i64 (0 : Int)), (.int .i64 (1 : Int)), (.string (⟨#[51]⟩ : ByteArray))])), (1, (.agg #[(.int .i64 (0 : Int)), (.int .i64 (0 : Int)), (.int .i64 (1 : Int)), (.string (⟨#[53]⟩ : ByteArray))])), (2, (.agg #[(.int .i64 (0 : Int)), (.int .i64 (0 : Int)), (.int .i64 (1 : Int)), (.string (⟨#[52]⟩ : ByteArray))]))]) w.heap.size [] w40 fun r42 w43 => ∃ (A41 : Option Addr) (n41 c41 : Nat), r42 = (.slice A41 n41 c41) ∧ (Pure Tryz.prog 27 #[(.slice A41 n41 c41), (.string (⟨#[49]⟩ : ByteArray))] w43 fun r47 w48 => ∃ (s44 : ByteArray) (b45 : Bool) (i46 : Int), r47 = (.tuple #[(.string s44), (.bool b45), (.int .i64 i46)]) ∧ (Pure Tryz.prog 42 #[] w48 fun r50 w51 => ∃ (A49 : Option Addr) (n49 c49 : Nat), r50 = (.slice A49 n49 c49) ∧ (Pure Tryz.prog 12 #[(.slice A49 n49 c49)] w51 fun r54 w55 => ∃ (i52 : Int) (i53 : Int), r54 = (.tuple #[(.int .i64 i52), (.int .i64 i53)]) ∧ ((((i5 : Int) = (0 : Int)) → ((((i12 : Int) = (0 : Int)) → ((((i19 : Int) = (0 : Int)) → ((((i23 : Int) = (0 : Int)) → ((((i38 : Int) = (0 : Int)) → ((((i46 : Int) = (0 : Int)) → ((((i53 : Int) = (0 : Int)) → ((((i52 : Int) = (-1 : Int)) → (RunOk Tryz.prog (Instr.buildSlice 32 1 #[(0, (.agg #[(.int .i64 (4 : Int)), (.int .i64 (10 : Int)), (.int .i64 (1 : Int)), (.string (⟨#[51]⟩ : ByteArray))]))]) w.heap.size [] w55 fun r57 w58 => ∃ (A56 : Option Addr) (n56 c56 : Nat), r57 = (.slice A56 n56 c56) ∧ (Pure Tryz.prog 43 #[(.slice A11 n11 c11), (.slice A56 n56 c56)] w58 fun r60 w61 => ∃ (b59 : Bool), r60 = (.bool b59) ∧ ((b59 = true → (((((n18 : Int) : Int) = (1 : Int)) → ((0 ≤ (0 : Int) ∧ (0 : Int) < n18) ∧ ∃ a62, A18 = some a62 ∧ (∃ (i63 : Int), CellsAt w61 ((a62.add (((0 : Int)).toNat * 4)).add 2) [(.int .i64 i63)] ∧ ((((i63 : Int) = (3 : Int)) → ((0 ≤ (0 : Int) ∧ (0 : Int) < n18) ∧ ∃ a64, A18 = some a64 ∧ (∃ (s65 : ByteArray), CellsAt w61 ((a64.add (((0 : Int)).toNat * 4)).add 3) [(.string s65)] ∧ (((s65 = (⟨#[56]⟩ : ByteArray)) → (((((n22 : Int) : Int) = (1 : Int)) → ((0 ≤ (0 : Int) ∧ (0 : Int) < n22) ∧ ∃ a66, A22 = some a66 ∧ (∃ (i67 : Int), CellsAt w61 ((a66.add (((0 : Int)).toNat * 4)).add 2) [(.int .i64 i67)] ∧ ((((i67 : Int) = (4 : Int)) → (((s37 = (⟨#[51]⟩ : ByteArray)) → (((s44 = (⟨#[52]⟩ : ByteArray)) → (R (.bool b45) w61)) ∧ (¬ (s44 = (⟨#[52]⟩ : ByteArray)) → (R (.bool false) w61)))) ∧ (¬ (s37 = (⟨#[51]⟩ : ByteArray)) → (R (.bool false) w61)))) ∧ (¬ ((i67 : Int) = (4 : Int)) → (R (.bool false) w61)))))) ∧ (¬ (((n22 : Int) : Int) = (1 : Int)) → (R (.bool false) w61)))) ∧ (¬ (s65 = (⟨#[56]⟩ : ByteArray)) → (R (.bool false) w61)))))) ∧ (¬ ((i63 : Int) = (3 : Int)) → (R (.bool false) w61)))))) ∧ (¬ (((n18 : Int) : Int) = (1 : Int)) → (R (.bool false) w61)))) ∧ (b59 = false → (R (.bool false) w61)))))) ∧ (¬ ((i52 : Int) = (-1 : Int)) → (R (.bool false) w55)))) ∧ (¬ ((i53 : Int) = (0 : Int)) → (R (.bool false) w55)))) ∧ (¬ ((i46 : Int) = (0 : Int)) → (R (.bool false) w55)))) ∧ (¬ ((i38 : Int) = (0 : Int)) → (R (.bool false) w55)))) ∧ (¬ ((i23 : Int) = (0 : Int)) → (R (.bool false) w55)))) ∧ (¬ ((i19 : Int) = (0 : Int)) → (R (.bool false) w55)))) ∧ (¬ ((i12 : Int) = (0 : Int)) → (R (.bool false) w55)))) ∧ (¬ ((i5 : Int) = (0 : Int)) → (R (.bool false) w55))))))))))))))))))) :
    Pure Tryz.prog 10 #[] w R :=
  pure_of_run (garboardlaw55_awake.cx w w.heap.size R) 100000 follows Tryz.func10 rfl rfl rfl rfl rfl rfl rfl (Eq.mp (by kernel_rfl) h)

noncomputable def garboardlaw55_SensorGood_c1.cx (w : World) (B : Nat) (R : Value → World → Prop) : Cx := ⟨Tryz.prog, 30, 7, Tryz.f30.results.toList, [], [], w, B, R⟩
theorem garboardlaw55_SensorGood_c1.vc (ip0_0 : Int) (ip0_1 : Int) (sp0_2 : ByteArray) (w : World) (R : Value → World → Prop)
    (h : (∀ w1, Ext w.heap.size [] w w1 → (R (.bool (decide (((ByteArray.size sp0_2 : Int) : Int) > (40 : Int)))) w1))) :
    Pure Tryz.prog 30 #[(.agg #[(.int .i64 ip0_0), (.int .i64 ip0_1), (.string sp0_2)])] w R :=
  pure_of_run (garboardlaw55_SensorGood_c1.cx w w.heap.size R) 100000 follows Tryz.func30 rfl rfl rfl rfl rfl rfl rfl (Eq.mp (by kernel_rfl) h)

noncomputable def garboardlaw55_SensorGood_c2.cx (w : World) (B : Nat) (R : Value → World → Prop) : Cx := ⟨Tryz.prog, 32, 9, Tryz.f32.results.toList, [], [], w, B, R⟩
theorem garboardlaw55_SensorGood_c2.vc (ip0_0 : Int) (sp0_1 : ByteArray) (sp0_2 : ByteArray) (sp0_3 : ByteArray) (sp0_4 : ByteArray) (sp0_5 : ByteArray) (sp0_6 : ByteArray) (q0 : Addr) (w : World) (R : Value → World → Prop)
    (h : (∀ w1, Ext w.heap.size [] w w1 → (∃ (i2 : Int), CellsAt w1 (q0.add 0) [(.int .i64 i2)] ∧ (R (.bool (decide ((ip0_0 : Int) = i2))) w1)))) :
    Pure Tryz.prog 32 #[(.agg #[(.int .i64 ip0_0), (.string sp0_1), (.string sp0_2), (.string sp0_3), (.string sp0_4), (.string sp0_5), (.string sp0_6)]), (.pointer (some q0))] w R :=
  pure_of_run (garboardlaw55_SensorGood_c2.cx w w.heap.size R) 100000 follows Tryz.func32 rfl rfl rfl rfl rfl rfl rfl (Eq.mp (by kernel_rfl) h)

noncomputable def garboardlaw55_less.cx (w : World) (B : Nat) (R : Value → World → Prop) : Cx := ⟨Tryz.prog, 33, 28, Tryz.f33.results.toList, [], [], w, B, R⟩
theorem garboardlaw55_less.vc (sp0 : ByteArray) (sp1 : ByteArray) (w : World) (R : Value → World → Prop)
    (h : (Pure Tryz.prog 34 #[(.string sp0)] w fun r5 w6 => ∃ (b1 : Bool) (A2 : Option Addr) (n2 c2 : Nat) (A3 : Option Addr) (n3 c3 : Nat) (b4 : Bool), r5 = (.tuple #[(.agg #[(.bool b1), (.slice A2 n2 c2), (.slice A3 n3 c3)]), (.bool b4)]) ∧ (∀ w7, Ext w.heap.size [] w6 w7 → (Pure Tryz.prog 34 #[(.string sp1)] w7 fun r12 w13 => ∃ (b8 : Bool) (A9 : Option Addr) (n9 c9 : Nat) (A10 : Option Addr) (n10 c10 : Nat) (b11 : Bool), r12 = (.tuple #[(.agg #[(.bool b8), (.slice A9 n9 c9), (.slice A10 n10 c10)]), (.bool b11)]) ∧ ((b4 = true → ((b11 = true → (∀ w14, Ext w.heap.size [] w13 w14 → (Pure Tryz.prog 38 #[(.agg #[(.bool b1), (.slice A2 n2 c2), (.slice A3 n3 c3)]), (.agg #[(.bool b8), (.slice A9 n9 c9), (.slice A10 n10 c10)])] w14 fun r16 w17 => ∃ (b15 : Bool), r16 = (.bool b15) ∧ (R (.bool b15) w17)))) ∧ (b11 = false → (∀ w18, Ext w.heap.size [] w13 w18 → (R (.bool false) w18))))) ∧ (b4 = false → (∀ w19, Ext w.heap.size [] w13 w19 → (R (.bool false) w19)))))))) :
    Pure Tryz.prog 33 #[(.string sp0), (.string sp1)] w R :=
  pure_of_run (garboardlaw55_less.cx w w.heap.size R) 100000 follows Tryz.func33 rfl rfl rfl rfl rfl rfl rfl (Eq.mp (by kernel_rfl) h)

noncomputable def garboardlaw55_SensorSteady_c1.cx (w : World) (B : Nat) (R : Value → World → Prop) : Cx := ⟨Tryz.prog, 40, 9, Tryz.f40.results.toList, [], [], w, B, R⟩
theorem garboardlaw55_SensorSteady_c1.vc (ip0_0 : Int) (sp0_1 : ByteArray) (sp0_2 : ByteArray) (sp0_3 : ByteArray) (sp0_4 : ByteArray) (sp0_5 : ByteArray) (sp0_6 : ByteArray) (q0 : Addr) (w : World) (R : Value → World → Prop)
    (h : (∀ w1, Ext w.heap.size [] w w1 → (∃ (i2 : Int), CellsAt w1 (q0.add 0) [(.int .i64 i2)] ∧ (R (.bool (decide ((ip0_0 : Int) = i2))) w1)))) :
    Pure Tryz.prog 40 #[(.agg #[(.int .i64 ip0_0), (.string sp0_1), (.string sp0_2), (.string sp0_3), (.string sp0_4), (.string sp0_5), (.string sp0_6)]), (.pointer (some q0))] w R :=
  pure_of_run (garboardlaw55_SensorSteady_c1.cx w w.heap.size R) 100000 follows Tryz.func40 rfl rfl rfl rfl rfl rfl rfl (Eq.mp (by kernel_rfl) h)

noncomputable def garboardlaw55_One.cx (w : World) (B : Nat) (R : Value → World → Prop) : Cx := ⟨Tryz.prog, 42, 3, Tryz.f42.results.toList, [], [(1, 1, 2)], w, B, R⟩
theorem garboardlaw55_One.vc  (w : World) (R : Value → World → Prop)
    (h : (RunOk Tryz.prog (Instr.buildSlice 22 1 #[(0, (.agg #[(.int .i64 (4 : Int)), (.string (⟨#[100, 114, 97, 102, 116]⟩ : ByteArray)), (.string (⟨#[49, 47, 50]⟩ : ByteArray)), (.string (⟨#[49]⟩ : ByteArray)), (.string (⟨#[48]⟩ : ByteArray)), (.string (⟨#[49, 48]⟩ : ByteArray)), (.string (⟨#[50]⟩ : ByteArray))]))]) w.heap.size [] w fun r2 w3 => ∃ (A1 : Option Addr) (n1 c1 : Nat), r2 = (.slice A1 n1 c1) ∧ (R (.slice A1 n1 c1) w3))) :
    Pure Tryz.prog 42 #[] w R :=
  pure_of_run (garboardlaw55_One.cx w w.heap.size R) 100000 follows Tryz.func42 rfl rfl rfl rfl rfl rfl rfl (Eq.mp (by kernel_rfl) h)

end Go.Proofs.YtdoailkigecmkaaGreatDoor.F

namespace Go.Proofs.YtdoailkigecmkaaGreatDoor.B
open Go Go.RowKit Go.Proofs Go.Proofs.YtdoailkigecmkaaGreatDoor.Vc

theorem law_One (w : World) : Pure Tryz.prog 42 #[] w fun v w' => ∃ A c, v = .slice A 1 c ∧ OwnR w' w.heap.size 31 A 1 c 7 [oneC.row] := by
  refine F.garboardlaw55_One.vc _ _ ?_
  refine runOk_lit el_Chs [oneC.val] (by simp [Value.cells]) (by simp) (Nat.le_refl _) fun A c w2 ho b2 => ⟨A, c, rfl, ?_⟩
  exact ho

theorem EqualV {w0 : World} {A A1 : Option Addr} {n c c1 : Nat} {v : List Va} (h : SlR w0 A 4 (v.map Va.row)) (h1 : SlR w0 A1 4 (v.map Va.row)) (hlen : v.length = n) (hn : n < 2147483648) :
    Pure Tryz.prog 43 #[.slice A n c, .slice A1 n c1] w0 fun y _ => y = .bool true := by
  have key : ∀ (d i : Nat) (w : World), n - i = d → i ≤ n → Below w0.heap.size w0 w → F.slices_Equal_api_Value_api_Value.L4 A n c A1 n c1 n i w0.heap.size w fun y _ => y = .bool true := by
    intro d
    induction d with
    | zero => intro i w hd hi hw; exact F.slices_Equal_api_Value_api_Value.L4.step _ _ _ _ _ _ _ _ _ _ _ ⟨fun h => by omega, fun _ => rfl⟩
    | succ d ih =>
      intro i w hd hi hw
      have hil : i < v.length := by omega
      obtain ⟨hb, a, hA, hrow⟩ := (h.keep hw (Nat.le_refl _)).load (n := n) (by simpa using hlen) (j := (i : Int)) (by omega) (by omega)
      obtain ⟨hcell, _⟩ := hrow v[i].row (by rw [Int.toNat_natCast]; simp [hil]) rfl
      obtain ⟨hb2, a2, hA2, hrow2⟩ := (h1.keep hw (Nat.le_refl _)).load (n := n) (by simpa using hlen) (j := (i : Int)) (by omega) (by omega)
      obtain ⟨hcell2, _⟩ := hrow2 v[i].row (by rw [Int.toNat_natCast]; simp [hil]) rfl
      refine F.slices_Equal_api_Value_api_Value.L4.step _ _ _ _ _ _ _ _ _ _ _ ⟨fun _ => ⟨hb, a, hA, _, _, _, _, hcell, hb2, a2, hA2, _, _, _, _, hcell2, fun k => absurd ⟨rfl, rfl, rfl, rfl, trivial⟩ k, fun _ => ⟨by simp only [inR]; omega, fun w2 x2 => ?_⟩⟩, fun h => by omega⟩
      have e3 : (i : Int) + 1 = ((i + 1 : Nat) : Int) := by omega
      rw [e3]
      exact ih (i + 1) w2 (by omega) (by omega) (kE hw x2)
  exact F.slices_Equal_api_Value_api_Value.vc _ _ _ _ _ _ _ _ ⟨fun h => absurd rfl h, fun _ => key n 0 w0 rfl (by omega) (Below.refl _ _)⟩

theorem smC_one : ∀ x ∈ [oneC], SmC x := by
  intro x hx
  rw [List.mem_singleton] at hx
  subst hx
  exact ⟨by decide, by unfold SmS; decide, by unfold SmS; decide, by unfold SmS; decide, by unfold SmS; decide, by unfold SmS; decide⟩

set_option maxRecDepth 4000 in
theorem law_awake {w : World} (hg : Glob w) : Pure Tryz.prog 10 #[] w fun v _ => v = .bool true := by
  have sV : ∀ (a b q : Int) (s : ByteArray), SmS s → ∀ x ∈ ([⟨a, b, q, s⟩] : List Va), SmV x := by
    intro a b q s hs x hx
    rw [List.mem_singleton] at hx
    subst hx
    exact hs
  refine F.garboardlaw55_awake.vc _ _ (Pure.mono (law_One w) ?_)
  rintro y w1 b1 ⟨A1, c1, rfl, o1⟩
  have g1 := hg.next b1
  refine ⟨_, _, _, rfl, Pure.mono (sensor_Start g1 (l := [oneC]) o1.sl rfl smC_one) ?_⟩
  rintro y w2 b2 ⟨_, k2⟩
  obtain ⟨A2, c2, rfl, o2⟩ := k2 (by rw [one_check])
  have g2 := g1.next b2
  refine ⟨_, _, _, _, rfl, Pure.mono (law_One w2) ?_⟩
  rintro y w3 b3 ⟨A3, c3, rfl, o3⟩
  have g3 := g2.next b3
  refine ⟨_, _, _, rfl, Pure.mono (sensor_Take g3 (l := [oneC]) (v := startF [oneC]) (chan := 4) (tick := 10) (raw := ⟨#[52]⟩) o3.sl rfl (o2.below b3).sl rfl (by omega) smC_one (sV _ _ _ _ (by unfold SmS; decide)) (by unfold SmS; decide)) ?_⟩
  rintro y w4 b4 k4
  rw [one_take1] at k4
  obtain ⟨A4, c4, rfl, o4⟩ := k4
  have g4 := g3.next b4
  refine ⟨_, _, _, _, rfl, Pure.mono (law_One w4) ?_⟩
  rintro y w5 b5 ⟨A5, c5, rfl, o5⟩
  have g5 := g4.next b5
  have o4a := o4.below b5
  refine ⟨_, _, _, rfl, Pure.mono (sensor_Take g5 (l := [oneC]) (v := [⟨4, 10, 1, ⟨#[51]⟩⟩]) (chan := 4) (tick := 11) (raw := ⟨#[49, 52]⟩) o5.sl rfl o4a.sl rfl (by omega) smC_one (sV _ _ _ _ (by unfold SmS; decide)) (by unfold SmS; decide)) ?_⟩
  rintro y w6 b6 k6
  rw [one_take2] at k6
  obtain ⟨A6, c6, rfl, o6⟩ := k6
  have g6 := g5.next b6
  have o4b := o4a.below b6
  refine ⟨_, _, _, _, rfl, Pure.mono (sensor_See (v := [⟨4, 10, 1, ⟨#[51]⟩⟩]) (at_ := 16) (hold := 5) o4b.sl rfl) ?_⟩
  rintro y w7 b7 k7
  rw [one_see] at k7
  obtain ⟨A7, c7, rfl, o7⟩ := k7
  have g7 := g6.next b7
  have o4c := o4b.below b7
  have o6a := o6.below b7
  refine ⟨_, _, _, _, rfl, Pure.mono (law_One w7) ?_⟩
  rintro y w8 b8 ⟨A8, c8, rfl, o8⟩
  have g8 := g7.next b8
  have o4d := o4c.below b8
  have o6b := o6a.below b8
  have o7a := o7.below b8
  obtain ⟨hb, a, hA, hrow⟩ := o8.sl.load (n := 1) rfl (j := 0) (by omega) (by omega)
  obtain ⟨hcell, _⟩ := hrow _ rfl rfl
  refine ⟨_, _, _, rfl, hb, a, hA, _, _, _, _, _, _, _, hcell, Pure.mono (sensor_Number g8 (c := oneC) (raw := ⟨#[52]⟩) (smC_one _ (by simp)) (by unfold SmS; decide)) ?_⟩
  rintro y w9 b9 rfl
  rw [one_number]
  have g9 := g8.next b9
  have o4e := o4d.below b9
  have o6c := o6b.below b9
  have o7b := o7a.below b9
  have hb9 := kP (kP (kP (kP (kP (kP (kP (kP b1 b2) b3) b4) b5) b6) b7) b8) b9
  refine ⟨_, _, rfl, ?_⟩
  refine runOk_lit el_Vas (threeV.map Va.val) (by simp [threeV, Value.cells]) (by simp [threeV]) hb9.size fun A10 c10 w10 o10 b10 => ?_
  have g10 := g9.next b10
  have o4f := o4e.below b10
  have o6d := o6c.below b10
  have o7c := o7b.below b10
  have hb10 := kP hb9 b10
  refine Pure.mono (sensor_Vote g10 (v := threeV) (n := 3) (tol := ⟨#[49]⟩) o10.sl rfl (by omega) (fun x hx => ?_) (by unfold SmS; decide)) ?_
  · simp only [threeV, List.mem_cons, List.not_mem_nil, or_false] at hx
    rcases hx with rfl | rfl | rfl <;> (show SmS _; unfold SmS; decide)
  rintro y w11 b11 rfl
  rw [one_vote]
  have g11 := g10.next b11
  have o4g := o4f.below b11
  have o6e := o6d.below b11
  have o7d := o7c.below b11
  have hb11 := kP hb10 b11
  refine ⟨_, _, _, rfl, Pure.mono (law_One w11) ?_⟩
  rintro y w12 b12 ⟨A12, c12, rfl, o12⟩
  have g12 := g11.next b12
  have o4h := o4g.below b12
  have o6f := o6e.below b12
  have o7e := o7d.below b12
  have hb12 := kP hb11 b12
  refine ⟨_, _, _, rfl, Pure.mono (sensor_Check g12 (l := [oneC]) o12.sl rfl smC_one) ?_⟩
  rintro y w13 b13 rfl
  rw [one_check]
  have g13 := g12.next b13
  have o4i := o4h.below b13
  have o6g := o6f.below b13
  have o7f := o7e.below b13
  have hb13 := kP hb12 b13
  refine ⟨_, _, rfl, fun _ => ⟨fun _ => ⟨fun _ => ⟨fun _ => ⟨fun _ => ⟨fun _ => ⟨fun _ => ⟨fun _ => ?_, fun k => absurd rfl k⟩, fun k => absurd rfl k⟩, fun k => absurd rfl k⟩, fun k => absurd rfl k⟩, fun k => absurd rfl k⟩, fun k => absurd rfl k⟩, fun k => absurd rfl k⟩, fun k => absurd rfl k⟩
  refine runOk_lit el_Vas [(⟨4, 10, 1, ⟨#[51]⟩⟩ : Va).val] (by simp [Value.cells]) (by simp) hb13.size fun A14 c14 w14 o14 b14 => ?_
  have o4j := o4i.below b14
  have o6h := o6g.below b14
  have o7g := o7f.below b14
  refine Pure.mono (EqualV (v := [⟨4, 10, 1, ⟨#[51]⟩⟩]) o4j.sl o14.sl rfl (by omega)) ?_
  rintro y w15 b15 rfl
  have o6i := o6h.below b15
  have o7h := o7g.below b15
  obtain ⟨q1, a1, hA1, hrow1⟩ := o6i.sl.load (n := 1) rfl (j := 0) (by omega) (by omega)
  obtain ⟨_, hcell1⟩ := hrow1 _ rfl rfl
  obtain ⟨q2, a2, hA2, hrow2⟩ := o7h.sl.load (n := 1) rfl (j := 0) (by omega) (by omega)
  obtain ⟨_, hcell2⟩ := hrow2 _ rfl rfl
  refine ⟨_, rfl, fun _ => ⟨fun _ => ⟨q1, a1, hA1, _, hcell1 2 _ rfl, fun _ => ⟨q1, a1, hA1, _, hcell1 3 _ rfl, fun _ => ⟨fun _ => ⟨q2, a2, hA2, _, hcell2 2 _ rfl, fun _ => ⟨fun _ => ⟨fun _ => rfl, fun k => absurd rfl k⟩, fun k => absurd rfl k⟩, fun k => absurd rfl k⟩, fun k => absurd rfl k⟩, fun k => absurd rfl k⟩, fun k => absurd rfl k⟩, fun k => absurd rfl k⟩, fun k => by cases k⟩
end Go.Proofs.YtdoailkigecmkaaGreatDoor.B

set_option maxRecDepth 100000
namespace Go.Proofs.YtdoailkigecmkaaGreatDoor.F
open Go Go.RowKit Go.Proofs Go.Proofs.YtdoailkigecmkaaGreatDoor.Vc
def garboardref55_Few.L2 (Al0 : Option Addr) (nl0 cl0 : Nat) (Al1 : Option Addr) (nl1 cl1 : Nat) (il5 : Int) (B : Nat) (w : World) (R : Value → World → Prop) : Prop := At Tryz.prog 11 73 (loopAt Tryz.f11 2) [(0, .v (.slice Al0 nl0 cl0)), (1, .v (.slice Al1 nl1 cl1)), (5, .v (.int .i64 il5))] [] B w R
def garboardref55_Few.L8 (Al0 : Option Addr) (nl0 cl0 : Nat) (Al1 : Option Addr) (nl1 cl1 : Nat) (il7 : Int) (B : Nat) (w : World) (R : Value → World → Prop) : Prop := At Tryz.prog 11 73 (loopAt Tryz.f11 8) [(0, .v (.slice Al0 nl0 cl0)), (1, .v (.slice Al1 nl1 cl1)), (7, .v (.int .i64 il7))] [] B w R
noncomputable def garboardref55_Few.cx (w : World) (B : Nat) (R : Value → World → Prop) : Cx := ⟨Tryz.prog, 11, 73, Tryz.f11.results.toList, [((true, 2), [0, 1, 5], []), ((true, 8), [0, 1, 7], [])], [], w, B, R⟩
theorem garboardref55_Few.L2.step (Al0 : Option Addr) (nl0 cl0 : Nat) (Al1 : Option Addr) (nl1 cl1 : Nat) (il5 : Int) (B : Nat) (w : World) (R : Value → World → Prop)
    (h : ((((il5 : Int) < (nl0 : Int)) → ((0 ≤ il5 ∧ il5 < nl0) ∧ ∃ a1, Al0 = some a1 ∧ (∃ (i2 : Int) (s3 : ByteArray) (s4 : ByteArray) (s5 : ByteArray) (s6 : ByteArray) (s7 : ByteArray) (s8 : ByteArray), CellsAt w (a1.add ((il5).toNat * 7)) [(.int .i64 i2), (.string s3), (.string s4), (.string s5), (.string s6), (.string s7), (.string s8)] ∧ (((((ByteArray.size s3 : Int) : Int) > (70 : Int)) → (∀ w9, Ext B [] w w9 → (R (.bool false) w9))) ∧ (¬ (((ByteArray.size s3 : Int) : Int) > (70 : Int)) → (((((ByteArray.size s4 : Int) : Int) > (40 : Int)) → (∀ w10, Ext B [] w w10 → (R (.bool false) w10))) ∧ (¬ (((ByteArray.size s4 : Int) : Int) > (40 : Int)) → (((((ByteArray.size s5 : Int) : Int) > (40 : Int)) → (∀ w11, Ext B [] w w11 → (R (.bool false) w11))) ∧ (¬ (((ByteArray.size s5 : Int) : Int) > (40 : Int)) → (((((ByteArray.size s6 : Int) : Int) > (40 : Int)) → (∀ w12, Ext B [] w w12 → (R (.bool false) w12))) ∧ (¬ (((ByteArray.size s6 : Int) : Int) > (40 : Int)) → (((((ByteArray.size s7 : Int) : Int) > (40 : Int)) → (∀ w13, Ext B [] w w13 → (R (.bool false) w13))) ∧ (¬ (((ByteArray.size s7 : Int) : Int) > (40 : Int)) → (((((ByteArray.size s8 : Int) : Int) > (40 : Int)) → (∀ w14, Ext B [] w w14 → (R (.bool false) w14))) ∧ (¬ (((ByteArray.size s8 : Int) : Int) > (40 : Int)) → (inR .i64 (il5 + (1 : Int)) ∧ (∀ w15, Ext B [] w w15 → (garboardref55_Few.L2 Al0 nl0 cl0 Al1 nl1 cl1 (il5 + (1 : Int)) B w15 R)))))))))))))))))) ∧ (¬ ((il5 : Int) < (nl0 : Int)) → (garboardref55_Few.L8 Al0 nl0 cl0 Al1 nl1 cl1 (0 : Int) B w R)))) :
    garboardref55_Few.L2 Al0 nl0 cl0 Al1 nl1 cl1 il5 B w R :=
  loop_of_run (garboardref55_Few.cx w B R) 100000 (loopAt Tryz.f11 2) _ _ follows Tryz.func11 rfl rfl rfl (Eq.mp (by kernel_rfl) h)
theorem garboardref55_Few.L8.step (Al0 : Option Addr) (nl0 cl0 : Nat) (Al1 : Option Addr) (nl1 cl1 : Nat) (il7 : Int) (B : Nat) (w : World) (R : Value → World → Prop)
    (h : ((((il7 : Int) < (nl1 : Int)) → ((0 ≤ il7 ∧ il7 < nl1) ∧ ∃ a16, Al1 = some a16 ∧ (∃ (s17 : ByteArray), CellsAt w ((a16.add ((il7).toNat * 4)).add 3) [(.string s17)] ∧ (((((ByteArray.size s17 : Int) : Int) > (40 : Int)) → (R (.bool false) w)) ∧ (¬ (((ByteArray.size s17 : Int) : Int) > (40 : Int)) → (inR .i64 (il7 + (1 : Int)) ∧ (garboardref55_Few.L8 Al0 nl0 cl0 Al1 nl1 cl1 (il7 + (1 : Int)) B w R))))))) ∧ (¬ ((il7 : Int) < (nl1 : Int)) → (((((nl0 : Int) : Int) ≤ (17 : Int)) → (R (.bool (decide (((nl1 : Int) : Int) ≤ (17 : Int)))) w)) ∧ (¬ (((nl0 : Int) : Int) ≤ (17 : Int)) → (R (.bool false) w)))))) :
    garboardref55_Few.L8 Al0 nl0 cl0 Al1 nl1 cl1 il7 B w R :=
  loop_of_run (garboardref55_Few.cx w B R) 100000 (loopAt Tryz.f11 8) _ _ follows Tryz.func11 rfl rfl rfl (Eq.mp (by kernel_rfl) h)
theorem garboardref55_Few.vc (Ap0 : Option Addr) (np0 cp0 : Nat) (Ap1 : Option Addr) (np1 cp1 : Nat) (w : World) (R : Value → World → Prop)
    (h : (garboardref55_Few.L2 Ap0 np0 cp0 Ap1 np1 cp1 (0 : Int) w.heap.size w R)) :
    Pure Tryz.prog 11 #[(.slice Ap0 np0 cp0), (.slice Ap1 np1 cp1)] w R :=
  pure_of_run (garboardref55_Few.cx w w.heap.size R) 100000 follows Tryz.func11 rfl rfl rfl rfl rfl rfl rfl (Eq.mp (by kernel_rfl) h)

end Go.Proofs.YtdoailkigecmkaaGreatDoor.F

namespace Go.Proofs.YtdoailkigecmkaaGreatDoor.B
open Go Go.RowKit Go.Proofs Go.Proofs.YtdoailkigecmkaaGreatDoor.Vc

def few1 (c : Ch) : Bool := decide (c.name.size ≤ 70 ∧ c.gain.size ≤ 40 ∧ c.offset.size ≤ 40 ∧ c.low.size ≤ 40 ∧ c.high.size ≤ 40 ∧ c.rate.size ≤ 40)
def fewV (v : Va) : Bool := decide (v.num.size ≤ 40)
def fewF (l : List Ch) (v : List Va) : Bool := l.all few1 && v.all fewV && decide (l.length ≤ 17 ∧ v.length ≤ 17)

theorem few_loop2 {w0 : World} {A A1 : Option Addr} {n n1 c c1 : Nat} {l : List Ch} {v : List Va} (hv : SlR w0 A1 4 (v.map Va.row)) (hlen : l.length = n) (hvlen : v.length = n1) (hn1 : n1 < 9223372036854775808) (hl : l.all few1 = true) {R : Value → World → Prop} (hR : ∀ w, R (.bool (fewF l v)) w) :
    ∀ (d i : Nat) (w : World), n1 - i = d → i ≤ n1 → Below w0.heap.size w0 w → (∀ x ∈ v.take i, fewV x = true) → F.garboardref55_Few.L8 A n c A1 n1 c1 i w0.heap.size w R := by
  intro d
  induction d with
  | zero =>
    intro i w hd hi hw hx
    have : i = n1 := by omega
    subst this
    rw [List.take_of_length_le (by omega)] at hx
    have hv' : v.all fewV = true := List.all_eq_true.2 hx
    refine F.garboardref55_Few.L8.step _ _ _ _ _ _ _ _ _ _ ⟨fun h => by omega, fun _ => ⟨fun h => ?_, fun h => ?_⟩⟩
    · have := hR w
      unfold fewF at this
      rw [hl, hv', Bool.true_and, Bool.true_and] at this
      have e : decide (((i : Nat) : Int) ≤ 17) = decide (l.length ≤ 17 ∧ v.length ≤ 17) := by
        rw [decide_eq_decide]
        omega
      rw [e]
      exact this
    · have := hR w
      unfold fewF at this
      rw [hl, hv', Bool.true_and, Bool.true_and, decide_eq_false (by omega)] at this
      exact this
  | succ d ih =>
    intro i w hd hi hw hx
    have hil : i < v.length := by omega
    obtain ⟨hb, a, hA, hrow⟩ := (hv.keep hw (Nat.le_refl _)).load (n := n1) (by simpa using hvlen) (j := (i : Int)) (by omega) (by omega)
    obtain ⟨_, hcell⟩ := hrow v[i].row (by rw [Int.toNat_natCast]; simp [hil]) rfl
    have e3 : (i : Int) + 1 = ((i + 1 : Nat) : Int) := by omega
    refine F.garboardref55_Few.L8.step _ _ _ _ _ _ _ _ _ _ ⟨fun _ => ⟨hb, a, hA, _, hcell 3 _ rfl, fun h => ?_, fun h => ⟨by simp only [inR]; omega, ?_⟩⟩, fun h => by omega⟩
    · have hbad : v.all fewV = false := by
        rw [Bool.eq_false_iff]
        intro k
        have := List.all_eq_true.1 k v[i] (List.getElem_mem _)
        unfold fewV at this
        have := of_decide_eq_true this
        omega
      have := hR w
      unfold fewF at this
      rw [hbad, Bool.and_false, Bool.false_and] at this
      exact this
    · rw [e3]
      refine ih (i + 1) w (by omega) (by omega) hw fun x hm => ?_
      rw [List.take_add_one, List.getElem?_eq_getElem hil] at hm
      rcases List.mem_append.1 hm with h' | h'
      · exact hx x h'
      · simp at h'
        subst h'
        exact decide_eq_true (by omega)
theorem few_loop1 {w0 : World} {A A1 : Option Addr} {n n1 c c1 : Nat} {l : List Ch} {v : List Va} (hc : SlR w0 A 7 (l.map Ch.row)) (hv : SlR w0 A1 4 (v.map Va.row)) (hlen : l.length = n) (hvlen : v.length = n1) (hn : n < 9223372036854775808) (hn1 : n1 < 9223372036854775808) {R : Value → World → Prop} (hR : ∀ w, R (.bool (fewF l v)) w) :
    ∀ (d i : Nat) (w : World), n - i = d → i ≤ n → Below w0.heap.size w0 w → (∀ x ∈ l.take i, few1 x = true) → F.garboardref55_Few.L2 A n c A1 n1 c1 i w0.heap.size w R := by
  intro d
  induction d with
  | zero =>
    intro i w hd hi hw hx
    have : i = n := by omega
    subst this
    rw [List.take_of_length_le (by omega)] at hx
    have hl' : l.all few1 = true := List.all_eq_true.2 hx
    exact F.garboardref55_Few.L2.step _ _ _ _ _ _ _ _ _ _ ⟨fun h => by omega, fun _ => few_loop2 hv hlen hvlen hn1 hl' hR n1 0 w rfl (by omega) hw (fun x hx => by simp at hx)⟩
  | succ d ih =>
    intro i w hd hi hw hx
    have hil : i < l.length := by omega
    obtain ⟨hb, a, hA, hrow⟩ := (hc.keep hw (Nat.le_refl _)).load (n := n) (by simpa using hlen) (j := (i : Int)) (by omega) (by omega)
    obtain ⟨hcell, _⟩ := hrow l[i].row (by rw [Int.toNat_natCast]; simp [hil]) rfl
    have e3 : (i : Int) + 1 = ((i + 1 : Nat) : Int) := by omega
    have bad : few1 l[i] = false → ∀ w, R (.bool false) w := fun h w2 => by
      have hbad : l.all few1 = false := by
        rw [Bool.eq_false_iff]
        intro k
        have := List.all_eq_true.1 k l[i] (List.getElem_mem _)
        rw [h] at this
        cases this
      have := hR w2
      unfold fewF at this
      rw [hbad, Bool.false_and, Bool.false_and] at this
      exact this
    refine F.garboardref55_Few.L2.step _ _ _ _ _ _ _ _ _ _ ⟨fun _ => ⟨hb, a, hA, _, _, _, _, _, _, _, hcell, fun h w2 _ => bad (decide_eq_false (by omega)) w2, fun h1 => ⟨fun h w2 _ => bad (decide_eq_false (by omega)) w2, fun h2 => ⟨fun h w2 _ => bad (decide_eq_false (by omega)) w2, fun h3 => ⟨fun h w2 _ => bad (decide_eq_false (by omega)) w2, fun h4 => ⟨fun h w2 _ => bad (decide_eq_false (by omega)) w2, fun h5 => ⟨fun h w2 _ => bad (decide_eq_false (by omega)) w2, fun h6 => ⟨by simp only [inR]; omega, fun w2 x2 => ?_⟩⟩⟩⟩⟩⟩⟩, fun h => by omega⟩
    rw [e3]
    refine ih (i + 1) w2 (by omega) (by omega) (kE hw x2) fun x hm => ?_
    rw [List.take_add_one, List.getElem?_eq_getElem hil] at hm
    rcases List.mem_append.1 hm with h' | h'
    · exact hx x h'
    · simp at h'
      subst h'
      exact decide_eq_true (by omega)
theorem ref_Few {w : World} {A A1 : Option Addr} {n n1 c c1 : Nat} {l : List Ch} {v : List Va} (hc : SlR w A 7 (l.map Ch.row)) (hv : SlR w A1 4 (v.map Va.row)) (hlen : l.length = n) (hvlen : v.length = n1) (hn : n < 9223372036854775808) (hn1 : n1 < 9223372036854775808) :
    Pure Tryz.prog 11 #[.slice A n c, .slice A1 n1 c1] w fun y _ => y = .bool (fewF l v) :=
  F.garboardref55_Few.vc _ _ _ _ _ _ _ _ (few_loop1 hc hv hlen hvlen hn hn1 (fun _ => rfl) n 0 w rfl (by omega) (Below.refl _ _) (fun x hx => by simp at hx))

theorem few_val {l : List Ch} {v : List Va} (h : fewF l v = true) : (l.length ≤ 17 ∧ v.length ≤ 17) ∧ (∀ x ∈ l, SmC x) ∧ (∀ x ∈ v, SmV x) := by
  unfold fewF at h
  rw [Bool.and_eq_true, Bool.and_eq_true] at h
  obtain ⟨⟨h1, h2⟩, h3⟩ := h
  refine ⟨of_decide_eq_true h3, fun x hx => ?_, fun x hx => ?_⟩
  · have := of_decide_eq_true (List.all_eq_true.1 h1 x hx)
    exact ⟨by omega, by unfold SmS; omega, by unfold SmS; omega, by unfold SmS; omega, by unfold SmS; omega, by unfold SmS; omega⟩
  · have := of_decide_eq_true (List.all_eq_true.1 h2 x hx)
    show x.num.size ≤ 1000
    omega
end Go.Proofs.YtdoailkigecmkaaGreatDoor.B

namespace Go.Proofs.YtdoailkigecmkaaGreatDoor.B
open Go Go.RowKit Go.Proofs Go.Proofs.YtdoailkigecmkaaGreatDoor.Vc

theorem SlR.spot {w : World} {A : Option Addr} {n : Nat} {v : List Va} (h : SlR w A 4 (v.map Va.row)) (hl : v.length = n) {i : Nat} (hi : i < v.length) :
    (0 ≤ (i : Int) ∧ (i : Int) < n) ∧ ∃ a, A = some a ∧ CellsAt w (a.add ((i : Int).toNat * 4)) v[i].row ∧ CellsAt w ((a.add ((i : Int).toNat * 4)).add 1) [.int .i64 v[i].tick] ∧ CellsAt w ((a.add ((i : Int).toNat * 4)).add 2) [.int .i64 v[i].qual] ∧ CellsAt w ((a.add ((i : Int).toNat * 4)).add 3) [.string v[i].num] := by
  obtain ⟨hb, a, hA, hrow⟩ := h.load (n := n) (by simpa using hl) (j := (i : Int)) (by omega) (by omega)
  obtain ⟨hc, hf⟩ := hrow v[i].row (by rw [Int.toNat_natCast]; simp [hi]) rfl
  exact ⟨hb, a, hA, hc, hf 1 _ rfl, hf 2 _ rfl, hf 3 _ rfl⟩

end Go.Proofs.YtdoailkigecmkaaGreatDoor.B

namespace Go.Proofs.YtdoailkigecmkaaGreatDoor.B
open Go Go.RowKit Go.Proofs Go.Proofs.YtdoailkigecmkaaGreatDoor.Vc

abbrev isChan (chan : Int) (c : Ch) : Bool := decide (c.id = chan)
abbrev tookV (c : Ch) (u : Va) (chan tick : Int) (raw : ByteArray) : Va := ⟨chan, tick, qualF c u (numberR c raw) tick, rS (numberR c raw)⟩
theorem take_ok {l : List Ch} {v a : List Va} {chan tick : Int} {raw : ByteArray} (h : takeF l v chan tick raw = .ok a) :
    (checkF l).2 = 0 ∧ fitsF l v = true ∧ vR raw = true ∧ (0 ≤ tick ∧ tick ≤ 1073741824) ∧ ∃ (i : Nat) (c : Ch) (u : Va), idxF (isChan chan) 0 l = (i : Int) ∧ l[i]? = some c ∧ c.id = chan ∧ v[i]? = some u ∧ ¬ tick < u.tick ∧ a = v.set i (tookV c u chan tick raw) := by
  unfold takeF at h
  split at h
  · rename_i k
    refine ⟨k.1, k.2.1, k.2.2, ?_⟩
    rcases idxF_spec (isChan chan) l 0 with ⟨hi, _⟩ | ⟨i, c, hi, hc, hp, _⟩
    · rw [hi] at h
      cases h
    · rw [Nat.zero_add] at hi
      have hi' : idxF (fun c => decide (c.id = chan)) 0 l = Int.ofNat i := hi
      rw [hi'] at h
      simp only at h
      split at h
      · rename_i ht
        refine ⟨ht, i, c, ?_⟩
        rw [hc] at h
        cases hv : v[i]? with
        | none => rw [hv] at h; cases h
        | some u =>
          rw [hv] at h
          simp only at h
          split at h
          · cases h
          · rename_i hn
            cases h
            exact ⟨u, hi, hc, of_decide_eq_true hp, rfl, hn, rfl⟩
      · cases h
  · cases h
theorem take_err {l : List Ch} {v : List Va} {chan tick : Int} {raw : ByteArray} {e : Int} (h : takeF l v chan tick raw = .error e) : e ≠ 0 := by
  unfold takeF at h
  split at h
  · rename_i k
    rcases idxF_spec (isChan chan) l 0 with ⟨hi, _⟩ | ⟨i, c, hi, hc, hp, _⟩
    · have hi' : idxF (fun c => decide (c.id = chan)) 0 l = Int.negSucc 0 := hi
      rw [hi'] at h
      cases h
      decide
    · rw [Nat.zero_add] at hi
      have hi' : idxF (fun c => decide (c.id = chan)) 0 l = Int.ofNat i := hi
      rw [hi'] at h
      simp only at h
      split at h
      · rw [hc] at h
        have hil := (List.getElem?_eq_some_iff.1 hc).1
        have hv : v[i]? = some (v[i]'(by have := (fitsF_at k.2.1).1; omega)) := List.getElem?_eq_getElem _
        rw [hv] at h
        simp only at h
        split at h
        · cases h
          decide
        · cases h
      · cases h
        decide
  · cases h
    decide
theorem take_of {l : List Ch} {v : List Va} {chan tick : Int} {raw : ByteArray} {i : Nat} {c : Ch} {u : Va} (h1 : (checkF l).2 = 0) (h2 : fitsF l v = true) (h3 : vR raw = true) (h4 : 0 ≤ tick ∧ tick ≤ 1073741824) (h5 : idxF (isChan chan) 0 l = (i : Int)) (h6 : l[i]? = some c) (h7 : v[i]? = some u) (h8 : ¬ tick < u.tick) :
    takeF l v chan tick raw = .ok (v.set i (tookV c u chan tick raw)) := by
  have hi' : idxF (fun c => decide (c.id = chan)) 0 l = Int.ofNat i := h5
  unfold takeF
  rw [if_pos ⟨h1, h2, h3⟩, hi']
  simp only
  rw [if_pos h4, h6, h7]
  simp only
  rw [if_neg h8]
theorem fitsF_set : ∀ {l : List Ch} {v : List Va} {i : Nat} {c : Ch} {y : Va}, fitsF l v = true → l[i]? = some c → fit1 c y = true → fitsF l (v.set i y) = true := by
  intro l
  induction l with
  | nil => intro v i c y _ hc; simp at hc
  | cons d r ih =>
    intro v i c y h hc hy
    cases v with
    | nil => simp [fitsF] at h
    | cons x s =>
      rw [fitsF, Bool.and_eq_true] at h
      cases i with
      | zero =>
        simp at hc
        subst hc
        rw [List.set_cons_zero, fitsF, hy, h.2]
        rfl
      | succ i =>
        rw [List.set_cons_succ, fitsF, h.1, ih h.2 (by simpa using hc) hy]
        rfl
theorem qualF_in (c : Ch) (u : Va) (x : Rat) (t : Int) : 1 ≤ qualF c u x t ∧ qualF c u x t ≤ 3 := by
  unfold qualF
  split
  · omega
  · split <;> omega
theorem took_fits {c : Ch} {u : Va} {chan tick : Int} {raw : ByteArray} (hc : c.id = chan) (ht : 0 ≤ tick ∧ tick ≤ 1073741824) : fit1 c (tookV c u chan tick raw) = true := by
  have := qualF_in c u (numberR c raw) tick
  unfold fit1
  have h1 : decide (0 ≤ qualF c u (numberR c raw) tick ∧ qualF c u (numberR c raw) tick ≤ 3) = true := decide_eq_true (by omega)
  have h2 : decide (0 ≤ tick ∧ tick ≤ 1073741824) = true := decide_eq_true ht
  have h3 : (qualF c u (numberR c raw) tick != 0) = true := by simp; omega
  simp only [h1, h2, h3, vR_rS, hc]
  simp

theorem absR_zero : absR 0 = 0 := by unfold absR; rw [if_neg (by grind)]
theorem steady {l : List Ch} {v a : List Va} {chan tick later : Int} {raw : ByteArray} (h : takeF l v chan tick raw = .ok a) (hq : ∀ u ∈ v, u.qual = 0) (h0 : 0 ≤ later) (h1 : tick + later ≤ 1073741824) :
    ∃ (i : Nat) (ya yb : Va), idxF (isChan chan) 0 l = (i : Int) ∧ i < v.length ∧ a[i]? = some ya ∧ a.length = v.length ∧ takeF l a chan (tick + later) raw = .ok (a.set i yb) ∧ ya.qual = yb.qual ∧ ya.num = yb.num ∧ yb.tick = tick + later := by
  obtain ⟨k1, k2, k3, k4, i, c, u, k5, k6, k7, k8, k9, rfl⟩ := take_ok h
  have hiv := (List.getElem?_eq_some_iff.1 k8).1
  have hai : (v.set i (tookV c u chan tick raw))[i]? = some (tookV c u chan tick raw) := List.getElem?_set_self hiv
  have fit := fitsF_set k2 k6 (took_fits (u := u) (raw := raw) k7 k4)
  obtain ⟨_, hfa⟩ := check_valid k1
  obtain ⟨⟨v1, v2, v3, v4, v5⟩, hr⟩ := fault_valid (hfa i c k6)
  refine ⟨i, tookV c u chan tick raw, tookV c (tookV c u chan tick raw) chan (tick + later) raw, k5, hiv, hai, by simp, take_of k1 fit k3 (by omega) k5 k6 hai ?_, ?_, rfl, rfl⟩
  · show ¬ tick + later < tick
    omega
  · show qualF c u (numberR c raw) tick = qualF c (tookV c u chan tick raw) (numberR c raw) (tick + later)
    have hu : u.qual = 0 := hq u (List.mem_of_getElem? k8)
    unfold qualF
    split
    · rfl
    · rw [if_neg (by rw [hu]; rintro ⟨k, _⟩; cases k), if_neg]
      rintro ⟨_, k⟩
      have e1 : tick + later - (tookV c u chan tick raw).tick = later := by show tick + later - tick = later; omega
      have e2 : qR (tookV c u chan tick raw).num = numberR c raw := qR_rS _
      have e3 : numberR c raw - numberR c raw = 0 := by grind
      rw [e1, e2, e3, absR_zero] at k
      have hrate : 0 < qR c.rate := Decidable.byContradiction fun k' => hr.1 (.inr (.inr (.inr (.inr k'))))
      have hl : (0 : Rat) ≤ ((later : Int) : Rat) := by exact_mod_cast h0
      have := Rat.mul_nonneg (Rat.le_of_lt hrate) hl
      exact absurd k (Rat.not_lt.2 this)

theorem OwnR.extT {B0 : Nat} {ts : List Nat} {w w' : World} {B ty : Nat} {A : Option Addr} {n c sz : Nat} {rows : List (List Value)} (h : OwnR w B ty A n c sz rows) (x : Ext B0 ts w w') (ht : ty ∉ ts) : OwnR w' B ty A n c sz rows :=
  h.other fun a ha => by
    obtain ⟨cs, hcs⟩ := h.cells a ha
    rcases x.other a.block (h.blk a ha).2 with h1 | ⟨t, h2, c1, c2, fr, e1, e2⟩
    · exact h1
    · rw [hcs] at e1
      cases e1
      exact absurd h2 ht
theorem number_sm {c : Ch} {raw : ByteArray} (hc : few1 c = true) (hr : raw.size ≤ 40) (v1 : vR c.gain = true) (v2 : vR c.offset = true) (v3 : vR raw = true) : SmS (rS (numberR c raw)) := by
  have hf := of_decide_eq_true hc
  have s : Sm 121 (numberR c raw) := Sm.mono (((vR_sm v1 hf.2.1).mul (vR_sm v3 hr)).add (vR_sm v2 hf.2.2.1)) (by omega)
  have := s.length (by omega)
  show (ratT (numberR c raw)).length ≤ 1000
  omega
theorem few_chan {l : List Ch} {v : List Va} (h : fewF l v = true) : ∀ x ∈ l, few1 x = true := by
  unfold fewF at h
  rw [Bool.and_eq_true, Bool.and_eq_true] at h
  exact fun x hx => List.all_eq_true.1 h.1.1 x hx
theorem take_any {l : List Ch} {v : List Va} {chan tick : Int} {raw : ByteArray} {n B : Nat} {y : Value} {w : World} (hy : TakeR (takeF l v chan tick raw) n B y w) :
    ∃ A' n' c' e, y = .tuple #[.slice A' n' c', .int .i64 e] ∧ ((∃ a, takeF l v chan tick raw = .ok a ∧ e = 0 ∧ n' = n ∧ OwnR w B 46 A' n' c' 4 (a.map Va.row)) ∨ (takeF l v chan tick raw = .error e ∧ e ≠ 0 ∧ n' = 0)) := by
  cases ht : takeF l v chan tick raw with
  | error e =>
    rw [ht] at hy
    exact ⟨none, 0, 0, e, hy, .inr ⟨rfl, take_err ht, rfl⟩⟩
  | ok a =>
    rw [ht] at hy
    obtain ⟨A', c', rfl, o⟩ := hy
    exact ⟨A', n, c', 0, rfl, .inl ⟨a, rfl, rfl, rfl, o⟩⟩
theorem took_sm {l : List Ch} {v a v0 : List Va} {chan tick : Int} {raw : ByteArray} (h : takeF l v chan tick raw = .ok a) (hf : fewF l v0 = true) (hr : raw.size ≤ 40) (hv : ∀ x ∈ v, SmV x) : ∀ x ∈ a, SmV x := by
  obtain ⟨k1, k2, k3, k4, i, c, u, k5, k6, k7, k8, k9, rfl⟩ := take_ok h
  obtain ⟨_, hfa⟩ := check_valid k1
  obtain ⟨⟨v1, v2, v3, v4, v5⟩, _⟩ := fault_valid (hfa i c k6)
  intro x hx
  rcases List.mem_or_eq_of_mem_set hx with h | h
  · exact hv x h
  · subst h
    exact number_sm (few_chan hf c (List.mem_of_getElem? k6)) hr v1 v2 k3
theorem start_sm {l : List Ch} : ∀ x ∈ startF l, SmV x := by
  intro x hx
  obtain ⟨c, _, rfl⟩ := List.mem_map.1 hx
  show (1 : Nat) ≤ 1000
  decide
theorem start_qual {l : List Ch} : ∀ x ∈ startF l, x.qual = 0 := by
  intro x hx
  obtain ⟨c, _, rfl⟩ := List.mem_map.1 hx
  rfl
theorem rowC_len' {l : List Ch} : ∀ r ∈ l.map Ch.row, r.length = 7 := by
  intro r hr
  obtain ⟨x, _, rfl⟩ := List.mem_map.1 hr
  rfl
theorem steady_c1 {w : World} {c : Ch} {p : Nat} {chan tick : Int} {raw : ByteArray} (h : w.heap[p]? = some (.cells [.int .i64 chan, .int .i64 tick, .string raw].toArray 42 (0, 0))) :
    Pure Tryz.prog 40 #[c.val, .pointer (some ⟨p, 0, none⟩)] w fun v _ => v = .bool (isChan chan c) :=
  F.garboardlaw55_SensorSteady_c1.vc _ _ _ _ _ _ _ _ _ _ fun w1 x1 => ⟨_, box_cell (ext_nil x1 h) rfl, rfl⟩

theorem law_SensorSteady {w : World} (hg : Glob w) {A : Option Addr} {n c : Nat} {l : List Ch} {chan tick later : Int} {raw : ByteArray} (hl : SlR w A 7 (l.map Ch.row)) (hlen : l.length = n) (hn : n < 9223372036854775808) :
    Pure Tryz.prog 7 #[.slice A n c, .agg #[.int .i64 chan, .int .i64 tick, .string raw], .int .i64 later] w fun y _ => y = .bool true := by
  refine F.garboardlaw55_SensorSteady.vc _ _ _ _ _ _ _ _ _ fun w1 x1 => Pure.mono (law_awake (hg.next (k0 x1))) ?_
  have hb1 := k0 x1
  rintro y w2 b2 rfl
  have hb2 := kP hb1 b2
  refine ⟨_, rfl, fun h => (by cases h), fun _ => Pure.mono (ref_Few (l := l) (v := []) (hl.keep hb2 (Nat.le_refl _)) (.inl rfl) hlen rfl hn (by omega)) ?_⟩
  rintro y w3 b3 rfl
  have hb3 := kP hb2 b3
  refine ⟨_, rfl, fun _ => rfl, fun hf => ⟨fun _ => rfl, fun hr => ⟨fun _ => rfl, fun g1 => ⟨fun _ => rfl, fun g2 => ⟨by simp only [inR]; omega, fun _ => rfl, fun g3 => ?_⟩⟩⟩⟩⟩
  have hf' : fewF l [] = true := by simpa using hf
  obtain ⟨⟨h17, _⟩, hsc, _⟩ := few_val hf'
  have hr' : raw.size ≤ 40 := by omega
  have hrs : SmS raw := by unfold SmS; omega
  refine Pure.mono (CloneC (hl.keep hb3 (Nat.le_refl _)) (by simpa using hlen) rowC_len' rowC_cell (by omega)) ?_
  rintro y w4 b4 ⟨A4, c4, rfl, o4⟩
  have hb4 := kP hb3 b4
  refine ⟨_, _, _, rfl, Pure.mono (sensor_Start (hg.next hb4) o4.sl hlen hsc) ?_⟩
  rintro y w5 b5 ⟨k5, m5⟩
  have hb5 := kP hb4 b5
  by_cases hck : (checkF l).2 = 0
  · obtain ⟨A5, c5, rfl, o5⟩ := m5 hck
    refine ⟨_, _, _, _, rfl, fun h => absurd rfl h, fun _ w6 x6 => ?_⟩
    have hb6 := kE hb5 x6
    have o6 := o5.extNil x6
    refine Pure.mono (CloneC (hl.keep hb6 (Nat.le_refl _)) (by simpa using hlen) rowC_len' rowC_cell (by omega)) ?_
    rintro y w7 b7 ⟨A7, c7, rfl, o7⟩
    have hb7 := kP hb6 b7
    refine ⟨_, _, _, rfl, Pure.mono (sensor_Take (hg.next hb7) (v := startF l) (chan := chan) (tick := tick) (raw := raw) o7.sl hlen (o6.below b7).sl (by simp [startF, hlen]) (by omega) hsc start_sm hrs) ?_⟩
    rintro y w8 b8 hy
    have hb8 := kP hb7 b8
    obtain ⟨A8, n8, c8, e8, rfl, hy8⟩ := take_any hy
    rcases hy8 with ⟨a, ta, rfl, rfl, o8⟩ | ⟨ta, he, rfl⟩
    · obtain ⟨k1, k2, k3, k4, _⟩ := take_ok ta
      obtain ⟨i, ya, yb, j1, j2, j3, j4, j5, j6, j7, j8⟩ := steady ta start_qual (by omega) (by omega) (later := later)
      refine ⟨_, _, _, _, rfl, fun h => absurd rfl h, fun _ => ⟨by simp only [inR]; omega, fun w9 x9 => ?_⟩⟩
      have hb9 := kE hb8 x9
      have o9 := o8.extT x9 (by decide)
      refine Pure.mono (CloneC (hl.keep hb9 (Nat.le_refl _)) (by simpa using hlen) rowC_len' rowC_cell (by omega)) ?_
      rintro y w10 b10 ⟨A10, c10, rfl, o10⟩
      have hb10 := kP hb9 b10
      have o9a := o9.below b10
      have hal : a.length = n8 := by have := o8.len; simpa using this
      refine ⟨_, _, _, rfl, Pure.mono (CloneV o9a.sl (by simpa using hal) rowV_len rowV_cell (by simp [startF] at j4; omega)) ?_⟩
      rintro y w11 b11 ⟨A11, c11, rfl, o11⟩
      have hb11 := kP hb10 b11
      have o9b := o9a.below b11
      refine ⟨_, _, _, rfl, Pure.mono (sensor_Take (hg.next hb11) (v := a) (chan := chan) (tick := tick + later) (raw := raw) (o10.below b11).sl hlen o11.sl hal (by omega) hsc (took_sm ta hf' hr' start_sm) hrs) ?_⟩
      rintro y w12 b12 hy12
      have hb12 := kP hb11 b12
      have o9c := o9b.below b12
      rw [j5] at hy12
      obtain ⟨A12, c12, rfl, o12⟩ := hy12
      refine ⟨_, _, _, _, rfl, fun p hp hbox => Pure.mono (IndexFuncC (hl.keep hb12 (Nat.le_refl _)) hlen (by omega) (p := isChan chan) (by kernel_rfl) fun w' hb' x => steady_c1 (heap_keep hbox hb')) ?_⟩
      rintro y w13 b13 rfl
      have hb13 := kP hb12 b13
      have o9d := o9c.below b13
      have o13 := o12.below b13
      have box13 := heap_keep hbox b13
      rw [j1]
      have hia : i < a.length := by omega
      have hsl : (startF l).length = n8 := by simp [startF, hlen]
      have gya : a[i] = ya := by
        have := List.getElem?_eq_getElem hia
        rw [j3] at this
        exact (Option.some.inj this).symm
      have hib : i < (a.set i yb).length := by rw [List.length_set]; exact hia
      have gyb : (a.set i yb)[i] = yb := List.getElem_set_self _
      obtain ⟨q1, a1, hA1, _, _, cq1, cn1⟩ := o9d.sl.spot hal hia
      obtain ⟨q2, a2, hA2, _, ct2, cq2, cn2⟩ := o13.sl.spot (by simpa using hal) hib
      rw [gya] at cq1 cn1
      rw [gyb] at ct2 cq2 cn2
      refine ⟨_, rfl, fun _ => ⟨fun _ => ⟨fun _ => ⟨fun _ => ⟨q1, a1, hA1, _, cq1, q2, a2, hA2, _, cq2, fun _ => ⟨q1, a1, hA1, _, cn1, q2, a2, hA2, _, cn2, fun _ => ⟨q2, a2, hA2, _, ct2, _, box_cell box13 rfl, fun w14 _ => ?_⟩, fun h => absurd j7 h⟩, fun h => absurd j6 h⟩, fun h => absurd (by omega) h⟩, fun h => absurd (by omega) h⟩, fun h => absurd (by omega) h⟩, fun h => absurd rfl h⟩
      rw [j8]
      exact congrArg Value.bool (decide_eq_true rfl)
    · refine ⟨_, _, _, _, rfl, fun _ => rfl, fun h => absurd he h⟩
  · have e := k5 hck
    exact ⟨_, _, _, _, e, fun _ => rfl, fun h => absurd (by decide) h⟩
end Go.Proofs.YtdoailkigecmkaaGreatDoor.B

namespace Go.Proofs.YtdoailkigecmkaaGreatDoor.B
set_option maxRecDepth 100000
open Go Go.RowKit Go.Proofs Go.Proofs.YtdoailkigecmkaaGreatDoor.Vc Go.ChangeShapes Go.WideShapes Go.Deep

theorem own : ownKnob Tryz.prog.godebug = none := by kernel_rfl
theorem laidOut : laidOutB Tryz.prog = true := by kernel_rfl

section
variable {H : Type} {enc : TypeId × Value → H} {P : Program}

theorem below_trodAll (hl : laidOutB P = true) {W W' : World} (hb : Below W.heap.size W W') : ∀ {ts : List TypeId} {vs : List Value} {ds : List (DataW H)} {ps : List MemPlace},
    (∀ t ∈ ts, P.readableRec t = true ∧ t < P.types.size) → DataW.TrodAll enc P W 0 (fun _ => true) true ts vs ds ps → (∀ x ∈ ps, x.block < W.heap.size) → DataW.TrodAll enc P W' 0 (fun b => decide (b < W.heap.size)) true ts vs ds ps
  | [], _, _, _, _, h, _ => by
    obtain ⟨rfl, rfl, rfl⟩ := trodAll_nil h
    exact trodAll_mk0
  | t :: ts, _, _, _, ht, h, hlt => by
    obtain ⟨v, vs1, d, ds1, a, b, rfl, rfl, rfl, h1, h2⟩ := trodAll_cons h
    exact trodAll_cons_mk (Below.trod hl (ht t (by simp)).1 (ht t (by simp)).2 h1 hb (fun x hx => hlt x (by simp [hx])))
      (below_trodAll hl hb (fun u hu => ht u (by simp [hu])) h2 (fun x hx => hlt x (by simp [hx])))

theorem law_post {f : Func} {fid : FuncId} {s : ChangeSpec} {W : World} {args : Array Value} {ds gs : List (DataW H)} {before : List MemPlace} (hl : laidOutB P = true) (hW : DataW.Whole enc P f.params.toList s.vars false W args.toList ds gs before)
    (hvars : s.vars = []) {tb : TypeId} (hres : f.resultTypes = #[tb]) (htb : P.underlying tb = some .bool) (hrec : ∀ t ∈ f.params.toList, P.readableRec t = true ∧ t < P.types.size)
    (hs : s.fn H (ds ++ gs) = { results := [.lit (.bool true)], args := ds }) (key : Pure P fid args W fun y _ => y = .bool true) :
    Calls P fid args W fun e W' => ∃ v, e = .returned v ∧ s.post enc P f false true false false W args v W' := by
  refine Calls.mono key fun e W' ⟨v, he, hb, hy⟩ => ⟨v, he, ?_⟩
  subst hy
  have hlt := hW.lt
  have hW' := hW
  obtain ⟨p, q, hA, hV, rfl, _, _⟩ := hW
  rw [hvars] at hV
  obtain ⟨rfl, rfl⟩ := trodVars_none hV
  simp only [List.append_nil] at hlt hW'
  refine ⟨ds, _, _, [], p, [], hW', ?_, ?_, ?_, hb.frame _, fun h => by cases h⟩
  · rw [hs, hres]
    exact trodAll_cons_mk (shut_bool htb _) trodAll_mk0
  · rw [hs]
    exact below_trodAll hl hb hrec hA hlt
  · rw [hs, hvars]
    rfl

theorem open_slice_fields {w : World} {base : Nat} {spare : Nat → Bool} {held : Bool} {t e : TypeId} {fs : Array Field} {fuel : Nat} {cs : List Value} {x : DataW H × List MemPlace} (ht : P.underlying t = some (.slice e)) (he : P.underlying e = some (.struct fs))
    (hone : oneCellFields P fs = true) (hC : P.cellsOf e = fs.size) (h : DataW.trod enc P w base spare held fuel t cs = some x) :
    (cs = [.slice none 0 0]) ∨
    ∃ (a : Addr) (len cap : Nat), cs = [.slice (some a) len cap] ∧ len ≤ cap ∧ cap ≤ maxLen ∧
      ∀ i, i < len → ∃ (n : Nat), ∀ (j : Nat) (f : Field), fs[j]? = some f → ∃ (v : Value) (y : DataW H × List MemPlace), w.cell? (a.add (i * fs.size + j)) = some v ∧ DataW.trod enc P w base spare held n f.type [v] = some y := by
  rcases open_slice ht h with h0 | ⟨a, len, cap, m, n, D, Pl, hcs, hb, hl, hm, hmm, hx, hi⟩
  · exact .inl h0.1
  · refine .inr ⟨a, len, cap, hcs, hl, hm, fun i hlen => ?_⟩
    have him : i < m := by
      rw [hmm]
      split <;> omega
    obtain ⟨cs', hc, ht'⟩ := hi i him
    rw [hC] at hc
    obtain ⟨ys, n', hn', hy, hlen, hyl, hf⟩ := DataW.trod_struct he ht'
    obtain ⟨_, hcl, hat⟩ := World.cells?_some hc
    refine ⟨n', fun j f hj => ?_⟩
    obtain ⟨ho, hk⟩ := hone_of hone j f hj
    have hjl : j < fs.size := (Array.getElem?_eq_some_iff.1 hj).1
    have hcell := hat j hjl
    have hv : cs'[j]? = some (cs'[j]'(by omega)) := List.getElem?_eq_getElem (by omega)
    have h1 := hf j f hj
    rw [ho, hk] at h1
    have hone' : (cs'.drop j).take 1 = [cs'[j]'(by omega)] := by
      rw [List.drop_eq_getElem_cons (by omega)]
      rfl
    rw [hone'] at h1
    have hys : ys[j]? = some (ys[j]'(by omega)) := List.getElem?_eq_getElem (by omega)
    refine ⟨_, _, ?_, h1.trans hys⟩
    rw [← Go.Deep.add_add, hcell, hv]
end

theorem slR_of_cells {w : World} {a : Addr} {sz : Nat} (hsz : 0 < sz) {rows : List (List Value)} (hl : ∀ r ∈ rows, r.length = sz) (h : ∀ i, (hi : i < rows.length) → ∀ j, (hj : j < rows[i].length) → w.cell? (a.add (i * sz + j)) = some (rows[i][j])) : SlR w (some a) sz rows := by
  by_cases h0 : rows = []
  · exact .inl h0
  right
  have hp : 0 < rows.length := List.length_pos_iff.2 h0
  have hl0 : rows[0].length = sz := hl _ (List.getElem_mem _)
  have c0 := h 0 hp 0 (by omega)
  have hspot : a.spot = none := by simpa [Addr.add] using World.cell?_spot c0
  obtain ⟨b, off, spot⟩ := a
  simp only at hspot
  subst hspot
  have hadd : ∀ k, (⟨b, off, none⟩ : Addr).add k = ⟨b, off + k, none⟩ := fun k => add_plain0 b off k
  rw [hadd] at c0
  cases hh : w.heap[b]? with
  | none => simp [World.cell?, hh] at c0
  | some o =>
    cases o with
    | cells cs ty fr =>
      refine ⟨b, off, cs, ty, fr, rfl, hh, fun i hi j hj => ⟨hl _ (List.getElem_mem _), ?_⟩⟩
      have := h i hi j hj
      rw [hadd] at this
      simpa [World.cell?, hh, Nat.add_assoc] using this
    | _ => simp [World.cell?, hh] at c0

instance : Inhabited Va := ⟨⟨0, 0, 0, ⟨#[]⟩⟩⟩
instance : Inhabited Ch := ⟨⟨0, ⟨#[]⟩, ⟨#[]⟩, ⟨#[]⟩, ⟨#[]⟩, ⟨#[]⟩, ⟨#[]⟩⟩⟩
instance : Inhabited Sa := ⟨⟨0, 0, ⟨#[]⟩⟩⟩

theorem open_list {α : Type} [Inhabited α] {row : α → List Value} {sz : Nat} (hsz : 0 < sz) (hrow : ∀ x, (row x).length = sz) {H : Type} {enc : TypeId × Value → H} {w : World} {base b0 : Nat} {spare : Nat → Bool} {held : Bool} {r : Reach} {t e : TypeId} {fs : Array Field} (ht : Tryz.prog.underlying t = some (.slice e)) (he : Tryz.prog.underlying e = some (.struct fs))
    (hone : oneCellFields Tryz.prog fs = true) (hC : Tryz.prog.cellsOf e = fs.size) (hfs : fs.size = sz)
    (hx : ∀ (a : Addr) (n : Nat), (∀ (j : Nat) (f : Field), fs[j]? = some f → ∃ (v : Value) (y : DataW H × List MemPlace), w.cell? (a.add j) = some v ∧ DataW.trod enc Tryz.prog w base spare held n f.type [v] = some y) → ∃ x : α, ∀ j, (hj : j < (row x).length) → w.cell? (a.add j) = some ((row x)[j]))
    {v : Value} {d : DataW H} {p : List MemPlace} (hv : Value.okWide Tryz.prog w r b0 t v) (h : DataW.Trod enc Tryz.prog w base spare held t v d p) :
    ∃ (A : Option Addr) (n c : Nat) (l : List α), v = .slice A n c ∧ SlR w A sz (l.map row) ∧ l.length = n ∧ n < 9223372036854775808 := by
  obtain ⟨a0, len, cap, rfl⟩ := okWide_slice ht hv
  obtain ⟨fuel, hf⟩ := h
  rcases open_slice_fields ht he hone hC hf with hcs | ⟨a, len', cap', hcs, hl, hm, hi⟩
  · simp [Value.cells] at hcs
    obtain ⟨rfl, rfl, rfl⟩ := hcs
    exact ⟨none, 0, 0, [], rfl, .inl rfl, rfl, by omega⟩
  · simp [Value.cells] at hcs
    obtain ⟨rfl, rfl, rfl⟩ := hcs
    rw [hfs] at hi
    obtain ⟨g, hg⟩ := choose_lt (α := α) (n := len) (p := fun i x => ∀ j, (hj : j < (row x).length) → w.cell? (a.add (i * sz + j)) = some ((row x)[j])) fun i hilt => by
      obtain ⟨n, hn⟩ := hi i hilt
      obtain ⟨x, hx⟩ := hx (a.add (i * sz)) n fun j f hj => by
        obtain ⟨v, y, h1, h2⟩ := hn j f hj
        exact ⟨v, y, by rw [Go.Deep.add_add]; exact h1, h2⟩
      exact ⟨x, fun j hj => by rw [← Go.Deep.add_add]; exact hx j hj⟩
    refine ⟨some a, len, cap, (List.range len).map g, rfl, slR_of_cells hsz (fun r hr => ?_) (fun i hi2 j hj => ?_), by simp, by unfold maxLen at hm; omega⟩
    · obtain ⟨x, _, rfl⟩ := List.mem_map.1 hr
      exact hrow x
    · simp at hi2
      simp only [List.getElem_map, List.getElem_range] at hj ⊢
      exact hg i hi2 j hj

theorem int_cell {H : Type} {enc : TypeId × Value → H} {w : World} {base : Nat} {spare : Nat → Bool} {held : Bool} {n : Nat} {a : Addr} {t : TypeId} (ht : Tryz.prog.underlying t = some (.int .i64)) (h : ∃ (v : Value) (y : DataW H × List MemPlace), w.cell? a = some v ∧ DataW.trod enc Tryz.prog w base spare held n t [v] = some y) : ∃ z, w.cell? a = some (.int .i64 z) := by
  obtain ⟨v, y, h1, h2⟩ := h
  obtain ⟨z, hz, _⟩ := DataW.trod_int ht h2
  cases hz
  exact ⟨z, h1⟩
theorem str_cell {H : Type} {enc : TypeId × Value → H} {w : World} {base : Nat} {spare : Nat → Bool} {held : Bool} {n : Nat} {a : Addr} {t : TypeId} (ht : Tryz.prog.underlying t = some .string) (h : ∃ (v : Value) (y : DataW H × List MemPlace), w.cell? a = some v ∧ DataW.trod enc Tryz.prog w base spare held n t [v] = some y) : ∃ s, w.cell? a = some (.string s) := by
  obtain ⟨v, y, h1, h2⟩ := h
  obtain ⟨s, hs, _⟩ := DataW.trod_string ht h2
  cases hs
  exact ⟨s, h1⟩
theorem u_Rat : Tryz.prog.underlying 23 = some .string := by kernel_rfl
theorem u_int : Tryz.prog.underlying 3 = some (.int .i64) := by kernel_rfl
theorem u_str : Tryz.prog.underlying 9 = some .string := by kernel_rfl

theorem open_values {H : Type} {enc : TypeId × Value → H} {w : World} {base b0 : Nat} {spare : Nat → Bool} {held : Bool} {r : Reach} {v : Value} {d : DataW H} {p : List MemPlace} (hv : Value.okWide Tryz.prog w r b0 32 v) (h : DataW.Trod enc Tryz.prog w base spare held 32 v d p) :
    ∃ (A : Option Addr) (n c : Nat) (l : List Va), v = .slice A n c ∧ SlR w A 4 (l.map Va.row) ∧ l.length = n ∧ n < 9223372036854775808 := by
  refine open_list (sz := 4) (row := Va.row) (by omega) (fun _ => rfl) Tryz.underlying32 Tryz.underlying46 (by kernel_rfl) (by kernel_rfl) rfl (fun a n hf => ?_) hv h
  obtain ⟨z0, h0⟩ := int_cell u_int (hf 0 _ rfl)
  obtain ⟨z1, h1⟩ := int_cell u_int (hf 1 _ rfl)
  obtain ⟨z2, h2⟩ := int_cell u_int (hf 2 _ rfl)
  obtain ⟨s3, h3⟩ := str_cell u_Rat (hf 3 _ rfl)
  refine ⟨⟨z0, z1, z2, s3⟩, fun j hj => ?_⟩
  match j, hj with
  | 0, _ => exact h0
  | 1, _ => exact h1
  | 2, _ => exact h2
  | 3, _ => exact h3
theorem open_samples {H : Type} {enc : TypeId × Value → H} {w : World} {base b0 : Nat} {spare : Nat → Bool} {held : Bool} {r : Reach} {v : Value} {d : DataW H} {p : List MemPlace} (hv : Value.okWide Tryz.prog w r b0 52 v) (h : DataW.Trod enc Tryz.prog w base spare held 52 v d p) :
    ∃ (A : Option Addr) (n c : Nat) (l : List Sa), v = .slice A n c ∧ SlR w A 3 (l.map Sa.row) ∧ l.length = n ∧ n < 9223372036854775808 := by
  refine open_list (sz := 3) (row := Sa.row) (by omega) (fun _ => rfl) Tryz.underlying52 Tryz.underlying42 (by kernel_rfl) (by kernel_rfl) rfl (fun a n hf => ?_) hv h
  obtain ⟨z0, h0⟩ := int_cell u_int (hf 0 _ rfl)
  obtain ⟨z1, h1⟩ := int_cell u_int (hf 1 _ rfl)
  obtain ⟨s2, h2⟩ := str_cell u_Rat (hf 2 _ rfl)
  refine ⟨⟨z0, z1, s2⟩, fun j hj => ?_⟩
  match j, hj with
  | 0, _ => exact h0
  | 1, _ => exact h1
  | 2, _ => exact h2
theorem open_channels {H : Type} {enc : TypeId × Value → H} {w : World} {base b0 : Nat} {spare : Nat → Bool} {held : Bool} {r : Reach} {v : Value} {d : DataW H} {p : List MemPlace} (hv : Value.okWide Tryz.prog w r b0 22 v) (h : DataW.Trod enc Tryz.prog w base spare held 22 v d p) :
    ∃ (A : Option Addr) (n c : Nat) (l : List Ch), v = .slice A n c ∧ SlR w A 7 (l.map Ch.row) ∧ l.length = n ∧ n < 9223372036854775808 := by
  refine open_list (sz := 7) (row := Ch.row) (by omega) (fun _ => rfl) Tryz.underlying22 Tryz.underlying31 (by kernel_rfl) (by kernel_rfl) rfl (fun a n hf => ?_) hv h
  obtain ⟨z0, h0⟩ := int_cell u_int (hf 0 _ rfl)
  obtain ⟨s1, h1⟩ := str_cell u_str (hf 1 _ rfl)
  obtain ⟨s2, h2⟩ := str_cell u_Rat (hf 2 _ rfl)
  obtain ⟨s3, h3⟩ := str_cell u_Rat (hf 3 _ rfl)
  obtain ⟨s4, h4⟩ := str_cell u_Rat (hf 4 _ rfl)
  obtain ⟨s5, h5⟩ := str_cell u_Rat (hf 5 _ rfl)
  obtain ⟨s6, h6⟩ := str_cell u_Rat (hf 6 _ rfl)
  refine ⟨⟨z0, s1, s2, s3, s4, s5, s6⟩, fun j hj => ?_⟩
  match j, hj with
  | 0, _ => exact h0
  | 1, _ => exact h1
  | 2, _ => exact h2
  | 3, _ => exact h3
  | 4, _ => exact h4
  | 5, _ => exact h5
  | 6, _ => exact h6
end Go.Proofs.YtdoailkigecmkaaGreatDoor.B

namespace Go.Proofs.YtdoailkigecmkaaGreatDoor.B
open Go Go.RowKit Go.Proofs Go.Proofs.YtdoailkigecmkaaGreatDoor.Vc Go.ChangeShapes Go.WideShapes Go.Deep Go.ChangeAt
set_option maxRecDepth 100000

noncomputable def laidWorld (os : Os) : World :=
  let N := (World.settled Tryz.prog os).heap.size
  let w0 := World.holding Tryz.prog os ⟨#[.cells #[.string ⟨#[118, 97, 108, 117, 101, 32, 111, 117, 116, 32, 111, 102, 32, 114, 97, 110, 103, 101]⟩] 265, .cells #[.string ⟨#[105, 110, 118, 97, 108, 105, 100, 32, 115, 121, 110, 116, 97, 120]⟩] 265], #[], []⟩
  let put (h : Array Obj) (g : Nat) (cs : Array Value) : Array Obj := h.modify g fun
    | .cells _ t frozen => .cells cs t frozen
    | o => o
  let h0 := put (put w0.heap 5 #[.iface 263 (.pointer (some ⟨N, 0, none⟩))]) 4 #[.iface 263 (.pointer (some ⟨N + 1, 0, none⟩))]
  let h1 := put h0 2 #[.int .u8 0, .int .u8 1, .int .u8 28, .int .u8 2, .int .u8 29, .int .u8 14, .int .u8 24, .int .u8 3, .int .u8 30, .int .u8 22, .int .u8 20, .int .u8 15, .int .u8 25, .int .u8 17, .int .u8 4, .int .u8 8, .int .u8 31, .int .u8 27, .int .u8 13, .int .u8 23, .int .u8 21, .int .u8 19, .int .u8 16, .int .u8 7, .int .u8 26, .int .u8 12, .int .u8 18, .int .u8 6, .int .u8 11, .int .u8 5, .int .u8 10, .int .u8 9]
  let h2 := put h1 3 #[.int .u8 0, .int .u8 1, .int .u8 56, .int .u8 2, .int .u8 57, .int .u8 49, .int .u8 28, .int .u8 3, .int .u8 61, .int .u8 58, .int .u8 42, .int .u8 50, .int .u8 38, .int .u8 29, .int .u8 17, .int .u8 4, .int .u8 62, .int .u8 47, .int .u8 59, .int .u8 36, .int .u8 45, .int .u8 43, .int .u8 51, .int .u8 22, .int .u8 53, .int .u8 39, .int .u8 33, .int .u8 30, .int .u8 24, .int .u8 18, .int .u8 12, .int .u8 5, .int .u8 63, .int .u8 55, .int .u8 48, .int .u8 27, .int .u8 60, .int .u8 41, .int .u8 37, .int .u8 16, .int .u8 46, .int .u8 35, .int .u8 44, .int .u8 21, .int .u8 52, .int .u8 32, .int .u8 23, .int .u8 11, .int .u8 54, .int .u8 26, .int .u8 40, .int .u8 15, .int .u8 34, .int .u8 20, .int .u8 31, .int .u8 10, .int .u8 25, .int .u8 14, .int .u8 19, .int .u8 9, .int .u8 13, .int .u8 8, .int .u8 7, .int .u8 6]
  let h3 := put h2 1 (Lib.pow10Tab.map fun z => Value.int .u64 z).toArray
  { w0 with heap := h3 }

noncomputable abbrev N0 : Nat := (World.settled Tryz.prog default).heap.size
theorem laid_met (os : Os) (args : Array Value) : laidMet Tryz.prog Rows.sensorOlderRow.laid ((laidWorld os).forCall (fun _ _ => 0) ⟨#[], args, []⟩).memory :=
  (LaidIn.of_run (l := Rows.sensorOlderRow.laid) [2, 3, 1, 5, 4, N0, N0 + 1] 8 (by kernel_rfl) (by kernel_rfl) (by kernel_rfl) (by kernel_rfl)).met

theorem world_vars (os : Os) (args : Array Value) : ((laidWorld os).forCall (fun _ _ => 0) ⟨#[], args, []⟩).variablesRefB Tryz.prog = true := by kernel_rfl
theorem world_rest (os : Os) (args : Array Value) : (((laidWorld os).forCall (fun _ _ => 0) ⟨#[], args, []⟩).heap.toList.drop Tryz.prog.globals.size).take ((begin Tryz.prog (fun _ _ => 0) default).world.heap.size - Tryz.prog.globals.size) =
      (begin Tryz.prog (fun _ _ => 0) default).world.heap.toList.drop Tryz.prog.globals.size := by kernel_rfl

theorem glob_of {W : World} (hL : laidMet Tryz.prog Rows.sensorOlderRow.laid W) (hS : W.ShapedOpen Tryz.prog) : Glob W :=
  ⟨Lib.tabIs_of_head (zs := Lib.pow10Tab) (g := 1) (t := 226) (e := 132) (n := 20) g_pow10 (by kernel_rfl) (by kernel_rfl) (by kernel_rfl) (by kernel_rfl) (by kernel_rfl) hL.tail.tail,
   cell_of_shapedOpen_int (g := 0) (t := 3) (zero := #[.int .i64 0]) hS (of_decide_eq_true (by kernel_rfl)) (by kernel_rfl) rfl (by kernel_rfl) (by kernel_rfl) (by kernel_rfl)⟩
theorem open_sample {H : Type} {enc : TypeId × Value → H} {w : World} {base b0 : Nat} {spare : Nat → Bool} {held : Bool} {v : Value} {d : DataW H} {p : List MemPlace} (hv : Value.okWide Tryz.prog w .any b0 42 v) (h : DataW.Trod enc Tryz.prog w base spare held 42 v d p) :
    ∃ (x0 x1 : Int) (s : ByteArray), v = .agg #[.int .i64 x0, .int .i64 x1, .string s] := by
  obtain ⟨v0, v1, v2, y0, y1, y2, n, rfl, _, _, h0, h1, h2⟩ := Go.Joins.open_agg3 Tryz.underlying42 (by kernel_rfl) (by kernel_rfl) hv h
  obtain ⟨z0, e0, _⟩ := DataW.trod_int u_int h0
  obtain ⟨z1, e1, _⟩ := DataW.trod_int u_int h1
  obtain ⟨s2, e2, _⟩ := DataW.trod_string u_Rat h2
  cases e0; cases e1; cases e2
  exact ⟨z0, z1, s2, rfl⟩
end Go.Proofs.YtdoailkigecmkaaGreatDoor.B
