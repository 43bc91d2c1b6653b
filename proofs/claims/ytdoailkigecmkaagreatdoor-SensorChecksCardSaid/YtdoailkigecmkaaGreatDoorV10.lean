/- Part 10 of the proofs that: What the statements SensorChecks, SensorTakes and SensorVotes rest on. -/
import Derived.Test.YtdoailkigecmkaaGreatDoorV9
import Derived.Test.YtdoailkigecmkaaGreatDoorCards
import Derived.Test.YtdoailkigecmkaaGreatDoorTie
import Derived.WalkKit
import Derived.ProofKit
import Derived.OpenShut
import Derived.Carry
import Derived.Deep.DeepHandedRow
import Derived.Deep.DeepWitnessRowRef
import Derived.Deep.Slices
import Derived.Deep.Fields
import Derived.Lib.SmallJoins
import Derived.Lib.LaidIn
import Derived.Lib.LaidTab
import Derived.Stop.LaidErr
import Derived.Shelf.Vars
import Derived.Laws.IdiomArrays
set_option linter.unusedVariables false
set_option linter.unusedSimpArgs false
namespace Go.Proofs.YtdoailkigecmkaaGreatDoor.B
open Go Go.RowKit Go.Proofs Go.Proofs.YtdoailkigecmkaaGreatDoor.Vc

theorem r55_are_loop {w0 : World} {A A1 : Option Addr} {n c c1 : Nat} {l : List Ch} {v : List Va} (hl : SlR w0 A 7 (l.map Ch.row)) (hlen : l.length = n) (hv : SlR w0 A1 4 (v.map Va.row)) (hvlen : v.length = n) (hn : n < 2147483648) (hsm : ∀ x ∈ v, SmV x) {R : Value → World → Prop} {r : Bool} (hR : ∀ w, R (.bool r) w) :
    ∀ (d i : Nat) (w : World), n - i = d → i ≤ n → Below w0.heap.size w0 w → r = fitsF (l.drop i) (v.drop i) → F.garboardref55_Are.L4 A n c A1 n c1 i w0.heap.size w R := by
  intro d
  induction d with
  | zero =>
    intro i w hd hi hw hr
    rw [List.drop_eq_nil_of_le (by omega), List.drop_eq_nil_of_le (by omega)] at hr
    subst hr
    exact F.garboardref55_Are.L4.step _ _ _ _ _ _ _ _ _ _ ⟨fun h => by omega, fun _ => hR w⟩
  | succ d ih =>
    intro i w hd hi hw hr
    have hil : i < l.length := by omega
    have hiv : i < v.length := by omega
    rw [List.drop_eq_getElem_cons hil, List.drop_eq_getElem_cons hiv, fitsF] at hr
    obtain ⟨hb, a, hA, hrow⟩ := (hv.keep hw (Nat.le_refl _)).load (n := n) (by simpa using hvlen) (j := (i : Int)) (by omega) (by omega)
    obtain ⟨hcell, _⟩ := hrow v[i].row (by rw [Int.toNat_natCast]; simp [hiv]) rfl
    refine F.garboardref55_Are.L4.step _ _ _ _ _ _ _ _ _ _ ⟨fun _ => ?_, fun h => by omega⟩
    refine ⟨hb, a, hA, _, _, _, _, hcell, fun w2 x2 => ?_⟩
    have hw2 := kE hw x2
    obtain ⟨hb2, a2, hA2, hrow2⟩ := (hl.keep hw2 (Nat.le_refl _)).load (n := n) (by simpa using hlen) (j := (i : Int)) (by omega) (by omega)
    obtain ⟨_, hcell2⟩ := hrow2 l[i].row (by rw [Int.toNat_natCast]; simp [hil]) rfl
    have bad : fit1 l[i] v[i] = false → r = false := fun h => by rw [hr, h, Bool.false_and]
    have sv : SmV v[i] := hsm _ (List.getElem_mem _)
    refine ⟨hb2, a2, hA2, _, hcell2 0 _ rfl, fun h1 w3 _ => ?_, fun h1 => ⟨fun h2 w3 _ => ?_, fun h2 => ⟨fun h3 w3 _ => ?_, fun h3 w3 x3 => ?_⟩⟩⟩
    · have := hR w3; rwa [bad (by simp [fit1]; intro k; omega)] at this
    · have := hR w3; rwa [bad (by simp [fit1]; intros; omega)] at this
    · have := hR w3; rwa [bad (by simp [fit1]; intros; omega)] at this
    have hw3 := kE hw2 x3
    refine Pure.mono (r55_tick _ _) ?_
    rintro y w4 b4 rfl
    have hw4 := kP hw3 b4
    refine ⟨_, rfl, fun h4 => ?_, fun h4 => Pure.mono (ref3_Valid v[i].num sv w4) ?_⟩
    · have := hR w4
      rwa [bad (by
        have h5 : decide (0 ≤ v[i].tick ∧ v[i].tick ≤ 1073741824) = false := h4
        unfold fit1
        rw [h5]
        simp)] at this
    rintro y w5 b5 rfl
    have hw5 := kP hw4 b5
    refine ⟨_, rfl, fun h6 => ?_, fun h6 => ?_⟩
    · have := hR w5
      rwa [bad (by
        have h5 : vR v[i].num = false := h6
        unfold fit1
        rw [h5]
        simp)] at this
    have k1 : v[i].chan = l[i].id := by
      apply Decidable.byContradiction
      intro k
      exact h1 k
    have k2 : decide (0 ≤ v[i].tick ∧ v[i].tick ≤ 1073741824) = true := by simpa using h4
    have k3 : vR v[i].num = true := by simpa using h6
    have k4 : decide (0 ≤ v[i].qual ∧ v[i].qual ≤ 3) = true := by simp; omega
    have e3 : (i : Int) + 1 = ((i + 1 : Nat) : Int) := by omega
    have go : fit1 l[i] v[i] = true → F.garboardref55_Are.L4 A n c A1 n c1 ((i : Int) + 1) w0.heap.size w5 R := fun h => by
      rw [e3]
      exact ih (i + 1) w5 (by omega) (by omega) hw5 (by rw [hr, h, Bool.true_and])
    refine ⟨fun h7 => ⟨fun h8 => ?_, fun h8 => ⟨fun h9 => ?_, fun h9 => ⟨by simp only [inR]; omega, go ?_⟩⟩⟩, fun h7 => ⟨by simp only [inR]; omega, go ?_⟩⟩
    · have := hR w5; rwa [bad (by simp [fit1]; intros; exact ⟨h7, fun k => absurd k h8⟩)] at this
    · have := hR w5; rwa [bad (by simp [fit1]; intros; exact ⟨h7, fun _ k => h9 k⟩)] at this
    · have h8' : v[i].tick = 0 := by apply Decidable.byContradiction; intro k; exact h8 k
      have h9' : v[i].num = ⟨#[48]⟩ := by apply Decidable.byContradiction; intro k; exact h9 k
      unfold fit1
      rw [k2, k3, k4]
      simp [k1, h8', h9']
    · unfold fit1
      rw [k2, k3, k4]
      simp [k1, h7]
theorem r55_Are {w : World} {A A1 : Option Addr} {n n1 c c1 : Nat} {l : List Ch} {v : List Va} (hl : SlR w A 7 (l.map Ch.row)) (hlen : l.length = n) (hv : SlR w A1 4 (v.map Va.row)) (hvlen : v.length = n1) (hn : n < 2147483648) (hsm : ∀ x ∈ v, SmV x) :
    Pure Tryz.prog 57 #[.slice A n c, .slice A1 n1 c1] w fun y _ => y = .bool (fitsF l v) := by
  refine F.garboardref55_Are.vc _ _ _ _ _ _ _ _ ⟨fun h => ?_, fun h => ?_⟩
  · rw [fitsF_len l v (by omega)]
  · have : n1 = n := by omega
    subst this
    exact r55_are_loop hl hlen hv hvlen hn hsm (r := fitsF l v) (fun _ => rfl) n1 0 w rfl (by omega) (Below.refl _ _) rfl

theorem r55_quality {w : World} {c : Ch} (hc : SmC c) (hf : vR c.low = true ∧ vR c.high = true ∧ vR c.rate = true) {u : Va} (hu : SmV u) (vu : vR u.num = true) (tu : 0 ≤ u.tick ∧ u.tick ≤ 1073741824) {b : Bool} {A A' : Option Addr} {n k n' k' : Nat} {x : Rat} (hx : IsQ w b A n k A' n' k' x) (sx : Sm 10000 x) {at_ : Int} (ta : 0 ≤ at_ ∧ at_ ≤ 1073741824) :
    Pure Tryz.prog 59 #[c.val, u.val, .agg #[.bool b, .slice A n k, .slice A' n' k'], .int .i64 at_] w fun v _ => v = .int .i64 (qualF c u x at_) := by
  obtain ⟨v3, v4, v5⟩ := hf
  have su := vR_sm vu hu
  refine F.garboardref55_quality.vc _ _ _ _ _ _ _ _ _ _ _ _ _ _ _ _ _ _ _ _ _ fun w1 x1 => Pure.mono (r55_num hc.low v3 w1) ?_
  have q1 := hx.ext x1 (by decide)
  rintro v w2 b2 ⟨bl, Al, nl, cl, Al', nl', cl', rfl, kl⟩
  have q2 := q1.below b2
  refine ⟨_, _, _, _, _, _, _, rfl, Pure.mono (ref3_Less q2 kl (sx.mono (by omega)) ((vR_sm v3 hc.low).mono (by omega))) ?_⟩
  rintro v w3 b3 rfl
  have q3 := q2.below b3
  refine ⟨_, rfl, fun h => ?_, fun h => Pure.mono (r55_num hc.high v4 w3) ?_⟩
  · unfold qualF
    rw [if_pos (.inl (of_decide_eq_true h))]
  have h1 := of_decide_eq_false h
  rintro v w4 b4 ⟨bh, Ah, nh, ch, Ah', nh', ch', rfl, kh⟩
  have q4 := q3.below b4
  refine ⟨_, _, _, _, _, _, _, rfl, Pure.mono (ref3_Less kh q4 ((vR_sm v4 hc.high).mono (by omega)) (sx.mono (by omega))) ?_⟩
  rintro v w5 b5 rfl
  have q5 := q4.below b5
  refine ⟨_, rfl, fun h => ?_, fun h => ?_⟩
  · unfold qualF
    rw [if_pos (.inr (of_decide_eq_true h))]
  have h2 := of_decide_eq_false h
  have h12 : ¬ (x < qR c.low ∨ qR c.high < x) := fun k => k.elim h1 h2
  refine ⟨fun hq => ⟨by simp only [inR]; omega, fun w6 x6 => Pure.mono (r55_num hc.rate v5 w6) ?_⟩, fun hq w6 _ => ?_⟩
  rotate_left
  · unfold qualF
    rw [if_neg h12, if_neg (fun k => hq k.1)]
  have q6 := q5.ext x6 (by decide)
  rintro v w7 b7 ⟨br, Ar, nr, cr, Ar', nr', cr', rfl, kr⟩
  have q7 := q6.below b7
  refine ⟨_, _, _, _, _, _, _, rfl, Pure.mono (ref3_Int (by omega)) ?_⟩
  rintro v w8 b8 ⟨bi, Ai, ni, ci, Ai', ni', ci', rfl, ki⟩
  have q8 := q7.below b8
  have s4 : Sm 10 ((at_ - u.tick : Int) : Rat) := Sm.ofInt (by omega) (by omega)
  have s5 : Sm 2000 (qR c.rate * ((at_ - u.tick : Int) : Rat)) := ((vR_sm v5 hc.rate).mul s4).mono (by omega)
  refine ⟨_, _, _, _, _, _, _, rfl, Pure.mono (ref3_Mul (kr.below b8) ki ((vR_sm v5 hc.rate).mono (by omega)) (s4.mono (by omega))) ?_⟩
  rintro v w9 b9 ⟨bm, Am, nm, cm, Am', nm', cm', rfl, km⟩
  have q9 := q8.below b9
  refine ⟨_, _, _, _, _, _, _, rfl, Pure.mono (r55_num hu vu w9) ?_⟩
  rintro v w10 b10 ⟨bu, Au, nu, cu, Au', nu', cu', rfl, ku⟩
  have q10 := q9.below b10
  have s2 : Sm 20000 (x - qR u.num) := (sx.sub su).mono (by omega)
  refine ⟨_, _, _, _, _, _, _, rfl, Pure.mono (ref3_Sub q10 ku (sx.mono (by omega)) (su.mono (by omega))) ?_⟩
  rintro v w11 b11 ⟨bs, As, ns, cs, As', ns', cs', rfl, ks⟩
  refine ⟨_, _, _, _, _, _, _, rfl, Pure.mono (r55_size ks) ?_⟩
  rintro v w12 b12 ⟨bz, Az, nz, cz, Az', nz', cz', rfl, kz⟩
  refine ⟨_, _, _, _, _, _, _, rfl, Pure.mono (ref3_Less (((km.below b10).below b11).below b12) kz (s5.mono (by omega)) (s2.abs.mono (by omega))) ?_⟩
  rintro v w13 b13 rfl
  have hq' : u.qual = 1 := hq
  refine ⟨_, rfl, fun h => ?_, fun h => ?_⟩
  · unfold qualF
    rw [if_neg h12, if_pos ⟨hq', of_decide_eq_true h⟩]
  · unfold qualF
    rw [if_neg h12, if_neg (fun k => of_decide_eq_false h k.2)]

theorem box_all {w : World} {b ty : Nat} {vs : List Value} (h : w.heap[b]? = some (.cells vs.toArray ty (0, 0))) : CellsAt w (⟨b, 0, none⟩ : Addr) vs := by
  intro i hi
  rw [add_plain0]
  simp [World.cell?, h]

theorem r55_see_loop {w0 : World} {A : Option Addr} {n c : Nat} {v : List Va} (hv : SlR w0 A 4 (v.map Va.row)) (hlen : v.length = n) (hn : n ≤ 16) {at_ hold : Int} (ha : 0 ≤ at_ ∧ at_ ≤ 1073741824) (hh : 0 ≤ hold ∧ hold ≤ 1073741824) {R : Value → World → Prop}
    (hR : ∀ A' c' w, OwnR w w0.heap.size 46 A' n c' 4 ((v.map (seen at_ hold)).map Va.row) → R (.tuple #[.slice A' n c', .int .i64 0]) w) :
    ∀ (d i : Nat) (w : World) (A' : Option Addr) (c' : Nat), n - i = d → i ≤ n → Below w0.heap.size w0 w → OwnR w w0.heap.size 46 A' i c' 4 (((v.take i).map (seen at_ hold)).map Va.row) →
      F.garboardref55_See.L7 A n c at_ hold A' i c' i w0.heap.size w R := by
  intro d
  induction d with
  | zero =>
    intro i w A' c' hd hi hw ho
    have : i = n := by omega
    subst this
    rw [List.take_of_length_le (by omega)] at ho
    exact F.garboardref55_See.L7.step _ _ _ _ _ _ _ _ _ _ _ _ ⟨fun h => by omega, fun _ => hR _ _ _ ho⟩
  | succ d ih =>
    intro i w A' c' hd hi hw ho
    have hiv : i < v.length := by omega
    obtain ⟨hb, a, hA, hrow⟩ := (hv.keep hw (Nat.le_refl _)).load (n := n) (by simpa using hlen) (j := (i : Int)) (by omega) (by omega)
    obtain ⟨hcell, _⟩ := hrow v[i].row (by rw [Int.toNat_natCast]; simp [hiv]) rfl
    have e3 : (i : Int) + 1 = ((i + 1 : Nat) : Int) := by omega
    refine F.garboardref55_See.L7.step _ _ _ _ _ _ _ _ _ _ _ _ ⟨fun _ => ⟨hb, a, hA, _, _, _, _, hcell, ?_⟩, fun h => by omega⟩
    refine runOk_alloc _ (z := .agg #[.int .i64 0, .int .i64 0, .int .i64 0, .string ⟨#[]⟩]) (by kernel_rfl) hw.size fun w1 h1 b1 hlt1 => ?_
    have hb1 := kP hw b1
    have o1 := ho.below b1
    refine ⟨[.int .i64 0, .int .i64 0, .int .i64 0, .string ⟨#[]⟩], _, hw.size, rfl, h1, by simp, rfl, fun w2 hw2 => ?_⟩
    have h2 : w2.heap[w.heap.size]? = some (.cells [.int .i64 v[i].chan, .int .i64 v[i].tick, .int .i64 v[i].qual, .string v[i].num].toArray 46 (0, 0)) := hw2.at_
    have b2 : Below w0.heap.size w0 w2 := hb1.trans ((Wrote.belowR hw2 hw.size))
    have o2 : OwnR w2 w0.heap.size 46 A' i c' 4 (((v.take i).map (seen at_ hold)).map Va.row) := by
      refine o1.other fun a' ha' => hw2.rest _ ?_
      have := (ho.blk a' ha').2
      show a'.block ≠ w.heap.size
      omega
    have go : ∀ (y : Va) (w3 : World), y = seen at_ hold v[i] → Below w0.heap.size w0 w3 → OwnR w3 w0.heap.size 46 A' i c' 4 (((v.take i).map (seen at_ hold)).map Va.row) →
        RunOk Tryz.prog (Instr.buildSlice 32 1 #[(0, (.agg #[(.int .i64 y.chan), (.int .i64 y.tick), (.int .i64 y.qual), (.string y.num)]))]) w0.heap.size [] w3 fun r4 w5 => ∃ (A3 : Option Addr) (n3 c3 : Nat), r4 = (.slice A3 n3 c3) ∧ RunOk Tryz.prog (Builtin.append_ #[32, 32] 32 #[(.slice A' i c'), (.slice A3 n3 c3)]) w0.heap.size [] w5 fun r7 w8 => ∃ (A6 : Option Addr) (n6 c6 : Nat), r7 = (.slice A6 n6 c6) ∧
          (inR .i64 ((i : Int) + (1 : Int)) ∧ (F.garboardref55_See.L7 A n c at_ hold A6 n6 c6 ((i : Int) + (1 : Int)) w0.heap.size w8 R)) := by
      intro y w3 hy hb3 o3
      refine app_row el_Vas (Nat.le_refl _) o3 (x := .agg #[.int .i64 y.chan, .int .i64 y.tick, .int .i64 y.qual, .string y.num]) rfl (by simp [Value.cells, isCell]) hb3.size (by omega) (by simp) fun A3 c3 w4 o4 _ b4 => ⟨by simp only [inR]; omega, ?_⟩
      rw [e3]
      refine ih (i + 1) w4 A3 c3 (by omega) (by omega) (hb3.trans b4) ?_
      have e4 : v.take (i + 1) = v.take i ++ [v[i]] := by rw [List.take_add_one, List.getElem?_eq_getElem hiv]; rfl
      rw [e4, List.map_append, List.map_append]
      subst hy
      exact o4
    have same : ¬ (v[i].qual ≠ 0 ∧ v[i].tick < at_ - hold) → v[i] = seen at_ hold v[i] := fun h => by
      unfold seen
      rw [if_neg h]
    refine ⟨_, box_cell h2 rfl, fun hq => ⟨_, box_cell h2 rfl, by simp only [inR]; omega, fun ht => ?_, fun ht => ?_⟩, fun hq => ?_⟩
    · rw [add_plain0]
      refine ⟨[.int .i64 v[i].chan, .int .i64 v[i].tick, .int .i64 v[i].qual, .string v[i].num], _, hw.size, rfl, h2, by simp, rfl, fun w3 hw3 => ?_⟩
      have h3 : w3.heap[w.heap.size]? = some (.cells [.int .i64 v[i].chan, .int .i64 v[i].tick, .int .i64 4, .string v[i].num].toArray 46 (0, 0)) := hw3.at_
      refine ⟨_, _, _, _, box_all h3, go { v[i] with qual := 4 } w3 ?_ (b2.trans (Wrote.belowR hw3 hw.size)) ?_⟩
      · unfold seen
        rw [if_pos ⟨hq, ht⟩]
      · refine o2.other fun a' ha' => hw3.rest _ ?_
        have := (ho.blk a' ha').2
        show a'.block ≠ w.heap.size
        omega
    · exact ⟨_, _, _, _, box_all h2, go v[i] w2 (same fun k => ht k.2) b2 o2⟩
    · exact ⟨_, _, _, _, box_all h2, go v[i] w2 (same fun k => hq k.1) b2 o2⟩
theorem r55_See {w : World} {A : Option Addr} {n c : Nat} {v : List Va} {at_ hold : Int} (hv : SlR w A 4 (v.map Va.row)) (hlen : v.length = n) :
    Pure Tryz.prog 26 #[.slice A n c, .int .i64 at_, .int .i64 hold] w (SeeR (seeF v at_ hold) n w.heap.size) := by
  refine F.garboardref55_See.vc _ _ _ _ _ _ _ ⟨fun h => ?_, fun h => Pure.mono (r55_tick _ _) ?_⟩
  · unfold seeF
    rw [if_pos (by omega)]
    rfl
  have e : seeF v at_ hold = if (0 ≤ at_ ∧ at_ ≤ 1073741824) ∧ (0 ≤ hold ∧ hold ≤ 1073741824) then .ok (v.map (seen at_ hold)) else .error 2 := if_neg (by omega)
  rw [e]
  rintro y w1 b1 rfl
  refine ⟨_, rfl, fun h => ?_, fun h => Pure.mono (r55_tick _ _) ?_⟩
  · have h' : ¬ (0 ≤ at_ ∧ at_ ≤ 1073741824) := of_decide_eq_false h
    rw [if_neg fun k => h' k.1]
    rfl
  rintro y w2 b2 rfl
  have hb2 := kP b1 b2
  refine ⟨_, rfl, fun h => ?_, fun h => ?_⟩
  · have h' : ¬ (0 ≤ hold ∧ hold ≤ 1073741824) := of_decide_eq_false h
    rw [if_neg fun k => h' k.2]
    rfl
  have k1 : 0 ≤ at_ ∧ at_ ≤ 1073741824 := by
    apply Decidable.byContradiction
    intro k
    rename_i h0
    exact h0 (decide_eq_false k)
  have k2 : 0 ≤ hold ∧ hold ≤ 1073741824 := by
    apply Decidable.byContradiction
    intro k
    exact h (decide_eq_false k)
  rw [if_pos ⟨k1, k2⟩]
  exact r55_see_loop hv hlen (by omega) k1 k2 (fun A' c' w' ho => ⟨A', c', rfl, ho⟩) n 0 w2 none 0 rfl (by omega) hb2 (by simpa using OwnR.nil)

theorem ids_inc {l : List Ch} (h : (checkF l).2 = 0) : ∀ (d i : Nat) (a b : Ch), l[i]? = some a → l[i + 1 + d]? = some b → a.id < b.id := by
  obtain ⟨_, hf⟩ := check_valid h
  have next : ∀ (i : Nat) (a b : Ch), l[i]? = some a → l[i + 1]? = some b → a.id < b.id := fun i a b ha hb => by
    refine (fault_valid (hf (i + 1) b hb)).2.2 a ?_
    unfold prevOf
    rw [if_neg (by omega), Nat.add_sub_cancel]
    exact ha
  intro d
  induction d with
  | zero => intro i a b ha hb; exact next i a b ha hb
  | succ d ih =>
    intro i a b ha hb
    have hl := (List.getElem?_eq_some_iff.1 hb).1
    have hm : l[i + 1 + d]? = some l[i + 1 + d] := List.getElem?_eq_getElem (by omega)
    have k1 := ih i a _ ha hm
    have k2 := next (i + 1 + d) _ b hm (by rw [← hb]; congr 1)
    omega
theorem idx_of {l : List Ch} (h : (checkF l).2 = 0) {j : Nat} {c : Ch} {chan : Int} (hc : l[j]? = some c) (hid : c.id = chan) : idxF (fun c => decide (c.id = chan)) 0 l = (j : Int) := by
  rcases idxF_spec (fun c => decide (c.id = chan)) l 0 with ⟨_, hn⟩ | ⟨i, x, hi, hx, hpx, _⟩
  · have := hn c (List.mem_of_getElem? hc)
    exact absurd hid (of_decide_eq_false this)
  · have hx' : x.id = chan := of_decide_eq_true hpx
    rw [Nat.zero_add] at hi
    rw [hi]
    rcases Nat.lt_trichotomy i j with k | k | k
    · have := ids_inc h (j - i - 1) i x c hx (by rw [show i + 1 + (j - i - 1) = j by omega]; exact hc)
      omega
    · rw [k]
    · have := ids_inc h (i - j - 1) j c x hc (by rw [show j + 1 + (i - j - 1) = i by omega]; exact hx)
      omega

section
variable {w0 : World} {A A1 : Option Addr} {n n1 c c1 : Nat} {l : List Ch} {v : List Va} {chan tick : Int} {raw : ByteArray} {R : Value → World → Prop}
theorem r55_take_end (hl : SlR w0 A 7 (l.map Ch.row)) (hlen : l.length = n) (hv : SlR w0 A1 4 (v.map Va.row)) (hvlen : v.length = n1)
    (hsc : ∀ x ∈ l, SmC x) (hsm : ∀ x ∈ v, SmV x) (hr : SmS raw) (k1 : (checkF l).2 = 0) (k2 : fitsF l v = true) (k3 : vR raw = true) (hR : ∀ y w, TakeR (takeF l v chan tick raw) n1 w0.heap.size y w → R y w) {w : World} {at_ : Int} (hw : Below w0.heap.size w0 w)
    (hat : at_ = -1 ∧ (∀ c ∈ l, c.id ≠ chan) ∨ ∃ j c, at_ = ((j : Nat) : Int) ∧ l[j]? = some c ∧ c.id = chan) : F.garboardref55_Take.L6 A n c A1 n1 c1 at_ n chan tick raw w0.heap.size w R := by
  refine F.garboardref55_Take.L6.step _ _ _ _ _ _ _ _ _ _ _ _ _ _ ⟨fun h => absurd h (by omega), fun _ => ?_⟩
  rcases hat with ⟨rfl, hno⟩ | ⟨i, x, rfl, hx, hid⟩
  · have hi : idxF (fun c => decide (c.id = chan)) 0 l = -1 := by
      rcases idxF_spec (fun c => decide (c.id = chan)) l 0 with ⟨h, _⟩ | ⟨i, x, _, hx, hpx, _⟩
      · exact h
      · exact absurd (of_decide_eq_true hpx) (hno x (List.mem_of_getElem? hx))
    have e : takeF l v chan tick raw = .error 7 := by
      unfold takeF
      rw [if_pos ⟨k1, k2, k3⟩, hi]
      rfl
    refine ⟨fun _ => hR _ _ ?_, fun h => absurd (by omega) h⟩
    rw [e]
    rfl
  have hi := idx_of k1 hx hid
  obtain ⟨hfl, hfit⟩ := fitsF_at k2
  have hil : i < l.length := (List.getElem?_eq_some_iff.1 hx).1
  have hiv : i < v.length := by omega
  obtain ⟨u, hu⟩ : ∃ u, v[i]? = some u := ⟨v[i], by simp [hiv]⟩
  have fu := hfit i x u hx hu
  obtain ⟨hl16, hfa⟩ := check_valid k1
  obtain ⟨⟨v1, v2, v3, v4, v5⟩, _, _⟩ := fault_valid (hfa i x hx)
  have scx : SmC x := hsc x (List.mem_of_getElem? hx)
  have smu : SmV u := hsm u (List.mem_of_getElem? hu)
  have fu' : (0 ≤ u.tick ∧ u.tick ≤ 1073741824) ∧ vR u.num = true := by
    unfold fit1 at fu
    simp only [Bool.and_eq_true, decide_eq_true_eq] at fu
    exact ⟨fu.1.1.2, fu.1.2⟩
  have hT : takeF l v chan tick raw = if 0 ≤ tick ∧ tick ≤ 1073741824 then (if tick < u.tick then .error 5 else .ok (v.set i ⟨chan, tick, qualF x u (numberR x raw) tick, rS (numberR x raw)⟩)) else .error 2 := by
    have hi' : idxF (fun c => decide (c.id = chan)) 0 l = Int.ofNat i := hi
    unfold takeF
    rw [if_pos ⟨k1, k2, k3⟩, hi']
    simp only [hx, hu]
  rw [hT] at hR
  have eN : ((i : Int)).toNat = i := Int.toNat_natCast i
  refine ⟨fun h => absurd h (by omega), fun _ => Pure.mono (r55_tick _ _) ?_⟩
  rintro y w2 b2 rfl
  have hb2 := kP hw b2
  refine ⟨_, rfl, fun h => ?_, fun h => ?_⟩
  · have h' : ¬ (0 ≤ tick ∧ tick ≤ 1073741824) := of_decide_eq_false h
    refine hR _ _ ?_
    rw [if_neg h']
    rfl
  have k4 : 0 ≤ tick ∧ tick ≤ 1073741824 := by
    apply Decidable.byContradiction
    intro k
    exact h (decide_eq_false k)
  rw [if_pos k4] at hR
  obtain ⟨q1, a, hA, hrow⟩ := (hv.keep hb2 (Nat.le_refl _)).load (n := n1) (by simpa using hvlen) (j := (i : Int)) (by omega) (by omega)
  subst hA
  obtain ⟨_, hcell⟩ := hrow u.row (by rw [eN]; simp [hu]) rfl
  refine ⟨q1, a, rfl, _, hcell 1 _ rfl, fun h w3 _ => hR _ _ ?_, fun h w3 x3 => ?_⟩
  · rw [if_pos h]; rfl
  rw [if_neg h] at hR
  have hb3 := kE hb2 x3
  refine runOk_lit el_Vas [] (by simp) (by simp) hb3.size fun A2 c2 w4 o4 b4 => ?_
  have hb4 := kP hb3 b4
  have o4' : OwnR w4 w3.heap.size 46 A2 0 c2 4 [] := by simpa using o4
  refine app_rows el_Vas hb3.size o4' (hv.keep hb4 (Nat.le_refl _)) (by simpa using hvlen) rowV_len rowV_cell b4.size (by omega) (by decide) fun A3 c3 w5 o5 _ b5 => ?_
  have hb5 := hb4.trans b5
  simp only [Nat.zero_add, List.nil_append] at o5 ⊢
  have o5 := o5.base hb3.size
  obtain ⟨q2, a2, hA2, hrow2⟩ := (hl.keep hb5 (Nat.le_refl _)).load (n := n) (by simpa using hlen) (j := (i : Int)) (by omega) (by omega)
  obtain ⟨hcell2, _⟩ := hrow2 x.row (by rw [eN]; simp [hx]) rfl
  refine ⟨q2, a2, hA2, _, _, _, _, _, _, _, hcell2, ?_, ?_⟩
  all_goals
    intro w6 x6
    have hb6 := hb5.trans x6.below
    refine Pure.mono (r55_number scx hr v1 v2 k3) ?_
    rintro y w7 b7 ⟨bq, Aq, nq, cq, Aq', nq', cq', rfl, kq⟩
    have hb7 := kP hb6 b7
    refine ⟨_, _, _, _, _, _, _, rfl, fun w8 x8 => ?_⟩
    have hb8 := hb7.trans x8.below
    have kq8 := kq.ext x8 (by decide)
    have o8 := ((o5.extNil x6).below b7).extT x8 (by decide)
    obtain ⟨q3, a3, hA3, hrow3⟩ := (hl.keep hb8 (Nat.le_refl _)).load (n := n) (by simpa using hlen) (j := (i : Int)) (by omega) (by omega)
    obtain ⟨hcell3, _⟩ := hrow3 x.row (by rw [eN]; simp [hx]) rfl
    obtain ⟨q4, a4, hA4, hrow4⟩ := (hv.keep hb8 (Nat.le_refl _)).load (n := n1) (by simpa using hvlen) (j := (i : Int)) (by omega) (by omega)
    obtain ⟨hcell4, _⟩ := hrow4 u.row (by rw [eN]; simp [hu]) rfl
    refine ⟨q3, a3, hA3, _, _, _, _, _, _, _, hcell3, q4, a4, hA4, _, _, _, _, hcell4, fun w9 x9 => ?_⟩
    have hb9 := hb8.trans x9.below
    have kq9 := kq8.ext x9 (by decide)
    have sx : Sm 10000 (numberR x raw) := (numberR_sm scx v1 v2 hr k3).mono (by omega)
    refine Pure.mono (r55_quality scx ⟨v3, v4, v5⟩ smu fu'.2 fu'.1 kq9 sx k4) ?_
    rintro y w10 b10 rfl
    refine ⟨_, rfl, Pure.mono (ref3_To (kq9.below b10) (sx.mono (by omega))) ?_⟩
    rintro y w11 b11 rfl
    have o11 := ((o8.extNil x9).below b10).below b11
    obtain ⟨q5, a5, hA5, cs, d1, d2, d3, d4, d5⟩ := o11.set0 (i := (i : Int)) (by omega) (by omega) [.int .i64 chan, .int .i64 tick, .int .i64 (qualF x u (numberR x raw) tick), .string (rS (numberR x raw))] u.row (by rw [eN]; simp [hu]) rfl
    refine ⟨_, rfl, q5, a5, hA5, cs, _, d1, d2, d3, d4, rfl, fun w12 hw12 => hR _ _ ⟨A3, c3, rfl, ?_⟩⟩
    have o12 := d5 w12 hw12
    rw [eN] at o12
    have hflat : (List.map Va.row (v.set i ⟨chan, tick, qualF x u (numberR x raw) tick, rS (numberR x raw)⟩)) = (List.map Va.row v).set i [.int .i64 chan, .int .i64 tick, .int .i64 (qualF x u (numberR x raw) tick), .string (rS (numberR x raw))] := by
      rw [List.map_set]
    rw [hflat]
    exact o12
theorem r55_take_loop (hl : SlR w0 A 7 (l.map Ch.row)) (hlen : l.length = n) (hn : n < 2147483648) (hv : SlR w0 A1 4 (v.map Va.row)) (hvlen : v.length = n1)
    (hsc : ∀ x ∈ l, SmC x) (hsm : ∀ x ∈ v, SmV x) (hr : SmS raw) (k1 : (checkF l).2 = 0) (k2 : fitsF l v = true) (k3 : vR raw = true) (hR : ∀ y w, TakeR (takeF l v chan tick raw) n1 w0.heap.size y w → R y w) :
    ∀ (d i : Nat) (w : World) (at_ : Int), n - i = d → i ≤ n → Below w0.heap.size w0 w → (at_ = -1 ∧ (∀ c ∈ l.take i, c.id ≠ chan) ∨ ∃ j c, at_ = ((j : Nat) : Int) ∧ l[j]? = some c ∧ c.id = chan) →
      F.garboardref55_Take.L6 A n c A1 n1 c1 at_ i chan tick raw w0.heap.size w R := by
  intro d
  induction d with
  | zero =>
    intro i w at_ hd hi hw hat
    have : i = n := by omega
    subst this
    rw [List.take_of_length_le (by omega)] at hat
    exact r55_take_end hl hlen hv hvlen hsc hsm hr k1 k2 k3 hR hw hat
  | succ d ih =>
    intro i w at_ hd hi hw hat
    have hil : i < l.length := by omega
    have eN : ((i : Int)).toNat = i := Int.toNat_natCast i
    have e3 : (i : Int) + 1 = ((i + 1 : Nat) : Int) := by omega
    obtain ⟨q1, a, hA, hrow⟩ := (hl.keep hw (Nat.le_refl _)).load (n := n) (by simpa using hlen) (j := (i : Int)) (by omega) (by omega)
    obtain ⟨_, hcell⟩ := hrow l[i].row (by rw [eN]; simp [hil]) rfl
    have et : l.take (i + 1) = l.take i ++ [l[i]] := by rw [List.take_add_one, List.getElem?_eq_getElem hil]; rfl
    have hs : n - (i + 1) = d ∧ i + 1 ≤ n := by clear hat; omega
    refine F.garboardref55_Take.L6.step _ _ _ _ _ _ _ _ _ _ _ _ _ _ ⟨fun _ => ⟨q1, a, hA, _, hcell 0 _ rfl, fun h => ⟨by simp only [inR]; clear hat; omega, fun w2 x2 => ?_⟩, fun h => ⟨by simp only [inR]; clear hat; omega, fun w2 x2 => ?_⟩⟩, fun h => absurd h (by clear hat; omega)⟩
    · rw [e3]
      exact ih (i + 1) w2 _ hs.1 hs.2 (kE hw x2) (.inr ⟨i, l[i], rfl, List.getElem?_eq_getElem hil, h⟩)
    · rw [e3]
      refine ih (i + 1) w2 _ hs.1 hs.2 (kE hw x2) (hat.elim (fun k => .inl ⟨k.1, fun y hy => ?_⟩) .inr)
      rw [et, List.mem_append, List.mem_singleton] at hy
      rcases hy with hy | rfl
      · exact k.2 y hy
      · exact h
end
theorem r55_Take {w : World} {A A1 : Option Addr} {n n1 c c1 : Nat} {l : List Ch} {v : List Va} {chan tick : Int} {raw : ByteArray} (hl : SlR w A 7 (l.map Ch.row)) (hlen : l.length = n) (hv : SlR w A1 4 (v.map Va.row)) (hvlen : v.length = n1) (hn : n < 2147483648)
    (hsc : ∀ x ∈ l, SmC x) (hsm : ∀ x ∈ v, SmV x) (hr : SmS raw) :
    Pure Tryz.prog 24 #[.slice A n c, .slice A1 n1 c1, .agg #[.int .i64 chan, .int .i64 tick, .string raw]] w (TakeR (takeF l v chan tick raw) n1 w.heap.size) := by
  refine F.garboardref55_Take.vc _ _ _ _ _ _ _ _ _ _ _ fun w1 x1 => Pure.mono (r55_Check (hl.keep (k0 x1) (Nat.le_refl _)) hlen hsc) ?_
  have hb1 := k0 x1
  have bad : ¬ ((checkF l).2 = 0 ∧ fitsF l v = true ∧ vR raw = true) → takeF l v chan tick raw = .error 1 := fun h => by
    unfold takeF
    rw [if_neg h]
  rintro y w2 b2 rfl
  have hb2 := kP hb1 b2
  refine ⟨_, _, rfl, fun h => ?_, fun h => ?_⟩
  · rw [bad fun k => h k.1]
    rfl
  have k1 := Decidable.not_not.1 h
  refine Pure.mono (r55_Are (hl.keep hb2 (Nat.le_refl _)) hlen (hv.keep hb2 (Nat.le_refl _)) hvlen hn hsm) ?_
  rintro y w3 b3 rfl
  have hb3 := kP hb2 b3
  refine ⟨_, rfl, fun h => ?_, fun h => ?_⟩
  · rw [bad fun k => by rw [k.2.1] at h; cases h]
    rfl
  have k2 : fitsF l v = true := by simpa using h
  refine Pure.mono (ref3_Valid raw hr w3) ?_
  rintro y w4 b4 rfl
  have hb4 := kP hb3 b4
  refine ⟨_, rfl, fun h => ?_, fun h => ?_⟩
  · rw [bad fun k => by rw [k.2.2] at h; cases h]
    rfl
  have k3 : vR raw = true := by simpa using h
  exact r55_take_loop hl hlen hn hv hvlen hsc hsm hr k1 k2 k3 (fun _ _ h => h) n 0 w4 (-1) rfl (by omega) hb4 (.inl ⟨rfl, by simp⟩)
end Go.Proofs.YtdoailkigecmkaaGreatDoor.B

namespace Go.Proofs.YtdoailkigecmkaaGreatDoor.B
open Go Go.RowKit Go.Proofs Go.Proofs.YtdoailkigecmkaaGreatDoor.Vc

theorem el_Qs : El Tryz.prog 98 62 3 56 := El.of (by kernel_rfl)
theorem ext_low {B : Nat} {w w' : World} (x : Ext B [] w w') : Below w.heap.size w w' :=
  ⟨x.below.os, x.below.tape, x.below.output, x.below.size, fun k hk => by
    have h : w.heap[k]? = some w.heap[k] := Array.getElem?_eq_getElem hk
    rw [ext_nil x h, h]⟩

def QRow (w : World) (row : List Value) (x : Rat) : Prop := ∃ b A n c A' n' c', row = [.bool b, .slice A n c, .slice A' n' c'] ∧ IsQ w b A n c A' n' c' x
def QL (w : World) (rows : List (List Value)) (l : List Rat) : Prop := rows.length = l.length ∧ ∀ (i : Nat) (row : List Value) (x : Rat), rows[i]? = some row → l[i]? = some x → QRow w row x
theorem QRow.below {w w' : World} {row : List Value} {x : Rat} (h : QRow w row x) (hb : Below w.heap.size w w') : QRow w' row x := by
  obtain ⟨b, A, n, c, A', n', c', e, k⟩ := h
  exact ⟨b, A, n, c, A', n', c', e, k.below hb⟩
theorem QRow.three {w : World} {row : List Value} {x : Rat} (h : QRow w row x) : row.length = 3 ∧ ∀ u ∈ row, isCell u = true := by
  obtain ⟨b, A, n, c, A', n', c', rfl, k⟩ := h
  exact ⟨rfl, by simp [isCell]⟩
theorem QL.below {w w' : World} {rows : List (List Value)} {l : List Rat} (h : QL w rows l) (hb : Below w.heap.size w w') : QL w' rows l :=
  ⟨h.1, fun i row x h1 h2 => (h.2 i row x h1 h2).below hb⟩
theorem QL.nil {w : World} : QL w [] [] := ⟨rfl, fun i row x h => by simp at h⟩
theorem QL.one {w : World} {row : List Value} {x : Rat} (h : QRow w row x) : QL w [row] [x] := ⟨rfl, fun i r y h1 h2 => by
  cases i with
  | zero => simp at h1 h2; subst h1; subst h2; exact h
  | succ i => simp at h1⟩
theorem QL.append {w : World} {r1 r2 : List (List Value)} {l1 l2 : List Rat} (h1 : QL w r1 l1) (h2 : QL w r2 l2) : QL w (r1 ++ r2) (l1 ++ l2) := by
  refine ⟨by rw [List.length_append, List.length_append, h1.1, h2.1], fun i row x ha hb => ?_⟩
  by_cases h : i < r1.length
  · rw [List.getElem?_append_left h] at ha
    rw [List.getElem?_append_left (by rw [← h1.1]; exact h)] at hb
    exact h1.2 i row x ha hb
  · rw [List.getElem?_append_right (by omega)] at ha
    rw [List.getElem?_append_right (by rw [← h1.1]; omega), ← h1.1] at hb
    exact h2.2 _ row x ha hb
theorem QL.take {w : World} {rows : List (List Value)} {l : List Rat} (h : QL w rows l) (k : Nat) : QL w (rows.take k) (l.take k) := by
  refine ⟨by rw [List.length_take, List.length_take, h.1], fun i row x ha hb => ?_⟩
  rw [List.getElem?_take] at ha hb
  split at ha
  · rename_i hk
    rw [if_pos hk] at hb
    exact h.2 i row x ha hb
  · cases ha
theorem QL.drop {w : World} {rows : List (List Value)} {l : List Rat} (h : QL w rows l) (k : Nat) : QL w (rows.drop k) (l.drop k) := by
  refine ⟨by rw [List.length_drop, List.length_drop, h.1], fun i row x ha hb => ?_⟩
  rw [List.getElem?_drop] at ha hb
  exact h.2 _ row x ha hb
theorem QL.mem {w : World} {rows : List (List Value)} {l : List Rat} (h : QL w rows l) : ∀ r ∈ rows, ∃ x, QRow w r x := by
  intro r hr
  obtain ⟨i, hi, rfl⟩ := List.getElem_of_mem hr
  have hl : i < l.length := by rw [← h.1]; exact hi
  exact ⟨l[i], h.2 i _ _ (List.getElem?_eq_getElem hi) (List.getElem?_eq_getElem hl)⟩
theorem QL.len3 {w : World} {rows : List (List Value)} {l : List Rat} (h : QL w rows l) : ∀ r ∈ rows, r.length = 3 := fun r hr => by
  obtain ⟨x, hx⟩ := h.mem r hr
  exact hx.three.1
theorem QL.cell {w : World} {rows : List (List Value)} {l : List Rat} (h : QL w rows l) : ∀ r ∈ rows, ∀ u ∈ r, isCell u = true := fun r hr => by
  obtain ⟨x, hx⟩ := h.mem r hr
  exact hx.three.2

theorem SlR.take {w : World} {A : Option Addr} {sz : Nat} {rows : List (List Value)} (h : SlR w A sz rows) (k : Nat) : SlR w A sz (rows.take k) := by
  rcases h with h | ⟨b, off, cs, ty, fr, hA, hh, hc⟩
  · subst h; exact .inl (by simp)
  · refine .inr ⟨b, off, cs, ty, fr, hA, hh, fun i hi j hj => ?_⟩
    have hi' : i < rows.length := by rw [List.length_take] at hi; omega
    have e : (rows.take k)[i] = rows[i] := by simp
    have hj' : j < rows[i].length := by rw [← e]; exact hj
    have := hc i hi' j hj'
    simpa using this
theorem SlR.dropS {w : World} {A : Option Addr} {sz c : Nat} {rows : List (List Value)} (h : SlR w A sz rows) {k : Nat} (hc : rows.length ≤ c) : SlR w (cutAddr A k c sz) sz (rows.drop k) := by
  by_cases h0 : rows.length ≤ k
  · exact .inl (List.drop_eq_nil_of_le h0)
  rcases h with h | ⟨b, off, cs, ty, fr, hA, hh, hcell⟩
  · subst h; exact .inl (by simp)
  · refine .inr ⟨b, off + k * sz, cs, ty, fr, ?_, hh, fun i hi j hj => ?_⟩
    · unfold cutAddr
      rw [if_neg (by omega), hA, Option.map_some, add_plain0]
    · have hi' : k + i < rows.length := by rw [List.length_drop] at hi; omega
      have e : (rows.drop k)[i] = rows[k + i] := by simp
      have hj' : j < rows[k + i].length := by rw [← e]; exact hj
      have := hcell (k + i) hi' j hj'
      have ea : off + k * sz + i * sz + j = off + (k + i) * sz + j := by rw [Nat.add_mul]; omega
      rw [ea]
      simpa using this
theorem cut_none {A : Option Addr} {k c sz : Nat} (h : cutAddr A k c sz = none) : A = none := by
  unfold cutAddr at h
  split at h
  · exact h
  · cases A with
    | none => rfl
    | some a => cases h
theorem app_part {t ty e sz bytes : Nat} (el : El Tryz.prog t e sz bytes) {B0 B : Nat} (hBB : B0 ≤ B) {tys : List Nat} {w : World} {A : Option Addr} {n c : Nat} {rows : List (List Value)} (ho : OwnR w B e A n c sz rows)
    {A2 : Option Addr} {m c2 : Nat} {more : List (List Value)} (hsl : SlR w A2 sz more) (hm : more.length = m) (hms : ∀ r ∈ more, r.length = sz) (h1 : ∀ r ∈ more, ∀ u ∈ r, isCell u = true) (hz : A2 = none → c2 = 0)
    (hB : B ≤ w.heap.size) (hsz : (n + m) * (bytes + 1) ≤ 140737488355328) (ht : e ∉ tys) {K : Option Addr → Nat → Nat → World → Prop}
    (h : ∀ A' c' w2, OwnR w2 B e A' (n + m) c' sz (rows ++ more) → w.grownBy w2 (Value.ownBlock (.slice A n c)) → Below B w w2 → K A' (n + m) c' w2) :
    RunOk Tryz.prog (Builtin.append_ #[t, t] ty #[.slice A n c, .slice A2 m c2]) B0 tys w fun r w2 => ∃ A n c, r = .slice A n c ∧ K A n c w2 := by
  cases A2 with
  | some a =>
    refine app_rows el hBB ho hsl hm hms h1 hB hsz ht fun A' c' w2 k1 k2 k3 => h A' c' w2 k1 k2 ?_
    exact below_grown k2 (fun k hk => (ho.1.lt k hk).1) hB
  | none =>
    have := hsl.none_nil
    subst this
    have hm0 : m = 0 := by rw [← hm]; rfl
    subst hm0
    rw [hz rfl]
    obtain ⟨i, z, h2, h3, h4, h5, h6⟩ := el.info
    have hr := run_append_owned_none (P := Tryz.prog) (w := w) B t ty e i sz el.und h2 _ _ _ ho.1
    refine ⟨_, w, hr, Below.refl _ _, Nat.le_refl _, fun _ _ _ _ _ => rfl, A, n, c, rfl, ?_⟩
    exact h A c w (by rw [List.append_nil]; exact ho) ⟨rfl, rfl, rfl, Nat.le_refl _, fun _ _ _ => rfl⟩ (Below.refl _ _)

section
variable {w : World} {B s p n c i : Nat} {A : Option Addr} {rows : List (List Value)} {row : List Value} {l : List Rat} {x : Rat}
theorem put_end (hB : B ≤ w.heap.size) (hs : SlR w A 3 rows) (hlen : rows.length = n) (hnc : n ≤ c) (hn : n ≤ 1000) (hi : i ≤ n) (hq : QL w rows l) (hx : QRow w row x) (hz : A = none → c = 0) {Kf : Option Addr → Nat → Nat → World → Prop}
    (hK : ∀ A' c' w', OwnR w' B 62 A' (n + 1) c' 3 (rows.take i ++ row :: rows.drop i) → Below w.heap.size w w' → Kf A' (n + 1) c' w')
    {wx : World} (hb : Below w.heap.size w wx) {A2 AL : Option Addr} {c2 cL b1 : Nat} (hb1 : w.heap.size ≤ b1) (hbx : b1 ≤ wx.heap.size) (o2 : OwnR wx b1 62 A2 i c2 3 (rows.take i)) (hL : SlR wx AL 3 [row]) (hLn : AL ≠ none) :
    RunOk Tryz.prog (Builtin.append_ #[98, 98] 98 #[.slice A2 i c2, .slice AL 1 cL]) B [] wx fun r w93 => ∃ (A91 : Option Addr) (n91 c91 : Nat), r = .slice A91 n91 c91 ∧
      (RunOk Tryz.prog (Builtin.append_ #[98, 98] 98 #[.slice A91 n91 c91, .slice (cutAddr A i c 3) (n - i) (c - i)]) B [] w93 fun r w96 => ∃ A n c, r = .slice A n c ∧ Kf A n c w96) := by
  refine app_part el_Qs (m := 1) (Nat.le_trans hB hb1) o2 hL rfl (fun r hr => by rw [List.mem_singleton] at hr; subst hr; exact hx.three.1) (fun r hr => by rw [List.mem_singleton] at hr; subst hr; exact hx.three.2) (fun k => absurd k hLn) hbx (by omega) (by simp) fun A3 c3 w3 o3 _ b3 => ?_
  have hb3 := hb.trans (b3.mono hb1)
  refine app_part el_Qs (Nat.le_trans hB hb1) o3 ((hs.below hb3).dropS (c := c) (by omega)) (by rw [List.length_drop, hlen]) (hq.drop i).len3 (hq.drop i).cell (fun k => ?_) (Nat.le_trans hbx b3.size) (by omega) (by simp) fun A4 c4 w4 o4 _ b4 => ?_
  · have := hz (cut_none k); omega
  · have e : i + 1 + (n - i) = n + 1 := by omega
    rw [e] at o4 ⊢
    refine hK A4 c4 w4 ?_ (hb3.trans (b4.mono hb1))
    rw [List.append_assoc] at o4
    exact o4.base (Nat.le_trans hB hb1)

theorem stA {K : Option Addr → Nat → Nat → World → Prop} (hB : B ≤ w.heap.size) (h : ∀ A1 c1 w2, OwnR w2 w.heap.size 62 A1 0 c1 3 [] → Below w.heap.size w w2 → K A1 0 c1 w2) :
    RunOk Tryz.prog (Instr.buildSlice 98 0 #[]) B [] w fun r w1 => ∃ A n c, r = .slice A n c ∧ K A n c w1 :=
  runOk_lit el_Qs [] (by simp) (by simp) hB fun A c w2 o b => h A c w2 (by simpa using o) b
theorem stB {K : Option Addr → Nat → Nat → World → Prop} (hB : B ≤ w.heap.size) (hs : SlR w A 3 rows) (hlen : rows.length = n) (hn : n ≤ 1000) (hi : i ≤ n) (hq : QL w rows l) (hz : A = none → c = 0)
    {wx : World} (hb : Below w.heap.size w wx) {b1 : Nat} (hb1 : w.heap.size ≤ b1) (hbx : b1 ≤ wx.heap.size) {A1 : Option Addr} {c1 : Nat} (o1 : OwnR wx b1 62 A1 0 c1 3 [])
    (h : ∀ A2 c2 w2, OwnR w2 b1 62 A2 i c2 3 (rows.take i) → wx.grownBy w2 (Value.ownBlock (.slice A1 0 c1)) → Below b1 wx w2 → Below w.heap.size w w2 → K A2 i c2 w2) :
    RunOk Tryz.prog (Builtin.append_ #[98, 98] 98 #[.slice A1 0 c1, .slice A i c]) B [] wx fun r w1 => ∃ A n c, r = .slice A n c ∧ K A n c w1 := by
  refine app_part el_Qs (Nat.le_trans hB hb1) o1 ((hs.below hb).take i) (by rw [List.length_take]; omega) (hq.take i).len3 (hq.take i).cell hz hbx (by omega) (by simp) fun A2 c2 w2 o2 g2 b2 => ?_
  rw [Nat.zero_add] at o2 ⊢
  exact h A2 c2 w2 (by simpa using o2) g2 b2 (hb.trans (b2.mono hb1))
theorem stD {K : Option Addr → Nat → Nat → World → Prop} {b : Bool} {A8 A9 : Option Addr} {n8 c8 n9 c9 : Nat} (hB : B ≤ w.heap.size) {wx : World} (hb : Below w.heap.size w wx)
    (h : ∀ AL cL w2, OwnR w2 wx.heap.size 62 AL 1 cL 3 [[.bool b, .slice A8 n8 c8, .slice A9 n9 c9]] → AL ≠ none → Below wx.heap.size wx w2 → Below w.heap.size w w2 → K AL 1 cL w2) :
    RunOk Tryz.prog (Instr.buildSlice 98 1 #[(0, .agg #[.bool b, .slice A8 n8 c8, .slice A9 n9 c9])]) B [] wx fun r w1 => ∃ A n c, r = .slice A n c ∧ K A n c w1 := by
  refine runOk_lit el_Qs [.agg #[.bool b, .slice A8 n8 c8, .slice A9 n9 c9]] (fun u hu => by rw [List.mem_singleton] at hu; subst hu; rfl) (by simp) (Nat.le_trans hB hb.size) fun A c w2 o b => h A c w2 o (fun k => ?_) b (hb.trans (b.mono hb.size))
  subst k
  have := o.sl.none_nil
  simp at this

theorem vote_put {A0 : Option Addr} {n0 c0 : Nat} {sl : ByteArray} {i0 : Int} {R : Value → World → Prop} (hB : B ≤ w.heap.size) (hs : SlR w A 3 rows) (hlen : rows.length = n) (hnc : n ≤ c) (hn : n ≤ 1000) (hi : i ≤ n) (hq : QL w rows l) (hx : QRow w row x) (hz : A = none → c = 0)
    (hbox : w.heap[p]? = some (.cells row.toArray 62 (0, 0)))
    (hK : ∀ A' c' w', OwnR w' B 62 A' (n + 1) c' 3 (rows.take i ++ row :: rows.drop i) → Below w.heap.size w w' → inR .i64 (i0 + 1) ∧ F.garboardref55_Vote.L12 A0 n0 c0 sl A' (n + 1) c' (i0 + 1) B w' R) :
    F.garboardref55_Vote.J18 A0 n0 c0 sl A n c i0 ⟨p, 0, none⟩ i B w R := by
  have eN : ((i : Int)).toNat = i := Int.toNat_natCast i
  have hx0 := hx
  obtain ⟨b, A8, n8, c8, A9, n9, c9, rfl, hxq⟩ := hx
  have box : ∀ w', Below w.heap.size w w' → CellsAt w' ⟨p, 0, none⟩ [.bool b, .slice A8 n8 c8, .slice A9 n9 c9] := fun w' hb => box_all (heap_keep hbox hb)
  -- an own row that is there stays when another grows
  have keep : ∀ {w1 w2 : World} {b1 : Nat} {A1 AL : Option Addr} {n1 c1 nL cL : Nat} {rL : List (List Value)}, OwnR w1 b1 62 AL nL cL 3 rL → w1.grownBy w2 (Value.ownBlock (.slice A1 n1 c1)) → (∀ a, A1 = some a → a.block < b1) → OwnR w2 b1 62 AL nL cL 3 rL := by
    intro w1 w2 b1 A1 AL n1 c1 nL cL rL hL hg hlt
    refine hL.other fun a ha => hg.block a.block (hL.blk a ha).2 fun k => ?_
    have h2 := (hL.blk a ha).1
    cases A1 with
    | none => cases k
    | some a1 =>
      have h3 := hlt a1 rfl
      have : a.block = a1.block := by
        simp only [Value.ownBlock] at k
        first | exact Option.some.inj k | exact (Option.some.inj k).symm
      omega
  refine F.garboardref55_Vote.J18.step _ _ _ _ _ _ _ _ _ _ _ _ _ ⟨⟨by omega, by omega⟩, ⟨by omega, by omega, by omega⟩, ?_, ?_⟩
  all_goals rw [eN]
  · intro w1 x1
    have hb1 := ext_low x1
    refine stA (Nat.le_trans hB hb1.size) fun A1 c1 w2 o1 b2 => ?_
    have hb2 := hb1.trans (b2.mono hb1.size)
    refine ⟨?_, _, _, _, _, _, _, _, box w2 hb2, ?_, ?_⟩
    · refine stB hB hs hlen hn hi hq hz hb2 hb1.size b2.size o1 fun A2 c2 w3 o2 g3 b3 hb3 => ⟨_, _, _, _, _, _, _, box w3 hb3, ?_⟩
      refine stD hB hb3 fun AL cL w4 oL hne b4 hb4 => ?_
      exact put_end hB hs hlen hnc hn hi hq hx0 hz hK hb4 hb1.size (Nat.le_trans (Nat.le_trans b2.size b3.size) b4.size) (o2.below b4) oL.sl hne
    · refine stB hB hs hlen hn hi hq hz hb2 hb1.size b2.size o1 fun A2 c2 w3 o2 g3 b3 hb3 => ?_
      refine stD hB hb3 fun AL cL w4 oL hne b4 hb4 => ?_
      exact put_end hB hs hlen hnc hn hi hq hx0 hz hK hb4 hb1.size (Nat.le_trans (Nat.le_trans b2.size b3.size) b4.size) (o2.below b4) oL.sl hne
    · refine stD hB hb2 fun AL cL w3 oL hne b3 hb3 => ?_
      refine stB hB hs hlen hn hi hq hz hb3 hb1.size (Nat.le_trans b2.size b3.size) (o1.below b3) fun A2 c2 w4 o2 g4 b4 hb4 => ?_
      exact put_end hB hs hlen hnc hn hi hq hx0 hz hK hb4 hb1.size (Nat.le_trans (Nat.le_trans b2.size b3.size) b4.size) o2 (keep oL g4 fun a ha => (o1.blk a ha).2).sl hne
  · intro w1 x1
    have hb1 := ext_low x1
    refine ⟨_, _, _, _, _, _, _, box w1 hb1, ?_, ?_⟩
    · refine stA (Nat.le_trans hB hb1.size) fun A1 c1 w2 o1 b2 => ?_
      have hb2 := hb1.trans (b2.mono hb1.size)
      refine ⟨?_, ?_⟩
      · refine stB hB hs hlen hn hi hq hz hb2 hb1.size b2.size o1 fun A2 c2 w3 o2 g3 b3 hb3 => ?_
        refine stD hB hb3 fun AL cL w4 oL hne b4 hb4 => ?_
        exact put_end hB hs hlen hnc hn hi hq hx0 hz hK hb4 hb1.size (Nat.le_trans (Nat.le_trans b2.size b3.size) b4.size) (o2.below b4) oL.sl hne
      · refine stD hB hb2 fun AL cL w3 oL hne b3 hb3 => ?_
        refine stB hB hs hlen hn hi hq hz hb3 hb1.size (Nat.le_trans b2.size b3.size) (o1.below b3) fun A2 c2 w4 o2 g4 b4 hb4 => ?_
        exact put_end hB hs hlen hnc hn hi hq hx0 hz hK hb4 hb1.size (Nat.le_trans (Nat.le_trans b2.size b3.size) b4.size) o2 (keep oL g4 fun a ha => (o1.blk a ha).2).sl hne
    · refine stD hB hb1 fun AL cL w2 oL hne b2 hb2 => ?_
      refine stA (Nat.le_trans hB hb2.size) fun A1 c1 w3 o1 b3 => ?_
      have hb3 := hb2.trans (b3.mono hb2.size)
      refine stB hB hs hlen hn hi hq hz hb3 hb2.size b3.size o1 fun A2 c2 w4 o2 g4 b4 hb4 => ?_
      exact put_end hB hs hlen hnc hn hi hq hx0 hz hK hb4 hb2.size (Nat.le_trans b3.size b4.size) o2 (oL.sl.below (b3.trans b4)) hne

theorem vote_scan {A0 : Option Addr} {n0 c0 : Nat} {sl : ByteArray} {i0 : Int} {R : Value → World → Prop} (hB : B ≤ w.heap.size) (hs : SlR w A 3 rows) (hlen : rows.length = n) (hnc : n ≤ c) (hn : n ≤ 1000) (hq : QL w rows l) (hx : QRow w row x) (hz : A = none → c = 0)
    (hsl : ∀ r ∈ l, Sm 1000 r) (hsx : Sm 1000 x)
    (hbox : w.heap[p]? = some (.cells row.toArray 62 (0, 0)))
    (hK : ∀ A' c' w' rows', OwnR w' B 62 A' (n + 1) c' 3 rows' → QL w' rows' (ins x l) → Below w.heap.size w w' → inR .i64 (i0 + 1) ∧ F.garboardref55_Vote.L12 A0 n0 c0 sl A' (n + 1) c' (i0 + 1) B w' R) :
    ∀ (d i : Nat) (w' : World), n - i = d → i ≤ n → Below w.heap.size w w' → (∀ k a, k < i → l[k]? = some a → a < x) → F.garboardref55_Vote.L16 A0 n0 c0 sl A n c i0 ⟨p, 0, none⟩ i B w' R := by
  have put : ∀ (i : Nat) (w' : World), i ≤ n → Below w.heap.size w w' → lb x l = i → F.garboardref55_Vote.J18 A0 n0 c0 sl A n c i0 ⟨p, 0, none⟩ i B w' R := fun i w' hi hb he => by
    refine vote_put (Nat.le_trans hB hb.size) (hs.below hb) hlen hnc hn hi (hq.below hb) (hx.below hb) hz (heap_keep hbox hb) fun A' c' w2 o b2 => ?_
    have hb2 := hb.trans (b2.mono hb.size)
    refine hK A' c' w2 _ o ?_ hb2
    unfold ins
    rw [he]
    exact ((hq.below hb2).take i).append ((QL.one (hx.below hb2)).append ((hq.below hb2).drop i))
  have hql : l.length = n := by rw [← hq.1, hlen]
  intro d
  induction d with
  | zero =>
    intro i w' hd hi hb hlow
    have : i = n := by omega
    subst this
    refine F.garboardref55_Vote.L16.step _ _ _ _ _ _ _ _ _ _ _ _ _ ⟨fun h => absurd h (by omega), fun _ w2 x2 => ?_⟩
    refine put i w2 hi (hb.trans ((ext_low x2).mono hb.size)) (lb_eq (by omega) hlow fun a ha => ?_)
    rw [List.getElem?_eq_none (by omega)] at ha
    cases ha
  | succ d ih =>
    intro i w' hd hi hb hlow
    have hil : i < l.length := by omega
    have hir : i < rows.length := by omega
    have hx' := hx.below hb
    have hr := (hq.below hb).2 i _ _ (List.getElem?_eq_getElem hir) (List.getElem?_eq_getElem hil)
    obtain ⟨hbd, a, hA, hrow⟩ := (hs.below hb).load (n := n) hlen (j := (i : Int)) (by omega) (by omega)
    obtain ⟨hcell, _⟩ := hrow rows[i] (by rw [Int.toNat_natCast]; exact List.getElem?_eq_getElem hir) hr.three.1
    obtain ⟨b1, A1, n1, c1, A1', n1', c1', e1, k1⟩ := hr
    obtain ⟨b2, A2, n2, c2, A2', n2', c2', e2, k2⟩ := hx'
    rw [e1] at hcell
    have hbx := box_all (heap_keep hbox hb)
    rw [e2] at hbx
    refine F.garboardref55_Vote.L16.step _ _ _ _ _ _ _ _ _ _ _ _ _ ⟨fun _ => ⟨hbd, a, hA, _, _, _, _, _, _, _, hcell, _, _, _, _, _, _, _, hbx, fun w2 x2 => ?_⟩, fun h => absurd (by omega) h⟩
    have l2 := ext_low x2
    have hb2 := hb.trans (l2.mono hb.size)
    refine Pure.mono (ref3_Less (k1.below l2) (k2.below l2) ((hsl _ (List.getElem_mem _)).mono (by omega)) (hsx.mono (by omega))) ?_
    rintro v w3 b3 rfl
    have hb3 := hb2.trans (b3.mono hb2.size)
    have e3 : (i : Int) + 1 = ((i + 1 : Nat) : Int) := by omega
    refine ⟨_, rfl, fun h => ⟨by simp only [inR]; omega, ?_⟩, fun h => ?_⟩
    · rw [e3]
      refine ih (i + 1) w3 (by omega) (by omega) hb3 fun k a hk ha => ?_
      by_cases hki : k < i
      · exact hlow k a hki ha
      · have : k = i := by omega
        subst this
        rw [List.getElem?_eq_getElem hil] at ha
        cases ha
        exact of_decide_eq_true h
    · refine put i w3 hi hb3 (lb_eq (by omega) hlow fun a ha => ?_)
      rw [List.getElem?_eq_getElem hil] at ha
      cases ha
      exact of_decide_eq_false h

theorem vote_near {tol : ByteArray} (st : SmS tol) (vt : vR tol = true) {m : Rat} {bm : Bool} {Am Am' : Option Addr} {nm cm nm' cm' : Nat} {R : Value → World → Prop} {r : Bool} (hB : B ≤ w.heap.size) (hs : SlR w A 3 rows) (hlen : rows.length = n) (hn : n ≤ 1000) (hq : QL w rows l) (hm : IsQ w bm Am nm cm Am' nm' cm' m)
    (hsl : ∀ r ∈ l, Sm 1000 r) (hsm : Sm 1000 m) (hR : ∀ w', R (.tuple #[.string (rS m), .bool r, .int .i64 0]) w') :
    ∀ (d i : Nat) (w' : World), n - i = d → i ≤ n → Below w.heap.size w w' → r = !((l.drop i).any fun x => decide (qR tol < absR (x - m))) → F.garboardref55_Vote.L23 tol A n c i bm Am nm cm Am' nm' cm' B w' R := by
  have hql : l.length = n := by rw [← hq.1, hlen]
  intro d
  induction d with
  | zero =>
    intro i w' hd hi hb hr
    rw [List.drop_eq_nil_of_le (by omega)] at hr
    refine F.garboardref55_Vote.L23.step _ _ _ _ _ _ _ _ _ _ _ _ _ _ _ ⟨fun h => absurd h (by omega), fun _ => Pure.mono (ref3_To (hm.below hb) (hsm.mono (by omega))) ?_⟩
    rintro v w2 _ rfl
    refine ⟨_, rfl, ?_⟩
    have := hR w2
    rwa [hr] at this
  | succ d ih =>
    intro i w' hd hi hb hr
    have hil : i < l.length := by omega
    have hir : i < rows.length := by omega
    have hrw := (hq.below hb).2 i _ _ (List.getElem?_eq_getElem hir) (List.getElem?_eq_getElem hil)
    rw [List.drop_eq_getElem_cons hil, List.any_cons] at hr
    obtain ⟨hbd, a, hA, hrow⟩ := (hs.below hb).load (n := n) hlen (j := (i : Int)) (by omega) (by omega)
    obtain ⟨hcell, _⟩ := hrow rows[i] (by rw [Int.toNat_natCast]; exact List.getElem?_eq_getElem hir) hrw.three.1
    obtain ⟨b1, A1, n1, c1, A1', n1', c1', e1, k1⟩ := hrw
    rw [e1] at hcell
    refine F.garboardref55_Vote.L23.step _ _ _ _ _ _ _ _ _ _ _ _ _ _ _ ⟨fun _ => ⟨hbd, a, hA, _, _, _, _, _, _, _, hcell, fun w2 x2 => ?_⟩, fun h => absurd (by omega) h⟩
    have l2 := ext_low x2
    have hb2 := hb.trans (l2.mono hb.size)
    refine Pure.mono (r55_num st vt w2) ?_
    rintro v w3 b3 ⟨bt, At, nt, ct, At', nt', ct', rfl, kt⟩
    have hb3 := hb2.trans (b3.mono hb2.size)
    have sx : Sm 1000 l[i] := hsl _ (List.getElem_mem _)
    have s2 : Sm 20000 (l[i] - m) := (sx.sub hsm).mono (by omega)
    refine ⟨_, _, _, _, _, _, _, rfl, Pure.mono (ref3_Sub ((k1.below l2).below b3) (hm.below hb3) (sx.mono (by omega)) (hsm.mono (by omega))) ?_⟩
    rintro v w4 b4 ⟨bs, As, ns, cs, As', ns', cs', rfl, ks⟩
    have hb4 := hb3.trans (b4.mono hb3.size)
    refine ⟨_, _, _, _, _, _, _, rfl, Pure.mono (r55_size ks) ?_⟩
    rintro v w5 b5 ⟨bz, Az, nz, cz, Az', nz', cz', rfl, kz⟩
    have hb5 := hb4.trans (b5.mono hb4.size)
    refine ⟨_, _, _, _, _, _, _, rfl, Pure.mono (ref3_Less ((kt.below b4).below b5) kz ((vR_sm vt st).mono (by omega)) (s2.abs.mono (by omega))) ?_⟩
    rintro v w6 b6 rfl
    have hb6 := hb5.trans (b6.mono hb5.size)
    have e3 : (i : Int) + 1 = ((i + 1 : Nat) : Int) := by omega
    refine ⟨_, rfl, fun h => Pure.mono (ref3_To (hm.below hb6) (hsm.mono (by omega))) ?_, fun h => ⟨by simp only [inR]; omega, ?_⟩⟩
    · rintro v w7 _ rfl
      refine ⟨_, rfl, ?_⟩
      have := hR w7
      rw [h, Bool.true_or] at hr
      rwa [hr] at this
    · rw [e3]
      refine ih (i + 1) w6 (by omega) (by omega) hb6 ?_
      rw [h, Bool.false_or] at hr
      exact hr
end

theorem r55_vote_loop {w0 : World} {A : Option Addr} {n c : Nat} {v : List Va} (hv : SlR w0 A 4 (v.map Va.row)) (hlen : v.length = n) (hn : n ≤ 16) (hsm : ∀ x ∈ v, SmV x) (hval : ∀ x ∈ v, vR x.num = true) {tol : ByteArray} (st : SmS tol) (vt : vR tol = true)
    {R : Value → World → Prop}
    (hR : ∀ w, R (match midF v with | none => .tuple #[.string ⟨#[]⟩, .bool false, .int .i64 9] | some m => .tuple #[.string (rS m), .bool (!((srtF v).any fun x => decide (qR tol < absR (x - m)))), .int .i64 0]) w) :
    ∀ (d i : Nat) (w : World) (A' : Option Addr) (n' c' : Nat) (rows : List (List Value)), n - i = d → i ≤ n → Below w0.heap.size w0 w → SlR w A' 3 rows → rows.length = n' → n' ≤ c' → (A' = none → c' = 0) → QL w rows (srtF (v.take i)) →
      F.garboardref55_Vote.L12 A n c tol A' n' c' i w0.heap.size w R := by
  have hsm' : ∀ x ∈ v, Sm 1000 (qR x.num) := fun x hx => vR_sm (hval x hx) (hsm x hx)
  have hbig : ∀ i, ∀ r ∈ srtF (v.take i), Sm 1000 r := fun i r hr => by
    obtain ⟨x, hx, _, rfl⟩ := mem_srtF hr
    exact hsm' x (List.mem_of_mem_take hx)
  intro d
  induction d with
  | zero =>
    intro i w A' n' c' rows hd hi hw hs hrl hnc hz hq
    have : i = n := by omega
    subst this
    have hb0 := hbig i
    rw [List.take_of_length_le (by omega)] at hq hb0
    have hl : (srtF v).length = n' := by rw [← hq.1, hrl]
    have hl2 : n' ≤ 16 := by
      have := srtF_len v []
      simp only [List.length_nil] at this
      unfold srtF at hl
      omega
    refine F.garboardref55_Vote.L12.step _ _ _ _ _ _ _ _ _ _ _ ⟨fun h => absurd h (by omega), fun _ => ⟨fun h => ?_, fun h => ?_⟩⟩
    · have e : midF v = none := by
        unfold midF
        rw [List.getElem?_eq_none (by omega)]
      have := hR w
      rwa [e] at this
    · have hm : ((srtF v).length - 1) / 2 < (srtF v).length := by omega
      obtain ⟨m, hm1⟩ : ∃ m, midF v = some m := ⟨_, List.getElem?_eq_getElem hm⟩
      have hmem : m ∈ srtF v := List.mem_of_getElem? hm1
      have eJ : ((n' : Int) - 1) / 2 = (((n' - 1) / 2 : Nat) : Int) := by omega
      have hir : (n' - 1) / 2 < rows.length := by omega
      have hrw := hq.2 ((n' - 1) / 2) _ m (List.getElem?_eq_getElem hir) (by
        unfold midF at hm1
        rw [hl] at hm1
        exact hm1)
      obtain ⟨hb, a, hA, hrow⟩ := hs.load (n := n') hrl (j := ((n' : Int) - 1) / 2) (by omega) (by omega)
      obtain ⟨hcell, _⟩ := hrow rows[(n' - 1) / 2] (by rw [eJ, Int.toNat_natCast]; exact List.getElem?_eq_getElem hir) hrw.three.1
      obtain ⟨b1, A1, n1, c1, A1', n1', c1', e1, k1⟩ := hrw
      rw [e1] at hcell
      refine ⟨by simp only [inR]; omega, ⟨by omega, by omega, by simp only [inR]; omega⟩, hb, a, hA, _, _, _, _, _, _, _, hcell, fun w2 x2 => ?_⟩
      have l2 := ext_low x2
      refine vote_near (w := w2) (l := srtF v) (r := !((srtF v).any fun x => decide (qR tol < absR (x - m)))) st vt (Nat.le_trans hw.size l2.size) (hs.below l2) hrl (by omega) (hq.below l2) (k1.below l2) hb0 (hb0 m hmem) (fun w' => ?_) n' 0 w2 rfl (by omega) (Below.refl _ _) (by simp)
      have := hR w'
      rwa [hm1] at this
  | succ d ih =>
    intro i w A' n' c' rows hd hi hw hs hrl hnc hz hq
    have hiv : i < v.length := by omega
    have hl : (srtF (v.take i)).length = n' := by rw [← hq.1, hrl]
    have hl2 : n' ≤ i := by
      have := srtF_len (v.take i) []
      simp only [List.length_nil, List.length_take] at this
      unfold srtF at hl
      omega
    have mv : v[i] ∈ v := List.getElem_mem _
    have eN : ((i : Int)).toNat = i := Int.toNat_natCast i
    obtain ⟨hb, a, hA, hrow⟩ := (hv.keep hw (Nat.le_refl _)).load (n := n) (by simpa using hlen) (j := (i : Int)) (by omega) (by omega)
    obtain ⟨_, hcell⟩ := hrow v[i].row (by rw [eN]; simp [hiv]) rfl
    have e3 : (i : Int) + 1 = ((i + 1 : Nat) : Int) := by omega
    refine F.garboardref55_Vote.L12.step _ _ _ _ _ _ _ _ _ _ _ ⟨fun _ => ⟨hb, a, hA, _, hcell 2 _ rfl, fun hq1 => ⟨by simp only [inR]; omega, ?_⟩, fun hq1 => ⟨hb, a, hA, _, hcell 3 _ rfl, ?_⟩⟩, fun h => absurd (by omega) h⟩
    · rw [e3]
      refine ih (i + 1) w A' n' c' rows (by omega) (by omega) hw hs hrl hnc hz ?_
      rw [srtF_take v hiv, stepF, if_neg hq1]
      exact hq
    · have hq1 : v[i].qual = 1 := Decidable.not_not.1 hq1
      refine Pure.mono (r55_num (hsm _ mv) (hval _ mv) w) ?_
      rintro y w2 b2 ⟨bx, Ax, nx, cx, Ax', nx', cx', rfl, kx⟩
      have hb2 := kP hw b2
      refine ⟨_, _, _, _, _, _, _, rfl, ?_⟩
      refine runOk_alloc _ (z := .agg #[.bool false, .slice none 0 0, .slice none 0 0]) (by kernel_rfl) hb2.size fun w3 h3 b3 hlt3 => ?_
      have hb3 := kP hb2 b3
      refine ⟨[.bool false, .slice none 0 0, .slice none 0 0], _, hb2.size, rfl, h3, by simp, rfl, fun w4 hw4 => ?_⟩
      have h4 : w4.heap[w2.heap.size]? = some (.cells [.bool bx, .slice Ax nx cx, .slice Ax' nx' cx'].toArray 62 (0, 0)) := hw4.at_
      have b4 : Below w2.heap.size w2 w4 := b3.trans (Wrote.belowR hw4 (Nat.le_refl _))
      have hb4 := kP hb2 b4
      have b24 := b2.trans (b4.mono b2.size)
      refine vote_scan (w := w4) (l := srtF (v.take i)) (x := qR v[i].num) hb4.size (hs.below b24) hrl hnc (by omega) (hq.below b24) ⟨bx, Ax, nx, cx, Ax', nx', cx', rfl, kx.below b4⟩ hz (hbig i) (hsm' _ mv) h4 (fun A3 c3 w5 rows' o5 q5 b5 => ⟨by simp only [inR]; omega, ?_⟩) n' 0 w4 rfl (by omega) (Below.refl _ _) (fun k a hk => absurd hk (by omega))
      rw [e3]
      refine ih (i + 1) w5 A3 (n' + 1) c3 rows' (by omega) (by omega) (kP hb4 b5) o5.sl o5.len o5.len_le (fun k => ?_) ?_
      · subst k
        have := o5.sl.none_nil
        subst this
        have := o5.len
        simp at this
      · rw [srtF_take v hiv, stepF, if_pos hq1]
        exact q5

theorem r55_vote_valid {w0 : World} {A : Option Addr} {n c : Nat} {v : List Va} (hv : SlR w0 A 4 (v.map Va.row)) (hlen : v.length = n) (hn : n < 2147483648) (hsm : ∀ x ∈ v, SmV x) {tol : ByteArray} (st : SmS tol) {R : Value → World → Prop}
    (hR : ∀ w, R (.tuple #[.string (voteF v tol).1, .bool (voteF v tol).2.1, .int .i64 (voteF v tol).2.2]) w) :
    ∀ (d i : Nat) (w : World) (ok : Bool), n - i = d → i ≤ n → Below w0.heap.size w0 w → ok = (vR tol && !((v.take i).any fun x => !vR x.num)) →
      F.garboardref55_Vote.L3 A n c tol ok i w0.heap.size w R := by
  have bad : ¬ (vR tol = true ∧ ¬ qR tol < 0 ∧ (v.any fun x => !vR x.num) = false) → voteF v tol = (⟨#[]⟩, false, 1) := fun h => by
    unfold voteF
    rw [if_neg h]
  intro d
  induction d with
  | zero =>
    intro i w ok hd hi hw hok
    have : i = n := by omega
    subst this
    rw [List.take_of_length_le (by omega)] at hok
    refine F.garboardref55_Vote.L3.step _ _ _ _ _ _ _ _ _ ⟨fun h => absurd h (by omega), fun _ => ⟨fun h => ?_, fun h => ?_⟩⟩
    · have := hR w
      rw [bad fun k => by rw [h, k.1, k.2.2] at hok; cases hok] at this
      exact this
    have hok' : ok = true := by simpa using h
    rw [hok'] at hok
    have hok2 := hok.symm
    rw [Bool.and_eq_true] at hok2
    obtain ⟨vt, hno⟩ := hok2
    have k1 : (v.any fun x => !vR x.num) = false := by simpa using hno
    refine Pure.mono (r55_num st vt w) ?_
    rintro y w2 b2 ⟨bt, At, nt, ct, At', nt', ct', rfl, kt⟩
    have hb2 := kP hw b2
    refine ⟨_, _, _, _, _, _, _, rfl, Pure.mono (ref3_Sign kt) ?_⟩
    rintro y w3 b3 rfl
    have hb3 := kP hb2 b3
    refine ⟨_, rfl, fun h => ?_, fun h => ?_⟩
    · rw [cmpR_lt] at h
      have := hR w3
      rw [bad fun k => k.2.1 h] at this
      exact this
    rw [cmpR_lt] at h
    have good : voteF v tol = if 16 < v.length then ((⟨#[]⟩, false, 8) : ByteArray × Bool × Int) else match midF v with
        | none => ((⟨#[]⟩, false, 9) : ByteArray × Bool × Int)
        | some m => (rS m, !((srtF v).any fun x => decide (qR tol < absR (x - m))), 0) := by
      exact if_pos ⟨vt, h, k1⟩
    rw [good] at hR
    refine ⟨fun h5 => ?_, fun h5 => ?_⟩
    · have := hR w3
      rwa [if_pos (by omega)] at this
    rw [if_neg (by omega)] at hR
    have hval : ∀ x ∈ v, vR x.num = true := fun x hx => by
      have := List.any_eq_false.1 k1 x hx
      simpa using this
    refine r55_vote_loop hv hlen (by omega) hsm hval st vt (fun w' => ?_) i 0 w3 none 0 0 [] rfl (by omega) hb3 (.inl rfl) rfl (Nat.le_refl _) (fun _ => rfl) QL.nil
    have := hR w'
    cases hm : midF v with
    | none => rw [hm] at this; exact this
    | some m => rw [hm] at this; exact this
  | succ d ih =>
    intro i w ok hd hi hw hok
    have hiv : i < v.length := by omega
    have mv : v[i] ∈ v := List.getElem_mem _
    have eN : ((i : Int)).toNat = i := Int.toNat_natCast i
    have e3 : (i : Int) + 1 = ((i + 1 : Nat) : Int) := by omega
    have et : (v.take (i + 1)).any (fun x => !vR x.num) = ((v.take i).any (fun x => !vR x.num) || !vR v[i].num) := by
      rw [List.take_add_one, List.getElem?_eq_getElem hiv, List.any_append]
      simp
    obtain ⟨hb, a, hA, hrow⟩ := (hv.keep hw (Nat.le_refl _)).load (n := n) (by simpa using hlen) (j := (i : Int)) (by omega) (by omega)
    obtain ⟨_, hcell⟩ := hrow v[i].row (by rw [eN]; simp [hiv]) rfl
    refine F.garboardref55_Vote.L3.step _ _ _ _ _ _ _ _ _ ⟨fun _ => ⟨fun h => ⟨hb, a, hA, _, hcell 3 _ rfl, Pure.mono (ref3_Valid v[i].num (hsm _ mv) w) ?_⟩, fun h => ⟨by simp only [inR]; omega, ?_⟩⟩, fun h => absurd (by omega) h⟩
    · rintro y w2 b2 rfl
      refine ⟨_, rfl, by simp only [inR]; omega, ?_⟩
      rw [e3]
      refine ih (i + 1) w2 _ (by omega) (by omega) (kP hw b2) ?_
      rw [et]
      rw [h] at hok
      have hok2 := hok.symm
      rw [Bool.and_eq_true] at hok2
      rw [hok2.1]
      have : ((v.take i).any fun x => !vR x.num) = false := by simpa using hok2.2
      rw [this]
      simp
    · rw [e3]
      refine ih (i + 1) w false (by omega) (by omega) hw ?_
      rw [et]
      rw [h] at hok
      rw [Bool.not_or, ← Bool.and_assoc, ← hok, Bool.false_and]
theorem r55_Vote {w : World} {A : Option Addr} {n c : Nat} {v : List Va} (hv : SlR w A 4 (v.map Va.row)) (hlen : v.length = n) (hn : n < 2147483648) (hsm : ∀ x ∈ v, SmV x) {tol : ByteArray} (st : SmS tol) :
    Pure Tryz.prog 28 #[.slice A n c, .string tol] w fun y _ => y = .tuple #[.string (voteF v tol).1, .bool (voteF v tol).2.1, .int .i64 (voteF v tol).2.2] := by
  refine F.garboardref55_Vote.vc _ _ _ _ _ _ (Pure.mono (ref3_Valid tol st w) ?_)
  rintro y w2 b2 rfl
  exact ⟨_, rfl, r55_vote_valid hv hlen hn hsm st (fun _ => rfl) n 0 w2 _ rfl (by omega) b2 (by simp)⟩
end Go.Proofs.YtdoailkigecmkaaGreatDoor.B

namespace Go.Proofs.YtdoailkigecmkaaGreatDoor.B
open Go Go.RowKit Go.Proofs Go.Proofs.YtdoailkigecmkaaGreatDoor.Vc

theorem start_any {l : List Ch} {n B : Nat} {v : Value} {w' : World} (hlen : l.length = n) (h : (¬ (checkF l).2 = 0 → v = .tuple #[.slice none 0 0, .int .i64 1]) ∧ ((checkF l).2 = 0 → ∃ A' c', v = .tuple #[.slice A' n c', .int .i64 0] ∧ OwnR w' B 46 A' n c' 4 ((startF l).map Va.row))) :
    ∃ A' n' c', v = .tuple #[.slice A' n' c', .int .i64 (if (checkF l).2 = 0 then 0 else 1)] ∧ SlR w' A' 4 ((if (checkF l).2 = 0 then startF l else []).map Va.row) ∧ (if (checkF l).2 = 0 then startF l else []).length = n' := by
  by_cases h0 : (checkF l).2 = 0
  · obtain ⟨A', c', e, o⟩ := h.2 h0
    rw [if_pos h0, if_pos h0]
    exact ⟨A', n, c', e, o.sl, by simp [startF, hlen]⟩
  · rw [if_neg h0, if_neg h0]
    exact ⟨none, 0, 0, h.1 h0, .inl rfl, rfl⟩

theorem law_SensorChecks {w : World} (hg : Glob w) {A : Option Addr} {n c : Nat} {l : List Ch} (hl : SlR w A 7 (l.map Ch.row)) (hlen : l.length = n) (hn : n < 9223372036854775808) {raw : ByteArray} :
    Pure Tryz.prog 3 #[.slice A n c, .string raw] w fun y _ => y = .bool true := by
  refine F.garboardlaw55_SensorChecks.vc _ _ _ _ _ _ fun w1 x1 => Pure.mono (law_awake (hg.next (k0 x1))) ?_
  have hb1 := k0 x1
  rintro y w2 b2 rfl
  have hb2 := kP hb1 b2
  refine ⟨_, rfl, fun h => (by cases h), fun _ => Pure.mono (ref_Few (l := l) (v := []) (hl.keep hb2 (Nat.le_refl _)) (.inl rfl) hlen rfl hn (by omega)) ?_⟩
  rintro y w3 b3 rfl
  have hb3 := kP hb2 b3
  refine ⟨_, rfl, fun _ => rfl, fun hf => ⟨fun _ => rfl, fun h40 => ?_⟩⟩
  have hf' : fewF l [] = true := by simpa using hf
  obtain ⟨⟨h17, _⟩, hsc, _⟩ := few_val hf'
  have hr : SmS raw := by unfold SmS; omega
  refine Pure.mono (CloneC (hl.keep hb3 (Nat.le_refl _)) (by simpa using hlen) rowC_len' rowC_cell (by omega)) ?_
  rintro y w4 b4 ⟨A4, c4, rfl, o4⟩
  have hb4 := kP hb3 b4
  refine ⟨_, _, _, rfl, Pure.mono (sensor_Check (hg.next hb4) o4.sl hlen hsc) ?_⟩
  rintro y w5 b5 rfl
  have hb5 := kP hb4 b5
  refine ⟨_, _, rfl, Pure.mono (r55_Check (hl.keep hb5 (Nat.le_refl _)) hlen hsc) ?_⟩
  rintro y w6 b6 rfl
  have hb6 := kP hb5 b6
  refine ⟨_, _, rfl, Pure.mono (CloneC (hl.keep hb6 (Nat.le_refl _)) (by simpa using hlen) rowC_len' rowC_cell (by omega)) ?_⟩
  rintro y w7 b7 ⟨A7, c7, rfl, o7⟩
  have hb7 := kP hb6 b7
  refine ⟨_, _, _, rfl, Pure.mono (sensor_Start (hg.next hb7) o7.sl hlen hsc) ?_⟩
  rintro y w8 b8 k8
  have hb8 := kP hb7 b8
  obtain ⟨A8, n8, c8, rfl, s8, l8⟩ := start_any hlen k8
  refine ⟨_, _, _, _, rfl, Pure.mono (r55_Start (hl.keep hb8 (Nat.le_refl _)) hlen hsc) ?_⟩
  rintro y w9 b9 k9
  have hb9 := kP hb8 b9
  obtain ⟨A9, n9, c9, rfl, s9, l9⟩ := start_any hlen k9
  have hn8 : n8 ≤ 17 := by
    rw [← l8]
    split
    · simp [startF]; omega
    · simp
  have e9 : n9 = n8 := by rw [← l8, ← l9]
  subst e9
  refine ⟨_, _, _, _, rfl, fun h => absurd rfl h, fun _ => ⟨fun h => absurd rfl h, fun _ => Pure.mono (r55_Same (s8.below b9) s9 l8 (by omega)) ?_⟩⟩
  rintro y w10 b10 rfl
  have hb10 := kP hb9 b10
  refine ⟨_, rfl, fun h => (by cases h), fun _ => ⟨fun h => absurd rfl h, fun _ p hp hbox => ?_⟩⟩
  refine Pure.mono (ContainsCh (l := l) (p := fun _ => false) (hl.keep hb10 (Nat.le_refl _)) hlen (by omega) (by kernel_rfl) fun w' hb' x hx => ?_) ?_
  · have hbw := kP hb10 hb'
    have box' := heap_keep hbox hb'
    refine F.garboardlaw55_SensorChecks_c1.vc _ _ _ _ _ _ _ _ _ _ fun w11 x11 => ⟨_, box_cell0 (ext_nil x11 box') rfl, ?_⟩
    have l11 := k0 x11
    have hb11 := kP hbw l11
    refine Pure.mono (sensor_Number (hg.next hb11) (hsc x hx) hr) ?_
    rintro y w12 b12 rfl
    refine ⟨_, _, rfl, _, box_cell0 (heap_keep (ext_nil x11 box') b12) rfl, Pure.mono (r55_Number (hsc x hx) hr) ?_⟩
    rintro y w13 b13 rfl
    refine ⟨_, _, rfl, fun h => absurd rfl h, fun _ => ?_⟩
    simp
  · rintro y w11 _ rfl
    refine ⟨_, rfl, ?_⟩
    simp
end Go.Proofs.YtdoailkigecmkaaGreatDoor.B

namespace Go.Proofs.YtdoailkigecmkaaGreatDoor.B
set_option maxRecDepth 100000
open Go Go.RowKit Go.Proofs Go.Proofs.YtdoailkigecmkaaGreatDoor.Vc Go.ChangeShapes Go.WideShapes Go.Deep

theorem own : ownKnob Tryz.prog.godebug = none := by kernel_rfl
theorem laidOut : laidOutB Tryz.prog = true := by kernel_rfl

section
variable {H : Type} {enc : TypeId × Value → H} {P : Program}

theorem below_trodAll (hl : laidOutB P = true) {W W' : World} (hb : Below W.heap.size W W') : ∀ {ts : List TypeId} {vs : List Value} {ds : List (DataW H)} {ps : List MemPlace},
    (∀ t ∈ ts, P.readableRec t = true ∧ t < P.types.size) → DataW.TrodAll enc P W 0 (fun _ => true) true ts vs ds ps → (∀ x ∈ ps, x.block < W.heap.size) → DataW.TrodAll enc P W' 0 (fun b => decide (b < W.heap.size)) true ts vs ds ps
  | [], _, _, _, _, h, _ => by
    obtain ⟨rfl, rfl, rfl⟩ := trodAll_nil h
    exact trodAll_mk0
  | t :: ts, _, _, _, ht, h, hlt => by
    obtain ⟨v, vs1, d, ds1, a, b, rfl, rfl, rfl, h1, h2⟩ := trodAll_cons h
    exact trodAll_cons_mk (Below.trod hl (ht t (by simp)).1 (ht t (by simp)).2 h1 hb (fun x hx => hlt x (by simp [hx])))
      (below_trodAll hl hb (fun u hu => ht u (by simp [hu])) h2 (fun x hx => hlt x (by simp [hx])))

theorem law_post {f : Func} {fid : FuncId} {s : ChangeSpec} {W : World} {args : Array Value} {ds gs : List (DataW H)} {before : List MemPlace} (hl : laidOutB P = true) (hW : DataW.Whole enc P f.params.toList s.vars false W args.toList ds gs before)
    (hvars : s.vars = []) {tb : TypeId} (hres : f.resultTypes = #[tb]) (htb : P.underlying tb = some .bool) (hrec : ∀ t ∈ f.params.toList, P.readableRec t = true ∧ t < P.types.size)
    (hs : s.fn H (ds ++ gs) = { results := [.lit (.bool true)], args := ds }) (key : Pure P fid args W fun y _ => y = .bool true) :
    Calls P fid args W fun e W' => ∃ v, e = .returned v ∧ s.post enc P f false true false false W args v W' := by
  refine Calls.mono key fun e W' ⟨v, he, hb, hy⟩ => ⟨v, he, ?_⟩
  subst hy
  have hlt := hW.lt
  have hW' := hW
  obtain ⟨p, q, hA, hV, rfl, _, _⟩ := hW
  rw [hvars] at hV
  obtain ⟨rfl, rfl⟩ := trodVars_none hV
  simp only [List.append_nil] at hlt hW'
  refine ⟨ds, _, _, [], p, [], hW', ?_, ?_, ?_, hb.frame _, fun h => by cases h⟩
  · rw [hs, hres]
    exact trodAll_cons_mk (shut_bool htb _) trodAll_mk0
  · rw [hs]
    exact below_trodAll hl hb hrec hA hlt
  · rw [hs, hvars]
    rfl

theorem open_slice_fields {w : World} {base : Nat} {spare : Nat → Bool} {held : Bool} {t e : TypeId} {fs : Array Field} {fuel : Nat} {cs : List Value} {x : DataW H × List MemPlace} (ht : P.underlying t = some (.slice e)) (he : P.underlying e = some (.struct fs))
    (hone : oneCellFields P fs = true) (hC : P.cellsOf e = fs.size) (h : DataW.trod enc P w base spare held fuel t cs = some x) :
    (cs = [.slice none 0 0]) ∨
    ∃ (a : Addr) (len cap : Nat), cs = [.slice (some a) len cap] ∧ len ≤ cap ∧ cap ≤ maxLen ∧
      ∀ i, i < len → ∃ (n : Nat), ∀ (j : Nat) (f : Field), fs[j]? = some f → ∃ (v : Value) (y : DataW H × List MemPlace), w.cell? (a.add (i * fs.size + j)) = some v ∧ DataW.trod enc P w base spare held n f.type [v] = some y := by
  rcases open_slice ht h with h0 | ⟨a, len, cap, m, n, D, Pl, hcs, hb, hl, hm, hmm, hx, hi⟩
  · exact .inl h0.1
  · refine .inr ⟨a, len, cap, hcs, hl, hm, fun i hlen => ?_⟩
    have him : i < m := by
      rw [hmm]
      split <;> omega
    obtain ⟨cs', hc, ht'⟩ := hi i him
    rw [hC] at hc
    obtain ⟨ys, n', hn', hy, hlen, hyl, hf⟩ := DataW.trod_struct he ht'
    obtain ⟨_, hcl, hat⟩ := World.cells?_some hc
    refine ⟨n', fun j f hj => ?_⟩
    obtain ⟨ho, hk⟩ := hone_of hone j f hj
    have hjl : j < fs.size := (Array.getElem?_eq_some_iff.1 hj).1
    have hcell := hat j hjl
    have hv : cs'[j]? = some (cs'[j]'(by omega)) := List.getElem?_eq_getElem (by omega)
    have h1 := hf j f hj
    rw [ho, hk] at h1
    have hone' : (cs'.drop j).take 1 = [cs'[j]'(by omega)] := by
      rw [List.drop_eq_getElem_cons (by omega)]
      rfl
    rw [hone'] at h1
    have hys : ys[j]? = some (ys[j]'(by omega)) := List.getElem?_eq_getElem (by omega)
    refine ⟨_, _, ?_, h1.trans hys⟩
    rw [← Go.Deep.add_add, hcell, hv]
end

theorem slR_of_cells {w : World} {a : Addr} {sz : Nat} (hsz : 0 < sz) {rows : List (List Value)} (hl : ∀ r ∈ rows, r.length = sz) (h : ∀ i, (hi : i < rows.length) → ∀ j, (hj : j < rows[i].length) → w.cell? (a.add (i * sz + j)) = some (rows[i][j])) : SlR w (some a) sz rows := by
  by_cases h0 : rows = []
  · exact .inl h0
  right
  have hp : 0 < rows.length := List.length_pos_iff.2 h0
  have hl0 : rows[0].length = sz := hl _ (List.getElem_mem _)
  have c0 := h 0 hp 0 (by omega)
  have hspot : a.spot = none := by simpa [Addr.add] using World.cell?_spot c0
  obtain ⟨b, off, spot⟩ := a
  simp only at hspot
  subst hspot
  have hadd : ∀ k, (⟨b, off, none⟩ : Addr).add k = ⟨b, off + k, none⟩ := fun k => add_plain0 b off k
  rw [hadd] at c0
  cases hh : w.heap[b]? with
  | none => simp [World.cell?, hh] at c0
  | some o =>
    cases o with
    | cells cs ty fr =>
      refine ⟨b, off, cs, ty, fr, rfl, hh, fun i hi j hj => ⟨hl _ (List.getElem_mem _), ?_⟩⟩
      have := h i hi j hj
      rw [hadd] at this
      simpa [World.cell?, hh, Nat.add_assoc] using this
    | _ => simp [World.cell?, hh] at c0

instance : Inhabited Va := ⟨⟨0, 0, 0, ⟨#[]⟩⟩⟩
instance : Inhabited Ch := ⟨⟨0, ⟨#[]⟩, ⟨#[]⟩, ⟨#[]⟩, ⟨#[]⟩, ⟨#[]⟩, ⟨#[]⟩⟩⟩
instance : Inhabited Sa := ⟨⟨0, 0, ⟨#[]⟩⟩⟩

theorem open_list {α : Type} [Inhabited α] {row : α → List Value} {sz : Nat} (hsz : 0 < sz) (hrow : ∀ x, (row x).length = sz) {H : Type} {enc : TypeId × Value → H} {w : World} {base b0 : Nat} {spare : Nat → Bool} {held : Bool} {r : Reach} {t e : TypeId} {fs : Array Field} (ht : Tryz.prog.underlying t = some (.slice e)) (he : Tryz.prog.underlying e = some (.struct fs))
    (hone : oneCellFields Tryz.prog fs = true) (hC : Tryz.prog.cellsOf e = fs.size) (hfs : fs.size = sz)
    (hx : ∀ (a : Addr) (n : Nat), (∀ (j : Nat) (f : Field), fs[j]? = some f → ∃ (v : Value) (y : DataW H × List MemPlace), w.cell? (a.add j) = some v ∧ DataW.trod enc Tryz.prog w base spare held n f.type [v] = some y) → ∃ x : α, ∀ j, (hj : j < (row x).length) → w.cell? (a.add j) = some ((row x)[j]))
    {v : Value} {d : DataW H} {p : List MemPlace} (hv : Value.okWide Tryz.prog w r b0 t v) (h : DataW.Trod enc Tryz.prog w base spare held t v d p) :
    ∃ (A : Option Addr) (n c : Nat) (l : List α), v = .slice A n c ∧ SlR w A sz (l.map row) ∧ l.length = n ∧ n < 9223372036854775808 := by
  obtain ⟨a0, len, cap, rfl⟩ := okWide_slice ht hv
  obtain ⟨fuel, hf⟩ := h
  rcases open_slice_fields ht he hone hC hf with hcs | ⟨a, len', cap', hcs, hl, hm, hi⟩
  · simp [Value.cells] at hcs
    obtain ⟨rfl, rfl, rfl⟩ := hcs
    exact ⟨none, 0, 0, [], rfl, .inl rfl, rfl, by omega⟩
  · simp [Value.cells] at hcs
    obtain ⟨rfl, rfl, rfl⟩ := hcs
    rw [hfs] at hi
    obtain ⟨g, hg⟩ := choose_lt (α := α) (n := len) (p := fun i x => ∀ j, (hj : j < (row x).length) → w.cell? (a.add (i * sz + j)) = some ((row x)[j])) fun i hilt => by
      obtain ⟨n, hn⟩ := hi i hilt
      obtain ⟨x, hx⟩ := hx (a.add (i * sz)) n fun j f hj => by
        obtain ⟨v, y, h1, h2⟩ := hn j f hj
        exact ⟨v, y, by rw [Go.Deep.add_add]; exact h1, h2⟩
      exact ⟨x, fun j hj => by rw [← Go.Deep.add_add]; exact hx j hj⟩
    refine ⟨some a, len, cap, (List.range len).map g, rfl, slR_of_cells hsz (fun r hr => ?_) (fun i hi2 j hj => ?_), by simp, by unfold maxLen at hm; omega⟩
    · obtain ⟨x, _, rfl⟩ := List.mem_map.1 hr
      exact hrow x
    · simp at hi2
      simp only [List.getElem_map, List.getElem_range] at hj ⊢
      exact hg i hi2 j hj

theorem int_cell {H : Type} {enc : TypeId × Value → H} {w : World} {base : Nat} {spare : Nat → Bool} {held : Bool} {n : Nat} {a : Addr} {t : TypeId} (ht : Tryz.prog.underlying t = some (.int .i64)) (h : ∃ (v : Value) (y : DataW H × List MemPlace), w.cell? a = some v ∧ DataW.trod enc Tryz.prog w base spare held n t [v] = some y) : ∃ z, w.cell? a = some (.int .i64 z) := by
  obtain ⟨v, y, h1, h2⟩ := h
  obtain ⟨z, hz, _⟩ := DataW.trod_int ht h2
  cases hz
  exact ⟨z, h1⟩
theorem str_cell {H : Type} {enc : TypeId × Value → H} {w : World} {base : Nat} {spare : Nat → Bool} {held : Bool} {n : Nat} {a : Addr} {t : TypeId} (ht : Tryz.prog.underlying t = some .string) (h : ∃ (v : Value) (y : DataW H × List MemPlace), w.cell? a = some v ∧ DataW.trod enc Tryz.prog w base spare held n t [v] = some y) : ∃ s, w.cell? a = some (.string s) := by
  obtain ⟨v, y, h1, h2⟩ := h
  obtain ⟨s, hs, _⟩ := DataW.trod_string ht h2
  cases hs
  exact ⟨s, h1⟩
theorem u_Rat : Tryz.prog.underlying 23 = some .string := by kernel_rfl
theorem u_int : Tryz.prog.underlying 3 = some (.int .i64) := by kernel_rfl
theorem u_str : Tryz.prog.underlying 9 = some .string := by kernel_rfl

theorem open_values {H : Type} {enc : TypeId × Value → H} {w : World} {base b0 : Nat} {spare : Nat → Bool} {held : Bool} {r : Reach} {v : Value} {d : DataW H} {p : List MemPlace} (hv : Value.okWide Tryz.prog w r b0 32 v) (h : DataW.Trod enc Tryz.prog w base spare held 32 v d p) :
    ∃ (A : Option Addr) (n c : Nat) (l : List Va), v = .slice A n c ∧ SlR w A 4 (l.map Va.row) ∧ l.length = n ∧ n < 9223372036854775808 := by
  refine open_list (sz := 4) (row := Va.row) (by omega) (fun _ => rfl) Tryz.underlying32 Tryz.underlying46 (by kernel_rfl) (by kernel_rfl) rfl (fun a n hf => ?_) hv h
  obtain ⟨z0, h0⟩ := int_cell u_int (hf 0 _ rfl)
  obtain ⟨z1, h1⟩ := int_cell u_int (hf 1 _ rfl)
  obtain ⟨z2, h2⟩ := int_cell u_int (hf 2 _ rfl)
  obtain ⟨s3, h3⟩ := str_cell u_Rat (hf 3 _ rfl)
  refine ⟨⟨z0, z1, z2, s3⟩, fun j hj => ?_⟩
  match j, hj with
  | 0, _ => exact h0
  | 1, _ => exact h1
  | 2, _ => exact h2
  | 3, _ => exact h3
theorem open_channels {H : Type} {enc : TypeId × Value → H} {w : World} {base b0 : Nat} {spare : Nat → Bool} {held : Bool} {r : Reach} {v : Value} {d : DataW H} {p : List MemPlace} (hv : Value.okWide Tryz.prog w r b0 22 v) (h : DataW.Trod enc Tryz.prog w base spare held 22 v d p) :
    ∃ (A : Option Addr) (n c : Nat) (l : List Ch), v = .slice A n c ∧ SlR w A 7 (l.map Ch.row) ∧ l.length = n ∧ n < 9223372036854775808 := by
  refine open_list (sz := 7) (row := Ch.row) (by omega) (fun _ => rfl) Tryz.underlying22 Tryz.underlying31 (by kernel_rfl) (by kernel_rfl) rfl (fun a n hf => ?_) hv h
  obtain ⟨z0, h0⟩ := int_cell u_int (hf 0 _ rfl)
  obtain ⟨s1, h1⟩ := str_cell u_str (hf 1 _ rfl)
  obtain ⟨s2, h2⟩ := str_cell u_Rat (hf 2 _ rfl)
  obtain ⟨s3, h3⟩ := str_cell u_Rat (hf 3 _ rfl)
  obtain ⟨s4, h4⟩ := str_cell u_Rat (hf 4 _ rfl)
  obtain ⟨s5, h5⟩ := str_cell u_Rat (hf 5 _ rfl)
  obtain ⟨s6, h6⟩ := str_cell u_Rat (hf 6 _ rfl)
  refine ⟨⟨z0, s1, s2, s3, s4, s5, s6⟩, fun j hj => ?_⟩
  match j, hj with
  | 0, _ => exact h0
  | 1, _ => exact h1
  | 2, _ => exact h2
  | 3, _ => exact h3
  | 4, _ => exact h4
  | 5, _ => exact h5
  | 6, _ => exact h6
end Go.Proofs.YtdoailkigecmkaaGreatDoor.B

namespace Go.Proofs.YtdoailkigecmkaaGreatDoor.B
open Go Go.RowKit Go.Proofs Go.Proofs.YtdoailkigecmkaaGreatDoor.Vc Go.ChangeShapes Go.WideShapes Go.Deep Go.ChangeAt
set_option maxRecDepth 100000

noncomputable def laidWorld (os : Os) : World :=
  let N := (World.settled Tryz.prog os).heap.size
  let w0 := World.holding Tryz.prog os ⟨#[.cells #[.string ⟨#[118, 97, 108, 117, 101, 32, 111, 117, 116, 32, 111, 102, 32, 114, 97, 110, 103, 101]⟩] 265, .cells #[.string ⟨#[105, 110, 118, 97, 108, 105, 100, 32, 115, 121, 110, 116, 97, 120]⟩] 265], #[], []⟩
  let put (h : Array Obj) (g : Nat) (cs : Array Value) : Array Obj := h.modify g fun
    | .cells _ t frozen => .cells cs t frozen
    | o => o
  let h0 := put (put w0.heap 5 #[.iface 263 (.pointer (some ⟨N, 0, none⟩))]) 4 #[.iface 263 (.pointer (some ⟨N + 1, 0, none⟩))]
  let h1 := put h0 2 #[.int .u8 0, .int .u8 1, .int .u8 28, .int .u8 2, .int .u8 29, .int .u8 14, .int .u8 24, .int .u8 3, .int .u8 30, .int .u8 22, .int .u8 20, .int .u8 15, .int .u8 25, .int .u8 17, .int .u8 4, .int .u8 8, .int .u8 31, .int .u8 27, .int .u8 13, .int .u8 23, .int .u8 21, .int .u8 19, .int .u8 16, .int .u8 7, .int .u8 26, .int .u8 12, .int .u8 18, .int .u8 6, .int .u8 11, .int .u8 5, .int .u8 10, .int .u8 9]
  let h2 := put h1 3 #[.int .u8 0, .int .u8 1, .int .u8 56, .int .u8 2, .int .u8 57, .int .u8 49, .int .u8 28, .int .u8 3, .int .u8 61, .int .u8 58, .int .u8 42, .int .u8 50, .int .u8 38, .int .u8 29, .int .u8 17, .int .u8 4, .int .u8 62, .int .u8 47, .int .u8 59, .int .u8 36, .int .u8 45, .int .u8 43, .int .u8 51, .int .u8 22, .int .u8 53, .int .u8 39, .int .u8 33, .int .u8 30, .int .u8 24, .int .u8 18, .int .u8 12, .int .u8 5, .int .u8 63, .int .u8 55, .int .u8 48, .int .u8 27, .int .u8 60, .int .u8 41, .int .u8 37, .int .u8 16, .int .u8 46, .int .u8 35, .int .u8 44, .int .u8 21, .int .u8 52, .int .u8 32, .int .u8 23, .int .u8 11, .int .u8 54, .int .u8 26, .int .u8 40, .int .u8 15, .int .u8 34, .int .u8 20, .int .u8 31, .int .u8 10, .int .u8 25, .int .u8 14, .int .u8 19, .int .u8 9, .int .u8 13, .int .u8 8, .int .u8 7, .int .u8 6]
  let h3 := put h2 1 (Lib.pow10Tab.map fun z => Value.int .u64 z).toArray
  { w0 with heap := h3 }

noncomputable abbrev N0 : Nat := (World.settled Tryz.prog default).heap.size
theorem laid_met (os : Os) (args : Array Value) : laidMet Tryz.prog Rows.sensorOlderRow.laid ((laidWorld os).forCall (fun _ _ => 0) ⟨#[], args, []⟩).memory :=
  (LaidIn.of_run (l := Rows.sensorOlderRow.laid) [2, 3, 1, 5, 4, N0, N0 + 1] 8 (by kernel_rfl) (by kernel_rfl) (by kernel_rfl) (by kernel_rfl)).met

theorem world_vars (os : Os) (args : Array Value) : ((laidWorld os).forCall (fun _ _ => 0) ⟨#[], args, []⟩).variablesRefB Tryz.prog = true := by kernel_rfl
theorem world_rest (os : Os) (args : Array Value) : (((laidWorld os).forCall (fun _ _ => 0) ⟨#[], args, []⟩).heap.toList.drop Tryz.prog.globals.size).take ((begin Tryz.prog (fun _ _ => 0) default).world.heap.size - Tryz.prog.globals.size) =
      (begin Tryz.prog (fun _ _ => 0) default).world.heap.toList.drop Tryz.prog.globals.size := by kernel_rfl

theorem glob_of {W : World} (hL : laidMet Tryz.prog Rows.sensorOlderRow.laid W) (hS : W.ShapedOpen Tryz.prog) : Glob W :=
  ⟨Lib.tabIs_of_head (zs := Lib.pow10Tab) (g := 1) (t := 226) (e := 132) (n := 20) g_pow10 (by kernel_rfl) (by kernel_rfl) (by kernel_rfl) (by kernel_rfl) (by kernel_rfl) hL.tail.tail,
   cell_of_shapedOpen_int (g := 0) (t := 3) (zero := #[.int .i64 0]) hS (of_decide_eq_true (by kernel_rfl)) (by kernel_rfl) rfl (by kernel_rfl) (by kernel_rfl) (by kernel_rfl)⟩
theorem open_sample {H : Type} {enc : TypeId × Value → H} {w : World} {base b0 : Nat} {spare : Nat → Bool} {held : Bool} {v : Value} {d : DataW H} {p : List MemPlace} (hv : Value.okWide Tryz.prog w .any b0 42 v) (h : DataW.Trod enc Tryz.prog w base spare held 42 v d p) :
    ∃ (x0 x1 : Int) (s : ByteArray), v = .agg #[.int .i64 x0, .int .i64 x1, .string s] := by
  obtain ⟨v0, v1, v2, y0, y1, y2, n, rfl, _, _, h0, h1, h2⟩ := Go.Joins.open_agg3 Tryz.underlying42 (by kernel_rfl) (by kernel_rfl) hv h
  obtain ⟨z0, e0, _⟩ := DataW.trod_int u_int h0
  obtain ⟨z1, e1, _⟩ := DataW.trod_int u_int h1
  obtain ⟨s2, e2, _⟩ := DataW.trod_string u_Rat h2
  cases e0; cases e1; cases e2
  exact ⟨z0, z1, s2, rfl⟩
end Go.Proofs.YtdoailkigecmkaaGreatDoor.B

namespace Go.Proofs.YtdoailkigecmkaaGreatDoor.B
open Go Go.RowKit Go.Proofs Go.Proofs.YtdoailkigecmkaaGreatDoor.Vc

def errOf : Except Int (List Va) → Int
  | .error e => e
  | .ok _ => 0
def okOf : Except Int (List Va) → List Va
  | .error _ => []
  | .ok v => v
theorem take_two {r : Except Int (List Va)} {n B : Nat} {y : Value} {w : World} (h : TakeR r n B y w) : ∃ A' n' c', y = .tuple #[.slice A' n' c', .int .i64 (errOf r)] ∧ SlR w A' 4 ((okOf r).map Va.row) ∧ (okOf r).length = n' := by
  cases r with
  | error e => exact ⟨none, 0, 0, h, .inl rfl, rfl⟩
  | ok v =>
    obtain ⟨A, c, e, o⟩ := h
    exact ⟨A, n, c, e, o.sl, by have := o.len; rw [List.length_map] at this; exact this⟩
theorem okOf_len {l : List Ch} {v : List Va} {chan tick : Int} {raw : ByteArray} : (okOf (takeF l v chan tick raw)).length ≤ v.length := by
  unfold takeF
  split
  · split
    · simp [okOf]
    · split
      · split
        · split <;> simp [okOf]
        · simp [okOf]
      · simp [okOf]
  · simp [okOf]

theorem law_SensorTakes {w : World} (hg : Glob w) {A A1 : Option Addr} {n c n1 c1 : Nat} {l : List Ch} {v : List Va} (hl : SlR w A 7 (l.map Ch.row)) (hlen : l.length = n) (hn : n < 9223372036854775808) (hv : SlR w A1 4 (v.map Va.row)) (hvlen : v.length = n1) (hn1 : n1 < 9223372036854775808) {chan tick : Int} {raw : ByteArray} :
    Pure Tryz.prog 4 #[.slice A n c, .slice A1 n1 c1, .agg #[.int .i64 chan, .int .i64 tick, .string raw]] w fun y _ => y = .bool true := by
  refine F.garboardlaw55_SensorTakes.vc _ _ _ _ _ _ _ _ _ _ _ fun w1 x1 => Pure.mono (law_awake (hg.next (k0 x1))) ?_
  have hb1 := k0 x1
  rintro y w2 b2 rfl
  have hb2 := kP hb1 b2
  refine ⟨_, rfl, fun h => (by cases h), fun _ => Pure.mono (ref_Few (l := l) (v := v) (hl.keep hb2 (Nat.le_refl _)) (hv.keep hb2 (Nat.le_refl _)) hlen hvlen hn hn1) ?_⟩
  rintro y w3 b3 rfl
  have hb3 := kP hb2 b3
  refine ⟨_, rfl, fun _ => rfl, fun hf => ⟨fun _ => rfl, fun h40 w4 x4 => ?_⟩⟩
  have hb4 := kE hb3 x4
  have hf' : fewF l v = true := by simpa using hf
  obtain ⟨⟨h17, h17'⟩, hsc, hsm⟩ := few_val hf'
  have hr : SmS raw := by unfold SmS; omega
  refine Pure.mono (CloneC (hl.keep hb4 (Nat.le_refl _)) (by simpa using hlen) rowC_len' rowC_cell (by omega)) ?_
  rintro y w5 b5 ⟨A5, c5, rfl, o5⟩
  have hb5 := kP hb4 b5
  refine ⟨_, _, _, rfl, Pure.mono (CloneV (hv.keep hb5 (Nat.le_refl _)) (by simpa using hvlen) rowV_len rowV_cell (by omega)) ?_⟩
  rintro y w6 b6 ⟨A6, c6, rfl, o6⟩
  have hb6 := kP hb5 b6
  refine ⟨_, _, _, rfl, Pure.mono (sensor_Take (hg.next hb6) (o5.below b6).sl hlen o6.sl hvlen (by omega) hsc hsm hr) ?_⟩
  rintro y w7 b7 k7
  have hb7 := kP hb6 b7
  obtain ⟨A7, n7, c7, rfl, s7, l7⟩ := take_two k7
  refine ⟨_, _, _, _, rfl, Pure.mono (r55_Take (hl.keep hb7 (Nat.le_refl _)) hlen (hv.keep hb7 (Nat.le_refl _)) hvlen (by omega) hsc hsm hr) ?_⟩
  rintro y w8 b8 k8
  obtain ⟨A8, n8, c8, rfl, s8, l8⟩ := take_two k8
  have e8 : n8 = n7 := by rw [← l8, ← l7]
  subst e8
  have hle := okOf_len (l := l) (v := v) (chan := chan) (tick := tick) (raw := raw)
  refine ⟨_, _, _, _, rfl, Pure.mono (r55_Same (s7.below b8) s8 l7 (by omega)) ?_⟩
  rintro y w9 b9 rfl
  refine ⟨_, rfl, fun _ => ?_, fun h => (by cases h)⟩
  simp
end Go.Proofs.YtdoailkigecmkaaGreatDoor.B

namespace Go.Proofs.YtdoailkigecmkaaGreatDoor.B
open Go Go.RowKit Go.Proofs Go.Proofs.YtdoailkigecmkaaGreatDoor.Vc

theorem see_two {r : Except Int (List Va)} {n B : Nat} {y : Value} {w : World} (h : SeeR r n B y w) : ∃ A' n' c', y = .tuple #[.slice A' n' c', .int .i64 (errOf r)] ∧ SlR w A' 4 ((okOf r).map Va.row) ∧ (okOf r).length = n' := by
  cases r with
  | error e => exact ⟨none, 0, 0, h, .inl rfl, rfl⟩
  | ok v =>
    obtain ⟨A, c, e, o⟩ := h
    exact ⟨A, n, c, e, o.sl, by have := o.len; rw [List.length_map] at this; exact this⟩
theorem okOf_see {v : List Va} {a h : Int} : (okOf (seeF v a h)).length ≤ v.length := by
  unfold seeF
  split
  · simp [okOf]
  · split <;> simp [okOf]

theorem law_SensorVotes {w : World} (hg : Glob w) {A : Option Addr} {n c : Nat} {v : List Va} (hv : SlR w A 4 (v.map Va.row)) (hvlen : v.length = n) (hn : n < 9223372036854775808) {tick hold : Int} {tol : ByteArray} :
    Pure Tryz.prog 5 #[.slice A n c, .int .i64 tick, .int .i64 hold, .string tol] w fun y _ => y = .bool true := by
  refine F.garboardlaw55_SensorVotes.vc _ _ _ _ _ _ _ _ (Pure.mono (law_awake hg) ?_)
  rintro y w2 hb2 rfl
  refine ⟨_, rfl, fun h => (by cases h), fun _ => Pure.mono (ref_Few (l := []) (v := v) (.inl rfl) (hv.keep hb2 (Nat.le_refl _)) rfl hvlen (by omega) hn) ?_⟩
  rintro y w3 b3 rfl
  have hb3 := kP hb2 b3
  refine ⟨_, rfl, fun _ => rfl, fun hf => ⟨fun _ => rfl, fun h40 => ?_⟩⟩
  have hf' : fewF [] v = true := by simpa using hf
  obtain ⟨⟨_, h17⟩, _, hsm⟩ := few_val hf'
  have st : SmS tol := by unfold SmS; omega
  refine Pure.mono (CloneV (hv.keep hb3 (Nat.le_refl _)) (by simpa using hvlen) rowV_len rowV_cell (by omega)) ?_
  rintro y w4 b4 ⟨A4, c4, rfl, o4⟩
  have hb4 := kP hb3 b4
  refine ⟨_, _, _, rfl, Pure.mono (sensor_See o4.sl hvlen) ?_⟩
  rintro y w5 b5 k5
  have hb5 := kP hb4 b5
  obtain ⟨A5, n5, c5, rfl, s5, l5⟩ := see_two k5
  refine ⟨_, _, _, _, rfl, Pure.mono (r55_See (hv.keep hb5 (Nat.le_refl _)) hvlen) ?_⟩
  rintro y w6 b6 k6
  have hb6 := kP hb5 b6
  obtain ⟨A6, n6, c6, rfl, s6, l6⟩ := see_two k6
  have e6 : n6 = n5 := by rw [← l6, ← l5]
  subst e6
  have hle := okOf_see (v := v) (a := tick) (h := hold)
  refine ⟨_, _, _, _, rfl, Pure.mono (CloneV (hv.keep hb6 (Nat.le_refl _)) (by simpa using hvlen) rowV_len rowV_cell (by omega)) ?_⟩
  rintro y w7 b7 ⟨A7, c7, rfl, o7⟩
  have hb7 := kP hb6 b7
  refine ⟨_, _, _, rfl, Pure.mono (sensor_Vote (hg.next hb7) o7.sl hvlen (by omega) hsm st) ?_⟩
  rintro y w8 b8 rfl
  have hb8 := kP hb7 b8
  refine ⟨_, _, _, rfl, Pure.mono (r55_Vote (hv.keep hb8 (Nat.le_refl _)) hvlen (by omega) hsm st) ?_⟩
  rintro y w9 b9 rfl
  refine ⟨_, _, _, rfl, Pure.mono (r55_Same ((((s5.below b6).below b7).below b8).below b9) (((s6.below b7).below b8).below b9) l5 (by omega)) ?_⟩
  rintro y w10 b10 rfl
  refine ⟨_, rfl, fun _ => ⟨fun _ => ⟨fun _ => ⟨fun _ => ?_, fun h => absurd rfl h⟩, fun h => absurd rfl h⟩, fun h => absurd rfl h⟩, fun h => (by cases h)⟩
  simp
end Go.Proofs.YtdoailkigecmkaaGreatDoor.B
