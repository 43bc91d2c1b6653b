/- Part 8 of the proofs that: What the statements SensorChecks, SensorTakes and SensorVotes rest on. -/
import Derived.Test.YtdoailkigecmkaaGreatDoorV7
import Derived.Test.YtdoailkigecmkaaGreatDoorProg
import Derived.Shelf.Spec.SlicesInsertGrow
set_option linter.unusedVariables false
set_option linter.unusedSimpArgs false
namespace Go.Proofs.YtdoailkigecmkaaGreatDoor.B
open Go Go.RowKit Go.Proofs Go.Proofs.YtdoailkigecmkaaGreatDoor.Vc

theorem split_at {l : Tx} {i : Nat} (h : l[i]? = some 47) (hn : 47 ∉ l.take i) : bef l = l.take i ∧ aft l = l.drop (i + 1) := by
  obtain ⟨hi, e⟩ := List.getElem?_eq_some_iff.1 h
  have e1 : l = l.take i ++ 47 :: l.drop (i + 1) := by rw [← e, ← List.drop_eq_getElem_cons hi, List.take_append_drop]
  constructor
  · conv => lhs; rw [e1]
    exact bef_app hn
  · conv => lhs; rw [e1]
    exact aft_app hn
theorem split_loop {B : Nat} {w : World} (s : ByteArray) (hs : s.size < 2147483648) {R : Value → World → Prop} (h1 : 47 ∈ by_ s → ∀ w1, Ext B [] w w1 → R (.tuple #[.string (st (bef (by_ s))), .string (st (aft (by_ s))), .bool true]) w1) (h2 : 47 ∉ by_ s → R (.tuple #[.string s, .string ⟨#[49]⟩, .bool false]) w) :
    ∀ (d i : Nat), s.size - i = d → i ≤ s.size → 47 ∉ (by_ s).take i → F.garboardref03_split.L2 s i B w R := by
  intro d
  induction d with
  | zero =>
    intro i hd hi hn
    rw [List.take_of_length_le (by rw [← size_by]; omega)] at hn
    exact F.garboardref03_split.L2.step _ _ _ _ _ ⟨fun h => by omega, fun _ => h2 hn⟩
  | succ d ih =>
    intro i hd hi hn
    obtain ⟨c, hc, hb, hdr⟩ := bt_get (s := s) (i := (i : Int)) (by omega) (by omega)
    rw [Int.toNat_natCast] at hc
    have hil : i < (by_ s).length := by rw [← size_by]; omega
    refine F.garboardref03_split.L2.step _ _ _ _ _ ⟨fun _ => ⟨⟨by omega, by omega⟩, fun h => ⟨⟨by omega, by omega⟩, by simp only [inR]; omega, ⟨by omega, by omega⟩, fun w1 x1 => ?_⟩, fun h => ⟨by simp only [inR]; omega, ?_⟩⟩, fun h => by omega⟩
    · rw [hb] at h
      have hc47 : c = 47 := UInt8.toNat_inj.1 (show c.toNat = 47 by omega)
      subst hc47
      obtain ⟨q1, q2⟩ := split_at hc hn
      have e1 : ByteArray.extract s 0 ((i : Int)).toNat = st (bef (by_ s)) := by
        apply by_inj
        rw [by_extract, by_st, q1, Int.toNat_natCast]
        rfl
      have e2 : ByteArray.extract s ((i : Int) + 1).toNat s.size = st (aft (by_ s)) := by
        apply by_inj
        rw [by_extract, by_st, q2, List.take_of_length_le (by rw [size_by]; omega), show ((i : Int) + 1).toNat = i + 1 by omega]
      rw [e1, e2]
      exact h1 (List.mem_of_getElem? hc) w1 x1
    · have e3 : (i : Int) + 1 = ((i + 1 : Nat) : Int) := by omega
      rw [e3]
      refine ih (i + 1) (by omega) (by omega) ?_
      rw [List.take_add_one, hc]
      simp only [Option.toList_some, List.mem_append, List.mem_singleton, not_or]
      refine ⟨hn, fun e => h ?_⟩
      rw [hb, ← e]
      rfl
theorem ref3_split (s : ByteArray) (hs : s.size < 2147483648) (w : World) : Pure Tryz.prog 73 #[.string s] w fun v _ => (47 ∈ by_ s → v = .tuple #[.string (st (bef (by_ s))), .string (st (aft (by_ s))), .bool true]) ∧ (47 ∉ by_ s → v = .tuple #[.string s, .string ⟨#[49]⟩, .bool false]) :=
  F.garboardref03_split.vc _ _ _ (split_loop s hs (fun h _ _ => ⟨fun _ => rfl, fun k => absurd h k⟩) (fun h => ⟨fun k => absurd k h, fun _ => rfl⟩) s.size 0 (by omega) (by omega) (by simp))

theorem bef_len (t : Tx) : (bef t).length ≤ t.length := (List.takeWhile_sublist _).length_le
theorem aft_len (t : Tx) : (aft t).length ≤ t.length := by
  unfold aft
  have := (List.dropWhile_sublist (p := (· != 47)) (l := t)).length_le
  rw [List.length_tail]
  omega
theorem lt_valD {t : Tx} (h : isNat t = true) : valD t < 10 ^ t.length := by
  have := lt_natT (valD t)
  rwa [natT_of h] at this
theorem lt_valI {t : Tx} (h : isInt t = true) : (valI t).natAbs < 10 ^ t.length := by
  have := lt_intT (valI t)
  rwa [intT_of h] at this

theorem ref3_From (s : ByteArray) (hs : SmS s) (w : World) : Pure Tryz.prog 34 #[.string s] w fun v w' => ∃ b A n c A' n' c', v = .tuple #[.agg #[.bool b, .slice A n c, .slice A' n' c'], .bool (vR s)] ∧ (vR s = true → IsQ w' b A n c A' n' c' (qR s)) := by
  have hs' : s.size ≤ 1000 := hs
  have hsl := size_by s
  have inv : vR s = false → ∀ w1, Pure Tryz.prog 36 #[.int .i64 (0 : Int)] w1 fun r13 w14 => ∃ (b10 : Bool) (A11 : Option Addr) (n11 c11 : Nat) (A12 : Option Addr) (n12 c12 : Nat), r13 = (.agg #[(.bool b10), (.slice A11 n11 c11), (.slice A12 n12 c12)]) ∧ (∀ w15, Ext w.heap.size [62] w14 w15 →
      (∃ b A n c A' n' c', (.tuple #[(.agg #[(.bool b10), (.slice A11 n11 c11), (.slice A12 n12 c12)]), (.bool false)] : Value) = .tuple #[.agg #[.bool b, .slice A n c, .slice A' n' c'], .bool (vR s)] ∧ (vR s = true → IsQ w15 b A n c A' n' c' (qR s)))) := by
    intro hv w1
    refine Pure.mono (ref3_Int (z := 0) (by decide)) ?_
    rintro v w2 _ ⟨b, A, n, c, A', n', c', rfl, _⟩
    exact ⟨_, _, _, _, _, _, _, rfl, fun w3 _ => ⟨_, _, _, _, _, _, _, by rw [hv], fun k => by rw [hv] at k; cases k⟩⟩
  refine F.garboardref03_From.vc _ _ _ fun w1 x1 => Pure.mono (ref3_split s (by omega) w1) ?_
  rintro v w2 b2 ⟨hsl1, hsl2⟩
  by_cases h47 : 47 ∈ by_ s
  · have hv := hsl1 h47
    subst hv
    have lb := bef_len (by_ s)
    have la := aft_len (by_ s)
    have hrat : vR s = (isInt (bef (by_ s)) && bef (by_ s) != [48] && isNat (aft (by_ s)) && aft (by_ s) != [48] && aft (by_ s) != [49] && Nat.gcd (valI (bef (by_ s))).natAbs (valD (aft (by_ s))) == 1) := by
      unfold vR isRat
      rw [if_pos h47]
    refine ⟨_, _, _, rfl, Pure.mono (ref2_Valid (st (bef (by_ s))) (by rw [size_by, by_st]; omega) w2) ?_⟩
    rintro v w3 b3 rfl
    rw [by_st]
    refine ⟨_, rfl, fun h1 => inv (by rw [hrat, h1]; rfl) w3, fun h1 => ?_⟩
    have h1 : isInt (bef (by_ s)) = true := by simpa using h1
    refine Pure.mono (ref_Valid (st (aft (by_ s))) (by rw [size_by, by_st]; omega) w3) ?_
    rintro v w4 b4 rfl
    rw [by_st]
    refine ⟨_, rfl, fun h2 => inv (by rw [hrat, h2]; simp) w4, fun h2 => ?_⟩
    have h2 : isNat (aft (by_ s)) = true := by simpa using h2
    refine Pure.mono (ref2_Read (s := st (bef (by_ s))) (by rw [size_by, by_st]; omega) h1 w4) ?_
    rintro v w5 b5 ⟨b, A, n, c, rfl, kp⟩
    rw [by_st] at kp
    refine ⟨_, _, _, _, rfl, Pure.mono (ref_From (s := st (aft (by_ s))) (by rw [size_by, by_st]; omega) h2) ?_⟩
    rintro v w6 b6 ⟨A', n', c', rfl, kd⟩
    rw [by_st] at kd
    have kp6 := kp.below b6
    obtain ⟨p, hp⟩ : ∃ p, p = valI (bef (by_ s)) := ⟨_, rfl⟩
    obtain ⟨d, hd⟩ : ∃ d, d = valD (aft (by_ s)) := ⟨_, rfl⟩
    have lp : p.natAbs < Lim := by rw [hp]; exact lim_of (lt_valI h1) (by omega)
    have ld : d < Lim := by rw [hd]; exact lim_of (lt_valD h2) (by omega)
    have l1 : 1 < Lim := lim_of (k := 1) (by decide) (by omega)
    rw [← hp] at kp6 hrat
    rw [← hd] at kd hrat
    rw [h1, h2] at hrat
    have np : (bef (by_ s) != [48]) = decide (p ≠ 0) := by
      rw [hp]
      have e := intT_of h1
      by_cases h0 : valI (bef (by_ s)) = 0
      · rw [h0] at e ⊢
        rw [← e]
        decide +kernel
      · have : bef (by_ s) ≠ [48] := fun k => h0 (intT_zero_iff.1 (by rw [e]; exact k))
        rw [decide_eq_true h0]
        simpa using this
    have nd : (aft (by_ s) != [48] && aft (by_ s) != [49]) = decide (1 < d) := by
      rw [hd]
      have e := natT_of h2
      by_cases h0 : 1 < valD (aft (by_ s))
      · rw [decide_eq_true h0]
        have k0 : aft (by_ s) ≠ [48] := fun k => by
          have := natT_zero_iff.1 (e.trans k)
          omega
        have k1 : aft (by_ s) ≠ [49] := fun k => by
          have := natT_one_iff.1 (e.trans k)
          omega
        simp [k0, k1]
      · rw [decide_eq_false h0]
        rcases (by omega : valD (aft (by_ s)) = 0 ∨ valD (aft (by_ s)) = 1) with k | k
        · rw [k, natT_0] at e; rw [← e]; rfl
        · rw [k, natT_1] at e; rw [← e]; rfl
    have hrat2 : vR s = (decide (p ≠ 0) && decide (1 < d) && (Nat.gcd p.natAbs d == 1)) := by
      rw [hrat, np, ← nd]
      simp [Bool.and_assoc]
    refine ⟨_, _, _, rfl, fun h => absurd h (by decide), fun _ w7 x7 => Pure.mono (ref_Small (x := 1) (by omega)) ?_⟩
    rintro v w8 b8 ⟨A1, n1, c1, rfl, k1⟩
    have kp8 := (kp6.ext x7 (by decide)).below b8
    have kd8 := (kd.ext x7 (by decide)).below b8
    refine ⟨_, _, _, rfl, Pure.mono (ref_Cmp kd8 k1 ld l1) ?_⟩
    rintro v w9 b9 rfl
    refine ⟨_, rfl, fun hc => ?_, fun hc => inv ?_ w9⟩
    · have hd1 : 1 < d := by
        simp only [cmpI] at hc
        split at hc
        · omega
        · split at hc <;> omega
      refine Pure.mono (ref2_Signum (kp8.below b9)) ?_
      rintro v w10 b10 rfl
      refine ⟨_, rfl, fun hg => ?_, fun hg => inv ?_ w10⟩
      · have hp0 : p ≠ 0 := fun k => hg (by rw [k]; rfl)
        refine Pure.mono (ref_Common ((kp8.below b9).below b10).2 ((kd8.below b9).below b10) lp ld) ?_
        rintro v w11 b11 ⟨A2, n2, c2, rfl, kg⟩
        have lg : Nat.gcd p.natAbs d < Lim := Nat.lt_of_le_of_lt (Nat.le_of_dvd (by omega) (Nat.gcd_dvd_right _ _)) ld
        refine ⟨_, _, _, rfl, Pure.mono (ref_Cmp kg (((k1.below b9).below b10).below b11) lg l1) ?_⟩
        rintro v w12 b12 rfl
        refine ⟨_, rfl, fun hne => inv ?_ w12, fun he w13 x13 => ?_⟩
        · have : Nat.gcd p.natAbs d ≠ 1 := fun k => hne (by rw [k]; rfl)
          rw [hrat2]
          have : (Nat.gcd p.natAbs d == 1) = false := by simpa using this
          rw [this, Bool.and_false]
        · have hg1 : Nat.gcd p.natAbs d = 1 := by
            have he := Decidable.not_not.1 he
            simp only [cmpI] at he
            split at he
            · omega
            · split at he <;> omega
          have hT : vR s = true := by rw [hrat2, decide_eq_true hp0, decide_eq_true hd1, hg1]; rfl
          refine ⟨_, _, _, _, _, _, _, by rw [hT], fun _ => ?_⟩
          have eq : qR s = mkRat p d := by
            unfold qR valR
            rw [if_pos h47, hp, hd]
          obtain ⟨en, ed⟩ := mkRat_red (p := p) (show d ≠ 0 by omega)
          rw [hg1] at en ed
          rw [eq]
          refine ⟨?_, ?_⟩
          · rw [show (mkRat p d).num = p by rw [en]; simp]
            exact ((((kp8.below b9).below b10).below b11).below b12).ext x13 (by decide)
          · rw [show (mkRat p d).den = d by rw [ed]; simp]
            exact ((((kd8.below b9).below b10).below b11).below b12).ext x13 (by decide)
      · have : p = 0 := by
          have hg := Decidable.not_not.1 hg
          unfold sgn at hg
          split at hg
          · omega
          · split at hg <;> omega
        rw [hrat2, this]
        rfl
    · have : ¬ 1 < d := by
        intro k
        apply hc
        simp only [cmpI]
        rw [if_neg (by omega), if_pos (by omega)]
        decide
      rw [hrat2, decide_eq_false this, Bool.and_false, Bool.false_and]
  · have hv := hsl2 h47
    subst hv
    have hrat : vR s = isInt (by_ s) := by
      unfold vR isRat
      rw [if_neg h47]
    refine ⟨_, _, _, rfl, Pure.mono (ref2_Valid s (by omega) w2) ?_⟩
    rintro v w3 b3 rfl
    refine ⟨_, rfl, fun h1 => inv (by rw [hrat, h1]) w3, fun h1 => ?_⟩
    have h1 : isInt (by_ s) = true := by simpa using h1
    refine Pure.mono (ref_Valid ⟨#[49]⟩ (by decide) w3) ?_
    rintro v w4 b4 rfl
    refine ⟨_, rfl, fun h => absurd h (by decide), fun _ => ?_⟩
    refine Pure.mono (ref2_Read (s := s) (by omega) h1 w4) ?_
    rintro v w5 b5 ⟨b, A, n, c, rfl, kp⟩
    refine ⟨_, _, _, _, rfl, Pure.mono (ref_From (s := ⟨#[49]⟩) (by decide) (by decide)) ?_⟩
    rintro v w6 b6 ⟨A', n', c', rfl, kd⟩
    have kp6 := kp.below b6
    refine ⟨_, _, _, rfl, fun _ w7 x7 => ⟨_, _, _, _, _, _, _, by rw [hrat, h1], fun _ => ?_⟩, fun h => absurd rfl h⟩
    have eq : qR s = (valI (by_ s) : Rat) := by
      unfold qR valR
      rw [if_neg h47]
    rw [eq]
    exact ⟨kp6.ext x7 (by decide), kd.ext x7 (by decide)⟩
theorem ref3_Valid (s : ByteArray) (hs : SmS s) (w : World) : Pure Tryz.prog 50 #[.string s] w fun v _ => v = .bool (vR s) := by
  refine F.garboardref03_Valid.vc _ _ _ (Pure.mono (ref3_From s hs w) ?_)
  rintro v w2 _ ⟨b, A, n, c, A', n', c', rfl, _⟩
  exact ⟨_, _, _, _, _, _, _, _, rfl, fun w3 _ => rfl⟩
theorem ref47_Num {s : ByteArray} (hs : SmS s) (hv : vR s = true) (w : World) : Pure Tryz.prog 104 #[.string s] w (QR (qR s)) := by
  refine F.garboardref47_Num.vc _ _ _ fun w1 x1 => Pure.mono (ref3_From s hs w1) ?_
  rintro v w2 _ ⟨b, A, n, c, A', n', c', rfl, k⟩
  exact ⟨_, _, _, _, _, _, _, _, rfl, fun w3 x3 => ⟨_, _, _, _, _, _, _, rfl, (k hv).ext x3 (by decide)⟩⟩
end Go.Proofs.YtdoailkigecmkaaGreatDoor.B

namespace Go.Proofs.YtdoailkigecmkaaGreatDoor.B
open Go Go.RowKit Go.Proofs Go.Proofs.YtdoailkigecmkaaGreatDoor.Vc

abbrev Ch.five (c : Ch) : List ByteArray := [c.gain, c.offset, c.low, c.high, c.rate]
theorem Ch.all_iff (c : Ch) : (∀ s ∈ c.five, vR s = true) ↔ (vR c.gain = true ∧ vR c.offset = true ∧ vR c.low = true ∧ vR c.high = true ∧ vR c.rate = true) := by simp [Ch.five]
theorem SmC.all {c : Ch} (h : SmC c) : ∀ s ∈ c.five, SmS s := by
  intro s hs
  simp only [Ch.five, List.mem_cons, List.not_mem_nil, or_false] at hs
  rcases hs with rfl | rfl | rfl | rfl | rfl
  · exact h.gain
  · exact h.offset
  · exact h.low
  · exact h.high
  · exact h.rate
theorem SmS.big {s : ByteArray} (hs : SmS s) (h : vR s = true) : Big (qR s) := (vR_sm h hs).mono (by omega)

theorem sign_of {w : World} {s : ByteArray} (hg : Glob w) (hs : SmS s) (h : vR s = true) : Pure Tryz.prog 60 #[.string s] w fun v _ => v = .int .i64 (cmpR (qR s) 0) := by
  have := sensor_sign hg (hs.big h)
  rwa [← vR_eq h] at this
theorem compare_of {w : World} {s t : ByteArray} (hg : Glob w) (hs : SmS s) (h : vR s = true) (ht : SmS t) (k : vR t = true) : Pure Tryz.prog 65 #[.string s, .string t] w fun v _ => v = .int .i64 (cmpR (qR s) (qR t)) := by
  have := sensor_compare hg (hs.big h) (ht.big k)
  rwa [← vR_eq h, ← vR_eq k] at this

def prevOf (l : List Ch) (i : Nat) : Option Ch := if i = 0 then none else l[i - 1]?

theorem fault_loop {w0 : World} (hg : Glob w0) {A : Option Addr} {n c : Nat} {l : List Ch} (hl : SlR w0 A 7 (l.map Ch.row)) (hlen : l.length = n) (hn : n < 2147483648) {i : Nat} (hi : i < n) {x : Ch} (hx : l[i]? = some x) (hsm : SmC x)
    {A2 : Option Addr} {c2 : Nat} {R : Value → World → Prop} (hR : ∀ w, R (.int .i64 (faultOf (prevOf l i) x)) w) :
    ∀ (d k : Nat) (w : World), 5 - k = d → k ≤ 5 → Below w0.heap.size w0 w → OwnR w w0.heap.size 23 A2 5 c2 1 (x.five.map fun s => [.string s]) → (∀ j, j < k → ∀ s, x.five[j]? = some s → vR s = true) →
      F.sensor_fault.L3 A n c i A2 5 c2 ((5 : Nat) : Int) k x.id x.name x.gain x.offset x.low x.high x.rate w0.heap.size w R := by
  intro d
  induction d with
  | zero =>
    intro k w hd hk hw ho hv
    have hk5 : k = 5 := by omega
    subst hk5
    have hall : ∀ s ∈ x.five, vR s = true := by
      intro s hs
      obtain ⟨j, hj, rfl⟩ := List.mem_iff_getElem.1 hs
      exact hv j (by simpa [Ch.five] using hj) _ (by simp [hj])
    have hconj := (Ch.all_iff x).1 hall
    obtain ⟨v1, v2, v3, v4, v5⟩ := hconj
    have ns := hsm.name
    refine F.sensor_fault.L3.step _ _ _ _ _ _ _ _ _ _ _ _ _ _ _ _ _ _ _ ⟨fun h => by omega, fun _ => ?_⟩
    have f4 : (x.name.size < 1 ∨ 64 < x.name.size) → faultOf (prevOf l i) x = 4 := fun h => by
      unfold faultOf
      rw [if_neg (fun k => k ⟨v1, v2, v3, v4, v5⟩), if_pos h]
    have f2 : ¬ (x.name.size < 1 ∨ 64 < x.name.size) → (x.id < 1 ∨ 1073741824 < x.id ∨ qR x.gain = 0 ∨ qR x.high < qR x.low ∨ ¬ 0 < qR x.rate) → faultOf (prevOf l i) x = 2 := fun h h2 => by
      unfold faultOf
      rw [if_neg (fun k => k ⟨v1, v2, v3, v4, v5⟩), if_neg h, if_pos h2]
    refine ⟨fun h1 => ?_, fun h1 => ⟨fun h2 => ?_, fun h2 => ⟨fun h3 => ?_, fun h3 => ⟨fun h4 => ?_, fun h4 => ?_⟩⟩⟩⟩
    · have := hR w; rwa [f4 (by omega)] at this
    · have := hR w; rwa [f4 (by omega)] at this
    · have := hR w; rwa [f2 (by omega) (.inl (by omega))] at this
    · have := hR w; rwa [f2 (by omega) (.inr (.inl (by omega)))] at this
    refine Pure.mono (sign_of (hg.next hw) hsm.gain v1) ?_
    rintro v w2 b2 rfl
    have hw2 := kP hw b2
    refine ⟨_, rfl, fun h5 => ?_, fun h5 => ?_⟩
    · have := hR w2; rwa [f2 (by omega) (.inr (.inr (.inl (cmpR_eq.1 h5))))] at this
    refine Pure.mono (compare_of (hg.next hw2) hsm.low v3 hsm.high v4) ?_
    rintro v w3 b3 rfl
    have hw3 := kP hw2 b3
    refine ⟨_, rfl, fun h6 => ?_, fun h6 => ?_⟩
    · have := hR w3; rwa [f2 (by omega) (.inr (.inr (.inr (.inl (cmpR_gt.1 h6)))))] at this
    refine Pure.mono (sign_of (hg.next hw3) hsm.rate v5) ?_
    rintro v w4 b4 rfl
    have hw4 := kP hw3 b4
    have hrate : cmpR (qR x.rate) 0 ≤ 0 ↔ ¬ 0 < qR x.rate := by rw [← cmpR_gt]; omega
    refine ⟨_, rfl, fun h7 => ?_, fun h7 => ?_⟩
    · have := hR w4; rwa [f2 (by omega) (.inr (.inr (.inr (.inr (hrate.1 h7)))))] at this
    have rest : faultOf (prevOf l i) x = if ∃ q, prevOf l i = some q ∧ x.id ≤ q.id then 5 else 0 := by
      unfold faultOf
      rw [if_neg (fun k => k ⟨v1, v2, v3, v4, v5⟩), if_neg (by omega), if_neg]
      rintro (k | k | k | k | k)
      · omega
      · omega
      · exact h5 (cmpR_eq.2 k)
      · exact h6 (cmpR_gt.2 k)
      · exact h7 (hrate.2 k)
    rw [rest] at hR
    refine ⟨fun h8 => ⟨by simp only [inR]; omega, ?_⟩, fun h8 w5 _ => ?_⟩
    · obtain ⟨hb, a, hA, hrow⟩ := (hl.keep hw4 (Nat.le_refl _)).load (n := n) (by simpa using hlen) (j := (i : Int) - 1) (by omega) (by omega)
      have hi1 : i - 1 < l.length := by omega
      have hprev : prevOf l i = some l[i - 1] := by
        unfold prevOf
        rw [if_neg (by omega)]
        simp [hi1]
      obtain ⟨_, hcell⟩ := hrow l[i - 1].row (by rw [show ((i : Int) - 1).toNat = i - 1 by omega]; simp [hi1]) rfl
      refine ⟨hb, a, hA, _, hcell 0 _ rfl, fun h9 w5 _ => ?_, fun h9 w5 _ => ?_⟩
      · have := hR w5
        rwa [if_pos ⟨_, hprev, h9⟩] at this
      · have := hR w5
        rwa [if_neg (fun ⟨q, hq, hle⟩ => by rw [hprev] at hq; cases hq; exact h9 hle)] at this
    · have hi0 : i = 0 := by omega
      have := hR w5
      rwa [if_neg (fun ⟨q, hq, _⟩ => by simp [prevOf, hi0] at hq)] at this
  | succ d ih =>
    intro k w hd hk hw ho hv
    have hk5 : k < x.five.length := by simp [Ch.five]; omega
    obtain ⟨s, hs⟩ : ∃ s, x.five[k]? = some s := ⟨x.five[k], by simp [hk5]⟩
    have hss : SmS s := hsm.all s (List.mem_of_getElem? hs)
    refine F.sensor_fault.L3.step _ _ _ _ _ _ _ _ _ _ _ _ _ _ _ _ _ _ _ ⟨fun _ => ?_, fun h => by omega⟩
    obtain ⟨hb, a, hA, hrow⟩ := ho.sl.load (n := 5) ho.len (j := (k : Int)) (by omega) (by omega)
    obtain ⟨hcell, _⟩ := hrow [.string s] (by rw [Int.toNat_natCast, List.getElem?_map, hs]; rfl) rfl
    refine ⟨hb, a, hA, _, hcell, Pure.mono (rational_Valid (hg.next hw) s (by omega)) ?_⟩
    rintro v w2 b2 rfl
    refine ⟨_, rfl, fun h1 => ?_, fun h1 => ⟨by simp only [inR]; omega, ?_⟩⟩
    · have hf : faultOf (prevOf l i) x = 1 := by
        unfold faultOf
        rw [if_pos]
        intro hc
        have h2 := (Ch.all_iff x).2 hc s (List.mem_of_getElem? hs)
        unfold vR at h2
        rw [h1] at h2
        cases h2
      have := hR w2
      rwa [hf] at this
    · have e3 : (k : Int) + 1 = ((k + 1 : Nat) : Int) := by omega
      rw [e3]
      refine ih (k + 1) w2 (by omega) (by omega) (kP hw b2) (ho.below b2) fun j hj t ht => ?_
      by_cases hjk : j = k
      · subst hjk
        rw [hs] at ht
        cases ht
        simpa [vR] using h1
      · exact hv j (by omega) t ht

theorem sensor_fault {w : World} (hg : Glob w) {A : Option Addr} {n c : Nat} {l : List Ch} (hl : SlR w A 7 (l.map Ch.row)) (hlen : l.length = n) (hn : n < 2147483648) {i : Nat} (hi : i < n) {x : Ch} (hx : l[i]? = some x) (hsm : SmC x) :
    Pure Tryz.prog 44 #[.slice A n c, .int .i64 (i : Int)] w fun v _ => v = .int .i64 (faultOf (prevOf l i) x) := by
  obtain ⟨hb, a, hA, hrow⟩ := hl.load (n := n) (by simpa using hlen) (j := (i : Int)) (by omega) (by omega)
  obtain ⟨hcell, _⟩ := hrow x.row (by rw [Int.toNat_natCast]; simp [hx]) rfl
  refine F.sensor_fault.vc _ _ _ _ _ _ ⟨hb, a, hA, _, _, _, _, _, _, _, hcell, fun w1 x1 => ?_⟩
  have hb1 := k0 x1
  refine runOk_lit el_Rats [.string x.gain, .string x.offset, .string x.low, .string x.high, .string x.rate] (by simp [Value.cells]) (by simp) hb1.size fun A2 c2 w2 ho b2 => ?_
  refine fault_loop hg hl hlen hn hi hx hsm (fun _ => rfl) 5 0 w2 rfl (by omega) (kP hb1 b2) ⟨?_, ho.2⟩ (fun j hj => by omega)
  have h1 := ho.1
  refine ⟨h1.1, ?_⟩
  rcases h1.2 with h2 | ⟨g, cap, cur, h2, h3, h4⟩
  · exact .inl h2
  · exact .inr ⟨g, cap, cur, h2, Nat.le_trans hb1.size h3, h4⟩

def chk : Option Ch → Nat → List Ch → Int × Int
  | _, _, [] => (-1, 0)
  | p, i, c :: r => if faultOf p c ≠ 0 then ((i : Int), faultOf p c) else chk (some c) (i + 1) r
def checkF (l : List Ch) : Int × Int := if 16 < l.length then (-1, 8) else chk none 0 l

theorem check_loop {w0 : World} (hg : Glob w0) {A : Option Addr} {n c : Nat} {l : List Ch} (hl : SlR w0 A 7 (l.map Ch.row)) (hlen : l.length = n) (hn : n < 2147483648) (hsm : ∀ x ∈ l, SmC x) {R : Value → World → Prop} {r : Int × Int} (hR : ∀ w, R (.tuple #[.int .i64 r.1, .int .i64 r.2]) w) :
    ∀ (d i : Nat) (w : World), n - i = d → i ≤ n → Below w0.heap.size w0 w → r = chk (prevOf l i) i (l.drop i) → F.sensor_Check.L4 A n c n i w0.heap.size w R := by
  intro d
  induction d with
  | zero =>
    intro i w hd hi hw hr
    rw [List.drop_eq_nil_of_le (by omega)] at hr
    subst hr
    exact F.sensor_Check.L4.step _ _ _ _ _ _ _ _ ⟨fun h => by omega, fun _ => hR w⟩
  | succ d ih =>
    intro i w hd hi hw hr
    have hil : i < l.length := by omega
    have hx : l[i]? = some l[i] := by simp [hil]
    rw [List.drop_eq_getElem_cons hil] at hr
    refine F.sensor_Check.L4.step _ _ _ _ _ _ _ _ ⟨fun _ => ?_, fun h => by omega⟩
    refine Pure.mono (sensor_fault (hg.next hw) (hl.keep hw (Nat.le_refl _)) hlen hn (by omega) hx (hsm _ (List.getElem_mem _))) ?_
    rintro v w2 b2 rfl
    refine ⟨_, rfl, fun h => ?_, fun h => ⟨by simp only [inR]; omega, ?_⟩⟩
    · rw [chk, if_pos h] at hr
      subst hr
      exact hR w2
    · have h0 : faultOf (prevOf l i) l[i] = 0 := by
        apply Decidable.byContradiction
        intro k
        exact h k
      rw [chk, if_neg (fun k => k h0)] at hr
      have e3 : (i : Int) + 1 = ((i + 1 : Nat) : Int) := by omega
      rw [e3]
      refine ih (i + 1) w2 (by omega) (by omega) (kP hw b2) ?_
      have hp : prevOf l (i + 1) = some l[i] := by simp [prevOf, hil]
      rw [hp]
      exact hr

theorem sensor_Check {w : World} (hg : Glob w) {A : Option Addr} {n c : Nat} {l : List Ch} (hl : SlR w A 7 (l.map Ch.row)) (hlen : l.length = n) (hsm : ∀ x ∈ l, SmC x) :
    Pure Tryz.prog 12 #[.slice A n c] w fun v _ => v = .tuple #[.int .i64 (checkF l).1, .int .i64 (checkF l).2] := by
  refine F.sensor_Check.vc _ _ _ _ _ ⟨fun h => ?_, fun h => ?_⟩
  · unfold checkF
    rw [if_pos (by omega)]
  · refine check_loop (r := checkF l) hg hl hlen (by omega) hsm (fun _ => rfl) n 0 w rfl (by omega) (Below.refl _ _) ?_
    unfold checkF
    rw [if_neg (by omega)]
    rfl
theorem sensor_right {w : World} (hg : Glob w) {A : Option Addr} {n c : Nat} {l : List Ch} (hl : SlR w A 7 (l.map Ch.row)) (hlen : l.length = n) (hsm : ∀ x ∈ l, SmC x) :
    Pure Tryz.prog 46 #[.slice A n c] w fun v _ => v = .bool (decide ((checkF l).2 = 0)) := by
  refine F.sensor_right.vc _ _ _ _ _ (Pure.mono (sensor_Check hg hl hlen hsm) ?_)
  rintro v w2 _ rfl
  exact ⟨_, _, rfl, rfl⟩
end Go.Proofs.YtdoailkigecmkaaGreatDoor.B

set_option maxRecDepth 100000
namespace Go.Proofs.YtdoailkigecmkaaGreatDoor.F
open Go Go.RowKit Go.Proofs Go.Proofs.YtdoailkigecmkaaGreatDoor.Vc
noncomputable def slices_Clone_api_Channel_api_Channel.cx (w : World) (B : Nat) (R : Value → World → Prop) : Cx := ⟨Tryz.prog, 13, 8, Tryz.f13.results.toList, [], [(3, 0, 2), (3, 2, 2)], w, B, R⟩
theorem slices_Clone_api_Channel_api_Channel.vc (Ap0 : Option Addr) (np0 cp0 : Nat) (w : World) (R : Value → World → Prop)
    (h : (((Ap0 = none) → (R (.slice none 0 0) w)) ∧ (¬ (Ap0 = none) → (RunOk Tryz.prog (Instr.buildSlice 22 0 #[]) w.heap.size [] w fun r2 w3 => ∃ (A1 : Option Addr) (n1 c1 : Nat), r2 = (.slice A1 n1 c1) ∧ (RunOk Tryz.prog (Builtin.append_ #[22, 22] 22 #[(.slice A1 n1 c1), (.slice Ap0 np0 cp0)]) w.heap.size [] w3 fun r5 w6 => ∃ (A4 : Option Addr) (n4 c4 : Nat), r5 = (.slice A4 n4 c4) ∧ (R (.slice A4 n4 c4) w6)))))) :
    Pure Tryz.prog 13 #[(.slice Ap0 np0 cp0)] w R :=
  pure_of_run (slices_Clone_api_Channel_api_Channel.cx w w.heap.size R) 100000 follows Tryz.func13 rfl rfl rfl rfl rfl rfl rfl (Eq.mp (by kernel_rfl) h)

noncomputable def slices_ContainsFunc_api_Channel_api_Channel.cx (w : World) (B : Nat) (R : Value → World → Prop) : Cx := ⟨Tryz.prog, 18, 9, Tryz.f18.results.toList, [], [], w, B, R⟩
theorem slices_ContainsFunc_api_Channel_api_Channel.vc (Ap0 : Option Addr) (np0 cp0 : Nat) (fp1 : Nat) (ap1 kp1 : Array Value) (w : World) (R : Value → World → Prop)
    (h : (Pure Tryz.prog 31 #[(.slice Ap0 np0 cp0), (.func (.func fp1) ap1 kp1)] w fun r2 w3 => ∃ (i1 : Int), r2 = (.int .i64 i1) ∧ (R (.bool (decide ((i1 : Int) ≥ (0 : Int)))) w3))) :
    Pure Tryz.prog 18 #[(.slice Ap0 np0 cp0), (.func (.func fp1) ap1 kp1)] w R :=
  pure_of_run (slices_ContainsFunc_api_Channel_api_Channel.cx w w.heap.size R) 100000 follows Tryz.func18 rfl rfl rfl rfl rfl rfl rfl (Eq.mp (by kernel_rfl) h)

noncomputable def slices_Clone_api_Value_api_Value.cx (w : World) (B : Nat) (R : Value → World → Prop) : Cx := ⟨Tryz.prog, 23, 8, Tryz.f23.results.toList, [], [(3, 0, 2), (3, 2, 2)], w, B, R⟩
theorem slices_Clone_api_Value_api_Value.vc (Ap0 : Option Addr) (np0 cp0 : Nat) (w : World) (R : Value → World → Prop)
    (h : (((Ap0 = none) → (R (.slice none 0 0) w)) ∧ (¬ (Ap0 = none) → (RunOk Tryz.prog (Instr.buildSlice 32 0 #[]) w.heap.size [] w fun r2 w3 => ∃ (A1 : Option Addr) (n1 c1 : Nat), r2 = (.slice A1 n1 c1) ∧ (RunOk Tryz.prog (Builtin.append_ #[32, 32] 32 #[(.slice A1 n1 c1), (.slice Ap0 np0 cp0)]) w.heap.size [] w3 fun r5 w6 => ∃ (A4 : Option Addr) (n4 c4 : Nat), r5 = (.slice A4 n4 c4) ∧ (R (.slice A4 n4 c4) w6)))))) :
    Pure Tryz.prog 23 #[(.slice Ap0 np0 cp0)] w R :=
  pure_of_run (slices_Clone_api_Value_api_Value.cx w w.heap.size R) 100000 follows Tryz.func23 rfl rfl rfl rfl rfl rfl rfl (Eq.mp (by kernel_rfl) h)

def slices_IndexFunc_api_Channel_api_Channel.L2 (Al0 : Option Addr) (nl0 cl0 : Nat) (fl1 : Nat) (al1 : Array Value) (kl1 : Array Value) (il7 : Int) (il8 : Int) (B : Nat) (w : World) (R : Value → World → Prop) : Prop := At Tryz.prog 31 19 (loopAt Tryz.f31 2) [(0, .v (.slice Al0 nl0 cl0)), (1, .v (.func (.func fl1) al1 kl1)), (7, .v (.int .i64 il7)), (8, .v (.int .i64 il8))] [] B w R
noncomputable def slices_IndexFunc_api_Channel_api_Channel.cx (w : World) (B : Nat) (R : Value → World → Prop) : Cx := ⟨Tryz.prog, 31, 19, Tryz.f31.results.toList, [((true, 2), [0, 1, 7, 8], [])], [(4, 5, 4)], w, B, R⟩
theorem slices_IndexFunc_api_Channel_api_Channel.L2.step (Al0 : Option Addr) (nl0 cl0 : Nat) (fl1 : Nat) (al1 : Array Value) (kl1 : Array Value) (il7 : Int) (il8 : Int) (B : Nat) (w : World) (R : Value → World → Prop)
    (h : ((((il8 : Int) < il7) → ((0 ≤ il8 ∧ il8 < nl0) ∧ ∃ a1, Al0 = some a1 ∧ (∃ (i2 : Int) (s3 : ByteArray) (s4 : ByteArray) (s5 : ByteArray) (s6 : ByteArray) (s7 : ByteArray) (s8 : ByteArray), CellsAt w (a1.add ((il8).toNat * 7)) [(.int .i64 i2), (.string s3), (.string s4), (.string s5), (.string s6), (.string s7), (.string s8)] ∧ (callable Tryz.prog fl1 = true ∧ (Pure Tryz.prog fl1 ((Array.toList al1) ++ ([(.agg #[(.int .i64 i2), (.string s3), (.string s4), (.string s5), (.string s6), (.string s7), (.string s8)])] : List Value) ++ (Array.toList kl1)).toArray w fun r10 w11 => ∃ (b9 : Bool), r10 = (.bool b9) ∧ ((b9 = true → (R (.int .i64 il8) w11)) ∧ (b9 = false → (inR .i64 (il8 + (1 : Int)) ∧ (slices_IndexFunc_api_Channel_api_Channel.L2 Al0 nl0 cl0 fl1 al1 kl1 il7 (il8 + (1 : Int)) B w11 R))))))))) ∧ (¬ ((il8 : Int) < il7) → (R (.int .i64 (-1 : Int)) w)))) :
    slices_IndexFunc_api_Channel_api_Channel.L2 Al0 nl0 cl0 fl1 al1 kl1 il7 il8 B w R :=
  loop_of_run (slices_IndexFunc_api_Channel_api_Channel.cx w B R) 100000 (loopAt Tryz.f31 2) _ _ follows Tryz.func31 rfl rfl rfl (Eq.mp (by kernel_rfl) h)
theorem slices_IndexFunc_api_Channel_api_Channel.vc (Ap0 : Option Addr) (np0 cp0 : Nat) (fp1 : Nat) (ap1 kp1 : Array Value) (w : World) (R : Value → World → Prop)
    (h : (slices_IndexFunc_api_Channel_api_Channel.L2 Ap0 np0 cp0 fp1 ap1 kp1 (np0 : Int) (0 : Int) w.heap.size w R)) :
    Pure Tryz.prog 31 #[(.slice Ap0 np0 cp0), (.func (.func fp1) ap1 kp1)] w R :=
  pure_of_run (slices_IndexFunc_api_Channel_api_Channel.cx w w.heap.size R) 100000 follows Tryz.func31 rfl rfl rfl rfl rfl rfl rfl (Eq.mp (by kernel_rfl) h)

def slices_Equal_api_Value_api_Value.L4 (Al0 : Option Addr) (nl0 cl0 : Nat) (Al1 : Option Addr) (nl1 cl1 : Nat) (il12 : Int) (il13 : Int) (B : Nat) (w : World) (R : Value → World → Prop) : Prop := At Tryz.prog 43 26 (loopAt Tryz.f43 4) [(0, .v (.slice Al0 nl0 cl0)), (1, .v (.slice Al1 nl1 cl1)), (12, .v (.int .i64 il12)), (13, .v (.int .i64 il13))] [] B w R
noncomputable def slices_Equal_api_Value_api_Value.cx (w : World) (B : Nat) (R : Value → World → Prop) : Cx := ⟨Tryz.prog, 43, 26, Tryz.f43.results.toList, [((true, 4), [0, 1, 12, 13], [])], [], w, B, R⟩
theorem slices_Equal_api_Value_api_Value.L4.step (Al0 : Option Addr) (nl0 cl0 : Nat) (Al1 : Option Addr) (nl1 cl1 : Nat) (il12 : Int) (il13 : Int) (B : Nat) (w : World) (R : Value → World → Prop)
    (h : ((((il13 : Int) < il12) → ((0 ≤ il13 ∧ il13 < nl0) ∧ ∃ a1, Al0 = some a1 ∧ (∃ (i2 : Int) (i3 : Int) (i4 : Int) (s5 : ByteArray), CellsAt w (a1.add ((il13).toNat * 4)) [(.int .i64 i2), (.int .i64 i3), (.int .i64 i4), (.string s5)] ∧ ((0 ≤ il13 ∧ il13 < nl1) ∧ ∃ a6, Al1 = some a6 ∧ (∃ (i7 : Int) (i8 : Int) (i9 : Int) (s10 : ByteArray), CellsAt w (a6.add ((il13).toNat * 4)) [(.int .i64 i7), (.int .i64 i8), (.int .i64 i9), (.string s10)] ∧ (((¬ (i2 = i7 ∧ i3 = i8 ∧ i4 = i9 ∧ s5 = s10 ∧ True)) → (∀ w11, Ext B [] w w11 → (R (.bool false) w11))) ∧ (¬ (¬ (i2 = i7 ∧ i3 = i8 ∧ i4 = i9 ∧ s5 = s10 ∧ True)) → (inR .i64 (il13 + (1 : Int)) ∧ (∀ w12, Ext B [] w w12 → (slices_Equal_api_Value_api_Value.L4 Al0 nl0 cl0 Al1 nl1 cl1 il12 (il13 + (1 : Int)) B w12 R)))))))))) ∧ (¬ ((il13 : Int) < il12) → (R (.bool true) w)))) :
    slices_Equal_api_Value_api_Value.L4 Al0 nl0 cl0 Al1 nl1 cl1 il12 il13 B w R :=
  loop_of_run (slices_Equal_api_Value_api_Value.cx w B R) 100000 (loopAt Tryz.f43 4) _ _ follows Tryz.func43 rfl rfl rfl (Eq.mp (by kernel_rfl) h)
theorem slices_Equal_api_Value_api_Value.vc (Ap0 : Option Addr) (np0 cp0 : Nat) (Ap1 : Option Addr) (np1 cp1 : Nat) (w : World) (R : Value → World → Prop)
    (h : (((((np0 : Int) : Int) ≠ (np1 : Int)) → (R (.bool false) w)) ∧ (¬ (((np0 : Int) : Int) ≠ (np1 : Int)) → (slices_Equal_api_Value_api_Value.L4 Ap0 np0 cp0 Ap1 np1 cp1 (np0 : Int) (0 : Int) w.heap.size w R)))) :
    Pure Tryz.prog 43 #[(.slice Ap0 np0 cp0), (.slice Ap1 np1 cp1)] w R :=
  pure_of_run (slices_Equal_api_Value_api_Value.cx w w.heap.size R) 100000 follows Tryz.func43 rfl rfl rfl rfl rfl rfl rfl (Eq.mp (by kernel_rfl) h)

noncomputable def slices_ContainsFunc_api_Value_api_Value.cx (w : World) (B : Nat) (R : Value → World → Prop) : Cx := ⟨Tryz.prog, 61, 9, Tryz.f61.results.toList, [], [], w, B, R⟩
theorem slices_ContainsFunc_api_Value_api_Value.vc (Ap0 : Option Addr) (np0 cp0 : Nat) (fp1 : Nat) (ap1 kp1 : Array Value) (w : World) (R : Value → World → Prop)
    (h : (Pure Tryz.prog 97 #[(.slice Ap0 np0 cp0), (.func (.func fp1) ap1 kp1)] w fun r2 w3 => ∃ (i1 : Int), r2 = (.int .i64 i1) ∧ (R (.bool (decide ((i1 : Int) ≥ (0 : Int)))) w3))) :
    Pure Tryz.prog 61 #[(.slice Ap0 np0 cp0), (.func (.func fp1) ap1 kp1)] w R :=
  pure_of_run (slices_ContainsFunc_api_Value_api_Value.cx w w.heap.size R) 100000 follows Tryz.func61 rfl rfl rfl rfl rfl rfl rfl (Eq.mp (by kernel_rfl) h)

noncomputable def slices_ContainsFunc_sensor_sorted_api_Rat.cx (w : World) (B : Nat) (R : Value → World → Prop) : Cx := ⟨Tryz.prog, 68, 9, Tryz.f68.results.toList, [], [], w, B, R⟩
theorem slices_ContainsFunc_sensor_sorted_api_Rat.vc (Ap0 : Option Addr) (np0 cp0 : Nat) (fp1 : Nat) (ap1 kp1 : Array Value) (w : World) (R : Value → World → Prop)
    (h : (Pure Tryz.prog 103 #[(.slice Ap0 np0 cp0), (.func (.func fp1) ap1 kp1)] w fun r2 w3 => ∃ (i1 : Int), r2 = (.int .i64 i1) ∧ (R (.bool (decide ((i1 : Int) ≥ (0 : Int)))) w3))) :
    Pure Tryz.prog 68 #[(.slice Ap0 np0 cp0), (.func (.func fp1) ap1 kp1)] w R :=
  pure_of_run (slices_ContainsFunc_sensor_sorted_api_Rat.cx w w.heap.size R) 100000 follows Tryz.func68 rfl rfl rfl rfl rfl rfl rfl (Eq.mp (by kernel_rfl) h)

def slices_IndexFunc_api_Value_api_Value.L2 (Al0 : Option Addr) (nl0 cl0 : Nat) (fl1 : Nat) (al1 : Array Value) (kl1 : Array Value) (il7 : Int) (il8 : Int) (B : Nat) (w : World) (R : Value → World → Prop) : Prop := At Tryz.prog 97 19 (loopAt Tryz.f97 2) [(0, .v (.slice Al0 nl0 cl0)), (1, .v (.func (.func fl1) al1 kl1)), (7, .v (.int .i64 il7)), (8, .v (.int .i64 il8))] [] B w R
noncomputable def slices_IndexFunc_api_Value_api_Value.cx (w : World) (B : Nat) (R : Value → World → Prop) : Cx := ⟨Tryz.prog, 97, 19, Tryz.f97.results.toList, [((true, 2), [0, 1, 7, 8], [])], [(4, 5, 4)], w, B, R⟩
theorem slices_IndexFunc_api_Value_api_Value.L2.step (Al0 : Option Addr) (nl0 cl0 : Nat) (fl1 : Nat) (al1 : Array Value) (kl1 : Array Value) (il7 : Int) (il8 : Int) (B : Nat) (w : World) (R : Value → World → Prop)
    (h : ((((il8 : Int) < il7) → ((0 ≤ il8 ∧ il8 < nl0) ∧ ∃ a1, Al0 = some a1 ∧ (∃ (i2 : Int) (i3 : Int) (i4 : Int) (s5 : ByteArray), CellsAt w (a1.add ((il8).toNat * 4)) [(.int .i64 i2), (.int .i64 i3), (.int .i64 i4), (.string s5)] ∧ (callable Tryz.prog fl1 = true ∧ (Pure Tryz.prog fl1 ((Array.toList al1) ++ ([(.agg #[(.int .i64 i2), (.int .i64 i3), (.int .i64 i4), (.string s5)])] : List Value) ++ (Array.toList kl1)).toArray w fun r7 w8 => ∃ (b6 : Bool), r7 = (.bool b6) ∧ ((b6 = true → (R (.int .i64 il8) w8)) ∧ (b6 = false → (inR .i64 (il8 + (1 : Int)) ∧ (slices_IndexFunc_api_Value_api_Value.L2 Al0 nl0 cl0 fl1 al1 kl1 il7 (il8 + (1 : Int)) B w8 R))))))))) ∧ (¬ ((il8 : Int) < il7) → (R (.int .i64 (-1 : Int)) w)))) :
    slices_IndexFunc_api_Value_api_Value.L2 Al0 nl0 cl0 fl1 al1 kl1 il7 il8 B w R :=
  loop_of_run (slices_IndexFunc_api_Value_api_Value.cx w B R) 100000 (loopAt Tryz.f97 2) _ _ follows Tryz.func97 rfl rfl rfl (Eq.mp (by kernel_rfl) h)
theorem slices_IndexFunc_api_Value_api_Value.vc (Ap0 : Option Addr) (np0 cp0 : Nat) (fp1 : Nat) (ap1 kp1 : Array Value) (w : World) (R : Value → World → Prop)
    (h : (slices_IndexFunc_api_Value_api_Value.L2 Ap0 np0 cp0 fp1 ap1 kp1 (np0 : Int) (0 : Int) w.heap.size w R)) :
    Pure Tryz.prog 97 #[(.slice Ap0 np0 cp0), (.func (.func fp1) ap1 kp1)] w R :=
  pure_of_run (slices_IndexFunc_api_Value_api_Value.cx w w.heap.size R) 100000 follows Tryz.func97 rfl rfl rfl rfl rfl rfl rfl (Eq.mp (by kernel_rfl) h)

def slices_BinarySearchFunc_sensor_sorted_api_Rat_api_Rat.L3 (Al0 : Option Addr) (nl0 cl0 : Nat) (sl1 : ByteArray) (fl2 : Nat) (al2 : Array Value) (kl2 : Array Value) (il8 : Int) (il9 : Int) (il10 : Int) (B : Nat) (w : World) (R : Value → World → Prop) : Prop := At Tryz.prog 98 49 (loopAt Tryz.f98 3) [(0, .v (.slice Al0 nl0 cl0)), (1, .v (.string sl1)), (2, .v (.func (.func fl2) al2 kl2)), (8, .v (.int .i64 il8)), (9, .v (.int .i64 il9)), (10, .v (.int .i64 il10))] [] B w R
noncomputable def slices_BinarySearchFunc_sensor_sorted_api_Rat_api_Rat.cx (w : World) (B : Nat) (R : Value → World → Prop) : Cx := ⟨Tryz.prog, 98, 49, Tryz.f98.results.toList, [((true, 3), [0, 1, 2, 8, 9, 10], [])], [(4, 4, 2), (5, 6, 4), (8, 11, 4)], w, B, R⟩
theorem slices_BinarySearchFunc_sensor_sorted_api_Rat_api_Rat.L3.step (Al0 : Option Addr) (nl0 cl0 : Nat) (sl1 : ByteArray) (fl2 : Nat) (al2 : Array Value) (kl2 : Array Value) (il8 : Int) (il9 : Int) (il10 : Int) (B : Nat) (w : World) (R : Value → World → Prop)
    (h : ((((il9 : Int) < il10) → (inR .i64 (il9 + il10) ∧ (inR .u64 ((il9 + il10)) ∧ (RunOk Tryz.prog (binOp .shr 144 (.int .u64 ((il9 + il10))) (.int .u64 (1 : Int))) B [] w fun r2 w3 => ∃ (i1 : Int), r2 = (.int .u64 i1) ∧ (inR .i64 (i1) ∧ ((0 ≤ (i1) ∧ (i1) < nl0) ∧ ∃ a4, Al0 = some a4 ∧ (∃ (s5 : ByteArray), CellsAt w3 (a4.add (((i1)).toNat * 1)) [(.string s5)] ∧ (callable Tryz.prog fl2 = true ∧ (Pure Tryz.prog fl2 ((Array.toList al2) ++ ([(.string s5), (.string sl1)] : List Value) ++ (Array.toList kl2)).toArray w3 fun r7 w8 => ∃ (i6 : Int), r7 = (.int .i64 i6) ∧ ((((i6 : Int) < (0 : Int)) → (inR .i64 ((i1) + (1 : Int)) ∧ (slices_BinarySearchFunc_sensor_sorted_api_Rat_api_Rat.L3 Al0 nl0 cl0 sl1 fl2 al2 kl2 il8 ((i1) + (1 : Int)) il10 B w8 R))) ∧ (¬ ((i6 : Int) < (0 : Int)) → (slices_BinarySearchFunc_sensor_sorted_api_Rat_api_Rat.L3 Al0 nl0 cl0 sl1 fl2 al2 kl2 il8 il9 (i1) B w8 R)))))))))))) ∧ (¬ ((il9 : Int) < il10) → ((((il9 : Int) < il8) → ((0 ≤ il9 ∧ il9 < nl0) ∧ ∃ a9, Al0 = some a9 ∧ (∃ (s10 : ByteArray), CellsAt w (a9.add ((il9).toNat * 1)) [(.string s10)] ∧ (callable Tryz.prog fl2 = true ∧ (Pure Tryz.prog fl2 ((Array.toList al2) ++ ([(.string s10), (.string sl1)] : List Value) ++ (Array.toList kl2)).toArray w fun r12 w13 => ∃ (i11 : Int), r12 = (.int .i64 i11) ∧ (R (.tuple #[(.int .i64 il9), (.bool (decide ((i11 : Int) = (0 : Int))))]) w13)))))) ∧ (¬ ((il9 : Int) < il8) → (R (.tuple #[(.int .i64 il9), (.bool false)]) w)))))) :
    slices_BinarySearchFunc_sensor_sorted_api_Rat_api_Rat.L3 Al0 nl0 cl0 sl1 fl2 al2 kl2 il8 il9 il10 B w R :=
  loop_of_run (slices_BinarySearchFunc_sensor_sorted_api_Rat_api_Rat.cx w B R) 100000 (loopAt Tryz.f98 3) _ _ follows Tryz.func98 rfl rfl rfl (Eq.mp (by kernel_rfl) h)
theorem slices_BinarySearchFunc_sensor_sorted_api_Rat_api_Rat.vc (Ap0 : Option Addr) (np0 cp0 : Nat) (sp1 : ByteArray) (fp2 : Nat) (ap2 kp2 : Array Value) (w : World) (R : Value → World → Prop)
    (h : (slices_BinarySearchFunc_sensor_sorted_api_Rat_api_Rat.L3 Ap0 np0 cp0 sp1 fp2 ap2 kp2 (np0 : Int) (0 : Int) (np0 : Int) w.heap.size w R)) :
    Pure Tryz.prog 98 #[(.slice Ap0 np0 cp0), (.string sp1), (.func (.func fp2) ap2 kp2)] w R :=
  pure_of_run (slices_BinarySearchFunc_sensor_sorted_api_Rat_api_Rat.cx w w.heap.size R) 100000 follows Tryz.func98 rfl rfl rfl rfl rfl rfl rfl (Eq.mp (by kernel_rfl) h)

noncomputable def slices_Insert_sensor_sorted_api_Rat.cx (w : World) (B : Nat) (R : Value → World → Prop) : Cx := ⟨Tryz.prog, 100, 95, Tryz.f100.results.toList, [], [(7, 2, 2), (9, 8, 2), (10, 4, 2), (11, 8, 2), (14, 6, 2), (15, 8, 2), (16, 4, 2), (18, 4, 2)], w, B, R⟩
theorem slices_Insert_sensor_sorted_api_Rat.vcB (Ap0 : Option Addr) (np0 cp0 : Nat) (ip1 : Int) (Ap2 : Option Addr) (np2 cp2 : Nat) (B : Nat) (w : World) (hB : B ≤ w.heap.size) (R : Value → World → Prop)
    (h : ((0 ≤ ip1 ∧ ip1 ≤ (np0 : Int) ∧ np0 ≤ cp0) ∧ (((((np2 : Int) : Int) = (0 : Int)) → (R (.slice Ap0 np0 cp0) w)) ∧ (¬ (((np2 : Int) : Int) = (0 : Int)) → ((((ip1 : Int) = (np0 : Int)) → (RunOk Tryz.prog (Builtin.append_ #[89, 88] 89 #[(.slice Ap0 np0 cp0), (.slice Ap2 np2 cp2)]) B [] w fun r2 w3 => ∃ (A1 : Option Addr) (n1 c1 : Nat), r2 = (.slice A1 n1 c1) ∧ (R (.slice A1 n1 c1) w3))) ∧ (¬ ((ip1 : Int) = (np0 : Int)) → (inR .i64 ((np0 : Int) + (np2 : Int)) ∧ ((((((np0 : Int) + (np2 : Int)) : Int) > (cp0 : Int)) → ((0 ≤ ip1 ∧ ip1 ≤ (cp0 : Int)) ∧ (inR .i64 ((np0 : Int) + (np2 : Int)) ∧ (inR .i64 (((np0 : Int) + (np2 : Int)) - ip1) ∧ (RunOk Tryz.prog (Builtin.append_ #[89, 3] 89 #[(.slice Ap0 ((ip1).toNat) cp0), (.int .i64 (((np0 : Int) + (np2 : Int)) - ip1))]) B [] w fun r5 w6 => ∃ (A4 : Option Addr) (n4 c4 : Nat), r5 = (.slice A4 n4 c4) ∧ ((0 ≤ ip1 ∧ ip1 ≤ (n4 : Int) ∧ n4 ≤ c4) ∧ (RunOk Tryz.prog (Builtin.copy_ #[89, 88] 3 #[(.slice (cutAddr A4 ((ip1).toNat) c4 1) (n4 - (ip1).toNat) (c4 - (ip1).toNat)), (.slice Ap2 np2 cp2)]) B [] w6 fun r8 w9 => ∃ (i7 : Int), r8 = (.int .i64 i7) ∧ (inR .i64 (ip1 + (np2 : Int)) ∧ ((0 ≤ (ip1 + (np2 : Int)) ∧ (ip1 + (np2 : Int)) ≤ (n4 : Int) ∧ n4 ≤ c4) ∧ ((0 ≤ ip1 ∧ ip1 ≤ (np0 : Int) ∧ np0 ≤ cp0) ∧ (∀ w10, Ext B [] w9 w10 → (RunOk Tryz.prog (Builtin.copy_ #[89, 89] 3 #[(.slice (cutAddr A4 (((ip1 + (np2 : Int))).toNat) c4 1) (n4 - ((ip1 + (np2 : Int))).toNat) (c4 - ((ip1 + (np2 : Int))).toNat)), (.slice (cutAddr Ap0 ((ip1).toNat) cp0 1) (np0 - (ip1).toNat) (cp0 - (ip1).toNat))]) B [] w10 fun r12 w13 => ∃ (i11 : Int), r12 = (.int .i64 i11) ∧ (R (.slice A4 n4 c4) w13))))))))))))) ∧ (¬ ((((np0 : Int) + (np2 : Int)) : Int) > (cp0 : Int)) → (inR .i64 ((np0 : Int) + (np2 : Int)) ∧ ((0 ≤ ((np0 : Int) + (np2 : Int)) ∧ ((np0 : Int) + (np2 : Int)) ≤ (cp0 : Int)) ∧ (inR .i64 (ip1 + (np2 : Int)) ∧ ((0 ≤ (ip1 + (np2 : Int)) ∧ (ip1 + (np2 : Int)) ≤ (((((np0 : Int) + (np2 : Int))).toNat) : Int) ∧ ((((np0 : Int) + (np2 : Int))).toNat) ≤ cp0) ∧ (RunOkN Tryz.prog (callFunc 118 #[(.slice Ap2 np2 cp2), (.slice (cutAddr Ap0 (((ip1 + (np2 : Int))).toNat) cp0 1) (((((np0 : Int) + (np2 : Int))).toNat) - ((ip1 + (np2 : Int))).toNat) (cp0 - ((ip1 + (np2 : Int))).toNat))]) B [] w fun r15 w16 => ∃ (b14 : Bool), r15 = (.bool b14) ∧ (((b14 = false) → (inR .i64 (ip1 + (np2 : Int)) ∧ ((0 ≤ (ip1 + (np2 : Int)) ∧ (ip1 + (np2 : Int)) ≤ (((((np0 : Int) + (np2 : Int))).toNat) : Int) ∧ ((((np0 : Int) + (np2 : Int))).toNat) ≤ cp0) ∧ ((0 ≤ ip1 ∧ ip1 ≤ (((((np0 : Int) + (np2 : Int))).toNat) : Int) ∧ ((((np0 : Int) + (np2 : Int))).toNat) ≤ cp0) ∧ (∀ w17, Ext B [] w16 w17 → (RunOk Tryz.prog (Builtin.copy_ #[89, 89] 3 #[(.slice (cutAddr Ap0 (((ip1 + (np2 : Int))).toNat) cp0 1) (((((np0 : Int) + (np2 : Int))).toNat) - ((ip1 + (np2 : Int))).toNat) (cp0 - ((ip1 + (np2 : Int))).toNat)), (.slice (cutAddr Ap0 ((ip1).toNat) cp0 1) (((((np0 : Int) + (np2 : Int))).toNat) - (ip1).toNat) (cp0 - (ip1).toNat))]) B [] w17 fun r19 w20 => ∃ (i18 : Int), r19 = (.int .i64 i18) ∧ ((0 ≤ ip1 ∧ ip1 ≤ (((((np0 : Int) + (np2 : Int))).toNat) : Int) ∧ ((((np0 : Int) + (np2 : Int))).toNat) ≤ cp0) ∧ (RunOk Tryz.prog (Builtin.copy_ #[89, 88] 3 #[(.slice (cutAddr Ap0 ((ip1).toNat) cp0 1) (((((np0 : Int) + (np2 : Int))).toNat) - (ip1).toNat) (cp0 - (ip1).toNat)), (.slice Ap2 np2 cp2)]) B [] w20 fun r22 w23 => ∃ (i21 : Int), r22 = (.int .i64 i21) ∧ (R (.slice Ap0 ((((np0 : Int) + (np2 : Int))).toNat) cp0) w23))))))))) ∧ (¬ (b14 = false) → ((0 ≤ (np0 : Int) ∧ (np0 : Int) ≤ (((((np0 : Int) + (np2 : Int))).toNat) : Int) ∧ ((((np0 : Int) + (np2 : Int))).toNat) ≤ cp0) ∧ (RunOk Tryz.prog (Builtin.copy_ #[89, 88] 3 #[(.slice (cutAddr Ap0 (((np0 : Int)).toNat) cp0 1) (((((np0 : Int) + (np2 : Int))).toNat) - ((np0 : Int)).toNat) (cp0 - ((np0 : Int)).toNat)), (.slice Ap2 np2 cp2)]) B [] w16 fun r25 w26 => ∃ (i24 : Int), r25 = (.int .i64 i24) ∧ ((0 ≤ ip1 ∧ ip1 ≤ (((((np0 : Int) + (np2 : Int))).toNat) : Int) ∧ ((((np0 : Int) + (np2 : Int))).toNat) ≤ cp0) ∧ (Pure Tryz.prog 119 #[(.slice (cutAddr Ap0 ((ip1).toNat) cp0 1) (((((np0 : Int) + (np2 : Int))).toNat) - (ip1).toNat) (cp0 - (ip1).toNat)), (.int .i64 (np2 : Int))] w26 fun r27 w28 => r27 = (.tuple #[]) ∧ (R (.slice Ap0 ((((np0 : Int) + (np2 : Int))).toNat) cp0) w28))))))))))))))))))))) :
    PureB Tryz.prog 100 #[(.slice Ap0 np0 cp0), (.int .i64 ip1), (.slice Ap2 np2 cp2)] B w R :=
  pureB_of_run (slices_Insert_sensor_sorted_api_Rat.cx w B R) 100000 follows Tryz.func100 rfl rfl rfl rfl hB rfl rfl (Eq.mp (by kernel_rfl) h)

def slices_IndexFunc_sensor_sorted_api_Rat.L2 (Al0 : Option Addr) (nl0 cl0 : Nat) (fl1 : Nat) (al1 : Array Value) (kl1 : Array Value) (il7 : Int) (il8 : Int) (B : Nat) (w : World) (R : Value → World → Prop) : Prop := At Tryz.prog 103 19 (loopAt Tryz.f103 2) [(0, .v (.slice Al0 nl0 cl0)), (1, .v (.func (.func fl1) al1 kl1)), (7, .v (.int .i64 il7)), (8, .v (.int .i64 il8))] [] B w R
noncomputable def slices_IndexFunc_sensor_sorted_api_Rat.cx (w : World) (B : Nat) (R : Value → World → Prop) : Cx := ⟨Tryz.prog, 103, 19, Tryz.f103.results.toList, [((true, 2), [0, 1, 7, 8], [])], [(4, 5, 4)], w, B, R⟩
theorem slices_IndexFunc_sensor_sorted_api_Rat.L2.step (Al0 : Option Addr) (nl0 cl0 : Nat) (fl1 : Nat) (al1 : Array Value) (kl1 : Array Value) (il7 : Int) (il8 : Int) (B : Nat) (w : World) (R : Value → World → Prop)
    (h : ((((il8 : Int) < il7) → ((0 ≤ il8 ∧ il8 < nl0) ∧ ∃ a1, Al0 = some a1 ∧ (∃ (s2 : ByteArray), CellsAt w (a1.add ((il8).toNat * 1)) [(.string s2)] ∧ (callable Tryz.prog fl1 = true ∧ (Pure Tryz.prog fl1 ((Array.toList al1) ++ ([(.string s2)] : List Value) ++ (Array.toList kl1)).toArray w fun r4 w5 => ∃ (b3 : Bool), r4 = (.bool b3) ∧ ((b3 = true → (R (.int .i64 il8) w5)) ∧ (b3 = false → (inR .i64 (il8 + (1 : Int)) ∧ (slices_IndexFunc_sensor_sorted_api_Rat.L2 Al0 nl0 cl0 fl1 al1 kl1 il7 (il8 + (1 : Int)) B w5 R))))))))) ∧ (¬ ((il8 : Int) < il7) → (R (.int .i64 (-1 : Int)) w)))) :
    slices_IndexFunc_sensor_sorted_api_Rat.L2 Al0 nl0 cl0 fl1 al1 kl1 il7 il8 B w R :=
  loop_of_run (slices_IndexFunc_sensor_sorted_api_Rat.cx w B R) 100000 (loopAt Tryz.f103 2) _ _ follows Tryz.func103 rfl rfl rfl (Eq.mp (by kernel_rfl) h)
theorem slices_IndexFunc_sensor_sorted_api_Rat.vc (Ap0 : Option Addr) (np0 cp0 : Nat) (fp1 : Nat) (ap1 kp1 : Array Value) (w : World) (R : Value → World → Prop)
    (h : (slices_IndexFunc_sensor_sorted_api_Rat.L2 Ap0 np0 cp0 fp1 ap1 kp1 (np0 : Int) (0 : Int) w.heap.size w R)) :
    Pure Tryz.prog 103 #[(.slice Ap0 np0 cp0), (.func (.func fp1) ap1 kp1)] w R :=
  pure_of_run (slices_IndexFunc_sensor_sorted_api_Rat.cx w w.heap.size R) 100000 follows Tryz.func103 rfl rfl rfl rfl rfl rfl rfl (Eq.mp (by kernel_rfl) h)

end Go.Proofs.YtdoailkigecmkaaGreatDoor.F

namespace Go.Proofs.YtdoailkigecmkaaGreatDoor.B
open Go Go.RowKit Go.Proofs Go.Proofs.YtdoailkigecmkaaGreatDoor.Vc

theorem el_Chs : El Tryz.prog 22 31 7 104 := El.of (by kernel_rfl)
theorem el_Vas : El Tryz.prog 32 46 4 40 := El.of (by kernel_rfl)

def numberR (c : Ch) (raw : ByteArray) : Rat := qR c.gain * qR raw + qR c.offset
def numberF (c : Ch) (raw : ByteArray) : ByteArray × Int := if (checkF [c]).2 = 0 ∧ vR raw = true then (rS (numberR c raw), 0) else (⟨#[]⟩, 1)

theorem check_valid {l : List Ch} (h : (checkF l).2 = 0) : l.length ≤ 16 ∧ ∀ i x, l[i]? = some x → faultOf (prevOf l i) x = 0 := by
  unfold checkF at h
  split at h
  · simp at h
  · refine ⟨by omega, ?_⟩
    have gen : ∀ (r : List Ch) (p : Option Ch) (k : Nat), (chk p k r).2 = 0 → ∀ i x, r[i]? = some x → faultOf (if i = 0 then p else r[i - 1]?) x = 0 := by
      intro r
      induction r with
      | nil => intro p k _ i x hx; simp at hx
      | cons c r ih =>
        intro p k h i x hx
        rw [chk] at h
        split at h
        · rename_i h0; exact absurd h h0
        · rename_i h0
          have h0 : faultOf p c = 0 := by
            apply Decidable.byContradiction
            intro k; exact h0 k
          cases i with
          | zero => simp at hx; subst hx; simpa using h0
          | succ i =>
            have := ih (some c) (k + 1) h i x (by simpa using hx)
            rw [if_neg (by omega)]
            cases i with
            | zero => simpa using this
            | succ i => simpa using this
    intro i x hx
    exact gen l none 0 h i x hx
theorem fault_valid {p : Option Ch} {c : Ch} (h : faultOf p c = 0) : (vR c.gain = true ∧ vR c.offset = true ∧ vR c.low = true ∧ vR c.high = true ∧ vR c.rate = true) ∧ ¬ (c.id < 1 ∨ 1073741824 < c.id ∨ qR c.gain = 0 ∨ qR c.high < qR c.low ∨ ¬ 0 < qR c.rate) ∧ ∀ q, p = some q → q.id < c.id := by
  unfold faultOf at h
  split at h
  · simp at h
  · rename_i h1
    have h1 := Decidable.not_not.1 h1
    split at h
    · simp at h
    · split at h
      · simp at h
      · rename_i h3
        split at h
        · simp at h
        · rename_i h4
          exact ⟨h1, h3, fun q hq => by
            apply Decidable.byContradiction
            intro k
            exact h4 ⟨q, hq, by omega⟩⟩

theorem numberR_sm {c : Ch} {raw : ByteArray} (hc : SmC c) (v1 : vR c.gain = true) (v2 : vR c.offset = true) (hr : SmS raw) (v3 : vR raw = true) : Sm 3001 (numberR c raw) :=
  Sm.mono (((vR_sm v1 hc.gain).mul (vR_sm v3 hr)).add (vR_sm v2 hc.offset)) (by omega)

theorem sensor_Number {w : World} (hg : Glob w) {c : Ch} (hc : SmC c) {raw : ByteArray} (hr : SmS raw) :
    Pure Tryz.prog 20 #[c.val, .string raw] w fun v _ => v = .tuple #[.string (numberF c raw).1, .int .i64 (numberF c raw).2] := by
  refine F.sensor_Number.vc _ _ _ _ _ _ _ _ _ _ fun w1 x1 => ?_
  have hb1 := k0 x1
  refine runOk_lit el_Chs [c.val] (by simp [Value.cells]) (by simp) hb1.size fun A2 c2 w2 ho b2 => ?_
  have hb2 := kP hb1 b2
  refine Pure.mono (sensor_right (hg.next hb2) (l := [c]) ho.sl rfl (by simpa using hc)) ?_
  rintro v w3 b3 rfl
  have hb3 := kP hb2 b3
  refine ⟨_, rfl, fun h => ?_, fun h => Pure.mono (rational_Valid (hg.next hb3) raw (by omega)) ?_⟩
  · unfold numberF
    rw [if_neg (fun k => by have := k.1; simp at h; exact h this)]
  rintro v w4 b4 rfl
  have hb4 := kP hb3 b4
  have hc0 : (checkF [c]).2 = 0 := by
    apply Decidable.byContradiction
    intro k
    simp [k] at h
  refine ⟨_, rfl, fun h2 => ?_, fun h2 w5 x5 => ?_⟩
  · unfold numberF vR
    rw [if_neg (fun k => by rw [k.2] at h2; cases h2)]
  have hv : vR raw = true := by simpa [vR] using h2
  obtain ⟨⟨v1, v2, _⟩, _⟩ := fault_valid ((check_valid hc0).2 0 c rfl)
  have hb5 := kE hb4 x5
  have m1 := sensor_mul (hg.next hb5) (hc.gain.big v1) (hr.big hv)
  rw [← vR_eq v1, ← vR_eq hv] at m1
  refine Pure.mono m1 ?_
  rintro v w6 b6 rfl
  have m2 := sensor_add (hg.next (kP hb5 b6)) (((vR_sm v1 hc.gain).mul (vR_sm hv hr)).mono (by omega)) (hc.offset.big v2)
  rw [← vR_eq v2] at m2
  refine ⟨_, rfl, Pure.mono m2 ?_⟩
  rintro v w7 _ rfl
  refine ⟨_, rfl, ?_⟩
  unfold numberF
  rw [if_pos ⟨hc0, hv⟩]
  rfl

theorem OwnR.len_le {w : World} {B ty : Nat} {A : Option Addr} {n c sz : Nat} {rows : List (List Value)} (h : OwnR w B ty A n c sz rows) : n ≤ c := by
  obtain ⟨_, _, h1, h2⟩ := ownsRow_form h.1
  cases h1; exact h2
theorem app_row {t ty e sz bytes : Nat} (el : El Tryz.prog t e sz bytes) {B0 B : Nat} (hBB : B0 ≤ B) {tys : List Nat} {w : World} {A : Option Addr} {n c : Nat} {rows : List (List Value)} (ho : OwnR w B e A n c sz rows) {x : Value} (hx : x.cells.size = sz) (h1 : ∀ u ∈ x.cells.toList, isCell u = true)
    (hB : B ≤ w.heap.size) (hsz : (n + 1) * (bytes + 1) ≤ 140737488355328) (ht : e ∉ tys) {K : Option Addr → Nat → Nat → World → Prop}
    (h : ∀ A' c' w2, OwnR w2 B e A' (n + 1) c' sz (rows ++ [x.cells.toList]) → w.grownBy w2 (Value.ownBlock (.slice A n c)) → Below B0 w w2 → K A' (n + 1) c' w2) :
    RunOk Tryz.prog (Instr.buildSlice t 1 #[(0, x)]) B0 tys w fun r w1 => ∃ A2 m c2, r = .slice A2 m c2 ∧
      RunOk Tryz.prog (Builtin.append_ #[t, t] ty #[.slice A n c, .slice A2 m c2]) B0 tys w1 fun r w2 => ∃ A n c, r = .slice A n c ∧ K A n c w2 :=
  runOk_append1 el hBB ho.1 hx h1 hB hsz ht fun A' c' w2 k1 k2 k3 => h A' c' w2 ⟨by rw [List.flatten_append]; simpa using k1, by simp [ho.len], fun r hr => by
    rcases List.mem_append.1 hr with h | h
    · exact ho.2.2 r h
    · simp at h; subst h; simpa using hx⟩ k2 k3

def startF (l : List Ch) : List Va := l.map fun c => ⟨c.id, 0, 0, ⟨#[48]⟩⟩

theorem start_loop {w0 : World} {A : Option Addr} {n c : Nat} {l : List Ch} (hl : SlR w0 A 7 (l.map Ch.row)) (hlen : l.length = n) (hn : n ≤ 1000) {R : Value → World → Prop}
    (hR : ∀ A' c' w, OwnR w w0.heap.size 46 A' n c' 4 ((startF l).map Va.row) → R (.tuple #[.slice A' n c', .int .i64 0]) w) :
    ∀ (d i : Nat) (w : World) (A' : Option Addr) (c' : Nat), n - i = d → i ≤ n → Below w0.heap.size w0 w → OwnR w w0.heap.size 46 A' i c' 4 (((startF l).take i).map Va.row) →
      F.sensor_Start.L5 A' i c' A n c n i w0.heap.size w R := by
  intro d
  induction d with
  | zero =>
    intro i w A' c' hd hi hw ho
    have : i = n := by omega
    subst this
    rw [List.take_of_length_le (by simp [startF]; omega)] at ho
    exact F.sensor_Start.L5.step _ _ _ _ _ _ _ _ _ _ _ ⟨fun h => by omega, fun _ => hR _ _ _ ho⟩
  | succ d ih =>
    intro i w A' c' hd hi hw ho
    have hil : i < l.length := by omega
    refine F.sensor_Start.L5.step _ _ _ _ _ _ _ _ _ _ _ ⟨fun _ => ?_, fun h => by omega⟩
    obtain ⟨hb, a, hA, hrow⟩ := (hl.keep hw (Nat.le_refl _)).load (n := n) (by simpa using hlen) (j := (i : Int)) (by omega) (by omega)
    obtain ⟨hcell, _⟩ := hrow l[i].row (by rw [Int.toNat_natCast]; simp [hil]) rfl
    refine ⟨hb, a, hA, _, _, _, _, _, _, _, hcell, fun w2 x2 => ?_⟩
    have hw2 := kE hw x2
    have ho2 : OwnR w2 w0.heap.size 46 A' i c' 4 (((startF l).take i).map Va.row) := by
      refine ho.other fun a ha => ?_
      rcases x2.other a.block (ho.blk a ha).2 with h | ⟨t, ht, _⟩
      · exact h
      · simp at ht
    refine app_row el_Vas (Nat.le_refl _) ho2 rfl (by simp [Value.cells, isCell]) hw2.size (by omega) (by decide) fun A3 c3 w3 o3 _ b3 => ⟨by simp only [inR]; omega, ?_⟩
    have e3 : (i : Int) + 1 = ((i + 1 : Nat) : Int) := by omega
    rw [e3]
    refine ih (i + 1) w3 A3 c3 (by omega) (by omega) (hw2.trans b3) ?_
    have e4 : (startF l).take (i + 1) = (startF l).take i ++ [⟨l[i].id, 0, 0, ⟨#[48]⟩⟩] := by
      rw [List.take_add_one]
      congr 1
      simp [startF, hil]
    rw [e4, List.map_append]
    exact o3

theorem sensor_Start {w : World} (hg : Glob w) {A : Option Addr} {n c : Nat} {l : List Ch} (hl : SlR w A 7 (l.map Ch.row)) (hlen : l.length = n) (hsm : ∀ x ∈ l, SmC x) :
    Pure Tryz.prog 15 #[.slice A n c] w fun v w' => (¬ (checkF l).2 = 0 → v = .tuple #[.slice none 0 0, .int .i64 1]) ∧ ((checkF l).2 = 0 → ∃ A' c', v = .tuple #[.slice A' n c', .int .i64 0] ∧ OwnR w' w.heap.size 46 A' n c' 4 ((startF l).map Va.row)) := by
  refine F.sensor_Start.vc _ _ _ _ _ (Pure.mono (sensor_right hg hl hlen hsm) ?_)
  rintro v w2 b2 rfl
  refine ⟨_, rfl, fun h => ⟨fun _ => rfl, fun k => by simp [k] at h⟩, fun h => ?_⟩
  have h0 : (checkF l).2 = 0 := by
    apply Decidable.byContradiction
    intro k
    simp [k] at h
  have hl16 := (check_valid h0).1
  refine start_loop (w0 := w) hl hlen (by omega) (fun A' c' w' ho => ⟨fun k => absurd h0 k, fun _ => ⟨A', c', rfl, ho⟩⟩) n 0 w2 none 0 rfl (by omega) b2 ?_
  simpa using OwnR.nil

def fit1 (c : Ch) (x : Va) : Bool := x.chan == c.id && decide (0 ≤ x.qual ∧ x.qual ≤ 3) && decide (0 ≤ x.tick ∧ x.tick ≤ 1073741824) && vR x.num && (x.qual != 0 || (x.tick == 0 && decide (x.num = ⟨#[48]⟩)))
def fitsF : List Ch → List Va → Bool
  | [], [] => true
  | c :: r, x :: s => fit1 c x && fitsF r s
  | _, _ => false
end Go.Proofs.YtdoailkigecmkaaGreatDoor.B

namespace Go.Proofs.YtdoailkigecmkaaGreatDoor.B
open Go Go.RowKit Go.Proofs Go.Proofs.YtdoailkigecmkaaGreatDoor.Vc

abbrev SmV (x : Va) : Prop := SmS x.num

theorem fits_loop {w0 : World} (hg : Glob w0) {A A1 : Option Addr} {n c c1 : Nat} {l : List Ch} {v : List Va} (hl : SlR w0 A 7 (l.map Ch.row)) (hlen : l.length = n) (hv : SlR w0 A1 4 (v.map Va.row)) (hvlen : v.length = n) (hn : n < 2147483648) (hsm : ∀ x ∈ v, SmV x) {R : Value → World → Prop} {r : Bool} (hR : ∀ w, R (.bool r) w) :
    ∀ (d i : Nat) (w : World), n - i = d → i ≤ n → Below w0.heap.size w0 w → r = fitsF (l.drop i) (v.drop i) → F.sensor_fits.L4 A n c A1 n c1 n i w0.heap.size w R := by
  intro d
  induction d with
  | zero =>
    intro i w hd hi hw hr
    rw [List.drop_eq_nil_of_le (by omega), List.drop_eq_nil_of_le (by omega)] at hr
    subst hr
    exact F.sensor_fits.L4.step _ _ _ _ _ _ _ _ _ _ _ ⟨fun h => by omega, fun _ => hR w⟩
  | succ d ih =>
    intro i w hd hi hw hr
    have hil : i < l.length := by omega
    have hiv : i < v.length := by omega
    rw [List.drop_eq_getElem_cons hil, List.drop_eq_getElem_cons hiv, fitsF] at hr
    obtain ⟨hb, a, hA, hrow⟩ := (hv.keep hw (Nat.le_refl _)).load (n := n) (by simpa using hvlen) (j := (i : Int)) (by omega) (by omega)
    obtain ⟨hcell, _⟩ := hrow v[i].row (by rw [Int.toNat_natCast]; simp [hiv]) rfl
    refine F.sensor_fits.L4.step _ _ _ _ _ _ _ _ _ _ _ ⟨fun _ => ?_, fun h => by omega⟩
    refine ⟨hb, a, hA, _, _, _, _, hcell, fun w2 x2 => ?_⟩
    have hw2 := kE hw x2
    obtain ⟨hb2, a2, hA2, hrow2⟩ := (hl.keep hw2 (Nat.le_refl _)).load (n := n) (by simpa using hlen) (j := (i : Int)) (by omega) (by omega)
    obtain ⟨_, hcell2⟩ := hrow2 l[i].row (by rw [Int.toNat_natCast]; simp [hil]) rfl
    have bad : fit1 l[i] v[i] = false → r = false := fun h => by rw [hr, h, Bool.false_and]
    have sv : SmV v[i] := hsm _ (List.getElem_mem _)
    refine ⟨hb2, a2, hA2, _, hcell2 0 _ rfl, fun h1 w3 _ => ?_, fun h1 => ⟨fun h2 w3 _ => ?_, fun h2 => ⟨fun h3 w3 _ => ?_, fun h3 w3 x3 => ?_⟩⟩⟩
    · have := hR w3; rwa [bad (by simp [fit1]; intro k; omega)] at this
    · have := hR w3; rwa [bad (by simp [fit1]; intros; omega)] at this
    · have := hR w3; rwa [bad (by simp [fit1]; intros; omega)] at this
    have hw3 := kE hw2 x3
    refine Pure.mono (sensor_tick _ _) ?_
    rintro y w4 b4 rfl
    have hw4 := kP hw3 b4
    refine ⟨_, rfl, fun h4 => ?_, fun h4 => Pure.mono (rational_Valid (hg.next hw4) v[i].num (by omega)) ?_⟩
    · have := hR w4
      rwa [bad (by
        have h5 : decide (0 ≤ v[i].tick ∧ v[i].tick ≤ 1073741824) = false := h4
        unfold fit1
        rw [h5]
        simp)] at this
    rintro y w5 b5 rfl
    have hw5 := kP hw4 b5
    refine ⟨_, rfl, fun h6 => ?_, fun h6 => ?_⟩
    · have := hR w5
      rwa [bad (by
        have h5 : vR v[i].num = false := h6
        unfold fit1
        rw [h5]
        simp)] at this
    have k1 : v[i].chan = l[i].id := by
      apply Decidable.byContradiction
      intro k
      exact h1 k
    have k2 : decide (0 ≤ v[i].tick ∧ v[i].tick ≤ 1073741824) = true := by simpa using h4
    have k3 : vR v[i].num = true := by simpa [vR] using h6
    have k4 : decide (0 ≤ v[i].qual ∧ v[i].qual ≤ 3) = true := by simp; omega
    have e3 : (i : Int) + 1 = ((i + 1 : Nat) : Int) := by omega
    have go : fit1 l[i] v[i] = true → F.sensor_fits.L4 A n c A1 n c1 n ((i : Int) + 1) w0.heap.size w5 R := fun h => by
      rw [e3]
      exact ih (i + 1) w5 (by omega) (by omega) hw5 (by rw [hr, h, Bool.true_and])
    refine ⟨fun h7 => ⟨fun h8 => ?_, fun h8 => ⟨fun h9 => ?_, fun h9 => ⟨by simp only [inR]; omega, go ?_⟩⟩⟩, fun h7 => ⟨by simp only [inR]; omega, go ?_⟩⟩
    · have := hR w5; rwa [bad (by simp [fit1]; intros; exact ⟨h7, fun k => absurd k h8⟩)] at this
    · have := hR w5; rwa [bad (by simp [fit1]; intros; exact ⟨h7, fun _ k => h9 k⟩)] at this
    · have h8' : v[i].tick = 0 := by apply Decidable.byContradiction; intro k; exact h8 k
      have h9' : v[i].num = ⟨#[48]⟩ := by apply Decidable.byContradiction; intro k; exact h9 k
      unfold fit1
      rw [k2, k3, k4]
      simp [k1, h8', h9']
    · unfold fit1
      rw [k2, k3, k4]
      simp [k1, h7]

theorem fitsF_len : ∀ (l : List Ch) (v : List Va), l.length ≠ v.length → fitsF l v = false := by
  intro l
  induction l with
  | nil => intro v h; cases v with
    | nil => simp at h
    | cons x s => rfl
  | cons c r ih => intro v h; cases v with
    | nil => rfl
    | cons x s => rw [fitsF, ih s (by simpa using h), Bool.and_false]
theorem fitsF_at : ∀ {l : List Ch} {v : List Va}, fitsF l v = true → l.length = v.length ∧ ∀ (i : Nat) (c : Ch) (x : Va), l[i]? = some c → v[i]? = some x → fit1 c x = true := by
  intro l
  induction l with
  | nil => intro v h; cases v with
    | nil => exact ⟨rfl, fun i c x hc => by simp at hc⟩
    | cons x s => simp [fitsF] at h
  | cons c r ih => intro v h; cases v with
    | nil => simp [fitsF] at h
    | cons x s =>
      rw [fitsF, Bool.and_eq_true] at h
      obtain ⟨h1, h2⟩ := ih h.2
      refine ⟨by simp [h1], fun i c' x' hc hx => ?_⟩
      cases i with
      | zero => simp at hc hx; subst hc; subst hx; exact h.1
      | succ i => exact h2 i c' x' (by simpa using hc) (by simpa using hx)

theorem sensor_fits {w : World} (hg : Glob w) {A A1 : Option Addr} {n n1 c c1 : Nat} {l : List Ch} {v : List Va} (hl : SlR w A 7 (l.map Ch.row)) (hlen : l.length = n) (hv : SlR w A1 4 (v.map Va.row)) (hvlen : v.length = n1) (hn : n < 2147483648) (hsm : ∀ x ∈ v, SmV x) :
    Pure Tryz.prog 53 #[.slice A n c, .slice A1 n1 c1] w fun y _ => y = .bool (fitsF l v) := by
  refine F.sensor_fits.vc _ _ _ _ _ _ _ _ ⟨fun h => ?_, fun h => ?_⟩
  · rw [fitsF_len _ _ (by omega)]
  · have e : n1 = n := by omega
    subst e
    exact fits_loop hg hl hlen hv hvlen hn hsm (fun _ => rfl) n1 0 w rfl (by omega) (Below.refl _ _) rfl

def qualF (c : Ch) (was : Va) (x : Rat) (at_ : Int) : Int :=
  if x < qR c.low ∨ qR c.high < x then 2
  else if was.qual = 1 ∧ qR c.rate * ((at_ - was.tick : Int) : Rat) < absR (x - qR was.num) then 3
  else 1

theorem add_plain0 (b o : Nat) (k : Nat) : (⟨b, o, none⟩ : Addr).add k = ⟨b, o + k, none⟩ := by
  unfold Addr.add
  split
  · rename_i h; subst h; rfl
  · rfl
theorem box_cell {w : World} {b ty : Nat} {vs : List Value} (h : w.heap[b]? = some (.cells vs.toArray ty (0, 0))) {k : Nat} {v : Value} (hk : vs[k]? = some v) : CellsAt w ((⟨b, 0, none⟩ : Addr).add k) [v] := by
  intro i hi
  simp at hi
  subst hi
  rw [add_plain0, add_plain0]
  simp [World.cell?, h, hk]
theorem box_cell0 {w : World} {b ty : Nat} {vs : List Value} (h : w.heap[b]? = some (.cells vs.toArray ty (0, 0))) {v : Value} (hk : vs[0]? = some v) : CellsAt w (⟨b, 0, none⟩ : Addr) [v] := by
  have := box_cell h hk
  rwa [add_plain0] at this
theorem heap_keep {w w' : World} {b : Nat} {o : Obj} (h : w.heap[b]? = some o) (hb : Below w.heap.size w w') : w'.heap[b]? = some o := (hb.block b (Array.getElem?_eq_some_iff.1 h).1).trans h

theorem qual_c1 {w : World} (hg : Glob w) {c : Ch} (hc : SmC c) (v3 : vR c.low = true) (v4 : vR c.high = true) {x : Rat} (hx : Big x) {p2 p3 : Nat} (h2 : w.heap[p2]? = some (.cells (c.row).toArray 31 (0, 0))) (h3 : w.heap[p3]? = some (.cells [.string (rS x)].toArray 23 (0, 0))) :
    Pure Tryz.prog 94 #[.pointer (some ⟨p3, 0, none⟩), .pointer (some ⟨p2, 0, none⟩)] w fun v _ => v = .bool (decide (x < qR c.low ∨ qR c.high < x)) := by
  have eL := vR_eq v3
  have eH := vR_eq v4
  refine F.sensor_quality_c1.vc _ _ _ _ ⟨_, box_cell0 h3 rfl, _, box_cell h2 rfl, ?_⟩
  have m1 := sensor_compare hg hx (hc.low.big v3)
  rw [← eL] at m1
  refine Pure.mono m1 ?_
  rintro v w2 b2 rfl
  refine ⟨_, rfl, fun h => ?_, fun h => ?_⟩
  · rw [cmpR_lt] at h
    simp [h]
  · rw [cmpR_lt] at h
    refine ⟨_, box_cell0 (heap_keep h3 b2) rfl, _, box_cell (heap_keep h2 b2) rfl, ?_⟩
    have m2 := sensor_compare (hg.next b2) hx (hc.high.big v4)
    rw [← eH] at m2
    refine Pure.mono m2 ?_
    rintro v w3 _ rfl
    refine ⟨_, rfl, ?_⟩
    have : cmpR x (qR c.high) > 0 ↔ qR c.high < x := cmpR_gt
    simp [h, this]

theorem qual_c2 {w : World} (hg : Glob w) {c : Ch} (hc : SmC c) (v5 : vR c.rate = true) {u : Va} (hu : SmV u) (vu : vR u.num = true) (tu : 0 ≤ u.tick ∧ u.tick ≤ 1073741824) {x : Rat} (hx : Sm 10000 x) {at_ : Int} (ta : 0 ≤ at_ ∧ at_ ≤ 1073741824) {p2 p3 p4 p5 : Nat} (h2 : w.heap[p2]? = some (.cells (c.row).toArray 31 (0, 0))) (h3 : w.heap[p3]? = some (.cells [.string (rS x)].toArray 23 (0, 0)))
    (h4 : w.heap[p4]? = some (.cells [.int .i64 at_].toArray 3 (0, 0))) (h5 : w.heap[p5]? = some (.cells (u.row).toArray 46 (0, 0))) :
    Pure Tryz.prog 95 #[.pointer (some ⟨p5, 0, none⟩), .pointer (some ⟨p3, 0, none⟩), .pointer (some ⟨p2, 0, none⟩), .pointer (some ⟨p4, 0, none⟩)] w fun v _ => v = .bool (decide (u.qual = 1 ∧ qR c.rate * ((at_ - u.tick : Int) : Rat) < absR (x - qR u.num))) := by
  have eU := vR_eq vu
  have eR := vR_eq v5
  refine F.sensor_quality_c2.vc _ _ _ _ _ _ ⟨_, box_cell h5 rfl, fun hq => ⟨_, box_cell0 h3 rfl, _, box_cell h5 rfl, _, box_cell h2 rfl, _, box_cell0 h4 rfl, _, box_cell h5 rfl, by simp only [inR]; omega, fun w1 x1 => ?_⟩, fun hq w1 _ => ?_⟩
  · have hb1 := k0 x1
    have su := vR_sm vu hu
    have m1 := sensor_sub (hg.next hb1) (hx.mono (by omega)) (hu.big vu)
    rw [← eU] at m1
    refine Pure.mono m1 ?_
    rintro v w2 b2 rfl
    have hb2 := kP hb1 b2
    have s2 : Sm 20000 (x - qR u.num) := (hx.sub su).mono (by omega)
    refine ⟨_, rfl, Pure.mono (sensor_size (hg.next hb2) (s2.mono (by omega))) ?_⟩
    rintro v w3 b3 rfl
    have hb3 := kP hb2 b3
    refine ⟨_, rfl, Pure.mono (sensor_number (hg.next hb3) (by omega) (by omega)) ?_⟩
    rintro v w4 b4 rfl
    have hb4 := kP hb3 b4
    have s4 : Sm 10 ((at_ - u.tick : Int) : Rat) := Sm.ofInt (by omega) (by omega)
    have m2 := sensor_mul (hg.next hb4) (hc.rate.big v5) (s4.mono (by omega))
    rw [← eR] at m2
    refine ⟨_, rfl, Pure.mono m2 ?_⟩
    rintro v w5 b5 rfl
    have hb5 := kP hb4 b5
    have s5 : Sm 2000 (qR c.rate * ((at_ - u.tick : Int) : Rat)) := ((vR_sm v5 hc.rate).mul s4).mono (by omega)
    refine ⟨_, rfl, Pure.mono (sensor_compare (hg.next hb5) (s2.abs.mono (by omega)) (s5.mono (by omega))) ?_⟩
    rintro v w6 _ rfl
    refine ⟨_, rfl, ?_⟩
    have : cmpR (absR (x - qR u.num)) (qR c.rate * ((at_ - u.tick : Int) : Rat)) > 0 ↔ qR c.rate * ((at_ - u.tick : Int) : Rat) < absR (x - qR u.num) := cmpR_gt
    have hq' : u.qual = 1 := hq
    refine congrArg Value.bool ?_
    rw [decide_eq_decide, this]
    exact ⟨fun h => ⟨hq', h⟩, fun h => h.2⟩
  · have hq' : ¬ u.qual = 1 := hq
    simp [hq']
end Go.Proofs.YtdoailkigecmkaaGreatDoor.B

namespace Go.Proofs.YtdoailkigecmkaaGreatDoor.B
open Go Go.RowKit Go.Proofs Go.Proofs.YtdoailkigecmkaaGreatDoor.Vc

theorem el_Kinds : El Tryz.prog 124 122 2 16 := El.of (by kernel_rfl)
theorem ext_nil {B : Nat} {w w' : World} (x : Ext B [] w w') {k : Nat} {o : Obj} (h : w.heap[k]? = some o) : w'.heap[k]? = some o := by
  rcases x.other k (Array.getElem?_eq_some_iff.1 h).1 with h1 | ⟨t, ht, _⟩
  · rw [h1]; exact h
  · simp at ht
theorem OwnR.extNil {B0 : Nat} {w w' : World} {B ty : Nat} {A : Option Addr} {n c sz : Nat} {rows : List (List Value)} (h : OwnR w B ty A n c sz rows) (x : Ext B0 [] w w') : OwnR w' B ty A n c sz rows :=
  h.other fun a ha => by
    rcases x.other a.block (h.blk a ha).2 with h1 | ⟨t, ht, _⟩
    · exact h1
    · simp at ht
theorem SlR.extNil {B0 : Nat} {w w' : World} {A : Option Addr} {sz : Nat} {rows : List (List Value)} (h : SlR w A sz rows) (x : Ext B0 [] w w') : SlR w' A sz rows := by
  rcases h with h | ⟨b, off, cs, ty, fr, hA, hh, hc⟩
  · exact .inl h
  · exact .inr ⟨b, off, cs, ty, fr, hA, ext_nil x hh, hc⟩

set_option maxRecDepth 4000 in
theorem sensor_quality {w : World} (hg : Glob w) {c : Ch} (hc : SmC c) (hf : vR c.low = true ∧ vR c.high = true ∧ vR c.rate = true) {u : Va} (hu : SmV u) (vu : vR u.num = true) (tu : 0 ≤ u.tick ∧ u.tick ≤ 1073741824) {x : Rat} (hx : Sm 10000 x) {at_ : Int} (ta : 0 ≤ at_ ∧ at_ ≤ 1073741824) :
    Pure Tryz.prog 56 #[c.val, u.val, .string (rS x), .int .i64 at_] w fun v _ => v = .int .i64 (qualF c u x at_) := by
  obtain ⟨v3, v4, v5⟩ := hf
  refine F.sensor_quality.vc _ _ _ _ _ _ _ _ _ _ _ _ _ _ _ fun w1 x1 p2 hp2 h2 p3 hp3 h3 p4 hp4 h4 p5 hp5 h5 => ?_
  have hb1 := k0 x1
  refine runOk_lit el_Kinds [.agg #[.int .i64 2, .func (.func 94) #[] #[.pointer (some ⟨p3, 0, none⟩), .pointer (some ⟨p2, 0, none⟩)]], .agg #[.int .i64 3, .func (.func 95) #[] #[.pointer (some ⟨p5, 0, none⟩), .pointer (some ⟨p3, 0, none⟩), .pointer (some ⟨p2, 0, none⟩), .pointer (some ⟨p4, 0, none⟩)]]]
    (by simp [Value.cells]) (by simp) hb1.size fun A2 c2 w2 ho b2 => ?_
  have hb2 := kP hb1 b2
  obtain ⟨hbd, a, hA, hrow⟩ := ho.sl.load (n := 2) rfl (j := 0) (by omega) (by omega)
  obtain ⟨hcell, _⟩ := hrow _ rfl rfl
  refine F.sensor_quality.L3.step _ _ _ _ _ _ _ _ ⟨fun _ => ⟨hbd, a, hA, _, _, _, _, hcell, by kernel_rfl, fun w3 x3 => ?_⟩, fun h => by simp at h⟩
  have hb3 := kE hb2 x3
  have g2 := ext_nil x3 (heap_keep h2 b2)
  have g3 := ext_nil x3 (heap_keep h3 b2)
  have g4 := ext_nil x3 (heap_keep h4 b2)
  have g5 := ext_nil x3 (heap_keep h5 b2)
  have ho3 := ho.extNil x3
  refine Pure.mono (qual_c1 (hg.next hb3) hc v3 v4 (hx.mono (by omega)) g2 g3) ?_
  rintro v w4 b4 rfl
  have hb4 := kP hb3 b4
  refine ⟨_, rfl, fun h => ?_, fun h => ⟨by simp only [inR]; omega, ?_⟩⟩
  · have h' : x < qR c.low ∨ qR c.high < x := by simpa using h
    unfold qualF
    rw [if_pos h']
  have h' : ¬ (x < qR c.low ∨ qR c.high < x) := by simpa using h
  obtain ⟨hbd, a, hA, hrow⟩ := (ho3.below b4).sl.load (n := 2) rfl (j := 1) (by omega) (by omega)
  obtain ⟨hcell, _⟩ := hrow _ rfl rfl
  refine F.sensor_quality.L3.step _ _ _ _ _ _ _ _ ⟨fun _ => ⟨hbd, a, hA, _, _, _, _, hcell, by kernel_rfl, fun w5 x5 => ?_⟩, fun h => by simp at h⟩
  have hb5 := kE hb4 x5
  refine Pure.mono (qual_c2 (hg.next hb5) hc v5 hu vu tu hx ta (ext_nil x5 (heap_keep g2 b4)) (ext_nil x5 (heap_keep g3 b4)) (ext_nil x5 (heap_keep g4 b4)) (ext_nil x5 (heap_keep g5 b4))) ?_
  rintro v w6 b6 rfl
  refine ⟨_, rfl, fun h2 => ?_, fun h2 => ⟨by simp only [inR]; omega, ?_⟩⟩
  · have h2' : u.qual = 1 ∧ qR c.rate * ((at_ - u.tick : Int) : Rat) < absR (x - qR u.num) := of_decide_eq_true h2
    unfold qualF
    rw [if_neg h', if_pos h2']
  · have h2' : ¬ (u.qual = 1 ∧ qR c.rate * ((at_ - u.tick : Int) : Rat) < absR (x - qR u.num)) := of_decide_eq_false h2
    refine F.sensor_quality.L3.step _ _ _ _ _ _ _ _ ⟨fun h => by simp at h, fun _ => ?_⟩
    unfold qualF
    rw [if_neg h', if_neg h2']

def idxF (p : Ch → Bool) : Nat → List Ch → Int
  | _, [] => -1
  | i, c :: r => if p c then (i : Int) else idxF p (i + 1) r

theorem index_loop {w0 : World} {A : Option Addr} {n c : Nat} {l : List Ch} (hl : SlR w0 A 7 (l.map Ch.row)) (hlen : l.length = n) (hn : n < 2147483648) {f : Nat} {a k : Array Value} (hcall : callable Tryz.prog f = true) {p : Ch → Bool}
    (hf : ∀ w, Below w0.heap.size w0 w → ∀ x : Ch, Pure Tryz.prog f (a.toList ++ ([x.val] : List Value) ++ k.toList).toArray w fun v _ => v = .bool (p x)) {R : Value → World → Prop} {r : Int} (hR : ∀ w, R (.int .i64 r) w) :
    ∀ (d i : Nat) (w : World), n - i = d → i ≤ n → Below w0.heap.size w0 w → r = idxF p i (l.drop i) → F.slices_IndexFunc_api_Channel_api_Channel.L2 A n c f a k n i w0.heap.size w R := by
  intro d
  induction d with
  | zero =>
    intro i w hd hi hw hr
    rw [List.drop_eq_nil_of_le (by omega)] at hr
    subst hr
    exact F.slices_IndexFunc_api_Channel_api_Channel.L2.step _ _ _ _ _ _ _ _ _ _ _ ⟨fun h => by omega, fun _ => hR w⟩
  | succ d ih =>
    intro i w hd hi hw hr
    have hil : i < l.length := by omega
    rw [List.drop_eq_getElem_cons hil, idxF] at hr
    obtain ⟨hb, ad, hA, hrow⟩ := (hl.keep hw (Nat.le_refl _)).load (n := n) (by simpa using hlen) (j := (i : Int)) (by omega) (by omega)
    obtain ⟨hcell, _⟩ := hrow l[i].row (by rw [Int.toNat_natCast]; simp [hil]) rfl
    refine F.slices_IndexFunc_api_Channel_api_Channel.L2.step _ _ _ _ _ _ _ _ _ _ _ ⟨fun _ => ?_, fun h => by omega⟩
    refine ⟨hb, ad, hA, _, _, _, _, _, _, _, hcell, hcall, Pure.mono (hf w hw l[i]) ?_⟩
    rintro v w2 b2 rfl
    refine ⟨_, rfl, fun h => ?_, fun h => ⟨by simp only [inR]; omega, ?_⟩⟩
    · rw [if_pos h] at hr
      subst hr
      exact hR w2
    · rw [if_neg (by simp [h])] at hr
      have e3 : (i : Int) + 1 = ((i + 1 : Nat) : Int) := by omega
      rw [e3]
      exact ih (i + 1) w2 (by omega) (by omega) (kP hw b2) hr
theorem IndexFuncC {w : World} {A : Option Addr} {n c : Nat} {l : List Ch} (hl : SlR w A 7 (l.map Ch.row)) (hlen : l.length = n) (hn : n < 2147483648) {f : Nat} {a k : Array Value} (hcall : callable Tryz.prog f = true) {p : Ch → Bool}
    (hf : ∀ w', Below w.heap.size w w' → ∀ x : Ch, Pure Tryz.prog f (a.toList ++ ([x.val] : List Value) ++ k.toList).toArray w' fun v _ => v = .bool (p x)) :
    Pure Tryz.prog 31 #[.slice A n c, .func (.func f) a k] w fun v _ => v = .int .i64 (idxF p 0 l) :=
  F.slices_IndexFunc_api_Channel_api_Channel.vc _ _ _ _ _ _ _ _ (index_loop hl hlen hn hcall hf (fun _ => rfl) n 0 w rfl (by omega) (Below.refl _ _) rfl)
theorem idxF_spec (p : Ch → Bool) : ∀ (l : List Ch) (k : Nat), (idxF p k l = -1 ∧ ∀ c ∈ l, p c = false) ∨ ∃ (i : Nat) (c : Ch), idxF p k l = ((k + i : Nat) : Int) ∧ l[i]? = some c ∧ p c = true ∧ ∀ (j : Nat) (d : Ch), j < i → l[j]? = some d → p d = false := by
  intro l
  induction l with
  | nil => intro k; exact .inl ⟨rfl, by simp⟩
  | cons c r ih =>
    intro k
    rw [idxF]
    by_cases h : p c = true
    · rw [if_pos h]
      exact .inr ⟨0, c, rfl, rfl, h, fun j d hj => by omega⟩
    · rw [if_neg h]
      rcases ih (k + 1) with ⟨h1, h2⟩ | ⟨i, d, h1, h2, h3, h4⟩
      · exact .inl ⟨h1, fun x hx => by
          rcases List.mem_cons.1 hx with rfl | hx
          · simpa using h
          · exact h2 x hx⟩
      · refine .inr ⟨i + 1, d, by rw [h1]; congr 1; omega, by simpa using h2, h3, fun j e hj he => ?_⟩
        cases j with
        | zero => simp at he; subst he; simpa using h
        | succ j => exact h4 j e (by omega) (by simpa using he)
end Go.Proofs.YtdoailkigecmkaaGreatDoor.B

namespace Go.Proofs.YtdoailkigecmkaaGreatDoor.B
open Go Go.RowKit Go.Proofs Go.Proofs.YtdoailkigecmkaaGreatDoor.Vc

theorem flat_cell {sz : Nat} {cs : Array Value} : ∀ (rows : List (List Value)) (off : Nat), (∀ r ∈ rows, r.length = sz) → (∀ i, (h : i < rows.length) → ∀ j, (hj : j < rows[i].length) → cs[off + i * sz + j]? = some (rows[i][j])) → ∀ (j : Nat) (u : Value), rows.flatten[j]? = some u → cs[off + j]? = some u := by
  intro rows
  induction rows with
  | nil => intro off _ _ j u hu; simp at hu
  | cons r rs ih =>
    intro off hr hc j u hu
    have h0 : r.length = sz := hr r (by simp)
    by_cases hj : j < r.length
    · rw [List.flatten_cons, List.getElem?_append_left hj] at hu
      have := hc 0 (by simp) j hj
      simp only [Nat.zero_mul, Nat.add_zero, List.getElem_cons_zero] at this
      rw [this]
      simpa [hj] using hu
    · rw [List.flatten_cons, List.getElem?_append_right (by omega)] at hu
      have := ih (off + sz) (fun x hx => hr x (by simp [hx])) (fun i hi k hk => by
        have := hc (i + 1) (by simp; omega) k hk
        rw [Nat.add_mul] at this
        rw [show off + sz + i * sz + k = off + (i * sz + 1 * sz) + k by omega]
        exact this) (j - r.length) u hu
      rw [show off + j = off + sz + (j - r.length) by omega]
      exact this

theorem app_rows {t ty e sz bytes : Nat} (el : El Tryz.prog t e sz bytes) {B0 B : Nat} (hBB : B0 ≤ B) {tys : List Nat} {w : World} {A : Option Addr} {n c : Nat} {rows : List (List Value)} (ho : OwnR w B e A n c sz rows)
    {a : Addr} {m c2 : Nat} {more : List (List Value)} (hsl : SlR w (some a) sz more) (hm : more.length = m) (hms : ∀ r ∈ more, r.length = sz) (h1 : ∀ r ∈ more, ∀ u ∈ r, isCell u = true)
    (hB : B ≤ w.heap.size) (hsz : (n + m) * (bytes + 1) ≤ 140737488355328) (ht : e ∉ tys) {K : Option Addr → Nat → Nat → World → Prop}
    (h : ∀ A' c' w2, OwnR w2 B e A' (n + m) c' sz (rows ++ more) → w.grownBy w2 (Value.ownBlock (.slice A n c)) → Below B0 w w2 → K A' (n + m) c' w2) :
    RunOk Tryz.prog (Builtin.append_ #[t, t] ty #[.slice A n c, .slice (some a) m c2]) B0 tys w fun r w2 => ∃ A n c, r = .slice A n c ∧ K A n c w2 := by
  have hlen : more.flatten.length = m * sz := by
    rw [← hm]
    clear hsl hm h1 h hsz
    induction more with
    | nil => simp
    | cons r rs ih => rw [List.flatten_cons, List.length_append, ih (fun x hx => hms x (by simp [hx])), hms r (by simp), List.length_cons, Nat.add_mul]; omega
  refine runOk_append el hBB ho.1 (news := more.flatten) hlen (fun j u hu => ?_) (fun u hu => ?_) hB hsz ht fun A' c' w2 k1 k2 k3 => h A' c' w2 ⟨by rw [List.flatten_append]; exact k1, by simp [ho.len, hm], fun r hr => ?_⟩ k2 k3
  · rcases hsl with hsl | ⟨b, off, cs, ty, fr, hA, hh, hc⟩
    · subst hsl; simp at hu
    · cases hA
      rw [add_plain0]
      simp only [World.cell?, hh]
      have := flat_cell more off hms (fun i hi j hj => (hc i hi j hj).2) j u hu
      simpa using this
  · obtain ⟨r, hr, hu2⟩ := List.mem_flatten.1 hu
    exact h1 r hr u hu2
  · rcases List.mem_append.1 hr with h | h
    · exact ho.2.2 r h
    · exact hms r h

theorem SlR.none_nil {w : World} {sz : Nat} {rows : List (List Value)} (h : SlR w none sz rows) : rows = [] := by
  rcases h with h | ⟨b, off, cs, ty, fr, hA, _⟩
  · exact h
  · cases hA

theorem CloneV {w : World} {A : Option Addr} {n c : Nat} {rows : List (List Value)} (h : SlR w A 4 rows) (hlen : rows.length = n) (hr : ∀ r ∈ rows, r.length = 4) (h1 : ∀ r ∈ rows, ∀ u ∈ r, isCell u = true) (hn : n ≤ 1000000) :
    Pure Tryz.prog 23 #[.slice A n c] w fun v w' => ∃ A' c', v = .slice A' n c' ∧ OwnR w' w.heap.size 46 A' n c' 4 rows := by
  refine F.slices_Clone_api_Value_api_Value.vc _ _ _ _ _ ⟨fun hA => ?_, fun hA => ?_⟩
  · subst hA
    have := h.none_nil
    subst this
    simp at hlen
    subst hlen
    exact ⟨none, 0, rfl, OwnR.nil⟩
  · obtain ⟨a, rfl⟩ := Option.ne_none_iff_exists'.1 hA
    refine runOk_lit el_Vas [] (by simp) (by simp) (Nat.le_refl _) fun A2 c2 w2 ho b2 => ?_
    refine app_rows el_Vas (Nat.le_refl _) (by simpa using ho) (h.below b2) hlen hr h1 b2.size (by simp; omega) (by simp) fun A' c' w3 o3 _ b3 => ?_
    simp only [List.length_nil, Nat.zero_add, List.map_nil, List.nil_append] at o3 ⊢
    exact ⟨A', c', rfl, o3⟩
theorem CloneC {w : World} {A : Option Addr} {n c : Nat} {rows : List (List Value)} (h : SlR w A 7 rows) (hlen : rows.length = n) (hr : ∀ r ∈ rows, r.length = 7) (h1 : ∀ r ∈ rows, ∀ u ∈ r, isCell u = true) (hn : n ≤ 1000000) :
    Pure Tryz.prog 13 #[.slice A n c] w fun v w' => ∃ A' c', v = .slice A' n c' ∧ OwnR w' w.heap.size 31 A' n c' 7 rows := by
  refine F.slices_Clone_api_Channel_api_Channel.vc _ _ _ _ _ ⟨fun hA => ?_, fun hA => ?_⟩
  · subst hA
    have := h.none_nil
    subst this
    simp at hlen
    subst hlen
    exact ⟨none, 0, rfl, OwnR.nil⟩
  · obtain ⟨a, rfl⟩ := Option.ne_none_iff_exists'.1 hA
    refine runOk_lit el_Chs [] (by simp) (by simp) (Nat.le_refl _) fun A2 c2 w2 ho b2 => ?_
    refine app_rows el_Chs (Nat.le_refl _) (by simpa using ho) (h.below b2) hlen hr h1 b2.size (by simp; omega) (by simp) fun A' c' w3 o3 _ b3 => ?_
    simp only [List.length_nil, Nat.zero_add, List.map_nil, List.nil_append] at o3 ⊢
    exact ⟨A', c', rfl, o3⟩
theorem rowV_len {v : List Va} : ∀ r ∈ v.map Va.row, r.length = 4 := by
  intro r hr; obtain ⟨x, _, rfl⟩ := List.mem_map.1 hr; rfl
theorem rowV_cell {v : List Va} : ∀ r ∈ v.map Va.row, ∀ u ∈ r, isCell u = true := by
  intro r hr u hu
  obtain ⟨x, _, rfl⟩ := List.mem_map.1 hr
  simp only [Va.row, List.mem_cons, List.not_mem_nil, or_false] at hu
  rcases hu with rfl | rfl | rfl | rfl <;> rfl
theorem rowC_cell {v : List Ch} : ∀ r ∈ v.map Ch.row, ∀ u ∈ r, isCell u = true := by
  intro r hr u hu
  obtain ⟨x, _, rfl⟩ := List.mem_map.1 hr
  simp only [Ch.row, List.mem_cons, List.not_mem_nil, or_false] at hu
  rcases hu with rfl | rfl | rfl | rfl | rfl | rfl | rfl <;> rfl

theorem setCells_pre (p : List Value) : ∀ (vs l : List Value) (o : Nat), setCells (p ++ l) (p.length + o) vs = p ++ setCells l o vs := by
  intro vs
  induction vs with
  | nil => intro l o; rfl
  | cons v r ih =>
    intro l o
    rw [setCells, setCells, List.set_append_right _ _ (by omega), show p.length + o - p.length = o by omega, Nat.add_assoc, ih]
theorem setCells_post (q : List Value) : ∀ (vs l : List Value) (o : Nat), o + vs.length ≤ l.length → setCells (l ++ q) o vs = setCells l o vs ++ q := by
  intro vs
  induction vs with
  | nil => intro l o _; rfl
  | cons v r ih =>
    intro l o h
    simp only [List.length_cons] at h
    rw [setCells, setCells, List.set_append_left _ _ (by omega), ih _ _ (by simp; omega)]
theorem setCells_len : ∀ (vs l : List Value) (o : Nat), (setCells l o vs).length = l.length := by
  intro vs
  induction vs with
  | nil => intro l o; rfl
  | cons v r ih => intro l o; rw [setCells, ih]; simp
theorem flatten_len {sz : Nat} : ∀ (rows : List (List Value)), (∀ r ∈ rows, r.length = sz) → rows.flatten.length = rows.length * sz := by
  intro rows
  induction rows with
  | nil => intro _; simp
  | cons r rs ih => intro h; rw [List.flatten_cons, List.length_append, ih (fun x hx => h x (by simp [hx])), h r (by simp), List.length_cons, Nat.add_mul]; omega
theorem flatten_set {sz : Nat} {rows : List (List Value)} (h : ∀ r ∈ rows, r.length = sz) {i : Nat} {row : List Value} (hrow : rows[i]? = some row) {k : Nat} {vs : List Value} (hk : k + vs.length ≤ sz) :
    setCells rows.flatten (i * sz + k) vs = (rows.set i (setCells row k vs)).flatten := by
  obtain ⟨hi, e⟩ := List.getElem?_eq_some_iff.1 hrow
  have e1 : rows = rows.take i ++ row :: rows.drop (i + 1) := by
    rw [← e, ← List.drop_eq_getElem_cons hi, List.take_append_drop]
  have hl : (rows.take i).length = i := by simp; omega
  have hp : (rows.take i).flatten.length = i * sz := by rw [flatten_len _ (fun r hr => h r (List.mem_of_mem_take hr)), hl]
  have hr : row.length = sz := h row (List.mem_of_getElem? hrow)
  conv => lhs; rw [e1]
  conv => rhs; rw [e1]
  rw [List.set_append_right _ _ (by omega), hl, Nat.sub_self, List.set_cons_zero, List.flatten_append, List.flatten_append, List.flatten_cons, List.flatten_cons, ← hp, setCells_pre, setCells_post _ _ _ _ (by omega)]

theorem OwnR.set {w : World} {B ty : Nat} {A : Option Addr} {n c sz : Nat} {rows : List (List Value)} (h : OwnR w B ty A n c sz rows) {i : Int} (h0 : 0 ≤ i) (h1 : i < n) (k : Nat) (vs : List Value) (row : List Value) (hrow : rows[i.toNat]? = some row) (hk : k + vs.length ≤ sz) :
    (0 ≤ i ∧ i < n) ∧ ∃ a, A = some a ∧ ∃ cs : List Value, B ≤ ((a.add (i.toNat * sz)).add k).block ∧ ((a.add (i.toNat * sz)).add k).spot = none ∧ w.heap[((a.add (i.toNat * sz)).add k).block]? = some (.cells cs.toArray ty (0, 0)) ∧ ((a.add (i.toNat * sz)).add k).off + vs.length ≤ cs.length ∧
      ∀ w1, Wrote w w1 ((a.add (i.toNat * sz)).add k).block ty (setCells cs ((a.add (i.toNat * sz)).add k).off vs) → OwnR w1 B ty A n c sz (rows.set i.toNat (setCells row k vs)) := by
  refine ⟨⟨h0, h1⟩, ?_⟩
  have hl := h.len
  have hA : ∃ a, A = some a := by
    rcases h.1.2 with ⟨_, h2⟩ | ⟨g, cap, cur, h2, _⟩
    · omega
    · cases h2; exact ⟨_, rfl⟩
  obtain ⟨a, rfl⟩ := hA
  have hlen : rows.flatten.length = n * sz := by rw [flatten_len _ h.2.2, hl]
  have hle : i.toNat * sz + k + vs.length ≤ rows.flatten.length := by
    have : (i.toNat + 1) * sz ≤ n * sz := Nat.mul_le_mul_right _ (by omega)
    rw [Nat.add_mul] at this
    omega
  obtain ⟨cs, c1, c2, c3, c4, c5, c6⟩ := ownsRow_wrote h.1 (off := i.toNat * sz + k) hle
  obtain ⟨b, o, s⟩ := a
  simp only at c1 c2 c3 c4
  subst c2
  subst c3
  refine ⟨⟨b, 0, none⟩, rfl, ?_⟩
  rw [addr_add_mul]
  simp only [Nat.zero_add]
  refine ⟨cs, c1, trivial, c4, c5, fun w1 hw => ⟨?_, by simp [hl], fun r hr => ?_⟩⟩
  · have := c6 w1 hw
    rwa [flatten_set h.2.2 hrow hk] at this
  · rcases List.mem_or_eq_of_mem_set hr with h' | h'
    · exact h.2.2 r h'
    · subst h'
      rw [setCells_len]
      exact h.2.2 row (List.mem_of_getElem? hrow)
theorem add_0 (a : Addr) : a.add 0 = a := by unfold Addr.add; simp
theorem OwnR.set0 {w : World} {B ty : Nat} {A : Option Addr} {n c sz : Nat} {rows : List (List Value)} (h : OwnR w B ty A n c sz rows) {i : Int} (h0 : 0 ≤ i) (h1 : i < n) (vs : List Value) (row : List Value) (hrow : rows[i.toNat]? = some row) (hk : vs.length = sz) :
    (0 ≤ i ∧ i < n) ∧ ∃ a, A = some a ∧ ∃ cs : List Value, B ≤ (a.add (i.toNat * sz)).block ∧ (a.add (i.toNat * sz)).spot = none ∧ w.heap[(a.add (i.toNat * sz)).block]? = some (.cells cs.toArray ty (0, 0)) ∧ (a.add (i.toNat * sz)).off + vs.length ≤ cs.length ∧
      ∀ w1, Wrote w w1 (a.add (i.toNat * sz)).block ty (setCells cs (a.add (i.toNat * sz)).off vs) → OwnR w1 B ty A n c sz (rows.set i.toNat vs) := by
  obtain ⟨h2, a, hA, cs, c1, c2, c3, c4, c5⟩ := h.set h0 h1 0 vs row hrow (by omega)
  rw [add_0] at c1 c2 c3 c4 c5
  have e : setCells row 0 vs = vs := by
    have hr : row.length = vs.length := by rw [hk]; exact h.2.2 row (List.mem_of_getElem? hrow)
    clear hrow c5 hk
    have gen : ∀ (vs row p : List Value), row.length = vs.length → setCells (p ++ row) p.length vs = p ++ vs := by
      intro vs
      induction vs with
      | nil => intro row p hr; have : row = [] := List.eq_nil_of_length_eq_zero hr; subst this; rfl
      | cons v r ih =>
        intro row p hr
        cases row with
        | nil => simp at hr
        | cons u t =>
          rw [setCells, List.set_append_right _ _ (Nat.le_refl _), Nat.sub_self, List.set_cons_zero]
          have := ih t (p ++ [v]) (by simpa using hr)
          simpa using this
    simpa using gen vs row [] hr
  rw [e] at c5
  exact ⟨h2, a, hA, cs, c1, c2, c3, c4, c5⟩
theorem Wrote.belowR {w w1 : World} {B b ty : Nat} {cs : List Value} (h : Wrote w w1 b ty cs) (hB : B ≤ b) : Below B w w1 :=
  ⟨h.os, h.tape, h.output, by rw [h.size]; exact Nat.le_refl _, fun k hk => h.rest k (by omega)⟩
end Go.Proofs.YtdoailkigecmkaaGreatDoor.B

namespace Go.Proofs.YtdoailkigecmkaaGreatDoor.B
open Go Go.RowKit Go.Proofs Go.Proofs.YtdoailkigecmkaaGreatDoor.Vc

theorem OwnR.base {w : World} {B B' ty : Nat} {A : Option Addr} {n c sz : Nat} {rows : List (List Value)} (h : OwnR w B' ty A n c sz rows) (hB : B ≤ B') : OwnR w B ty A n c sz rows := by
  refine ⟨⟨h.1.1, ?_⟩, h.2⟩
  rcases h.1.2 with h2 | ⟨g, cap, cur, h2, h3, h4⟩
  · exact .inl h2
  · exact .inr ⟨g, cap, cur, h2, Nat.le_trans hB h3, h4⟩
theorem fault_none {p : Option Ch} {c : Ch} (h : faultOf p c = 0) : faultOf none c = 0 := by
  unfold faultOf at *
  split at h
  · exact absurd h (by omega)
  · rename_i h1
    rw [if_neg h1]
    split at h
    · exact absurd h (by omega)
    · rename_i h2
      rw [if_neg h2]
      split at h
      · exact absurd h (by omega)
      · rename_i h3
        rw [if_neg h3, if_neg]
        rintro ⟨q, hq, _⟩
        cases hq

def takeF (l : List Ch) (v : List Va) (chan tick : Int) (raw : ByteArray) : Except Int (List Va) :=
  if (checkF l).2 = 0 ∧ fitsF l v = true ∧ vR raw = true then
    match idxF (fun c => decide (c.id = chan)) 0 l with
    | .negSucc _ => .error 7
    | .ofNat i =>
      if 0 ≤ tick ∧ tick ≤ 1073741824 then
        match l[i]?, v[i]? with
        | some c, some u => if tick < u.tick then .error 5 else .ok (v.set i ⟨chan, tick, qualF c u (numberR c raw) tick, rS (numberR c raw)⟩)
        | _, _ => .error 0
      else .error 2
  else .error 1

theorem take_c1 {w : World} {c : Ch} {p : Nat} {chan tick : Int} {raw : ByteArray} (h : w.heap[p]? = some (.cells [.int .i64 chan, .int .i64 tick, .string raw].toArray 42 (0, 0))) :
    Pure Tryz.prog 54 #[c.val, .pointer (some ⟨p, 0, none⟩)] w fun v _ => v = .bool (decide (c.id = chan)) :=
  F.sensor_Take_c1.vc _ _ _ _ _ _ _ _ _ _ fun w1 x1 => ⟨_, box_cell (ext_nil x1 h) rfl, rfl⟩

def TakeR (r : Except Int (List Va)) (n : Nat) (B : Nat) (y : Value) (w : World) : Prop := match r with
  | .error e => y = .tuple #[.slice none 0 0, .int .i64 e]
  | .ok v => ∃ A c, y = .tuple #[.slice A n c, .int .i64 0] ∧ OwnR w B 46 A n c 4 (v.map Va.row)

theorem sensor_Take {w : World} (hg : Glob w) {A A1 : Option Addr} {n n1 c c1 : Nat} {l : List Ch} {v : List Va} {chan tick : Int} {raw : ByteArray} (hl : SlR w A 7 (l.map Ch.row)) (hlen : l.length = n) (hv : SlR w A1 4 (v.map Va.row)) (hvlen : v.length = n1) (hn : n < 2147483648)
    (hsc : ∀ x ∈ l, SmC x) (hsm : ∀ x ∈ v, SmV x) (hr : SmS raw) :
    Pure Tryz.prog 22 #[.slice A n c, .slice A1 n1 c1, .agg #[.int .i64 chan, .int .i64 tick, .string raw]] w (TakeR (takeF l v chan tick raw) n1 w.heap.size) := by
  refine F.sensor_Take.vc _ _ _ _ _ _ _ _ _ _ _ fun w1 x1 => ?_
  have hb1 := k0 x1
  refine Pure.mono (sensor_right (hg.next hb1) (hl.keep hb1 (Nat.le_refl _)) hlen hsc) ?_
  rintro y w2 b2 rfl
  have hb2 := kP hb1 b2
  refine ⟨_, rfl, fun h => ?_, fun h => ?_⟩
  · have h' : ¬ (checkF l).2 = 0 := of_decide_eq_false h
    unfold takeF
    rw [if_neg (fun k => h' k.1)]
    rfl
  have k1 : (checkF l).2 = 0 := by
    apply Decidable.byContradiction
    intro k
    exact h (decide_eq_false k)
  refine Pure.mono (sensor_fits (hg.next hb2) (hl.keep hb2 (Nat.le_refl _)) hlen (hv.keep hb2 (Nat.le_refl _)) hvlen hn hsm) ?_
  rintro y w3 b3 rfl
  have hb3 := kP hb2 b3
  refine ⟨_, rfl, fun h => ?_, fun h => ?_⟩
  · unfold takeF
    rw [if_neg (fun k => by rw [k.2.1] at h; cases h)]
    rfl
  have k2 : fitsF l v = true := by simpa using h
  refine Pure.mono (rational_Valid (hg.next hb3) raw (by omega)) ?_
  rintro y w4 b4 rfl
  have hb4 := kP hb3 b4
  refine ⟨_, rfl, fun h => ?_, fun h p hp hbox => ?_⟩
  · have h' : vR raw = false := h
    unfold takeF
    rw [if_neg (fun k => by rw [k.2.2] at h'; cases h')]
    rfl
  have k3 : vR raw = true := by simpa [vR] using h
  refine Pure.mono (IndexFuncC (hl.keep hb4 (Nat.le_refl _)) hlen hn (p := fun c => decide (c.id = chan)) (by kernel_rfl) fun w' hb' x => ?_) ?_
  · exact take_c1 (heap_keep hbox hb')
  rintro y w5 b5 rfl
  have hb5 := kP hb4 b5
  have box5 := heap_keep hbox b5
  obtain ⟨hfl, hfit⟩ := fitsF_at k2
  rcases idxF_spec (fun c => decide (c.id = chan)) l 0 with ⟨hi, _⟩ | ⟨i, x, hi, hx, hpx, _⟩
  · rw [hi]
    refine ⟨_, rfl, fun _ => ?_, fun h => absurd (by omega) h⟩
    have e : takeF l v chan tick raw = .error 7 := by
      unfold takeF
      rw [if_pos ⟨k1, k2, k3⟩, hi]
      rfl
    rw [e]
    rfl
  rw [Nat.zero_add] at hi
  have hil : i < l.length := (List.getElem?_eq_some_iff.1 hx).1
  have hiv : i < v.length := by omega
  obtain ⟨u, hu⟩ : ∃ u, v[i]? = some u := ⟨v[i], by simp [hiv]⟩
  have fu := hfit i x u hx hu
  obtain ⟨hl16, hfa⟩ := check_valid k1
  obtain ⟨⟨v1, v2, v3, v4, v5⟩, _, _⟩ := fault_valid (hfa i x hx)
  have scx : SmC x := hsc x (List.mem_of_getElem? hx)
  have smu : SmV u := hsm u (List.mem_of_getElem? hu)
  have fu' : (0 ≤ u.tick ∧ u.tick ≤ 1073741824) ∧ vR u.num = true := by
    unfold fit1 at fu
    simp only [Bool.and_eq_true, decide_eq_true_eq] at fu
    exact ⟨fu.1.1.2, fu.1.2⟩
  have hT : takeF l v chan tick raw = if 0 ≤ tick ∧ tick ≤ 1073741824 then (if tick < u.tick then .error 5 else .ok (v.set i ⟨chan, tick, qualF x u (numberR x raw) tick, rS (numberR x raw)⟩)) else .error 2 := by
    have hi' : idxF (fun c => decide (c.id = chan)) 0 l = Int.ofNat i := hi
    unfold takeF
    rw [if_pos ⟨k1, k2, k3⟩, hi']
    simp only [hx, hu]
  rw [hi, hT]
  refine ⟨_, rfl, fun h => absurd h (by omega), fun _ => ⟨_, box_cell box5 rfl, Pure.mono (sensor_tick _ _) ?_⟩⟩
  rintro y w6 b6 rfl
  have hb6 := kP hb5 b6
  have box6 := heap_keep box5 b6
  refine ⟨_, rfl, fun h => ?_, fun h => ?_⟩
  · have h' : ¬ (0 ≤ tick ∧ tick ≤ 1073741824) := of_decide_eq_false h
    rw [if_neg h']
    rfl
  have k4 : 0 ≤ tick ∧ tick ≤ 1073741824 := by
    apply Decidable.byContradiction
    intro k
    exact h (decide_eq_false k)
  rw [if_pos k4]
  have eN : ((i : Int)).toNat = i := Int.toNat_natCast i
  obtain ⟨q1, a, hA, hrow⟩ := (hv.keep hb6 (Nat.le_refl _)).load (n := n1) (by simpa using hvlen) (j := (i : Int)) (by omega) (by omega)
  obtain ⟨_, hcell⟩ := hrow u.row (by rw [eN]; simp [hu]) rfl
  refine ⟨_, box_cell box6 rfl, q1, a, hA, _, hcell 1 _ rfl, fun h w7 _ => ?_, fun h w7 x7 => ?_⟩
  · rw [if_pos h]; rfl
  rw [if_neg h]
  have hb7 := kE hb6 x7
  have box7 := ext_nil x7 box6
  obtain ⟨q2, a2, hA2, hrow2⟩ := (hl.keep hb7 (Nat.le_refl _)).load (n := n) (by simpa using hlen) (j := (i : Int)) (by omega) (by omega)
  obtain ⟨hcell2, _⟩ := hrow2 x.row (by rw [eN]; simp [hx]) rfl
  refine ⟨q2, a2, hA2, _, _, _, _, _, _, _, hcell2, _, box_cell box7 rfl, fun w8 x8 => ?_⟩
  have hb8 := kE hb7 x8
  have box8 := ext_nil x8 box7
  refine Pure.mono (sensor_Number (hg.next hb8) scx hr) ?_
  rintro y w9 b9 rfl
  have hb9 := kP hb8 b9
  have box9 := heap_keep box8 b9
  refine ⟨_, _, rfl, Pure.mono (CloneV (hv.keep hb9 (Nat.le_refl _)) (by simpa using hvlen) rowV_len rowV_cell (by omega)) ?_⟩
  rintro y w10 b10 ⟨A3, c3, rfl, o3⟩
  have hb10 := kP hb9 b10
  have box10 := heap_keep box9 b10
  obtain ⟨q3, a3, hA3, hrow3⟩ := (hl.keep hb10 (Nat.le_refl _)).load (n := n) (by simpa using hlen) (j := (i : Int)) (by omega) (by omega)
  obtain ⟨hcell3, _⟩ := hrow3 x.row (by rw [eN]; simp [hx]) rfl
  obtain ⟨q4, a4, hA4, hrow4⟩ := (hv.keep hb10 (Nat.le_refl _)).load (n := n1) (by simpa using hvlen) (j := (i : Int)) (by omega) (by omega)
  obtain ⟨hcell4, _⟩ := hrow4 u.row (by rw [eN]; simp [hu]) rfl
  refine ⟨_, _, _, rfl, _, box_cell box10 rfl, _, box_cell box10 rfl, q3, a3, hA3, _, _, _, _, _, _, _, hcell3, q4, a4, hA4, _, _, _, _, hcell4, _, box_cell box10 rfl, fun w11 x11 => ?_⟩
  have hb11 := kE hb10 x11
  have c1' : (checkF [x]).2 = 0 := by
    have h0 := fault_none (hfa i x hx)
    unfold checkF
    rw [if_neg (by simp), chk, if_neg (fun k => k h0)]
    rfl
  have eNum : (numberF x raw).1 = rS (numberR x raw) := by unfold numberF; rw [if_pos ⟨c1', k3⟩]
  rw [eNum]
  have sx : Sm 10000 (numberR x raw) := (numberR_sm scx v1 v2 hr k3).mono (by omega)
  refine Pure.mono (sensor_quality (hg.next hb11) scx ⟨v3, v4, v5⟩ smu fu'.2 fu'.1 sx k4) ?_
  rintro y w12 b12 rfl
  have o4 := (o3.extNil x11).below b12
  obtain ⟨q5, a5, hA5, cs, d1, d2, d3, d4, d5⟩ := o4.set0 (i := (i : Int)) (by omega) (by omega) [.int .i64 chan, .int .i64 tick, .int .i64 (qualF x u (numberR x raw) tick), .string (rS (numberR x raw))] u.row (by rw [eN]; simp [hu]) rfl
  have hB0 : w.heap.size ≤ w9.heap.size := hb9.size
  refine ⟨_, rfl, q5, a5, hA5, cs, _, Nat.le_trans hB0 d1, d2, d3, d4, rfl, fun w13 hw13 => ?_⟩
  refine ⟨A3, c3, rfl, ?_⟩
  have o5 := d5 w13 hw13
  rw [eN] at o5
  have hflat : (List.map Va.row (v.set i ⟨chan, tick, qualF x u (numberR x raw) tick, rS (numberR x raw)⟩)) = (List.map Va.row v).set i [.int .i64 chan, .int .i64 tick, .int .i64 (qualF x u (numberR x raw) tick), .string (rS (numberR x raw))] := by
    rw [List.map_set]
  rw [hflat]
  exact o5.base hB0
end Go.Proofs.YtdoailkigecmkaaGreatDoor.B

namespace Go.Proofs.YtdoailkigecmkaaGreatDoor.B
open Go Go.RowKit Go.Proofs Go.Proofs.YtdoailkigecmkaaGreatDoor.Vc

def lows (x : Nat) : Tx := if x = 0 then [] else (natT x).reverse
theorem lows_succ {x : Nat} (h : x ≠ 0) : lows x = UInt8.ofNat (48 + x % 10) :: lows (x / 10) := by
  unfold lows
  rw [if_neg h]
  by_cases h10 : x < 10
  · rw [natT_small h10, if_pos (by omega), Nat.mod_eq_of_lt h10]
    rfl
  · rw [natT_big h10, if_neg (by omega), List.reverse_append]
    rfl
def outR : List Nat → Tx
  | [] => []
  | [x] => lows x
  | x :: y :: r => (digs 9 x).reverse ++ outR (y :: r)
theorem outR_eq : ∀ (ws : List Nat), Small ws → Norm ws → ws ≠ [] → outR ws = (natT (wv ws)).reverse := by
  intro ws
  induction ws with
  | nil => intro _ _ h; exact absurd rfl h
  | cons x r ih =>
    intro hs hn _
    cases r with
    | nil =>
      have hx : x ≠ 0 := fun e => by subst e; exact hn rfl
      rw [outR, lows, if_neg hx]
      simp [wv]
    | cons y r =>
      have hs' : Small (y :: r) := fun z hz => hs z (by simp [hz])
      have hn' : Norm (y :: r) := by
        intro e
        apply hn
        rw [List.getLast?_cons_cons]
        exact e
      have hx : x < 1000000000 := hs x (by simp)
      have hp := wv_pos hn' (by simp)
      have hq : 0 < wv (y :: r) := Nat.lt_of_lt_of_le (Nat.pow_pos (by omega)) hp
      have e : wv (x :: y :: r) = wv (y :: r) * 10 ^ 9 + x := by have : wv (x :: y :: r) = x + 1000000000 * wv (y :: r) := rfl; omega
      rw [outR, ih hs' hn' (by simp), e, natT_shift _ hq 9 x (by omega), List.reverse_append]
theorem digs_rev (k x : Nat) : (digs (k + 1) x).reverse = UInt8.ofNat (48 + x % 10) :: (digs k (x / 10)).reverse := by
  rw [digs, List.reverse_append]
  rfl

abbrev u8row (d : UInt8) : List Value := [.int .u8 (d.toNat : Int)]
theorem el_Bytes : El Tryz.prog 142 5 1 1 := El.of (by kernel_rfl)
theorem dig_int (x : Nat) : (48 : Int) + (x : Int) % 10 = ((UInt8.ofNat (48 + x % 10)).toNat : Int) := by
  have : (UInt8.ofNat (48 + x % 10)).toNat = 48 + x % 10 := by
    rw [UInt8.toNat_ofNat']
    omega
  omega

section
variable {w0 : World} {A0 : Option Addr} {n0 c0 : Nat} {ws : List Nat} {R : Value → World → Prop}

theorem to_L9 {i : Nat} (hi : i < n0) (hn : n0 ≤ 100000) {T : Tx} (hT : T.length ≤ 1000000) (hR : ∀ w A n c, Below w0.heap.size w0 w → OwnR w w0.heap.size 5 A n c 1 (T.map u8row) → F.garboardref01_To.L5 A0 n0 c0 A n c ((i : Int) + 1) w0.heap.size w R) :
    ∀ (d k x : Nat) (w : World) (A : Option Addr) (n c : Nat) (out : Tx), 9 - k = d → k ≤ 9 → x < 10 ^ (9 - k) → Below w0.heap.size w0 w → OwnR w w0.heap.size 5 A n c 1 (out.map u8row) → out ++ (if i + 1 < n0 then (digs (9 - k) x).reverse else lows x) = T →
      F.garboardref01_To.L9 A0 n0 c0 A n c i x k w0.heap.size w R := by
  intro d
  induction d with
  | zero =>
    intro k x w A n c out hd hk hx hw ho he
    have hk9 : k = 9 := by omega
    subst hk9
    have hx0 : x = 0 := by simpa using hx
    subst hx0
    have e : out = T := by
      rw [← he]
      split <;> simp [digs, lows]
    rw [e] at ho
    exact F.garboardref01_To.L9.step _ _ _ _ _ _ _ _ _ _ _ _ ⟨fun h => by omega, fun _ => ⟨by simp only [inR]; omega, hR w A n c hw ho⟩⟩
  | succ d ih =>
    intro k x w A n c out hd hk hx hw ho he
    have hol : out.length = n := by have := ho.len; simpa using this
    have hle : out.length ≤ 1000000 := by
      have := congrArg List.length he
      rw [List.length_append] at this
      omega
    have hx9 : x < 10 ^ 9 := Nat.lt_of_lt_of_le hx (Nat.pow_le_pow_right (by omega) (by omega))
    have hm := Nat.mod_lt x (show 0 < 10 by omega)
    have e3 : (k : Int) + 1 = ((k + 1 : Nat) : Int) := by omega
    have ed : (x : Int) / 10 = ((x / 10 : Nat) : Int) := by omega
    have hx' : x / 10 < 10 ^ (9 - (k + 1)) := by
      rw [Nat.div_lt_iff_lt_mul (by omega), ← Nat.pow_succ, show (9 - (k + 1)).succ = 9 - k by omega]
      exact hx
    have push : (out ++ [UInt8.ofNat (48 + x % 10)]) ++ (if i + 1 < n0 then (digs (9 - (k + 1)) (x / 10)).reverse else lows (x / 10)) = T → 
        RunOk Tryz.prog (Instr.buildSlice 142 1 #[(0, (.int .u8 (((48 : Int) + ((x : Int) % (10 : Int))))))]) w0.heap.size [] w fun r4 w5 => ∃ (A3 : Option Addr) (n3 c3 : Nat), r4 = (.slice A3 n3 c3) ∧ RunOk Tryz.prog (Builtin.append_ #[142, 142] 142 #[(.slice A n c), (.slice A3 n3 c3)]) w0.heap.size [] w5 fun r7 w8 => ∃ (A6 : Option Addr) (n6 c6 : Nat), r7 = (.slice A6 n6 c6) ∧
          ((0 ≤ (x : Int) ∧ 0 < (10 : Int) ∧ inR .u32 (x : Int)) ∧ (inR .i64 ((k : Int) + (1 : Int)) ∧ (F.garboardref01_To.L9 A0 n0 c0 A6 n6 c6 i ((x : Int) / (10 : Int)) ((k : Int) + (1 : Int)) w0.heap.size w8 R))) := by
      intro hT
      rw [dig_int x]
      refine app_row el_Bytes (Nat.le_refl _) ho (x := .int .u8 ((UInt8.ofNat (48 + x % 10)).toNat : Int)) (by simp [Value.cells]) (by simp [Value.cells, isCell]) hw.size (by omega) (by simp) fun A' c' w2 o2 _ b2 => ⟨⟨by omega, by omega, by simp only [inR]; omega⟩, by simp only [inR]; omega, ?_⟩
      rw [ed, e3]
      refine ih (k + 1) (x / 10) w2 _ _ _ (out ++ [UInt8.ofNat (48 + x % 10)]) (by omega) (by omega) hx' (hw.trans b2) ?_ hT
      rw [List.map_append]
      exact o2
    have hd9 : 9 - k = (9 - (k + 1)) + 1 := by omega
    refine F.garboardref01_To.L9.step _ _ _ _ _ _ _ _ _ _ _ _ ⟨fun _ => ⟨by simp only [inR]; omega, fun h1 => ⟨⟨by omega, by omega⟩, by simp only [inR]; omega, by simp only [inR]; omega, push ?_⟩, fun h1 => ⟨fun h2 => ⟨⟨by omega, by omega⟩, by simp only [inR]; omega, by simp only [inR]; omega, push ?_⟩, fun h2 => ⟨by simp only [inR]; omega, hR w A n c hw ?_⟩⟩⟩, fun h => by omega⟩
    · rw [← he, if_pos (by omega), if_pos (by omega), hd9, digs_rev, List.append_assoc]
      rfl
    · rw [← he, if_neg (by omega), if_neg (by omega), lows_succ (x := x) (by omega), List.append_assoc]
      rfl
    · have hx0 : x = 0 := by omega
      rw [if_neg (by omega), hx0] at he
      have : out = T := by rw [← he]; simp [lows]
      rw [← this]
      exact ho

theorem to_L14 {B : Nat} {A : Option Addr} {n c : Nat} {T : Tx} (hlen : T.length = n) (hn : n ≤ 1000000) (h0 : n ≠ 0) (hR : ∀ w, R (.string (st T.reverse)) w) :
    ∀ (d i : Nat) (w : World) (u : Tx), n - 2 * i = d → 2 * i ≤ n + 1 → OwnR w B 5 A n c 1 (u.map u8row) → (∀ k, k < n → u[k]? = if k < i ∨ n ≤ k + i then T[n - 1 - k]? else T[k]?) →
      F.garboardref01_To.L14 A n c i ((n : Int) - 1 - i) B w R := by
  intro d
  induction d using Nat.strongRecOn with
  | _ d ih =>
    intro i w u hd hi ho hu
    have hul : u.length = n := by have := ho.len; simpa using this
    by_cases h : (i : Int) < (n : Int) - 1 - i
    · have hi' : i < u.length := by omega
      have hj' : n - 1 - i < u.length := by omega
      have ej : ((n : Int) - 1 - i).toNat = n - 1 - i := by omega
      obtain ⟨hb, a, hA, hrow⟩ := ho.sl.load (n := n) ho.len (j := (n : Int) - 1 - i) (by omega) (by omega)
      obtain ⟨hcell, _⟩ := hrow (u8row u[n - 1 - i]) (by rw [ej]; simp [hj']) rfl
      obtain ⟨hb2, a2, hA2, hrow2⟩ := ho.sl.load (n := n) ho.len (j := (i : Int)) (by omega) (by omega)
      obtain ⟨hcell2, _⟩ := hrow2 (u8row u[i]) (by rw [Int.toNat_natCast]; simp [hi']) rfl
      refine F.garboardref01_To.L14.step _ _ _ _ _ _ _ _ ⟨fun _ => ⟨hb, a, hA, _, hcell, hb2, a2, hA2, _, hcell2, hb2, a2, hA2, fun w2 x2 => ?_⟩, fun k => absurd h k⟩
      have o2 := ho.extNil x2
      obtain ⟨_, a3, hA3, cs, d1, d2, d3, d4, d5⟩ := o2.set0 (i := (i : Int)) (by omega) (by omega) (u8row u[n - 1 - i]) (u8row u[i]) (by rw [Int.toNat_natCast]; simp [hi']) rfl
      have ea : a2 = a3 := by rw [hA2] at hA3; cases hA3; rfl
      subst ea
      refine ⟨cs, _, d1, d2, d3, d4, rfl, fun w3 hw3 => ?_⟩
      have o3 := d5 w3 hw3
      rw [Int.toNat_natCast, ← List.map_set] at o3
      have hj3 : n - 1 - i < (u.set i u[n - 1 - i]).length := by rw [List.length_set]; omega
      obtain ⟨hb4, a4, hA4, cs4, e1, e2, e3, e4, e5⟩ := o3.set0 (i := (n : Int) - 1 - i) (by omega) (by omega) (u8row u[i]) (u8row ((u.set i u[n - 1 - i])[n - 1 - i])) (by rw [ej, List.getElem?_map, List.getElem?_eq_getElem hj3]; rfl) rfl
      refine ⟨hb4, a4, hA4, cs4, _, e1, e2, e3, e4, rfl, fun w4 hw4 => ⟨by simp only [inR]; omega, by simp only [inR]; omega, ?_⟩⟩
      have o4 := e5 w4 hw4
      rw [ej, ← List.map_set] at o4
      have ei : (i : Int) + 1 = ((i + 1 : Nat) : Int) := by omega
      have ejj : (n : Int) - 1 - (i : Int) - 1 = (n : Int) - 1 - ((i + 1 : Nat) : Int) := by omega
      rw [ejj, ei]
      refine ih (n - 2 * (i + 1)) (by omega) (i + 1) w4 _ rfl (by omega) o4 fun k hk => ?_
      have hui := hu i (by omega)
      have huj := hu (n - 1 - i) (by omega)
      rw [if_neg (by omega)] at hui huj
      rw [List.getElem?_eq_getElem hi'] at hui
      rw [List.getElem?_eq_getElem hj'] at huj
      by_cases k1 : k = n - 1 - i
      · subst k1
        rw [List.getElem?_set_self (by rw [List.length_set]; omega), if_pos (by omega), hui]
        congr 1
        omega
      · rw [List.getElem?_set_ne (by omega)]
        by_cases k2 : k = i
        · subst k2
          rw [List.getElem?_set_self (by omega), if_pos (by omega), huj]
        · rw [List.getElem?_set_ne (by omega), hu k hk]
          by_cases k3 : k < i ∨ n ≤ k + i
          · rw [if_pos k3, if_pos (by omega)]
          · rw [if_neg k3, if_neg (by omega)]
    · have e : u = T.reverse := by
        refine List.ext_getElem? fun k => ?_
        by_cases hk : k < n
        · rw [hu k hk, List.getElem?_reverse (by omega), hlen]
          by_cases k3 : k < i ∨ n ≤ k + i
          · rw [if_pos k3]
          · rw [if_neg k3]
            congr 1
            omega
        · rw [List.getElem?_eq_none (by omega), List.getElem?_eq_none (by rw [List.length_reverse]; omega)]
      have hs := ho.sl
      rcases hs with hs | ⟨b, off, cs, ty, fr, rfl, hh, hc⟩
      · have : u = [] := by simpa using hs
        rw [this] at hul
        simp at hul
        omega
      refine F.garboardref01_To.L14.step _ _ _ _ _ _ _ _ ⟨fun k => absurd k h, fun _ => ?_⟩
      have hr := run_convert_bytes_back (P := Tryz.prog) w 142 9 5 ⟨b, off, none⟩ c u Tryz.underlying142 Tryz.underlying5 Tryz.underlying9 fun j hj => by
        obtain ⟨_, h2⟩ := hc j (by simpa using hj) 0 (by simp)
        rw [add_plain0]
        simp only [World.cell?, hh]
        simpa using h2
      rw [hul] at hr
      refine ⟨_, w, hr, Below.refl _ _, Nat.le_refl _, fun _ _ _ _ _ => rfl, _, rfl, ?_⟩
      have := hR w
      rw [← e] at this
      exact this

theorem to_L5 (ha : SlU w0 A0 ws) (hal : ws.length = n0) (hs : Small ws) (hn : n0 ≤ 100000) {T : Tx} (hT : T.length ≤ 1000000) (hT0 : T ≠ []) (hR : ∀ w, R (.string (st T.reverse)) w) :
    ∀ (d i : Nat) (w : World) (A : Option Addr) (n c : Nat) (out : Tx), n0 - i = d → i ≤ n0 → Below w0.heap.size w0 w → OwnR w w0.heap.size 5 A n c 1 (out.map u8row) → out ++ outR (ws.drop i) = T →
      F.garboardref01_To.L5 A0 n0 c0 A n c i w0.heap.size w R := by
  intro d
  induction d with
  | zero =>
    intro i w A n c out hd hi hw ho he
    have hin : i = n0 := by omega
    subst hin
    rw [List.drop_eq_nil_of_le (by omega), outR, List.append_nil] at he
    subst he
    have hol : out.length = n := by have := ho.len; simpa using this
    have hpos := List.length_pos_iff.2 hT0
    refine F.garboardref01_To.L5.step _ _ _ _ _ _ _ _ _ _ ⟨fun h => by omega, fun _ => ⟨by simp only [inR]; omega, ?_⟩⟩
    have := to_L14 (B := w0.heap.size) (A := A) (c := c) (T := out) hol (by omega) (by omega) hR n 0 w out (by omega) (by omega) ho fun k hk => by rw [if_neg (by omega)]
    simpa using this
  | succ d ih =>
    intro i w A n c out hd hi hw ho he
    have hil : i < ws.length := by omega
    have hx := hs ws[i] (List.getElem_mem _)
    have e3 : (i : Int) + 1 = ((i + 1 : Nat) : Int) := by omega
    refine F.garboardref01_To.L5.step _ _ _ _ _ _ _ _ _ _ ⟨fun _ => ?_, fun h => by omega⟩
    refine (ha.below hw).load hal (by omega) (by omega) ?_
    have eg : ws.getD ((i : Int)).toNat 0 = ws[i] := by rw [Int.toNat_natCast, List.getD_eq_getElem?_getD, List.getElem?_eq_getElem hil]; rfl
    rw [eg]
    obtain ⟨part, hpart⟩ : ∃ part, part = if i + 1 < n0 then (digs 9 ws[i]).reverse else lows ws[i] := ⟨_, rfl⟩
    have hsplit : outR (ws.drop i) = part ++ outR (ws.drop (i + 1)) := by
      rw [List.drop_eq_getElem_cons hil, hpart]
      cases hdr : ws.drop (i + 1) with
      | nil =>
        have : ws.length ≤ i + 1 := List.drop_eq_nil_iff.1 hdr
        rw [if_neg (by omega), outR, outR, List.append_nil]
      | cons y r =>
        have : i + 1 < ws.length := by
          apply Decidable.byContradiction
          intro k
          rw [List.drop_eq_nil_of_le (by omega)] at hdr
          cases hdr
        rw [if_pos (by omega), outR]
    rw [hsplit, ← List.append_assoc] at he
    refine to_L9 (i := i) (by omega) hn (T := out ++ part) (by have := congrArg List.length he; rw [List.length_append] at this; omega) (fun w2 A2 n2 c2 hw2 ho2 => ?_) 9 0 ws[i] w A n c out rfl (by omega) (by simpa using hx) hw ho (by rw [← hpart])
    rw [e3]
    exact ih (i + 1) w2 A2 n2 c2 (out ++ part) (by omega) (by omega) hw2 ho2 he
end

theorem ref_To {w : World} {A : Option Addr} {n c x : Nat} (h : IsN w A n c x) (hx : x < Lim) : Pure Tryz.prog 93 #[.slice A n c] w fun v _ => v = .string (nS x) := by
  have l0 := h.len hx
  have hp := h.pos_len
  obtain ⟨ws, a1, a2, a3, a4, a5, a6, rfl⟩ := h
  refine F.garboardref01_To.vc _ _ _ _ _ ⟨fun h0 => ?_, fun h0 => ?_⟩
  · have : wv ws = 0 := by
      apply Decidable.byContradiction
      intro k
      have := hp.2 k
      omega
    rw [this, ← nS_0]
  · have hne : ws ≠ [] := fun e => by subst e; simp at a2; omega
    have e := outR_eq ws a5 a6 hne
    have hlen : (natT (wv ws)).length ≤ 1000000 := by
      have := size_nS_le hx
      rw [size_nS] at this
      omega
    refine to_L5 a1 a2 a5 l0 (T := (natT (wv ws)).reverse) (by rw [List.length_reverse]; exact hlen) (by rw [Ne, List.reverse_eq_nil_iff]; exact natT_ne _) (fun w' => ?_) n 0 w none 0 0 [] rfl (by omega) (Below.refl _ _) (by simpa using OwnR.nil) (by rw [List.drop_zero, e]; rfl)
    rw [List.reverse_reverse]
    rfl
theorem ref2_To {w : World} {b : Bool} {A : Option Addr} {n c : Nat} {z : Int} (h : IsZ w b A n c z) (hz : z.natAbs < Lim) : Pure Tryz.prog 92 #[.agg #[.bool b, .slice A n c]] w fun v _ => v = .string (iS z) := by
  obtain ⟨rfl, k⟩ := h
  have hsz := size_nS_le hz
  refine F.garboardref02_To.vc _ _ _ _ _ _ ⟨fun hb w1 x1 => ?_, fun hb w1 x1 => ?_⟩
  · refine Pure.mono (ref_To (k.ext x1 (by decide)) hz) ?_
    rintro v w2 _ rfl
    refine ⟨_, rfl, ?_, congrArg Value.string ?_⟩
    · show 1 + _ ≤ _
      omega
    · apply by_inj
      have hneg : z < 0 := of_decide_eq_true hb
      have e : iS z = st (45 :: natT z.natAbs) := by
        unfold iS
        rw [intT_eq, if_pos hneg]
      rw [e]
      show _ = 45 :: natT z.natAbs
      simp [by_, nS, st, ByteArray.data_append]
  · refine Pure.mono (ref_To (k.ext x1 (by decide)) hz) ?_
    rintro v w2 _ rfl
    refine ⟨_, rfl, congrArg Value.string ?_⟩
    have hneg : ¬ z < 0 := of_decide_eq_false hb
    unfold iS nS
    rw [intT_eq, if_neg hneg]
theorem ref3_To {w : World} {b : Bool} {A A' : Option Addr} {n c n' c' : Nat} {r : Rat} (h : IsQ w b A n c A' n' c' r) (hr : Sm 100000 r) : Pure Tryz.prog 51 #[.agg #[.bool b, .slice A n c, .slice A' n' c']] w fun v _ => v = .string (rS r) := by
  have l1 := lim_of hr.1 (by omega)
  have l2 := lim_of hr.2 (by omega)
  refine F.garboardref03_To.vc _ _ _ _ _ _ _ _ _ fun w1 x1 => Pure.mono (ref2_To (h.ext x1 (by decide)).1 l1) ?_
  rintro v w2 b2 rfl
  refine ⟨_, rfl, Pure.mono (ref_To ((h.ext x1 (by decide)).2.below b2) l2) ?_⟩
  rintro v w3 b3 rfl
  have s1 := size_iS_le l1
  have s2 := size_nS_le l2
  refine ⟨_, rfl, fun hd => ⟨?_, ?_, congrArg Value.string ?_⟩, fun hd => congrArg Value.string ?_⟩
  · show 1 + _ ≤ _
    omega
  · rw [ByteArray.size_append]
    show _ + (1 + _) ≤ _
    omega
  · have hden : r.den ≠ 1 := fun e => hd (by rw [e, nS_1])
    apply by_inj
    have e : by_ (rS r) = intT r.num ++ 47 :: natT r.den := by
      rw [by_rS]
      unfold ratT
      rw [if_neg hden]
    rw [e]
    simp [by_, iS, nS, st, ByteArray.data_append]
  · have hden : r.den = 1 := by
      have hd := Decidable.not_not.1 hd
      rw [nS_1] at hd
      exact nS_inj hd
    unfold rS iS ratT
    rw [if_pos hden]
end Go.Proofs.YtdoailkigecmkaaGreatDoor.B

namespace Go.Proofs.YtdoailkigecmkaaGreatDoor.B
open Go Go.RowKit Go.Proofs Go.Proofs.YtdoailkigecmkaaGreatDoor.Vc

theorem setCells_get : ∀ (vs l : List Value) (o k : Nat), o + vs.length ≤ l.length → (setCells l o vs)[k]? = if o ≤ k ∧ k < o + vs.length then vs[k - o]? else l[k]? := by
  intro vs
  induction vs with
  | nil => intro l o k h; rw [setCells, if_neg (by intro ⟨a, b⟩; simp at b; omega)]
  | cons v r ih =>
    intro l o k h
    simp only [List.length_cons] at h ⊢
    rw [setCells, ih _ _ _ (by simp; omega)]
    by_cases h1 : o + 1 ≤ k ∧ k < o + 1 + r.length
    · rw [if_pos h1, if_pos (by omega), show k - o = (k - (o + 1)) + 1 by omega, List.getElem?_cons_succ]
    · rw [if_neg h1]
      by_cases h2 : k = o
      · subst h2
        rw [if_pos (by omega), List.getElem?_set_self (by omega)]
        simp
      · rw [if_neg (by omega), List.getElem?_set_ne (by omega)]

theorem worldSet_heap (b t : Nat) : ∀ (vs : List Value) (o : Nat) (w : World) (cur : List Value), w.heap[b]? = some (.cells cur.toArray t (0, 0)) →
    (w.setCells b o vs).heap[b]? = some (.cells (setCells cur o vs).toArray t (0, 0)) ∧ (∀ k, k ≠ b → (w.setCells b o vs).heap[k]? = w.heap[k]?) ∧ (w.setCells b o vs).heap.size = w.heap.size ∧ (w.setCells b o vs).os = w.os ∧ (w.setCells b o vs).tape = w.tape ∧ (w.setCells b o vs).output = w.output := by
  intro vs
  induction vs with
  | nil => intro o w cur h; exact ⟨h, fun _ _ => rfl, rfl, rfl, rfl, rfl⟩
  | cons v r ih =>
    intro o w cur h
    have h1 : (w.setCell ⟨b, o, none⟩ v).heap[b]? = some (.cells (cur.set o v).toArray t (0, 0)) := by
      simp [World.setCell, Array.getElem?_modify, h]
    obtain ⟨k1, k2, k3, k4, k5, k6⟩ := ih (o + 1) (w.setCell ⟨b, o, none⟩ v) (cur.set o v) h1
    rw [World.setCells]
    refine ⟨k1, fun k hk => ?_, ?_, ?_, ?_, ?_⟩
    · rw [k2 k hk]
      exact RowKit.Below.heap_setCell _ _ _ _ (fun e => hk (by first | exact e | exact e.symm))
    · rw [k3]; simp [World.setCell]
    · rw [k4]; rfl
    · rw [k5]; rfl
    · rw [k6]; rfl
theorem worldSet_below {w : World} {B b t : Nat} {cur vs : List Value} {o : Nat} (h : w.heap[b]? = some (.cells cur.toArray t (0, 0))) (hB : B ≤ b) : Below B w (w.setCells b o vs) := by
  obtain ⟨k1, k2, k3, k4, k5, k6⟩ := worldSet_heap b t vs o w cur h
  exact ⟨k4, k5, k6, by omega, fun k hk => k2 k (by omega)⟩

theorem runOk_copy {t t2 ty : Nat} (ht : Tryz.prog.underlying t = some (.slice 23)) {B : Nat} {w : World} {b o dLen dCap : Nat} {a : Addr} {sLen sCap : Nat} {cs cur : List Value} (hn : cs.length = Nat.min sLen dLen)
    (hsrc : ∀ j v, cs[j]? = some v → w.cell? (a.add j) = some v) (hb : w.heap[b]? = some (.cells cur.toArray 23 (0, 0))) (hle : o + cs.length ≤ cur.length) (h1 : ∀ v ∈ cs, isCell v = true) (hB : B ≤ b) {K : World → Prop}
    (hK : ∀ w', w'.heap[b]? = some (.cells (setCells cur o cs).toArray 23 (0, 0)) → (∀ k, k ≠ b → w'.heap[k]? = w.heap[k]?) → w'.heap.size = w.heap.size → Below B w w' → K w') :
    RunOk Tryz.prog (Builtin.copy_ #[t, t2] ty #[.slice (some ⟨b, o, none⟩) dLen dCap, .slice (some a) sLen sCap]) B [] w fun r w1 => ∃ i : Int, r = .int .i64 i ∧ K w1 := by
  have hsz : (Tryz.prog.info? 23).map (·.size) = some 1 := by kernel_rfl
  have hr := run_copy_cells (P := Tryz.prog) w t t2 ty 23 b o dLen dCap a sLen sCap cs ht hsz hn hsrc
    (fun j hj => by
      simp only [World.cell?, hb]
      have : o + j < cur.length := by omega
      simp [this])
    (fun j hj => Lib.frozen_of_heap hb _) (fun v hv => oneCell'_of (h1 v hv))
  obtain ⟨k1, k2, k3, k4, k5, k6⟩ := worldSet_heap b 23 cs o w cur hb
  have hbel := worldSet_below (o := o) (vs := cs) hb hB
  exact ⟨_, _, hr, hbel, by omega, fun k ty cs h => (by cases h), _, rfl, hK _ k1 k2 k3 hbel⟩

theorem t_sorted : Tryz.prog.underlying 89 = some (.slice 23) := Tryz.underlying89
theorem t_rats : Tryz.prog.underlying 88 = some (.slice 23) := Tryz.underlying88
theorem el_sorted : El Tryz.prog 89 23 1 16 := El.of (by kernel_rfl)

theorem append_types (ty : Nat) (A : Option Addr) (n0 c0 : Nat) (a : Addr) (m c : Nat) (w : World) : (Builtin.append_ #[89, 88] ty #[.slice A n0 c0, .slice (some a) m c]).run Tryz.prog w = (Builtin.append_ #[89, 89] ty #[.slice A n0 c0, .slice (some a) m c]).run Tryz.prog w := by
  simp [Builtin.append_, run_underlying t_sorted, run_underlying t_rats, Tryz.sizeOf23]

theorem cut1 {b l c : Nat} (h : l < c) : cutAddr (some ⟨b, 0, none⟩) l c 1 = some ⟨b, l, none⟩ := by
  unfold cutAddr
  rw [if_neg (by omega)]
  simp [add_plain0]
theorem ins_take {xs L : List Value} {x : Value} {i n : Nat} (hxl : xs.length = n) (hi : i ≤ n) (h1 : ∀ k, k < i → L[k]? = xs[k]?) (h2 : L[i]? = some x) (h3 : ∀ k, i < k → k ≤ n → L[k]? = xs[k - 1]?) : L.take (n + 1) = xs.take i ++ x :: xs.drop i := by
  apply List.ext_getElem?
  intro k
  rw [List.getElem?_take]
  have hl : (xs.take i).length = i := by simp; omega
  by_cases hk : k < i
  · rw [if_pos (by omega), List.getElem?_append_left (by omega), List.getElem?_take, if_pos hk, h1 k hk]
  · rw [List.getElem?_append_right (by omega), hl]
    by_cases hk2 : k = i
    · subst hk2
      rw [if_pos (by omega), Nat.sub_self, h2]
      rfl
    · rw [show k - i = (k - i - 1) + 1 by omega, List.getElem?_cons_succ, List.getElem?_drop]
      by_cases hk3 : k < n + 1
      · rw [if_pos hk3, h3 k (by omega) (by omega)]
        congr 1
        omega
      · rw [if_neg hk3, List.getElem?_eq_none (by omega)]

theorem slices_Insert {w : World} {B : Nat} (hB : B ≤ w.heap.size) {A : Option Addr} {n c : Nat} {xs : List Value} (ho : w.ownsRow B 23 1 (.slice A n c) n xs) (h1 : ∀ v ∈ xs, isCell v = true) (hn : n ≤ 1000) {i : Nat} (hi : i ≤ n)
    {vb : Nat} {x : Value} (hx : isCell x = true) (hv : w.heap[vb]? = some (.cells #[x] 23 (0, 0))) (hne : ∀ a, A = some a → a.block ≠ vb) :
    PureB Tryz.prog 100 #[.slice A n c, .int .i64 (i : Int), .slice (some ⟨vb, 0, none⟩) 1 1] B w fun v w' => ∃ A' c', v = .slice A' (n + 1) c' ∧ w'.ownsRow B 23 1 (.slice A' (n + 1) c') (n + 1) (xs.take i ++ x :: xs.drop i) ∧
      (∀ k, k < w.heap.size → (∀ a, A = some a → k ≠ a.block) → w'.heap[k]? = w.heap[k]?) := by
  have hxl : xs.length = n := by have := ho.1; simpa using this
  have hsrcv : ∀ j v, ([x] : List Value)[j]? = some v → w.cell? ((⟨vb, 0, none⟩ : Addr).add j) = some v := by
    intro j v hj
    rw [add_plain0]
    simp only [World.cell?, hv]
    cases j with
    | zero => simpa using hj
    | succ j => simp at hj
  have hnc : n ≤ c := by
    obtain ⟨_, _, e, h⟩ := ownsRow_form ho
    cases e; exact h
  refine F.slices_Insert_sensor_sorted_api_Rat.vcB _ _ _ _ _ _ _ _ w hB _ ⟨by omega, fun h => by omega, fun _ => ⟨fun h => ?_, fun h => ⟨by simp only [inR]; omega, fun h2 => ?_, fun h2 => ?_⟩⟩⟩
  · -- at the end
    have hin : i = n := by omega
    subst hin
    have key := runOk_append (P := Tryz.prog) (ty := 89) el_sorted (Nat.le_refl B) (tys := []) ho (a := ⟨vb, 0, none⟩) (m := 1) (c := 1) (news := [x]) rfl hsrcv (by simpa using hx) hB (by omega) (by simp)
      (K := fun A' n' c' w' => ∃ A'' c'', Value.slice A' n' c' = .slice A'' (i + 1) c'' ∧ w'.ownsRow B 23 1 (.slice A'' (i + 1) c'') (i + 1) (xs.take i ++ x :: xs.drop i) ∧
        (∀ k, k < w.heap.size → (∀ a, A = some a → k ≠ a.block) → w'.heap[k]? = w.heap[k]?))
      (fun A' c' w2 k1 k2 k3 => ⟨A', c', rfl, by
        rw [List.take_of_length_le (by omega), List.drop_eq_nil_of_le (by omega)]
        exact k1, fun k hk hka => k2.block k hk fun e => by
          cases A with
          | none => simp [Value.ownBlock] at e
          | some a => simp [Value.ownBlock] at e; exact hka a rfl e⟩)
    obtain ⟨r, w1, hr, q1, q2, q3, q4⟩ := key
    exact ⟨r, w1, by rw [append_types]; exact hr, q1, q2, q3, q4⟩
  · -- no room: a new row
    have hA : ∃ g, A = some ⟨g, 0, none⟩ ∧ ∃ cur : Array Value, B ≤ g ∧ w.heap[g]? = some (.cells cur 23 (0, 0)) ∧ cur.toList.take n = xs ∧ cur.size = c := by
      rcases ho.2 with ⟨h0, h3⟩ | ⟨g, cap, cur, h3, h4, h5, h6, h7, h8, h9⟩
      · omega
      · cases h3
        exact ⟨g, rfl, cur, h4, h5, by simpa using h9, by simpa using h8⟩
    obtain ⟨g, rfl, cur, hBg, hg, hcur, hcs⟩ := hA
    have hin : i < n := by omega
    obtain ⟨i0, z, e2, e3, e4, e5, e6⟩ := el_sorted.info
    have hgs : ∀ j v, xs[j]? = some v → w.cell? ((⟨g, 0, none⟩ : Addr).add j) = some v := fun j v hj => by
      rw [add_plain0]
      simp only [World.cell?, hg, Nat.zero_add]
      rw [← hcur, List.getElem?_take] at hj
      split at hj
      · simpa using hj
      · cases hj
    have hold : (Builtin.firstCells i0.size i (.slice (some ⟨g, 0, none⟩) i c)).run Tryz.prog w.drew = .ok (xs.take i).toArray w.drew := by
      rw [e4]
      exact run_firstCells_some w.drew 1 i ⟨g, 0, none⟩ i c (xs.take i) (by rw [List.length_take]; omega) (fun j v hj => by
        rw [List.getElem?_take] at hj
        split at hj
        · exact hgs j v hj
        · cases hj)
    have hik : i + (n + 1 - i) = n + 1 := by omega
    have hbig : (n + 1) * 16 ≤ 140737488355328 := by omega
    have hrz := Lib.run_append_grow_zeros w 89 3 89 23 i0 z .i64 .i64 t_sorted Tryz.underlying3 e2 e3 (some ⟨g, 0, none⟩) i c (xs.take i) hold (n + 1 - i) (by omega) (by omega) (by omega) (by omega) (by rw [e5]; omega) (by rw [e5, hik]; exact growslice_fits (by omega) hbig)
    rw [hik] at hrz
    obtain ⟨G, hG⟩ : ∃ G, G = grownCap w (n + 1) c 23 := ⟨_, rfl⟩
    have hGn : n + 1 ≤ G := by rw [hG]; exact grownCap_ge w _ _ _
    have hGm : G ≤ maxLen := by rw [hG]; exact grownCap_le_maxLen w (n + 1) c _ (by unfold maxLen; omega)
    rw [← hG] at hrz
    have hz1 : z.cells.size = 1 := e6
    obtain ⟨R0, hR0⟩ : ∃ R0 : List Value, R0 = ((xs.take i).toArray ++ Builtin.zeroCells z.cells (n + 1 - i) ++ Builtin.zeroCells z.cells (G - (n + 1))).toList := ⟨_, rfl⟩
    have hR0a : ((xs.take i).toArray ++ Builtin.zeroCells z.cells (n + 1 - i) ++ Builtin.zeroCells z.cells (G - (n + 1))) = R0.toArray := by rw [hR0]
    have hR0l : R0.length = G := by
      rw [hR0]
      simp only [Array.length_toList, Array.size_append, List.size_toArray, List.length_take, size_zeroCells, hz1]
      omega
    have hR0p : ∀ k, k < i → R0[k]? = xs[k]? := fun k hk => by
      rw [hR0]
      simp only [Array.toList_append, List.append_assoc]
      rw [List.getElem?_append_left (by simp; omega), List.getElem?_take, if_pos hk]
    rw [hR0a] at hrz
    have ekk : ((n : Int) + ((1 : Nat) : Int)) - (i : Int) = ((n + 1 - i : Nat) : Int) := by omega
    have eN : ((i : Int)).toNat = i := Int.toNat_natCast i
    have hgrow : w.grownBy (w.drew.alloc (.cells R0.toArray 23)) none := ⟨rfl, rfl, rfl, by simp, fun k hk _ => RowKit.Below.heap_alloc w.drew _ k hk⟩
    have hb1 := below_grown (B := B) hgrow (by simp) hB
    have hnew : (w.drew.alloc (.cells R0.toArray 23)).heap[w.heap.size]? = some (.cells R0.toArray 23 (0, 0)) := heap_alloc_new w.drew _
    obtain ⟨W1, hW1⟩ : ∃ W1, W1 = w.drew.alloc (.cells R0.toArray 23) := ⟨_, rfl⟩
    rw [← hW1] at hrz hgrow hb1 hnew
    have gl := (Array.getElem?_eq_some_iff.1 hg).1
    have vl := (Array.getElem?_eq_some_iff.1 hv).1
    have e1N : ((i : Int) + ((1 : Nat) : Int)).toNat = i + 1 := by omega
    rw [eN, ekk]
    refine ⟨by omega, by simp only [inR]; omega, by simp only [inR]; omega, _, W1, hrz, hb1, hgrow.size, fun k ty cs h => (by cases h), _, _, _, rfl, by omega, ?_⟩
    rw [cut1 (by omega)]
    refine runOk_copy t_sorted (cs := [x]) (cur := R0) (by simp [Nat.min_def] <;> omega) (fun j v hj => ?_) hnew (by simp only [List.length_singleton]; omega) (by simpa using hx) hB fun w2 c1 c2 c3 c4 => ⟨by simp only [inR]; omega, by omega, by omega, fun w3 x3 => ?_⟩
    · have := hsrcv j v hj
      rw [add_plain0] at this ⊢
      simp only [World.cell?] at this ⊢
      rw [hgrow.block vb vl (by simp)]
      exact this
    rw [e1N, cut1 (by omega), cut1 (by omega)]
    have d1 := ext_nil x3 c1
    have hg3 : w3.heap[g]? = some (.cells cur 23 (0, 0)) := ext_nil x3 (by rw [c2 g (by omega), hgrow.block g gl (by simp)]; exact hg)
    refine runOk_copy t_sorted (cs := xs.drop i) (cur := setCells R0 i [x]) (by rw [List.length_drop, hxl]; simp only [Nat.min_def]; split <;> omega) (fun j v hj => ?_) d1 (by rw [setCells_len, List.length_drop]; omega) (fun v hv2 => h1 v (List.mem_of_mem_drop hv2)) hB fun w4 f1 f2 f3 f4 => ?_
    · rw [List.getElem?_drop] at hj
      have := hgs (i + j) v hj
      rw [add_plain0] at this ⊢
      simp only [World.cell?, hg, hg3, Nat.zero_add] at this ⊢
      exact this
    refine ⟨_, _, rfl, ⟨by simp [hxl]; omega, .inr ⟨w.heap.size, G, _, rfl, hB, f1, hGn, hGm, by simp [setCells_len, hR0l], ?_⟩⟩, fun k hk hka => ?_⟩
    · have hlen1 : i + ([x] : List Value).length ≤ R0.length := by simp; omega
      have hlen2 : (i + 1) + (xs.drop i).length ≤ (setCells R0 i [x]).length := by rw [setCells_len, List.length_drop]; omega
      have := ins_take (L := setCells (setCells R0 i [x]) (i + 1) (xs.drop i)) (x := x) hxl hi (fun k hk => by
          rw [setCells_get _ _ _ _ hlen2, if_neg (by omega), setCells_get _ _ _ _ hlen1, if_neg (by omega)]
          exact hR0p k hk)
        (by rw [setCells_get _ _ _ _ hlen2, if_neg (by omega), setCells_get _ _ _ _ hlen1, if_pos (by simp)]; simp)
        (fun k hk hk2 => by
          rw [setCells_get _ _ _ _ hlen2, if_pos (by rw [List.length_drop]; omega), List.getElem?_drop]
          rw [show i + (k - (i + 1)) = k - 1 by omega])
      simpa using this
    · rw [f2 k (by omega)]
      rcases x3.other k (by rw [c3]; have := hgrow.size; omega) with h7 | ⟨t, ht, _⟩
      · rw [h7, c2 k (by omega), hgrow.block k hk (by simp)]
      · simp at ht
  · -- there is room
    have hin : i < n := by omega
    have hA : ∃ g, A = some ⟨g, 0, none⟩ ∧ ∃ cur : Array Value, B ≤ g ∧ w.heap[g]? = some (.cells cur 23 (0, 0)) ∧ cur.toList.take n = xs ∧ cur.size = c ∧ c ≤ maxLen := by
      rcases ho.2 with ⟨h0, h3⟩ | ⟨g, cap, cur, h3, h4, h5, h6, h7, h8, h9⟩
      · omega
      · cases h3
        exact ⟨g, rfl, cur, h4, h5, by simpa using h9, by simpa using h8, h7⟩
    obtain ⟨g, rfl, cur, hBg, hg, hcur, hcs, hcm⟩ := hA
    have hgv : g ≠ vb := hne _ rfl
    have eN : ((i : Int)).toNat = i := Int.toNat_natCast i
    have e1N : ((i : Int) + ((1 : Nat) : Int)).toNat = i + 1 := by omega
    have enN : ((n : Int) + ((1 : Nat) : Int)).toNat = n + 1 := by omega
    obtain ⟨L, hL⟩ : ∃ L : List Value, L = cur.toList := ⟨_, rfl⟩
    have hLa : cur = L.toArray := by rw [hL]
    rw [← hL] at hcur
    have hLl : L.length = c := by rw [hL]; simpa using hcs
    rw [hLa] at hg
    have hgs : ∀ j v, xs[j]? = some v → L[j]? = some v := fun j v hj => by
      rw [← hcur, List.getElem?_take] at hj
      split at hj
      · exact hj
      · cases hj
    have hov := Lib.run_overlaps_apart w 88 4 23 t_rats 1 Tryz.sizeOf23 ⟨vb, 0, none⟩ ⟨g, i + 1, none⟩ 1 1 (n + 1 - (i + 1)) (c - (i + 1)) (fun e => hgv e.symm) 23 23 1 c (by simp [World.shape?, hv]) (by simp [World.shape?, hg, hLl]) (by omega) (Lib.frozen_of_heap hv _) (Lib.frozen_of_heap hv _)
    have hco : (callFunc 118 #[.slice (some ⟨vb, 0, none⟩) 1 1, .slice (some ⟨g, i + 1, none⟩) (n + 1 - (i + 1)) (c - (i + 1))]).run Tryz.prog w = .ok (.value (.bool false)) w := by
      rw [run_callFunc_extern Tryz.func118 (by kernel_rfl) (by kernel_rfl) (by kernel_rfl) (e := Extern.SlicesOverlaps.overlaps #[88, 88] #[4]) (by kernel_rfl), hov]
      rfl
    rw [e1N, enN, eN]
    have hc1 : n + 1 ≤ c := by omega
    rw [cut1 (by omega), cut1 (by omega)]
    have hxd : (xs.drop i).length = n - i := by rw [List.length_drop, hxl]
    refine ⟨by simp only [inR]; omega, by omega, by simp only [inR]; omega, by omega, _, w, hco, Below.refl _ _, Nat.le_refl _, fun k ty cs h => (by cases h), _, rfl, fun _ => ⟨by simp only [inR]; omega, by omega, by omega, fun w1 x1 => ?_⟩, fun h => absurd rfl h⟩
    have g1 : w1.heap[g]? = some (.cells L.toArray 23 (0, 0)) := ext_nil x1 hg
    have v1 : w1.heap[vb]? = some (.cells #[x] 23 (0, 0)) := ext_nil x1 hv
    refine runOk_copy t_sorted (cs := xs.drop i) (cur := L) (by rw [hxd]; simp only [Nat.min_def]; split <;> omega) (fun j v hj => ?_) g1 (by rw [hxd]; omega) (fun v hv2 => h1 v (List.mem_of_mem_drop hv2)) hBg fun w2 c1 c2 c3 c4 => ⟨by omega, ?_⟩
    · rw [List.getElem?_drop] at hj
      have := hgs (i + j) v hj
      rw [add_plain0]
      simp only [World.cell?, g1]
      simpa using this
    refine runOk_copy t_sorted (cs := [x]) (cur := setCells L (i + 1) (xs.drop i)) (by simp [Nat.min_def] <;> omega) (fun j v hj => ?_) c1 (by rw [setCells_len]; simp only [List.length_singleton]; omega) (by simpa using hx) hBg fun w3 d1 d2 d3 d4 => ?_
    · have h8 : w2.heap[vb]? = some (.cells #[x] 23 (0, 0)) := by rw [c2 vb (fun e => hgv e.symm)]; exact v1
      rw [add_plain0]
      simp only [World.cell?, h8]
      cases j with
      | zero => simpa using hj
      | succ j => simp at hj
    refine ⟨_, _, rfl, ⟨by simp [hxl]; omega, .inr ⟨g, c, _, rfl, hBg, d1, by omega, hcm, by simp [setCells_len, hLl], ?_⟩⟩, fun k hk hka => ?_⟩
    · have hlen1 : (i + 1) + (xs.drop i).length ≤ L.length := by rw [hxd]; omega
      have hlen2 : i + ([x] : List Value).length ≤ (setCells L (i + 1) (xs.drop i)).length := by rw [setCells_len]; simp only [List.length_singleton]; omega
      have := ins_take (L := setCells (setCells L (i + 1) (xs.drop i)) i [x]) (x := x) hxl hi (fun k hk => by
          rw [setCells_get _ _ _ _ hlen2, if_neg (by omega), setCells_get _ _ _ _ hlen1, if_neg (by omega)]
          obtain ⟨v, hv3⟩ : ∃ v, xs[k]? = some v := ⟨xs[k]'(by omega), List.getElem?_eq_getElem _⟩
          rw [hv3, hgs k v hv3])
        (by rw [setCells_get _ _ _ _ hlen2, if_pos (by simp)]; simp)
        (fun k hk hk2 => by
          rw [setCells_get _ _ _ _ hlen2, if_neg (by simp; omega), setCells_get _ _ _ _ hlen1, if_pos (by rw [hxd]; omega), List.getElem?_drop]
          rw [show i + (k - (i + 1)) = k - 1 by omega])
      simpa using this
    · have hkg : k ≠ g := hka _ rfl
      rw [d2 k hkg, c2 k hkg]
      rcases x1.other k hk with h7 | ⟨t, ht, _⟩
      · exact h7
      · simp at ht
end Go.Proofs.YtdoailkigecmkaaGreatDoor.B

namespace Go.Proofs.YtdoailkigecmkaaGreatDoor.B
open Go Go.RowKit Go.Proofs Go.Proofs.YtdoailkigecmkaaGreatDoor.Vc

def Srt (l : List Rat) : Prop := ∀ (i j : Nat) (a b : Rat), i ≤ j → l[i]? = some a → l[j]? = some b → a ≤ b
def lb (x : Rat) (l : List Rat) : Nat := (l.takeWhile fun y => decide (y < x)).length
def ins (x : Rat) (l : List Rat) : List Rat := l.take (lb x l) ++ x :: l.drop (lb x l)
theorem lb_le (x : Rat) (l : List Rat) : lb x l ≤ l.length := by
  unfold lb
  exact (List.takeWhile_sublist _).length_le
theorem lb_eq {x : Rat} {l : List Rat} {i : Nat} (hi : i ≤ l.length) (h1 : ∀ k a, k < i → l[k]? = some a → a < x) (h2 : ∀ a, l[i]? = some a → ¬ a < x) : lb x l = i := by
  induction l generalizing i with
  | nil => simp at hi; subst hi; rfl
  | cons a r ih =>
    cases i with
    | zero =>
      have := h2 a rfl
      simp [lb, this]
    | succ i =>
      have ha := h1 0 a (by omega) rfl
      have := ih (i := i) (by simpa using hi) (fun k b hk hb => h1 (k + 1) b (by omega) (by simpa using hb)) (fun b hb => h2 b (by simpa using hb))
      unfold lb at *
      simp [ha, this]
theorem lb_lt {x : Rat} : ∀ {l : List Rat} {k : Nat} {a : Rat}, k < lb x l → l[k]? = some a → a < x := by
  intro l
  induction l with
  | nil => intro k a h; simp [lb] at h
  | cons c r ih =>
    intro k a h ha
    by_cases hc : c < x
    · cases k with
      | zero => simp at ha; subst ha; exact hc
      | succ k =>
        refine ih (k := k) ?_ (by simpa using ha)
        unfold lb at *
        simp [hc] at h
        exact h
    · unfold lb at h
      simp [hc] at h
theorem lb_ge {x : Rat} {l : List Rat} (hs : Srt l) {k : Nat} {a : Rat} (h : lb x l ≤ k) (ha : l[k]? = some a) : ¬ a < x := by
  intro hax
  have hk : k < l.length := (List.getElem?_eq_some_iff.1 ha).1
  have : k + 1 ≤ lb x l := by
    -- all up to k are less
    have gen : ∀ (l : List Rat) (k : Nat), k < l.length → (∀ j b, j ≤ k → l[j]? = some b → b < x) → k + 1 ≤ lb x l := by
      intro l
      induction l with
      | nil => intro k hk; simp at hk
      | cons c r ih =>
        intro k hk hb
        have hc := hb 0 c (by omega) rfl
        unfold lb
        rw [List.takeWhile_cons_of_pos (by simpa using hc), List.length_cons]
        cases k with
        | zero => omega
        | succ k =>
          have := ih k (by simpa using hk) fun j b hj hjb => hb (j + 1) b (by omega) (by simpa using hjb)
          unfold lb at this
          omega
    refine gen l k hk fun j b hj hjb => ?_
    have h1 := hs j k b a hj hjb ha
    grind
  omega
theorem ins_len (x : Rat) (l : List Rat) : (ins x l).length = l.length + 1 := by
  have := lb_le x l
  simp [ins]
  omega
theorem ins_get (x : Rat) (l : List Rat) (k : Nat) : (ins x l)[k]? = if k < lb x l then l[k]? else if k = lb x l then some x else l[k - 1]? := by
  have hl := lb_le x l
  have e : (l.take (lb x l)).length = lb x l := by simp; omega
  unfold ins
  split
  · rw [List.getElem?_append_left (by omega), List.getElem?_take, if_pos (by assumption)]
  · rw [List.getElem?_append_right (by omega), e]
    split
    · rename_i h; subst h; simp
    · rw [show k - lb x l = (k - lb x l - 1) + 1 by omega, List.getElem?_cons_succ, List.getElem?_drop]
      congr 1; omega
theorem Srt.ins {x : Rat} {l : List Rat} (h : Srt l) : Srt (ins x l) := by
  intro i j a b hij ha hb
  rw [ins_get] at ha hb
  split at ha
  · rename_i h1
    have hax := lb_lt h1 ha
    split at hb
    · exact h i j a b hij ha hb
    · split at hb
      · cases hb; exact Rat.le_of_lt hax
      · exact h i (j - 1) a b (by omega) ha hb
  · rename_i h1
    rw [if_neg (by omega)] at hb
    split at ha
    · rename_i h2
      cases ha
      split at hb
      · cases hb; exact Rat.le_refl
      · exact Rat.not_lt.1 (lb_ge h (by omega) hb)
    · rename_i h2
      rw [if_neg (by omega)] at hb
      exact h (i - 1) (j - 1) a b (by omega) ha hb
end Go.Proofs.YtdoailkigecmkaaGreatDoor.B

namespace Go.Proofs.YtdoailkigecmkaaGreatDoor.B
open Go Go.RowKit Go.Proofs Go.Proofs.YtdoailkigecmkaaGreatDoor.Vc

abbrev rowsR (l : List Rat) : List (List Value) := l.map fun r => [.string (rS r)]
theorem rowsR_get {l : List Rat} {k : Nat} {a : Rat} (h : l[k]? = some a) : (rowsR l)[k]? = some [.string (rS a)] := by simp [h]

theorem run_shr (s : Nat) (hs : s < 18446744073709551616) (w : World) : (binOp .shr 144 (.int .u64 (s : Int)) (.int .u64 1)).run Tryz.prog w = .ok (.int .u64 ((s / 2 : Nat) : Int)) w := by
  have e : binOp .shr 144 (.int .u64 (s : Int)) (.int .u64 1) = Op.shift .shr .u64 (s : Int) .u64 1 := rfl
  rw [e, shift_shr .u64 .u64 _ _ (by decide) (by decide)]
  rfl

theorem put_c1 {w : World} {x y : Rat} (hg : Glob w) (hx : Big x) (hy : Big y) : Pure Tryz.prog 99 #[.string (rS x), .string (rS y)] w fun v _ => v = .int .i64 (cmpR x y) := by
  refine F.sensor_sorted_put_c1.vc _ _ _ _ (Pure.mono (sensor_compare hg hx hy) ?_)
  rintro v w2 _ rfl
  exact ⟨_, rfl, rfl⟩

theorem search_loop {w0 : World} (hg : Glob w0) {A : Option Addr} {n c : Nat} {l : List Rat} (hl : SlR w0 A 1 (rowsR l)) (hlen : l.length = n) (hn : n ≤ 1000) (hb : ∀ r ∈ l, Big r) (hs : Srt l) {x : Rat} (hx : Big x) {R : Value → World → Prop}
    (hR : ∀ b w, R (.tuple #[.int .i64 (lb x l : Nat), .bool b]) w) :
    ∀ (d i j : Nat) (w : World), j - i ≤ d → i ≤ j → j ≤ n → Below w0.heap.size w0 w → (∀ k a, k < i → l[k]? = some a → a < x) → (∀ k a, j ≤ k → l[k]? = some a → ¬ a < x) →
      F.slices_BinarySearchFunc_sensor_sorted_api_Rat_api_Rat.L3 A n c (rS x) 99 #[] #[] n i j w0.heap.size w R := by
  have fin : ∀ (i : Nat) (w : World), i ≤ n → Below w0.heap.size w0 w → (∀ k a, k < i → l[k]? = some a → a < x) → (∀ k a, i ≤ k → l[k]? = some a → ¬ a < x) →
      F.slices_BinarySearchFunc_sensor_sorted_api_Rat_api_Rat.L3 A n c (rS x) 99 #[] #[] n i i w0.heap.size w R := by
    intro i w hi hw h1 h2
    have e : lb x l = i := lb_eq (by omega) h1 (fun a ha => h2 i a (Nat.le_refl _) ha)
    rw [e] at hR
    refine F.slices_BinarySearchFunc_sensor_sorted_api_Rat_api_Rat.L3.step _ _ _ _ _ _ _ _ _ _ _ _ _ ⟨fun h => by omega, fun _ => ⟨fun h3 => ?_, fun _ => hR _ w⟩⟩
    obtain ⟨q, a, hA, hrow⟩ := (hl.keep hw (Nat.le_refl _)).load (n := n) (by simpa using hlen) (j := (i : Int)) (by omega) (by omega)
    have hil : i < l.length := by omega
    obtain ⟨hcell, _⟩ := hrow _ (by rw [Int.toNat_natCast]; exact rowsR_get (List.getElem?_eq_getElem hil)) rfl
    refine ⟨q, a, hA, _, hcell, by kernel_rfl, Pure.mono (put_c1 (hg.next hw) (hb _ (List.getElem_mem _)) hx) ?_⟩
    rintro v w2 _ rfl
    exact ⟨_, rfl, hR _ w2⟩
  intro d
  induction d with
  | zero =>
    intro i j w hd hij hj hw h1 h2
    have : i = j := by omega
    subst this
    exact fin i w hj hw h1 h2
  | succ d ih =>
    intro i j w hd hij hj hw h1 h2
    by_cases he : i = j
    · subst he
      exact fin i w hj hw h1 h2
    obtain ⟨h, hh⟩ : ∃ h, h = (i + j) / 2 := ⟨_, rfl⟩
    have hil : h < l.length := by omega
    refine F.slices_BinarySearchFunc_sensor_sorted_api_Rat_api_Rat.L3.step _ _ _ _ _ _ _ _ _ _ _ _ _ ⟨fun _ => ⟨by simp only [inR]; omega, by simp only [inR]; omega, ?_⟩, fun h => by omega⟩
    have es : (i : Int) + (j : Int) = ((i + j : Nat) : Int) := by omega
    rw [es]
    refine ⟨_, _, run_shr (i + j) (by omega) w, Below.refl _ _, Nat.le_refl _, fun _ _ _ _ _ => rfl, _, rfl, ?_⟩
    rw [← hh]
    refine ⟨by simp only [inR]; omega, ?_⟩
    obtain ⟨q, a, hA, hrow⟩ := (hl.keep hw (Nat.le_refl _)).load (n := n) (by simpa using hlen) (j := (h : Int)) (by omega) (by omega)
    obtain ⟨hcell, _⟩ := hrow _ (by rw [Int.toNat_natCast]; exact rowsR_get (List.getElem?_eq_getElem hil)) rfl
    refine ⟨q, a, hA, _, hcell, by kernel_rfl, Pure.mono (put_c1 (hg.next hw) (hb _ (List.getElem_mem _)) hx) ?_⟩
    rintro v w2 b2 rfl
    refine ⟨_, rfl, fun h3 => ⟨by simp only [inR]; omega, ?_⟩, fun h3 => ?_⟩
    · rw [cmpR_lt] at h3
      have e3 : (h : Int) + 1 = ((h + 1 : Nat) : Int) := by omega
      rw [e3]
      refine ih (h + 1) j w2 (by omega) (by omega) hj (kP hw b2) (fun k a hk ha => ?_) h2
      have := hs k h a _ (by omega) ha (List.getElem?_eq_getElem hil)
      grind
    · rw [cmpR_lt] at h3
      refine ih i h w2 (by omega) (by omega) (by omega) (kP hw b2) h1 fun k a hk ha => ?_
      have := hs h k _ a hk (List.getElem?_eq_getElem hil) ha
      grind

theorem search_list {w : World} (hg : Glob w) {A : Option Addr} {n c : Nat} {l : List Rat} (hl : SlR w A 1 (rowsR l)) (hlen : l.length = n) (hn : n ≤ 1000) (hb : ∀ r ∈ l, Big r) (hs : Srt l) {x : Rat} (hx : Big x) :
    Pure Tryz.prog 98 #[.slice A n c, .string (rS x), .func (.func 99) #[] #[]] w fun v _ => ∃ b, v = .tuple #[.int .i64 (lb x l : Nat), .bool b] := by
  refine F.slices_BinarySearchFunc_sensor_sorted_api_Rat_api_Rat.vc _ _ _ _ _ _ _ _ _ ?_
  refine search_loop hg hl hlen hn hb hs hx (fun b w => ⟨b, rfl⟩) n 0 n w (by omega) (by omega) (by omega) (Below.refl _ _) (fun k a h => by omega) fun k a hk ha => ?_
  rw [List.getElem?_eq_none (by omega)] at ha
  cases ha

theorem rowsR_flat (l : List Rat) : (rowsR l).flatten = l.map fun r => (Value.string (rS r)) := by
  induction l with
  | nil => rfl
  | cons a r ih => simp only [rowsR, List.map_cons, List.flatten_cons] at ih ⊢; rw [ih]; rfl
theorem OwnR.cells {w : World} {B ty : Nat} {A : Option Addr} {n c sz : Nat} {rows : List (List Value)} (h : OwnR w B ty A n c sz rows) : ∀ a, A = some a → ∃ cs : Array Value, w.heap[a.block]? = some (.cells cs ty (0, 0)) := by
  intro a ha
  subst ha
  rcases h.1.2 with ⟨h2, _⟩ | ⟨g, cap, cur, h2, h3, h4, _⟩
  · cases h2
  · cases h2
    exact ⟨cur, h4⟩
theorem two_types {w : World} {a b ta tb : Nat} {ca cb : Array Value} (ha : w.heap[a]? = some (.cells ca ta (0, 0))) (hb : w.heap[b]? = some (.cells cb tb (0, 0))) (ht : ta ≠ tb) : a ≠ b := by
  intro e
  subst e
  rw [ha] at hb
  cases hb
  exact ht rfl

theorem runOk_one {x : Value} (hx : x.cells = #[x]) {B : Nat} {w : World} {tys : List Nat} (hB : B ≤ w.heap.size) {K : Option Addr → Nat → Nat → World → Prop}
    (h : ∀ w2, w2.heap[w.heap.size]? = some (.cells #[x] 23 (0, 0)) → Below w.heap.size w w2 → w.heap.size < w2.heap.size → K (some ⟨w.heap.size, 0, none⟩) 1 1 w2) :
    RunOk Tryz.prog (Instr.buildSlice 88 1 #[(0, x)]) B tys w fun r w1 => ∃ A n c, r = .slice A n c ∧ K A n c w1 := by
  have hr := run_buildAll el_Rats [x] (by simp [hx]) (by simp) w
  simp only [List.flatMap_cons, List.flatMap_nil, hx, List.append_nil] at hr
  have hg := World.grownBy_alloc w (.cells #[x] 23) none
  have hb : Below w.heap.size w (w.alloc (.cells #[x] 23)) := below_grown hg (by simp) (Nat.le_refl _)
  have hnew := heap_alloc_new w (.cells #[x] 23)
  exact ⟨_, _, hr, hb.mono hB, hg.size, fun k ty cs _ hk => hg.block k (Array.getElem?_eq_some_iff.1 hk).1 (by simp), _, _, _, rfl, h _ hnew hb (Array.getElem?_eq_some_iff.1 hnew).1⟩

theorem runOk_box (t : Nat) (v : Value) {B : Nat} {w : World} {tys : List Nat} (hB : B ≤ w.heap.size) {K : Addr → World → Prop}
    (h : ∀ w2, w2.heap[w.heap.size]? = some (.cells v.cells t (0, 0)) → Below w.heap.size w w2 → w.heap.size < w2.heap.size → K ⟨w.heap.size, 0, none⟩ w2) :
    RunOk Tryz.prog (Instr.box t v) B tys w fun r w1 => ∃ a, r = .pointer (some a) ∧ K a w1 := by
  have hr : (Instr.box t v).run Tryz.prog w = .ok (.pointer (some ⟨w.heap.size, 0, none⟩)) (w.alloc (.cells v.cells t)) := by
    simp [Instr.box, Sem.run_bind, Sem.run, newVar, newRow, newObj]
  have hg := World.grownBy_alloc w (.cells v.cells t) none
  have hb : Below w.heap.size w (w.alloc (.cells v.cells t)) := below_grown hg (by simp) (Nat.le_refl _)
  have hnew := heap_alloc_new w (.cells v.cells t)
  exact ⟨_, _, hr, hb.mono hB, hg.size, fun k ty cs _ hk => hg.block k (Array.getElem?_eq_some_iff.1 hk).1 (by simp), _, rfl, h _ hnew hb (Array.getElem?_eq_some_iff.1 hnew).1⟩
theorem runOk_alloc (t : Nat) {z : Value} (hz : ((Tryz.prog.info? t).bind (·.zero)) = some z) {B : Nat} {w : World} {tys : List Nat} (hB : B ≤ w.heap.size) {K : Addr → World → Prop}
    (h : ∀ w2, w2.heap[w.heap.size]? = some (.cells z.cells t (0, 0)) → Below w.heap.size w w2 → w.heap.size < w2.heap.size → K ⟨w.heap.size, 0, none⟩ w2) :
    RunOk Tryz.prog (Instr.alloc t true (.tuple #[])) B tys w fun r w1 => ∃ a, r = .pointer (some a) ∧ K a w1 := by
  obtain ⟨i, hi, hz2⟩ := Option.bind_eq_some_iff.1 hz
  have hr : (Instr.alloc t true (.tuple #[])).run Tryz.prog w = .ok (.pointer (some ⟨w.heap.size, 0, none⟩)) (w.alloc (.cells z.cells t)) := by
    simp [Instr.alloc, zeroValue, typeInfo, program, Sem.run_bind, Sem.run, hi, hz2, newVar, newRow, newObj]
  have hg := World.grownBy_alloc w (.cells z.cells t) none
  have hb : Below w.heap.size w (w.alloc (.cells z.cells t)) := below_grown hg (by simp) (Nat.le_refl _)
  have hnew := heap_alloc_new w (.cells z.cells t)
  exact ⟨_, _, hr, hb.mono hB, hg.size, fun k ty cs _ hk => hg.block k (Array.getElem?_eq_some_iff.1 hk).1 (by simp), _, rfl, h _ hnew hb (Array.getElem?_eq_some_iff.1 hnew).1⟩

theorem sensor_put {w : World} (hg : Glob w) {B pb : Nat} (hB : B ≤ w.heap.size) (hpB : B ≤ pb) {A : Option Addr} {n c : Nat} {l : List Rat} (hp : w.heap[pb]? = some (.cells [.slice A n c].toArray 89 (0, 0))) (ho : OwnR w B 23 A n c 1 (rowsR l)) (hn : n ≤ 999) (hb : ∀ r ∈ l, Big r) (hs : Srt l) {x : Rat} (hx : Big x) :
    PureB Tryz.prog 63 #[.pointer (some ⟨pb, 0, none⟩), .string (rS x)] B w fun r w' => r = .tuple #[] ∧ ∃ A' c', w'.heap[pb]? = some (.cells [.slice A' (n + 1) c'].toArray 89 (0, 0)) ∧ OwnR w' B 23 A' (n + 1) c' 1 (rowsR (ins x l)) ∧
      (∀ k, k < w.heap.size → k ≠ pb → (∀ a, A = some a → k ≠ a.block) → w'.heap[k]? = w.heap[k]?) := by
  have hlen : l.length = n := by have := ho.len; simpa using this
  have hpl := (Array.getElem?_eq_some_iff.1 hp).1
  refine F.sensor_sorted_put.vcB _ _ _ _ hB _ ⟨_, _, _, box_cell0 hp rfl, Pure.mono (search_list hg ho.sl hlen (by omega) hb hs hx) ?_⟩
  rintro v w2 b2 ⟨b, rfl⟩
  have p2 := heap_keep hp b2
  have o2 := ho.below b2
  refine ⟨_, _, rfl, _, _, _, box_cell0 p2 rfl, ?_⟩
  refine runOk_one (x := .string (rS x)) rfl (by have := b2.size; omega) fun w3 hv b3 hlt => ?_
  obtain ⟨vb, hvb⟩ : ∃ vb, vb = w2.heap.size := ⟨_, rfl⟩
  rw [← hvb] at hv ⊢
  have p3 := heap_keep p2 b3
  have o4 := o2.below b3
  have hcell : ∀ v ∈ (rowsR l).flatten, isCell v = true := by
    rw [rowsR_flat]
    intro v hv
    obtain ⟨r, _, rfl⟩ := List.mem_map.1 hv
    rfl
  refine PureB.mono (slices_Insert (i := lb x l) (x := .string (rS x)) (vb := vb) (by have := b2.size; have := b3.size; omega) o4.1 hcell (by omega) (by have := lb_le x l; omega) rfl hv fun a ha e => ?_) ?_
  · have := (o2.blk a ha).2
    omega
  rintro v w4 b4 ⟨A4, c4, rfl, o5, hk⟩
  have p4 : w4.heap[pb]? = some (.cells [.slice A n c].toArray 89 (0, 0)) := by
    rw [hk pb (by have := b2.size; have := b3.size; omega) fun a ha => ?_]
    · exact p3
    · obtain ⟨cs, hcs⟩ := o4.cells a ha
      exact two_types p3 hcs (by decide)
  have o6 : OwnR w4 B 23 A4 (n + 1) c4 1 (rowsR (ins x l)) := by
    refine ⟨?_, by simp [rowsR, ins_len, hlen], fun r hr => ?_⟩
    · rw [rowsR_flat] at o5 ⊢
      unfold ins
      rw [List.map_append, List.map_cons, List.map_take, List.map_drop]
      exact o5
    · obtain ⟨q, _, rfl⟩ := List.mem_map.1 hr
      rfl
  refine ⟨fun k ty cs h => (by cases h), _, _, _, rfl, [.slice A n c], 89, hpB, rfl, p4, by simp, rfl, fun w5 hw => ⟨rfl, A4, c4, ?_, o6.other fun a ha => ?_, fun k hk1 hk2 hk3 => ?_⟩⟩
  · have := hw.at_
    simpa [setCells] using this
  · refine hw.rest _ fun e => ?_
    obtain ⟨cs, hcs⟩ := o6.cells a ha
    exact two_types p4 hcs (by decide) e.symm
  · rw [hw.rest k hk2, hk k (by have := b2.size; have := b3.size; omega) hk3]
    have h2 := b2.block k hk1
    have h3 := b3.block k (by have := b2.size; omega)
    rw [h3, h2]
end Go.Proofs.YtdoailkigecmkaaGreatDoor.B
