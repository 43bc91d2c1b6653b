/- Part 11 of the proofs that: a claim about cargo holds -/
import Derived.Test.YtdnelnicnjplpaaGreatDoorA10
import Derived.Test.YtdnelnicnjplpaaGreatDoorCards
import Derived.Test.YtdnelnicnjplpaaGreatDoorTie
import Derived.WalkKit
import Derived.ProofKit
import Derived.OpenShut
import Derived.Carry
import Derived.Deep.DeepHandedRow
import Derived.Deep.DeepWitnessRowRef
import Derived.Deep.Slices
import Derived.Deep.Fields
import Derived.Lib.SmallJoins
import Derived.Lib.LaidIn
import Derived.Lib.LaidTab
import Derived.Stop.LaidErr
import Derived.Shelf.Vars
import Derived.Laws.IdiomArrays
set_option linter.unusedVariables false
set_option linter.unusedSimpArgs false
namespace Go.Proofs.YtdnelnicnjplpaaGreatDoor.B
open Go Go.RowKit Go.Proofs Go.Proofs.YtdnelnicnjplpaaGreatDoor.Vc

theorem flatMap_le {α β : Type} {f : α → List β} {k : Nat} : ∀ {l : List α}, (∀ x ∈ l, (f x).length ≤ k) → (l.flatMap f).length ≤ l.length * k := by
  intro l
  induction l with
  | nil => intro _; simp
  | cons x r ih =>
    intro h
    rw [List.flatMap_cons, List.length_append, List.length_cons, Nat.add_mul, Nat.one_mul]
    have := h x (by simp)
    have := ih fun y hy => h y (by simp [hy])
    omega
theorem RightS.len {ps : List Pa} {hs : List Ho} {l : List Sw} (h : RightS ps hs l) : l.length ≤ 36 := by
  have e := stows_amts h (f := fA ps hs l) fun _ _ _ _ => rfl
  rw [← e]
  unfold stowsG
  have h1 : ∀ k ∈ List.range hs.length, ((List.range ps.length).flatMap fun i => entS (fA ps hs l) ps hs k i).length ≤ ps.length := fun k _ => by
    have := flatMap_le (f := fun i => entS (fA ps hs l) ps hs k i) (k := 1) (l := List.range ps.length) fun i _ => by
      unfold entS
      split
      · split <;> simp
      · simp
    simpa using this
  have h2 := flatMap_le h1
  rw [List.length_range] at h2
  have := Nat.mul_le_mul h.c.lh h.c.lp
  omega

def outE (r : Except Int (List Sw)) : List Sw × Int := match r with | .error e => ([], e) | .ok l => (l, 0)
theorem StowR.get {r : Except Int (List Sw)} {B : Nat} {y : Value} {w : World} (h : StowR r B y w) : ∃ A m c, y = .tuple #[.slice A m c, .int .i64 (outE r).2] ∧ SlR w A 3 ((outE r).1.map Sw.row) ∧ (outE r).1.length = m ∧ m ≤ c := by
  cases r with
  | error e => exact ⟨none, 0, 0, h, .inl rfl, rfl, Nat.le_refl _⟩
  | ok l =>
    obtain ⟨A, m, c, rfl, ho⟩ := h
    exact ⟨A, m, c, rfl, ho.sl, by simpa [outE] using ho.len, ho.len_le⟩
def amE (ps : List Pa) (hs : List Ho) (l : List Sw) : List Int × Int := if stowedF ps hs l = 0 then (amountsF ps hs l, 0) else ([], 1)
section
variable {w : World} {A0 A1 A A2 : Option Addr} {n0 c0 n1 c1 n c n2 c2 : Nat} {ps : List Pa} {hs : List Ho} {l : List Sw} {a : List Int}
theorem put_err {t : Sw} {e : Int} (h : putF ps hs l t = .error e) : e ≠ 0 := by
  unfold putF at h
  split at h
  · cases h; decide
  · split at h
    · rename_i i k e1 e2
      split at h
      · cases h; decide
      · split at h
        · cases h; decide
        · obtain ⟨p, e3, _⟩ := pix_some e1
          rw [e3] at h
          simp only at h
          split at h
          · cases h; decide
          · cases h
    · cases h; decide
theorem from_err {e : Int} (h : fromF ps hs a = .error e) : e ≠ 0 := by
  unfold fromF at h
  split at h
  · cases h; decide
  · split at h
    · cases h; decide
    · split at h
      · cases h; decide
      · split at h
        · cases h; decide
        · cases h
theorem cargo_AmountsE (hg : Glob w) (hc : CgIn w A0 n0 A1 n1 ps hs) (h : SlR w A 3 (l.map Sw.row)) (hl : l.length = n) (hnc : n ≤ c) (hn : n < 2147483648) :
    Pure Tryz.prog 28 #[.agg #[.slice A0 n0 c0, .slice A1 n1 c1], .slice A n c] w fun v w' => ∃ A' m c', v = .tuple #[.slice A' m c', .int .i64 (amE ps hs l).2] ∧ SlR w' A' 1 ((amE ps hs l).1.map iRow) ∧ (amE ps hs l).1.length = m ∧ m ≤ c' := by
  refine Pure.mono (cargo_Amounts hg hc h hl hnc hn) ?_
  rintro v w2 _ ⟨k1, k2⟩
  unfold amE
  by_cases h0 : stowedF ps hs l = 0
  · obtain ⟨A', N, rfl, ho, _⟩ := k2 h0
    rw [if_pos h0]
    exact ⟨A', N, N, rfl, ho.sl, by simpa using ho.len, Nat.le_refl _⟩
  · rw [if_neg h0]
    exact ⟨none, 0, 0, k1 h0, .inl rfl, rfl, Nat.le_refl _⟩
theorem r47_AmountsE (hc : CgIn w A0 n0 A1 n1 ps hs) (h : SlR w A 3 (l.map Sw.row)) (hl : l.length = n) (hn : n < 2147483648) :
    Pure Tryz.prog 29 #[.agg #[.slice A0 n0 c0, .slice A1 n1 c1], .slice A n c] w fun v w' => ∃ A' m c', v = .tuple #[.slice A' m c', .int .i64 (amE ps hs l).2] ∧ SlR w' A' 1 ((amE ps hs l).1.map iRow) ∧ (amE ps hs l).1.length = m ∧ m ≤ c' := by
  refine Pure.mono (r47_Amounts hc h hl hn) ?_
  rintro v w2 _ ⟨k1, k2⟩
  unfold amE
  by_cases h0 : stowedF ps hs l = 0
  · obtain ⟨A', m, c', rfl, ho⟩ := k2 h0
    rw [if_pos h0]
    exact ⟨A', m, c', rfl, ho.sl, by simpa using ho.len, ho.len_le⟩
  · rw [if_neg h0]
    exact ⟨none, 0, 0, k1 h0, .inl rfl, rfl, Nat.le_refl _⟩

theorem law47_CargoChecks (hg : Glob w) (hr : CgRaw w A0 n0 A1 n1 ps hs) (hz0 : A0 = none → c0 = 0) (hz1 : A1 = none → c1 = 0) (h : SlR w A 3 (l.map Sw.row)) (hl : l.length = n) :
    Pure Tryz.prog 3 #[.agg #[.slice A0 n0 c0, .slice A1 n1 c1], .slice A n c] w fun v _ => v = .bool true := by
  refine F.garboardlaw47_CargoChecks.vc _ _ _ _ _ _ _ _ _ _ _ fun w1 x1 => ?_
  have hw := k0 x1
  refine Pure.mono (law47_awake (hg.next hw)) ?_
  rintro v w4 b4 rfl
  have hw := kP hw b4
  refine ⟨_, rfl, fun k => absurd k (by decide), fun _ => ?_⟩
  refine Pure.mono (r47_Few (hr.keep hw)) ?_
  rintro v w7 b7 rfl
  have hw := kP hw b7
  refine ⟨_, rfl, fun _ => rfl, fun hf => ⟨fun _ => rfl, fun h40 => fun w8 x8 => ?_⟩⟩
  have hc := hr.few (by simpa using hf)
  have hn : n ≤ 40 := by omega
  have hw := kE hw x8
  refine Pure.mono (r47_Copy (hc.keep hw) hz0 hz1) ?_
  rintro v w21 b ⟨B0, d0, B1, d1, rfl, hcc⟩
  have hw := kP hw b
  clear b
  refine ⟨_, _, _, _, _, _, rfl, Pure.mono (cargo_Check (hg.next hw) hcc) ?_⟩
  rintro v w22 b rfl
  have hw := kP hw b
  refine ⟨_, rfl, Pure.mono (r47_Check (hc.keep hw)) ?_⟩
  rintro v w23 b rfl
  have hw := kP hw b
  refine ⟨_, rfl, fun _ => ?_, fun k => absurd rfl k⟩
  refine Pure.mono (r47_Copy (hc.keep hw) hz0 hz1) ?_
  rintro v w24 b ⟨B0, d0, B1, d1, rfl, hcc⟩
  have hw := kP hw b
  clear b
  refine ⟨_, _, _, _, _, _, rfl, Pure.mono (CloneS (h.keep hw (Nat.le_refl _)) hl (by omega)) ?_⟩
  rintro v w25 b ⟨A', c', rfl, ho⟩
  have hw := kP hw b
  have hcc := hcc.keep b
  clear b
  refine ⟨_, _, _, rfl, Pure.mono (cargo_Stowed (hg.next hw) hcc ho.sl hl ho.len_le (by omega)) ?_⟩
  rintro v w26 b rfl
  have hw := kP hw b
  refine ⟨_, rfl, Pure.mono (r47_Stowed (hc.keep hw) (h.keep hw (Nat.le_refl _)) hl (by omega)) ?_⟩
  rintro v w27 b rfl
  have hw := kP hw b
  exact ⟨_, rfl, by simp⟩
theorem law47_CargoPuts (hg : Glob w) (hr : CgRaw w A0 n0 A1 n1 ps hs) (hz0 : A0 = none → c0 = 0) (hz1 : A1 = none → c1 = 0) (h : SlR w A 3 (l.map Sw.row)) (hl : l.length = n) (t : Sw) :
    Pure Tryz.prog 5 #[.agg #[.slice A0 n0 c0, .slice A1 n1 c1], .slice A n c, t.val] w fun v _ => v = .bool true := by
  refine F.garboardlaw47_CargoPuts.vc _ _ _ _ _ _ _ _ _ _ _ _ _ _ fun w1 x1 => ?_
  have hw := k0 x1
  refine Pure.mono (law47_awake (hg.next hw)) ?_
  rintro v w4 b4 rfl
  have hw := kP hw b4
  refine ⟨_, rfl, fun k => absurd k (by decide), fun _ => ?_⟩
  refine Pure.mono (r47_Few (hr.keep hw)) ?_
  rintro v w7 b7 rfl
  have hw := kP hw b7
  refine ⟨_, rfl, fun _ => rfl, fun hf => ⟨fun _ => rfl, fun h40 => fun w8 x8 => ?_⟩⟩
  have hc := hr.few (by simpa using hf)
  have hn : n ≤ 40 := by omega
  have hw := kE hw x8
  refine Pure.mono (r47_Copy (hc.keep hw) hz0 hz1) ?_
  rintro v w40 b ⟨B0, d0, B1, d1, rfl, hcc⟩
  have hw := kP hw b
  clear b
  refine ⟨_, _, _, _, _, _, rfl, Pure.mono (CloneS (h.keep hw (Nat.le_refl _)) hl (by omega)) ?_⟩
  rintro v w41 b ⟨A', c', rfl, ho⟩
  have hw := kP hw b
  have hcc := hcc.keep b
  clear b
  refine ⟨_, _, _, rfl, Pure.mono (cargo_Put (hg.next hw) hcc ho.sl hl ho.len_le hn t) ?_⟩
  rintro v w42 b k1
  have hw := kP hw b
  obtain ⟨Ax, mx, cx, rfl, sx, lx, _⟩ := k1.get
  refine ⟨_, _, _, _, rfl, Pure.mono (r47_Put (hc.keep hw) (h.keep hw (Nat.le_refl _)) hl (by omega) t) ?_⟩
  rintro v w43 b k2
  have hw := kP hw b
  obtain ⟨Ay, my, cy, rfl, sy, ly, _⟩ := k2.get
  have hm : mx < 2147483648 := by
    rw [← lx]
    cases hp : putF ps hs l t with
    | error e => exact (by decide : (0 : Nat) < 2147483648)
    | ok m => exact Nat.lt_of_le_of_lt (put_right (put_ok hp)).len (by decide)
  refine ⟨_, _, _, _, rfl, Pure.mono (r47_Same (sx.below b) sy lx ly hm) ?_⟩
  rintro v w44 b rfl
  have hw := kP hw b
  exact ⟨_, rfl, fun _ => by simp, fun k => by simp at k⟩
theorem law47_CargoAmounts (hg : Glob w) (hr : CgRaw w A0 n0 A1 n1 ps hs) (hz0 : A0 = none → c0 = 0) (hz1 : A1 = none → c1 = 0) (h : SlR w A 3 (l.map Sw.row)) (hl : l.length = n) (h2 : SlR w A2 1 (a.map iRow)) (hl2 : a.length = n2) :
    Pure Tryz.prog 6 #[.agg #[.slice A0 n0 c0, .slice A1 n1 c1], .slice A n c, .slice A2 n2 c2] w fun v _ => v = .bool true := by
  refine F.garboardlaw47_CargoAmounts.vc _ _ _ _ _ _ _ _ _ _ _ _ _ _ fun w1 x1 => ?_
  have hw := k0 x1
  refine Pure.mono (law47_awake (hg.next hw)) ?_
  rintro v w4 b4 rfl
  have hw := kP hw b4
  refine ⟨_, rfl, fun k => absurd k (by decide), fun _ => ?_⟩
  refine Pure.mono (r47_Few (hr.keep hw)) ?_
  rintro v w7 b7 rfl
  have hw := kP hw b7
  refine ⟨_, rfl, fun _ => rfl, fun hf => ⟨fun _ => rfl, fun h40 => ⟨fun _ => rfl, fun h50 => ?_⟩⟩⟩
  have hc := hr.few (by simpa using hf)
  have hn : n ≤ 40 := by omega
  refine Pure.mono (r47_Copy (hc.keep hw) hz0 hz1) ?_
  rintro v w45 b ⟨B0, d0, B1, d1, rfl, hcc⟩
  have hw := kP hw b
  clear b
  refine ⟨_, _, _, _, _, _, rfl, Pure.mono (CloneS (h.keep hw (Nat.le_refl _)) hl (by omega)) ?_⟩
  rintro v w46 b ⟨A', c', rfl, ho⟩
  have hw := kP hw b
  have hcc := hcc.keep b
  clear b
  refine ⟨_, _, _, rfl, Pure.mono (cargo_AmountsE (hg.next hw) hcc ho.sl hl ho.len_le (by omega)) ?_⟩
  rintro v w47 b ⟨Ax, mx, cx, rfl, sx, lx, _⟩
  have hw := kP hw b
  refine ⟨_, _, _, _, rfl, Pure.mono (r47_AmountsE (hc.keep hw) (h.keep hw (Nat.le_refl _)) hl (by omega)) ?_⟩
  rintro v w48 b ⟨Ay, my, cy, rfl, sy, ly, _⟩
  have hw := kP hw b
  have sx := sx.below b
  clear b
  refine ⟨_, _, _, _, rfl, Pure.mono (r47_Copy (hc.keep hw) hz0 hz1) ?_⟩
  rintro v w49 b ⟨B0, d0, B1, d1, rfl, hcc⟩
  have hw := kP hw b
  have sx := sx.below b
  have sy := sy.below b
  clear b
  refine ⟨_, _, _, _, _, _, rfl, Pure.mono (CloneI (h2.keep hw (Nat.le_refl _)) hl2 (by omega)) ?_⟩
  rintro v w50 b ⟨A', c', rfl, ho⟩
  have hw := kP hw b
  have sx := sx.below b
  have sy := sy.below b
  have hcc := hcc.keep b
  clear b
  refine ⟨_, _, _, rfl, Pure.mono (cargo_From (hg.next hw) hcc ho.sl hl2 ho.len_le (by omega)) ?_⟩
  rintro v w51 b k1
  have hw := kP hw b
  obtain ⟨Au, mu, cu, rfl, su, lu, _⟩ := k1.get
  have sx := sx.below b
  have sy := sy.below b
  clear b
  refine ⟨_, _, _, _, rfl, Pure.mono (r47_From (hc.keep hw) (h2.keep hw (Nat.le_refl _)) hl2) ?_⟩
  rintro v w52 b k2
  have hw := kP hw b
  obtain ⟨Av, mv, cv, rfl, sv, lv, _⟩ := k2.get
  have sx := sx.below b
  have sy := sy.below b
  have su := su.below b
  clear b
  have hnp := hc.np
  have hnh := hc.nh
  have hmx : mx < 2147483648 := by
    rw [← lx]
    unfold amE
    split
    · simp only [amounts_len]
      rw [hc.lp, hc.lh]
      have := Nat.mul_le_mul hnp hnh
      omega
    · decide
  have hmu : mu < 2147483648 := by
    rw [← lu]
    cases hp : fromF ps hs a with
    | error e => exact (by decide : (0 : Nat) < 2147483648)
    | ok m => exact Nat.lt_of_le_of_lt (from_ok hp).2.1.len (by decide)
  refine ⟨_, _, _, _, rfl, Pure.mono (EqualI sx sy lx ly hmx) ?_⟩
  rintro v w53 b rfl
  have hw := kP hw b
  refine ⟨_, rfl, fun _ => ⟨fun _ => ?_, fun k => absurd rfl k⟩, fun k => by simp at k⟩
  refine Pure.mono (r47_Same (su.below b) (sv.below b) lu lv hmu) ?_
  rintro v w54 b rfl
  have hw := kP hw b
  exact ⟨_, rfl, fun _ => by simp, fun k => by simp at k⟩
theorem law47_CargoUndone (hg : Glob w) (hr : CgRaw w A0 n0 A1 n1 ps hs) (hz0 : A0 = none → c0 = 0) (hz1 : A1 = none → c1 = 0) (h : SlR w A 3 (l.map Sw.row)) (hl : l.length = n) (t : Sw) :
    Pure Tryz.prog 8 #[.agg #[.slice A0 n0 c0, .slice A1 n1 c1], .slice A n c, t.val] w fun v _ => v = .bool true := by
  refine F.garboardlaw47_CargoUndone.vc _ _ _ _ _ _ _ _ _ _ _ _ _ _ fun w1 x1 => ?_
  have hw := k0 x1
  refine Pure.mono (law47_awake (hg.next hw)) ?_
  rintro v w4 b4 rfl
  have hw := kP hw b4
  refine ⟨_, rfl, fun k => absurd k (by decide), fun _ => ?_⟩
  refine Pure.mono (r47_Few (hr.keep hw)) ?_
  rintro v w7 b7 rfl
  have hw := kP hw b7
  refine ⟨_, rfl, fun _ => rfl, fun hf => ⟨fun _ => rfl, fun h40 => fun w8 x8 => ?_⟩⟩
  have hc := hr.few (by simpa using hf)
  have hn : n ≤ 40 := by omega
  have hw := kE hw x8
  refine Pure.mono (r47_Copy (hc.keep hw) hz0 hz1) ?_
  rintro v w55 b ⟨B0, d0, B1, d1, rfl, hcc⟩
  have hw := kP hw b
  clear b
  refine ⟨_, _, _, _, _, _, rfl, Pure.mono (CloneS (h.keep hw (Nat.le_refl _)) hl (by omega)) ?_⟩
  rintro v w56 b ⟨A', c', rfl, ho⟩
  have hw := kP hw b
  have hcc := hcc.keep b
  clear b
  refine ⟨_, _, _, rfl, Pure.mono (cargo_Put (hg.next hw) hcc ho.sl hl ho.len_le hn t) ?_⟩
  rintro v w57 b k1
  have hw := kP hw b
  cases hp : putF ps hs l t with
  | error e =>
    rw [hp] at k1
    cases (show v = _ from k1)
    refine ⟨_, _, _, _, rfl, fun _ => by simp, fun k => ?_⟩
    exact absurd (Decidable.not_not.1 k) (put_err hp)
  | ok m =>
  rw [hp] at k1
  obtain ⟨Ax, mx, cx, rfl, ox⟩ := k1
  have ok := put_ok hp
  have hrm := put_right ok
  have hback := put_back ok
  have hu := ok.u
  have lx : m.length = mx := by simpa using ox.len
  have hmx : mx ≤ 36 := by rw [← lx]; exact hrm.len
  refine ⟨_, _, _, _, rfl, fun k => absurd rfl k, fun _ => ⟨by simp only [inR]; omega, fun w60 y => ?_⟩⟩
  have sx : SlR w60 Ax 3 (m.map Sw.row) := (ox.extT y (by decide)).sl
  have hw := kE hw y
  clear b
  refine Pure.mono (r47_Copy (hc.keep hw) hz0 hz1) ?_
  rintro v w59 b ⟨B0, d0, B1, d1, rfl, hcc⟩
  have hw := kP hw b
  have sx := sx.below b
  clear b
  refine ⟨_, _, _, _, _, _, rfl, Pure.mono (CloneS sx lx (by omega)) ?_⟩
  rintro v w60 b ⟨A', c', rfl, ho⟩
  have hw := kP hw b
  have sx := sx.below b
  have hcc := hcc.keep b
  clear b
  refine ⟨_, _, _, rfl, Pure.mono (cargo_Put (hg.next hw) hcc ho.sl lx ho.len_le (by omega) ⟨t.hold, t.parcel, -t.units⟩) ?_⟩
  rintro v w61 b k2
  have hw := kP hw b
  rw [hback] at k2
  obtain ⟨Ay, my, cy, rfl, oy⟩ := k2
  have sx := sx.below b
  have ly : l.length = my := by simpa using oy.len
  clear b
  refine ⟨_, _, _, _, rfl, fun _ => ?_, fun k => absurd rfl k⟩
  refine Pure.mono (r47_Same oy.sl (h.keep hw (Nat.le_refl _)) ly hl (by omega)) ?_
  rintro v w62 b rfl
  have hw := kP hw b
  have sx := sx.below b
  clear b
  refine ⟨_, rfl, fun _ => ?_, fun k => by simp at k⟩
  refine Pure.mono (r47_Copy (hc.keep hw) hz0 hz1) ?_
  rintro v w63 b ⟨B0, d0, B1, d1, rfl, hcc⟩
  have hw := kP hw b
  have sx := sx.below b
  clear b
  refine ⟨_, _, _, _, _, _, rfl, Pure.mono (cargo_Stowed (hg.next hw) hcc sx lx ox.len_le (by omega)) ?_⟩
  rintro v w64 b rfl
  have hw := kP hw b
  refine ⟨_, rfl, ?_⟩
  rw [right_stowed ok.c hrm]
  simp
theorem both_J10 (hg : Glob w) (hc : CgIn w A0 n0 A1 n1 ps hs) (hz0 : A0 = none → c0 = 0) (hz1 : A1 = none → c1 = 0) (h2 : SlR w A2 1 (a.map iRow)) (hl2 : a.length = n2) (h50 : n2 ≤ 50) {w' : World} (hw : Below w.heap.size w w') :
    F.garboardlaw47_CargoBoth.J10 A2 n2 c2 A0 n0 c0 A1 n1 c1 w.heap.size w' fun v _ => v = .bool true := by
  have hnp := hc.np
  have hnh := hc.nh
  refine F.garboardlaw47_CargoBoth.J10.step _ _ _ _ _ _ _ _ _ _ _ _ ?_
  refine Pure.mono (r47_Copy (hc.keep hw) hz0 hz1) ?_
  rintro v w65 b ⟨B0, d0, B1, d1, rfl, hcc⟩
  have hw := kP hw b
  clear b
  refine ⟨_, _, _, _, _, _, rfl, Pure.mono (CloneI (h2.keep hw (Nat.le_refl _)) hl2 (by omega)) ?_⟩
  rintro v w66 b ⟨A', c', rfl, ho⟩
  have hw := kP hw b
  have hcc := hcc.keep b
  clear b
  refine ⟨_, _, _, rfl, Pure.mono (cargo_From (hg.next hw) hcc ho.sl hl2 ho.len_le (by omega)) ?_⟩
  rintro v w67 b k1
  have hw := kP hw b
  cases hp : fromF ps hs a with
  | error e =>
    rw [hp] at k1
    cases (show v = _ from k1)
    refine ⟨_, _, _, _, rfl, fun _ => by simp, fun k => ?_⟩
    exact absurd (Decidable.not_not.1 k) (from_err hp)
  | ok m =>
  rw [hp] at k1
  obtain ⟨Ax, mx, cx, rfl, ox⟩ := k1
  obtain ⟨hck, hrm, ham⟩ := from_ok hp
  have lx : m.length = mx := by simpa using ox.len
  have hmx : mx ≤ 36 := by rw [← lx]; exact hrm.len
  have sx := ox.sl
  clear b
  refine ⟨_, _, _, _, rfl, fun k => absurd rfl k, fun _ => ?_⟩
  refine Pure.mono (r47_Copy (hc.keep hw) hz0 hz1) ?_
  rintro v w68 b ⟨B0, d0, B1, d1, rfl, hcc⟩
  have hw := kP hw b
  have sx := sx.below b
  clear b
  refine ⟨_, _, _, _, _, _, rfl, Pure.mono (CloneS sx lx (by omega)) ?_⟩
  rintro v w69 b ⟨A', c', rfl, ho⟩
  have hw := kP hw b
  have hcc := hcc.keep b
  clear b
  refine ⟨_, _, _, rfl, Pure.mono (cargo_AmountsE (hg.next hw) hcc ho.sl lx ho.len_le (by omega)) ?_⟩
  rintro v w70 b ⟨Ay, my, cy, rfl, sy, ly, _⟩
  have hw := kP hw b
  have e0 := right_stowed hck hrm
  have ea : amE ps hs m = (a, 0) := by unfold amE; rw [if_pos e0, ham]
  rw [ea] at sy ly ⊢
  refine ⟨_, _, _, _, rfl, fun _ => ?_, fun k => absurd rfl k⟩
  refine Pure.mono (EqualI sy (h2.keep hw (Nat.le_refl _)) ly hl2 (by rw [← ly]; simp only; omega)) ?_
  rintro v w71 b rfl
  have hw := kP hw b
  exact ⟨_, rfl, by simp⟩
theorem law47_CargoBoth (hg : Glob w) (hr : CgRaw w A0 n0 A1 n1 ps hs) (hz0 : A0 = none → c0 = 0) (hz1 : A1 = none → c1 = 0) (h : SlR w A 3 (l.map Sw.row)) (hl : l.length = n) (h2 : SlR w A2 1 (a.map iRow)) (hl2 : a.length = n2) :
    Pure Tryz.prog 9 #[.agg #[.slice A0 n0 c0, .slice A1 n1 c1], .slice A n c, .slice A2 n2 c2] w fun v _ => v = .bool true := by
  refine F.garboardlaw47_CargoBoth.vc _ _ _ _ _ _ _ _ _ _ _ _ _ _ fun w1 x1 => ?_
  have hw := k0 x1
  refine Pure.mono (law47_awake (hg.next hw)) ?_
  rintro v w4 b4 rfl
  have hw := kP hw b4
  refine ⟨_, rfl, fun k => absurd k (by decide), fun _ => ?_⟩
  refine Pure.mono (r47_Few (hr.keep hw)) ?_
  rintro v w7 b7 rfl
  have hw := kP hw b7
  refine ⟨_, rfl, fun _ => rfl, fun hf => ⟨fun _ => rfl, fun h40 => ⟨fun _ => rfl, fun h50 => ?_⟩⟩⟩
  have hc := hr.few (by simpa using hf)
  have hn : n ≤ 40 := by omega
  refine Pure.mono (r47_Copy (hc.keep hw) hz0 hz1) ?_
  rintro v w72 b ⟨B0, d0, B1, d1, rfl, hcc⟩
  have hw := kP hw b
  clear b
  refine ⟨_, _, _, _, _, _, rfl, Pure.mono (CloneS (h.keep hw (Nat.le_refl _)) hl (by omega)) ?_⟩
  rintro v w73 b ⟨A', c', rfl, ho⟩
  have hw := kP hw b
  have hcc := hcc.keep b
  clear b
  refine ⟨_, _, _, rfl, Pure.mono (cargo_AmountsE (hg.next hw) hcc ho.sl hl ho.len_le (by omega)) ?_⟩
  rintro v w74 b ⟨Ax, mx, cx, rfl, sx, lx, mc⟩
  have hw := kP hw b
  clear b
  by_cases h0 : stowedF ps hs l = 0
  · have ea : amE ps hs l = (amountsF ps hs l, 0) := by unfold amE; rw [if_pos h0]
    rw [ea] at sx lx ⊢
    have hrl := stowed_right h0
    have hck : checkC ps hs = 0 := by
      unfold stowedF at h0
      split at h0
      · simp at h0
      · rename_i k; exact Decidable.not_not.1 k
    have hmx : mx < 2147483648 := by
      rw [← lx, amounts_len, hc.lp, hc.lh]
      have := Nat.mul_le_mul hc.np hc.nh
      omega
    refine ⟨_, _, _, _, rfl, fun _ => ?_, fun k => absurd rfl k⟩
    refine Pure.mono (r47_Copy (hc.keep hw) hz0 hz1) ?_
    rintro v w70 b ⟨B0, d0, B1, d1, rfl, hcc⟩
    have hw := kP hw b
    have sx := sx.below b
    clear b
    refine ⟨_, _, _, _, _, _, rfl, Pure.mono (cargo_From (hg.next hw) hcc sx lx mc hmx) ?_⟩
    rintro v w71 b k1
    have hw := kP hw b
    rw [from_amounts hck hrl] at k1
    obtain ⟨Ay, my, cy, rfl, oy⟩ := k1
    have ly : l.length = my := by simpa using oy.len
    refine ⟨_, _, _, _, rfl, fun k => absurd rfl k, fun _ => ?_⟩
    refine Pure.mono (r47_Same oy.sl (h.keep hw (Nat.le_refl _)) ly hl (by omega)) ?_
    rintro v w72 b rfl
    have hw := kP hw b
    refine ⟨_, rfl, fun k => by simp at k, fun _ => ?_⟩
    exact both_J10 hg hc hz0 hz1 h2 hl2 (by omega) hw
  · have ea : amE ps hs l = ([], 1) := by unfold amE; rw [if_neg h0]
    rw [ea]
    exact ⟨_, _, _, _, rfl, fun k => absurd k (by decide), fun _ => both_J10 hg hc hz0 hz1 h2 hl2 (by omega) hw⟩
end
end Go.Proofs.YtdnelnicnjplpaaGreatDoor.B

namespace Go.Proofs.YtdnelnicnjplpaaGreatDoor.B
set_option maxRecDepth 100000
open Go Go.RowKit Go.Proofs Go.Proofs.YtdnelnicnjplpaaGreatDoor.Vc Go.ChangeShapes Go.WideShapes Go.Deep

theorem own : ownKnob Tryz.prog.godebug = none := by kernel_rfl
theorem laidOut : laidOutB Tryz.prog = true := by kernel_rfl

section
variable {H : Type} {enc : TypeId × Value → H} {P : Program}

theorem below_trodAll (hl : laidOutB P = true) {W W' : World} (hb : Below W.heap.size W W') : ∀ {ts : List TypeId} {vs : List Value} {ds : List (DataW H)} {ps : List MemPlace},
    (∀ t ∈ ts, P.readableRec t = true ∧ t < P.types.size) → DataW.TrodAll enc P W 0 (fun _ => true) true ts vs ds ps → (∀ x ∈ ps, x.block < W.heap.size) → DataW.TrodAll enc P W' 0 (fun b => decide (b < W.heap.size)) true ts vs ds ps
  | [], _, _, _, _, h, _ => by
    obtain ⟨rfl, rfl, rfl⟩ := trodAll_nil h
    exact trodAll_mk0
  | t :: ts, _, _, _, ht, h, hlt => by
    obtain ⟨v, vs1, d, ds1, a, b, rfl, rfl, rfl, h1, h2⟩ := trodAll_cons h
    exact trodAll_cons_mk (Below.trod hl (ht t (by simp)).1 (ht t (by simp)).2 h1 hb (fun x hx => hlt x (by simp [hx])))
      (below_trodAll hl hb (fun u hu => ht u (by simp [hu])) h2 (fun x hx => hlt x (by simp [hx])))

theorem law_post {f : Func} {fid : FuncId} {s : ChangeSpec} {W : World} {args : Array Value} {ds gs : List (DataW H)} {before : List MemPlace} (hl : laidOutB P = true) (hW : DataW.Whole enc P f.params.toList s.vars false W args.toList ds gs before)
    (hvars : s.vars = []) {tb : TypeId} (hres : f.resultTypes = #[tb]) (htb : P.underlying tb = some .bool) (hrec : ∀ t ∈ f.params.toList, P.readableRec t = true ∧ t < P.types.size)
    (hs : s.fn H (ds ++ gs) = { results := [.lit (.bool true)], args := ds }) (key : Pure P fid args W fun y _ => y = .bool true) :
    Calls P fid args W fun e W' => ∃ v, e = .returned v ∧ s.post enc P f false true false false W args v W' := by
  refine Calls.mono key fun e W' ⟨v, he, hb, hy⟩ => ⟨v, he, ?_⟩
  subst hy
  have hlt := hW.lt
  have hW' := hW
  obtain ⟨p, q, hA, hV, rfl, _, _⟩ := hW
  rw [hvars] at hV
  obtain ⟨rfl, rfl⟩ := trodVars_none hV
  simp only [List.append_nil] at hlt hW'
  refine ⟨ds, _, _, [], p, [], hW', ?_, ?_, ?_, hb.frame _, fun h => by cases h⟩
  · rw [hs, hres]
    exact trodAll_cons_mk (shut_bool htb _) trodAll_mk0
  · rw [hs]
    exact below_trodAll hl hb hrec hA hlt
  · rw [hs, hvars]
    rfl

end

theorem slR_of_cells {w : World} {a : Addr} {sz : Nat} (hsz : 0 < sz) {rows : List (List Value)} (hl : ∀ r ∈ rows, r.length = sz) (h : ∀ i, (hi : i < rows.length) → ∀ j, (hj : j < rows[i].length) → w.cell? (a.add (i * sz + j)) = some (rows[i][j])) : SlR w (some a) sz rows := by
  by_cases h0 : rows = []
  · exact .inl h0
  right
  have hp : 0 < rows.length := List.length_pos_iff.2 h0
  have hl0 : rows[0].length = sz := hl _ (List.getElem_mem _)
  have c0 := h 0 hp 0 (by omega)
  have hspot : a.spot = none := by simpa [Addr.add] using World.cell?_spot c0
  obtain ⟨b, off, spot⟩ := a
  simp only at hspot
  subst hspot
  have hadd : ∀ k, (⟨b, off, none⟩ : Addr).add k = ⟨b, off + k, none⟩ := fun k => add_plain0 b off k
  rw [hadd] at c0
  cases hh : w.heap[b]? with
  | none => simp [World.cell?, hh] at c0
  | some o =>
    cases o with
    | cells cs ty fr =>
      refine ⟨b, off, cs, ty, fr, rfl, hh, fun i hi j hj => ⟨hl _ (List.getElem_mem _), ?_⟩⟩
      have := h i hi j hj
      rw [hadd] at this
      simpa [World.cell?, hh, Nat.add_assoc] using this
    | _ => simp [World.cell?, hh] at c0

theorem u_Rat : Tryz.prog.underlying 37 = some .string := by kernel_rfl
theorem u_int : Tryz.prog.underlying 3 = some (.int .i64) := by kernel_rfl
theorem u_str : Tryz.prog.underlying 9 = some .string := by kernel_rfl

end Go.Proofs.YtdnelnicnjplpaaGreatDoor.B

namespace Go.Proofs.YtdnelnicnjplpaaGreatDoor.B
open Go Go.RowKit Go.Proofs

abbrev aLaid := Rows.cargoChecksRow.laid
end Go.Proofs.YtdnelnicnjplpaaGreatDoor.B

namespace Go.Proofs.YtdnelnicnjplpaaGreatDoor.B
open Go Go.RowKit Go.Proofs Go.Proofs.YtdnelnicnjplpaaGreatDoor.Vc Go.ChangeShapes Go.WideShapes Go.Deep Go.ChangeAt
set_option maxRecDepth 100000

noncomputable def laidWorld (os : Os) : World :=
  let N := (World.settled Tryz.prog os).heap.size
  let w0 := World.holding Tryz.prog os ⟨#[.cells #[.string ⟨#[118, 97, 108, 117, 101, 32, 111, 117, 116, 32, 111, 102, 32, 114, 97, 110, 103, 101]⟩] 277, .cells #[.string ⟨#[105, 110, 118, 97, 108, 105, 100, 32, 115, 121, 110, 116, 97, 120]⟩] 277], #[], []⟩
  let put (h : Array Obj) (g : Nat) (cs : Array Value) : Array Obj := h.modify g fun
    | .cells _ t frozen => .cells cs t frozen
    | o => o
  let h0 := put (put w0.heap 5 #[.iface 275 (.pointer (some ⟨N, 0, none⟩))]) 4 #[.iface 275 (.pointer (some ⟨N + 1, 0, none⟩))]
  let h1 := put h0 2 #[.int .u8 0, .int .u8 1, .int .u8 28, .int .u8 2, .int .u8 29, .int .u8 14, .int .u8 24, .int .u8 3, .int .u8 30, .int .u8 22, .int .u8 20, .int .u8 15, .int .u8 25, .int .u8 17, .int .u8 4, .int .u8 8, .int .u8 31, .int .u8 27, .int .u8 13, .int .u8 23, .int .u8 21, .int .u8 19, .int .u8 16, .int .u8 7, .int .u8 26, .int .u8 12, .int .u8 18, .int .u8 6, .int .u8 11, .int .u8 5, .int .u8 10, .int .u8 9]
  let h2 := put h1 3 #[.int .u8 0, .int .u8 1, .int .u8 56, .int .u8 2, .int .u8 57, .int .u8 49, .int .u8 28, .int .u8 3, .int .u8 61, .int .u8 58, .int .u8 42, .int .u8 50, .int .u8 38, .int .u8 29, .int .u8 17, .int .u8 4, .int .u8 62, .int .u8 47, .int .u8 59, .int .u8 36, .int .u8 45, .int .u8 43, .int .u8 51, .int .u8 22, .int .u8 53, .int .u8 39, .int .u8 33, .int .u8 30, .int .u8 24, .int .u8 18, .int .u8 12, .int .u8 5, .int .u8 63, .int .u8 55, .int .u8 48, .int .u8 27, .int .u8 60, .int .u8 41, .int .u8 37, .int .u8 16, .int .u8 46, .int .u8 35, .int .u8 44, .int .u8 21, .int .u8 52, .int .u8 32, .int .u8 23, .int .u8 11, .int .u8 54, .int .u8 26, .int .u8 40, .int .u8 15, .int .u8 34, .int .u8 20, .int .u8 31, .int .u8 10, .int .u8 25, .int .u8 14, .int .u8 19, .int .u8 9, .int .u8 13, .int .u8 8, .int .u8 7, .int .u8 6]
  let h3 := put h2 1 (Lib.pow10Tab.map fun z => Value.int .u64 z).toArray
  { w0 with heap := h3 }

noncomputable abbrev N0 : Nat := (World.settled Tryz.prog default).heap.size
theorem laid_met (os : Os) (args : Array Value) : laidMet Tryz.prog aLaid ((laidWorld os).forCall (fun _ _ => 0) ⟨#[], args, []⟩).memory :=
  (LaidIn.of_run (l := aLaid) [2, 3, 1, 5, 4, N0, N0 + 1] 8 (by kernel_rfl) (by kernel_rfl) (by kernel_rfl) (by kernel_rfl)).met

theorem world_vars (os : Os) (args : Array Value) : ((laidWorld os).forCall (fun _ _ => 0) ⟨#[], args, []⟩).variablesRefB Tryz.prog = true := by kernel_rfl
theorem world_rest (os : Os) (args : Array Value) : (((laidWorld os).forCall (fun _ _ => 0) ⟨#[], args, []⟩).heap.toList.drop Tryz.prog.globals.size).take ((begin Tryz.prog (fun _ _ => 0) default).world.heap.size - Tryz.prog.globals.size) =
      (begin Tryz.prog (fun _ _ => 0) default).world.heap.toList.drop Tryz.prog.globals.size := by kernel_rfl

theorem glob_of {W : World} (hL : laidMet Tryz.prog aLaid W) (hS : W.ShapedOpen Tryz.prog) : Glob W :=
  ⟨Lib.tabIs_of_head (zs := Lib.pow10Tab) (g := 1) (t := 214) (e := 140) (n := 20) g_pow10 (by kernel_rfl) (by kernel_rfl) (by kernel_rfl) (by kernel_rfl) (by kernel_rfl) hL.tail.tail,
   cell_of_shapedOpen_int (g := 0) (t := 3) (zero := #[.int .i64 0]) hS (of_decide_eq_true (by kernel_rfl)) (by kernel_rfl) rfl (by kernel_rfl) (by kernel_rfl) (by kernel_rfl)⟩
end Go.Proofs.YtdnelnicnjplpaaGreatDoor.B

namespace Go.Proofs.YtdnelnicnjplpaaGreatDoor.B
set_option maxRecDepth 100000
open Go Go.RowKit Go.Proofs Go.Proofs.YtdnelnicnjplpaaGreatDoor.Vc Go.ChangeShapes Go.WideShapes Go.Deep

instance : Inhabited Pa := ⟨⟨0, 0, 0, ⟨#[]⟩, ⟨#[]⟩, ⟨#[]⟩, ⟨#[]⟩⟩⟩
instance : Inhabited Ho := ⟨⟨0, ⟨#[]⟩, ⟨#[]⟩, ⟨#[]⟩, ⟨#[]⟩, ⟨#[]⟩, ⟨#[]⟩⟩⟩
instance : Inhabited Sw := ⟨⟨0, 0, 0⟩⟩

section
variable {H : Type} {enc : TypeId × Value → H} {w : World} {base b0 : Nat} {spare : Nat → Bool} {held : Bool}
theorem open_rows {α : Type} [Inhabited α] {row : α → List Value} {sz : Nat} (hsz : 0 < sz) (hrow : ∀ x, (row x).length = sz) {t e : TypeId} (ht : Tryz.prog.underlying t = some (.slice e)) (hC : Tryz.prog.cellsOf e = sz)
    (hx : ∀ (n : Nat) (cs : List Value) (y : DataW H × List MemPlace), DataW.trod enc Tryz.prog w base spare held n e cs = some y → ∃ x : α, cs = row x)
    {v : Value} {fuel : Nat} {y : DataW H × List MemPlace} (h : DataW.trod enc Tryz.prog w base spare held fuel t [v] = some y) :
    ∃ (A : Option Addr) (n c : Nat) (l : List α), v = .slice A n c ∧ SlR w A sz (l.map row) ∧ l.length = n ∧ n < 9223372036854775808 ∧ (A = none → c = 0) := by
  rcases open_slice ht h with ⟨hcs, _⟩ | ⟨a, len, cap, m, n, D, Pl, hcs, hb, hl, hm, hmm, _, hi⟩
  · cases hcs
    exact ⟨none, 0, 0, [], rfl, .inl rfl, rfl, by omega, fun _ => rfl⟩
  · cases hcs
    rw [hC] at hi
    obtain ⟨g, hg⟩ := choose_lt (α := α) (n := len) (p := fun i x => ∀ j, (hj : j < (row x).length) → w.cell? (a.add (i * sz + j)) = some ((row x)[j])) fun i hilt => by
      have him : i < m := by
        rw [hmm]
        split <;> omega
      obtain ⟨cs', hc, ht'⟩ := hi i him
      obtain ⟨_, hcl, hat⟩ := World.cells?_some hc
      obtain ⟨x, rfl⟩ := hx _ _ _ ht'
      refine ⟨x, fun j hj => ?_⟩
      rw [← Go.Deep.add_add, hat j (by rw [hrow] at hj; omega), List.getElem?_eq_getElem hj]
    refine ⟨some a, len, cap, (List.range len).map g, rfl, slR_of_cells hsz (fun r hr => ?_) (fun i hi2 j hj => ?_), by simp, by unfold maxLen at hm; omega, fun k => by cases k⟩
    · obtain ⟨x, _, rfl⟩ := List.mem_map.1 hr
      exact hrow x
    · simp at hi2
      simp only [List.getElem_map, List.getElem_range] at hj ⊢
      exact hg i hi2 j hj

theorem k_int : Tryz.prog.cellsOf 3 = 1 := by kernel_rfl
theorem k_str : Tryz.prog.cellsOf 9 = 1 := by kernel_rfl
theorem k_Rat : Tryz.prog.cellsOf 37 = 1 := by kernel_rfl
theorem k_Vec : Tryz.prog.cellsOf 39 = 3 := by kernel_rfl
theorem k_Par : Tryz.prog.cellsOf 66 = 7 := by kernel_rfl
theorem k_Hol : Tryz.prog.cellsOf 61 = 7 := by kernel_rfl
theorem k_Sto : Tryz.prog.cellsOf 35 = 3 := by kernel_rfl
theorem int_of (n : Nat) (cs : List Value) (y : DataW H × List MemPlace) (h : DataW.trod enc Tryz.prog w base spare held n 3 cs = some y) : ∃ x : Int, cs = iRow x := by
  obtain ⟨z, hz, _⟩ := DataW.trod_int u_int h
  exact ⟨z, hz⟩
theorem rat_of {n : Nat} {cs : List Value} {y : DataW H × List MemPlace} (h : DataW.trod enc Tryz.prog w base spare held n 37 cs = some y) : ∃ x, cs = [.string x] := by
  obtain ⟨z, hz, _⟩ := DataW.trod_string u_Rat h
  exact ⟨z, hz⟩
theorem str_of {n : Nat} {cs : List Value} {y : DataW H × List MemPlace} (h : DataW.trod enc Tryz.prog w base spare held n 9 cs = some y) : ∃ x, cs = [.string x] := by
  obtain ⟨z, hz, _⟩ := DataW.trod_string u_str h
  exact ⟨z, hz⟩
theorem stow_of (n : Nat) (cs : List Value) (y : DataW H × List MemPlace) (h : DataW.trod enc Tryz.prog w base spare held n 35 cs = some y) : ∃ x : Sw, cs = x.row := by
  obtain ⟨ys, m, _, rfl, hl, hlen, hf⟩ := DataW.trod_struct Tryz.underlying35 h
  rw [k_Sto] at hl
  match cs, hl with
  | [v0, v1, v2], _ =>
    match ys, hlen with
    | [y0, y1, y2], _ =>
      obtain ⟨z0, e0⟩ := int_of m [v0] y0 (by simpa [k_int] using hf 0 _ rfl)
      obtain ⟨z1, e1⟩ := int_of m [v1] y1 (by simpa [k_int] using hf 1 _ rfl)
      obtain ⟨z2, e2⟩ := int_of m [v2] y2 (by simpa [k_int] using hf 2 _ rfl)
      cases e0; cases e1; cases e2
      exact ⟨⟨z0, z1, z2⟩, rfl⟩
theorem vec_of {n : Nat} {cs : List Value} {y : DataW H × List MemPlace} (h : DataW.trod enc Tryz.prog w base spare held n 39 cs = some y) : ∃ a b c, cs = [.string a, .string b, .string c] := by
  obtain ⟨ys, m, _, rfl, hl, hlen, hf⟩ := DataW.trod_struct Tryz.underlying39 h
  rw [k_Vec] at hl
  match cs, hl with
  | [v0, v1, v2], _ =>
    match ys, hlen with
    | [y0, y1, y2], _ =>
      obtain ⟨z0, e0⟩ := rat_of (n := m) (cs := [v0]) (y := y0) (by simpa [k_Rat] using hf 0 _ rfl)
      obtain ⟨z1, e1⟩ := rat_of (n := m) (cs := [v1]) (y := y1) (by simpa [k_Rat] using hf 1 _ rfl)
      obtain ⟨z2, e2⟩ := rat_of (n := m) (cs := [v2]) (y := y2) (by simpa [k_Rat] using hf 2 _ rfl)
      cases e0; cases e1; cases e2
      exact ⟨z0, z1, z2, rfl⟩
theorem par_of (n : Nat) (cs : List Value) (y : DataW H × List MemPlace) (h : DataW.trod enc Tryz.prog w base spare held n 66 cs = some y) : ∃ x : Pa, cs = x.row := by
  obtain ⟨ys, m, _, rfl, hl, hlen, hf⟩ := DataW.trod_struct Tryz.underlying66 h
  rw [k_Par] at hl
  match cs, hl with
  | [v0, v1, v2, v3, v4, v5, v6], _ =>
    match ys, hlen with
    | [y0, y1, y2, y3, y4, y5, y6], _ =>
      obtain ⟨z0, e0⟩ := int_of m [v0] y0 (by simpa [k_int] using hf 0 _ rfl)
      obtain ⟨z1, e1⟩ := int_of m [v1] y1 (by simpa [k_int] using hf 1 _ rfl)
      obtain ⟨z2, e2⟩ := int_of m [v2] y2 (by simpa [k_int] using hf 2 _ rfl)
      obtain ⟨z3, e3⟩ := str_of (n := m) (cs := [v3]) (y := y3) (by simpa [k_str] using hf 3 _ rfl)
      obtain ⟨z4, e4⟩ := rat_of (n := m) (cs := [v4]) (y := y4) (by simpa [k_Rat] using hf 4 _ rfl)
      obtain ⟨z5, e5⟩ := rat_of (n := m) (cs := [v5]) (y := y5) (by simpa [k_Rat] using hf 5 _ rfl)
      obtain ⟨z6, e6⟩ := rat_of (n := m) (cs := [v6]) (y := y6) (by simpa [k_Rat] using hf 6 _ rfl)
      cases e0; cases e1; cases e2; cases e3; cases e4; cases e5; cases e6
      exact ⟨⟨z0, z1, z2, z3, z4, z5, z6⟩, rfl⟩
theorem hold_of (n : Nat) (cs : List Value) (y : DataW H × List MemPlace) (h : DataW.trod enc Tryz.prog w base spare held n 61 cs = some y) : ∃ x : Ho, cs = x.row := by
  obtain ⟨ys, m, _, rfl, hl, hlen, hf⟩ := DataW.trod_struct Tryz.underlying61 h
  rw [k_Hol] at hl
  match cs, hl with
  | [v0, v1, v2, v3, v4, v5, v6], _ =>
    match ys, hlen with
    | [y0, y1, y2, y3, y4], _ =>
      obtain ⟨z0, e0⟩ := int_of m [v0] y0 (by simpa [k_int] using hf 0 _ rfl)
      obtain ⟨z1, e1⟩ := str_of (n := m) (cs := [v1]) (y := y1) (by simpa [k_str] using hf 1 _ rfl)
      obtain ⟨z2, e2⟩ := rat_of (n := m) (cs := [v2]) (y := y2) (by simpa [k_Rat] using hf 2 _ rfl)
      obtain ⟨z3, e3⟩ := rat_of (n := m) (cs := [v3]) (y := y3) (by simpa [k_Rat] using hf 3 _ rfl)
      obtain ⟨a, b, c, e4⟩ := vec_of (n := m) (cs := [v4, v5, v6]) (y := y4) (by simpa [k_Vec] using hf 4 _ rfl)
      cases e0; cases e1; cases e2; cases e3; cases e4
      exact ⟨⟨z0, z1, z2, z3, a, b, c⟩, rfl⟩

theorem trod_one {t e : TypeId} (ht : Tryz.prog.underlying t = some (.slice e)) {r : Reach} {v : Value} {d : DataW H} {p : List MemPlace} (hv : Value.okWide Tryz.prog w r b0 t v) (h : DataW.Trod enc Tryz.prog w base spare held t v d p) : ∃ fuel, DataW.trod enc Tryz.prog w base spare held fuel t [v] = some (d, p) := by
  obtain ⟨a0, len, cap, rfl⟩ := okWide_slice ht hv
  obtain ⟨fuel, hf⟩ := h
  exact ⟨fuel, by simpa [Value.cells] using hf⟩
theorem open_stows {v : Value} {d : DataW H} {p : List MemPlace} (hv : Value.okWide Tryz.prog w .any b0 26 v) (h : DataW.Trod enc Tryz.prog w base spare held 26 v d p) :
    ∃ (A : Option Addr) (n c : Nat) (l : List Sw), v = .slice A n c ∧ SlR w A 3 (l.map Sw.row) ∧ l.length = n := by
  obtain ⟨fuel, hf⟩ := trod_one Tryz.underlying26 hv h
  obtain ⟨A, n, c, l, h1, h2, h3, _⟩ := open_rows (row := Sw.row) (by decide) (fun _ => rfl) Tryz.underlying26 k_Sto stow_of hf
  exact ⟨A, n, c, l, h1, h2, h3⟩
theorem open_ints {v : Value} {d : DataW H} {p : List MemPlace} (hv : Value.okWide Tryz.prog w .any b0 53 v) (h : DataW.Trod enc Tryz.prog w base spare held 53 v d p) :
    ∃ (A : Option Addr) (n c : Nat) (l : List Int), v = .slice A n c ∧ SlR w A 1 (l.map iRow) ∧ l.length = n := by
  obtain ⟨fuel, hf⟩ := trod_one Tryz.underlying53 hv h
  obtain ⟨A, n, c, l, h1, h2, h3, _⟩ := open_rows (row := iRow) (by decide) (fun _ => rfl) Tryz.underlying53 k_int int_of hf
  exact ⟨A, n, c, l, h1, h2, h3⟩
theorem open_cargo {v : Value} {d : DataW H} {p : List MemPlace} (hv : Value.okWide Tryz.prog w .any b0 25 v) (h : DataW.Trod enc Tryz.prog w base spare held 25 v d p) :
    ∃ (A0 : Option Addr) (n0 c0 : Nat) (A1 : Option Addr) (n1 c1 : Nat) (ps : List Pa) (hs : List Ho), v = .agg #[.slice A0 n0 c0, .slice A1 n1 c1] ∧ CgRaw w A0 n0 A1 n1 ps hs ∧ (A0 = none → c0 = 0) ∧ (A1 = none → c1 = 0) := by
  obtain ⟨v0, v1, y0, y1, n, rfl, _, _, h0, h1⟩ := Go.Joins.open_agg2 Tryz.underlying25 (by kernel_rfl) (by kernel_rfl) hv h
  obtain ⟨A0, n0, c0, ps, rfl, p1, p2, p3, p4⟩ := open_rows (row := Pa.row) (by decide) (fun _ => rfl) Tryz.underlying22 k_Par par_of h0
  obtain ⟨A1, n1, c1, hs, rfl, q1, q2, q3, q4⟩ := open_rows (row := Ho.row) (by decide) (fun _ => rfl) Tryz.underlying23 k_Hol hold_of h1
  exact ⟨A0, n0, c0, A1, n1, c1, ps, hs, rfl, ⟨p1, q1, p2, q2, p3, q3⟩, p4, q4⟩
theorem open_work {v : Value} {d : DataW H} {p : List MemPlace} (hv : Value.okWide Tryz.prog w .any b0 48 v) (h : DataW.Trod enc Tryz.prog w base spare held 48 v d p) :
    ∃ t : Sw, v = t.val := by
  obtain ⟨v0, v1, v2, y0, y1, y2, n, rfl, _, _, h0, h1, h2⟩ := Go.Joins.open_agg3 Tryz.underlying48 (by kernel_rfl) (by kernel_rfl) hv h
  obtain ⟨z0, e0, _⟩ := DataW.trod_int u_int h0
  obtain ⟨z1, e1, _⟩ := DataW.trod_int u_int h1
  obtain ⟨z2, e2, _⟩ := DataW.trod_int u_int h2
  cases e0; cases e1; cases e2
  exact ⟨⟨z0, z1, z2⟩, rfl⟩
end
end Go.Proofs.YtdnelnicnjplpaaGreatDoor.B
