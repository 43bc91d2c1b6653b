/- Part 10 of the proofs that: a claim about cargo holds -/
import Derived.Test.YtdnelnicnjplpaaGreatDoorB9
set_option linter.unusedVariables false
set_option linter.unusedSimpArgs false
namespace Go.Proofs.YtdnelnicnjplpaaGreatDoor.B
open Go Go.RowKit Go.Proofs Go.Proofs.YtdnelnicnjplpaaGreatDoor.Vc

def lbS (t : Sw) (l : List Sw) : Nat := (l.takeWhile fun x => decide (befS x t)).length
theorem lbS_le (t : Sw) (l : List Sw) : lbS t l ≤ l.length := (List.takeWhile_sublist _).length_le
theorem lbS_eq {t : Sw} {l : List Sw} {i : Nat} (hi : i ≤ l.length) (h1 : ∀ k a, k < i → l[k]? = some a → befS a t) (h2 : ∀ a, l[i]? = some a → ¬ befS a t) : lbS t l = i := by
  induction l generalizing i with
  | nil => simp at hi; subst hi; rfl
  | cons a r ih =>
    cases i with
    | zero =>
      have := h2 a rfl
      simp [lbS, this]
    | succ i =>
      have ha := h1 0 a (by omega) rfl
      have := ih (i := i) (by simpa using hi) (fun k b hk hb => h1 (k + 1) b (by omega) (by simpa using hb)) (fun b hb => h2 b (by simpa using hb))
      unfold lbS at *
      simp [ha, this]
theorem befS_le {l : List Sw} (h : SrtS l) {i j : Nat} {a b t : Sw} (hij : i ≤ j) (ha : l[i]? = some a) (hb : l[j]? = some b) (hbt : befS b t) : befS a t := by
  by_cases e : i = j
  · subst e; rw [ha] at hb; cases hb; exact hbt
  · obtain ⟨hi, rfl⟩ := List.getElem?_eq_some_iff.1 ha
    obtain ⟨hj, rfl⟩ := List.getElem?_eq_some_iff.1 hb
    exact bef_trans (List.pairwise_iff_getElem.1 h i j hi hj (by omega)) hbt
def foundS (t : Sw) (l : List Sw) : Bool := match l[lbS t l]? with
  | some x => decide (x.hold = t.hold ∧ x.parcel = t.parcel)
  | none => false
theorem search_stows {w0 : World} {A : Option Addr} {n c : Nat} {l : List Sw} (hl : SlR w0 A 3 (l.map Sw.row)) (hlen : l.length = n) (hn : n < 1000000) (hs : SrtS l) (t : Sw) :
    Pure Tryz.prog 65 #[.slice A n c, t.val, .func (.func 53) #[] #[]] w0 fun v _ => v = .tuple #[.int .i64 (lbS t l : Nat), .bool (foundS t l)] := by
  have fin : ∀ (i : Nat) (w : World), i ≤ n → Below w0.heap.size w0 w → (∀ k a, k < i → l[k]? = some a → befS a t) → (∀ k a, i ≤ k → l[k]? = some a → ¬ befS a t) →
      F.slices_BinarySearchFunc_api_Stow_api_Stow_api_Stow.L3 A n c 53 #[] #[] n i i t.hold t.parcel t.units w0.heap.size w fun v _ => v = .tuple #[.int .i64 (lbS t l : Nat), .bool (foundS t l)] := by
    intro i w hi hw h1 h2
    have hlb : lbS t l = i := lbS_eq (by omega) h1 fun a ha => h2 i a (Nat.le_refl _) ha
    refine F.slices_BinarySearchFunc_api_Stow_api_Stow_api_Stow.L3.step _ _ _ _ _ _ _ _ _ _ _ _ _ _ _ ⟨fun h => by omega, fun _ => ⟨fun h => ?_, fun h w2 _ => ?_⟩⟩
    · have hil : i < l.length := by omega
      obtain ⟨hb, a, hA, hc, _⟩ := (hl.keep hw (Nat.le_refl _)).at_ (fun _ => rfl) hlen hil
      refine ⟨hb, a, hA, _, _, _, hc, by kernel_rfl, fun w2 x2 => Pure.mono (cargo_order l[i] t w2) ?_⟩
      rintro v w3 _ rfl
      refine ⟨_, rfl, ?_⟩
      unfold foundS
      rw [hlb, List.getElem?_eq_getElem hil]
      have e : decide (ordS l[i] t = 0) = decide (l[i].hold = t.hold ∧ l[i].parcel = t.parcel) := by rw [decide_eq_decide]; exact ordS_eq
      rw [e]
    · unfold foundS
      rw [hlb, List.getElem?_eq_none (by omega)]
  have key : ∀ (d i j : Nat) (w : World), j - i ≤ d → i ≤ j → j ≤ n → Below w0.heap.size w0 w → (∀ k a, k < i → l[k]? = some a → befS a t) → (∀ k a, j ≤ k → l[k]? = some a → ¬ befS a t) →
      F.slices_BinarySearchFunc_api_Stow_api_Stow_api_Stow.L3 A n c 53 #[] #[] n i j t.hold t.parcel t.units w0.heap.size w fun v _ => v = .tuple #[.int .i64 (lbS t l : Nat), .bool (foundS t l)] := by
    intro d
    induction d with
    | zero =>
      intro i j w hd hij hj hw h1 h2
      have : i = j := by omega
      subst this
      exact fin i w hj hw h1 h2
    | succ d ih =>
      intro i j w hd hij hj hw h1 h2
      by_cases he : i = j
      · subst he
        exact fin i w hj hw h1 h2
      obtain ⟨h, hh⟩ : ∃ h, h = (i + j) / 2 := ⟨_, rfl⟩
      have hil : h < l.length := by omega
      refine F.slices_BinarySearchFunc_api_Stow_api_Stow_api_Stow.L3.step _ _ _ _ _ _ _ _ _ _ _ _ _ _ _ ⟨fun _ => ⟨by simp only [inR]; omega, by simp only [inR]; omega, ?_⟩, fun h => by omega⟩
      have es : (i : Int) + (j : Int) = ((i + j : Nat) : Int) := by omega
      rw [es]
      refine ⟨_, _, run_shr (i + j) (by omega) w, Below.refl _ _, Nat.le_refl _, fun _ _ _ _ _ => rfl, _, rfl, ?_⟩
      rw [← hh]
      obtain ⟨hb, a, hA, hc, _⟩ := (hl.keep hw (Nat.le_refl _)).at_ (fun _ => rfl) hlen hil
      refine ⟨by simp only [inR]; omega, hb, a, hA, _, _, _, hc, by kernel_rfl, fun w2 x2 => Pure.mono (cargo_order l[h] t w2) ?_⟩
      have hw2 := kE hw x2
      rintro v w3 b3 rfl
      refine ⟨_, rfl, fun h3 => ⟨by simp only [inR]; omega, ?_⟩, fun h3 => ?_⟩
      · have e3 : (h : Int) + 1 = ((h + 1 : Nat) : Int) := by omega
        rw [e3]
        exact ih (h + 1) j w3 (by omega) (by omega) hj (kP hw2 b3) (fun k a hk ha => befS_le hs (by omega) ha (List.getElem?_eq_getElem hil) (ordS_lt.1 h3)) h2
      · refine ih i h w3 (by omega) (by omega) (by omega) (kP hw2 b3) h1 fun k a hk ha hb => h3 (ordS_lt.2 ?_)
        exact befS_le hs hk (List.getElem?_eq_getElem hil) ha hb
  refine F.slices_BinarySearchFunc_api_Stow_api_Stow_api_Stow.vc _ _ _ _ _ _ _ _ _ _ _ fun w1 x1 => ?_
  refine key n 0 n w1 (by omega) (by omega) (by omega) (k0 x1) (fun k a h => by omega) fun k a hk ha => ?_
  rw [List.getElem?_eq_none (by omega)] at ha
  cases ha

def Oth (A : Option Addr) (w w' : World) : Prop := w.heap.size ≤ w'.heap.size ∧ ∀ k, k < w.heap.size → (∀ a, A = some a → k ≠ a.block) → w'.heap[k]? = w.heap[k]?
theorem Oth.refl {A : Option Addr} {w : World} : Oth A w w := ⟨Nat.le_refl _, fun _ _ _ => rfl⟩
theorem Oth.trans {A : Option Addr} {w w1 w2 : World} (h : Oth A w w1) (k : Oth A w1 w2) : Oth A w w2 :=
  ⟨Nat.le_trans h.1 k.1, fun j hj ha => (k.2 j (Nat.lt_of_lt_of_le hj h.1) ha).trans (h.2 j hj ha)⟩
theorem Oth.low {A : Option Addr} {w w1 : World} (h : Below w.heap.size w w1) : Oth A w w1 := ⟨h.size, fun k hk _ => h.block k hk⟩
theorem Oth.wrote {A : Option Addr} {w w1 : World} {b ty : Nat} {cs : List Value} (h : Wrote w w1 b ty cs) (ha : ∃ a, A = some a ∧ a.block = b) : Oth A w w1 :=
  ⟨by rw [h.size]; exact Nat.le_refl _, fun k hk hka => h.rest k fun e => by obtain ⟨a, h1, h2⟩ := ha; exact hka a h1 (e.trans h2.symm)⟩
theorem Oth.fresh {A : Option Addr} {w0 w w1 : World} {b ty : Nat} {cs : List Value} (h : Wrote w w1 b ty cs) (k : Oth A w0 w) (hb : w0.heap.size ≤ b) : Oth A w0 w1 :=
  ⟨by rw [h.size]; exact k.1, fun j hj ha => (h.rest j (by omega)).trans (k.2 j hj ha)⟩

theorem index_stows {w0 : World} {A : Option Addr} {n c : Nat} {l : List Sw} (hl : SlR w0 A 3 (l.map Sw.row)) (hlen : l.length = n) (hn : n < 2147483648) {f : Nat} {a k : Array Value} (hcall : callable Tryz.prog f = true) {p : Sw → Bool}
    (hf : ∀ w, Below w0.heap.size w0 w → ∀ x : Sw, Pure Tryz.prog f (a.toList ++ ([x.val] : List Value) ++ k.toList).toArray w fun v _ => v = .bool (p x)) {R : Value → World → Prop} {r : Int} (hR : ∀ w, R (.int .i64 r) w) :
    ∀ (d i : Nat) (w : World), n - i = d → i ≤ n → Below w0.heap.size w0 w → r = idxG p i (l.drop i) → F.slices_IndexFunc_api_Stow_api_Stow.L2 A n c f a k n i w0.heap.size w R := by
  intro d
  induction d with
  | zero =>
    intro i w hd hi hw hr
    rw [List.drop_eq_nil_of_le (by omega)] at hr
    subst hr
    exact F.slices_IndexFunc_api_Stow_api_Stow.L2.step _ _ _ _ _ _ _ _ _ _ _ ⟨fun h => by omega, fun _ => hR w⟩
  | succ d ih =>
    intro i w hd hi hw hr
    have hil : i < l.length := by omega
    rw [List.drop_eq_getElem_cons hil, idxG] at hr
    obtain ⟨hb, ad, hA, hcell, _⟩ := (hl.keep hw (Nat.le_refl _)).at_ (fun _ => rfl) hlen hil
    refine F.slices_IndexFunc_api_Stow_api_Stow.L2.step _ _ _ _ _ _ _ _ _ _ _ ⟨fun _ => ?_, fun h => by omega⟩
    refine ⟨hb, ad, hA, _, _, _, hcell, hcall, Pure.mono (hf w hw l[i]) ?_⟩
    rintro v w2 b2 rfl
    refine ⟨_, rfl, fun h => ?_, fun h => ⟨by simp only [inR]; omega, ?_⟩⟩
    · rw [if_pos h] at hr
      subst hr
      exact hR w2
    · rw [if_neg (by simp [h])] at hr
      have e3 : (i : Int) + 1 = ((i + 1 : Nat) : Int) := by omega
      rw [e3]
      exact ih (i + 1) w2 (by omega) (by omega) (kP hw b2) hr
theorem find_none {α : Type} {p : α → Bool} {l : List α} (h : l.findIdx? p = none) : l.filter (fun x => !p x) = l := by
  rw [List.filter_eq_self]
  intro x hx
  have := List.findIdx?_eq_none_iff.1 h x hx
  simp [this]
theorem find_some {α : Type} {p : α → Bool} {l : List α} {i : Nat} (h : l.findIdx? p = some i) : i < l.length ∧ (l.take (i + 1)).filter (fun x => !p x) = l.take i := by
  obtain ⟨hi, hp, hlt⟩ := List.findIdx?_eq_some_iff_getElem.1 h
  refine ⟨hi, ?_⟩
  rw [List.take_add_one, List.getElem?_eq_getElem hi, List.filter_append]
  have e1 : (l.take i).filter (fun x => !p x) = l.take i := by
    rw [List.filter_eq_self]
    intro x hx
    obtain ⟨j, hj, rfl⟩ := List.mem_take_iff_getElem.1 hx
    have := hlt j (by omega)
    simpa using this
  rw [e1]
  simp [hp]
theorem zeroSw : (Tryz.prog.info? 35).bind (·.zero) = some (.agg #[.int .i64 0, .int .i64 0, .int .i64 0]) := by kernel_rfl

theorem delf_loop {w0 : World} {B : Nat} {A : Option Addr} {n c : Nat} {l : List Sw} (hlen : l.length = n) (hn : n < 2147483648) (hnc : n ≤ c) {f : Nat} {a k : Array Value} (hcall : callable Tryz.prog f = true) {p : Sw → Bool}
    (hf : ∀ w, Oth A w0 w → ∀ x : Sw, Pure Tryz.prog f (a.toList ++ ([x.val] : List Value) ++ k.toList).toArray w fun v _ => v = .bool (p x)) {R : Value → World → Prop}
    (hR : ∀ m w, Oth A w0 w → OwnR w B 35 A m c 3 ((l.filter fun x => !p x).map Sw.row) → R (.slice A m c) w) :
    ∀ (d i j : Nat) (cur : List Sw) (w : World), n - j = d → j ≤ n → i ≤ j → cur.length = n → OwnR w B 35 A n c 3 (cur.map Sw.row) → cur.take i = (l.take j).filter (fun x => !p x) → cur.drop j = l.drop j → Oth A w0 w → B ≤ w.heap.size →
      F.slices_DeleteFunc_api_Stow_api_Stow.L5 A n c f a k i j B w R := by
  intro d
  induction d with
  | zero =>
    intro i j cur w hd hj hij hcl ho ht hdr hoth hBw
    have : j = n := by omega
    subst this
    rw [List.take_of_length_le (l := l) (by omega)] at ht
    refine F.slices_DeleteFunc_api_Stow_api_Stow.L5.step _ _ _ _ _ _ _ _ _ _ _ ⟨fun h => by omega, fun _ => ⟨by omega, ?_⟩⟩
    have os := ho.short (m := i) (by omega)
    rw [← List.map_take, ht] at os
    rw [Int.toNat_natCast]
    refine runOk_clear el_Sws zeroSw (by simp [Value.cells, isCell]) os hij hnc fun w2 o2 b2 k2 => ⟨by omega, hR i w2 (hoth.trans ⟨b2.size, k2⟩) o2⟩
  | succ d ih =>
    intro i j cur w hd hj hij hcl ho ht hdr hoth hBw
    have hjl : j < l.length := by omega
    have hjc : j < cur.length := by omega
    have ej : cur[j] = l[j] := by
      have h1 : (cur.drop j)[0]? = (l.drop j)[0]? := by rw [hdr]
      rw [List.getElem?_drop, List.getElem?_drop] at h1
      simpa [hjl, hjc] using h1
    have e3 : (j : Int) + 1 = ((j + 1 : Nat) : Int) := by omega
    have e4 : (i : Int) + 1 = ((i + 1 : Nat) : Int) := by omega
    have hdr' : cur.drop (j + 1) = l.drop (j + 1) := by
      have := congrArg (List.drop 1) hdr
      simpa [List.drop_drop] using this
    have ht1 : l.take (j + 1) = l.take j ++ [l[j]] := by rw [List.take_add_one, List.getElem?_eq_getElem hjl]; rfl
    obtain ⟨hb, ad, hA, hcell, _⟩ := ho.sl.at_ (fun _ => rfl) hcl hjc
    refine F.slices_DeleteFunc_api_Stow_api_Stow.L5.step _ _ _ _ _ _ _ _ _ _ _ ⟨fun _ => ⟨hb, ad, hA, _, _, _, hcell, ?_⟩, fun h => by omega⟩
    refine runOk_alloc 35 zeroSw hBw fun w2 hnew b2 hlt => ?_
    refine ⟨_, _, hBw, rfl, hnew, by simp [Value.cells], rfl, fun w3 hw3 => ?_⟩
    have hcells : w3.heap[w.heap.size]? = some (.cells (cur[j].row).toArray 35 (0, 0)) := by
      have := hw3.at_
      simpa [setCells, Value.cells] using this
    have hoth3 : Oth A w0 w3 := Oth.fresh hw3 (hoth.trans (Oth.low b2)) hoth.1
    have hblk : ∀ x, A = some x → x.block < w.heap.size := fun x hx => (ho.blk x hx).2
    have o3 : OwnR w3 B 35 A n c 3 (cur.map Sw.row) := (ho.below b2).other fun x hx => hw3.rest _ (by have := hblk x hx; show x.block ≠ w.heap.size; omega)
    refine ⟨_, _, _, box_all hcells, hcall, Pure.mono (hf w3 hoth3 cur[j]) ?_⟩
    rintro v w4 b4 rfl
    have hoth4 := hoth3.trans (Oth.low (A := A) b4)
    have o4 := o3.below b4
    have hB4 : B ≤ w4.heap.size := by have := b4.size; have := hw3.size; omega
    refine ⟨_, rfl, fun hkeep => ?_, fun hdel => ⟨by simp only [inR]; omega, ?_⟩⟩
    · have hpj : p l[j] = false := by rw [← ej]; exact hkeep
      obtain ⟨g1, a2, hA2, cs, g2, g3, g4, g5, g6⟩ := o4.set0 (i := (i : Int)) (by omega) (by omega) (cur[j].row) ((cur[i]'(by omega)).row) (by rw [Int.toNat_natCast, List.getElem?_map, List.getElem?_eq_getElem (by omega)]; rfl) rfl
      refine ⟨_, _, _, box_all (heap_keep hcells b4), g1, a2, hA2, cs, _, g2, g3, g4, g5, rfl, fun w5 hw5 => ⟨by simp only [inR]; omega, by simp only [inR]; omega, ?_⟩⟩
      have o5 := g6 w5 hw5
      rw [Int.toNat_natCast] at o5
      have hadd : (a2.add ((i : Int).toNat * 3)).block = a2.block := by unfold Addr.add; split <;> rfl
      rw [e3, e4]
      refine ih (i + 1) (j + 1) (cur.set i cur[j]) w5 (by omega) (by omega) (by omega) (by simp [hcl]) (by rw [List.map_set]; exact o5) ?_ ?_ (hoth4.trans (Oth.wrote hw5 ⟨a2, hA2, hadd.symm⟩)) (by rw [hw5.size]; exact hB4)
      · rw [List.take_add_one, List.getElem?_set_self (by omega), List.take_set_of_le (by omega), ht, ht1, List.filter_append, ej]
        simp [hpj]
      · rw [List.drop_set_of_lt (by omega)]
        exact hdr'
    · have hpj : p l[j] = true := by rw [← ej]; simpa using hdel
      rw [e3]
      refine ih i (j + 1) cur w4 (by omega) (by omega) (by omega) hcl o4 ?_ hdr' hoth4 hB4
      rw [ht, ht1, List.filter_append]
      simp [hpj]
theorem DeleteFuncS {w : World} {B : Nat} (hB : B ≤ w.heap.size) {A : Option Addr} {n c : Nat} {l : List Sw} (ho : OwnR w B 35 A n c 3 (l.map Sw.row)) (hn : n < 2147483648) {f : Nat} {a k : Array Value} (hcall : callable Tryz.prog f = true) {p : Sw → Bool}
    (hf : ∀ w', Oth A w w' → ∀ x : Sw, Pure Tryz.prog f (a.toList ++ ([x.val] : List Value) ++ k.toList).toArray w' fun v _ => v = .bool (p x)) :
    PureB Tryz.prog 101 #[.slice A n c, .func (.func f) a k] B w fun v w' => ∃ m, v = .slice A m c ∧ OwnR w' B 35 A m c 3 ((l.filter fun x => !p x).map Sw.row) ∧ Oth A w w' := by
  have hlen : l.length = n := by have := ho.len; simpa using this
  have hnc := ho.len_le
  refine F.slices_DeleteFunc_api_Stow_api_Stow.vcB _ _ _ _ _ _ _ _ hB _ ?_
  refine Pure.mono (F.slices_IndexFunc_api_Stow_api_Stow.vc _ _ _ _ _ _ _ _ (index_stows ho.sl hlen hn hcall (fun w' hb x => hf w' (Oth.low hb) x) (R := fun v _ => v = .int .i64 (idxG p 0 l)) (fun _ => rfl) n 0 w rfl (by omega) (Below.refl _ _) rfl)) ?_
  rintro v w2 b2 rfl
  have key := idxG_find p l 0
  cases hx : l.findIdx? p with
  | none =>
    rw [hx] at key
    simp only at key
    rw [key]
    refine ⟨_, rfl, fun _ => ⟨n, rfl, ?_, Oth.low b2⟩, fun h => absurd rfl h⟩
    rw [find_none hx]
    exact ho.below b2
  | some i =>
    rw [hx] at key
    simp only [Nat.zero_add] at key
    rw [key]
    obtain ⟨hil, hfi⟩ := find_some hx
    have e3 : (i : Int) + 1 = ((i + 1 : Nat) : Int) := by omega
    refine ⟨_, rfl, fun h => by omega, fun _ => ⟨by simp only [inR]; omega, ?_⟩⟩
    rw [e3]
    exact delf_loop (w0 := w) hlen hn hnc hcall hf (fun m w' hoth o => ⟨m, rfl, o, hoth⟩) (n - (i + 1)) i (i + 1) l w2 rfl (by omega) (by omega) hlen (ho.below b2) hfi.symm rfl (Oth.low b2) (Nat.le_trans hB b2.size)
end Go.Proofs.YtdnelnicnjplpaaGreatDoor.B

namespace Go.Proofs.YtdnelnicnjplpaaGreatDoor.B
open Go Go.RowKit Go.Proofs Go.Proofs.YtdnelnicnjplpaaGreatDoor.Vc

theorem flatten_take {sz : Nat} {rows : List (List Value)} (h : ∀ r ∈ rows, r.length = sz) {m : Nat} (hm : m ≤ rows.length) : (rows.take m).flatten = rows.flatten.take (m * sz) := by
  have hfl : (rows.take m).flatten.length = m * sz := by rw [flatten_len _ fun r hr => h r (List.mem_of_mem_take hr), List.length_take, Nat.min_eq_left hm]
  have : rows.flatten = (rows.take m).flatten ++ (rows.drop m).flatten := by rw [← List.flatten_append, List.take_append_drop]
  conv => rhs; rw [this]
  rw [List.take_append_of_le_length (by omega), List.take_of_length_le (l := (rows.take m).flatten) (by omega)]
theorem flatten_drop {sz : Nat} {rows : List (List Value)} (h : ∀ r ∈ rows, r.length = sz) {m : Nat} (hm : m ≤ rows.length) : (rows.drop m).flatten = rows.flatten.drop (m * sz) := by
  have hfl : (rows.take m).flatten.length = m * sz := by rw [flatten_len _ fun r hr => h r (List.mem_of_mem_take hr), List.length_take, Nat.min_eq_left hm]
  have : rows.flatten = (rows.take m).flatten ++ (rows.drop m).flatten := by rw [← List.flatten_append, List.take_append_drop]
  conv => rhs; rw [this]
  have e0 : (rows.take m).flatten.drop (m * sz) = [] := List.drop_eq_nil_of_le (by omega)
  rw [List.drop_append_of_le_length (by omega), e0, List.nil_append]

theorem runOk_appendFits {t ty e sz bytes : Nat} (el : El Tryz.prog t e sz bytes) {B0 B : Nat} (hBB : B0 ≤ B) {tys : List Nat} {w : World} {g n c : Nat} {rows : List (List Value)} (ho : OwnR w B e (some ⟨g, 0, none⟩) n c sz rows)
    {a : Addr} {m c2 : Nat} {more : List (List Value)} (hsl : SlR w (some a) sz more) (hm : more.length = m) (hms : ∀ r ∈ more, r.length = sz) (h1 : ∀ r ∈ more, ∀ u ∈ r, isCell u = true) (hroom : n + m ≤ c) (ht : e ∉ tys) (hB : B ≤ w.heap.size) {K : Option Addr → Nat → Nat → World → Prop}
    (h : ∀ w2, OwnR w2 B e (some ⟨g, 0, none⟩) (n + m) c sz (rows ++ more) → w.grownBy w2 (some g) → Below B0 w w2 → K (some ⟨g, 0, none⟩) (n + m) c w2) :
    RunOk Tryz.prog (Builtin.append_ #[t, t] ty #[.slice (some ⟨g, 0, none⟩) n c, .slice (some a) m c2]) B0 tys w fun r w2 => ∃ A n c, r = .slice A n c ∧ K A n c w2 := by
  obtain ⟨i, z, h2, h3, h4, h5, h6⟩ := el.info
  have hlen : more.flatten.length = m * sz := by rw [flatten_len _ hms, hm]
  obtain ⟨w', hr, hown, hg⟩ := run_append_fits (P := Tryz.prog) w B t ty e i sz el.und h2 h4 g n c rows.flatten ho.1 a m c2 more.flatten hlen (fun j u hu => by
    rcases hsl with hsl | ⟨b, off, cs, ty, fr, hA, hh, hc⟩
    · subst hsl; simp at hu
    · cases hA
      rw [add_plain0]
      simp only [World.cell?, hh]
      have := flat_cell more off hms (fun i hi j hj => (hc i hi j hj).2) j u hu
      simpa using this) (fun u hu => by
    obtain ⟨r, hr, hu2⟩ := List.mem_flatten.1 hu
    exact oneCell'_of (h1 r hr u hu2)) hroom
  have hbel : Below B0 w w' := below_grown hg (fun k hk => by cases hk; exact Nat.le_trans hBB (World.ownsRow.lt ho.1 g rfl).1) (Nat.le_trans hBB hB)
  refine ⟨_, w', hr, hbel, hbel.size, kept_grown (v := .slice (some ⟨g, 0, none⟩) n c) hg ho.1 ht, _, _, _, rfl, h w' ⟨by rw [List.flatten_append]; exact hown, by simp [ho.len, hm], fun r hr => ?_⟩ hg hbel⟩
  rcases List.mem_append.1 hr with h | h
  · exact ho.2.2 r h
  · exact hms r h
theorem run_slice3 (A : Option Addr) (n c i j : Nat) (hij : i ≤ j) (hjn : j ≤ n) (hnc : n ≤ c) (w : World) : ∃ v, (Instr.sliceAt 26 (.slice A n c) (some (.int .i64 (i : Int))) (some (.int .i64 (j : Int))) (some (.int .i64 (n : Int)))).run Tryz.prog w = .ok v w ∧ ∃ A' n' c', v = .slice A' n' c' := by
  obtain ⟨q, z, h2, h3, h4, h5, h6⟩ := el_Sws.info
  have b1 : ∀ {code : BoundsCode}, (Instr.sliceBound (.int .i64 (n : Int)) c code).run Tryz.prog w = .ok n w := fun {code} => by
    have := Go.run_sliceBound (P := Tryz.prog) w .i64 (n : Int) c code (by omega) (by omega)
    simpa using this
  have b2 : ∀ {code : BoundsCode}, (Instr.sliceBound (.int .i64 (j : Int)) n code).run Tryz.prog w = .ok j w := fun {code} => by
    have := Go.run_sliceBound (P := Tryz.prog) w .i64 (j : Int) n code (by omega) (by omega)
    simpa using this
  have b3 : ∀ {code : BoundsCode}, (Instr.sliceBound (.int .i64 (i : Int)) j code).run Tryz.prog w = .ok i w := fun {code} => by
    have := Go.run_sliceBound (P := Tryz.prog) w .i64 (i : Int) j code (by omega) (by omega)
    simpa using this
  refine ⟨.slice (if n = i then A else A.map (·.add (i * q.size))) (j - i) (n - i), ?_, _, _, _, rfl⟩
  simp [Instr.sliceAt, Instr.slice, Instr.sliceBounds, run_underlying el_Sws.und, b1, b2, b3, sizeOf, typeInfo, h2]
theorem DeleteS {w : World} {B : Nat} (hB : B ≤ w.heap.size) {A : Option Addr} {n c : Nat} {l : List Sw} (ho : OwnR w B 35 A n c 3 (l.map Sw.row)) (hn : n < 2147483648) {i : Nat} (hi : i < n) :
    PureB Tryz.prog 67 #[.slice A n c, .int .i64 (i : Int), .int .i64 ((i + 1 : Nat) : Int)] B w fun v w' => ∃ m, v = .slice A m c ∧ OwnR w' B 35 A m c 3 ((l.take i ++ l.drop (i + 1)).map Sw.row) ∧ Oth A w w' := by
  have hlen : l.length = n := by have := ho.len; simpa using this
  have hnc := ho.len_le
  have hA : ∃ g, A = some ⟨g, 0, none⟩ := by
    rcases ho.1.2 with ⟨h0, h3⟩ | ⟨g, cap, cur, h3, _⟩
    · omega
    · cases h3; exact ⟨g, rfl⟩
  obtain ⟨g, rfl⟩ := hA
  obtain ⟨v, hr, A', n', c', rfl⟩ := run_slice3 (some ⟨g, 0, none⟩) n c i (i + 1) (by omega) (by omega) hnc w
  refine F.slices_Delete_api_Stow_api_Stow.vcB _ _ _ _ _ _ _ hB _ ⟨_, w, hr, Below.refl _ _, Nat.le_refl _, fun _ _ _ _ _ => rfl, _, _, _, rfl, fun h => by omega, fun _ => ⟨by omega, by omega, fun w2 x2 => ?_⟩⟩
  rw [Int.toNat_natCast, Int.toNat_natCast]
  have o2 := ho.extNil x2
  have os := o2.short (m := i) (by omega)
  rw [← List.map_take] at os
  have hs2 : ∃ a, cutAddr (some (⟨g, 0, none⟩ : Addr)) (i + 1) c 3 = some a := by
    unfold cutAddr
    split
    · exact ⟨_, rfl⟩
    · exact ⟨_, rfl⟩
  obtain ⟨a, ha⟩ := hs2
  have hsl := o2.sl.dropS (k := i + 1) (c := c) (by simp; omega)
  rw [ha] at hsl ⊢
  rw [← List.map_drop] at hsl
  refine runOk_appendFits el_Sws (Nat.le_refl _) os hsl (by simp; omega) rowS_len rowS_cell (by omega) (by simp) (Nat.le_trans hB x2.below.size) fun w3 o3 g3 b3 => ⟨by omega, ?_⟩
  have em : i + (n - (i + 1)) = n - 1 := by omega
  rw [← List.map_append] at o3
  rw [Int.toNat_natCast, Int.toNat_natCast]
  refine runOk_clear el_Sws zeroSw (by simp [Value.cells, isCell]) o3 (by omega) hnc fun w4 o4 b4 k4 => ⟨_, rfl, o4, ?_⟩
  have t2 : Oth (some ⟨g, 0, none⟩) w w2 := ⟨x2.below.size, fun k hk _ => by
    rcases x2.other k hk with h | ⟨t, ht, _⟩
    · exact h
    · simp at ht⟩
  have t3 : Oth (some ⟨g, 0, none⟩) w2 w3 := ⟨g3.size, fun k hk hka => g3.block k hk fun e => by cases e; exact hka _ rfl rfl⟩
  exact (t2.trans t3).trans ⟨b4.size, k4⟩

theorem ins_takeS {xs L x : List Value} {p q N : Nat} (hxl : xs.length = N) (hx : x.length = q) (hp : p ≤ N) (h1 : ∀ k, k < p → L[k]? = xs[k]?) (h2 : ∀ k, k < q → L[p + k]? = x[k]?) (h3 : ∀ k, p ≤ k → k < N → L[k + q]? = xs[k]?) : L.take (N + q) = xs.take p ++ x ++ xs.drop p := by
  apply List.ext_getElem?
  intro k
  rw [List.getElem?_take, List.append_assoc]
  have hl : (xs.take p).length = p := by simp; omega
  by_cases hk : k < p
  · rw [if_pos (by omega), List.getElem?_append_left (by omega), List.getElem?_take, if_pos hk, h1 k hk]
  · rw [List.getElem?_append_right (by omega), hl]
    by_cases hk2 : k < p + q
    · rw [if_pos (by omega), List.getElem?_append_left (by omega)]
      have := h2 (k - p) (by omega)
      rwa [show p + (k - p) = k by omega] at this
    · rw [List.getElem?_append_right (by omega), hx, List.getElem?_drop]
      by_cases hk3 : k < N + q
      · rw [if_pos hk3]
        have := h3 (k - q) (by omega) (by omega)
        rw [show k - q + q = k by omega] at this
        rw [this]
        congr 1
        omega
      · rw [if_neg hk3, List.getElem?_eq_none (by omega)]
theorem InsertS {w : World} {B : Nat} (hB : B ≤ w.heap.size) {A : Option Addr} {n c : Nat} {l : List Sw} (hor : OwnR w B 35 A n c 3 (l.map Sw.row)) (hn : n ≤ 1000) {i : Nat} (hi : i ≤ n)
    {vb cc : Nat} {s : Sw} (hvr : OwnR w B 35 (some ⟨vb, 0, none⟩) 1 cc 3 [s.row]) (hne : ∀ a, A = some a → a.block ≠ vb) :
    PureB Tryz.prog 66 #[.slice A n c, .int .i64 (i : Int), .slice (some ⟨vb, 0, none⟩) 1 cc] B w fun v w' => ∃ A' c', v = .slice A' (n + 1) c' ∧ OwnR w' B 35 A' (n + 1) c' 3 ((l.take i ++ s :: l.drop i).map Sw.row) ∧ Oth A w w' := by
  have hlen : l.length = n := by have := hor.len; simpa using this
  have hnc := hor.len_le
  have hrl : ∀ r ∈ l.map Sw.row, r.length = 3 := rowS_len
  have hll : (l.map Sw.row).length = n := by simp [hlen]
  obtain ⟨xs, hxs⟩ : ∃ xs, xs = (l.map Sw.row).flatten := ⟨_, rfl⟩
  have ho := hor.1
  rw [← hxs] at ho
  obtain ⟨x, hx⟩ : ∃ x : List Value, x = s.row := ⟨_, rfl⟩
  have hxn : x.length = 3 := by rw [hx]; rfl
  have hx1 : ∀ v ∈ x, isCell v = true := by
    rw [hx]; intro v hv; simp only [Sw.row, List.mem_cons, List.not_mem_nil, or_false] at hv
    rcases hv with rfl | rfl | rfl <;> rfl
  have h1 : ∀ v ∈ xs, isCell v = true := by
    intro v hv
    rw [hxs] at hv
    obtain ⟨r, hr, hu2⟩ := List.mem_flatten.1 hv
    exact rowS_cell r hr v hu2
  have hxl : xs.length = n * 3 := ho.1
  -- the result, out of the cells
  have fin : ∀ (A' : Option Addr) (c' : Nat) (w' : World), w'.ownsRow B 35 3 (.slice A' (n + 1) c') (n + 1) (xs.take (i * 3) ++ x ++ xs.drop (i * 3)) → OwnR w' B 35 A' (n + 1) c' 3 ((l.take i ++ s :: l.drop i).map Sw.row) := fun A' c' w' h => by
    have e : ((l.take i ++ s :: l.drop i).map Sw.row).flatten = xs.take (i * 3) ++ x ++ xs.drop (i * 3) := by
      rw [List.map_append, List.map_cons, List.flatten_append, List.flatten_cons, List.map_take, List.map_drop, flatten_take hrl (by omega), flatten_drop hrl (by omega), ← hxs, ← hx, List.append_assoc]
    exact ⟨by rw [e]; exact h, by simp; omega, rowS_len⟩
  obtain ⟨cv, hBv, hv, hvt, hvs⟩ : ∃ cv : Array Value, B ≤ vb ∧ w.heap[vb]? = some (.cells cv 35 (0, 0)) ∧ cv.toList.take 3 = x ∧ cv.size = cc * 3 := by
    rcases hvr.1.2 with ⟨e1, _⟩ | ⟨g, cap, cur, e1, e2, e3, e4, e5, e6, e7⟩
    · cases e1
    · cases e1
      exact ⟨cur, e2, e3, by rw [hx]; simpa using e7, e6⟩
  have hcc : 1 ≤ cc := hvr.len_le
  have hsrcv : ∀ {w' : World}, w'.heap[vb]? = some (.cells cv 35 (0, 0)) → ∀ j v, x[j]? = some v → w'.cell? ((⟨vb, 0, none⟩ : Addr).add j) = some v := by
    intro w' hv' j v hj
    rw [add_plain0]
    simp only [World.cell?, hv', Nat.zero_add]
    rw [← hvt, List.getElem?_take] at hj
    split at hj
    · simpa using hj
    · cases hj
  refine F.slices_Insert_api_Stow_api_Stow.vcB _ _ _ _ _ _ _ _ w hB _ ⟨by omega, fun h => by omega, fun _ => ⟨fun h => ?_, fun h => ⟨by simp only [inR]; omega, fun h2 => ?_, fun h2 => ?_⟩⟩⟩
  · -- at the end
    have hin : i = n := by omega
    subst hin
    refine runOk_append (P := Tryz.prog) (ty := 26) el_Sws (Nat.le_refl B) (tys := []) ho (a := ⟨vb, 0, none⟩) (m := 1) (c := cc) (news := x) (by rw [hxn]) (hsrcv hv) hx1 hB (by omega) (by simp) fun A' c' w2 k1 k2 k3 => ⟨A', c', rfl, fin _ _ _ ?_, k2.size, fun k hk hka => k2.block k hk fun e => ?_⟩
    · rw [List.take_of_length_le (by omega), List.drop_eq_nil_of_le (by omega), List.append_nil]
      exact k1
    · cases A with
      | none => simp [Value.ownBlock] at e
      | some a => simp [Value.ownBlock] at e; exact hka a rfl e
  · -- no room: a new row
    have hA : ∃ g, A = some ⟨g, 0, none⟩ ∧ ∃ cur : Array Value, B ≤ g ∧ w.heap[g]? = some (.cells cur 35 (0, 0)) ∧ cur.toList.take (n * 3) = xs := by
      rcases ho.2 with ⟨h0, h3⟩ | ⟨g, cap, cur, h3, h4, h5, h6, h7, h8, h9⟩
      · omega
      · cases h3
        exact ⟨g, rfl, cur, h4, h5, h9⟩
    obtain ⟨g, rfl, cur, hBg, hg, hcur⟩ := hA
    have hin : i < n := by omega
    obtain ⟨i0, z, e2, e3, e4, e5, e6⟩ := el_Sws.info
    have hgs : ∀ {w' : World}, w'.heap[g]? = some (.cells cur 35 (0, 0)) → ∀ j v, xs[j]? = some v → w'.cell? ((⟨g, 0, none⟩ : Addr).add j) = some v := fun {w'} hg' j v hj => by
      rw [add_plain0]
      simp only [World.cell?, hg', Nat.zero_add]
      rw [← hcur, List.getElem?_take] at hj
      split at hj
      · simpa using hj
      · cases hj
    have hold : (Builtin.firstCells i0.size i (.slice (some ⟨g, 0, none⟩) i c)).run Tryz.prog w.drew = .ok (xs.take (i * 3)).toArray w.drew := by
      rw [e4]
      exact run_firstCells_some w.drew 3 i ⟨g, 0, none⟩ i c (xs.take (i * 3)) (by rw [List.length_take]; omega) (fun j v hj => by
        rw [List.getElem?_take] at hj
        split at hj
        · exact hgs (w' := w.drew) hg j v hj
        · cases hj)
    have hik : i + (n + 1 - i) = n + 1 := by omega
    have hbig : (n + 1) * 24 ≤ 140737488355328 := by omega
    have hrz := Lib.run_append_grow_zeros w 26 3 26 35 i0 z .i64 .i64 el_Sws.und Tryz.underlying3 e2 e3 (some ⟨g, 0, none⟩) i c (xs.take (i * 3)) hold (n + 1 - i) (by omega) (by omega) (by omega) (by omega) (by rw [e5]; omega) (by rw [e5, hik]; exact growslice_fits (by omega) hbig)
    rw [hik] at hrz
    obtain ⟨G, hG⟩ : ∃ G, G = grownCap w (n + 1) c 35 := ⟨_, rfl⟩
    have hGn : n + 1 ≤ G := by rw [hG]; exact grownCap_ge w _ _ _
    have hGm : G ≤ maxLen := by rw [hG]; exact grownCap_le_maxLen w (n + 1) c _ (by unfold maxLen; omega)
    rw [← hG] at hrz
    obtain ⟨R0, hR0⟩ : ∃ R0 : List Value, R0 = ((xs.take (i * 3)).toArray ++ Builtin.zeroCells z.cells (n + 1 - i) ++ Builtin.zeroCells z.cells (G - (n + 1))).toList := ⟨_, rfl⟩
    have hR0a : ((xs.take (i * 3)).toArray ++ Builtin.zeroCells z.cells (n + 1 - i) ++ Builtin.zeroCells z.cells (G - (n + 1))) = R0.toArray := by rw [hR0]
    have hR0l : R0.length = G * 3 := by
      rw [hR0]
      simp only [Array.length_toList, Array.size_append, List.size_toArray, List.length_take, size_zeroCells, e6]
      omega
    have hR0p : ∀ k, k < i * 3 → R0[k]? = xs[k]? := fun k hk => by
      rw [hR0]
      simp only [Array.toList_append, List.append_assoc]
      rw [List.getElem?_append_left (by simp; omega), List.getElem?_take, if_pos hk]
    rw [hR0a] at hrz
    have ekk : ((n : Int) + ((1 : Nat) : Int)) - (i : Int) = ((n + 1 - i : Nat) : Int) := by omega
    have eN : ((i : Int)).toNat = i := Int.toNat_natCast i
    have hgrow : w.grownBy (w.drew.alloc (.cells R0.toArray 35)) none := ⟨rfl, rfl, rfl, by simp, fun k hk _ => RowKit.Below.heap_alloc w.drew _ k hk⟩
    have hb1 := below_grown (B := B) hgrow (by simp) hB
    have hnew : (w.drew.alloc (.cells R0.toArray 35)).heap[w.heap.size]? = some (.cells R0.toArray 35 (0, 0)) := heap_alloc_new w.drew _
    obtain ⟨W1, hW1⟩ : ∃ W1, W1 = w.drew.alloc (.cells R0.toArray 35) := ⟨_, rfl⟩
    rw [← hW1] at hrz hgrow hb1 hnew
    have gl := (Array.getElem?_eq_some_iff.1 hg).1
    have vl := (Array.getElem?_eq_some_iff.1 hv).1
    have e1N : ((i : Int) + ((1 : Nat) : Int)).toNat = i + 1 := by omega
    rw [eN, ekk]
    refine ⟨by omega, by simp only [inR]; omega, by simp only [inR]; omega, _, W1, hrz, hb1, hgrow.size, fun k ty cs h => (by cases h), _, _, _, rfl, by omega, ?_⟩
    rw [cut3 (by omega)]
    refine runOk_copyS el_Sws (cs := x) (cur := R0) (by rw [hxn]; simp only [Nat.min_def]; split <;> omega) (hsrcv (by rw [hgrow.block vb vl (by simp)]; exact hv)) hnew (by omega) hx1 hB (by simp) fun w2 c1 c2 c3 c4 => ⟨by simp only [inR]; omega, by omega, by omega, fun w3 x3 => ?_⟩
    rw [e1N, cut3 (by omega), cut3 (by omega)]
    have d1 := ext_nil x3 c1
    have hg3 : w3.heap[g]? = some (.cells cur 35 (0, 0)) := ext_nil x3 (by rw [c2 g (by omega), hgrow.block g gl (by simp)]; exact hg)
    have hdl : (xs.drop (i * 3)).length = (n - i) * 3 := by rw [List.length_drop, hxl]; omega
    refine runOk_copyS el_Sws (cs := xs.drop (i * 3)) (cur := setCells R0 (i * 3) x) (by rw [hdl]; simp only [Nat.min_def]; split <;> omega) (fun j v hj => ?_) d1 (by rw [setCells_len, hdl]; omega) (fun v hv2 => h1 v (List.mem_of_mem_drop hv2)) hB (by simp) fun w4 f1 f2 f3 f4 => ?_
    · rw [List.getElem?_drop] at hj
      have := hgs hg3 (i * 3 + j) v hj
      rw [add_plain0] at this ⊢
      simpa using this
    refine ⟨_, _, rfl, fin _ _ _ ⟨by simp [hxl, hxn]; omega, .inr ⟨w.heap.size, G, _, rfl, hB, f1, hGn, hGm, by simp [setCells_len, hR0l], ?_⟩⟩, ?_, fun k hk hka => ?_⟩
    · have hlen1 : i * 3 + x.length ≤ R0.length := by omega
      have hlen2 : (i + 1) * 3 + (xs.drop (i * 3)).length ≤ (setCells R0 (i * 3) x).length := by rw [setCells_len, hdl]; omega
      have := ins_takeS (L := setCells (setCells R0 (i * 3) x) ((i + 1) * 3) (xs.drop (i * 3))) (x := x) (p := i * 3) hxl hxn (by omega) (fun k hk => by
          rw [setCells_get _ _ _ _ hlen2, if_neg (by omega), setCells_get _ _ _ _ hlen1, if_neg (by omega)]
          exact hR0p k hk)
        (fun k hk => by
          rw [setCells_get _ _ _ _ hlen2, if_neg (by omega), setCells_get _ _ _ _ hlen1, if_pos (by omega)]
          rw [show i * 3 + k - i * 3 = k by omega])
        (fun k hk hk2 => by
          rw [setCells_get _ _ _ _ hlen2, if_pos (by rw [hdl]; omega), List.getElem?_drop]
          rw [show i * 3 + (k + 3 - (i + 1) * 3) = k by omega])
      rw [show (n + 1) * 3 = n * 3 + 3 by omega]
      simpa using this
    · have := x3.below.size; have := hgrow.size; omega
    · rw [f2 k (by omega)]
      rcases x3.other k (by rw [c3]; have := hgrow.size; omega) with h7 | ⟨t, ht, _⟩
      · rw [h7, c2 k (by omega), hgrow.block k hk (by simp)]
      · simp at ht
  · -- there is room
    have hin : i < n := by omega
    have hA : ∃ g, A = some ⟨g, 0, none⟩ ∧ ∃ cur : Array Value, B ≤ g ∧ w.heap[g]? = some (.cells cur 35 (0, 0)) ∧ cur.toList.take (n * 3) = xs ∧ cur.size = c * 3 ∧ c ≤ maxLen := by
      rcases ho.2 with ⟨h0, h3⟩ | ⟨g, cap, cur, h3, h4, h5, h6, h7, h8, h9⟩
      · omega
      · cases h3
        exact ⟨g, rfl, cur, h4, h5, h9, h8, h7⟩
    obtain ⟨g, rfl, cur, hBg, hg, hcur, hcs, hcm⟩ := hA
    have hgv : g ≠ vb := hne _ rfl
    have eN : ((i : Int)).toNat = i := Int.toNat_natCast i
    have e1N : ((i : Int) + ((1 : Nat) : Int)).toNat = i + 1 := by omega
    have enN : ((n : Int) + ((1 : Nat) : Int)).toNat = n + 1 := by omega
    obtain ⟨L, hL⟩ : ∃ L : List Value, L = cur.toList := ⟨_, rfl⟩
    have hLa : cur = L.toArray := by rw [hL]
    rw [← hL] at hcur
    have hLl : L.length = c * 3 := by rw [hL]; simpa using hcs
    rw [hLa] at hg
    have hgs : ∀ j v, xs[j]? = some v → L[j]? = some v := fun j v hj => by
      rw [← hcur, List.getElem?_take] at hj
      split at hj
      · exact hj
      · cases hj
    have hov := Lib.run_overlaps_apart w 26 4 35 el_Sws.und 3 Tryz.sizeOf35 ⟨vb, 0, none⟩ ⟨g, (i + 1) * 3, none⟩ 1 cc (n + 1 - (i + 1)) (c - (i + 1)) (fun e => hgv e.symm) 35 35 (cc * 3) (c * 3) (by simp [World.shape?, hv, hvs]) (by simp [World.shape?, hg, hLl]) (by omega) (Lib.frozen_of_heap hv _) (Lib.frozen_of_heap hv _)
    have hco : (callFunc 105 #[.slice (some ⟨vb, 0, none⟩) 1 cc, .slice (some ⟨g, (i + 1) * 3, none⟩) (n + 1 - (i + 1)) (c - (i + 1))]).run Tryz.prog w = .ok (.value (.bool false)) w := by
      rw [run_callFunc_extern Tryz.func105 (by kernel_rfl) (by kernel_rfl) (by kernel_rfl) (e := Extern.SlicesOverlaps.overlaps #[26, 26] #[4]) (by kernel_rfl), hov]
      rfl
    rw [e1N, enN, eN]
    have hc1 : n + 1 ≤ c := by omega
    rw [cut3 (by omega), cut3 (by omega)]
    have hxd : (xs.drop (i * 3)).length = (n - i) * 3 := by rw [List.length_drop, hxl]; omega
    refine ⟨by simp only [inR]; omega, by omega, by simp only [inR]; omega, by omega, _, w, hco, Below.refl _ _, Nat.le_refl _, fun k ty cs h => (by cases h), _, rfl, fun _ => ⟨by simp only [inR]; omega, by omega, by omega, fun w1 x1 => ?_⟩, fun h => absurd rfl h⟩
    have g1 : w1.heap[g]? = some (.cells L.toArray 35 (0, 0)) := ext_nil x1 hg
    have v1 : w1.heap[vb]? = some (.cells cv 35 (0, 0)) := ext_nil x1 hv
    refine runOk_copyS el_Sws (cs := xs.drop (i * 3)) (cur := L) (by rw [hxd]; simp only [Nat.min_def]; split <;> omega) (fun j v hj => ?_) g1 (by rw [hxd]; omega) (fun v hv2 => h1 v (List.mem_of_mem_drop hv2)) hBg (by simp) fun w2 c1 c2 c3 c4 => ⟨by omega, ?_⟩
    · rw [List.getElem?_drop] at hj
      have := hgs (i * 3 + j) v hj
      rw [add_plain0]
      simp only [World.cell?, g1]
      simpa using this
    refine runOk_copyS el_Sws (cs := x) (cur := setCells L ((i + 1) * 3) (xs.drop (i * 3))) (by rw [hxn]; simp only [Nat.min_def]; split <;> omega) (hsrcv (by rw [c2 vb (fun e => hgv e.symm)]; exact v1)) c1 (by rw [setCells_len]; omega) hx1 hBg (by simp) fun w3 d1 d2 d3 d4 => ?_
    refine ⟨_, _, rfl, fin _ _ _ ⟨by simp [hxl, hxn]; omega, .inr ⟨g, c, _, rfl, hBg, d1, by omega, hcm, by simp [setCells_len, hLl], ?_⟩⟩, ?_, fun k hk hka => ?_⟩
    · have hlen1 : (i + 1) * 3 + (xs.drop (i * 3)).length ≤ L.length := by rw [hxd]; omega
      have hlen2 : i * 3 + x.length ≤ (setCells L ((i + 1) * 3) (xs.drop (i * 3))).length := by rw [setCells_len]; omega
      have := ins_takeS (L := setCells (setCells L ((i + 1) * 3) (xs.drop (i * 3))) (i * 3) x) (x := x) (p := i * 3) hxl hxn (by omega) (fun k hk => by
          rw [setCells_get _ _ _ _ hlen2, if_neg (by omega), setCells_get _ _ _ _ hlen1, if_neg (by omega)]
          obtain ⟨v, hv3⟩ : ∃ v, xs[k]? = some v := ⟨xs[k]'(by omega), List.getElem?_eq_getElem _⟩
          rw [hv3, hgs k v hv3])
        (fun k hk => by
          rw [setCells_get _ _ _ _ hlen2, if_pos (by omega)]
          rw [show i * 3 + k - i * 3 = k by omega])
        (fun k hk hk2 => by
          rw [setCells_get _ _ _ _ hlen2, if_neg (by omega), setCells_get _ _ _ _ hlen1, if_pos (by rw [hxd]; omega), List.getElem?_drop]
          rw [show i * 3 + (k + 3 - (i + 1) * 3) = k by omega])
      rw [show (n + 1) * 3 = n * 3 + 3 by omega]
      simpa using this
    · have := x1.below.size; omega
    · have hkg : k ≠ g := hka _ rfl
      rw [d2 k hkg, c2 k hkg]
      rcases x1.other k hk with h7 | ⟨t, ht, _⟩
      · exact h7
      · simp at ht
end Go.Proofs.YtdnelnicnjplpaaGreatDoor.B

namespace Go.Proofs.YtdnelnicnjplpaaGreatDoor.B
open Go Go.RowKit Go.Proofs Go.Proofs.YtdnelnicnjplpaaGreatDoor.Vc

def gP (ps : List Pa) (f : Pa → ByteArray) (id : Int) : Rat := match (pix ps id).bind fun i => ps[i]? with | some p => qR (f p) | none => 0
def gH (hs : List Ho) (f : Ho → ByteArray) (id : Int) : Rat := match (hix hs id).bind fun i => hs[i]? with | some h => qR (f h) | none => 0
def tP (ps : List Pa) (f : Pa → ByteArray) (s : Sw) : Rat := (s.units : Rat) * gP ps f s.parcel
def tH (ps : List Pa) (hs : List Ho) (f : Ho → ByteArray) (s : Sw) : Rat := (s.units : Rat) * gP ps Pa.mass s.parcel * gH hs f s.hold
abbrev ldV (a b c x y z : Rat) : Value := .agg #[.string (rS a), .string (rS b), .string (rS c), .string (rS x), .string (rS y), .string (rS z)]
def ldF (ps : List Pa) (hs : List Ho) (l : List Sw) : Value := ldV (sumR (tP ps Pa.mass) l) (sumR (tP ps Pa.vol) l) (sumR (tP ps Pa.worth) l) (sumR (tH ps hs Ho.x) l) (sumR (tH ps hs Ho.y) l) (sumR (tH ps hs Ho.z) l)
theorem gP_at {ps : List Pa} {id : Int} {i : Nat} {p : Pa} (h : pix ps id = some i) (e : ps[i]? = some p) (f : Pa → ByteArray) : gP ps f id = qR (f p) := by
  unfold gP; rw [h, Option.bind_some, e]
theorem gH_at {hs : List Ho} {id : Int} {i : Nat} {p : Ho} (h : hix hs id = some i) (e : hs[i]? = some p) (f : Ho → ByteArray) : gH hs f id = qR (f p) := by
  unfold gH; rw [h, Option.bind_some, e]
theorem sumR_snoc (f : Sw → Rat) (l : List Sw) (s : Sw) : sumR f (l ++ [s]) = sumR f l + f s := by rw [sumR_append, sumR_one]
theorem pix_lt {ps : List Pa} {id : Int} {i : Nat} (h : pix ps id = some i) : ∃ hi : i < ps.length, ps[i].id = id := by
  obtain ⟨p, e, k⟩ := pix_some h
  obtain ⟨hi, rfl⟩ := List.getElem?_eq_some_iff.1 e
  exact ⟨hi, k⟩
theorem hix_lt {hs : List Ho} {id : Int} {i : Nat} (h : hix hs id = some i) : ∃ hi : i < hs.length, hs[i].id = id := by
  obtain ⟨p, e, k⟩ := hix_some h
  obtain ⟨hi, rfl⟩ := List.getElem?_eq_some_iff.1 e
  exact ⟨hi, k⟩
structure LdOk (ps : List Pa) (hs : List Ho) (l : List Sw) : Prop where
  c : RightC ps hs
  known : ∀ s ∈ l, ∃ i k, pix ps s.parcel = some i ∧ hix hs s.hold = some k
  u : ∀ s ∈ l, 1 ≤ s.units ∧ s.units ≤ 9
  n : l.length ≤ 40
theorem LdOk.filter {ps : List Pa} {hs : List Ho} {l : List Sw} (h : LdOk ps hs l) (q : Sw → Bool) : LdOk ps hs (l.filter q) :=
  ⟨h.c, fun s hs' => h.known s (List.mem_filter.1 hs').1, fun s hs' => h.u s (List.mem_filter.1 hs').1, Nat.le_trans (List.length_filter_le _ _) h.n⟩
theorem units_mem {l : List Sw} (h : ∀ s ∈ l, 1 ≤ s.units) {s : Sw} (hs : s ∈ l) : s.units ≤ unitsF l s.parcel := by
  obtain ⟨a, b, rfl⟩ := List.append_of_mem hs
  rw [show a ++ s :: b = a ++ ([s] ++ b) from rfl, unitsF_append, unitsF_append, unitsF_one, if_pos rfl]
  have h1 := unitsF_nonneg (l := a) (fun x hx => h x (by simp [hx])) s.parcel
  have h2 := unitsF_nonneg (l := b) (fun x hx => h x (by simp [hx])) s.parcel
  omega
theorem RightS.ld {ps : List Pa} {hs : List Ho} {l : List Sw} (h : RightS ps hs l) (hn : l.length ≤ 40) : LdOk ps hs l := by
  refine ⟨h.c, h.known, fun s hs' => ⟨h.pos s hs', ?_⟩, hn⟩
  obtain ⟨i, k, hi, _⟩ := h.known s hs'
  obtain ⟨p, e, hid⟩ := pix_some hi
  have hm := List.mem_of_getElem? e
  have h1 := h.full p hm
  have h2 := units_mem h.pos hs'
  have h3 := (h.c.p1 p hm).2.1.2
  rw [hid] at h1
  omega
theorem sm_n {z : Int} (h1 : 1 ≤ z) (h9 : z ≤ 9) : Sm 1 (z : Rat) := Sm.ofInt (by omega) (by omega)
theorem sm_sum {f : Sw → Rat} {l : List Sw} (h : ∀ s ∈ l, Sm 2001 (f s)) : Sm (2002 * l.length + 1) (sumR f l) := by
  induction l with
  | nil => exact Sm.zero (by omega)
  | cons s r ih =>
    rw [show s :: r = [s] ++ r from rfl, sumR_append, sumR_one]
    refine ((h s (by simp)).add (ih fun x hx => h x (by simp [hx]))).mono ?_
    simp
    omega

section
variable {w0 : World} {A0 A1 A : Option Addr} {n0 c0 n1 c1 n c : Nat} {ps : List Pa} {hs : List Ho} {l : List Sw} {R : Value → World → Prop}
theorem LdOk.smP (h : LdOk ps hs l) (hc : CgIn w0 A0 n0 A1 n1 ps hs) {s : Sw} (hs' : s ∈ l) : Sm 1000 (gP ps Pa.mass s.parcel) ∧ Sm 1000 (gP ps Pa.vol s.parcel) ∧ Sm 1000 (gP ps Pa.worth s.parcel) := by
  obtain ⟨i, k, hi, _⟩ := h.known s hs'
  obtain ⟨p, e, _⟩ := pix_some hi
  have hm := List.mem_of_getElem? e
  have hv := h.c.vp p hm
  have hsm := hc.sp p hm
  unfold vP at hv
  simp only [Bool.and_eq_true] at hv
  rw [gP_at hi e, gP_at hi e, gP_at hi e]
  exact ⟨vR_sm hv.1.1 hsm.mass, vR_sm hv.1.2 hsm.vol, vR_sm hv.2 hsm.worth⟩
theorem LdOk.smH (h : LdOk ps hs l) (hc : CgIn w0 A0 n0 A1 n1 ps hs) {s : Sw} (hs' : s ∈ l) : Sm 1000 (gH hs Ho.x s.hold) ∧ Sm 1000 (gH hs Ho.y s.hold) ∧ Sm 1000 (gH hs Ho.z s.hold) := by
  obtain ⟨_, i, _, hi⟩ := h.known s hs'
  obtain ⟨p, e, _⟩ := hix_some hi
  have hm := List.mem_of_getElem? e
  have hv := h.c.vh p hm
  have hsm := hc.sh p hm
  unfold vH at hv
  simp only [Bool.and_eq_true] at hv
  rw [gH_at hi e, gH_at hi e, gH_at hi e]
  exact ⟨vR_sm hv.1.1.2 hsm.x, vR_sm hv.1.2 hsm.y, vR_sm hv.2 hsm.z⟩
theorem LdOk.smT (h : LdOk ps hs l) (hc : CgIn w0 A0 n0 A1 n1 ps hs) {s : Sw} (hs' : s ∈ l) :
    (Sm 2001 (tP ps Pa.mass s) ∧ Sm 2001 (tP ps Pa.vol s) ∧ Sm 2001 (tP ps Pa.worth s)) ∧ (Sm 2001 (tH ps hs Ho.x s) ∧ Sm 2001 (tH ps hs Ho.y s) ∧ Sm 2001 (tH ps hs Ho.z s)) := by
  obtain ⟨a, b, d⟩ := h.smP hc hs'
  obtain ⟨x, y, z⟩ := h.smH hc hs'
  have hn := sm_n (h.u s hs').1 (h.u s hs').2
  exact ⟨⟨(hn.mul a).mono (by omega), (hn.mul b).mono (by omega), (hn.mul d).mono (by omega)⟩, ((hn.mul a).mul x).mono (by omega), ((hn.mul a).mul y).mono (by omega), ((hn.mul a).mul z).mono (by omega)⟩
theorem LdOk.smL (h : LdOk ps hs l) (hc : CgIn w0 A0 n0 A1 n1 ps hs) :
    (Big (sumR (tP ps Pa.mass) l) ∧ Big (sumR (tP ps Pa.vol) l) ∧ Big (sumR (tP ps Pa.worth) l)) ∧ (Big (sumR (tH ps hs Ho.x) l) ∧ Big (sumR (tH ps hs Ho.y) l) ∧ Big (sumR (tH ps hs Ho.z) l)) := by
  have hn := h.n
  exact ⟨⟨(sm_sum fun s hs' => (h.smT hc hs').1.1).mono (by omega), (sm_sum fun s hs' => (h.smT hc hs').1.2.1).mono (by omega), (sm_sum fun s hs' => (h.smT hc hs').1.2.2).mono (by omega)⟩,
    (sm_sum fun s hs' => (h.smT hc hs').2.1).mono (by omega), (sm_sum fun s hs' => (h.smT hc hs').2.2.1).mono (by omega), (sm_sum fun s hs' => (h.smT hc hs').2.2.2).mono (by omega)⟩
theorem LdOk.take (h : LdOk ps hs l) (i : Nat) : LdOk ps hs (l.take i) :=
  ⟨h.c, fun s hs' => h.known s (List.mem_of_mem_take hs'), fun s hs' => h.u s (List.mem_of_mem_take hs'), by have := h.n; rw [List.length_take]; omega⟩

theorem laden_L3 (hg : Glob w0) (hc : CgIn w0 A0 n0 A1 n1 ps hs) (h : SlR w0 A 3 (l.map Sw.row)) (hl : l.length = n) (hok : LdOk ps hs l) (t0 t1 t2 t3 t4 t5 : ByteArray) :
    ∀ (d i : Nat) (w : World), n - i = d → i ≤ n → Below w0.heap.size w0 w →
      F.cargo_laden.L3 A n c n i A0 n0 c0 A1 n1 c1 t0 t1 t2 t3 t4 t5 (rS (sumR (tP ps Pa.mass) (l.take i))) (rS (sumR (tP ps Pa.vol) (l.take i))) (rS (sumR (tP ps Pa.worth) (l.take i))) (rS (sumR (tH ps hs Ho.x) (l.take i))) (rS (sumR (tH ps hs Ho.y) (l.take i))) (rS (sumR (tH ps hs Ho.z) (l.take i))) w0.heap.size w fun v _ => v = ldF ps hs l := by
  intro d
  induction d with
  | zero =>
    intro i w hd hi hw
    refine F.cargo_laden.L3.step _ _ _ _ _ _ _ _ _ _ _ _ _ _ _ _ _ _ _ _ _ _ _ _ _ _ ⟨fun h => by omega, fun _ w2 _ => ?_⟩
    rw [List.take_of_length_le (by omega)]
    rfl
  | succ d ih =>
    intro i w hd hi hw
    have hil : i < l.length := by omega
    have hn40 := hok.n
    have e3 : (i : Int) + 1 = ((i + 1 : Nat) : Int) := by omega
    have et : l.take (i + 1) = l.take i ++ [l[i]] := by rw [List.take_add_one, List.getElem?_eq_getElem hil]; rfl
    have hmem : l[i] ∈ l := List.getElem_mem hil
    obtain ⟨ip, ih', hip, hih⟩ := hok.known l[i] hmem
    obtain ⟨hpl, hpid⟩ := pix_lt hip
    obtain ⟨hhl, hhid⟩ := hix_lt hih
    obtain ⟨⟨b1, b2, b3⟩, b4, b5, b6⟩ := (hok.take i).smL hc
    obtain ⟨m1, m2, m3⟩ := hok.smP hc hmem
    obtain ⟨m4, m5, m6⟩ := hok.smH hc hmem
    obtain ⟨⟨k1, k2, k3⟩, k4, k5, k6⟩ := hok.smT hc hmem
    have hu := hok.u l[i] hmem
    have hun := sm_n hu.1 hu.2
    have hunB : Big ((l[i].units : Int) : Rat) := hun.mono (by omega)
    have hvp := hok.c.vp _ (List.getElem_mem hpl)
    have hvh := hok.c.vh _ (List.getElem_mem hhl)
    unfold vP at hvp
    unfold vH at hvh
    simp only [Bool.and_eq_true] at hvp hvh
    have p1 : ps[ip].mass = rS (gP ps Pa.mass l[i].parcel) := by rw [gP_at hip (List.getElem?_eq_getElem hpl)]; exact vR_eq hvp.1.1
    have p2 : ps[ip].vol = rS (gP ps Pa.vol l[i].parcel) := by rw [gP_at hip (List.getElem?_eq_getElem hpl)]; exact vR_eq hvp.1.2
    have p3 : ps[ip].worth = rS (gP ps Pa.worth l[i].parcel) := by rw [gP_at hip (List.getElem?_eq_getElem hpl)]; exact vR_eq hvp.2
    have p4 : hs[ih'].x = rS (gH hs Ho.x l[i].hold) := by rw [gH_at hih (List.getElem?_eq_getElem hhl)]; exact vR_eq hvh.1.1.2
    have p5 : hs[ih'].y = rS (gH hs Ho.y l[i].hold) := by rw [gH_at hih (List.getElem?_eq_getElem hhl)]; exact vR_eq hvh.1.2
    have p6 : hs[ih'].z = rS (gH hs Ho.z l[i].hold) := by rw [gH_at hih (List.getElem?_eq_getElem hhl)]; exact vR_eq hvh.2
    have big : ∀ {x : Rat}, Sm 2001 x → Big x := fun h => h.mono (by omega)
    have bg : ∀ {x : Rat}, Sm 1000 x → Big x := fun h => h.mono (by omega)
    have fin : ∀ (w : World) (a b : Int), Below w0.heap.size w0 w →
        F.cargo_laden.J6 A n c n i A0 n0 c0 A1 n1 c1 t0 t1 t2 t3 t4 t5 (rS (sumR (tP ps Pa.mass) (l.take i))) (rS (sumR (tP ps Pa.vol) (l.take i))) (rS (sumR (tP ps Pa.worth) (l.take i))) (rS (sumR (tH ps hs Ho.x) (l.take i))) (rS (sumR (tH ps hs Ho.y) (l.take i))) (rS (sumR (tH ps hs Ho.z) (l.take i)))
          l[i].hold l[i].parcel l[i].units ps[ip].id a b ps[ip].name ps[ip].mass ps[ip].vol ps[ip].worth hs[ih'].x hs[ih'].y hs[ih'].z w0.heap.size w fun v _ => v = ldF ps hs l := by
      intro w a b hw
      rw [p1, p2, p3, p4, p5, p6]
      have next : ∀ w', Below w0.heap.size w0 w' → F.cargo_laden.L3 A n c n ((i : Int) + 1) A0 n0 c0 A1 n1 c1 t0 t1 t2 t3 t4 t5 (rS (sumR (tP ps Pa.mass) (l.take i) + tP ps Pa.mass l[i])) (rS (sumR (tP ps Pa.vol) (l.take i) + tP ps Pa.vol l[i])) (rS (sumR (tP ps Pa.worth) (l.take i) + tP ps Pa.worth l[i])) (rS (sumR (tH ps hs Ho.x) (l.take i) + tH ps hs Ho.x l[i])) (rS (sumR (tH ps hs Ho.y) (l.take i) + tH ps hs Ho.y l[i])) (rS (sumR (tH ps hs Ho.z) (l.take i) + tH ps hs Ho.z l[i])) w0.heap.size w' fun v _ => v = ldF ps hs l := by
        intro w' hw'
        have := ih (i + 1) w' (by omega) (by omega) hw'
        rw [et] at this
        simp only [sumR_snoc] at this
        rw [e3]
        exact this
      unfold tP tH at *
      refine F.cargo_laden.J6.step _ _ _ _ _ _ _ _ _ _ _ _ _ _ _ _ _ _ _ _ _ _ _ _ _ _ _ _ _ _ _ _ _ _ _ _ _ _ _ (Pure.mono (cargo_number (hg.next hw) (by omega) (by omega)) ?_)
      rintro v w1 h1 rfl
      have hw := kP hw h1; clear h1
      refine ⟨_, rfl, Pure.mono (cargo_mul (hg.next hw) hunB (bg m1)) ?_⟩
      rintro v w2 h1 rfl
      have hw := kP hw h1; clear h1
      refine ⟨_, rfl, fun w3 x3 => ?_⟩
      have hw := kE hw x3; clear x3
      refine Pure.mono (cargo_add (hg.next hw) b1 (big k1)) ?_
      rintro v w4 h1 rfl
      have hw := kP hw h1; clear h1
      refine ⟨_, rfl, Pure.mono (cargo_mul (hg.next hw) hunB (bg m2)) ?_⟩
      rintro v w5 h1 rfl
      have hw := kP hw h1; clear h1
      refine ⟨_, rfl, Pure.mono (cargo_add (hg.next hw) b2 (big k2)) ?_⟩
      rintro v w6 h1 rfl
      have hw := kP hw h1; clear h1
      refine ⟨_, rfl, Pure.mono (cargo_mul (hg.next hw) hunB (bg m3)) ?_⟩
      rintro v w7 h1 rfl
      have hw := kP hw h1; clear h1
      refine ⟨_, rfl, Pure.mono (cargo_add (hg.next hw) b3 (big k3)) ?_⟩
      rintro v w8 h1 rfl
      have hw := kP hw h1; clear h1
      refine ⟨_, rfl, fun w9 x9 => ?_⟩
      have hw := kE hw x9; clear x9
      refine Pure.mono (cargo_mul (hg.next hw) (big k1) (bg m4)) ?_
      rintro v w10 h1 rfl
      have hw := kP hw h1; clear h1
      refine ⟨_, rfl, Pure.mono (cargo_add (hg.next hw) b4 (big k4)) ?_⟩
      rintro v w11 h1 rfl
      have hw := kP hw h1; clear h1
      refine ⟨_, rfl, Pure.mono (cargo_mul (hg.next hw) (big k1) (bg m5)) ?_⟩
      rintro v w12 h1 rfl
      have hw := kP hw h1; clear h1
      refine ⟨_, rfl, Pure.mono (cargo_add (hg.next hw) b5 (big k5)) ?_⟩
      rintro v w13 h1 rfl
      have hw := kP hw h1; clear h1
      refine ⟨_, rfl, Pure.mono (cargo_mul (hg.next hw) (big k1) (bg m6)) ?_⟩
      rintro v w14 h1 rfl
      have hw := kP hw h1; clear h1
      refine ⟨_, rfl, Pure.mono (cargo_add (hg.next hw) b6 (big k6)) ?_⟩
      rintro v w15 h1 rfl
      have hw := kP hw h1; clear h1
      refine ⟨_, rfl, by simp only [inR]; omega, fun w16 x16 => ?_⟩
      exact next w16 (kE hw x16)
    clear ih
    obtain ⟨hb, a, hA, hcell, _⟩ := (h.keep hw (Nat.le_refl _)).at_ (fun _ => rfl) hl hil
    obtain ⟨hbp, ap, hAp, _⟩ := hc.p.at_ (fun _ => rfl) hc.lp hpl
    obtain ⟨hbh, ah, hAh, _⟩ := hc.h.at_ (fun _ => rfl) hc.lh hhl
    have cP : ∀ w, Below w0.heap.size w0 w → CellsAt w (ap.add ((ip : Int).toNat * 7)) (ps[ip].row) := fun w hw => by
      obtain ⟨_, a', hA', hc', _⟩ := (hc.p.keep hw (Nat.le_refl _)).at_ (fun _ => rfl) hc.lp hpl
      rw [hAp] at hA'
      cases hA'
      exact hc'
    have cH : ∀ w, Below w0.heap.size w0 w → CellsAt w ((ah.add ((ih' : Int).toNat * 7)).add 4) [.string hs[ih'].x, .string hs[ih'].y, .string hs[ih'].z] := fun w hw => by
      obtain ⟨_, a', hA', hc', _⟩ := (hc.h.keep hw (Nat.le_refl _)).at_ (fun _ => rfl) hc.lh hhl
      rw [hAh] at hA'
      cases hA'
      exact cells_part hc' 4 3
    refine F.cargo_laden.L3.step _ _ _ _ _ _ _ _ _ _ _ _ _ _ _ _ _ _ _ _ _ _ _ _ _ _ ⟨fun _ => ⟨hb, a, hA, _, _, _, hcell, fun w6 x6 => ?_⟩, fun h => by omega⟩
    have hw6 := kE hw x6
    have par : ∀ w, Below w0.heap.size w0 w → Pure Tryz.prog 51 #[.agg #[.slice A0 n0 c0, .slice A1 n1 c1], .int .i64 l[i].parcel] w fun v _ => v = .int .i64 (ip : Int) := fun w hw => by
      have := cargo_parcel (c0 := c0) (c1 := c1) (hc.keep hw) l[i].parcel
      rw [hip] at this
      exact this
    have hol : ∀ w, Below w0.heap.size w0 w → Pure Tryz.prog 52 #[.agg #[.slice A0 n0 c0, .slice A1 n1 c1], .int .i64 l[i].hold] w fun v _ => v = .int .i64 (ih' : Int) := fun w hw => by
      have := cargo_hold (c0 := c0) (c1 := c1) (hc.keep hw) l[i].hold
      rw [hih] at this
      exact this
    have leafA : ∀ (w : World), Below w0.heap.size w0 w → ∃ s25 s26 s27 : ByteArray, CellsAt w ((ah.add ((ih' : Int).toNat * 7)).add 4) [.string s25, .string s26, .string s27] ∧ ∀ (ts : List Nat) w28, Ext w0.heap.size ts w w28 → F.cargo_laden.J6 A n c n i A0 n0 c0 A1 n1 c1 t0 t1 t2 t3 t4 t5 (rS (sumR (tP ps Pa.mass) (l.take i))) (rS (sumR (tP ps Pa.vol) (l.take i))) (rS (sumR (tP ps Pa.worth) (l.take i))) (rS (sumR (tH ps hs Ho.x) (l.take i))) (rS (sumR (tH ps hs Ho.y) (l.take i))) (rS (sumR (tH ps hs Ho.z) (l.take i)))
          l[i].hold l[i].parcel l[i].units ps[ip].id ps[ip].units ps[ip].cls ps[ip].name ps[ip].mass ps[ip].vol ps[ip].worth s25 s26 s27 w0.heap.size w28 fun v _ => v = ldF ps hs l :=
      fun w hw => ⟨_, _, _, cH w hw, fun ts w28 x => fin w28 _ _ (kE hw x)⟩
    have leaf2 : ∀ (ts ts' : List Nat) (w : World), Below w0.heap.size w0 w → ∀ w24, Ext w0.heap.size ts w w24 → ∃ s25 s26 s27 : ByteArray, CellsAt w24 ((ah.add ((ih' : Int).toNat * 7)).add 4) [.string s25, .string s26, .string s27] ∧ ∀ w28, Ext w0.heap.size ts' w24 w28 → F.cargo_laden.J6 A n c n i A0 n0 c0 A1 n1 c1 t0 t1 t2 t3 t4 t5 (rS (sumR (tP ps Pa.mass) (l.take i))) (rS (sumR (tP ps Pa.vol) (l.take i))) (rS (sumR (tP ps Pa.worth) (l.take i))) (rS (sumR (tH ps hs Ho.x) (l.take i))) (rS (sumR (tH ps hs Ho.y) (l.take i))) (rS (sumR (tH ps hs Ho.z) (l.take i)))
          l[i].hold l[i].parcel l[i].units ps[ip].id ps[ip].units ps[ip].cls ps[ip].name ps[ip].mass ps[ip].vol ps[ip].worth s25 s26 s27 w0.heap.size w28 fun v _ => v = ldF ps hs l :=
      fun ts ts' w hw w24 x => by
        obtain ⟨s1, s2, s3, e, f⟩ := leafA w24 (kE hw x)
        exact ⟨s1, s2, s3, e, fun w28 x28 => f ts' w28 x28⟩
    clear fin
    refine ⟨fun w7 x7 => ?_, fun w55 x55 => ?_⟩
    · have hw7 := kE hw6 x7
      refine Pure.mono (par w7 hw7) ?_
      rintro v w10 h10 rfl
      have hw10 := kP hw7 h10
      refine ⟨_, rfl, hbp, ap, hAp, _, _, _, _, _, _, _, cP w6 hw6, fun w19 x19 => ?_, fun w34 x34 => ?_⟩
      · have hw19 := kE hw10 x19
        refine Pure.mono (hol w19 hw19) ?_
        rintro v w22 h22 rfl
        have hw22 := kP hw19 h22
        exact ⟨_, rfl, hbh, ah, hAh, leaf2 _ _ w22 hw22, leaf2 _ _ w22 hw22⟩
      · have hw34 := kE hw10 x34
        refine Pure.mono (hol w34 hw34) ?_
        rintro v w37 h37 rfl
        have hw37 := kP hw34 h37
        exact ⟨_, rfl, ⟨hbh, ah, hAh, leaf2 _ _ w37 hw37, leaf2 _ _ w37 hw37⟩, hbh, ah, hAh, leaf2 _ _ w37 hw37⟩
    · have hw55 := kE hw6 x55
      refine Pure.mono (par w55 hw55) ?_
      rintro v w58 h58 rfl
      have hw58 := kP hw55 h58
      refine ⟨_, rfl, hbp, ap, hAp, _, _, _, _, _, _, _, cP w6 hw6, fun w67 x67 => ?_⟩
      have hw67 := kE hw58 x67
      refine Pure.mono (hol w67 hw67) ?_
      rintro v w70 h70 rfl
      have hw70 := kP hw67 h70
      exact ⟨_, rfl, hbh, ah, hAh, leaf2 _ _ w70 hw70, leaf2 _ _ w70 hw70⟩
theorem cargo_laden (hg : Glob w0) (hc : CgIn w0 A0 n0 A1 n1 ps hs) (h : SlR w0 A 3 (l.map Sw.row)) (hl : l.length = n) (hok : LdOk ps hs l) :
    Pure Tryz.prog 58 #[.agg #[.slice A0 n0 c0, .slice A1 n1 c1], .slice A n c] w0 fun v _ => v = ldF ps hs l := by
  refine F.cargo_laden.vc _ _ _ _ _ _ _ _ _ _ _ fun w1 x1 => ?_
  have := laden_L3 (c := c) (c0 := c0) (c1 := c1) hg hc h hl hok (⟨#[]⟩) (⟨#[]⟩) (⟨#[]⟩) (⟨#[]⟩) (⟨#[]⟩) (⟨#[]⟩) n 0 w1 rfl (by omega) (k0 x1)
  simp only [List.take_zero, sumR_nil, ← s0] at this
  exact this
end

theorem CloneS {w : World} {A : Option Addr} {n c : Nat} {l : List Sw} (h : SlR w A 3 (l.map Sw.row)) (hlen : l.length = n) (hn : n ≤ 1000000) :
    Pure Tryz.prog 17 #[.slice A n c] w fun v w' => ∃ A' c', v = .slice A' n c' ∧ OwnR w' w.heap.size 35 A' n c' 3 (l.map Sw.row) := by
  refine F.slices_Clone_api_Stow_api_Stow.vc _ _ _ _ _ ⟨fun hA => ?_, fun hA => ?_⟩
  · subst hA
    have := h.none_nil
    simp at this
    subst this
    simp at hlen
    subst hlen
    exact ⟨none, 0, rfl, OwnR.nil⟩
  · obtain ⟨a, rfl⟩ := Option.ne_none_iff_exists'.1 hA
    refine runOk_lit el_Sws [] (by simp) (by simp) (Nat.le_refl _) fun A2 c2 w2 ho b2 => ?_
    refine app_rows el_Sws (Nat.le_refl _) (by simpa using ho) (h.below b2) (by simpa using hlen) (fun r hr => by obtain ⟨s, _, rfl⟩ := List.mem_map.1 hr; rfl) (fun r hr => by obtain ⟨s, _, rfl⟩ := List.mem_map.1 hr; intro u hu; simp [Sw.row] at hu; rcases hu with rfl | rfl | rfl <;> rfl) b2.size (by simp; omega) (by simp) fun A' c' w3 o3 _ b3 => ?_
    simp only [List.length_nil, Nat.zero_add, List.nil_append] at o3 ⊢
    exact ⟨A', c', rfl, o3⟩
def inS (l : List Sw) (id : Int) : List Sw := l.filter fun s => decide (s.hold = id)
theorem cargo_in {w : World} {A : Option Addr} {n c : Nat} {l : List Sw} (h : SlR w A 3 (l.map Sw.row)) (hlen : l.length = n) (hn : n ≤ 1000000) (id : Int) :
    Pure Tryz.prog 59 #[.slice A n c, .int .i64 id] w fun v w' => ∃ A' m c', v = .slice A' m c' ∧ SlR w' A' 3 ((inS l id).map Sw.row) ∧ (inS l id).length = m := by
  refine F.cargo_in.vc _ _ _ _ _ _ fun w1 x1 => ?_
  have hw1 := k0 x1
  refine Pure.mono (CloneS (h.keep hw1 (Nat.le_refl _)) hlen hn) ?_
  rintro v w4 b4 ⟨A', c', rfl, ho⟩
  refine ⟨_, _, _, rfl, fun p5 hp5 hbox => ?_⟩
  have hw4 := kP hw1 b4
  have hne : ∀ a, A' = some a → p5 ≠ a.block := fun a ha e => by
    obtain ⟨cs, hcs⟩ := ho.cells a ha
    rw [← e, hbox] at hcs
    simp at hcs
  have hlt : p5 < w4.heap.size := (Array.getElem?_eq_some_iff.1 hbox).1
  refine PureB.mono (DeleteFuncS (p := fun s => decide (s.hold ≠ id)) hw4.size (ho.base hw1.size) (by omega) (by kernel_rfl) fun w' hoth x => ?_) ?_
  · refine F.cargo_in_c1.vc _ _ _ _ _ _ fun w5 x5 => ⟨_, box_all (ty := 3) ?_, rfl⟩
    exact (k0 x5).block p5 (Nat.lt_of_lt_of_le hlt hoth.1) |>.trans ((hoth.2 p5 hlt hne).trans hbox)
  · rintro v w8 b8 ⟨m, rfl, o8, _⟩
    refine ⟨fun _ _ _ ht => (by cases ht), _, _, _, rfl, _, _, _, rfl, ?_⟩
    have e : (l.filter fun x => !(decide (x.hold ≠ id))) = inS l id := by
      unfold inS
      refine List.filter_congr fun s _ => ?_
      by_cases h : s.hold = id <;> simp [h]
    rw [e] at o8
    exact ⟨o8.sl, by simpa using o8.len⟩
end Go.Proofs.YtdnelnicnjplpaaGreatDoor.B

namespace Go.Proofs.YtdnelnicnjplpaaGreatDoor.B
open Go Go.RowKit Go.Proofs Go.Proofs.YtdnelnicnjplpaaGreatDoor.Vc

abbrev ld0 : Value := .agg #[.string ⟨#[]⟩, .string ⟨#[]⟩, .string ⟨#[]⟩, .string ⟨#[]⟩, .string ⟨#[]⟩, .string ⟨#[]⟩]
def heldV (ps : List Pa) (hs : List Ho) (l : List Sw) (id : Int) : Value :=
  if stowedF ps hs l ≠ 0 then .tuple #[ld0, .int .i64 1] else if hix hs id = none then .tuple #[ld0, .int .i64 7] else .tuple #[ldF ps hs (inS l id), .int .i64 0]
def totalV (ps : List Pa) (hs : List Ho) (l : List Sw) : Value :=
  if stowedF ps hs l ≠ 0 then .tuple #[ld0, .int .i64 1] else .tuple #[ldF ps hs l, .int .i64 0]
def overB (ps : List Pa) (_ : List Ho) (l : List Sw) (h : Ho) : Bool :=
  decide (qR h.most < sumR (tP ps Pa.mass) (inS l h.id)) || decide (qR h.room < sumR (tP ps Pa.vol) (inS l h.id))
def overV (ps : List Pa) (hs : List Ho) (l : List Sw) : Value :=
  if stowedF ps hs l ≠ 0 then .tuple #[.int .i64 0, .int .i64 1] else .tuple #[.int .i64 (ixI (hs.findIdx? (overB ps hs l))), .int .i64 0]
theorem ixI_neg {o : Option Nat} : ixI o < 0 ↔ o = none := by cases o <;> simp [ixI]

section
variable {w : World} {A0 A1 A : Option Addr} {n0 c0 n1 c1 n c : Nat} {ps : List Pa} {hs : List Ho} {l : List Sw}
theorem cargo_Held (hg : Glob w) (hc : CgIn w A0 n0 A1 n1 ps hs) (h : SlR w A 3 (l.map Sw.row)) (hl : l.length = n) (hnc : n ≤ c) (hn : n ≤ 40) (id : Int) :
    Pure Tryz.prog 19 #[.agg #[.slice A0 n0 c0, .slice A1 n1 c1], .slice A n c, .int .i64 id] w fun v _ => v = heldV ps hs l id := by
  refine F.cargo_Held.vc _ _ _ _ _ _ _ _ _ _ _ _ fun w1 x1 => ?_
  have hw := k0 x1
  refine Pure.mono (cargo_Stowed (hg.next hw) (hc.keep hw) (h.keep hw (Nat.le_refl _)) hl hnc (by omega)) ?_
  rintro v w4 b4 rfl
  have hw := kP hw b4
  unfold heldV
  refine ⟨_, rfl, fun h0 w5 _ => by rw [if_pos h0], fun h0 => ?_⟩
  rw [if_neg h0]
  have hok := (stowed_right (Decidable.not_not.1 h0)).ld (by omega)
  refine Pure.mono (cargo_hold (hc.keep hw) id) ?_
  rintro v w8 b8 rfl
  have hw := kP hw b8
  refine ⟨_, rfl, fun h1 w9 _ => by rw [if_pos (ixI_neg.1 h1)], fun h1 w10 x10 => ?_⟩
  rw [if_neg (fun k => h1 (ixI_neg.2 k))]
  have hw := kE hw x10
  refine Pure.mono (cargo_in (h.keep hw (Nat.le_refl _)) hl (by omega) id) ?_
  rintro v w13 b13 ⟨A', m, c', rfl, hi, hil⟩
  have hw := kP hw b13
  refine ⟨_, _, _, rfl, Pure.mono (cargo_laden (hg.next hw) (hc.keep hw) hi hil (hok.filter _)) ?_⟩
  rintro v w21 b21 rfl
  exact ⟨_, _, _, _, _, _, rfl, fun w22 _ => rfl⟩
theorem cargo_Total (hg : Glob w) (hc : CgIn w A0 n0 A1 n1 ps hs) (h : SlR w A 3 (l.map Sw.row)) (hl : l.length = n) (hnc : n ≤ c) (hn : n ≤ 40) :
    Pure Tryz.prog 21 #[.agg #[.slice A0 n0 c0, .slice A1 n1 c1], .slice A n c] w fun v _ => v = totalV ps hs l := by
  refine F.cargo_Total.vc _ _ _ _ _ _ _ _ _ _ _ fun w1 x1 => ?_
  have hw := k0 x1
  refine Pure.mono (cargo_Stowed (hg.next hw) (hc.keep hw) (h.keep hw (Nat.le_refl _)) hl hnc (by omega)) ?_
  rintro v w4 b4 rfl
  have hw := kP hw b4
  unfold totalV
  refine ⟨_, rfl, fun h0 w5 _ => by rw [if_pos h0], fun h0 => ?_⟩
  rw [if_neg h0]
  have hok := (stowed_right (Decidable.not_not.1 h0)).ld (by omega)
  refine Pure.mono (cargo_laden (hg.next hw) (hc.keep hw) (h.keep hw (Nat.le_refl _)) hl hok) ?_
  rintro v w21 b21 rfl
  exact ⟨_, _, _, _, _, _, rfl, fun w22 _ => rfl⟩
theorem over_c1 (hg : Glob w) (hc : CgIn w A0 n0 A1 n1 ps hs) (h : SlR w A 3 (l.map Sw.row)) (hl : l.length = n) (hok : LdOk ps hs l) {q0 q1 : Addr} (hq0 : ∀ w', Below w.heap.size w w' → CellsAt w' q0 [.slice A0 n0 c0, .slice A1 n1 c1]) (hq1 : ∀ w', Below w.heap.size w w' → CellsAt w' q1 [.slice A n c]) {x : Ho} (hx : x ∈ hs) :
    Pure Tryz.prog 62 #[x.val, .pointer (some q0), .pointer (some q1)] w fun v _ => v = .bool (overB ps hs l x) := by
  have hn := hok.n
  have hvh := hok.c.vh x hx
  unfold vH at hvh
  simp only [Bool.and_eq_true] at hvh
  have hsm := hc.sh x hx
  have bm : Big (qR x.most) := hsm.most.big hvh.1.1.1.2
  have br : Big (qR x.room) := hsm.room.big hvh.1.1.1.1
  have em : x.most = rS (qR x.most) := vR_eq hvh.1.1.1.2
  have er : x.room = rS (qR x.room) := vR_eq hvh.1.1.1.1
  obtain ⟨⟨b1, b2, b3⟩, b4, b5, b6⟩ := (hok.filter fun s => decide (s.hold = x.id)).smL hc
  have cmp : ∀ w', Below w.heap.size w w' → Pure Tryz.prog 63 #[.string (rS (sumR (tP ps Pa.mass) (inS l x.id))), .string x.most] w' fun r w2 => ∃ i : Int, r = .int .i64 i ∧ ((i > 0 → (fun (v : Value) (_ : World) => v = .bool (overB ps hs l x)) (.bool true) w2) ∧ (¬ i > 0 →
      Pure Tryz.prog 63 #[.string (rS (sumR (tP ps Pa.vol) (inS l x.id))), .string x.room] w2 fun r w3 => ∃ i : Int, r = .int .i64 i ∧ (fun (v : Value) (_ : World) => v = .bool (overB ps hs l x)) (.bool (decide (i > 0))) w3)) := by
    intro w' hw
    have c1 := cargo_compare (hg.next hw) b1 bm
    rw [← em] at c1
    refine Pure.mono c1 ?_
    rintro v w2 h2 rfl
    have hw := kP hw h2
    refine ⟨_, rfl, fun k => ?_, fun k => ?_⟩
    · have := cmpR_gt.1 k
      show Value.bool true = _
      unfold overB
      rw [show (decide (qR x.most < sumR (tP ps Pa.mass) (inS l x.id))) = true from decide_eq_true this]
      rfl
    · have c2 := cargo_compare (hg.next hw) b2 br
      rw [← er] at c2
      refine Pure.mono c2 ?_
      rintro v w3 h3 rfl
      refine ⟨_, rfl, ?_⟩
      show Value.bool _ = _
      unfold overB
      rw [show (decide (qR x.most < sumR (tP ps Pa.mass) (inS l x.id))) = false from decide_eq_false fun h => k (cmpR_gt.2 h), Bool.false_or]
      refine congrArg Value.bool ?_
      rw [decide_eq_decide]
      exact cmpR_gt
  refine F.cargo_Overloaded_c1.vc _ _ _ _ _ _ _ _ _ _ _ fun w1 x1 => ?_
  have hw1 := k0 x1
  refine ⟨_, _, _, _, _, _, hq0 w1 hw1, _, _, _, hq1 w1 hw1, fun w5 x5 => ?_, fun w40 x40 => ?_⟩
  · have hw5 := kE hw1 x5
    refine Pure.mono (cargo_in (h.keep hw5 (Nat.le_refl _)) hl (by omega) x.id) ?_
    rintro v w8 b8 ⟨A', m, c', rfl, hi, hil⟩
    have hw8 := kP hw5 b8
    refine ⟨_, _, _, rfl, Pure.mono (cargo_laden (hg.next hw8) (hc.keep hw8) hi hil (hok.filter _)) ?_, fun w24 x24 => ?_⟩
    · rintro v w16 b16 rfl
      exact ⟨_, _, _, _, _, _, rfl, fun w17 x17 => cmp w17 (kE (kP hw8 b16) x17)⟩
    · have hw24 := kE hw8 x24
      refine Pure.mono (cargo_laden (hg.next hw24) (hc.keep hw24) (hi.extNil x24) hil (hok.filter _)) ?_
      rintro v w16 b16 rfl
      exact ⟨_, _, _, _, _, _, rfl, fun w17 x17 => cmp w17 (kE (kP hw24 b16) x17)⟩
  · have hw5 := kE hw1 x40
    refine Pure.mono (cargo_in (h.keep hw5 (Nat.le_refl _)) hl (by omega) x.id) ?_
    rintro v w8 b8 ⟨A', m, c', rfl, hi, hil⟩
    have hw8 := kP hw5 b8
    refine ⟨_, _, _, rfl, Pure.mono (cargo_laden (hg.next hw8) (hc.keep hw8) hi hil (hok.filter _)) ?_⟩
    rintro v w16 b16 rfl
    exact ⟨_, _, _, _, _, _, rfl, fun w17 x17 => cmp w17 (kE (kP hw8 b16) x17)⟩
theorem cargo_Overloaded (hg : Glob w) (hc : CgIn w A0 n0 A1 n1 ps hs) (h : SlR w A 3 (l.map Sw.row)) (hl : l.length = n) (hnc : n ≤ c) (hn : n ≤ 40) :
    Pure Tryz.prog 23 #[.agg #[.slice A0 n0 c0, .slice A1 n1 c1], .slice A n c] w fun v _ => v = overV ps hs l := by
  have hnh := hc.nh
  refine F.cargo_Overloaded.vc _ _ _ _ _ _ _ _ _ _ _ fun w1 x1 => ?_
  have hw := k0 x1
  refine Pure.mono (cargo_Stowed (hg.next hw) (hc.keep hw) (h.keep hw (Nat.le_refl _)) hl hnc (by omega)) ?_
  rintro v w4 b4 rfl
  have hw := kP hw b4
  unfold overV
  refine ⟨_, rfl, fun h0 => by rw [if_pos h0], fun h0 p5 hp5 hb5 p6 hp6 hb6 => ?_⟩
  rw [if_neg h0]
  have hok := (stowed_right (Decidable.not_not.1 h0)).ld (by omega)
  refine Pure.mono (IndexHo (p := overB ps hs l) ((hc.keep hw).h) hc.lh (by omega) (by kernel_rfl) fun w' hb x hx => ?_) ?_
  · exact over_c1 (hg.next (kP hw hb)) (hc.keep (kP hw hb)) (h.keep (kP hw hb) (Nat.le_refl _)) hl hok (fun w2 h2 => box_all (heap_keep (heap_keep hb6 hb) h2)) (fun w2 h2 => box_all (heap_keep (heap_keep hb5 hb) h2)) hx
  · rintro v w9 b9 rfl
    exact ⟨_, rfl, rfl⟩
end
end Go.Proofs.YtdnelnicnjplpaaGreatDoor.B

namespace Go.Proofs.YtdnelnicnjplpaaGreatDoor.B
open Go Go.RowKit Go.Proofs Go.Proofs.YtdnelnicnjplpaaGreatDoor.Vc

theorem lbS_cons (t a : Sw) (r : List Sw) : lbS t (a :: r) = if befS a t then lbS t r + 1 else 0 := by
  unfold lbS
  rw [List.takeWhile_cons]
  by_cases h : befS a t
  · simp [h]
  · simp [h]
theorem foundS_cons (t a : Sw) (r : List Sw) : foundS t (a :: r) = if befS a t then foundS t r else decide (a.hold = t.hold ∧ a.parcel = t.parcel) := by
  unfold foundS
  rw [lbS_cons]
  by_cases h : befS a t
  · rw [if_pos h, if_pos h]
    rfl
  · rw [if_neg h, if_neg h]
    rfl
theorem bef_tri {a t : Sw} (h : ¬ befS a t) : (a.hold = t.hold ∧ a.parcel = t.parcel) ∨ befS t a := by unfold befS at *; omega
theorem filter_lb {t : Sw} : ∀ {l : List Sw}, SrtS l → l.filter (fun x => decide (befS x t)) = l.take (lbS t l) := by
  intro l
  induction l with
  | nil => intro _; rfl
  | cons a r ih =>
    intro h
    obtain ⟨p, q⟩ := List.pairwise_cons.1 h
    rw [lbS_cons]
    by_cases e : befS a t
    · rw [if_pos e, List.filter_cons_of_pos (by simpa using e), ih q]
      rfl
    · rw [if_neg e, List.filter_cons_of_neg (by simpa using e)]
      rw [List.take_zero, List.filter_eq_nil_iff]
      intro x hx k
      exact e (bef_trans (p x hx) (by simpa using k))
theorem filter_gt {t : Sw} : ∀ {l : List Sw}, SrtS l → l.filter (fun x => decide (befS t x)) = l.drop (lbS t l + if foundS t l = true then 1 else 0) := by
  intro l
  induction l with
  | nil => intro _; simp
  | cons a r ih =>
    intro h
    obtain ⟨p, q⟩ := List.pairwise_cons.1 h
    rw [lbS_cons, foundS_cons]
    by_cases e : befS a t
    · rw [if_pos e, if_pos e, List.filter_cons_of_neg (by simpa using bef_asymm e), ih q, show lbS t r + 1 + (if foundS t r = true then 1 else 0) = (lbS t r + if foundS t r = true then 1 else 0) + 1 by omega]
      rfl
    · rw [if_neg e, if_neg e]
      have all : ∀ x ∈ r, befS t x := fun x hx => by
        rcases bef_tri e with k | k
        · have := p x hx
          unfold befS at *
          omega
        · exact bef_trans k (p x hx)
      have er : r.filter (fun x => decide (befS t x)) = r := List.filter_eq_self.2 fun x hx => by simpa using all x hx
      by_cases k : a.hold = t.hold ∧ a.parcel = t.parcel
      · rw [decide_eq_true k, if_pos rfl, List.filter_cons_of_neg (by simp; unfold befS; omega), er]
        rfl
      · rw [decide_eq_false k, if_neg (by simp), List.filter_cons_of_pos (by simpa using (bef_tri e).resolve_left k), er]
        rfl
theorem found_at {t : Sw} {l : List Sw} (h : foundS t l = true) : ∃ hi : lbS t l < l.length, l[lbS t l].hold = t.hold ∧ l[lbS t l].parcel = t.parcel := by
  unfold foundS at h
  by_cases hi : lbS t l < l.length
  · rw [List.getElem?_eq_getElem hi] at h
    exact ⟨hi, by simpa using h⟩
  · rw [List.getElem?_eq_none (by omega)] at h
    cases h
theorem amt_found {t : Sw} {l : List Sw} (hs : SrtS l) (h : foundS t l = true) (hi : lbS t l < l.length) : amtF l t.hold t.parcel = l[lbS t l].units := by
  obtain ⟨_, e1, e2⟩ := found_at h
  rw [← amt_mem hs (List.getElem_mem hi), e1, e2]
theorem amt_unfound {t : Sw} {l : List Sw} (hs : SrtS l) (h : foundS t l = false) : amtF l t.hold t.parcel = 0 := by
  refine amt_none fun s hs' k => ?_
  have e1 := filter_lb (t := t) hs
  have e2 := filter_gt (t := t) hs
  rw [h, if_neg (by simp), Nat.add_zero] at e2
  rw [← List.take_append_drop (lbS t l) l, ← e1, ← e2] at hs'
  rcases List.mem_append.1 hs' with m | m
  · have := (List.mem_filter.1 m).2
    simp at this
    unfold befS at this
    omega
  · have := (List.mem_filter.1 m).2
    simp at this
    unfold befS at this
    omega
theorem upd_at {t : Sw} {l : List Sw} (hs : SrtS l) {n : Int} : updS l ⟨t.hold, t.parcel, n⟩ = l.take (lbS t l) ++ (if 0 < n then [⟨t.hold, t.parcel, n⟩] else []) ++ l.drop (lbS t l + if foundS t l = true then 1 else 0) := by
  unfold updS
  rw [← filter_lb hs, ← filter_gt hs]
  rfl
theorem set_at {l : List Sw} {i : Nat} (hi : i < l.length) (s : Sw) : l.set i s = l.take i ++ [s] ++ l.drop (i + 1) := by
  rw [List.set_eq_take_append_cons_drop, if_pos hi]
  simp

section
variable {w0 : World} {A0 A1 A : Option Addr} {n0 c0 n1 c1 n c : Nat} {ps : List Pa} {hs : List Ho} {l : List Sw}
theorem put_J12 (hc : CgIn w0 A0 n0 A1 n1 ps hs) (h : SlR w0 A 3 (l.map Sw.row)) (hl : l.length = n) (hn : n ≤ 40) (hr : RightS ps hs l) (t : Sw) (hu : -9 ≤ t.units ∧ t.units ≤ 9 ∧ t.units ≠ 0) {ip : Nat} (hip : pix ps t.parcel = some ip) {R : Value → World → Prop}
    (hneg : ∀ w, amtF l t.hold t.parcel + t.units < 0 → R (.tuple #[.slice none 0 0, .int .i64 11]) w)
    (hfull : ∀ w p, ¬ amtF l t.hold t.parcel + t.units < 0 → ps[ip]? = some p → p.units < unitsF l t.parcel + t.units → R (.tuple #[.slice none 0 0, .int .i64 12]) w)
    (hok : ∀ w p A m c, ¬ amtF l t.hold t.parcel + t.units < 0 → ps[ip]? = some p → ¬ p.units < unitsF l t.parcel + t.units → OwnR w w0.heap.size 35 A m c 3 ((updS l ⟨t.hold, t.parcel, amtF l t.hold t.parcel + t.units⟩).map Sw.row) → R (.tuple #[.slice A m c, .int .i64 0]) w)
    {w : World} (hw : Below w0.heap.size w0 w) : F.cargo_Put.J12 A n c ip (lbS t l) (foundS t l) (amtF l t.hold t.parcel) A0 n0 c0 A1 n1 c1 t.hold t.parcel t.units w0.heap.size w R := by
  obtain ⟨hpl, hpid⟩ := pix_lt hip
  have hpm := List.getElem_mem hpl
  have hpu := (hr.c.p1 _ hpm).2.1
  have hful := hr.full _ hpm
  rw [hpid] at hful
  have hun := unitsF_nonneg hr.pos t.parcel
  have ham := amt_nonneg hr.pos t.hold t.parcel
  have hlb := lbS_le t l
  have hle : amtF l t.hold t.parcel ≤ 9 := by
    rcases amt_spec l t.hold t.parcel with ⟨e, _⟩ | ⟨x, hx, e1, e2, e3⟩
    · omega
    · have := units_mem hr.pos hx
      rw [e1] at this
      omega
  refine F.cargo_Put.J12.step _ _ _ _ _ _ _ _ _ _ _ _ _ _ _ _ _ _ _ ⟨by simp only [inR]; omega, fun k => hneg w k, fun k => ?_⟩
  obtain ⟨hbp, ap, hAp, _, hcp⟩ := (hc.p.keep hw (Nat.le_refl _)).at_ (fun _ => rfl) hc.lp hpl
  refine ⟨hbp, ap, hAp, _, hcp 1 _ rfl, fun w19 x19 => ?_⟩
  have hw := kE hw x19
  refine Pure.mono (cargo_units (h.keep hw (Nat.le_refl _)) hl (by omega) (hr.smu t.parcel)) ?_
  rintro v w22 b22 rfl
  have hw := kP hw b22
  refine ⟨_, rfl, by simp only [inR]; omega, fun k2 => hfull w22 _ k (List.getElem?_eq_getElem hpl) k2, fun k2 => ?_⟩
  have fin := fun w A m c ho => hok w _ A m c k (List.getElem?_eq_getElem hpl) k2 ho
  refine runOk_makeS el_Sws (by omega) hw.size fun w25 rows0 o25 b25 => ?_
  have hw25 := kP hw b25
  have hB := hw.size
  have h25 := h.keep hw25 (Nat.le_refl _)
  refine runOk_copyAll el_Sws (o25.base hw.size) h25 (by simpa using hl) (fun r hr => by obtain ⟨s, _, rfl⟩ := List.mem_map.1 hr; rfl) (fun r hr => by obtain ⟨s, _, rfl⟩ := List.mem_map.1 hr; intro u hu; simp [Sw.row] at hu; rcases hu with rfl | rfl | rfl <;> rfl) (by decide) fun w28 o28 k28 b28 => ?_
  have hw28 := hw25.trans b28
  refine ⟨by simp only [inR]; omega, runOk_alloc 35 zeroSw hw28.size fun w29 hnew b29 hlt => ?_⟩
  have hw29 := kP hw28 b29
  refine ⟨_, _, hw28.size, rfl, hnew, by simp [Value.cells], rfl, fun w34 hw34 => ?_⟩
  have hcells : w34.heap[w28.heap.size]? = some (.cells ([.int .i64 t.hold, .int .i64 t.parcel, .int .i64 (amtF l t.hold t.parcel + t.units)] : List Value).toArray 35 (0, 0)) := by
    have := hw34.at_
    simpa [setCells, Value.cells] using this
  have hB34 : w0.heap.size ≤ w34.heap.size := by rw [hw34.size]; exact hw29.size
  have hg28 : w22.heap.size < w28.heap.size := by
    have := (o28.blk _ rfl).2
    simpa using this
  have o34 : OwnR w34 w0.heap.size 35 (some ⟨w22.heap.size, 0, none⟩) n n 3 (l.map Sw.row) := (o28.below b29).other fun x hx => hw34.rest _ (by cases hx; show w22.heap.size ≠ w28.heap.size; omega)
  refine ⟨fun hf => ?_, fun hf => ?_⟩
  · have ha0 := amt_unfound hr.srt hf
    have hpos : 0 < amtF l t.hold t.parcel + t.units := by omega
    refine ⟨_, _, _, box_all hcells, ?_⟩
    refine runOk_lit el_Sws [.agg #[.int .i64 t.hold, .int .i64 t.parcel, .int .i64 (amtF l t.hold t.parcel + t.units)]] (by simp [Value.cells]) (by simp) hB34 fun A2 c2 w40 o40 b40 => ?_
    have hA2 : ∃ g, A2 = some ⟨g, 0, none⟩ ∧ w34.heap.size ≤ g := by
      rcases o40.1.2 with ⟨_, h3⟩ | ⟨g, cap, cur, h3, h4, _⟩
      · simp at h3
      · cases h3; exact ⟨g, rfl, h4⟩
    obtain ⟨vb, rfl, hvb⟩ := hA2
    have hvr : OwnR w40 w0.heap.size 35 (some ⟨vb, 0, none⟩) 1 c2 3 [(⟨t.hold, t.parcel, amtF l t.hold t.parcel + t.units⟩ : Sw).row] := o40.base hB34
    refine PureB.mono (InsertS (Nat.le_trans hB34 b40.size) (o34.below b40) (by omega) (by omega) hvr fun a ha e => ?_) ?_
    · cases ha
      have := (o34.blk _ rfl).2
      simp only at e this
      omega
    · rintro v w43 b43 ⟨A', c', rfl, o43, hoth⟩
      refine ⟨fun i ty cs ht hcs => hoth.2 i (Array.getElem?_eq_some_iff.1 hcs).1 fun a ha e => ?_, _, _, _, rfl, fin _ _ _ _ ?_⟩
      · cases ha
        have := ((o34.below b40).cells _ rfl)
        obtain ⟨cs', hcs'⟩ := this
        rw [← e, hcs] at hcs'
        simp only [Option.some.injEq, Obj.cells.injEq] at hcs'
        rw [hcs'.2.1] at ht
        revert ht
        decide
      · rw [upd_at hr.srt, hf, if_pos hpos]
        simpa using o43
  · have hf : foundS t l = true := by simpa using hf
    obtain ⟨hi, e1, e2⟩ := found_at hf
    have ha := amt_found hr.srt hf hi
    have e3 : ((lbS t l : Nat) : Int) + 1 = ((lbS t l + 1 : Nat) : Int) := by omega
    refine ⟨_, (show CellsAt w34 ((⟨w28.heap.size, 0, none⟩ : Addr).add 2) [.int .i64 (amtF l t.hold t.parcel + t.units)] from cells_part (box_all hcells) 2 1), fun hz => ?_, fun hz => ?_⟩
    · refine ⟨by simp only [inR]; omega, ?_⟩
      rw [e3]
      refine PureB.mono (DeleteS hB34 o34 (by omega) (by omega)) ?_
      rintro v w47 b47 ⟨m, rfl, o47, hoth⟩
      refine ⟨fun i ty cs ht hcs => hoth.2 i (Array.getElem?_eq_some_iff.1 hcs).1 fun a ha e => ?_, _, _, _, rfl, fin _ _ _ _ ?_⟩
      · cases ha
        obtain ⟨cs', hcs'⟩ := o34.cells _ rfl
        rw [← e, hcs] at hcs'
        simp only [Option.some.injEq, Obj.cells.injEq] at hcs'
        rw [hcs'.2.1] at ht
        revert ht
        decide
      · rw [upd_at hr.srt, hf, if_neg (by omega)]
        simpa using o47
    · refine ⟨_, _, _, box_all hcells, ?_⟩
      obtain ⟨g1, a2, hA2, cs, g2, g3, g4, g5, g6⟩ := o34.set0 (i := ((lbS t l : Nat) : Int)) (by omega) (by omega) [.int .i64 t.hold, .int .i64 t.parcel, .int .i64 (amtF l t.hold t.parcel + t.units)] ((l[lbS t l]'(by omega)).row) (by rw [Int.toNat_natCast, List.getElem?_map, List.getElem?_eq_getElem (by omega)]; rfl) rfl
      refine ⟨g1, a2, hA2, cs, _, g2, g3, g4, g5, rfl, fun w54 hw54 => fin _ _ _ _ ?_⟩
      have o54 := g6 w54 hw54
      rw [Int.toNat_natCast] at o54
      rw [upd_at hr.srt, hf, if_pos (by omega), if_pos rfl, ← set_at hi, List.map_set]
      exact o54
theorem cargo_Put {w : World} (hg : Glob w) (hc : CgIn w A0 n0 A1 n1 ps hs) (h : SlR w A 3 (l.map Sw.row)) (hl : l.length = n) (hnc : n ≤ c) (hn : n ≤ 40) (t : Sw) :
    Pure Tryz.prog 25 #[.agg #[.slice A0 n0 c0, .slice A1 n1 c1], .slice A n c, t.val] w (StowR (putF ps hs l t) w.heap.size) := by
  refine F.cargo_Put.vc _ _ _ _ _ _ _ _ _ _ _ _ _ _ fun w1 x1 => ?_
  have hw := k0 x1
  refine Pure.mono (cargo_Stowed (hg.next hw) (hc.keep hw) (h.keep hw (Nat.le_refl _)) hl hnc (by omega)) ?_
  rintro v w4 b4 rfl
  have hw := kP hw b4
  unfold putF
  refine ⟨_, rfl, fun h0 => by rw [if_pos h0]; rfl, fun h0 => ?_⟩
  rw [if_neg h0]
  have hr := stowed_right (Decidable.not_not.1 h0)
  refine Pure.mono (cargo_parcel (hc.keep hw) t.parcel) ?_
  rintro v w7 b7 rfl
  have hw := kP hw b7
  refine ⟨_, rfl, fun h1 => by rw [ixI_neg.1 h1]; rfl, fun h1 => ?_⟩
  refine Pure.mono (cargo_hold (hc.keep hw) t.hold) ?_
  rintro v w10 b10 rfl
  have hw := kP hw b10
  cases hip : pix ps t.parcel with
  | none => exact absurd (ixI_neg.2 hip) h1
  | some ip =>
  refine ⟨_, rfl, fun h2 => by rw [ixI_neg.1 h2]; rfl, fun h2 => ?_⟩
  cases hih : hix hs t.hold with
  | none => exact absurd (ixI_neg.2 hih) h2
  | some ih =>
  refine ⟨fun h3 => by simp only; rw [if_pos (.inl h3)]; rfl, fun h3 => ⟨fun h4 => by simp only; rw [if_pos (.inr (.inl h4))]; rfl, fun h4 => ⟨fun h5 => by simp only; rw [if_pos (.inr (.inr (by omega)))]; rfl, fun h5 => ?_⟩⟩⟩
  simp only
  rw [if_neg (by omega)]
  refine Pure.mono (search_stows (h.keep hw (Nat.le_refl _)) hl (by omega) hr.srt ⟨t.hold, t.parcel, 0⟩) ?_
  rintro v w14 b14 rfl
  have hw := kP hw b14
  have ek : ∀ u : Int, lbS ⟨t.hold, t.parcel, u⟩ l = lbS t l := fun u => rfl
  have ef : ∀ u : Int, foundS ⟨t.hold, t.parcel, u⟩ l = foundS t l := fun u => rfl
  rw [ek, ef]
  have J := fun (w' : World) hw' => put_J12 (c := c) (c0 := c0) (c1 := c1) hc h hl hn hr t ⟨by omega, by omega, h3⟩ hip (R := StowR (if amtF l t.hold t.parcel + t.units < 0 then .error 11 else match ps[ip]? with
      | some p => if p.units < unitsF l t.parcel + t.units then .error 12 else .ok (updS l ⟨t.hold, t.parcel, amtF l t.hold t.parcel + t.units⟩)
      | none => .error 0) w.heap.size)
    (fun w2 k => by rw [if_pos k]; rfl) (fun w2 p k e k2 => by rw [if_neg k, e]; simp only; rw [if_pos k2]; rfl)
    (fun w2 p A m c k e k2 ho => by rw [if_neg k, e]; simp only; rw [if_neg k2]; exact ⟨A, m, c, rfl, ho⟩) (w := w') hw'
  refine ⟨_, _, rfl, fun hf => ?_, fun hf => ?_⟩
  · obtain ⟨hi, e1, e2⟩ := found_at hf
    obtain ⟨hb, a, hA, _, hcell⟩ := (h.keep hw (Nat.le_refl _)).at_ (fun _ => rfl) hl hi
    refine ⟨hb, a, hA, _, hcell 2 _ rfl, ?_⟩
    have := J w14 hw
    rw [amt_found hr.srt hf hi] at this
    rw [amt_found hr.srt hf hi]
    exact this
  · have := J w14 hw
    rw [amt_unfound hr.srt hf] at this
    rw [amt_unfound hr.srt hf]
    exact this
end
end Go.Proofs.YtdnelnicnjplpaaGreatDoor.B

namespace Go.Proofs.YtdnelnicnjplpaaGreatDoor.B
open Go Go.RowKit Go.Proofs Go.Proofs.YtdnelnicnjplpaaGreatDoor.Vc

theorem r47_named (s : ByteArray) (w : World) : Pure Tryz.prog 50 #[.string s] w fun v w' => v = .bool (decide (1 ≤ s.size ∧ s.size ≤ 64)) := by
  refine F.garboardref47_named.vc _ _ _ ⟨fun h => ?_, fun h => ?_⟩
  · refine congrArg Value.bool ?_
    rw [decide_eq_decide]
    omega
  · exact congrArg Value.bool (decide_eq_false (by omega)).symm
theorem r47_isID (n : Int) (w : World) : Pure Tryz.prog 47 #[.int .i64 n] w fun v w' => v = .bool (decide (1 ≤ n ∧ n ≤ 1073741824)) := by
  refine F.garboardref47_isID.vc _ _ _ ⟨fun h => ?_, fun h => ?_⟩
  · refine congrArg Value.bool ?_
    rw [decide_eq_decide]
    omega
  · exact congrArg Value.bool (decide_eq_false (by omega)).symm
theorem r47_before (a b : Sw) (w : World) : Pure Tryz.prog 57 #[a.val, b.val] w fun v w' => v = .bool (decide (befS a b)) := by
  refine F.garboardref47_before.vc _ _ _ _ _ _ _ _ ⟨fun h w2 _ => ?_, fun h => ⟨fun h2 w2 _ => ?_, fun h2 w2 _ => ?_⟩⟩
  · exact congrArg Value.bool (decide_eq_true (.inl h)).symm
  · refine congrArg Value.bool ?_
    rw [decide_eq_decide]
    unfold befS
    omega
  · refine congrArg Value.bool (decide_eq_false ?_).symm
    unfold befS
    omega
theorem r47_sign {s : ByteArray} (hs : SmS s) (h : vR s = true) {w : World} {K : Value → World → Prop} (hK : ∀ w', Below w.heap.size w w' → K (.int .i64 (cmpR (qR s) 0)) w') :
    Pure Tryz.prog 49 #[.string s] w fun r w1 => ∃ (b : Bool) (A : Option Addr) (n c : Nat) (A' : Option Addr) (n' c' : Nat), r = .agg #[.bool b, .slice A n c, .slice A' n' c'] ∧ Pure Tryz.prog 48 #[.agg #[.bool b, .slice A n c, .slice A' n' c']] w1 K := by
  refine Pure.mono (ref47_Num hs h w) ?_
  rintro v w2 b2 ⟨b, A, n, c, A', n', c', rfl, k⟩
  refine ⟨_, _, _, _, _, _, _, rfl, Pure.mono (ref3_Sign k) ?_⟩
  rintro v w3 b3 rfl
  exact hK w3 (kP b2 b3)

theorem r47_Parcel_loop {w0 : World} {A0 A1 : Option Addr} {n0 c0 n1 c1 : Nat} {ps : List Pa} {hs : List Ho} (hc : CgIn w0 A0 n0 A1 n1 ps hs) (id : Int) {R : Value → World → Prop} {r : Int} (hR : ∀ w, R (.int .i64 r) w) :
    ∀ (d i : Nat) (w : World), n0 - i = d → i ≤ n0 → Below w0.heap.size w0 w → r = idxG (fun p => decide (p.id = id)) i (ps.drop i) → F.garboardref47_Parcel.L2 id i A0 n0 c0 A1 n1 c1 w0.heap.size w R := by
  have hn0 := hc.np
  have hn1 := hc.nh
  have hlp := hc.lp
  have hlh := hc.lh
  intro d
  induction d with
  | zero =>
    intro i w hd hi hw hr
    rw [List.drop_eq_nil_of_le (by omega)] at hr
    subst hr
    exact F.garboardref47_Parcel.L2.step _ _ _ _ _ _ _ _ _ _ _ ⟨fun h => by omega, fun _ => hR w⟩
  | succ d ih =>
    intro i w hd hi hw hr
    have hil : i < ps.length := by omega
    have e3 : (i : Int) + 1 = ((i + 1 : Nat) : Int) := by omega
    rw [List.drop_eq_getElem_cons hil, idxG] at hr
    obtain ⟨hb, ad, hA, _, hf⟩ := (hc.p.keep hw (Nat.le_refl _)).at_ (fun _ => rfl) hc.lp hil
    refine F.garboardref47_Parcel.L2.step _ _ _ _ _ _ _ _ _ _ _ ⟨fun _ => ⟨hb, ad, hA, _, hf 0 _ rfl, fun h => ?_, fun h => ⟨by simp only [inR]; omega, ?_⟩⟩, fun h => by omega⟩
    · rw [if_pos (decide_eq_true h)] at hr
      subst hr
      exact hR w
    · rw [if_neg (by simpa using h)] at hr
      rw [e3]
      exact ih (i + 1) w (by omega) (by omega) hw hr
theorem r47_Parcel {w : World} {A0 A1 : Option Addr} {n0 c0 n1 c1 : Nat} {ps : List Pa} {hs : List Ho} (hc : CgIn w A0 n0 A1 n1 ps hs) (id : Int) :
    Pure Tryz.prog 55 #[.agg #[.slice A0 n0 c0, .slice A1 n1 c1], .int .i64 id] w fun v _ => v = .int .i64 (ixI (pix ps id)) :=
  F.garboardref47_Parcel.vc _ _ _ _ _ _ _ _ _ fun w1 x1 => r47_Parcel_loop hc id (fun _ => rfl) n0 0 w1 rfl (by omega) (k0 x1) (by
    have := idxG_find (fun p => decide (p.id = id)) ps 0
    rw [List.drop_zero, this]
    unfold pix
    cases ps.findIdx? _ with
    | none => rfl
    | some i => simp only [ixI, Nat.zero_add])

theorem r47_Hold_loop {w0 : World} {A0 A1 : Option Addr} {n0 c0 n1 c1 : Nat} {ps : List Pa} {hs : List Ho} (hc : CgIn w0 A0 n0 A1 n1 ps hs) (id : Int) {R : Value → World → Prop} {r : Int} (hR : ∀ w, R (.int .i64 r) w) :
    ∀ (d i : Nat) (w : World), n1 - i = d → i ≤ n1 → Below w0.heap.size w0 w → r = idxG (fun p => decide (p.id = id)) i (hs.drop i) → F.garboardref47_Hold.L2 id i A0 n0 c0 A1 n1 c1 w0.heap.size w R := by
  have hn0 := hc.np
  have hn1 := hc.nh
  have hlp := hc.lp
  have hlh := hc.lh
  intro d
  induction d with
  | zero =>
    intro i w hd hi hw hr
    rw [List.drop_eq_nil_of_le (by omega)] at hr
    subst hr
    exact F.garboardref47_Hold.L2.step _ _ _ _ _ _ _ _ _ _ _ ⟨fun h => by omega, fun _ => hR w⟩
  | succ d ih =>
    intro i w hd hi hw hr
    have hil : i < hs.length := by omega
    have e3 : (i : Int) + 1 = ((i + 1 : Nat) : Int) := by omega
    rw [List.drop_eq_getElem_cons hil, idxG] at hr
    obtain ⟨hb, ad, hA, _, hf⟩ := (hc.h.keep hw (Nat.le_refl _)).at_ (fun _ => rfl) hc.lh hil
    refine F.garboardref47_Hold.L2.step _ _ _ _ _ _ _ _ _ _ _ ⟨fun _ => ⟨hb, ad, hA, _, hf 0 _ rfl, fun h => ?_, fun h => ⟨by simp only [inR]; omega, ?_⟩⟩, fun h => by omega⟩
    · rw [if_pos (decide_eq_true h)] at hr
      subst hr
      exact hR w
    · rw [if_neg (by simpa using h)] at hr
      rw [e3]
      exact ih (i + 1) w (by omega) (by omega) hw hr
theorem r47_Hold {w : World} {A0 A1 : Option Addr} {n0 c0 n1 c1 : Nat} {ps : List Pa} {hs : List Ho} (hc : CgIn w A0 n0 A1 n1 ps hs) (id : Int) :
    Pure Tryz.prog 56 #[.agg #[.slice A0 n0 c0, .slice A1 n1 c1], .int .i64 id] w fun v _ => v = .int .i64 (ixI (hix hs id)) :=
  F.garboardref47_Hold.vc _ _ _ _ _ _ _ _ _ fun w1 x1 => r47_Hold_loop hc id (fun _ => rfl) n1 0 w1 rfl (by omega) (k0 x1) (by
    have := idxG_find (fun p => decide (p.id = id)) hs 0
    rw [List.drop_zero, this]
    unfold hix
    cases hs.findIdx? _ with
    | none => rfl
    | some i => simp only [ixI, Nat.zero_add])

theorem r47_numbers_L8 {w0 : World} {A0 A1 : Option Addr} {n0 c0 n1 c1 : Nat} {ps : List Pa} {hs : List Ho} (hc : CgIn w0 A0 n0 A1 n1 ps hs) {R : Value → World → Prop} (hR : ∀ w, R (.bool (ps.all vP && hs.all vH)) w) (hp : ps.all vP = true) :
    ∀ (d i : Nat) (w : World), n1 - i = d → i ≤ n1 → Below w0.heap.size w0 w → (∀ x ∈ hs.take i, vH x = true) → F.garboardref47_numbers.L8 i A0 n0 c0 A1 n1 c1 w0.heap.size w R := by
  have hn0 := hc.np
  have hn1 := hc.nh
  have hlp := hc.lp
  have hlh := hc.lh
  intro d
  induction d with
  | zero =>
    intro i w hd hi hw hx
    rw [List.take_of_length_le (by omega)] at hx
    refine F.garboardref47_numbers.L8.step _ _ _ _ _ _ _ _ _ _ ⟨fun h => by omega, fun _ => ?_⟩
    have := hR w
    rwa [hp, show hs.all vH = true from List.all_eq_true.2 hx] at this
  | succ d ih =>
    intro i w hd hi hw hx
    have hil : i < hs.length := by omega
    have e3 : (i : Int) + 1 = ((i + 1 : Nat) : Int) := by omega
    obtain ⟨hb, ad, hA, hcell, _⟩ := (hc.h.keep hw (Nat.le_refl _)).at_ (fun _ => rfl) hc.lh hil
    have hs1 := hc.sh _ (List.getElem_mem hil)
    have bad : vH hs[i] = false → ∀ w, R (.bool false) w := fun h w => by
      have := hR w
      rwa [all_false (p := vH) (List.getElem_mem hil) h, Bool.and_false] at this
    refine F.garboardref47_numbers.L8.step _ _ _ _ _ _ _ _ _ _ ⟨fun _ => ⟨hb, ad, hA, _, _, _, _, _, _, _, hcell, fun w1 x1 => ?_⟩, fun h => by omega⟩
    have hw1 := kE hw x1
    refine Pure.mono (ref3_Valid _ hs1.room _) ?_
    rintro v w2 b2 rfl
    have hw2 := kP hw1 b2
    refine ⟨_, rfl, fun h => bad (by unfold vH; simp [h]) _, fun h1 => ?_⟩
    have v1 : vR hs[i].room = true := by simpa using h1
    refine Pure.mono (ref3_Valid _ hs1.most _) ?_
    rintro v w3 b3 rfl
    have hw3 := kP hw2 b3
    refine ⟨_, rfl, fun h => bad (by unfold vH; simp [h]) _, fun h2 => ?_⟩
    have v2 : vR hs[i].most = true := by simpa using h2
    refine Pure.mono (ref3_Valid _ hs1.x _) ?_
    rintro v w4 b4 rfl
    have hw4 := kP hw3 b4
    refine ⟨_, rfl, fun h => bad (by unfold vH; simp [h]) _, fun h3 => ?_⟩
    have v3 : vR hs[i].x = true := by simpa using h3
    refine Pure.mono (ref3_Valid _ hs1.y _) ?_
    rintro v w5 b5 rfl
    have hw5 := kP hw4 b5
    refine ⟨_, rfl, fun h => bad (by unfold vH; simp [h]) _, fun h4 => ?_⟩
    have v4 : vR hs[i].y = true := by simpa using h4
    refine Pure.mono (ref3_Valid _ hs1.z _) ?_
    rintro v w6 b6 rfl
    have hw6 := kP hw5 b6
    refine ⟨_, rfl, fun h => bad (by unfold vH; simp [h]) _, fun h5 => ?_⟩
    have v5 : vR hs[i].z = true := by simpa using h5
    refine ⟨by simp only [inR]; omega, ?_⟩
    rw [e3]
    refine ih (i + 1) w6 (by omega) (by omega) hw6 (take_all hil hx ?_)
    unfold vH
    simp [v1, v2, v3, v4, v5]

theorem r47_numbers_L2 {w0 : World} {A0 A1 : Option Addr} {n0 c0 n1 c1 : Nat} {ps : List Pa} {hs : List Ho} (hc : CgIn w0 A0 n0 A1 n1 ps hs) {R : Value → World → Prop} (hR : ∀ w, R (.bool (ps.all vP && hs.all vH)) w) :
    ∀ (d i : Nat) (w : World), n0 - i = d → i ≤ n0 → Below w0.heap.size w0 w → (∀ x ∈ ps.take i, vP x = true) → F.garboardref47_numbers.L2 i A0 n0 c0 A1 n1 c1 w0.heap.size w R := by
  have hn0 := hc.np
  have hn1 := hc.nh
  have hlp := hc.lp
  have hlh := hc.lh
  intro d
  induction d with
  | zero =>
    intro i w hd hi hw hx
    rw [List.take_of_length_le (by omega)] at hx
    refine F.garboardref47_numbers.L2.step _ _ _ _ _ _ _ _ _ _ ⟨fun h => by omega, fun _ => ?_⟩
    exact r47_numbers_L8 hc hR (List.all_eq_true.2 hx) n1 0 w rfl (by omega) hw (by simp)
  | succ d ih =>
    intro i w hd hi hw hx
    have hil : i < ps.length := by omega
    have e3 : (i : Int) + 1 = ((i + 1 : Nat) : Int) := by omega
    obtain ⟨hb, ad, hA, hcell, _⟩ := (hc.p.keep hw (Nat.le_refl _)).at_ (fun _ => rfl) hc.lp hil
    have hs1 := hc.sp _ (List.getElem_mem hil)
    have bad : vP ps[i] = false → ∀ w, R (.bool false) w := fun h w => by
      have := hR w
      rwa [all_false (p := vP) (List.getElem_mem hil) h, Bool.false_and] at this
    refine F.garboardref47_numbers.L2.step _ _ _ _ _ _ _ _ _ _ ⟨fun _ => ⟨hb, ad, hA, _, _, _, _, _, _, _, hcell, fun w1 x1 => ?_⟩, fun h => by omega⟩
    have hw1 := kE hw x1
    refine Pure.mono (ref3_Valid _ hs1.mass _) ?_
    rintro v w2 b2 rfl
    have hw2 := kP hw1 b2
    refine ⟨_, rfl, fun h => bad (by unfold vP; simp [h]) _, fun h1 => ?_⟩
    have v1 : vR ps[i].mass = true := by simpa using h1
    refine Pure.mono (ref3_Valid _ hs1.vol _) ?_
    rintro v w3 b3 rfl
    have hw3 := kP hw2 b3
    refine ⟨_, rfl, fun h => bad (by unfold vP; simp [h]) _, fun h2 => ?_⟩
    have v2 : vR ps[i].vol = true := by simpa using h2
    refine Pure.mono (ref3_Valid _ hs1.worth _) ?_
    rintro v w4 b4 rfl
    have hw4 := kP hw3 b4
    refine ⟨_, rfl, fun h => bad (by unfold vP; simp [h]) _, fun h3 => ?_⟩
    have v3 : vR ps[i].worth = true := by simpa using h3
    refine ⟨by simp only [inR]; omega, ?_⟩
    rw [e3]
    refine ih (i + 1) w4 (by omega) (by omega) hw4 (take_all hil hx ?_)
    unfold vP
    simp [v1, v2, v3]

theorem r47_numbers {w : World} {A0 A1 : Option Addr} {n0 c0 n1 c1 : Nat} {ps : List Pa} {hs : List Ho} (hc : CgIn w A0 n0 A1 n1 ps hs) :
    Pure Tryz.prog 46 #[.agg #[.slice A0 n0 c0, .slice A1 n1 c1]] w fun v _ => v = .bool (ps.all vP && hs.all vH) :=
  F.garboardref47_numbers.vc _ _ _ _ _ _ _ _ fun w1 x1 => r47_numbers_L2 hc (fun _ => rfl) n0 0 w1 rfl (by omega) (k0 x1) (by simp)

theorem r47_check_L16 {w0 : World} {A0 A1 : Option Addr} {n0 c0 n1 c1 : Nat} {ps : List Pa} {hs : List Ho} (hc : CgIn w0 A0 n0 A1 n1 ps hs) {R : Value → World → Prop} {r : Int} (hR : ∀ w, Below w0.heap.size w0 w → R (.int .i64 r) w) (hvh : ∀ h ∈ hs, vH h = true) :
    ∀ (d i : Nat) (w : World), n1 - i = d → i ≤ n1 → Below w0.heap.size w0 w → r = firstE hFault (prevG hs i) (hs.drop i) → F.garboardref47_Check.L16 i A0 n0 c0 A1 n1 c1 w0.heap.size w R := by
  have hn0 := hc.np
  have hn1 := hc.nh
  have hlp := hc.lp
  have hlh := hc.lh
  intro d
  induction d with
  | zero =>
    intro i w hd hi hw hr
    have : i = n1 := by omega
    subst this
    refine F.garboardref47_Check.L16.step _ _ _ _ _ _ _ _ _ _ ⟨fun h => by omega, fun _ => ?_⟩
    rw [List.drop_eq_nil_of_le (by omega)] at hr
    subst hr
    exact hR w hw
  | succ d ih =>
    intro i w hd hi hw hr
    have hil : i < hs.length := by omega
    obtain ⟨hb, ad, hA, hcell, _⟩ := (hc.h.keep hw (Nat.le_refl _)).at_ (fun _ => rfl) hc.lh hil
    have e3 : (i : Int) + 1 = ((i + 1 : Nat) : Int) := by omega
    refine F.garboardref47_Check.L16.step _ _ _ _ _ _ _ _ _ _ ⟨fun _ => ⟨hb, ad, hA, _, _, _, _, _, _, _, hcell, fun w1 x1 => ?_⟩, fun h => by omega⟩
    have hw1 := kE hw x1
    have hs1 := hc.sh _ (List.getElem_mem hil)
    have vh := hvh _ (List.getElem_mem hil)
    unfold vH at vh
    simp only [Bool.and_eq_true] at vh
    obtain ⟨⟨⟨⟨v1, v2⟩, _⟩, _⟩, _⟩ := vh
    rw [List.drop_eq_getElem_cons hil, firstE] at hr
    have bad : ∀ (e : Int) (w : World), Below w0.heap.size w0 w → e ≠ 0 → hFault (prevG hs i) hs[i] = e → R (.int .i64 e) w := fun e w hw h0 he => by
      rw [he, if_pos h0] at hr
      have := hR w hw
      rwa [hr] at this
    have f2 : ¬ ((1 ≤ hs[i].id ∧ hs[i].id ≤ 1073741824) ∧ ¬ qR hs[i].room < 0 ∧ ¬ qR hs[i].most < 0) → hFault (prevG hs i) hs[i] = 2 := fun h => by unfold hFault; rw [if_pos h]
    refine Pure.mono (r47_isID _ _) ?_
    rintro v w2 b2 rfl
    have hw2 := kP hw1 b2
    refine ⟨_, rfl, fun h => bad 2 _ hw2 (by omega) (f2 fun k => decF h k.1), fun h => ?_⟩
    have q1 := decT h
    refine r47_sign hs1.room v1 fun w3 b3 => ?_
    have hw3 := kP hw2 b3
    refine ⟨_, rfl, fun h => bad 2 _ hw3 (by omega) (f2 fun k => k.2.1 (cmpR_lt.1 h)), fun h => ?_⟩
    have q2 : ¬ qR hs[i].room < 0 := fun k => h (cmpR_lt.2 k)
    refine r47_sign hs1.most v2 fun w4 b4 => ?_
    have hw4 := kP hw3 b4
    refine ⟨_, rfl, fun h => bad 2 _ hw4 (by omega) (f2 fun k => k.2.2 (cmpR_lt.1 h)), fun h => ?_⟩
    have q3 : ¬ qR hs[i].most < 0 := fun k => h (cmpR_lt.2 k)
    have all : (1 ≤ hs[i].id ∧ hs[i].id ≤ 1073741824) ∧ ¬ qR hs[i].room < 0 ∧ ¬ qR hs[i].most < 0 := ⟨q1, q2, q3⟩
    refine Pure.mono (r47_named _ _) ?_
    rintro v w8 b8 rfl
    have hw8 := kP hw4 b8
    refine ⟨_, rfl, fun h => bad 4 _ hw8 (by omega) (by unfold hFault; rw [if_neg (fun k => k all), if_pos (decF h)]), fun h => ?_⟩
    have q7 := decT h
    have rest : hFault (prevG hs i) hs[i] = if ∃ q, prevG hs i = some q ∧ hs[i].id ≤ q.id then 5 else 0 := by
      unfold hFault
      rw [if_neg (fun k => k all), if_neg (fun k => k q7)]
    have go : (¬ ∃ q, prevG hs i = some q ∧ hs[i].id ≤ q.id) → ∀ w, Below w0.heap.size w0 w → F.garboardref47_Check.L16 ((i : Int) + 1) A0 n0 c0 A1 n1 c1 w0.heap.size w R := fun h w hw => by
      rw [if_neg h] at rest
      rw [e3]
      refine ih (i + 1) w (by omega) (by omega) hw ?_
      simp only [rest, ne_eq, not_true_eq_false, if_false] at hr
      rw [prevG_succ hil]
      exact hr
    refine ⟨fun h => ⟨by simp only [inR]; omega, ?_⟩, fun h => ⟨by simp only [inR]; omega, fun w9 x9 => go ?_ _ (kE hw8 x9)⟩⟩
    · obtain ⟨hb2, a2, hA2, _, hf2⟩ := (hc.h.keep hw8 (Nat.le_refl _)).at_ (fun _ => rfl) hc.lh (i := i - 1) (by omega)
      have e1 : (i : Int) - 1 = ((i - 1 : Nat) : Int) := by omega
      have hp := prevG_pos hil (by omega)
      rw [e1]
      refine ⟨hb2, a2, hA2, _, hf2 0 _ rfl, fun h => fun w9 x9 => bad 5 _ (kE hw8 x9) (by omega) ?_, fun h => ⟨by simp only [inR]; omega, fun w9 x9 => go ?_ _ (kE hw8 x9)⟩⟩
      · rw [rest, if_pos ⟨_, hp, h⟩]
      · rintro ⟨q, hq, hle⟩
        rw [hp] at hq
        cases hq
        exact h hle
    · rintro ⟨q, hq, _⟩
      have : i = 0 := by omega
      subst this
      cases hq

theorem r47_check_L6 {w0 : World} {A0 A1 : Option Addr} {n0 c0 n1 c1 : Nat} {ps : List Pa} {hs : List Ho} (hc : CgIn w0 A0 n0 A1 n1 ps hs) {R : Value → World → Prop} {r : Int} (hR : ∀ w, Below w0.heap.size w0 w → R (.int .i64 r) w) (hvp : ∀ p ∈ ps, vP p = true) (hvh : ∀ h ∈ hs, vH h = true) :
    ∀ (d i : Nat) (w : World), n0 - i = d → i ≤ n0 → Below w0.heap.size w0 w → r = (if firstE pFault (prevG ps i) (ps.drop i) ≠ 0 then firstE pFault (prevG ps i) (ps.drop i) else firstE hFault none hs) → F.garboardref47_Check.L6 i A0 n0 c0 A1 n1 c1 w0.heap.size w R := by
  have hn0 := hc.np
  have hn1 := hc.nh
  have hlp := hc.lp
  have hlh := hc.lh
  intro d
  induction d with
  | zero =>
    intro i w hd hi hw hr
    have : i = n0 := by omega
    subst this
    refine F.garboardref47_Check.L6.step _ _ _ _ _ _ _ _ _ _ ⟨fun h => by omega, fun _ => ?_⟩
    rw [List.drop_eq_nil_of_le (by omega)] at hr
    refine r47_check_L16 hc hR hvh n1 0 w rfl (by omega) hw ?_
    rw [hr]
    rfl
  | succ d ih =>
    intro i w hd hi hw hr
    have hil : i < ps.length := by omega
    obtain ⟨hb, ad, hA, hcell, _⟩ := (hc.p.keep hw (Nat.le_refl _)).at_ (fun _ => rfl) hc.lp hil
    have e3 : (i : Int) + 1 = ((i + 1 : Nat) : Int) := by omega
    refine F.garboardref47_Check.L6.step _ _ _ _ _ _ _ _ _ _ ⟨fun _ => ⟨hb, ad, hA, _, _, _, _, _, _, _, hcell, fun w1 x1 => ?_⟩, fun h => by omega⟩
    have hw1 := kE hw x1
    have hs1 := hc.sp _ (List.getElem_mem hil)
    have vp := hvp _ (List.getElem_mem hil)
    unfold vP at vp
    simp only [Bool.and_eq_true] at vp
    obtain ⟨⟨v1, v2⟩, v3⟩ := vp
    rw [List.drop_eq_getElem_cons hil, firstE] at hr
    have bad : ∀ (e : Int) (w : World), Below w0.heap.size w0 w → e ≠ 0 → pFault (prevG ps i) ps[i] = e → R (.int .i64 e) w := fun e w hw h0 he => by
      rw [he, if_pos h0, if_pos h0] at hr
      have := hR w hw
      rwa [hr] at this
    have f2 : ¬ ((1 ≤ ps[i].id ∧ ps[i].id ≤ 1073741824) ∧ (1 ≤ ps[i].units ∧ ps[i].units ≤ 9) ∧ (1 ≤ ps[i].cls ∧ ps[i].cls ≤ 9) ∧ 0 < qR ps[i].mass ∧ 0 < qR ps[i].vol ∧ ¬ qR ps[i].worth < 0) → pFault (prevG ps i) ps[i] = 2 := fun h => by unfold pFault; rw [if_pos h]
    refine Pure.mono (r47_isID _ _) ?_
    rintro v w2 b2 rfl
    have hw2 := kP hw1 b2
    refine ⟨_, rfl, fun h => bad 2 _ hw2 (by omega) (f2 fun k => decF h k.1), fun h => ?_⟩
    have q1 := decT h
    refine ⟨fun h => bad 2 _ hw2 (by omega) (f2 fun k => by have := k.2.1; omega), fun h2 => ⟨fun h => bad 2 _ hw2 (by omega) (f2 fun k => by have := k.2.1; omega), fun h3 => ⟨fun h => bad 2 _ hw2 (by omega) (f2 fun k => by have := k.2.2.1; omega), fun h4 => ⟨fun h => bad 2 _ hw2 (by omega) (f2 fun k => by have := k.2.2.1; omega), fun h5 => ?_⟩⟩⟩⟩
    have q2 : 1 ≤ ps[i].units ∧ ps[i].units ≤ 9 := by omega
    have q3 : 1 ≤ ps[i].cls ∧ ps[i].cls ≤ 9 := by omega
    refine r47_sign hs1.mass v1 fun w5 b5 => ?_
    have hw5 := kP hw2 b5
    refine ⟨_, rfl, fun h => bad 2 _ hw5 (by omega) (f2 fun k => by have := cmpR_gt.2 k.2.2.2.1; omega), fun h => ?_⟩
    have q4 : 0 < qR ps[i].mass := cmpR_gt.1 (by omega)
    refine r47_sign hs1.vol v2 fun w6 b6 => ?_
    have hw6 := kP hw5 b6
    refine ⟨_, rfl, fun h => bad 2 _ hw6 (by omega) (f2 fun k => by have := cmpR_gt.2 k.2.2.2.2.1; omega), fun h => ?_⟩
    have q5 : 0 < qR ps[i].vol := cmpR_gt.1 (by omega)
    refine r47_sign hs1.worth v3 fun w7 b7 => ?_
    have hw7 := kP hw6 b7
    refine ⟨_, rfl, fun h => bad 2 _ hw7 (by omega) (f2 fun k => k.2.2.2.2.2 (cmpR_lt.1 h)), fun h => ?_⟩
    have q6 : ¬ qR ps[i].worth < 0 := fun k => h (cmpR_lt.2 k)
    have all : (1 ≤ ps[i].id ∧ ps[i].id ≤ 1073741824) ∧ (1 ≤ ps[i].units ∧ ps[i].units ≤ 9) ∧ (1 ≤ ps[i].cls ∧ ps[i].cls ≤ 9) ∧ 0 < qR ps[i].mass ∧ 0 < qR ps[i].vol ∧ ¬ qR ps[i].worth < 0 := ⟨q1, q2, q3, q4, q5, q6⟩
    refine Pure.mono (r47_named _ _) ?_
    rintro v w8 b8 rfl
    have hw8 := kP hw7 b8
    refine ⟨_, rfl, fun h => bad 4 _ hw8 (by omega) (by unfold pFault; rw [if_neg (fun k => k all), if_pos (decF h)]), fun h => ?_⟩
    have q7 := decT h
    have rest : pFault (prevG ps i) ps[i] = if ∃ q, prevG ps i = some q ∧ ps[i].id ≤ q.id then 5 else 0 := by
      unfold pFault
      rw [if_neg (fun k => k all), if_neg (fun k => k q7)]
    have go : (¬ ∃ q, prevG ps i = some q ∧ ps[i].id ≤ q.id) → ∀ w, Below w0.heap.size w0 w → F.garboardref47_Check.L6 ((i : Int) + 1) A0 n0 c0 A1 n1 c1 w0.heap.size w R := fun h w hw => by
      rw [if_neg h] at rest
      rw [e3]
      refine ih (i + 1) w (by omega) (by omega) hw ?_
      simp only [rest, ne_eq, not_true_eq_false, if_false] at hr
      rw [prevG_succ hil]
      exact hr
    refine ⟨fun h => ⟨by simp only [inR]; omega, ?_⟩, fun h => ⟨by simp only [inR]; omega, fun w9 x9 => go ?_ _ (kE hw8 x9)⟩⟩
    · obtain ⟨hb2, a2, hA2, _, hf2⟩ := (hc.p.keep hw8 (Nat.le_refl _)).at_ (fun _ => rfl) hc.lp (i := i - 1) (by omega)
      have e1 : (i : Int) - 1 = ((i - 1 : Nat) : Int) := by omega
      have hp := prevG_pos hil (by omega)
      rw [e1]
      refine ⟨hb2, a2, hA2, _, hf2 0 _ rfl, fun h => fun w9 x9 => bad 5 _ (kE hw8 x9) (by omega) ?_, fun h => ⟨by simp only [inR]; omega, fun w9 x9 => go ?_ _ (kE hw8 x9)⟩⟩
      · rw [rest, if_pos ⟨_, hp, h⟩]
      · rintro ⟨q, hq, hle⟩
        rw [hp] at hq
        cases hq
        exact h hle
    · rintro ⟨q, hq, _⟩
      have : i = 0 := by omega
      subst this
      cases hq

theorem r47_Check {w : World} {A0 A1 : Option Addr} {n0 c0 n1 c1 : Nat} {ps : List Pa} {hs : List Ho} (hc : CgIn w A0 n0 A1 n1 ps hs) :
    Pure Tryz.prog 15 #[.agg #[.slice A0 n0 c0, .slice A1 n1 c1]] w fun v _ => v = .int .i64 (checkC ps hs) := by
  have hlp := hc.lp
  have hlh := hc.lh
  refine F.garboardref47_Check.vc _ _ _ _ _ _ _ _ fun w1 x1 => ?_
  have hw1 := k0 x1
  refine Pure.mono (r47_numbers (hc.keep hw1)) ?_
  rintro v w2 b2 rfl
  have hw2 := kP hw1 b2
  refine ⟨_, rfl, fun h => ?_, fun h => ?_⟩
  · unfold checkC
    rw [if_pos]
    intro k
    rw [k.1, k.2] at h
    cases h
  have hv : ps.all vP = true ∧ hs.all vH = true := by simpa [Bool.and_eq_true] using h
  refine ⟨fun h1 => ?_, fun h1 => ⟨fun h2 => ?_, fun h2 => ?_⟩⟩
  · unfold checkC; rw [if_neg (fun k => k hv), if_pos (.inl (by omega))]
  · unfold checkC; rw [if_neg (fun k => k hv), if_pos (.inr (by omega))]
  · refine r47_check_L6 hc (fun _ _ => rfl) (List.all_eq_true.1 hv.1) (List.all_eq_true.1 hv.2) n0 0 w2 rfl (by omega) hw2 ?_
    unfold checkC
    rw [if_neg (fun k => k hv), if_neg (by omega)]
    rfl

theorem r47_stowed_L15 {w0 : World} {A0 A1 A : Option Addr} {n0 c0 n1 c1 n c : Nat} {l : List Sw} (h : SlR w0 A 3 (l.map Sw.row)) (hl : l.length = n) (hn : n < 2147483648) {i : Nat} (hil : i < l.length) {P : Int} (hP : P ≤ 9) (hpos : ∀ s ∈ l.take (i + 1), 1 ≤ s.units) (hpre : unitsF (l.take i) l[i].parcel ≤ P) {R : Value → World → Prop}
    (hbad : ∀ w, P < unitsF (l.take i ++ [l[i]]) l[i].parcel → R (.int .i64 12) w) (hok : ∀ w, Below w0.heap.size w0 w → unitsF (l.take i ++ [l[i]]) l[i].parcel ≤ P → F.garboardref47_Stowed.L4 A n c ((i : Int) + 1) A0 n0 c0 A1 n1 c1 w0.heap.size w R) :
    ∀ (d j : Nat) (w : World), i + 1 - j = d → j ≤ i + 1 → Below w0.heap.size w0 w → unitsF (l.take j) l[i].parcel ≤ P → F.garboardref47_Stowed.L15 A n c i (P - unitsF (l.take j) l[i].parcel) j A0 n0 c0 A1 n1 c1 w0.heap.size w R := by
  have et : l.take (i + 1) = l.take i ++ [l[i]] := by rw [List.take_add_one, List.getElem?_eq_getElem hil]; rfl
  intro d
  induction d with
  | zero =>
    intro j w hd hj hw hu
    have : j = i + 1 := by omega
    subst this
    rw [et] at hu
    exact F.garboardref47_Stowed.L15.step _ _ _ _ _ _ _ _ _ _ _ _ _ _ _ ⟨fun h => by omega, fun _ => ⟨by simp only [inR]; omega, hok w hw hu⟩⟩
  | succ d ih =>
    intro j w hd hj hw hu
    have hjl : j < l.length := by omega
    have e3 : (j : Int) + 1 = ((j + 1 : Nat) : Int) := by omega
    have ej : l.take (j + 1) = l.take j ++ [l[j]] := by rw [List.take_add_one, List.getElem?_eq_getElem hjl]; rfl
    have hs := unitsF_snoc (l.take j) l[j] l[i].parcel
    have hj1 : 1 ≤ l[j].units := hpos _ (by
      rw [List.mem_take_iff_getElem]
      exact ⟨j, by omega, rfl⟩)
    have hnn : 0 ≤ unitsF (l.take j) l[i].parcel := unitsF_nonneg (fun s hs => hpos s (by
      have : l.take j = (l.take (i + 1)).take j := by rw [List.take_take, Nat.min_eq_left (by omega)]
      rw [this] at hs
      exact List.mem_of_mem_take hs)) _
    obtain ⟨hb, a, hA, _, hf⟩ := (h.keep hw (Nat.le_refl _)).at_ (fun _ => rfl) hl hjl
    obtain ⟨hb2, a2, hA2, _, hf2⟩ := (h.keep hw (Nat.le_refl _)).at_ (fun _ => rfl) hl hil
    refine F.garboardref47_Stowed.L15.step _ _ _ _ _ _ _ _ _ _ _ _ _ _ _ ⟨fun _ => ⟨hb, a, hA, _, hf 1 _ rfl, hb2, a2, hA2, _, hf2 1 _ rfl, fun he => ⟨hb, a, hA, fun w2 x2 => ?_⟩, fun he => ⟨by simp only [inR]; omega, fun w2 x2 => ?_⟩⟩, fun h => by omega⟩
    · have hw2 := kE hw x2
      rw [if_pos he] at hs
      obtain ⟨_, a3, hA3, _, hf3⟩ := (h.keep hw2 (Nat.le_refl _)).at_ (fun _ => rfl) hl hjl
      rw [hA] at hA3
      cases hA3
      refine ⟨_, hf3 2 _ rfl, fun hgt => hbad w2 ?_, fun hle => ⟨hb, a, hA, _, hf3 2 _ rfl, by simp only [inR]; omega, by simp only [inR]; omega, ?_⟩⟩
      · -- too much already
        have hm := (unitsF_le hpos l[i].parcel (j + 1)).2
        rw [List.take_take, Nat.min_eq_left (by omega), ej, hs, et] at hm
        omega
      · rw [e3]
        have := ih (j + 1) w2 (by omega) (by omega) hw2 (by rw [ej, hs]; omega)
        rw [ej, hs] at this
        rw [show P - unitsF (l.take j) l[i].parcel - l[j].units = P - (unitsF (l.take j) l[i].parcel + l[j].units) by omega]
        exact this
    · rw [if_neg he, Int.add_zero] at hs
      rw [e3]
      have := ih (j + 1) w2 (by omega) (by omega) (kE hw x2) (by rw [ej, hs]; exact hu)
      rw [ej, hs] at this
      exact this
theorem r47_stowed_loop {w0 : World} {A0 A1 A : Option Addr} {n0 c0 n1 c1 n c : Nat} {ps : List Pa} {hs : List Ho} {l : List Sw} (hc : CgIn w0 A0 n0 A1 n1 ps hs) (h : SlR w0 A 3 (l.map Sw.row)) (hl : l.length = n) (hn : n < 2147483648) (hck : checkC ps hs = 0) {R : Value → World → Prop} (hR : ∀ w, R (.int .i64 (stowL ps hs [] l)) w) :
    ∀ (d i : Nat) (w : World), n - i = d → i ≤ n → Below w0.heap.size w0 w → stowL ps hs [] (l.take i) = 0 → F.garboardref47_Stowed.L4 A n c i A0 n0 c0 A1 n1 c1 w0.heap.size w R := by
  have hcr := checkC_right hck
  intro d
  induction d with
  | zero =>
    intro i w hd hi hw hr
    have : i = n := by omega
    subst this
    rw [List.take_of_length_le (by omega)] at hr
    refine F.garboardref47_Stowed.L4.step _ _ _ _ _ _ _ _ _ _ _ _ _ ⟨fun h => by omega, fun _ => ?_⟩
    have := hR w
    rwa [hr] at this
  | succ d ih =>
    intro i w hd hi hw hr
    have hil : i < l.length := by omega
    have e3 : (i : Int) + 1 = ((i + 1 : Nat) : Int) := by omega
    have et : l.take (i + 1) = l.take i ++ [l[i]] := by rw [List.take_add_one, List.getElem?_eq_getElem hil]; rfl
    have hres : stowL ps hs [] l = if stow1 ps hs (l.take i) l[i] ≠ 0 then stow1 ps hs (l.take i) l[i] else stowL ps hs (l.take (i + 1)) (l.drop (i + 1)) := by
      conv => lhs; rw [← List.take_append_drop i l, stowL_split, if_neg (fun k => k hr), List.nil_append, List.drop_eq_getElem_cons hil, stowL, ← et]
    have hpre : RightS ps hs (l.take i) := by
      have h0 : RightS ps hs [] := ⟨hcr, by simp, by simp, List.Pairwise.nil, fun p hp => by have := (hcr.p1 p hp).2.1.1; simp [unitsF]; omega⟩
      simpa using stowL_right hcr (l.take i) [] h0 hr
    have bad : ∀ (e : Int) (w : World), e ≠ 0 → stow1 ps hs (l.take i) l[i] = e → R (.int .i64 e) w := fun e w h0 he => by
      rw [he, if_pos h0] at hres
      have := hR w
      rwa [hres] at this
    have cell := fun (w : World) (hw : Below w0.heap.size w0 w) => (h.keep hw (Nat.le_refl _)).at_ (fun _ => rfl) hl hil
    obtain ⟨hb, a, hA, hcell, hf⟩ := cell w hw
    have fld : ∀ (w : World), Below w0.heap.size w0 w → ∀ k u, (l[i].row)[k]? = some u → CellsAt w ((a.add ((i : Int).toNat * 3)).add k) [u] := fun w hw => by
      obtain ⟨_, a', hA', _, hf'⟩ := cell w hw
      rw [hA] at hA'
      cases hA'
      exact hf'
    refine F.garboardref47_Stowed.L4.step _ _ _ _ _ _ _ _ _ _ _ _ _ ⟨fun _ => ⟨hb, a, hA, _, hf 1 _ rfl, fun w1 x1 => ?_⟩, fun h => by omega⟩
    have hw1 := kE hw x1
    refine Pure.mono (r47_Parcel (hc.keep hw1) l[i].parcel) ?_
    rintro v w2 b2 rfl
    have hw2 := kP hw1 b2
    cases hp : pix ps l[i].parcel with
    | none =>
      refine ⟨_, rfl, fun _ => fun w3 _ => bad 7 _ (by omega) (by unfold stow1; rw [hp]), fun h => absurd (by simp [ixI]) h⟩
    | some k =>
    refine ⟨_, rfl, fun h => by simp [ixI] at h; omega, fun _ => ⟨hb, a, hA, _, fld w2 hw2 0 _ rfl, fun w2' x2' => Pure.mono (r47_Hold (hc.keep (kE hw2 x2')) l[i].hold) ?_⟩⟩
    have hw2' := kE hw2 x2'
    rintro v w3 b3 rfl
    have hw3 := kP hw2' b3
    cases hh : hix hs l[i].hold with
    | none =>
      refine ⟨_, rfl, fun _ => bad 7 _ (by omega) (by unfold stow1; rw [hp, hh]), fun h => absurd (by simp [ixI]) h⟩
    | some j =>
    obtain ⟨p, hpi, hid⟩ := pix_some hp
    have hkl : k < ps.length := (List.getElem?_eq_some_iff.1 hpi).1
    have hpk : ps[k] = p := (List.getElem?_eq_some_iff.1 hpi).2
    have s1 : stow1 ps hs (l.take i) l[i] = if l[i].units < 1 then 2 else if ∃ q, (l.take i).getLast? = some q ∧ ¬ befS q l[i] then 5 else if p.units < l[i].units ∨ p.units < unitsF (l.take i ++ [l[i]]) l[i].parcel then 12 else 0 := by
      unfold stow1
      rw [hp, hh]
      simp only [hpi]
    refine ⟨_, rfl, fun h => by simp [ixI] at h; omega, fun _ => ⟨hb, a, hA, _, fld w3 hw3 2 _ rfl, fun h => bad 2 _ (by omega) (by rw [s1, if_pos h]), fun hu => ?_⟩⟩
    rw [if_neg hu] at s1
    have hpu := (hcr.p1 p (List.mem_of_getElem? hpi)).2.1.2
    have hfull := hpre.full p (List.mem_of_getElem? hpi)
    rw [hid] at hfull
    have hnn := unitsF_nonneg hpre.pos l[i].parcel
    have hsn := unitsF_snoc (l.take i) l[i] l[i].parcel
    rw [if_pos rfl] at hsn
    have rest : (¬ ∃ q, (l.take i).getLast? = some q ∧ ¬ befS q l[i]) → ∀ w, Below w0.heap.size w0 w → F.garboardref47_Stowed.L15 A n c i p.units ((0 : Nat) : Int) A0 n0 c0 A1 n1 c1 w0.heap.size w R := by
      intro ho w hw
      rw [if_neg ho] at s1
      have key := r47_stowed_L15 (A0 := A0) (n0 := n0) (c0 := c0) (A1 := A1) (n1 := n1) (c1 := c1) (c := c) h hl hn hil (P := p.units) (by omega) (fun s hs => by
        rw [et] at hs
        rcases List.mem_append.1 hs with hs | hs
        · exact hpre.pos s hs
        · rw [List.mem_singleton] at hs; subst hs; omega) hfull (R := R) (fun w h12 => bad 12 _ (by omega) (by rw [s1, if_pos (.inr h12)])) (fun w hw hle => ?_) (i + 1) 0 w rfl (by omega) hw (by simp [unitsF]; omega)
      · have e0 : unitsF (l.take 0) l[i].parcel = 0 := rfl
        rw [e0, Int.sub_zero] at key
        exact key
      · rw [e3]
        refine ih (i + 1) w (by omega) (by omega) hw ?_
        have h0 : stow1 ps hs (l.take i) l[i] = 0 := by
          rw [s1, if_neg]
          rintro (k | k) <;> omega
        rw [et, stowL_split, if_neg (fun k => k hr), List.nil_append, stowL, h0]
        rfl
    have hpc : ∀ w, Below w0.heap.size w0 w → ((0 ≤ ixI (some k) ∧ ixI (some k) < n0) ∧ ∃ a24, A0 = some a24 ∧ CellsAt w ((a24.add ((ixI (some k)).toNat * 7)).add 1) [(.int .i64 p.units)]) := fun w hw => by
      obtain ⟨hb2, a2, hA2, _, hf2⟩ := (hc.p.keep hw (Nat.le_refl _)).at_ (fun _ => rfl) hc.lp hkl
      have := hf2 1 _ rfl
      rw [hpk] at this
      exact ⟨hb2, a2, hA2, this⟩
    refine ⟨fun hi0 => ⟨by simp only [inR]; omega, ?_⟩, fun hi0 => ?_⟩
    · obtain ⟨hb2, a2, hA2, hcell2, _⟩ := (h.keep hw3 (Nat.le_refl _)).at_ (fun _ => rfl) hl (i := i - 1) (by omega)
      have e1 : (i : Int) - 1 = ((i - 1 : Nat) : Int) := by omega
      have hlast : (l.take i).getLast? = some l[i - 1] := by
        rw [List.getLast?_eq_getElem?, List.length_take, Nat.min_eq_left (by omega), List.getElem?_take, if_pos (by omega), List.getElem?_eq_getElem (by omega)]
      obtain ⟨_, a3, hA3, hcell3, _⟩ := cell w3 hw3
      rw [e1]
      refine ⟨hb2, a2, hA2, _, _, _, hcell2, hb, a3, hA3, _, _, _, hcell3, fun w4 x4 => Pure.mono (r47_before l[i - 1] l[i] w4) ?_⟩
      have hw4 := kE hw3 x4
      rintro v w5 b5 rfl
      have hw5 := kP hw4 b5
      obtain ⟨g1, a6, hA6, g2⟩ := hpc w5 hw5
      refine ⟨_, rfl, fun h => bad 5 _ (by omega) (by rw [s1, if_pos ⟨_, hlast, decF h⟩]), fun h => ⟨g1, a6, hA6, _, g2, rest ?_ w5 hw5⟩⟩
      rintro ⟨q, hq, hnb⟩
      rw [hlast] at hq
      cases hq
      exact hnb (decT h)
    · obtain ⟨g1, a6, hA6, g2⟩ := hpc w3 hw3
      refine ⟨g1, a6, hA6, fun w4 x4 => ?_⟩
      obtain ⟨_, a7, hA7, g3⟩ := hpc w4 (kE hw3 x4)
      rw [hA6] at hA7
      cases hA7
      refine ⟨_, g3, rest ?_ w4 (kE hw3 x4)⟩
      rintro ⟨q, hq, _⟩
      have : i = 0 := by omega
      subst this
      simp at hq
theorem r47_Stowed {w : World} {A0 A1 A : Option Addr} {n0 c0 n1 c1 n c : Nat} {ps : List Pa} {hs : List Ho} {l : List Sw} (hc : CgIn w A0 n0 A1 n1 ps hs) (h : SlR w A 3 (l.map Sw.row)) (hl : l.length = n) (hn : n < 2147483648) :
    Pure Tryz.prog 18 #[.agg #[.slice A0 n0 c0, .slice A1 n1 c1], .slice A n c] w fun v _ => v = .int .i64 (stowedF ps hs l) := by
  refine F.garboardref47_Stowed.vc _ _ _ _ _ _ _ _ _ _ _ fun w1 x1 => ?_
  have hw1 := k0 x1
  refine Pure.mono (r47_Check (hc.keep hw1)) ?_
  rintro v w2 b2 rfl
  have hw2 := kP hw1 b2
  refine ⟨_, rfl, fun h => ?_, fun h0 => ?_⟩
  · unfold stowedF; rw [if_pos h]
  · have h0' := Decidable.not_not.1 h0
    exact r47_stowed_loop hc h hl hn h0' (fun _ => by unfold stowedF; rw [if_neg h0]) n 0 w2 rfl (by omega) hw2 rfl
end Go.Proofs.YtdnelnicnjplpaaGreatDoor.B

namespace Go.Proofs.YtdnelnicnjplpaaGreatDoor.B
open Go Go.RowKit Go.Proofs Go.Proofs.YtdnelnicnjplpaaGreatDoor.Vc

structure QT where
  b : Bool
  A : Option Addr
  n : Nat
  c : Nat
  A' : Option Addr
  n' : Nat
  c' : Nat
  r : Rat
def QT.is (x : QT) (w : World) : Prop := IsQ w x.b x.A x.n x.c x.A' x.n' x.c' x.r
def Qs (w : World) (L : List QT) : Prop := ∀ x ∈ L, x.is w
theorem Qs.below {w w' : World} {L : List QT} (h : Qs w L) (hb : Below w.heap.size w w') : Qs w' L := fun x hx => IsQ.below (h x hx) hb
theorem Qs.ext {w w' : World} {B : Nat} {ts : List Nat} {L : List QT} (h : Qs w L) (e : Ext B ts w w') (ht : 112 ∉ ts) : Qs w' L := fun x hx => IsQ.ext (h x hx) e ht
theorem Qs.add {w : World} {L : List QT} (h : Qs w L) {x : QT} (k : x.is w) : Qs w (x :: L) := fun y hy => by
  rcases List.mem_cons.1 hy with rfl | hy
  · exact k
  · exact h y hy
theorem Qs.nil {w : World} : Qs w [] := fun x hx => by cases hx
theorem QR.qt {r : Rat} {v : Value} {w : World} (h : QR r v w) : ∃ x : QT, x.r = r ∧ v = .agg #[.bool x.b, .slice x.A x.n x.c, .slice x.A' x.n' x.c'] ∧ x.is w := by
  obtain ⟨b, A, n, c, A', n', c', rfl, k⟩ := h
  exact ⟨⟨b, A, n, c, A', n', c', r⟩, rfl, rfl, k⟩
theorem q_Mul {w : World} {x y : QT} (hx : x.is w) (hy : y.is w) (sx : Big x.r) (sy : Big y.r) : Pure Tryz.prog 40 #[.agg #[.bool x.b, .slice x.A x.n x.c, .slice x.A' x.n' x.c'], .agg #[.bool y.b, .slice y.A y.n y.c, .slice y.A' y.n' y.c']] w (QR (x.r * y.r)) := ref3_Mul hx hy sx sy
theorem q_Add {w : World} {x y : QT} (hx : x.is w) (hy : y.is w) (sx : Big x.r) (sy : Big y.r) : Pure Tryz.prog 72 #[.agg #[.bool x.b, .slice x.A x.n x.c, .slice x.A' x.n' x.c'], .agg #[.bool y.b, .slice y.A y.n y.c, .slice y.A' y.n' y.c']] w (QR (x.r + y.r)) := ref3_Add hx hy sx sy
theorem q_To {w : World} {x : QT} (hx : x.is w) (sx : Big x.r) : Pure Tryz.prog 39 #[.agg #[.bool x.b, .slice x.A x.n x.c, .slice x.A' x.n' x.c']] w fun v _ => v = .string (rS x.r) := ref3_To hx sx

def selS (id : Int) (l : List Sw) : List Sw := l.filter fun s => decide (id = 0 ∨ s.hold = id)
theorem selS_snoc (id : Int) (l : List Sw) (s : Sw) : selS id (l ++ [s]) = selS id l ++ if id = 0 ∨ s.hold = id then [s] else [] := by
  unfold selS
  rw [List.filter_append]
  by_cases h : id = 0 ∨ s.hold = id
  · rw [if_pos h, List.filter_cons_of_pos (by simpa using h)]
    rfl
  · rw [if_neg h, List.filter_cons_of_neg (by simpa using h)]
    rfl
theorem selS_zero (l : List Sw) : selS 0 l = l := by
  unfold selS
  exact List.filter_eq_self.2 fun s _ => by simp
theorem selS_in {id : Int} (h : id ≠ 0) (l : List Sw) : selS id l = inS l id := by
  unfold selS inS
  exact List.filter_congr fun s _ => by simp [h]

section
variable {w0 : World} {A0 A1 A : Option Addr} {n0 c0 n1 c1 n c : Nat} {ps : List Pa} {hs : List Ho} {l : List Sw}

theorem sum_J7 (hc : CgIn w0 A0 n0 A1 n1 ps hs) (h : SlR w0 A 3 (l.map Sw.row)) (hl : l.length = n) (hok : LdOk ps hs l) {id : Int} {t0 t1 t2 t3 t4 t5 : ByteArray} {i : Nat} (hil : i < l.length) {ip ih' : Nat} (hip : pix ps l[i].parcel = some ip) (hih : hix hs l[i].hold = some ih') (hpl : ip < ps.length) (hhl : ih' < hs.length)
    (hsel : selS id (l.take (i + 1)) = selS id (l.take i) ++ [l[i]]) {K : Value → World → Prop}
    (next : ∀ (x0 x1 x2 x3 x4 x5 : QT) (w : World), Below w0.heap.size w0 w → Qs w [x5, x4, x3, x2, x1, x0] → x0.r = sumR (tP ps Pa.mass) (selS id (l.take (i + 1))) → x1.r = sumR (tP ps Pa.vol) (selS id (l.take (i + 1))) → x2.r = sumR (tP ps Pa.worth) (selS id (l.take (i + 1))) → x3.r = sumR (tH ps hs Ho.x) (selS id (l.take (i + 1))) → x4.r = sumR (tH ps hs Ho.y) (selS id (l.take (i + 1))) → x5.r = sumR (tH ps hs Ho.z) (selS id (l.take (i + 1))) → F.garboardref47_sum.L3 A n c id ((i : Int) + 1) A0 n0 c0 A1 n1 c1 t0 t1 t2 t3 t4 t5 x0.b x0.A x0.n x0.c x0.A' x0.n' x0.c' x1.b x1.A x1.n x1.c x1.A' x1.n' x1.c' x2.b x2.A x2.n x2.c x2.A' x2.n' x2.c' x3.b x3.A x3.n x3.c x3.A' x3.n' x3.c' x4.b x4.A x4.n x4.c x4.A' x4.n' x4.c' x5.b x5.A x5.n x5.c x5.A' x5.n' x5.c' w0.heap.size w K)
    {x0 x1 x2 x3 x4 x5 : QT} {w : World} (hw : Below w0.heap.size w0 w) (hq : Qs w [x5, x4, x3, x2, x1, x0]) (e0 : x0.r = sumR (tP ps Pa.mass) (selS id (l.take i))) (e1 : x1.r = sumR (tP ps Pa.vol) (selS id (l.take i))) (e2 : x2.r = sumR (tP ps Pa.worth) (selS id (l.take i))) (e3 : x3.r = sumR (tH ps hs Ho.x) (selS id (l.take i))) (e4 : x4.r = sumR (tH ps hs Ho.y) (selS id (l.take i))) (e5 : x5.r = sumR (tH ps hs Ho.z) (selS id (l.take i))) :
    F.garboardref47_sum.J7 A n c id i A0 n0 c0 A1 n1 c1 t0 t1 t2 t3 t4 t5 x0.b x0.A x0.n x0.c x0.A' x0.n' x0.c' x1.b x1.A x1.n x1.c x1.A' x1.n' x1.c' x2.b x2.A x2.n x2.c x2.A' x2.n' x2.c' x3.b x3.A x3.n x3.c x3.A' x3.n' x3.c' x4.b x4.A x4.n x4.c x4.A' x4.n' x4.c' x5.b x5.A x5.n x5.c x5.A' x5.n' x5.c' ps[ip].id ps[ip].units ps[ip].cls ps[ip].name ps[ip].mass ps[ip].vol ps[ip].worth hs[ih'].id hs[ih'].name hs[ih'].room hs[ih'].most hs[ih'].x hs[ih'].y hs[ih'].z w0.heap.size w K := by
  have hn40 := hok.n
  have hmem : l[i] ∈ l := List.getElem_mem hil
  obtain ⟨⟨b0, b1, b2⟩, b3, b4, b5⟩ := ((hok.take i).filter fun s => decide (id = 0 ∨ s.hold = id)).smL hc
  obtain ⟨m1, m2, m3⟩ := hok.smP hc hmem
  obtain ⟨m4, m5, m6⟩ := hok.smH hc hmem
  obtain ⟨⟨k0, k1, k2⟩, k3, k4, k5⟩ := hok.smT hc hmem
  have hu := hok.u l[i] hmem
  have hunB : Big ((l[i].units : Int) : Rat) := (sm_n hu.1 hu.2).mono (by omega)
  have hvp := hok.c.vp _ (List.getElem_mem hpl)
  have hvh := hok.c.vh _ (List.getElem_mem hhl)
  have sp := hc.sp _ (List.getElem_mem hpl)
  have sh := hc.sh _ (List.getElem_mem hhl)
  unfold vP at hvp
  unfold vH at hvh
  simp only [Bool.and_eq_true] at hvp hvh
  have big : ∀ {x : Rat}, Sm 2001 x → Big x := fun h => h.mono (by omega)
  have bg : ∀ {x : Rat}, Sm 1000 x → Big x := fun h => h.mono (by omega)
  have p1 := gP_at hip (List.getElem?_eq_getElem hpl)
  have p2 := gH_at hih (List.getElem?_eq_getElem hhl)
  obtain ⟨hb, a, hA, _, hcell⟩ := (h.keep hw (Nat.le_refl _)).at_ (fun _ => rfl) hl hil
  refine F.garboardref47_sum.J7.step _ _ _ _ _ _ _ _ _ _ _ _ _ _ _ _ _ _ _ _ _ _ _ _ _ _ _ _ _ _ _ _ _ _ _ _ _ _ _ _ _ _ _ _ _ _ _ _ _ _ _ _ _ _ _ _ _ _ _ _ _ _ _ _ _ _ _ _ _ _ _ _ _ _ _ _ ⟨hb, a, hA, _, hcell 2 _ rfl, Pure.mono (ref3_Int (by omega)) ?_⟩
  rintro v w1 b1' h1
  obtain ⟨nq, en, rfl, hnq⟩ := h1.qt
  have hw := kP hw b1'
  have hq := (hq.below b1').add hnq
  clear h1 hnq b1'
  refine ⟨_, _, _, _, _, _, _, rfl, fun w2 y2 => ?_⟩
  have hw := kE hw y2
  have hq := hq.ext y2 (by decide)
  clear y2
  refine Pure.mono (ref47_Num sp.mass hvp.1.1 _) ?_
  rintro v w1 b1' h1
  obtain ⟨f0, ef0, rfl, hf0⟩ := h1.qt
  have hw := kP hw b1'
  have hq := (hq.below b1').add hf0
  clear h1 hf0 b1'
  have ef0 : f0.r = gP ps Pa.mass l[i].parcel := by rw [ef0, p1]
  refine ⟨_, _, _, _, _, _, _, rfl, fun w2 y2 => ?_⟩
  have hw := kE hw y2
  have hq := hq.ext y2 (by decide)
  clear y2
  refine Pure.mono (q_Mul (hq _ (by simp)) (hq _ (by simp)) (by rw [en]; exact hunB) (by rw [ef0]; exact bg m1)) ?_
  rintro v w1 b1' h1
  obtain ⟨s0, es0, rfl, hs0⟩ := h1.qt
  have hw := kP hw b1'
  have hq := (hq.below b1').add hs0
  clear h1 hs0 b1'
  have es0 : s0.r = tP ps Pa.mass l[i] := by rw [es0, en, ef0]; rfl
  refine ⟨_, _, _, _, _, _, _, rfl, fun w2 y2 => ?_⟩
  have hw := kE hw y2
  have hq := hq.ext y2 (by decide)
  clear y2
  refine Pure.mono (q_Add (hq _ (by simp)) (hq _ (by simp)) (by rw [e0]; exact b0) (by rw [es0]; exact big k0)) ?_
  rintro v w1 b1' h1
  obtain ⟨z0, ez0, rfl, hz0⟩ := h1.qt
  have hw := kP hw b1'
  have hq := (hq.below b1').add hz0
  clear h1 hz0 b1'
  refine ⟨_, _, _, _, _, _, _, rfl, fun w2 y2 => ?_⟩
  have hw := kE hw y2
  have hq := hq.ext y2 (by decide)
  clear y2
  refine Pure.mono (ref47_Num sp.vol hvp.1.2 _) ?_
  rintro v w1 b1' h1
  obtain ⟨f1, ef1, rfl, hf1⟩ := h1.qt
  have hw := kP hw b1'
  have hq := (hq.below b1').add hf1
  clear h1 hf1 b1'
  have ef1 : f1.r = gP ps Pa.vol l[i].parcel := by rw [ef1, p1]
  refine ⟨_, _, _, _, _, _, _, rfl, Pure.mono (q_Mul (hq _ (by simp)) (hq _ (by simp)) (by rw [en]; exact hunB) (by rw [ef1]; exact bg m2)) ?_⟩
  rintro v w1 b1' h1
  obtain ⟨s1, es1, rfl, hs1⟩ := h1.qt
  have hw := kP hw b1'
  have hq := (hq.below b1').add hs1
  clear h1 hs1 b1'
  have es1 : s1.r = tP ps Pa.vol l[i] := by rw [es1, en, ef1]; rfl
  refine ⟨_, _, _, _, _, _, _, rfl, Pure.mono (q_Add (hq _ (by simp)) (hq _ (by simp)) (by rw [e1]; exact b1) (by rw [es1]; exact big k1)) ?_⟩
  rintro v w1 b1' h1
  obtain ⟨z1, ez1, rfl, hz1⟩ := h1.qt
  have hw := kP hw b1'
  have hq := (hq.below b1').add hz1
  clear h1 hz1 b1'
  refine ⟨_, _, _, _, _, _, _, rfl, fun w2 y2 => ?_⟩
  have hw := kE hw y2
  have hq := hq.ext y2 (by decide)
  clear y2
  refine Pure.mono (ref47_Num sp.worth hvp.2 _) ?_
  rintro v w1 b1' h1
  obtain ⟨f2, ef2, rfl, hf2⟩ := h1.qt
  have hw := kP hw b1'
  have hq := (hq.below b1').add hf2
  clear h1 hf2 b1'
  have ef2 : f2.r = gP ps Pa.worth l[i].parcel := by rw [ef2, p1]
  refine ⟨_, _, _, _, _, _, _, rfl, Pure.mono (q_Mul (hq _ (by simp)) (hq _ (by simp)) (by rw [en]; exact hunB) (by rw [ef2]; exact bg m3)) ?_⟩
  rintro v w1 b1' h1
  obtain ⟨s2, es2, rfl, hs2⟩ := h1.qt
  have hw := kP hw b1'
  have hq := (hq.below b1').add hs2
  clear h1 hs2 b1'
  have es2 : s2.r = tP ps Pa.worth l[i] := by rw [es2, en, ef2]; rfl
  refine ⟨_, _, _, _, _, _, _, rfl, Pure.mono (q_Add (hq _ (by simp)) (hq _ (by simp)) (by rw [e2]; exact b2) (by rw [es2]; exact big k2)) ?_⟩
  rintro v w1 b1' h1
  obtain ⟨z2, ez2, rfl, hz2⟩ := h1.qt
  have hw := kP hw b1'
  have hq := (hq.below b1').add hz2
  clear h1 hz2 b1'
  refine ⟨_, _, _, _, _, _, _, rfl, fun w2 y2 => ?_⟩
  have hw := kE hw y2
  have hq := hq.ext y2 (by decide)
  clear y2
  refine Pure.mono (ref47_Num sh.x hvh.1.1.2 _) ?_
  rintro v w1 b1' h1
  obtain ⟨f3, ef3, rfl, hf3⟩ := h1.qt
  have hw := kP hw b1'
  have hq := (hq.below b1').add hf3
  clear h1 hf3 b1'
  have ef3 : f3.r = gH hs Ho.x l[i].hold := by rw [ef3, p2]
  refine ⟨_, _, _, _, _, _, _, rfl, Pure.mono (q_Mul (hq _ (by simp)) (hq _ (by simp)) (by rw [es0]; exact big k0) (by rw [ef3]; exact bg m4)) ?_⟩
  rintro v w1 b1' h1
  obtain ⟨s3, es3, rfl, hs3⟩ := h1.qt
  have hw := kP hw b1'
  have hq := (hq.below b1').add hs3
  clear h1 hs3 b1'
  have es3 : s3.r = tH ps hs Ho.x l[i] := by rw [es3, es0, ef3]; rfl
  refine ⟨_, _, _, _, _, _, _, rfl, Pure.mono (q_Add (hq _ (by simp)) (hq _ (by simp)) (by rw [e3]; exact b3) (by rw [es3]; exact big k3)) ?_⟩
  rintro v w1 b1' h1
  obtain ⟨z3, ez3, rfl, hz3⟩ := h1.qt
  have hw := kP hw b1'
  have hq := (hq.below b1').add hz3
  clear h1 hz3 b1'
  refine ⟨_, _, _, _, _, _, _, rfl, fun w2 y2 => ?_⟩
  have hw := kE hw y2
  have hq := hq.ext y2 (by decide)
  clear y2
  refine Pure.mono (ref47_Num sh.y hvh.1.2 _) ?_
  rintro v w1 b1' h1
  obtain ⟨f4, ef4, rfl, hf4⟩ := h1.qt
  have hw := kP hw b1'
  have hq := (hq.below b1').add hf4
  clear h1 hf4 b1'
  have ef4 : f4.r = gH hs Ho.y l[i].hold := by rw [ef4, p2]
  refine ⟨_, _, _, _, _, _, _, rfl, Pure.mono (q_Mul (hq _ (by simp)) (hq _ (by simp)) (by rw [es0]; exact big k0) (by rw [ef4]; exact bg m5)) ?_⟩
  rintro v w1 b1' h1
  obtain ⟨s4, es4, rfl, hs4⟩ := h1.qt
  have hw := kP hw b1'
  have hq := (hq.below b1').add hs4
  clear h1 hs4 b1'
  have es4 : s4.r = tH ps hs Ho.y l[i] := by rw [es4, es0, ef4]; rfl
  refine ⟨_, _, _, _, _, _, _, rfl, Pure.mono (q_Add (hq _ (by simp)) (hq _ (by simp)) (by rw [e4]; exact b4) (by rw [es4]; exact big k4)) ?_⟩
  rintro v w1 b1' h1
  obtain ⟨z4, ez4, rfl, hz4⟩ := h1.qt
  have hw := kP hw b1'
  have hq := (hq.below b1').add hz4
  clear h1 hz4 b1'
  refine ⟨_, _, _, _, _, _, _, rfl, fun w2 y2 => ?_⟩
  have hw := kE hw y2
  have hq := hq.ext y2 (by decide)
  clear y2
  refine Pure.mono (ref47_Num sh.z hvh.2 _) ?_
  rintro v w1 b1' h1
  obtain ⟨f5, ef5, rfl, hf5⟩ := h1.qt
  have hw := kP hw b1'
  have hq := (hq.below b1').add hf5
  clear h1 hf5 b1'
  have ef5 : f5.r = gH hs Ho.z l[i].hold := by rw [ef5, p2]
  refine ⟨_, _, _, _, _, _, _, rfl, Pure.mono (q_Mul (hq _ (by simp)) (hq _ (by simp)) (by rw [es0]; exact big k0) (by rw [ef5]; exact bg m6)) ?_⟩
  rintro v w1 b1' h1
  obtain ⟨s5, es5, rfl, hs5⟩ := h1.qt
  have hw := kP hw b1'
  have hq := (hq.below b1').add hs5
  clear h1 hs5 b1'
  have es5 : s5.r = tH ps hs Ho.z l[i] := by rw [es5, es0, ef5]; rfl
  refine ⟨_, _, _, _, _, _, _, rfl, Pure.mono (q_Add (hq _ (by simp)) (hq _ (by simp)) (by rw [e5]; exact b5) (by rw [es5]; exact big k5)) ?_⟩
  rintro v w1 b1' h1
  obtain ⟨z5, ez5, rfl, hz5⟩ := h1.qt
  have hw := kP hw b1'
  have hq := (hq.below b1').add hz5
  clear h1 hz5 b1'
  refine ⟨_, _, _, _, _, _, _, rfl, by simp only [inR]; omega, fun w2 y2 => ?_⟩
  have hw := kE hw y2
  have hq := hq.ext y2 (by decide)
  exact next z0 z1 z2 z3 z4 z5 w2 hw (fun x hx => hq x (by simp only [List.mem_cons, List.not_mem_nil, or_false] at hx ⊢; rcases hx with rfl | rfl | rfl | rfl | rfl | rfl <;> simp)) (by rw [ez0, e0, es0, hsel, sumR_snoc]) (by rw [ez1, e1, es1, hsel, sumR_snoc]) (by rw [ez2, e2, es2, hsel, sumR_snoc]) (by rw [ez3, e3, es3, hsel, sumR_snoc]) (by rw [ez4, e4, es4, hsel, sumR_snoc]) (by rw [ez5, e5, es5, hsel, sumR_snoc])
theorem sum_J6 (hc : CgIn w0 A0 n0 A1 n1 ps hs) (h : SlR w0 A 3 (l.map Sw.row)) (hl : l.length = n) {id : Int} {t0 t1 t2 t3 t4 t5 : ByteArray} {i : Nat} (hil : i < l.length) {ip ih' : Nat} (hip : pix ps l[i].parcel = some ip) (hih : hix hs l[i].hold = some ih') (hpl : ip < ps.length) (hhl : ih' < hs.length) {K : Value → World → Prop}
    {x0 x1 x2 x3 x4 x5 : QT} {w : World} (hw : Below w0.heap.size w0 w) (hq : Qs w [x5, x4, x3, x2, x1, x0])
    (next : ∀ (w : World), Below w0.heap.size w0 w → Qs w [x5, x4, x3, x2, x1, x0] → F.garboardref47_sum.J7 A n c id i A0 n0 c0 A1 n1 c1 t0 t1 t2 t3 t4 t5 x0.b x0.A x0.n x0.c x0.A' x0.n' x0.c' x1.b x1.A x1.n x1.c x1.A' x1.n' x1.c' x2.b x2.A x2.n x2.c x2.A' x2.n' x2.c' x3.b x3.A x3.n x3.c x3.A' x3.n' x3.c' x4.b x4.A x4.n x4.c x4.A' x4.n' x4.c' x5.b x5.A x5.n x5.c x5.A' x5.n' x5.c' ps[ip].id ps[ip].units ps[ip].cls ps[ip].name ps[ip].mass ps[ip].vol ps[ip].worth hs[ih'].id hs[ih'].name hs[ih'].room hs[ih'].most hs[ih'].x hs[ih'].y hs[ih'].z w0.heap.size w K) :
    F.garboardref47_sum.J6 A n c id i A0 n0 c0 A1 n1 c1 t0 t1 t2 t3 t4 t5 x0.b x0.A x0.n x0.c x0.A' x0.n' x0.c' x1.b x1.A x1.n x1.c x1.A' x1.n' x1.c' x2.b x2.A x2.n x2.c x2.A' x2.n' x2.c' x3.b x3.A x3.n x3.c x3.A' x3.n' x3.c' x4.b x4.A x4.n x4.c x4.A' x4.n' x4.c' x5.b x5.A x5.n x5.c x5.A' x5.n' x5.c' w0.heap.size w K := by
  obtain ⟨hb, a, hA, _, hcell⟩ := (h.keep hw (Nat.le_refl _)).at_ (fun _ => rfl) hl hil
  obtain ⟨hbp, ap, hAp, _⟩ := hc.p.at_ (fun _ => rfl) hc.lp hpl
  obtain ⟨hbh, ah, hAh, _⟩ := hc.h.at_ (fun _ => rfl) hc.lh hhl
  have cP : ∀ w, Below w0.heap.size w0 w → CellsAt w (ap.add ((ip : Int).toNat * 7)) (ps[ip].row) := fun w hw => by
    obtain ⟨_, a', hA', hc', _⟩ := (hc.p.keep hw (Nat.le_refl _)).at_ (fun _ => rfl) hc.lp hpl
    rw [hAp] at hA'
    cases hA'
    exact hc'
  have cH : ∀ w, Below w0.heap.size w0 w → CellsAt w (ah.add ((ih' : Int).toNat * 7)) (hs[ih'].row) := fun w hw => by
    obtain ⟨_, a', hA', hc', _⟩ := (hc.h.keep hw (Nat.le_refl _)).at_ (fun _ => rfl) hc.lh hhl
    rw [hAh] at hA'
    cases hA'
    exact hc'
  have par : ∀ w, Below w0.heap.size w0 w → Pure Tryz.prog 55 #[.agg #[.slice A0 n0 c0, .slice A1 n1 c1], .int .i64 l[i].parcel] w fun v _ => v = .int .i64 (ip : Int) := fun w hw => by
    have := r47_Parcel (c0 := c0) (c1 := c1) (hc.keep hw) l[i].parcel
    rw [hip] at this
    exact this
  have hol : ∀ w, Below w0.heap.size w0 w → Pure Tryz.prog 56 #[.agg #[.slice A0 n0 c0, .slice A1 n1 c1], .int .i64 l[i].hold] w fun v _ => v = .int .i64 (ih' : Int) := fun w hw => by
    have := r47_Hold (c0 := c0) (c1 := c1) (hc.keep hw) l[i].hold
    rw [hih] at this
    exact this
  have leaf : ∀ (ts ts' : List Nat), 112 ∉ ts → 112 ∉ ts' → ∀ (w : World), Below w0.heap.size w0 w → Qs w [x5, x4, x3, x2, x1, x0] → ∀ w24, Ext w0.heap.size ts w w24 → ∃ (z0 : Int) (z1 z2 z3 z4 z5 z6 : ByteArray), CellsAt w24 (ah.add ((ih' : Int).toNat * 7)) [.int .i64 z0, .string z1, .string z2, .string z3, .string z4, .string z5, .string z6] ∧ ∀ w28, Ext w0.heap.size ts' w24 w28 → F.garboardref47_sum.J7 A n c id i A0 n0 c0 A1 n1 c1 t0 t1 t2 t3 t4 t5 x0.b x0.A x0.n x0.c x0.A' x0.n' x0.c' x1.b x1.A x1.n x1.c x1.A' x1.n' x1.c' x2.b x2.A x2.n x2.c x2.A' x2.n' x2.c' x3.b x3.A x3.n x3.c x3.A' x3.n' x3.c' x4.b x4.A x4.n x4.c x4.A' x4.n' x4.c' x5.b x5.A x5.n x5.c x5.A' x5.n' x5.c' ps[ip].id ps[ip].units ps[ip].cls ps[ip].name ps[ip].mass ps[ip].vol ps[ip].worth z0 z1 z2 z3 z4 z5 z6 w0.heap.size w28 K :=
    fun ts ts' h1 h2 w hw hq w24 y => ⟨_, _, _, _, _, _, _, cH w24 (kE hw y), fun w28 y28 => next w28 (kE (kE hw y) y28) ((hq.ext y h1).ext y28 h2)⟩
  refine F.garboardref47_sum.J6.step _ _ _ _ _ _ _ _ _ _ _ _ _ _ _ _ _ _ _ _ _ _ _ _ _ _ _ _ _ _ _ _ _ _ _ _ _ _ _ _ _ _ _ _ _ _ _ _ _ _ _ _ _ _ _ _ _ _ _ _ _ _ ⟨hb, a, hA, _, hcell 1 _ rfl, hb, a, hA, _, hcell 0 _ rfl, fun w7 y7 => ?_, fun w55 y55 => ?_⟩
  · have hw7 := kE hw y7
    have hq7 := hq.ext y7 (by decide)
    refine Pure.mono (par w7 hw7) ?_
    rintro v w10 h10 rfl
    have hw10 := kP hw7 h10
    have hq10 := hq7.below h10
    refine ⟨_, rfl, hbp, ap, hAp, _, _, _, _, _, _, _, cP w hw, fun w19 y19 => ?_, fun w34 y34 => ?_⟩
    · have hw19 := kE hw10 y19
      refine Pure.mono (hol w19 hw19) ?_
      rintro v w22 h22 rfl
      have hw22 := kP hw19 h22
      have hq22 := (hq10.ext y19 (by decide)).below h22
      exact ⟨_, rfl, hbh, ah, hAh, leaf _ _ (by decide) (by decide) w22 hw22 hq22, leaf _ _ (by decide) (by decide) w22 hw22 hq22⟩
    · have hw34 := kE hw10 y34
      refine Pure.mono (hol w34 hw34) ?_
      rintro v w37 h37 rfl
      have hw37 := kP hw34 h37
      have hq37 := (hq10.ext y34 (by decide)).below h37
      exact ⟨_, rfl, ⟨hbh, ah, hAh, leaf _ _ (by decide) (by decide) w37 hw37 hq37, leaf _ _ (by decide) (by decide) w37 hw37 hq37⟩, hbh, ah, hAh, leaf _ _ (by decide) (by decide) w37 hw37 hq37⟩
  · have hw55 := kE hw y55
    refine Pure.mono (par w55 hw55) ?_
    rintro v w58 h58 rfl
    have hw58 := kP hw55 h58
    have hq58 := (hq.ext y55 (by decide)).below h58
    refine ⟨_, rfl, hbp, ap, hAp, _, _, _, _, _, _, _, cP w hw, fun w67 y67 => ?_⟩
    have hw67 := kE hw58 y67
    refine Pure.mono (hol w67 hw67) ?_
    rintro v w70 h70 rfl
    have hw70 := kP hw67 h70
    have hq70 := (hq58.ext y67 (by decide)).below h70
    exact ⟨_, rfl, hbh, ah, hAh, leaf _ _ (by decide) (by decide) w70 hw70 hq70, leaf _ _ (by decide) (by decide) w70 hw70 hq70⟩
theorem sum_L3 (hc : CgIn w0 A0 n0 A1 n1 ps hs) (h : SlR w0 A 3 (l.map Sw.row)) (hl : l.length = n) (hok : LdOk ps hs l) (id : Int) (t0 t1 t2 t3 t4 t5 : ByteArray) :
    ∀ (d i : Nat) (x0 x1 x2 x3 x4 x5 : QT) (w : World), n - i = d → i ≤ n → Below w0.heap.size w0 w → Qs w [x5, x4, x3, x2, x1, x0] → x0.r = sumR (tP ps Pa.mass) (selS id (l.take i)) → x1.r = sumR (tP ps Pa.vol) (selS id (l.take i)) → x2.r = sumR (tP ps Pa.worth) (selS id (l.take i)) → x3.r = sumR (tH ps hs Ho.x) (selS id (l.take i)) → x4.r = sumR (tH ps hs Ho.y) (selS id (l.take i)) → x5.r = sumR (tH ps hs Ho.z) (selS id (l.take i)) →
      F.garboardref47_sum.L3 A n c id i A0 n0 c0 A1 n1 c1 t0 t1 t2 t3 t4 t5 x0.b x0.A x0.n x0.c x0.A' x0.n' x0.c' x1.b x1.A x1.n x1.c x1.A' x1.n' x1.c' x2.b x2.A x2.n x2.c x2.A' x2.n' x2.c' x3.b x3.A x3.n x3.c x3.A' x3.n' x3.c' x4.b x4.A x4.n x4.c x4.A' x4.n' x4.c' x5.b x5.A x5.n x5.c x5.A' x5.n' x5.c' w0.heap.size w fun v _ => v = ldF ps hs (selS id l) := by
  intro d
  induction d with
  | zero =>
    intro i x0 x1 x2 x3 x4 x5 w hd hi hw hq e0 e1 e2 e3 e4 e5
    rw [List.take_of_length_le (by omega)] at e0 e1 e2 e3 e4 e5
    obtain ⟨⟨b0, b1, b2⟩, b3, b4, b5⟩ := (hok.filter fun s => decide (id = 0 ∨ s.hold = id)).smL hc
    refine F.garboardref47_sum.L3.step _ _ _ _ _ _ _ _ _ _ _ _ _ _ _ _ _ _ _ _ _ _ _ _ _ _ _ _ _ _ _ _ _ _ _ _ _ _ _ _ _ _ _ _ _ _ _ _ _ _ _ _ _ _ _ _ _ _ _ _ _ _ ⟨fun h => by omega, fun _ w2 y2 => ?_⟩
    have hq := hq.ext y2 (by decide)
    refine Pure.mono (q_To (hq x0 (by simp)) (by rw [e0]; exact b0)) ?_
    rintro v w3 h1 rfl
    have hq := hq.below h1
    clear h1
    refine ⟨_, rfl, Pure.mono (q_To (hq x1 (by simp)) (by rw [e1]; exact b1)) ?_⟩
    rintro v w4 h1 rfl
    have hq := hq.below h1
    clear h1
    refine ⟨_, rfl, Pure.mono (q_To (hq x2 (by simp)) (by rw [e2]; exact b2)) ?_⟩
    rintro v w5 h1 rfl
    have hq := hq.below h1
    clear h1
    refine ⟨_, rfl, Pure.mono (q_To (hq x3 (by simp)) (by rw [e3]; exact b3)) ?_⟩
    rintro v w6 h1 rfl
    have hq := hq.below h1
    clear h1
    refine ⟨_, rfl, Pure.mono (q_To (hq x4 (by simp)) (by rw [e4]; exact b4)) ?_⟩
    rintro v w7 h1 rfl
    have hq := hq.below h1
    clear h1
    refine ⟨_, rfl, Pure.mono (q_To (hq x5 (by simp)) (by rw [e5]; exact b5)) ?_⟩
    rintro v w8 h1 rfl
    have hq := hq.below h1
    clear h1
    refine ⟨_, rfl, fun w9 _ => ?_⟩
    rw [e0, e1, e2, e3, e4, e5]
    rfl
  | succ d ih =>
    intro i x0 x1 x2 x3 x4 x5 w hd hi hw hq e0 e1 e2 e3 e4 e5
    have hil : i < l.length := by omega
    have hn40 := hok.n
    have et : l.take (i + 1) = l.take i ++ [l[i]] := by rw [List.take_add_one, List.getElem?_eq_getElem hil]; rfl
    have es := selS_snoc id (l.take i) l[i]
    rw [← et] at es
    have e3' : (i : Int) + 1 = ((i + 1 : Nat) : Int) := by omega
    obtain ⟨ip, ih', hip, hih⟩ := hok.known l[i] (List.getElem_mem hil)
    obtain ⟨hpl, _⟩ := pix_lt hip
    obtain ⟨hhl, _⟩ := hix_lt hih
    obtain ⟨hb, a, hA, _, hcell⟩ := (h.keep hw (Nat.le_refl _)).at_ (fun _ => rfl) hl hil
    have take : (id = 0 ∨ l[i].hold = id) → F.garboardref47_sum.J6 A n c id i A0 n0 c0 A1 n1 c1 t0 t1 t2 t3 t4 t5 x0.b x0.A x0.n x0.c x0.A' x0.n' x0.c' x1.b x1.A x1.n x1.c x1.A' x1.n' x1.c' x2.b x2.A x2.n x2.c x2.A' x2.n' x2.c' x3.b x3.A x3.n x3.c x3.A' x3.n' x3.c' x4.b x4.A x4.n x4.c x4.A' x4.n' x4.c' x5.b x5.A x5.n x5.c x5.A' x5.n' x5.c' w0.heap.size w fun v _ => v = ldF ps hs (selS id l) := fun k => by
      rw [if_pos k] at es
      refine sum_J6 hc h hl hil hip hih hpl hhl hw hq fun w' hw' hq' => ?_
      refine sum_J7 hc h hl hok hil hip hih hpl hhl es (fun y0 y1 y2 y3 y4 y5 w2 hw2 hq2 f0 f1 f2 f3 f4 f5 => ?_) hw' hq' e0 e1 e2 e3 e4 e5
      rw [e3']
      exact ih (i + 1) y0 y1 y2 y3 y4 y5 w2 (by omega) (by omega) hw2 hq2 f0 f1 f2 f3 f4 f5
    refine F.garboardref47_sum.L3.step _ _ _ _ _ _ _ _ _ _ _ _ _ _ _ _ _ _ _ _ _ _ _ _ _ _ _ _ _ _ _ _ _ _ _ _ _ _ _ _ _ _ _ _ _ _ _ _ _ _ _ _ _ _ _ _ _ _ _ _ _ _ ⟨fun _ => ⟨fun hz => ⟨hb, a, hA, _, hcell 0 _ rfl, fun hne => ⟨by simp only [inR]; omega, ?_⟩, fun heq => take (.inr (Decidable.not_not.1 heq))⟩, fun hz => take (.inl (Decidable.not_not.1 hz))⟩, fun h => by omega⟩
    rw [if_neg (fun k => k.elim hz hne), List.append_nil] at es
    rw [e3']
    exact ih (i + 1) x0 x1 x2 x3 x4 x5 w (by omega) (by omega) hw hq (by rw [es]; exact e0) (by rw [es]; exact e1) (by rw [es]; exact e2) (by rw [es]; exact e3) (by rw [es]; exact e4) (by rw [es]; exact e5)
theorem r47_sum (hc : CgIn w0 A0 n0 A1 n1 ps hs) (h : SlR w0 A 3 (l.map Sw.row)) (hl : l.length = n) (hok : LdOk ps hs l) (id : Int) :
    Pure Tryz.prog 60 #[.agg #[.slice A0 n0 c0, .slice A1 n1 c1], .slice A n c, .int .i64 id] w0 fun v _ => v = ldF ps hs (selS id l) := by
  refine F.garboardref47_sum.vc _ _ _ _ _ _ _ _ _ _ _ _ fun w1 y1 => ?_
  have hw := k0 y1
  have hq : Qs w1 [] := Qs.nil
  refine Pure.mono (ref3_Int (by decide)) ?_
  rintro v w2 h1 k0
  obtain ⟨x0, e0, rfl, hx⟩ := k0.qt
  have hw := kP hw h1
  have hq := (hq.below h1).add hx
  clear h1 hx
  refine ⟨_, _, _, _, _, _, _, rfl, Pure.mono (ref3_Int (by decide)) ?_⟩
  rintro v w3 h1 k1
  obtain ⟨x1, e1, rfl, hx⟩ := k1.qt
  have hw := kP hw h1
  have hq := (hq.below h1).add hx
  clear h1 hx
  refine ⟨_, _, _, _, _, _, _, rfl, Pure.mono (ref3_Int (by decide)) ?_⟩
  rintro v w4 h1 k2
  obtain ⟨x2, e2, rfl, hx⟩ := k2.qt
  have hw := kP hw h1
  have hq := (hq.below h1).add hx
  clear h1 hx
  refine ⟨_, _, _, _, _, _, _, rfl, Pure.mono (ref3_Int (by decide)) ?_⟩
  rintro v w5 h1 k3
  obtain ⟨x3, e3, rfl, hx⟩ := k3.qt
  have hw := kP hw h1
  have hq := (hq.below h1).add hx
  clear h1 hx
  refine ⟨_, _, _, _, _, _, _, rfl, Pure.mono (ref3_Int (by decide)) ?_⟩
  rintro v w6 h1 k4
  obtain ⟨x4, e4, rfl, hx⟩ := k4.qt
  have hw := kP hw h1
  have hq := (hq.below h1).add hx
  clear h1 hx
  refine ⟨_, _, _, _, _, _, _, rfl, Pure.mono (ref3_Int (by decide)) ?_⟩
  rintro v w7 h1 k5
  obtain ⟨x5, e5, rfl, hx⟩ := k5.qt
  have hw := kP hw h1
  have hq := (hq.below h1).add hx
  clear h1 hx
  refine ⟨_, _, _, _, _, _, _, rfl, fun w9 y9 => ?_⟩
  exact sum_L3 (c := c) (c0 := c0) (c1 := c1) hc h hl hok id _ _ _ _ _ _ n 0 x0 x1 x2 x3 x4 x5 w9 rfl (by omega) (kE hw y9) (hq.ext y9 (by decide)) (by rw [e0]; simp [selS, sumR]) (by rw [e1]; simp [selS, sumR]) (by rw [e2]; simp [selS, sumR]) (by rw [e3]; simp [selS, sumR]) (by rw [e4]; simp [selS, sumR]) (by rw [e5]; simp [selS, sumR])
end
end Go.Proofs.YtdnelnicnjplpaaGreatDoor.B
