/- Part 3 of the proofs that: the statements about sensors hold -/
import Derived.Test.YtdoailkigecmkaaGreatDoorG2
import Derived.RangeFuncNested
import Derived.RangeFuncBound
import Derived.RangeFuncCalls
import Derived.RangeFuncLeaves
import Derived.Shelf.Abstract
import Derived.Shelf.RegionOpen
import Derived.WalkKit
import Derived.OwnWalkIn
import Derived.TacticsInMore
import Derived.LoopNIn
import Derived.LoopIn
import Derived.Shelf.Strings.Builder1
import Derived.Shelf.Strings.Builder2
import Derived.Shelf.Small.Wraps
import Derived.Shelf.Strings.BuilderF
import Derived.Shelf.Strings.BuilderK
import Derived.Shelf.Strconv.Itoa0
import Derived.Shelf.Strconv.Itoa1
import Derived.Shelf.LaysM
import Derived.Shelf.Strconv.Itoa2
import Derived.Shelf.Strconv.Itoa3
import Derived.Shelf.Strconv.Itoa4
import Derived.Shelf.Strconv.ParseIntEmpty
import Derived.Shelf.Strconv.Clone
import Derived.Shelf.Strconv.SyntaxError
import Derived.Shelf.LaysC
import Derived.Shelf.Strconv.ToError
import Derived.Shelf.Strconv.Lower
import Derived.Shelf.Strconv.ParseUint10
import Derived.Shelf.Strconv.ParseUint10Empty
import Derived.Shelf.Strconv.ParseUint10Any
import Derived.Shelf.Strconv.ParseInt10
import Derived.Shelf.Strconv.RangeError
import Derived.Shelf.Strconv.ToErrorRange
import Derived.Shelf.Strconv.ParseUintEmpty
import Derived.Shelf.Strconv.ParseUint10b64
import Derived.Shelf.Strconv.ParseUint10b32
import Derived.Shelf.Strconv.ParseUint10b16
import Derived.Shelf.Strconv.ParseUint10b8
import Derived.Shelf.Strconv.ParseUint10At
import Derived.Shelf.Strconv.ParseInt10At64
import Derived.Shelf.Strconv.ParseInt10At32
import Derived.Shelf.Strconv.ParseInt10At16
import Derived.Shelf.Strconv.ParseInt10At8
import Derived.Shelf.Strconv.ParseInt10All
import Derived.Shelf.Strconv.ParseIntPublic10
import Derived.Ground.MpProg
import Derived.Shelf.Pu.ParseUintPublic10
import Derived.Shelf.Strings.Search1
import Derived.Shelf.Strings.Search2
import Derived.Shelf.Strings.Cut
import Derived.Shelf.Strings.Shaped
import Derived.Shelf.Strings.Prefix
import Derived.Shelf.Bits.Mul64
import Derived.Shelf.Strings.Repeat
import Derived.Test.YtdoailkigecmkaaGreatDoorProg
set_option linter.unusedVariables false
set_option linter.unusedSimpArgs false
namespace Go.Proofs.YtdoailkigecmkaaGreatDoor.B
open Go Go.RowKit Go.Proofs Go.Proofs.YtdoailkigecmkaaGreatDoor.Vc

def elOk (P : Program) (t e : TypeId) (size bytes : Nat) : Bool := match P.underlying t, P.info? e with
  | some (.slice e'), some i => match i.zero with
    | some z => Nat.beq e' e && Nat.beq i.size size && Nat.beq i.bytes bytes && Nat.beq z.cells.size size && Nat.blt 0 size && Nat.ble size 1024
    | none => false
  | _, _ => false
theorem El.of {P : Program} {t e size bytes : Nat} (h : elOk P t e size bytes = true) : El P t e size bytes := by
  unfold elOk at h
  split at h
  · rename_i e' i h1 h2
    split at h
    · rename_i z hz
      simp only [Bool.and_eq_true, Nat.beq_eq, Nat.ble_eq, Nat.blt_eq] at h
      obtain ⟨⟨⟨⟨⟨rfl, h3⟩, h4⟩, h5⟩, h6⟩, h7⟩ := h
      exact ⟨h1, ⟨i, z, h2, hz, h3, h4, h5⟩, h6, h7⟩
    · cases h
  · cases h
theorem el_num : El Tryz.prog 176 106 1 4 := El.of (by kernel_rfl)

@[irreducible] def KLim : Nat := 100000
theorem klim : KLim = 100000 := by unfold KLim; rfl
@[irreducible] def Lim : Nat := 1000000000 ^ KLim

theorem IsN.len {w : World} {A : Option Addr} {n c x : Nat} (h : IsN w A n c x) (hx : x < Lim) : n ≤ 100000 := by
  obtain ⟨ws, _, hl, _, _, _, hn, rfl⟩ := h
  unfold Lim at hx
  by_cases h0 : ws = []
  · subst h0; simp at hl; omega
  · have h1 := wv_pos hn h0
    have h2 := (Nat.pow_lt_pow_iff_right (a := 1000000000) (by omega)).1 (Nat.lt_of_le_of_lt h1 hx)
    have := klim
    omega

def u32s (ws : List Nat) : List Value := ws.map fun (x : Nat) => .int .u32 (x : Int)
def OwnU (w : World) (B : Nat) (A : Option Addr) (n c : Nat) (ws : List Nat) : Prop := w.ownsRow B 106 1 (.slice A n c) n (u32s ws)
theorem OwnU.len {w : World} {B : Nat} {A : Option Addr} {n c : Nat} {ws : List Nat} (h : OwnU w B A n c ws) : ws.length = n := by have := h.1; simpa [u32s] using this
theorem OwnU.sl {w : World} {B : Nat} {A : Option Addr} {n c : Nat} {ws : List Nat} (h : OwnU w B A n c ws) : SlU w A ws := by
  have hl := h.len
  rcases h.2 with ⟨h1, h2⟩ | ⟨g, cap, cur, h1, hb, hg, hc, hm, hs, ht⟩
  · exact .inl (List.eq_nil_of_length_eq_zero (by omega))
  · cases h1
    refine .inr ⟨g, 0, cur, _, rfl, hg, fun i hi => ?_⟩
    have : (u32s ws)[i]? = some (.int .u32 (ws[i] : Nat)) := by simp [u32s, hi]
    rw [← ht, List.getElem?_take] at this
    split at this
    · simpa using this
    · cases this
theorem OwnU.cap {w : World} {B : Nat} {A : Option Addr} {n c : Nat} {ws : List Nat} (h : OwnU w B A n c ws) : n ≤ c := by
  obtain ⟨_, _, h1, h2⟩ := ownsRow_form h; cases h1; exact h2

theorem u32s_append (a b : List Nat) : u32s (a ++ b) = u32s a ++ u32s b := by simp [u32s]

theorem app_u32 {t ty : Nat} (el : El Tryz.prog t 106 1 4) {B0 B : Nat} (hBB : B0 ≤ B) {tys : List Nat} {w : World} {A : Option Addr} {n c : Nat} {ws : List Nat} (ho : OwnU w B A n c ws) (hn : n ≤ 1000000) (hB : B ≤ w.heap.size) (ht : 106 ∉ tys)
    {x : Int} (hx : 0 ≤ x) {K : Option Addr → Nat → Nat → World → Prop}
    (h : ∀ A' c' w', OwnU w' B A' (n + 1) c' (ws ++ [x.toNat]) → w.grownBy w' (Value.ownBlock (.slice A n c)) → Below B0 w w' → K A' (n + 1) c' w') :
    RunOk Tryz.prog (Instr.buildSlice t 1 #[(0, .int .u32 x)]) B0 tys w fun r w1 => ∃ A2 m2 c2, r = .slice A2 m2 c2 ∧
      RunOk Tryz.prog (Builtin.append_ #[t, t] ty #[.slice A n c, .slice A2 m2 c2]) B0 tys w1 fun r w2 => ∃ A n c, r = .slice A n c ∧ K A n c w2 :=
  runOk_append1 el hBB ho rfl (by intro u hu; simp [Value.cells] at hu; subst hu; rfl) hB (by omega) ht fun A' c' w' h1 h2 h3 => h A' c' w' (by
    unfold OwnU
    rw [u32s_append]
    have e : (x.toNat : Int) = x := by omega
    simp only [u32s, List.map_cons, List.map_nil, e]
    exact h1) h2 h3

theorem wv_take_succ (l : List Nat) (i : Nat) : wv (l.take (i + 1)) = wv (l.take i) + 1000000000 ^ i * l.getD i 0 := by
  by_cases h : i < l.length
  · rw [List.take_add_one, wv_append, List.length_take, Nat.min_eq_left (by omega)]
    simp [h, wv]
  · rw [List.take_of_length_le (by omega), List.take_of_length_le (by omega)]
    simp [List.getD_eq_getElem?_getD, List.getElem?_eq_none (by omega : l.length ≤ i)]

theorem tdivmod (s : Int) : (0 ≤ s → Int.tmod s 1000000000 = s % 1000000000 ∧ Int.tdiv s 1000000000 = s / 1000000000) ∧
    (s < 0 → Int.tmod s 1000000000 = - ((-s) % 1000000000) ∧ Int.tdiv s 1000000000 = - ((-s) / 1000000000)) := by
  refine ⟨fun h => ⟨Int.tmod_eq_emod_of_nonneg h, Int.tdiv_eq_ediv_of_nonneg h⟩, fun h => ?_⟩
  have e : s = - (-s) := by omega
  constructor
  · conv => lhs; rw [e]
    rw [Int.neg_tmod, Int.tmod_eq_emod_of_nonneg (by omega)]
  · conv => lhs; rw [e]
    rw [Int.neg_tdiv, Int.tdiv_eq_ediv_of_nonneg (by omega)]
theorem wrap64 {n : Int} (h : inR .i64 n) : IntKind.wrap .i64 n = n := by
  rw [IntKind.wrap_i64]; simp only [inR] at h; omega

section
variable {B : Nat} {A0 A1 : Option Addr} {n0 c0 n1 c1 : Nat} {sg : Int} {R : Value → World → Prop} {mx : Int}

theorem merge_J10 {w : World} {A : Option Addr} {n c : Nat} {ws : List Nat} {s i : Int} (ho : OwnU w B A n c ws) (hn : n ≤ 1000000) (hB : B ≤ w.heap.size) (hs : -1000000000 ≤ s ∧ s ≤ 1999999999) (hi : 0 ≤ i ∧ i ≤ 1000000)
    (h : ∀ A' c' w', OwnU w' B A' (n + 1) c' (ws ++ [(s % 1000000000).toNat]) → Below B w w' → F.natural_merge_uint32_natural_num.L4 A0 n0 c0 A1 n1 c1 sg A' (n + 1) c' (s / 1000000000) mx (i + 1) B w' R) :
    F.natural_merge_uint32_natural_num.J10 A0 n0 c0 A1 n1 c1 sg A n c s mx i B w R := by
  obtain ⟨t1, t2⟩ := tdivmod s
  have w1 : IntKind.wrap .i64 (Int.tdiv s 1000000000) = Int.tdiv s 1000000000 := wrap64 (by simp only [inR]; omega)
  refine F.natural_merge_uint32_natural_num.J10.step _ _ _ _ _ _ _ _ _ _ _ _ _ _ _ _ ⟨by omega, by omega, fun h0 => ⟨by simp only [inR]; omega, by rw [w1]; simp only [inR]; omega, by simp only [inR]; omega, ?_⟩, fun h0 => ⟨by simp only [inR]; omega, ?_⟩⟩
  · refine app_u32 el_num (Nat.le_refl _) ho hn hB (by simp) (by omega) fun A' c' w' h1 _ h2 => ⟨by simp only [inR]; omega, ?_⟩
    rw [w1]
    have e1 : Int.tmod s 1000000000 + 1000000000 = s % 1000000000 := by omega
    have e2 : Int.tdiv s 1000000000 - 1 = s / 1000000000 := by omega
    rw [e1] at h1
    rw [e2]
    exact h A' c' w' h1 h2
  · refine app_u32 el_num (Nat.le_refl _) ho hn hB (by simp) (by omega) fun A' c' w' h1 _ h2 => ⟨by simp only [inR]; omega, ?_⟩
    rw [w1]
    have e1 : Int.tmod s 1000000000 = s % 1000000000 := by omega
    have e2 : Int.tdiv s 1000000000 = s / 1000000000 := by omega
    rw [e1] at h1
    rw [e2]
    exact h A' c' w' h1 h2

theorem SlU.getD {w : World} {A : Option Addr} {ws : List Nat} (h : SlU w A ws) (hs : Small ws) {j : Int} (h0 : 0 ≤ j) (h1 : j < ws.length) :
    ∃ a, A = some a ∧ ∃ x : Nat, ws.getD j.toNat 0 = x ∧ x < 1000000000 ∧ CellsAt w (a.add (j.toNat * 1)) [.int .u32 (x : Int)] := by
  obtain ⟨a, hA, x, hx, hc⟩ := h.cell h0 h1
  exact ⟨a, hA, x, by rw [List.getD_eq_getElem?_getD, hx]; rfl, hs x (List.mem_of_getElem? hx), hc⟩

theorem Small.getD {l : List Nat} (h : Small l) (i : Nat) : l.getD i 0 < 1000000000 := by
  rw [List.getD_eq_getElem?_getD]
  cases e : l[i]? with
  | none => simp
  | some x => exact h x (List.mem_of_getElem? e)

theorem merge_loop {w0 : World} {a b : List Nat} (ha : SlU w0 A0 a) (hal : a.length = n0) (hsa : Small a) (hb : SlU w0 A1 b) (hbl : b.length = n1) (hsb : Small b)
    (hsg : sg = 1 ∨ sg = -1) (hpos : 0 ≤ (wv a : Int) + sg * wv b) (hmx : mx = (max n0 n1 : Nat)) (h0 : n0 ≤ 500000) (h1 : n1 ≤ 500000)
    (hR : ∀ A n c w' ws, OwnU w' w0.heap.size A n c ws → Small ws → (wv ws : Int) = wv a + sg * wv b → n ≤ mx + 1 ∧ (n ≤ mx ∨ Norm ws) → Below w0.heap.size w0 w' → R (.slice A n c) w') :
    ∀ (d : Nat) (n : Nat) (A : Option Addr) (c : Nat) (w : World) (ws : List Nat) (s : Int), mx - n = d → n ≤ mx → OwnU w w0.heap.size A n c ws → Small ws → Below w0.heap.size w0 w → -1 ≤ s ∧ s ≤ 1 →
      (wv ws : Int) + (1000000000 ^ n : Nat) * s = wv (a.take n) + sg * wv (b.take n) →
      F.natural_merge_uint32_natural_num.L4 A0 n0 c0 A1 n1 c1 sg A n c s mx n w0.heap.size w R := by
  intro d
  induction d with
  | zero =>
    intro n A c w ws s hd hn ho hs hw hsr inv
    have hlen := ho.len
    have ea : a.take n = a := List.take_of_length_le (by omega)
    have eb : b.take n = b := List.take_of_length_le (by omega)
    rw [ea, eb] at inv
    have hlt := wv_lt hs
    rw [hlen] at hlt
    refine F.natural_merge_uint32_natural_num.L4.step _ _ _ _ _ _ _ _ _ _ _ _ _ _ _ _ ⟨fun h => by omega, fun h => ⟨fun h2 => ⟨by simp only [inR]; omega, ?_⟩, fun h2 => ?_⟩⟩
    · have hs1 : s = 1 := by omega
      subst hs1
      refine app_u32 el_num (Nat.le_refl _) ho (by omega) hw.size (by simp) (by omega) fun A' c' w' k1 _ k2 => hR A' _ c' w' _ k1 (hs.append (Small.cons (by decide) Small.nil)) ?_ ⟨by omega, .inr (by simp [Norm])⟩ (hw.trans k2)
      rw [wv_append, hlen, ← inv]
      simp [wv]
    · refine hR A n c w ws ho hs ?_ ⟨by omega, .inl (by omega)⟩ hw
      have : s = 0 := by
        rcases (by omega : s = 0 ∨ s = -1) with h | h
        · exact h
        · subst h; omega
      subst this
      simpa using inv
  | succ d ih =>
    intro n A c w ws s hd hn ho hs hw hsr inv
    have hlen := ho.len
    have ga := hsa.getD n
    have gb := hsb.getD n
    have j10 : F.natural_merge_uint32_natural_num.J10 A0 n0 c0 A1 n1 c1 sg A n c (s + (a.getD n 0 : Nat) + sg * (b.getD n 0 : Nat)) mx n w0.heap.size w R := by
      refine merge_J10 ho (by omega) hw.size (by rcases hsg with h | h <;> subst h <;> omega) (by omega) fun A' c' w' k1 k2 => ?_
      have e : ((n : Int) + 1) = ((n + 1 : Nat) : Int) := by omega
      rw [e]
      refine ih (n + 1) A' c' w' _ _ (by omega) (by omega) k1 (hs.append (Small.cons (by omega) Small.nil)) (hw.trans k2) (by rcases hsg with h | h <;> subst h <;> omega) ?_
      rw [wv_append, wv_take_succ, wv_take_succ, hlen]
      simp only [wv, Nat.mul_zero, Nat.add_zero, Int.natCast_add, Int.natCast_mul, Nat.pow_succ]
      obtain ⟨t, ht⟩ : ∃ t, t = s + (a.getD n 0 : Nat) + sg * (b.getD n 0 : Nat) := ⟨_, rfl⟩
      rw [← ht]
      have hx : ((t % 1000000000).toNat : Int) = t - 1000000000 * (t / 1000000000) := by omega
      rw [hx]
      generalize ((1000000000 ^ n : Nat) : Int) = P at inv ⊢
      grind
    refine F.natural_merge_uint32_natural_num.L4.step _ _ _ _ _ _ _ _ _ _ _ _ _ _ _ _ ⟨fun h => ?_, fun h => by omega⟩
    have j8 : F.natural_merge_uint32_natural_num.J8 A0 n0 c0 A1 n1 c1 sg A n c (s + (a.getD n 0 : Nat)) n mx n w0.heap.size w R := by
      refine F.natural_merge_uint32_natural_num.J8.step _ _ _ _ _ _ _ _ _ _ _ _ _ _ _ _ _ ⟨fun h => ?_, fun h => ?_⟩
      · obtain ⟨p, hp, x, hx, hx2, hc⟩ := (hb.below hw).getD hsb (j := (n : Int)) (by omega) (by omega)
        rw [Int.toNat_natCast] at hx
        rw [hx] at j10 gb
        exact ⟨by omega, p, hp, _, hc, by simp only [inR]; omega, by simp only [inR]; rcases hsg with h | h <;> subst h <;> omega, by simp only [inR]; rcases hsg with h | h <;> subst h <;> omega, j10⟩
      · have e : b.getD n 0 = 0 := by rw [List.getD_eq_getElem?_getD, List.getElem?_eq_none (by omega)]; rfl
        rw [e] at j10
        simpa using j10
    refine ⟨fun h => ?_, fun h => ?_⟩
    · obtain ⟨p, hp, x, hx, hx2, hc⟩ := (ha.below hw).getD hsa (j := (n : Int)) (by omega) (by omega)
      rw [Int.toNat_natCast] at hx
      rw [hx] at j8 ga
      exact ⟨by omega, p, hp, _, hc, by simp only [inR]; omega, by simp only [inR]; omega, j8⟩
    · have e : a.getD n 0 = 0 := by rw [List.getD_eq_getElem?_getD, List.getElem?_eq_none (by omega)]; rfl
      rw [e] at j8
      simpa using j8
end

theorem OwnU.norm {w : World} {B : Nat} {A : Option Addr} {n c : Nat} {ws : List Nat} (h : OwnU w B A n c ws) (hs : Small ws) (hn : Norm ws) (hl : n < 2147483648) : IsN w A n c (wv ws) := ⟨ws, h.sl, h.len, h.cap, hl, hs, hn, rfl⟩

theorem norm_of_ge {l : List Nat} (hs : Small l) (h : l = [] ∨ 1000000000 ^ (l.length - 1) ≤ wv l) : Norm l := by
  rcases h with h | h
  · subst h; simp [Norm]
  · intro k
    have hn : l ≠ [] := fun e => by subst e; simp at k
    rw [List.getLast?_eq_some_getLast hn] at k
    have e : l = l.dropLast ++ [l.getLast hn] := (List.dropLast_concat_getLast hn).symm
    have hk : l.getLast hn = 0 := by simpa using k
    rw [e, wv_append, hk] at h
    simp only [wv, Nat.mul_zero, Nat.add_zero] at h
    have h2 := wv_lt (l := l.dropLast) fun x hx => hs x (List.dropLast_subset _ hx)
    simp at h h2
    omega

theorem natural_merge {w : World} {A0 A1 : Option Addr} {n0 c0 n1 c1 : Nat} {a b : List Nat} {sg : Int} (ha : SlU w A0 a) (hal : a.length = n0) (hsa : Small a) (hb : SlU w A1 b) (hbl : b.length = n1) (hsb : Small b)
    (hsg : sg = 1 ∨ sg = -1) (hpos : 0 ≤ (wv a : Int) + sg * wv b) (h0 : n0 ≤ 500000) (h1 : n1 ≤ 500000) :
    Pure Tryz.prog 224 #[.slice A0 n0 c0, .slice A1 n1 c1, .int .i64 sg] w fun v w' => ∃ A n c ws, v = .slice A n c ∧ OwnU w' w.heap.size A n c ws ∧ Small ws ∧ (wv ws : Int) = wv a + sg * wv b ∧ n ≤ max n0 n1 + 1 ∧ (n ≤ max n0 n1 ∨ Norm ws) := by
  refine F.natural_merge_uint32_natural_num.vc _ _ _ _ _ _ _ _ _ ⟨by simp only [inR]; omega, ?_⟩
  refine runOk_make0 el_num (by omega) (by omega) (Nat.le_refl _) fun A c w2 k1 _ k2 => ?_
  have em : (if (n1 : Int) > (n0 : Int) then (n1 : Int) else (n0 : Int)) = ((max n0 n1 : Nat) : Int) := by split <;> omega
  rw [em]
  refine merge_loop (mx := ((max n0 n1 : Nat) : Int)) ha hal hsa hb hbl hsb hsg hpos rfl h0 h1 (fun A n c w' ws k3 k4 k5 k6 k7 => ⟨A, n, c, ws, rfl, k3, k4, k5, by omega, k6.2.imp (fun h => by omega) id⟩) (max n0 n1) 0 A c w2 [] 0 (by omega) (by omega) k1 Small.nil k2 (by omega) (by simp [wv])

theorem natural_plus {w : World} {A0 A1 : Option Addr} {n0 c0 n1 c1 x y : Nat} (ha : IsN w A0 n0 c0 x) (hb : IsN w A1 n1 c1 y) (hx : x < Lim) (hy : y < Lim) :
    Pure Tryz.prog 205 #[.slice A0 n0 c0, .slice A1 n1 c1] w fun v w' => ∃ A n c, v = .slice A n c ∧ IsN w' A n c (x + y) := by
  have l0 := ha.len hx
  have l1 := hb.len hy
  obtain ⟨a, a1, a2, a3, a4, a5, a6, rfl⟩ := ha
  obtain ⟨b, b1, b2, b3, b4, b5, b6, rfl⟩ := hb
  refine F.natural_num_plus.vc _ _ _ _ _ _ _ _ (Pure.mono (natural_merge a1 a2 a5 b1 b2 b5 (.inl rfl) (by omega) (by omega) (by omega)) ?_)
  rintro v w' hb ⟨A, n, c, ws, rfl, ho, hs, hv, hn, hnn⟩
  refine ⟨A, n, c, rfl, A, n, c, rfl, ?_⟩
  have e : wv ws = wv a + wv b := by omega
  rw [← e]
  refine ho.norm hs (hnn.elim (fun hn2 => norm_of_ge hs ?_) id) (by omega)
  by_cases hw : ws = []
  · exact .inl hw
  · right
    have hl := ho.len
    have hp : 0 < ws.length := List.length_pos_iff.2 hw
    rw [e]
    by_cases hc : n1 ≤ n0
    · have h1 := wv_pos a6 (fun k => by subst k; simp at a2; omega)
      exact Nat.le_trans (Nat.pow_le_pow_right (by omega) (by omega)) (Nat.le_trans h1 (by omega))
    · have h1 := wv_pos b6 (fun k => by subst k; simp at b2; omega)
      exact Nat.le_trans (Nat.pow_le_pow_right (by omega) (by omega)) (Nat.le_trans h1 (by omega))

theorem natural_minus {w : World} {A0 A1 : Option Addr} {n0 c0 n1 c1 x y : Nat} (ha : IsN w A0 n0 c0 x) (hb : IsN w A1 n1 c1 y) (hx : x < Lim) (hy : y ≤ x) :
    Pure Tryz.prog 206 #[.slice A0 n0 c0, .slice A1 n1 c1] w fun v w' => ∃ A n c, v = .slice A n c ∧ IsN w' A n c (x - y) := by
  have l0 := ha.len hx
  have l1 := hb.len (Nat.lt_of_le_of_lt hy hx)
  obtain ⟨a, a1, a2, a3, a4, a5, a6, rfl⟩ := ha
  obtain ⟨b, b1, b2, b3, b4, b5, b6, rfl⟩ := hb
  refine F.natural_num_minus.vc _ _ _ _ _ _ _ _ (Pure.mono (natural_merge a1 a2 a5 b1 b2 b5 (.inr rfl) (by omega) (by omega) (by omega)) ?_)
  rintro v w' hb ⟨A, n, c, ws, rfl, ho, hs, hv, hn, hnn⟩
  refine ⟨A, n, c, rfl, Pure.mono (natural_trim ho.sl ho.len ho.cap (by omega) hs) ?_⟩
  rintro v w2 hb2 ⟨rfl, m, rfl, h, _⟩
  have e : wv a - wv b = wv ws := by omega
  rw [e]
  exact ⟨A, m, c, rfl, A, m, c, rfl, h⟩
end Go.Proofs.YtdoailkigecmkaaGreatDoor.B

namespace Go.Proofs.YtdoailkigecmkaaGreatDoor.B
open Go Go.RowKit Go.Shelf Go.Proofs Go.Proofs.YtdoailkigecmkaaGreatDoor.Vc
attribute [local go_sem] Oper.semAt_some

def CK (b : Nat) (W W' : World) : Prop := ∀ (k : Nat) (cs : Array Value) (ty : Nat) (fz : Nat × Nat), W.heap[k]? = some (.cells cs ty fz) → k ≠ b → ty ≠ 5 → W'.heap[k]? = some (.cells cs ty fz)
theorem CK.refl (b : Nat) (W : World) : CK b W W := fun _ _ _ _ h _ _ => h
theorem CK.trans {b : Nat} {W1 W2 W3 : World} (h : CK b W1 W2) (k : CK b W2 W3) : CK b W1 W3 := fun i cs ty fz h0 h1 h2 => k i cs ty fz (h i cs ty fz h0 h1 h2) h1 h2
theorem CK.putObj {b : Nat} (W : World) (l : Nat) (o o' : Obj) (h : W.heap[l]? = some o) (hc : o.isCells = false) : CK b W (W.putObj l o') := by
  intro k cs ty fz h0 _ _
  rw [World.putObj_heap_other]
  · exact h0
  · intro e
    subst e
    rw [h] at h0
    cases h0
    simp [Obj.isCells] at hc

abbrev PW := Nat × { x : Nat // x < 1000000000 }
abbrev encPW (p : PW) : Array Value := #[.int .i64 (p.1 : Int), .int .u32 (p.2.1 : Int)]
def gPW (ws : List Nat) (hs : Small ws) (j : Nat) : PW := (j, ⟨ws.getD j 0, hs.getD j⟩)
def cameP (ws : List Nat) (hs : Small ws) (m : Nat) : List PW := (List.range (ws.length - m)).map fun t => gPW ws hs (ws.length - 1 - t)
theorem cameP_step (ws : List Nat) (hs : Small ws) {j : Nat} (h : j < ws.length) : cameP ws hs j = cameP ws hs (j + 1) ++ [gPW ws hs j] := by
  unfold cameP
  rw [show ws.length - j = (ws.length - (j + 1)) + 1 by omega, List.range_succ, List.map_append]
  simp
  congr 1
  omega
theorem cameP_all (ws : List Nat) (hs : Small ws) : cameP ws hs ws.length = [] := by simp [cameP]
theorem cameP_length (ws : List Nat) (hs : Small ws) (m : Nat) : (cameP ws hs m).length = ws.length - m := by simp [cameP]

set_option maxRecDepth 100000 in
set_option maxHeartbeats 2000000 in
theorem back_in (F : Fence) (n : Nat) (h9 : F.fn 209) (hro : F.round = none) (hn : 1 ≤ n) (l Bs b wb off cap : Nat) (hBs : Bs ≠ b) (hwb : wb ≠ b) (ws : List Nat) (hs : Small ws) (hlen : ws.length ≤ 1000000) (J Jx : List PW → World → Prop)
    (hY : ∀ pre x W, J pre W → pre.length < ws.length → YieldAt F (n - 1) Tryz.prog l (encPW x) W fun e W' =>
      (e = .returned (.bool true) ∧ J (pre ++ [x]) W' ∧ CK b W W') ∨ (e = .returned (.bool false) ∧ Jx (pre ++ [x]) W'))
    (W : World) (A : Option Addr) (hA : A = some ⟨wb, off, none⟩) (hBc : W.heap[Bs]? = some (.cells #[.slice A ws.length cap] 176 (0, 0))) (all : Array Value) (fr : Nat × Nat) (hw : W.heap[wb]? = some (.cells all 106 fr))
    (hc : ∀ j, j < ws.length → all[off + j]? = some (.int .u32 (ws.getD j 0 : Nat))) (h0 : J [] W) :
    CallsIn F n Tryz.prog 209 #[.func (.yield l) #[] #[], .pointer (some ⟨Bs, 0, none⟩)] W fun e W' => (∃ v, e = .returned v) ∧
      ((∃ ys, ys = cameP ws hs 0 ∧ J ys W') ∨ (∃ pre, True ∧ Jx pre W')) := by
  refine callsIn_of_wp Tryz.func209 rfl h9 ?_ hro
  simp only [Tryz.ntmps209, List.size_toArray, List.length_cons, List.length_nil, Nat.reduceAdd, Nat.reduceSub, Array.replicate_succ, Array.replicate_zero, List.push_toArray, List.append_toArray, List.nil_append, List.cons_append]
  subst hA
  have cellBs : ∀ wr, CK b W wr → wr.cell? ⟨Bs, 0, none⟩ = some (.slice (some ⟨wb, off, none⟩) ws.length cap) := fun wr hk => by
    have := hk _ _ _ _ hBc hBs (by decide)
    simp [World.cell?, this]
  have hcx0 := cellBs W (CK.refl _ _)
  gi_wp2
  gi_loopw [3] (fun i wr => ∃ m : Nat, m ≤ ws.length ∧ i = .int .i64 ((m : Int) - 1) ∧ J (cameP ws hs m) wr ∧ CK b W wr)
    (fun i _ => (intOf i + 1).toNat)
  case atStart => exact ⟨ws.length, Nat.le_refl _, rfl, by rw [cameP_all]; exact h0, CK.refl _ _⟩
  case round =>
    obtain ⟨m, hm, rfl, hJs, hnx⟩ := hrel
    have hcx := cellBs wr hnx
    cases m with
    | zero =>
      gi_wp2
      go_end0
      exact ⟨⟨_, rfl⟩, .inl ⟨_, rfl, hJs⟩⟩
    | succ j =>
      have e1 : ((j + 1 : Nat) : Int) - 1 = (j : Int) := by omega
      have hcw : wr.cell? ⟨wb, off + j, none⟩ = some (.int .u32 (ws.getD j 0 : Nat)) := by
        have := hnx _ _ _ _ hw hwb (by decide)
        simp only [World.cell?, this]
        exact hc j (by omega)
      obtain ⟨fn, tmps, assign, body, hy, hR⟩ := hY _ (gPW ws hs j) wr hJs (by rw [cameP_length]; omega)
      dsimp only [gPW, encPW] at hy
      simp only [List.getD_eq_getElem?_getD] at hy
      rw [e1]
      gi_wp2
      refine hR.mono ?_
      rintro e W3 (⟨rfl, hJ3, hk3⟩ | ⟨rfl, hJx3⟩)
      · gi_wp2
        go_roundw
        case rel => exact ⟨j, by omega, rfl, by rw [cameP_step ws hs (by omega)]; exact hJ3, hnx.trans hk3⟩
        case measure => simp [intOf]
      · gi_wp2
        refine bodyPost_ret (results_none rfl _ _ _) rfl ?_
        exact ⟨⟨_, rfl⟩, .inr ⟨_, trivial, hJx3⟩⟩
end Go.Proofs.YtdoailkigecmkaaGreatDoor.B

namespace Go.Proofs
open Go.Shelf
open Go.RowKit in
def Tryz.lays169_ren : Go.Shelf.Ren := ⟨fun | 169 => 192 | n => n, fun | 70 => 210 | 9 => 9 | 0 => 0 | 72 => 212 | 37 => 142 | 127 => 234 | 3 => 3 | 5 => 5 | n => n, fun | n => n⟩
theorem Tryz.lays169 : Go.Proofs.Lays.n169 Tryz.prog Tryz.lays169_ren := {
  mixed := by kernel_rfl
  f169 := Tryz.func192.trans (congrArg some (by kernel_rfl))
  t0 := Tryz.underlying0
  a0 := Tryz.isAgg0
  z0 := Tryz.sizeOf0
  v0 := Tryz.zeroValue0
  t3 := Tryz.underlying3
  a3 := Tryz.isAgg3
  z3 := Tryz.sizeOf3
  v3 := Tryz.zeroValue3
  t9 := Tryz.underlying9
  a9 := Tryz.isAgg9
  z9 := Tryz.sizeOf9
  v9 := Tryz.zeroValue9
  t37 := Tryz.underlying142
  a37 := Tryz.isAgg142
  z37 := Tryz.sizeOf142
  v37 := Tryz.zeroValue142
  t70 := Tryz.underlying210
  a70 := Tryz.isAgg210
  z70 := Tryz.sizeOf210
  v70 := Tryz.zeroValue210
  t72 := Tryz.underlying212
  a72 := Tryz.isAgg212
  z72 := Tryz.sizeOf212
  v72 := Tryz.zeroValue212
  t127 := Tryz.underlying234
  a127 := Tryz.isAgg234
  z127 := Tryz.sizeOf234
  v127 := Tryz.zeroValue234 }
theorem Tryz.Builder_Extra_169 : Builder.Extra Tryz.prog Tryz.lays169_ren := {
  sizeBuilder := by kernel_rfl
  liesBuilder := by kernel_rfl
  t5 := Tryz.underlying5
  a5 := Tryz.isAgg5
  z5 := Tryz.sizeOf5
  v5 := Tryz.zeroValue5
  infoByte := by kernel_rfl
  cellsByte := by kernel_rfl
  sizeByte := by kernel_rfl
  neB5 := by decide }
open Go.RowKit in
open Go.RowKit in
open Go.RowKit in
open Go.RowKit in
open Go.RowKit in
open Go.RowKit in
def Tryz.lays103_ren : Go.Shelf.Ren := ⟨fun | 103 => 145 | 210 => 163 | 206 => 185 | n => n, fun | 9 => 9 | 4 => 4 | 24 => 172 | 3 => 3 | n => n, fun | n => n⟩
theorem Tryz.lays103 : Go.Proofs.Lays.n103 Tryz.prog Tryz.lays103_ren := {
  mixed := by kernel_rfl
  f103 := Tryz.func145.trans (congrArg some (by kernel_rfl))
  f206 := Tryz.func185.trans (congrArg some (by kernel_rfl))
  f210 := Tryz.func163.trans (congrArg some (by kernel_rfl))
  t3 := Tryz.underlying3
  a3 := Tryz.isAgg3
  z3 := Tryz.sizeOf3
  v3 := Tryz.zeroValue3
  t4 := Tryz.underlying4
  a4 := Tryz.isAgg4
  z4 := Tryz.sizeOf4
  v4 := Tryz.zeroValue4
  t9 := Tryz.underlying9
  a9 := Tryz.isAgg9
  z9 := Tryz.sizeOf9
  v9 := Tryz.zeroValue9
  t24 := Tryz.underlying172
  a24 := Tryz.isAgg172
  z24 := Tryz.sizeOf172
  v24 := Tryz.zeroValue172 }
open Go.RowKit in
theorem Tryz.strings_CutPrefix (s p : ByteArray) (w : World) :
    Calls Tryz.prog 145 #[.string s, .string p] w fun e w' => e = .returned (.tuple #[.string ⟨(Lib.trimPrefix s.data.toList p.data.toList).toArray⟩, .bool (Lib.hasPrefix s.data.toList p.data.toList)]) ∧ w' = w := Any.strings_CutPrefix Tryz.lays103 s p w
def Tryz.lays215_ren : Go.Shelf.Ren := ⟨fun | 215 => 235 | n => n, fun | 3 => 3 | 4 => 4 | n => n, fun | n => n⟩
theorem Tryz.lays215 : Go.Proofs.Lays.n215 Tryz.prog Tryz.lays215_ren := {
  mixed := by kernel_rfl
  f215 := Tryz.func235.trans (congrArg some (by kernel_rfl))
  t3 := Tryz.underlying3
  a3 := Tryz.isAgg3
  z3 := Tryz.sizeOf3
  v3 := Tryz.zeroValue3
  t4 := Tryz.underlying4
  a4 := Tryz.isAgg4
  z4 := Tryz.sizeOf4
  v4 := Tryz.zeroValue4 }
open Go.RowKit in
theorem Tryz.cmp_isNaN_int (x : Int) (w : World) :
    Calls Tryz.prog 235 #[.int .i64 x] w fun e w' => e = .returned (.bool false) ∧ w' = w := Any.cmp_isNaN_int Tryz.lays215 x w
def Tryz.lays122_ren : Go.Shelf.Ren := ⟨fun | 122 => 216 | 215 => 235 | n => n, fun | 3 => 3 | 4 => 4 | n => n, fun | n => n⟩
theorem Tryz.lays122 : Go.Proofs.Lays.n122 Tryz.prog Tryz.lays122_ren := {
  mixed := by kernel_rfl
  f122 := Tryz.func216.trans (congrArg some (by kernel_rfl))
  f215 := Tryz.func235.trans (congrArg some (by kernel_rfl))
  t3 := Tryz.underlying3
  a3 := Tryz.isAgg3
  z3 := Tryz.sizeOf3
  v3 := Tryz.zeroValue3
  t4 := Tryz.underlying4
  a4 := Tryz.isAgg4
  z4 := Tryz.sizeOf4
  v4 := Tryz.zeroValue4 }
open Go.RowKit in
theorem Tryz.cmp_Compare_int (x y : Int) (w : World) :
    Calls Tryz.prog 216 #[.int .i64 x, .int .i64 y] w fun e w' => e = .returned (.int .i64 (Lib.compareInt x y)) ∧ w' = w := Any.cmp_Compare_int Tryz.lays122 x y w
open Go.RowKit in
open Go.RowKit in
open Go.RowKit in
open Go.RowKit in
open Go.RowKit in
open Go.RowKit in
open Go.RowKit in
theorem Tryz.Builder_String_any_k (B b : Nat) (l : List UInt8) (w : World) (h : Lib.IsBuilderF 212 5 B b (Lib.byteCells l) w) (hBw : B ≤ w.heap.size) :
    Calls Tryz.prog 192 #[.pointer (some ⟨b, 0, none⟩)] w fun e w' => e = .returned (.string ⟨l.toArray⟩) ∧ (Lib.IsBuilderF 212 5 B b (Lib.byteCells l) w' ∧ Below B w w' ∧ Lib.OthersKept 5 (some b) w w') := Any.Builder_String_any_k Tryz.lays169 Tryz.Builder_Extra_169 B b l w h hBw
open Go.Lib in
open Go.Lib in
def Tryz.lays283_ren : Go.Shelf.Ren := ⟨fun | 283 => 175 | n => n, fun | 3 => 3 | 9 => 9 | 4 => 4 | n => n, fun | n => n⟩
theorem Tryz.lays283 : Go.Proofs.Lays.n283 Tryz.prog Tryz.lays283_ren := {
  mixed := by kernel_rfl
  f283 := Tryz.func175.trans (congrArg some (by kernel_rfl))
  t3 := Tryz.underlying3
  a3 := Tryz.isAgg3
  z3 := Tryz.sizeOf3
  v3 := Tryz.zeroValue3
  t4 := Tryz.underlying4
  a4 := Tryz.isAgg4
  z4 := Tryz.sizeOf4
  v4 := Tryz.zeroValue4
  t9 := Tryz.underlying9
  a9 := Tryz.isAgg9
  z9 := Tryz.sizeOf9
  v9 := Tryz.zeroValue9 }
open Go.Lib in
theorem Tryz.internal_strconv_small (i : Nat) (h : i < 100) (w : World) :
    Calls Tryz.prog 175 #[.int .i64 i] w fun e w' => e = .returned (.string ⟨(Lib.decDigits i).toArray⟩) ∧ w' = w := Any.internal_strconv_small Tryz.lays283 i h w
def Tryz.laysM284_ren : Go.Shelf.Ren := ⟨fun | 284 => 176 | 129 => 201 | 317 => 200 | 318 => 202 | n => n, fun | 53 => 132 | 3 => 3 | 212 => 226 | 0 => 0 | 4 => 4 | 46 => 144 | 5 => 5 | 9 => 9 | n => n, fun | 17 => 1 | n => n⟩
theorem Tryz.laysM284 : Go.Proofs.LaysM.n284 Tryz.prog Tryz.laysM284_ren := {
  mixed := by kernel_rfl
  f129 := Tryz.func201.trans (congrArg some (by kernel_rfl))
  f284 := Tryz.func176.trans (congrArg some (by kernel_rfl))
  f317 := Tryz.func200.trans (congrArg some (by kernel_rfl))
  f318 := Tryz.func202.trans (congrArg some (by kernel_rfl))
  t0 := Tryz.underlying0
  a0 := Tryz.isAgg0
  z0 := Tryz.sizeOf0
  v0 := Tryz.zeroValue0
  t3 := Tryz.underlying3
  a3 := Tryz.isAgg3
  z3 := Tryz.sizeOf3
  v3 := Tryz.zeroValue3
  t4 := Tryz.underlying4
  a4 := Tryz.isAgg4
  z4 := Tryz.sizeOf4
  v4 := Tryz.zeroValue4
  t5 := Tryz.underlying5
  a5 := Tryz.isAgg5
  z5 := Tryz.sizeOf5
  v5 := Tryz.zeroValue5
  t9 := Tryz.underlying9
  a9 := Tryz.isAgg9
  z9 := Tryz.sizeOf9
  v9 := Tryz.zeroValue9
  t46 := Tryz.underlying144
  a46 := Tryz.isAgg144
  z46 := Tryz.sizeOf144
  v46 := Tryz.zeroValue144
  t53 := Tryz.underlying132
  a53 := Tryz.isAgg132
  z53 := Tryz.sizeOf132
  v53 := Tryz.zeroValue132
  t212 := Tryz.underlying226
  a212 := Tryz.isAgg226
  z212 := Tryz.sizeOf226
  v212 := Tryz.zeroValue226
  g17 := by kernel_rfl
  i0 := by kernel_rfl
  i3 := by kernel_rfl
  i4 := by kernel_rfl
  i5 := by kernel_rfl
  i9 := by kernel_rfl
  i46 := by kernel_rfl
  i53 := by kernel_rfl
  i212 := by kernel_rfl
  m17 := by kernel_rfl }
open Go.Lib in
theorem Tryz.internal_strconv_numDigits (u : Nat) (h1 : 1 ≤ u) (h2 : u < 18446744073709551616) (w : World) (htab : Lib.TabIs Tryz.prog w "internal/strconv.uint64pow10" .u64 Lib.pow10Tab) :
    Calls Tryz.prog 176 #[.int .u64 u] w fun e w' => e = .returned (.int .i64 (Lib.nDigits u)) ∧ w' = w := Any.internal_strconv_numDigits Tryz.laysM284 u h1 h2 w htab
def Tryz.lays285_ren : Go.Shelf.Ren := ⟨fun | 285 => 177 | n => n, fun | 37 => 142 | 53 => 132 | 3 => 3 | 4 => 4 | 51 => 106 | 9 => 9 | 5 => 5 | 0 => 0 | n => n, fun | n => n⟩
theorem Tryz.lays285 : Go.Proofs.Lays.n285 Tryz.prog Tryz.lays285_ren := {
  mixed := by kernel_rfl
  f285 := Tryz.func177.trans (congrArg some (by kernel_rfl))
  t0 := Tryz.underlying0
  a0 := Tryz.isAgg0
  z0 := Tryz.sizeOf0
  v0 := Tryz.zeroValue0
  t3 := Tryz.underlying3
  a3 := Tryz.isAgg3
  z3 := Tryz.sizeOf3
  v3 := Tryz.zeroValue3
  t4 := Tryz.underlying4
  a4 := Tryz.isAgg4
  z4 := Tryz.sizeOf4
  v4 := Tryz.zeroValue4
  t5 := Tryz.underlying5
  a5 := Tryz.isAgg5
  z5 := Tryz.sizeOf5
  v5 := Tryz.zeroValue5
  t9 := Tryz.underlying9
  a9 := Tryz.isAgg9
  z9 := Tryz.sizeOf9
  v9 := Tryz.zeroValue9
  t37 := Tryz.underlying142
  a37 := Tryz.isAgg142
  z37 := Tryz.sizeOf142
  v37 := Tryz.zeroValue142
  t51 := Tryz.underlying106
  a51 := Tryz.isAgg106
  z51 := Tryz.sizeOf106
  v51 := Tryz.zeroValue106
  t53 := Tryz.underlying132
  a53 := Tryz.isAgg132
  z53 := Tryz.sizeOf132
  v53 := Tryz.zeroValue132 }
open Go.RowKit Go.Sort Go.Lib in
theorem Tryz.internal_strconv_formatBase10 (blk off cap : Nat) (u : Nat) (d : Array UInt8) (w : World) (hH : Holds (fun (b : UInt8) => Value.int .u8 (b.toNat : Int)) w blk off d) (hu : u < 10 ^ d.size) (hu64 : u < 18446744073709551616) (hsz : d.size < 4611686018427387904) :
    Calls Tryz.prog 177 #[.slice (some ⟨blk, off, none⟩) d.size cap, .int .u64 u] w fun e w' =>
      e = .returned (.tuple #[]) ∧ ∃ (n v' : Nat) (dk : Array UInt8), w' = (putRow (fun (b : UInt8) => Value.int .u8 (b.toNat : Int)) w blk off dk).drewN n ∧ FmtInv d.size u 0 v' dk := Any.internal_strconv_formatBase10 Tryz.lays285 blk off cap u d w hH hu hu64 hsz
open Go.RowKit Go.Sort Go.Lib in
open Go.RowKit Go.Sort Go.Lib in
open Go.RowKit Go.Sort Go.Lib in
open Go.RowKit Go.Sort Go.Lib in
def Tryz.laysM171_ren : Go.Shelf.Ren := ⟨fun | 171 => 117 | 243 => 135 | 246 => 151 | 283 => 175 | 284 => 176 | 285 => 177 | 286 => 178 | 129 => 201 | 317 => 200 | 318 => 202 | 319 => 203 | 320 => 204 | 337 => 222 | 338 => 223 | n => n, fun | 3 => 3 | 9 => 9 | 2 => 2 | 4 => 4 | 171 => 197 | 0 => 0 | 53 => 132 | 37 => 142 | 5 => 5 | 173 => 200 | 212 => 226 | 51 => 106 | 20 => 20 | 213 => 227 | 46 => 144 | 232 => 256 | 233 => 257 | n => n, fun | 17 => 1 | 18 => 2 | 19 => 3 | n => n⟩
theorem Tryz.laysM171 : Go.Proofs.LaysM.n171 Tryz.prog Tryz.laysM171_ren := {
  mixed := by kernel_rfl
  f129 := Tryz.func201.trans (congrArg some (by kernel_rfl))
  f171 := Tryz.func117.trans (congrArg some (by kernel_rfl))
  f243 := Tryz.func135.trans (congrArg some (by kernel_rfl))
  f246 := Tryz.func151.trans (congrArg some (by kernel_rfl))
  f283 := Tryz.func175.trans (congrArg some (by kernel_rfl))
  f284 := Tryz.func176.trans (congrArg some (by kernel_rfl))
  f285 := Tryz.func177.trans (congrArg some (by kernel_rfl))
  f286 := Tryz.func178.trans (congrArg some (by kernel_rfl))
  f317 := Tryz.func200.trans (congrArg some (by kernel_rfl))
  f318 := Tryz.func202.trans (congrArg some (by kernel_rfl))
  f319 := Tryz.func203.trans (congrArg some (by kernel_rfl))
  f320 := Tryz.func204.trans (congrArg some (by kernel_rfl))
  f337 := Tryz.func222.trans (congrArg some (by kernel_rfl))
  f338 := Tryz.func223.trans (congrArg some (by kernel_rfl))
  t0 := Tryz.underlying0
  a0 := Tryz.isAgg0
  z0 := Tryz.sizeOf0
  v0 := Tryz.zeroValue0
  t2 := Tryz.underlying2
  a2 := Tryz.isAgg2
  z2 := Tryz.sizeOf2
  v2 := Tryz.zeroValue2
  t3 := Tryz.underlying3
  a3 := Tryz.isAgg3
  z3 := Tryz.sizeOf3
  v3 := Tryz.zeroValue3
  t4 := Tryz.underlying4
  a4 := Tryz.isAgg4
  z4 := Tryz.sizeOf4
  v4 := Tryz.zeroValue4
  t5 := Tryz.underlying5
  a5 := Tryz.isAgg5
  z5 := Tryz.sizeOf5
  v5 := Tryz.zeroValue5
  t9 := Tryz.underlying9
  a9 := Tryz.isAgg9
  z9 := Tryz.sizeOf9
  v9 := Tryz.zeroValue9
  t20 := Tryz.underlying20
  a20 := Tryz.isAgg20
  z20 := Tryz.sizeOf20
  v20 := Tryz.zeroValue20
  t37 := Tryz.underlying142
  a37 := Tryz.isAgg142
  z37 := Tryz.sizeOf142
  v37 := Tryz.zeroValue142
  t46 := Tryz.underlying144
  a46 := Tryz.isAgg144
  z46 := Tryz.sizeOf144
  v46 := Tryz.zeroValue144
  t51 := Tryz.underlying106
  a51 := Tryz.isAgg106
  z51 := Tryz.sizeOf106
  v51 := Tryz.zeroValue106
  t53 := Tryz.underlying132
  a53 := Tryz.isAgg132
  z53 := Tryz.sizeOf132
  v53 := Tryz.zeroValue132
  t171 := Tryz.underlying197
  a171 := Tryz.isAgg197
  z171 := Tryz.sizeOf197
  v171 := Tryz.zeroValue197
  t173 := Tryz.underlying200
  a173 := Tryz.isAgg200
  z173 := Tryz.sizeOf200
  v173 := Tryz.zeroValue200
  t212 := Tryz.underlying226
  a212 := Tryz.isAgg226
  z212 := Tryz.sizeOf226
  v212 := Tryz.zeroValue226
  t213 := Tryz.underlying227
  a213 := Tryz.isAgg227
  z213 := Tryz.sizeOf227
  t232 := Tryz.underlying256
  a232 := Tryz.isAgg256
  z232 := Tryz.sizeOf256
  v232 := Tryz.zeroValue256
  t233 := Tryz.underlying257
  a233 := Tryz.isAgg257
  z233 := Tryz.sizeOf257
  v233 := Tryz.zeroValue257
  g17 := by kernel_rfl
  g18 := by kernel_rfl
  g19 := by kernel_rfl
  i0 := by kernel_rfl
  i2 := by kernel_rfl
  i3 := by kernel_rfl
  i4 := by kernel_rfl
  i5 := by kernel_rfl
  i9 := by kernel_rfl
  i20 := by kernel_rfl
  i37 := by kernel_rfl
  i46 := by kernel_rfl
  i51 := by kernel_rfl
  i53 := by kernel_rfl
  i171 := by kernel_rfl
  i173 := by kernel_rfl
  i212 := by kernel_rfl
  i232 := by kernel_rfl
  i233 := by kernel_rfl
  m17 := by kernel_rfl
  m18 := by kernel_rfl
  m19 := by kernel_rfl }
open Go.RowKit Go.Sort Go.Lib in
theorem Tryz.strconv_Itoa (n : Int) (h0 : -9223372036854775808 ≤ n) (h1 : n ≤ 9223372036854775807) (w : World) (htab : Lib.TabIs Tryz.prog w "internal/strconv.uint64pow10" .u64 Lib.pow10Tab) :
    Calls Tryz.prog 117 #[.int .i64 n] w fun e w' => e = .returned (.string ⟨(Lib.itoa n).toArray⟩) ∧ ∃ k os, w' = grow (w.drewN k) os := Any.strconv_Itoa Tryz.laysM171 n h0 h1 w htab
open Go.RowKit Go.Sort Go.Lib in
def Tryz.laysM173_ren : Go.Shelf.Ren := ⟨fun | 173 => 219 | 246 => 151 | 283 => 175 | 284 => 176 | 285 => 177 | 286 => 178 | 129 => 201 | 317 => 200 | 318 => 202 | 319 => 203 | 320 => 204 | 337 => 222 | 338 => 223 | n => n, fun | 2 => 2 | 3 => 3 | 9 => 9 | 4 => 4 | 171 => 197 | 0 => 0 | 53 => 132 | 37 => 142 | 5 => 5 | 173 => 200 | 212 => 226 | 51 => 106 | 20 => 20 | 213 => 227 | 46 => 144 | 232 => 256 | 233 => 257 | n => n, fun | 17 => 1 | 18 => 2 | 19 => 3 | n => n⟩
theorem Tryz.laysM173 : Go.Proofs.LaysM.n173 Tryz.prog Tryz.laysM173_ren := {
  mixed := by kernel_rfl
  f129 := Tryz.func201.trans (congrArg some (by kernel_rfl))
  f173 := Tryz.func219.trans (congrArg some (by kernel_rfl))
  f246 := Tryz.func151.trans (congrArg some (by kernel_rfl))
  f283 := Tryz.func175.trans (congrArg some (by kernel_rfl))
  f284 := Tryz.func176.trans (congrArg some (by kernel_rfl))
  f285 := Tryz.func177.trans (congrArg some (by kernel_rfl))
  f286 := Tryz.func178.trans (congrArg some (by kernel_rfl))
  f317 := Tryz.func200.trans (congrArg some (by kernel_rfl))
  f318 := Tryz.func202.trans (congrArg some (by kernel_rfl))
  f319 := Tryz.func203.trans (congrArg some (by kernel_rfl))
  f320 := Tryz.func204.trans (congrArg some (by kernel_rfl))
  f337 := Tryz.func222.trans (congrArg some (by kernel_rfl))
  f338 := Tryz.func223.trans (congrArg some (by kernel_rfl))
  t0 := Tryz.underlying0
  a0 := Tryz.isAgg0
  z0 := Tryz.sizeOf0
  v0 := Tryz.zeroValue0
  t2 := Tryz.underlying2
  a2 := Tryz.isAgg2
  z2 := Tryz.sizeOf2
  v2 := Tryz.zeroValue2
  t3 := Tryz.underlying3
  a3 := Tryz.isAgg3
  z3 := Tryz.sizeOf3
  v3 := Tryz.zeroValue3
  t4 := Tryz.underlying4
  a4 := Tryz.isAgg4
  z4 := Tryz.sizeOf4
  v4 := Tryz.zeroValue4
  t5 := Tryz.underlying5
  a5 := Tryz.isAgg5
  z5 := Tryz.sizeOf5
  v5 := Tryz.zeroValue5
  t9 := Tryz.underlying9
  a9 := Tryz.isAgg9
  z9 := Tryz.sizeOf9
  v9 := Tryz.zeroValue9
  t20 := Tryz.underlying20
  a20 := Tryz.isAgg20
  z20 := Tryz.sizeOf20
  v20 := Tryz.zeroValue20
  t37 := Tryz.underlying142
  a37 := Tryz.isAgg142
  z37 := Tryz.sizeOf142
  v37 := Tryz.zeroValue142
  t46 := Tryz.underlying144
  a46 := Tryz.isAgg144
  z46 := Tryz.sizeOf144
  v46 := Tryz.zeroValue144
  t51 := Tryz.underlying106
  a51 := Tryz.isAgg106
  z51 := Tryz.sizeOf106
  v51 := Tryz.zeroValue106
  t53 := Tryz.underlying132
  a53 := Tryz.isAgg132
  z53 := Tryz.sizeOf132
  v53 := Tryz.zeroValue132
  t171 := Tryz.underlying197
  a171 := Tryz.isAgg197
  z171 := Tryz.sizeOf197
  v171 := Tryz.zeroValue197
  t173 := Tryz.underlying200
  a173 := Tryz.isAgg200
  z173 := Tryz.sizeOf200
  v173 := Tryz.zeroValue200
  t212 := Tryz.underlying226
  a212 := Tryz.isAgg226
  z212 := Tryz.sizeOf226
  v212 := Tryz.zeroValue226
  t213 := Tryz.underlying227
  a213 := Tryz.isAgg227
  z213 := Tryz.sizeOf227
  t232 := Tryz.underlying256
  a232 := Tryz.isAgg256
  z232 := Tryz.sizeOf256
  v232 := Tryz.zeroValue256
  t233 := Tryz.underlying257
  a233 := Tryz.isAgg257
  z233 := Tryz.sizeOf257
  v233 := Tryz.zeroValue257
  g17 := by kernel_rfl
  g18 := by kernel_rfl
  g19 := by kernel_rfl
  i0 := by kernel_rfl
  i2 := by kernel_rfl
  i3 := by kernel_rfl
  i4 := by kernel_rfl
  i5 := by kernel_rfl
  i9 := by kernel_rfl
  i20 := by kernel_rfl
  i37 := by kernel_rfl
  i46 := by kernel_rfl
  i51 := by kernel_rfl
  i53 := by kernel_rfl
  i171 := by kernel_rfl
  i173 := by kernel_rfl
  i212 := by kernel_rfl
  i232 := by kernel_rfl
  i233 := by kernel_rfl
  m17 := by kernel_rfl
  m18 := by kernel_rfl
  m19 := by kernel_rfl }
open Go.RowKit Go.Sort Go.Lib in
theorem Tryz.strconv_FormatInt_10 (n : Int) (h0 : -9223372036854775808 ≤ n) (h1 : n ≤ 9223372036854775807) (w : World) (htab : Lib.TabIs Tryz.prog w "internal/strconv.uint64pow10" .u64 Lib.pow10Tab) :
    Calls Tryz.prog 219 #[.int .i64 n, .int .i64 10] w fun e w' => e = .returned (.string ⟨(Lib.itoa n).toArray⟩) ∧ ∃ k os, w' = grow (w.drewN k) os := Any.strconv_FormatInt_10 Tryz.laysM173 n h0 h1 w htab
open Go.RowKit Go.Sort Go.Lib in
open Go.RowKit in
open Go.RowKit in
open Go.RowKit in
open Go.RowKit in
open Go.RowKit in
open Go.RowKit in
open Go.RowKit in
open Go.RowKit in
open Go.RowKit in
open Go.RowKit in
open Go.RowKit in
open Go.RowKit in
open Go.RowKit in
open Go.RowKit in
open Go.RowKit in
open Go.RowKit in
open Go.RowKit in
open Go.RowKit in
open Go.RowKit in
open Go.RowKit in
open Go.RowKit in
open Go.RowKit in
open Go.RowKit in
open Go.RowKit in
open Go.RowKit in
open Go.RowKit in
open Go.RowKit in
open Go.RowKit in
open Go.RowKit in
open Go.RowKit in
def Tryz.laysC174_ren : Go.Shelf.Ren := ⟨fun | 174 => 218 | 247 => 237 | 245 => 208 | 287 => 207 | 279 => 227 | 280 => 228 | 281 => 229 | 282 => 230 | 321 => 225 | 322 => 226 | 316 => 239 | 171 => 117 | 205 => 240 | 243 => 135 | 246 => 151 | 283 => 175 | 284 => 176 | 285 => 177 | 286 => 178 | 129 => 201 | 317 => 200 | 318 => 202 | 319 => 203 | 320 => 204 | 337 => 222 | 338 => 223 | n => n, fun | 9 => 9 | 3 => 3 | 2 => 2 | 75 => 206 | 85 => 237 | 4 => 4 | 167 => 243 | 5 => 5 | 53 => 132 | 175 => 207 | 46 => 144 | 168 => 245 | 37 => 142 | 0 => 0 | 210 => 260 | 21 => 21 | 127 => 234 | 145 => 265 | 143 => 263 | 171 => 197 | 173 => 200 | 212 => 226 | 51 => 106 | 20 => 20 | 213 => 227 | 232 => 256 | 233 => 257 | 80 => 169 | n => n, fun | 15 => 4 | 16 => 5 | 17 => 1 | 18 => 2 | 19 => 3 | n => n⟩
theorem Tryz.laysC174 : Go.Proofs.LaysC.n174 Tryz.prog Tryz.laysC174_ren := {
  mixed := by kernel_rfl
  f129 := Tryz.func201.trans (congrArg some (by kernel_rfl))
  f171 := Tryz.func117.trans (congrArg some (by kernel_rfl))
  f174 := Tryz.func218.trans (congrArg some (by kernel_rfl))
  f205 := Tryz.func240.trans (congrArg some (by kernel_rfl))
  f243 := Tryz.func135.trans (congrArg some (by kernel_rfl))
  f245 := Tryz.func208.trans (congrArg some (by kernel_rfl))
  f246 := Tryz.func151.trans (congrArg some (by kernel_rfl))
  f247 := Tryz.func237.trans (congrArg some (by kernel_rfl))
  f279 := Tryz.func227.trans (congrArg some (by kernel_rfl))
  f280 := Tryz.func228.trans (congrArg some (by kernel_rfl))
  f281 := Tryz.func229.trans (congrArg some (by kernel_rfl))
  f282 := Tryz.func230.trans (congrArg some (by kernel_rfl))
  f283 := Tryz.func175.trans (congrArg some (by kernel_rfl))
  f284 := Tryz.func176.trans (congrArg some (by kernel_rfl))
  f285 := Tryz.func177.trans (congrArg some (by kernel_rfl))
  f286 := Tryz.func178.trans (congrArg some (by kernel_rfl))
  f287 := Tryz.func207.trans (congrArg some (by kernel_rfl))
  f316 := Tryz.func239.trans (congrArg some (by kernel_rfl))
  f317 := Tryz.func200.trans (congrArg some (by kernel_rfl))
  f318 := Tryz.func202.trans (congrArg some (by kernel_rfl))
  f319 := Tryz.func203.trans (congrArg some (by kernel_rfl))
  f320 := Tryz.func204.trans (congrArg some (by kernel_rfl))
  f321 := Tryz.func225.trans (congrArg some (by kernel_rfl))
  f322 := Tryz.func226.trans (congrArg some (by kernel_rfl))
  f337 := Tryz.func222.trans (congrArg some (by kernel_rfl))
  f338 := Tryz.func223.trans (congrArg some (by kernel_rfl))
  t0 := Tryz.underlying0
  a0 := Tryz.isAgg0
  z0 := Tryz.sizeOf0
  v0 := Tryz.zeroValue0
  t2 := Tryz.underlying2
  a2 := Tryz.isAgg2
  z2 := Tryz.sizeOf2
  v2 := Tryz.zeroValue2
  t3 := Tryz.underlying3
  a3 := Tryz.isAgg3
  z3 := Tryz.sizeOf3
  v3 := Tryz.zeroValue3
  t4 := Tryz.underlying4
  a4 := Tryz.isAgg4
  z4 := Tryz.sizeOf4
  v4 := Tryz.zeroValue4
  t5 := Tryz.underlying5
  a5 := Tryz.isAgg5
  z5 := Tryz.sizeOf5
  v5 := Tryz.zeroValue5
  t9 := Tryz.underlying9
  a9 := Tryz.isAgg9
  z9 := Tryz.sizeOf9
  v9 := Tryz.zeroValue9
  t20 := Tryz.underlying20
  a20 := Tryz.isAgg20
  z20 := Tryz.sizeOf20
  v20 := Tryz.zeroValue20
  t21 := Tryz.underlying21
  a21 := Tryz.isAgg21
  z21 := Tryz.sizeOf21
  v21 := Tryz.zeroValue21
  t37 := Tryz.underlying142
  a37 := Tryz.isAgg142
  z37 := Tryz.sizeOf142
  v37 := Tryz.zeroValue142
  t46 := Tryz.underlying144
  a46 := Tryz.isAgg144
  z46 := Tryz.sizeOf144
  v46 := Tryz.zeroValue144
  t51 := Tryz.underlying106
  a51 := Tryz.isAgg106
  z51 := Tryz.sizeOf106
  v51 := Tryz.zeroValue106
  t53 := Tryz.underlying132
  a53 := Tryz.isAgg132
  z53 := Tryz.sizeOf132
  v53 := Tryz.zeroValue132
  t75 := Tryz.underlying206
  a75 := Tryz.isAgg206
  z75 := Tryz.sizeOf206
  v75 := Tryz.zeroValue206
  t85 := Tryz.underlying237
  a85 := Tryz.isAgg237
  z85 := Tryz.sizeOf237
  v85 := Tryz.zeroValue237
  t127 := Tryz.underlying234
  a127 := Tryz.isAgg234
  z127 := Tryz.sizeOf234
  v127 := Tryz.zeroValue234
  t143 := Tryz.underlying263
  a143 := Tryz.isAgg263
  z143 := Tryz.sizeOf263
  v143 := Tryz.zeroValue263
  t145 := Tryz.underlying265
  a145 := Tryz.isAgg265
  z145 := Tryz.sizeOf265
  v145 := Tryz.zeroValue265
  t167 := Tryz.underlying243
  a167 := Tryz.isAgg243
  z167 := Tryz.sizeOf243
  v167 := Tryz.zeroValue243
  t168 := Tryz.underlying245
  a168 := Tryz.isAgg245
  z168 := Tryz.sizeOf245
  v168 := Tryz.zeroValue245
  t171 := Tryz.underlying197
  a171 := Tryz.isAgg197
  z171 := Tryz.sizeOf197
  v171 := Tryz.zeroValue197
  t173 := Tryz.underlying200
  a173 := Tryz.isAgg200
  z173 := Tryz.sizeOf200
  v173 := Tryz.zeroValue200
  t175 := Tryz.underlying207
  a175 := Tryz.isAgg207
  z175 := Tryz.sizeOf207
  v175 := Tryz.zeroValue207
  t210 := Tryz.underlying260
  a210 := Tryz.isAgg260
  z210 := Tryz.sizeOf260
  v210 := Tryz.zeroValue260
  t212 := Tryz.underlying226
  a212 := Tryz.isAgg226
  z212 := Tryz.sizeOf226
  v212 := Tryz.zeroValue226
  t213 := Tryz.underlying227
  a213 := Tryz.isAgg227
  z213 := Tryz.sizeOf227
  t232 := Tryz.underlying256
  a232 := Tryz.isAgg256
  z232 := Tryz.sizeOf256
  v232 := Tryz.zeroValue256
  t233 := Tryz.underlying257
  a233 := Tryz.isAgg257
  z233 := Tryz.sizeOf257
  v233 := Tryz.zeroValue257
  g15 := by kernel_rfl
  g16 := by kernel_rfl
  g17 := by kernel_rfl
  g18 := by kernel_rfl
  g19 := by kernel_rfl
  t80 := Tryz.underlying169
  a80 := Tryz.isAgg169
  z80 := Tryz.sizeOf169
  v80 := Tryz.zeroValue169
  i0 := by kernel_rfl
  i2 := by kernel_rfl
  i3 := by kernel_rfl
  i4 := by kernel_rfl
  i5 := by kernel_rfl
  i9 := by kernel_rfl
  i20 := by kernel_rfl
  i21 := by kernel_rfl
  i37 := by kernel_rfl
  i46 := by kernel_rfl
  i51 := by kernel_rfl
  i53 := by kernel_rfl
  i75 := by kernel_rfl
  i80 := by kernel_rfl
  i85 := by kernel_rfl
  i127 := by kernel_rfl
  i143 := by kernel_rfl
  i145 := by kernel_rfl
  i167 := by kernel_rfl
  i168 := by kernel_rfl
  i171 := by kernel_rfl
  i173 := by kernel_rfl
  i175 := by kernel_rfl
  i210 := by kernel_rfl
  i212 := by kernel_rfl
  i232 := by kernel_rfl
  i233 := by kernel_rfl
  m15 := by kernel_rfl
  m16 := by kernel_rfl
  m17 := by kernel_rfl
  m18 := by kernel_rfl
  m19 := by kernel_rfl
  c0 := by kernel_rfl
  c2 := by kernel_rfl
  c3 := by kernel_rfl
  c4 := by kernel_rfl
  c5 := by kernel_rfl
  c9 := by kernel_rfl
  c20 := by kernel_rfl
  c21 := by kernel_rfl
  c37 := by kernel_rfl
  c46 := by kernel_rfl
  c51 := by kernel_rfl
  c53 := by kernel_rfl
  c75 := by kernel_rfl
  c80 := by kernel_rfl
  c85 := by kernel_rfl
  c127 := by kernel_rfl
  c143 := by kernel_rfl
  c145 := by kernel_rfl
  c167 := by kernel_rfl
  c168 := by kernel_rfl
  c171 := by kernel_rfl
  c173 := by kernel_rfl
  c175 := by kernel_rfl
  c210 := by kernel_rfl
  c212 := by kernel_rfl
  c213 := by kernel_rfl
  c232 := by kernel_rfl
  c233 := by kernel_rfl }
open Go.RowKit in
open Go.RowKit in
open Go.RowKit in
open Go.RowKit in
theorem Tryz.strconv_ParseInt_10_at64_ok (s : ByteArray) (hmax : s.size ≤ 9223372036854775806) (v : Int) (h : Lib.parseIntB 64 s.data.toList = .ok v) (w : World) :
    Calls Tryz.prog 218 #[.string s, .int .i64 10, .int .i64 64] w fun e w' => e = .returned (.tuple #[.int .i64 v, .nilIface]) ∧ (w' = w ∨ ∃ t, w' = Lib.bytesWorld w 5 t) := Any.strconv_ParseInt_10_at64_ok Tryz.laysC174 s hmax v h w
open Go.RowKit in
open Go.RowKit in
open Go.RowKit in
open Go.RowKit in
open Go.RowKit in
open Go.RowKit in
open Go.RowKit in
open Go.RowKit in
open Go.RowKit in
open Go.RowKit in
open Go.RowKit in
def Tryz.laysPu14_ren : Go.Shelf.Ren := ⟨fun | 14 => 186 | 16 => 207 | 17 => 208 | 19 => 225 | 20 => 226 | 21 => 227 | 22 => 228 | 23 => 229 | 24 => 230 | 25 => 239 | 27 => 117 | 26 => 240 | 28 => 135 | 29 => 151 | 30 => 175 | 31 => 176 | 32 => 177 | 33 => 178 | 35 => 201 | 34 => 200 | 36 => 202 | 37 => 203 | 38 => 204 | 39 => 222 | 40 => 223 | n => n, fun | 9 => 9 | 3 => 3 | 22 => 132 | 24 => 206 | 25 => 207 | 4 => 4 | 34 => 243 | 5 => 5 | 36 => 144 | 37 => 142 | 0 => 0 | 39 => 245 | 21 => 21 | 44 => 260 | 47 => 234 | 50 => 265 | 48 => 263 | 2 => 2 | 52 => 197 | 55 => 200 | 59 => 226 | 60 => 106 | 20 => 20 | 61 => 227 | 65 => 256 | 66 => 257 | 67 => 169 | n => n, fun | 0 => 4 | 1 => 5 | 2 => 1 | 3 => 2 | 4 => 3 | n => n⟩
theorem Tryz.laysPu14 : Go.Proofs.LaysPu.n14 Tryz.prog Tryz.laysPu14_ren := {
  mixed := by kernel_rfl
  f14 := Tryz.func186.trans (congrArg some (by kernel_rfl))
  f16 := Tryz.func207.trans (congrArg some (by kernel_rfl))
  f17 := Tryz.func208.trans (congrArg some (by kernel_rfl))
  f19 := Tryz.func225.trans (congrArg some (by kernel_rfl))
  f20 := Tryz.func226.trans (congrArg some (by kernel_rfl))
  f21 := Tryz.func227.trans (congrArg some (by kernel_rfl))
  f22 := Tryz.func228.trans (congrArg some (by kernel_rfl))
  f23 := Tryz.func229.trans (congrArg some (by kernel_rfl))
  f24 := Tryz.func230.trans (congrArg some (by kernel_rfl))
  f25 := Tryz.func239.trans (congrArg some (by kernel_rfl))
  f26 := Tryz.func240.trans (congrArg some (by kernel_rfl))
  f27 := Tryz.func117.trans (congrArg some (by kernel_rfl))
  f28 := Tryz.func135.trans (congrArg some (by kernel_rfl))
  f29 := Tryz.func151.trans (congrArg some (by kernel_rfl))
  f30 := Tryz.func175.trans (congrArg some (by kernel_rfl))
  f31 := Tryz.func176.trans (congrArg some (by kernel_rfl))
  f32 := Tryz.func177.trans (congrArg some (by kernel_rfl))
  f33 := Tryz.func178.trans (congrArg some (by kernel_rfl))
  f34 := Tryz.func200.trans (congrArg some (by kernel_rfl))
  f35 := Tryz.func201.trans (congrArg some (by kernel_rfl))
  f36 := Tryz.func202.trans (congrArg some (by kernel_rfl))
  f37 := Tryz.func203.trans (congrArg some (by kernel_rfl))
  f38 := Tryz.func204.trans (congrArg some (by kernel_rfl))
  f39 := Tryz.func222.trans (congrArg some (by kernel_rfl))
  f40 := Tryz.func223.trans (congrArg some (by kernel_rfl))
  t0 := Tryz.underlying0
  a0 := Tryz.isAgg0
  z0 := Tryz.sizeOf0
  v0 := Tryz.zeroValue0
  i0 := by kernel_rfl
  t2 := Tryz.underlying2
  a2 := Tryz.isAgg2
  z2 := Tryz.sizeOf2
  v2 := Tryz.zeroValue2
  i2 := by kernel_rfl
  t3 := Tryz.underlying3
  a3 := Tryz.isAgg3
  z3 := Tryz.sizeOf3
  v3 := Tryz.zeroValue3
  i3 := by kernel_rfl
  t4 := Tryz.underlying4
  a4 := Tryz.isAgg4
  z4 := Tryz.sizeOf4
  v4 := Tryz.zeroValue4
  i4 := by kernel_rfl
  t5 := Tryz.underlying5
  a5 := Tryz.isAgg5
  z5 := Tryz.sizeOf5
  v5 := Tryz.zeroValue5
  i5 := by kernel_rfl
  t9 := Tryz.underlying9
  a9 := Tryz.isAgg9
  z9 := Tryz.sizeOf9
  v9 := Tryz.zeroValue9
  i9 := by kernel_rfl
  t20 := Tryz.underlying20
  a20 := Tryz.isAgg20
  z20 := Tryz.sizeOf20
  v20 := Tryz.zeroValue20
  i20 := by kernel_rfl
  t21 := Tryz.underlying21
  a21 := Tryz.isAgg21
  z21 := Tryz.sizeOf21
  v21 := Tryz.zeroValue21
  i21 := by kernel_rfl
  t22 := Tryz.underlying132
  a22 := Tryz.isAgg132
  z22 := Tryz.sizeOf132
  v22 := Tryz.zeroValue132
  i22 := by kernel_rfl
  t24 := Tryz.underlying206
  a24 := Tryz.isAgg206
  z24 := Tryz.sizeOf206
  v24 := Tryz.zeroValue206
  i24 := by kernel_rfl
  t25 := Tryz.underlying207
  a25 := Tryz.isAgg207
  z25 := Tryz.sizeOf207
  v25 := Tryz.zeroValue207
  i25 := by kernel_rfl
  t34 := Tryz.underlying243
  a34 := Tryz.isAgg243
  z34 := Tryz.sizeOf243
  v34 := Tryz.zeroValue243
  i34 := by kernel_rfl
  c34 := by kernel_rfl
  t36 := Tryz.underlying144
  a36 := Tryz.isAgg144
  z36 := Tryz.sizeOf144
  v36 := Tryz.zeroValue144
  i36 := by kernel_rfl
  t37 := Tryz.underlying142
  a37 := Tryz.isAgg142
  z37 := Tryz.sizeOf142
  v37 := Tryz.zeroValue142
  i37 := by kernel_rfl
  t39 := Tryz.underlying245
  a39 := Tryz.isAgg245
  z39 := Tryz.sizeOf245
  v39 := Tryz.zeroValue245
  i39 := by kernel_rfl
  t44 := Tryz.underlying260
  a44 := Tryz.isAgg260
  z44 := Tryz.sizeOf260
  v44 := Tryz.zeroValue260
  i44 := by kernel_rfl
  t47 := Tryz.underlying234
  a47 := Tryz.isAgg234
  z47 := Tryz.sizeOf234
  v47 := Tryz.zeroValue234
  i47 := by kernel_rfl
  t48 := Tryz.underlying263
  a48 := Tryz.isAgg263
  z48 := Tryz.sizeOf263
  v48 := Tryz.zeroValue263
  i48 := by kernel_rfl
  t50 := Tryz.underlying265
  a50 := Tryz.isAgg265
  z50 := Tryz.sizeOf265
  v50 := Tryz.zeroValue265
  i50 := by kernel_rfl
  t52 := Tryz.underlying197
  a52 := Tryz.isAgg197
  z52 := Tryz.sizeOf197
  v52 := Tryz.zeroValue197
  i52 := by kernel_rfl
  t55 := Tryz.underlying200
  a55 := Tryz.isAgg200
  z55 := Tryz.sizeOf200
  v55 := Tryz.zeroValue200
  i55 := by kernel_rfl
  t59 := Tryz.underlying226
  a59 := Tryz.isAgg226
  z59 := Tryz.sizeOf226
  v59 := Tryz.zeroValue226
  i59 := by kernel_rfl
  t60 := Tryz.underlying106
  a60 := Tryz.isAgg106
  z60 := Tryz.sizeOf106
  v60 := Tryz.zeroValue106
  i60 := by kernel_rfl
  t61 := Tryz.underlying227
  a61 := Tryz.isAgg227
  z61 := Tryz.sizeOf227
  t65 := Tryz.underlying256
  a65 := Tryz.isAgg256
  z65 := Tryz.sizeOf256
  v65 := Tryz.zeroValue256
  i65 := by kernel_rfl
  t66 := Tryz.underlying257
  a66 := Tryz.isAgg257
  z66 := Tryz.sizeOf257
  v66 := Tryz.zeroValue257
  i66 := by kernel_rfl
  t67 := Tryz.underlying169
  a67 := Tryz.isAgg169
  z67 := Tryz.sizeOf169
  v67 := Tryz.zeroValue169
  i67 := by kernel_rfl
  g0 := by kernel_rfl
  m0 := by kernel_rfl
  g1 := by kernel_rfl
  m1 := by kernel_rfl
  g2 := by kernel_rfl
  m2 := by kernel_rfl
  g3 := by kernel_rfl
  m3 := by kernel_rfl
  g4 := by kernel_rfl
  m4 := by kernel_rfl }
open Go.RowKit in
open Go.RowKit in
open Go.RowKit in
open Go.RowKit in
open Go.RowKit in
open Go.RowKit in
open Go.RowKit in
theorem Tryz.strconv_ParseUint_10_at32_ok (s : ByteArray) (hmax : s.size ≤ 9223372036854775806) (u : Nat) (h : Lib.parseUintB 32 s.data.toList = .ok u) (w : World) :
    Calls Tryz.prog 186 #[.string s, .int .i64 10, .int .i64 32] w fun e w' => e = .returned (.tuple #[.int .u64 u, .nilIface]) ∧ (w' = w ∨ w' = Lib.bytesWorld w 5 s) := Any.strconv_ParseUint_10_at32_ok Tryz.laysPu14 s hmax u h w
open Go.RowKit in
open Go.RowKit in
open Go.RowKit in
open Go.RowKit in
open Go.RowKit in
open Go.RowKit in
open Go.RowKit in
open Go.RowKit in
open Go.RowKit Go.Lib in
open Go.RowKit Go.Lib in
open Go.RowKit Go.Lib in
open Go.RowKit Go.Lib in
open Go.RowKit Go.Lib in
open Go.RowKit Go.Lib in
open Go.RowKit Go.Lib in
def Tryz.lays145_ren : Go.Shelf.Ren := ⟨fun | 145 => 112 | 220 => 129 | 219 => 144 | 217 => 159 | 225 => 160 | 224 => 161 | 267 => 162 | 266 => 183 | 314 => 184 | n => n, fun | 9 => 9 | 4 => 4 | 59 => 100 | 3 => 3 | 5 => 5 | 46 => 144 | 146 => 202 | 51 => 106 | n => n, fun | 1 => 0 | n => n⟩
theorem Tryz.lays145 : Go.Proofs.Lays.n145 Tryz.prog Tryz.lays145_ren := {
  mixed := by kernel_rfl
  f145 := Tryz.func112.trans (congrArg some (by kernel_rfl))
  f217 := Tryz.func159.trans (congrArg some (by kernel_rfl))
  f219 := Tryz.func144.trans (congrArg some (by kernel_rfl))
  f220 := Tryz.func129.trans (congrArg some (by kernel_rfl))
  f224 := Tryz.func161.trans (congrArg some (by kernel_rfl))
  f225 := Tryz.func160.trans (congrArg some (by kernel_rfl))
  f266 := Tryz.func183.trans (congrArg some (by kernel_rfl))
  f267 := Tryz.func162.trans (congrArg some (by kernel_rfl))
  f314 := Tryz.func184.trans (congrArg some (by kernel_rfl))
  t3 := Tryz.underlying3
  a3 := Tryz.isAgg3
  z3 := Tryz.sizeOf3
  v3 := Tryz.zeroValue3
  t4 := Tryz.underlying4
  a4 := Tryz.isAgg4
  z4 := Tryz.sizeOf4
  v4 := Tryz.zeroValue4
  t5 := Tryz.underlying5
  a5 := Tryz.isAgg5
  z5 := Tryz.sizeOf5
  v5 := Tryz.zeroValue5
  t9 := Tryz.underlying9
  a9 := Tryz.isAgg9
  z9 := Tryz.sizeOf9
  v9 := Tryz.zeroValue9
  t46 := Tryz.underlying144
  a46 := Tryz.isAgg144
  z46 := Tryz.sizeOf144
  v46 := Tryz.zeroValue144
  t51 := Tryz.underlying106
  a51 := Tryz.isAgg106
  z51 := Tryz.sizeOf106
  v51 := Tryz.zeroValue106
  t59 := Tryz.underlying100
  a59 := Tryz.isAgg100
  z59 := Tryz.sizeOf100
  v59 := Tryz.zeroValue100
  t146 := Tryz.underlying202
  a146 := Tryz.isAgg202
  z146 := Tryz.sizeOf202
  v146 := Tryz.zeroValue202
  g1 := by kernel_rfl }
open Go.RowKit Go.Lib in
theorem Tryz.strings_Cut (s sep : ByteArray) (m : Int) (w : World) (hs : s.size < 4294967281) (hm : w.cell? ⟨0, 0, none⟩ = some (.int .i64 m)) :
    Calls Tryz.prog 112 #[.string s, .string sep] w fun e w' => e = .returned (.tuple #[.string ⟨(Lib.cut s.data.toList sep.data.toList).1.toArray⟩, .string ⟨(Lib.cut s.data.toList sep.data.toList).2.1.toArray⟩, .bool (Lib.cut s.data.toList sep.data.toList).2.2]) ∧ ∃ n, w' = w.drewN n := Any.strings_Cut Tryz.lays145 s sep m w hs hm
open Go.RowKit Go.Lib in
open Go.RowKit Go.Lib in
open Go.RowKit Go.Lib in
open Go.RowKit Go.Lib in
open Go.RowKit Go.Lib in
open Go.RowKit Go.Lib in
open Go.RowKit Go.Lib in
def Tryz.lays105_ren : Go.Shelf.Ren := ⟨fun | 105 => 191 | 212 => 212 | 99 => 213 | 165 => 214 | 166 => 190 | 170 => 215 | 169 => 192 | 263 => 232 | 264 => 233 | 206 => 185 | 240 => 211 | 241 => 234 | 276 => 231 | 277 => 241 | n => n, fun | 9 => 9 | 3 => 3 | 4 => 4 | 20 => 20 | 0 => 0 | 46 => 144 | 109 => 231 | 5 => 5 | 72 => 212 | 76 => 217 | 51 => 106 | 146 => 202 | 53 => 132 | 148 => 251 | 70 => 210 | 37 => 142 | 75 => 206 | 127 => 234 | 164 => 248 | 80 => 169 | n => n, fun | n => n⟩
theorem Tryz.lays105 : Go.Proofs.Lays.n105 Tryz.prog Tryz.lays105_ren := {
  mixed := by kernel_rfl
  f99 := Tryz.func213.trans (congrArg some (by kernel_rfl))
  f105 := Tryz.func191.trans (congrArg some (by kernel_rfl))
  f165 := Tryz.func214.trans (congrArg some (by kernel_rfl))
  f166 := Tryz.func190.trans (congrArg some (by kernel_rfl))
  f169 := Tryz.func192.trans (congrArg some (by kernel_rfl))
  f170 := Tryz.func215.trans (congrArg some (by kernel_rfl))
  f206 := Tryz.func185.trans (congrArg some (by kernel_rfl))
  f212 := Tryz.func212.trans (congrArg some (by kernel_rfl))
  f240 := Tryz.func211.trans (congrArg some (by kernel_rfl))
  f241 := Tryz.func234.trans (congrArg some (by kernel_rfl))
  f263 := Tryz.func232.trans (congrArg some (by kernel_rfl))
  f264 := Tryz.func233.trans (congrArg some (by kernel_rfl))
  f276 := Tryz.func231.trans (congrArg some (by kernel_rfl))
  f277 := Tryz.func241.trans (congrArg some (by kernel_rfl))
  t0 := Tryz.underlying0
  a0 := Tryz.isAgg0
  z0 := Tryz.sizeOf0
  v0 := Tryz.zeroValue0
  t3 := Tryz.underlying3
  a3 := Tryz.isAgg3
  z3 := Tryz.sizeOf3
  v3 := Tryz.zeroValue3
  t4 := Tryz.underlying4
  a4 := Tryz.isAgg4
  z4 := Tryz.sizeOf4
  v4 := Tryz.zeroValue4
  t5 := Tryz.underlying5
  a5 := Tryz.isAgg5
  z5 := Tryz.sizeOf5
  v5 := Tryz.zeroValue5
  t9 := Tryz.underlying9
  a9 := Tryz.isAgg9
  z9 := Tryz.sizeOf9
  v9 := Tryz.zeroValue9
  t20 := Tryz.underlying20
  a20 := Tryz.isAgg20
  z20 := Tryz.sizeOf20
  v20 := Tryz.zeroValue20
  t37 := Tryz.underlying142
  a37 := Tryz.isAgg142
  z37 := Tryz.sizeOf142
  v37 := Tryz.zeroValue142
  t46 := Tryz.underlying144
  a46 := Tryz.isAgg144
  z46 := Tryz.sizeOf144
  v46 := Tryz.zeroValue144
  t51 := Tryz.underlying106
  a51 := Tryz.isAgg106
  z51 := Tryz.sizeOf106
  v51 := Tryz.zeroValue106
  t53 := Tryz.underlying132
  a53 := Tryz.isAgg132
  z53 := Tryz.sizeOf132
  v53 := Tryz.zeroValue132
  t70 := Tryz.underlying210
  a70 := Tryz.isAgg210
  z70 := Tryz.sizeOf210
  v70 := Tryz.zeroValue210
  t72 := Tryz.underlying212
  a72 := Tryz.isAgg212
  z72 := Tryz.sizeOf212
  v72 := Tryz.zeroValue212
  t75 := Tryz.underlying206
  a75 := Tryz.isAgg206
  z75 := Tryz.sizeOf206
  v75 := Tryz.zeroValue206
  t76 := Tryz.underlying217
  a76 := Tryz.isAgg217
  z76 := Tryz.sizeOf217
  v76 := Tryz.zeroValue217
  t109 := Tryz.underlying231
  a109 := Tryz.isAgg231
  z109 := Tryz.sizeOf231
  v109 := Tryz.zeroValue231
  t127 := Tryz.underlying234
  a127 := Tryz.isAgg234
  z127 := Tryz.sizeOf234
  v127 := Tryz.zeroValue234
  t146 := Tryz.underlying202
  a146 := Tryz.isAgg202
  z146 := Tryz.sizeOf202
  v146 := Tryz.zeroValue202
  t148 := Tryz.underlying251
  a148 := Tryz.isAgg251
  z148 := Tryz.sizeOf251
  v148 := Tryz.zeroValue251
  t164 := Tryz.underlying248
  a164 := Tryz.isAgg248
  z164 := Tryz.sizeOf248
  v164 := Tryz.zeroValue248 }
theorem Tryz.Builder_Extra_105 : Builder.Extra Tryz.prog Tryz.lays105_ren := {
  sizeBuilder := by kernel_rfl
  liesBuilder := by kernel_rfl
  t5 := Tryz.underlying5
  a5 := Tryz.isAgg5
  z5 := Tryz.sizeOf5
  v5 := Tryz.zeroValue5
  infoByte := by kernel_rfl
  cellsByte := by kernel_rfl
  sizeByte := by kernel_rfl
  neB5 := by decide }
open Go.RowKit Go.Lib in
open Go.RowKit Go.Lib in
open Go.RowKit Go.Lib in
open Go.RowKit Go.Lib in
open Go.RowKit Go.Lib in
open Go.RowKit Go.Lib in
open Go.RowKit Go.Lib in
theorem Tryz.strings_Repeat (s : ByteArray) (c : Nat) (w : World) (hc : c ≤ 9223372036854775807) (hlen : s.size * c ≤ 140737488355328) :
    Calls Tryz.prog 191 #[.string s, .int .i64 c] w fun e w' => e = .returned (.string ⟨(Lib.repeatL s.data.toList c).toArray⟩) ∧ Below w.heap.size w w' := Any.strings_Repeat Tryz.lays105 Tryz.Builder_Extra_105 s c w hc hlen
end Go.Proofs

namespace Go.Proofs
open Go.Shelf Go.RowKit

theorem Tryz.bX : (Tryz.prog.info? 212).map (·.size) = some 2 := by kernel_rfl
theorem Tryz.bLies : liesAt Tryz.prog Tryz.prog.depth 212 (2 / Tryz.prog.cellsOf 212) 0 212 1 = true := by kernel_rfl
theorem Tryz.bInfo : (Tryz.prog.info? 5).map (fun i => (i.zero, i.size, i.bytes)) = some (some (.int .u8 0), 1, 1) := by kernel_rfl
theorem Tryz.bMixed : Tryz.prog.follows .mixedOrders = true := by kernel_rfl

set_option maxHeartbeats 1000000 in
set_option maxRecDepth 100000 in
theorem Tryz.bCheckUsed (b : Nat) (w : World) (h0 : w.cell? ⟨b, 0, none⟩ = some (.pointer (some ⟨b, 0, none⟩))) :
    Calls Tryz.prog 211 #[.pointer (some ⟨b, 0, none⟩)] w fun e w' => e = .returned (.tuple #[]) ∧ w' = w := by
  obtain ⟨j, hj, _⟩ := Option.map_eq_some_iff.1 Tryz.bX
  have mixed := Tryz.bMixed
  have t72 := Tryz.underlying212; have a72 := Tryz.isAgg212; have z72 := Tryz.sizeOf212; have v72 := Tryz.zeroValue212; have u72 := run_underlying t72
  have t70 := Tryz.underlying210; have a70 := Tryz.isAgg210; have z70 := Tryz.sizeOf210; have v70 := Tryz.zeroValue210; have u70 := run_underlying t70
  have t4 := Tryz.underlying4; have a4 := Tryz.isAgg4; have z4 := Tryz.sizeOf4; have v4 := Tryz.zeroValue4; have u4 := run_underlying t4
  have t164 := Tryz.underlying248; have a164 := Tryz.isAgg248; have z164 := Tryz.sizeOf248; have v164 := Tryz.zeroValue248; have u164 := run_underlying t164
  go_enter Tryz.func211, Tryz.ntmps211
  go_wp2
  rw [Lib.run_neq_ptr_same w _ t70 hj]
  go_wp2
  go_end0
  exact ⟨rfl, rfl⟩

set_option maxHeartbeats 1000000 in
set_option maxRecDepth 100000 in
theorem Tryz.bCheckFresh (b : Nat) (w : World) (h0 : w.cell? ⟨b, 0, none⟩ = some (.pointer none)) (hsh : w.shape? b = some (212, 2)) (hfz : w.frozen? ⟨b, 0, none⟩ = false) :
    Calls Tryz.prog 211 #[.pointer (some ⟨b, 0, none⟩)] w fun e w' => e = .returned (.tuple #[]) ∧ w' = w.setCell ⟨b, 0, none⟩ (.pointer (some ⟨b, 0, none⟩)) := by
  obtain ⟨j, hj, hjs⟩ := Option.map_eq_some_iff.1 Tryz.bX
  have mixed := Tryz.bMixed
  have t72 := Tryz.underlying212; have a72 := Tryz.isAgg212; have z72 := Tryz.sizeOf212; have v72 := Tryz.zeroValue212; have u72 := run_underlying t72
  have t70 := Tryz.underlying210; have a70 := Tryz.isAgg210; have z70 := Tryz.sizeOf210; have v70 := Tryz.zeroValue210; have u70 := run_underlying t70
  have t4 := Tryz.underlying4; have a4 := Tryz.isAgg4; have z4 := Tryz.sizeOf4; have v4 := Tryz.zeroValue4; have u4 := run_underlying t4
  have t164 := Tryz.underlying248; have a164 := Tryz.isAgg248; have z164 := Tryz.sizeOf248; have v164 := Tryz.zeroValue248; have u164 := run_underlying t164
  go_enter Tryz.func211, Tryz.ntmps211
  go_wp2
  rw [Lib.run_to_unsafe w ⟨b, 0, none⟩ t70 t164 hj (by rw [hjs]; decide) hsh (Nat.zero_lt_succ 1)]
  simp only [Result.andThen]
  rw [Oper.upon_value]
  go_wp2
  rw [run_callFunc_extern Tryz.func231 (by kernel_rfl) (by kernel_rfl) (by kernel_rfl) (e := Extern.AbiNoEscape.same) (by kernel_rfl)]
  rw [Lib.run_noEscape]
  simp only [Result.andThen]
  rw [Oper.upon_value]
  go_wp2
  rw [Lib.run_from_unsafe w ⟨b, 0, none⟩ t164 t70 hj hsh Tryz.bLies]
  simp only [Result.andThen]
  rw [Oper.upon_value]
  go_wp2
  go_end0
  exact ⟨rfl, rfl⟩

theorem Tryz.bCheck (B b : Nat) (bs : List Value) (w : World) (h : Lib.IsBuilderF 212 5 B b bs w) :
    Calls Tryz.prog 211 #[.pointer (some ⟨b, 0, none⟩)] w fun e w' => e = .returned (.tuple #[]) ∧ (Lib.BuilderAtF 212 5 B b (.pointer (some ⟨b, 0, none⟩)) bs w' ∧ Below B w w' ∧ Lib.OthersKept 5 (some b) w w') := by
  rcases h with h | h
  · refine (Tryz.bCheckFresh b w h.cell0 h.shape h.frozen0).mono ?_
    rintro e w' ⟨rfl, rfl⟩
    exact ⟨rfl, h.used _, (Below.refl B w).setCell (p := ⟨b, 0, none⟩) h.1 _, (Lib.OthersKept.refl _ _ w).setCell ⟨b, 0, none⟩ rfl _⟩
  · refine (Tryz.bCheckUsed b w h.cell0).mono ?_
    rintro e w' ⟨rfl, rfl⟩
    exact ⟨rfl, h, Below.refl B _, Lib.OthersKept.refl _ _ _⟩

set_option maxHeartbeats 2000000 in
set_option maxRecDepth 100000 in
theorem Tryz.bWrite (B b : Nat) (bs : List Value) (s : ByteArray) (w : World) (h : Lib.IsBuilderF 212 5 B b bs w) (hlen : bs.length + s.size ≤ 140737488355328) (hBw : B ≤ w.heap.size) :
    Calls Tryz.prog 190 #[.pointer (some ⟨b, 0, none⟩), .string s] w fun e w' => e = .returned (.tuple #[.int .i64 s.size, .nilIface]) ∧ (Lib.BuilderAtF 212 5 B b (.pointer (some ⟨b, 0, none⟩)) (bs ++ Lib.strCells s) w' ∧ Below B w w' ∧ Lib.OthersKept 5 (some b) w w') := by
  obtain ⟨i0, hi, hz0, hz1, hz2⟩ := info_parts Tryz.bInfo
  have mixed := Tryz.bMixed
  have t72 := Tryz.underlying212; have a72 := Tryz.isAgg212; have z72 := Tryz.sizeOf212; have v72 := Tryz.zeroValue212; have u72 := run_underlying t72
  have t70 := Tryz.underlying210; have a70 := Tryz.isAgg210; have z70 := Tryz.sizeOf210; have v70 := Tryz.zeroValue210; have u70 := run_underlying t70
  have t37 := Tryz.underlying142; have a37 := Tryz.isAgg142; have z37 := Tryz.sizeOf142; have v37 := Tryz.zeroValue142; have u37 := run_underlying t37
  have t3 := Tryz.underlying3; have a3 := Tryz.isAgg3; have z3 := Tryz.sizeOf3; have v3 := Tryz.zeroValue3; have u3 := run_underlying t3
  have t9 := Tryz.underlying9; have a9 := Tryz.isAgg9; have z9 := Tryz.sizeOf9; have v9 := Tryz.zeroValue9; have u9 := run_underlying t9
  have t4 := Tryz.underlying4; have a4 := Tryz.isAgg4; have z4 := Tryz.sizeOf4; have v4 := Tryz.zeroValue4; have u4 := run_underlying t4
  have t5 := Tryz.underlying5; have a5 := Tryz.isAgg5; have z5 := Tryz.sizeOf5; have v5 := Tryz.zeroValue5; have u5 := run_underlying t5
  have e240 : ∀ args w, (callFunc 211 args).run Tryz.prog w = .ok (.enter 211 args) w := enters_of Tryz.func211 (by kernel_rfl) rfl
  go_enter Tryz.func190, Tryz.ntmps190
  go_wp2_with (go_at_fn 211; refine (Tryz.bCheck B b bs _ h).mono ?_)
  rintro e w1 ⟨rfl, h1, hb1, hk1⟩
  obtain ⟨hB, v, hbk, hown, hne⟩ := h1
  have c0 : w1.cell? ⟨b, 0, none⟩ = some (.pointer (some ⟨b, 0, none⟩)) := by rw [Lib.cell_of_heap hbk]; rfl
  have c1 : w1.cell? ⟨b, 1, none⟩ = some v := by rw [Lib.cell_of_heap hbk]; rfl
  go_wp2_with (at_builtin; refine Lib.wpList_append_own_stringF _ rfl _ _ 142 9 rfl B 5 i0 t37 t9 hi hz0 hz1 hz2 _ _ _ rfl hown s rfl ?c3 ?c4 ?c5 ?_)
  case c3 => unfold maxLen; omega
  case c4 => omega
  case c5 => have := hb1.size; omega
  intro v' w2 hown' hgrow _
  have hlt : b < w1.heap.size := by
    rcases Nat.lt_or_ge b w1.heap.size with h' | h'
    · exact h'
    · simp [Array.getElem?_eq_none h'] at hbk
  have hb2 : w2.heap[b]? = some (.cells #[.pointer (some ⟨b, 0, none⟩), v] 212 (0, 0)) := by
    rw [hgrow.block b hlt (fun e => hne e.symm)]
    exact hbk
  have d0 : w2.cell? ⟨b, 0, none⟩ = some (.pointer (some ⟨b, 0, none⟩)) := by rw [Lib.cell_of_heap hb2]; rfl
  have d1 : w2.cell? ⟨b, 1, none⟩ = some v := by rw [Lib.cell_of_heap hb2]; rfl
  have f1 : w2.frozen? ⟨b, 1, none⟩ = false := Lib.frozen_of_heap hb2 1
  obtain ⟨ao, n', cap, rfl⟩ : ∃ ao n' cap, v' = .slice ao n' cap := by
    rcases hown'.2 with ⟨hv, _⟩ | ⟨g, cap, cur, fz, hv, _⟩
    · exact ⟨_, _, _, hv⟩
    · exact ⟨_, _, _, hv⟩
  go_wp2
  go_ret2
  refine ⟨rfl, ?_, ?_, (hk1.grown hgrow (Lib.ownsRowF_kind hown)).setCell ⟨b, 1, none⟩ rfl _⟩
  · exact Lib.BuilderAtF.put (T := 212) (e := 5) hB hb2 (bs' := bs ++ Lib.strCells s) (by simpa [Lib.strCells_length] using hown') (by decide)
  · exact (hb1.grown hgrow (by have := hb1.size; omega) (fun k hk => (hown.lt k hk).1)).setCell (p := ⟨b, 1, none⟩) hB _
end Go.Proofs

namespace Go.Proofs
open Go.Shelf Go.RowKit Go.Sort Go.Lib

theorem Tryz.holds0 (w : World) (T : TypeId) (nd : Nat) (hs : nd ≤ 24) : Holds (fun (b : UInt8) => Value.int .u8 (b.toNat : Int)) (w.alloc (.cells zeros24 T)) w.heap.size 0 (Array.replicate nd (0 : UInt8)) := fun j hj => by
  have hj' : j < nd := by simpa using hj
  refine ⟨?_, World.frozen?_alloc_new _ _ _ _⟩
  rw [World.cell?_alloc_new, zeros24_at _ (by omega), getElem!_pos _ j hj]
  simp
theorem Tryz.fin0 (w : World) (o : Obj) (dk : Array UInt8) (k : Nat) : ∃ os, (putRow (fun (b : UInt8) => Value.int .u8 (b.toNat : Int)) (w.alloc o) w.heap.size 0 dk).drewN k = grow (w.drewN k) os := by
  rw [alloc_eq_grow]
  obtain ⟨os', _, e⟩ := putRow_grow_new (fun (b : UInt8) => Value.int .u8 (b.toNat : Int)) w #[o] w.heap.size 0 dk (Nat.le_refl _)
  exact ⟨os', by rw [e]; rfl⟩

set_option maxHeartbeats 6400000 in
set_option maxRecDepth 100000 in
theorem Tryz.fmtU (u : Nat) (hu64 : u < 18446744073709551616) (w : World)
    (htab : Lib.TabIs Tryz.prog w "internal/strconv.uint64pow10" .u64 Lib.pow10Tab) :
    Calls Tryz.prog 210 #[.int .u64 u, .int .i64 10] w fun e w' => e = .returned (.string ⟨(Lib.decDigits u).toArray⟩) ∧ ∃ k os, w' = grow (w.drewN k) os := by
  have mixed : Tryz.prog.follows .mixedOrders = true := by kernel_rfl
  have t3 := Tryz.underlying3; have a3 := Tryz.isAgg3; have z3 := Tryz.sizeOf3; have v3 := Tryz.zeroValue3
  have t9 := Tryz.underlying9; have a9 := Tryz.isAgg9; have z9 := Tryz.sizeOf9; have v9 := Tryz.zeroValue9
  have t4 := Tryz.underlying4; have a4 := Tryz.isAgg4; have z4 := Tryz.sizeOf4; have v4 := Tryz.zeroValue4
  have t171 := Tryz.underlying197; have a171 := Tryz.isAgg197; have z171 := Tryz.sizeOf197; have v171 := Tryz.zeroValue197
  have t53 := Tryz.underlying132; have a53 := Tryz.isAgg132; have z53 := Tryz.sizeOf132; have v53 := Tryz.zeroValue132
  have t37 := Tryz.underlying142; have a37 := Tryz.isAgg142; have z37 := Tryz.sizeOf142; have v37 := Tryz.zeroValue142
  have t5 := Tryz.underlying5; have a5 := Tryz.isAgg5; have z5 := Tryz.sizeOf5; have v5 := Tryz.zeroValue5
  have e1 : ∀ args w, (callFunc 175 args).run Tryz.prog w = .ok (.enter 175 args) w := enters_of Tryz.func175 (by kernel_rfl) rfl
  have e2 : ∀ args w, (callFunc 176 args).run Tryz.prog w = .ok (.enter 176 args) w := enters_of Tryz.func176 (by kernel_rfl) rfl
  have e3 : ∀ args w, (callFunc 177 args).run Tryz.prog w = .ok (.enter 177 args) w := enters_of Tryz.func177 (by kernel_rfl) rfl
  by_cases hs : u < 100
  · go_enter Tryz.func210, Tryz.ntmps210
    go_wp2_with (go_at_fn 175; refine (Tryz.internal_strconv_small u hs _).mono ?_; rintro e w' ⟨rfl, rfl⟩)
    go_ret
    exact ⟨rfl, 0, #[], by simp [World.drewN_zero]⟩
  · have hu1 : 1 ≤ u := by omega
    have hnd20 : Lib.nDigits u ≤ 20 := by have := Lib.numDigits_eq u hu1 hu64; split at this <;> omega
    have hal : Tryz.prog.arrayLen 197 = 24 := by kernel_rfl
    have hsl1 : ∀ W, (Instr.sliceAt 197 (.pointer (some ⟨w.heap.size, 0, none⟩)) none (some (.int .i64 (Lib.nDigits u : Int))) none).run Tryz.prog W = .ok (.slice (some ⟨w.heap.size, 0, none⟩) (Lib.nDigits u) 24) W := fun W => by
      rw [run_sliceAt_array_h W 197 ⟨w.heap.size, 0, none⟩ (by rw [hal]; exact t171) .i64 (Lib.nDigits u : Int) (by omega) (by rw [hal]; omega)]
      rw [hal]
      go_simp
    have hH0 := Tryz.holds0 w 197 (Lib.nDigits u) (by omega)
    have hfmt := Tryz.internal_strconv_formatBase10 w.heap.size 0 24 u (Array.replicate (Lib.nDigits u) 0) (w.alloc (.cells Lib.zeros24 197)) hH0 (by rw [Array.size_replicate]; exact Lib.lt_pow_nDigits u) hu64 (by rw [Array.size_replicate]; omega)
    rw [Array.size_replicate] at hfmt
    have HH0 := Lib.hid hH0
    clear hH0 hal
    go_enter Tryz.func210, Tryz.ntmps210
    go_wp2_with (first
      | (go_at_fn 176; refine (Tryz.internal_strconv_numDigits u hu1 hu64 _ (Lib.tabIs_alloc htab _)).mono ?_; rintro e w' ⟨rfl, rfl⟩))
    go_at_fn 177
    refine hfmt.mono ?_
    rintro e w' ⟨rfl, k, v', dk, rfl, hF⟩
    have hcv : (convert 142 9 (.slice (some ⟨w.heap.size, 0, none⟩) (Lib.nDigits u) 24)).run Tryz.prog ((putRow (fun (b : UInt8) => Value.int .u8 (b.toNat : Int)) (w.alloc (.cells Lib.zeros24 197)) w.heap.size 0 dk).drewN k) = .ok (.string ⟨(Lib.decDigits u).toArray⟩) ((putRow (fun (b : UInt8) => Value.int .u8 (b.toNat : Int)) (w.alloc (.cells Lib.zeros24 197)) w.heap.size 0 dk).drewN k) := by
      have h := run_convert_bytes_back (P := Tryz.prog) ((putRow (fun (b : UInt8) => Value.int .u8 (b.toNat : Int)) (w.alloc (.cells Lib.zeros24 197)) w.heap.size 0 dk).drewN k) 142 9 5 ⟨w.heap.size, 0, none⟩ 24 (Lib.decDigits u) t37 t5 t9 (fun j hj => by
        rw [Lib.row_is_numeral hF j hj, Lib.add_plain, World.cell?_drewN]
        exact cell?_putRow (fun (b : UInt8) => Value.int .u8 (b.toNat : Int)) _ w.heap.size 0 _ dk HH0.out (by rw [hF.size, Array.size_replicate]) j (by rw [hF.size]; rw [Lib.decDigits_length] at hj; exact hj))
      rw [Lib.decDigits_length] at h
      exact h
    go_wp2
    go_ret
    obtain ⟨os, eo⟩ := Tryz.fin0 w (.cells Lib.zeros24 197) dk k
    exact ⟨rfl, k, os, eo⟩

set_option maxRecDepth 100000 in
theorem Tryz.FormatUint (u : Nat) (hu64 : u < 18446744073709551616) (w : World)
    (htab : Lib.TabIs Tryz.prog w "internal/strconv.uint64pow10" .u64 Lib.pow10Tab) :
    Calls Tryz.prog 189 #[.int .u64 u, .int .i64 10] w fun e w' => e = .returned (.string ⟨(Lib.decDigits u).toArray⟩) ∧ ∃ k os, w' = grow (w.drewN k) os := by
  have mixed : Tryz.prog.follows .mixedOrders = true := by kernel_rfl
  have t3 := Tryz.underlying3; have a3 := Tryz.isAgg3; have z3 := Tryz.sizeOf3; have v3 := Tryz.zeroValue3
  have t9 := Tryz.underlying9; have a9 := Tryz.isAgg9; have z9 := Tryz.sizeOf9; have v9 := Tryz.zeroValue9
  have t53 := Tryz.underlying132; have a53 := Tryz.isAgg132; have z53 := Tryz.sizeOf132; have v53 := Tryz.zeroValue132
  have e246 : ∀ args w, (callFunc 210 args).run Tryz.prog w = .ok (.enter 210 args) w := enters_of Tryz.func210 (by kernel_rfl) rfl
  go_enter Tryz.func189, Tryz.ntmps189
  go_wp2_with (go_at_fn 210; refine (Tryz.fmtU u hu64 _ htab).mono ?_; rintro e w' ⟨rfl, k, os, rfl⟩)
  go_ret
  exact ⟨rfl, k, os, rfl⟩
end Go.Proofs

set_option maxRecDepth 100000
namespace Go.Proofs.YtdoailkigecmkaaGreatDoor.F
open Go Go.RowKit Go.Proofs Go.Proofs.YtdoailkigecmkaaGreatDoor.Vc
noncomputable def strings_Cut.cx (w : World) (B : Nat) (R : Value → World → Prop) : Cx := ⟨Tryz.prog, 112, 13, Tryz.f112.results.toList, [], [], w, B, R⟩
theorem strings_Cut.vc (sp0 : ByteArray) (sp1 : ByteArray) (w : World) (R : Value → World → Prop)
    (h : (Pure Tryz.prog 129 #[(.string sp0), (.string sp1)] w fun r4 w5 => ∃ (s1 : ByteArray) (s2 : ByteArray) (b3 : Bool), r4 = (.tuple #[(.string s1), (.string s2), (.bool b3)]) ∧ (R (.tuple #[(.string s1), (.string s2), (.bool b3)]) w5))) :
    Pure Tryz.prog 112 #[(.string sp0), (.string sp1)] w R :=
  pure_of_run (strings_Cut.cx w w.heap.size R) 100000 follows Tryz.func112 rfl rfl rfl rfl rfl rfl rfl (Eq.mp (by kernel_rfl) h)

noncomputable def strconv_Itoa.cx (w : World) (B : Nat) (R : Value → World → Prop) : Cx := ⟨Tryz.prog, 117, 5, Tryz.f117.results.toList, [], [], w, B, R⟩
theorem strconv_Itoa.vc (ip0 : Int) (w : World) (R : Value → World → Prop)
    (h : (Pure Tryz.prog 135 #[(.int .i64 ip0)] w fun r2 w3 => ∃ (s1 : ByteArray), r2 = (.string s1) ∧ (R (.string s1) w3))) :
    Pure Tryz.prog 117 #[(.int .i64 ip0)] w R :=
  pure_of_run (strconv_Itoa.cx w w.heap.size R) 100000 follows Tryz.func117 rfl rfl rfl rfl rfl rfl rfl (Eq.mp (by kernel_rfl) h)

noncomputable def strings_CutPrefix.cx (w : World) (B : Nat) (R : Value → World → Prop) : Cx := ⟨Tryz.prog, 145, 11, Tryz.f145.results.toList, [], [], w, B, R⟩
theorem strings_CutPrefix.vc (sp0 : ByteArray) (sp1 : ByteArray) (w : World) (R : Value → World → Prop)
    (h : (Pure Tryz.prog 163 #[(.string sp0), (.string sp1)] w fun r3 w4 => ∃ (s1 : ByteArray) (b2 : Bool), r3 = (.tuple #[(.string s1), (.bool b2)]) ∧ (R (.tuple #[(.string s1), (.bool b2)]) w4))) :
    Pure Tryz.prog 145 #[(.string sp0), (.string sp1)] w R :=
  pure_of_run (strings_CutPrefix.cx w w.heap.size R) 100000 follows Tryz.func145 rfl rfl rfl rfl rfl rfl rfl (Eq.mp (by kernel_rfl) h)

noncomputable def cmp_Compare_int.cx (w : World) (B : Nat) (R : Value → World → Prop) : Cx := ⟨Tryz.prog, 216, 20, Tryz.f216.results.toList, [], [], w, B, R⟩
theorem cmp_Compare_int.vc (ip0 : Int) (ip1 : Int) (w : World) (R : Value → World → Prop)
    (h : (Pure Tryz.prog 235 #[(.int .i64 ip0)] w fun r2 w3 => ∃ (b1 : Bool), r2 = (.bool b1) ∧ (Pure Tryz.prog 235 #[(.int .i64 ip1)] w3 fun r5 w6 => ∃ (b4 : Bool), r5 = (.bool b4) ∧ ((b1 = true → ((b4 = true → (R (.int .i64 (0 : Int)) w6)) ∧ (b4 = false → (R (.int .i64 (-1 : Int)) w6)))) ∧ (b1 = false → ((b4 = true → (R (.int .i64 (1 : Int)) w6)) ∧ (b4 = false → ((((ip0 : Int) < ip1) → (R (.int .i64 (-1 : Int)) w6)) ∧ (¬ ((ip0 : Int) < ip1) → ((((ip0 : Int) > ip1) → (R (.int .i64 (1 : Int)) w6)) ∧ (¬ ((ip0 : Int) > ip1) → (R (.int .i64 (0 : Int)) w6)))))))))))) :
    Pure Tryz.prog 216 #[(.int .i64 ip0), (.int .i64 ip1)] w R :=
  pure_of_run (cmp_Compare_int.cx w w.heap.size R) 100000 follows Tryz.func216 rfl rfl rfl rfl rfl rfl rfl (Eq.mp (by kernel_rfl) h)

noncomputable def cmp_Compare_uint32.cx (w : World) (B : Nat) (R : Value → World → Prop) : Cx := ⟨Tryz.prog, 217, 20, Tryz.f217.results.toList, [], [], w, B, R⟩
theorem cmp_Compare_uint32.vc (ip0 : Int) (ip1 : Int) (w : World) (R : Value → World → Prop)
    (h : (Pure Tryz.prog 236 #[(.int .u32 ip0)] w fun r2 w3 => ∃ (b1 : Bool), r2 = (.bool b1) ∧ (Pure Tryz.prog 236 #[(.int .u32 ip1)] w3 fun r5 w6 => ∃ (b4 : Bool), r5 = (.bool b4) ∧ ((b1 = true → ((b4 = true → (R (.int .i64 (0 : Int)) w6)) ∧ (b4 = false → (R (.int .i64 (-1 : Int)) w6)))) ∧ (b1 = false → ((b4 = true → (R (.int .i64 (1 : Int)) w6)) ∧ (b4 = false → ((((ip0 : Int) < ip1) → (R (.int .i64 (-1 : Int)) w6)) ∧ (¬ ((ip0 : Int) < ip1) → ((((ip0 : Int) > ip1) → (R (.int .i64 (1 : Int)) w6)) ∧ (¬ ((ip0 : Int) > ip1) → (R (.int .i64 (0 : Int)) w6)))))))))))) :
    Pure Tryz.prog 217 #[(.int .u32 ip0), (.int .u32 ip1)] w R :=
  pure_of_run (cmp_Compare_uint32.cx w w.heap.size R) 100000 follows Tryz.func217 rfl rfl rfl rfl rfl rfl rfl (Eq.mp (by kernel_rfl) h)

noncomputable def cmp_isNaN_int.cx (w : World) (B : Nat) (R : Value → World → Prop) : Cx := ⟨Tryz.prog, 235, 6, Tryz.f235.results.toList, [], [], w, B, R⟩
theorem cmp_isNaN_int.vc (ip0 : Int) (w : World) (R : Value → World → Prop)
    (h : (R (.bool (decide ((ip0 : Int) ≠ ip0))) w)) :
    Pure Tryz.prog 235 #[(.int .i64 ip0)] w R :=
  pure_of_run (cmp_isNaN_int.cx w w.heap.size R) 100000 follows Tryz.func235 rfl rfl rfl rfl rfl rfl rfl (Eq.mp (by kernel_rfl) h)

noncomputable def cmp_isNaN_uint32.cx (w : World) (B : Nat) (R : Value → World → Prop) : Cx := ⟨Tryz.prog, 236, 6, Tryz.f236.results.toList, [], [], w, B, R⟩
theorem cmp_isNaN_uint32.vc (ip0 : Int) (w : World) (R : Value → World → Prop)
    (h : (R (.bool (decide ((ip0 : Int) ≠ ip0))) w)) :
    Pure Tryz.prog 236 #[(.int .u32 ip0)] w R :=
  pure_of_run (cmp_isNaN_uint32.cx w w.heap.size R) 100000 follows Tryz.func236 rfl rfl rfl rfl rfl rfl rfl (Eq.mp (by kernel_rfl) h)

end Go.Proofs.YtdoailkigecmkaaGreatDoor.F

namespace Go.Proofs.YtdoailkigecmkaaGreatDoor.B
open Go Go.RowKit Go.Proofs Go.Proofs.YtdoailkigecmkaaGreatDoor.Vc

theorem SlU.load {w : World} {A : Option Addr} {ws : List Nat} {n : Nat} (h : SlU w A ws) (hl : ws.length = n) {j : Int} (h0 : 0 ≤ j) (h1 : j < n) {K : Int → Prop} (k : K (ws.getD j.toNat 0 : Nat)) :
    (0 ≤ j ∧ j < n) ∧ ∃ a, A = some a ∧ ∃ i : Int, CellsAt w (a.add (j.toNat * 1)) [.int .u32 i] ∧ K i := by
  obtain ⟨a, hA, x, hx, hc⟩ := h.cell h0 (by omega)
  refine ⟨⟨h0, h1⟩, a, hA, _, hc, ?_⟩
  rw [List.getD_eq_getElem?_getD, hx] at k
  exact k

theorem OwnU.store {w : World} {B : Nat} {A : Option Addr} {n c : Nat} {ws : List Nat} (ho : OwnU w B A n c ws) {j x : Int} (h0 : 0 ≤ j) (h1 : j < n) (hx : 0 ≤ x) {bx : List Box} (hb : hasType 106 bx = false) {K : World → Prop}
    (h : ∀ w1, OwnU w1 B A n c (ws.set j.toNat x.toNat) → Below B w w1 → (∀ k, some k ≠ Value.ownBlock (.slice A n c) → w1.heap[k]? = w.heap[k]?) → K w1) :
    (0 ≤ j ∧ j < n) ∧ ∃ a, A = some a ∧ ∃ (cs : List Value) (t : Nat), B ≤ (a.add (j.toNat * 1)).block ∧ (a.add (j.toNat * 1)).spot = none ∧ w.heap[(a.add (j.toNat * 1)).block]? = some (.cells cs.toArray t (0, 0)) ∧
      (a.add (j.toNat * 1)).off + 1 ≤ cs.length ∧ hasType t bx = false ∧ ∀ w1, Wrote w w1 (a.add (j.toNat * 1)).block t (setCells cs (a.add (j.toNat * 1)).off [.int .u32 x]) → K w1 := by
  have hl := ho.len
  refine ⟨⟨h0, h1⟩, ?_⟩
  have hA : ∃ a, A = some a := by
    rcases ho.2 with ⟨e, e2⟩ | ⟨g, cap, cur, e, _⟩
    · omega
    · cases e; exact ⟨_, rfl⟩
  obtain ⟨a, rfl⟩ := hA
  obtain ⟨cs, k1, k2, k3, k4, k5, k6⟩ := ownsRow_wrote ho (off := j.toNat) (vs := [.int .u32 x]) (by simp [u32s]; omega)
  obtain ⟨b, off, sp⟩ := a
  simp only at k1 k2 k3 k4
  subst k2 k3
  refine ⟨_, rfl, cs, 106, ?_⟩
  rw [add_none]
  simp only [Nat.mul_one, Nat.zero_add]
  refine ⟨k1, trivial, k4, by simpa using k5, hb, fun w1 hw => ?_⟩
  refine h w1 ?_ ⟨hw.os, hw.tape, hw.output, by rw [hw.size]; exact Nat.le_refl _, fun k hk => hw.rest k (by omega)⟩ fun k hk => hw.rest k fun e => hk (by simp [Value.ownBlock, e])
  have := k6 w1 hw
  unfold OwnU
  have e : (x.toNat : Int) = x := by omega
  have e2 : u32s (ws.set j.toNat x.toNat) = setCells (u32s ws) j.toNat [.int .u32 x] := by simp [u32s, setCells, List.map_set, e]
  rw [e2]
  exact this

theorem wv_set : ∀ (l : List Nat) (j x : Nat), j < l.length → wv (l.set j x) + 1000000000 ^ j * l.getD j 0 = wv l + 1000000000 ^ j * x := by
  intro l
  induction l with
  | nil => intro j x h; simp at h
  | cons y r ih =>
    intro j x h
    cases j with
    | zero => simp [wv]; omega
    | succ j =>
      have := ih j x (by simpa using h)
      simp only [List.set_cons_succ, wv, List.getD_cons_succ, Nat.pow_succ]
      grind
theorem Small.set {l : List Nat} (h : Small l) {j x : Nat} (hx : x < 1000000000) : Small (l.set j x) := fun y hy => by
  rcases List.mem_or_eq_of_mem_set hy with h1 | rfl
  · exact h y h1
  · exact hx
theorem wv_replicate (n : Nat) : wv (List.replicate n 0) = 0 := by
  induction n with
  | zero => rfl
  | succ n ih => simp [List.replicate_succ, wv, ih]

def OwnN (w : World) (B : Nat) (A : Option Addr) (n c x : Nat) : Prop := ∃ ws, OwnU w B A n c ws ∧ Small ws ∧ Norm ws ∧ wv ws = x
theorem OwnU.take {w : World} {B : Nat} {A : Option Addr} {n c : Nat} {ws : List Nat} (h : OwnU w B A n c ws) {m : Nat} (hm : m ≤ n) (hn : A ≠ none ∨ m = n) : OwnU w B A m c (ws.take m) := by
  have hl := h.len
  refine ⟨by simp [u32s]; omega, ?_⟩
  rcases h.2 with ⟨e, e2⟩ | ⟨g, cap, cur, e, h1, h2, h3, h4, h5, h6⟩
  · cases e
    have h0 : m = 0 := by omega
    subst h0
    exact .inl ⟨rfl, rfl⟩
  · cases e
    refine .inr ⟨g, c, cur, rfl, h1, h2, by omega, h4, h5, ?_⟩
    have : (u32s ws).take m = u32s (ws.take m) := by simp [u32s, List.map_take]
    rw [← this, ← h6, List.take_take, Nat.mul_one, Nat.mul_one, Nat.min_eq_left hm]

theorem natural_trim_own {w : World} {B : Nat} {A : Option Addr} {n c : Nat} {ws : List Nat} (h : OwnU w B A n c ws) (hn : n < 2147483648) (hs : Small ws) :
    Pure Tryz.prog 187 #[.slice A n c] w fun v w' => w' = w ∧ ∃ m, v = .slice A m c ∧ OwnN w B A m c (wv ws) ∧ IsN w A m c (wv ws) :=
  Pure.mono (natural_trim h.sl h.len h.cap hn hs) fun v w' _ ⟨e, m, e2, h2, h3, h4, h5⟩ => ⟨e, m, e2, ⟨ws.take m, h.take h3 (by
    rcases h.2 with ⟨e, e2⟩ | ⟨g, cap, cur, e, _⟩
    · right; omega
    · cases e; exact .inl (by simp)), hs.take m, h4, h5⟩, h2⟩

theorem SlU.keep {w w' : World} {A : Option Addr} {ws : List Nat} {B : Nat} (h : SlU w A ws) (hb : Below B w w') (hB : w.heap.size ≤ B) : SlU w' A ws := h.below (hb.mono hB)

theorem El.zeroU32 : (Tryz.prog.info? 106).bind (·.zero) = some (.int .u32 0) := by kernel_rfl

section
variable {w0 : World} {A1 A0 : Option Addr} {n1 c1 n0 c0 : Nat} {a b : List Nat} {R : Value → World → Prop}

structure TimesInv (w : World) (B : Nat) (A : Option Addr) (n c : Nat) (ws : List Nat) (k : Nat) : Prop where
  own : OwnU w B A n c ws
  small : Small ws
  zero : ∀ j, k ≤ j → ws.getD j 0 = 0

theorem times_inner (hb : SlU w0 A1 b) (hbl : b.length = n1) (hsb : Small b) {i x : Nat} (hx : x < 1000000000) {n : Nat} (hn : i + n1 < n) (hn2 : n ≤ 1000000) {A : Option Addr} {c : Nat} {m : Int} {base : Nat}
    (hR : ∀ w ws, TimesInv w w0.heap.size A n c ws (i + 1 + n1) → Below w0.heap.size w0 w → wv ws = base + 1000000000 ^ i * x * wv b →
      F.natural_num_times.L3 A1 n1 c1 A n c A0 n0 c0 m ((i : Int) + 1) w0.heap.size w R) :
    ∀ (d k : Nat) (w : World) (ws : List Nat) (s : Nat), n1 - k = d → k ≤ n1 → TimesInv w w0.heap.size A n c ws (i + n1) → Below w0.heap.size w0 w → s < 1000000000 →
      wv ws + 1000000000 ^ (i + k) * s = base + 1000000000 ^ i * x * wv (b.take k) →
      F.natural_num_times.L7 A1 n1 c1 A n c i x s A0 n0 c0 m i A1 n1 c1 n1 k w0.heap.size w R := by
  intro d
  induction d with
  | zero =>
    intro k w ws s hd hk inv hw hs he
    have hkn : k = n1 := by omega
    subst hkn
    have eb : b.take k = b := List.take_of_length_le (by omega)
    rw [eb] at he
    refine F.natural_num_times.L7.step _ _ _ _ _ _ _ _ _ _ _ _ _ _ _ _ _ _ _ _ _ _ ⟨fun h => by omega, fun _ => ⟨by simp only [inR]; omega, by simp only [inR]; omega, ?_⟩⟩
    refine inv.own.store (by omega) (by omega) (by omega) rfl fun w1 o1 b1 _ => ⟨by simp only [inR]; omega, ?_⟩
    have e : ((i : Int) + (k : Int)).toNat = i + k := by omega
    rw [e, Int.toNat_natCast] at o1
    have hl := inv.own.len
    have hset := wv_set ws (i + k) s (by omega)
    rw [inv.zero (i + k) (Nat.le_refl _)] at hset
    refine hR w1 _ ⟨o1, inv.small.set hs, fun j hj => ?_⟩ (hw.trans b1) (by omega)
    rw [List.getD_eq_getElem?_getD, List.getElem?_set_ne (by omega), ← List.getD_eq_getElem?_getD]
    exact inv.zero j (by omega)
  | succ d ih =>
    intro k w ws s hd hk inv hw hs he
    have hl := inv.own.len
    have gb := hsb.getD k
    have go := inv.small.getD (i + k)
    have e : ((i : Int) + (k : Int)).toNat = i + k := by omega
    obtain ⟨y, hy⟩ : ∃ y, y = b.getD k 0 := ⟨_, rfl⟩
    obtain ⟨z, hz⟩ : ∃ z, z = ws.getD (i + k) 0 := ⟨_, rfl⟩
    rw [← hy] at gb
    rw [← hz] at go
    have hxy : x * y ≤ 999999999 * 999999999 := Nat.mul_le_mul (by omega) (by omega)
    have hxy2 : (x : Int) * (y : Int) = ((x * y : Nat) : Int) := by simp
    refine F.natural_num_times.L7.step _ _ _ _ _ _ _ _ _ _ _ _ _ _ _ _ _ _ _ _ _ _ ⟨fun _ => ?_, fun h => by omega⟩
    refine (hb.keep hw (Nat.le_refl _)).load hbl (by omega) (by omega) ?_
    rw [Int.toNat_natCast, ← hy, hxy2]
    refine ⟨by simp only [inR]; omega, by simp only [inR]; omega, by simp only [inR]; omega, by simp only [inR]; omega, ?_⟩
    refine inv.own.sl.load hl (by omega) (by omega) ?_
    rw [e, ← hz]
    refine ⟨by simp only [inR]; omega, by simp only [inR]; omega, by simp only [inR]; omega, by simp only [inR]; omega, by omega, by simp only [inR]; omega, ?_⟩
    rw [← e]
    refine inv.own.store (by omega) (by omega) (by omega) rfl fun w1 o1 b1 _ => ⟨⟨by omega, by omega, by simp only [inR]; omega⟩, by simp only [inR]; omega, ?_⟩
    obtain ⟨t, ht⟩ : ∃ t : Nat, t = s + (x * y + z) := ⟨_, rfl⟩
    have et : (s : Int) + (((x * y : Nat) : Int) + (z : Int)) = ((t : Nat) : Int) := by omega
    rw [et] at o1 ⊢
    have e1 : ((t : Int) % 1000000000).toNat = t % 1000000000 := by omega
    have e2 : (t : Int) / 1000000000 = ((t / 1000000000 : Nat) : Int) := by omega
    have e3 : (k : Int) + 1 = ((k + 1 : Nat) : Int) := by omega
    rw [e, e1] at o1
    rw [e2, e3]
    have hset := wv_set ws (i + k) (t % 1000000000) (by omega)
    rw [← hz] at hset
    refine ih (k + 1) w1 _ (t / 1000000000) (by omega) (by omega) ⟨o1, inv.small.set (by omega), fun j hj => ?_⟩ (hw.trans b1) (by omega) ?_
    · rw [List.getD_eq_getElem?_getD, List.getElem?_set_ne (by omega), ← List.getD_eq_getElem?_getD]
      exact inv.zero j (by omega)
    · rw [wv_take_succ, ← hy]
      have hm : t % 1000000000 + 1000000000 * (t / 1000000000) = s + (x * y + z) := by omega
      rw [show i + (k + 1) = (i + k) + 1 from rfl, Nat.pow_succ]
      have hp : 1000000000 ^ (i + k) = 1000000000 ^ i * 1000000000 ^ k := Nat.pow_add _ _ _
      generalize t % 1000000000 = r at *
      generalize t / 1000000000 = q at *
      generalize wv (ws.set (i + k) r) = W' at *
      generalize wv ws = W at *
      generalize wv (List.take k b) = V at *
      rw [hp] at hset he ⊢
      generalize 1000000000 ^ i = P at *
      generalize 1000000000 ^ k = Q at *
      clear hxy hxy2 et e1 e2 e3 o1 hz hy ht
      grind

theorem times_outer (ha : SlU w0 A0 a) (hal : a.length = n0) (hsa : Small a) (hb : SlU w0 A1 b) (hbl : b.length = n1) (hsb : Small b) {A : Option Addr} {n c : Nat} (hn : n = n0 + n1) (hn2 : n ≤ 1000000)
    (hR : ∀ m w, IsN w A m c (wv a * wv b) → OwnN w w0.heap.size A m c (wv a * wv b) → Below w0.heap.size w0 w → R (.slice A m c) w) :
    ∀ (d i : Nat) (w : World) (ws : List Nat), n0 - i = d → i ≤ n0 → TimesInv w w0.heap.size A n c ws (i + n1) → Below w0.heap.size w0 w → wv ws = wv (a.take i) * wv b →
      F.natural_num_times.L3 A1 n1 c1 A n c A0 n0 c0 n0 i w0.heap.size w R := by
  intro d
  induction d with
  | zero =>
    intro i w ws hd hi inv hw he
    have ea : a.take i = a := List.take_of_length_le (by omega)
    rw [ea] at he
    refine F.natural_num_times.L3.step _ _ _ _ _ _ _ _ _ _ _ _ _ _ ⟨fun h => by omega, fun _ => ?_⟩
    refine Pure.mono (natural_trim_own inv.own (by omega) inv.small) ?_
    rintro v w2 hb2 ⟨rfl, m, rfl, h, h2⟩
    rw [he] at h h2
    exact ⟨A, m, c, rfl, hR m w2 h2 h hw⟩
  | succ d ih =>
    intro i w ws hd hi inv hw he
    refine F.natural_num_times.L3.step _ _ _ _ _ _ _ _ _ _ _ _ _ _ ⟨fun _ => ?_, fun h => by omega⟩
    refine (ha.keep hw (Nat.le_refl _)).load hal (by omega) (by omega) ?_
    rw [Int.toNat_natCast]
    refine times_inner hb hbl hsb (hsa.getD i) (by omega) hn2 (base := wv ws) (fun w1 ws1 k1 k2 k3 => ?_) n1 0 w ws 0 (by omega) (by omega) inv hw (by omega) (by simp [wv])
    have e3 : (i : Int) + 1 = ((i + 1 : Nat) : Int) := by omega
    rw [e3]
    refine ih (i + 1) w1 ws1 (by omega) (by omega) k1 k2 ?_
    rw [k3, he, wv_take_succ, Nat.add_mul]
end

theorem natural_times {w : World} {A0 A1 : Option Addr} {n0 c0 n1 c1 x y : Nat} (ha : IsN w A0 n0 c0 x) (hb : IsN w A1 n1 c1 y) (hx : x < Lim) (hy : y < Lim) :
    Pure Tryz.prog 179 #[.slice A0 n0 c0, .slice A1 n1 c1] w fun v w' => ∃ A n c, v = .slice A n c ∧ IsN w' A n c (x * y) ∧ OwnN w' w.heap.size A n c (x * y) := by
  have l0 := ha.len hx
  have l1 := hb.len hy
  obtain ⟨a, a1, a2, a3, a4, a5, a6, rfl⟩ := ha
  obtain ⟨b, b1, b2, b3, b4, b5, b6, rfl⟩ := hb
  refine F.natural_num_times.vc _ _ _ _ _ _ _ _ ⟨by simp only [inR]; omega, ?_⟩
  refine runOk_make el_num El.zeroU32 rfl (by omega) (by omega) (Nat.le_refl _) fun A n w2 hn k1 _ k2 => ?_
  have hrep : OwnU w2 w.heap.size A n n (List.replicate n 0) := by
    unfold OwnU
    have : u32s (List.replicate n 0) = List.replicate n (.int .u32 0) := by simp [u32s]
    rw [this]
    exact k1
  refine times_outer a1 a2 a5 b1 b2 b5 (by omega) (by omega) (fun m w3 h1 h2 h3 => ⟨A, m, n, rfl, h1, h2⟩) n0 0 w2 _ rfl (by omega) ⟨hrep, fun x hx => by rw [List.eq_of_mem_replicate hx]; omega, fun j _ => ?_⟩ k2 ?_
  · rw [List.getD_eq_getElem?_getD, List.getElem?_replicate]; split <;> rfl
  · rw [wv_replicate]; simp [wv]
end Go.Proofs.YtdoailkigecmkaaGreatDoor.B

namespace Go.Proofs.YtdoailkigecmkaaGreatDoor.B
open Go Go.RowKit Go.Proofs Go.Proofs.YtdoailkigecmkaaGreatDoor.Vc

def cmpI (a b : Int) : Int := if a < b then -1 else if a > b then 1 else 0

theorem cmp_int (a b : Int) (w : World) : Pure Tryz.prog 216 #[.int .i64 a, .int .i64 b] w fun v _ => v = .int .i64 (cmpI a b) := by
  have nan : ∀ (a : Int) (w : World), Pure Tryz.prog 235 #[.int .i64 a] w fun v _ => v = .bool false := fun a w => F.cmp_isNaN_int.vc _ _ _ (by simp)
  refine F.cmp_Compare_int.vc _ _ _ _ (Pure.mono (nan _ _) ?_)
  rintro v w2 _ rfl
  refine ⟨false, rfl, Pure.mono (nan _ _) ?_⟩
  rintro v w3 _ rfl
  refine ⟨false, rfl, fun h => (by cases h), fun _ => ⟨fun h => (by cases h), fun _ => ⟨fun h => by simp [cmpI, h], fun h => ⟨fun h2 => by simp [cmpI, h, h2], fun h2 => by simp [cmpI, h, h2]⟩⟩⟩⟩
theorem cmp_u32 (a b : Int) (w : World) : Pure Tryz.prog 217 #[.int .u32 a, .int .u32 b] w fun v _ => v = .int .i64 (cmpI a b) := by
  have nan : ∀ (a : Int) (w : World), Pure Tryz.prog 236 #[.int .u32 a] w fun v _ => v = .bool false := fun a w => F.cmp_isNaN_uint32.vc _ _ _ (by simp)
  refine F.cmp_Compare_uint32.vc _ _ _ _ (Pure.mono (nan _ _) ?_)
  rintro v w2 _ rfl
  refine ⟨false, rfl, Pure.mono (nan _ _) ?_⟩
  rintro v w3 _ rfl
  refine ⟨false, rfl, fun h => (by cases h), fun _ => ⟨fun h => (by cases h), fun _ => ⟨fun h => by simp [cmpI, h], fun h => ⟨fun h2 => by simp [cmpI, h, h2], fun h2 => by simp [cmpI, h, h2]⟩⟩⟩⟩

theorem wv_drop (l : List Nat) (j : Nat) : wv (l.drop j) = l.getD j 0 + 1000000000 * wv (l.drop (j + 1)) := by
  by_cases h : j < l.length
  · rw [List.drop_eq_getElem_cons h, wv, List.getD_eq_getElem?_getD, List.getElem?_eq_getElem h]; rfl
  · rw [List.drop_eq_nil_of_le (by omega), List.drop_eq_nil_of_le (by omega), List.getD_eq_getElem?_getD, List.getElem?_eq_none (by omega)]; rfl
theorem wv_split (l : List Nat) (j : Nat) (h : j ≤ l.length) : wv l = wv (l.take j) + 1000000000 ^ j * wv (l.drop j) := by
  conv => lhs; rw [← List.take_append_drop j l]
  rw [wv_append, List.length_take, Nat.min_eq_left h]

theorem wv_lt_at {a b : List Nat} (hsa : Small a) {j : Nat} (ha : j < a.length) (hb : j < b.length) (hd : a.drop (j + 1) = b.drop (j + 1)) (h : a.getD j 0 < b.getD j 0) : wv a < wv b := by
  rw [wv_split a j (by omega), wv_split b j (by omega), wv_drop a, wv_drop b, hd]
  have h1 := wv_lt (hsa.take j)
  rw [List.length_take, Nat.min_eq_left (by omega)] at h1
  have h2 : 1000000000 ^ j * (a.getD j 0 + 1 + 1000000000 * wv (b.drop (j + 1))) ≤ 1000000000 ^ j * (b.getD j 0 + 1000000000 * wv (b.drop (j + 1))) := Nat.mul_le_mul_left _ (by omega)
  have h3 : 1000000000 ^ j * (a.getD j 0 + 1 + 1000000000 * wv (b.drop (j + 1))) = 1000000000 ^ j + 1000000000 ^ j * (a.getD j 0 + 1000000000 * wv (b.drop (j + 1))) := by
    rw [show a.getD j 0 + 1 + 1000000000 * wv (b.drop (j + 1)) = 1 + (a.getD j 0 + 1000000000 * wv (b.drop (j + 1))) by omega, Nat.mul_add, Nat.mul_one]
  omega
theorem wv_lt_len {a b : List Nat} (hsa : Small a) (hnb : Norm b) (h : a.length < b.length) : wv a < wv b := by
  have h1 := wv_lt hsa
  have h2 := wv_pos hnb (fun k => by subst k; simp at h)
  have h3 : 1000000000 ^ a.length ≤ 1000000000 ^ (b.length - 1) := Nat.pow_le_pow_right (by omega) (by omega)
  omega

theorem Ext.nilSl {w w' : World} {B : Nat} {A : Option Addr} {ws : List Nat} (h : SlU w A ws) (he : Ext B [] w w') : SlU w' A ws := h.ext he (by simp)

theorem compare_loop {w0 : World} {A0 A1 : Option Addr} {n0 c0 n1 c1 : Nat} {a b : List Nat} {R : Value → World → Prop} (ha : SlU w0 A0 a) (hal : a.length = n0) (hsa : Small a) (hb : SlU w0 A1 b) (hbl : b.length = n1) (hsb : Small b) (hnn : n0 = n1) (hn : n0 ≤ 1000000)
    (hR : ∀ w, R (.int .i64 (cmpI (wv a) (wv b))) w) :
    ∀ (i : Nat) (w : World), i ≤ n0 → Below w0.heap.size w0 w → a.drop i = b.drop i → F.natural_num_compare.L4 A0 n0 c0 A1 n1 c1 ((i : Int) - 1) w0.heap.size w R := by
  intro i
  induction i with
  | zero =>
    intro w hi hw hd
    refine F.natural_num_compare.L4.step _ _ _ _ _ _ _ _ _ _ ⟨fun h => by omega, fun _ => ?_⟩
    have := hR w
    have e : a = b := by simpa using hd
    subst e
    simpa [cmpI] using this
  | succ i ih =>
    intro w hi hw hd
    have e : ((i + 1 : Nat) : Int) - 1 = i := by omega
    rw [e]
    refine F.natural_num_compare.L4.step _ _ _ _ _ _ _ _ _ _ ⟨fun _ => ?_, fun h => by omega⟩
    refine (ha.keep hw (Nat.le_refl _)).load hal (by omega) (by omega) ?_
    refine (hb.keep hw (Nat.le_refl _)).load hbl (by omega) (by omega) ?_
    rw [Int.toNat_natCast]
    refine ⟨fun h w2 e2 => ?_, fun h => ⟨by simp only [inR]; omega, fun w2 e2 => ?_⟩⟩
    · have hw2 := hw.trans e2.below
      refine (ha.keep hw2 (Nat.le_refl _)).load hal (by omega) (by omega) ?_
      refine (hb.keep hw2 (Nat.le_refl _)).load hbl (by omega) (by omega) fun w3 e3 => ?_
      rw [Int.toNat_natCast]
      refine Pure.mono (cmp_u32 _ _ _) ?_
      rintro v w4 _ rfl
      refine ⟨_, rfl, ?_⟩
      have := hR w4
      have ec : cmpI (a.getD i 0 : Nat) (b.getD i 0 : Nat) = cmpI (wv a) (wv b) := by
        rcases (by omega : a.getD i 0 < b.getD i 0 ∨ b.getD i 0 < a.getD i 0) with h1 | h1
        · have h2 := wv_lt_at hsa (by omega) (by omega) hd h1
          simp only [cmpI]
          rw [if_pos (by omega), if_pos (by omega)]
        · have h2 := wv_lt_at hsb (by omega) (by omega) hd.symm h1
          simp only [cmpI]
          rw [if_neg (by omega), if_pos (by omega), if_neg (by omega), if_pos (by omega)]
      rw [ec]
      exact this
    · refine ih w2 (by omega) (hw.trans e2.below) ?_
      have h1 : a.getD i 0 = b.getD i 0 := by omega
      rw [List.drop_eq_getElem_cons (by omega : i < a.length), List.drop_eq_getElem_cons (by omega : i < b.length), hd]
      congr 1
      rw [List.getD_eq_getElem?_getD, List.getD_eq_getElem?_getD, List.getElem?_eq_getElem (by omega), List.getElem?_eq_getElem (by omega)] at h1
      exact h1

theorem natural_compare {w : World} {A0 A1 : Option Addr} {n0 c0 n1 c1 x y : Nat} (ha : IsN w A0 n0 c0 x) (hb : IsN w A1 n1 c1 y) (hx : x < Lim) (hy : y < Lim) :
    Pure Tryz.prog 193 #[.slice A0 n0 c0, .slice A1 n1 c1] w fun v _ => v = .int .i64 (cmpI x y) := by
  have l0 := ha.len hx
  have l1 := hb.len hy
  obtain ⟨a, a1, a2, a3, a4, a5, a6, rfl⟩ := ha
  obtain ⟨b, b1, b2, b3, b4, b5, b6, rfl⟩ := hb
  refine F.natural_num_compare.vc _ _ _ _ _ _ _ _ ⟨fun h => Pure.mono (cmp_int _ _ _) ?_, fun h => ⟨by simp only [inR]; omega, ?_⟩⟩
  · rintro v w4 _ rfl
    refine ⟨_, rfl, ?_⟩
    congr 1
    rcases (by omega : n0 < n1 ∨ n1 < n0) with h1 | h1
    · have h2 := wv_lt_len a5 b6 (by omega)
      simp only [cmpI]
      rw [if_pos (by omega), if_pos (by omega)]
    · have h2 := wv_lt_len b5 a6 (by omega)
      simp only [cmpI]
      rw [if_neg (by omega), if_pos (by omega), if_neg (by omega), if_pos (by omega)]
  · refine compare_loop a1 a2 a5 b1 b2 b5 (by omega) (by omega) (fun w => rfl) n0 w (Nat.le_refl _) (Below.refl _ _) ?_
    rw [List.drop_eq_nil_of_le (by omega), List.drop_eq_nil_of_le (by omega)]

theorem small_iff {ws : List Nat} (hs : Small ws) (hn : Norm ws) : ws.length ≤ 2 ↔ wv ws < 1000000000000000000 := by
  constructor
  · intro h
    have h1 := wv_lt hs
    have h2 : 1000000000 ^ ws.length ≤ 1000000000 ^ 2 := Nat.pow_le_pow_right (by omega) h
    omega
  · intro h
    apply Decidable.byContradiction
    intro h1
    have h2 := wv_pos hn (fun k => by subst k; simp at h1)
    have h3 : 1000000000 ^ 2 ≤ 1000000000 ^ (ws.length - 1) := Nat.pow_le_pow_right (by omega) (by omega)
    omega

theorem natural_small {w : World} {A0 : Option Addr} {n0 c0 x : Nat} (ha : IsN w A0 n0 c0 x) :
    Pure Tryz.prog 166 #[.slice A0 n0 c0] w fun v _ => v = .tuple #[.int .u64 (if x < 1000000000000000000 then x else 0 : Nat), .bool (decide (x < 1000000000000000000))] := by
  obtain ⟨a, a1, a2, a3, a4, a5, a6, rfl⟩ := ha
  have hiff := small_iff a5 a6
  refine F.natural_num_small.vc _ _ _ _ _ ⟨fun h => ?_, fun h => ⟨fun h1 => ?_, fun h1 => ⟨fun h2 => ?_, fun h2 => ?_⟩⟩⟩
  · have : a = [] := List.eq_nil_of_length_eq_zero (by omega)
    subst this
    simp [wv]
  · have g : a.getD (Int.toNat 0) 0 < 1000000000 := a5.getD 0
    refine a1.load a2 (by omega) (by omega) ⟨by simp only [inR]; omega, ?_⟩
    obtain ⟨x, rfl⟩ := List.length_eq_one_iff.1 (by omega : a.length = 1)
    have : x < 1000000000000000000 := by simp at g; omega
    simp [wv, this]
  · have g : a.getD (Int.toNat 0) 0 < 1000000000 := a5.getD 0
    have g1 : a.getD (Int.toNat 1) 0 < 1000000000 := a5.getD 1
    refine a1.load a2 (by omega) (by omega) ⟨by simp only [inR]; omega, a1.load a2 (by omega) (by omega) ⟨by simp only [inR]; omega, by simp only [inR]; omega, by simp only [inR]; omega, fun w2 e2 => ?_⟩⟩
    match a, (by omega : a.length = 2) with
    | [x, y], _ =>
      have : x + 1000000000 * y < 1000000000000000000 := by simp at g g1; omega
      simp [wv, this]
  · have : ¬ wv a < 1000000000000000000 := fun k => by have := hiff.2 k; omega
    simp [this]

theorem natural_of {w : World} {x : Nat} (hx : x < 1000000000000000000) :
    Pure Tryz.prog 167 #[.int .u64 (x : Int)] w fun v w' => ∃ A n c, v = .slice A n c ∧ IsN w' A n c x := by
  refine F.natural_of.vc _ _ _ ⟨by omega, by simp only [inR]; omega, ⟨by omega, by omega, by simp only [inR]; omega⟩, by simp only [inR]; omega, ?_⟩
  have hr := run_buildAll el_num [.int .u32 ((x : Int) % 1000000000), .int .u32 ((x : Int) / 1000000000)] (by intro v hv; rcases List.mem_cons.1 hv with rfl | hv; · rfl
                                                                                                              · rcases List.mem_cons.1 hv with rfl | hv; · rfl
                                                                                                                · cases hv) (by simp) w
  have hg := World.grownBy_alloc w (.cells #[.int .u32 ((x : Int) % 1000000000), .int .u32 ((x : Int) / 1000000000)] 106) none
  have hbel := below_grown hg (B := w.heap.size) (by simp) (Nat.le_refl _)
  refine ⟨_, _, hr, hbel, hbel.size, fun k ty cs _ hk => hg.block k (Array.getElem?_eq_some_iff.1 hk).1 (by simp), _, _, _, rfl, ?_⟩
  have hown : OwnU (w.alloc (.cells #[.int .u32 ((x : Int) % 1000000000), .int .u32 ((x : Int) / 1000000000)] 106)) w.heap.size (some ⟨w.heap.size, 0, none⟩) 2 2 [x % 1000000000, x / 1000000000] := by
    refine ⟨by simp [u32s], .inr ⟨w.heap.size, 2, _, rfl, Nat.le_refl _, heap_alloc_new w _, Nat.le_refl _, by simp [maxLen], by simp, by simp [u32s]⟩⟩
  refine Pure.mono (natural_trim_own hown (by simp) (Small.cons (by omega) (Small.cons (by omega) Small.nil))) ?_
  rintro v w2 hb2 ⟨rfl, m, rfl, h, h2⟩
  refine ⟨_, _, _, rfl, _, _, _, rfl, ?_⟩
  have e : wv [x % 1000000000, x / 1000000000] = x := by simp only [wv]; omega
  rw [e] at h2
  exact h2

theorem by_loop {w0 : World} {A0 : Option Addr} {n0 c0 : Nat} {a : List Nat} {R : Value → World → Prop} (ha : SlU w0 A0 a) (hal : a.length = n0) (hsa : Small a) (hn : n0 ≤ 1000000) {d : Nat} (hd : 0 < d) (hd2 : d ≤ 1000000000) {A : Option Addr} {c : Nat}
    (hR : ∀ A n c A' n' c' w, IsN w A n c (wv a / d) → IsN w A' n' c' (wv a % d) → R (.tuple #[.slice A n c, .slice A' n' c']) w) :
    ∀ (i : Nat) (w : World) (ws : List Nat) (r : Nat), i ≤ n0 → Below w0.heap.size w0 w → OwnU w w0.heap.size A n0 c ws → Small ws → r < d → wv (ws.drop i) * d + r = wv (a.drop i) →
      F.natural_num_by.L4 A0 n0 c0 d A n0 c r ((i : Int) - 1) w0.heap.size w R := by
  intro i
  induction i with
  | zero =>
    intro w ws r hi hw ho hs hr he
    refine F.natural_num_by.L4.step _ _ _ _ _ _ _ _ _ _ _ _ ⟨fun h => by omega, fun _ => ?_⟩
    refine Pure.mono (natural_trim_own ho (by omega) hs) ?_
    rintro v w2 hb2 ⟨rfl, m, rfl, h, h2⟩
    refine ⟨_, _, _, rfl, Pure.mono (natural_of (by omega)) ?_⟩
    rintro v w3 hb3 ⟨A3, n3, c3, rfl, h3⟩
    refine ⟨_, _, _, rfl, ?_⟩
    simp only [List.drop_zero] at he
    have e1 : wv a / d = wv ws := by rw [← he, Nat.mul_comm, Nat.mul_add_div hd, Nat.div_eq_of_lt hr, Nat.add_zero]
    have e2 : wv a % d = r := by rw [← he, Nat.mul_comm, Nat.mul_add_mod, Nat.mod_eq_of_lt hr]
    exact hR _ _ _ _ _ _ _ (by rw [e1]; exact h2.below hb3) (by rw [e2]; exact h3)
  | succ i ih =>
    intro w ws r hi hw ho hs hr he
    have e : ((i + 1 : Nat) : Int) - 1 = i := by omega
    have g := hsa.getD i
    rw [e]
    refine F.natural_num_by.L4.step _ _ _ _ _ _ _ _ _ _ _ _ ⟨fun _ => ⟨by simp only [inR]; omega, ?_⟩, fun h => by omega⟩
    refine (ha.keep hw (Nat.le_refl _)).load hal (by omega) (by omega) ?_
    rw [Int.toNat_natCast]
    obtain ⟨t, ht⟩ : ∃ t : Nat, t = r * 1000000000 + a.getD i 0 := ⟨_, rfl⟩
    have et : (r : Int) * 1000000000 + ((a.getD i 0 : Nat) : Int) = (t : Int) := by omega
    have hq : t / d < 1000000000 := by
      rw [Nat.div_lt_iff_lt_mul hd]
      have : (r + 1) * 1000000000 ≤ d * 1000000000 := Nat.mul_le_mul_right _ (by omega)
      omega
    have eq : (t : Int) / (d : Int) = ((t / d : Nat) : Int) := by simp
    have em : (t : Int) % (d : Int) = ((t % d : Nat) : Int) := by simp
    have hdm := Nat.div_add_mod t d
    have hml := Nat.mod_lt t hd
    rw [et, eq, em]
    clear eq em
    generalize t / d = q at *
    generalize t % d = r' at *
    refine ⟨by simp only [inR]; omega, by simp only [inR]; omega, ⟨by omega, by omega, by simp only [inR]; omega⟩, by simp only [inR]; omega, ?_⟩
    refine ho.store (by omega) (by omega) (by omega) rfl fun w1 o1 b1 _ => ⟨⟨by omega, by omega⟩, by simp only [inR]; omega, ?_⟩
    rw [Int.toNat_natCast, Int.toNat_natCast] at o1
    have hl := ho.len
    refine ih w1 _ _ (by omega) (hw.trans b1) o1 (hs.set hq) hml ?_
    rw [wv_drop, wv_drop a, ← he, List.drop_set, if_pos (by omega)]
    rw [List.getD_eq_getElem?_getD, List.getElem?_set_self (by omega)]
    simp only [Option.getD_some]
    generalize wv (List.drop (i + 1) ws) = V
    clear et o1 hq he hml
    grind

theorem natural_by {w : World} {A0 : Option Addr} {n0 c0 x d : Nat} (ha : IsN w A0 n0 c0 x) (l0 : n0 ≤ 1000000) (hd : 0 < d) (hd2 : d ≤ 1000000000) :
    Pure Tryz.prog 194 #[.slice A0 n0 c0, .int .u64 (d : Int)] w fun v w' => ∃ A n c A' n' c', v = .tuple #[.slice A n c, .slice A' n' c'] ∧ IsN w' A n c (x / d) ∧ IsN w' A' n' c' (x % d) := by
  obtain ⟨a, a1, a2, a3, a4, a5, a6, rfl⟩ := ha
  refine F.natural_num_by.vc _ _ _ _ _ _ ?_
  refine runOk_make el_num El.zeroU32 rfl (by omega) (by omega) (Nat.le_refl _) fun A n w2 hn k1 _ k2 => ⟨by simp only [inR]; omega, ?_⟩
  have hn' : n = n0 := by omega
  subst hn'
  have hrep : OwnU w2 w.heap.size A n n (List.replicate n 0) := by
    unfold OwnU
    have : u32s (List.replicate n 0) = List.replicate n (.int .u32 0) := by simp [u32s]
    rw [this]
    exact k1
  refine by_loop a1 a2 a5 (by omega) hd hd2 (fun A n c A' n' c' w h1 h2 => ⟨A, n, c, A', n', c', rfl, h1, h2⟩) n w2 _ 0 (Nat.le_refl _) k2 hrep (fun x hx => by rw [List.eq_of_mem_replicate hx]; omega) hd ?_
  rw [List.drop_eq_nil_of_le (by simp), List.drop_eq_nil_of_le (by omega)]
  simp [wv]
end Go.Proofs.YtdoailkigecmkaaGreatDoor.B

namespace Go.Proofs.YtdoailkigecmkaaGreatDoor.B

theorem guess_ge {top u2 low M v1 v2 vl q : Nat} (hu : u2 < 1000000000) (hl : low < M) (h : q * ((v1 * 1000000000 + v2) * M + vl) ≤ (top * 1000000000 + u2) * M + low) : q * v1 ≤ top := by
  apply Decidable.byContradiction
  intro hn
  have h1 : (top + 1) * (1000000000 * M) ≤ q * v1 * (1000000000 * M) := Nat.mul_le_mul_right _ (by omega)
  have h2 : q * v1 * (1000000000 * M) ≤ q * ((v1 * 1000000000 + v2) * M + vl) := by
    have : q * ((v1 * 1000000000 + v2) * M + vl) = q * v1 * (1000000000 * M) + q * (v2 * M + vl) := by grind
    omega
  have h3 : (top * 1000000000 + u2) * M + M ≤ (top + 1) * (1000000000 * M) := by
    have a : (top * 1000000000 + u2 + 1) * M ≤ ((top + 1) * 1000000000) * M := Nat.mul_le_mul_right _ (by omega)
    grind
  omega

theorem guess_gt {top u2 low M v1 v2 vl q g rest : Nat} (hl : low < M) (h : q * ((v1 * 1000000000 + v2) * M + vl) ≤ (top * 1000000000 + u2) * M + low) (hg : g * v1 + rest = top) (hq : q ≤ g)
    (ht : g * v2 > rest * 1000000000 + u2) : q < g := by
  rcases Nat.lt_or_ge q g with h1 | h1
  · exact h1
  · have e : q = g := by omega
    subst e
    have h2 : (top * 1000000000 + u2 + 1) * M ≤ (q * (v1 * 1000000000 + v2)) * M := Nat.mul_le_mul_right _ (by grind)
    have h3 : q * ((v1 * 1000000000 + v2) * M + vl) = (q * (v1 * 1000000000 + v2)) * M + q * vl := by grind
    have h4 : (top * 1000000000 + u2 + 1) * M = (top * 1000000000 + u2) * M + M := by grind
    omega

theorem guess_le {top u2 low M v1 v2 vl g rest : Nat} (hl : vl < M) (hv : 1 ≤ v1) (hg : g * v1 + rest = top) (hb : g ≤ 1000000000) (ht : g * v2 ≤ rest * 1000000000 + u2) :
    g * ((v1 * 1000000000 + v2) * M + vl) < ((top * 1000000000 + u2) * M + low) + ((v1 * 1000000000 + v2) * M + vl) := by
  have h1 : (g * (v1 * 1000000000 + v2)) * M ≤ (top * 1000000000 + u2) * M := Nat.mul_le_mul_right _ (by grind)
  have h2 : g * ((v1 * 1000000000 + v2) * M + vl) = (g * (v1 * 1000000000 + v2)) * M + g * vl := by grind
  have h3 : g * vl ≤ 1000000000 * vl := Nat.mul_le_mul_right _ hb
  have h4 : 1 * (1000000000 * M) ≤ v1 * (1000000000 * M) := Nat.mul_le_mul_right _ hv
  have h5 : (v1 * 1000000000 + v2) * M = v1 * (1000000000 * M) + v2 * M := by grind
  omega

theorem guess_first {top u2 low M v1 v2 vl g : Nat} (hM : 0 < M) (h2 : v2 < 1000000000) (hl : vl < M) (hn : 1000000000 ≤ 2 * v1) (hT : (top * 1000000000 + u2) * M + low < 1000000000 * ((v1 * 1000000000 + v2) * M + vl)) (hg : g * v1 ≤ top) : g ≤ 1000000001 := by
  have h1 : top * M < (v1 * 1000000000 + v2 + 1) * M := by grind
  have h3 : top < v1 * 1000000000 + v2 + 1 := Nat.lt_of_mul_lt_mul_right h1
  apply Decidable.byContradiction
  intro h4
  have h5 : 1000000002 * v1 ≤ g * v1 := Nat.mul_le_mul_right _ (by omega)
  omega

theorem factor_half {v f : Nat} (hv : 1 ≤ v) (hv2 : v < 1000000000) (hf : f = 1000000000 / (v + 1)) : 1 ≤ f ∧ (v + 1) * f ≤ 1000000000 ∧ 1000000000 ≤ 2 * (v * f) := by
  have h0 := Nat.div_add_mod 1000000000 (v + 1)
  have h1 := Nat.mod_lt 1000000000 (show 0 < v + 1 by omega)
  rw [← hf] at h0
  have hf1 : 1 ≤ f := by
    rw [hf]
    exact (Nat.one_le_div_iff (by omega)).2 (by omega)
  refine ⟨hf1, by omega, ?_⟩
  obtain ⟨a, rfl⟩ : ∃ a, v = a + 1 := ⟨v - 1, by omega⟩
  obtain ⟨b, rfl⟩ : ∃ b, f = b + 1 := ⟨f - 1, by omega⟩
  have e1 : (a + 1 + 1) * (b + 1) = (a + 1) * (b + 1) + (b + 1) := by grind
  have e2 : (a + 1) * (b + 1) = a * b + a + b + 1 := by grind
  omega

theorem sub_word {P Q W W' V g vi c br D x c' br' : Nat} (h : W' + g * V = Q + P * (c + br)) (hset : W + P * D = W' + P * x) (hx : x + (g * vi + c) % 1000000000 + br = D + 1000000000 * br') (hc : c' = (g * vi + c) / 1000000000) :
    W + g * (V + P * vi) = Q + (P * 1000000000) * (c' + br') := by
  have hdm := Nat.div_add_mod (g * vi + c) 1000000000
  rw [← hc] at hdm
  generalize (g * vi + c) % 1000000000 = m at *
  have e : P * x + P * m + P * br = P * D + P * (1000000000 * br') := by rw [← Nat.mul_add, ← Nat.mul_add, hx, Nat.mul_add]
  have e2 : P * (1000000000 * c') + P * m = P * (g * vi) + P * c := by rw [← Nat.mul_add, hdm, Nat.mul_add]
  clear hx hdm hc
  grind

theorem add_word {P Q W W' V vi c D x c' : Nat} (h : W' + P * c = Q + V) (hset : W + P * D = W' + P * x) (hx : x = (c + (D + vi)) % 1000000000) (hc : c' = (c + (D + vi)) / 1000000000) :
    W + (P * 1000000000) * c' = Q + (V + P * vi) := by
  have hdm := Nat.div_add_mod (c + (D + vi)) 1000000000
  rw [← hc, ← hx] at hdm
  have e2 : P * (1000000000 * c') + P * x = P * c + (P * D + P * vi) := by rw [← Nat.mul_add, hdm, Nat.mul_add, Nat.mul_add]
  clear hx hdm hc
  grind

theorem wv_top {D : List Nat} {k : Nat} (hk : k ≤ D.length) (hs : Small D) (h : wv D < 1000000000 ^ (k + 1)) : wv D = wv (D.take k) + 1000000000 ^ k * D.getD k 0 ∧ wv (D.take k) < 1000000000 ^ k := by
  have h1 := wv_split D k hk
  rw [wv_drop] at h1
  have h2 := wv_lt (hs.take k)
  rw [List.length_take, Nat.min_eq_left hk] at h2
  have h3 : wv (D.drop (k + 1)) = 0 := by
    apply Decidable.byContradiction
    intro h3
    have h4 : 1000000000 ^ k * (1000000000 * 1) ≤ 1000000000 ^ k * (1000000000 * wv (D.drop (k + 1))) := Nat.mul_le_mul_left _ (Nat.mul_le_mul_left _ (by omega))
    rw [Nat.mul_add] at h1
    rw [Nat.pow_succ] at h
    omega
  rw [h3] at h1
  exact ⟨by simpa using h1, h2⟩

end Go.Proofs.YtdoailkigecmkaaGreatDoor.B

namespace Go.Proofs.YtdoailkigecmkaaGreatDoor.B
open Go Go.RowKit Go.Proofs Go.Proofs.YtdoailkigecmkaaGreatDoor.Vc

theorem OwnU.other {w w' : World} {B : Nat} {A : Option Addr} {n c : Nat} {ws : List Nat} (h : OwnU w B A n c ws) (hh : ∀ b, Value.ownBlock (.slice A n c) = some b → w'.heap[b]? = w.heap[b]?) : OwnU w' B A n c ws := by
  refine ⟨h.1, ?_⟩
  rcases h.2 with h1 | ⟨g, cap, cur, h1, h2, h3, h4⟩
  · exact .inl h1
  · refine .inr ⟨g, cap, cur, h1, h2, ?_, h4⟩
    rw [hh g (by rw [h1]; rfl)]
    exact h3
theorem OwnU.blk {w : World} {B : Nat} {A : Option Addr} {n c : Nat} {ws : List Nat} (h : OwnU w B A n c ws) : ∀ b, Value.ownBlock (.slice A n c) = some b → B ≤ b ∧ b < w.heap.size := World.ownsRow.lt h

theorem app_getD {pre D : List Nat} {j i : Nat} (h : pre.length = j) : (pre ++ D).getD (i + j) 0 = D.getD i 0 := by
  rw [List.getD_eq_getElem?_getD, List.getElem?_append_right (by omega), List.getD_eq_getElem?_getD]
  congr 2; omega
theorem app_set {pre D : List Nat} {j i x : Nat} (h : pre.length = j) : (pre ++ D).set (i + j) x = pre ++ D.set i x := by
  rw [List.set_append_right _ _ (by omega)]
  congr 2; omega
theorem getD_set_ne {D : List Nat} {i t x : Nat} (h : i ≠ t) : (D.set i x).getD t 0 = D.getD t 0 := by
  rw [List.getD_eq_getElem?_getD, List.getElem?_set_ne h, ← List.getD_eq_getElem?_getD]

theorem getD_of_drop {D D0 : List Nat} {k : Nat} (h : D.drop k = D0.drop k) : D.getD k 0 = D0.getD k 0 := by
  have e : ∀ l : List Nat, l.getD k 0 = (l.drop k).getD 0 0 := fun l => by rw [List.getD_eq_getElem?_getD, List.getD_eq_getElem?_getD, List.getElem?_drop, Nat.add_zero]
  rw [e D, e D0, h]

structure Div (w1 w : World) (B : Nat) (Au : Option Addr) (nu cu : Nat) (us : List Nat) (Aq : Option Addr) (nq cq : Nat) (qs : List Nat) : Prop where
  u : OwnU w B Au nu cu us
  q : OwnU w B Aq nq cq qs
  su : Small us
  sq : Small qs
  fr : ∀ k, k < w1.heap.size → some k ≠ Value.ownBlock (.slice Au nu cu) → some k ≠ Value.ownBlock (.slice Aq nq cq) → w.heap[k]? = w1.heap[k]?
  below : Below B w1 w

section
variable {w1 w : World} {B : Nat} {Au : Option Addr} {nu cu : Nat} {us : List Nat} {Aq : Option Addr} {nq cq : Nat} {qs : List Nat}

def Sep (A Au Aq : Option Addr) (nu cu nq cq : Nat) : Prop := ∀ a, A = some a → some a.block ≠ Value.ownBlock (.slice Au nu cu) ∧ some a.block ≠ Value.ownBlock (.slice Aq nq cq)
def Apart (Au Aq : Option Addr) : Prop := ∀ a b, Au = some a → Aq = some b → a.block ≠ b.block

theorem Div.sl (h : Div w1 w B Au nu cu us Aq nq cq qs) {A : Option Addr} {ws : List Nat} (hs : SlU w1 A ws) (hsep : Sep A Au Aq nu cu nq cq) : SlU w A ws := by
  rcases hs with h1 | ⟨b, off, all, fr, hA, hb, hc⟩
  · exact .inl h1
  · refine .inr ⟨b, off, all, fr, hA, ?_, hc⟩
    have h2 := hsep _ hA
    rw [h.fr b (Array.getElem?_eq_some_iff.1 hb).1 h2.1 h2.2]
    exact hb

theorem Div.ext (h : Div w1 w B Au nu cu us Aq nq cq qs) {w2 : World} (e : Ext B [] w w2) : Div w1 w2 B Au nu cu us Aq nq cq qs := by
  have same : ∀ k, k < w.heap.size → w2.heap[k]? = w.heap[k]? := fun k hk => by
    rcases e.other k hk with h1 | ⟨t, ht, _⟩
    · exact h1
    · cases ht
  exact ⟨h.u.other fun b hb => same b (h.u.blk b hb).2, h.q.other fun b hb => same b (h.q.blk b hb).2, h.su, h.sq,
    fun k hk h1 h2 => by rw [same k (Nat.lt_of_lt_of_le hk h.below.size)]; exact h.fr k hk h1 h2, h.below.trans e.below⟩

theorem Div.storeU (h : Div w1 w B Au nu cu us Aq nq cq qs) (ha : Apart Au Aq) {j x : Int} (h0 : 0 ≤ j) (h1 : j < nu) (hx : 0 ≤ x) (hx2 : x < 1000000000) {K : World → Prop}
    (k : ∀ w2, Div w1 w2 B Au nu cu (us.set j.toNat x.toNat) Aq nq cq qs → K w2) :
    (0 ≤ j ∧ j < nu) ∧ ∃ a, Au = some a ∧ ∃ (cs : List Value) (t : Nat), B ≤ (a.add (j.toNat * 1)).block ∧ (a.add (j.toNat * 1)).spot = none ∧ w.heap[(a.add (j.toNat * 1)).block]? = some (.cells cs.toArray t (0, 0)) ∧
      (a.add (j.toNat * 1)).off + 1 ≤ cs.length ∧ hasType t [] = false ∧ ∀ w1, Wrote w w1 (a.add (j.toNat * 1)).block t (setCells cs (a.add (j.toNat * 1)).off [.int .u32 x]) → K w1 := by
  refine h.u.store h0 h1 hx rfl fun w2 o1 b1 f1 => k w2 ⟨o1, h.q.other fun b hb => f1 b ?_, h.su.set (by omega), h.sq, fun k hk h1 h2 => by rw [f1 k h1]; exact h.fr k hk h1 h2, h.below.trans b1⟩
  intro e
  cases Au with
  | none => simp [Value.ownBlock] at e
  | some a => cases Aq with
    | none => simp [Value.ownBlock] at hb
    | some a' =>
      simp [Value.ownBlock] at e hb
      exact ha _ _ rfl rfl (by omega)

theorem Div.storeQ (h : Div w1 w B Au nu cu us Aq nq cq qs) (ha : Apart Au Aq) {j x : Int} (h0 : 0 ≤ j) (h1 : j < nq) (hx : 0 ≤ x) (hx2 : x < 1000000000) {K : World → Prop}
    (k : ∀ w2, Div w1 w2 B Au nu cu us Aq nq cq (qs.set j.toNat x.toNat) → K w2) :
    (0 ≤ j ∧ j < nq) ∧ ∃ a, Aq = some a ∧ ∃ (cs : List Value) (t : Nat), B ≤ (a.add (j.toNat * 1)).block ∧ (a.add (j.toNat * 1)).spot = none ∧ w.heap[(a.add (j.toNat * 1)).block]? = some (.cells cs.toArray t (0, 0)) ∧
      (a.add (j.toNat * 1)).off + 1 ≤ cs.length ∧ hasType t [] = false ∧ ∀ w1, Wrote w w1 (a.add (j.toNat * 1)).block t (setCells cs (a.add (j.toNat * 1)).off [.int .u32 x]) → K w1 := by
  refine h.q.store h0 h1 hx rfl fun w2 o1 b1 f1 => k w2 ⟨h.u.other fun b hb => f1 b ?_, o1, h.su, h.sq.set (by omega), fun k hk h1 h2 => by rw [f1 k h2]; exact h.fr k hk h1 h2, h.below.trans b1⟩
  intro e
  cases Aq with
  | none => simp [Value.ownBlock] at e
  | some a => cases Au with
    | none => simp [Value.ownBlock] at hb
    | some a' =>
      simp [Value.ownBlock] at e hb
      exact ha _ _ rfl rfl (by omega)
end

section
variable {w1 : World} {B : Nat} {Af Au Av Aq : Option Addr} {nf cf nu cu nv cv nq cq : Nat} {vs : List Nat} {R : Value → World → Prop}

theorem div_J49 (ha : Apart Au Aq) (hn : nu ≤ 1000000) {w : World} {pre D qs : List Nat} {g j : Nat} {last : Int} (h : Div w1 w B Au nu cu (pre ++ D) Aq nq cq qs) (hj : pre.length = j) (hk : nv < D.length) (hg : g < 1000000000) (hq : j < nq) (hl : last < 1000000000)
    (hR : ∀ w2, Div w1 w2 B Au nu cu (pre ++ D.set nv last.toNat) Aq nq cq (qs.set j g) → F.natural_num_divide.L16 Af nf cf Au nu cu Av nv cv nv Aq nq cq ((j : Int) - 1) B w2 R) :
    F.natural_num_divide.J49 Af nf cf Au nu cu Av nv cv nv Aq nq cq j g last B w R := by
  have hul := h.u.len
  simp only [List.length_append] at hul
  have e : (if (0 : Int) > last then (0 : Int) else last) = (last.toNat : Int) := by split <;> omega
  refine F.natural_num_divide.J49.step _ _ _ _ _ _ _ _ _ _ _ _ _ _ _ _ _ _ _ ⟨by simp only [inR]; omega, by rw [e]; simp only [inR]; omega, ?_⟩
  rw [e]
  refine h.storeU ha (by omega) (by omega) (by omega) (by omega) fun w2 h2 => ⟨by simp only [inR]; omega, ?_⟩
  have e2 : ((j : Int) + (nv : Int)).toNat = nv + j := by omega
  rw [e2, Int.toNat_natCast, app_set hj] at h2
  refine h2.storeQ ha (by omega) (by omega) (by omega) (by omega) fun w3 h3 => ⟨by simp only [inR]; omega, ?_⟩
  rw [Int.toNat_natCast, Int.toNat_natCast] at h3
  exact hR w3 h3

theorem div_L42 (ha : Apart Au Aq) (hn : nu ≤ 1000000) (hv : SlU w1 Av vs) (hvl : vs.length = nv) (hsv : Small vs) (hsep : Sep Av Au Aq nu cu nq cq) {pre D0 qs : List Nat} {g j : Nat} {last : Int} (hj : pre.length = j) (hk : nv < D0.length) (hlast : -2000000000 ≤ last ∧ last < 0)
    (hR : ∀ w D (up : Nat), Div w1 w B Au nu cu (pre ++ D) Aq nq cq qs → D.length = D0.length → up ≤ 1 → D.drop nv = D0.drop nv → wv D + 1000000000 ^ nv * up = wv D0 + wv vs →
      F.natural_num_divide.J49 Af nf cf Au nu cu Av nv cv nv Aq nq cq j g (last + up) B w R) :
    ∀ (d i : Nat) (w : World) (D : List Nat) (up : Nat), nv - i = d → i ≤ nv → Div w1 w B Au nu cu (pre ++ D) Aq nq cq qs → D.length = D0.length → up ≤ 1 → D.drop nv = D0.drop nv → wv D + 1000000000 ^ i * up = wv D0 + wv (vs.take i) →
      F.natural_num_divide.L42 Af nf cf Au nu cu Av nv cv nv Aq nq cq j g last up nv i B w R := by
  intro d
  induction d with
  | zero =>
    intro i w D up hd hi h hl hu hk2 he
    have hin : i = nv := by omega
    subst hin
    rw [List.take_of_length_le (by omega)] at he
    refine F.natural_num_divide.L42.step _ _ _ _ _ _ _ _ _ _ _ _ _ _ _ _ _ _ _ _ _ _ ⟨fun h => by omega, fun _ => ⟨by simp only [inR]; omega, by simp only [inR]; omega, ?_⟩⟩
    exact hR w D up h hl hu hk2 he
  | succ d ih =>
    intro i w D up hd hi h hl hu hk2 he
    have hul := h.u.len
    have hul2 := hul
    simp only [List.length_append] at hul
    have gv := hsv.getD i
    have gu := h.su.getD (i + j)
    have e2 : ((i : Int) + (j : Int)).toNat = i + j := by omega
    rw [app_getD hj] at gu
    refine F.natural_num_divide.L42.step _ _ _ _ _ _ _ _ _ _ _ _ _ _ _ _ _ _ _ _ _ _ ⟨fun _ => ⟨by simp only [inR]; omega, ?_⟩, fun h => by omega⟩
    refine h.u.sl.load hul2 (by omega) (by omega) ⟨by rw [e2, app_getD hj]; simp only [inR]; omega, ?_⟩
    refine (h.sl hv hsep).load hvl (by omega) (by omega) ?_
    rw [e2, Int.toNat_natCast, app_getD hj]
    refine ⟨by simp only [inR]; omega, by simp only [inR]; omega, by simp only [inR]; omega, by simp only [inR]; omega, by omega, by simp only [inR]; omega, ?_⟩
    have hown : ∃ a, Au = some a := by
      obtain ⟨a, hA, _⟩ := h.u.sl.cell (j := (i : Int) + j) (by omega) (by omega)
      exact ⟨a, hA⟩
    obtain ⟨a, rfl⟩ := hown
    have step : ∀ w3, Div w1 w3 B (some a) nu cu ((pre ++ D).set ((i : Int) + (j : Int)).toNat ((((up : Int) + ((D.getD i 0 : Nat) + (vs.getD i 0 : Nat))) % 1000000000)).toNat) Aq nq cq qs →
        F.natural_num_divide.L42 Af nf cf (some a) nu cu Av nv cv nv Aq nq cq j g last (((up : Int) + ((D.getD i 0 : Nat) + (vs.getD i 0 : Nat))) / 1000000000) nv ((i : Int) + 1) B w3 R := by
      intro w3 h3
      obtain ⟨t, ht⟩ : ∃ t, t = up + (D.getD i 0 + vs.getD i 0) := ⟨_, rfl⟩
      have et : (up : Int) + ((D.getD i 0 : Nat) + (vs.getD i 0 : Nat)) = (t : Int) := by omega
      have e3 : (i : Int) + 1 = ((i + 1 : Nat) : Int) := by omega
      have e4 : ((t : Int) % 1000000000).toNat = t % 1000000000 := by omega
      have e5 : (t : Int) / 1000000000 = ((t / 1000000000 : Nat) : Int) := by omega
      rw [et, e2, e4, app_set hj] at h3
      rw [et, e3, e5]
      refine ih (i + 1) w3 _ _ (by omega) (by omega) h3 (by simpa using hl) (by omega) (by rw [List.drop_set, if_pos (by omega)]; exact hk2) ?_
      rw [wv_take_succ, Nat.pow_succ]
      exact add_word he (wv_set D i _ (by omega)) (by rw [ht]) (by rw [ht])
    refine ⟨⟨by omega, by omega⟩, a, rfl, fun w2 e => ?_⟩
    obtain ⟨_, a', ea, hst'⟩ := (h.ext e).storeU ha (j := (i : Int) + (j : Int)) (x := ((up : Int) + ((D.getD i 0 : Nat) + (vs.getD i 0 : Nat))) % 1000000000) (by omega) (by omega) (by omega) (by omega) (K := fun w3 => (0 ≤ ((up : Int) + ((D.getD i 0 : Nat) + (vs.getD i 0 : Nat))) ∧ 0 < (1000000000 : Int) ∧ inR .u64 ((up : Int) + ((D.getD i 0 : Nat) + (vs.getD i 0 : Nat)))) ∧ inR .i64 ((i : Int) + 1) ∧
      F.natural_num_divide.L42 Af nf cf (some a) nu cu Av nv cv nv Aq nq cq j g last (((up : Int) + ((D.getD i 0 : Nat) + (vs.getD i 0 : Nat))) / 1000000000) nv ((i : Int) + 1) B w3 R) (fun w3 h3 => ⟨⟨by omega, by omega, by simp only [inR]; omega⟩, by simp only [inR]; omega, step w3 h3⟩)
    cases ea
    rw [e2] at hst'
    exact hst'

theorem div_L26 (ha : Apart Au Aq) (hn : nu ≤ 1000000) (hv : SlU w1 Av vs) (hvl : vs.length = nv) (hsv : Small vs) (hsep : Sep Av Au Aq nu cu nq cq) {pre D0 qs : List Nat} {g j : Nat} (hj : pre.length = j) (hk : nv < D0.length) (hg : g ≤ 1000000000)
    (hR : ∀ w D (c br : Nat), Div w1 w B Au nu cu (pre ++ D) Aq nq cq qs → D.length = D0.length → c < 1000000000 → br ≤ 1 → D.drop nv = D0.drop nv → wv D + g * wv vs = wv D0 + 1000000000 ^ nv * (c + br) →
      ((D0.getD nv 0 : Nat) - (c : Int) - (br : Int) < 0 → 1 ≤ g ∧ F.natural_num_divide.L42 Af nf cf Au nu cu Av nv cv nv Aq nq cq j ((g : Int) - 1) ((D0.getD nv 0 : Nat) - (c : Int) - (br : Int)) 0 nv 0 B w R) ∧
      (¬ ((D0.getD nv 0 : Nat) - (c : Int) - (br : Int) < 0) → F.natural_num_divide.J49 Af nf cf Au nu cu Av nv cv nv Aq nq cq j g ((D0.getD nv 0 : Nat) - (c : Int) - (br : Int)) B w R)) :
    ∀ (d i : Nat) (w : World) (D : List Nat) (c br : Nat), nv - i = d → i ≤ nv → Div w1 w B Au nu cu (pre ++ D) Aq nq cq qs → D.length = D0.length → c < 1000000000 → br ≤ 1 → D.drop nv = D0.drop nv → wv D + g * wv (vs.take i) = wv D0 + 1000000000 ^ i * (c + br) →
      F.natural_num_divide.L26 Af nf cf Au nu cu Av nv cv nv Aq nq cq j g c br nv i B w R := by
  intro d
  induction d with
  | zero =>
    intro i w D c br hd hi h hl hc hb hk2 he
    have hin : i = nv := by omega
    subst hin
    have hul := h.u.len
    have hul2 := hul
    simp only [List.length_append] at hul
    have gu := h.su.getD (i + j)
    rw [app_getD hj] at gu
    rw [List.take_of_length_le (by omega)] at he
    have e2 : ((j : Int) + (i : Int)).toNat = i + j := by omega
    have hr := hR w D c br h hl hc hb hk2 he
    rw [← getD_of_drop hk2] at hr
    refine F.natural_num_divide.L26.step _ _ _ _ _ _ _ _ _ _ _ _ _ _ _ _ _ _ _ _ _ _ ⟨fun h => by omega, fun _ => ⟨by simp only [inR]; omega, ?_⟩⟩
    refine h.u.sl.load hul2 (by omega) (by omega) ?_
    rw [e2, app_getD hj]
    exact ⟨by simp only [inR]; omega, by simp only [inR]; omega, by simp only [inR]; omega, fun h => ⟨by have := (hr.1 h).1; simp only [inR]; omega, (hr.1 h).2⟩, fun h => hr.2 h⟩
  | succ d ih =>
    intro i w D c br hd hi h hl hc hb hk2 he
    have hul := h.u.len
    have hul2 := hul
    simp only [List.length_append] at hul
    have gv := hsv.getD i
    have gu := h.su.getD (i + j)
    have e2 : ((i : Int) + (j : Int)).toNat = i + j := by omega
    rw [app_getD hj] at gu
    have e3 : (i : Int) + 1 = ((i + 1 : Nat) : Int) := by omega
    have hgv : g * vs.getD i 0 ≤ 1000000000 * 999999999 := Nat.mul_le_mul hg (by omega)
    obtain ⟨p, hp⟩ : ∃ p, p = g * vs.getD i 0 + c := ⟨_, rfl⟩
    have ep : (g : Int) * (vs.getD i 0 : Nat) = ((g * vs.getD i 0 : Nat) : Int) := by simp
    have ep2 : ((g * vs.getD i 0 : Nat) : Int) + (c : Int) = (p : Int) := by omega
    have e5 : (p : Int) / 1000000000 = ((p / 1000000000 : Nat) : Int) := by omega
    have next : ∀ (br' x : Nat) w2, br' ≤ 1 → x + p % 1000000000 + br = D.getD i 0 + 1000000000 * br' → Div w1 w2 B Au nu cu ((pre ++ D).set (i + j) x) Aq nq cq qs →
        F.natural_num_divide.L26 Af nf cf Au nu cu Av nv cv nv Aq nq cq j g ((p / 1000000000 : Nat) : Int) br' nv ((i : Int) + 1) B w2 R := by
      intro br' x w2 hb' hx h2
      rw [app_set hj] at h2
      rw [e3]
      refine ih (i + 1) w2 _ _ br' (by omega) (by omega) h2 (by simpa using hl) (by omega) hb' (by rw [List.drop_set, if_pos (by omega)]; exact hk2) ?_
      rw [wv_take_succ, Nat.pow_succ]
      exact sub_word he (wv_set D i x (by omega)) (by rw [← hp]; exact hx) (by rw [← hp])
    refine F.natural_num_divide.L26.step _ _ _ _ _ _ _ _ _ _ _ _ _ _ _ _ _ _ _ _ _ _ ⟨fun _ => ⟨by simp only [inR]; omega, ?_⟩, fun h => by omega⟩
    refine (h.sl hv hsep).load hvl (by omega) (by omega) ?_
    rw [Int.toNat_natCast, ep, ep2]
    refine ⟨by simp only [inR]; omega, by simp only [inR]; omega, by simp only [inR]; omega, ⟨by omega, by omega, by simp only [inR]; omega⟩, by simp only [inR]; omega, ?_⟩
    refine h.u.sl.load hul2 (by omega) (by omega) ?_
    rw [e2, app_getD hj, e5]
    refine ⟨by simp only [inR]; omega, by omega, by simp only [inR]; omega, by simp only [inR]; omega, fun h0 => ⟨by simp only [inR]; omega, by simp only [inR]; omega, by simp only [inR]; omega, ?_⟩, fun h0 => ⟨by simp only [inR]; omega, by simp only [inR]; omega, ?_⟩⟩
    · rw [← e2]
      refine h.storeU ha (by omega) (by omega) (by omega) (by omega) fun w2 h2 => ⟨by simp only [inR]; omega, ?_⟩
      rw [e2] at h2
      exact next 1 _ w2 (by omega) (by omega) h2
    · rw [← e2]
      refine h.storeU ha (by omega) (by omega) (by omega) (by omega) fun w2 h2 => ⟨by simp only [inR]; omega, ?_⟩
      rw [e2] at h2
      exact next 0 _ w2 (by omega) (by omega) h2

theorem SlU.load2 {w : World} {A : Option Addr} {ws : List Nat} {n : Nat} (h : SlU w A ws) (hl : ws.length = n) {j : Int} (h0 : 0 ≤ j) (h1 : j < n) {K : World → Int → Prop} (k : ∀ w2, Ext B [] w w2 → K w2 (ws.getD j.toNat 0 : Nat)) :
    (0 ≤ j ∧ j < n) ∧ ∃ a, A = some a ∧ ∀ w2, Ext B [] w w2 → ∃ i : Int, CellsAt w2 (a.add (j.toNat * 1)) [.int .u32 i] ∧ K w2 i := by
  obtain ⟨_, a, hA, _, _⟩ := h.load hl h0 h1 (K := fun _ => True) trivial
  refine ⟨⟨h0, h1⟩, a, hA, fun w2 e => ?_⟩
  obtain ⟨_, a', hA', i, hc, hk⟩ := (Ext.nilSl h e).load hl h0 h1 (K := K w2) (k w2 e)
  rw [hA] at hA'
  cases hA'
  exact ⟨i, hc, hk⟩

theorem div_L20 (hn : nu ≤ 1000000) (hv : SlU w1 Av vs) (hvl : vs.length = nv) (hsv : Small vs) (hsep : Sep Av Au Aq nu cu nq cq) (hnv : 2 ≤ nv) {pre D qs : List Nat} {j : Nat} (hj : pre.length = j) (hk : nv < D.length)
    {top low M vl q T V : Nat} (hlow : low < M) (hvlow : vl < M) (hv1 : 1 ≤ vs.getD (nv - 1) 0) (hV : V = (vs.getD (nv - 1) 0 * 1000000000 + vs.getD (nv - 2) 0) * M + vl) (hT : T = (top * 1000000000 + D.getD (nv - 2) 0) * M + low)
    (hqT : q * V ≤ T) (hqb : q < 1000000000)
    (hR : ∀ w (g : Nat), Div w1 w B Au nu cu (pre ++ D) Aq nq cq qs → g ≤ 1000000000 → q ≤ g → g * V < T + V → F.natural_num_divide.L26 Af nf cf Au nu cu Av nv cv nv Aq nq cq j g 0 0 nv 0 B w R) :
    ∀ (g rest : Nat) (w : World), Div w1 w B Au nu cu (pre ++ D) Aq nq cq qs → g * vs.getD (nv - 1) 0 + rest = top → q ≤ g → g ≤ 1000000001 → rest < 1000000000 →
      F.natural_num_divide.L20 Af nf cf Au nu cu Av nv cv nv Aq nq cq j g rest B w R := by
  have g1 := hsv.getD (nv - 1)
  have g2 := hsv.getD (nv - 2)
  have ex1 : ((nv : Int) - 1).toNat = nv - 1 := by omega
  have ex2 : ((nv : Int) - 2).toNat = nv - 2 := by omega
  have ex3 : ((j : Int) + (nv : Int) - 2).toNat = (nv - 2) + j := by omega
  intro g
  induction g with
  | zero =>
    intro rest w h ht hq hg hr
    have hul := h.u.len
    have hul2 := hul
    simp only [List.length_append] at hul
    have gu := h.su.getD (nv - 2 + j)
    rw [app_getD hj] at gu
    refine F.natural_num_divide.L20.step _ _ _ _ _ _ _ _ _ _ _ _ _ _ _ _ _ _ _ ⟨fun h => by omega, fun _ => ⟨by simp only [inR]; omega, ?_⟩⟩
    refine (h.sl hv hsep).load hvl (by omega) (by omega) ?_
    rw [ex2]
    refine ⟨by simp only [inR]; omega, by simp only [inR]; omega, by simp only [inR]; omega, by simp only [inR]; omega, by simp only [inR]; omega, ?_⟩
    refine h.u.sl.load hul2 (by omega) (by omega) ?_
    rw [ex3, app_getD hj]
    refine ⟨by simp only [inR]; omega, by simp only [inR]; omega, fun h0 => by omega, fun h0 w2 e => hR w2 0 (h.ext e) (by omega) hq ?_⟩
    rw [hT, hV]
    exact guess_le hvlow hv1 ht (by omega) (by omega)
  | succ g ih =>
    intro rest w h ht hq hg hr
    have hul := h.u.len
    have hul2 := hul
    simp only [List.length_append] at hul
    have gu := h.su.getD (nv - 2 + j)
    rw [app_getD hj] at gu
    have eg : ((g + 1 : Nat) : Int) - 1 = (g : Int) := by omega
    have next : q ≤ g → ∀ w2, Ext B [] w w2 → inR .u64 ((vs.getD (nv - 1) 0 : Nat) : Int) ∧ inR .u64 ((rest : Int) + (vs.getD (nv - 1) 0 : Nat)) ∧
        (((rest : Int) + (vs.getD (nv - 1) 0 : Nat) ≥ (1000000000 : Int) → F.natural_num_divide.L26 Af nf cf Au nu cu Av nv cv nv Aq nq cq j g 0 0 nv 0 B w2 R) ∧
        (¬ ((rest : Int) + (vs.getD (nv - 1) 0 : Nat) ≥ (1000000000 : Int)) → F.natural_num_divide.L20 Af nf cf Au nu cu Av nv cv nv Aq nq cq j g ((rest : Int) + (vs.getD (nv - 1) 0 : Nat)) B w2 R)) := by
      intro hqg w2 e
      have ht2 : g * vs.getD (nv - 1) 0 + (rest + vs.getD (nv - 1) 0) = top := by rw [Nat.add_mul] at ht; omega
      refine ⟨by simp only [inR]; omega, by simp only [inR]; omega, fun h0 => hR w2 g (h.ext e) (by omega) hqg ?_, fun h0 => ?_⟩
      · rw [hT, hV]
        refine guess_le hvlow hv1 ht2 (by omega) ?_
        have h4 : g * vs.getD (nv - 2) 0 ≤ 1000000000 * 1000000000 := Nat.mul_le_mul (by omega) (by omega)
        omega
      · exact ih (rest + vs.getD (nv - 1) 0) w2 (h.ext e) ht2 hqg (by omega) (by omega)
    refine F.natural_num_divide.L20.step _ _ _ _ _ _ _ _ _ _ _ _ _ _ _ _ _ _ _ ⟨fun h0 => ⟨by simp only [inR]; omega, by simp only [inR]; omega, ?_⟩, fun h0 => ⟨by simp only [inR]; omega, ?_⟩⟩
    · rw [eg]
      refine (h.sl hv hsep).load2 hvl (by omega) (by omega) fun w2 e => ?_
      rw [ex1]
      exact next (by omega) w2 e
    · have hgv : (g + 1) * vs.getD (nv - 2) 0 ≤ 1000000000 * 1000000000 := Nat.mul_le_mul (by omega) (by omega)
      have ep : ((g + 1 : Nat) : Int) * (vs.getD (nv - 2) 0 : Nat) = (((g + 1) * vs.getD (nv - 2) 0 : Nat) : Int) := by simp
      refine (h.sl hv hsep).load hvl (by omega) (by omega) ?_
      rw [ex2, ep]
      refine ⟨by simp only [inR]; omega, by simp only [inR]; omega, by simp only [inR]; omega, by simp only [inR]; omega, by simp only [inR]; omega, ?_⟩
      refine h.u.sl.load hul2 (by omega) (by omega) ?_
      rw [ex3, app_getD hj, eg]
      refine ⟨by simp only [inR]; omega, by simp only [inR]; omega, fun h1 => ⟨by simp only [inR]; omega, by simp only [inR]; omega, ?_⟩, fun h1 w2 e => hR w2 (g + 1) (h.ext e) (by omega) hq ?_⟩
      · refine (h.sl hv hsep).load2 hvl (by omega) (by omega) fun w2 e => ?_
        rw [ex1]
        refine next ?_ w2 e
        rw [hT, hV] at hqT
        have := guess_gt hlow hqT ht hq (by omega)
        omega
      · rw [hT, hV]
        exact guess_le hvlow hv1 ht (by omega) (by omega)
end
end Go.Proofs.YtdoailkigecmkaaGreatDoor.B

namespace Go.Proofs.YtdoailkigecmkaaGreatDoor.B
open Go Go.RowKit Go.Proofs Go.Proofs.YtdoailkigecmkaaGreatDoor.Vc

theorem OwnU.base {w : World} {B B' : Nat} {A : Option Addr} {n c : Nat} {ws : List Nat} (h : OwnU w B' A n c ws) (hB : B ≤ B') : OwnU w B A n c ws := by
  refine ⟨h.1, ?_⟩
  rcases h.2 with h1 | ⟨g, cap, cur, h1, h2, h3⟩
  · exact .inl h1
  · exact .inr ⟨g, cap, cur, h1, Nat.le_trans hB h2, h3⟩

theorem words3 {D : List Nat} {kk : Nat} (hk : kk + 2 < D.length) (hs : Small D) (h : wv D < 1000000000 ^ (kk + 2 + 1)) :
    wv D = ((D.getD (kk + 2) 0 * 1000000000 + D.getD (kk + 1) 0) * 1000000000 + D.getD kk 0) * 1000000000 ^ kk + wv (D.take kk) ∧ wv (D.take kk) < 1000000000 ^ kk := by
  have h1 := (wv_top (by omega) hs h).1
  have h2 := wv_lt (hs.take kk)
  rw [List.length_take, Nat.min_eq_left (by omega)] at h2
  refine ⟨?_, h2⟩
  rw [h1, wv_take_succ, wv_take_succ, Nat.pow_succ, Nat.pow_succ]
  grind
theorem words2 {vs : List Nat} {kk : Nat} (hk : vs.length = kk + 2) (hs : Small vs) :
    wv vs = (vs.getD (kk + 1) 0 * 1000000000 + vs.getD kk 0) * 1000000000 ^ kk + wv (vs.take kk) ∧ wv (vs.take kk) < 1000000000 ^ kk := by
  have h2 := wv_lt (hs.take kk)
  rw [List.length_take, Nat.min_eq_left (by omega)] at h2
  refine ⟨?_, h2⟩
  have e : vs = vs.take (kk + 1 + 1) := (List.take_of_length_le (by omega)).symm
  have h1 : wv vs = wv (vs.take (kk + 1 + 1)) := by rw [← e]
  rw [h1, wv_take_succ, wv_take_succ, Nat.pow_succ]
  grind

theorem Sep.of {A Au Aq : Option Addr} {nu cu nq cq : Nat} (h1 : ∀ a b, A = some a → Au = some b → a.block ≠ b.block) (h2 : ∀ a b, A = some a → Aq = some b → a.block ≠ b.block) : Sep A Au Aq nu cu nq cq := by
  intro a ha
  constructor
  · cases Au with
    | none => simp [Value.ownBlock]
    | some b => simp [Value.ownBlock]; exact h1 a b ha rfl
  · cases Aq with
    | none => simp [Value.ownBlock]
    | some b => simp [Value.ownBlock]; exact h2 a b ha rfl

section
variable {w1 : World} {B : Nat} {Af Au Av Aq : Option Addr} {nf cf nu cu nv cv nq cq : Nat} {vs : List Nat} {R : Value → World → Prop}

set_option maxHeartbeats 2000000 in
theorem div_L16 (ha : Apart Au Aq) (hn : nu ≤ 1000000) (hB : B ≤ w1.heap.size) (hv : SlU w1 Av vs) (hvl : vs.length = nv) (hsv : Small vs) (hsep : Sep Av Au Aq nu cu nq cq) (hnv : 2 ≤ nv) (hnq : nu = nq + nv) (hhalf : 1000000000 ≤ 2 * vs.getD (nv - 1) 0)
    {f : Nat} (hf : IsN w1 Af nf cf f) (hsepf : Sep Af Au Aq nu cu nq cq) (hf0 : 0 < f) (hf1 : f ≤ 1000000000) {U0 : Nat}
    (hR : ∀ A n c A' n' c' w, IsN w A n c (U0 / wv vs) → IsN w A' n' c' (U0 % wv vs / f) → R (.tuple #[.slice A n c, .slice A' n' c']) w) :
    ∀ (i : Nat) (w : World) (us qs : List Nat), i ≤ nq → Div w1 w B Au nu cu us Aq nq cq qs → wv (us.drop i) < wv vs → wv (qs.drop i) * wv vs * 1000000000 ^ i + wv us = U0 →
      F.natural_num_divide.L16 Af nf cf Au nu cu Av nv cv nv Aq nq cq ((i : Int) - 1) B w R := by
  obtain ⟨kk, rfl⟩ : ∃ kk, nv = kk + 2 := ⟨nv - 2, by omega⟩
  have hVlt : wv vs < 1000000000 ^ (kk + 2) := by have := wv_lt hsv; rwa [hvl] at this
  obtain ⟨hV, hvlow⟩ := words2 hvl hsv
  have ev1 : kk + 2 - 1 = kk + 1 := by omega
  have g1 := hsv.getD (kk + 1)
  have g2 := hsv.getD kk
  rw [ev1] at hhalf
  intro i
  induction i with
  | zero =>
    intro w us qs hi h hlt he
    have hul := h.u.len
    have hcap := h.u.cap
    simp only [List.drop_zero, Nat.pow_zero, Nat.mul_one] at hlt he
    have ediv : U0 / wv vs = wv qs := by rw [← he, Nat.mul_comm, Nat.mul_add_div (by omega), Nat.div_eq_of_lt hlt, Nat.add_zero]
    have emod : U0 % wv vs = wv us := by rw [← he, Nat.mul_comm, Nat.mul_add_mod, Nat.mod_eq_of_lt hlt]
    rw [ediv, emod] at hR
    have etake : wv (us.take (kk + 2)) = wv us := by
      have h1 := wv_split us (kk + 2) (by omega)
      have h2 : wv (us.drop (kk + 2)) = 0 := by
        apply Decidable.byContradiction
        intro h3
        have h4 : 1000000000 ^ (kk + 2) * 1 ≤ 1000000000 ^ (kk + 2) * wv (us.drop (kk + 2)) := Nat.mul_le_mul_left _ (by omega)
        omega
      rw [h2] at h1
      omega
    have hfw : IsN w Af nf cf f := by
      obtain ⟨ws, k1, k2⟩ := hf
      exact ⟨ws, h.sl k1 hsepf, k2⟩
    refine F.natural_num_divide.L16.step _ _ _ _ _ _ _ _ _ _ _ _ _ _ _ _ _ ⟨fun h => by omega, fun _ => ?_⟩
    refine Pure.mono (natural_small hfw) ?_
    rintro v w2 hb2 rfl
    refine ⟨_, _, rfl, ⟨by omega, by omega⟩, ?_⟩
    have e2 : (((kk + 2 : Nat) : Int)).toNat = kk + 2 := by omega
    rw [e2, if_pos (by omega)]
    refine Pure.mono (natural_trim ((h.u.sl.below hb2).take (kk + 2)) (by simp; omega) (by omega) (by omega) (h.su.take _)) ?_
    rintro v w3 hb3 ⟨rfl, m, rfl, hm, hm1, _⟩
    rw [etake] at hm
    refine ⟨_, _, _, rfl, Pure.mono (natural_by hm (by omega) hf0 hf1) ?_⟩
    rintro v w4 hb4 ⟨A1, n1, c1, A2, n2, c2, rfl, k1, k2⟩
    refine ⟨_, _, _, _, _, _, rfl, ?_⟩
    have hq4 : SlU w4 Aq qs := (h.q.sl.below hb2).below hb4
    refine Pure.mono (natural_trim hq4 h.q.len h.q.cap (by have := h.q.cap; omega) h.sq) ?_
    rintro v w5 hb5 ⟨rfl, m', rfl, hm', _⟩
    exact ⟨_, _, _, rfl, hR _ _ _ _ _ _ _ hm' k1⟩
  | succ j ih =>
    intro w us qs hi h hlt he
    have hul := h.u.len
    have hql := h.q.len
    have e0 : ((j + 1 : Nat) : Int) - 1 = (j : Int) := by omega
    rw [e0]
    obtain ⟨pre, hpre⟩ : ∃ pre, pre = us.take j := ⟨_, rfl⟩
    obtain ⟨D, hD⟩ : ∃ D, D = us.drop j := ⟨_, rfl⟩
    have hus : us = pre ++ D := by rw [hpre, hD, List.take_append_drop]
    have hj : pre.length = j := by rw [hpre]; simp; omega
    have hDl : D.length = nu - j := by rw [hD]; simp [hul]
    have hsD : Small D := by rw [hD]; exact fun x hx => h.su x (List.mem_of_mem_drop hx)
    have hdrop : us.drop (j + 1) = D.drop 1 := by rw [hD, List.drop_drop]
    rw [hdrop] at hlt
    have hT0 : wv D = D.getD 0 0 + 1000000000 * wv (D.drop 1) := by have := wv_drop D 0; simpa using this
    have gD0 := hsD.getD 0
    have hT : wv D < 1000000000 * wv vs := by omega
    have hT3 : wv D < 1000000000 ^ (kk + 2 + 1) := by rw [Nat.pow_succ]; omega
    obtain ⟨hTw, hlow⟩ := words3 (by omega) hsD hT3
    have gt0 := hsD.getD (kk + 2)
    have gt1 := hsD.getD (kk + 1)
    have gt2 := hsD.getD kk
    have hwu : wv us = wv pre + 1000000000 ^ j * wv D := by rw [hus, wv_append, hj]
    obtain ⟨q, hq⟩ : ∃ q, q = wv D / wv vs := ⟨_, rfl⟩
    have hVpos : 0 < wv vs := by omega
    have hqT : q * wv vs ≤ wv D := by rw [hq]; exact Nat.div_mul_le_self _ _
    have hqT2 : wv D < q * wv vs + wv vs := by
      have h1 := Nat.div_add_mod (wv D) (wv vs)
      have h2 := Nat.mod_lt (wv D) hVpos
      rw [← hq, Nat.mul_comm] at h1
      omega
    have hqb : q < 1000000000 := by
      rw [hq, Nat.div_lt_iff_lt_mul hVpos]
      exact hT
    rw [hus] at h
    -- the next round
    have next : ∀ w2 D3, Div w1 w2 B Au nu cu (pre ++ D3) Aq nq cq (qs.set j q) → wv D3 = wv D - q * wv vs →
        F.natural_num_divide.L16 Af nf cf Au nu cu Av (kk + 2) cv (kk + 2 : Nat) Aq nq cq ((j : Int) - 1) B w2 R := by
      intro w2 D3 h2 hw2
      refine ih w2 _ _ (by omega) h2 ?_ ?_
      · rw [← hj, List.drop_left, hw2]; omega
      · have eq1 : wv ((qs.set j q).drop j) = q + 1000000000 * wv (qs.drop (j + 1)) := by
          rw [wv_drop, List.drop_set, if_pos (by omega), List.getD_eq_getElem?_getD, List.getElem?_set_self (by omega)]
          rfl
        have e5 : wv D3 + q * wv vs = wv D := by omega
        rw [eq1, wv_append, hj]
        rw [hwu, ← e5, Nat.pow_succ] at he
        rw [← he]
        grind
    obtain ⟨top, htop⟩ : ∃ top, top = D.getD (kk + 2) 0 * 1000000000 + D.getD (kk + 1) 0 := ⟨_, rfl⟩
    rw [← htop] at hTw
    have etop : ((D.getD (kk + 2) 0 : Nat) : Int) * 1000000000 + ((D.getD (kk + 1) 0 : Nat) : Int) = (top : Int) := by omega
    obtain ⟨v1, hv1⟩ : ∃ v1, v1 = vs.getD (kk + 1) 0 := ⟨_, rfl⟩
    have ei1 : ((j : Int) + ((kk + 2 : Nat) : Int)).toNat = (kk + 2) + j := by omega
    have ei2 : ((j : Int) + ((kk + 2 : Nat) : Int) - 1).toNat = (kk + 1) + j := by omega
    have ei3 : (((kk + 2 : Nat) : Int) - 1).toNat = kk + 1 := by omega
    have hul2 := h.u.len
    refine F.natural_num_divide.L16.step _ _ _ _ _ _ _ _ _ _ _ _ _ _ _ _ _ ⟨fun _ => ⟨by simp only [inR]; omega, ?_⟩, fun h => by omega⟩
    refine h.u.sl.load hul2 (by omega) (by omega) ?_
    rw [ei1, app_getD hj]
    refine ⟨by simp only [inR]; omega, by simp only [inR]; omega, by simp only [inR]; omega, by simp only [inR]; omega, ?_⟩
    refine h.u.sl.load hul2 (by omega) (by omega) ?_
    rw [ei2, app_getD hj, etop]
    refine ⟨by simp only [inR]; omega, by simp only [inR]; omega, fun w2 e2 => ⟨by simp only [inR]; omega, ?_⟩⟩
    have h2 := h.ext e2
    refine (h2.sl hv hsep).load hvl (by omega) (by omega) ?_
    have hval : vs.getD (((kk + 2 : Nat) : Int) - 1).toNat 0 = v1 := by rw [ei3, hv1]
    rw [hval]
    rw [← hv1] at hhalf g1
    refine ⟨by simp only [inR]; omega, ⟨by omega, by omega, by simp only [inR]; omega⟩, by simp only [inR]; omega, ?_⟩
    refine (h2.sl hv hsep).load hvl (by omega) (by omega) ?_
    rw [hval]
    refine ⟨by simp only [inR]; omega, ⟨by omega, by omega⟩, fun w3 e3 => ?_⟩
    have h3 := h2.ext e3
    have ed : (top : Int) / (v1 : Int) = ((top / v1 : Nat) : Int) := by simp
    have em : (top : Int) % (v1 : Int) = ((top % v1 : Nat) : Int) := by simp
    rw [ed, em]
    have hgq : q ≤ top / v1 := by
      rw [Nat.le_div_iff_mul_le (by omega)]
      rw [hTw, hV, ← hv1] at hqT
      exact guess_ge gt2 hlow hqT
    have hgb : top / v1 ≤ 1000000001 := by
      refine guess_first (by omega) g2 hvlow (by rw [hv1] at hhalf; exact hhalf) (by rw [← hTw, ← hV]; exact hT) ?_
      rw [← hv1]
      exact Nat.div_mul_le_self _ _
    refine div_L20 hn hv hvl hsv hsep (by omega) hj (by omega) (top := top) (low := wv (D.take kk)) (M := 1000000000 ^ kk) (vl := wv (vs.take kk)) (q := q) (T := wv D) (V := wv vs) hlow hvlow (by rw [ev1, ← hv1]; omega) (by rw [ev1]; exact hV) hTw hqT hqb
      (fun w4 g h4 hg1 hg2 hg3 => ?_) (top / v1) (top % v1) w3 h3 (by rw [ev1, ← hv1]; have := Nat.div_add_mod top v1; rw [Nat.mul_comm] at this; exact this) hgq hgb (by have := Nat.mod_lt top (show 0 < v1 by omega); omega)
    refine div_L26 ha hn hv hvl hsv hsep hj (by omega) hg1 (fun w5 D5 c br h5 hl5 hc hbr hk5 he5 => ?_) (kk + 2) 0 w4 D 0 0 (by omega) (by omega) h4 rfl (by omega) (by omega) rfl (by simp [wv])
    have t5 := wv_split D5 (kk + 2) (by omega)
    have t0 := wv_top (k := kk + 2) (by omega) hsD hT3
    have hs5 : Small D5 := fun x hx => h5.su x (by simp [hx])
    have l5 := wv_lt (hs5.take (kk + 2))
    rw [List.length_take, Nat.min_eq_left (by omega)] at l5
    have td : wv (D.drop (kk + 2)) = D.getD (kk + 2) 0 := by
      have h1 := wv_split D (kk + 2) (by omega)
      have hp : 0 < 1000000000 ^ (kk + 2) := Nat.pow_pos (by omega)
      have h2 : 1000000000 ^ (kk + 2) * wv (D.drop (kk + 2)) = 1000000000 ^ (kk + 2) * D.getD (kk + 2) 0 := by omega
      exact Nat.eq_of_mul_eq_mul_left hp h2
    rw [hk5, td] at t5
    have hg5 := getD_of_drop hk5
    obtain ⟨P, hP⟩ : ∃ P, P = 1000000000 ^ (kk + 2) := ⟨_, rfl⟩
    rw [← hP] at t5 l5 he5 hVlt
    obtain ⟨z, hz⟩ : ∃ z, z = D.getD (kk + 2) 0 := ⟨_, rfl⟩
    rw [← hz] at t5 hg5 gt0 ⊢
    rw [Nat.mul_add] at he5
    refine ⟨fun hneg => ?_, fun hpos => ?_⟩
    · have hlt5 : wv D < g * wv vs := by
        have k1 : P * (z + 1) ≤ P * (c + br) := Nat.mul_le_mul_left _ (by omega)
        rw [Nat.mul_add, Nat.mul_add] at k1
        omega
      have hg0 : 1 ≤ g := by
        apply Decidable.byContradiction
        intro k
        have : g = 0 := by omega
        subst this
        omega
      have hqg : q + 1 = g := by
        have k1 : q < g := by
          apply Decidable.byContradiction
          intro k
          have := Nat.mul_le_mul_right (wv vs) (show g ≤ q by omega)
          omega
        apply Decidable.byContradiction
        intro k
        have := Nat.mul_le_mul_right (wv vs) (show q + 2 ≤ g by omega)
        rw [Nat.add_mul] at this
        omega
      refine ⟨hg0, ?_⟩
      have eg : (g : Int) - 1 = (q : Int) := by omega
      rw [eg]
      refine div_L42 ha hn hv hvl hsv hsep hj (by omega) ⟨by omega, hneg⟩ (fun w6 D6 up h6 hl6 hup hk6 he6 => ?_) (kk + 2) 0 w5 D5 0 (by omega) (by omega) h5 rfl (by omega) rfl (by simp [wv])
      refine div_J49 ha hn h6 hj (by omega) hqb (by omega) (by omega) fun w7 h7 => ?_
      have hg6 := getD_of_drop hk6
      have t6 := wv_split D6 (kk + 2) (by omega)
      have hs6 : Small D6 := fun x hx => h6.su x (by simp [hx])
      have l6 := wv_lt (hs6.take (kk + 2))
      rw [List.length_take, Nat.min_eq_left (by omega), ← hP] at l6
      rw [hk6, hk5, td, ← hP, ← hz] at t6
      rw [← hP] at he6
      have hgV : g * wv vs = q * wv vs + wv vs := by rw [← hqg, Nat.add_mul, Nat.one_mul]
      -- low + P * (z + up) = (T - qV) + P * (c + br)
      have key : wv (D6.take (kk + 2)) + P * (z + up) = (wv D - q * wv vs) + P * (c + br) := by rw [Nat.mul_add, Nat.mul_add]; omega
      have hzz : z + up = c + br := by
        rcases Nat.lt_trichotomy (z + up) (c + br) with k | k | k
        · have := Nat.mul_le_mul_left P (show z + up + 1 ≤ c + br by omega)
          rw [Nat.mul_add] at this
          omega
        · exact k
        · have := Nat.mul_le_mul_left P (show c + br + 1 ≤ z + up by omega)
          rw [Nat.mul_add] at this
          omega
      have e7 : ((z : Int) - (c : Int) - (br : Int) + (up : Int)).toNat = 0 := by omega
      rw [e7] at h7
      refine next w7 _ h7 ?_
      have hset := wv_set D6 (kk + 2) 0 (by omega)
      rw [hg6, hg5, ← hP] at hset
      rw [hzz] at key
      omega
    · have hle5 : g * wv vs ≤ wv D := by
        have k1 : P * (c + br) ≤ P * z := Nat.mul_le_mul_left _ (by omega)
        rw [Nat.mul_add] at k1
        omega
      have hqg : q = g := by
        rcases Nat.lt_or_ge q g with k | k
        · have := Nat.mul_le_mul_right (wv vs) (show q + 1 ≤ g by omega)
          rw [Nat.add_mul] at this
          omega
        · omega
      subst hqg
      refine div_J49 ha hn h5 hj (by omega) hqb (by omega) (by omega) fun w7 h7 => next w7 _ h7 ?_
      have hset := wv_set D5 (kk + 2) (((z : Int) - (c : Int) - (br : Int)).toNat) (by omega)
      rw [hg5, ← hP] at hset
      have e8 : P * (((z : Int) - (c : Int) - (br : Int)).toNat) + (P * c + P * br) = P * z := by
        rw [← Nat.mul_add, ← Nat.mul_add]
        congr 1
        omega
      omega
end
end Go.Proofs.YtdoailkigecmkaaGreatDoor.B
