/- Part 3 of the proofs that: What the statements SensorChecks, SensorTakes and SensorVotes rest on. -/
import Derived.Test.YtdoailkigecmkaaGreatDoorV2
import Derived.Test.YtdoailkigecmkaaGreatDoorProg
set_option linter.unusedVariables false
set_option linter.unusedSimpArgs false
namespace Go.Proofs.YtdoailkigecmkaaGreatDoor.B
open Go Go.RowKit Go.Proofs Go.Proofs.YtdoailkigecmkaaGreatDoor.Vc

def elOk (P : Program) (t e : TypeId) (size bytes : Nat) : Bool := match P.underlying t, P.info? e with
  | some (.slice e'), some i => match i.zero with
    | some z => Nat.beq e' e && Nat.beq i.size size && Nat.beq i.bytes bytes && Nat.beq z.cells.size size && Nat.blt 0 size && Nat.ble size 1024
    | none => false
  | _, _ => false
theorem El.of {P : Program} {t e size bytes : Nat} (h : elOk P t e size bytes = true) : El P t e size bytes := by
  unfold elOk at h
  split at h
  · rename_i e' i h1 h2
    split at h
    · rename_i z hz
      simp only [Bool.and_eq_true, Nat.beq_eq, Nat.ble_eq, Nat.blt_eq] at h
      obtain ⟨⟨⟨⟨⟨rfl, h3⟩, h4⟩, h5⟩, h6⟩, h7⟩ := h
      exact ⟨h1, ⟨i, z, h2, hz, h3, h4, h5⟩, h6, h7⟩
    · cases h
  · cases h
theorem el_num : El Tryz.prog 176 106 1 4 := El.of (by kernel_rfl)

@[irreducible] def KLim : Nat := 100000
theorem klim : KLim = 100000 := by unfold KLim; rfl
@[irreducible] def Lim : Nat := 1000000000 ^ KLim

theorem IsN.len {w : World} {A : Option Addr} {n c x : Nat} (h : IsN w A n c x) (hx : x < Lim) : n ≤ 100000 := by
  obtain ⟨ws, _, hl, _, _, _, hn, rfl⟩ := h
  unfold Lim at hx
  by_cases h0 : ws = []
  · subst h0; simp at hl; omega
  · have h1 := wv_pos hn h0
    have h2 := (Nat.pow_lt_pow_iff_right (a := 1000000000) (by omega)).1 (Nat.lt_of_le_of_lt h1 hx)
    have := klim
    omega

def u32s (ws : List Nat) : List Value := ws.map fun (x : Nat) => .int .u32 (x : Int)
def OwnU (w : World) (B : Nat) (A : Option Addr) (n c : Nat) (ws : List Nat) : Prop := w.ownsRow B 106 1 (.slice A n c) n (u32s ws)
theorem OwnU.len {w : World} {B : Nat} {A : Option Addr} {n c : Nat} {ws : List Nat} (h : OwnU w B A n c ws) : ws.length = n := by have := h.1; simpa [u32s] using this
theorem OwnU.sl {w : World} {B : Nat} {A : Option Addr} {n c : Nat} {ws : List Nat} (h : OwnU w B A n c ws) : SlU w A ws := by
  have hl := h.len
  rcases h.2 with ⟨h1, h2⟩ | ⟨g, cap, cur, h1, hb, hg, hc, hm, hs, ht⟩
  · exact .inl (List.eq_nil_of_length_eq_zero (by omega))
  · cases h1
    refine .inr ⟨g, 0, cur, _, rfl, hg, fun i hi => ?_⟩
    have : (u32s ws)[i]? = some (.int .u32 (ws[i] : Nat)) := by simp [u32s, hi]
    rw [← ht, List.getElem?_take] at this
    split at this
    · simpa using this
    · cases this
theorem OwnU.cap {w : World} {B : Nat} {A : Option Addr} {n c : Nat} {ws : List Nat} (h : OwnU w B A n c ws) : n ≤ c := by
  obtain ⟨_, _, h1, h2⟩ := ownsRow_form h; cases h1; exact h2

theorem u32s_append (a b : List Nat) : u32s (a ++ b) = u32s a ++ u32s b := by simp [u32s]

theorem app_u32 {t ty : Nat} (el : El Tryz.prog t 106 1 4) {B0 B : Nat} (hBB : B0 ≤ B) {tys : List Nat} {w : World} {A : Option Addr} {n c : Nat} {ws : List Nat} (ho : OwnU w B A n c ws) (hn : n ≤ 1000000) (hB : B ≤ w.heap.size) (ht : 106 ∉ tys)
    {x : Int} (hx : 0 ≤ x) {K : Option Addr → Nat → Nat → World → Prop}
    (h : ∀ A' c' w', OwnU w' B A' (n + 1) c' (ws ++ [x.toNat]) → w.grownBy w' (Value.ownBlock (.slice A n c)) → Below B0 w w' → K A' (n + 1) c' w') :
    RunOk Tryz.prog (Instr.buildSlice t 1 #[(0, .int .u32 x)]) B0 tys w fun r w1 => ∃ A2 m2 c2, r = .slice A2 m2 c2 ∧
      RunOk Tryz.prog (Builtin.append_ #[t, t] ty #[.slice A n c, .slice A2 m2 c2]) B0 tys w1 fun r w2 => ∃ A n c, r = .slice A n c ∧ K A n c w2 :=
  runOk_append1 el hBB ho rfl (by intro u hu; simp [Value.cells] at hu; subst hu; rfl) hB (by omega) ht fun A' c' w' h1 h2 h3 => h A' c' w' (by
    unfold OwnU
    rw [u32s_append]
    have e : (x.toNat : Int) = x := by omega
    simp only [u32s, List.map_cons, List.map_nil, e]
    exact h1) h2 h3

theorem wv_take_succ (l : List Nat) (i : Nat) : wv (l.take (i + 1)) = wv (l.take i) + 1000000000 ^ i * l.getD i 0 := by
  by_cases h : i < l.length
  · rw [List.take_add_one, wv_append, List.length_take, Nat.min_eq_left (by omega)]
    simp [h, wv]
  · rw [List.take_of_length_le (by omega), List.take_of_length_le (by omega)]
    simp [List.getD_eq_getElem?_getD, List.getElem?_eq_none (by omega : l.length ≤ i)]

theorem tdivmod (s : Int) : (0 ≤ s → Int.tmod s 1000000000 = s % 1000000000 ∧ Int.tdiv s 1000000000 = s / 1000000000) ∧
    (s < 0 → Int.tmod s 1000000000 = - ((-s) % 1000000000) ∧ Int.tdiv s 1000000000 = - ((-s) / 1000000000)) := by
  refine ⟨fun h => ⟨Int.tmod_eq_emod_of_nonneg h, Int.tdiv_eq_ediv_of_nonneg h⟩, fun h => ?_⟩
  have e : s = - (-s) := by omega
  constructor
  · conv => lhs; rw [e]
    rw [Int.neg_tmod, Int.tmod_eq_emod_of_nonneg (by omega)]
  · conv => lhs; rw [e]
    rw [Int.neg_tdiv, Int.tdiv_eq_ediv_of_nonneg (by omega)]
theorem wrap64 {n : Int} (h : inR .i64 n) : IntKind.wrap .i64 n = n := by
  rw [IntKind.wrap_i64]; simp only [inR] at h; omega

section
variable {B : Nat} {A0 A1 : Option Addr} {n0 c0 n1 c1 : Nat} {sg : Int} {R : Value → World → Prop} {mx : Int}

theorem merge_J10 {w : World} {A : Option Addr} {n c : Nat} {ws : List Nat} {s i : Int} (ho : OwnU w B A n c ws) (hn : n ≤ 1000000) (hB : B ≤ w.heap.size) (hs : -1000000000 ≤ s ∧ s ≤ 1999999999) (hi : 0 ≤ i ∧ i ≤ 1000000)
    (h : ∀ A' c' w', OwnU w' B A' (n + 1) c' (ws ++ [(s % 1000000000).toNat]) → Below B w w' → F.natural_merge_uint32_natural_num.L4 A0 n0 c0 A1 n1 c1 sg A' (n + 1) c' (s / 1000000000) mx (i + 1) B w' R) :
    F.natural_merge_uint32_natural_num.J10 A0 n0 c0 A1 n1 c1 sg A n c s mx i B w R := by
  obtain ⟨t1, t2⟩ := tdivmod s
  have w1 : IntKind.wrap .i64 (Int.tdiv s 1000000000) = Int.tdiv s 1000000000 := wrap64 (by simp only [inR]; omega)
  refine F.natural_merge_uint32_natural_num.J10.step _ _ _ _ _ _ _ _ _ _ _ _ _ _ _ _ ⟨by omega, by omega, fun h0 => ⟨by simp only [inR]; omega, by rw [w1]; simp only [inR]; omega, by simp only [inR]; omega, ?_⟩, fun h0 => ⟨by simp only [inR]; omega, ?_⟩⟩
  · refine app_u32 el_num (Nat.le_refl _) ho hn hB (by simp) (by omega) fun A' c' w' h1 _ h2 => ⟨by simp only [inR]; omega, ?_⟩
    rw [w1]
    have e1 : Int.tmod s 1000000000 + 1000000000 = s % 1000000000 := by omega
    have e2 : Int.tdiv s 1000000000 - 1 = s / 1000000000 := by omega
    rw [e1] at h1
    rw [e2]
    exact h A' c' w' h1 h2
  · refine app_u32 el_num (Nat.le_refl _) ho hn hB (by simp) (by omega) fun A' c' w' h1 _ h2 => ⟨by simp only [inR]; omega, ?_⟩
    rw [w1]
    have e1 : Int.tmod s 1000000000 = s % 1000000000 := by omega
    have e2 : Int.tdiv s 1000000000 = s / 1000000000 := by omega
    rw [e1] at h1
    rw [e2]
    exact h A' c' w' h1 h2

theorem SlU.getD {w : World} {A : Option Addr} {ws : List Nat} (h : SlU w A ws) (hs : Small ws) {j : Int} (h0 : 0 ≤ j) (h1 : j < ws.length) :
    ∃ a, A = some a ∧ ∃ x : Nat, ws.getD j.toNat 0 = x ∧ x < 1000000000 ∧ CellsAt w (a.add (j.toNat * 1)) [.int .u32 (x : Int)] := by
  obtain ⟨a, hA, x, hx, hc⟩ := h.cell h0 h1
  exact ⟨a, hA, x, by rw [List.getD_eq_getElem?_getD, hx]; rfl, hs x (List.mem_of_getElem? hx), hc⟩

theorem Small.getD {l : List Nat} (h : Small l) (i : Nat) : l.getD i 0 < 1000000000 := by
  rw [List.getD_eq_getElem?_getD]
  cases e : l[i]? with
  | none => simp
  | some x => exact h x (List.mem_of_getElem? e)

theorem merge_loop {w0 : World} {a b : List Nat} (ha : SlU w0 A0 a) (hal : a.length = n0) (hsa : Small a) (hb : SlU w0 A1 b) (hbl : b.length = n1) (hsb : Small b)
    (hsg : sg = 1 ∨ sg = -1) (hpos : 0 ≤ (wv a : Int) + sg * wv b) (hmx : mx = (max n0 n1 : Nat)) (h0 : n0 ≤ 500000) (h1 : n1 ≤ 500000)
    (hR : ∀ A n c w' ws, OwnU w' w0.heap.size A n c ws → Small ws → (wv ws : Int) = wv a + sg * wv b → n ≤ mx + 1 ∧ (n ≤ mx ∨ Norm ws) → Below w0.heap.size w0 w' → R (.slice A n c) w') :
    ∀ (d : Nat) (n : Nat) (A : Option Addr) (c : Nat) (w : World) (ws : List Nat) (s : Int), mx - n = d → n ≤ mx → OwnU w w0.heap.size A n c ws → Small ws → Below w0.heap.size w0 w → -1 ≤ s ∧ s ≤ 1 →
      (wv ws : Int) + (1000000000 ^ n : Nat) * s = wv (a.take n) + sg * wv (b.take n) →
      F.natural_merge_uint32_natural_num.L4 A0 n0 c0 A1 n1 c1 sg A n c s mx n w0.heap.size w R := by
  intro d
  induction d with
  | zero =>
    intro n A c w ws s hd hn ho hs hw hsr inv
    have hlen := ho.len
    have ea : a.take n = a := List.take_of_length_le (by omega)
    have eb : b.take n = b := List.take_of_length_le (by omega)
    rw [ea, eb] at inv
    have hlt := wv_lt hs
    rw [hlen] at hlt
    refine F.natural_merge_uint32_natural_num.L4.step _ _ _ _ _ _ _ _ _ _ _ _ _ _ _ _ ⟨fun h => by omega, fun h => ⟨fun h2 => ⟨by simp only [inR]; omega, ?_⟩, fun h2 => ?_⟩⟩
    · have hs1 : s = 1 := by omega
      subst hs1
      refine app_u32 el_num (Nat.le_refl _) ho (by omega) hw.size (by simp) (by omega) fun A' c' w' k1 _ k2 => hR A' _ c' w' _ k1 (hs.append (Small.cons (by decide) Small.nil)) ?_ ⟨by omega, .inr (by simp [Norm])⟩ (hw.trans k2)
      rw [wv_append, hlen, ← inv]
      simp [wv]
    · refine hR A n c w ws ho hs ?_ ⟨by omega, .inl (by omega)⟩ hw
      have : s = 0 := by
        rcases (by omega : s = 0 ∨ s = -1) with h | h
        · exact h
        · subst h; omega
      subst this
      simpa using inv
  | succ d ih =>
    intro n A c w ws s hd hn ho hs hw hsr inv
    have hlen := ho.len
    have ga := hsa.getD n
    have gb := hsb.getD n
    have j10 : F.natural_merge_uint32_natural_num.J10 A0 n0 c0 A1 n1 c1 sg A n c (s + (a.getD n 0 : Nat) + sg * (b.getD n 0 : Nat)) mx n w0.heap.size w R := by
      refine merge_J10 ho (by omega) hw.size (by rcases hsg with h | h <;> subst h <;> omega) (by omega) fun A' c' w' k1 k2 => ?_
      have e : ((n : Int) + 1) = ((n + 1 : Nat) : Int) := by omega
      rw [e]
      refine ih (n + 1) A' c' w' _ _ (by omega) (by omega) k1 (hs.append (Small.cons (by omega) Small.nil)) (hw.trans k2) (by rcases hsg with h | h <;> subst h <;> omega) ?_
      rw [wv_append, wv_take_succ, wv_take_succ, hlen]
      simp only [wv, Nat.mul_zero, Nat.add_zero, Int.natCast_add, Int.natCast_mul, Nat.pow_succ]
      obtain ⟨t, ht⟩ : ∃ t, t = s + (a.getD n 0 : Nat) + sg * (b.getD n 0 : Nat) := ⟨_, rfl⟩
      rw [← ht]
      have hx : ((t % 1000000000).toNat : Int) = t - 1000000000 * (t / 1000000000) := by omega
      rw [hx]
      generalize ((1000000000 ^ n : Nat) : Int) = P at inv ⊢
      grind
    refine F.natural_merge_uint32_natural_num.L4.step _ _ _ _ _ _ _ _ _ _ _ _ _ _ _ _ ⟨fun h => ?_, fun h => by omega⟩
    have j8 : F.natural_merge_uint32_natural_num.J8 A0 n0 c0 A1 n1 c1 sg A n c (s + (a.getD n 0 : Nat)) n mx n w0.heap.size w R := by
      refine F.natural_merge_uint32_natural_num.J8.step _ _ _ _ _ _ _ _ _ _ _ _ _ _ _ _ _ ⟨fun h => ?_, fun h => ?_⟩
      · obtain ⟨p, hp, x, hx, hx2, hc⟩ := (hb.below hw).getD hsb (j := (n : Int)) (by omega) (by omega)
        rw [Int.toNat_natCast] at hx
        rw [hx] at j10 gb
        exact ⟨by omega, p, hp, _, hc, by simp only [inR]; omega, by simp only [inR]; rcases hsg with h | h <;> subst h <;> omega, by simp only [inR]; rcases hsg with h | h <;> subst h <;> omega, j10⟩
      · have e : b.getD n 0 = 0 := by rw [List.getD_eq_getElem?_getD, List.getElem?_eq_none (by omega)]; rfl
        rw [e] at j10
        simpa using j10
    refine ⟨fun h => ?_, fun h => ?_⟩
    · obtain ⟨p, hp, x, hx, hx2, hc⟩ := (ha.below hw).getD hsa (j := (n : Int)) (by omega) (by omega)
      rw [Int.toNat_natCast] at hx
      rw [hx] at j8 ga
      exact ⟨by omega, p, hp, _, hc, by simp only [inR]; omega, by simp only [inR]; omega, j8⟩
    · have e : a.getD n 0 = 0 := by rw [List.getD_eq_getElem?_getD, List.getElem?_eq_none (by omega)]; rfl
      rw [e] at j8
      simpa using j8
end

theorem OwnU.norm {w : World} {B : Nat} {A : Option Addr} {n c : Nat} {ws : List Nat} (h : OwnU w B A n c ws) (hs : Small ws) (hn : Norm ws) (hl : n < 2147483648) : IsN w A n c (wv ws) := ⟨ws, h.sl, h.len, h.cap, hl, hs, hn, rfl⟩

theorem norm_of_ge {l : List Nat} (hs : Small l) (h : l = [] ∨ 1000000000 ^ (l.length - 1) ≤ wv l) : Norm l := by
  rcases h with h | h
  · subst h; simp [Norm]
  · intro k
    have hn : l ≠ [] := fun e => by subst e; simp at k
    rw [List.getLast?_eq_some_getLast hn] at k
    have e : l = l.dropLast ++ [l.getLast hn] := (List.dropLast_concat_getLast hn).symm
    have hk : l.getLast hn = 0 := by simpa using k
    rw [e, wv_append, hk] at h
    simp only [wv, Nat.mul_zero, Nat.add_zero] at h
    have h2 := wv_lt (l := l.dropLast) fun x hx => hs x (List.dropLast_subset _ hx)
    simp at h h2
    omega

theorem natural_merge {w : World} {A0 A1 : Option Addr} {n0 c0 n1 c1 : Nat} {a b : List Nat} {sg : Int} (ha : SlU w A0 a) (hal : a.length = n0) (hsa : Small a) (hb : SlU w A1 b) (hbl : b.length = n1) (hsb : Small b)
    (hsg : sg = 1 ∨ sg = -1) (hpos : 0 ≤ (wv a : Int) + sg * wv b) (h0 : n0 ≤ 500000) (h1 : n1 ≤ 500000) :
    Pure Tryz.prog 224 #[.slice A0 n0 c0, .slice A1 n1 c1, .int .i64 sg] w fun v w' => ∃ A n c ws, v = .slice A n c ∧ OwnU w' w.heap.size A n c ws ∧ Small ws ∧ (wv ws : Int) = wv a + sg * wv b ∧ n ≤ max n0 n1 + 1 ∧ (n ≤ max n0 n1 ∨ Norm ws) := by
  refine F.natural_merge_uint32_natural_num.vc _ _ _ _ _ _ _ _ _ ⟨by simp only [inR]; omega, ?_⟩
  refine runOk_make0 el_num (by omega) (by omega) (Nat.le_refl _) fun A c w2 k1 _ k2 => ?_
  have em : (if (n1 : Int) > (n0 : Int) then (n1 : Int) else (n0 : Int)) = ((max n0 n1 : Nat) : Int) := by split <;> omega
  rw [em]
  refine merge_loop (mx := ((max n0 n1 : Nat) : Int)) ha hal hsa hb hbl hsb hsg hpos rfl h0 h1 (fun A n c w' ws k3 k4 k5 k6 k7 => ⟨A, n, c, ws, rfl, k3, k4, k5, by omega, k6.2.imp (fun h => by omega) id⟩) (max n0 n1) 0 A c w2 [] 0 (by omega) (by omega) k1 Small.nil k2 (by omega) (by simp [wv])

theorem natural_plus {w : World} {A0 A1 : Option Addr} {n0 c0 n1 c1 x y : Nat} (ha : IsN w A0 n0 c0 x) (hb : IsN w A1 n1 c1 y) (hx : x < Lim) (hy : y < Lim) :
    Pure Tryz.prog 205 #[.slice A0 n0 c0, .slice A1 n1 c1] w fun v w' => ∃ A n c, v = .slice A n c ∧ IsN w' A n c (x + y) := by
  have l0 := ha.len hx
  have l1 := hb.len hy
  obtain ⟨a, a1, a2, a3, a4, a5, a6, rfl⟩ := ha
  obtain ⟨b, b1, b2, b3, b4, b5, b6, rfl⟩ := hb
  refine F.natural_num_plus.vc _ _ _ _ _ _ _ _ (Pure.mono (natural_merge a1 a2 a5 b1 b2 b5 (.inl rfl) (by omega) (by omega) (by omega)) ?_)
  rintro v w' hb ⟨A, n, c, ws, rfl, ho, hs, hv, hn, hnn⟩
  refine ⟨A, n, c, rfl, A, n, c, rfl, ?_⟩
  have e : wv ws = wv a + wv b := by omega
  rw [← e]
  refine ho.norm hs (hnn.elim (fun hn2 => norm_of_ge hs ?_) id) (by omega)
  by_cases hw : ws = []
  · exact .inl hw
  · right
    have hl := ho.len
    have hp : 0 < ws.length := List.length_pos_iff.2 hw
    rw [e]
    by_cases hc : n1 ≤ n0
    · have h1 := wv_pos a6 (fun k => by subst k; simp at a2; omega)
      exact Nat.le_trans (Nat.pow_le_pow_right (by omega) (by omega)) (Nat.le_trans h1 (by omega))
    · have h1 := wv_pos b6 (fun k => by subst k; simp at b2; omega)
      exact Nat.le_trans (Nat.pow_le_pow_right (by omega) (by omega)) (Nat.le_trans h1 (by omega))

theorem natural_minus {w : World} {A0 A1 : Option Addr} {n0 c0 n1 c1 x y : Nat} (ha : IsN w A0 n0 c0 x) (hb : IsN w A1 n1 c1 y) (hx : x < Lim) (hy : y ≤ x) :
    Pure Tryz.prog 206 #[.slice A0 n0 c0, .slice A1 n1 c1] w fun v w' => ∃ A n c, v = .slice A n c ∧ IsN w' A n c (x - y) := by
  have l0 := ha.len hx
  have l1 := hb.len (Nat.lt_of_le_of_lt hy hx)
  obtain ⟨a, a1, a2, a3, a4, a5, a6, rfl⟩ := ha
  obtain ⟨b, b1, b2, b3, b4, b5, b6, rfl⟩ := hb
  refine F.natural_num_minus.vc _ _ _ _ _ _ _ _ (Pure.mono (natural_merge a1 a2 a5 b1 b2 b5 (.inr rfl) (by omega) (by omega) (by omega)) ?_)
  rintro v w' hb ⟨A, n, c, ws, rfl, ho, hs, hv, hn, hnn⟩
  refine ⟨A, n, c, rfl, Pure.mono (natural_trim ho.sl ho.len ho.cap (by omega) hs) ?_⟩
  rintro v w2 hb2 ⟨rfl, m, rfl, h, _⟩
  have e : wv a - wv b = wv ws := by omega
  rw [e]
  exact ⟨A, m, c, rfl, A, m, c, rfl, h⟩
end Go.Proofs.YtdoailkigecmkaaGreatDoor.B

set_option maxRecDepth 100000
namespace Go.Proofs.YtdoailkigecmkaaGreatDoor.F
open Go Go.RowKit Go.Proofs Go.Proofs.YtdoailkigecmkaaGreatDoor.Vc
noncomputable def strings_Cut.cx (w : World) (B : Nat) (R : Value → World → Prop) : Cx := ⟨Tryz.prog, 112, 13, Tryz.f112.results.toList, [], [], w, B, R⟩
theorem strings_Cut.vc (sp0 : ByteArray) (sp1 : ByteArray) (w : World) (R : Value → World → Prop)
    (h : (Pure Tryz.prog 129 #[(.string sp0), (.string sp1)] w fun r4 w5 => ∃ (s1 : ByteArray) (s2 : ByteArray) (b3 : Bool), r4 = (.tuple #[(.string s1), (.string s2), (.bool b3)]) ∧ (R (.tuple #[(.string s1), (.string s2), (.bool b3)]) w5))) :
    Pure Tryz.prog 112 #[(.string sp0), (.string sp1)] w R :=
  pure_of_run (strings_Cut.cx w w.heap.size R) 100000 follows Tryz.func112 rfl rfl rfl rfl rfl rfl rfl (Eq.mp (by kernel_rfl) h)

noncomputable def strconv_Itoa.cx (w : World) (B : Nat) (R : Value → World → Prop) : Cx := ⟨Tryz.prog, 117, 5, Tryz.f117.results.toList, [], [], w, B, R⟩
theorem strconv_Itoa.vc (ip0 : Int) (w : World) (R : Value → World → Prop)
    (h : (Pure Tryz.prog 135 #[(.int .i64 ip0)] w fun r2 w3 => ∃ (s1 : ByteArray), r2 = (.string s1) ∧ (R (.string s1) w3))) :
    Pure Tryz.prog 117 #[(.int .i64 ip0)] w R :=
  pure_of_run (strconv_Itoa.cx w w.heap.size R) 100000 follows Tryz.func117 rfl rfl rfl rfl rfl rfl rfl (Eq.mp (by kernel_rfl) h)

noncomputable def strings_CutPrefix.cx (w : World) (B : Nat) (R : Value → World → Prop) : Cx := ⟨Tryz.prog, 145, 11, Tryz.f145.results.toList, [], [], w, B, R⟩
theorem strings_CutPrefix.vc (sp0 : ByteArray) (sp1 : ByteArray) (w : World) (R : Value → World → Prop)
    (h : (Pure Tryz.prog 163 #[(.string sp0), (.string sp1)] w fun r3 w4 => ∃ (s1 : ByteArray) (b2 : Bool), r3 = (.tuple #[(.string s1), (.bool b2)]) ∧ (R (.tuple #[(.string s1), (.bool b2)]) w4))) :
    Pure Tryz.prog 145 #[(.string sp0), (.string sp1)] w R :=
  pure_of_run (strings_CutPrefix.cx w w.heap.size R) 100000 follows Tryz.func145 rfl rfl rfl rfl rfl rfl rfl (Eq.mp (by kernel_rfl) h)

noncomputable def cmp_Compare_int.cx (w : World) (B : Nat) (R : Value → World → Prop) : Cx := ⟨Tryz.prog, 216, 20, Tryz.f216.results.toList, [], [], w, B, R⟩
theorem cmp_Compare_int.vc (ip0 : Int) (ip1 : Int) (w : World) (R : Value → World → Prop)
    (h : (Pure Tryz.prog 235 #[(.int .i64 ip0)] w fun r2 w3 => ∃ (b1 : Bool), r2 = (.bool b1) ∧ (Pure Tryz.prog 235 #[(.int .i64 ip1)] w3 fun r5 w6 => ∃ (b4 : Bool), r5 = (.bool b4) ∧ ((b1 = true → ((b4 = true → (R (.int .i64 (0 : Int)) w6)) ∧ (b4 = false → (R (.int .i64 (-1 : Int)) w6)))) ∧ (b1 = false → ((b4 = true → (R (.int .i64 (1 : Int)) w6)) ∧ (b4 = false → ((((ip0 : Int) < ip1) → (R (.int .i64 (-1 : Int)) w6)) ∧ (¬ ((ip0 : Int) < ip1) → ((((ip0 : Int) > ip1) → (R (.int .i64 (1 : Int)) w6)) ∧ (¬ ((ip0 : Int) > ip1) → (R (.int .i64 (0 : Int)) w6)))))))))))) :
    Pure Tryz.prog 216 #[(.int .i64 ip0), (.int .i64 ip1)] w R :=
  pure_of_run (cmp_Compare_int.cx w w.heap.size R) 100000 follows Tryz.func216 rfl rfl rfl rfl rfl rfl rfl (Eq.mp (by kernel_rfl) h)

noncomputable def cmp_Compare_uint32.cx (w : World) (B : Nat) (R : Value → World → Prop) : Cx := ⟨Tryz.prog, 217, 20, Tryz.f217.results.toList, [], [], w, B, R⟩
theorem cmp_Compare_uint32.vc (ip0 : Int) (ip1 : Int) (w : World) (R : Value → World → Prop)
    (h : (Pure Tryz.prog 236 #[(.int .u32 ip0)] w fun r2 w3 => ∃ (b1 : Bool), r2 = (.bool b1) ∧ (Pure Tryz.prog 236 #[(.int .u32 ip1)] w3 fun r5 w6 => ∃ (b4 : Bool), r5 = (.bool b4) ∧ ((b1 = true → ((b4 = true → (R (.int .i64 (0 : Int)) w6)) ∧ (b4 = false → (R (.int .i64 (-1 : Int)) w6)))) ∧ (b1 = false → ((b4 = true → (R (.int .i64 (1 : Int)) w6)) ∧ (b4 = false → ((((ip0 : Int) < ip1) → (R (.int .i64 (-1 : Int)) w6)) ∧ (¬ ((ip0 : Int) < ip1) → ((((ip0 : Int) > ip1) → (R (.int .i64 (1 : Int)) w6)) ∧ (¬ ((ip0 : Int) > ip1) → (R (.int .i64 (0 : Int)) w6)))))))))))) :
    Pure Tryz.prog 217 #[(.int .u32 ip0), (.int .u32 ip1)] w R :=
  pure_of_run (cmp_Compare_uint32.cx w w.heap.size R) 100000 follows Tryz.func217 rfl rfl rfl rfl rfl rfl rfl (Eq.mp (by kernel_rfl) h)

noncomputable def cmp_isNaN_int.cx (w : World) (B : Nat) (R : Value → World → Prop) : Cx := ⟨Tryz.prog, 235, 6, Tryz.f235.results.toList, [], [], w, B, R⟩
theorem cmp_isNaN_int.vc (ip0 : Int) (w : World) (R : Value → World → Prop)
    (h : (R (.bool (decide ((ip0 : Int) ≠ ip0))) w)) :
    Pure Tryz.prog 235 #[(.int .i64 ip0)] w R :=
  pure_of_run (cmp_isNaN_int.cx w w.heap.size R) 100000 follows Tryz.func235 rfl rfl rfl rfl rfl rfl rfl (Eq.mp (by kernel_rfl) h)

noncomputable def cmp_isNaN_uint32.cx (w : World) (B : Nat) (R : Value → World → Prop) : Cx := ⟨Tryz.prog, 236, 6, Tryz.f236.results.toList, [], [], w, B, R⟩
theorem cmp_isNaN_uint32.vc (ip0 : Int) (w : World) (R : Value → World → Prop)
    (h : (R (.bool (decide ((ip0 : Int) ≠ ip0))) w)) :
    Pure Tryz.prog 236 #[(.int .u32 ip0)] w R :=
  pure_of_run (cmp_isNaN_uint32.cx w w.heap.size R) 100000 follows Tryz.func236 rfl rfl rfl rfl rfl rfl rfl (Eq.mp (by kernel_rfl) h)

end Go.Proofs.YtdoailkigecmkaaGreatDoor.F

namespace Go.Proofs.YtdoailkigecmkaaGreatDoor.B
open Go Go.RowKit Go.Proofs Go.Proofs.YtdoailkigecmkaaGreatDoor.Vc

theorem SlU.load {w : World} {A : Option Addr} {ws : List Nat} {n : Nat} (h : SlU w A ws) (hl : ws.length = n) {j : Int} (h0 : 0 ≤ j) (h1 : j < n) {K : Int → Prop} (k : K (ws.getD j.toNat 0 : Nat)) :
    (0 ≤ j ∧ j < n) ∧ ∃ a, A = some a ∧ ∃ i : Int, CellsAt w (a.add (j.toNat * 1)) [.int .u32 i] ∧ K i := by
  obtain ⟨a, hA, x, hx, hc⟩ := h.cell h0 (by omega)
  refine ⟨⟨h0, h1⟩, a, hA, _, hc, ?_⟩
  rw [List.getD_eq_getElem?_getD, hx] at k
  exact k

theorem OwnU.store {w : World} {B : Nat} {A : Option Addr} {n c : Nat} {ws : List Nat} (ho : OwnU w B A n c ws) {j x : Int} (h0 : 0 ≤ j) (h1 : j < n) (hx : 0 ≤ x) {bx : List Box} (hb : hasType 106 bx = false) {K : World → Prop}
    (h : ∀ w1, OwnU w1 B A n c (ws.set j.toNat x.toNat) → Below B w w1 → (∀ k, some k ≠ Value.ownBlock (.slice A n c) → w1.heap[k]? = w.heap[k]?) → K w1) :
    (0 ≤ j ∧ j < n) ∧ ∃ a, A = some a ∧ ∃ (cs : List Value) (t : Nat), B ≤ (a.add (j.toNat * 1)).block ∧ (a.add (j.toNat * 1)).spot = none ∧ w.heap[(a.add (j.toNat * 1)).block]? = some (.cells cs.toArray t (0, 0)) ∧
      (a.add (j.toNat * 1)).off + 1 ≤ cs.length ∧ hasType t bx = false ∧ ∀ w1, Wrote w w1 (a.add (j.toNat * 1)).block t (setCells cs (a.add (j.toNat * 1)).off [.int .u32 x]) → K w1 := by
  have hl := ho.len
  refine ⟨⟨h0, h1⟩, ?_⟩
  have hA : ∃ a, A = some a := by
    rcases ho.2 with ⟨e, e2⟩ | ⟨g, cap, cur, e, _⟩
    · omega
    · cases e; exact ⟨_, rfl⟩
  obtain ⟨a, rfl⟩ := hA
  obtain ⟨cs, k1, k2, k3, k4, k5, k6⟩ := ownsRow_wrote ho (off := j.toNat) (vs := [.int .u32 x]) (by simp [u32s]; omega)
  obtain ⟨b, off, sp⟩ := a
  simp only at k1 k2 k3 k4
  subst k2 k3
  refine ⟨_, rfl, cs, 106, ?_⟩
  rw [add_none]
  simp only [Nat.mul_one, Nat.zero_add]
  refine ⟨k1, trivial, k4, by simpa using k5, hb, fun w1 hw => ?_⟩
  refine h w1 ?_ ⟨hw.os, hw.tape, hw.output, by rw [hw.size]; exact Nat.le_refl _, fun k hk => hw.rest k (by omega)⟩ fun k hk => hw.rest k fun e => hk (by simp [Value.ownBlock, e])
  have := k6 w1 hw
  unfold OwnU
  have e : (x.toNat : Int) = x := by omega
  have e2 : u32s (ws.set j.toNat x.toNat) = setCells (u32s ws) j.toNat [.int .u32 x] := by simp [u32s, setCells, List.map_set, e]
  rw [e2]
  exact this

theorem wv_set : ∀ (l : List Nat) (j x : Nat), j < l.length → wv (l.set j x) + 1000000000 ^ j * l.getD j 0 = wv l + 1000000000 ^ j * x := by
  intro l
  induction l with
  | nil => intro j x h; simp at h
  | cons y r ih =>
    intro j x h
    cases j with
    | zero => simp [wv]; omega
    | succ j =>
      have := ih j x (by simpa using h)
      simp only [List.set_cons_succ, wv, List.getD_cons_succ, Nat.pow_succ]
      grind
theorem Small.set {l : List Nat} (h : Small l) {j x : Nat} (hx : x < 1000000000) : Small (l.set j x) := fun y hy => by
  rcases List.mem_or_eq_of_mem_set hy with h1 | rfl
  · exact h y h1
  · exact hx
theorem wv_replicate (n : Nat) : wv (List.replicate n 0) = 0 := by
  induction n with
  | zero => rfl
  | succ n ih => simp [List.replicate_succ, wv, ih]

def OwnN (w : World) (B : Nat) (A : Option Addr) (n c x : Nat) : Prop := ∃ ws, OwnU w B A n c ws ∧ Small ws ∧ Norm ws ∧ wv ws = x
theorem OwnU.take {w : World} {B : Nat} {A : Option Addr} {n c : Nat} {ws : List Nat} (h : OwnU w B A n c ws) {m : Nat} (hm : m ≤ n) (hn : A ≠ none ∨ m = n) : OwnU w B A m c (ws.take m) := by
  have hl := h.len
  refine ⟨by simp [u32s]; omega, ?_⟩
  rcases h.2 with ⟨e, e2⟩ | ⟨g, cap, cur, e, h1, h2, h3, h4, h5, h6⟩
  · cases e
    have h0 : m = 0 := by omega
    subst h0
    exact .inl ⟨rfl, rfl⟩
  · cases e
    refine .inr ⟨g, c, cur, rfl, h1, h2, by omega, h4, h5, ?_⟩
    have : (u32s ws).take m = u32s (ws.take m) := by simp [u32s, List.map_take]
    rw [← this, ← h6, List.take_take, Nat.mul_one, Nat.mul_one, Nat.min_eq_left hm]

theorem natural_trim_own {w : World} {B : Nat} {A : Option Addr} {n c : Nat} {ws : List Nat} (h : OwnU w B A n c ws) (hn : n < 2147483648) (hs : Small ws) :
    Pure Tryz.prog 187 #[.slice A n c] w fun v w' => w' = w ∧ ∃ m, v = .slice A m c ∧ OwnN w B A m c (wv ws) ∧ IsN w A m c (wv ws) :=
  Pure.mono (natural_trim h.sl h.len h.cap hn hs) fun v w' _ ⟨e, m, e2, h2, h3, h4, h5⟩ => ⟨e, m, e2, ⟨ws.take m, h.take h3 (by
    rcases h.2 with ⟨e, e2⟩ | ⟨g, cap, cur, e, _⟩
    · right; omega
    · cases e; exact .inl (by simp)), hs.take m, h4, h5⟩, h2⟩

theorem SlU.keep {w w' : World} {A : Option Addr} {ws : List Nat} {B : Nat} (h : SlU w A ws) (hb : Below B w w') (hB : w.heap.size ≤ B) : SlU w' A ws := h.below (hb.mono hB)

theorem El.zeroU32 : (Tryz.prog.info? 106).bind (·.zero) = some (.int .u32 0) := by kernel_rfl

section
variable {w0 : World} {A1 A0 : Option Addr} {n1 c1 n0 c0 : Nat} {a b : List Nat} {R : Value → World → Prop}

structure TimesInv (w : World) (B : Nat) (A : Option Addr) (n c : Nat) (ws : List Nat) (k : Nat) : Prop where
  own : OwnU w B A n c ws
  small : Small ws
  zero : ∀ j, k ≤ j → ws.getD j 0 = 0

theorem times_inner (hb : SlU w0 A1 b) (hbl : b.length = n1) (hsb : Small b) {i x : Nat} (hx : x < 1000000000) {n : Nat} (hn : i + n1 < n) (hn2 : n ≤ 1000000) {A : Option Addr} {c : Nat} {m : Int} {base : Nat}
    (hR : ∀ w ws, TimesInv w w0.heap.size A n c ws (i + 1 + n1) → Below w0.heap.size w0 w → wv ws = base + 1000000000 ^ i * x * wv b →
      F.natural_num_times.L3 A1 n1 c1 A n c A0 n0 c0 m ((i : Int) + 1) w0.heap.size w R) :
    ∀ (d k : Nat) (w : World) (ws : List Nat) (s : Nat), n1 - k = d → k ≤ n1 → TimesInv w w0.heap.size A n c ws (i + n1) → Below w0.heap.size w0 w → s < 1000000000 →
      wv ws + 1000000000 ^ (i + k) * s = base + 1000000000 ^ i * x * wv (b.take k) →
      F.natural_num_times.L7 A1 n1 c1 A n c i x s A0 n0 c0 m i A1 n1 c1 n1 k w0.heap.size w R := by
  intro d
  induction d with
  | zero =>
    intro k w ws s hd hk inv hw hs he
    have hkn : k = n1 := by omega
    subst hkn
    have eb : b.take k = b := List.take_of_length_le (by omega)
    rw [eb] at he
    refine F.natural_num_times.L7.step _ _ _ _ _ _ _ _ _ _ _ _ _ _ _ _ _ _ _ _ _ _ ⟨fun h => by omega, fun _ => ⟨by simp only [inR]; omega, by simp only [inR]; omega, ?_⟩⟩
    refine inv.own.store (by omega) (by omega) (by omega) rfl fun w1 o1 b1 _ => ⟨by simp only [inR]; omega, ?_⟩
    have e : ((i : Int) + (k : Int)).toNat = i + k := by omega
    rw [e, Int.toNat_natCast] at o1
    have hl := inv.own.len
    have hset := wv_set ws (i + k) s (by omega)
    rw [inv.zero (i + k) (Nat.le_refl _)] at hset
    refine hR w1 _ ⟨o1, inv.small.set hs, fun j hj => ?_⟩ (hw.trans b1) (by omega)
    rw [List.getD_eq_getElem?_getD, List.getElem?_set_ne (by omega), ← List.getD_eq_getElem?_getD]
    exact inv.zero j (by omega)
  | succ d ih =>
    intro k w ws s hd hk inv hw hs he
    have hl := inv.own.len
    have gb := hsb.getD k
    have go := inv.small.getD (i + k)
    have e : ((i : Int) + (k : Int)).toNat = i + k := by omega
    obtain ⟨y, hy⟩ : ∃ y, y = b.getD k 0 := ⟨_, rfl⟩
    obtain ⟨z, hz⟩ : ∃ z, z = ws.getD (i + k) 0 := ⟨_, rfl⟩
    rw [← hy] at gb
    rw [← hz] at go
    have hxy : x * y ≤ 999999999 * 999999999 := Nat.mul_le_mul (by omega) (by omega)
    have hxy2 : (x : Int) * (y : Int) = ((x * y : Nat) : Int) := by simp
    refine F.natural_num_times.L7.step _ _ _ _ _ _ _ _ _ _ _ _ _ _ _ _ _ _ _ _ _ _ ⟨fun _ => ?_, fun h => by omega⟩
    refine (hb.keep hw (Nat.le_refl _)).load hbl (by omega) (by omega) ?_
    rw [Int.toNat_natCast, ← hy, hxy2]
    refine ⟨by simp only [inR]; omega, by simp only [inR]; omega, by simp only [inR]; omega, by simp only [inR]; omega, ?_⟩
    refine inv.own.sl.load hl (by omega) (by omega) ?_
    rw [e, ← hz]
    refine ⟨by simp only [inR]; omega, by simp only [inR]; omega, by simp only [inR]; omega, by simp only [inR]; omega, by omega, by simp only [inR]; omega, ?_⟩
    rw [← e]
    refine inv.own.store (by omega) (by omega) (by omega) rfl fun w1 o1 b1 _ => ⟨⟨by omega, by omega, by simp only [inR]; omega⟩, by simp only [inR]; omega, ?_⟩
    obtain ⟨t, ht⟩ : ∃ t : Nat, t = s + (x * y + z) := ⟨_, rfl⟩
    have et : (s : Int) + (((x * y : Nat) : Int) + (z : Int)) = ((t : Nat) : Int) := by omega
    rw [et] at o1 ⊢
    have e1 : ((t : Int) % 1000000000).toNat = t % 1000000000 := by omega
    have e2 : (t : Int) / 1000000000 = ((t / 1000000000 : Nat) : Int) := by omega
    have e3 : (k : Int) + 1 = ((k + 1 : Nat) : Int) := by omega
    rw [e, e1] at o1
    rw [e2, e3]
    have hset := wv_set ws (i + k) (t % 1000000000) (by omega)
    rw [← hz] at hset
    refine ih (k + 1) w1 _ (t / 1000000000) (by omega) (by omega) ⟨o1, inv.small.set (by omega), fun j hj => ?_⟩ (hw.trans b1) (by omega) ?_
    · rw [List.getD_eq_getElem?_getD, List.getElem?_set_ne (by omega), ← List.getD_eq_getElem?_getD]
      exact inv.zero j (by omega)
    · rw [wv_take_succ, ← hy]
      have hm : t % 1000000000 + 1000000000 * (t / 1000000000) = s + (x * y + z) := by omega
      rw [show i + (k + 1) = (i + k) + 1 from rfl, Nat.pow_succ]
      have hp : 1000000000 ^ (i + k) = 1000000000 ^ i * 1000000000 ^ k := Nat.pow_add _ _ _
      generalize t % 1000000000 = r at *
      generalize t / 1000000000 = q at *
      generalize wv (ws.set (i + k) r) = W' at *
      generalize wv ws = W at *
      generalize wv (List.take k b) = V at *
      rw [hp] at hset he ⊢
      generalize 1000000000 ^ i = P at *
      generalize 1000000000 ^ k = Q at *
      clear hxy hxy2 et e1 e2 e3 o1 hz hy ht
      grind

theorem times_outer (ha : SlU w0 A0 a) (hal : a.length = n0) (hsa : Small a) (hb : SlU w0 A1 b) (hbl : b.length = n1) (hsb : Small b) {A : Option Addr} {n c : Nat} (hn : n = n0 + n1) (hn2 : n ≤ 1000000)
    (hR : ∀ m w, IsN w A m c (wv a * wv b) → OwnN w w0.heap.size A m c (wv a * wv b) → Below w0.heap.size w0 w → R (.slice A m c) w) :
    ∀ (d i : Nat) (w : World) (ws : List Nat), n0 - i = d → i ≤ n0 → TimesInv w w0.heap.size A n c ws (i + n1) → Below w0.heap.size w0 w → wv ws = wv (a.take i) * wv b →
      F.natural_num_times.L3 A1 n1 c1 A n c A0 n0 c0 n0 i w0.heap.size w R := by
  intro d
  induction d with
  | zero =>
    intro i w ws hd hi inv hw he
    have ea : a.take i = a := List.take_of_length_le (by omega)
    rw [ea] at he
    refine F.natural_num_times.L3.step _ _ _ _ _ _ _ _ _ _ _ _ _ _ ⟨fun h => by omega, fun _ => ?_⟩
    refine Pure.mono (natural_trim_own inv.own (by omega) inv.small) ?_
    rintro v w2 hb2 ⟨rfl, m, rfl, h, h2⟩
    rw [he] at h h2
    exact ⟨A, m, c, rfl, hR m w2 h2 h hw⟩
  | succ d ih =>
    intro i w ws hd hi inv hw he
    refine F.natural_num_times.L3.step _ _ _ _ _ _ _ _ _ _ _ _ _ _ ⟨fun _ => ?_, fun h => by omega⟩
    refine (ha.keep hw (Nat.le_refl _)).load hal (by omega) (by omega) ?_
    rw [Int.toNat_natCast]
    refine times_inner hb hbl hsb (hsa.getD i) (by omega) hn2 (base := wv ws) (fun w1 ws1 k1 k2 k3 => ?_) n1 0 w ws 0 (by omega) (by omega) inv hw (by omega) (by simp [wv])
    have e3 : (i : Int) + 1 = ((i + 1 : Nat) : Int) := by omega
    rw [e3]
    refine ih (i + 1) w1 ws1 (by omega) (by omega) k1 k2 ?_
    rw [k3, he, wv_take_succ, Nat.add_mul]
end

theorem natural_times {w : World} {A0 A1 : Option Addr} {n0 c0 n1 c1 x y : Nat} (ha : IsN w A0 n0 c0 x) (hb : IsN w A1 n1 c1 y) (hx : x < Lim) (hy : y < Lim) :
    Pure Tryz.prog 179 #[.slice A0 n0 c0, .slice A1 n1 c1] w fun v w' => ∃ A n c, v = .slice A n c ∧ IsN w' A n c (x * y) ∧ OwnN w' w.heap.size A n c (x * y) := by
  have l0 := ha.len hx
  have l1 := hb.len hy
  obtain ⟨a, a1, a2, a3, a4, a5, a6, rfl⟩ := ha
  obtain ⟨b, b1, b2, b3, b4, b5, b6, rfl⟩ := hb
  refine F.natural_num_times.vc _ _ _ _ _ _ _ _ ⟨by simp only [inR]; omega, ?_⟩
  refine runOk_make el_num El.zeroU32 rfl (by omega) (by omega) (Nat.le_refl _) fun A n w2 hn k1 _ k2 => ?_
  have hrep : OwnU w2 w.heap.size A n n (List.replicate n 0) := by
    unfold OwnU
    have : u32s (List.replicate n 0) = List.replicate n (.int .u32 0) := by simp [u32s]
    rw [this]
    exact k1
  refine times_outer a1 a2 a5 b1 b2 b5 (by omega) (by omega) (fun m w3 h1 h2 h3 => ⟨A, m, n, rfl, h1, h2⟩) n0 0 w2 _ rfl (by omega) ⟨hrep, fun x hx => by rw [List.eq_of_mem_replicate hx]; omega, fun j _ => ?_⟩ k2 ?_
  · rw [List.getD_eq_getElem?_getD, List.getElem?_replicate]; split <;> rfl
  · rw [wv_replicate]; simp [wv]
end Go.Proofs.YtdoailkigecmkaaGreatDoor.B

namespace Go.Proofs.YtdoailkigecmkaaGreatDoor.B
open Go Go.RowKit Go.Proofs Go.Proofs.YtdoailkigecmkaaGreatDoor.Vc

def cmpI (a b : Int) : Int := if a < b then -1 else if a > b then 1 else 0

theorem cmp_int (a b : Int) (w : World) : Pure Tryz.prog 216 #[.int .i64 a, .int .i64 b] w fun v _ => v = .int .i64 (cmpI a b) := by
  have nan : ∀ (a : Int) (w : World), Pure Tryz.prog 235 #[.int .i64 a] w fun v _ => v = .bool false := fun a w => F.cmp_isNaN_int.vc _ _ _ (by simp)
  refine F.cmp_Compare_int.vc _ _ _ _ (Pure.mono (nan _ _) ?_)
  rintro v w2 _ rfl
  refine ⟨false, rfl, Pure.mono (nan _ _) ?_⟩
  rintro v w3 _ rfl
  refine ⟨false, rfl, fun h => (by cases h), fun _ => ⟨fun h => (by cases h), fun _ => ⟨fun h => by simp [cmpI, h], fun h => ⟨fun h2 => by simp [cmpI, h, h2], fun h2 => by simp [cmpI, h, h2]⟩⟩⟩⟩
theorem cmp_u32 (a b : Int) (w : World) : Pure Tryz.prog 217 #[.int .u32 a, .int .u32 b] w fun v _ => v = .int .i64 (cmpI a b) := by
  have nan : ∀ (a : Int) (w : World), Pure Tryz.prog 236 #[.int .u32 a] w fun v _ => v = .bool false := fun a w => F.cmp_isNaN_uint32.vc _ _ _ (by simp)
  refine F.cmp_Compare_uint32.vc _ _ _ _ (Pure.mono (nan _ _) ?_)
  rintro v w2 _ rfl
  refine ⟨false, rfl, Pure.mono (nan _ _) ?_⟩
  rintro v w3 _ rfl
  refine ⟨false, rfl, fun h => (by cases h), fun _ => ⟨fun h => (by cases h), fun _ => ⟨fun h => by simp [cmpI, h], fun h => ⟨fun h2 => by simp [cmpI, h, h2], fun h2 => by simp [cmpI, h, h2]⟩⟩⟩⟩

theorem wv_drop (l : List Nat) (j : Nat) : wv (l.drop j) = l.getD j 0 + 1000000000 * wv (l.drop (j + 1)) := by
  by_cases h : j < l.length
  · rw [List.drop_eq_getElem_cons h, wv, List.getD_eq_getElem?_getD, List.getElem?_eq_getElem h]; rfl
  · rw [List.drop_eq_nil_of_le (by omega), List.drop_eq_nil_of_le (by omega), List.getD_eq_getElem?_getD, List.getElem?_eq_none (by omega)]; rfl
theorem wv_split (l : List Nat) (j : Nat) (h : j ≤ l.length) : wv l = wv (l.take j) + 1000000000 ^ j * wv (l.drop j) := by
  conv => lhs; rw [← List.take_append_drop j l]
  rw [wv_append, List.length_take, Nat.min_eq_left h]

theorem wv_lt_at {a b : List Nat} (hsa : Small a) {j : Nat} (ha : j < a.length) (hb : j < b.length) (hd : a.drop (j + 1) = b.drop (j + 1)) (h : a.getD j 0 < b.getD j 0) : wv a < wv b := by
  rw [wv_split a j (by omega), wv_split b j (by omega), wv_drop a, wv_drop b, hd]
  have h1 := wv_lt (hsa.take j)
  rw [List.length_take, Nat.min_eq_left (by omega)] at h1
  have h2 : 1000000000 ^ j * (a.getD j 0 + 1 + 1000000000 * wv (b.drop (j + 1))) ≤ 1000000000 ^ j * (b.getD j 0 + 1000000000 * wv (b.drop (j + 1))) := Nat.mul_le_mul_left _ (by omega)
  have h3 : 1000000000 ^ j * (a.getD j 0 + 1 + 1000000000 * wv (b.drop (j + 1))) = 1000000000 ^ j + 1000000000 ^ j * (a.getD j 0 + 1000000000 * wv (b.drop (j + 1))) := by
    rw [show a.getD j 0 + 1 + 1000000000 * wv (b.drop (j + 1)) = 1 + (a.getD j 0 + 1000000000 * wv (b.drop (j + 1))) by omega, Nat.mul_add, Nat.mul_one]
  omega
theorem wv_lt_len {a b : List Nat} (hsa : Small a) (hnb : Norm b) (h : a.length < b.length) : wv a < wv b := by
  have h1 := wv_lt hsa
  have h2 := wv_pos hnb (fun k => by subst k; simp at h)
  have h3 : 1000000000 ^ a.length ≤ 1000000000 ^ (b.length - 1) := Nat.pow_le_pow_right (by omega) (by omega)
  omega

theorem Ext.nilSl {w w' : World} {B : Nat} {A : Option Addr} {ws : List Nat} (h : SlU w A ws) (he : Ext B [] w w') : SlU w' A ws := h.ext he (by simp)

theorem compare_loop {w0 : World} {A0 A1 : Option Addr} {n0 c0 n1 c1 : Nat} {a b : List Nat} {R : Value → World → Prop} (ha : SlU w0 A0 a) (hal : a.length = n0) (hsa : Small a) (hb : SlU w0 A1 b) (hbl : b.length = n1) (hsb : Small b) (hnn : n0 = n1) (hn : n0 ≤ 1000000)
    (hR : ∀ w, R (.int .i64 (cmpI (wv a) (wv b))) w) :
    ∀ (i : Nat) (w : World), i ≤ n0 → Below w0.heap.size w0 w → a.drop i = b.drop i → F.natural_num_compare.L4 A0 n0 c0 A1 n1 c1 ((i : Int) - 1) w0.heap.size w R := by
  intro i
  induction i with
  | zero =>
    intro w hi hw hd
    refine F.natural_num_compare.L4.step _ _ _ _ _ _ _ _ _ _ ⟨fun h => by omega, fun _ => ?_⟩
    have := hR w
    have e : a = b := by simpa using hd
    subst e
    simpa [cmpI] using this
  | succ i ih =>
    intro w hi hw hd
    have e : ((i + 1 : Nat) : Int) - 1 = i := by omega
    rw [e]
    refine F.natural_num_compare.L4.step _ _ _ _ _ _ _ _ _ _ ⟨fun _ => ?_, fun h => by omega⟩
    refine (ha.keep hw (Nat.le_refl _)).load hal (by omega) (by omega) ?_
    refine (hb.keep hw (Nat.le_refl _)).load hbl (by omega) (by omega) ?_
    rw [Int.toNat_natCast]
    refine ⟨fun h w2 e2 => ?_, fun h => ⟨by simp only [inR]; omega, fun w2 e2 => ?_⟩⟩
    · have hw2 := hw.trans e2.below
      refine (ha.keep hw2 (Nat.le_refl _)).load hal (by omega) (by omega) ?_
      refine (hb.keep hw2 (Nat.le_refl _)).load hbl (by omega) (by omega) fun w3 e3 => ?_
      rw [Int.toNat_natCast]
      refine Pure.mono (cmp_u32 _ _ _) ?_
      rintro v w4 _ rfl
      refine ⟨_, rfl, ?_⟩
      have := hR w4
      have ec : cmpI (a.getD i 0 : Nat) (b.getD i 0 : Nat) = cmpI (wv a) (wv b) := by
        rcases (by omega : a.getD i 0 < b.getD i 0 ∨ b.getD i 0 < a.getD i 0) with h1 | h1
        · have h2 := wv_lt_at hsa (by omega) (by omega) hd h1
          simp only [cmpI]
          rw [if_pos (by omega), if_pos (by omega)]
        · have h2 := wv_lt_at hsb (by omega) (by omega) hd.symm h1
          simp only [cmpI]
          rw [if_neg (by omega), if_pos (by omega), if_neg (by omega), if_pos (by omega)]
      rw [ec]
      exact this
    · refine ih w2 (by omega) (hw.trans e2.below) ?_
      have h1 : a.getD i 0 = b.getD i 0 := by omega
      rw [List.drop_eq_getElem_cons (by omega : i < a.length), List.drop_eq_getElem_cons (by omega : i < b.length), hd]
      congr 1
      rw [List.getD_eq_getElem?_getD, List.getD_eq_getElem?_getD, List.getElem?_eq_getElem (by omega), List.getElem?_eq_getElem (by omega)] at h1
      exact h1

theorem natural_compare {w : World} {A0 A1 : Option Addr} {n0 c0 n1 c1 x y : Nat} (ha : IsN w A0 n0 c0 x) (hb : IsN w A1 n1 c1 y) (hx : x < Lim) (hy : y < Lim) :
    Pure Tryz.prog 193 #[.slice A0 n0 c0, .slice A1 n1 c1] w fun v _ => v = .int .i64 (cmpI x y) := by
  have l0 := ha.len hx
  have l1 := hb.len hy
  obtain ⟨a, a1, a2, a3, a4, a5, a6, rfl⟩ := ha
  obtain ⟨b, b1, b2, b3, b4, b5, b6, rfl⟩ := hb
  refine F.natural_num_compare.vc _ _ _ _ _ _ _ _ ⟨fun h => Pure.mono (cmp_int _ _ _) ?_, fun h => ⟨by simp only [inR]; omega, ?_⟩⟩
  · rintro v w4 _ rfl
    refine ⟨_, rfl, ?_⟩
    congr 1
    rcases (by omega : n0 < n1 ∨ n1 < n0) with h1 | h1
    · have h2 := wv_lt_len a5 b6 (by omega)
      simp only [cmpI]
      rw [if_pos (by omega), if_pos (by omega)]
    · have h2 := wv_lt_len b5 a6 (by omega)
      simp only [cmpI]
      rw [if_neg (by omega), if_pos (by omega), if_neg (by omega), if_pos (by omega)]
  · refine compare_loop a1 a2 a5 b1 b2 b5 (by omega) (by omega) (fun w => rfl) n0 w (Nat.le_refl _) (Below.refl _ _) ?_
    rw [List.drop_eq_nil_of_le (by omega), List.drop_eq_nil_of_le (by omega)]

theorem small_iff {ws : List Nat} (hs : Small ws) (hn : Norm ws) : ws.length ≤ 2 ↔ wv ws < 1000000000000000000 := by
  constructor
  · intro h
    have h1 := wv_lt hs
    have h2 : 1000000000 ^ ws.length ≤ 1000000000 ^ 2 := Nat.pow_le_pow_right (by omega) h
    omega
  · intro h
    apply Decidable.byContradiction
    intro h1
    have h2 := wv_pos hn (fun k => by subst k; simp at h1)
    have h3 : 1000000000 ^ 2 ≤ 1000000000 ^ (ws.length - 1) := Nat.pow_le_pow_right (by omega) (by omega)
    omega

theorem natural_small {w : World} {A0 : Option Addr} {n0 c0 x : Nat} (ha : IsN w A0 n0 c0 x) :
    Pure Tryz.prog 166 #[.slice A0 n0 c0] w fun v _ => v = .tuple #[.int .u64 (if x < 1000000000000000000 then x else 0 : Nat), .bool (decide (x < 1000000000000000000))] := by
  obtain ⟨a, a1, a2, a3, a4, a5, a6, rfl⟩ := ha
  have hiff := small_iff a5 a6
  refine F.natural_num_small.vc _ _ _ _ _ ⟨fun h => ?_, fun h => ⟨fun h1 => ?_, fun h1 => ⟨fun h2 => ?_, fun h2 => ?_⟩⟩⟩
  · have : a = [] := List.eq_nil_of_length_eq_zero (by omega)
    subst this
    simp [wv]
  · have g : a.getD (Int.toNat 0) 0 < 1000000000 := a5.getD 0
    refine a1.load a2 (by omega) (by omega) ⟨by simp only [inR]; omega, ?_⟩
    obtain ⟨x, rfl⟩ := List.length_eq_one_iff.1 (by omega : a.length = 1)
    have : x < 1000000000000000000 := by simp at g; omega
    simp [wv, this]
  · have g : a.getD (Int.toNat 0) 0 < 1000000000 := a5.getD 0
    have g1 : a.getD (Int.toNat 1) 0 < 1000000000 := a5.getD 1
    refine a1.load a2 (by omega) (by omega) ⟨by simp only [inR]; omega, a1.load a2 (by omega) (by omega) ⟨by simp only [inR]; omega, by simp only [inR]; omega, by simp only [inR]; omega, fun w2 e2 => ?_⟩⟩
    match a, (by omega : a.length = 2) with
    | [x, y], _ =>
      have : x + 1000000000 * y < 1000000000000000000 := by simp at g g1; omega
      simp [wv, this]
  · have : ¬ wv a < 1000000000000000000 := fun k => by have := hiff.2 k; omega
    simp [this]

theorem natural_of {w : World} {x : Nat} (hx : x < 1000000000000000000) :
    Pure Tryz.prog 167 #[.int .u64 (x : Int)] w fun v w' => ∃ A n c, v = .slice A n c ∧ IsN w' A n c x := by
  refine F.natural_of.vc _ _ _ ⟨by omega, by simp only [inR]; omega, ⟨by omega, by omega, by simp only [inR]; omega⟩, by simp only [inR]; omega, ?_⟩
  have hr := run_buildAll el_num [.int .u32 ((x : Int) % 1000000000), .int .u32 ((x : Int) / 1000000000)] (by intro v hv; rcases List.mem_cons.1 hv with rfl | hv; · rfl
                                                                                                              · rcases List.mem_cons.1 hv with rfl | hv; · rfl
                                                                                                                · cases hv) (by simp) w
  have hg := World.grownBy_alloc w (.cells #[.int .u32 ((x : Int) % 1000000000), .int .u32 ((x : Int) / 1000000000)] 106) none
  have hbel := below_grown hg (B := w.heap.size) (by simp) (Nat.le_refl _)
  refine ⟨_, _, hr, hbel, hbel.size, fun k ty cs _ hk => hg.block k (Array.getElem?_eq_some_iff.1 hk).1 (by simp), _, _, _, rfl, ?_⟩
  have hown : OwnU (w.alloc (.cells #[.int .u32 ((x : Int) % 1000000000), .int .u32 ((x : Int) / 1000000000)] 106)) w.heap.size (some ⟨w.heap.size, 0, none⟩) 2 2 [x % 1000000000, x / 1000000000] := by
    refine ⟨by simp [u32s], .inr ⟨w.heap.size, 2, _, rfl, Nat.le_refl _, heap_alloc_new w _, Nat.le_refl _, by simp [maxLen], by simp, by simp [u32s]⟩⟩
  refine Pure.mono (natural_trim_own hown (by simp) (Small.cons (by omega) (Small.cons (by omega) Small.nil))) ?_
  rintro v w2 hb2 ⟨rfl, m, rfl, h, h2⟩
  refine ⟨_, _, _, rfl, _, _, _, rfl, ?_⟩
  have e : wv [x % 1000000000, x / 1000000000] = x := by simp only [wv]; omega
  rw [e] at h2
  exact h2

theorem by_loop {w0 : World} {A0 : Option Addr} {n0 c0 : Nat} {a : List Nat} {R : Value → World → Prop} (ha : SlU w0 A0 a) (hal : a.length = n0) (hsa : Small a) (hn : n0 ≤ 1000000) {d : Nat} (hd : 0 < d) (hd2 : d ≤ 1000000000) {A : Option Addr} {c : Nat}
    (hR : ∀ A n c A' n' c' w, IsN w A n c (wv a / d) → IsN w A' n' c' (wv a % d) → R (.tuple #[.slice A n c, .slice A' n' c']) w) :
    ∀ (i : Nat) (w : World) (ws : List Nat) (r : Nat), i ≤ n0 → Below w0.heap.size w0 w → OwnU w w0.heap.size A n0 c ws → Small ws → r < d → wv (ws.drop i) * d + r = wv (a.drop i) →
      F.natural_num_by.L4 A0 n0 c0 d A n0 c r ((i : Int) - 1) w0.heap.size w R := by
  intro i
  induction i with
  | zero =>
    intro w ws r hi hw ho hs hr he
    refine F.natural_num_by.L4.step _ _ _ _ _ _ _ _ _ _ _ _ ⟨fun h => by omega, fun _ => ?_⟩
    refine Pure.mono (natural_trim_own ho (by omega) hs) ?_
    rintro v w2 hb2 ⟨rfl, m, rfl, h, h2⟩
    refine ⟨_, _, _, rfl, Pure.mono (natural_of (by omega)) ?_⟩
    rintro v w3 hb3 ⟨A3, n3, c3, rfl, h3⟩
    refine ⟨_, _, _, rfl, ?_⟩
    simp only [List.drop_zero] at he
    have e1 : wv a / d = wv ws := by rw [← he, Nat.mul_comm, Nat.mul_add_div hd, Nat.div_eq_of_lt hr, Nat.add_zero]
    have e2 : wv a % d = r := by rw [← he, Nat.mul_comm, Nat.mul_add_mod, Nat.mod_eq_of_lt hr]
    exact hR _ _ _ _ _ _ _ (by rw [e1]; exact h2.below hb3) (by rw [e2]; exact h3)
  | succ i ih =>
    intro w ws r hi hw ho hs hr he
    have e : ((i + 1 : Nat) : Int) - 1 = i := by omega
    have g := hsa.getD i
    rw [e]
    refine F.natural_num_by.L4.step _ _ _ _ _ _ _ _ _ _ _ _ ⟨fun _ => ⟨by simp only [inR]; omega, ?_⟩, fun h => by omega⟩
    refine (ha.keep hw (Nat.le_refl _)).load hal (by omega) (by omega) ?_
    rw [Int.toNat_natCast]
    obtain ⟨t, ht⟩ : ∃ t : Nat, t = r * 1000000000 + a.getD i 0 := ⟨_, rfl⟩
    have et : (r : Int) * 1000000000 + ((a.getD i 0 : Nat) : Int) = (t : Int) := by omega
    have hq : t / d < 1000000000 := by
      rw [Nat.div_lt_iff_lt_mul hd]
      have : (r + 1) * 1000000000 ≤ d * 1000000000 := Nat.mul_le_mul_right _ (by omega)
      omega
    have eq : (t : Int) / (d : Int) = ((t / d : Nat) : Int) := by simp
    have em : (t : Int) % (d : Int) = ((t % d : Nat) : Int) := by simp
    have hdm := Nat.div_add_mod t d
    have hml := Nat.mod_lt t hd
    rw [et, eq, em]
    clear eq em
    generalize t / d = q at *
    generalize t % d = r' at *
    refine ⟨by simp only [inR]; omega, by simp only [inR]; omega, ⟨by omega, by omega, by simp only [inR]; omega⟩, by simp only [inR]; omega, ?_⟩
    refine ho.store (by omega) (by omega) (by omega) rfl fun w1 o1 b1 _ => ⟨⟨by omega, by omega⟩, by simp only [inR]; omega, ?_⟩
    rw [Int.toNat_natCast, Int.toNat_natCast] at o1
    have hl := ho.len
    refine ih w1 _ _ (by omega) (hw.trans b1) o1 (hs.set hq) hml ?_
    rw [wv_drop, wv_drop a, ← he, List.drop_set, if_pos (by omega)]
    rw [List.getD_eq_getElem?_getD, List.getElem?_set_self (by omega)]
    simp only [Option.getD_some]
    generalize wv (List.drop (i + 1) ws) = V
    clear et o1 hq he hml
    grind

theorem natural_by {w : World} {A0 : Option Addr} {n0 c0 x d : Nat} (ha : IsN w A0 n0 c0 x) (l0 : n0 ≤ 1000000) (hd : 0 < d) (hd2 : d ≤ 1000000000) :
    Pure Tryz.prog 194 #[.slice A0 n0 c0, .int .u64 (d : Int)] w fun v w' => ∃ A n c A' n' c', v = .tuple #[.slice A n c, .slice A' n' c'] ∧ IsN w' A n c (x / d) ∧ IsN w' A' n' c' (x % d) := by
  obtain ⟨a, a1, a2, a3, a4, a5, a6, rfl⟩ := ha
  refine F.natural_num_by.vc _ _ _ _ _ _ ?_
  refine runOk_make el_num El.zeroU32 rfl (by omega) (by omega) (Nat.le_refl _) fun A n w2 hn k1 _ k2 => ⟨by simp only [inR]; omega, ?_⟩
  have hn' : n = n0 := by omega
  subst hn'
  have hrep : OwnU w2 w.heap.size A n n (List.replicate n 0) := by
    unfold OwnU
    have : u32s (List.replicate n 0) = List.replicate n (.int .u32 0) := by simp [u32s]
    rw [this]
    exact k1
  refine by_loop a1 a2 a5 (by omega) hd hd2 (fun A n c A' n' c' w h1 h2 => ⟨A, n, c, A', n', c', rfl, h1, h2⟩) n w2 _ 0 (Nat.le_refl _) k2 hrep (fun x hx => by rw [List.eq_of_mem_replicate hx]; omega) hd ?_
  rw [List.drop_eq_nil_of_le (by simp), List.drop_eq_nil_of_le (by omega)]
  simp [wv]
end Go.Proofs.YtdoailkigecmkaaGreatDoor.B

set_option maxRecDepth 100000
namespace Go.Proofs.YtdoailkigecmkaaGreatDoor.F
open Go Go.RowKit Go.Proofs Go.Proofs.YtdoailkigecmkaaGreatDoor.Vc
def garboardref01_Valid.L2 (sl0 : ByteArray) (il3 : Int) (B : Nat) (w : World) (R : Value → World → Prop) : Prop := At Tryz.prog 75 33 (loopAt Tryz.f75 2) [(0, .v (.string sl0)), (3, .v (.int .i64 il3))] [] B w R
noncomputable def garboardref01_Valid.cx (w : World) (B : Nat) (R : Value → World → Prop) : Cx := ⟨Tryz.prog, 75, 33, Tryz.f75.results.toList, [((true, 2), [0, 3], [])], [], w, B, R⟩
theorem garboardref01_Valid.L2.step (sl0 : ByteArray) (il3 : Int) (B : Nat) (w : World) (R : Value → World → Prop)
    (h : ((((il3 : Int) < (ByteArray.size sl0 : Int)) → ((0 ≤ il3 ∧ il3 < (ByteArray.size sl0 : Int)) ∧ (((((bt sl0 il3) : Int) < (48 : Int)) → (R (.bool false) w)) ∧ (¬ (((bt sl0 il3) : Int) < (48 : Int)) → ((0 ≤ il3 ∧ il3 < (ByteArray.size sl0 : Int)) ∧ (((((bt sl0 il3) : Int) > (57 : Int)) → (R (.bool false) w)) ∧ (¬ (((bt sl0 il3) : Int) > (57 : Int)) → (inR .i64 (il3 + (1 : Int)) ∧ (garboardref01_Valid.L2 sl0 (il3 + (1 : Int)) B w R))))))))) ∧ (¬ ((il3 : Int) < (ByteArray.size sl0 : Int)) → (((((ByteArray.size sl0 : Int) : Int) = (1 : Int)) → (R (.bool true) w)) ∧ (¬ (((ByteArray.size sl0 : Int) : Int) = (1 : Int)) → (((((ByteArray.size sl0 : Int) : Int) > (1 : Int)) → ((0 ≤ (0 : Int) ∧ (0 : Int) < (ByteArray.size sl0 : Int)) ∧ (R (.bool (decide (((bt sl0 (0 : Int)) : Int) ≠ (48 : Int)))) w))) ∧ (¬ (((ByteArray.size sl0 : Int) : Int) > (1 : Int)) → (R (.bool false) w)))))))) :
    garboardref01_Valid.L2 sl0 il3 B w R :=
  loop_of_run (garboardref01_Valid.cx w B R) 100000 (loopAt Tryz.f75 2) _ _ follows Tryz.func75 rfl rfl rfl (Eq.mp (by kernel_rfl) h)
theorem garboardref01_Valid.vc (sp0 : ByteArray) (w : World) (R : Value → World → Prop)
    (h : (garboardref01_Valid.L2 sp0 (0 : Int) w.heap.size w R)) :
    Pure Tryz.prog 75 #[(.string sp0)] w R :=
  pure_of_run (garboardref01_Valid.cx w w.heap.size R) 100000 follows Tryz.func75 rfl rfl rfl rfl rfl rfl rfl (Eq.mp (by kernel_rfl) h)

def garboardref01_From.L3 (sl0 : ByteArray) (Al3 : Option Addr) (nl3 cl3 : Nat) (il4 : Int) (B : Nat) (w : World) (R : Value → World → Prop) : Prop := At Tryz.prog 77 35 (loopAt Tryz.f77 3) [(0, .v (.string sl0)), (3, .v (.slice Al3 nl3 cl3)), (4, .v (.int .i64 il4))] [] B w R
def garboardref01_From.L7 (sl0 : ByteArray) (Al3 : Option Addr) (nl3 cl3 : Nat) (il4 : Int) (il5 : Int) (il6 : Int) (B : Nat) (w : World) (R : Value → World → Prop) : Prop := At Tryz.prog 77 35 (loopAt Tryz.f77 7) [(0, .v (.string sl0)), (3, .v (.slice Al3 nl3 cl3)), (4, .v (.int .i64 il4)), (5, .v (.int .u32 il5)), (6, .v (.int .i64 il6))] [] B w R
noncomputable def garboardref01_From.cx (w : World) (B : Nat) (R : Value → World → Prop) : Cx := ⟨Tryz.prog, 77, 35, Tryz.f77.results.toList, [((true, 3), [0, 3, 4], []), ((true, 7), [0, 3, 4, 5, 6], [])], [(10, 2, 2), (10, 3, 2)], w, B, R⟩
theorem garboardref01_From.L3.step (sl0 : ByteArray) (Al3 : Option Addr) (nl3 cl3 : Nat) (il4 : Int) (B : Nat) (w : World) (R : Value → World → Prop)
    (h : ((((il4 : Int) > (0 : Int)) → (inR .i64 (il4 - (9 : Int)) ∧ (garboardref01_From.L7 sl0 Al3 nl3 cl3 il4 (0 : Int) (if (il4 - (9 : Int)) > (0 : Int) then (il4 - (9 : Int)) else (0 : Int)) B w R))) ∧ (¬ ((il4 : Int) > (0 : Int)) → (Pure Tryz.prog 105 #[(.slice Al3 nl3 cl3)] w fun r2 w3 => ∃ (A1 : Option Addr) (n1 c1 : Nat), r2 = (.slice A1 n1 c1) ∧ (R (.slice A1 n1 c1) w3))))) :
    garboardref01_From.L3 sl0 Al3 nl3 cl3 il4 B w R :=
  loop_of_run (garboardref01_From.cx w B R) 100000 (loopAt Tryz.f77 3) _ _ follows Tryz.func77 rfl rfl rfl (Eq.mp (by kernel_rfl) h)
theorem garboardref01_From.L7.step (sl0 : ByteArray) (Al3 : Option Addr) (nl3 cl3 : Nat) (il4 : Int) (il5 : Int) (il6 : Int) (B : Nat) (w : World) (R : Value → World → Prop)
    (h : ((((il6 : Int) < il4) → (inR .u32 ((10 : Int) * il5) ∧ ((0 ≤ il6 ∧ il6 < (ByteArray.size sl0 : Int)) ∧ (inR .u8 ((bt sl0 il6) - (48 : Int)) ∧ (inR .u32 (((bt sl0 il6) - (48 : Int))) ∧ (inR .u32 (((10 : Int) * il5) + (((bt sl0 il6) - (48 : Int)))) ∧ (inR .i64 (il6 + (1 : Int)) ∧ (garboardref01_From.L7 sl0 Al3 nl3 cl3 il4 (((10 : Int) * il5) + (((bt sl0 il6) - (48 : Int)))) (il6 + (1 : Int)) B w R)))))))) ∧ (¬ ((il6 : Int) < il4) → (RunOk Tryz.prog (Instr.buildSlice 58 1 #[(0, (.int .u32 il5))]) B [] w fun r5 w6 => ∃ (A4 : Option Addr) (n4 c4 : Nat), r5 = (.slice A4 n4 c4) ∧ (RunOk Tryz.prog (Builtin.append_ #[58, 58] 58 #[(.slice Al3 nl3 cl3), (.slice A4 n4 c4)]) B [] w6 fun r8 w9 => ∃ (A7 : Option Addr) (n7 c7 : Nat), r8 = (.slice A7 n7 c7) ∧ (inR .i64 (il4 - (9 : Int)) ∧ (garboardref01_From.L3 sl0 A7 n7 c7 (il4 - (9 : Int)) B w9 R))))))) :
    garboardref01_From.L7 sl0 Al3 nl3 cl3 il4 il5 il6 B w R :=
  loop_of_run (garboardref01_From.cx w B R) 100000 (loopAt Tryz.f77 7) _ _ follows Tryz.func77 rfl rfl rfl (Eq.mp (by kernel_rfl) h)
theorem garboardref01_From.vc (sp0 : ByteArray) (w : World) (R : Value → World → Prop)
    (h : (garboardref01_From.L3 sp0 none 0 0 (ByteArray.size sp0 : Int) w.heap.size w R)) :
    Pure Tryz.prog 77 #[(.string sp0)] w R :=
  pure_of_run (garboardref01_From.cx w w.heap.size R) 100000 follows Tryz.func77 rfl rfl rfl rfl rfl rfl rfl (Eq.mp (by kernel_rfl) h)

noncomputable def garboardref01_Small.cx (w : World) (B : Nat) (R : Value → World → Prop) : Cx := ⟨Tryz.prog, 78, 9, Tryz.f78.results.toList, [], [(1, 4, 2)], w, B, R⟩
theorem garboardref01_Small.vc (ip0 : Int) (w : World) (R : Value → World → Prop)
    (h : ((0 ≤ ip0 ∧ 0 < (1000000000 : Int)) ∧ ((0 ≤ ip0 ∧ 0 < (1000000000 : Int) ∧ inR .u32 ip0) ∧ (RunOk Tryz.prog (Instr.buildSlice 58 2 #[(0, (.int .u32 (ip0 % (1000000000 : Int)))), (1, (.int .u32 (ip0 / (1000000000 : Int))))]) w.heap.size [] w fun r2 w3 => ∃ (A1 : Option Addr) (n1 c1 : Nat), r2 = (.slice A1 n1 c1) ∧ (Pure Tryz.prog 105 #[(.slice A1 n1 c1)] w3 fun r5 w6 => ∃ (A4 : Option Addr) (n4 c4 : Nat), r5 = (.slice A4 n4 c4) ∧ (R (.slice A4 n4 c4) w6)))))) :
    Pure Tryz.prog 78 #[(.int .u32 ip0)] w R :=
  pure_of_run (garboardref01_Small.cx w w.heap.size R) 100000 follows Tryz.func78 rfl rfl rfl rfl rfl rfl rfl (Eq.mp (by kernel_rfl) h)

def garboardref01_Cmp.L6 (Al0 : Option Addr) (nl0 cl0 : Nat) (Al1 : Option Addr) (nl1 cl1 : Nat) (il5 : Int) (B : Nat) (w : World) (R : Value → World → Prop) : Prop := At Tryz.prog 79 41 (loopAt Tryz.f79 6) [(0, .v (.slice Al0 nl0 cl0)), (1, .v (.slice Al1 nl1 cl1)), (5, .v (.int .i64 il5))] [] B w R
noncomputable def garboardref01_Cmp.cx (w : World) (B : Nat) (R : Value → World → Prop) : Cx := ⟨Tryz.prog, 79, 41, Tryz.f79.results.toList, [((true, 6), [0, 1, 5], [])], [(10, 9999, 3)], w, B, R⟩
theorem garboardref01_Cmp.L6.step (Al0 : Option Addr) (nl0 cl0 : Nat) (Al1 : Option Addr) (nl1 cl1 : Nat) (il5 : Int) (B : Nat) (w : World) (R : Value → World → Prop)
    (h : ((((il5 : Int) ≥ (0 : Int)) → ((0 ≤ il5 ∧ il5 < nl0) ∧ ∃ a1, Al0 = some a1 ∧ (∃ (i2 : Int), CellsAt w (a1.add ((il5).toNat * 1)) [(.int .u32 i2)] ∧ ((0 ≤ il5 ∧ il5 < nl1) ∧ ∃ a3, Al1 = some a3 ∧ (∃ (i4 : Int), CellsAt w (a3.add ((il5).toNat * 1)) [(.int .u32 i4)] ∧ ((((i2 : Int) < i4) → (∀ w5, Ext B [] w w5 → (R (.int .i64 (-1 : Int)) w5))) ∧ (¬ ((i2 : Int) < i4) → (∀ w6, Ext B [] w w6 → ((0 ≤ il5 ∧ il5 < nl0) ∧ ∃ a7, Al0 = some a7 ∧ (∃ (i8 : Int), CellsAt w6 (a7.add ((il5).toNat * 1)) [(.int .u32 i8)] ∧ ((0 ≤ il5 ∧ il5 < nl1) ∧ ∃ a9, Al1 = some a9 ∧ (∃ (i10 : Int), CellsAt w6 (a9.add ((il5).toNat * 1)) [(.int .u32 i10)] ∧ ((((i8 : Int) > i10) → (∀ w11, Ext B [] w6 w11 → (R (.int .i64 (1 : Int)) w11))) ∧ (¬ ((i8 : Int) > i10) → (inR .i64 (il5 - (1 : Int)) ∧ (∀ w12, Ext B [] w6 w12 → (garboardref01_Cmp.L6 Al0 nl0 cl0 Al1 nl1 cl1 (il5 - (1 : Int)) B w12 R))))))))))))))))) ∧ (¬ ((il5 : Int) ≥ (0 : Int)) → (R (.int .i64 (0 : Int)) w)))) :
    garboardref01_Cmp.L6 Al0 nl0 cl0 Al1 nl1 cl1 il5 B w R :=
  loop_of_run (garboardref01_Cmp.cx w B R) 100000 (loopAt Tryz.f79 6) _ _ follows Tryz.func79 rfl rfl rfl (Eq.mp (by kernel_rfl) h)
theorem garboardref01_Cmp.vc (Ap0 : Option Addr) (np0 cp0 : Nat) (Ap1 : Option Addr) (np1 cp1 : Nat) (w : World) (R : Value → World → Prop)
    (h : (((((np0 : Int) : Int) ≠ (np1 : Int)) → (((((np0 : Int) : Int) < (np1 : Int)) → (R (.int .i64 (-1 : Int)) w)) ∧ (¬ (((np0 : Int) : Int) < (np1 : Int)) → (R (.int .i64 (1 : Int)) w)))) ∧ (¬ (((np0 : Int) : Int) ≠ (np1 : Int)) → (inR .i64 ((np0 : Int) - (1 : Int)) ∧ (garboardref01_Cmp.L6 Ap0 np0 cp0 Ap1 np1 cp1 ((np0 : Int) - (1 : Int)) w.heap.size w R))))) :
    Pure Tryz.prog 79 #[(.slice Ap0 np0 cp0), (.slice Ap1 np1 cp1)] w R :=
  pure_of_run (garboardref01_Cmp.cx w w.heap.size R) 100000 follows Tryz.func79 rfl rfl rfl rfl rfl rfl rfl (Eq.mp (by kernel_rfl) h)

def garboardref01_Common.L1 (Al0 : Option Addr) (nl0 cl0 : Nat) (Al1 : Option Addr) (nl1 cl1 : Nat) (B : Nat) (w : World) (R : Value → World → Prop) : Prop := At Tryz.prog 81 41 (loopAt Tryz.f81 1) [(0, .v (.slice Al0 nl0 cl0)), (1, .v (.slice Al1 nl1 cl1))] [] B w R
def garboardref01_Common.L4 (il5 : Int) (il6 : Int) (B : Nat) (w : World) (R : Value → World → Prop) : Prop := At Tryz.prog 81 41 (loopAt Tryz.f81 4) [(5, .v (.int .u64 il5)), (6, .v (.int .u64 il6))] [] B w R
noncomputable def garboardref01_Common.cx (w : World) (B : Nat) (R : Value → World → Prop) : Cx := ⟨Tryz.prog, 81, 41, Tryz.f81.results.toList, [((true, 1), [0, 1], []), ((true, 4), [5, 6], [])], [], w, B, R⟩
theorem garboardref01_Common.L1.step (Al0 : Option Addr) (nl0 cl0 : Nat) (Al1 : Option Addr) (nl1 cl1 : Nat) (B : Nat) (w : World) (R : Value → World → Prop)
    (h : (((((nl1 : Int) : Int) > (0 : Int)) → (((((nl0 : Int) : Int) ≤ (2 : Int)) → (((((nl1 : Int) : Int) ≤ (2 : Int)) → (Pure Tryz.prog 106 #[(.slice Al0 nl0 cl0)] w fun r2 w3 => ∃ (i1 : Int), r2 = (.int .u64 i1) ∧ (Pure Tryz.prog 106 #[(.slice Al1 nl1 cl1)] w3 fun r5 w6 => ∃ (i4 : Int), r5 = (.int .u64 i4) ∧ (garboardref01_Common.L4 i1 i4 B w6 R)))) ∧ (¬ (((nl1 : Int) : Int) ≤ (2 : Int)) → (Pure Tryz.prog 108 #[(.slice Al0 nl0 cl0), (.slice Al1 nl1 cl1)] w fun r9 w10 => ∃ (A7 : Option Addr) (n7 c7 : Nat) (A8 : Option Addr) (n8 c8 : Nat), r9 = (.tuple #[(.slice A7 n7 c7), (.slice A8 n8 c8)]) ∧ (garboardref01_Common.L1 Al1 nl1 cl1 A8 n8 c8 B w10 R))))) ∧ (¬ (((nl0 : Int) : Int) ≤ (2 : Int)) → (Pure Tryz.prog 108 #[(.slice Al0 nl0 cl0), (.slice Al1 nl1 cl1)] w fun r13 w14 => ∃ (A11 : Option Addr) (n11 c11 : Nat) (A12 : Option Addr) (n12 c12 : Nat), r13 = (.tuple #[(.slice A11 n11 c11), (.slice A12 n12 c12)]) ∧ (garboardref01_Common.L1 Al1 nl1 cl1 A12 n12 c12 B w14 R))))) ∧ (¬ (((nl1 : Int) : Int) > (0 : Int)) → (R (.slice Al0 nl0 cl0) w)))) :
    garboardref01_Common.L1 Al0 nl0 cl0 Al1 nl1 cl1 B w R :=
  loop_of_run (garboardref01_Common.cx w B R) 100000 (loopAt Tryz.f81 1) _ _ follows Tryz.func81 rfl rfl rfl (Eq.mp (by kernel_rfl) h)
theorem garboardref01_Common.L4.step (il5 : Int) (il6 : Int) (B : Nat) (w : World) (R : Value → World → Prop)
    (h : ((((il6 : Int) ≠ (0 : Int)) → ((0 ≤ il5 ∧ 0 < il6) ∧ (∀ w15, Ext B [] w w15 → (garboardref01_Common.L4 il6 (il5 % il6) B w15 R)))) ∧ (¬ ((il6 : Int) ≠ (0 : Int)) → (Pure Tryz.prog 107 #[(.int .u64 il5)] w fun r17 w18 => ∃ (A16 : Option Addr) (n16 c16 : Nat), r17 = (.slice A16 n16 c16) ∧ (R (.slice A16 n16 c16) w18))))) :
    garboardref01_Common.L4 il5 il6 B w R :=
  loop_of_run (garboardref01_Common.cx w B R) 100000 (loopAt Tryz.f81 4) _ _ follows Tryz.func81 rfl rfl rfl (Eq.mp (by kernel_rfl) h)
theorem garboardref01_Common.vc (Ap0 : Option Addr) (np0 cp0 : Nat) (Ap1 : Option Addr) (np1 cp1 : Nat) (w : World) (R : Value → World → Prop)
    (h : (garboardref01_Common.L1 Ap0 np0 cp0 Ap1 np1 cp1 w.heap.size w R)) :
    Pure Tryz.prog 81 #[(.slice Ap0 np0 cp0), (.slice Ap1 np1 cp1)] w R :=
  pure_of_run (garboardref01_Common.cx w w.heap.size R) 100000 follows Tryz.func81 rfl rfl rfl rfl rfl rfl rfl (Eq.mp (by kernel_rfl) h)

def garboardref01_Times.L5 (Al0 : Option Addr) (nl0 cl0 : Nat) (Al1 : Option Addr) (nl1 cl1 : Nat) (Al5 : Option Addr) (nl5 cl5 : Nat) (il6 : Int) (B : Nat) (w : World) (R : Value → World → Prop) : Prop := At Tryz.prog 84 77 (loopAt Tryz.f84 5) [(0, .v (.slice Al0 nl0 cl0)), (1, .v (.slice Al1 nl1 cl1)), (5, .v (.slice Al5 nl5 cl5)), (6, .v (.int .i64 il6))] [] B w R
def garboardref01_Times.L9 (Al0 : Option Addr) (nl0 cl0 : Nat) (Al1 : Option Addr) (nl1 cl1 : Nat) (Al5 : Option Addr) (nl5 cl5 : Nat) (il6 : Int) (il7 : Int) (il8 : Int) (B : Nat) (w : World) (R : Value → World → Prop) : Prop := At Tryz.prog 84 77 (loopAt Tryz.f84 9) [(0, .v (.slice Al0 nl0 cl0)), (1, .v (.slice Al1 nl1 cl1)), (5, .v (.slice Al5 nl5 cl5)), (6, .v (.int .i64 il6)), (7, .v (.int .u64 il7)), (8, .v (.int .i64 il8))] [] B w R
noncomputable def garboardref01_Times.cx (w : World) (B : Nat) (R : Value → World → Prop) : Cx := ⟨Tryz.prog, 84, 77, Tryz.f84.results.toList, [((true, 5), [0, 1, 5, 6], []), ((true, 9), [0, 1, 5, 6, 7, 8], [])], [(3, 5, 2)], w, B, R⟩
theorem garboardref01_Times.L5.step (Al0 : Option Addr) (nl0 cl0 : Nat) (Al1 : Option Addr) (nl1 cl1 : Nat) (Al5 : Option Addr) (nl5 cl5 : Nat) (il6 : Int) (B : Nat) (w : World) (R : Value → World → Prop)
    (h : ((((il6 : Int) < (nl0 : Int)) → (garboardref01_Times.L9 Al0 nl0 cl0 Al1 nl1 cl1 Al5 nl5 cl5 il6 (0 : Int) (0 : Int) B w R)) ∧ (¬ ((il6 : Int) < (nl0 : Int)) → (Pure Tryz.prog 105 #[(.slice Al5 nl5 cl5)] w fun r5 w6 => ∃ (A4 : Option Addr) (n4 c4 : Nat), r5 = (.slice A4 n4 c4) ∧ (R (.slice A4 n4 c4) w6))))) :
    garboardref01_Times.L5 Al0 nl0 cl0 Al1 nl1 cl1 Al5 nl5 cl5 il6 B w R :=
  loop_of_run (garboardref01_Times.cx w B R) 100000 (loopAt Tryz.f84 5) _ _ follows Tryz.func84 rfl rfl rfl (Eq.mp (by kernel_rfl) h)
theorem garboardref01_Times.L9.step (Al0 : Option Addr) (nl0 cl0 : Nat) (Al1 : Option Addr) (nl1 cl1 : Nat) (Al5 : Option Addr) (nl5 cl5 : Nat) (il6 : Int) (il7 : Int) (il8 : Int) (B : Nat) (w : World) (R : Value → World → Prop)
    (h : ((((il8 : Int) < (nl1 : Int)) → (inR .i64 (il6 + il8) ∧ ((0 ≤ (il6 + il8) ∧ (il6 + il8) < nl5) ∧ ∃ a7, Al5 = some a7 ∧ (∃ (i8 : Int), CellsAt w (a7.add (((il6 + il8)).toNat * 1)) [(.int .u32 i8)] ∧ (inR .u64 (i8) ∧ ((0 ≤ il6 ∧ il6 < nl0) ∧ ∃ a9, Al0 = some a9 ∧ (∃ (i10 : Int), CellsAt w (a9.add ((il6).toNat * 1)) [(.int .u32 i10)] ∧ (inR .u64 (i10) ∧ ((0 ≤ il8 ∧ il8 < nl1) ∧ ∃ a11, Al1 = some a11 ∧ (∃ (i12 : Int), CellsAt w (a11.add ((il8).toNat * 1)) [(.int .u32 i12)] ∧ (inR .u64 (i12) ∧ (inR .u64 ((i10) * (i12)) ∧ (inR .u64 ((i8) + ((i10) * (i12))) ∧ (inR .u64 (((i8) + ((i10) * (i12))) + il7) ∧ (inR .i64 (il6 + il8) ∧ ((0 ≤ (((i8) + ((i10) * (i12))) + il7) ∧ 0 < (1000000000 : Int)) ∧ (inR .u32 (((((i8) + ((i10) * (i12))) + il7) % (1000000000 : Int))) ∧ ((0 ≤ (il6 + il8) ∧ (il6 + il8) < nl5) ∧ ∃ a13, Al5 = some a13 ∧ (∀ w14, Ext B [] w w14 → (∃ (cs15 : List Value) (t16 : Nat), B ≤ (a13.add (((il6 + il8)).toNat * 1)).block ∧ (a13.add (((il6 + il8)).toNat * 1)).spot = none ∧ w14.heap[(a13.add (((il6 + il8)).toNat * 1)).block]? = some (.cells cs15.toArray t16 (0, 0)) ∧ (a13.add (((il6 + il8)).toNat * 1)).off + 1 ≤ cs15.length ∧ hasType t16 [] = false ∧ ∀ w17, Wrote w14 w17 (a13.add (((il6 + il8)).toNat * 1)).block t16 (setCells cs15 (a13.add (((il6 + il8)).toNat * 1)).off [(.int .u32 (((((i8) + ((i10) * (i12))) + il7) % (1000000000 : Int))))]) → ((0 ≤ (((i8) + ((i10) * (i12))) + il7) ∧ 0 < (1000000000 : Int) ∧ inR .u64 (((i8) + ((i10) * (i12))) + il7)) ∧ (inR .i64 (il8 + (1 : Int)) ∧ (garboardref01_Times.L9 Al0 nl0 cl0 Al1 nl1 cl1 Al5 nl5 cl5 il6 ((((i8) + ((i10) * (i12))) + il7) / (1000000000 : Int)) (il8 + (1 : Int)) B w17 R))))))))))))))))))))))) ∧ (¬ ((il8 : Int) < (nl1 : Int)) → (inR .i64 (il6 + (nl1 : Int)) ∧ (inR .u32 (il7) ∧ ((0 ≤ (il6 + (nl1 : Int)) ∧ (il6 + (nl1 : Int)) < nl5) ∧ ∃ a18, Al5 = some a18 ∧ (∃ (cs19 : List Value) (t20 : Nat), B ≤ (a18.add (((il6 + (nl1 : Int))).toNat * 1)).block ∧ (a18.add (((il6 + (nl1 : Int))).toNat * 1)).spot = none ∧ w.heap[(a18.add (((il6 + (nl1 : Int))).toNat * 1)).block]? = some (.cells cs19.toArray t20 (0, 0)) ∧ (a18.add (((il6 + (nl1 : Int))).toNat * 1)).off + 1 ≤ cs19.length ∧ hasType t20 [] = false ∧ ∀ w21, Wrote w w21 (a18.add (((il6 + (nl1 : Int))).toNat * 1)).block t20 (setCells cs19 (a18.add (((il6 + (nl1 : Int))).toNat * 1)).off [(.int .u32 (il7))]) → (inR .i64 (il6 + (1 : Int)) ∧ (garboardref01_Times.L5 Al0 nl0 cl0 Al1 nl1 cl1 Al5 nl5 cl5 (il6 + (1 : Int)) B w21 R))))))))) :
    garboardref01_Times.L9 Al0 nl0 cl0 Al1 nl1 cl1 Al5 nl5 cl5 il6 il7 il8 B w R :=
  loop_of_run (garboardref01_Times.cx w B R) 100000 (loopAt Tryz.f84 9) _ _ follows Tryz.func84 rfl rfl rfl (Eq.mp (by kernel_rfl) h)
theorem garboardref01_Times.vc (Ap0 : Option Addr) (np0 cp0 : Nat) (Ap1 : Option Addr) (np1 cp1 : Nat) (w : World) (R : Value → World → Prop)
    (h : (((((np0 : Int) : Int) = (0 : Int)) → (R (.slice none 0 0) w)) ∧ (¬ (((np0 : Int) : Int) = (0 : Int)) → (((((np1 : Int) : Int) = (0 : Int)) → (R (.slice none 0 0) w)) ∧ (¬ (((np1 : Int) : Int) = (0 : Int)) → (inR .i64 ((np0 : Int) + (np1 : Int)) ∧ (RunOk Tryz.prog (Instr.makeSlice 58 (.int .i64 ((np0 : Int) + (np1 : Int))) (.int .i64 ((np0 : Int) + (np1 : Int)))) w.heap.size [] w fun r2 w3 => ∃ (A1 : Option Addr) (n1 c1 : Nat), r2 = (.slice A1 n1 c1) ∧ (garboardref01_Times.L5 Ap0 np0 cp0 Ap1 np1 cp1 A1 n1 c1 (0 : Int) w.heap.size w3 R)))))))) :
    Pure Tryz.prog 84 #[(.slice Ap0 np0 cp0), (.slice Ap1 np1 cp1)] w R :=
  pure_of_run (garboardref01_Times.cx w w.heap.size R) 100000 follows Tryz.func84 rfl rfl rfl rfl rfl rfl rfl (Eq.mp (by kernel_rfl) h)

def garboardref01_To.L5 (Al0 : Option Addr) (nl0 cl0 : Nat) (Al3 : Option Addr) (nl3 cl3 : Nat) (il4 : Int) (B : Nat) (w : World) (R : Value → World → Prop) : Prop := At Tryz.prog 93 72 (loopAt Tryz.f93 5) [(0, .v (.slice Al0 nl0 cl0)), (3, .v (.slice Al3 nl3 cl3)), (4, .v (.int .i64 il4))] [] B w R
def garboardref01_To.L9 (Al0 : Option Addr) (nl0 cl0 : Nat) (Al3 : Option Addr) (nl3 cl3 : Nat) (il4 : Int) (il5 : Int) (il6 : Int) (B : Nat) (w : World) (R : Value → World → Prop) : Prop := At Tryz.prog 93 72 (loopAt Tryz.f93 9) [(0, .v (.slice Al0 nl0 cl0)), (3, .v (.slice Al3 nl3 cl3)), (4, .v (.int .i64 il4)), (5, .v (.int .u32 il5)), (6, .v (.int .i64 il6))] [] B w R
def garboardref01_To.L14 (Al3 : Option Addr) (nl3 cl3 : Nat) (il7 : Int) (il8 : Int) (B : Nat) (w : World) (R : Value → World → Prop) : Prop := At Tryz.prog 93 72 (loopAt Tryz.f93 14) [(3, .v (.slice Al3 nl3 cl3)), (7, .v (.int .i64 il7)), (8, .v (.int .i64 il8))] [] B w R
noncomputable def garboardref01_To.cx (w : World) (B : Nat) (R : Value → World → Prop) : Cx := ⟨Tryz.prog, 93, 72, Tryz.f93.results.toList, [((true, 5), [0, 3, 4], []), ((true, 9), [0, 3, 4, 5, 6], []), ((true, 14), [3, 7, 8], [])], [(11, 5, 2), (11, 6, 2), (17, 1, 2)], w, B, R⟩
theorem garboardref01_To.L5.step (Al0 : Option Addr) (nl0 cl0 : Nat) (Al3 : Option Addr) (nl3 cl3 : Nat) (il4 : Int) (B : Nat) (w : World) (R : Value → World → Prop)
    (h : ((((il4 : Int) < (nl0 : Int)) → ((0 ≤ il4 ∧ il4 < nl0) ∧ ∃ a1, Al0 = some a1 ∧ (∃ (i2 : Int), CellsAt w (a1.add ((il4).toNat * 1)) [(.int .u32 i2)] ∧ (garboardref01_To.L9 Al0 nl0 cl0 Al3 nl3 cl3 il4 i2 (0 : Int) B w R)))) ∧ (¬ ((il4 : Int) < (nl0 : Int)) → (inR .i64 ((nl3 : Int) - (1 : Int)) ∧ (garboardref01_To.L14 Al3 nl3 cl3 (0 : Int) ((nl3 : Int) - (1 : Int)) B w R))))) :
    garboardref01_To.L5 Al0 nl0 cl0 Al3 nl3 cl3 il4 B w R :=
  loop_of_run (garboardref01_To.cx w B R) 100000 (loopAt Tryz.f93 5) _ _ follows Tryz.func93 rfl rfl rfl (Eq.mp (by kernel_rfl) h)
theorem garboardref01_To.L9.step (Al0 : Option Addr) (nl0 cl0 : Nat) (Al3 : Option Addr) (nl3 cl3 : Nat) (il4 : Int) (il5 : Int) (il6 : Int) (B : Nat) (w : World) (R : Value → World → Prop)
    (h : ((((il6 : Int) < (9 : Int)) → (inR .i64 (il4 + (1 : Int)) ∧ (((((il4 + (1 : Int)) : Int) < (nl0 : Int)) → ((0 ≤ il5 ∧ 0 < (10 : Int)) ∧ (inR .u32 ((48 : Int) + (il5 % (10 : Int))) ∧ (inR .u8 (((48 : Int) + (il5 % (10 : Int)))) ∧ (RunOk Tryz.prog (Instr.buildSlice 142 1 #[(0, (.int .u8 (((48 : Int) + (il5 % (10 : Int))))))]) B [] w fun r4 w5 => ∃ (A3 : Option Addr) (n3 c3 : Nat), r4 = (.slice A3 n3 c3) ∧ (RunOk Tryz.prog (Builtin.append_ #[142, 142] 142 #[(.slice Al3 nl3 cl3), (.slice A3 n3 c3)]) B [] w5 fun r7 w8 => ∃ (A6 : Option Addr) (n6 c6 : Nat), r7 = (.slice A6 n6 c6) ∧ ((0 ≤ il5 ∧ 0 < (10 : Int) ∧ inR .u32 il5) ∧ (inR .i64 (il6 + (1 : Int)) ∧ (garboardref01_To.L9 Al0 nl0 cl0 A6 n6 c6 il4 (il5 / (10 : Int)) (il6 + (1 : Int)) B w8 R))))))))) ∧ (¬ (((il4 + (1 : Int)) : Int) < (nl0 : Int)) → ((((il5 : Int) > (0 : Int)) → ((0 ≤ il5 ∧ 0 < (10 : Int)) ∧ (inR .u32 ((48 : Int) + (il5 % (10 : Int))) ∧ (inR .u8 (((48 : Int) + (il5 % (10 : Int)))) ∧ (RunOk Tryz.prog (Instr.buildSlice 142 1 #[(0, (.int .u8 (((48 : Int) + (il5 % (10 : Int))))))]) B [] w fun r10 w11 => ∃ (A9 : Option Addr) (n9 c9 : Nat), r10 = (.slice A9 n9 c9) ∧ (RunOk Tryz.prog (Builtin.append_ #[142, 142] 142 #[(.slice Al3 nl3 cl3), (.slice A9 n9 c9)]) B [] w11 fun r13 w14 => ∃ (A12 : Option Addr) (n12 c12 : Nat), r13 = (.slice A12 n12 c12) ∧ ((0 ≤ il5 ∧ 0 < (10 : Int) ∧ inR .u32 il5) ∧ (inR .i64 (il6 + (1 : Int)) ∧ (garboardref01_To.L9 Al0 nl0 cl0 A12 n12 c12 il4 (il5 / (10 : Int)) (il6 + (1 : Int)) B w14 R))))))))) ∧ (¬ ((il5 : Int) > (0 : Int)) → (inR .i64 (il4 + (1 : Int)) ∧ (garboardref01_To.L5 Al0 nl0 cl0 Al3 nl3 cl3 (il4 + (1 : Int)) B w R)))))))) ∧ (¬ ((il6 : Int) < (9 : Int)) → (inR .i64 (il4 + (1 : Int)) ∧ (garboardref01_To.L5 Al0 nl0 cl0 Al3 nl3 cl3 (il4 + (1 : Int)) B w R))))) :
    garboardref01_To.L9 Al0 nl0 cl0 Al3 nl3 cl3 il4 il5 il6 B w R :=
  loop_of_run (garboardref01_To.cx w B R) 100000 (loopAt Tryz.f93 9) _ _ follows Tryz.func93 rfl rfl rfl (Eq.mp (by kernel_rfl) h)
theorem garboardref01_To.L14.step (Al3 : Option Addr) (nl3 cl3 : Nat) (il7 : Int) (il8 : Int) (B : Nat) (w : World) (R : Value → World → Prop)
    (h : ((((il7 : Int) < il8) → ((0 ≤ il8 ∧ il8 < nl3) ∧ ∃ a15, Al3 = some a15 ∧ (∃ (i16 : Int), CellsAt w (a15.add ((il8).toNat * 1)) [(.int .u8 i16)] ∧ ((0 ≤ il7 ∧ il7 < nl3) ∧ ∃ a17, Al3 = some a17 ∧ (∃ (i18 : Int), CellsAt w (a17.add ((il7).toNat * 1)) [(.int .u8 i18)] ∧ ((0 ≤ il7 ∧ il7 < nl3) ∧ ∃ a19, Al3 = some a19 ∧ (∀ w20, Ext B [] w w20 → (∃ (cs21 : List Value) (t22 : Nat), B ≤ (a19.add ((il7).toNat * 1)).block ∧ (a19.add ((il7).toNat * 1)).spot = none ∧ w20.heap[(a19.add ((il7).toNat * 1)).block]? = some (.cells cs21.toArray t22 (0, 0)) ∧ (a19.add ((il7).toNat * 1)).off + 1 ≤ cs21.length ∧ hasType t22 [] = false ∧ ∀ w23, Wrote w20 w23 (a19.add ((il7).toNat * 1)).block t22 (setCells cs21 (a19.add ((il7).toNat * 1)).off [(.int .u8 i16)]) → ((0 ≤ il8 ∧ il8 < nl3) ∧ ∃ a24, Al3 = some a24 ∧ (∃ (cs25 : List Value) (t26 : Nat), B ≤ (a24.add ((il8).toNat * 1)).block ∧ (a24.add ((il8).toNat * 1)).spot = none ∧ w23.heap[(a24.add ((il8).toNat * 1)).block]? = some (.cells cs25.toArray t26 (0, 0)) ∧ (a24.add ((il8).toNat * 1)).off + 1 ≤ cs25.length ∧ hasType t26 [] = false ∧ ∀ w27, Wrote w23 w27 (a24.add ((il8).toNat * 1)).block t26 (setCells cs25 (a24.add ((il8).toNat * 1)).off [(.int .u8 i18)]) → (inR .i64 (il7 + (1 : Int)) ∧ (inR .i64 (il8 - (1 : Int)) ∧ (garboardref01_To.L14 Al3 nl3 cl3 (il7 + (1 : Int)) (il8 - (1 : Int)) B w27 R))))))))))))) ∧ (¬ ((il7 : Int) < il8) → (RunOk Tryz.prog (convert 142 9 (.slice Al3 nl3 cl3)) B [] w fun r29 w30 => ∃ (s28 : ByteArray), r29 = (.string s28) ∧ (R (.string s28) w30))))) :
    garboardref01_To.L14 Al3 nl3 cl3 il7 il8 B w R :=
  loop_of_run (garboardref01_To.cx w B R) 100000 (loopAt Tryz.f93 14) _ _ follows Tryz.func93 rfl rfl rfl (Eq.mp (by kernel_rfl) h)
theorem garboardref01_To.vc (Ap0 : Option Addr) (np0 cp0 : Nat) (w : World) (R : Value → World → Prop)
    (h : (((((np0 : Int) : Int) = (0 : Int)) → (R (.string (⟨#[48]⟩ : ByteArray)) w)) ∧ (¬ (((np0 : Int) : Int) = (0 : Int)) → (garboardref01_To.L5 Ap0 np0 cp0 none 0 0 (0 : Int) w.heap.size w R)))) :
    Pure Tryz.prog 93 #[(.slice Ap0 np0 cp0)] w R :=
  pure_of_run (garboardref01_To.cx w w.heap.size R) 100000 follows Tryz.func93 rfl rfl rfl rfl rfl rfl rfl (Eq.mp (by kernel_rfl) h)

def garboardref01_trim.L1 (Al0 : Option Addr) (nl0 cl0 : Nat) (B : Nat) (w : World) (R : Value → World → Prop) : Prop := At Tryz.prog 105 21 (loopAt Tryz.f105 1) [(0, .v (.slice Al0 nl0 cl0))] [] B w R
noncomputable def garboardref01_trim.cx (w : World) (B : Nat) (R : Value → World → Prop) : Cx := ⟨Tryz.prog, 105, 21, Tryz.f105.results.toList, [((true, 1), [0], [])], [], w, B, R⟩
theorem garboardref01_trim.L1.step (Al0 : Option Addr) (nl0 cl0 : Nat) (B : Nat) (w : World) (R : Value → World → Prop)
    (h : (((((nl0 : Int) : Int) > (0 : Int)) → (inR .i64 ((nl0 : Int) - (1 : Int)) ∧ ((0 ≤ ((nl0 : Int) - (1 : Int)) ∧ ((nl0 : Int) - (1 : Int)) < nl0) ∧ ∃ a1, Al0 = some a1 ∧ (∃ (i2 : Int), CellsAt w (a1.add ((((nl0 : Int) - (1 : Int))).toNat * 1)) [(.int .u32 i2)] ∧ ((((i2 : Int) = (0 : Int)) → (inR .i64 ((nl0 : Int) - (1 : Int)) ∧ ((0 ≤ ((nl0 : Int) - (1 : Int)) ∧ ((nl0 : Int) - (1 : Int)) ≤ (cl0 : Int)) ∧ (garboardref01_trim.L1 Al0 ((((nl0 : Int) - (1 : Int))).toNat) cl0 B w R)))) ∧ (¬ ((i2 : Int) = (0 : Int)) → (R (.slice Al0 nl0 cl0) w))))))) ∧ (¬ (((nl0 : Int) : Int) > (0 : Int)) → (R (.slice Al0 nl0 cl0) w)))) :
    garboardref01_trim.L1 Al0 nl0 cl0 B w R :=
  loop_of_run (garboardref01_trim.cx w B R) 100000 (loopAt Tryz.f105 1) _ _ follows Tryz.func105 rfl rfl rfl (Eq.mp (by kernel_rfl) h)
theorem garboardref01_trim.vc (Ap0 : Option Addr) (np0 cp0 : Nat) (w : World) (R : Value → World → Prop)
    (h : (garboardref01_trim.L1 Ap0 np0 cp0 w.heap.size w R)) :
    Pure Tryz.prog 105 #[(.slice Ap0 np0 cp0)] w R :=
  pure_of_run (garboardref01_trim.cx w w.heap.size R) 100000 follows Tryz.func105 rfl rfl rfl rfl rfl rfl rfl (Eq.mp (by kernel_rfl) h)

def garboardref01_word.L3 (Al0 : Option Addr) (nl0 cl0 : Nat) (il3 : Int) (il4 : Int) (B : Nat) (w : World) (R : Value → World → Prop) : Prop := At Tryz.prog 106 21 (loopAt Tryz.f106 3) [(0, .v (.slice Al0 nl0 cl0)), (3, .v (.int .u64 il3)), (4, .v (.int .i64 il4))] [] B w R
noncomputable def garboardref01_word.cx (w : World) (B : Nat) (R : Value → World → Prop) : Cx := ⟨Tryz.prog, 106, 21, Tryz.f106.results.toList, [((true, 3), [0, 3, 4], [])], [], w, B, R⟩
theorem garboardref01_word.L3.step (Al0 : Option Addr) (nl0 cl0 : Nat) (il3 : Int) (il4 : Int) (B : Nat) (w : World) (R : Value → World → Prop)
    (h : ((((il4 : Int) ≥ (0 : Int)) → (inR .u64 (il3 * (1000000000 : Int)) ∧ ((0 ≤ il4 ∧ il4 < nl0) ∧ ∃ a1, Al0 = some a1 ∧ (∃ (i2 : Int), CellsAt w (a1.add ((il4).toNat * 1)) [(.int .u32 i2)] ∧ (inR .u64 (i2) ∧ (inR .u64 ((il3 * (1000000000 : Int)) + (i2)) ∧ (inR .i64 (il4 - (1 : Int)) ∧ (garboardref01_word.L3 Al0 nl0 cl0 ((il3 * (1000000000 : Int)) + (i2)) (il4 - (1 : Int)) B w R)))))))) ∧ (¬ ((il4 : Int) ≥ (0 : Int)) → (R (.int .u64 il3) w)))) :
    garboardref01_word.L3 Al0 nl0 cl0 il3 il4 B w R :=
  loop_of_run (garboardref01_word.cx w B R) 100000 (loopAt Tryz.f106 3) _ _ follows Tryz.func106 rfl rfl rfl (Eq.mp (by kernel_rfl) h)
theorem garboardref01_word.vc (Ap0 : Option Addr) (np0 cp0 : Nat) (w : World) (R : Value → World → Prop)
    (h : (inR .i64 ((np0 : Int) - (1 : Int)) ∧ (garboardref01_word.L3 Ap0 np0 cp0 (0 : Int) ((np0 : Int) - (1 : Int)) w.heap.size w R))) :
    Pure Tryz.prog 106 #[(.slice Ap0 np0 cp0)] w R :=
  pure_of_run (garboardref01_word.cx w w.heap.size R) 100000 follows Tryz.func106 rfl rfl rfl rfl rfl rfl rfl (Eq.mp (by kernel_rfl) h)

noncomputable def garboardref01_wide.cx (w : World) (B : Nat) (R : Value → World → Prop) : Cx := ⟨Tryz.prog, 107, 16, Tryz.f107.results.toList, [], [(1, 11, 2)], w, B, R⟩
theorem garboardref01_wide.vc (ip0 : Int) (w : World) (R : Value → World → Prop)
    (h : ((0 ≤ ip0 ∧ 0 < (1000000000 : Int)) ∧ (inR .u32 ((ip0 % (1000000000 : Int))) ∧ ((0 ≤ ip0 ∧ 0 < (1000000000 : Int) ∧ inR .u64 ip0) ∧ ((0 ≤ (ip0 / (1000000000 : Int)) ∧ 0 < (1000000000 : Int)) ∧ (inR .u32 (((ip0 / (1000000000 : Int)) % (1000000000 : Int))) ∧ ((0 ≤ ip0 ∧ 0 < (1000000000 : Int) ∧ inR .u64 ip0) ∧ ((0 ≤ (ip0 / (1000000000 : Int)) ∧ 0 < (1000000000 : Int) ∧ inR .u64 (ip0 / (1000000000 : Int))) ∧ (inR .u32 (((ip0 / (1000000000 : Int)) / (1000000000 : Int))) ∧ (RunOk Tryz.prog (Instr.buildSlice 58 3 #[(0, (.int .u32 ((ip0 % (1000000000 : Int))))), (1, (.int .u32 (((ip0 / (1000000000 : Int)) % (1000000000 : Int))))), (2, (.int .u32 (((ip0 / (1000000000 : Int)) / (1000000000 : Int)))))]) w.heap.size [] w fun r2 w3 => ∃ (A1 : Option Addr) (n1 c1 : Nat), r2 = (.slice A1 n1 c1) ∧ (Pure Tryz.prog 105 #[(.slice A1 n1 c1)] w3 fun r5 w6 => ∃ (A4 : Option Addr) (n4 c4 : Nat), r5 = (.slice A4 n4 c4) ∧ (R (.slice A4 n4 c4) w6)))))))))))) :
    Pure Tryz.prog 107 #[(.int .u64 ip0)] w R :=
  pure_of_run (garboardref01_wide.cx w w.heap.size R) 100000 follows Tryz.func107 rfl rfl rfl rfl rfl rfl rfl (Eq.mp (by kernel_rfl) h)

def garboardref01_Over.L13 (il8 : Int) (Al9 : Option Addr) (nl9 cl9 : Nat) (Al10 : Option Addr) (nl10 cl10 : Nat) (Al11 : Option Addr) (nl11 cl11 : Nat) (Al12 : Option Addr) (nl12 cl12 : Nat) (il13 : Int) (B : Nat) (w : World) (R : Value → World → Prop) : Prop := At Tryz.prog 108 176 (loopAt Tryz.f108 13) [(8, .v (.int .i64 il8)), (9, .v (.slice Al9 nl9 cl9)), (10, .v (.slice Al10 nl10 cl10)), (11, .v (.slice Al11 nl11 cl11)), (12, .v (.slice Al12 nl12 cl12)), (13, .v (.int .i64 il13))] [] B w R
def garboardref01_Over.L17 (il8 : Int) (Al9 : Option Addr) (nl9 cl9 : Nat) (Al10 : Option Addr) (nl10 cl10 : Nat) (Al11 : Option Addr) (nl11 cl11 : Nat) (Al12 : Option Addr) (nl12 cl12 : Nat) (il13 : Int) (il15 : Int) (il16 : Int) (B : Nat) (w : World) (R : Value → World → Prop) : Prop := At Tryz.prog 108 176 (loopAt Tryz.f108 17) [(8, .v (.int .i64 il8)), (9, .v (.slice Al9 nl9 cl9)), (10, .v (.slice Al10 nl10 cl10)), (11, .v (.slice Al11 nl11 cl11)), (12, .v (.slice Al12 nl12 cl12)), (13, .v (.int .i64 il13)), (15, .v (.int .u64 il15)), (16, .v (.int .u64 il16))] [] B w R
noncomputable def garboardref01_Over.cx (w : World) (B : Nat) (R : Value → World → Prop) : Cx := ⟨Tryz.prog, 108, 176, Tryz.f108.results.toList, [((true, 13), [8, 9, 10, 11, 12, 13], []), ((true, 17), [8, 9, 10, 11, 12, 13, 15, 16], [])], [(9, 0, 2), (9, 4, 2), (9, 5, 2), (9, 6, 2), (11, 4, 2), (16, 9999, 3), (20, 6, 6)], w, B, R⟩
theorem garboardref01_Over.L13.step (il8 : Int) (Al9 : Option Addr) (nl9 cl9 : Nat) (Al10 : Option Addr) (nl10 cl10 : Nat) (Al11 : Option Addr) (nl11 cl11 : Nat) (Al12 : Option Addr) (nl12 cl12 : Nat) (il13 : Int) (B : Nat) (w : World) (R : Value → World → Prop)
    (h : ((((il13 : Int) ≥ (0 : Int)) → (inR .i64 (il13 + il8) ∧ ((0 ≤ (il13 + il8) ∧ (il13 + il8) < nl11) ∧ ∃ a42, Al11 = some a42 ∧ (∃ (i43 : Int), CellsAt w (a42.add (((il13 + il8)).toNat * 1)) [(.int .u32 i43)] ∧ (inR .u64 (i43) ∧ (inR .u64 ((i43) * (1000000000 : Int)) ∧ (inR .i64 (il13 + il8) ∧ (inR .i64 ((il13 + il8) - (1 : Int)) ∧ ((0 ≤ ((il13 + il8) - (1 : Int)) ∧ ((il13 + il8) - (1 : Int)) < nl11) ∧ ∃ a44, Al11 = some a44 ∧ (∃ (i45 : Int), CellsAt w (a44.add ((((il13 + il8) - (1 : Int))).toNat * 1)) [(.int .u32 i45)] ∧ (inR .u64 (i45) ∧ (inR .u64 (((i43) * (1000000000 : Int)) + (i45)) ∧ (∀ w46, Ext B [] w w46 → (inR .i64 (il8 - (1 : Int)) ∧ ((0 ≤ (il8 - (1 : Int)) ∧ (il8 - (1 : Int)) < nl10) ∧ ∃ a47, Al10 = some a47 ∧ (∃ (i48 : Int), CellsAt w46 (a47.add (((il8 - (1 : Int))).toNat * 1)) [(.int .u32 i48)] ∧ (inR .u64 (i48) ∧ ((0 ≤ (((i43) * (1000000000 : Int)) + (i45)) ∧ 0 < (i48) ∧ inR .u64 (((i43) * (1000000000 : Int)) + (i45))) ∧ (inR .i64 (il8 - (1 : Int)) ∧ ((0 ≤ (il8 - (1 : Int)) ∧ (il8 - (1 : Int)) < nl10) ∧ ∃ a49, Al10 = some a49 ∧ (∃ (i50 : Int), CellsAt w46 (a49.add (((il8 - (1 : Int))).toNat * 1)) [(.int .u32 i50)] ∧ (inR .u64 (i50) ∧ ((0 ≤ (((i43) * (1000000000 : Int)) + (i45)) ∧ 0 < (i50)) ∧ (∀ w51, Ext B [] w46 w51 → (garboardref01_Over.L17 il8 Al9 nl9 cl9 Al10 nl10 cl10 Al11 nl11 cl11 Al12 nl12 cl12 il13 ((((i43) * (1000000000 : Int)) + (i45)) / (i48)) ((((i43) * (1000000000 : Int)) + (i45)) % (i50)) B w51 R))))))))))))))))))))))))) ∧ (¬ ((il13 : Int) ≥ (0 : Int)) → ((0 ≤ il8 ∧ il8 ≤ (cl11 : Int)) ∧ ((0 ≤ (0 : Int) ∧ (0 : Int) < nl9) ∧ ∃ a52, Al9 = some a52 ∧ (∃ (i53 : Int), CellsAt w (a52.add (((0 : Int)).toNat * 1)) [(.int .u32 i53)] ∧ (∀ w54, Ext B [] w w54 → (Pure Tryz.prog 105 #[(.slice Al11 ((il8).toNat) cl11)] w54 fun r56 w57 => ∃ (A55 : Option Addr) (n55 c55 : Nat), r56 = (.slice A55 n55 c55) ∧ (Pure Tryz.prog 124 #[(.slice A55 n55 c55), (.int .u32 i53)] w57 fun r60 w61 => ∃ (A58 : Option Addr) (n58 c58 : Nat) (i59 : Int), r60 = (.tuple #[(.slice A58 n58 c58), (.int .u32 i59)]) ∧ (Pure Tryz.prog 105 #[(.slice Al12 nl12 cl12)] w61 fun r63 w64 => ∃ (A62 : Option Addr) (n62 c62 : Nat), r63 = (.slice A62 n62 c62) ∧ (R (.tuple #[(.slice A62 n62 c62), (.slice A58 n58 c58)]) w64))))))))))) :
    garboardref01_Over.L13 il8 Al9 nl9 cl9 Al10 nl10 cl10 Al11 nl11 cl11 Al12 nl12 cl12 il13 B w R :=
  loop_of_run (garboardref01_Over.cx w B R) 100000 (loopAt Tryz.f108 13) _ _ follows Tryz.func108 rfl rfl rfl (Eq.mp (by kernel_rfl) h)
theorem garboardref01_Over.L17.step (il8 : Int) (Al9 : Option Addr) (nl9 cl9 : Nat) (Al10 : Option Addr) (nl10 cl10 : Nat) (Al11 : Option Addr) (nl11 cl11 : Nat) (Al12 : Option Addr) (nl12 cl12 : Nat) (il13 : Int) (il15 : Int) (il16 : Int) (B : Nat) (w : World) (R : Value → World → Prop)
    (h : ((((il16 : Int) < (1000000000 : Int)) → ((((il15 : Int) ≥ (1000000000 : Int)) → (inR .u64 (il15 - (1 : Int)) ∧ (inR .i64 (il8 - (1 : Int)) ∧ ((0 ≤ (il8 - (1 : Int)) ∧ (il8 - (1 : Int)) < nl10) ∧ ∃ a65, Al10 = some a65 ∧ (∀ w66, Ext B [] w w66 → (∃ (i67 : Int), CellsAt w66 (a65.add (((il8 - (1 : Int))).toNat * 1)) [(.int .u32 i67)] ∧ (inR .u64 (i67) ∧ (inR .u64 (il16 + (i67)) ∧ (garboardref01_Over.L17 il8 Al9 nl9 cl9 Al10 nl10 cl10 Al11 nl11 cl11 Al12 nl12 cl12 il13 (il15 - (1 : Int)) (il16 + (i67)) B w66 R))))))))) ∧ (¬ ((il15 : Int) ≥ (1000000000 : Int)) → (inR .i64 (il8 - (2 : Int)) ∧ ((0 ≤ (il8 - (2 : Int)) ∧ (il8 - (2 : Int)) < nl10) ∧ ∃ a68, Al10 = some a68 ∧ (∃ (i69 : Int), CellsAt w (a68.add (((il8 - (2 : Int))).toNat * 1)) [(.int .u32 i69)] ∧ (inR .u64 (i69) ∧ (inR .u64 (il15 * (i69)) ∧ (inR .u64 (il16 * (1000000000 : Int)) ∧ (inR .i64 (il13 + il8) ∧ (inR .i64 ((il13 + il8) - (2 : Int)) ∧ ((0 ≤ ((il13 + il8) - (2 : Int)) ∧ ((il13 + il8) - (2 : Int)) < nl11) ∧ ∃ a70, Al11 = some a70 ∧ (∃ (i71 : Int), CellsAt w (a70.add ((((il13 + il8) - (2 : Int))).toNat * 1)) [(.int .u32 i71)] ∧ (inR .u64 (i71) ∧ (inR .u64 ((il16 * (1000000000 : Int)) + (i71)) ∧ (((((il15 * (i69)) : Int) > ((il16 * (1000000000 : Int)) + (i71))) → (inR .u64 (il15 - (1 : Int)) ∧ (inR .i64 (il8 - (1 : Int)) ∧ ((0 ≤ (il8 - (1 : Int)) ∧ (il8 - (1 : Int)) < nl10) ∧ ∃ a72, Al10 = some a72 ∧ (∀ w73, Ext B [] w w73 → (∃ (i74 : Int), CellsAt w73 (a72.add (((il8 - (1 : Int))).toNat * 1)) [(.int .u32 i74)] ∧ (inR .u64 (i74) ∧ (inR .u64 (il16 + (i74)) ∧ (garboardref01_Over.L17 il8 Al9 nl9 cl9 Al10 nl10 cl10 Al11 nl11 cl11 Al12 nl12 cl12 il13 (il15 - (1 : Int)) (il16 + (i74)) B w73 R))))))))) ∧ (¬ (((il15 * (i69)) : Int) > ((il16 * (1000000000 : Int)) + (i71))) → (∀ w75, Ext B [] w w75 → (PureB Tryz.prog 125 #[(.slice Al11 nl11 cl11), (.slice Al10 nl10 cl10), (.int .i64 il13), (.int .u64 il15)] B w75 fun r77 w78 => (∀ (k ty : Nat) (cs : Array Value), ty ∈ ([] : List Nat) → w75.heap[k]? = some (.cells cs ty (0, 0)) → w78.heap[k]? = w75.heap[k]?) ∧ ∃ (i76 : Int), r77 = (.int .u32 i76) ∧ ((0 ≤ il13 ∧ il13 < nl12) ∧ ∃ a79, Al12 = some a79 ∧ (∃ (cs80 : List Value) (t81 : Nat), B ≤ (a79.add ((il13).toNat * 1)).block ∧ (a79.add ((il13).toNat * 1)).spot = none ∧ w78.heap[(a79.add ((il13).toNat * 1)).block]? = some (.cells cs80.toArray t81 (0, 0)) ∧ (a79.add ((il13).toNat * 1)).off + 1 ≤ cs80.length ∧ hasType t81 [] = false ∧ ∀ w82, Wrote w78 w82 (a79.add ((il13).toNat * 1)).block t81 (setCells cs80 (a79.add ((il13).toNat * 1)).off [(.int .u32 i76)]) → (inR .i64 (il13 - (1 : Int)) ∧ (garboardref01_Over.L13 il8 Al9 nl9 cl9 Al10 nl10 cl10 Al11 nl11 cl11 Al12 nl12 cl12 (il13 - (1 : Int)) B w82 R))))))))))))))))))))))) ∧ (¬ ((il16 : Int) < (1000000000 : Int)) → (∀ w83, Ext B [] w w83 → (PureB Tryz.prog 125 #[(.slice Al11 nl11 cl11), (.slice Al10 nl10 cl10), (.int .i64 il13), (.int .u64 il15)] B w83 fun r85 w86 => (∀ (k ty : Nat) (cs : Array Value), ty ∈ ([] : List Nat) → w83.heap[k]? = some (.cells cs ty (0, 0)) → w86.heap[k]? = w83.heap[k]?) ∧ ∃ (i84 : Int), r85 = (.int .u32 i84) ∧ ((0 ≤ il13 ∧ il13 < nl12) ∧ ∃ a87, Al12 = some a87 ∧ (∃ (cs88 : List Value) (t89 : Nat), B ≤ (a87.add ((il13).toNat * 1)).block ∧ (a87.add ((il13).toNat * 1)).spot = none ∧ w86.heap[(a87.add ((il13).toNat * 1)).block]? = some (.cells cs88.toArray t89 (0, 0)) ∧ (a87.add ((il13).toNat * 1)).off + 1 ≤ cs88.length ∧ hasType t89 [] = false ∧ ∀ w90, Wrote w86 w90 (a87.add ((il13).toNat * 1)).block t89 (setCells cs88 (a87.add ((il13).toNat * 1)).off [(.int .u32 i84)]) → (inR .i64 (il13 - (1 : Int)) ∧ (garboardref01_Over.L13 il8 Al9 nl9 cl9 Al10 nl10 cl10 Al11 nl11 cl11 Al12 nl12 cl12 (il13 - (1 : Int)) B w90 R))))))))) :
    garboardref01_Over.L17 il8 Al9 nl9 cl9 Al10 nl10 cl10 Al11 nl11 cl11 Al12 nl12 cl12 il13 il15 il16 B w R :=
  loop_of_run (garboardref01_Over.cx w B R) 100000 (loopAt Tryz.f108 17) _ _ follows Tryz.func108 rfl rfl rfl (Eq.mp (by kernel_rfl) h)
theorem garboardref01_Over.vc (Ap0 : Option Addr) (np0 cp0 : Nat) (Ap1 : Option Addr) (np1 cp1 : Nat) (w : World) (R : Value → World → Prop)
    (h : (Pure Tryz.prog 79 #[(.slice Ap0 np0 cp0), (.slice Ap1 np1 cp1)] w fun r2 w3 => ∃ (i1 : Int), r2 = (.int .i64 i1) ∧ ((((i1 : Int) < (0 : Int)) → (R (.tuple #[(.slice none 0 0), (.slice Ap0 np0 cp0)]) w3)) ∧ (¬ ((i1 : Int) < (0 : Int)) → (((((np1 : Int) : Int) = (1 : Int)) → ((0 ≤ (0 : Int) ∧ (0 : Int) < np1) ∧ ∃ a4, Ap1 = some a4 ∧ (∃ (i5 : Int), CellsAt w3 (a4.add (((0 : Int)).toNat * 1)) [(.int .u32 i5)] ∧ (Pure Tryz.prog 124 #[(.slice Ap0 np0 cp0), (.int .u32 i5)] w3 fun r8 w9 => ∃ (A6 : Option Addr) (n6 c6 : Nat) (i7 : Int), r8 = (.tuple #[(.slice A6 n6 c6), (.int .u32 i7)]) ∧ (Pure Tryz.prog 78 #[(.int .u32 i7)] w9 fun r11 w12 => ∃ (A10 : Option Addr) (n10 c10 : Nat), r11 = (.slice A10 n10 c10) ∧ (R (.tuple #[(.slice A6 n6 c6), (.slice A10 n10 c10)]) w12)))))) ∧ (¬ (((np1 : Int) : Int) = (1 : Int)) → (inR .i64 ((np1 : Int) - (1 : Int)) ∧ ((0 ≤ ((np1 : Int) - (1 : Int)) ∧ ((np1 : Int) - (1 : Int)) < np1) ∧ ∃ a13, Ap1 = some a13 ∧ (∃ (i14 : Int), CellsAt w3 (a13.add ((((np1 : Int) - (1 : Int))).toNat * 1)) [(.int .u32 i14)] ∧ (inR .i64 (i14) ∧ (inR .i64 ((i14) + (1 : Int)) ∧ ((0 ≤ (1000000000 : Int) ∧ 0 < ((i14) + (1 : Int)) ∧ inR .i64 (1000000000 : Int)) ∧ (inR .u32 (((1000000000 : Int) / ((i14) + (1 : Int)))) ∧ (Pure Tryz.prog 78 #[(.int .u32 (((1000000000 : Int) / ((i14) + (1 : Int)))))] w3 fun r16 w17 => ∃ (A15 : Option Addr) (n15 c15 : Nat), r16 = (.slice A15 n15 c15) ∧ (Pure Tryz.prog 84 #[(.slice Ap1 np1 cp1), (.slice A15 n15 c15)] w17 fun r19 w20 => ∃ (A18 : Option Addr) (n18 c18 : Nat), r19 = (.slice A18 n18 c18) ∧ (RunOk Tryz.prog (Instr.buildSlice 58 0 #[]) w.heap.size [] w20 fun r22 w23 => ∃ (A21 : Option Addr) (n21 c21 : Nat), r22 = (.slice A21 n21 c21) ∧ (Pure Tryz.prog 84 #[(.slice Ap0 np0 cp0), (.slice A15 n15 c15)] w23 fun r25 w26 => ∃ (A24 : Option Addr) (n24 c24 : Nat), r25 = (.slice A24 n24 c24) ∧ (RunOk Tryz.prog (Builtin.append_ #[58, 58] 58 #[(.slice A21 n21 c21), (.slice A24 n24 c24)]) w.heap.size [] w26 fun r28 w29 => ∃ (A27 : Option Addr) (n27 c27 : Nat), r28 = (.slice A27 n27 c27) ∧ (RunOk Tryz.prog (Instr.buildSlice 58 2 #[(0, (.int .u32 (0 : Int))), (1, (.int .u32 (0 : Int)))]) w.heap.size [] w29 fun r31 w32 => ∃ (A30 : Option Addr) (n30 c30 : Nat), r31 = (.slice A30 n30 c30) ∧ (RunOk Tryz.prog (Builtin.append_ #[58, 58] 58 #[(.slice A27 n27 c27), (.slice A30 n30 c30)]) w.heap.size [] w32 fun r34 w35 => ∃ (A33 : Option Addr) (n33 c33 : Nat), r34 = (.slice A33 n33 c33) ∧ (inR .i64 ((np0 : Int) + (1 : Int)) ∧ (Pure Tryz.prog 105 #[(.slice A33 n33 c33)] w35 fun r37 w38 => ∃ (A36 : Option Addr) (n36 c36 : Nat), r37 = (.slice A36 n36 c36) ∧ ((0 ≤ (if (n36 : Int) > ((np0 : Int) + (1 : Int)) then (n36 : Int) else ((np0 : Int) + (1 : Int))) ∧ (if (n36 : Int) > ((np0 : Int) + (1 : Int)) then (n36 : Int) else ((np0 : Int) + (1 : Int))) ≤ (c33 : Int)) ∧ (inR .i64 ((((if (n36 : Int) > ((np0 : Int) + (1 : Int)) then (n36 : Int) else ((np0 : Int) + (1 : Int)))).toNat : Int) - (np1 : Int)) ∧ (RunOk Tryz.prog (Instr.makeSlice 58 (.int .i64 ((((if (n36 : Int) > ((np0 : Int) + (1 : Int)) then (n36 : Int) else ((np0 : Int) + (1 : Int)))).toNat : Int) - (np1 : Int))) (.int .i64 ((((if (n36 : Int) > ((np0 : Int) + (1 : Int)) then (n36 : Int) else ((np0 : Int) + (1 : Int)))).toNat : Int) - (np1 : Int)))) w.heap.size [] w38 fun r40 w41 => ∃ (A39 : Option Addr) (n39 c39 : Nat), r40 = (.slice A39 n39 c39) ∧ (inR .i64 ((((if (n36 : Int) > ((np0 : Int) + (1 : Int)) then (n36 : Int) else ((np0 : Int) + (1 : Int)))).toNat : Int) - (np1 : Int)) ∧ (inR .i64 (((((if (n36 : Int) > ((np0 : Int) + (1 : Int)) then (n36 : Int) else ((np0 : Int) + (1 : Int)))).toNat : Int) - (np1 : Int)) - (1 : Int)) ∧ (garboardref01_Over.L13 (np1 : Int) A15 n15 c15 A18 n18 c18 A33 (((if (n36 : Int) > ((np0 : Int) + (1 : Int)) then (n36 : Int) else ((np0 : Int) + (1 : Int)))).toNat) c33 A39 n39 c39 (((((if (n36 : Int) > ((np0 : Int) + (1 : Int)) then (n36 : Int) else ((np0 : Int) + (1 : Int)))).toNat : Int) - (np1 : Int)) - (1 : Int)) w.heap.size w41 R)))))))))))))))))))))))))))) :
    Pure Tryz.prog 108 #[(.slice Ap0 np0 cp0), (.slice Ap1 np1 cp1)] w R :=
  pure_of_run (garboardref01_Over.cx w w.heap.size R) 100000 follows Tryz.func108 rfl rfl rfl rfl rfl rfl rfl (Eq.mp (by kernel_rfl) h)

def garboardref01_small.L4 (Al0 : Option Addr) (nl0 cl0 : Nat) (il1 : Int) (Al6 : Option Addr) (nl6 cl6 : Nat) (il7 : Int) (il8 : Int) (B : Nat) (w : World) (R : Value → World → Prop) : Prop := At Tryz.prog 124 44 (loopAt Tryz.f124 4) [(0, .v (.slice Al0 nl0 cl0)), (1, .v (.int .u32 il1)), (6, .v (.slice Al6 nl6 cl6)), (7, .v (.int .u64 il7)), (8, .v (.int .i64 il8))] [] B w R
noncomputable def garboardref01_small.cx (w : World) (B : Nat) (R : Value → World → Prop) : Cx := ⟨Tryz.prog, 124, 44, Tryz.f124.results.toList, [((true, 4), [0, 1, 6, 7, 8], [])], [(1, 2, 2)], w, B, R⟩
theorem garboardref01_small.L4.step (Al0 : Option Addr) (nl0 cl0 : Nat) (il1 : Int) (Al6 : Option Addr) (nl6 cl6 : Nat) (il7 : Int) (il8 : Int) (B : Nat) (w : World) (R : Value → World → Prop)
    (h : ((((il8 : Int) ≥ (0 : Int)) → (inR .u64 (il7 * (1000000000 : Int)) ∧ ((0 ≤ il8 ∧ il8 < nl0) ∧ ∃ a4, Al0 = some a4 ∧ (∃ (i5 : Int), CellsAt w (a4.add ((il8).toNat * 1)) [(.int .u32 i5)] ∧ (inR .u64 (i5) ∧ (inR .u64 ((il7 * (1000000000 : Int)) + (i5)) ∧ (inR .u64 (il1) ∧ ((0 ≤ ((il7 * (1000000000 : Int)) + (i5)) ∧ 0 < (il1) ∧ inR .u64 ((il7 * (1000000000 : Int)) + (i5))) ∧ (inR .u32 ((((il7 * (1000000000 : Int)) + (i5)) / (il1))) ∧ ((0 ≤ il8 ∧ il8 < nl6) ∧ ∃ a6, Al6 = some a6 ∧ (∃ (cs7 : List Value) (t8 : Nat), B ≤ (a6.add ((il8).toNat * 1)).block ∧ (a6.add ((il8).toNat * 1)).spot = none ∧ w.heap[(a6.add ((il8).toNat * 1)).block]? = some (.cells cs7.toArray t8 (0, 0)) ∧ (a6.add ((il8).toNat * 1)).off + 1 ≤ cs7.length ∧ hasType t8 [] = false ∧ ∀ w9, Wrote w w9 (a6.add ((il8).toNat * 1)).block t8 (setCells cs7 (a6.add ((il8).toNat * 1)).off [(.int .u32 ((((il7 * (1000000000 : Int)) + (i5)) / (il1))))]) → (inR .u64 (il1) ∧ ((0 ≤ ((il7 * (1000000000 : Int)) + (i5)) ∧ 0 < (il1)) ∧ (inR .i64 (il8 - (1 : Int)) ∧ (garboardref01_small.L4 Al0 nl0 cl0 il1 Al6 nl6 cl6 (((il7 * (1000000000 : Int)) + (i5)) % (il1)) (il8 - (1 : Int)) B w9 R))))))))))))))) ∧ (¬ ((il8 : Int) ≥ (0 : Int)) → (Pure Tryz.prog 105 #[(.slice Al6 nl6 cl6)] w fun r11 w12 => ∃ (A10 : Option Addr) (n10 c10 : Nat), r11 = (.slice A10 n10 c10) ∧ (inR .u32 (il7) ∧ (R (.tuple #[(.slice A10 n10 c10), (.int .u32 (il7))]) w12)))))) :
    garboardref01_small.L4 Al0 nl0 cl0 il1 Al6 nl6 cl6 il7 il8 B w R :=
  loop_of_run (garboardref01_small.cx w B R) 100000 (loopAt Tryz.f124 4) _ _ follows Tryz.func124 rfl rfl rfl (Eq.mp (by kernel_rfl) h)
theorem garboardref01_small.vc (Ap0 : Option Addr) (np0 cp0 : Nat) (ip1 : Int) (w : World) (R : Value → World → Prop)
    (h : (RunOk Tryz.prog (Instr.makeSlice 58 (.int .i64 (np0 : Int)) (.int .i64 (np0 : Int))) w.heap.size [] w fun r2 w3 => ∃ (A1 : Option Addr) (n1 c1 : Nat), r2 = (.slice A1 n1 c1) ∧ (inR .i64 ((np0 : Int) - (1 : Int)) ∧ (garboardref01_small.L4 Ap0 np0 cp0 ip1 A1 n1 c1 (0 : Int) ((np0 : Int) - (1 : Int)) w.heap.size w3 R)))) :
    Pure Tryz.prog 124 #[(.slice Ap0 np0 cp0), (.int .u32 ip1)] w R :=
  pure_of_run (garboardref01_small.cx w w.heap.size R) 100000 follows Tryz.func124 rfl rfl rfl rfl rfl rfl rfl (Eq.mp (by kernel_rfl) h)

def garboardref01_reduce.L5 (Al0 : Option Addr) (nl0 cl0 : Nat) (Al1 : Option Addr) (nl1 cl1 : Nat) (il2 : Int) (il3 : Int) (il9 : Int) (il10 : Int) (il11 : Int) (il12 : Int) (B : Nat) (w : World) (R : Value → World → Prop) : Prop := At Tryz.prog 125 136 (loopAt Tryz.f125 5) [(0, .v (.slice Al0 nl0 cl0)), (1, .v (.slice Al1 nl1 cl1)), (2, .v (.int .i64 il2)), (3, .v (.int .u64 il3)), (9, .v (.int .i64 il9)), (10, .v (.int .i64 il10)), (11, .v (.int .u64 il11)), (12, .v (.int .i64 il12))] [] B w R
def garboardref01_reduce.L21 (Al0 : Option Addr) (nl0 cl0 : Nat) (Al1 : Option Addr) (nl1 cl1 : Nat) (il2 : Int) (il3 : Int) (il9 : Int) (il16 : Int) (il17 : Int) (B : Nat) (w : World) (R : Value → World → Prop) : Prop := At Tryz.prog 125 136 (loopAt Tryz.f125 21) [(0, .v (.slice Al0 nl0 cl0)), (1, .v (.slice Al1 nl1 cl1)), (2, .v (.int .i64 il2)), (3, .v (.int .u64 il3)), (9, .v (.int .i64 il9)), (16, .v (.int .u32 il16)), (17, .v (.int .i64 il17))] [] B w R
noncomputable def garboardref01_reduce.cx (w : World) (B : Nat) (R : Value → World → Prop) : Cx := ⟨Tryz.prog, 125, 136, Tryz.f125.results.toList, [((true, 5), [0, 1, 2, 3, 9, 10, 11, 12], []), ((true, 21), [0, 1, 2, 3, 9, 16, 17], [])], [], w, B, R⟩
theorem garboardref01_reduce.L5.step (Al0 : Option Addr) (nl0 cl0 : Nat) (Al1 : Option Addr) (nl1 cl1 : Nat) (il2 : Int) (il3 : Int) (il9 : Int) (il10 : Int) (il11 : Int) (il12 : Int) (B : Nat) (w : World) (R : Value → World → Prop)
    (h : ((((il12 : Int) < il9) → ((0 ≤ il12 ∧ il12 < nl1) ∧ ∃ a1, Al1 = some a1 ∧ (∃ (i2 : Int), CellsAt w (a1.add ((il12).toNat * 1)) [(.int .u32 i2)] ∧ (inR .u64 (i2) ∧ (inR .u64 (il3 * (i2)) ∧ (inR .u64 ((il3 * (i2)) + il11) ∧ ((0 ≤ ((il3 * (i2)) + il11) ∧ 0 < (1000000000 : Int) ∧ inR .u64 ((il3 * (i2)) + il11)) ∧ (inR .i64 (il2 + il12) ∧ ((0 ≤ (il2 + il12) ∧ (il2 + il12) < nl0) ∧ ∃ a3, Al0 = some a3 ∧ (∃ (i4 : Int), CellsAt w (a3.add (((il2 + il12)).toNat * 1)) [(.int .u32 i4)] ∧ (inR .i64 (i4) ∧ ((0 ≤ ((il3 * (i2)) + il11) ∧ 0 < (1000000000 : Int)) ∧ (inR .i64 ((((il3 * (i2)) + il11) % (1000000000 : Int))) ∧ (inR .i64 ((i4) - ((((il3 * (i2)) + il11) % (1000000000 : Int)))) ∧ (inR .i64 (((i4) - ((((il3 * (i2)) + il11) % (1000000000 : Int)))) - il10) ∧ (((((((i4) - ((((il3 * (i2)) + il11) % (1000000000 : Int)))) - il10) : Int) < (0 : Int)) → (inR .i64 ((((i4) - ((((il3 * (i2)) + il11) % (1000000000 : Int)))) - il10) + (1000000000 : Int)) ∧ (inR .i64 (il2 + il12) ∧ (inR .u32 (((((i4) - ((((il3 * (i2)) + il11) % (1000000000 : Int)))) - il10) + (1000000000 : Int))) ∧ ((0 ≤ (il2 + il12) ∧ (il2 + il12) < nl0) ∧ ∃ a5, Al0 = some a5 ∧ (∃ (cs6 : List Value) (t7 : Nat), B ≤ (a5.add (((il2 + il12)).toNat * 1)).block ∧ (a5.add (((il2 + il12)).toNat * 1)).spot = none ∧ w.heap[(a5.add (((il2 + il12)).toNat * 1)).block]? = some (.cells cs6.toArray t7 (0, 0)) ∧ (a5.add (((il2 + il12)).toNat * 1)).off + 1 ≤ cs6.length ∧ hasType t7 [] = false ∧ ∀ w8, Wrote w w8 (a5.add (((il2 + il12)).toNat * 1)).block t7 (setCells cs6 (a5.add (((il2 + il12)).toNat * 1)).off [(.int .u32 (((((i4) - ((((il3 * (i2)) + il11) % (1000000000 : Int)))) - il10) + (1000000000 : Int))))]) → (inR .i64 (il12 + (1 : Int)) ∧ (garboardref01_reduce.L5 Al0 nl0 cl0 Al1 nl1 cl1 il2 il3 il9 (1 : Int) (((il3 * (i2)) + il11) / (1000000000 : Int)) (il12 + (1 : Int)) B w8 R)))))))) ∧ (¬ (((((i4) - ((((il3 * (i2)) + il11) % (1000000000 : Int)))) - il10) : Int) < (0 : Int)) → (inR .i64 (il2 + il12) ∧ (inR .u32 ((((i4) - ((((il3 * (i2)) + il11) % (1000000000 : Int)))) - il10)) ∧ ((0 ≤ (il2 + il12) ∧ (il2 + il12) < nl0) ∧ ∃ a9, Al0 = some a9 ∧ (∃ (cs10 : List Value) (t11 : Nat), B ≤ (a9.add (((il2 + il12)).toNat * 1)).block ∧ (a9.add (((il2 + il12)).toNat * 1)).spot = none ∧ w.heap[(a9.add (((il2 + il12)).toNat * 1)).block]? = some (.cells cs10.toArray t11 (0, 0)) ∧ (a9.add (((il2 + il12)).toNat * 1)).off + 1 ≤ cs10.length ∧ hasType t11 [] = false ∧ ∀ w12, Wrote w w12 (a9.add (((il2 + il12)).toNat * 1)).block t11 (setCells cs10 (a9.add (((il2 + il12)).toNat * 1)).off [(.int .u32 ((((i4) - ((((il3 * (i2)) + il11) % (1000000000 : Int)))) - il10)))]) → (inR .i64 (il12 + (1 : Int)) ∧ (garboardref01_reduce.L5 Al0 nl0 cl0 Al1 nl1 cl1 il2 il3 il9 (0 : Int) (((il3 * (i2)) + il11) / (1000000000 : Int)) (il12 + (1 : Int)) B w12 R))))))))))))))))))))))) ∧ (¬ ((il12 : Int) < il9) → (inR .i64 (il2 + il9) ∧ ((0 ≤ (il2 + il9) ∧ (il2 + il9) < nl0) ∧ ∃ a13, Al0 = some a13 ∧ (∃ (i14 : Int), CellsAt w (a13.add (((il2 + il9)).toNat * 1)) [(.int .u32 i14)] ∧ (inR .i64 (i14) ∧ (inR .i64 (il11) ∧ (inR .i64 ((i14) - (il11)) ∧ (inR .i64 (((i14) - (il11)) - il10) ∧ (((((((i14) - (il11)) - il10) : Int) ≥ (0 : Int)) → (inR .i64 (il2 + il9) ∧ (inR .u32 ((((i14) - (il11)) - il10)) ∧ ((0 ≤ (il2 + il9) ∧ (il2 + il9) < nl0) ∧ ∃ a15, Al0 = some a15 ∧ (∃ (cs16 : List Value) (t17 : Nat), B ≤ (a15.add (((il2 + il9)).toNat * 1)).block ∧ (a15.add (((il2 + il9)).toNat * 1)).spot = none ∧ w.heap[(a15.add (((il2 + il9)).toNat * 1)).block]? = some (.cells cs16.toArray t17 (0, 0)) ∧ (a15.add (((il2 + il9)).toNat * 1)).off + 1 ≤ cs16.length ∧ hasType t17 [] = false ∧ ∀ w18, Wrote w w18 (a15.add (((il2 + il9)).toNat * 1)).block t17 (setCells cs16 (a15.add (((il2 + il9)).toNat * 1)).off [(.int .u32 ((((i14) - (il11)) - il10)))]) → (inR .u32 (il3) ∧ (R (.int .u32 (il3)) w18))))))) ∧ (¬ (((((i14) - (il11)) - il10) : Int) ≥ (0 : Int)) → (inR .i64 (il2 + il9) ∧ (inR .i64 ((((i14) - (il11)) - il10) + (1000000000 : Int)) ∧ (inR .u32 (((((i14) - (il11)) - il10) + (1000000000 : Int))) ∧ ((0 ≤ (il2 + il9) ∧ (il2 + il9) < nl0) ∧ ∃ a19, Al0 = some a19 ∧ (∃ (cs20 : List Value) (t21 : Nat), B ≤ (a19.add (((il2 + il9)).toNat * 1)).block ∧ (a19.add (((il2 + il9)).toNat * 1)).spot = none ∧ w.heap[(a19.add (((il2 + il9)).toNat * 1)).block]? = some (.cells cs20.toArray t21 (0, 0)) ∧ (a19.add (((il2 + il9)).toNat * 1)).off + 1 ≤ cs20.length ∧ hasType t21 [] = false ∧ ∀ w22, Wrote w w22 (a19.add (((il2 + il9)).toNat * 1)).block t21 (setCells cs20 (a19.add (((il2 + il9)).toNat * 1)).off [(.int .u32 (((((i14) - (il11)) - il10) + (1000000000 : Int))))]) → (garboardref01_reduce.L21 Al0 nl0 cl0 Al1 nl1 cl1 il2 il3 il9 (0 : Int) (0 : Int) B w22 R)))))))))))))))))) :
    garboardref01_reduce.L5 Al0 nl0 cl0 Al1 nl1 cl1 il2 il3 il9 il10 il11 il12 B w R :=
  loop_of_run (garboardref01_reduce.cx w B R) 100000 (loopAt Tryz.f125 5) _ _ follows Tryz.func125 rfl rfl rfl (Eq.mp (by kernel_rfl) h)
theorem garboardref01_reduce.L21.step (Al0 : Option Addr) (nl0 cl0 : Nat) (Al1 : Option Addr) (nl1 cl1 : Nat) (il2 : Int) (il3 : Int) (il9 : Int) (il16 : Int) (il17 : Int) (B : Nat) (w : World) (R : Value → World → Prop)
    (h : ((((il17 : Int) < il9) → (inR .i64 (il2 + il17) ∧ ((0 ≤ (il2 + il17) ∧ (il2 + il17) < nl0) ∧ ∃ a23, Al0 = some a23 ∧ (∃ (i24 : Int), CellsAt w (a23.add (((il2 + il17)).toNat * 1)) [(.int .u32 i24)] ∧ ((0 ≤ il17 ∧ il17 < nl1) ∧ ∃ a25, Al1 = some a25 ∧ (∃ (i26 : Int), CellsAt w (a25.add ((il17).toNat * 1)) [(.int .u32 i26)] ∧ (inR .u32 (i24 + i26) ∧ (inR .u32 ((i24 + i26) + il16) ∧ (inR .i64 (il2 + il17) ∧ ((0 ≤ ((i24 + i26) + il16) ∧ 0 < (1000000000 : Int)) ∧ ((0 ≤ (il2 + il17) ∧ (il2 + il17) < nl0) ∧ ∃ a27, Al0 = some a27 ∧ (∀ w28, Ext B [] w w28 → (∃ (cs29 : List Value) (t30 : Nat), B ≤ (a27.add (((il2 + il17)).toNat * 1)).block ∧ (a27.add (((il2 + il17)).toNat * 1)).spot = none ∧ w28.heap[(a27.add (((il2 + il17)).toNat * 1)).block]? = some (.cells cs29.toArray t30 (0, 0)) ∧ (a27.add (((il2 + il17)).toNat * 1)).off + 1 ≤ cs29.length ∧ hasType t30 [] = false ∧ ∀ w31, Wrote w28 w31 (a27.add (((il2 + il17)).toNat * 1)).block t30 (setCells cs29 (a27.add (((il2 + il17)).toNat * 1)).off [(.int .u32 (((i24 + i26) + il16) % (1000000000 : Int)))]) → ((0 ≤ ((i24 + i26) + il16) ∧ 0 < (1000000000 : Int) ∧ inR .u32 ((i24 + i26) + il16)) ∧ (inR .i64 (il17 + (1 : Int)) ∧ (garboardref01_reduce.L21 Al0 nl0 cl0 Al1 nl1 cl1 il2 il3 il9 (((i24 + i26) + il16) / (1000000000 : Int)) (il17 + (1 : Int)) B w31 R)))))))))))))))) ∧ (¬ ((il17 : Int) < il9) → (inR .i64 (il2 + il9) ∧ (inR .i64 (il2 + il9) ∧ ((0 ≤ (il2 + il9) ∧ (il2 + il9) < nl0) ∧ ∃ a32, Al0 = some a32 ∧ (∃ (i33 : Int), CellsAt w (a32.add (((il2 + il9)).toNat * 1)) [(.int .u32 i33)] ∧ (inR .u32 (i33 + il16) ∧ ((0 ≤ (i33 + il16) ∧ 0 < (1000000000 : Int)) ∧ ((0 ≤ (il2 + il9) ∧ (il2 + il9) < nl0) ∧ ∃ a34, Al0 = some a34 ∧ (∃ (cs35 : List Value) (t36 : Nat), B ≤ (a34.add (((il2 + il9)).toNat * 1)).block ∧ (a34.add (((il2 + il9)).toNat * 1)).spot = none ∧ w.heap[(a34.add (((il2 + il9)).toNat * 1)).block]? = some (.cells cs35.toArray t36 (0, 0)) ∧ (a34.add (((il2 + il9)).toNat * 1)).off + 1 ≤ cs35.length ∧ hasType t36 [] = false ∧ ∀ w37, Wrote w w37 (a34.add (((il2 + il9)).toNat * 1)).block t36 (setCells cs35 (a34.add (((il2 + il9)).toNat * 1)).off [(.int .u32 ((i33 + il16) % (1000000000 : Int)))]) → (inR .u64 (il3 - (1 : Int)) ∧ (inR .u32 ((il3 - (1 : Int))) ∧ (R (.int .u32 ((il3 - (1 : Int)))) w37)))))))))))))) :
    garboardref01_reduce.L21 Al0 nl0 cl0 Al1 nl1 cl1 il2 il3 il9 il16 il17 B w R :=
  loop_of_run (garboardref01_reduce.cx w B R) 100000 (loopAt Tryz.f125 21) _ _ follows Tryz.func125 rfl rfl rfl (Eq.mp (by kernel_rfl) h)
theorem garboardref01_reduce.vcB (Ap0 : Option Addr) (np0 cp0 : Nat) (Ap1 : Option Addr) (np1 cp1 : Nat) (ip2 : Int) (ip3 : Int) (B : Nat) (w : World) (hB : B ≤ w.heap.size) (R : Value → World → Prop)
    (h : (garboardref01_reduce.L5 Ap0 np0 cp0 Ap1 np1 cp1 ip2 ip3 (np1 : Int) (0 : Int) (0 : Int) (0 : Int) B w R)) :
    PureB Tryz.prog 125 #[(.slice Ap0 np0 cp0), (.slice Ap1 np1 cp1), (.int .i64 ip2), (.int .u64 ip3)] B w R :=
  pureB_of_run (garboardref01_reduce.cx w B R) 100000 follows Tryz.func125 rfl rfl rfl rfl hB rfl rfl (Eq.mp (by kernel_rfl) h)

def garboardref01_Plus.L4 (Al0 : Option Addr) (nl0 cl0 : Nat) (Al1 : Option Addr) (nl1 cl1 : Nat) (Al5 : Option Addr) (nl5 cl5 : Nat) (il6 : Int) (il7 : Int) (B : Nat) (w : World) (R : Value → World → Prop) : Prop := At Tryz.prog 126 55 (loopAt Tryz.f126 4) [(0, .v (.slice Al0 nl0 cl0)), (1, .v (.slice Al1 nl1 cl1)), (5, .v (.slice Al5 nl5 cl5)), (6, .v (.int .u32 il6)), (7, .v (.int .i64 il7))] [] B w R
def garboardref01_Plus.J9 (Al0 : Option Addr) (nl0 cl0 : Nat) (Al1 : Option Addr) (nl1 cl1 : Nat) (Al5 : Option Addr) (nl5 cl5 : Nat) (il7 : Int) (il8 : Int) (B : Nat) (w : World) (R : Value → World → Prop) : Prop := At Tryz.prog 126 55 (regionAt Tryz.f126 9) [(0, .v (.slice Al0 nl0 cl0)), (1, .v (.slice Al1 nl1 cl1)), (5, .v (.slice Al5 nl5 cl5)), (7, .v (.int .i64 il7)), (8, .v (.int .u32 il8))] [] B w R
noncomputable def garboardref01_Plus.cx (w : World) (B : Nat) (R : Value → World → Prop) : Cx := ⟨Tryz.prog, 126, 55, Tryz.f126.results.toList, [((true, 4), [0, 1, 5, 6, 7], []), ((false, 9), [0, 1, 5, 7, 8], [])], [(11, 3, 2), (11, 4, 2)], w, B, R⟩
theorem garboardref01_Plus.L4.step (Al0 : Option Addr) (nl0 cl0 : Nat) (Al1 : Option Addr) (nl1 cl1 : Nat) (Al5 : Option Addr) (nl5 cl5 : Nat) (il6 : Int) (il7 : Int) (B : Nat) (w : World) (R : Value → World → Prop)
    (h : ((((il7 : Int) < (nl0 : Int)) → ((((il7 : Int) < (nl0 : Int)) → ((0 ≤ il7 ∧ il7 < nl0) ∧ ∃ a1, Al0 = some a1 ∧ (∃ (i2 : Int), CellsAt w (a1.add ((il7).toNat * 1)) [(.int .u32 i2)] ∧ (inR .u32 (il6 + i2) ∧ (garboardref01_Plus.J9 Al0 nl0 cl0 Al1 nl1 cl1 Al5 nl5 cl5 il7 (il6 + i2) B w R))))) ∧ (¬ ((il7 : Int) < (nl0 : Int)) → (garboardref01_Plus.J9 Al0 nl0 cl0 Al1 nl1 cl1 Al5 nl5 cl5 il7 il6 B w R)))) ∧ (¬ ((il7 : Int) < (nl0 : Int)) → ((((il7 : Int) < (nl1 : Int)) → ((((il7 : Int) < (nl0 : Int)) → ((0 ≤ il7 ∧ il7 < nl0) ∧ ∃ a3, Al0 = some a3 ∧ (∃ (i4 : Int), CellsAt w (a3.add ((il7).toNat * 1)) [(.int .u32 i4)] ∧ (inR .u32 (il6 + i4) ∧ (garboardref01_Plus.J9 Al0 nl0 cl0 Al1 nl1 cl1 Al5 nl5 cl5 il7 (il6 + i4) B w R))))) ∧ (¬ ((il7 : Int) < (nl0 : Int)) → (garboardref01_Plus.J9 Al0 nl0 cl0 Al1 nl1 cl1 Al5 nl5 cl5 il7 il6 B w R)))) ∧ (¬ ((il7 : Int) < (nl1 : Int)) → ((((il6 : Int) > (0 : Int)) → ((((il7 : Int) < (nl0 : Int)) → ((0 ≤ il7 ∧ il7 < nl0) ∧ ∃ a5, Al0 = some a5 ∧ (∃ (i6 : Int), CellsAt w (a5.add ((il7).toNat * 1)) [(.int .u32 i6)] ∧ (inR .u32 (il6 + i6) ∧ (garboardref01_Plus.J9 Al0 nl0 cl0 Al1 nl1 cl1 Al5 nl5 cl5 il7 (il6 + i6) B w R))))) ∧ (¬ ((il7 : Int) < (nl0 : Int)) → (garboardref01_Plus.J9 Al0 nl0 cl0 Al1 nl1 cl1 Al5 nl5 cl5 il7 il6 B w R)))) ∧ (¬ ((il6 : Int) > (0 : Int)) → (Pure Tryz.prog 105 #[(.slice Al5 nl5 cl5)] w fun r8 w9 => ∃ (A7 : Option Addr) (n7 c7 : Nat), r8 = (.slice A7 n7 c7) ∧ (R (.slice A7 n7 c7) w9))))))))) :
    garboardref01_Plus.L4 Al0 nl0 cl0 Al1 nl1 cl1 Al5 nl5 cl5 il6 il7 B w R :=
  loop_of_run (garboardref01_Plus.cx w B R) 100000 (loopAt Tryz.f126 4) _ _ follows Tryz.func126 rfl rfl rfl (Eq.mp (by kernel_rfl) h)
theorem garboardref01_Plus.J9.step (Al0 : Option Addr) (nl0 cl0 : Nat) (Al1 : Option Addr) (nl1 cl1 : Nat) (Al5 : Option Addr) (nl5 cl5 : Nat) (il7 : Int) (il8 : Int) (B : Nat) (w : World) (R : Value → World → Prop)
    (h : ((((il7 : Int) < (nl1 : Int)) → ((0 ≤ il7 ∧ il7 < nl1) ∧ ∃ a10, Al1 = some a10 ∧ (∃ (i11 : Int), CellsAt w (a10.add ((il7).toNat * 1)) [(.int .u32 i11)] ∧ (inR .u32 (il8 + i11) ∧ ((0 ≤ (il8 + i11) ∧ 0 < (1000000000 : Int)) ∧ (RunOk Tryz.prog (Instr.buildSlice 58 1 #[(0, (.int .u32 ((il8 + i11) % (1000000000 : Int))))]) B [] w fun r13 w14 => ∃ (A12 : Option Addr) (n12 c12 : Nat), r13 = (.slice A12 n12 c12) ∧ (RunOk Tryz.prog (Builtin.append_ #[58, 58] 58 #[(.slice Al5 nl5 cl5), (.slice A12 n12 c12)]) B [] w14 fun r16 w17 => ∃ (A15 : Option Addr) (n15 c15 : Nat), r16 = (.slice A15 n15 c15) ∧ ((0 ≤ (il8 + i11) ∧ 0 < (1000000000 : Int) ∧ inR .u32 (il8 + i11)) ∧ (inR .i64 (il7 + (1 : Int)) ∧ (garboardref01_Plus.L4 Al0 nl0 cl0 Al1 nl1 cl1 A15 n15 c15 ((il8 + i11) / (1000000000 : Int)) (il7 + (1 : Int)) B w17 R)))))))))) ∧ (¬ ((il7 : Int) < (nl1 : Int)) → ((0 ≤ il8 ∧ 0 < (1000000000 : Int)) ∧ (RunOk Tryz.prog (Instr.buildSlice 58 1 #[(0, (.int .u32 (il8 % (1000000000 : Int))))]) B [] w fun r19 w20 => ∃ (A18 : Option Addr) (n18 c18 : Nat), r19 = (.slice A18 n18 c18) ∧ (RunOk Tryz.prog (Builtin.append_ #[58, 58] 58 #[(.slice Al5 nl5 cl5), (.slice A18 n18 c18)]) B [] w20 fun r22 w23 => ∃ (A21 : Option Addr) (n21 c21 : Nat), r22 = (.slice A21 n21 c21) ∧ ((0 ≤ il8 ∧ 0 < (1000000000 : Int) ∧ inR .u32 il8) ∧ (inR .i64 (il7 + (1 : Int)) ∧ (garboardref01_Plus.L4 Al0 nl0 cl0 Al1 nl1 cl1 A21 n21 c21 (il8 / (1000000000 : Int)) (il7 + (1 : Int)) B w23 R))))))))) :
    garboardref01_Plus.J9 Al0 nl0 cl0 Al1 nl1 cl1 Al5 nl5 cl5 il7 il8 B w R :=
  join_of_run (garboardref01_Plus.cx w B R) 100000 (regionAt Tryz.f126 9) _ _ follows Tryz.func126 rfl rfl rfl (Eq.mp (by kernel_rfl) h)
theorem garboardref01_Plus.vc (Ap0 : Option Addr) (np0 cp0 : Nat) (Ap1 : Option Addr) (np1 cp1 : Nat) (w : World) (R : Value → World → Prop)
    (h : (garboardref01_Plus.L4 Ap0 np0 cp0 Ap1 np1 cp1 none 0 0 (0 : Int) (0 : Int) w.heap.size w R)) :
    Pure Tryz.prog 126 #[(.slice Ap0 np0 cp0), (.slice Ap1 np1 cp1)] w R :=
  pure_of_run (garboardref01_Plus.cx w w.heap.size R) 100000 follows Tryz.func126 rfl rfl rfl rfl rfl rfl rfl (Eq.mp (by kernel_rfl) h)

def garboardref01_Minus.L4 (Al0 : Option Addr) (nl0 cl0 : Nat) (Al1 : Option Addr) (nl1 cl1 : Nat) (Al5 : Option Addr) (nl5 cl5 : Nat) (il6 : Int) (il7 : Int) (B : Nat) (w : World) (R : Value → World → Prop) : Prop := At Tryz.prog 127 44 (loopAt Tryz.f127 4) [(0, .v (.slice Al0 nl0 cl0)), (1, .v (.slice Al1 nl1 cl1)), (5, .v (.slice Al5 nl5 cl5)), (6, .v (.int .i64 il6)), (7, .v (.int .i64 il7))] [] B w R
def garboardref01_Minus.J9 (Al0 : Option Addr) (nl0 cl0 : Nat) (Al1 : Option Addr) (nl1 cl1 : Nat) (Al5 : Option Addr) (nl5 cl5 : Nat) (il7 : Int) (il8 : Int) (B : Nat) (w : World) (R : Value → World → Prop) : Prop := At Tryz.prog 127 44 (regionAt Tryz.f127 9) [(0, .v (.slice Al0 nl0 cl0)), (1, .v (.slice Al1 nl1 cl1)), (5, .v (.slice Al5 nl5 cl5)), (7, .v (.int .i64 il7)), (8, .v (.int .i64 il8))] [] B w R
noncomputable def garboardref01_Minus.cx (w : World) (B : Nat) (R : Value → World → Prop) : Cx := ⟨Tryz.prog, 127, 44, Tryz.f127.results.toList, [((true, 4), [0, 1, 5, 6, 7], []), ((false, 9), [0, 1, 5, 7, 8], [])], [(12, 3, 2), (12, 4, 2)], w, B, R⟩
theorem garboardref01_Minus.L4.step (Al0 : Option Addr) (nl0 cl0 : Nat) (Al1 : Option Addr) (nl1 cl1 : Nat) (Al5 : Option Addr) (nl5 cl5 : Nat) (il6 : Int) (il7 : Int) (B : Nat) (w : World) (R : Value → World → Prop)
    (h : ((((il7 : Int) < (nl0 : Int)) → ((0 ≤ il7 ∧ il7 < nl0) ∧ ∃ a1, Al0 = some a1 ∧ (∃ (i2 : Int), CellsAt w (a1.add ((il7).toNat * 1)) [(.int .u32 i2)] ∧ (inR .i64 (i2) ∧ (inR .i64 ((i2) - il6) ∧ ((((il7 : Int) < (nl1 : Int)) → ((0 ≤ il7 ∧ il7 < nl1) ∧ ∃ a3, Al1 = some a3 ∧ (∃ (i4 : Int), CellsAt w (a3.add ((il7).toNat * 1)) [(.int .u32 i4)] ∧ (inR .i64 (i4) ∧ (inR .i64 (((i2) - il6) - (i4)) ∧ (garboardref01_Minus.J9 Al0 nl0 cl0 Al1 nl1 cl1 Al5 nl5 cl5 il7 (((i2) - il6) - (i4)) B w R)))))) ∧ (¬ ((il7 : Int) < (nl1 : Int)) → (garboardref01_Minus.J9 Al0 nl0 cl0 Al1 nl1 cl1 Al5 nl5 cl5 il7 ((i2) - il6) B w R)))))))) ∧ (¬ ((il7 : Int) < (nl0 : Int)) → (Pure Tryz.prog 105 #[(.slice Al5 nl5 cl5)] w fun r6 w7 => ∃ (A5 : Option Addr) (n5 c5 : Nat), r6 = (.slice A5 n5 c5) ∧ (R (.slice A5 n5 c5) w7))))) :
    garboardref01_Minus.L4 Al0 nl0 cl0 Al1 nl1 cl1 Al5 nl5 cl5 il6 il7 B w R :=
  loop_of_run (garboardref01_Minus.cx w B R) 100000 (loopAt Tryz.f127 4) _ _ follows Tryz.func127 rfl rfl rfl (Eq.mp (by kernel_rfl) h)
theorem garboardref01_Minus.J9.step (Al0 : Option Addr) (nl0 cl0 : Nat) (Al1 : Option Addr) (nl1 cl1 : Nat) (Al5 : Option Addr) (nl5 cl5 : Nat) (il7 : Int) (il8 : Int) (B : Nat) (w : World) (R : Value → World → Prop)
    (h : ((((il8 : Int) < (0 : Int)) → (inR .i64 (il8 + (1000000000 : Int)) ∧ (inR .u32 ((il8 + (1000000000 : Int))) ∧ (RunOk Tryz.prog (Instr.buildSlice 58 1 #[(0, (.int .u32 ((il8 + (1000000000 : Int)))))]) B [] w fun r9 w10 => ∃ (A8 : Option Addr) (n8 c8 : Nat), r9 = (.slice A8 n8 c8) ∧ (RunOk Tryz.prog (Builtin.append_ #[58, 58] 58 #[(.slice Al5 nl5 cl5), (.slice A8 n8 c8)]) B [] w10 fun r12 w13 => ∃ (A11 : Option Addr) (n11 c11 : Nat), r12 = (.slice A11 n11 c11) ∧ (inR .i64 (il7 + (1 : Int)) ∧ (garboardref01_Minus.L4 Al0 nl0 cl0 Al1 nl1 cl1 A11 n11 c11 (1 : Int) (il7 + (1 : Int)) B w13 R))))))) ∧ (¬ ((il8 : Int) < (0 : Int)) → (inR .u32 (il8) ∧ (RunOk Tryz.prog (Instr.buildSlice 58 1 #[(0, (.int .u32 (il8)))]) B [] w fun r15 w16 => ∃ (A14 : Option Addr) (n14 c14 : Nat), r15 = (.slice A14 n14 c14) ∧ (RunOk Tryz.prog (Builtin.append_ #[58, 58] 58 #[(.slice Al5 nl5 cl5), (.slice A14 n14 c14)]) B [] w16 fun r18 w19 => ∃ (A17 : Option Addr) (n17 c17 : Nat), r18 = (.slice A17 n17 c17) ∧ (inR .i64 (il7 + (1 : Int)) ∧ (garboardref01_Minus.L4 Al0 nl0 cl0 Al1 nl1 cl1 A17 n17 c17 (0 : Int) (il7 + (1 : Int)) B w19 R)))))))) :
    garboardref01_Minus.J9 Al0 nl0 cl0 Al1 nl1 cl1 Al5 nl5 cl5 il7 il8 B w R :=
  join_of_run (garboardref01_Minus.cx w B R) 100000 (regionAt Tryz.f127 9) _ _ follows Tryz.func127 rfl rfl rfl (Eq.mp (by kernel_rfl) h)
theorem garboardref01_Minus.vc (Ap0 : Option Addr) (np0 cp0 : Nat) (Ap1 : Option Addr) (np1 cp1 : Nat) (w : World) (R : Value → World → Prop)
    (h : (garboardref01_Minus.L4 Ap0 np0 cp0 Ap1 np1 cp1 none 0 0 (0 : Int) (0 : Int) w.heap.size w R)) :
    Pure Tryz.prog 127 #[(.slice Ap0 np0 cp0), (.slice Ap1 np1 cp1)] w R :=
  pure_of_run (garboardref01_Minus.cx w w.heap.size R) 100000 follows Tryz.func127 rfl rfl rfl rfl rfl rfl rfl (Eq.mp (by kernel_rfl) h)

end Go.Proofs.YtdoailkigecmkaaGreatDoor.F

namespace Go.Proofs.YtdoailkigecmkaaGreatDoor.B
open Go Go.RowKit Go.Proofs Go.Proofs.YtdoailkigecmkaaGreatDoor.Vc

theorem el_N : El Tryz.prog 58 106 1 4 := El.of (by kernel_rfl)

theorem bt_zero {s : ByteArray} {c : UInt8} {r : Tx} (h : by_ s = c :: r) : bt s 0 = (c.toNat : Int) := by
  have : bt s 0 = (((by_ s).getD 0 0).toNat : Int) := rfl
  rw [this, h]; rfl

theorem ref_Valid_loop (s : ByteArray) (hs : s.size < 2147483648) (B : Nat) (w : World) (R : Value → World → Prop) (hR : R (.bool (isNat (by_ s))) w) : ∀ (d : Nat) (i : Int), 0 ≤ i → i ≤ s.size → s.size - i = d →
    ((by_ s).take i.toNat).all dig = true → F.garboardref01_Valid.L2 s i B w R := by
  intro d
  induction d with
  | zero =>
    intro i h0 h1 hd hp
    have hsz := size_by s
    rw [List.take_of_length_le (by omega)] at hp
    refine F.garboardref01_Valid.L2.step _ _ _ _ _ ⟨fun h => by omega, fun h => ⟨fun h1 => ?_, fun h1 => ⟨fun h2 => ⟨by omega, ?_⟩, fun h2 => ?_⟩⟩⟩
    · obtain ⟨c, hc⟩ := List.length_eq_one_iff.1 (by omega : (by_ s).length = 1)
      rw [hc] at hR hp
      have : isNat [c] = true := by simp [isNat] at hp ⊢; exact hp
      rwa [this] at hR
    · cases hl : by_ s with
      | nil => rw [hl, List.length_nil] at hsz; omega
      | cons c r =>
        rw [bt_zero hl]
        rw [hl] at hR hp hsz
        have hr : r ≠ [] := fun k => by subst k; simp at hsz; omega
        have : isNat (c :: r) = decide ((c.toNat : Int) ≠ 48) := by
          unfold isNat
          rw [hp]
          have e : (c == 48) = decide (c.toNat = 48) := by
            by_cases k : c = 48
            · subst k; rfl
            · have : c.toNat ≠ 48 := fun k2 => k (UInt8.toNat_inj.1 k2)
              simp [k, this]
          have h2 : ((c :: r).length == 1) = false := by simp [hr]
          have e3 : ((c.toNat : Int) ≠ 48) ↔ ¬ c.toNat = 48 := by omega
          simp only [h2, List.isEmpty_cons, Bool.not_false, Bool.true_and, Bool.false_or, Bool.and_true, List.head?_cons]
          by_cases k : c.toNat = 48
          · have : c = 48 := UInt8.toNat_inj.1 k
            subst this
            simp
          · have : c ≠ 48 := fun k2 => k (by rw [k2]; rfl)
            rw [decide_eq_true (show (c.toNat : Int) ≠ 48 by omega)]
            simp [this]
        rwa [this] at hR
    · have : by_ s = [] := List.eq_nil_of_length_eq_zero (by omega)
      rw [this] at hR
      exact hR
  | succ d ih =>
    intro i h0 h1 hd hp
    have hsz := size_by s
    obtain ⟨c, hc, hb, hdr⟩ := bt_get h0 (show i < s.size by omega)
    have bad : dig c = false → isNat (by_ s) = false := by
      intro hk
      unfold isNat
      have : (by_ s).all dig = false := by
        rw [List.all_eq_false]
        exact ⟨c, List.mem_of_getElem? hc, by simp [hk]⟩
      rw [this]
      simp
    refine F.garboardref01_Valid.L2.step _ _ _ _ _ ⟨fun h => ⟨by omega, fun h2 => ?_, fun h2 => ⟨by omega, fun h3 => ?_, fun h3 => ⟨by simp only [inR]; omega, ?_⟩⟩⟩, fun h => by omega⟩
    · rw [bad (by simp [dig]; omega)] at hR; exact hR
    · rw [bad (by simp [dig]; omega)] at hR; exact hR
    · have hc2 : dig c = true := by simp [dig]; omega
      refine ih (i + 1) (by omega) (by omega) (by omega) ?_
      rw [show (i + 1).toNat = i.toNat + 1 by omega, List.take_add_one, hc]
      simp [hp, hc2]

theorem ref_Valid (s : ByteArray) (hs : s.size < 2147483648) (w : World) : Pure Tryz.prog 75 #[.string s] w fun v _ => v = .bool (isNat (by_ s)) :=
  F.garboardref01_Valid.vc _ _ _ (ref_Valid_loop s hs _ _ _ rfl s.size 0 (by omega) (by omega) (by omega) (by simp))

theorem ref_trim_loop (B : Nat) (w : World) (A : Option Addr) (c : Nat) (R : Value → World → Prop) : ∀ (n : Nat) (ws : List Nat), SlU w A ws → ws.length = n → n < 2147483648 → n ≤ c → Small ws →
    (∀ m, m ≤ n → Norm (ws.take m) → wv (ws.take m) = wv ws → R (.slice A m c) w) → F.garboardref01_trim.L1 A n c B w R := by
  intro n
  induction n with
  | zero =>
    intro ws h hl hc hn hs hR
    refine F.garboardref01_trim.L1.step _ _ _ _ _ _ ⟨fun h => by omega, fun _ => hR 0 (by omega) (by simp [Norm]) (by have := List.eq_nil_of_length_eq_zero hl; subst this; rfl)⟩
  | succ n ih =>
    intro ws h hl hc hn hs hR
    obtain ⟨a, hA, x, hx, hcell⟩ := h.cell (j := ((n + 1 : Nat) : Int) - 1) (by omega) (by omega)
    have e : (((n + 1 : Nat) : Int) - 1).toNat = n := by omega
    refine F.garboardref01_trim.L1.step _ _ _ _ _ _ ⟨fun _ => ⟨by simp only [inR]; omega, by omega, a, hA, _, hcell, fun h0 => ⟨by simp only [inR]; omega, by omega, ?_⟩, fun h0 => ?_⟩, fun h => by omega⟩
    · rw [e] at hx ⊢
      have hx0 : x = 0 := by omega
      subst hx0
      have ew := wv_take_zero hl hx
      refine ih (ws.take n) (h.take n) (by simp; omega) (by omega) (by omega) (hs.take n) fun m hm h1 h2 => hR m (by omega) ?_ ?_
      · rw [List.take_take, Nat.min_eq_left hm] at h1; exact h1
      · rw [List.take_take, Nat.min_eq_left hm] at h2; rw [h2, ew]
    · rw [e] at hx
      have et : ws.take (n + 1) = ws := List.take_of_length_le (by omega)
      refine hR (n + 1) (Nat.le_refl _) ?_ (by rw [et])
      rw [et]
      unfold Norm
      rw [List.getLast?_eq_getElem?, hl, Nat.add_sub_cancel, hx]
      intro k
      cases k
      exact h0 rfl

theorem ref_trim {w : World} {A : Option Addr} {n c : Nat} {ws : List Nat} (h : SlU w A ws) (hl : ws.length = n) (hn : n ≤ c) (hc : n < 2147483648) (hs : Small ws) :
    Pure Tryz.prog 105 #[.slice A n c] w fun v w' => w' = w ∧ ∃ m, v = .slice A m c ∧ IsN w A m c (wv ws) ∧ m ≤ n ∧ Norm (ws.take m) ∧ wv (ws.take m) = wv ws :=
  F.garboardref01_trim.vc _ _ _ _ _ (ref_trim_loop _ _ _ _ _ n ws h hl hc hn hs fun m hm h1 h2 => ⟨rfl, m, rfl, ⟨ws.take m, h.take m, by simp; omega, by omega, by omega, hs.take m, h1, h2⟩, hm, h1, h2⟩)
theorem ref_trim_own {w : World} {B : Nat} {A : Option Addr} {n c : Nat} {ws : List Nat} (h : OwnU w B A n c ws) (hn : n < 2147483648) (hs : Small ws) :
    Pure Tryz.prog 105 #[.slice A n c] w fun v w' => w' = w ∧ ∃ m, v = .slice A m c ∧ OwnN w B A m c (wv ws) ∧ IsN w A m c (wv ws) :=
  Pure.mono (ref_trim h.sl h.len h.cap hn hs) fun v w' _ ⟨e, m, e2, h2, h3, h4, h5⟩ => ⟨e, m, e2, ⟨ws.take m, h.take h3 (by
    rcases h.2 with ⟨e, e2⟩ | ⟨g, cap, cur, e, _⟩
    · right; omega
    · cases e; exact .inl (by simp)), hs.take m, h4, h5⟩, h2⟩

theorem ref_Cmp_loop {w0 : World} {A0 A1 : Option Addr} {n0 c0 n1 c1 : Nat} {a b : List Nat} {R : Value → World → Prop} (ha : SlU w0 A0 a) (hal : a.length = n0) (hsa : Small a) (hb : SlU w0 A1 b) (hbl : b.length = n1) (hsb : Small b) (hnn : n0 = n1) (hn : n0 ≤ 1000000)
    (hR : ∀ w, R (.int .i64 (cmpI (wv a) (wv b))) w) :
    ∀ (i : Nat) (w : World), i ≤ n0 → Below w0.heap.size w0 w → a.drop i = b.drop i → F.garboardref01_Cmp.L6 A0 n0 c0 A1 n1 c1 ((i : Int) - 1) w0.heap.size w R := by
  intro i
  induction i with
  | zero =>
    intro w hi hw hd
    refine F.garboardref01_Cmp.L6.step _ _ _ _ _ _ _ _ _ _ ⟨fun h => by omega, fun _ => ?_⟩
    have := hR w
    have e : a = b := by simpa using hd
    subst e
    simpa [cmpI] using this
  | succ i ih =>
    intro w hi hw hd
    have e : ((i + 1 : Nat) : Int) - 1 = i := by omega
    rw [e]
    refine F.garboardref01_Cmp.L6.step _ _ _ _ _ _ _ _ _ _ ⟨fun _ => ?_, fun h => by omega⟩
    refine (ha.keep hw (Nat.le_refl _)).load hal (by omega) (by omega) ?_
    refine (hb.keep hw (Nat.le_refl _)).load hbl (by omega) (by omega) ?_
    rw [Int.toNat_natCast]
    refine ⟨fun h w2 e2 => ?_, fun h w2 e2 => ?_⟩
    · have := hR w2
      have h2 := wv_lt_at hsa (by omega) (by omega) hd (show a.getD i 0 < b.getD i 0 by omega)
      simp only [cmpI] at this
      rwa [if_pos (by omega)] at this
    · have hw2 := hw.trans e2.below
      refine (ha.keep hw2 (Nat.le_refl _)).load hal (by omega) (by omega) ?_
      refine (hb.keep hw2 (Nat.le_refl _)).load hbl (by omega) (by omega) ?_
      rw [Int.toNat_natCast]
      refine ⟨fun h3 w3 e3 => ?_, fun h3 => ⟨by simp only [inR]; omega, fun w3 e3 => ?_⟩⟩
      · have := hR w3
        have h2 := wv_lt_at hsb (by omega) (by omega) hd.symm (show b.getD i 0 < a.getD i 0 by omega)
        simp only [cmpI] at this
        rwa [if_neg (by omega), if_pos (by omega)] at this
      · refine ih w3 (by omega) (hw2.trans e3.below) ?_
        have h1 : a.getD i 0 = b.getD i 0 := by omega
        rw [List.drop_eq_getElem_cons (by omega : i < a.length), List.drop_eq_getElem_cons (by omega : i < b.length), hd]
        congr 1
        rw [List.getD_eq_getElem?_getD, List.getD_eq_getElem?_getD, List.getElem?_eq_getElem (by omega), List.getElem?_eq_getElem (by omega)] at h1
        exact h1

theorem ref_Cmp {w : World} {A0 A1 : Option Addr} {n0 c0 n1 c1 x y : Nat} (ha : IsN w A0 n0 c0 x) (hb : IsN w A1 n1 c1 y) (hx : x < Lim) (hy : y < Lim) :
    Pure Tryz.prog 79 #[.slice A0 n0 c0, .slice A1 n1 c1] w fun v _ => v = .int .i64 (cmpI x y) := by
  have l0 := ha.len hx
  have l1 := hb.len hy
  obtain ⟨a, a1, a2, a3, a4, a5, a6, rfl⟩ := ha
  obtain ⟨b, b1, b2, b3, b4, b5, b6, rfl⟩ := hb
  refine F.garboardref01_Cmp.vc _ _ _ _ _ _ _ _ ⟨fun h => ⟨fun h1 => ?_, fun h1 => ?_⟩, fun h => ⟨by simp only [inR]; omega, ?_⟩⟩
  · have h2 := wv_lt_len a5 b6 (by omega)
    simp only [cmpI]
    rw [if_pos (by omega)]
  · have h2 := wv_lt_len b5 a6 (by omega)
    simp only [cmpI]
    rw [if_neg (by omega), if_pos (by omega)]
  · refine ref_Cmp_loop a1 a2 a5 b1 b2 b5 (by omega) (by omega) (fun w => rfl) n0 w (Nat.le_refl _) (Below.refl _ _) ?_
    rw [List.drop_eq_nil_of_le (by omega), List.drop_eq_nil_of_le (by omega)]
end Go.Proofs.YtdoailkigecmkaaGreatDoor.B

namespace Go.Proofs.YtdoailkigecmkaaGreatDoor.B
open Go Go.RowKit Go.Proofs Go.Proofs.YtdoailkigecmkaaGreatDoor.Vc

theorem getD_over {l : List Nat} {n : Nat} (h : l.length ≤ n) : l.getD n 0 = 0 := by rw [List.getD_eq_getElem?_getD, List.getElem?_eq_none h]; rfl

section
variable {w0 : World} {A0 A1 : Option Addr} {n0 c0 n1 c1 : Nat} {a b : List Nat} {R : Value → World → Prop}

theorem plus_J9 (hb : SlU w0 A1 b) (hbl : b.length = n1) (hsb : Small b) {w : World} {A : Option Addr} {n c s : Nat} {ws : List Nat} (hn : n ≤ 1000000) (hw : Below w0.heap.size w0 w) (ho : OwnU w w0.heap.size A n c ws) (hs : s ≤ 1000000000)
    (h : ∀ A' c' w', OwnU w' w0.heap.size A' (n + 1) c' (ws ++ [(s + b.getD n 0) % 1000000000]) → Below w0.heap.size w0 w' → F.garboardref01_Plus.L4 A0 n0 c0 A1 n1 c1 A' (n + 1) c' ((s + b.getD n 0) / 1000000000 : Nat) (n + 1 : Nat) w0.heap.size w' R) :
    F.garboardref01_Plus.J9 A0 n0 c0 A1 n1 c1 A n c n s w0.heap.size w R := by
  have g := hsb.getD n
  have e3 : (n : Int) + 1 = ((n + 1 : Nat) : Int) := by omega
  refine F.garboardref01_Plus.J9.step _ _ _ _ _ _ _ _ _ _ _ _ _ _ ⟨fun h1 => ?_, fun h1 => ⟨⟨by omega, by omega⟩, ?_⟩⟩
  · refine (hb.keep hw (Nat.le_refl _)).load hbl (by omega) (by omega) ?_
    rw [Int.toNat_natCast]
    have et : (s : Int) + ((b.getD n 0 : Nat) : Int) = ((s + b.getD n 0 : Nat) : Int) := by omega
    rw [et]
    refine ⟨by simp only [inR]; omega, ⟨by omega, by omega⟩, ?_⟩
    refine app_u32 (B0 := w0.heap.size) el_N (Nat.le_refl _) ho hn hw.size (by simp) (by omega) fun A' c' w' k1 _ k2 => ⟨⟨by omega, by omega, by simp only [inR]; omega⟩, by simp only [inR]; omega, ?_⟩
    have e1 : (((s + b.getD n 0 : Nat) : Int) % 1000000000).toNat = (s + b.getD n 0) % 1000000000 := by omega
    have e2 : ((s + b.getD n 0 : Nat) : Int) / 1000000000 = (((s + b.getD n 0) / 1000000000 : Nat) : Int) := by omega
    rw [e1] at k1
    rw [e2, e3]
    exact h A' c' w' k1 (hw.trans k2)
  · have e0 := getD_over (l := b) (n := n) (by omega)
    rw [e0, Nat.add_zero] at h
    refine app_u32 (B0 := w0.heap.size) el_N (Nat.le_refl _) ho hn hw.size (by simp) (by omega) fun A' c' w' k1 _ k2 => ⟨⟨by omega, by omega, by simp only [inR]; omega⟩, by simp only [inR]; omega, ?_⟩
    have e1 : ((s : Int) % 1000000000).toNat = s % 1000000000 := by omega
    have e2 : (s : Int) / 1000000000 = ((s / 1000000000 : Nat) : Int) := by omega
    rw [e1] at k1
    rw [e2, e3]
    exact h A' c' w' k1 (hw.trans k2)

theorem plus_loop (ha : SlU w0 A0 a) (hal : a.length = n0) (hsa : Small a) (hb : SlU w0 A1 b) (hbl : b.length = n1) (hsb : Small b) (h0 : n0 ≤ 500000) (h1 : n1 ≤ 500000)
    (hR : ∀ A n c w', IsN w' A n c (wv a + wv b) → R (.slice A n c) w') :
    ∀ (d : Nat) (n : Nat) (A : Option Addr) (c : Nat) (w : World) (ws : List Nat) (s : Nat), max n0 n1 + 1 - n = d → n ≤ max n0 n1 + 1 → OwnU w w0.heap.size A n c ws → Small ws → Below w0.heap.size w0 w → s ≤ 1 → (max n0 n1 < n → s = 0) →
      wv ws + 1000000000 ^ n * s = wv (a.take n) + wv (b.take n) →
      F.garboardref01_Plus.L4 A0 n0 c0 A1 n1 c1 A n c s n w0.heap.size w R := by
  intro d
  induction d with
  | zero =>
    intro n A c w ws s hd hn ho hs hw hsr hz inv
    have hz0 := hz (by omega)
    subst hz0
    rw [List.take_of_length_le (by omega), List.take_of_length_le (by omega)] at inv
    refine F.garboardref01_Plus.L4.step _ _ _ _ _ _ _ _ _ _ _ _ _ _ ⟨fun h => by omega, fun _ => ⟨fun h => by omega, fun _ => ⟨fun h => by omega, fun _ => ?_⟩⟩⟩
    refine Pure.mono (ref_trim_own ho (by omega) hs) ?_
    rintro v w2 _ ⟨rfl, m, rfl, _, h⟩
    rw [show wv ws = wv a + wv b by omega] at h
    exact ⟨_, _, _, rfl, hR _ _ _ _ h⟩
  | succ d ih =>
    intro n A c w ws s hd hn ho hs hw hsr hz inv
    have ga := hsa.getD n
    have gb := hsb.getD n
    have j9 : F.garboardref01_Plus.J9 A0 n0 c0 A1 n1 c1 A n c n ((s + a.getD n 0 : Nat) : Int) w0.heap.size w R := by
      refine plus_J9 hb hbl hsb (by omega) hw ho (by omega) fun A' c' w' k1 k2 => ?_
      refine ih (n + 1) A' c' w' _ _ (by omega) (by omega) k1 (hs.append (Small.cons (by omega) Small.nil)) k2 (by omega) (fun hm => ?_) ?_
      · rw [getD_over (by omega), getD_over (by omega)]; omega
      · rw [wv_append, wv_take_succ, wv_take_succ, ho.len, Nat.pow_succ]
        simp only [wv, Nat.mul_zero, Nat.add_zero]
        have hm := Nat.div_add_mod (s + a.getD n 0 + b.getD n 0) 1000000000
        generalize (s + a.getD n 0 + b.getD n 0) % 1000000000 = r at *
        generalize (s + a.getD n 0 + b.getD n 0) / 1000000000 = q at *
        generalize 1000000000 ^ n = P at *
        clear ga gb hz
        grind
    have br : (((n : Int) < (n0 : Int)) → ((0 ≤ (n : Int) ∧ (n : Int) < n0) ∧ ∃ a1, A0 = some a1 ∧ (∃ (i2 : Int), CellsAt w (a1.add (((n : Int)).toNat * 1)) [(.int .u32 i2)] ∧ (inR .u32 ((s : Int) + i2) ∧ (F.garboardref01_Plus.J9 A0 n0 c0 A1 n1 c1 A n c n ((s : Int) + i2) w0.heap.size w R))))) ∧ (¬ ((n : Int) < (n0 : Int)) → (F.garboardref01_Plus.J9 A0 n0 c0 A1 n1 c1 A n c n s w0.heap.size w R)) := by
      refine ⟨fun h => ?_, fun h => ?_⟩
      · refine (ha.keep hw (Nat.le_refl _)).load hal (by omega) (by omega) ?_
        rw [Int.toNat_natCast]
        exact ⟨by simp only [inR]; omega, by simpa using j9⟩
      · rw [getD_over (by omega), Nat.add_zero] at j9
        exact j9
    refine F.garboardref01_Plus.L4.step _ _ _ _ _ _ _ _ _ _ _ _ _ _ ⟨fun _ => br, fun hn0 => ⟨fun _ => br, fun hn1 => ⟨fun _ => br, fun hs0 => ?_⟩⟩⟩
    have : s = 0 := by omega
    subst this
    rw [List.take_of_length_le (by omega), List.take_of_length_le (by omega)] at inv
    refine Pure.mono (ref_trim_own ho (by omega) hs) ?_
    rintro v w2 _ ⟨rfl, m, rfl, _, h⟩
    rw [show wv ws = wv a + wv b by omega] at h
    exact ⟨_, _, _, rfl, hR _ _ _ _ h⟩

theorem minus_J9 {w : World} {A : Option Addr} {n c : Nat} {s : Int} {ws : List Nat} (hn : n ≤ 1000000) (hw : Below w0.heap.size w0 w) (ho : OwnU w w0.heap.size A n c ws) (hs : -1000000000 ≤ s ∧ s < 1000000000)
    (h : ∀ A' c' w' (x br : Nat), x < 1000000000 → br ≤ 1 → (x : Int) = s + 1000000000 * br → OwnU w' w0.heap.size A' (n + 1) c' (ws ++ [x]) → Below w0.heap.size w0 w' → F.garboardref01_Minus.L4 A0 n0 c0 A1 n1 c1 A' (n + 1) c' br (n + 1 : Nat) w0.heap.size w' R) :
    F.garboardref01_Minus.J9 A0 n0 c0 A1 n1 c1 A n c n s w0.heap.size w R := by
  have e3 : (n : Int) + 1 = ((n + 1 : Nat) : Int) := by omega
  refine F.garboardref01_Minus.J9.step _ _ _ _ _ _ _ _ _ _ _ _ _ _ ⟨fun h1 => ⟨by simp only [inR]; omega, by simp only [inR]; omega, ?_⟩, fun h1 => ⟨by simp only [inR]; omega, ?_⟩⟩
  · refine app_u32 (B0 := w0.heap.size) el_N (Nat.le_refl _) ho hn hw.size (by simp) (by omega) fun A' c' w' k1 _ k2 => ⟨by simp only [inR]; omega, ?_⟩
    rw [e3]
    exact h A' c' w' _ 1 (by omega) (by omega) (by omega) k1 (hw.trans k2)
  · refine app_u32 (B0 := w0.heap.size) el_N (Nat.le_refl _) ho hn hw.size (by simp) (by omega) fun A' c' w' k1 _ k2 => ⟨by simp only [inR]; omega, ?_⟩
    rw [e3]
    exact h A' c' w' _ 0 (by omega) (by omega) (by omega) k1 (hw.trans k2)

theorem minus_loop (ha : SlU w0 A0 a) (hal : a.length = n0) (hsa : Small a) (hb : SlU w0 A1 b) (hbl : b.length = n1) (hsb : Small b) (h0 : n0 ≤ 500000) (h1 : n1 ≤ n0) (hle : wv b ≤ wv a)
    (hR : ∀ A n c w', IsN w' A n c (wv a - wv b) → R (.slice A n c) w') :
    ∀ (d : Nat) (n : Nat) (A : Option Addr) (c : Nat) (w : World) (ws : List Nat) (s : Nat), n0 - n = d → n ≤ n0 → OwnU w w0.heap.size A n c ws → Small ws → Below w0.heap.size w0 w → s ≤ 1 →
      wv ws + wv (b.take n) = wv (a.take n) + 1000000000 ^ n * s →
      F.garboardref01_Minus.L4 A0 n0 c0 A1 n1 c1 A n c s n w0.heap.size w R := by
  intro d
  induction d with
  | zero =>
    intro n A c w ws s hd hn ho hs hw hsr inv
    rw [List.take_of_length_le (by omega), List.take_of_length_le (by omega)] at inv
    refine F.garboardref01_Minus.L4.step _ _ _ _ _ _ _ _ _ _ _ _ _ _ ⟨fun h => by omega, fun _ => ?_⟩
    have hlt := wv_lt hs
    rw [ho.len] at hlt
    have hs0 : s = 0 := by
      rcases (by omega : s = 0 ∨ s = 1) with h | h
      · exact h
      · subst h; omega
    subst hs0
    refine Pure.mono (ref_trim_own ho (by omega) hs) ?_
    rintro v w2 _ ⟨rfl, m, rfl, _, h⟩
    rw [show wv ws = wv a - wv b by omega] at h
    exact ⟨_, _, _, rfl, hR _ _ _ _ h⟩
  | succ d ih =>
    intro n A c w ws s hd hn ho hs hw hsr inv
    have ga := hsa.getD n
    have gb := hsb.getD n
    have j9 : F.garboardref01_Minus.J9 A0 n0 c0 A1 n1 c1 A n c n ((a.getD n 0 : Nat) - (s : Int) - (b.getD n 0 : Nat)) w0.heap.size w R := by
      refine minus_J9 (by omega) hw ho (by omega) fun A' c' w' x br hx hbr he k1 k2 => ?_
      refine ih (n + 1) A' c' w' _ _ (by omega) (by omega) k1 (hs.append (Small.cons hx Small.nil)) k2 hbr ?_
      rw [wv_append, wv_take_succ, wv_take_succ, ho.len, Nat.pow_succ]
      simp only [wv, Nat.mul_zero, Nat.add_zero]
      have he2 : x + s + b.getD n 0 = a.getD n 0 + 1000000000 * br := by omega
      generalize 1000000000 ^ n = P at *
      clear ga gb he
      grind
    refine F.garboardref01_Minus.L4.step _ _ _ _ _ _ _ _ _ _ _ _ _ _ ⟨fun _ => ?_, fun h => by omega⟩
    refine (ha.keep hw (Nat.le_refl _)).load hal (by omega) (by omega) ?_
    rw [Int.toNat_natCast]
    refine ⟨by simp only [inR]; omega, by simp only [inR]; omega, fun h => ?_, fun h => ?_⟩
    · refine (hb.keep hw (Nat.le_refl _)).load hbl (by omega) (by omega) ?_
      rw [Int.toNat_natCast]
      exact ⟨by simp only [inR]; omega, by simp only [inR]; omega, j9⟩
    · rw [getD_over (l := b) (by omega)] at j9
      simpa using j9
end

theorem ref_Plus {w : World} {A0 A1 : Option Addr} {n0 c0 n1 c1 x y : Nat} (ha : IsN w A0 n0 c0 x) (hb : IsN w A1 n1 c1 y) (hx : x < Lim) (hy : y < Lim) :
    Pure Tryz.prog 126 #[.slice A0 n0 c0, .slice A1 n1 c1] w fun v w' => ∃ A n c, v = .slice A n c ∧ IsN w' A n c (x + y) := by
  have l0 := ha.len hx
  have l1 := hb.len hy
  obtain ⟨a, a1, a2, a3, a4, a5, a6, rfl⟩ := ha
  obtain ⟨b, b1, b2, b3, b4, b5, b6, rfl⟩ := hb
  refine F.garboardref01_Plus.vc _ _ _ _ _ _ _ _ ?_
  exact plus_loop a1 a2 a5 b1 b2 b5 (by omega) (by omega) (fun A n c w' k => ⟨A, n, c, rfl, k⟩) _ 0 none 0 w [] 0 rfl (by omega) (World.ownsRow_nil w _ _ _) Small.nil (Below.refl _ _) (by omega) (by omega) (by simp [wv])

theorem ref_Minus {w : World} {A0 A1 : Option Addr} {n0 c0 n1 c1 x y : Nat} (ha : IsN w A0 n0 c0 x) (hb : IsN w A1 n1 c1 y) (hx : x < Lim) (hyx : y ≤ x) :
    Pure Tryz.prog 127 #[.slice A0 n0 c0, .slice A1 n1 c1] w fun v w' => ∃ A n c, v = .slice A n c ∧ IsN w' A n c (x - y) := by
  have l0 := ha.len hx
  have l1 := hb.len (Nat.lt_of_le_of_lt hyx hx)
  obtain ⟨a, a1, a2, a3, a4, a5, a6, rfl⟩ := ha
  obtain ⟨b, b1, b2, b3, b4, b5, b6, rfl⟩ := hb
  have hlen : n1 ≤ n0 := by
    apply Decidable.byContradiction
    intro k
    have := wv_lt_len a5 b6 (by omega)
    omega
  refine F.garboardref01_Minus.vc _ _ _ _ _ _ _ _ ?_
  exact minus_loop a1 a2 a5 b1 b2 b5 (by omega) (by omega) hyx (fun A n c w' k => ⟨A, n, c, rfl, k⟩) _ 0 none 0 w [] 0 rfl (by omega) (World.ownsRow_nil w _ _ _) Small.nil (Below.refl _ _) (by omega) (by simp [wv])
end Go.Proofs.YtdoailkigecmkaaGreatDoor.B

namespace Go.Proofs.YtdoailkigecmkaaGreatDoor.B

theorem guess_ge {top u2 low M v1 v2 vl q : Nat} (hu : u2 < 1000000000) (hl : low < M) (h : q * ((v1 * 1000000000 + v2) * M + vl) ≤ (top * 1000000000 + u2) * M + low) : q * v1 ≤ top := by
  apply Decidable.byContradiction
  intro hn
  have h1 : (top + 1) * (1000000000 * M) ≤ q * v1 * (1000000000 * M) := Nat.mul_le_mul_right _ (by omega)
  have h2 : q * v1 * (1000000000 * M) ≤ q * ((v1 * 1000000000 + v2) * M + vl) := by
    have : q * ((v1 * 1000000000 + v2) * M + vl) = q * v1 * (1000000000 * M) + q * (v2 * M + vl) := by grind
    omega
  have h3 : (top * 1000000000 + u2) * M + M ≤ (top + 1) * (1000000000 * M) := by
    have a : (top * 1000000000 + u2 + 1) * M ≤ ((top + 1) * 1000000000) * M := Nat.mul_le_mul_right _ (by omega)
    grind
  omega

theorem guess_gt {top u2 low M v1 v2 vl q g rest : Nat} (hl : low < M) (h : q * ((v1 * 1000000000 + v2) * M + vl) ≤ (top * 1000000000 + u2) * M + low) (hg : g * v1 + rest = top) (hq : q ≤ g)
    (ht : g * v2 > rest * 1000000000 + u2) : q < g := by
  rcases Nat.lt_or_ge q g with h1 | h1
  · exact h1
  · have e : q = g := by omega
    subst e
    have h2 : (top * 1000000000 + u2 + 1) * M ≤ (q * (v1 * 1000000000 + v2)) * M := Nat.mul_le_mul_right _ (by grind)
    have h3 : q * ((v1 * 1000000000 + v2) * M + vl) = (q * (v1 * 1000000000 + v2)) * M + q * vl := by grind
    have h4 : (top * 1000000000 + u2 + 1) * M = (top * 1000000000 + u2) * M + M := by grind
    omega

theorem guess_le {top u2 low M v1 v2 vl g rest : Nat} (hl : vl < M) (hv : 1 ≤ v1) (hg : g * v1 + rest = top) (hb : g ≤ 1000000000) (ht : g * v2 ≤ rest * 1000000000 + u2) :
    g * ((v1 * 1000000000 + v2) * M + vl) < ((top * 1000000000 + u2) * M + low) + ((v1 * 1000000000 + v2) * M + vl) := by
  have h1 : (g * (v1 * 1000000000 + v2)) * M ≤ (top * 1000000000 + u2) * M := Nat.mul_le_mul_right _ (by grind)
  have h2 : g * ((v1 * 1000000000 + v2) * M + vl) = (g * (v1 * 1000000000 + v2)) * M + g * vl := by grind
  have h3 : g * vl ≤ 1000000000 * vl := Nat.mul_le_mul_right _ hb
  have h4 : 1 * (1000000000 * M) ≤ v1 * (1000000000 * M) := Nat.mul_le_mul_right _ hv
  have h5 : (v1 * 1000000000 + v2) * M = v1 * (1000000000 * M) + v2 * M := by grind
  omega

theorem guess_first {top u2 low M v1 v2 vl g : Nat} (hM : 0 < M) (h2 : v2 < 1000000000) (hl : vl < M) (hn : 1000000000 ≤ 2 * v1) (hT : (top * 1000000000 + u2) * M + low < 1000000000 * ((v1 * 1000000000 + v2) * M + vl)) (hg : g * v1 ≤ top) : g ≤ 1000000001 := by
  have h1 : top * M < (v1 * 1000000000 + v2 + 1) * M := by grind
  have h3 : top < v1 * 1000000000 + v2 + 1 := Nat.lt_of_mul_lt_mul_right h1
  apply Decidable.byContradiction
  intro h4
  have h5 : 1000000002 * v1 ≤ g * v1 := Nat.mul_le_mul_right _ (by omega)
  omega

theorem factor_half {v f : Nat} (hv : 1 ≤ v) (hv2 : v < 1000000000) (hf : f = 1000000000 / (v + 1)) : 1 ≤ f ∧ (v + 1) * f ≤ 1000000000 ∧ 1000000000 ≤ 2 * (v * f) := by
  have h0 := Nat.div_add_mod 1000000000 (v + 1)
  have h1 := Nat.mod_lt 1000000000 (show 0 < v + 1 by omega)
  rw [← hf] at h0
  have hf1 : 1 ≤ f := by
    rw [hf]
    exact (Nat.one_le_div_iff (by omega)).2 (by omega)
  refine ⟨hf1, by omega, ?_⟩
  obtain ⟨a, rfl⟩ : ∃ a, v = a + 1 := ⟨v - 1, by omega⟩
  obtain ⟨b, rfl⟩ : ∃ b, f = b + 1 := ⟨f - 1, by omega⟩
  have e1 : (a + 1 + 1) * (b + 1) = (a + 1) * (b + 1) + (b + 1) := by grind
  have e2 : (a + 1) * (b + 1) = a * b + a + b + 1 := by grind
  omega

theorem sub_word {P Q W W' V g vi c br D x c' br' : Nat} (h : W' + g * V = Q + P * (c + br)) (hset : W + P * D = W' + P * x) (hx : x + (g * vi + c) % 1000000000 + br = D + 1000000000 * br') (hc : c' = (g * vi + c) / 1000000000) :
    W + g * (V + P * vi) = Q + (P * 1000000000) * (c' + br') := by
  have hdm := Nat.div_add_mod (g * vi + c) 1000000000
  rw [← hc] at hdm
  generalize (g * vi + c) % 1000000000 = m at *
  have e : P * x + P * m + P * br = P * D + P * (1000000000 * br') := by rw [← Nat.mul_add, ← Nat.mul_add, hx, Nat.mul_add]
  have e2 : P * (1000000000 * c') + P * m = P * (g * vi) + P * c := by rw [← Nat.mul_add, hdm, Nat.mul_add]
  clear hx hdm hc
  grind

theorem add_word {P Q W W' V vi c D x c' : Nat} (h : W' + P * c = Q + V) (hset : W + P * D = W' + P * x) (hx : x = (c + (D + vi)) % 1000000000) (hc : c' = (c + (D + vi)) / 1000000000) :
    W + (P * 1000000000) * c' = Q + (V + P * vi) := by
  have hdm := Nat.div_add_mod (c + (D + vi)) 1000000000
  rw [← hc, ← hx] at hdm
  have e2 : P * (1000000000 * c') + P * x = P * c + (P * D + P * vi) := by rw [← Nat.mul_add, hdm, Nat.mul_add, Nat.mul_add]
  clear hx hdm hc
  grind

theorem wv_top {D : List Nat} {k : Nat} (hk : k ≤ D.length) (hs : Small D) (h : wv D < 1000000000 ^ (k + 1)) : wv D = wv (D.take k) + 1000000000 ^ k * D.getD k 0 ∧ wv (D.take k) < 1000000000 ^ k := by
  have h1 := wv_split D k hk
  rw [wv_drop] at h1
  have h2 := wv_lt (hs.take k)
  rw [List.length_take, Nat.min_eq_left hk] at h2
  have h3 : wv (D.drop (k + 1)) = 0 := by
    apply Decidable.byContradiction
    intro h3
    have h4 : 1000000000 ^ k * (1000000000 * 1) ≤ 1000000000 ^ k * (1000000000 * wv (D.drop (k + 1))) := Nat.mul_le_mul_left _ (Nat.mul_le_mul_left _ (by omega))
    rw [Nat.mul_add] at h1
    rw [Nat.pow_succ] at h
    omega
  rw [h3] at h1
  exact ⟨by simpa using h1, h2⟩

end Go.Proofs.YtdoailkigecmkaaGreatDoor.B
