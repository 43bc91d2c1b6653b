/- Part 4 of the proofs that: What the statements SensorChecks, SensorTakes and SensorVotes rest on. -/
import Derived.Test.YtdoailkigecmkaaGreatDoorV3
set_option linter.unusedVariables false
set_option linter.unusedSimpArgs false
namespace Go.Proofs.YtdoailkigecmkaaGreatDoor.B
open Go Go.RowKit Go.Proofs Go.Proofs.YtdoailkigecmkaaGreatDoor.Vc

theorem OwnU.other {w w' : World} {B : Nat} {A : Option Addr} {n c : Nat} {ws : List Nat} (h : OwnU w B A n c ws) (hh : ∀ b, Value.ownBlock (.slice A n c) = some b → w'.heap[b]? = w.heap[b]?) : OwnU w' B A n c ws := by
  refine ⟨h.1, ?_⟩
  rcases h.2 with h1 | ⟨g, cap, cur, h1, h2, h3, h4⟩
  · exact .inl h1
  · refine .inr ⟨g, cap, cur, h1, h2, ?_, h4⟩
    rw [hh g (by rw [h1]; rfl)]
    exact h3
theorem OwnU.blk {w : World} {B : Nat} {A : Option Addr} {n c : Nat} {ws : List Nat} (h : OwnU w B A n c ws) : ∀ b, Value.ownBlock (.slice A n c) = some b → B ≤ b ∧ b < w.heap.size := World.ownsRow.lt h

theorem app_getD {pre D : List Nat} {j i : Nat} (h : pre.length = j) : (pre ++ D).getD (i + j) 0 = D.getD i 0 := by
  rw [List.getD_eq_getElem?_getD, List.getElem?_append_right (by omega), List.getD_eq_getElem?_getD]
  congr 2; omega
theorem app_set {pre D : List Nat} {j i x : Nat} (h : pre.length = j) : (pre ++ D).set (i + j) x = pre ++ D.set i x := by
  rw [List.set_append_right _ _ (by omega)]
  congr 2; omega
theorem getD_set_ne {D : List Nat} {i t x : Nat} (h : i ≠ t) : (D.set i x).getD t 0 = D.getD t 0 := by
  rw [List.getD_eq_getElem?_getD, List.getElem?_set_ne h, ← List.getD_eq_getElem?_getD]

theorem getD_of_drop {D D0 : List Nat} {k : Nat} (h : D.drop k = D0.drop k) : D.getD k 0 = D0.getD k 0 := by
  have e : ∀ l : List Nat, l.getD k 0 = (l.drop k).getD 0 0 := fun l => by rw [List.getD_eq_getElem?_getD, List.getD_eq_getElem?_getD, List.getElem?_drop, Nat.add_zero]
  rw [e D, e D0, h]

structure Div (w1 w : World) (B : Nat) (Au : Option Addr) (nu cu : Nat) (us : List Nat) (Aq : Option Addr) (nq cq : Nat) (qs : List Nat) : Prop where
  u : OwnU w B Au nu cu us
  q : OwnU w B Aq nq cq qs
  su : Small us
  sq : Small qs
  fr : ∀ k, k < w1.heap.size → some k ≠ Value.ownBlock (.slice Au nu cu) → some k ≠ Value.ownBlock (.slice Aq nq cq) → w.heap[k]? = w1.heap[k]?
  below : Below B w1 w

section
variable {w1 w : World} {B : Nat} {Au : Option Addr} {nu cu : Nat} {us : List Nat} {Aq : Option Addr} {nq cq : Nat} {qs : List Nat}

def Sep (A Au Aq : Option Addr) (nu cu nq cq : Nat) : Prop := ∀ a, A = some a → some a.block ≠ Value.ownBlock (.slice Au nu cu) ∧ some a.block ≠ Value.ownBlock (.slice Aq nq cq)
def Apart (Au Aq : Option Addr) : Prop := ∀ a b, Au = some a → Aq = some b → a.block ≠ b.block

theorem Div.sl (h : Div w1 w B Au nu cu us Aq nq cq qs) {A : Option Addr} {ws : List Nat} (hs : SlU w1 A ws) (hsep : Sep A Au Aq nu cu nq cq) : SlU w A ws := by
  rcases hs with h1 | ⟨b, off, all, fr, hA, hb, hc⟩
  · exact .inl h1
  · refine .inr ⟨b, off, all, fr, hA, ?_, hc⟩
    have h2 := hsep _ hA
    rw [h.fr b (Array.getElem?_eq_some_iff.1 hb).1 h2.1 h2.2]
    exact hb

theorem Div.ext (h : Div w1 w B Au nu cu us Aq nq cq qs) {w2 : World} (e : Ext B [] w w2) : Div w1 w2 B Au nu cu us Aq nq cq qs := by
  have same : ∀ k, k < w.heap.size → w2.heap[k]? = w.heap[k]? := fun k hk => by
    rcases e.other k hk with h1 | ⟨t, ht, _⟩
    · exact h1
    · cases ht
  exact ⟨h.u.other fun b hb => same b (h.u.blk b hb).2, h.q.other fun b hb => same b (h.q.blk b hb).2, h.su, h.sq,
    fun k hk h1 h2 => by rw [same k (Nat.lt_of_lt_of_le hk h.below.size)]; exact h.fr k hk h1 h2, h.below.trans e.below⟩

theorem Div.storeU (h : Div w1 w B Au nu cu us Aq nq cq qs) (ha : Apart Au Aq) {j x : Int} (h0 : 0 ≤ j) (h1 : j < nu) (hx : 0 ≤ x) (hx2 : x < 1000000000) {K : World → Prop}
    (k : ∀ w2, Div w1 w2 B Au nu cu (us.set j.toNat x.toNat) Aq nq cq qs → K w2) :
    (0 ≤ j ∧ j < nu) ∧ ∃ a, Au = some a ∧ ∃ (cs : List Value) (t : Nat), B ≤ (a.add (j.toNat * 1)).block ∧ (a.add (j.toNat * 1)).spot = none ∧ w.heap[(a.add (j.toNat * 1)).block]? = some (.cells cs.toArray t (0, 0)) ∧
      (a.add (j.toNat * 1)).off + 1 ≤ cs.length ∧ hasType t [] = false ∧ ∀ w1, Wrote w w1 (a.add (j.toNat * 1)).block t (setCells cs (a.add (j.toNat * 1)).off [.int .u32 x]) → K w1 := by
  refine h.u.store h0 h1 hx rfl fun w2 o1 b1 f1 => k w2 ⟨o1, h.q.other fun b hb => f1 b ?_, h.su.set (by omega), h.sq, fun k hk h1 h2 => by rw [f1 k h1]; exact h.fr k hk h1 h2, h.below.trans b1⟩
  intro e
  cases Au with
  | none => simp [Value.ownBlock] at e
  | some a => cases Aq with
    | none => simp [Value.ownBlock] at hb
    | some a' =>
      simp [Value.ownBlock] at e hb
      exact ha _ _ rfl rfl (by omega)

theorem Div.storeQ (h : Div w1 w B Au nu cu us Aq nq cq qs) (ha : Apart Au Aq) {j x : Int} (h0 : 0 ≤ j) (h1 : j < nq) (hx : 0 ≤ x) (hx2 : x < 1000000000) {K : World → Prop}
    (k : ∀ w2, Div w1 w2 B Au nu cu us Aq nq cq (qs.set j.toNat x.toNat) → K w2) :
    (0 ≤ j ∧ j < nq) ∧ ∃ a, Aq = some a ∧ ∃ (cs : List Value) (t : Nat), B ≤ (a.add (j.toNat * 1)).block ∧ (a.add (j.toNat * 1)).spot = none ∧ w.heap[(a.add (j.toNat * 1)).block]? = some (.cells cs.toArray t (0, 0)) ∧
      (a.add (j.toNat * 1)).off + 1 ≤ cs.length ∧ hasType t [] = false ∧ ∀ w1, Wrote w w1 (a.add (j.toNat * 1)).block t (setCells cs (a.add (j.toNat * 1)).off [.int .u32 x]) → K w1 := by
  refine h.q.store h0 h1 hx rfl fun w2 o1 b1 f1 => k w2 ⟨h.u.other fun b hb => f1 b ?_, o1, h.su, h.sq.set (by omega), fun k hk h1 h2 => by rw [f1 k h2]; exact h.fr k hk h1 h2, h.below.trans b1⟩
  intro e
  cases Aq with
  | none => simp [Value.ownBlock] at e
  | some a => cases Au with
    | none => simp [Value.ownBlock] at hb
    | some a' =>
      simp [Value.ownBlock] at e hb
      exact ha _ _ rfl rfl (by omega)
end

section
variable {w1 : World} {B : Nat} {Af Au Av Aq : Option Addr} {nf cf nu cu nv cv nq cq : Nat} {vs : List Nat} {R : Value → World → Prop}

theorem div_J49 (ha : Apart Au Aq) (hn : nu ≤ 1000000) {w : World} {pre D qs : List Nat} {g j : Nat} {last : Int} (h : Div w1 w B Au nu cu (pre ++ D) Aq nq cq qs) (hj : pre.length = j) (hk : nv < D.length) (hg : g < 1000000000) (hq : j < nq) (hl : last < 1000000000)
    (hR : ∀ w2, Div w1 w2 B Au nu cu (pre ++ D.set nv last.toNat) Aq nq cq (qs.set j g) → F.natural_num_divide.L16 Af nf cf Au nu cu Av nv cv nv Aq nq cq ((j : Int) - 1) B w2 R) :
    F.natural_num_divide.J49 Af nf cf Au nu cu Av nv cv nv Aq nq cq j g last B w R := by
  have hul := h.u.len
  simp only [List.length_append] at hul
  have e : (if (0 : Int) > last then (0 : Int) else last) = (last.toNat : Int) := by split <;> omega
  refine F.natural_num_divide.J49.step _ _ _ _ _ _ _ _ _ _ _ _ _ _ _ _ _ _ _ ⟨by simp only [inR]; omega, by rw [e]; simp only [inR]; omega, ?_⟩
  rw [e]
  refine h.storeU ha (by omega) (by omega) (by omega) (by omega) fun w2 h2 => ⟨by simp only [inR]; omega, ?_⟩
  have e2 : ((j : Int) + (nv : Int)).toNat = nv + j := by omega
  rw [e2, Int.toNat_natCast, app_set hj] at h2
  refine h2.storeQ ha (by omega) (by omega) (by omega) (by omega) fun w3 h3 => ⟨by simp only [inR]; omega, ?_⟩
  rw [Int.toNat_natCast, Int.toNat_natCast] at h3
  exact hR w3 h3

theorem div_L42 (ha : Apart Au Aq) (hn : nu ≤ 1000000) (hv : SlU w1 Av vs) (hvl : vs.length = nv) (hsv : Small vs) (hsep : Sep Av Au Aq nu cu nq cq) {pre D0 qs : List Nat} {g j : Nat} {last : Int} (hj : pre.length = j) (hk : nv < D0.length) (hlast : -2000000000 ≤ last ∧ last < 0)
    (hR : ∀ w D (up : Nat), Div w1 w B Au nu cu (pre ++ D) Aq nq cq qs → D.length = D0.length → up ≤ 1 → D.drop nv = D0.drop nv → wv D + 1000000000 ^ nv * up = wv D0 + wv vs →
      F.natural_num_divide.J49 Af nf cf Au nu cu Av nv cv nv Aq nq cq j g (last + up) B w R) :
    ∀ (d i : Nat) (w : World) (D : List Nat) (up : Nat), nv - i = d → i ≤ nv → Div w1 w B Au nu cu (pre ++ D) Aq nq cq qs → D.length = D0.length → up ≤ 1 → D.drop nv = D0.drop nv → wv D + 1000000000 ^ i * up = wv D0 + wv (vs.take i) →
      F.natural_num_divide.L42 Af nf cf Au nu cu Av nv cv nv Aq nq cq j g last up nv i B w R := by
  intro d
  induction d with
  | zero =>
    intro i w D up hd hi h hl hu hk2 he
    have hin : i = nv := by omega
    subst hin
    rw [List.take_of_length_le (by omega)] at he
    refine F.natural_num_divide.L42.step _ _ _ _ _ _ _ _ _ _ _ _ _ _ _ _ _ _ _ _ _ _ ⟨fun h => by omega, fun _ => ⟨by simp only [inR]; omega, by simp only [inR]; omega, ?_⟩⟩
    exact hR w D up h hl hu hk2 he
  | succ d ih =>
    intro i w D up hd hi h hl hu hk2 he
    have hul := h.u.len
    have hul2 := hul
    simp only [List.length_append] at hul
    have gv := hsv.getD i
    have gu := h.su.getD (i + j)
    have e2 : ((i : Int) + (j : Int)).toNat = i + j := by omega
    rw [app_getD hj] at gu
    refine F.natural_num_divide.L42.step _ _ _ _ _ _ _ _ _ _ _ _ _ _ _ _ _ _ _ _ _ _ ⟨fun _ => ⟨by simp only [inR]; omega, ?_⟩, fun h => by omega⟩
    refine h.u.sl.load hul2 (by omega) (by omega) ⟨by rw [e2, app_getD hj]; simp only [inR]; omega, ?_⟩
    refine (h.sl hv hsep).load hvl (by omega) (by omega) ?_
    rw [e2, Int.toNat_natCast, app_getD hj]
    refine ⟨by simp only [inR]; omega, by simp only [inR]; omega, by simp only [inR]; omega, by simp only [inR]; omega, by omega, by simp only [inR]; omega, ?_⟩
    have hown : ∃ a, Au = some a := by
      obtain ⟨a, hA, _⟩ := h.u.sl.cell (j := (i : Int) + j) (by omega) (by omega)
      exact ⟨a, hA⟩
    obtain ⟨a, rfl⟩ := hown
    have step : ∀ w3, Div w1 w3 B (some a) nu cu ((pre ++ D).set ((i : Int) + (j : Int)).toNat ((((up : Int) + ((D.getD i 0 : Nat) + (vs.getD i 0 : Nat))) % 1000000000)).toNat) Aq nq cq qs →
        F.natural_num_divide.L42 Af nf cf (some a) nu cu Av nv cv nv Aq nq cq j g last (((up : Int) + ((D.getD i 0 : Nat) + (vs.getD i 0 : Nat))) / 1000000000) nv ((i : Int) + 1) B w3 R := by
      intro w3 h3
      obtain ⟨t, ht⟩ : ∃ t, t = up + (D.getD i 0 + vs.getD i 0) := ⟨_, rfl⟩
      have et : (up : Int) + ((D.getD i 0 : Nat) + (vs.getD i 0 : Nat)) = (t : Int) := by omega
      have e3 : (i : Int) + 1 = ((i + 1 : Nat) : Int) := by omega
      have e4 : ((t : Int) % 1000000000).toNat = t % 1000000000 := by omega
      have e5 : (t : Int) / 1000000000 = ((t / 1000000000 : Nat) : Int) := by omega
      rw [et, e2, e4, app_set hj] at h3
      rw [et, e3, e5]
      refine ih (i + 1) w3 _ _ (by omega) (by omega) h3 (by simpa using hl) (by omega) (by rw [List.drop_set, if_pos (by omega)]; exact hk2) ?_
      rw [wv_take_succ, Nat.pow_succ]
      exact add_word he (wv_set D i _ (by omega)) (by rw [ht]) (by rw [ht])
    refine ⟨⟨by omega, by omega⟩, a, rfl, fun w2 e => ?_⟩
    obtain ⟨_, a', ea, hst'⟩ := (h.ext e).storeU ha (j := (i : Int) + (j : Int)) (x := ((up : Int) + ((D.getD i 0 : Nat) + (vs.getD i 0 : Nat))) % 1000000000) (by omega) (by omega) (by omega) (by omega) (K := fun w3 => (0 ≤ ((up : Int) + ((D.getD i 0 : Nat) + (vs.getD i 0 : Nat))) ∧ 0 < (1000000000 : Int) ∧ inR .u64 ((up : Int) + ((D.getD i 0 : Nat) + (vs.getD i 0 : Nat)))) ∧ inR .i64 ((i : Int) + 1) ∧
      F.natural_num_divide.L42 Af nf cf (some a) nu cu Av nv cv nv Aq nq cq j g last (((up : Int) + ((D.getD i 0 : Nat) + (vs.getD i 0 : Nat))) / 1000000000) nv ((i : Int) + 1) B w3 R) (fun w3 h3 => ⟨⟨by omega, by omega, by simp only [inR]; omega⟩, by simp only [inR]; omega, step w3 h3⟩)
    cases ea
    rw [e2] at hst'
    exact hst'

theorem div_L26 (ha : Apart Au Aq) (hn : nu ≤ 1000000) (hv : SlU w1 Av vs) (hvl : vs.length = nv) (hsv : Small vs) (hsep : Sep Av Au Aq nu cu nq cq) {pre D0 qs : List Nat} {g j : Nat} (hj : pre.length = j) (hk : nv < D0.length) (hg : g ≤ 1000000000)
    (hR : ∀ w D (c br : Nat), Div w1 w B Au nu cu (pre ++ D) Aq nq cq qs → D.length = D0.length → c < 1000000000 → br ≤ 1 → D.drop nv = D0.drop nv → wv D + g * wv vs = wv D0 + 1000000000 ^ nv * (c + br) →
      ((D0.getD nv 0 : Nat) - (c : Int) - (br : Int) < 0 → 1 ≤ g ∧ F.natural_num_divide.L42 Af nf cf Au nu cu Av nv cv nv Aq nq cq j ((g : Int) - 1) ((D0.getD nv 0 : Nat) - (c : Int) - (br : Int)) 0 nv 0 B w R) ∧
      (¬ ((D0.getD nv 0 : Nat) - (c : Int) - (br : Int) < 0) → F.natural_num_divide.J49 Af nf cf Au nu cu Av nv cv nv Aq nq cq j g ((D0.getD nv 0 : Nat) - (c : Int) - (br : Int)) B w R)) :
    ∀ (d i : Nat) (w : World) (D : List Nat) (c br : Nat), nv - i = d → i ≤ nv → Div w1 w B Au nu cu (pre ++ D) Aq nq cq qs → D.length = D0.length → c < 1000000000 → br ≤ 1 → D.drop nv = D0.drop nv → wv D + g * wv (vs.take i) = wv D0 + 1000000000 ^ i * (c + br) →
      F.natural_num_divide.L26 Af nf cf Au nu cu Av nv cv nv Aq nq cq j g c br nv i B w R := by
  intro d
  induction d with
  | zero =>
    intro i w D c br hd hi h hl hc hb hk2 he
    have hin : i = nv := by omega
    subst hin
    have hul := h.u.len
    have hul2 := hul
    simp only [List.length_append] at hul
    have gu := h.su.getD (i + j)
    rw [app_getD hj] at gu
    rw [List.take_of_length_le (by omega)] at he
    have e2 : ((j : Int) + (i : Int)).toNat = i + j := by omega
    have hr := hR w D c br h hl hc hb hk2 he
    rw [← getD_of_drop hk2] at hr
    refine F.natural_num_divide.L26.step _ _ _ _ _ _ _ _ _ _ _ _ _ _ _ _ _ _ _ _ _ _ ⟨fun h => by omega, fun _ => ⟨by simp only [inR]; omega, ?_⟩⟩
    refine h.u.sl.load hul2 (by omega) (by omega) ?_
    rw [e2, app_getD hj]
    exact ⟨by simp only [inR]; omega, by simp only [inR]; omega, by simp only [inR]; omega, fun h => ⟨by have := (hr.1 h).1; simp only [inR]; omega, (hr.1 h).2⟩, fun h => hr.2 h⟩
  | succ d ih =>
    intro i w D c br hd hi h hl hc hb hk2 he
    have hul := h.u.len
    have hul2 := hul
    simp only [List.length_append] at hul
    have gv := hsv.getD i
    have gu := h.su.getD (i + j)
    have e2 : ((i : Int) + (j : Int)).toNat = i + j := by omega
    rw [app_getD hj] at gu
    have e3 : (i : Int) + 1 = ((i + 1 : Nat) : Int) := by omega
    have hgv : g * vs.getD i 0 ≤ 1000000000 * 999999999 := Nat.mul_le_mul hg (by omega)
    obtain ⟨p, hp⟩ : ∃ p, p = g * vs.getD i 0 + c := ⟨_, rfl⟩
    have ep : (g : Int) * (vs.getD i 0 : Nat) = ((g * vs.getD i 0 : Nat) : Int) := by simp
    have ep2 : ((g * vs.getD i 0 : Nat) : Int) + (c : Int) = (p : Int) := by omega
    have e5 : (p : Int) / 1000000000 = ((p / 1000000000 : Nat) : Int) := by omega
    have next : ∀ (br' x : Nat) w2, br' ≤ 1 → x + p % 1000000000 + br = D.getD i 0 + 1000000000 * br' → Div w1 w2 B Au nu cu ((pre ++ D).set (i + j) x) Aq nq cq qs →
        F.natural_num_divide.L26 Af nf cf Au nu cu Av nv cv nv Aq nq cq j g ((p / 1000000000 : Nat) : Int) br' nv ((i : Int) + 1) B w2 R := by
      intro br' x w2 hb' hx h2
      rw [app_set hj] at h2
      rw [e3]
      refine ih (i + 1) w2 _ _ br' (by omega) (by omega) h2 (by simpa using hl) (by omega) hb' (by rw [List.drop_set, if_pos (by omega)]; exact hk2) ?_
      rw [wv_take_succ, Nat.pow_succ]
      exact sub_word he (wv_set D i x (by omega)) (by rw [← hp]; exact hx) (by rw [← hp])
    refine F.natural_num_divide.L26.step _ _ _ _ _ _ _ _ _ _ _ _ _ _ _ _ _ _ _ _ _ _ ⟨fun _ => ⟨by simp only [inR]; omega, ?_⟩, fun h => by omega⟩
    refine (h.sl hv hsep).load hvl (by omega) (by omega) ?_
    rw [Int.toNat_natCast, ep, ep2]
    refine ⟨by simp only [inR]; omega, by simp only [inR]; omega, by simp only [inR]; omega, ⟨by omega, by omega, by simp only [inR]; omega⟩, by simp only [inR]; omega, ?_⟩
    refine h.u.sl.load hul2 (by omega) (by omega) ?_
    rw [e2, app_getD hj, e5]
    refine ⟨by simp only [inR]; omega, by omega, by simp only [inR]; omega, by simp only [inR]; omega, fun h0 => ⟨by simp only [inR]; omega, by simp only [inR]; omega, by simp only [inR]; omega, ?_⟩, fun h0 => ⟨by simp only [inR]; omega, by simp only [inR]; omega, ?_⟩⟩
    · rw [← e2]
      refine h.storeU ha (by omega) (by omega) (by omega) (by omega) fun w2 h2 => ⟨by simp only [inR]; omega, ?_⟩
      rw [e2] at h2
      exact next 1 _ w2 (by omega) (by omega) h2
    · rw [← e2]
      refine h.storeU ha (by omega) (by omega) (by omega) (by omega) fun w2 h2 => ⟨by simp only [inR]; omega, ?_⟩
      rw [e2] at h2
      exact next 0 _ w2 (by omega) (by omega) h2

theorem SlU.load2 {w : World} {A : Option Addr} {ws : List Nat} {n : Nat} (h : SlU w A ws) (hl : ws.length = n) {j : Int} (h0 : 0 ≤ j) (h1 : j < n) {K : World → Int → Prop} (k : ∀ w2, Ext B [] w w2 → K w2 (ws.getD j.toNat 0 : Nat)) :
    (0 ≤ j ∧ j < n) ∧ ∃ a, A = some a ∧ ∀ w2, Ext B [] w w2 → ∃ i : Int, CellsAt w2 (a.add (j.toNat * 1)) [.int .u32 i] ∧ K w2 i := by
  obtain ⟨_, a, hA, _, _⟩ := h.load hl h0 h1 (K := fun _ => True) trivial
  refine ⟨⟨h0, h1⟩, a, hA, fun w2 e => ?_⟩
  obtain ⟨_, a', hA', i, hc, hk⟩ := (Ext.nilSl h e).load hl h0 h1 (K := K w2) (k w2 e)
  rw [hA] at hA'
  cases hA'
  exact ⟨i, hc, hk⟩

theorem div_L20 (hn : nu ≤ 1000000) (hv : SlU w1 Av vs) (hvl : vs.length = nv) (hsv : Small vs) (hsep : Sep Av Au Aq nu cu nq cq) (hnv : 2 ≤ nv) {pre D qs : List Nat} {j : Nat} (hj : pre.length = j) (hk : nv < D.length)
    {top low M vl q T V : Nat} (hlow : low < M) (hvlow : vl < M) (hv1 : 1 ≤ vs.getD (nv - 1) 0) (hV : V = (vs.getD (nv - 1) 0 * 1000000000 + vs.getD (nv - 2) 0) * M + vl) (hT : T = (top * 1000000000 + D.getD (nv - 2) 0) * M + low)
    (hqT : q * V ≤ T) (hqb : q < 1000000000)
    (hR : ∀ w (g : Nat), Div w1 w B Au nu cu (pre ++ D) Aq nq cq qs → g ≤ 1000000000 → q ≤ g → g * V < T + V → F.natural_num_divide.L26 Af nf cf Au nu cu Av nv cv nv Aq nq cq j g 0 0 nv 0 B w R) :
    ∀ (g rest : Nat) (w : World), Div w1 w B Au nu cu (pre ++ D) Aq nq cq qs → g * vs.getD (nv - 1) 0 + rest = top → q ≤ g → g ≤ 1000000001 → rest < 1000000000 →
      F.natural_num_divide.L20 Af nf cf Au nu cu Av nv cv nv Aq nq cq j g rest B w R := by
  have g1 := hsv.getD (nv - 1)
  have g2 := hsv.getD (nv - 2)
  have ex1 : ((nv : Int) - 1).toNat = nv - 1 := by omega
  have ex2 : ((nv : Int) - 2).toNat = nv - 2 := by omega
  have ex3 : ((j : Int) + (nv : Int) - 2).toNat = (nv - 2) + j := by omega
  intro g
  induction g with
  | zero =>
    intro rest w h ht hq hg hr
    have hul := h.u.len
    have hul2 := hul
    simp only [List.length_append] at hul
    have gu := h.su.getD (nv - 2 + j)
    rw [app_getD hj] at gu
    refine F.natural_num_divide.L20.step _ _ _ _ _ _ _ _ _ _ _ _ _ _ _ _ _ _ _ ⟨fun h => by omega, fun _ => ⟨by simp only [inR]; omega, ?_⟩⟩
    refine (h.sl hv hsep).load hvl (by omega) (by omega) ?_
    rw [ex2]
    refine ⟨by simp only [inR]; omega, by simp only [inR]; omega, by simp only [inR]; omega, by simp only [inR]; omega, by simp only [inR]; omega, ?_⟩
    refine h.u.sl.load hul2 (by omega) (by omega) ?_
    rw [ex3, app_getD hj]
    refine ⟨by simp only [inR]; omega, by simp only [inR]; omega, fun h0 => by omega, fun h0 w2 e => hR w2 0 (h.ext e) (by omega) hq ?_⟩
    rw [hT, hV]
    exact guess_le hvlow hv1 ht (by omega) (by omega)
  | succ g ih =>
    intro rest w h ht hq hg hr
    have hul := h.u.len
    have hul2 := hul
    simp only [List.length_append] at hul
    have gu := h.su.getD (nv - 2 + j)
    rw [app_getD hj] at gu
    have eg : ((g + 1 : Nat) : Int) - 1 = (g : Int) := by omega
    have next : q ≤ g → ∀ w2, Ext B [] w w2 → inR .u64 ((vs.getD (nv - 1) 0 : Nat) : Int) ∧ inR .u64 ((rest : Int) + (vs.getD (nv - 1) 0 : Nat)) ∧
        (((rest : Int) + (vs.getD (nv - 1) 0 : Nat) ≥ (1000000000 : Int) → F.natural_num_divide.L26 Af nf cf Au nu cu Av nv cv nv Aq nq cq j g 0 0 nv 0 B w2 R) ∧
        (¬ ((rest : Int) + (vs.getD (nv - 1) 0 : Nat) ≥ (1000000000 : Int)) → F.natural_num_divide.L20 Af nf cf Au nu cu Av nv cv nv Aq nq cq j g ((rest : Int) + (vs.getD (nv - 1) 0 : Nat)) B w2 R)) := by
      intro hqg w2 e
      have ht2 : g * vs.getD (nv - 1) 0 + (rest + vs.getD (nv - 1) 0) = top := by rw [Nat.add_mul] at ht; omega
      refine ⟨by simp only [inR]; omega, by simp only [inR]; omega, fun h0 => hR w2 g (h.ext e) (by omega) hqg ?_, fun h0 => ?_⟩
      · rw [hT, hV]
        refine guess_le hvlow hv1 ht2 (by omega) ?_
        have h4 : g * vs.getD (nv - 2) 0 ≤ 1000000000 * 1000000000 := Nat.mul_le_mul (by omega) (by omega)
        omega
      · exact ih (rest + vs.getD (nv - 1) 0) w2 (h.ext e) ht2 hqg (by omega) (by omega)
    refine F.natural_num_divide.L20.step _ _ _ _ _ _ _ _ _ _ _ _ _ _ _ _ _ _ _ ⟨fun h0 => ⟨by simp only [inR]; omega, by simp only [inR]; omega, ?_⟩, fun h0 => ⟨by simp only [inR]; omega, ?_⟩⟩
    · rw [eg]
      refine (h.sl hv hsep).load2 hvl (by omega) (by omega) fun w2 e => ?_
      rw [ex1]
      exact next (by omega) w2 e
    · have hgv : (g + 1) * vs.getD (nv - 2) 0 ≤ 1000000000 * 1000000000 := Nat.mul_le_mul (by omega) (by omega)
      have ep : ((g + 1 : Nat) : Int) * (vs.getD (nv - 2) 0 : Nat) = (((g + 1) * vs.getD (nv - 2) 0 : Nat) : Int) := by simp
      refine (h.sl hv hsep).load hvl (by omega) (by omega) ?_
      rw [ex2, ep]
      refine ⟨by simp only [inR]; omega, by simp only [inR]; omega, by simp only [inR]; omega, by simp only [inR]; omega, by simp only [inR]; omega, ?_⟩
      refine h.u.sl.load hul2 (by omega) (by omega) ?_
      rw [ex3, app_getD hj, eg]
      refine ⟨by simp only [inR]; omega, by simp only [inR]; omega, fun h1 => ⟨by simp only [inR]; omega, by simp only [inR]; omega, ?_⟩, fun h1 w2 e => hR w2 (g + 1) (h.ext e) (by omega) hq ?_⟩
      · refine (h.sl hv hsep).load2 hvl (by omega) (by omega) fun w2 e => ?_
        rw [ex1]
        refine next ?_ w2 e
        rw [hT, hV] at hqT
        have := guess_gt hlow hqT ht hq (by omega)
        omega
      · rw [hT, hV]
        exact guess_le hvlow hv1 ht (by omega) (by omega)
end
end Go.Proofs.YtdoailkigecmkaaGreatDoor.B

namespace Go.Proofs.YtdoailkigecmkaaGreatDoor.B
open Go Go.RowKit Go.Proofs Go.Proofs.YtdoailkigecmkaaGreatDoor.Vc

theorem OwnU.base {w : World} {B B' : Nat} {A : Option Addr} {n c : Nat} {ws : List Nat} (h : OwnU w B' A n c ws) (hB : B ≤ B') : OwnU w B A n c ws := by
  refine ⟨h.1, ?_⟩
  rcases h.2 with h1 | ⟨g, cap, cur, h1, h2, h3⟩
  · exact .inl h1
  · exact .inr ⟨g, cap, cur, h1, Nat.le_trans hB h2, h3⟩

theorem words3 {D : List Nat} {kk : Nat} (hk : kk + 2 < D.length) (hs : Small D) (h : wv D < 1000000000 ^ (kk + 2 + 1)) :
    wv D = ((D.getD (kk + 2) 0 * 1000000000 + D.getD (kk + 1) 0) * 1000000000 + D.getD kk 0) * 1000000000 ^ kk + wv (D.take kk) ∧ wv (D.take kk) < 1000000000 ^ kk := by
  have h1 := (wv_top (by omega) hs h).1
  have h2 := wv_lt (hs.take kk)
  rw [List.length_take, Nat.min_eq_left (by omega)] at h2
  refine ⟨?_, h2⟩
  rw [h1, wv_take_succ, wv_take_succ, Nat.pow_succ, Nat.pow_succ]
  grind
theorem words2 {vs : List Nat} {kk : Nat} (hk : vs.length = kk + 2) (hs : Small vs) :
    wv vs = (vs.getD (kk + 1) 0 * 1000000000 + vs.getD kk 0) * 1000000000 ^ kk + wv (vs.take kk) ∧ wv (vs.take kk) < 1000000000 ^ kk := by
  have h2 := wv_lt (hs.take kk)
  rw [List.length_take, Nat.min_eq_left (by omega)] at h2
  refine ⟨?_, h2⟩
  have e : vs = vs.take (kk + 1 + 1) := (List.take_of_length_le (by omega)).symm
  have h1 : wv vs = wv (vs.take (kk + 1 + 1)) := by rw [← e]
  rw [h1, wv_take_succ, wv_take_succ, Nat.pow_succ]
  grind

theorem Sep.of {A Au Aq : Option Addr} {nu cu nq cq : Nat} (h1 : ∀ a b, A = some a → Au = some b → a.block ≠ b.block) (h2 : ∀ a b, A = some a → Aq = some b → a.block ≠ b.block) : Sep A Au Aq nu cu nq cq := by
  intro a ha
  constructor
  · cases Au with
    | none => simp [Value.ownBlock]
    | some b => simp [Value.ownBlock]; exact h1 a b ha rfl
  · cases Aq with
    | none => simp [Value.ownBlock]
    | some b => simp [Value.ownBlock]; exact h2 a b ha rfl

section
variable {w1 : World} {B : Nat} {Af Au Av Aq : Option Addr} {nf cf nu cu nv cv nq cq : Nat} {vs : List Nat} {R : Value → World → Prop}

set_option maxHeartbeats 2000000 in
theorem div_L16 (ha : Apart Au Aq) (hn : nu ≤ 1000000) (hB : B ≤ w1.heap.size) (hv : SlU w1 Av vs) (hvl : vs.length = nv) (hsv : Small vs) (hsep : Sep Av Au Aq nu cu nq cq) (hnv : 2 ≤ nv) (hnq : nu = nq + nv) (hhalf : 1000000000 ≤ 2 * vs.getD (nv - 1) 0)
    {f : Nat} (hf : IsN w1 Af nf cf f) (hsepf : Sep Af Au Aq nu cu nq cq) (hf0 : 0 < f) (hf1 : f ≤ 1000000000) {U0 : Nat}
    (hR : ∀ A n c A' n' c' w, IsN w A n c (U0 / wv vs) → IsN w A' n' c' (U0 % wv vs / f) → R (.tuple #[.slice A n c, .slice A' n' c']) w) :
    ∀ (i : Nat) (w : World) (us qs : List Nat), i ≤ nq → Div w1 w B Au nu cu us Aq nq cq qs → wv (us.drop i) < wv vs → wv (qs.drop i) * wv vs * 1000000000 ^ i + wv us = U0 →
      F.natural_num_divide.L16 Af nf cf Au nu cu Av nv cv nv Aq nq cq ((i : Int) - 1) B w R := by
  obtain ⟨kk, rfl⟩ : ∃ kk, nv = kk + 2 := ⟨nv - 2, by omega⟩
  have hVlt : wv vs < 1000000000 ^ (kk + 2) := by have := wv_lt hsv; rwa [hvl] at this
  obtain ⟨hV, hvlow⟩ := words2 hvl hsv
  have ev1 : kk + 2 - 1 = kk + 1 := by omega
  have g1 := hsv.getD (kk + 1)
  have g2 := hsv.getD kk
  rw [ev1] at hhalf
  intro i
  induction i with
  | zero =>
    intro w us qs hi h hlt he
    have hul := h.u.len
    have hcap := h.u.cap
    simp only [List.drop_zero, Nat.pow_zero, Nat.mul_one] at hlt he
    have ediv : U0 / wv vs = wv qs := by rw [← he, Nat.mul_comm, Nat.mul_add_div (by omega), Nat.div_eq_of_lt hlt, Nat.add_zero]
    have emod : U0 % wv vs = wv us := by rw [← he, Nat.mul_comm, Nat.mul_add_mod, Nat.mod_eq_of_lt hlt]
    rw [ediv, emod] at hR
    have etake : wv (us.take (kk + 2)) = wv us := by
      have h1 := wv_split us (kk + 2) (by omega)
      have h2 : wv (us.drop (kk + 2)) = 0 := by
        apply Decidable.byContradiction
        intro h3
        have h4 : 1000000000 ^ (kk + 2) * 1 ≤ 1000000000 ^ (kk + 2) * wv (us.drop (kk + 2)) := Nat.mul_le_mul_left _ (by omega)
        omega
      rw [h2] at h1
      omega
    have hfw : IsN w Af nf cf f := by
      obtain ⟨ws, k1, k2⟩ := hf
      exact ⟨ws, h.sl k1 hsepf, k2⟩
    refine F.natural_num_divide.L16.step _ _ _ _ _ _ _ _ _ _ _ _ _ _ _ _ _ ⟨fun h => by omega, fun _ => ?_⟩
    refine Pure.mono (natural_small hfw) ?_
    rintro v w2 hb2 rfl
    refine ⟨_, _, rfl, ⟨by omega, by omega⟩, ?_⟩
    have e2 : (((kk + 2 : Nat) : Int)).toNat = kk + 2 := by omega
    rw [e2, if_pos (by omega)]
    refine Pure.mono (natural_trim ((h.u.sl.below hb2).take (kk + 2)) (by simp; omega) (by omega) (by omega) (h.su.take _)) ?_
    rintro v w3 hb3 ⟨rfl, m, rfl, hm, hm1, _⟩
    rw [etake] at hm
    refine ⟨_, _, _, rfl, Pure.mono (natural_by hm (by omega) hf0 hf1) ?_⟩
    rintro v w4 hb4 ⟨A1, n1, c1, A2, n2, c2, rfl, k1, k2⟩
    refine ⟨_, _, _, _, _, _, rfl, ?_⟩
    have hq4 : SlU w4 Aq qs := (h.q.sl.below hb2).below hb4
    refine Pure.mono (natural_trim hq4 h.q.len h.q.cap (by have := h.q.cap; omega) h.sq) ?_
    rintro v w5 hb5 ⟨rfl, m', rfl, hm', _⟩
    exact ⟨_, _, _, rfl, hR _ _ _ _ _ _ _ hm' k1⟩
  | succ j ih =>
    intro w us qs hi h hlt he
    have hul := h.u.len
    have hql := h.q.len
    have e0 : ((j + 1 : Nat) : Int) - 1 = (j : Int) := by omega
    rw [e0]
    obtain ⟨pre, hpre⟩ : ∃ pre, pre = us.take j := ⟨_, rfl⟩
    obtain ⟨D, hD⟩ : ∃ D, D = us.drop j := ⟨_, rfl⟩
    have hus : us = pre ++ D := by rw [hpre, hD, List.take_append_drop]
    have hj : pre.length = j := by rw [hpre]; simp; omega
    have hDl : D.length = nu - j := by rw [hD]; simp [hul]
    have hsD : Small D := by rw [hD]; exact fun x hx => h.su x (List.mem_of_mem_drop hx)
    have hdrop : us.drop (j + 1) = D.drop 1 := by rw [hD, List.drop_drop]
    rw [hdrop] at hlt
    have hT0 : wv D = D.getD 0 0 + 1000000000 * wv (D.drop 1) := by have := wv_drop D 0; simpa using this
    have gD0 := hsD.getD 0
    have hT : wv D < 1000000000 * wv vs := by omega
    have hT3 : wv D < 1000000000 ^ (kk + 2 + 1) := by rw [Nat.pow_succ]; omega
    obtain ⟨hTw, hlow⟩ := words3 (by omega) hsD hT3
    have gt0 := hsD.getD (kk + 2)
    have gt1 := hsD.getD (kk + 1)
    have gt2 := hsD.getD kk
    have hwu : wv us = wv pre + 1000000000 ^ j * wv D := by rw [hus, wv_append, hj]
    obtain ⟨q, hq⟩ : ∃ q, q = wv D / wv vs := ⟨_, rfl⟩
    have hVpos : 0 < wv vs := by omega
    have hqT : q * wv vs ≤ wv D := by rw [hq]; exact Nat.div_mul_le_self _ _
    have hqT2 : wv D < q * wv vs + wv vs := by
      have h1 := Nat.div_add_mod (wv D) (wv vs)
      have h2 := Nat.mod_lt (wv D) hVpos
      rw [← hq, Nat.mul_comm] at h1
      omega
    have hqb : q < 1000000000 := by
      rw [hq, Nat.div_lt_iff_lt_mul hVpos]
      exact hT
    rw [hus] at h
    -- the next round
    have next : ∀ w2 D3, Div w1 w2 B Au nu cu (pre ++ D3) Aq nq cq (qs.set j q) → wv D3 = wv D - q * wv vs →
        F.natural_num_divide.L16 Af nf cf Au nu cu Av (kk + 2) cv (kk + 2 : Nat) Aq nq cq ((j : Int) - 1) B w2 R := by
      intro w2 D3 h2 hw2
      refine ih w2 _ _ (by omega) h2 ?_ ?_
      · rw [← hj, List.drop_left, hw2]; omega
      · have eq1 : wv ((qs.set j q).drop j) = q + 1000000000 * wv (qs.drop (j + 1)) := by
          rw [wv_drop, List.drop_set, if_pos (by omega), List.getD_eq_getElem?_getD, List.getElem?_set_self (by omega)]
          rfl
        have e5 : wv D3 + q * wv vs = wv D := by omega
        rw [eq1, wv_append, hj]
        rw [hwu, ← e5, Nat.pow_succ] at he
        rw [← he]
        grind
    obtain ⟨top, htop⟩ : ∃ top, top = D.getD (kk + 2) 0 * 1000000000 + D.getD (kk + 1) 0 := ⟨_, rfl⟩
    rw [← htop] at hTw
    have etop : ((D.getD (kk + 2) 0 : Nat) : Int) * 1000000000 + ((D.getD (kk + 1) 0 : Nat) : Int) = (top : Int) := by omega
    obtain ⟨v1, hv1⟩ : ∃ v1, v1 = vs.getD (kk + 1) 0 := ⟨_, rfl⟩
    have ei1 : ((j : Int) + ((kk + 2 : Nat) : Int)).toNat = (kk + 2) + j := by omega
    have ei2 : ((j : Int) + ((kk + 2 : Nat) : Int) - 1).toNat = (kk + 1) + j := by omega
    have ei3 : (((kk + 2 : Nat) : Int) - 1).toNat = kk + 1 := by omega
    have hul2 := h.u.len
    refine F.natural_num_divide.L16.step _ _ _ _ _ _ _ _ _ _ _ _ _ _ _ _ _ ⟨fun _ => ⟨by simp only [inR]; omega, ?_⟩, fun h => by omega⟩
    refine h.u.sl.load hul2 (by omega) (by omega) ?_
    rw [ei1, app_getD hj]
    refine ⟨by simp only [inR]; omega, by simp only [inR]; omega, by simp only [inR]; omega, by simp only [inR]; omega, ?_⟩
    refine h.u.sl.load hul2 (by omega) (by omega) ?_
    rw [ei2, app_getD hj, etop]
    refine ⟨by simp only [inR]; omega, by simp only [inR]; omega, fun w2 e2 => ⟨by simp only [inR]; omega, ?_⟩⟩
    have h2 := h.ext e2
    refine (h2.sl hv hsep).load hvl (by omega) (by omega) ?_
    have hval : vs.getD (((kk + 2 : Nat) : Int) - 1).toNat 0 = v1 := by rw [ei3, hv1]
    rw [hval]
    rw [← hv1] at hhalf g1
    refine ⟨by simp only [inR]; omega, ⟨by omega, by omega, by simp only [inR]; omega⟩, by simp only [inR]; omega, ?_⟩
    refine (h2.sl hv hsep).load hvl (by omega) (by omega) ?_
    rw [hval]
    refine ⟨by simp only [inR]; omega, ⟨by omega, by omega⟩, fun w3 e3 => ?_⟩
    have h3 := h2.ext e3
    have ed : (top : Int) / (v1 : Int) = ((top / v1 : Nat) : Int) := by simp
    have em : (top : Int) % (v1 : Int) = ((top % v1 : Nat) : Int) := by simp
    rw [ed, em]
    have hgq : q ≤ top / v1 := by
      rw [Nat.le_div_iff_mul_le (by omega)]
      rw [hTw, hV, ← hv1] at hqT
      exact guess_ge gt2 hlow hqT
    have hgb : top / v1 ≤ 1000000001 := by
      refine guess_first (by omega) g2 hvlow (by rw [hv1] at hhalf; exact hhalf) (by rw [← hTw, ← hV]; exact hT) ?_
      rw [← hv1]
      exact Nat.div_mul_le_self _ _
    refine div_L20 hn hv hvl hsv hsep (by omega) hj (by omega) (top := top) (low := wv (D.take kk)) (M := 1000000000 ^ kk) (vl := wv (vs.take kk)) (q := q) (T := wv D) (V := wv vs) hlow hvlow (by rw [ev1, ← hv1]; omega) (by rw [ev1]; exact hV) hTw hqT hqb
      (fun w4 g h4 hg1 hg2 hg3 => ?_) (top / v1) (top % v1) w3 h3 (by rw [ev1, ← hv1]; have := Nat.div_add_mod top v1; rw [Nat.mul_comm] at this; exact this) hgq hgb (by have := Nat.mod_lt top (show 0 < v1 by omega); omega)
    refine div_L26 ha hn hv hvl hsv hsep hj (by omega) hg1 (fun w5 D5 c br h5 hl5 hc hbr hk5 he5 => ?_) (kk + 2) 0 w4 D 0 0 (by omega) (by omega) h4 rfl (by omega) (by omega) rfl (by simp [wv])
    have t5 := wv_split D5 (kk + 2) (by omega)
    have t0 := wv_top (k := kk + 2) (by omega) hsD hT3
    have hs5 : Small D5 := fun x hx => h5.su x (by simp [hx])
    have l5 := wv_lt (hs5.take (kk + 2))
    rw [List.length_take, Nat.min_eq_left (by omega)] at l5
    have td : wv (D.drop (kk + 2)) = D.getD (kk + 2) 0 := by
      have h1 := wv_split D (kk + 2) (by omega)
      have hp : 0 < 1000000000 ^ (kk + 2) := Nat.pow_pos (by omega)
      have h2 : 1000000000 ^ (kk + 2) * wv (D.drop (kk + 2)) = 1000000000 ^ (kk + 2) * D.getD (kk + 2) 0 := by omega
      exact Nat.eq_of_mul_eq_mul_left hp h2
    rw [hk5, td] at t5
    have hg5 := getD_of_drop hk5
    obtain ⟨P, hP⟩ : ∃ P, P = 1000000000 ^ (kk + 2) := ⟨_, rfl⟩
    rw [← hP] at t5 l5 he5 hVlt
    obtain ⟨z, hz⟩ : ∃ z, z = D.getD (kk + 2) 0 := ⟨_, rfl⟩
    rw [← hz] at t5 hg5 gt0 ⊢
    rw [Nat.mul_add] at he5
    refine ⟨fun hneg => ?_, fun hpos => ?_⟩
    · have hlt5 : wv D < g * wv vs := by
        have k1 : P * (z + 1) ≤ P * (c + br) := Nat.mul_le_mul_left _ (by omega)
        rw [Nat.mul_add, Nat.mul_add] at k1
        omega
      have hg0 : 1 ≤ g := by
        apply Decidable.byContradiction
        intro k
        have : g = 0 := by omega
        subst this
        omega
      have hqg : q + 1 = g := by
        have k1 : q < g := by
          apply Decidable.byContradiction
          intro k
          have := Nat.mul_le_mul_right (wv vs) (show g ≤ q by omega)
          omega
        apply Decidable.byContradiction
        intro k
        have := Nat.mul_le_mul_right (wv vs) (show q + 2 ≤ g by omega)
        rw [Nat.add_mul] at this
        omega
      refine ⟨hg0, ?_⟩
      have eg : (g : Int) - 1 = (q : Int) := by omega
      rw [eg]
      refine div_L42 ha hn hv hvl hsv hsep hj (by omega) ⟨by omega, hneg⟩ (fun w6 D6 up h6 hl6 hup hk6 he6 => ?_) (kk + 2) 0 w5 D5 0 (by omega) (by omega) h5 rfl (by omega) rfl (by simp [wv])
      refine div_J49 ha hn h6 hj (by omega) hqb (by omega) (by omega) fun w7 h7 => ?_
      have hg6 := getD_of_drop hk6
      have t6 := wv_split D6 (kk + 2) (by omega)
      have hs6 : Small D6 := fun x hx => h6.su x (by simp [hx])
      have l6 := wv_lt (hs6.take (kk + 2))
      rw [List.length_take, Nat.min_eq_left (by omega), ← hP] at l6
      rw [hk6, hk5, td, ← hP, ← hz] at t6
      rw [← hP] at he6
      have hgV : g * wv vs = q * wv vs + wv vs := by rw [← hqg, Nat.add_mul, Nat.one_mul]
      -- low + P * (z + up) = (T - qV) + P * (c + br)
      have key : wv (D6.take (kk + 2)) + P * (z + up) = (wv D - q * wv vs) + P * (c + br) := by rw [Nat.mul_add, Nat.mul_add]; omega
      have hzz : z + up = c + br := by
        rcases Nat.lt_trichotomy (z + up) (c + br) with k | k | k
        · have := Nat.mul_le_mul_left P (show z + up + 1 ≤ c + br by omega)
          rw [Nat.mul_add] at this
          omega
        · exact k
        · have := Nat.mul_le_mul_left P (show c + br + 1 ≤ z + up by omega)
          rw [Nat.mul_add] at this
          omega
      have e7 : ((z : Int) - (c : Int) - (br : Int) + (up : Int)).toNat = 0 := by omega
      rw [e7] at h7
      refine next w7 _ h7 ?_
      have hset := wv_set D6 (kk + 2) 0 (by omega)
      rw [hg6, hg5, ← hP] at hset
      rw [hzz] at key
      omega
    · have hle5 : g * wv vs ≤ wv D := by
        have k1 : P * (c + br) ≤ P * z := Nat.mul_le_mul_left _ (by omega)
        rw [Nat.mul_add] at k1
        omega
      have hqg : q = g := by
        rcases Nat.lt_or_ge q g with k | k
        · have := Nat.mul_le_mul_right (wv vs) (show q + 1 ≤ g by omega)
          rw [Nat.add_mul] at this
          omega
        · omega
      subst hqg
      refine div_J49 ha hn h5 hj (by omega) hqb (by omega) (by omega) fun w7 h7 => next w7 _ h7 ?_
      have hset := wv_set D5 (kk + 2) (((z : Int) - (c : Int) - (br : Int)).toNat) (by omega)
      rw [hg5, ← hP] at hset
      have e8 : P * (((z : Int) - (c : Int) - (br : Int)).toNat) + (P * c + P * br) = P * z := by
        rw [← Nat.mul_add, ← Nat.mul_add]
        congr 1
        omega
      omega
end
end Go.Proofs.YtdoailkigecmkaaGreatDoor.B

namespace Go.Proofs.YtdoailkigecmkaaGreatDoor.B
open Go Go.RowKit Go.Proofs Go.Proofs.YtdoailkigecmkaaGreatDoor.Vc

theorem SlU.block_lt {w : World} {A : Option Addr} {ws : List Nat} (h : SlU w A ws) (hn : ws ≠ []) : ∀ a, A = some a → a.block < w.heap.size := by
  intro a ha
  rcases h with h | ⟨b, off, all, fr, hA, hb, _⟩
  · exact absurd h hn
  · rw [hA] at ha; cases ha
    exact (Array.getElem?_eq_some_iff.1 hb).1

theorem OwnU.blk_of {w : World} {B : Nat} {A : Option Addr} {n c : Nat} {ws : List Nat} (h : OwnU w B A n c ws) : ∀ a, A = some a → B ≤ a.block ∧ a.block < w.heap.size := by
  intro a ha
  subst ha
  exact h.blk a.block rfl

theorem OwnU.replicate {w : World} {B : Nat} {A : Option Addr} {n : Nat} (k : w.ownsRow B 106 1 (.slice A n n) n (List.replicate n (.int .u32 0))) : OwnU w B A n n (List.replicate n 0) := by
  unfold OwnU
  have : u32s (List.replicate n 0) = List.replicate n (.int .u32 0) := by simp [u32s]
  rw [this]
  exact k
theorem Small.replicate (n : Nat) : Small (List.replicate n 0) := fun x hx => by rw [List.eq_of_mem_replicate hx]; omega

theorem div_J13 {w : World} {B Bu : Nat} {Af Au Av : Option Addr} {nf cf nu cu nv cv : Nat} {us vs : List Nat} {R : Value → World → Prop} (hB : B ≤ w.heap.size) (hBu : B ≤ Bu) (hu : OwnU w Bu Au nu cu us) (hsu : Small us) (hv : SlU w Av vs) (hvl : vs.length = nv) (hsv : Small vs)
    (hvu : ∀ a b, Av = some a → Au = some b → a.block ≠ b.block) (hvb : ∀ a, Av = some a → a.block < w.heap.size) (hnv : 2 ≤ nv) (hlt : nv ≤ nu) (hn : nu ≤ 1000000) (hhalf : 1000000000 ≤ 2 * vs.getD (nv - 1) 0)
    {f : Nat} (hf : IsN w Af nf cf f) (hfu : ∀ a b, Af = some a → Au = some b → a.block ≠ b.block) (hfb : ∀ a, Af = some a → a.block < w.heap.size) (hf0 : 0 < f) (hf1 : f ≤ 1000000000) (htop : wv (us.drop (nu - nv)) < wv vs)
    (hR : ∀ A n c A' n' c' w, IsN w A n c (wv us / wv vs) → IsN w A' n' c' (wv us % wv vs / f) → R (.tuple #[.slice A n c, .slice A' n' c']) w) :
    F.natural_num_divide.J13 Af nf cf Au nu cu Av nv cv B w R := by
  refine F.natural_num_divide.J13.step _ _ _ _ _ _ _ _ _ _ _ _ ⟨by simp only [inR]; omega, ?_⟩
  refine runOk_make el_num El.zeroU32 rfl (by omega) (by omega) hB fun Aq nq w2 hnq k1 g2 k2 => ⟨by simp only [inR]; omega, ?_⟩
  have hnq' : nq = nu - nv := by omega
  have hq := OwnU.replicate k1
  have hqb : ∀ a, Aq = some a → w.heap.size ≤ a.block := fun a ha => (hq.blk_of a ha).1
  have hgb : Below w.heap.size w w2 := below_grown g2 (by simp) (Nat.le_refl _)
  have hu2 : OwnU w2 B Au nu cu us := (hu.base hBu).other fun b hb => hgb.block b (hu.blk b hb).2
  have hap : Apart Au Aq := fun a b ha hb => by
    have h1 := hu.blk_of a ha
    have h2 := hqb b hb
    omega
  refine div_L16 (w1 := w2) hap hn (Nat.le_trans hB hgb.size) (hv.below hgb) hvl hsv (Sep.of hvu fun a b ha hb => by have h1 := hvb a ha; have h2 := hqb b hb; omega) hnv (by omega) hhalf (hf.below hgb)
    (Sep.of hfu fun a b ha hb => by have h1 := hfb a ha; have h2 := hqb b hb; omega) hf0 hf1 hR nq w2 us (List.replicate nq 0) (Nat.le_refl _)
    ⟨hu2, hq.base hB, hsu, Small.replicate _, fun _ _ _ _ => rfl, Below.refl _ _⟩ (by rw [hnq']; exact htop) ?_
  rw [List.drop_eq_nil_of_le (by simp)]
  simp [wv]

theorem wv_len_ge {a b : List Nat} (hsa : Small a) (hnb : Norm b) (h : wv b ≤ wv a) : b.length ≤ a.length := by
  apply Decidable.byContradiction
  intro k
  have := wv_lt_len hsa hnb (by omega)
  omega

theorem norm_top {l : List Nat} (hn : Norm l) (h : l ≠ []) : 1 ≤ l.getD (l.length - 1) 0 := by
  have hp := List.length_pos_iff.2 h
  have e : l.getLast? = some (l.getD (l.length - 1) 0) := by
    rw [List.getLast?_eq_getElem?, List.getD_eq_getElem?_getD, List.getElem?_eq_getElem (by omega)]
    rfl
  apply Decidable.byContradiction
  intro k
  have h0 : l.getD (l.length - 1) 0 = 0 := by omega
  rw [h0] at e
  exact hn e

theorem div_J7 {w : World} {B : Nat} {A0 A1 : Option Addr} {n0 c0 n1 c1 x y : Nat} {R : Value → World → Prop} (hB : B ≤ w.heap.size) (ha : IsN w A0 n0 c0 x) (hb : IsN w A1 n1 c1 y) (hx : x < Lim) (hyx : y ≤ x) (hy0 : y ≠ 0)
    (hR : ∀ A n c A' n' c' w, IsN w A n c (x / y) → IsN w A' n' c' (x % y) → R (.tuple #[.slice A n c, .slice A' n' c']) w) :
    F.natural_num_divide.J7 A0 n0 c0 A1 n1 c1 B w R := by
  have l0 := ha.len hx
  have l1 := hb.len (Nat.lt_of_le_of_lt hyx hx)
  have haN := ha
  have hbN := hb
  obtain ⟨a, a1, a2, a3, a4, a5, a6, ax⟩ := ha
  obtain ⟨b, b1, b2, b3, b4, b5, b6, bx⟩ := hb
  have hbn : b ≠ [] := fun k => by subst k; simp [wv] at bx; omega
  have hbl := List.length_pos_iff.2 hbn
  refine F.natural_num_divide.J7.step _ _ _ _ _ _ _ _ _ ⟨fun h => ?_, fun h => ⟨by simp only [inR]; omega, ?_⟩⟩
  · have g := b5.getD (Int.toNat 0)
    refine b1.load b2 (by omega) (by omega) ⟨by simp only [inR]; omega, ?_⟩
    have e : b.getD (Int.toNat 0) 0 = y := by
      obtain ⟨z, rfl⟩ := List.length_eq_one_iff.1 (by omega : b.length = 1)
      simpa [wv] using bx
    rw [e] at g ⊢
    refine Pure.mono (natural_by haN (by omega) (by omega) (by omega)) ?_
    rintro v w2 hb2 ⟨A, n, c, A', n', c', rfl, k1, k2⟩
    exact ⟨_, _, _, _, _, _, rfl, hR _ _ _ _ _ _ _ k1 k2⟩
  · have g := b5.getD (n1 - 1)
    have e1 : ((n1 : Int) - 1).toNat = n1 - 1 := by omega
    refine b1.load b2 (by omega) (by omega) ?_
    rw [e1]
    obtain ⟨mt, hmt⟩ : ∃ mt, mt = b.getD (n1 - 1) 0 := ⟨_, rfl⟩
    have hmt1 : 1 ≤ mt := by rw [hmt, ← b2]; exact norm_top b6 hbn
    rw [← hmt] at g ⊢
    obtain ⟨f, hf⟩ : ∃ f, f = 1000000000 / (mt + 1) := ⟨_, rfl⟩
    obtain ⟨hf0, hf1, hf2⟩ := factor_half hmt1 g hf
    have hfb : f ≤ 1000000000 := by rw [hf]; exact Nat.div_le_self _ _
    have ef : (1000000000 : Int) / ((mt : Int) + 1) = (f : Int) := by rw [hf]; simp
    rw [ef]
    refine ⟨by simp only [inR]; omega, by simp only [inR]; omega, ⟨by omega, by omega, by simp only [inR]; omega⟩, ?_⟩
    refine Pure.mono (natural_of (by omega)) ?_
    rintro v w29 hb29 ⟨Af, nf, cf, rfl, kf⟩
    refine ⟨_, _, _, rfl, ?_⟩
    have hfL : f < Lim := by
      unfold Lim
      exact Nat.lt_of_le_of_lt (show f ≤ 1000000000 ^ 1 by omega) (Nat.pow_lt_pow_right (by omega) (by have := klim; omega))
    refine Pure.mono (natural_times (haN.below hb29) kf hx hfL) ?_
    rintro v w32 hb32 ⟨Au, nu, cu, rfl, _, us, u1, u2, u3, u4⟩
    refine ⟨_, _, _, rfl, ?_⟩
    have hxf : x ≤ x * f := Nat.le_mul_of_pos_right _ (by omega)
    have hnu : n0 ≤ nu := by
      have := wv_len_ge u2 a6 (by rw [ax, u4]; exact hxf)
      have := u1.len
      omega
    have hnu2 : nu ≤ n0 + 1 := by
      apply Decidable.byContradiction
      intro k
      have hl := u1.len
      have h1 := wv_pos u3 (fun e => by subst e; simp at hl; omega)
      have h2 := wv_lt a5
      have h3 : 1000000000 ^ (a.length + 1) ≤ 1000000000 ^ (us.length - 1) := Nat.pow_le_pow_right (by omega) (by omega)
      have h4 : wv a * f ≤ wv a * 1000000000 := Nat.mul_le_mul_left _ hfb
      rw [Nat.pow_succ] at h3
      rw [u4, ← ax] at h1
      omega
    have s29 := hb29.size
    have s32 := hb32.size
    refine app_u32 (B0 := B) el_num (by omega) u1 (by omega) s32 (by simp) (x := 0) (by omega) fun Au' cu' w38 u5 g38 b38 => ?_
    have hb38 : Below w29.heap.size w32 w38 := below_grown g38 (fun k hk => (u1.blk k hk).1) s32
    have s38 := hb38.size
    have hw38 : Below w.heap.size w w38 := (hb29.trans (hb32.mono s29)).trans (hb38.mono s29)
    have kf38 : IsN w38 Af nf cf f := kf.below (hb32.trans hb38)
    refine Pure.mono (natural_times (hbN.below hw38) kf38 (Nat.lt_of_le_of_lt hyx hx) hfL) ?_
    rintro v w41 hb41 ⟨Av, nv, cv, rfl, _, vs, v1, v2, v3, v4⟩
    have s41 := hb41.size
    refine ⟨_, _, _, rfl, fun h => by omega, fun _ => ?_⟩
    have hyf : y ≤ y * f := Nat.le_mul_of_pos_right _ (by omega)
    have hbs := wv_split b (n1 - 1) (by omega)
    have hbd : wv (b.drop (n1 - 1)) = mt := by
      rw [wv_drop, ← hmt, List.drop_eq_nil_of_le (by omega)]
      simp [wv]
    rw [hbd] at hbs
    have hbt := wv_lt (b5.take (n1 - 1))
    rw [List.length_take, Nat.min_eq_left (by omega)] at hbt
    obtain ⟨P, hP⟩ : ∃ P, P = 1000000000 ^ (n1 - 1) := ⟨_, rfl⟩
    rw [← hP] at hbs hbt
    have hyf2 : y * f < P * 1000000000 := by
      have k1 : y + 1 ≤ P * (mt + 1) := by rw [← bx, hbs, Nat.mul_add]; omega
      have k2 : (y + 1) * f ≤ P * (mt + 1) * f := Nat.mul_le_mul_right _ k1
      have k3 : P * ((mt + 1) * f) ≤ P * 1000000000 := Nat.mul_le_mul_left _ hf1
      rw [Nat.mul_assoc] at k2
      rw [Nat.add_mul] at k2
      omega
    have hyf3 : P * (mt * f) ≤ y * f := by
      have k1 : P * mt ≤ y := by rw [← bx, hbs]; omega
      have := Nat.mul_le_mul_right f k1
      rwa [Nat.mul_assoc] at this
    have hnv : nv = n1 := by
      have h1 := wv_len_ge v2 b6 (by rw [bx, v4]; exact hyf)
      have h2 := v1.len
      apply Decidable.byContradiction
      intro k
      have h3 := wv_pos v3 (fun e => by rw [e, List.length_nil] at h1; omega)
      have h4 : 1000000000 ^ (n1 - 1 + 1) ≤ 1000000000 ^ (vs.length - 1) := Nat.pow_le_pow_right (by omega) (by omega)
      rw [Nat.pow_succ, ← hP] at h4
      omega
    subst hnv
    have hvl := v1.len
    have hhalf : 1000000000 ≤ 2 * vs.getD (nv - 1) 0 := by
      have h1 := wv_split vs (nv - 1) (by omega)
      have h2 := wv_lt (v2.take (nv - 1))
      rw [List.length_take, Nat.min_eq_left (by omega), ← hP] at h2
      have h3 : wv (vs.drop (nv - 1)) = vs.getD (nv - 1) 0 := by
        rw [wv_drop, List.drop_eq_nil_of_le (by omega)]
        simp [wv]
      rw [h3, ← hP, v4] at h1
      apply Decidable.byContradiction
      intro k
      have h4 : P * (vs.getD (nv - 1) 0 + 1) ≤ P * (mt * f) := Nat.mul_le_mul_left _ (by omega)
      rw [Nat.mul_add] at h4
      omega
    have hn1 : nv ≤ n0 := by
      have := wv_len_ge a5 b6 (by rw [ax, bx]; exact hyx)
      omega
    have hul := u1.len
    have hub := u5.blk_of
    have hvb := v1.blk_of
    have hfne : ∀ a, Af = some a → a.block < w29.heap.size := by
      obtain ⟨ws, q1, q2, _, _, _, _, q3⟩ := kf
      refine q1.block_lt fun e => ?_
      subst e
      simp [wv] at q3
      omega
    have e0 : wv (us ++ [(0 : Int).toNat]) = x * f := by rw [wv_append, u4]; simp [wv]
    have u41 : OwnU w41 w29.heap.size Au' (nu + 1) cu' (us ++ [(0 : Int).toNat]) := u5.other fun k hk => hb41.block k (u5.blk k hk).2
    refine div_J13 (Bu := w29.heap.size) (by omega) (by omega) u41 (u2.append (Small.cons (by simp) Small.nil)) v1.sl hvl v2 (fun a b ha hb => ?_) (fun a ha => (hvb a ha).2) (by omega) (by omega) (by omega) hhalf
      (kf38.below hb41) (fun a b ha hb => ?_) (fun a ha => by have := hfne a ha; omega) (by omega) hfb ?_ ?_
    · have h1 := hvb a ha
      have h2 := hub b hb
      omega
    · have h1 := hfne a ha
      have h2 := hub b hb
      omega
    · have e2 : (us ++ [(0 : Int).toNat]).drop (nu + 1 - nv) = us.drop (nu + 1 - nv) ++ [0] := by rw [List.drop_append_of_le_length (by omega)]; rfl
      rw [e2, wv_append]
      have h1 := wv_lt (l := us.drop (nu + 1 - nv)) fun x hx => u2 x (List.mem_of_mem_drop hx)
      rw [List.length_drop, show us.length - (nu + 1 - nv) = nv - 1 by omega, ← hP] at h1
      have h2 : P * 1 ≤ P * (mt * f) := Nat.mul_le_mul_left _ (Nat.mul_pos (by omega) (by omega))
      simp only [wv, Nat.mul_zero, Nat.add_zero]
      omega
    · rw [e0, v4, Nat.mul_div_mul_right _ _ (by omega), Nat.mul_mod_mul_right, Nat.mul_div_cancel _ (by omega)]
      exact hR

theorem natural_divide {w : World} {A0 A1 : Option Addr} {n0 c0 n1 c1 x y : Nat} (ha : IsN w A0 n0 c0 x) (hb : IsN w A1 n1 c1 y) (hx : x < Lim) (hy : y < Lim) (hy0 : y ≠ 0) :
    Pure Tryz.prog 168 #[.slice A0 n0 c0, .slice A1 n1 c1] w fun v w' => ∃ A n c A' n' c', v = .tuple #[.slice A n c, .slice A' n' c'] ∧ IsN w' A n c (x / y) ∧ IsN w' A' n' c' (x % y) := by
  refine F.natural_num_divide.vc _ _ _ _ _ _ _ _ (Pure.mono (natural_compare ha hb hx hy) ?_)
  rintro v w3 hb3 rfl
  refine ⟨_, rfl, fun h => ?_, fun h => ?_⟩
  · have hlt : x < y := by
      simp only [cmpI] at h
      split at h
      · omega
      · split at h <;> omega
    rw [Nat.div_eq_of_lt hlt, Nat.mod_eq_of_lt hlt]
    exact ⟨_, _, _, _, _, _, rfl, ⟨[], .inl rfl, rfl, by omega, by omega, Small.nil, by simp [Norm], rfl⟩, ha.below hb3⟩
  · have hle : y ≤ x := by
      simp only [cmpI] at h
      split at h <;> omega
    refine Pure.mono (natural_small (ha.below hb3)) ?_
    rintro v w7 hb7 rfl
    refine ⟨_, _, rfl, ?_⟩
    have hw7 : Below w.heap.size w w7 := hb3.trans (hb7.mono hb3.size)
    refine Pure.mono (natural_small (hb.below hw7)) ?_
    rintro v w11 hb11 rfl
    have hw11 : Below w.heap.size w w11 := hw7.trans (hb11.mono hw7.size)
    have done : ∀ A n c A' n' c' w', IsN w' A n c (x / y) → IsN w' A' n' c' (x % y) → ∃ A1 n1 c1 A2 n2 c2, Value.tuple #[.slice A n c, .slice A' n' c'] = .tuple #[.slice A1 n1 c1, .slice A2 n2 c2] ∧ IsN w' A1 n1 c1 (x / y) ∧ IsN w' A2 n2 c2 (x % y) :=
      fun A n c A' n' c' w' k1 k2 => ⟨_, _, _, _, _, _, rfl, k1, k2⟩
    refine ⟨_, _, rfl, fun hs => ⟨fun ht => ?_, fun _ => ?_⟩, fun _ => ?_⟩
    · have hx18 : x < 1000000000000000000 := by simpa using hs
      have hy18 : y < 1000000000000000000 := by simpa using ht
      rw [if_pos hx18, if_pos hy18]
      have ed : (x : Int) / (y : Int) = ((x / y : Nat) : Int) := by simp
      have em : (x : Int) % (y : Int) = ((x % y : Nat) : Int) := by simp
      have hd := Nat.div_le_self x y
      have hm := Nat.mod_le x y
      rw [ed, em]
      refine ⟨⟨by omega, by omega, by simp only [inR]; omega⟩, ⟨by omega, by omega⟩, fun w12 e12 => ?_⟩
      refine Pure.mono (natural_of (by omega)) ?_
      rintro v w13 hb13 ⟨A, n, c, rfl, k1⟩
      refine ⟨_, _, _, rfl, Pure.mono (natural_of (by omega)) ?_⟩
      rintro v w14 hb14 ⟨A', n', c', rfl, k2⟩
      exact ⟨_, _, _, rfl, done _ _ _ _ _ _ _ (k1.below hb14) k2⟩
    · exact div_J7 hw11.size (ha.below hw11) (hb.below hw11) hx hle hy0 done
    · exact div_J7 hw11.size (ha.below hw11) (hb.below hw11) hx hle hy0 done
end Go.Proofs.YtdoailkigecmkaaGreatDoor.B

namespace Go.Proofs.YtdoailkigecmkaaGreatDoor.B
open Go Go.RowKit Go.Proofs Go.Proofs.YtdoailkigecmkaaGreatDoor.Vc

theorem IsN.pos_len {w : World} {A : Option Addr} {n c x : Nat} (h : IsN w A n c x) : 0 < n ↔ x ≠ 0 := by
  obtain ⟨ws, _, hl, _, _, _, hn, rfl⟩ := h
  constructor
  · intro h0 hx
    have h1 := wv_pos hn (fun e => by subst e; simp at hl; omega)
    have h2 : 0 < 1000000000 ^ (ws.length - 1) := Nat.pow_pos (by omega)
    omega
  · intro hx
    apply Decidable.byContradiction
    intro k
    have : ws = [] := List.eq_nil_of_length_eq_zero (by omega)
    subst this
    exact hx rfl

theorem gcd_L5 {B : Nat} {R : Value → World → Prop} : ∀ (y x : Nat) (w : World), x < 1000000000000000000 → y < 1000000000000000000 → B ≤ w.heap.size → (∀ A n c w', IsN w' A n c (Nat.gcd x y) → R (.slice A n c) w') → F.natural_num_gcd.L5 x y B w R := by
  intro y
  induction y using Nat.strongRecOn with
  | ind y ih =>
    intro x w hx hy hB hR
    refine F.natural_num_gcd.L5.step _ _ _ _ _ ⟨fun h => ⟨⟨by omega, by omega⟩, fun w2 e => ?_⟩, fun h => ?_⟩
    · have em : (x : Int) % (y : Int) = ((x % y : Nat) : Int) := by simp
      rw [em]
      have hm := Nat.mod_lt x (show 0 < y by omega)
      refine ih _ hm y w2 hy (by omega) (Nat.le_trans hB e.below.size) fun A n c w' k => hR A n c w' ?_
      rwa [Nat.gcd_comm y, ← Nat.gcd_rec, Nat.gcd_comm] at k
    · have h0 : y = 0 := by omega
      subst h0
      refine Pure.mono (natural_of hx) ?_
      rintro v w2 _ ⟨A, n, c, rfl, k⟩
      exact ⟨_, _, _, rfl, hR A n c w2 (by rwa [Nat.gcd_zero_right])⟩

theorem gcd_L1 {B : Nat} {R : Value → World → Prop} : ∀ (y x : Nat) (w : World) (A0 A1 : Option Addr) (n0 c0 n1 c1 : Nat), IsN w A0 n0 c0 x → IsN w A1 n1 c1 y → x < Lim → y < Lim → B ≤ w.heap.size → (∀ A n c w', IsN w' A n c (Nat.gcd x y) → R (.slice A n c) w') →
    F.natural_num_gcd.L1 A0 n0 c0 A1 n1 c1 B w R := by
  intro y
  induction y using Nat.strongRecOn with
  | ind y ih =>
    intro x w A0 A1 n0 c0 n1 c1 ha hb hx hy hB hR
    have hp := hb.pos_len
    refine F.natural_num_gcd.L1.step _ _ _ _ _ _ _ _ _ ⟨fun h => ?_, fun h => ?_⟩
    · have hy0 : y ≠ 0 := hp.1 (by omega)
      have hm := Nat.mod_lt x (show 0 < y by omega)
      refine Pure.mono (natural_small ha) ?_
      rintro v w4 hb4 rfl
      refine ⟨_, _, rfl, Pure.mono (natural_small (hb.below hb4)) ?_⟩
      rintro v w8 hb8 rfl
      have hw8 : Below w.heap.size w w8 := hb4.trans (hb8.mono hb4.size)
      have s8 := hw8.size
      have rest : Pure Tryz.prog 168 #[.slice A0 n0 c0, .slice A1 n1 c1] w8 fun v w' => ∃ A n c A' n' c', v = .tuple #[.slice A n c, .slice A' n' c'] ∧ F.natural_num_gcd.L1 A1 n1 c1 A' n' c' B w' R := by
        refine Pure.mono (natural_divide (ha.below hw8) (hb.below hw8) hx hy hy0) ?_
        rintro v w9 hb9 ⟨A, n, c, A', n', c', rfl, k1, k2⟩
        refine ⟨_, _, _, _, _, _, rfl, ih _ hm y w9 _ _ _ _ _ _ ((hb.below hw8).below hb9) k2 hy (by omega) (by have := hb9.size; omega) fun A n c w' k => hR A n c w' ?_⟩
        rwa [Nat.gcd_comm y, ← Nat.gcd_rec, Nat.gcd_comm] at k
      refine ⟨_, _, rfl, fun hs => ⟨fun ht => ?_, fun _ => rest⟩, fun _ => rest⟩
      have hx18 : x < 1000000000000000000 := by simpa using hs
      have hy18 : y < 1000000000000000000 := by simpa using ht
      rw [if_pos hx18, if_pos hy18]
      exact gcd_L5 y x w8 hx18 hy18 (by omega) hR
    · have h0 : y = 0 := by
        apply Decidable.byContradiction
        intro k
        have := hp.2 k
        omega
      subst h0
      exact hR _ _ _ _ (by rwa [Nat.gcd_zero_right])

theorem natural_gcd {w : World} {A0 A1 : Option Addr} {n0 c0 n1 c1 x y : Nat} (ha : IsN w A0 n0 c0 x) (hb : IsN w A1 n1 c1 y) (hx : x < Lim) (hy : y < Lim) :
    Pure Tryz.prog 149 #[.slice A0 n0 c0, .slice A1 n1 c1] w fun v w' => ∃ A n c, v = .slice A n c ∧ IsN w' A n c (Nat.gcd x y) :=
  F.natural_num_gcd.vc _ _ _ _ _ _ _ _ (gcd_L1 y x w _ _ _ _ _ _ ha hb hx hy (Nat.le_refl _) fun A n c w' k => ⟨A, n, c, rfl, k⟩)
end Go.Proofs.YtdoailkigecmkaaGreatDoor.B

namespace Go.Proofs.YtdoailkigecmkaaGreatDoor.B
open Go Go.RowKit Go.Proofs Go.Proofs.YtdoailkigecmkaaGreatDoor.Vc

theorem OwnU.ext {w w2 : World} {B : Nat} {A : Option Addr} {n c : Nat} {ws : List Nat} (h : OwnU w B A n c ws) (e : Ext B [] w w2) : OwnU w2 B A n c ws :=
  h.other fun b hb => by
    rcases e.other b (h.blk b hb).2 with h1 | ⟨t, ht, _⟩
    · exact h1
    · cases ht

theorem OwnU.store2 {w : World} {B : Nat} {A : Option Addr} {n c : Nat} {ws : List Nat} (ho : OwnU w B A n c ws) {j x : Int} (h0 : 0 ≤ j) (h1 : j < n) (hx : 0 ≤ x) {bx : List Box} (hb : hasType 106 bx = false) {K : World → Prop}
    (h : ∀ w2 w3, Ext B [] w w2 → OwnU w3 B A n c (ws.set j.toNat x.toNat) → Below B w2 w3 → (∀ k, some k ≠ Value.ownBlock (.slice A n c) → w3.heap[k]? = w2.heap[k]?) → K w3) :
    (0 ≤ j ∧ j < n) ∧ ∃ a, A = some a ∧ ∀ w2, Ext B [] w w2 → ∃ (cs : List Value) (t : Nat), B ≤ (a.add (j.toNat * 1)).block ∧ (a.add (j.toNat * 1)).spot = none ∧ w2.heap[(a.add (j.toNat * 1)).block]? = some (.cells cs.toArray t (0, 0)) ∧
      (a.add (j.toNat * 1)).off + 1 ≤ cs.length ∧ hasType t bx = false ∧ ∀ w1, Wrote w2 w1 (a.add (j.toNat * 1)).block t (setCells cs (a.add (j.toNat * 1)).off [.int .u32 x]) → K w1 := by
  obtain ⟨_, a, hA, _⟩ := ho.store h0 h1 hx hb (K := fun _ => True) (fun _ _ _ _ => trivial)
  refine ⟨⟨h0, h1⟩, a, hA, fun w2 e => ?_⟩
  obtain ⟨_, a', hA', k⟩ := (ho.ext e).store h0 h1 hx hb (K := K) (fun w3 k1 k2 k3 => h w2 w3 e k1 k2 k3)
  rw [hA] at hA'
  cases hA'
  exact k

section
variable {w0 : World} {A1 A0 : Option Addr} {n1 c1 n0 c0 : Nat} {a b : List Nat} {R : Value → World → Prop}

theorem ref_times_inner (ha : SlU w0 A0 a) (hal : a.length = n0) (hsa : Small a) (hb : SlU w0 A1 b) (hbl : b.length = n1) (hsb : Small b) {i : Nat} (hi0 : i < n0) {n : Nat} (hn : i + n1 < n) (hn2 : n ≤ 1000000) {A : Option Addr} {c : Nat} {base : Nat}
    (hR : ∀ w ws, TimesInv w w0.heap.size A n c ws (i + 1 + n1) → Below w0.heap.size w0 w → wv ws = base + 1000000000 ^ i * a.getD i 0 * wv b →
      F.garboardref01_Times.L5 A0 n0 c0 A1 n1 c1 A n c ((i : Int) + 1) w0.heap.size w R) :
    ∀ (d k : Nat) (w : World) (ws : List Nat) (s : Nat), n1 - k = d → k ≤ n1 → TimesInv w w0.heap.size A n c ws (i + n1) → Below w0.heap.size w0 w → s < 1000000000 →
      wv ws + 1000000000 ^ (i + k) * s = base + 1000000000 ^ i * a.getD i 0 * wv (b.take k) →
      F.garboardref01_Times.L9 A0 n0 c0 A1 n1 c1 A n c i s k w0.heap.size w R := by
  have hx := hsa.getD i
  obtain ⟨x, hxe⟩ : ∃ x, x = a.getD i 0 := ⟨_, rfl⟩
  rw [← hxe] at hx hR
  rw [← hxe]
  intro d
  induction d with
  | zero =>
    intro k w ws s hd hk inv hw hs he
    have hkn : k = n1 := by omega
    subst hkn
    have eb : b.take k = b := List.take_of_length_le (by omega)
    rw [eb] at he
    refine F.garboardref01_Times.L9.step _ _ _ _ _ _ _ _ _ _ _ _ _ _ _ ⟨fun h => by omega, fun _ => ⟨by simp only [inR]; omega, by simp only [inR]; omega, ?_⟩⟩
    refine inv.own.store (by omega) (by omega) (by omega) rfl fun w1 o1 b1 _ => ⟨by simp only [inR]; omega, ?_⟩
    have e : ((i : Int) + (k : Int)).toNat = i + k := by omega
    rw [e, Int.toNat_natCast] at o1
    have hl := inv.own.len
    have hset := wv_set ws (i + k) s (by omega)
    rw [inv.zero (i + k) (Nat.le_refl _)] at hset
    refine hR w1 _ ⟨o1, inv.small.set hs, fun j hj => ?_⟩ (hw.trans b1) (by omega)
    rw [List.getD_eq_getElem?_getD, List.getElem?_set_ne (by omega), ← List.getD_eq_getElem?_getD]
    exact inv.zero j (by omega)
  | succ d ih =>
    intro k w ws s hd hk inv hw hs he
    have hl := inv.own.len
    have gb := hsb.getD k
    have go := inv.small.getD (i + k)
    have e : ((i : Int) + (k : Int)).toNat = i + k := by omega
    obtain ⟨y, hy⟩ : ∃ y, y = b.getD k 0 := ⟨_, rfl⟩
    obtain ⟨z, hz⟩ : ∃ z, z = ws.getD (i + k) 0 := ⟨_, rfl⟩
    rw [← hy] at gb
    rw [← hz] at go
    have hzv : ws.getD ((i : Int) + (k : Int)).toNat 0 = z := by rw [e, hz]
    have hxy : x * y ≤ 999999999 * 999999999 := Nat.mul_le_mul (by omega) (by omega)
    have hxy2 : (x : Int) * (y : Int) = ((x * y : Nat) : Int) := by simp
    refine F.garboardref01_Times.L9.step _ _ _ _ _ _ _ _ _ _ _ _ _ _ _ ⟨fun _ => ⟨by simp only [inR]; omega, ?_⟩, fun h => by omega⟩
    refine inv.own.sl.load hl (by omega) (by omega) ?_
    rw [hzv]
    refine ⟨by simp only [inR]; omega, ?_⟩
    refine (ha.keep hw (Nat.le_refl _)).load hal (by omega) (by omega) ?_
    rw [Int.toNat_natCast, ← hxe]
    refine ⟨by simp only [inR]; omega, ?_⟩
    refine (hb.keep hw (Nat.le_refl _)).load hbl (by omega) (by omega) ?_
    rw [Int.toNat_natCast, ← hy, hxy2]
    obtain ⟨t, ht⟩ : ∃ t : Nat, t = s + (x * y + z) := ⟨_, rfl⟩
    have et : (z : Int) + ((x * y : Nat) : Int) + (s : Int) = ((t : Nat) : Int) := by omega
    rw [et]
    refine ⟨by simp only [inR]; omega, by simp only [inR]; omega, by simp only [inR]; omega, by simp only [inR]; omega, by simp only [inR]; omega, by omega, by simp only [inR]; omega, ?_⟩
    refine inv.own.store2 (by omega) (by omega) (by omega) rfl fun w2 w1 e2 o1 b1 _ => ⟨⟨by omega, by omega, by simp only [inR]; omega⟩, by simp only [inR]; omega, ?_⟩
    have e1 : ((t : Int) % 1000000000).toNat = t % 1000000000 := by omega
    have e2' : (t : Int) / 1000000000 = ((t / 1000000000 : Nat) : Int) := by omega
    have e3 : (k : Int) + 1 = ((k + 1 : Nat) : Int) := by omega
    rw [e, e1] at o1
    rw [e2', e3]
    have hset := wv_set ws (i + k) (t % 1000000000) (by omega)
    rw [← hz] at hset
    refine ih (k + 1) w1 _ (t / 1000000000) (by omega) (by omega) ⟨o1, inv.small.set (by omega), fun j hj => ?_⟩ ((hw.trans e2.below).trans b1) (by omega) ?_
    · rw [List.getD_eq_getElem?_getD, List.getElem?_set_ne (by omega), ← List.getD_eq_getElem?_getD]
      exact inv.zero j (by omega)
    · rw [wv_take_succ, ← hy]
      have hm : t % 1000000000 + 1000000000 * (t / 1000000000) = s + (x * y + z) := by omega
      rw [show i + (k + 1) = (i + k) + 1 from rfl, Nat.pow_succ]
      have hp : 1000000000 ^ (i + k) = 1000000000 ^ i * 1000000000 ^ k := Nat.pow_add _ _ _
      generalize t % 1000000000 = r at *
      generalize t / 1000000000 = q at *
      generalize wv (ws.set (i + k) r) = W' at *
      generalize wv ws = W at *
      generalize wv (List.take k b) = V at *
      rw [hp] at hset he ⊢
      generalize 1000000000 ^ i = P at *
      generalize 1000000000 ^ k = Q at *
      clear hxy hxy2 et e1 e2' e3 o1 hz hy ht hxe hzv
      grind

theorem ref_times_outer (ha : SlU w0 A0 a) (hal : a.length = n0) (hsa : Small a) (hb : SlU w0 A1 b) (hbl : b.length = n1) (hsb : Small b) {A : Option Addr} {n c : Nat} (hn : n = n0 + n1) (hn2 : n ≤ 1000000)
    (hR : ∀ m w, IsN w A m c (wv a * wv b) → OwnN w w0.heap.size A m c (wv a * wv b) → Below w0.heap.size w0 w → R (.slice A m c) w) :
    ∀ (d i : Nat) (w : World) (ws : List Nat), n0 - i = d → i ≤ n0 → TimesInv w w0.heap.size A n c ws (i + n1) → Below w0.heap.size w0 w → wv ws = wv (a.take i) * wv b →
      F.garboardref01_Times.L5 A0 n0 c0 A1 n1 c1 A n c i w0.heap.size w R := by
  intro d
  induction d with
  | zero =>
    intro i w ws hd hi inv hw he
    have ea : a.take i = a := List.take_of_length_le (by omega)
    rw [ea] at he
    refine F.garboardref01_Times.L5.step _ _ _ _ _ _ _ _ _ _ _ _ _ ⟨fun h => by omega, fun _ => ?_⟩
    refine Pure.mono (ref_trim_own inv.own (by omega) inv.small) ?_
    rintro v w2 hb2 ⟨rfl, m, rfl, h, h2⟩
    rw [he] at h h2
    exact ⟨A, m, c, rfl, hR m w2 h2 h hw⟩
  | succ d ih =>
    intro i w ws hd hi inv hw he
    refine F.garboardref01_Times.L5.step _ _ _ _ _ _ _ _ _ _ _ _ _ ⟨fun _ => ?_, fun h => by omega⟩
    refine ref_times_inner ha hal hsa hb hbl hsb (by omega) (by omega) hn2 (base := wv ws) (fun w1 ws1 k1 k2 k3 => ?_) n1 0 w ws 0 (by omega) (by omega) inv hw (by omega) (by simp [wv])
    have e3 : (i : Int) + 1 = ((i + 1 : Nat) : Int) := by omega
    rw [e3]
    refine ih (i + 1) w1 ws1 (by omega) (by omega) k1 k2 ?_
    rw [k3, he, wv_take_succ, Nat.add_mul]
end

theorem IsN.nil (w : World) : IsN w none 0 0 0 := ⟨[], .inl rfl, rfl, by omega, by omega, Small.nil, by simp [Norm], rfl⟩
theorem OwnN.nil (w : World) (B : Nat) : OwnN w B none 0 0 0 := ⟨[], World.ownsRow_nil w _ _ _, Small.nil, by simp [Norm], rfl⟩
theorem IsN.zero {w : World} {A : Option Addr} {n c x : Nat} (h : IsN w A n c x) (hn : n = 0) : x = 0 := by
  have := h.pos_len
  apply Decidable.byContradiction
  intro k
  have := this.2 k
  omega

theorem ref_Times {w : World} {A0 A1 : Option Addr} {n0 c0 n1 c1 x y : Nat} (ha : IsN w A0 n0 c0 x) (hb : IsN w A1 n1 c1 y) (hx : x < Lim) (hy : y < Lim) :
    Pure Tryz.prog 84 #[.slice A0 n0 c0, .slice A1 n1 c1] w fun v w' => ∃ A n c, v = .slice A n c ∧ IsN w' A n c (x * y) ∧ OwnN w' w.heap.size A n c (x * y) := by
  have l0 := ha.len hx
  have l1 := hb.len hy
  have za := fun h => ha.zero h
  have zb := fun h => hb.zero h
  obtain ⟨a, a1, a2, a3, a4, a5, a6, rfl⟩ := ha
  obtain ⟨b, b1, b2, b3, b4, b5, b6, rfl⟩ := hb
  refine F.garboardref01_Times.vc _ _ _ _ _ _ _ _ ⟨fun h => ?_, fun h => ⟨fun h1 => ?_, fun h1 => ⟨by simp only [inR]; omega, ?_⟩⟩⟩
  · rw [za (by omega), Nat.zero_mul]
    exact ⟨_, _, _, rfl, IsN.nil w, OwnN.nil w _⟩
  · rw [zb (by omega), Nat.mul_zero]
    exact ⟨_, _, _, rfl, IsN.nil w, OwnN.nil w _⟩
  · refine runOk_make el_N El.zeroU32 rfl (by omega) (by omega) (Nat.le_refl _) fun A n w2 hn k1 _ k2 => ?_
    refine ref_times_outer a1 a2 a5 b1 b2 b5 (by omega) (by omega) (fun m w3 h1 h2 h3 => ⟨A, m, n, rfl, h1, h2⟩) n0 0 w2 _ rfl (by omega) ⟨OwnU.replicate k1, Small.replicate _, fun j _ => ?_⟩ k2 ?_
    · rw [List.getD_eq_getElem?_getD, List.getElem?_replicate]; split <;> rfl
    · rw [wv_replicate]; simp [wv]
end Go.Proofs.YtdoailkigecmkaaGreatDoor.B

namespace Go.Proofs.YtdoailkigecmkaaGreatDoor.B
open Go Go.RowKit Go.Proofs Go.Proofs.YtdoailkigecmkaaGreatDoor.Vc

theorem lit_u32 {t : Nat} (el : El Tryz.prog t 106 1 4) (w : World) (xs : List Nat) (hl : xs.length ≤ 1024) :
    ∃ w', (Instr.buildSlice t xs.length ((u32s xs).zipIdx.map fun x => (x.2, x.1)).toArray).run Tryz.prog w = .ok (.slice (some ⟨w.heap.size, 0, none⟩) xs.length xs.length) w' ∧ Below w.heap.size w w' ∧ w.heap.size ≤ w'.heap.size ∧
      OwnU w' w.heap.size (some ⟨w.heap.size, 0, none⟩) xs.length xs.length xs := by
  have hcell : ∀ v ∈ u32s xs, v.cells = #[v] := by
    intro v hv
    simp only [u32s, List.mem_map] at hv
    obtain ⟨x, _, rfl⟩ := hv
    rfl
  have hflat : ∀ l : List Value, (∀ v ∈ l, v.cells = #[v]) → l.flatMap (fun v => v.cells.toList) = l := by
    intro l
    induction l with
    | nil => intro _; rfl
    | cons v r ih => intro h; rw [List.flatMap_cons, ih fun y hy => h y (by simp [hy]), h v (by simp)]; rfl
  have hr := run_buildAll el (u32s xs) (fun v hv => by rw [hcell v hv]; rfl) (by simpa [u32s] using hl) w
  rw [hflat _ hcell] at hr
  have hlen : (u32s xs).length = xs.length := by simp [u32s]
  rw [hlen] at hr
  have hg := World.grownBy_alloc w (.cells (u32s xs).toArray 106) none
  refine ⟨_, hr, below_grown hg (by simp) (Nat.le_refl _), hg.size, ?_⟩
  exact ⟨by simp [u32s], .inr ⟨w.heap.size, xs.length, _, rfl, Nat.le_refl _, heap_alloc_new w _, Nat.le_refl _, by simp only [maxLen]; omega, by simp [u32s], List.take_of_length_le (by simp [u32s])⟩⟩

theorem ref_wide {w : World} {x : Nat} (hx : x < 1000000000000000000) :
    Pure Tryz.prog 107 #[.int .u64 (x : Int)] w fun v w' => ∃ A n c, v = .slice A n c ∧ IsN w' A n c x := by
  have e1 : (x : Int) % 1000000000 = ((x % 1000000000 : Nat) : Int) := by omega
  have e2 : (x : Int) / 1000000000 % 1000000000 = ((x / 1000000000 % 1000000000 : Nat) : Int) := by omega
  have e3 : (x : Int) / 1000000000 / 1000000000 = ((x / 1000000000 / 1000000000 : Nat) : Int) := by omega
  refine F.garboardref01_wide.vc _ _ _ ⟨by omega, by simp only [inR]; omega, ⟨by omega, by omega, by simp only [inR]; omega⟩, by omega, by simp only [inR]; omega, ⟨by omega, by omega, by simp only [inR]; omega⟩, ⟨by omega, by omega, by simp only [inR]; omega⟩, by simp only [inR]; omega, ?_⟩
  rw [e1, e2, e3]
  obtain ⟨w', hr, hb, hs, ho⟩ := lit_u32 el_N w [x % 1000000000, x / 1000000000 % 1000000000, x / 1000000000 / 1000000000] (by simp)
  refine ⟨_, w', hr, hb, hs, fun k ty cs hty => (by cases hty), _, _, _, rfl, ?_⟩
  refine Pure.mono (ref_trim_own ho (by simp) (Small.cons (by omega) (Small.cons (by omega) (Small.cons (by omega) Small.nil)))) ?_
  rintro v w2 hb2 ⟨rfl, m, rfl, h, h2⟩
  have e : wv [x % 1000000000, x / 1000000000 % 1000000000, x / 1000000000 / 1000000000] = x := by simp only [wv]; omega
  rw [e] at h2
  exact ⟨_, _, _, rfl, _, _, _, rfl, h2⟩

theorem ref_Small {w : World} {x : Nat} (hx : x < 4294967296) :
    Pure Tryz.prog 78 #[.int .u32 (x : Int)] w fun v w' => ∃ A n c, v = .slice A n c ∧ IsN w' A n c x := by
  have e1 : (x : Int) % 1000000000 = ((x % 1000000000 : Nat) : Int) := by omega
  have e3 : (x : Int) / 1000000000 = ((x / 1000000000 : Nat) : Int) := by omega
  refine F.garboardref01_Small.vc _ _ _ ⟨by omega, ⟨by omega, by omega, by simp only [inR]; omega⟩, ?_⟩
  rw [e1, e3]
  obtain ⟨w', hr, hb, hs, ho⟩ := lit_u32 el_N w [x % 1000000000, x / 1000000000] (by simp)
  refine ⟨_, w', hr, hb, hs, fun k ty cs hty => (by cases hty), _, _, _, rfl, ?_⟩
  refine Pure.mono (ref_trim_own ho (by simp) (Small.cons (by omega) (Small.cons (by omega) Small.nil))) ?_
  rintro v w2 hb2 ⟨rfl, m, rfl, h, h2⟩
  have e : wv [x % 1000000000, x / 1000000000] = x := by simp only [wv]; omega
  rw [e] at h2
  exact ⟨_, _, _, rfl, _, _, _, rfl, h2⟩

theorem word_loop {w0 : World} {A0 : Option Addr} {n0 c0 : Nat} {a : List Nat} {R : Value → World → Prop} (ha : SlU w0 A0 a) (hal : a.length = n0) (hsa : Small a) (hn : n0 ≤ 2) (w : World) (hw : Below w0.heap.size w0 w) (hR : R (.int .u64 (wv a : Nat)) w) :
    ∀ (i : Nat) (s : Nat), i ≤ n0 → s = wv (a.drop i) → F.garboardref01_word.L3 A0 n0 c0 s ((i : Int) - 1) w0.heap.size w R := by
  intro i
  induction i with
  | zero =>
    intro s hi he
    refine F.garboardref01_word.L3.step _ _ _ _ _ _ _ _ ⟨fun h => by omega, fun _ => ?_⟩
    rw [he]
    exact hR
  | succ i ih =>
    intro s hi he
    have e : ((i + 1 : Nat) : Int) - 1 = i := by omega
    have g := hsa.getD i
    have hd := wv_lt (l := a.drop (i + 1)) fun x hx => hsa x (List.mem_of_mem_drop hx)
    have hp : 1000000000 ^ (a.drop (i + 1)).length ≤ 1000000000 ^ 1 := Nat.pow_le_pow_right (by omega) (by simp; omega)
    rw [← he] at hd
    rw [e]
    refine F.garboardref01_word.L3.step _ _ _ _ _ _ _ _ ⟨fun _ => ⟨by simp only [inR]; omega, ?_⟩, fun h => by omega⟩
    refine (ha.keep hw (Nat.le_refl _)).load hal (by omega) (by omega) ?_
    rw [Int.toNat_natCast]
    have et : (s : Int) * 1000000000 + ((a.getD i 0 : Nat) : Int) = ((s * 1000000000 + a.getD i 0 : Nat) : Int) := by omega
    rw [et]
    refine ⟨by simp only [inR]; omega, by simp only [inR]; omega, by simp only [inR]; omega, ih _ (by omega) ?_⟩
    rw [wv_drop a i, ← he]
    omega

theorem ref_word {w : World} {A0 : Option Addr} {n0 c0 x : Nat} (ha : IsN w A0 n0 c0 x) (hn : n0 ≤ 2) :
    Pure Tryz.prog 106 #[.slice A0 n0 c0] w fun v _ => v = .int .u64 (x : Nat) := by
  obtain ⟨a, a1, a2, a3, a4, a5, a6, rfl⟩ := ha
  refine F.garboardref01_word.vc _ _ _ _ _ ⟨by simp only [inR]; omega, ?_⟩
  exact word_loop a1 a2 a5 hn w (Below.refl _ _) rfl n0 0 (Nat.le_refl _) (by rw [List.drop_eq_nil_of_le (by omega)]; rfl)

theorem ref_small_loop {w0 : World} {A0 : Option Addr} {n0 c0 : Nat} {a : List Nat} {R : Value → World → Prop} (ha : SlU w0 A0 a) (hal : a.length = n0) (hsa : Small a) (hn : n0 ≤ 1000000) {d : Nat} (hd : 0 < d) (hd2 : d ≤ 1000000000) {A : Option Addr} {c : Nat}
    (hR : ∀ A n c w, IsN w A n c (wv a / d) → R (.tuple #[.slice A n c, .int .u32 (wv a % d : Nat)]) w) :
    ∀ (i : Nat) (w : World) (ws : List Nat) (r : Nat), i ≤ n0 → Below w0.heap.size w0 w → OwnU w w0.heap.size A n0 c ws → Small ws → r < d → wv (ws.drop i) * d + r = wv (a.drop i) →
      F.garboardref01_small.L4 A0 n0 c0 d A n0 c r ((i : Int) - 1) w0.heap.size w R := by
  intro i
  induction i with
  | zero =>
    intro w ws r hi hw ho hs hr he
    refine F.garboardref01_small.L4.step _ _ _ _ _ _ _ _ _ _ _ _ ⟨fun h => by omega, fun _ => ?_⟩
    refine Pure.mono (ref_trim_own ho (by omega) hs) ?_
    rintro v w2 hb2 ⟨rfl, m, rfl, h, h2⟩
    simp only [List.drop_zero] at he
    have e1 : wv a / d = wv ws := by rw [← he, Nat.mul_comm, Nat.mul_add_div hd, Nat.div_eq_of_lt hr, Nat.add_zero]
    have e2 : wv a % d = r := by rw [← he, Nat.mul_comm, Nat.mul_add_mod, Nat.mod_eq_of_lt hr]
    rw [e1, e2] at hR
    exact ⟨_, _, _, rfl, by simp only [inR]; omega, hR _ _ _ _ h2⟩
  | succ i ih =>
    intro w ws r hi hw ho hs hr he
    have e : ((i + 1 : Nat) : Int) - 1 = i := by omega
    have g := hsa.getD i
    rw [e]
    refine F.garboardref01_small.L4.step _ _ _ _ _ _ _ _ _ _ _ _ ⟨fun _ => ⟨by simp only [inR]; omega, ?_⟩, fun h => by omega⟩
    refine (ha.keep hw (Nat.le_refl _)).load hal (by omega) (by omega) ?_
    rw [Int.toNat_natCast]
    obtain ⟨t, ht⟩ : ∃ t : Nat, t = r * 1000000000 + a.getD i 0 := ⟨_, rfl⟩
    have et : (r : Int) * 1000000000 + ((a.getD i 0 : Nat) : Int) = (t : Int) := by omega
    have hq : t / d < 1000000000 := by
      rw [Nat.div_lt_iff_lt_mul hd]
      have : (r + 1) * 1000000000 ≤ d * 1000000000 := Nat.mul_le_mul_right _ (by omega)
      omega
    have eq : (t : Int) / (d : Int) = ((t / d : Nat) : Int) := by simp
    have em : (t : Int) % (d : Int) = ((t % d : Nat) : Int) := by simp
    have hdm := Nat.div_add_mod t d
    have hml := Nat.mod_lt t hd
    rw [et, eq, em]
    clear eq em
    generalize t / d = q at *
    generalize t % d = r' at *
    refine ⟨by simp only [inR]; omega, by simp only [inR]; omega, by simp only [inR]; omega, ⟨by omega, by omega, by simp only [inR]; omega⟩, by simp only [inR]; omega, ?_⟩
    refine ho.store (by omega) (by omega) (by omega) rfl fun w1 o1 b1 _ => ⟨by simp only [inR]; omega, ⟨by omega, by omega⟩, by simp only [inR]; omega, ?_⟩
    rw [Int.toNat_natCast, Int.toNat_natCast] at o1
    have hl := ho.len
    refine ih w1 _ _ (by omega) (hw.trans b1) o1 (hs.set hq) hml ?_
    rw [wv_drop, wv_drop a, ← he, List.drop_set, if_pos (by omega)]
    rw [List.getD_eq_getElem?_getD, List.getElem?_set_self (by omega)]
    simp only [Option.getD_some]
    generalize wv (List.drop (i + 1) ws) = V
    clear et o1 hq he hml
    grind

theorem ref_small {w : World} {A0 : Option Addr} {n0 c0 x d : Nat} (ha : IsN w A0 n0 c0 x) (l0 : n0 ≤ 1000000) (hd : 0 < d) (hd2 : d ≤ 1000000000) :
    Pure Tryz.prog 124 #[.slice A0 n0 c0, .int .u32 (d : Int)] w fun v w' => ∃ A n c, v = .tuple #[.slice A n c, .int .u32 (x % d : Nat)] ∧ IsN w' A n c (x / d) := by
  obtain ⟨a, a1, a2, a3, a4, a5, a6, rfl⟩ := ha
  refine F.garboardref01_small.vc _ _ _ _ _ _ ?_
  refine runOk_make el_N El.zeroU32 rfl (by omega) (by omega) (Nat.le_refl _) fun A n w2 hn k1 _ k2 => ⟨by simp only [inR]; omega, ?_⟩
  have hn' : n = n0 := by omega
  subst hn'
  refine ref_small_loop a1 a2 a5 (by omega) hd hd2 (fun A n c w h1 => ⟨A, n, c, rfl, h1⟩) n w2 _ 0 (Nat.le_refl _) k2 (OwnU.replicate k1) (Small.replicate _) hd ?_
  rw [List.drop_eq_nil_of_le (by simp), List.drop_eq_nil_of_le (by omega)]
  simp [wv]
end Go.Proofs.YtdoailkigecmkaaGreatDoor.B

namespace Go.Proofs.YtdoailkigecmkaaGreatDoor.B
open Go Go.RowKit Go.Proofs Go.Proofs.YtdoailkigecmkaaGreatDoor.Vc

theorem foldE (l : Tx) : ∀ a : Nat, l.foldl (fun a c => 10 * a + dv c) a = a * 10 ^ l.length + valD l := by
  induction l with
  | nil => intro a; simp [valD]
  | cons c r ih =>
    intro a
    have h1 := ih (10 * a + dv c)
    have h2 := ih (10 * 0 + dv c)
    simp only [valD, List.foldl_cons, List.length_cons, Nat.pow_succ] at *
    rw [h1, h2]
    grind
theorem valE_append (a b : Tx) : valD (a ++ b) = valD a * 10 ^ b.length + valD b := by
  have := foldE b (valD a)
  rw [← this]
  simp [valD, List.foldl_append]

theorem from_inner {B : Nat} {R : Value → World → Prop} {s : ByteArray} (hs : s.size ≤ 900000) (hd : (by_ s).all dig = true) {A : Option Addr} {n c : Nat} {e b : Nat} (he : e ≤ s.size) (hbe : b ≤ e) (h9 : e - b ≤ 9) {w : World}
    (hR : ∀ x : Nat, x = valD (((by_ s).take e).drop b) → x < 1000000000 →
      F.garboardref01_From.L7 s A n c e x e B w R) :
    ∀ (d i x : Nat), e - i = d → b ≤ i → i ≤ e → x = valD (((by_ s).take i).drop b) → x < 10 ^ (i - b) → F.garboardref01_From.L7 s A n c e x i B w R := by
  intro d
  induction d with
  | zero =>
    intro i x hi hb2 hie hx hlt
    have : i = e := by omega
    subst this
    have hp : 10 ^ (i - b) ≤ 10 ^ 9 := Nat.pow_le_pow_right (by omega) h9
    exact hR x hx (by omega)
  | succ d ih =>
    intro i x hi hb2 hie hx hlt
    obtain ⟨ch, hc, hbt, _⟩ := bt_get (s := s) (i := (i : Int)) (by omega) (by omega)
    rw [Int.toNat_natCast] at hc
    have hdc : 48 ≤ ch.toNat ∧ ch.toNat ≤ 57 := by
      rw [List.all_eq_true] at hd
      have := hd ch (List.mem_of_getElem? hc)
      simpa [dig] using this
    have hp : 10 ^ (i - b) ≤ 10 ^ 8 := Nat.pow_le_pow_right (by omega) (by omega)
    refine F.garboardref01_From.L7.step _ _ _ _ _ _ _ _ _ _ ⟨fun _ => ?_, fun h => by omega⟩
    rw [hbt]
    have ev : (10 : Int) * (x : Int) + ((ch.toNat : Int) - 48) = ((10 * x + dv ch : Nat) : Int) := by simp only [dv]; omega
    have e3 : (i : Int) + 1 = ((i + 1 : Nat) : Int) := by omega
    rw [ev, e3]
    have hdv : dv ch ≤ 9 := by simp only [dv]; omega
    refine ⟨by simp only [inR]; omega, ⟨by omega, by omega⟩, by simp only [inR]; omega, by simp only [inR]; omega, by simp only [inR]; omega, by simp only [inR]; omega, ih (i + 1) _ (by omega) (by omega) (by omega) ?_ ?_⟩
    · rw [List.take_add_one, hc, List.drop_append_of_le_length (by rw [List.length_take, ← size_by]; omega)]
      have e4 : (some ch).toList = [ch] := rfl
      rw [e4, valE_append, ← hx]
      simp [valD]
      omega
    · rw [show i + 1 - b = (i - b) + 1 by omega, Nat.pow_succ]
      omega

theorem from_loop {w0 : World} {R : Value → World → Prop} {s : ByteArray} (hs : s.size ≤ 900000) (hd : (by_ s).all dig = true) (hR : ∀ A n c w, IsN w A n c (valD (by_ s)) → R (.slice A n c) w) :
    ∀ (d : Nat) (e : Nat) (w : World) (A : Option Addr) (n c : Nat) (ws : List Nat), e ≤ d → e ≤ s.size → n + e ≤ 900000 → OwnU w w0.heap.size A n c ws → Small ws → w0.heap.size ≤ w.heap.size →
      wv ws + 1000000000 ^ n * valD ((by_ s).take e) = valD (by_ s) → F.garboardref01_From.L3 s A n c e w0.heap.size w R ∧ (∀ k : Int, k ≤ 0 → e = 0 → F.garboardref01_From.L3 s A n c k w0.heap.size w R) := by
  intro d
  induction d with
  | zero =>
    intro e w A n c ws hed hes hn ho hsm hw he
    have h0 : e = 0 := by omega
    subst h0
    have fin : ∀ k : Int, k ≤ 0 → F.garboardref01_From.L3 s A n c k w0.heap.size w R := by
      intro k hk
      refine F.garboardref01_From.L3.step _ _ _ _ _ _ _ _ ⟨fun h => by omega, fun _ => ?_⟩
      refine Pure.mono (ref_trim_own ho (by omega) hsm) ?_
      rintro v w2 _ ⟨rfl, m, rfl, _, h⟩
      have e : wv ws = valD (by_ s) := by rw [← he]; simp [valD]
      rw [e] at h
      exact ⟨_, _, _, rfl, hR _ _ _ _ h⟩
    exact ⟨fin ((0 : Nat) : Int) (by omega), fun k hk _ => fin k hk⟩
  | succ d ih =>
    intro e w A n c ws hed hes hn ho hsm hw he
    by_cases h0 : e = 0
    · exact ih e w A n c ws (by omega) hes hn ho hsm hw he
    refine ⟨?_, fun k hk h => absurd h h0⟩
    obtain ⟨b, hb⟩ : ∃ b : Nat, b = e - 9 := ⟨_, rfl⟩
    have eb : (if ((e : Int) - 9) > (0 : Int) then ((e : Int) - 9) else (0 : Int)) = (b : Int) := by split <;> omega
    refine F.garboardref01_From.L3.step _ _ _ _ _ _ _ _ ⟨fun _ => ⟨by simp only [inR]; omega, ?_⟩, fun h => by omega⟩
    rw [eb]
    refine from_inner hs hd hes (by omega) (by omega) (fun x hx hxl => ?_) (e - b) b 0 rfl (Nat.le_refl _) (by omega) ?_ (Nat.pow_pos (by omega))
    · refine F.garboardref01_From.L7.step _ _ _ _ _ _ _ _ _ _ ⟨fun h => by omega, fun _ => ?_⟩
      refine app_u32 (B0 := w0.heap.size) el_N (Nat.le_refl _) ho (by omega) (by omega) (by simp) (by omega) fun A' c' w5 o5 _ b5 => ⟨by simp only [inR]; omega, ?_⟩
      rw [Int.toNat_natCast] at o5
      have s5 := b5.size
      have ev : valD ((by_ s).take e) = valD ((by_ s).take b) * 10 ^ (e - b) + x := by
        have e1 : (by_ s).take e = (by_ s).take b ++ ((by_ s).take e).drop b := by
          conv => lhs; rw [← List.take_append_drop b ((by_ s).take e)]
          rw [List.take_take, Nat.min_eq_left (by omega)]
        rw [e1, valE_append, ← hx, List.length_drop, List.length_take, ← size_by, Nat.min_eq_left hes]
      have hnew := ih b w5 A' (n + 1) c' (ws ++ [x]) (by omega) (by omega) (by omega) o5 (hsm.append (Small.cons hxl Small.nil)) (by omega) (by
        rw [wv_append, ho.len, Nat.pow_succ]
        rw [ev] at he
        rw [← he]
        simp only [wv]
        by_cases hb0 : b = 0
        · rw [hb0, List.take_zero]
          have e0 : valD [] = 0 := rfl
          rw [e0, Nat.zero_mul, Nat.zero_add, Nat.mul_zero, Nat.add_zero, Nat.mul_zero, Nat.add_zero]
        · have e10 : 10 ^ (e - b) = 1000000000 := by rw [show e - b = 9 by omega]
          rw [e10]
          generalize valD ((by_ s).take b) = V
          generalize 1000000000 ^ n = P
          grind)
      by_cases hb0 : b = 0
      · exact hnew.2 _ (by omega) hb0
      · have e9 : (e : Int) - 9 = (b : Int) := by omega
        rw [e9]
        exact hnew.1
    · rw [List.drop_eq_nil_of_le (by rw [List.length_take]; omega)]; simp [valD]

theorem ref_From {w : World} {s : ByteArray} (hs : s.size ≤ 900000) (h : isNat (by_ s) = true) :
    Pure Tryz.prog 77 #[.string s] w fun v w' => ∃ A n c, v = .slice A n c ∧ IsN w' A n c (valD (by_ s)) := by
  have hd : (by_ s).all dig = true := by simp [isNat] at h; simpa using h.2
  refine F.garboardref01_From.vc _ _ _ ?_
  exact (from_loop (w0 := w) hs hd (fun A n c w k => ⟨A, n, c, rfl, k⟩) s.size s.size w none 0 0 [] (Nat.le_refl _) (Nat.le_refl _) (by omega) (World.ownsRow_nil w _ _ _) Small.nil (Nat.le_refl _) (by
    rw [List.take_of_length_le (by rw [← size_by]; exact Nat.le_refl _)]; simp [wv])).1
end Go.Proofs.YtdoailkigecmkaaGreatDoor.B

namespace Go.Proofs.YtdoailkigecmkaaGreatDoor.B
open Go Go.RowKit Go.Proofs Go.Proofs.YtdoailkigecmkaaGreatDoor.Vc

section
variable {w1 : World} {B : Nat} {Au Av : Option Addr} {nu cu nv cv : Nat} {vs : List Nat} {R : Value → World → Prop}

theorem apart_none : Apart Au none := fun _ _ _ h => by cases h

theorem red_L21 (hn : nu ≤ 1000000) (hv : SlU w1 Av vs) (hvl : vs.length = nv) (hsv : Small vs) (hsep : Sep Av Au none nu cu 0 0) {pre D0 : List Nat} {g j : Nat} (hj : pre.length = j) (hk : nv < D0.length) (hg : 1 ≤ g) (hg2 : g ≤ 1000000000)
    (hR : ∀ w D (up : Nat), up ≤ 1 → D.length = D0.length → D.drop nv = D0.drop nv → wv D + 1000000000 ^ nv * up = wv D0 + wv vs →
      Div w1 w B Au nu cu (pre ++ D.set nv ((D0.getD nv 0 + up) % 1000000000)) none 0 0 [] → R (.int .u32 ((g : Int) - 1)) w) :
    ∀ (d i : Nat) (w : World) (D : List Nat) (up : Nat), nv - i = d → i ≤ nv → Div w1 w B Au nu cu (pre ++ D) none 0 0 [] → D.length = D0.length → up ≤ 1 → D.drop nv = D0.drop nv → wv D + 1000000000 ^ i * up = wv D0 + wv (vs.take i) →
      F.garboardref01_reduce.L21 Au nu cu Av nv cv j g nv up i B w R := by
  intro d
  induction d with
  | zero =>
    intro i w D up hd hi h hl hu hk2 he
    have hin : i = nv := by omega
    subst hin
    have hul := h.u.len
    have hul2 := hul
    simp only [List.length_append] at hul
    have gu := h.su.getD (i + j)
    rw [app_getD hj] at gu
    rw [List.take_of_length_le (by omega)] at he
    have e2 : ((j : Int) + (i : Int)).toNat = i + j := by omega
    have hg5 := getD_of_drop hk2
    have hval : (pre ++ D).getD ((j : Int) + (i : Int)).toNat 0 = D0.getD i 0 := by rw [e2, app_getD hj, hg5]
    rw [hg5] at gu
    refine F.garboardref01_reduce.L21.step _ _ _ _ _ _ _ _ _ _ _ _ _ _ ⟨fun h => by omega, fun _ => ⟨by simp only [inR]; omega, by simp only [inR]; omega, ?_⟩⟩
    refine h.u.sl.load hul2 (by omega) (by omega) ?_
    rw [hval]
    refine ⟨by simp only [inR]; omega, by omega, ?_⟩
    refine h.storeU apart_none (by omega) (by omega) (by omega) (by omega) fun w2 h2 => ⟨by simp only [inR]; omega, by simp only [inR]; omega, ?_⟩
    have e4 : (((D0.getD i 0 : Nat) : Int) + (up : Int)) % 1000000000 = (((D0.getD i 0 + up) % 1000000000 : Nat) : Int) := by omega
    rw [e4, e2, Int.toNat_natCast, app_set hj] at h2
    exact hR w2 D up hu hl hk2 he h2
  | succ d ih =>
    intro i w D up hd hi h hl hu hk2 he
    have hul := h.u.len
    have hul2 := hul
    simp only [List.length_append] at hul
    have gv := hsv.getD i
    have gu := h.su.getD (i + j)
    have e2 : ((j : Int) + (i : Int)).toNat = i + j := by omega
    rw [app_getD hj] at gu
    have hval : (pre ++ D).getD ((j : Int) + (i : Int)).toNat 0 = D.getD i 0 := by rw [e2, app_getD hj]
    obtain ⟨t, ht⟩ : ∃ t, t = up + (D.getD i 0 + vs.getD i 0) := ⟨_, rfl⟩
    have et : ((D.getD i 0 : Nat) : Int) + ((vs.getD i 0 : Nat) : Int) + (up : Int) = (t : Int) := by omega
    refine F.garboardref01_reduce.L21.step _ _ _ _ _ _ _ _ _ _ _ _ _ _ ⟨fun _ => ⟨by simp only [inR]; omega, ?_⟩, fun h => by omega⟩
    refine h.u.sl.load hul2 (by omega) (by omega) ?_
    rw [hval]
    refine (h.sl hv hsep).load hvl (by omega) (by omega) ?_
    rw [Int.toNat_natCast, et]
    refine ⟨by simp only [inR]; omega, by simp only [inR]; omega, by simp only [inR]; omega, by omega, ?_⟩
    have hown : ∃ a, Au = some a := by
      obtain ⟨a, hA, _⟩ := h.u.sl.cell (j := (j : Int) + i) (by omega) (by omega)
      exact ⟨a, hA⟩
    obtain ⟨a, rfl⟩ := hown
    have step : ∀ w3, Div w1 w3 B (some a) nu cu ((pre ++ D).set ((j : Int) + (i : Int)).toNat ((t : Int) % 1000000000).toNat) none 0 0 [] →
        F.garboardref01_reduce.L21 (some a) nu cu Av nv cv j g nv ((t : Int) / 1000000000) ((i : Int) + 1) B w3 R := by
      intro w3 h3
      have e3 : (i : Int) + 1 = ((i + 1 : Nat) : Int) := by omega
      have e4 : ((t : Int) % 1000000000).toNat = t % 1000000000 := by omega
      have e5 : (t : Int) / 1000000000 = ((t / 1000000000 : Nat) : Int) := by omega
      rw [e2, e4, app_set hj] at h3
      rw [e3, e5]
      refine ih (i + 1) w3 _ _ (by omega) (by omega) h3 (by simpa using hl) (by omega) (by rw [List.drop_set, if_pos (by omega)]; exact hk2) ?_
      rw [wv_take_succ, Nat.pow_succ]
      exact add_word he (wv_set D i _ (by omega)) (by rw [ht]) (by rw [ht])
    refine ⟨⟨by omega, by omega⟩, a, rfl, fun w2 e => ?_⟩
    obtain ⟨_, a', ea, hst'⟩ := (h.ext e).storeU apart_none (j := (j : Int) + (i : Int)) (x := (t : Int) % 1000000000) (by omega) (by omega) (by omega) (by omega) (K := fun w3 => (0 ≤ (t : Int) ∧ 0 < (1000000000 : Int) ∧ inR .u32 (t : Int)) ∧ inR .i64 ((i : Int) + 1) ∧
      F.garboardref01_reduce.L21 (some a) nu cu Av nv cv j g nv ((t : Int) / 1000000000) ((i : Int) + 1) B w3 R) (fun w3 h3 => ⟨⟨by omega, by omega, by simp only [inR]; omega⟩, by simp only [inR]; omega, step w3 h3⟩)
    cases ea
    exact hst'

theorem red_L5 (hn : nu ≤ 1000000) (hv : SlU w1 Av vs) (hvl : vs.length = nv) (hsv : Small vs) (hsep : Sep Av Au none nu cu 0 0) {pre D0 : List Nat} {g j : Nat} (hj : pre.length = j) (hk : nv < D0.length) (hg : g ≤ 1000000000)
    (hR : ∀ w D (c br : Nat), Div w1 w B Au nu cu (pre ++ D) none 0 0 [] → D.length = D0.length → c < 1000000000 → br ≤ 1 → D.drop nv = D0.drop nv → wv D + g * wv vs = wv D0 + 1000000000 ^ nv * (c + br) →
      ((D0.getD nv 0 : Nat) - (c : Int) - (br : Int) ≥ 0 → ∀ w2, Div w1 w2 B Au nu cu (pre ++ D.set nv ((D0.getD nv 0 : Nat) - (c : Int) - (br : Int)).toNat) none 0 0 [] → R (.int .u32 (g : Int)) w2) ∧
      (¬ ((D0.getD nv 0 : Nat) - (c : Int) - (br : Int) ≥ 0) → ∀ w2, Div w1 w2 B Au nu cu (pre ++ D.set nv ((D0.getD nv 0 : Nat) - (c : Int) - (br : Int) + 1000000000).toNat) none 0 0 [] → F.garboardref01_reduce.L21 Au nu cu Av nv cv j g nv 0 0 B w2 R)) :
    ∀ (d i : Nat) (w : World) (D : List Nat) (c br : Nat), nv - i = d → i ≤ nv → Div w1 w B Au nu cu (pre ++ D) none 0 0 [] → D.length = D0.length → c < 1000000000 → br ≤ 1 → D.drop nv = D0.drop nv → wv D + g * wv (vs.take i) = wv D0 + 1000000000 ^ i * (c + br) →
      F.garboardref01_reduce.L5 Au nu cu Av nv cv j g nv br c i B w R := by
  intro d
  induction d with
  | zero =>
    intro i w D c br hd hi h hl hc hb hk2 he
    have hin : i = nv := by omega
    subst hin
    have hul := h.u.len
    have hul2 := hul
    simp only [List.length_append] at hul
    have gu := h.su.getD (i + j)
    rw [app_getD hj] at gu
    rw [List.take_of_length_le (by omega)] at he
    have e2 : ((j : Int) + (i : Int)).toNat = i + j := by omega
    have hr := hR w D c br h hl hc hb hk2 he
    have hg5 := getD_of_drop hk2
    rw [hg5] at gu
    have hval : (pre ++ D).getD ((j : Int) + (i : Int)).toNat 0 = D0.getD i 0 := by rw [e2, app_getD hj, hg5]
    refine F.garboardref01_reduce.L5.step _ _ _ _ _ _ _ _ _ _ _ _ _ _ _ ⟨fun h => by omega, fun _ => ⟨by simp only [inR]; omega, ?_⟩⟩
    refine h.u.sl.load hul2 (by omega) (by omega) ?_
    rw [hval]
    refine ⟨by simp only [inR]; omega, by simp only [inR]; omega, by simp only [inR]; omega, by simp only [inR]; omega, fun h0 => ⟨by simp only [inR]; omega, by simp only [inR]; omega, ?_⟩, fun h0 => ⟨by simp only [inR]; omega, by simp only [inR]; omega, by simp only [inR]; omega, ?_⟩⟩
    · refine h.storeU apart_none (by omega) (by omega) (by omega) (by omega) fun w2 h2 => ⟨by simp only [inR]; omega, ?_⟩
      rw [e2, app_set hj] at h2
      exact hr.1 h0 w2 h2
    · refine h.storeU apart_none (by omega) (by omega) (by omega) (by omega) fun w2 h2 => ?_
      rw [e2, app_set hj] at h2
      exact hr.2 h0 w2 h2
  | succ d ih =>
    intro i w D c br hd hi h hl hc hb hk2 he
    have hul := h.u.len
    have hul2 := hul
    simp only [List.length_append] at hul
    have gv := hsv.getD i
    have gu := h.su.getD (i + j)
    have e2 : ((j : Int) + (i : Int)).toNat = i + j := by omega
    rw [app_getD hj] at gu
    have hval : (pre ++ D).getD ((j : Int) + (i : Int)).toNat 0 = D.getD i 0 := by rw [e2, app_getD hj]
    have e3 : (i : Int) + 1 = ((i + 1 : Nat) : Int) := by omega
    have hgv : g * vs.getD i 0 ≤ 1000000000 * 999999999 := Nat.mul_le_mul hg (by omega)
    obtain ⟨p, hp⟩ : ∃ p, p = g * vs.getD i 0 + c := ⟨_, rfl⟩
    have ep : (g : Int) * (vs.getD i 0 : Nat) = ((g * vs.getD i 0 : Nat) : Int) := by simp
    have ep2 : ((g * vs.getD i 0 : Nat) : Int) + (c : Int) = (p : Int) := by omega
    have e5 : (p : Int) / 1000000000 = ((p / 1000000000 : Nat) : Int) := by omega
    have next : ∀ (br' x : Nat) w2, br' ≤ 1 → x + p % 1000000000 + br = D.getD i 0 + 1000000000 * br' → Div w1 w2 B Au nu cu ((pre ++ D).set (i + j) x) none 0 0 [] →
        F.garboardref01_reduce.L5 Au nu cu Av nv cv j g nv br' ((p / 1000000000 : Nat) : Int) ((i : Int) + 1) B w2 R := by
      intro br' x w2 hb' hx h2
      rw [app_set hj] at h2
      rw [e3]
      refine ih (i + 1) w2 _ _ br' (by omega) (by omega) h2 (by simpa using hl) (by omega) hb' (by rw [List.drop_set, if_pos (by omega)]; exact hk2) ?_
      rw [wv_take_succ, Nat.pow_succ]
      exact sub_word he (wv_set D i x (by omega)) (by rw [← hp]; exact hx) (by rw [← hp])
    refine F.garboardref01_reduce.L5.step _ _ _ _ _ _ _ _ _ _ _ _ _ _ _ ⟨fun _ => ?_, fun h => by omega⟩
    refine (h.sl hv hsep).load hvl (by omega) (by omega) ?_
    rw [Int.toNat_natCast, ep, ep2, e5]
    refine ⟨by simp only [inR]; omega, by simp only [inR]; omega, by simp only [inR]; omega, ⟨by omega, by omega, by simp only [inR]; omega⟩, by simp only [inR]; omega, ?_⟩
    refine h.u.sl.load hul2 (by omega) (by omega) ?_
    rw [hval]
    refine ⟨by simp only [inR]; omega, by omega, by simp only [inR]; omega, by simp only [inR]; omega, by simp only [inR]; omega, fun h0 => ⟨by simp only [inR]; omega, by simp only [inR]; omega, by simp only [inR]; omega, ?_⟩, fun h0 => ⟨by simp only [inR]; omega, by simp only [inR]; omega, ?_⟩⟩
    · refine h.storeU apart_none (by omega) (by omega) (by omega) (by omega) fun w2 h2 => ⟨by simp only [inR]; omega, ?_⟩
      rw [e2] at h2
      exact next 1 _ w2 (by omega) (by omega) h2
    · refine h.storeU apart_none (by omega) (by omega) (by omega) (by omega) fun w2 h2 => ⟨by simp only [inR]; omega, ?_⟩
      rw [e2] at h2
      exact next 0 _ w2 (by omega) (by omega) h2
end

theorem ref_reduce {w : World} {B : Nat} {Au Av : Option Addr} {nu cu nv cv : Nat} {vs pre D : List Nat} {g j q : Nat} (hB : B ≤ w.heap.size) (hn : nu ≤ 1000000) (hu : OwnU w B Au nu cu (pre ++ D)) (hsu : Small (pre ++ D)) (hv : SlU w Av vs) (hvl : vs.length = nv) (hsv : Small vs)
    (hvu : ∀ a b, Av = some a → Au = some b → a.block ≠ b.block) (hj : pre.length = j) (hk : nv < D.length) (hg : g ≤ 1000000000) (hqg : q ≤ g) (hq1 : q * wv vs ≤ wv D) (hq2 : wv D < q * wv vs + wv vs) (hgV : g * wv vs < wv D + wv vs) (hT : wv D < 1000000000 ^ (nv + 1)) (hV : wv vs < 1000000000 ^ nv) (hqb : q < 1000000000) :
    PureB Tryz.prog 125 #[.slice Au nu cu, .slice Av nv cv, .int .i64 (j : Int), .int .u64 (g : Int)] B w fun v w' => v = .int .u32 (q : Int) ∧ ∃ D3, D3.length = D.length ∧ wv D3 = wv D - q * wv vs ∧ Div w w' B Au nu cu (pre ++ D3) none 0 0 [] := by
  have hsep : Sep Av Au none nu cu 0 0 := Sep.of hvu fun _ _ _ h => by cases h
  have hVpos : 0 < wv vs := by omega
  have hsD : Small D := fun x hx => hsu x (by simp [hx])
  have gt0 := hsD.getD nv
  have t0 := wv_top (k := nv) (by omega) hsD hT
  have td : wv (D.drop nv) = D.getD nv 0 := by
    have h1 := wv_split D nv (by omega)
    have hp : 0 < 1000000000 ^ nv := Nat.pow_pos (by omega)
    exact Nat.eq_of_mul_eq_mul_left hp (by omega)
  refine F.garboardref01_reduce.vcB _ _ _ _ _ _ _ _ B w hB _ ?_
  refine red_L5 (w1 := w) hn hv hvl hsv hsep hj hk hg (fun w5 D5 c br h5 hl5 hc hbr hk5 he5 => ?_) nv 0 w D 0 0 (by omega) (by omega) ⟨hu, World.ownsRow_nil w _ _ _, hsu, Small.nil, fun _ _ _ _ => rfl, Below.refl _ _⟩ rfl (by omega) (by omega) rfl (by simp [wv])
  have t5 := wv_split D5 nv (by omega)
  have hs5 : Small D5 := fun x hx => h5.su x (by simp [hx])
  have l5 := wv_lt (hs5.take nv)
  rw [List.length_take, Nat.min_eq_left (by omega)] at l5
  rw [hk5, td] at t5
  have hg5 := getD_of_drop hk5
  obtain ⟨P, hP⟩ : ∃ P, P = 1000000000 ^ nv := ⟨_, rfl⟩
  rw [← hP] at t5 l5 he5 hV
  obtain ⟨z, hz⟩ : ∃ z, z = D.getD nv 0 := ⟨_, rfl⟩
  rw [← hz] at t5 hg5 gt0 ⊢
  rw [Nat.mul_add] at he5
  refine ⟨fun hpos w7 h7 => ?_, fun hneg w6 h6 => ?_⟩
  · have hle5 : g * wv vs ≤ wv D := by
      have k1 : P * (c + br) ≤ P * z := Nat.mul_le_mul_left _ (by omega)
      rw [Nat.mul_add] at k1
      omega
    have hq : q = g := by
      rcases Nat.lt_or_ge q g with k | k
      · have := Nat.mul_le_mul_right (wv vs) (show q + 1 ≤ g by omega)
        rw [Nat.add_mul] at this
        omega
      · omega
    subst hq
    refine ⟨rfl, _, by simpa using hl5, ?_, h7⟩
    have hset := wv_set D5 nv (((z : Int) - (c : Int) - (br : Int)).toNat) (by omega)
    rw [hg5, ← hP] at hset
    have e8 : P * (((z : Int) - (c : Int) - (br : Int)).toNat) + (P * c + P * br) = P * z := by
      rw [← Nat.mul_add, ← Nat.mul_add]
      congr 1
      omega
    omega
  · have hlt5 : wv D < g * wv vs := by
      have k1 : P * (z + 1) ≤ P * (c + br) := Nat.mul_le_mul_left _ (by omega)
      rw [Nat.mul_add, Nat.mul_add] at k1
      omega
    have hqg' : q + 1 = g := by
      have k1 : q < g := by
        apply Decidable.byContradiction
        intro k
        have := Nat.mul_le_mul_right (wv vs) (show g ≤ q by omega)
        omega
      apply Decidable.byContradiction
      intro k
      have := Nat.mul_le_mul_right (wv vs) (show q + 2 ≤ g by omega)
      rw [Nat.add_mul] at this
      omega
    obtain ⟨z', hz'⟩ : ∃ z', z' = ((z : Int) - (c : Int) - (br : Int) + 1000000000).toNat := ⟨_, rfl⟩
    rw [← hz'] at h6
    have eg : (g : Int) - 1 = (q : Int) := by omega
    have hset := wv_set D5 nv z' (by omega)
    rw [hg5, ← hP] at hset
    have hset' : (D5.set nv z').getD nv 0 = z' := by rw [List.getD_eq_getElem?_getD, List.getElem?_set_self (by omega)]; rfl
    refine red_L21 hn hv hvl hsv hsep hj (by simpa using (show nv < D5.length by omega)) (by omega) hg (fun w8 D6 up hup hl6 hk6 he6 h8 => ?_) nv 0 w6 _ 0 (by omega) (by omega) h6 rfl (by omega) rfl (by simp [wv])
    rw [eg]
    rw [hset'] at h8
    refine ⟨rfl, _, by simp at hl6; simp [hl6, hl5], ?_, h8⟩
    have hg6 := getD_of_drop hk6
    rw [hset'] at hg6
    have hgV2 : g * wv vs = q * wv vs + wv vs := by rw [← hqg', Nat.add_mul, Nat.one_mul]
    have z1 : wv (D.drop (nv + 1)) = 0 := by
      have := wv_drop D nv
      omega
    have dr : D5.drop (nv + 1) = D.drop (nv + 1) := by
      have := congrArg (List.drop 1) hk5
      rwa [List.drop_drop, List.drop_drop] at this
    have td6 : wv (D6.drop nv) = z' := by
      have := wv_drop (D5.set nv z') nv
      rw [hset', List.drop_set (i := nv + 1), if_pos (by omega), dr, z1] at this
      rw [hk6]
      omega
    have t6 := wv_split D6 nv (by simp at hl6; omega)
    have s6 : Small (D6.take nv) := by
      have e : (D6.set nv ((z' + up) % 1000000000)).take nv = D6.take nv := by
        rw [List.take_set_of_le (by omega)]
      rw [← e]
      exact fun x hx => h8.su x (by simp [List.mem_of_mem_take hx])
    have l6 := wv_lt s6
    rw [List.length_take, Nat.min_eq_left (by simp at hl6; omega), ← hP] at l6
    rw [td6, ← hP] at t6
    rw [← hP] at he6
    have e9 : P * z' + (P * c + P * br) = P * z + P * 1000000000 := by
      rw [← Nat.mul_add, ← Nat.mul_add, ← Nat.mul_add]
      congr 1
      omega
    have key : wv (D6.take nv) + P * (z' + up) = (wv D - q * wv vs) + P * 1000000000 := by rw [Nat.mul_add]; omega
    have hzz : z' + up = 1000000000 := by
      rcases Nat.lt_trichotomy (z' + up) 1000000000 with k | k | k
      · have := Nat.mul_le_mul_left P (show z' + up + 1 ≤ 1000000000 by omega)
        rw [Nat.mul_add] at this
        omega
      · exact k
      · have := Nat.mul_le_mul_left P (show 1000000000 + 1 ≤ z' + up by omega)
        rw [Nat.mul_add] at this
        omega
    have hset2 := wv_set D6 nv 0 (by simp at hl6; omega)
    rw [hg6, ← hP] at hset2
    have e10 : (z' + up) % 1000000000 = 0 := by rw [hzz]
    rw [e10] at h8 ⊢
    rw [hzz] at key
    omega
end Go.Proofs.YtdoailkigecmkaaGreatDoor.B

namespace Go.Proofs.YtdoailkigecmkaaGreatDoor.B
open Go Go.RowKit Go.Proofs Go.Proofs.YtdoailkigecmkaaGreatDoor.Vc

theorem IsN.one {w : World} {A : Option Addr} {n c x : Nat} (h : IsN w A n c x) (h0 : 0 < x) (hx : x < 1000000000) : n = 1 ∧ SlU w A [x] := by
  obtain ⟨ws, h1, h2, h3, h4, h5, h6, rfl⟩ := h
  have hne : ws ≠ [] := fun e => by subst e; simp [wv] at h0
  have hp := wv_pos h6 hne
  have hl : ws.length = 1 := by
    have := List.length_pos_iff.2 hne
    apply Decidable.byContradiction
    intro k
    have : 1000000000 ^ 1 ≤ 1000000000 ^ (ws.length - 1) := Nat.pow_le_pow_right (by omega) (by omega)
    omega
  obtain ⟨z, rfl⟩ := List.length_eq_one_iff.1 hl
  refine ⟨by simpa using h2.symm, ?_⟩
  have e : wv [z] = z := by simp [wv]
  rw [e]
  exact h1

theorem Div.join {w1 w w' : World} {B : Nat} {Au : Option Addr} {nu cu : Nat} {us us' : List Nat} {Aq : Option Addr} {nq cq : Nat} {qs : List Nat} (h : Div w1 w B Au nu cu us Aq nq cq qs) (ha : Apart Au Aq) (k : Div w w' B Au nu cu us' none 0 0 []) : Div w1 w' B Au nu cu us' Aq nq cq qs := by
  have no : ∀ i : Nat, some i ≠ Value.ownBlock (.slice none 0 0) := fun i => by simp [Value.ownBlock]
  refine ⟨k.u, h.q.other fun b hb => k.fr b (h.q.blk b hb).2 (fun e => ?_) (no b), k.su, h.sq, fun i hi h1 h2 => (k.fr i (Nat.lt_of_lt_of_le hi h.below.size) h1 (no i)).trans (h.fr i hi h1 h2), h.below.trans k.below⟩
  cases Au with
  | none => simp [Value.ownBlock] at e
  | some a =>
    cases Aq with
    | none => simp [Value.ownBlock] at hb
    | some a' =>
      simp [Value.ownBlock] at e hb
      exact ha a a' rfl rfl (by omega)

section
variable {w1 : World} {B : Nat} {Af Au Av Aq : Option Addr} {nf cf nu cu nv cv nq cq : Nat} {vs : List Nat} {R : Value → World → Prop}

theorem over_L17 (hn : nu ≤ 1000000) (hv : SlU w1 Av vs) (hvl : vs.length = nv) (hsv : Small vs) (hsep : Sep Av Au Aq nu cu nq cq) (hnv : 2 ≤ nv) {pre D qs : List Nat} {j : Nat} (hj : pre.length = j) (hk : nv < D.length)
    {top low M vl q T V : Nat} (hlow : low < M) (hvlow : vl < M) (hv1 : 1 ≤ vs.getD (nv - 1) 0) (hV : V = (vs.getD (nv - 1) 0 * 1000000000 + vs.getD (nv - 2) 0) * M + vl) (hT : T = (top * 1000000000 + D.getD (nv - 2) 0) * M + low)
    (hqT : q * V ≤ T) (hqb : q < 1000000000)
    (hR : ∀ w (g : Nat), Div w1 w B Au nu cu (pre ++ D) Aq nq cq qs → g ≤ 1000000000 → q ≤ g → g * V < T + V → PureB Tryz.prog 125 #[.slice Au nu cu, .slice Av nv cv, .int .i64 (j : Int), .int .u64 (g : Int)] B w fun r w78 => (∀ (k ty : Nat) (cs : Array Value), ty ∈ ([] : List Nat) → w.heap[k]? = some (.cells cs ty (0, 0)) → w78.heap[k]? = w.heap[k]?) ∧ ∃ (i76 : Int), r = (.int .u32 i76) ∧ ((0 ≤ (j : Int) ∧ (j : Int) < nq) ∧ ∃ a79, Aq = some a79 ∧ (∃ (cs80 : List Value) (t81 : Nat), B ≤ (a79.add (((j : Int)).toNat * 1)).block ∧ (a79.add (((j : Int)).toNat * 1)).spot = none ∧ w78.heap[(a79.add (((j : Int)).toNat * 1)).block]? = some (.cells cs80.toArray t81 (0, 0)) ∧ (a79.add (((j : Int)).toNat * 1)).off + 1 ≤ cs80.length ∧ hasType t81 [] = false ∧ ∀ w82, Wrote w78 w82 (a79.add (((j : Int)).toNat * 1)).block t81 (setCells cs80 (a79.add (((j : Int)).toNat * 1)).off [(.int .u32 i76)]) → (inR .i64 ((j : Int) - (1 : Int)) ∧ (F.garboardref01_Over.L13 nv Af nf cf Av nv cv Au nu cu Aq nq cq ((j : Int) - (1 : Int)) B w82 R))))) :
    ∀ (g rest : Nat) (w : World), Div w1 w B Au nu cu (pre ++ D) Aq nq cq qs → g * vs.getD (nv - 1) 0 + rest = top → q ≤ g → g ≤ 1000000001 → rest < 2000000000 → (rest < 1000000000 ∨ g ≤ 1000000000) →
      F.garboardref01_Over.L17 nv Af nf cf Av nv cv Au nu cu Aq nq cq j g rest B w R := by
  have g1 := hsv.getD (nv - 1)
  have g2 := hsv.getD (nv - 2)
  have ex1 : ((nv : Int) - 1).toNat = nv - 1 := by omega
  have ex2 : ((nv : Int) - 2).toNat = nv - 2 := by omega
  have ex3 : ((j : Int) + (nv : Int) - 2).toNat = (nv - 2) + j := by omega
  intro g
  induction g with
  | zero =>
    intro rest w h ht hq hg hr ho
    have hul := h.u.len
    have hul2 := hul
    simp only [List.length_append] at hul
    have gu := h.su.getD (nv - 2 + j)
    rw [app_getD hj] at gu
    have lt0 : 0 * V < T + V := by
      rw [hT, hV]
      exact guess_le hvlow hv1 ht (by omega) (by omega)
    refine F.garboardref01_Over.L17.step _ _ _ _ _ _ _ _ _ _ _ _ _ _ _ _ _ _ _ ⟨fun hlt => ⟨fun hge => by omega, fun _ => ⟨by simp only [inR]; omega, ?_⟩⟩, fun _ w2 e => hR w2 0 (h.ext e) (by omega) hq lt0⟩
    refine (h.sl hv hsep).load hvl (by omega) (by omega) ?_
    rw [ex2]
    refine ⟨by simp only [inR]; omega, by simp only [inR]; omega, by simp only [inR]; omega, by simp only [inR]; omega, by simp only [inR]; omega, ?_⟩
    refine h.u.sl.load hul2 (by omega) (by omega) ?_
    rw [ex3, app_getD hj]
    exact ⟨by simp only [inR]; omega, by simp only [inR]; omega, fun h0 => by omega, fun h0 w2 e => hR w2 0 (h.ext e) (by omega) hq lt0⟩
  | succ g ih =>
    intro rest w h ht hq hg hr ho
    have hul := h.u.len
    have hul2 := hul
    simp only [List.length_append] at hul
    have gu := h.su.getD (nv - 2 + j)
    rw [app_getD hj] at gu
    have eg : ((g + 1 : Nat) : Int) - 1 = (g : Int) := by omega
    have hgv : (g + 1) * vs.getD (nv - 2) 0 ≤ 1000000001 * 1000000000 := Nat.mul_le_mul (by omega) (by omega)
    have ep : ((g + 1 : Nat) : Int) * (vs.getD (nv - 2) 0 : Nat) = (((g + 1) * vs.getD (nv - 2) 0 : Nat) : Int) := by simp
    have next : q ≤ g → rest < 1000000000 → ∀ w2, Ext B [] w w2 → inR .u64 ((vs.getD (nv - 1) 0 : Nat) : Int) ∧ inR .u64 ((rest : Int) + (vs.getD (nv - 1) 0 : Nat)) ∧
        F.garboardref01_Over.L17 nv Af nf cf Av nv cv Au nu cu Aq nq cq j g ((rest : Int) + (vs.getD (nv - 1) 0 : Nat)) B w2 R := by
      intro hqg hrl w2 e
      have ht2 : g * vs.getD (nv - 1) 0 + (rest + vs.getD (nv - 1) 0) = top := by rw [Nat.add_mul] at ht; omega
      exact ⟨by simp only [inR]; omega, by simp only [inR]; omega, ih (rest + vs.getD (nv - 1) 0) w2 (h.ext e) ht2 hqg (by omega) (by omega) (by omega)⟩
    refine F.garboardref01_Over.L17.step _ _ _ _ _ _ _ _ _ _ _ _ _ _ _ _ _ _ _ ⟨fun hlt => ⟨fun hge => ⟨by simp only [inR]; omega, by simp only [inR]; omega, ?_⟩, fun hg2 => ⟨by simp only [inR]; omega, ?_⟩⟩, fun hnot w2 e => hR w2 (g + 1) (h.ext e) (by omega) hq ?_⟩
    · rw [eg]
      refine (h.sl hv hsep).load2 hvl (by omega) (by omega) fun w2 e => ?_
      rw [ex1]
      exact next (by omega) (by omega) w2 e
    · refine (h.sl hv hsep).load hvl (by omega) (by omega) ?_
      rw [ex2, ep]
      refine ⟨by simp only [inR]; omega, by simp only [inR]; omega, by simp only [inR]; omega, by simp only [inR]; omega, by simp only [inR]; omega, ?_⟩
      refine h.u.sl.load hul2 (by omega) (by omega) ?_
      rw [ex3, app_getD hj, eg]
      refine ⟨by simp only [inR]; omega, by simp only [inR]; omega, fun h1 => ⟨by simp only [inR]; omega, by simp only [inR]; omega, ?_⟩, fun h1 w2 e => hR w2 (g + 1) (h.ext e) (by omega) hq ?_⟩
      · refine (h.sl hv hsep).load2 hvl (by omega) (by omega) fun w2 e => ?_
        rw [ex1]
        refine next ?_ (by omega) w2 e
        rw [hT, hV] at hqT
        have := guess_gt hlow hqT ht hq (by omega)
        omega
      · rw [hT, hV]
        exact guess_le hvlow hv1 ht (by omega) (by omega)
    · rw [hT, hV]
      have h4 : (g + 1) * vs.getD (nv - 2) 0 ≤ 1000000000 * 1000000000 := Nat.mul_le_mul (by omega) (by omega)
      exact guess_le hvlow hv1 ht (by omega) (by omega)

set_option maxHeartbeats 2000000 in
theorem over_L13 (ha : Apart Au Aq) (hn : nu ≤ 1000000) (hB : B ≤ w1.heap.size) (hv : SlU w1 Av vs) (hvl : vs.length = nv) (hsv : Small vs) (hsep : Sep Av Au Aq nu cu nq cq) (hvu : ∀ a b, Av = some a → Au = some b → a.block ≠ b.block) (hnv : 2 ≤ nv) (hnq : nu = nq + nv) (hhalf : 1000000000 ≤ 2 * vs.getD (nv - 1) 0)
    {f : Nat} (hf : SlU w1 Af [f]) (hnf : nf = 1) (hsepf : Sep Af Au Aq nu cu nq cq) (hf0 : 0 < f) (hf1 : f < 1000000000) {U0 : Nat}
    (hR : ∀ A n c A' n' c' w, IsN w A n c (U0 / wv vs) → IsN w A' n' c' (U0 % wv vs / f) → R (.tuple #[.slice A n c, .slice A' n' c']) w) :
    ∀ (i : Nat) (w : World) (us qs : List Nat), i ≤ nq → Div w1 w B Au nu cu us Aq nq cq qs → wv (us.drop i) < wv vs → wv (qs.drop i) * wv vs * 1000000000 ^ i + wv us = U0 →
      F.garboardref01_Over.L13 nv Af nf cf Av nv cv Au nu cu Aq nq cq ((i : Int) - 1) B w R := by
  obtain ⟨kk, rfl⟩ : ∃ kk, nv = kk + 2 := ⟨nv - 2, by omega⟩
  have hVlt : wv vs < 1000000000 ^ (kk + 2) := by have := wv_lt hsv; rwa [hvl] at this
  obtain ⟨hV, hvlow⟩ := words2 hvl hsv
  have ev1 : kk + 2 - 1 = kk + 1 := by omega
  have g1 := hsv.getD (kk + 1)
  have g2 := hsv.getD kk
  rw [ev1] at hhalf
  intro i
  induction i with
  | zero =>
    intro w us qs hi h hlt he
    have hul := h.u.len
    have hcap := h.u.cap
    simp only [List.drop_zero, Nat.pow_zero, Nat.mul_one] at hlt he
    have ediv : U0 / wv vs = wv qs := by rw [← he, Nat.mul_comm, Nat.mul_add_div (by omega), Nat.div_eq_of_lt hlt, Nat.add_zero]
    have emod : U0 % wv vs = wv us := by rw [← he, Nat.mul_comm, Nat.mul_add_mod, Nat.mod_eq_of_lt hlt]
    rw [ediv, emod] at hR
    have etake : wv (us.take (kk + 2)) = wv us := by
      have h1 := wv_split us (kk + 2) (by omega)
      have h2 : wv (us.drop (kk + 2)) = 0 := by
        apply Decidable.byContradiction
        intro h3
        have h4 : 1000000000 ^ (kk + 2) * 1 ≤ 1000000000 ^ (kk + 2) * wv (us.drop (kk + 2)) := Nat.mul_le_mul_left _ (by omega)
        omega
      rw [h2] at h1
      omega
    refine F.garboardref01_Over.L13.step _ _ _ _ _ _ _ _ _ _ _ _ _ _ _ _ _ ⟨fun h => by omega, fun _ => ⟨⟨by omega, by omega⟩, ?_⟩⟩
    refine (h.sl hf hsepf).load (n := nf) (by rw [hnf]; rfl) (by omega) (by omega) fun w2 e2 => ?_
    have h2 := h.ext e2
    have e3 : (((kk + 2 : Nat) : Int)).toNat = kk + 2 := by omega
    rw [e3]
    refine Pure.mono (ref_trim (h2.u.sl.take (kk + 2)) (by simp; omega) (by omega) (by omega) (h2.su.take _)) ?_
    rintro v w3 hb3 ⟨rfl, m, rfl, hm, hm1, _⟩
    rw [etake] at hm
    refine ⟨_, _, _, rfl, Pure.mono (ref_small (d := f) hm (by omega) hf0 (by omega)) ?_⟩
    rintro v w4 hb4 ⟨A1, n1, c1, rfl, k1⟩
    refine ⟨_, _, _, _, rfl, ?_⟩
    have hq4 : SlU w4 Aq qs := h2.q.sl.below hb4
    refine Pure.mono (ref_trim hq4 h2.q.len h2.q.cap (by have := h2.q.cap; omega) h2.sq) ?_
    rintro v w5 hb5 ⟨rfl, m', rfl, hm', _⟩
    exact ⟨_, _, _, rfl, hR _ _ _ _ _ _ _ hm' k1⟩
  | succ j ih =>
    intro w us qs hi h hlt he
    have hul := h.u.len
    have hql := h.q.len
    have e0 : ((j + 1 : Nat) : Int) - 1 = (j : Int) := by omega
    rw [e0]
    obtain ⟨pre, hpre⟩ : ∃ pre, pre = us.take j := ⟨_, rfl⟩
    obtain ⟨D, hD⟩ : ∃ D, D = us.drop j := ⟨_, rfl⟩
    have hus : us = pre ++ D := by rw [hpre, hD, List.take_append_drop]
    have hj : pre.length = j := by rw [hpre]; simp; omega
    have hDl : D.length = nu - j := by rw [hD]; simp [hul]
    have hsD : Small D := by rw [hD]; exact fun x hx => h.su x (List.mem_of_mem_drop hx)
    have hdrop : us.drop (j + 1) = D.drop 1 := by rw [hD, List.drop_drop]
    rw [hdrop] at hlt
    have hT0 : wv D = D.getD 0 0 + 1000000000 * wv (D.drop 1) := by have := wv_drop D 0; simpa using this
    have gD0 := hsD.getD 0
    have hT : wv D < 1000000000 * wv vs := by omega
    have hT3 : wv D < 1000000000 ^ (kk + 2 + 1) := by rw [Nat.pow_succ]; omega
    obtain ⟨hTw, hlow⟩ := words3 (by omega) hsD hT3
    have gt0 := hsD.getD (kk + 2)
    have gt1 := hsD.getD (kk + 1)
    have gt2 := hsD.getD kk
    have hwu : wv us = wv pre + 1000000000 ^ j * wv D := by rw [hus, wv_append, hj]
    obtain ⟨q, hq⟩ : ∃ q, q = wv D / wv vs := ⟨_, rfl⟩
    have hVpos : 0 < wv vs := by omega
    have hqT : q * wv vs ≤ wv D := by rw [hq]; exact Nat.div_mul_le_self _ _
    have hqT2 : wv D < q * wv vs + wv vs := by
      have h1 := Nat.div_add_mod (wv D) (wv vs)
      have h2 := Nat.mod_lt (wv D) hVpos
      rw [← hq, Nat.mul_comm] at h1
      omega
    have hqb : q < 1000000000 := by
      rw [hq, Nat.div_lt_iff_lt_mul hVpos]
      exact hT
    rw [hus] at h
    -- the next round
    have next : ∀ w2 D3, Div w1 w2 B Au nu cu (pre ++ D3) Aq nq cq (qs.set j q) → wv D3 = wv D - q * wv vs →
        F.garboardref01_Over.L13 (kk + 2 : Nat) Af nf cf Av (kk + 2) cv Au nu cu Aq nq cq ((j : Int) - 1) B w2 R := by
      intro w2 D3 h2 hw2
      refine ih w2 _ _ (by omega) h2 ?_ ?_
      · rw [← hj, List.drop_left, hw2]; omega
      · have eq1 : wv ((qs.set j q).drop j) = q + 1000000000 * wv (qs.drop (j + 1)) := by
          rw [wv_drop, List.drop_set, if_pos (by omega), List.getD_eq_getElem?_getD, List.getElem?_set_self (by omega)]
          rfl
        have e5 : wv D3 + q * wv vs = wv D := by omega
        rw [eq1, wv_append, hj]
        rw [hwu, ← e5, Nat.pow_succ] at he
        rw [← he]
        grind
    obtain ⟨top, htop⟩ : ∃ top, top = D.getD (kk + 2) 0 * 1000000000 + D.getD (kk + 1) 0 := ⟨_, rfl⟩
    rw [← htop] at hTw
    have etop : ((D.getD (kk + 2) 0 : Nat) : Int) * 1000000000 + ((D.getD (kk + 1) 0 : Nat) : Int) = (top : Int) := by omega
    obtain ⟨v1, hv1⟩ : ∃ v1, v1 = vs.getD (kk + 1) 0 := ⟨_, rfl⟩
    have ei1 : ((j : Int) + ((kk + 2 : Nat) : Int)).toNat = (kk + 2) + j := by omega
    have ei2 : ((j : Int) + ((kk + 2 : Nat) : Int) - 1).toNat = (kk + 1) + j := by omega
    have ei3 : (((kk + 2 : Nat) : Int) - 1).toNat = kk + 1 := by omega
    have hul2 := h.u.len
    refine F.garboardref01_Over.L13.step _ _ _ _ _ _ _ _ _ _ _ _ _ _ _ _ _ ⟨fun _ => ⟨by simp only [inR]; omega, ?_⟩, fun h => by omega⟩
    refine h.u.sl.load hul2 (by omega) (by omega) ?_
    rw [ei1, app_getD hj]
    refine ⟨by simp only [inR]; omega, by simp only [inR]; omega, by simp only [inR]; omega, by simp only [inR]; omega, ?_⟩
    refine h.u.sl.load hul2 (by omega) (by omega) ?_
    rw [ei2, app_getD hj, etop]
    refine ⟨by simp only [inR]; omega, by simp only [inR]; omega, fun w2 e2 => ⟨by simp only [inR]; omega, ?_⟩⟩
    have h2 := h.ext e2
    refine (h2.sl hv hsep).load hvl (by omega) (by omega) ?_
    have hval : vs.getD (((kk + 2 : Nat) : Int) - 1).toNat 0 = v1 := by rw [ei3, hv1]
    rw [hval]
    rw [← hv1] at hhalf g1
    refine ⟨by simp only [inR]; omega, ⟨by omega, by omega, by simp only [inR]; omega⟩, by simp only [inR]; omega, ?_⟩
    refine (h2.sl hv hsep).load hvl (by omega) (by omega) ?_
    rw [hval]
    refine ⟨by simp only [inR]; omega, ⟨by omega, by omega⟩, fun w3 e3 => ?_⟩
    have h3 := h2.ext e3
    have ed : (top : Int) / (v1 : Int) = ((top / v1 : Nat) : Int) := by simp
    have em : (top : Int) % (v1 : Int) = ((top % v1 : Nat) : Int) := by simp
    rw [ed, em]
    have hgq : q ≤ top / v1 := by
      rw [Nat.le_div_iff_mul_le (by omega)]
      rw [hTw, hV, ← hv1] at hqT
      exact guess_ge gt2 hlow hqT
    have hgb : top / v1 ≤ 1000000001 := by
      refine guess_first (by omega) g2 hvlow (by rw [hv1] at hhalf; exact hhalf) (by rw [← hTw, ← hV]; exact hT) ?_
      rw [← hv1]
      exact Nat.div_mul_le_self _ _
    have hml := Nat.mod_lt top (show 0 < v1 by omega)
    refine over_L17 hn hv hvl hsv hsep (by omega) hj (by omega) (top := top) (low := wv (D.take kk)) (M := 1000000000 ^ kk) (vl := wv (vs.take kk)) (q := q) (T := wv D) (V := wv vs) hlow hvlow (by rw [ev1, ← hv1]; omega) (by rw [ev1]; exact hV) hTw hqT hqb
      (fun w4 g h4 hg1 hg2 hg3 => ?_) (top / v1) (top % v1) w3 h3 (by rw [ev1, ← hv1]; have := Nat.div_add_mod top v1; rw [Nat.mul_comm] at this; exact this) hgq hgb (by omega) (.inl (by omega))
    refine PureB.mono (ref_reduce (q := q) (Nat.le_trans hB h4.below.size) hn h4.u h4.su (h4.sl hv hsep) hvl hsv hvu hj (by omega) hg1 hg2 hqT hqT2 hg3 hT3 hVlt hqb) ?_
    rintro v w5 b5 ⟨rfl, D3, hl3, hw3, k3⟩
    refine ⟨fun k ty cs h => (by cases h), _, rfl, ?_⟩
    refine (h4.join ha k3).storeQ ha (j := (j : Int)) (by omega) (by omega) (by omega) (by omega) fun w6 h6 => ⟨by simp only [inR]; omega, ?_⟩
    rw [Int.toNat_natCast, Int.toNat_natCast] at h6
    exact next w6 D3 h6 hw3
end

theorem lit_ok {t : Nat} (el : El Tryz.prog t 106 1 4) {B : Nat} {w : World} {tys : List Nat} (hB : B ≤ w.heap.size) (xs : List Nat) (hl : xs.length ≤ 1024) {K : Option Addr → Nat → Nat → World → Prop}
    (h : ∀ A c w2, OwnU w2 w.heap.size A xs.length c xs → Below w.heap.size w w2 → K A xs.length c w2) :
    RunOk Tryz.prog (Instr.buildSlice t xs.length ((u32s xs).zipIdx.map fun x => (x.2, x.1)).toArray) B tys w fun r w1 => ∃ A n c, r = .slice A n c ∧ K A n c w1 := by
  obtain ⟨w', hr, hb, hs, ho⟩ := lit_u32 el w xs hl
  exact ⟨_, w', hr, hb.mono hB, hs, fun k ty cs _ hk => hb.block k (Array.getElem?_eq_some_iff.1 hk).1, _, _, _, rfl, h _ _ _ ho hb⟩
theorem app_words {t ty : Nat} (el : El Tryz.prog t 106 1 4) {B0 B : Nat} (hBB : B0 ≤ B) {tys : List Nat} {w : World} {A A1 : Option Addr} {n c n1 c1 : Nat} {ws vs : List Nat} (ho : OwnU w B A n c ws) (hv : SlU w A1 vs) (hvl : vs.length = n1) (hB : B ≤ w.heap.size) (hn : n ≤ 1000000) (hn1 : n1 ≤ 1000000) (ht : 106 ∉ tys) (h0 : n1 ≠ 0)
    {K : Option Addr → Nat → Nat → World → Prop} (h : ∀ A' c' w', OwnU w' B A' (n + n1) c' (ws ++ vs) → Below B w w' → K A' (n + n1) c' w') :
    RunOk Tryz.prog (Builtin.append_ #[t, t] ty #[.slice A n c, .slice A1 n1 c1]) B0 tys w fun r w2 => ∃ A n c, r = .slice A n c ∧ K A n c w2 := by
  rcases hv with hv | ⟨b, off, all, fr, rfl, hb, hc⟩
  · subst hv; simp at hvl; omega
  · refine runOk_append el hBB ho (a := ⟨b, off, none⟩) (m := n1) (c := c1) (news := u32s vs) (by simp [u32s, hvl]) (fun j u hj => ?_) (fun u hu => ?_) hB (by omega) ht fun A' c' w' k1 k2 k3 => h A' c' w' ?_ (below_grown k2 (fun k hk => (ho.blk k hk).1) hB)
    · have hj' : j < vs.length := by
        have := (List.getElem?_eq_some_iff.1 hj).1
        simpa [u32s] using this
      have e : u = .int .u32 (vs[j] : Nat) := by
        have : (u32s vs)[j]? = some (.int .u32 (vs[j] : Nat)) := by simp [u32s, hj']
        rw [this] at hj
        exact (Option.some.inj hj).symm
      subst e
      have add1 : (⟨b, off, none⟩ : Addr).add j = ⟨b, off + j, none⟩ := by
        unfold Addr.add
        split
        · rename_i h; subst h; rfl
        · rfl
      rw [add1]
      simp only [World.cell?, hb]
      exact hc j hj'
    · simp only [u32s, List.mem_map] at hu
      obtain ⟨x, _, rfl⟩ := hu
      rfl
    · unfold OwnU
      rw [u32s_append]
      exact k1
end Go.Proofs.YtdoailkigecmkaaGreatDoor.B

namespace Go.Proofs.YtdoailkigecmkaaGreatDoor.B
open Go Go.RowKit Go.Proofs Go.Proofs.YtdoailkigecmkaaGreatDoor.Vc

theorem IsN.len_le {w : World} {A : Option Addr} {n c z k : Nat} (h : IsN w A n c z) (hz : z < 1000000000 ^ k) : n ≤ k := by
  obtain ⟨ws, _, hl, _, _, _, hn, rfl⟩ := h
  by_cases h0 : ws = []
  · subst h0; simp at hl; omega
  · have h1 := wv_pos hn h0
    have := (Nat.pow_lt_pow_iff_right (a := 1000000000) (by omega)).1 (Nat.lt_of_le_of_lt h1 hz)
    omega
theorem IsN.len_gt {w : World} {A : Option Addr} {n c z k : Nat} (h : IsN w A n c z) (hz : 1000000000 ^ k ≤ z) : k < n := by
  obtain ⟨ws, _, hl, _, _, hs, _, rfl⟩ := h
  have h1 := wv_lt hs
  have := (Nat.pow_lt_pow_iff_right (a := 1000000000) (by omega)).1 (Nat.lt_of_le_of_lt hz h1)
  omega
theorem OwnU.some {w : World} {B : Nat} {A : Option Addr} {n c : Nat} {ws : List Nat} (h : OwnU w B A n c ws) (h0 : n ≠ 0) : A ≠ none := by
  rintro rfl
  rcases h.2 with ⟨e, _⟩ | ⟨g, cap, cur, e, _⟩
  · cases e; exact h0 rfl
  · cases e
theorem wv_zeros : ∀ n : Nat, wv (List.replicate n 0) = 0 := by
  intro n
  induction n with
  | zero => rfl
  | succ n ih => rw [List.replicate_succ, wv, ih]

set_option maxHeartbeats 1000000 in
theorem ref_Over {w : World} {A0 A1 : Option Addr} {n0 c0 n1 c1 x y : Nat} (ha : IsN w A0 n0 c0 x) (hb : IsN w A1 n1 c1 y) (hx : x < Lim) (hy : y < Lim) (hy0 : y ≠ 0) :
    Pure Tryz.prog 108 #[.slice A0 n0 c0, .slice A1 n1 c1] w fun v w' => ∃ A n c A' n' c', v = .tuple #[.slice A n c, .slice A' n' c'] ∧ IsN w' A n c (x / y) ∧ IsN w' A' n' c' (x % y) := by
  refine F.garboardref01_Over.vc _ _ _ _ _ _ _ _ (Pure.mono (ref_Cmp ha hb hx hy) ?_)
  rintro v w3 hb3 rfl
  refine ⟨_, rfl, fun h => ?_, fun h => ?_⟩
  · have hlt : x < y := by
      simp only [cmpI] at h
      split at h
      · omega
      · split at h <;> omega
    rw [Nat.div_eq_of_lt hlt, Nat.mod_eq_of_lt hlt]
    exact ⟨_, _, _, _, _, _, rfl, IsN.nil _, ha.below hb3⟩
  have hyx : y ≤ x := by
    simp only [cmpI] at h
    split at h <;> omega
  have l0 := ha.len hx
  have l1 := hb.len hy
  have haN := ha.below hb3
  have hbN := hb.below hb3
  obtain ⟨a, a1, a2, a3, a4, a5, a6, ax⟩ := haN
  obtain ⟨b, b1, b2, b3, b4, b5, b6, bx⟩ := hbN
  have haN := ha.below hb3
  have hbN := hb.below hb3
  have hbn : b ≠ [] := fun k => by subst k; simp [wv] at bx; omega
  have hbl := List.length_pos_iff.2 hbn
  refine ⟨fun h1 => ?_, fun h1 => ⟨by simp only [inR]; omega, ?_⟩⟩
  · have g := b5.getD (Int.toNat 0)
    refine b1.load b2 (by omega) (by omega) ?_
    have e : b.getD (Int.toNat 0) 0 = y := by
      obtain ⟨z, rfl⟩ := List.length_eq_one_iff.1 (by omega : b.length = 1)
      simpa [wv] using bx
    rw [e] at g ⊢
    refine Pure.mono (ref_small haN (by omega) (by omega) (by omega)) ?_
    rintro v w9 hb9 ⟨A, n, c, rfl, k1⟩
    have hml := Nat.mod_lt x (show 0 < y by omega)
    refine ⟨_, _, _, _, rfl, Pure.mono (ref_Small (x := x % y) (by omega)) ?_⟩
    rintro v w12 hb12 ⟨A', n', c', rfl, k2⟩
    exact ⟨_, _, _, rfl, _, _, _, _, _, _, rfl, k1.below hb12, k2⟩
  have g := b5.getD (n1 - 1)
  have e1 : ((n1 : Int) - 1).toNat = n1 - 1 := by omega
  refine b1.load b2 (by omega) (by omega) ?_
  rw [e1]
  obtain ⟨mt, hmt⟩ : ∃ mt, mt = b.getD (n1 - 1) 0 := ⟨_, rfl⟩
  have hmt1 : 1 ≤ mt := by rw [hmt, ← b2]; exact norm_top b6 hbn
  rw [← hmt] at g ⊢
  obtain ⟨f, hf⟩ : ∃ f, f = 1000000000 / (mt + 1) := ⟨_, rfl⟩
  obtain ⟨hf0, hf1, hf2⟩ := factor_half hmt1 g hf
  have hfb : 2 * f ≤ 1000000000 := by
    have := Nat.mul_le_mul_right f (show 2 ≤ mt + 1 by omega)
    omega
  have ef : (1000000000 : Int) / ((mt : Int) + 1) = (f : Int) := by rw [hf]; simp
  rw [ef]
  refine ⟨by simp only [inR]; omega, by simp only [inR]; omega, ⟨by omega, by omega, by simp only [inR]; omega⟩, by simp only [inR]; omega, ?_⟩
  refine Pure.mono (ref_Small (x := f) (by omega)) ?_
  rintro v w17 hb17 ⟨Af, nf, cf, rfl, kf⟩
  have hw17 : Below w.heap.size w w17 := hb3.trans (hb17.mono hb3.size)
  have hfL : f < Lim := by
    unfold Lim
    exact Nat.lt_of_le_of_lt (show f ≤ 1000000000 ^ 1 by omega) (Nat.pow_lt_pow_right (by omega) (by have := klim; omega))
  refine ⟨_, _, _, rfl, Pure.mono (ref_Times (hbN.below hb17) kf hy hfL) ?_⟩
  rintro v w20 hb20 ⟨Av, nv, cv, rfl, kv, _⟩
  have hw20 : Below w.heap.size w w20 := hw17.trans (hb20.mono hw17.size)
  refine ⟨_, _, _, rfl, ?_⟩
  refine lit_ok el_N (xs := []) hw20.size (by simp) fun A21 c21 w23 o23 b23 => ?_
  have hw23 : Below w.heap.size w w23 := hw20.trans (b23.mono hw20.size)
  have s23 := b23.size
  refine Pure.mono (ref_Times ((haN.below hb17).below (hb20.trans (b23.mono hb20.size))) ((kf.below hb20).below b23) hx hfL) ?_
  rintro v w26 hb26 ⟨A24, m, c24, rfl, ku, _⟩
  have hw26 : Below w.heap.size w w26 := hw23.trans (hb26.mono hw23.size)
  refine ⟨_, _, _, rfl, ?_⟩
  have hxlt : x < 1000000000 ^ n0 := by have := wv_lt a5; rwa [ax, a2] at this
  have hxf : x ≤ x * f := Nat.le_mul_of_pos_right _ (by omega)
  have hxf2 : x * f < 1000000000 ^ (n0 + 1) := by
    have h2 : x * f ≤ x * 1000000000 := Nat.mul_le_mul_left _ (by omega)
    rw [Nat.pow_succ]
    omega
  have hn0 : n1 ≤ n0 := by
    have := wv_len_ge a5 b6 (by rw [ax, bx]; exact hyx)
    omega
  have hxge : 1000000000 ^ (n0 - 1) ≤ x := by
    have := wv_pos a6 (fun e => by subst e; simp at a2; omega)
    rwa [ax, a2] at this
  have hm1 : m ≤ n0 + 1 := ku.len_le hxf2
  have hm2 : n0 - 1 < m := ku.len_gt (Nat.le_trans hxge hxf)
  obtain ⟨us, u1, u2, u3, u4, u5, u6, ux⟩ := ku
  have s26 := hb26.size
  have o26 : OwnU w26 w20.heap.size A21 0 c21 [] := o23.other fun k hk => hb26.block k (o23.blk k hk).2
  refine app_words el_N hw20.size o26 u1 u2 (by omega) (by omega) (by omega) (by simp) (by omega) fun A27 c27 w29 o29 b29 => ?_
  have hw29 : Below w.heap.size w w29 := hw26.trans (b29.mono (by have := hw20.size; omega))
  have s29 := b29.size
  have b2029 : Below w20.heap.size w20 w29 := (b23.trans (hb26.mono s23)).trans b29
  refine lit_ok el_N (xs := [0, 0]) hw29.size (by simp) fun A30 c30 w32 o32 b32 => ?_
  have hw32 : Below w.heap.size w w32 := hw29.trans (b32.mono hw29.size)
  have s32 := b32.size
  have o29' : OwnU w32 w20.heap.size A27 (0 + m) c27 ([] ++ us) := o29.other fun k hk => b32.block k (o29.blk k hk).2
  refine app_words el_N hw20.size o29' o32.sl rfl (by omega) (by omega) (by simp) (by simp) (by simp) fun A33 c33 w35 o35 b35 => ?_
  have hw35 : Below w.heap.size w w35 := hw32.trans (b35.mono hw20.size)
  have s35 := b35.size
  have b2035 : Below w20.heap.size w20 w35 := (b2029.trans (b32.mono (by omega))).trans b35
  have su : Small ([] ++ us ++ [0, 0]) := by
    rw [List.nil_append]
    exact u5.append (Small.cons (by omega) (Small.cons (by omega) Small.nil))
  have wvu : wv ([] ++ us ++ [0, 0]) = x * f := by
    rw [List.nil_append, wv_append, ux]
    simp [wv]
  have hcap := o35.cap
  simp only [List.length_cons, List.length_nil] at hcap
  refine ⟨by simp only [inR]; omega, Pure.mono (ref_trim o35.sl o35.len o35.cap (by simp; omega) su) ?_⟩
  rintro v w38 hb38 ⟨hww, m36, rfl, k36, _⟩
  rw [hww]
  clear hb38 hww
  rw [wvu] at k36
  have hm36 : m36 ≤ n0 + 1 := k36.len_le hxf2
  refine ⟨_, _, _, rfl, ?_⟩
  have eif : (if (m36 : Int) > ((n0 : Int) + 1) then (m36 : Int) else ((n0 : Int) + 1)) = ((n0 + 1 : Nat) : Int) := by rw [if_neg (by omega)]; omega
  rw [eif, Int.toNat_natCast]
  have enq : ((n0 + 1 : Nat) : Int) - (n1 : Int) = ((n0 + 1 - n1 : Nat) : Int) := by omega
  rw [enq]
  refine ⟨⟨by omega, by omega⟩, by simp only [inR]; omega, ?_⟩
  refine runOk_make el_N El.zeroU32 rfl (by omega) (by omega) hw35.size fun Aq nq w41 hnq k1 g2 k2 => ⟨by simp only [inR]; omega, by simp only [inR]; omega, ?_⟩
  have hnq' : nq = n0 + 1 - n1 := by omega
  have hq := OwnU.replicate k1
  have hqb : ∀ a, Aq = some a → w35.heap.size ≤ a.block := fun a ha => (hq.blk_of a ha).1
  have hgb : Below w35.heap.size w35 w41 := below_grown g2 (by simp) (Nat.le_refl _)
  -- the divisor's words
  obtain ⟨P, hP⟩ : ∃ P, P = 1000000000 ^ (n1 - 1) := ⟨_, rfl⟩
  have hbs := wv_split b (n1 - 1) (by omega)
  have hbd : wv (b.drop (n1 - 1)) = mt := by
    rw [wv_drop, ← hmt, List.drop_eq_nil_of_le (by omega)]
    simp [wv]
  rw [hbd] at hbs
  have hbt := wv_lt (b5.take (n1 - 1))
  rw [List.length_take, Nat.min_eq_left (by omega)] at hbt
  rw [← hP] at hbs hbt
  have hyf : y ≤ y * f := Nat.le_mul_of_pos_right _ (by omega)
  have hyf2 : y * f < P * 1000000000 := by
    have k1 : y + 1 ≤ P * (mt + 1) := by rw [← bx, hbs, Nat.mul_add]; omega
    have k2 : (y + 1) * f ≤ P * (mt + 1) * f := Nat.mul_le_mul_right _ k1
    have k3 : P * ((mt + 1) * f) ≤ P * 1000000000 := Nat.mul_le_mul_left _ hf1
    rw [Nat.mul_assoc] at k2
    rw [Nat.add_mul] at k2
    omega
  have hPy : P * mt ≤ y := by rw [← bx, hbs]; omega
  have hyf3 : P * (mt * f) ≤ y * f := by
    have := Nat.mul_le_mul_right f hPy
    rwa [Nat.mul_assoc] at this
  have hP1 : P * 1 ≤ P * mt := Nat.mul_le_mul_left _ hmt1
  have hpow : P * 1000000000 = 1000000000 ^ n1 := by
    rw [hP, ← Nat.pow_succ, show (n1 - 1).succ = n1 by omega]
  have hnv : nv = n1 := by
    have h1 : nv ≤ n1 := kv.len_le (by rw [← hpow]; exact hyf2)
    have h2 : n1 - 1 < nv := kv.len_gt (by rw [← hP]; omega)
    omega
  subst hnv
  obtain ⟨vs, v1, v2, v3, v4, v5, v6, vx⟩ := kv
  have hhalf : 1000000000 ≤ 2 * vs.getD (nv - 1) 0 := by
    have h1 := wv_split vs (nv - 1) (by omega)
    have h2 := wv_lt (v5.take (nv - 1))
    rw [List.length_take, Nat.min_eq_left (by omega), ← hP] at h2
    have h3 : wv (vs.drop (nv - 1)) = vs.getD (nv - 1) 0 := by
      rw [wv_drop, List.drop_eq_nil_of_le (by omega)]
      simp [wv]
    rw [h3, ← hP, vx] at h1
    apply Decidable.byContradiction
    intro k
    have h4 : P * (vs.getD (nv - 1) 0 + 1) ≤ P * (mt * f) := Nat.mul_le_mul_left _ (by omega)
    rw [Nat.mul_add] at h4
    omega
  have hvne : vs ≠ [] := fun e => by subst e; simp at v2; omega
  have hvb := v1.block_lt hvne
  obtain ⟨hnf, hfS⟩ := kf.one (by omega) (by omega)
  have hfbk := hfS.block_lt (by simp)
  -- the dividend's words
  have hu35 : OwnU w35 w20.heap.size A33 (n0 + 1) c33 (([] ++ us ++ [0, 0]).take (n0 + 1)) := o35.take (by simp; omega) (.inl (o35.some (by simp)))
  obtain ⟨U, hU⟩ : ∃ U, U = ([] ++ us ++ [0, 0]).take (n0 + 1) := ⟨_, rfl⟩
  rw [← hU] at hu35
  have hsU : Small U := by rw [hU]; exact su.take _
  have wU : wv U = x * f := by
    rw [hU, List.nil_append, List.take_append, List.take_of_length_le (by omega), wv_append, ux, u2]
    have e : ([0, 0] : List Nat).take (n0 + 1 - m) = List.replicate (n0 + 1 - m) 0 := by
      rcases (by omega : n0 + 1 - m = 0 ∨ n0 + 1 - m = 1) with e | e <;> rw [e] <;> rfl
    rw [e, wv_zeros, Nat.mul_zero, Nat.add_zero]
  have lU := hu35.len
  have hub := hu35.blk_of
  have hu41 : OwnU w41 w20.heap.size A33 (n0 + 1) c33 U := hu35.other fun k hk => hgb.block k (hu35.blk k hk).2
  have hap : Apart A33 Aq := fun a b ha hb => by
    have h1 := hub a ha
    have h2 := hqb b hb
    omega
  have s20 := hb20.size
  have sw20 := hw20.size
  have v41 : SlU w41 Av vs := (v1.below b2035).below hgb
  have f41 : SlU w41 Af [f] := ((hfS.below hb20).below b2035).below hgb
  have hvu : ∀ a b, Av = some a → A33 = some b → a.block ≠ b.block := fun a b ha hb => by
    have h1 := hvb a ha
    have h2 := hub b hb
    omega
  rw [← hnq']
  have epow : 1000000000 ^ nq * P = 1000000000 ^ n0 := by
    rw [hP, ← Nat.pow_add, show nq + (nv - 1) = n0 by omega]
  refine over_L13 (w1 := w41) (B := w.heap.size) hap (by omega) (by have := hgb.size; have := hw35.size; omega) v41 v2 v5 (Sep.of hvu fun a b ha hb => by have h1 := hvb a ha; have h2 := hqb b hb; omega) hvu (by omega) (by omega) hhalf
    f41 hnf (Sep.of (fun a b ha hb => by have h1 := hfbk a ha; have h2 := hub b hb; omega) fun a b ha hb => by have h1 := hfbk a ha; have h2 := hqb b hb; omega) (by omega) (by omega) (U0 := x * f) (fun A n c A' n' c' w' q1 q2 => ?_)
    nq w41 U (List.replicate nq 0) (Nat.le_refl _) ⟨hu41.base sw20, hq.base hw35.size, hsU, Small.replicate _, fun _ _ _ _ => rfl, Below.refl _ _⟩ ?_ ?_
  · rw [vx, Nat.mul_div_mul_right _ _ (by omega)] at q1
    rw [vx, Nat.mul_mod_mul_right, Nat.mul_div_cancel _ (by omega)] at q2
    exact ⟨_, _, _, _, _, _, rfl, q1, q2⟩
  · have h1 := wv_split U nq (by omega)
    rw [wU] at h1
    have h2 : x * f < 1000000000 ^ n0 * f := (Nat.mul_lt_mul_right (by omega)).2 hxlt
    rw [← epow, Nat.mul_assoc] at h2
    have h3 : wv (U.drop nq) < P * f := by
      apply Decidable.byContradiction
      intro k
      have := Nat.mul_le_mul_left (1000000000 ^ nq) (show P * f ≤ wv (U.drop nq) by omega)
      omega
    rw [vx]
    have h4 : P * f ≤ y * f := Nat.mul_le_mul_right _ (by omega)
    omega
  · rw [List.drop_eq_nil_of_le (by simp)]
    simp [wv, wU]
end Go.Proofs.YtdoailkigecmkaaGreatDoor.B
