/- Part 9 of the proofs that: the statements about sensors hold -/
import Derived.Test.YtdoailkigecmkaaGreatDoorG8
import Derived.Test.YtdoailkigecmkaaGreatDoorProg
set_option linter.unusedVariables false
set_option linter.unusedSimpArgs false
namespace Go.Proofs.YtdoailkigecmkaaGreatDoor.B
open Go Go.RowKit Go.Proofs Go.Proofs.YtdoailkigecmkaaGreatDoor.Vc

theorem IsN.len_le {w : World} {A : Option Addr} {n c z k : Nat} (h : IsN w A n c z) (hz : z < 1000000000 ^ k) : n ≤ k := by
  obtain ⟨ws, _, hl, _, _, _, hn, rfl⟩ := h
  by_cases h0 : ws = []
  · subst h0; simp at hl; omega
  · have h1 := wv_pos hn h0
    have := (Nat.pow_lt_pow_iff_right (a := 1000000000) (by omega)).1 (Nat.lt_of_le_of_lt h1 hz)
    omega
theorem IsN.len_gt {w : World} {A : Option Addr} {n c z k : Nat} (h : IsN w A n c z) (hz : 1000000000 ^ k ≤ z) : k < n := by
  obtain ⟨ws, _, hl, _, _, hs, _, rfl⟩ := h
  have h1 := wv_lt hs
  have := (Nat.pow_lt_pow_iff_right (a := 1000000000) (by omega)).1 (Nat.lt_of_le_of_lt hz h1)
  omega
theorem OwnU.some {w : World} {B : Nat} {A : Option Addr} {n c : Nat} {ws : List Nat} (h : OwnU w B A n c ws) (h0 : n ≠ 0) : A ≠ none := by
  rintro rfl
  rcases h.2 with ⟨e, _⟩ | ⟨g, cap, cur, e, _⟩
  · cases e; exact h0 rfl
  · cases e
theorem wv_zeros : ∀ n : Nat, wv (List.replicate n 0) = 0 := by
  intro n
  induction n with
  | zero => rfl
  | succ n ih => rw [List.replicate_succ, wv, ih]

set_option maxHeartbeats 1000000 in
theorem ref_Over {w : World} {A0 A1 : Option Addr} {n0 c0 n1 c1 x y : Nat} (ha : IsN w A0 n0 c0 x) (hb : IsN w A1 n1 c1 y) (hx : x < Lim) (hy : y < Lim) (hy0 : y ≠ 0) :
    Pure Tryz.prog 108 #[.slice A0 n0 c0, .slice A1 n1 c1] w fun v w' => ∃ A n c A' n' c', v = .tuple #[.slice A n c, .slice A' n' c'] ∧ IsN w' A n c (x / y) ∧ IsN w' A' n' c' (x % y) := by
  refine F.garboardref01_Over.vc _ _ _ _ _ _ _ _ (Pure.mono (ref_Cmp ha hb hx hy) ?_)
  rintro v w3 hb3 rfl
  refine ⟨_, rfl, fun h => ?_, fun h => ?_⟩
  · have hlt : x < y := by
      simp only [cmpI] at h
      split at h
      · omega
      · split at h <;> omega
    rw [Nat.div_eq_of_lt hlt, Nat.mod_eq_of_lt hlt]
    exact ⟨_, _, _, _, _, _, rfl, IsN.nil _, ha.below hb3⟩
  have hyx : y ≤ x := by
    simp only [cmpI] at h
    split at h <;> omega
  have l0 := ha.len hx
  have l1 := hb.len hy
  have haN := ha.below hb3
  have hbN := hb.below hb3
  obtain ⟨a, a1, a2, a3, a4, a5, a6, ax⟩ := haN
  obtain ⟨b, b1, b2, b3, b4, b5, b6, bx⟩ := hbN
  have haN := ha.below hb3
  have hbN := hb.below hb3
  have hbn : b ≠ [] := fun k => by subst k; simp [wv] at bx; omega
  have hbl := List.length_pos_iff.2 hbn
  refine ⟨fun h1 => ?_, fun h1 => ⟨by simp only [inR]; omega, ?_⟩⟩
  · have g := b5.getD (Int.toNat 0)
    refine b1.load b2 (by omega) (by omega) ?_
    have e : b.getD (Int.toNat 0) 0 = y := by
      obtain ⟨z, rfl⟩ := List.length_eq_one_iff.1 (by omega : b.length = 1)
      simpa [wv] using bx
    rw [e] at g ⊢
    refine Pure.mono (ref_small haN (by omega) (by omega) (by omega)) ?_
    rintro v w9 hb9 ⟨A, n, c, rfl, k1⟩
    have hml := Nat.mod_lt x (show 0 < y by omega)
    refine ⟨_, _, _, _, rfl, Pure.mono (ref_Small (x := x % y) (by omega)) ?_⟩
    rintro v w12 hb12 ⟨A', n', c', rfl, k2⟩
    exact ⟨_, _, _, rfl, _, _, _, _, _, _, rfl, k1.below hb12, k2⟩
  have g := b5.getD (n1 - 1)
  have e1 : ((n1 : Int) - 1).toNat = n1 - 1 := by omega
  refine b1.load b2 (by omega) (by omega) ?_
  rw [e1]
  obtain ⟨mt, hmt⟩ : ∃ mt, mt = b.getD (n1 - 1) 0 := ⟨_, rfl⟩
  have hmt1 : 1 ≤ mt := by rw [hmt, ← b2]; exact norm_top b6 hbn
  rw [← hmt] at g ⊢
  obtain ⟨f, hf⟩ : ∃ f, f = 1000000000 / (mt + 1) := ⟨_, rfl⟩
  obtain ⟨hf0, hf1, hf2⟩ := factor_half hmt1 g hf
  have hfb : 2 * f ≤ 1000000000 := by
    have := Nat.mul_le_mul_right f (show 2 ≤ mt + 1 by omega)
    omega
  have ef : (1000000000 : Int) / ((mt : Int) + 1) = (f : Int) := by rw [hf]; simp
  rw [ef]
  refine ⟨by simp only [inR]; omega, by simp only [inR]; omega, ⟨by omega, by omega, by simp only [inR]; omega⟩, by simp only [inR]; omega, ?_⟩
  refine Pure.mono (ref_Small (x := f) (by omega)) ?_
  rintro v w17 hb17 ⟨Af, nf, cf, rfl, kf⟩
  have hw17 : Below w.heap.size w w17 := hb3.trans (hb17.mono hb3.size)
  have hfL : f < Lim := by
    unfold Lim
    exact Nat.lt_of_le_of_lt (show f ≤ 1000000000 ^ 1 by omega) (Nat.pow_lt_pow_right (by omega) (by have := klim; omega))
  refine ⟨_, _, _, rfl, Pure.mono (ref_Times (hbN.below hb17) kf hy hfL) ?_⟩
  rintro v w20 hb20 ⟨Av, nv, cv, rfl, kv, _⟩
  have hw20 : Below w.heap.size w w20 := hw17.trans (hb20.mono hw17.size)
  refine ⟨_, _, _, rfl, ?_⟩
  refine lit_ok el_N (xs := []) hw20.size (by simp) fun A21 c21 w23 o23 b23 => ?_
  have hw23 : Below w.heap.size w w23 := hw20.trans (b23.mono hw20.size)
  have s23 := b23.size
  refine Pure.mono (ref_Times ((haN.below hb17).below (hb20.trans (b23.mono hb20.size))) ((kf.below hb20).below b23) hx hfL) ?_
  rintro v w26 hb26 ⟨A24, m, c24, rfl, ku, _⟩
  have hw26 : Below w.heap.size w w26 := hw23.trans (hb26.mono hw23.size)
  refine ⟨_, _, _, rfl, ?_⟩
  have hxlt : x < 1000000000 ^ n0 := by have := wv_lt a5; rwa [ax, a2] at this
  have hxf : x ≤ x * f := Nat.le_mul_of_pos_right _ (by omega)
  have hxf2 : x * f < 1000000000 ^ (n0 + 1) := by
    have h2 : x * f ≤ x * 1000000000 := Nat.mul_le_mul_left _ (by omega)
    rw [Nat.pow_succ]
    omega
  have hn0 : n1 ≤ n0 := by
    have := wv_len_ge a5 b6 (by rw [ax, bx]; exact hyx)
    omega
  have hxge : 1000000000 ^ (n0 - 1) ≤ x := by
    have := wv_pos a6 (fun e => by subst e; simp at a2; omega)
    rwa [ax, a2] at this
  have hm1 : m ≤ n0 + 1 := ku.len_le hxf2
  have hm2 : n0 - 1 < m := ku.len_gt (Nat.le_trans hxge hxf)
  obtain ⟨us, u1, u2, u3, u4, u5, u6, ux⟩ := ku
  have s26 := hb26.size
  have o26 : OwnU w26 w20.heap.size A21 0 c21 [] := o23.other fun k hk => hb26.block k (o23.blk k hk).2
  refine app_words el_N hw20.size o26 u1 u2 (by omega) (by omega) (by omega) (by simp) (by omega) fun A27 c27 w29 o29 b29 => ?_
  have hw29 : Below w.heap.size w w29 := hw26.trans (b29.mono (by have := hw20.size; omega))
  have s29 := b29.size
  have b2029 : Below w20.heap.size w20 w29 := (b23.trans (hb26.mono s23)).trans b29
  refine lit_ok el_N (xs := [0, 0]) hw29.size (by simp) fun A30 c30 w32 o32 b32 => ?_
  have hw32 : Below w.heap.size w w32 := hw29.trans (b32.mono hw29.size)
  have s32 := b32.size
  have o29' : OwnU w32 w20.heap.size A27 (0 + m) c27 ([] ++ us) := o29.other fun k hk => b32.block k (o29.blk k hk).2
  refine app_words el_N hw20.size o29' o32.sl rfl (by omega) (by omega) (by simp) (by simp) (by simp) fun A33 c33 w35 o35 b35 => ?_
  have hw35 : Below w.heap.size w w35 := hw32.trans (b35.mono hw20.size)
  have s35 := b35.size
  have b2035 : Below w20.heap.size w20 w35 := (b2029.trans (b32.mono (by omega))).trans b35
  have su : Small ([] ++ us ++ [0, 0]) := by
    rw [List.nil_append]
    exact u5.append (Small.cons (by omega) (Small.cons (by omega) Small.nil))
  have wvu : wv ([] ++ us ++ [0, 0]) = x * f := by
    rw [List.nil_append, wv_append, ux]
    simp [wv]
  have hcap := o35.cap
  simp only [List.length_cons, List.length_nil] at hcap
  refine ⟨by simp only [inR]; omega, Pure.mono (ref_trim o35.sl o35.len o35.cap (by simp; omega) su) ?_⟩
  rintro v w38 hb38 ⟨hww, m36, rfl, k36, _⟩
  rw [hww]
  clear hb38 hww
  rw [wvu] at k36
  have hm36 : m36 ≤ n0 + 1 := k36.len_le hxf2
  refine ⟨_, _, _, rfl, ?_⟩
  have eif : (if (m36 : Int) > ((n0 : Int) + 1) then (m36 : Int) else ((n0 : Int) + 1)) = ((n0 + 1 : Nat) : Int) := by rw [if_neg (by omega)]; omega
  rw [eif, Int.toNat_natCast]
  have enq : ((n0 + 1 : Nat) : Int) - (n1 : Int) = ((n0 + 1 - n1 : Nat) : Int) := by omega
  rw [enq]
  refine ⟨⟨by omega, by omega⟩, by simp only [inR]; omega, ?_⟩
  refine runOk_make el_N El.zeroU32 rfl (by omega) (by omega) hw35.size fun Aq nq w41 hnq k1 g2 k2 => ⟨by simp only [inR]; omega, by simp only [inR]; omega, ?_⟩
  have hnq' : nq = n0 + 1 - n1 := by omega
  have hq := OwnU.replicate k1
  have hqb : ∀ a, Aq = some a → w35.heap.size ≤ a.block := fun a ha => (hq.blk_of a ha).1
  have hgb : Below w35.heap.size w35 w41 := below_grown g2 (by simp) (Nat.le_refl _)
  -- the divisor's words
  obtain ⟨P, hP⟩ : ∃ P, P = 1000000000 ^ (n1 - 1) := ⟨_, rfl⟩
  have hbs := wv_split b (n1 - 1) (by omega)
  have hbd : wv (b.drop (n1 - 1)) = mt := by
    rw [wv_drop, ← hmt, List.drop_eq_nil_of_le (by omega)]
    simp [wv]
  rw [hbd] at hbs
  have hbt := wv_lt (b5.take (n1 - 1))
  rw [List.length_take, Nat.min_eq_left (by omega)] at hbt
  rw [← hP] at hbs hbt
  have hyf : y ≤ y * f := Nat.le_mul_of_pos_right _ (by omega)
  have hyf2 : y * f < P * 1000000000 := by
    have k1 : y + 1 ≤ P * (mt + 1) := by rw [← bx, hbs, Nat.mul_add]; omega
    have k2 : (y + 1) * f ≤ P * (mt + 1) * f := Nat.mul_le_mul_right _ k1
    have k3 : P * ((mt + 1) * f) ≤ P * 1000000000 := Nat.mul_le_mul_left _ hf1
    rw [Nat.mul_assoc] at k2
    rw [Nat.add_mul] at k2
    omega
  have hPy : P * mt ≤ y := by rw [← bx, hbs]; omega
  have hyf3 : P * (mt * f) ≤ y * f := by
    have := Nat.mul_le_mul_right f hPy
    rwa [Nat.mul_assoc] at this
  have hP1 : P * 1 ≤ P * mt := Nat.mul_le_mul_left _ hmt1
  have hpow : P * 1000000000 = 1000000000 ^ n1 := by
    rw [hP, ← Nat.pow_succ, show (n1 - 1).succ = n1 by omega]
  have hnv : nv = n1 := by
    have h1 : nv ≤ n1 := kv.len_le (by rw [← hpow]; exact hyf2)
    have h2 : n1 - 1 < nv := kv.len_gt (by rw [← hP]; omega)
    omega
  subst hnv
  obtain ⟨vs, v1, v2, v3, v4, v5, v6, vx⟩ := kv
  have hhalf : 1000000000 ≤ 2 * vs.getD (nv - 1) 0 := by
    have h1 := wv_split vs (nv - 1) (by omega)
    have h2 := wv_lt (v5.take (nv - 1))
    rw [List.length_take, Nat.min_eq_left (by omega), ← hP] at h2
    have h3 : wv (vs.drop (nv - 1)) = vs.getD (nv - 1) 0 := by
      rw [wv_drop, List.drop_eq_nil_of_le (by omega)]
      simp [wv]
    rw [h3, ← hP, vx] at h1
    apply Decidable.byContradiction
    intro k
    have h4 : P * (vs.getD (nv - 1) 0 + 1) ≤ P * (mt * f) := Nat.mul_le_mul_left _ (by omega)
    rw [Nat.mul_add] at h4
    omega
  have hvne : vs ≠ [] := fun e => by subst e; simp at v2; omega
  have hvb := v1.block_lt hvne
  obtain ⟨hnf, hfS⟩ := kf.one (by omega) (by omega)
  have hfbk := hfS.block_lt (by simp)
  -- the dividend's words
  have hu35 : OwnU w35 w20.heap.size A33 (n0 + 1) c33 (([] ++ us ++ [0, 0]).take (n0 + 1)) := o35.take (by simp; omega) (.inl (o35.some (by simp)))
  obtain ⟨U, hU⟩ : ∃ U, U = ([] ++ us ++ [0, 0]).take (n0 + 1) := ⟨_, rfl⟩
  rw [← hU] at hu35
  have hsU : Small U := by rw [hU]; exact su.take _
  have wU : wv U = x * f := by
    rw [hU, List.nil_append, List.take_append, List.take_of_length_le (by omega), wv_append, ux, u2]
    have e : ([0, 0] : List Nat).take (n0 + 1 - m) = List.replicate (n0 + 1 - m) 0 := by
      rcases (by omega : n0 + 1 - m = 0 ∨ n0 + 1 - m = 1) with e | e <;> rw [e] <;> rfl
    rw [e, wv_zeros, Nat.mul_zero, Nat.add_zero]
  have lU := hu35.len
  have hub := hu35.blk_of
  have hu41 : OwnU w41 w20.heap.size A33 (n0 + 1) c33 U := hu35.other fun k hk => hgb.block k (hu35.blk k hk).2
  have hap : Apart A33 Aq := fun a b ha hb => by
    have h1 := hub a ha
    have h2 := hqb b hb
    omega
  have s20 := hb20.size
  have sw20 := hw20.size
  have v41 : SlU w41 Av vs := (v1.below b2035).below hgb
  have f41 : SlU w41 Af [f] := ((hfS.below hb20).below b2035).below hgb
  have hvu : ∀ a b, Av = some a → A33 = some b → a.block ≠ b.block := fun a b ha hb => by
    have h1 := hvb a ha
    have h2 := hub b hb
    omega
  rw [← hnq']
  have epow : 1000000000 ^ nq * P = 1000000000 ^ n0 := by
    rw [hP, ← Nat.pow_add, show nq + (nv - 1) = n0 by omega]
  refine over_L13 (w1 := w41) (B := w.heap.size) hap (by omega) (by have := hgb.size; have := hw35.size; omega) v41 v2 v5 (Sep.of hvu fun a b ha hb => by have h1 := hvb a ha; have h2 := hqb b hb; omega) hvu (by omega) (by omega) hhalf
    f41 hnf (Sep.of (fun a b ha hb => by have h1 := hfbk a ha; have h2 := hub b hb; omega) fun a b ha hb => by have h1 := hfbk a ha; have h2 := hqb b hb; omega) (by omega) (by omega) (U0 := x * f) (fun A n c A' n' c' w' q1 q2 => ?_)
    nq w41 U (List.replicate nq 0) (Nat.le_refl _) ⟨hu41.base sw20, hq.base hw35.size, hsU, Small.replicate _, fun _ _ _ _ => rfl, Below.refl _ _⟩ ?_ ?_
  · rw [vx, Nat.mul_div_mul_right _ _ (by omega)] at q1
    rw [vx, Nat.mul_mod_mul_right, Nat.mul_div_cancel _ (by omega)] at q2
    exact ⟨_, _, _, _, _, _, rfl, q1, q2⟩
  · have h1 := wv_split U nq (by omega)
    rw [wU] at h1
    have h2 : x * f < 1000000000 ^ n0 * f := (Nat.mul_lt_mul_right (by omega)).2 hxlt
    rw [← epow, Nat.mul_assoc] at h2
    have h3 : wv (U.drop nq) < P * f := by
      apply Decidable.byContradiction
      intro k
      have := Nat.mul_le_mul_left (1000000000 ^ nq) (show P * f ≤ wv (U.drop nq) by omega)
      omega
    rw [vx]
    have h4 : P * f ≤ y * f := Nat.mul_le_mul_right _ (by omega)
    omega
  · rw [List.drop_eq_nil_of_le (by simp)]
    simp [wv, wU]
end Go.Proofs.YtdoailkigecmkaaGreatDoor.B

set_option maxRecDepth 100000
namespace Go.Proofs.YtdoailkigecmkaaGreatDoor.F
open Go Go.RowKit Go.Proofs Go.Proofs.YtdoailkigecmkaaGreatDoor.Vc
noncomputable def garboardref02_Valid.cx (w : World) (B : Nat) (R : Value → World → Prop) : Cx := ⟨Tryz.prog, 74, 20, Tryz.f74.results.toList, [], [], w, B, R⟩
theorem garboardref02_Valid.vc (sp0 : ByteArray) (w : World) (R : Value → World → Prop)
    (h : (((((ByteArray.size sp0 : Int) : Int) > (1 : Int)) → ((0 ≤ (0 : Int) ∧ (0 : Int) < (ByteArray.size sp0 : Int)) ∧ (((((bt sp0 (0 : Int)) : Int) = (45 : Int)) → (((sp0 ≠ (⟨#[45, 48]⟩ : ByteArray)) → ((0 ≤ (1 : Int) ∧ (1 : Int) ≤ (ByteArray.size sp0 : Int)) ∧ (Pure Tryz.prog 75 #[(.string (ByteArray.extract sp0 ((1 : Int)).toNat (ByteArray.size sp0)))] w fun r2 w3 => ∃ (b1 : Bool), r2 = (.bool b1) ∧ (R (.bool b1) w3)))) ∧ (¬ (sp0 ≠ (⟨#[45, 48]⟩ : ByteArray)) → (R (.bool false) w)))) ∧ (¬ (((bt sp0 (0 : Int)) : Int) = (45 : Int)) → (Pure Tryz.prog 75 #[(.string sp0)] w fun r5 w6 => ∃ (b4 : Bool), r5 = (.bool b4) ∧ (R (.bool b4) w6)))))) ∧ (¬ (((ByteArray.size sp0 : Int) : Int) > (1 : Int)) → (Pure Tryz.prog 75 #[(.string sp0)] w fun r8 w9 => ∃ (b7 : Bool), r8 = (.bool b7) ∧ (R (.bool b7) w9))))) :
    Pure Tryz.prog 74 #[(.string sp0)] w R :=
  pure_of_run (garboardref02_Valid.cx w w.heap.size R) 100000 follows Tryz.func74 rfl rfl rfl rfl rfl rfl rfl (Eq.mp (by kernel_rfl) h)

noncomputable def garboardref02_Read.cx (w : World) (B : Nat) (R : Value → World → Prop) : Cx := ⟨Tryz.prog, 76, 13, Tryz.f76.results.toList, [], [], w, B, R⟩
theorem garboardref02_Read.vc (sp0 : ByteArray) (w : World) (R : Value → World → Prop)
    (h : ((0 ≤ (0 : Int) ∧ (0 : Int) < (ByteArray.size sp0 : Int)) ∧ (((((bt sp0 (0 : Int)) : Int) = (45 : Int)) → ((0 ≤ (1 : Int) ∧ (1 : Int) ≤ (ByteArray.size sp0 : Int)) ∧ (∀ w1, Ext w.heap.size [] w w1 → (Pure Tryz.prog 77 #[(.string (ByteArray.extract sp0 ((1 : Int)).toNat (ByteArray.size sp0)))] w1 fun r3 w4 => ∃ (A2 : Option Addr) (n2 c2 : Nat), r3 = (.slice A2 n2 c2) ∧ (∀ w5, Ext w.heap.size [60] w4 w5 → (R (.agg #[(.bool true), (.slice A2 n2 c2)]) w5)))))) ∧ (¬ (((bt sp0 (0 : Int)) : Int) = (45 : Int)) → (∀ w6, Ext w.heap.size [] w w6 → (Pure Tryz.prog 77 #[(.string sp0)] w6 fun r8 w9 => ∃ (A7 : Option Addr) (n7 c7 : Nat), r8 = (.slice A7 n7 c7) ∧ (∀ w10, Ext w.heap.size [60] w9 w10 → (R (.agg #[(.bool false), (.slice A7 n7 c7)]) w10)))))))) :
    Pure Tryz.prog 76 #[(.string sp0)] w R :=
  pure_of_run (garboardref02_Read.cx w w.heap.size R) 100000 follows Tryz.func76 rfl rfl rfl rfl rfl rfl rfl (Eq.mp (by kernel_rfl) h)

noncomputable def garboardref02_Signum.cx (w : World) (B : Nat) (R : Value → World → Prop) : Cx := ⟨Tryz.prog, 80, 9, Tryz.f80.results.toList, [], [], w, B, R⟩
theorem garboardref02_Signum.vc (bp0_0 : Bool) (Ap0_1 : Option Addr) (np0_1 cp0_1 : Nat) (w : World) (R : Value → World → Prop)
    (h : ((bp0_0 = true → (∀ w1, Ext w.heap.size [] w w1 → (R (.int .i64 (-1 : Int)) w1))) ∧ (bp0_0 = false → (((((np0_1 : Int) : Int) > (0 : Int)) → (∀ w2, Ext w.heap.size [] w w2 → (R (.int .i64 (1 : Int)) w2))) ∧ (¬ (((np0_1 : Int) : Int) > (0 : Int)) → (∀ w3, Ext w.heap.size [] w w3 → (R (.int .i64 (0 : Int)) w3))))))) :
    Pure Tryz.prog 80 #[(.agg #[(.bool bp0_0), (.slice Ap0_1 np0_1 cp0_1)])] w R :=
  pure_of_run (garboardref02_Signum.cx w w.heap.size R) 100000 follows Tryz.func80 rfl rfl rfl rfl rfl rfl rfl (Eq.mp (by kernel_rfl) h)

noncomputable def garboardref02_Times.cx (w : World) (B : Nat) (R : Value → World → Prop) : Cx := ⟨Tryz.prog, 83, 16, Tryz.f83.results.toList, [], [], w, B, R⟩
theorem garboardref02_Times.vc (bp0_0 : Bool) (Ap0_1 : Option Addr) (np0_1 cp0_1 : Nat) (bp1_0 : Bool) (Ap1_1 : Option Addr) (np1_1 cp1_1 : Nat) (w : World) (R : Value → World → Prop)
    (h : (∀ w1, Ext w.heap.size [] w w1 → (Pure Tryz.prog 84 #[(.slice Ap0_1 np0_1 cp0_1), (.slice Ap1_1 np1_1 cp1_1)] w1 fun r3 w4 => ∃ (A2 : Option Addr) (n2 c2 : Nat), r3 = (.slice A2 n2 c2) ∧ (Pure Tryz.prog 109 #[(.bool (decide (¬ ((bp0_0 : Bool) = bp1_0)))), (.slice A2 n2 c2)] w4 fun r7 w8 => ∃ (b5 : Bool) (A6 : Option Addr) (n6 c6 : Nat), r7 = (.agg #[(.bool b5), (.slice A6 n6 c6)]) ∧ (∀ w9, Ext w.heap.size [60] w8 w9 → (R (.agg #[(.bool b5), (.slice A6 n6 c6)]) w9)))))) :
    Pure Tryz.prog 83 #[(.agg #[(.bool bp0_0), (.slice Ap0_1 np0_1 cp0_1)]), (.agg #[(.bool bp1_0), (.slice Ap1_1 np1_1 cp1_1)])] w R :=
  pure_of_run (garboardref02_Times.cx w w.heap.size R) 100000 follows Tryz.func83 rfl rfl rfl rfl rfl rfl rfl (Eq.mp (by kernel_rfl) h)

noncomputable def garboardref02_Small.cx (w : World) (B : Nat) (R : Value → World → Prop) : Cx := ⟨Tryz.prog, 85, 14, Tryz.f85.results.toList, [], [], w, B, R⟩
theorem garboardref02_Small.vc (ip0 : Int) (w : World) (R : Value → World → Prop)
    (h : ((((ip0 : Int) < (0 : Int)) → (inR .i64 (-ip0) ∧ (inR .u32 ((-ip0)) ∧ (∀ w1, Ext w.heap.size [] w w1 → (Pure Tryz.prog 78 #[(.int .u32 ((-ip0)))] w1 fun r3 w4 => ∃ (A2 : Option Addr) (n2 c2 : Nat), r3 = (.slice A2 n2 c2) ∧ (Pure Tryz.prog 109 #[(.bool true), (.slice A2 n2 c2)] w4 fun r7 w8 => ∃ (b5 : Bool) (A6 : Option Addr) (n6 c6 : Nat), r7 = (.agg #[(.bool b5), (.slice A6 n6 c6)]) ∧ (∀ w9, Ext w.heap.size [60] w8 w9 → (R (.agg #[(.bool b5), (.slice A6 n6 c6)]) w9)))))))) ∧ (¬ ((ip0 : Int) < (0 : Int)) → (inR .u32 (ip0) ∧ (∀ w10, Ext w.heap.size [] w w10 → (Pure Tryz.prog 78 #[(.int .u32 (ip0))] w10 fun r12 w13 => ∃ (A11 : Option Addr) (n11 c11 : Nat), r12 = (.slice A11 n11 c11) ∧ (Pure Tryz.prog 109 #[(.bool false), (.slice A11 n11 c11)] w13 fun r16 w17 => ∃ (b14 : Bool) (A15 : Option Addr) (n15 c15 : Nat), r16 = (.agg #[(.bool b14), (.slice A15 n15 c15)]) ∧ (∀ w18, Ext w.heap.size [60] w17 w18 → (R (.agg #[(.bool b14), (.slice A15 n15 c15)]) w18))))))))) :
    Pure Tryz.prog 85 #[(.int .i64 ip0)] w R :=
  pure_of_run (garboardref02_Small.cx w w.heap.size R) 100000 follows Tryz.func85 rfl rfl rfl rfl rfl rfl rfl (Eq.mp (by kernel_rfl) h)

noncomputable def garboardref02_Opposite.cx (w : World) (B : Nat) (R : Value → World → Prop) : Cx := ⟨Tryz.prog, 88, 9, Tryz.f88.results.toList, [], [], w, B, R⟩
theorem garboardref02_Opposite.vc (bp0_0 : Bool) (Ap0_1 : Option Addr) (np0_1 cp0_1 : Nat) (w : World) (R : Value → World → Prop)
    (h : (∀ w1, Ext w.heap.size [] w w1 → (Pure Tryz.prog 109 #[(.bool (decide (bp0_0 = false))), (.slice Ap0_1 np0_1 cp0_1)] w1 fun r4 w5 => ∃ (b2 : Bool) (A3 : Option Addr) (n3 c3 : Nat), r4 = (.agg #[(.bool b2), (.slice A3 n3 c3)]) ∧ (∀ w6, Ext w.heap.size [60] w5 w6 → (R (.agg #[(.bool b2), (.slice A3 n3 c3)]) w6))))) :
    Pure Tryz.prog 88 #[(.agg #[(.bool bp0_0), (.slice Ap0_1 np0_1 cp0_1)])] w R :=
  pure_of_run (garboardref02_Opposite.cx w w.heap.size R) 100000 follows Tryz.func88 rfl rfl rfl rfl rfl rfl rfl (Eq.mp (by kernel_rfl) h)

noncomputable def garboardref02_Make.cx (w : World) (B : Nat) (R : Value → World → Prop) : Cx := ⟨Tryz.prog, 109, 13, Tryz.f109.results.toList, [], [], w, B, R⟩
theorem garboardref02_Make.vc (bp0 : Bool) (Ap1 : Option Addr) (np1 cp1 : Nat) (w : World) (R : Value → World → Prop)
    (h : ((bp0 = true → (∀ w1, Ext w.heap.size [] w w1 → (R (.agg #[(.bool (decide (((np1 : Int) : Int) > (0 : Int)))), (.slice Ap1 np1 cp1)]) w1))) ∧ (bp0 = false → (∀ w2, Ext w.heap.size [] w w2 → (R (.agg #[(.bool false), (.slice Ap1 np1 cp1)]) w2))))) :
    Pure Tryz.prog 109 #[(.bool bp0), (.slice Ap1 np1 cp1)] w R :=
  pure_of_run (garboardref02_Make.cx w w.heap.size R) 100000 follows Tryz.func109 rfl rfl rfl rfl rfl rfl rfl (Eq.mp (by kernel_rfl) h)

noncomputable def garboardref02_Plus.cx (w : World) (B : Nat) (R : Value → World → Prop) : Cx := ⟨Tryz.prog, 110, 40, Tryz.f110.results.toList, [], [], w, B, R⟩
theorem garboardref02_Plus.vc (bp0_0 : Bool) (Ap0_1 : Option Addr) (np0_1 cp0_1 : Nat) (bp1_0 : Bool) (Ap1_1 : Option Addr) (np1_1 cp1_1 : Nat) (w : World) (R : Value → World → Prop)
    (h : ((((bp0_0 : Bool) = bp1_0) → (∀ w1, Ext w.heap.size [] w w1 → (Pure Tryz.prog 126 #[(.slice Ap0_1 np0_1 cp0_1), (.slice Ap1_1 np1_1 cp1_1)] w1 fun r3 w4 => ∃ (A2 : Option Addr) (n2 c2 : Nat), r3 = (.slice A2 n2 c2) ∧ (Pure Tryz.prog 109 #[(.bool bp0_0), (.slice A2 n2 c2)] w4 fun r7 w8 => ∃ (b5 : Bool) (A6 : Option Addr) (n6 c6 : Nat), r7 = (.agg #[(.bool b5), (.slice A6 n6 c6)]) ∧ (∀ w9, Ext w.heap.size [60] w8 w9 → (R (.agg #[(.bool b5), (.slice A6 n6 c6)]) w9)))))) ∧ (¬ ((bp0_0 : Bool) = bp1_0) → (∀ w10, Ext w.heap.size [] w w10 → (Pure Tryz.prog 79 #[(.slice Ap0_1 np0_1 cp0_1), (.slice Ap1_1 np1_1 cp1_1)] w10 fun r12 w13 => ∃ (i11 : Int), r12 = (.int .i64 i11) ∧ ((((i11 : Int) ≥ (0 : Int)) → (∀ w14, Ext w.heap.size [] w13 w14 → (Pure Tryz.prog 127 #[(.slice Ap0_1 np0_1 cp0_1), (.slice Ap1_1 np1_1 cp1_1)] w14 fun r16 w17 => ∃ (A15 : Option Addr) (n15 c15 : Nat), r16 = (.slice A15 n15 c15) ∧ (Pure Tryz.prog 109 #[(.bool bp0_0), (.slice A15 n15 c15)] w17 fun r20 w21 => ∃ (b18 : Bool) (A19 : Option Addr) (n19 c19 : Nat), r20 = (.agg #[(.bool b18), (.slice A19 n19 c19)]) ∧ (∀ w22, Ext w.heap.size [60] w21 w22 → (R (.agg #[(.bool b18), (.slice A19 n19 c19)]) w22)))))) ∧ (¬ ((i11 : Int) ≥ (0 : Int)) → (∀ w23, Ext w.heap.size [] w13 w23 → (Pure Tryz.prog 127 #[(.slice Ap1_1 np1_1 cp1_1), (.slice Ap0_1 np0_1 cp0_1)] w23 fun r25 w26 => ∃ (A24 : Option Addr) (n24 c24 : Nat), r25 = (.slice A24 n24 c24) ∧ (Pure Tryz.prog 109 #[(.bool bp1_0), (.slice A24 n24 c24)] w26 fun r29 w30 => ∃ (b27 : Bool) (A28 : Option Addr) (n28 c28 : Nat), r29 = (.agg #[(.bool b27), (.slice A28 n28 c28)]) ∧ (∀ w31, Ext w.heap.size [60] w30 w31 → (R (.agg #[(.bool b27), (.slice A28 n28 c28)]) w31)))))))))))) :
    Pure Tryz.prog 110 #[(.agg #[(.bool bp0_0), (.slice Ap0_1 np0_1 cp0_1)]), (.agg #[(.bool bp1_0), (.slice Ap1_1 np1_1 cp1_1)])] w R :=
  pure_of_run (garboardref02_Plus.cx w w.heap.size R) 100000 follows Tryz.func110 rfl rfl rfl rfl rfl rfl rfl (Eq.mp (by kernel_rfl) h)

noncomputable def garboardref02_Cmp.cx (w : World) (B : Nat) (R : Value → World → Prop) : Cx := ⟨Tryz.prog, 111, 9, Tryz.f111.results.toList, [], [], w, B, R⟩
theorem garboardref02_Cmp.vc (bp0_0 : Bool) (Ap0_1 : Option Addr) (np0_1 cp0_1 : Nat) (bp1_0 : Bool) (Ap1_1 : Option Addr) (np1_1 cp1_1 : Nat) (w : World) (R : Value → World → Prop)
    (h : (∀ w1, Ext w.heap.size [] w w1 → (Pure Tryz.prog 128 #[(.agg #[(.bool bp0_0), (.slice Ap0_1 np0_1 cp0_1)]), (.agg #[(.bool bp1_0), (.slice Ap1_1 np1_1 cp1_1)])] w1 fun r4 w5 => ∃ (b2 : Bool) (A3 : Option Addr) (n3 c3 : Nat), r4 = (.agg #[(.bool b2), (.slice A3 n3 c3)]) ∧ (Pure Tryz.prog 80 #[(.agg #[(.bool b2), (.slice A3 n3 c3)])] w5 fun r7 w8 => ∃ (i6 : Int), r7 = (.int .i64 i6) ∧ (R (.int .i64 i6) w8))))) :
    Pure Tryz.prog 111 #[(.agg #[(.bool bp0_0), (.slice Ap0_1 np0_1 cp0_1)]), (.agg #[(.bool bp1_0), (.slice Ap1_1 np1_1 cp1_1)])] w R :=
  pure_of_run (garboardref02_Cmp.cx w w.heap.size R) 100000 follows Tryz.func111 rfl rfl rfl rfl rfl rfl rfl (Eq.mp (by kernel_rfl) h)

noncomputable def garboardref02_Minus.cx (w : World) (B : Nat) (R : Value → World → Prop) : Cx := ⟨Tryz.prog, 128, 9, Tryz.f128.results.toList, [], [], w, B, R⟩
theorem garboardref02_Minus.vc (bp0_0 : Bool) (Ap0_1 : Option Addr) (np0_1 cp0_1 : Nat) (bp1_0 : Bool) (Ap1_1 : Option Addr) (np1_1 cp1_1 : Nat) (w : World) (R : Value → World → Prop)
    (h : (∀ w1, Ext w.heap.size [] w w1 → (Pure Tryz.prog 88 #[(.agg #[(.bool bp1_0), (.slice Ap1_1 np1_1 cp1_1)])] w1 fun r4 w5 => ∃ (b2 : Bool) (A3 : Option Addr) (n3 c3 : Nat), r4 = (.agg #[(.bool b2), (.slice A3 n3 c3)]) ∧ (Pure Tryz.prog 110 #[(.agg #[(.bool bp0_0), (.slice Ap0_1 np0_1 cp0_1)]), (.agg #[(.bool b2), (.slice A3 n3 c3)])] w5 fun r8 w9 => ∃ (b6 : Bool) (A7 : Option Addr) (n7 c7 : Nat), r8 = (.agg #[(.bool b6), (.slice A7 n7 c7)]) ∧ (∀ w10, Ext w.heap.size [60] w9 w10 → (R (.agg #[(.bool b6), (.slice A7 n7 c7)]) w10)))))) :
    Pure Tryz.prog 128 #[(.agg #[(.bool bp0_0), (.slice Ap0_1 np0_1 cp0_1)]), (.agg #[(.bool bp1_0), (.slice Ap1_1 np1_1 cp1_1)])] w R :=
  pure_of_run (garboardref02_Minus.cx w w.heap.size R) 100000 follows Tryz.func128 rfl rfl rfl rfl rfl rfl rfl (Eq.mp (by kernel_rfl) h)

end Go.Proofs.YtdoailkigecmkaaGreatDoor.F

namespace Go.Proofs.YtdoailkigecmkaaGreatDoor.B
open Go Go.RowKit Go.Proofs Go.Proofs.YtdoailkigecmkaaGreatDoor.Vc

theorem IsN.lt2 {w : World} {A : Option Addr} {n c x : Nat} (h : IsN w A n c x) (hn : n ≤ 2) : x < 1000000000000000000 := by
  obtain ⟨ws, _, hl, _, _, hs, _, rfl⟩ := h
  have h1 := wv_lt hs
  have h2 : 1000000000 ^ ws.length ≤ 1000000000 ^ 2 := Nat.pow_le_pow_right (by omega) (by omega)
  omega
theorem common_L4 {B g : Nat} {R : Value → World → Prop} (hR : ∀ A n c w, IsN w A n c g → R (.slice A n c) w) :
    ∀ (y x : Nat) (w : World), x < 1000000000000000000 → y < 1000000000000000000 → Nat.gcd x y = g → F.garboardref01_Common.L4 x y B w R := by
  intro y
  induction y using Nat.strongRecOn with
  | _ y ih =>
    intro x w hx hy hg
    refine F.garboardref01_Common.L4.step _ _ _ _ _ ⟨fun h => ⟨⟨by omega, by omega⟩, fun w2 _ => ?_⟩, fun h => ?_⟩
    · have hy0 : 0 < y := by omega
      have hm := Nat.mod_lt x hy0
      have e : (x : Int) % (y : Int) = ((x % y : Nat) : Int) := by simp
      rw [e]
      refine ih (x % y) hm y w2 hy (by omega) ?_
      rw [← hg, Nat.gcd_comm x y, Nat.gcd_rec y x, Nat.gcd_comm]
    · have hy0 : y = 0 := by omega
      subst hy0
      rw [Nat.gcd_zero_right] at hg
      subst hg
      refine Pure.mono (ref_wide hx) ?_
      rintro v w3 _ ⟨A, n, c, rfl, k⟩
      exact ⟨_, _, _, rfl, hR _ _ _ _ k⟩
theorem common_L1 {B g : Nat} {R : Value → World → Prop} (hR : ∀ A n c w, IsN w A n c g → R (.slice A n c) w) :
    ∀ (y x : Nat) (w : World) (A0 A1 : Option Addr) (n0 c0 n1 c1 : Nat), IsN w A0 n0 c0 x → IsN w A1 n1 c1 y → x < Lim → y < Lim → Nat.gcd x y = g → F.garboardref01_Common.L1 A0 n0 c0 A1 n1 c1 B w R := by
  intro y
  induction y using Nat.strongRecOn with
  | _ y ih =>
    intro x w A0 A1 n0 c0 n1 c1 ha hb hx hy hg
    have hp := hb.pos_len
    have over : 0 < n1 → Pure Tryz.prog 108 #[.slice A0 n0 c0, .slice A1 n1 c1] w fun r9 w10 => ∃ (A7 : Option Addr) (n7 c7 : Nat) (A8 : Option Addr) (n8 c8 : Nat), r9 = (.tuple #[(.slice A7 n7 c7), (.slice A8 n8 c8)]) ∧ (F.garboardref01_Common.L1 A1 n1 c1 A8 n8 c8 B w10 R) := fun h => by
      have hy0 : y ≠ 0 := hp.1 h
      have hm := Nat.mod_lt x (show 0 < y by omega)
      refine Pure.mono (ref_Over ha hb hx hy hy0) ?_
      rintro v w2 b2 ⟨A, n, c, A', n', c', rfl, _, k⟩
      refine ⟨_, _, _, _, _, _, rfl, ih (x % y) hm y w2 _ _ _ _ _ _ (hb.below b2) k hy (by omega) ?_⟩
      rw [← hg, Nat.gcd_comm x y, Nat.gcd_rec y x, Nat.gcd_comm]
    refine F.garboardref01_Common.L1.step _ _ _ _ _ _ _ _ _ ⟨fun h => ⟨fun h0 => ⟨fun h1 => ?_, fun _ => over (by omega)⟩, fun _ => over (by omega)⟩, fun h => ?_⟩
    · refine Pure.mono (ref_word ha (by omega)) ?_
      rintro v w2 b2 rfl
      refine ⟨_, rfl, Pure.mono (ref_word (hb.below b2) (by omega)) ?_⟩
      rintro v w3 b3 rfl
      exact ⟨_, rfl, common_L4 hR y x w3 (ha.lt2 (by omega)) (hb.lt2 (by omega)) hg⟩
    · have hy0 : y = 0 := by
        apply Decidable.byContradiction
        intro k
        have := hp.2 k
        omega
      subst hy0
      rw [Nat.gcd_zero_right] at hg
      subst hg
      exact hR _ _ _ _ ha
theorem ref_Common {w : World} {A0 A1 : Option Addr} {n0 c0 n1 c1 x y : Nat} (ha : IsN w A0 n0 c0 x) (hb : IsN w A1 n1 c1 y) (hx : x < Lim) (hy : y < Lim) :
    Pure Tryz.prog 81 #[.slice A0 n0 c0, .slice A1 n1 c1] w fun v w' => ∃ A n c, v = .slice A n c ∧ IsN w' A n c (Nat.gcd x y) :=
  F.garboardref01_Common.vc _ _ _ _ _ _ _ _ (common_L1 (fun A n c w k => ⟨A, n, c, rfl, k⟩) y x w _ _ _ _ _ _ ha hb hx hy rfl)

def IsZ (w : World) (b : Bool) (A : Option Addr) (n c : Nat) (z : Int) : Prop := b = decide (z < 0) ∧ IsN w A n c z.natAbs
theorem IsZ.below {w w' : World} {b : Bool} {A : Option Addr} {n c : Nat} {z : Int} (h : IsZ w b A n c z) (hb : Below w.heap.size w w') : IsZ w' b A n c z := ⟨h.1, h.2.below hb⟩
theorem IsZ.ext {w w' : World} {B : Nat} {ts : List Nat} {b : Bool} {A : Option Addr} {n c : Nat} {z : Int} (h : IsZ w b A n c z) (e : Ext B ts w w') (ht : 106 ∉ ts) : IsZ w' b A n c z := ⟨h.1, h.2.ext e ht⟩
abbrev ZR (z : Int) (v : Value) (w : World) : Prop := ∃ b A n c, v = .agg #[.bool b, .slice A n c] ∧ IsZ w b A n c z

theorem ref2_Make {w : World} (b : Bool) {A : Option Addr} {n c x : Nat} (h : IsN w A n c x) : Pure Tryz.prog 109 #[.bool b, .slice A n c] w (ZR (if b then -(x : Int) else x)) := by
  have hp := h.pos_len
  refine F.garboardref02_Make.vc _ _ _ _ _ _ ⟨fun hb w2 x2 => ⟨_, _, _, _, rfl, ?_, ?_⟩, fun hb w2 x2 => ⟨_, _, _, _, rfl, ?_, ?_⟩⟩
  · rw [hb, if_pos rfl, decide_eq_decide]
    omega
  · rw [hb, if_pos rfl, Int.natAbs_neg, Int.natAbs_natCast]
    exact h.ext x2 (by decide)
  · rw [hb, if_neg (by decide)]
    symm
    exact decide_eq_false (by omega)
  · rw [hb, if_neg (by decide), Int.natAbs_natCast]
    exact h.ext x2 (by decide)
theorem ref2_Opposite {w : World} {b : Bool} {A : Option Addr} {n c : Nat} {z : Int} (h : IsZ w b A n c z) : Pure Tryz.prog 88 #[.agg #[.bool b, .slice A n c]] w (ZR (-z)) := by
  obtain ⟨rfl, k⟩ := h
  refine F.garboardref02_Opposite.vc _ _ _ _ _ _ fun w1 x1 => Pure.mono (ref2_Make _ (k.ext x1 (by decide))) ?_
  rintro v w2 b2 ⟨b, A, n, c, rfl, q⟩
  refine ⟨_, _, _, _, rfl, fun w3 x3 => ⟨_, _, _, _, rfl, ?_⟩⟩
  have e : (if decide (decide (z < 0) = false) = true then -(z.natAbs : Int) else (z.natAbs : Int)) = -z := by
    by_cases hz : z < 0
    · rw [if_neg (by simp [hz])]; omega
    · rw [if_pos (by simp [hz])]; omega
  rw [e] at q
  exact q.ext x3 (by decide)
def sgn (z : Int) : Int := if z < 0 then -1 else if 0 < z then 1 else 0
theorem ref2_Signum {w : World} {b : Bool} {A : Option Addr} {n c : Nat} {z : Int} (h : IsZ w b A n c z) : Pure Tryz.prog 80 #[.agg #[.bool b, .slice A n c]] w fun v _ => v = .int .i64 (sgn z) := by
  obtain ⟨rfl, k⟩ := h
  have hp := k.pos_len
  unfold sgn
  refine F.garboardref02_Signum.vc _ _ _ _ _ _ ⟨fun hb w2 _ => ?_, fun hb => ⟨fun h w2 _ => ?_, fun h w2 _ => ?_⟩⟩
  · rw [if_pos (of_decide_eq_true hb)]
  · have hz : ¬ z < 0 := of_decide_eq_false hb
    rw [if_neg hz, if_pos (by omega)]
  · have hz : ¬ z < 0 := of_decide_eq_false hb
    rw [if_neg hz, if_neg (by omega)]
theorem ref2_Plus {w : World} {b0 b1 : Bool} {A0 A1 : Option Addr} {n0 c0 n1 c1 : Nat} {x y : Int} (hx : IsZ w b0 A0 n0 c0 x) (hy : IsZ w b1 A1 n1 c1 y) (lx : x.natAbs < Lim) (ly : y.natAbs < Lim) :
    Pure Tryz.prog 110 #[.agg #[.bool b0, .slice A0 n0 c0], .agg #[.bool b1, .slice A1 n1 c1]] w (ZR (x + y)) := by
  obtain ⟨rfl, kx⟩ := hx
  obtain ⟨rfl, ky⟩ := hy
  have made : ∀ (b : Bool) (t : Nat) (w1 : World) (A : Option Addr) (n c : Nat), IsN w1 A n c t → (if b then -(t : Int) else (t : Int)) = x + y → Pure Tryz.prog 109 #[.bool b, .slice A n c] w1 fun r7 w8 => ∃ (b5 : Bool) (A6 : Option Addr) (n6 c6 : Nat), r7 = (.agg #[(.bool b5), (.slice A6 n6 c6)]) ∧ (∀ w9, Ext w.heap.size [60] w8 w9 → ZR (x + y) (.agg #[(.bool b5), (.slice A6 n6 c6)]) w9) := by
    intro b t w1 A n c k e
    refine Pure.mono (ref2_Make b k) ?_
    rintro v w2 b2 ⟨b', A', n', c', rfl, q⟩
    rw [e] at q
    exact ⟨_, _, _, _, rfl, fun w3 x3 => ⟨_, _, _, _, rfl, q.ext x3 (by decide)⟩⟩
  refine F.garboardref02_Plus.vc _ _ _ _ _ _ _ _ _ _ ⟨fun h w1 x1 => ?_, fun h w1 x1 => ?_⟩
  · refine Pure.mono (ref_Plus (kx.ext x1 (by decide)) (ky.ext x1 (by decide)) lx ly) ?_
    rintro v w2 b2 ⟨A, n, c, rfl, k⟩
    refine ⟨_, _, _, rfl, made _ _ _ _ _ _ k ?_⟩
    have h' : (x < 0 ↔ y < 0) := by simpa using h
    by_cases hz : x < 0
    · rw [if_pos (decide_eq_true hz)]; omega
    · rw [if_neg (by simp [hz])]; omega
  have h' : ¬ (x < 0 ↔ y < 0) := by simpa using h
  refine Pure.mono (ref_Cmp (kx.ext x1 (by decide)) (ky.ext x1 (by decide)) lx ly) ?_
  rintro v w2 b2 rfl
  have kx2 := (kx.ext x1 (by decide)).below b2
  have ky2 := (ky.ext x1 (by decide)).below b2
  refine ⟨_, rfl, fun hc w3 x3 => ?_, fun hc w3 x3 => ?_⟩
  · have hle : y.natAbs ≤ x.natAbs := by
      simp only [cmpI] at hc
      split at hc <;> omega
    refine Pure.mono (ref_Minus (kx2.ext x3 (by decide)) (ky2.ext x3 (by decide)) lx hle) ?_
    rintro v w4 b4 ⟨A, n, c, rfl, k⟩
    refine ⟨_, _, _, rfl, made _ _ _ _ _ _ k ?_⟩
    by_cases hz : x < 0
    · rw [if_pos (decide_eq_true hz)]; omega
    · rw [if_neg (by simp [hz])]; omega
  · have hle : x.natAbs ≤ y.natAbs := by
      simp only [cmpI] at hc
      split at hc
      · omega
      · split at hc <;> omega
    refine Pure.mono (ref_Minus (ky2.ext x3 (by decide)) (kx2.ext x3 (by decide)) ly hle) ?_
    rintro v w4 b4 ⟨A, n, c, rfl, k⟩
    refine ⟨_, _, _, rfl, made _ _ _ _ _ _ k ?_⟩
    by_cases hz : y < 0
    · rw [if_pos (decide_eq_true hz)]; omega
    · rw [if_neg (by simp [hz])]; omega
theorem ref2_Minus {w : World} {b0 b1 : Bool} {A0 A1 : Option Addr} {n0 c0 n1 c1 : Nat} {x y : Int} (hx : IsZ w b0 A0 n0 c0 x) (hy : IsZ w b1 A1 n1 c1 y) (lx : x.natAbs < Lim) (ly : y.natAbs < Lim) :
    Pure Tryz.prog 128 #[.agg #[.bool b0, .slice A0 n0 c0], .agg #[.bool b1, .slice A1 n1 c1]] w (ZR (x - y)) := by
  refine F.garboardref02_Minus.vc _ _ _ _ _ _ _ _ _ _ fun w1 x1 => Pure.mono (ref2_Opposite (hy.ext x1 (by decide))) ?_
  rintro v w2 b2 ⟨b, A, n, c, rfl, k⟩
  refine ⟨_, _, _, _, rfl, Pure.mono (ref2_Plus ((hx.ext x1 (by decide)).below b2) k lx (by rw [Int.natAbs_neg]; exact ly)) ?_⟩
  rintro v w3 b3 ⟨b, A, n, c, rfl, k⟩
  refine ⟨_, _, _, _, rfl, fun w4 x4 => ⟨_, _, _, _, rfl, ?_⟩⟩
  have e : x + -y = x - y := by omega
  rw [e] at k
  exact k.ext x4 (by decide)
theorem ref2_Times {w : World} {b0 b1 : Bool} {A0 A1 : Option Addr} {n0 c0 n1 c1 : Nat} {x y : Int} (hx : IsZ w b0 A0 n0 c0 x) (hy : IsZ w b1 A1 n1 c1 y) (lx : x.natAbs < Lim) (ly : y.natAbs < Lim) :
    Pure Tryz.prog 83 #[.agg #[.bool b0, .slice A0 n0 c0], .agg #[.bool b1, .slice A1 n1 c1]] w (ZR (x * y)) := by
  obtain ⟨rfl, kx⟩ := hx
  obtain ⟨rfl, ky⟩ := hy
  refine F.garboardref02_Times.vc _ _ _ _ _ _ _ _ _ _ fun w1 x1 => Pure.mono (ref_Times (kx.ext x1 (by decide)) (ky.ext x1 (by decide)) lx ly) ?_
  rintro v w2 b2 ⟨A, n, c, rfl, k, _⟩
  refine ⟨_, _, _, rfl, Pure.mono (ref2_Make _ k) ?_⟩
  rintro v w3 b3 ⟨b, A, n, c, rfl, k⟩
  refine ⟨_, _, _, _, rfl, fun w4 x4 => ⟨_, _, _, _, rfl, ?_⟩⟩
  have e : (if decide (¬ (decide (x < 0) = decide (y < 0))) = true then -((x.natAbs * y.natAbs : Nat) : Int) else ((x.natAbs * y.natAbs : Nat) : Int)) = x * y := by
    rw [← Int.natAbs_mul]
    by_cases h1 : x < 0 <;> by_cases h2 : y < 0
    · rw [if_neg (by simp [h1, h2])]
      have := Int.mul_nonneg (show 0 ≤ -x by omega) (show 0 ≤ -y by omega)
      rw [Int.neg_mul_neg] at this
      omega
    · rw [if_pos (by simp [h1, h2])]
      have : x * y ≤ 0 := Int.mul_nonpos_of_nonpos_of_nonneg (by omega) (by omega)
      omega
    · rw [if_pos (by simp [h1, h2])]
      have : x * y ≤ 0 := Int.mul_nonpos_of_nonneg_of_nonpos (by omega) (by omega)
      omega
    · rw [if_neg (by simp [h1, h2])]
      have : 0 ≤ x * y := Int.mul_nonneg (by omega) (by omega)
      omega
  rw [e] at k
  exact k.ext x4 (by decide)
theorem ref2_Cmp {w : World} {b0 b1 : Bool} {A0 A1 : Option Addr} {n0 c0 n1 c1 : Nat} {x y : Int} (hx : IsZ w b0 A0 n0 c0 x) (hy : IsZ w b1 A1 n1 c1 y) (lx : x.natAbs < Lim) (ly : y.natAbs < Lim) :
    Pure Tryz.prog 111 #[.agg #[.bool b0, .slice A0 n0 c0], .agg #[.bool b1, .slice A1 n1 c1]] w fun v _ => v = .int .i64 (sgn (x - y)) := by
  refine F.garboardref02_Cmp.vc _ _ _ _ _ _ _ _ _ _ fun w1 x1 => Pure.mono (ref2_Minus (hx.ext x1 (by decide)) (hy.ext x1 (by decide)) lx ly) ?_
  rintro v w2 b2 ⟨b, A, n, c, rfl, k⟩
  refine ⟨_, _, _, _, rfl, Pure.mono (ref2_Signum k) ?_⟩
  rintro v w3 _ rfl
  exact ⟨_, rfl, rfl⟩
theorem ref2_Small {w : World} {z : Int} (h : z.natAbs < 4294967296) : Pure Tryz.prog 85 #[.int .i64 z] w (ZR z) := by
  have fin : ∀ (b : Bool) (t : Nat) (w1 : World) (A : Option Addr) (n c : Nat), IsN w1 A n c t → (if b then -(t : Int) else (t : Int)) = z → Pure Tryz.prog 109 #[.bool b, .slice A n c] w1 fun r7 w8 => ∃ (b5 : Bool) (A6 : Option Addr) (n6 c6 : Nat), r7 = (.agg #[(.bool b5), (.slice A6 n6 c6)]) ∧ (∀ w9, Ext w.heap.size [60] w8 w9 → ZR z (.agg #[(.bool b5), (.slice A6 n6 c6)]) w9) := by
    intro b t w1 A n c k e
    refine Pure.mono (ref2_Make b k) ?_
    rintro v w2 b2 ⟨b', A', n', c', rfl, q⟩
    rw [e] at q
    exact ⟨_, _, _, _, rfl, fun w3 x3 => ⟨_, _, _, _, rfl, q.ext x3 (by decide)⟩⟩
  refine F.garboardref02_Small.vc _ _ _ ⟨fun h0 => ⟨by simp only [inR]; omega, by simp only [inR]; omega, fun w1 x1 => ?_⟩, fun h0 => ⟨by simp only [inR]; omega, fun w1 x1 => ?_⟩⟩
  · have e : -z = (z.natAbs : Int) := by omega
    rw [e]
    refine Pure.mono (ref_Small (x := z.natAbs) h) ?_
    rintro v w2 b2 ⟨A, n, c, rfl, k⟩
    exact ⟨_, _, _, rfl, fin true _ _ _ _ _ k (by rw [if_pos rfl]; omega)⟩
  · have e : z = (z.natAbs : Int) := by omega
    rw [e]
    refine Pure.mono (ref_Small (x := z.natAbs) h) ?_
    rintro v w2 b2 ⟨A, n, c, rfl, k⟩
    rw [← e]
    exact ⟨_, _, _, rfl, fin false _ _ _ _ _ k (by rw [if_neg (by decide)]; omega)⟩
end Go.Proofs.YtdoailkigecmkaaGreatDoor.B

set_option maxRecDepth 100000
namespace Go.Proofs.YtdoailkigecmkaaGreatDoor.F
open Go Go.RowKit Go.Proofs Go.Proofs.YtdoailkigecmkaaGreatDoor.Vc
noncomputable def garboardref03_From.cx (w : World) (B : Nat) (R : Value → World → Prop) : Cx := ⟨Tryz.prog, 34, 60, Tryz.f34.results.toList, [], [], w, B, R⟩
theorem garboardref03_From.vc (sp0 : ByteArray) (w : World) (R : Value → World → Prop)
    (h : (∀ w1, Ext w.heap.size [] w w1 → (Pure Tryz.prog 73 #[(.string sp0)] w1 fun r5 w6 => ∃ (s2 : ByteArray) (s3 : ByteArray) (b4 : Bool), r5 = (.tuple #[(.string s2), (.string s3), (.bool b4)]) ∧ (Pure Tryz.prog 74 #[(.string s2)] w6 fun r8 w9 => ∃ (b7 : Bool), r8 = (.bool b7) ∧ (((b7 = false) → (Pure Tryz.prog 36 #[(.int .i64 (0 : Int))] w9 fun r13 w14 => ∃ (b10 : Bool) (A11 : Option Addr) (n11 c11 : Nat) (A12 : Option Addr) (n12 c12 : Nat), r13 = (.agg #[(.bool b10), (.slice A11 n11 c11), (.slice A12 n12 c12)]) ∧ (∀ w15, Ext w.heap.size [62] w14 w15 → (R (.tuple #[(.agg #[(.bool b10), (.slice A11 n11 c11), (.slice A12 n12 c12)]), (.bool false)]) w15)))) ∧ (¬ (b7 = false) → (Pure Tryz.prog 75 #[(.string s3)] w9 fun r17 w18 => ∃ (b16 : Bool), r17 = (.bool b16) ∧ (((b16 = false) → (Pure Tryz.prog 36 #[(.int .i64 (0 : Int))] w18 fun r22 w23 => ∃ (b19 : Bool) (A20 : Option Addr) (n20 c20 : Nat) (A21 : Option Addr) (n21 c21 : Nat), r22 = (.agg #[(.bool b19), (.slice A20 n20 c20), (.slice A21 n21 c21)]) ∧ (∀ w24, Ext w.heap.size [62] w23 w24 → (R (.tuple #[(.agg #[(.bool b19), (.slice A20 n20 c20), (.slice A21 n21 c21)]), (.bool false)]) w24)))) ∧ (¬ (b16 = false) → (Pure Tryz.prog 76 #[(.string s2)] w18 fun r27 w28 => ∃ (b25 : Bool) (A26 : Option Addr) (n26 c26 : Nat), r27 = (.agg #[(.bool b25), (.slice A26 n26 c26)]) ∧ (Pure Tryz.prog 77 #[(.string s3)] w28 fun r30 w31 => ∃ (A29 : Option Addr) (n29 c29 : Nat), r30 = (.slice A29 n29 c29) ∧ (((b4 = false) → (∀ w32, Ext w.heap.size [62] w31 w32 → (R (.tuple #[(.agg #[(.bool b25), (.slice A26 n26 c26), (.slice A29 n29 c29)]), (.bool true)]) w32))) ∧ (¬ (b4 = false) → (∀ w33, Ext w.heap.size [] w31 w33 → (Pure Tryz.prog 78 #[(.int .u32 (1 : Int))] w33 fun r35 w36 => ∃ (A34 : Option Addr) (n34 c34 : Nat), r35 = (.slice A34 n34 c34) ∧ (Pure Tryz.prog 79 #[(.slice A29 n29 c29), (.slice A34 n34 c34)] w36 fun r38 w39 => ∃ (i37 : Int), r38 = (.int .i64 i37) ∧ ((((i37 : Int) > (0 : Int)) → (Pure Tryz.prog 80 #[(.agg #[(.bool b25), (.slice A26 n26 c26)])] w39 fun r41 w42 => ∃ (i40 : Int), r41 = (.int .i64 i40) ∧ ((((i40 : Int) ≠ (0 : Int)) → (Pure Tryz.prog 81 #[(.slice A26 n26 c26), (.slice A29 n29 c29)] w42 fun r44 w45 => ∃ (A43 : Option Addr) (n43 c43 : Nat), r44 = (.slice A43 n43 c43) ∧ (Pure Tryz.prog 79 #[(.slice A43 n43 c43), (.slice A34 n34 c34)] w45 fun r47 w48 => ∃ (i46 : Int), r47 = (.int .i64 i46) ∧ (((¬ ((i46 : Int) = (0 : Int))) → (Pure Tryz.prog 36 #[(.int .i64 (0 : Int))] w48 fun r52 w53 => ∃ (b49 : Bool) (A50 : Option Addr) (n50 c50 : Nat) (A51 : Option Addr) (n51 c51 : Nat), r52 = (.agg #[(.bool b49), (.slice A50 n50 c50), (.slice A51 n51 c51)]) ∧ (∀ w54, Ext w.heap.size [62] w53 w54 → (R (.tuple #[(.agg #[(.bool b49), (.slice A50 n50 c50), (.slice A51 n51 c51)]), (.bool false)]) w54)))) ∧ (¬ (¬ ((i46 : Int) = (0 : Int))) → (∀ w55, Ext w.heap.size [62] w48 w55 → (R (.tuple #[(.agg #[(.bool b25), (.slice A26 n26 c26), (.slice A29 n29 c29)]), (.bool true)]) w55))))))) ∧ (¬ ((i40 : Int) ≠ (0 : Int)) → (Pure Tryz.prog 36 #[(.int .i64 (0 : Int))] w42 fun r59 w60 => ∃ (b56 : Bool) (A57 : Option Addr) (n57 c57 : Nat) (A58 : Option Addr) (n58 c58 : Nat), r59 = (.agg #[(.bool b56), (.slice A57 n57 c57), (.slice A58 n58 c58)]) ∧ (∀ w61, Ext w.heap.size [62] w60 w61 → (R (.tuple #[(.agg #[(.bool b56), (.slice A57 n57 c57), (.slice A58 n58 c58)]), (.bool false)]) w61))))))) ∧ (¬ ((i37 : Int) > (0 : Int)) → (Pure Tryz.prog 36 #[(.int .i64 (0 : Int))] w39 fun r65 w66 => ∃ (b62 : Bool) (A63 : Option Addr) (n63 c63 : Nat) (A64 : Option Addr) (n64 c64 : Nat), r65 = (.agg #[(.bool b62), (.slice A63 n63 c63), (.slice A64 n64 c64)]) ∧ (∀ w67, Ext w.heap.size [62] w66 w67 → (R (.tuple #[(.agg #[(.bool b62), (.slice A63 n63 c63), (.slice A64 n64 c64)]), (.bool false)]) w67))))))))))))))))))))) :
    Pure Tryz.prog 34 #[(.string sp0)] w R :=
  pure_of_run (garboardref03_From.cx w w.heap.size R) 100000 follows Tryz.func34 rfl rfl rfl rfl rfl rfl rfl (Eq.mp (by kernel_rfl) h)

noncomputable def garboardref03_Mul.cx (w : World) (B : Nat) (R : Value → World → Prop) : Cx := ⟨Tryz.prog, 35, 16, Tryz.f35.results.toList, [], [], w, B, R⟩
theorem garboardref03_Mul.vc (bp0_0 : Bool) (Ap0_1 : Option Addr) (np0_1 cp0_1 : Nat) (Ap0_2 : Option Addr) (np0_2 cp0_2 : Nat) (bp1_0 : Bool) (Ap1_1 : Option Addr) (np1_1 cp1_1 : Nat) (Ap1_2 : Option Addr) (np1_2 cp1_2 : Nat) (w : World) (R : Value → World → Prop)
    (h : (∀ w1, Ext w.heap.size [] w w1 → (Pure Tryz.prog 83 #[(.agg #[(.bool bp0_0), (.slice Ap0_1 np0_1 cp0_1)]), (.agg #[(.bool bp1_0), (.slice Ap1_1 np1_1 cp1_1)])] w1 fun r4 w5 => ∃ (b2 : Bool) (A3 : Option Addr) (n3 c3 : Nat), r4 = (.agg #[(.bool b2), (.slice A3 n3 c3)]) ∧ (Pure Tryz.prog 84 #[(.slice Ap0_2 np0_2 cp0_2), (.slice Ap1_2 np1_2 cp1_2)] w5 fun r7 w8 => ∃ (A6 : Option Addr) (n6 c6 : Nat), r7 = (.slice A6 n6 c6) ∧ (Pure Tryz.prog 82 #[(.agg #[(.bool b2), (.slice A3 n3 c3)]), (.slice A6 n6 c6)] w8 fun r12 w13 => ∃ (b9 : Bool) (A10 : Option Addr) (n10 c10 : Nat) (A11 : Option Addr) (n11 c11 : Nat), r12 = (.agg #[(.bool b9), (.slice A10 n10 c10), (.slice A11 n11 c11)]) ∧ (∀ w14, Ext w.heap.size [62] w13 w14 → (R (.agg #[(.bool b9), (.slice A10 n10 c10), (.slice A11 n11 c11)]) w14))))))) :
    Pure Tryz.prog 35 #[(.agg #[(.bool bp0_0), (.slice Ap0_1 np0_1 cp0_1), (.slice Ap0_2 np0_2 cp0_2)]), (.agg #[(.bool bp1_0), (.slice Ap1_1 np1_1 cp1_1), (.slice Ap1_2 np1_2 cp1_2)])] w R :=
  pure_of_run (garboardref03_Mul.cx w w.heap.size R) 100000 follows Tryz.func35 rfl rfl rfl rfl rfl rfl rfl (Eq.mp (by kernel_rfl) h)

noncomputable def garboardref03_Int.cx (w : World) (B : Nat) (R : Value → World → Prop) : Cx := ⟨Tryz.prog, 36, 7, Tryz.f36.results.toList, [], [], w, B, R⟩
theorem garboardref03_Int.vc (ip0 : Int) (w : World) (R : Value → World → Prop)
    (h : (∀ w1, Ext w.heap.size [] w w1 → (Pure Tryz.prog 85 #[(.int .i64 ip0)] w1 fun r4 w5 => ∃ (b2 : Bool) (A3 : Option Addr) (n3 c3 : Nat), r4 = (.agg #[(.bool b2), (.slice A3 n3 c3)]) ∧ (Pure Tryz.prog 78 #[(.int .u32 (1 : Int))] w5 fun r7 w8 => ∃ (A6 : Option Addr) (n6 c6 : Nat), r7 = (.slice A6 n6 c6) ∧ (∀ w9, Ext w.heap.size [62] w8 w9 → (R (.agg #[(.bool b2), (.slice A3 n3 c3), (.slice A6 n6 c6)]) w9)))))) :
    Pure Tryz.prog 36 #[(.int .i64 ip0)] w R :=
  pure_of_run (garboardref03_Int.cx w w.heap.size R) 100000 follows Tryz.func36 rfl rfl rfl rfl rfl rfl rfl (Eq.mp (by kernel_rfl) h)

noncomputable def garboardref03_Sub.cx (w : World) (B : Nat) (R : Value → World → Prop) : Cx := ⟨Tryz.prog, 37, 9, Tryz.f37.results.toList, [], [], w, B, R⟩
theorem garboardref03_Sub.vc (bp0_0 : Bool) (Ap0_1 : Option Addr) (np0_1 cp0_1 : Nat) (Ap0_2 : Option Addr) (np0_2 cp0_2 : Nat) (bp1_0 : Bool) (Ap1_1 : Option Addr) (np1_1 cp1_1 : Nat) (Ap1_2 : Option Addr) (np1_2 cp1_2 : Nat) (w : World) (R : Value → World → Prop)
    (h : (∀ w1, Ext w.heap.size [] w w1 → (Pure Tryz.prog 39 #[(.agg #[(.bool bp1_0), (.slice Ap1_1 np1_1 cp1_1), (.slice Ap1_2 np1_2 cp1_2)])] w1 fun r5 w6 => ∃ (b2 : Bool) (A3 : Option Addr) (n3 c3 : Nat) (A4 : Option Addr) (n4 c4 : Nat), r5 = (.agg #[(.bool b2), (.slice A3 n3 c3), (.slice A4 n4 c4)]) ∧ (Pure Tryz.prog 86 #[(.agg #[(.bool bp0_0), (.slice Ap0_1 np0_1 cp0_1), (.slice Ap0_2 np0_2 cp0_2)]), (.agg #[(.bool b2), (.slice A3 n3 c3), (.slice A4 n4 c4)])] w6 fun r10 w11 => ∃ (b7 : Bool) (A8 : Option Addr) (n8 c8 : Nat) (A9 : Option Addr) (n9 c9 : Nat), r10 = (.agg #[(.bool b7), (.slice A8 n8 c8), (.slice A9 n9 c9)]) ∧ (∀ w12, Ext w.heap.size [62] w11 w12 → (R (.agg #[(.bool b7), (.slice A8 n8 c8), (.slice A9 n9 c9)]) w12)))))) :
    Pure Tryz.prog 37 #[(.agg #[(.bool bp0_0), (.slice Ap0_1 np0_1 cp0_1), (.slice Ap0_2 np0_2 cp0_2)]), (.agg #[(.bool bp1_0), (.slice Ap1_1 np1_1 cp1_1), (.slice Ap1_2 np1_2 cp1_2)])] w R :=
  pure_of_run (garboardref03_Sub.cx w w.heap.size R) 100000 follows Tryz.func37 rfl rfl rfl rfl rfl rfl rfl (Eq.mp (by kernel_rfl) h)

noncomputable def garboardref03_Less.cx (w : World) (B : Nat) (R : Value → World → Prop) : Cx := ⟨Tryz.prog, 38, 9, Tryz.f38.results.toList, [], [], w, B, R⟩
theorem garboardref03_Less.vc (bp0_0 : Bool) (Ap0_1 : Option Addr) (np0_1 cp0_1 : Nat) (Ap0_2 : Option Addr) (np0_2 cp0_2 : Nat) (bp1_0 : Bool) (Ap1_1 : Option Addr) (np1_1 cp1_1 : Nat) (Ap1_2 : Option Addr) (np1_2 cp1_2 : Nat) (w : World) (R : Value → World → Prop)
    (h : (∀ w1, Ext w.heap.size [] w w1 → (Pure Tryz.prog 87 #[(.agg #[(.bool bp0_0), (.slice Ap0_1 np0_1 cp0_1), (.slice Ap0_2 np0_2 cp0_2)]), (.agg #[(.bool bp1_0), (.slice Ap1_1 np1_1 cp1_1), (.slice Ap1_2 np1_2 cp1_2)])] w1 fun r3 w4 => ∃ (i2 : Int), r3 = (.int .i64 i2) ∧ (R (.bool (decide ((i2 : Int) < (0 : Int)))) w4)))) :
    Pure Tryz.prog 38 #[(.agg #[(.bool bp0_0), (.slice Ap0_1 np0_1 cp0_1), (.slice Ap0_2 np0_2 cp0_2)]), (.agg #[(.bool bp1_0), (.slice Ap1_1 np1_1 cp1_1), (.slice Ap1_2 np1_2 cp1_2)])] w R :=
  pure_of_run (garboardref03_Less.cx w w.heap.size R) 100000 follows Tryz.func38 rfl rfl rfl rfl rfl rfl rfl (Eq.mp (by kernel_rfl) h)

noncomputable def garboardref03_Neg.cx (w : World) (B : Nat) (R : Value → World → Prop) : Cx := ⟨Tryz.prog, 39, 9, Tryz.f39.results.toList, [], [], w, B, R⟩
theorem garboardref03_Neg.vc (bp0_0 : Bool) (Ap0_1 : Option Addr) (np0_1 cp0_1 : Nat) (Ap0_2 : Option Addr) (np0_2 cp0_2 : Nat) (w : World) (R : Value → World → Prop)
    (h : (∀ w1, Ext w.heap.size [] w w1 → (Pure Tryz.prog 88 #[(.agg #[(.bool bp0_0), (.slice Ap0_1 np0_1 cp0_1)])] w1 fun r4 w5 => ∃ (b2 : Bool) (A3 : Option Addr) (n3 c3 : Nat), r4 = (.agg #[(.bool b2), (.slice A3 n3 c3)]) ∧ (∀ w6, Ext w.heap.size [62] w5 w6 → (R (.agg #[(.bool b2), (.slice A3 n3 c3), (.slice Ap0_2 np0_2 cp0_2)]) w6))))) :
    Pure Tryz.prog 39 #[(.agg #[(.bool bp0_0), (.slice Ap0_1 np0_1 cp0_1), (.slice Ap0_2 np0_2 cp0_2)])] w R :=
  pure_of_run (garboardref03_Neg.cx w w.heap.size R) 100000 follows Tryz.func39 rfl rfl rfl rfl rfl rfl rfl (Eq.mp (by kernel_rfl) h)

noncomputable def garboardref03_Sign.cx (w : World) (B : Nat) (R : Value → World → Prop) : Cx := ⟨Tryz.prog, 69, 6, Tryz.f69.results.toList, [], [], w, B, R⟩
theorem garboardref03_Sign.vc (bp0_0 : Bool) (Ap0_1 : Option Addr) (np0_1 cp0_1 : Nat) (Ap0_2 : Option Addr) (np0_2 cp0_2 : Nat) (w : World) (R : Value → World → Prop)
    (h : (∀ w1, Ext w.heap.size [] w w1 → (Pure Tryz.prog 80 #[(.agg #[(.bool bp0_0), (.slice Ap0_1 np0_1 cp0_1)])] w1 fun r3 w4 => ∃ (i2 : Int), r3 = (.int .i64 i2) ∧ (R (.int .i64 i2) w4)))) :
    Pure Tryz.prog 69 #[(.agg #[(.bool bp0_0), (.slice Ap0_1 np0_1 cp0_1), (.slice Ap0_2 np0_2 cp0_2)])] w R :=
  pure_of_run (garboardref03_Sign.cx w w.heap.size R) 100000 follows Tryz.func69 rfl rfl rfl rfl rfl rfl rfl (Eq.mp (by kernel_rfl) h)

def garboardref03_split.L2 (sl0 : ByteArray) (il5 : Int) (B : Nat) (w : World) (R : Value → World → Prop) : Prop := At Tryz.prog 73 24 (loopAt Tryz.f73 2) [(0, .v (.string sl0)), (5, .v (.int .i64 il5))] [] B w R
noncomputable def garboardref03_split.cx (w : World) (B : Nat) (R : Value → World → Prop) : Cx := ⟨Tryz.prog, 73, 24, Tryz.f73.results.toList, [((true, 2), [0, 5], [])], [], w, B, R⟩
theorem garboardref03_split.L2.step (sl0 : ByteArray) (il5 : Int) (B : Nat) (w : World) (R : Value → World → Prop)
    (h : ((((il5 : Int) < (ByteArray.size sl0 : Int)) → ((0 ≤ il5 ∧ il5 < (ByteArray.size sl0 : Int)) ∧ (((((bt sl0 il5) : Int) = (47 : Int)) → ((0 ≤ il5 ∧ il5 ≤ (ByteArray.size sl0 : Int)) ∧ (inR .i64 (il5 + (1 : Int)) ∧ ((0 ≤ (il5 + (1 : Int)) ∧ (il5 + (1 : Int)) ≤ (ByteArray.size sl0 : Int)) ∧ (∀ w1, Ext B [] w w1 → (R (.tuple #[(.string (ByteArray.extract sl0 0 (il5).toNat)), (.string (ByteArray.extract sl0 ((il5 + (1 : Int))).toNat (ByteArray.size sl0))), (.bool true)]) w1)))))) ∧ (¬ (((bt sl0 il5) : Int) = (47 : Int)) → (inR .i64 (il5 + (1 : Int)) ∧ (garboardref03_split.L2 sl0 (il5 + (1 : Int)) B w R)))))) ∧ (¬ ((il5 : Int) < (ByteArray.size sl0 : Int)) → (R (.tuple #[(.string sl0), (.string (⟨#[49]⟩ : ByteArray)), (.bool false)]) w)))) :
    garboardref03_split.L2 sl0 il5 B w R :=
  loop_of_run (garboardref03_split.cx w B R) 100000 (loopAt Tryz.f73 2) _ _ follows Tryz.func73 rfl rfl rfl (Eq.mp (by kernel_rfl) h)
theorem garboardref03_split.vc (sp0 : ByteArray) (w : World) (R : Value → World → Prop)
    (h : (garboardref03_split.L2 sp0 (0 : Int) w.heap.size w R)) :
    Pure Tryz.prog 73 #[(.string sp0)] w R :=
  pure_of_run (garboardref03_split.cx w w.heap.size R) 100000 follows Tryz.func73 rfl rfl rfl rfl rfl rfl rfl (Eq.mp (by kernel_rfl) h)

noncomputable def garboardref03_lowest.cx (w : World) (B : Nat) (R : Value → World → Prop) : Cx := ⟨Tryz.prog, 82, 45, Tryz.f82.results.toList, [], [], w, B, R⟩
theorem garboardref03_lowest.vc (bp0_0 : Bool) (Ap0_1 : Option Addr) (np0_1 cp0_1 : Nat) (Ap1 : Option Addr) (np1 cp1 : Nat) (w : World) (R : Value → World → Prop)
    (h : (∀ w1, Ext w.heap.size [] w w1 → (Pure Tryz.prog 81 #[(.slice Ap0_1 np0_1 cp0_1), (.slice Ap1 np1 cp1)] w1 fun r3 w4 => ∃ (A2 : Option Addr) (n2 c2 : Nat), r3 = (.slice A2 n2 c2) ∧ (((((n2 : Int) : Int) = (1 : Int)) → ((0 ≤ (0 : Int) ∧ (0 : Int) < n2) ∧ ∃ a5, A2 = some a5 ∧ (∃ (i6 : Int), CellsAt w4 (a5.add (((0 : Int)).toNat * 1)) [(.int .u32 i6)] ∧ ((((i6 : Int) = (1 : Int)) → (∀ w7, Ext w.heap.size [62] w4 w7 → (R (.agg #[(.bool bp0_0), (.slice Ap0_1 np0_1 cp0_1), (.slice Ap1 np1 cp1)]) w7))) ∧ (¬ ((i6 : Int) = (1 : Int)) → (Pure Tryz.prog 108 #[(.slice Ap0_1 np0_1 cp0_1), (.slice A2 n2 c2)] w4 fun r10 w11 => ∃ (A8 : Option Addr) (n8 c8 : Nat) (A9 : Option Addr) (n9 c9 : Nat), r10 = (.tuple #[(.slice A8 n8 c8), (.slice A9 n9 c9)]) ∧ (Pure Tryz.prog 108 #[(.slice Ap1 np1 cp1), (.slice A2 n2 c2)] w11 fun r14 w15 => ∃ (A12 : Option Addr) (n12 c12 : Nat) (A13 : Option Addr) (n13 c13 : Nat), r14 = (.tuple #[(.slice A12 n12 c12), (.slice A13 n13 c13)]) ∧ (Pure Tryz.prog 109 #[(.bool bp0_0), (.slice A8 n8 c8)] w15 fun r18 w19 => ∃ (b16 : Bool) (A17 : Option Addr) (n17 c17 : Nat), r18 = (.agg #[(.bool b16), (.slice A17 n17 c17)]) ∧ (∀ w20, Ext w.heap.size [62] w19 w20 → (R (.agg #[(.bool b16), (.slice A17 n17 c17), (.slice A12 n12 c12)]) w20)))))))))) ∧ (¬ (((n2 : Int) : Int) = (1 : Int)) → (Pure Tryz.prog 108 #[(.slice Ap0_1 np0_1 cp0_1), (.slice A2 n2 c2)] w4 fun r23 w24 => ∃ (A21 : Option Addr) (n21 c21 : Nat) (A22 : Option Addr) (n22 c22 : Nat), r23 = (.tuple #[(.slice A21 n21 c21), (.slice A22 n22 c22)]) ∧ (Pure Tryz.prog 108 #[(.slice Ap1 np1 cp1), (.slice A2 n2 c2)] w24 fun r27 w28 => ∃ (A25 : Option Addr) (n25 c25 : Nat) (A26 : Option Addr) (n26 c26 : Nat), r27 = (.tuple #[(.slice A25 n25 c25), (.slice A26 n26 c26)]) ∧ (Pure Tryz.prog 109 #[(.bool bp0_0), (.slice A21 n21 c21)] w28 fun r31 w32 => ∃ (b29 : Bool) (A30 : Option Addr) (n30 c30 : Nat), r31 = (.agg #[(.bool b29), (.slice A30 n30 c30)]) ∧ (∀ w33, Ext w.heap.size [62] w32 w33 → (R (.agg #[(.bool b29), (.slice A30 n30 c30), (.slice A25 n25 c25)]) w33)))))))))) :
    Pure Tryz.prog 82 #[(.agg #[(.bool bp0_0), (.slice Ap0_1 np0_1 cp0_1)]), (.slice Ap1 np1 cp1)] w R :=
  pure_of_run (garboardref03_lowest.cx w w.heap.size R) 100000 follows Tryz.func82 rfl rfl rfl rfl rfl rfl rfl (Eq.mp (by kernel_rfl) h)

noncomputable def garboardref03_Add.cx (w : World) (B : Nat) (R : Value → World → Prop) : Cx := ⟨Tryz.prog, 86, 50, Tryz.f86.results.toList, [], [], w, B, R⟩
theorem garboardref03_Add.vc (bp0_0 : Bool) (Ap0_1 : Option Addr) (np0_1 cp0_1 : Nat) (Ap0_2 : Option Addr) (np0_2 cp0_2 : Nat) (bp1_0 : Bool) (Ap1_1 : Option Addr) (np1_1 cp1_1 : Nat) (Ap1_2 : Option Addr) (np1_2 cp1_2 : Nat) (w : World) (R : Value → World → Prop)
    (h : (∀ w1, Ext w.heap.size [] w w1 → (Pure Tryz.prog 79 #[(.slice Ap0_2 np0_2 cp0_2), (.slice Ap1_2 np1_2 cp1_2)] w1 fun r3 w4 => ∃ (i2 : Int), r3 = (.int .i64 i2) ∧ ((((i2 : Int) = (0 : Int)) → (∀ w5, Ext w.heap.size [] w4 w5 → (Pure Tryz.prog 110 #[(.agg #[(.bool bp0_0), (.slice Ap0_1 np0_1 cp0_1)]), (.agg #[(.bool bp1_0), (.slice Ap1_1 np1_1 cp1_1)])] w5 fun r8 w9 => ∃ (b6 : Bool) (A7 : Option Addr) (n7 c7 : Nat), r8 = (.agg #[(.bool b6), (.slice A7 n7 c7)]) ∧ (Pure Tryz.prog 82 #[(.agg #[(.bool b6), (.slice A7 n7 c7)]), (.slice Ap0_2 np0_2 cp0_2)] w9 fun r13 w14 => ∃ (b10 : Bool) (A11 : Option Addr) (n11 c11 : Nat) (A12 : Option Addr) (n12 c12 : Nat), r13 = (.agg #[(.bool b10), (.slice A11 n11 c11), (.slice A12 n12 c12)]) ∧ (∀ w15, Ext w.heap.size [62] w14 w15 → (R (.agg #[(.bool b10), (.slice A11 n11 c11), (.slice A12 n12 c12)]) w15)))))) ∧ (¬ ((i2 : Int) = (0 : Int)) → ((∀ w16, Ext w.heap.size [] w4 w16 → (Pure Tryz.prog 84 #[(.slice Ap0_1 np0_1 cp0_1), (.slice Ap1_2 np1_2 cp1_2)] w16 fun r18 w19 => ∃ (A17 : Option Addr) (n17 c17 : Nat), r18 = (.slice A17 n17 c17) ∧ ((Pure Tryz.prog 109 #[(.bool bp0_0), (.slice A17 n17 c17)] w19 fun r22 w23 => ∃ (b20 : Bool) (A21 : Option Addr) (n21 c21 : Nat), r22 = (.agg #[(.bool b20), (.slice A21 n21 c21)]) ∧ ((∀ w24, Ext w.heap.size [] w23 w24 → (Pure Tryz.prog 84 #[(.slice Ap1_1 np1_1 cp1_1), (.slice Ap0_2 np0_2 cp0_2)] w24 fun r26 w27 => ∃ (A25 : Option Addr) (n25 c25 : Nat), r26 = (.slice A25 n25 c25) ∧ ((Pure Tryz.prog 109 #[(.bool bp1_0), (.slice A25 n25 c25)] w27 fun r30 w31 => ∃ (b28 : Bool) (A29 : Option Addr) (n29 c29 : Nat), r30 = (.agg #[(.bool b28), (.slice A29 n29 c29)]) ∧ (∀ w32, Ext w.heap.size [] w31 w32 → (Pure Tryz.prog 110 #[(.agg #[(.bool b20), (.slice A21 n21 c21)]), (.agg #[(.bool b28), (.slice A29 n29 c29)])] w32 fun r35 w36 => ∃ (b33 : Bool) (A34 : Option Addr) (n34 c34 : Nat), r35 = (.agg #[(.bool b33), (.slice A34 n34 c34)]) ∧ (Pure Tryz.prog 84 #[(.slice Ap0_2 np0_2 cp0_2), (.slice Ap1_2 np1_2 cp1_2)] w36 fun r38 w39 => ∃ (A37 : Option Addr) (n37 c37 : Nat), r38 = (.slice A37 n37 c37) ∧ (Pure Tryz.prog 82 #[(.agg #[(.bool b33), (.slice A34 n34 c34)]), (.slice A37 n37 c37)] w39 fun r43 w44 => ∃ (b40 : Bool) (A41 : Option Addr) (n41 c41 : Nat) (A42 : Option Addr) (n42 c42 : Nat), r43 = (.agg #[(.bool b40), (.slice A41 n41 c41), (.slice A42 n42 c42)]) ∧ (∀ w45, Ext w.heap.size [62] w44 w45 → (R (.agg #[(.bool b40), (.slice A41 n41 c41), (.slice A42 n42 c42)]) w45))))))) ∧ (∀ w46, Ext w.heap.size [] w27 w46 → (Pure Tryz.prog 109 #[(.bool bp1_0), (.slice A25 n25 c25)] w46 fun r49 w50 => ∃ (b47 : Bool) (A48 : Option Addr) (n48 c48 : Nat), r49 = (.agg #[(.bool b47), (.slice A48 n48 c48)]) ∧ (∀ w51, Ext w.heap.size [60] w50 w51 → (Pure Tryz.prog 110 #[(.agg #[(.bool b20), (.slice A21 n21 c21)]), (.agg #[(.bool b47), (.slice A48 n48 c48)])] w51 fun r54 w55 => ∃ (b52 : Bool) (A53 : Option Addr) (n53 c53 : Nat), r54 = (.agg #[(.bool b52), (.slice A53 n53 c53)]) ∧ (Pure Tryz.prog 84 #[(.slice Ap0_2 np0_2 cp0_2), (.slice Ap1_2 np1_2 cp1_2)] w55 fun r57 w58 => ∃ (A56 : Option Addr) (n56 c56 : Nat), r57 = (.slice A56 n56 c56) ∧ (Pure Tryz.prog 82 #[(.agg #[(.bool b52), (.slice A53 n53 c53)]), (.slice A56 n56 c56)] w58 fun r62 w63 => ∃ (b59 : Bool) (A60 : Option Addr) (n60 c60 : Nat) (A61 : Option Addr) (n61 c61 : Nat), r62 = (.agg #[(.bool b59), (.slice A60 n60 c60), (.slice A61 n61 c61)]) ∧ (∀ w64, Ext w.heap.size [62] w63 w64 → (R (.agg #[(.bool b59), (.slice A60 n60 c60), (.slice A61 n61 c61)]) w64))))))))))) ∧ (∀ w65, Ext w.heap.size [] w23 w65 → (Pure Tryz.prog 84 #[(.slice Ap1_1 np1_1 cp1_1), (.slice Ap0_2 np0_2 cp0_2)] w65 fun r67 w68 => ∃ (A66 : Option Addr) (n66 c66 : Nat), r67 = (.slice A66 n66 c66) ∧ (Pure Tryz.prog 109 #[(.bool bp1_0), (.slice A66 n66 c66)] w68 fun r71 w72 => ∃ (b69 : Bool) (A70 : Option Addr) (n70 c70 : Nat), r71 = (.agg #[(.bool b69), (.slice A70 n70 c70)]) ∧ (∀ w73, Ext w.heap.size [60] w72 w73 → (Pure Tryz.prog 110 #[(.agg #[(.bool b20), (.slice A21 n21 c21)]), (.agg #[(.bool b69), (.slice A70 n70 c70)])] w73 fun r76 w77 => ∃ (b74 : Bool) (A75 : Option Addr) (n75 c75 : Nat), r76 = (.agg #[(.bool b74), (.slice A75 n75 c75)]) ∧ (Pure Tryz.prog 84 #[(.slice Ap0_2 np0_2 cp0_2), (.slice Ap1_2 np1_2 cp1_2)] w77 fun r79 w80 => ∃ (A78 : Option Addr) (n78 c78 : Nat), r79 = (.slice A78 n78 c78) ∧ (Pure Tryz.prog 82 #[(.agg #[(.bool b74), (.slice A75 n75 c75)]), (.slice A78 n78 c78)] w80 fun r84 w85 => ∃ (b81 : Bool) (A82 : Option Addr) (n82 c82 : Nat) (A83 : Option Addr) (n83 c83 : Nat), r84 = (.agg #[(.bool b81), (.slice A82 n82 c82), (.slice A83 n83 c83)]) ∧ (∀ w86, Ext w.heap.size [62] w85 w86 → (R (.agg #[(.bool b81), (.slice A82 n82 c82), (.slice A83 n83 c83)]) w86))))))))))) ∧ (∀ w87, Ext w.heap.size [] w19 w87 → (Pure Tryz.prog 109 #[(.bool bp0_0), (.slice A17 n17 c17)] w87 fun r90 w91 => ∃ (b88 : Bool) (A89 : Option Addr) (n89 c89 : Nat), r90 = (.agg #[(.bool b88), (.slice A89 n89 c89)]) ∧ ((∀ w92, Ext w.heap.size [60] w91 w92 → (Pure Tryz.prog 84 #[(.slice Ap1_1 np1_1 cp1_1), (.slice Ap0_2 np0_2 cp0_2)] w92 fun r94 w95 => ∃ (A93 : Option Addr) (n93 c93 : Nat), r94 = (.slice A93 n93 c93) ∧ ((Pure Tryz.prog 109 #[(.bool bp1_0), (.slice A93 n93 c93)] w95 fun r98 w99 => ∃ (b96 : Bool) (A97 : Option Addr) (n97 c97 : Nat), r98 = (.agg #[(.bool b96), (.slice A97 n97 c97)]) ∧ (∀ w100, Ext w.heap.size [] w99 w100 → (Pure Tryz.prog 110 #[(.agg #[(.bool b88), (.slice A89 n89 c89)]), (.agg #[(.bool b96), (.slice A97 n97 c97)])] w100 fun r103 w104 => ∃ (b101 : Bool) (A102 : Option Addr) (n102 c102 : Nat), r103 = (.agg #[(.bool b101), (.slice A102 n102 c102)]) ∧ (Pure Tryz.prog 84 #[(.slice Ap0_2 np0_2 cp0_2), (.slice Ap1_2 np1_2 cp1_2)] w104 fun r106 w107 => ∃ (A105 : Option Addr) (n105 c105 : Nat), r106 = (.slice A105 n105 c105) ∧ (Pure Tryz.prog 82 #[(.agg #[(.bool b101), (.slice A102 n102 c102)]), (.slice A105 n105 c105)] w107 fun r111 w112 => ∃ (b108 : Bool) (A109 : Option Addr) (n109 c109 : Nat) (A110 : Option Addr) (n110 c110 : Nat), r111 = (.agg #[(.bool b108), (.slice A109 n109 c109), (.slice A110 n110 c110)]) ∧ (∀ w113, Ext w.heap.size [62] w112 w113 → (R (.agg #[(.bool b108), (.slice A109 n109 c109), (.slice A110 n110 c110)]) w113))))))) ∧ (∀ w114, Ext w.heap.size [] w95 w114 → (Pure Tryz.prog 109 #[(.bool bp1_0), (.slice A93 n93 c93)] w114 fun r117 w118 => ∃ (b115 : Bool) (A116 : Option Addr) (n116 c116 : Nat), r117 = (.agg #[(.bool b115), (.slice A116 n116 c116)]) ∧ (∀ w119, Ext w.heap.size [60] w118 w119 → (Pure Tryz.prog 110 #[(.agg #[(.bool b88), (.slice A89 n89 c89)]), (.agg #[(.bool b115), (.slice A116 n116 c116)])] w119 fun r122 w123 => ∃ (b120 : Bool) (A121 : Option Addr) (n121 c121 : Nat), r122 = (.agg #[(.bool b120), (.slice A121 n121 c121)]) ∧ (Pure Tryz.prog 84 #[(.slice Ap0_2 np0_2 cp0_2), (.slice Ap1_2 np1_2 cp1_2)] w123 fun r125 w126 => ∃ (A124 : Option Addr) (n124 c124 : Nat), r125 = (.slice A124 n124 c124) ∧ (Pure Tryz.prog 82 #[(.agg #[(.bool b120), (.slice A121 n121 c121)]), (.slice A124 n124 c124)] w126 fun r130 w131 => ∃ (b127 : Bool) (A128 : Option Addr) (n128 c128 : Nat) (A129 : Option Addr) (n129 c129 : Nat), r130 = (.agg #[(.bool b127), (.slice A128 n128 c128), (.slice A129 n129 c129)]) ∧ (∀ w132, Ext w.heap.size [62] w131 w132 → (R (.agg #[(.bool b127), (.slice A128 n128 c128), (.slice A129 n129 c129)]) w132))))))))))) ∧ (∀ w133, Ext w.heap.size [60] w91 w133 → (Pure Tryz.prog 84 #[(.slice Ap1_1 np1_1 cp1_1), (.slice Ap0_2 np0_2 cp0_2)] w133 fun r135 w136 => ∃ (A134 : Option Addr) (n134 c134 : Nat), r135 = (.slice A134 n134 c134) ∧ (Pure Tryz.prog 109 #[(.bool bp1_0), (.slice A134 n134 c134)] w136 fun r139 w140 => ∃ (b137 : Bool) (A138 : Option Addr) (n138 c138 : Nat), r139 = (.agg #[(.bool b137), (.slice A138 n138 c138)]) ∧ (∀ w141, Ext w.heap.size [60] w140 w141 → (Pure Tryz.prog 110 #[(.agg #[(.bool b88), (.slice A89 n89 c89)]), (.agg #[(.bool b137), (.slice A138 n138 c138)])] w141 fun r144 w145 => ∃ (b142 : Bool) (A143 : Option Addr) (n143 c143 : Nat), r144 = (.agg #[(.bool b142), (.slice A143 n143 c143)]) ∧ (Pure Tryz.prog 84 #[(.slice Ap0_2 np0_2 cp0_2), (.slice Ap1_2 np1_2 cp1_2)] w145 fun r147 w148 => ∃ (A146 : Option Addr) (n146 c146 : Nat), r147 = (.slice A146 n146 c146) ∧ (Pure Tryz.prog 82 #[(.agg #[(.bool b142), (.slice A143 n143 c143)]), (.slice A146 n146 c146)] w148 fun r152 w153 => ∃ (b149 : Bool) (A150 : Option Addr) (n150 c150 : Nat) (A151 : Option Addr) (n151 c151 : Nat), r152 = (.agg #[(.bool b149), (.slice A150 n150 c150), (.slice A151 n151 c151)]) ∧ (∀ w154, Ext w.heap.size [62] w153 w154 → (R (.agg #[(.bool b149), (.slice A150 n150 c150), (.slice A151 n151 c151)]) w154))))))))))))))) ∧ (∀ w155, Ext w.heap.size [] w4 w155 → (Pure Tryz.prog 84 #[(.slice Ap0_1 np0_1 cp0_1), (.slice Ap1_2 np1_2 cp1_2)] w155 fun r157 w158 => ∃ (A156 : Option Addr) (n156 c156 : Nat), r157 = (.slice A156 n156 c156) ∧ (Pure Tryz.prog 109 #[(.bool bp0_0), (.slice A156 n156 c156)] w158 fun r161 w162 => ∃ (b159 : Bool) (A160 : Option Addr) (n160 c160 : Nat), r161 = (.agg #[(.bool b159), (.slice A160 n160 c160)]) ∧ ((∀ w163, Ext w.heap.size [60] w162 w163 → (Pure Tryz.prog 84 #[(.slice Ap1_1 np1_1 cp1_1), (.slice Ap0_2 np0_2 cp0_2)] w163 fun r165 w166 => ∃ (A164 : Option Addr) (n164 c164 : Nat), r165 = (.slice A164 n164 c164) ∧ ((Pure Tryz.prog 109 #[(.bool bp1_0), (.slice A164 n164 c164)] w166 fun r169 w170 => ∃ (b167 : Bool) (A168 : Option Addr) (n168 c168 : Nat), r169 = (.agg #[(.bool b167), (.slice A168 n168 c168)]) ∧ (∀ w171, Ext w.heap.size [] w170 w171 → (Pure Tryz.prog 110 #[(.agg #[(.bool b159), (.slice A160 n160 c160)]), (.agg #[(.bool b167), (.slice A168 n168 c168)])] w171 fun r174 w175 => ∃ (b172 : Bool) (A173 : Option Addr) (n173 c173 : Nat), r174 = (.agg #[(.bool b172), (.slice A173 n173 c173)]) ∧ (Pure Tryz.prog 84 #[(.slice Ap0_2 np0_2 cp0_2), (.slice Ap1_2 np1_2 cp1_2)] w175 fun r177 w178 => ∃ (A176 : Option Addr) (n176 c176 : Nat), r177 = (.slice A176 n176 c176) ∧ (Pure Tryz.prog 82 #[(.agg #[(.bool b172), (.slice A173 n173 c173)]), (.slice A176 n176 c176)] w178 fun r182 w183 => ∃ (b179 : Bool) (A180 : Option Addr) (n180 c180 : Nat) (A181 : Option Addr) (n181 c181 : Nat), r182 = (.agg #[(.bool b179), (.slice A180 n180 c180), (.slice A181 n181 c181)]) ∧ (∀ w184, Ext w.heap.size [62] w183 w184 → (R (.agg #[(.bool b179), (.slice A180 n180 c180), (.slice A181 n181 c181)]) w184))))))) ∧ (∀ w185, Ext w.heap.size [] w166 w185 → (Pure Tryz.prog 109 #[(.bool bp1_0), (.slice A164 n164 c164)] w185 fun r188 w189 => ∃ (b186 : Bool) (A187 : Option Addr) (n187 c187 : Nat), r188 = (.agg #[(.bool b186), (.slice A187 n187 c187)]) ∧ (∀ w190, Ext w.heap.size [60] w189 w190 → (Pure Tryz.prog 110 #[(.agg #[(.bool b159), (.slice A160 n160 c160)]), (.agg #[(.bool b186), (.slice A187 n187 c187)])] w190 fun r193 w194 => ∃ (b191 : Bool) (A192 : Option Addr) (n192 c192 : Nat), r193 = (.agg #[(.bool b191), (.slice A192 n192 c192)]) ∧ (Pure Tryz.prog 84 #[(.slice Ap0_2 np0_2 cp0_2), (.slice Ap1_2 np1_2 cp1_2)] w194 fun r196 w197 => ∃ (A195 : Option Addr) (n195 c195 : Nat), r196 = (.slice A195 n195 c195) ∧ (Pure Tryz.prog 82 #[(.agg #[(.bool b191), (.slice A192 n192 c192)]), (.slice A195 n195 c195)] w197 fun r201 w202 => ∃ (b198 : Bool) (A199 : Option Addr) (n199 c199 : Nat) (A200 : Option Addr) (n200 c200 : Nat), r201 = (.agg #[(.bool b198), (.slice A199 n199 c199), (.slice A200 n200 c200)]) ∧ (∀ w203, Ext w.heap.size [62] w202 w203 → (R (.agg #[(.bool b198), (.slice A199 n199 c199), (.slice A200 n200 c200)]) w203))))))))))) ∧ (∀ w204, Ext w.heap.size [60] w162 w204 → (Pure Tryz.prog 84 #[(.slice Ap1_1 np1_1 cp1_1), (.slice Ap0_2 np0_2 cp0_2)] w204 fun r206 w207 => ∃ (A205 : Option Addr) (n205 c205 : Nat), r206 = (.slice A205 n205 c205) ∧ (Pure Tryz.prog 109 #[(.bool bp1_0), (.slice A205 n205 c205)] w207 fun r210 w211 => ∃ (b208 : Bool) (A209 : Option Addr) (n209 c209 : Nat), r210 = (.agg #[(.bool b208), (.slice A209 n209 c209)]) ∧ (∀ w212, Ext w.heap.size [60] w211 w212 → (Pure Tryz.prog 110 #[(.agg #[(.bool b159), (.slice A160 n160 c160)]), (.agg #[(.bool b208), (.slice A209 n209 c209)])] w212 fun r215 w216 => ∃ (b213 : Bool) (A214 : Option Addr) (n214 c214 : Nat), r215 = (.agg #[(.bool b213), (.slice A214 n214 c214)]) ∧ (Pure Tryz.prog 84 #[(.slice Ap0_2 np0_2 cp0_2), (.slice Ap1_2 np1_2 cp1_2)] w216 fun r218 w219 => ∃ (A217 : Option Addr) (n217 c217 : Nat), r218 = (.slice A217 n217 c217) ∧ (Pure Tryz.prog 82 #[(.agg #[(.bool b213), (.slice A214 n214 c214)]), (.slice A217 n217 c217)] w219 fun r223 w224 => ∃ (b220 : Bool) (A221 : Option Addr) (n221 c221 : Nat) (A222 : Option Addr) (n222 c222 : Nat), r223 = (.agg #[(.bool b220), (.slice A221 n221 c221), (.slice A222 n222 c222)]) ∧ (∀ w225, Ext w.heap.size [62] w224 w225 → (R (.agg #[(.bool b220), (.slice A221 n221 c221), (.slice A222 n222 c222)]) w225))))))))))))))))))) :
    Pure Tryz.prog 86 #[(.agg #[(.bool bp0_0), (.slice Ap0_1 np0_1 cp0_1), (.slice Ap0_2 np0_2 cp0_2)]), (.agg #[(.bool bp1_0), (.slice Ap1_1 np1_1 cp1_1), (.slice Ap1_2 np1_2 cp1_2)])] w R :=
  pure_of_run (garboardref03_Add.cx w w.heap.size R) 100000 follows Tryz.func86 rfl rfl rfl rfl rfl rfl rfl (Eq.mp (by kernel_rfl) h)

noncomputable def garboardref03_Cmp.cx (w : World) (B : Nat) (R : Value → World → Prop) : Cx := ⟨Tryz.prog, 87, 42, Tryz.f87.results.toList, [], [], w, B, R⟩
theorem garboardref03_Cmp.vc (bp0_0 : Bool) (Ap0_1 : Option Addr) (np0_1 cp0_1 : Nat) (Ap0_2 : Option Addr) (np0_2 cp0_2 : Nat) (bp1_0 : Bool) (Ap1_1 : Option Addr) (np1_1 cp1_1 : Nat) (Ap1_2 : Option Addr) (np1_2 cp1_2 : Nat) (w : World) (R : Value → World → Prop)
    (h : (∀ w1, Ext w.heap.size [] w w1 → (Pure Tryz.prog 69 #[(.agg #[(.bool bp0_0), (.slice Ap0_1 np0_1 cp0_1), (.slice Ap0_2 np0_2 cp0_2)])] w1 fun r3 w4 => ∃ (i2 : Int), r3 = (.int .i64 i2) ∧ (Pure Tryz.prog 69 #[(.agg #[(.bool bp1_0), (.slice Ap1_1 np1_1 cp1_1), (.slice Ap1_2 np1_2 cp1_2)])] w4 fun r6 w7 => ∃ (i5 : Int), r6 = (.int .i64 i5) ∧ ((((i2 : Int) ≠ i5) → ((((i2 : Int) < i5) → (R (.int .i64 (-1 : Int)) w7)) ∧ (¬ ((i2 : Int) < i5) → (R (.int .i64 (1 : Int)) w7)))) ∧ (¬ ((i2 : Int) ≠ i5) → ((∀ w8, Ext w.heap.size [] w7 w8 → (Pure Tryz.prog 84 #[(.slice Ap0_1 np0_1 cp0_1), (.slice Ap1_2 np1_2 cp1_2)] w8 fun r10 w11 => ∃ (A9 : Option Addr) (n9 c9 : Nat), r10 = (.slice A9 n9 c9) ∧ ((Pure Tryz.prog 109 #[(.bool bp0_0), (.slice A9 n9 c9)] w11 fun r14 w15 => ∃ (b12 : Bool) (A13 : Option Addr) (n13 c13 : Nat), r14 = (.agg #[(.bool b12), (.slice A13 n13 c13)]) ∧ ((∀ w16, Ext w.heap.size [] w15 w16 → (Pure Tryz.prog 84 #[(.slice Ap1_1 np1_1 cp1_1), (.slice Ap0_2 np0_2 cp0_2)] w16 fun r18 w19 => ∃ (A17 : Option Addr) (n17 c17 : Nat), r18 = (.slice A17 n17 c17) ∧ ((Pure Tryz.prog 109 #[(.bool bp1_0), (.slice A17 n17 c17)] w19 fun r22 w23 => ∃ (b20 : Bool) (A21 : Option Addr) (n21 c21 : Nat), r22 = (.agg #[(.bool b20), (.slice A21 n21 c21)]) ∧ (∀ w24, Ext w.heap.size [] w23 w24 → (Pure Tryz.prog 111 #[(.agg #[(.bool b12), (.slice A13 n13 c13)]), (.agg #[(.bool b20), (.slice A21 n21 c21)])] w24 fun r26 w27 => ∃ (i25 : Int), r26 = (.int .i64 i25) ∧ (R (.int .i64 i25) w27)))) ∧ (∀ w28, Ext w.heap.size [] w19 w28 → (Pure Tryz.prog 109 #[(.bool bp1_0), (.slice A17 n17 c17)] w28 fun r31 w32 => ∃ (b29 : Bool) (A30 : Option Addr) (n30 c30 : Nat), r31 = (.agg #[(.bool b29), (.slice A30 n30 c30)]) ∧ (∀ w33, Ext w.heap.size [60] w32 w33 → (Pure Tryz.prog 111 #[(.agg #[(.bool b12), (.slice A13 n13 c13)]), (.agg #[(.bool b29), (.slice A30 n30 c30)])] w33 fun r35 w36 => ∃ (i34 : Int), r35 = (.int .i64 i34) ∧ (R (.int .i64 i34) w36)))))))) ∧ (∀ w37, Ext w.heap.size [] w15 w37 → (Pure Tryz.prog 84 #[(.slice Ap1_1 np1_1 cp1_1), (.slice Ap0_2 np0_2 cp0_2)] w37 fun r39 w40 => ∃ (A38 : Option Addr) (n38 c38 : Nat), r39 = (.slice A38 n38 c38) ∧ (Pure Tryz.prog 109 #[(.bool bp1_0), (.slice A38 n38 c38)] w40 fun r43 w44 => ∃ (b41 : Bool) (A42 : Option Addr) (n42 c42 : Nat), r43 = (.agg #[(.bool b41), (.slice A42 n42 c42)]) ∧ (∀ w45, Ext w.heap.size [60] w44 w45 → (Pure Tryz.prog 111 #[(.agg #[(.bool b12), (.slice A13 n13 c13)]), (.agg #[(.bool b41), (.slice A42 n42 c42)])] w45 fun r47 w48 => ∃ (i46 : Int), r47 = (.int .i64 i46) ∧ (R (.int .i64 i46) w48)))))))) ∧ (∀ w49, Ext w.heap.size [] w11 w49 → (Pure Tryz.prog 109 #[(.bool bp0_0), (.slice A9 n9 c9)] w49 fun r52 w53 => ∃ (b50 : Bool) (A51 : Option Addr) (n51 c51 : Nat), r52 = (.agg #[(.bool b50), (.slice A51 n51 c51)]) ∧ ((∀ w54, Ext w.heap.size [60] w53 w54 → (Pure Tryz.prog 84 #[(.slice Ap1_1 np1_1 cp1_1), (.slice Ap0_2 np0_2 cp0_2)] w54 fun r56 w57 => ∃ (A55 : Option Addr) (n55 c55 : Nat), r56 = (.slice A55 n55 c55) ∧ ((Pure Tryz.prog 109 #[(.bool bp1_0), (.slice A55 n55 c55)] w57 fun r60 w61 => ∃ (b58 : Bool) (A59 : Option Addr) (n59 c59 : Nat), r60 = (.agg #[(.bool b58), (.slice A59 n59 c59)]) ∧ (∀ w62, Ext w.heap.size [] w61 w62 → (Pure Tryz.prog 111 #[(.agg #[(.bool b50), (.slice A51 n51 c51)]), (.agg #[(.bool b58), (.slice A59 n59 c59)])] w62 fun r64 w65 => ∃ (i63 : Int), r64 = (.int .i64 i63) ∧ (R (.int .i64 i63) w65)))) ∧ (∀ w66, Ext w.heap.size [] w57 w66 → (Pure Tryz.prog 109 #[(.bool bp1_0), (.slice A55 n55 c55)] w66 fun r69 w70 => ∃ (b67 : Bool) (A68 : Option Addr) (n68 c68 : Nat), r69 = (.agg #[(.bool b67), (.slice A68 n68 c68)]) ∧ (∀ w71, Ext w.heap.size [60] w70 w71 → (Pure Tryz.prog 111 #[(.agg #[(.bool b50), (.slice A51 n51 c51)]), (.agg #[(.bool b67), (.slice A68 n68 c68)])] w71 fun r73 w74 => ∃ (i72 : Int), r73 = (.int .i64 i72) ∧ (R (.int .i64 i72) w74)))))))) ∧ (∀ w75, Ext w.heap.size [60] w53 w75 → (Pure Tryz.prog 84 #[(.slice Ap1_1 np1_1 cp1_1), (.slice Ap0_2 np0_2 cp0_2)] w75 fun r77 w78 => ∃ (A76 : Option Addr) (n76 c76 : Nat), r77 = (.slice A76 n76 c76) ∧ (Pure Tryz.prog 109 #[(.bool bp1_0), (.slice A76 n76 c76)] w78 fun r81 w82 => ∃ (b79 : Bool) (A80 : Option Addr) (n80 c80 : Nat), r81 = (.agg #[(.bool b79), (.slice A80 n80 c80)]) ∧ (∀ w83, Ext w.heap.size [60] w82 w83 → (Pure Tryz.prog 111 #[(.agg #[(.bool b50), (.slice A51 n51 c51)]), (.agg #[(.bool b79), (.slice A80 n80 c80)])] w83 fun r85 w86 => ∃ (i84 : Int), r85 = (.int .i64 i84) ∧ (R (.int .i64 i84) w86)))))))))))) ∧ (∀ w87, Ext w.heap.size [] w7 w87 → (Pure Tryz.prog 84 #[(.slice Ap0_1 np0_1 cp0_1), (.slice Ap1_2 np1_2 cp1_2)] w87 fun r89 w90 => ∃ (A88 : Option Addr) (n88 c88 : Nat), r89 = (.slice A88 n88 c88) ∧ (Pure Tryz.prog 109 #[(.bool bp0_0), (.slice A88 n88 c88)] w90 fun r93 w94 => ∃ (b91 : Bool) (A92 : Option Addr) (n92 c92 : Nat), r93 = (.agg #[(.bool b91), (.slice A92 n92 c92)]) ∧ ((∀ w95, Ext w.heap.size [60] w94 w95 → (Pure Tryz.prog 84 #[(.slice Ap1_1 np1_1 cp1_1), (.slice Ap0_2 np0_2 cp0_2)] w95 fun r97 w98 => ∃ (A96 : Option Addr) (n96 c96 : Nat), r97 = (.slice A96 n96 c96) ∧ ((Pure Tryz.prog 109 #[(.bool bp1_0), (.slice A96 n96 c96)] w98 fun r101 w102 => ∃ (b99 : Bool) (A100 : Option Addr) (n100 c100 : Nat), r101 = (.agg #[(.bool b99), (.slice A100 n100 c100)]) ∧ (∀ w103, Ext w.heap.size [] w102 w103 → (Pure Tryz.prog 111 #[(.agg #[(.bool b91), (.slice A92 n92 c92)]), (.agg #[(.bool b99), (.slice A100 n100 c100)])] w103 fun r105 w106 => ∃ (i104 : Int), r105 = (.int .i64 i104) ∧ (R (.int .i64 i104) w106)))) ∧ (∀ w107, Ext w.heap.size [] w98 w107 → (Pure Tryz.prog 109 #[(.bool bp1_0), (.slice A96 n96 c96)] w107 fun r110 w111 => ∃ (b108 : Bool) (A109 : Option Addr) (n109 c109 : Nat), r110 = (.agg #[(.bool b108), (.slice A109 n109 c109)]) ∧ (∀ w112, Ext w.heap.size [60] w111 w112 → (Pure Tryz.prog 111 #[(.agg #[(.bool b91), (.slice A92 n92 c92)]), (.agg #[(.bool b108), (.slice A109 n109 c109)])] w112 fun r114 w115 => ∃ (i113 : Int), r114 = (.int .i64 i113) ∧ (R (.int .i64 i113) w115)))))))) ∧ (∀ w116, Ext w.heap.size [60] w94 w116 → (Pure Tryz.prog 84 #[(.slice Ap1_1 np1_1 cp1_1), (.slice Ap0_2 np0_2 cp0_2)] w116 fun r118 w119 => ∃ (A117 : Option Addr) (n117 c117 : Nat), r118 = (.slice A117 n117 c117) ∧ (Pure Tryz.prog 109 #[(.bool bp1_0), (.slice A117 n117 c117)] w119 fun r122 w123 => ∃ (b120 : Bool) (A121 : Option Addr) (n121 c121 : Nat), r122 = (.agg #[(.bool b120), (.slice A121 n121 c121)]) ∧ (∀ w124, Ext w.heap.size [60] w123 w124 → (Pure Tryz.prog 111 #[(.agg #[(.bool b91), (.slice A92 n92 c92)]), (.agg #[(.bool b120), (.slice A121 n121 c121)])] w124 fun r126 w127 => ∃ (i125 : Int), r126 = (.int .i64 i125) ∧ (R (.int .i64 i125) w127))))))))))))))))) :
    Pure Tryz.prog 87 #[(.agg #[(.bool bp0_0), (.slice Ap0_1 np0_1 cp0_1), (.slice Ap0_2 np0_2 cp0_2)]), (.agg #[(.bool bp1_0), (.slice Ap1_1 np1_1 cp1_1), (.slice Ap1_2 np1_2 cp1_2)])] w R :=
  pure_of_run (garboardref03_Cmp.cx w w.heap.size R) 100000 follows Tryz.func87 rfl rfl rfl rfl rfl rfl rfl (Eq.mp (by kernel_rfl) h)

end Go.Proofs.YtdoailkigecmkaaGreatDoor.F

namespace Go.Proofs.YtdoailkigecmkaaGreatDoor.B
open Go Go.RowKit Go.Proofs Go.Proofs.YtdoailkigecmkaaGreatDoor.Vc

theorem head_by {s : ByteArray} (h : 0 < s.size) : bt s 0 = 45 ↔ (by_ s).head? = some 45 := by
  obtain ⟨c, hc, hb, _⟩ := bt_get (s := s) (i := 0) (by omega) (by omega)
  have e : (by_ s).head? = some c := by rw [List.head?_eq_getElem?]; exact hc
  rw [hb, e]
  constructor
  · intro h
    have h2 : c.toNat = 45 := by omega
    exact congrArg some (UInt8.toNat_inj.1 h2)
  · intro h
    cases h
    rfl
theorem by_tail {s : ByteArray} : by_ (s.extract ((1 : Int)).toNat s.size) = (by_ s).tail := by
  rw [by_extract, List.take_of_length_le (by rw [size_by]; omega)]
  cases by_ s <;> rfl
theorem isInt_of_head {t : Tx} (h : t.head? = some 45) : isInt t = (isNat t.tail && t.tail != [48]) := by unfold isInt; rw [if_pos h]
theorem isInt_of_not {t : Tx} (h : ¬ t.head? = some 45) : isInt t = isNat t := by unfold isInt; rw [if_neg h]

theorem ref2_Valid (s : ByteArray) (hs : s.size < 2147483648) (w : World) : Pure Tryz.prog 74 #[.string s] w fun v _ => v = .bool (isInt (by_ s)) := by
  have ht : ∀ w1, Pure Tryz.prog 75 #[.string s] w1 fun v _ => v = .bool (isNat (by_ s)) := fun w1 => ref_Valid s hs w1
  refine F.garboardref02_Valid.vc _ _ _ ⟨fun h1 => ⟨⟨by omega, by omega⟩, fun h2 => ⟨fun h3 => ⟨⟨by omega, by omega⟩, ?_⟩, fun h3 => ?_⟩, fun h2 => ?_⟩, fun h1 => ?_⟩
  · have hh := (head_by (by omega)).1 h2
    refine Pure.mono (ref_Valid _ (by rw [size_by, by_tail]; have := size_by s; simp; omega) w) ?_
    rintro v w2 _ rfl
    refine ⟨_, rfl, ?_⟩
    rw [by_tail, isInt_of_head hh]
    have hne : ((by_ s).tail != [48]) = true := by
      rw [bne_iff_ne]
      intro k
      refine h3 (by_inj ?_)
      show by_ s = [45, 48]
      cases hb : by_ s with
      | nil => rw [hb] at hh; cases hh
      | cons c r => rw [hb] at hh k; simp at hh k; rw [hh, k]
    rw [hne, Bool.and_true]
  · have e : s = ⟨#[45, 48]⟩ := Decidable.not_not.1 h3
    subst e
    refine congrArg Value.bool ?_
    decide
  · have hh : ¬ (by_ s).head? = some 45 := fun k => h2 ((head_by (by omega)).2 k)
    refine Pure.mono (ht w) ?_
    rintro v w2 _ rfl
    exact ⟨_, rfl, by rw [isInt_of_not hh]⟩
  · refine Pure.mono (ht w) ?_
    rintro v w2 _ rfl
    refine ⟨_, rfl, ?_⟩
    by_cases hh : (by_ s).head? = some 45
    · rw [isInt_of_head hh]
      have hl : (by_ s).length ≤ 1 := by rw [← size_by]; omega
      cases hb : by_ s with
      | nil => rw [hb] at hh; cases hh
      | cons c r =>
        rw [hb] at hh hl
        simp at hh hl
        subst hh
        subst hl
        rfl
    · rw [isInt_of_not hh]
theorem ref2_Read {s : ByteArray} (hs : s.size ≤ 900000) (h : isInt (by_ s) = true) (w : World) : Pure Tryz.prog 76 #[.string s] w (ZR (valI (by_ s))) := by
  have hne : by_ s ≠ [] := fun e => by rw [e] at h; cases h
  have hpos : 0 < s.size := by rw [size_by]; exact List.length_pos_iff.2 hne
  refine F.garboardref02_Read.vc _ _ _ ⟨⟨by omega, by omega⟩, fun h2 => ⟨⟨by omega, by omega⟩, fun w1 x1 => ?_⟩, fun h2 w1 x1 => ?_⟩
  · have hh := (head_by hpos).1 h2
    rw [isInt_of_head hh, Bool.and_eq_true] at h
    have hv : valI (by_ s) = -(valD (by_ s).tail : Int) := by unfold valI; rw [if_pos hh]
    refine Pure.mono (ref_From (by rw [size_by, by_tail]; have := size_by s; simp; omega) (by rw [by_tail]; exact h.1)) ?_
    rintro v w2 b2 ⟨A, n, c, rfl, k⟩
    rw [by_tail] at k
    refine ⟨_, _, _, rfl, fun w3 x3 => ⟨_, _, _, _, rfl, ?_, ?_⟩⟩
    · have h0 : valD (by_ s).tail ≠ 0 := fun e => by
        have := natT_of h.1
        rw [e, natT_0] at this
        rw [← this] at h
        exact absurd h.2 (by decide)
      symm
      exact decide_eq_true (by omega)
    · rw [hv, Int.natAbs_neg, Int.natAbs_natCast]
      exact k.ext x3 (by decide)
  · have hh : ¬ (by_ s).head? = some 45 := fun k => h2 ((head_by hpos).2 k)
    rw [isInt_of_not hh] at h
    have hv : valI (by_ s) = (valD (by_ s) : Int) := by unfold valI; rw [if_neg hh]
    refine Pure.mono (ref_From hs h) ?_
    rintro v w2 b2 ⟨A, n, c, rfl, k⟩
    refine ⟨_, _, _, rfl, fun w3 x3 => ⟨_, _, _, _, rfl, ?_, ?_⟩⟩
    · symm
      exact decide_eq_false (by omega)
    · rw [hv, Int.natAbs_natCast]
      exact k.ext x3 (by decide)

def IsQ (w : World) (b : Bool) (A : Option Addr) (n c : Nat) (A' : Option Addr) (n' c' : Nat) (r : Rat) : Prop := IsZ w b A n c r.num ∧ IsN w A' n' c' r.den
theorem IsQ.below {w w' : World} {b : Bool} {A A' : Option Addr} {n c n' c' : Nat} {r : Rat} (h : IsQ w b A n c A' n' c' r) (hb : Below w.heap.size w w') : IsQ w' b A n c A' n' c' r := ⟨h.1.below hb, h.2.below hb⟩
theorem IsQ.ext {w w' : World} {B : Nat} {ts : List Nat} {b : Bool} {A A' : Option Addr} {n c n' c' : Nat} {r : Rat} (h : IsQ w b A n c A' n' c' r) (e : Ext B ts w w') (ht : 106 ∉ ts) : IsQ w' b A n c A' n' c' r := ⟨h.1.ext e ht, h.2.ext e ht⟩
abbrev QR (r : Rat) (v : Value) (w : World) : Prop := ∃ b A n c A' n' c', v = .agg #[.bool b, .slice A n c, .slice A' n' c'] ∧ IsQ w b A n c A' n' c' r

theorem int_of_abs (z : Int) (g : Nat) (h : g ∣ z.natAbs) : (if decide (z < 0) = true then -((z.natAbs / g : Nat) : Int) else ((z.natAbs / g : Nat) : Int)) = z / (g : Int) := by
  obtain ⟨k, hk⟩ := h
  by_cases hg : g = 0
  · subst hg; simp
  have hk2 : z.natAbs / g = k := by rw [hk, Nat.mul_div_cancel_left _ (by omega)]
  rw [hk2]
  by_cases hz : z < 0
  · rw [if_pos (decide_eq_true hz)]
    have e : z = (g : Int) * (-(k : Int)) := by
      have : (z.natAbs : Int) = (g : Int) * (k : Int) := by rw [hk]; simp
      rw [Int.mul_neg]
      omega
    rw [e, Int.mul_ediv_cancel_left _ (by omega)]
  · rw [if_neg (by simp [hz])]
    have e : z = (g : Int) * (k : Int) := by
      have : (z.natAbs : Int) = (g : Int) * (k : Int) := by rw [hk]; simp
      omega
    rw [e, Int.mul_ediv_cancel_left _ (by omega)]

theorem ref3_lowest {w : World} {b : Bool} {A A1 : Option Addr} {n c n1 c1 : Nat} {p : Int} {d : Nat} (hp : IsZ w b A n c p) (hd : IsN w A1 n1 c1 d) (hd0 : d ≠ 0) (lp : p.natAbs < Lim) (ld : d < Lim) :
    Pure Tryz.prog 82 #[.agg #[.bool b, .slice A n c], .slice A1 n1 c1] w (QR (mkRat p d)) := by
  obtain ⟨en, ed⟩ := mkRat_red (p := p) hd0
  have hp' := hp
  obtain ⟨rfl, kp⟩ := hp'
  refine F.garboardref03_lowest.vc _ _ _ _ _ _ _ _ _ fun w1 x1 => Pure.mono (ref_Common (kp.ext x1 (by decide)) (hd.ext x1 (by decide)) lp ld) ?_
  rintro v w2 b2 ⟨A2, n2, c2, rfl, kg⟩
  obtain ⟨g, hg⟩ : ∃ g, g = Nat.gcd p.natAbs d := ⟨_, rfl⟩
  rw [← hg] at kg en ed
  have hg0 : g ≠ 0 := fun e => by
    rw [e] at hg
    exact hd0 (Nat.eq_zero_of_gcd_eq_zero_right hg.symm)
  have gp : g ∣ p.natAbs := by rw [hg]; exact Nat.gcd_dvd_left _ _
  have gd : g ∣ d := by rw [hg]; exact Nat.gcd_dvd_right _ _
  have lg : g < Lim := Nat.lt_of_le_of_lt (Nat.le_of_dvd (by omega) gd) ld
  have kp2 := (kp.ext x1 (by decide)).below b2
  have kd2 := (hd.ext x1 (by decide)).below b2
  have rest : Pure Tryz.prog 108 #[.slice A n c, .slice A2 n2 c2] w2 fun r10 w11 => ∃ (A8 : Option Addr) (n8 c8 : Nat) (A9 : Option Addr) (n9 c9 : Nat), r10 = (.tuple #[(.slice A8 n8 c8), (.slice A9 n9 c9)]) ∧ (Pure Tryz.prog 108 #[(.slice A1 n1 c1), (.slice A2 n2 c2)] w11 fun r14 w15 => ∃ (A12 : Option Addr) (n12 c12 : Nat) (A13 : Option Addr) (n13 c13 : Nat), r14 = (.tuple #[(.slice A12 n12 c12), (.slice A13 n13 c13)]) ∧ (Pure Tryz.prog 109 #[(.bool (decide (p < 0))), (.slice A8 n8 c8)] w15 fun r18 w19 => ∃ (b16 : Bool) (A17 : Option Addr) (n17 c17 : Nat), r18 = (.agg #[(.bool b16), (.slice A17 n17 c17)]) ∧ (∀ w20, Ext w.heap.size [62] w19 w20 → (QR (mkRat p d) (.agg #[(.bool b16), (.slice A17 n17 c17), (.slice A12 n12 c12)]) w20)))) := by
    refine Pure.mono (ref_Over kp2 kg lp lg hg0) ?_
    rintro v w3 b3 ⟨A8, n8, c8, A9, n9, c9, rfl, k8, _⟩
    refine ⟨_, _, _, _, _, _, rfl, Pure.mono (ref_Over (kd2.below b3) (kg.below b3) ld lg hg0) ?_⟩
    rintro v w4 b4 ⟨A12, n12, c12, A13, n13, c13, rfl, k12, _⟩
    refine ⟨_, _, _, _, _, _, rfl, Pure.mono (ref2_Make _ (k8.below b4)) ?_⟩
    rintro v w5 b5 ⟨b, A, n, c, rfl, k⟩
    refine ⟨_, _, _, _, rfl, fun w6 x6 => ⟨_, _, _, _, _, _, _, rfl, ?_, ?_⟩⟩
    · rw [int_of_abs p g gp, ← en] at k
      exact k.ext x6 (by decide)
    · rw [ed]
      exact (k12.below b5).ext x6 (by decide)
  refine ⟨_, _, _, rfl, fun h1 => ?_, fun _ => rest⟩
  obtain ⟨ws, q1, q2, q3, q4, q5, q6, q7⟩ := kg
  refine q1.load q2 (by omega) (by omega) ?_
  have e : ws.getD (Int.toNat 0) 0 = g := by
    obtain ⟨z, rfl⟩ := List.length_eq_one_iff.1 (by omega : ws.length = 1)
    simpa [wv] using q7
  rw [e]
  refine ⟨fun hone w3 x3 => ?_, fun _ => rest⟩
  have hg1 : g = 1 := by omega
  rw [hg1] at en ed
  refine ⟨_, _, _, _, _, _, _, rfl, ?_, ?_⟩
  · have e1 : (mkRat p d).num = p := by rw [en]; simp
    rw [e1]
    exact ((hp.ext x1 (by decide)).below b2).ext x3 (by decide)
  · have e1 : (mkRat p d).den = d := by rw [ed]; simp
    rw [e1]
    exact kd2.ext x3 (by decide)

theorem lim_of {k x : Nat} (h : x < 10 ^ k) (hk : k ≤ 900000) : x < Lim := lt_lim h hk
theorem ref3_Mul {w : World} {b0 b1 : Bool} {A0 A1 A0' A1' : Option Addr} {n0 c0 n1 c1 n0' c0' n1' c1' : Nat} {x y : Rat} (hx : IsQ w b0 A0 n0 c0 A0' n0' c0' x) (hy : IsQ w b1 A1 n1 c1 A1' n1' c1' y) (sx : Sm 100000 x) (sy : Sm 100000 y) :
    Pure Tryz.prog 35 #[.agg #[.bool b0, .slice A0 n0 c0, .slice A0' n0' c0'], .agg #[.bool b1, .slice A1 n1 c1, .slice A1' n1' c1']] w (QR (x * y)) := by
  have l1 := lim_of sx.1 (by omega)
  have l2 := lim_of sy.1 (by omega)
  have l3 := lim_of sx.2 (by omega)
  have l4 := lim_of sy.2 (by omega)
  refine F.garboardref03_Mul.vc _ _ _ _ _ _ _ _ _ _ _ _ _ _ _ _ fun w1 x1 => Pure.mono (ref2_Times (hx.1.ext x1 (by decide)) (hy.1.ext x1 (by decide)) l1 l2) ?_
  rintro v w2 b2 ⟨b, A, n, c, rfl, k⟩
  refine ⟨_, _, _, _, rfl, Pure.mono (ref_Times ((hx.2.ext x1 (by decide)).below b2) ((hy.2.ext x1 (by decide)).below b2) l3 l4) ?_⟩
  rintro v w3 b3 ⟨A', n', c', rfl, k', _⟩
  refine ⟨_, _, _, rfl, Pure.mono (ref3_lowest (k.below b3) k' (den_mul_ne x y) (by rw [Int.natAbs_mul]; exact lim_of (mul_lt_pow sx.1 sy.1) (by omega)) (lim_of (den_mul_lt sx sy) (by omega))) ?_⟩
  rintro v w4 b4 ⟨b, A, n, c, A', n', c', rfl, q⟩
  refine ⟨_, _, _, _, _, _, _, rfl, fun w5 x5 => ⟨_, _, _, _, _, _, _, rfl, ?_⟩⟩
  rw [Rat.mul_def']
  exact q.ext x5 (by decide)
theorem ref3_Neg {w : World} {b0 : Bool} {A0 A0' : Option Addr} {n0 c0 n0' c0' : Nat} {x : Rat} (hx : IsQ w b0 A0 n0 c0 A0' n0' c0' x) :
    Pure Tryz.prog 39 #[.agg #[.bool b0, .slice A0 n0 c0, .slice A0' n0' c0']] w (QR (-x)) := by
  refine F.garboardref03_Neg.vc _ _ _ _ _ _ _ _ _ fun w1 x1 => Pure.mono (ref2_Opposite (hx.1.ext x1 (by decide))) ?_
  rintro v w2 b2 ⟨b, A, n, c, rfl, k⟩
  refine ⟨_, _, _, _, rfl, fun w3 x3 => ⟨_, _, _, _, _, _, _, rfl, ?_, ?_⟩⟩
  · rw [Rat.neg_num]
    exact k.ext x3 (by decide)
  · have e : (-x).den = x.den := rfl
    rw [e]
    exact ((hx.2.ext x1 (by decide)).below b2).ext x3 (by decide)
theorem sgn_num (r : Rat) : sgn r.num = cmpR r 0 := by
  rw [← num_sign]
  unfold sgn
  rcases Int.lt_trichotomy r.num 0 with h | h | h
  · rw [if_pos h, Int.sign_eq_neg_one_of_neg h]
  · rw [h]; rfl
  · rw [if_neg (by omega), if_pos h, Int.sign_eq_one_of_pos h]
theorem ref3_Sign {w : World} {b0 : Bool} {A0 A0' : Option Addr} {n0 c0 n0' c0' : Nat} {x : Rat} (hx : IsQ w b0 A0 n0 c0 A0' n0' c0' x) :
    Pure Tryz.prog 69 #[.agg #[.bool b0, .slice A0 n0 c0, .slice A0' n0' c0']] w fun v _ => v = .int .i64 (cmpR x 0) := by
  refine F.garboardref03_Sign.vc _ _ _ _ _ _ _ _ _ fun w1 x1 => Pure.mono (ref2_Signum (hx.1.ext x1 (by decide))) ?_
  rintro v w2 _ rfl
  exact ⟨_, rfl, by rw [sgn_num]⟩
theorem ref3_Int {w : World} {z : Int} (h : z.natAbs < 4294967296) : Pure Tryz.prog 36 #[.int .i64 z] w (QR (z : Rat)) := by
  refine F.garboardref03_Int.vc _ _ _ fun w1 x1 => Pure.mono (ref2_Small h) ?_
  rintro v w2 b2 ⟨b, A, n, c, rfl, k⟩
  refine ⟨_, _, _, _, rfl, Pure.mono (ref_Small (x := 1) (by omega)) ?_⟩
  rintro v w3 b3 ⟨A', n', c', rfl, k'⟩
  exact ⟨_, _, _, rfl, fun w4 x4 => ⟨_, _, _, _, _, _, _, rfl, (k.below b3).ext x4 (by decide), k'.ext x4 (by decide)⟩⟩
end Go.Proofs.YtdoailkigecmkaaGreatDoor.B

namespace Go.Proofs.YtdoailkigecmkaaGreatDoor.B
open Go Go.RowKit Go.Proofs Go.Proofs.YtdoailkigecmkaaGreatDoor.Vc

def crossT (B : Nat) (b1 : Bool) (L : Bool → Option Addr → Nat → Nat → World → Prop) (ts : List Nat) (A : Option Addr) (n c : Nat) (w : World) : Prop :=
  Pure Tryz.prog 109 #[.bool b1, .slice A n c] w fun r w31 => ∃ (b28 : Bool) (A29 : Option Addr) (n29 c29 : Nat), r = .agg #[.bool b28, .slice A29 n29 c29] ∧ ∀ w32, Ext B ts w31 w32 → L b28 A29 n29 c29 w32
def cross2 (B : Nat) (b1 : Bool) (A1 : Option Addr) (n1 c1 : Nat) (A0' : Option Addr) (n0' c0' : Nat) (L : Bool → Option Addr → Nat → Nat → World → Prop) (ts : List Nat) (w : World) : Prop :=
  (∀ w24, Ext B ts w w24 → Pure Tryz.prog 84 #[.slice A1 n1 c1, .slice A0' n0' c0'] w24 fun r w27 => ∃ (A25 : Option Addr) (n25 c25 : Nat), r = .slice A25 n25 c25 ∧ (crossT B b1 L [] A25 n25 c25 w27 ∧ ∀ w46, Ext B [] w27 w46 → crossT B b1 L [60] A25 n25 c25 w46)) ∧
  (∀ w65, Ext B ts w w65 → Pure Tryz.prog 84 #[.slice A1 n1 c1, .slice A0' n0' c0'] w65 fun r w68 => ∃ (A66 : Option Addr) (n66 c66 : Nat), r = .slice A66 n66 c66 ∧ crossT B b1 L [60] A66 n66 c66 w68)
def cross1 (B : Nat) (b0 : Bool) (A0 : Option Addr) (n0 c0 : Nat) (A0' : Option Addr) (n0' c0' : Nat) (b1 : Bool) (A1 : Option Addr) (n1 c1 : Nat) (A1' : Option Addr) (n1' c1' : Nat) (L : Bool → Option Addr → Nat → Nat → Bool → Option Addr → Nat → Nat → World → Prop) (w : World) : Prop :=
  (∀ w16, Ext B [] w w16 → Pure Tryz.prog 84 #[.slice A0 n0 c0, .slice A1' n1' c1'] w16 fun r w19 => ∃ (A17 : Option Addr) (n17 c17 : Nat), r = .slice A17 n17 c17 ∧
    ((Pure Tryz.prog 109 #[.bool b0, .slice A17 n17 c17] w19 fun r w23 => ∃ (b20 : Bool) (A21 : Option Addr) (n21 c21 : Nat), r = .agg #[.bool b20, .slice A21 n21 c21] ∧ cross2 B b1 A1 n1 c1 A0' n0' c0' (L b20 A21 n21 c21) [] w23) ∧
    ∀ w87, Ext B [] w19 w87 → Pure Tryz.prog 109 #[.bool b0, .slice A17 n17 c17] w87 fun r w91 => ∃ (b88 : Bool) (A89 : Option Addr) (n89 c89 : Nat), r = .agg #[.bool b88, .slice A89 n89 c89] ∧ cross2 B b1 A1 n1 c1 A0' n0' c0' (L b88 A89 n89 c89) [60] w91)) ∧
  (∀ w155, Ext B [] w w155 → Pure Tryz.prog 84 #[.slice A0 n0 c0, .slice A1' n1' c1'] w155 fun r w158 => ∃ (A156 : Option Addr) (n156 c156 : Nat), r = .slice A156 n156 c156 ∧
    (Pure Tryz.prog 109 #[.bool b0, .slice A156 n156 c156] w158 fun r w162 => ∃ (b159 : Bool) (A160 : Option Addr) (n160 c160 : Nat), r = .agg #[.bool b159, .slice A160 n160 c160] ∧ cross2 B b1 A1 n1 c1 A0' n0' c0' (L b159 A160 n160 c160) [60] w162))

theorem add_lt_pow {a b j : Nat} (ha : a < 10 ^ j) (hb : b < 10 ^ j) : a + b < 10 ^ (j + j + 1) := by
  have h4 : 10 ^ j ≤ 10 ^ (j + j) := Nat.pow_le_pow_right (by omega) (by omega)
  rw [Nat.pow_succ]
  omega
theorem sign_mul (p : Int) (d : Nat) : (if decide (p < 0) = true then -((p.natAbs * d : Nat) : Int) else ((p.natAbs * d : Nat) : Int)) = p * (d : Int) := by
  by_cases hp : p < 0
  · rw [if_pos (decide_eq_true hp)]
    have e : p = -(p.natAbs : Int) := by omega
    conv => rhs; rw [e]
    rw [Int.natCast_mul, Int.neg_mul]
  · rw [if_neg (by simp [hp])]
    have e : p = (p.natAbs : Int) := by omega
    conv => rhs; rw [e]
    simp
section
variable {B : Nat} {b0 b1 : Bool} {A0 A1 A0' A1' : Option Addr} {n0 c0 n1 c1 n0' c0' n1' c1' : Nat} {x y : Rat}
theorem zn : 106 ∉ [60] := by decide
theorem cross2_ok {w : World} {L : Bool → Option Addr → Nat → Nat → World → Prop} {K : World → Prop} {ts : List Nat} (ht : 106 ∉ ts) (hK : ∀ w w', K w → Below w.heap.size w w' → K w') (hKe : ∀ ts w w', 106 ∉ ts → K w → Ext B ts w w' → K w')
    (hx : IsQ w b0 A0 n0 c0 A0' n0' c0' x) (hy : IsQ w b1 A1 n1 c1 A1' n1' c1' y) (lx : x.den < Lim) (ly : y.num.natAbs < Lim) (hk : K w)
    (hL : ∀ b A n c w', IsZ w' b A n c (y.num * (x.den : Int)) → IsQ w' b0 A0 n0 c0 A0' n0' c0' x → IsQ w' b1 A1 n1 c1 A1' n1' c1' y → K w' → L b A n c w') : cross2 B b1 A1 n1 c1 A0' n0' c0' L ts w := by
  have make : ∀ (ts : List Nat) (w1 : World) (A : Option Addr) (n c : Nat), 106 ∉ ts → IsN w1 A n c (y.num.natAbs * x.den) → IsQ w1 b0 A0 n0 c0 A0' n0' c0' x → IsQ w1 b1 A1 n1 c1 A1' n1' c1' y → K w1 → crossT B b1 L ts A n c w1 := by
    intro ts w1 A n c ht k hx hy hk
    refine Pure.mono (ref2_Make b1 k) ?_
    rintro v w2 b2 ⟨b, A, n, c, rfl, q⟩
    refine ⟨_, _, _, _, rfl, fun w3 x3 => hL _ _ _ _ _ ?_ ((hx.below b2).ext x3 ht) ((hy.below b2).ext x3 ht) (hKe _ _ _ ht (hK _ _ hk b2) x3)⟩
    rw [hy.1.1, sign_mul] at q
    exact q.ext x3 ht
  refine ⟨fun w1 x1 => ?_, fun w1 x1 => ?_⟩
  · refine Pure.mono (ref_Times ((hy.ext x1 ht).1.2) ((hx.ext x1 ht).2) ly lx) ?_
    rintro v w2 b2 ⟨A, n, c, rfl, k, _⟩
    have hx2 := (hx.ext x1 ht).below b2
    have hy2 := (hy.ext x1 ht).below b2
    have hk2 := hK _ _ (hKe _ _ _ ht hk x1) b2
    exact ⟨_, _, _, rfl, make _ _ _ _ _ (by simp) k hx2 hy2 hk2, fun w3 x3 => make _ _ _ _ _ zn (k.ext x3 (by simp)) (hx2.ext x3 (by simp)) (hy2.ext x3 (by simp)) (hKe _ _ _ (by simp) hk2 x3)⟩
  · refine Pure.mono (ref_Times ((hy.ext x1 ht).1.2) ((hx.ext x1 ht).2) ly lx) ?_
    rintro v w2 b2 ⟨A, n, c, rfl, k, _⟩
    exact ⟨_, _, _, rfl, make _ _ _ _ _ zn k ((hx.ext x1 ht).below b2) ((hy.ext x1 ht).below b2) (hK _ _ (hKe _ _ _ ht hk x1) b2)⟩
theorem cross1_ok {w : World} {L : Bool → Option Addr → Nat → Nat → Bool → Option Addr → Nat → Nat → World → Prop}
    (hx : IsQ w b0 A0 n0 c0 A0' n0' c0' x) (hy : IsQ w b1 A1 n1 c1 A1' n1' c1' y) (lx : x.den < Lim) (ly : y.num.natAbs < Lim) (lx2 : x.num.natAbs < Lim) (ly2 : y.den < Lim)
    (hL : ∀ b A n c b' A' n' c' w', IsZ w' b A n c (x.num * (y.den : Int)) → IsZ w' b' A' n' c' (y.num * (x.den : Int)) → IsQ w' b0 A0 n0 c0 A0' n0' c0' x → IsQ w' b1 A1 n1 c1 A1' n1' c1' y → L b A n c b' A' n' c' w') : cross1 B b0 A0 n0 c0 A0' n0' c0' b1 A1 n1 c1 A1' n1' c1' L w := by
  have make : ∀ (ts : List Nat) (w1 : World) (A : Option Addr) (n c : Nat), 106 ∉ ts → IsN w1 A n c (x.num.natAbs * y.den) → IsQ w1 b0 A0 n0 c0 A0' n0' c0' x → IsQ w1 b1 A1 n1 c1 A1' n1' c1' y →
      Pure Tryz.prog 109 #[.bool b0, .slice A n c] w1 fun r w23 => ∃ (b20 : Bool) (A21 : Option Addr) (n21 c21 : Nat), r = .agg #[.bool b20, .slice A21 n21 c21] ∧ cross2 B b1 A1 n1 c1 A0' n0' c0' (L b20 A21 n21 c21) ts w23 := by
    intro ts w1 A n c ht k hx hy
    refine Pure.mono (ref2_Make b0 k) ?_
    rintro v w2 b2 ⟨b, A, n, c, rfl, q⟩
    rw [hx.1.1, sign_mul] at q
    exact ⟨_, _, _, _, rfl, cross2_ok (K := fun w' => IsZ w' b A n c (x.num * (y.den : Int))) ht (fun _ _ h hb => h.below hb) (fun _ _ _ ht h e => h.ext e ht) (hx.below b2) (hy.below b2) lx ly q fun b' A' n' c' w' k1 k2 k3 k4 => hL _ _ _ _ _ _ _ _ _ k4 k1 k2 k3⟩
  refine ⟨fun w1 x1 => ?_, fun w1 x1 => ?_⟩
  · refine Pure.mono (ref_Times ((hx.ext x1 (by simp)).1.2) ((hy.ext x1 (by simp)).2) lx2 ly2) ?_
    rintro v w2 b2 ⟨A, n, c, rfl, k, _⟩
    have hx2 := (hx.ext x1 (by simp)).below b2
    have hy2 := (hy.ext x1 (by simp)).below b2
    exact ⟨_, _, _, rfl, make _ _ _ _ _ (by simp) k hx2 hy2, fun w3 x3 => make _ _ _ _ _ zn (k.ext x3 (by simp)) (hx2.ext x3 (by simp)) (hy2.ext x3 (by simp))⟩
  · refine Pure.mono (ref_Times ((hx.ext x1 (by simp)).1.2) ((hy.ext x1 (by simp)).2) lx2 ly2) ?_
    rintro v w2 b2 ⟨A, n, c, rfl, k, _⟩
    exact ⟨_, _, _, rfl, make _ _ _ _ _ zn k ((hx.ext x1 (by simp)).below b2) ((hy.ext x1 (by simp)).below b2)⟩
end

theorem ref3_Cmp {w : World} {b0 b1 : Bool} {A0 A1 A0' A1' : Option Addr} {n0 c0 n1 c1 n0' c0' n1' c1' : Nat} {x y : Rat} (hx : IsQ w b0 A0 n0 c0 A0' n0' c0' x) (hy : IsQ w b1 A1 n1 c1 A1' n1' c1' y) (sx : Sm 100000 x) (sy : Sm 100000 y) :
    Pure Tryz.prog 87 #[.agg #[.bool b0, .slice A0 n0 c0, .slice A0' n0' c0'], .agg #[.bool b1, .slice A1 n1 c1, .slice A1' n1' c1']] w fun v _ => v = .int .i64 (cmpR x y) := by
  refine F.garboardref03_Cmp.vc _ _ _ _ _ _ _ _ _ _ _ _ _ _ _ _ fun w1 x1 => Pure.mono (ref3_Sign (hx.ext x1 (by decide))) ?_
  rintro v w2 b2 rfl
  refine ⟨_, rfl, Pure.mono (ref3_Sign ((hy.ext x1 (by decide)).below b2)) ?_⟩
  rintro v w3 b3 rfl
  have fx : (cmpR x 0 = -1 ∧ x < 0) ∨ (cmpR x 0 = 0 ∧ x = 0) ∨ (cmpR x 0 = 1 ∧ 0 < x) := by
    unfold cmpR
    split
    · rename_i h; exact .inl ⟨rfl, h⟩
    · split
      · rename_i h; exact .inr (.inr ⟨rfl, h⟩)
      · exact .inr (.inl ⟨rfl, by grind⟩)
  have fy : (cmpR y 0 = -1 ∧ y < 0) ∨ (cmpR y 0 = 0 ∧ y = 0) ∨ (cmpR y 0 = 1 ∧ 0 < y) := by
    unfold cmpR
    split
    · rename_i h; exact .inl ⟨rfl, h⟩
    · split
      · rename_i h; exact .inr (.inr ⟨rfl, h⟩)
      · exact .inr (.inl ⟨rfl, by grind⟩)
  refine ⟨_, rfl, fun hne => ⟨fun hlt => ?_, fun hge => ?_⟩, fun heq => ?_⟩
  · have h : x < y := by
      rcases fx with ⟨e1, h1⟩ | ⟨e1, h1⟩ | ⟨e1, h1⟩ <;> rcases fy with ⟨e2, h2⟩ | ⟨e2, h2⟩ | ⟨e2, h2⟩ <;> first | (exfalso; omega) | grind
    unfold cmpR
    rw [if_pos h]
  · have h : y < x := by
      rcases fx with ⟨e1, h1⟩ | ⟨e1, h1⟩ | ⟨e1, h1⟩ <;> rcases fy with ⟨e2, h2⟩ | ⟨e2, h2⟩ | ⟨e2, h2⟩ <;> first | (exfalso; omega) | grind
    unfold cmpR
    rw [if_neg (by grind), if_pos h]
  · have hx3 := ((hx.ext x1 (by decide)).below b2).below b3
    have hy3 := ((hy.ext x1 (by decide)).below b2).below b3
    refine cross1_ok (L := fun b12 A13 n13 c13 b20 A21 n21 c21 w24 => Pure Tryz.prog 111 #[.agg #[.bool b12, .slice A13 n13 c13], .agg #[.bool b20, .slice A21 n21 c21]] w24 fun r26 w27 => ∃ (i25 : Int), r26 = (.int .i64 i25) ∧ (.int .i64 i25 : Value) = .int .i64 (cmpR x y)) hx3 hy3 (lim_of sx.2 (by omega)) (lim_of sy.1 (by omega)) (lim_of sx.1 (by omega)) (lim_of sy.2 (by omega)) fun b A n c b' A' n' c' w' k1 k2 _ _ => ?_
    refine Pure.mono (ref2_Cmp k1 k2 (by rw [Int.natAbs_mul, Int.natAbs_natCast]; exact lim_of (mul_lt_pow sx.1 sy.2) (by omega)) (by rw [Int.natAbs_mul, Int.natAbs_natCast]; exact lim_of (mul_lt_pow sy.1 sx.2) (by omega))) ?_
    rintro v w4 _ rfl
    refine ⟨_, rfl, congrArg (Value.int .i64) ?_⟩
    have h1 := lt_cross x y
    have h2 := lt_cross y x
    unfold sgn cmpR
    by_cases h : x < y
    · rw [if_pos (h1.1 h), if_pos h]
    · rw [if_neg (fun k => h (h1.2 k)), if_neg h]
      by_cases h' : y < x
      · have := h2.1 h'
        rw [if_pos (by omega), if_pos h']
      · rw [if_neg (fun k => h' (h2.2 (by omega))), if_neg h']
theorem ref3_Less {w : World} {b0 b1 : Bool} {A0 A1 A0' A1' : Option Addr} {n0 c0 n1 c1 n0' c0' n1' c1' : Nat} {x y : Rat} (hx : IsQ w b0 A0 n0 c0 A0' n0' c0' x) (hy : IsQ w b1 A1 n1 c1 A1' n1' c1' y) (sx : Sm 100000 x) (sy : Sm 100000 y) :
    Pure Tryz.prog 38 #[.agg #[.bool b0, .slice A0 n0 c0, .slice A0' n0' c0'], .agg #[.bool b1, .slice A1 n1 c1, .slice A1' n1' c1']] w fun v _ => v = .bool (decide (x < y)) := by
  refine F.garboardref03_Less.vc _ _ _ _ _ _ _ _ _ _ _ _ _ _ _ _ fun w1 x1 => Pure.mono (ref3_Cmp (hx.ext x1 (by decide)) (hy.ext x1 (by decide)) sx sy) ?_
  rintro v w2 _ rfl
  refine ⟨_, rfl, congrArg Value.bool ?_⟩
  rw [decide_eq_decide, cmpR_lt]
theorem ref3_Add {w : World} {b0 b1 : Bool} {A0 A1 A0' A1' : Option Addr} {n0 c0 n1 c1 n0' c0' n1' c1' : Nat} {x y : Rat} (hx : IsQ w b0 A0 n0 c0 A0' n0' c0' x) (hy : IsQ w b1 A1 n1 c1 A1' n1' c1' y) (sx : Sm 100000 x) (sy : Sm 100000 y) :
    Pure Tryz.prog 86 #[.agg #[.bool b0, .slice A0 n0 c0, .slice A0' n0' c0'], .agg #[.bool b1, .slice A1 n1 c1, .slice A1' n1' c1']] w (QR (x + y)) := by
  have l1 := lim_of sx.1 (by omega)
  have l2 := lim_of sy.1 (by omega)
  have l3 := lim_of sx.2 (by omega)
  have l4 := lim_of sy.2 (by omega)
  refine F.garboardref03_Add.vc _ _ _ _ _ _ _ _ _ _ _ _ _ _ _ _ fun w1 x1 => Pure.mono (ref_Cmp (hx.ext x1 (by decide)).2 (hy.ext x1 (by decide)).2 l3 l4) ?_
  rintro v w2 b2 rfl
  have hx2 := (hx.ext x1 (by decide)).below b2
  have hy2 := (hy.ext x1 (by decide)).below b2
  refine ⟨_, rfl, fun h w3 x3 => ?_, fun h => ?_⟩
  · have hd : x.den = y.den := by
      simp only [cmpI] at h
      split at h
      · omega
      · split at h <;> omega
    have hs : (x.num + y.num).natAbs < Lim := lim_of (Nat.lt_of_le_of_lt (Int.natAbs_add_le x.num y.num) (add_lt_pow sx.1 sy.1)) (by omega)
    refine Pure.mono (ref2_Plus (hx2.ext x3 (by decide)).1 (hy2.ext x3 (by decide)).1 l1 l2) ?_
    rintro v w4 b4 ⟨b, A, n, c, rfl, k⟩
    refine ⟨_, _, _, _, rfl, Pure.mono (ref3_lowest k ((hx2.ext x3 (by decide)).below b4).2 x.den_nz hs l3) ?_⟩
    rintro v w5 b5 ⟨b, A, n, c, A', n', c', rfl, q⟩
    refine ⟨_, _, _, _, _, _, _, rfl, fun w6 x6 => ⟨_, _, _, _, _, _, _, rfl, ?_⟩⟩
    rw [add_same hd]
    exact q.ext x6 (by decide)
  · refine cross1_ok (L := fun b20 A21 n21 c21 b28 A29 n29 c29 w32 => Pure Tryz.prog 110 #[.agg #[.bool b20, .slice A21 n21 c21], .agg #[.bool b28, .slice A29 n29 c29]] w32 fun r35 w36 => ∃ (b33 : Bool) (A34 : Option Addr) (n34 c34 : Nat), r35 = (.agg #[(.bool b33), (.slice A34 n34 c34)]) ∧
      (Pure Tryz.prog 84 #[(.slice A0' n0' c0'), (.slice A1' n1' c1')] w36 fun r38 w39 => ∃ (A37 : Option Addr) (n37 c37 : Nat), r38 = (.slice A37 n37 c37) ∧ (Pure Tryz.prog 82 #[(.agg #[(.bool b33), (.slice A34 n34 c34)]), (.slice A37 n37 c37)] w39 fun r43 w44 => ∃ (b40 : Bool) (A41 : Option Addr) (n41 c41 : Nat) (A42 : Option Addr) (n42 c42 : Nat), r43 = (.agg #[(.bool b40), (.slice A41 n41 c41), (.slice A42 n42 c42)]) ∧ (∀ w45, Ext w.heap.size [62] w44 w45 → (QR (x + y) (.agg #[(.bool b40), (.slice A41 n41 c41), (.slice A42 n42 c42)]) w45))))) hx2 hy2 l3 l2 l1 l4 fun b A n c b' A' n' c' w' k1 k2 k3 k4 => ?_
    refine Pure.mono (ref2_Plus k1 k2 (by rw [Int.natAbs_mul, Int.natAbs_natCast]; exact lim_of (mul_lt_pow sx.1 sy.2) (by omega)) (by rw [Int.natAbs_mul, Int.natAbs_natCast]; exact lim_of (mul_lt_pow sy.1 sx.2) (by omega))) ?_
    rintro v w4 b4 ⟨b, A, n, c, rfl, k⟩
    refine ⟨_, _, _, _, rfl, Pure.mono (ref_Times (k3.below b4).2 (k4.below b4).2 l3 l4) ?_⟩
    rintro v w5 b5 ⟨A', n', c', rfl, k', _⟩
    refine ⟨_, _, _, rfl, Pure.mono (ref3_lowest (k.below b5) k' (den_mul_ne x y) (lim_of (add_num_lt sx sy) (by omega)) (lim_of (den_mul_lt sx sy) (by omega))) ?_⟩
    rintro v w6 b6 ⟨b, A, n, c, A', n', c', rfl, q⟩
    refine ⟨_, _, _, _, _, _, _, rfl, fun w7 x7 => ⟨_, _, _, _, _, _, _, rfl, ?_⟩⟩
    rw [Rat.add_def']
    exact q.ext x7 (by decide)
theorem ref3_Sub {w : World} {b0 b1 : Bool} {A0 A1 A0' A1' : Option Addr} {n0 c0 n1 c1 n0' c0' n1' c1' : Nat} {x y : Rat} (hx : IsQ w b0 A0 n0 c0 A0' n0' c0' x) (hy : IsQ w b1 A1 n1 c1 A1' n1' c1' y) (sx : Sm 100000 x) (sy : Sm 100000 y) :
    Pure Tryz.prog 37 #[.agg #[.bool b0, .slice A0 n0 c0, .slice A0' n0' c0'], .agg #[.bool b1, .slice A1 n1 c1, .slice A1' n1' c1']] w (QR (x - y)) := by
  refine F.garboardref03_Sub.vc _ _ _ _ _ _ _ _ _ _ _ _ _ _ _ _ fun w1 x1 => Pure.mono (ref3_Neg (hy.ext x1 (by decide))) ?_
  rintro v w2 b2 ⟨b, A, n, c, A', n', c', rfl, q⟩
  refine ⟨_, _, _, _, _, _, _, rfl, Pure.mono (ref3_Add ((hx.ext x1 (by decide)).below b2) q sx sy.neg) ?_⟩
  rintro v w3 b3 ⟨b, A, n, c, A', n', c', rfl, q⟩
  refine ⟨_, _, _, _, _, _, _, rfl, fun w4 x4 => ⟨_, _, _, _, _, _, _, rfl, ?_⟩⟩
  rw [Rat.sub_eq_add_neg]
  exact q.ext x4 (by decide)
end Go.Proofs.YtdoailkigecmkaaGreatDoor.B

namespace Go.Proofs.YtdoailkigecmkaaGreatDoor.B
open Go Go.RowKit Go.Proofs Go.Proofs.YtdoailkigecmkaaGreatDoor.Vc

theorem split_at {l : Tx} {i : Nat} (h : l[i]? = some 47) (hn : 47 ∉ l.take i) : bef l = l.take i ∧ aft l = l.drop (i + 1) := by
  obtain ⟨hi, e⟩ := List.getElem?_eq_some_iff.1 h
  have e1 : l = l.take i ++ 47 :: l.drop (i + 1) := by rw [← e, ← List.drop_eq_getElem_cons hi, List.take_append_drop]
  constructor
  · conv => lhs; rw [e1]
    exact bef_app hn
  · conv => lhs; rw [e1]
    exact aft_app hn
theorem split_loop {B : Nat} {w : World} (s : ByteArray) (hs : s.size < 2147483648) {R : Value → World → Prop} (h1 : 47 ∈ by_ s → ∀ w1, Ext B [] w w1 → R (.tuple #[.string (st (bef (by_ s))), .string (st (aft (by_ s))), .bool true]) w1) (h2 : 47 ∉ by_ s → R (.tuple #[.string s, .string ⟨#[49]⟩, .bool false]) w) :
    ∀ (d i : Nat), s.size - i = d → i ≤ s.size → 47 ∉ (by_ s).take i → F.garboardref03_split.L2 s i B w R := by
  intro d
  induction d with
  | zero =>
    intro i hd hi hn
    rw [List.take_of_length_le (by rw [← size_by]; omega)] at hn
    exact F.garboardref03_split.L2.step _ _ _ _ _ ⟨fun h => by omega, fun _ => h2 hn⟩
  | succ d ih =>
    intro i hd hi hn
    obtain ⟨c, hc, hb, hdr⟩ := bt_get (s := s) (i := (i : Int)) (by omega) (by omega)
    rw [Int.toNat_natCast] at hc
    have hil : i < (by_ s).length := by rw [← size_by]; omega
    refine F.garboardref03_split.L2.step _ _ _ _ _ ⟨fun _ => ⟨⟨by omega, by omega⟩, fun h => ⟨⟨by omega, by omega⟩, by simp only [inR]; omega, ⟨by omega, by omega⟩, fun w1 x1 => ?_⟩, fun h => ⟨by simp only [inR]; omega, ?_⟩⟩, fun h => by omega⟩
    · rw [hb] at h
      have hc47 : c = 47 := UInt8.toNat_inj.1 (show c.toNat = 47 by omega)
      subst hc47
      obtain ⟨q1, q2⟩ := split_at hc hn
      have e1 : ByteArray.extract s 0 ((i : Int)).toNat = st (bef (by_ s)) := by
        apply by_inj
        rw [by_extract, by_st, q1, Int.toNat_natCast]
        rfl
      have e2 : ByteArray.extract s ((i : Int) + 1).toNat s.size = st (aft (by_ s)) := by
        apply by_inj
        rw [by_extract, by_st, q2, List.take_of_length_le (by rw [size_by]; omega), show ((i : Int) + 1).toNat = i + 1 by omega]
      rw [e1, e2]
      exact h1 (List.mem_of_getElem? hc) w1 x1
    · have e3 : (i : Int) + 1 = ((i + 1 : Nat) : Int) := by omega
      rw [e3]
      refine ih (i + 1) (by omega) (by omega) ?_
      rw [List.take_add_one, hc]
      simp only [Option.toList_some, List.mem_append, List.mem_singleton, not_or]
      refine ⟨hn, fun e => h ?_⟩
      rw [hb, ← e]
      rfl
theorem ref3_split (s : ByteArray) (hs : s.size < 2147483648) (w : World) : Pure Tryz.prog 73 #[.string s] w fun v _ => (47 ∈ by_ s → v = .tuple #[.string (st (bef (by_ s))), .string (st (aft (by_ s))), .bool true]) ∧ (47 ∉ by_ s → v = .tuple #[.string s, .string ⟨#[49]⟩, .bool false]) :=
  F.garboardref03_split.vc _ _ _ (split_loop s hs (fun h _ _ => ⟨fun _ => rfl, fun k => absurd h k⟩) (fun h => ⟨fun k => absurd k h, fun _ => rfl⟩) s.size 0 (by omega) (by omega) (by simp))

theorem bef_len (t : Tx) : (bef t).length ≤ t.length := (List.takeWhile_sublist _).length_le
theorem aft_len (t : Tx) : (aft t).length ≤ t.length := by
  unfold aft
  have := (List.dropWhile_sublist (p := (· != 47)) (l := t)).length_le
  rw [List.length_tail]
  omega
theorem lt_valD {t : Tx} (h : isNat t = true) : valD t < 10 ^ t.length := by
  have := lt_natT (valD t)
  rwa [natT_of h] at this
theorem lt_valI {t : Tx} (h : isInt t = true) : (valI t).natAbs < 10 ^ t.length := by
  have := lt_intT (valI t)
  rwa [intT_of h] at this

theorem ref3_From (s : ByteArray) (hs : SmS s) (w : World) : Pure Tryz.prog 34 #[.string s] w fun v w' => ∃ b A n c A' n' c', v = .tuple #[.agg #[.bool b, .slice A n c, .slice A' n' c'], .bool (vR s)] ∧ (vR s = true → IsQ w' b A n c A' n' c' (qR s)) := by
  have hs' : s.size ≤ 1000 := hs
  have hsl := size_by s
  have inv : vR s = false → ∀ w1, Pure Tryz.prog 36 #[.int .i64 (0 : Int)] w1 fun r13 w14 => ∃ (b10 : Bool) (A11 : Option Addr) (n11 c11 : Nat) (A12 : Option Addr) (n12 c12 : Nat), r13 = (.agg #[(.bool b10), (.slice A11 n11 c11), (.slice A12 n12 c12)]) ∧ (∀ w15, Ext w.heap.size [62] w14 w15 →
      (∃ b A n c A' n' c', (.tuple #[(.agg #[(.bool b10), (.slice A11 n11 c11), (.slice A12 n12 c12)]), (.bool false)] : Value) = .tuple #[.agg #[.bool b, .slice A n c, .slice A' n' c'], .bool (vR s)] ∧ (vR s = true → IsQ w15 b A n c A' n' c' (qR s)))) := by
    intro hv w1
    refine Pure.mono (ref3_Int (z := 0) (by decide)) ?_
    rintro v w2 _ ⟨b, A, n, c, A', n', c', rfl, _⟩
    exact ⟨_, _, _, _, _, _, _, rfl, fun w3 _ => ⟨_, _, _, _, _, _, _, by rw [hv], fun k => by rw [hv] at k; cases k⟩⟩
  refine F.garboardref03_From.vc _ _ _ fun w1 x1 => Pure.mono (ref3_split s (by omega) w1) ?_
  rintro v w2 b2 ⟨hsl1, hsl2⟩
  by_cases h47 : 47 ∈ by_ s
  · have hv := hsl1 h47
    subst hv
    have lb := bef_len (by_ s)
    have la := aft_len (by_ s)
    have hrat : vR s = (isInt (bef (by_ s)) && bef (by_ s) != [48] && isNat (aft (by_ s)) && aft (by_ s) != [48] && aft (by_ s) != [49] && Nat.gcd (valI (bef (by_ s))).natAbs (valD (aft (by_ s))) == 1) := by
      unfold vR isRat
      rw [if_pos h47]
    refine ⟨_, _, _, rfl, Pure.mono (ref2_Valid (st (bef (by_ s))) (by rw [size_by, by_st]; omega) w2) ?_⟩
    rintro v w3 b3 rfl
    rw [by_st]
    refine ⟨_, rfl, fun h1 => inv (by rw [hrat, h1]; rfl) w3, fun h1 => ?_⟩
    have h1 : isInt (bef (by_ s)) = true := by simpa using h1
    refine Pure.mono (ref_Valid (st (aft (by_ s))) (by rw [size_by, by_st]; omega) w3) ?_
    rintro v w4 b4 rfl
    rw [by_st]
    refine ⟨_, rfl, fun h2 => inv (by rw [hrat, h2]; simp) w4, fun h2 => ?_⟩
    have h2 : isNat (aft (by_ s)) = true := by simpa using h2
    refine Pure.mono (ref2_Read (s := st (bef (by_ s))) (by rw [size_by, by_st]; omega) h1 w4) ?_
    rintro v w5 b5 ⟨b, A, n, c, rfl, kp⟩
    rw [by_st] at kp
    refine ⟨_, _, _, _, rfl, Pure.mono (ref_From (s := st (aft (by_ s))) (by rw [size_by, by_st]; omega) h2) ?_⟩
    rintro v w6 b6 ⟨A', n', c', rfl, kd⟩
    rw [by_st] at kd
    have kp6 := kp.below b6
    obtain ⟨p, hp⟩ : ∃ p, p = valI (bef (by_ s)) := ⟨_, rfl⟩
    obtain ⟨d, hd⟩ : ∃ d, d = valD (aft (by_ s)) := ⟨_, rfl⟩
    have lp : p.natAbs < Lim := by rw [hp]; exact lim_of (lt_valI h1) (by omega)
    have ld : d < Lim := by rw [hd]; exact lim_of (lt_valD h2) (by omega)
    have l1 : 1 < Lim := lim_of (k := 1) (by decide) (by omega)
    rw [← hp] at kp6 hrat
    rw [← hd] at kd hrat
    rw [h1, h2] at hrat
    have np : (bef (by_ s) != [48]) = decide (p ≠ 0) := by
      rw [hp]
      have e := intT_of h1
      by_cases h0 : valI (bef (by_ s)) = 0
      · rw [h0] at e ⊢
        rw [← e]
        decide +kernel
      · have : bef (by_ s) ≠ [48] := fun k => h0 (intT_zero_iff.1 (by rw [e]; exact k))
        rw [decide_eq_true h0]
        simpa using this
    have nd : (aft (by_ s) != [48] && aft (by_ s) != [49]) = decide (1 < d) := by
      rw [hd]
      have e := natT_of h2
      by_cases h0 : 1 < valD (aft (by_ s))
      · rw [decide_eq_true h0]
        have k0 : aft (by_ s) ≠ [48] := fun k => by
          have := natT_zero_iff.1 (e.trans k)
          omega
        have k1 : aft (by_ s) ≠ [49] := fun k => by
          have := natT_one_iff.1 (e.trans k)
          omega
        simp [k0, k1]
      · rw [decide_eq_false h0]
        rcases (by omega : valD (aft (by_ s)) = 0 ∨ valD (aft (by_ s)) = 1) with k | k
        · rw [k, natT_0] at e; rw [← e]; rfl
        · rw [k, natT_1] at e; rw [← e]; rfl
    have hrat2 : vR s = (decide (p ≠ 0) && decide (1 < d) && (Nat.gcd p.natAbs d == 1)) := by
      rw [hrat, np, ← nd]
      simp [Bool.and_assoc]
    refine ⟨_, _, _, rfl, fun h => absurd h (by decide), fun _ w7 x7 => Pure.mono (ref_Small (x := 1) (by omega)) ?_⟩
    rintro v w8 b8 ⟨A1, n1, c1, rfl, k1⟩
    have kp8 := (kp6.ext x7 (by decide)).below b8
    have kd8 := (kd.ext x7 (by decide)).below b8
    refine ⟨_, _, _, rfl, Pure.mono (ref_Cmp kd8 k1 ld l1) ?_⟩
    rintro v w9 b9 rfl
    refine ⟨_, rfl, fun hc => ?_, fun hc => inv ?_ w9⟩
    · have hd1 : 1 < d := by
        simp only [cmpI] at hc
        split at hc
        · omega
        · split at hc <;> omega
      refine Pure.mono (ref2_Signum (kp8.below b9)) ?_
      rintro v w10 b10 rfl
      refine ⟨_, rfl, fun hg => ?_, fun hg => inv ?_ w10⟩
      · have hp0 : p ≠ 0 := fun k => hg (by rw [k]; rfl)
        refine Pure.mono (ref_Common ((kp8.below b9).below b10).2 ((kd8.below b9).below b10) lp ld) ?_
        rintro v w11 b11 ⟨A2, n2, c2, rfl, kg⟩
        have lg : Nat.gcd p.natAbs d < Lim := Nat.lt_of_le_of_lt (Nat.le_of_dvd (by omega) (Nat.gcd_dvd_right _ _)) ld
        refine ⟨_, _, _, rfl, Pure.mono (ref_Cmp kg (((k1.below b9).below b10).below b11) lg l1) ?_⟩
        rintro v w12 b12 rfl
        refine ⟨_, rfl, fun hne => inv ?_ w12, fun he w13 x13 => ?_⟩
        · have : Nat.gcd p.natAbs d ≠ 1 := fun k => hne (by rw [k]; rfl)
          rw [hrat2]
          have : (Nat.gcd p.natAbs d == 1) = false := by simpa using this
          rw [this, Bool.and_false]
        · have hg1 : Nat.gcd p.natAbs d = 1 := by
            have he := Decidable.not_not.1 he
            simp only [cmpI] at he
            split at he
            · omega
            · split at he <;> omega
          have hT : vR s = true := by rw [hrat2, decide_eq_true hp0, decide_eq_true hd1, hg1]; rfl
          refine ⟨_, _, _, _, _, _, _, by rw [hT], fun _ => ?_⟩
          have eq : qR s = mkRat p d := by
            unfold qR valR
            rw [if_pos h47, hp, hd]
          obtain ⟨en, ed⟩ := mkRat_red (p := p) (show d ≠ 0 by omega)
          rw [hg1] at en ed
          rw [eq]
          refine ⟨?_, ?_⟩
          · rw [show (mkRat p d).num = p by rw [en]; simp]
            exact ((((kp8.below b9).below b10).below b11).below b12).ext x13 (by decide)
          · rw [show (mkRat p d).den = d by rw [ed]; simp]
            exact ((((kd8.below b9).below b10).below b11).below b12).ext x13 (by decide)
      · have : p = 0 := by
          have hg := Decidable.not_not.1 hg
          unfold sgn at hg
          split at hg
          · omega
          · split at hg <;> omega
        rw [hrat2, this]
        rfl
    · have : ¬ 1 < d := by
        intro k
        apply hc
        simp only [cmpI]
        rw [if_neg (by omega), if_pos (by omega)]
        decide
      rw [hrat2, decide_eq_false this, Bool.and_false, Bool.false_and]
  · have hv := hsl2 h47
    subst hv
    have hrat : vR s = isInt (by_ s) := by
      unfold vR isRat
      rw [if_neg h47]
    refine ⟨_, _, _, rfl, Pure.mono (ref2_Valid s (by omega) w2) ?_⟩
    rintro v w3 b3 rfl
    refine ⟨_, rfl, fun h1 => inv (by rw [hrat, h1]) w3, fun h1 => ?_⟩
    have h1 : isInt (by_ s) = true := by simpa using h1
    refine Pure.mono (ref_Valid ⟨#[49]⟩ (by decide) w3) ?_
    rintro v w4 b4 rfl
    refine ⟨_, rfl, fun h => absurd h (by decide), fun _ => ?_⟩
    refine Pure.mono (ref2_Read (s := s) (by omega) h1 w4) ?_
    rintro v w5 b5 ⟨b, A, n, c, rfl, kp⟩
    refine ⟨_, _, _, _, rfl, Pure.mono (ref_From (s := ⟨#[49]⟩) (by decide) (by decide)) ?_⟩
    rintro v w6 b6 ⟨A', n', c', rfl, kd⟩
    have kp6 := kp.below b6
    refine ⟨_, _, _, rfl, fun _ w7 x7 => ⟨_, _, _, _, _, _, _, by rw [hrat, h1], fun _ => ?_⟩, fun h => absurd rfl h⟩
    have eq : qR s = (valI (by_ s) : Rat) := by
      unfold qR valR
      rw [if_neg h47]
    rw [eq]
    exact ⟨kp6.ext x7 (by decide), kd.ext x7 (by decide)⟩
end Go.Proofs.YtdoailkigecmkaaGreatDoor.B

namespace Go.Proofs.YtdoailkigecmkaaGreatDoor.B
open Go Go.RowKit Go.Proofs Go.Proofs.YtdoailkigecmkaaGreatDoor.Vc

abbrev goodB (x : Va) : Bool := decide (x.qual = 1)
theorem ins_perm (x : Rat) (l : List Rat) : (ins x l).Perm (x :: l) := by
  unfold ins
  refine List.perm_middle.trans ?_
  rw [List.take_append_drop]
theorem foldl_perm : ∀ (v : List Va) (l : List Rat), (v.foldl stepF l).Perm ((v.filter goodB).map (fun x => qR x.num) ++ l) := by
  intro v
  induction v with
  | nil => intro l; exact .refl _
  | cons x r ih =>
    intro l
    refine (ih (stepF l x)).trans ?_
    unfold stepF
    by_cases h : x.qual = 1
    · rw [if_pos h, List.filter_cons_of_pos (by simpa using h), List.map_cons, List.cons_append]
      exact ((ins_perm _ _).append_left _).trans List.perm_middle
    · rw [if_neg h, List.filter_cons_of_neg (by simpa using h)]
theorem srtF_perm (v : List Va) : (srtF v).Perm ((v.filter goodB).map fun x => qR x.num) := by
  have := foldl_perm v []
  rwa [List.append_nil] at this
theorem Srt.pair {l : List Rat} (h : Srt l) : l.Pairwise (· ≤ ·) := by
  rw [List.pairwise_iff_getElem]
  intro i j hi hj hij
  exact h i j _ _ (by omega) (List.getElem?_eq_getElem hi) (List.getElem?_eq_getElem hj)
theorem srtF_reverse (v : List Va) : srtF v.reverse = srtF v := by
  refine List.Perm.eq_of_pairwise (le := (· ≤ ·)) (fun a b _ _ h1 h2 => Rat.le_antisymm h1 h2) (srt_srtF _).pair (srt_srtF _).pair ?_
  refine (srtF_perm _).trans (.trans ?_ (srtF_perm v).symm)
  rw [List.filter_reverse, List.map_reverse]
  exact List.reverse_perm _
theorem voteF_reverse (v : List Va) (tol : ByteArray) : voteF v.reverse tol = voteF v tol := by
  unfold voteF midF
  rw [srtF_reverse, List.any_reverse, List.length_reverse]
theorem voteF_bad {v : List Va} {tol : ByteArray} (h : (voteF v tol).2.2 ≠ 0) : (voteF v tol).1 = ⟨#[]⟩ ∧ (voteF v tol).2.1 = false := by
  unfold voteF at h ⊢
  split
  · split
    · exact ⟨rfl, rfl⟩
    · rename_i h1 h2
      rw [if_pos h1, if_neg h2] at h
      cases hm : midF v with
      | none => exact ⟨rfl, rfl⟩
      | some m => rw [hm] at h; exact absurd rfl h
  · exact ⟨rfl, rfl⟩
theorem voteF_ok {v : List Va} {tol : ByteArray} (h : (voteF v tol).2.2 = 0) : (∀ x ∈ v, vR x.num = true) ∧ v.length ≤ 16 ∧ ∃ m, midF v = some m ∧ (voteF v tol).1 = rS m := by
  unfold voteF at h ⊢
  split at h
  · rename_i h1
    rw [if_pos h1]
    split at h
    · cases h
    · rename_i h2
      rw [if_neg h2]
      refine ⟨fun x hx => ?_, by omega, ?_⟩
      · have := List.any_eq_false.1 h1.2.2 x hx
        simpa using this
      · cases hm : midF v with
        | none => rw [hm] at h; cases h
        | some m => exact ⟨m, rfl, rfl⟩
  · cases h
theorem count_le {l : List Rat} (hs : Srt l) {k : Nat} {m : Rat} (hk : l[k]? = some m) : k + 1 ≤ l.countP (fun a => !decide (m < a)) ∧ l.length - k ≤ l.countP (fun a => !decide (a < m)) := by
  have hkl := (List.getElem?_eq_some_iff.1 hk).1
  constructor
  · have e : l.countP (fun a => !decide (m < a)) = (l.take (k + 1)).countP (fun a => !decide (m < a)) + (l.drop (k + 1)).countP (fun a => !decide (m < a)) := by rw [← List.countP_append, List.take_append_drop]
    have h1 : (l.take (k + 1)).countP (fun a => !decide (m < a)) = (l.take (k + 1)).length := by
      rw [List.countP_eq_length]
      intro a ha
      obtain ⟨i, hi, rfl⟩ := List.mem_iff_getElem.1 ha
      rw [List.length_take] at hi
      have := hs i k _ m (by omega) (List.getElem?_eq_getElem (by omega)) hk
      rw [List.getElem_take]
      simpa using Rat.not_lt.2 this
    rw [h1, List.length_take] at e
    omega
  · have e : l.countP (fun a => !decide (a < m)) = (l.take k).countP (fun a => !decide (a < m)) + (l.drop k).countP (fun a => !decide (a < m)) := by rw [← List.countP_append, List.take_append_drop]
    have h1 : (l.drop k).countP (fun a => !decide (a < m)) = (l.drop k).length := by
      rw [List.countP_eq_length]
      intro a ha
      obtain ⟨i, hi, rfl⟩ := List.mem_iff_getElem.1 ha
      rw [List.length_drop] at hi
      have := hs k (k + i) m _ (by omega) hk (List.getElem?_eq_getElem (by omega))
      rw [List.getElem_drop]
      simpa using Rat.not_lt.2 this
    rw [h1, List.length_drop] at e
    omega
theorem count_good (v : List Va) (p : Rat → Bool) : v.countP (fun x => p (qR x.num) && goodB x) = (srtF v).countP p := by
  rw [(srtF_perm v).countP_eq, List.countP_map, List.countP_filter]
  rfl
theorem middle_counts {v : List Va} {m : Rat} (hm : midF v = some m) :
    v.countP goodB ≤ 2 * v.countP (fun x => !decide (m < qR x.num) && goodB x) ∧ v.countP goodB ≤ 2 * v.countP (fun x => !decide (qR x.num < m) && goodB x) := by
  unfold midF at hm
  have hl := (List.getElem?_eq_some_iff.1 hm).1
  obtain ⟨h1, h2⟩ := count_le (srt_srtF v) hm
  have h3 : v.countP goodB = (srtF v).length := by
    have := (srtF_perm v).length_eq
    rw [List.length_map, ← List.countP_eq_length_filter] at this
    exact this.symm
  rw [h3, count_good v (fun a => !decide (m < a)), count_good v (fun a => !decide (a < m))]
  omega

theorem reverse_loop {B : Nat} {A : Option Addr} {n c : Nat} {v : List Va} (hlen : v.length = n) (hn : n ≤ 1000000) {R : Value → World → Prop}
    (hR : ∀ w, OwnR w B 46 A n c 4 (v.reverse.map Va.row) → R (.tuple #[]) w) :
    ∀ (d i : Nat) (w : World) (u : List Va), n - 2 * i = d → 2 * i ≤ n + 1 → OwnR w B 46 A n c 4 (u.map Va.row) → (∀ k, k < n → u[k]? = if k < i ∨ n ≤ k + i then v[n - 1 - k]? else v[k]?) →
      F.slices_Reverse_api_Value_api_Value.L1 A n c i ((n : Int) - 1 - i) B w R := by
  intro d
  induction d using Nat.strongRecOn with
  | _ d ih =>
    intro i w u hd hi ho hu
    have hul : u.length = n := by have := ho.len; simpa using this
    by_cases h : (i : Int) < (n : Int) - 1 - i
    · have hi' : i < u.length := by omega
      have hj' : n - 1 - i < u.length := by omega
      have ej : ((n : Int) - 1 - i).toNat = n - 1 - i := by omega
      obtain ⟨hb, a, hA, hrow⟩ := ho.sl.load (n := n) ho.len (j := (n : Int) - 1 - i) (by omega) (by omega)
      obtain ⟨hcell, _⟩ := hrow u[n - 1 - i].row (by rw [ej]; simp [hj']) rfl
      obtain ⟨hb2, a2, hA2, hrow2⟩ := ho.sl.load (n := n) ho.len (j := (i : Int)) (by omega) (by omega)
      obtain ⟨hcell2, _⟩ := hrow2 u[i].row (by rw [Int.toNat_natCast]; simp [hi']) rfl
      refine F.slices_Reverse_api_Value_api_Value.L1.step _ _ _ _ _ _ _ _ ⟨fun _ => ⟨hb, a, hA, _, _, _, _, hcell, hb2, a2, hA2, _, _, _, _, hcell2, hb2, a2, hA2, fun w2 x2 => ?_⟩, fun k => absurd h k⟩
      have o2 := ho.extNil x2
      obtain ⟨_, a3, hA3, cs, d1, d2, d3, d4, d5⟩ := o2.set0 (i := (i : Int)) (by omega) (by omega) u[n - 1 - i].row u[i].row (by rw [Int.toNat_natCast]; simp [hi']) rfl
      have ea : a2 = a3 := by rw [hA2] at hA3; cases hA3; rfl
      subst ea
      refine ⟨cs, _, d1, d2, d3, d4, rfl, fun w3 hw3 => ?_⟩
      have o3 := d5 w3 hw3
      rw [Int.toNat_natCast, ← List.map_set] at o3
      have hj3 : n - 1 - i < (u.set i u[n - 1 - i]).length := by rw [List.length_set]; omega
      obtain ⟨hb4, a4, hA4, cs4, e1, e2, e3, e4, e5⟩ := o3.set0 (i := (n : Int) - 1 - i) (by omega) (by omega) u[i].row ((u.set i u[n - 1 - i])[n - 1 - i]).row (by rw [ej, List.getElem?_map, List.getElem?_eq_getElem hj3]; rfl) rfl
      refine ⟨hb4, a4, hA4, cs4, _, e1, e2, e3, e4, rfl, fun w4 hw4 => ⟨by simp only [inR]; omega, by simp only [inR]; omega, ?_⟩⟩
      have o4 := e5 w4 hw4
      rw [ej, ← List.map_set] at o4
      have ei : (i : Int) + 1 = ((i + 1 : Nat) : Int) := by omega
      have ejj : (n : Int) - 1 - (i : Int) - 1 = (n : Int) - 1 - ((i + 1 : Nat) : Int) := by omega
      rw [ejj, ei]
      refine ih (n - 2 * (i + 1)) (by omega) (i + 1) w4 _ rfl (by omega) o4 fun k hk => ?_
      have hui := hu i (by omega)
      have huj := hu (n - 1 - i) (by omega)
      rw [if_neg (by omega)] at hui huj
      rw [List.getElem?_eq_getElem hi'] at hui
      rw [List.getElem?_eq_getElem hj'] at huj
      by_cases k1 : k = n - 1 - i
      · subst k1
        rw [List.getElem?_set_self (by rw [List.length_set]; omega), if_pos (by omega), hui]
        congr 1
        omega
      · rw [List.getElem?_set_ne (by omega)]
        by_cases k2 : k = i
        · subst k2
          rw [List.getElem?_set_self (by omega), if_pos (by omega), huj]
        · rw [List.getElem?_set_ne (by omega), hu k hk]
          by_cases k3 : k < i ∨ n ≤ k + i
          · rw [if_pos k3, if_pos (by omega)]
          · rw [if_neg k3, if_neg (by omega)]
    · refine F.slices_Reverse_api_Value_api_Value.L1.step _ _ _ _ _ _ _ _ ⟨fun k => absurd k h, fun _ => hR w ?_⟩
      have e : u = v.reverse := by
        refine List.ext_getElem? fun k => ?_
        by_cases hk : k < n
        · rw [hu k hk, List.getElem?_reverse (by omega), hlen]
          by_cases k3 : k < i ∨ n ≤ k + i
          · rw [if_pos k3]
          · rw [if_neg k3]
            congr 1
            omega
        · rw [List.getElem?_eq_none (by omega), List.getElem?_eq_none (by rw [List.length_reverse]; omega)]
      rw [← e]
      exact ho
theorem slices_ReverseV {w : World} {B : Nat} (hB : B ≤ w.heap.size) {A : Option Addr} {n c : Nat} {v : List Va} (hlen : v.length = n) (hn : n ≤ 1000000) (ho : OwnR w B 46 A n c 4 (v.map Va.row)) :
    PureB Tryz.prog 41 #[.slice A n c] B w fun y w' => y = .tuple #[] ∧ OwnR w' B 46 A n c 4 (v.reverse.map Va.row) := by
  refine F.slices_Reverse_api_Value_api_Value.vcB _ _ _ _ _ hB _ ⟨by simp only [inR]; omega, ?_⟩
  have := reverse_loop (B := B) (A := A) (c := c) hlen hn (R := fun y w' => y = .tuple #[] ∧ OwnR w' B 46 A n c 4 (v.reverse.map Va.row)) (fun w' ho => ⟨rfl, ho⟩) n 0 w v (by omega) (by omega) ho fun k hk => by rw [if_neg (by omega)]
  simpa using this

theorem law_less {a b : ByteArray} (ha : SmS a) (hb : SmS b) (w : World) : Pure Tryz.prog 33 #[.string a, .string b] w fun y _ => y = .bool (vR a && (vR b && decide (qR a < qR b))) := by
  refine F.garboardlaw55_less.vc _ _ _ _ (Pure.mono (ref3_From a ha w) ?_)
  rintro v w2 b2 ⟨b0, A0, n0, c0, A0', n0', c0', rfl, k0⟩
  refine ⟨_, _, _, _, _, _, _, _, rfl, fun w3 x3 => Pure.mono (ref3_From b hb w3) ?_⟩
  rintro v w4 b4 ⟨b1, A1, n1, c1, A1', n1', c1', rfl, k1⟩
  refine ⟨_, _, _, _, _, _, _, _, rfl, fun h0 => ⟨fun h1 w5 x5 => ?_, fun h1 w5 _ => by rw [h0, h1]; rfl⟩, fun h0 w5 _ => by rw [h0]; rfl⟩
  refine Pure.mono (ref3_Less ((((k0 h0).ext x3 (by decide)).below b4).ext x5 (by decide)) ((k1 h1).ext x5 (by decide)) ((vR_sm h0 ha).mono (by omega)) ((vR_sm h1 hb).mono (by omega))) ?_
  rintro v w6 _ rfl
  exact ⟨_, rfl, by rw [h0, h1]; rfl⟩
end Go.Proofs.YtdoailkigecmkaaGreatDoor.B

namespace Go.Proofs.YtdoailkigecmkaaGreatDoor.B
open Go Go.RowKit Go.Proofs Go.Proofs.YtdoailkigecmkaaGreatDoor.Vc

abbrev belowB (m : Rat) (x : Va) : Bool := !decide (m < qR x.num) && goodB x
abbrev aboveB (m : Rat) (x : Va) : Bool := !decide (qR x.num < m) && goodB x
abbrev ownB (m : Rat) (x : Va) : Bool := goodB x && decide (x.num = rS m)
theorem countP_take {p : Va → Bool} {v : List Va} {i : Nat} (hi : i < v.length) : (v.take (i + 1)).countP p = (v.take i).countP p + (if p v[i] then 1 else 0) := by
  rw [List.take_add_one, List.getElem?_eq_getElem hi, List.countP_append]
  simp [List.countP_cons]
theorem any_take {p : Va → Bool} {v : List Va} {i : Nat} (hi : i < v.length) : (v.take (i + 1)).any p = ((v.take i).any p || p v[i]) := by
  rw [List.take_add_one, List.getElem?_eq_getElem hi, List.any_append]
  simp

theorem middle_loop {w0 : World} {A : Option Addr} {n c : Nat} {v : List Va} (hv : SlR w0 A 4 (v.map Va.row)) (hlen : v.length = n) (hn : n ≤ 16) (hsm : ∀ x ∈ v, SmV x) (hval : ∀ x ∈ v, vR x.num = true) {m : Rat} (hm : SmS (rS m)) {R : Value → World → Prop}
    (hown : v.any (ownB m) = true) (h1 : v.countP goodB ≤ 2 * v.countP (belowB m)) (h2 : v.countP goodB ≤ 2 * v.countP (aboveB m)) (hR : ∀ w, R (.bool true) w) :
    ∀ (d i : Nat) (w : World), n - i = d → i ≤ n → Below w0.heap.size w0 w →
      F.garboardlaw55_SensorMiddle.L15 (rS m) ((v.take i).countP goodB : Nat) ((v.take i).countP (belowB m) : Nat) ((v.take i).countP (aboveB m) : Nat) ((v.take i).any (ownB m)) A n c n i w0.heap.size w R := by
  intro d
  induction d with
  | zero =>
    intro i w hd hi hw
    have : i = n := by omega
    subst this
    rw [List.take_of_length_le (by omega)]
    have c1 := List.countP_le_length (p := goodB) (l := v)
    have c2 := List.countP_le_length (p := belowB m) (l := v)
    have c3 := List.countP_le_length (p := aboveB m) (l := v)
    refine F.garboardlaw55_SensorMiddle.L15.step _ _ _ _ _ _ _ _ _ _ _ _ _ ⟨fun h => by omega, fun _ => ⟨fun _ => ⟨by simp only [inR]; omega, fun h => ⟨by simp only [inR]; omega, ?_⟩, fun h => absurd (by omega) h⟩, fun h => by rw [hown] at h; cases h⟩⟩
    have := hR w
    rwa [decide_eq_true (by omega)]
  | succ d ih =>
    intro i w hd hi hw
    have hil : i < v.length := by omega
    have mv : v[i] ∈ v := List.getElem_mem _
    have e3 : (i : Int) + 1 = ((i + 1 : Nat) : Int) := by omega
    have hin : inR .i64 ((i : Int) + 1) := by simp only [inR]; omega
    have c1 := List.countP_le_length (p := goodB) (l := v.take i)
    have c2 := List.countP_le_length (p := belowB m) (l := v.take i)
    have c3 := List.countP_le_length (p := aboveB m) (l := v.take i)
    rw [List.length_take] at c1 c2 c3
    obtain ⟨hb, a, hA, hcell, _⟩ := (hv.keep hw (Nat.le_refl _)).spot hlen hil
    have t1 := countP_take (p := goodB) hil
    have t2 := countP_take (p := belowB m) hil
    have t3 := countP_take (p := aboveB m) hil
    have t4 := any_take (p := ownB m) hil
    have next : ∀ w2 (g b a : Int) (o : Bool), Below w0.heap.size w0 w2 → g = ((v.take (i + 1)).countP goodB : Nat) → b = ((v.take (i + 1)).countP (belowB m) : Nat) → a = ((v.take (i + 1)).countP (aboveB m) : Nat) → o = (v.take (i + 1)).any (ownB m) →
        F.garboardlaw55_SensorMiddle.L15 (rS m) g b a o A n c n ((i : Int) + 1) w0.heap.size w2 R := by
      intro w2 g b a o hb2 e1 e2 e4 e5
      subst e1; subst e2; subst e4; subst e5
      rw [e3]
      exact ih (i + 1) w2 (by omega) (by omega) hb2
    refine F.garboardlaw55_SensorMiddle.L15.step _ _ _ _ _ _ _ _ _ _ _ _ _ ⟨fun _ => ⟨hb, a, hA, _, _, _, _, hcell, fun hq => ⟨hin, fun w2 x2 => ?_⟩, fun hq => ⟨by simp only [inR]; omega, ?_⟩⟩, fun h => by omega⟩
    · have hg : goodB v[i] = false := decide_eq_false hq
      refine next w2 _ _ _ _ (kE hw x2) ?_ ?_ ?_ ?_
      · rw [t1, hg]; rfl
      · rw [t2, show belowB m v[i] = false by simp [belowB, hg]]; rfl
      · rw [t3, show aboveB m v[i] = false by simp [aboveB, hg]]; rfl
      · rw [t4, show ownB m v[i] = false by simp [ownB, hg]]; simp
    have hq : v[i].qual = 1 := Decidable.not_not.1 hq
    have hg : goodB v[i] = true := decide_eq_true hq
    have hnum := hval _ mv
    have lessA : ∀ w1, Pure Tryz.prog 33 #[.string (rS m), .string v[i].num] w1 fun y _ => y = .bool (decide (m < qR v[i].num)) := fun w1 => by
      refine Pure.mono (law_less hm (hsm _ mv) w1) ?_
      rintro y w2 _ rfl
      rw [vR_rS, hnum, qR_rS]
      rfl
    have lessB : ∀ w1, Pure Tryz.prog 33 #[.string v[i].num, .string (rS m)] w1 fun y _ => y = .bool (decide (qR v[i].num < m)) := fun w1 => by
      refine Pure.mono (law_less (hsm _ mv) hm w1) ?_
      rintro y w2 _ rfl
      rw [vR_rS, hnum, qR_rS]
      rfl
    have J : ∀ w2 (b : Int) (o : Bool), Below w0.heap.size w0 w2 → b = ((v.take (i + 1)).countP (belowB m) : Nat) → o = (v.take (i + 1)).any (ownB m) →
        F.garboardlaw55_SensorMiddle.J22 (rS m) (((v.take i).countP goodB : Nat) + (1 : Int)) b ((v.take i).countP (aboveB m) : Nat) o A n c n i v[i].chan v[i].tick v[i].qual v[i].num w0.heap.size w2 R := by
      intro w2 b o hb2 e1 e2
      refine F.garboardlaw55_SensorMiddle.J22.step _ _ _ _ _ _ _ _ _ _ _ _ _ _ _ _ _ (Pure.mono (lessB w2) ?_)
      rintro y w3 b3 rfl
      have hb3 := kP hb2 b3
      have g1 : ((v.take i).countP goodB : Int) + 1 = ((v.take (i + 1)).countP goodB : Nat) := by rw [t1, hg, if_pos rfl]; omega
      refine ⟨_, rfl, fun h => ⟨by simp only [inR]; omega, hin, next w3 _ _ _ _ hb3 g1 e1 ?_ e2⟩, fun h => ⟨hin, next w3 _ _ _ _ hb3 g1 e1 ?_ e2⟩⟩
      · rw [t3, show aboveB m v[i] = true by simp only [aboveB, hg, h]; rfl, if_pos rfl]; omega
      · have h : decide (qR v[i].num < m) = true := by simpa using h
        rw [t3, show aboveB m v[i] = false by simp only [aboveB, h]; rfl]; rfl
    have half : ∀ w2 (o : Bool), Below w0.heap.size w0 w2 → o = (v.take (i + 1)).any (ownB m) → Pure Tryz.prog 33 #[.string (rS m), .string v[i].num] w2 fun r33 w34 => ∃ (b32 : Bool), r33 = (.bool b32) ∧ (((b32 = false) → (inR .i64 (((v.take i).countP (belowB m) : Nat) + (1 : Int)) ∧ (F.garboardlaw55_SensorMiddle.J22 (rS m) (((v.take i).countP goodB : Nat) + (1 : Int)) (((v.take i).countP (belowB m) : Nat) + (1 : Int)) ((v.take i).countP (aboveB m) : Nat) o A n c n i v[i].chan v[i].tick v[i].qual v[i].num w0.heap.size w34 R))) ∧
        (¬ (b32 = false) → (F.garboardlaw55_SensorMiddle.J22 (rS m) (((v.take i).countP goodB : Nat) + (1 : Int)) ((v.take i).countP (belowB m) : Nat) ((v.take i).countP (aboveB m) : Nat) o A n c n i v[i].chan v[i].tick v[i].qual v[i].num w0.heap.size w34 R))) := by
      intro w2 o hb2 ho
      refine Pure.mono (lessA w2) ?_
      rintro y w3 b3 rfl
      have hb3 := kP hb2 b3
      refine ⟨_, rfl, fun h => ⟨by simp only [inR]; omega, J w3 _ _ hb3 ?_ ho⟩, fun h => J w3 _ _ hb3 ?_ ho⟩
      · rw [t2, show belowB m v[i] = true by simp only [belowB, hg, h]; rfl, if_pos rfl]; omega
      · have h : decide (m < qR v[i].num) = true := by simpa using h
        rw [t2, show belowB m v[i] = false by simp only [belowB, h]; rfl]; rfl
    refine ⟨fun ho w2 x2 => half w2 true (kE hw x2) ?_, fun ho w2 x2 => half w2 _ (kE hw x2) ?_⟩
    · rw [t4, ho]; rfl
    · rw [t4, ho, Bool.false_or]
      simp only [ownB, hg, Bool.true_and]

theorem law_SensorMiddle {w : World} (hg : Glob w) {A : Option Addr} {n c : Nat} {v : List Va} {tol : ByteArray} (hv : SlR w A 4 (v.map Va.row)) (hlen : v.length = n) (hn : n < 9223372036854775808) :
    Pure Tryz.prog 8 #[.slice A n c, .string tol] w fun y _ => y = .bool true := by
  refine F.garboardlaw55_SensorMiddle.vc _ _ _ _ _ _ (Pure.mono (law_awake hg) ?_)
  rintro y w2 b2 rfl
  refine ⟨_, rfl, fun h => (by cases h), fun _ => Pure.mono (ref_Few (l := []) (v := v) (.inl rfl) (hv.keep b2 (Nat.le_refl _)) rfl hlen (by omega) hn) ?_⟩
  rintro y w3 b3 rfl
  have hb3 := kP b2 b3
  refine ⟨_, rfl, fun _ => rfl, fun hf => ⟨fun _ => rfl, fun hr => ?_⟩⟩
  have hf' : fewF [] v = true := by simpa using hf
  obtain ⟨⟨_, h17⟩, _, hsm⟩ := few_val hf'
  have st : SmS tol := by unfold SmS; omega
  refine Pure.mono (CloneV (hv.keep hb3 (Nat.le_refl _)) (by simpa using hlen) rowV_len rowV_cell (by omega)) ?_
  rintro y w4 b4 ⟨A4, c4, rfl, o4⟩
  have hb4 := kP hb3 b4
  refine ⟨_, _, _, rfl, Pure.mono (sensor_Vote (hg.next hb4) (v := v) o4.sl hlen (by omega) hsm st) ?_⟩
  rintro y w5 b5 rfl
  have hb5 := kP hb4 b5
  refine ⟨_, _, _, rfl, Pure.mono (CloneV (hv.keep hb5 (Nat.le_refl _)) (by simpa using hlen) rowV_len rowV_cell (by omega)) ?_⟩
  rintro y w6 b6 ⟨A6, c6, rfl, o6⟩
  have hb6 := kP hb5 b6
  refine ⟨_, _, _, rfl, PureB.mono (slices_ReverseV hb6.size hlen (by omega) (o6.base hb5.size)) ?_⟩
  rintro y w7 b7 ⟨rfl, o7⟩
  have hb7 := hb6.trans b7
  refine ⟨fun k ty cs h => (by cases h), rfl, Pure.mono (sensor_Vote (hg.next hb7) (v := v.reverse) o7.sl (by simpa using hlen) (by omega) (fun x hx => hsm x (List.mem_reverse.1 hx)) st) ?_⟩
  rintro y w8 b8 rfl
  have hb8 := kP hb7 b8
  rw [voteF_reverse]
  refine ⟨_, _, _, rfl, fun h => absurd rfl h, fun _ => ⟨fun h => absurd rfl h, fun _ => ⟨fun h => absurd rfl h, fun _ => ⟨fun h => ?_, fun h => ?_⟩⟩⟩⟩
  · obtain ⟨e1, e2⟩ := voteF_bad h
    exact ⟨fun _ => by rw [e2]; rfl, fun k => absurd e1 k⟩
  · obtain ⟨hval, h16, m, hm, e1⟩ := voteF_ok (Decidable.not_not.1 h)
    rw [e1]
    obtain ⟨q1, q2⟩ := middle_counts hm
    have hmem : m ∈ srtF v := List.mem_of_getElem? hm
    obtain ⟨x, hx, hq, hxm⟩ := mem_srtF hmem
    have hxs : x.num = rS m := by rw [hxm]; exact vR_eq (hval x hx)
    have hms : SmS (rS m) := by rw [← hxs]; exact hsm x hx
    refine middle_loop hv hlen (by omega) hsm hval hms (List.any_eq_true.2 ⟨x, hx, ?_⟩) q1 q2 (fun _ => rfl) n 0 w8 rfl (by omega) hb8
    simp [ownB, goodB, hq, hxs]
end Go.Proofs.YtdoailkigecmkaaGreatDoor.B
