/- Part 9 of the proofs that: a claim about cargo holds -/
import Derived.Test.YtdnelnicnjplpaaGreatDoorC8
import Derived.Test.YtdnelnicnjplpaaGreatDoorProg
set_option linter.unusedVariables false
set_option linter.unusedSimpArgs false
namespace Go.Proofs.YtdnelnicnjplpaaGreatDoor.B
open Go Go.RowKit Go.Proofs Go.Proofs.YtdnelnicnjplpaaGreatDoor.Vc

theorem IsN.len_le {w : World} {A : Option Addr} {n c z k : Nat} (h : IsN w A n c z) (hz : z < 1000000000 ^ k) : n ≤ k := by
  obtain ⟨ws, _, hl, _, _, _, hn, rfl⟩ := h
  by_cases h0 : ws = []
  · subst h0; simp at hl; omega
  · have h1 := wv_pos hn h0
    have := (Nat.pow_lt_pow_iff_right (a := 1000000000) (by omega)).1 (Nat.lt_of_le_of_lt h1 hz)
    omega
theorem IsN.len_gt {w : World} {A : Option Addr} {n c z k : Nat} (h : IsN w A n c z) (hz : 1000000000 ^ k ≤ z) : k < n := by
  obtain ⟨ws, _, hl, _, _, hs, _, rfl⟩ := h
  have h1 := wv_lt hs
  have := (Nat.pow_lt_pow_iff_right (a := 1000000000) (by omega)).1 (Nat.lt_of_le_of_lt hz h1)
  omega
theorem OwnU.some {w : World} {B : Nat} {A : Option Addr} {n c : Nat} {ws : List Nat} (h : OwnU w B A n c ws) (h0 : n ≠ 0) : A ≠ none := by
  rintro rfl
  rcases h.2 with ⟨e, _⟩ | ⟨g, cap, cur, e, _⟩
  · cases e; exact h0 rfl
  · cases e
theorem wv_zeros : ∀ n : Nat, wv (List.replicate n 0) = 0 := by
  intro n
  induction n with
  | zero => rfl
  | succ n ih => rw [List.replicate_succ, wv, ih]

set_option maxHeartbeats 1000000 in
theorem ref_Over {w : World} {A0 A1 : Option Addr} {n0 c0 n1 c1 x y : Nat} (ha : IsN w A0 n0 c0 x) (hb : IsN w A1 n1 c1 y) (hx : x < Lim) (hy : y < Lim) (hy0 : y ≠ 0) :
    Pure Tryz.prog 113 #[.slice A0 n0 c0, .slice A1 n1 c1] w fun v w' => ∃ A n c A' n' c', v = .tuple #[.slice A n c, .slice A' n' c'] ∧ IsN w' A n c (x / y) ∧ IsN w' A' n' c' (x % y) := by
  refine F.garboardref01_Over.vc _ _ _ _ _ _ _ _ (Pure.mono (ref_Cmp ha hb hx hy) ?_)
  rintro v w3 hb3 rfl
  refine ⟨_, rfl, fun h => ?_, fun h => ?_⟩
  · have hlt : x < y := by
      simp only [cmpI] at h
      split at h
      · omega
      · split at h <;> omega
    rw [Nat.div_eq_of_lt hlt, Nat.mod_eq_of_lt hlt]
    exact ⟨_, _, _, _, _, _, rfl, IsN.nil _, ha.below hb3⟩
  have hyx : y ≤ x := by
    simp only [cmpI] at h
    split at h <;> omega
  have l0 := ha.len hx
  have l1 := hb.len hy
  have haN := ha.below hb3
  have hbN := hb.below hb3
  obtain ⟨a, a1, a2, a3, a4, a5, a6, ax⟩ := haN
  obtain ⟨b, b1, b2, b3, b4, b5, b6, bx⟩ := hbN
  have haN := ha.below hb3
  have hbN := hb.below hb3
  have hbn : b ≠ [] := fun k => by subst k; simp [wv] at bx; omega
  have hbl := List.length_pos_iff.2 hbn
  refine ⟨fun h1 => ?_, fun h1 => ⟨by simp only [inR]; omega, ?_⟩⟩
  · have g := b5.getD (Int.toNat 0)
    refine b1.load b2 (by omega) (by omega) ?_
    have e : b.getD (Int.toNat 0) 0 = y := by
      obtain ⟨z, rfl⟩ := List.length_eq_one_iff.1 (by omega : b.length = 1)
      simpa [wv] using bx
    rw [e] at g ⊢
    refine Pure.mono (ref_small haN (by omega) (by omega) (by omega)) ?_
    rintro v w9 hb9 ⟨A, n, c, rfl, k1⟩
    have hml := Nat.mod_lt x (show 0 < y by omega)
    refine ⟨_, _, _, _, rfl, Pure.mono (ref_Small (x := x % y) (by omega)) ?_⟩
    rintro v w12 hb12 ⟨A', n', c', rfl, k2⟩
    exact ⟨_, _, _, rfl, _, _, _, _, _, _, rfl, k1.below hb12, k2⟩
  have g := b5.getD (n1 - 1)
  have e1 : ((n1 : Int) - 1).toNat = n1 - 1 := by omega
  refine b1.load b2 (by omega) (by omega) ?_
  rw [e1]
  obtain ⟨mt, hmt⟩ : ∃ mt, mt = b.getD (n1 - 1) 0 := ⟨_, rfl⟩
  have hmt1 : 1 ≤ mt := by rw [hmt, ← b2]; exact norm_top b6 hbn
  rw [← hmt] at g ⊢
  obtain ⟨f, hf⟩ : ∃ f, f = 1000000000 / (mt + 1) := ⟨_, rfl⟩
  obtain ⟨hf0, hf1, hf2⟩ := factor_half hmt1 g hf
  have hfb : 2 * f ≤ 1000000000 := by
    have := Nat.mul_le_mul_right f (show 2 ≤ mt + 1 by omega)
    omega
  have ef : (1000000000 : Int) / ((mt : Int) + 1) = (f : Int) := by rw [hf]; simp
  rw [ef]
  refine ⟨by simp only [inR]; omega, by simp only [inR]; omega, ⟨by omega, by omega, by simp only [inR]; omega⟩, by simp only [inR]; omega, ?_⟩
  refine Pure.mono (ref_Small (x := f) (by omega)) ?_
  rintro v w17 hb17 ⟨Af, nf, cf, rfl, kf⟩
  have hw17 : Below w.heap.size w w17 := hb3.trans (hb17.mono hb3.size)
  have hfL : f < Lim := by
    unfold Lim
    exact Nat.lt_of_le_of_lt (show f ≤ 1000000000 ^ 1 by omega) (Nat.pow_lt_pow_right (by omega) (by have := klim; omega))
  refine ⟨_, _, _, rfl, Pure.mono (ref_Times (hbN.below hb17) kf hy hfL) ?_⟩
  rintro v w20 hb20 ⟨Av, nv, cv, rfl, kv, _⟩
  have hw20 : Below w.heap.size w w20 := hw17.trans (hb20.mono hw17.size)
  refine ⟨_, _, _, rfl, ?_⟩
  refine lit_ok el_N (xs := []) hw20.size (by simp) fun A21 c21 w23 o23 b23 => ?_
  have hw23 : Below w.heap.size w w23 := hw20.trans (b23.mono hw20.size)
  have s23 := b23.size
  refine Pure.mono (ref_Times ((haN.below hb17).below (hb20.trans (b23.mono hb20.size))) ((kf.below hb20).below b23) hx hfL) ?_
  rintro v w26 hb26 ⟨A24, m, c24, rfl, ku, _⟩
  have hw26 : Below w.heap.size w w26 := hw23.trans (hb26.mono hw23.size)
  refine ⟨_, _, _, rfl, ?_⟩
  have hxlt : x < 1000000000 ^ n0 := by have := wv_lt a5; rwa [ax, a2] at this
  have hxf : x ≤ x * f := Nat.le_mul_of_pos_right _ (by omega)
  have hxf2 : x * f < 1000000000 ^ (n0 + 1) := by
    have h2 : x * f ≤ x * 1000000000 := Nat.mul_le_mul_left _ (by omega)
    rw [Nat.pow_succ]
    omega
  have hn0 : n1 ≤ n0 := by
    have := wv_len_ge a5 b6 (by rw [ax, bx]; exact hyx)
    omega
  have hxge : 1000000000 ^ (n0 - 1) ≤ x := by
    have := wv_pos a6 (fun e => by subst e; simp at a2; omega)
    rwa [ax, a2] at this
  have hm1 : m ≤ n0 + 1 := ku.len_le hxf2
  have hm2 : n0 - 1 < m := ku.len_gt (Nat.le_trans hxge hxf)
  obtain ⟨us, u1, u2, u3, u4, u5, u6, ux⟩ := ku
  have s26 := hb26.size
  have o26 : OwnU w26 w20.heap.size A21 0 c21 [] := o23.other fun k hk => hb26.block k (o23.blk k hk).2
  refine app_words el_N hw20.size o26 u1 u2 (by omega) (by omega) (by omega) (by simp) (by omega) fun A27 c27 w29 o29 b29 => ?_
  have hw29 : Below w.heap.size w w29 := hw26.trans (b29.mono (by have := hw20.size; omega))
  have s29 := b29.size
  have b2029 : Below w20.heap.size w20 w29 := (b23.trans (hb26.mono s23)).trans b29
  refine lit_ok el_N (xs := [0, 0]) hw29.size (by simp) fun A30 c30 w32 o32 b32 => ?_
  have hw32 : Below w.heap.size w w32 := hw29.trans (b32.mono hw29.size)
  have s32 := b32.size
  have o29' : OwnU w32 w20.heap.size A27 (0 + m) c27 ([] ++ us) := o29.other fun k hk => b32.block k (o29.blk k hk).2
  refine app_words el_N hw20.size o29' o32.sl rfl (by omega) (by omega) (by simp) (by simp) (by simp) fun A33 c33 w35 o35 b35 => ?_
  have hw35 : Below w.heap.size w w35 := hw32.trans (b35.mono hw20.size)
  have s35 := b35.size
  have b2035 : Below w20.heap.size w20 w35 := (b2029.trans (b32.mono (by omega))).trans b35
  have su : Small ([] ++ us ++ [0, 0]) := by
    rw [List.nil_append]
    exact u5.append (Small.cons (by omega) (Small.cons (by omega) Small.nil))
  have wvu : wv ([] ++ us ++ [0, 0]) = x * f := by
    rw [List.nil_append, wv_append, ux]
    simp [wv]
  have hcap := o35.cap
  simp only [List.length_cons, List.length_nil] at hcap
  refine ⟨by simp only [inR]; omega, Pure.mono (ref_trim o35.sl o35.len o35.cap (by simp; omega) su) ?_⟩
  rintro v w38 hb38 ⟨hww, m36, rfl, k36, _⟩
  rw [hww]
  clear hb38 hww
  rw [wvu] at k36
  have hm36 : m36 ≤ n0 + 1 := k36.len_le hxf2
  refine ⟨_, _, _, rfl, ?_⟩
  have eif : (if (m36 : Int) > ((n0 : Int) + 1) then (m36 : Int) else ((n0 : Int) + 1)) = ((n0 + 1 : Nat) : Int) := by rw [if_neg (by omega)]; omega
  rw [eif, Int.toNat_natCast]
  have enq : ((n0 + 1 : Nat) : Int) - (n1 : Int) = ((n0 + 1 - n1 : Nat) : Int) := by omega
  rw [enq]
  refine ⟨⟨by omega, by omega⟩, by simp only [inR]; omega, ?_⟩
  refine runOk_make el_N El.zeroU32 rfl (by omega) (by omega) hw35.size fun Aq nq w41 hnq k1 g2 k2 => ⟨by simp only [inR]; omega, by simp only [inR]; omega, ?_⟩
  have hnq' : nq = n0 + 1 - n1 := by omega
  have hq := OwnU.replicate k1
  have hqb : ∀ a, Aq = some a → w35.heap.size ≤ a.block := fun a ha => (hq.blk_of a ha).1
  have hgb : Below w35.heap.size w35 w41 := below_grown g2 (by simp) (Nat.le_refl _)
  -- the divisor's words
  obtain ⟨P, hP⟩ : ∃ P, P = 1000000000 ^ (n1 - 1) := ⟨_, rfl⟩
  have hbs := wv_split b (n1 - 1) (by omega)
  have hbd : wv (b.drop (n1 - 1)) = mt := by
    rw [wv_drop, ← hmt, List.drop_eq_nil_of_le (by omega)]
    simp [wv]
  rw [hbd] at hbs
  have hbt := wv_lt (b5.take (n1 - 1))
  rw [List.length_take, Nat.min_eq_left (by omega)] at hbt
  rw [← hP] at hbs hbt
  have hyf : y ≤ y * f := Nat.le_mul_of_pos_right _ (by omega)
  have hyf2 : y * f < P * 1000000000 := by
    have k1 : y + 1 ≤ P * (mt + 1) := by rw [← bx, hbs, Nat.mul_add]; omega
    have k2 : (y + 1) * f ≤ P * (mt + 1) * f := Nat.mul_le_mul_right _ k1
    have k3 : P * ((mt + 1) * f) ≤ P * 1000000000 := Nat.mul_le_mul_left _ hf1
    rw [Nat.mul_assoc] at k2
    rw [Nat.add_mul] at k2
    omega
  have hPy : P * mt ≤ y := by rw [← bx, hbs]; omega
  have hyf3 : P * (mt * f) ≤ y * f := by
    have := Nat.mul_le_mul_right f hPy
    rwa [Nat.mul_assoc] at this
  have hP1 : P * 1 ≤ P * mt := Nat.mul_le_mul_left _ hmt1
  have hpow : P * 1000000000 = 1000000000 ^ n1 := by
    rw [hP, ← Nat.pow_succ, show (n1 - 1).succ = n1 by omega]
  have hnv : nv = n1 := by
    have h1 : nv ≤ n1 := kv.len_le (by rw [← hpow]; exact hyf2)
    have h2 : n1 - 1 < nv := kv.len_gt (by rw [← hP]; omega)
    omega
  subst hnv
  obtain ⟨vs, v1, v2, v3, v4, v5, v6, vx⟩ := kv
  have hhalf : 1000000000 ≤ 2 * vs.getD (nv - 1) 0 := by
    have h1 := wv_split vs (nv - 1) (by omega)
    have h2 := wv_lt (v5.take (nv - 1))
    rw [List.length_take, Nat.min_eq_left (by omega), ← hP] at h2
    have h3 : wv (vs.drop (nv - 1)) = vs.getD (nv - 1) 0 := by
      rw [wv_drop, List.drop_eq_nil_of_le (by omega)]
      simp [wv]
    rw [h3, ← hP, vx] at h1
    apply Decidable.byContradiction
    intro k
    have h4 : P * (vs.getD (nv - 1) 0 + 1) ≤ P * (mt * f) := Nat.mul_le_mul_left _ (by omega)
    rw [Nat.mul_add] at h4
    omega
  have hvne : vs ≠ [] := fun e => by subst e; simp at v2; omega
  have hvb := v1.block_lt hvne
  obtain ⟨hnf, hfS⟩ := kf.one (by omega) (by omega)
  have hfbk := hfS.block_lt (by simp)
  -- the dividend's words
  have hu35 : OwnU w35 w20.heap.size A33 (n0 + 1) c33 (([] ++ us ++ [0, 0]).take (n0 + 1)) := o35.take (by simp; omega) (.inl (o35.some (by simp)))
  obtain ⟨U, hU⟩ : ∃ U, U = ([] ++ us ++ [0, 0]).take (n0 + 1) := ⟨_, rfl⟩
  rw [← hU] at hu35
  have hsU : Small U := by rw [hU]; exact su.take _
  have wU : wv U = x * f := by
    rw [hU, List.nil_append, List.take_append, List.take_of_length_le (by omega), wv_append, ux, u2]
    have e : ([0, 0] : List Nat).take (n0 + 1 - m) = List.replicate (n0 + 1 - m) 0 := by
      rcases (by omega : n0 + 1 - m = 0 ∨ n0 + 1 - m = 1) with e | e <;> rw [e] <;> rfl
    rw [e, wv_zeros, Nat.mul_zero, Nat.add_zero]
  have lU := hu35.len
  have hub := hu35.blk_of
  have hu41 : OwnU w41 w20.heap.size A33 (n0 + 1) c33 U := hu35.other fun k hk => hgb.block k (hu35.blk k hk).2
  have hap : Apart A33 Aq := fun a b ha hb => by
    have h1 := hub a ha
    have h2 := hqb b hb
    omega
  have s20 := hb20.size
  have sw20 := hw20.size
  have v41 : SlU w41 Av vs := (v1.below b2035).below hgb
  have f41 : SlU w41 Af [f] := ((hfS.below hb20).below b2035).below hgb
  have hvu : ∀ a b, Av = some a → A33 = some b → a.block ≠ b.block := fun a b ha hb => by
    have h1 := hvb a ha
    have h2 := hub b hb
    omega
  rw [← hnq']
  have epow : 1000000000 ^ nq * P = 1000000000 ^ n0 := by
    rw [hP, ← Nat.pow_add, show nq + (nv - 1) = n0 by omega]
  refine over_L13 (w1 := w41) (B := w.heap.size) hap (by omega) (by have := hgb.size; have := hw35.size; omega) v41 v2 v5 (Sep.of hvu fun a b ha hb => by have h1 := hvb a ha; have h2 := hqb b hb; omega) hvu (by omega) (by omega) hhalf
    f41 hnf (Sep.of (fun a b ha hb => by have h1 := hfbk a ha; have h2 := hub b hb; omega) fun a b ha hb => by have h1 := hfbk a ha; have h2 := hqb b hb; omega) (by omega) (by omega) (U0 := x * f) (fun A n c A' n' c' w' q1 q2 => ?_)
    nq w41 U (List.replicate nq 0) (Nat.le_refl _) ⟨hu41.base sw20, hq.base hw35.size, hsU, Small.replicate _, fun _ _ _ _ => rfl, Below.refl _ _⟩ ?_ ?_
  · rw [vx, Nat.mul_div_mul_right _ _ (by omega)] at q1
    rw [vx, Nat.mul_mod_mul_right, Nat.mul_div_cancel _ (by omega)] at q2
    exact ⟨_, _, _, _, _, _, rfl, q1, q2⟩
  · have h1 := wv_split U nq (by omega)
    rw [wU] at h1
    have h2 : x * f < 1000000000 ^ n0 * f := (Nat.mul_lt_mul_right (by omega)).2 hxlt
    rw [← epow, Nat.mul_assoc] at h2
    have h3 : wv (U.drop nq) < P * f := by
      apply Decidable.byContradiction
      intro k
      have := Nat.mul_le_mul_left (1000000000 ^ nq) (show P * f ≤ wv (U.drop nq) by omega)
      omega
    rw [vx]
    have h4 : P * f ≤ y * f := Nat.mul_le_mul_right _ (by omega)
    omega
  · rw [List.drop_eq_nil_of_le (by simp)]
    simp [wv, wU]
end Go.Proofs.YtdnelnicnjplpaaGreatDoor.B

set_option maxRecDepth 100000
set_option maxHeartbeats 4000000
namespace Go.Proofs.YtdnelnicnjplpaaGreatDoor.F
open Go Go.RowKit Go.Proofs Go.Proofs.YtdnelnicnjplpaaGreatDoor.Vc
noncomputable def garboardref02_Valid.cx (w : World) (B : Nat) (R : Value → World → Prop) : Cx := ⟨Tryz.prog, 74, 20, Tryz.f74.results.toList, [], [], w, B, R⟩
theorem garboardref02_Valid.vc (a : ByteArray) (w : World) (R : Value → World → Prop)
    (h : (((((ByteArray.size a : Int) : Int) > 1) → ((0 ≤ (0 : Int) ∧ (0 : Int) < (ByteArray.size a : Int)) ∧ (((((bt a (0 : Int)) : Int) = 45) → (((a ≠ (⟨#[45, 48]⟩ : ByteArray)) → ((0 ≤ (1 : Int) ∧ (1 : Int) ≤ (ByteArray.size a : Int)) ∧ (Pure P 75 #[(.string (ByteArray.extract a ((1 : Int)).toNat (ByteArray.size a)))] w fun e f => ∃ b, e = .bool b ∧ (R (.bool b) f)))) ∧ (¬ (a ≠ (⟨#[45, 48]⟩ : ByteArray)) → (R (.bool false) w)))) ∧ (¬ (((bt a (0 : Int)) : Int) = 45) → (Pure P 75 #[.string a] w fun g i => ∃ c, g = .bool c ∧ (R (.bool c) i)))))) ∧ (¬ (((ByteArray.size a : Int) : Int) > 1) → (Pure P 75 #[.string a] w fun j l => ∃ d, j = .bool d ∧ (R (.bool d) l))))) :
    Pure P 74 #[.string a] w R :=
  pure_of_run (garboardref02_Valid.cx w w.heap.size R) 100000 follows Tryz.func74 rfl rfl rfl rfl rfl rfl rfl (Eq.mp (by kernel_rfl) h)

noncomputable def garboardref02_Read.cx (w : World) (B : Nat) (R : Value → World → Prop) : Cx := ⟨Tryz.prog, 76, 13, Tryz.f76.results.toList, [], [], w, B, R⟩
theorem garboardref02_Read.vc (a : ByteArray) (w : World) (R : Value → World → Prop)
    (h : ((0 ≤ (0 : Int) ∧ (0 : Int) < (ByteArray.size a : Int)) ∧ (((((bt a (0 : Int)) : Int) = 45) → ((0 ≤ (1 : Int) ∧ (1 : Int) ≤ (ByteArray.size a : Int)) ∧ (∀ b, Ext w.heap.size [] w b → (Pure P 77 #[(.string (ByteArray.extract a ((1 : Int)).toNat (ByteArray.size a)))] b fun n o => ∃ c d e, n = .slice c d e ∧ (∀ f, Ext w.heap.size [71] o f → (R (.agg #[.bool true, .slice c d e]) f)))))) ∧ (¬ (((bt a (0 : Int)) : Int) = 45) → (∀ g, Ext w.heap.size [] w g → (Pure P 77 #[.string a] g fun p q => ∃ i j l, p = .slice i j l ∧ (∀ m, Ext w.heap.size [71] q m → (R (.agg #[.bool false, .slice i j l]) m)))))))) :
    Pure P 76 #[.string a] w R :=
  pure_of_run (garboardref02_Read.cx w w.heap.size R) 100000 follows Tryz.func76 rfl rfl rfl rfl rfl rfl rfl (Eq.mp (by kernel_rfl) h)

noncomputable def garboardref02_Signum.cx (w : World) (B : Nat) (R : Value → World → Prop) : Cx := ⟨Tryz.prog, 80, 9, Tryz.f80.results.toList, [], [], w, B, R⟩
theorem garboardref02_Signum.vc (a : Bool) (f : Option Addr) (b g : Nat) (w : World) (R : Value → World → Prop)
    (h : ((a = true → (∀ c, Ext w.heap.size [] w c → (R (.int .i64 (-1 : Int)) c))) ∧ (a = false → ((((b : Int) > 0) → (∀ d, Ext w.heap.size [] w d → (R (.int .i64 1) d))) ∧ (¬ ((b : Int) > 0) → (∀ e, Ext w.heap.size [] w e → (R (.int .i64 0) e))))))) :
    Pure P 80 #[.agg #[.bool a, .slice f b g]] w R :=
  pure_of_run (garboardref02_Signum.cx w w.heap.size R) 100000 follows Tryz.func80 rfl rfl rfl rfl rfl rfl rfl (Eq.mp (by kernel_rfl) h)

noncomputable def garboardref02_Small.cx (w : World) (B : Nat) (R : Value → World → Prop) : Cx := ⟨Tryz.prog, 82, 14, Tryz.f82.results.toList, [], [], w, B, R⟩
theorem garboardref02_Small.vc (a : Int) (w : World) (R : Value → World → Prop)
    (h : (((a < 0) → (inR .i64 (-a) ∧ (inR .u32 ((-a)) ∧ (∀ b, Ext w.heap.size [] w b → (Pure P 78 #[(.int .u32 ((-a)))] b fun v x => ∃ c d e, v = .slice c d e ∧ (Pure P 109 #[.bool true, .slice c d e] x fun y z => ∃ f g i j, y = .agg #[.bool f, .slice g i j] ∧ (∀ l, Ext w.heap.size [71] z l → (R (.agg #[.bool f, .slice g i j]) l)))))))) ∧ (¬ (a < 0) → (inR .u32 (a) ∧ (∀ m, Ext w.heap.size [] w m → (Pure P 78 #[(.int .u32 (a))] m fun A C => ∃ n o p, A = .slice n o p ∧ (Pure P 109 #[.bool false, .slice n o p] C fun D E => ∃ q r s t, D = .agg #[.bool q, .slice r s t] ∧ (∀ u, Ext w.heap.size [71] E u → (R (.agg #[.bool q, .slice r s t]) u))))))))) :
    Pure P 82 #[.int .i64 a] w R :=
  pure_of_run (garboardref02_Small.cx w w.heap.size R) 100000 follows Tryz.func82 rfl rfl rfl rfl rfl rfl rfl (Eq.mp (by kernel_rfl) h)

noncomputable def garboardref02_To.cx (w : World) (B : Nat) (R : Value → World → Prop) : Cx := ⟨Tryz.prog, 83, 12, Tryz.f83.results.toList, [], [], w, B, R⟩
theorem garboardref02_To.vc (a : Bool) (b : Option Addr) (c d : Nat) (w : World) (R : Value → World → Prop)
    (h : ((a = true → (∀ f, Ext w.heap.size [] w f → (Pure P 84 #[.slice b c d] f fun j l => ∃ e, j = .string e ∧ (ByteArray.size (⟨#[45]⟩ : ByteArray) + ByteArray.size e ≤ 9223372036854775807 ∧ (R (.string ((⟨#[45]⟩ : ByteArray) ++ e)) l))))) ∧ (a = false → (∀ g, Ext w.heap.size [] w g → (Pure P 84 #[.slice b c d] g fun m n => ∃ i, m = .string i ∧ (R (.string i) n)))))) :
    Pure P 83 #[.agg #[.bool a, .slice b c d]] w R :=
  pure_of_run (garboardref02_To.cx w w.heap.size R) 100000 follows Tryz.func83 rfl rfl rfl rfl rfl rfl rfl (Eq.mp (by kernel_rfl) h)

noncomputable def garboardref02_Times.cx (w : World) (B : Nat) (R : Value → World → Prop) : Cx := ⟨Tryz.prog, 86, 16, Tryz.f86.results.toList, [], [], w, B, R⟩
theorem garboardref02_Times.vc (a : Bool) (b : Option Addr) (c d : Nat) (e : Bool) (f : Option Addr) (g i : Nat) (w : World) (R : Value → World → Prop)
    (h : (∀ j, Ext w.heap.size [] w j → (Pure P 87 #[.slice b c d, .slice f g i] j fun t u => ∃ l m n, t = .slice l m n ∧ (Pure P 109 #[(.bool (decide (¬ ((a : Bool) = e)))), .slice l m n] u fun v x => ∃ o p q r, v = .agg #[.bool o, .slice p q r] ∧ (∀ s, Ext w.heap.size [71] x s → (R (.agg #[.bool o, .slice p q r]) s)))))) :
    Pure P 86 #[.agg #[.bool a, .slice b c d], .agg #[.bool e, .slice f g i]] w R :=
  pure_of_run (garboardref02_Times.cx w w.heap.size R) 100000 follows Tryz.func86 rfl rfl rfl rfl rfl rfl rfl (Eq.mp (by kernel_rfl) h)

noncomputable def garboardref02_Plus.cx (w : World) (B : Nat) (R : Value → World → Prop) : Cx := ⟨Tryz.prog, 108, 40, Tryz.f108.results.toList, [], [], w, B, R⟩
theorem garboardref02_Plus.vc (a : Bool) (b : Option Addr) (c d : Nat) (i : Bool) (e : Option Addr) (f g : Nat) (w : World) (R : Value → World → Prop)
    (h : ((((a : Bool) = i) → (∀ l, Ext w.heap.size [] w l → (Pure P 129 #[.slice b c d, .slice e f g] l fun T U => ∃ m n o, T = .slice m n o ∧ (Pure P 109 #[.bool a, .slice m n o] U fun V X => ∃ p q r s, V = .agg #[.bool p, .slice q r s] ∧ (∀ t, Ext w.heap.size [71] X t → (R (.agg #[.bool p, .slice q r s]) t)))))) ∧ (¬ ((a : Bool) = i) → (∀ u, Ext w.heap.size [] w u → (Pure P 79 #[.slice b c d, .slice e f g] u fun Y v => ∃ j, Y = .int .i64 j ∧ (((j ≥ (0 : Int)) → (∀ x, Ext w.heap.size [] v x → (Pure P 130 #[.slice b c d, .slice e f g] x fun Z a0 => ∃ y z A, Z = .slice y z A ∧ (Pure P 109 #[.bool a, .slice y z A] a0 fun a1 a2 => ∃ C D E G, a1 = .agg #[.bool C, .slice D E G] ∧ (∀ H, Ext w.heap.size [71] a2 H → (R (.agg #[.bool C, .slice D E G]) H)))))) ∧ (¬ (j ≥ (0 : Int)) → (∀ I, Ext w.heap.size [] v I → (Pure P 130 #[.slice e f g, .slice b c d] I fun a3 a4 => ∃ J K L, a3 = .slice J K L ∧ (Pure P 109 #[.bool i, .slice J K L] a4 fun a5 a6 => ∃ M N O Q, a5 = .agg #[.bool M, .slice N O Q] ∧ (∀ S, Ext w.heap.size [71] a6 S → (R (.agg #[.bool M, .slice N O Q]) S)))))))))))) :
    Pure P 108 #[.agg #[.bool a, .slice b c d], .agg #[.bool i, .slice e f g]] w R :=
  pure_of_run (garboardref02_Plus.cx w w.heap.size R) 100000 follows Tryz.func108 rfl rfl rfl rfl rfl rfl rfl (Eq.mp (by kernel_rfl) h)

noncomputable def garboardref02_Make.cx (w : World) (B : Nat) (R : Value → World → Prop) : Cx := ⟨Tryz.prog, 109, 13, Tryz.f109.results.toList, [], [], w, B, R⟩
theorem garboardref02_Make.vc (b : Bool) (c : Option Addr) (a d : Nat) (w : World) (R : Value → World → Prop)
    (h : ((b = true → (∀ e, Ext w.heap.size [] w e → (R (.agg #[(.bool (decide ((a : Int) > 0))), .slice c a d]) e))) ∧ (b = false → (∀ f, Ext w.heap.size [] w f → (R (.agg #[.bool false, .slice c a d]) f))))) :
    Pure P 109 #[.bool b, .slice c a d] w R :=
  pure_of_run (garboardref02_Make.cx w w.heap.size R) 100000 follows Tryz.func109 rfl rfl rfl rfl rfl rfl rfl (Eq.mp (by kernel_rfl) h)

end Go.Proofs.YtdnelnicnjplpaaGreatDoor.F

namespace Go.Proofs.YtdnelnicnjplpaaGreatDoor.B
open Go Go.RowKit Go.Proofs Go.Proofs.YtdnelnicnjplpaaGreatDoor.Vc

theorem IsN.lt2 {w : World} {A : Option Addr} {n c x : Nat} (h : IsN w A n c x) (hn : n ≤ 2) : x < 1000000000000000000 := by
  obtain ⟨ws, _, hl, _, _, hs, _, rfl⟩ := h
  have h1 := wv_lt hs
  have h2 : 1000000000 ^ ws.length ≤ 1000000000 ^ 2 := Nat.pow_le_pow_right (by omega) (by omega)
  omega
theorem common_L4 {B g : Nat} {R : Value → World → Prop} (hR : ∀ A n c w, IsN w A n c g → R (.slice A n c) w) :
    ∀ (y x : Nat) (w : World), x < 1000000000000000000 → y < 1000000000000000000 → Nat.gcd x y = g → F.garboardref01_Common.L4 x y B w R := by
  intro y
  induction y using Nat.strongRecOn with
  | _ y ih =>
    intro x w hx hy hg
    refine F.garboardref01_Common.L4.step _ _ _ _ _ ⟨fun h => ⟨⟨by omega, by omega⟩, fun w2 _ => ?_⟩, fun h => ?_⟩
    · have hy0 : 0 < y := by omega
      have hm := Nat.mod_lt x hy0
      have e : (x : Int) % (y : Int) = ((x % y : Nat) : Int) := by simp
      rw [e]
      refine ih (x % y) hm y w2 hy (by omega) ?_
      rw [← hg, Nat.gcd_comm x y, Nat.gcd_rec y x, Nat.gcd_comm]
    · have hy0 : y = 0 := by omega
      subst hy0
      rw [Nat.gcd_zero_right] at hg
      subst hg
      refine Pure.mono (ref_wide hx) ?_
      rintro v w3 _ ⟨A, n, c, rfl, k⟩
      exact ⟨_, _, _, rfl, hR _ _ _ _ k⟩
theorem common_L1 {B g : Nat} {R : Value → World → Prop} (hR : ∀ A n c w, IsN w A n c g → R (.slice A n c) w) :
    ∀ (y x : Nat) (w : World) (A0 A1 : Option Addr) (n0 c0 n1 c1 : Nat), IsN w A0 n0 c0 x → IsN w A1 n1 c1 y → x < Lim → y < Lim → Nat.gcd x y = g → F.garboardref01_Common.L1 A0 n0 c0 A1 n1 c1 B w R := by
  intro y
  induction y using Nat.strongRecOn with
  | _ y ih =>
    intro x w A0 A1 n0 c0 n1 c1 ha hb hx hy hg
    have hp := hb.pos_len
    have over : 0 < n1 → Pure Tryz.prog 113 #[.slice A0 n0 c0, .slice A1 n1 c1] w fun r9 w10 => ∃ (A7 : Option Addr) (n7 c7 : Nat) (A8 : Option Addr) (n8 c8 : Nat), r9 = (.tuple #[(.slice A7 n7 c7), (.slice A8 n8 c8)]) ∧ (F.garboardref01_Common.L1 A1 n1 c1 A8 n8 c8 B w10 R) := fun h => by
      have hy0 : y ≠ 0 := hp.1 h
      have hm := Nat.mod_lt x (show 0 < y by omega)
      refine Pure.mono (ref_Over ha hb hx hy hy0) ?_
      rintro v w2 b2 ⟨A, n, c, A', n', c', rfl, _, k⟩
      refine ⟨_, _, _, _, _, _, rfl, ih (x % y) hm y w2 _ _ _ _ _ _ (hb.below b2) k hy (by omega) ?_⟩
      rw [← hg, Nat.gcd_comm x y, Nat.gcd_rec y x, Nat.gcd_comm]
    refine F.garboardref01_Common.L1.step _ _ _ _ _ _ _ _ _ ⟨fun h => ⟨fun h0 => ⟨fun h1 => ?_, fun _ => over (by omega)⟩, fun _ => over (by omega)⟩, fun h => ?_⟩
    · refine Pure.mono (ref_word ha (by omega)) ?_
      rintro v w2 b2 rfl
      refine ⟨_, rfl, Pure.mono (ref_word (hb.below b2) (by omega)) ?_⟩
      rintro v w3 b3 rfl
      exact ⟨_, rfl, common_L4 hR y x w3 (ha.lt2 (by omega)) (hb.lt2 (by omega)) hg⟩
    · have hy0 : y = 0 := by
        apply Decidable.byContradiction
        intro k
        have := hp.2 k
        omega
      subst hy0
      rw [Nat.gcd_zero_right] at hg
      subst hg
      exact hR _ _ _ _ ha
theorem ref_Common {w : World} {A0 A1 : Option Addr} {n0 c0 n1 c1 x y : Nat} (ha : IsN w A0 n0 c0 x) (hb : IsN w A1 n1 c1 y) (hx : x < Lim) (hy : y < Lim) :
    Pure Tryz.prog 81 #[.slice A0 n0 c0, .slice A1 n1 c1] w fun v w' => ∃ A n c, v = .slice A n c ∧ IsN w' A n c (Nat.gcd x y) :=
  F.garboardref01_Common.vc _ _ _ _ _ _ _ _ (common_L1 (fun A n c w k => ⟨A, n, c, rfl, k⟩) y x w _ _ _ _ _ _ ha hb hx hy rfl)

def IsZ (w : World) (b : Bool) (A : Option Addr) (n c : Nat) (z : Int) : Prop := b = decide (z < 0) ∧ IsN w A n c z.natAbs
theorem IsZ.below {w w' : World} {b : Bool} {A : Option Addr} {n c : Nat} {z : Int} (h : IsZ w b A n c z) (hb : Below w.heap.size w w') : IsZ w' b A n c z := ⟨h.1, h.2.below hb⟩
theorem IsZ.ext {w w' : World} {B : Nat} {ts : List Nat} {b : Bool} {A : Option Addr} {n c : Nat} {z : Int} (h : IsZ w b A n c z) (e : Ext B ts w w') (ht : 112 ∉ ts) : IsZ w' b A n c z := ⟨h.1, h.2.ext e ht⟩
abbrev ZR (z : Int) (v : Value) (w : World) : Prop := ∃ b A n c, v = .agg #[.bool b, .slice A n c] ∧ IsZ w b A n c z

theorem ref2_Make {w : World} (b : Bool) {A : Option Addr} {n c x : Nat} (h : IsN w A n c x) : Pure Tryz.prog 109 #[.bool b, .slice A n c] w (ZR (if b then -(x : Int) else x)) := by
  have hp := h.pos_len
  refine F.garboardref02_Make.vc _ _ _ _ _ _ ⟨fun hb w2 x2 => ⟨_, _, _, _, rfl, ?_, ?_⟩, fun hb w2 x2 => ⟨_, _, _, _, rfl, ?_, ?_⟩⟩
  · rw [hb, if_pos rfl, decide_eq_decide]
    omega
  · rw [hb, if_pos rfl, Int.natAbs_neg, Int.natAbs_natCast]
    exact h.ext x2 (by decide)
  · rw [hb, if_neg (by decide)]
    symm
    exact decide_eq_false (by omega)
  · rw [hb, if_neg (by decide), Int.natAbs_natCast]
    exact h.ext x2 (by decide)
def sgn (z : Int) : Int := if z < 0 then -1 else if 0 < z then 1 else 0
theorem ref2_Signum {w : World} {b : Bool} {A : Option Addr} {n c : Nat} {z : Int} (h : IsZ w b A n c z) : Pure Tryz.prog 80 #[.agg #[.bool b, .slice A n c]] w fun v _ => v = .int .i64 (sgn z) := by
  obtain ⟨rfl, k⟩ := h
  have hp := k.pos_len
  unfold sgn
  refine F.garboardref02_Signum.vc _ _ _ _ _ _ ⟨fun hb w2 _ => ?_, fun hb => ⟨fun h w2 _ => ?_, fun h w2 _ => ?_⟩⟩
  · rw [if_pos (of_decide_eq_true hb)]
  · have hz : ¬ z < 0 := of_decide_eq_false hb
    rw [if_neg hz, if_pos (by omega)]
  · have hz : ¬ z < 0 := of_decide_eq_false hb
    rw [if_neg hz, if_neg (by omega)]
theorem ref2_Plus {w : World} {b0 b1 : Bool} {A0 A1 : Option Addr} {n0 c0 n1 c1 : Nat} {x y : Int} (hx : IsZ w b0 A0 n0 c0 x) (hy : IsZ w b1 A1 n1 c1 y) (lx : x.natAbs < Lim) (ly : y.natAbs < Lim) :
    Pure Tryz.prog 108 #[.agg #[.bool b0, .slice A0 n0 c0], .agg #[.bool b1, .slice A1 n1 c1]] w (ZR (x + y)) := by
  obtain ⟨rfl, kx⟩ := hx
  obtain ⟨rfl, ky⟩ := hy
  have made : ∀ (b : Bool) (t : Nat) (w1 : World) (A : Option Addr) (n c : Nat), IsN w1 A n c t → (if b then -(t : Int) else (t : Int)) = x + y → Pure Tryz.prog 109 #[.bool b, .slice A n c] w1 fun r7 w8 => ∃ (b5 : Bool) (A6 : Option Addr) (n6 c6 : Nat), r7 = (.agg #[(.bool b5), (.slice A6 n6 c6)]) ∧ (∀ w9, Ext w.heap.size [71] w8 w9 → ZR (x + y) (.agg #[(.bool b5), (.slice A6 n6 c6)]) w9) := by
    intro b t w1 A n c k e
    refine Pure.mono (ref2_Make b k) ?_
    rintro v w2 b2 ⟨b', A', n', c', rfl, q⟩
    rw [e] at q
    exact ⟨_, _, _, _, rfl, fun w3 x3 => ⟨_, _, _, _, rfl, q.ext x3 (by decide)⟩⟩
  refine F.garboardref02_Plus.vc _ _ _ _ _ _ _ _ _ _ ⟨fun h w1 x1 => ?_, fun h w1 x1 => ?_⟩
  · refine Pure.mono (ref_Plus (kx.ext x1 (by decide)) (ky.ext x1 (by decide)) lx ly) ?_
    rintro v w2 b2 ⟨A, n, c, rfl, k⟩
    refine ⟨_, _, _, rfl, made _ _ _ _ _ _ k ?_⟩
    have h' : (x < 0 ↔ y < 0) := by simpa using h
    by_cases hz : x < 0
    · rw [if_pos (decide_eq_true hz)]; omega
    · rw [if_neg (by simp [hz])]; omega
  have h' : ¬ (x < 0 ↔ y < 0) := by simpa using h
  refine Pure.mono (ref_Cmp (kx.ext x1 (by decide)) (ky.ext x1 (by decide)) lx ly) ?_
  rintro v w2 b2 rfl
  have kx2 := (kx.ext x1 (by decide)).below b2
  have ky2 := (ky.ext x1 (by decide)).below b2
  refine ⟨_, rfl, fun hc w3 x3 => ?_, fun hc w3 x3 => ?_⟩
  · have hle : y.natAbs ≤ x.natAbs := by
      simp only [cmpI] at hc
      split at hc <;> omega
    refine Pure.mono (ref_Minus (kx2.ext x3 (by decide)) (ky2.ext x3 (by decide)) lx hle) ?_
    rintro v w4 b4 ⟨A, n, c, rfl, k⟩
    refine ⟨_, _, _, rfl, made _ _ _ _ _ _ k ?_⟩
    by_cases hz : x < 0
    · rw [if_pos (decide_eq_true hz)]; omega
    · rw [if_neg (by simp [hz])]; omega
  · have hle : x.natAbs ≤ y.natAbs := by
      simp only [cmpI] at hc
      split at hc
      · omega
      · split at hc <;> omega
    refine Pure.mono (ref_Minus (ky2.ext x3 (by decide)) (kx2.ext x3 (by decide)) ly hle) ?_
    rintro v w4 b4 ⟨A, n, c, rfl, k⟩
    refine ⟨_, _, _, rfl, made _ _ _ _ _ _ k ?_⟩
    by_cases hz : y < 0
    · rw [if_pos (decide_eq_true hz)]; omega
    · rw [if_neg (by simp [hz])]; omega
theorem ref2_Times {w : World} {b0 b1 : Bool} {A0 A1 : Option Addr} {n0 c0 n1 c1 : Nat} {x y : Int} (hx : IsZ w b0 A0 n0 c0 x) (hy : IsZ w b1 A1 n1 c1 y) (lx : x.natAbs < Lim) (ly : y.natAbs < Lim) :
    Pure Tryz.prog 86 #[.agg #[.bool b0, .slice A0 n0 c0], .agg #[.bool b1, .slice A1 n1 c1]] w (ZR (x * y)) := by
  obtain ⟨rfl, kx⟩ := hx
  obtain ⟨rfl, ky⟩ := hy
  refine F.garboardref02_Times.vc _ _ _ _ _ _ _ _ _ _ fun w1 x1 => Pure.mono (ref_Times (kx.ext x1 (by decide)) (ky.ext x1 (by decide)) lx ly) ?_
  rintro v w2 b2 ⟨A, n, c, rfl, k, _⟩
  refine ⟨_, _, _, rfl, Pure.mono (ref2_Make _ k) ?_⟩
  rintro v w3 b3 ⟨b, A, n, c, rfl, k⟩
  refine ⟨_, _, _, _, rfl, fun w4 x4 => ⟨_, _, _, _, rfl, ?_⟩⟩
  have e : (if decide (¬ (decide (x < 0) = decide (y < 0))) = true then -((x.natAbs * y.natAbs : Nat) : Int) else ((x.natAbs * y.natAbs : Nat) : Int)) = x * y := by
    rw [← Int.natAbs_mul]
    by_cases h1 : x < 0 <;> by_cases h2 : y < 0
    · rw [if_neg (by simp [h1, h2])]
      have := Int.mul_nonneg (show 0 ≤ -x by omega) (show 0 ≤ -y by omega)
      rw [Int.neg_mul_neg] at this
      omega
    · rw [if_pos (by simp [h1, h2])]
      have : x * y ≤ 0 := Int.mul_nonpos_of_nonpos_of_nonneg (by omega) (by omega)
      omega
    · rw [if_pos (by simp [h1, h2])]
      have : x * y ≤ 0 := Int.mul_nonpos_of_nonneg_of_nonpos (by omega) (by omega)
      omega
    · rw [if_neg (by simp [h1, h2])]
      have : 0 ≤ x * y := Int.mul_nonneg (by omega) (by omega)
      omega
  rw [e] at k
  exact k.ext x4 (by decide)
theorem ref2_Small {w : World} {z : Int} (h : z.natAbs < 4294967296) : Pure Tryz.prog 82 #[.int .i64 z] w (ZR z) := by
  have fin : ∀ (b : Bool) (t : Nat) (w1 : World) (A : Option Addr) (n c : Nat), IsN w1 A n c t → (if b then -(t : Int) else (t : Int)) = z → Pure Tryz.prog 109 #[.bool b, .slice A n c] w1 fun r7 w8 => ∃ (b5 : Bool) (A6 : Option Addr) (n6 c6 : Nat), r7 = (.agg #[(.bool b5), (.slice A6 n6 c6)]) ∧ (∀ w9, Ext w.heap.size [71] w8 w9 → ZR z (.agg #[(.bool b5), (.slice A6 n6 c6)]) w9) := by
    intro b t w1 A n c k e
    refine Pure.mono (ref2_Make b k) ?_
    rintro v w2 b2 ⟨b', A', n', c', rfl, q⟩
    rw [e] at q
    exact ⟨_, _, _, _, rfl, fun w3 x3 => ⟨_, _, _, _, rfl, q.ext x3 (by decide)⟩⟩
  refine F.garboardref02_Small.vc _ _ _ ⟨fun h0 => ⟨by simp only [inR]; omega, by simp only [inR]; omega, fun w1 x1 => ?_⟩, fun h0 => ⟨by simp only [inR]; omega, fun w1 x1 => ?_⟩⟩
  · have e : -z = (z.natAbs : Int) := by omega
    rw [e]
    refine Pure.mono (ref_Small (x := z.natAbs) h) ?_
    rintro v w2 b2 ⟨A, n, c, rfl, k⟩
    exact ⟨_, _, _, rfl, fin true _ _ _ _ _ k (by rw [if_pos rfl]; omega)⟩
  · have e : z = (z.natAbs : Int) := by omega
    rw [e]
    refine Pure.mono (ref_Small (x := z.natAbs) h) ?_
    rintro v w2 b2 ⟨A, n, c, rfl, k⟩
    rw [← e]
    exact ⟨_, _, _, rfl, fin false _ _ _ _ _ k (by rw [if_neg (by decide)]; omega)⟩
end Go.Proofs.YtdnelnicnjplpaaGreatDoor.B

set_option maxRecDepth 100000
set_option maxHeartbeats 4000000
namespace Go.Proofs.YtdnelnicnjplpaaGreatDoor.F
open Go Go.RowKit Go.Proofs Go.Proofs.YtdnelnicnjplpaaGreatDoor.Vc
noncomputable def garboardref03_From.cx (w : World) (B : Nat) (R : Value → World → Prop) : Cx := ⟨Tryz.prog, 37, 60, Tryz.f37.results.toList, [], [], w, B, R⟩
theorem garboardref03_From.vc (u : ByteArray) (w : World) (R : Value → World → Prop)
    (h : (∀ v, Ext w.heap.size [] w v → (Pure P 73 #[.string u] v fun r5 w6 => ∃ i j l, r5 = .tuple #[.string i, .string j, .bool l] ∧ (Pure P 74 #[.string i] w6 fun r8 x => ∃ m, r8 = .bool m ∧ (((m = false) → (Pure P 38 #[.int .i64 0] x fun d1 d2 => ∃ y z A C D E G, d1 = .agg #[.bool y, .slice z A C, .slice D E G] ∧ (∀ H, Ext w.heap.size [73] d2 H → (R (.tuple #[.agg #[.bool y, .slice z A C, .slice D E G], .bool false]) H)))) ∧ (¬ (m = false) → (Pure P 75 #[.string j] x fun d3 I => ∃ n, d3 = .bool n ∧ (((n = false) → (Pure P 38 #[.int .i64 0] I fun d4 d5 => ∃ J K L M N O Q, d4 = .agg #[.bool J, .slice K L M, .slice N O Q] ∧ (∀ S, Ext w.heap.size [73] d5 S → (R (.tuple #[.agg #[.bool J, .slice K L M, .slice N O Q], .bool false]) S)))) ∧ (¬ (n = false) → (Pure P 76 #[.string i] I fun d6 d7 => ∃ g a b c, d6 = .agg #[.bool g, .slice a b c] ∧ (Pure P 77 #[.string j] d7 fun d8 T => ∃ d e f, d8 = .slice d e f ∧ (((l = false) → (∀ U, Ext w.heap.size [73] T U → (R (.tuple #[.agg #[.bool g, .slice a b c, .slice d e f], .bool true]) U))) ∧ (¬ (l = false) → (∀ V, Ext w.heap.size [] T V → (Pure P 78 #[(.int .u32 (1 : Int))] V fun d9 e0 => ∃ o p q, d9 = .slice o p q ∧ (Pure P 79 #[.slice d e f, .slice o p q] e0 fun e1 X => ∃ r, e1 = .int .i64 r ∧ (((r > 0) → (Pure P 80 #[.agg #[.bool g, .slice a b c]] X fun e2 Y => ∃ s, e2 = .int .i64 s ∧ (((s ≠ 0) → (Pure P 81 #[.slice a b c, .slice d e f] Y fun e3 e4 => ∃ Z a0 a1, e3 = .slice Z a0 a1 ∧ (Pure P 79 #[.slice Z a0 a1, .slice o p q] e4 fun e5 a2 => ∃ t, e5 = .int .i64 t ∧ (((¬ (t = 0)) → (Pure P 38 #[.int .i64 0] a2 fun e6 e7 => ∃ a3 a4 a5 a6 a7 a8 a9, e6 = .agg #[.bool a3, .slice a4 a5 a6, .slice a7 a8 a9] ∧ (∀ b0, Ext w.heap.size [73] e7 b0 → (R (.tuple #[.agg #[.bool a3, .slice a4 a5 a6, .slice a7 a8 a9], .bool false]) b0)))) ∧ (¬ (¬ (t = 0)) → (∀ b1, Ext w.heap.size [73] a2 b1 → (R (.tuple #[.agg #[.bool g, .slice a b c, .slice d e f], .bool true]) b1))))))) ∧ (¬ (s ≠ 0) → (Pure P 38 #[.int .i64 0] Y fun e8 e9 => ∃ b2 b3 b4 b5 b6 b7 b8, e8 = .agg #[.bool b2, .slice b3 b4 b5, .slice b6 b7 b8] ∧ (∀ b9, Ext w.heap.size [73] e9 b9 → (R (.tuple #[.agg #[.bool b2, .slice b3 b4 b5, .slice b6 b7 b8], .bool false]) b9))))))) ∧ (¬ (r > 0) → (Pure P 38 #[.int .i64 0] X fun f0 f1 => ∃ c0 c1 c2 c3 c4 c5 c6, f0 = .agg #[.bool c0, .slice c1 c2 c3, .slice c4 c5 c6] ∧ (∀ c7, Ext w.heap.size [73] f1 c7 → (R (.tuple #[.agg #[.bool c0, .slice c1 c2 c3, .slice c4 c5 c6], .bool false]) c7))))))))))))))))))))) :
    Pure P 37 #[.string u] w R :=
  pure_of_run (garboardref03_From.cx w w.heap.size R) 100000 follows Tryz.func37 rfl rfl rfl rfl rfl rfl rfl (Eq.mp (by kernel_rfl) h)

noncomputable def garboardref03_Int.cx (w : World) (B : Nat) (R : Value → World → Prop) : Cx := ⟨Tryz.prog, 38, 7, Tryz.f38.results.toList, [], [], w, B, R⟩
theorem garboardref03_Int.vc (a : Int) (w : World) (R : Value → World → Prop)
    (h : (∀ b, Ext w.heap.size [] w b → (Pure P 82 #[.int .i64 a] b fun m n => ∃ c d e f, m = .agg #[.bool c, .slice d e f] ∧ (Pure P 78 #[(.int .u32 (1 : Int))] n fun o p => ∃ g i j, o = .slice g i j ∧ (∀ l, Ext w.heap.size [73] p l → (R (.agg #[.bool c, .slice d e f, .slice g i j]) l)))))) :
    Pure P 38 #[.int .i64 a] w R :=
  pure_of_run (garboardref03_Int.cx w w.heap.size R) 100000 follows Tryz.func38 rfl rfl rfl rfl rfl rfl rfl (Eq.mp (by kernel_rfl) h)

noncomputable def garboardref03_To.cx (w : World) (B : Nat) (R : Value → World → Prop) : Cx := ⟨Tryz.prog, 39, 18, Tryz.f39.results.toList, [], [], w, B, R⟩
theorem garboardref03_To.vc (c : Bool) (d : Option Addr) (e f : Nat) (g : Option Addr) (i j : Nat) (w : World) (R : Value → World → Prop)
    (h : (∀ l, Ext w.heap.size [] w l → (Pure P 83 #[.agg #[.bool c, .slice d e f]] l fun n o => ∃ b, n = .string b ∧ (Pure P 84 #[.slice g i j] o fun p m => ∃ a, p = .string a ∧ (((a ≠ (⟨#[49]⟩ : ByteArray)) → (ByteArray.size (⟨#[47]⟩ : ByteArray) + ByteArray.size a ≤ 9223372036854775807 ∧ (ByteArray.size b + ByteArray.size ((⟨#[47]⟩ : ByteArray) ++ a) ≤ 9223372036854775807 ∧ (R (.string (b ++ ((⟨#[47]⟩ : ByteArray) ++ a))) m)))) ∧ (¬ (a ≠ (⟨#[49]⟩ : ByteArray)) → (R (.string b) m))))))) :
    Pure P 39 #[.agg #[.bool c, .slice d e f, .slice g i j]] w R :=
  pure_of_run (garboardref03_To.cx w w.heap.size R) 100000 follows Tryz.func39 rfl rfl rfl rfl rfl rfl rfl (Eq.mp (by kernel_rfl) h)

noncomputable def garboardref03_Mul.cx (w : World) (B : Nat) (R : Value → World → Prop) : Cx := ⟨Tryz.prog, 40, 16, Tryz.f40.results.toList, [], [], w, B, R⟩
theorem garboardref03_Mul.vc (a : Bool) (b : Option Addr) (c d : Nat) (e : Option Addr) (f g : Nat) (i : Bool) (j : Option Addr) (l m : Nat) (n : Option Addr) (o p : Nat) (w : World) (R : Value → World → Prop)
    (h : (∀ q, Ext w.heap.size [] w q → (Pure P 86 #[.agg #[.bool a, .slice b c d], .agg #[.bool i, .slice j l m]] q fun J K => ∃ r s t u, J = .agg #[.bool r, .slice s t u] ∧ (Pure P 87 #[.slice e f g, .slice n o p] K fun L M => ∃ v x y, L = .slice v x y ∧ (Pure P 85 #[.agg #[.bool r, .slice s t u], .slice v x y] M fun N O => ∃ z A C D E G H, N = .agg #[.bool z, .slice A C D, .slice E G H] ∧ (∀ I, Ext w.heap.size [73] O I → (R (.agg #[.bool z, .slice A C D, .slice E G H]) I))))))) :
    Pure P 40 #[.agg #[.bool a, .slice b c d, .slice e f g], .agg #[.bool i, .slice j l m, .slice n o p]] w R :=
  pure_of_run (garboardref03_Mul.cx w w.heap.size R) 100000 follows Tryz.func40 rfl rfl rfl rfl rfl rfl rfl (Eq.mp (by kernel_rfl) h)

noncomputable def garboardref03_Add.cx (w : World) (B : Nat) (R : Value → World → Prop) : Cx := ⟨Tryz.prog, 72, 50, Tryz.f72.results.toList, [], [], w, B, R⟩
theorem garboardref03_Add.vc (m : Bool) (n : Option Addr) (o p : Nat) (a : Option Addr) (b c : Nat) (g : Bool) (i : Option Addr) (j l : Nat) (d : Option Addr) (e f : Nat) (w : World) (R : Value → World → Prop)
    (h : (∀ V, Ext w.heap.size [] w V → (Pure P 79 #[.slice a b c, .slice d e f] V fun r3 E => ∃ G, r3 = .int .i64 G ∧ (((G = 0) → (∀ X, Ext w.heap.size [] E X → (Pure P 108 #[.agg #[.bool m, .slice n o p], .agg #[.bool g, .slice i j l]] X fun r8 w9 => ∃ Y Z n7 c7, r8 = .agg #[.bool Y, .slice Z n7 c7] ∧ (Pure P 85 #[.agg #[.bool Y, .slice Z n7 c7], .slice a b c] w9 fun C4 C5 => ∃ a2 a3 a4 a5 a6 a7 a8, C4 = .agg #[.bool a2, .slice a3 a4 a5, .slice a6 a7 a8] ∧ (∀ a9, Ext w.heap.size [73] C5 a9 → (R (.agg #[.bool a2, .slice a3 a4 a5, .slice a6 a7 a8]) a9)))))) ∧ (¬ (G = 0) → ((∀ b0, Ext w.heap.size [] E b0 → (Pure P 87 #[.slice n o p, .slice d e f] b0 fun C6 b1 => ∃ H I J, C6 = .slice H I J ∧ ((Pure P 109 #[.bool m, .slice H I J] b1 fun C7 b2 => ∃ q r s t, C7 = .agg #[.bool q, .slice r s t] ∧ ((∀ b3, Ext w.heap.size [] b2 b3 → (Pure P 87 #[.slice i j l, .slice a b c] b3 fun C8 b4 => ∃ K L M, C8 = .slice K L M ∧ ((Pure P 109 #[.bool g, .slice K L M] b4 fun C9 D0 => ∃ b5 b6 b7 b8, C9 = .agg #[.bool b5, .slice b6 b7 b8] ∧ (∀ b9, Ext w.heap.size [] D0 b9 → (Pure P 108 #[.agg #[.bool q, .slice r s t], .agg #[.bool b5, .slice b6 b7 b8]] b9 fun D1 D2 => ∃ c0 c1 c2 c3, D1 = .agg #[.bool c0, .slice c1 c2 c3] ∧ (Pure P 87 #[.slice a b c, .slice d e f] D2 fun D3 D4 => ∃ c4 c5 c6, D3 = .slice c4 c5 c6 ∧ (Pure P 85 #[.agg #[.bool c0, .slice c1 c2 c3], .slice c4 c5 c6] D4 fun D5 D6 => ∃ c7 c8 c9 d0 d1 d2 d3, D5 = .agg #[.bool c7, .slice c8 c9 d0, .slice d1 d2 d3] ∧ (∀ d4, Ext w.heap.size [73] D6 d4 → (R (.agg #[.bool c7, .slice c8 c9 d0, .slice d1 d2 d3]) d4))))))) ∧ (∀ d5, Ext w.heap.size [] b4 d5 → (Pure P 109 #[.bool g, .slice K L M] d5 fun D7 D8 => ∃ d6 d7 d8 d9, D7 = .agg #[.bool d6, .slice d7 d8 d9] ∧ (∀ e0, Ext w.heap.size [71] D8 e0 → (Pure P 108 #[.agg #[.bool q, .slice r s t], .agg #[.bool d6, .slice d7 d8 d9]] e0 fun D9 E0 => ∃ e1 e2 e3 e4, D9 = .agg #[.bool e1, .slice e2 e3 e4] ∧ (Pure P 87 #[.slice a b c, .slice d e f] E0 fun E1 E2 => ∃ e5 e6 e7, E1 = .slice e5 e6 e7 ∧ (Pure P 85 #[.agg #[.bool e1, .slice e2 e3 e4], .slice e5 e6 e7] E2 fun E3 E4 => ∃ e8 e9 f0 f1 f2 f3 f4, E3 = .agg #[.bool e8, .slice e9 f0 f1, .slice f2 f3 f4] ∧ (∀ f5, Ext w.heap.size [73] E4 f5 → (R (.agg #[.bool e8, .slice e9 f0 f1, .slice f2 f3 f4]) f5))))))))))) ∧ (∀ f6, Ext w.heap.size [] b2 f6 → (Pure P 87 #[.slice i j l, .slice a b c] f6 fun E5 E6 => ∃ f7 f8 f9, E5 = .slice f7 f8 f9 ∧ (Pure P 109 #[.bool g, .slice f7 f8 f9] E6 fun E7 E8 => ∃ g0 g1 g2 g3, E7 = .agg #[.bool g0, .slice g1 g2 g3] ∧ (∀ g4, Ext w.heap.size [71] E8 g4 → (Pure P 108 #[.agg #[.bool q, .slice r s t], .agg #[.bool g0, .slice g1 g2 g3]] g4 fun E9 G0 => ∃ g5 g6 g7 g8, E9 = .agg #[.bool g5, .slice g6 g7 g8] ∧ (Pure P 87 #[.slice a b c, .slice d e f] G0 fun G1 G2 => ∃ g9 j0 j1, G1 = .slice g9 j0 j1 ∧ (Pure P 85 #[.agg #[.bool g5, .slice g6 g7 g8], .slice g9 j0 j1] G2 fun G3 G4 => ∃ j2 j3 j4 j5 j6 j7 j8, G3 = .agg #[.bool j2, .slice j3 j4 j5, .slice j6 j7 j8] ∧ (∀ j9, Ext w.heap.size [73] G4 j9 → (R (.agg #[.bool j2, .slice j3 j4 j5, .slice j6 j7 j8]) j9))))))))))) ∧ (∀ l0, Ext w.heap.size [] b1 l0 → (Pure P 109 #[.bool m, .slice H I J] l0 fun G5 l1 => ∃ u v x y, G5 = .agg #[.bool u, .slice v x y] ∧ ((∀ l2, Ext w.heap.size [71] l1 l2 → (Pure P 87 #[.slice i j l, .slice a b c] l2 fun G6 l3 => ∃ N O Q, G6 = .slice N O Q ∧ ((Pure P 109 #[.bool g, .slice N O Q] l3 fun G7 G8 => ∃ l4 l5 l6 l7, G7 = .agg #[.bool l4, .slice l5 l6 l7] ∧ (∀ l8, Ext w.heap.size [] G8 l8 → (Pure P 108 #[.agg #[.bool u, .slice v x y], .agg #[.bool l4, .slice l5 l6 l7]] l8 fun G9 H0 => ∃ l9 m0 m1 m2, G9 = .agg #[.bool l9, .slice m0 m1 m2] ∧ (Pure P 87 #[.slice a b c, .slice d e f] H0 fun H1 H2 => ∃ m3 m4 m5, H1 = .slice m3 m4 m5 ∧ (Pure P 85 #[.agg #[.bool l9, .slice m0 m1 m2], .slice m3 m4 m5] H2 fun H3 H4 => ∃ m6 m7 m8 m9 n0 n1 n2, H3 = .agg #[.bool m6, .slice m7 m8 m9, .slice n0 n1 n2] ∧ (∀ n3, Ext w.heap.size [73] H4 n3 → (R (.agg #[.bool m6, .slice m7 m8 m9, .slice n0 n1 n2]) n3))))))) ∧ (∀ n4, Ext w.heap.size [] l3 n4 → (Pure P 109 #[.bool g, .slice N O Q] n4 fun H5 H6 => ∃ n5 n6 n7 n8, H5 = .agg #[.bool n5, .slice n6 n7 n8] ∧ (∀ n9, Ext w.heap.size [71] H6 n9 → (Pure P 108 #[.agg #[.bool u, .slice v x y], .agg #[.bool n5, .slice n6 n7 n8]] n9 fun H7 H8 => ∃ o0 o1 o2 o3, H7 = .agg #[.bool o0, .slice o1 o2 o3] ∧ (Pure P 87 #[.slice a b c, .slice d e f] H8 fun H9 I0 => ∃ o4 o5 o6, H9 = .slice o4 o5 o6 ∧ (Pure P 85 #[.agg #[.bool o0, .slice o1 o2 o3], .slice o4 o5 o6] I0 fun I1 I2 => ∃ o7 o8 o9 p0 p1 p2 p3, I1 = .agg #[.bool o7, .slice o8 o9 p0, .slice p1 p2 p3] ∧ (∀ p4, Ext w.heap.size [73] I2 p4 → (R (.agg #[.bool o7, .slice o8 o9 p0, .slice p1 p2 p3]) p4))))))))))) ∧ (∀ p5, Ext w.heap.size [71] l1 p5 → (Pure P 87 #[.slice i j l, .slice a b c] p5 fun I3 I4 => ∃ p6 p7 p8, I3 = .slice p6 p7 p8 ∧ (Pure P 109 #[.bool g, .slice p6 p7 p8] I4 fun I5 I6 => ∃ p9 q0 q1 q2, I5 = .agg #[.bool p9, .slice q0 q1 q2] ∧ (∀ q3, Ext w.heap.size [71] I6 q3 → (Pure P 108 #[.agg #[.bool u, .slice v x y], .agg #[.bool p9, .slice q0 q1 q2]] q3 fun I7 I8 => ∃ q4 q5 q6 q7, I7 = .agg #[.bool q4, .slice q5 q6 q7] ∧ (Pure P 87 #[.slice a b c, .slice d e f] I8 fun I9 J0 => ∃ q8 q9 r0, I9 = .slice q8 q9 r0 ∧ (Pure P 85 #[.agg #[.bool q4, .slice q5 q6 q7], .slice q8 q9 r0] J0 fun J1 J2 => ∃ r1 r2 r3 r4 r5 r6 r7, J1 = .agg #[.bool r1, .slice r2 r3 r4, .slice r5 r6 r7] ∧ (∀ r8, Ext w.heap.size [73] J2 r8 → (R (.agg #[.bool r1, .slice r2 r3 r4, .slice r5 r6 r7]) r8))))))))))))))) ∧ (∀ r9, Ext w.heap.size [] E r9 → (Pure P 87 #[.slice n o p, .slice d e f] r9 fun J3 J4 => ∃ s0 s1 s2, J3 = .slice s0 s1 s2 ∧ (Pure P 109 #[.bool m, .slice s0 s1 s2] J4 fun J5 s3 => ∃ z A C D, J5 = .agg #[.bool z, .slice A C D] ∧ ((∀ s4, Ext w.heap.size [71] s3 s4 → (Pure P 87 #[.slice i j l, .slice a b c] s4 fun J6 s5 => ∃ S T U, J6 = .slice S T U ∧ ((Pure P 109 #[.bool g, .slice S T U] s5 fun J7 J8 => ∃ s6 s7 s8 s9, J7 = .agg #[.bool s6, .slice s7 s8 s9] ∧ (∀ t0, Ext w.heap.size [] J8 t0 → (Pure P 108 #[.agg #[.bool z, .slice A C D], .agg #[.bool s6, .slice s7 s8 s9]] t0 fun J9 K0 => ∃ t1 t2 t3 t4, J9 = .agg #[.bool t1, .slice t2 t3 t4] ∧ (Pure P 87 #[.slice a b c, .slice d e f] K0 fun K1 K2 => ∃ t5 t6 t7, K1 = .slice t5 t6 t7 ∧ (Pure P 85 #[.agg #[.bool t1, .slice t2 t3 t4], .slice t5 t6 t7] K2 fun K3 K4 => ∃ t8 t9 v0 v1 v2 v3 v4, K3 = .agg #[.bool t8, .slice t9 v0 v1, .slice v2 v3 v4] ∧ (∀ v5, Ext w.heap.size [73] K4 v5 → (R (.agg #[.bool t8, .slice t9 v0 v1, .slice v2 v3 v4]) v5))))))) ∧ (∀ v6, Ext w.heap.size [] s5 v6 → (Pure P 109 #[.bool g, .slice S T U] v6 fun K5 K6 => ∃ v7 v8 v9 x0, K5 = .agg #[.bool v7, .slice v8 v9 x0] ∧ (∀ x1, Ext w.heap.size [71] K6 x1 → (Pure P 108 #[.agg #[.bool z, .slice A C D], .agg #[.bool v7, .slice v8 v9 x0]] x1 fun K7 K8 => ∃ x2 x3 x4 x5, K7 = .agg #[.bool x2, .slice x3 x4 x5] ∧ (Pure P 87 #[.slice a b c, .slice d e f] K8 fun K9 M0 => ∃ x6 x7 x8, K9 = .slice x6 x7 x8 ∧ (Pure P 85 #[.agg #[.bool x2, .slice x3 x4 x5], .slice x6 x7 x8] M0 fun M1 M2 => ∃ x9 y0 y1 y2 y3 y4 y5, M1 = .agg #[.bool x9, .slice y0 y1 y2, .slice y3 y4 y5] ∧ (∀ y6, Ext w.heap.size [73] M2 y6 → (R (.agg #[.bool x9, .slice y0 y1 y2, .slice y3 y4 y5]) y6))))))))))) ∧ (∀ y7, Ext w.heap.size [71] s3 y7 → (Pure P 87 #[.slice i j l, .slice a b c] y7 fun M3 M4 => ∃ y8 y9 z0, M3 = .slice y8 y9 z0 ∧ (Pure P 109 #[.bool g, .slice y8 y9 z0] M4 fun M5 M6 => ∃ z1 z2 z3 z4, M5 = .agg #[.bool z1, .slice z2 z3 z4] ∧ (∀ z5, Ext w.heap.size [71] M6 z5 → (Pure P 108 #[.agg #[.bool z, .slice A C D], .agg #[.bool z1, .slice z2 z3 z4]] z5 fun M7 M8 => ∃ z6 z7 z8 z9, M7 = .agg #[.bool z6, .slice z7 z8 z9] ∧ (Pure P 87 #[.slice a b c, .slice d e f] M8 fun M9 N0 => ∃ A0 A1 A2, M9 = .slice A0 A1 A2 ∧ (Pure P 85 #[.agg #[.bool z6, .slice z7 z8 z9], .slice A0 A1 A2] N0 fun N1 N2 => ∃ A3 A4 A5 A6 A7 A8 A9, N1 = .agg #[.bool A3, .slice A4 A5 A6, .slice A7 A8 A9] ∧ (∀ C0, Ext w.heap.size [73] N2 C0 → (R (.agg #[.bool A3, .slice A4 A5 A6, .slice A7 A8 A9]) C0))))))))))))))))))) :
    Pure P 72 #[.agg #[.bool m, .slice n o p, .slice a b c], .agg #[.bool g, .slice i j l, .slice d e f]] w R :=
  pure_of_run (garboardref03_Add.cx w w.heap.size R) 100000 follows Tryz.func72 rfl rfl rfl rfl rfl rfl rfl (Eq.mp (by kernel_rfl) h)

def garboardref03_split.L2 (a : ByteArray) (b : Int) (B : Nat) (w : World) (R : Value → World → Prop) : Prop := At Tryz.prog 73 24 (loopAt Tryz.f73 2) [(0, .v (.string a)), (5, .v (.int .i64 b))] [] B w R
noncomputable def garboardref03_split.cx (w : World) (B : Nat) (R : Value → World → Prop) : Cx := ⟨Tryz.prog, 73, 24, Tryz.f73.results.toList, [((true, 2), [0, 5], [])], [], w, B, R⟩
theorem garboardref03_split.L2.step (b : ByteArray) (a : Int) (B : Nat) (w : World) (R : Value → World → Prop)
    (h : (((a < (ByteArray.size b : Int)) → ((0 ≤ a ∧ a < (ByteArray.size b : Int)) ∧ (((((bt b a) : Int) = 47) → ((0 ≤ a ∧ a ≤ (ByteArray.size b : Int)) ∧ (inR .i64 (a + 1) ∧ ((0 ≤ (a + 1) ∧ (a + 1) ≤ (ByteArray.size b : Int)) ∧ (∀ c, Ext B [] w c → (R (.tuple #[(.string (ByteArray.extract b 0 (a).toNat)), (.string (ByteArray.extract b ((a + 1)).toNat (ByteArray.size b))), .bool true]) c)))))) ∧ (¬ (((bt b a) : Int) = 47) → (inR .i64 (a + 1) ∧ (garboardref03_split.L2 b (a + 1) B w R)))))) ∧ (¬ (a < (ByteArray.size b : Int)) → (R (.tuple #[.string b, (.string ⟨#[49]⟩), .bool false]) w)))) :
    garboardref03_split.L2 b a B w R :=
  loop_of_run (garboardref03_split.cx w B R) 100000 (loopAt Tryz.f73 2) _ _ follows Tryz.func73 rfl rfl rfl (Eq.mp (by kernel_rfl) h)
theorem garboardref03_split.vc (a : ByteArray) (w : World) (R : Value → World → Prop)
    (h : (garboardref03_split.L2 a (0 : Int) w.heap.size w R)) :
    Pure P 73 #[.string a] w R :=
  pure_of_run (garboardref03_split.cx w w.heap.size R) 100000 follows Tryz.func73 rfl rfl rfl rfl rfl rfl rfl (Eq.mp (by kernel_rfl) h)

noncomputable def garboardref03_lowest.cx (w : World) (B : Nat) (R : Value → World → Prop) : Cx := ⟨Tryz.prog, 85, 45, Tryz.f85.results.toList, [], [], w, B, R⟩
theorem garboardref03_lowest.vc (l : Bool) (c : Option Addr) (d e : Nat) (f : Option Addr) (g i : Nat) (w : World) (R : Value → World → Prop)
    (h : (∀ o, Ext w.heap.size [] w o → (Pure P 81 #[.slice c d e, .slice f g i] o fun S m => ∃ b a j, S = .slice b a j ∧ ((((a : Int) = 1) → ((0 ≤ (0 : Int) ∧ (0 : Int) < a) ∧ ∃ p, b = some p ∧ (∃ n, CellsAt m (p.add (((0 : Int)).toNat * 1)) [.int .u32 n] ∧ (((n = 1) → (∀ q, Ext w.heap.size [73] m q → (R (.agg #[.bool l, .slice c d e, .slice f g i]) q))) ∧ (¬ (n = 1) → (Pure P 113 #[.slice c d e, .slice b a j] m fun T U => ∃ r s t V X Y, T = .tuple #[.slice r s t, .slice V X Y] ∧ (Pure P 113 #[.slice f g i, .slice b a j] U fun Z a0 => ∃ u v x a1 a2 a3, Z = .tuple #[.slice u v x, .slice a1 a2 a3] ∧ (Pure P 109 #[.bool l, .slice r s t] a0 fun a4 a5 => ∃ y z A C, a4 = .agg #[.bool y, .slice z A C] ∧ (∀ D, Ext w.heap.size [73] a5 D → (R (.agg #[.bool y, .slice z A C, .slice u v x]) D)))))))))) ∧ (¬ ((a : Int) = 1) → (Pure P 113 #[.slice c d e, .slice b a j] m fun a6 a7 => ∃ E G H a8 a9 b0, a6 = .tuple #[.slice E G H, .slice a8 a9 b0] ∧ (Pure P 113 #[.slice f g i, .slice b a j] a7 fun b1 b2 => ∃ I J K b3 b4 b5, b1 = .tuple #[.slice I J K, .slice b3 b4 b5] ∧ (Pure P 109 #[.bool l, .slice E G H] b2 fun b6 b7 => ∃ L M N O, b6 = .agg #[.bool L, .slice M N O] ∧ (∀ Q, Ext w.heap.size [73] b7 Q → (R (.agg #[.bool L, .slice M N O, .slice I J K]) Q)))))))))) :
    Pure P 85 #[.agg #[.bool l, .slice c d e], .slice f g i] w R :=
  pure_of_run (garboardref03_lowest.cx w w.heap.size R) 100000 follows Tryz.func85 rfl rfl rfl rfl rfl rfl rfl (Eq.mp (by kernel_rfl) h)

end Go.Proofs.YtdnelnicnjplpaaGreatDoor.F

namespace Go.Proofs.YtdnelnicnjplpaaGreatDoor.B
open Go Go.RowKit Go.Proofs Go.Proofs.YtdnelnicnjplpaaGreatDoor.Vc

theorem head_by {s : ByteArray} (h : 0 < s.size) : bt s 0 = 45 ↔ (by_ s).head? = some 45 := by
  obtain ⟨c, hc, hb, _⟩ := bt_get (s := s) (i := 0) (by omega) (by omega)
  have e : (by_ s).head? = some c := by rw [List.head?_eq_getElem?]; exact hc
  rw [hb, e]
  constructor
  · intro h
    have h2 : c.toNat = 45 := by omega
    exact congrArg some (UInt8.toNat_inj.1 h2)
  · intro h
    cases h
    rfl
theorem by_tail {s : ByteArray} : by_ (s.extract ((1 : Int)).toNat s.size) = (by_ s).tail := by
  rw [by_extract, List.take_of_length_le (by rw [size_by]; omega)]
  cases by_ s <;> rfl
theorem isInt_of_head {t : Tx} (h : t.head? = some 45) : isInt t = (isNat t.tail && t.tail != [48]) := by unfold isInt; rw [if_pos h]
theorem isInt_of_not {t : Tx} (h : ¬ t.head? = some 45) : isInt t = isNat t := by unfold isInt; rw [if_neg h]

theorem ref2_Valid (s : ByteArray) (hs : s.size < 2147483648) (w : World) : Pure Tryz.prog 74 #[.string s] w fun v _ => v = .bool (isInt (by_ s)) := by
  have ht : ∀ w1, Pure Tryz.prog 75 #[.string s] w1 fun v _ => v = .bool (isNat (by_ s)) := fun w1 => ref_Valid s hs w1
  refine F.garboardref02_Valid.vc _ _ _ ⟨fun h1 => ⟨⟨by omega, by omega⟩, fun h2 => ⟨fun h3 => ⟨⟨by omega, by omega⟩, ?_⟩, fun h3 => ?_⟩, fun h2 => ?_⟩, fun h1 => ?_⟩
  · have hh := (head_by (by omega)).1 h2
    refine Pure.mono (ref_Valid _ (by rw [size_by, by_tail]; have := size_by s; simp; omega) w) ?_
    rintro v w2 _ rfl
    refine ⟨_, rfl, ?_⟩
    rw [by_tail, isInt_of_head hh]
    have hne : ((by_ s).tail != [48]) = true := by
      rw [bne_iff_ne]
      intro k
      refine h3 (by_inj ?_)
      show by_ s = [45, 48]
      cases hb : by_ s with
      | nil => rw [hb] at hh; cases hh
      | cons c r => rw [hb] at hh k; simp at hh k; rw [hh, k]
    rw [hne, Bool.and_true]
  · have e : s = ⟨#[45, 48]⟩ := Decidable.not_not.1 h3
    subst e
    refine congrArg Value.bool ?_
    decide
  · have hh : ¬ (by_ s).head? = some 45 := fun k => h2 ((head_by (by omega)).2 k)
    refine Pure.mono (ht w) ?_
    rintro v w2 _ rfl
    exact ⟨_, rfl, by rw [isInt_of_not hh]⟩
  · refine Pure.mono (ht w) ?_
    rintro v w2 _ rfl
    refine ⟨_, rfl, ?_⟩
    by_cases hh : (by_ s).head? = some 45
    · rw [isInt_of_head hh]
      have hl : (by_ s).length ≤ 1 := by rw [← size_by]; omega
      cases hb : by_ s with
      | nil => rw [hb] at hh; cases hh
      | cons c r =>
        rw [hb] at hh hl
        simp at hh hl
        subst hh
        subst hl
        rfl
    · rw [isInt_of_not hh]
theorem ref2_Read {s : ByteArray} (hs : s.size ≤ 900000) (h : isInt (by_ s) = true) (w : World) : Pure Tryz.prog 76 #[.string s] w (ZR (valI (by_ s))) := by
  have hne : by_ s ≠ [] := fun e => by rw [e] at h; cases h
  have hpos : 0 < s.size := by rw [size_by]; exact List.length_pos_iff.2 hne
  refine F.garboardref02_Read.vc _ _ _ ⟨⟨by omega, by omega⟩, fun h2 => ⟨⟨by omega, by omega⟩, fun w1 x1 => ?_⟩, fun h2 w1 x1 => ?_⟩
  · have hh := (head_by hpos).1 h2
    rw [isInt_of_head hh, Bool.and_eq_true] at h
    have hv : valI (by_ s) = -(valD (by_ s).tail : Int) := by unfold valI; rw [if_pos hh]
    refine Pure.mono (ref_From (by rw [size_by, by_tail]; have := size_by s; simp; omega) (by rw [by_tail]; exact h.1)) ?_
    rintro v w2 b2 ⟨A, n, c, rfl, k⟩
    rw [by_tail] at k
    refine ⟨_, _, _, rfl, fun w3 x3 => ⟨_, _, _, _, rfl, ?_, ?_⟩⟩
    · have h0 : valD (by_ s).tail ≠ 0 := fun e => by
        have := natT_of h.1
        rw [e, natT_0] at this
        rw [← this] at h
        exact absurd h.2 (by decide)
      symm
      exact decide_eq_true (by omega)
    · rw [hv, Int.natAbs_neg, Int.natAbs_natCast]
      exact k.ext x3 (by decide)
  · have hh : ¬ (by_ s).head? = some 45 := fun k => h2 ((head_by hpos).2 k)
    rw [isInt_of_not hh] at h
    have hv : valI (by_ s) = (valD (by_ s) : Int) := by unfold valI; rw [if_neg hh]
    refine Pure.mono (ref_From hs h) ?_
    rintro v w2 b2 ⟨A, n, c, rfl, k⟩
    refine ⟨_, _, _, rfl, fun w3 x3 => ⟨_, _, _, _, rfl, ?_, ?_⟩⟩
    · symm
      exact decide_eq_false (by omega)
    · rw [hv, Int.natAbs_natCast]
      exact k.ext x3 (by decide)

def IsQ (w : World) (b : Bool) (A : Option Addr) (n c : Nat) (A' : Option Addr) (n' c' : Nat) (r : Rat) : Prop := IsZ w b A n c r.num ∧ IsN w A' n' c' r.den
theorem IsQ.below {w w' : World} {b : Bool} {A A' : Option Addr} {n c n' c' : Nat} {r : Rat} (h : IsQ w b A n c A' n' c' r) (hb : Below w.heap.size w w') : IsQ w' b A n c A' n' c' r := ⟨h.1.below hb, h.2.below hb⟩
theorem IsQ.ext {w w' : World} {B : Nat} {ts : List Nat} {b : Bool} {A A' : Option Addr} {n c n' c' : Nat} {r : Rat} (h : IsQ w b A n c A' n' c' r) (e : Ext B ts w w') (ht : 112 ∉ ts) : IsQ w' b A n c A' n' c' r := ⟨h.1.ext e ht, h.2.ext e ht⟩
abbrev QR (r : Rat) (v : Value) (w : World) : Prop := ∃ b A n c A' n' c', v = .agg #[.bool b, .slice A n c, .slice A' n' c'] ∧ IsQ w b A n c A' n' c' r

theorem int_of_abs (z : Int) (g : Nat) (h : g ∣ z.natAbs) : (if decide (z < 0) = true then -((z.natAbs / g : Nat) : Int) else ((z.natAbs / g : Nat) : Int)) = z / (g : Int) := by
  obtain ⟨k, hk⟩ := h
  by_cases hg : g = 0
  · subst hg; simp
  have hk2 : z.natAbs / g = k := by rw [hk, Nat.mul_div_cancel_left _ (by omega)]
  rw [hk2]
  by_cases hz : z < 0
  · rw [if_pos (decide_eq_true hz)]
    have e : z = (g : Int) * (-(k : Int)) := by
      have : (z.natAbs : Int) = (g : Int) * (k : Int) := by rw [hk]; simp
      rw [Int.mul_neg]
      omega
    rw [e, Int.mul_ediv_cancel_left _ (by omega)]
  · rw [if_neg (by simp [hz])]
    have e : z = (g : Int) * (k : Int) := by
      have : (z.natAbs : Int) = (g : Int) * (k : Int) := by rw [hk]; simp
      omega
    rw [e, Int.mul_ediv_cancel_left _ (by omega)]

theorem ref3_lowest {w : World} {b : Bool} {A A1 : Option Addr} {n c n1 c1 : Nat} {p : Int} {d : Nat} (hp : IsZ w b A n c p) (hd : IsN w A1 n1 c1 d) (hd0 : d ≠ 0) (lp : p.natAbs < Lim) (ld : d < Lim) :
    Pure Tryz.prog 85 #[.agg #[.bool b, .slice A n c], .slice A1 n1 c1] w (QR (mkRat p d)) := by
  obtain ⟨en, ed⟩ := mkRat_red (p := p) hd0
  have hp' := hp
  obtain ⟨rfl, kp⟩ := hp'
  refine F.garboardref03_lowest.vc _ _ _ _ _ _ _ _ _ fun w1 x1 => Pure.mono (ref_Common (kp.ext x1 (by decide)) (hd.ext x1 (by decide)) lp ld) ?_
  rintro v w2 b2 ⟨A2, n2, c2, rfl, kg⟩
  obtain ⟨g, hg⟩ : ∃ g, g = Nat.gcd p.natAbs d := ⟨_, rfl⟩
  rw [← hg] at kg en ed
  have hg0 : g ≠ 0 := fun e => by
    rw [e] at hg
    exact hd0 (Nat.eq_zero_of_gcd_eq_zero_right hg.symm)
  have gp : g ∣ p.natAbs := by rw [hg]; exact Nat.gcd_dvd_left _ _
  have gd : g ∣ d := by rw [hg]; exact Nat.gcd_dvd_right _ _
  have lg : g < Lim := Nat.lt_of_le_of_lt (Nat.le_of_dvd (by omega) gd) ld
  have kp2 := (kp.ext x1 (by decide)).below b2
  have kd2 := (hd.ext x1 (by decide)).below b2
  have rest : Pure Tryz.prog 113 #[.slice A n c, .slice A2 n2 c2] w2 fun r10 w11 => ∃ (A8 : Option Addr) (n8 c8 : Nat) (A9 : Option Addr) (n9 c9 : Nat), r10 = (.tuple #[(.slice A8 n8 c8), (.slice A9 n9 c9)]) ∧ (Pure Tryz.prog 113 #[(.slice A1 n1 c1), (.slice A2 n2 c2)] w11 fun r14 w15 => ∃ (A12 : Option Addr) (n12 c12 : Nat) (A13 : Option Addr) (n13 c13 : Nat), r14 = (.tuple #[(.slice A12 n12 c12), (.slice A13 n13 c13)]) ∧ (Pure Tryz.prog 109 #[(.bool (decide (p < 0))), (.slice A8 n8 c8)] w15 fun r18 w19 => ∃ (b16 : Bool) (A17 : Option Addr) (n17 c17 : Nat), r18 = (.agg #[(.bool b16), (.slice A17 n17 c17)]) ∧ (∀ w20, Ext w.heap.size [73] w19 w20 → (QR (mkRat p d) (.agg #[(.bool b16), (.slice A17 n17 c17), (.slice A12 n12 c12)]) w20)))) := by
    refine Pure.mono (ref_Over kp2 kg lp lg hg0) ?_
    rintro v w3 b3 ⟨A8, n8, c8, A9, n9, c9, rfl, k8, _⟩
    refine ⟨_, _, _, _, _, _, rfl, Pure.mono (ref_Over (kd2.below b3) (kg.below b3) ld lg hg0) ?_⟩
    rintro v w4 b4 ⟨A12, n12, c12, A13, n13, c13, rfl, k12, _⟩
    refine ⟨_, _, _, _, _, _, rfl, Pure.mono (ref2_Make _ (k8.below b4)) ?_⟩
    rintro v w5 b5 ⟨b, A, n, c, rfl, k⟩
    refine ⟨_, _, _, _, rfl, fun w6 x6 => ⟨_, _, _, _, _, _, _, rfl, ?_, ?_⟩⟩
    · rw [int_of_abs p g gp, ← en] at k
      exact k.ext x6 (by decide)
    · rw [ed]
      exact (k12.below b5).ext x6 (by decide)
  refine ⟨_, _, _, rfl, fun h1 => ?_, fun _ => rest⟩
  obtain ⟨ws, q1, q2, q3, q4, q5, q6, q7⟩ := kg
  refine q1.load q2 (by omega) (by omega) ?_
  have e : ws.getD (Int.toNat 0) 0 = g := by
    obtain ⟨z, rfl⟩ := List.length_eq_one_iff.1 (by omega : ws.length = 1)
    simpa [wv] using q7
  rw [e]
  refine ⟨fun hone w3 x3 => ?_, fun _ => rest⟩
  have hg1 : g = 1 := by omega
  rw [hg1] at en ed
  refine ⟨_, _, _, _, _, _, _, rfl, ?_, ?_⟩
  · have e1 : (mkRat p d).num = p := by rw [en]; simp
    rw [e1]
    exact ((hp.ext x1 (by decide)).below b2).ext x3 (by decide)
  · have e1 : (mkRat p d).den = d := by rw [ed]; simp
    rw [e1]
    exact kd2.ext x3 (by decide)

theorem lim_of {k x : Nat} (h : x < 10 ^ k) (hk : k ≤ 900000) : x < Lim := lt_lim h hk
theorem ref3_Mul {w : World} {b0 b1 : Bool} {A0 A1 A0' A1' : Option Addr} {n0 c0 n1 c1 n0' c0' n1' c1' : Nat} {x y : Rat} (hx : IsQ w b0 A0 n0 c0 A0' n0' c0' x) (hy : IsQ w b1 A1 n1 c1 A1' n1' c1' y) (sx : Sm 100000 x) (sy : Sm 100000 y) :
    Pure Tryz.prog 40 #[.agg #[.bool b0, .slice A0 n0 c0, .slice A0' n0' c0'], .agg #[.bool b1, .slice A1 n1 c1, .slice A1' n1' c1']] w (QR (x * y)) := by
  have l1 := lim_of sx.1 (by omega)
  have l2 := lim_of sy.1 (by omega)
  have l3 := lim_of sx.2 (by omega)
  have l4 := lim_of sy.2 (by omega)
  refine F.garboardref03_Mul.vc _ _ _ _ _ _ _ _ _ _ _ _ _ _ _ _ fun w1 x1 => Pure.mono (ref2_Times (hx.1.ext x1 (by decide)) (hy.1.ext x1 (by decide)) l1 l2) ?_
  rintro v w2 b2 ⟨b, A, n, c, rfl, k⟩
  refine ⟨_, _, _, _, rfl, Pure.mono (ref_Times ((hx.2.ext x1 (by decide)).below b2) ((hy.2.ext x1 (by decide)).below b2) l3 l4) ?_⟩
  rintro v w3 b3 ⟨A', n', c', rfl, k', _⟩
  refine ⟨_, _, _, rfl, Pure.mono (ref3_lowest (k.below b3) k' (den_mul_ne x y) (by rw [Int.natAbs_mul]; exact lim_of (mul_lt_pow sx.1 sy.1) (by omega)) (lim_of (den_mul_lt sx sy) (by omega))) ?_⟩
  rintro v w4 b4 ⟨b, A, n, c, A', n', c', rfl, q⟩
  refine ⟨_, _, _, _, _, _, _, rfl, fun w5 x5 => ⟨_, _, _, _, _, _, _, rfl, ?_⟩⟩
  rw [Rat.mul_def']
  exact q.ext x5 (by decide)
theorem ref3_Int {w : World} {z : Int} (h : z.natAbs < 4294967296) : Pure Tryz.prog 38 #[.int .i64 z] w (QR (z : Rat)) := by
  refine F.garboardref03_Int.vc _ _ _ fun w1 x1 => Pure.mono (ref2_Small h) ?_
  rintro v w2 b2 ⟨b, A, n, c, rfl, k⟩
  refine ⟨_, _, _, _, rfl, Pure.mono (ref_Small (x := 1) (by omega)) ?_⟩
  rintro v w3 b3 ⟨A', n', c', rfl, k'⟩
  exact ⟨_, _, _, rfl, fun w4 x4 => ⟨_, _, _, _, _, _, _, rfl, (k.below b3).ext x4 (by decide), k'.ext x4 (by decide)⟩⟩
end Go.Proofs.YtdnelnicnjplpaaGreatDoor.B

namespace Go.Proofs.YtdnelnicnjplpaaGreatDoor.B
open Go Go.RowKit Go.Proofs Go.Proofs.YtdnelnicnjplpaaGreatDoor.Vc

def crossT (B : Nat) (b1 : Bool) (L : Bool → Option Addr → Nat → Nat → World → Prop) (ts : List Nat) (A : Option Addr) (n c : Nat) (w : World) : Prop :=
  Pure Tryz.prog 109 #[.bool b1, .slice A n c] w fun r w31 => ∃ (b28 : Bool) (A29 : Option Addr) (n29 c29 : Nat), r = .agg #[.bool b28, .slice A29 n29 c29] ∧ ∀ w32, Ext B ts w31 w32 → L b28 A29 n29 c29 w32
def cross2 (B : Nat) (b1 : Bool) (A1 : Option Addr) (n1 c1 : Nat) (A0' : Option Addr) (n0' c0' : Nat) (L : Bool → Option Addr → Nat → Nat → World → Prop) (ts : List Nat) (w : World) : Prop :=
  (∀ w24, Ext B ts w w24 → Pure Tryz.prog 87 #[.slice A1 n1 c1, .slice A0' n0' c0'] w24 fun r w27 => ∃ (A25 : Option Addr) (n25 c25 : Nat), r = .slice A25 n25 c25 ∧ (crossT B b1 L [] A25 n25 c25 w27 ∧ ∀ w46, Ext B [] w27 w46 → crossT B b1 L [71] A25 n25 c25 w46)) ∧
  (∀ w65, Ext B ts w w65 → Pure Tryz.prog 87 #[.slice A1 n1 c1, .slice A0' n0' c0'] w65 fun r w68 => ∃ (A66 : Option Addr) (n66 c66 : Nat), r = .slice A66 n66 c66 ∧ crossT B b1 L [71] A66 n66 c66 w68)
def cross1 (B : Nat) (b0 : Bool) (A0 : Option Addr) (n0 c0 : Nat) (A0' : Option Addr) (n0' c0' : Nat) (b1 : Bool) (A1 : Option Addr) (n1 c1 : Nat) (A1' : Option Addr) (n1' c1' : Nat) (L : Bool → Option Addr → Nat → Nat → Bool → Option Addr → Nat → Nat → World → Prop) (w : World) : Prop :=
  (∀ w16, Ext B [] w w16 → Pure Tryz.prog 87 #[.slice A0 n0 c0, .slice A1' n1' c1'] w16 fun r w19 => ∃ (A17 : Option Addr) (n17 c17 : Nat), r = .slice A17 n17 c17 ∧
    ((Pure Tryz.prog 109 #[.bool b0, .slice A17 n17 c17] w19 fun r w23 => ∃ (b20 : Bool) (A21 : Option Addr) (n21 c21 : Nat), r = .agg #[.bool b20, .slice A21 n21 c21] ∧ cross2 B b1 A1 n1 c1 A0' n0' c0' (L b20 A21 n21 c21) [] w23) ∧
    ∀ w87, Ext B [] w19 w87 → Pure Tryz.prog 109 #[.bool b0, .slice A17 n17 c17] w87 fun r w91 => ∃ (b88 : Bool) (A89 : Option Addr) (n89 c89 : Nat), r = .agg #[.bool b88, .slice A89 n89 c89] ∧ cross2 B b1 A1 n1 c1 A0' n0' c0' (L b88 A89 n89 c89) [71] w91)) ∧
  (∀ w155, Ext B [] w w155 → Pure Tryz.prog 87 #[.slice A0 n0 c0, .slice A1' n1' c1'] w155 fun r w158 => ∃ (A156 : Option Addr) (n156 c156 : Nat), r = .slice A156 n156 c156 ∧
    (Pure Tryz.prog 109 #[.bool b0, .slice A156 n156 c156] w158 fun r w162 => ∃ (b159 : Bool) (A160 : Option Addr) (n160 c160 : Nat), r = .agg #[.bool b159, .slice A160 n160 c160] ∧ cross2 B b1 A1 n1 c1 A0' n0' c0' (L b159 A160 n160 c160) [71] w162))

theorem add_lt_pow {a b j : Nat} (ha : a < 10 ^ j) (hb : b < 10 ^ j) : a + b < 10 ^ (j + j + 1) := by
  have h4 : 10 ^ j ≤ 10 ^ (j + j) := Nat.pow_le_pow_right (by omega) (by omega)
  rw [Nat.pow_succ]
  omega
theorem sign_mul (p : Int) (d : Nat) : (if decide (p < 0) = true then -((p.natAbs * d : Nat) : Int) else ((p.natAbs * d : Nat) : Int)) = p * (d : Int) := by
  by_cases hp : p < 0
  · rw [if_pos (decide_eq_true hp)]
    have e : p = -(p.natAbs : Int) := by omega
    conv => rhs; rw [e]
    rw [Int.natCast_mul, Int.neg_mul]
  · rw [if_neg (by simp [hp])]
    have e : p = (p.natAbs : Int) := by omega
    conv => rhs; rw [e]
    simp
section
variable {B : Nat} {b0 b1 : Bool} {A0 A1 A0' A1' : Option Addr} {n0 c0 n1 c1 n0' c0' n1' c1' : Nat} {x y : Rat}
theorem zn : 112 ∉ [71] := by decide
theorem cross2_ok {w : World} {L : Bool → Option Addr → Nat → Nat → World → Prop} {K : World → Prop} {ts : List Nat} (ht : 112 ∉ ts) (hK : ∀ w w', K w → Below w.heap.size w w' → K w') (hKe : ∀ ts w w', 112 ∉ ts → K w → Ext B ts w w' → K w')
    (hx : IsQ w b0 A0 n0 c0 A0' n0' c0' x) (hy : IsQ w b1 A1 n1 c1 A1' n1' c1' y) (lx : x.den < Lim) (ly : y.num.natAbs < Lim) (hk : K w)
    (hL : ∀ b A n c w', IsZ w' b A n c (y.num * (x.den : Int)) → IsQ w' b0 A0 n0 c0 A0' n0' c0' x → IsQ w' b1 A1 n1 c1 A1' n1' c1' y → K w' → L b A n c w') : cross2 B b1 A1 n1 c1 A0' n0' c0' L ts w := by
  have make : ∀ (ts : List Nat) (w1 : World) (A : Option Addr) (n c : Nat), 112 ∉ ts → IsN w1 A n c (y.num.natAbs * x.den) → IsQ w1 b0 A0 n0 c0 A0' n0' c0' x → IsQ w1 b1 A1 n1 c1 A1' n1' c1' y → K w1 → crossT B b1 L ts A n c w1 := by
    intro ts w1 A n c ht k hx hy hk
    refine Pure.mono (ref2_Make b1 k) ?_
    rintro v w2 b2 ⟨b, A, n, c, rfl, q⟩
    refine ⟨_, _, _, _, rfl, fun w3 x3 => hL _ _ _ _ _ ?_ ((hx.below b2).ext x3 ht) ((hy.below b2).ext x3 ht) (hKe _ _ _ ht (hK _ _ hk b2) x3)⟩
    rw [hy.1.1, sign_mul] at q
    exact q.ext x3 ht
  refine ⟨fun w1 x1 => ?_, fun w1 x1 => ?_⟩
  · refine Pure.mono (ref_Times ((hy.ext x1 ht).1.2) ((hx.ext x1 ht).2) ly lx) ?_
    rintro v w2 b2 ⟨A, n, c, rfl, k, _⟩
    have hx2 := (hx.ext x1 ht).below b2
    have hy2 := (hy.ext x1 ht).below b2
    have hk2 := hK _ _ (hKe _ _ _ ht hk x1) b2
    exact ⟨_, _, _, rfl, make _ _ _ _ _ (by simp) k hx2 hy2 hk2, fun w3 x3 => make _ _ _ _ _ zn (k.ext x3 (by simp)) (hx2.ext x3 (by simp)) (hy2.ext x3 (by simp)) (hKe _ _ _ (by simp) hk2 x3)⟩
  · refine Pure.mono (ref_Times ((hy.ext x1 ht).1.2) ((hx.ext x1 ht).2) ly lx) ?_
    rintro v w2 b2 ⟨A, n, c, rfl, k, _⟩
    exact ⟨_, _, _, rfl, make _ _ _ _ _ zn k ((hx.ext x1 ht).below b2) ((hy.ext x1 ht).below b2) (hK _ _ (hKe _ _ _ ht hk x1) b2)⟩
theorem cross1_ok {w : World} {L : Bool → Option Addr → Nat → Nat → Bool → Option Addr → Nat → Nat → World → Prop}
    (hx : IsQ w b0 A0 n0 c0 A0' n0' c0' x) (hy : IsQ w b1 A1 n1 c1 A1' n1' c1' y) (lx : x.den < Lim) (ly : y.num.natAbs < Lim) (lx2 : x.num.natAbs < Lim) (ly2 : y.den < Lim)
    (hL : ∀ b A n c b' A' n' c' w', IsZ w' b A n c (x.num * (y.den : Int)) → IsZ w' b' A' n' c' (y.num * (x.den : Int)) → IsQ w' b0 A0 n0 c0 A0' n0' c0' x → IsQ w' b1 A1 n1 c1 A1' n1' c1' y → L b A n c b' A' n' c' w') : cross1 B b0 A0 n0 c0 A0' n0' c0' b1 A1 n1 c1 A1' n1' c1' L w := by
  have make : ∀ (ts : List Nat) (w1 : World) (A : Option Addr) (n c : Nat), 112 ∉ ts → IsN w1 A n c (x.num.natAbs * y.den) → IsQ w1 b0 A0 n0 c0 A0' n0' c0' x → IsQ w1 b1 A1 n1 c1 A1' n1' c1' y →
      Pure Tryz.prog 109 #[.bool b0, .slice A n c] w1 fun r w23 => ∃ (b20 : Bool) (A21 : Option Addr) (n21 c21 : Nat), r = .agg #[.bool b20, .slice A21 n21 c21] ∧ cross2 B b1 A1 n1 c1 A0' n0' c0' (L b20 A21 n21 c21) ts w23 := by
    intro ts w1 A n c ht k hx hy
    refine Pure.mono (ref2_Make b0 k) ?_
    rintro v w2 b2 ⟨b, A, n, c, rfl, q⟩
    rw [hx.1.1, sign_mul] at q
    exact ⟨_, _, _, _, rfl, cross2_ok (K := fun w' => IsZ w' b A n c (x.num * (y.den : Int))) ht (fun _ _ h hb => h.below hb) (fun _ _ _ ht h e => h.ext e ht) (hx.below b2) (hy.below b2) lx ly q fun b' A' n' c' w' k1 k2 k3 k4 => hL _ _ _ _ _ _ _ _ _ k4 k1 k2 k3⟩
  refine ⟨fun w1 x1 => ?_, fun w1 x1 => ?_⟩
  · refine Pure.mono (ref_Times ((hx.ext x1 (by simp)).1.2) ((hy.ext x1 (by simp)).2) lx2 ly2) ?_
    rintro v w2 b2 ⟨A, n, c, rfl, k, _⟩
    have hx2 := (hx.ext x1 (by simp)).below b2
    have hy2 := (hy.ext x1 (by simp)).below b2
    exact ⟨_, _, _, rfl, make _ _ _ _ _ (by simp) k hx2 hy2, fun w3 x3 => make _ _ _ _ _ zn (k.ext x3 (by simp)) (hx2.ext x3 (by simp)) (hy2.ext x3 (by simp))⟩
  · refine Pure.mono (ref_Times ((hx.ext x1 (by simp)).1.2) ((hy.ext x1 (by simp)).2) lx2 ly2) ?_
    rintro v w2 b2 ⟨A, n, c, rfl, k, _⟩
    exact ⟨_, _, _, rfl, make _ _ _ _ _ zn k ((hx.ext x1 (by simp)).below b2) ((hy.ext x1 (by simp)).below b2)⟩
end

theorem ref3_Add {w : World} {b0 b1 : Bool} {A0 A1 A0' A1' : Option Addr} {n0 c0 n1 c1 n0' c0' n1' c1' : Nat} {x y : Rat} (hx : IsQ w b0 A0 n0 c0 A0' n0' c0' x) (hy : IsQ w b1 A1 n1 c1 A1' n1' c1' y) (sx : Sm 100000 x) (sy : Sm 100000 y) :
    Pure Tryz.prog 72 #[.agg #[.bool b0, .slice A0 n0 c0, .slice A0' n0' c0'], .agg #[.bool b1, .slice A1 n1 c1, .slice A1' n1' c1']] w (QR (x + y)) := by
  have l1 := lim_of sx.1 (by omega)
  have l2 := lim_of sy.1 (by omega)
  have l3 := lim_of sx.2 (by omega)
  have l4 := lim_of sy.2 (by omega)
  refine F.garboardref03_Add.vc _ _ _ _ _ _ _ _ _ _ _ _ _ _ _ _ fun w1 x1 => Pure.mono (ref_Cmp (hx.ext x1 (by decide)).2 (hy.ext x1 (by decide)).2 l3 l4) ?_
  rintro v w2 b2 rfl
  have hx2 := (hx.ext x1 (by decide)).below b2
  have hy2 := (hy.ext x1 (by decide)).below b2
  refine ⟨_, rfl, fun h w3 x3 => ?_, fun h => ?_⟩
  · have hd : x.den = y.den := by
      simp only [cmpI] at h
      split at h
      · omega
      · split at h <;> omega
    have hs : (x.num + y.num).natAbs < Lim := lim_of (Nat.lt_of_le_of_lt (Int.natAbs_add_le x.num y.num) (add_lt_pow sx.1 sy.1)) (by omega)
    refine Pure.mono (ref2_Plus (hx2.ext x3 (by decide)).1 (hy2.ext x3 (by decide)).1 l1 l2) ?_
    rintro v w4 b4 ⟨b, A, n, c, rfl, k⟩
    refine ⟨_, _, _, _, rfl, Pure.mono (ref3_lowest k ((hx2.ext x3 (by decide)).below b4).2 x.den_nz hs l3) ?_⟩
    rintro v w5 b5 ⟨b, A, n, c, A', n', c', rfl, q⟩
    refine ⟨_, _, _, _, _, _, _, rfl, fun w6 x6 => ⟨_, _, _, _, _, _, _, rfl, ?_⟩⟩
    rw [add_same hd]
    exact q.ext x6 (by decide)
  · refine cross1_ok (L := fun b20 A21 n21 c21 b28 A29 n29 c29 w32 => Pure Tryz.prog 108 #[.agg #[.bool b20, .slice A21 n21 c21], .agg #[.bool b28, .slice A29 n29 c29]] w32 fun r35 w36 => ∃ (b33 : Bool) (A34 : Option Addr) (n34 c34 : Nat), r35 = (.agg #[(.bool b33), (.slice A34 n34 c34)]) ∧
      (Pure Tryz.prog 87 #[(.slice A0' n0' c0'), (.slice A1' n1' c1')] w36 fun r38 w39 => ∃ (A37 : Option Addr) (n37 c37 : Nat), r38 = (.slice A37 n37 c37) ∧ (Pure Tryz.prog 85 #[(.agg #[(.bool b33), (.slice A34 n34 c34)]), (.slice A37 n37 c37)] w39 fun r43 w44 => ∃ (b40 : Bool) (A41 : Option Addr) (n41 c41 : Nat) (A42 : Option Addr) (n42 c42 : Nat), r43 = (.agg #[(.bool b40), (.slice A41 n41 c41), (.slice A42 n42 c42)]) ∧ (∀ w45, Ext w.heap.size [73] w44 w45 → (QR (x + y) (.agg #[(.bool b40), (.slice A41 n41 c41), (.slice A42 n42 c42)]) w45))))) hx2 hy2 l3 l2 l1 l4 fun b A n c b' A' n' c' w' k1 k2 k3 k4 => ?_
    refine Pure.mono (ref2_Plus k1 k2 (by rw [Int.natAbs_mul, Int.natAbs_natCast]; exact lim_of (mul_lt_pow sx.1 sy.2) (by omega)) (by rw [Int.natAbs_mul, Int.natAbs_natCast]; exact lim_of (mul_lt_pow sy.1 sx.2) (by omega))) ?_
    rintro v w4 b4 ⟨b, A, n, c, rfl, k⟩
    refine ⟨_, _, _, _, rfl, Pure.mono (ref_Times (k3.below b4).2 (k4.below b4).2 l3 l4) ?_⟩
    rintro v w5 b5 ⟨A', n', c', rfl, k', _⟩
    refine ⟨_, _, _, rfl, Pure.mono (ref3_lowest (k.below b5) k' (den_mul_ne x y) (lim_of (add_num_lt sx sy) (by omega)) (lim_of (den_mul_lt sx sy) (by omega))) ?_⟩
    rintro v w6 b6 ⟨b, A, n, c, A', n', c', rfl, q⟩
    refine ⟨_, _, _, _, _, _, _, rfl, fun w7 x7 => ⟨_, _, _, _, _, _, _, rfl, ?_⟩⟩
    rw [Rat.add_def']
    exact q.ext x7 (by decide)
end Go.Proofs.YtdnelnicnjplpaaGreatDoor.B

namespace Go.Proofs.YtdnelnicnjplpaaGreatDoor.B
open Go Go.RowKit Go.Proofs Go.Proofs.YtdnelnicnjplpaaGreatDoor.Vc

theorem split_at {l : Tx} {i : Nat} (h : l[i]? = some 47) (hn : 47 ∉ l.take i) : bef l = l.take i ∧ aft l = l.drop (i + 1) := by
  obtain ⟨hi, e⟩ := List.getElem?_eq_some_iff.1 h
  have e1 : l = l.take i ++ 47 :: l.drop (i + 1) := by rw [← e, ← List.drop_eq_getElem_cons hi, List.take_append_drop]
  constructor
  · conv => lhs; rw [e1]
    exact bef_app hn
  · conv => lhs; rw [e1]
    exact aft_app hn
theorem split_loop {B : Nat} {w : World} (s : ByteArray) (hs : s.size < 2147483648) {R : Value → World → Prop} (h1 : 47 ∈ by_ s → ∀ w1, Ext B [] w w1 → R (.tuple #[.string (st (bef (by_ s))), .string (st (aft (by_ s))), .bool true]) w1) (h2 : 47 ∉ by_ s → R (.tuple #[.string s, .string ⟨#[49]⟩, .bool false]) w) :
    ∀ (d i : Nat), s.size - i = d → i ≤ s.size → 47 ∉ (by_ s).take i → F.garboardref03_split.L2 s i B w R := by
  intro d
  induction d with
  | zero =>
    intro i hd hi hn
    rw [List.take_of_length_le (by rw [← size_by]; omega)] at hn
    exact F.garboardref03_split.L2.step _ _ _ _ _ ⟨fun h => by omega, fun _ => h2 hn⟩
  | succ d ih =>
    intro i hd hi hn
    obtain ⟨c, hc, hb, hdr⟩ := bt_get (s := s) (i := (i : Int)) (by omega) (by omega)
    rw [Int.toNat_natCast] at hc
    have hil : i < (by_ s).length := by rw [← size_by]; omega
    refine F.garboardref03_split.L2.step _ _ _ _ _ ⟨fun _ => ⟨⟨by omega, by omega⟩, fun h => ⟨⟨by omega, by omega⟩, by simp only [inR]; omega, ⟨by omega, by omega⟩, fun w1 x1 => ?_⟩, fun h => ⟨by simp only [inR]; omega, ?_⟩⟩, fun h => by omega⟩
    · rw [hb] at h
      have hc47 : c = 47 := UInt8.toNat_inj.1 (show c.toNat = 47 by omega)
      subst hc47
      obtain ⟨q1, q2⟩ := split_at hc hn
      have e1 : ByteArray.extract s 0 ((i : Int)).toNat = st (bef (by_ s)) := by
        apply by_inj
        rw [by_extract, by_st, q1, Int.toNat_natCast]
        rfl
      have e2 : ByteArray.extract s ((i : Int) + 1).toNat s.size = st (aft (by_ s)) := by
        apply by_inj
        rw [by_extract, by_st, q2, List.take_of_length_le (by rw [size_by]; omega), show ((i : Int) + 1).toNat = i + 1 by omega]
      rw [e1, e2]
      exact h1 (List.mem_of_getElem? hc) w1 x1
    · have e3 : (i : Int) + 1 = ((i + 1 : Nat) : Int) := by omega
      rw [e3]
      refine ih (i + 1) (by omega) (by omega) ?_
      rw [List.take_add_one, hc]
      simp only [Option.toList_some, List.mem_append, List.mem_singleton, not_or]
      refine ⟨hn, fun e => h ?_⟩
      rw [hb, ← e]
      rfl
theorem ref3_split (s : ByteArray) (hs : s.size < 2147483648) (w : World) : Pure Tryz.prog 73 #[.string s] w fun v _ => (47 ∈ by_ s → v = .tuple #[.string (st (bef (by_ s))), .string (st (aft (by_ s))), .bool true]) ∧ (47 ∉ by_ s → v = .tuple #[.string s, .string ⟨#[49]⟩, .bool false]) :=
  F.garboardref03_split.vc _ _ _ (split_loop s hs (fun h _ _ => ⟨fun _ => rfl, fun k => absurd h k⟩) (fun h => ⟨fun k => absurd k h, fun _ => rfl⟩) s.size 0 (by omega) (by omega) (by simp))

theorem bef_len (t : Tx) : (bef t).length ≤ t.length := (List.takeWhile_sublist _).length_le
theorem aft_len (t : Tx) : (aft t).length ≤ t.length := by
  unfold aft
  have := (List.dropWhile_sublist (p := (· != 47)) (l := t)).length_le
  rw [List.length_tail]
  omega
theorem lt_valD {t : Tx} (h : isNat t = true) : valD t < 10 ^ t.length := by
  have := lt_natT (valD t)
  rwa [natT_of h] at this
theorem lt_valI {t : Tx} (h : isInt t = true) : (valI t).natAbs < 10 ^ t.length := by
  have := lt_intT (valI t)
  rwa [intT_of h] at this

theorem ref3_FromL (s : ByteArray) (hs' : s.size ≤ 300000) (w : World) : Pure Tryz.prog 37 #[.string s] w fun v w' => ∃ b A n c A' n' c', v = .tuple #[.agg #[.bool b, .slice A n c, .slice A' n' c'], .bool (vR s)] ∧ (vR s = true → IsQ w' b A n c A' n' c' (qR s)) := by
  have hsl := size_by s
  have inv : vR s = false → ∀ w1, Pure Tryz.prog 38 #[.int .i64 (0 : Int)] w1 fun r13 w14 => ∃ (b10 : Bool) (A11 : Option Addr) (n11 c11 : Nat) (A12 : Option Addr) (n12 c12 : Nat), r13 = (.agg #[(.bool b10), (.slice A11 n11 c11), (.slice A12 n12 c12)]) ∧ (∀ w15, Ext w.heap.size [73] w14 w15 →
      (∃ b A n c A' n' c', (.tuple #[(.agg #[(.bool b10), (.slice A11 n11 c11), (.slice A12 n12 c12)]), (.bool false)] : Value) = .tuple #[.agg #[.bool b, .slice A n c, .slice A' n' c'], .bool (vR s)] ∧ (vR s = true → IsQ w15 b A n c A' n' c' (qR s)))) := by
    intro hv w1
    refine Pure.mono (ref3_Int (z := 0) (by decide)) ?_
    rintro v w2 _ ⟨b, A, n, c, A', n', c', rfl, _⟩
    exact ⟨_, _, _, _, _, _, _, rfl, fun w3 _ => ⟨_, _, _, _, _, _, _, by rw [hv], fun k => by rw [hv] at k; cases k⟩⟩
  refine F.garboardref03_From.vc _ _ _ fun w1 x1 => Pure.mono (ref3_split s (by omega) w1) ?_
  rintro v w2 b2 ⟨hsl1, hsl2⟩
  by_cases h47 : 47 ∈ by_ s
  · have hv := hsl1 h47
    subst hv
    have lb := bef_len (by_ s)
    have la := aft_len (by_ s)
    have hrat : vR s = (isInt (bef (by_ s)) && bef (by_ s) != [48] && isNat (aft (by_ s)) && aft (by_ s) != [48] && aft (by_ s) != [49] && Nat.gcd (valI (bef (by_ s))).natAbs (valD (aft (by_ s))) == 1) := by
      unfold vR isRat
      rw [if_pos h47]
    refine ⟨_, _, _, rfl, Pure.mono (ref2_Valid (st (bef (by_ s))) (by rw [size_by, by_st]; omega) w2) ?_⟩
    rintro v w3 b3 rfl
    rw [by_st]
    refine ⟨_, rfl, fun h1 => inv (by rw [hrat, h1]; rfl) w3, fun h1 => ?_⟩
    have h1 : isInt (bef (by_ s)) = true := by simpa using h1
    refine Pure.mono (ref_Valid (st (aft (by_ s))) (by rw [size_by, by_st]; omega) w3) ?_
    rintro v w4 b4 rfl
    rw [by_st]
    refine ⟨_, rfl, fun h2 => inv (by rw [hrat, h2]; simp) w4, fun h2 => ?_⟩
    have h2 : isNat (aft (by_ s)) = true := by simpa using h2
    refine Pure.mono (ref2_Read (s := st (bef (by_ s))) (by rw [size_by, by_st]; omega) h1 w4) ?_
    rintro v w5 b5 ⟨b, A, n, c, rfl, kp⟩
    rw [by_st] at kp
    refine ⟨_, _, _, _, rfl, Pure.mono (ref_From (s := st (aft (by_ s))) (by rw [size_by, by_st]; omega) h2) ?_⟩
    rintro v w6 b6 ⟨A', n', c', rfl, kd⟩
    rw [by_st] at kd
    have kp6 := kp.below b6
    obtain ⟨p, hp⟩ : ∃ p, p = valI (bef (by_ s)) := ⟨_, rfl⟩
    obtain ⟨d, hd⟩ : ∃ d, d = valD (aft (by_ s)) := ⟨_, rfl⟩
    have lp : p.natAbs < Lim := by rw [hp]; exact lim_of (lt_valI h1) (by omega)
    have ld : d < Lim := by rw [hd]; exact lim_of (lt_valD h2) (by omega)
    have l1 : 1 < Lim := lim_of (k := 1) (by decide) (by omega)
    rw [← hp] at kp6 hrat
    rw [← hd] at kd hrat
    rw [h1, h2] at hrat
    have np : (bef (by_ s) != [48]) = decide (p ≠ 0) := by
      rw [hp]
      have e := intT_of h1
      by_cases h0 : valI (bef (by_ s)) = 0
      · rw [h0] at e ⊢
        rw [← e]
        decide +kernel
      · have : bef (by_ s) ≠ [48] := fun k => h0 (intT_zero_iff.1 (by rw [e]; exact k))
        rw [decide_eq_true h0]
        simpa using this
    have nd : (aft (by_ s) != [48] && aft (by_ s) != [49]) = decide (1 < d) := by
      rw [hd]
      have e := natT_of h2
      by_cases h0 : 1 < valD (aft (by_ s))
      · rw [decide_eq_true h0]
        have k0 : aft (by_ s) ≠ [48] := fun k => by
          have := natT_zero_iff.1 (e.trans k)
          omega
        have k1 : aft (by_ s) ≠ [49] := fun k => by
          have := natT_one_iff.1 (e.trans k)
          omega
        simp [k0, k1]
      · rw [decide_eq_false h0]
        rcases (by omega : valD (aft (by_ s)) = 0 ∨ valD (aft (by_ s)) = 1) with k | k
        · rw [k, natT_0] at e; rw [← e]; rfl
        · rw [k, natT_1] at e; rw [← e]; rfl
    have hrat2 : vR s = (decide (p ≠ 0) && decide (1 < d) && (Nat.gcd p.natAbs d == 1)) := by
      rw [hrat, np, ← nd]
      simp [Bool.and_assoc]
    refine ⟨_, _, _, rfl, fun h => absurd h (by decide), fun _ w7 x7 => Pure.mono (ref_Small (x := 1) (by omega)) ?_⟩
    rintro v w8 b8 ⟨A1, n1, c1, rfl, k1⟩
    have kp8 := (kp6.ext x7 (by decide)).below b8
    have kd8 := (kd.ext x7 (by decide)).below b8
    refine ⟨_, _, _, rfl, Pure.mono (ref_Cmp kd8 k1 ld l1) ?_⟩
    rintro v w9 b9 rfl
    refine ⟨_, rfl, fun hc => ?_, fun hc => inv ?_ w9⟩
    · have hd1 : 1 < d := by
        simp only [cmpI] at hc
        split at hc
        · omega
        · split at hc <;> omega
      refine Pure.mono (ref2_Signum (kp8.below b9)) ?_
      rintro v w10 b10 rfl
      refine ⟨_, rfl, fun hg => ?_, fun hg => inv ?_ w10⟩
      · have hp0 : p ≠ 0 := fun k => hg (by rw [k]; rfl)
        refine Pure.mono (ref_Common ((kp8.below b9).below b10).2 ((kd8.below b9).below b10) lp ld) ?_
        rintro v w11 b11 ⟨A2, n2, c2, rfl, kg⟩
        have lg : Nat.gcd p.natAbs d < Lim := Nat.lt_of_le_of_lt (Nat.le_of_dvd (by omega) (Nat.gcd_dvd_right _ _)) ld
        refine ⟨_, _, _, rfl, Pure.mono (ref_Cmp kg (((k1.below b9).below b10).below b11) lg l1) ?_⟩
        rintro v w12 b12 rfl
        refine ⟨_, rfl, fun hne => inv ?_ w12, fun he w13 x13 => ?_⟩
        · have : Nat.gcd p.natAbs d ≠ 1 := fun k => hne (by rw [k]; rfl)
          rw [hrat2]
          have : (Nat.gcd p.natAbs d == 1) = false := by simpa using this
          rw [this, Bool.and_false]
        · have hg1 : Nat.gcd p.natAbs d = 1 := by
            have he := Decidable.not_not.1 he
            simp only [cmpI] at he
            split at he
            · omega
            · split at he <;> omega
          have hT : vR s = true := by rw [hrat2, decide_eq_true hp0, decide_eq_true hd1, hg1]; rfl
          refine ⟨_, _, _, _, _, _, _, by rw [hT], fun _ => ?_⟩
          have eq : qR s = mkRat p d := by
            unfold qR valR
            rw [if_pos h47, hp, hd]
          obtain ⟨en, ed⟩ := mkRat_red (p := p) (show d ≠ 0 by omega)
          rw [hg1] at en ed
          rw [eq]
          refine ⟨?_, ?_⟩
          · rw [show (mkRat p d).num = p by rw [en]; simp]
            exact ((((kp8.below b9).below b10).below b11).below b12).ext x13 (by decide)
          · rw [show (mkRat p d).den = d by rw [ed]; simp]
            exact ((((kd8.below b9).below b10).below b11).below b12).ext x13 (by decide)
      · have : p = 0 := by
          have hg := Decidable.not_not.1 hg
          unfold sgn at hg
          split at hg
          · omega
          · split at hg <;> omega
        rw [hrat2, this]
        rfl
    · have : ¬ 1 < d := by
        intro k
        apply hc
        simp only [cmpI]
        rw [if_neg (by omega), if_pos (by omega)]
        decide
      rw [hrat2, decide_eq_false this, Bool.and_false, Bool.false_and]
  · have hv := hsl2 h47
    subst hv
    have hrat : vR s = isInt (by_ s) := by
      unfold vR isRat
      rw [if_neg h47]
    refine ⟨_, _, _, rfl, Pure.mono (ref2_Valid s (by omega) w2) ?_⟩
    rintro v w3 b3 rfl
    refine ⟨_, rfl, fun h1 => inv (by rw [hrat, h1]) w3, fun h1 => ?_⟩
    have h1 : isInt (by_ s) = true := by simpa using h1
    refine Pure.mono (ref_Valid ⟨#[49]⟩ (by decide) w3) ?_
    rintro v w4 b4 rfl
    refine ⟨_, rfl, fun h => absurd h (by decide), fun _ => ?_⟩
    refine Pure.mono (ref2_Read (s := s) (by omega) h1 w4) ?_
    rintro v w5 b5 ⟨b, A, n, c, rfl, kp⟩
    refine ⟨_, _, _, _, rfl, Pure.mono (ref_From (s := ⟨#[49]⟩) (by decide) (by decide)) ?_⟩
    rintro v w6 b6 ⟨A', n', c', rfl, kd⟩
    have kp6 := kp.below b6
    refine ⟨_, _, _, rfl, fun _ w7 x7 => ⟨_, _, _, _, _, _, _, by rw [hrat, h1], fun _ => ?_⟩, fun h => absurd rfl h⟩
    have eq : qR s = (valI (by_ s) : Rat) := by
      unfold qR valR
      rw [if_neg h47]
    rw [eq]
    exact ⟨kp6.ext x7 (by decide), kd.ext x7 (by decide)⟩
theorem ref3_From (s : ByteArray) (hs : SmS s) (w : World) : Pure Tryz.prog 37 #[.string s] w fun v w' => ∃ b A n c A' n' c', v = .tuple #[.agg #[.bool b, .slice A n c, .slice A' n' c'], .bool (vR s)] ∧ (vR s = true → IsQ w' b A n c A' n' c' (qR s)) := ref3_FromL s (Nat.le_trans hs (by decide)) w
end Go.Proofs.YtdnelnicnjplpaaGreatDoor.B

namespace Go.Proofs.YtdnelnicnjplpaaGreatDoor.B
open Go Go.RowKit Go.Proofs Go.Proofs.YtdnelnicnjplpaaGreatDoor.Vc

def lows (x : Nat) : Tx := if x = 0 then [] else (natT x).reverse
theorem lows_succ {x : Nat} (h : x ≠ 0) : lows x = UInt8.ofNat (48 + x % 10) :: lows (x / 10) := by
  unfold lows
  rw [if_neg h]
  by_cases h10 : x < 10
  · rw [natT_small h10, if_pos (by omega), Nat.mod_eq_of_lt h10]
    rfl
  · rw [natT_big h10, if_neg (by omega), List.reverse_append]
    rfl
def outR : List Nat → Tx
  | [] => []
  | [x] => lows x
  | x :: y :: r => (digs 9 x).reverse ++ outR (y :: r)
theorem outR_eq : ∀ (ws : List Nat), Small ws → Norm ws → ws ≠ [] → outR ws = (natT (wv ws)).reverse := by
  intro ws
  induction ws with
  | nil => intro _ _ h; exact absurd rfl h
  | cons x r ih =>
    intro hs hn _
    cases r with
    | nil =>
      have hx : x ≠ 0 := fun e => by subst e; exact hn rfl
      rw [outR, lows, if_neg hx]
      simp [wv]
    | cons y r =>
      have hs' : Small (y :: r) := fun z hz => hs z (by simp [hz])
      have hn' : Norm (y :: r) := by
        intro e
        apply hn
        rw [List.getLast?_cons_cons]
        exact e
      have hx : x < 1000000000 := hs x (by simp)
      have hp := wv_pos hn' (by simp)
      have hq : 0 < wv (y :: r) := Nat.lt_of_lt_of_le (Nat.pow_pos (by omega)) hp
      have e : wv (x :: y :: r) = wv (y :: r) * 10 ^ 9 + x := by have : wv (x :: y :: r) = x + 1000000000 * wv (y :: r) := rfl; omega
      rw [outR, ih hs' hn' (by simp), e, natT_shift _ hq 9 x (by omega), List.reverse_append]
theorem digs_rev (k x : Nat) : (digs (k + 1) x).reverse = UInt8.ofNat (48 + x % 10) :: (digs k (x / 10)).reverse := by
  rw [digs, List.reverse_append]
  rfl

abbrev u8row (d : UInt8) : List Value := [.int .u8 (d.toNat : Int)]
theorem el_Bytes : El Tryz.prog 145 5 1 1 := El.of (by kernel_rfl)
theorem dig_int (x : Nat) : (48 : Int) + (x : Int) % 10 = ((UInt8.ofNat (48 + x % 10)).toNat : Int) := by
  have : (UInt8.ofNat (48 + x % 10)).toNat = 48 + x % 10 := by
    rw [UInt8.toNat_ofNat']
    omega
  omega

section
variable {w0 : World} {A0 : Option Addr} {n0 c0 : Nat} {ws : List Nat} {R : Value → World → Prop}

theorem to_L9 {i : Nat} (hi : i < n0) (hn : n0 ≤ 100000) {T : Tx} (hT : T.length ≤ 1000000) (hR : ∀ w A n c, Below w0.heap.size w0 w → OwnR w w0.heap.size 5 A n c 1 (T.map u8row) → F.garboardref01_To.L5 A0 n0 c0 A n c ((i : Int) + 1) w0.heap.size w R) :
    ∀ (d k x : Nat) (w : World) (A : Option Addr) (n c : Nat) (out : Tx), 9 - k = d → k ≤ 9 → x < 10 ^ (9 - k) → Below w0.heap.size w0 w → OwnR w w0.heap.size 5 A n c 1 (out.map u8row) → out ++ (if i + 1 < n0 then (digs (9 - k) x).reverse else lows x) = T →
      F.garboardref01_To.L9 A0 n0 c0 A n c i x k w0.heap.size w R := by
  intro d
  induction d with
  | zero =>
    intro k x w A n c out hd hk hx hw ho he
    have hk9 : k = 9 := by omega
    subst hk9
    have hx0 : x = 0 := by simpa using hx
    subst hx0
    have e : out = T := by
      rw [← he]
      split <;> simp [digs, lows]
    rw [e] at ho
    exact F.garboardref01_To.L9.step _ _ _ _ _ _ _ _ _ _ _ _ ⟨fun h => by omega, fun _ => ⟨by simp only [inR]; omega, hR w A n c hw ho⟩⟩
  | succ d ih =>
    intro k x w A n c out hd hk hx hw ho he
    have hol : out.length = n := by have := ho.len; simpa using this
    have hle : out.length ≤ 1000000 := by
      have := congrArg List.length he
      rw [List.length_append] at this
      omega
    have hx9 : x < 10 ^ 9 := Nat.lt_of_lt_of_le hx (Nat.pow_le_pow_right (by omega) (by omega))
    have hm := Nat.mod_lt x (show 0 < 10 by omega)
    have e3 : (k : Int) + 1 = ((k + 1 : Nat) : Int) := by omega
    have ed : (x : Int) / 10 = ((x / 10 : Nat) : Int) := by omega
    have hx' : x / 10 < 10 ^ (9 - (k + 1)) := by
      rw [Nat.div_lt_iff_lt_mul (by omega), ← Nat.pow_succ, show (9 - (k + 1)).succ = 9 - k by omega]
      exact hx
    have push : (out ++ [UInt8.ofNat (48 + x % 10)]) ++ (if i + 1 < n0 then (digs (9 - (k + 1)) (x / 10)).reverse else lows (x / 10)) = T → 
        RunOk Tryz.prog (Instr.buildSlice 145 1 #[(0, (.int .u8 (((48 : Int) + ((x : Int) % (10 : Int))))))]) w0.heap.size [] w fun r4 w5 => ∃ (A3 : Option Addr) (n3 c3 : Nat), r4 = (.slice A3 n3 c3) ∧ RunOk Tryz.prog (Builtin.append_ #[145, 145] 145 #[(.slice A n c), (.slice A3 n3 c3)]) w0.heap.size [] w5 fun r7 w8 => ∃ (A6 : Option Addr) (n6 c6 : Nat), r7 = (.slice A6 n6 c6) ∧
          ((0 ≤ (x : Int) ∧ 0 < (10 : Int) ∧ inR .u32 (x : Int)) ∧ (inR .i64 ((k : Int) + (1 : Int)) ∧ (F.garboardref01_To.L9 A0 n0 c0 A6 n6 c6 i ((x : Int) / (10 : Int)) ((k : Int) + (1 : Int)) w0.heap.size w8 R))) := by
      intro hT
      rw [dig_int x]
      refine app_row el_Bytes (Nat.le_refl _) ho (x := .int .u8 ((UInt8.ofNat (48 + x % 10)).toNat : Int)) (by simp [Value.cells]) (by simp [Value.cells, isCell]) hw.size (by omega) (by simp) fun A' c' w2 o2 _ b2 => ⟨⟨by omega, by omega, by simp only [inR]; omega⟩, by simp only [inR]; omega, ?_⟩
      rw [ed, e3]
      refine ih (k + 1) (x / 10) w2 _ _ _ (out ++ [UInt8.ofNat (48 + x % 10)]) (by omega) (by omega) hx' (hw.trans b2) ?_ hT
      rw [List.map_append]
      exact o2
    have hd9 : 9 - k = (9 - (k + 1)) + 1 := by omega
    refine F.garboardref01_To.L9.step _ _ _ _ _ _ _ _ _ _ _ _ ⟨fun _ => ⟨by simp only [inR]; omega, fun h1 => ⟨⟨by omega, by omega⟩, by simp only [inR]; omega, by simp only [inR]; omega, push ?_⟩, fun h1 => ⟨fun h2 => ⟨⟨by omega, by omega⟩, by simp only [inR]; omega, by simp only [inR]; omega, push ?_⟩, fun h2 => ⟨by simp only [inR]; omega, hR w A n c hw ?_⟩⟩⟩, fun h => by omega⟩
    · rw [← he, if_pos (by omega), if_pos (by omega), hd9, digs_rev, List.append_assoc]
      rfl
    · rw [← he, if_neg (by omega), if_neg (by omega), lows_succ (x := x) (by omega), List.append_assoc]
      rfl
    · have hx0 : x = 0 := by omega
      rw [if_neg (by omega), hx0] at he
      have : out = T := by rw [← he]; simp [lows]
      rw [← this]
      exact ho

theorem to_L14 {B : Nat} {A : Option Addr} {n c : Nat} {T : Tx} (hlen : T.length = n) (hn : n ≤ 1000000) (h0 : n ≠ 0) (hR : ∀ w, R (.string (st T.reverse)) w) :
    ∀ (d i : Nat) (w : World) (u : Tx), n - 2 * i = d → 2 * i ≤ n + 1 → OwnR w B 5 A n c 1 (u.map u8row) → (∀ k, k < n → u[k]? = if k < i ∨ n ≤ k + i then T[n - 1 - k]? else T[k]?) →
      F.garboardref01_To.L14 A n c i ((n : Int) - 1 - i) B w R := by
  intro d
  induction d using Nat.strongRecOn with
  | _ d ih =>
    intro i w u hd hi ho hu
    have hul : u.length = n := by have := ho.len; simpa using this
    by_cases h : (i : Int) < (n : Int) - 1 - i
    · have hi' : i < u.length := by omega
      have hj' : n - 1 - i < u.length := by omega
      have ej : ((n : Int) - 1 - i).toNat = n - 1 - i := by omega
      obtain ⟨hb, a, hA, hrow⟩ := ho.sl.load (n := n) ho.len (j := (n : Int) - 1 - i) (by omega) (by omega)
      obtain ⟨hcell, _⟩ := hrow (u8row u[n - 1 - i]) (by rw [ej]; simp [hj']) rfl
      obtain ⟨hb2, a2, hA2, hrow2⟩ := ho.sl.load (n := n) ho.len (j := (i : Int)) (by omega) (by omega)
      obtain ⟨hcell2, _⟩ := hrow2 (u8row u[i]) (by rw [Int.toNat_natCast]; simp [hi']) rfl
      refine F.garboardref01_To.L14.step _ _ _ _ _ _ _ _ ⟨fun _ => ⟨hb, a, hA, _, hcell, hb2, a2, hA2, _, hcell2, hb2, a2, hA2, fun w2 x2 => ?_⟩, fun k => absurd h k⟩
      have o2 := ho.extNil x2
      obtain ⟨_, a3, hA3, cs, d1, d2, d3, d4, d5⟩ := o2.set0 (i := (i : Int)) (by omega) (by omega) (u8row u[n - 1 - i]) (u8row u[i]) (by rw [Int.toNat_natCast]; simp [hi']) rfl
      have ea : a2 = a3 := by rw [hA2] at hA3; cases hA3; rfl
      subst ea
      refine ⟨cs, _, d1, d2, d3, d4, rfl, fun w3 hw3 => ?_⟩
      have o3 := d5 w3 hw3
      rw [Int.toNat_natCast, ← List.map_set] at o3
      have hj3 : n - 1 - i < (u.set i u[n - 1 - i]).length := by rw [List.length_set]; omega
      obtain ⟨hb4, a4, hA4, cs4, e1, e2, e3, e4, e5⟩ := o3.set0 (i := (n : Int) - 1 - i) (by omega) (by omega) (u8row u[i]) (u8row ((u.set i u[n - 1 - i])[n - 1 - i])) (by rw [ej, List.getElem?_map, List.getElem?_eq_getElem hj3]; rfl) rfl
      refine ⟨hb4, a4, hA4, cs4, _, e1, e2, e3, e4, rfl, fun w4 hw4 => ⟨by simp only [inR]; omega, by simp only [inR]; omega, ?_⟩⟩
      have o4 := e5 w4 hw4
      rw [ej, ← List.map_set] at o4
      have ei : (i : Int) + 1 = ((i + 1 : Nat) : Int) := by omega
      have ejj : (n : Int) - 1 - (i : Int) - 1 = (n : Int) - 1 - ((i + 1 : Nat) : Int) := by omega
      rw [ejj, ei]
      refine ih (n - 2 * (i + 1)) (by omega) (i + 1) w4 _ rfl (by omega) o4 fun k hk => ?_
      have hui := hu i (by omega)
      have huj := hu (n - 1 - i) (by omega)
      rw [if_neg (by omega)] at hui huj
      rw [List.getElem?_eq_getElem hi'] at hui
      rw [List.getElem?_eq_getElem hj'] at huj
      by_cases k1 : k = n - 1 - i
      · subst k1
        rw [List.getElem?_set_self (by rw [List.length_set]; omega), if_pos (by omega), hui]
        congr 1
        omega
      · rw [List.getElem?_set_ne (by omega)]
        by_cases k2 : k = i
        · subst k2
          rw [List.getElem?_set_self (by omega), if_pos (by omega), huj]
        · rw [List.getElem?_set_ne (by omega), hu k hk]
          by_cases k3 : k < i ∨ n ≤ k + i
          · rw [if_pos k3, if_pos (by omega)]
          · rw [if_neg k3, if_neg (by omega)]
    · have e : u = T.reverse := by
        refine List.ext_getElem? fun k => ?_
        by_cases hk : k < n
        · rw [hu k hk, List.getElem?_reverse (by omega), hlen]
          by_cases k3 : k < i ∨ n ≤ k + i
          · rw [if_pos k3]
          · rw [if_neg k3]
            congr 1
            omega
        · rw [List.getElem?_eq_none (by omega), List.getElem?_eq_none (by rw [List.length_reverse]; omega)]
      have hs := ho.sl
      rcases hs with hs | ⟨b, off, cs, ty, fr, rfl, hh, hc⟩
      · have : u = [] := by simpa using hs
        rw [this] at hul
        simp at hul
        omega
      refine F.garboardref01_To.L14.step _ _ _ _ _ _ _ _ ⟨fun k => absurd k h, fun _ => ?_⟩
      have hr := run_convert_bytes_back (P := Tryz.prog) w 145 9 5 ⟨b, off, none⟩ c u Tryz.underlying145 Tryz.underlying5 Tryz.underlying9 fun j hj => by
        obtain ⟨_, h2⟩ := hc j (by simpa using hj) 0 (by simp)
        rw [add_plain0]
        simp only [World.cell?, hh]
        simpa using h2
      rw [hul] at hr
      refine ⟨_, w, hr, Below.refl _ _, Nat.le_refl _, fun _ _ _ _ _ => rfl, _, rfl, ?_⟩
      have := hR w
      rw [← e] at this
      exact this

theorem to_L5 (ha : SlU w0 A0 ws) (hal : ws.length = n0) (hs : Small ws) (hn : n0 ≤ 100000) {T : Tx} (hT : T.length ≤ 1000000) (hT0 : T ≠ []) (hR : ∀ w, R (.string (st T.reverse)) w) :
    ∀ (d i : Nat) (w : World) (A : Option Addr) (n c : Nat) (out : Tx), n0 - i = d → i ≤ n0 → Below w0.heap.size w0 w → OwnR w w0.heap.size 5 A n c 1 (out.map u8row) → out ++ outR (ws.drop i) = T →
      F.garboardref01_To.L5 A0 n0 c0 A n c i w0.heap.size w R := by
  intro d
  induction d with
  | zero =>
    intro i w A n c out hd hi hw ho he
    have hin : i = n0 := by omega
    subst hin
    rw [List.drop_eq_nil_of_le (by omega), outR, List.append_nil] at he
    subst he
    have hol : out.length = n := by have := ho.len; simpa using this
    have hpos := List.length_pos_iff.2 hT0
    refine F.garboardref01_To.L5.step _ _ _ _ _ _ _ _ _ _ ⟨fun h => by omega, fun _ => ⟨by simp only [inR]; omega, ?_⟩⟩
    have := to_L14 (B := w0.heap.size) (A := A) (c := c) (T := out) hol (by omega) (by omega) hR n 0 w out (by omega) (by omega) ho fun k hk => by rw [if_neg (by omega)]
    simpa using this
  | succ d ih =>
    intro i w A n c out hd hi hw ho he
    have hil : i < ws.length := by omega
    have hx := hs ws[i] (List.getElem_mem _)
    have e3 : (i : Int) + 1 = ((i + 1 : Nat) : Int) := by omega
    refine F.garboardref01_To.L5.step _ _ _ _ _ _ _ _ _ _ ⟨fun _ => ?_, fun h => by omega⟩
    refine (ha.below hw).load hal (by omega) (by omega) ?_
    have eg : ws.getD ((i : Int)).toNat 0 = ws[i] := by rw [Int.toNat_natCast, List.getD_eq_getElem?_getD, List.getElem?_eq_getElem hil]; rfl
    rw [eg]
    obtain ⟨part, hpart⟩ : ∃ part, part = if i + 1 < n0 then (digs 9 ws[i]).reverse else lows ws[i] := ⟨_, rfl⟩
    have hsplit : outR (ws.drop i) = part ++ outR (ws.drop (i + 1)) := by
      rw [List.drop_eq_getElem_cons hil, hpart]
      cases hdr : ws.drop (i + 1) with
      | nil =>
        have : ws.length ≤ i + 1 := List.drop_eq_nil_iff.1 hdr
        rw [if_neg (by omega), outR, outR, List.append_nil]
      | cons y r =>
        have : i + 1 < ws.length := by
          apply Decidable.byContradiction
          intro k
          rw [List.drop_eq_nil_of_le (by omega)] at hdr
          cases hdr
        rw [if_pos (by omega), outR]
    rw [hsplit, ← List.append_assoc] at he
    refine to_L9 (i := i) (by omega) hn (T := out ++ part) (by have := congrArg List.length he; rw [List.length_append] at this; omega) (fun w2 A2 n2 c2 hw2 ho2 => ?_) 9 0 ws[i] w A n c out rfl (by omega) (by simpa using hx) hw ho (by rw [← hpart])
    rw [e3]
    exact ih (i + 1) w2 A2 n2 c2 (out ++ part) (by omega) (by omega) hw2 ho2 he
end

theorem ref_To {w : World} {A : Option Addr} {n c x : Nat} (h : IsN w A n c x) (hx : x < Lim) : Pure Tryz.prog 84 #[.slice A n c] w fun v _ => v = .string (nS x) := by
  have l0 := h.len hx
  have hp := h.pos_len
  obtain ⟨ws, a1, a2, a3, a4, a5, a6, rfl⟩ := h
  refine F.garboardref01_To.vc _ _ _ _ _ ⟨fun h0 => ?_, fun h0 => ?_⟩
  · have : wv ws = 0 := by
      apply Decidable.byContradiction
      intro k
      have := hp.2 k
      omega
    rw [this, ← nS_0]
  · have hne : ws ≠ [] := fun e => by subst e; simp at a2; omega
    have e := outR_eq ws a5 a6 hne
    have hlen : (natT (wv ws)).length ≤ 1000000 := by
      have := size_nS_le hx
      rw [size_nS] at this
      omega
    refine to_L5 a1 a2 a5 l0 (T := (natT (wv ws)).reverse) (by rw [List.length_reverse]; exact hlen) (by rw [Ne, List.reverse_eq_nil_iff]; exact natT_ne _) (fun w' => ?_) n 0 w none 0 0 [] rfl (by omega) (Below.refl _ _) (by simpa using OwnR.nil) (by rw [List.drop_zero, e]; rfl)
    rw [List.reverse_reverse]
    rfl
theorem ref2_To {w : World} {b : Bool} {A : Option Addr} {n c : Nat} {z : Int} (h : IsZ w b A n c z) (hz : z.natAbs < Lim) : Pure Tryz.prog 83 #[.agg #[.bool b, .slice A n c]] w fun v _ => v = .string (iS z) := by
  obtain ⟨rfl, k⟩ := h
  have hsz := size_nS_le hz
  refine F.garboardref02_To.vc _ _ _ _ _ _ ⟨fun hb w1 x1 => ?_, fun hb w1 x1 => ?_⟩
  · refine Pure.mono (ref_To (k.ext x1 (by decide)) hz) ?_
    rintro v w2 _ rfl
    refine ⟨_, rfl, ?_, congrArg Value.string ?_⟩
    · show 1 + _ ≤ _
      omega
    · apply by_inj
      have hneg : z < 0 := of_decide_eq_true hb
      have e : iS z = st (45 :: natT z.natAbs) := by
        unfold iS
        rw [intT_eq, if_pos hneg]
      rw [e]
      show _ = 45 :: natT z.natAbs
      simp [by_, nS, st, ByteArray.data_append]
  · refine Pure.mono (ref_To (k.ext x1 (by decide)) hz) ?_
    rintro v w2 _ rfl
    refine ⟨_, rfl, congrArg Value.string ?_⟩
    have hneg : ¬ z < 0 := of_decide_eq_false hb
    unfold iS nS
    rw [intT_eq, if_neg hneg]
theorem ref3_To {w : World} {b : Bool} {A A' : Option Addr} {n c n' c' : Nat} {r : Rat} (h : IsQ w b A n c A' n' c' r) (hr : Sm 100000 r) : Pure Tryz.prog 39 #[.agg #[.bool b, .slice A n c, .slice A' n' c']] w fun v _ => v = .string (rS r) := by
  have l1 := lim_of hr.1 (by omega)
  have l2 := lim_of hr.2 (by omega)
  refine F.garboardref03_To.vc _ _ _ _ _ _ _ _ _ fun w1 x1 => Pure.mono (ref2_To (h.ext x1 (by decide)).1 l1) ?_
  rintro v w2 b2 rfl
  refine ⟨_, rfl, Pure.mono (ref_To ((h.ext x1 (by decide)).2.below b2) l2) ?_⟩
  rintro v w3 b3 rfl
  have s1 := size_iS_le l1
  have s2 := size_nS_le l2
  refine ⟨_, rfl, fun hd => ⟨?_, ?_, congrArg Value.string ?_⟩, fun hd => congrArg Value.string ?_⟩
  · show 1 + _ ≤ _
    omega
  · rw [ByteArray.size_append]
    show _ + (1 + _) ≤ _
    omega
  · have hden : r.den ≠ 1 := fun e => hd (by rw [e, nS_1])
    apply by_inj
    have e : by_ (rS r) = intT r.num ++ 47 :: natT r.den := by
      rw [by_rS]
      unfold ratT
      rw [if_neg hden]
    rw [e]
    simp [by_, iS, nS, st, ByteArray.data_append]
  · have hden : r.den = 1 := by
      have hd := Decidable.not_not.1 hd
      rw [nS_1] at hd
      exact nS_inj hd
    unfold rS iS ratT
    rw [if_pos hden]
end Go.Proofs.YtdnelnicnjplpaaGreatDoor.B

namespace Go.Proofs.YtdnelnicnjplpaaGreatDoor.B
open Go Go.RowKit Go.Proofs Go.Proofs.YtdnelnicnjplpaaGreatDoor.Vc

def fewP (p : Pa) : Bool := decide (p.mass.size ≤ 40 ∧ p.vol.size ≤ 40 ∧ p.worth.size ≤ 40 ∧ p.name.size ≤ 70)
def fewH (h : Ho) : Bool := decide (h.room.size ≤ 40 ∧ h.most.size ≤ 40 ∧ h.x.size ≤ 40 ∧ h.y.size ≤ 40 ∧ h.z.size ≤ 40 ∧ h.name.size ≤ 70)
def fewC (ps : List Pa) (hs : List Ho) : Bool := ps.all fewP && hs.all fewH && decide (ps.length ≤ 7 ∧ hs.length ≤ 7)
structure CgRaw (w : World) (A0 : Option Addr) (n0 : Nat) (A1 : Option Addr) (n1 : Nat) (ps : List Pa) (hs : List Ho) : Prop where
  p : SlR w A0 7 (ps.map Pa.row)
  h : SlR w A1 7 (hs.map Ho.row)
  lp : ps.length = n0
  lh : hs.length = n1
  np : n0 < 9223372036854775808
  nh : n1 < 9223372036854775808
theorem CgRaw.keep {w w' : World} {A0 A1 : Option Addr} {n0 n1 : Nat} {ps : List Pa} {hs : List Ho} (h : CgRaw w A0 n0 A1 n1 ps hs) (hb : Below w.heap.size w w') : CgRaw w' A0 n0 A1 n1 ps hs :=
  ⟨h.p.keep hb (Nat.le_refl _), h.h.keep hb (Nat.le_refl _), h.lp, h.lh, h.np, h.nh⟩
theorem CgRaw.few {w : World} {A0 A1 : Option Addr} {n0 n1 : Nat} {ps : List Pa} {hs : List Ho} (h : CgRaw w A0 n0 A1 n1 ps hs) (hf : fewC ps hs = true) : CgIn w A0 n0 A1 n1 ps hs := by
  unfold fewC at hf
  rw [Bool.and_eq_true, Bool.and_eq_true] at hf
  obtain ⟨⟨h1, h2⟩, h3⟩ := hf
  have h3 := of_decide_eq_true h3
  refine ⟨h.p, h.h, h.lp, h.lh, fun p hp => ?_, fun x hx => ?_, by have := h.lp; omega, by have := h.lh; omega⟩
  · have := of_decide_eq_true (List.all_eq_true.1 h1 p hp)
    exact ⟨by unfold SmS; omega, by unfold SmS; omega, by unfold SmS; omega, by omega⟩
  · have := of_decide_eq_true (List.all_eq_true.1 h2 x hx)
    exact ⟨by unfold SmS; omega, by unfold SmS; omega, by unfold SmS; omega, by unfold SmS; omega, by unfold SmS; omega, by omega⟩
theorem all_false {α : Type} {p : α → Bool} {l : List α} {x : α} (hx : x ∈ l) (h : p x = false) : l.all p = false := by
  rw [Bool.eq_false_iff]
  intro k
  rw [List.all_eq_true.1 k x hx] at h
  cases h
theorem take_all {α : Type} {p : α → Prop} {l : List α} {i : Nat} (hi : i < l.length) (h : ∀ x ∈ l.take i, p x) (hx : p l[i]) : ∀ x ∈ l.take (i + 1), p x := by
  intro x hm
  rw [List.take_add_one, List.getElem?_eq_getElem hi] at hm
  rcases List.mem_append.1 hm with h' | h'
  · exact h x h'
  · simp only [Option.toList_some, List.mem_singleton] at h'
    subst h'
    exact hx
theorem few_L8 {w0 : World} {A0 A1 : Option Addr} {n0 c0 n1 c1 : Nat} {ps : List Pa} {hs : List Ho} (hc : CgRaw w0 A0 n0 A1 n1 ps hs) (hp : ps.all fewP = true) {R : Value → World → Prop} (hR : ∀ w, R (.bool (fewC ps hs)) w) :
    ∀ (d i : Nat) (w : World), n1 - i = d → i ≤ n1 → Below w0.heap.size w0 w → (∀ x ∈ hs.take i, fewH x = true) → F.garboardref47_Few.L8 i A0 n0 c0 A1 n1 c1 w0.heap.size w R := by
  have hlp := hc.lp
  have hlh := hc.lh
  have hnh := hc.nh
  intro d
  induction d with
  | zero =>
    intro i w hd hi hw hx
    rw [List.take_of_length_le (by omega)] at hx
    have hh : hs.all fewH = true := List.all_eq_true.2 hx
    refine F.garboardref47_Few.L8.step _ _ _ _ _ _ _ _ _ _ ⟨fun h => by omega, fun _ => ⟨fun h => ?_, fun h => ?_⟩⟩
    · have := hR w
      unfold fewC at this
      rw [hp, hh, Bool.true_and, Bool.true_and] at this
      have e : decide (((n1 : Nat) : Int) ≤ 7) = decide (ps.length ≤ 7 ∧ hs.length ≤ 7) := by rw [decide_eq_decide]; omega
      rw [e]
      exact this
    · have := hR w
      unfold fewC at this
      rw [hp, hh, Bool.true_and, Bool.true_and, decide_eq_false (by omega)] at this
      exact this
  | succ d ih =>
    intro i w hd hi hw hx
    have hil : i < hs.length := by omega
    have e3 : (i : Int) + 1 = ((i + 1 : Nat) : Int) := by omega
    obtain ⟨hb, a, hA, hcell, _⟩ := (hc.h.keep hw (Nat.le_refl _)).at_ (fun _ => rfl) hc.lh hil
    have bad : fewH hs[i] = false → ∀ w, R (.bool false) w := fun h w => by
      have := hR w
      unfold fewC at this
      rwa [all_false (List.getElem_mem hil) h, Bool.and_false, Bool.false_and] at this
    refine F.garboardref47_Few.L8.step _ _ _ _ _ _ _ _ _ _ ⟨fun _ => ⟨hb, a, hA, _, _, _, _, _, _, _, hcell, fun h w2 _ => bad (decide_eq_false (by omega)) w2, fun h1 => ⟨fun h w2 _ => bad (decide_eq_false (by omega)) w2, fun h2 => ⟨fun h w2 _ => bad (decide_eq_false (by omega)) w2, fun h3 => ⟨fun h w2 _ => bad (decide_eq_false (by omega)) w2, fun h4 => ⟨fun h w2 _ => bad (decide_eq_false (by omega)) w2, fun h5 => ⟨fun h w2 _ => bad (decide_eq_false (by omega)) w2, fun h6 => ⟨by simp only [inR]; omega, fun w2 x2 => ?_⟩⟩⟩⟩⟩⟩⟩, fun h => by omega⟩
    rw [e3]
    exact ih (i + 1) w2 (by omega) (by omega) (kE hw x2) (take_all hil hx (decide_eq_true (by omega)))
theorem few_L2 {w0 : World} {A0 A1 : Option Addr} {n0 c0 n1 c1 : Nat} {ps : List Pa} {hs : List Ho} (hc : CgRaw w0 A0 n0 A1 n1 ps hs) {R : Value → World → Prop} (hR : ∀ w, R (.bool (fewC ps hs)) w) :
    ∀ (d i : Nat) (w : World), n0 - i = d → i ≤ n0 → Below w0.heap.size w0 w → (∀ x ∈ ps.take i, fewP x = true) → F.garboardref47_Few.L2 i A0 n0 c0 A1 n1 c1 w0.heap.size w R := by
  have hlp := hc.lp
  have hlh := hc.lh
  have hnp := hc.np
  intro d
  induction d with
  | zero =>
    intro i w hd hi hw hx
    rw [List.take_of_length_le (by omega)] at hx
    exact F.garboardref47_Few.L2.step _ _ _ _ _ _ _ _ _ _ ⟨fun h => by omega, fun _ => few_L8 hc (List.all_eq_true.2 hx) hR n1 0 w rfl (by omega) hw (by simp)⟩
  | succ d ih =>
    intro i w hd hi hw hx
    have hil : i < ps.length := by omega
    have e3 : (i : Int) + 1 = ((i + 1 : Nat) : Int) := by omega
    obtain ⟨hb, a, hA, hcell, _⟩ := (hc.p.keep hw (Nat.le_refl _)).at_ (fun _ => rfl) hc.lp hil
    have bad : fewP ps[i] = false → ∀ w, R (.bool false) w := fun h w => by
      have := hR w
      unfold fewC at this
      rwa [all_false (List.getElem_mem hil) h, Bool.false_and, Bool.false_and] at this
    refine F.garboardref47_Few.L2.step _ _ _ _ _ _ _ _ _ _ ⟨fun _ => ⟨hb, a, hA, _, _, _, _, _, _, _, hcell, fun h w2 _ => bad (decide_eq_false (by omega)) w2, fun h1 => ⟨fun h w2 _ => bad (decide_eq_false (by omega)) w2, fun h2 => ⟨fun h w2 _ => bad (decide_eq_false (by omega)) w2, fun h3 => ⟨fun h w2 _ => bad (decide_eq_false (by omega)) w2, fun h4 => ⟨by simp only [inR]; omega, fun w2 x2 => ?_⟩⟩⟩⟩⟩, fun h => by omega⟩
    rw [e3]
    exact ih (i + 1) w2 (by omega) (by omega) (kE hw x2) (take_all hil hx (decide_eq_true (by omega)))
theorem r47_Few {w : World} {A0 A1 : Option Addr} {n0 c0 n1 c1 : Nat} {ps : List Pa} {hs : List Ho} (hc : CgRaw w A0 n0 A1 n1 ps hs) :
    Pure Tryz.prog 12 #[.agg #[.slice A0 n0 c0, .slice A1 n1 c1]] w fun v _ => v = .bool (fewC ps hs) :=
  F.garboardref47_Few.vc _ _ _ _ _ _ _ _ fun w1 x1 => few_L2 hc (fun _ => rfl) n0 0 w1 rfl (by omega) (k0 x1) (by simp)

theorem r47_Same {w0 : World} {A A1 : Option Addr} {n n1 c c1 : Nat} {l l1 : List Sw} (h : SlR w0 A 3 (l.map Sw.row)) (h1 : SlR w0 A1 3 (l1.map Sw.row)) (hlen : l.length = n) (hlen1 : l1.length = n1) (hn : n < 2147483648) :
    Pure Tryz.prog 27 #[.slice A n c, .slice A1 n1 c1] w0 fun y _ => y = .bool (decide (l = l1)) := by
  have key : n = n1 → ∀ (d i : Nat) (w : World), n - i = d → i ≤ n → Below w0.heap.size w0 w → l.take i = l1.take i → F.garboardref47_Same.L4 A n c A1 n1 c1 i w0.heap.size w fun y _ => y = .bool (decide (l = l1)) := by
    intro e d
    induction d with
    | zero =>
      intro i w hd hi hw ht
      rw [List.take_of_length_le (by omega), List.take_of_length_le (by omega)] at ht
      exact F.garboardref47_Same.L4.step _ _ _ _ _ _ _ _ _ _ ⟨fun h => by omega, fun _ => by rw [decide_eq_true ht]⟩
    | succ d ih =>
      intro i w hd hi hw ht
      have hil : i < l.length := by omega
      have hil1 : i < l1.length := by omega
      obtain ⟨hb, a, hA, hc, _⟩ := (h.keep hw (Nat.le_refl _)).at_ (fun _ => rfl) hlen hil
      obtain ⟨hb2, a2, hA2, hc2, _⟩ := (h1.keep hw (Nat.le_refl _)).at_ (fun _ => rfl) hlen1 hil1
      refine F.garboardref47_Same.L4.step _ _ _ _ _ _ _ _ _ _ ⟨fun _ => ⟨hb, a, hA, _, _, _, hc, hb2, a2, hA2, _, _, _, hc2, fun k w2 _ => ?_, fun k => ⟨by simp only [inR]; omega, fun w2 x2 => ?_⟩⟩, fun h => by omega⟩
      · refine congrArg _ (decide_eq_false fun e2 => k ?_).symm
        have e3 : l[i] = l1[i] := by simp only [e2]
        rw [e3]
        exact ⟨rfl, rfl, rfl, trivial⟩
      · have e3 : (i : Int) + 1 = ((i + 1 : Nat) : Int) := by omega
        rw [e3]
        refine ih (i + 1) w2 (by omega) (by omega) (kE hw x2) ?_
        obtain ⟨q1, q2, q3, _⟩ := Decidable.not_not.1 k
        have e4 : l[i] = l1[i] := by
          cases hx : l[i]
          cases hy : l1[i]
          rw [hx, hy] at q1 q2 q3
          simp only at q1 q2 q3
          subst q1; subst q2; subst q3
          rfl
        rw [List.take_add_one, List.take_add_one, ht, List.getElem?_eq_getElem hil, List.getElem?_eq_getElem hil1, e4]
  refine F.garboardref47_Same.vc _ _ _ _ _ _ _ _ ⟨fun h => ?_, fun h => key (by omega) n 0 w0 rfl (by omega) (Below.refl _ _) (by simp)⟩
  refine congrArg _ (decide_eq_false fun e => ?_).symm
  subst e
  omega

theorem el_Pas : El Tryz.prog 22 66 7 88 := El.of (by kernel_rfl)
theorem el_Hos : El Tryz.prog 23 61 7 104 := El.of (by kernel_rfl)
theorem rowP_len {v : List Pa} : ∀ r ∈ v.map Pa.row, r.length = 7 := by
  intro r hr; obtain ⟨x, _, rfl⟩ := List.mem_map.1 hr; rfl
theorem rowP_cell {v : List Pa} : ∀ r ∈ v.map Pa.row, ∀ u ∈ r, isCell u = true := by
  intro r hr u hu
  obtain ⟨x, _, rfl⟩ := List.mem_map.1 hr
  simp only [Pa.row, List.mem_cons, List.not_mem_nil, or_false] at hu
  rcases hu with rfl | rfl | rfl | rfl | rfl | rfl | rfl <;> rfl
theorem rowH_len {v : List Ho} : ∀ r ∈ v.map Ho.row, r.length = 7 := by
  intro r hr; obtain ⟨x, _, rfl⟩ := List.mem_map.1 hr; rfl
theorem rowH_cell {v : List Ho} : ∀ r ∈ v.map Ho.row, ∀ u ∈ r, isCell u = true := by
  intro r hr u hu
  obtain ⟨x, _, rfl⟩ := List.mem_map.1 hr
  simp only [Ho.row, List.mem_cons, List.not_mem_nil, or_false] at hu
  rcases hu with rfl | rfl | rfl | rfl | rfl | rfl | rfl <;> rfl
theorem rowS_len {v : List Sw} : ∀ r ∈ v.map Sw.row, r.length = 3 := by
  intro r hr; obtain ⟨x, _, rfl⟩ := List.mem_map.1 hr; rfl
theorem rowS_cell {v : List Sw} : ∀ r ∈ v.map Sw.row, ∀ u ∈ r, isCell u = true := by
  intro r hr u hu
  obtain ⟨x, _, rfl⟩ := List.mem_map.1 hr
  simp only [Sw.row, List.mem_cons, List.not_mem_nil, or_false] at hu
  rcases hu with rfl | rfl | rfl <;> rfl

structure CpS (w0 : World) (A0 : Option Addr) (n0 : Nat) (A1 : Option Addr) (n1 : Nat) (ps : List Pa) (hs : List Ho) (p h : Option (Option Addr × Nat × Nat)) (fp fh : Bool) (w : World) : Prop where
  cg : CgIn w A0 n0 A1 n1 ps hs
  b : Below w0.heap.size w0 w
  p : ∀ x, p = some x → OwnR w w0.heap.size 66 x.1 x.2.1 x.2.2 7 (if fp then ps.map Pa.row else [])
  h : ∀ x, h = some x → OwnR w w0.heap.size 61 x.1 x.2.1 x.2.2 7 (if fh then hs.map Ho.row else [])
section
variable {w0 : World} {A0 A1 : Option Addr} {n0 c0 n1 c1 : Nat} {ps : List Pa} {hs : List Ho} {p h : Option (Option Addr × Nat × Nat)} {fp fh : Bool} {w : World}
theorem CpS.next {w' : World} (k : CpS w0 A0 n0 A1 n1 ps hs p h fp fh w) (hb : Below w.heap.size w w') : CpS w0 A0 n0 A1 n1 ps hs p h fp fh w' :=
  ⟨k.cg.keep hb, kP k.b hb, fun x hx => (k.p x hx).below hb, fun x hx => (k.h x hx).below hb⟩
theorem CpS.ext {ts : List Nat} {G : World → Prop} (k : CpS w0 A0 n0 A1 n1 ps hs p h fp fh w) (hts : ts = []) (hG : ∀ w', CpS w0 A0 n0 A1 n1 ps hs p h fp fh w' → G w') : ∀ w', Ext w0.heap.size ts w w' → G w' := by
  intro w' x
  subst hts
  exact hG w' (k.next (ext_low x))
theorem CpS.bp {tys : List Nat} {K : Option Addr → Nat → Nat → World → Prop} (k : CpS w0 A0 n0 A1 n1 ps hs none h fp fh w) (hK : ∀ A c w', CpS w0 A0 n0 A1 n1 ps hs (some (A, 0, c)) h false fh w' → K A 0 c w') :
    RunOk Tryz.prog (Instr.buildSlice 22 0 #[]) w.heap.size tys w fun r w1 => ∃ A n c, r = .slice A n c ∧ K A n c w1 :=
  runOk_lit el_Pas [] (by simp) (by simp) (Nat.le_refl _) fun A c w' ho hb => hK A c w' ⟨k.cg.keep hb, kP k.b hb, fun x hx => (by cases hx; exact ho.base k.b.size), fun x hx => (k.h x hx).below hb⟩
theorem CpS.bh {tys : List Nat} {K : Option Addr → Nat → Nat → World → Prop} (k : CpS w0 A0 n0 A1 n1 ps hs p none fp fh w) (hK : ∀ A c w', CpS w0 A0 n0 A1 n1 ps hs p (some (A, 0, c)) fp false w' → K A 0 c w') :
    RunOk Tryz.prog (Instr.buildSlice 23 0 #[]) w.heap.size tys w fun r w1 => ∃ A n c, r = .slice A n c ∧ K A n c w1 :=
  runOk_lit el_Hos [] (by simp) (by simp) (Nat.le_refl _) fun A c w' ho hb => hK A c w' ⟨k.cg.keep hb, kP k.b hb, fun x hx => (k.p x hx).below hb, fun x hx => (by cases hx; exact ho.base k.b.size)⟩
theorem CpS.ap {tys : List Nat} {ty : Nat} {A : Option Addr} {n c : Nat} {K : Option Addr → Nat → Nat → World → Prop} (hc0 : CgIn w0 A0 n0 A1 n1 ps hs) (hz : A0 = none → c0 = 0) (ht : 66 ∉ tys) (k : CpS w0 A0 n0 A1 n1 ps hs (some (A, n, c)) h false fh w) (hK : ∀ A' n' c' w', CpS w0 A0 n0 A1 n1 ps hs (some (A', n', c')) h true fh w' → K A' n' c' w') :
    RunOk Tryz.prog (Builtin.append_ #[22, 22] ty #[.slice A n c, .slice A0 n0 c0]) w0.heap.size tys w fun r w1 => ∃ A n c, r = .slice A n c ∧ K A n c w1 := by
  have hl := k.cg.lp
  have hnp := k.cg.np
  have ho : OwnR w w0.heap.size 66 A n c 7 [] := by simpa using k.p _ rfl
  have hn : n = 0 := by have := ho.len; simpa using this.symm
  subst hn
  refine app_part el_Pas (Nat.le_refl _) ho k.cg.p (by simpa using hl) rowP_len rowP_cell hz k.b.size (by omega) ht fun A' c' w' o hg hb => hK _ _ _ _ ⟨hc0.keep (k.b.trans hb), k.b.trans hb, fun x hx => ?_, fun x hx => ?_⟩
  · cases hx
    simpa using o
  · refine (k.h x hx).other fun a ha => ?_
    obtain ⟨cs, hcs⟩ := (k.h x hx).cells a ha
    refine hg.block _ ((k.h x hx).blk a ha).2 fun e => ?_
    cases A with
    | none => simp [Value.ownBlock] at e
    | some a2 =>
      simp [Value.ownBlock] at e
      obtain ⟨cs2, hcs2⟩ := ho.cells a2 rfl
      exact two_types hcs hcs2 (by decide) (by first | exact e | exact e.symm)
theorem CpS.ah {tys : List Nat} {ty : Nat} {A : Option Addr} {n c : Nat} {K : Option Addr → Nat → Nat → World → Prop} (hc0 : CgIn w0 A0 n0 A1 n1 ps hs) (hz : A1 = none → c1 = 0) (ht : 61 ∉ tys) (k : CpS w0 A0 n0 A1 n1 ps hs p (some (A, n, c)) fp false w) (hK : ∀ A' n' c' w', CpS w0 A0 n0 A1 n1 ps hs p (some (A', n', c')) fp true w' → K A' n' c' w') :
    RunOk Tryz.prog (Builtin.append_ #[23, 23] ty #[.slice A n c, .slice A1 n1 c1]) w0.heap.size tys w fun r w1 => ∃ A n c, r = .slice A n c ∧ K A n c w1 := by
  have hl := k.cg.lh
  have hnp := k.cg.nh
  have ho : OwnR w w0.heap.size 61 A n c 7 [] := by simpa using k.h _ rfl
  have hn : n = 0 := by have := ho.len; simpa using this.symm
  subst hn
  refine app_part el_Hos (Nat.le_refl _) ho k.cg.h (by simpa using hl) rowH_len rowH_cell hz k.b.size (by omega) ht fun A' c' w' o hg hb => hK _ _ _ _ ⟨hc0.keep (k.b.trans hb), k.b.trans hb, fun x hx => ?_, fun x hx => ?_⟩
  · refine (k.p x hx).other fun a ha => ?_
    obtain ⟨cs, hcs⟩ := (k.p x hx).cells a ha
    refine hg.block _ ((k.p x hx).blk a ha).2 fun e => ?_
    cases A with
    | none => simp [Value.ownBlock] at e
    | some a2 =>
      simp [Value.ownBlock] at e
      obtain ⟨cs2, hcs2⟩ := ho.cells a2 rfl
      exact two_types hcs hcs2 (by decide) (by first | exact e | exact e.symm)
  · cases hx
    simpa using o
end
set_option maxRecDepth 20000 in
theorem r47_Copy {w : World} {A0 A1 : Option Addr} {n0 c0 n1 c1 : Nat} {ps : List Pa} {hs : List Ho} (hc : CgIn w A0 n0 A1 n1 ps hs) (hz0 : A0 = none → c0 = 0) (hz1 : A1 = none → c1 = 0) :
    Pure Tryz.prog 14 #[.agg #[.slice A0 n0 c0, .slice A1 n1 c1]] w fun v w' => ∃ B0 d0 B1 d1, v = .agg #[.slice B0 n0 d0, .slice B1 n1 d1] ∧ CgIn w' B0 n0 B1 n1 ps hs := by
  refine F.garboardref47_Copy.vc _ _ _ _ _ _ _ _ fun w1 x1 => ?_
  have s1 : CpS w A0 n0 A1 n1 ps hs none none false false w1 := ⟨hc.keep (k0 x1), k0 x1, fun x hx => (by cases hx), fun x hx => (by cases hx)⟩
  have fin : ∀ {P H : Option Addr} {np nh cp ch : Nat} {w2 : World}, CpS w A0 n0 A1 n1 ps hs (some (P, np, cp)) (some (H, nh, ch)) true true w2 → ∀ w3, Ext w.heap.size [25] w2 w3 →
      ∃ B0 d0 B1 d1, Value.agg #[.slice P np cp, .slice H nh ch] = .agg #[.slice B0 n0 d0, .slice B1 n1 d1] ∧ CgIn w3 B0 n0 B1 n1 ps hs := by
    intro P H np nh cp ch w2 k w3 x3
    have hp : OwnR w2 w.heap.size 66 P np cp 7 (ps.map Pa.row) := k.p _ rfl
    have hh : OwnR w2 w.heap.size 61 H nh ch 7 (hs.map Ho.row) := k.h _ rfl
    have lp := hp.len
    have lh := hh.len
    simp only [List.length_map] at lp lh
    rw [hc.lp] at lp
    rw [hc.lh] at lh
    subst lp
    subst lh
    exact ⟨_, _, _, _, rfl, ⟨(hp.extT x3 (by decide)).sl, (hh.extT x3 (by decide)).sl, hc.lp, hc.lh, hc.sp, hc.sh, hc.np, hc.nh⟩⟩
  repeat' first
    | (with_reducible refine And.intro ?_ ?_)
    | exact fin (by assumption)
    | (with_reducible refine CpS.ext (by assumption) rfl fun _ _ => ?_)
    | (with_reducible refine CpS.bp (by assumption) fun _ _ _ _ => ?_)
    | (with_reducible refine CpS.bh (by assumption) fun _ _ _ _ => ?_)
    | (with_reducible refine CpS.ap hc hz0 ?_ (by assumption) fun _ _ _ _ _ => ?_; · decide)
    | (with_reducible refine CpS.ah hc hz1 ?_ (by assumption) fun _ _ _ _ _ => ?_; · decide)
end Go.Proofs.YtdnelnicnjplpaaGreatDoor.B

namespace Go.Proofs.YtdnelnicnjplpaaGreatDoor.B
open Go Go.RowKit Go.Proofs Go.Proofs.YtdnelnicnjplpaaGreatDoor.Vc

theorem run_shr (s : Nat) (hs : s < 18446744073709551616) (w : World) : (binOp .shr 135 (.int .u64 (s : Int)) (.int .u64 1)).run Tryz.prog w = .ok (.int .u64 ((s / 2 : Nat) : Int)) w := by
  have e : binOp .shr 135 (.int .u64 (s : Int)) (.int .u64 1) = Op.shift .shr .u64 (s : Int) .u64 1 := rfl
  rw [e, shift_shr .u64 .u64 _ _ (by decide) (by decide)]
  rfl

end Go.Proofs.YtdnelnicnjplpaaGreatDoor.B

namespace Go.Proofs.YtdnelnicnjplpaaGreatDoor.B
open Go Go.RowKit Go.Proofs Go.Proofs.YtdnelnicnjplpaaGreatDoor.Vc

def lbS (t : Sw) (l : List Sw) : Nat := (l.takeWhile fun x => decide (befS x t)).length
theorem lbS_le (t : Sw) (l : List Sw) : lbS t l ≤ l.length := (List.takeWhile_sublist _).length_le
theorem lbS_eq {t : Sw} {l : List Sw} {i : Nat} (hi : i ≤ l.length) (h1 : ∀ k a, k < i → l[k]? = some a → befS a t) (h2 : ∀ a, l[i]? = some a → ¬ befS a t) : lbS t l = i := by
  induction l generalizing i with
  | nil => simp at hi; subst hi; rfl
  | cons a r ih =>
    cases i with
    | zero =>
      have := h2 a rfl
      simp [lbS, this]
    | succ i =>
      have ha := h1 0 a (by omega) rfl
      have := ih (i := i) (by simpa using hi) (fun k b hk hb => h1 (k + 1) b (by omega) (by simpa using hb)) (fun b hb => h2 b (by simpa using hb))
      unfold lbS at *
      simp [ha, this]
theorem befS_le {l : List Sw} (h : SrtS l) {i j : Nat} {a b t : Sw} (hij : i ≤ j) (ha : l[i]? = some a) (hb : l[j]? = some b) (hbt : befS b t) : befS a t := by
  by_cases e : i = j
  · subst e; rw [ha] at hb; cases hb; exact hbt
  · obtain ⟨hi, rfl⟩ := List.getElem?_eq_some_iff.1 ha
    obtain ⟨hj, rfl⟩ := List.getElem?_eq_some_iff.1 hb
    exact bef_trans (List.pairwise_iff_getElem.1 h i j hi hj (by omega)) hbt
def foundS (t : Sw) (l : List Sw) : Bool := match l[lbS t l]? with
  | some x => decide (x.hold = t.hold ∧ x.parcel = t.parcel)
  | none => false
theorem search_stows {w0 : World} {A : Option Addr} {n c : Nat} {l : List Sw} (hl : SlR w0 A 3 (l.map Sw.row)) (hlen : l.length = n) (hn : n < 1000000) (hs : SrtS l) (t : Sw) :
    Pure Tryz.prog 65 #[.slice A n c, t.val, .func (.func 53) #[] #[]] w0 fun v _ => v = .tuple #[.int .i64 (lbS t l : Nat), .bool (foundS t l)] := by
  have fin : ∀ (i : Nat) (w : World), i ≤ n → Below w0.heap.size w0 w → (∀ k a, k < i → l[k]? = some a → befS a t) → (∀ k a, i ≤ k → l[k]? = some a → ¬ befS a t) →
      F.slices_BinarySearchFunc_api_Stow_api_Stow_api_Stow.L3 A n c 53 #[] #[] n i i t.hold t.parcel t.units w0.heap.size w fun v _ => v = .tuple #[.int .i64 (lbS t l : Nat), .bool (foundS t l)] := by
    intro i w hi hw h1 h2
    have hlb : lbS t l = i := lbS_eq (by omega) h1 fun a ha => h2 i a (Nat.le_refl _) ha
    refine F.slices_BinarySearchFunc_api_Stow_api_Stow_api_Stow.L3.step _ _ _ _ _ _ _ _ _ _ _ _ _ _ _ ⟨fun h => by omega, fun _ => ⟨fun h => ?_, fun h w2 _ => ?_⟩⟩
    · have hil : i < l.length := by omega
      obtain ⟨hb, a, hA, hc, _⟩ := (hl.keep hw (Nat.le_refl _)).at_ (fun _ => rfl) hlen hil
      refine ⟨hb, a, hA, _, _, _, hc, by kernel_rfl, fun w2 x2 => Pure.mono (cargo_order l[i] t w2) ?_⟩
      rintro v w3 _ rfl
      refine ⟨_, rfl, ?_⟩
      unfold foundS
      rw [hlb, List.getElem?_eq_getElem hil]
      have e : decide (ordS l[i] t = 0) = decide (l[i].hold = t.hold ∧ l[i].parcel = t.parcel) := by rw [decide_eq_decide]; exact ordS_eq
      rw [e]
    · unfold foundS
      rw [hlb, List.getElem?_eq_none (by omega)]
  have key : ∀ (d i j : Nat) (w : World), j - i ≤ d → i ≤ j → j ≤ n → Below w0.heap.size w0 w → (∀ k a, k < i → l[k]? = some a → befS a t) → (∀ k a, j ≤ k → l[k]? = some a → ¬ befS a t) →
      F.slices_BinarySearchFunc_api_Stow_api_Stow_api_Stow.L3 A n c 53 #[] #[] n i j t.hold t.parcel t.units w0.heap.size w fun v _ => v = .tuple #[.int .i64 (lbS t l : Nat), .bool (foundS t l)] := by
    intro d
    induction d with
    | zero =>
      intro i j w hd hij hj hw h1 h2
      have : i = j := by omega
      subst this
      exact fin i w hj hw h1 h2
    | succ d ih =>
      intro i j w hd hij hj hw h1 h2
      by_cases he : i = j
      · subst he
        exact fin i w hj hw h1 h2
      obtain ⟨h, hh⟩ : ∃ h, h = (i + j) / 2 := ⟨_, rfl⟩
      have hil : h < l.length := by omega
      refine F.slices_BinarySearchFunc_api_Stow_api_Stow_api_Stow.L3.step _ _ _ _ _ _ _ _ _ _ _ _ _ _ _ ⟨fun _ => ⟨by simp only [inR]; omega, by simp only [inR]; omega, ?_⟩, fun h => by omega⟩
      have es : (i : Int) + (j : Int) = ((i + j : Nat) : Int) := by omega
      rw [es]
      refine ⟨_, _, run_shr (i + j) (by omega) w, Below.refl _ _, Nat.le_refl _, fun _ _ _ _ _ => rfl, _, rfl, ?_⟩
      rw [← hh]
      obtain ⟨hb, a, hA, hc, _⟩ := (hl.keep hw (Nat.le_refl _)).at_ (fun _ => rfl) hlen hil
      refine ⟨by simp only [inR]; omega, hb, a, hA, _, _, _, hc, by kernel_rfl, fun w2 x2 => Pure.mono (cargo_order l[h] t w2) ?_⟩
      have hw2 := kE hw x2
      rintro v w3 b3 rfl
      refine ⟨_, rfl, fun h3 => ⟨by simp only [inR]; omega, ?_⟩, fun h3 => ?_⟩
      · have e3 : (h : Int) + 1 = ((h + 1 : Nat) : Int) := by omega
        rw [e3]
        exact ih (h + 1) j w3 (by omega) (by omega) hj (kP hw2 b3) (fun k a hk ha => befS_le hs (by omega) ha (List.getElem?_eq_getElem hil) (ordS_lt.1 h3)) h2
      · refine ih i h w3 (by omega) (by omega) (by omega) (kP hw2 b3) h1 fun k a hk ha hb => h3 (ordS_lt.2 ?_)
        exact befS_le hs hk (List.getElem?_eq_getElem hil) ha hb
  refine F.slices_BinarySearchFunc_api_Stow_api_Stow_api_Stow.vc _ _ _ _ _ _ _ _ _ _ _ fun w1 x1 => ?_
  refine key n 0 n w1 (by omega) (by omega) (by omega) (k0 x1) (fun k a h => by omega) fun k a hk ha => ?_
  rw [List.getElem?_eq_none (by omega)] at ha
  cases ha

def Oth (A : Option Addr) (w w' : World) : Prop := w.heap.size ≤ w'.heap.size ∧ ∀ k, k < w.heap.size → (∀ a, A = some a → k ≠ a.block) → w'.heap[k]? = w.heap[k]?
theorem Oth.refl {A : Option Addr} {w : World} : Oth A w w := ⟨Nat.le_refl _, fun _ _ _ => rfl⟩
theorem Oth.trans {A : Option Addr} {w w1 w2 : World} (h : Oth A w w1) (k : Oth A w1 w2) : Oth A w w2 :=
  ⟨Nat.le_trans h.1 k.1, fun j hj ha => (k.2 j (Nat.lt_of_lt_of_le hj h.1) ha).trans (h.2 j hj ha)⟩
theorem Oth.low {A : Option Addr} {w w1 : World} (h : Below w.heap.size w w1) : Oth A w w1 := ⟨h.size, fun k hk _ => h.block k hk⟩
theorem Oth.wrote {A : Option Addr} {w w1 : World} {b ty : Nat} {cs : List Value} (h : Wrote w w1 b ty cs) (ha : ∃ a, A = some a ∧ a.block = b) : Oth A w w1 :=
  ⟨by rw [h.size]; exact Nat.le_refl _, fun k hk hka => h.rest k fun e => by obtain ⟨a, h1, h2⟩ := ha; exact hka a h1 (e.trans h2.symm)⟩
theorem Oth.fresh {A : Option Addr} {w0 w w1 : World} {b ty : Nat} {cs : List Value} (h : Wrote w w1 b ty cs) (k : Oth A w0 w) (hb : w0.heap.size ≤ b) : Oth A w0 w1 :=
  ⟨by rw [h.size]; exact k.1, fun j hj ha => (h.rest j (by omega)).trans (k.2 j hj ha)⟩

theorem index_stows {w0 : World} {A : Option Addr} {n c : Nat} {l : List Sw} (hl : SlR w0 A 3 (l.map Sw.row)) (hlen : l.length = n) (hn : n < 2147483648) {f : Nat} {a k : Array Value} (hcall : callable Tryz.prog f = true) {p : Sw → Bool}
    (hf : ∀ w, Below w0.heap.size w0 w → ∀ x : Sw, Pure Tryz.prog f (a.toList ++ ([x.val] : List Value) ++ k.toList).toArray w fun v _ => v = .bool (p x)) {R : Value → World → Prop} {r : Int} (hR : ∀ w, R (.int .i64 r) w) :
    ∀ (d i : Nat) (w : World), n - i = d → i ≤ n → Below w0.heap.size w0 w → r = idxG p i (l.drop i) → F.slices_IndexFunc_api_Stow_api_Stow.L2 A n c f a k n i w0.heap.size w R := by
  intro d
  induction d with
  | zero =>
    intro i w hd hi hw hr
    rw [List.drop_eq_nil_of_le (by omega)] at hr
    subst hr
    exact F.slices_IndexFunc_api_Stow_api_Stow.L2.step _ _ _ _ _ _ _ _ _ _ _ ⟨fun h => by omega, fun _ => hR w⟩
  | succ d ih =>
    intro i w hd hi hw hr
    have hil : i < l.length := by omega
    rw [List.drop_eq_getElem_cons hil, idxG] at hr
    obtain ⟨hb, ad, hA, hcell, _⟩ := (hl.keep hw (Nat.le_refl _)).at_ (fun _ => rfl) hlen hil
    refine F.slices_IndexFunc_api_Stow_api_Stow.L2.step _ _ _ _ _ _ _ _ _ _ _ ⟨fun _ => ?_, fun h => by omega⟩
    refine ⟨hb, ad, hA, _, _, _, hcell, hcall, Pure.mono (hf w hw l[i]) ?_⟩
    rintro v w2 b2 rfl
    refine ⟨_, rfl, fun h => ?_, fun h => ⟨by simp only [inR]; omega, ?_⟩⟩
    · rw [if_pos h] at hr
      subst hr
      exact hR w2
    · rw [if_neg (by simp [h])] at hr
      have e3 : (i : Int) + 1 = ((i + 1 : Nat) : Int) := by omega
      rw [e3]
      exact ih (i + 1) w2 (by omega) (by omega) (kP hw b2) hr
theorem find_none {α : Type} {p : α → Bool} {l : List α} (h : l.findIdx? p = none) : l.filter (fun x => !p x) = l := by
  rw [List.filter_eq_self]
  intro x hx
  have := List.findIdx?_eq_none_iff.1 h x hx
  simp [this]
theorem find_some {α : Type} {p : α → Bool} {l : List α} {i : Nat} (h : l.findIdx? p = some i) : i < l.length ∧ (l.take (i + 1)).filter (fun x => !p x) = l.take i := by
  obtain ⟨hi, hp, hlt⟩ := List.findIdx?_eq_some_iff_getElem.1 h
  refine ⟨hi, ?_⟩
  rw [List.take_add_one, List.getElem?_eq_getElem hi, List.filter_append]
  have e1 : (l.take i).filter (fun x => !p x) = l.take i := by
    rw [List.filter_eq_self]
    intro x hx
    obtain ⟨j, hj, rfl⟩ := List.mem_take_iff_getElem.1 hx
    have := hlt j (by omega)
    simpa using this
  rw [e1]
  simp [hp]
theorem zeroSw : (Tryz.prog.info? 35).bind (·.zero) = some (.agg #[.int .i64 0, .int .i64 0, .int .i64 0]) := by kernel_rfl

theorem delf_loop {w0 : World} {B : Nat} {A : Option Addr} {n c : Nat} {l : List Sw} (hlen : l.length = n) (hn : n < 2147483648) (hnc : n ≤ c) {f : Nat} {a k : Array Value} (hcall : callable Tryz.prog f = true) {p : Sw → Bool}
    (hf : ∀ w, Oth A w0 w → ∀ x : Sw, Pure Tryz.prog f (a.toList ++ ([x.val] : List Value) ++ k.toList).toArray w fun v _ => v = .bool (p x)) {R : Value → World → Prop}
    (hR : ∀ m w, Oth A w0 w → OwnR w B 35 A m c 3 ((l.filter fun x => !p x).map Sw.row) → R (.slice A m c) w) :
    ∀ (d i j : Nat) (cur : List Sw) (w : World), n - j = d → j ≤ n → i ≤ j → cur.length = n → OwnR w B 35 A n c 3 (cur.map Sw.row) → cur.take i = (l.take j).filter (fun x => !p x) → cur.drop j = l.drop j → Oth A w0 w → B ≤ w.heap.size →
      F.slices_DeleteFunc_api_Stow_api_Stow.L5 A n c f a k i j B w R := by
  intro d
  induction d with
  | zero =>
    intro i j cur w hd hj hij hcl ho ht hdr hoth hBw
    have : j = n := by omega
    subst this
    rw [List.take_of_length_le (l := l) (by omega)] at ht
    refine F.slices_DeleteFunc_api_Stow_api_Stow.L5.step _ _ _ _ _ _ _ _ _ _ _ ⟨fun h => by omega, fun _ => ⟨by omega, ?_⟩⟩
    have os := ho.short (m := i) (by omega)
    rw [← List.map_take, ht] at os
    rw [Int.toNat_natCast]
    refine runOk_clear el_Sws zeroSw (by simp [Value.cells, isCell]) os hij hnc fun w2 o2 b2 k2 => ⟨by omega, hR i w2 (hoth.trans ⟨b2.size, k2⟩) o2⟩
  | succ d ih =>
    intro i j cur w hd hj hij hcl ho ht hdr hoth hBw
    have hjl : j < l.length := by omega
    have hjc : j < cur.length := by omega
    have ej : cur[j] = l[j] := by
      have h1 : (cur.drop j)[0]? = (l.drop j)[0]? := by rw [hdr]
      rw [List.getElem?_drop, List.getElem?_drop] at h1
      simpa [hjl, hjc] using h1
    have e3 : (j : Int) + 1 = ((j + 1 : Nat) : Int) := by omega
    have e4 : (i : Int) + 1 = ((i + 1 : Nat) : Int) := by omega
    have hdr' : cur.drop (j + 1) = l.drop (j + 1) := by
      have := congrArg (List.drop 1) hdr
      simpa [List.drop_drop] using this
    have ht1 : l.take (j + 1) = l.take j ++ [l[j]] := by rw [List.take_add_one, List.getElem?_eq_getElem hjl]; rfl
    obtain ⟨hb, ad, hA, hcell, _⟩ := ho.sl.at_ (fun _ => rfl) hcl hjc
    refine F.slices_DeleteFunc_api_Stow_api_Stow.L5.step _ _ _ _ _ _ _ _ _ _ _ ⟨fun _ => ⟨hb, ad, hA, _, _, _, hcell, ?_⟩, fun h => by omega⟩
    refine runOk_alloc 35 zeroSw hBw fun w2 hnew b2 hlt => ?_
    refine ⟨_, _, hBw, rfl, hnew, by simp [Value.cells], rfl, fun w3 hw3 => ?_⟩
    have hcells : w3.heap[w.heap.size]? = some (.cells (cur[j].row).toArray 35 (0, 0)) := by
      have := hw3.at_
      simpa [setCells, Value.cells] using this
    have hoth3 : Oth A w0 w3 := Oth.fresh hw3 (hoth.trans (Oth.low b2)) hoth.1
    have hblk : ∀ x, A = some x → x.block < w.heap.size := fun x hx => (ho.blk x hx).2
    have o3 : OwnR w3 B 35 A n c 3 (cur.map Sw.row) := (ho.below b2).other fun x hx => hw3.rest _ (by have := hblk x hx; show x.block ≠ w.heap.size; omega)
    refine ⟨_, _, _, box_all hcells, hcall, Pure.mono (hf w3 hoth3 cur[j]) ?_⟩
    rintro v w4 b4 rfl
    have hoth4 := hoth3.trans (Oth.low (A := A) b4)
    have o4 := o3.below b4
    have hB4 : B ≤ w4.heap.size := by have := b4.size; have := hw3.size; omega
    refine ⟨_, rfl, fun hkeep => ?_, fun hdel => ⟨by simp only [inR]; omega, ?_⟩⟩
    · have hpj : p l[j] = false := by rw [← ej]; exact hkeep
      obtain ⟨g1, a2, hA2, cs, g2, g3, g4, g5, g6⟩ := o4.set0 (i := (i : Int)) (by omega) (by omega) (cur[j].row) ((cur[i]'(by omega)).row) (by rw [Int.toNat_natCast, List.getElem?_map, List.getElem?_eq_getElem (by omega)]; rfl) rfl
      refine ⟨_, _, _, box_all (heap_keep hcells b4), g1, a2, hA2, cs, _, g2, g3, g4, g5, rfl, fun w5 hw5 => ⟨by simp only [inR]; omega, by simp only [inR]; omega, ?_⟩⟩
      have o5 := g6 w5 hw5
      rw [Int.toNat_natCast] at o5
      have hadd : (a2.add ((i : Int).toNat * 3)).block = a2.block := by unfold Addr.add; split <;> rfl
      rw [e3, e4]
      refine ih (i + 1) (j + 1) (cur.set i cur[j]) w5 (by omega) (by omega) (by omega) (by simp [hcl]) (by rw [List.map_set]; exact o5) ?_ ?_ (hoth4.trans (Oth.wrote hw5 ⟨a2, hA2, hadd.symm⟩)) (by rw [hw5.size]; exact hB4)
      · rw [List.take_add_one, List.getElem?_set_self (by omega), List.take_set_of_le (by omega), ht, ht1, List.filter_append, ej]
        simp [hpj]
      · rw [List.drop_set_of_lt (by omega)]
        exact hdr'
    · have hpj : p l[j] = true := by rw [← ej]; simpa using hdel
      rw [e3]
      refine ih i (j + 1) cur w4 (by omega) (by omega) (by omega) hcl o4 ?_ hdr' hoth4 hB4
      rw [ht, ht1, List.filter_append]
      simp [hpj]
theorem DeleteFuncS {w : World} {B : Nat} (hB : B ≤ w.heap.size) {A : Option Addr} {n c : Nat} {l : List Sw} (ho : OwnR w B 35 A n c 3 (l.map Sw.row)) (hn : n < 2147483648) {f : Nat} {a k : Array Value} (hcall : callable Tryz.prog f = true) {p : Sw → Bool}
    (hf : ∀ w', Oth A w w' → ∀ x : Sw, Pure Tryz.prog f (a.toList ++ ([x.val] : List Value) ++ k.toList).toArray w' fun v _ => v = .bool (p x)) :
    PureB Tryz.prog 101 #[.slice A n c, .func (.func f) a k] B w fun v w' => ∃ m, v = .slice A m c ∧ OwnR w' B 35 A m c 3 ((l.filter fun x => !p x).map Sw.row) ∧ Oth A w w' := by
  have hlen : l.length = n := by have := ho.len; simpa using this
  have hnc := ho.len_le
  refine F.slices_DeleteFunc_api_Stow_api_Stow.vcB _ _ _ _ _ _ _ _ hB _ ?_
  refine Pure.mono (F.slices_IndexFunc_api_Stow_api_Stow.vc _ _ _ _ _ _ _ _ (index_stows ho.sl hlen hn hcall (fun w' hb x => hf w' (Oth.low hb) x) (R := fun v _ => v = .int .i64 (idxG p 0 l)) (fun _ => rfl) n 0 w rfl (by omega) (Below.refl _ _) rfl)) ?_
  rintro v w2 b2 rfl
  have key := idxG_find p l 0
  cases hx : l.findIdx? p with
  | none =>
    rw [hx] at key
    simp only at key
    rw [key]
    refine ⟨_, rfl, fun _ => ⟨n, rfl, ?_, Oth.low b2⟩, fun h => absurd rfl h⟩
    rw [find_none hx]
    exact ho.below b2
  | some i =>
    rw [hx] at key
    simp only [Nat.zero_add] at key
    rw [key]
    obtain ⟨hil, hfi⟩ := find_some hx
    have e3 : (i : Int) + 1 = ((i + 1 : Nat) : Int) := by omega
    refine ⟨_, rfl, fun h => by omega, fun _ => ⟨by simp only [inR]; omega, ?_⟩⟩
    rw [e3]
    exact delf_loop (w0 := w) hlen hn hnc hcall hf (fun m w' hoth o => ⟨m, rfl, o, hoth⟩) (n - (i + 1)) i (i + 1) l w2 rfl (by omega) (by omega) hlen (ho.below b2) hfi.symm rfl (Oth.low b2) (Nat.le_trans hB b2.size)
end Go.Proofs.YtdnelnicnjplpaaGreatDoor.B
