/- Part 4 of the proofs that: the statements about sensors hold -/
import Derived.Test.YtdoailkigecmkaaGreatDoorG3
import Derived.Lib.ItoaNum
import Derived.Lib.LaidTab
import Derived.Test.YtdoailkigecmkaaGreatDoorProg
set_option linter.unusedVariables false
set_option linter.unusedSimpArgs false
namespace Go.Proofs.YtdoailkigecmkaaGreatDoor.B
open Go Go.RowKit Go.Proofs Go.Proofs.YtdoailkigecmkaaGreatDoor.Vc

theorem SlU.block_lt {w : World} {A : Option Addr} {ws : List Nat} (h : SlU w A ws) (hn : ws ≠ []) : ∀ a, A = some a → a.block < w.heap.size := by
  intro a ha
  rcases h with h | ⟨b, off, all, fr, hA, hb, _⟩
  · exact absurd h hn
  · rw [hA] at ha; cases ha
    exact (Array.getElem?_eq_some_iff.1 hb).1

theorem OwnU.blk_of {w : World} {B : Nat} {A : Option Addr} {n c : Nat} {ws : List Nat} (h : OwnU w B A n c ws) : ∀ a, A = some a → B ≤ a.block ∧ a.block < w.heap.size := by
  intro a ha
  subst ha
  exact h.blk a.block rfl

theorem OwnU.replicate {w : World} {B : Nat} {A : Option Addr} {n : Nat} (k : w.ownsRow B 106 1 (.slice A n n) n (List.replicate n (.int .u32 0))) : OwnU w B A n n (List.replicate n 0) := by
  unfold OwnU
  have : u32s (List.replicate n 0) = List.replicate n (.int .u32 0) := by simp [u32s]
  rw [this]
  exact k
theorem Small.replicate (n : Nat) : Small (List.replicate n 0) := fun x hx => by rw [List.eq_of_mem_replicate hx]; omega

theorem div_J13 {w : World} {B Bu : Nat} {Af Au Av : Option Addr} {nf cf nu cu nv cv : Nat} {us vs : List Nat} {R : Value → World → Prop} (hB : B ≤ w.heap.size) (hBu : B ≤ Bu) (hu : OwnU w Bu Au nu cu us) (hsu : Small us) (hv : SlU w Av vs) (hvl : vs.length = nv) (hsv : Small vs)
    (hvu : ∀ a b, Av = some a → Au = some b → a.block ≠ b.block) (hvb : ∀ a, Av = some a → a.block < w.heap.size) (hnv : 2 ≤ nv) (hlt : nv ≤ nu) (hn : nu ≤ 1000000) (hhalf : 1000000000 ≤ 2 * vs.getD (nv - 1) 0)
    {f : Nat} (hf : IsN w Af nf cf f) (hfu : ∀ a b, Af = some a → Au = some b → a.block ≠ b.block) (hfb : ∀ a, Af = some a → a.block < w.heap.size) (hf0 : 0 < f) (hf1 : f ≤ 1000000000) (htop : wv (us.drop (nu - nv)) < wv vs)
    (hR : ∀ A n c A' n' c' w, IsN w A n c (wv us / wv vs) → IsN w A' n' c' (wv us % wv vs / f) → R (.tuple #[.slice A n c, .slice A' n' c']) w) :
    F.natural_num_divide.J13 Af nf cf Au nu cu Av nv cv B w R := by
  refine F.natural_num_divide.J13.step _ _ _ _ _ _ _ _ _ _ _ _ ⟨by simp only [inR]; omega, ?_⟩
  refine runOk_make el_num El.zeroU32 rfl (by omega) (by omega) hB fun Aq nq w2 hnq k1 g2 k2 => ⟨by simp only [inR]; omega, ?_⟩
  have hnq' : nq = nu - nv := by omega
  have hq := OwnU.replicate k1
  have hqb : ∀ a, Aq = some a → w.heap.size ≤ a.block := fun a ha => (hq.blk_of a ha).1
  have hgb : Below w.heap.size w w2 := below_grown g2 (by simp) (Nat.le_refl _)
  have hu2 : OwnU w2 B Au nu cu us := (hu.base hBu).other fun b hb => hgb.block b (hu.blk b hb).2
  have hap : Apart Au Aq := fun a b ha hb => by
    have h1 := hu.blk_of a ha
    have h2 := hqb b hb
    omega
  refine div_L16 (w1 := w2) hap hn (Nat.le_trans hB hgb.size) (hv.below hgb) hvl hsv (Sep.of hvu fun a b ha hb => by have h1 := hvb a ha; have h2 := hqb b hb; omega) hnv (by omega) hhalf (hf.below hgb)
    (Sep.of hfu fun a b ha hb => by have h1 := hfb a ha; have h2 := hqb b hb; omega) hf0 hf1 hR nq w2 us (List.replicate nq 0) (Nat.le_refl _)
    ⟨hu2, hq.base hB, hsu, Small.replicate _, fun _ _ _ _ => rfl, Below.refl _ _⟩ (by rw [hnq']; exact htop) ?_
  rw [List.drop_eq_nil_of_le (by simp)]
  simp [wv]

theorem wv_len_ge {a b : List Nat} (hsa : Small a) (hnb : Norm b) (h : wv b ≤ wv a) : b.length ≤ a.length := by
  apply Decidable.byContradiction
  intro k
  have := wv_lt_len hsa hnb (by omega)
  omega

theorem norm_top {l : List Nat} (hn : Norm l) (h : l ≠ []) : 1 ≤ l.getD (l.length - 1) 0 := by
  have hp := List.length_pos_iff.2 h
  have e : l.getLast? = some (l.getD (l.length - 1) 0) := by
    rw [List.getLast?_eq_getElem?, List.getD_eq_getElem?_getD, List.getElem?_eq_getElem (by omega)]
    rfl
  apply Decidable.byContradiction
  intro k
  have h0 : l.getD (l.length - 1) 0 = 0 := by omega
  rw [h0] at e
  exact hn e

theorem div_J7 {w : World} {B : Nat} {A0 A1 : Option Addr} {n0 c0 n1 c1 x y : Nat} {R : Value → World → Prop} (hB : B ≤ w.heap.size) (ha : IsN w A0 n0 c0 x) (hb : IsN w A1 n1 c1 y) (hx : x < Lim) (hyx : y ≤ x) (hy0 : y ≠ 0)
    (hR : ∀ A n c A' n' c' w, IsN w A n c (x / y) → IsN w A' n' c' (x % y) → R (.tuple #[.slice A n c, .slice A' n' c']) w) :
    F.natural_num_divide.J7 A0 n0 c0 A1 n1 c1 B w R := by
  have l0 := ha.len hx
  have l1 := hb.len (Nat.lt_of_le_of_lt hyx hx)
  have haN := ha
  have hbN := hb
  obtain ⟨a, a1, a2, a3, a4, a5, a6, ax⟩ := ha
  obtain ⟨b, b1, b2, b3, b4, b5, b6, bx⟩ := hb
  have hbn : b ≠ [] := fun k => by subst k; simp [wv] at bx; omega
  have hbl := List.length_pos_iff.2 hbn
  refine F.natural_num_divide.J7.step _ _ _ _ _ _ _ _ _ ⟨fun h => ?_, fun h => ⟨by simp only [inR]; omega, ?_⟩⟩
  · have g := b5.getD (Int.toNat 0)
    refine b1.load b2 (by omega) (by omega) ⟨by simp only [inR]; omega, ?_⟩
    have e : b.getD (Int.toNat 0) 0 = y := by
      obtain ⟨z, rfl⟩ := List.length_eq_one_iff.1 (by omega : b.length = 1)
      simpa [wv] using bx
    rw [e] at g ⊢
    refine Pure.mono (natural_by haN (by omega) (by omega) (by omega)) ?_
    rintro v w2 hb2 ⟨A, n, c, A', n', c', rfl, k1, k2⟩
    exact ⟨_, _, _, _, _, _, rfl, hR _ _ _ _ _ _ _ k1 k2⟩
  · have g := b5.getD (n1 - 1)
    have e1 : ((n1 : Int) - 1).toNat = n1 - 1 := by omega
    refine b1.load b2 (by omega) (by omega) ?_
    rw [e1]
    obtain ⟨mt, hmt⟩ : ∃ mt, mt = b.getD (n1 - 1) 0 := ⟨_, rfl⟩
    have hmt1 : 1 ≤ mt := by rw [hmt, ← b2]; exact norm_top b6 hbn
    rw [← hmt] at g ⊢
    obtain ⟨f, hf⟩ : ∃ f, f = 1000000000 / (mt + 1) := ⟨_, rfl⟩
    obtain ⟨hf0, hf1, hf2⟩ := factor_half hmt1 g hf
    have hfb : f ≤ 1000000000 := by rw [hf]; exact Nat.div_le_self _ _
    have ef : (1000000000 : Int) / ((mt : Int) + 1) = (f : Int) := by rw [hf]; simp
    rw [ef]
    refine ⟨by simp only [inR]; omega, by simp only [inR]; omega, ⟨by omega, by omega, by simp only [inR]; omega⟩, ?_⟩
    refine Pure.mono (natural_of (by omega)) ?_
    rintro v w29 hb29 ⟨Af, nf, cf, rfl, kf⟩
    refine ⟨_, _, _, rfl, ?_⟩
    have hfL : f < Lim := by
      unfold Lim
      exact Nat.lt_of_le_of_lt (show f ≤ 1000000000 ^ 1 by omega) (Nat.pow_lt_pow_right (by omega) (by have := klim; omega))
    refine Pure.mono (natural_times (haN.below hb29) kf hx hfL) ?_
    rintro v w32 hb32 ⟨Au, nu, cu, rfl, _, us, u1, u2, u3, u4⟩
    refine ⟨_, _, _, rfl, ?_⟩
    have hxf : x ≤ x * f := Nat.le_mul_of_pos_right _ (by omega)
    have hnu : n0 ≤ nu := by
      have := wv_len_ge u2 a6 (by rw [ax, u4]; exact hxf)
      have := u1.len
      omega
    have hnu2 : nu ≤ n0 + 1 := by
      apply Decidable.byContradiction
      intro k
      have hl := u1.len
      have h1 := wv_pos u3 (fun e => by subst e; simp at hl; omega)
      have h2 := wv_lt a5
      have h3 : 1000000000 ^ (a.length + 1) ≤ 1000000000 ^ (us.length - 1) := Nat.pow_le_pow_right (by omega) (by omega)
      have h4 : wv a * f ≤ wv a * 1000000000 := Nat.mul_le_mul_left _ hfb
      rw [Nat.pow_succ] at h3
      rw [u4, ← ax] at h1
      omega
    have s29 := hb29.size
    have s32 := hb32.size
    refine app_u32 (B0 := B) el_num (by omega) u1 (by omega) s32 (by simp) (x := 0) (by omega) fun Au' cu' w38 u5 g38 b38 => ?_
    have hb38 : Below w29.heap.size w32 w38 := below_grown g38 (fun k hk => (u1.blk k hk).1) s32
    have s38 := hb38.size
    have hw38 : Below w.heap.size w w38 := (hb29.trans (hb32.mono s29)).trans (hb38.mono s29)
    have kf38 : IsN w38 Af nf cf f := kf.below (hb32.trans hb38)
    refine Pure.mono (natural_times (hbN.below hw38) kf38 (Nat.lt_of_le_of_lt hyx hx) hfL) ?_
    rintro v w41 hb41 ⟨Av, nv, cv, rfl, _, vs, v1, v2, v3, v4⟩
    have s41 := hb41.size
    refine ⟨_, _, _, rfl, fun h => by omega, fun _ => ?_⟩
    have hyf : y ≤ y * f := Nat.le_mul_of_pos_right _ (by omega)
    have hbs := wv_split b (n1 - 1) (by omega)
    have hbd : wv (b.drop (n1 - 1)) = mt := by
      rw [wv_drop, ← hmt, List.drop_eq_nil_of_le (by omega)]
      simp [wv]
    rw [hbd] at hbs
    have hbt := wv_lt (b5.take (n1 - 1))
    rw [List.length_take, Nat.min_eq_left (by omega)] at hbt
    obtain ⟨P, hP⟩ : ∃ P, P = 1000000000 ^ (n1 - 1) := ⟨_, rfl⟩
    rw [← hP] at hbs hbt
    have hyf2 : y * f < P * 1000000000 := by
      have k1 : y + 1 ≤ P * (mt + 1) := by rw [← bx, hbs, Nat.mul_add]; omega
      have k2 : (y + 1) * f ≤ P * (mt + 1) * f := Nat.mul_le_mul_right _ k1
      have k3 : P * ((mt + 1) * f) ≤ P * 1000000000 := Nat.mul_le_mul_left _ hf1
      rw [Nat.mul_assoc] at k2
      rw [Nat.add_mul] at k2
      omega
    have hyf3 : P * (mt * f) ≤ y * f := by
      have k1 : P * mt ≤ y := by rw [← bx, hbs]; omega
      have := Nat.mul_le_mul_right f k1
      rwa [Nat.mul_assoc] at this
    have hnv : nv = n1 := by
      have h1 := wv_len_ge v2 b6 (by rw [bx, v4]; exact hyf)
      have h2 := v1.len
      apply Decidable.byContradiction
      intro k
      have h3 := wv_pos v3 (fun e => by rw [e, List.length_nil] at h1; omega)
      have h4 : 1000000000 ^ (n1 - 1 + 1) ≤ 1000000000 ^ (vs.length - 1) := Nat.pow_le_pow_right (by omega) (by omega)
      rw [Nat.pow_succ, ← hP] at h4
      omega
    subst hnv
    have hvl := v1.len
    have hhalf : 1000000000 ≤ 2 * vs.getD (nv - 1) 0 := by
      have h1 := wv_split vs (nv - 1) (by omega)
      have h2 := wv_lt (v2.take (nv - 1))
      rw [List.length_take, Nat.min_eq_left (by omega), ← hP] at h2
      have h3 : wv (vs.drop (nv - 1)) = vs.getD (nv - 1) 0 := by
        rw [wv_drop, List.drop_eq_nil_of_le (by omega)]
        simp [wv]
      rw [h3, ← hP, v4] at h1
      apply Decidable.byContradiction
      intro k
      have h4 : P * (vs.getD (nv - 1) 0 + 1) ≤ P * (mt * f) := Nat.mul_le_mul_left _ (by omega)
      rw [Nat.mul_add] at h4
      omega
    have hn1 : nv ≤ n0 := by
      have := wv_len_ge a5 b6 (by rw [ax, bx]; exact hyx)
      omega
    have hul := u1.len
    have hub := u5.blk_of
    have hvb := v1.blk_of
    have hfne : ∀ a, Af = some a → a.block < w29.heap.size := by
      obtain ⟨ws, q1, q2, _, _, _, _, q3⟩ := kf
      refine q1.block_lt fun e => ?_
      subst e
      simp [wv] at q3
      omega
    have e0 : wv (us ++ [(0 : Int).toNat]) = x * f := by rw [wv_append, u4]; simp [wv]
    have u41 : OwnU w41 w29.heap.size Au' (nu + 1) cu' (us ++ [(0 : Int).toNat]) := u5.other fun k hk => hb41.block k (u5.blk k hk).2
    refine div_J13 (Bu := w29.heap.size) (by omega) (by omega) u41 (u2.append (Small.cons (by simp) Small.nil)) v1.sl hvl v2 (fun a b ha hb => ?_) (fun a ha => (hvb a ha).2) (by omega) (by omega) (by omega) hhalf
      (kf38.below hb41) (fun a b ha hb => ?_) (fun a ha => by have := hfne a ha; omega) (by omega) hfb ?_ ?_
    · have h1 := hvb a ha
      have h2 := hub b hb
      omega
    · have h1 := hfne a ha
      have h2 := hub b hb
      omega
    · have e2 : (us ++ [(0 : Int).toNat]).drop (nu + 1 - nv) = us.drop (nu + 1 - nv) ++ [0] := by rw [List.drop_append_of_le_length (by omega)]; rfl
      rw [e2, wv_append]
      have h1 := wv_lt (l := us.drop (nu + 1 - nv)) fun x hx => u2 x (List.mem_of_mem_drop hx)
      rw [List.length_drop, show us.length - (nu + 1 - nv) = nv - 1 by omega, ← hP] at h1
      have h2 : P * 1 ≤ P * (mt * f) := Nat.mul_le_mul_left _ (Nat.mul_pos (by omega) (by omega))
      simp only [wv, Nat.mul_zero, Nat.add_zero]
      omega
    · rw [e0, v4, Nat.mul_div_mul_right _ _ (by omega), Nat.mul_mod_mul_right, Nat.mul_div_cancel _ (by omega)]
      exact hR

theorem natural_divide {w : World} {A0 A1 : Option Addr} {n0 c0 n1 c1 x y : Nat} (ha : IsN w A0 n0 c0 x) (hb : IsN w A1 n1 c1 y) (hx : x < Lim) (hy : y < Lim) (hy0 : y ≠ 0) :
    Pure Tryz.prog 168 #[.slice A0 n0 c0, .slice A1 n1 c1] w fun v w' => ∃ A n c A' n' c', v = .tuple #[.slice A n c, .slice A' n' c'] ∧ IsN w' A n c (x / y) ∧ IsN w' A' n' c' (x % y) := by
  refine F.natural_num_divide.vc _ _ _ _ _ _ _ _ (Pure.mono (natural_compare ha hb hx hy) ?_)
  rintro v w3 hb3 rfl
  refine ⟨_, rfl, fun h => ?_, fun h => ?_⟩
  · have hlt : x < y := by
      simp only [cmpI] at h
      split at h
      · omega
      · split at h <;> omega
    rw [Nat.div_eq_of_lt hlt, Nat.mod_eq_of_lt hlt]
    exact ⟨_, _, _, _, _, _, rfl, ⟨[], .inl rfl, rfl, by omega, by omega, Small.nil, by simp [Norm], rfl⟩, ha.below hb3⟩
  · have hle : y ≤ x := by
      simp only [cmpI] at h
      split at h <;> omega
    refine Pure.mono (natural_small (ha.below hb3)) ?_
    rintro v w7 hb7 rfl
    refine ⟨_, _, rfl, ?_⟩
    have hw7 : Below w.heap.size w w7 := hb3.trans (hb7.mono hb3.size)
    refine Pure.mono (natural_small (hb.below hw7)) ?_
    rintro v w11 hb11 rfl
    have hw11 : Below w.heap.size w w11 := hw7.trans (hb11.mono hw7.size)
    have done : ∀ A n c A' n' c' w', IsN w' A n c (x / y) → IsN w' A' n' c' (x % y) → ∃ A1 n1 c1 A2 n2 c2, Value.tuple #[.slice A n c, .slice A' n' c'] = .tuple #[.slice A1 n1 c1, .slice A2 n2 c2] ∧ IsN w' A1 n1 c1 (x / y) ∧ IsN w' A2 n2 c2 (x % y) :=
      fun A n c A' n' c' w' k1 k2 => ⟨_, _, _, _, _, _, rfl, k1, k2⟩
    refine ⟨_, _, rfl, fun hs => ⟨fun ht => ?_, fun _ => ?_⟩, fun _ => ?_⟩
    · have hx18 : x < 1000000000000000000 := by simpa using hs
      have hy18 : y < 1000000000000000000 := by simpa using ht
      rw [if_pos hx18, if_pos hy18]
      have ed : (x : Int) / (y : Int) = ((x / y : Nat) : Int) := by simp
      have em : (x : Int) % (y : Int) = ((x % y : Nat) : Int) := by simp
      have hd := Nat.div_le_self x y
      have hm := Nat.mod_le x y
      rw [ed, em]
      refine ⟨⟨by omega, by omega, by simp only [inR]; omega⟩, ⟨by omega, by omega⟩, fun w12 e12 => ?_⟩
      refine Pure.mono (natural_of (by omega)) ?_
      rintro v w13 hb13 ⟨A, n, c, rfl, k1⟩
      refine ⟨_, _, _, rfl, Pure.mono (natural_of (by omega)) ?_⟩
      rintro v w14 hb14 ⟨A', n', c', rfl, k2⟩
      exact ⟨_, _, _, rfl, done _ _ _ _ _ _ _ (k1.below hb14) k2⟩
    · exact div_J7 hw11.size (ha.below hw11) (hb.below hw11) hx hle hy0 done
    · exact div_J7 hw11.size (ha.below hw11) (hb.below hw11) hx hle hy0 done
end Go.Proofs.YtdoailkigecmkaaGreatDoor.B

namespace Go.Proofs.YtdoailkigecmkaaGreatDoor.B
open Go Go.RowKit Go.Proofs Go.Proofs.YtdoailkigecmkaaGreatDoor.Vc

theorem IsN.pos_len {w : World} {A : Option Addr} {n c x : Nat} (h : IsN w A n c x) : 0 < n ↔ x ≠ 0 := by
  obtain ⟨ws, _, hl, _, _, _, hn, rfl⟩ := h
  constructor
  · intro h0 hx
    have h1 := wv_pos hn (fun e => by subst e; simp at hl; omega)
    have h2 : 0 < 1000000000 ^ (ws.length - 1) := Nat.pow_pos (by omega)
    omega
  · intro hx
    apply Decidable.byContradiction
    intro k
    have : ws = [] := List.eq_nil_of_length_eq_zero (by omega)
    subst this
    exact hx rfl

theorem gcd_L5 {B : Nat} {R : Value → World → Prop} : ∀ (y x : Nat) (w : World), x < 1000000000000000000 → y < 1000000000000000000 → B ≤ w.heap.size → (∀ A n c w', IsN w' A n c (Nat.gcd x y) → R (.slice A n c) w') → F.natural_num_gcd.L5 x y B w R := by
  intro y
  induction y using Nat.strongRecOn with
  | ind y ih =>
    intro x w hx hy hB hR
    refine F.natural_num_gcd.L5.step _ _ _ _ _ ⟨fun h => ⟨⟨by omega, by omega⟩, fun w2 e => ?_⟩, fun h => ?_⟩
    · have em : (x : Int) % (y : Int) = ((x % y : Nat) : Int) := by simp
      rw [em]
      have hm := Nat.mod_lt x (show 0 < y by omega)
      refine ih _ hm y w2 hy (by omega) (Nat.le_trans hB e.below.size) fun A n c w' k => hR A n c w' ?_
      rwa [Nat.gcd_comm y, ← Nat.gcd_rec, Nat.gcd_comm] at k
    · have h0 : y = 0 := by omega
      subst h0
      refine Pure.mono (natural_of hx) ?_
      rintro v w2 _ ⟨A, n, c, rfl, k⟩
      exact ⟨_, _, _, rfl, hR A n c w2 (by rwa [Nat.gcd_zero_right])⟩

theorem gcd_L1 {B : Nat} {R : Value → World → Prop} : ∀ (y x : Nat) (w : World) (A0 A1 : Option Addr) (n0 c0 n1 c1 : Nat), IsN w A0 n0 c0 x → IsN w A1 n1 c1 y → x < Lim → y < Lim → B ≤ w.heap.size → (∀ A n c w', IsN w' A n c (Nat.gcd x y) → R (.slice A n c) w') →
    F.natural_num_gcd.L1 A0 n0 c0 A1 n1 c1 B w R := by
  intro y
  induction y using Nat.strongRecOn with
  | ind y ih =>
    intro x w A0 A1 n0 c0 n1 c1 ha hb hx hy hB hR
    have hp := hb.pos_len
    refine F.natural_num_gcd.L1.step _ _ _ _ _ _ _ _ _ ⟨fun h => ?_, fun h => ?_⟩
    · have hy0 : y ≠ 0 := hp.1 (by omega)
      have hm := Nat.mod_lt x (show 0 < y by omega)
      refine Pure.mono (natural_small ha) ?_
      rintro v w4 hb4 rfl
      refine ⟨_, _, rfl, Pure.mono (natural_small (hb.below hb4)) ?_⟩
      rintro v w8 hb8 rfl
      have hw8 : Below w.heap.size w w8 := hb4.trans (hb8.mono hb4.size)
      have s8 := hw8.size
      have rest : Pure Tryz.prog 168 #[.slice A0 n0 c0, .slice A1 n1 c1] w8 fun v w' => ∃ A n c A' n' c', v = .tuple #[.slice A n c, .slice A' n' c'] ∧ F.natural_num_gcd.L1 A1 n1 c1 A' n' c' B w' R := by
        refine Pure.mono (natural_divide (ha.below hw8) (hb.below hw8) hx hy hy0) ?_
        rintro v w9 hb9 ⟨A, n, c, A', n', c', rfl, k1, k2⟩
        refine ⟨_, _, _, _, _, _, rfl, ih _ hm y w9 _ _ _ _ _ _ ((hb.below hw8).below hb9) k2 hy (by omega) (by have := hb9.size; omega) fun A n c w' k => hR A n c w' ?_⟩
        rwa [Nat.gcd_comm y, ← Nat.gcd_rec, Nat.gcd_comm] at k
      refine ⟨_, _, rfl, fun hs => ⟨fun ht => ?_, fun _ => rest⟩, fun _ => rest⟩
      have hx18 : x < 1000000000000000000 := by simpa using hs
      have hy18 : y < 1000000000000000000 := by simpa using ht
      rw [if_pos hx18, if_pos hy18]
      exact gcd_L5 y x w8 hx18 hy18 (by omega) hR
    · have h0 : y = 0 := by
        apply Decidable.byContradiction
        intro k
        have := hp.2 k
        omega
      subst h0
      exact hR _ _ _ _ (by rwa [Nat.gcd_zero_right])

theorem natural_gcd {w : World} {A0 A1 : Option Addr} {n0 c0 n1 c1 x y : Nat} (ha : IsN w A0 n0 c0 x) (hb : IsN w A1 n1 c1 y) (hx : x < Lim) (hy : y < Lim) :
    Pure Tryz.prog 149 #[.slice A0 n0 c0, .slice A1 n1 c1] w fun v w' => ∃ A n c, v = .slice A n c ∧ IsN w' A n c (Nat.gcd x y) :=
  F.natural_num_gcd.vc _ _ _ _ _ _ _ _ (gcd_L1 y x w _ _ _ _ _ _ ha hb hx hy (Nat.le_refl _) fun A n c w' k => ⟨A, n, c, rfl, k⟩)
end Go.Proofs.YtdoailkigecmkaaGreatDoor.B

namespace Go.Proofs.YtdoailkigecmkaaGreatDoor.B
open Go Go.RowKit Go.Proofs Go.Proofs.YtdoailkigecmkaaGreatDoor.Vc

theorem foldD (l : Tx) : ∀ a : Nat, l.foldl (fun a c => 10 * a + dv c) a = a * 10 ^ l.length + valD l := by
  induction l with
  | nil => intro a; simp [valD]
  | cons c r ih =>
    intro a
    have h1 := ih (10 * a + dv c)
    have h2 := ih (10 * 0 + dv c)
    simp only [valD, List.foldl_cons, List.length_cons, Nat.pow_succ] at *
    rw [h1, h2]
    grind
theorem valD_append (a b : Tx) : valD (a ++ b) = valD a * 10 ^ b.length + valD b := by
  have := foldD b (valD a)
  rw [← this]
  simp [valD, List.foldl_append]
theorem valD_cons (c : UInt8) (r : Tx) : valD (c :: r) = dv c * 10 ^ r.length + valD r := by
  have h1 := foldD r (10 * 0 + dv c)
  have h2 : valD (c :: r) = r.foldl (fun a c => 10 * a + dv c) (10 * 0 + dv c) := rfl
  rw [h2, h1]
  simp
theorem valD_lt {l : Tx} (h : l.all dig = true) : valD l < 10 ^ l.length := by
  induction l with
  | nil => simp [valD]
  | cons c r ih =>
    simp only [List.all_cons, Bool.and_eq_true] at h
    have h1 := ih h.2
    have h2 : dv c ≤ 9 := by have := h.1; simp [dig] at this; simp only [dv]; omega
    have h3 : dv c * 10 ^ r.length ≤ 9 * 10 ^ r.length := Nat.mul_le_mul_right _ h2
    rw [valD_cons, List.length_cons, Nat.pow_succ]
    omega

theorem parseUintM_ok (M : Nat) (hM : M < 18446744073709551616) : ∀ (l : Tx) (acc : Nat), l.all dig = true → acc * 10 ^ l.length + valD l ≤ M → Lib.parseUintM M acc l = .ok (acc * 10 ^ l.length + valD l) := by
  intro l
  induction l with
  | nil => intro acc _ _; simp [Lib.parseUintM, valD]
  | cons c r ih =>
    intro acc hd hle
    simp only [List.all_cons, Bool.and_eq_true] at hd
    have hc : 48 ≤ c.toNat ∧ c.toNat ≤ 57 := by have := hd.1; simpa [dig] using this
    have e : acc * 10 ^ (c :: r).length + valD (c :: r) = (acc * 10 + (c.toNat - 48)) * 10 ^ r.length + valD r := by
      have h1 := foldD r (10 * 0 + dv c)
      have h2 : valD (c :: r) = r.foldl (fun a c => 10 * a + dv c) (10 * 0 + dv c) := rfl
      rw [h2, h1, List.length_cons, Nat.pow_succ]
      simp only [dv]
      grind
    have hp : 0 < 10 ^ r.length := Nat.pow_pos (by omega)
    have h3 : acc * 10 + (c.toNat - 48) ≤ (acc * 10 + (c.toNat - 48)) * 10 ^ r.length := Nat.le_mul_of_pos_right _ hp
    rw [e] at hle ⊢
    rw [Lib.parseUintM, if_pos hc, if_neg (by omega), if_neg (by omega)]
    exact ih _ hd.2 hle
theorem parseUintB_ok {B : Nat} {l : Tx} (hB : 2 ^ B - 1 < 18446744073709551616) (h0 : l ≠ []) (hd : l.all dig = true) (hle : valD l ≤ 2 ^ B - 1) : Lib.parseUintB B l = .ok (valD l) := by
  rw [Lib.parseUintB, if_neg h0, parseUintM_ok _ hB l 0 hd (by simpa using hle)]
  simp

theorem by_extract (s : ByteArray) (i j : Nat) : by_ (s.extract i j) = ((by_ s).take j).drop i := by
  unfold by_
  rw [ByteArray.data_extract, Array.toList_extract, List.extract_eq_take_drop, List.drop_take]

theorem below_of_uint {w w' : World} {e : Nat} {s : ByteArray} (h : w' = w ∨ w' = Lib.bytesWorld w e s) : Below w.heap.size w w' := by
  rcases h with rfl | rfl
  · exact Below.refl _ _
  · exact ⟨rfl, rfl, rfl, by rw [Lib.bytesWorld_size]; omega, fun k hk => Lib.bytesWorld_at_old w e s k hk⟩

theorem ParseUint32 (s : ByteArray) (h0 : by_ s ≠ []) (hd : (by_ s).all dig = true) (hl : s.size ≤ 9) (w : World) :
    Pure Tryz.prog 186 #[.string s, .int .i64 10, .int .i64 32] w fun v _ => v = .tuple #[.int .u64 (valD (by_ s) : Nat), .nilIface] := by
  have hv := valD_lt hd
  have hp : 10 ^ (by_ s).length ≤ 10 ^ 9 := Nat.pow_le_pow_right (by omega) (by rw [← size_by]; exact hl)
  have hok := parseUintB_ok (B := 32) (by omega) h0 hd (by omega)
  exact Calls.mono (Tryz.strconv_ParseUint_10_at32_ok s (by omega) _ hok w) fun e w' ⟨he, hw⟩ => ⟨_, he, below_of_uint hw, rfl⟩

theorem read_loop {w0 : World} {R : Value → World → Prop} {x : Nat} (hR : ∀ A n c w, IsN w A n c x → R (.slice A n c) w) :
    ∀ (d : Nat) (s : ByteArray) (w : World) (A : Option Addr) (n c : Nat) (ws : List Nat), s.size ≤ d → n + s.size ≤ 900000 → (by_ s).all dig = true → OwnU w w0.heap.size A n c ws → Small ws → w0.heap.size ≤ w.heap.size →
      wv ws + 1000000000 ^ n * valD (by_ s) = x → F.natural_read.L2 s A n c w0.heap.size w R := by
  intro d
  induction d with
  | zero =>
    intro s w A n c ws hs hn hd ho hsm hw he
    have h0 : by_ s = [] := List.eq_nil_of_length_eq_zero (by rw [← size_by]; omega)
    rw [h0] at he
    refine F.natural_read.L2.step _ _ _ _ _ _ _ ⟨fun h => by omega, fun _ => ?_⟩
    refine Pure.mono (natural_trim ho.sl ho.len ho.cap (by omega) hsm) ?_
    rintro v w2 _ ⟨rfl, m, rfl, h, _⟩
    have e : wv ws = x := by rw [← he]; simp [valD]
    rw [e] at h
    exact ⟨_, _, _, rfl, hR _ _ _ _ h⟩
  | succ d ih =>
    intro s w A n c ws hs hn hd ho hsm hw he
    have hsz := size_by s
    by_cases h0 : s.size = 0
    · exact ih s w A n c ws (by omega) hn hd ho hsm hw he
    obtain ⟨at_, hat⟩ : ∃ at_ : Nat, at_ = s.size - 9 := ⟨_, rfl⟩
    have eat : (if (0 : Int) > ((s.size : Int) - 9) then (0 : Int) else ((s.size : Int) - 9)) = (at_ : Int) := by split <;> omega
    refine F.natural_read.L2.step _ _ _ _ _ _ _ ⟨fun _ => ?_, fun h => by omega⟩
    rw [eat, Int.toNat_natCast]
    refine ⟨by simp only [inR]; omega, ⟨by omega, by omega⟩, ?_⟩
    have et : by_ (s.extract at_ s.size) = (by_ s).drop at_ := by rw [by_extract, List.take_of_length_le (by omega)]
    have eh : by_ (s.extract 0 at_) = (by_ s).take at_ := by rw [by_extract]; rfl
    have hdt : ((by_ s).drop at_).all dig = true := by
      rw [List.all_eq_true] at hd ⊢
      exact fun y hy => hd y (List.mem_of_mem_drop hy)
    have hdh : ((by_ s).take at_).all dig = true := by
      rw [List.all_eq_true] at hd ⊢
      exact fun y hy => hd y (List.mem_of_mem_take hy)
    have hlt : ((by_ s).drop at_).length = s.size - at_ := by rw [List.length_drop, ← hsz]
    have hlh : ((by_ s).take at_).length = at_ := by rw [List.length_take, ← hsz]; omega
    have hu := valD_lt hdt
    have hp : 10 ^ ((by_ s).drop at_).length ≤ 10 ^ 9 := Nat.pow_le_pow_right (by omega) (by omega)
    refine Pure.mono (ParseUint32 _ (by rw [et]; exact fun k => by rw [k] at hlt; simp at hlt; omega) (by rw [et]; exact hdt) (by rw [size_by, et]; omega) w) ?_
    rintro v w4 hb4 rfl
    rw [et]
    refine ⟨_, _, rfl, by simp only [inR]; omega, ?_⟩
    have ho4 : OwnU w4 w0.heap.size A n c ws := ho.other fun b hb => hb4.block b (ho.blk b hb).2
    have s4 := hb4.size
    refine app_u32 (B0 := w0.heap.size) el_num (Nat.le_refl _) ho4 (by omega) (by omega) (by simp) (by omega) fun A' c' w5 o5 _ b5 => ⟨⟨by omega, by omega⟩, ?_⟩
    have s5 := b5.size
    rw [Int.toNat_natCast] at o5
    refine ih _ w5 A' (n + 1) c' _ (by rw [size_by, eh, hlh]; omega) (by rw [size_by, eh, hlh]; omega) (by rw [eh]; exact hdh) o5 (hsm.append (Small.cons (by omega) Small.nil)) (by omega) ?_
    rw [eh, wv_append, ho.len, Nat.pow_succ]
    have ev : valD (by_ s) = valD ((by_ s).take at_) * 1000000000 + valD ((by_ s).drop at_) := by
      have h1 := valD_append ((by_ s).take at_) ((by_ s).drop at_)
      rw [List.take_append_drop] at h1
      by_cases h9 : at_ = 0
      · rw [h1, h9]; simp [valD]
      · rw [h1, show ((by_ s).drop at_).length = 9 by omega]
    rw [ev] at he
    rw [← he]
    simp only [wv]
    grind

theorem natural_read {w : World} {s : ByteArray} (hs : s.size ≤ 900000) (h : isNat (by_ s) = true) :
    Pure Tryz.prog 164 #[.string s] w fun v w' => ∃ A n c, v = .slice A n c ∧ IsN w' A n c (valD (by_ s)) := by
  have hd : (by_ s).all dig = true := by simp [isNat] at h; simpa using h.2
  exact F.natural_read.vc _ _ _ (read_loop (w0 := w) (x := valD (by_ s)) (fun A n c w k => ⟨A, n, c, rfl, k⟩) s.size s w none 0 0 [] (Nat.le_refl _) (by omega) hd (World.ownsRow_nil w _ _ _) Small.nil (Nat.le_refl _) (by simp [wv]))
end Go.Proofs.YtdoailkigecmkaaGreatDoor.B

namespace Go.Proofs.YtdoailkigecmkaaGreatDoor.B
open Go Go.RowKit Go.Proofs Go.Proofs.YtdoailkigecmkaaGreatDoor.Vc

abbrev natT (n : Nat) : Tx := Lib.decDigits n

theorem valD_snoc (l : Tx) (c : UInt8) : valD (l ++ [c]) = 10 * valD l + dv c := by simp [valD]
theorem natT_small {n : Nat} (h : n < 10) : natT n = [UInt8.ofNat (48 + n)] := Lib.decDigits_one h
theorem natT_big {n : Nat} (h : ¬ n < 10) : natT n = natT (n / 10) ++ [UInt8.ofNat (48 + n % 10)] := by rw [natT, Lib.decDigits, dif_neg h]
theorem dv_of {n : Nat} (h : n < 10) : dv (UInt8.ofNat (48 + n)) = n := by
  simp only [dv, UInt8.toNat_ofNat']
  omega
theorem dig_of {n : Nat} (h : n < 10) : dig (UInt8.ofNat (48 + n)) = true := by
  simp only [dig, UInt8.toNat_ofNat']
  simp
  omega
theorem of_dv {c : UInt8} (h : dig c = true) : UInt8.ofNat (48 + dv c) = c := by
  apply UInt8.toNat_inj.1
  simp only [dig, Bool.and_eq_true, decide_eq_true_eq] at h
  simp only [dv, UInt8.toNat_ofNat']
  have := c.toNat_lt
  omega
theorem dv_lt {c : UInt8} (h : dig c = true) : dv c < 10 := by
  simp only [dig, Bool.and_eq_true, decide_eq_true_eq] at h
  simp only [dv]
  omega

theorem natT_val (n : Nat) : valD (natT n) = n := by
  induction n using Nat.strongRecOn with
  | _ n ih =>
    by_cases h : n < 10
    · have e : ∀ c, valD [c] = dv c := fun c => by simp [valD]
      rw [natT_small h, e, dv_of h]
    · rw [natT_big h, valD_snoc, ih (n / 10) (by omega), dv_of (by omega)]
      omega
theorem natT_all (n : Nat) : (natT n).all dig = true := by
  induction n using Nat.strongRecOn with
  | _ n ih =>
    by_cases h : n < 10
    · rw [natT_small h, List.all_cons, dig_of h]; rfl
    · rw [natT_big h, List.all_append, ih (n / 10) (by omega), List.all_cons, dig_of (show n % 10 < 10 by omega)]; rfl
theorem natT_ne (n : Nat) : natT n ≠ [] := by
  by_cases h : n < 10
  · rw [natT_small h]; simp
  · rw [natT_big h]; simp
theorem head_app {a b : Tx} (h : a ≠ []) : (a ++ b).head? = a.head? := by
  cases a with
  | nil => exact absurd rfl h
  | cons c r => rfl
theorem natT_head (n : Nat) (h0 : 0 < n) : (natT n).head? ≠ some 48 := by
  induction n using Nat.strongRecOn with
  | _ n ih =>
    by_cases h : n < 10
    · rw [natT_small h]
      intro k
      have k1 : UInt8.ofNat (48 + n) = 48 := by simpa using k
      have := congrArg dv k1
      rw [dv_of h] at this
      simp [dv] at this
      omega
    · rw [natT_big h, head_app (natT_ne _)]
      exact ih (n / 10) (by omega) (by omega)
theorem natT_isNat (n : Nat) : isNat (natT n) = true := by
  have h1 := natT_all n
  have h2 := natT_ne n
  unfold isNat
  rw [h1]
  by_cases h : n = 0
  · subst h; rw [natT_small (by omega)]; simp
  · have h3 := natT_head n (by omega)
    have h4 : ((natT n).head? != some 48) = true := by simpa using h3
    have h5 : (natT n).isEmpty = false := by simpa using h2
    rw [h4, h5]
    simp
theorem natT_inj {a b : Nat} (h : natT a = natT b) : a = b := by
  have := congrArg valD h
  rwa [natT_val, natT_val] at this

theorem valD_pos {l : Tx} (hd : l.all dig = true) (h : l ≠ []) (hh : l.head? ≠ some 48) : 0 < valD l := by
  cases l with
  | nil => exact absurd rfl h
  | cons c r =>
    rw [valD_cons]
    simp only [List.all_cons, Bool.and_eq_true] at hd
    have h1 : c ≠ 48 := fun k => by subst k; simp at hh
    have h2 : dv c ≠ 0 := fun k => by
      have := of_dv hd.1
      rw [k] at this
      exact h1 this.symm
    have h3 : 0 < dv c * 10 ^ r.length := Nat.mul_pos (by omega) (Nat.pow_pos (by omega))
    omega
theorem isNat_parts {t : Tx} (h : isNat t = true) : t ≠ [] ∧ (t.length = 1 ∨ t.head? ≠ some 48) ∧ t.all dig = true := by
  unfold isNat at h
  simp only [Bool.and_eq_true, Bool.or_eq_true, Bool.not_eq_true', beq_iff_eq, bne_iff_ne, ne_eq] at h
  refine ⟨fun k => ?_, h.1.2, h.2⟩
  subst k
  simp at h
theorem natT_snoc : ∀ (k : Nat) (t : Tx), t.length = k → isNat t = true → natT (valD t) = t := by
  intro k
  induction k with
  | zero => intro t hl h; exact absurd (List.eq_nil_of_length_eq_zero hl) (isNat_parts h).1
  | succ k ih =>
    intro t hl h
    obtain ⟨h1, h2, h3⟩ := isNat_parts h
    obtain ⟨l, c, rfl⟩ : ∃ l c, t = l ++ [c] := ⟨t.dropLast, t.getLast h1, (List.dropLast_concat_getLast h1).symm⟩
    rw [List.all_append] at h3
    simp only [Bool.and_eq_true, List.all_cons, List.all_nil, and_true] at h3
    rw [valD_snoc]
    by_cases hn : l = []
    · subst hn
      have : 10 * valD [] + dv c = dv c := by simp [valD]
      rw [this, natT_small (dv_lt h3.2), of_dv h3.2]
      rfl
    · have hh : l.head? ≠ some 48 := by
        rcases h2 with h2 | h2
        · have := List.length_pos_iff.2 hn
          rw [List.length_append, List.length_singleton] at h2
          omega
        · rwa [head_app hn] at h2
      have hp := valD_pos h3.1 hn hh
      have hl1 : isNat l = true := by
        unfold isNat
        have h4 : (l.head? != some 48) = true := by simpa using hh
        have h5 : l.isEmpty = false := by simpa using hn
        rw [h3.1, h4, h5]
        simp
      have hd := dv_lt h3.2
      rw [natT_big (by omega), show (10 * valD l + dv c) / 10 = valD l by omega, show (10 * valD l + dv c) % 10 = dv c by omega, ih l (by simp at hl; omega) hl1, of_dv h3.2]
theorem natT_of {t : Tx} (h : isNat t = true) : natT (valD t) = t := natT_snoc _ t rfl h

theorem natT_0 : natT 0 = [48] := by rw [natT_small (by omega)]; rfl
theorem natT_1 : natT 1 = [49] := by rw [natT_small (by omega)]; rfl
theorem natT_zero_iff {n : Nat} : natT n = [48] ↔ n = 0 := by
  constructor
  · intro h; exact natT_inj (h.trans natT_0.symm)
  · intro h; subst h; exact natT_0
theorem natT_one_iff {n : Nat} : natT n = [49] ↔ n = 1 := by
  constructor
  · intro h; exact natT_inj (h.trans natT_1.symm)
  · intro h; subst h; exact natT_1
theorem lt_natT (n : Nat) : n < 10 ^ (natT n).length := by
  have := valD_lt (natT_all n)
  rwa [natT_val] at this
theorem natT_length_le {n k : Nat} (h : n < 10 ^ k) (hk : 1 ≤ k) : (natT n).length ≤ k := by
  induction k generalizing n with
  | zero => omega
  | succ k ih =>
    by_cases hn : n < 10
    · rw [natT_small hn]; simp
    · rw [natT_big hn, List.length_append]
      have hk1 : 1 ≤ k := by
        apply Decidable.byContradiction
        intro k0
        have : k = 0 := by omega
        subst this
        omega
      have := ih (n := n / 10) (by rw [Nat.pow_succ] at h; omega) hk1
      simp
      omega
theorem natT_mem {n : Nat} {c : UInt8} (h : c ∈ natT n) : dig c = true := by
  have := natT_all n
  rw [List.all_eq_true] at this
  exact this c h

abbrev intT (z : Int) : Tx := Lib.itoa z
def isInt (t : Tx) : Bool := if t.head? = some 45 then isNat t.tail && t.tail != [48] else isNat t
def valI (t : Tx) : Int := if t.head? = some 45 then -(valD t.tail : Int) else valD t

theorem intT_nat (n : Nat) : intT (n : Int) = natT n := by
  rw [intT, Lib.itoa, if_neg (by omega)]; rfl
theorem intT_neg {n : Nat} (h : 0 < n) : intT (-(n : Int)) = 45 :: natT n := by
  rw [intT, Lib.itoa, if_pos (by omega)]
  simp
theorem intT_eq (z : Int) : intT z = if z < 0 then 45 :: natT z.natAbs else natT z.natAbs := by
  rw [intT, Lib.itoa]
  split
  · rfl
  · congr 1; omega
theorem natT_head45 (n : Nat) : (natT n).head? ≠ some 45 := by
  intro h
  have := natT_mem (List.mem_of_head? h)
  simp [dig] at this
theorem intT_isInt (z : Int) : isInt (intT z) = true := by
  rw [intT_eq, isInt]
  split
  · have h1 := natT_isNat z.natAbs
    have h2 : natT z.natAbs ≠ [48] := fun k => by have := natT_zero_iff.1 k; omega
    simp [h1, h2]
  · rw [if_neg (natT_head45 _)]
    exact natT_isNat _
theorem intT_val (z : Int) : valI (intT z) = z := by
  rw [intT_eq, valI]
  split
  · simp [natT_val]; omega
  · rw [if_neg (natT_head45 _), natT_val]; omega
theorem intT_of {t : Tx} (h : isInt t = true) : intT (valI t) = t := by
  unfold isInt at h
  unfold valI
  split at h
  · rename_i k
    simp only [Bool.and_eq_true, bne_iff_ne, ne_eq] at h
    rw [if_pos k]
    have h0 : 0 < valD t.tail := by
      apply Nat.pos_of_ne_zero
      intro k0
      have := natT_of h.1
      rw [k0] at this
      exact h.2 (this ▸ natT_zero_iff.2 rfl)
    rw [intT_neg h0, natT_of h.1]
    cases t with
    | nil => simp at k
    | cons c r => simp at k; subst k; rfl
  · rename_i k
    rw [if_neg k, intT_nat, natT_of h]
theorem intT_inj {a b : Int} (h : intT a = intT b) : a = b := by
  have := congrArg valI h
  rwa [intT_val, intT_val] at this
theorem intT_zero_iff {z : Int} : intT z = [48] ↔ z = 0 := by
  constructor
  · intro h; exact intT_inj (h.trans ((intT_nat 0).trans natT_0).symm)
  · intro h; subst h; exact (intT_nat 0).trans natT_0
theorem intT_mem {z : Int} {c : UInt8} (h : c ∈ intT z) : dig c = true ∨ c = 45 := by
  rw [intT_eq] at h
  split at h
  · rcases List.mem_cons.1 h with h | h
    · exact .inr h
    · exact .inl (natT_mem h)
  · exact .inl (natT_mem h)
theorem intT_ne (z : Int) : intT z ≠ [] := by
  rw [intT_eq]
  split
  · simp
  · exact natT_ne _
theorem intT_length_le {z : Int} {k : Nat} (h : z.natAbs < 10 ^ k) (hk : 1 ≤ k) : (intT z).length ≤ k + 1 := by
  rw [intT_eq]
  have := natT_length_le h hk
  split
  · simp; omega
  · omega
theorem lt_intT (z : Int) : z.natAbs < 10 ^ (intT z).length := by
  rw [intT_eq]
  have h1 := lt_natT z.natAbs
  split
  · rw [List.length_cons, Nat.pow_succ]; omega
  · exact h1

def ratT (r : Rat) : Tx := if r.den = 1 then intT r.num else intT r.num ++ 47 :: natT r.den
def bef (t : Tx) : Tx := t.takeWhile (· != 47)
def aft (t : Tx) : Tx := (t.dropWhile (· != 47)).tail
def isRat (t : Tx) : Bool := if 47 ∈ t then isInt (bef t) && bef t != [48] && isNat (aft t) && aft t != [48] && aft t != [49] && Nat.gcd (valI (bef t)).natAbs (valD (aft t)) == 1 else isInt t
def valR (t : Tx) : Rat := if 47 ∈ t then mkRat (valI (bef t)) (valD (aft t)) else (valI t : Rat)

theorem not47_int (z : Int) : 47 ∉ intT z := by
  intro h
  rcases intT_mem h with h | h
  · simp [dig] at h
  · simp at h
theorem bef_app {a b : Tx} (h : 47 ∉ a) : bef (a ++ 47 :: b) = a := by
  unfold bef
  rw [List.takeWhile_append_of_pos (fun x hx => by simp; intro k; subst k; exact h hx)]
  simp
theorem aft_app {a b : Tx} (h : 47 ∉ a) : aft (a ++ 47 :: b) = b := by
  unfold aft
  rw [List.dropWhile_append_of_pos (fun x hx => by simp; intro k; subst k; exact h hx)]
  simp
theorem cut_eq {t : Tx} (h : 47 ∈ t) : t = bef t ++ 47 :: aft t ∧ 47 ∉ bef t := by
  induction t with
  | nil => simp at h
  | cons c r ih =>
    by_cases hc : c = 47
    · subst hc; simp [bef, aft]
    · have hr : 47 ∈ r := by
        rcases List.mem_cons.1 h with k | k
        · exact absurd k.symm hc
        · exact k
      obtain ⟨e, hn⟩ := ih hr
      have e1 : bef (c :: r) = c :: bef r := by simp [bef, hc]
      have e2 : aft (c :: r) = aft r := by simp [aft, hc]
      rw [e1, e2]
      constructor
      · rw [List.cons_append, ← e]
      · intro k
        rcases List.mem_cons.1 k with k | k
        · exact hc k.symm
        · exact hn k

theorem ratT_val (r : Rat) : valR (ratT r) = r := by
  unfold ratT valR
  split
  · rename_i h
    rw [if_neg (not47_int _), intT_val]
    apply Rat.ext
    · rfl
    · rw [h]; rfl
  · rw [if_pos (by simp), bef_app (not47_int _), aft_app (not47_int _), intT_val, natT_val, Rat.mkRat_self]
theorem ratT_isRat (r : Rat) : isRat (ratT r) = true := by
  unfold ratT isRat
  split
  · rw [if_neg (not47_int _)]; exact intT_isInt _
  · rename_i h
    rw [if_pos (by simp), bef_app (not47_int _), aft_app (not47_int _), intT_isInt, natT_isNat, intT_val, natT_val]
    have h1 : intT r.num ≠ [48] := by
      intro k
      have k1 := intT_zero_iff.1 k
      have := r.reduced
      rw [k1] at this
      have h2 : Nat.gcd 0 r.den = 1 := this
      simp at h2
      exact h h2
    have h2 : natT r.den ≠ [48] := fun k => r.den_nz (natT_zero_iff.1 k)
    have h3 : natT r.den ≠ [49] := fun k => h (natT_one_iff.1 k)
    have h4 : Nat.gcd r.num.natAbs r.den = 1 := r.reduced
    simp [h1, h2, h3, h4]
theorem isRat_slash {t : Tx} (h : isRat t = true) (k : 47 ∈ t) : isInt (bef t) = true ∧ bef t ≠ [48] ∧ isNat (aft t) = true ∧ aft t ≠ [48] ∧ aft t ≠ [49] ∧ Nat.gcd (valI (bef t)).natAbs (valD (aft t)) = 1 := by
  unfold isRat at h
  rw [if_pos k] at h
  simp only [Bool.and_eq_true, bne_iff_ne, ne_eq, beq_iff_eq] at h
  obtain ⟨⟨⟨⟨⟨h1, h2⟩, h3⟩, h4⟩, h5⟩, h6⟩ := h
  exact ⟨h1, h2, h3, h4, h5, h6⟩
theorem mkRat_red {p : Int} {d : Nat} (hd : d ≠ 0) : (mkRat p d).num = p / (p.natAbs.gcd d : Nat) ∧ (mkRat p d).den = d / p.natAbs.gcd d := by
  rw [← Rat.normalize_eq_mkRat hd]
  exact ⟨Rat.num_normalize hd, Rat.den_normalize hd⟩
theorem ratT_of {t : Tx} (h : isRat t = true) : ratT (valR t) = t := by
  by_cases k : 47 ∈ t
  · obtain ⟨h1, h2, h3, h4, h5, h6⟩ := isRat_slash h k
    have e := (cut_eq k).1
    have hd : valD (aft t) ≠ 0 := fun k0 => by
      have := natT_of h3
      rw [k0] at this
      exact h4 (this ▸ natT_zero_iff.2 rfl)
    have hd1 : valD (aft t) ≠ 1 := fun k0 => by
      have := natT_of h3
      rw [k0] at this
      exact h5 (this ▸ natT_one_iff.2 rfl)
    obtain ⟨r1, r2⟩ := mkRat_red (p := valI (bef t)) hd
    rw [h6] at r1 r2
    unfold valR ratT
    rw [if_pos k, r1, r2]
    simp only [Nat.div_one, Int.natCast_one, Int.ediv_one]
    rw [if_neg hd1, intT_of h1, natT_of h3, ← e]
  · unfold isRat at h
    rw [if_neg k] at h
    unfold valR ratT
    rw [if_neg k]
    have e1 : ((valI t : Rat)).den = 1 := rfl
    have e2 : ((valI t : Rat)).num = valI t := rfl
    rw [if_pos e1, e2, intT_of h]
theorem ratT_inj {a b : Rat} (h : ratT a = ratT b) : a = b := by
  have := congrArg valR h
  rwa [ratT_val, ratT_val] at this

def Sm (k : Nat) (r : Rat) : Prop := r.num.natAbs < 10 ^ k ∧ r.den < 10 ^ k
theorem Sm.mono {j k : Nat} {r : Rat} (h : Sm j r) (hjk : j ≤ k) : Sm k r :=
  have hp : 10 ^ j ≤ 10 ^ k := Nat.pow_le_pow_right (by omega) hjk
  ⟨Nat.lt_of_lt_of_le h.1 hp, Nat.lt_of_lt_of_le h.2 hp⟩
theorem Sm.neg {k : Nat} {r : Rat} (h : Sm k r) : Sm k (-r) := by
  refine ⟨?_, h.2⟩
  rw [Rat.neg_num, Int.natAbs_neg]
  exact h.1
theorem Sm.mkRat {k : Nat} {p : Int} {d : Nat} (h1 : p.natAbs < 10 ^ k) (h2 : d < 10 ^ k) (hd : d ≠ 0) : Sm k (mkRat p d) := by
  obtain ⟨e1, e2⟩ := mkRat_red (p := p) hd
  constructor
  · rw [e1, Int.natAbs_ediv_of_dvd (Int.ofNat_dvd_left.2 (Nat.gcd_dvd_left _ _)), Int.natAbs_natCast]
    exact Nat.lt_of_le_of_lt (Nat.div_le_self _ _) h1
  · rw [e2]
    exact Nat.lt_of_le_of_lt (Nat.div_le_self _ _) h2
theorem mul_lt_pow {a b j k : Nat} (ha : a < 10 ^ j) (hb : b < 10 ^ k) : a * b < 10 ^ (j + k) := by
  rw [Nat.pow_add]
  exact Nat.mul_lt_mul'' ha hb
theorem add_num_lt {j k : Nat} {a b : Rat} (ha : Sm j a) (hb : Sm k b) : (a.num * b.den + b.num * a.den).natAbs < 10 ^ (j + k + 1) := by
  have h1 := mul_lt_pow ha.1 hb.2
  have h2 := mul_lt_pow hb.1 ha.2
  rw [Nat.add_comm k j] at h2
  have e1 : (a.num * b.den).natAbs = a.num.natAbs * b.den := by rw [Int.natAbs_mul, Int.natAbs_natCast]
  have e2 : (b.num * a.den).natAbs = b.num.natAbs * a.den := by rw [Int.natAbs_mul, Int.natAbs_natCast]
  have h3 := Int.natAbs_add_le (a.num * b.den) (b.num * a.den)
  rw [Nat.pow_succ]
  omega
theorem den_mul_lt {j k : Nat} {a b : Rat} (ha : Sm j a) (hb : Sm k b) : a.den * b.den < 10 ^ (j + k) := mul_lt_pow ha.2 hb.2
theorem den_mul_ne (a b : Rat) : a.den * b.den ≠ 0 := Nat.mul_ne_zero a.den_nz b.den_nz
theorem Sm.add {j k : Nat} {a b : Rat} (ha : Sm j a) (hb : Sm k b) : Sm (j + k + 1) (a + b) := by
  rw [Rat.add_def']
  refine Sm.mkRat (add_num_lt ha hb) ?_ (den_mul_ne a b)
  have := den_mul_lt ha hb
  rw [Nat.pow_succ]
  omega
theorem Sm.sub {j k : Nat} {a b : Rat} (ha : Sm j a) (hb : Sm k b) : Sm (j + k + 1) (a - b) := by
  rw [Rat.sub_eq_add_neg]
  exact ha.add hb.neg
theorem Sm.mul {j k : Nat} {a b : Rat} (ha : Sm j a) (hb : Sm k b) : Sm (j + k) (a * b) := by
  rw [Rat.mul_def']
  refine Sm.mkRat ?_ (den_mul_lt ha hb) (den_mul_ne a b)
  rw [Int.natAbs_mul]
  exact mul_lt_pow ha.1 hb.1
theorem Sm.ofInt {k : Nat} {z : Int} (h : z.natAbs < 10 ^ k) (hk : 1 ≤ k) : Sm k (z : Rat) := by
  have hp : 10 ^ 1 ≤ 10 ^ k := Nat.pow_le_pow_right (by omega) hk
  refine ⟨h, ?_⟩
  have : (z : Rat).den = 1 := rfl
  omega
theorem Sm.text {k : Nat} {r : Rat} (h : (ratT r).length ≤ k) : Sm k r := by
  have h1 := lt_intT r.num
  have h2 := lt_natT r.den
  have h3 := List.length_pos_iff.2 (intT_ne r.num)
  unfold ratT at h
  split at h
  · rename_i e
    have hp : 10 ^ (intT r.num).length ≤ 10 ^ k := Nat.pow_le_pow_right (by omega) h
    have hp1 : 10 ^ 1 ≤ 10 ^ k := Nat.pow_le_pow_right (by omega) (by omega)
    exact ⟨by omega, by omega⟩
  · simp only [List.length_append, List.length_cons] at h
    have hp : 10 ^ (intT r.num).length ≤ 10 ^ k := Nat.pow_le_pow_right (by omega) (by omega)
    have hp1 : 10 ^ (natT r.den).length ≤ 10 ^ k := Nat.pow_le_pow_right (by omega) (by omega)
    exact ⟨by omega, by omega⟩
theorem Sm.length {k : Nat} {r : Rat} (h : Sm k r) (hk : 1 ≤ k) : (ratT r).length ≤ 2 * k + 2 := by
  have h1 := intT_length_le h.1 hk
  have h2 := natT_length_le h.2 hk
  unfold ratT
  split
  · omega
  · simp only [List.length_append, List.length_cons]; omega
theorem Sm.int {k : Nat} {r : Rat} (h : Sm k r) (hk : 1 ≤ k) : (intT r.num).length ≤ k + 1 := intT_length_le h.1 hk
theorem Sm.nat {k : Nat} {r : Rat} (h : Sm k r) (hk : 1 ≤ k) : (natT r.den).length ≤ k := natT_length_le h.2 hk

theorem add_same {a b : Rat} (h : a.den = b.den) : a + b = mkRat (a.num + b.num) a.den := by
  rw [Rat.add_def', ← h, ← Int.add_mul, Rat.mkRat_mul_right a.den_nz]
theorem lt_cross (a b : Rat) : a < b ↔ a.num * b.den - b.num * a.den < 0 := by
  rw [Rat.lt_iff]
  omega
theorem eq_cross (a b : Rat) : a = b ↔ a.num * b.den - b.num * a.den = 0 := by
  rw [Rat.eq_iff_mul_eq_mul]
  omega
def cmpR (a b : Rat) : Int := if a < b then -1 else if b < a then 1 else 0
theorem cmpR_lt {a b : Rat} : cmpR a b < 0 ↔ a < b := by
  unfold cmpR
  split
  · simp [*]
  · split <;> simp [*]
theorem cmpR_gt {a b : Rat} : cmpR a b > 0 ↔ b < a := by
  unfold cmpR
  split
  · rename_i h
    have : ¬ b < a := Rat.not_lt.2 (Rat.le_of_lt h)
    simp [this]
  · split <;> simp [*]
theorem cmpR_eq {a b : Rat} : cmpR a b = 0 ↔ a = b := by
  unfold cmpR
  split
  · rename_i h
    have := Rat.ne_of_lt h
    simp [this]
  · rename_i h
    split
    · rename_i h2
      have := Rat.ne_of_gt h2
      simp [this]
    · rename_i h2
      simp
      exact Rat.le_antisymm (Rat.not_lt.1 h2) (Rat.not_lt.1 h)
theorem num_sign (r : Rat) : r.num.sign = cmpR r 0 := by
  have h1 : r < 0 ↔ r.num < 0 := by rw [Rat.lt_iff]; simp
  have h2 : 0 < r ↔ 0 < r.num := by rw [Rat.lt_iff]; simp
  unfold cmpR
  rcases Int.lt_trichotomy r.num 0 with h | h | h
  · rw [if_pos (h1.2 h), Int.sign_eq_neg_one_of_neg h]
  · rw [if_neg (fun k => by have := h1.1 k; omega), if_neg (fun k => by have := h2.1 k; omega), h]; rfl
  · rw [if_neg (fun k => by have := h1.1 k; omega), if_pos (h2.2 h), Int.sign_eq_one_of_pos h]
end Go.Proofs.YtdoailkigecmkaaGreatDoor.B

namespace Go.Proofs.YtdoailkigecmkaaGreatDoor.B
open Go Go.RowKit Go.Proofs Go.Proofs.YtdoailkigecmkaaGreatDoor.Vc

theorem g_pow10 : Tryz.prog.globalNamed "internal/strconv.uint64pow10" = some 1 := by kernel_rfl

structure Glob (w : World) : Prop where
  tab : Lib.TabIs Tryz.prog w "internal/strconv.uint64pow10" .u64 Lib.pow10Tab
  mx : ∃ m : Int, w.cell? ⟨0, 0, none⟩ = some (.int .i64 m)

theorem cell_lt {w : World} {a : Addr} {v : Value} (h : w.cell? a = some v) : a.block < w.heap.size := by
  apply Decidable.byContradiction
  intro k
  have : w.heap[a.block]? = none := Array.getElem?_eq_none (by omega)
  simp [World.cell?, this] at h
theorem tab_kept {w w' : World} {B : Nat} (h : Lib.TabIs Tryz.prog w "internal/strconv.uint64pow10" .u64 Lib.pow10Tab) (hb : Below B w w') (hB : w.heap.size ≤ B) : Lib.TabIs Tryz.prog w' "internal/strconv.uint64pow10" .u64 Lib.pow10Tab := by
  unfold Lib.TabIs World.var? at *
  rw [g_pow10] at *
  simp only [Option.bind_some] at *
  have hlt : 1 < w.heap.size := by
    apply Decidable.byContradiction
    intro k
    have : w.heap[1]? = none := Array.getElem?_eq_none (by omega)
    rw [this] at h
    cases h
  rw [hb.block _ (by omega)]
  exact h
theorem Glob.below {w w' : World} {B : Nat} (h : Glob w) (hb : Below B w w') (hB : w.heap.size ≤ B) : Glob w' := by
  refine ⟨tab_kept h.tab hb hB, ?_⟩
  obtain ⟨m, hm⟩ := h.mx
  refine ⟨m, ?_⟩
  have := cell_lt hm
  simp only at this
  simp only [World.cell?] at hm ⊢
  rw [hb.block _ (by omega)]
  exact hm
theorem Glob.next {w w' : World} (h : Glob w) (hb : Below w.heap.size w w') : Glob w' := h.below hb (Nat.le_refl _)
end Go.Proofs.YtdoailkigecmkaaGreatDoor.B

namespace Go.Proofs.YtdoailkigecmkaaGreatDoor.B
open Go Go.RowKit Go.Shelf Go.Proofs Go.Proofs.YtdoailkigecmkaaGreatDoor.Vc
attribute [local go_sem] Oper.semAt_some

def digs : Nat → Nat → Tx
  | 0, _ => []
  | k + 1, r => digs k (r / 10) ++ [UInt8.ofNat (48 + r % 10)]
theorem natT_shift (q : Nat) (hq : 0 < q) : ∀ (k r : Nat), r < 10 ^ k → natT (q * 10 ^ k + r) = natT q ++ digs k r := by
  intro k
  induction k with
  | zero => intro r hr; simp at hr; simp [hr, digs]
  | succ k ih =>
    intro r hr
    rw [Nat.pow_succ] at hr ⊢
    have hp : 0 < 10 ^ k := Nat.pow_pos (by omega)
    have h1 : 1 ≤ q * 10 ^ k := Nat.mul_pos hq hp
    have e : q * (10 ^ k * 10) + r = 10 * (q * 10 ^ k) + r := by grind
    rw [e, natT_big (by omega), show (10 * (q * 10 ^ k) + r) / 10 = q * 10 ^ k + r / 10 by omega, show (10 * (q * 10 ^ k) + r) % 10 = r % 10 by omega, ih (r / 10) (by omega), digs, List.append_assoc]
theorem digs_zero (k : Nat) : digs k 0 = List.replicate k 48 := by
  induction k with
  | zero => rfl
  | succ k ih => rw [digs, Nat.zero_div, ih, List.replicate_succ']; rfl
theorem digs_pad : ∀ (k r : Nat), r < 10 ^ k → 1 ≤ k → digs k r = List.replicate (k - (natT r).length) 48 ++ natT r := by
  intro k
  induction k with
  | zero => intro r _ h; omega
  | succ k ih =>
    intro r hr _
    rw [Nat.pow_succ] at hr
    by_cases h : r < 10
    · rw [digs, show r / 10 = 0 by omega, digs_zero, natT_small h, show r % 10 = r by omega]
      simp
    · have hk : 1 ≤ k := by
        apply Decidable.byContradiction
        intro k0
        have : k = 0 := by omega
        subst this
        omega
      rw [digs, ih (r / 10) (by omega) hk, natT_big h, List.length_append, List.append_assoc]
      congr 2
      simp

def onePW (n : Nat) (p : PW) : Tx := if (p.1 : Int) < (n : Int) - 1 then List.replicate (9 - (natT p.2.1).length) 48 ++ natT p.2.1 else natT p.2.1
def txP (n : Nat) (l : List PW) : Tx := l.flatMap (onePW n)
theorem txP_snoc (n : Nat) (l : List PW) (p : PW) : txP n (l ++ [p]) = txP n l ++ onePW n p := by simp [txP]
theorem txP_came (ws : List Nat) (hs : Small ws) (hn : Norm ws) : ∀ d m, ws.length - 1 - m = d → m < ws.length → txP ws.length (cameP ws hs m) = natT (wv (ws.drop m)) := by
  intro d
  induction d with
  | zero =>
    intro m hd hm
    have hm' : m = ws.length - 1 := by omega
    have e : cameP ws hs m = [gPW ws hs m] := by
      rw [cameP_step ws hs hm, show m + 1 = ws.length by omega, cameP_all]; rfl
    rw [e, wv_drop, List.drop_eq_nil_of_le (by omega)]
    have h1 : ¬ ((m : Int) < (ws.length : Int) - 1) := by omega
    simp [txP, onePW, gPW, h1, wv]
  | succ d ih =>
    intro m hd hm
    rw [cameP_step ws hs hm, txP_snoc, ih (m + 1) (by omega) (by omega), wv_drop ws m]
    have h1 : ((m : Int) < (ws.length : Int) - 1) := by omega
    have hx := hs.getD m
    have hpos : 0 < wv (ws.drop (m + 1)) := by
      have hne : ws.drop (m + 1) ≠ [] := by
        intro k
        have := congrArg List.length k
        simp at this
        omega
      have hnn : Norm (ws.drop (m + 1)) := by
        unfold Norm at *
        rw [List.getLast?_drop, if_neg (by omega)]
        exact hn
      have := wv_pos hnn hne
      have hp : 0 < 1000000000 ^ ((ws.drop (m + 1)).length - 1) := Nat.pow_pos (by omega)
      omega
    have e : ws.getD m 0 + 1000000000 * wv (ws.drop (m + 1)) = wv (ws.drop (m + 1)) * 10 ^ 9 + ws.getD m 0 := by omega
    rw [e, natT_shift _ hpos 9 _ (by omega), digs_pad 9 _ (by omega) (by omega)]
    have e2 : onePW ws.length (gPW ws hs m) = List.replicate (9 - (natT (ws.getD m 0)).length) 48 ++ natT (ws.getD m 0) := by
      simp [onePW, gPW, h1]
    rw [e2]
theorem txP_all (ws : List Nat) (hs : Small ws) (hn : Norm ws) (h : ws ≠ []) : txP ws.length (cameP ws hs 0) = natT (wv ws) := by
  have := txP_came ws hs hn _ 0 rfl (List.length_pos_iff.2 h)
  simpa using this
theorem onePW_length (n : Nat) (p : PW) : (onePW n p).length ≤ 9 := by
  have h := natT_length_le (n := p.2.1) (k := 9) p.2.2 (by omega)
  unfold onePW
  split
  · simp; omega
  · exact h
theorem txP_length (n : Nat) (l : List PW) : (txP n l).length ≤ 9 * l.length := by
  induction l with
  | nil => simp [txP]
  | cons p r ih =>
    have := onePW_length n p
    simp only [txP, List.flatMap_cons, List.length_append, List.length_cons] at *
    omega

theorem grown_below {w w' : World} (h : Below w.heap.size w w') : w.grownBy w' none := ⟨h.os, h.tape, h.output, h.size, fun k hk _ => h.block k hk⟩
theorem builder_kept {T e B b : Nat} {bs : List Value} {w w' : World} {row : Option Nat} (h : Lib.IsBuilderF T e B b bs w) (hg : w.grownBy w' row) (hr : ∀ r, row = some r → ∃ o : Obj, w.heap[r]? = some o ∧ o.isCells = false) : Lib.IsBuilderF T e B b bs w' := by
  have one : ∀ p, Lib.BuilderAtF T e B b p bs w → Lib.BuilderAtF T e B b p bs w' := by
    rintro p ⟨hB, v, hb, hown, hne⟩
    refine ⟨hB, v, ?_, hown.kept hg ?_, hne⟩
    · rw [hg.block b (Array.getElem?_eq_some_iff.1 hb).1]
      · exact hb
      · intro k
        obtain ⟨o, ho, hc⟩ := hr b k.symm
        rw [hb] at ho
        cases ho
        simp [Obj.isCells] at hc
    · rcases hown.2 with ⟨hv, _⟩ | ⟨g, cap, cur, fz, hv, _, hgg, _⟩
      · left; rw [hv]; rfl
      · right
        rw [hv]
        intro k
        simp only [Value.ownBlock] at k
        obtain ⟨o, ho, hc⟩ := hr g k.symm
        rw [hgg] at ho
        cases ho
        simp [Obj.isCells] at hc
  exact h.imp (one _) (one _)
theorem CK.of_others {b : Nat} {W W' : World} (h : Lib.OthersKept 5 (some b) W W') : CK b W W' := fun k cs ty fz hk hne hty => h k _ hk (fun e => hne (by cases e; rfl)) fun c f e => by cases e; exact hty rfl
theorem others_below {b : Nat} {W W' : World} (h : Below W.heap.size W W') : Lib.OthersKept 5 (some b) W W' := fun k o hk _ _ => by
  rw [h.block k (Array.getElem?_eq_some_iff.1 hk).1]; exact hk
theorem keepsFrom_others {b B : Nat} {W W' : World} (h : Lib.OthersKept 5 (some b) W W') (hs : W.heap.size ≤ W'.heap.size) (hb : ∀ o, W.heap[b]? = some o → o.isCells = true) : KeepsFrom B W W' :=
  ⟨hs, fun k o _ hk hc => h k o hk (fun e => by cases e; rw [hb o hk] at hc; cases hc) fun c f e => by subst e; simp [Obj.isCells] at hc⟩
theorem builder_lt {T e B b : Nat} {bs : List Value} {w : World} (h : Lib.IsBuilderF T e B b bs w) : ∀ o, w.heap[b]? = some o → o.isCells = true := by
  intro o ho
  rcases h with h | h <;> (obtain ⟨_, v, hb, _⟩ := h; rw [hb] at ho; cases ho; rfl)
theorem below_growN (w : World) (k : Nat) (os : Array Obj) : Below w.heap.size w (Sort.grow (w.drewN k) os) :=
  ⟨rfl, rfl, rfl, by simp [Sort.grow, World.drewN], fun i hi => by simp [Sort.grow, World.drewN, Array.getElem?_append_left hi]⟩
theorem fmt_calls (u : Nat) (hu : u < 18446744073709551616) (w : World) (htab : Lib.TabIs Tryz.prog w "internal/strconv.uint64pow10" .u64 Lib.pow10Tab) :
    Calls Tryz.prog 189 #[.int .u64 u, .int .i64 10] w fun e w' => e = .returned (.string ⟨(natT u).toArray⟩) ∧ Below w.heap.size w w' :=
  (Tryz.FormatUint u hu w htab).mono (by
    rintro e w' ⟨rfl, k, os, rfl⟩
    exact ⟨rfl, below_growN _ _ _⟩)
theorem cell_below {w w' : World} {a : Addr} {v : Value} (h : w.cell? a = some v) (hb : Below w.heap.size w w') : w'.cell? a = some v := (hb.cell (cell_lt h)).trans h

theorem back_calls (F : Fence) (n : Nat) (h5 : F.fn 188) (hro : F.round = none) (A : Option Addr) (len cap : Nat) (w : World) :
    CallsIn F n Tryz.prog 188 #[.slice A len cap] w fun e w' => e = .returned (.func (.func 209) #[] #[.pointer (some ⟨w.heap.size, 0, none⟩)]) ∧ w' = w.alloc (.cells #[.slice A len cap] 176) := by
  refine callsIn_of_wp Tryz.func188 rfl h5 ?_ hro
  simp only [Tryz.ntmps188, List.size_toArray, List.length_cons, List.length_nil, Nat.reduceAdd, Nat.reduceSub, Array.replicate_succ, Array.replicate_zero, List.push_toArray, List.append_toArray, List.nil_append, List.cons_append]
  gi_wp2
  go_ret
  exact ⟨rfl, rfl⟩

theorem back_stops (b Bs : Nat) (A : Option Addr) (cap : Nat) (ws : List Nat) (hs : Small ws) (hlen : ws.length ≤ 1000000) (w : World) (ha : SlU w A ws) (h0 : ws ≠ []) (hb : ∀ o, w.heap[b]? = some o → ∀ c fz, o ≠ .cells c 106 fz ∧ o ≠ .cells c 176 fz) (hBs : w.heap[Bs]? = some (.cells #[.slice A ws.length cap] 176 (0, 0))) (n : Nat) (hn : 1 ≤ n) :
    SeqStopsK Fence.wide n Tryz.prog 209 #[.pointer (some ⟨Bs, 0, none⟩)] encPW (CK b) (fun ys => ys = cameP ws hs 0) (fun _ => True) ws.length w := fun l J Jx W hW _ _ hY h1 => by
  rcases ha with ha | ⟨wb, off, all, fr, rfl, hw, hc⟩
  · exact absurd ha h0
  · have hwl := (Array.getElem?_eq_some_iff.1 hw).1
    have hBl := (Array.getElem?_eq_some_iff.1 hBs).1
    refine back_in Fence.wide n trivial rfl hn l Bs b wb off cap (fun e => ?_) (fun e => ?_) ws hs hlen J Jx hY W _ rfl ((hW.block Bs hBl).trans hBs) all fr ((hW.block wb hwl).trans hw) (fun j hj => ?_) h1
    · subst e
      exact (hb _ hBs _ _).2 rfl
    · subst e
      exact (hb _ hw _ _).1 rfl
    · have := hc j hj
      rw [List.getD_eq_getElem?_getD, List.getElem?_eq_getElem hj]
      exact this

set_option maxRecDepth 100000 in
set_option maxHeartbeats 4000000 in
theorem text_calls {w : World} {A : Option Addr} {cap : Nat} {ws : List Nat} (hg : Glob w) (ha : SlU w A ws) (hs : Small ws) (hnn : Norm ws) (hle : ws.length ≤ 1000000) (h0 : ws ≠ []) :
    Calls Tryz.prog 165 #[.slice A ws.length cap] w fun e w' => e = .returned (.string ⟨(natT (wv ws)).toArray⟩) ∧ Below w.heap.size w w' := by
  have hne : ¬ ((ws.length : Int) = 0) := by
    have := List.length_pos_iff.2 h0
    omega
  refine (callsIn_wide (n := 5)).1 ?_
  refine callsIn_of_wp_marks Tryz.func165 rfl trivial ?_ rfl
  simp only [Tryz.ntmps165, List.size_toArray, List.length_cons, List.length_nil, Nat.reduceAdd, Nat.reduceSub, Array.replicate_succ, Array.replicate_zero, List.push_toArray, List.append_toArray, List.nil_append, List.cons_append]
  gi_wp2_with (refine ⟨trivial, ?_⟩; gi_at_call 188; refine (back_calls Fence.wide _ trivial rfl _ _ _ _).mono ?_; rintro e w' ⟨rfl, rfl⟩)
  obtain ⟨W0, hW0⟩ : ∃ W0, ((w.alloc (.cells #[.slice A ws.length cap] 176)).alloc (.cells #[.pointer none, .slice none 0 0] 212)).alloc (.cells #[.slice A ws.length cap] 176) = W0 := ⟨_, rfl⟩
  have hs0 : W0.heap.size = w.heap.size + 3 := by rw [← hW0]; simp
  have hB0 : W0.heap[w.heap.size]? = some (.cells #[.slice A ws.length cap] 176 (0, 0)) := by
    rw [← hW0]; exact ((Below.heap_alloc _ _ _ (by simp; omega)).trans (Below.heap_alloc _ _ _ (by simp))).trans (World.alloc_heap_new w _)
  have hB1 : W0.heap[w.heap.size + 1]? = some (.cells #[.pointer none, .slice none 0 0] 212 (0, 0)) := by
    rw [← hW0]; refine (Below.heap_alloc _ _ _ (by simp)).trans ?_
    have := World.alloc_heap_new (w.alloc (.cells #[.slice A ws.length cap] 176)) (.cells #[.pointer none, .slice none 0 0] 212); rwa [World.size_alloc] at this
  have hB2 : W0.heap[w.heap.size + 1 + 1]? = some (.cells #[.slice A ws.length cap] 176 (0, 0)) := by
    rw [← hW0]; have := World.alloc_heap_new ((w.alloc (.cells #[.slice A ws.length cap] 176)).alloc (.cells #[.pointer none, .slice none 0 0] 212)) (.cells #[.slice A ws.length cap] 176); rwa [World.size_alloc, World.size_alloc] at this
  have hbel : Below w.heap.size w W0 := by
    rw [← hW0]; exact (((Below.refl _ w).alloc (Nat.le_refl _) _).alloc (by simp) _).alloc (by simp; omega) _
  rw [hW0]
  refine wpIn_rangeFunc_ownG rfl (by omega) (gf := 209) (lb := #[.pointer (some ⟨w.heap.size + 1 + 1, 0, none⟩)]) rfl trivial (enters_of Tryz.func209 (by kernel_rfl) rfl)
    (back_stops (w.heap.size + 1) (w.heap.size + 1 + 1) A cap ws hs hle W0 (ha.keep hbel (Nat.le_refl _)) h0 (fun o ho c fz => by rw [hB1] at ho; cases ho; exact ⟨by simp, by simp⟩) hB2 _ (by omega))
    (fun h k => CK.trans h k) (fun W l o o' _ h hc _ => CK.putObj W l o o' h hc) (Below.refl _ _) (fun _ => rfl)
    (fun pre W => Lib.IsBuilderF 212 5 w.heap.size (w.heap.size + 1) (Lib.byteCells (txP ws.length pre)) W ∧ Below w.heap.size w W ∧ W.heap[w.heap.size]? = some (.cells #[.slice A ws.length cap] 176 (0, 0)))
    (fun _ _ _ => False)
    (fun s W1 W2 row hI hgr hr => ⟨builder_kept hI.1 hgr (fun r e => (hr r e).2), hI.2.1.grown hgr hI.2.1.size (fun r e => by have := (hr r e).1; omega), ?_⟩)
    (fun _ _ _ _ _ hs _ _ => hs)
    ⟨?_, hbel, hB0⟩ (fun x => { tmps := #[.slice A ws.length cap, .pointer (some ⟨w.heap.size, 0, none⟩), .string ⟨#[]⟩, .pointer (some ⟨w.heap.size + 1, 0, none⟩), .int .i64 (x.1 : Int), .int .u32 (x.2.1 : Int), undef, .slice A ws.length cap, .int .i64 ws.length, .bool false, .slice A ws.length cap, .func (.func 209) #[] #[.pointer (some ⟨w.heap.size + 1 + 1, 0, none⟩)], .int .i64 (x.1 : Int), .int .u32 (x.2.1 : Int), undef, undef, undef, undef, undef, undef, undef, undef, undef, undef, undef, undef, undef, undef, undef, undef], defers := [] }) ?assign ?body ?done ?stop
  case assign =>
    intro l x W K hK
    gi_wp2
    exact hK
  case body =>
    rintro l pre x W ⟨hI, hbw, hc0⟩ hlen
    have hx := x.2.2
    have hcell : W.cell? ⟨w.heap.size, 0, none⟩ = some (.slice A ws.length cap) := by simp [World.cell?, hc0]
    have htab := tab_kept hg.tab hbw (Nat.le_refl _)
    have hwr : IntKind.wrap .u64 (x.2.1 : Int) = (x.2.1 : Int) := by rw [IntKind.wrap_u64]; omega
    obtain ⟨t, ht⟩ : ∃ t, t = natT x.2.1 := ⟨_, rfl⟩
    have hl9 : t.length ≤ 9 := by rw [ht]; exact natT_length_le (n := x.2.1) (k := 9) hx (by omega)
    obtain ⟨c, hc⟩ : ∃ c, c = 9 - t.length := ⟨_, rfl⟩
    have hfmt : ∀ w', Lib.TabIs Tryz.prog w' "internal/strconv.uint64pow10" .u64 Lib.pow10Tab → Calls Tryz.prog 189 #[.int .u64 (x.2.1 : Int), .int .i64 10] w' fun e w'' => e = .returned (.string ⟨t.toArray⟩) ∧ Below w'.heap.size w' w'' := fun w' h => by rw [ht]; exact fmt_calls x.2.1 (by omega) _ h
    have hrep : ∀ w', Calls Tryz.prog 191 #[.string ⟨#[48]⟩, .int .i64 (9 - (t.length : Int))] w' fun e w'' => e = .returned (.string ⟨(List.replicate c (48 : UInt8)).toArray⟩) ∧ Below w'.heap.size w' w'' := fun w' => by
      rw [show 9 - (t.length : Int) = (c : Int) by omega]
      refine (Tryz.strings_Repeat ⟨#[48]⟩ c w' (by omega) (by simp [ByteArray.size]; omega)).mono ?_
      rintro e w'' ⟨rfl, h⟩
      refine ⟨?_, h⟩
      have e1 : Lib.repeatL [48] c = List.replicate c (48 : UInt8) := by
        clear hc
        induction c with
        | zero => rfl
        | succ c ih => simp [Lib.repeatL, ih, List.replicate_succ]
      show Ending.returned (.string ⟨(Lib.repeatL [48] c).toArray⟩) = _
      rw [e1]
    have hc9 : c ≤ 9 := by omega
    have hlx := txP_length ws.length pre
    have hWs := hbw.size
    by_cases hlt : (x.1 : Int) < (ws.length : Int) - 1
    · have ho : onePW ws.length x = List.replicate c 48 ++ t := by simp [onePW, hlt, hc, ht]
      clear hc ht
      gi_wp2_with (refine ⟨trivial, ?_⟩; gi_at_call 189; refine (CallsIn.inRound l (callsIn_wide.2 (hfmt _ htab))).mono ?_; clear hfmt; rintro e W1 ⟨rfl, hb1⟩; have hcell1 := cell_below hcell hb1)
      refine ⟨trivial, ?_⟩
      gi_at_call 191
      refine (CallsIn.inRound l (callsIn_wide.2 (hrep _))).mono ?_
      rintro e W2 ⟨rfl, hb2⟩
      have hI2 := builder_kept (builder_kept hI (grown_below hb1) (fun _ e => by cases e)) (grown_below hb2) (fun _ e => by cases e)
      have s1 := hb1.size
      have s2 := hb2.size
      gi_wp2
      refine ⟨trivial, ?_⟩
      gi_at_call 190
      refine (CallsIn.inRound l (callsIn_wide.2 (Tryz.bWrite w.heap.size (w.heap.size + 1) _ ⟨(List.replicate c (48 : UInt8)).toArray⟩ W2 hI2 (by rw [Lib.byteCells_length]; simp [ByteArray.size]; omega) (by omega)))).mono ?_
      rintro e W3 ⟨rfl, hI3, hb3, ho3⟩
      have s3 := hb3.size
      gi_wp2
      refine ⟨trivial, ?_⟩
      gi_at_call 190
      refine (CallsIn.inRound l (callsIn_wide.2 (Tryz.bWrite w.heap.size (w.heap.size + 1) _ ⟨t.toArray⟩ W3 (.inr hI3) (by rw [List.length_append, Lib.byteCells_length, Lib.strCells_length]; simp [ByteArray.size]; omega) (by omega)))).mono ?_
      rintro e W4 ⟨rfl, hI4, hb4, ho4⟩
      have s4 := hb4.size
      gi_wp2
      have ho4' := ((others_below (b := w.heap.size + 1) hb1).trans (others_below hb2)).trans (ho3.trans ho4)
      refine ⟨keepsFrom_others ho4' (by omega) (builder_lt hI), CK.of_others ho4', .inr ?_, hbw.trans ((hb1.mono hWs).trans ((hb2.mono (by omega)).trans (hb3.trans hb4))), CK.of_others ho4' _ _ _ _ hc0 (by omega) (by decide)⟩
      rw [txP_snoc, ho, Lib.byteCells_append, Lib.byteCells_append, ← List.append_assoc]
      exact hI4
    · have ho : onePW ws.length x = t := by simp [onePW, hlt, ht]
      clear hc ht
      gi_wp2_with (refine ⟨trivial, ?_⟩; gi_at_call 189; refine (CallsIn.inRound l (callsIn_wide.2 (hfmt _ htab))).mono ?_; clear hfmt; rintro e W1 ⟨rfl, hb1⟩; have hcell1 := cell_below hcell hb1)
      have hI1 := builder_kept hI (grown_below hb1) (fun _ e => by cases e)
      have s1 := hb1.size
      refine ⟨trivial, ?_⟩
      gi_at_call 190
      refine (CallsIn.inRound l (callsIn_wide.2 (Tryz.bWrite w.heap.size (w.heap.size + 1) _ ⟨t.toArray⟩ W1 hI1 (by rw [Lib.byteCells_length]; simp [ByteArray.size]; omega) (by omega)))).mono ?_
      rintro e W4 ⟨rfl, hI4, hb4, ho4⟩
      have s4 := hb4.size
      gi_wp2
      have ho4' := (others_below (b := w.heap.size + 1) hb1).trans ho4
      refine ⟨keepsFrom_others ho4' (by omega) (builder_lt hI), CK.of_others ho4', .inr ?_, hbw.trans ((hb1.mono hWs).trans hb4), CK.of_others ho4' _ _ _ _ hc0 (by omega) (by decide)⟩
      rw [txP_snoc, ho, Lib.byteCells_append]
      exact hI4
  case done =>
    rintro D ys W hD rfl ⟨hI, hbw, hc0⟩ hK
    rw [txP_all ws hs hnn h0] at hI
    have hWs := hbw.size
    gi_wp2
    refine ⟨trivial, ?_⟩
    gi_at_call 192
    refine (callsIn_wide.2 (Tryz.Builder_String_any_k w.heap.size (w.heap.size + 1) _ W hI (by omega))).mono ?_
    rintro e W1 ⟨rfl, hI1, hb1, ho1⟩
    have s1 := hb1.size
    have hK1 := ho1 D _ hK (fun e => by cases e; omega) (fun c f e => by cases e)
    gi_wp2
    refine ⟨by simp, .inl ⟨_, _, rfl, run_takeDeferred hK1, ?_⟩⟩
    refine ⟨_, results_tmp rfl _ _ _, rfl, ?_⟩
    exact hbw.trans (hb1.trans (belowK_b (w := w) (Nat.le_refl _) W1 D _ _ (by omega) hK1 rfl rfl))
  case stop =>
    rintro D c pre W _ _ h _
    exact h.elim
  · have hb := hI.2.2
    rw [hgr.block _ (Array.getElem?_eq_some_iff.1 hb).1 (fun e => ?_)]
    · exact hb
    · obtain ⟨_, o, ho, hc⟩ := hr _ e.symm
      rw [hb] at ho
      cases ho
      simp [Obj.isCells] at hc
  · exact .inl ⟨by omega, .slice none 0 0, hB1, World.ownsRowF_nil _ _ _ _, by simp [Value.ownBlock]⟩

theorem natural_text {w : World} {A : Option Addr} {n c x : Nat} (hg : Glob w) (ha : IsN w A n c x) (hn : n ≤ 1000000) :
    Pure Tryz.prog 165 #[.slice A n c] w fun v _ => v = .string (st (natT x)) := by
  obtain ⟨ws, a1, a2, a3, a4, a5, a6, rfl⟩ := ha
  by_cases h0 : ws = []
  · subst h0
    simp at a2
    subst a2
    refine (?_ : Calls Tryz.prog 165 #[.slice A 0 c] w fun e w' => e = .returned (.string ⟨#[48]⟩) ∧ Below w.heap.size w w').mono ?_
    · go_enter Tryz.func165, Tryz.ntmps165
      go_wp2
      go_ret
      exact ⟨rfl, (Below.refl _ w).alloc (Nat.le_refl _) _⟩
    · rintro e w' ⟨rfl, hb⟩
      refine ⟨_, rfl, hb, ?_⟩
      have : natT (wv []) = [48] := by simp only [wv]; exact natT_0
      rw [this]; rfl
  · subst a2
    refine (text_calls hg a1 a5 a6 hn h0).mono ?_
    rintro e w' ⟨rfl, hb⟩
    exact ⟨_, rfl, hb, rfl⟩
end Go.Proofs.YtdoailkigecmkaaGreatDoor.B

namespace Go.Proofs.YtdoailkigecmkaaGreatDoor.B
open Go Go.RowKit Go.Proofs Go.Proofs.YtdoailkigecmkaaGreatDoor.Vc

theorem natural_both {w : World} {s t : ByteArray} (hs : s.size ≤ 900000) (ht : t.size ≤ 900000) :
    Pure Tryz.prog 147 #[.string s, .string t] w fun v w' =>
      (¬ (isNat (by_ s) = true ∧ isNat (by_ t) = true) ∧ v = .tuple #[.slice none 0 0, .slice none 0 0, .int .i64 1]) ∨
      ((isNat (by_ s) = true ∧ isNat (by_ t) = true) ∧ ∃ A n c A' n' c', v = .tuple #[.slice A n c, .slice A' n' c', .int .i64 0] ∧ IsN w' A n c (valD (by_ s)) ∧ IsN w' A' n' c' (valD (by_ t))) := by
  refine F.natural_both.vc _ _ _ _ (Pure.mono (natural_Valid s (by omega) w) ?_)
  rintro v w2 _ rfl
  refine ⟨_, rfl, fun h => .inl ⟨by simp [h], rfl⟩, fun h => ?_⟩
  refine Pure.mono (natural_Valid t (by omega) w2) ?_
  rintro v w3 _ rfl
  refine ⟨_, rfl, fun h2 => .inl ⟨by simp [h2], rfl⟩, fun h2 => ?_⟩
  have h1' : isNat (by_ s) = true := by simpa using h
  have h2' : isNat (by_ t) = true := by simpa using h2
  refine Pure.mono (natural_read hs h1') ?_
  rintro v w4 _ ⟨A, n, c, rfl, k1⟩
  refine ⟨_, _, _, rfl, Pure.mono (natural_read ht h2') ?_⟩
  rintro v w5 hb5 ⟨A', n', c', rfl, k2⟩
  exact ⟨_, _, _, rfl, .inr ⟨⟨h1', h2'⟩, _, _, _, _, _, _, rfl, k1.below hb5, k2⟩⟩
end Go.Proofs.YtdoailkigecmkaaGreatDoor.B

namespace Go.Proofs.YtdoailkigecmkaaGreatDoor.B
open Go Go.RowKit Go.Proofs Go.Proofs.YtdoailkigecmkaaGreatDoor.Vc

def nS (n : Nat) : ByteArray := st (natT n)
def iS (z : Int) : ByteArray := st (intT z)
def rS (r : Rat) : ByteArray := st (ratT r)
theorem by_nS (n : Nat) : by_ (nS n) = natT n := rfl
theorem by_iS (z : Int) : by_ (iS z) = intT z := rfl
theorem by_rS (r : Rat) : by_ (rS r) = ratT r := rfl
theorem nS_inj {a b : Nat} (h : nS a = nS b) : a = b := natT_inj (st_inj h)
theorem iS_nat (n : Nat) : iS (n : Int) = nS n := by unfold iS nS; rw [intT_nat]
theorem nS_iff {a b : Nat} : nS a = nS b ↔ a = b := ⟨nS_inj, fun h => by rw [h]⟩
theorem nS_0 : (⟨#[48]⟩ : ByteArray) = nS 0 := by unfold nS; rw [natT_0]; rfl
theorem nS_1 : (⟨#[49]⟩ : ByteArray) = nS 1 := by unfold nS; rw [natT_1]; rfl
theorem iS_0 : (⟨#[48]⟩ : ByteArray) = iS 0 := by rw [nS_0, ← iS_nat]; rfl

theorem lim_eq : Lim = 10 ^ (9 * KLim) := by
  unfold Lim
  have e : (1000000000 : Nat) = 10 ^ 9 := rfl
  rw [e, ← Nat.pow_mul]
theorem lt_lim {x k : Nat} (h : x < 10 ^ k) (hk : k ≤ 900000) : x < Lim := by
  rw [lim_eq]
  exact Nat.lt_of_lt_of_le h (Nat.pow_le_pow_right (by omega) (by have := klim; omega))
theorem size_nS_le {x : Nat} (h : x < Lim) : (nS x).size ≤ 900000 := by
  rw [lim_eq] at h
  have k := klim
  have := natT_length_le h (by omega)
  show (natT x).length ≤ _
  omega
theorem IsN.len2 {w : World} {A : Option Addr} {n c x : Nat} (h : IsN w A n c x) (hx : x < Lim * Lim + Lim) : n ≤ 1000000 := by
  obtain ⟨ws, _, hl, _, _, _, hn, rfl⟩ := h
  unfold Lim at hx
  by_cases h0 : ws = []
  · subst h0; simp at hl; omega
  · have h1 := wv_pos hn h0
    rw [← Nat.pow_add] at hx
    have k := klim
    have h3 : 1000000000 ^ KLim ≤ 1000000000 ^ (KLim + KLim) := Nat.pow_le_pow_right (by omega) (by omega)
    have h4 : 1000000000 ^ (KLim + KLim) + 1000000000 ^ KLim ≤ 1000000000 ^ (KLim + KLim + 1) := by
      rw [Nat.pow_succ (n := 1000000000) (m := KLim + KLim)]
      generalize 1000000000 ^ (KLim + KLim) = a at *
      generalize 1000000000 ^ KLim = b at *
      omega
    have h2 := (Nat.pow_lt_pow_iff_right (a := 1000000000) (by omega)).1 (Nat.lt_of_le_of_lt h1 (Nat.lt_of_lt_of_le hx h4))
    omega
theorem lim_add {x y : Nat} (hx : x < Lim) (hy : y < Lim) : x + y < Lim * Lim + Lim := by
  have h2 : 2 ≤ Lim := by rw [lim_eq]; exact Nat.le_trans (by omega) (Nat.pow_le_pow_right (n := 10) (by omega) (show 1 ≤ 9 * KLim by have := klim; omega))
  have : Lim ≤ Lim * Lim := Nat.le_mul_of_pos_left _ (by omega)
  omega
theorem lim_mul {x y : Nat} (hx : x < Lim) (hy : y < Lim) : x * y < Lim * Lim + Lim := by
  have := Nat.mul_lt_mul'' hx hy
  omega
theorem lim_le {x y : Nat} (hx : x < Lim) (h : y ≤ x) : y < Lim * Lim + Lim := by omega

theorem natural_apply {w : World} {f : Nat} {a k : Array Value} {A : Option Addr} {n c x : Nat} (hg : Glob w) (hc : callable Tryz.prog f = true) (hx : x < Lim * Lim + Lim)
    (h : Pure Tryz.prog f (a.toList ++ ([.slice A n c] : List Value) ++ k.toList).toArray w fun v w' => ∃ A n c, v = .slice A n c ∧ IsN w' A n c x) :
    Pure Tryz.prog 148 #[.func (.func f) a k, .slice A n c] w fun v _ => v = .tuple #[.string (nS x), .int .i64 0] := by
  refine F.natural_apply.vc _ _ _ _ _ _ _ _ ⟨hc, Pure.mono h ?_⟩
  rintro v w2 hb ⟨A, n, c, rfl, k1⟩
  refine ⟨_, _, _, rfl, Pure.mono (natural_text (hg.next hb) k1 (k1.len2 hx)) ?_⟩
  rintro v w3 _ rfl
  exact ⟨_, rfl, rfl⟩

theorem both_ok {w : World} {x y : Nat} (hx : x < Lim) (hy : y < Lim) :
    Pure Tryz.prog 147 #[.string (nS x), .string (nS y)] w fun v w' =>
      ∃ A n c A' n' c', v = .tuple #[.slice A n c, .slice A' n' c', .int .i64 0] ∧ IsN w' A n c x ∧ IsN w' A' n' c' y := by
  refine Pure.mono (natural_both (size_nS_le hx) (size_nS_le hy)) ?_
  rintro v w' _ (⟨h, _⟩ | ⟨_, A, n, c, A', n', c', rfl, h1, h2⟩)
  · exact absurd ⟨natT_isNat _, natT_isNat _⟩ h
  · rw [by_nS, natT_val] at h1 h2
    exact ⟨_, _, _, _, _, _, rfl, h1, h2⟩

theorem natural_Add {w : World} {x y : Nat} (hg : Glob w) (hx : x < Lim) (hy : y < Lim) :
    Pure Tryz.prog 180 #[.string (nS x), .string (nS y)] w fun v _ => v = .tuple #[.string (nS (x + y)), .int .i64 0] := by
  refine F.natural_Add.vc _ _ _ _ (Pure.mono (both_ok hx hy) ?_)
  rintro v w2 hb ⟨A, n, c, A', n', c', rfl, h1, h2⟩
  refine ⟨_, _, _, _, _, _, _, rfl, fun h => absurd rfl h, fun _ => ?_⟩
  refine Pure.mono (natural_apply (hg.next hb) (by kernel_rfl) (lim_add hx hy) (natural_plus h1 h2 hx hy)) ?_
  rintro v w3 _ rfl
  exact ⟨_, _, rfl, rfl⟩

theorem natural_Mul {w : World} {x y : Nat} (hg : Glob w) (hx : x < Lim) (hy : y < Lim) :
    Pure Tryz.prog 154 #[.string (nS x), .string (nS y)] w fun v _ => v = .tuple #[.string (nS (x * y)), .int .i64 0] := by
  refine F.natural_Mul.vc _ _ _ _ (Pure.mono (both_ok hx hy) ?_)
  rintro v w2 hb ⟨A, n, c, A', n', c', rfl, h1, h2⟩
  refine ⟨_, _, _, _, _, _, _, rfl, fun h => absurd rfl h, fun _ => ?_⟩
  refine Pure.mono (natural_apply (hg.next hb) (by kernel_rfl) (lim_mul hx hy) (Pure.mono (natural_times h1 h2 hx hy) ?_)) ?_
  · rintro v w3 _ ⟨A, n, c, rfl, k, _⟩
    exact ⟨_, _, _, rfl, k⟩
  · rintro v w3 _ rfl
    exact ⟨_, _, rfl, rfl⟩

theorem natural_GCD {w : World} {x y : Nat} (hg : Glob w) (hx : x < Lim) (hy : y < Lim) :
    Pure Tryz.prog 132 #[.string (nS x), .string (nS y)] w fun v _ => v = .tuple #[.string (nS (Nat.gcd x y)), .int .i64 0] := by
  refine F.natural_GCD.vc _ _ _ _ (Pure.mono (both_ok hx hy) ?_)
  rintro v w2 hb ⟨A, n, c, A', n', c', rfl, h1, h2⟩
  refine ⟨_, _, _, _, _, _, _, rfl, fun h => absurd rfl h, fun _ => ?_⟩
  have hle : Nat.gcd x y ≤ x + y := by
    rcases Nat.eq_zero_or_pos x with h0 | h0
    · subst h0; simp
    · have := Nat.le_of_dvd h0 (Nat.gcd_dvd_left x y); omega
  refine Pure.mono (natural_apply (hg.next hb) (by kernel_rfl) (Nat.lt_of_le_of_lt hle (lim_add hx hy)) (natural_gcd h1 h2 hx hy)) ?_
  rintro v w3 _ rfl
  exact ⟨_, _, rfl, rfl⟩

theorem natural_Compare {w : World} {x y : Nat} (hx : x < Lim) (hy : y < Lim) :
    Pure Tryz.prog 181 #[.string (nS x), .string (nS y)] w fun v _ => v = .tuple #[.int .i64 (cmpI x y), .int .i64 0] := by
  refine F.natural_Compare.vc _ _ _ _ (Pure.mono (both_ok hx hy) ?_)
  rintro v w2 hb ⟨A, n, c, A', n', c', rfl, h1, h2⟩
  refine ⟨_, _, _, _, _, _, _, rfl, fun h => absurd rfl h, fun _ => ?_⟩
  refine Pure.mono (natural_compare h1 h2 hx hy) ?_
  rintro v w3 _ rfl
  exact ⟨_, rfl, rfl⟩

theorem natural_Sub {w : World} {x y : Nat} (hg : Glob w) (hx : x < Lim) (hyx : y ≤ x) :
    Pure Tryz.prog 182 #[.string (nS x), .string (nS y)] w fun v _ => v = .tuple #[.string (nS (x - y)), .int .i64 0] := by
  have hy : y < Lim := Nat.lt_of_le_of_lt hyx hx
  refine F.natural_Sub.vc _ _ _ _ (Pure.mono (both_ok hx hy) ?_)
  rintro v w2 hb ⟨A, n, c, A', n', c', rfl, h1, h2⟩
  refine ⟨_, _, _, _, _, _, _, rfl, fun h => absurd rfl h, fun _ => ?_⟩
  refine Pure.mono (natural_compare h1 h2 hx hy) ?_
  rintro v w3 hb3 rfl
  refine ⟨_, rfl, fun h => ?_, fun _ => ?_⟩
  · simp only [cmpI] at h
    split at h
    · omega
    · split at h <;> omega
  · refine Pure.mono (natural_apply ((hg.next hb).next hb3) (by kernel_rfl) (lim_le hx (Nat.sub_le x y)) (natural_minus (h1.below hb3) (h2.below hb3) hx hyx)) ?_
    rintro v w4 _ rfl
    exact ⟨_, _, rfl, rfl⟩

theorem natural_DivMod {w : World} {x y : Nat} (hg : Glob w) (hx : x < Lim) (hy : y < Lim) (hy0 : y ≠ 0) :
    Pure Tryz.prog 221 #[.string (nS x), .string (nS y)] w fun v _ => v = .tuple #[.string (nS (x / y)), .string (nS (x % y)), .int .i64 0] := by
  refine F.natural_DivMod.vc _ _ _ _ (Pure.mono (both_ok hx hy) ?_)
  rintro v w2 hb ⟨A, n, c, A', n', c', rfl, h1, h2⟩
  refine ⟨_, _, _, _, _, _, _, rfl, fun h => absurd rfl h, fun _ => ⟨fun h => ?_, fun _ => ?_⟩⟩
  · obtain ⟨ws, _, a2, _, _, _, _, rfl⟩ := h2
    have : ws = [] := List.eq_nil_of_length_eq_zero (by omega)
    subst this
    exact absurd rfl hy0
  · refine Pure.mono (natural_divide h1 h2 hx hy hy0) ?_
    rintro v w3 hb3 ⟨B, m, d, B', m', d', rfl, k1, k2⟩
    have hg3 := (hg.next hb).next hb3
    refine ⟨_, _, _, _, _, _, rfl, Pure.mono (natural_text hg3 k1 (k1.len2 (lim_le hx (Nat.div_le_self x y)))) ?_⟩
    rintro v w4 hb4 rfl
    refine ⟨_, rfl, Pure.mono (natural_text (hg3.next hb4) (k2.below hb4) (k2.len2 (lim_le hx (Nat.mod_le x y)))) ?_⟩
    rintro v w5 _ rfl
    exact ⟨_, rfl, rfl⟩
end Go.Proofs.YtdoailkigecmkaaGreatDoor.B

set_option maxRecDepth 100000
namespace Go.Proofs.YtdoailkigecmkaaGreatDoor.F
open Go Go.RowKit Go.Proofs Go.Proofs.YtdoailkigecmkaaGreatDoor.Vc
noncomputable def integer_Valid.cx (w : World) (B : Nat) (R : Value → World → Prop) : Cx := ⟨Tryz.prog, 113, 11, Tryz.f113.results.toList, [], [], w, B, R⟩
theorem integer_Valid.vc (sp0 : ByteArray) (w : World) (R : Value → World → Prop)
    (h : (Pure Tryz.prog 130 #[(.string sp0)] w fun r4 w5 => ∃ (b1 : Bool) (s2 : ByteArray) (b3 : Bool), r4 = (.tuple #[(.agg #[(.bool b1), (.string s2)]), (.bool b3)]) ∧ (∀ w6, Ext w.heap.size [] w5 w6 → (R (.bool b3) w6)))) :
    Pure Tryz.prog 113 #[(.string sp0)] w R :=
  pure_of_run (integer_Valid.cx w w.heap.size R) 100000 follows Tryz.func113 rfl rfl rfl rfl rfl rfl rfl (Eq.mp (by kernel_rfl) h)

noncomputable def integer_Mul.cx (w : World) (B : Nat) (R : Value → World → Prop) : Cx := ⟨Tryz.prog, 122, 23, Tryz.f122.results.toList, [], [], w, B, R⟩
theorem integer_Mul.vc (sp0 : ByteArray) (sp1 : ByteArray) (w : World) (R : Value → World → Prop)
    (h : (Pure Tryz.prog 138 #[(.string sp0), (.string sp1)] w fun r6 w7 => ∃ (b1 : Bool) (s2 : ByteArray) (b3 : Bool) (s4 : ByteArray) (i5 : Int), r6 = (.tuple #[(.agg #[(.bool b1), (.string s2)]), (.agg #[(.bool b3), (.string s4)]), (.int .i64 i5)]) ∧ ((((i5 : Int) ≠ (0 : Int)) → (∀ w8, Ext w.heap.size [] w7 w8 → (R (.tuple #[(.string (⟨#[]⟩ : ByteArray)), (.int .i64 i5)]) w8))) ∧ (¬ ((i5 : Int) ≠ (0 : Int)) → (∀ w9, Ext w.heap.size [] w7 w9 → (Pure Tryz.prog 139 #[(.agg #[(.bool b1), (.string s2)]), (.agg #[(.bool b3), (.string s4)])] w9 fun r12 w13 => ∃ (b10 : Bool) (s11 : ByteArray), r12 = (.agg #[(.bool b10), (.string s11)]) ∧ (Pure Tryz.prog 140 #[(.agg #[(.bool b10), (.string s11)])] w13 fun r15 w16 => ∃ (s14 : ByteArray), r15 = (.string s14) ∧ (R (.tuple #[(.string s14), (.int .i64 (0 : Int))]) w16)))))))) :
    Pure Tryz.prog 122 #[(.string sp0), (.string sp1)] w R :=
  pure_of_run (integer_Mul.cx w w.heap.size R) 100000 follows Tryz.func122 rfl rfl rfl rfl rfl rfl rfl (Eq.mp (by kernel_rfl) h)

noncomputable def integer_Compare.cx (w : World) (B : Nat) (R : Value → World → Prop) : Cx := ⟨Tryz.prog, 123, 22, Tryz.f123.results.toList, [], [], w, B, R⟩
theorem integer_Compare.vc (sp0 : ByteArray) (sp1 : ByteArray) (w : World) (R : Value → World → Prop)
    (h : (Pure Tryz.prog 138 #[(.string sp0), (.string sp1)] w fun r6 w7 => ∃ (b1 : Bool) (s2 : ByteArray) (b3 : Bool) (s4 : ByteArray) (i5 : Int), r6 = (.tuple #[(.agg #[(.bool b1), (.string s2)]), (.agg #[(.bool b3), (.string s4)]), (.int .i64 i5)]) ∧ (∀ w8, Ext w.heap.size [] w7 w8 → (Pure Tryz.prog 142 #[(.agg #[(.bool b3), (.string s4)])] w8 fun r11 w12 => ∃ (b9 : Bool) (s10 : ByteArray), r11 = (.agg #[(.bool b9), (.string s10)]) ∧ (Pure Tryz.prog 141 #[(.agg #[(.bool b1), (.string s2)]), (.agg #[(.bool b9), (.string s10)])] w12 fun r15 w16 => ∃ (b13 : Bool) (s14 : ByteArray), r15 = (.agg #[(.bool b13), (.string s14)]) ∧ (Pure Tryz.prog 143 #[(.agg #[(.bool b13), (.string s14)])] w16 fun r18 w19 => ∃ (i17 : Int), r18 = (.int .i64 i17) ∧ (R (.tuple #[(.int .i64 i17), (.int .i64 i5)]) w19))))))) :
    Pure Tryz.prog 123 #[(.string sp0), (.string sp1)] w R :=
  pure_of_run (integer_Compare.cx w w.heap.size R) 100000 follows Tryz.func123 rfl rfl rfl rfl rfl rfl rfl (Eq.mp (by kernel_rfl) h)

noncomputable def integer_read.cx (w : World) (B : Nat) (R : Value → World → Prop) : Cx := ⟨Tryz.prog, 130, 23, Tryz.f130.results.toList, [], [], w, B, R⟩
theorem integer_read.vc (sp0 : ByteArray) (w : World) (R : Value → World → Prop)
    (h : (∀ w1, Ext w.heap.size [] w w1 → (Pure Tryz.prog 145 #[(.string sp0), (.string (⟨#[45]⟩ : ByteArray))] w1 fun r4 w5 => ∃ (s2 : ByteArray) (b3 : Bool), r4 = (.tuple #[(.string s2), (.bool b3)]) ∧ (∀ w6, Ext w.heap.size [] w5 w6 → (Pure Tryz.prog 114 #[(.string s2)] w6 fun r8 w9 => ∃ (b7 : Bool), r8 = (.bool b7) ∧ ((b7 = true → ((∀ w10, Ext w.heap.size [157] w9 w10 → (R (.tuple #[(.agg #[(.bool b3), (.string s2)]), (.bool (decide (¬ (b3 = true ∧ s2 = (⟨#[48]⟩ : ByteArray) ∧ True))))]) w10)) ∧ (∀ w11, Ext w.heap.size [157] w9 w11 → (R (.tuple #[(.agg #[(.bool b3), (.string s2)]), (.bool (decide (¬ (b3 = true ∧ s2 = (⟨#[48]⟩ : ByteArray) ∧ True))))]) w11)))) ∧ (b7 = false → ((∀ w12, Ext w.heap.size [157] w9 w12 → (R (.tuple #[(.agg #[(.bool b3), (.string s2)]), (.bool false)]) w12)) ∧ (∀ w13, Ext w.heap.size [157] w9 w13 → (R (.tuple #[(.agg #[(.bool b3), (.string s2)]), (.bool false)]) w13)))))))))) :
    Pure Tryz.prog 130 #[(.string sp0)] w R :=
  pure_of_run (integer_read.cx w w.heap.size R) 100000 follows Tryz.func130 rfl rfl rfl rfl rfl rfl rfl (Eq.mp (by kernel_rfl) h)

noncomputable def integer_Abs.cx (w : World) (B : Nat) (R : Value → World → Prop) : Cx := ⟨Tryz.prog, 131, 16, Tryz.f131.results.toList, [], [], w, B, R⟩
theorem integer_Abs.vc (sp0 : ByteArray) (w : World) (R : Value → World → Prop)
    (h : (Pure Tryz.prog 146 #[(.string sp0)] w fun r4 w5 => ∃ (b1 : Bool) (s2 : ByteArray) (i3 : Int), r4 = (.tuple #[(.agg #[(.bool b1), (.string s2)]), (.int .i64 i3)]) ∧ ((((i3 : Int) ≠ (0 : Int)) → (∀ w6, Ext w.heap.size [] w5 w6 → (R (.tuple #[(.string (⟨#[]⟩ : ByteArray)), (.int .i64 i3)]) w6))) ∧ (¬ ((i3 : Int) ≠ (0 : Int)) → (∀ w7, Ext w.heap.size [] w5 w7 → (R (.tuple #[(.string s2), (.int .i64 (0 : Int))]) w7)))))) :
    Pure Tryz.prog 131 #[(.string sp0)] w R :=
  pure_of_run (integer_Abs.cx w w.heap.size R) 100000 follows Tryz.func131 rfl rfl rfl rfl rfl rfl rfl (Eq.mp (by kernel_rfl) h)

noncomputable def integer_Sign.cx (w : World) (B : Nat) (R : Value → World → Prop) : Cx := ⟨Tryz.prog, 137, 14, Tryz.f137.results.toList, [], [], w, B, R⟩
theorem integer_Sign.vc (sp0 : ByteArray) (w : World) (R : Value → World → Prop)
    (h : (Pure Tryz.prog 146 #[(.string sp0)] w fun r4 w5 => ∃ (b1 : Bool) (s2 : ByteArray) (i3 : Int), r4 = (.tuple #[(.agg #[(.bool b1), (.string s2)]), (.int .i64 i3)]) ∧ (∀ w6, Ext w.heap.size [] w5 w6 → (Pure Tryz.prog 143 #[(.agg #[(.bool b1), (.string s2)])] w6 fun r8 w9 => ∃ (i7 : Int), r8 = (.int .i64 i7) ∧ (R (.tuple #[(.int .i64 i7), (.int .i64 i3)]) w9))))) :
    Pure Tryz.prog 137 #[(.string sp0)] w R :=
  pure_of_run (integer_Sign.cx w w.heap.size R) 100000 follows Tryz.func137 rfl rfl rfl rfl rfl rfl rfl (Eq.mp (by kernel_rfl) h)

noncomputable def integer_both.cx (w : World) (B : Nat) (R : Value → World → Prop) : Cx := ⟨Tryz.prog, 138, 31, Tryz.f138.results.toList, [], [], w, B, R⟩
theorem integer_both.vc (sp0 : ByteArray) (sp1 : ByteArray) (w : World) (R : Value → World → Prop)
    (h : (∀ w1, Ext w.heap.size [] w w1 → (Pure Tryz.prog 130 #[(.string sp0)] w1 fun r5 w6 => ∃ (b2 : Bool) (s3 : ByteArray) (b4 : Bool), r5 = (.tuple #[(.agg #[(.bool b2), (.string s3)]), (.bool b4)]) ∧ (∀ w7, Ext w.heap.size [] w6 w7 → (Pure Tryz.prog 130 #[(.string sp1)] w7 fun r11 w12 => ∃ (b8 : Bool) (s9 : ByteArray) (b10 : Bool), r11 = (.tuple #[(.agg #[(.bool b8), (.string s9)]), (.bool b10)]) ∧ (((b4 = false) → (∀ w13, Ext w.heap.size [] w12 w13 → (Pure Tryz.prog 153 #[] w13 fun r16 w17 => ∃ (b14 : Bool) (s15 : ByteArray), r16 = (.agg #[(.bool b14), (.string s15)]) ∧ (Pure Tryz.prog 153 #[] w17 fun r20 w21 => ∃ (b18 : Bool) (s19 : ByteArray), r20 = (.agg #[(.bool b18), (.string s19)]) ∧ (∀ w22, Ext w.heap.size [157] w21 w22 → (R (.tuple #[(.agg #[(.bool b14), (.string s15)]), (.agg #[(.bool b18), (.string s19)]), (.int .i64 (1 : Int))]) w22)))))) ∧ (¬ (b4 = false) → (((b10 = false) → (∀ w23, Ext w.heap.size [] w12 w23 → (Pure Tryz.prog 153 #[] w23 fun r26 w27 => ∃ (b24 : Bool) (s25 : ByteArray), r26 = (.agg #[(.bool b24), (.string s25)]) ∧ (Pure Tryz.prog 153 #[] w27 fun r30 w31 => ∃ (b28 : Bool) (s29 : ByteArray), r30 = (.agg #[(.bool b28), (.string s29)]) ∧ (∀ w32, Ext w.heap.size [157] w31 w32 → (R (.tuple #[(.agg #[(.bool b24), (.string s25)]), (.agg #[(.bool b28), (.string s29)]), (.int .i64 (1 : Int))]) w32)))))) ∧ (¬ (b10 = false) → ((∀ w33, Ext w.heap.size [157] w12 w33 → (R (.tuple #[(.agg #[(.bool b2), (.string s3)]), (.agg #[(.bool b8), (.string s9)]), (.int .i64 (0 : Int))]) w33)) ∧ (∀ w34, Ext w.heap.size [157] w12 w34 → (R (.tuple #[(.agg #[(.bool b2), (.string s3)]), (.agg #[(.bool b8), (.string s9)]), (.int .i64 (0 : Int))]) w34)))))))))))) :
    Pure Tryz.prog 138 #[(.string sp0), (.string sp1)] w R :=
  pure_of_run (integer_both.cx w w.heap.size R) 100000 follows Tryz.func138 rfl rfl rfl rfl rfl rfl rfl (Eq.mp (by kernel_rfl) h)

noncomputable def integer_number_times.cx (w : World) (B : Nat) (R : Value → World → Prop) : Cx := ⟨Tryz.prog, 139, 22, Tryz.f139.results.toList, [], [], w, B, R⟩
theorem integer_number_times.vc (bp0_0 : Bool) (sp0_1 : ByteArray) (bp1_0 : Bool) (sp1_1 : ByteArray) (w : World) (R : Value → World → Prop)
    (h : (∀ w1, Ext w.heap.size [] w w1 → (Pure Tryz.prog 154 #[(.string sp0_1), (.string sp1_1)] w1 fun r4 w5 => ∃ (s2 : ByteArray) (i3 : Int), r4 = (.tuple #[(.string s2), (.int .i64 i3)]) ∧ (Pure Tryz.prog 155 #[(.bool (decide (¬ ((bp0_0 : Bool) = bp1_0)))), (.string s2)] w5 fun r8 w9 => ∃ (b6 : Bool) (s7 : ByteArray), r8 = (.agg #[(.bool b6), (.string s7)]) ∧ (∀ w10, Ext w.heap.size [157] w9 w10 → (R (.agg #[(.bool b6), (.string s7)]) w10)))))) :
    Pure Tryz.prog 139 #[(.agg #[(.bool bp0_0), (.string sp0_1)]), (.agg #[(.bool bp1_0), (.string sp1_1)])] w R :=
  pure_of_run (integer_number_times.cx w w.heap.size R) 100000 follows Tryz.func139 rfl rfl rfl rfl rfl rfl rfl (Eq.mp (by kernel_rfl) h)

noncomputable def integer_number_text.cx (w : World) (B : Nat) (R : Value → World → Prop) : Cx := ⟨Tryz.prog, 140, 10, Tryz.f140.results.toList, [], [], w, B, R⟩
theorem integer_number_text.vc (bp0_0 : Bool) (sp0_1 : ByteArray) (w : World) (R : Value → World → Prop)
    (h : ((bp0_0 = true → (ByteArray.size (⟨#[45]⟩ : ByteArray) + ByteArray.size sp0_1 ≤ 9223372036854775807 ∧ (∀ w1, Ext w.heap.size [] w w1 → (R (.string ((⟨#[45]⟩ : ByteArray) ++ sp0_1)) w1)))) ∧ (bp0_0 = false → (∀ w2, Ext w.heap.size [] w w2 → (R (.string sp0_1) w2))))) :
    Pure Tryz.prog 140 #[(.agg #[(.bool bp0_0), (.string sp0_1)])] w R :=
  pure_of_run (integer_number_text.cx w w.heap.size R) 100000 follows Tryz.func140 rfl rfl rfl rfl rfl rfl rfl (Eq.mp (by kernel_rfl) h)

noncomputable def integer_number_plus.cx (w : World) (B : Nat) (R : Value → World → Prop) : Cx := ⟨Tryz.prog, 141, 21, Tryz.f141.results.toList, [], [(2, 6, 1), (2, 7, 1)], w, B, R⟩
theorem integer_number_plus.vc (bp0_0 : Bool) (sp0_1 : ByteArray) (bp1_0 : Bool) (sp1_1 : ByteArray) (w : World) (R : Value → World → Prop)
    (h : (∀ w1, Ext w.heap.size [] w w1 → (Pure Tryz.prog 158 #[(.bool bp0_0)] w1 fun r3 w4 => ∃ (i2 : Int), r3 = (.int .i64 i2) ∧ ((0 ≤ i2 ∧ i2 < (2 : Int)) ∧ ((True ∧ (i2 = (0 : Int) → (Pure Tryz.prog 158 #[(.bool bp1_0)] w4 fun r6 w7 => ∃ (i5 : Int), r6 = (.int .i64 i5) ∧ ((0 ≤ i5 ∧ i5 < (2 : Int)) ∧ ((True ∧ (i5 = (0 : Int) → (Pure Tryz.prog 156 #[(.agg #[(.bool bp0_0), (.string sp0_1)]), (.agg #[(.bool bp1_0), (.string sp1_1)])] w7 fun r10 w11 => ∃ (b8 : Bool) (s9 : ByteArray), r10 = (.agg #[(.bool b8), (.string s9)]) ∧ (∀ w12, Ext w.heap.size [157] w11 w12 → (R (.agg #[(.bool b8), (.string s9)]) w12))))) ∧ (i5 = (1 : Int) → (Pure Tryz.prog 157 #[(.agg #[(.bool bp0_0), (.string sp0_1)]), (.agg #[(.bool bp1_0), (.string sp1_1)])] w7 fun r15 w16 => ∃ (b13 : Bool) (s14 : ByteArray), r15 = (.agg #[(.bool b13), (.string s14)]) ∧ (∀ w17, Ext w.heap.size [157] w16 w17 → (R (.agg #[(.bool b13), (.string s14)]) w17))))))))) ∧ (i2 = (1 : Int) → (Pure Tryz.prog 158 #[(.bool bp1_0)] w4 fun r19 w20 => ∃ (i18 : Int), r19 = (.int .i64 i18) ∧ ((0 ≤ i18 ∧ i18 < (2 : Int)) ∧ ((True ∧ (i18 = (0 : Int) → (Pure Tryz.prog 157 #[(.agg #[(.bool bp0_0), (.string sp0_1)]), (.agg #[(.bool bp1_0), (.string sp1_1)])] w20 fun r23 w24 => ∃ (b21 : Bool) (s22 : ByteArray), r23 = (.agg #[(.bool b21), (.string s22)]) ∧ (∀ w25, Ext w.heap.size [157] w24 w25 → (R (.agg #[(.bool b21), (.string s22)]) w25))))) ∧ (i18 = (1 : Int) → (Pure Tryz.prog 156 #[(.agg #[(.bool bp0_0), (.string sp0_1)]), (.agg #[(.bool bp1_0), (.string sp1_1)])] w20 fun r28 w29 => ∃ (b26 : Bool) (s27 : ByteArray), r28 = (.agg #[(.bool b26), (.string s27)]) ∧ (∀ w30, Ext w.heap.size [157] w29 w30 → (R (.agg #[(.bool b26), (.string s27)]) w30))))))))))))) :
    Pure Tryz.prog 141 #[(.agg #[(.bool bp0_0), (.string sp0_1)]), (.agg #[(.bool bp1_0), (.string sp1_1)])] w R :=
  pure_of_run (integer_number_plus.cx w w.heap.size R) 100000 follows Tryz.func141 rfl rfl rfl rfl rfl rfl rfl (Eq.mp (by kernel_rfl) h)

noncomputable def integer_number_opposite.cx (w : World) (B : Nat) (R : Value → World → Prop) : Cx := ⟨Tryz.prog, 142, 9, Tryz.f142.results.toList, [], [], w, B, R⟩
theorem integer_number_opposite.vc (bp0_0 : Bool) (sp0_1 : ByteArray) (w : World) (R : Value → World → Prop)
    (h : (∀ w1, Ext w.heap.size [] w w1 → (Pure Tryz.prog 155 #[(.bool (decide (bp0_0 = false))), (.string sp0_1)] w1 fun r4 w5 => ∃ (b2 : Bool) (s3 : ByteArray), r4 = (.agg #[(.bool b2), (.string s3)]) ∧ (∀ w6, Ext w.heap.size [157] w5 w6 → (R (.agg #[(.bool b2), (.string s3)]) w6))))) :
    Pure Tryz.prog 142 #[(.agg #[(.bool bp0_0), (.string sp0_1)])] w R :=
  pure_of_run (integer_number_opposite.cx w w.heap.size R) 100000 follows Tryz.func142 rfl rfl rfl rfl rfl rfl rfl (Eq.mp (by kernel_rfl) h)

noncomputable def integer_number_sign.cx (w : World) (B : Nat) (R : Value → World → Prop) : Cx := ⟨Tryz.prog, 143, 10, Tryz.f143.results.toList, [], [], w, B, R⟩
theorem integer_number_sign.vc (bp0_0 : Bool) (sp0_1 : ByteArray) (w : World) (R : Value → World → Prop)
    (h : (∀ w1, Ext w.heap.size [] w w1 → (Pure Tryz.prog 153 #[] w1 fun r4 w5 => ∃ (b2 : Bool) (s3 : ByteArray), r4 = (.agg #[(.bool b2), (.string s3)]) ∧ (((bp0_0 = b2 ∧ sp0_1 = s3 ∧ True) → (R (.int .i64 (0 : Int)) w5)) ∧ (¬ (bp0_0 = b2 ∧ sp0_1 = s3 ∧ True) → ((bp0_0 = true → (R (.int .i64 (-1 : Int)) w5)) ∧ (bp0_0 = false → (R (.int .i64 (1 : Int)) w5)))))))) :
    Pure Tryz.prog 143 #[(.agg #[(.bool bp0_0), (.string sp0_1)])] w R :=
  pure_of_run (integer_number_sign.cx w w.heap.size R) 100000 follows Tryz.func143 rfl rfl rfl rfl rfl rfl rfl (Eq.mp (by kernel_rfl) h)

noncomputable def integer_one.cx (w : World) (B : Nat) (R : Value → World → Prop) : Cx := ⟨Tryz.prog, 146, 15, Tryz.f146.results.toList, [], [], w, B, R⟩
theorem integer_one.vc (sp0 : ByteArray) (w : World) (R : Value → World → Prop)
    (h : (∀ w1, Ext w.heap.size [] w w1 → (Pure Tryz.prog 138 #[(.string sp0), (.string (⟨#[48]⟩ : ByteArray))] w1 fun r7 w8 => ∃ (b2 : Bool) (s3 : ByteArray) (b4 : Bool) (s5 : ByteArray) (i6 : Int), r7 = (.tuple #[(.agg #[(.bool b2), (.string s3)]), (.agg #[(.bool b4), (.string s5)]), (.int .i64 i6)]) ∧ (∀ w9, Ext w.heap.size [157] w8 w9 → (R (.tuple #[(.agg #[(.bool b2), (.string s3)]), (.int .i64 i6)]) w9))))) :
    Pure Tryz.prog 146 #[(.string sp0)] w R :=
  pure_of_run (integer_one.cx w w.heap.size R) 100000 follows Tryz.func146 rfl rfl rfl rfl rfl rfl rfl (Eq.mp (by kernel_rfl) h)

noncomputable def integer_zero.cx (w : World) (B : Nat) (R : Value → World → Prop) : Cx := ⟨Tryz.prog, 153, 2, Tryz.f153.results.toList, [], [], w, B, R⟩
theorem integer_zero.vc  (w : World) (R : Value → World → Prop)
    (h : (∀ w1, Ext w.heap.size [] w w1 → (R (.agg #[(.bool false), (.string (⟨#[48]⟩ : ByteArray))]) w1))) :
    Pure Tryz.prog 153 #[] w R :=
  pure_of_run (integer_zero.cx w w.heap.size R) 100000 follows Tryz.func153 rfl rfl rfl rfl rfl rfl rfl (Eq.mp (by kernel_rfl) h)

noncomputable def integer_with.cx (w : World) (B : Nat) (R : Value → World → Prop) : Cx := ⟨Tryz.prog, 155, 12, Tryz.f155.results.toList, [], [], w, B, R⟩
theorem integer_with.vc (bp0 : Bool) (sp1 : ByteArray) (w : World) (R : Value → World → Prop)
    (h : ((bp0 = true → (∀ w1, Ext w.heap.size [] w w1 → (R (.agg #[(.bool (decide (sp1 ≠ (⟨#[48]⟩ : ByteArray)))), (.string sp1)]) w1))) ∧ (bp0 = false → (∀ w2, Ext w.heap.size [] w w2 → (R (.agg #[(.bool false), (.string sp1)]) w2))))) :
    Pure Tryz.prog 155 #[(.bool bp0), (.string sp1)] w R :=
  pure_of_run (integer_with.cx w w.heap.size R) 100000 follows Tryz.func155 rfl rfl rfl rfl rfl rfl rfl (Eq.mp (by kernel_rfl) h)

noncomputable def integer_sum.cx (w : World) (B : Nat) (R : Value → World → Prop) : Cx := ⟨Tryz.prog, 156, 19, Tryz.f156.results.toList, [], [], w, B, R⟩
theorem integer_sum.vc (bp0_0 : Bool) (sp0_1 : ByteArray) (bp1_0 : Bool) (sp1_1 : ByteArray) (w : World) (R : Value → World → Prop)
    (h : (∀ w1, Ext w.heap.size [] w w1 → (Pure Tryz.prog 180 #[(.string sp0_1), (.string sp1_1)] w1 fun r4 w5 => ∃ (s2 : ByteArray) (i3 : Int), r4 = (.tuple #[(.string s2), (.int .i64 i3)]) ∧ (Pure Tryz.prog 155 #[(.bool bp0_0), (.string s2)] w5 fun r8 w9 => ∃ (b6 : Bool) (s7 : ByteArray), r8 = (.agg #[(.bool b6), (.string s7)]) ∧ (∀ w10, Ext w.heap.size [157] w9 w10 → (R (.agg #[(.bool b6), (.string s7)]) w10)))))) :
    Pure Tryz.prog 156 #[(.agg #[(.bool bp0_0), (.string sp0_1)]), (.agg #[(.bool bp1_0), (.string sp1_1)])] w R :=
  pure_of_run (integer_sum.cx w w.heap.size R) 100000 follows Tryz.func156 rfl rfl rfl rfl rfl rfl rfl (Eq.mp (by kernel_rfl) h)

def integer_difference.J4 (blx2_0 : Bool) (slx2_1 : ByteArray) (blx3_0 : Bool) (slx3_1 : ByteArray) (blx4_0 : Bool) (slx4_1 : ByteArray) (B : Nat) (w : World) (R : Value → World → Prop) : Prop := At Tryz.prog 157 33 (regionAt Tryz.f157 4) [(2, .loc 2 0), (3, .loc 3 0), (4, .loc 4 0)] [⟨2, false, 157, [(.bool blx2_0), (.string slx2_1)]⟩, ⟨3, false, 157, [(.bool blx3_0), (.string slx3_1)]⟩, ⟨4, false, 157, [(.bool blx4_0), (.string slx4_1)]⟩] B w R
noncomputable def integer_difference.cx (w : World) (B : Nat) (R : Value → World → Prop) : Cx := ⟨Tryz.prog, 157, 33, Tryz.f157.results.toList, [((false, 4), [2, 3, 4], [2, 3, 4])], [], w, B, R⟩
theorem integer_difference.J4.step (blx2_0 : Bool) (slx2_1 : ByteArray) (blx3_0 : Bool) (slx3_1 : ByteArray) (blx4_0 : Bool) (slx4_1 : ByteArray) (B : Nat) (w : World) (R : Value → World → Prop)
    (h : (Pure Tryz.prog 182 #[(.string slx2_1), (.string slx3_1)] w fun r9 w10 => ∃ (s7 : ByteArray) (i8 : Int), r9 = (.tuple #[(.string s7), (.int .i64 i8)]) ∧ (Pure Tryz.prog 155 #[(.bool blx2_0), (.string s7)] w10 fun r13 w14 => ∃ (b11 : Bool) (s12 : ByteArray), r13 = (.agg #[(.bool b11), (.string s12)]) ∧ (∀ w15, Ext B [157] w14 w15 → (R (.agg #[(.bool b11), (.string s12)]) w15))))) :
    integer_difference.J4 blx2_0 slx2_1 blx3_0 slx3_1 blx4_0 slx4_1 B w R :=
  join_of_run (integer_difference.cx w B R) 100000 (regionAt Tryz.f157 4) _ _ follows Tryz.func157 rfl rfl rfl (Eq.mp (by kernel_rfl) h)
theorem integer_difference.vc (bp0_0 : Bool) (sp0_1 : ByteArray) (bp1_0 : Bool) (sp1_1 : ByteArray) (w : World) (R : Value → World → Prop)
    (h : (∀ w1, Ext w.heap.size [] w w1 → (Pure Tryz.prog 181 #[(.string sp0_1), (.string sp1_1)] w1 fun r4 w5 => ∃ (i2 : Int) (i3 : Int), r4 = (.tuple #[(.int .i64 i2), (.int .i64 i3)]) ∧ ((((i2 : Int) < (0 : Int)) → (∀ w6, Ext w.heap.size [157] w5 w6 → (integer_difference.J4 bp1_0 sp1_1 bp0_0 sp0_1 false (⟨#[]⟩ : ByteArray) w.heap.size w6 R))) ∧ (¬ ((i2 : Int) < (0 : Int)) → (integer_difference.J4 bp0_0 sp0_1 bp1_0 sp1_1 false (⟨#[]⟩ : ByteArray) w.heap.size w5 R)))))) :
    Pure Tryz.prog 157 #[(.agg #[(.bool bp0_0), (.string sp0_1)]), (.agg #[(.bool bp1_0), (.string sp1_1)])] w R :=
  pure_of_run (integer_difference.cx w w.heap.size R) 100000 follows Tryz.func157 rfl rfl rfl rfl rfl rfl rfl (Eq.mp (by kernel_rfl) h)

noncomputable def integer_bit.cx (w : World) (B : Nat) (R : Value → World → Prop) : Cx := ⟨Tryz.prog, 158, 4, Tryz.f158.results.toList, [], [], w, B, R⟩
theorem integer_bit.vc (bp0 : Bool) (w : World) (R : Value → World → Prop)
    (h : ((bp0 = true → (R (.int .i64 (1 : Int)) w)) ∧ (bp0 = false → (R (.int .i64 (0 : Int)) w)))) :
    Pure Tryz.prog 158 #[(.bool bp0)] w R :=
  pure_of_run (integer_bit.cx w w.heap.size R) 100000 follows Tryz.func158 rfl rfl rfl rfl rfl rfl rfl (Eq.mp (by kernel_rfl) h)

noncomputable def integer_Add.cx (w : World) (B : Nat) (R : Value → World → Prop) : Cx := ⟨Tryz.prog, 197, 23, Tryz.f197.results.toList, [], [], w, B, R⟩
theorem integer_Add.vc (sp0 : ByteArray) (sp1 : ByteArray) (w : World) (R : Value → World → Prop)
    (h : (Pure Tryz.prog 138 #[(.string sp0), (.string sp1)] w fun r6 w7 => ∃ (b1 : Bool) (s2 : ByteArray) (b3 : Bool) (s4 : ByteArray) (i5 : Int), r6 = (.tuple #[(.agg #[(.bool b1), (.string s2)]), (.agg #[(.bool b3), (.string s4)]), (.int .i64 i5)]) ∧ ((((i5 : Int) ≠ (0 : Int)) → (∀ w8, Ext w.heap.size [] w7 w8 → (R (.tuple #[(.string (⟨#[]⟩ : ByteArray)), (.int .i64 i5)]) w8))) ∧ (¬ ((i5 : Int) ≠ (0 : Int)) → (∀ w9, Ext w.heap.size [] w7 w9 → (Pure Tryz.prog 141 #[(.agg #[(.bool b1), (.string s2)]), (.agg #[(.bool b3), (.string s4)])] w9 fun r12 w13 => ∃ (b10 : Bool) (s11 : ByteArray), r12 = (.agg #[(.bool b10), (.string s11)]) ∧ (Pure Tryz.prog 140 #[(.agg #[(.bool b10), (.string s11)])] w13 fun r15 w16 => ∃ (s14 : ByteArray), r15 = (.string s14) ∧ (R (.tuple #[(.string s14), (.int .i64 (0 : Int))]) w16)))))))) :
    Pure Tryz.prog 197 #[(.string sp0), (.string sp1)] w R :=
  pure_of_run (integer_Add.cx w w.heap.size R) 100000 follows Tryz.func197 rfl rfl rfl rfl rfl rfl rfl (Eq.mp (by kernel_rfl) h)

noncomputable def integer_Neg.cx (w : World) (B : Nat) (R : Value → World → Prop) : Cx := ⟨Tryz.prog, 199, 17, Tryz.f199.results.toList, [], [], w, B, R⟩
theorem integer_Neg.vc (sp0 : ByteArray) (w : World) (R : Value → World → Prop)
    (h : (Pure Tryz.prog 146 #[(.string sp0)] w fun r4 w5 => ∃ (b1 : Bool) (s2 : ByteArray) (i3 : Int), r4 = (.tuple #[(.agg #[(.bool b1), (.string s2)]), (.int .i64 i3)]) ∧ ((((i3 : Int) ≠ (0 : Int)) → (∀ w6, Ext w.heap.size [] w5 w6 → (R (.tuple #[(.string (⟨#[]⟩ : ByteArray)), (.int .i64 i3)]) w6))) ∧ (¬ ((i3 : Int) ≠ (0 : Int)) → (∀ w7, Ext w.heap.size [] w5 w7 → (Pure Tryz.prog 142 #[(.agg #[(.bool b1), (.string s2)])] w7 fun r10 w11 => ∃ (b8 : Bool) (s9 : ByteArray), r10 = (.agg #[(.bool b8), (.string s9)]) ∧ (Pure Tryz.prog 140 #[(.agg #[(.bool b8), (.string s9)])] w11 fun r13 w14 => ∃ (s12 : ByteArray), r13 = (.string s12) ∧ (R (.tuple #[(.string s12), (.int .i64 (0 : Int))]) w14)))))))) :
    Pure Tryz.prog 199 #[(.string sp0)] w R :=
  pure_of_run (integer_Neg.cx w w.heap.size R) 100000 follows Tryz.func199 rfl rfl rfl rfl rfl rfl rfl (Eq.mp (by kernel_rfl) h)

noncomputable def integer_DivMod.cx (w : World) (B : Nat) (R : Value → World → Prop) : Cx := ⟨Tryz.prog, 220, 37, Tryz.f220.results.toList, [], [], w, B, R⟩
theorem integer_DivMod.vc (sp0 : ByteArray) (sp1 : ByteArray) (w : World) (R : Value → World → Prop)
    (h : (Pure Tryz.prog 138 #[(.string sp0), (.string sp1)] w fun r6 w7 => ∃ (b1 : Bool) (s2 : ByteArray) (b3 : Bool) (s4 : ByteArray) (i5 : Int), r6 = (.tuple #[(.agg #[(.bool b1), (.string s2)]), (.agg #[(.bool b3), (.string s4)]), (.int .i64 i5)]) ∧ ((((i5 : Int) ≠ (0 : Int)) → (∀ w8, Ext w.heap.size [] w7 w8 → (R (.tuple #[(.string (⟨#[]⟩ : ByteArray)), (.string (⟨#[]⟩ : ByteArray)), (.int .i64 i5)]) w8))) ∧ (¬ ((i5 : Int) ≠ (0 : Int)) → (∀ w9, Ext w.heap.size [] w7 w9 → (Pure Tryz.prog 153 #[] w9 fun r12 w13 => ∃ (b10 : Bool) (s11 : ByteArray), r12 = (.agg #[(.bool b10), (.string s11)]) ∧ (((b3 = b10 ∧ s4 = s11 ∧ True) → (R (.tuple #[(.string (⟨#[]⟩ : ByteArray)), (.string (⟨#[]⟩ : ByteArray)), (.int .i64 (16 : Int))]) w13)) ∧ (¬ (b3 = b10 ∧ s4 = s11 ∧ True) → (Pure Tryz.prog 238 #[(.agg #[(.bool b1), (.string s2)]), (.agg #[(.bool b3), (.string s4)])] w13 fun r18 w19 => ∃ (b14 : Bool) (s15 : ByteArray) (b16 : Bool) (s17 : ByteArray), r18 = (.tuple #[(.agg #[(.bool b14), (.string s15)]), (.agg #[(.bool b16), (.string s17)])]) ∧ (∀ w20, Ext w.heap.size [] w19 w20 → (Pure Tryz.prog 140 #[(.agg #[(.bool b14), (.string s15)])] w20 fun r22 w23 => ∃ (s21 : ByteArray), r22 = (.string s21) ∧ (Pure Tryz.prog 140 #[(.agg #[(.bool b16), (.string s17)])] w23 fun r25 w26 => ∃ (s24 : ByteArray), r25 = (.string s24) ∧ (R (.tuple #[(.string s21), (.string s24), (.int .i64 (0 : Int))]) w26))))))))))))) :
    Pure Tryz.prog 220 #[(.string sp0), (.string sp1)] w R :=
  pure_of_run (integer_DivMod.cx w w.heap.size R) 100000 follows Tryz.func220 rfl rfl rfl rfl rfl rfl rfl (Eq.mp (by kernel_rfl) h)

noncomputable def integer_number_divide.cx (w : World) (B : Nat) (R : Value → World → Prop) : Cx := ⟨Tryz.prog, 238, 45, Tryz.f238.results.toList, [], [], w, B, R⟩
theorem integer_number_divide.vc (bp0_0 : Bool) (sp0_1 : ByteArray) (bp1_0 : Bool) (sp1_1 : ByteArray) (w : World) (R : Value → World → Prop)
    (h : (∀ w1, Ext w.heap.size [] w w1 → (Pure Tryz.prog 221 #[(.string sp0_1), (.string sp1_1)] w1 fun r5 w6 => ∃ (s2 : ByteArray) (s3 : ByteArray) (i4 : Int), r5 = (.tuple #[(.string s2), (.string s3), (.int .i64 i4)]) ∧ ((bp0_0 = true → (((s3 ≠ (⟨#[48]⟩ : ByteArray)) → (Pure Tryz.prog 180 #[(.string s2), (.string (⟨#[49]⟩ : ByteArray))] w6 fun r9 w10 => ∃ (s7 : ByteArray) (i8 : Int), r9 = (.tuple #[(.string s7), (.int .i64 i8)]) ∧ (Pure Tryz.prog 182 #[(.string sp1_1), (.string s3)] w10 fun r13 w14 => ∃ (s11 : ByteArray) (i12 : Int), r13 = (.tuple #[(.string s11), (.int .i64 i12)]) ∧ (Pure Tryz.prog 155 #[(.bool (decide (¬ ((bp0_0 : Bool) = bp1_0)))), (.string s7)] w14 fun r17 w18 => ∃ (b15 : Bool) (s16 : ByteArray), r17 = (.agg #[(.bool b15), (.string s16)]) ∧ (Pure Tryz.prog 155 #[(.bool false), (.string s11)] w18 fun r21 w22 => ∃ (b19 : Bool) (s20 : ByteArray), r21 = (.agg #[(.bool b19), (.string s20)]) ∧ (∀ w23, Ext w.heap.size [157] w22 w23 → (R (.tuple #[(.agg #[(.bool b15), (.string s16)]), (.agg #[(.bool b19), (.string s20)])]) w23))))))) ∧ (¬ (s3 ≠ (⟨#[48]⟩ : ByteArray)) → (Pure Tryz.prog 155 #[(.bool (decide (¬ ((bp0_0 : Bool) = bp1_0)))), (.string s2)] w6 fun r26 w27 => ∃ (b24 : Bool) (s25 : ByteArray), r26 = (.agg #[(.bool b24), (.string s25)]) ∧ (Pure Tryz.prog 155 #[(.bool false), (.string s3)] w27 fun r30 w31 => ∃ (b28 : Bool) (s29 : ByteArray), r30 = (.agg #[(.bool b28), (.string s29)]) ∧ (∀ w32, Ext w.heap.size [157] w31 w32 → (R (.tuple #[(.agg #[(.bool b24), (.string s25)]), (.agg #[(.bool b28), (.string s29)])]) w32))))))) ∧ (bp0_0 = false → (Pure Tryz.prog 155 #[(.bool (decide (¬ ((bp0_0 : Bool) = bp1_0)))), (.string s2)] w6 fun r35 w36 => ∃ (b33 : Bool) (s34 : ByteArray), r35 = (.agg #[(.bool b33), (.string s34)]) ∧ (Pure Tryz.prog 155 #[(.bool false), (.string s3)] w36 fun r39 w40 => ∃ (b37 : Bool) (s38 : ByteArray), r39 = (.agg #[(.bool b37), (.string s38)]) ∧ (∀ w41, Ext w.heap.size [157] w40 w41 → (R (.tuple #[(.agg #[(.bool b33), (.string s34)]), (.agg #[(.bool b37), (.string s38)])]) w41))))))))) :
    Pure Tryz.prog 238 #[(.agg #[(.bool bp0_0), (.string sp0_1)]), (.agg #[(.bool bp1_0), (.string sp1_1)])] w R :=
  pure_of_run (integer_number_divide.cx w w.heap.size R) 100000 follows Tryz.func238 rfl rfl rfl rfl rfl rfl rfl (Eq.mp (by kernel_rfl) h)

end Go.Proofs.YtdoailkigecmkaaGreatDoor.F

namespace Go.Proofs.YtdoailkigecmkaaGreatDoor.B
open Go Go.RowKit Go.Proofs Go.Proofs.YtdoailkigecmkaaGreatDoor.Vc

theorem kE {w a b : World} {ts : List Nat} (h : Below w.heap.size w a) (e : Ext w.heap.size ts a b) : Below w.heap.size w b := h.trans e.below
theorem kP {w a b : World} (h : Below w.heap.size w a) (k : Below a.heap.size a b) : Below w.heap.size w b := h.trans (k.mono h.size)
theorem k0 {w b : World} {ts : List Nat} (e : Ext w.heap.size ts w b) : Below w.heap.size w b := e.below

abbrev iV (z : Int) : Value := .agg #[.bool (decide (z < 0)), .string (nS z.natAbs)]

theorem integer_zero (w : World) : Pure Tryz.prog 153 #[] w fun v _ => v = iV 0 := by
  refine F.integer_zero.vc _ _ fun w1 _ => ?_
  rw [nS_0]; rfl

theorem integer_with (neg : Bool) (n : Nat) (w : World) : Pure Tryz.prog 155 #[.bool neg, .string (nS n)] w fun v _ => v = iV (if neg then -(n : Int) else n) := by
  refine F.integer_with.vc _ _ _ _ ⟨fun h w1 _ => ?_, fun h w1 _ => ?_⟩
  · subst h
    rw [nS_0]
    simp only [if_true, iV]
    congr 3
    · by_cases h0 : n = 0
      · subst h0; simp
      · have h1 : nS n ≠ nS 0 := fun k => h0 (nS_inj k)
        simp [h1]
        omega
    · simp
  · subst h
    have h2 : ¬ (n : Int) < 0 := by omega
    simp [iV, h2]

theorem integer_opposite (z : Int) (w : World) : Pure Tryz.prog 142 #[iV z] w fun v _ => v = iV (-z) := by
  refine F.integer_number_opposite.vc _ _ _ _ fun w1 _ => ?_
  refine Pure.mono (integer_with _ _ _) ?_
  rintro v w2 _ rfl
  refine ⟨_, _, rfl, fun w3 _ => ?_⟩
  have e : (if decide (decide (z < 0) = false) = true then -((z.natAbs : Nat) : Int) else (z.natAbs : Int)) = -z := by
    by_cases h : z < 0
    · simp [h]; omega
    · simp [h]; omega
  rw [e]

theorem integer_sign (z : Int) (w : World) : Pure Tryz.prog 143 #[iV z] w fun v _ => v = .int .i64 z.sign := by
  refine F.integer_number_sign.vc _ _ _ _ fun w1 _ => Pure.mono (integer_zero _) ?_
  rintro v w2 _ rfl
  refine ⟨_, _, rfl, fun h => ?_, fun h => ⟨fun h1 => ?_, fun h1 => ?_⟩⟩
  · have : z.natAbs = 0 := nS_inj h.2.1
    have : z = 0 := by omega
    subst this; rfl
  · have : z < 0 := by simpa using h1
    rw [Int.sign_eq_neg_one_of_neg this]
  · have h2 : ¬ z < 0 := by simpa using h1
    have : z ≠ 0 := fun k => by subst k; exact h ⟨by simp, rfl, trivial⟩
    rw [Int.sign_eq_one_of_pos (by omega)]

theorem st_cons (c : UInt8) (l : Tx) : (⟨#[c]⟩ : ByteArray) ++ st l = st (c :: l) := by
  apply by_inj
  simp [by_, st, ByteArray.data_append]
theorem integer_text {z : Int} (h : z.natAbs < Lim) (w : World) : Pure Tryz.prog 140 #[iV z] w fun v _ => v = .string (iS z) := by
  have hs := size_nS_le h
  refine F.integer_number_text.vc _ _ _ _ ⟨fun h => ⟨by show 1 + (nS z.natAbs).size ≤ _; omega, fun w1 _ => ?_⟩, fun h w1 _ => ?_⟩
  · have h1 : z < 0 := by simpa using h
    have e : iS z = st (45 :: natT z.natAbs) := by unfold iS; rw [intT_eq, if_pos h1]
    rw [e, ← st_cons]; rfl
  · have h1 : ¬ z < 0 := by simpa using h
    have e : iS z = nS z.natAbs := by unfold iS nS; rw [intT_eq, if_neg h1]
    rw [e]

theorem integer_sum {w : World} {x y : Int} (hg : Glob w) (hx : x.natAbs < Lim) (hy : y.natAbs < Lim) :
    Pure Tryz.prog 156 #[iV x, iV y] w fun v _ => v = iV (if x < 0 then -((x.natAbs + y.natAbs : Nat) : Int) else ((x.natAbs + y.natAbs : Nat) : Int)) := by
  refine F.integer_sum.vc _ _ _ _ _ _ fun w1 e1 => Pure.mono (natural_Add (hg.next (k0 e1)) hx hy) ?_
  rintro v w2 _ rfl
  refine ⟨_, _, rfl, Pure.mono (integer_with _ _ _) ?_⟩
  rintro v w3 _ rfl
  refine ⟨_, _, rfl, fun w4 _ => ?_⟩
  simp

theorem integer_diff_J {w0 : World} {x y : Int} (hg : Glob w0) {a b : Bool} {s t : ByteArray} {R : Value → World → Prop} (hx : x.natAbs < Lim) (hyx : y.natAbs ≤ x.natAbs) {w : World} {c : Bool} {r : ByteArray} (hb : Below w0.heap.size w0 w)
    (hR : ∀ w, R (iV (if x < 0 then -((x.natAbs - y.natAbs : Nat) : Int) else ((x.natAbs - y.natAbs : Nat) : Int))) w) :
    F.integer_difference.J4 (decide (x < 0)) (nS x.natAbs) (decide (y < 0)) (nS y.natAbs) c r w0.heap.size w R := by
  refine F.integer_difference.J4.step _ _ _ _ _ _ _ _ _ (Pure.mono (natural_Sub (hg.next hb) hx hyx) ?_)
  rintro v w2 _ rfl
  refine ⟨_, _, rfl, Pure.mono (integer_with _ _ _) ?_⟩
  rintro v w3 _ rfl
  refine ⟨_, _, rfl, fun w4 _ => ?_⟩
  have := hR w4
  simpa using this

theorem integer_difference {w : World} {x y : Int} (hg : Glob w) (hx : x.natAbs < Lim) (hy : y.natAbs < Lim) (hs : (x < 0 ∧ 0 ≤ y) ∨ (0 ≤ x ∧ y < 0)) :
    Pure Tryz.prog 157 #[iV x, iV y] w fun v _ => v = iV (x + y) := by
  refine F.integer_difference.vc _ _ _ _ _ _ fun w1 e1 => Pure.mono (natural_Compare hx hy) ?_
  rintro v w2 hb2 rfl
  refine ⟨_, _, rfl, fun h w3 e3 => ?_, fun h => ?_⟩
  · have hlt : x.natAbs < y.natAbs := by
      simp only [cmpI] at h
      split at h
      · omega
      · split at h <;> omega
    refine integer_diff_J (a := false) (b := false) (s := ⟨#[]⟩) (t := ⟨#[]⟩) hg hy (Nat.le_of_lt hlt) (kE (kP (k0 e1) hb2) e3) fun w => ?_
    congr 1
    split <;> omega
  · have hlt : y.natAbs ≤ x.natAbs := by
      simp only [cmpI] at h
      split at h <;> omega
    refine integer_diff_J (a := false) (b := false) (s := ⟨#[]⟩) (t := ⟨#[]⟩) hg hx hlt (kP (k0 e1) hb2) fun w => ?_
    congr 1
    split <;> omega

theorem integer_bit (b : Bool) (w : World) : Pure Tryz.prog 158 #[.bool b] w fun v _ => v = .int .i64 (if b then 1 else 0) := by
  refine F.integer_bit.vc _ _ _ ⟨fun h => ?_, fun h => ?_⟩ <;> subst h <;> rfl

theorem integer_plus {w : World} {x y : Int} (hg : Glob w) (hx : x.natAbs < Lim) (hy : y.natAbs < Lim) :
    Pure Tryz.prog 141 #[iV x, iV y] w fun v _ => v = iV (x + y) := by
  refine F.integer_number_plus.vc _ _ _ _ _ _ fun w1 e1 => Pure.mono (integer_bit _ _) ?_
  rintro v w2 hb2 rfl
  have hb := kP (k0 e1) hb2
  refine ⟨_, rfl, by split <;> omega, ⟨trivial, fun h1 => Pure.mono (integer_bit _ _) ?_⟩, fun h1 => Pure.mono (integer_bit _ _) ?_⟩
  all_goals
    rintro v w3 hb3 rfl
    have hg3 := hg.next (kP hb hb3)
    refine ⟨_, rfl, by split <;> omega, ⟨trivial, fun h2 => ?_⟩, fun h2 => ?_⟩
  · have hx0 : ¬ x < 0 := fun k => by simp [k] at h1
    have hy0 : ¬ y < 0 := fun k => by simp [k] at h2
    refine Pure.mono (integer_sum hg3 hx hy) ?_
    rintro v w4 _ rfl
    refine ⟨_, _, rfl, fun w5 _ => ?_⟩
    rw [if_neg hx0]
    show iV _ = iV _
    congr 1
    omega
  · have hx0 : ¬ x < 0 := fun k => by simp [k] at h1
    have hy0 : y < 0 := by apply Decidable.byContradiction; intro k; simp [k] at h2
    refine Pure.mono (integer_difference hg3 hx hy (by omega)) ?_
    rintro v w4 _ rfl
    exact ⟨_, _, rfl, fun w5 _ => rfl⟩
  · have hx0 : x < 0 := by apply Decidable.byContradiction; intro k; simp [k] at h1
    have hy0 : ¬ y < 0 := fun k => by simp [k] at h2
    refine Pure.mono (integer_difference hg3 hx hy (by omega)) ?_
    rintro v w4 _ rfl
    exact ⟨_, _, rfl, fun w5 _ => rfl⟩
  · have hx0 : x < 0 := by apply Decidable.byContradiction; intro k; simp [k] at h1
    have hy0 : y < 0 := by apply Decidable.byContradiction; intro k; simp [k] at h2
    refine Pure.mono (integer_sum hg3 hx hy) ?_
    rintro v w4 _ rfl
    refine ⟨_, _, rfl, fun w5 _ => ?_⟩
    rw [if_pos hx0]
    show iV _ = iV _
    congr 1
    omega

theorem mul_sign (x y : Int) : (if decide (¬ (decide (x < 0) = decide (y < 0))) = true then -((x.natAbs * y.natAbs : Nat) : Int) else ((x.natAbs * y.natAbs : Nat) : Int)) = x * y := by
  have e : (x * y).natAbs = x.natAbs * y.natAbs := Int.natAbs_mul x y
  rw [← e]
  rcases Int.lt_or_le x 0 with hx | hx <;> rcases Int.lt_or_le y 0 with hy | hy
  · have := Int.mul_nonneg_of_nonpos_of_nonpos (Int.le_of_lt hx) (Int.le_of_lt hy)
    simp [hx, hy]; omega
  · have := Int.mul_nonpos_of_nonpos_of_nonneg (Int.le_of_lt hx) hy
    simp [hx, Int.not_lt.2 hy]; omega
  · have := Int.mul_nonpos_of_nonneg_of_nonpos hx (Int.le_of_lt hy)
    simp [hy, Int.not_lt.2 hx]; omega
  · have := Int.mul_nonneg hx hy
    simp [Int.not_lt.2 hx, Int.not_lt.2 hy]; omega

theorem integer_times {w : World} {x y : Int} (hg : Glob w) (hx : x.natAbs < Lim) (hy : y.natAbs < Lim) :
    Pure Tryz.prog 139 #[iV x, iV y] w fun v _ => v = iV (x * y) := by
  refine F.integer_number_times.vc _ _ _ _ _ _ fun w1 e1 => Pure.mono (natural_Mul (hg.next (k0 e1)) hx hy) ?_
  rintro v w2 _ rfl
  refine ⟨_, _, rfl, Pure.mono (integer_with _ _ _) ?_⟩
  rintro v w3 _ rfl
  refine ⟨_, _, rfl, fun w4 _ => ?_⟩
  rw [mul_sign]
end Go.Proofs.YtdoailkigecmkaaGreatDoor.B

namespace Go.Proofs.YtdoailkigecmkaaGreatDoor.B
open Go Go.RowKit Go.Proofs Go.Proofs.YtdoailkigecmkaaGreatDoor.Vc

theorem CutMinus (s : ByteArray) (w : World) :
    Pure Tryz.prog 145 #[.string s, .string ⟨#[45]⟩] w fun v _ => v = .tuple #[.string (if (by_ s).head? = some 45 then st (by_ s).tail else s), .bool (decide ((by_ s).head? = some 45))] := by
  refine Calls.mono (Tryz.strings_CutPrefix s ⟨#[45]⟩ w) ?_
  rintro e w' ⟨rfl, rfl⟩
  refine ⟨_, rfl, Below.refl _ _, ?_⟩
  have h1 : Lib.hasPrefix s.data.toList [45] = decide ((by_ s).head? = some 45) := by
    show List.isPrefixOf [45] (by_ s) = _
    cases by_ s with
    | nil => rfl
    | cons c r =>
      by_cases h : c = 45
      · subst h; simp [List.isPrefixOf]
      · have h2 : (45 == c) = false := by simpa using fun k => h k.symm
        simp [List.isPrefixOf, h, h2]
  have h2 : (⟨(Lib.trimPrefix s.data.toList [45]).toArray⟩ : ByteArray) = if (by_ s).head? = some 45 then st (by_ s).tail else s := by
    unfold Lib.trimPrefix
    rw [h1]
    by_cases h : (by_ s).head? = some 45
    · simp only [h, decide_true, if_true]
      show st ((by_ s).drop 1) = st (by_ s).tail
      rw [List.drop_one]
    · simp only [h, decide_false, if_false]
      rfl
  rw [← h1, ← h2]

theorem integer_read (s : ByteArray) (hs : s.size < 2147483648) (w : World) :
    Pure Tryz.prog 130 #[.string s] w fun v _ => ∃ b t, v = .tuple #[.agg #[.bool b, .string t], .bool (isInt (by_ s))] ∧ (isInt (by_ s) = true → b = decide (valI (by_ s) < 0) ∧ t = nS (valI (by_ s)).natAbs) := by
  refine F.integer_read.vc _ _ _ fun w1 _ => Pure.mono (CutMinus s _) ?_
  rintro v w2 _ rfl
  refine ⟨_, _, rfl, fun w3 _ => ?_⟩
  obtain ⟨t, ht⟩ : ∃ t, t = (if (by_ s).head? = some 45 then st (by_ s).tail else s) := ⟨_, rfl⟩
  rw [← ht]
  have hts : t.size < 2147483648 := by
    rw [ht]
    split
    · have : (st (by_ s).tail).size = (by_ s).tail.length := rfl
      have := size_by s
      simp at *
      omega
    · exact hs
  refine Pure.mono (natural_Valid t hts _) ?_
  rintro v w4 _ rfl
  have hval : isNat (by_ t) = true → valD (by_ t) = (valI (by_ s)).natAbs ∧ t = nS (valI (by_ s)).natAbs := by
    intro hn
    have e : valD (by_ t) = (valI (by_ s)).natAbs := by
      rw [ht]
      unfold valI
      split
      · simp [by_st]
      · simp
    refine ⟨e, ?_⟩
    rw [← e]
    exact (by rw [← st_by t]; unfold nS; rw [by_st, natT_of hn] : t = nS (valD (by_ t)))
  have hneg : isInt (by_ s) = true → decide ((by_ s).head? = some 45) = decide (valI (by_ s) < 0) := by
    intro hi
    have e := intT_of hi
    conv => lhs; rw [← e]
    rw [intT_eq]
    split
    · rename_i k; simp [k]
    · rename_i k; simp [k, natT_head45]
  have hres : isInt (by_ s) = (isNat (by_ t) && decide (¬ (decide ((by_ s).head? = some 45) = true ∧ t = (⟨#[48]⟩ : ByteArray) ∧ True))) := by
    unfold isInt
    by_cases h : (by_ s).head? = some 45
    · have e2 : t = st (by_ s).tail := by rw [ht, if_pos h]
      rw [if_pos h, e2, by_st]
      congr 1
      by_cases h3 : (by_ s).tail = [48]
      · simp [h, h3]; rfl
      · have : st (by_ s).tail ≠ (⟨#[48]⟩ : ByteArray) := fun k => h3 (st_inj (k.trans rfl : st (by_ s).tail = st [48]))
        simp [h, h3, this]
    · have e2 : t = s := by rw [ht, if_neg h]
      rw [if_neg h, e2]
      simp [h]
  refine ⟨_, rfl, fun h => ?_, fun h => ?_⟩
  · rw [h, Bool.true_and] at hres
    have fin : ∀ w', (fun v (_ : World) => ∃ b t, v = Value.tuple #[.agg #[.bool b, .string t], .bool (isInt (by_ s))] ∧ (isInt (by_ s) = true → b = decide (valI (by_ s) < 0) ∧ t = nS (valI (by_ s)).natAbs)) (.tuple #[(.agg #[(.bool (decide ((by_ s).head? = some 45))), (.string t)]), (.bool (decide (¬ (decide ((by_ s).head? = some 45) = true ∧ t = (⟨#[48]⟩ : ByteArray) ∧ True))))]) w' :=
      fun w' => ⟨_, _, by rw [hres], fun hi => ⟨hneg hi, (hval h).2⟩⟩
    exact ⟨fun w5 _ => fin w5, fun w5 _ => fin w5⟩
  · rw [h, Bool.false_and] at hres
    have fin : ∀ w', (fun v (_ : World) => ∃ b t, v = Value.tuple #[.agg #[.bool b, .string t], .bool (isInt (by_ s))] ∧ (isInt (by_ s) = true → b = decide (valI (by_ s) < 0) ∧ t = nS (valI (by_ s)).natAbs)) (.tuple #[(.agg #[(.bool (decide ((by_ s).head? = some 45))), (.string t)]), (.bool false)]) w' :=
      fun w' => ⟨_, _, by rw [hres], fun hi => by rw [hres] at hi; cases hi⟩
    exact ⟨fun w5 _ => fin w5, fun w5 _ => fin w5⟩

theorem size_iS_le {z : Int} (h : z.natAbs < Lim) : (iS z).size < 2147483648 := by
  rw [lim_eq] at h
  have k := klim
  have := intT_length_le h (by omega)
  show (intT z).length < _
  omega
theorem integer_read_ok {z : Int} (h : z.natAbs < Lim) (w : World) : Pure Tryz.prog 130 #[.string (iS z)] w fun v _ => v = .tuple #[iV z, .bool true] := by
  refine Pure.mono (integer_read _ (size_iS_le h) w) ?_
  rintro v w2 _ ⟨b, t, rfl, hv⟩
  rw [by_iS, intT_isInt, intT_val] at *
  obtain ⟨rfl, rfl⟩ := hv rfl
  rfl
theorem integer_Valid (s : ByteArray) (hs : s.size < 2147483648) (w : World) : Pure Tryz.prog 113 #[.string s] w fun v _ => v = .bool (isInt (by_ s)) := by
  refine F.integer_Valid.vc _ _ _ (Pure.mono (integer_read s hs w) ?_)
  rintro v w2 _ ⟨b, t, rfl, _⟩
  exact ⟨_, _, _, rfl, fun w3 _ => rfl⟩

theorem integer_both {x y : Int} (hx : x.natAbs < Lim) (hy : y.natAbs < Lim) (w : World) :
    Pure Tryz.prog 138 #[.string (iS x), .string (iS y)] w fun v _ => v = .tuple #[iV x, iV y, .int .i64 0] := by
  refine F.integer_both.vc _ _ _ _ fun w1 _ => Pure.mono (integer_read_ok hx _) ?_
  rintro v w2 _ rfl
  refine ⟨_, _, _, rfl, fun w3 _ => Pure.mono (integer_read_ok hy _) ?_⟩
  rintro v w4 _ rfl
  exact ⟨_, _, _, rfl, fun h => by simp at h, fun _ => ⟨fun h => by simp at h, fun _ => ⟨fun w5 _ => rfl, fun w5 _ => rfl⟩⟩⟩
theorem lim_pos : 0 < Lim := by rw [lim_eq]; exact Nat.pow_pos (by omega)
theorem integer_one {x : Int} (hx : x.natAbs < Lim) (w : World) :
    Pure Tryz.prog 146 #[.string (iS x)] w fun v _ => v = .tuple #[iV x, .int .i64 0] := by
  refine F.integer_one.vc _ _ _ fun w1 _ => ?_
  rw [iS_0]
  refine Pure.mono (integer_both hx (by simpa using lim_pos) _) ?_
  rintro v w2 _ rfl
  exact ⟨_, _, _, _, _, rfl, fun w3 _ => rfl⟩
theorem integer_Sign {x : Int} (hx : x.natAbs < Lim) (w : World) :
    Pure Tryz.prog 137 #[.string (iS x)] w fun v _ => v = .tuple #[.int .i64 x.sign, .int .i64 0] := by
  refine F.integer_Sign.vc _ _ _ (Pure.mono (integer_one hx w) ?_)
  rintro v w2 _ rfl
  refine ⟨_, _, _, rfl, fun w3 _ => Pure.mono (integer_sign _ _) ?_⟩
  rintro v w4 _ rfl
  exact ⟨_, rfl, rfl⟩
theorem integer_Abs {x : Int} (hx : x.natAbs < Lim) (w : World) :
    Pure Tryz.prog 131 #[.string (iS x)] w fun v _ => v = .tuple #[.string (nS x.natAbs), .int .i64 0] := by
  refine F.integer_Abs.vc _ _ _ (Pure.mono (integer_one hx w) ?_)
  rintro v w2 _ rfl
  exact ⟨_, _, _, rfl, fun h => absurd rfl h, fun _ w3 _ => rfl⟩
theorem integer_Neg {x : Int} (hx : x.natAbs < Lim) (w : World) :
    Pure Tryz.prog 199 #[.string (iS x)] w fun v _ => v = .tuple #[.string (iS (-x)), .int .i64 0] := by
  refine F.integer_Neg.vc _ _ _ (Pure.mono (integer_one hx w) ?_)
  rintro v w2 _ rfl
  refine ⟨_, _, _, rfl, fun h => absurd rfl h, fun _ w3 _ => Pure.mono (integer_opposite _ _) ?_⟩
  rintro v w4 _ rfl
  refine ⟨_, _, rfl, Pure.mono (integer_text (by rw [Int.natAbs_neg]; exact hx) _) ?_⟩
  rintro v w5 _ rfl
  exact ⟨_, rfl, rfl⟩
theorem integer_Add {w : World} {x y : Int} (hg : Glob w) (hx : x.natAbs < Lim) (hy : y.natAbs < Lim) (hxy : (x + y).natAbs < Lim) :
    Pure Tryz.prog 197 #[.string (iS x), .string (iS y)] w fun v _ => v = .tuple #[.string (iS (x + y)), .int .i64 0] := by
  refine F.integer_Add.vc _ _ _ _ (Pure.mono (integer_both hx hy w) ?_)
  rintro v w2 hb2 rfl
  refine ⟨_, _, _, _, _, rfl, fun h => absurd rfl h, fun _ w3 e3 => Pure.mono (integer_plus (hg.next (kE hb2 e3)) hx hy) ?_⟩
  rintro v w4 _ rfl
  refine ⟨_, _, rfl, Pure.mono (integer_text hxy _) ?_⟩
  rintro v w5 _ rfl
  exact ⟨_, rfl, rfl⟩
theorem integer_Mul {w : World} {x y : Int} (hg : Glob w) (hx : x.natAbs < Lim) (hy : y.natAbs < Lim) (hxy : (x * y).natAbs < Lim) :
    Pure Tryz.prog 122 #[.string (iS x), .string (iS y)] w fun v _ => v = .tuple #[.string (iS (x * y)), .int .i64 0] := by
  refine F.integer_Mul.vc _ _ _ _ (Pure.mono (integer_both hx hy w) ?_)
  rintro v w2 hb2 rfl
  refine ⟨_, _, _, _, _, rfl, fun h => absurd rfl h, fun _ w3 e3 => Pure.mono (integer_times (hg.next (kE hb2 e3)) hx hy) ?_⟩
  rintro v w4 _ rfl
  refine ⟨_, _, rfl, Pure.mono (integer_text hxy _) ?_⟩
  rintro v w5 _ rfl
  exact ⟨_, rfl, rfl⟩
theorem integer_Compare {w : World} {x y : Int} (hg : Glob w) (hx : x.natAbs < Lim) (hy : y.natAbs < Lim) :
    Pure Tryz.prog 123 #[.string (iS x), .string (iS y)] w fun v _ => v = .tuple #[.int .i64 (x - y).sign, .int .i64 0] := by
  refine F.integer_Compare.vc _ _ _ _ (Pure.mono (integer_both hx hy w) ?_)
  rintro v w2 hb2 rfl
  refine ⟨_, _, _, _, _, rfl, fun w3 e3 => Pure.mono (integer_opposite _ _) ?_⟩
  rintro v w4 hb4 rfl
  refine ⟨_, _, rfl, Pure.mono (integer_plus (hg.next (kP (kE hb2 e3) hb4)) hx (by rw [Int.natAbs_neg]; exact hy)) ?_⟩
  rintro v w5 _ rfl
  refine ⟨_, _, rfl, Pure.mono (integer_sign _ _) ?_⟩
  rintro v w6 _ rfl
  refine ⟨_, rfl, ?_⟩
  rw [Int.sub_eq_add_neg]

theorem integer_divide {w : World} {x : Int} {d : Nat} (hg : Glob w) (hx : x.natAbs < Lim) (hd : d < Lim) (hd0 : d ≠ 0) :
    Pure Tryz.prog 238 #[iV x, iV (d : Int)] w fun v _ => v = .tuple #[iV (x / (d : Int)), iV (x % (d : Int))] := by
  have hdn : decide ((d : Int) < 0) = false := by simp
  have hda : ((d : Int)).natAbs = d := by simp
  have hdp : (0 : Int) < (d : Int) := by omega
  refine F.integer_number_divide.vc _ _ _ _ _ _ fun w1 e1 => ?_
  rw [hda]
  refine Pure.mono (natural_DivMod (hg.next (k0 e1)) hx hd hd0) ?_
  rintro v w2 hb2 rfl
  have hb := kP (k0 e1) hb2
  have hm := Nat.mod_lt x.natAbs (show 0 < d by omega)
  have hdm := Nat.div_add_mod x.natAbs d
  obtain ⟨q, hq⟩ : ∃ q, q = x.natAbs / d := ⟨_, rfl⟩
  obtain ⟨r, hr⟩ : ∃ r, r = x.natAbs % d := ⟨_, rfl⟩
  rw [← hq, ← hr] at hdm
  rw [← hr] at hm
  have hql : q ≤ x.natAbs := by rw [hq]; exact Nat.div_le_self _ _
  rw [← hq, ← hr]
  have hcast : ((d * q : Nat) : Int) = (d : Int) * (q : Int) := by simp
  have pos : 0 ≤ x → x / (d : Int) = (q : Int) ∧ x % (d : Int) = (r : Int) := fun h => by
    rw [Int.ediv_emod_unique hdp]
    omega
  have neg0 : x < 0 → r = 0 → x / (d : Int) = -(q : Int) ∧ x % (d : Int) = (r : Int) := fun h h2 => by
    rw [Int.ediv_emod_unique hdp, Int.mul_neg]
    omega
  have neg1 : x < 0 → r ≠ 0 → x / (d : Int) = -((q + 1 : Nat) : Int) ∧ x % (d : Int) = ((d - r : Nat) : Int) := fun h h2 => by
    have e : (d : Int) * ((q + 1 : Nat) : Int) = (d : Int) * (q : Int) + d := by grind
    rw [Int.ediv_emod_unique hdp, Int.mul_neg, e]
    omega
  refine ⟨_, _, _, rfl, fun h => ⟨fun h1 => ?_, fun h1 => ?_⟩, fun h => ?_⟩
  · have hx0 : x < 0 := by simpa using h
    have hr0 : r ≠ 0 := fun k => by rw [k, nS_0] at h1; exact h1 rfl
    obtain ⟨eq1, eq2⟩ := neg1 hx0 hr0
    rw [nS_1]
    refine Pure.mono (natural_Add (hg.next hb) (Nat.lt_of_le_of_lt hql hx) ?_) ?_
    · rw [lim_eq]; exact Nat.lt_of_lt_of_le (by omega) (Nat.pow_le_pow_right (n := 10) (by omega) (show 1 ≤ 9 * KLim by have := klim; omega))
    rintro v w3 hb3 rfl
    refine ⟨_, _, rfl, Pure.mono (natural_Sub (hg.next (kP hb hb3)) hd (Nat.le_of_lt hm)) ?_⟩
    rintro v w4 _ rfl
    refine ⟨_, _, rfl, Pure.mono (integer_with _ _ _) ?_⟩
    rintro v w5 _ rfl
    refine ⟨_, _, rfl, Pure.mono (integer_with _ _ _) ?_⟩
    rintro v w6 _ rfl
    refine ⟨_, _, rfl, fun w7 _ => ?_⟩
    rw [eq1, eq2]
    simp [hx0]
  · have hx0 : x < 0 := by simpa using h
    have hr0 : r = 0 := by
      apply Decidable.byContradiction
      intro k
      rw [nS_0] at h1
      exact h1 fun e => k (nS_inj e)
    obtain ⟨eq1, eq2⟩ := neg0 hx0 hr0
    refine Pure.mono (integer_with _ _ _) ?_
    rintro v w5 _ rfl
    refine ⟨_, _, rfl, Pure.mono (integer_with _ _ _) ?_⟩
    rintro v w6 _ rfl
    refine ⟨_, _, rfl, fun w7 _ => ?_⟩
    rw [eq1, eq2]
    simp [hx0]
  · have hx0 : ¬ x < 0 := by simpa using h
    obtain ⟨eq1, eq2⟩ := pos (by omega)
    refine Pure.mono (integer_with _ _ _) ?_
    rintro v w5 _ rfl
    refine ⟨_, _, rfl, Pure.mono (integer_with _ _ _) ?_⟩
    rintro v w6 _ rfl
    refine ⟨_, _, rfl, fun w7 _ => ?_⟩
    rw [eq1, eq2]
    simp [hx0]

theorem natAbs_ediv_le (x : Int) (d : Nat) : (x / (d : Int)).natAbs ≤ x.natAbs := Int.natAbs_ediv_le_natAbs _ _
theorem integer_DivMod {w : World} {x : Int} {d : Nat} (hg : Glob w) (hx : x.natAbs < Lim) (hd : d < Lim) (hd0 : d ≠ 0) :
    Pure Tryz.prog 220 #[.string (iS x), .string (nS d)] w fun v _ => v = .tuple #[.string (iS (x / (d : Int))), .string (nS (x % (d : Int)).toNat), .int .i64 0] := by
  have hda : ((d : Int)).natAbs = d := by simp
  have hm0 := Int.emod_nonneg x (show (d : Int) ≠ 0 by omega)
  have hm1 := Int.emod_lt_of_pos x (show (0 : Int) < d by omega)
  rw [← iS_nat]
  refine F.integer_DivMod.vc _ _ _ _ (Pure.mono (integer_both hx (by rw [hda]; exact hd) w) ?_)
  rintro v w2 hb2 rfl
  refine ⟨_, _, _, _, _, rfl, fun h => absurd rfl h, fun _ w3 e3 => Pure.mono (integer_zero _) ?_⟩
  rintro v w4 hb4 rfl
  refine ⟨_, _, rfl, fun h => ?_, fun _ => Pure.mono (integer_divide (hg.next (kP (kE hb2 e3) hb4)) hx hd hd0) ?_⟩
  · have := nS_inj h.2.1
    omega
  rintro v w5 _ rfl
  refine ⟨_, _, _, _, rfl, fun w6 _ => Pure.mono (integer_text (Nat.lt_of_le_of_lt (natAbs_ediv_le _ _) hx) _) ?_⟩
  rintro v w7 _ rfl
  refine ⟨_, rfl, Pure.mono (integer_text (by omega) _) ?_⟩
  rintro v w8 _ rfl
  refine ⟨_, rfl, ?_⟩
  rw [← iS_nat, Int.toNat_of_nonneg hm0]
end Go.Proofs.YtdoailkigecmkaaGreatDoor.B
