/- Part 9 of the proofs that: a claim about cargo holds -/
import Derived.Test.YtdnelnicnjplpaaGreatDoorA8
import Derived.Test.YtdnelnicnjplpaaGreatDoorProg
set_option linter.unusedVariables false
set_option linter.unusedSimpArgs false
namespace Go.Proofs.YtdnelnicnjplpaaGreatDoor.B
open Go Go.RowKit Go.Proofs Go.Proofs.YtdnelnicnjplpaaGreatDoor.Vc

section
variable {w1 : World} {B : Nat} {Au Av : Option Addr} {nu cu nv cv : Nat} {vs : List Nat} {R : Value → World → Prop}

theorem apart_none : Apart Au none := fun _ _ _ h => by cases h

theorem red_L21 (hn : nu ≤ 1000000) (hv : SlU w1 Av vs) (hvl : vs.length = nv) (hsv : Small vs) (hsep : Sep Av Au none nu cu 0 0) {pre D0 : List Nat} {g j : Nat} (hj : pre.length = j) (hk : nv < D0.length) (hg : 1 ≤ g) (hg2 : g ≤ 1000000000)
    (hR : ∀ w D (up : Nat), up ≤ 1 → D.length = D0.length → D.drop nv = D0.drop nv → wv D + 1000000000 ^ nv * up = wv D0 + wv vs →
      Div w1 w B Au nu cu (pre ++ D.set nv ((D0.getD nv 0 + up) % 1000000000)) none 0 0 [] → R (.int .u32 ((g : Int) - 1)) w) :
    ∀ (d i : Nat) (w : World) (D : List Nat) (up : Nat), nv - i = d → i ≤ nv → Div w1 w B Au nu cu (pre ++ D) none 0 0 [] → D.length = D0.length → up ≤ 1 → D.drop nv = D0.drop nv → wv D + 1000000000 ^ i * up = wv D0 + wv (vs.take i) →
      F.garboardref01_reduce.L21 Au nu cu Av nv cv j g nv up i B w R := by
  intro d
  induction d with
  | zero =>
    intro i w D up hd hi h hl hu hk2 he
    have hin : i = nv := by omega
    subst hin
    have hul := h.u.len
    have hul2 := hul
    simp only [List.length_append] at hul
    have gu := h.su.getD (i + j)
    rw [app_getD hj] at gu
    rw [List.take_of_length_le (by omega)] at he
    have e2 : ((j : Int) + (i : Int)).toNat = i + j := by omega
    have hg5 := getD_of_drop hk2
    have hval : (pre ++ D).getD ((j : Int) + (i : Int)).toNat 0 = D0.getD i 0 := by rw [e2, app_getD hj, hg5]
    rw [hg5] at gu
    refine F.garboardref01_reduce.L21.step _ _ _ _ _ _ _ _ _ _ _ _ _ _ ⟨fun h => by omega, fun _ => ⟨by simp only [inR]; omega, by simp only [inR]; omega, ?_⟩⟩
    refine h.u.sl.load hul2 (by omega) (by omega) ?_
    rw [hval]
    refine ⟨by simp only [inR]; omega, by omega, ?_⟩
    refine h.storeU apart_none (by omega) (by omega) (by omega) (by omega) fun w2 h2 => ⟨by simp only [inR]; omega, by simp only [inR]; omega, ?_⟩
    have e4 : (((D0.getD i 0 : Nat) : Int) + (up : Int)) % 1000000000 = (((D0.getD i 0 + up) % 1000000000 : Nat) : Int) := by omega
    rw [e4, e2, Int.toNat_natCast, app_set hj] at h2
    exact hR w2 D up hu hl hk2 he h2
  | succ d ih =>
    intro i w D up hd hi h hl hu hk2 he
    have hul := h.u.len
    have hul2 := hul
    simp only [List.length_append] at hul
    have gv := hsv.getD i
    have gu := h.su.getD (i + j)
    have e2 : ((j : Int) + (i : Int)).toNat = i + j := by omega
    rw [app_getD hj] at gu
    have hval : (pre ++ D).getD ((j : Int) + (i : Int)).toNat 0 = D.getD i 0 := by rw [e2, app_getD hj]
    obtain ⟨t, ht⟩ : ∃ t, t = up + (D.getD i 0 + vs.getD i 0) := ⟨_, rfl⟩
    have et : ((D.getD i 0 : Nat) : Int) + ((vs.getD i 0 : Nat) : Int) + (up : Int) = (t : Int) := by omega
    refine F.garboardref01_reduce.L21.step _ _ _ _ _ _ _ _ _ _ _ _ _ _ ⟨fun _ => ⟨by simp only [inR]; omega, ?_⟩, fun h => by omega⟩
    refine h.u.sl.load hul2 (by omega) (by omega) ?_
    rw [hval]
    refine (h.sl hv hsep).load hvl (by omega) (by omega) ?_
    rw [Int.toNat_natCast, et]
    refine ⟨by simp only [inR]; omega, by simp only [inR]; omega, by simp only [inR]; omega, by omega, ?_⟩
    have hown : ∃ a, Au = some a := by
      obtain ⟨a, hA, _⟩ := h.u.sl.cell (j := (j : Int) + i) (by omega) (by omega)
      exact ⟨a, hA⟩
    obtain ⟨a, rfl⟩ := hown
    have step : ∀ w3, Div w1 w3 B (some a) nu cu ((pre ++ D).set ((j : Int) + (i : Int)).toNat ((t : Int) % 1000000000).toNat) none 0 0 [] →
        F.garboardref01_reduce.L21 (some a) nu cu Av nv cv j g nv ((t : Int) / 1000000000) ((i : Int) + 1) B w3 R := by
      intro w3 h3
      have e3 : (i : Int) + 1 = ((i + 1 : Nat) : Int) := by omega
      have e4 : ((t : Int) % 1000000000).toNat = t % 1000000000 := by omega
      have e5 : (t : Int) / 1000000000 = ((t / 1000000000 : Nat) : Int) := by omega
      rw [e2, e4, app_set hj] at h3
      rw [e3, e5]
      refine ih (i + 1) w3 _ _ (by omega) (by omega) h3 (by simpa using hl) (by omega) (by rw [List.drop_set, if_pos (by omega)]; exact hk2) ?_
      rw [wv_take_succ, Nat.pow_succ]
      exact add_word he (wv_set D i _ (by omega)) (by rw [ht]) (by rw [ht])
    refine ⟨⟨by omega, by omega⟩, a, rfl, fun w2 e => ?_⟩
    obtain ⟨_, a', ea, hst'⟩ := (h.ext e).storeU apart_none (j := (j : Int) + (i : Int)) (x := (t : Int) % 1000000000) (by omega) (by omega) (by omega) (by omega) (K := fun w3 => (0 ≤ (t : Int) ∧ 0 < (1000000000 : Int) ∧ inR .u32 (t : Int)) ∧ inR .i64 ((i : Int) + 1) ∧
      F.garboardref01_reduce.L21 (some a) nu cu Av nv cv j g nv ((t : Int) / 1000000000) ((i : Int) + 1) B w3 R) (fun w3 h3 => ⟨⟨by omega, by omega, by simp only [inR]; omega⟩, by simp only [inR]; omega, step w3 h3⟩)
    cases ea
    exact hst'

theorem red_L5 (hn : nu ≤ 1000000) (hv : SlU w1 Av vs) (hvl : vs.length = nv) (hsv : Small vs) (hsep : Sep Av Au none nu cu 0 0) {pre D0 : List Nat} {g j : Nat} (hj : pre.length = j) (hk : nv < D0.length) (hg : g ≤ 1000000000)
    (hR : ∀ w D (c br : Nat), Div w1 w B Au nu cu (pre ++ D) none 0 0 [] → D.length = D0.length → c < 1000000000 → br ≤ 1 → D.drop nv = D0.drop nv → wv D + g * wv vs = wv D0 + 1000000000 ^ nv * (c + br) →
      ((D0.getD nv 0 : Nat) - (c : Int) - (br : Int) ≥ 0 → ∀ w2, Div w1 w2 B Au nu cu (pre ++ D.set nv ((D0.getD nv 0 : Nat) - (c : Int) - (br : Int)).toNat) none 0 0 [] → R (.int .u32 (g : Int)) w2) ∧
      (¬ ((D0.getD nv 0 : Nat) - (c : Int) - (br : Int) ≥ 0) → ∀ w2, Div w1 w2 B Au nu cu (pre ++ D.set nv ((D0.getD nv 0 : Nat) - (c : Int) - (br : Int) + 1000000000).toNat) none 0 0 [] → F.garboardref01_reduce.L21 Au nu cu Av nv cv j g nv 0 0 B w2 R)) :
    ∀ (d i : Nat) (w : World) (D : List Nat) (c br : Nat), nv - i = d → i ≤ nv → Div w1 w B Au nu cu (pre ++ D) none 0 0 [] → D.length = D0.length → c < 1000000000 → br ≤ 1 → D.drop nv = D0.drop nv → wv D + g * wv (vs.take i) = wv D0 + 1000000000 ^ i * (c + br) →
      F.garboardref01_reduce.L5 Au nu cu Av nv cv j g nv br c i B w R := by
  intro d
  induction d with
  | zero =>
    intro i w D c br hd hi h hl hc hb hk2 he
    have hin : i = nv := by omega
    subst hin
    have hul := h.u.len
    have hul2 := hul
    simp only [List.length_append] at hul
    have gu := h.su.getD (i + j)
    rw [app_getD hj] at gu
    rw [List.take_of_length_le (by omega)] at he
    have e2 : ((j : Int) + (i : Int)).toNat = i + j := by omega
    have hr := hR w D c br h hl hc hb hk2 he
    have hg5 := getD_of_drop hk2
    rw [hg5] at gu
    have hval : (pre ++ D).getD ((j : Int) + (i : Int)).toNat 0 = D0.getD i 0 := by rw [e2, app_getD hj, hg5]
    refine F.garboardref01_reduce.L5.step _ _ _ _ _ _ _ _ _ _ _ _ _ _ _ ⟨fun h => by omega, fun _ => ⟨by simp only [inR]; omega, ?_⟩⟩
    refine h.u.sl.load hul2 (by omega) (by omega) ?_
    rw [hval]
    refine ⟨by simp only [inR]; omega, by simp only [inR]; omega, by simp only [inR]; omega, by simp only [inR]; omega, fun h0 => ⟨by simp only [inR]; omega, by simp only [inR]; omega, ?_⟩, fun h0 => ⟨by simp only [inR]; omega, by simp only [inR]; omega, by simp only [inR]; omega, ?_⟩⟩
    · refine h.storeU apart_none (by omega) (by omega) (by omega) (by omega) fun w2 h2 => ⟨by simp only [inR]; omega, ?_⟩
      rw [e2, app_set hj] at h2
      exact hr.1 h0 w2 h2
    · refine h.storeU apart_none (by omega) (by omega) (by omega) (by omega) fun w2 h2 => ?_
      rw [e2, app_set hj] at h2
      exact hr.2 h0 w2 h2
  | succ d ih =>
    intro i w D c br hd hi h hl hc hb hk2 he
    have hul := h.u.len
    have hul2 := hul
    simp only [List.length_append] at hul
    have gv := hsv.getD i
    have gu := h.su.getD (i + j)
    have e2 : ((j : Int) + (i : Int)).toNat = i + j := by omega
    rw [app_getD hj] at gu
    have hval : (pre ++ D).getD ((j : Int) + (i : Int)).toNat 0 = D.getD i 0 := by rw [e2, app_getD hj]
    have e3 : (i : Int) + 1 = ((i + 1 : Nat) : Int) := by omega
    have hgv : g * vs.getD i 0 ≤ 1000000000 * 999999999 := Nat.mul_le_mul hg (by omega)
    obtain ⟨p, hp⟩ : ∃ p, p = g * vs.getD i 0 + c := ⟨_, rfl⟩
    have ep : (g : Int) * (vs.getD i 0 : Nat) = ((g * vs.getD i 0 : Nat) : Int) := by simp
    have ep2 : ((g * vs.getD i 0 : Nat) : Int) + (c : Int) = (p : Int) := by omega
    have e5 : (p : Int) / 1000000000 = ((p / 1000000000 : Nat) : Int) := by omega
    have next : ∀ (br' x : Nat) w2, br' ≤ 1 → x + p % 1000000000 + br = D.getD i 0 + 1000000000 * br' → Div w1 w2 B Au nu cu ((pre ++ D).set (i + j) x) none 0 0 [] →
        F.garboardref01_reduce.L5 Au nu cu Av nv cv j g nv br' ((p / 1000000000 : Nat) : Int) ((i : Int) + 1) B w2 R := by
      intro br' x w2 hb' hx h2
      rw [app_set hj] at h2
      rw [e3]
      refine ih (i + 1) w2 _ _ br' (by omega) (by omega) h2 (by simpa using hl) (by omega) hb' (by rw [List.drop_set, if_pos (by omega)]; exact hk2) ?_
      rw [wv_take_succ, Nat.pow_succ]
      exact sub_word he (wv_set D i x (by omega)) (by rw [← hp]; exact hx) (by rw [← hp])
    refine F.garboardref01_reduce.L5.step _ _ _ _ _ _ _ _ _ _ _ _ _ _ _ ⟨fun _ => ?_, fun h => by omega⟩
    refine (h.sl hv hsep).load hvl (by omega) (by omega) ?_
    rw [Int.toNat_natCast, ep, ep2, e5]
    refine ⟨by simp only [inR]; omega, by simp only [inR]; omega, by simp only [inR]; omega, ⟨by omega, by omega, by simp only [inR]; omega⟩, by simp only [inR]; omega, ?_⟩
    refine h.u.sl.load hul2 (by omega) (by omega) ?_
    rw [hval]
    refine ⟨by simp only [inR]; omega, by omega, by simp only [inR]; omega, by simp only [inR]; omega, by simp only [inR]; omega, fun h0 => ⟨by simp only [inR]; omega, by simp only [inR]; omega, by simp only [inR]; omega, ?_⟩, fun h0 => ⟨by simp only [inR]; omega, by simp only [inR]; omega, ?_⟩⟩
    · refine h.storeU apart_none (by omega) (by omega) (by omega) (by omega) fun w2 h2 => ⟨by simp only [inR]; omega, ?_⟩
      rw [e2] at h2
      exact next 1 _ w2 (by omega) (by omega) h2
    · refine h.storeU apart_none (by omega) (by omega) (by omega) (by omega) fun w2 h2 => ⟨by simp only [inR]; omega, ?_⟩
      rw [e2] at h2
      exact next 0 _ w2 (by omega) (by omega) h2
end

theorem ref_reduce {w : World} {B : Nat} {Au Av : Option Addr} {nu cu nv cv : Nat} {vs pre D : List Nat} {g j q : Nat} (hB : B ≤ w.heap.size) (hn : nu ≤ 1000000) (hu : OwnU w B Au nu cu (pre ++ D)) (hsu : Small (pre ++ D)) (hv : SlU w Av vs) (hvl : vs.length = nv) (hsv : Small vs)
    (hvu : ∀ a b, Av = some a → Au = some b → a.block ≠ b.block) (hj : pre.length = j) (hk : nv < D.length) (hg : g ≤ 1000000000) (hqg : q ≤ g) (hq1 : q * wv vs ≤ wv D) (hq2 : wv D < q * wv vs + wv vs) (hgV : g * wv vs < wv D + wv vs) (hT : wv D < 1000000000 ^ (nv + 1)) (hV : wv vs < 1000000000 ^ nv) (hqb : q < 1000000000) :
    PureB Tryz.prog 132 #[.slice Au nu cu, .slice Av nv cv, .int .i64 (j : Int), .int .u64 (g : Int)] B w fun v w' => v = .int .u32 (q : Int) ∧ ∃ D3, D3.length = D.length ∧ wv D3 = wv D - q * wv vs ∧ Div w w' B Au nu cu (pre ++ D3) none 0 0 [] := by
  have hsep : Sep Av Au none nu cu 0 0 := Sep.of hvu fun _ _ _ h => by cases h
  have hVpos : 0 < wv vs := by omega
  have hsD : Small D := fun x hx => hsu x (by simp [hx])
  have gt0 := hsD.getD nv
  have t0 := wv_top (k := nv) (by omega) hsD hT
  have td : wv (D.drop nv) = D.getD nv 0 := by
    have h1 := wv_split D nv (by omega)
    have hp : 0 < 1000000000 ^ nv := Nat.pow_pos (by omega)
    exact Nat.eq_of_mul_eq_mul_left hp (by omega)
  refine F.garboardref01_reduce.vcB _ _ _ _ _ _ _ _ B w hB _ ?_
  refine red_L5 (w1 := w) hn hv hvl hsv hsep hj hk hg (fun w5 D5 c br h5 hl5 hc hbr hk5 he5 => ?_) nv 0 w D 0 0 (by omega) (by omega) ⟨hu, World.ownsRow_nil w _ _ _, hsu, Small.nil, fun _ _ _ _ => rfl, Below.refl _ _⟩ rfl (by omega) (by omega) rfl (by simp [wv])
  have t5 := wv_split D5 nv (by omega)
  have hs5 : Small D5 := fun x hx => h5.su x (by simp [hx])
  have l5 := wv_lt (hs5.take nv)
  rw [List.length_take, Nat.min_eq_left (by omega)] at l5
  rw [hk5, td] at t5
  have hg5 := getD_of_drop hk5
  obtain ⟨P, hP⟩ : ∃ P, P = 1000000000 ^ nv := ⟨_, rfl⟩
  rw [← hP] at t5 l5 he5 hV
  obtain ⟨z, hz⟩ : ∃ z, z = D.getD nv 0 := ⟨_, rfl⟩
  rw [← hz] at t5 hg5 gt0 ⊢
  rw [Nat.mul_add] at he5
  refine ⟨fun hpos w7 h7 => ?_, fun hneg w6 h6 => ?_⟩
  · have hle5 : g * wv vs ≤ wv D := by
      have k1 : P * (c + br) ≤ P * z := Nat.mul_le_mul_left _ (by omega)
      rw [Nat.mul_add] at k1
      omega
    have hq : q = g := by
      rcases Nat.lt_or_ge q g with k | k
      · have := Nat.mul_le_mul_right (wv vs) (show q + 1 ≤ g by omega)
        rw [Nat.add_mul] at this
        omega
      · omega
    subst hq
    refine ⟨rfl, _, by simpa using hl5, ?_, h7⟩
    have hset := wv_set D5 nv (((z : Int) - (c : Int) - (br : Int)).toNat) (by omega)
    rw [hg5, ← hP] at hset
    have e8 : P * (((z : Int) - (c : Int) - (br : Int)).toNat) + (P * c + P * br) = P * z := by
      rw [← Nat.mul_add, ← Nat.mul_add]
      congr 1
      omega
    omega
  · have hlt5 : wv D < g * wv vs := by
      have k1 : P * (z + 1) ≤ P * (c + br) := Nat.mul_le_mul_left _ (by omega)
      rw [Nat.mul_add, Nat.mul_add] at k1
      omega
    have hqg' : q + 1 = g := by
      have k1 : q < g := by
        apply Decidable.byContradiction
        intro k
        have := Nat.mul_le_mul_right (wv vs) (show g ≤ q by omega)
        omega
      apply Decidable.byContradiction
      intro k
      have := Nat.mul_le_mul_right (wv vs) (show q + 2 ≤ g by omega)
      rw [Nat.add_mul] at this
      omega
    obtain ⟨z', hz'⟩ : ∃ z', z' = ((z : Int) - (c : Int) - (br : Int) + 1000000000).toNat := ⟨_, rfl⟩
    rw [← hz'] at h6
    have eg : (g : Int) - 1 = (q : Int) := by omega
    have hset := wv_set D5 nv z' (by omega)
    rw [hg5, ← hP] at hset
    have hset' : (D5.set nv z').getD nv 0 = z' := by rw [List.getD_eq_getElem?_getD, List.getElem?_set_self (by omega)]; rfl
    refine red_L21 hn hv hvl hsv hsep hj (by simpa using (show nv < D5.length by omega)) (by omega) hg (fun w8 D6 up hup hl6 hk6 he6 h8 => ?_) nv 0 w6 _ 0 (by omega) (by omega) h6 rfl (by omega) rfl (by simp [wv])
    rw [eg]
    rw [hset'] at h8
    refine ⟨rfl, _, by simp at hl6; simp [hl6, hl5], ?_, h8⟩
    have hg6 := getD_of_drop hk6
    rw [hset'] at hg6
    have hgV2 : g * wv vs = q * wv vs + wv vs := by rw [← hqg', Nat.add_mul, Nat.one_mul]
    have z1 : wv (D.drop (nv + 1)) = 0 := by
      have := wv_drop D nv
      omega
    have dr : D5.drop (nv + 1) = D.drop (nv + 1) := by
      have := congrArg (List.drop 1) hk5
      rwa [List.drop_drop, List.drop_drop] at this
    have td6 : wv (D6.drop nv) = z' := by
      have := wv_drop (D5.set nv z') nv
      rw [hset', List.drop_set (i := nv + 1), if_pos (by omega), dr, z1] at this
      rw [hk6]
      omega
    have t6 := wv_split D6 nv (by simp at hl6; omega)
    have s6 : Small (D6.take nv) := by
      have e : (D6.set nv ((z' + up) % 1000000000)).take nv = D6.take nv := by
        rw [List.take_set_of_le (by omega)]
      rw [← e]
      exact fun x hx => h8.su x (by simp [List.mem_of_mem_take hx])
    have l6 := wv_lt s6
    rw [List.length_take, Nat.min_eq_left (by simp at hl6; omega), ← hP] at l6
    rw [td6, ← hP] at t6
    rw [← hP] at he6
    have e9 : P * z' + (P * c + P * br) = P * z + P * 1000000000 := by
      rw [← Nat.mul_add, ← Nat.mul_add, ← Nat.mul_add]
      congr 1
      omega
    have key : wv (D6.take nv) + P * (z' + up) = (wv D - q * wv vs) + P * 1000000000 := by rw [Nat.mul_add]; omega
    have hzz : z' + up = 1000000000 := by
      rcases Nat.lt_trichotomy (z' + up) 1000000000 with k | k | k
      · have := Nat.mul_le_mul_left P (show z' + up + 1 ≤ 1000000000 by omega)
        rw [Nat.mul_add] at this
        omega
      · exact k
      · have := Nat.mul_le_mul_left P (show 1000000000 + 1 ≤ z' + up by omega)
        rw [Nat.mul_add] at this
        omega
    have hset2 := wv_set D6 nv 0 (by simp at hl6; omega)
    rw [hg6, ← hP] at hset2
    have e10 : (z' + up) % 1000000000 = 0 := by rw [hzz]
    rw [e10] at h8 ⊢
    rw [hzz] at key
    omega
end Go.Proofs.YtdnelnicnjplpaaGreatDoor.B

namespace Go.Proofs.YtdnelnicnjplpaaGreatDoor.B
open Go Go.RowKit Go.Proofs Go.Proofs.YtdnelnicnjplpaaGreatDoor.Vc

theorem IsN.one {w : World} {A : Option Addr} {n c x : Nat} (h : IsN w A n c x) (h0 : 0 < x) (hx : x < 1000000000) : n = 1 ∧ SlU w A [x] := by
  obtain ⟨ws, h1, h2, h3, h4, h5, h6, rfl⟩ := h
  have hne : ws ≠ [] := fun e => by subst e; simp [wv] at h0
  have hp := wv_pos h6 hne
  have hl : ws.length = 1 := by
    have := List.length_pos_iff.2 hne
    apply Decidable.byContradiction
    intro k
    have : 1000000000 ^ 1 ≤ 1000000000 ^ (ws.length - 1) := Nat.pow_le_pow_right (by omega) (by omega)
    omega
  obtain ⟨z, rfl⟩ := List.length_eq_one_iff.1 hl
  refine ⟨by simpa using h2.symm, ?_⟩
  have e : wv [z] = z := by simp [wv]
  rw [e]
  exact h1

theorem Div.join {w1 w w' : World} {B : Nat} {Au : Option Addr} {nu cu : Nat} {us us' : List Nat} {Aq : Option Addr} {nq cq : Nat} {qs : List Nat} (h : Div w1 w B Au nu cu us Aq nq cq qs) (ha : Apart Au Aq) (k : Div w w' B Au nu cu us' none 0 0 []) : Div w1 w' B Au nu cu us' Aq nq cq qs := by
  have no : ∀ i : Nat, some i ≠ Value.ownBlock (.slice none 0 0) := fun i => by simp [Value.ownBlock]
  refine ⟨k.u, h.q.other fun b hb => k.fr b (h.q.blk b hb).2 (fun e => ?_) (no b), k.su, h.sq, fun i hi h1 h2 => (k.fr i (Nat.lt_of_lt_of_le hi h.below.size) h1 (no i)).trans (h.fr i hi h1 h2), h.below.trans k.below⟩
  cases Au with
  | none => simp [Value.ownBlock] at e
  | some a =>
    cases Aq with
    | none => simp [Value.ownBlock] at hb
    | some a' =>
      simp [Value.ownBlock] at e hb
      exact ha a a' rfl rfl (by omega)

section
variable {w1 : World} {B : Nat} {Af Au Av Aq : Option Addr} {nf cf nu cu nv cv nq cq : Nat} {vs : List Nat} {R : Value → World → Prop}

theorem over_L17 (hn : nu ≤ 1000000) (hv : SlU w1 Av vs) (hvl : vs.length = nv) (hsv : Small vs) (hsep : Sep Av Au Aq nu cu nq cq) (hnv : 2 ≤ nv) {pre D qs : List Nat} {j : Nat} (hj : pre.length = j) (hk : nv < D.length)
    {top low M vl q T V : Nat} (hlow : low < M) (hvlow : vl < M) (hv1 : 1 ≤ vs.getD (nv - 1) 0) (hV : V = (vs.getD (nv - 1) 0 * 1000000000 + vs.getD (nv - 2) 0) * M + vl) (hT : T = (top * 1000000000 + D.getD (nv - 2) 0) * M + low)
    (hqT : q * V ≤ T) (hqb : q < 1000000000)
    (hR : ∀ w (g : Nat), Div w1 w B Au nu cu (pre ++ D) Aq nq cq qs → g ≤ 1000000000 → q ≤ g → g * V < T + V → PureB Tryz.prog 132 #[.slice Au nu cu, .slice Av nv cv, .int .i64 (j : Int), .int .u64 (g : Int)] B w fun r w78 => (∀ (k ty : Nat) (cs : Array Value), ty ∈ ([] : List Nat) → w.heap[k]? = some (.cells cs ty (0, 0)) → w78.heap[k]? = w.heap[k]?) ∧ ∃ (i76 : Int), r = (.int .u32 i76) ∧ ((0 ≤ (j : Int) ∧ (j : Int) < nq) ∧ ∃ a79, Aq = some a79 ∧ (∃ (cs80 : List Value) (t81 : Nat), B ≤ (a79.add (((j : Int)).toNat * 1)).block ∧ (a79.add (((j : Int)).toNat * 1)).spot = none ∧ w78.heap[(a79.add (((j : Int)).toNat * 1)).block]? = some (.cells cs80.toArray t81 (0, 0)) ∧ (a79.add (((j : Int)).toNat * 1)).off + 1 ≤ cs80.length ∧ hasType t81 [] = false ∧ ∀ w82, Wrote w78 w82 (a79.add (((j : Int)).toNat * 1)).block t81 (setCells cs80 (a79.add (((j : Int)).toNat * 1)).off [(.int .u32 i76)]) → (inR .i64 ((j : Int) - (1 : Int)) ∧ (F.garboardref01_Over.L13 nv Af nf cf Av nv cv Au nu cu Aq nq cq ((j : Int) - (1 : Int)) B w82 R))))) :
    ∀ (g rest : Nat) (w : World), Div w1 w B Au nu cu (pre ++ D) Aq nq cq qs → g * vs.getD (nv - 1) 0 + rest = top → q ≤ g → g ≤ 1000000001 → rest < 2000000000 → (rest < 1000000000 ∨ g ≤ 1000000000) →
      F.garboardref01_Over.L17 nv Af nf cf Av nv cv Au nu cu Aq nq cq j g rest B w R := by
  have g1 := hsv.getD (nv - 1)
  have g2 := hsv.getD (nv - 2)
  have ex1 : ((nv : Int) - 1).toNat = nv - 1 := by omega
  have ex2 : ((nv : Int) - 2).toNat = nv - 2 := by omega
  have ex3 : ((j : Int) + (nv : Int) - 2).toNat = (nv - 2) + j := by omega
  intro g
  induction g with
  | zero =>
    intro rest w h ht hq hg hr ho
    have hul := h.u.len
    have hul2 := hul
    simp only [List.length_append] at hul
    have gu := h.su.getD (nv - 2 + j)
    rw [app_getD hj] at gu
    have lt0 : 0 * V < T + V := by
      rw [hT, hV]
      exact guess_le hvlow hv1 ht (by omega) (by omega)
    refine F.garboardref01_Over.L17.step _ _ _ _ _ _ _ _ _ _ _ _ _ _ _ _ _ _ _ ⟨fun hlt => ⟨fun hge => by omega, fun _ => ⟨by simp only [inR]; omega, ?_⟩⟩, fun _ w2 e => hR w2 0 (h.ext e) (by omega) hq lt0⟩
    refine (h.sl hv hsep).load hvl (by omega) (by omega) ?_
    rw [ex2]
    refine ⟨by simp only [inR]; omega, by simp only [inR]; omega, by simp only [inR]; omega, by simp only [inR]; omega, by simp only [inR]; omega, ?_⟩
    refine h.u.sl.load hul2 (by omega) (by omega) ?_
    rw [ex3, app_getD hj]
    exact ⟨by simp only [inR]; omega, by simp only [inR]; omega, fun h0 => by omega, fun h0 w2 e => hR w2 0 (h.ext e) (by omega) hq lt0⟩
  | succ g ih =>
    intro rest w h ht hq hg hr ho
    have hul := h.u.len
    have hul2 := hul
    simp only [List.length_append] at hul
    have gu := h.su.getD (nv - 2 + j)
    rw [app_getD hj] at gu
    have eg : ((g + 1 : Nat) : Int) - 1 = (g : Int) := by omega
    have hgv : (g + 1) * vs.getD (nv - 2) 0 ≤ 1000000001 * 1000000000 := Nat.mul_le_mul (by omega) (by omega)
    have ep : ((g + 1 : Nat) : Int) * (vs.getD (nv - 2) 0 : Nat) = (((g + 1) * vs.getD (nv - 2) 0 : Nat) : Int) := by simp
    have next : q ≤ g → rest < 1000000000 → ∀ w2, Ext B [] w w2 → inR .u64 ((vs.getD (nv - 1) 0 : Nat) : Int) ∧ inR .u64 ((rest : Int) + (vs.getD (nv - 1) 0 : Nat)) ∧
        F.garboardref01_Over.L17 nv Af nf cf Av nv cv Au nu cu Aq nq cq j g ((rest : Int) + (vs.getD (nv - 1) 0 : Nat)) B w2 R := by
      intro hqg hrl w2 e
      have ht2 : g * vs.getD (nv - 1) 0 + (rest + vs.getD (nv - 1) 0) = top := by rw [Nat.add_mul] at ht; omega
      exact ⟨by simp only [inR]; omega, by simp only [inR]; omega, ih (rest + vs.getD (nv - 1) 0) w2 (h.ext e) ht2 hqg (by omega) (by omega) (by omega)⟩
    refine F.garboardref01_Over.L17.step _ _ _ _ _ _ _ _ _ _ _ _ _ _ _ _ _ _ _ ⟨fun hlt => ⟨fun hge => ⟨by simp only [inR]; omega, by simp only [inR]; omega, ?_⟩, fun hg2 => ⟨by simp only [inR]; omega, ?_⟩⟩, fun hnot w2 e => hR w2 (g + 1) (h.ext e) (by omega) hq ?_⟩
    · rw [eg]
      refine (h.sl hv hsep).load2 hvl (by omega) (by omega) fun w2 e => ?_
      rw [ex1]
      exact next (by omega) (by omega) w2 e
    · refine (h.sl hv hsep).load hvl (by omega) (by omega) ?_
      rw [ex2, ep]
      refine ⟨by simp only [inR]; omega, by simp only [inR]; omega, by simp only [inR]; omega, by simp only [inR]; omega, by simp only [inR]; omega, ?_⟩
      refine h.u.sl.load hul2 (by omega) (by omega) ?_
      rw [ex3, app_getD hj, eg]
      refine ⟨by simp only [inR]; omega, by simp only [inR]; omega, fun h1 => ⟨by simp only [inR]; omega, by simp only [inR]; omega, ?_⟩, fun h1 w2 e => hR w2 (g + 1) (h.ext e) (by omega) hq ?_⟩
      · refine (h.sl hv hsep).load2 hvl (by omega) (by omega) fun w2 e => ?_
        rw [ex1]
        refine next ?_ (by omega) w2 e
        rw [hT, hV] at hqT
        have := guess_gt hlow hqT ht hq (by omega)
        omega
      · rw [hT, hV]
        exact guess_le hvlow hv1 ht (by omega) (by omega)
    · rw [hT, hV]
      have h4 : (g + 1) * vs.getD (nv - 2) 0 ≤ 1000000000 * 1000000000 := Nat.mul_le_mul (by omega) (by omega)
      exact guess_le hvlow hv1 ht (by omega) (by omega)

set_option maxHeartbeats 2000000 in
theorem over_L13 (ha : Apart Au Aq) (hn : nu ≤ 1000000) (hB : B ≤ w1.heap.size) (hv : SlU w1 Av vs) (hvl : vs.length = nv) (hsv : Small vs) (hsep : Sep Av Au Aq nu cu nq cq) (hvu : ∀ a b, Av = some a → Au = some b → a.block ≠ b.block) (hnv : 2 ≤ nv) (hnq : nu = nq + nv) (hhalf : 1000000000 ≤ 2 * vs.getD (nv - 1) 0)
    {f : Nat} (hf : SlU w1 Af [f]) (hnf : nf = 1) (hsepf : Sep Af Au Aq nu cu nq cq) (hf0 : 0 < f) (hf1 : f < 1000000000) {U0 : Nat}
    (hR : ∀ A n c A' n' c' w, IsN w A n c (U0 / wv vs) → IsN w A' n' c' (U0 % wv vs / f) → R (.tuple #[.slice A n c, .slice A' n' c']) w) :
    ∀ (i : Nat) (w : World) (us qs : List Nat), i ≤ nq → Div w1 w B Au nu cu us Aq nq cq qs → wv (us.drop i) < wv vs → wv (qs.drop i) * wv vs * 1000000000 ^ i + wv us = U0 →
      F.garboardref01_Over.L13 nv Af nf cf Av nv cv Au nu cu Aq nq cq ((i : Int) - 1) B w R := by
  obtain ⟨kk, rfl⟩ : ∃ kk, nv = kk + 2 := ⟨nv - 2, by omega⟩
  have hVlt : wv vs < 1000000000 ^ (kk + 2) := by have := wv_lt hsv; rwa [hvl] at this
  obtain ⟨hV, hvlow⟩ := words2 hvl hsv
  have ev1 : kk + 2 - 1 = kk + 1 := by omega
  have g1 := hsv.getD (kk + 1)
  have g2 := hsv.getD kk
  rw [ev1] at hhalf
  intro i
  induction i with
  | zero =>
    intro w us qs hi h hlt he
    have hul := h.u.len
    have hcap := h.u.cap
    simp only [List.drop_zero, Nat.pow_zero, Nat.mul_one] at hlt he
    have ediv : U0 / wv vs = wv qs := by rw [← he, Nat.mul_comm, Nat.mul_add_div (by omega), Nat.div_eq_of_lt hlt, Nat.add_zero]
    have emod : U0 % wv vs = wv us := by rw [← he, Nat.mul_comm, Nat.mul_add_mod, Nat.mod_eq_of_lt hlt]
    rw [ediv, emod] at hR
    have etake : wv (us.take (kk + 2)) = wv us := by
      have h1 := wv_split us (kk + 2) (by omega)
      have h2 : wv (us.drop (kk + 2)) = 0 := by
        apply Decidable.byContradiction
        intro h3
        have h4 : 1000000000 ^ (kk + 2) * 1 ≤ 1000000000 ^ (kk + 2) * wv (us.drop (kk + 2)) := Nat.mul_le_mul_left _ (by omega)
        omega
      rw [h2] at h1
      omega
    refine F.garboardref01_Over.L13.step _ _ _ _ _ _ _ _ _ _ _ _ _ _ _ _ _ ⟨fun h => by omega, fun _ => ⟨⟨by omega, by omega⟩, ?_⟩⟩
    refine (h.sl hf hsepf).load (n := nf) (by rw [hnf]; rfl) (by omega) (by omega) fun w2 e2 => ?_
    have h2 := h.ext e2
    have e3 : (((kk + 2 : Nat) : Int)).toNat = kk + 2 := by omega
    rw [e3]
    refine Pure.mono (ref_trim (h2.u.sl.take (kk + 2)) (by simp; omega) (by omega) (by omega) (h2.su.take _)) ?_
    rintro v w3 hb3 ⟨rfl, m, rfl, hm, hm1, _⟩
    rw [etake] at hm
    refine ⟨_, _, _, rfl, Pure.mono (ref_small (d := f) hm (by omega) hf0 (by omega)) ?_⟩
    rintro v w4 hb4 ⟨A1, n1, c1, rfl, k1⟩
    refine ⟨_, _, _, _, rfl, ?_⟩
    have hq4 : SlU w4 Aq qs := h2.q.sl.below hb4
    refine Pure.mono (ref_trim hq4 h2.q.len h2.q.cap (by have := h2.q.cap; omega) h2.sq) ?_
    rintro v w5 hb5 ⟨rfl, m', rfl, hm', _⟩
    exact ⟨_, _, _, rfl, hR _ _ _ _ _ _ _ hm' k1⟩
  | succ j ih =>
    intro w us qs hi h hlt he
    have hul := h.u.len
    have hql := h.q.len
    have e0 : ((j + 1 : Nat) : Int) - 1 = (j : Int) := by omega
    rw [e0]
    obtain ⟨pre, hpre⟩ : ∃ pre, pre = us.take j := ⟨_, rfl⟩
    obtain ⟨D, hD⟩ : ∃ D, D = us.drop j := ⟨_, rfl⟩
    have hus : us = pre ++ D := by rw [hpre, hD, List.take_append_drop]
    have hj : pre.length = j := by rw [hpre]; simp; omega
    have hDl : D.length = nu - j := by rw [hD]; simp [hul]
    have hsD : Small D := by rw [hD]; exact fun x hx => h.su x (List.mem_of_mem_drop hx)
    have hdrop : us.drop (j + 1) = D.drop 1 := by rw [hD, List.drop_drop]
    rw [hdrop] at hlt
    have hT0 : wv D = D.getD 0 0 + 1000000000 * wv (D.drop 1) := by have := wv_drop D 0; simpa using this
    have gD0 := hsD.getD 0
    have hT : wv D < 1000000000 * wv vs := by omega
    have hT3 : wv D < 1000000000 ^ (kk + 2 + 1) := by rw [Nat.pow_succ]; omega
    obtain ⟨hTw, hlow⟩ := words3 (by omega) hsD hT3
    have gt0 := hsD.getD (kk + 2)
    have gt1 := hsD.getD (kk + 1)
    have gt2 := hsD.getD kk
    have hwu : wv us = wv pre + 1000000000 ^ j * wv D := by rw [hus, wv_append, hj]
    obtain ⟨q, hq⟩ : ∃ q, q = wv D / wv vs := ⟨_, rfl⟩
    have hVpos : 0 < wv vs := by omega
    have hqT : q * wv vs ≤ wv D := by rw [hq]; exact Nat.div_mul_le_self _ _
    have hqT2 : wv D < q * wv vs + wv vs := by
      have h1 := Nat.div_add_mod (wv D) (wv vs)
      have h2 := Nat.mod_lt (wv D) hVpos
      rw [← hq, Nat.mul_comm] at h1
      omega
    have hqb : q < 1000000000 := by
      rw [hq, Nat.div_lt_iff_lt_mul hVpos]
      exact hT
    rw [hus] at h
    -- the next round
    have next : ∀ w2 D3, Div w1 w2 B Au nu cu (pre ++ D3) Aq nq cq (qs.set j q) → wv D3 = wv D - q * wv vs →
        F.garboardref01_Over.L13 (kk + 2 : Nat) Af nf cf Av (kk + 2) cv Au nu cu Aq nq cq ((j : Int) - 1) B w2 R := by
      intro w2 D3 h2 hw2
      refine ih w2 _ _ (by omega) h2 ?_ ?_
      · rw [← hj, List.drop_left, hw2]; omega
      · have eq1 : wv ((qs.set j q).drop j) = q + 1000000000 * wv (qs.drop (j + 1)) := by
          rw [wv_drop, List.drop_set, if_pos (by omega), List.getD_eq_getElem?_getD, List.getElem?_set_self (by omega)]
          rfl
        have e5 : wv D3 + q * wv vs = wv D := by omega
        rw [eq1, wv_append, hj]
        rw [hwu, ← e5, Nat.pow_succ] at he
        rw [← he]
        grind
    obtain ⟨top, htop⟩ : ∃ top, top = D.getD (kk + 2) 0 * 1000000000 + D.getD (kk + 1) 0 := ⟨_, rfl⟩
    rw [← htop] at hTw
    have etop : ((D.getD (kk + 2) 0 : Nat) : Int) * 1000000000 + ((D.getD (kk + 1) 0 : Nat) : Int) = (top : Int) := by omega
    obtain ⟨v1, hv1⟩ : ∃ v1, v1 = vs.getD (kk + 1) 0 := ⟨_, rfl⟩
    have ei1 : ((j : Int) + ((kk + 2 : Nat) : Int)).toNat = (kk + 2) + j := by omega
    have ei2 : ((j : Int) + ((kk + 2 : Nat) : Int) - 1).toNat = (kk + 1) + j := by omega
    have ei3 : (((kk + 2 : Nat) : Int) - 1).toNat = kk + 1 := by omega
    have hul2 := h.u.len
    refine F.garboardref01_Over.L13.step _ _ _ _ _ _ _ _ _ _ _ _ _ _ _ _ _ ⟨fun _ => ⟨by simp only [inR]; omega, ?_⟩, fun h => by omega⟩
    refine h.u.sl.load hul2 (by omega) (by omega) ?_
    rw [ei1, app_getD hj]
    refine ⟨by simp only [inR]; omega, by simp only [inR]; omega, by simp only [inR]; omega, by simp only [inR]; omega, ?_⟩
    refine h.u.sl.load hul2 (by omega) (by omega) ?_
    rw [ei2, app_getD hj, etop]
    refine ⟨by simp only [inR]; omega, by simp only [inR]; omega, fun w2 e2 => ⟨by simp only [inR]; omega, ?_⟩⟩
    have h2 := h.ext e2
    refine (h2.sl hv hsep).load hvl (by omega) (by omega) ?_
    have hval : vs.getD (((kk + 2 : Nat) : Int) - 1).toNat 0 = v1 := by rw [ei3, hv1]
    rw [hval]
    rw [← hv1] at hhalf g1
    refine ⟨by simp only [inR]; omega, ⟨by omega, by omega, by simp only [inR]; omega⟩, by simp only [inR]; omega, ?_⟩
    refine (h2.sl hv hsep).load hvl (by omega) (by omega) ?_
    rw [hval]
    refine ⟨by simp only [inR]; omega, ⟨by omega, by omega⟩, fun w3 e3 => ?_⟩
    have h3 := h2.ext e3
    have ed : (top : Int) / (v1 : Int) = ((top / v1 : Nat) : Int) := by simp
    have em : (top : Int) % (v1 : Int) = ((top % v1 : Nat) : Int) := by simp
    rw [ed, em]
    have hgq : q ≤ top / v1 := by
      rw [Nat.le_div_iff_mul_le (by omega)]
      rw [hTw, hV, ← hv1] at hqT
      exact guess_ge gt2 hlow hqT
    have hgb : top / v1 ≤ 1000000001 := by
      refine guess_first (by omega) g2 hvlow (by rw [hv1] at hhalf; exact hhalf) (by rw [← hTw, ← hV]; exact hT) ?_
      rw [← hv1]
      exact Nat.div_mul_le_self _ _
    have hml := Nat.mod_lt top (show 0 < v1 by omega)
    refine over_L17 hn hv hvl hsv hsep (by omega) hj (by omega) (top := top) (low := wv (D.take kk)) (M := 1000000000 ^ kk) (vl := wv (vs.take kk)) (q := q) (T := wv D) (V := wv vs) hlow hvlow (by rw [ev1, ← hv1]; omega) (by rw [ev1]; exact hV) hTw hqT hqb
      (fun w4 g h4 hg1 hg2 hg3 => ?_) (top / v1) (top % v1) w3 h3 (by rw [ev1, ← hv1]; have := Nat.div_add_mod top v1; rw [Nat.mul_comm] at this; exact this) hgq hgb (by omega) (.inl (by omega))
    refine PureB.mono (ref_reduce (q := q) (Nat.le_trans hB h4.below.size) hn h4.u h4.su (h4.sl hv hsep) hvl hsv hvu hj (by omega) hg1 hg2 hqT hqT2 hg3 hT3 hVlt hqb) ?_
    rintro v w5 b5 ⟨rfl, D3, hl3, hw3, k3⟩
    refine ⟨fun k ty cs h => (by cases h), _, rfl, ?_⟩
    refine (h4.join ha k3).storeQ ha (j := (j : Int)) (by omega) (by omega) (by omega) (by omega) fun w6 h6 => ⟨by simp only [inR]; omega, ?_⟩
    rw [Int.toNat_natCast, Int.toNat_natCast] at h6
    exact next w6 D3 h6 hw3
end

theorem lit_ok {t : Nat} (el : El Tryz.prog t 112 1 4) {B : Nat} {w : World} {tys : List Nat} (hB : B ≤ w.heap.size) (xs : List Nat) (hl : xs.length ≤ 1024) {K : Option Addr → Nat → Nat → World → Prop}
    (h : ∀ A c w2, OwnU w2 w.heap.size A xs.length c xs → Below w.heap.size w w2 → K A xs.length c w2) :
    RunOk Tryz.prog (Instr.buildSlice t xs.length ((u32s xs).zipIdx.map fun x => (x.2, x.1)).toArray) B tys w fun r w1 => ∃ A n c, r = .slice A n c ∧ K A n c w1 := by
  obtain ⟨w', hr, hb, hs, ho⟩ := lit_u32 el w xs hl
  exact ⟨_, w', hr, hb.mono hB, hs, fun k ty cs _ hk => hb.block k (Array.getElem?_eq_some_iff.1 hk).1, _, _, _, rfl, h _ _ _ ho hb⟩
theorem app_words {t ty : Nat} (el : El Tryz.prog t 112 1 4) {B0 B : Nat} (hBB : B0 ≤ B) {tys : List Nat} {w : World} {A A1 : Option Addr} {n c n1 c1 : Nat} {ws vs : List Nat} (ho : OwnU w B A n c ws) (hv : SlU w A1 vs) (hvl : vs.length = n1) (hB : B ≤ w.heap.size) (hn : n ≤ 1000000) (hn1 : n1 ≤ 1000000) (ht : 112 ∉ tys) (h0 : n1 ≠ 0)
    {K : Option Addr → Nat → Nat → World → Prop} (h : ∀ A' c' w', OwnU w' B A' (n + n1) c' (ws ++ vs) → Below B w w' → K A' (n + n1) c' w') :
    RunOk Tryz.prog (Builtin.append_ #[t, t] ty #[.slice A n c, .slice A1 n1 c1]) B0 tys w fun r w2 => ∃ A n c, r = .slice A n c ∧ K A n c w2 := by
  rcases hv with hv | ⟨b, off, all, fr, rfl, hb, hc⟩
  · subst hv; simp at hvl; omega
  · refine runOk_append el hBB ho (a := ⟨b, off, none⟩) (m := n1) (c := c1) (news := u32s vs) (by simp [u32s, hvl]) (fun j u hj => ?_) (fun u hu => ?_) hB (by omega) ht fun A' c' w' k1 k2 k3 => h A' c' w' ?_ (below_grown k2 (fun k hk => (ho.blk k hk).1) hB)
    · have hj' : j < vs.length := by
        have := (List.getElem?_eq_some_iff.1 hj).1
        simpa [u32s] using this
      have e : u = .int .u32 (vs[j] : Nat) := by
        have : (u32s vs)[j]? = some (.int .u32 (vs[j] : Nat)) := by simp [u32s, hj']
        rw [this] at hj
        exact (Option.some.inj hj).symm
      subst e
      have add1 : (⟨b, off, none⟩ : Addr).add j = ⟨b, off + j, none⟩ := by
        unfold Addr.add
        split
        · rename_i h; subst h; rfl
        · rfl
      rw [add1]
      simp only [World.cell?, hb]
      exact hc j hj'
    · simp only [u32s, List.mem_map] at hu
      obtain ⟨x, _, rfl⟩ := hu
      rfl
    · unfold OwnU
      rw [u32s_append]
      exact k1
end Go.Proofs.YtdnelnicnjplpaaGreatDoor.B

namespace Go.Proofs.YtdnelnicnjplpaaGreatDoor.B
open Go Go.RowKit Go.Proofs Go.Proofs.YtdnelnicnjplpaaGreatDoor.Vc

theorem IsN.len_le {w : World} {A : Option Addr} {n c z k : Nat} (h : IsN w A n c z) (hz : z < 1000000000 ^ k) : n ≤ k := by
  obtain ⟨ws, _, hl, _, _, _, hn, rfl⟩ := h
  by_cases h0 : ws = []
  · subst h0; simp at hl; omega
  · have h1 := wv_pos hn h0
    have := (Nat.pow_lt_pow_iff_right (a := 1000000000) (by omega)).1 (Nat.lt_of_le_of_lt h1 hz)
    omega
theorem IsN.len_gt {w : World} {A : Option Addr} {n c z k : Nat} (h : IsN w A n c z) (hz : 1000000000 ^ k ≤ z) : k < n := by
  obtain ⟨ws, _, hl, _, _, hs, _, rfl⟩ := h
  have h1 := wv_lt hs
  have := (Nat.pow_lt_pow_iff_right (a := 1000000000) (by omega)).1 (Nat.lt_of_le_of_lt hz h1)
  omega
theorem OwnU.some {w : World} {B : Nat} {A : Option Addr} {n c : Nat} {ws : List Nat} (h : OwnU w B A n c ws) (h0 : n ≠ 0) : A ≠ none := by
  rintro rfl
  rcases h.2 with ⟨e, _⟩ | ⟨g, cap, cur, e, _⟩
  · cases e; exact h0 rfl
  · cases e
theorem wv_zeros : ∀ n : Nat, wv (List.replicate n 0) = 0 := by
  intro n
  induction n with
  | zero => rfl
  | succ n ih => rw [List.replicate_succ, wv, ih]

set_option maxHeartbeats 1000000 in
theorem ref_Over {w : World} {A0 A1 : Option Addr} {n0 c0 n1 c1 x y : Nat} (ha : IsN w A0 n0 c0 x) (hb : IsN w A1 n1 c1 y) (hx : x < Lim) (hy : y < Lim) (hy0 : y ≠ 0) :
    Pure Tryz.prog 113 #[.slice A0 n0 c0, .slice A1 n1 c1] w fun v w' => ∃ A n c A' n' c', v = .tuple #[.slice A n c, .slice A' n' c'] ∧ IsN w' A n c (x / y) ∧ IsN w' A' n' c' (x % y) := by
  refine F.garboardref01_Over.vc _ _ _ _ _ _ _ _ (Pure.mono (ref_Cmp ha hb hx hy) ?_)
  rintro v w3 hb3 rfl
  refine ⟨_, rfl, fun h => ?_, fun h => ?_⟩
  · have hlt : x < y := by
      simp only [cmpI] at h
      split at h
      · omega
      · split at h <;> omega
    rw [Nat.div_eq_of_lt hlt, Nat.mod_eq_of_lt hlt]
    exact ⟨_, _, _, _, _, _, rfl, IsN.nil _, ha.below hb3⟩
  have hyx : y ≤ x := by
    simp only [cmpI] at h
    split at h <;> omega
  have l0 := ha.len hx
  have l1 := hb.len hy
  have haN := ha.below hb3
  have hbN := hb.below hb3
  obtain ⟨a, a1, a2, a3, a4, a5, a6, ax⟩ := haN
  obtain ⟨b, b1, b2, b3, b4, b5, b6, bx⟩ := hbN
  have haN := ha.below hb3
  have hbN := hb.below hb3
  have hbn : b ≠ [] := fun k => by subst k; simp [wv] at bx; omega
  have hbl := List.length_pos_iff.2 hbn
  refine ⟨fun h1 => ?_, fun h1 => ⟨by simp only [inR]; omega, ?_⟩⟩
  · have g := b5.getD (Int.toNat 0)
    refine b1.load b2 (by omega) (by omega) ?_
    have e : b.getD (Int.toNat 0) 0 = y := by
      obtain ⟨z, rfl⟩ := List.length_eq_one_iff.1 (by omega : b.length = 1)
      simpa [wv] using bx
    rw [e] at g ⊢
    refine Pure.mono (ref_small haN (by omega) (by omega) (by omega)) ?_
    rintro v w9 hb9 ⟨A, n, c, rfl, k1⟩
    have hml := Nat.mod_lt x (show 0 < y by omega)
    refine ⟨_, _, _, _, rfl, Pure.mono (ref_Small (x := x % y) (by omega)) ?_⟩
    rintro v w12 hb12 ⟨A', n', c', rfl, k2⟩
    exact ⟨_, _, _, rfl, _, _, _, _, _, _, rfl, k1.below hb12, k2⟩
  have g := b5.getD (n1 - 1)
  have e1 : ((n1 : Int) - 1).toNat = n1 - 1 := by omega
  refine b1.load b2 (by omega) (by omega) ?_
  rw [e1]
  obtain ⟨mt, hmt⟩ : ∃ mt, mt = b.getD (n1 - 1) 0 := ⟨_, rfl⟩
  have hmt1 : 1 ≤ mt := by rw [hmt, ← b2]; exact norm_top b6 hbn
  rw [← hmt] at g ⊢
  obtain ⟨f, hf⟩ : ∃ f, f = 1000000000 / (mt + 1) := ⟨_, rfl⟩
  obtain ⟨hf0, hf1, hf2⟩ := factor_half hmt1 g hf
  have hfb : 2 * f ≤ 1000000000 := by
    have := Nat.mul_le_mul_right f (show 2 ≤ mt + 1 by omega)
    omega
  have ef : (1000000000 : Int) / ((mt : Int) + 1) = (f : Int) := by rw [hf]; simp
  rw [ef]
  refine ⟨by simp only [inR]; omega, by simp only [inR]; omega, ⟨by omega, by omega, by simp only [inR]; omega⟩, by simp only [inR]; omega, ?_⟩
  refine Pure.mono (ref_Small (x := f) (by omega)) ?_
  rintro v w17 hb17 ⟨Af, nf, cf, rfl, kf⟩
  have hw17 : Below w.heap.size w w17 := hb3.trans (hb17.mono hb3.size)
  have hfL : f < Lim := by
    unfold Lim
    exact Nat.lt_of_le_of_lt (show f ≤ 1000000000 ^ 1 by omega) (Nat.pow_lt_pow_right (by omega) (by have := klim; omega))
  refine ⟨_, _, _, rfl, Pure.mono (ref_Times (hbN.below hb17) kf hy hfL) ?_⟩
  rintro v w20 hb20 ⟨Av, nv, cv, rfl, kv, _⟩
  have hw20 : Below w.heap.size w w20 := hw17.trans (hb20.mono hw17.size)
  refine ⟨_, _, _, rfl, ?_⟩
  refine lit_ok el_N (xs := []) hw20.size (by simp) fun A21 c21 w23 o23 b23 => ?_
  have hw23 : Below w.heap.size w w23 := hw20.trans (b23.mono hw20.size)
  have s23 := b23.size
  refine Pure.mono (ref_Times ((haN.below hb17).below (hb20.trans (b23.mono hb20.size))) ((kf.below hb20).below b23) hx hfL) ?_
  rintro v w26 hb26 ⟨A24, m, c24, rfl, ku, _⟩
  have hw26 : Below w.heap.size w w26 := hw23.trans (hb26.mono hw23.size)
  refine ⟨_, _, _, rfl, ?_⟩
  have hxlt : x < 1000000000 ^ n0 := by have := wv_lt a5; rwa [ax, a2] at this
  have hxf : x ≤ x * f := Nat.le_mul_of_pos_right _ (by omega)
  have hxf2 : x * f < 1000000000 ^ (n0 + 1) := by
    have h2 : x * f ≤ x * 1000000000 := Nat.mul_le_mul_left _ (by omega)
    rw [Nat.pow_succ]
    omega
  have hn0 : n1 ≤ n0 := by
    have := wv_len_ge a5 b6 (by rw [ax, bx]; exact hyx)
    omega
  have hxge : 1000000000 ^ (n0 - 1) ≤ x := by
    have := wv_pos a6 (fun e => by subst e; simp at a2; omega)
    rwa [ax, a2] at this
  have hm1 : m ≤ n0 + 1 := ku.len_le hxf2
  have hm2 : n0 - 1 < m := ku.len_gt (Nat.le_trans hxge hxf)
  obtain ⟨us, u1, u2, u3, u4, u5, u6, ux⟩ := ku
  have s26 := hb26.size
  have o26 : OwnU w26 w20.heap.size A21 0 c21 [] := o23.other fun k hk => hb26.block k (o23.blk k hk).2
  refine app_words el_N hw20.size o26 u1 u2 (by omega) (by omega) (by omega) (by simp) (by omega) fun A27 c27 w29 o29 b29 => ?_
  have hw29 : Below w.heap.size w w29 := hw26.trans (b29.mono (by have := hw20.size; omega))
  have s29 := b29.size
  have b2029 : Below w20.heap.size w20 w29 := (b23.trans (hb26.mono s23)).trans b29
  refine lit_ok el_N (xs := [0, 0]) hw29.size (by simp) fun A30 c30 w32 o32 b32 => ?_
  have hw32 : Below w.heap.size w w32 := hw29.trans (b32.mono hw29.size)
  have s32 := b32.size
  have o29' : OwnU w32 w20.heap.size A27 (0 + m) c27 ([] ++ us) := o29.other fun k hk => b32.block k (o29.blk k hk).2
  refine app_words el_N hw20.size o29' o32.sl rfl (by omega) (by omega) (by simp) (by simp) (by simp) fun A33 c33 w35 o35 b35 => ?_
  have hw35 : Below w.heap.size w w35 := hw32.trans (b35.mono hw20.size)
  have s35 := b35.size
  have b2035 : Below w20.heap.size w20 w35 := (b2029.trans (b32.mono (by omega))).trans b35
  have su : Small ([] ++ us ++ [0, 0]) := by
    rw [List.nil_append]
    exact u5.append (Small.cons (by omega) (Small.cons (by omega) Small.nil))
  have wvu : wv ([] ++ us ++ [0, 0]) = x * f := by
    rw [List.nil_append, wv_append, ux]
    simp [wv]
  have hcap := o35.cap
  simp only [List.length_cons, List.length_nil] at hcap
  refine ⟨by simp only [inR]; omega, Pure.mono (ref_trim o35.sl o35.len o35.cap (by simp; omega) su) ?_⟩
  rintro v w38 hb38 ⟨hww, m36, rfl, k36, _⟩
  rw [hww]
  clear hb38 hww
  rw [wvu] at k36
  have hm36 : m36 ≤ n0 + 1 := k36.len_le hxf2
  refine ⟨_, _, _, rfl, ?_⟩
  have eif : (if (m36 : Int) > ((n0 : Int) + 1) then (m36 : Int) else ((n0 : Int) + 1)) = ((n0 + 1 : Nat) : Int) := by rw [if_neg (by omega)]; omega
  rw [eif, Int.toNat_natCast]
  have enq : ((n0 + 1 : Nat) : Int) - (n1 : Int) = ((n0 + 1 - n1 : Nat) : Int) := by omega
  rw [enq]
  refine ⟨⟨by omega, by omega⟩, by simp only [inR]; omega, ?_⟩
  refine runOk_make el_N El.zeroU32 rfl (by omega) (by omega) hw35.size fun Aq nq w41 hnq k1 g2 k2 => ⟨by simp only [inR]; omega, by simp only [inR]; omega, ?_⟩
  have hnq' : nq = n0 + 1 - n1 := by omega
  have hq := OwnU.replicate k1
  have hqb : ∀ a, Aq = some a → w35.heap.size ≤ a.block := fun a ha => (hq.blk_of a ha).1
  have hgb : Below w35.heap.size w35 w41 := below_grown g2 (by simp) (Nat.le_refl _)
  -- the divisor's words
  obtain ⟨P, hP⟩ : ∃ P, P = 1000000000 ^ (n1 - 1) := ⟨_, rfl⟩
  have hbs := wv_split b (n1 - 1) (by omega)
  have hbd : wv (b.drop (n1 - 1)) = mt := by
    rw [wv_drop, ← hmt, List.drop_eq_nil_of_le (by omega)]
    simp [wv]
  rw [hbd] at hbs
  have hbt := wv_lt (b5.take (n1 - 1))
  rw [List.length_take, Nat.min_eq_left (by omega)] at hbt
  rw [← hP] at hbs hbt
  have hyf : y ≤ y * f := Nat.le_mul_of_pos_right _ (by omega)
  have hyf2 : y * f < P * 1000000000 := by
    have k1 : y + 1 ≤ P * (mt + 1) := by rw [← bx, hbs, Nat.mul_add]; omega
    have k2 : (y + 1) * f ≤ P * (mt + 1) * f := Nat.mul_le_mul_right _ k1
    have k3 : P * ((mt + 1) * f) ≤ P * 1000000000 := Nat.mul_le_mul_left _ hf1
    rw [Nat.mul_assoc] at k2
    rw [Nat.add_mul] at k2
    omega
  have hPy : P * mt ≤ y := by rw [← bx, hbs]; omega
  have hyf3 : P * (mt * f) ≤ y * f := by
    have := Nat.mul_le_mul_right f hPy
    rwa [Nat.mul_assoc] at this
  have hP1 : P * 1 ≤ P * mt := Nat.mul_le_mul_left _ hmt1
  have hpow : P * 1000000000 = 1000000000 ^ n1 := by
    rw [hP, ← Nat.pow_succ, show (n1 - 1).succ = n1 by omega]
  have hnv : nv = n1 := by
    have h1 : nv ≤ n1 := kv.len_le (by rw [← hpow]; exact hyf2)
    have h2 : n1 - 1 < nv := kv.len_gt (by rw [← hP]; omega)
    omega
  subst hnv
  obtain ⟨vs, v1, v2, v3, v4, v5, v6, vx⟩ := kv
  have hhalf : 1000000000 ≤ 2 * vs.getD (nv - 1) 0 := by
    have h1 := wv_split vs (nv - 1) (by omega)
    have h2 := wv_lt (v5.take (nv - 1))
    rw [List.length_take, Nat.min_eq_left (by omega), ← hP] at h2
    have h3 : wv (vs.drop (nv - 1)) = vs.getD (nv - 1) 0 := by
      rw [wv_drop, List.drop_eq_nil_of_le (by omega)]
      simp [wv]
    rw [h3, ← hP, vx] at h1
    apply Decidable.byContradiction
    intro k
    have h4 : P * (vs.getD (nv - 1) 0 + 1) ≤ P * (mt * f) := Nat.mul_le_mul_left _ (by omega)
    rw [Nat.mul_add] at h4
    omega
  have hvne : vs ≠ [] := fun e => by subst e; simp at v2; omega
  have hvb := v1.block_lt hvne
  obtain ⟨hnf, hfS⟩ := kf.one (by omega) (by omega)
  have hfbk := hfS.block_lt (by simp)
  -- the dividend's words
  have hu35 : OwnU w35 w20.heap.size A33 (n0 + 1) c33 (([] ++ us ++ [0, 0]).take (n0 + 1)) := o35.take (by simp; omega) (.inl (o35.some (by simp)))
  obtain ⟨U, hU⟩ : ∃ U, U = ([] ++ us ++ [0, 0]).take (n0 + 1) := ⟨_, rfl⟩
  rw [← hU] at hu35
  have hsU : Small U := by rw [hU]; exact su.take _
  have wU : wv U = x * f := by
    rw [hU, List.nil_append, List.take_append, List.take_of_length_le (by omega), wv_append, ux, u2]
    have e : ([0, 0] : List Nat).take (n0 + 1 - m) = List.replicate (n0 + 1 - m) 0 := by
      rcases (by omega : n0 + 1 - m = 0 ∨ n0 + 1 - m = 1) with e | e <;> rw [e] <;> rfl
    rw [e, wv_zeros, Nat.mul_zero, Nat.add_zero]
  have lU := hu35.len
  have hub := hu35.blk_of
  have hu41 : OwnU w41 w20.heap.size A33 (n0 + 1) c33 U := hu35.other fun k hk => hgb.block k (hu35.blk k hk).2
  have hap : Apart A33 Aq := fun a b ha hb => by
    have h1 := hub a ha
    have h2 := hqb b hb
    omega
  have s20 := hb20.size
  have sw20 := hw20.size
  have v41 : SlU w41 Av vs := (v1.below b2035).below hgb
  have f41 : SlU w41 Af [f] := ((hfS.below hb20).below b2035).below hgb
  have hvu : ∀ a b, Av = some a → A33 = some b → a.block ≠ b.block := fun a b ha hb => by
    have h1 := hvb a ha
    have h2 := hub b hb
    omega
  rw [← hnq']
  have epow : 1000000000 ^ nq * P = 1000000000 ^ n0 := by
    rw [hP, ← Nat.pow_add, show nq + (nv - 1) = n0 by omega]
  refine over_L13 (w1 := w41) (B := w.heap.size) hap (by omega) (by have := hgb.size; have := hw35.size; omega) v41 v2 v5 (Sep.of hvu fun a b ha hb => by have h1 := hvb a ha; have h2 := hqb b hb; omega) hvu (by omega) (by omega) hhalf
    f41 hnf (Sep.of (fun a b ha hb => by have h1 := hfbk a ha; have h2 := hub b hb; omega) fun a b ha hb => by have h1 := hfbk a ha; have h2 := hqb b hb; omega) (by omega) (by omega) (U0 := x * f) (fun A n c A' n' c' w' q1 q2 => ?_)
    nq w41 U (List.replicate nq 0) (Nat.le_refl _) ⟨hu41.base sw20, hq.base hw35.size, hsU, Small.replicate _, fun _ _ _ _ => rfl, Below.refl _ _⟩ ?_ ?_
  · rw [vx, Nat.mul_div_mul_right _ _ (by omega)] at q1
    rw [vx, Nat.mul_mod_mul_right, Nat.mul_div_cancel _ (by omega)] at q2
    exact ⟨_, _, _, _, _, _, rfl, q1, q2⟩
  · have h1 := wv_split U nq (by omega)
    rw [wU] at h1
    have h2 : x * f < 1000000000 ^ n0 * f := (Nat.mul_lt_mul_right (by omega)).2 hxlt
    rw [← epow, Nat.mul_assoc] at h2
    have h3 : wv (U.drop nq) < P * f := by
      apply Decidable.byContradiction
      intro k
      have := Nat.mul_le_mul_left (1000000000 ^ nq) (show P * f ≤ wv (U.drop nq) by omega)
      omega
    rw [vx]
    have h4 : P * f ≤ y * f := Nat.mul_le_mul_right _ (by omega)
    omega
  · rw [List.drop_eq_nil_of_le (by simp)]
    simp [wv, wU]
end Go.Proofs.YtdnelnicnjplpaaGreatDoor.B

set_option maxRecDepth 100000
set_option maxHeartbeats 4000000
namespace Go.Proofs.YtdnelnicnjplpaaGreatDoor.F
open Go Go.RowKit Go.Proofs Go.Proofs.YtdnelnicnjplpaaGreatDoor.Vc
noncomputable def garboardref02_Valid.cx (w : World) (B : Nat) (R : Value → World → Prop) : Cx := ⟨Tryz.prog, 74, 20, Tryz.f74.results.toList, [], [], w, B, R⟩
theorem garboardref02_Valid.vc (a : ByteArray) (w : World) (R : Value → World → Prop)
    (h : (((((ByteArray.size a : Int) : Int) > 1) → ((0 ≤ (0 : Int) ∧ (0 : Int) < (ByteArray.size a : Int)) ∧ (((((bt a (0 : Int)) : Int) = 45) → (((a ≠ (⟨#[45, 48]⟩ : ByteArray)) → ((0 ≤ (1 : Int) ∧ (1 : Int) ≤ (ByteArray.size a : Int)) ∧ (Pure Tryz.prog 75 #[(.string (ByteArray.extract a ((1 : Int)).toNat (ByteArray.size a)))] w fun e f => ∃ b, e = .bool b ∧ (R (.bool b) f)))) ∧ (¬ (a ≠ (⟨#[45, 48]⟩ : ByteArray)) → (R (.bool false) w)))) ∧ (¬ (((bt a (0 : Int)) : Int) = 45) → (Pure Tryz.prog 75 #[.string a] w fun g i => ∃ c, g = .bool c ∧ (R (.bool c) i)))))) ∧ (¬ (((ByteArray.size a : Int) : Int) > 1) → (Pure Tryz.prog 75 #[.string a] w fun j l => ∃ d, j = .bool d ∧ (R (.bool d) l))))) :
    Pure Tryz.prog 74 #[.string a] w R :=
  pure_of_run (garboardref02_Valid.cx w w.heap.size R) 100000 follows Tryz.func74 rfl rfl rfl rfl rfl rfl rfl (Eq.mp (by kernel_rfl) h)

noncomputable def garboardref02_Read.cx (w : World) (B : Nat) (R : Value → World → Prop) : Cx := ⟨Tryz.prog, 76, 13, Tryz.f76.results.toList, [], [], w, B, R⟩
theorem garboardref02_Read.vc (a : ByteArray) (w : World) (R : Value → World → Prop)
    (h : ((0 ≤ (0 : Int) ∧ (0 : Int) < (ByteArray.size a : Int)) ∧ (((((bt a (0 : Int)) : Int) = 45) → ((0 ≤ (1 : Int) ∧ (1 : Int) ≤ (ByteArray.size a : Int)) ∧ (∀ b, Ext w.heap.size [] w b → (Pure Tryz.prog 77 #[(.string (ByteArray.extract a ((1 : Int)).toNat (ByteArray.size a)))] b fun n o => ∃ c d e, n = .slice c d e ∧ (∀ f, Ext w.heap.size [71] o f → (R (.agg #[.bool true, .slice c d e]) f)))))) ∧ (¬ (((bt a (0 : Int)) : Int) = 45) → (∀ g, Ext w.heap.size [] w g → (Pure Tryz.prog 77 #[.string a] g fun p q => ∃ i j l, p = .slice i j l ∧ (∀ m, Ext w.heap.size [71] q m → (R (.agg #[.bool false, .slice i j l]) m)))))))) :
    Pure Tryz.prog 76 #[.string a] w R :=
  pure_of_run (garboardref02_Read.cx w w.heap.size R) 100000 follows Tryz.func76 rfl rfl rfl rfl rfl rfl rfl (Eq.mp (by kernel_rfl) h)

noncomputable def garboardref02_Signum.cx (w : World) (B : Nat) (R : Value → World → Prop) : Cx := ⟨Tryz.prog, 80, 9, Tryz.f80.results.toList, [], [], w, B, R⟩
theorem garboardref02_Signum.vc (a : Bool) (f : Option Addr) (b g : Nat) (w : World) (R : Value → World → Prop)
    (h : ((a = true → (∀ c, Ext w.heap.size [] w c → (R (.int .i64 (-1 : Int)) c))) ∧ (a = false → ((((b : Int) > 0) → (∀ d, Ext w.heap.size [] w d → (R (.int .i64 1) d))) ∧ (¬ ((b : Int) > 0) → (∀ e, Ext w.heap.size [] w e → (R (.int .i64 0) e))))))) :
    Pure Tryz.prog 80 #[.agg #[.bool a, .slice f b g]] w R :=
  pure_of_run (garboardref02_Signum.cx w w.heap.size R) 100000 follows Tryz.func80 rfl rfl rfl rfl rfl rfl rfl (Eq.mp (by kernel_rfl) h)

noncomputable def garboardref02_Small.cx (w : World) (B : Nat) (R : Value → World → Prop) : Cx := ⟨Tryz.prog, 82, 14, Tryz.f82.results.toList, [], [], w, B, R⟩
theorem garboardref02_Small.vc (a : Int) (w : World) (R : Value → World → Prop)
    (h : (((a < 0) → (inR .i64 (-a) ∧ (inR .u32 ((-a)) ∧ (∀ b, Ext w.heap.size [] w b → (Pure Tryz.prog 78 #[(.int .u32 ((-a)))] b fun v x => ∃ c d e, v = .slice c d e ∧ (Pure Tryz.prog 109 #[.bool true, .slice c d e] x fun y z => ∃ f g i j, y = .agg #[.bool f, .slice g i j] ∧ (∀ l, Ext w.heap.size [71] z l → (R (.agg #[.bool f, .slice g i j]) l)))))))) ∧ (¬ (a < 0) → (inR .u32 (a) ∧ (∀ m, Ext w.heap.size [] w m → (Pure Tryz.prog 78 #[(.int .u32 (a))] m fun A C => ∃ n o p, A = .slice n o p ∧ (Pure Tryz.prog 109 #[.bool false, .slice n o p] C fun D E => ∃ q r s t, D = .agg #[.bool q, .slice r s t] ∧ (∀ u, Ext w.heap.size [71] E u → (R (.agg #[.bool q, .slice r s t]) u))))))))) :
    Pure Tryz.prog 82 #[.int .i64 a] w R :=
  pure_of_run (garboardref02_Small.cx w w.heap.size R) 100000 follows Tryz.func82 rfl rfl rfl rfl rfl rfl rfl (Eq.mp (by kernel_rfl) h)

noncomputable def garboardref02_Make.cx (w : World) (B : Nat) (R : Value → World → Prop) : Cx := ⟨Tryz.prog, 109, 13, Tryz.f109.results.toList, [], [], w, B, R⟩
theorem garboardref02_Make.vc (b : Bool) (c : Option Addr) (a d : Nat) (w : World) (R : Value → World → Prop)
    (h : ((b = true → (∀ e, Ext w.heap.size [] w e → (R (.agg #[(.bool (decide ((a : Int) > 0))), .slice c a d]) e))) ∧ (b = false → (∀ f, Ext w.heap.size [] w f → (R (.agg #[.bool false, .slice c a d]) f))))) :
    Pure Tryz.prog 109 #[.bool b, .slice c a d] w R :=
  pure_of_run (garboardref02_Make.cx w w.heap.size R) 100000 follows Tryz.func109 rfl rfl rfl rfl rfl rfl rfl (Eq.mp (by kernel_rfl) h)

end Go.Proofs.YtdnelnicnjplpaaGreatDoor.F

namespace Go.Proofs.YtdnelnicnjplpaaGreatDoor.B
open Go Go.RowKit Go.Proofs Go.Proofs.YtdnelnicnjplpaaGreatDoor.Vc

theorem IsN.lt2 {w : World} {A : Option Addr} {n c x : Nat} (h : IsN w A n c x) (hn : n ≤ 2) : x < 1000000000000000000 := by
  obtain ⟨ws, _, hl, _, _, hs, _, rfl⟩ := h
  have h1 := wv_lt hs
  have h2 : 1000000000 ^ ws.length ≤ 1000000000 ^ 2 := Nat.pow_le_pow_right (by omega) (by omega)
  omega
theorem common_L4 {B g : Nat} {R : Value → World → Prop} (hR : ∀ A n c w, IsN w A n c g → R (.slice A n c) w) :
    ∀ (y x : Nat) (w : World), x < 1000000000000000000 → y < 1000000000000000000 → Nat.gcd x y = g → F.garboardref01_Common.L4 x y B w R := by
  intro y
  induction y using Nat.strongRecOn with
  | _ y ih =>
    intro x w hx hy hg
    refine F.garboardref01_Common.L4.step _ _ _ _ _ ⟨fun h => ⟨⟨by omega, by omega⟩, fun w2 _ => ?_⟩, fun h => ?_⟩
    · have hy0 : 0 < y := by omega
      have hm := Nat.mod_lt x hy0
      have e : (x : Int) % (y : Int) = ((x % y : Nat) : Int) := by simp
      rw [e]
      refine ih (x % y) hm y w2 hy (by omega) ?_
      rw [← hg, Nat.gcd_comm x y, Nat.gcd_rec y x, Nat.gcd_comm]
    · have hy0 : y = 0 := by omega
      subst hy0
      rw [Nat.gcd_zero_right] at hg
      subst hg
      refine Pure.mono (ref_wide hx) ?_
      rintro v w3 _ ⟨A, n, c, rfl, k⟩
      exact ⟨_, _, _, rfl, hR _ _ _ _ k⟩
theorem common_L1 {B g : Nat} {R : Value → World → Prop} (hR : ∀ A n c w, IsN w A n c g → R (.slice A n c) w) :
    ∀ (y x : Nat) (w : World) (A0 A1 : Option Addr) (n0 c0 n1 c1 : Nat), IsN w A0 n0 c0 x → IsN w A1 n1 c1 y → x < Lim → y < Lim → Nat.gcd x y = g → F.garboardref01_Common.L1 A0 n0 c0 A1 n1 c1 B w R := by
  intro y
  induction y using Nat.strongRecOn with
  | _ y ih =>
    intro x w A0 A1 n0 c0 n1 c1 ha hb hx hy hg
    have hp := hb.pos_len
    have over : 0 < n1 → Pure Tryz.prog 113 #[.slice A0 n0 c0, .slice A1 n1 c1] w fun r9 w10 => ∃ (A7 : Option Addr) (n7 c7 : Nat) (A8 : Option Addr) (n8 c8 : Nat), r9 = (.tuple #[(.slice A7 n7 c7), (.slice A8 n8 c8)]) ∧ (F.garboardref01_Common.L1 A1 n1 c1 A8 n8 c8 B w10 R) := fun h => by
      have hy0 : y ≠ 0 := hp.1 h
      have hm := Nat.mod_lt x (show 0 < y by omega)
      refine Pure.mono (ref_Over ha hb hx hy hy0) ?_
      rintro v w2 b2 ⟨A, n, c, A', n', c', rfl, _, k⟩
      refine ⟨_, _, _, _, _, _, rfl, ih (x % y) hm y w2 _ _ _ _ _ _ (hb.below b2) k hy (by omega) ?_⟩
      rw [← hg, Nat.gcd_comm x y, Nat.gcd_rec y x, Nat.gcd_comm]
    refine F.garboardref01_Common.L1.step _ _ _ _ _ _ _ _ _ ⟨fun h => ⟨fun h0 => ⟨fun h1 => ?_, fun _ => over (by omega)⟩, fun _ => over (by omega)⟩, fun h => ?_⟩
    · refine Pure.mono (ref_word ha (by omega)) ?_
      rintro v w2 b2 rfl
      refine ⟨_, rfl, Pure.mono (ref_word (hb.below b2) (by omega)) ?_⟩
      rintro v w3 b3 rfl
      exact ⟨_, rfl, common_L4 hR y x w3 (ha.lt2 (by omega)) (hb.lt2 (by omega)) hg⟩
    · have hy0 : y = 0 := by
        apply Decidable.byContradiction
        intro k
        have := hp.2 k
        omega
      subst hy0
      rw [Nat.gcd_zero_right] at hg
      subst hg
      exact hR _ _ _ _ ha
theorem ref_Common {w : World} {A0 A1 : Option Addr} {n0 c0 n1 c1 x y : Nat} (ha : IsN w A0 n0 c0 x) (hb : IsN w A1 n1 c1 y) (hx : x < Lim) (hy : y < Lim) :
    Pure Tryz.prog 81 #[.slice A0 n0 c0, .slice A1 n1 c1] w fun v w' => ∃ A n c, v = .slice A n c ∧ IsN w' A n c (Nat.gcd x y) :=
  F.garboardref01_Common.vc _ _ _ _ _ _ _ _ (common_L1 (fun A n c w k => ⟨A, n, c, rfl, k⟩) y x w _ _ _ _ _ _ ha hb hx hy rfl)

def IsZ (w : World) (b : Bool) (A : Option Addr) (n c : Nat) (z : Int) : Prop := b = decide (z < 0) ∧ IsN w A n c z.natAbs
theorem IsZ.below {w w' : World} {b : Bool} {A : Option Addr} {n c : Nat} {z : Int} (h : IsZ w b A n c z) (hb : Below w.heap.size w w') : IsZ w' b A n c z := ⟨h.1, h.2.below hb⟩
theorem IsZ.ext {w w' : World} {B : Nat} {ts : List Nat} {b : Bool} {A : Option Addr} {n c : Nat} {z : Int} (h : IsZ w b A n c z) (e : Ext B ts w w') (ht : 112 ∉ ts) : IsZ w' b A n c z := ⟨h.1, h.2.ext e ht⟩
abbrev ZR (z : Int) (v : Value) (w : World) : Prop := ∃ b A n c, v = .agg #[.bool b, .slice A n c] ∧ IsZ w b A n c z

theorem ref2_Make {w : World} (b : Bool) {A : Option Addr} {n c x : Nat} (h : IsN w A n c x) : Pure Tryz.prog 109 #[.bool b, .slice A n c] w (ZR (if b then -(x : Int) else x)) := by
  have hp := h.pos_len
  refine F.garboardref02_Make.vc _ _ _ _ _ _ ⟨fun hb w2 x2 => ⟨_, _, _, _, rfl, ?_, ?_⟩, fun hb w2 x2 => ⟨_, _, _, _, rfl, ?_, ?_⟩⟩
  · rw [hb, if_pos rfl, decide_eq_decide]
    omega
  · rw [hb, if_pos rfl, Int.natAbs_neg, Int.natAbs_natCast]
    exact h.ext x2 (by decide)
  · rw [hb, if_neg (by decide)]
    symm
    exact decide_eq_false (by omega)
  · rw [hb, if_neg (by decide), Int.natAbs_natCast]
    exact h.ext x2 (by decide)
def sgn (z : Int) : Int := if z < 0 then -1 else if 0 < z then 1 else 0
theorem ref2_Signum {w : World} {b : Bool} {A : Option Addr} {n c : Nat} {z : Int} (h : IsZ w b A n c z) : Pure Tryz.prog 80 #[.agg #[.bool b, .slice A n c]] w fun v _ => v = .int .i64 (sgn z) := by
  obtain ⟨rfl, k⟩ := h
  have hp := k.pos_len
  unfold sgn
  refine F.garboardref02_Signum.vc _ _ _ _ _ _ ⟨fun hb w2 _ => ?_, fun hb => ⟨fun h w2 _ => ?_, fun h w2 _ => ?_⟩⟩
  · rw [if_pos (of_decide_eq_true hb)]
  · have hz : ¬ z < 0 := of_decide_eq_false hb
    rw [if_neg hz, if_pos (by omega)]
  · have hz : ¬ z < 0 := of_decide_eq_false hb
    rw [if_neg hz, if_neg (by omega)]
theorem ref2_Small {w : World} {z : Int} (h : z.natAbs < 4294967296) : Pure Tryz.prog 82 #[.int .i64 z] w (ZR z) := by
  have fin : ∀ (b : Bool) (t : Nat) (w1 : World) (A : Option Addr) (n c : Nat), IsN w1 A n c t → (if b then -(t : Int) else (t : Int)) = z → Pure Tryz.prog 109 #[.bool b, .slice A n c] w1 fun r7 w8 => ∃ (b5 : Bool) (A6 : Option Addr) (n6 c6 : Nat), r7 = (.agg #[(.bool b5), (.slice A6 n6 c6)]) ∧ (∀ w9, Ext w.heap.size [71] w8 w9 → ZR z (.agg #[(.bool b5), (.slice A6 n6 c6)]) w9) := by
    intro b t w1 A n c k e
    refine Pure.mono (ref2_Make b k) ?_
    rintro v w2 b2 ⟨b', A', n', c', rfl, q⟩
    rw [e] at q
    exact ⟨_, _, _, _, rfl, fun w3 x3 => ⟨_, _, _, _, rfl, q.ext x3 (by decide)⟩⟩
  refine F.garboardref02_Small.vc _ _ _ ⟨fun h0 => ⟨by simp only [inR]; omega, by simp only [inR]; omega, fun w1 x1 => ?_⟩, fun h0 => ⟨by simp only [inR]; omega, fun w1 x1 => ?_⟩⟩
  · have e : -z = (z.natAbs : Int) := by omega
    rw [e]
    refine Pure.mono (ref_Small (x := z.natAbs) h) ?_
    rintro v w2 b2 ⟨A, n, c, rfl, k⟩
    exact ⟨_, _, _, rfl, fin true _ _ _ _ _ k (by rw [if_pos rfl]; omega)⟩
  · have e : z = (z.natAbs : Int) := by omega
    rw [e]
    refine Pure.mono (ref_Small (x := z.natAbs) h) ?_
    rintro v w2 b2 ⟨A, n, c, rfl, k⟩
    rw [← e]
    exact ⟨_, _, _, rfl, fin false _ _ _ _ _ k (by rw [if_neg (by decide)]; omega)⟩
end Go.Proofs.YtdnelnicnjplpaaGreatDoor.B

set_option maxRecDepth 100000
set_option maxHeartbeats 4000000
namespace Go.Proofs.YtdnelnicnjplpaaGreatDoor.F
open Go Go.RowKit Go.Proofs Go.Proofs.YtdnelnicnjplpaaGreatDoor.Vc
noncomputable def garboardref03_From.cx (w : World) (B : Nat) (R : Value → World → Prop) : Cx := ⟨Tryz.prog, 37, 60, Tryz.f37.results.toList, [], [], w, B, R⟩
theorem garboardref03_From.vc (u : ByteArray) (w : World) (R : Value → World → Prop)
    (h : (∀ v, Ext w.heap.size [] w v → (Pure Tryz.prog 73 #[.string u] v fun r5 w6 => ∃ i j l, r5 = .tuple #[.string i, .string j, .bool l] ∧ (Pure Tryz.prog 74 #[.string i] w6 fun r8 x => ∃ m, r8 = .bool m ∧ (((m = false) → (Pure Tryz.prog 38 #[.int .i64 0] x fun d1 d2 => ∃ y z A C D E G, d1 = .agg #[.bool y, .slice z A C, .slice D E G] ∧ (∀ H, Ext w.heap.size [73] d2 H → (R (.tuple #[.agg #[.bool y, .slice z A C, .slice D E G], .bool false]) H)))) ∧ (¬ (m = false) → (Pure Tryz.prog 75 #[.string j] x fun d3 I => ∃ n, d3 = .bool n ∧ (((n = false) → (Pure Tryz.prog 38 #[.int .i64 0] I fun d4 d5 => ∃ J K L M N O Q, d4 = .agg #[.bool J, .slice K L M, .slice N O Q] ∧ (∀ S, Ext w.heap.size [73] d5 S → (R (.tuple #[.agg #[.bool J, .slice K L M, .slice N O Q], .bool false]) S)))) ∧ (¬ (n = false) → (Pure Tryz.prog 76 #[.string i] I fun d6 d7 => ∃ g a b c, d6 = .agg #[.bool g, .slice a b c] ∧ (Pure Tryz.prog 77 #[.string j] d7 fun d8 T => ∃ d e f, d8 = .slice d e f ∧ (((l = false) → (∀ U, Ext w.heap.size [73] T U → (R (.tuple #[.agg #[.bool g, .slice a b c, .slice d e f], .bool true]) U))) ∧ (¬ (l = false) → (∀ V, Ext w.heap.size [] T V → (Pure Tryz.prog 78 #[(.int .u32 (1 : Int))] V fun d9 e0 => ∃ o p q, d9 = .slice o p q ∧ (Pure Tryz.prog 79 #[.slice d e f, .slice o p q] e0 fun e1 X => ∃ r, e1 = .int .i64 r ∧ (((r > 0) → (Pure Tryz.prog 80 #[.agg #[.bool g, .slice a b c]] X fun e2 Y => ∃ s, e2 = .int .i64 s ∧ (((s ≠ 0) → (Pure Tryz.prog 81 #[.slice a b c, .slice d e f] Y fun e3 e4 => ∃ Z a0 a1, e3 = .slice Z a0 a1 ∧ (Pure Tryz.prog 79 #[.slice Z a0 a1, .slice o p q] e4 fun e5 a2 => ∃ t, e5 = .int .i64 t ∧ (((¬ (t = 0)) → (Pure Tryz.prog 38 #[.int .i64 0] a2 fun e6 e7 => ∃ a3 a4 a5 a6 a7 a8 a9, e6 = .agg #[.bool a3, .slice a4 a5 a6, .slice a7 a8 a9] ∧ (∀ b0, Ext w.heap.size [73] e7 b0 → (R (.tuple #[.agg #[.bool a3, .slice a4 a5 a6, .slice a7 a8 a9], .bool false]) b0)))) ∧ (¬ (¬ (t = 0)) → (∀ b1, Ext w.heap.size [73] a2 b1 → (R (.tuple #[.agg #[.bool g, .slice a b c, .slice d e f], .bool true]) b1))))))) ∧ (¬ (s ≠ 0) → (Pure Tryz.prog 38 #[.int .i64 0] Y fun e8 e9 => ∃ b2 b3 b4 b5 b6 b7 b8, e8 = .agg #[.bool b2, .slice b3 b4 b5, .slice b6 b7 b8] ∧ (∀ b9, Ext w.heap.size [73] e9 b9 → (R (.tuple #[.agg #[.bool b2, .slice b3 b4 b5, .slice b6 b7 b8], .bool false]) b9))))))) ∧ (¬ (r > 0) → (Pure Tryz.prog 38 #[.int .i64 0] X fun f0 f1 => ∃ c0 c1 c2 c3 c4 c5 c6, f0 = .agg #[.bool c0, .slice c1 c2 c3, .slice c4 c5 c6] ∧ (∀ c7, Ext w.heap.size [73] f1 c7 → (R (.tuple #[.agg #[.bool c0, .slice c1 c2 c3, .slice c4 c5 c6], .bool false]) c7))))))))))))))))))))) :
    Pure Tryz.prog 37 #[.string u] w R :=
  pure_of_run (garboardref03_From.cx w w.heap.size R) 100000 follows Tryz.func37 rfl rfl rfl rfl rfl rfl rfl (Eq.mp (by kernel_rfl) h)

noncomputable def garboardref03_Int.cx (w : World) (B : Nat) (R : Value → World → Prop) : Cx := ⟨Tryz.prog, 38, 7, Tryz.f38.results.toList, [], [], w, B, R⟩
theorem garboardref03_Int.vc (a : Int) (w : World) (R : Value → World → Prop)
    (h : (∀ b, Ext w.heap.size [] w b → (Pure Tryz.prog 82 #[.int .i64 a] b fun m n => ∃ c d e f, m = .agg #[.bool c, .slice d e f] ∧ (Pure Tryz.prog 78 #[(.int .u32 (1 : Int))] n fun o p => ∃ g i j, o = .slice g i j ∧ (∀ l, Ext w.heap.size [73] p l → (R (.agg #[.bool c, .slice d e f, .slice g i j]) l)))))) :
    Pure Tryz.prog 38 #[.int .i64 a] w R :=
  pure_of_run (garboardref03_Int.cx w w.heap.size R) 100000 follows Tryz.func38 rfl rfl rfl rfl rfl rfl rfl (Eq.mp (by kernel_rfl) h)

noncomputable def garboardref03_Sign.cx (w : World) (B : Nat) (R : Value → World → Prop) : Cx := ⟨Tryz.prog, 48, 6, Tryz.f48.results.toList, [], [], w, B, R⟩
theorem garboardref03_Sign.vc (a : Bool) (b : Option Addr) (c d : Nat) (g : Option Addr) (i j : Nat) (w : World) (R : Value → World → Prop)
    (h : (∀ e, Ext w.heap.size [] w e → (Pure Tryz.prog 80 #[.agg #[.bool a, .slice b c d]] e fun l m => ∃ f, l = .int .i64 f ∧ (R (.int .i64 f) m)))) :
    Pure Tryz.prog 48 #[.agg #[.bool a, .slice b c d, .slice g i j]] w R :=
  pure_of_run (garboardref03_Sign.cx w w.heap.size R) 100000 follows Tryz.func48 rfl rfl rfl rfl rfl rfl rfl (Eq.mp (by kernel_rfl) h)

def garboardref03_split.L2 (a : ByteArray) (b : Int) (B : Nat) (w : World) (R : Value → World → Prop) : Prop := At Tryz.prog 73 24 (loopAt Tryz.f73 2) [(0, .v (.string a)), (5, .v (.int .i64 b))] [] B w R
noncomputable def garboardref03_split.cx (w : World) (B : Nat) (R : Value → World → Prop) : Cx := ⟨Tryz.prog, 73, 24, Tryz.f73.results.toList, [((true, 2), [0, 5], [])], [], w, B, R⟩
theorem garboardref03_split.L2.step (b : ByteArray) (a : Int) (B : Nat) (w : World) (R : Value → World → Prop)
    (h : (((a < (ByteArray.size b : Int)) → ((0 ≤ a ∧ a < (ByteArray.size b : Int)) ∧ (((((bt b a) : Int) = 47) → ((0 ≤ a ∧ a ≤ (ByteArray.size b : Int)) ∧ (inR .i64 (a + 1) ∧ ((0 ≤ (a + 1) ∧ (a + 1) ≤ (ByteArray.size b : Int)) ∧ (∀ c, Ext B [] w c → (R (.tuple #[(.string (ByteArray.extract b 0 (a).toNat)), (.string (ByteArray.extract b ((a + 1)).toNat (ByteArray.size b))), .bool true]) c)))))) ∧ (¬ (((bt b a) : Int) = 47) → (inR .i64 (a + 1) ∧ (garboardref03_split.L2 b (a + 1) B w R)))))) ∧ (¬ (a < (ByteArray.size b : Int)) → (R (.tuple #[.string b, (.string ⟨#[49]⟩), .bool false]) w)))) :
    garboardref03_split.L2 b a B w R :=
  loop_of_run (garboardref03_split.cx w B R) 100000 (loopAt Tryz.f73 2) _ _ follows Tryz.func73 rfl rfl rfl (Eq.mp (by kernel_rfl) h)
theorem garboardref03_split.vc (a : ByteArray) (w : World) (R : Value → World → Prop)
    (h : (garboardref03_split.L2 a (0 : Int) w.heap.size w R)) :
    Pure Tryz.prog 73 #[.string a] w R :=
  pure_of_run (garboardref03_split.cx w w.heap.size R) 100000 follows Tryz.func73 rfl rfl rfl rfl rfl rfl rfl (Eq.mp (by kernel_rfl) h)

noncomputable def garboardref03_Valid.cx (w : World) (B : Nat) (R : Value → World → Prop) : Cx := ⟨Tryz.prog, 91, 11, Tryz.f91.results.toList, [], [], w, B, R⟩
theorem garboardref03_Valid.vc (a : ByteArray) (w : World) (R : Value → World → Prop)
    (h : (Pure Tryz.prog 37 #[.string a] w fun d e => ∃ f g i j l m n b, d = .tuple #[.agg #[.bool f, .slice g i j, .slice l m n], .bool b] ∧ (∀ c, Ext w.heap.size [] e c → (R (.bool b) c)))) :
    Pure Tryz.prog 91 #[.string a] w R :=
  pure_of_run (garboardref03_Valid.cx w w.heap.size R) 100000 follows Tryz.func91 rfl rfl rfl rfl rfl rfl rfl (Eq.mp (by kernel_rfl) h)

end Go.Proofs.YtdnelnicnjplpaaGreatDoor.F

namespace Go.Proofs.YtdnelnicnjplpaaGreatDoor.B
open Go Go.RowKit Go.Proofs Go.Proofs.YtdnelnicnjplpaaGreatDoor.Vc

theorem head_by {s : ByteArray} (h : 0 < s.size) : bt s 0 = 45 ↔ (by_ s).head? = some 45 := by
  obtain ⟨c, hc, hb, _⟩ := bt_get (s := s) (i := 0) (by omega) (by omega)
  have e : (by_ s).head? = some c := by rw [List.head?_eq_getElem?]; exact hc
  rw [hb, e]
  constructor
  · intro h
    have h2 : c.toNat = 45 := by omega
    exact congrArg some (UInt8.toNat_inj.1 h2)
  · intro h
    cases h
    rfl
theorem by_tail {s : ByteArray} : by_ (s.extract ((1 : Int)).toNat s.size) = (by_ s).tail := by
  rw [by_extract, List.take_of_length_le (by rw [size_by]; omega)]
  cases by_ s <;> rfl
theorem isInt_of_head {t : Tx} (h : t.head? = some 45) : isInt t = (isNat t.tail && t.tail != [48]) := by unfold isInt; rw [if_pos h]
theorem isInt_of_not {t : Tx} (h : ¬ t.head? = some 45) : isInt t = isNat t := by unfold isInt; rw [if_neg h]

theorem ref2_Valid (s : ByteArray) (hs : s.size < 2147483648) (w : World) : Pure Tryz.prog 74 #[.string s] w fun v _ => v = .bool (isInt (by_ s)) := by
  have ht : ∀ w1, Pure Tryz.prog 75 #[.string s] w1 fun v _ => v = .bool (isNat (by_ s)) := fun w1 => ref_Valid s hs w1
  refine F.garboardref02_Valid.vc _ _ _ ⟨fun h1 => ⟨⟨by omega, by omega⟩, fun h2 => ⟨fun h3 => ⟨⟨by omega, by omega⟩, ?_⟩, fun h3 => ?_⟩, fun h2 => ?_⟩, fun h1 => ?_⟩
  · have hh := (head_by (by omega)).1 h2
    refine Pure.mono (ref_Valid _ (by rw [size_by, by_tail]; have := size_by s; simp; omega) w) ?_
    rintro v w2 _ rfl
    refine ⟨_, rfl, ?_⟩
    rw [by_tail, isInt_of_head hh]
    have hne : ((by_ s).tail != [48]) = true := by
      rw [bne_iff_ne]
      intro k
      refine h3 (by_inj ?_)
      show by_ s = [45, 48]
      cases hb : by_ s with
      | nil => rw [hb] at hh; cases hh
      | cons c r => rw [hb] at hh k; simp at hh k; rw [hh, k]
    rw [hne, Bool.and_true]
  · have e : s = ⟨#[45, 48]⟩ := Decidable.not_not.1 h3
    subst e
    refine congrArg Value.bool ?_
    decide
  · have hh : ¬ (by_ s).head? = some 45 := fun k => h2 ((head_by (by omega)).2 k)
    refine Pure.mono (ht w) ?_
    rintro v w2 _ rfl
    exact ⟨_, rfl, by rw [isInt_of_not hh]⟩
  · refine Pure.mono (ht w) ?_
    rintro v w2 _ rfl
    refine ⟨_, rfl, ?_⟩
    by_cases hh : (by_ s).head? = some 45
    · rw [isInt_of_head hh]
      have hl : (by_ s).length ≤ 1 := by rw [← size_by]; omega
      cases hb : by_ s with
      | nil => rw [hb] at hh; cases hh
      | cons c r =>
        rw [hb] at hh hl
        simp at hh hl
        subst hh
        subst hl
        rfl
    · rw [isInt_of_not hh]
theorem ref2_Read {s : ByteArray} (hs : s.size ≤ 900000) (h : isInt (by_ s) = true) (w : World) : Pure Tryz.prog 76 #[.string s] w (ZR (valI (by_ s))) := by
  have hne : by_ s ≠ [] := fun e => by rw [e] at h; cases h
  have hpos : 0 < s.size := by rw [size_by]; exact List.length_pos_iff.2 hne
  refine F.garboardref02_Read.vc _ _ _ ⟨⟨by omega, by omega⟩, fun h2 => ⟨⟨by omega, by omega⟩, fun w1 x1 => ?_⟩, fun h2 w1 x1 => ?_⟩
  · have hh := (head_by hpos).1 h2
    rw [isInt_of_head hh, Bool.and_eq_true] at h
    have hv : valI (by_ s) = -(valD (by_ s).tail : Int) := by unfold valI; rw [if_pos hh]
    refine Pure.mono (ref_From (by rw [size_by, by_tail]; have := size_by s; simp; omega) (by rw [by_tail]; exact h.1)) ?_
    rintro v w2 b2 ⟨A, n, c, rfl, k⟩
    rw [by_tail] at k
    refine ⟨_, _, _, rfl, fun w3 x3 => ⟨_, _, _, _, rfl, ?_, ?_⟩⟩
    · have h0 : valD (by_ s).tail ≠ 0 := fun e => by
        have := natT_of h.1
        rw [e, natT_0] at this
        rw [← this] at h
        exact absurd h.2 (by decide)
      symm
      exact decide_eq_true (by omega)
    · rw [hv, Int.natAbs_neg, Int.natAbs_natCast]
      exact k.ext x3 (by decide)
  · have hh : ¬ (by_ s).head? = some 45 := fun k => h2 ((head_by hpos).2 k)
    rw [isInt_of_not hh] at h
    have hv : valI (by_ s) = (valD (by_ s) : Int) := by unfold valI; rw [if_neg hh]
    refine Pure.mono (ref_From hs h) ?_
    rintro v w2 b2 ⟨A, n, c, rfl, k⟩
    refine ⟨_, _, _, rfl, fun w3 x3 => ⟨_, _, _, _, rfl, ?_, ?_⟩⟩
    · symm
      exact decide_eq_false (by omega)
    · rw [hv, Int.natAbs_natCast]
      exact k.ext x3 (by decide)

def IsQ (w : World) (b : Bool) (A : Option Addr) (n c : Nat) (A' : Option Addr) (n' c' : Nat) (r : Rat) : Prop := IsZ w b A n c r.num ∧ IsN w A' n' c' r.den
theorem IsQ.below {w w' : World} {b : Bool} {A A' : Option Addr} {n c n' c' : Nat} {r : Rat} (h : IsQ w b A n c A' n' c' r) (hb : Below w.heap.size w w') : IsQ w' b A n c A' n' c' r := ⟨h.1.below hb, h.2.below hb⟩
theorem IsQ.ext {w w' : World} {B : Nat} {ts : List Nat} {b : Bool} {A A' : Option Addr} {n c n' c' : Nat} {r : Rat} (h : IsQ w b A n c A' n' c' r) (e : Ext B ts w w') (ht : 112 ∉ ts) : IsQ w' b A n c A' n' c' r := ⟨h.1.ext e ht, h.2.ext e ht⟩
abbrev QR (r : Rat) (v : Value) (w : World) : Prop := ∃ b A n c A' n' c', v = .agg #[.bool b, .slice A n c, .slice A' n' c'] ∧ IsQ w b A n c A' n' c' r

theorem lim_of {k x : Nat} (h : x < 10 ^ k) (hk : k ≤ 900000) : x < Lim := lt_lim h hk
theorem sgn_num (r : Rat) : sgn r.num = cmpR r 0 := by
  rw [← num_sign]
  unfold sgn
  rcases Int.lt_trichotomy r.num 0 with h | h | h
  · rw [if_pos h, Int.sign_eq_neg_one_of_neg h]
  · rw [h]; rfl
  · rw [if_neg (by omega), if_pos h, Int.sign_eq_one_of_pos h]
theorem ref3_Sign {w : World} {b0 : Bool} {A0 A0' : Option Addr} {n0 c0 n0' c0' : Nat} {x : Rat} (hx : IsQ w b0 A0 n0 c0 A0' n0' c0' x) :
    Pure Tryz.prog 48 #[.agg #[.bool b0, .slice A0 n0 c0, .slice A0' n0' c0']] w fun v _ => v = .int .i64 (cmpR x 0) := by
  refine F.garboardref03_Sign.vc _ _ _ _ _ _ _ _ _ fun w1 x1 => Pure.mono (ref2_Signum (hx.1.ext x1 (by decide))) ?_
  rintro v w2 _ rfl
  exact ⟨_, rfl, by rw [sgn_num]⟩
theorem ref3_Int {w : World} {z : Int} (h : z.natAbs < 4294967296) : Pure Tryz.prog 38 #[.int .i64 z] w (QR (z : Rat)) := by
  refine F.garboardref03_Int.vc _ _ _ fun w1 x1 => Pure.mono (ref2_Small h) ?_
  rintro v w2 b2 ⟨b, A, n, c, rfl, k⟩
  refine ⟨_, _, _, _, rfl, Pure.mono (ref_Small (x := 1) (by omega)) ?_⟩
  rintro v w3 b3 ⟨A', n', c', rfl, k'⟩
  exact ⟨_, _, _, rfl, fun w4 x4 => ⟨_, _, _, _, _, _, _, rfl, (k.below b3).ext x4 (by decide), k'.ext x4 (by decide)⟩⟩
end Go.Proofs.YtdnelnicnjplpaaGreatDoor.B

namespace Go.Proofs.YtdnelnicnjplpaaGreatDoor.B
open Go Go.RowKit Go.Proofs Go.Proofs.YtdnelnicnjplpaaGreatDoor.Vc

theorem split_at {l : Tx} {i : Nat} (h : l[i]? = some 47) (hn : 47 ∉ l.take i) : bef l = l.take i ∧ aft l = l.drop (i + 1) := by
  obtain ⟨hi, e⟩ := List.getElem?_eq_some_iff.1 h
  have e1 : l = l.take i ++ 47 :: l.drop (i + 1) := by rw [← e, ← List.drop_eq_getElem_cons hi, List.take_append_drop]
  constructor
  · conv => lhs; rw [e1]
    exact bef_app hn
  · conv => lhs; rw [e1]
    exact aft_app hn
theorem split_loop {B : Nat} {w : World} (s : ByteArray) (hs : s.size < 2147483648) {R : Value → World → Prop} (h1 : 47 ∈ by_ s → ∀ w1, Ext B [] w w1 → R (.tuple #[.string (st (bef (by_ s))), .string (st (aft (by_ s))), .bool true]) w1) (h2 : 47 ∉ by_ s → R (.tuple #[.string s, .string ⟨#[49]⟩, .bool false]) w) :
    ∀ (d i : Nat), s.size - i = d → i ≤ s.size → 47 ∉ (by_ s).take i → F.garboardref03_split.L2 s i B w R := by
  intro d
  induction d with
  | zero =>
    intro i hd hi hn
    rw [List.take_of_length_le (by rw [← size_by]; omega)] at hn
    exact F.garboardref03_split.L2.step _ _ _ _ _ ⟨fun h => by omega, fun _ => h2 hn⟩
  | succ d ih =>
    intro i hd hi hn
    obtain ⟨c, hc, hb, hdr⟩ := bt_get (s := s) (i := (i : Int)) (by omega) (by omega)
    rw [Int.toNat_natCast] at hc
    have hil : i < (by_ s).length := by rw [← size_by]; omega
    refine F.garboardref03_split.L2.step _ _ _ _ _ ⟨fun _ => ⟨⟨by omega, by omega⟩, fun h => ⟨⟨by omega, by omega⟩, by simp only [inR]; omega, ⟨by omega, by omega⟩, fun w1 x1 => ?_⟩, fun h => ⟨by simp only [inR]; omega, ?_⟩⟩, fun h => by omega⟩
    · rw [hb] at h
      have hc47 : c = 47 := UInt8.toNat_inj.1 (show c.toNat = 47 by omega)
      subst hc47
      obtain ⟨q1, q2⟩ := split_at hc hn
      have e1 : ByteArray.extract s 0 ((i : Int)).toNat = st (bef (by_ s)) := by
        apply by_inj
        rw [by_extract, by_st, q1, Int.toNat_natCast]
        rfl
      have e2 : ByteArray.extract s ((i : Int) + 1).toNat s.size = st (aft (by_ s)) := by
        apply by_inj
        rw [by_extract, by_st, q2, List.take_of_length_le (by rw [size_by]; omega), show ((i : Int) + 1).toNat = i + 1 by omega]
      rw [e1, e2]
      exact h1 (List.mem_of_getElem? hc) w1 x1
    · have e3 : (i : Int) + 1 = ((i + 1 : Nat) : Int) := by omega
      rw [e3]
      refine ih (i + 1) (by omega) (by omega) ?_
      rw [List.take_add_one, hc]
      simp only [Option.toList_some, List.mem_append, List.mem_singleton, not_or]
      refine ⟨hn, fun e => h ?_⟩
      rw [hb, ← e]
      rfl
theorem ref3_split (s : ByteArray) (hs : s.size < 2147483648) (w : World) : Pure Tryz.prog 73 #[.string s] w fun v _ => (47 ∈ by_ s → v = .tuple #[.string (st (bef (by_ s))), .string (st (aft (by_ s))), .bool true]) ∧ (47 ∉ by_ s → v = .tuple #[.string s, .string ⟨#[49]⟩, .bool false]) :=
  F.garboardref03_split.vc _ _ _ (split_loop s hs (fun h _ _ => ⟨fun _ => rfl, fun k => absurd h k⟩) (fun h => ⟨fun k => absurd k h, fun _ => rfl⟩) s.size 0 (by omega) (by omega) (by simp))

theorem bef_len (t : Tx) : (bef t).length ≤ t.length := (List.takeWhile_sublist _).length_le
theorem aft_len (t : Tx) : (aft t).length ≤ t.length := by
  unfold aft
  have := (List.dropWhile_sublist (p := (· != 47)) (l := t)).length_le
  rw [List.length_tail]
  omega
theorem lt_valD {t : Tx} (h : isNat t = true) : valD t < 10 ^ t.length := by
  have := lt_natT (valD t)
  rwa [natT_of h] at this
theorem lt_valI {t : Tx} (h : isInt t = true) : (valI t).natAbs < 10 ^ t.length := by
  have := lt_intT (valI t)
  rwa [intT_of h] at this

theorem ref3_FromL (s : ByteArray) (hs' : s.size ≤ 300000) (w : World) : Pure Tryz.prog 37 #[.string s] w fun v w' => ∃ b A n c A' n' c', v = .tuple #[.agg #[.bool b, .slice A n c, .slice A' n' c'], .bool (vR s)] ∧ (vR s = true → IsQ w' b A n c A' n' c' (qR s)) := by
  have hsl := size_by s
  have inv : vR s = false → ∀ w1, Pure Tryz.prog 38 #[.int .i64 (0 : Int)] w1 fun r13 w14 => ∃ (b10 : Bool) (A11 : Option Addr) (n11 c11 : Nat) (A12 : Option Addr) (n12 c12 : Nat), r13 = (.agg #[(.bool b10), (.slice A11 n11 c11), (.slice A12 n12 c12)]) ∧ (∀ w15, Ext w.heap.size [73] w14 w15 →
      (∃ b A n c A' n' c', (.tuple #[(.agg #[(.bool b10), (.slice A11 n11 c11), (.slice A12 n12 c12)]), (.bool false)] : Value) = .tuple #[.agg #[.bool b, .slice A n c, .slice A' n' c'], .bool (vR s)] ∧ (vR s = true → IsQ w15 b A n c A' n' c' (qR s)))) := by
    intro hv w1
    refine Pure.mono (ref3_Int (z := 0) (by decide)) ?_
    rintro v w2 _ ⟨b, A, n, c, A', n', c', rfl, _⟩
    exact ⟨_, _, _, _, _, _, _, rfl, fun w3 _ => ⟨_, _, _, _, _, _, _, by rw [hv], fun k => by rw [hv] at k; cases k⟩⟩
  refine F.garboardref03_From.vc _ _ _ fun w1 x1 => Pure.mono (ref3_split s (by omega) w1) ?_
  rintro v w2 b2 ⟨hsl1, hsl2⟩
  by_cases h47 : 47 ∈ by_ s
  · have hv := hsl1 h47
    subst hv
    have lb := bef_len (by_ s)
    have la := aft_len (by_ s)
    have hrat : vR s = (isInt (bef (by_ s)) && bef (by_ s) != [48] && isNat (aft (by_ s)) && aft (by_ s) != [48] && aft (by_ s) != [49] && Nat.gcd (valI (bef (by_ s))).natAbs (valD (aft (by_ s))) == 1) := by
      unfold vR isRat
      rw [if_pos h47]
    refine ⟨_, _, _, rfl, Pure.mono (ref2_Valid (st (bef (by_ s))) (by rw [size_by, by_st]; omega) w2) ?_⟩
    rintro v w3 b3 rfl
    rw [by_st]
    refine ⟨_, rfl, fun h1 => inv (by rw [hrat, h1]; rfl) w3, fun h1 => ?_⟩
    have h1 : isInt (bef (by_ s)) = true := by simpa using h1
    refine Pure.mono (ref_Valid (st (aft (by_ s))) (by rw [size_by, by_st]; omega) w3) ?_
    rintro v w4 b4 rfl
    rw [by_st]
    refine ⟨_, rfl, fun h2 => inv (by rw [hrat, h2]; simp) w4, fun h2 => ?_⟩
    have h2 : isNat (aft (by_ s)) = true := by simpa using h2
    refine Pure.mono (ref2_Read (s := st (bef (by_ s))) (by rw [size_by, by_st]; omega) h1 w4) ?_
    rintro v w5 b5 ⟨b, A, n, c, rfl, kp⟩
    rw [by_st] at kp
    refine ⟨_, _, _, _, rfl, Pure.mono (ref_From (s := st (aft (by_ s))) (by rw [size_by, by_st]; omega) h2) ?_⟩
    rintro v w6 b6 ⟨A', n', c', rfl, kd⟩
    rw [by_st] at kd
    have kp6 := kp.below b6
    obtain ⟨p, hp⟩ : ∃ p, p = valI (bef (by_ s)) := ⟨_, rfl⟩
    obtain ⟨d, hd⟩ : ∃ d, d = valD (aft (by_ s)) := ⟨_, rfl⟩
    have lp : p.natAbs < Lim := by rw [hp]; exact lim_of (lt_valI h1) (by omega)
    have ld : d < Lim := by rw [hd]; exact lim_of (lt_valD h2) (by omega)
    have l1 : 1 < Lim := lim_of (k := 1) (by decide) (by omega)
    rw [← hp] at kp6 hrat
    rw [← hd] at kd hrat
    rw [h1, h2] at hrat
    have np : (bef (by_ s) != [48]) = decide (p ≠ 0) := by
      rw [hp]
      have e := intT_of h1
      by_cases h0 : valI (bef (by_ s)) = 0
      · rw [h0] at e ⊢
        rw [← e]
        decide +kernel
      · have : bef (by_ s) ≠ [48] := fun k => h0 (intT_zero_iff.1 (by rw [e]; exact k))
        rw [decide_eq_true h0]
        simpa using this
    have nd : (aft (by_ s) != [48] && aft (by_ s) != [49]) = decide (1 < d) := by
      rw [hd]
      have e := natT_of h2
      by_cases h0 : 1 < valD (aft (by_ s))
      · rw [decide_eq_true h0]
        have k0 : aft (by_ s) ≠ [48] := fun k => by
          have := natT_zero_iff.1 (e.trans k)
          omega
        have k1 : aft (by_ s) ≠ [49] := fun k => by
          have := natT_one_iff.1 (e.trans k)
          omega
        simp [k0, k1]
      · rw [decide_eq_false h0]
        rcases (by omega : valD (aft (by_ s)) = 0 ∨ valD (aft (by_ s)) = 1) with k | k
        · rw [k, natT_0] at e; rw [← e]; rfl
        · rw [k, natT_1] at e; rw [← e]; rfl
    have hrat2 : vR s = (decide (p ≠ 0) && decide (1 < d) && (Nat.gcd p.natAbs d == 1)) := by
      rw [hrat, np, ← nd]
      simp [Bool.and_assoc]
    refine ⟨_, _, _, rfl, fun h => absurd h (by decide), fun _ w7 x7 => Pure.mono (ref_Small (x := 1) (by omega)) ?_⟩
    rintro v w8 b8 ⟨A1, n1, c1, rfl, k1⟩
    have kp8 := (kp6.ext x7 (by decide)).below b8
    have kd8 := (kd.ext x7 (by decide)).below b8
    refine ⟨_, _, _, rfl, Pure.mono (ref_Cmp kd8 k1 ld l1) ?_⟩
    rintro v w9 b9 rfl
    refine ⟨_, rfl, fun hc => ?_, fun hc => inv ?_ w9⟩
    · have hd1 : 1 < d := by
        simp only [cmpI] at hc
        split at hc
        · omega
        · split at hc <;> omega
      refine Pure.mono (ref2_Signum (kp8.below b9)) ?_
      rintro v w10 b10 rfl
      refine ⟨_, rfl, fun hg => ?_, fun hg => inv ?_ w10⟩
      · have hp0 : p ≠ 0 := fun k => hg (by rw [k]; rfl)
        refine Pure.mono (ref_Common ((kp8.below b9).below b10).2 ((kd8.below b9).below b10) lp ld) ?_
        rintro v w11 b11 ⟨A2, n2, c2, rfl, kg⟩
        have lg : Nat.gcd p.natAbs d < Lim := Nat.lt_of_le_of_lt (Nat.le_of_dvd (by omega) (Nat.gcd_dvd_right _ _)) ld
        refine ⟨_, _, _, rfl, Pure.mono (ref_Cmp kg (((k1.below b9).below b10).below b11) lg l1) ?_⟩
        rintro v w12 b12 rfl
        refine ⟨_, rfl, fun hne => inv ?_ w12, fun he w13 x13 => ?_⟩
        · have : Nat.gcd p.natAbs d ≠ 1 := fun k => hne (by rw [k]; rfl)
          rw [hrat2]
          have : (Nat.gcd p.natAbs d == 1) = false := by simpa using this
          rw [this, Bool.and_false]
        · have hg1 : Nat.gcd p.natAbs d = 1 := by
            have he := Decidable.not_not.1 he
            simp only [cmpI] at he
            split at he
            · omega
            · split at he <;> omega
          have hT : vR s = true := by rw [hrat2, decide_eq_true hp0, decide_eq_true hd1, hg1]; rfl
          refine ⟨_, _, _, _, _, _, _, by rw [hT], fun _ => ?_⟩
          have eq : qR s = mkRat p d := by
            unfold qR valR
            rw [if_pos h47, hp, hd]
          obtain ⟨en, ed⟩ := mkRat_red (p := p) (show d ≠ 0 by omega)
          rw [hg1] at en ed
          rw [eq]
          refine ⟨?_, ?_⟩
          · rw [show (mkRat p d).num = p by rw [en]; simp]
            exact ((((kp8.below b9).below b10).below b11).below b12).ext x13 (by decide)
          · rw [show (mkRat p d).den = d by rw [ed]; simp]
            exact ((((kd8.below b9).below b10).below b11).below b12).ext x13 (by decide)
      · have : p = 0 := by
          have hg := Decidable.not_not.1 hg
          unfold sgn at hg
          split at hg
          · omega
          · split at hg <;> omega
        rw [hrat2, this]
        rfl
    · have : ¬ 1 < d := by
        intro k
        apply hc
        simp only [cmpI]
        rw [if_neg (by omega), if_pos (by omega)]
        decide
      rw [hrat2, decide_eq_false this, Bool.and_false, Bool.false_and]
  · have hv := hsl2 h47
    subst hv
    have hrat : vR s = isInt (by_ s) := by
      unfold vR isRat
      rw [if_neg h47]
    refine ⟨_, _, _, rfl, Pure.mono (ref2_Valid s (by omega) w2) ?_⟩
    rintro v w3 b3 rfl
    refine ⟨_, rfl, fun h1 => inv (by rw [hrat, h1]) w3, fun h1 => ?_⟩
    have h1 : isInt (by_ s) = true := by simpa using h1
    refine Pure.mono (ref_Valid ⟨#[49]⟩ (by decide) w3) ?_
    rintro v w4 b4 rfl
    refine ⟨_, rfl, fun h => absurd h (by decide), fun _ => ?_⟩
    refine Pure.mono (ref2_Read (s := s) (by omega) h1 w4) ?_
    rintro v w5 b5 ⟨b, A, n, c, rfl, kp⟩
    refine ⟨_, _, _, _, rfl, Pure.mono (ref_From (s := ⟨#[49]⟩) (by decide) (by decide)) ?_⟩
    rintro v w6 b6 ⟨A', n', c', rfl, kd⟩
    have kp6 := kp.below b6
    refine ⟨_, _, _, rfl, fun _ w7 x7 => ⟨_, _, _, _, _, _, _, by rw [hrat, h1], fun _ => ?_⟩, fun h => absurd rfl h⟩
    have eq : qR s = (valI (by_ s) : Rat) := by
      unfold qR valR
      rw [if_neg h47]
    rw [eq]
    exact ⟨kp6.ext x7 (by decide), kd.ext x7 (by decide)⟩
theorem ref3_From (s : ByteArray) (hs : SmS s) (w : World) : Pure Tryz.prog 37 #[.string s] w fun v w' => ∃ b A n c A' n' c', v = .tuple #[.agg #[.bool b, .slice A n c, .slice A' n' c'], .bool (vR s)] ∧ (vR s = true → IsQ w' b A n c A' n' c' (qR s)) := ref3_FromL s (Nat.le_trans hs (by decide)) w
theorem ref3_Valid (s : ByteArray) (hs : SmS s) (w : World) : Pure Tryz.prog 91 #[.string s] w fun v _ => v = .bool (vR s) := by
  refine F.garboardref03_Valid.vc _ _ _ (Pure.mono (ref3_From s hs w) ?_)
  rintro v w2 _ ⟨b, A, n, c, A', n', c', rfl, _⟩
  exact ⟨_, _, _, _, _, _, _, _, rfl, fun w3 _ => rfl⟩
theorem ref47_NumL {s : ByteArray} (hs : s.size ≤ 300000) (hv : vR s = true) (w : World) : Pure Tryz.prog 49 #[.string s] w (QR (qR s)) := by
  refine F.garboardref47_Num.vc _ _ _ fun w1 x1 => Pure.mono (ref3_FromL s hs w1) ?_
  rintro v w2 _ ⟨b, A, n, c, A', n', c', rfl, k⟩
  exact ⟨_, _, _, _, _, _, _, _, rfl, fun w3 x3 => ⟨_, _, _, _, _, _, _, rfl, (k hv).ext x3 (by decide)⟩⟩
theorem ref47_Num {s : ByteArray} (hs : SmS s) (hv : vR s = true) (w : World) : Pure Tryz.prog 49 #[.string s] w (QR (qR s)) := ref47_NumL (Nat.le_trans hs (by decide)) hv w
end Go.Proofs.YtdnelnicnjplpaaGreatDoor.B

namespace Go.Proofs.YtdnelnicnjplpaaGreatDoor.B
open Go Go.RowKit Go.Proofs Go.Proofs.YtdnelnicnjplpaaGreatDoor.Vc

def fewP (p : Pa) : Bool := decide (p.mass.size ≤ 40 ∧ p.vol.size ≤ 40 ∧ p.worth.size ≤ 40 ∧ p.name.size ≤ 70)
def fewH (h : Ho) : Bool := decide (h.room.size ≤ 40 ∧ h.most.size ≤ 40 ∧ h.x.size ≤ 40 ∧ h.y.size ≤ 40 ∧ h.z.size ≤ 40 ∧ h.name.size ≤ 70)
def fewC (ps : List Pa) (hs : List Ho) : Bool := ps.all fewP && hs.all fewH && decide (ps.length ≤ 7 ∧ hs.length ≤ 7)
structure CgRaw (w : World) (A0 : Option Addr) (n0 : Nat) (A1 : Option Addr) (n1 : Nat) (ps : List Pa) (hs : List Ho) : Prop where
  p : SlR w A0 7 (ps.map Pa.row)
  h : SlR w A1 7 (hs.map Ho.row)
  lp : ps.length = n0
  lh : hs.length = n1
  np : n0 < 9223372036854775808
  nh : n1 < 9223372036854775808
theorem CgRaw.keep {w w' : World} {A0 A1 : Option Addr} {n0 n1 : Nat} {ps : List Pa} {hs : List Ho} (h : CgRaw w A0 n0 A1 n1 ps hs) (hb : Below w.heap.size w w') : CgRaw w' A0 n0 A1 n1 ps hs :=
  ⟨h.p.keep hb (Nat.le_refl _), h.h.keep hb (Nat.le_refl _), h.lp, h.lh, h.np, h.nh⟩
theorem CgRaw.few {w : World} {A0 A1 : Option Addr} {n0 n1 : Nat} {ps : List Pa} {hs : List Ho} (h : CgRaw w A0 n0 A1 n1 ps hs) (hf : fewC ps hs = true) : CgIn w A0 n0 A1 n1 ps hs := by
  unfold fewC at hf
  rw [Bool.and_eq_true, Bool.and_eq_true] at hf
  obtain ⟨⟨h1, h2⟩, h3⟩ := hf
  have h3 := of_decide_eq_true h3
  refine ⟨h.p, h.h, h.lp, h.lh, fun p hp => ?_, fun x hx => ?_, by have := h.lp; omega, by have := h.lh; omega⟩
  · have := of_decide_eq_true (List.all_eq_true.1 h1 p hp)
    exact ⟨by unfold SmS; omega, by unfold SmS; omega, by unfold SmS; omega, by omega⟩
  · have := of_decide_eq_true (List.all_eq_true.1 h2 x hx)
    exact ⟨by unfold SmS; omega, by unfold SmS; omega, by unfold SmS; omega, by unfold SmS; omega, by unfold SmS; omega, by omega⟩
theorem all_false {α : Type} {p : α → Bool} {l : List α} {x : α} (hx : x ∈ l) (h : p x = false) : l.all p = false := by
  rw [Bool.eq_false_iff]
  intro k
  rw [List.all_eq_true.1 k x hx] at h
  cases h
theorem take_all {α : Type} {p : α → Prop} {l : List α} {i : Nat} (hi : i < l.length) (h : ∀ x ∈ l.take i, p x) (hx : p l[i]) : ∀ x ∈ l.take (i + 1), p x := by
  intro x hm
  rw [List.take_add_one, List.getElem?_eq_getElem hi] at hm
  rcases List.mem_append.1 hm with h' | h'
  · exact h x h'
  · simp only [Option.toList_some, List.mem_singleton] at h'
    subst h'
    exact hx
theorem few_L8 {w0 : World} {A0 A1 : Option Addr} {n0 c0 n1 c1 : Nat} {ps : List Pa} {hs : List Ho} (hc : CgRaw w0 A0 n0 A1 n1 ps hs) (hp : ps.all fewP = true) {R : Value → World → Prop} (hR : ∀ w, R (.bool (fewC ps hs)) w) :
    ∀ (d i : Nat) (w : World), n1 - i = d → i ≤ n1 → Below w0.heap.size w0 w → (∀ x ∈ hs.take i, fewH x = true) → F.garboardref47_Few.L8 i A0 n0 c0 A1 n1 c1 w0.heap.size w R := by
  have hlp := hc.lp
  have hlh := hc.lh
  have hnh := hc.nh
  intro d
  induction d with
  | zero =>
    intro i w hd hi hw hx
    rw [List.take_of_length_le (by omega)] at hx
    have hh : hs.all fewH = true := List.all_eq_true.2 hx
    refine F.garboardref47_Few.L8.step _ _ _ _ _ _ _ _ _ _ ⟨fun h => by omega, fun _ => ⟨fun h => ?_, fun h => ?_⟩⟩
    · have := hR w
      unfold fewC at this
      rw [hp, hh, Bool.true_and, Bool.true_and] at this
      have e : decide (((n1 : Nat) : Int) ≤ 7) = decide (ps.length ≤ 7 ∧ hs.length ≤ 7) := by rw [decide_eq_decide]; omega
      rw [e]
      exact this
    · have := hR w
      unfold fewC at this
      rw [hp, hh, Bool.true_and, Bool.true_and, decide_eq_false (by omega)] at this
      exact this
  | succ d ih =>
    intro i w hd hi hw hx
    have hil : i < hs.length := by omega
    have e3 : (i : Int) + 1 = ((i + 1 : Nat) : Int) := by omega
    obtain ⟨hb, a, hA, hcell, _⟩ := (hc.h.keep hw (Nat.le_refl _)).at_ (fun _ => rfl) hc.lh hil
    have bad : fewH hs[i] = false → ∀ w, R (.bool false) w := fun h w => by
      have := hR w
      unfold fewC at this
      rwa [all_false (List.getElem_mem hil) h, Bool.and_false, Bool.false_and] at this
    refine F.garboardref47_Few.L8.step _ _ _ _ _ _ _ _ _ _ ⟨fun _ => ⟨hb, a, hA, _, _, _, _, _, _, _, hcell, fun h w2 _ => bad (decide_eq_false (by omega)) w2, fun h1 => ⟨fun h w2 _ => bad (decide_eq_false (by omega)) w2, fun h2 => ⟨fun h w2 _ => bad (decide_eq_false (by omega)) w2, fun h3 => ⟨fun h w2 _ => bad (decide_eq_false (by omega)) w2, fun h4 => ⟨fun h w2 _ => bad (decide_eq_false (by omega)) w2, fun h5 => ⟨fun h w2 _ => bad (decide_eq_false (by omega)) w2, fun h6 => ⟨by simp only [inR]; omega, fun w2 x2 => ?_⟩⟩⟩⟩⟩⟩⟩, fun h => by omega⟩
    rw [e3]
    exact ih (i + 1) w2 (by omega) (by omega) (kE hw x2) (take_all hil hx (decide_eq_true (by omega)))
theorem few_L2 {w0 : World} {A0 A1 : Option Addr} {n0 c0 n1 c1 : Nat} {ps : List Pa} {hs : List Ho} (hc : CgRaw w0 A0 n0 A1 n1 ps hs) {R : Value → World → Prop} (hR : ∀ w, R (.bool (fewC ps hs)) w) :
    ∀ (d i : Nat) (w : World), n0 - i = d → i ≤ n0 → Below w0.heap.size w0 w → (∀ x ∈ ps.take i, fewP x = true) → F.garboardref47_Few.L2 i A0 n0 c0 A1 n1 c1 w0.heap.size w R := by
  have hlp := hc.lp
  have hlh := hc.lh
  have hnp := hc.np
  intro d
  induction d with
  | zero =>
    intro i w hd hi hw hx
    rw [List.take_of_length_le (by omega)] at hx
    exact F.garboardref47_Few.L2.step _ _ _ _ _ _ _ _ _ _ ⟨fun h => by omega, fun _ => few_L8 hc (List.all_eq_true.2 hx) hR n1 0 w rfl (by omega) hw (by simp)⟩
  | succ d ih =>
    intro i w hd hi hw hx
    have hil : i < ps.length := by omega
    have e3 : (i : Int) + 1 = ((i + 1 : Nat) : Int) := by omega
    obtain ⟨hb, a, hA, hcell, _⟩ := (hc.p.keep hw (Nat.le_refl _)).at_ (fun _ => rfl) hc.lp hil
    have bad : fewP ps[i] = false → ∀ w, R (.bool false) w := fun h w => by
      have := hR w
      unfold fewC at this
      rwa [all_false (List.getElem_mem hil) h, Bool.false_and, Bool.false_and] at this
    refine F.garboardref47_Few.L2.step _ _ _ _ _ _ _ _ _ _ ⟨fun _ => ⟨hb, a, hA, _, _, _, _, _, _, _, hcell, fun h w2 _ => bad (decide_eq_false (by omega)) w2, fun h1 => ⟨fun h w2 _ => bad (decide_eq_false (by omega)) w2, fun h2 => ⟨fun h w2 _ => bad (decide_eq_false (by omega)) w2, fun h3 => ⟨fun h w2 _ => bad (decide_eq_false (by omega)) w2, fun h4 => ⟨by simp only [inR]; omega, fun w2 x2 => ?_⟩⟩⟩⟩⟩, fun h => by omega⟩
    rw [e3]
    exact ih (i + 1) w2 (by omega) (by omega) (kE hw x2) (take_all hil hx (decide_eq_true (by omega)))
theorem r47_Few {w : World} {A0 A1 : Option Addr} {n0 c0 n1 c1 : Nat} {ps : List Pa} {hs : List Ho} (hc : CgRaw w A0 n0 A1 n1 ps hs) :
    Pure Tryz.prog 12 #[.agg #[.slice A0 n0 c0, .slice A1 n1 c1]] w fun v _ => v = .bool (fewC ps hs) :=
  F.garboardref47_Few.vc _ _ _ _ _ _ _ _ fun w1 x1 => few_L2 hc (fun _ => rfl) n0 0 w1 rfl (by omega) (k0 x1) (by simp)

theorem r47_Same {w0 : World} {A A1 : Option Addr} {n n1 c c1 : Nat} {l l1 : List Sw} (h : SlR w0 A 3 (l.map Sw.row)) (h1 : SlR w0 A1 3 (l1.map Sw.row)) (hlen : l.length = n) (hlen1 : l1.length = n1) (hn : n < 2147483648) :
    Pure Tryz.prog 27 #[.slice A n c, .slice A1 n1 c1] w0 fun y _ => y = .bool (decide (l = l1)) := by
  have key : n = n1 → ∀ (d i : Nat) (w : World), n - i = d → i ≤ n → Below w0.heap.size w0 w → l.take i = l1.take i → F.garboardref47_Same.L4 A n c A1 n1 c1 i w0.heap.size w fun y _ => y = .bool (decide (l = l1)) := by
    intro e d
    induction d with
    | zero =>
      intro i w hd hi hw ht
      rw [List.take_of_length_le (by omega), List.take_of_length_le (by omega)] at ht
      exact F.garboardref47_Same.L4.step _ _ _ _ _ _ _ _ _ _ ⟨fun h => by omega, fun _ => by rw [decide_eq_true ht]⟩
    | succ d ih =>
      intro i w hd hi hw ht
      have hil : i < l.length := by omega
      have hil1 : i < l1.length := by omega
      obtain ⟨hb, a, hA, hc, _⟩ := (h.keep hw (Nat.le_refl _)).at_ (fun _ => rfl) hlen hil
      obtain ⟨hb2, a2, hA2, hc2, _⟩ := (h1.keep hw (Nat.le_refl _)).at_ (fun _ => rfl) hlen1 hil1
      refine F.garboardref47_Same.L4.step _ _ _ _ _ _ _ _ _ _ ⟨fun _ => ⟨hb, a, hA, _, _, _, hc, hb2, a2, hA2, _, _, _, hc2, fun k w2 _ => ?_, fun k => ⟨by simp only [inR]; omega, fun w2 x2 => ?_⟩⟩, fun h => by omega⟩
      · refine congrArg _ (decide_eq_false fun e2 => k ?_).symm
        have e3 : l[i] = l1[i] := by simp only [e2]
        rw [e3]
        exact ⟨rfl, rfl, rfl, trivial⟩
      · have e3 : (i : Int) + 1 = ((i + 1 : Nat) : Int) := by omega
        rw [e3]
        refine ih (i + 1) w2 (by omega) (by omega) (kE hw x2) ?_
        obtain ⟨q1, q2, q3, _⟩ := Decidable.not_not.1 k
        have e4 : l[i] = l1[i] := by
          cases hx : l[i]
          cases hy : l1[i]
          rw [hx, hy] at q1 q2 q3
          simp only at q1 q2 q3
          subst q1; subst q2; subst q3
          rfl
        rw [List.take_add_one, List.take_add_one, ht, List.getElem?_eq_getElem hil, List.getElem?_eq_getElem hil1, e4]
  refine F.garboardref47_Same.vc _ _ _ _ _ _ _ _ ⟨fun h => ?_, fun h => key (by omega) n 0 w0 rfl (by omega) (Below.refl _ _) (by simp)⟩
  refine congrArg _ (decide_eq_false fun e => ?_).symm
  subst e
  omega

theorem el_Pas : El Tryz.prog 22 66 7 88 := El.of (by kernel_rfl)
theorem el_Hos : El Tryz.prog 23 61 7 104 := El.of (by kernel_rfl)
theorem rowP_len {v : List Pa} : ∀ r ∈ v.map Pa.row, r.length = 7 := by
  intro r hr; obtain ⟨x, _, rfl⟩ := List.mem_map.1 hr; rfl
theorem rowP_cell {v : List Pa} : ∀ r ∈ v.map Pa.row, ∀ u ∈ r, isCell u = true := by
  intro r hr u hu
  obtain ⟨x, _, rfl⟩ := List.mem_map.1 hr
  simp only [Pa.row, List.mem_cons, List.not_mem_nil, or_false] at hu
  rcases hu with rfl | rfl | rfl | rfl | rfl | rfl | rfl <;> rfl
theorem rowH_len {v : List Ho} : ∀ r ∈ v.map Ho.row, r.length = 7 := by
  intro r hr; obtain ⟨x, _, rfl⟩ := List.mem_map.1 hr; rfl
theorem rowH_cell {v : List Ho} : ∀ r ∈ v.map Ho.row, ∀ u ∈ r, isCell u = true := by
  intro r hr u hu
  obtain ⟨x, _, rfl⟩ := List.mem_map.1 hr
  simp only [Ho.row, List.mem_cons, List.not_mem_nil, or_false] at hu
  rcases hu with rfl | rfl | rfl | rfl | rfl | rfl | rfl <;> rfl
theorem rowS_len {v : List Sw} : ∀ r ∈ v.map Sw.row, r.length = 3 := by
  intro r hr; obtain ⟨x, _, rfl⟩ := List.mem_map.1 hr; rfl
theorem rowS_cell {v : List Sw} : ∀ r ∈ v.map Sw.row, ∀ u ∈ r, isCell u = true := by
  intro r hr u hu
  obtain ⟨x, _, rfl⟩ := List.mem_map.1 hr
  simp only [Sw.row, List.mem_cons, List.not_mem_nil, or_false] at hu
  rcases hu with rfl | rfl | rfl <;> rfl

structure CpS (w0 : World) (A0 : Option Addr) (n0 : Nat) (A1 : Option Addr) (n1 : Nat) (ps : List Pa) (hs : List Ho) (p h : Option (Option Addr × Nat × Nat)) (fp fh : Bool) (w : World) : Prop where
  cg : CgIn w A0 n0 A1 n1 ps hs
  b : Below w0.heap.size w0 w
  p : ∀ x, p = some x → OwnR w w0.heap.size 66 x.1 x.2.1 x.2.2 7 (if fp then ps.map Pa.row else [])
  h : ∀ x, h = some x → OwnR w w0.heap.size 61 x.1 x.2.1 x.2.2 7 (if fh then hs.map Ho.row else [])
section
variable {w0 : World} {A0 A1 : Option Addr} {n0 c0 n1 c1 : Nat} {ps : List Pa} {hs : List Ho} {p h : Option (Option Addr × Nat × Nat)} {fp fh : Bool} {w : World}
theorem CpS.next {w' : World} (k : CpS w0 A0 n0 A1 n1 ps hs p h fp fh w) (hb : Below w.heap.size w w') : CpS w0 A0 n0 A1 n1 ps hs p h fp fh w' :=
  ⟨k.cg.keep hb, kP k.b hb, fun x hx => (k.p x hx).below hb, fun x hx => (k.h x hx).below hb⟩
theorem CpS.ext {ts : List Nat} {G : World → Prop} (k : CpS w0 A0 n0 A1 n1 ps hs p h fp fh w) (hts : ts = []) (hG : ∀ w', CpS w0 A0 n0 A1 n1 ps hs p h fp fh w' → G w') : ∀ w', Ext w0.heap.size ts w w' → G w' := by
  intro w' x
  subst hts
  exact hG w' (k.next (ext_low x))
theorem CpS.bp {tys : List Nat} {K : Option Addr → Nat → Nat → World → Prop} (k : CpS w0 A0 n0 A1 n1 ps hs none h fp fh w) (hK : ∀ A c w', CpS w0 A0 n0 A1 n1 ps hs (some (A, 0, c)) h false fh w' → K A 0 c w') :
    RunOk Tryz.prog (Instr.buildSlice 22 0 #[]) w.heap.size tys w fun r w1 => ∃ A n c, r = .slice A n c ∧ K A n c w1 :=
  runOk_lit el_Pas [] (by simp) (by simp) (Nat.le_refl _) fun A c w' ho hb => hK A c w' ⟨k.cg.keep hb, kP k.b hb, fun x hx => (by cases hx; exact ho.base k.b.size), fun x hx => (k.h x hx).below hb⟩
theorem CpS.bh {tys : List Nat} {K : Option Addr → Nat → Nat → World → Prop} (k : CpS w0 A0 n0 A1 n1 ps hs p none fp fh w) (hK : ∀ A c w', CpS w0 A0 n0 A1 n1 ps hs p (some (A, 0, c)) fp false w' → K A 0 c w') :
    RunOk Tryz.prog (Instr.buildSlice 23 0 #[]) w.heap.size tys w fun r w1 => ∃ A n c, r = .slice A n c ∧ K A n c w1 :=
  runOk_lit el_Hos [] (by simp) (by simp) (Nat.le_refl _) fun A c w' ho hb => hK A c w' ⟨k.cg.keep hb, kP k.b hb, fun x hx => (k.p x hx).below hb, fun x hx => (by cases hx; exact ho.base k.b.size)⟩
theorem CpS.ap {tys : List Nat} {ty : Nat} {A : Option Addr} {n c : Nat} {K : Option Addr → Nat → Nat → World → Prop} (hc0 : CgIn w0 A0 n0 A1 n1 ps hs) (hz : A0 = none → c0 = 0) (ht : 66 ∉ tys) (k : CpS w0 A0 n0 A1 n1 ps hs (some (A, n, c)) h false fh w) (hK : ∀ A' n' c' w', CpS w0 A0 n0 A1 n1 ps hs (some (A', n', c')) h true fh w' → K A' n' c' w') :
    RunOk Tryz.prog (Builtin.append_ #[22, 22] ty #[.slice A n c, .slice A0 n0 c0]) w0.heap.size tys w fun r w1 => ∃ A n c, r = .slice A n c ∧ K A n c w1 := by
  have hl := k.cg.lp
  have hnp := k.cg.np
  have ho : OwnR w w0.heap.size 66 A n c 7 [] := by simpa using k.p _ rfl
  have hn : n = 0 := by have := ho.len; simpa using this.symm
  subst hn
  refine app_part el_Pas (Nat.le_refl _) ho k.cg.p (by simpa using hl) rowP_len rowP_cell hz k.b.size (by omega) ht fun A' c' w' o hg hb => hK _ _ _ _ ⟨hc0.keep (k.b.trans hb), k.b.trans hb, fun x hx => ?_, fun x hx => ?_⟩
  · cases hx
    simpa using o
  · refine (k.h x hx).other fun a ha => ?_
    obtain ⟨cs, hcs⟩ := (k.h x hx).cells a ha
    refine hg.block _ ((k.h x hx).blk a ha).2 fun e => ?_
    cases A with
    | none => simp [Value.ownBlock] at e
    | some a2 =>
      simp [Value.ownBlock] at e
      obtain ⟨cs2, hcs2⟩ := ho.cells a2 rfl
      exact two_types hcs hcs2 (by decide) (by first | exact e | exact e.symm)
theorem CpS.ah {tys : List Nat} {ty : Nat} {A : Option Addr} {n c : Nat} {K : Option Addr → Nat → Nat → World → Prop} (hc0 : CgIn w0 A0 n0 A1 n1 ps hs) (hz : A1 = none → c1 = 0) (ht : 61 ∉ tys) (k : CpS w0 A0 n0 A1 n1 ps hs p (some (A, n, c)) fp false w) (hK : ∀ A' n' c' w', CpS w0 A0 n0 A1 n1 ps hs p (some (A', n', c')) fp true w' → K A' n' c' w') :
    RunOk Tryz.prog (Builtin.append_ #[23, 23] ty #[.slice A n c, .slice A1 n1 c1]) w0.heap.size tys w fun r w1 => ∃ A n c, r = .slice A n c ∧ K A n c w1 := by
  have hl := k.cg.lh
  have hnp := k.cg.nh
  have ho : OwnR w w0.heap.size 61 A n c 7 [] := by simpa using k.h _ rfl
  have hn : n = 0 := by have := ho.len; simpa using this.symm
  subst hn
  refine app_part el_Hos (Nat.le_refl _) ho k.cg.h (by simpa using hl) rowH_len rowH_cell hz k.b.size (by omega) ht fun A' c' w' o hg hb => hK _ _ _ _ ⟨hc0.keep (k.b.trans hb), k.b.trans hb, fun x hx => ?_, fun x hx => ?_⟩
  · refine (k.p x hx).other fun a ha => ?_
    obtain ⟨cs, hcs⟩ := (k.p x hx).cells a ha
    refine hg.block _ ((k.p x hx).blk a ha).2 fun e => ?_
    cases A with
    | none => simp [Value.ownBlock] at e
    | some a2 =>
      simp [Value.ownBlock] at e
      obtain ⟨cs2, hcs2⟩ := ho.cells a2 rfl
      exact two_types hcs hcs2 (by decide) (by first | exact e | exact e.symm)
  · cases hx
    simpa using o
end
set_option maxRecDepth 20000 in
theorem r47_Copy {w : World} {A0 A1 : Option Addr} {n0 c0 n1 c1 : Nat} {ps : List Pa} {hs : List Ho} (hc : CgIn w A0 n0 A1 n1 ps hs) (hz0 : A0 = none → c0 = 0) (hz1 : A1 = none → c1 = 0) :
    Pure Tryz.prog 14 #[.agg #[.slice A0 n0 c0, .slice A1 n1 c1]] w fun v w' => ∃ B0 d0 B1 d1, v = .agg #[.slice B0 n0 d0, .slice B1 n1 d1] ∧ CgIn w' B0 n0 B1 n1 ps hs := by
  refine F.garboardref47_Copy.vc _ _ _ _ _ _ _ _ fun w1 x1 => ?_
  have s1 : CpS w A0 n0 A1 n1 ps hs none none false false w1 := ⟨hc.keep (k0 x1), k0 x1, fun x hx => (by cases hx), fun x hx => (by cases hx)⟩
  have fin : ∀ {P H : Option Addr} {np nh cp ch : Nat} {w2 : World}, CpS w A0 n0 A1 n1 ps hs (some (P, np, cp)) (some (H, nh, ch)) true true w2 → ∀ w3, Ext w.heap.size [25] w2 w3 →
      ∃ B0 d0 B1 d1, Value.agg #[.slice P np cp, .slice H nh ch] = .agg #[.slice B0 n0 d0, .slice B1 n1 d1] ∧ CgIn w3 B0 n0 B1 n1 ps hs := by
    intro P H np nh cp ch w2 k w3 x3
    have hp : OwnR w2 w.heap.size 66 P np cp 7 (ps.map Pa.row) := k.p _ rfl
    have hh : OwnR w2 w.heap.size 61 H nh ch 7 (hs.map Ho.row) := k.h _ rfl
    have lp := hp.len
    have lh := hh.len
    simp only [List.length_map] at lp lh
    rw [hc.lp] at lp
    rw [hc.lh] at lh
    subst lp
    subst lh
    exact ⟨_, _, _, _, rfl, ⟨(hp.extT x3 (by decide)).sl, (hh.extT x3 (by decide)).sl, hc.lp, hc.lh, hc.sp, hc.sh, hc.np, hc.nh⟩⟩
  repeat' first
    | (with_reducible refine And.intro ?_ ?_)
    | exact fin (by assumption)
    | (with_reducible refine CpS.ext (by assumption) rfl fun _ _ => ?_)
    | (with_reducible refine CpS.bp (by assumption) fun _ _ _ _ => ?_)
    | (with_reducible refine CpS.bh (by assumption) fun _ _ _ _ => ?_)
    | (with_reducible refine CpS.ap hc hz0 ?_ (by assumption) fun _ _ _ _ _ => ?_; · decide)
    | (with_reducible refine CpS.ah hc hz1 ?_ (by assumption) fun _ _ _ _ _ => ?_; · decide)
end Go.Proofs.YtdnelnicnjplpaaGreatDoor.B

namespace Go.Proofs.YtdnelnicnjplpaaGreatDoor.B
open Go Go.RowKit Go.Proofs Go.Proofs.YtdnelnicnjplpaaGreatDoor.Vc

theorem run_shr (s : Nat) (hs : s < 18446744073709551616) (w : World) : (binOp .shr 135 (.int .u64 (s : Int)) (.int .u64 1)).run Tryz.prog w = .ok (.int .u64 ((s / 2 : Nat) : Int)) w := by
  have e : binOp .shr 135 (.int .u64 (s : Int)) (.int .u64 1) = Op.shift .shr .u64 (s : Int) .u64 1 := rfl
  rw [e, shift_shr .u64 .u64 _ _ (by decide) (by decide)]
  rfl

end Go.Proofs.YtdnelnicnjplpaaGreatDoor.B

namespace Go.Proofs.YtdnelnicnjplpaaGreatDoor.B
open Go Go.RowKit Go.Proofs Go.Proofs.YtdnelnicnjplpaaGreatDoor.Vc

def lbS (t : Sw) (l : List Sw) : Nat := (l.takeWhile fun x => decide (befS x t)).length
theorem lbS_le (t : Sw) (l : List Sw) : lbS t l ≤ l.length := (List.takeWhile_sublist _).length_le
theorem lbS_eq {t : Sw} {l : List Sw} {i : Nat} (hi : i ≤ l.length) (h1 : ∀ k a, k < i → l[k]? = some a → befS a t) (h2 : ∀ a, l[i]? = some a → ¬ befS a t) : lbS t l = i := by
  induction l generalizing i with
  | nil => simp at hi; subst hi; rfl
  | cons a r ih =>
    cases i with
    | zero =>
      have := h2 a rfl
      simp [lbS, this]
    | succ i =>
      have ha := h1 0 a (by omega) rfl
      have := ih (i := i) (by simpa using hi) (fun k b hk hb => h1 (k + 1) b (by omega) (by simpa using hb)) (fun b hb => h2 b (by simpa using hb))
      unfold lbS at *
      simp [ha, this]
theorem befS_le {l : List Sw} (h : SrtS l) {i j : Nat} {a b t : Sw} (hij : i ≤ j) (ha : l[i]? = some a) (hb : l[j]? = some b) (hbt : befS b t) : befS a t := by
  by_cases e : i = j
  · subst e; rw [ha] at hb; cases hb; exact hbt
  · obtain ⟨hi, rfl⟩ := List.getElem?_eq_some_iff.1 ha
    obtain ⟨hj, rfl⟩ := List.getElem?_eq_some_iff.1 hb
    exact bef_trans (List.pairwise_iff_getElem.1 h i j hi hj (by omega)) hbt
def foundS (t : Sw) (l : List Sw) : Bool := match l[lbS t l]? with
  | some x => decide (x.hold = t.hold ∧ x.parcel = t.parcel)
  | none => false
theorem search_stows {w0 : World} {A : Option Addr} {n c : Nat} {l : List Sw} (hl : SlR w0 A 3 (l.map Sw.row)) (hlen : l.length = n) (hn : n < 1000000) (hs : SrtS l) (t : Sw) :
    Pure Tryz.prog 65 #[.slice A n c, t.val, .func (.func 53) #[] #[]] w0 fun v _ => v = .tuple #[.int .i64 (lbS t l : Nat), .bool (foundS t l)] := by
  have fin : ∀ (i : Nat) (w : World), i ≤ n → Below w0.heap.size w0 w → (∀ k a, k < i → l[k]? = some a → befS a t) → (∀ k a, i ≤ k → l[k]? = some a → ¬ befS a t) →
      F.slices_BinarySearchFunc_api_Stow_api_Stow_api_Stow.L3 A n c 53 #[] #[] n i i t.hold t.parcel t.units w0.heap.size w fun v _ => v = .tuple #[.int .i64 (lbS t l : Nat), .bool (foundS t l)] := by
    intro i w hi hw h1 h2
    have hlb : lbS t l = i := lbS_eq (by omega) h1 fun a ha => h2 i a (Nat.le_refl _) ha
    refine F.slices_BinarySearchFunc_api_Stow_api_Stow_api_Stow.L3.step _ _ _ _ _ _ _ _ _ _ _ _ _ _ _ ⟨fun h => by omega, fun _ => ⟨fun h => ?_, fun h w2 _ => ?_⟩⟩
    · have hil : i < l.length := by omega
      obtain ⟨hb, a, hA, hc, _⟩ := (hl.keep hw (Nat.le_refl _)).at_ (fun _ => rfl) hlen hil
      refine ⟨hb, a, hA, _, _, _, hc, by kernel_rfl, fun w2 x2 => Pure.mono (cargo_order l[i] t w2) ?_⟩
      rintro v w3 _ rfl
      refine ⟨_, rfl, ?_⟩
      unfold foundS
      rw [hlb, List.getElem?_eq_getElem hil]
      have e : decide (ordS l[i] t = 0) = decide (l[i].hold = t.hold ∧ l[i].parcel = t.parcel) := by rw [decide_eq_decide]; exact ordS_eq
      rw [e]
    · unfold foundS
      rw [hlb, List.getElem?_eq_none (by omega)]
  have key : ∀ (d i j : Nat) (w : World), j - i ≤ d → i ≤ j → j ≤ n → Below w0.heap.size w0 w → (∀ k a, k < i → l[k]? = some a → befS a t) → (∀ k a, j ≤ k → l[k]? = some a → ¬ befS a t) →
      F.slices_BinarySearchFunc_api_Stow_api_Stow_api_Stow.L3 A n c 53 #[] #[] n i j t.hold t.parcel t.units w0.heap.size w fun v _ => v = .tuple #[.int .i64 (lbS t l : Nat), .bool (foundS t l)] := by
    intro d
    induction d with
    | zero =>
      intro i j w hd hij hj hw h1 h2
      have : i = j := by omega
      subst this
      exact fin i w hj hw h1 h2
    | succ d ih =>
      intro i j w hd hij hj hw h1 h2
      by_cases he : i = j
      · subst he
        exact fin i w hj hw h1 h2
      obtain ⟨h, hh⟩ : ∃ h, h = (i + j) / 2 := ⟨_, rfl⟩
      have hil : h < l.length := by omega
      refine F.slices_BinarySearchFunc_api_Stow_api_Stow_api_Stow.L3.step _ _ _ _ _ _ _ _ _ _ _ _ _ _ _ ⟨fun _ => ⟨by simp only [inR]; omega, by simp only [inR]; omega, ?_⟩, fun h => by omega⟩
      have es : (i : Int) + (j : Int) = ((i + j : Nat) : Int) := by omega
      rw [es]
      refine ⟨_, _, run_shr (i + j) (by omega) w, Below.refl _ _, Nat.le_refl _, fun _ _ _ _ _ => rfl, _, rfl, ?_⟩
      rw [← hh]
      obtain ⟨hb, a, hA, hc, _⟩ := (hl.keep hw (Nat.le_refl _)).at_ (fun _ => rfl) hlen hil
      refine ⟨by simp only [inR]; omega, hb, a, hA, _, _, _, hc, by kernel_rfl, fun w2 x2 => Pure.mono (cargo_order l[h] t w2) ?_⟩
      have hw2 := kE hw x2
      rintro v w3 b3 rfl
      refine ⟨_, rfl, fun h3 => ⟨by simp only [inR]; omega, ?_⟩, fun h3 => ?_⟩
      · have e3 : (h : Int) + 1 = ((h + 1 : Nat) : Int) := by omega
        rw [e3]
        exact ih (h + 1) j w3 (by omega) (by omega) hj (kP hw2 b3) (fun k a hk ha => befS_le hs (by omega) ha (List.getElem?_eq_getElem hil) (ordS_lt.1 h3)) h2
      · refine ih i h w3 (by omega) (by omega) (by omega) (kP hw2 b3) h1 fun k a hk ha hb => h3 (ordS_lt.2 ?_)
        exact befS_le hs hk (List.getElem?_eq_getElem hil) ha hb
  refine F.slices_BinarySearchFunc_api_Stow_api_Stow_api_Stow.vc _ _ _ _ _ _ _ _ _ _ _ fun w1 x1 => ?_
  refine key n 0 n w1 (by omega) (by omega) (by omega) (k0 x1) (fun k a h => by omega) fun k a hk ha => ?_
  rw [List.getElem?_eq_none (by omega)] at ha
  cases ha

def Oth (A : Option Addr) (w w' : World) : Prop := w.heap.size ≤ w'.heap.size ∧ ∀ k, k < w.heap.size → (∀ a, A = some a → k ≠ a.block) → w'.heap[k]? = w.heap[k]?
theorem Oth.refl {A : Option Addr} {w : World} : Oth A w w := ⟨Nat.le_refl _, fun _ _ _ => rfl⟩
theorem Oth.trans {A : Option Addr} {w w1 w2 : World} (h : Oth A w w1) (k : Oth A w1 w2) : Oth A w w2 :=
  ⟨Nat.le_trans h.1 k.1, fun j hj ha => (k.2 j (Nat.lt_of_lt_of_le hj h.1) ha).trans (h.2 j hj ha)⟩
theorem Oth.low {A : Option Addr} {w w1 : World} (h : Below w.heap.size w w1) : Oth A w w1 := ⟨h.size, fun k hk _ => h.block k hk⟩
theorem Oth.wrote {A : Option Addr} {w w1 : World} {b ty : Nat} {cs : List Value} (h : Wrote w w1 b ty cs) (ha : ∃ a, A = some a ∧ a.block = b) : Oth A w w1 :=
  ⟨by rw [h.size]; exact Nat.le_refl _, fun k hk hka => h.rest k fun e => by obtain ⟨a, h1, h2⟩ := ha; exact hka a h1 (e.trans h2.symm)⟩
theorem Oth.fresh {A : Option Addr} {w0 w w1 : World} {b ty : Nat} {cs : List Value} (h : Wrote w w1 b ty cs) (k : Oth A w0 w) (hb : w0.heap.size ≤ b) : Oth A w0 w1 :=
  ⟨by rw [h.size]; exact k.1, fun j hj ha => (h.rest j (by omega)).trans (k.2 j hj ha)⟩

theorem index_stows {w0 : World} {A : Option Addr} {n c : Nat} {l : List Sw} (hl : SlR w0 A 3 (l.map Sw.row)) (hlen : l.length = n) (hn : n < 2147483648) {f : Nat} {a k : Array Value} (hcall : callable Tryz.prog f = true) {p : Sw → Bool}
    (hf : ∀ w, Below w0.heap.size w0 w → ∀ x : Sw, Pure Tryz.prog f (a.toList ++ ([x.val] : List Value) ++ k.toList).toArray w fun v _ => v = .bool (p x)) {R : Value → World → Prop} {r : Int} (hR : ∀ w, R (.int .i64 r) w) :
    ∀ (d i : Nat) (w : World), n - i = d → i ≤ n → Below w0.heap.size w0 w → r = idxG p i (l.drop i) → F.slices_IndexFunc_api_Stow_api_Stow.L2 A n c f a k n i w0.heap.size w R := by
  intro d
  induction d with
  | zero =>
    intro i w hd hi hw hr
    rw [List.drop_eq_nil_of_le (by omega)] at hr
    subst hr
    exact F.slices_IndexFunc_api_Stow_api_Stow.L2.step _ _ _ _ _ _ _ _ _ _ _ ⟨fun h => by omega, fun _ => hR w⟩
  | succ d ih =>
    intro i w hd hi hw hr
    have hil : i < l.length := by omega
    rw [List.drop_eq_getElem_cons hil, idxG] at hr
    obtain ⟨hb, ad, hA, hcell, _⟩ := (hl.keep hw (Nat.le_refl _)).at_ (fun _ => rfl) hlen hil
    refine F.slices_IndexFunc_api_Stow_api_Stow.L2.step _ _ _ _ _ _ _ _ _ _ _ ⟨fun _ => ?_, fun h => by omega⟩
    refine ⟨hb, ad, hA, _, _, _, hcell, hcall, Pure.mono (hf w hw l[i]) ?_⟩
    rintro v w2 b2 rfl
    refine ⟨_, rfl, fun h => ?_, fun h => ⟨by simp only [inR]; omega, ?_⟩⟩
    · rw [if_pos h] at hr
      subst hr
      exact hR w2
    · rw [if_neg (by simp [h])] at hr
      have e3 : (i : Int) + 1 = ((i + 1 : Nat) : Int) := by omega
      rw [e3]
      exact ih (i + 1) w2 (by omega) (by omega) (kP hw b2) hr
theorem find_none {α : Type} {p : α → Bool} {l : List α} (h : l.findIdx? p = none) : l.filter (fun x => !p x) = l := by
  rw [List.filter_eq_self]
  intro x hx
  have := List.findIdx?_eq_none_iff.1 h x hx
  simp [this]
theorem find_some {α : Type} {p : α → Bool} {l : List α} {i : Nat} (h : l.findIdx? p = some i) : i < l.length ∧ (l.take (i + 1)).filter (fun x => !p x) = l.take i := by
  obtain ⟨hi, hp, hlt⟩ := List.findIdx?_eq_some_iff_getElem.1 h
  refine ⟨hi, ?_⟩
  rw [List.take_add_one, List.getElem?_eq_getElem hi, List.filter_append]
  have e1 : (l.take i).filter (fun x => !p x) = l.take i := by
    rw [List.filter_eq_self]
    intro x hx
    obtain ⟨j, hj, rfl⟩ := List.mem_take_iff_getElem.1 hx
    have := hlt j (by omega)
    simpa using this
  rw [e1]
  simp [hp]
theorem zeroSw : (Tryz.prog.info? 35).bind (·.zero) = some (.agg #[.int .i64 0, .int .i64 0, .int .i64 0]) := by kernel_rfl

theorem delf_loop {w0 : World} {B : Nat} {A : Option Addr} {n c : Nat} {l : List Sw} (hlen : l.length = n) (hn : n < 2147483648) (hnc : n ≤ c) {f : Nat} {a k : Array Value} (hcall : callable Tryz.prog f = true) {p : Sw → Bool}
    (hf : ∀ w, Oth A w0 w → ∀ x : Sw, Pure Tryz.prog f (a.toList ++ ([x.val] : List Value) ++ k.toList).toArray w fun v _ => v = .bool (p x)) {R : Value → World → Prop}
    (hR : ∀ m w, Oth A w0 w → OwnR w B 35 A m c 3 ((l.filter fun x => !p x).map Sw.row) → R (.slice A m c) w) :
    ∀ (d i j : Nat) (cur : List Sw) (w : World), n - j = d → j ≤ n → i ≤ j → cur.length = n → OwnR w B 35 A n c 3 (cur.map Sw.row) → cur.take i = (l.take j).filter (fun x => !p x) → cur.drop j = l.drop j → Oth A w0 w → B ≤ w.heap.size →
      F.slices_DeleteFunc_api_Stow_api_Stow.L5 A n c f a k i j B w R := by
  intro d
  induction d with
  | zero =>
    intro i j cur w hd hj hij hcl ho ht hdr hoth hBw
    have : j = n := by omega
    subst this
    rw [List.take_of_length_le (l := l) (by omega)] at ht
    refine F.slices_DeleteFunc_api_Stow_api_Stow.L5.step _ _ _ _ _ _ _ _ _ _ _ ⟨fun h => by omega, fun _ => ⟨by omega, ?_⟩⟩
    have os := ho.short (m := i) (by omega)
    rw [← List.map_take, ht] at os
    rw [Int.toNat_natCast]
    refine runOk_clear el_Sws zeroSw (by simp [Value.cells, isCell]) os hij hnc fun w2 o2 b2 k2 => ⟨by omega, hR i w2 (hoth.trans ⟨b2.size, k2⟩) o2⟩
  | succ d ih =>
    intro i j cur w hd hj hij hcl ho ht hdr hoth hBw
    have hjl : j < l.length := by omega
    have hjc : j < cur.length := by omega
    have ej : cur[j] = l[j] := by
      have h1 : (cur.drop j)[0]? = (l.drop j)[0]? := by rw [hdr]
      rw [List.getElem?_drop, List.getElem?_drop] at h1
      simpa [hjl, hjc] using h1
    have e3 : (j : Int) + 1 = ((j + 1 : Nat) : Int) := by omega
    have e4 : (i : Int) + 1 = ((i + 1 : Nat) : Int) := by omega
    have hdr' : cur.drop (j + 1) = l.drop (j + 1) := by
      have := congrArg (List.drop 1) hdr
      simpa [List.drop_drop] using this
    have ht1 : l.take (j + 1) = l.take j ++ [l[j]] := by rw [List.take_add_one, List.getElem?_eq_getElem hjl]; rfl
    obtain ⟨hb, ad, hA, hcell, _⟩ := ho.sl.at_ (fun _ => rfl) hcl hjc
    refine F.slices_DeleteFunc_api_Stow_api_Stow.L5.step _ _ _ _ _ _ _ _ _ _ _ ⟨fun _ => ⟨hb, ad, hA, _, _, _, hcell, ?_⟩, fun h => by omega⟩
    refine runOk_alloc 35 zeroSw hBw fun w2 hnew b2 hlt => ?_
    refine ⟨_, _, hBw, rfl, hnew, by simp [Value.cells], rfl, fun w3 hw3 => ?_⟩
    have hcells : w3.heap[w.heap.size]? = some (.cells (cur[j].row).toArray 35 (0, 0)) := by
      have := hw3.at_
      simpa [setCells, Value.cells] using this
    have hoth3 : Oth A w0 w3 := Oth.fresh hw3 (hoth.trans (Oth.low b2)) hoth.1
    have hblk : ∀ x, A = some x → x.block < w.heap.size := fun x hx => (ho.blk x hx).2
    have o3 : OwnR w3 B 35 A n c 3 (cur.map Sw.row) := (ho.below b2).other fun x hx => hw3.rest _ (by have := hblk x hx; show x.block ≠ w.heap.size; omega)
    refine ⟨_, _, _, box_all hcells, hcall, Pure.mono (hf w3 hoth3 cur[j]) ?_⟩
    rintro v w4 b4 rfl
    have hoth4 := hoth3.trans (Oth.low (A := A) b4)
    have o4 := o3.below b4
    have hB4 : B ≤ w4.heap.size := by have := b4.size; have := hw3.size; omega
    refine ⟨_, rfl, fun hkeep => ?_, fun hdel => ⟨by simp only [inR]; omega, ?_⟩⟩
    · have hpj : p l[j] = false := by rw [← ej]; exact hkeep
      obtain ⟨g1, a2, hA2, cs, g2, g3, g4, g5, g6⟩ := o4.set0 (i := (i : Int)) (by omega) (by omega) (cur[j].row) ((cur[i]'(by omega)).row) (by rw [Int.toNat_natCast, List.getElem?_map, List.getElem?_eq_getElem (by omega)]; rfl) rfl
      refine ⟨_, _, _, box_all (heap_keep hcells b4), g1, a2, hA2, cs, _, g2, g3, g4, g5, rfl, fun w5 hw5 => ⟨by simp only [inR]; omega, by simp only [inR]; omega, ?_⟩⟩
      have o5 := g6 w5 hw5
      rw [Int.toNat_natCast] at o5
      have hadd : (a2.add ((i : Int).toNat * 3)).block = a2.block := by unfold Addr.add; split <;> rfl
      rw [e3, e4]
      refine ih (i + 1) (j + 1) (cur.set i cur[j]) w5 (by omega) (by omega) (by omega) (by simp [hcl]) (by rw [List.map_set]; exact o5) ?_ ?_ (hoth4.trans (Oth.wrote hw5 ⟨a2, hA2, hadd.symm⟩)) (by rw [hw5.size]; exact hB4)
      · rw [List.take_add_one, List.getElem?_set_self (by omega), List.take_set_of_le (by omega), ht, ht1, List.filter_append, ej]
        simp [hpj]
      · rw [List.drop_set_of_lt (by omega)]
        exact hdr'
    · have hpj : p l[j] = true := by rw [← ej]; simpa using hdel
      rw [e3]
      refine ih i (j + 1) cur w4 (by omega) (by omega) (by omega) hcl o4 ?_ hdr' hoth4 hB4
      rw [ht, ht1, List.filter_append]
      simp [hpj]
theorem DeleteFuncS {w : World} {B : Nat} (hB : B ≤ w.heap.size) {A : Option Addr} {n c : Nat} {l : List Sw} (ho : OwnR w B 35 A n c 3 (l.map Sw.row)) (hn : n < 2147483648) {f : Nat} {a k : Array Value} (hcall : callable Tryz.prog f = true) {p : Sw → Bool}
    (hf : ∀ w', Oth A w w' → ∀ x : Sw, Pure Tryz.prog f (a.toList ++ ([x.val] : List Value) ++ k.toList).toArray w' fun v _ => v = .bool (p x)) :
    PureB Tryz.prog 101 #[.slice A n c, .func (.func f) a k] B w fun v w' => ∃ m, v = .slice A m c ∧ OwnR w' B 35 A m c 3 ((l.filter fun x => !p x).map Sw.row) ∧ Oth A w w' := by
  have hlen : l.length = n := by have := ho.len; simpa using this
  have hnc := ho.len_le
  refine F.slices_DeleteFunc_api_Stow_api_Stow.vcB _ _ _ _ _ _ _ _ hB _ ?_
  refine Pure.mono (F.slices_IndexFunc_api_Stow_api_Stow.vc _ _ _ _ _ _ _ _ (index_stows ho.sl hlen hn hcall (fun w' hb x => hf w' (Oth.low hb) x) (R := fun v _ => v = .int .i64 (idxG p 0 l)) (fun _ => rfl) n 0 w rfl (by omega) (Below.refl _ _) rfl)) ?_
  rintro v w2 b2 rfl
  have key := idxG_find p l 0
  cases hx : l.findIdx? p with
  | none =>
    rw [hx] at key
    simp only at key
    rw [key]
    refine ⟨_, rfl, fun _ => ⟨n, rfl, ?_, Oth.low b2⟩, fun h => absurd rfl h⟩
    rw [find_none hx]
    exact ho.below b2
  | some i =>
    rw [hx] at key
    simp only [Nat.zero_add] at key
    rw [key]
    obtain ⟨hil, hfi⟩ := find_some hx
    have e3 : (i : Int) + 1 = ((i + 1 : Nat) : Int) := by omega
    refine ⟨_, rfl, fun h => by omega, fun _ => ⟨by simp only [inR]; omega, ?_⟩⟩
    rw [e3]
    exact delf_loop (w0 := w) hlen hn hnc hcall hf (fun m w' hoth o => ⟨m, rfl, o, hoth⟩) (n - (i + 1)) i (i + 1) l w2 rfl (by omega) (by omega) hlen (ho.below b2) hfi.symm rfl (Oth.low b2) (Nat.le_trans hB b2.size)
end Go.Proofs.YtdnelnicnjplpaaGreatDoor.B

namespace Go.Proofs.YtdnelnicnjplpaaGreatDoor.B
open Go Go.RowKit Go.Proofs Go.Proofs.YtdnelnicnjplpaaGreatDoor.Vc

theorem flatten_take {sz : Nat} {rows : List (List Value)} (h : ∀ r ∈ rows, r.length = sz) {m : Nat} (hm : m ≤ rows.length) : (rows.take m).flatten = rows.flatten.take (m * sz) := by
  have hfl : (rows.take m).flatten.length = m * sz := by rw [flatten_len _ fun r hr => h r (List.mem_of_mem_take hr), List.length_take, Nat.min_eq_left hm]
  have : rows.flatten = (rows.take m).flatten ++ (rows.drop m).flatten := by rw [← List.flatten_append, List.take_append_drop]
  conv => rhs; rw [this]
  rw [List.take_append_of_le_length (by omega), List.take_of_length_le (l := (rows.take m).flatten) (by omega)]
theorem flatten_drop {sz : Nat} {rows : List (List Value)} (h : ∀ r ∈ rows, r.length = sz) {m : Nat} (hm : m ≤ rows.length) : (rows.drop m).flatten = rows.flatten.drop (m * sz) := by
  have hfl : (rows.take m).flatten.length = m * sz := by rw [flatten_len _ fun r hr => h r (List.mem_of_mem_take hr), List.length_take, Nat.min_eq_left hm]
  have : rows.flatten = (rows.take m).flatten ++ (rows.drop m).flatten := by rw [← List.flatten_append, List.take_append_drop]
  conv => rhs; rw [this]
  have e0 : (rows.take m).flatten.drop (m * sz) = [] := List.drop_eq_nil_of_le (by omega)
  rw [List.drop_append_of_le_length (by omega), e0, List.nil_append]

theorem runOk_appendFits {t ty e sz bytes : Nat} (el : El Tryz.prog t e sz bytes) {B0 B : Nat} (hBB : B0 ≤ B) {tys : List Nat} {w : World} {g n c : Nat} {rows : List (List Value)} (ho : OwnR w B e (some ⟨g, 0, none⟩) n c sz rows)
    {a : Addr} {m c2 : Nat} {more : List (List Value)} (hsl : SlR w (some a) sz more) (hm : more.length = m) (hms : ∀ r ∈ more, r.length = sz) (h1 : ∀ r ∈ more, ∀ u ∈ r, isCell u = true) (hroom : n + m ≤ c) (ht : e ∉ tys) (hB : B ≤ w.heap.size) {K : Option Addr → Nat → Nat → World → Prop}
    (h : ∀ w2, OwnR w2 B e (some ⟨g, 0, none⟩) (n + m) c sz (rows ++ more) → w.grownBy w2 (some g) → Below B0 w w2 → K (some ⟨g, 0, none⟩) (n + m) c w2) :
    RunOk Tryz.prog (Builtin.append_ #[t, t] ty #[.slice (some ⟨g, 0, none⟩) n c, .slice (some a) m c2]) B0 tys w fun r w2 => ∃ A n c, r = .slice A n c ∧ K A n c w2 := by
  obtain ⟨i, z, h2, h3, h4, h5, h6⟩ := el.info
  have hlen : more.flatten.length = m * sz := by rw [flatten_len _ hms, hm]
  obtain ⟨w', hr, hown, hg⟩ := run_append_fits (P := Tryz.prog) w B t ty e i sz el.und h2 h4 g n c rows.flatten ho.1 a m c2 more.flatten hlen (fun j u hu => by
    rcases hsl with hsl | ⟨b, off, cs, ty, fr, hA, hh, hc⟩
    · subst hsl; simp at hu
    · cases hA
      rw [add_plain0]
      simp only [World.cell?, hh]
      have := flat_cell more off hms (fun i hi j hj => (hc i hi j hj).2) j u hu
      simpa using this) (fun u hu => by
    obtain ⟨r, hr, hu2⟩ := List.mem_flatten.1 hu
    exact oneCell'_of (h1 r hr u hu2)) hroom
  have hbel : Below B0 w w' := below_grown hg (fun k hk => by cases hk; exact Nat.le_trans hBB (World.ownsRow.lt ho.1 g rfl).1) (Nat.le_trans hBB hB)
  refine ⟨_, w', hr, hbel, hbel.size, kept_grown (v := .slice (some ⟨g, 0, none⟩) n c) hg ho.1 ht, _, _, _, rfl, h w' ⟨by rw [List.flatten_append]; exact hown, by simp [ho.len, hm], fun r hr => ?_⟩ hg hbel⟩
  rcases List.mem_append.1 hr with h | h
  · exact ho.2.2 r h
  · exact hms r h
theorem run_slice3 (A : Option Addr) (n c i j : Nat) (hij : i ≤ j) (hjn : j ≤ n) (hnc : n ≤ c) (w : World) : ∃ v, (Instr.sliceAt 26 (.slice A n c) (some (.int .i64 (i : Int))) (some (.int .i64 (j : Int))) (some (.int .i64 (n : Int)))).run Tryz.prog w = .ok v w ∧ ∃ A' n' c', v = .slice A' n' c' := by
  obtain ⟨q, z, h2, h3, h4, h5, h6⟩ := el_Sws.info
  have b1 : ∀ {code : BoundsCode}, (Instr.sliceBound (.int .i64 (n : Int)) c code).run Tryz.prog w = .ok n w := fun {code} => by
    have := Go.run_sliceBound (P := Tryz.prog) w .i64 (n : Int) c code (by omega) (by omega)
    simpa using this
  have b2 : ∀ {code : BoundsCode}, (Instr.sliceBound (.int .i64 (j : Int)) n code).run Tryz.prog w = .ok j w := fun {code} => by
    have := Go.run_sliceBound (P := Tryz.prog) w .i64 (j : Int) n code (by omega) (by omega)
    simpa using this
  have b3 : ∀ {code : BoundsCode}, (Instr.sliceBound (.int .i64 (i : Int)) j code).run Tryz.prog w = .ok i w := fun {code} => by
    have := Go.run_sliceBound (P := Tryz.prog) w .i64 (i : Int) j code (by omega) (by omega)
    simpa using this
  refine ⟨.slice (if n = i then A else A.map (·.add (i * q.size))) (j - i) (n - i), ?_, _, _, _, rfl⟩
  simp [Instr.sliceAt, Instr.slice, Instr.sliceBounds, run_underlying el_Sws.und, b1, b2, b3, sizeOf, typeInfo, h2]
theorem DeleteS {w : World} {B : Nat} (hB : B ≤ w.heap.size) {A : Option Addr} {n c : Nat} {l : List Sw} (ho : OwnR w B 35 A n c 3 (l.map Sw.row)) (hn : n < 2147483648) {i : Nat} (hi : i < n) :
    PureB Tryz.prog 67 #[.slice A n c, .int .i64 (i : Int), .int .i64 ((i + 1 : Nat) : Int)] B w fun v w' => ∃ m, v = .slice A m c ∧ OwnR w' B 35 A m c 3 ((l.take i ++ l.drop (i + 1)).map Sw.row) ∧ Oth A w w' := by
  have hlen : l.length = n := by have := ho.len; simpa using this
  have hnc := ho.len_le
  have hA : ∃ g, A = some ⟨g, 0, none⟩ := by
    rcases ho.1.2 with ⟨h0, h3⟩ | ⟨g, cap, cur, h3, _⟩
    · omega
    · cases h3; exact ⟨g, rfl⟩
  obtain ⟨g, rfl⟩ := hA
  obtain ⟨v, hr, A', n', c', rfl⟩ := run_slice3 (some ⟨g, 0, none⟩) n c i (i + 1) (by omega) (by omega) hnc w
  refine F.slices_Delete_api_Stow_api_Stow.vcB _ _ _ _ _ _ _ hB _ ⟨_, w, hr, Below.refl _ _, Nat.le_refl _, fun _ _ _ _ _ => rfl, _, _, _, rfl, fun h => by omega, fun _ => ⟨by omega, by omega, fun w2 x2 => ?_⟩⟩
  rw [Int.toNat_natCast, Int.toNat_natCast]
  have o2 := ho.extNil x2
  have os := o2.short (m := i) (by omega)
  rw [← List.map_take] at os
  have hs2 : ∃ a, cutAddr (some (⟨g, 0, none⟩ : Addr)) (i + 1) c 3 = some a := by
    unfold cutAddr
    split
    · exact ⟨_, rfl⟩
    · exact ⟨_, rfl⟩
  obtain ⟨a, ha⟩ := hs2
  have hsl := o2.sl.dropS (k := i + 1) (c := c) (by simp; omega)
  rw [ha] at hsl ⊢
  rw [← List.map_drop] at hsl
  refine runOk_appendFits el_Sws (Nat.le_refl _) os hsl (by simp; omega) rowS_len rowS_cell (by omega) (by simp) (Nat.le_trans hB x2.below.size) fun w3 o3 g3 b3 => ⟨by omega, ?_⟩
  have em : i + (n - (i + 1)) = n - 1 := by omega
  rw [← List.map_append] at o3
  rw [Int.toNat_natCast, Int.toNat_natCast]
  refine runOk_clear el_Sws zeroSw (by simp [Value.cells, isCell]) o3 (by omega) hnc fun w4 o4 b4 k4 => ⟨_, rfl, o4, ?_⟩
  have t2 : Oth (some ⟨g, 0, none⟩) w w2 := ⟨x2.below.size, fun k hk _ => by
    rcases x2.other k hk with h | ⟨t, ht, _⟩
    · exact h
    · simp at ht⟩
  have t3 : Oth (some ⟨g, 0, none⟩) w2 w3 := ⟨g3.size, fun k hk hka => g3.block k hk fun e => by cases e; exact hka _ rfl rfl⟩
  exact (t2.trans t3).trans ⟨b4.size, k4⟩

theorem ins_takeS {xs L x : List Value} {p q N : Nat} (hxl : xs.length = N) (hx : x.length = q) (hp : p ≤ N) (h1 : ∀ k, k < p → L[k]? = xs[k]?) (h2 : ∀ k, k < q → L[p + k]? = x[k]?) (h3 : ∀ k, p ≤ k → k < N → L[k + q]? = xs[k]?) : L.take (N + q) = xs.take p ++ x ++ xs.drop p := by
  apply List.ext_getElem?
  intro k
  rw [List.getElem?_take, List.append_assoc]
  have hl : (xs.take p).length = p := by simp; omega
  by_cases hk : k < p
  · rw [if_pos (by omega), List.getElem?_append_left (by omega), List.getElem?_take, if_pos hk, h1 k hk]
  · rw [List.getElem?_append_right (by omega), hl]
    by_cases hk2 : k < p + q
    · rw [if_pos (by omega), List.getElem?_append_left (by omega)]
      have := h2 (k - p) (by omega)
      rwa [show p + (k - p) = k by omega] at this
    · rw [List.getElem?_append_right (by omega), hx, List.getElem?_drop]
      by_cases hk3 : k < N + q
      · rw [if_pos hk3]
        have := h3 (k - q) (by omega) (by omega)
        rw [show k - q + q = k by omega] at this
        rw [this]
        congr 1
        omega
      · rw [if_neg hk3, List.getElem?_eq_none (by omega)]
theorem InsertS {w : World} {B : Nat} (hB : B ≤ w.heap.size) {A : Option Addr} {n c : Nat} {l : List Sw} (hor : OwnR w B 35 A n c 3 (l.map Sw.row)) (hn : n ≤ 1000) {i : Nat} (hi : i ≤ n)
    {vb cc : Nat} {s : Sw} (hvr : OwnR w B 35 (some ⟨vb, 0, none⟩) 1 cc 3 [s.row]) (hne : ∀ a, A = some a → a.block ≠ vb) :
    PureB Tryz.prog 66 #[.slice A n c, .int .i64 (i : Int), .slice (some ⟨vb, 0, none⟩) 1 cc] B w fun v w' => ∃ A' c', v = .slice A' (n + 1) c' ∧ OwnR w' B 35 A' (n + 1) c' 3 ((l.take i ++ s :: l.drop i).map Sw.row) ∧ Oth A w w' := by
  have hlen : l.length = n := by have := hor.len; simpa using this
  have hnc := hor.len_le
  have hrl : ∀ r ∈ l.map Sw.row, r.length = 3 := rowS_len
  have hll : (l.map Sw.row).length = n := by simp [hlen]
  obtain ⟨xs, hxs⟩ : ∃ xs, xs = (l.map Sw.row).flatten := ⟨_, rfl⟩
  have ho := hor.1
  rw [← hxs] at ho
  obtain ⟨x, hx⟩ : ∃ x : List Value, x = s.row := ⟨_, rfl⟩
  have hxn : x.length = 3 := by rw [hx]; rfl
  have hx1 : ∀ v ∈ x, isCell v = true := by
    rw [hx]; intro v hv; simp only [Sw.row, List.mem_cons, List.not_mem_nil, or_false] at hv
    rcases hv with rfl | rfl | rfl <;> rfl
  have h1 : ∀ v ∈ xs, isCell v = true := by
    intro v hv
    rw [hxs] at hv
    obtain ⟨r, hr, hu2⟩ := List.mem_flatten.1 hv
    exact rowS_cell r hr v hu2
  have hxl : xs.length = n * 3 := ho.1
  -- the result, out of the cells
  have fin : ∀ (A' : Option Addr) (c' : Nat) (w' : World), w'.ownsRow B 35 3 (.slice A' (n + 1) c') (n + 1) (xs.take (i * 3) ++ x ++ xs.drop (i * 3)) → OwnR w' B 35 A' (n + 1) c' 3 ((l.take i ++ s :: l.drop i).map Sw.row) := fun A' c' w' h => by
    have e : ((l.take i ++ s :: l.drop i).map Sw.row).flatten = xs.take (i * 3) ++ x ++ xs.drop (i * 3) := by
      rw [List.map_append, List.map_cons, List.flatten_append, List.flatten_cons, List.map_take, List.map_drop, flatten_take hrl (by omega), flatten_drop hrl (by omega), ← hxs, ← hx, List.append_assoc]
    exact ⟨by rw [e]; exact h, by simp; omega, rowS_len⟩
  obtain ⟨cv, hBv, hv, hvt, hvs⟩ : ∃ cv : Array Value, B ≤ vb ∧ w.heap[vb]? = some (.cells cv 35 (0, 0)) ∧ cv.toList.take 3 = x ∧ cv.size = cc * 3 := by
    rcases hvr.1.2 with ⟨e1, _⟩ | ⟨g, cap, cur, e1, e2, e3, e4, e5, e6, e7⟩
    · cases e1
    · cases e1
      exact ⟨cur, e2, e3, by rw [hx]; simpa using e7, e6⟩
  have hcc : 1 ≤ cc := hvr.len_le
  have hsrcv : ∀ {w' : World}, w'.heap[vb]? = some (.cells cv 35 (0, 0)) → ∀ j v, x[j]? = some v → w'.cell? ((⟨vb, 0, none⟩ : Addr).add j) = some v := by
    intro w' hv' j v hj
    rw [add_plain0]
    simp only [World.cell?, hv', Nat.zero_add]
    rw [← hvt, List.getElem?_take] at hj
    split at hj
    · simpa using hj
    · cases hj
  refine F.slices_Insert_api_Stow_api_Stow.vcB _ _ _ _ _ _ _ _ w hB _ ⟨by omega, fun h => by omega, fun _ => ⟨fun h => ?_, fun h => ⟨by simp only [inR]; omega, fun h2 => ?_, fun h2 => ?_⟩⟩⟩
  · -- at the end
    have hin : i = n := by omega
    subst hin
    refine runOk_append (P := Tryz.prog) (ty := 26) el_Sws (Nat.le_refl B) (tys := []) ho (a := ⟨vb, 0, none⟩) (m := 1) (c := cc) (news := x) (by rw [hxn]) (hsrcv hv) hx1 hB (by omega) (by simp) fun A' c' w2 k1 k2 k3 => ⟨A', c', rfl, fin _ _ _ ?_, k2.size, fun k hk hka => k2.block k hk fun e => ?_⟩
    · rw [List.take_of_length_le (by omega), List.drop_eq_nil_of_le (by omega), List.append_nil]
      exact k1
    · cases A with
      | none => simp [Value.ownBlock] at e
      | some a => simp [Value.ownBlock] at e; exact hka a rfl e
  · -- no room: a new row
    have hA : ∃ g, A = some ⟨g, 0, none⟩ ∧ ∃ cur : Array Value, B ≤ g ∧ w.heap[g]? = some (.cells cur 35 (0, 0)) ∧ cur.toList.take (n * 3) = xs := by
      rcases ho.2 with ⟨h0, h3⟩ | ⟨g, cap, cur, h3, h4, h5, h6, h7, h8, h9⟩
      · omega
      · cases h3
        exact ⟨g, rfl, cur, h4, h5, h9⟩
    obtain ⟨g, rfl, cur, hBg, hg, hcur⟩ := hA
    have hin : i < n := by omega
    obtain ⟨i0, z, e2, e3, e4, e5, e6⟩ := el_Sws.info
    have hgs : ∀ {w' : World}, w'.heap[g]? = some (.cells cur 35 (0, 0)) → ∀ j v, xs[j]? = some v → w'.cell? ((⟨g, 0, none⟩ : Addr).add j) = some v := fun {w'} hg' j v hj => by
      rw [add_plain0]
      simp only [World.cell?, hg', Nat.zero_add]
      rw [← hcur, List.getElem?_take] at hj
      split at hj
      · simpa using hj
      · cases hj
    have hold : (Builtin.firstCells i0.size i (.slice (some ⟨g, 0, none⟩) i c)).run Tryz.prog w.drew = .ok (xs.take (i * 3)).toArray w.drew := by
      rw [e4]
      exact run_firstCells_some w.drew 3 i ⟨g, 0, none⟩ i c (xs.take (i * 3)) (by rw [List.length_take]; omega) (fun j v hj => by
        rw [List.getElem?_take] at hj
        split at hj
        · exact hgs (w' := w.drew) hg j v hj
        · cases hj)
    have hik : i + (n + 1 - i) = n + 1 := by omega
    have hbig : (n + 1) * 24 ≤ 140737488355328 := by omega
    have hrz := Lib.run_append_grow_zeros w 26 3 26 35 i0 z .i64 .i64 el_Sws.und Tryz.underlying3 e2 e3 (some ⟨g, 0, none⟩) i c (xs.take (i * 3)) hold (n + 1 - i) (by omega) (by omega) (by omega) (by omega) (by rw [e5]; omega) (by rw [e5, hik]; exact growslice_fits (by omega) hbig)
    rw [hik] at hrz
    obtain ⟨G, hG⟩ : ∃ G, G = grownCap w (n + 1) c 35 := ⟨_, rfl⟩
    have hGn : n + 1 ≤ G := by rw [hG]; exact grownCap_ge w _ _ _
    have hGm : G ≤ maxLen := by rw [hG]; exact grownCap_le_maxLen w (n + 1) c _ (by unfold maxLen; omega)
    rw [← hG] at hrz
    obtain ⟨R0, hR0⟩ : ∃ R0 : List Value, R0 = ((xs.take (i * 3)).toArray ++ Builtin.zeroCells z.cells (n + 1 - i) ++ Builtin.zeroCells z.cells (G - (n + 1))).toList := ⟨_, rfl⟩
    have hR0a : ((xs.take (i * 3)).toArray ++ Builtin.zeroCells z.cells (n + 1 - i) ++ Builtin.zeroCells z.cells (G - (n + 1))) = R0.toArray := by rw [hR0]
    have hR0l : R0.length = G * 3 := by
      rw [hR0]
      simp only [Array.length_toList, Array.size_append, List.size_toArray, List.length_take, size_zeroCells, e6]
      omega
    have hR0p : ∀ k, k < i * 3 → R0[k]? = xs[k]? := fun k hk => by
      rw [hR0]
      simp only [Array.toList_append, List.append_assoc]
      rw [List.getElem?_append_left (by simp; omega), List.getElem?_take, if_pos hk]
    rw [hR0a] at hrz
    have ekk : ((n : Int) + ((1 : Nat) : Int)) - (i : Int) = ((n + 1 - i : Nat) : Int) := by omega
    have eN : ((i : Int)).toNat = i := Int.toNat_natCast i
    have hgrow : w.grownBy (w.drew.alloc (.cells R0.toArray 35)) none := ⟨rfl, rfl, rfl, by simp, fun k hk _ => RowKit.Below.heap_alloc w.drew _ k hk⟩
    have hb1 := below_grown (B := B) hgrow (by simp) hB
    have hnew : (w.drew.alloc (.cells R0.toArray 35)).heap[w.heap.size]? = some (.cells R0.toArray 35 (0, 0)) := heap_alloc_new w.drew _
    obtain ⟨W1, hW1⟩ : ∃ W1, W1 = w.drew.alloc (.cells R0.toArray 35) := ⟨_, rfl⟩
    rw [← hW1] at hrz hgrow hb1 hnew
    have gl := (Array.getElem?_eq_some_iff.1 hg).1
    have vl := (Array.getElem?_eq_some_iff.1 hv).1
    have e1N : ((i : Int) + ((1 : Nat) : Int)).toNat = i + 1 := by omega
    rw [eN, ekk]
    refine ⟨by omega, by simp only [inR]; omega, by simp only [inR]; omega, _, W1, hrz, hb1, hgrow.size, fun k ty cs h => (by cases h), _, _, _, rfl, by omega, ?_⟩
    rw [cut3 (by omega)]
    refine runOk_copyS el_Sws (cs := x) (cur := R0) (by rw [hxn]; simp only [Nat.min_def]; split <;> omega) (hsrcv (by rw [hgrow.block vb vl (by simp)]; exact hv)) hnew (by omega) hx1 hB (by simp) fun w2 c1 c2 c3 c4 => ⟨by simp only [inR]; omega, by omega, by omega, fun w3 x3 => ?_⟩
    rw [e1N, cut3 (by omega), cut3 (by omega)]
    have d1 := ext_nil x3 c1
    have hg3 : w3.heap[g]? = some (.cells cur 35 (0, 0)) := ext_nil x3 (by rw [c2 g (by omega), hgrow.block g gl (by simp)]; exact hg)
    have hdl : (xs.drop (i * 3)).length = (n - i) * 3 := by rw [List.length_drop, hxl]; omega
    refine runOk_copyS el_Sws (cs := xs.drop (i * 3)) (cur := setCells R0 (i * 3) x) (by rw [hdl]; simp only [Nat.min_def]; split <;> omega) (fun j v hj => ?_) d1 (by rw [setCells_len, hdl]; omega) (fun v hv2 => h1 v (List.mem_of_mem_drop hv2)) hB (by simp) fun w4 f1 f2 f3 f4 => ?_
    · rw [List.getElem?_drop] at hj
      have := hgs hg3 (i * 3 + j) v hj
      rw [add_plain0] at this ⊢
      simpa using this
    refine ⟨_, _, rfl, fin _ _ _ ⟨by simp [hxl, hxn]; omega, .inr ⟨w.heap.size, G, _, rfl, hB, f1, hGn, hGm, by simp [setCells_len, hR0l], ?_⟩⟩, ?_, fun k hk hka => ?_⟩
    · have hlen1 : i * 3 + x.length ≤ R0.length := by omega
      have hlen2 : (i + 1) * 3 + (xs.drop (i * 3)).length ≤ (setCells R0 (i * 3) x).length := by rw [setCells_len, hdl]; omega
      have := ins_takeS (L := setCells (setCells R0 (i * 3) x) ((i + 1) * 3) (xs.drop (i * 3))) (x := x) (p := i * 3) hxl hxn (by omega) (fun k hk => by
          rw [setCells_get _ _ _ _ hlen2, if_neg (by omega), setCells_get _ _ _ _ hlen1, if_neg (by omega)]
          exact hR0p k hk)
        (fun k hk => by
          rw [setCells_get _ _ _ _ hlen2, if_neg (by omega), setCells_get _ _ _ _ hlen1, if_pos (by omega)]
          rw [show i * 3 + k - i * 3 = k by omega])
        (fun k hk hk2 => by
          rw [setCells_get _ _ _ _ hlen2, if_pos (by rw [hdl]; omega), List.getElem?_drop]
          rw [show i * 3 + (k + 3 - (i + 1) * 3) = k by omega])
      rw [show (n + 1) * 3 = n * 3 + 3 by omega]
      simpa using this
    · have := x3.below.size; have := hgrow.size; omega
    · rw [f2 k (by omega)]
      rcases x3.other k (by rw [c3]; have := hgrow.size; omega) with h7 | ⟨t, ht, _⟩
      · rw [h7, c2 k (by omega), hgrow.block k hk (by simp)]
      · simp at ht
  · -- there is room
    have hin : i < n := by omega
    have hA : ∃ g, A = some ⟨g, 0, none⟩ ∧ ∃ cur : Array Value, B ≤ g ∧ w.heap[g]? = some (.cells cur 35 (0, 0)) ∧ cur.toList.take (n * 3) = xs ∧ cur.size = c * 3 ∧ c ≤ maxLen := by
      rcases ho.2 with ⟨h0, h3⟩ | ⟨g, cap, cur, h3, h4, h5, h6, h7, h8, h9⟩
      · omega
      · cases h3
        exact ⟨g, rfl, cur, h4, h5, h9, h8, h7⟩
    obtain ⟨g, rfl, cur, hBg, hg, hcur, hcs, hcm⟩ := hA
    have hgv : g ≠ vb := hne _ rfl
    have eN : ((i : Int)).toNat = i := Int.toNat_natCast i
    have e1N : ((i : Int) + ((1 : Nat) : Int)).toNat = i + 1 := by omega
    have enN : ((n : Int) + ((1 : Nat) : Int)).toNat = n + 1 := by omega
    obtain ⟨L, hL⟩ : ∃ L : List Value, L = cur.toList := ⟨_, rfl⟩
    have hLa : cur = L.toArray := by rw [hL]
    rw [← hL] at hcur
    have hLl : L.length = c * 3 := by rw [hL]; simpa using hcs
    rw [hLa] at hg
    have hgs : ∀ j v, xs[j]? = some v → L[j]? = some v := fun j v hj => by
      rw [← hcur, List.getElem?_take] at hj
      split at hj
      · exact hj
      · cases hj
    have hov := Lib.run_overlaps_apart w 26 4 35 el_Sws.und 3 Tryz.sizeOf35 ⟨vb, 0, none⟩ ⟨g, (i + 1) * 3, none⟩ 1 cc (n + 1 - (i + 1)) (c - (i + 1)) (fun e => hgv e.symm) 35 35 (cc * 3) (c * 3) (by simp [World.shape?, hv, hvs]) (by simp [World.shape?, hg, hLl]) (by omega) (Lib.frozen_of_heap hv _) (Lib.frozen_of_heap hv _)
    have hco : (callFunc 105 #[.slice (some ⟨vb, 0, none⟩) 1 cc, .slice (some ⟨g, (i + 1) * 3, none⟩) (n + 1 - (i + 1)) (c - (i + 1))]).run Tryz.prog w = .ok (.value (.bool false)) w := by
      rw [run_callFunc_extern Tryz.func105 (by kernel_rfl) (by kernel_rfl) (by kernel_rfl) (e := Extern.SlicesOverlaps.overlaps #[26, 26] #[4]) (by kernel_rfl), hov]
      rfl
    rw [e1N, enN, eN]
    have hc1 : n + 1 ≤ c := by omega
    rw [cut3 (by omega), cut3 (by omega)]
    have hxd : (xs.drop (i * 3)).length = (n - i) * 3 := by rw [List.length_drop, hxl]; omega
    refine ⟨by simp only [inR]; omega, by omega, by simp only [inR]; omega, by omega, _, w, hco, Below.refl _ _, Nat.le_refl _, fun k ty cs h => (by cases h), _, rfl, fun _ => ⟨by simp only [inR]; omega, by omega, by omega, fun w1 x1 => ?_⟩, fun h => absurd rfl h⟩
    have g1 : w1.heap[g]? = some (.cells L.toArray 35 (0, 0)) := ext_nil x1 hg
    have v1 : w1.heap[vb]? = some (.cells cv 35 (0, 0)) := ext_nil x1 hv
    refine runOk_copyS el_Sws (cs := xs.drop (i * 3)) (cur := L) (by rw [hxd]; simp only [Nat.min_def]; split <;> omega) (fun j v hj => ?_) g1 (by rw [hxd]; omega) (fun v hv2 => h1 v (List.mem_of_mem_drop hv2)) hBg (by simp) fun w2 c1 c2 c3 c4 => ⟨by omega, ?_⟩
    · rw [List.getElem?_drop] at hj
      have := hgs (i * 3 + j) v hj
      rw [add_plain0]
      simp only [World.cell?, g1]
      simpa using this
    refine runOk_copyS el_Sws (cs := x) (cur := setCells L ((i + 1) * 3) (xs.drop (i * 3))) (by rw [hxn]; simp only [Nat.min_def]; split <;> omega) (hsrcv (by rw [c2 vb (fun e => hgv e.symm)]; exact v1)) c1 (by rw [setCells_len]; omega) hx1 hBg (by simp) fun w3 d1 d2 d3 d4 => ?_
    refine ⟨_, _, rfl, fin _ _ _ ⟨by simp [hxl, hxn]; omega, .inr ⟨g, c, _, rfl, hBg, d1, by omega, hcm, by simp [setCells_len, hLl], ?_⟩⟩, ?_, fun k hk hka => ?_⟩
    · have hlen1 : (i + 1) * 3 + (xs.drop (i * 3)).length ≤ L.length := by rw [hxd]; omega
      have hlen2 : i * 3 + x.length ≤ (setCells L ((i + 1) * 3) (xs.drop (i * 3))).length := by rw [setCells_len]; omega
      have := ins_takeS (L := setCells (setCells L ((i + 1) * 3) (xs.drop (i * 3))) (i * 3) x) (x := x) (p := i * 3) hxl hxn (by omega) (fun k hk => by
          rw [setCells_get _ _ _ _ hlen2, if_neg (by omega), setCells_get _ _ _ _ hlen1, if_neg (by omega)]
          obtain ⟨v, hv3⟩ : ∃ v, xs[k]? = some v := ⟨xs[k]'(by omega), List.getElem?_eq_getElem _⟩
          rw [hv3, hgs k v hv3])
        (fun k hk => by
          rw [setCells_get _ _ _ _ hlen2, if_pos (by omega)]
          rw [show i * 3 + k - i * 3 = k by omega])
        (fun k hk hk2 => by
          rw [setCells_get _ _ _ _ hlen2, if_neg (by omega), setCells_get _ _ _ _ hlen1, if_pos (by rw [hxd]; omega), List.getElem?_drop]
          rw [show i * 3 + (k + 3 - (i + 1) * 3) = k by omega])
      rw [show (n + 1) * 3 = n * 3 + 3 by omega]
      simpa using this
    · have := x1.below.size; omega
    · have hkg : k ≠ g := hka _ rfl
      rw [d2 k hkg, c2 k hkg]
      rcases x1.other k hk with h7 | ⟨t, ht, _⟩
      · exact h7
      · simp at ht
end Go.Proofs.YtdnelnicnjplpaaGreatDoor.B
