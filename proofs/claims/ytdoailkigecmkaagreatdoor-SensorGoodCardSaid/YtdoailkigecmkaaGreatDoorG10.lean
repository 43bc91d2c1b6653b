/- Part 10 of the proofs that: the statements about sensors hold -/
import Derived.Test.YtdoailkigecmkaaGreatDoorG9
set_option linter.unusedVariables false
set_option linter.unusedSimpArgs false
namespace Go.Proofs.YtdoailkigecmkaaGreatDoor.B
open Go Go.RowKit Go.Proofs Go.Proofs.YtdoailkigecmkaaGreatDoor.Vc

abbrev qv (b : Bool) (A : Option Addr) (n c : Nat) (A' : Option Addr) (n' c' : Nat) : Value := .agg #[.bool b, .slice A n c, .slice A' n' c']
def goodTail (B : Nat) (R : Value → World → Prop) (L : World → Prop) (A5 : Option Addr) (n5 : Nat) (i j : Int) (x y m : Value) (w116 : World) : Prop :=
  Pure Tryz.prog 37 #[x, y] w116 fun r120 w121 => ∃ (b117 : Bool) (A118 : Option Addr) (n118 c118 : Nat) (A119 : Option Addr) (n119 c119 : Nat), r120 = (.agg #[(.bool b117), (.slice A118 n118 c118), (.slice A119 n119 c119)]) ∧ (∀ w122, Ext B [] w121 w122 →
    ((0 ≤ i ∧ i < n5) ∧ ∃ a123, A5 = some a123 ∧ (∃ (i124 : Int), CellsAt w122 ((a123.add (i.toNat * 4)).add 2) [(.int .i64 i124)] ∧
      ((i124 = 1 → ∀ w125, Ext B [] w122 w125 → Pure Tryz.prog 38 #[m, (.agg #[(.bool b117), (.slice A118 n118 c118), (.slice A119 n119 c119)])] w125 fun r127 w128 => ∃ (b126 : Bool), r127 = (.bool b126) ∧ ((b126 = true → R (.bool false) w128) ∧ (b126 = false →
        Pure Tryz.prog 39 #[(.agg #[(.bool b117), (.slice A118 n118 c118), (.slice A119 n119 c119)])] w128 fun r132 w133 => ∃ (b129 : Bool) (A130 : Option Addr) (n130 c130 : Nat) (A131 : Option Addr) (n131 c131 : Nat), r132 = (.agg #[(.bool b129), (.slice A130 n130 c130), (.slice A131 n131 c131)]) ∧
          Pure Tryz.prog 38 #[m, (.agg #[(.bool b129), (.slice A130 n130 c130), (.slice A131 n131 c131)])] w133 fun r135 w136 => ∃ (b134 : Bool), r135 = (.bool b134) ∧ ((b134 = true → R (.bool false) w136) ∧ (b134 = false → (inR .i64 (j + (1 : Int)) ∧ L w136)))))) ∧
      (¬ i124 = 1 → (inR .i64 (j + (1 : Int)) ∧ ∀ w137, Ext B [] w122 w137 → L w137))))))

theorem abs_le {a b : Rat} (h : ¬ b < absR a) : ¬ b < a ∧ ¬ b < -a := by
  unfold absR at h
  split at h <;> constructor <;> grind
section
variable {w0 : World} {A A46 : Option Addr} {n c ns c46 : Nat} {l : List Ch} {R : Value → World → Prop}

theorem good_tail {w : World} {A5 : Option Addr} {c5 : Nat} {v : List Va} {i : Nat} {j : Int} {L K : World → Prop} {x y m : Rat} {b1 b2 b3 : Bool} {A1 A1' A2 A2' A3 A3' : Option Addr} {n1 c1 n1' c1' n2 c2 n2' c2' n3 c3 n3' c3' : Nat} (hw : Below w0.heap.size w0 w)
    (hx : IsQ w b1 A1 n1 c1 A1' n1' c1' x) (hy : IsQ w b2 A2 n2 c2 A2' n2' c2' y) (hm : IsQ w b3 A3 n3 c3 A3' n3' c3' m) (sx : Sm 2000 x) (sy : Sm 2000 y) (sm : Sm 2000 m)
    (ho : OwnR w w0.heap.size 46 A5 n c5 4 (v.map Va.row)) (hlen : v.length = n) (hi : i < v.length) (hj : inR .i64 (j + 1)) (hle : v[i].qual = 1 → ¬ m < absR (x - y))
    (hK : ∀ w w', K w → Below w.heap.size w w' → K w') (hKe : ∀ w w', K w → Ext w0.heap.size [] w w' → K w') (hk : K w) (hL : ∀ w', Below w0.heap.size w0 w' → K w' → L w') :
    goodTail w0.heap.size R L A5 n i j (qv b1 A1 n1 c1 A1' n1' c1') (qv b2 A2 n2 c2 A2' n2' c2') (qv b3 A3 n3 c3 A3' n3' c3') w := by
  refine Pure.mono (ref3_Sub hx hy (sx.mono (by omega)) (sy.mono (by omega))) ?_
  rintro r w2 b2' ⟨b, A, n', c', A', n'', c'', rfl, kd⟩
  have hb2 := kP hw b2'
  refine ⟨_, _, _, _, _, _, _, rfl, fun w3 x3 => ?_⟩
  have hb3 := kE hb2 x3
  obtain ⟨q, a, hA, _, _, cq, _⟩ := ((ho.below b2').extNil x3).sl.spot hlen hi
  have sd : Sm 100000 (x - y) := (sx.sub sy).mono (by omega)
  refine ⟨q, a, hA, _, cq, fun hq w4 x4 => ?_, fun hq => ⟨hj, fun w4 x4 => hL _ (kE hb3 x4) (hKe _ _ (hKe _ _ (hK _ _ hk b2') x3) x4)⟩⟩
  have hb4 := kE hb3 x4
  obtain ⟨h1, h2⟩ := abs_le (hle hq)
  have kd4 := (kd.ext x3 (by decide)).ext x4 (by decide)
  have km4 := ((hm.below b2').ext x3 (by decide)).ext x4 (by decide)
  refine Pure.mono (ref3_Less km4 kd4 (sm.mono (by omega)) sd) ?_
  rintro r w5 b5 rfl
  have hb5 := kP hb4 b5
  refine ⟨_, rfl, fun h => absurd (of_decide_eq_true h) h1, fun _ => Pure.mono (ref3_Neg (kd4.below b5)) ?_⟩
  rintro r w6 b6 ⟨b, A, n', c', A', n'', c'', rfl, kn⟩
  have hb6 := kP hb5 b6
  refine ⟨_, _, _, _, _, _, _, rfl, Pure.mono (ref3_Less ((km4.below b5).below b6) kn (sm.mono (by omega)) sd.neg) ?_⟩
  rintro r w7 b7 rfl
  exact ⟨_, rfl, fun h => absurd (of_decide_eq_true h) h2, fun _ => ⟨hj, hL _ (kP hb6 b7) (hK _ _ (hK _ _ (hK _ _ (hKe _ _ (hKe _ _ (hK _ _ hk b2') x3) x4) b5) b6) b7)⟩⟩

theorem qual_one {c : Ch} {u : Va} {x : Rat} {t : Int} (h : qualF c u x t = 1) : ¬ x < qR c.low ∧ ¬ qR c.high < x ∧ (u.qual = 1 → ¬ qR c.rate * ((t - u.tick : Int) : Rat) < absR (x - qR u.num)) := by
  unfold qualF at h
  split at h
  · cases h
  · rename_i h1
    split at h
    · cases h
    · rename_i h2
      exact ⟨fun k => h1 (.inl k), fun k => h1 (.inr k), fun hq k => h2 ⟨hq, k⟩⟩

theorem good_inner (hl : SlR w0 A 7 (l.map Ch.row)) (hlen : l.length = n) (hn : n ≤ 17) {A5 A9 : Option Addr} {c5 c9 : Nat} {v : List Va} {i p : Nat} {j : Nat} {cc : Ch} {u : Va} {chan tick : Int} {raw : ByteArray}
    (hcc : l[i]? = some cc) (hu : v[i]? = some u) (hvl : v.length = n) (sc : SmC cc) (su : SmV u) (hu1 : vR u.num = true) (hu2 : 0 ≤ u.tick ∧ u.tick ≤ 1073741824) (ht : 0 ≤ tick ∧ tick ≤ 1073741824) (hv : vR cc.low = true ∧ vR cc.high = true ∧ vR cc.rate = true)
    (sx : Sm 121 (numberR cc raw)) (hj : j < 100)
    (hR : ∀ w, R (.bool true) w) (hL : ∀ w', Below w0.heap.size w0 w' → OwnR w' w0.heap.size 46 A9 n c9 4 ((v.set i (tookV cc u chan tick raw)).map Va.row) → F.garboardlaw55_SensorGood.L9 A n c A9 n c9 A46 ns c46 ns ((j : Int) + 1) w0.heap.size w' R) :
    ∀ (d k : Nat) (w : World), n - k = d → k ≤ n → Below w0.heap.size w0 w → OwnR w w0.heap.size 46 A5 n c5 4 (v.map Va.row) → OwnR w w0.heap.size 46 A9 n c9 4 ((v.set i (tookV cc u chan tick raw)).map Va.row) → w.heap[p]? = some (.cells [.int .i64 chan, .int .i64 tick, .string raw].toArray 42 (0, 0)) →
      F.garboardlaw55_SensorGood.L17 A n c A5 n c5 ⟨p, 0, none⟩ A9 n c9 i A46 ns c46 ns j n k w0.heap.size w R := by
  have hil := (List.getElem?_eq_some_iff.1 hcc).1
  have hiv := (List.getElem?_eq_some_iff.1 hu).1
  obtain ⟨y, hy⟩ : ∃ y, y = tookV cc u chan tick raw := ⟨_, rfl⟩
  rw [← hy] at hL ⊢
  have hal : (v.set i y).length = n := by rw [List.length_set]; exact hvl
  have hia : i < (v.set i y).length := by omega
  have gy : (v.set i y)[i] = y := List.getElem_set_self _
  have gu : v[i] = u := by
    have := List.getElem?_eq_getElem hiv
    rw [hu] at this
    exact (Option.some.inj this).symm
  have gc : l[i] = cc := by
    have := List.getElem?_eq_getElem hil
    rw [hcc] at this
    exact (Option.some.inj this).symm
  intro d
  induction d with
  | succ d ih =>
    intro k w hd hk hw hv' ha hbox
    have e3 : (k : Int) + 1 = ((k + 1 : Nat) : Int) := by omega
    have hin : inR .i64 ((k : Int) + 1) := by simp only [inR]; omega
    have next : ∀ w2, Ext w0.heap.size [] w w2 → F.garboardlaw55_SensorGood.L17 A n c A5 n c5 ⟨p, 0, none⟩ A9 n c9 i A46 ns c46 ns j n ((k : Int) + 1) w0.heap.size w2 R := fun w2 x2 => by
      rw [e3]
      exact ih (k + 1) w2 (by omega) (by omega) (kE hw x2) (hv'.extNil x2) (ha.extNil x2) (ext_nil x2 hbox)
    have hka : k < (v.set i y).length := by omega
    have hkv : k < v.length := by omega
    obtain ⟨q1, a1, hA1, r1, _⟩ := ha.sl.spot hal hka
    obtain ⟨q2, a2, hA2, r2, _⟩ := hv'.sl.spot hvl hkv
    refine F.garboardlaw55_SensorGood.L17.step _ _ _ _ _ _ _ _ _ _ _ _ _ _ _ _ _ _ _ _ _ ⟨fun _ => ⟨fun hne => ⟨q1, a1, hA1, _, _, _, _, r1, q2, a2, hA2, _, _, _, _, r2, fun hh => ?_, fun _ => ⟨hin, next⟩⟩, fun _ => ⟨hin, next⟩⟩, fun h => by omega⟩
    have e : (v.set i y)[k] = v[k] := by rw [List.getElem_set_ne (by omega)]
    rw [e] at hh
    exact absurd ⟨rfl, rfl, rfl, rfl, trivial⟩ hh
  | zero =>
    intro k w hd hk hw hv' ha hbox
    have hkn : k = n := by omega
    subst hkn
    have hjin : inR .i64 ((j : Int) + 1) := by simp only [inR]; omega
    -- what is read at any later world
    have sa : ∀ {w'}, OwnR w' w0.heap.size 46 A9 k c9 4 ((v.set i y).map Va.row) → (0 ≤ (i : Int) ∧ (i : Int) < k) ∧ ∃ a, A9 = some a ∧ CellsAt w' ((a.add ((i : Int).toNat * 4)).add 1) [.int .i64 y.tick] ∧ CellsAt w' ((a.add ((i : Int).toNat * 4)).add 2) [.int .i64 y.qual] ∧ CellsAt w' ((a.add ((i : Int).toNat * 4)).add 3) [.string y.num] := fun {w'} h => by
      obtain ⟨q, a, hA, _, h1, h2, h3⟩ := h.sl.spot hal hia
      rw [gy] at h1 h2 h3
      exact ⟨q, a, hA, h1, h2, h3⟩
    have sv : ∀ {w'}, OwnR w' w0.heap.size 46 A5 k c5 4 (v.map Va.row) → (0 ≤ (i : Int) ∧ (i : Int) < k) ∧ ∃ a, A5 = some a ∧ CellsAt w' ((a.add ((i : Int).toNat * 4)).add 1) [.int .i64 u.tick] ∧ CellsAt w' ((a.add ((i : Int).toNat * 4)).add 2) [.int .i64 u.qual] ∧ CellsAt w' ((a.add ((i : Int).toNat * 4)).add 3) [.string u.num] := fun {w'} h => by
      obtain ⟨q, a, hA, _, h1, h2, h3⟩ := h.sl.spot hvl hiv
      rw [gu] at h1 h2 h3
      exact ⟨q, a, hA, h1, h2, h3⟩
    have sl : ∀ {w'}, Below w0.heap.size w0 w' → (0 ≤ (i : Int) ∧ (i : Int) < k) ∧ ∃ a, A = some a ∧ CellsAt w' ((a.add ((i : Int).toNat * 7)).add 4) [.string cc.low] ∧ CellsAt w' ((a.add ((i : Int).toNat * 7)).add 5) [.string cc.high] ∧ CellsAt w' ((a.add ((i : Int).toNat * 7)).add 6) [.string cc.rate] := fun {w'} h => by
      obtain ⟨q, a, hA, hrow⟩ := (hl.keep h (Nat.le_refl _)).load (n := k) (by simpa using hlen) (j := (i : Int)) (by omega) (by omega)
      obtain ⟨_, hf⟩ := hrow cc.row (by rw [Int.toNat_natCast, List.getElem?_map, hcc]; rfl) rfl
      exact ⟨q, a, hA, hf 4 _ rfl, hf 5 _ rfl, hf 6 _ rfl⟩
    have hyt : y.tick = tick := by rw [hy]
    have hyn : y.num = rS (numberR cc raw) := by rw [hy]
    have hyq : y.qual = qualF cc u (numberR cc raw) tick := by rw [hy]
    have hq1 := qualF_in cc u (numberR cc raw) tick
    obtain ⟨q1, a1, hA1, t1, k1, m1⟩ := sa ha
    rw [hyt] at t1
    refine F.garboardlaw55_SensorGood.L17.step _ _ _ _ _ _ _ _ _ _ _ _ _ _ _ _ _ _ _ _ _ ⟨fun h => by omega, fun _ => ⟨q1, a1, hA1, _, t1, _, box_cell hbox rfl, fun h => absurd rfl h, fun _ => ⟨q1, a1, hA1, _, k1, fun h => by omega, fun _ => ⟨q1, a1, hA1, fun w2 x2 => ?_⟩⟩⟩⟩
    have hb2 := kE hw x2
    have ha2 := ha.extNil x2
    have hv2 := hv'.extNil x2
    obtain ⟨_, a1', hA1', t2, k2, m2⟩ := sa ha2
    have ea : a1 = a1' := by rw [hA1] at hA1'; cases hA1'; rfl
    subst ea
    refine ⟨_, k2, fun hq => ?_, fun _ => ⟨hjin, hL _ hb2 ha2⟩⟩
    rw [hyq] at hq
    obtain ⟨n1, n2, n3⟩ := qual_one hq
    obtain ⟨qc, ac, hAc, cl2, ch2, cr2⟩ := sl hb2
    have sn : SmS y.num := by
      rw [hyn]
      have := sx.length (by omega)
      show (ratT (numberR cc raw)).length ≤ 1000
      omega
    have vy : vR y.num = true := by rw [hyn]; exact vR_rS _
    have qy : qR y.num = numberR cc raw := by rw [hyn]; exact qR_rS _
    refine ⟨q1, a1, hA1, _, m2, qc, ac, hAc, _, cl2, fun w3 x3 => Pure.mono (law_less sn sc.low w3) ?_⟩
    have hb3 := kE hb2 x3
    rintro r w4 b4 rfl
    have hb4 := kP hb3 b4
    refine ⟨_, rfl, fun h => ?_, fun _ => ⟨qc, ac, hAc, _, ch2, q1, a1, hA1, _, m2, Pure.mono (law_less sc.high sn w4) ?_⟩⟩
    · rw [vy, hv.1, qy, decide_eq_false n1] at h
      cases h
    rintro r w5 b5 rfl
    have hb5 := kP hb4 b5
    have ha5 := ((ha2.extNil x3).below b4).below b5
    have hv5 := ((hv2.extNil x3).below b4).below b5
    obtain ⟨_, a1', hA1', _, _, m5⟩ := sa ha5
    have ea : a1 = a1' := by rw [hA1] at hA1'; cases hA1'; rfl
    subst ea
    refine ⟨_, rfl, fun h => ?_, fun _ => ⟨q1, a1, hA1, _, m5, Pure.mono (ref3_From y.num sn w5) ?_⟩⟩
    · rw [vy, hv.2.1, qy, decide_eq_false n2] at h
      cases h
    rintro r w6 b6 ⟨bx, Ax, nx, cx, Ax', nx', cx', rfl, kx⟩
    have kx := kx vy
    rw [qy] at kx
    have hb6 := kP hb5 b6
    have ha6 := ha5.below b6
    have hv6 := hv5.below b6
    obtain ⟨q5, a5, hA5, _⟩ := sv hv6
    refine ⟨_, _, _, _, _, _, _, _, rfl, q5, a5, hA5, fun w7 x7 => ?_⟩
    have hb7 := kE hb6 x7
    have ha7 := ha6.extNil x7
    have hv7 := hv6.extNil x7
    have kx7 := kx.ext x7 (by simp)
    obtain ⟨_, a5', hA5', _, _, m7⟩ := sv hv7
    have ea : a5 = a5' := by rw [hA5] at hA5'; cases hA5'; rfl
    subst ea
    refine ⟨_, m7, Pure.mono (ref3_From u.num su w7) ?_⟩
    rintro r w8 b8 ⟨by', Ay, ny, cy, Ay', ny', cy', rfl, ky⟩
    have ky := ky hu1
    have hb8 := kP hb7 b8
    have ha8 := ha7.below b8
    have hv8 := hv7.below b8
    have kx8 := kx7.below b8
    refine ⟨_, _, _, _, _, _, _, _, rfl, qc, ac, hAc, fun w9 x9 => ?_⟩
    have hb9 := kE hb8 x9
    have ha9 := ha8.extNil x9
    have hv9 := hv8.extNil x9
    have kx9 := kx8.ext x9 (by simp)
    have ky9 := ky.ext x9 (by simp)
    obtain ⟨_, ac', hAc', _, _, cr9⟩ := sl hb9
    have ea : ac = ac' := by rw [hAc] at hAc'; cases hAc'; rfl
    subst ea
    refine ⟨_, cr9, Pure.mono (ref3_From cc.rate sc.rate w9) ?_⟩
    rintro r w10 b10 ⟨br, Ar, nr, cr, Ar', nr', cr', rfl, kr⟩
    have kr := kr hv.2.2
    have hb10 := kP hb9 b10
    have ha10 := ha9.below b10
    have hv10 := hv9.below b10
    have kx10 := kx9.below b10
    have ky10 := ky9.below b10
    refine ⟨_, _, _, _, _, _, _, _, rfl, fun w11 x11 => ?_⟩
    have hb11 := kE hb10 x11
    have ha11 := ha10.extNil x11
    have hv11 := hv10.extNil x11
    have kx11 := kx10.ext x11 (by simp)
    have ky11 := ky10.ext x11 (by simp)
    have kr11 := kr.ext x11 (by simp)
    obtain ⟨_, a1', hA1', t11, _, _⟩ := sa ha11
    have ea : a1 = a1' := by rw [hA1] at hA1'; cases hA1'; rfl
    subst ea
    rw [hyt] at t11
    obtain ⟨_, a5', hA5', u11, _, _⟩ := sv hv11
    have ea : a5 = a5' := by rw [hA5] at hA5'; cases hA5'; rfl
    subst ea
    have sr := vR_sm hv.2.2 sc.rate
    have sd : Sm 10 ((tick - u.tick : Int) : Rat) := Sm.ofInt (by omega) (by omega)
    have smm : Sm 2000 (qR cc.rate * ((tick - u.tick : Int) : Rat)) := (sr.mul sd).mono (by omega)
    have mul : ∀ (ts : List Nat) (w1 : World) (b : Bool) (A1 : Option Addr) (n1 c1 : Nat) (A1' : Option Addr) (n1' c1' : Nat), 106 ∉ ts → 46 ∉ ts → Below w0.heap.size w0 w1 → IsQ w1 b A1 n1 c1 A1' n1' c1' ((tick - u.tick : Int) : Rat) → IsQ w1 br Ar nr cr Ar' nr' cr' (qR cc.rate) → IsQ w1 bx Ax nx cx Ax' nx' cx' (numberR cc raw) → IsQ w1 by' Ay ny cy Ay' ny' cy' (qR u.num) →
        OwnR w1 w0.heap.size 46 A5 k c5 4 (v.map Va.row) → OwnR w1 w0.heap.size 46 A9 k c9 4 ((v.set i y).map Va.row) →
        Pure Tryz.prog 35 #[qv br Ar nr cr Ar' nr' cr', qv b A1 n1 c1 A1' n1' c1'] w1 fun r w2 => ∃ (b111 : Bool) (A112 : Option Addr) (n112 c112 : Nat) (A113 : Option Addr) (n113 c113 : Nat), r = (.agg #[(.bool b111), (.slice A112 n112 c112), (.slice A113 n113 c113)]) ∧ ∀ w3, Ext w0.heap.size ts w2 w3 →
          goodTail w0.heap.size R (fun w' => F.garboardlaw55_SensorGood.L9 A k c A9 k c9 A46 ns c46 ns ((j : Int) + 1) w0.heap.size w' R) A5 k i j (qv bx Ax nx cx Ax' nx' cx') (qv by' Ay ny cy Ay' ny' cy') (.agg #[(.bool b111), (.slice A112 n112 c112), (.slice A113 n113 c113)]) w3 := by
      intro ts w1 b A1 n1 c1 A1' n1' c1' h1 h2 hw1 kd kr kx ky hv1 ha1
      refine Pure.mono (ref3_Mul kr kd (sr.mono (by omega)) (sd.mono (by omega))) ?_
      rintro r w2 b2 ⟨b, A, n, c, A', n', c', rfl, km⟩
      refine ⟨_, _, _, _, _, _, _, rfl, fun w3 x3 => ?_⟩
      exact good_tail (K := fun w' => OwnR w' w0.heap.size 46 A9 k c9 4 ((v.set i y).map Va.row)) (kE (kP hw1 b2) x3) ((kx.below b2).ext x3 h1) ((ky.below b2).ext x3 h1) (km.ext x3 h1) (sx.mono (by omega)) ((vR_sm hu1 su).mono (by omega)) smm ((hv1.below b2).extT x3 h2) hvl hiv hjin
        (by rw [gu]; exact n3) (fun _ _ h hb => h.below hb) (fun _ _ h x => h.extNil x) ((ha1.below b2).extT x3 h2) fun w' hw' h => hL w' hw' h
    have int : ∀ w1, Ext w0.heap.size [] w11 w1 → Pure Tryz.prog 36 #[.int .i64 (tick - u.tick)] w1 (QR ((tick - u.tick : Int) : Rat)) := fun w1 _ => ref3_Int (by omega)
    refine ⟨q1, a1, hA1, _, t11, q5, a5, hA5, _, u11, by simp only [inR]; omega, fun w12 x12 => ?_, fun w12 x12 => ?_⟩
    · refine Pure.mono (int w12 x12) ?_
      rintro r w13 b13 ⟨b, A', n', c', A'', n'', c'', rfl, kd⟩
      have hb13 := kP (kE hb11 x12) b13
      have kx13 := (kx11.ext x12 (by simp)).below b13
      have ky13 := (ky11.ext x12 (by simp)).below b13
      have kr13 := (kr11.ext x12 (by simp)).below b13
      have ha13 := (ha11.extNil x12).below b13
      have hv13 := (hv11.extNil x12).below b13
      exact ⟨_, _, _, _, _, _, _, rfl, mul [] w13 _ _ _ _ _ _ _ (by simp) (by simp) hb13 kd kr13 kx13 ky13 hv13 ha13, fun w14 x14 => mul _ w14 _ _ _ _ _ _ _ (by decide) (by decide) (kE hb13 x14) (kd.ext x14 (by simp)) (kr13.ext x14 (by simp)) (kx13.ext x14 (by simp)) (ky13.ext x14 (by simp)) (hv13.extNil x14) (ha13.extNil x14)⟩
    · refine Pure.mono (int w12 x12) ?_
      rintro r w13 b13 ⟨b, A', n', c', A'', n'', c'', rfl, kd⟩
      have hb13 := kP (kE hb11 x12) b13
      exact ⟨_, _, _, _, _, _, _, rfl, mul _ w13 _ _ _ _ _ _ _ (by decide) (by decide) hb13 kd ((kr11.ext x12 (by simp)).below b13) ((kx11.ext x12 (by simp)).below b13) ((ky11.ext x12 (by simp)).below b13) ((hv11.extNil x12).below b13) ((ha11.extNil x12).below b13)⟩

theorem good_c2 {w : World} {cc : Ch} {p : Nat} {chan tick : Int} {raw : ByteArray} (h : w.heap[p]? = some (.cells [.int .i64 chan, .int .i64 tick, .string raw].toArray 42 (0, 0))) :
    Pure Tryz.prog 32 #[cc.val, .pointer (some ⟨p, 0, none⟩)] w fun v _ => v = .bool (isChan chan cc) :=
  F.garboardlaw55_SensorGood_c2.vc _ _ _ _ _ _ _ _ _ _ fun w1 x1 => ⟨_, box_cell (ext_nil x1 h) rfl, rfl⟩

theorem good_loop (hg : Glob w0) (hl : SlR w0 A 7 (l.map Ch.row)) (hlen : l.length = n) (hn : n ≤ 17) {v0 : List Va} (hf : fewF l v0 = true) {samples : List Sa} (hs : SlR w0 A46 3 (samples.map Sa.row)) (hsl : samples.length = ns) (hns : ns ≤ 12) (hraw : ∀ s ∈ samples, s.raw.size ≤ 40) (hR : ∀ w, R (.bool true) w) :
    ∀ (d j : Nat) (w : World) (A5 : Option Addr) (c5 : Nat) (v : List Va), ns - j = d → j ≤ ns → Below w0.heap.size w0 w → v.length = n → (∀ x ∈ v, SmV x) → OwnR w w0.heap.size 46 A5 n c5 4 (v.map Va.row) →
      F.garboardlaw55_SensorGood.L9 A n c A5 n c5 A46 ns c46 ns j w0.heap.size w R := by
  have hsc : ∀ x ∈ l, SmC x := (few_val hf).2.1
  intro d
  induction d with
  | zero => intro j w A5 c5 v hd hj hw hvl hsm ho; exact F.garboardlaw55_SensorGood.L9.step _ _ _ _ _ _ _ _ _ _ _ _ _ _ ⟨fun h => by omega, fun _ => hR w⟩
  | succ d ih =>
    intro j w A5 c5 v hd hj hw hvl hsm ho
    have hjs : j < samples.length := by omega
    obtain ⟨s, hsj⟩ : ∃ s, s = samples[j] := ⟨_, rfl⟩
    have hsr : s.raw.size ≤ 40 := by rw [hsj]; exact hraw _ (List.getElem_mem _)
    have e3 : (j : Int) + 1 = ((j + 1 : Nat) : Int) := by omega
    obtain ⟨hb, a, hA, hrow⟩ := (hs.keep hw (Nat.le_refl _)).load (n := ns) (by simpa using hsl) (j := (j : Int)) (by omega) (by omega)
    obtain ⟨hcell, _⟩ := hrow s.row (by rw [Int.toNat_natCast, hsj]; simp [hjs]) rfl
    refine F.garboardlaw55_SensorGood.L9.step _ _ _ _ _ _ _ _ _ _ _ _ _ _ ⟨fun _ => ⟨hb, a, hA, _, _, _, hcell, fun w1 x1 => ?_⟩, fun h => by omega⟩
    have hb1 := kE hw x1
    have o1 := ho.extNil x1
    refine Pure.mono (CloneC (hl.keep hb1 (Nat.le_refl _)) (by simpa using hlen) rowC_len' rowC_cell (by omega)) ?_
    rintro y w2 b2 ⟨A2, c2, rfl, o2⟩
    have hb2 := kP hb1 b2
    refine ⟨_, _, _, rfl, Pure.mono (CloneV (o1.below b2).sl (by simpa using hvl) rowV_len rowV_cell (by omega)) ?_⟩
    rintro y w3 b3 ⟨A3, c3, rfl, o3⟩
    have hb3 := kP hb2 b3
    have ov3 := (o1.below b2).below b3
    refine ⟨_, _, _, rfl, Pure.mono (sensor_Take (hg.next hb3) (v := v) (chan := s.chan) (tick := s.tick) (raw := s.raw) (o2.below b3).sl hlen o3.sl hvl (by omega) hsc hsm (by unfold SmS; omega)) ?_⟩
    rintro y w4 b4 hy
    have hb4 := kP hb3 b4
    have ov4 := ov3.below b4
    obtain ⟨A4, n4, c4, e4, rfl, hy4⟩ := take_any hy
    rcases hy4 with ⟨a', ta, rfl, rfl, o4⟩ | ⟨ta, he, rfl⟩
    · have hsm' := took_sm ta hf hsr hsm
      obtain ⟨k1, k2, k3, k4, i, cc, u, k5, k6, k7, k8, k9, rfl⟩ := take_ok ta
      have hiv := (List.getElem?_eq_some_iff.1 k8).1
      have fu := (fitsF_at k2).2 i cc u k6 k8
      unfold fit1 at fu
      simp only [Bool.and_eq_true, decide_eq_true_eq] at fu
      obtain ⟨_, hfa⟩ := check_valid k1
      obtain ⟨⟨v1, v2, v3, v4, v5⟩, _⟩ := fault_valid (hfa i cc k6)
      have mc := List.mem_of_getElem? k6
      have hcf := of_decide_eq_true (few_chan hf cc mc)
      have sx : Sm 121 (numberR cc s.raw) := Sm.mono (((vR_sm v1 hcf.2.1).mul (vR_sm k3 hsr)).add (vR_sm v2 hcf.2.2.1)) (by omega)
      refine ⟨_, _, _, _, rfl, fun h => absurd rfl h, fun _ p hp hbox => Pure.mono (IndexFuncC (hl.keep hb4 (Nat.le_refl _)) hlen (by omega) (p := isChan s.chan) (by kernel_rfl) fun w' hb' x => good_c2 (heap_keep hbox hb')) ?_⟩
      rintro y w5 b5 rfl
      have hb5 := kP hb4 b5
      rw [k5]
      refine ⟨_, rfl, fun h => absurd h (by omega), fun _ => ⟨fun h => absurd rfl h, fun _ => ⟨fun h => absurd rfl h, fun _ => ?_⟩⟩⟩
      refine good_inner (c := c) hl hlen hn k6 k8 hvl (hsc cc mc) (hsm u (List.mem_of_getElem? k8)) fu.1.2 fu.1.1.2 k4 ⟨v3, v4, v5⟩ sx (by omega) hR (fun w' hw' o' => ?_) n4 0 w5 rfl (by omega) hb5 (ov4.below b5) ((o4.base hb3.size).below b5) (heap_keep hbox b5)
      rw [e3]
      exact ih (j + 1) w' _ _ _ (by omega) (by omega) hw' (by rw [List.length_set]; exact hvl) hsm' o'
    · refine ⟨_, _, _, _, rfl, fun _ => ⟨by simp only [inR]; omega, ?_⟩, fun h => absurd he h⟩
      rw [e3]
      exact ih (j + 1) w4 _ _ v (by omega) (by omega) hb4 hvl hsm ov4
end

theorem law_SensorGood {w : World} (hg : Glob w) {A A1 : Option Addr} {n c n1 c1 : Nat} {l : List Ch} {samples : List Sa} (hl : SlR w A 7 (l.map Ch.row)) (hlen : l.length = n) (hn : n < 9223372036854775808) (hs : SlR w A1 3 (samples.map Sa.row)) (hsl : samples.length = n1) (hn1 : n1 < 9223372036854775808) :
    Pure Tryz.prog 6 #[.slice A n c, .slice A1 n1 c1] w fun y _ => y = .bool true := by
  refine F.garboardlaw55_SensorGood.vc _ _ _ _ _ _ _ _ (Pure.mono (law_awake hg) ?_)
  rintro y w2 b2 rfl
  refine ⟨_, rfl, fun h => (by cases h), fun _ => Pure.mono (ref_Few (l := l) (v := []) (hl.keep b2 (Nat.le_refl _)) (.inl rfl) hlen rfl hn (by omega)) ?_⟩
  rintro y w3 b3 rfl
  have hb3 := kP b2 b3
  refine ⟨_, rfl, fun _ => rfl, fun hf => ⟨fun _ => rfl, fun h12 => ?_⟩⟩
  have hf' : fewF l [] = true := by simpa using hf
  obtain ⟨⟨h17, _⟩, hsc, _⟩ := few_val hf'
  refine Pure.mono (ContainsSa (l := samples) (p := fun s => decide (40 < s.raw.size)) (hs.keep hb3 (Nat.le_refl _)) hsl (by omega) (by kernel_rfl) fun w' hb' s _ => ?_) ?_
  · refine F.garboardlaw55_SensorGood_c1.vc _ _ _ _ _ fun w1 _ => ?_
    refine congrArg Value.bool ?_
    rw [decide_eq_decide]
    omega
  rintro y w4 b4 rfl
  have hb4 := kP hb3 b4
  refine ⟨_, rfl, fun _ => rfl, fun hraw => ?_⟩
  have hraw' : ∀ s ∈ samples, s.raw.size ≤ 40 := fun s hs => by
    have := List.any_eq_false.1 hraw s hs
    have : ¬ 40 < s.raw.size := by simpa using this
    omega
  refine Pure.mono (CloneC (hl.keep hb4 (Nat.le_refl _)) (by simpa using hlen) rowC_len' rowC_cell (by omega)) ?_
  rintro y w5 b5 ⟨A5, c5, rfl, o5⟩
  have hb5 := kP hb4 b5
  refine ⟨_, _, _, rfl, Pure.mono (sensor_Start (hg.next hb5) o5.sl hlen hsc) ?_⟩
  rintro y w6 b6 ⟨k6, m6⟩
  have hb6 := kP hb5 b6
  by_cases hck : (checkF l).2 = 0
  · obtain ⟨A6, c6, rfl, o6⟩ := m6 hck
    exact ⟨_, _, _, _, rfl, fun h => absurd rfl h, fun _ => good_loop hg hl hlen (by omega) hf' hs hsl (by omega) hraw' (fun _ => rfl) n1 0 w6 _ _ (startF l) rfl (by omega) hb6 (by simp [startF, hlen]) start_sm (o6.base hb5.size)⟩
  · have e := k6 hck
    exact ⟨_, _, _, _, e, fun _ => rfl, fun h => absurd (by decide) h⟩
end Go.Proofs.YtdoailkigecmkaaGreatDoor.B
