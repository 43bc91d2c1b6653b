/- Part 10 of the proofs that: a claim about cargo holds -/
import Derived.Test.YtdnelnicnjplpaaGreatDoorA9
import Derived.Test.YtdnelnicnjplpaaGreatDoorProg
set_option linter.unusedVariables false
set_option linter.unusedSimpArgs false
namespace Go.Proofs.YtdnelnicnjplpaaGreatDoor.B
open Go Go.RowKit Go.Proofs Go.Proofs.YtdnelnicnjplpaaGreatDoor.Vc

def gP (ps : List Pa) (f : Pa → ByteArray) (id : Int) : Rat := match (pix ps id).bind fun i => ps[i]? with | some p => qR (f p) | none => 0
def gH (hs : List Ho) (f : Ho → ByteArray) (id : Int) : Rat := match (hix hs id).bind fun i => hs[i]? with | some h => qR (f h) | none => 0
def tP (ps : List Pa) (f : Pa → ByteArray) (s : Sw) : Rat := (s.units : Rat) * gP ps f s.parcel
def tH (ps : List Pa) (hs : List Ho) (f : Ho → ByteArray) (s : Sw) : Rat := (s.units : Rat) * gP ps Pa.mass s.parcel * gH hs f s.hold
abbrev ldV (a b c x y z : Rat) : Value := .agg #[.string (rS a), .string (rS b), .string (rS c), .string (rS x), .string (rS y), .string (rS z)]
def ldF (ps : List Pa) (hs : List Ho) (l : List Sw) : Value := ldV (sumR (tP ps Pa.mass) l) (sumR (tP ps Pa.vol) l) (sumR (tP ps Pa.worth) l) (sumR (tH ps hs Ho.x) l) (sumR (tH ps hs Ho.y) l) (sumR (tH ps hs Ho.z) l)
theorem gP_at {ps : List Pa} {id : Int} {i : Nat} {p : Pa} (h : pix ps id = some i) (e : ps[i]? = some p) (f : Pa → ByteArray) : gP ps f id = qR (f p) := by
  unfold gP; rw [h, Option.bind_some, e]
theorem gH_at {hs : List Ho} {id : Int} {i : Nat} {p : Ho} (h : hix hs id = some i) (e : hs[i]? = some p) (f : Ho → ByteArray) : gH hs f id = qR (f p) := by
  unfold gH; rw [h, Option.bind_some, e]
theorem sumR_snoc (f : Sw → Rat) (l : List Sw) (s : Sw) : sumR f (l ++ [s]) = sumR f l + f s := by rw [sumR_append, sumR_one]
theorem pix_lt {ps : List Pa} {id : Int} {i : Nat} (h : pix ps id = some i) : ∃ hi : i < ps.length, ps[i].id = id := by
  obtain ⟨p, e, k⟩ := pix_some h
  obtain ⟨hi, rfl⟩ := List.getElem?_eq_some_iff.1 e
  exact ⟨hi, k⟩
theorem hix_lt {hs : List Ho} {id : Int} {i : Nat} (h : hix hs id = some i) : ∃ hi : i < hs.length, hs[i].id = id := by
  obtain ⟨p, e, k⟩ := hix_some h
  obtain ⟨hi, rfl⟩ := List.getElem?_eq_some_iff.1 e
  exact ⟨hi, k⟩
structure LdOk (ps : List Pa) (hs : List Ho) (l : List Sw) : Prop where
  c : RightC ps hs
  known : ∀ s ∈ l, ∃ i k, pix ps s.parcel = some i ∧ hix hs s.hold = some k
  u : ∀ s ∈ l, 1 ≤ s.units ∧ s.units ≤ 9
  n : l.length ≤ 40
theorem LdOk.filter {ps : List Pa} {hs : List Ho} {l : List Sw} (h : LdOk ps hs l) (q : Sw → Bool) : LdOk ps hs (l.filter q) :=
  ⟨h.c, fun s hs' => h.known s (List.mem_filter.1 hs').1, fun s hs' => h.u s (List.mem_filter.1 hs').1, Nat.le_trans (List.length_filter_le _ _) h.n⟩
theorem units_mem {l : List Sw} (h : ∀ s ∈ l, 1 ≤ s.units) {s : Sw} (hs : s ∈ l) : s.units ≤ unitsF l s.parcel := by
  obtain ⟨a, b, rfl⟩ := List.append_of_mem hs
  rw [show a ++ s :: b = a ++ ([s] ++ b) from rfl, unitsF_append, unitsF_append, unitsF_one, if_pos rfl]
  have h1 := unitsF_nonneg (l := a) (fun x hx => h x (by simp [hx])) s.parcel
  have h2 := unitsF_nonneg (l := b) (fun x hx => h x (by simp [hx])) s.parcel
  omega
theorem RightS.ld {ps : List Pa} {hs : List Ho} {l : List Sw} (h : RightS ps hs l) (hn : l.length ≤ 40) : LdOk ps hs l := by
  refine ⟨h.c, h.known, fun s hs' => ⟨h.pos s hs', ?_⟩, hn⟩
  obtain ⟨i, k, hi, _⟩ := h.known s hs'
  obtain ⟨p, e, hid⟩ := pix_some hi
  have hm := List.mem_of_getElem? e
  have h1 := h.full p hm
  have h2 := units_mem h.pos hs'
  have h3 := (h.c.p1 p hm).2.1.2
  rw [hid] at h1
  omega
theorem sm_n {z : Int} (h1 : 1 ≤ z) (h9 : z ≤ 9) : Sm 1 (z : Rat) := Sm.ofInt (by omega) (by omega)
theorem sm_sum {f : Sw → Rat} {l : List Sw} (h : ∀ s ∈ l, Sm 2001 (f s)) : Sm (2002 * l.length + 1) (sumR f l) := by
  induction l with
  | nil => exact Sm.zero (by omega)
  | cons s r ih =>
    rw [show s :: r = [s] ++ r from rfl, sumR_append, sumR_one]
    refine ((h s (by simp)).add (ih fun x hx => h x (by simp [hx]))).mono ?_
    simp
    omega

section
variable {w0 : World} {A0 A1 A : Option Addr} {n0 c0 n1 c1 n c : Nat} {ps : List Pa} {hs : List Ho} {l : List Sw} {R : Value → World → Prop}
theorem LdOk.smP (h : LdOk ps hs l) (hc : CgIn w0 A0 n0 A1 n1 ps hs) {s : Sw} (hs' : s ∈ l) : Sm 1000 (gP ps Pa.mass s.parcel) ∧ Sm 1000 (gP ps Pa.vol s.parcel) ∧ Sm 1000 (gP ps Pa.worth s.parcel) := by
  obtain ⟨i, k, hi, _⟩ := h.known s hs'
  obtain ⟨p, e, _⟩ := pix_some hi
  have hm := List.mem_of_getElem? e
  have hv := h.c.vp p hm
  have hsm := hc.sp p hm
  unfold vP at hv
  simp only [Bool.and_eq_true] at hv
  rw [gP_at hi e, gP_at hi e, gP_at hi e]
  exact ⟨vR_sm hv.1.1 hsm.mass, vR_sm hv.1.2 hsm.vol, vR_sm hv.2 hsm.worth⟩
theorem LdOk.smH (h : LdOk ps hs l) (hc : CgIn w0 A0 n0 A1 n1 ps hs) {s : Sw} (hs' : s ∈ l) : Sm 1000 (gH hs Ho.x s.hold) ∧ Sm 1000 (gH hs Ho.y s.hold) ∧ Sm 1000 (gH hs Ho.z s.hold) := by
  obtain ⟨_, i, _, hi⟩ := h.known s hs'
  obtain ⟨p, e, _⟩ := hix_some hi
  have hm := List.mem_of_getElem? e
  have hv := h.c.vh p hm
  have hsm := hc.sh p hm
  unfold vH at hv
  simp only [Bool.and_eq_true] at hv
  rw [gH_at hi e, gH_at hi e, gH_at hi e]
  exact ⟨vR_sm hv.1.1.2 hsm.x, vR_sm hv.1.2 hsm.y, vR_sm hv.2 hsm.z⟩
theorem LdOk.smT (h : LdOk ps hs l) (hc : CgIn w0 A0 n0 A1 n1 ps hs) {s : Sw} (hs' : s ∈ l) :
    (Sm 2001 (tP ps Pa.mass s) ∧ Sm 2001 (tP ps Pa.vol s) ∧ Sm 2001 (tP ps Pa.worth s)) ∧ (Sm 2001 (tH ps hs Ho.x s) ∧ Sm 2001 (tH ps hs Ho.y s) ∧ Sm 2001 (tH ps hs Ho.z s)) := by
  obtain ⟨a, b, d⟩ := h.smP hc hs'
  obtain ⟨x, y, z⟩ := h.smH hc hs'
  have hn := sm_n (h.u s hs').1 (h.u s hs').2
  exact ⟨⟨(hn.mul a).mono (by omega), (hn.mul b).mono (by omega), (hn.mul d).mono (by omega)⟩, ((hn.mul a).mul x).mono (by omega), ((hn.mul a).mul y).mono (by omega), ((hn.mul a).mul z).mono (by omega)⟩
theorem LdOk.smL (h : LdOk ps hs l) (hc : CgIn w0 A0 n0 A1 n1 ps hs) :
    (Big (sumR (tP ps Pa.mass) l) ∧ Big (sumR (tP ps Pa.vol) l) ∧ Big (sumR (tP ps Pa.worth) l)) ∧ (Big (sumR (tH ps hs Ho.x) l) ∧ Big (sumR (tH ps hs Ho.y) l) ∧ Big (sumR (tH ps hs Ho.z) l)) := by
  have hn := h.n
  exact ⟨⟨(sm_sum fun s hs' => (h.smT hc hs').1.1).mono (by omega), (sm_sum fun s hs' => (h.smT hc hs').1.2.1).mono (by omega), (sm_sum fun s hs' => (h.smT hc hs').1.2.2).mono (by omega)⟩,
    (sm_sum fun s hs' => (h.smT hc hs').2.1).mono (by omega), (sm_sum fun s hs' => (h.smT hc hs').2.2.1).mono (by omega), (sm_sum fun s hs' => (h.smT hc hs').2.2.2).mono (by omega)⟩
theorem LdOk.take (h : LdOk ps hs l) (i : Nat) : LdOk ps hs (l.take i) :=
  ⟨h.c, fun s hs' => h.known s (List.mem_of_mem_take hs'), fun s hs' => h.u s (List.mem_of_mem_take hs'), by have := h.n; rw [List.length_take]; omega⟩

theorem laden_L3 (hg : Glob w0) (hc : CgIn w0 A0 n0 A1 n1 ps hs) (h : SlR w0 A 3 (l.map Sw.row)) (hl : l.length = n) (hok : LdOk ps hs l) (t0 t1 t2 t3 t4 t5 : ByteArray) :
    ∀ (d i : Nat) (w : World), n - i = d → i ≤ n → Below w0.heap.size w0 w →
      F.cargo_laden.L3 A n c n i A0 n0 c0 A1 n1 c1 t0 t1 t2 t3 t4 t5 (rS (sumR (tP ps Pa.mass) (l.take i))) (rS (sumR (tP ps Pa.vol) (l.take i))) (rS (sumR (tP ps Pa.worth) (l.take i))) (rS (sumR (tH ps hs Ho.x) (l.take i))) (rS (sumR (tH ps hs Ho.y) (l.take i))) (rS (sumR (tH ps hs Ho.z) (l.take i))) w0.heap.size w fun v _ => v = ldF ps hs l := by
  intro d
  induction d with
  | zero =>
    intro i w hd hi hw
    refine F.cargo_laden.L3.step _ _ _ _ _ _ _ _ _ _ _ _ _ _ _ _ _ _ _ _ _ _ _ _ _ _ ⟨fun h => by omega, fun _ w2 _ => ?_⟩
    rw [List.take_of_length_le (by omega)]
    rfl
  | succ d ih =>
    intro i w hd hi hw
    have hil : i < l.length := by omega
    have hn40 := hok.n
    have e3 : (i : Int) + 1 = ((i + 1 : Nat) : Int) := by omega
    have et : l.take (i + 1) = l.take i ++ [l[i]] := by rw [List.take_add_one, List.getElem?_eq_getElem hil]; rfl
    have hmem : l[i] ∈ l := List.getElem_mem hil
    obtain ⟨ip, ih', hip, hih⟩ := hok.known l[i] hmem
    obtain ⟨hpl, hpid⟩ := pix_lt hip
    obtain ⟨hhl, hhid⟩ := hix_lt hih
    obtain ⟨⟨b1, b2, b3⟩, b4, b5, b6⟩ := (hok.take i).smL hc
    obtain ⟨m1, m2, m3⟩ := hok.smP hc hmem
    obtain ⟨m4, m5, m6⟩ := hok.smH hc hmem
    obtain ⟨⟨k1, k2, k3⟩, k4, k5, k6⟩ := hok.smT hc hmem
    have hu := hok.u l[i] hmem
    have hun := sm_n hu.1 hu.2
    have hunB : Big ((l[i].units : Int) : Rat) := hun.mono (by omega)
    have hvp := hok.c.vp _ (List.getElem_mem hpl)
    have hvh := hok.c.vh _ (List.getElem_mem hhl)
    unfold vP at hvp
    unfold vH at hvh
    simp only [Bool.and_eq_true] at hvp hvh
    have p1 : ps[ip].mass = rS (gP ps Pa.mass l[i].parcel) := by rw [gP_at hip (List.getElem?_eq_getElem hpl)]; exact vR_eq hvp.1.1
    have p2 : ps[ip].vol = rS (gP ps Pa.vol l[i].parcel) := by rw [gP_at hip (List.getElem?_eq_getElem hpl)]; exact vR_eq hvp.1.2
    have p3 : ps[ip].worth = rS (gP ps Pa.worth l[i].parcel) := by rw [gP_at hip (List.getElem?_eq_getElem hpl)]; exact vR_eq hvp.2
    have p4 : hs[ih'].x = rS (gH hs Ho.x l[i].hold) := by rw [gH_at hih (List.getElem?_eq_getElem hhl)]; exact vR_eq hvh.1.1.2
    have p5 : hs[ih'].y = rS (gH hs Ho.y l[i].hold) := by rw [gH_at hih (List.getElem?_eq_getElem hhl)]; exact vR_eq hvh.1.2
    have p6 : hs[ih'].z = rS (gH hs Ho.z l[i].hold) := by rw [gH_at hih (List.getElem?_eq_getElem hhl)]; exact vR_eq hvh.2
    have big : ∀ {x : Rat}, Sm 2001 x → Big x := fun h => h.mono (by omega)
    have bg : ∀ {x : Rat}, Sm 1000 x → Big x := fun h => h.mono (by omega)
    have fin : ∀ (w : World) (a b : Int), Below w0.heap.size w0 w →
        F.cargo_laden.J6 A n c n i A0 n0 c0 A1 n1 c1 t0 t1 t2 t3 t4 t5 (rS (sumR (tP ps Pa.mass) (l.take i))) (rS (sumR (tP ps Pa.vol) (l.take i))) (rS (sumR (tP ps Pa.worth) (l.take i))) (rS (sumR (tH ps hs Ho.x) (l.take i))) (rS (sumR (tH ps hs Ho.y) (l.take i))) (rS (sumR (tH ps hs Ho.z) (l.take i)))
          l[i].hold l[i].parcel l[i].units ps[ip].id a b ps[ip].name ps[ip].mass ps[ip].vol ps[ip].worth hs[ih'].x hs[ih'].y hs[ih'].z w0.heap.size w fun v _ => v = ldF ps hs l := by
      intro w a b hw
      rw [p1, p2, p3, p4, p5, p6]
      have next : ∀ w', Below w0.heap.size w0 w' → F.cargo_laden.L3 A n c n ((i : Int) + 1) A0 n0 c0 A1 n1 c1 t0 t1 t2 t3 t4 t5 (rS (sumR (tP ps Pa.mass) (l.take i) + tP ps Pa.mass l[i])) (rS (sumR (tP ps Pa.vol) (l.take i) + tP ps Pa.vol l[i])) (rS (sumR (tP ps Pa.worth) (l.take i) + tP ps Pa.worth l[i])) (rS (sumR (tH ps hs Ho.x) (l.take i) + tH ps hs Ho.x l[i])) (rS (sumR (tH ps hs Ho.y) (l.take i) + tH ps hs Ho.y l[i])) (rS (sumR (tH ps hs Ho.z) (l.take i) + tH ps hs Ho.z l[i])) w0.heap.size w' fun v _ => v = ldF ps hs l := by
        intro w' hw'
        have := ih (i + 1) w' (by omega) (by omega) hw'
        rw [et] at this
        simp only [sumR_snoc] at this
        rw [e3]
        exact this
      unfold tP tH at *
      refine F.cargo_laden.J6.step _ _ _ _ _ _ _ _ _ _ _ _ _ _ _ _ _ _ _ _ _ _ _ _ _ _ _ _ _ _ _ _ _ _ _ _ _ _ _ (Pure.mono (cargo_number (hg.next hw) (by omega) (by omega)) ?_)
      rintro v w1 h1 rfl
      have hw := kP hw h1; clear h1
      refine ⟨_, rfl, Pure.mono (cargo_mul (hg.next hw) hunB (bg m1)) ?_⟩
      rintro v w2 h1 rfl
      have hw := kP hw h1; clear h1
      refine ⟨_, rfl, fun w3 x3 => ?_⟩
      have hw := kE hw x3; clear x3
      refine Pure.mono (cargo_add (hg.next hw) b1 (big k1)) ?_
      rintro v w4 h1 rfl
      have hw := kP hw h1; clear h1
      refine ⟨_, rfl, Pure.mono (cargo_mul (hg.next hw) hunB (bg m2)) ?_⟩
      rintro v w5 h1 rfl
      have hw := kP hw h1; clear h1
      refine ⟨_, rfl, Pure.mono (cargo_add (hg.next hw) b2 (big k2)) ?_⟩
      rintro v w6 h1 rfl
      have hw := kP hw h1; clear h1
      refine ⟨_, rfl, Pure.mono (cargo_mul (hg.next hw) hunB (bg m3)) ?_⟩
      rintro v w7 h1 rfl
      have hw := kP hw h1; clear h1
      refine ⟨_, rfl, Pure.mono (cargo_add (hg.next hw) b3 (big k3)) ?_⟩
      rintro v w8 h1 rfl
      have hw := kP hw h1; clear h1
      refine ⟨_, rfl, fun w9 x9 => ?_⟩
      have hw := kE hw x9; clear x9
      refine Pure.mono (cargo_mul (hg.next hw) (big k1) (bg m4)) ?_
      rintro v w10 h1 rfl
      have hw := kP hw h1; clear h1
      refine ⟨_, rfl, Pure.mono (cargo_add (hg.next hw) b4 (big k4)) ?_⟩
      rintro v w11 h1 rfl
      have hw := kP hw h1; clear h1
      refine ⟨_, rfl, Pure.mono (cargo_mul (hg.next hw) (big k1) (bg m5)) ?_⟩
      rintro v w12 h1 rfl
      have hw := kP hw h1; clear h1
      refine ⟨_, rfl, Pure.mono (cargo_add (hg.next hw) b5 (big k5)) ?_⟩
      rintro v w13 h1 rfl
      have hw := kP hw h1; clear h1
      refine ⟨_, rfl, Pure.mono (cargo_mul (hg.next hw) (big k1) (bg m6)) ?_⟩
      rintro v w14 h1 rfl
      have hw := kP hw h1; clear h1
      refine ⟨_, rfl, Pure.mono (cargo_add (hg.next hw) b6 (big k6)) ?_⟩
      rintro v w15 h1 rfl
      have hw := kP hw h1; clear h1
      refine ⟨_, rfl, by simp only [inR]; omega, fun w16 x16 => ?_⟩
      exact next w16 (kE hw x16)
    clear ih
    obtain ⟨hb, a, hA, hcell, _⟩ := (h.keep hw (Nat.le_refl _)).at_ (fun _ => rfl) hl hil
    obtain ⟨hbp, ap, hAp, _⟩ := hc.p.at_ (fun _ => rfl) hc.lp hpl
    obtain ⟨hbh, ah, hAh, _⟩ := hc.h.at_ (fun _ => rfl) hc.lh hhl
    have cP : ∀ w, Below w0.heap.size w0 w → CellsAt w (ap.add ((ip : Int).toNat * 7)) (ps[ip].row) := fun w hw => by
      obtain ⟨_, a', hA', hc', _⟩ := (hc.p.keep hw (Nat.le_refl _)).at_ (fun _ => rfl) hc.lp hpl
      rw [hAp] at hA'
      cases hA'
      exact hc'
    have cH : ∀ w, Below w0.heap.size w0 w → CellsAt w ((ah.add ((ih' : Int).toNat * 7)).add 4) [.string hs[ih'].x, .string hs[ih'].y, .string hs[ih'].z] := fun w hw => by
      obtain ⟨_, a', hA', hc', _⟩ := (hc.h.keep hw (Nat.le_refl _)).at_ (fun _ => rfl) hc.lh hhl
      rw [hAh] at hA'
      cases hA'
      exact cells_part hc' 4 3
    refine F.cargo_laden.L3.step _ _ _ _ _ _ _ _ _ _ _ _ _ _ _ _ _ _ _ _ _ _ _ _ _ _ ⟨fun _ => ⟨hb, a, hA, _, _, _, hcell, fun w6 x6 => ?_⟩, fun h => by omega⟩
    have hw6 := kE hw x6
    have par : ∀ w, Below w0.heap.size w0 w → Pure Tryz.prog 51 #[.agg #[.slice A0 n0 c0, .slice A1 n1 c1], .int .i64 l[i].parcel] w fun v _ => v = .int .i64 (ip : Int) := fun w hw => by
      have := cargo_parcel (c0 := c0) (c1 := c1) (hc.keep hw) l[i].parcel
      rw [hip] at this
      exact this
    have hol : ∀ w, Below w0.heap.size w0 w → Pure Tryz.prog 52 #[.agg #[.slice A0 n0 c0, .slice A1 n1 c1], .int .i64 l[i].hold] w fun v _ => v = .int .i64 (ih' : Int) := fun w hw => by
      have := cargo_hold (c0 := c0) (c1 := c1) (hc.keep hw) l[i].hold
      rw [hih] at this
      exact this
    have leafA : ∀ (w : World), Below w0.heap.size w0 w → ∃ s25 s26 s27 : ByteArray, CellsAt w ((ah.add ((ih' : Int).toNat * 7)).add 4) [.string s25, .string s26, .string s27] ∧ ∀ (ts : List Nat) w28, Ext w0.heap.size ts w w28 → F.cargo_laden.J6 A n c n i A0 n0 c0 A1 n1 c1 t0 t1 t2 t3 t4 t5 (rS (sumR (tP ps Pa.mass) (l.take i))) (rS (sumR (tP ps Pa.vol) (l.take i))) (rS (sumR (tP ps Pa.worth) (l.take i))) (rS (sumR (tH ps hs Ho.x) (l.take i))) (rS (sumR (tH ps hs Ho.y) (l.take i))) (rS (sumR (tH ps hs Ho.z) (l.take i)))
          l[i].hold l[i].parcel l[i].units ps[ip].id ps[ip].units ps[ip].cls ps[ip].name ps[ip].mass ps[ip].vol ps[ip].worth s25 s26 s27 w0.heap.size w28 fun v _ => v = ldF ps hs l :=
      fun w hw => ⟨_, _, _, cH w hw, fun ts w28 x => fin w28 _ _ (kE hw x)⟩
    have leaf2 : ∀ (ts ts' : List Nat) (w : World), Below w0.heap.size w0 w → ∀ w24, Ext w0.heap.size ts w w24 → ∃ s25 s26 s27 : ByteArray, CellsAt w24 ((ah.add ((ih' : Int).toNat * 7)).add 4) [.string s25, .string s26, .string s27] ∧ ∀ w28, Ext w0.heap.size ts' w24 w28 → F.cargo_laden.J6 A n c n i A0 n0 c0 A1 n1 c1 t0 t1 t2 t3 t4 t5 (rS (sumR (tP ps Pa.mass) (l.take i))) (rS (sumR (tP ps Pa.vol) (l.take i))) (rS (sumR (tP ps Pa.worth) (l.take i))) (rS (sumR (tH ps hs Ho.x) (l.take i))) (rS (sumR (tH ps hs Ho.y) (l.take i))) (rS (sumR (tH ps hs Ho.z) (l.take i)))
          l[i].hold l[i].parcel l[i].units ps[ip].id ps[ip].units ps[ip].cls ps[ip].name ps[ip].mass ps[ip].vol ps[ip].worth s25 s26 s27 w0.heap.size w28 fun v _ => v = ldF ps hs l :=
      fun ts ts' w hw w24 x => by
        obtain ⟨s1, s2, s3, e, f⟩ := leafA w24 (kE hw x)
        exact ⟨s1, s2, s3, e, fun w28 x28 => f ts' w28 x28⟩
    clear fin
    refine ⟨fun w7 x7 => ?_, fun w55 x55 => ?_⟩
    · have hw7 := kE hw6 x7
      refine Pure.mono (par w7 hw7) ?_
      rintro v w10 h10 rfl
      have hw10 := kP hw7 h10
      refine ⟨_, rfl, hbp, ap, hAp, _, _, _, _, _, _, _, cP w6 hw6, fun w19 x19 => ?_, fun w34 x34 => ?_⟩
      · have hw19 := kE hw10 x19
        refine Pure.mono (hol w19 hw19) ?_
        rintro v w22 h22 rfl
        have hw22 := kP hw19 h22
        exact ⟨_, rfl, hbh, ah, hAh, leaf2 _ _ w22 hw22, leaf2 _ _ w22 hw22⟩
      · have hw34 := kE hw10 x34
        refine Pure.mono (hol w34 hw34) ?_
        rintro v w37 h37 rfl
        have hw37 := kP hw34 h37
        exact ⟨_, rfl, ⟨hbh, ah, hAh, leaf2 _ _ w37 hw37, leaf2 _ _ w37 hw37⟩, hbh, ah, hAh, leaf2 _ _ w37 hw37⟩
    · have hw55 := kE hw6 x55
      refine Pure.mono (par w55 hw55) ?_
      rintro v w58 h58 rfl
      have hw58 := kP hw55 h58
      refine ⟨_, rfl, hbp, ap, hAp, _, _, _, _, _, _, _, cP w6 hw6, fun w67 x67 => ?_⟩
      have hw67 := kE hw58 x67
      refine Pure.mono (hol w67 hw67) ?_
      rintro v w70 h70 rfl
      have hw70 := kP hw67 h70
      exact ⟨_, rfl, hbh, ah, hAh, leaf2 _ _ w70 hw70, leaf2 _ _ w70 hw70⟩
theorem cargo_laden (hg : Glob w0) (hc : CgIn w0 A0 n0 A1 n1 ps hs) (h : SlR w0 A 3 (l.map Sw.row)) (hl : l.length = n) (hok : LdOk ps hs l) :
    Pure Tryz.prog 58 #[.agg #[.slice A0 n0 c0, .slice A1 n1 c1], .slice A n c] w0 fun v _ => v = ldF ps hs l := by
  refine F.cargo_laden.vc _ _ _ _ _ _ _ _ _ _ _ fun w1 x1 => ?_
  have := laden_L3 (c := c) (c0 := c0) (c1 := c1) hg hc h hl hok (⟨#[]⟩) (⟨#[]⟩) (⟨#[]⟩) (⟨#[]⟩) (⟨#[]⟩) (⟨#[]⟩) n 0 w1 rfl (by omega) (k0 x1)
  simp only [List.take_zero, sumR_nil, ← s0] at this
  exact this
end

theorem CloneS {w : World} {A : Option Addr} {n c : Nat} {l : List Sw} (h : SlR w A 3 (l.map Sw.row)) (hlen : l.length = n) (hn : n ≤ 1000000) :
    Pure Tryz.prog 17 #[.slice A n c] w fun v w' => ∃ A' c', v = .slice A' n c' ∧ OwnR w' w.heap.size 35 A' n c' 3 (l.map Sw.row) := by
  refine F.slices_Clone_api_Stow_api_Stow.vc _ _ _ _ _ ⟨fun hA => ?_, fun hA => ?_⟩
  · subst hA
    have := h.none_nil
    simp at this
    subst this
    simp at hlen
    subst hlen
    exact ⟨none, 0, rfl, OwnR.nil⟩
  · obtain ⟨a, rfl⟩ := Option.ne_none_iff_exists'.1 hA
    refine runOk_lit el_Sws [] (by simp) (by simp) (Nat.le_refl _) fun A2 c2 w2 ho b2 => ?_
    refine app_rows el_Sws (Nat.le_refl _) (by simpa using ho) (h.below b2) (by simpa using hlen) (fun r hr => by obtain ⟨s, _, rfl⟩ := List.mem_map.1 hr; rfl) (fun r hr => by obtain ⟨s, _, rfl⟩ := List.mem_map.1 hr; intro u hu; simp [Sw.row] at hu; rcases hu with rfl | rfl | rfl <;> rfl) b2.size (by simp; omega) (by simp) fun A' c' w3 o3 _ b3 => ?_
    simp only [List.length_nil, Nat.zero_add, List.nil_append] at o3 ⊢
    exact ⟨A', c', rfl, o3⟩
def inS (l : List Sw) (id : Int) : List Sw := l.filter fun s => decide (s.hold = id)
theorem cargo_in {w : World} {A : Option Addr} {n c : Nat} {l : List Sw} (h : SlR w A 3 (l.map Sw.row)) (hlen : l.length = n) (hn : n ≤ 1000000) (id : Int) :
    Pure Tryz.prog 59 #[.slice A n c, .int .i64 id] w fun v w' => ∃ A' m c', v = .slice A' m c' ∧ SlR w' A' 3 ((inS l id).map Sw.row) ∧ (inS l id).length = m := by
  refine F.cargo_in.vc _ _ _ _ _ _ fun w1 x1 => ?_
  have hw1 := k0 x1
  refine Pure.mono (CloneS (h.keep hw1 (Nat.le_refl _)) hlen hn) ?_
  rintro v w4 b4 ⟨A', c', rfl, ho⟩
  refine ⟨_, _, _, rfl, fun p5 hp5 hbox => ?_⟩
  have hw4 := kP hw1 b4
  have hne : ∀ a, A' = some a → p5 ≠ a.block := fun a ha e => by
    obtain ⟨cs, hcs⟩ := ho.cells a ha
    rw [← e, hbox] at hcs
    simp at hcs
  have hlt : p5 < w4.heap.size := (Array.getElem?_eq_some_iff.1 hbox).1
  refine PureB.mono (DeleteFuncS (p := fun s => decide (s.hold ≠ id)) hw4.size (ho.base hw1.size) (by omega) (by kernel_rfl) fun w' hoth x => ?_) ?_
  · refine F.cargo_in_c1.vc _ _ _ _ _ _ fun w5 x5 => ⟨_, box_all (ty := 3) ?_, rfl⟩
    exact (k0 x5).block p5 (Nat.lt_of_lt_of_le hlt hoth.1) |>.trans ((hoth.2 p5 hlt hne).trans hbox)
  · rintro v w8 b8 ⟨m, rfl, o8, _⟩
    refine ⟨fun _ _ _ ht => (by cases ht), _, _, _, rfl, _, _, _, rfl, ?_⟩
    have e : (l.filter fun x => !(decide (x.hold ≠ id))) = inS l id := by
      unfold inS
      refine List.filter_congr fun s _ => ?_
      by_cases h : s.hold = id <;> simp [h]
    rw [e] at o8
    exact ⟨o8.sl, by simpa using o8.len⟩
end Go.Proofs.YtdnelnicnjplpaaGreatDoor.B

namespace Go.Proofs.YtdnelnicnjplpaaGreatDoor.B
open Go Go.RowKit Go.Proofs Go.Proofs.YtdnelnicnjplpaaGreatDoor.Vc

abbrev ld0 : Value := .agg #[.string ⟨#[]⟩, .string ⟨#[]⟩, .string ⟨#[]⟩, .string ⟨#[]⟩, .string ⟨#[]⟩, .string ⟨#[]⟩]
def heldV (ps : List Pa) (hs : List Ho) (l : List Sw) (id : Int) : Value :=
  if stowedF ps hs l ≠ 0 then .tuple #[ld0, .int .i64 1] else if hix hs id = none then .tuple #[ld0, .int .i64 7] else .tuple #[ldF ps hs (inS l id), .int .i64 0]
def totalV (ps : List Pa) (hs : List Ho) (l : List Sw) : Value :=
  if stowedF ps hs l ≠ 0 then .tuple #[ld0, .int .i64 1] else .tuple #[ldF ps hs l, .int .i64 0]
def overB (ps : List Pa) (_ : List Ho) (l : List Sw) (h : Ho) : Bool :=
  decide (qR h.most < sumR (tP ps Pa.mass) (inS l h.id)) || decide (qR h.room < sumR (tP ps Pa.vol) (inS l h.id))
def overV (ps : List Pa) (hs : List Ho) (l : List Sw) : Value :=
  if stowedF ps hs l ≠ 0 then .tuple #[.int .i64 0, .int .i64 1] else .tuple #[.int .i64 (ixI (hs.findIdx? (overB ps hs l))), .int .i64 0]
theorem ixI_neg {o : Option Nat} : ixI o < 0 ↔ o = none := by cases o <;> simp [ixI]

section
variable {w : World} {A0 A1 A : Option Addr} {n0 c0 n1 c1 n c : Nat} {ps : List Pa} {hs : List Ho} {l : List Sw}
theorem cargo_Held (hg : Glob w) (hc : CgIn w A0 n0 A1 n1 ps hs) (h : SlR w A 3 (l.map Sw.row)) (hl : l.length = n) (hnc : n ≤ c) (hn : n ≤ 40) (id : Int) :
    Pure Tryz.prog 19 #[.agg #[.slice A0 n0 c0, .slice A1 n1 c1], .slice A n c, .int .i64 id] w fun v _ => v = heldV ps hs l id := by
  refine F.cargo_Held.vc _ _ _ _ _ _ _ _ _ _ _ _ fun w1 x1 => ?_
  have hw := k0 x1
  refine Pure.mono (cargo_Stowed (hg.next hw) (hc.keep hw) (h.keep hw (Nat.le_refl _)) hl hnc (by omega)) ?_
  rintro v w4 b4 rfl
  have hw := kP hw b4
  unfold heldV
  refine ⟨_, rfl, fun h0 w5 _ => by rw [if_pos h0], fun h0 => ?_⟩
  rw [if_neg h0]
  have hok := (stowed_right (Decidable.not_not.1 h0)).ld (by omega)
  refine Pure.mono (cargo_hold (hc.keep hw) id) ?_
  rintro v w8 b8 rfl
  have hw := kP hw b8
  refine ⟨_, rfl, fun h1 w9 _ => by rw [if_pos (ixI_neg.1 h1)], fun h1 w10 x10 => ?_⟩
  rw [if_neg (fun k => h1 (ixI_neg.2 k))]
  have hw := kE hw x10
  refine Pure.mono (cargo_in (h.keep hw (Nat.le_refl _)) hl (by omega) id) ?_
  rintro v w13 b13 ⟨A', m, c', rfl, hi, hil⟩
  have hw := kP hw b13
  refine ⟨_, _, _, rfl, Pure.mono (cargo_laden (hg.next hw) (hc.keep hw) hi hil (hok.filter _)) ?_⟩
  rintro v w21 b21 rfl
  exact ⟨_, _, _, _, _, _, rfl, fun w22 _ => rfl⟩
theorem cargo_Total (hg : Glob w) (hc : CgIn w A0 n0 A1 n1 ps hs) (h : SlR w A 3 (l.map Sw.row)) (hl : l.length = n) (hnc : n ≤ c) (hn : n ≤ 40) :
    Pure Tryz.prog 21 #[.agg #[.slice A0 n0 c0, .slice A1 n1 c1], .slice A n c] w fun v _ => v = totalV ps hs l := by
  refine F.cargo_Total.vc _ _ _ _ _ _ _ _ _ _ _ fun w1 x1 => ?_
  have hw := k0 x1
  refine Pure.mono (cargo_Stowed (hg.next hw) (hc.keep hw) (h.keep hw (Nat.le_refl _)) hl hnc (by omega)) ?_
  rintro v w4 b4 rfl
  have hw := kP hw b4
  unfold totalV
  refine ⟨_, rfl, fun h0 w5 _ => by rw [if_pos h0], fun h0 => ?_⟩
  rw [if_neg h0]
  have hok := (stowed_right (Decidable.not_not.1 h0)).ld (by omega)
  refine Pure.mono (cargo_laden (hg.next hw) (hc.keep hw) (h.keep hw (Nat.le_refl _)) hl hok) ?_
  rintro v w21 b21 rfl
  exact ⟨_, _, _, _, _, _, rfl, fun w22 _ => rfl⟩
theorem over_c1 (hg : Glob w) (hc : CgIn w A0 n0 A1 n1 ps hs) (h : SlR w A 3 (l.map Sw.row)) (hl : l.length = n) (hok : LdOk ps hs l) {q0 q1 : Addr} (hq0 : ∀ w', Below w.heap.size w w' → CellsAt w' q0 [.slice A0 n0 c0, .slice A1 n1 c1]) (hq1 : ∀ w', Below w.heap.size w w' → CellsAt w' q1 [.slice A n c]) {x : Ho} (hx : x ∈ hs) :
    Pure Tryz.prog 62 #[x.val, .pointer (some q0), .pointer (some q1)] w fun v _ => v = .bool (overB ps hs l x) := by
  have hn := hok.n
  have hvh := hok.c.vh x hx
  unfold vH at hvh
  simp only [Bool.and_eq_true] at hvh
  have hsm := hc.sh x hx
  have bm : Big (qR x.most) := hsm.most.big hvh.1.1.1.2
  have br : Big (qR x.room) := hsm.room.big hvh.1.1.1.1
  have em : x.most = rS (qR x.most) := vR_eq hvh.1.1.1.2
  have er : x.room = rS (qR x.room) := vR_eq hvh.1.1.1.1
  obtain ⟨⟨b1, b2, b3⟩, b4, b5, b6⟩ := (hok.filter fun s => decide (s.hold = x.id)).smL hc
  have cmp : ∀ w', Below w.heap.size w w' → Pure Tryz.prog 63 #[.string (rS (sumR (tP ps Pa.mass) (inS l x.id))), .string x.most] w' fun r w2 => ∃ i : Int, r = .int .i64 i ∧ ((i > 0 → (fun (v : Value) (_ : World) => v = .bool (overB ps hs l x)) (.bool true) w2) ∧ (¬ i > 0 →
      Pure Tryz.prog 63 #[.string (rS (sumR (tP ps Pa.vol) (inS l x.id))), .string x.room] w2 fun r w3 => ∃ i : Int, r = .int .i64 i ∧ (fun (v : Value) (_ : World) => v = .bool (overB ps hs l x)) (.bool (decide (i > 0))) w3)) := by
    intro w' hw
    have c1 := cargo_compare (hg.next hw) b1 bm
    rw [← em] at c1
    refine Pure.mono c1 ?_
    rintro v w2 h2 rfl
    have hw := kP hw h2
    refine ⟨_, rfl, fun k => ?_, fun k => ?_⟩
    · have := cmpR_gt.1 k
      show Value.bool true = _
      unfold overB
      rw [show (decide (qR x.most < sumR (tP ps Pa.mass) (inS l x.id))) = true from decide_eq_true this]
      rfl
    · have c2 := cargo_compare (hg.next hw) b2 br
      rw [← er] at c2
      refine Pure.mono c2 ?_
      rintro v w3 h3 rfl
      refine ⟨_, rfl, ?_⟩
      show Value.bool _ = _
      unfold overB
      rw [show (decide (qR x.most < sumR (tP ps Pa.mass) (inS l x.id))) = false from decide_eq_false fun h => k (cmpR_gt.2 h), Bool.false_or]
      refine congrArg Value.bool ?_
      rw [decide_eq_decide]
      exact cmpR_gt
  refine F.cargo_Overloaded_c1.vc _ _ _ _ _ _ _ _ _ _ _ fun w1 x1 => ?_
  have hw1 := k0 x1
  refine ⟨_, _, _, _, _, _, hq0 w1 hw1, _, _, _, hq1 w1 hw1, fun w5 x5 => ?_, fun w40 x40 => ?_⟩
  · have hw5 := kE hw1 x5
    refine Pure.mono (cargo_in (h.keep hw5 (Nat.le_refl _)) hl (by omega) x.id) ?_
    rintro v w8 b8 ⟨A', m, c', rfl, hi, hil⟩
    have hw8 := kP hw5 b8
    refine ⟨_, _, _, rfl, Pure.mono (cargo_laden (hg.next hw8) (hc.keep hw8) hi hil (hok.filter _)) ?_, fun w24 x24 => ?_⟩
    · rintro v w16 b16 rfl
      exact ⟨_, _, _, _, _, _, rfl, fun w17 x17 => cmp w17 (kE (kP hw8 b16) x17)⟩
    · have hw24 := kE hw8 x24
      refine Pure.mono (cargo_laden (hg.next hw24) (hc.keep hw24) (hi.extNil x24) hil (hok.filter _)) ?_
      rintro v w16 b16 rfl
      exact ⟨_, _, _, _, _, _, rfl, fun w17 x17 => cmp w17 (kE (kP hw24 b16) x17)⟩
  · have hw5 := kE hw1 x40
    refine Pure.mono (cargo_in (h.keep hw5 (Nat.le_refl _)) hl (by omega) x.id) ?_
    rintro v w8 b8 ⟨A', m, c', rfl, hi, hil⟩
    have hw8 := kP hw5 b8
    refine ⟨_, _, _, rfl, Pure.mono (cargo_laden (hg.next hw8) (hc.keep hw8) hi hil (hok.filter _)) ?_⟩
    rintro v w16 b16 rfl
    exact ⟨_, _, _, _, _, _, rfl, fun w17 x17 => cmp w17 (kE (kP hw8 b16) x17)⟩
theorem cargo_Overloaded (hg : Glob w) (hc : CgIn w A0 n0 A1 n1 ps hs) (h : SlR w A 3 (l.map Sw.row)) (hl : l.length = n) (hnc : n ≤ c) (hn : n ≤ 40) :
    Pure Tryz.prog 23 #[.agg #[.slice A0 n0 c0, .slice A1 n1 c1], .slice A n c] w fun v _ => v = overV ps hs l := by
  have hnh := hc.nh
  refine F.cargo_Overloaded.vc _ _ _ _ _ _ _ _ _ _ _ fun w1 x1 => ?_
  have hw := k0 x1
  refine Pure.mono (cargo_Stowed (hg.next hw) (hc.keep hw) (h.keep hw (Nat.le_refl _)) hl hnc (by omega)) ?_
  rintro v w4 b4 rfl
  have hw := kP hw b4
  unfold overV
  refine ⟨_, rfl, fun h0 => by rw [if_pos h0], fun h0 p5 hp5 hb5 p6 hp6 hb6 => ?_⟩
  rw [if_neg h0]
  have hok := (stowed_right (Decidable.not_not.1 h0)).ld (by omega)
  refine Pure.mono (IndexHo (p := overB ps hs l) ((hc.keep hw).h) hc.lh (by omega) (by kernel_rfl) fun w' hb x hx => ?_) ?_
  · exact over_c1 (hg.next (kP hw hb)) (hc.keep (kP hw hb)) (h.keep (kP hw hb) (Nat.le_refl _)) hl hok (fun w2 h2 => box_all (heap_keep (heap_keep hb6 hb) h2)) (fun w2 h2 => box_all (heap_keep (heap_keep hb5 hb) h2)) hx
  · rintro v w9 b9 rfl
    exact ⟨_, rfl, rfl⟩
end
end Go.Proofs.YtdnelnicnjplpaaGreatDoor.B

namespace Go.Proofs.YtdnelnicnjplpaaGreatDoor.B
open Go Go.RowKit Go.Proofs Go.Proofs.YtdnelnicnjplpaaGreatDoor.Vc

theorem lbS_cons (t a : Sw) (r : List Sw) : lbS t (a :: r) = if befS a t then lbS t r + 1 else 0 := by
  unfold lbS
  rw [List.takeWhile_cons]
  by_cases h : befS a t
  · simp [h]
  · simp [h]
theorem foundS_cons (t a : Sw) (r : List Sw) : foundS t (a :: r) = if befS a t then foundS t r else decide (a.hold = t.hold ∧ a.parcel = t.parcel) := by
  unfold foundS
  rw [lbS_cons]
  by_cases h : befS a t
  · rw [if_pos h, if_pos h]
    rfl
  · rw [if_neg h, if_neg h]
    rfl
theorem bef_tri {a t : Sw} (h : ¬ befS a t) : (a.hold = t.hold ∧ a.parcel = t.parcel) ∨ befS t a := by unfold befS at *; omega
theorem filter_lb {t : Sw} : ∀ {l : List Sw}, SrtS l → l.filter (fun x => decide (befS x t)) = l.take (lbS t l) := by
  intro l
  induction l with
  | nil => intro _; rfl
  | cons a r ih =>
    intro h
    obtain ⟨p, q⟩ := List.pairwise_cons.1 h
    rw [lbS_cons]
    by_cases e : befS a t
    · rw [if_pos e, List.filter_cons_of_pos (by simpa using e), ih q]
      rfl
    · rw [if_neg e, List.filter_cons_of_neg (by simpa using e)]
      rw [List.take_zero, List.filter_eq_nil_iff]
      intro x hx k
      exact e (bef_trans (p x hx) (by simpa using k))
theorem filter_gt {t : Sw} : ∀ {l : List Sw}, SrtS l → l.filter (fun x => decide (befS t x)) = l.drop (lbS t l + if foundS t l = true then 1 else 0) := by
  intro l
  induction l with
  | nil => intro _; simp
  | cons a r ih =>
    intro h
    obtain ⟨p, q⟩ := List.pairwise_cons.1 h
    rw [lbS_cons, foundS_cons]
    by_cases e : befS a t
    · rw [if_pos e, if_pos e, List.filter_cons_of_neg (by simpa using bef_asymm e), ih q, show lbS t r + 1 + (if foundS t r = true then 1 else 0) = (lbS t r + if foundS t r = true then 1 else 0) + 1 by omega]
      rfl
    · rw [if_neg e, if_neg e]
      have all : ∀ x ∈ r, befS t x := fun x hx => by
        rcases bef_tri e with k | k
        · have := p x hx
          unfold befS at *
          omega
        · exact bef_trans k (p x hx)
      have er : r.filter (fun x => decide (befS t x)) = r := List.filter_eq_self.2 fun x hx => by simpa using all x hx
      by_cases k : a.hold = t.hold ∧ a.parcel = t.parcel
      · rw [decide_eq_true k, if_pos rfl, List.filter_cons_of_neg (by simp; unfold befS; omega), er]
        rfl
      · rw [decide_eq_false k, if_neg (by simp), List.filter_cons_of_pos (by simpa using (bef_tri e).resolve_left k), er]
        rfl
theorem found_at {t : Sw} {l : List Sw} (h : foundS t l = true) : ∃ hi : lbS t l < l.length, l[lbS t l].hold = t.hold ∧ l[lbS t l].parcel = t.parcel := by
  unfold foundS at h
  by_cases hi : lbS t l < l.length
  · rw [List.getElem?_eq_getElem hi] at h
    exact ⟨hi, by simpa using h⟩
  · rw [List.getElem?_eq_none (by omega)] at h
    cases h
theorem amt_found {t : Sw} {l : List Sw} (hs : SrtS l) (h : foundS t l = true) (hi : lbS t l < l.length) : amtF l t.hold t.parcel = l[lbS t l].units := by
  obtain ⟨_, e1, e2⟩ := found_at h
  rw [← amt_mem hs (List.getElem_mem hi), e1, e2]
theorem amt_unfound {t : Sw} {l : List Sw} (hs : SrtS l) (h : foundS t l = false) : amtF l t.hold t.parcel = 0 := by
  refine amt_none fun s hs' k => ?_
  have e1 := filter_lb (t := t) hs
  have e2 := filter_gt (t := t) hs
  rw [h, if_neg (by simp), Nat.add_zero] at e2
  rw [← List.take_append_drop (lbS t l) l, ← e1, ← e2] at hs'
  rcases List.mem_append.1 hs' with m | m
  · have := (List.mem_filter.1 m).2
    simp at this
    unfold befS at this
    omega
  · have := (List.mem_filter.1 m).2
    simp at this
    unfold befS at this
    omega
theorem upd_at {t : Sw} {l : List Sw} (hs : SrtS l) {n : Int} : updS l ⟨t.hold, t.parcel, n⟩ = l.take (lbS t l) ++ (if 0 < n then [⟨t.hold, t.parcel, n⟩] else []) ++ l.drop (lbS t l + if foundS t l = true then 1 else 0) := by
  unfold updS
  rw [← filter_lb hs, ← filter_gt hs]
  rfl
theorem set_at {l : List Sw} {i : Nat} (hi : i < l.length) (s : Sw) : l.set i s = l.take i ++ [s] ++ l.drop (i + 1) := by
  rw [List.set_eq_take_append_cons_drop, if_pos hi]
  simp

section
variable {w0 : World} {A0 A1 A : Option Addr} {n0 c0 n1 c1 n c : Nat} {ps : List Pa} {hs : List Ho} {l : List Sw}
theorem put_J12 (hc : CgIn w0 A0 n0 A1 n1 ps hs) (h : SlR w0 A 3 (l.map Sw.row)) (hl : l.length = n) (hn : n ≤ 40) (hr : RightS ps hs l) (t : Sw) (hu : -9 ≤ t.units ∧ t.units ≤ 9 ∧ t.units ≠ 0) {ip : Nat} (hip : pix ps t.parcel = some ip) {R : Value → World → Prop}
    (hneg : ∀ w, amtF l t.hold t.parcel + t.units < 0 → R (.tuple #[.slice none 0 0, .int .i64 11]) w)
    (hfull : ∀ w p, ¬ amtF l t.hold t.parcel + t.units < 0 → ps[ip]? = some p → p.units < unitsF l t.parcel + t.units → R (.tuple #[.slice none 0 0, .int .i64 12]) w)
    (hok : ∀ w p A m c, ¬ amtF l t.hold t.parcel + t.units < 0 → ps[ip]? = some p → ¬ p.units < unitsF l t.parcel + t.units → OwnR w w0.heap.size 35 A m c 3 ((updS l ⟨t.hold, t.parcel, amtF l t.hold t.parcel + t.units⟩).map Sw.row) → R (.tuple #[.slice A m c, .int .i64 0]) w)
    {w : World} (hw : Below w0.heap.size w0 w) : F.cargo_Put.J12 A n c ip (lbS t l) (foundS t l) (amtF l t.hold t.parcel) A0 n0 c0 A1 n1 c1 t.hold t.parcel t.units w0.heap.size w R := by
  obtain ⟨hpl, hpid⟩ := pix_lt hip
  have hpm := List.getElem_mem hpl
  have hpu := (hr.c.p1 _ hpm).2.1
  have hful := hr.full _ hpm
  rw [hpid] at hful
  have hun := unitsF_nonneg hr.pos t.parcel
  have ham := amt_nonneg hr.pos t.hold t.parcel
  have hlb := lbS_le t l
  have hle : amtF l t.hold t.parcel ≤ 9 := by
    rcases amt_spec l t.hold t.parcel with ⟨e, _⟩ | ⟨x, hx, e1, e2, e3⟩
    · omega
    · have := units_mem hr.pos hx
      rw [e1] at this
      omega
  refine F.cargo_Put.J12.step _ _ _ _ _ _ _ _ _ _ _ _ _ _ _ _ _ _ _ ⟨by simp only [inR]; omega, fun k => hneg w k, fun k => ?_⟩
  obtain ⟨hbp, ap, hAp, _, hcp⟩ := (hc.p.keep hw (Nat.le_refl _)).at_ (fun _ => rfl) hc.lp hpl
  refine ⟨hbp, ap, hAp, _, hcp 1 _ rfl, fun w19 x19 => ?_⟩
  have hw := kE hw x19
  refine Pure.mono (cargo_units (h.keep hw (Nat.le_refl _)) hl (by omega) (hr.smu t.parcel)) ?_
  rintro v w22 b22 rfl
  have hw := kP hw b22
  refine ⟨_, rfl, by simp only [inR]; omega, fun k2 => hfull w22 _ k (List.getElem?_eq_getElem hpl) k2, fun k2 => ?_⟩
  have fin := fun w A m c ho => hok w _ A m c k (List.getElem?_eq_getElem hpl) k2 ho
  refine runOk_makeS el_Sws (by omega) hw.size fun w25 rows0 o25 b25 => ?_
  have hw25 := kP hw b25
  have hB := hw.size
  have h25 := h.keep hw25 (Nat.le_refl _)
  refine runOk_copyAll el_Sws (o25.base hw.size) h25 (by simpa using hl) (fun r hr => by obtain ⟨s, _, rfl⟩ := List.mem_map.1 hr; rfl) (fun r hr => by obtain ⟨s, _, rfl⟩ := List.mem_map.1 hr; intro u hu; simp [Sw.row] at hu; rcases hu with rfl | rfl | rfl <;> rfl) (by decide) fun w28 o28 k28 b28 => ?_
  have hw28 := hw25.trans b28
  refine ⟨by simp only [inR]; omega, runOk_alloc 35 zeroSw hw28.size fun w29 hnew b29 hlt => ?_⟩
  have hw29 := kP hw28 b29
  refine ⟨_, _, hw28.size, rfl, hnew, by simp [Value.cells], rfl, fun w34 hw34 => ?_⟩
  have hcells : w34.heap[w28.heap.size]? = some (.cells ([.int .i64 t.hold, .int .i64 t.parcel, .int .i64 (amtF l t.hold t.parcel + t.units)] : List Value).toArray 35 (0, 0)) := by
    have := hw34.at_
    simpa [setCells, Value.cells] using this
  have hB34 : w0.heap.size ≤ w34.heap.size := by rw [hw34.size]; exact hw29.size
  have hg28 : w22.heap.size < w28.heap.size := by
    have := (o28.blk _ rfl).2
    simpa using this
  have o34 : OwnR w34 w0.heap.size 35 (some ⟨w22.heap.size, 0, none⟩) n n 3 (l.map Sw.row) := (o28.below b29).other fun x hx => hw34.rest _ (by cases hx; show w22.heap.size ≠ w28.heap.size; omega)
  refine ⟨fun hf => ?_, fun hf => ?_⟩
  · have ha0 := amt_unfound hr.srt hf
    have hpos : 0 < amtF l t.hold t.parcel + t.units := by omega
    refine ⟨_, _, _, box_all hcells, ?_⟩
    refine runOk_lit el_Sws [.agg #[.int .i64 t.hold, .int .i64 t.parcel, .int .i64 (amtF l t.hold t.parcel + t.units)]] (by simp [Value.cells]) (by simp) hB34 fun A2 c2 w40 o40 b40 => ?_
    have hA2 : ∃ g, A2 = some ⟨g, 0, none⟩ ∧ w34.heap.size ≤ g := by
      rcases o40.1.2 with ⟨_, h3⟩ | ⟨g, cap, cur, h3, h4, _⟩
      · simp at h3
      · cases h3; exact ⟨g, rfl, h4⟩
    obtain ⟨vb, rfl, hvb⟩ := hA2
    have hvr : OwnR w40 w0.heap.size 35 (some ⟨vb, 0, none⟩) 1 c2 3 [(⟨t.hold, t.parcel, amtF l t.hold t.parcel + t.units⟩ : Sw).row] := o40.base hB34
    refine PureB.mono (InsertS (Nat.le_trans hB34 b40.size) (o34.below b40) (by omega) (by omega) hvr fun a ha e => ?_) ?_
    · cases ha
      have := (o34.blk _ rfl).2
      simp only at e this
      omega
    · rintro v w43 b43 ⟨A', c', rfl, o43, hoth⟩
      refine ⟨fun i ty cs ht hcs => hoth.2 i (Array.getElem?_eq_some_iff.1 hcs).1 fun a ha e => ?_, _, _, _, rfl, fin _ _ _ _ ?_⟩
      · cases ha
        have := ((o34.below b40).cells _ rfl)
        obtain ⟨cs', hcs'⟩ := this
        rw [← e, hcs] at hcs'
        simp only [Option.some.injEq, Obj.cells.injEq] at hcs'
        rw [hcs'.2.1] at ht
        revert ht
        decide
      · rw [upd_at hr.srt, hf, if_pos hpos]
        simpa using o43
  · have hf : foundS t l = true := by simpa using hf
    obtain ⟨hi, e1, e2⟩ := found_at hf
    have ha := amt_found hr.srt hf hi
    have e3 : ((lbS t l : Nat) : Int) + 1 = ((lbS t l + 1 : Nat) : Int) := by omega
    refine ⟨_, (show CellsAt w34 ((⟨w28.heap.size, 0, none⟩ : Addr).add 2) [.int .i64 (amtF l t.hold t.parcel + t.units)] from cells_part (box_all hcells) 2 1), fun hz => ?_, fun hz => ?_⟩
    · refine ⟨by simp only [inR]; omega, ?_⟩
      rw [e3]
      refine PureB.mono (DeleteS hB34 o34 (by omega) (by omega)) ?_
      rintro v w47 b47 ⟨m, rfl, o47, hoth⟩
      refine ⟨fun i ty cs ht hcs => hoth.2 i (Array.getElem?_eq_some_iff.1 hcs).1 fun a ha e => ?_, _, _, _, rfl, fin _ _ _ _ ?_⟩
      · cases ha
        obtain ⟨cs', hcs'⟩ := o34.cells _ rfl
        rw [← e, hcs] at hcs'
        simp only [Option.some.injEq, Obj.cells.injEq] at hcs'
        rw [hcs'.2.1] at ht
        revert ht
        decide
      · rw [upd_at hr.srt, hf, if_neg (by omega)]
        simpa using o47
    · refine ⟨_, _, _, box_all hcells, ?_⟩
      obtain ⟨g1, a2, hA2, cs, g2, g3, g4, g5, g6⟩ := o34.set0 (i := ((lbS t l : Nat) : Int)) (by omega) (by omega) [.int .i64 t.hold, .int .i64 t.parcel, .int .i64 (amtF l t.hold t.parcel + t.units)] ((l[lbS t l]'(by omega)).row) (by rw [Int.toNat_natCast, List.getElem?_map, List.getElem?_eq_getElem (by omega)]; rfl) rfl
      refine ⟨g1, a2, hA2, cs, _, g2, g3, g4, g5, rfl, fun w54 hw54 => fin _ _ _ _ ?_⟩
      have o54 := g6 w54 hw54
      rw [Int.toNat_natCast] at o54
      rw [upd_at hr.srt, hf, if_pos (by omega), if_pos rfl, ← set_at hi, List.map_set]
      exact o54
theorem cargo_Put {w : World} (hg : Glob w) (hc : CgIn w A0 n0 A1 n1 ps hs) (h : SlR w A 3 (l.map Sw.row)) (hl : l.length = n) (hnc : n ≤ c) (hn : n ≤ 40) (t : Sw) :
    Pure Tryz.prog 25 #[.agg #[.slice A0 n0 c0, .slice A1 n1 c1], .slice A n c, t.val] w (StowR (putF ps hs l t) w.heap.size) := by
  refine F.cargo_Put.vc _ _ _ _ _ _ _ _ _ _ _ _ _ _ fun w1 x1 => ?_
  have hw := k0 x1
  refine Pure.mono (cargo_Stowed (hg.next hw) (hc.keep hw) (h.keep hw (Nat.le_refl _)) hl hnc (by omega)) ?_
  rintro v w4 b4 rfl
  have hw := kP hw b4
  unfold putF
  refine ⟨_, rfl, fun h0 => by rw [if_pos h0]; rfl, fun h0 => ?_⟩
  rw [if_neg h0]
  have hr := stowed_right (Decidable.not_not.1 h0)
  refine Pure.mono (cargo_parcel (hc.keep hw) t.parcel) ?_
  rintro v w7 b7 rfl
  have hw := kP hw b7
  refine ⟨_, rfl, fun h1 => by rw [ixI_neg.1 h1]; rfl, fun h1 => ?_⟩
  refine Pure.mono (cargo_hold (hc.keep hw) t.hold) ?_
  rintro v w10 b10 rfl
  have hw := kP hw b10
  cases hip : pix ps t.parcel with
  | none => exact absurd (ixI_neg.2 hip) h1
  | some ip =>
  refine ⟨_, rfl, fun h2 => by rw [ixI_neg.1 h2]; rfl, fun h2 => ?_⟩
  cases hih : hix hs t.hold with
  | none => exact absurd (ixI_neg.2 hih) h2
  | some ih =>
  refine ⟨fun h3 => by simp only; rw [if_pos (.inl h3)]; rfl, fun h3 => ⟨fun h4 => by simp only; rw [if_pos (.inr (.inl h4))]; rfl, fun h4 => ⟨fun h5 => by simp only; rw [if_pos (.inr (.inr (by omega)))]; rfl, fun h5 => ?_⟩⟩⟩
  simp only
  rw [if_neg (by omega)]
  refine Pure.mono (search_stows (h.keep hw (Nat.le_refl _)) hl (by omega) hr.srt ⟨t.hold, t.parcel, 0⟩) ?_
  rintro v w14 b14 rfl
  have hw := kP hw b14
  have ek : ∀ u : Int, lbS ⟨t.hold, t.parcel, u⟩ l = lbS t l := fun u => rfl
  have ef : ∀ u : Int, foundS ⟨t.hold, t.parcel, u⟩ l = foundS t l := fun u => rfl
  rw [ek, ef]
  have J := fun (w' : World) hw' => put_J12 (c := c) (c0 := c0) (c1 := c1) hc h hl hn hr t ⟨by omega, by omega, h3⟩ hip (R := StowR (if amtF l t.hold t.parcel + t.units < 0 then .error 11 else match ps[ip]? with
      | some p => if p.units < unitsF l t.parcel + t.units then .error 12 else .ok (updS l ⟨t.hold, t.parcel, amtF l t.hold t.parcel + t.units⟩)
      | none => .error 0) w.heap.size)
    (fun w2 k => by rw [if_pos k]; rfl) (fun w2 p k e k2 => by rw [if_neg k, e]; simp only; rw [if_pos k2]; rfl)
    (fun w2 p A m c k e k2 ho => by rw [if_neg k, e]; simp only; rw [if_neg k2]; exact ⟨A, m, c, rfl, ho⟩) (w := w') hw'
  refine ⟨_, _, rfl, fun hf => ?_, fun hf => ?_⟩
  · obtain ⟨hi, e1, e2⟩ := found_at hf
    obtain ⟨hb, a, hA, _, hcell⟩ := (h.keep hw (Nat.le_refl _)).at_ (fun _ => rfl) hl hi
    refine ⟨hb, a, hA, _, hcell 2 _ rfl, ?_⟩
    have := J w14 hw
    rw [amt_found hr.srt hf hi] at this
    rw [amt_found hr.srt hf hi]
    exact this
  · have := J w14 hw
    rw [amt_unfound hr.srt hf] at this
    rw [amt_unfound hr.srt hf]
    exact this
end
end Go.Proofs.YtdnelnicnjplpaaGreatDoor.B

namespace Go.Proofs.YtdnelnicnjplpaaGreatDoor.B
open Go Go.RowKit Go.Proofs Go.Proofs.YtdnelnicnjplpaaGreatDoor.Vc

theorem r47_named (s : ByteArray) (w : World) : Pure Tryz.prog 50 #[.string s] w fun v w' => v = .bool (decide (1 ≤ s.size ∧ s.size ≤ 64)) := by
  refine F.garboardref47_named.vc _ _ _ ⟨fun h => ?_, fun h => ?_⟩
  · refine congrArg Value.bool ?_
    rw [decide_eq_decide]
    omega
  · exact congrArg Value.bool (decide_eq_false (by omega)).symm
theorem r47_isID (n : Int) (w : World) : Pure Tryz.prog 47 #[.int .i64 n] w fun v w' => v = .bool (decide (1 ≤ n ∧ n ≤ 1073741824)) := by
  refine F.garboardref47_isID.vc _ _ _ ⟨fun h => ?_, fun h => ?_⟩
  · refine congrArg Value.bool ?_
    rw [decide_eq_decide]
    omega
  · exact congrArg Value.bool (decide_eq_false (by omega)).symm
theorem r47_before (a b : Sw) (w : World) : Pure Tryz.prog 57 #[a.val, b.val] w fun v w' => v = .bool (decide (befS a b)) := by
  refine F.garboardref47_before.vc _ _ _ _ _ _ _ _ ⟨fun h w2 _ => ?_, fun h => ⟨fun h2 w2 _ => ?_, fun h2 w2 _ => ?_⟩⟩
  · exact congrArg Value.bool (decide_eq_true (.inl h)).symm
  · refine congrArg Value.bool ?_
    rw [decide_eq_decide]
    unfold befS
    omega
  · refine congrArg Value.bool (decide_eq_false ?_).symm
    unfold befS
    omega
theorem r47_sign {s : ByteArray} (hs : SmS s) (h : vR s = true) {w : World} {K : Value → World → Prop} (hK : ∀ w', Below w.heap.size w w' → K (.int .i64 (cmpR (qR s) 0)) w') :
    Pure Tryz.prog 49 #[.string s] w fun r w1 => ∃ (b : Bool) (A : Option Addr) (n c : Nat) (A' : Option Addr) (n' c' : Nat), r = .agg #[.bool b, .slice A n c, .slice A' n' c'] ∧ Pure Tryz.prog 48 #[.agg #[.bool b, .slice A n c, .slice A' n' c']] w1 K := by
  refine Pure.mono (ref47_Num hs h w) ?_
  rintro v w2 b2 ⟨b, A, n, c, A', n', c', rfl, k⟩
  refine ⟨_, _, _, _, _, _, _, rfl, Pure.mono (ref3_Sign k) ?_⟩
  rintro v w3 b3 rfl
  exact hK w3 (kP b2 b3)

theorem r47_Parcel_loop {w0 : World} {A0 A1 : Option Addr} {n0 c0 n1 c1 : Nat} {ps : List Pa} {hs : List Ho} (hc : CgIn w0 A0 n0 A1 n1 ps hs) (id : Int) {R : Value → World → Prop} {r : Int} (hR : ∀ w, R (.int .i64 r) w) :
    ∀ (d i : Nat) (w : World), n0 - i = d → i ≤ n0 → Below w0.heap.size w0 w → r = idxG (fun p => decide (p.id = id)) i (ps.drop i) → F.garboardref47_Parcel.L2 id i A0 n0 c0 A1 n1 c1 w0.heap.size w R := by
  have hn0 := hc.np
  have hn1 := hc.nh
  have hlp := hc.lp
  have hlh := hc.lh
  intro d
  induction d with
  | zero =>
    intro i w hd hi hw hr
    rw [List.drop_eq_nil_of_le (by omega)] at hr
    subst hr
    exact F.garboardref47_Parcel.L2.step _ _ _ _ _ _ _ _ _ _ _ ⟨fun h => by omega, fun _ => hR w⟩
  | succ d ih =>
    intro i w hd hi hw hr
    have hil : i < ps.length := by omega
    have e3 : (i : Int) + 1 = ((i + 1 : Nat) : Int) := by omega
    rw [List.drop_eq_getElem_cons hil, idxG] at hr
    obtain ⟨hb, ad, hA, _, hf⟩ := (hc.p.keep hw (Nat.le_refl _)).at_ (fun _ => rfl) hc.lp hil
    refine F.garboardref47_Parcel.L2.step _ _ _ _ _ _ _ _ _ _ _ ⟨fun _ => ⟨hb, ad, hA, _, hf 0 _ rfl, fun h => ?_, fun h => ⟨by simp only [inR]; omega, ?_⟩⟩, fun h => by omega⟩
    · rw [if_pos (decide_eq_true h)] at hr
      subst hr
      exact hR w
    · rw [if_neg (by simpa using h)] at hr
      rw [e3]
      exact ih (i + 1) w (by omega) (by omega) hw hr
theorem r47_Parcel {w : World} {A0 A1 : Option Addr} {n0 c0 n1 c1 : Nat} {ps : List Pa} {hs : List Ho} (hc : CgIn w A0 n0 A1 n1 ps hs) (id : Int) :
    Pure Tryz.prog 55 #[.agg #[.slice A0 n0 c0, .slice A1 n1 c1], .int .i64 id] w fun v _ => v = .int .i64 (ixI (pix ps id)) :=
  F.garboardref47_Parcel.vc _ _ _ _ _ _ _ _ _ fun w1 x1 => r47_Parcel_loop hc id (fun _ => rfl) n0 0 w1 rfl (by omega) (k0 x1) (by
    have := idxG_find (fun p => decide (p.id = id)) ps 0
    rw [List.drop_zero, this]
    unfold pix
    cases ps.findIdx? _ with
    | none => rfl
    | some i => simp only [ixI, Nat.zero_add])

theorem r47_Hold_loop {w0 : World} {A0 A1 : Option Addr} {n0 c0 n1 c1 : Nat} {ps : List Pa} {hs : List Ho} (hc : CgIn w0 A0 n0 A1 n1 ps hs) (id : Int) {R : Value → World → Prop} {r : Int} (hR : ∀ w, R (.int .i64 r) w) :
    ∀ (d i : Nat) (w : World), n1 - i = d → i ≤ n1 → Below w0.heap.size w0 w → r = idxG (fun p => decide (p.id = id)) i (hs.drop i) → F.garboardref47_Hold.L2 id i A0 n0 c0 A1 n1 c1 w0.heap.size w R := by
  have hn0 := hc.np
  have hn1 := hc.nh
  have hlp := hc.lp
  have hlh := hc.lh
  intro d
  induction d with
  | zero =>
    intro i w hd hi hw hr
    rw [List.drop_eq_nil_of_le (by omega)] at hr
    subst hr
    exact F.garboardref47_Hold.L2.step _ _ _ _ _ _ _ _ _ _ _ ⟨fun h => by omega, fun _ => hR w⟩
  | succ d ih =>
    intro i w hd hi hw hr
    have hil : i < hs.length := by omega
    have e3 : (i : Int) + 1 = ((i + 1 : Nat) : Int) := by omega
    rw [List.drop_eq_getElem_cons hil, idxG] at hr
    obtain ⟨hb, ad, hA, _, hf⟩ := (hc.h.keep hw (Nat.le_refl _)).at_ (fun _ => rfl) hc.lh hil
    refine F.garboardref47_Hold.L2.step _ _ _ _ _ _ _ _ _ _ _ ⟨fun _ => ⟨hb, ad, hA, _, hf 0 _ rfl, fun h => ?_, fun h => ⟨by simp only [inR]; omega, ?_⟩⟩, fun h => by omega⟩
    · rw [if_pos (decide_eq_true h)] at hr
      subst hr
      exact hR w
    · rw [if_neg (by simpa using h)] at hr
      rw [e3]
      exact ih (i + 1) w (by omega) (by omega) hw hr
theorem r47_Hold {w : World} {A0 A1 : Option Addr} {n0 c0 n1 c1 : Nat} {ps : List Pa} {hs : List Ho} (hc : CgIn w A0 n0 A1 n1 ps hs) (id : Int) :
    Pure Tryz.prog 56 #[.agg #[.slice A0 n0 c0, .slice A1 n1 c1], .int .i64 id] w fun v _ => v = .int .i64 (ixI (hix hs id)) :=
  F.garboardref47_Hold.vc _ _ _ _ _ _ _ _ _ fun w1 x1 => r47_Hold_loop hc id (fun _ => rfl) n1 0 w1 rfl (by omega) (k0 x1) (by
    have := idxG_find (fun p => decide (p.id = id)) hs 0
    rw [List.drop_zero, this]
    unfold hix
    cases hs.findIdx? _ with
    | none => rfl
    | some i => simp only [ixI, Nat.zero_add])

theorem r47_numbers_L8 {w0 : World} {A0 A1 : Option Addr} {n0 c0 n1 c1 : Nat} {ps : List Pa} {hs : List Ho} (hc : CgIn w0 A0 n0 A1 n1 ps hs) {R : Value → World → Prop} (hR : ∀ w, R (.bool (ps.all vP && hs.all vH)) w) (hp : ps.all vP = true) :
    ∀ (d i : Nat) (w : World), n1 - i = d → i ≤ n1 → Below w0.heap.size w0 w → (∀ x ∈ hs.take i, vH x = true) → F.garboardref47_numbers.L8 i A0 n0 c0 A1 n1 c1 w0.heap.size w R := by
  have hn0 := hc.np
  have hn1 := hc.nh
  have hlp := hc.lp
  have hlh := hc.lh
  intro d
  induction d with
  | zero =>
    intro i w hd hi hw hx
    rw [List.take_of_length_le (by omega)] at hx
    refine F.garboardref47_numbers.L8.step _ _ _ _ _ _ _ _ _ _ ⟨fun h => by omega, fun _ => ?_⟩
    have := hR w
    rwa [hp, show hs.all vH = true from List.all_eq_true.2 hx] at this
  | succ d ih =>
    intro i w hd hi hw hx
    have hil : i < hs.length := by omega
    have e3 : (i : Int) + 1 = ((i + 1 : Nat) : Int) := by omega
    obtain ⟨hb, ad, hA, hcell, _⟩ := (hc.h.keep hw (Nat.le_refl _)).at_ (fun _ => rfl) hc.lh hil
    have hs1 := hc.sh _ (List.getElem_mem hil)
    have bad : vH hs[i] = false → ∀ w, R (.bool false) w := fun h w => by
      have := hR w
      rwa [all_false (p := vH) (List.getElem_mem hil) h, Bool.and_false] at this
    refine F.garboardref47_numbers.L8.step _ _ _ _ _ _ _ _ _ _ ⟨fun _ => ⟨hb, ad, hA, _, _, _, _, _, _, _, hcell, fun w1 x1 => ?_⟩, fun h => by omega⟩
    have hw1 := kE hw x1
    refine Pure.mono (ref3_Valid _ hs1.room _) ?_
    rintro v w2 b2 rfl
    have hw2 := kP hw1 b2
    refine ⟨_, rfl, fun h => bad (by unfold vH; simp [h]) _, fun h1 => ?_⟩
    have v1 : vR hs[i].room = true := by simpa using h1
    refine Pure.mono (ref3_Valid _ hs1.most _) ?_
    rintro v w3 b3 rfl
    have hw3 := kP hw2 b3
    refine ⟨_, rfl, fun h => bad (by unfold vH; simp [h]) _, fun h2 => ?_⟩
    have v2 : vR hs[i].most = true := by simpa using h2
    refine Pure.mono (ref3_Valid _ hs1.x _) ?_
    rintro v w4 b4 rfl
    have hw4 := kP hw3 b4
    refine ⟨_, rfl, fun h => bad (by unfold vH; simp [h]) _, fun h3 => ?_⟩
    have v3 : vR hs[i].x = true := by simpa using h3
    refine Pure.mono (ref3_Valid _ hs1.y _) ?_
    rintro v w5 b5 rfl
    have hw5 := kP hw4 b5
    refine ⟨_, rfl, fun h => bad (by unfold vH; simp [h]) _, fun h4 => ?_⟩
    have v4 : vR hs[i].y = true := by simpa using h4
    refine Pure.mono (ref3_Valid _ hs1.z _) ?_
    rintro v w6 b6 rfl
    have hw6 := kP hw5 b6
    refine ⟨_, rfl, fun h => bad (by unfold vH; simp [h]) _, fun h5 => ?_⟩
    have v5 : vR hs[i].z = true := by simpa using h5
    refine ⟨by simp only [inR]; omega, ?_⟩
    rw [e3]
    refine ih (i + 1) w6 (by omega) (by omega) hw6 (take_all hil hx ?_)
    unfold vH
    simp [v1, v2, v3, v4, v5]

theorem r47_numbers_L2 {w0 : World} {A0 A1 : Option Addr} {n0 c0 n1 c1 : Nat} {ps : List Pa} {hs : List Ho} (hc : CgIn w0 A0 n0 A1 n1 ps hs) {R : Value → World → Prop} (hR : ∀ w, R (.bool (ps.all vP && hs.all vH)) w) :
    ∀ (d i : Nat) (w : World), n0 - i = d → i ≤ n0 → Below w0.heap.size w0 w → (∀ x ∈ ps.take i, vP x = true) → F.garboardref47_numbers.L2 i A0 n0 c0 A1 n1 c1 w0.heap.size w R := by
  have hn0 := hc.np
  have hn1 := hc.nh
  have hlp := hc.lp
  have hlh := hc.lh
  intro d
  induction d with
  | zero =>
    intro i w hd hi hw hx
    rw [List.take_of_length_le (by omega)] at hx
    refine F.garboardref47_numbers.L2.step _ _ _ _ _ _ _ _ _ _ ⟨fun h => by omega, fun _ => ?_⟩
    exact r47_numbers_L8 hc hR (List.all_eq_true.2 hx) n1 0 w rfl (by omega) hw (by simp)
  | succ d ih =>
    intro i w hd hi hw hx
    have hil : i < ps.length := by omega
    have e3 : (i : Int) + 1 = ((i + 1 : Nat) : Int) := by omega
    obtain ⟨hb, ad, hA, hcell, _⟩ := (hc.p.keep hw (Nat.le_refl _)).at_ (fun _ => rfl) hc.lp hil
    have hs1 := hc.sp _ (List.getElem_mem hil)
    have bad : vP ps[i] = false → ∀ w, R (.bool false) w := fun h w => by
      have := hR w
      rwa [all_false (p := vP) (List.getElem_mem hil) h, Bool.false_and] at this
    refine F.garboardref47_numbers.L2.step _ _ _ _ _ _ _ _ _ _ ⟨fun _ => ⟨hb, ad, hA, _, _, _, _, _, _, _, hcell, fun w1 x1 => ?_⟩, fun h => by omega⟩
    have hw1 := kE hw x1
    refine Pure.mono (ref3_Valid _ hs1.mass _) ?_
    rintro v w2 b2 rfl
    have hw2 := kP hw1 b2
    refine ⟨_, rfl, fun h => bad (by unfold vP; simp [h]) _, fun h1 => ?_⟩
    have v1 : vR ps[i].mass = true := by simpa using h1
    refine Pure.mono (ref3_Valid _ hs1.vol _) ?_
    rintro v w3 b3 rfl
    have hw3 := kP hw2 b3
    refine ⟨_, rfl, fun h => bad (by unfold vP; simp [h]) _, fun h2 => ?_⟩
    have v2 : vR ps[i].vol = true := by simpa using h2
    refine Pure.mono (ref3_Valid _ hs1.worth _) ?_
    rintro v w4 b4 rfl
    have hw4 := kP hw3 b4
    refine ⟨_, rfl, fun h => bad (by unfold vP; simp [h]) _, fun h3 => ?_⟩
    have v3 : vR ps[i].worth = true := by simpa using h3
    refine ⟨by simp only [inR]; omega, ?_⟩
    rw [e3]
    refine ih (i + 1) w4 (by omega) (by omega) hw4 (take_all hil hx ?_)
    unfold vP
    simp [v1, v2, v3]

theorem r47_numbers {w : World} {A0 A1 : Option Addr} {n0 c0 n1 c1 : Nat} {ps : List Pa} {hs : List Ho} (hc : CgIn w A0 n0 A1 n1 ps hs) :
    Pure Tryz.prog 46 #[.agg #[.slice A0 n0 c0, .slice A1 n1 c1]] w fun v _ => v = .bool (ps.all vP && hs.all vH) :=
  F.garboardref47_numbers.vc _ _ _ _ _ _ _ _ fun w1 x1 => r47_numbers_L2 hc (fun _ => rfl) n0 0 w1 rfl (by omega) (k0 x1) (by simp)

theorem r47_check_L16 {w0 : World} {A0 A1 : Option Addr} {n0 c0 n1 c1 : Nat} {ps : List Pa} {hs : List Ho} (hc : CgIn w0 A0 n0 A1 n1 ps hs) {R : Value → World → Prop} {r : Int} (hR : ∀ w, Below w0.heap.size w0 w → R (.int .i64 r) w) (hvh : ∀ h ∈ hs, vH h = true) :
    ∀ (d i : Nat) (w : World), n1 - i = d → i ≤ n1 → Below w0.heap.size w0 w → r = firstE hFault (prevG hs i) (hs.drop i) → F.garboardref47_Check.L16 i A0 n0 c0 A1 n1 c1 w0.heap.size w R := by
  have hn0 := hc.np
  have hn1 := hc.nh
  have hlp := hc.lp
  have hlh := hc.lh
  intro d
  induction d with
  | zero =>
    intro i w hd hi hw hr
    have : i = n1 := by omega
    subst this
    refine F.garboardref47_Check.L16.step _ _ _ _ _ _ _ _ _ _ ⟨fun h => by omega, fun _ => ?_⟩
    rw [List.drop_eq_nil_of_le (by omega)] at hr
    subst hr
    exact hR w hw
  | succ d ih =>
    intro i w hd hi hw hr
    have hil : i < hs.length := by omega
    obtain ⟨hb, ad, hA, hcell, _⟩ := (hc.h.keep hw (Nat.le_refl _)).at_ (fun _ => rfl) hc.lh hil
    have e3 : (i : Int) + 1 = ((i + 1 : Nat) : Int) := by omega
    refine F.garboardref47_Check.L16.step _ _ _ _ _ _ _ _ _ _ ⟨fun _ => ⟨hb, ad, hA, _, _, _, _, _, _, _, hcell, fun w1 x1 => ?_⟩, fun h => by omega⟩
    have hw1 := kE hw x1
    have hs1 := hc.sh _ (List.getElem_mem hil)
    have vh := hvh _ (List.getElem_mem hil)
    unfold vH at vh
    simp only [Bool.and_eq_true] at vh
    obtain ⟨⟨⟨⟨v1, v2⟩, _⟩, _⟩, _⟩ := vh
    rw [List.drop_eq_getElem_cons hil, firstE] at hr
    have bad : ∀ (e : Int) (w : World), Below w0.heap.size w0 w → e ≠ 0 → hFault (prevG hs i) hs[i] = e → R (.int .i64 e) w := fun e w hw h0 he => by
      rw [he, if_pos h0] at hr
      have := hR w hw
      rwa [hr] at this
    have f2 : ¬ ((1 ≤ hs[i].id ∧ hs[i].id ≤ 1073741824) ∧ ¬ qR hs[i].room < 0 ∧ ¬ qR hs[i].most < 0) → hFault (prevG hs i) hs[i] = 2 := fun h => by unfold hFault; rw [if_pos h]
    refine Pure.mono (r47_isID _ _) ?_
    rintro v w2 b2 rfl
    have hw2 := kP hw1 b2
    refine ⟨_, rfl, fun h => bad 2 _ hw2 (by omega) (f2 fun k => decF h k.1), fun h => ?_⟩
    have q1 := decT h
    refine r47_sign hs1.room v1 fun w3 b3 => ?_
    have hw3 := kP hw2 b3
    refine ⟨_, rfl, fun h => bad 2 _ hw3 (by omega) (f2 fun k => k.2.1 (cmpR_lt.1 h)), fun h => ?_⟩
    have q2 : ¬ qR hs[i].room < 0 := fun k => h (cmpR_lt.2 k)
    refine r47_sign hs1.most v2 fun w4 b4 => ?_
    have hw4 := kP hw3 b4
    refine ⟨_, rfl, fun h => bad 2 _ hw4 (by omega) (f2 fun k => k.2.2 (cmpR_lt.1 h)), fun h => ?_⟩
    have q3 : ¬ qR hs[i].most < 0 := fun k => h (cmpR_lt.2 k)
    have all : (1 ≤ hs[i].id ∧ hs[i].id ≤ 1073741824) ∧ ¬ qR hs[i].room < 0 ∧ ¬ qR hs[i].most < 0 := ⟨q1, q2, q3⟩
    refine Pure.mono (r47_named _ _) ?_
    rintro v w8 b8 rfl
    have hw8 := kP hw4 b8
    refine ⟨_, rfl, fun h => bad 4 _ hw8 (by omega) (by unfold hFault; rw [if_neg (fun k => k all), if_pos (decF h)]), fun h => ?_⟩
    have q7 := decT h
    have rest : hFault (prevG hs i) hs[i] = if ∃ q, prevG hs i = some q ∧ hs[i].id ≤ q.id then 5 else 0 := by
      unfold hFault
      rw [if_neg (fun k => k all), if_neg (fun k => k q7)]
    have go : (¬ ∃ q, prevG hs i = some q ∧ hs[i].id ≤ q.id) → ∀ w, Below w0.heap.size w0 w → F.garboardref47_Check.L16 ((i : Int) + 1) A0 n0 c0 A1 n1 c1 w0.heap.size w R := fun h w hw => by
      rw [if_neg h] at rest
      rw [e3]
      refine ih (i + 1) w (by omega) (by omega) hw ?_
      simp only [rest, ne_eq, not_true_eq_false, if_false] at hr
      rw [prevG_succ hil]
      exact hr
    refine ⟨fun h => ⟨by simp only [inR]; omega, ?_⟩, fun h => ⟨by simp only [inR]; omega, fun w9 x9 => go ?_ _ (kE hw8 x9)⟩⟩
    · obtain ⟨hb2, a2, hA2, _, hf2⟩ := (hc.h.keep hw8 (Nat.le_refl _)).at_ (fun _ => rfl) hc.lh (i := i - 1) (by omega)
      have e1 : (i : Int) - 1 = ((i - 1 : Nat) : Int) := by omega
      have hp := prevG_pos hil (by omega)
      rw [e1]
      refine ⟨hb2, a2, hA2, _, hf2 0 _ rfl, fun h => fun w9 x9 => bad 5 _ (kE hw8 x9) (by omega) ?_, fun h => ⟨by simp only [inR]; omega, fun w9 x9 => go ?_ _ (kE hw8 x9)⟩⟩
      · rw [rest, if_pos ⟨_, hp, h⟩]
      · rintro ⟨q, hq, hle⟩
        rw [hp] at hq
        cases hq
        exact h hle
    · rintro ⟨q, hq, _⟩
      have : i = 0 := by omega
      subst this
      cases hq

theorem r47_check_L6 {w0 : World} {A0 A1 : Option Addr} {n0 c0 n1 c1 : Nat} {ps : List Pa} {hs : List Ho} (hc : CgIn w0 A0 n0 A1 n1 ps hs) {R : Value → World → Prop} {r : Int} (hR : ∀ w, Below w0.heap.size w0 w → R (.int .i64 r) w) (hvp : ∀ p ∈ ps, vP p = true) (hvh : ∀ h ∈ hs, vH h = true) :
    ∀ (d i : Nat) (w : World), n0 - i = d → i ≤ n0 → Below w0.heap.size w0 w → r = (if firstE pFault (prevG ps i) (ps.drop i) ≠ 0 then firstE pFault (prevG ps i) (ps.drop i) else firstE hFault none hs) → F.garboardref47_Check.L6 i A0 n0 c0 A1 n1 c1 w0.heap.size w R := by
  have hn0 := hc.np
  have hn1 := hc.nh
  have hlp := hc.lp
  have hlh := hc.lh
  intro d
  induction d with
  | zero =>
    intro i w hd hi hw hr
    have : i = n0 := by omega
    subst this
    refine F.garboardref47_Check.L6.step _ _ _ _ _ _ _ _ _ _ ⟨fun h => by omega, fun _ => ?_⟩
    rw [List.drop_eq_nil_of_le (by omega)] at hr
    refine r47_check_L16 hc hR hvh n1 0 w rfl (by omega) hw ?_
    rw [hr]
    rfl
  | succ d ih =>
    intro i w hd hi hw hr
    have hil : i < ps.length := by omega
    obtain ⟨hb, ad, hA, hcell, _⟩ := (hc.p.keep hw (Nat.le_refl _)).at_ (fun _ => rfl) hc.lp hil
    have e3 : (i : Int) + 1 = ((i + 1 : Nat) : Int) := by omega
    refine F.garboardref47_Check.L6.step _ _ _ _ _ _ _ _ _ _ ⟨fun _ => ⟨hb, ad, hA, _, _, _, _, _, _, _, hcell, fun w1 x1 => ?_⟩, fun h => by omega⟩
    have hw1 := kE hw x1
    have hs1 := hc.sp _ (List.getElem_mem hil)
    have vp := hvp _ (List.getElem_mem hil)
    unfold vP at vp
    simp only [Bool.and_eq_true] at vp
    obtain ⟨⟨v1, v2⟩, v3⟩ := vp
    rw [List.drop_eq_getElem_cons hil, firstE] at hr
    have bad : ∀ (e : Int) (w : World), Below w0.heap.size w0 w → e ≠ 0 → pFault (prevG ps i) ps[i] = e → R (.int .i64 e) w := fun e w hw h0 he => by
      rw [he, if_pos h0, if_pos h0] at hr
      have := hR w hw
      rwa [hr] at this
    have f2 : ¬ ((1 ≤ ps[i].id ∧ ps[i].id ≤ 1073741824) ∧ (1 ≤ ps[i].units ∧ ps[i].units ≤ 9) ∧ (1 ≤ ps[i].cls ∧ ps[i].cls ≤ 9) ∧ 0 < qR ps[i].mass ∧ 0 < qR ps[i].vol ∧ ¬ qR ps[i].worth < 0) → pFault (prevG ps i) ps[i] = 2 := fun h => by unfold pFault; rw [if_pos h]
    refine Pure.mono (r47_isID _ _) ?_
    rintro v w2 b2 rfl
    have hw2 := kP hw1 b2
    refine ⟨_, rfl, fun h => bad 2 _ hw2 (by omega) (f2 fun k => decF h k.1), fun h => ?_⟩
    have q1 := decT h
    refine ⟨fun h => bad 2 _ hw2 (by omega) (f2 fun k => by have := k.2.1; omega), fun h2 => ⟨fun h => bad 2 _ hw2 (by omega) (f2 fun k => by have := k.2.1; omega), fun h3 => ⟨fun h => bad 2 _ hw2 (by omega) (f2 fun k => by have := k.2.2.1; omega), fun h4 => ⟨fun h => bad 2 _ hw2 (by omega) (f2 fun k => by have := k.2.2.1; omega), fun h5 => ?_⟩⟩⟩⟩
    have q2 : 1 ≤ ps[i].units ∧ ps[i].units ≤ 9 := by omega
    have q3 : 1 ≤ ps[i].cls ∧ ps[i].cls ≤ 9 := by omega
    refine r47_sign hs1.mass v1 fun w5 b5 => ?_
    have hw5 := kP hw2 b5
    refine ⟨_, rfl, fun h => bad 2 _ hw5 (by omega) (f2 fun k => by have := cmpR_gt.2 k.2.2.2.1; omega), fun h => ?_⟩
    have q4 : 0 < qR ps[i].mass := cmpR_gt.1 (by omega)
    refine r47_sign hs1.vol v2 fun w6 b6 => ?_
    have hw6 := kP hw5 b6
    refine ⟨_, rfl, fun h => bad 2 _ hw6 (by omega) (f2 fun k => by have := cmpR_gt.2 k.2.2.2.2.1; omega), fun h => ?_⟩
    have q5 : 0 < qR ps[i].vol := cmpR_gt.1 (by omega)
    refine r47_sign hs1.worth v3 fun w7 b7 => ?_
    have hw7 := kP hw6 b7
    refine ⟨_, rfl, fun h => bad 2 _ hw7 (by omega) (f2 fun k => k.2.2.2.2.2 (cmpR_lt.1 h)), fun h => ?_⟩
    have q6 : ¬ qR ps[i].worth < 0 := fun k => h (cmpR_lt.2 k)
    have all : (1 ≤ ps[i].id ∧ ps[i].id ≤ 1073741824) ∧ (1 ≤ ps[i].units ∧ ps[i].units ≤ 9) ∧ (1 ≤ ps[i].cls ∧ ps[i].cls ≤ 9) ∧ 0 < qR ps[i].mass ∧ 0 < qR ps[i].vol ∧ ¬ qR ps[i].worth < 0 := ⟨q1, q2, q3, q4, q5, q6⟩
    refine Pure.mono (r47_named _ _) ?_
    rintro v w8 b8 rfl
    have hw8 := kP hw7 b8
    refine ⟨_, rfl, fun h => bad 4 _ hw8 (by omega) (by unfold pFault; rw [if_neg (fun k => k all), if_pos (decF h)]), fun h => ?_⟩
    have q7 := decT h
    have rest : pFault (prevG ps i) ps[i] = if ∃ q, prevG ps i = some q ∧ ps[i].id ≤ q.id then 5 else 0 := by
      unfold pFault
      rw [if_neg (fun k => k all), if_neg (fun k => k q7)]
    have go : (¬ ∃ q, prevG ps i = some q ∧ ps[i].id ≤ q.id) → ∀ w, Below w0.heap.size w0 w → F.garboardref47_Check.L6 ((i : Int) + 1) A0 n0 c0 A1 n1 c1 w0.heap.size w R := fun h w hw => by
      rw [if_neg h] at rest
      rw [e3]
      refine ih (i + 1) w (by omega) (by omega) hw ?_
      simp only [rest, ne_eq, not_true_eq_false, if_false] at hr
      rw [prevG_succ hil]
      exact hr
    refine ⟨fun h => ⟨by simp only [inR]; omega, ?_⟩, fun h => ⟨by simp only [inR]; omega, fun w9 x9 => go ?_ _ (kE hw8 x9)⟩⟩
    · obtain ⟨hb2, a2, hA2, _, hf2⟩ := (hc.p.keep hw8 (Nat.le_refl _)).at_ (fun _ => rfl) hc.lp (i := i - 1) (by omega)
      have e1 : (i : Int) - 1 = ((i - 1 : Nat) : Int) := by omega
      have hp := prevG_pos hil (by omega)
      rw [e1]
      refine ⟨hb2, a2, hA2, _, hf2 0 _ rfl, fun h => fun w9 x9 => bad 5 _ (kE hw8 x9) (by omega) ?_, fun h => ⟨by simp only [inR]; omega, fun w9 x9 => go ?_ _ (kE hw8 x9)⟩⟩
      · rw [rest, if_pos ⟨_, hp, h⟩]
      · rintro ⟨q, hq, hle⟩
        rw [hp] at hq
        cases hq
        exact h hle
    · rintro ⟨q, hq, _⟩
      have : i = 0 := by omega
      subst this
      cases hq

theorem r47_Check {w : World} {A0 A1 : Option Addr} {n0 c0 n1 c1 : Nat} {ps : List Pa} {hs : List Ho} (hc : CgIn w A0 n0 A1 n1 ps hs) :
    Pure Tryz.prog 15 #[.agg #[.slice A0 n0 c0, .slice A1 n1 c1]] w fun v _ => v = .int .i64 (checkC ps hs) := by
  have hlp := hc.lp
  have hlh := hc.lh
  refine F.garboardref47_Check.vc _ _ _ _ _ _ _ _ fun w1 x1 => ?_
  have hw1 := k0 x1
  refine Pure.mono (r47_numbers (hc.keep hw1)) ?_
  rintro v w2 b2 rfl
  have hw2 := kP hw1 b2
  refine ⟨_, rfl, fun h => ?_, fun h => ?_⟩
  · unfold checkC
    rw [if_pos]
    intro k
    rw [k.1, k.2] at h
    cases h
  have hv : ps.all vP = true ∧ hs.all vH = true := by simpa [Bool.and_eq_true] using h
  refine ⟨fun h1 => ?_, fun h1 => ⟨fun h2 => ?_, fun h2 => ?_⟩⟩
  · unfold checkC; rw [if_neg (fun k => k hv), if_pos (.inl (by omega))]
  · unfold checkC; rw [if_neg (fun k => k hv), if_pos (.inr (by omega))]
  · refine r47_check_L6 hc (fun _ _ => rfl) (List.all_eq_true.1 hv.1) (List.all_eq_true.1 hv.2) n0 0 w2 rfl (by omega) hw2 ?_
    unfold checkC
    rw [if_neg (fun k => k hv), if_neg (by omega)]
    rfl

theorem r47_stowed_L15 {w0 : World} {A0 A1 A : Option Addr} {n0 c0 n1 c1 n c : Nat} {l : List Sw} (h : SlR w0 A 3 (l.map Sw.row)) (hl : l.length = n) (hn : n < 2147483648) {i : Nat} (hil : i < l.length) {P : Int} (hP : P ≤ 9) (hpos : ∀ s ∈ l.take (i + 1), 1 ≤ s.units) (hpre : unitsF (l.take i) l[i].parcel ≤ P) {R : Value → World → Prop}
    (hbad : ∀ w, P < unitsF (l.take i ++ [l[i]]) l[i].parcel → R (.int .i64 12) w) (hok : ∀ w, Below w0.heap.size w0 w → unitsF (l.take i ++ [l[i]]) l[i].parcel ≤ P → F.garboardref47_Stowed.L4 A n c ((i : Int) + 1) A0 n0 c0 A1 n1 c1 w0.heap.size w R) :
    ∀ (d j : Nat) (w : World), i + 1 - j = d → j ≤ i + 1 → Below w0.heap.size w0 w → unitsF (l.take j) l[i].parcel ≤ P → F.garboardref47_Stowed.L15 A n c i (P - unitsF (l.take j) l[i].parcel) j A0 n0 c0 A1 n1 c1 w0.heap.size w R := by
  have et : l.take (i + 1) = l.take i ++ [l[i]] := by rw [List.take_add_one, List.getElem?_eq_getElem hil]; rfl
  intro d
  induction d with
  | zero =>
    intro j w hd hj hw hu
    have : j = i + 1 := by omega
    subst this
    rw [et] at hu
    exact F.garboardref47_Stowed.L15.step _ _ _ _ _ _ _ _ _ _ _ _ _ _ _ ⟨fun h => by omega, fun _ => ⟨by simp only [inR]; omega, hok w hw hu⟩⟩
  | succ d ih =>
    intro j w hd hj hw hu
    have hjl : j < l.length := by omega
    have e3 : (j : Int) + 1 = ((j + 1 : Nat) : Int) := by omega
    have ej : l.take (j + 1) = l.take j ++ [l[j]] := by rw [List.take_add_one, List.getElem?_eq_getElem hjl]; rfl
    have hs := unitsF_snoc (l.take j) l[j] l[i].parcel
    have hj1 : 1 ≤ l[j].units := hpos _ (by
      rw [List.mem_take_iff_getElem]
      exact ⟨j, by omega, rfl⟩)
    have hnn : 0 ≤ unitsF (l.take j) l[i].parcel := unitsF_nonneg (fun s hs => hpos s (by
      have : l.take j = (l.take (i + 1)).take j := by rw [List.take_take, Nat.min_eq_left (by omega)]
      rw [this] at hs
      exact List.mem_of_mem_take hs)) _
    obtain ⟨hb, a, hA, _, hf⟩ := (h.keep hw (Nat.le_refl _)).at_ (fun _ => rfl) hl hjl
    obtain ⟨hb2, a2, hA2, _, hf2⟩ := (h.keep hw (Nat.le_refl _)).at_ (fun _ => rfl) hl hil
    refine F.garboardref47_Stowed.L15.step _ _ _ _ _ _ _ _ _ _ _ _ _ _ _ ⟨fun _ => ⟨hb, a, hA, _, hf 1 _ rfl, hb2, a2, hA2, _, hf2 1 _ rfl, fun he => ⟨hb, a, hA, fun w2 x2 => ?_⟩, fun he => ⟨by simp only [inR]; omega, fun w2 x2 => ?_⟩⟩, fun h => by omega⟩
    · have hw2 := kE hw x2
      rw [if_pos he] at hs
      obtain ⟨_, a3, hA3, _, hf3⟩ := (h.keep hw2 (Nat.le_refl _)).at_ (fun _ => rfl) hl hjl
      rw [hA] at hA3
      cases hA3
      refine ⟨_, hf3 2 _ rfl, fun hgt => hbad w2 ?_, fun hle => ⟨hb, a, hA, _, hf3 2 _ rfl, by simp only [inR]; omega, by simp only [inR]; omega, ?_⟩⟩
      · -- too much already
        have hm := (unitsF_le hpos l[i].parcel (j + 1)).2
        rw [List.take_take, Nat.min_eq_left (by omega), ej, hs, et] at hm
        omega
      · rw [e3]
        have := ih (j + 1) w2 (by omega) (by omega) hw2 (by rw [ej, hs]; omega)
        rw [ej, hs] at this
        rw [show P - unitsF (l.take j) l[i].parcel - l[j].units = P - (unitsF (l.take j) l[i].parcel + l[j].units) by omega]
        exact this
    · rw [if_neg he, Int.add_zero] at hs
      rw [e3]
      have := ih (j + 1) w2 (by omega) (by omega) (kE hw x2) (by rw [ej, hs]; exact hu)
      rw [ej, hs] at this
      exact this
theorem r47_stowed_loop {w0 : World} {A0 A1 A : Option Addr} {n0 c0 n1 c1 n c : Nat} {ps : List Pa} {hs : List Ho} {l : List Sw} (hc : CgIn w0 A0 n0 A1 n1 ps hs) (h : SlR w0 A 3 (l.map Sw.row)) (hl : l.length = n) (hn : n < 2147483648) (hck : checkC ps hs = 0) {R : Value → World → Prop} (hR : ∀ w, R (.int .i64 (stowL ps hs [] l)) w) :
    ∀ (d i : Nat) (w : World), n - i = d → i ≤ n → Below w0.heap.size w0 w → stowL ps hs [] (l.take i) = 0 → F.garboardref47_Stowed.L4 A n c i A0 n0 c0 A1 n1 c1 w0.heap.size w R := by
  have hcr := checkC_right hck
  intro d
  induction d with
  | zero =>
    intro i w hd hi hw hr
    have : i = n := by omega
    subst this
    rw [List.take_of_length_le (by omega)] at hr
    refine F.garboardref47_Stowed.L4.step _ _ _ _ _ _ _ _ _ _ _ _ _ ⟨fun h => by omega, fun _ => ?_⟩
    have := hR w
    rwa [hr] at this
  | succ d ih =>
    intro i w hd hi hw hr
    have hil : i < l.length := by omega
    have e3 : (i : Int) + 1 = ((i + 1 : Nat) : Int) := by omega
    have et : l.take (i + 1) = l.take i ++ [l[i]] := by rw [List.take_add_one, List.getElem?_eq_getElem hil]; rfl
    have hres : stowL ps hs [] l = if stow1 ps hs (l.take i) l[i] ≠ 0 then stow1 ps hs (l.take i) l[i] else stowL ps hs (l.take (i + 1)) (l.drop (i + 1)) := by
      conv => lhs; rw [← List.take_append_drop i l, stowL_split, if_neg (fun k => k hr), List.nil_append, List.drop_eq_getElem_cons hil, stowL, ← et]
    have hpre : RightS ps hs (l.take i) := by
      have h0 : RightS ps hs [] := ⟨hcr, by simp, by simp, List.Pairwise.nil, fun p hp => by have := (hcr.p1 p hp).2.1.1; simp [unitsF]; omega⟩
      simpa using stowL_right hcr (l.take i) [] h0 hr
    have bad : ∀ (e : Int) (w : World), e ≠ 0 → stow1 ps hs (l.take i) l[i] = e → R (.int .i64 e) w := fun e w h0 he => by
      rw [he, if_pos h0] at hres
      have := hR w
      rwa [hres] at this
    have cell := fun (w : World) (hw : Below w0.heap.size w0 w) => (h.keep hw (Nat.le_refl _)).at_ (fun _ => rfl) hl hil
    obtain ⟨hb, a, hA, hcell, hf⟩ := cell w hw
    have fld : ∀ (w : World), Below w0.heap.size w0 w → ∀ k u, (l[i].row)[k]? = some u → CellsAt w ((a.add ((i : Int).toNat * 3)).add k) [u] := fun w hw => by
      obtain ⟨_, a', hA', _, hf'⟩ := cell w hw
      rw [hA] at hA'
      cases hA'
      exact hf'
    refine F.garboardref47_Stowed.L4.step _ _ _ _ _ _ _ _ _ _ _ _ _ ⟨fun _ => ⟨hb, a, hA, _, hf 1 _ rfl, fun w1 x1 => ?_⟩, fun h => by omega⟩
    have hw1 := kE hw x1
    refine Pure.mono (r47_Parcel (hc.keep hw1) l[i].parcel) ?_
    rintro v w2 b2 rfl
    have hw2 := kP hw1 b2
    cases hp : pix ps l[i].parcel with
    | none =>
      refine ⟨_, rfl, fun _ => fun w3 _ => bad 7 _ (by omega) (by unfold stow1; rw [hp]), fun h => absurd (by simp [ixI]) h⟩
    | some k =>
    refine ⟨_, rfl, fun h => by simp [ixI] at h; omega, fun _ => ⟨hb, a, hA, _, fld w2 hw2 0 _ rfl, fun w2' x2' => Pure.mono (r47_Hold (hc.keep (kE hw2 x2')) l[i].hold) ?_⟩⟩
    have hw2' := kE hw2 x2'
    rintro v w3 b3 rfl
    have hw3 := kP hw2' b3
    cases hh : hix hs l[i].hold with
    | none =>
      refine ⟨_, rfl, fun _ => bad 7 _ (by omega) (by unfold stow1; rw [hp, hh]), fun h => absurd (by simp [ixI]) h⟩
    | some j =>
    obtain ⟨p, hpi, hid⟩ := pix_some hp
    have hkl : k < ps.length := (List.getElem?_eq_some_iff.1 hpi).1
    have hpk : ps[k] = p := (List.getElem?_eq_some_iff.1 hpi).2
    have s1 : stow1 ps hs (l.take i) l[i] = if l[i].units < 1 then 2 else if ∃ q, (l.take i).getLast? = some q ∧ ¬ befS q l[i] then 5 else if p.units < l[i].units ∨ p.units < unitsF (l.take i ++ [l[i]]) l[i].parcel then 12 else 0 := by
      unfold stow1
      rw [hp, hh]
      simp only [hpi]
    refine ⟨_, rfl, fun h => by simp [ixI] at h; omega, fun _ => ⟨hb, a, hA, _, fld w3 hw3 2 _ rfl, fun h => bad 2 _ (by omega) (by rw [s1, if_pos h]), fun hu => ?_⟩⟩
    rw [if_neg hu] at s1
    have hpu := (hcr.p1 p (List.mem_of_getElem? hpi)).2.1.2
    have hfull := hpre.full p (List.mem_of_getElem? hpi)
    rw [hid] at hfull
    have hnn := unitsF_nonneg hpre.pos l[i].parcel
    have hsn := unitsF_snoc (l.take i) l[i] l[i].parcel
    rw [if_pos rfl] at hsn
    have rest : (¬ ∃ q, (l.take i).getLast? = some q ∧ ¬ befS q l[i]) → ∀ w, Below w0.heap.size w0 w → F.garboardref47_Stowed.L15 A n c i p.units ((0 : Nat) : Int) A0 n0 c0 A1 n1 c1 w0.heap.size w R := by
      intro ho w hw
      rw [if_neg ho] at s1
      have key := r47_stowed_L15 (A0 := A0) (n0 := n0) (c0 := c0) (A1 := A1) (n1 := n1) (c1 := c1) (c := c) h hl hn hil (P := p.units) (by omega) (fun s hs => by
        rw [et] at hs
        rcases List.mem_append.1 hs with hs | hs
        · exact hpre.pos s hs
        · rw [List.mem_singleton] at hs; subst hs; omega) hfull (R := R) (fun w h12 => bad 12 _ (by omega) (by rw [s1, if_pos (.inr h12)])) (fun w hw hle => ?_) (i + 1) 0 w rfl (by omega) hw (by simp [unitsF]; omega)
      · have e0 : unitsF (l.take 0) l[i].parcel = 0 := rfl
        rw [e0, Int.sub_zero] at key
        exact key
      · rw [e3]
        refine ih (i + 1) w (by omega) (by omega) hw ?_
        have h0 : stow1 ps hs (l.take i) l[i] = 0 := by
          rw [s1, if_neg]
          rintro (k | k) <;> omega
        rw [et, stowL_split, if_neg (fun k => k hr), List.nil_append, stowL, h0]
        rfl
    have hpc : ∀ w, Below w0.heap.size w0 w → ((0 ≤ ixI (some k) ∧ ixI (some k) < n0) ∧ ∃ a24, A0 = some a24 ∧ CellsAt w ((a24.add ((ixI (some k)).toNat * 7)).add 1) [(.int .i64 p.units)]) := fun w hw => by
      obtain ⟨hb2, a2, hA2, _, hf2⟩ := (hc.p.keep hw (Nat.le_refl _)).at_ (fun _ => rfl) hc.lp hkl
      have := hf2 1 _ rfl
      rw [hpk] at this
      exact ⟨hb2, a2, hA2, this⟩
    refine ⟨fun hi0 => ⟨by simp only [inR]; omega, ?_⟩, fun hi0 => ?_⟩
    · obtain ⟨hb2, a2, hA2, hcell2, _⟩ := (h.keep hw3 (Nat.le_refl _)).at_ (fun _ => rfl) hl (i := i - 1) (by omega)
      have e1 : (i : Int) - 1 = ((i - 1 : Nat) : Int) := by omega
      have hlast : (l.take i).getLast? = some l[i - 1] := by
        rw [List.getLast?_eq_getElem?, List.length_take, Nat.min_eq_left (by omega), List.getElem?_take, if_pos (by omega), List.getElem?_eq_getElem (by omega)]
      obtain ⟨_, a3, hA3, hcell3, _⟩ := cell w3 hw3
      rw [e1]
      refine ⟨hb2, a2, hA2, _, _, _, hcell2, hb, a3, hA3, _, _, _, hcell3, fun w4 x4 => Pure.mono (r47_before l[i - 1] l[i] w4) ?_⟩
      have hw4 := kE hw3 x4
      rintro v w5 b5 rfl
      have hw5 := kP hw4 b5
      obtain ⟨g1, a6, hA6, g2⟩ := hpc w5 hw5
      refine ⟨_, rfl, fun h => bad 5 _ (by omega) (by rw [s1, if_pos ⟨_, hlast, decF h⟩]), fun h => ⟨g1, a6, hA6, _, g2, rest ?_ w5 hw5⟩⟩
      rintro ⟨q, hq, hnb⟩
      rw [hlast] at hq
      cases hq
      exact hnb (decT h)
    · obtain ⟨g1, a6, hA6, g2⟩ := hpc w3 hw3
      refine ⟨g1, a6, hA6, fun w4 x4 => ?_⟩
      obtain ⟨_, a7, hA7, g3⟩ := hpc w4 (kE hw3 x4)
      rw [hA6] at hA7
      cases hA7
      refine ⟨_, g3, rest ?_ w4 (kE hw3 x4)⟩
      rintro ⟨q, hq, _⟩
      have : i = 0 := by omega
      subst this
      simp at hq
theorem r47_Stowed {w : World} {A0 A1 A : Option Addr} {n0 c0 n1 c1 n c : Nat} {ps : List Pa} {hs : List Ho} {l : List Sw} (hc : CgIn w A0 n0 A1 n1 ps hs) (h : SlR w A 3 (l.map Sw.row)) (hl : l.length = n) (hn : n < 2147483648) :
    Pure Tryz.prog 18 #[.agg #[.slice A0 n0 c0, .slice A1 n1 c1], .slice A n c] w fun v _ => v = .int .i64 (stowedF ps hs l) := by
  refine F.garboardref47_Stowed.vc _ _ _ _ _ _ _ _ _ _ _ fun w1 x1 => ?_
  have hw1 := k0 x1
  refine Pure.mono (r47_Check (hc.keep hw1)) ?_
  rintro v w2 b2 rfl
  have hw2 := kP hw1 b2
  refine ⟨_, rfl, fun h => ?_, fun h0 => ?_⟩
  · unfold stowedF; rw [if_pos h]
  · have h0' := Decidable.not_not.1 h0
    exact r47_stowed_loop hc h hl hn h0' (fun _ => by unfold stowedF; rw [if_neg h0]) n 0 w2 rfl (by omega) hw2 rfl
end Go.Proofs.YtdnelnicnjplpaaGreatDoor.B

namespace Go.Proofs.YtdnelnicnjplpaaGreatDoor.B
open Go Go.RowKit Go.Proofs Go.Proofs.YtdnelnicnjplpaaGreatDoor.Vc

structure QT where
  b : Bool
  A : Option Addr
  n : Nat
  c : Nat
  A' : Option Addr
  n' : Nat
  c' : Nat
  r : Rat
def QT.is (x : QT) (w : World) : Prop := IsQ w x.b x.A x.n x.c x.A' x.n' x.c' x.r
def Qs (w : World) (L : List QT) : Prop := ∀ x ∈ L, x.is w
theorem Qs.below {w w' : World} {L : List QT} (h : Qs w L) (hb : Below w.heap.size w w') : Qs w' L := fun x hx => IsQ.below (h x hx) hb
theorem Qs.ext {w w' : World} {B : Nat} {ts : List Nat} {L : List QT} (h : Qs w L) (e : Ext B ts w w') (ht : 112 ∉ ts) : Qs w' L := fun x hx => IsQ.ext (h x hx) e ht
theorem Qs.add {w : World} {L : List QT} (h : Qs w L) {x : QT} (k : x.is w) : Qs w (x :: L) := fun y hy => by
  rcases List.mem_cons.1 hy with rfl | hy
  · exact k
  · exact h y hy
theorem Qs.nil {w : World} : Qs w [] := fun x hx => by cases hx
theorem QR.qt {r : Rat} {v : Value} {w : World} (h : QR r v w) : ∃ x : QT, x.r = r ∧ v = .agg #[.bool x.b, .slice x.A x.n x.c, .slice x.A' x.n' x.c'] ∧ x.is w := by
  obtain ⟨b, A, n, c, A', n', c', rfl, k⟩ := h
  exact ⟨⟨b, A, n, c, A', n', c', r⟩, rfl, rfl, k⟩
section
variable {w0 : World} {A0 A1 A : Option Addr} {n0 c0 n1 c1 n c : Nat} {ps : List Pa} {hs : List Ho} {l : List Sw}

end
end Go.Proofs.YtdnelnicnjplpaaGreatDoor.B

namespace Go.Proofs.YtdnelnicnjplpaaGreatDoor.B
open Go Go.RowKit Go.Proofs Go.Proofs.YtdnelnicnjplpaaGreatDoor.Vc

def outA (ps : List Pa) (hs : List Ho) (l : List Sw) (i k : Nat) : List Int :=
  ((ps.take i).flatMap fun p => hs.map fun h => amtF l h.id p.id) ++ match ps[i]? with | some p => (hs.take k).map fun h => amtF l h.id p.id | none => []
theorem outA_start (ps : List Pa) (hs : List Ho) (l : List Sw) : outA ps hs l 0 0 = [] := by
  unfold outA
  cases ps[0]? <;> simp
theorem outA_end {ps : List Pa} {hs : List Ho} {l : List Sw} {i : Nat} (hi : i < ps.length) : outA ps hs l i hs.length = outA ps hs l (i + 1) 0 := by
  unfold outA
  rw [List.take_add_one, List.getElem?_eq_getElem hi, List.flatMap_append]
  cases ps[i + 1]? <;> simp
theorem outA_all {ps : List Pa} {hs : List Ho} {l : List Sw} : outA ps hs l ps.length 0 = amountsF ps hs l := by
  unfold outA amountsF
  rw [List.getElem?_eq_none (Nat.le_refl _), List.take_length, List.append_nil]
theorem outA_step {ps : List Pa} {hs : List Ho} {l : List Sw} {i k : Nat} (hi : i < ps.length) (hk : k < hs.length) : outA ps hs l i (k + 1) = outA ps hs l i k ++ [amtF l hs[k].id ps[i].id] := by
  unfold outA
  rw [List.getElem?_eq_getElem hi, List.append_assoc]
  simp only
  rw [List.take_add_one, List.getElem?_eq_getElem hk, List.map_append]
  rfl

section
variable {w0 : World} {A0 A1 A : Option Addr} {n0 c0 n1 c1 n c : Nat} {ps : List Pa} {hs : List Ho}
theorem CgIn.pAt (hc : CgIn w0 A0 n0 A1 n1 ps hs) {w : World} (hw : Below w0.heap.size w0 w) {i : Nat} (hi : i < ps.length) :
    (0 ≤ (i : Int) ∧ (i : Int) < n0) ∧ ∃ a, A0 = some a ∧ CellsAt w (a.add ((i : Int).toNat * 7)) (ps[i].row) ∧ ∀ k u, (ps[i].row)[k]? = some u → CellsAt w ((a.add ((i : Int).toNat * 7)).add k) [u] :=
  (hc.p.keep hw (Nat.le_refl _)).at_ (fun _ => rfl) hc.lp hi
theorem CgIn.hAt (hc : CgIn w0 A0 n0 A1 n1 ps hs) {w : World} (hw : Below w0.heap.size w0 w) {i : Nat} (hi : i < hs.length) :
    (0 ≤ (i : Int) ∧ (i : Int) < n1) ∧ ∃ a, A1 = some a ∧ CellsAt w (a.add ((i : Int).toNat * 7)) (hs[i].row) ∧ ∀ k u, (hs[i].row)[k]? = some u → CellsAt w ((a.add ((i : Int).toNat * 7)).add k) [u] :=
  (hc.h.keep hw (Nat.le_refl _)).at_ (fun _ => rfl) hc.lh hi
theorem amounts_L3 {l : List Sw} (hc : CgIn w0 A0 n0 A1 n1 ps hs) (h : SlR w0 A 3 (l.map Sw.row)) (hl : l.length = n) (hn : n < 2147483648) {R : Value → World → Prop}
    (hR : ∀ A' m c' w, Below w0.heap.size w0 w → OwnR w w0.heap.size 3 A' m c' 1 ((amountsF ps hs l).map iRow) → R (.slice A' m c') w) :
    ∀ (d i : Nat) (A' : Option Addr) (m c' : Nat) (w : World), n0 - i = d → i ≤ n0 → Below w0.heap.size w0 w → OwnR w w0.heap.size 3 A' m c' 1 ((outA ps hs l i 0).map iRow) → m ≤ 7 * i → F.garboardref47_amounts.L3 A n c A' m c' i A0 n0 c0 A1 n1 c1 w0.heap.size w R := by
  have hn0 := hc.np
  have hn1 := hc.nh
  have hlp := hc.lp
  have hlh := hc.lh
  intro d
  induction d with
  | zero =>
    intro i A' m c' w hd hi hw ho hm
    have : i = ps.length := by omega
    subst this
    rw [outA_all] at ho
    exact F.garboardref47_amounts.L3.step _ _ _ _ _ _ _ _ _ _ _ _ _ _ _ _ ⟨fun h => by omega, fun _ => hR _ _ _ w hw ho⟩
  | succ d ih =>
    intro i A' m c' w hd hi hw ho hm
    have hil : i < ps.length := by omega
    have ei3 : (i : Int) + 1 = ((i + 1 : Nat) : Int) := by omega
    refine F.garboardref47_amounts.L3.step _ _ _ _ _ _ _ _ _ _ _ _ _ _ _ _ ⟨fun _ => ?_, fun h => by omega⟩
    have inner : ∀ (e k : Nat) (A' : Option Addr) (m c' : Nat) (w : World), n1 - k = e → k ≤ n1 → Below w0.heap.size w0 w → OwnR w w0.heap.size 3 A' m c' 1 ((outA ps hs l i k).map iRow) → m ≤ 7 * i + k → F.garboardref47_amounts.L6 A n c A' m c' i k A0 n0 c0 A1 n1 c1 w0.heap.size w R := by
      intro e
      induction e with
      | zero =>
        intro k A' m c' w he hk hw ho hm
        have : k = hs.length := by omega
        subst this
        rw [outA_end hil] at ho
        refine F.garboardref47_amounts.L6.step _ _ _ _ _ _ _ _ _ _ _ _ _ _ _ _ _ ⟨fun h => by omega, fun _ => ⟨by simp only [inR]; omega, ?_⟩⟩
        rw [ei3]
        exact ih (i + 1) A' m c' w (by omega) (by omega) hw ho (by omega)
      | succ e ihe =>
        intro k A' m c' w he hk hw ho hm
        have hkl : k < hs.length := by omega
        have ek3 : (k : Int) + 1 = ((k + 1 : Nat) : Int) := by omega
        refine F.garboardref47_amounts.L6.step _ _ _ _ _ _ _ _ _ _ _ _ _ _ _ _ _ ⟨fun _ => ?_, fun h => by omega⟩
        have loop : ∀ (f j : Nat) (w : World), n - j = f → j ≤ n → Below w0.heap.size w0 w → OwnR w w0.heap.size 3 A' m c' 1 ((outA ps hs l i k).map iRow) → F.garboardref47_amounts.L10 A n c A' m c' i k (amtF (l.take j) hs[k].id ps[i].id) j A0 n0 c0 A1 n1 c1 w0.heap.size w R := by
          intro f
          induction f with
          | zero =>
            intro j w hf hj hw ho
            refine F.garboardref47_amounts.L10.step _ _ _ _ _ _ _ _ _ _ _ _ _ _ _ _ _ _ _ ⟨fun h => by omega, fun _ => ?_⟩
            rw [List.take_of_length_le (by omega)]
            refine app_row el_Ints (Nat.le_refl _) ho (x := .int .i64 (amtF l hs[k].id ps[i].id)) rfl (by simp [Value.cells, isCell]) hw.size (by omega) (by decide) fun A3 c3 w3 o3 _ b3 => ⟨by simp only [inR]; omega, ?_⟩
            rw [ek3]
            refine ihe (k + 1) A3 (m + 1) c3 w3 (by omega) (by omega) (hw.trans b3) ?_ (by omega)
            rw [outA_step hil hkl, List.map_append]
            exact o3
          | succ f ihf =>
            intro j w hf hj hw ho
            have hjl : j < l.length := by omega
            have ej3 : (j : Int) + 1 = ((j + 1 : Nat) : Int) := by omega
            have et : l.take (j + 1) = l.take j ++ [l[j]] := by rw [List.take_add_one, List.getElem?_eq_getElem hjl]; rfl
            have es := amtF_snoc (l.take j) l[j] hs[k].id ps[i].id
            rw [← et] at es
            have lc : ∀ w, Below w0.heap.size w0 w → _ := fun w hw => (h.keep (w' := w) hw (Nat.le_refl _)).at_ (fun _ => rfl) hl hjl
            obtain ⟨hb, a, hA, _, hcell⟩ := lc w hw
            obtain ⟨hbp, ap, hAp, _, hcp⟩ := hc.pAt hw hil
            obtain ⟨hbh, ah, hAh, _, hch⟩ := hc.hAt hw hkl
            refine F.garboardref47_amounts.L10.step _ _ _ _ _ _ _ _ _ _ _ _ _ _ _ _ _ _ _ ⟨fun _ => ⟨hb, a, hA, _, hcell 1 _ rfl, hbp, ap, hAp, _, hcp 0 _ rfl, fun e1 => ⟨hb, a, hA, _, hcell 0 _ rfl, hbh, ah, hAh, _, hch 0 _ rfl, fun e2 => ⟨hb, a, hA, fun w2 x2 => ?_⟩, fun e2 => ⟨by simp only [inR]; omega, fun w2 x2 => ?_⟩⟩, fun e1 => ⟨by simp only [inR]; omega, fun w2 x2 => ?_⟩⟩, fun h => by omega⟩
            · obtain ⟨_, a', hA', _, hcell'⟩ := lc w2 (kE hw x2)
              rw [hA] at hA'
              cases hA'
              refine ⟨_, hcell' 2 _ rfl, by simp only [inR]; omega, ?_⟩
              rw [ej3]
              rw [if_pos ⟨e1, e2⟩] at es
              rw [← es]
              exact ihf (j + 1) w2 (by omega) (by omega) (kE hw x2) (ho.extNil x2)
            · rw [ej3]
              rw [if_neg (fun k => e2 k.2)] at es
              rw [← es]
              exact ihf (j + 1) w2 (by omega) (by omega) (kE hw x2) (ho.extNil x2)
            · rw [ej3]
              rw [if_neg (fun k => e1 k.1)] at es
              rw [← es]
              exact ihf (j + 1) w2 (by omega) (by omega) (kE hw x2) (ho.extNil x2)
        exact loop n 0 w rfl (by omega) hw ho
    exact inner n1 0 A' m c' w rfl (by omega) hw ho (by omega)
theorem r47_amounts {l : List Sw} (hc : CgIn w0 A0 n0 A1 n1 ps hs) (h : SlR w0 A 3 (l.map Sw.row)) (hl : l.length = n) (hn : n < 2147483648) :
    Pure Tryz.prog 68 #[.agg #[.slice A0 n0 c0, .slice A1 n1 c1], .slice A n c] w0 fun v w' => ∃ A' m c', v = .slice A' m c' ∧ OwnR w' w0.heap.size 3 A' m c' 1 ((amountsF ps hs l).map iRow) :=
  F.garboardref47_amounts.vc _ _ _ _ _ _ _ _ _ _ _ fun w1 x1 => amounts_L3 hc h hl hn (fun A' m c' w _ ho => ⟨A', m, c', rfl, ho⟩) n0 0 none 0 0 w1 rfl (by omega) (k0 x1) (by rw [outA_start]; exact OwnR.nil) (by omega)
theorem r47_Amounts {l : List Sw} (hc : CgIn w0 A0 n0 A1 n1 ps hs) (h : SlR w0 A 3 (l.map Sw.row)) (hl : l.length = n) (hn : n < 2147483648) :
    Pure Tryz.prog 29 #[.agg #[.slice A0 n0 c0, .slice A1 n1 c1], .slice A n c] w0 fun v w' => (¬ stowedF ps hs l = 0 → v = .tuple #[.slice none 0 0, .int .i64 1]) ∧
      (stowedF ps hs l = 0 → ∃ A' m c', v = .tuple #[.slice A' m c', .int .i64 0] ∧ OwnR w' w0.heap.size 3 A' m c' 1 ((amountsF ps hs l).map iRow)) := by
  refine F.garboardref47_Amounts.vc _ _ _ _ _ _ _ _ _ _ _ fun w1 x1 => ?_
  have hw := k0 x1
  refine Pure.mono (r47_Stowed (hc.keep hw) (h.keep hw (Nat.le_refl _)) hl hn) ?_
  rintro v w4 b4 rfl
  have hw := kP hw b4
  refine ⟨_, rfl, fun h0 => ⟨fun _ => rfl, fun k => absurd k h0⟩, fun h0 => ?_⟩
  refine Pure.mono (r47_amounts (hc.keep hw) (h.keep hw (Nat.le_refl _)) hl hn) ?_
  rintro v w7 b7 ⟨A', m, c', rfl, ho⟩
  exact ⟨_, _, _, rfl, fun k => absurd (Decidable.not_not.1 h0) k, fun _ => ⟨A', m, c', rfl, ho.base hw.size⟩⟩

theorem stows_L3 {a : List Int} (hc : CgIn w0 A0 n0 A1 n1 ps hs) (h : SlR w0 A 1 (a.map iRow)) (hl : a.length = n) (hn : n = n0 * n1) {R : Value → World → Prop}
    (hR : ∀ A' m c' w, Below w0.heap.size w0 w → OwnR w w0.heap.size 35 A' m c' 3 ((stowsG (getA a n1) ps hs).map Sw.row) → R (.slice A' m c') w) :
    ∀ (d k : Nat) (A' : Option Addr) (m c' : Nat) (w : World), n1 - k = d → k ≤ n1 → Below w0.heap.size w0 w → OwnR w w0.heap.size 35 A' m c' 3 ((outS (getA a n1) ps hs k 0).map Sw.row) → m ≤ 7 * k → F.garboardref47_stows.L3 A n c A' m c' k A0 n0 c0 A1 n1 c1 w0.heap.size w R := by
  have hn0 := hc.np
  have hn1 := hc.nh
  have hlp := hc.lp
  have hlh := hc.lh
  intro d
  induction d with
  | zero =>
    intro k A' m c' w hd hk hw ho hm
    have : k = n1 := by omega
    subst this
    refine F.garboardref47_stows.L3.step _ _ _ _ _ _ _ _ _ _ _ _ _ _ _ _ ⟨fun h => by omega, fun _ => hR _ _ _ w hw ?_⟩
    unfold outS at ho
    rw [← hlh] at ho
    simp only [List.range_zero, List.flatMap_nil, List.append_nil] at ho
    unfold stowsG
    rw [← hlh]
    exact ho
  | succ d ih =>
    intro k A' m c' w hd hk hw ho hm
    have hkl : k < hs.length := by omega
    have ek3 : (k : Int) + 1 = ((k + 1 : Nat) : Int) := by omega
    refine F.garboardref47_stows.L3.step _ _ _ _ _ _ _ _ _ _ _ _ _ _ _ _ ⟨fun _ => ?_, fun h => by omega⟩
    have inner : ∀ (e i : Nat) (A' : Option Addr) (m c' : Nat) (w : World), n0 - i = e → i ≤ n0 → Below w0.heap.size w0 w → OwnR w w0.heap.size 35 A' m c' 3 ((outS (getA a n1) ps hs k i).map Sw.row) → m ≤ 7 * k + i →
        F.garboardref47_stows.L6 A n c A' m c' k i A0 n0 c0 A1 n1 c1 w0.heap.size w R := by
      intro e
      induction e with
      | zero =>
        intro i A' m c' w he hi hw ho hm
        have : i = n0 := by omega
        subst this
        refine F.garboardref47_stows.L6.step _ _ _ _ _ _ _ _ _ _ _ _ _ _ _ _ _ ⟨fun h => by omega, fun _ => ⟨by simp only [inR]; omega, ?_⟩⟩
        rw [ek3]
        refine ih (k + 1) A' m c' w (by omega) (by omega) hw ?_ (by omega)
        rw [← outS_end, hlp]
        exact ho
      | succ e ihe =>
        intro i A' m c' w he hi hw ho hm
        have hil : i < ps.length := by omega
        have ei3 : (i : Int) + 1 = ((i + 1 : Nat) : Int) := by omega
        have hle1 : i * n1 ≤ 7 * 7 := Nat.mul_le_mul (by omega) hn1
        have hidx : i * n1 + k < n := by rw [hn]; exact idx_lt (by omega) (by omega)
        have e5 : (i : Int) * (n1 : Int) = ((i * n1 : Nat) : Int) := by simp
        have e6 : ((i * n1 : Nat) : Int) + (k : Int) = ((i * n1 + k : Nat) : Int) := by simp
        have hent : entS (getA a n1) ps hs k i = if 0 < getA a n1 i k then [⟨hs[k].id, ps[i].id, getA a n1 i k⟩] else [] := by
          unfold entS
          rw [List.getElem?_eq_getElem hkl, List.getElem?_eq_getElem hil]
        have hga : a[i * n1 + k]'(by omega) = getA a n1 i k := by
          unfold getA
          rw [List.getD_eq_getElem?_getD, List.getElem?_eq_getElem (by omega)]
          rfl
        refine F.garboardref47_stows.L6.step _ _ _ _ _ _ _ _ _ _ _ _ _ _ _ _ _ ⟨fun _ => ?_, fun h => by omega⟩
        rw [e5, e6]
        obtain ⟨hb3, ad3, hA3, hcell3, _⟩ := (h.keep hw (Nat.le_refl _)).at_ (fun _ => rfl) hl (i := i * n1 + k) (by omega)
        obtain ⟨hbp, ap, hAp, _, hcp⟩ := hc.pAt hw hil
        obtain ⟨hbh, ah, hAh, _, hch⟩ := hc.hAt hw hkl
        refine ⟨by simp only [inR]; omega, by simp only [inR]; omega, hb3, ad3, hA3, _, hcell3, fun hpos => ⟨hbh, ah, hAh, _, hch 0 _ rfl, hbp, ap, hAp, _, hcp 0 _ rfl, fun w2 x2 => ?_⟩, fun hneg => ⟨by simp only [inR]; omega, ?_⟩⟩
        · rw [hga] at hpos ⊢
          have hw2 := kE hw x2
          refine app_row el_Sws (Nat.le_refl _) (ho.extNil x2) (x := .agg #[.int .i64 hs[k].id, .int .i64 ps[i].id, .int .i64 (getA a n1 i k)]) rfl (by simp [Value.cells, isCell]) hw2.size (by omega) (by decide) fun A3 c3 w3 o3 _ b3 => ⟨by simp only [inR]; omega, ?_⟩
          rw [ei3]
          refine ihe (i + 1) A3 (m + 1) c3 w3 (by omega) (by omega) (hw2.trans b3) ?_ (by omega)
          rw [outS_step, hent, if_pos hpos, List.map_append]
          exact o3
        · rw [hga] at hneg
          rw [ei3]
          refine ihe (i + 1) A' m c' w (by omega) (by omega) hw ?_ (by omega)
          rw [outS_step, hent, if_neg (by omega), List.append_nil]
          exact ho
    exact inner n0 0 A' m c' w rfl (by omega) hw ho (by omega)
theorem r47_stows {a : List Int} (hc : CgIn w0 A0 n0 A1 n1 ps hs) (h : SlR w0 A 1 (a.map iRow)) (hl : a.length = n) (hn : n = n0 * n1) :
    Pure Tryz.prog 69 #[.agg #[.slice A0 n0 c0, .slice A1 n1 c1], .slice A n c] w0 fun v w' => ∃ A' m c', v = .slice A' m c' ∧ OwnR w' w0.heap.size 35 A' m c' 3 ((stowsG (getA a n1) ps hs).map Sw.row) :=
  F.garboardref47_stows.vc _ _ _ _ _ _ _ _ _ _ _ fun w1 x1 => stows_L3 hc h hl hn (fun A' m c' w _ ho => ⟨A', m, c', rfl, ho⟩) n1 0 none 0 0 w1 rfl (by omega) (k0 x1) (by unfold outS; simpa using OwnR.nil) (by omega)

theorem rfrom_L15 {a : List Int} (hc : CgIn w0 A0 n0 A1 n1 ps hs) (h : SlR w0 A 1 (a.map iRow)) (hl : a.length = n) (hn : n = n0 * n1) (hpos : ∀ x ∈ a, 0 ≤ x) {i : Nat} (hi : i < n0) {b : Bool} {R : Value → World → Prop}
    (hbad : ∀ w, b = true → R (.tuple #[.slice none 0 0, .int .i64 12]) w) (hok : ∀ w, Below w0.heap.size w0 w → b = false → F.garboardref47_From.L11 A n c ((i : Int) + 1) A0 n0 c0 A1 n1 c1 w0.heap.size w R) :
    ∀ (d k : Nat) (left : Int) (w : World), n1 - k = d → k ≤ n1 → 0 ≤ left → left ≤ 9 → Below w0.heap.size w0 w → overL left ((rowA a n1 i).drop k) = b → F.garboardref47_From.L15 A n c i left k A0 n0 c0 A1 n1 c1 w0.heap.size w R := by
  have hn0 := hc.np
  have hn1 := hc.nh
  have hrl : (rowA a n1 i).length = n1 := row_len (m := n0) (by omega) hi
  intro d
  induction d with
  | zero =>
    intro k left w hd hk h0 h9 hw hb
    rw [List.drop_eq_nil_of_le (by omega)] at hb
    exact F.garboardref47_From.L15.step _ _ _ _ _ _ _ _ _ _ _ _ _ _ _ ⟨fun h => by omega, fun _ => ⟨by simp only [inR]; omega, hok w hw hb.symm⟩⟩
  | succ d ih =>
    intro k left w hd hk h0 h9 hw hb
    have hkl : k < (rowA a n1 i).length := by omega
    have e3 : (k : Int) + 1 = ((k + 1 : Nat) : Int) := by omega
    have hle1 : i * n1 ≤ 7 * 7 := Nat.mul_le_mul (by omega) hn1
    have hidx : i * n1 + k < n := by rw [hn]; exact idx_lt (by omega) (by omega)
    have e5 : (i : Int) * (n1 : Int) = ((i * n1 : Nat) : Int) := by simp
    have e6 : ((i * n1 : Nat) : Int) + (k : Int) = ((i * n1 + k : Nat) : Int) := by simp
    rw [List.drop_eq_getElem_cons hkl, overL] at hb
    have hga : (rowA a n1 i)[k] = a[i * n1 + k]'(by omega) := by
      have e := row_get (a := a) (m := n0) (by omega) hi (show k < n1 by omega)
      rw [List.getElem?_eq_getElem hkl] at e
      rw [Option.some.inj e]
      unfold getA
      rw [List.getD_eq_getElem?_getD, List.getElem?_eq_getElem (by omega)]
      rfl
    rw [hga] at hb
    have hp := hpos _ (List.getElem_mem (l := a) (n := i * n1 + k) (by omega))
    obtain ⟨hb3, ad3, hA3, hcell3, _⟩ := (h.keep hw (Nat.le_refl _)).at_ (fun _ => rfl) hl (i := i * n1 + k) (by omega)
    refine F.garboardref47_From.L15.step _ _ _ _ _ _ _ _ _ _ _ _ _ _ _ ⟨fun _ => ?_, fun h => by omega⟩
    rw [e5, e6]
    refine ⟨by simp only [inR]; omega, by simp only [inR]; omega, hb3, ad3, hA3, _, hcell3, fun k2 => ?_, fun k2 => ⟨by simp only [inR]; omega, by simp only [inR]; omega, ?_⟩⟩
    · rw [if_pos k2] at hb
      exact hbad w hb.symm
    · rw [if_neg (by omega)] at hb
      rw [e3]
      exact ih (k + 1) _ w (by omega) (by omega) (by omega) (by omega) hw hb
theorem rfrom_L11 {a : List Int} (hc : CgIn w0 A0 n0 A1 n1 ps hs) (hcr : RightC ps hs) (h : SlR w0 A 1 (a.map iRow)) (hl : a.length = n) (hn : n = n0 * n1) (hpos : ∀ x ∈ a, 0 ≤ x) {R : Value → World → Prop}
    (hbad : ∀ w, fullA ps hs a = true → R (.tuple #[.slice none 0 0, .int .i64 12]) w) (hok : ∀ A' m c' w, fullA ps hs a = false → OwnR w w0.heap.size 35 A' m c' 3 ((stowsG (getA a n1) ps hs).map Sw.row) → R (.tuple #[.slice A' m c', .int .i64 0]) w) :
    ∀ (d i : Nat) (w : World), n0 - i = d → i ≤ n0 → Below w0.heap.size w0 w → (∀ (i' : Nat) (p : Pa), i' < i → ps[i']? = some p → overL p.units (rowA a hs.length i') = false) → F.garboardref47_From.L11 A n c i A0 n0 c0 A1 n1 c1 w0.heap.size w R := by
  have hn0 := hc.np
  have hn1 := hc.nh
  have hlp := hc.lp
  have hlh := hc.lh
  intro d
  induction d with
  | zero =>
    intro i w hd hi hw hx
    refine F.garboardref47_From.L11.step _ _ _ _ _ _ _ _ _ _ _ _ _ ⟨fun h => by omega, fun _ => ?_⟩
    refine Pure.mono (r47_stows (hc.keep hw) (h.keep hw (Nat.le_refl _)) hl hn) ?_
    rintro v w2 b2 ⟨A', m, c', rfl, ho⟩
    refine ⟨_, _, _, rfl, hok _ _ _ _ ?_ (ho.base hw.size)⟩
    unfold fullA
    rw [List.any_eq_false]
    intro j hj
    have hj := List.mem_range.1 hj
    rw [List.getElem?_eq_getElem hj]
    simp only
    rw [hx j _ (by omega) (List.getElem?_eq_getElem hj)]
    simp
  | succ d ih =>
    intro i w hd hi hw hx
    have hil : i < ps.length := by omega
    have e3 : (i : Int) + 1 = ((i + 1 : Nat) : Int) := by omega
    obtain ⟨hbp, ap, hAp, _, hcp⟩ := hc.pAt hw hil
    have hpu := (hcr.p1 _ (List.getElem_mem hil)).2.1
    refine F.garboardref47_From.L11.step _ _ _ _ _ _ _ _ _ _ _ _ _ ⟨fun _ => ⟨hbp, ap, hAp, _, hcp 1 _ rfl, ?_⟩, fun h => by omega⟩
    refine rfrom_L15 hc h hl hn hpos (by omega) (b := overL ps[i].units (rowA a n1 i)) (fun w hb => hbad w ?_) (fun w2 hw2 hb => ?_) n1 0 ps[i].units w rfl (by omega) (by omega) (by omega) hw rfl
    · unfold fullA
      rw [List.any_eq_true]
      refine ⟨i, List.mem_range.2 hil, ?_⟩
      rw [List.getElem?_eq_getElem hil, hlh]
      exact hb
    · rw [e3]
      refine ih (i + 1) w2 (by omega) (by omega) hw2 fun i' p hi' hp => ?_
      by_cases e : i' = i
      · subst e
        rw [List.getElem?_eq_getElem hil] at hp
        cases hp
        rw [hlh]
        exact hb
      · exact hx i' p (by omega) hp
theorem r47_From {a : List Int} (hc : CgIn w0 A0 n0 A1 n1 ps hs) (h : SlR w0 A 1 (a.map iRow)) (hl : a.length = n) :
    Pure Tryz.prog 32 #[.agg #[.slice A0 n0 c0, .slice A1 n1 c1], .slice A n c] w0 (StowR (fromF ps hs a) w0.heap.size) := by
  have hn0 := hc.np
  have hn1 := hc.nh
  have hlp := hc.lp
  have hlh := hc.lh
  have hle : n0 * n1 ≤ 7 * 7 := Nat.mul_le_mul hn0 hn1
  refine F.garboardref47_From.vc _ _ _ _ _ _ _ _ _ _ _ fun w1 x1 => ?_
  have hw1 := k0 x1
  refine Pure.mono (r47_Check (hc.keep hw1)) ?_
  rintro v w2 b2 rfl
  have hw2 := kP hw1 b2
  have em : (n0 : Int) * (n1 : Int) = ((n0 * n1 : Nat) : Int) := by simp
  rw [em]
  refine ⟨_, rfl, fun h0 => ?_, fun h0 => ⟨by simp only [inR]; omega, fun h1 => ?_, fun h1 => ?_⟩⟩
  · unfold fromF; rw [if_pos h0]; rfl
  · unfold fromF; rw [if_neg h0, if_pos (by rw [hlp, hlh]; omega)]; rfl
  have hlen : a.length = ps.length * hs.length := by rw [hlp, hlh]; omega
  have neg : ∀ (d i : Nat) (w : World), n - i = d → i ≤ n → Below w0.heap.size w0 w → (∀ x ∈ a.take i, 0 ≤ x) → F.garboardref47_From.L6 A n c i A0 n0 c0 A1 n1 c1 w0.heap.size w (StowR (fromF ps hs a) w0.heap.size) := by
    intro d
    induction d with
    | zero =>
      intro i w hd hi hw hx
      rw [List.take_of_length_le (by omega)] at hx
      have h2 : a.any (fun n => decide (n < 0)) = false := by
        rw [List.any_eq_false]
        intro x hxa
        have := hx x hxa
        simp
        omega
      refine F.garboardref47_From.L6.step _ _ _ _ _ _ _ _ _ _ _ _ _ ⟨fun h => by omega, fun _ => ?_⟩
      refine rfrom_L11 hc (checkC_right (Decidable.not_not.1 h0)) h hl (by omega) hx (fun w' hf => ?_) (fun A' m c' w' hf ho => ?_) n0 0 w rfl (by omega) hw (fun i' p hi' => by omega)
      · unfold fromF; rw [if_neg h0, if_neg (fun k => k hlen), if_neg (by rw [h2]; simp), if_pos hf]; rfl
      · unfold fromF; rw [if_neg h0, if_neg (fun k => k hlen), if_neg (by rw [h2]; simp), if_neg (by rw [hf]; simp), hlh]
        exact ⟨A', m, c', rfl, ho⟩
    | succ d ih =>
      intro i w hd hi hw hx
      have hil : i < a.length := by omega
      have e3 : (i : Int) + 1 = ((i + 1 : Nat) : Int) := by omega
      obtain ⟨hb, ad, hA, hcell, _⟩ := (h.keep hw (Nat.le_refl _)).at_ (fun _ => rfl) hl hil
      refine F.garboardref47_From.L6.step _ _ _ _ _ _ _ _ _ _ _ _ _ ⟨fun _ => ⟨hb, ad, hA, _, hcell, fun k => ?_, fun k => ⟨by simp only [inR]; omega, ?_⟩⟩, fun h => by omega⟩
      · unfold fromF
        rw [if_neg h0, if_neg (fun k => k hlen), if_pos (List.any_eq_true.2 ⟨_, List.getElem_mem hil, by simpa using k⟩)]
        rfl
      · rw [e3]
        refine ih (i + 1) w (by omega) (by omega) hw fun x hxm => ?_
        rw [List.take_add_one, List.getElem?_eq_getElem hil] at hxm
        rcases List.mem_append.1 hxm with hxm | hxm
        · exact hx x hxm
        · simp at hxm
          omega
  exact neg n 0 w2 rfl (by omega) hw2 (by simp)
end
end Go.Proofs.YtdnelnicnjplpaaGreatDoor.B

namespace Go.Proofs.YtdnelnicnjplpaaGreatDoor.B
open Go Go.RowKit Go.Proofs Go.Proofs.YtdnelnicnjplpaaGreatDoor.Vc

theorem amounts_upd {ps : List Pa} {hs : List Ho} {l : List Sw} (hr : RightS ps hs l) {s : Sw} (h0 : 0 ≤ s.units) {i k : Nat} (hi : pix ps s.parcel = some i) (hk : hix hs s.hold = some k) :
    (amountsF ps hs l).set (i * hs.length + k) s.units = amountsF ps hs (updS l s) := by
  obtain ⟨p, hp, ep⟩ := pix_some hi
  obtain ⟨h, hh, eh⟩ := hix_some hk
  have hkl := (List.getElem?_eq_some_iff.1 hh).1
  have hil := (List.getElem?_eq_some_iff.1 hp).1
  refine list_ext2 (by rw [List.length_set, amounts_len]) (amounts_len ps hs _) fun i' k' hi' hk' => ?_
  have e2 : ps[i']? = some ps[i'] := List.getElem?_eq_getElem hi'
  have e1 : hs[k']? = some hs[k'] := List.getElem?_eq_getElem hk'
  rw [amounts_get e2 e1, amt_upd hr.srt h0, List.getElem?_set]
  by_cases e : i * hs.length + k = i' * hs.length + k'
  · obtain ⟨rfl, rfl⟩ := idx_inj hkl hk' e
    rw [if_pos rfl, if_pos (by rw [amounts_len]; exact idx_lt hil hkl), if_pos]
    rw [e2] at hp
    rw [e1] at hh
    cases hp
    cases hh
    exact ⟨eh.symm, ep.symm⟩
  · rw [if_neg e, amounts_get e2 e1, if_neg]
    rintro ⟨q2, q1⟩
    have a1 := pair_inj (f := Pa.id) hr.c.ip hp e2 (by rw [ep, q1])
    have a2 := pair_inj (f := Ho.id) hr.c.ih hh e1 (by rw [eh, q2])
    exact e (by rw [a1, a2])
theorem amt_le {ps : List Pa} {hs : List Ho} {l : List Sw} (hr : RightS ps hs l) (h p : Int) : amtF l h p ≤ 9 := by
  rcases amt_spec l h p with ⟨e, _⟩ | ⟨x, hx, e1, e2, e3⟩
  · omega
  · have := ((hr.known x hx))
    obtain ⟨i, _, hi, _⟩ := this
    obtain ⟨q, e, hid⟩ := pix_some hi
    have hm := List.mem_of_getElem? e
    have h1 := hr.full q hm
    have h2 := units_mem hr.pos hx
    have h3 := (hr.c.p1 q hm).2.1.2
    rw [hid] at h1
    omega
theorem sum_take_le {r : List Int} (h : ∀ x ∈ r, 0 ≤ x ∧ x ≤ 9) (j : Nat) : 0 ≤ (r.take j).sum ∧ (r.take j).sum ≤ 9 * (j : Int) := by
  induction j generalizing r with
  | zero => simp
  | succ j ih =>
    cases r with
    | nil => simp; omega
    | cons a r =>
      have h1 := h a (by simp)
      have h2 := ih (r := r) fun x hx => h x (by simp [hx])
      rw [List.take_succ_cons, List.sum_cons]
      omega
theorem row_amounts {ps : List Pa} {hs : List Ho} {l : List Sw} (hr : RightS ps hs l) {i : Nat} (hi : i < ps.length) : (rowA (amountsF ps hs l) hs.length i).sum = unitsF l ps[i].id ∧ ∀ x ∈ rowA (amountsF ps hs l) hs.length i, 0 ≤ x ∧ x ≤ 9 := by
  have e2 : ps[i]? = some ps[i] := List.getElem?_eq_getElem hi
  have er : rowA (amountsF ps hs l) hs.length i = hs.map fun h' => amtF l h'.id ps[i].id := by
    refine row_holds (g := fun a => amtF l a ps[i].id) (amounts_len ps hs l) hi fun k h' e1 => ?_
    rw [getA_amounts hi (List.getElem?_eq_some_iff.1 e1).1, fA_eq e1 e2]
  rw [er]
  constructor
  · have hu := units_holds hr.c.ih ps[i].id hr.srt fun s hs' => by
      obtain ⟨_, k, _, hk⟩ := hr.known s hs'
      obtain ⟨h', e1, e⟩ := hix_some hk
      exact ⟨h', List.mem_of_getElem? e1, e⟩
    unfold holdsSum at hu
    exact hu.symm
  · intro x hx
    obtain ⟨h', _, rfl⟩ := List.mem_map.1 hx
    exact ⟨amt_nonneg hr.pos _ _, amt_le hr _ _⟩

section
variable {w0 : World} {A0 A1 A : Option Addr} {n0 c0 n1 c1 n c : Nat} {ps : List Pa} {hs : List Ho} {l : List Sw}
theorem rput_L11 (hc : CgIn w0 A0 n0 A1 n1 ps hs) (hr : RightS ps hs l) (t : Sw) (hu : -9 ≤ t.units ∧ t.units ≤ 9 ∧ t.units ≠ 0) {ip ik : Nat} (hip : pix ps t.parcel = some ip) (hik : hix hs t.hold = some ik) {A' : Option Addr} {m c' : Nat} {R : Value → World → Prop}
    (hneg : ∀ w, amtF l t.hold t.parcel + t.units < 0 → R (.tuple #[.slice none 0 0, .int .i64 11]) w)
    (hfull : ∀ w p, ¬ amtF l t.hold t.parcel + t.units < 0 → ps[ip]? = some p → p.units < unitsF l t.parcel + t.units → R (.tuple #[.slice none 0 0, .int .i64 12]) w)
    (hok : ∀ w p A m c, ¬ amtF l t.hold t.parcel + t.units < 0 → ps[ip]? = some p → ¬ p.units < unitsF l t.parcel + t.units → OwnR w w0.heap.size 35 A m c 3 ((updS l ⟨t.hold, t.parcel, amtF l t.hold t.parcel + t.units⟩).map Sw.row) → R (.tuple #[.slice A m c, .int .i64 0]) w)
    (hpl : ip < ps.length) (hput : ¬ amtF l t.hold t.parcel + t.units < 0 → ¬ ps[ip].units < unitsF l t.parcel + t.units → RightS ps hs (updS l ⟨t.hold, t.parcel, amtF l t.hold t.parcel + t.units⟩)) :
    ∀ (d k : Nat) (w : World), n1 - k = d → k ≤ n1 → Below w0.heap.size w0 w → OwnR w w0.heap.size 3 A' m c' 1 ((amountsF ps hs l).map iRow) → F.garboardref47_Put.L11 ip A' m c' ((ip * n1 + ik : Nat) : Int) (ps[ip].units - ((rowA (amountsF ps hs l) hs.length ip).take k).sum) k A0 n0 c0 A1 n1 c1 t.hold t.parcel t.units w0.heap.size w R := by
  have hn0 := hc.np
  have hn1 := hc.nh
  have hlp := hc.lp
  have hlh := hc.lh
  obtain ⟨hkl, _⟩ := hix_lt hik
  obtain ⟨_, hpid⟩ := pix_lt hip
  obtain ⟨hsum, hbnd⟩ := row_amounts hr hpl
  rw [hpid] at hsum
  have hpu := (hr.c.p1 _ (List.getElem_mem hpl)).2.1
  have hal := amounts_len ps hs l
  have hrl : (rowA (amountsF ps hs l) hs.length ip).length = n1 := by rw [row_len hal hpl, hlh]
  have hle0 : ip * n1 ≤ 7 * 7 := Nat.mul_le_mul (by omega) hn1
  have e5 : (ip : Int) * (n1 : Int) = ((ip * n1 : Nat) : Int) := by simp
  intro d
  induction d with
  | zero =>
    intro k w hd hk hw ho
    have hml : m = ps.length * hs.length := by have := ho.len; simpa [hal] using this.symm
    have hat : ip * n1 + ik < (amountsF ps hs l).length := by rw [hal, ← hlh]; exact idx_lt hpl hkl
    have hav : (amountsF ps hs l)[ip * n1 + ik] = amtF l t.hold t.parcel := by
      have e := amounts_get (l := l) (List.getElem?_eq_getElem hpl) (List.getElem?_eq_getElem hkl)
      rw [hlh, List.getElem?_eq_getElem hat] at e
      obtain ⟨_, e2⟩ := pix_lt hip
      obtain ⟨_, e3⟩ := hix_lt hik
      rw [Option.some.inj e, e2, e3]
    have h9 := amt_le hr t.hold t.parcel
    have h0 := amt_nonneg hr.pos t.hold t.parcel
    rw [List.take_of_length_le (by omega), hsum]
    obtain ⟨hb, a, hA, hcell, _⟩ := ho.sl.at_ (fun _ => rfl) (show (amountsF ps hs l).length = m by omega) hat
    rw [hav] at hcell
    refine F.garboardref47_Put.L11.step _ _ _ _ _ _ _ _ _ _ _ _ _ _ _ _ _ _ _ ⟨fun h => by omega, fun _ => ⟨hb, a, hA, _, hcell, by simp only [inR]; omega, fun k1 w2 _ => hneg w2 k1, fun k1 => ⟨fun k2 w2 _ => hfull w2 _ k1 (List.getElem?_eq_getElem hpl) (by omega), fun k2 w2 x2 => ?_⟩⟩⟩
    have hw2 := kE hw x2
    have ho2 := ho.extNil x2
    obtain ⟨_, a', hA', hcell', _⟩ := ho2.sl.at_ (fun _ => rfl) (show (amountsF ps hs l).length = m by omega) hat
    rw [hA] at hA'
    cases hA'
    rw [hav] at hcell'
    refine ⟨hb, a, hA, _, hcell', by simp only [inR]; omega, hb, a, hA, fun w3 x3 => ?_⟩
    have hw3 := kE hw2 x3
    have ho3 := ho2.extNil x3
    obtain ⟨g1, a2, hA2, cs, g2, g3, g4, g5, g6⟩ := ho3.set0 (i := ((ip * n1 + ik : Nat) : Int)) (by omega) (by omega) [.int .i64 (amtF l t.hold t.parcel + t.units)] (iRow ((amountsF ps hs l)[ip * n1 + ik])) (by rw [Int.toNat_natCast, List.getElem?_map, List.getElem?_eq_getElem hat]; rfl) rfl
    rw [hA] at hA2
    cases hA2
    refine ⟨cs, _, g2, g3, g4, g5, rfl, fun w4 hw4 => ?_⟩
    have o4 := g6 w4 hw4
    rw [Int.toNat_natCast] at o4
    have hw4' : Below w0.heap.size w0 w4 := hw3.trans (Wrote.belowR hw4 g2)
    have eu := amounts_upd hr (s := ⟨t.hold, t.parcel, amtF l t.hold t.parcel + t.units⟩) (by simp only; omega) hip hik
    simp only at eu
    rw [show (List.map iRow (amountsF ps hs l)).set (ip * n1 + ik) [.int .i64 (amtF l t.hold t.parcel + t.units)] = ((amountsF ps hs l).set (ip * n1 + ik) (amtF l t.hold t.parcel + t.units)).map iRow by rw [List.map_set], ← hlh, eu] at o4
    have hsl := o4.sl
    refine Pure.mono (r47_stows (hc.keep hw4') hsl (by rw [amounts_len, hml]) (by rw [hml, hlp, hlh])) ?_
    rintro v w5 b5 ⟨A2, m2, c2, rfl, o5⟩
    refine ⟨_, _, _, rfl, hok _ _ _ _ _ k1 (List.getElem?_eq_getElem hpl) (by omega) ?_⟩
    rw [← hlh, stows_amts (hput k1 (by omega)) fun i k hi hk => getA_amounts hi hk] at o5
    exact o5.base hw4'.size
  | succ d ih =>
    intro k w hd hk hw ho
    have hml : m = ps.length * hs.length := by have := ho.len; simpa [hal] using this.symm
    have hkr : k < (rowA (amountsF ps hs l) hs.length ip).length := by omega
    have hidx : ip * n1 + k < (amountsF ps hs l).length := by rw [hal, ← hlh]; exact idx_lt hpl (by omega)
    have e3 : (k : Int) + 1 = ((k + 1 : Nat) : Int) := by omega
    have e6 : ((ip * n1 : Nat) : Int) + (k : Int) = ((ip * n1 + k : Nat) : Int) := by simp
    have hga : (amountsF ps hs l)[ip * n1 + k] = (rowA (amountsF ps hs l) hs.length ip)[k] := by
      have e := row_get (a := amountsF ps hs l) hal hpl (show k < hs.length by omega)
      rw [List.getElem?_eq_getElem hkr] at e
      rw [Option.some.inj e]
      unfold getA
      rw [List.getD_eq_getElem?_getD, hlh, List.getElem?_eq_getElem hidx]
      rfl
    have hx := hbnd _ (List.getElem_mem hkr)
    have hs1 := sum_take_le hbnd k
    have hs2 : ((rowA (amountsF ps hs l) hs.length ip).take (k + 1)).sum = ((rowA (amountsF ps hs l) hs.length ip).take k).sum + (rowA (amountsF ps hs l) hs.length ip)[k] := by
      rw [List.take_add_one, List.getElem?_eq_getElem hkr, List.sum_append]
      simp
    obtain ⟨hb, a, hA, hcell, _⟩ := ho.sl.at_ (fun _ => rfl) (show (amountsF ps hs l).length = m by omega) hidx
    rw [hga] at hcell
    refine F.garboardref47_Put.L11.step _ _ _ _ _ _ _ _ _ _ _ _ _ _ _ _ _ _ _ ⟨fun _ => ?_, fun h => by omega⟩
    rw [e5, e6]
    refine ⟨by simp only [inR]; omega, by simp only [inR]; omega, hb, a, hA, _, hcell, by simp only [inR]; omega, by simp only [inR]; omega, ?_⟩
    rw [e3, Int.sub_sub, ← hs2]
    exact ih (k + 1) w (by omega) (by omega) hw ho
theorem r47_Put (hc : CgIn w0 A0 n0 A1 n1 ps hs) (h : SlR w0 A 3 (l.map Sw.row)) (hl : l.length = n) (hn : n < 2147483648) (t : Sw) :
    Pure Tryz.prog 26 #[.agg #[.slice A0 n0 c0, .slice A1 n1 c1], .slice A n c, t.val] w0 (StowR (putF ps hs l t) w0.heap.size) := by
  have hn0 := hc.np
  have hn1 := hc.nh
  have hlp := hc.lp
  have hlh := hc.lh
  refine F.garboardref47_Put.vc _ _ _ _ _ _ _ _ _ _ _ _ _ _ fun w1 x1 => ?_
  have hw := k0 x1
  refine Pure.mono (r47_Stowed (hc.keep hw) (h.keep hw (Nat.le_refl _)) hl hn) ?_
  rintro v w4 b4 rfl
  have hw := kP hw b4
  by_cases h0 : stowedF ps hs l ≠ 0
  · refine ⟨_, rfl, fun _ => by unfold putF; rw [if_pos h0]; rfl, fun k => absurd h0 k⟩
  have hz := Decidable.not_not.1 h0
  have hr := stowed_right hz
  refine ⟨_, rfl, fun k => absurd k h0, fun _ w5 x5 => ?_⟩
  have hw := kE hw x5
  refine Pure.mono (r47_Parcel (hc.keep hw) t.parcel) ?_
  rintro v w7 b7 rfl
  have hw := kP hw b7
  refine ⟨_, rfl, Pure.mono (r47_Hold (hc.keep hw) t.hold) ?_⟩
  rintro v w10 b10 rfl
  have hw := kP hw b10
  refine ⟨_, rfl, fun h1 => by unfold putF; rw [if_neg h0, ixI_neg.1 h1]; rfl, fun h1 => ⟨fun h2 => ?_, fun h2 => ?_⟩⟩
  · unfold putF
    rw [if_neg h0, ixI_neg.1 h2]
    cases pix ps t.parcel <;> rfl
  cases hip : pix ps t.parcel with
  | none => exact absurd (ixI_neg.2 hip) h1
  | some ip =>
  cases hih : hix hs t.hold with
  | none => exact absurd (ixI_neg.2 hih) h2
  | some ik =>
  have put0 : putF ps hs l t = if t.units = 0 ∨ t.units < -9 ∨ 9 < t.units then .error 2
      else if amtF l t.hold t.parcel + t.units < 0 then .error 11
      else match ps[ip]? with
        | some p => if p.units < unitsF l t.parcel + t.units then .error 12 else .ok (updS l ⟨t.hold, t.parcel, amtF l t.hold t.parcel + t.units⟩)
        | none => .error 0 := by
    unfold putF
    rw [if_neg h0]
    simp only [hip, hih]
    rfl
  refine ⟨fun h3 => by rw [put0, if_pos (.inl h3)]; rfl, fun h3 => ⟨fun h4 => by rw [put0, if_pos (.inr (.inl h4))]; rfl, fun h4 => ⟨fun h5 => by rw [put0, if_pos (.inr (.inr (by omega)))]; rfl, fun h5 => ?_⟩⟩⟩
  rw [if_neg (by omega)] at put0
  obtain ⟨hpl, hpid⟩ := pix_lt hip
  obtain ⟨hkl, hkid⟩ := hix_lt hih
  refine Pure.mono (r47_amounts (hc.keep hw) (h.keep hw (Nat.le_refl _)) hl hn) ?_
  rintro v w14 b14 ⟨A', m, c', rfl, ho⟩
  have hB := hw.size
  have hw := kP hw b14
  obtain ⟨hbp, ap, hAp, _, hcp⟩ := hc.pAt hw hpl
  have hle0 : ip * n1 ≤ 7 * 7 := Nat.mul_le_mul (by omega) hn1
  have e5 : (ip : Int) * (n1 : Int) = ((ip * n1 : Nat) : Int) := by simp
  have e6 : ((ip * n1 : Nat) : Int) + (ik : Int) = ((ip * n1 + ik : Nat) : Int) := by simp
  show ∃ _ _ _, _
  refine ⟨_, _, _, rfl, ?_⟩
  simp only [ixI]
  rw [e5, e6]
  refine ⟨by simp only [inR]; omega, by simp only [inR]; omega, hbp, ap, hAp, _, hcp 1 _ rfl, fun w17 x17 => ?_⟩
  have := rput_L11 (c0 := c0) (c1 := c1) (A' := A') (m := m) (c' := c') hc hr t ⟨by omega, by omega, h3⟩ hip hih (R := StowR (putF ps hs l t) w0.heap.size)
    (fun w2 k => by rw [put0, if_pos k]; rfl) (fun w2 p k e k2 => by rw [put0, if_neg k, e]; simp only; rw [if_pos k2]; rfl)
    (fun w2 p A m c k e k2 ho => by rw [put0, if_neg k, e]; simp only; rw [if_neg k2]; exact ⟨A, m, c, rfl, ho⟩) hpl
    (fun k k2 => put_right (w := t) (put_ok (by rw [put0, if_neg k, List.getElem?_eq_getElem hpl]; simp only; rw [if_neg k2])))
    n1 0 w17 rfl (by omega) (kE hw x17) ((ho.base hB).extNil x17)
  simpa using this
end
end Go.Proofs.YtdnelnicnjplpaaGreatDoor.B

set_option maxRecDepth 100000
set_option maxHeartbeats 4000000
namespace Go.Proofs.YtdnelnicnjplpaaGreatDoor.F
open Go Go.RowKit Go.Proofs Go.Proofs.YtdnelnicnjplpaaGreatDoor.Vc
noncomputable def garboardlaw47_CargoChecks.cx (w : World) (B : Nat) (R : Value → World → Prop) : Cx := ⟨Tryz.prog, 3, 32, Tryz.f3.results.toList, [], [], w, B, R⟩
theorem garboardlaw47_CargoChecks.vc (a : Option Addr) (b c : Nat) (d : Option Addr) (e f : Nat) (i : Option Addr) (g j : Nat) (w : World) (R : Value → World → Prop)
    (h : (∀ q, Ext w.heap.size [] w q → (Pure Tryz.prog 11 #[] q fun O r => ∃ l, O = .bool l ∧ (((l = false) → (R (.bool false) r)) ∧ (¬ (l = false) → (Pure Tryz.prog 12 #[.agg #[.slice a b c, .slice d e f]] r fun Q m => ∃ n, Q = .bool n ∧ (((n = false) → (R (.bool true) m)) ∧ (¬ (n = false) → ((((g : Int) > 40) → (R (.bool true) m)) ∧ (¬ ((g : Int) > 40) → (∀ s, Ext w.heap.size [] m s → (Pure Tryz.prog 14 #[.agg #[.slice a b c, .slice d e f]] s fun S T => ∃ t u v x y z, S = .agg #[.slice t u v, .slice x y z] ∧ (Pure Tryz.prog 13 #[.agg #[.slice t u v, .slice x y z]] T fun U V => ∃ o, U = .int .i64 o ∧ (Pure Tryz.prog 15 #[.agg #[.slice a b c, .slice d e f]] V fun X A => ∃ p, X = .int .i64 p ∧ (((o = p) → (Pure Tryz.prog 14 #[.agg #[.slice a b c, .slice d e f]] A fun Y Z => ∃ C D E G H I, Y = .agg #[.slice C D E, .slice G H I] ∧ (Pure Tryz.prog 17 #[.slice i g j] Z fun a0 a1 => ∃ J K L, a0 = .slice J K L ∧ (Pure Tryz.prog 16 #[.agg #[.slice C D E, .slice G H I], .slice J K L] a1 fun a2 a3 => ∃ M, a2 = .int .i64 M ∧ (Pure Tryz.prog 18 #[.agg #[.slice a b c, .slice d e f], .slice i g j] a3 fun a4 a5 => ∃ N, a4 = .int .i64 N ∧ (R (.bool (decide (M = N))) a5)))))) ∧ (¬ (o = p) → (R (.bool false) A))))))))))))))))) :
    Pure Tryz.prog 3 #[.agg #[.slice a b c, .slice d e f], .slice i g j] w R :=
  pure_of_run (garboardlaw47_CargoChecks.cx w w.heap.size R) 100000 follows Tryz.func3 rfl rfl rfl rfl rfl rfl rfl (Eq.mp (by kernel_rfl) h)

noncomputable def garboardlaw47_CargoPuts.cx (w : World) (B : Nat) (R : Value → World → Prop) : Cx := ⟨Tryz.prog, 5, 45, Tryz.f5.results.toList, [], [], w, B, R⟩
theorem garboardlaw47_CargoPuts.vc (b : Option Addr) (c d : Nat) (e : Option Addr) (f g : Nat) (i : Option Addr) (a j : Nat) (l m n : Int) (w : World) (R : Value → World → Prop)
    (h : (∀ s, Ext w.heap.size [] w s → (Pure Tryz.prog 11 #[] s fun S t => ∃ o, S = .bool o ∧ (((o = false) → (R (.bool false) t)) ∧ (¬ (o = false) → (Pure Tryz.prog 12 #[.agg #[.slice b c d, .slice e f g]] t fun T p => ∃ q, T = .bool q ∧ (((q = false) → (R (.bool true) p)) ∧ (¬ (q = false) → ((((a : Int) > 40) → (R (.bool true) p)) ∧ (¬ ((a : Int) > 40) → (∀ u, Ext w.heap.size [] p u → (Pure Tryz.prog 14 #[.agg #[.slice b c d, .slice e f g]] u fun U V => ∃ v x y z A C, U = .agg #[.slice v x y, .slice z A C] ∧ (Pure Tryz.prog 17 #[.slice i a j] V fun X Y => ∃ D E G, X = .slice D E G ∧ (Pure Tryz.prog 25 #[.agg #[.slice v x y, .slice z A C], .slice D E G, .agg #[.int .i64 l, .int .i64 m, .int .i64 n]] Y fun Z a0 => ∃ H I J K, Z = .tuple #[.slice H I J, .int .i64 K] ∧ (Pure Tryz.prog 26 #[.agg #[.slice b c d, .slice e f g], .slice i a j, .agg #[.int .i64 l, .int .i64 m, .int .i64 n]] a0 fun a1 a2 => ∃ L M N O, a1 = .tuple #[.slice L M N, .int .i64 O] ∧ (Pure Tryz.prog 27 #[.slice H I J, .slice L M N] a2 fun a3 Q => ∃ r, a3 = .bool r ∧ ((r = true → (R (.bool (decide (K = O))) Q)) ∧ (r = false → (R (.bool false) Q))))))))))))))))))) :
    Pure Tryz.prog 5 #[.agg #[.slice b c d, .slice e f g], .slice i a j, .agg #[.int .i64 l, .int .i64 m, .int .i64 n]] w R :=
  pure_of_run (garboardlaw47_CargoPuts.cx w w.heap.size R) 100000 follows Tryz.func5 rfl rfl rfl rfl rfl rfl rfl (Eq.mp (by kernel_rfl) h)

noncomputable def garboardlaw47_CargoAmounts.cx (w : World) (B : Nat) (R : Value → World → Prop) : Cx := ⟨Tryz.prog, 6, 76, Tryz.f6.results.toList, [], [], w, B, R⟩
theorem garboardlaw47_CargoAmounts.vc (a : Option Addr) (b c : Nat) (d : Option Addr) (e f : Nat) (l : Option Addr) (g m : Nat) (n : Option Addr) (i o : Nat) (w : World) (R : Value → World → Prop)
    (h : (∀ x, Ext w.heap.size [] w x → (Pure Tryz.prog 11 #[] x fun r3 y => ∃ p, r3 = .bool p ∧ (((p = false) → (R (.bool false) y)) ∧ (¬ (p = false) → (Pure Tryz.prog 12 #[.agg #[.slice a b c, .slice d e f]] y fun r6 j => ∃ q, r6 = .bool q ∧ (((q = false) → (R (.bool true) j)) ∧ (¬ (q = false) → ((((g : Int) > 40) → (R (.bool true) j)) ∧ (¬ ((g : Int) > 40) → ((((i : Int) > 50) → (R (.bool true) j)) ∧ (¬ ((i : Int) > 50) → (Pure Tryz.prog 14 #[.agg #[.slice a b c, .slice d e f]] j fun b3 b4 => ∃ z A C D E G, b3 = .agg #[.slice z A C, .slice D E G] ∧ (Pure Tryz.prog 17 #[.slice l g m] b4 fun b5 b6 => ∃ H I J, b5 = .slice H I J ∧ (Pure Tryz.prog 28 #[.agg #[.slice z A C, .slice D E G], .slice H I J] b6 fun b7 b8 => ∃ K L M r, b7 = .tuple #[.slice K L M, .int .i64 r] ∧ (Pure Tryz.prog 29 #[.agg #[.slice a b c, .slice d e f], .slice l g m] b8 fun b9 c0 => ∃ N O Q s, b9 = .tuple #[.slice N O Q, .int .i64 s] ∧ (Pure Tryz.prog 14 #[.agg #[.slice a b c, .slice d e f]] c0 fun c1 c2 => ∃ S T U V X Y, c1 = .agg #[.slice S T U, .slice V X Y] ∧ (Pure Tryz.prog 31 #[.slice n i o] c2 fun c3 c4 => ∃ Z a0 a1, c3 = .slice Z a0 a1 ∧ (Pure Tryz.prog 30 #[.agg #[.slice S T U, .slice V X Y], .slice Z a0 a1] c4 fun c5 c6 => ∃ a2 a3 a4 a5, c5 = .tuple #[.slice a2 a3 a4, .int .i64 a5] ∧ (Pure Tryz.prog 32 #[.agg #[.slice a b c, .slice d e f], .slice n i o] c6 fun c7 c8 => ∃ a6 a7 a8 a9, c7 = .tuple #[.slice a6 a7 a8, .int .i64 a9] ∧ (Pure Tryz.prog 33 #[.slice K L M, .slice N O Q] c8 fun c9 t => ∃ u, c9 = .bool u ∧ ((u = true → (((r = s) → (Pure Tryz.prog 27 #[.slice a2 a3 a4, .slice a6 a7 a8] t fun d0 b0 => ∃ v, d0 = .bool v ∧ ((v = true → (R (.bool (decide (a5 = a9))) b0)) ∧ (v = false → (R (.bool false) b0))))) ∧ (¬ (r = s) → (R (.bool false) t)))) ∧ (u = false → (R (.bool false) t)))))))))))))))))))))))) :
    Pure Tryz.prog 6 #[.agg #[.slice a b c, .slice d e f], .slice l g m, .slice n i o] w R :=
  pure_of_run (garboardlaw47_CargoAmounts.cx w w.heap.size R) 100000 follows Tryz.func6 rfl rfl rfl rfl rfl rfl rfl (Eq.mp (by kernel_rfl) h)

noncomputable def garboardlaw47_CargoUndone.cx (w : World) (B : Nat) (R : Value → World → Prop) : Cx := ⟨Tryz.prog, 8, 62, Tryz.f8.results.toList, [], [], w, B, R⟩
theorem garboardlaw47_CargoUndone.vc (a : Option Addr) (b c : Nat) (d : Option Addr) (e f : Nat) (l : Option Addr) (g m : Nat) (n o i : Int) (w : World) (R : Value → World → Prop)
    (h : (∀ y, Ext w.heap.size [] w y → (Pure Tryz.prog 11 #[] y fun r3 z => ∃ p, r3 = .bool p ∧ (((p = false) → (R (.bool false) z)) ∧ (¬ (p = false) → (Pure Tryz.prog 12 #[.agg #[.slice a b c, .slice d e f]] z fun r6 q => ∃ r, r6 = .bool r ∧ (((r = false) → (R (.bool true) q)) ∧ (¬ (r = false) → ((((g : Int) > 40) → (R (.bool true) q)) ∧ (¬ ((g : Int) > 40) → (∀ A, Ext w.heap.size [] q A → (Pure Tryz.prog 14 #[.agg #[.slice a b c, .slice d e f]] A fun b4 b5 => ∃ C D E G H I, b4 = .agg #[.slice C D E, .slice G H I] ∧ (Pure Tryz.prog 17 #[.slice l g m] b5 fun b6 b7 => ∃ J K L, b6 = .slice J K L ∧ (Pure Tryz.prog 25 #[.agg #[.slice C D E, .slice G H I], .slice J K L, .agg #[.int .i64 n, .int .i64 o, .int .i64 i]] b7 fun b8 M => ∃ s j t u, b8 = .tuple #[.slice s j t, .int .i64 u] ∧ (((u ≠ 0) → (R (.bool (decide ((j : Int) = 0))) M)) ∧ (¬ (u ≠ 0) → (inR .i64 (-i) ∧ (∀ N, Ext w.heap.size [48] M N → (Pure Tryz.prog 14 #[.agg #[.slice a b c, .slice d e f]] N fun b9 c0 => ∃ O Q S T U V, b9 = .agg #[.slice O Q S, .slice T U V] ∧ (Pure Tryz.prog 17 #[.slice s j t] c0 fun c1 c2 => ∃ X Y Z, c1 = .slice X Y Z ∧ (Pure Tryz.prog 25 #[.agg #[.slice O Q S, .slice T U V], .slice X Y Z, (.agg #[.int .i64 n, .int .i64 o, (.int .i64 (-i))])] c2 fun c3 a0 => ∃ a1 a2 a3 v, c3 = .tuple #[.slice a1 a2 a3, .int .i64 v] ∧ (((v = 0) → (Pure Tryz.prog 27 #[.slice a1 a2 a3, .slice l g m] a0 fun c4 a4 => ∃ x, c4 = .bool x ∧ ((x = true → (Pure Tryz.prog 14 #[.agg #[.slice a b c, .slice d e f]] a4 fun c5 c6 => ∃ a5 a6 a7 a8 a9 b0, c5 = .agg #[.slice a5 a6 a7, .slice a8 a9 b0] ∧ (Pure Tryz.prog 16 #[.agg #[.slice a5 a6 a7, .slice a8 a9 b0], .slice s j t] c6 fun c7 c8 => ∃ b1, c7 = .int .i64 b1 ∧ (R (.bool (decide (b1 = 0))) c8)))) ∧ (x = false → (R (.bool false) a4))))) ∧ (¬ (v = 0) → (R (.bool false) a0)))))))))))))))))))))))) :
    Pure Tryz.prog 8 #[.agg #[.slice a b c, .slice d e f], .slice l g m, .agg #[.int .i64 n, .int .i64 o, .int .i64 i]] w R :=
  pure_of_run (garboardlaw47_CargoUndone.cx w w.heap.size R) 100000 follows Tryz.func8 rfl rfl rfl rfl rfl rfl rfl (Eq.mp (by kernel_rfl) h)

def garboardlaw47_CargoBoth.J10 (a : Option Addr) (b c : Nat) (d : Option Addr) (e f : Nat) (g : Option Addr) (i j B : Nat) (w : World) (R : Value → World → Prop) : Prop := At Tryz.prog 9 83 (regionAt Tryz.f9 10) [(2, .v (.slice a b c)), (3, .loc 3 0)] [⟨3, false, 25, [(.slice d e f), (.slice g i j)]⟩] B w R
noncomputable def garboardlaw47_CargoBoth.cx (w : World) (B : Nat) (R : Value → World → Prop) : Cx := ⟨Tryz.prog, 9, 83, Tryz.f9.results.toList, [((false, 10), [2, 3], [3])], [], w, B, R⟩
theorem garboardlaw47_CargoBoth.J10.step (a : Option Addr) (b c : Nat) (d : Option Addr) (e f : Nat) (g : Option Addr) (i j B : Nat) (w : World) (R : Value → World → Prop)
    (h : (Pure Tryz.prog 14 #[.agg #[.slice d e f, .slice g i j]] w fun T U => ∃ o p q r s t, T = .agg #[.slice o p q, .slice r s t] ∧ (Pure Tryz.prog 31 #[.slice a b c] U fun V X => ∃ u v x, V = .slice u v x ∧ (Pure Tryz.prog 30 #[.agg #[.slice o p q, .slice r s t], .slice u v x] X fun Y y => ∃ z l A m, Y = .tuple #[.slice z l A, .int .i64 m] ∧ (((m ≠ 0) → (R (.bool (decide ((l : Int) = 0))) y)) ∧ (¬ (m ≠ 0) → (Pure Tryz.prog 14 #[.agg #[.slice d e f, .slice g i j]] y fun Z a0 => ∃ C D E G H I, Z = .agg #[.slice C D E, .slice G H I] ∧ (Pure Tryz.prog 17 #[.slice z l A] a0 fun a1 a2 => ∃ J K L, a1 = .slice J K L ∧ (Pure Tryz.prog 28 #[.agg #[.slice C D E, .slice G H I], .slice J K L] a2 fun a3 M => ∃ N O Q n, a3 = .tuple #[.slice N O Q, .int .i64 n] ∧ (((n = 0) → (Pure Tryz.prog 33 #[.slice N O Q, .slice a b c] M fun a4 a5 => ∃ S, a4 = .bool S ∧ (R (.bool S) a5))) ∧ (¬ (n = 0) → (R (.bool false) M)))))))))))) :
    garboardlaw47_CargoBoth.J10 a b c d e f g i j B w R :=
  join_of_run (garboardlaw47_CargoBoth.cx w B R) 100000 (regionAt Tryz.f9 10) _ _ follows Tryz.func9 rfl rfl rfl (Eq.mp (by kernel_rfl) h)
theorem garboardlaw47_CargoBoth.vc (a : Option Addr) (b c : Nat) (d : Option Addr) (e f : Nat) (l : Option Addr) (g m : Nat) (n : Option Addr) (i o : Nat) (w : World) (R : Value → World → Prop)
    (h : (∀ u, Ext w.heap.size [] w u → (Pure Tryz.prog 11 #[] u fun r3 v => ∃ p, r3 = .bool p ∧ (((p = false) → (R (.bool false) v)) ∧ (¬ (p = false) → (Pure Tryz.prog 12 #[.agg #[.slice a b c, .slice d e f]] v fun r6 j => ∃ q, r6 = .bool q ∧ (((q = false) → (R (.bool true) j)) ∧ (¬ (q = false) → ((((g : Int) > 40) → (R (.bool true) j)) ∧ (¬ ((g : Int) > 40) → ((((i : Int) > 50) → (R (.bool true) j)) ∧ (¬ ((i : Int) > 50) → (Pure Tryz.prog 14 #[.agg #[.slice a b c, .slice d e f]] j fun a2 a3 => ∃ x y z A C D, a2 = .agg #[.slice x y z, .slice A C D] ∧ (Pure Tryz.prog 17 #[.slice l g m] a3 fun a4 a5 => ∃ E G H, a4 = .slice E G H ∧ (Pure Tryz.prog 28 #[.agg #[.slice x y z, .slice A C D], .slice E G H] a5 fun a6 I => ∃ J K L r, a6 = .tuple #[.slice J K L, .int .i64 r] ∧ (((r = 0) → (Pure Tryz.prog 14 #[.agg #[.slice a b c, .slice d e f]] I fun a7 a8 => ∃ M N O Q S T, a7 = .agg #[.slice M N O, .slice Q S T] ∧ (Pure Tryz.prog 30 #[.agg #[.slice M N O, .slice Q S T], .slice J K L] a8 fun a9 U => ∃ V X Y s, a9 = .tuple #[.slice V X Y, .int .i64 s] ∧ (((s ≠ 0) → (R (.bool false) U)) ∧ (¬ (s ≠ 0) → (Pure Tryz.prog 27 #[.slice V X Y, .slice l g m] U fun b0 Z => ∃ t, b0 = .bool t ∧ (((t = false) → (R (.bool false) Z)) ∧ (¬ (t = false) → (garboardlaw47_CargoBoth.J10 n i o a b c d e f w.heap.size Z R))))))))) ∧ (¬ (r = 0) → (garboardlaw47_CargoBoth.J10 n i o a b c d e f w.heap.size I R)))))))))))))))))) :
    Pure Tryz.prog 9 #[.agg #[.slice a b c, .slice d e f], .slice l g m, .slice n i o] w R :=
  pure_of_run (garboardlaw47_CargoBoth.cx w w.heap.size R) 100000 follows Tryz.func9 rfl rfl rfl rfl rfl rfl rfl (Eq.mp (by kernel_rfl) h)

noncomputable def garboardlaw47_awake.cx (w : World) (B : Nat) (R : Value → World → Prop) : Cx := ⟨Tryz.prog, 11, 119, Tryz.f11.results.toList, [], [(1, 2, 2), (4, 2, 2), (6, 1, 2), (8, 30, 2)], w, B, R⟩
theorem garboardlaw47_awake.vc  (w : World) (R : Value → World → Prop)
    (h : (RunOk Tryz.prog (Instr.buildSlice 26 2 #[(0, (.agg #[.int .i64 1, .int .i64 1, .int .i64 2])), (1, (.agg #[.int .i64 2, .int .i64 2, .int .i64 1]))]) w.heap.size [] w fun r2 w3 => ∃ b d a, r2 = .slice b d a ∧ (Pure Tryz.prog 41 #[] w3 fun r6 w7 => ∃ C D E G H I, r6 = .agg #[.slice C D E, .slice G H I] ∧ (Pure Tryz.prog 21 #[.agg #[.slice C D E, .slice G H I], .slice b d a] w7 fun g3 g4 => ∃ e f g i j l m, g3 = .tuple #[.agg #[.string e, .string f, .string g, .string i, .string j, .string l], .int .i64 m] ∧ (∀ J, Ext w.heap.size [] g4 J → (Pure Tryz.prog 41 #[] J fun g5 g6 => ∃ K L M N O Q, g5 = .agg #[.slice K L M, .slice N O Q] ∧ (Pure Tryz.prog 28 #[.agg #[.slice K L M, .slice N O Q], .slice b d a] g6 fun g7 g8 => ∃ S T U n, g7 = .tuple #[.slice S T U, .int .i64 n] ∧ (Pure Tryz.prog 41 #[] g8 fun g9 j0 => ∃ V X Y Z a0 a1, g9 = .agg #[.slice V X Y, .slice Z a0 a1] ∧ (RunOk Tryz.prog (Instr.buildSlice 26 1 #[(0, (.agg #[.int .i64 2, .int .i64 1, .int .i64 3]))]) w.heap.size [41] j0 fun j1 j2 => ∃ a2 a3 a4, j1 = .slice a2 a3 a4 ∧ (Pure Tryz.prog 23 #[.agg #[.slice V X Y, .slice Z a0 a1], .slice a2 a3 a4] j2 fun j3 j4 => ∃ o p, j3 = .tuple #[.int .i64 o, .int .i64 p] ∧ ((0 ≤ (1 : Int) ∧ (1 : Int) ≤ (a : Int)) ∧ (∀ a5, Ext w.heap.size [] j4 a5 → (Pure Tryz.prog 41 #[] a5 fun j5 j6 => ∃ a6 a7 a8 a9 b0 b1, j5 = .agg #[.slice a6 a7 a8, .slice a9 b0 b1] ∧ (Pure Tryz.prog 25 #[.agg #[.slice a6 a7 a8, .slice a9 b0 b1], (.slice b (((1 : Int)).toNat) a), .agg #[.int .i64 2, .int .i64 2, .int .i64 1]] j6 fun j7 j8 => ∃ b2 b3 b4 q, j7 = .tuple #[.slice b2 b3 b4, .int .i64 q] ∧ (Pure Tryz.prog 41 #[] j8 fun j9 l0 => ∃ b5 b6 b7 b8 b9 c0, j9 = .agg #[.slice b5 b6 b7, .slice b8 b9 c0] ∧ (RunOk Tryz.prog (Instr.buildSlice 53 4 #[(0, (.int .i64 2)), (1, (.int .i64 0)), (2, (.int .i64 0)), (3, (.int .i64 1))]) w.heap.size [41] l0 fun l1 l2 => ∃ c1 c2 c3, l1 = .slice c1 c2 c3 ∧ (Pure Tryz.prog 30 #[.agg #[.slice b5 b6 b7, .slice b8 b9 c0], .slice c1 c2 c3] l2 fun l3 l4 => ∃ c4 c5 c6 r, l3 = .tuple #[.slice c4 c5 c6, .int .i64 r] ∧ (Pure Tryz.prog 41 #[] l4 fun l5 l6 => ∃ c7 c8 c9 d0 d1 d2, l5 = .agg #[.slice c7 c8 c9, .slice d0 d1 d2] ∧ (Pure Tryz.prog 19 #[.agg #[.slice c7 c8 c9, .slice d0 d1 d2], .slice b d a, .int .i64 1] l6 fun l7 c => ∃ s l8 l9 m0 m1 m2 t, l7 = .tuple #[.agg #[.string s, .string l8, .string l9, .string m0, .string m1, .string m2], .int .i64 t] ∧ (((m = 0) → (((n = 0) → (((p = 0) → (((q = 0) → (((r = 0) → (((t = 0) → (((e = (⟨#[57, 47, 50]⟩ : ByteArray) ∧ f = (⟨#[54]⟩ : ByteArray) ∧ g = (⟨#[49, 49]⟩ : ByteArray) ∧ i = (⟨#[55, 53, 47, 50]⟩ : ByteArray) ∧ j = (⟨#[48]⟩ : ByteArray) ∧ l = (⟨#[57, 47, 50]⟩ : ByteArray) ∧ True) → (∀ d3, Ext w.heap.size [] c d3 → (RunOk Tryz.prog (Instr.buildSlice 53 4 #[(0, (.int .i64 2)), (1, (.int .i64 0)), (2, (.int .i64 0)), (3, (.int .i64 1))]) w.heap.size [41, 41] d3 fun m3 m4 => ∃ d4 d5 d6, m3 = .slice d4 d5 d6 ∧ (Pure Tryz.prog 33 #[.slice S T U, .slice d4 d5 d6] m4 fun m5 u => ∃ v, m5 = .bool v ∧ ((v = true → (((o = 1) → (Pure Tryz.prog 27 #[.slice b2 b3 b4, .slice b d a] u fun m6 d7 => ∃ x, m6 = .bool x ∧ ((x = true → (Pure Tryz.prog 27 #[.slice c4 c5 c6, .slice b d a] d7 fun m7 y => ∃ z, m7 = .bool z ∧ ((z = true → (((s = (⟨#[52]⟩ : ByteArray)) → (Pure Tryz.prog 41 #[] y fun m8 m9 => ∃ d8 d9 e0 e1 e2 e3, m8 = .agg #[.slice d8 d9 e0, .slice e1 e2 e3] ∧ (Pure Tryz.prog 13 #[.agg #[.slice d8 d9 e0, .slice e1 e2 e3]] m9 fun n0 e4 => ∃ A, n0 = .int .i64 A ∧ (((A = 0) → (Pure Tryz.prog 41 #[] e4 fun n1 n2 => ∃ e5 e6 e7 e8 e9 f0, n1 = .agg #[.slice e5 e6 e7, .slice e8 e9 f0] ∧ (Pure Tryz.prog 16 #[.agg #[.slice e5 e6 e7, .slice e8 e9 f0], .slice b d a] n2 fun n3 n4 => ∃ f1, n3 = .int .i64 f1 ∧ (R (.bool (decide (f1 = 0))) n4)))) ∧ (¬ (A = 0) → (R (.bool false) e4)))))) ∧ (¬ (s = (⟨#[52]⟩ : ByteArray)) → (R (.bool false) y)))) ∧ (z = false → (R (.bool false) y))))) ∧ (x = false → (R (.bool false) d7))))) ∧ (¬ (o = 1) → (R (.bool false) u)))) ∧ (v = false → (R (.bool false) u))))))) ∧ (¬ (e = (⟨#[57, 47, 50]⟩ : ByteArray) ∧ f = (⟨#[54]⟩ : ByteArray) ∧ g = (⟨#[49, 49]⟩ : ByteArray) ∧ i = (⟨#[55, 53, 47, 50]⟩ : ByteArray) ∧ j = (⟨#[48]⟩ : ByteArray) ∧ l = (⟨#[57, 47, 50]⟩ : ByteArray) ∧ True) → (∀ f2, Ext w.heap.size [] c f2 → (R (.bool false) f2))))) ∧ (¬ (t = 0) → (∀ f3, Ext w.heap.size [] c f3 → (R (.bool false) f3))))) ∧ (¬ (r = 0) → (∀ f4, Ext w.heap.size [] c f4 → (R (.bool false) f4))))) ∧ (¬ (q = 0) → (∀ f5, Ext w.heap.size [] c f5 → (R (.bool false) f5))))) ∧ (¬ (p = 0) → (∀ f6, Ext w.heap.size [] c f6 → (R (.bool false) f6))))) ∧ (¬ (n = 0) → (∀ f7, Ext w.heap.size [] c f7 → (R (.bool false) f7))))) ∧ (¬ (m = 0) → (∀ f8, Ext w.heap.size [] c f8 → (R (.bool false) f8))))))))))))))))))))))) :
    Pure Tryz.prog 11 #[] w R :=
  pure_of_run (garboardlaw47_awake.cx w w.heap.size R) 100000 follows Tryz.func11 rfl rfl rfl rfl rfl rfl rfl (Eq.mp (by kernel_rfl) h)

noncomputable def garboardlaw47_Two.cx (w : World) (B : Nat) (R : Value → World → Prop) : Cx := ⟨Tryz.prog, 41, 10, Tryz.f41.results.toList, [], [(1, 2, 2), (1, 7, 2)], w, B, R⟩
theorem garboardlaw47_Two.vc  (w : World) (R : Value → World → Prop)
    (h : (∀ a, Ext w.heap.size [] w a → (RunOk Tryz.prog (Instr.buildSlice 22 2 #[(0, (.agg #[.int .i64 1, .int .i64 3, .int .i64 1, (.string ⟨#[97]⟩), (.string ⟨#[50]⟩), (.string ⟨#[49]⟩), (.string ⟨#[53]⟩)])), (1, (.agg #[.int .i64 2, .int .i64 1, .int .i64 2, (.string ⟨#[98]⟩), (.string ⟨#[49, 47, 50]⟩), (.string ⟨#[52]⟩), (.string ⟨#[49]⟩)]))]) w.heap.size [25] a fun j l => ∃ b c d, j = .slice b c d ∧ (RunOk Tryz.prog (Instr.buildSlice 23 2 #[(0, (.agg #[.int .i64 1, (.string ⟨#[65]⟩), (.string ⟨#[52]⟩), (.string ⟨#[55]⟩), (.string ⟨#[49, 48]⟩), (.string ⟨#[48]⟩), (.string ⟨#[49]⟩)])), (1, (.agg #[.int .i64 2, (.string ⟨#[66]⟩), (.string ⟨#[57]⟩), (.string ⟨#[51]⟩), (.string ⟨#[45, 53]⟩), (.string ⟨#[48]⟩), (.string ⟨#[49]⟩)]))]) w.heap.size [25] l fun m n => ∃ e f g, m = .slice e f g ∧ (∀ i, Ext w.heap.size [25] n i → (R (.agg #[.slice b c d, .slice e f g]) i)))))) :
    Pure Tryz.prog 41 #[] w R :=
  pure_of_run (garboardlaw47_Two.cx w w.heap.size R) 100000 follows Tryz.func41 rfl rfl rfl rfl rfl rfl rfl (Eq.mp (by kernel_rfl) h)

end Go.Proofs.YtdnelnicnjplpaaGreatDoor.F

namespace Go.Proofs.YtdnelnicnjplpaaGreatDoor.B
open Go Go.RowKit Go.Proofs Go.Proofs.YtdnelnicnjplpaaGreatDoor.Vc

def psT : List Pa := [⟨1, 3, 1, ⟨#[97]⟩, ⟨#[50]⟩, ⟨#[49]⟩, ⟨#[53]⟩⟩, ⟨2, 1, 2, ⟨#[98]⟩, ⟨#[49, 47, 50]⟩, ⟨#[52]⟩, ⟨#[49]⟩⟩]
def hsT : List Ho := [⟨1, ⟨#[65]⟩, ⟨#[52]⟩, ⟨#[55]⟩, ⟨#[49, 48]⟩, ⟨#[48]⟩, ⟨#[49]⟩⟩, ⟨2, ⟨#[66]⟩, ⟨#[57]⟩, ⟨#[51]⟩, ⟨#[45, 53]⟩, ⟨#[48]⟩, ⟨#[49]⟩⟩]
def lT : List Sw := [⟨1, 1, 2⟩, ⟨2, 2, 1⟩]
theorem two_check : checkC psT hsT = 0 := by kernel_rfl
theorem two_stowed : stowedF psT hsT lT = 0 := by kernel_rfl
theorem two_total : totalV psT hsT lT = .tuple #[.agg #[.string ⟨#[57, 47, 50]⟩, .string ⟨#[54]⟩, .string ⟨#[49, 49]⟩, .string ⟨#[55, 53, 47, 50]⟩, .string ⟨#[48]⟩, .string ⟨#[57, 47, 50]⟩], .int .i64 0] := by kernel_rfl
theorem two_held : heldV psT hsT lT 1 = .tuple #[.agg #[.string ⟨#[52]⟩, .string ⟨#[50]⟩, .string ⟨#[49, 48]⟩, .string ⟨#[52, 48]⟩, .string ⟨#[48]⟩, .string ⟨#[52]⟩], .int .i64 0] := by kernel_rfl
theorem two_over : overV psT hsT [⟨2, 1, 3⟩] = .tuple #[.int .i64 1, .int .i64 0] := by kernel_rfl
theorem two_amts : amountsF psT hsT lT = [2, 0, 0, 1] := by kernel_rfl
theorem two_put : putF psT hsT [⟨1, 1, 2⟩] ⟨2, 2, 1⟩ = .ok lT := by kernel_rfl
theorem two_from : fromF psT hsT [2, 0, 0, 1] = .ok lT := by kernel_rfl

theorem extAll {B : Nat} {w w' : World} (x : Ext B [] w w') : Below w.heap.size w w' := ⟨x.below.os, x.below.tape, x.below.output, x.below.size, fun k hk => by
  rcases x.other k hk with e | ⟨t, ht, _⟩
  · exact e
  · simp at ht⟩
theorem law_Two (w : World) : Pure Tryz.prog 41 #[] w fun v w' => ∃ A c A' c', v = .agg #[.slice A 2 c, .slice A' 2 c'] ∧ CgIn w' A 2 A' 2 psT hsT := by
  refine F.garboardlaw47_Two.vc _ _ fun w1 x1 => ?_
  have hw := k0 x1
  refine runOk_lit el_Pas (psT.map Pa.val) (by simp [psT, Value.cells]) (by simp [psT]) hw.size fun A c w2 o2 b2 => ?_
  have hw := kP hw b2
  refine runOk_lit el_Hos (hsT.map Ho.val) (by simp [hsT, Value.cells]) (by simp [hsT]) hw.size fun A' c' w3 o3 b3 => ?_
  refine fun w4 x4 => ⟨A, c, A', c', rfl, ?_⟩
  have p2 : SlR w2 A 7 (psT.map Pa.row) := o2.sl
  have p3 : SlR w3 A' 7 (hsT.map Ho.row) := o3.sl
  have o2' := (o2.below b3).extT x4 (by decide)
  have o3' := o3.extT x4 (by decide)
  refine ⟨o2'.sl, o3'.sl, rfl, rfl, fun p hp => ?_, fun h hh => ?_, by omega, by omega⟩
  · simp only [psT, List.mem_cons, List.not_mem_nil, or_false] at hp
    rcases hp with rfl | rfl <;> exact ⟨by decide, by decide, by decide, by decide⟩
  · simp only [hsT, List.mem_cons, List.not_mem_nil, or_false] at hh
    rcases hh with rfl | rfl <;> exact ⟨by decide, by decide, by decide, by decide, by decide, by decide⟩

theorem CloneI {w : World} {A : Option Addr} {n c : Nat} {l : List Int} (h : SlR w A 1 (l.map iRow)) (hlen : l.length = n) (hn : n ≤ 1000000) :
    Pure Tryz.prog 31 #[.slice A n c] w fun v w' => ∃ A' c', v = .slice A' n c' ∧ OwnR w' w.heap.size 3 A' n c' 1 (l.map iRow) := by
  refine F.slices_Clone_int_int.vc _ _ _ _ _ ⟨fun hA => ?_, fun hA => ?_⟩
  · subst hA
    have := h.none_nil
    simp at this
    subst this
    simp at hlen
    subst hlen
    exact ⟨none, 0, rfl, OwnR.nil⟩
  · obtain ⟨a, rfl⟩ := Option.ne_none_iff_exists'.1 hA
    refine runOk_lit el_Ints [] (by simp) (by simp) (Nat.le_refl _) fun A2 c2 w2 ho b2 => ?_
    refine app_rows el_Ints (Nat.le_refl _) (by simpa using ho) (h.below b2) (by simpa using hlen) (fun r hr => by obtain ⟨s, _, rfl⟩ := List.mem_map.1 hr; rfl) (fun r hr => by obtain ⟨s, _, rfl⟩ := List.mem_map.1 hr; intro u hu; simp [iRow] at hu; subst hu; rfl) b2.size (by simp; omega) (by simp) fun A' c' w3 o3 _ b3 => ?_
    simp only [List.length_nil, Nat.zero_add, List.nil_append] at o3 ⊢
    exact ⟨A', c', rfl, o3⟩
theorem EqualI {w0 : World} {A A1 : Option Addr} {n n1 c c1 : Nat} {l l1 : List Int} (h : SlR w0 A 1 (l.map iRow)) (h1 : SlR w0 A1 1 (l1.map iRow)) (hlen : l.length = n) (hlen1 : l1.length = n1) (hn : n < 2147483648) :
    Pure Tryz.prog 33 #[.slice A n c, .slice A1 n1 c1] w0 fun y _ => y = .bool (decide (l = l1)) := by
  have key : n = n1 → ∀ (d i : Nat) (w : World), n - i = d → i ≤ n → Below w0.heap.size w0 w → l.take i = l1.take i → F.slices_Equal_int_int.L4 A n c A1 n1 c1 n i w0.heap.size w fun y _ => y = .bool (decide (l = l1)) := by
    intro e d
    induction d with
    | zero =>
      intro i w hd hi hw hx
      refine F.slices_Equal_int_int.L4.step _ _ _ _ _ _ _ _ _ _ _ ⟨fun h => by omega, fun _ => ?_⟩
      rw [List.take_of_length_le (by omega), List.take_of_length_le (by omega)] at hx
      rw [decide_eq_true hx]
    | succ d ih =>
      intro i w hd hi hw hx
      have hil : i < l.length := by omega
      have hil1 : i < l1.length := by omega
      have e3 : (i : Int) + 1 = ((i + 1 : Nat) : Int) := by omega
      obtain ⟨hb, a, hA, hcell, _⟩ := (h.keep hw (Nat.le_refl _)).at_ (fun _ => rfl) hlen hil
      obtain ⟨hb1, a1, hA1, hcell1, _⟩ := (h1.keep hw (Nat.le_refl _)).at_ (fun _ => rfl) hlen1 hil1
      refine F.slices_Equal_int_int.L4.step _ _ _ _ _ _ _ _ _ _ _ ⟨fun _ => ⟨hb, a, hA, _, hcell, hb1, a1, hA1, _, hcell1, fun k w2 _ => ?_, fun k => ⟨by simp only [inR]; omega, fun w2 x2 => ?_⟩⟩, fun h => by omega⟩
      · rw [decide_eq_false fun e => k (by subst e; rfl)]
      · rw [e3]
        refine ih (i + 1) w2 (by omega) (by omega) (kE hw x2) ?_
        rw [List.take_add_one, List.take_add_one, hx, List.getElem?_eq_getElem hil, List.getElem?_eq_getElem hil1, Decidable.not_not.1 k]
  refine F.slices_Equal_int_int.vc _ _ _ _ _ _ _ _ ⟨fun k => ?_, fun k => key (by omega) n 0 w0 rfl (by omega) (Below.refl _ _) (by simp)⟩
  rw [decide_eq_false fun e => k (by subst e; omega)]

theorem law47_awake {w : World} (hg : Glob w) : Pure Tryz.prog 11 #[] w fun v _ => v = .bool true := by
  refine F.garboardlaw47_awake.vc _ _ ?_
  refine runOk_lit el_Sws (lT.map Sw.val) (by simp [lT, Value.cells]) (by simp [lT]) (Nat.le_refl _) fun A1 c1 w3 o3 b3 => ?_
  have h1 : SlR w3 A1 3 (lT.map Sw.row) := o3.sl
  have hc1 : 2 ≤ c1 := o3.len_le
  have hW := b3
  have hw : Below w3.heap.size w3 w3 := Below.refl _ _
  have g3 := hg.next b3
  refine Pure.mono (law_Two w3) ?_
  rintro v w7 b7 ⟨A, c, A', c', rfl, hc⟩
  have hw := kP hw b7
  refine ⟨_, _, _, _, _, _, rfl, Pure.mono (cargo_Total (g3.next hw) hc (h1.keep hw (Nat.le_refl _)) rfl hc1 (by decide)) ?_⟩
  rintro v w16 b16 rfl
  rw [two_total]
  have hw := kP hw b16
  refine ⟨_, _, _, _, _, _, _, rfl, fun w17 x17 => ?_⟩
  have hw := kP hw (extAll x17); clear x17
  refine Pure.mono (law_Two w17) ?_
  rintro v w21 b21 ⟨A18, c18, A19, c19, rfl, hc⟩
  have hw := kP hw b21
  refine ⟨_, _, _, _, _, _, rfl, Pure.mono (cargo_Amounts (g3.next hw) hc (h1.keep hw (Nat.le_refl _)) rfl hc1 (by decide)) ?_⟩
  rintro v w25 b25 ⟨_, k25⟩
  obtain ⟨A22, N, rfl, o22, hN⟩ := k25 two_stowed
  have hw := kP hw b25
  rw [two_amts] at o22
  have s22 := o22.sl
  refine ⟨_, _, _, _, rfl, Pure.mono (law_Two w25) ?_⟩
  rintro v w29 b29 ⟨A26, c26, A27, c27, rfl, hc⟩
  have hw := kP hw b29
  have s22 := s22.below b29
  refine ⟨_, _, _, _, _, _, rfl, ?_⟩
  refine runOk_lit el_Sws [Sw.val ⟨2, 1, 3⟩] (by simp [Value.cells]) (by simp) (hW.trans (hw.mono hW.size)).size fun A30 c30 w32 o30 b32 => ?_
  have hw := kP hw b32
  have s22 := s22.below b32
  have h30 : SlR w32 A30 3 (([⟨2, 1, 3⟩] : List Sw).map Sw.row) := o30.sl
  refine Pure.mono (cargo_Overloaded (l := [⟨2, 1, 3⟩]) (g3.next hw) (hc.keep b32) h30 rfl o30.len_le (by decide)) ?_
  rintro v w36 b36 rfl
  rw [two_over]
  have hw := kP hw b36
  have s22 := s22.below b36
  refine ⟨_, _, rfl, ⟨by omega, by omega⟩, fun w37 x37 => ?_⟩
  have hw := kP hw (extAll x37)
  have s22 := s22.below (extAll x37)
  refine Pure.mono (law_Two w37) ?_
  rintro v w41 b41 ⟨A38, c38, A39, c39, rfl, hc⟩
  have hw := kP hw b41
  have s22 := s22.below b41
  refine ⟨_, _, _, _, _, _, rfl, ?_⟩
  have h1a : SlR w41 A1 3 (([⟨1, 1, 2⟩] : List Sw).map Sw.row) := (h1.keep hw (Nat.le_refl _)).take 1
  refine Pure.mono (cargo_Put (n := 1) (l := [⟨1, 1, 2⟩]) (g3.next hw) hc h1a rfl (by omega) (by omega) ⟨2, 2, 1⟩) ?_
  rintro v w45 b45 k45
  rw [two_put] at k45
  obtain ⟨A42, m42, c42, rfl, o42⟩ := k45
  have hw := kP hw b45
  have s22 := s22.below b45
  have s42 := o42.sl
  have l42 : lT.length = m42 := by simpa using o42.len
  refine ⟨_, _, _, _, rfl, Pure.mono (law_Two w45) ?_⟩
  rintro v w49 b49 ⟨A46, c46, A47, c47, rfl, hc⟩
  have hw := kP hw b49
  have s22 := s22.below b49
  have s42 := s42.below b49
  refine ⟨_, _, _, _, _, _, rfl, ?_⟩
  refine runOk_lit el_Ints [.int .i64 2, .int .i64 0, .int .i64 0, .int .i64 1] (by simp [Value.cells]) (by simp) (hW.trans (hw.mono hW.size)).size fun A50 c50 w52 o50 b52 => ?_
  have hw := kP hw b52
  have s22 := s22.below b52
  have s42 := s42.below b52
  have h50 : SlR w52 A50 1 (([2, 0, 0, 1] : List Int).map iRow) := o50.sl
  refine Pure.mono (cargo_From (a := [2, 0, 0, 1]) (g3.next hw) (hc.keep b52) h50 rfl o50.len_le (by decide)) ?_
  rintro v w56 b56 k56
  rw [two_from] at k56
  obtain ⟨A53, m53, c53, rfl, o53⟩ := k56
  have hw := kP hw b56
  have s22 := s22.below b56
  have s42 := s42.below b56
  have s53 := o53.sl
  have l53 : lT.length = m53 := by simpa using o53.len
  refine ⟨_, _, _, _, rfl, Pure.mono (law_Two w56) ?_⟩
  rintro v w60 b60 ⟨A57, c57, A58, c58, rfl, hc⟩
  have hw := kP hw b60
  have s22 := s22.below b60
  have s42 := s42.below b60
  have s53 := s53.below b60
  refine ⟨_, _, _, _, _, _, rfl, Pure.mono (cargo_Held (g3.next hw) hc (h1.keep hw (Nat.le_refl _)) rfl hc1 (by decide) 1) ?_⟩
  rintro v w69 b69 rfl
  rw [two_held]
  have hw := kP hw b69
  have s22 := s22.below b69
  have s42 := s42.below b69
  have s53 := s53.below b69
  refine ⟨_, _, _, _, _, _, _, rfl, fun _ => ⟨fun _ => ⟨fun _ => ⟨fun _ => ⟨fun _ => ⟨fun _ => ⟨fun _ w70 x70 => ?_, fun k => absurd ⟨rfl, rfl, rfl, rfl, rfl, rfl, trivial⟩ k⟩, fun k => absurd rfl k⟩, fun k => absurd rfl k⟩, fun k => absurd rfl k⟩, fun k => absurd rfl k⟩, fun k => absurd rfl k⟩, fun k => absurd rfl k⟩
  have hw := kP hw (extAll x70)
  have s22 := s22.below (extAll x70)
  have s42 := s42.below (extAll x70)
  have s53 := s53.below (extAll x70)
  refine runOk_lit el_Ints [.int .i64 2, .int .i64 0, .int .i64 0, .int .i64 1] (by simp [Value.cells]) (by simp) (hW.trans (hw.mono hW.size)).size fun A71 c71 w73 o71 b73 => ?_
  have hw := kP hw b73
  have s22 := s22.below b73
  have s42 := s42.below b73
  have s53 := s53.below b73
  have h71 : SlR w73 A71 1 (([2, 0, 0, 1] : List Int).map iRow) := o71.sl
  refine Pure.mono (EqualI (l := [2, 0, 0, 1]) (l1 := [2, 0, 0, 1]) s22 h71 (by rw [hN]; rfl) rfl (by omega)) ?_
  rintro v w76 b76 rfl
  have hw := kP hw b76
  have s42 := s42.below b76
  have s53 := s53.below b76
  refine ⟨_, rfl, fun _ => ⟨fun _ => ?_, fun k => absurd rfl k⟩, fun k => by simp at k⟩
  refine Pure.mono (r47_Same s42 (h1.keep hw (Nat.le_refl _)) l42 rfl (by rw [← l42]; decide)) ?_
  rintro v w79 b79 rfl
  have hw := kP hw b79
  have s53 := s53.below b79
  refine ⟨_, rfl, fun _ => ?_, fun k => by simp at k⟩
  refine Pure.mono (r47_Same s53 (h1.keep hw (Nat.le_refl _)) l53 rfl (by rw [← l53]; decide)) ?_
  rintro v w82 b82 rfl
  have hw := kP hw b82
  refine ⟨_, rfl, fun _ => ⟨fun _ => ?_, fun k => absurd rfl k⟩, fun k => by simp at k⟩
  refine Pure.mono (law_Two w82) ?_
  rintro v w86 b86 ⟨A83, c83, A84, c84, rfl, hc⟩
  have hw := kP hw b86
  refine ⟨_, _, _, _, _, _, rfl, Pure.mono (cargo_Check (g3.next hw) hc) ?_⟩
  rintro v w89 b89 rfl
  rw [two_check]
  have hw := kP hw b89
  refine ⟨_, rfl, fun _ => ?_, fun k => absurd rfl k⟩
  refine Pure.mono (law_Two w89) ?_
  rintro v w93 b93 ⟨A90, c90, A91, c91, rfl, hc⟩
  have hw := kP hw b93
  refine ⟨_, _, _, _, _, _, rfl, Pure.mono (cargo_Stowed (g3.next hw) hc (h1.keep hw (Nat.le_refl _)) rfl hc1 (by decide)) ?_⟩
  rintro v w96 b96 rfl
  rw [two_stowed]
  exact ⟨_, rfl, rfl⟩
end Go.Proofs.YtdnelnicnjplpaaGreatDoor.B
