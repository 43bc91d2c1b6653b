/- Part 11 of the proofs that: a claim about cargo holds -/
import Derived.Test.YtdnelnicnjplpaaGreatDoorC10
import Derived.Laws.IdiomArrays
set_option linter.unusedVariables false
set_option linter.unusedSimpArgs false
namespace Go.Proofs.YtdnelnicnjplpaaGreatDoor.B
open Go Go.RowKit Go.Proofs Go.Proofs.YtdnelnicnjplpaaGreatDoor.Vc Go.ChangeShapes Go.WideShapes Go.Deep Go.ChangeAt
set_option maxRecDepth 100000

noncomputable def laidWorld (os : Os) : World :=
  let N := (World.settled Tryz.prog os).heap.size
  let w0 := World.holding Tryz.prog os ⟨#[.cells #[.string ⟨#[118, 97, 108, 117, 101, 32, 111, 117, 116, 32, 111, 102, 32, 114, 97, 110, 103, 101]⟩] 277, .cells #[.string ⟨#[105, 110, 118, 97, 108, 105, 100, 32, 115, 121, 110, 116, 97, 120]⟩] 277], #[], []⟩
  let put (h : Array Obj) (g : Nat) (cs : Array Value) : Array Obj := h.modify g fun
    | .cells _ t frozen => .cells cs t frozen
    | o => o
  let h0 := put (put w0.heap 5 #[.iface 275 (.pointer (some ⟨N, 0, none⟩))]) 4 #[.iface 275 (.pointer (some ⟨N + 1, 0, none⟩))]
  let h1 := put h0 2 #[.int .u8 0, .int .u8 1, .int .u8 28, .int .u8 2, .int .u8 29, .int .u8 14, .int .u8 24, .int .u8 3, .int .u8 30, .int .u8 22, .int .u8 20, .int .u8 15, .int .u8 25, .int .u8 17, .int .u8 4, .int .u8 8, .int .u8 31, .int .u8 27, .int .u8 13, .int .u8 23, .int .u8 21, .int .u8 19, .int .u8 16, .int .u8 7, .int .u8 26, .int .u8 12, .int .u8 18, .int .u8 6, .int .u8 11, .int .u8 5, .int .u8 10, .int .u8 9]
  let h2 := put h1 3 #[.int .u8 0, .int .u8 1, .int .u8 56, .int .u8 2, .int .u8 57, .int .u8 49, .int .u8 28, .int .u8 3, .int .u8 61, .int .u8 58, .int .u8 42, .int .u8 50, .int .u8 38, .int .u8 29, .int .u8 17, .int .u8 4, .int .u8 62, .int .u8 47, .int .u8 59, .int .u8 36, .int .u8 45, .int .u8 43, .int .u8 51, .int .u8 22, .int .u8 53, .int .u8 39, .int .u8 33, .int .u8 30, .int .u8 24, .int .u8 18, .int .u8 12, .int .u8 5, .int .u8 63, .int .u8 55, .int .u8 48, .int .u8 27, .int .u8 60, .int .u8 41, .int .u8 37, .int .u8 16, .int .u8 46, .int .u8 35, .int .u8 44, .int .u8 21, .int .u8 52, .int .u8 32, .int .u8 23, .int .u8 11, .int .u8 54, .int .u8 26, .int .u8 40, .int .u8 15, .int .u8 34, .int .u8 20, .int .u8 31, .int .u8 10, .int .u8 25, .int .u8 14, .int .u8 19, .int .u8 9, .int .u8 13, .int .u8 8, .int .u8 7, .int .u8 6]
  let h3 := put h2 1 (Lib.pow10Tab.map fun z => Value.int .u64 z).toArray
  { w0 with heap := h3 }

noncomputable abbrev N0 : Nat := (World.settled Tryz.prog default).heap.size
theorem laid_met (os : Os) (args : Array Value) : laidMet Tryz.prog aLaid ((laidWorld os).forCall (fun _ _ => 0) ⟨#[], args, []⟩).memory :=
  (LaidIn.of_run (l := aLaid) [2, 3, 1, 5, 4, N0, N0 + 1] 8 (by kernel_rfl) (by kernel_rfl) (by kernel_rfl) (by kernel_rfl)).met

theorem world_vars (os : Os) (args : Array Value) : ((laidWorld os).forCall (fun _ _ => 0) ⟨#[], args, []⟩).variablesRefB Tryz.prog = true := by kernel_rfl
theorem world_rest (os : Os) (args : Array Value) : (((laidWorld os).forCall (fun _ _ => 0) ⟨#[], args, []⟩).heap.toList.drop Tryz.prog.globals.size).take ((begin Tryz.prog (fun _ _ => 0) default).world.heap.size - Tryz.prog.globals.size) =
      (begin Tryz.prog (fun _ _ => 0) default).world.heap.toList.drop Tryz.prog.globals.size := by kernel_rfl

theorem glob_of {W : World} (hL : laidMet Tryz.prog aLaid W) (hS : W.ShapedOpen Tryz.prog) : Glob W :=
  ⟨Lib.tabIs_of_head (zs := Lib.pow10Tab) (g := 1) (t := 214) (e := 140) (n := 20) g_pow10 (by kernel_rfl) (by kernel_rfl) (by kernel_rfl) (by kernel_rfl) (by kernel_rfl) hL.tail.tail,
   cell_of_shapedOpen_int (g := 0) (t := 3) (zero := #[.int .i64 0]) hS (of_decide_eq_true (by kernel_rfl)) (by kernel_rfl) rfl (by kernel_rfl) (by kernel_rfl) (by kernel_rfl)⟩
end Go.Proofs.YtdnelnicnjplpaaGreatDoor.B

namespace Go.Proofs.YtdnelnicnjplpaaGreatDoor.B
set_option maxRecDepth 100000
open Go Go.RowKit Go.Proofs Go.Proofs.YtdnelnicnjplpaaGreatDoor.Vc Go.ChangeShapes Go.WideShapes Go.Deep

instance : Inhabited Pa := ⟨⟨0, 0, 0, ⟨#[]⟩, ⟨#[]⟩, ⟨#[]⟩, ⟨#[]⟩⟩⟩
instance : Inhabited Ho := ⟨⟨0, ⟨#[]⟩, ⟨#[]⟩, ⟨#[]⟩, ⟨#[]⟩, ⟨#[]⟩, ⟨#[]⟩⟩⟩
instance : Inhabited Sw := ⟨⟨0, 0, 0⟩⟩

section
variable {H : Type} {enc : TypeId × Value → H} {w : World} {base b0 : Nat} {spare : Nat → Bool} {held : Bool}
theorem open_rows {α : Type} [Inhabited α] {row : α → List Value} {sz : Nat} (hsz : 0 < sz) (hrow : ∀ x, (row x).length = sz) {t e : TypeId} (ht : Tryz.prog.underlying t = some (.slice e)) (hC : Tryz.prog.cellsOf e = sz)
    (hx : ∀ (n : Nat) (cs : List Value) (y : DataW H × List MemPlace), DataW.trod enc Tryz.prog w base spare held n e cs = some y → ∃ x : α, cs = row x)
    {v : Value} {fuel : Nat} {y : DataW H × List MemPlace} (h : DataW.trod enc Tryz.prog w base spare held fuel t [v] = some y) :
    ∃ (A : Option Addr) (n c : Nat) (l : List α), v = .slice A n c ∧ SlR w A sz (l.map row) ∧ l.length = n ∧ n < 9223372036854775808 ∧ (A = none → c = 0) := by
  rcases open_slice ht h with ⟨hcs, _⟩ | ⟨a, len, cap, m, n, D, Pl, hcs, hb, hl, hm, hmm, _, hi⟩
  · cases hcs
    exact ⟨none, 0, 0, [], rfl, .inl rfl, rfl, by omega, fun _ => rfl⟩
  · cases hcs
    rw [hC] at hi
    obtain ⟨g, hg⟩ := choose_lt (α := α) (n := len) (p := fun i x => ∀ j, (hj : j < (row x).length) → w.cell? (a.add (i * sz + j)) = some ((row x)[j])) fun i hilt => by
      have him : i < m := by
        rw [hmm]
        split <;> omega
      obtain ⟨cs', hc, ht'⟩ := hi i him
      obtain ⟨_, hcl, hat⟩ := World.cells?_some hc
      obtain ⟨x, rfl⟩ := hx _ _ _ ht'
      refine ⟨x, fun j hj => ?_⟩
      rw [← Go.Deep.add_add, hat j (by rw [hrow] at hj; omega), List.getElem?_eq_getElem hj]
    refine ⟨some a, len, cap, (List.range len).map g, rfl, slR_of_cells hsz (fun r hr => ?_) (fun i hi2 j hj => ?_), by simp, by unfold maxLen at hm; omega, fun k => by cases k⟩
    · obtain ⟨x, _, rfl⟩ := List.mem_map.1 hr
      exact hrow x
    · simp at hi2
      simp only [List.getElem_map, List.getElem_range] at hj ⊢
      exact hg i hi2 j hj

theorem k_int : Tryz.prog.cellsOf 3 = 1 := by kernel_rfl
theorem k_str : Tryz.prog.cellsOf 9 = 1 := by kernel_rfl
theorem k_Rat : Tryz.prog.cellsOf 37 = 1 := by kernel_rfl
theorem k_Vec : Tryz.prog.cellsOf 39 = 3 := by kernel_rfl
theorem k_Par : Tryz.prog.cellsOf 66 = 7 := by kernel_rfl
theorem k_Hol : Tryz.prog.cellsOf 61 = 7 := by kernel_rfl
theorem k_Sto : Tryz.prog.cellsOf 35 = 3 := by kernel_rfl
theorem k_Wor : Tryz.prog.cellsOf 48 = 3 := by kernel_rfl
theorem int_of (n : Nat) (cs : List Value) (y : DataW H × List MemPlace) (h : DataW.trod enc Tryz.prog w base spare held n 3 cs = some y) : ∃ x : Int, cs = iRow x := by
  obtain ⟨z, hz, _⟩ := DataW.trod_int u_int h
  exact ⟨z, hz⟩
theorem rat_of {n : Nat} {cs : List Value} {y : DataW H × List MemPlace} (h : DataW.trod enc Tryz.prog w base spare held n 37 cs = some y) : ∃ x, cs = [.string x] := by
  obtain ⟨z, hz, _⟩ := DataW.trod_string u_Rat h
  exact ⟨z, hz⟩
theorem str_of {n : Nat} {cs : List Value} {y : DataW H × List MemPlace} (h : DataW.trod enc Tryz.prog w base spare held n 9 cs = some y) : ∃ x, cs = [.string x] := by
  obtain ⟨z, hz, _⟩ := DataW.trod_string u_str h
  exact ⟨z, hz⟩
theorem stow_of (n : Nat) (cs : List Value) (y : DataW H × List MemPlace) (h : DataW.trod enc Tryz.prog w base spare held n 35 cs = some y) : ∃ x : Sw, cs = x.row := by
  obtain ⟨ys, m, _, rfl, hl, hlen, hf⟩ := DataW.trod_struct Tryz.underlying35 h
  rw [k_Sto] at hl
  match cs, hl with
  | [v0, v1, v2], _ =>
    match ys, hlen with
    | [y0, y1, y2], _ =>
      obtain ⟨z0, e0⟩ := int_of m [v0] y0 (by simpa [k_int] using hf 0 _ rfl)
      obtain ⟨z1, e1⟩ := int_of m [v1] y1 (by simpa [k_int] using hf 1 _ rfl)
      obtain ⟨z2, e2⟩ := int_of m [v2] y2 (by simpa [k_int] using hf 2 _ rfl)
      cases e0; cases e1; cases e2
      exact ⟨⟨z0, z1, z2⟩, rfl⟩
theorem work_of (n : Nat) (cs : List Value) (y : DataW H × List MemPlace) (h : DataW.trod enc Tryz.prog w base spare held n 48 cs = some y) : ∃ x : Sw, cs = x.row := by
  obtain ⟨ys, m, _, rfl, hl, hlen, hf⟩ := DataW.trod_struct Tryz.underlying48 h
  rw [k_Wor] at hl
  match cs, hl with
  | [v0, v1, v2], _ =>
    match ys, hlen with
    | [y0, y1, y2], _ =>
      obtain ⟨z0, e0⟩ := int_of m [v0] y0 (by simpa [k_int] using hf 0 _ rfl)
      obtain ⟨z1, e1⟩ := int_of m [v1] y1 (by simpa [k_int] using hf 1 _ rfl)
      obtain ⟨z2, e2⟩ := int_of m [v2] y2 (by simpa [k_int] using hf 2 _ rfl)
      cases e0; cases e1; cases e2
      exact ⟨⟨z0, z1, z2⟩, rfl⟩
theorem vec_of {n : Nat} {cs : List Value} {y : DataW H × List MemPlace} (h : DataW.trod enc Tryz.prog w base spare held n 39 cs = some y) : ∃ a b c, cs = [.string a, .string b, .string c] := by
  obtain ⟨ys, m, _, rfl, hl, hlen, hf⟩ := DataW.trod_struct Tryz.underlying39 h
  rw [k_Vec] at hl
  match cs, hl with
  | [v0, v1, v2], _ =>
    match ys, hlen with
    | [y0, y1, y2], _ =>
      obtain ⟨z0, e0⟩ := rat_of (n := m) (cs := [v0]) (y := y0) (by simpa [k_Rat] using hf 0 _ rfl)
      obtain ⟨z1, e1⟩ := rat_of (n := m) (cs := [v1]) (y := y1) (by simpa [k_Rat] using hf 1 _ rfl)
      obtain ⟨z2, e2⟩ := rat_of (n := m) (cs := [v2]) (y := y2) (by simpa [k_Rat] using hf 2 _ rfl)
      cases e0; cases e1; cases e2
      exact ⟨z0, z1, z2, rfl⟩
theorem par_of (n : Nat) (cs : List Value) (y : DataW H × List MemPlace) (h : DataW.trod enc Tryz.prog w base spare held n 66 cs = some y) : ∃ x : Pa, cs = x.row := by
  obtain ⟨ys, m, _, rfl, hl, hlen, hf⟩ := DataW.trod_struct Tryz.underlying66 h
  rw [k_Par] at hl
  match cs, hl with
  | [v0, v1, v2, v3, v4, v5, v6], _ =>
    match ys, hlen with
    | [y0, y1, y2, y3, y4, y5, y6], _ =>
      obtain ⟨z0, e0⟩ := int_of m [v0] y0 (by simpa [k_int] using hf 0 _ rfl)
      obtain ⟨z1, e1⟩ := int_of m [v1] y1 (by simpa [k_int] using hf 1 _ rfl)
      obtain ⟨z2, e2⟩ := int_of m [v2] y2 (by simpa [k_int] using hf 2 _ rfl)
      obtain ⟨z3, e3⟩ := str_of (n := m) (cs := [v3]) (y := y3) (by simpa [k_str] using hf 3 _ rfl)
      obtain ⟨z4, e4⟩ := rat_of (n := m) (cs := [v4]) (y := y4) (by simpa [k_Rat] using hf 4 _ rfl)
      obtain ⟨z5, e5⟩ := rat_of (n := m) (cs := [v5]) (y := y5) (by simpa [k_Rat] using hf 5 _ rfl)
      obtain ⟨z6, e6⟩ := rat_of (n := m) (cs := [v6]) (y := y6) (by simpa [k_Rat] using hf 6 _ rfl)
      cases e0; cases e1; cases e2; cases e3; cases e4; cases e5; cases e6
      exact ⟨⟨z0, z1, z2, z3, z4, z5, z6⟩, rfl⟩
theorem hold_of (n : Nat) (cs : List Value) (y : DataW H × List MemPlace) (h : DataW.trod enc Tryz.prog w base spare held n 61 cs = some y) : ∃ x : Ho, cs = x.row := by
  obtain ⟨ys, m, _, rfl, hl, hlen, hf⟩ := DataW.trod_struct Tryz.underlying61 h
  rw [k_Hol] at hl
  match cs, hl with
  | [v0, v1, v2, v3, v4, v5, v6], _ =>
    match ys, hlen with
    | [y0, y1, y2, y3, y4], _ =>
      obtain ⟨z0, e0⟩ := int_of m [v0] y0 (by simpa [k_int] using hf 0 _ rfl)
      obtain ⟨z1, e1⟩ := str_of (n := m) (cs := [v1]) (y := y1) (by simpa [k_str] using hf 1 _ rfl)
      obtain ⟨z2, e2⟩ := rat_of (n := m) (cs := [v2]) (y := y2) (by simpa [k_Rat] using hf 2 _ rfl)
      obtain ⟨z3, e3⟩ := rat_of (n := m) (cs := [v3]) (y := y3) (by simpa [k_Rat] using hf 3 _ rfl)
      obtain ⟨a, b, c, e4⟩ := vec_of (n := m) (cs := [v4, v5, v6]) (y := y4) (by simpa [k_Vec] using hf 4 _ rfl)
      cases e0; cases e1; cases e2; cases e3; cases e4
      exact ⟨⟨z0, z1, z2, z3, a, b, c⟩, rfl⟩

theorem trod_one {t e : TypeId} (ht : Tryz.prog.underlying t = some (.slice e)) {r : Reach} {v : Value} {d : DataW H} {p : List MemPlace} (hv : Value.okWide Tryz.prog w r b0 t v) (h : DataW.Trod enc Tryz.prog w base spare held t v d p) : ∃ fuel, DataW.trod enc Tryz.prog w base spare held fuel t [v] = some (d, p) := by
  obtain ⟨a0, len, cap, rfl⟩ := okWide_slice ht hv
  obtain ⟨fuel, hf⟩ := h
  exact ⟨fuel, by simpa [Value.cells] using hf⟩
theorem open_stows {v : Value} {d : DataW H} {p : List MemPlace} (hv : Value.okWide Tryz.prog w .any b0 26 v) (h : DataW.Trod enc Tryz.prog w base spare held 26 v d p) :
    ∃ (A : Option Addr) (n c : Nat) (l : List Sw), v = .slice A n c ∧ SlR w A 3 (l.map Sw.row) ∧ l.length = n := by
  obtain ⟨fuel, hf⟩ := trod_one Tryz.underlying26 hv h
  obtain ⟨A, n, c, l, h1, h2, h3, _⟩ := open_rows (row := Sw.row) (by decide) (fun _ => rfl) Tryz.underlying26 k_Sto stow_of hf
  exact ⟨A, n, c, l, h1, h2, h3⟩
theorem open_works {v : Value} {d : DataW H} {p : List MemPlace} (hv : Value.okWide Tryz.prog w .any b0 63 v) (h : DataW.Trod enc Tryz.prog w base spare held 63 v d p) :
    ∃ (A : Option Addr) (n c : Nat) (l : List Sw), v = .slice A n c ∧ SlR w A 3 (l.map Sw.row) ∧ l.length = n := by
  obtain ⟨fuel, hf⟩ := trod_one Tryz.underlying63 hv h
  obtain ⟨A, n, c, l, h1, h2, h3, _⟩ := open_rows (row := Sw.row) (by decide) (fun _ => rfl) Tryz.underlying63 k_Wor work_of hf
  exact ⟨A, n, c, l, h1, h2, h3⟩
theorem open_cargo {v : Value} {d : DataW H} {p : List MemPlace} (hv : Value.okWide Tryz.prog w .any b0 25 v) (h : DataW.Trod enc Tryz.prog w base spare held 25 v d p) :
    ∃ (A0 : Option Addr) (n0 c0 : Nat) (A1 : Option Addr) (n1 c1 : Nat) (ps : List Pa) (hs : List Ho), v = .agg #[.slice A0 n0 c0, .slice A1 n1 c1] ∧ CgRaw w A0 n0 A1 n1 ps hs ∧ (A0 = none → c0 = 0) ∧ (A1 = none → c1 = 0) := by
  obtain ⟨v0, v1, y0, y1, n, rfl, _, _, h0, h1⟩ := Go.Joins.open_agg2 Tryz.underlying25 (by kernel_rfl) (by kernel_rfl) hv h
  obtain ⟨A0, n0, c0, ps, rfl, p1, p2, p3, p4⟩ := open_rows (row := Pa.row) (by decide) (fun _ => rfl) Tryz.underlying22 k_Par par_of h0
  obtain ⟨A1, n1, c1, hs, rfl, q1, q2, q3, q4⟩ := open_rows (row := Ho.row) (by decide) (fun _ => rfl) Tryz.underlying23 k_Hol hold_of h1
  exact ⟨A0, n0, c0, A1, n1, c1, ps, hs, rfl, ⟨p1, q1, p2, q2, p3, q3⟩, p4, q4⟩
end
end Go.Proofs.YtdnelnicnjplpaaGreatDoor.B

namespace Go.Proofs.YtdnelnicnjplpaaGreatDoor.B
open Go Go.RowKit Go.Proofs Go.Proofs.YtdnelnicnjplpaaGreatDoor.Vc

theorem from_v {s : ByteArray} (hs : SmS s) (hv : vR s = true) (w : World) : Pure Tryz.prog 37 #[.string s] w fun v w' => ∃ x : QT, x.r = qR s ∧ v = .tuple #[.agg #[.bool x.b, .slice x.A x.n x.c, .slice x.A' x.n' x.c'], .bool true] ∧ x.is w' := by
  refine Pure.mono (ref3_From s hs w) ?_
  rintro v w2 _ ⟨b, A, n, c, A', n', c', rfl, k⟩
  rw [hv]
  exact ⟨⟨b, A, n, c, A', n', c', qR s⟩, rfl, rfl, k hv⟩
theorem steps_sum {ps : List Pa} {hs : List Ho} {l m : List Sw} {t : Sw} (h : PutOk ps hs l t m) (f : Pa → ByteArray) : sumR (tP ps f) m = sumR (tP ps f) l + (t.units : Rat) * gP ps f t.parcel := by
  have := sum_upd (f := tP ps f) (g := gP ps f) h.r.srt h.r.pos (fun s => rfl) (s := ⟨t.hold, t.parcel, amtF l t.hold t.parcel + t.units⟩) h.n
  simp only at this
  rw [h.e, this, show amtF l t.hold t.parcel + t.units - amtF l t.hold t.parcel = t.units by omega]

section
variable {w0 : World} {A0 A1 A2 : Option Addr} {n0 c0 n1 c1 n2 c2 : Nat} {ps : List Pa} {hs : List Ho} {works : List Sw}
theorem steps_L6 (hg : Glob w0) (hc : CgIn w0 A0 n0 A1 n1 ps hs) (hz0 : A0 = none → c0 = 0) (hz1 : A1 = none → c1 = 0) (h2 : SlR w0 A2 3 (works.map Sw.row)) (hl2 : works.length = n2) (h20 : n2 ≤ 20) (hck : checkC ps hs = 0) :
    ∀ (d i : Nat) (A : Option Addr) (n c : Nat) (l : List Sw) (w : World), n2 - i = d → i ≤ n2 → Below w0.heap.size w0 w → SlR w A 3 (l.map Sw.row) → l.length = n → n ≤ c → RightS ps hs l →
      F.garboardlaw47_CargoSteps.L6 A n c A2 n2 c2 n2 i A0 n0 c0 A1 n1 c1 w0.heap.size w fun v _ => v = .bool true := by
  intro d
  induction d with
  | zero =>
    intro i A n c l w hd hi hw h hl hnc hr
    have hn := hr.len
    refine F.garboardlaw47_CargoSteps.L6.step _ _ _ _ _ _ _ _ _ _ _ _ _ _ _ _ _ ⟨fun k => by omega, fun _ => ?_⟩
    refine Pure.mono (r47_Copy (hc.keep hw) hz0 hz1) ?_
    rintro v w128 b ⟨B0, d0, B1, d1, rfl, hcc⟩
    refine ⟨_, _, _, _, _, _, rfl, Pure.mono (cargo_Stowed (hg.next (kP hw b)) hcc (h.below b) hl hnc (by omega)) ?_⟩
    rintro v w131 b2 rfl
    refine ⟨_, rfl, ?_⟩
    rw [right_stowed hck hr]
    simp
  | succ d ih =>
    intro i A n c l w hd hi hw h hl hnc hr
    have hnp := hc.np
    have hn := hr.len
    have hil : i < works.length := by omega
    have e3 : (i : Int) + 1 = ((i + 1 : Nat) : Int) := by omega
    obtain ⟨t, ht⟩ : ∃ t, t = works[i] := ⟨_, rfl⟩
    obtain ⟨hb, a, hA, hcell, _⟩ := (h2.keep hw (Nat.le_refl _)).at_ (fun _ => rfl) hl2 hil
    rw [← ht] at hcell
    have hL : Below w.heap.size w w := Below.refl _ _
    have tot0 : ∀ l, RightS ps hs l → totalV ps hs l = .tuple #[ldF ps hs l, .int .i64 0] := fun l hr => by
      unfold totalV
      rw [if_neg (fun k => k (right_stowed hck hr))]
    refine F.garboardlaw47_CargoSteps.L6.step _ _ _ _ _ _ _ _ _ _ _ _ _ _ _ _ _ ⟨fun _ => ⟨hb, a, hA, _, _, _, hcell, fun w22 y => ?_⟩, fun k => by omega⟩
    have hw := kP hw (extAll y)
    have hL := kP hL (extAll y)
    clear y
    refine Pure.mono (r47_Copy (hc.keep hw) hz0 hz1) ?_
    rintro v w26 b ⟨B0, d0, B1, d1, rfl, hcc⟩
    have hw := kP hw b
    have hL := kP hL b
    clear b
    refine ⟨_, _, _, _, _, _, rfl, Pure.mono (CloneS (h.keep hL (Nat.le_refl _)) hl (by omega)) ?_⟩
    rintro v w29 b ⟨A', c', rfl, ho⟩
    have hcc := hcc.keep b
    have hw := kP hw b
    have hL := kP hL b
    clear b
    refine ⟨_, _, _, rfl, Pure.mono (cargo_Put (hg.next hw) hcc ho.sl hl ho.len_le (by omega) t) ?_⟩
    rintro v w33 b k1
    have hw := kP hw b
    have hL := kP hL b
    cases hp : putF ps hs l t with
    | error e =>
      rw [hp] at k1
      cases (show v = _ from k1)
      refine ⟨_, _, _, _, rfl, fun _ => ⟨by simp only [inR]; omega, ?_⟩, fun k => absurd (Decidable.not_not.1 k) (put_err hp)⟩
      rw [e3]
      exact ih (i + 1) A n c l w33 (by omega) (by omega) hw (h.keep hL (Nat.le_refl _)) hl hnc hr
    | ok m =>
    rw [hp] at k1
    obtain ⟨Ax, mx, cx, rfl, ox⟩ := k1
    clear b
    have ok := put_ok hp
    have hrm := put_right ok
    have hu := ok.u
    have lx : m.length = mx := by simpa using ox.len
    have hmx := hrm.len
    have sx := ox.sl
    have hK : Below w33.heap.size w33 w33 := Below.refl _ _
    obtain ⟨ip, _, _, _, hip, _⟩ := ok.at_
    obtain ⟨hpl, hpid⟩ := pix_lt hip
    have hpm := List.getElem_mem hpl
    have hvp := hr.c.vp _ hpm
    unfold vP at hvp
    simp only [Bool.and_eq_true] at hvp
    have sp := hc.sp _ hpm
    have bn : Big ((t.units : Int) : Rat) := (Sm.ofInt (k := 1) (by omega) (by omega)).mono (by omega)
    have gw := gP_at hip (List.getElem?_eq_getElem hpl) Pa.worth
    have gm := gP_at hip (List.getElem?_eq_getElem hpl) Pa.mass
    have bw := sp.worth.big hvp.2
    have bm := sp.mass.big hvp.1.1
    have bnw : Big ((t.units : Rat) * gP ps Pa.worth t.parcel) := by
      rw [gw]
      exact ((Sm.ofInt (z := t.units) (k := 1) (by omega) (by omega)).mul (vR_sm hvp.2 sp.worth)).mono (by omega)
    have bnm : Big ((t.units : Rat) * gP ps Pa.mass t.parcel) := by
      rw [gm]
      exact ((Sm.ofInt (z := t.units) (k := 1) (by omega) (by omega)).mul (vR_sm hvp.1.1 sp.mass)).mono (by omega)
    obtain ⟨⟨lm, _, lw⟩, _⟩ := (hr.ld (by omega)).smL hc
    obtain ⟨⟨mm, _, mw⟩, _⟩ := (hrm.ld (by omega)).smL hc
    have ew := steps_sum ok Pa.worth
    have em := steps_sum ok Pa.mass
    rw [ew] at mw
    rw [em] at mm
    refine ⟨_, _, _, _, rfl, fun k => absurd rfl k, fun _ => ?_⟩
    refine Pure.mono (r47_Copy (hc.keep hw) hz0 hz1) ?_
    rintro v w37 b ⟨B0, d0, B1, d1, rfl, hcc⟩
    have hw := kP hw b
    have hL := kP hL b
    have hK := kP hK b
    clear b
    refine ⟨_, _, _, _, _, _, rfl, Pure.mono (CloneS (h.keep hL (Nat.le_refl _)) hl (by omega)) ?_⟩
    rintro v w40 b ⟨A', c', rfl, ho⟩
    have hcc := hcc.keep b
    have hw := kP hw b
    have hL := kP hL b
    have hK := kP hK b
    clear b
    refine ⟨_, _, _, rfl, Pure.mono (cargo_Total (hg.next hw) hcc ho.sl hl ho.len_le (by omega)) ?_⟩
    rintro v w49 b rfl
    have hw := kP hw b
    have hL := kP hL b
    have hK := kP hK b
    clear b
    rw [tot0 l hr]
    refine ⟨_, _, _, _, _, _, _, rfl, fun w50 y => ?_⟩
    have hw := kP hw (extAll y)
    have hL := kP hL (extAll y)
    have hK := kP hK (extAll y)
    clear y
    refine Pure.mono (r47_Copy (hc.keep hw) hz0 hz1) ?_
    rintro v w54 b ⟨B0, d0, B1, d1, rfl, hcc⟩
    have hw := kP hw b
    have hL := kP hL b
    have hK := kP hK b
    clear b
    refine ⟨_, _, _, _, _, _, rfl, Pure.mono (CloneS (sx.keep hK (Nat.le_refl _)) lx (by omega)) ?_⟩
    rintro v w57 b ⟨A', c', rfl, ho⟩
    have hcc := hcc.keep b
    have hw := kP hw b
    have hL := kP hL b
    have hK := kP hK b
    clear b
    refine ⟨_, _, _, rfl, Pure.mono (cargo_Total (hg.next hw) hcc ho.sl lx ho.len_le (by omega)) ?_⟩
    rintro v w66 b rfl
    have hw := kP hw b
    have hL := kP hL b
    have hK := kP hK b
    clear b
    rw [tot0 m hrm]
    refine ⟨_, _, _, _, _, _, _, rfl, fun w67 y p68 hp68 hbox => ?_⟩
    have hw := kP hw (extAll y)
    have hL := kP hL (extAll y)
    have hK := kP hK (extAll y)
    clear y
    have hix : ixI (ps.findIdx? fun q => decide (q.id = t.parcel)) = (ip : Int) := by
      show ixI (pix ps t.parcel) = _
      rw [hip]
      rfl
    have hP : Below w67.heap.size w67 w67 := Below.refl _ _
    refine Pure.mono (IndexPa (p := fun q => decide (q.id = t.parcel)) ((hc.keep hw).p) hc.lp (by omega) (by kernel_rfl) fun w' hb x hx => F.garboardlaw47_CargoSteps_c1.vc _ _ _ _ _ _ _ _ _ _ fun w1 x1 => ⟨_, cells_part (box_all (vs := t.row) (heap_keep (heap_keep hbox hb) (k0 x1))) 1 1, rfl⟩) ?_
    rintro v w71 b rfl
    rw [hix]
    have hw := kP hw b
    have hL := kP hL b
    have hK := kP hK b
    have hP := kP hP b
    clear b
    refine ⟨_, rfl, fun k => absurd rfl k, fun _ => ⟨fun k => absurd rfl k, fun _ => ⟨fun k => by omega, fun _ => ?_⟩⟩⟩
    obtain ⟨hbp, ap, hAp, _, hcp⟩ := hc.pAt hw hpl
    refine ⟨hbp, ap, hAp, _, hcp 6 _ rfl, Pure.mono (from_v sp.worth hvp.2 w71) ?_⟩
    rintro v w79 b ⟨f0, ef0, rfl, hf0⟩
    have hw := kP hw b
    have hL := kP hL b
    have hK := kP hK b
    have hP := kP hP b
    clear b
    have hq := Qs.nil.add hf0
    clear hf0
    refine ⟨_, _, _, _, _, _, _, _, rfl, hbp, ap, hAp, fun w81 y => ?_⟩
    have hw := kP hw (extAll y)
    have hL := kP hL (extAll y)
    have hK := kP hK (extAll y)
    have hP := kP hP (extAll y)
    have hq := hq.below (extAll y)
    clear y
    obtain ⟨_, ap2, hAp2, _, hcp2⟩ := hc.pAt hw hpl
    rw [hAp] at hAp2
    cases hAp2
    refine ⟨_, hcp2 4 _ rfl, Pure.mono (from_v sp.mass hvp.1.1 w81) ?_⟩
    rintro v w88 b ⟨f1, ef1, rfl, hf1⟩
    have hw := kP hw b
    have hL := kP hL b
    have hK := kP hK b
    have hP := kP hP b
    have hq := hq.below b
    clear b
    have hq := hq.add hf1
    clear hf1
    refine ⟨_, _, _, _, _, _, _, _, rfl, fun w89 y => ?_⟩
    have hw := kP hw (extAll y)
    have hL := kP hL (extAll y)
    have hK := kP hK (extAll y)
    have hP := kP hP (extAll y)
    have hq := hq.below (extAll y)
    clear y
    refine ⟨_, (show CellsAt w89 ((⟨p68, 0, none⟩ : Addr).add 2) [.int .i64 t.units] from cells_part (box_all (vs := t.row) (heap_keep hbox hP)) 2 1), Pure.mono (ref3_Int (by omega)) ?_⟩
    rintro v w95 b h1
    obtain ⟨nq, en, rfl, hnq⟩ := h1.qt
    have hw := kP hw b
    have hL := kP hL b
    have hK := kP hK b
    have hP := kP hP b
    have hq := hq.below b
    clear b
    have hq := hq.add hnq
    clear h1 hnq
    refine ⟨_, _, _, _, _, _, _, rfl, fun w96 y => ?_⟩
    have hw := kP hw (extAll y)
    have hL := kP hL (extAll y)
    have hK := kP hK (extAll y)
    have hP := kP hP (extAll y)
    have hq := hq.below (extAll y)
    clear y
    refine Pure.mono (q_Mul (hq nq (by simp)) (hq f0 (by simp)) (by rw [en]; exact bn) (by rw [ef0]; exact bw)) ?_
    rintro v w101 b h1
    obtain ⟨z0, ez0, rfl, hz⟩ := h1.qt
    have hw := kP hw b
    have hL := kP hL b
    have hK := kP hK b
    have hP := kP hP b
    have hq := hq.below b
    clear b
    have hq := hq.add hz
    clear h1 hz
    have ez0 : z0.r = (t.units : Rat) * gP ps Pa.worth t.parcel := by rw [ez0, en, ef0, gw]
    refine ⟨_, _, _, _, _, _, _, rfl, Pure.mono (q_To (hq z0 (by simp)) (by rw [ez0]; exact bnw)) ?_⟩
    rintro v w104 b rfl
    have hw := kP hw b
    have hL := kP hL b
    have hK := kP hK b
    have hP := kP hP b
    have hq := hq.below b
    clear b
    rw [ez0]
    refine ⟨_, rfl, runOk_lit el_Rats [.string (rS (sumR (tP ps Pa.worth) l)), .string (rS ((t.units : Rat) * gP ps Pa.worth t.parcel))] (by simp [Value.cells]) (by simp) (Nat.le_refl _) fun A105 c105 w107 o105 b => ?_⟩
    have hw := kP hw b
    have hL := kP hL b
    have hK := kP hK b
    have hP := kP hP b
    have hq := hq.below b
    clear b
    have s105 : SlR w107 A105 1 [[.string (rS (sumR (tP ps Pa.worth) l))], [.string (rS ((t.units : Rat) * gP ps Pa.worth t.parcel))]] := o105.sl
    clear o105
    refine Pure.mono (law47_add s105 lw bnw mw) ?_
    rintro v w110 b rfl
    have hw := kP hw b
    have hL := kP hL b
    have hK := kP hK b
    have hP := kP hP b
    have hq := hq.below b
    clear b
    clear s105
    refine ⟨_, rfl, fun k => absurd (congrArg rS ew) k, fun _ => ?_⟩
    refine Pure.mono (q_Mul (hq nq (by simp)) (hq f1 (by simp)) (by rw [en]; exact bn) (by rw [ef1]; exact bm)) ?_
    rintro v w101 b h1
    obtain ⟨z1, ez1, rfl, hz⟩ := h1.qt
    have hw := kP hw b
    have hL := kP hL b
    have hK := kP hK b
    have hP := kP hP b
    have hq := hq.below b
    clear b
    have hq := hq.add hz
    clear h1 hz
    have ez1 : z1.r = (t.units : Rat) * gP ps Pa.mass t.parcel := by rw [ez1, en, ef1, gm]
    refine ⟨_, _, _, _, _, _, _, rfl, Pure.mono (q_To (hq z1 (by simp)) (by rw [ez1]; exact bnm)) ?_⟩
    rintro v w104 b rfl
    have hw := kP hw b
    have hL := kP hL b
    have hK := kP hK b
    have hP := kP hP b
    have hq := hq.below b
    clear b
    rw [ez1]
    refine ⟨_, rfl, runOk_lit el_Rats [.string (rS (sumR (tP ps Pa.mass) l)), .string (rS ((t.units : Rat) * gP ps Pa.mass t.parcel))] (by simp [Value.cells]) (by simp) (Nat.le_refl _) fun A105 c105 w107 o105 b => ?_⟩
    have hw := kP hw b
    have hL := kP hL b
    have hK := kP hK b
    have hP := kP hP b
    have hq := hq.below b
    clear b
    have s105 : SlR w107 A105 1 [[.string (rS (sumR (tP ps Pa.mass) l))], [.string (rS ((t.units : Rat) * gP ps Pa.mass t.parcel))]] := o105.sl
    clear o105
    refine Pure.mono (law47_add s105 lm bnm mm) ?_
    rintro v w110 b rfl
    have hw := kP hw b
    have hL := kP hL b
    have hK := kP hK b
    have hP := kP hP b
    have hq := hq.below b
    clear b
    clear s105
    refine ⟨_, rfl, fun k => absurd (congrArg rS em) k, fun _ => ?_⟩
    refine ⟨by simp only [inR]; omega, ?_⟩
    rw [e3]
    exact ih (i + 1) Ax mx cx m _ (by omega) (by omega) hw (sx.keep hK (Nat.le_refl _)) lx ox.len_le hrm
end
section
variable {w : World} {A0 A1 A A2 : Option Addr} {n0 c0 n1 c1 n c n2 c2 : Nat} {ps : List Pa} {hs : List Ho} {l works : List Sw}
theorem law47_CargoSteps (hg : Glob w) (hr : CgRaw w A0 n0 A1 n1 ps hs) (hz0 : A0 = none → c0 = 0) (hz1 : A1 = none → c1 = 0) (h : SlR w A 3 (l.map Sw.row)) (hl : l.length = n) (hnc : n ≤ c) (h2 : SlR w A2 3 (works.map Sw.row)) (hl2 : works.length = n2) :
    Pure Tryz.prog 10 #[.agg #[.slice A0 n0 c0, .slice A1 n1 c1], .slice A n c, .slice A2 n2 c2] w fun v _ => v = .bool true := by
  refine F.garboardlaw47_CargoSteps.vc _ _ _ _ _ _ _ _ _ _ _ _ _ _ fun w1 x1 => ?_
  have hw := k0 x1
  refine Pure.mono (law47_awake (hg.next hw)) ?_
  rintro v w4 b4 rfl
  have hw := kP hw b4
  refine ⟨_, rfl, fun k => absurd k (by decide), fun _ => ?_⟩
  refine Pure.mono (r47_Few (hr.keep hw)) ?_
  rintro v w7 b7 rfl
  have hw := kP hw b7
  refine ⟨_, rfl, fun _ => rfl, fun hf => ⟨fun _ => rfl, fun h40 => ⟨fun _ => rfl, fun h20 => ?_⟩⟩⟩
  have hc := hr.few (by simpa using hf)
  have hn : n ≤ 40 := by omega
  refine Pure.mono (r47_Copy (hc.keep hw) hz0 hz1) ?_
  rintro v w11 b ⟨B0, d0, B1, d1, rfl, hcc⟩
  have hw := kP hw b
  clear b
  refine ⟨_, _, _, _, _, _, rfl, Pure.mono (CloneS (h.keep hw (Nat.le_refl _)) hl (by omega)) ?_⟩
  rintro v w14 b ⟨A', c', rfl, ho⟩
  have hw := kP hw b
  have hcc := hcc.keep b
  clear b
  refine ⟨_, _, _, rfl, Pure.mono (cargo_Stowed (hg.next hw) hcc ho.sl hl ho.len_le (by omega)) ?_⟩
  rintro v w17 b rfl
  have hw := kP hw b
  clear b
  refine ⟨_, rfl, fun _ => rfl, fun h0 => ?_⟩
  have h0 := Decidable.not_not.1 h0
  have hck : checkC ps hs = 0 := by
    unfold stowedF at h0
    split at h0
    · simp at h0
    · rename_i k; exact Decidable.not_not.1 k
  exact steps_L6 hg hc hz0 hz1 h2 hl2 (by omega) hck n2 0 A n c l w17 rfl (by omega) hw (h.keep hw (Nat.le_refl _)) hl hnc (stowed_right h0)
end
end Go.Proofs.YtdnelnicnjplpaaGreatDoor.B

namespace Go.Proofs.YtdnelnicnjplpaaGreatDoor.B
set_option maxRecDepth 100000
open Go Go.RowKit Go.Proofs Go.Proofs.YtdnelnicnjplpaaGreatDoor.Vc Go.ChangeShapes Go.WideShapes Go.Deep

theorem stow_cap {H : Type} {enc : TypeId × Value → H} {w : World} {base b0 : Nat} {spare : Nat → Bool} {held : Bool} {A : Option Addr} {n c : Nat} {d : DataW H} {p : List MemPlace} (hv : Value.okWide Tryz.prog w .any b0 26 (.slice A n c)) (h : DataW.Trod enc Tryz.prog w base spare held 26 (.slice A n c) d p) : n ≤ c := by
  obtain ⟨fuel, hf⟩ := trod_one Tryz.underlying26 hv h
  rcases open_slice Tryz.underlying26 hf with ⟨hcs, _⟩ | ⟨a, len, cap, m, n', D, Pl, hcs, hb, hl, _⟩
  · cases hcs
    exact Nat.le_refl _
  · cases hcs
    exact hl
end Go.Proofs.YtdnelnicnjplpaaGreatDoor.B
