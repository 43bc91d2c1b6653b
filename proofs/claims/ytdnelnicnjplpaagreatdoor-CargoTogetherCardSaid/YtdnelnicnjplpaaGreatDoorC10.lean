/- Part 10 of the proofs that: a claim about cargo holds -/
import Derived.Test.YtdnelnicnjplpaaGreatDoorC9
import Derived.Test.YtdnelnicnjplpaaGreatDoorProg
import Derived.Test.YtdnelnicnjplpaaGreatDoorCards
import Derived.Test.YtdnelnicnjplpaaGreatDoorTie
import Derived.WalkKit
import Derived.ProofKit
import Derived.OpenShut
import Derived.Carry
import Derived.Deep.DeepHandedRow
import Derived.Deep.DeepWitnessRowRef
import Derived.Deep.Slices
import Derived.Deep.Fields
import Derived.Lib.SmallJoins
import Derived.Lib.LaidIn
import Derived.Lib.LaidTab
import Derived.Stop.LaidErr
import Derived.Shelf.Vars
set_option linter.unusedVariables false
set_option linter.unusedSimpArgs false
namespace Go.Proofs.YtdnelnicnjplpaaGreatDoor.B
open Go Go.RowKit Go.Proofs Go.Proofs.YtdnelnicnjplpaaGreatDoor.Vc

theorem flatten_take {sz : Nat} {rows : List (List Value)} (h : ∀ r ∈ rows, r.length = sz) {m : Nat} (hm : m ≤ rows.length) : (rows.take m).flatten = rows.flatten.take (m * sz) := by
  have hfl : (rows.take m).flatten.length = m * sz := by rw [flatten_len _ fun r hr => h r (List.mem_of_mem_take hr), List.length_take, Nat.min_eq_left hm]
  have : rows.flatten = (rows.take m).flatten ++ (rows.drop m).flatten := by rw [← List.flatten_append, List.take_append_drop]
  conv => rhs; rw [this]
  rw [List.take_append_of_le_length (by omega), List.take_of_length_le (l := (rows.take m).flatten) (by omega)]
theorem flatten_drop {sz : Nat} {rows : List (List Value)} (h : ∀ r ∈ rows, r.length = sz) {m : Nat} (hm : m ≤ rows.length) : (rows.drop m).flatten = rows.flatten.drop (m * sz) := by
  have hfl : (rows.take m).flatten.length = m * sz := by rw [flatten_len _ fun r hr => h r (List.mem_of_mem_take hr), List.length_take, Nat.min_eq_left hm]
  have : rows.flatten = (rows.take m).flatten ++ (rows.drop m).flatten := by rw [← List.flatten_append, List.take_append_drop]
  conv => rhs; rw [this]
  have e0 : (rows.take m).flatten.drop (m * sz) = [] := List.drop_eq_nil_of_le (by omega)
  rw [List.drop_append_of_le_length (by omega), e0, List.nil_append]

theorem runOk_appendFits {t ty e sz bytes : Nat} (el : El Tryz.prog t e sz bytes) {B0 B : Nat} (hBB : B0 ≤ B) {tys : List Nat} {w : World} {g n c : Nat} {rows : List (List Value)} (ho : OwnR w B e (some ⟨g, 0, none⟩) n c sz rows)
    {a : Addr} {m c2 : Nat} {more : List (List Value)} (hsl : SlR w (some a) sz more) (hm : more.length = m) (hms : ∀ r ∈ more, r.length = sz) (h1 : ∀ r ∈ more, ∀ u ∈ r, isCell u = true) (hroom : n + m ≤ c) (ht : e ∉ tys) (hB : B ≤ w.heap.size) {K : Option Addr → Nat → Nat → World → Prop}
    (h : ∀ w2, OwnR w2 B e (some ⟨g, 0, none⟩) (n + m) c sz (rows ++ more) → w.grownBy w2 (some g) → Below B0 w w2 → K (some ⟨g, 0, none⟩) (n + m) c w2) :
    RunOk Tryz.prog (Builtin.append_ #[t, t] ty #[.slice (some ⟨g, 0, none⟩) n c, .slice (some a) m c2]) B0 tys w fun r w2 => ∃ A n c, r = .slice A n c ∧ K A n c w2 := by
  obtain ⟨i, z, h2, h3, h4, h5, h6⟩ := el.info
  have hlen : more.flatten.length = m * sz := by rw [flatten_len _ hms, hm]
  obtain ⟨w', hr, hown, hg⟩ := run_append_fits (P := Tryz.prog) w B t ty e i sz el.und h2 h4 g n c rows.flatten ho.1 a m c2 more.flatten hlen (fun j u hu => by
    rcases hsl with hsl | ⟨b, off, cs, ty, fr, hA, hh, hc⟩
    · subst hsl; simp at hu
    · cases hA
      rw [add_plain0]
      simp only [World.cell?, hh]
      have := flat_cell more off hms (fun i hi j hj => (hc i hi j hj).2) j u hu
      simpa using this) (fun u hu => by
    obtain ⟨r, hr, hu2⟩ := List.mem_flatten.1 hu
    exact oneCell'_of (h1 r hr u hu2)) hroom
  have hbel : Below B0 w w' := below_grown hg (fun k hk => by cases hk; exact Nat.le_trans hBB (World.ownsRow.lt ho.1 g rfl).1) (Nat.le_trans hBB hB)
  refine ⟨_, w', hr, hbel, hbel.size, kept_grown (v := .slice (some ⟨g, 0, none⟩) n c) hg ho.1 ht, _, _, _, rfl, h w' ⟨by rw [List.flatten_append]; exact hown, by simp [ho.len, hm], fun r hr => ?_⟩ hg hbel⟩
  rcases List.mem_append.1 hr with h | h
  · exact ho.2.2 r h
  · exact hms r h
theorem run_slice3 (A : Option Addr) (n c i j : Nat) (hij : i ≤ j) (hjn : j ≤ n) (hnc : n ≤ c) (w : World) : ∃ v, (Instr.sliceAt 26 (.slice A n c) (some (.int .i64 (i : Int))) (some (.int .i64 (j : Int))) (some (.int .i64 (n : Int)))).run Tryz.prog w = .ok v w ∧ ∃ A' n' c', v = .slice A' n' c' := by
  obtain ⟨q, z, h2, h3, h4, h5, h6⟩ := el_Sws.info
  have b1 : ∀ {code : BoundsCode}, (Instr.sliceBound (.int .i64 (n : Int)) c code).run Tryz.prog w = .ok n w := fun {code} => by
    have := Go.run_sliceBound (P := Tryz.prog) w .i64 (n : Int) c code (by omega) (by omega)
    simpa using this
  have b2 : ∀ {code : BoundsCode}, (Instr.sliceBound (.int .i64 (j : Int)) n code).run Tryz.prog w = .ok j w := fun {code} => by
    have := Go.run_sliceBound (P := Tryz.prog) w .i64 (j : Int) n code (by omega) (by omega)
    simpa using this
  have b3 : ∀ {code : BoundsCode}, (Instr.sliceBound (.int .i64 (i : Int)) j code).run Tryz.prog w = .ok i w := fun {code} => by
    have := Go.run_sliceBound (P := Tryz.prog) w .i64 (i : Int) j code (by omega) (by omega)
    simpa using this
  refine ⟨.slice (if n = i then A else A.map (·.add (i * q.size))) (j - i) (n - i), ?_, _, _, _, rfl⟩
  simp [Instr.sliceAt, Instr.slice, Instr.sliceBounds, run_underlying el_Sws.und, b1, b2, b3, sizeOf, typeInfo, h2]
theorem DeleteS {w : World} {B : Nat} (hB : B ≤ w.heap.size) {A : Option Addr} {n c : Nat} {l : List Sw} (ho : OwnR w B 35 A n c 3 (l.map Sw.row)) (hn : n < 2147483648) {i : Nat} (hi : i < n) :
    PureB Tryz.prog 67 #[.slice A n c, .int .i64 (i : Int), .int .i64 ((i + 1 : Nat) : Int)] B w fun v w' => ∃ m, v = .slice A m c ∧ OwnR w' B 35 A m c 3 ((l.take i ++ l.drop (i + 1)).map Sw.row) ∧ Oth A w w' := by
  have hlen : l.length = n := by have := ho.len; simpa using this
  have hnc := ho.len_le
  have hA : ∃ g, A = some ⟨g, 0, none⟩ := by
    rcases ho.1.2 with ⟨h0, h3⟩ | ⟨g, cap, cur, h3, _⟩
    · omega
    · cases h3; exact ⟨g, rfl⟩
  obtain ⟨g, rfl⟩ := hA
  obtain ⟨v, hr, A', n', c', rfl⟩ := run_slice3 (some ⟨g, 0, none⟩) n c i (i + 1) (by omega) (by omega) hnc w
  refine F.slices_Delete_api_Stow_api_Stow.vcB _ _ _ _ _ _ _ hB _ ⟨_, w, hr, Below.refl _ _, Nat.le_refl _, fun _ _ _ _ _ => rfl, _, _, _, rfl, fun h => by omega, fun _ => ⟨by omega, by omega, fun w2 x2 => ?_⟩⟩
  rw [Int.toNat_natCast, Int.toNat_natCast]
  have o2 := ho.extNil x2
  have os := o2.short (m := i) (by omega)
  rw [← List.map_take] at os
  have hs2 : ∃ a, cutAddr (some (⟨g, 0, none⟩ : Addr)) (i + 1) c 3 = some a := by
    unfold cutAddr
    split
    · exact ⟨_, rfl⟩
    · exact ⟨_, rfl⟩
  obtain ⟨a, ha⟩ := hs2
  have hsl := o2.sl.dropS (k := i + 1) (c := c) (by simp; omega)
  rw [ha] at hsl ⊢
  rw [← List.map_drop] at hsl
  refine runOk_appendFits el_Sws (Nat.le_refl _) os hsl (by simp; omega) rowS_len rowS_cell (by omega) (by simp) (Nat.le_trans hB x2.below.size) fun w3 o3 g3 b3 => ⟨by omega, ?_⟩
  have em : i + (n - (i + 1)) = n - 1 := by omega
  rw [← List.map_append] at o3
  rw [Int.toNat_natCast, Int.toNat_natCast]
  refine runOk_clear el_Sws zeroSw (by simp [Value.cells, isCell]) o3 (by omega) hnc fun w4 o4 b4 k4 => ⟨_, rfl, o4, ?_⟩
  have t2 : Oth (some ⟨g, 0, none⟩) w w2 := ⟨x2.below.size, fun k hk _ => by
    rcases x2.other k hk with h | ⟨t, ht, _⟩
    · exact h
    · simp at ht⟩
  have t3 : Oth (some ⟨g, 0, none⟩) w2 w3 := ⟨g3.size, fun k hk hka => g3.block k hk fun e => by cases e; exact hka _ rfl rfl⟩
  exact (t2.trans t3).trans ⟨b4.size, k4⟩

theorem ins_takeS {xs L x : List Value} {p q N : Nat} (hxl : xs.length = N) (hx : x.length = q) (hp : p ≤ N) (h1 : ∀ k, k < p → L[k]? = xs[k]?) (h2 : ∀ k, k < q → L[p + k]? = x[k]?) (h3 : ∀ k, p ≤ k → k < N → L[k + q]? = xs[k]?) : L.take (N + q) = xs.take p ++ x ++ xs.drop p := by
  apply List.ext_getElem?
  intro k
  rw [List.getElem?_take, List.append_assoc]
  have hl : (xs.take p).length = p := by simp; omega
  by_cases hk : k < p
  · rw [if_pos (by omega), List.getElem?_append_left (by omega), List.getElem?_take, if_pos hk, h1 k hk]
  · rw [List.getElem?_append_right (by omega), hl]
    by_cases hk2 : k < p + q
    · rw [if_pos (by omega), List.getElem?_append_left (by omega)]
      have := h2 (k - p) (by omega)
      rwa [show p + (k - p) = k by omega] at this
    · rw [List.getElem?_append_right (by omega), hx, List.getElem?_drop]
      by_cases hk3 : k < N + q
      · rw [if_pos hk3]
        have := h3 (k - q) (by omega) (by omega)
        rw [show k - q + q = k by omega] at this
        rw [this]
        congr 1
        omega
      · rw [if_neg hk3, List.getElem?_eq_none (by omega)]
theorem InsertS {w : World} {B : Nat} (hB : B ≤ w.heap.size) {A : Option Addr} {n c : Nat} {l : List Sw} (hor : OwnR w B 35 A n c 3 (l.map Sw.row)) (hn : n ≤ 1000) {i : Nat} (hi : i ≤ n)
    {vb cc : Nat} {s : Sw} (hvr : OwnR w B 35 (some ⟨vb, 0, none⟩) 1 cc 3 [s.row]) (hne : ∀ a, A = some a → a.block ≠ vb) :
    PureB Tryz.prog 66 #[.slice A n c, .int .i64 (i : Int), .slice (some ⟨vb, 0, none⟩) 1 cc] B w fun v w' => ∃ A' c', v = .slice A' (n + 1) c' ∧ OwnR w' B 35 A' (n + 1) c' 3 ((l.take i ++ s :: l.drop i).map Sw.row) ∧ Oth A w w' := by
  have hlen : l.length = n := by have := hor.len; simpa using this
  have hnc := hor.len_le
  have hrl : ∀ r ∈ l.map Sw.row, r.length = 3 := rowS_len
  have hll : (l.map Sw.row).length = n := by simp [hlen]
  obtain ⟨xs, hxs⟩ : ∃ xs, xs = (l.map Sw.row).flatten := ⟨_, rfl⟩
  have ho := hor.1
  rw [← hxs] at ho
  obtain ⟨x, hx⟩ : ∃ x : List Value, x = s.row := ⟨_, rfl⟩
  have hxn : x.length = 3 := by rw [hx]; rfl
  have hx1 : ∀ v ∈ x, isCell v = true := by
    rw [hx]; intro v hv; simp only [Sw.row, List.mem_cons, List.not_mem_nil, or_false] at hv
    rcases hv with rfl | rfl | rfl <;> rfl
  have h1 : ∀ v ∈ xs, isCell v = true := by
    intro v hv
    rw [hxs] at hv
    obtain ⟨r, hr, hu2⟩ := List.mem_flatten.1 hv
    exact rowS_cell r hr v hu2
  have hxl : xs.length = n * 3 := ho.1
  -- the result, out of the cells
  have fin : ∀ (A' : Option Addr) (c' : Nat) (w' : World), w'.ownsRow B 35 3 (.slice A' (n + 1) c') (n + 1) (xs.take (i * 3) ++ x ++ xs.drop (i * 3)) → OwnR w' B 35 A' (n + 1) c' 3 ((l.take i ++ s :: l.drop i).map Sw.row) := fun A' c' w' h => by
    have e : ((l.take i ++ s :: l.drop i).map Sw.row).flatten = xs.take (i * 3) ++ x ++ xs.drop (i * 3) := by
      rw [List.map_append, List.map_cons, List.flatten_append, List.flatten_cons, List.map_take, List.map_drop, flatten_take hrl (by omega), flatten_drop hrl (by omega), ← hxs, ← hx, List.append_assoc]
    exact ⟨by rw [e]; exact h, by simp; omega, rowS_len⟩
  obtain ⟨cv, hBv, hv, hvt, hvs⟩ : ∃ cv : Array Value, B ≤ vb ∧ w.heap[vb]? = some (.cells cv 35 (0, 0)) ∧ cv.toList.take 3 = x ∧ cv.size = cc * 3 := by
    rcases hvr.1.2 with ⟨e1, _⟩ | ⟨g, cap, cur, e1, e2, e3, e4, e5, e6, e7⟩
    · cases e1
    · cases e1
      exact ⟨cur, e2, e3, by rw [hx]; simpa using e7, e6⟩
  have hcc : 1 ≤ cc := hvr.len_le
  have hsrcv : ∀ {w' : World}, w'.heap[vb]? = some (.cells cv 35 (0, 0)) → ∀ j v, x[j]? = some v → w'.cell? ((⟨vb, 0, none⟩ : Addr).add j) = some v := by
    intro w' hv' j v hj
    rw [add_plain0]
    simp only [World.cell?, hv', Nat.zero_add]
    rw [← hvt, List.getElem?_take] at hj
    split at hj
    · simpa using hj
    · cases hj
  refine F.slices_Insert_api_Stow_api_Stow.vcB _ _ _ _ _ _ _ _ w hB _ ⟨by omega, fun h => by omega, fun _ => ⟨fun h => ?_, fun h => ⟨by simp only [inR]; omega, fun h2 => ?_, fun h2 => ?_⟩⟩⟩
  · -- at the end
    have hin : i = n := by omega
    subst hin
    refine runOk_append (P := Tryz.prog) (ty := 26) el_Sws (Nat.le_refl B) (tys := []) ho (a := ⟨vb, 0, none⟩) (m := 1) (c := cc) (news := x) (by rw [hxn]) (hsrcv hv) hx1 hB (by omega) (by simp) fun A' c' w2 k1 k2 k3 => ⟨A', c', rfl, fin _ _ _ ?_, k2.size, fun k hk hka => k2.block k hk fun e => ?_⟩
    · rw [List.take_of_length_le (by omega), List.drop_eq_nil_of_le (by omega), List.append_nil]
      exact k1
    · cases A with
      | none => simp [Value.ownBlock] at e
      | some a => simp [Value.ownBlock] at e; exact hka a rfl e
  · -- no room: a new row
    have hA : ∃ g, A = some ⟨g, 0, none⟩ ∧ ∃ cur : Array Value, B ≤ g ∧ w.heap[g]? = some (.cells cur 35 (0, 0)) ∧ cur.toList.take (n * 3) = xs := by
      rcases ho.2 with ⟨h0, h3⟩ | ⟨g, cap, cur, h3, h4, h5, h6, h7, h8, h9⟩
      · omega
      · cases h3
        exact ⟨g, rfl, cur, h4, h5, h9⟩
    obtain ⟨g, rfl, cur, hBg, hg, hcur⟩ := hA
    have hin : i < n := by omega
    obtain ⟨i0, z, e2, e3, e4, e5, e6⟩ := el_Sws.info
    have hgs : ∀ {w' : World}, w'.heap[g]? = some (.cells cur 35 (0, 0)) → ∀ j v, xs[j]? = some v → w'.cell? ((⟨g, 0, none⟩ : Addr).add j) = some v := fun {w'} hg' j v hj => by
      rw [add_plain0]
      simp only [World.cell?, hg', Nat.zero_add]
      rw [← hcur, List.getElem?_take] at hj
      split at hj
      · simpa using hj
      · cases hj
    have hold : (Builtin.firstCells i0.size i (.slice (some ⟨g, 0, none⟩) i c)).run Tryz.prog w.drew = .ok (xs.take (i * 3)).toArray w.drew := by
      rw [e4]
      exact run_firstCells_some w.drew 3 i ⟨g, 0, none⟩ i c (xs.take (i * 3)) (by rw [List.length_take]; omega) (fun j v hj => by
        rw [List.getElem?_take] at hj
        split at hj
        · exact hgs (w' := w.drew) hg j v hj
        · cases hj)
    have hik : i + (n + 1 - i) = n + 1 := by omega
    have hbig : (n + 1) * 24 ≤ 140737488355328 := by omega
    have hrz := Lib.run_append_grow_zeros w 26 3 26 35 i0 z .i64 .i64 el_Sws.und Tryz.underlying3 e2 e3 (some ⟨g, 0, none⟩) i c (xs.take (i * 3)) hold (n + 1 - i) (by omega) (by omega) (by omega) (by omega) (by rw [e5]; omega) (by rw [e5, hik]; exact growslice_fits (by omega) hbig)
    rw [hik] at hrz
    obtain ⟨G, hG⟩ : ∃ G, G = grownCap w (n + 1) c 35 := ⟨_, rfl⟩
    have hGn : n + 1 ≤ G := by rw [hG]; exact grownCap_ge w _ _ _
    have hGm : G ≤ maxLen := by rw [hG]; exact grownCap_le_maxLen w (n + 1) c _ (by unfold maxLen; omega)
    rw [← hG] at hrz
    obtain ⟨R0, hR0⟩ : ∃ R0 : List Value, R0 = ((xs.take (i * 3)).toArray ++ Builtin.zeroCells z.cells (n + 1 - i) ++ Builtin.zeroCells z.cells (G - (n + 1))).toList := ⟨_, rfl⟩
    have hR0a : ((xs.take (i * 3)).toArray ++ Builtin.zeroCells z.cells (n + 1 - i) ++ Builtin.zeroCells z.cells (G - (n + 1))) = R0.toArray := by rw [hR0]
    have hR0l : R0.length = G * 3 := by
      rw [hR0]
      simp only [Array.length_toList, Array.size_append, List.size_toArray, List.length_take, size_zeroCells, e6]
      omega
    have hR0p : ∀ k, k < i * 3 → R0[k]? = xs[k]? := fun k hk => by
      rw [hR0]
      simp only [Array.toList_append, List.append_assoc]
      rw [List.getElem?_append_left (by simp; omega), List.getElem?_take, if_pos hk]
    rw [hR0a] at hrz
    have ekk : ((n : Int) + ((1 : Nat) : Int)) - (i : Int) = ((n + 1 - i : Nat) : Int) := by omega
    have eN : ((i : Int)).toNat = i := Int.toNat_natCast i
    have hgrow : w.grownBy (w.drew.alloc (.cells R0.toArray 35)) none := ⟨rfl, rfl, rfl, by simp, fun k hk _ => RowKit.Below.heap_alloc w.drew _ k hk⟩
    have hb1 := below_grown (B := B) hgrow (by simp) hB
    have hnew : (w.drew.alloc (.cells R0.toArray 35)).heap[w.heap.size]? = some (.cells R0.toArray 35 (0, 0)) := heap_alloc_new w.drew _
    obtain ⟨W1, hW1⟩ : ∃ W1, W1 = w.drew.alloc (.cells R0.toArray 35) := ⟨_, rfl⟩
    rw [← hW1] at hrz hgrow hb1 hnew
    have gl := (Array.getElem?_eq_some_iff.1 hg).1
    have vl := (Array.getElem?_eq_some_iff.1 hv).1
    have e1N : ((i : Int) + ((1 : Nat) : Int)).toNat = i + 1 := by omega
    rw [eN, ekk]
    refine ⟨by omega, by simp only [inR]; omega, by simp only [inR]; omega, _, W1, hrz, hb1, hgrow.size, fun k ty cs h => (by cases h), _, _, _, rfl, by omega, ?_⟩
    rw [cut3 (by omega)]
    refine runOk_copyS el_Sws (cs := x) (cur := R0) (by rw [hxn]; simp only [Nat.min_def]; split <;> omega) (hsrcv (by rw [hgrow.block vb vl (by simp)]; exact hv)) hnew (by omega) hx1 hB (by simp) fun w2 c1 c2 c3 c4 => ⟨by simp only [inR]; omega, by omega, by omega, fun w3 x3 => ?_⟩
    rw [e1N, cut3 (by omega), cut3 (by omega)]
    have d1 := ext_nil x3 c1
    have hg3 : w3.heap[g]? = some (.cells cur 35 (0, 0)) := ext_nil x3 (by rw [c2 g (by omega), hgrow.block g gl (by simp)]; exact hg)
    have hdl : (xs.drop (i * 3)).length = (n - i) * 3 := by rw [List.length_drop, hxl]; omega
    refine runOk_copyS el_Sws (cs := xs.drop (i * 3)) (cur := setCells R0 (i * 3) x) (by rw [hdl]; simp only [Nat.min_def]; split <;> omega) (fun j v hj => ?_) d1 (by rw [setCells_len, hdl]; omega) (fun v hv2 => h1 v (List.mem_of_mem_drop hv2)) hB (by simp) fun w4 f1 f2 f3 f4 => ?_
    · rw [List.getElem?_drop] at hj
      have := hgs hg3 (i * 3 + j) v hj
      rw [add_plain0] at this ⊢
      simpa using this
    refine ⟨_, _, rfl, fin _ _ _ ⟨by simp [hxl, hxn]; omega, .inr ⟨w.heap.size, G, _, rfl, hB, f1, hGn, hGm, by simp [setCells_len, hR0l], ?_⟩⟩, ?_, fun k hk hka => ?_⟩
    · have hlen1 : i * 3 + x.length ≤ R0.length := by omega
      have hlen2 : (i + 1) * 3 + (xs.drop (i * 3)).length ≤ (setCells R0 (i * 3) x).length := by rw [setCells_len, hdl]; omega
      have := ins_takeS (L := setCells (setCells R0 (i * 3) x) ((i + 1) * 3) (xs.drop (i * 3))) (x := x) (p := i * 3) hxl hxn (by omega) (fun k hk => by
          rw [setCells_get _ _ _ _ hlen2, if_neg (by omega), setCells_get _ _ _ _ hlen1, if_neg (by omega)]
          exact hR0p k hk)
        (fun k hk => by
          rw [setCells_get _ _ _ _ hlen2, if_neg (by omega), setCells_get _ _ _ _ hlen1, if_pos (by omega)]
          rw [show i * 3 + k - i * 3 = k by omega])
        (fun k hk hk2 => by
          rw [setCells_get _ _ _ _ hlen2, if_pos (by rw [hdl]; omega), List.getElem?_drop]
          rw [show i * 3 + (k + 3 - (i + 1) * 3) = k by omega])
      rw [show (n + 1) * 3 = n * 3 + 3 by omega]
      simpa using this
    · have := x3.below.size; have := hgrow.size; omega
    · rw [f2 k (by omega)]
      rcases x3.other k (by rw [c3]; have := hgrow.size; omega) with h7 | ⟨t, ht, _⟩
      · rw [h7, c2 k (by omega), hgrow.block k hk (by simp)]
      · simp at ht
  · -- there is room
    have hin : i < n := by omega
    have hA : ∃ g, A = some ⟨g, 0, none⟩ ∧ ∃ cur : Array Value, B ≤ g ∧ w.heap[g]? = some (.cells cur 35 (0, 0)) ∧ cur.toList.take (n * 3) = xs ∧ cur.size = c * 3 ∧ c ≤ maxLen := by
      rcases ho.2 with ⟨h0, h3⟩ | ⟨g, cap, cur, h3, h4, h5, h6, h7, h8, h9⟩
      · omega
      · cases h3
        exact ⟨g, rfl, cur, h4, h5, h9, h8, h7⟩
    obtain ⟨g, rfl, cur, hBg, hg, hcur, hcs, hcm⟩ := hA
    have hgv : g ≠ vb := hne _ rfl
    have eN : ((i : Int)).toNat = i := Int.toNat_natCast i
    have e1N : ((i : Int) + ((1 : Nat) : Int)).toNat = i + 1 := by omega
    have enN : ((n : Int) + ((1 : Nat) : Int)).toNat = n + 1 := by omega
    obtain ⟨L, hL⟩ : ∃ L : List Value, L = cur.toList := ⟨_, rfl⟩
    have hLa : cur = L.toArray := by rw [hL]
    rw [← hL] at hcur
    have hLl : L.length = c * 3 := by rw [hL]; simpa using hcs
    rw [hLa] at hg
    have hgs : ∀ j v, xs[j]? = some v → L[j]? = some v := fun j v hj => by
      rw [← hcur, List.getElem?_take] at hj
      split at hj
      · exact hj
      · cases hj
    have hov := Lib.run_overlaps_apart w 26 4 35 el_Sws.und 3 Tryz.sizeOf35 ⟨vb, 0, none⟩ ⟨g, (i + 1) * 3, none⟩ 1 cc (n + 1 - (i + 1)) (c - (i + 1)) (fun e => hgv e.symm) 35 35 (cc * 3) (c * 3) (by simp [World.shape?, hv, hvs]) (by simp [World.shape?, hg, hLl]) (by omega) (Lib.frozen_of_heap hv _) (Lib.frozen_of_heap hv _)
    have hco : (callFunc 105 #[.slice (some ⟨vb, 0, none⟩) 1 cc, .slice (some ⟨g, (i + 1) * 3, none⟩) (n + 1 - (i + 1)) (c - (i + 1))]).run Tryz.prog w = .ok (.value (.bool false)) w := by
      rw [run_callFunc_extern Tryz.func105 (by kernel_rfl) (by kernel_rfl) (by kernel_rfl) (e := Extern.SlicesOverlaps.overlaps #[26, 26] #[4]) (by kernel_rfl), hov]
      rfl
    rw [e1N, enN, eN]
    have hc1 : n + 1 ≤ c := by omega
    rw [cut3 (by omega), cut3 (by omega)]
    have hxd : (xs.drop (i * 3)).length = (n - i) * 3 := by rw [List.length_drop, hxl]; omega
    refine ⟨by simp only [inR]; omega, by omega, by simp only [inR]; omega, by omega, _, w, hco, Below.refl _ _, Nat.le_refl _, fun k ty cs h => (by cases h), _, rfl, fun _ => ⟨by simp only [inR]; omega, by omega, by omega, fun w1 x1 => ?_⟩, fun h => absurd rfl h⟩
    have g1 : w1.heap[g]? = some (.cells L.toArray 35 (0, 0)) := ext_nil x1 hg
    have v1 : w1.heap[vb]? = some (.cells cv 35 (0, 0)) := ext_nil x1 hv
    refine runOk_copyS el_Sws (cs := xs.drop (i * 3)) (cur := L) (by rw [hxd]; simp only [Nat.min_def]; split <;> omega) (fun j v hj => ?_) g1 (by rw [hxd]; omega) (fun v hv2 => h1 v (List.mem_of_mem_drop hv2)) hBg (by simp) fun w2 c1 c2 c3 c4 => ⟨by omega, ?_⟩
    · rw [List.getElem?_drop] at hj
      have := hgs (i * 3 + j) v hj
      rw [add_plain0]
      simp only [World.cell?, g1]
      simpa using this
    refine runOk_copyS el_Sws (cs := x) (cur := setCells L ((i + 1) * 3) (xs.drop (i * 3))) (by rw [hxn]; simp only [Nat.min_def]; split <;> omega) (hsrcv (by rw [c2 vb (fun e => hgv e.symm)]; exact v1)) c1 (by rw [setCells_len]; omega) hx1 hBg (by simp) fun w3 d1 d2 d3 d4 => ?_
    refine ⟨_, _, rfl, fin _ _ _ ⟨by simp [hxl, hxn]; omega, .inr ⟨g, c, _, rfl, hBg, d1, by omega, hcm, by simp [setCells_len, hLl], ?_⟩⟩, ?_, fun k hk hka => ?_⟩
    · have hlen1 : (i + 1) * 3 + (xs.drop (i * 3)).length ≤ L.length := by rw [hxd]; omega
      have hlen2 : i * 3 + x.length ≤ (setCells L ((i + 1) * 3) (xs.drop (i * 3))).length := by rw [setCells_len]; omega
      have := ins_takeS (L := setCells (setCells L ((i + 1) * 3) (xs.drop (i * 3))) (i * 3) x) (x := x) (p := i * 3) hxl hxn (by omega) (fun k hk => by
          rw [setCells_get _ _ _ _ hlen2, if_neg (by omega), setCells_get _ _ _ _ hlen1, if_neg (by omega)]
          obtain ⟨v, hv3⟩ : ∃ v, xs[k]? = some v := ⟨xs[k]'(by omega), List.getElem?_eq_getElem _⟩
          rw [hv3, hgs k v hv3])
        (fun k hk => by
          rw [setCells_get _ _ _ _ hlen2, if_pos (by omega)]
          rw [show i * 3 + k - i * 3 = k by omega])
        (fun k hk hk2 => by
          rw [setCells_get _ _ _ _ hlen2, if_neg (by omega), setCells_get _ _ _ _ hlen1, if_pos (by rw [hxd]; omega), List.getElem?_drop]
          rw [show i * 3 + (k + 3 - (i + 1) * 3) = k by omega])
      rw [show (n + 1) * 3 = n * 3 + 3 by omega]
      simpa using this
    · have := x1.below.size; omega
    · have hkg : k ≠ g := hka _ rfl
      rw [d2 k hkg, c2 k hkg]
      rcases x1.other k hk with h7 | ⟨t, ht, _⟩
      · exact h7
      · simp at ht
end Go.Proofs.YtdnelnicnjplpaaGreatDoor.B

namespace Go.Proofs.YtdnelnicnjplpaaGreatDoor.B
open Go Go.RowKit Go.Proofs Go.Proofs.YtdnelnicnjplpaaGreatDoor.Vc

def gP (ps : List Pa) (f : Pa → ByteArray) (id : Int) : Rat := match (pix ps id).bind fun i => ps[i]? with | some p => qR (f p) | none => 0
def gH (hs : List Ho) (f : Ho → ByteArray) (id : Int) : Rat := match (hix hs id).bind fun i => hs[i]? with | some h => qR (f h) | none => 0
def tP (ps : List Pa) (f : Pa → ByteArray) (s : Sw) : Rat := (s.units : Rat) * gP ps f s.parcel
def tH (ps : List Pa) (hs : List Ho) (f : Ho → ByteArray) (s : Sw) : Rat := (s.units : Rat) * gP ps Pa.mass s.parcel * gH hs f s.hold
abbrev ldV (a b c x y z : Rat) : Value := .agg #[.string (rS a), .string (rS b), .string (rS c), .string (rS x), .string (rS y), .string (rS z)]
def ldF (ps : List Pa) (hs : List Ho) (l : List Sw) : Value := ldV (sumR (tP ps Pa.mass) l) (sumR (tP ps Pa.vol) l) (sumR (tP ps Pa.worth) l) (sumR (tH ps hs Ho.x) l) (sumR (tH ps hs Ho.y) l) (sumR (tH ps hs Ho.z) l)
theorem gP_at {ps : List Pa} {id : Int} {i : Nat} {p : Pa} (h : pix ps id = some i) (e : ps[i]? = some p) (f : Pa → ByteArray) : gP ps f id = qR (f p) := by
  unfold gP; rw [h, Option.bind_some, e]
theorem gH_at {hs : List Ho} {id : Int} {i : Nat} {p : Ho} (h : hix hs id = some i) (e : hs[i]? = some p) (f : Ho → ByteArray) : gH hs f id = qR (f p) := by
  unfold gH; rw [h, Option.bind_some, e]
theorem sumR_snoc (f : Sw → Rat) (l : List Sw) (s : Sw) : sumR f (l ++ [s]) = sumR f l + f s := by rw [sumR_append, sumR_one]
theorem pix_lt {ps : List Pa} {id : Int} {i : Nat} (h : pix ps id = some i) : ∃ hi : i < ps.length, ps[i].id = id := by
  obtain ⟨p, e, k⟩ := pix_some h
  obtain ⟨hi, rfl⟩ := List.getElem?_eq_some_iff.1 e
  exact ⟨hi, k⟩
theorem hix_lt {hs : List Ho} {id : Int} {i : Nat} (h : hix hs id = some i) : ∃ hi : i < hs.length, hs[i].id = id := by
  obtain ⟨p, e, k⟩ := hix_some h
  obtain ⟨hi, rfl⟩ := List.getElem?_eq_some_iff.1 e
  exact ⟨hi, k⟩
structure LdOk (ps : List Pa) (hs : List Ho) (l : List Sw) : Prop where
  c : RightC ps hs
  known : ∀ s ∈ l, ∃ i k, pix ps s.parcel = some i ∧ hix hs s.hold = some k
  u : ∀ s ∈ l, 1 ≤ s.units ∧ s.units ≤ 9
  n : l.length ≤ 40
theorem LdOk.filter {ps : List Pa} {hs : List Ho} {l : List Sw} (h : LdOk ps hs l) (q : Sw → Bool) : LdOk ps hs (l.filter q) :=
  ⟨h.c, fun s hs' => h.known s (List.mem_filter.1 hs').1, fun s hs' => h.u s (List.mem_filter.1 hs').1, Nat.le_trans (List.length_filter_le _ _) h.n⟩
theorem units_mem {l : List Sw} (h : ∀ s ∈ l, 1 ≤ s.units) {s : Sw} (hs : s ∈ l) : s.units ≤ unitsF l s.parcel := by
  obtain ⟨a, b, rfl⟩ := List.append_of_mem hs
  rw [show a ++ s :: b = a ++ ([s] ++ b) from rfl, unitsF_append, unitsF_append, unitsF_one, if_pos rfl]
  have h1 := unitsF_nonneg (l := a) (fun x hx => h x (by simp [hx])) s.parcel
  have h2 := unitsF_nonneg (l := b) (fun x hx => h x (by simp [hx])) s.parcel
  omega
theorem RightS.ld {ps : List Pa} {hs : List Ho} {l : List Sw} (h : RightS ps hs l) (hn : l.length ≤ 40) : LdOk ps hs l := by
  refine ⟨h.c, h.known, fun s hs' => ⟨h.pos s hs', ?_⟩, hn⟩
  obtain ⟨i, k, hi, _⟩ := h.known s hs'
  obtain ⟨p, e, hid⟩ := pix_some hi
  have hm := List.mem_of_getElem? e
  have h1 := h.full p hm
  have h2 := units_mem h.pos hs'
  have h3 := (h.c.p1 p hm).2.1.2
  rw [hid] at h1
  omega
theorem sm_n {z : Int} (h1 : 1 ≤ z) (h9 : z ≤ 9) : Sm 1 (z : Rat) := Sm.ofInt (by omega) (by omega)
theorem sm_sum {f : Sw → Rat} {l : List Sw} (h : ∀ s ∈ l, Sm 2001 (f s)) : Sm (2002 * l.length + 1) (sumR f l) := by
  induction l with
  | nil => exact Sm.zero (by omega)
  | cons s r ih =>
    rw [show s :: r = [s] ++ r from rfl, sumR_append, sumR_one]
    refine ((h s (by simp)).add (ih fun x hx => h x (by simp [hx]))).mono ?_
    simp
    omega

section
variable {w0 : World} {A0 A1 A : Option Addr} {n0 c0 n1 c1 n c : Nat} {ps : List Pa} {hs : List Ho} {l : List Sw} {R : Value → World → Prop}
theorem LdOk.smP (h : LdOk ps hs l) (hc : CgIn w0 A0 n0 A1 n1 ps hs) {s : Sw} (hs' : s ∈ l) : Sm 1000 (gP ps Pa.mass s.parcel) ∧ Sm 1000 (gP ps Pa.vol s.parcel) ∧ Sm 1000 (gP ps Pa.worth s.parcel) := by
  obtain ⟨i, k, hi, _⟩ := h.known s hs'
  obtain ⟨p, e, _⟩ := pix_some hi
  have hm := List.mem_of_getElem? e
  have hv := h.c.vp p hm
  have hsm := hc.sp p hm
  unfold vP at hv
  simp only [Bool.and_eq_true] at hv
  rw [gP_at hi e, gP_at hi e, gP_at hi e]
  exact ⟨vR_sm hv.1.1 hsm.mass, vR_sm hv.1.2 hsm.vol, vR_sm hv.2 hsm.worth⟩
theorem LdOk.smH (h : LdOk ps hs l) (hc : CgIn w0 A0 n0 A1 n1 ps hs) {s : Sw} (hs' : s ∈ l) : Sm 1000 (gH hs Ho.x s.hold) ∧ Sm 1000 (gH hs Ho.y s.hold) ∧ Sm 1000 (gH hs Ho.z s.hold) := by
  obtain ⟨_, i, _, hi⟩ := h.known s hs'
  obtain ⟨p, e, _⟩ := hix_some hi
  have hm := List.mem_of_getElem? e
  have hv := h.c.vh p hm
  have hsm := hc.sh p hm
  unfold vH at hv
  simp only [Bool.and_eq_true] at hv
  rw [gH_at hi e, gH_at hi e, gH_at hi e]
  exact ⟨vR_sm hv.1.1.2 hsm.x, vR_sm hv.1.2 hsm.y, vR_sm hv.2 hsm.z⟩
theorem LdOk.smT (h : LdOk ps hs l) (hc : CgIn w0 A0 n0 A1 n1 ps hs) {s : Sw} (hs' : s ∈ l) :
    (Sm 2001 (tP ps Pa.mass s) ∧ Sm 2001 (tP ps Pa.vol s) ∧ Sm 2001 (tP ps Pa.worth s)) ∧ (Sm 2001 (tH ps hs Ho.x s) ∧ Sm 2001 (tH ps hs Ho.y s) ∧ Sm 2001 (tH ps hs Ho.z s)) := by
  obtain ⟨a, b, d⟩ := h.smP hc hs'
  obtain ⟨x, y, z⟩ := h.smH hc hs'
  have hn := sm_n (h.u s hs').1 (h.u s hs').2
  exact ⟨⟨(hn.mul a).mono (by omega), (hn.mul b).mono (by omega), (hn.mul d).mono (by omega)⟩, ((hn.mul a).mul x).mono (by omega), ((hn.mul a).mul y).mono (by omega), ((hn.mul a).mul z).mono (by omega)⟩
theorem LdOk.smL (h : LdOk ps hs l) (hc : CgIn w0 A0 n0 A1 n1 ps hs) :
    (Big (sumR (tP ps Pa.mass) l) ∧ Big (sumR (tP ps Pa.vol) l) ∧ Big (sumR (tP ps Pa.worth) l)) ∧ (Big (sumR (tH ps hs Ho.x) l) ∧ Big (sumR (tH ps hs Ho.y) l) ∧ Big (sumR (tH ps hs Ho.z) l)) := by
  have hn := h.n
  exact ⟨⟨(sm_sum fun s hs' => (h.smT hc hs').1.1).mono (by omega), (sm_sum fun s hs' => (h.smT hc hs').1.2.1).mono (by omega), (sm_sum fun s hs' => (h.smT hc hs').1.2.2).mono (by omega)⟩,
    (sm_sum fun s hs' => (h.smT hc hs').2.1).mono (by omega), (sm_sum fun s hs' => (h.smT hc hs').2.2.1).mono (by omega), (sm_sum fun s hs' => (h.smT hc hs').2.2.2).mono (by omega)⟩
theorem LdOk.take (h : LdOk ps hs l) (i : Nat) : LdOk ps hs (l.take i) :=
  ⟨h.c, fun s hs' => h.known s (List.mem_of_mem_take hs'), fun s hs' => h.u s (List.mem_of_mem_take hs'), by have := h.n; rw [List.length_take]; omega⟩

theorem laden_L3 (hg : Glob w0) (hc : CgIn w0 A0 n0 A1 n1 ps hs) (h : SlR w0 A 3 (l.map Sw.row)) (hl : l.length = n) (hok : LdOk ps hs l) (t0 t1 t2 t3 t4 t5 : ByteArray) :
    ∀ (d i : Nat) (w : World), n - i = d → i ≤ n → Below w0.heap.size w0 w →
      F.cargo_laden.L3 A n c n i A0 n0 c0 A1 n1 c1 t0 t1 t2 t3 t4 t5 (rS (sumR (tP ps Pa.mass) (l.take i))) (rS (sumR (tP ps Pa.vol) (l.take i))) (rS (sumR (tP ps Pa.worth) (l.take i))) (rS (sumR (tH ps hs Ho.x) (l.take i))) (rS (sumR (tH ps hs Ho.y) (l.take i))) (rS (sumR (tH ps hs Ho.z) (l.take i))) w0.heap.size w fun v _ => v = ldF ps hs l := by
  intro d
  induction d with
  | zero =>
    intro i w hd hi hw
    refine F.cargo_laden.L3.step _ _ _ _ _ _ _ _ _ _ _ _ _ _ _ _ _ _ _ _ _ _ _ _ _ _ ⟨fun h => by omega, fun _ w2 _ => ?_⟩
    rw [List.take_of_length_le (by omega)]
    rfl
  | succ d ih =>
    intro i w hd hi hw
    have hil : i < l.length := by omega
    have hn40 := hok.n
    have e3 : (i : Int) + 1 = ((i + 1 : Nat) : Int) := by omega
    have et : l.take (i + 1) = l.take i ++ [l[i]] := by rw [List.take_add_one, List.getElem?_eq_getElem hil]; rfl
    have hmem : l[i] ∈ l := List.getElem_mem hil
    obtain ⟨ip, ih', hip, hih⟩ := hok.known l[i] hmem
    obtain ⟨hpl, hpid⟩ := pix_lt hip
    obtain ⟨hhl, hhid⟩ := hix_lt hih
    obtain ⟨⟨b1, b2, b3⟩, b4, b5, b6⟩ := (hok.take i).smL hc
    obtain ⟨m1, m2, m3⟩ := hok.smP hc hmem
    obtain ⟨m4, m5, m6⟩ := hok.smH hc hmem
    obtain ⟨⟨k1, k2, k3⟩, k4, k5, k6⟩ := hok.smT hc hmem
    have hu := hok.u l[i] hmem
    have hun := sm_n hu.1 hu.2
    have hunB : Big ((l[i].units : Int) : Rat) := hun.mono (by omega)
    have hvp := hok.c.vp _ (List.getElem_mem hpl)
    have hvh := hok.c.vh _ (List.getElem_mem hhl)
    unfold vP at hvp
    unfold vH at hvh
    simp only [Bool.and_eq_true] at hvp hvh
    have p1 : ps[ip].mass = rS (gP ps Pa.mass l[i].parcel) := by rw [gP_at hip (List.getElem?_eq_getElem hpl)]; exact vR_eq hvp.1.1
    have p2 : ps[ip].vol = rS (gP ps Pa.vol l[i].parcel) := by rw [gP_at hip (List.getElem?_eq_getElem hpl)]; exact vR_eq hvp.1.2
    have p3 : ps[ip].worth = rS (gP ps Pa.worth l[i].parcel) := by rw [gP_at hip (List.getElem?_eq_getElem hpl)]; exact vR_eq hvp.2
    have p4 : hs[ih'].x = rS (gH hs Ho.x l[i].hold) := by rw [gH_at hih (List.getElem?_eq_getElem hhl)]; exact vR_eq hvh.1.1.2
    have p5 : hs[ih'].y = rS (gH hs Ho.y l[i].hold) := by rw [gH_at hih (List.getElem?_eq_getElem hhl)]; exact vR_eq hvh.1.2
    have p6 : hs[ih'].z = rS (gH hs Ho.z l[i].hold) := by rw [gH_at hih (List.getElem?_eq_getElem hhl)]; exact vR_eq hvh.2
    have big : ∀ {x : Rat}, Sm 2001 x → Big x := fun h => h.mono (by omega)
    have bg : ∀ {x : Rat}, Sm 1000 x → Big x := fun h => h.mono (by omega)
    have fin : ∀ (w : World) (a b : Int), Below w0.heap.size w0 w →
        F.cargo_laden.J6 A n c n i A0 n0 c0 A1 n1 c1 t0 t1 t2 t3 t4 t5 (rS (sumR (tP ps Pa.mass) (l.take i))) (rS (sumR (tP ps Pa.vol) (l.take i))) (rS (sumR (tP ps Pa.worth) (l.take i))) (rS (sumR (tH ps hs Ho.x) (l.take i))) (rS (sumR (tH ps hs Ho.y) (l.take i))) (rS (sumR (tH ps hs Ho.z) (l.take i)))
          l[i].hold l[i].parcel l[i].units ps[ip].id a b ps[ip].name ps[ip].mass ps[ip].vol ps[ip].worth hs[ih'].x hs[ih'].y hs[ih'].z w0.heap.size w fun v _ => v = ldF ps hs l := by
      intro w a b hw
      rw [p1, p2, p3, p4, p5, p6]
      have next : ∀ w', Below w0.heap.size w0 w' → F.cargo_laden.L3 A n c n ((i : Int) + 1) A0 n0 c0 A1 n1 c1 t0 t1 t2 t3 t4 t5 (rS (sumR (tP ps Pa.mass) (l.take i) + tP ps Pa.mass l[i])) (rS (sumR (tP ps Pa.vol) (l.take i) + tP ps Pa.vol l[i])) (rS (sumR (tP ps Pa.worth) (l.take i) + tP ps Pa.worth l[i])) (rS (sumR (tH ps hs Ho.x) (l.take i) + tH ps hs Ho.x l[i])) (rS (sumR (tH ps hs Ho.y) (l.take i) + tH ps hs Ho.y l[i])) (rS (sumR (tH ps hs Ho.z) (l.take i) + tH ps hs Ho.z l[i])) w0.heap.size w' fun v _ => v = ldF ps hs l := by
        intro w' hw'
        have := ih (i + 1) w' (by omega) (by omega) hw'
        rw [et] at this
        simp only [sumR_snoc] at this
        rw [e3]
        exact this
      unfold tP tH at *
      refine F.cargo_laden.J6.step _ _ _ _ _ _ _ _ _ _ _ _ _ _ _ _ _ _ _ _ _ _ _ _ _ _ _ _ _ _ _ _ _ _ _ _ _ _ _ (Pure.mono (cargo_number (hg.next hw) (by omega) (by omega)) ?_)
      rintro v w1 h1 rfl
      have hw := kP hw h1; clear h1
      refine ⟨_, rfl, Pure.mono (cargo_mul (hg.next hw) hunB (bg m1)) ?_⟩
      rintro v w2 h1 rfl
      have hw := kP hw h1; clear h1
      refine ⟨_, rfl, fun w3 x3 => ?_⟩
      have hw := kE hw x3; clear x3
      refine Pure.mono (cargo_add (hg.next hw) b1 (big k1)) ?_
      rintro v w4 h1 rfl
      have hw := kP hw h1; clear h1
      refine ⟨_, rfl, Pure.mono (cargo_mul (hg.next hw) hunB (bg m2)) ?_⟩
      rintro v w5 h1 rfl
      have hw := kP hw h1; clear h1
      refine ⟨_, rfl, Pure.mono (cargo_add (hg.next hw) b2 (big k2)) ?_⟩
      rintro v w6 h1 rfl
      have hw := kP hw h1; clear h1
      refine ⟨_, rfl, Pure.mono (cargo_mul (hg.next hw) hunB (bg m3)) ?_⟩
      rintro v w7 h1 rfl
      have hw := kP hw h1; clear h1
      refine ⟨_, rfl, Pure.mono (cargo_add (hg.next hw) b3 (big k3)) ?_⟩
      rintro v w8 h1 rfl
      have hw := kP hw h1; clear h1
      refine ⟨_, rfl, fun w9 x9 => ?_⟩
      have hw := kE hw x9; clear x9
      refine Pure.mono (cargo_mul (hg.next hw) (big k1) (bg m4)) ?_
      rintro v w10 h1 rfl
      have hw := kP hw h1; clear h1
      refine ⟨_, rfl, Pure.mono (cargo_add (hg.next hw) b4 (big k4)) ?_⟩
      rintro v w11 h1 rfl
      have hw := kP hw h1; clear h1
      refine ⟨_, rfl, Pure.mono (cargo_mul (hg.next hw) (big k1) (bg m5)) ?_⟩
      rintro v w12 h1 rfl
      have hw := kP hw h1; clear h1
      refine ⟨_, rfl, Pure.mono (cargo_add (hg.next hw) b5 (big k5)) ?_⟩
      rintro v w13 h1 rfl
      have hw := kP hw h1; clear h1
      refine ⟨_, rfl, Pure.mono (cargo_mul (hg.next hw) (big k1) (bg m6)) ?_⟩
      rintro v w14 h1 rfl
      have hw := kP hw h1; clear h1
      refine ⟨_, rfl, Pure.mono (cargo_add (hg.next hw) b6 (big k6)) ?_⟩
      rintro v w15 h1 rfl
      have hw := kP hw h1; clear h1
      refine ⟨_, rfl, by simp only [inR]; omega, fun w16 x16 => ?_⟩
      exact next w16 (kE hw x16)
    clear ih
    obtain ⟨hb, a, hA, hcell, _⟩ := (h.keep hw (Nat.le_refl _)).at_ (fun _ => rfl) hl hil
    obtain ⟨hbp, ap, hAp, _⟩ := hc.p.at_ (fun _ => rfl) hc.lp hpl
    obtain ⟨hbh, ah, hAh, _⟩ := hc.h.at_ (fun _ => rfl) hc.lh hhl
    have cP : ∀ w, Below w0.heap.size w0 w → CellsAt w (ap.add ((ip : Int).toNat * 7)) (ps[ip].row) := fun w hw => by
      obtain ⟨_, a', hA', hc', _⟩ := (hc.p.keep hw (Nat.le_refl _)).at_ (fun _ => rfl) hc.lp hpl
      rw [hAp] at hA'
      cases hA'
      exact hc'
    have cH : ∀ w, Below w0.heap.size w0 w → CellsAt w ((ah.add ((ih' : Int).toNat * 7)).add 4) [.string hs[ih'].x, .string hs[ih'].y, .string hs[ih'].z] := fun w hw => by
      obtain ⟨_, a', hA', hc', _⟩ := (hc.h.keep hw (Nat.le_refl _)).at_ (fun _ => rfl) hc.lh hhl
      rw [hAh] at hA'
      cases hA'
      exact cells_part hc' 4 3
    refine F.cargo_laden.L3.step _ _ _ _ _ _ _ _ _ _ _ _ _ _ _ _ _ _ _ _ _ _ _ _ _ _ ⟨fun _ => ⟨hb, a, hA, _, _, _, hcell, fun w6 x6 => ?_⟩, fun h => by omega⟩
    have hw6 := kE hw x6
    have par : ∀ w, Below w0.heap.size w0 w → Pure Tryz.prog 51 #[.agg #[.slice A0 n0 c0, .slice A1 n1 c1], .int .i64 l[i].parcel] w fun v _ => v = .int .i64 (ip : Int) := fun w hw => by
      have := cargo_parcel (c0 := c0) (c1 := c1) (hc.keep hw) l[i].parcel
      rw [hip] at this
      exact this
    have hol : ∀ w, Below w0.heap.size w0 w → Pure Tryz.prog 52 #[.agg #[.slice A0 n0 c0, .slice A1 n1 c1], .int .i64 l[i].hold] w fun v _ => v = .int .i64 (ih' : Int) := fun w hw => by
      have := cargo_hold (c0 := c0) (c1 := c1) (hc.keep hw) l[i].hold
      rw [hih] at this
      exact this
    have leafA : ∀ (w : World), Below w0.heap.size w0 w → ∃ s25 s26 s27 : ByteArray, CellsAt w ((ah.add ((ih' : Int).toNat * 7)).add 4) [.string s25, .string s26, .string s27] ∧ ∀ (ts : List Nat) w28, Ext w0.heap.size ts w w28 → F.cargo_laden.J6 A n c n i A0 n0 c0 A1 n1 c1 t0 t1 t2 t3 t4 t5 (rS (sumR (tP ps Pa.mass) (l.take i))) (rS (sumR (tP ps Pa.vol) (l.take i))) (rS (sumR (tP ps Pa.worth) (l.take i))) (rS (sumR (tH ps hs Ho.x) (l.take i))) (rS (sumR (tH ps hs Ho.y) (l.take i))) (rS (sumR (tH ps hs Ho.z) (l.take i)))
          l[i].hold l[i].parcel l[i].units ps[ip].id ps[ip].units ps[ip].cls ps[ip].name ps[ip].mass ps[ip].vol ps[ip].worth s25 s26 s27 w0.heap.size w28 fun v _ => v = ldF ps hs l :=
      fun w hw => ⟨_, _, _, cH w hw, fun ts w28 x => fin w28 _ _ (kE hw x)⟩
    have leaf2 : ∀ (ts ts' : List Nat) (w : World), Below w0.heap.size w0 w → ∀ w24, Ext w0.heap.size ts w w24 → ∃ s25 s26 s27 : ByteArray, CellsAt w24 ((ah.add ((ih' : Int).toNat * 7)).add 4) [.string s25, .string s26, .string s27] ∧ ∀ w28, Ext w0.heap.size ts' w24 w28 → F.cargo_laden.J6 A n c n i A0 n0 c0 A1 n1 c1 t0 t1 t2 t3 t4 t5 (rS (sumR (tP ps Pa.mass) (l.take i))) (rS (sumR (tP ps Pa.vol) (l.take i))) (rS (sumR (tP ps Pa.worth) (l.take i))) (rS (sumR (tH ps hs Ho.x) (l.take i))) (rS (sumR (tH ps hs Ho.y) (l.take i))) (rS (sumR (tH ps hs Ho.z) (l.take i)))
          l[i].hold l[i].parcel l[i].units ps[ip].id ps[ip].units ps[ip].cls ps[ip].name ps[ip].mass ps[ip].vol ps[ip].worth s25 s26 s27 w0.heap.size w28 fun v _ => v = ldF ps hs l :=
      fun ts ts' w hw w24 x => by
        obtain ⟨s1, s2, s3, e, f⟩ := leafA w24 (kE hw x)
        exact ⟨s1, s2, s3, e, fun w28 x28 => f ts' w28 x28⟩
    clear fin
    refine ⟨fun w7 x7 => ?_, fun w55 x55 => ?_⟩
    · have hw7 := kE hw6 x7
      refine Pure.mono (par w7 hw7) ?_
      rintro v w10 h10 rfl
      have hw10 := kP hw7 h10
      refine ⟨_, rfl, hbp, ap, hAp, _, _, _, _, _, _, _, cP w6 hw6, fun w19 x19 => ?_, fun w34 x34 => ?_⟩
      · have hw19 := kE hw10 x19
        refine Pure.mono (hol w19 hw19) ?_
        rintro v w22 h22 rfl
        have hw22 := kP hw19 h22
        exact ⟨_, rfl, hbh, ah, hAh, leaf2 _ _ w22 hw22, leaf2 _ _ w22 hw22⟩
      · have hw34 := kE hw10 x34
        refine Pure.mono (hol w34 hw34) ?_
        rintro v w37 h37 rfl
        have hw37 := kP hw34 h37
        exact ⟨_, rfl, ⟨hbh, ah, hAh, leaf2 _ _ w37 hw37, leaf2 _ _ w37 hw37⟩, hbh, ah, hAh, leaf2 _ _ w37 hw37⟩
    · have hw55 := kE hw6 x55
      refine Pure.mono (par w55 hw55) ?_
      rintro v w58 h58 rfl
      have hw58 := kP hw55 h58
      refine ⟨_, rfl, hbp, ap, hAp, _, _, _, _, _, _, _, cP w6 hw6, fun w67 x67 => ?_⟩
      have hw67 := kE hw58 x67
      refine Pure.mono (hol w67 hw67) ?_
      rintro v w70 h70 rfl
      have hw70 := kP hw67 h70
      exact ⟨_, rfl, hbh, ah, hAh, leaf2 _ _ w70 hw70, leaf2 _ _ w70 hw70⟩
theorem cargo_laden (hg : Glob w0) (hc : CgIn w0 A0 n0 A1 n1 ps hs) (h : SlR w0 A 3 (l.map Sw.row)) (hl : l.length = n) (hok : LdOk ps hs l) :
    Pure Tryz.prog 58 #[.agg #[.slice A0 n0 c0, .slice A1 n1 c1], .slice A n c] w0 fun v _ => v = ldF ps hs l := by
  refine F.cargo_laden.vc _ _ _ _ _ _ _ _ _ _ _ fun w1 x1 => ?_
  have := laden_L3 (c := c) (c0 := c0) (c1 := c1) hg hc h hl hok (⟨#[]⟩) (⟨#[]⟩) (⟨#[]⟩) (⟨#[]⟩) (⟨#[]⟩) (⟨#[]⟩) n 0 w1 rfl (by omega) (k0 x1)
  simp only [List.take_zero, sumR_nil, ← s0] at this
  exact this
end

theorem CloneS {w : World} {A : Option Addr} {n c : Nat} {l : List Sw} (h : SlR w A 3 (l.map Sw.row)) (hlen : l.length = n) (hn : n ≤ 1000000) :
    Pure Tryz.prog 17 #[.slice A n c] w fun v w' => ∃ A' c', v = .slice A' n c' ∧ OwnR w' w.heap.size 35 A' n c' 3 (l.map Sw.row) := by
  refine F.slices_Clone_api_Stow_api_Stow.vc _ _ _ _ _ ⟨fun hA => ?_, fun hA => ?_⟩
  · subst hA
    have := h.none_nil
    simp at this
    subst this
    simp at hlen
    subst hlen
    exact ⟨none, 0, rfl, OwnR.nil⟩
  · obtain ⟨a, rfl⟩ := Option.ne_none_iff_exists'.1 hA
    refine runOk_lit el_Sws [] (by simp) (by simp) (Nat.le_refl _) fun A2 c2 w2 ho b2 => ?_
    refine app_rows el_Sws (Nat.le_refl _) (by simpa using ho) (h.below b2) (by simpa using hlen) (fun r hr => by obtain ⟨s, _, rfl⟩ := List.mem_map.1 hr; rfl) (fun r hr => by obtain ⟨s, _, rfl⟩ := List.mem_map.1 hr; intro u hu; simp [Sw.row] at hu; rcases hu with rfl | rfl | rfl <;> rfl) b2.size (by simp; omega) (by simp) fun A' c' w3 o3 _ b3 => ?_
    simp only [List.length_nil, Nat.zero_add, List.nil_append] at o3 ⊢
    exact ⟨A', c', rfl, o3⟩
def inS (l : List Sw) (id : Int) : List Sw := l.filter fun s => decide (s.hold = id)
theorem cargo_in {w : World} {A : Option Addr} {n c : Nat} {l : List Sw} (h : SlR w A 3 (l.map Sw.row)) (hlen : l.length = n) (hn : n ≤ 1000000) (id : Int) :
    Pure Tryz.prog 59 #[.slice A n c, .int .i64 id] w fun v w' => ∃ A' m c', v = .slice A' m c' ∧ SlR w' A' 3 ((inS l id).map Sw.row) ∧ (inS l id).length = m := by
  refine F.cargo_in.vc _ _ _ _ _ _ fun w1 x1 => ?_
  have hw1 := k0 x1
  refine Pure.mono (CloneS (h.keep hw1 (Nat.le_refl _)) hlen hn) ?_
  rintro v w4 b4 ⟨A', c', rfl, ho⟩
  refine ⟨_, _, _, rfl, fun p5 hp5 hbox => ?_⟩
  have hw4 := kP hw1 b4
  have hne : ∀ a, A' = some a → p5 ≠ a.block := fun a ha e => by
    obtain ⟨cs, hcs⟩ := ho.cells a ha
    rw [← e, hbox] at hcs
    simp at hcs
  have hlt : p5 < w4.heap.size := (Array.getElem?_eq_some_iff.1 hbox).1
  refine PureB.mono (DeleteFuncS (p := fun s => decide (s.hold ≠ id)) hw4.size (ho.base hw1.size) (by omega) (by kernel_rfl) fun w' hoth x => ?_) ?_
  · refine F.cargo_in_c1.vc _ _ _ _ _ _ fun w5 x5 => ⟨_, box_all (ty := 3) ?_, rfl⟩
    exact (k0 x5).block p5 (Nat.lt_of_lt_of_le hlt hoth.1) |>.trans ((hoth.2 p5 hlt hne).trans hbox)
  · rintro v w8 b8 ⟨m, rfl, o8, _⟩
    refine ⟨fun _ _ _ ht => (by cases ht), _, _, _, rfl, _, _, _, rfl, ?_⟩
    have e : (l.filter fun x => !(decide (x.hold ≠ id))) = inS l id := by
      unfold inS
      refine List.filter_congr fun s _ => ?_
      by_cases h : s.hold = id <;> simp [h]
    rw [e] at o8
    exact ⟨o8.sl, by simpa using o8.len⟩
end Go.Proofs.YtdnelnicnjplpaaGreatDoor.B

namespace Go.Proofs.YtdnelnicnjplpaaGreatDoor.B
open Go Go.RowKit Go.Proofs Go.Proofs.YtdnelnicnjplpaaGreatDoor.Vc

abbrev ld0 : Value := .agg #[.string ⟨#[]⟩, .string ⟨#[]⟩, .string ⟨#[]⟩, .string ⟨#[]⟩, .string ⟨#[]⟩, .string ⟨#[]⟩]
def heldV (ps : List Pa) (hs : List Ho) (l : List Sw) (id : Int) : Value :=
  if stowedF ps hs l ≠ 0 then .tuple #[ld0, .int .i64 1] else if hix hs id = none then .tuple #[ld0, .int .i64 7] else .tuple #[ldF ps hs (inS l id), .int .i64 0]
def totalV (ps : List Pa) (hs : List Ho) (l : List Sw) : Value :=
  if stowedF ps hs l ≠ 0 then .tuple #[ld0, .int .i64 1] else .tuple #[ldF ps hs l, .int .i64 0]
def overB (ps : List Pa) (_ : List Ho) (l : List Sw) (h : Ho) : Bool :=
  decide (qR h.most < sumR (tP ps Pa.mass) (inS l h.id)) || decide (qR h.room < sumR (tP ps Pa.vol) (inS l h.id))
def overV (ps : List Pa) (hs : List Ho) (l : List Sw) : Value :=
  if stowedF ps hs l ≠ 0 then .tuple #[.int .i64 0, .int .i64 1] else .tuple #[.int .i64 (ixI (hs.findIdx? (overB ps hs l))), .int .i64 0]
theorem ixI_neg {o : Option Nat} : ixI o < 0 ↔ o = none := by cases o <;> simp [ixI]

section
variable {w : World} {A0 A1 A : Option Addr} {n0 c0 n1 c1 n c : Nat} {ps : List Pa} {hs : List Ho} {l : List Sw}
theorem cargo_Held (hg : Glob w) (hc : CgIn w A0 n0 A1 n1 ps hs) (h : SlR w A 3 (l.map Sw.row)) (hl : l.length = n) (hnc : n ≤ c) (hn : n ≤ 40) (id : Int) :
    Pure Tryz.prog 19 #[.agg #[.slice A0 n0 c0, .slice A1 n1 c1], .slice A n c, .int .i64 id] w fun v _ => v = heldV ps hs l id := by
  refine F.cargo_Held.vc _ _ _ _ _ _ _ _ _ _ _ _ fun w1 x1 => ?_
  have hw := k0 x1
  refine Pure.mono (cargo_Stowed (hg.next hw) (hc.keep hw) (h.keep hw (Nat.le_refl _)) hl hnc (by omega)) ?_
  rintro v w4 b4 rfl
  have hw := kP hw b4
  unfold heldV
  refine ⟨_, rfl, fun h0 w5 _ => by rw [if_pos h0], fun h0 => ?_⟩
  rw [if_neg h0]
  have hok := (stowed_right (Decidable.not_not.1 h0)).ld (by omega)
  refine Pure.mono (cargo_hold (hc.keep hw) id) ?_
  rintro v w8 b8 rfl
  have hw := kP hw b8
  refine ⟨_, rfl, fun h1 w9 _ => by rw [if_pos (ixI_neg.1 h1)], fun h1 w10 x10 => ?_⟩
  rw [if_neg (fun k => h1 (ixI_neg.2 k))]
  have hw := kE hw x10
  refine Pure.mono (cargo_in (h.keep hw (Nat.le_refl _)) hl (by omega) id) ?_
  rintro v w13 b13 ⟨A', m, c', rfl, hi, hil⟩
  have hw := kP hw b13
  refine ⟨_, _, _, rfl, Pure.mono (cargo_laden (hg.next hw) (hc.keep hw) hi hil (hok.filter _)) ?_⟩
  rintro v w21 b21 rfl
  exact ⟨_, _, _, _, _, _, rfl, fun w22 _ => rfl⟩
theorem cargo_Total (hg : Glob w) (hc : CgIn w A0 n0 A1 n1 ps hs) (h : SlR w A 3 (l.map Sw.row)) (hl : l.length = n) (hnc : n ≤ c) (hn : n ≤ 40) :
    Pure Tryz.prog 21 #[.agg #[.slice A0 n0 c0, .slice A1 n1 c1], .slice A n c] w fun v _ => v = totalV ps hs l := by
  refine F.cargo_Total.vc _ _ _ _ _ _ _ _ _ _ _ fun w1 x1 => ?_
  have hw := k0 x1
  refine Pure.mono (cargo_Stowed (hg.next hw) (hc.keep hw) (h.keep hw (Nat.le_refl _)) hl hnc (by omega)) ?_
  rintro v w4 b4 rfl
  have hw := kP hw b4
  unfold totalV
  refine ⟨_, rfl, fun h0 w5 _ => by rw [if_pos h0], fun h0 => ?_⟩
  rw [if_neg h0]
  have hok := (stowed_right (Decidable.not_not.1 h0)).ld (by omega)
  refine Pure.mono (cargo_laden (hg.next hw) (hc.keep hw) (h.keep hw (Nat.le_refl _)) hl hok) ?_
  rintro v w21 b21 rfl
  exact ⟨_, _, _, _, _, _, rfl, fun w22 _ => rfl⟩
theorem over_c1 (hg : Glob w) (hc : CgIn w A0 n0 A1 n1 ps hs) (h : SlR w A 3 (l.map Sw.row)) (hl : l.length = n) (hok : LdOk ps hs l) {q0 q1 : Addr} (hq0 : ∀ w', Below w.heap.size w w' → CellsAt w' q0 [.slice A0 n0 c0, .slice A1 n1 c1]) (hq1 : ∀ w', Below w.heap.size w w' → CellsAt w' q1 [.slice A n c]) {x : Ho} (hx : x ∈ hs) :
    Pure Tryz.prog 62 #[x.val, .pointer (some q0), .pointer (some q1)] w fun v _ => v = .bool (overB ps hs l x) := by
  have hn := hok.n
  have hvh := hok.c.vh x hx
  unfold vH at hvh
  simp only [Bool.and_eq_true] at hvh
  have hsm := hc.sh x hx
  have bm : Big (qR x.most) := hsm.most.big hvh.1.1.1.2
  have br : Big (qR x.room) := hsm.room.big hvh.1.1.1.1
  have em : x.most = rS (qR x.most) := vR_eq hvh.1.1.1.2
  have er : x.room = rS (qR x.room) := vR_eq hvh.1.1.1.1
  obtain ⟨⟨b1, b2, b3⟩, b4, b5, b6⟩ := (hok.filter fun s => decide (s.hold = x.id)).smL hc
  have cmp : ∀ w', Below w.heap.size w w' → Pure Tryz.prog 63 #[.string (rS (sumR (tP ps Pa.mass) (inS l x.id))), .string x.most] w' fun r w2 => ∃ i : Int, r = .int .i64 i ∧ ((i > 0 → (fun (v : Value) (_ : World) => v = .bool (overB ps hs l x)) (.bool true) w2) ∧ (¬ i > 0 →
      Pure Tryz.prog 63 #[.string (rS (sumR (tP ps Pa.vol) (inS l x.id))), .string x.room] w2 fun r w3 => ∃ i : Int, r = .int .i64 i ∧ (fun (v : Value) (_ : World) => v = .bool (overB ps hs l x)) (.bool (decide (i > 0))) w3)) := by
    intro w' hw
    have c1 := cargo_compare (hg.next hw) b1 bm
    rw [← em] at c1
    refine Pure.mono c1 ?_
    rintro v w2 h2 rfl
    have hw := kP hw h2
    refine ⟨_, rfl, fun k => ?_, fun k => ?_⟩
    · have := cmpR_gt.1 k
      show Value.bool true = _
      unfold overB
      rw [show (decide (qR x.most < sumR (tP ps Pa.mass) (inS l x.id))) = true from decide_eq_true this]
      rfl
    · have c2 := cargo_compare (hg.next hw) b2 br
      rw [← er] at c2
      refine Pure.mono c2 ?_
      rintro v w3 h3 rfl
      refine ⟨_, rfl, ?_⟩
      show Value.bool _ = _
      unfold overB
      rw [show (decide (qR x.most < sumR (tP ps Pa.mass) (inS l x.id))) = false from decide_eq_false fun h => k (cmpR_gt.2 h), Bool.false_or]
      refine congrArg Value.bool ?_
      rw [decide_eq_decide]
      exact cmpR_gt
  refine F.cargo_Overloaded_c1.vc _ _ _ _ _ _ _ _ _ _ _ fun w1 x1 => ?_
  have hw1 := k0 x1
  refine ⟨_, _, _, _, _, _, hq0 w1 hw1, _, _, _, hq1 w1 hw1, fun w5 x5 => ?_, fun w40 x40 => ?_⟩
  · have hw5 := kE hw1 x5
    refine Pure.mono (cargo_in (h.keep hw5 (Nat.le_refl _)) hl (by omega) x.id) ?_
    rintro v w8 b8 ⟨A', m, c', rfl, hi, hil⟩
    have hw8 := kP hw5 b8
    refine ⟨_, _, _, rfl, Pure.mono (cargo_laden (hg.next hw8) (hc.keep hw8) hi hil (hok.filter _)) ?_, fun w24 x24 => ?_⟩
    · rintro v w16 b16 rfl
      exact ⟨_, _, _, _, _, _, rfl, fun w17 x17 => cmp w17 (kE (kP hw8 b16) x17)⟩
    · have hw24 := kE hw8 x24
      refine Pure.mono (cargo_laden (hg.next hw24) (hc.keep hw24) (hi.extNil x24) hil (hok.filter _)) ?_
      rintro v w16 b16 rfl
      exact ⟨_, _, _, _, _, _, rfl, fun w17 x17 => cmp w17 (kE (kP hw24 b16) x17)⟩
  · have hw5 := kE hw1 x40
    refine Pure.mono (cargo_in (h.keep hw5 (Nat.le_refl _)) hl (by omega) x.id) ?_
    rintro v w8 b8 ⟨A', m, c', rfl, hi, hil⟩
    have hw8 := kP hw5 b8
    refine ⟨_, _, _, rfl, Pure.mono (cargo_laden (hg.next hw8) (hc.keep hw8) hi hil (hok.filter _)) ?_⟩
    rintro v w16 b16 rfl
    exact ⟨_, _, _, _, _, _, rfl, fun w17 x17 => cmp w17 (kE (kP hw8 b16) x17)⟩
theorem cargo_Overloaded (hg : Glob w) (hc : CgIn w A0 n0 A1 n1 ps hs) (h : SlR w A 3 (l.map Sw.row)) (hl : l.length = n) (hnc : n ≤ c) (hn : n ≤ 40) :
    Pure Tryz.prog 23 #[.agg #[.slice A0 n0 c0, .slice A1 n1 c1], .slice A n c] w fun v _ => v = overV ps hs l := by
  have hnh := hc.nh
  refine F.cargo_Overloaded.vc _ _ _ _ _ _ _ _ _ _ _ fun w1 x1 => ?_
  have hw := k0 x1
  refine Pure.mono (cargo_Stowed (hg.next hw) (hc.keep hw) (h.keep hw (Nat.le_refl _)) hl hnc (by omega)) ?_
  rintro v w4 b4 rfl
  have hw := kP hw b4
  unfold overV
  refine ⟨_, rfl, fun h0 => by rw [if_pos h0], fun h0 p5 hp5 hb5 p6 hp6 hb6 => ?_⟩
  rw [if_neg h0]
  have hok := (stowed_right (Decidable.not_not.1 h0)).ld (by omega)
  refine Pure.mono (IndexHo (p := overB ps hs l) ((hc.keep hw).h) hc.lh (by omega) (by kernel_rfl) fun w' hb x hx => ?_) ?_
  · exact over_c1 (hg.next (kP hw hb)) (hc.keep (kP hw hb)) (h.keep (kP hw hb) (Nat.le_refl _)) hl hok (fun w2 h2 => box_all (heap_keep (heap_keep hb6 hb) h2)) (fun w2 h2 => box_all (heap_keep (heap_keep hb5 hb) h2)) hx
  · rintro v w9 b9 rfl
    exact ⟨_, rfl, rfl⟩
end
end Go.Proofs.YtdnelnicnjplpaaGreatDoor.B

namespace Go.Proofs.YtdnelnicnjplpaaGreatDoor.B
open Go Go.RowKit Go.Proofs Go.Proofs.YtdnelnicnjplpaaGreatDoor.Vc

theorem lbS_cons (t a : Sw) (r : List Sw) : lbS t (a :: r) = if befS a t then lbS t r + 1 else 0 := by
  unfold lbS
  rw [List.takeWhile_cons]
  by_cases h : befS a t
  · simp [h]
  · simp [h]
theorem foundS_cons (t a : Sw) (r : List Sw) : foundS t (a :: r) = if befS a t then foundS t r else decide (a.hold = t.hold ∧ a.parcel = t.parcel) := by
  unfold foundS
  rw [lbS_cons]
  by_cases h : befS a t
  · rw [if_pos h, if_pos h]
    rfl
  · rw [if_neg h, if_neg h]
    rfl
theorem bef_tri {a t : Sw} (h : ¬ befS a t) : (a.hold = t.hold ∧ a.parcel = t.parcel) ∨ befS t a := by unfold befS at *; omega
theorem filter_lb {t : Sw} : ∀ {l : List Sw}, SrtS l → l.filter (fun x => decide (befS x t)) = l.take (lbS t l) := by
  intro l
  induction l with
  | nil => intro _; rfl
  | cons a r ih =>
    intro h
    obtain ⟨p, q⟩ := List.pairwise_cons.1 h
    rw [lbS_cons]
    by_cases e : befS a t
    · rw [if_pos e, List.filter_cons_of_pos (by simpa using e), ih q]
      rfl
    · rw [if_neg e, List.filter_cons_of_neg (by simpa using e)]
      rw [List.take_zero, List.filter_eq_nil_iff]
      intro x hx k
      exact e (bef_trans (p x hx) (by simpa using k))
theorem filter_gt {t : Sw} : ∀ {l : List Sw}, SrtS l → l.filter (fun x => decide (befS t x)) = l.drop (lbS t l + if foundS t l = true then 1 else 0) := by
  intro l
  induction l with
  | nil => intro _; simp
  | cons a r ih =>
    intro h
    obtain ⟨p, q⟩ := List.pairwise_cons.1 h
    rw [lbS_cons, foundS_cons]
    by_cases e : befS a t
    · rw [if_pos e, if_pos e, List.filter_cons_of_neg (by simpa using bef_asymm e), ih q, show lbS t r + 1 + (if foundS t r = true then 1 else 0) = (lbS t r + if foundS t r = true then 1 else 0) + 1 by omega]
      rfl
    · rw [if_neg e, if_neg e]
      have all : ∀ x ∈ r, befS t x := fun x hx => by
        rcases bef_tri e with k | k
        · have := p x hx
          unfold befS at *
          omega
        · exact bef_trans k (p x hx)
      have er : r.filter (fun x => decide (befS t x)) = r := List.filter_eq_self.2 fun x hx => by simpa using all x hx
      by_cases k : a.hold = t.hold ∧ a.parcel = t.parcel
      · rw [decide_eq_true k, if_pos rfl, List.filter_cons_of_neg (by simp; unfold befS; omega), er]
        rfl
      · rw [decide_eq_false k, if_neg (by simp), List.filter_cons_of_pos (by simpa using (bef_tri e).resolve_left k), er]
        rfl
theorem found_at {t : Sw} {l : List Sw} (h : foundS t l = true) : ∃ hi : lbS t l < l.length, l[lbS t l].hold = t.hold ∧ l[lbS t l].parcel = t.parcel := by
  unfold foundS at h
  by_cases hi : lbS t l < l.length
  · rw [List.getElem?_eq_getElem hi] at h
    exact ⟨hi, by simpa using h⟩
  · rw [List.getElem?_eq_none (by omega)] at h
    cases h
theorem amt_found {t : Sw} {l : List Sw} (hs : SrtS l) (h : foundS t l = true) (hi : lbS t l < l.length) : amtF l t.hold t.parcel = l[lbS t l].units := by
  obtain ⟨_, e1, e2⟩ := found_at h
  rw [← amt_mem hs (List.getElem_mem hi), e1, e2]
theorem amt_unfound {t : Sw} {l : List Sw} (hs : SrtS l) (h : foundS t l = false) : amtF l t.hold t.parcel = 0 := by
  refine amt_none fun s hs' k => ?_
  have e1 := filter_lb (t := t) hs
  have e2 := filter_gt (t := t) hs
  rw [h, if_neg (by simp), Nat.add_zero] at e2
  rw [← List.take_append_drop (lbS t l) l, ← e1, ← e2] at hs'
  rcases List.mem_append.1 hs' with m | m
  · have := (List.mem_filter.1 m).2
    simp at this
    unfold befS at this
    omega
  · have := (List.mem_filter.1 m).2
    simp at this
    unfold befS at this
    omega
theorem upd_at {t : Sw} {l : List Sw} (hs : SrtS l) {n : Int} : updS l ⟨t.hold, t.parcel, n⟩ = l.take (lbS t l) ++ (if 0 < n then [⟨t.hold, t.parcel, n⟩] else []) ++ l.drop (lbS t l + if foundS t l = true then 1 else 0) := by
  unfold updS
  rw [← filter_lb hs, ← filter_gt hs]
  rfl
theorem set_at {l : List Sw} {i : Nat} (hi : i < l.length) (s : Sw) : l.set i s = l.take i ++ [s] ++ l.drop (i + 1) := by
  rw [List.set_eq_take_append_cons_drop, if_pos hi]
  simp

section
variable {w0 : World} {A0 A1 A : Option Addr} {n0 c0 n1 c1 n c : Nat} {ps : List Pa} {hs : List Ho} {l : List Sw}
theorem put_J12 (hc : CgIn w0 A0 n0 A1 n1 ps hs) (h : SlR w0 A 3 (l.map Sw.row)) (hl : l.length = n) (hn : n ≤ 40) (hr : RightS ps hs l) (t : Sw) (hu : -9 ≤ t.units ∧ t.units ≤ 9 ∧ t.units ≠ 0) {ip : Nat} (hip : pix ps t.parcel = some ip) {R : Value → World → Prop}
    (hneg : ∀ w, amtF l t.hold t.parcel + t.units < 0 → R (.tuple #[.slice none 0 0, .int .i64 11]) w)
    (hfull : ∀ w p, ¬ amtF l t.hold t.parcel + t.units < 0 → ps[ip]? = some p → p.units < unitsF l t.parcel + t.units → R (.tuple #[.slice none 0 0, .int .i64 12]) w)
    (hok : ∀ w p A m c, ¬ amtF l t.hold t.parcel + t.units < 0 → ps[ip]? = some p → ¬ p.units < unitsF l t.parcel + t.units → OwnR w w0.heap.size 35 A m c 3 ((updS l ⟨t.hold, t.parcel, amtF l t.hold t.parcel + t.units⟩).map Sw.row) → R (.tuple #[.slice A m c, .int .i64 0]) w)
    {w : World} (hw : Below w0.heap.size w0 w) : F.cargo_Put.J12 A n c ip (lbS t l) (foundS t l) (amtF l t.hold t.parcel) A0 n0 c0 A1 n1 c1 t.hold t.parcel t.units w0.heap.size w R := by
  obtain ⟨hpl, hpid⟩ := pix_lt hip
  have hpm := List.getElem_mem hpl
  have hpu := (hr.c.p1 _ hpm).2.1
  have hful := hr.full _ hpm
  rw [hpid] at hful
  have hun := unitsF_nonneg hr.pos t.parcel
  have ham := amt_nonneg hr.pos t.hold t.parcel
  have hlb := lbS_le t l
  have hle : amtF l t.hold t.parcel ≤ 9 := by
    rcases amt_spec l t.hold t.parcel with ⟨e, _⟩ | ⟨x, hx, e1, e2, e3⟩
    · omega
    · have := units_mem hr.pos hx
      rw [e1] at this
      omega
  refine F.cargo_Put.J12.step _ _ _ _ _ _ _ _ _ _ _ _ _ _ _ _ _ _ _ ⟨by simp only [inR]; omega, fun k => hneg w k, fun k => ?_⟩
  obtain ⟨hbp, ap, hAp, _, hcp⟩ := (hc.p.keep hw (Nat.le_refl _)).at_ (fun _ => rfl) hc.lp hpl
  refine ⟨hbp, ap, hAp, _, hcp 1 _ rfl, fun w19 x19 => ?_⟩
  have hw := kE hw x19
  refine Pure.mono (cargo_units (h.keep hw (Nat.le_refl _)) hl (by omega) (hr.smu t.parcel)) ?_
  rintro v w22 b22 rfl
  have hw := kP hw b22
  refine ⟨_, rfl, by simp only [inR]; omega, fun k2 => hfull w22 _ k (List.getElem?_eq_getElem hpl) k2, fun k2 => ?_⟩
  have fin := fun w A m c ho => hok w _ A m c k (List.getElem?_eq_getElem hpl) k2 ho
  refine runOk_makeS el_Sws (by omega) hw.size fun w25 rows0 o25 b25 => ?_
  have hw25 := kP hw b25
  have hB := hw.size
  have h25 := h.keep hw25 (Nat.le_refl _)
  refine runOk_copyAll el_Sws (o25.base hw.size) h25 (by simpa using hl) (fun r hr => by obtain ⟨s, _, rfl⟩ := List.mem_map.1 hr; rfl) (fun r hr => by obtain ⟨s, _, rfl⟩ := List.mem_map.1 hr; intro u hu; simp [Sw.row] at hu; rcases hu with rfl | rfl | rfl <;> rfl) (by decide) fun w28 o28 k28 b28 => ?_
  have hw28 := hw25.trans b28
  refine ⟨by simp only [inR]; omega, runOk_alloc 35 zeroSw hw28.size fun w29 hnew b29 hlt => ?_⟩
  have hw29 := kP hw28 b29
  refine ⟨_, _, hw28.size, rfl, hnew, by simp [Value.cells], rfl, fun w34 hw34 => ?_⟩
  have hcells : w34.heap[w28.heap.size]? = some (.cells ([.int .i64 t.hold, .int .i64 t.parcel, .int .i64 (amtF l t.hold t.parcel + t.units)] : List Value).toArray 35 (0, 0)) := by
    have := hw34.at_
    simpa [setCells, Value.cells] using this
  have hB34 : w0.heap.size ≤ w34.heap.size := by rw [hw34.size]; exact hw29.size
  have hg28 : w22.heap.size < w28.heap.size := by
    have := (o28.blk _ rfl).2
    simpa using this
  have o34 : OwnR w34 w0.heap.size 35 (some ⟨w22.heap.size, 0, none⟩) n n 3 (l.map Sw.row) := (o28.below b29).other fun x hx => hw34.rest _ (by cases hx; show w22.heap.size ≠ w28.heap.size; omega)
  refine ⟨fun hf => ?_, fun hf => ?_⟩
  · have ha0 := amt_unfound hr.srt hf
    have hpos : 0 < amtF l t.hold t.parcel + t.units := by omega
    refine ⟨_, _, _, box_all hcells, ?_⟩
    refine runOk_lit el_Sws [.agg #[.int .i64 t.hold, .int .i64 t.parcel, .int .i64 (amtF l t.hold t.parcel + t.units)]] (by simp [Value.cells]) (by simp) hB34 fun A2 c2 w40 o40 b40 => ?_
    have hA2 : ∃ g, A2 = some ⟨g, 0, none⟩ ∧ w34.heap.size ≤ g := by
      rcases o40.1.2 with ⟨_, h3⟩ | ⟨g, cap, cur, h3, h4, _⟩
      · simp at h3
      · cases h3; exact ⟨g, rfl, h4⟩
    obtain ⟨vb, rfl, hvb⟩ := hA2
    have hvr : OwnR w40 w0.heap.size 35 (some ⟨vb, 0, none⟩) 1 c2 3 [(⟨t.hold, t.parcel, amtF l t.hold t.parcel + t.units⟩ : Sw).row] := o40.base hB34
    refine PureB.mono (InsertS (Nat.le_trans hB34 b40.size) (o34.below b40) (by omega) (by omega) hvr fun a ha e => ?_) ?_
    · cases ha
      have := (o34.blk _ rfl).2
      simp only at e this
      omega
    · rintro v w43 b43 ⟨A', c', rfl, o43, hoth⟩
      refine ⟨fun i ty cs ht hcs => hoth.2 i (Array.getElem?_eq_some_iff.1 hcs).1 fun a ha e => ?_, _, _, _, rfl, fin _ _ _ _ ?_⟩
      · cases ha
        have := ((o34.below b40).cells _ rfl)
        obtain ⟨cs', hcs'⟩ := this
        rw [← e, hcs] at hcs'
        simp only [Option.some.injEq, Obj.cells.injEq] at hcs'
        rw [hcs'.2.1] at ht
        revert ht
        decide
      · rw [upd_at hr.srt, hf, if_pos hpos]
        simpa using o43
  · have hf : foundS t l = true := by simpa using hf
    obtain ⟨hi, e1, e2⟩ := found_at hf
    have ha := amt_found hr.srt hf hi
    have e3 : ((lbS t l : Nat) : Int) + 1 = ((lbS t l + 1 : Nat) : Int) := by omega
    refine ⟨_, (show CellsAt w34 ((⟨w28.heap.size, 0, none⟩ : Addr).add 2) [.int .i64 (amtF l t.hold t.parcel + t.units)] from cells_part (box_all hcells) 2 1), fun hz => ?_, fun hz => ?_⟩
    · refine ⟨by simp only [inR]; omega, ?_⟩
      rw [e3]
      refine PureB.mono (DeleteS hB34 o34 (by omega) (by omega)) ?_
      rintro v w47 b47 ⟨m, rfl, o47, hoth⟩
      refine ⟨fun i ty cs ht hcs => hoth.2 i (Array.getElem?_eq_some_iff.1 hcs).1 fun a ha e => ?_, _, _, _, rfl, fin _ _ _ _ ?_⟩
      · cases ha
        obtain ⟨cs', hcs'⟩ := o34.cells _ rfl
        rw [← e, hcs] at hcs'
        simp only [Option.some.injEq, Obj.cells.injEq] at hcs'
        rw [hcs'.2.1] at ht
        revert ht
        decide
      · rw [upd_at hr.srt, hf, if_neg (by omega)]
        simpa using o47
    · refine ⟨_, _, _, box_all hcells, ?_⟩
      obtain ⟨g1, a2, hA2, cs, g2, g3, g4, g5, g6⟩ := o34.set0 (i := ((lbS t l : Nat) : Int)) (by omega) (by omega) [.int .i64 t.hold, .int .i64 t.parcel, .int .i64 (amtF l t.hold t.parcel + t.units)] ((l[lbS t l]'(by omega)).row) (by rw [Int.toNat_natCast, List.getElem?_map, List.getElem?_eq_getElem (by omega)]; rfl) rfl
      refine ⟨g1, a2, hA2, cs, _, g2, g3, g4, g5, rfl, fun w54 hw54 => fin _ _ _ _ ?_⟩
      have o54 := g6 w54 hw54
      rw [Int.toNat_natCast] at o54
      rw [upd_at hr.srt, hf, if_pos (by omega), if_pos rfl, ← set_at hi, List.map_set]
      exact o54
theorem cargo_Put {w : World} (hg : Glob w) (hc : CgIn w A0 n0 A1 n1 ps hs) (h : SlR w A 3 (l.map Sw.row)) (hl : l.length = n) (hnc : n ≤ c) (hn : n ≤ 40) (t : Sw) :
    Pure Tryz.prog 25 #[.agg #[.slice A0 n0 c0, .slice A1 n1 c1], .slice A n c, t.val] w (StowR (putF ps hs l t) w.heap.size) := by
  refine F.cargo_Put.vc _ _ _ _ _ _ _ _ _ _ _ _ _ _ fun w1 x1 => ?_
  have hw := k0 x1
  refine Pure.mono (cargo_Stowed (hg.next hw) (hc.keep hw) (h.keep hw (Nat.le_refl _)) hl hnc (by omega)) ?_
  rintro v w4 b4 rfl
  have hw := kP hw b4
  unfold putF
  refine ⟨_, rfl, fun h0 => by rw [if_pos h0]; rfl, fun h0 => ?_⟩
  rw [if_neg h0]
  have hr := stowed_right (Decidable.not_not.1 h0)
  refine Pure.mono (cargo_parcel (hc.keep hw) t.parcel) ?_
  rintro v w7 b7 rfl
  have hw := kP hw b7
  refine ⟨_, rfl, fun h1 => by rw [ixI_neg.1 h1]; rfl, fun h1 => ?_⟩
  refine Pure.mono (cargo_hold (hc.keep hw) t.hold) ?_
  rintro v w10 b10 rfl
  have hw := kP hw b10
  cases hip : pix ps t.parcel with
  | none => exact absurd (ixI_neg.2 hip) h1
  | some ip =>
  refine ⟨_, rfl, fun h2 => by rw [ixI_neg.1 h2]; rfl, fun h2 => ?_⟩
  cases hih : hix hs t.hold with
  | none => exact absurd (ixI_neg.2 hih) h2
  | some ih =>
  refine ⟨fun h3 => by simp only; rw [if_pos (.inl h3)]; rfl, fun h3 => ⟨fun h4 => by simp only; rw [if_pos (.inr (.inl h4))]; rfl, fun h4 => ⟨fun h5 => by simp only; rw [if_pos (.inr (.inr (by omega)))]; rfl, fun h5 => ?_⟩⟩⟩
  simp only
  rw [if_neg (by omega)]
  refine Pure.mono (search_stows (h.keep hw (Nat.le_refl _)) hl (by omega) hr.srt ⟨t.hold, t.parcel, 0⟩) ?_
  rintro v w14 b14 rfl
  have hw := kP hw b14
  have ek : ∀ u : Int, lbS ⟨t.hold, t.parcel, u⟩ l = lbS t l := fun u => rfl
  have ef : ∀ u : Int, foundS ⟨t.hold, t.parcel, u⟩ l = foundS t l := fun u => rfl
  rw [ek, ef]
  have J := fun (w' : World) hw' => put_J12 (c := c) (c0 := c0) (c1 := c1) hc h hl hn hr t ⟨by omega, by omega, h3⟩ hip (R := StowR (if amtF l t.hold t.parcel + t.units < 0 then .error 11 else match ps[ip]? with
      | some p => if p.units < unitsF l t.parcel + t.units then .error 12 else .ok (updS l ⟨t.hold, t.parcel, amtF l t.hold t.parcel + t.units⟩)
      | none => .error 0) w.heap.size)
    (fun w2 k => by rw [if_pos k]; rfl) (fun w2 p k e k2 => by rw [if_neg k, e]; simp only; rw [if_pos k2]; rfl)
    (fun w2 p A m c k e k2 ho => by rw [if_neg k, e]; simp only; rw [if_neg k2]; exact ⟨A, m, c, rfl, ho⟩) (w := w') hw'
  refine ⟨_, _, rfl, fun hf => ?_, fun hf => ?_⟩
  · obtain ⟨hi, e1, e2⟩ := found_at hf
    obtain ⟨hb, a, hA, _, hcell⟩ := (h.keep hw (Nat.le_refl _)).at_ (fun _ => rfl) hl hi
    refine ⟨hb, a, hA, _, hcell 2 _ rfl, ?_⟩
    have := J w14 hw
    rw [amt_found hr.srt hf hi] at this
    rw [amt_found hr.srt hf hi]
    exact this
  · have := J w14 hw
    rw [amt_unfound hr.srt hf] at this
    rw [amt_unfound hr.srt hf]
    exact this
end
end Go.Proofs.YtdnelnicnjplpaaGreatDoor.B

namespace Go.Proofs.YtdnelnicnjplpaaGreatDoor.B
open Go Go.RowKit Go.Proofs Go.Proofs.YtdnelnicnjplpaaGreatDoor.Vc

structure QT where
  b : Bool
  A : Option Addr
  n : Nat
  c : Nat
  A' : Option Addr
  n' : Nat
  c' : Nat
  r : Rat
def QT.is (x : QT) (w : World) : Prop := IsQ w x.b x.A x.n x.c x.A' x.n' x.c' x.r
def Qs (w : World) (L : List QT) : Prop := ∀ x ∈ L, x.is w
theorem Qs.below {w w' : World} {L : List QT} (h : Qs w L) (hb : Below w.heap.size w w') : Qs w' L := fun x hx => IsQ.below (h x hx) hb
theorem Qs.ext {w w' : World} {B : Nat} {ts : List Nat} {L : List QT} (h : Qs w L) (e : Ext B ts w w') (ht : 112 ∉ ts) : Qs w' L := fun x hx => IsQ.ext (h x hx) e ht
theorem Qs.add {w : World} {L : List QT} (h : Qs w L) {x : QT} (k : x.is w) : Qs w (x :: L) := fun y hy => by
  rcases List.mem_cons.1 hy with rfl | hy
  · exact k
  · exact h y hy
theorem Qs.nil {w : World} : Qs w [] := fun x hx => by cases hx
theorem QR.qt {r : Rat} {v : Value} {w : World} (h : QR r v w) : ∃ x : QT, x.r = r ∧ v = .agg #[.bool x.b, .slice x.A x.n x.c, .slice x.A' x.n' x.c'] ∧ x.is w := by
  obtain ⟨b, A, n, c, A', n', c', rfl, k⟩ := h
  exact ⟨⟨b, A, n, c, A', n', c', r⟩, rfl, rfl, k⟩
theorem q_Mul {w : World} {x y : QT} (hx : x.is w) (hy : y.is w) (sx : Big x.r) (sy : Big y.r) : Pure Tryz.prog 40 #[.agg #[.bool x.b, .slice x.A x.n x.c, .slice x.A' x.n' x.c'], .agg #[.bool y.b, .slice y.A y.n y.c, .slice y.A' y.n' y.c']] w (QR (x.r * y.r)) := ref3_Mul hx hy sx sy
theorem q_To {w : World} {x : QT} (hx : x.is w) (sx : Big x.r) : Pure Tryz.prog 39 #[.agg #[.bool x.b, .slice x.A x.n x.c, .slice x.A' x.n' x.c']] w fun v _ => v = .string (rS x.r) := ref3_To hx sx

section
variable {w0 : World} {A0 A1 A : Option Addr} {n0 c0 n1 c1 n c : Nat} {ps : List Pa} {hs : List Ho} {l : List Sw}

end
end Go.Proofs.YtdnelnicnjplpaaGreatDoor.B

namespace Go.Proofs.YtdnelnicnjplpaaGreatDoor.B
open Go Go.RowKit Go.Proofs Go.Proofs.YtdnelnicnjplpaaGreatDoor.Vc

section
variable {w0 : World} {A0 A1 A : Option Addr} {n0 c0 n1 c1 n c : Nat} {ps : List Pa} {hs : List Ho}
theorem CgIn.pAt (hc : CgIn w0 A0 n0 A1 n1 ps hs) {w : World} (hw : Below w0.heap.size w0 w) {i : Nat} (hi : i < ps.length) :
    (0 ≤ (i : Int) ∧ (i : Int) < n0) ∧ ∃ a, A0 = some a ∧ CellsAt w (a.add ((i : Int).toNat * 7)) (ps[i].row) ∧ ∀ k u, (ps[i].row)[k]? = some u → CellsAt w ((a.add ((i : Int).toNat * 7)).add k) [u] :=
  (hc.p.keep hw (Nat.le_refl _)).at_ (fun _ => rfl) hc.lp hi
end
end Go.Proofs.YtdnelnicnjplpaaGreatDoor.B

set_option maxRecDepth 100000
set_option maxHeartbeats 4000000
namespace Go.Proofs.YtdnelnicnjplpaaGreatDoor.F
open Go Go.RowKit Go.Proofs Go.Proofs.YtdnelnicnjplpaaGreatDoor.Vc
def garboardlaw47_CargoTogether.L11 (a : Option Addr) (b c : Nat) (d : Option Addr) (e f : Nat) (g i : Int) (j : Option Addr) (l m : Nat) (n : Option Addr) (o p : Nat) (q r s t u v x y z A C D : ByteArray) (B : Nat) (w : World) (R : Value → World → Prop) : Prop := At Tryz.prog 7 118 (loopAt Tryz.f7 11) [(1, .v (.slice a b c)), (2, .loc 2 0), (5, .loc 5 0), (7, .loc 7 0), (49, .v (.slice d e f)), (50, .v (.int .i64 g)), (51, .v (.int .i64 i))] [⟨2, false, 25, [(.slice j l m), (.slice n o p)]⟩, ⟨5, false, 41, [(.string q), (.string r), (.string s), (.string t), (.string u), (.string v)]⟩, ⟨7, false, 41, [(.string x), (.string y), (.string z), (.string A), (.string C), (.string D)]⟩] B w R
def garboardlaw47_CargoTogether.J17 (a : Option Addr) (b c : Nat) (d : Option Addr) (e f : Nat) (g i : Int) (j : Option Addr) (l m : Nat) (n : Option Addr) (o p : Nat) (q r s t u v x y z A C D E G H I J K : ByteArray) (B : Nat) (w : World) (R : Value → World → Prop) : Prop := At Tryz.prog 7 118 (regionAt Tryz.f7 17) [(1, .v (.slice a b c)), (2, .loc 2 0), (5, .loc 5 0), (7, .loc 7 0), (10, .loc 10 0), (49, .v (.slice d e f)), (50, .v (.int .i64 g)), (51, .v (.int .i64 i))] [⟨2, false, 25, [(.slice j l m), (.slice n o p)]⟩, ⟨5, false, 41, [(.string q), (.string r), (.string s), (.string t), (.string u), (.string v)]⟩, ⟨7, false, 41, [(.string x), (.string y), (.string z), (.string A), (.string C), (.string D)]⟩, ⟨10, false, 41, [(.string E), (.string G), (.string H), (.string I), (.string J), (.string K)]⟩] B w R
noncomputable def garboardlaw47_CargoTogether.cx (w : World) (B : Nat) (R : Value → World → Prop) : Cx := ⟨Tryz.prog, 7, 118, Tryz.f7.results.toList, [((true, 11), [1, 2, 5, 7, 49, 50, 51], [2, 5, 7]), ((false, 17), [1, 2, 5, 7, 10, 49, 50, 51], [2, 5, 7, 10])], [(13, 9998, 8), (16, 4, 7), (16, 10, 7), (16, 16, 7), (17, 6, 7), (17, 14, 7), (17, 22, 7)], w, B, R⟩
theorem garboardlaw47_CargoTogether.L11.step (f : Option Addr) (g i : Nat) (j : Option Addr) (l D : Nat) (e c : Int) (m : Option Addr) (n o : Nat) (p : Option Addr) (q r : Nat) (s t u v x y K J I z A C : ByteArray) (B : Nat) (w : World) (R : Value → World → Prop)
    (h : (((c < e) → ((0 ≤ c ∧ c < l) ∧ ∃ d1, j = some d1 ∧ (∃ d2 t1 t2 t3 t4 t5 t6, CellsAt w (d1.add ((c).toNat * 7)) [.int .i64 d2, .string t1, .string t2, .string t3, .string t4, .string t5, .string t6] ∧ (∀ d3, Ext B [] w d3 → (Pure P 14 #[.agg #[.slice m n o, .slice p q r]] d3 fun t7 t8 => ∃ d4 d5 d6 d7 d8 d9, t7 = .agg #[.slice d4 d5 d6, .slice d7 d8 d9] ∧ (∀ e0, Ext B [] t8 e0 → (Pure P 17 #[.slice f g i] e0 fun t9 v0 => ∃ e1 e2 e3, t9 = .slice e1 e2 e3 ∧ (∀ e4, Ext B [] v0 e4 → (Pure P 19 #[.agg #[.slice d4 d5 d6, .slice d7 d8 d9], .slice e1 e2 e3, .int .i64 d2] e4 fun v1 U => ∃ d b a E G H a6, v1 = .tuple #[.agg #[.string d, .string b, .string a, .string E, .string G, .string H], .int .i64 a6] ∧ (((a6 ≠ 0) → (∀ e5, Ext B [41] U e5 → (R (.bool false) e5))) ∧ (¬ (a6 ≠ 0) → ((∀ a7, Ext B [41] U a7 → (RunOk P (Instr.buildSlice 106 2 #[(0, (.string K)), (1, (.string d))]) a7.heap.size [41, 61, 25, 41, 41] a7 fun v2 O => ∃ L M N, v2 = .slice L M N ∧ ((Pure P 34 #[.slice L M N] O fun v3 V => ∃ X, v3 = .string X ∧ ((RunOk P (Instr.buildSlice 106 2 #[(0, (.string J)), (1, (.string b))]) V.heap.size [41, 61, 25, 41, 41] V fun v4 a8 => ∃ a9 b0 b1, v4 = .slice a9 b0 b1 ∧ ((Pure P 34 #[.slice a9 b0 b1] a8 fun v5 e6 => ∃ e7, v5 = .string e7 ∧ (RunOk P (Instr.buildSlice 106 2 #[(0, (.string I)), (1, (.string a))]) e6.heap.size [41, 61, 25, 41, 41] e6 fun v6 v7 => ∃ e8 e9 f0, v6 = .slice e8 e9 f0 ∧ (Pure P 34 #[.slice e8 e9 f0] v7 fun v8 v9 => ∃ f1, v8 = .string f1 ∧ (∀ f2, Ext B [41] v9 f2 → (garboardlaw47_CargoTogether.J17 f g i j l D e c m n o p q r s t u v x y X e7 f1 z A C d b a E G H B f2 R))))) ∧ (RunOk P (Instr.buildSlice 106 2 #[(0, (.string I)), (1, (.string a))]) a8.heap.size [41, 61, 25, 41, 41] a8 fun x0 x1 => ∃ f3 f4 f5, x0 = .slice f3 f4 f5 ∧ (Pure P 34 #[.slice a9 b0 b1] x1 fun x2 x3 => ∃ f6, x2 = .string f6 ∧ (Pure P 34 #[.slice f3 f4 f5] x3 fun x4 x5 => ∃ f7, x4 = .string f7 ∧ (∀ f8, Ext B [41] x5 f8 → (garboardlaw47_CargoTogether.J17 f g i j l D e c m n o p q r s t u v x y X f6 f7 z A C d b a E G H B f8 R))))))) ∧ (RunOk P (Instr.buildSlice 106 2 #[(0, (.string I)), (1, (.string a))]) V.heap.size [41, 61, 25, 41, 41] V fun x6 f9 => ∃ g0 g1 g2, x6 = .slice g0 g1 g2 ∧ (RunOk P (Instr.buildSlice 106 2 #[(0, (.string J)), (1, (.string b))]) f9.heap.size [41, 61, 25, 41, 41] f9 fun x7 x8 => ∃ g3 g4 g5, x7 = .slice g3 g4 g5 ∧ (Pure P 34 #[.slice g3 g4 g5] x8 fun x9 y0 => ∃ g6, x9 = .string g6 ∧ (Pure P 34 #[.slice g0 g1 g2] y0 fun y1 y2 => ∃ g7, y1 = .string g7 ∧ (∀ g8, Ext B [41] y2 g8 → (garboardlaw47_CargoTogether.J17 f g i j l D e c m n o p q r s t u v x y X g6 g7 z A C d b a E G H B g8 R)))))))) ∧ ((RunOk P (Instr.buildSlice 106 2 #[(0, (.string J)), (1, (.string b))]) O.heap.size [41, 61, 25, 41, 41] O fun y3 b2 => ∃ Y Z a0, y3 = .slice Y Z a0 ∧ ((Pure P 34 #[.slice L M N] b2 fun y4 b3 => ∃ b4, y4 = .string b4 ∧ ((Pure P 34 #[.slice Y Z a0] b3 fun y5 g9 => ∃ j0, y5 = .string j0 ∧ (RunOk P (Instr.buildSlice 106 2 #[(0, (.string I)), (1, (.string a))]) g9.heap.size [41, 61, 25, 41, 41] g9 fun y6 y7 => ∃ j1 j2 j3, y6 = .slice j1 j2 j3 ∧ (Pure P 34 #[.slice j1 j2 j3] y7 fun y8 y9 => ∃ j4, y8 = .string j4 ∧ (∀ j5, Ext B [41] y9 j5 → (garboardlaw47_CargoTogether.J17 f g i j l D e c m n o p q r s t u v x y b4 j0 j4 z A C d b a E G H B j5 R))))) ∧ (RunOk P (Instr.buildSlice 106 2 #[(0, (.string I)), (1, (.string a))]) b3.heap.size [41, 61, 25, 41, 41] b3 fun z0 z1 => ∃ j6 j7 j8, z0 = .slice j6 j7 j8 ∧ (Pure P 34 #[.slice Y Z a0] z1 fun z2 z3 => ∃ j9, z2 = .string j9 ∧ (Pure P 34 #[.slice j6 j7 j8] z3 fun z4 z5 => ∃ l0, z4 = .string l0 ∧ (∀ l1, Ext B [41] z5 l1 → (garboardlaw47_CargoTogether.J17 f g i j l D e c m n o p q r s t u v x y b4 j9 l0 z A C d b a E G H B l1 R))))))) ∧ (RunOk P (Instr.buildSlice 106 2 #[(0, (.string I)), (1, (.string a))]) b2.heap.size [41, 61, 25, 41, 41] b2 fun z6 z7 => ∃ l2 l3 l4, z6 = .slice l2 l3 l4 ∧ (Pure P 34 #[.slice L M N] z7 fun z8 z9 => ∃ l5, z8 = .string l5 ∧ (Pure P 34 #[.slice Y Z a0] z9 fun A0 A1 => ∃ l6, A0 = .string l6 ∧ (Pure P 34 #[.slice l2 l3 l4] A1 fun A2 A3 => ∃ l7, A2 = .string l7 ∧ (∀ l8, Ext B [41] A3 l8 → (garboardlaw47_CargoTogether.J17 f g i j l D e c m n o p q r s t u v x y l5 l6 l7 z A C d b a E G H B l8 R)))))))) ∧ (RunOk P (Instr.buildSlice 106 2 #[(0, (.string I)), (1, (.string a))]) O.heap.size [41, 61, 25, 41, 41] O fun A4 b5 => ∃ b6 b7 b8, A4 = .slice b6 b7 b8 ∧ ((Pure P 34 #[.slice L M N] b5 fun A5 l9 => ∃ m0, A5 = .string m0 ∧ (RunOk P (Instr.buildSlice 106 2 #[(0, (.string J)), (1, (.string b))]) l9.heap.size [41, 61, 25, 41, 41] l9 fun A6 A7 => ∃ m1 m2 m3, A6 = .slice m1 m2 m3 ∧ (Pure P 34 #[.slice m1 m2 m3] A7 fun A8 A9 => ∃ m4, A8 = .string m4 ∧ (Pure P 34 #[.slice b6 b7 b8] A9 fun C0 C1 => ∃ m5, C0 = .string m5 ∧ (∀ m6, Ext B [41] C1 m6 → (garboardlaw47_CargoTogether.J17 f g i j l D e c m n o p q r s t u v x y m0 m4 m5 z A C d b a E G H B m6 R)))))) ∧ (RunOk P (Instr.buildSlice 106 2 #[(0, (.string J)), (1, (.string b))]) b5.heap.size [41, 61, 25, 41, 41] b5 fun C2 C3 => ∃ m7 m8 m9, C2 = .slice m7 m8 m9 ∧ (Pure P 34 #[.slice L M N] C3 fun C4 C5 => ∃ n0, C4 = .string n0 ∧ (Pure P 34 #[.slice m7 m8 m9] C5 fun C6 C7 => ∃ n1, C6 = .string n1 ∧ (Pure P 34 #[.slice b6 b7 b8] C7 fun C8 C9 => ∃ n2, C8 = .string n2 ∧ (∀ n3, Ext B [41] C9 n3 → (garboardlaw47_CargoTogether.J17 f g i j l D e c m n o p q r s t u v x y n0 n1 n2 z A C d b a E G H B n3 R)))))))))))) ∧ ((∀ b9, Ext B [41] U b9 → (RunOk P (Instr.buildSlice 106 2 #[(0, (.string J)), (1, (.string b))]) b9.heap.size [41, 61, 25, 41, 41] b9 fun D0 a1 => ∃ Q S T, D0 = .slice Q S T ∧ ((RunOk P (Instr.buildSlice 106 2 #[(0, (.string K)), (1, (.string d))]) a1.heap.size [41, 61, 25, 41, 41] a1 fun D1 c0 => ∃ c1 c2 c3, D1 = .slice c1 c2 c3 ∧ ((Pure P 34 #[.slice c1 c2 c3] c0 fun D2 c4 => ∃ c5, D2 = .string c5 ∧ ((Pure P 34 #[.slice Q S T] c4 fun D3 n4 => ∃ n5, D3 = .string n5 ∧ (RunOk P (Instr.buildSlice 106 2 #[(0, (.string I)), (1, (.string a))]) n4.heap.size [41, 61, 25, 41, 41] n4 fun D4 D5 => ∃ n6 n7 n8, D4 = .slice n6 n7 n8 ∧ (Pure P 34 #[.slice n6 n7 n8] D5 fun D6 D7 => ∃ n9, D6 = .string n9 ∧ (∀ o0, Ext B [41] D7 o0 → (garboardlaw47_CargoTogether.J17 f g i j l D e c m n o p q r s t u v x y c5 n5 n9 z A C d b a E G H B o0 R))))) ∧ (RunOk P (Instr.buildSlice 106 2 #[(0, (.string I)), (1, (.string a))]) c4.heap.size [41, 61, 25, 41, 41] c4 fun D8 D9 => ∃ o1 o2 o3, D8 = .slice o1 o2 o3 ∧ (Pure P 34 #[.slice Q S T] D9 fun E0 E1 => ∃ o4, E0 = .string o4 ∧ (Pure P 34 #[.slice o1 o2 o3] E1 fun E2 E3 => ∃ o5, E2 = .string o5 ∧ (∀ o6, Ext B [41] E3 o6 → (garboardlaw47_CargoTogether.J17 f g i j l D e c m n o p q r s t u v x y c5 o4 o5 z A C d b a E G H B o6 R))))))) ∧ (RunOk P (Instr.buildSlice 106 2 #[(0, (.string I)), (1, (.string a))]) c0.heap.size [41, 61, 25, 41, 41] c0 fun E4 E5 => ∃ o7 o8 o9, E4 = .slice o7 o8 o9 ∧ (Pure P 34 #[.slice c1 c2 c3] E5 fun E6 E7 => ∃ p0, E6 = .string p0 ∧ (Pure P 34 #[.slice Q S T] E7 fun E8 E9 => ∃ p1, E8 = .string p1 ∧ (Pure P 34 #[.slice o7 o8 o9] E9 fun G0 G1 => ∃ p2, G0 = .string p2 ∧ (∀ p3, Ext B [41] G1 p3 → (garboardlaw47_CargoTogether.J17 f g i j l D e c m n o p q r s t u v x y p0 p1 p2 z A C d b a E G H B p3 R)))))))) ∧ (RunOk P (Instr.buildSlice 106 2 #[(0, (.string I)), (1, (.string a))]) a1.heap.size [41, 61, 25, 41, 41] a1 fun G2 p4 => ∃ p5 p6 p7, G2 = .slice p5 p6 p7 ∧ (RunOk P (Instr.buildSlice 106 2 #[(0, (.string K)), (1, (.string d))]) p4.heap.size [41, 61, 25, 41, 41] p4 fun G3 G4 => ∃ p8 p9 q0, G3 = .slice p8 p9 q0 ∧ (Pure P 34 #[.slice p8 p9 q0] G4 fun G5 G6 => ∃ q1, G5 = .string q1 ∧ (Pure P 34 #[.slice Q S T] G6 fun G7 G8 => ∃ q2, G7 = .string q2 ∧ (Pure P 34 #[.slice p5 p6 p7] G8 fun G9 H0 => ∃ q3, G9 = .string q3 ∧ (∀ q4, Ext B [41] H0 q4 → (garboardlaw47_CargoTogether.J17 f g i j l D e c m n o p q r s t u v x y q1 q2 q3 z A C d b a E G H B q4 R)))))))))) ∧ (∀ c6, Ext B [41] U c6 → (RunOk P (Instr.buildSlice 106 2 #[(0, (.string I)), (1, (.string a))]) c6.heap.size [41, 61, 25, 41, 41] c6 fun H1 a2 => ∃ a3 a4 a5, H1 = .slice a3 a4 a5 ∧ ((RunOk P (Instr.buildSlice 106 2 #[(0, (.string K)), (1, (.string d))]) a2.heap.size [41, 61, 25, 41, 41] a2 fun H2 c7 => ∃ c8 c9 d0, H2 = .slice c8 c9 d0 ∧ ((Pure P 34 #[.slice c8 c9 d0] c7 fun H3 q5 => ∃ q6, H3 = .string q6 ∧ (RunOk P (Instr.buildSlice 106 2 #[(0, (.string J)), (1, (.string b))]) q5.heap.size [41, 61, 25, 41, 41] q5 fun H4 H5 => ∃ q7 q8 q9, H4 = .slice q7 q8 q9 ∧ (Pure P 34 #[.slice q7 q8 q9] H5 fun H6 H7 => ∃ r0, H6 = .string r0 ∧ (Pure P 34 #[.slice a3 a4 a5] H7 fun H8 H9 => ∃ r1, H8 = .string r1 ∧ (∀ r2, Ext B [41] H9 r2 → (garboardlaw47_CargoTogether.J17 f g i j l D e c m n o p q r s t u v x y q6 r0 r1 z A C d b a E G H B r2 R)))))) ∧ (RunOk P (Instr.buildSlice 106 2 #[(0, (.string J)), (1, (.string b))]) c7.heap.size [41, 61, 25, 41, 41] c7 fun I0 I1 => ∃ r3 r4 r5, I0 = .slice r3 r4 r5 ∧ (Pure P 34 #[.slice c8 c9 d0] I1 fun I2 I3 => ∃ r6, I2 = .string r6 ∧ (Pure P 34 #[.slice r3 r4 r5] I3 fun I4 I5 => ∃ r7, I4 = .string r7 ∧ (Pure P 34 #[.slice a3 a4 a5] I5 fun I6 I7 => ∃ r8, I6 = .string r8 ∧ (∀ r9, Ext B [41] I7 r9 → (garboardlaw47_CargoTogether.J17 f g i j l D e c m n o p q r s t u v x y r6 r7 r8 z A C d b a E G H B r9 R)))))))) ∧ (RunOk P (Instr.buildSlice 106 2 #[(0, (.string J)), (1, (.string b))]) a2.heap.size [41, 61, 25, 41, 41] a2 fun I8 s0 => ∃ s1 s2 s3, I8 = .slice s1 s2 s3 ∧ (RunOk P (Instr.buildSlice 106 2 #[(0, (.string K)), (1, (.string d))]) s0.heap.size [41, 61, 25, 41, 41] s0 fun I9 J0 => ∃ s4 s5 s6, I9 = .slice s4 s5 s6 ∧ (Pure P 34 #[.slice s4 s5 s6] J0 fun J1 J2 => ∃ s7, J1 = .string s7 ∧ (Pure P 34 #[.slice s1 s2 s3] J2 fun J3 J4 => ∃ s8, J3 = .string s8 ∧ (Pure P 34 #[.slice a3 a4 a5] J4 fun J5 J6 => ∃ s9, J5 = .string s9 ∧ (∀ t0, Ext B [41] J6 t0 → (garboardlaw47_CargoTogether.J17 f g i j l D e c m n o p q r s t u v x y s7 s8 s9 z A C d b a E G H B t0 R))))))))))))))))))))))) ∧ (¬ (c < e) → (R (.bool (decide (K = s ∧ J = t ∧ I = u ∧ z = v ∧ A = x ∧ C = y ∧ True))) w)))) :
    garboardlaw47_CargoTogether.L11 f g i j l D e c m n o p q r s t u v x y K J I z A C B w R :=
  loop_of_run (garboardlaw47_CargoTogether.cx w B R) 100000 (loopAt Tryz.f7 11) _ _ follows Tryz.func7 rfl rfl rfl (Eq.mp (by kernel_rfl) h)
theorem garboardlaw47_CargoTogether.J17.step (b : Option Addr) (c d : Nat) (e : Option Addr) (f g : Nat) (i a : Int) (j : Option Addr) (l m : Nat) (n : Option Addr) (o p : Nat) (q r s t u v x y z G D A r1 r2 r3 H E C : ByteArray) (B : Nat) (w : World) (R : Value → World → Prop)
    (h : ((∀ a2, Ext B [] w a2 → (RunOk P (Instr.buildSlice 106 2 #[(0, (.string G)), (1, (.string H))]) a2.heap.size [25, 41, 41, 41] a2 fun r4 L => ∃ I J K, r4 = .slice I J K ∧ ((Pure P 34 #[.slice I J K] L fun r5 Q => ∃ S, r5 = .string S ∧ ((RunOk P (Instr.buildSlice 106 2 #[(0, (.string D)), (1, (.string E))]) Q.heap.size [25, 41, 41, 41] Q fun r6 a3 => ∃ a4 a5 a6, r6 = .slice a4 a5 a6 ∧ ((Pure P 34 #[.slice a4 a5 a6] a3 fun r7 c6 => ∃ c7, r7 = .string c7 ∧ (RunOk P (Instr.buildSlice 106 2 #[(0, (.string A)), (1, (.string C))]) c6.heap.size [25, 41, 41, 41] c6 fun r8 r9 => ∃ c8 c9 d0, r8 = .slice c8 c9 d0 ∧ (Pure P 34 #[.slice c8 c9 d0] r9 fun s0 s1 => ∃ d1, s0 = .string d1 ∧ (inR .i64 (a + 1) ∧ (∀ d2, Ext B [41] s1 d2 → (garboardlaw47_CargoTogether.L11 b c d e f g i (a + 1) j l m n o p q r s t u v x y z S c7 d1 B d2 R)))))) ∧ (RunOk P (Instr.buildSlice 106 2 #[(0, (.string A)), (1, (.string C))]) a3.heap.size [25, 41, 41, 41] a3 fun s2 s3 => ∃ d3 d4 d5, s2 = .slice d3 d4 d5 ∧ (Pure P 34 #[.slice a4 a5 a6] s3 fun s4 s5 => ∃ d6, s4 = .string d6 ∧ (Pure P 34 #[.slice d3 d4 d5] s5 fun s6 s7 => ∃ d7, s6 = .string d7 ∧ (inR .i64 (a + 1) ∧ (∀ d8, Ext B [41] s7 d8 → (garboardlaw47_CargoTogether.L11 b c d e f g i (a + 1) j l m n o p q r s t u v x y z S d6 d7 B d8 R)))))))) ∧ (RunOk P (Instr.buildSlice 106 2 #[(0, (.string A)), (1, (.string C))]) Q.heap.size [25, 41, 41, 41] Q fun s8 d9 => ∃ e0 e1 e2, s8 = .slice e0 e1 e2 ∧ (RunOk P (Instr.buildSlice 106 2 #[(0, (.string D)), (1, (.string E))]) d9.heap.size [25, 41, 41, 41] d9 fun s9 t0 => ∃ e3 e4 e5, s9 = .slice e3 e4 e5 ∧ (Pure P 34 #[.slice e3 e4 e5] t0 fun t1 t2 => ∃ e6, t1 = .string e6 ∧ (Pure P 34 #[.slice e0 e1 e2] t2 fun t3 t4 => ∃ e7, t3 = .string e7 ∧ (inR .i64 (a + 1) ∧ (∀ e8, Ext B [41] t4 e8 → (garboardlaw47_CargoTogether.L11 b c d e f g i (a + 1) j l m n o p q r s t u v x y z S e6 e7 B e8 R))))))))) ∧ ((RunOk P (Instr.buildSlice 106 2 #[(0, (.string D)), (1, (.string E))]) L.heap.size [25, 41, 41, 41] L fun t5 a7 => ∃ T U V, t5 = .slice T U V ∧ ((Pure P 34 #[.slice I J K] a7 fun t6 a8 => ∃ a9, t6 = .string a9 ∧ ((Pure P 34 #[.slice T U V] a8 fun t7 e9 => ∃ f0, t7 = .string f0 ∧ (RunOk P (Instr.buildSlice 106 2 #[(0, (.string A)), (1, (.string C))]) e9.heap.size [25, 41, 41, 41] e9 fun t8 t9 => ∃ f1 f2 f3, t8 = .slice f1 f2 f3 ∧ (Pure P 34 #[.slice f1 f2 f3] t9 fun v0 v1 => ∃ f4, v0 = .string f4 ∧ (inR .i64 (a + 1) ∧ (∀ f5, Ext B [41] v1 f5 → (garboardlaw47_CargoTogether.L11 b c d e f g i (a + 1) j l m n o p q r s t u v x y z a9 f0 f4 B f5 R)))))) ∧ (RunOk P (Instr.buildSlice 106 2 #[(0, (.string A)), (1, (.string C))]) a8.heap.size [25, 41, 41, 41] a8 fun v2 v3 => ∃ f6 f7 f8, v2 = .slice f6 f7 f8 ∧ (Pure P 34 #[.slice T U V] v3 fun v4 v5 => ∃ f9, v4 = .string f9 ∧ (Pure P 34 #[.slice f6 f7 f8] v5 fun v6 v7 => ∃ g0, v6 = .string g0 ∧ (inR .i64 (a + 1) ∧ (∀ g1, Ext B [41] v7 g1 → (garboardlaw47_CargoTogether.L11 b c d e f g i (a + 1) j l m n o p q r s t u v x y z a9 f9 g0 B g1 R)))))))) ∧ (RunOk P (Instr.buildSlice 106 2 #[(0, (.string A)), (1, (.string C))]) a7.heap.size [25, 41, 41, 41] a7 fun v8 v9 => ∃ g2 g3 g4, v8 = .slice g2 g3 g4 ∧ (Pure P 34 #[.slice I J K] v9 fun x0 x1 => ∃ g5, x0 = .string g5 ∧ (Pure P 34 #[.slice T U V] x1 fun x2 x3 => ∃ g6, x2 = .string g6 ∧ (Pure P 34 #[.slice g2 g3 g4] x3 fun x4 x5 => ∃ g7, x4 = .string g7 ∧ (inR .i64 (a + 1) ∧ (∀ g8, Ext B [41] x5 g8 → (garboardlaw47_CargoTogether.L11 b c d e f g i (a + 1) j l m n o p q r s t u v x y z g5 g6 g7 B g8 R))))))))) ∧ (RunOk P (Instr.buildSlice 106 2 #[(0, (.string A)), (1, (.string C))]) L.heap.size [25, 41, 41, 41] L fun x6 b0 => ∃ b1 b2 b3, x6 = .slice b1 b2 b3 ∧ ((Pure P 34 #[.slice I J K] b0 fun x7 g9 => ∃ j0, x7 = .string j0 ∧ (RunOk P (Instr.buildSlice 106 2 #[(0, (.string D)), (1, (.string E))]) g9.heap.size [25, 41, 41, 41] g9 fun x8 x9 => ∃ j1 j2 j3, x8 = .slice j1 j2 j3 ∧ (Pure P 34 #[.slice j1 j2 j3] x9 fun y0 y1 => ∃ j4, y0 = .string j4 ∧ (Pure P 34 #[.slice b1 b2 b3] y1 fun y2 y3 => ∃ j5, y2 = .string j5 ∧ (inR .i64 (a + 1) ∧ (∀ j6, Ext B [41] y3 j6 → (garboardlaw47_CargoTogether.L11 b c d e f g i (a + 1) j l m n o p q r s t u v x y z j0 j4 j5 B j6 R))))))) ∧ (RunOk P (Instr.buildSlice 106 2 #[(0, (.string D)), (1, (.string E))]) b0.heap.size [25, 41, 41, 41] b0 fun y4 y5 => ∃ j7 j8 j9, y4 = .slice j7 j8 j9 ∧ (Pure P 34 #[.slice I J K] y5 fun y6 y7 => ∃ l0, y6 = .string l0 ∧ (Pure P 34 #[.slice j7 j8 j9] y7 fun y8 y9 => ∃ l1, y8 = .string l1 ∧ (Pure P 34 #[.slice b1 b2 b3] y9 fun z0 z1 => ∃ l2, z0 = .string l2 ∧ (inR .i64 (a + 1) ∧ (∀ l3, Ext B [41] z1 l3 → (garboardlaw47_CargoTogether.L11 b c d e f g i (a + 1) j l m n o p q r s t u v x y z l0 l1 l2 B l3 R))))))))))))) ∧ ((∀ b4, Ext B [] w b4 → (RunOk P (Instr.buildSlice 106 2 #[(0, (.string D)), (1, (.string E))]) b4.heap.size [25, 41, 41, 41] b4 fun z2 X => ∃ M N O, z2 = .slice M N O ∧ ((RunOk P (Instr.buildSlice 106 2 #[(0, (.string G)), (1, (.string H))]) X.heap.size [25, 41, 41, 41] X fun z3 b5 => ∃ b6 b7 b8, z3 = .slice b6 b7 b8 ∧ ((Pure P 34 #[.slice b6 b7 b8] b5 fun z4 b9 => ∃ c0, z4 = .string c0 ∧ ((Pure P 34 #[.slice M N O] b9 fun z5 l4 => ∃ l5, z5 = .string l5 ∧ (RunOk P (Instr.buildSlice 106 2 #[(0, (.string A)), (1, (.string C))]) l4.heap.size [25, 41, 41, 41] l4 fun z6 z7 => ∃ l6 l7 l8, z6 = .slice l6 l7 l8 ∧ (Pure P 34 #[.slice l6 l7 l8] z7 fun z8 z9 => ∃ l9, z8 = .string l9 ∧ (inR .i64 (a + 1) ∧ (∀ m0, Ext B [41] z9 m0 → (garboardlaw47_CargoTogether.L11 b c d e f g i (a + 1) j l m n o p q r s t u v x y z c0 l5 l9 B m0 R)))))) ∧ (RunOk P (Instr.buildSlice 106 2 #[(0, (.string A)), (1, (.string C))]) b9.heap.size [25, 41, 41, 41] b9 fun A0 A1 => ∃ m1 m2 m3, A0 = .slice m1 m2 m3 ∧ (Pure P 34 #[.slice M N O] A1 fun A2 A3 => ∃ m4, A2 = .string m4 ∧ (Pure P 34 #[.slice m1 m2 m3] A3 fun A4 A5 => ∃ m5, A4 = .string m5 ∧ (inR .i64 (a + 1) ∧ (∀ m6, Ext B [41] A5 m6 → (garboardlaw47_CargoTogether.L11 b c d e f g i (a + 1) j l m n o p q r s t u v x y z c0 m4 m5 B m6 R)))))))) ∧ (RunOk P (Instr.buildSlice 106 2 #[(0, (.string A)), (1, (.string C))]) b5.heap.size [25, 41, 41, 41] b5 fun A6 A7 => ∃ m7 m8 m9, A6 = .slice m7 m8 m9 ∧ (Pure P 34 #[.slice b6 b7 b8] A7 fun A8 A9 => ∃ n0, A8 = .string n0 ∧ (Pure P 34 #[.slice M N O] A9 fun C0 C1 => ∃ n1, C0 = .string n1 ∧ (Pure P 34 #[.slice m7 m8 m9] C1 fun C2 C3 => ∃ n2, C2 = .string n2 ∧ (inR .i64 (a + 1) ∧ (∀ n3, Ext B [41] C3 n3 → (garboardlaw47_CargoTogether.L11 b c d e f g i (a + 1) j l m n o p q r s t u v x y z n0 n1 n2 B n3 R))))))))) ∧ (RunOk P (Instr.buildSlice 106 2 #[(0, (.string A)), (1, (.string C))]) X.heap.size [25, 41, 41, 41] X fun C4 n4 => ∃ n5 n6 n7, C4 = .slice n5 n6 n7 ∧ (RunOk P (Instr.buildSlice 106 2 #[(0, (.string G)), (1, (.string H))]) n4.heap.size [25, 41, 41, 41] n4 fun C5 C6 => ∃ n8 n9 o0, C5 = .slice n8 n9 o0 ∧ (Pure P 34 #[.slice n8 n9 o0] C6 fun C7 C8 => ∃ o1, C7 = .string o1 ∧ (Pure P 34 #[.slice M N O] C8 fun C9 D0 => ∃ o2, C9 = .string o2 ∧ (Pure P 34 #[.slice n5 n6 n7] D0 fun D1 D2 => ∃ o3, D1 = .string o3 ∧ (inR .i64 (a + 1) ∧ (∀ o4, Ext B [41] D2 o4 → (garboardlaw47_CargoTogether.L11 b c d e f g i (a + 1) j l m n o p q r s t u v x y z o1 o2 o3 B o4 R))))))))))) ∧ (∀ c1, Ext B [] w c1 → (RunOk P (Instr.buildSlice 106 2 #[(0, (.string A)), (1, (.string C))]) c1.heap.size [25, 41, 41, 41] c1 fun D3 Y => ∃ Z a0 a1, D3 = .slice Z a0 a1 ∧ ((RunOk P (Instr.buildSlice 106 2 #[(0, (.string G)), (1, (.string H))]) Y.heap.size [25, 41, 41, 41] Y fun D4 c2 => ∃ c3 c4 c5, D4 = .slice c3 c4 c5 ∧ ((Pure P 34 #[.slice c3 c4 c5] c2 fun D5 o5 => ∃ o6, D5 = .string o6 ∧ (RunOk P (Instr.buildSlice 106 2 #[(0, (.string D)), (1, (.string E))]) o5.heap.size [25, 41, 41, 41] o5 fun D6 D7 => ∃ o7 o8 o9, D6 = .slice o7 o8 o9 ∧ (Pure P 34 #[.slice o7 o8 o9] D7 fun D8 D9 => ∃ p0, D8 = .string p0 ∧ (Pure P 34 #[.slice Z a0 a1] D9 fun E0 E1 => ∃ p1, E0 = .string p1 ∧ (inR .i64 (a + 1) ∧ (∀ p2, Ext B [41] E1 p2 → (garboardlaw47_CargoTogether.L11 b c d e f g i (a + 1) j l m n o p q r s t u v x y z o6 p0 p1 B p2 R))))))) ∧ (RunOk P (Instr.buildSlice 106 2 #[(0, (.string D)), (1, (.string E))]) c2.heap.size [25, 41, 41, 41] c2 fun E2 E3 => ∃ p3 p4 p5, E2 = .slice p3 p4 p5 ∧ (Pure P 34 #[.slice c3 c4 c5] E3 fun E4 E5 => ∃ p6, E4 = .string p6 ∧ (Pure P 34 #[.slice p3 p4 p5] E5 fun E6 E7 => ∃ p7, E6 = .string p7 ∧ (Pure P 34 #[.slice Z a0 a1] E7 fun E8 E9 => ∃ p8, E8 = .string p8 ∧ (inR .i64 (a + 1) ∧ (∀ p9, Ext B [41] E9 p9 → (garboardlaw47_CargoTogether.L11 b c d e f g i (a + 1) j l m n o p q r s t u v x y z p6 p7 p8 B p9 R))))))))) ∧ (RunOk P (Instr.buildSlice 106 2 #[(0, (.string D)), (1, (.string E))]) Y.heap.size [25, 41, 41, 41] Y fun G0 q0 => ∃ q1 q2 q3, G0 = .slice q1 q2 q3 ∧ (RunOk P (Instr.buildSlice 106 2 #[(0, (.string G)), (1, (.string H))]) q0.heap.size [25, 41, 41, 41] q0 fun G1 G2 => ∃ q4 q5 q6, G1 = .slice q4 q5 q6 ∧ (Pure P 34 #[.slice q4 q5 q6] G2 fun G3 G4 => ∃ q7, G3 = .string q7 ∧ (Pure P 34 #[.slice q1 q2 q3] G4 fun G5 G6 => ∃ q8, G5 = .string q8 ∧ (Pure P 34 #[.slice Z a0 a1] G6 fun G7 G8 => ∃ q9, G7 = .string q9 ∧ (inR .i64 (a + 1) ∧ (∀ r0, Ext B [41] G8 r0 → (garboardlaw47_CargoTogether.L11 b c d e f g i (a + 1) j l m n o p q r s t u v x y z q7 q8 q9 B r0 R)))))))))))))) :
    garboardlaw47_CargoTogether.J17 b c d e f g i a j l m n o p q r s t u v x y z G D A r1 r2 r3 H E C B w R :=
  join_of_run (garboardlaw47_CargoTogether.cx w B R) 100000 (regionAt Tryz.f7 17) _ _ follows Tryz.func7 rfl rfl rfl (Eq.mp (by kernel_rfl) h)
theorem garboardlaw47_CargoTogether.vc (e : Option Addr) (f g : Nat) (b : Option Addr) (a c : Nat) (i : Option Addr) (d j : Nat) (w : World) (R : Value → World → Prop)
    (h : (∀ x, Ext w.heap.size [] w x → (Pure P 11 #[] x fun r3 y => ∃ r, r3 = .bool r ∧ (((r = false) → (R (.bool false) y)) ∧ (¬ (r = false) → (Pure P 12 #[.agg #[.slice e f g, .slice b a c]] y fun r6 s => ∃ t, r6 = .bool t ∧ (((t = false) → (R (.bool true) s)) ∧ (¬ (t = false) → ((((d : Int) > 40) → (R (.bool true) s)) ∧ (¬ ((d : Int) > 40) → (Pure P 14 #[.agg #[.slice e f g, .slice b a c]] s fun a2 a3 => ∃ z A C D E G, a2 = .agg #[.slice z A C, .slice D E G] ∧ (Pure P 17 #[.slice i d j] a3 fun a4 a5 => ∃ H I J, a4 = .slice H I J ∧ (Pure P 21 #[.agg #[.slice z A C, .slice D E G], .slice H I J] a5 fun a6 u => ∃ l m n o p q v, a6 = .tuple #[.agg #[.string l, .string m, .string n, .string o, .string p, .string q], .int .i64 v] ∧ (((v ≠ 0) → (((l = (⟨#[]⟩ : ByteArray) ∧ m = (⟨#[]⟩ : ByteArray) ∧ n = (⟨#[]⟩ : ByteArray) ∧ o = (⟨#[]⟩ : ByteArray) ∧ p = (⟨#[]⟩ : ByteArray) ∧ q = (⟨#[]⟩ : ByteArray) ∧ True) → (∀ K, Ext w.heap.size [] u K → (Pure P 14 #[.agg #[.slice e f g, .slice b a c]] K fun a7 a8 => ∃ L M N O Q S, a7 = .agg #[.slice L M N, .slice O Q S] ∧ (Pure P 17 #[.slice i d j] a8 fun a9 b0 => ∃ T U V, a9 = .slice T U V ∧ (Pure P 16 #[.agg #[.slice L M N, .slice O Q S], .slice T U V] b0 fun b1 b2 => ∃ X, b1 = .int .i64 X ∧ (R (.bool (decide (X ≠ 0))) b2)))))) ∧ (¬ (l = (⟨#[]⟩ : ByteArray) ∧ m = (⟨#[]⟩ : ByteArray) ∧ n = (⟨#[]⟩ : ByteArray) ∧ o = (⟨#[]⟩ : ByteArray) ∧ p = (⟨#[]⟩ : ByteArray) ∧ q = (⟨#[]⟩ : ByteArray) ∧ True) → (∀ Y, Ext w.heap.size [] u Y → (R (.bool false) Y))))) ∧ (¬ (v ≠ 0) → (∀ Z, Ext w.heap.size [] u Z → (garboardlaw47_CargoTogether.L11 i d j b a c (a : Int) (0 : Int) e f g b a c l m n o p q (⟨#[48]⟩ : ByteArray) (⟨#[48]⟩ : ByteArray) (⟨#[48]⟩ : ByteArray) (⟨#[48]⟩ : ByteArray) (⟨#[48]⟩ : ByteArray) (⟨#[48]⟩ : ByteArray) w.heap.size Z R))))))))))))))))) :
    Pure P 7 #[.agg #[.slice e f g, .slice b a c], .slice i d j] w R :=
  pure_of_run (garboardlaw47_CargoTogether.cx w w.heap.size R) 100000 follows Tryz.func7 rfl rfl rfl rfl rfl rfl rfl (Eq.mp (by kernel_rfl) h)

def garboardlaw47_CargoSteps.L6 (a : Option Addr) (b c : Nat) (d : Option Addr) (e f : Nat) (g i : Int) (j : Option Addr) (l m : Nat) (n : Option Addr) (o p B : Nat) (w : World) (R : Value → World → Prop) : Prop := At Tryz.prog 10 145 (loopAt Tryz.f10 6) [(1, .v (.slice a b c)), (3, .loc 3 0), (44, .v (.slice d e f)), (45, .v (.int .i64 g)), (46, .v (.int .i64 i))] [⟨3, false, 25, [(.slice j l m), (.slice n o p)]⟩] B w R
noncomputable def garboardlaw47_CargoSteps.cx (w : World) (B : Nat) (R : Value → World → Prop) : Cx := ⟨Tryz.prog, 10, 145, Tryz.f10.results.toList, [((true, 6), [1, 3, 44, 45, 46], [3])], [(12, 2, 5), (18, 8, 7), (18, 20, 7)], w, B, R⟩
theorem garboardlaw47_CargoSteps.L6.step (j : Option Addr) (l m : Nat) (p : Option Addr) (q s : Nat) (n a : Int) (b : Option Addr) (c e : Nat) (f : Option Addr) (g i B : Nat) (w : World) (R : Value → World → Prop)
    (h : (((a < n) → ((0 ≤ a ∧ a < q) ∧ ∃ V, p = some V ∧ (∃ t u v, CellsAt w (V.add ((a).toNat * 3)) [.int .i64 t, .int .i64 u, .int .i64 v] ∧ (∀ X, Ext B [] w X → (Pure P 14 #[.agg #[.slice b c e, .slice f g i]] X fun l2 l3 => ∃ Y Z a0 a1 a2 a3, l2 = .agg #[.slice Y Z a0, .slice a1 a2 a3] ∧ (Pure P 17 #[.slice j l m] l3 fun l4 l5 => ∃ a4 a5 a6, l4 = .slice a4 a5 a6 ∧ (Pure P 25 #[.agg #[.slice Y Z a0, .slice a1 a2 a3], .slice a4 a5 a6, .agg #[.int .i64 t, .int .i64 u, .int .i64 v]] l5 fun l6 a7 => ∃ x y z A, l6 = .tuple #[.slice x y z, .int .i64 A] ∧ (((A ≠ 0) → (inR .i64 (a + 1) ∧ (garboardlaw47_CargoSteps.L6 j l m p q s n (a + 1) b c e f g i B a7 R))) ∧ (¬ (A ≠ 0) → (Pure P 14 #[.agg #[.slice b c e, .slice f g i]] a7 fun l7 l8 => ∃ a8 a9 b0 b1 b2 b3, l7 = .agg #[.slice a8 a9 b0, .slice b1 b2 b3] ∧ (Pure P 17 #[.slice j l m] l8 fun l9 m0 => ∃ b4 b5 b6, l9 = .slice b4 b5 b6 ∧ (Pure P 21 #[.agg #[.slice a8 a9 b0, .slice b1 b2 b3], .slice b4 b5 b6] m0 fun m1 m2 => ∃ b7 m3 b8 m4 m5 m6 C, m1 = .tuple #[.agg #[.string b7, .string m3, .string b8, .string m4, .string m5, .string m6], .int .i64 C] ∧ (∀ b9, Ext B [] m2 b9 → (Pure P 14 #[.agg #[.slice b c e, .slice f g i]] b9 fun m7 m8 => ∃ c0 c1 c2 c3 c4 c5, m7 = .agg #[.slice c0 c1 c2, .slice c3 c4 c5] ∧ (Pure P 17 #[.slice x y z] m8 fun m9 n0 => ∃ c6 c7 c8, m9 = .slice c6 c7 c8 ∧ (Pure P 21 #[.agg #[.slice c0 c1 c2, .slice c3 c4 c5], .slice c6 c7 c8] n0 fun n1 n2 => ∃ D n3 E n4 n5 n6 G, n1 = .tuple #[.agg #[.string D, .string n3, .string E, .string n4, .string n5, .string n6], .int .i64 G] ∧ (∀ H, Ext B [] n2 H → (∀ r : Nat, B ≤ r → H.heap[r]? = some (.cells [.int .i64 t, .int .i64 u, .int .i64 v].toArray 48 (0, 0)) → (Pure P 35 #[.slice b c e, (.func (.func 36) #[] #[(.pointer (some (⟨r, 0, none⟩ : Addr)))])] H fun n7 o => ∃ d, n7 = .int .i64 d ∧ (((C ≠ 0) → (R (.bool false) o)) ∧ (¬ (C ≠ 0) → (((G ≠ 0) → (R (.bool false) o)) ∧ (¬ (G ≠ 0) → (((d < 0) → (R (.bool false) o)) ∧ (¬ (d < 0) → ((0 ≤ d ∧ d < c) ∧ ∃ c9, b = some c9 ∧ (∃ d0, CellsAt o ((c9.add ((d).toNat * 7)).add 6) [.string d0] ∧ (Pure P 37 #[.string d0] o fun n8 n9 => ∃ d1 d2 d3 d4 d5 d6 d7 o0, n8 = .tuple #[.agg #[.bool d1, .slice d2 d3 d4, .slice d5 d6 d7], .bool o0] ∧ ((0 ≤ d ∧ d < c) ∧ ∃ d8, b = some d8 ∧ (∀ I, Ext B [] n9 I → (∃ d9, CellsAt I ((d8.add ((d).toNat * 7)).add 4) [.string d9] ∧ (Pure P 37 #[.string d9] I fun o1 o2 => ∃ e0 e1 e2 e3 e4 e5 e6 o3, o1 = .tuple #[.agg #[.bool e0, .slice e1 e2 e3, .slice e4 e5 e6], .bool o3] ∧ (∀ J, Ext B [] o2 J → (∃ e7, CellsAt J ((⟨r, 0, none⟩ : Addr).add 2) [.int .i64 e7] ∧ (Pure P 38 #[.int .i64 e7] J fun o4 o5 => ∃ K L M N O Q S, o4 = .agg #[.bool K, .slice L M N, .slice O Q S] ∧ (∀ e8, Ext B [] o5 e8 → (Pure P 40 #[.agg #[.bool K, .slice L M N, .slice O Q S], .agg #[.bool d1, .slice d2 d3 d4, .slice d5 d6 d7]] e8 fun o6 o7 => ∃ e9 f0 f1 f2 f3 f4 f5, o6 = .agg #[.bool e9, .slice f0 f1 f2, .slice f3 f4 f5] ∧ (Pure P 39 #[.agg #[.bool e9, .slice f0 f1 f2, .slice f3 f4 f5]] o7 fun o8 f6 => ∃ f7, o8 = .string f7 ∧ (RunOk P (Instr.buildSlice 106 2 #[(0, (.string b8)), (1, (.string f7))]) f6.heap.size [73, 73, 73, 41, 41, 25] f6 fun o9 p0 => ∃ f8 f9 g0, o9 = .slice f8 f9 g0 ∧ (Pure P 34 #[.slice f8 f9 g0] p0 fun p1 g1 => ∃ T, p1 = .string T ∧ (((E ≠ T) → (R (.bool false) g1)) ∧ (¬ (E ≠ T) → (Pure P 40 #[.agg #[.bool K, .slice L M N, .slice O Q S], .agg #[.bool e0, .slice e1 e2 e3, .slice e4 e5 e6]] g1 fun p2 p3 => ∃ g2 g3 g4 g5 g6 g7 g8, p2 = .agg #[.bool g2, .slice g3 g4 g5, .slice g6 g7 g8] ∧ (Pure P 39 #[.agg #[.bool g2, .slice g3 g4 g5, .slice g6 g7 g8]] p3 fun p4 g9 => ∃ j0, p4 = .string j0 ∧ (RunOk P (Instr.buildSlice 106 2 #[(0, (.string b7)), (1, (.string j0))]) g9.heap.size [73, 73, 73, 41, 41, 25] g9 fun p5 p6 => ∃ j1 j2 j3, p5 = .slice j1 j2 j3 ∧ (Pure P 34 #[.slice j1 j2 j3] p6 fun p7 j4 => ∃ U, p7 = .string U ∧ (((D ≠ U) → (R (.bool false) j4)) ∧ (¬ (D ≠ U) → (inR .i64 (a + 1) ∧ (garboardlaw47_CargoSteps.L6 x y z p q s n (a + 1) b c e f g i B j4 R)))))))))))))))))))))))))))))))))))))))))))))))))) ∧ (¬ (a < n) → (Pure P 14 #[.agg #[.slice b c e, .slice f g i]] w fun p8 p9 => ∃ j5 j6 j7 j8 j9 l0, p8 = .agg #[.slice j5 j6 j7, .slice j8 j9 l0] ∧ (Pure P 16 #[.agg #[.slice j5 j6 j7, .slice j8 j9 l0], .slice j l m] p9 fun q0 q1 => ∃ l1, q0 = .int .i64 l1 ∧ (R (.bool (decide (l1 = 0))) q1)))))) :
    garboardlaw47_CargoSteps.L6 j l m p q s n a b c e f g i B w R :=
  loop_of_run (garboardlaw47_CargoSteps.cx w B R) 100000 (loopAt Tryz.f10 6) _ _ follows Tryz.func10 rfl rfl rfl (Eq.mp (by kernel_rfl) h)
theorem garboardlaw47_CargoSteps.vc (c : Option Addr) (d e : Nat) (f : Option Addr) (g i : Nat) (l : Option Addr) (a m : Nat) (q : Option Addr) (b r : Nat) (w : World) (R : Value → World → Prop)
    (h : (∀ s, Ext w.heap.size [] w s → (Pure P 11 #[] s fun H t => ∃ n, H = .bool n ∧ (((n = false) → (R (.bool false) t)) ∧ (¬ (n = false) → (Pure P 12 #[.agg #[.slice c d e, .slice f g i]] t fun I j => ∃ o, I = .bool o ∧ (((o = false) → (R (.bool true) j)) ∧ (¬ (o = false) → ((((a : Int) > 40) → (R (.bool true) j)) ∧ (¬ ((a : Int) > 40) → ((((b : Int) > 20) → (R (.bool true) j)) ∧ (¬ ((b : Int) > 20) → (Pure P 14 #[.agg #[.slice c d e, .slice f g i]] j fun J K => ∃ u v x y z A, J = .agg #[.slice u v x, .slice y z A] ∧ (Pure P 17 #[.slice l a m] K fun L M => ∃ C D E, L = .slice C D E ∧ (Pure P 16 #[.agg #[.slice u v x, .slice y z A], .slice C D E] M fun N G => ∃ p, N = .int .i64 p ∧ (((p ≠ 0) → (R (.bool true) G)) ∧ (¬ (p ≠ 0) → (garboardlaw47_CargoSteps.L6 l a m q b r (b : Int) (0 : Int) c d e f g i w.heap.size G R)))))))))))))))))) :
    Pure P 10 #[.agg #[.slice c d e, .slice f g i], .slice l a m, .slice q b r] w R :=
  pure_of_run (garboardlaw47_CargoSteps.cx w w.heap.size R) 100000 follows Tryz.func10 rfl rfl rfl rfl rfl rfl rfl (Eq.mp (by kernel_rfl) h)

noncomputable def garboardlaw47_awake.cx (w : World) (B : Nat) (R : Value → World → Prop) : Cx := ⟨Tryz.prog, 11, 119, Tryz.f11.results.toList, [], [(1, 2, 2), (4, 2, 2), (6, 1, 2), (8, 30, 2)], w, B, R⟩
theorem garboardlaw47_awake.vc  (w : World) (R : Value → World → Prop)
    (h : (RunOk P (Instr.buildSlice 26 2 #[(0, (.agg #[.int .i64 1, .int .i64 1, .int .i64 2])), (1, (.agg #[.int .i64 2, .int .i64 2, .int .i64 1]))]) w.heap.size [] w fun r2 w3 => ∃ b d a, r2 = .slice b d a ∧ (Pure P 41 #[] w3 fun r6 w7 => ∃ C D E G H I, r6 = .agg #[.slice C D E, .slice G H I] ∧ (Pure P 21 #[.agg #[.slice C D E, .slice G H I], .slice b d a] w7 fun g3 g4 => ∃ e f g i j l m, g3 = .tuple #[.agg #[.string e, .string f, .string g, .string i, .string j, .string l], .int .i64 m] ∧ (∀ J, Ext w.heap.size [] g4 J → (Pure P 41 #[] J fun g5 g6 => ∃ K L M N O Q, g5 = .agg #[.slice K L M, .slice N O Q] ∧ (Pure P 28 #[.agg #[.slice K L M, .slice N O Q], .slice b d a] g6 fun g7 g8 => ∃ S T U n, g7 = .tuple #[.slice S T U, .int .i64 n] ∧ (Pure P 41 #[] g8 fun g9 j0 => ∃ V X Y Z a0 a1, g9 = .agg #[.slice V X Y, .slice Z a0 a1] ∧ (RunOk P (Instr.buildSlice 26 1 #[(0, (.agg #[.int .i64 2, .int .i64 1, .int .i64 3]))]) w.heap.size [41] j0 fun j1 j2 => ∃ a2 a3 a4, j1 = .slice a2 a3 a4 ∧ (Pure P 23 #[.agg #[.slice V X Y, .slice Z a0 a1], .slice a2 a3 a4] j2 fun j3 j4 => ∃ o p, j3 = .tuple #[.int .i64 o, .int .i64 p] ∧ ((0 ≤ (1 : Int) ∧ (1 : Int) ≤ (a : Int)) ∧ (∀ a5, Ext w.heap.size [] j4 a5 → (Pure P 41 #[] a5 fun j5 j6 => ∃ a6 a7 a8 a9 b0 b1, j5 = .agg #[.slice a6 a7 a8, .slice a9 b0 b1] ∧ (Pure P 25 #[.agg #[.slice a6 a7 a8, .slice a9 b0 b1], (.slice b (((1 : Int)).toNat) a), .agg #[.int .i64 2, .int .i64 2, .int .i64 1]] j6 fun j7 j8 => ∃ b2 b3 b4 q, j7 = .tuple #[.slice b2 b3 b4, .int .i64 q] ∧ (Pure P 41 #[] j8 fun j9 l0 => ∃ b5 b6 b7 b8 b9 c0, j9 = .agg #[.slice b5 b6 b7, .slice b8 b9 c0] ∧ (RunOk P (Instr.buildSlice 53 4 #[(0, (.int .i64 2)), (1, (.int .i64 0)), (2, (.int .i64 0)), (3, (.int .i64 1))]) w.heap.size [41] l0 fun l1 l2 => ∃ c1 c2 c3, l1 = .slice c1 c2 c3 ∧ (Pure P 30 #[.agg #[.slice b5 b6 b7, .slice b8 b9 c0], .slice c1 c2 c3] l2 fun l3 l4 => ∃ c4 c5 c6 r, l3 = .tuple #[.slice c4 c5 c6, .int .i64 r] ∧ (Pure P 41 #[] l4 fun l5 l6 => ∃ c7 c8 c9 d0 d1 d2, l5 = .agg #[.slice c7 c8 c9, .slice d0 d1 d2] ∧ (Pure P 19 #[.agg #[.slice c7 c8 c9, .slice d0 d1 d2], .slice b d a, .int .i64 1] l6 fun l7 c => ∃ s l8 l9 m0 m1 m2 t, l7 = .tuple #[.agg #[.string s, .string l8, .string l9, .string m0, .string m1, .string m2], .int .i64 t] ∧ (((m = 0) → (((n = 0) → (((p = 0) → (((q = 0) → (((r = 0) → (((t = 0) → (((e = (⟨#[57, 47, 50]⟩ : ByteArray) ∧ f = (⟨#[54]⟩ : ByteArray) ∧ g = (⟨#[49, 49]⟩ : ByteArray) ∧ i = (⟨#[55, 53, 47, 50]⟩ : ByteArray) ∧ j = (⟨#[48]⟩ : ByteArray) ∧ l = (⟨#[57, 47, 50]⟩ : ByteArray) ∧ True) → (∀ d3, Ext w.heap.size [] c d3 → (RunOk P (Instr.buildSlice 53 4 #[(0, (.int .i64 2)), (1, (.int .i64 0)), (2, (.int .i64 0)), (3, (.int .i64 1))]) w.heap.size [41, 41] d3 fun m3 m4 => ∃ d4 d5 d6, m3 = .slice d4 d5 d6 ∧ (Pure P 33 #[.slice S T U, .slice d4 d5 d6] m4 fun m5 u => ∃ v, m5 = .bool v ∧ ((v = true → (((o = 1) → (Pure P 27 #[.slice b2 b3 b4, .slice b d a] u fun m6 d7 => ∃ x, m6 = .bool x ∧ ((x = true → (Pure P 27 #[.slice c4 c5 c6, .slice b d a] d7 fun m7 y => ∃ z, m7 = .bool z ∧ ((z = true → (((s = (⟨#[52]⟩ : ByteArray)) → (Pure P 41 #[] y fun m8 m9 => ∃ d8 d9 e0 e1 e2 e3, m8 = .agg #[.slice d8 d9 e0, .slice e1 e2 e3] ∧ (Pure P 13 #[.agg #[.slice d8 d9 e0, .slice e1 e2 e3]] m9 fun n0 e4 => ∃ A, n0 = .int .i64 A ∧ (((A = 0) → (Pure P 41 #[] e4 fun n1 n2 => ∃ e5 e6 e7 e8 e9 f0, n1 = .agg #[.slice e5 e6 e7, .slice e8 e9 f0] ∧ (Pure P 16 #[.agg #[.slice e5 e6 e7, .slice e8 e9 f0], .slice b d a] n2 fun n3 n4 => ∃ f1, n3 = .int .i64 f1 ∧ (R (.bool (decide (f1 = 0))) n4)))) ∧ (¬ (A = 0) → (R (.bool false) e4)))))) ∧ (¬ (s = (⟨#[52]⟩ : ByteArray)) → (R (.bool false) y)))) ∧ (z = false → (R (.bool false) y))))) ∧ (x = false → (R (.bool false) d7))))) ∧ (¬ (o = 1) → (R (.bool false) u)))) ∧ (v = false → (R (.bool false) u))))))) ∧ (¬ (e = (⟨#[57, 47, 50]⟩ : ByteArray) ∧ f = (⟨#[54]⟩ : ByteArray) ∧ g = (⟨#[49, 49]⟩ : ByteArray) ∧ i = (⟨#[55, 53, 47, 50]⟩ : ByteArray) ∧ j = (⟨#[48]⟩ : ByteArray) ∧ l = (⟨#[57, 47, 50]⟩ : ByteArray) ∧ True) → (∀ f2, Ext w.heap.size [] c f2 → (R (.bool false) f2))))) ∧ (¬ (t = 0) → (∀ f3, Ext w.heap.size [] c f3 → (R (.bool false) f3))))) ∧ (¬ (r = 0) → (∀ f4, Ext w.heap.size [] c f4 → (R (.bool false) f4))))) ∧ (¬ (q = 0) → (∀ f5, Ext w.heap.size [] c f5 → (R (.bool false) f5))))) ∧ (¬ (p = 0) → (∀ f6, Ext w.heap.size [] c f6 → (R (.bool false) f6))))) ∧ (¬ (n = 0) → (∀ f7, Ext w.heap.size [] c f7 → (R (.bool false) f7))))) ∧ (¬ (m = 0) → (∀ f8, Ext w.heap.size [] c f8 → (R (.bool false) f8))))))))))))))))))))))) :
    Pure P 11 #[] w R :=
  pure_of_run (garboardlaw47_awake.cx w w.heap.size R) 100000 follows Tryz.func11 rfl rfl rfl rfl rfl rfl rfl (Eq.mp (by kernel_rfl) h)

def garboardlaw47_add.L3 (a : Option Addr) (b c : Nat) (d e : Int) (f : Bool) (g : Option Addr) (i j : Nat) (l : Option Addr) (m n B : Nat) (w : World) (R : Value → World → Prop) : Prop := At Tryz.prog 34 26 (loopAt Tryz.f34 3) [(3, .loc 3 0), (9, .v (.slice a b c)), (10, .v (.int .i64 d)), (11, .v (.int .i64 e))] [⟨3, false, 73, [(.bool f), (.slice g i j), (.slice l m n)]⟩] B w R
noncomputable def garboardlaw47_add.cx (w : World) (B : Nat) (R : Value → World → Prop) : Cx := ⟨Tryz.prog, 34, 26, Tryz.f34.results.toList, [((true, 3), [3, 9, 10, 11], [3])], [], w, B, R⟩
theorem garboardlaw47_add.L3.step (c : Option Addr) (d n : Nat) (b a : Int) (e : Bool) (f : Option Addr) (g i : Nat) (j : Option Addr) (l m B : Nat) (w : World) (R : Value → World → Prop)
    (h : (((a < b) → ((0 ≤ a ∧ a < d) ∧ ∃ o, c = some o ∧ (∃ p, CellsAt w (o.add ((a).toNat * 1)) [.string p] ∧ (Pure P 37 #[.string p] w fun K L => ∃ q r s t u v x M, K = .tuple #[.agg #[.bool q, .slice r s t, .slice u v x], .bool M] ∧ (∀ y, Ext B [] L y → (Pure P 72 #[.agg #[.bool e, .slice f g i, .slice j l m], .agg #[.bool q, .slice r s t, .slice u v x]] y fun N O => ∃ z A C D E G H, N = .agg #[.bool z, .slice A C D, .slice E G H] ∧ (inR .i64 (a + 1) ∧ (∀ I, Ext B [73] O I → (garboardlaw47_add.L3 c d n b (a + 1) z A C D E G H B I R))))))))) ∧ (¬ (a < b) → (Pure P 39 #[.agg #[.bool e, .slice f g i, .slice j l m]] w fun Q S => ∃ J, Q = .string J ∧ (R (.string J) S))))) :
    garboardlaw47_add.L3 c d n b a e f g i j l m B w R :=
  loop_of_run (garboardlaw47_add.cx w B R) 100000 (loopAt Tryz.f34 3) _ _ follows Tryz.func34 rfl rfl rfl (Eq.mp (by kernel_rfl) h)
theorem garboardlaw47_add.vc (b : Option Addr) (a c : Nat) (w : World) (R : Value → World → Prop)
    (h : (Pure P 38 #[.int .i64 0] w fun n o => ∃ d e f g i j l, n = .agg #[.bool d, .slice e f g, .slice i j l] ∧ (∀ m, Ext w.heap.size [] o m → (garboardlaw47_add.L3 b a c (a : Int) (0 : Int) d e f g i j l w.heap.size m R)))) :
    Pure P 34 #[.slice b a c] w R :=
  pure_of_run (garboardlaw47_add.cx w w.heap.size R) 100000 follows Tryz.func34 rfl rfl rfl rfl rfl rfl rfl (Eq.mp (by kernel_rfl) h)

noncomputable def garboardlaw47_CargoSteps_c1.cx (w : World) (B : Nat) (R : Value → World → Prop) : Cx := ⟨Tryz.prog, 36, 9, Tryz.f36.results.toList, [], [], w, B, R⟩
theorem garboardlaw47_CargoSteps_c1.vc (b e f : Int) (g i j l : ByteArray) (c : Addr) (w : World) (R : Value → World → Prop)
    (h : (∀ a, Ext w.heap.size [] w a → (∃ d, CellsAt a (c.add 1) [.int .i64 d] ∧ (R (.bool (decide (b = d))) a)))) :
    Pure P 36 #[.agg #[.int .i64 b, .int .i64 e, .int .i64 f, .string g, .string i, .string j, .string l], (.pointer (some c))] w R :=
  pure_of_run (garboardlaw47_CargoSteps_c1.cx w w.heap.size R) 100000 follows Tryz.func36 rfl rfl rfl rfl rfl rfl rfl (Eq.mp (by kernel_rfl) h)

noncomputable def garboardlaw47_Two.cx (w : World) (B : Nat) (R : Value → World → Prop) : Cx := ⟨Tryz.prog, 41, 10, Tryz.f41.results.toList, [], [(1, 2, 2), (1, 7, 2)], w, B, R⟩
theorem garboardlaw47_Two.vc  (w : World) (R : Value → World → Prop)
    (h : (∀ a, Ext w.heap.size [] w a → (RunOk P (Instr.buildSlice 22 2 #[(0, (.agg #[.int .i64 1, .int .i64 3, .int .i64 1, (.string ⟨#[97]⟩), (.string ⟨#[50]⟩), (.string ⟨#[49]⟩), (.string ⟨#[53]⟩)])), (1, (.agg #[.int .i64 2, .int .i64 1, .int .i64 2, (.string ⟨#[98]⟩), (.string ⟨#[49, 47, 50]⟩), (.string ⟨#[52]⟩), (.string ⟨#[49]⟩)]))]) w.heap.size [25] a fun j l => ∃ b c d, j = .slice b c d ∧ (RunOk P (Instr.buildSlice 23 2 #[(0, (.agg #[.int .i64 1, (.string ⟨#[65]⟩), (.string ⟨#[52]⟩), (.string ⟨#[55]⟩), (.string ⟨#[49, 48]⟩), (.string ⟨#[48]⟩), (.string ⟨#[49]⟩)])), (1, (.agg #[.int .i64 2, (.string ⟨#[66]⟩), (.string ⟨#[57]⟩), (.string ⟨#[51]⟩), (.string ⟨#[45, 53]⟩), (.string ⟨#[48]⟩), (.string ⟨#[49]⟩)]))]) w.heap.size [25] l fun m n => ∃ e f g, m = .slice e f g ∧ (∀ i, Ext w.heap.size [25] n i → (R (.agg #[.slice b c d, .slice e f g]) i)))))) :
    Pure P 41 #[] w R :=
  pure_of_run (garboardlaw47_Two.cx w w.heap.size R) 100000 follows Tryz.func41 rfl rfl rfl rfl rfl rfl rfl (Eq.mp (by kernel_rfl) h)

end Go.Proofs.YtdnelnicnjplpaaGreatDoor.F

namespace Go.Proofs.YtdnelnicnjplpaaGreatDoor.B
open Go Go.RowKit Go.Proofs Go.Proofs.YtdnelnicnjplpaaGreatDoor.Vc

def psT : List Pa := [⟨1, 3, 1, ⟨#[97]⟩, ⟨#[50]⟩, ⟨#[49]⟩, ⟨#[53]⟩⟩, ⟨2, 1, 2, ⟨#[98]⟩, ⟨#[49, 47, 50]⟩, ⟨#[52]⟩, ⟨#[49]⟩⟩]
def hsT : List Ho := [⟨1, ⟨#[65]⟩, ⟨#[52]⟩, ⟨#[55]⟩, ⟨#[49, 48]⟩, ⟨#[48]⟩, ⟨#[49]⟩⟩, ⟨2, ⟨#[66]⟩, ⟨#[57]⟩, ⟨#[51]⟩, ⟨#[45, 53]⟩, ⟨#[48]⟩, ⟨#[49]⟩⟩]
def lT : List Sw := [⟨1, 1, 2⟩, ⟨2, 2, 1⟩]
theorem two_check : checkC psT hsT = 0 := by kernel_rfl
theorem two_stowed : stowedF psT hsT lT = 0 := by kernel_rfl
theorem two_total : totalV psT hsT lT = .tuple #[.agg #[.string ⟨#[57, 47, 50]⟩, .string ⟨#[54]⟩, .string ⟨#[49, 49]⟩, .string ⟨#[55, 53, 47, 50]⟩, .string ⟨#[48]⟩, .string ⟨#[57, 47, 50]⟩], .int .i64 0] := by kernel_rfl
theorem two_held : heldV psT hsT lT 1 = .tuple #[.agg #[.string ⟨#[52]⟩, .string ⟨#[50]⟩, .string ⟨#[49, 48]⟩, .string ⟨#[52, 48]⟩, .string ⟨#[48]⟩, .string ⟨#[52]⟩], .int .i64 0] := by kernel_rfl
theorem two_over : overV psT hsT [⟨2, 1, 3⟩] = .tuple #[.int .i64 1, .int .i64 0] := by kernel_rfl
theorem two_amts : amountsF psT hsT lT = [2, 0, 0, 1] := by kernel_rfl
theorem two_put : putF psT hsT [⟨1, 1, 2⟩] ⟨2, 2, 1⟩ = .ok lT := by kernel_rfl
theorem two_from : fromF psT hsT [2, 0, 0, 1] = .ok lT := by kernel_rfl

theorem extAll {B : Nat} {w w' : World} (x : Ext B [] w w') : Below w.heap.size w w' := ⟨x.below.os, x.below.tape, x.below.output, x.below.size, fun k hk => by
  rcases x.other k hk with e | ⟨t, ht, _⟩
  · exact e
  · simp at ht⟩
theorem law_Two (w : World) : Pure Tryz.prog 41 #[] w fun v w' => ∃ A c A' c', v = .agg #[.slice A 2 c, .slice A' 2 c'] ∧ CgIn w' A 2 A' 2 psT hsT := by
  refine F.garboardlaw47_Two.vc _ _ fun w1 x1 => ?_
  have hw := k0 x1
  refine runOk_lit el_Pas (psT.map Pa.val) (by simp [psT, Value.cells]) (by simp [psT]) hw.size fun A c w2 o2 b2 => ?_
  have hw := kP hw b2
  refine runOk_lit el_Hos (hsT.map Ho.val) (by simp [hsT, Value.cells]) (by simp [hsT]) hw.size fun A' c' w3 o3 b3 => ?_
  refine fun w4 x4 => ⟨A, c, A', c', rfl, ?_⟩
  have p2 : SlR w2 A 7 (psT.map Pa.row) := o2.sl
  have p3 : SlR w3 A' 7 (hsT.map Ho.row) := o3.sl
  have o2' := (o2.below b3).extT x4 (by decide)
  have o3' := o3.extT x4 (by decide)
  refine ⟨o2'.sl, o3'.sl, rfl, rfl, fun p hp => ?_, fun h hh => ?_, by omega, by omega⟩
  · simp only [psT, List.mem_cons, List.not_mem_nil, or_false] at hp
    rcases hp with rfl | rfl <;> exact ⟨by decide, by decide, by decide, by decide⟩
  · simp only [hsT, List.mem_cons, List.not_mem_nil, or_false] at hh
    rcases hh with rfl | rfl <;> exact ⟨by decide, by decide, by decide, by decide, by decide, by decide⟩

theorem EqualI {w0 : World} {A A1 : Option Addr} {n n1 c c1 : Nat} {l l1 : List Int} (h : SlR w0 A 1 (l.map iRow)) (h1 : SlR w0 A1 1 (l1.map iRow)) (hlen : l.length = n) (hlen1 : l1.length = n1) (hn : n < 2147483648) :
    Pure Tryz.prog 33 #[.slice A n c, .slice A1 n1 c1] w0 fun y _ => y = .bool (decide (l = l1)) := by
  have key : n = n1 → ∀ (d i : Nat) (w : World), n - i = d → i ≤ n → Below w0.heap.size w0 w → l.take i = l1.take i → F.slices_Equal_int_int.L4 A n c A1 n1 c1 n i w0.heap.size w fun y _ => y = .bool (decide (l = l1)) := by
    intro e d
    induction d with
    | zero =>
      intro i w hd hi hw hx
      refine F.slices_Equal_int_int.L4.step _ _ _ _ _ _ _ _ _ _ _ ⟨fun h => by omega, fun _ => ?_⟩
      rw [List.take_of_length_le (by omega), List.take_of_length_le (by omega)] at hx
      rw [decide_eq_true hx]
    | succ d ih =>
      intro i w hd hi hw hx
      have hil : i < l.length := by omega
      have hil1 : i < l1.length := by omega
      have e3 : (i : Int) + 1 = ((i + 1 : Nat) : Int) := by omega
      obtain ⟨hb, a, hA, hcell, _⟩ := (h.keep hw (Nat.le_refl _)).at_ (fun _ => rfl) hlen hil
      obtain ⟨hb1, a1, hA1, hcell1, _⟩ := (h1.keep hw (Nat.le_refl _)).at_ (fun _ => rfl) hlen1 hil1
      refine F.slices_Equal_int_int.L4.step _ _ _ _ _ _ _ _ _ _ _ ⟨fun _ => ⟨hb, a, hA, _, hcell, hb1, a1, hA1, _, hcell1, fun k w2 _ => ?_, fun k => ⟨by simp only [inR]; omega, fun w2 x2 => ?_⟩⟩, fun h => by omega⟩
      · rw [decide_eq_false fun e => k (by subst e; rfl)]
      · rw [e3]
        refine ih (i + 1) w2 (by omega) (by omega) (kE hw x2) ?_
        rw [List.take_add_one, List.take_add_one, hx, List.getElem?_eq_getElem hil, List.getElem?_eq_getElem hil1, Decidable.not_not.1 k]
  refine F.slices_Equal_int_int.vc _ _ _ _ _ _ _ _ ⟨fun k => ?_, fun k => key (by omega) n 0 w0 rfl (by omega) (Below.refl _ _) (by simp)⟩
  rw [decide_eq_false fun e => k (by subst e; omega)]

theorem law47_awake {w : World} (hg : Glob w) : Pure Tryz.prog 11 #[] w fun v _ => v = .bool true := by
  refine F.garboardlaw47_awake.vc _ _ ?_
  refine runOk_lit el_Sws (lT.map Sw.val) (by simp [lT, Value.cells]) (by simp [lT]) (Nat.le_refl _) fun A1 c1 w3 o3 b3 => ?_
  have h1 : SlR w3 A1 3 (lT.map Sw.row) := o3.sl
  have hc1 : 2 ≤ c1 := o3.len_le
  have hW := b3
  have hw : Below w3.heap.size w3 w3 := Below.refl _ _
  have g3 := hg.next b3
  refine Pure.mono (law_Two w3) ?_
  rintro v w7 b7 ⟨A, c, A', c', rfl, hc⟩
  have hw := kP hw b7
  refine ⟨_, _, _, _, _, _, rfl, Pure.mono (cargo_Total (g3.next hw) hc (h1.keep hw (Nat.le_refl _)) rfl hc1 (by decide)) ?_⟩
  rintro v w16 b16 rfl
  rw [two_total]
  have hw := kP hw b16
  refine ⟨_, _, _, _, _, _, _, rfl, fun w17 x17 => ?_⟩
  have hw := kP hw (extAll x17); clear x17
  refine Pure.mono (law_Two w17) ?_
  rintro v w21 b21 ⟨A18, c18, A19, c19, rfl, hc⟩
  have hw := kP hw b21
  refine ⟨_, _, _, _, _, _, rfl, Pure.mono (cargo_Amounts (g3.next hw) hc (h1.keep hw (Nat.le_refl _)) rfl hc1 (by decide)) ?_⟩
  rintro v w25 b25 ⟨_, k25⟩
  obtain ⟨A22, N, rfl, o22, hN⟩ := k25 two_stowed
  have hw := kP hw b25
  rw [two_amts] at o22
  have s22 := o22.sl
  refine ⟨_, _, _, _, rfl, Pure.mono (law_Two w25) ?_⟩
  rintro v w29 b29 ⟨A26, c26, A27, c27, rfl, hc⟩
  have hw := kP hw b29
  have s22 := s22.below b29
  refine ⟨_, _, _, _, _, _, rfl, ?_⟩
  refine runOk_lit el_Sws [Sw.val ⟨2, 1, 3⟩] (by simp [Value.cells]) (by simp) (hW.trans (hw.mono hW.size)).size fun A30 c30 w32 o30 b32 => ?_
  have hw := kP hw b32
  have s22 := s22.below b32
  have h30 : SlR w32 A30 3 (([⟨2, 1, 3⟩] : List Sw).map Sw.row) := o30.sl
  refine Pure.mono (cargo_Overloaded (l := [⟨2, 1, 3⟩]) (g3.next hw) (hc.keep b32) h30 rfl o30.len_le (by decide)) ?_
  rintro v w36 b36 rfl
  rw [two_over]
  have hw := kP hw b36
  have s22 := s22.below b36
  refine ⟨_, _, rfl, ⟨by omega, by omega⟩, fun w37 x37 => ?_⟩
  have hw := kP hw (extAll x37)
  have s22 := s22.below (extAll x37)
  refine Pure.mono (law_Two w37) ?_
  rintro v w41 b41 ⟨A38, c38, A39, c39, rfl, hc⟩
  have hw := kP hw b41
  have s22 := s22.below b41
  refine ⟨_, _, _, _, _, _, rfl, ?_⟩
  have h1a : SlR w41 A1 3 (([⟨1, 1, 2⟩] : List Sw).map Sw.row) := (h1.keep hw (Nat.le_refl _)).take 1
  refine Pure.mono (cargo_Put (n := 1) (l := [⟨1, 1, 2⟩]) (g3.next hw) hc h1a rfl (by omega) (by omega) ⟨2, 2, 1⟩) ?_
  rintro v w45 b45 k45
  rw [two_put] at k45
  obtain ⟨A42, m42, c42, rfl, o42⟩ := k45
  have hw := kP hw b45
  have s22 := s22.below b45
  have s42 := o42.sl
  have l42 : lT.length = m42 := by simpa using o42.len
  refine ⟨_, _, _, _, rfl, Pure.mono (law_Two w45) ?_⟩
  rintro v w49 b49 ⟨A46, c46, A47, c47, rfl, hc⟩
  have hw := kP hw b49
  have s22 := s22.below b49
  have s42 := s42.below b49
  refine ⟨_, _, _, _, _, _, rfl, ?_⟩
  refine runOk_lit el_Ints [.int .i64 2, .int .i64 0, .int .i64 0, .int .i64 1] (by simp [Value.cells]) (by simp) (hW.trans (hw.mono hW.size)).size fun A50 c50 w52 o50 b52 => ?_
  have hw := kP hw b52
  have s22 := s22.below b52
  have s42 := s42.below b52
  have h50 : SlR w52 A50 1 (([2, 0, 0, 1] : List Int).map iRow) := o50.sl
  refine Pure.mono (cargo_From (a := [2, 0, 0, 1]) (g3.next hw) (hc.keep b52) h50 rfl o50.len_le (by decide)) ?_
  rintro v w56 b56 k56
  rw [two_from] at k56
  obtain ⟨A53, m53, c53, rfl, o53⟩ := k56
  have hw := kP hw b56
  have s22 := s22.below b56
  have s42 := s42.below b56
  have s53 := o53.sl
  have l53 : lT.length = m53 := by simpa using o53.len
  refine ⟨_, _, _, _, rfl, Pure.mono (law_Two w56) ?_⟩
  rintro v w60 b60 ⟨A57, c57, A58, c58, rfl, hc⟩
  have hw := kP hw b60
  have s22 := s22.below b60
  have s42 := s42.below b60
  have s53 := s53.below b60
  refine ⟨_, _, _, _, _, _, rfl, Pure.mono (cargo_Held (g3.next hw) hc (h1.keep hw (Nat.le_refl _)) rfl hc1 (by decide) 1) ?_⟩
  rintro v w69 b69 rfl
  rw [two_held]
  have hw := kP hw b69
  have s22 := s22.below b69
  have s42 := s42.below b69
  have s53 := s53.below b69
  refine ⟨_, _, _, _, _, _, _, rfl, fun _ => ⟨fun _ => ⟨fun _ => ⟨fun _ => ⟨fun _ => ⟨fun _ => ⟨fun _ w70 x70 => ?_, fun k => absurd ⟨rfl, rfl, rfl, rfl, rfl, rfl, trivial⟩ k⟩, fun k => absurd rfl k⟩, fun k => absurd rfl k⟩, fun k => absurd rfl k⟩, fun k => absurd rfl k⟩, fun k => absurd rfl k⟩, fun k => absurd rfl k⟩
  have hw := kP hw (extAll x70)
  have s22 := s22.below (extAll x70)
  have s42 := s42.below (extAll x70)
  have s53 := s53.below (extAll x70)
  refine runOk_lit el_Ints [.int .i64 2, .int .i64 0, .int .i64 0, .int .i64 1] (by simp [Value.cells]) (by simp) (hW.trans (hw.mono hW.size)).size fun A71 c71 w73 o71 b73 => ?_
  have hw := kP hw b73
  have s22 := s22.below b73
  have s42 := s42.below b73
  have s53 := s53.below b73
  have h71 : SlR w73 A71 1 (([2, 0, 0, 1] : List Int).map iRow) := o71.sl
  refine Pure.mono (EqualI (l := [2, 0, 0, 1]) (l1 := [2, 0, 0, 1]) s22 h71 (by rw [hN]; rfl) rfl (by omega)) ?_
  rintro v w76 b76 rfl
  have hw := kP hw b76
  have s42 := s42.below b76
  have s53 := s53.below b76
  refine ⟨_, rfl, fun _ => ⟨fun _ => ?_, fun k => absurd rfl k⟩, fun k => by simp at k⟩
  refine Pure.mono (r47_Same s42 (h1.keep hw (Nat.le_refl _)) l42 rfl (by rw [← l42]; decide)) ?_
  rintro v w79 b79 rfl
  have hw := kP hw b79
  have s53 := s53.below b79
  refine ⟨_, rfl, fun _ => ?_, fun k => by simp at k⟩
  refine Pure.mono (r47_Same s53 (h1.keep hw (Nat.le_refl _)) l53 rfl (by rw [← l53]; decide)) ?_
  rintro v w82 b82 rfl
  have hw := kP hw b82
  refine ⟨_, rfl, fun _ => ⟨fun _ => ?_, fun k => absurd rfl k⟩, fun k => by simp at k⟩
  refine Pure.mono (law_Two w82) ?_
  rintro v w86 b86 ⟨A83, c83, A84, c84, rfl, hc⟩
  have hw := kP hw b86
  refine ⟨_, _, _, _, _, _, rfl, Pure.mono (cargo_Check (g3.next hw) hc) ?_⟩
  rintro v w89 b89 rfl
  rw [two_check]
  have hw := kP hw b89
  refine ⟨_, rfl, fun _ => ?_, fun k => absurd rfl k⟩
  refine Pure.mono (law_Two w89) ?_
  rintro v w93 b93 ⟨A90, c90, A91, c91, rfl, hc⟩
  have hw := kP hw b93
  refine ⟨_, _, _, _, _, _, rfl, Pure.mono (cargo_Stowed (g3.next hw) hc (h1.keep hw (Nat.le_refl _)) rfl hc1 (by decide)) ?_⟩
  rintro v w96 b96 rfl
  rw [two_stowed]
  exact ⟨_, rfl, rfl⟩
end Go.Proofs.YtdnelnicnjplpaaGreatDoor.B

namespace Go.Proofs.YtdnelnicnjplpaaGreatDoor.B
open Go Go.RowKit Go.Proofs Go.Proofs.YtdnelnicnjplpaaGreatDoor.Vc

theorem flatMap_le {α β : Type} {f : α → List β} {k : Nat} : ∀ {l : List α}, (∀ x ∈ l, (f x).length ≤ k) → (l.flatMap f).length ≤ l.length * k := by
  intro l
  induction l with
  | nil => intro _; simp
  | cons x r ih =>
    intro h
    rw [List.flatMap_cons, List.length_append, List.length_cons, Nat.add_mul, Nat.one_mul]
    have := h x (by simp)
    have := ih fun y hy => h y (by simp [hy])
    omega
theorem RightS.len {ps : List Pa} {hs : List Ho} {l : List Sw} (h : RightS ps hs l) : l.length ≤ 36 := by
  have e := stows_amts h (f := fA ps hs l) fun _ _ _ _ => rfl
  rw [← e]
  unfold stowsG
  have h1 : ∀ k ∈ List.range hs.length, ((List.range ps.length).flatMap fun i => entS (fA ps hs l) ps hs k i).length ≤ ps.length := fun k _ => by
    have := flatMap_le (f := fun i => entS (fA ps hs l) ps hs k i) (k := 1) (l := List.range ps.length) fun i _ => by
      unfold entS
      split
      · split <;> simp
      · simp
    simpa using this
  have h2 := flatMap_le h1
  rw [List.length_range] at h2
  have := Nat.mul_le_mul h.c.lh h.c.lp
  omega

def outE (r : Except Int (List Sw)) : List Sw × Int := match r with | .error e => ([], e) | .ok l => (l, 0)
theorem StowR.get {r : Except Int (List Sw)} {B : Nat} {y : Value} {w : World} (h : StowR r B y w) : ∃ A m c, y = .tuple #[.slice A m c, .int .i64 (outE r).2] ∧ SlR w A 3 ((outE r).1.map Sw.row) ∧ (outE r).1.length = m ∧ m ≤ c := by
  cases r with
  | error e => exact ⟨none, 0, 0, h, .inl rfl, rfl, Nat.le_refl _⟩
  | ok l =>
    obtain ⟨A, m, c, rfl, ho⟩ := h
    exact ⟨A, m, c, rfl, ho.sl, by simpa [outE] using ho.len, ho.len_le⟩
section
variable {w : World} {A0 A1 A A2 : Option Addr} {n0 c0 n1 c1 n c n2 c2 : Nat} {ps : List Pa} {hs : List Ho} {l : List Sw} {a : List Int}
theorem put_err {t : Sw} {e : Int} (h : putF ps hs l t = .error e) : e ≠ 0 := by
  unfold putF at h
  split at h
  · cases h; decide
  · split at h
    · rename_i i k e1 e2
      split at h
      · cases h; decide
      · split at h
        · cases h; decide
        · obtain ⟨p, e3, _⟩ := pix_some e1
          rw [e3] at h
          simp only at h
          split at h
          · cases h; decide
          · cases h
    · cases h; decide
end
end Go.Proofs.YtdnelnicnjplpaaGreatDoor.B

namespace Go.Proofs.YtdnelnicnjplpaaGreatDoor.B
open Go Go.RowKit Go.Proofs Go.Proofs.YtdnelnicnjplpaaGreatDoor.Vc

theorem rS_size {x : Rat} (hx : Big x) : (rS x).size ≤ 300000 := by
  have hlen := Sm.length hx (by omega)
  have : (rS x).size = (ratT x).length := by unfold rS; rw [size_by, by_st]
  omega
theorem from_rS {x : Rat} (hx : Big x) (w : World) : Pure Tryz.prog 37 #[.string (rS x)] w fun v w' => ∃ b A n c A' n' c', v = .tuple #[.agg #[.bool b, .slice A n c, .slice A' n' c'], .bool true] ∧ IsQ w' b A n c A' n' c' x := by
  refine Pure.mono (ref3_FromL (rS x) (rS_size hx) w) ?_
  rintro v w2 _ ⟨b, A, n, c, A', n', c', rfl, k⟩
  have hv := vR_rS x
  rw [hv]
  have := k hv
  rw [qR_rS] at this
  exact ⟨_, _, _, _, _, _, _, rfl, this⟩
theorem law47_add {w : World} {A : Option Addr} {c : Nat} {a b : Rat} (h : SlR w A 1 [[.string (rS a)], [.string (rS b)]]) (ha : Big a) (hb : Big b) (hab : Big (a + b)) :
    Pure Tryz.prog 34 #[.slice A 2 c] w fun v _ => v = .string (rS (a + b)) := by
  refine F.garboardlaw47_add.vc _ _ _ _ _ (Pure.mono (ref3_Int (by decide)) ?_)
  rintro v w5 b5 ⟨q0, Q0, m0, d0, Q0', m0', d0', rfl, k0'⟩
  refine ⟨_, _, _, _, _, _, _, rfl, fun w6 x6 => ?_⟩
  have hw6 : Below w.heap.size w w6 := kE b5 x6
  have k6 := k0'.ext x6 (by decide)
  have h6 : SlR w6 A 1 ([rS a, rS b].map sRow) := h.keep hw6 (Nat.le_refl _)
  obtain ⟨hb6, a6, hA6, hc6, _⟩ := h6.at_ (fun _ => rfl) rfl (n := 2) (i := 0) (show 0 < 2 by decide)
  refine F.garboardlaw47_add.L3.step _ _ _ _ _ _ _ _ _ _ _ _ _ _ _ ⟨fun _ => ⟨hb6, a6, hA6, _, hc6, Pure.mono (from_rS ha w6) ?_⟩, fun k => by omega⟩
  rintro v w7 b7 ⟨q1, Q1, m1, d1, Q1', m1', d1', rfl, k7⟩
  have hw7 := kP hw6 b7
  refine ⟨_, _, _, _, _, _, _, _, rfl, fun w8 x8 => Pure.mono (ref3_Add ((k6.below b7).ext x8 (by decide)) (k7.ext x8 (by decide)) (Sm.zero (by omega)) ha) ?_⟩
  rintro v w9 b9 ⟨q2, Q2, m2, d2, Q2', m2', d2', rfl, k9⟩
  have e0 : ((0 : Int) : Rat) + a = a := by rw [show ((0 : Int) : Rat) = 0 from rfl, Rat.zero_add]
  rw [e0] at k9
  refine ⟨_, _, _, _, _, _, _, rfl, by simp only [inR]; omega, fun w10 x10 => ?_⟩
  have hw10 := kE (kP (kE hw7 x8) b9) x10
  have k10 := k9.ext x10 (by decide)
  have h10 : SlR w10 A 1 ([rS a, rS b].map sRow) := h.keep hw10 (Nat.le_refl _)
  obtain ⟨hb10, a10, hA10, hc10, _⟩ := h10.at_ (fun _ => rfl) rfl (n := 2) (i := 1) (show 1 < 2 by decide)
  refine F.garboardlaw47_add.L3.step _ _ _ _ _ _ _ _ _ _ _ _ _ _ _ ⟨fun _ => ⟨hb10, a10, hA10, _, hc10, Pure.mono (from_rS hb w10) ?_⟩, fun k => by omega⟩
  rintro v w11 b11 ⟨q3, Q3, m3, d3, Q3', m3', d3', rfl, k11⟩
  have hw11 := kP hw10 b11
  refine ⟨_, _, _, _, _, _, _, _, rfl, fun w12 x12 => Pure.mono (ref3_Add ((k10.below b11).ext x12 (by decide)) (k11.ext x12 (by decide)) ha hb) ?_⟩
  rintro v w13 b13 ⟨q4, Q4, m4, d4, Q4', m4', d4', rfl, k13⟩
  refine ⟨_, _, _, _, _, _, _, rfl, by simp only [inR]; omega, fun w14 x14 => ?_⟩
  refine F.garboardlaw47_add.L3.step _ _ _ _ _ _ _ _ _ _ _ _ _ _ _ ⟨fun k => by omega, fun _ => Pure.mono (ref3_To (k13.ext x14 (by decide)) hab) ?_⟩
  rintro v w15 b15 rfl
  exact ⟨_, rfl, rfl⟩

def accF (f : Sw → Rat) (l : List Sw) (hs : List Ho) (k : Nat) : Rat := sumR f (l.filter fun s => (hs.take k).any fun h => decide (h.id = s.hold))
theorem sum_split {f : Sw → Rat} {p q : Sw → Bool} : ∀ {l : List Sw}, (∀ s ∈ l, p s = true → q s = true → False) → sumR f (l.filter fun s => p s || q s) = sumR f (l.filter p) + sumR f (l.filter q) := by
  intro l
  induction l with
  | nil => intro _; simp only [List.filter_nil, sumR_nil]; exact (Rat.zero_add 0).symm
  | cons s r ih =>
    intro h
    have ih := ih fun x hx => h x (by simp [hx])
    have cons : ∀ x : List Sw, sumR f (s :: x) = f s + sumR f x := fun x => by rw [show s :: x = [s] ++ x from rfl, sumR_append, sumR_one]
    rw [List.filter_cons, List.filter_cons, List.filter_cons]
    have hd := h s (by simp)
    cases hp : p s <;> cases hq : q s
    · simpa using ih
    · simp only [Bool.false_or, if_true, if_false, Bool.false_eq_true, cons, ih]
      grind
    · simp only [Bool.true_or, if_true, if_false, Bool.false_eq_true, cons, ih]
      grind
    · exact (hd hp hq).elim
theorem acc_zero (f : Sw → Rat) (l : List Sw) (hs : List Ho) : accF f l hs 0 = 0 := by
  unfold accF
  rw [List.filter_eq_nil_iff.2 (by simp)]
  rfl
theorem acc_all {f : Sw → Rat} {l : List Sw} {hs : List Ho} (h : ∀ s ∈ l, ∃ h ∈ hs, h.id = s.hold) : accF f l hs hs.length = sumR f l := by
  unfold accF
  rw [List.take_length]
  rw [List.filter_eq_self.2 fun s hs' => ?_]
  obtain ⟨x, hx, e⟩ := h s hs'
  exact List.any_eq_true.2 ⟨x, hx, by simpa using e⟩
theorem acc_step {f : Sw → Rat} {l : List Sw} {hs : List Ho} (hh : hs.Pairwise fun a b => a.id < b.id) {k : Nat} (hk : k < hs.length) : accF f l hs (k + 1) = accF f l hs k + sumR f (inS l hs[k].id) := by
  unfold accF inS
  rw [← sum_split fun s _ h1 h2 => ?_]
  · congr 1
    refine List.filter_congr fun s _ => ?_
    rw [List.take_add_one, List.getElem?_eq_getElem hk, List.any_append]
    congr 1
    simp only [Option.toList, List.any_cons, List.any_nil, Bool.or_false]
    rw [decide_eq_decide]
    exact eq_comm
  · obtain ⟨x, hx, e⟩ := List.any_eq_true.1 h1
    obtain ⟨j, hj, rfl⟩ := List.mem_take_iff_getElem.1 hx
    have e1 : hs[j].id = s.hold := by simpa using e
    have e2 : s.hold = hs[k].id := by simpa using h2
    have := List.pairwise_iff_getElem.1 hh j k (by omega) hk (by omega)
    omega

structure AdS (w0 : World) (a0 b0 a1 b1 a2 b2 : Rat) (p0 p1 p2 : Option (Option Addr × Nat)) (w : World) : Prop where
  b : Below w0.heap.size w0 w
  g0 : ∀ x, p0 = some x → SlR w x.1 1 [[.string (rS a0)], [.string (rS b0)]]
  g1 : ∀ x, p1 = some x → SlR w x.1 1 [[.string (rS a1)], [.string (rS b1)]]
  g2 : ∀ x, p2 = some x → SlR w x.1 1 [[.string (rS a2)], [.string (rS b2)]]
section
variable {w0 : World} {a0 b0 a1 b1 a2 b2 : Rat} {p0 p1 p2 : Option (Option Addr × Nat)} {w : World}
theorem AdS.next {w' : World} (k : AdS w0 a0 b0 a1 b1 a2 b2 p0 p1 p2 w) (hb : Below w.heap.size w w') : AdS w0 a0 b0 a1 b1 a2 b2 p0 p1 p2 w' :=
  ⟨kP k.b hb, fun x hx => (k.g0 x hx).below hb, fun x hx => (k.g1 x hx).below hb, fun x hx => (k.g2 x hx).below hb⟩
theorem AdS.start {ts : List Nat} {G : World → Prop} (k : AdS w0 a0 b0 a1 b1 a2 b2 none none none w) (hG : ∀ w', AdS w0 a0 b0 a1 b1 a2 b2 none none none w' → G w') : ∀ w', Ext w0.heap.size ts w w' → G w' :=
  fun w' x => hG w' ⟨kE k.b x, fun _ h => (by cases h), fun _ h => (by cases h), fun _ h => (by cases h)⟩
theorem AdS.last {ts : List Nat} {G : World → Prop} (hG : ∀ w', Below w0.heap.size w0 w' → G w') (k : AdS w0 a0 b0 a1 b1 a2 b2 p0 p1 p2 w) : ∀ w', Ext w0.heap.size ts w w' → G w' :=
  fun w' x => hG w' (kE k.b x)
theorem AdS.bld0 {tys : List Nat} {K : Option Addr → Nat → Nat → World → Prop} (k : AdS w0 a0 b0 a1 b1 a2 b2 none p1 p2 w) (hK : ∀ A c w', AdS w0 a0 b0 a1 b1 a2 b2 (some (A, c)) p1 p2 w' → K A 2 c w') :
    RunOk Tryz.prog (Instr.buildSlice 106 2 #[(0, .string (rS a0)), (1, .string (rS b0))]) w.heap.size tys w fun r w1 => ∃ A n c, r = .slice A n c ∧ K A n c w1 :=
  runOk_lit el_Rats [.string (rS a0), .string (rS b0)] (by simp [Value.cells]) (by simp) (Nat.le_refl _) fun A c w' ho hb => hK A c w' ⟨kP k.b hb, fun x hx => (by cases hx; exact ho.sl), fun x hx => (k.g1 x hx).below hb, fun x hx => (k.g2 x hx).below hb⟩
theorem AdS.add0 {A : Option Addr} {c : Nat} {K : ByteArray → World → Prop} (ha : Big a0) (hb : Big b0) (hab : Big (a0 + b0)) (k : AdS w0 a0 b0 a1 b1 a2 b2 (some (A, c)) p1 p2 w) (hK : ∀ w', AdS w0 a0 b0 a1 b1 a2 b2 (some (A, c)) p1 p2 w' → K (rS (a0 + b0)) w') :
    Pure Tryz.prog 34 #[.slice A 2 c] w fun r w1 => ∃ s, r = .string s ∧ K s w1 := by
  refine Pure.mono (law47_add (k.g0 _ rfl) ha hb hab) ?_
  rintro v w2 b2 rfl
  exact ⟨_, rfl, hK w2 (k.next b2)⟩
theorem AdS.bld1 {tys : List Nat} {K : Option Addr → Nat → Nat → World → Prop} (k : AdS w0 a0 b0 a1 b1 a2 b2 p0 none p2 w) (hK : ∀ A c w', AdS w0 a0 b0 a1 b1 a2 b2 p0 (some (A, c)) p2 w' → K A 2 c w') :
    RunOk Tryz.prog (Instr.buildSlice 106 2 #[(0, .string (rS a1)), (1, .string (rS b1))]) w.heap.size tys w fun r w1 => ∃ A n c, r = .slice A n c ∧ K A n c w1 :=
  runOk_lit el_Rats [.string (rS a1), .string (rS b1)] (by simp [Value.cells]) (by simp) (Nat.le_refl _) fun A c w' ho hb => hK A c w' ⟨kP k.b hb, fun x hx => (k.g0 x hx).below hb, fun x hx => (by cases hx; exact ho.sl), fun x hx => (k.g2 x hx).below hb⟩
theorem AdS.add1 {A : Option Addr} {c : Nat} {K : ByteArray → World → Prop} (ha : Big a1) (hb : Big b1) (hab : Big (a1 + b1)) (k : AdS w0 a0 b0 a1 b1 a2 b2 p0 (some (A, c)) p2 w) (hK : ∀ w', AdS w0 a0 b0 a1 b1 a2 b2 p0 (some (A, c)) p2 w' → K (rS (a1 + b1)) w') :
    Pure Tryz.prog 34 #[.slice A 2 c] w fun r w1 => ∃ s, r = .string s ∧ K s w1 := by
  refine Pure.mono (law47_add (k.g1 _ rfl) ha hb hab) ?_
  rintro v w2 b2 rfl
  exact ⟨_, rfl, hK w2 (k.next b2)⟩
theorem AdS.bld2 {tys : List Nat} {K : Option Addr → Nat → Nat → World → Prop} (k : AdS w0 a0 b0 a1 b1 a2 b2 p0 p1 none w) (hK : ∀ A c w', AdS w0 a0 b0 a1 b1 a2 b2 p0 p1 (some (A, c)) w' → K A 2 c w') :
    RunOk Tryz.prog (Instr.buildSlice 106 2 #[(0, .string (rS a2)), (1, .string (rS b2))]) w.heap.size tys w fun r w1 => ∃ A n c, r = .slice A n c ∧ K A n c w1 :=
  runOk_lit el_Rats [.string (rS a2), .string (rS b2)] (by simp [Value.cells]) (by simp) (Nat.le_refl _) fun A c w' ho hb => hK A c w' ⟨kP k.b hb, fun x hx => (k.g0 x hx).below hb, fun x hx => (k.g1 x hx).below hb, fun x hx => (by cases hx; exact ho.sl)⟩
theorem AdS.add2 {A : Option Addr} {c : Nat} {K : ByteArray → World → Prop} (ha : Big a2) (hb : Big b2) (hab : Big (a2 + b2)) (k : AdS w0 a0 b0 a1 b1 a2 b2 p0 p1 (some (A, c)) w) (hK : ∀ w', AdS w0 a0 b0 a1 b1 a2 b2 p0 p1 (some (A, c)) w' → K (rS (a2 + b2)) w') :
    Pure Tryz.prog 34 #[.slice A 2 c] w fun r w1 => ∃ s, r = .string s ∧ K s w1 := by
  refine Pure.mono (law47_add (k.g2 _ rfl) ha hb hab) ?_
  rintro v w2 b2 rfl
  exact ⟨_, rfl, hK w2 (k.next b2)⟩
end

section
variable {w0 : World} {A0 A1 A : Option Addr} {n0 c0 n1 c1 n c : Nat} {ps : List Pa} {hs : List Ho} {l : List Sw}

set_option maxRecDepth 20000 in
theorem tog_L11 (hg : Glob w0) (hc : CgIn w0 A0 n0 A1 n1 ps hs) (hz0 : A0 = none → c0 = 0) (hz1 : A1 = none → c1 = 0) (h : SlR w0 A 3 (l.map Sw.row)) (hl : l.length = n) (hn : n ≤ 40) (h0 : stowedF ps hs l = 0) :
    ∀ (d i : Nat) (w : World), n1 - i = d → i ≤ n1 → Below w0.heap.size w0 w → F.garboardlaw47_CargoTogether.L11 A n c A1 n1 c1 n1 i A0 n0 c0 A1 n1 c1 (rS (sumR (tP ps Pa.mass) l)) (rS (sumR (tP ps Pa.vol) l)) (rS (sumR (tP ps Pa.worth) l)) (rS (sumR (tH ps hs Ho.x) l)) (rS (sumR (tH ps hs Ho.y) l)) (rS (sumR (tH ps hs Ho.z) l)) (rS (accF (tP ps Pa.mass) l hs i)) (rS (accF (tP ps Pa.vol) l hs i)) (rS (accF (tP ps Pa.worth) l hs i)) (rS (accF (tH ps hs Ho.x) l hs i)) (rS (accF (tH ps hs Ho.y) l hs i)) (rS (accF (tH ps hs Ho.z) l hs i)) w0.heap.size w fun v _ => v = .bool true := by
  have hnh := hc.nh
  have hlh := hc.lh
  have hr := stowed_right h0
  have hok := hr.ld (by omega)
  have hknown : ∀ s ∈ l, ∃ h ∈ hs, h.id = s.hold := fun s hs' => by
    obtain ⟨_, k, _, hk⟩ := hr.known s hs'
    obtain ⟨x, e, e2⟩ := hix_some hk
    exact ⟨x, List.mem_of_getElem? e, e2⟩
  intro d
  induction d with
  | zero =>
    intro i w hd hi hw
    have : i = hs.length := by omega
    subst this
    refine F.garboardlaw47_CargoTogether.L11.step _ _ _ _ _ _ _ _ _ _ _ _ _ _ _ _ _ _ _ _ _ _ _ _ _ _ _ _ _ ⟨fun k => by omega, fun _ => ?_⟩
    simp only [acc_all hknown]
    simp
  | succ d ih =>
    intro i w hd hi hw
    have hil : i < hs.length := by omega
    have e3 : (i : Int) + 1 = ((i + 1 : Nat) : Int) := by omega
    have hin : inR .i64 ((i : Int) + 1) := by simp only [inR]; omega
    have hilm : i < hs.length := hil
    obtain ⟨⟨ba0, ba1, ba2⟩, ba3, ba4, ba5⟩ := (hok.filter fun s => (hs.take i).any fun h => decide (h.id = s.hold)).smL hc
    obtain ⟨⟨bh0, bh1, bh2⟩, bh3, bh4, bh5⟩ := (hok.filter fun s => decide (s.hold = hs[i].id)).smL hc
    obtain ⟨⟨bs0, bs1, bs2⟩, bs3, bs4, bs5⟩ := (hok.filter fun s => (hs.take (i + 1)).any fun h => decide (h.id = s.hold)).smL hc
    have ih' := fun w => ih (i + 1) w (by omega) (by omega)
    clear ih
    have ba0 : Big (accF (tP ps Pa.mass) l hs i) := ba0
    have bh0 : Big (sumR (tP ps Pa.mass) (inS l hs[i].id)) := bh0
    have es0 := acc_step (f := tP ps Pa.mass) (l := l) hr.c.ih hil
    have bs0 : Big (accF (tP ps Pa.mass) l hs i + sumR (tP ps Pa.mass) (inS l hs[i].id)) := by rw [← es0]; exact bs0
    have ba1 : Big (accF (tP ps Pa.vol) l hs i) := ba1
    have bh1 : Big (sumR (tP ps Pa.vol) (inS l hs[i].id)) := bh1
    have es1 := acc_step (f := tP ps Pa.vol) (l := l) hr.c.ih hil
    have bs1 : Big (accF (tP ps Pa.vol) l hs i + sumR (tP ps Pa.vol) (inS l hs[i].id)) := by rw [← es1]; exact bs1
    have ba2 : Big (accF (tP ps Pa.worth) l hs i) := ba2
    have bh2 : Big (sumR (tP ps Pa.worth) (inS l hs[i].id)) := bh2
    have es2 := acc_step (f := tP ps Pa.worth) (l := l) hr.c.ih hil
    have bs2 : Big (accF (tP ps Pa.worth) l hs i + sumR (tP ps Pa.worth) (inS l hs[i].id)) := by rw [← es2]; exact bs2
    have ba3 : Big (accF (tH ps hs Ho.x) l hs i) := ba3
    have bh3 : Big (sumR (tH ps hs Ho.x) (inS l hs[i].id)) := bh3
    have es3 := acc_step (f := tH ps hs Ho.x) (l := l) hr.c.ih hil
    have bs3 : Big (accF (tH ps hs Ho.x) l hs i + sumR (tH ps hs Ho.x) (inS l hs[i].id)) := by rw [← es3]; exact bs3
    have ba4 : Big (accF (tH ps hs Ho.y) l hs i) := ba4
    have bh4 : Big (sumR (tH ps hs Ho.y) (inS l hs[i].id)) := bh4
    have es4 := acc_step (f := tH ps hs Ho.y) (l := l) hr.c.ih hil
    have bs4 : Big (accF (tH ps hs Ho.y) l hs i + sumR (tH ps hs Ho.y) (inS l hs[i].id)) := by rw [← es4]; exact bs4
    have ba5 : Big (accF (tH ps hs Ho.z) l hs i) := ba5
    have bh5 : Big (sumR (tH ps hs Ho.z) (inS l hs[i].id)) := bh5
    have es5 := acc_step (f := tH ps hs Ho.z) (l := l) hr.c.ih hil
    have bs5 : Big (accF (tH ps hs Ho.z) l hs i + sumR (tH ps hs Ho.z) (inS l hs[i].id)) := by rw [← es5]; exact bs5
    simp only [es0, es1, es2, es3, es4, es5, ← e3] at ih'
    clear es0 es1 es2 es3 es4 es5
    have fin : ∀ w, Below w0.heap.size w0 w → F.garboardlaw47_CargoTogether.J17 A n c A1 n1 c1 n1 i A0 n0 c0 A1 n1 c1 (rS (sumR (tP ps Pa.mass) l)) (rS (sumR (tP ps Pa.vol) l)) (rS (sumR (tP ps Pa.worth) l)) (rS (sumR (tH ps hs Ho.x) l)) (rS (sumR (tH ps hs Ho.y) l)) (rS (sumR (tH ps hs Ho.z) l)) (rS (accF (tP ps Pa.mass) l hs i + sumR (tP ps Pa.mass) (inS l hs[i].id))) (rS (accF (tP ps Pa.vol) l hs i + sumR (tP ps Pa.vol) (inS l hs[i].id))) (rS (accF (tP ps Pa.worth) l hs i + sumR (tP ps Pa.worth) (inS l hs[i].id))) (rS (accF (tH ps hs Ho.x) l hs i)) (rS (accF (tH ps hs Ho.y) l hs i)) (rS (accF (tH ps hs Ho.z) l hs i)) (rS (sumR (tP ps Pa.mass) (inS l hs[i].id))) (rS (sumR (tP ps Pa.vol) (inS l hs[i].id))) (rS (sumR (tP ps Pa.worth) (inS l hs[i].id))) (rS (sumR (tH ps hs Ho.x) (inS l hs[i].id))) (rS (sumR (tH ps hs Ho.y) (inS l hs[i].id))) (rS (sumR (tH ps hs Ho.z) (inS l hs[i].id))) w0.heap.size w fun v _ => v = .bool true := by
      intro w hw
      have s0 : AdS w0 (accF (tH ps hs Ho.x) l hs i) (sumR (tH ps hs Ho.x) (inS l hs[i].id)) (accF (tH ps hs Ho.y) l hs i) (sumR (tH ps hs Ho.y) (inS l hs[i].id)) (accF (tH ps hs Ho.z) l hs i) (sumR (tH ps hs Ho.z) (inS l hs[i].id)) none none none w := ⟨hw, fun _ h => (by cases h), fun _ h => (by cases h), fun _ h => (by cases h)⟩
      refine F.garboardlaw47_CargoTogether.J17.step _ _ _ _ _ _ _ _ _ _ _ _ _ _ _ _ _ _ _ _ _ _ _ _ _ _ _ _ _ _ _ _ _ _ _ ?_
      repeat' first
        | exact hin
        | (with_reducible refine And.intro ?_ ?_)
        | (with_reducible exact AdS.last ih' (by assumption))
        | (with_reducible refine AdS.start (by assumption) fun _ _ => ?_)
        | (with_reducible refine AdS.bld0 (by assumption) fun _ _ _ _ => ?_)
        | (with_reducible refine AdS.bld1 (by assumption) fun _ _ _ _ => ?_)
        | (with_reducible refine AdS.bld2 (by assumption) fun _ _ _ _ => ?_)
        | (with_reducible refine AdS.add0 ba3 bh3 bs3 (by assumption) fun _ _ => ?_)
        | (with_reducible refine AdS.add1 ba4 bh4 bs4 (by assumption) fun _ _ => ?_)
        | (with_reducible refine AdS.add2 ba5 bh5 bs5 (by assumption) fun _ _ => ?_)
    clear ih'
    obtain ⟨hb, a, hA, hcell, _⟩ := (hc.h.keep hw (Nat.le_refl _)).at_ (fun _ => rfl) hlh hil
    refine F.garboardlaw47_CargoTogether.L11.step _ _ _ _ _ _ _ _ _ _ _ _ _ _ _ _ _ _ _ _ _ _ _ _ _ _ _ _ _ ⟨fun _ => ⟨hb, a, hA, _, _, _, _, _, _, _, hcell, fun w45 x45 => ?_⟩, fun k => by omega⟩
    have hw := kE hw x45
    refine Pure.mono (r47_Copy (hc.keep hw) hz0 hz1) ?_
    rintro v w49 b ⟨B0, d0, B1, d1, rfl, hcc⟩
    have hw := kP hw b
    clear b
    refine ⟨_, _, _, _, _, _, rfl, fun w50 x50 => ?_⟩
    have hw := kP hw (extAll x50)
    have hcc := hcc.keep (extAll x50)
    refine Pure.mono (CloneS (h.keep hw (Nat.le_refl _)) hl (by omega)) ?_
    rintro v w53 b ⟨A', c', rfl, ho⟩
    have hw := kP hw b
    have hcc := hcc.keep b
    clear b
    refine ⟨_, _, _, rfl, fun w54 x54 => ?_⟩
    have hw := kP hw (extAll x54)
    have hcc := hcc.keep (extAll x54)
    have ho := ho.below (extAll x54)
    have hh0 : heldV ps hs l hs[i].id = .tuple #[ldF ps hs (inS l hs[i].id), .int .i64 0] := by
      unfold heldV
      rw [if_neg (fun k => k h0), if_neg]
      rw [hix_of hr.c.ih (List.getElem?_eq_getElem hil)]
      exact fun k => by cases k
    refine Pure.mono (cargo_Held (hg.next hw) hcc ho.sl hl ho.len_le hn hs[i].id) ?_
    rintro v w63 b rfl
    rw [hh0]
    have hw := kP hw b
    clear b
    refine ⟨_, _, _, _, _, _, _, rfl, fun k => absurd rfl k, fun _ => ?_⟩
    have s0 : AdS w0 (accF (tP ps Pa.mass) l hs i) (sumR (tP ps Pa.mass) (inS l hs[i].id)) (accF (tP ps Pa.vol) l hs i) (sumR (tP ps Pa.vol) (inS l hs[i].id)) (accF (tP ps Pa.worth) l hs i) (sumR (tP ps Pa.worth) (inS l hs[i].id)) none none none w63 := ⟨hw, fun _ h => (by cases h), fun _ h => (by cases h), fun _ h => (by cases h)⟩
    repeat' first
      | exact hin
      | (with_reducible refine And.intro ?_ ?_)
      | (with_reducible exact AdS.last fin (by assumption))
      | (with_reducible refine AdS.start (by assumption) fun _ _ => ?_)
      | (with_reducible refine AdS.bld0 (by assumption) fun _ _ _ _ => ?_)
      | (with_reducible refine AdS.bld1 (by assumption) fun _ _ _ _ => ?_)
      | (with_reducible refine AdS.bld2 (by assumption) fun _ _ _ _ => ?_)
      | (with_reducible refine AdS.add0 ba0 bh0 bs0 (by assumption) fun _ _ => ?_)
      | (with_reducible refine AdS.add1 ba1 bh1 bs1 (by assumption) fun _ _ => ?_)
      | (with_reducible refine AdS.add2 ba2 bh2 bs2 (by assumption) fun _ _ => ?_)
end
section
variable {w : World} {A0 A1 A : Option Addr} {n0 c0 n1 c1 n c : Nat} {ps : List Pa} {hs : List Ho} {l : List Sw}
theorem law47_CargoTogether (hg : Glob w) (hr : CgRaw w A0 n0 A1 n1 ps hs) (hz0 : A0 = none → c0 = 0) (hz1 : A1 = none → c1 = 0) (h : SlR w A 3 (l.map Sw.row)) (hl : l.length = n) :
    Pure Tryz.prog 7 #[.agg #[.slice A0 n0 c0, .slice A1 n1 c1], .slice A n c] w fun v _ => v = .bool true := by
  refine F.garboardlaw47_CargoTogether.vc _ _ _ _ _ _ _ _ _ _ _ fun w1 x1 => ?_
  have hw := k0 x1
  refine Pure.mono (law47_awake (hg.next hw)) ?_
  rintro v w4 b4 rfl
  have hw := kP hw b4
  refine ⟨_, rfl, fun k => absurd k (by decide), fun _ => ?_⟩
  refine Pure.mono (r47_Few (hr.keep hw)) ?_
  rintro v w7 b7 rfl
  have hw := kP hw b7
  refine ⟨_, rfl, fun _ => rfl, fun hf => ⟨fun _ => rfl, fun h40 => ?_⟩⟩
  have hc := hr.few (by simpa using hf)
  have hn : n ≤ 40 := by omega
  refine Pure.mono (r47_Copy (hc.keep hw) hz0 hz1) ?_
  rintro v w11 b ⟨B0, d0, B1, d1, rfl, hcc⟩
  have hw := kP hw b
  clear b
  refine ⟨_, _, _, _, _, _, rfl, Pure.mono (CloneS (h.keep hw (Nat.le_refl _)) hl (by omega)) ?_⟩
  rintro v w14 b ⟨A', c', rfl, ho⟩
  have hw := kP hw b
  have hcc := hcc.keep b
  clear b
  refine ⟨_, _, _, rfl, Pure.mono (cargo_Total (hg.next hw) hcc ho.sl hl ho.len_le hn) ?_⟩
  rintro v w23 b rfl
  have hw := kP hw b
  clear b
  unfold totalV
  by_cases h0 : stowedF ps hs l = 0
  · rw [if_neg (fun k => k h0)]
    refine ⟨_, _, _, _, _, _, _, rfl, fun k => absurd rfl k, fun _ w36 x36 => ?_⟩
    have := tog_L11 (c := c) (c0 := c0) (c1 := c1) hg hc hz0 hz1 h hl hn h0 n1 0 w36 rfl (by omega) (kE hw x36)
    simp only [acc_zero, ← s0] at this
    exact this
  · rw [if_pos h0]
    refine ⟨_, _, _, _, _, _, _, rfl, fun _ => ⟨fun _ w24 x24 => ?_, fun k => absurd ⟨rfl, rfl, rfl, rfl, rfl, rfl, trivial⟩ k⟩, fun k => absurd (Decidable.not_not.1 k) (by decide)⟩
    have hw := kE hw x24
    refine Pure.mono (r47_Copy (hc.keep hw) hz0 hz1) ?_
    rintro v w28 b ⟨B0, d0, B1, d1, rfl, hcc⟩
    have hw := kP hw b
    clear b
    refine ⟨_, _, _, _, _, _, rfl, Pure.mono (CloneS (h.keep hw (Nat.le_refl _)) hl (by omega)) ?_⟩
    rintro v w31 b ⟨A', c', rfl, ho⟩
    have hw := kP hw b
    have hcc := hcc.keep b
    clear b
    refine ⟨_, _, _, rfl, Pure.mono (cargo_Stowed (hg.next hw) hcc ho.sl hl ho.len_le (by omega)) ?_⟩
    rintro v w34 b rfl
    exact ⟨_, rfl, by simp [h0]⟩
end
end Go.Proofs.YtdnelnicnjplpaaGreatDoor.B

namespace Go.Proofs.YtdnelnicnjplpaaGreatDoor.B
set_option maxRecDepth 100000
open Go Go.RowKit Go.Proofs Go.Proofs.YtdnelnicnjplpaaGreatDoor.Vc Go.ChangeShapes Go.WideShapes Go.Deep

theorem own : ownKnob Tryz.prog.godebug = none := by kernel_rfl
theorem laidOut : laidOutB Tryz.prog = true := by kernel_rfl

section
variable {H : Type} {enc : TypeId × Value → H} {P : Program}

theorem below_trodAll (hl : laidOutB P = true) {W W' : World} (hb : Below W.heap.size W W') : ∀ {ts : List TypeId} {vs : List Value} {ds : List (DataW H)} {ps : List MemPlace},
    (∀ t ∈ ts, P.readableRec t = true ∧ t < P.types.size) → DataW.TrodAll enc P W 0 (fun _ => true) true ts vs ds ps → (∀ x ∈ ps, x.block < W.heap.size) → DataW.TrodAll enc P W' 0 (fun b => decide (b < W.heap.size)) true ts vs ds ps
  | [], _, _, _, _, h, _ => by
    obtain ⟨rfl, rfl, rfl⟩ := trodAll_nil h
    exact trodAll_mk0
  | t :: ts, _, _, _, ht, h, hlt => by
    obtain ⟨v, vs1, d, ds1, a, b, rfl, rfl, rfl, h1, h2⟩ := trodAll_cons h
    exact trodAll_cons_mk (Below.trod hl (ht t (by simp)).1 (ht t (by simp)).2 h1 hb (fun x hx => hlt x (by simp [hx])))
      (below_trodAll hl hb (fun u hu => ht u (by simp [hu])) h2 (fun x hx => hlt x (by simp [hx])))

theorem law_post {f : Func} {fid : FuncId} {s : ChangeSpec} {W : World} {args : Array Value} {ds gs : List (DataW H)} {before : List MemPlace} (hl : laidOutB P = true) (hW : DataW.Whole enc P f.params.toList s.vars false W args.toList ds gs before)
    (hvars : s.vars = []) {tb : TypeId} (hres : f.resultTypes = #[tb]) (htb : P.underlying tb = some .bool) (hrec : ∀ t ∈ f.params.toList, P.readableRec t = true ∧ t < P.types.size)
    (hs : s.fn H (ds ++ gs) = { results := [.lit (.bool true)], args := ds }) (key : Pure P fid args W fun y _ => y = .bool true) :
    Calls P fid args W fun e W' => ∃ v, e = .returned v ∧ s.post enc P f false true false false W args v W' := by
  refine Calls.mono key fun e W' ⟨v, he, hb, hy⟩ => ⟨v, he, ?_⟩
  subst hy
  have hlt := hW.lt
  have hW' := hW
  obtain ⟨p, q, hA, hV, rfl, _, _⟩ := hW
  rw [hvars] at hV
  obtain ⟨rfl, rfl⟩ := trodVars_none hV
  simp only [List.append_nil] at hlt hW'
  refine ⟨ds, _, _, [], p, [], hW', ?_, ?_, ?_, hb.frame _, fun h => by cases h⟩
  · rw [hs, hres]
    exact trodAll_cons_mk (shut_bool htb _) trodAll_mk0
  · rw [hs]
    exact below_trodAll hl hb hrec hA hlt
  · rw [hs, hvars]
    rfl

end

theorem slR_of_cells {w : World} {a : Addr} {sz : Nat} (hsz : 0 < sz) {rows : List (List Value)} (hl : ∀ r ∈ rows, r.length = sz) (h : ∀ i, (hi : i < rows.length) → ∀ j, (hj : j < rows[i].length) → w.cell? (a.add (i * sz + j)) = some (rows[i][j])) : SlR w (some a) sz rows := by
  by_cases h0 : rows = []
  · exact .inl h0
  right
  have hp : 0 < rows.length := List.length_pos_iff.2 h0
  have hl0 : rows[0].length = sz := hl _ (List.getElem_mem _)
  have c0 := h 0 hp 0 (by omega)
  have hspot : a.spot = none := by simpa [Addr.add] using World.cell?_spot c0
  obtain ⟨b, off, spot⟩ := a
  simp only at hspot
  subst hspot
  have hadd : ∀ k, (⟨b, off, none⟩ : Addr).add k = ⟨b, off + k, none⟩ := fun k => add_plain0 b off k
  rw [hadd] at c0
  cases hh : w.heap[b]? with
  | none => simp [World.cell?, hh] at c0
  | some o =>
    cases o with
    | cells cs ty fr =>
      refine ⟨b, off, cs, ty, fr, rfl, hh, fun i hi j hj => ⟨hl _ (List.getElem_mem _), ?_⟩⟩
      have := h i hi j hj
      rw [hadd] at this
      simpa [World.cell?, hh, Nat.add_assoc] using this
    | _ => simp [World.cell?, hh] at c0

theorem u_Rat : Tryz.prog.underlying 37 = some .string := by kernel_rfl
theorem u_int : Tryz.prog.underlying 3 = some (.int .i64) := by kernel_rfl
theorem u_str : Tryz.prog.underlying 9 = some .string := by kernel_rfl

end Go.Proofs.YtdnelnicnjplpaaGreatDoor.B

namespace Go.Proofs.YtdnelnicnjplpaaGreatDoor.B
open Go Go.RowKit Go.Proofs

abbrev aLaid := Rows.cargoChecksRow.laid
end Go.Proofs.YtdnelnicnjplpaaGreatDoor.B
