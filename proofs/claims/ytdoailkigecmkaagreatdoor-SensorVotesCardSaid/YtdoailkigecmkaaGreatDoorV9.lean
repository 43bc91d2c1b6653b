/- Part 9 of the proofs that: What the statements SensorChecks, SensorTakes and SensorVotes rest on. -/
import Derived.Test.YtdoailkigecmkaaGreatDoorV8
import Derived.Test.YtdoailkigecmkaaGreatDoorProg
set_option linter.unusedVariables false
set_option linter.unusedSimpArgs false
namespace Go.Proofs.YtdoailkigecmkaaGreatDoor.B
open Go Go.RowKit Go.Proofs Go.Proofs.YtdoailkigecmkaaGreatDoor.Vc

structure Sa where
  chan : Int
  tick : Int
  raw : ByteArray
abbrev Sa.row (v : Sa) : List Value := [.int .i64 v.chan, .int .i64 v.tick, .string v.raw]
abbrev Sa.val (v : Sa) : Value := .agg #[.int .i64 v.chan, .int .i64 v.tick, .string v.raw]
abbrev rRow (r : Rat) : List Value := [.string (rS r)]
abbrev rVal (r : Rat) : Value := .string (rS r)
def idxG {α : Type} (p : α → Bool) : Nat → List α → Int
  | _, [] => -1
  | i, c :: r => if p c then (i : Int) else idxG p (i + 1) r
theorem idxG_any {α : Type} (p : α → Bool) : ∀ (l : List α) (k : Nat), (0 ≤ idxG p k l) ↔ l.any p = true := by
  intro l
  induction l with
  | nil => intro k; simp [idxG]
  | cons c r ih =>
    intro k
    rw [idxG]
    by_cases h : p c = true
    · rw [if_pos h]; simp [h]
    · rw [if_neg h, ih]; simp [h]

theorem index_loopVa {w0 : World} {A : Option Addr} {n c : Nat} {l : List Va} (hl : SlR w0 A 4 (l.map Va.row)) (hlen : l.length = n) (hn : n < 2147483648) {f : Nat} {a k : Array Value} (hcall : callable Tryz.prog f = true) {p : Va → Bool}
    (hf : ∀ w, Below w0.heap.size w0 w → ∀ x ∈ l, Pure Tryz.prog f (a.toList ++ ([Va.val x] : List Value) ++ k.toList).toArray w fun v _ => v = .bool (p x)) {R : Value → World → Prop} {r : Int} (hR : ∀ w, R (.int .i64 r) w) :
    ∀ (d i : Nat) (w : World), n - i = d → i ≤ n → Below w0.heap.size w0 w → r = idxG p i (l.drop i) → F.slices_IndexFunc_api_Value_api_Value.L2 A n c f a k n i w0.heap.size w R := by
  intro d
  induction d with
  | zero =>
    intro i w hd hi hw hr
    rw [List.drop_eq_nil_of_le (by omega)] at hr
    subst hr
    exact F.slices_IndexFunc_api_Value_api_Value.L2.step _ _ _ _ _ _ _ _ _ _ _ ⟨fun h => by omega, fun _ => hR w⟩
  | succ d ih =>
    intro i w hd hi hw hr
    have hil : i < l.length := by omega
    rw [List.drop_eq_getElem_cons hil, idxG] at hr
    obtain ⟨hb, ad, hA, hrow⟩ := (hl.keep hw (Nat.le_refl _)).load (n := n) (by simpa using hlen) (j := (i : Int)) (by omega) (by omega)
    obtain ⟨hcell, _⟩ := hrow (Va.row l[i]) (by rw [Int.toNat_natCast]; simp [hil]) rfl
    refine F.slices_IndexFunc_api_Value_api_Value.L2.step _ _ _ _ _ _ _ _ _ _ _ ⟨fun _ => ?_, fun h => by omega⟩
    refine ⟨hb, ad, hA, _, _, _, _, hcell, hcall, Pure.mono (hf w hw l[i] (List.getElem_mem _)) ?_⟩
    rintro v w2 b2 rfl
    refine ⟨_, rfl, fun h => ?_, fun h => ⟨by simp only [inR]; omega, ?_⟩⟩
    · rw [if_pos h] at hr
      subst hr
      exact hR w2
    · rw [if_neg (by simp [h])] at hr
      have e3 : (i : Int) + 1 = ((i + 1 : Nat) : Int) := by omega
      rw [e3]
      exact ih (i + 1) w2 (by omega) (by omega) (kP hw b2) hr
theorem ContainsVa {w : World} {A : Option Addr} {n c : Nat} {l : List Va} (hl : SlR w A 4 (l.map Va.row)) (hlen : l.length = n) (hn : n < 2147483648) {f : Nat} {a k : Array Value} (hcall : callable Tryz.prog f = true) {p : Va → Bool}
    (hf : ∀ w', Below w.heap.size w w' → ∀ x ∈ l, Pure Tryz.prog f (a.toList ++ ([Va.val x] : List Value) ++ k.toList).toArray w' fun v _ => v = .bool (p x)) :
    Pure Tryz.prog 61 #[.slice A n c, .func (.func f) a k] w fun v _ => v = .bool (l.any p) := by
  refine F.slices_ContainsFunc_api_Value_api_Value.vc _ _ _ _ _ _ _ _ (Pure.mono (F.slices_IndexFunc_api_Value_api_Value.vc _ _ _ _ _ _ _ _ (index_loopVa hl hlen hn hcall hf (R := fun v _ => v = .int .i64 (idxG p 0 l)) (fun _ => rfl) n 0 w rfl (by omega) (Below.refl _ _) rfl)) ?_)
  rintro v w2 _ rfl
  refine ⟨_, rfl, ?_⟩
  refine congrArg Value.bool ?_
  have := idxG_any p l 0
  by_cases h : l.any p = true
  · rw [h]; exact decide_eq_true (this.2 h)
  · rw [Bool.not_eq_true _ |>.mp h]
    exact decide_eq_false fun k => h (this.1 k)

theorem index_loopCh {w0 : World} {A : Option Addr} {n c : Nat} {l : List Ch} (hl : SlR w0 A 7 (l.map Ch.row)) (hlen : l.length = n) (hn : n < 2147483648) {f : Nat} {a k : Array Value} (hcall : callable Tryz.prog f = true) {p : Ch → Bool}
    (hf : ∀ w, Below w0.heap.size w0 w → ∀ x ∈ l, Pure Tryz.prog f (a.toList ++ ([Ch.val x] : List Value) ++ k.toList).toArray w fun v _ => v = .bool (p x)) {R : Value → World → Prop} {r : Int} (hR : ∀ w, R (.int .i64 r) w) :
    ∀ (d i : Nat) (w : World), n - i = d → i ≤ n → Below w0.heap.size w0 w → r = idxG p i (l.drop i) → F.slices_IndexFunc_api_Channel_api_Channel.L2 A n c f a k n i w0.heap.size w R := by
  intro d
  induction d with
  | zero =>
    intro i w hd hi hw hr
    rw [List.drop_eq_nil_of_le (by omega)] at hr
    subst hr
    exact F.slices_IndexFunc_api_Channel_api_Channel.L2.step _ _ _ _ _ _ _ _ _ _ _ ⟨fun h => by omega, fun _ => hR w⟩
  | succ d ih =>
    intro i w hd hi hw hr
    have hil : i < l.length := by omega
    rw [List.drop_eq_getElem_cons hil, idxG] at hr
    obtain ⟨hb, ad, hA, hrow⟩ := (hl.keep hw (Nat.le_refl _)).load (n := n) (by simpa using hlen) (j := (i : Int)) (by omega) (by omega)
    obtain ⟨hcell, _⟩ := hrow (Ch.row l[i]) (by rw [Int.toNat_natCast]; simp [hil]) rfl
    refine F.slices_IndexFunc_api_Channel_api_Channel.L2.step _ _ _ _ _ _ _ _ _ _ _ ⟨fun _ => ?_, fun h => by omega⟩
    refine ⟨hb, ad, hA, _, _, _, _, _, _, _, hcell, hcall, Pure.mono (hf w hw l[i] (List.getElem_mem _)) ?_⟩
    rintro v w2 b2 rfl
    refine ⟨_, rfl, fun h => ?_, fun h => ⟨by simp only [inR]; omega, ?_⟩⟩
    · rw [if_pos h] at hr
      subst hr
      exact hR w2
    · rw [if_neg (by simp [h])] at hr
      have e3 : (i : Int) + 1 = ((i + 1 : Nat) : Int) := by omega
      rw [e3]
      exact ih (i + 1) w2 (by omega) (by omega) (kP hw b2) hr
theorem ContainsCh {w : World} {A : Option Addr} {n c : Nat} {l : List Ch} (hl : SlR w A 7 (l.map Ch.row)) (hlen : l.length = n) (hn : n < 2147483648) {f : Nat} {a k : Array Value} (hcall : callable Tryz.prog f = true) {p : Ch → Bool}
    (hf : ∀ w', Below w.heap.size w w' → ∀ x ∈ l, Pure Tryz.prog f (a.toList ++ ([Ch.val x] : List Value) ++ k.toList).toArray w' fun v _ => v = .bool (p x)) :
    Pure Tryz.prog 18 #[.slice A n c, .func (.func f) a k] w fun v _ => v = .bool (l.any p) := by
  refine F.slices_ContainsFunc_api_Channel_api_Channel.vc _ _ _ _ _ _ _ _ (Pure.mono (F.slices_IndexFunc_api_Channel_api_Channel.vc _ _ _ _ _ _ _ _ (index_loopCh hl hlen hn hcall hf (R := fun v _ => v = .int .i64 (idxG p 0 l)) (fun _ => rfl) n 0 w rfl (by omega) (Below.refl _ _) rfl)) ?_)
  rintro v w2 _ rfl
  refine ⟨_, rfl, ?_⟩
  refine congrArg Value.bool ?_
  have := idxG_any p l 0
  by_cases h : l.any p = true
  · rw [h]; exact decide_eq_true (this.2 h)
  · rw [Bool.not_eq_true _ |>.mp h]
    exact decide_eq_false fun k => h (this.1 k)

theorem index_loopRa {w0 : World} {A : Option Addr} {n c : Nat} {l : List Rat} (hl : SlR w0 A 1 (l.map rRow)) (hlen : l.length = n) (hn : n < 2147483648) {f : Nat} {a k : Array Value} (hcall : callable Tryz.prog f = true) {p : Rat → Bool}
    (hf : ∀ w, Below w0.heap.size w0 w → ∀ x ∈ l, Pure Tryz.prog f (a.toList ++ ([rVal x] : List Value) ++ k.toList).toArray w fun v _ => v = .bool (p x)) {R : Value → World → Prop} {r : Int} (hR : ∀ w, R (.int .i64 r) w) :
    ∀ (d i : Nat) (w : World), n - i = d → i ≤ n → Below w0.heap.size w0 w → r = idxG p i (l.drop i) → F.slices_IndexFunc_sensor_sorted_api_Rat.L2 A n c f a k n i w0.heap.size w R := by
  intro d
  induction d with
  | zero =>
    intro i w hd hi hw hr
    rw [List.drop_eq_nil_of_le (by omega)] at hr
    subst hr
    exact F.slices_IndexFunc_sensor_sorted_api_Rat.L2.step _ _ _ _ _ _ _ _ _ _ _ ⟨fun h => by omega, fun _ => hR w⟩
  | succ d ih =>
    intro i w hd hi hw hr
    have hil : i < l.length := by omega
    rw [List.drop_eq_getElem_cons hil, idxG] at hr
    obtain ⟨hb, ad, hA, hrow⟩ := (hl.keep hw (Nat.le_refl _)).load (n := n) (by simpa using hlen) (j := (i : Int)) (by omega) (by omega)
    obtain ⟨hcell, _⟩ := hrow (rRow l[i]) (by rw [Int.toNat_natCast]; simp [hil]) rfl
    refine F.slices_IndexFunc_sensor_sorted_api_Rat.L2.step _ _ _ _ _ _ _ _ _ _ _ ⟨fun _ => ?_, fun h => by omega⟩
    refine ⟨hb, ad, hA, _, hcell, hcall, Pure.mono (hf w hw l[i] (List.getElem_mem _)) ?_⟩
    rintro v w2 b2 rfl
    refine ⟨_, rfl, fun h => ?_, fun h => ⟨by simp only [inR]; omega, ?_⟩⟩
    · rw [if_pos h] at hr
      subst hr
      exact hR w2
    · rw [if_neg (by simp [h])] at hr
      have e3 : (i : Int) + 1 = ((i + 1 : Nat) : Int) := by omega
      rw [e3]
      exact ih (i + 1) w2 (by omega) (by omega) (kP hw b2) hr
theorem ContainsRa {w : World} {A : Option Addr} {n c : Nat} {l : List Rat} (hl : SlR w A 1 (l.map rRow)) (hlen : l.length = n) (hn : n < 2147483648) {f : Nat} {a k : Array Value} (hcall : callable Tryz.prog f = true) {p : Rat → Bool}
    (hf : ∀ w', Below w.heap.size w w' → ∀ x ∈ l, Pure Tryz.prog f (a.toList ++ ([rVal x] : List Value) ++ k.toList).toArray w' fun v _ => v = .bool (p x)) :
    Pure Tryz.prog 68 #[.slice A n c, .func (.func f) a k] w fun v _ => v = .bool (l.any p) := by
  refine F.slices_ContainsFunc_sensor_sorted_api_Rat.vc _ _ _ _ _ _ _ _ (Pure.mono (F.slices_IndexFunc_sensor_sorted_api_Rat.vc _ _ _ _ _ _ _ _ (index_loopRa hl hlen hn hcall hf (R := fun v _ => v = .int .i64 (idxG p 0 l)) (fun _ => rfl) n 0 w rfl (by omega) (Below.refl _ _) rfl)) ?_)
  rintro v w2 _ rfl
  refine ⟨_, rfl, ?_⟩
  refine congrArg Value.bool ?_
  have := idxG_any p l 0
  by_cases h : l.any p = true
  · rw [h]; exact decide_eq_true (this.2 h)
  · rw [Bool.not_eq_true _ |>.mp h]
    exact decide_eq_false fun k => h (this.1 k)
end Go.Proofs.YtdoailkigecmkaaGreatDoor.B

namespace Go.Proofs.YtdoailkigecmkaaGreatDoor.B
open Go Go.RowKit Go.Proofs Go.Proofs.YtdoailkigecmkaaGreatDoor.Vc

def stepF (l : List Rat) (x : Va) : List Rat := if x.qual = 1 then ins (qR x.num) l else l
def srtF (v : List Va) : List Rat := v.foldl stepF []
def midF (v : List Va) : Option Rat := (srtF v)[((srtF v).length - 1) / 2]?
def voteF (v : List Va) (tol : ByteArray) : ByteArray × Bool × Int :=
  if vR tol = true ∧ ¬ qR tol < 0 ∧ (v.any fun x => !vR x.num) = false then
    if 16 < v.length then (⟨#[]⟩, false, 8)
    else match midF v with
      | none => (⟨#[]⟩, false, 9)
      | some m => (rS m, !((srtF v).any fun x => decide (qR tol < absR (x - m))), 0)
  else (⟨#[]⟩, false, 1)

theorem srtF_take (v : List Va) {i : Nat} (hi : i < v.length) : srtF (v.take (i + 1)) = stepF (srtF (v.take i)) v[i] := by
  unfold srtF
  rw [List.take_add_one, List.getElem?_eq_getElem hi, List.foldl_append]
  rfl
theorem mem_ins {a x : Rat} {l : List Rat} (h : a ∈ ins x l) : a = x ∨ a ∈ l := by
  unfold ins at h
  rcases List.mem_append.1 h with h | h
  · exact .inr (List.mem_of_mem_take h)
  · rcases List.mem_cons.1 h with h | h
    · exact .inl h
    · exact .inr (List.mem_of_mem_drop h)
theorem foldl_mem {a : Rat} : ∀ (v : List Va) (l : List Rat), a ∈ v.foldl stepF l → a ∈ l ∨ ∃ x ∈ v, x.qual = 1 ∧ a = qR x.num := by
  intro v
  induction v with
  | nil => intro l h; exact .inl h
  | cons x r ih =>
    intro l h
    rcases ih _ h with h | ⟨y, hy, h1, h2⟩
    · unfold stepF at h
      split at h
      · rcases mem_ins h with h | h
        · exact .inr ⟨x, by simp, by assumption, h⟩
        · exact .inl h
      · exact .inl h
    · exact .inr ⟨y, by simp [hy], h1, h2⟩
theorem mem_srtF {a : Rat} {v : List Va} (h : a ∈ srtF v) : ∃ x ∈ v, x.qual = 1 ∧ a = qR x.num := by
  rcases foldl_mem v [] h with h | h
  · cases h
  · exact h
theorem foldl_srt : ∀ (v : List Va) (l : List Rat), Srt l → Srt (v.foldl stepF l) := by
  intro v
  induction v with
  | nil => intro l h; exact h
  | cons x r ih =>
    intro l h
    refine ih _ ?_
    unfold stepF
    split
    · exact h.ins
    · exact h
theorem srt_srtF (v : List Va) : Srt (srtF v) := foldl_srt v [] (fun i j a b _ h => by simp at h)
theorem srtF_len : ∀ (v : List Va) (l : List Rat), (v.foldl stepF l).length ≤ l.length + v.length := by
  intro v
  induction v with
  | nil => intro l; simp
  | cons x r ih =>
    intro l
    have := ih (stepF l x)
    rw [List.foldl_cons, List.length_cons]
    unfold stepF at this ⊢
    split at this
    · rw [if_pos (by assumption)]
      rw [ins_len] at this
      omega
    · rw [if_neg (by assumption)]
      omega

theorem vote_c1 {w : World} (hg : Glob w) {x : Va} (hx : SmV x) : Pure Tryz.prog 62 #[x.val] w fun v _ => v = .bool (!vR x.num) := by
  refine F.sensor_Vote_c1.vc _ _ _ _ _ _ fun w1 x1 => Pure.mono (rational_Valid (hg.next (k0 x1)) x.num (by have : x.num.size ≤ 1000 := hx; omega)) ?_
  rintro v w2 _ rfl
  refine ⟨_, rfl, congrArg Value.bool ?_⟩
  unfold vR
  cases isRat (by_ x.num) <;> rfl

theorem vote_c2 {w : World} (hg : Glob w) {tol : ByteArray} (st : SmS tol) (vt : vR tol = true) {m x : Rat} (hm : Sm 1000 m) (hx : Sm 1000 x) {pm pt : Nat} (h1 : w.heap[pm]? = some (.cells [.string (rS m)].toArray 23 (0, 0))) (h2 : w.heap[pt]? = some (.cells [.string tol].toArray 23 (0, 0))) :
    Pure Tryz.prog 64 #[.string (rS x), .pointer (some ⟨pm, 0, none⟩), .pointer (some ⟨pt, 0, none⟩)] w fun v _ => v = .bool (decide (qR tol < absR (x - m))) := by
  have eT := vR_eq vt
  refine F.sensor_Vote_c2.vc _ _ _ _ _ ⟨_, box_cell0 h1 rfl, _, box_cell0 h2 rfl, fun w1 x1 => ?_⟩
  have hb1 := k0 x1
  refine Pure.mono (sensor_sub (hg.next hb1) (hx.mono (by omega)) (hm.mono (by omega))) ?_
  rintro v w2 b2 rfl
  have hb2 := kP hb1 b2
  have s2 : Sm 20000 (x - m) := (hx.sub hm).mono (by omega)
  refine ⟨_, rfl, Pure.mono (sensor_size (hg.next hb2) (s2.mono (by omega))) ?_⟩
  rintro v w3 b3 rfl
  have hb3 := kP hb2 b3
  have m1 := sensor_compare (hg.next hb3) (s2.abs.mono (by omega)) (st.big vt)
  rw [← eT] at m1
  refine ⟨_, rfl, Pure.mono m1 ?_⟩
  rintro v w4 _ rfl
  refine ⟨_, rfl, ?_⟩
  have : cmpR (absR (x - m)) (qR tol) > 0 ↔ qR tol < absR (x - m) := cmpR_gt
  refine congrArg Value.bool ?_
  rw [decide_eq_decide, this]

theorem vote_loop {w0 : World} (hg : Glob w0) {A : Option Addr} {n c : Nat} {v : List Va} (hv : SlR w0 A 4 (v.map Va.row)) (hlen : v.length = n) (hn : n ≤ 16) (hsm : ∀ x ∈ v, SmV x) (hval : ∀ x ∈ v, vR x.num = true) {tol : ByteArray} (st : SmS tol) (vt : vR tol = true) {pt pp : Nat} (hpt : w0.heap.size ≤ pt) (hpp : pt < pp)
    {R : Value → World → Prop}
    (hR : ∀ w, R (match midF v with | none => .tuple #[.string ⟨#[]⟩, .bool false, .int .i64 9] | some m => .tuple #[.string (rS m), .bool (!((srtF v).any fun x => decide (qR tol < absR (x - m)))), .int .i64 0]) w) :
    ∀ (d i : Nat) (w : World) (A' : Option Addr) (n' c' : Nat), n - i = d → i ≤ n → Below w0.heap.size w0 w → w.heap[pt]? = some (.cells [.string tol].toArray 23 (0, 0)) → w.heap[pp]? = some (.cells [.slice A' n' c'].toArray 89 (0, 0)) →
      OwnR w pp 23 A' n' c' 1 (rowsR (srtF (v.take i))) →
      F.sensor_Vote.L8 ⟨pt, 0, none⟩ ⟨pp, 0, none⟩ A n c n i w0.heap.size w R := by
  have hsm' : ∀ x ∈ v, Sm 1000 (qR x.num) := fun x hx => vR_sm (hval x hx) (hsm x hx)
  have hbig : ∀ i, ∀ r ∈ srtF (v.take i), Big r := fun i r hr => by
    obtain ⟨x, hx, _, rfl⟩ := mem_srtF hr
    exact (hsm' x (List.mem_of_mem_take hx)).mono (by omega)
  intro d
  induction d with
  | zero =>
    intro i w A' n' c' hd hi hw ht hp ho
    have : i = n := by omega
    subst this
    rw [List.take_of_length_le (by omega)] at ho
    have hl : (srtF v).length = n' := by have := ho.len; simpa using this
    have hl2 : n' ≤ 16 := by
      have := srtF_len v []
      simp only [List.length_nil] at this
      unfold srtF at hl
      omega
    refine F.sensor_Vote.L8.step _ _ _ _ _ _ _ _ _ _ ⟨fun h => by omega, fun _ => ⟨_, _, _, box_cell0 hp rfl, fun h => ?_, fun h => ?_⟩⟩
    · have e : midF v = none := by
        unfold midF
        rw [List.getElem?_eq_none (by omega)]
      have := hR w
      rwa [e] at this
    · have hm : ((srtF v).length - 1) / 2 < (srtF v).length := by omega
      obtain ⟨m, hm1⟩ : ∃ m, midF v = some m := ⟨_, List.getElem?_eq_getElem hm⟩
      have hmem : m ∈ srtF v := List.mem_of_getElem? hm1
      have sm : Sm 1000 m := by
        obtain ⟨x, hx, _, rfl⟩ := mem_srtF hmem
        exact hsm' x hx
      have eJ : ((n' : Int) - 1) / 2 = (((n' - 1) / 2 : Nat) : Int) := by omega
      obtain ⟨hb, a, hA, hrow⟩ := ho.sl.load (n := n') ho.len (j := ((n' : Int) - 1) / 2) (by omega) (by omega)
      obtain ⟨hcell, _⟩ := hrow [.string (rS m)] (by
        rw [eJ, Int.toNat_natCast]
        unfold midF at hm1
        rw [hl] at hm1
        exact rowsR_get hm1) rfl
      refine ⟨_, _, _, box_cell0 hp rfl, _, _, _, box_cell0 hp rfl, by simp only [inR]; omega, ⟨by omega, by omega, by simp only [inR]; omega⟩, hb, a, hA, _, hcell, fun w2 x2 pm hpm hbox => ⟨_, box_cell0 hbox rfl, _, _, _, box_cell0 (ext_nil x2 hp) rfl, fun w3 x3 => ?_⟩⟩
      have hb2 := kE hw x2
      have hb3 := kE hb2 x3
      have o3 := (ho.extNil x2).extNil x3
      have hbox3 := ext_nil x3 hbox
      have ht3 := ext_nil x3 (ext_nil x2 ht)
      refine Pure.mono (ContainsRa (l := srtF v) (p := fun x => decide (qR tol < absR (x - m))) o3.sl hl (by have := srtF_len v []; simp only [List.length_nil] at this; unfold srtF at hl; omega) (by kernel_rfl) fun w' hb' x hx => ?_) ?_
      · obtain ⟨y, hy, _, rfl⟩ := mem_srtF hx
        exact vote_c2 (hg.next (kP hb3 hb')) st vt sm (hsm' y hy) (heap_keep hbox3 hb') (heap_keep ht3 hb')
      rintro y w4 _ rfl
      refine ⟨_, rfl, ?_⟩
      have := hR w4
      rw [hm1] at this
      have e : ∀ b : Bool, decide (b = false) = !b := by decide
      rw [e]
      exact this
  | succ d ih =>
    intro i w A' n' c' hd hi hw ht hp ho
    have hiv : i < v.length := by omega
    have hl : (srtF (v.take i)).length = n' := by have := ho.len; simpa using this
    have hl2 : n' ≤ i := by
      have := srtF_len (v.take i) []
      simp only [List.length_nil, List.length_take] at this
      unfold srtF at hl
      omega
    have mv : v[i] ∈ v := List.getElem_mem _
    obtain ⟨hb, a, hA, hrow⟩ := (hv.keep hw (Nat.le_refl _)).load (n := n) (by simpa using hlen) (j := (i : Int)) (by omega) (by omega)
    obtain ⟨hcell, _⟩ := hrow v[i].row (by rw [Int.toNat_natCast]; simp [hiv]) rfl
    have e3 : (i : Int) + 1 = ((i + 1 : Nat) : Int) := by omega
    refine F.sensor_Vote.L8.step _ _ _ _ _ _ _ _ _ _ ⟨fun _ => ⟨hb, a, hA, _, _, _, _, hcell, fun hq w2 x2 => ?_, fun hq => ⟨by simp only [inR]; omega, fun w2 x2 => ?_⟩⟩, fun h => by omega⟩
    · have hb2 := kE hw x2
      have hp2 := ext_nil x2 hp
      have ht2 := ext_nil x2 ht
      have o2 := ho.extNil x2
      have hnum := vR_eq (hval _ mv)
      rw [hnum]
      have hpl := (Array.getElem?_eq_some_iff.1 hp2).1
      have key := sensor_put (hg.next hb2) (B := pp) (by omega) (Nat.le_refl _) hp2 o2 (by omega) (hbig i) (srt_srtF _) ((hsm' _ mv).mono (by omega))
      refine Calls.mono key fun e w3 ⟨y, he, b3, hy, A3, c3, hp3, o3, hk⟩ => ⟨y, he, b3.mono (by omega), ?_⟩
      refine ⟨fun k ty cs hty hk2 => hk k (Array.getElem?_eq_some_iff.1 hk2).1 ?_ fun a ha => ?_, hy, by simp only [inR]; omega, ?_⟩
      · refine two_types hk2 hp2 ?_
        simp only [List.mem_singleton] at hty
        rw [hty]
        decide
      · obtain ⟨cs2, hcs2⟩ := o2.cells a ha
        refine two_types hk2 hcs2 ?_
        simp only [List.mem_singleton] at hty
        rw [hty]
        decide
      · rw [e3]
        refine ih (i + 1) w3 A3 (n' + 1) c3 (by omega) (by omega) (hb2.trans (b3.mono (by omega))) ?_ hp3 ?_
        · rw [b3.block pt hpp]; exact ht2
        · rw [srtF_take v hiv, stepF, if_pos hq]
          exact o3
    · rw [e3]
      refine ih (i + 1) w2 A' n' c' (by omega) (by omega) (kE hw x2) (ext_nil x2 ht) (ext_nil x2 hp) ?_
      rw [srtF_take v hiv, stepF, if_neg hq]
      exact ho.extNil x2

theorem sensor_Vote {w : World} (hg : Glob w) {A : Option Addr} {n c : Nat} {v : List Va} (hv : SlR w A 4 (v.map Va.row)) (hlen : v.length = n) (hn : n < 2147483648) (hsm : ∀ x ∈ v, SmV x) {tol : ByteArray} (st : SmS tol) :
    Pure Tryz.prog 27 #[.slice A n c, .string tol] w fun y _ => y = .tuple #[.string (voteF v tol).1, .bool (voteF v tol).2.1, .int .i64 (voteF v tol).2.2] := by
  refine F.sensor_Vote.vc _ _ _ _ _ _ ?_
  refine runOk_box _ _ (Nat.le_refl _) fun w1 h1 b1 hlt1 => ?_
  have st' : tol.size ≤ 1000 := st
  refine ⟨_, box_cell0 h1 rfl, Pure.mono (rational_Valid (hg.next b1) tol (by omega)) ?_⟩
  rintro y w2 b2 rfl
  have hb2 := kP b1 b2
  have h2 := heap_keep h1 b2
  have bad : ¬ (vR tol = true ∧ ¬ qR tol < 0 ∧ (v.any fun x => !vR x.num) = false) → voteF v tol = (⟨#[]⟩, false, 1) := fun h => by
    unfold voteF
    rw [if_neg h]
  refine ⟨_, rfl, fun h => ?_, fun h => ?_⟩
  · have h' : vR tol = false := h
    rw [bad fun k => by rw [k.1] at h'; cases h']
  have vt : vR tol = true := by simpa [vR] using h
  refine ⟨_, box_cell0 h2 rfl, Pure.mono (sign_of (hg.next hb2) st vt) ?_⟩
  rintro y w3 b3 rfl
  have hb3 := kP hb2 b3
  have h3 := heap_keep h2 b3
  refine ⟨_, rfl, fun h => ?_, fun h => ?_⟩
  · rw [cmpR_lt] at h
    rw [bad fun k => k.2.1 h]
  rw [cmpR_lt] at h
  refine Pure.mono (ContainsVa (p := fun x => !vR x.num) (hv.keep hb3 (Nat.le_refl _)) hlen hn (by kernel_rfl) fun w' hb' x hx => vote_c1 (hg.next (kP hb3 hb')) (hsm x hx)) ?_
  rintro y w4 b4 rfl
  have hb4 := kP hb3 b4
  have h4 := heap_keep h3 b4
  refine ⟨_, rfl, fun k1 => ?_, fun k1 => ?_⟩
  · rw [bad fun k => by rw [k.2.2] at k1; cases k1]
  have good : voteF v tol = if 16 < v.length then ((⟨#[]⟩, false, 8) : ByteArray × Bool × Int) else match midF v with
      | none => ((⟨#[]⟩, false, 9) : ByteArray × Bool × Int)
      | some m => (rS m, !((srtF v).any fun x => decide (qR tol < absR (x - m))), 0) := by
    exact if_pos ⟨vt, h, k1⟩
  rw [good]
  refine ⟨fun h5 => ?_, fun h5 => ?_⟩
  · rw [if_pos (by omega)]
  rw [if_neg (by omega)]
  refine runOk_alloc _ (z := .slice none 0 0) (by kernel_rfl) hb4.size fun w5 h5' b5 hlt5 => ?_
  have hb5 := kP hb4 b5
  have hval : ∀ x ∈ v, vR x.num = true := fun x hx => by
    have := List.any_eq_false.1 k1 x hx
    simpa using this
  refine vote_loop hg hv hlen (by omega) hsm hval st vt (Nat.le_refl _) (by have := b2.size; have := b3.size; have := b4.size; omega) (fun w' => ?_) n 0 w5 none 0 0 rfl (by omega) hb5 (heap_keep h4 b5) h5' ?_
  · cases midF v <;> rfl
  · simpa [srtF] using OwnR.nil
end Go.Proofs.YtdoailkigecmkaaGreatDoor.B

namespace Go.Proofs.YtdoailkigecmkaaGreatDoor.B
open Go Go.RowKit Go.Proofs Go.Proofs.YtdoailkigecmkaaGreatDoor.Vc

def seen (at_ hold : Int) (x : Va) : Va := if x.qual ≠ 0 ∧ x.tick < at_ - hold then { x with qual := 4 } else x
def seeF (v : List Va) (at_ hold : Int) : Except Int (List Va) :=
  if 16 < v.length then .error 8
  else if (0 ≤ at_ ∧ at_ ≤ 1073741824) ∧ (0 ≤ hold ∧ hold ≤ 1073741824) then .ok (v.map (seen at_ hold)) else .error 2

theorem set_row (v : List Va) (f : Va → Va) {i : Nat} (hi : i < v.length) : ((v.take i).map f ++ v.drop i).set i (f v[i]) = (v.take (i + 1)).map f ++ v.drop (i + 1) := by
  have hl : ((v.take i).map f).length = i := by simp; omega
  rw [List.drop_eq_getElem_cons hi, List.set_append_right _ _ (by omega), hl, Nat.sub_self, List.set_cons_zero, List.take_add_one, List.getElem?_eq_getElem hi, List.map_append, List.append_assoc]
  rfl
theorem get_row (v : List Va) (f : Va → Va) {i : Nat} (hi : i < v.length) : ((v.take i).map f ++ v.drop i)[i]? = some v[i] := by
  have hl : ((v.take i).map f).length = i := by simp; omega
  rw [List.getElem?_append_right (by omega), hl, Nat.sub_self, List.drop_eq_getElem_cons hi]
  rfl

theorem see_loop {w0 : World} {n : Nat} {v : List Va} {at_ hold : Int} (ha : 0 ≤ at_ ∧ at_ ≤ 1073741824) (hh : 0 ≤ hold ∧ hold ≤ 1073741824) (hlen : v.length = n) (hn : n ≤ 16) {A : Option Addr} {c : Nat} {R : Value → World → Prop}
    (hR : ∀ w, OwnR w w0.heap.size 46 A n c 4 ((v.map (seen at_ hold)).map Va.row) → R (.tuple #[.slice A n c, .int .i64 0]) w) :
    ∀ (d i : Nat) (w : World), n - i = d → i ≤ n → Below w0.heap.size w0 w → OwnR w w0.heap.size 46 A n c 4 (((v.take i).map (seen at_ hold) ++ v.drop i).map Va.row) →
      F.sensor_See.L7 at_ hold A n c A n c n i w0.heap.size w R := by
  intro d
  induction d with
  | zero =>
    intro i w hd hi hw ho
    have : i = n := by omega
    subst this
    rw [List.take_of_length_le (by omega), List.drop_eq_nil_of_le (by omega), List.append_nil] at ho
    exact F.sensor_See.L7.step _ _ _ _ _ _ _ _ _ _ _ _ _ ⟨fun h => by omega, fun _ => hR w ho⟩
  | succ d ih =>
    intro i w hd hi hw ho
    have hiv : i < v.length := by omega
    have hrow0 : (((v.take i).map (seen at_ hold) ++ v.drop i).map Va.row)[((i : Int)).toNat]? = some v[i].row := by
      rw [Int.toNat_natCast, List.getElem?_map, get_row v _ hiv]
      rfl
    obtain ⟨hb, a, hA, hrow⟩ := ho.sl.load (n := n) ho.len (j := (i : Int)) (by omega) (by omega)
    obtain ⟨hcell, _⟩ := hrow v[i].row hrow0 rfl
    have e3 : (i : Int) + 1 = ((i + 1 : Nat) : Int) := by omega
    refine F.sensor_See.L7.step _ _ _ _ _ _ _ _ _ _ _ _ _ ⟨fun _ => ⟨hb, a, hA, _, _, _, _, hcell, ?_⟩, fun h => by omega⟩
    refine runOk_alloc _ (z := .agg #[.int .i64 0, .int .i64 0, .int .i64 0, .string ⟨#[]⟩]) (by kernel_rfl) hw.size fun w1 h1 b1 hlt1 => ?_
    have hb1 := kP hw b1
    have o1 := ho.below b1
    refine ⟨[.int .i64 0, .int .i64 0, .int .i64 0, .string ⟨#[]⟩], _, hw.size, rfl, h1, by simp, rfl, fun w2 hw2 => ?_⟩
    have h2 : w2.heap[w.heap.size]? = some (.cells [.int .i64 v[i].chan, .int .i64 v[i].tick, .int .i64 v[i].qual, .string v[i].num].toArray 46 (0, 0)) := hw2.at_
    have b2 : Below w0.heap.size w0 w2 := hb1.trans ((Wrote.belowR hw2 hw.size))
    have o2 : OwnR w2 w0.heap.size 46 A n c 4 (((v.take i).map (seen at_ hold) ++ v.drop i).map Va.row) := by
      refine o1.other fun a' ha' => hw2.rest _ ?_
      have := (ho.blk a' ha').2
      show a'.block ≠ w.heap.size
      omega
    have go : ∀ w3, Below w0.heap.size w0 w3 → OwnR w3 w0.heap.size 46 A n c 4 (((v.take i).map (seen at_ hold) ++ v.drop i).map Va.row |>.set i (seen at_ hold v[i]).row) → F.sensor_See.L7 at_ hold A n c A n c n ((i : Int) + 1) w0.heap.size w3 R := fun w3 hb3 o3 => by
      rw [e3]
      refine ih (i + 1) w3 (by omega) (by omega) hb3 ?_
      rw [← set_row v _ hiv, List.map_set]
      exact o3
    have same : ¬ (v[i].qual ≠ 0 ∧ v[i].tick < at_ - hold) → OwnR w2 w0.heap.size 46 A n c 4 (((v.take i).map (seen at_ hold) ++ v.drop i).map Va.row |>.set i (seen at_ hold v[i]).row) := fun h => by
      have e : seen at_ hold v[i] = v[i] := if_neg h
      rw [e, ← List.map_set]
      have e2 : ((v.take i).map (seen at_ hold) ++ v.drop i).set i v[i] = (v.take i).map (seen at_ hold) ++ v.drop i := by
        refine List.ext_getElem? fun k => ?_
        rw [List.getElem?_set]
        split
        · rename_i hk
          subst hk
          rw [get_row v _ hiv, if_pos (by simp; omega)]
        · rfl
      rw [e2]
      exact o2
    refine ⟨_, box_cell h2 rfl, fun hq => ⟨_, box_cell h2 rfl, by simp only [inR]; omega, fun ht => ?_, fun ht => ⟨by simp only [inR]; omega, go w2 b2 (same fun k => ht k.2)⟩⟩, fun hq => ⟨by simp only [inR]; omega, go w2 b2 (same fun k => hq k.1)⟩⟩
    obtain ⟨q5, a5, hA5, cs, d1, d2, d3, d4, d5⟩ := o2.set (i := (i : Int)) (by omega) (by omega) 2 [.int .i64 4] v[i].row hrow0 (by simp)
    refine ⟨q5, a5, hA5, cs, _, d1, d2, d3, d4, rfl, fun w3 hw3 => ⟨by simp only [inR]; omega, go w3 (b2.trans (Wrote.belowR hw3 d1)) ?_⟩⟩
    have o5 := d5 w3 hw3
    rw [Int.toNat_natCast] at o5
    have e : seen at_ hold v[i] = { v[i] with qual := 4 } := if_pos ⟨hq, ht⟩
    rw [e]
    exact o5

def SeeR (r : Except Int (List Va)) (n B : Nat) (y : Value) (w : World) : Prop := match r with
  | .error e => y = .tuple #[.slice none 0 0, .int .i64 e]
  | .ok v => ∃ A c, y = .tuple #[.slice A n c, .int .i64 0] ∧ OwnR w B 46 A n c 4 (v.map Va.row)
theorem sensor_See {w : World} {A : Option Addr} {n c : Nat} {v : List Va} {at_ hold : Int} (hv : SlR w A 4 (v.map Va.row)) (hlen : v.length = n) :
    Pure Tryz.prog 25 #[.slice A n c, .int .i64 at_, .int .i64 hold] w (SeeR (seeF v at_ hold) n w.heap.size) := by
  refine F.sensor_See.vc _ _ _ _ _ _ _ ⟨fun h => ?_, fun h => Pure.mono (sensor_tick _ _) ?_⟩
  · unfold seeF
    rw [if_pos (by omega)]
    rfl
  have e : seeF v at_ hold = if (0 ≤ at_ ∧ at_ ≤ 1073741824) ∧ (0 ≤ hold ∧ hold ≤ 1073741824) then .ok (v.map (seen at_ hold)) else .error 2 := if_neg (by omega)
  rw [e]
  rintro y w1 b1 rfl
  refine ⟨_, rfl, fun h => ?_, fun h => Pure.mono (sensor_tick _ _) ?_⟩
  · have h' : ¬ (0 ≤ at_ ∧ at_ ≤ 1073741824) := of_decide_eq_false h
    rw [if_neg fun k => h' k.1]
    rfl
  rintro y w2 b2 rfl
  have hb2 := kP b1 b2
  refine ⟨_, rfl, fun h => ?_, fun h => ?_⟩
  · have h' : ¬ (0 ≤ hold ∧ hold ≤ 1073741824) := of_decide_eq_false h
    rw [if_neg fun k => h' k.2]
    rfl
  have k1 : 0 ≤ at_ ∧ at_ ≤ 1073741824 := by
    apply Decidable.byContradiction
    intro k
    rename_i h0
    exact h0 (decide_eq_false k)
  have k2 : 0 ≤ hold ∧ hold ≤ 1073741824 := by
    apply Decidable.byContradiction
    intro k
    exact h (decide_eq_false k)
  rw [if_pos ⟨k1, k2⟩]
  refine Pure.mono (CloneV (hv.keep hb2 (Nat.le_refl _)) (by simpa using hlen) rowV_len rowV_cell (by omega)) ?_
  rintro y w3 b3 ⟨A3, c3, rfl, o3⟩
  refine ⟨_, _, _, rfl, ?_⟩
  refine see_loop k1 k2 hlen (by omega) (fun w' ho => ⟨A3, c3, rfl, ho⟩) n 0 w3 rfl (by omega) (kP hb2 b3) ?_
  simpa using o3.base hb2.size
end Go.Proofs.YtdoailkigecmkaaGreatDoor.B

namespace Go.Proofs.YtdoailkigecmkaaGreatDoor.B
open Go Go.RowKit Go.Proofs Go.Proofs.YtdoailkigecmkaaGreatDoor.Vc

def oneC : Ch := ⟨4, ⟨#[100, 114, 97, 102, 116]⟩, ⟨#[49, 47, 50]⟩, ⟨#[49]⟩, ⟨#[48]⟩, ⟨#[49, 48]⟩, ⟨#[50]⟩⟩
theorem rS_one {n : Nat} (h : n < 10) : rS ((n : Int) : Rat) = ⟨#[UInt8.ofNat (48 + n)]⟩ := by
  rw [← rS_int]
  unfold iS
  rw [intT_nat, natT_small h]
  rfl
theorem one_check : checkF [oneC] = (-1, 0) := by
  have v1 : vR oneC.gain = true := by decide +kernel
  have v2 : vR oneC.offset = true := by decide +kernel
  have v3 : vR oneC.low = true := by decide +kernel
  have v4 : vR oneC.high = true := by decide +kernel
  have v5 : vR oneC.rate = true := by decide +kernel
  have q1 : qR oneC.gain = 1 / 2 := by decide +kernel
  have q3 : qR oneC.low = 0 := by decide +kernel
  have q4 : qR oneC.high = 10 := by decide +kernel
  have q5 : qR oneC.rate = 2 := by decide +kernel
  have f : faultOf none oneC = 0 := by
    unfold faultOf
    rw [if_neg (fun k => k ⟨v1, v2, v3, v4, v5⟩), if_neg (by decide), if_neg, if_neg]
    · rintro ⟨q, hq, _⟩
      cases hq
    · rw [q1, q3, q4, q5]
      decide +kernel
  unfold checkF
  rw [if_neg (by simp), chk, if_neg (fun k => k f)]
  rfl
theorem one_num3 : numberR oneC ⟨#[52]⟩ = ((3 : Nat) : Int) := by decide +kernel
theorem one_num8 : numberR oneC ⟨#[49, 52]⟩ = ((8 : Nat) : Int) := by decide +kernel
theorem one_vR : vR ⟨#[52]⟩ = true ∧ vR ⟨#[49, 52]⟩ = true := by decide +kernel
theorem one_number : numberF oneC ⟨#[52]⟩ = (⟨#[51]⟩, 0) := by
  unfold numberF
  rw [if_pos ⟨by rw [one_check], one_vR.1⟩, one_num3, rS_one (by decide)]
  rfl
theorem one_take1 : takeF [oneC] (startF [oneC]) 4 10 ⟨#[52]⟩ = .ok [⟨4, 10, 1, ⟨#[51]⟩⟩] := by
  have f : fitsF [oneC] (startF [oneC]) = true := by decide +kernel
  have q : qualF oneC ⟨4, 0, 0, ⟨#[48]⟩⟩ (((3 : Nat) : Int) : Rat) 10 = 1 := by decide +kernel
  unfold takeF
  rw [if_pos ⟨by rw [one_check], f, one_vR.1⟩]
  show (if (0 : Int) ≤ 10 ∧ (10 : Int) ≤ 1073741824 then _ else _) = _
  rw [if_pos (by decide)]
  show (if (10 : Int) < 0 then _ else Except.ok (([⟨4, 0, 0, ⟨#[48]⟩⟩] : List Va).set 0 ⟨4, 10, qualF oneC ⟨4, 0, 0, ⟨#[48]⟩⟩ (numberR oneC ⟨#[52]⟩) 10, rS (numberR oneC ⟨#[52]⟩)⟩)) = _
  rw [if_neg (by decide), one_num3, q, rS_one (by decide)]
  rfl
theorem one_take2 : takeF [oneC] [⟨4, 10, 1, ⟨#[51]⟩⟩] 4 11 ⟨#[49, 52]⟩ = .ok [⟨4, 11, 3, ⟨#[56]⟩⟩] := by
  have f : fitsF [oneC] [⟨4, 10, 1, ⟨#[51]⟩⟩] = true := by decide +kernel
  have q : qualF oneC ⟨4, 10, 1, ⟨#[51]⟩⟩ (((8 : Nat) : Int) : Rat) 11 = 3 := by decide +kernel
  unfold takeF
  rw [if_pos ⟨by rw [one_check], f, one_vR.2⟩]
  show (if (0 : Int) ≤ 11 ∧ (11 : Int) ≤ 1073741824 then _ else _) = _
  rw [if_pos (by decide)]
  show (if (11 : Int) < 10 then _ else Except.ok (([⟨4, 10, 1, ⟨#[51]⟩⟩] : List Va).set 0 ⟨4, 11, qualF oneC ⟨4, 10, 1, ⟨#[51]⟩⟩ (numberR oneC ⟨#[49, 52]⟩) 11, rS (numberR oneC ⟨#[49, 52]⟩)⟩)) = _
  rw [if_neg (by decide), one_num8, q, rS_one (by decide)]
  rfl
theorem one_see : seeF [⟨4, 10, 1, ⟨#[51]⟩⟩] 16 5 = .ok [⟨4, 10, 4, ⟨#[51]⟩⟩] := by
  unfold seeF
  rw [if_neg (by decide), if_pos (by decide)]
  rfl
abbrev threeV : List Va := [⟨0, 0, 1, ⟨#[51]⟩⟩, ⟨0, 0, 1, ⟨#[53]⟩⟩, ⟨0, 0, 1, ⟨#[52]⟩⟩]
theorem one_vote : voteF threeV ⟨#[49]⟩ = (⟨#[52]⟩, true, 0) := by
  have h1 : vR ⟨#[49]⟩ = true ∧ ¬ qR ⟨#[49]⟩ < 0 ∧ (threeV.any fun x => !vR x.num) = false := by decide +kernel
  have h2 : midF threeV = some (((4 : Nat) : Int) : Rat) := by decide +kernel
  have h3 : (!((srtF threeV).any fun x => decide (qR ⟨#[49]⟩ < absR (x - (((4 : Nat) : Int) : Rat))))) = true := by decide +kernel
  unfold voteF
  rw [if_pos h1, if_neg (by decide), h2]
  simp only
  rw [h3, rS_one (by decide)]
  rfl
end Go.Proofs.YtdoailkigecmkaaGreatDoor.B

set_option maxRecDepth 100000
namespace Go.Proofs.YtdoailkigecmkaaGreatDoor.F
open Go Go.RowKit Go.Proofs Go.Proofs.YtdoailkigecmkaaGreatDoor.Vc
noncomputable def garboardlaw55_SensorChecks.cx (w : World) (B : Nat) (R : Value → World → Prop) : Cx := ⟨Tryz.prog, 3, 68, Tryz.f3.results.toList, [], [(11, 1, 5)], w, B, R⟩
theorem garboardlaw55_SensorChecks.vc (Ap0 : Option Addr) (np0 cp0 : Nat) (sp1 : ByteArray) (w : World) (R : Value → World → Prop)
    (h : (∀ w1, Ext w.heap.size [] w w1 → (Pure Tryz.prog 10 #[] w1 fun r3 w4 => ∃ (b2 : Bool), r3 = (.bool b2) ∧ (((b2 = false) → (R (.bool false) w4)) ∧ (¬ (b2 = false) → (Pure Tryz.prog 11 #[(.slice Ap0 np0 cp0), (.slice none 0 0)] w4 fun r6 w7 => ∃ (b5 : Bool), r6 = (.bool b5) ∧ (((b5 = false) → (R (.bool true) w7)) ∧ (¬ (b5 = false) → (((((ByteArray.size sp1 : Int) : Int) > (40 : Int)) → (R (.bool true) w7)) ∧ (¬ (((ByteArray.size sp1 : Int) : Int) > (40 : Int)) → (Pure Tryz.prog 13 #[(.slice Ap0 np0 cp0)] w7 fun r9 w10 => ∃ (A8 : Option Addr) (n8 c8 : Nat), r9 = (.slice A8 n8 c8) ∧ (Pure Tryz.prog 12 #[(.slice A8 n8 c8)] w10 fun r13 w14 => ∃ (i11 : Int) (i12 : Int), r13 = (.tuple #[(.int .i64 i11), (.int .i64 i12)]) ∧ (Pure Tryz.prog 14 #[(.slice Ap0 np0 cp0)] w14 fun r17 w18 => ∃ (i15 : Int) (i16 : Int), r17 = (.tuple #[(.int .i64 i15), (.int .i64 i16)]) ∧ (Pure Tryz.prog 13 #[(.slice Ap0 np0 cp0)] w18 fun r20 w21 => ∃ (A19 : Option Addr) (n19 c19 : Nat), r20 = (.slice A19 n19 c19) ∧ (Pure Tryz.prog 15 #[(.slice A19 n19 c19)] w21 fun r24 w25 => ∃ (A22 : Option Addr) (n22 c22 : Nat) (i23 : Int), r24 = (.tuple #[(.slice A22 n22 c22), (.int .i64 i23)]) ∧ (Pure Tryz.prog 16 #[(.slice Ap0 np0 cp0)] w25 fun r28 w29 => ∃ (A26 : Option Addr) (n26 c26 : Nat) (i27 : Int), r28 = (.tuple #[(.slice A26 n26 c26), (.int .i64 i27)]) ∧ ((((i11 : Int) ≠ i15) → (R (.bool false) w29)) ∧ (¬ ((i11 : Int) ≠ i15) → ((((i12 : Int) ≠ i16) → (R (.bool false) w29)) ∧ (¬ ((i12 : Int) ≠ i16) → (Pure Tryz.prog 17 #[(.slice A22 n22 c22), (.slice A26 n26 c26)] w29 fun r31 w32 => ∃ (b30 : Bool), r31 = (.bool b30) ∧ (((b30 = false) → (R (.bool false) w32)) ∧ (¬ (b30 = false) → ((((i23 : Int) ≠ i27) → (R (.bool false) w32)) ∧ (¬ ((i23 : Int) ≠ i27) → (∀ p33 : Nat, w.heap.size ≤ p33 → w32.heap[p33]? = some (.cells [(.string sp1)].toArray 23 (0, 0)) → (Pure Tryz.prog 18 #[(.slice Ap0 np0 cp0), (.func (.func 19) #[] #[(.pointer (some (⟨p33, 0, none⟩ : Addr)))])] w32 fun r35 w36 => ∃ (b34 : Bool), r35 = (.bool b34) ∧ (R (.bool (decide (b34 = false))) w36)))))))))))))))))))))))))))) :
    Pure Tryz.prog 3 #[(.slice Ap0 np0 cp0), (.string sp1)] w R :=
  pure_of_run (garboardlaw55_SensorChecks.cx w w.heap.size R) 100000 follows Tryz.func3 rfl rfl rfl rfl rfl rfl rfl (Eq.mp (by kernel_rfl) h)

noncomputable def garboardlaw55_SensorTakes.cx (w : World) (B : Nat) (R : Value → World → Prop) : Cx := ⟨Tryz.prog, 4, 47, Tryz.f4.results.toList, [], [], w, B, R⟩
theorem garboardlaw55_SensorTakes.vc (Ap0 : Option Addr) (np0 cp0 : Nat) (Ap1 : Option Addr) (np1 cp1 : Nat) (ip2_0 : Int) (ip2_1 : Int) (sp2_2 : ByteArray) (w : World) (R : Value → World → Prop)
    (h : (∀ w1, Ext w.heap.size [] w w1 → (Pure Tryz.prog 10 #[] w1 fun r3 w4 => ∃ (b2 : Bool), r3 = (.bool b2) ∧ (((b2 = false) → (R (.bool false) w4)) ∧ (¬ (b2 = false) → (Pure Tryz.prog 11 #[(.slice Ap0 np0 cp0), (.slice Ap1 np1 cp1)] w4 fun r6 w7 => ∃ (b5 : Bool), r6 = (.bool b5) ∧ (((b5 = false) → (R (.bool true) w7)) ∧ (¬ (b5 = false) → (((((ByteArray.size sp2_2 : Int) : Int) > (40 : Int)) → (R (.bool true) w7)) ∧ (¬ (((ByteArray.size sp2_2 : Int) : Int) > (40 : Int)) → (∀ w8, Ext w.heap.size [] w7 w8 → (Pure Tryz.prog 13 #[(.slice Ap0 np0 cp0)] w8 fun r10 w11 => ∃ (A9 : Option Addr) (n9 c9 : Nat), r10 = (.slice A9 n9 c9) ∧ (Pure Tryz.prog 23 #[(.slice Ap1 np1 cp1)] w11 fun r13 w14 => ∃ (A12 : Option Addr) (n12 c12 : Nat), r13 = (.slice A12 n12 c12) ∧ (Pure Tryz.prog 22 #[(.slice A9 n9 c9), (.slice A12 n12 c12), (.agg #[(.int .i64 ip2_0), (.int .i64 ip2_1), (.string sp2_2)])] w14 fun r17 w18 => ∃ (A15 : Option Addr) (n15 c15 : Nat) (i16 : Int), r17 = (.tuple #[(.slice A15 n15 c15), (.int .i64 i16)]) ∧ (Pure Tryz.prog 24 #[(.slice Ap0 np0 cp0), (.slice Ap1 np1 cp1), (.agg #[(.int .i64 ip2_0), (.int .i64 ip2_1), (.string sp2_2)])] w18 fun r21 w22 => ∃ (A19 : Option Addr) (n19 c19 : Nat) (i20 : Int), r21 = (.tuple #[(.slice A19 n19 c19), (.int .i64 i20)]) ∧ (Pure Tryz.prog 17 #[(.slice A15 n15 c15), (.slice A19 n19 c19)] w22 fun r24 w25 => ∃ (b23 : Bool), r24 = (.bool b23) ∧ ((b23 = true → (R (.bool (decide ((i16 : Int) = i20))) w25)) ∧ (b23 = false → (R (.bool false) w25))))))))))))))))))) :
    Pure Tryz.prog 4 #[(.slice Ap0 np0 cp0), (.slice Ap1 np1 cp1), (.agg #[(.int .i64 ip2_0), (.int .i64 ip2_1), (.string sp2_2)])] w R :=
  pure_of_run (garboardlaw55_SensorTakes.cx w w.heap.size R) 100000 follows Tryz.func4 rfl rfl rfl rfl rfl rfl rfl (Eq.mp (by kernel_rfl) h)

noncomputable def garboardlaw55_SensorVotes.cx (w : World) (B : Nat) (R : Value → World → Prop) : Cx := ⟨Tryz.prog, 5, 82, Tryz.f5.results.toList, [], [], w, B, R⟩
theorem garboardlaw55_SensorVotes.vc (Ap0 : Option Addr) (np0 cp0 : Nat) (ip1 : Int) (ip2 : Int) (sp3 : ByteArray) (w : World) (R : Value → World → Prop)
    (h : (Pure Tryz.prog 10 #[] w fun r2 w3 => ∃ (b1 : Bool), r2 = (.bool b1) ∧ (((b1 = false) → (R (.bool false) w3)) ∧ (¬ (b1 = false) → (Pure Tryz.prog 11 #[(.slice none 0 0), (.slice Ap0 np0 cp0)] w3 fun r5 w6 => ∃ (b4 : Bool), r5 = (.bool b4) ∧ (((b4 = false) → (R (.bool true) w6)) ∧ (¬ (b4 = false) → (((((ByteArray.size sp3 : Int) : Int) > (40 : Int)) → (R (.bool true) w6)) ∧ (¬ (((ByteArray.size sp3 : Int) : Int) > (40 : Int)) → (Pure Tryz.prog 23 #[(.slice Ap0 np0 cp0)] w6 fun r8 w9 => ∃ (A7 : Option Addr) (n7 c7 : Nat), r8 = (.slice A7 n7 c7) ∧ (Pure Tryz.prog 25 #[(.slice A7 n7 c7), (.int .i64 ip1), (.int .i64 ip2)] w9 fun r12 w13 => ∃ (A10 : Option Addr) (n10 c10 : Nat) (i11 : Int), r12 = (.tuple #[(.slice A10 n10 c10), (.int .i64 i11)]) ∧ (Pure Tryz.prog 26 #[(.slice Ap0 np0 cp0), (.int .i64 ip1), (.int .i64 ip2)] w13 fun r16 w17 => ∃ (A14 : Option Addr) (n14 c14 : Nat) (i15 : Int), r16 = (.tuple #[(.slice A14 n14 c14), (.int .i64 i15)]) ∧ (Pure Tryz.prog 23 #[(.slice Ap0 np0 cp0)] w17 fun r19 w20 => ∃ (A18 : Option Addr) (n18 c18 : Nat), r19 = (.slice A18 n18 c18) ∧ (Pure Tryz.prog 27 #[(.slice A18 n18 c18), (.string sp3)] w20 fun r24 w25 => ∃ (s21 : ByteArray) (b22 : Bool) (i23 : Int), r24 = (.tuple #[(.string s21), (.bool b22), (.int .i64 i23)]) ∧ (Pure Tryz.prog 28 #[(.slice Ap0 np0 cp0), (.string sp3)] w25 fun r29 w30 => ∃ (s26 : ByteArray) (b27 : Bool) (i28 : Int), r29 = (.tuple #[(.string s26), (.bool b27), (.int .i64 i28)]) ∧ (Pure Tryz.prog 17 #[(.slice A10 n10 c10), (.slice A14 n14 c14)] w30 fun r32 w33 => ∃ (b31 : Bool), r32 = (.bool b31) ∧ ((b31 = true → ((((i11 : Int) = i15) → (((s21 = s26) → ((((b22 : Bool) = b27) → (R (.bool (decide ((i23 : Int) = i28))) w33)) ∧ (¬ ((b22 : Bool) = b27) → (R (.bool false) w33)))) ∧ (¬ (s21 = s26) → (R (.bool false) w33)))) ∧ (¬ ((i11 : Int) = i15) → (R (.bool false) w33)))) ∧ (b31 = false → (R (.bool false) w33))))))))))))))))))) :
    Pure Tryz.prog 5 #[(.slice Ap0 np0 cp0), (.int .i64 ip1), (.int .i64 ip2), (.string sp3)] w R :=
  pure_of_run (garboardlaw55_SensorVotes.cx w w.heap.size R) 100000 follows Tryz.func5 rfl rfl rfl rfl rfl rfl rfl (Eq.mp (by kernel_rfl) h)

noncomputable def garboardlaw55_awake.cx (w : World) (B : Nat) (R : Value → World → Prop) : Cx := ⟨Tryz.prog, 10, 139, Tryz.f10.results.toList, [], [(6, 3, 2), (8, 33, 2)], w, B, R⟩
theorem garboardlaw55_awake.vc  (w : World) (R : Value → World → Prop)
    (h : (Pure Tryz.prog 42 #[] w fun r2 w3 => ∃ (A1 : Option Addr) (n1 c1 : Nat), r2 = (.slice A1 n1 c1) ∧ (Pure Tryz.prog 15 #[(.slice A1 n1 c1)] w3 fun r6 w7 => ∃ (A4 : Option Addr) (n4 c4 : Nat) (i5 : Int), r6 = (.tuple #[(.slice A4 n4 c4), (.int .i64 i5)]) ∧ (Pure Tryz.prog 42 #[] w7 fun r9 w10 => ∃ (A8 : Option Addr) (n8 c8 : Nat), r9 = (.slice A8 n8 c8) ∧ (Pure Tryz.prog 22 #[(.slice A8 n8 c8), (.slice A4 n4 c4), (.agg #[(.int .i64 (4 : Int)), (.int .i64 (10 : Int)), (.string (⟨#[52]⟩ : ByteArray))])] w10 fun r13 w14 => ∃ (A11 : Option Addr) (n11 c11 : Nat) (i12 : Int), r13 = (.tuple #[(.slice A11 n11 c11), (.int .i64 i12)]) ∧ (Pure Tryz.prog 42 #[] w14 fun r16 w17 => ∃ (A15 : Option Addr) (n15 c15 : Nat), r16 = (.slice A15 n15 c15) ∧ (Pure Tryz.prog 22 #[(.slice A15 n15 c15), (.slice A11 n11 c11), (.agg #[(.int .i64 (4 : Int)), (.int .i64 (11 : Int)), (.string (⟨#[49, 52]⟩ : ByteArray))])] w17 fun r20 w21 => ∃ (A18 : Option Addr) (n18 c18 : Nat) (i19 : Int), r20 = (.tuple #[(.slice A18 n18 c18), (.int .i64 i19)]) ∧ (Pure Tryz.prog 25 #[(.slice A11 n11 c11), (.int .i64 (16 : Int)), (.int .i64 (5 : Int))] w21 fun r24 w25 => ∃ (A22 : Option Addr) (n22 c22 : Nat) (i23 : Int), r24 = (.tuple #[(.slice A22 n22 c22), (.int .i64 i23)]) ∧ (Pure Tryz.prog 42 #[] w25 fun r27 w28 => ∃ (A26 : Option Addr) (n26 c26 : Nat), r27 = (.slice A26 n26 c26) ∧ ((0 ≤ (0 : Int) ∧ (0 : Int) < n26) ∧ ∃ a29, A26 = some a29 ∧ (∃ (i30 : Int) (s31 : ByteArray) (s32 : ByteArray) (s33 : ByteArray) (s34 : ByteArray) (s35 : ByteArray) (s36 : ByteArray), CellsAt w28 (a29.add (((0 : Int)).toNat * 7)) [(.int .i64 i30), (.string s31), (.string s32), (.string s33), (.string s34), (.string s35), (.string s36)] ∧ (Pure Tryz.prog 20 #[(.agg #[(.int .i64 i30), (.string s31), (.string s32), (.string s33), (.string s34), (.string s35), (.string s36)]), (.string (⟨#[52]⟩ : ByteArray))] w28 fun r39 w40 => ∃ (s37 : ByteArray) (i38 : Int), r39 = (.tuple #[(.string s37), (.int .i64 i38)]) ∧ (RunOk Tryz.prog (Instr.buildSlice 32 3 #[(0, (.agg #[(.int .i64 (0 : Int)), (.int .i64 (0 : Int)), (.int .i64 (1 : Int)), (.string (⟨#[51]⟩ : ByteArray))])), (1, (.agg #[(.int .i64 (0 : Int)), (.int .i64 (0 : Int)), (.int .i64 (1 : Int)), (.string (⟨#[53]⟩ : ByteArray))])), (2, (.agg #[(.int .i64 (0 : Int)), (.int .i64 (0 : Int)), (.int .i64 (1 : Int)), (.string (⟨#[52]⟩ : ByteArray))]))]) w.heap.size [] w40 fun r42 w43 => ∃ (A41 : Option Addr) (n41 c41 : Nat), r42 = (.slice A41 n41 c41) ∧ (Pure Tryz.prog 27 #[(.slice A41 n41 c41), (.string (⟨#[49]⟩ : ByteArray))] w43 fun r47 w48 => ∃ (s44 : ByteArray) (b45 : Bool) (i46 : Int), r47 = (.tuple #[(.string s44), (.bool b45), (.int .i64 i46)]) ∧ (Pure Tryz.prog 42 #[] w48 fun r50 w51 => ∃ (A49 : Option Addr) (n49 c49 : Nat), r50 = (.slice A49 n49 c49) ∧ (Pure Tryz.prog 12 #[(.slice A49 n49 c49)] w51 fun r54 w55 => ∃ (i52 : Int) (i53 : Int), r54 = (.tuple #[(.int .i64 i52), (.int .i64 i53)]) ∧ ((((i5 : Int) = (0 : Int)) → ((((i12 : Int) = (0 : Int)) → ((((i19 : Int) = (0 : Int)) → ((((i23 : Int) = (0 : Int)) → ((((i38 : Int) = (0 : Int)) → ((((i46 : Int) = (0 : Int)) → ((((i53 : Int) = (0 : Int)) → ((((i52 : Int) = (-1 : Int)) → (RunOk Tryz.prog (Instr.buildSlice 32 1 #[(0, (.agg #[(.int .i64 (4 : Int)), (.int .i64 (10 : Int)), (.int .i64 (1 : Int)), (.string (⟨#[51]⟩ : ByteArray))]))]) w.heap.size [] w55 fun r57 w58 => ∃ (A56 : Option Addr) (n56 c56 : Nat), r57 = (.slice A56 n56 c56) ∧ (Pure Tryz.prog 43 #[(.slice A11 n11 c11), (.slice A56 n56 c56)] w58 fun r60 w61 => ∃ (b59 : Bool), r60 = (.bool b59) ∧ ((b59 = true → (((((n18 : Int) : Int) = (1 : Int)) → ((0 ≤ (0 : Int) ∧ (0 : Int) < n18) ∧ ∃ a62, A18 = some a62 ∧ (∃ (i63 : Int), CellsAt w61 ((a62.add (((0 : Int)).toNat * 4)).add 2) [(.int .i64 i63)] ∧ ((((i63 : Int) = (3 : Int)) → ((0 ≤ (0 : Int) ∧ (0 : Int) < n18) ∧ ∃ a64, A18 = some a64 ∧ (∃ (s65 : ByteArray), CellsAt w61 ((a64.add (((0 : Int)).toNat * 4)).add 3) [(.string s65)] ∧ (((s65 = (⟨#[56]⟩ : ByteArray)) → (((((n22 : Int) : Int) = (1 : Int)) → ((0 ≤ (0 : Int) ∧ (0 : Int) < n22) ∧ ∃ a66, A22 = some a66 ∧ (∃ (i67 : Int), CellsAt w61 ((a66.add (((0 : Int)).toNat * 4)).add 2) [(.int .i64 i67)] ∧ ((((i67 : Int) = (4 : Int)) → (((s37 = (⟨#[51]⟩ : ByteArray)) → (((s44 = (⟨#[52]⟩ : ByteArray)) → (R (.bool b45) w61)) ∧ (¬ (s44 = (⟨#[52]⟩ : ByteArray)) → (R (.bool false) w61)))) ∧ (¬ (s37 = (⟨#[51]⟩ : ByteArray)) → (R (.bool false) w61)))) ∧ (¬ ((i67 : Int) = (4 : Int)) → (R (.bool false) w61)))))) ∧ (¬ (((n22 : Int) : Int) = (1 : Int)) → (R (.bool false) w61)))) ∧ (¬ (s65 = (⟨#[56]⟩ : ByteArray)) → (R (.bool false) w61)))))) ∧ (¬ ((i63 : Int) = (3 : Int)) → (R (.bool false) w61)))))) ∧ (¬ (((n18 : Int) : Int) = (1 : Int)) → (R (.bool false) w61)))) ∧ (b59 = false → (R (.bool false) w61)))))) ∧ (¬ ((i52 : Int) = (-1 : Int)) → (R (.bool false) w55)))) ∧ (¬ ((i53 : Int) = (0 : Int)) → (R (.bool false) w55)))) ∧ (¬ ((i46 : Int) = (0 : Int)) → (R (.bool false) w55)))) ∧ (¬ ((i38 : Int) = (0 : Int)) → (R (.bool false) w55)))) ∧ (¬ ((i23 : Int) = (0 : Int)) → (R (.bool false) w55)))) ∧ (¬ ((i19 : Int) = (0 : Int)) → (R (.bool false) w55)))) ∧ (¬ ((i12 : Int) = (0 : Int)) → (R (.bool false) w55)))) ∧ (¬ ((i5 : Int) = (0 : Int)) → (R (.bool false) w55))))))))))))))))))) :
    Pure Tryz.prog 10 #[] w R :=
  pure_of_run (garboardlaw55_awake.cx w w.heap.size R) 100000 follows Tryz.func10 rfl rfl rfl rfl rfl rfl rfl (Eq.mp (by kernel_rfl) h)

noncomputable def garboardlaw55_SensorChecks_c1.cx (w : World) (B : Nat) (R : Value → World → Prop) : Cx := ⟨Tryz.prog, 19, 28, Tryz.f19.results.toList, [], [], w, B, R⟩
theorem garboardlaw55_SensorChecks_c1.vc (ip0_0 : Int) (sp0_1 : ByteArray) (sp0_2 : ByteArray) (sp0_3 : ByteArray) (sp0_4 : ByteArray) (sp0_5 : ByteArray) (sp0_6 : ByteArray) (q0 : Addr) (w : World) (R : Value → World → Prop)
    (h : (∀ w1, Ext w.heap.size [] w w1 → (∃ (s2 : ByteArray), CellsAt w1 q0 [(.string s2)] ∧ (Pure Tryz.prog 20 #[(.agg #[(.int .i64 ip0_0), (.string sp0_1), (.string sp0_2), (.string sp0_3), (.string sp0_4), (.string sp0_5), (.string sp0_6)]), (.string s2)] w1 fun r5 w6 => ∃ (s3 : ByteArray) (i4 : Int), r5 = (.tuple #[(.string s3), (.int .i64 i4)]) ∧ (∃ (s7 : ByteArray), CellsAt w6 q0 [(.string s7)] ∧ (Pure Tryz.prog 21 #[(.agg #[(.int .i64 ip0_0), (.string sp0_1), (.string sp0_2), (.string sp0_3), (.string sp0_4), (.string sp0_5), (.string sp0_6)]), (.string s7)] w6 fun r10 w11 => ∃ (s8 : ByteArray) (i9 : Int), r10 = (.tuple #[(.string s8), (.int .i64 i9)]) ∧ (((s3 ≠ s8) → (R (.bool true) w11)) ∧ (¬ (s3 ≠ s8) → (R (.bool (decide ((i4 : Int) ≠ i9))) w11))))))))) :
    Pure Tryz.prog 19 #[(.agg #[(.int .i64 ip0_0), (.string sp0_1), (.string sp0_2), (.string sp0_3), (.string sp0_4), (.string sp0_5), (.string sp0_6)]), (.pointer (some q0))] w R :=
  pure_of_run (garboardlaw55_SensorChecks_c1.cx w w.heap.size R) 100000 follows Tryz.func19 rfl rfl rfl rfl rfl rfl rfl (Eq.mp (by kernel_rfl) h)

noncomputable def garboardlaw55_One.cx (w : World) (B : Nat) (R : Value → World → Prop) : Cx := ⟨Tryz.prog, 42, 3, Tryz.f42.results.toList, [], [(1, 1, 2)], w, B, R⟩
theorem garboardlaw55_One.vc  (w : World) (R : Value → World → Prop)
    (h : (RunOk Tryz.prog (Instr.buildSlice 22 1 #[(0, (.agg #[(.int .i64 (4 : Int)), (.string (⟨#[100, 114, 97, 102, 116]⟩ : ByteArray)), (.string (⟨#[49, 47, 50]⟩ : ByteArray)), (.string (⟨#[49]⟩ : ByteArray)), (.string (⟨#[48]⟩ : ByteArray)), (.string (⟨#[49, 48]⟩ : ByteArray)), (.string (⟨#[50]⟩ : ByteArray))]))]) w.heap.size [] w fun r2 w3 => ∃ (A1 : Option Addr) (n1 c1 : Nat), r2 = (.slice A1 n1 c1) ∧ (R (.slice A1 n1 c1) w3))) :
    Pure Tryz.prog 42 #[] w R :=
  pure_of_run (garboardlaw55_One.cx w w.heap.size R) 100000 follows Tryz.func42 rfl rfl rfl rfl rfl rfl rfl (Eq.mp (by kernel_rfl) h)

end Go.Proofs.YtdoailkigecmkaaGreatDoor.F

namespace Go.Proofs.YtdoailkigecmkaaGreatDoor.B
open Go Go.RowKit Go.Proofs Go.Proofs.YtdoailkigecmkaaGreatDoor.Vc

theorem law_One (w : World) : Pure Tryz.prog 42 #[] w fun v w' => ∃ A c, v = .slice A 1 c ∧ OwnR w' w.heap.size 31 A 1 c 7 [oneC.row] := by
  refine F.garboardlaw55_One.vc _ _ ?_
  refine runOk_lit el_Chs [oneC.val] (by simp [Value.cells]) (by simp) (Nat.le_refl _) fun A c w2 ho b2 => ⟨A, c, rfl, ?_⟩
  exact ho

theorem EqualV {w0 : World} {A A1 : Option Addr} {n c c1 : Nat} {v : List Va} (h : SlR w0 A 4 (v.map Va.row)) (h1 : SlR w0 A1 4 (v.map Va.row)) (hlen : v.length = n) (hn : n < 2147483648) :
    Pure Tryz.prog 43 #[.slice A n c, .slice A1 n c1] w0 fun y _ => y = .bool true := by
  have key : ∀ (d i : Nat) (w : World), n - i = d → i ≤ n → Below w0.heap.size w0 w → F.slices_Equal_api_Value_api_Value.L4 A n c A1 n c1 n i w0.heap.size w fun y _ => y = .bool true := by
    intro d
    induction d with
    | zero => intro i w hd hi hw; exact F.slices_Equal_api_Value_api_Value.L4.step _ _ _ _ _ _ _ _ _ _ _ ⟨fun h => by omega, fun _ => rfl⟩
    | succ d ih =>
      intro i w hd hi hw
      have hil : i < v.length := by omega
      obtain ⟨hb, a, hA, hrow⟩ := (h.keep hw (Nat.le_refl _)).load (n := n) (by simpa using hlen) (j := (i : Int)) (by omega) (by omega)
      obtain ⟨hcell, _⟩ := hrow v[i].row (by rw [Int.toNat_natCast]; simp [hil]) rfl
      obtain ⟨hb2, a2, hA2, hrow2⟩ := (h1.keep hw (Nat.le_refl _)).load (n := n) (by simpa using hlen) (j := (i : Int)) (by omega) (by omega)
      obtain ⟨hcell2, _⟩ := hrow2 v[i].row (by rw [Int.toNat_natCast]; simp [hil]) rfl
      refine F.slices_Equal_api_Value_api_Value.L4.step _ _ _ _ _ _ _ _ _ _ _ ⟨fun _ => ⟨hb, a, hA, _, _, _, _, hcell, hb2, a2, hA2, _, _, _, _, hcell2, fun k => absurd ⟨rfl, rfl, rfl, rfl, trivial⟩ k, fun _ => ⟨by simp only [inR]; omega, fun w2 x2 => ?_⟩⟩, fun h => by omega⟩
      have e3 : (i : Int) + 1 = ((i + 1 : Nat) : Int) := by omega
      rw [e3]
      exact ih (i + 1) w2 (by omega) (by omega) (kE hw x2)
  exact F.slices_Equal_api_Value_api_Value.vc _ _ _ _ _ _ _ _ ⟨fun h => absurd rfl h, fun _ => key n 0 w0 rfl (by omega) (Below.refl _ _)⟩

theorem smC_one : ∀ x ∈ [oneC], SmC x := by
  intro x hx
  rw [List.mem_singleton] at hx
  subst hx
  exact ⟨by decide, by unfold SmS; decide, by unfold SmS; decide, by unfold SmS; decide, by unfold SmS; decide, by unfold SmS; decide⟩

set_option maxRecDepth 4000 in
theorem law_awake {w : World} (hg : Glob w) : Pure Tryz.prog 10 #[] w fun v _ => v = .bool true := by
  have sV : ∀ (a b q : Int) (s : ByteArray), SmS s → ∀ x ∈ ([⟨a, b, q, s⟩] : List Va), SmV x := by
    intro a b q s hs x hx
    rw [List.mem_singleton] at hx
    subst hx
    exact hs
  refine F.garboardlaw55_awake.vc _ _ (Pure.mono (law_One w) ?_)
  rintro y w1 b1 ⟨A1, c1, rfl, o1⟩
  have g1 := hg.next b1
  refine ⟨_, _, _, rfl, Pure.mono (sensor_Start g1 (l := [oneC]) o1.sl rfl smC_one) ?_⟩
  rintro y w2 b2 ⟨_, k2⟩
  obtain ⟨A2, c2, rfl, o2⟩ := k2 (by rw [one_check])
  have g2 := g1.next b2
  refine ⟨_, _, _, _, rfl, Pure.mono (law_One w2) ?_⟩
  rintro y w3 b3 ⟨A3, c3, rfl, o3⟩
  have g3 := g2.next b3
  refine ⟨_, _, _, rfl, Pure.mono (sensor_Take g3 (l := [oneC]) (v := startF [oneC]) (chan := 4) (tick := 10) (raw := ⟨#[52]⟩) o3.sl rfl (o2.below b3).sl rfl (by omega) smC_one (sV _ _ _ _ (by unfold SmS; decide)) (by unfold SmS; decide)) ?_⟩
  rintro y w4 b4 k4
  rw [one_take1] at k4
  obtain ⟨A4, c4, rfl, o4⟩ := k4
  have g4 := g3.next b4
  refine ⟨_, _, _, _, rfl, Pure.mono (law_One w4) ?_⟩
  rintro y w5 b5 ⟨A5, c5, rfl, o5⟩
  have g5 := g4.next b5
  have o4a := o4.below b5
  refine ⟨_, _, _, rfl, Pure.mono (sensor_Take g5 (l := [oneC]) (v := [⟨4, 10, 1, ⟨#[51]⟩⟩]) (chan := 4) (tick := 11) (raw := ⟨#[49, 52]⟩) o5.sl rfl o4a.sl rfl (by omega) smC_one (sV _ _ _ _ (by unfold SmS; decide)) (by unfold SmS; decide)) ?_⟩
  rintro y w6 b6 k6
  rw [one_take2] at k6
  obtain ⟨A6, c6, rfl, o6⟩ := k6
  have g6 := g5.next b6
  have o4b := o4a.below b6
  refine ⟨_, _, _, _, rfl, Pure.mono (sensor_See (v := [⟨4, 10, 1, ⟨#[51]⟩⟩]) (at_ := 16) (hold := 5) o4b.sl rfl) ?_⟩
  rintro y w7 b7 k7
  rw [one_see] at k7
  obtain ⟨A7, c7, rfl, o7⟩ := k7
  have g7 := g6.next b7
  have o4c := o4b.below b7
  have o6a := o6.below b7
  refine ⟨_, _, _, _, rfl, Pure.mono (law_One w7) ?_⟩
  rintro y w8 b8 ⟨A8, c8, rfl, o8⟩
  have g8 := g7.next b8
  have o4d := o4c.below b8
  have o6b := o6a.below b8
  have o7a := o7.below b8
  obtain ⟨hb, a, hA, hrow⟩ := o8.sl.load (n := 1) rfl (j := 0) (by omega) (by omega)
  obtain ⟨hcell, _⟩ := hrow _ rfl rfl
  refine ⟨_, _, _, rfl, hb, a, hA, _, _, _, _, _, _, _, hcell, Pure.mono (sensor_Number g8 (c := oneC) (raw := ⟨#[52]⟩) (smC_one _ (by simp)) (by unfold SmS; decide)) ?_⟩
  rintro y w9 b9 rfl
  rw [one_number]
  have g9 := g8.next b9
  have o4e := o4d.below b9
  have o6c := o6b.below b9
  have o7b := o7a.below b9
  have hb9 := kP (kP (kP (kP (kP (kP (kP (kP b1 b2) b3) b4) b5) b6) b7) b8) b9
  refine ⟨_, _, rfl, ?_⟩
  refine runOk_lit el_Vas (threeV.map Va.val) (by simp [threeV, Value.cells]) (by simp [threeV]) hb9.size fun A10 c10 w10 o10 b10 => ?_
  have g10 := g9.next b10
  have o4f := o4e.below b10
  have o6d := o6c.below b10
  have o7c := o7b.below b10
  have hb10 := kP hb9 b10
  refine Pure.mono (sensor_Vote g10 (v := threeV) (n := 3) (tol := ⟨#[49]⟩) o10.sl rfl (by omega) (fun x hx => ?_) (by unfold SmS; decide)) ?_
  · simp only [threeV, List.mem_cons, List.not_mem_nil, or_false] at hx
    rcases hx with rfl | rfl | rfl <;> (show SmS _; unfold SmS; decide)
  rintro y w11 b11 rfl
  rw [one_vote]
  have g11 := g10.next b11
  have o4g := o4f.below b11
  have o6e := o6d.below b11
  have o7d := o7c.below b11
  have hb11 := kP hb10 b11
  refine ⟨_, _, _, rfl, Pure.mono (law_One w11) ?_⟩
  rintro y w12 b12 ⟨A12, c12, rfl, o12⟩
  have g12 := g11.next b12
  have o4h := o4g.below b12
  have o6f := o6e.below b12
  have o7e := o7d.below b12
  have hb12 := kP hb11 b12
  refine ⟨_, _, _, rfl, Pure.mono (sensor_Check g12 (l := [oneC]) o12.sl rfl smC_one) ?_⟩
  rintro y w13 b13 rfl
  rw [one_check]
  have g13 := g12.next b13
  have o4i := o4h.below b13
  have o6g := o6f.below b13
  have o7f := o7e.below b13
  have hb13 := kP hb12 b13
  refine ⟨_, _, rfl, fun _ => ⟨fun _ => ⟨fun _ => ⟨fun _ => ⟨fun _ => ⟨fun _ => ⟨fun _ => ⟨fun _ => ?_, fun k => absurd rfl k⟩, fun k => absurd rfl k⟩, fun k => absurd rfl k⟩, fun k => absurd rfl k⟩, fun k => absurd rfl k⟩, fun k => absurd rfl k⟩, fun k => absurd rfl k⟩, fun k => absurd rfl k⟩
  refine runOk_lit el_Vas [(⟨4, 10, 1, ⟨#[51]⟩⟩ : Va).val] (by simp [Value.cells]) (by simp) hb13.size fun A14 c14 w14 o14 b14 => ?_
  have o4j := o4i.below b14
  have o6h := o6g.below b14
  have o7g := o7f.below b14
  refine Pure.mono (EqualV (v := [⟨4, 10, 1, ⟨#[51]⟩⟩]) o4j.sl o14.sl rfl (by omega)) ?_
  rintro y w15 b15 rfl
  have o6i := o6h.below b15
  have o7h := o7g.below b15
  obtain ⟨q1, a1, hA1, hrow1⟩ := o6i.sl.load (n := 1) rfl (j := 0) (by omega) (by omega)
  obtain ⟨_, hcell1⟩ := hrow1 _ rfl rfl
  obtain ⟨q2, a2, hA2, hrow2⟩ := o7h.sl.load (n := 1) rfl (j := 0) (by omega) (by omega)
  obtain ⟨_, hcell2⟩ := hrow2 _ rfl rfl
  refine ⟨_, rfl, fun _ => ⟨fun _ => ⟨q1, a1, hA1, _, hcell1 2 _ rfl, fun _ => ⟨q1, a1, hA1, _, hcell1 3 _ rfl, fun _ => ⟨fun _ => ⟨q2, a2, hA2, _, hcell2 2 _ rfl, fun _ => ⟨fun _ => ⟨fun _ => rfl, fun k => absurd rfl k⟩, fun k => absurd rfl k⟩, fun k => absurd rfl k⟩, fun k => absurd rfl k⟩, fun k => absurd rfl k⟩, fun k => absurd rfl k⟩, fun k => absurd rfl k⟩, fun k => by cases k⟩
end Go.Proofs.YtdoailkigecmkaaGreatDoor.B

set_option maxRecDepth 100000
namespace Go.Proofs.YtdoailkigecmkaaGreatDoor.F
open Go Go.RowKit Go.Proofs Go.Proofs.YtdoailkigecmkaaGreatDoor.Vc
def garboardref55_Few.L2 (Al0 : Option Addr) (nl0 cl0 : Nat) (Al1 : Option Addr) (nl1 cl1 : Nat) (il5 : Int) (B : Nat) (w : World) (R : Value → World → Prop) : Prop := At Tryz.prog 11 73 (loopAt Tryz.f11 2) [(0, .v (.slice Al0 nl0 cl0)), (1, .v (.slice Al1 nl1 cl1)), (5, .v (.int .i64 il5))] [] B w R
def garboardref55_Few.L8 (Al0 : Option Addr) (nl0 cl0 : Nat) (Al1 : Option Addr) (nl1 cl1 : Nat) (il7 : Int) (B : Nat) (w : World) (R : Value → World → Prop) : Prop := At Tryz.prog 11 73 (loopAt Tryz.f11 8) [(0, .v (.slice Al0 nl0 cl0)), (1, .v (.slice Al1 nl1 cl1)), (7, .v (.int .i64 il7))] [] B w R
noncomputable def garboardref55_Few.cx (w : World) (B : Nat) (R : Value → World → Prop) : Cx := ⟨Tryz.prog, 11, 73, Tryz.f11.results.toList, [((true, 2), [0, 1, 5], []), ((true, 8), [0, 1, 7], [])], [], w, B, R⟩
theorem garboardref55_Few.L2.step (Al0 : Option Addr) (nl0 cl0 : Nat) (Al1 : Option Addr) (nl1 cl1 : Nat) (il5 : Int) (B : Nat) (w : World) (R : Value → World → Prop)
    (h : ((((il5 : Int) < (nl0 : Int)) → ((0 ≤ il5 ∧ il5 < nl0) ∧ ∃ a1, Al0 = some a1 ∧ (∃ (i2 : Int) (s3 : ByteArray) (s4 : ByteArray) (s5 : ByteArray) (s6 : ByteArray) (s7 : ByteArray) (s8 : ByteArray), CellsAt w (a1.add ((il5).toNat * 7)) [(.int .i64 i2), (.string s3), (.string s4), (.string s5), (.string s6), (.string s7), (.string s8)] ∧ (((((ByteArray.size s3 : Int) : Int) > (70 : Int)) → (∀ w9, Ext B [] w w9 → (R (.bool false) w9))) ∧ (¬ (((ByteArray.size s3 : Int) : Int) > (70 : Int)) → (((((ByteArray.size s4 : Int) : Int) > (40 : Int)) → (∀ w10, Ext B [] w w10 → (R (.bool false) w10))) ∧ (¬ (((ByteArray.size s4 : Int) : Int) > (40 : Int)) → (((((ByteArray.size s5 : Int) : Int) > (40 : Int)) → (∀ w11, Ext B [] w w11 → (R (.bool false) w11))) ∧ (¬ (((ByteArray.size s5 : Int) : Int) > (40 : Int)) → (((((ByteArray.size s6 : Int) : Int) > (40 : Int)) → (∀ w12, Ext B [] w w12 → (R (.bool false) w12))) ∧ (¬ (((ByteArray.size s6 : Int) : Int) > (40 : Int)) → (((((ByteArray.size s7 : Int) : Int) > (40 : Int)) → (∀ w13, Ext B [] w w13 → (R (.bool false) w13))) ∧ (¬ (((ByteArray.size s7 : Int) : Int) > (40 : Int)) → (((((ByteArray.size s8 : Int) : Int) > (40 : Int)) → (∀ w14, Ext B [] w w14 → (R (.bool false) w14))) ∧ (¬ (((ByteArray.size s8 : Int) : Int) > (40 : Int)) → (inR .i64 (il5 + (1 : Int)) ∧ (∀ w15, Ext B [] w w15 → (garboardref55_Few.L2 Al0 nl0 cl0 Al1 nl1 cl1 (il5 + (1 : Int)) B w15 R)))))))))))))))))) ∧ (¬ ((il5 : Int) < (nl0 : Int)) → (garboardref55_Few.L8 Al0 nl0 cl0 Al1 nl1 cl1 (0 : Int) B w R)))) :
    garboardref55_Few.L2 Al0 nl0 cl0 Al1 nl1 cl1 il5 B w R :=
  loop_of_run (garboardref55_Few.cx w B R) 100000 (loopAt Tryz.f11 2) _ _ follows Tryz.func11 rfl rfl rfl (Eq.mp (by kernel_rfl) h)
theorem garboardref55_Few.L8.step (Al0 : Option Addr) (nl0 cl0 : Nat) (Al1 : Option Addr) (nl1 cl1 : Nat) (il7 : Int) (B : Nat) (w : World) (R : Value → World → Prop)
    (h : ((((il7 : Int) < (nl1 : Int)) → ((0 ≤ il7 ∧ il7 < nl1) ∧ ∃ a16, Al1 = some a16 ∧ (∃ (s17 : ByteArray), CellsAt w ((a16.add ((il7).toNat * 4)).add 3) [(.string s17)] ∧ (((((ByteArray.size s17 : Int) : Int) > (40 : Int)) → (R (.bool false) w)) ∧ (¬ (((ByteArray.size s17 : Int) : Int) > (40 : Int)) → (inR .i64 (il7 + (1 : Int)) ∧ (garboardref55_Few.L8 Al0 nl0 cl0 Al1 nl1 cl1 (il7 + (1 : Int)) B w R))))))) ∧ (¬ ((il7 : Int) < (nl1 : Int)) → (((((nl0 : Int) : Int) ≤ (17 : Int)) → (R (.bool (decide (((nl1 : Int) : Int) ≤ (17 : Int)))) w)) ∧ (¬ (((nl0 : Int) : Int) ≤ (17 : Int)) → (R (.bool false) w)))))) :
    garboardref55_Few.L8 Al0 nl0 cl0 Al1 nl1 cl1 il7 B w R :=
  loop_of_run (garboardref55_Few.cx w B R) 100000 (loopAt Tryz.f11 8) _ _ follows Tryz.func11 rfl rfl rfl (Eq.mp (by kernel_rfl) h)
theorem garboardref55_Few.vc (Ap0 : Option Addr) (np0 cp0 : Nat) (Ap1 : Option Addr) (np1 cp1 : Nat) (w : World) (R : Value → World → Prop)
    (h : (garboardref55_Few.L2 Ap0 np0 cp0 Ap1 np1 cp1 (0 : Int) w.heap.size w R)) :
    Pure Tryz.prog 11 #[(.slice Ap0 np0 cp0), (.slice Ap1 np1 cp1)] w R :=
  pure_of_run (garboardref55_Few.cx w w.heap.size R) 100000 follows Tryz.func11 rfl rfl rfl rfl rfl rfl rfl (Eq.mp (by kernel_rfl) h)

def garboardref55_Check.L4 (Al0 : Option Addr) (nl0 cl0 : Nat) (il4 : Int) (B : Nat) (w : World) (R : Value → World → Prop) : Prop := At Tryz.prog 14 22 (loopAt Tryz.f14 4) [(0, .v (.slice Al0 nl0 cl0)), (4, .v (.int .i64 il4))] [] B w R
noncomputable def garboardref55_Check.cx (w : World) (B : Nat) (R : Value → World → Prop) : Cx := ⟨Tryz.prog, 14, 22, Tryz.f14.results.toList, [((true, 4), [0, 4], [])], [], w, B, R⟩
theorem garboardref55_Check.L4.step (Al0 : Option Addr) (nl0 cl0 : Nat) (il4 : Int) (B : Nat) (w : World) (R : Value → World → Prop)
    (h : ((((il4 : Int) < (nl0 : Int)) → (Pure Tryz.prog 45 #[(.slice Al0 nl0 cl0), (.int .i64 il4)] w fun r2 w3 => ∃ (i1 : Int), r2 = (.int .i64 i1) ∧ ((((i1 : Int) ≠ (0 : Int)) → (R (.tuple #[(.int .i64 il4), (.int .i64 i1)]) w3)) ∧ (¬ ((i1 : Int) ≠ (0 : Int)) → (inR .i64 (il4 + (1 : Int)) ∧ (garboardref55_Check.L4 Al0 nl0 cl0 (il4 + (1 : Int)) B w3 R)))))) ∧ (¬ ((il4 : Int) < (nl0 : Int)) → (R (.tuple #[(.int .i64 (-1 : Int)), (.int .i64 (0 : Int))]) w)))) :
    garboardref55_Check.L4 Al0 nl0 cl0 il4 B w R :=
  loop_of_run (garboardref55_Check.cx w B R) 100000 (loopAt Tryz.f14 4) _ _ follows Tryz.func14 rfl rfl rfl (Eq.mp (by kernel_rfl) h)
theorem garboardref55_Check.vc (Ap0 : Option Addr) (np0 cp0 : Nat) (w : World) (R : Value → World → Prop)
    (h : (((((np0 : Int) : Int) > (16 : Int)) → (R (.tuple #[(.int .i64 (-1 : Int)), (.int .i64 (8 : Int))]) w)) ∧ (¬ (((np0 : Int) : Int) > (16 : Int)) → (garboardref55_Check.L4 Ap0 np0 cp0 (0 : Int) w.heap.size w R)))) :
    Pure Tryz.prog 14 #[(.slice Ap0 np0 cp0)] w R :=
  pure_of_run (garboardref55_Check.cx w w.heap.size R) 100000 follows Tryz.func14 rfl rfl rfl rfl rfl rfl rfl (Eq.mp (by kernel_rfl) h)

def garboardref55_Start.L6 (Al0 : Option Addr) (nl0 cl0 : Nat) (Al6 : Option Addr) (nl6 cl6 : Nat) (il7 : Int) (B : Nat) (w : World) (R : Value → World → Prop) : Prop := At Tryz.prog 16 31 (loopAt Tryz.f16 6) [(0, .v (.slice Al0 nl0 cl0)), (6, .v (.slice Al6 nl6 cl6)), (7, .v (.int .i64 il7))] [] B w R
noncomputable def garboardref55_Start.cx (w : World) (B : Nat) (R : Value → World → Prop) : Cx := ⟨Tryz.prog, 16, 31, Tryz.f16.results.toList, [((true, 6), [0, 6, 7], [])], [(8, 7, 2), (8, 8, 2)], w, B, R⟩
theorem garboardref55_Start.L6.step (Al0 : Option Addr) (nl0 cl0 : Nat) (Al6 : Option Addr) (nl6 cl6 : Nat) (il7 : Int) (B : Nat) (w : World) (R : Value → World → Prop)
    (h : ((((il7 : Int) < (nl0 : Int)) → ((0 ≤ il7 ∧ il7 < nl0) ∧ ∃ a5, Al0 = some a5 ∧ (∃ (i6 : Int), CellsAt w ((a5.add ((il7).toNat * 7)).add 0) [(.int .i64 i6)] ∧ (RunOk Tryz.prog (Instr.buildSlice 32 1 #[(0, (.agg #[(.int .i64 i6), (.int .i64 (0 : Int)), (.int .i64 (0 : Int)), (.string (⟨#[48]⟩ : ByteArray))]))]) B [] w fun r8 w9 => ∃ (A7 : Option Addr) (n7 c7 : Nat), r8 = (.slice A7 n7 c7) ∧ (RunOk Tryz.prog (Builtin.append_ #[32, 32] 32 #[(.slice Al6 nl6 cl6), (.slice A7 n7 c7)]) B [] w9 fun r11 w12 => ∃ (A10 : Option Addr) (n10 c10 : Nat), r11 = (.slice A10 n10 c10) ∧ (inR .i64 (il7 + (1 : Int)) ∧ (garboardref55_Start.L6 Al0 nl0 cl0 A10 n10 c10 (il7 + (1 : Int)) B w12 R))))))) ∧ (¬ ((il7 : Int) < (nl0 : Int)) → (R (.tuple #[(.slice Al6 nl6 cl6), (.int .i64 (0 : Int))]) w)))) :
    garboardref55_Start.L6 Al0 nl0 cl0 Al6 nl6 cl6 il7 B w R :=
  loop_of_run (garboardref55_Start.cx w B R) 100000 (loopAt Tryz.f16 6) _ _ follows Tryz.func16 rfl rfl rfl (Eq.mp (by kernel_rfl) h)
theorem garboardref55_Start.vc (Ap0 : Option Addr) (np0 cp0 : Nat) (w : World) (R : Value → World → Prop)
    (h : (Pure Tryz.prog 14 #[(.slice Ap0 np0 cp0)] w fun r3 w4 => ∃ (i1 : Int) (i2 : Int), r3 = (.tuple #[(.int .i64 i1), (.int .i64 i2)]) ∧ ((((i2 : Int) ≠ (0 : Int)) → (R (.tuple #[(.slice none 0 0), (.int .i64 (1 : Int))]) w4)) ∧ (¬ ((i2 : Int) ≠ (0 : Int)) → (garboardref55_Start.L6 Ap0 np0 cp0 none 0 0 (0 : Int) w.heap.size w4 R))))) :
    Pure Tryz.prog 16 #[(.slice Ap0 np0 cp0)] w R :=
  pure_of_run (garboardref55_Start.cx w w.heap.size R) 100000 follows Tryz.func16 rfl rfl rfl rfl rfl rfl rfl (Eq.mp (by kernel_rfl) h)

def garboardref55_Same.L4 (Al0 : Option Addr) (nl0 cl0 : Nat) (Al1 : Option Addr) (nl1 cl1 : Nat) (il5 : Int) (B : Nat) (w : World) (R : Value → World → Prop) : Prop := At Tryz.prog 17 26 (loopAt Tryz.f17 4) [(0, .v (.slice Al0 nl0 cl0)), (1, .v (.slice Al1 nl1 cl1)), (5, .v (.int .i64 il5))] [] B w R
noncomputable def garboardref55_Same.cx (w : World) (B : Nat) (R : Value → World → Prop) : Cx := ⟨Tryz.prog, 17, 26, Tryz.f17.results.toList, [((true, 4), [0, 1, 5], [])], [], w, B, R⟩
theorem garboardref55_Same.L4.step (Al0 : Option Addr) (nl0 cl0 : Nat) (Al1 : Option Addr) (nl1 cl1 : Nat) (il5 : Int) (B : Nat) (w : World) (R : Value → World → Prop)
    (h : ((((il5 : Int) < (nl0 : Int)) → ((0 ≤ il5 ∧ il5 < nl0) ∧ ∃ a1, Al0 = some a1 ∧ (∃ (i2 : Int) (i3 : Int) (i4 : Int) (s5 : ByteArray), CellsAt w (a1.add ((il5).toNat * 4)) [(.int .i64 i2), (.int .i64 i3), (.int .i64 i4), (.string s5)] ∧ ((0 ≤ il5 ∧ il5 < nl1) ∧ ∃ a6, Al1 = some a6 ∧ (∃ (i7 : Int) (i8 : Int) (i9 : Int) (s10 : ByteArray), CellsAt w (a6.add ((il5).toNat * 4)) [(.int .i64 i7), (.int .i64 i8), (.int .i64 i9), (.string s10)] ∧ (((¬ (i2 = i7 ∧ i3 = i8 ∧ i4 = i9 ∧ s5 = s10 ∧ True)) → (∀ w11, Ext B [] w w11 → (R (.bool false) w11))) ∧ (¬ (¬ (i2 = i7 ∧ i3 = i8 ∧ i4 = i9 ∧ s5 = s10 ∧ True)) → (inR .i64 (il5 + (1 : Int)) ∧ (∀ w12, Ext B [] w w12 → (garboardref55_Same.L4 Al0 nl0 cl0 Al1 nl1 cl1 (il5 + (1 : Int)) B w12 R)))))))))) ∧ (¬ ((il5 : Int) < (nl0 : Int)) → (R (.bool true) w)))) :
    garboardref55_Same.L4 Al0 nl0 cl0 Al1 nl1 cl1 il5 B w R :=
  loop_of_run (garboardref55_Same.cx w B R) 100000 (loopAt Tryz.f17 4) _ _ follows Tryz.func17 rfl rfl rfl (Eq.mp (by kernel_rfl) h)
theorem garboardref55_Same.vc (Ap0 : Option Addr) (np0 cp0 : Nat) (Ap1 : Option Addr) (np1 cp1 : Nat) (w : World) (R : Value → World → Prop)
    (h : (((((np0 : Int) : Int) ≠ (np1 : Int)) → (R (.bool false) w)) ∧ (¬ (((np0 : Int) : Int) ≠ (np1 : Int)) → (garboardref55_Same.L4 Ap0 np0 cp0 Ap1 np1 cp1 (0 : Int) w.heap.size w R)))) :
    Pure Tryz.prog 17 #[(.slice Ap0 np0 cp0), (.slice Ap1 np1 cp1)] w R :=
  pure_of_run (garboardref55_Same.cx w w.heap.size R) 100000 follows Tryz.func17 rfl rfl rfl rfl rfl rfl rfl (Eq.mp (by kernel_rfl) h)

noncomputable def garboardref55_Number.cx (w : World) (B : Nat) (R : Value → World → Prop) : Cx := ⟨Tryz.prog, 21, 25, Tryz.f21.results.toList, [], [(1, 1, 2)], w, B, R⟩
theorem garboardref55_Number.vc (ip0_0 : Int) (sp0_1 : ByteArray) (sp0_2 : ByteArray) (sp0_3 : ByteArray) (sp0_4 : ByteArray) (sp0_5 : ByteArray) (sp0_6 : ByteArray) (sp1 : ByteArray) (w : World) (R : Value → World → Prop)
    (h : (∀ w1, Ext w.heap.size [] w w1 → (RunOk Tryz.prog (Instr.buildSlice 22 1 #[(0, (.agg #[(.int .i64 ip0_0), (.string sp0_1), (.string sp0_2), (.string sp0_3), (.string sp0_4), (.string sp0_5), (.string sp0_6)]))]) w.heap.size [31] w1 fun r3 w4 => ∃ (A2 : Option Addr) (n2 c2 : Nat), r3 = (.slice A2 n2 c2) ∧ (Pure Tryz.prog 14 #[(.slice A2 n2 c2)] w4 fun r7 w8 => ∃ (i5 : Int) (i6 : Int), r7 = (.tuple #[(.int .i64 i5), (.int .i64 i6)]) ∧ ((((i6 : Int) ≠ (0 : Int)) → (R (.tuple #[(.string (⟨#[]⟩ : ByteArray)), (.int .i64 (1 : Int))]) w8)) ∧ (¬ ((i6 : Int) ≠ (0 : Int)) → (Pure Tryz.prog 50 #[(.string sp1)] w8 fun r10 w11 => ∃ (b9 : Bool), r10 = (.bool b9) ∧ (((b9 = false) → (R (.tuple #[(.string (⟨#[]⟩ : ByteArray)), (.int .i64 (1 : Int))]) w11)) ∧ (¬ (b9 = false) → (Pure Tryz.prog 52 #[(.agg #[(.int .i64 ip0_0), (.string sp0_1), (.string sp0_2), (.string sp0_3), (.string sp0_4), (.string sp0_5), (.string sp0_6)]), (.string sp1)] w11 fun r15 w16 => ∃ (b12 : Bool) (A13 : Option Addr) (n13 c13 : Nat) (A14 : Option Addr) (n14 c14 : Nat), r15 = (.agg #[(.bool b12), (.slice A13 n13 c13), (.slice A14 n14 c14)]) ∧ (Pure Tryz.prog 51 #[(.agg #[(.bool b12), (.slice A13 n13 c13), (.slice A14 n14 c14)])] w16 fun r18 w19 => ∃ (s17 : ByteArray), r18 = (.string s17) ∧ (R (.tuple #[(.string s17), (.int .i64 (0 : Int))]) w19)))))))))))) :
    Pure Tryz.prog 21 #[(.agg #[(.int .i64 ip0_0), (.string sp0_1), (.string sp0_2), (.string sp0_3), (.string sp0_4), (.string sp0_5), (.string sp0_6)]), (.string sp1)] w R :=
  pure_of_run (garboardref55_Number.cx w w.heap.size R) 100000 follows Tryz.func21 rfl rfl rfl rfl rfl rfl rfl (Eq.mp (by kernel_rfl) h)

def garboardref55_Take.L6 (Al0 : Option Addr) (nl0 cl0 : Nat) (Al1 : Option Addr) (nl1 cl1 : Nat) (il10 : Int) (il11 : Int) (ilx5_0 : Int) (ilx5_1 : Int) (slx5_2 : ByteArray) (B : Nat) (w : World) (R : Value → World → Prop) : Prop := At Tryz.prog 24 95 (loopAt Tryz.f24 6) [(0, .v (.slice Al0 nl0 cl0)), (1, .v (.slice Al1 nl1 cl1)), (5, .loc 5 0), (10, .v (.int .i64 il10)), (11, .v (.int .i64 il11))] [⟨5, false, 42, [(.int .i64 ilx5_0), (.int .i64 ilx5_1), (.string slx5_2)]⟩] B w R
noncomputable def garboardref55_Take.cx (w : World) (B : Nat) (R : Value → World → Prop) : Cx := ⟨Tryz.prog, 24, 95, Tryz.f24.results.toList, [((true, 6), [0, 1, 5, 10, 11], [5])], [(16, 0, 2), (16, 2, 2), (18, 9999, 3)], w, B, R⟩
theorem garboardref55_Take.L6.step (Al0 : Option Addr) (nl0 cl0 : Nat) (Al1 : Option Addr) (nl1 cl1 : Nat) (il10 : Int) (il11 : Int) (ilx5_0 : Int) (ilx5_1 : Int) (slx5_2 : ByteArray) (B : Nat) (w : World) (R : Value → World → Prop)
    (h : ((((il11 : Int) < (nl0 : Int)) → ((0 ≤ il11 ∧ il11 < nl0) ∧ ∃ a12, Al0 = some a12 ∧ (∃ (i13 : Int), CellsAt w ((a12.add ((il11).toNat * 7)).add 0) [(.int .i64 i13)] ∧ ((((i13 : Int) = ilx5_0) → (inR .i64 (il11 + (1 : Int)) ∧ (∀ w14, Ext B [] w w14 → (garboardref55_Take.L6 Al0 nl0 cl0 Al1 nl1 cl1 il11 (il11 + (1 : Int)) ilx5_0 ilx5_1 slx5_2 B w14 R)))) ∧ (¬ ((i13 : Int) = ilx5_0) → (inR .i64 (il11 + (1 : Int)) ∧ (∀ w15, Ext B [] w w15 → (garboardref55_Take.L6 Al0 nl0 cl0 Al1 nl1 cl1 il10 (il11 + (1 : Int)) ilx5_0 ilx5_1 slx5_2 B w15 R)))))))) ∧ (¬ ((il11 : Int) < (nl0 : Int)) → ((((il10 : Int) < (0 : Int)) → (R (.tuple #[(.slice none 0 0), (.int .i64 (7 : Int))]) w)) ∧ (¬ ((il10 : Int) < (0 : Int)) → (Pure Tryz.prog 58 #[(.int .i64 ilx5_1)] w fun r17 w18 => ∃ (b16 : Bool), r17 = (.bool b16) ∧ (((b16 = false) → (R (.tuple #[(.slice none 0 0), (.int .i64 (2 : Int))]) w18)) ∧ (¬ (b16 = false) → ((0 ≤ il10 ∧ il10 < nl1) ∧ ∃ a19, Al1 = some a19 ∧ (∃ (i20 : Int), CellsAt w18 ((a19.add ((il10).toNat * 4)).add 1) [(.int .i64 i20)] ∧ ((((ilx5_1 : Int) < i20) → (∀ w21, Ext B [] w18 w21 → (R (.tuple #[(.slice none 0 0), (.int .i64 (5 : Int))]) w21))) ∧ (¬ ((ilx5_1 : Int) < i20) → (∀ w22, Ext B [] w18 w22 → (RunOk Tryz.prog (Instr.buildSlice 32 0 #[]) B [42] w22 fun r24 w25 => ∃ (A23 : Option Addr) (n23 c23 : Nat), r24 = (.slice A23 n23 c23) ∧ (RunOk Tryz.prog (Builtin.append_ #[32, 32] 32 #[(.slice A23 n23 c23), (.slice Al1 nl1 cl1)]) B [42] w25 fun r27 w28 => ∃ (A26 : Option Addr) (n26 c26 : Nat), r27 = (.slice A26 n26 c26) ∧ ((0 ≤ il10 ∧ il10 < nl0) ∧ ∃ a29, Al0 = some a29 ∧ (∃ (i30 : Int) (s31 : ByteArray) (s32 : ByteArray) (s33 : ByteArray) (s34 : ByteArray) (s35 : ByteArray) (s36 : ByteArray), CellsAt w28 (a29.add ((il10).toNat * 7)) [(.int .i64 i30), (.string s31), (.string s32), (.string s33), (.string s34), (.string s35), (.string s36)] ∧ ((∀ w37, Ext B [] w28 w37 → (Pure Tryz.prog 52 #[(.agg #[(.int .i64 i30), (.string s31), (.string s32), (.string s33), (.string s34), (.string s35), (.string s36)]), (.string slx5_2)] w37 fun r41 w42 => ∃ (b38 : Bool) (A39 : Option Addr) (n39 c39 : Nat) (A40 : Option Addr) (n40 c40 : Nat), r41 = (.agg #[(.bool b38), (.slice A39 n39 c39), (.slice A40 n40 c40)]) ∧ (∀ w43, Ext B [] w42 w43 → ((0 ≤ il10 ∧ il10 < nl0) ∧ ∃ a44, Al0 = some a44 ∧ (∃ (i45 : Int) (s46 : ByteArray) (s47 : ByteArray) (s48 : ByteArray) (s49 : ByteArray) (s50 : ByteArray) (s51 : ByteArray), CellsAt w43 (a44.add ((il10).toNat * 7)) [(.int .i64 i45), (.string s46), (.string s47), (.string s48), (.string s49), (.string s50), (.string s51)] ∧ ((0 ≤ il10 ∧ il10 < nl1) ∧ ∃ a52, Al1 = some a52 ∧ (∃ (i53 : Int) (i54 : Int) (i55 : Int) (s56 : ByteArray), CellsAt w43 (a52.add ((il10).toNat * 4)) [(.int .i64 i53), (.int .i64 i54), (.int .i64 i55), (.string s56)] ∧ (∀ w57, Ext B [] w43 w57 → (Pure Tryz.prog 59 #[(.agg #[(.int .i64 i45), (.string s46), (.string s47), (.string s48), (.string s49), (.string s50), (.string s51)]), (.agg #[(.int .i64 i53), (.int .i64 i54), (.int .i64 i55), (.string s56)]), (.agg #[(.bool b38), (.slice A39 n39 c39), (.slice A40 n40 c40)]), (.int .i64 ilx5_1)] w57 fun r59 w60 => ∃ (i58 : Int), r59 = (.int .i64 i58) ∧ (Pure Tryz.prog 51 #[(.agg #[(.bool b38), (.slice A39 n39 c39), (.slice A40 n40 c40)])] w60 fun r62 w63 => ∃ (s61 : ByteArray), r62 = (.string s61) ∧ ((0 ≤ il10 ∧ il10 < n26) ∧ ∃ a64, A26 = some a64 ∧ (∃ (cs65 : List Value) (t66 : Nat), B ≤ (a64.add ((il10).toNat * 4)).block ∧ (a64.add ((il10).toNat * 4)).spot = none ∧ w63.heap[(a64.add ((il10).toNat * 4)).block]? = some (.cells cs65.toArray t66 (0, 0)) ∧ (a64.add ((il10).toNat * 4)).off + 4 ≤ cs65.length ∧ hasType t66 [⟨13, false, 62, [(.bool b38), (.slice A39 n39 c39), (.slice A40 n40 c40)]⟩, ⟨5, false, 42, [(.int .i64 ilx5_0), (.int .i64 ilx5_1), (.string slx5_2)]⟩] = false ∧ ∀ w67, Wrote w63 w67 (a64.add ((il10).toNat * 4)).block t66 (setCells cs65 (a64.add ((il10).toNat * 4)).off [(.int .i64 ilx5_0), (.int .i64 ilx5_1), (.int .i64 i58), (.string s61)]) → (R (.tuple #[(.slice A26 n26 c26), (.int .i64 (0 : Int))]) w67))))))))))))) ∧ (∀ w68, Ext B [] w28 w68 → (Pure Tryz.prog 52 #[(.agg #[(.int .i64 i30), (.string s31), (.string s32), (.string s33), (.string s34), (.string s35), (.string s36)]), (.string slx5_2)] w68 fun r72 w73 => ∃ (b69 : Bool) (A70 : Option Addr) (n70 c70 : Nat) (A71 : Option Addr) (n71 c71 : Nat), r72 = (.agg #[(.bool b69), (.slice A70 n70 c70), (.slice A71 n71 c71)]) ∧ (∀ w74, Ext B [62] w73 w74 → ((0 ≤ il10 ∧ il10 < nl0) ∧ ∃ a75, Al0 = some a75 ∧ (∃ (i76 : Int) (s77 : ByteArray) (s78 : ByteArray) (s79 : ByteArray) (s80 : ByteArray) (s81 : ByteArray) (s82 : ByteArray), CellsAt w74 (a75.add ((il10).toNat * 7)) [(.int .i64 i76), (.string s77), (.string s78), (.string s79), (.string s80), (.string s81), (.string s82)] ∧ ((0 ≤ il10 ∧ il10 < nl1) ∧ ∃ a83, Al1 = some a83 ∧ (∃ (i84 : Int) (i85 : Int) (i86 : Int) (s87 : ByteArray), CellsAt w74 (a83.add ((il10).toNat * 4)) [(.int .i64 i84), (.int .i64 i85), (.int .i64 i86), (.string s87)] ∧ (∀ w88, Ext B [] w74 w88 → (Pure Tryz.prog 59 #[(.agg #[(.int .i64 i76), (.string s77), (.string s78), (.string s79), (.string s80), (.string s81), (.string s82)]), (.agg #[(.int .i64 i84), (.int .i64 i85), (.int .i64 i86), (.string s87)]), (.agg #[(.bool b69), (.slice A70 n70 c70), (.slice A71 n71 c71)]), (.int .i64 ilx5_1)] w88 fun r90 w91 => ∃ (i89 : Int), r90 = (.int .i64 i89) ∧ (Pure Tryz.prog 51 #[(.agg #[(.bool b69), (.slice A70 n70 c70), (.slice A71 n71 c71)])] w91 fun r93 w94 => ∃ (s92 : ByteArray), r93 = (.string s92) ∧ ((0 ≤ il10 ∧ il10 < n26) ∧ ∃ a95, A26 = some a95 ∧ (∃ (cs96 : List Value) (t97 : Nat), B ≤ (a95.add ((il10).toNat * 4)).block ∧ (a95.add ((il10).toNat * 4)).spot = none ∧ w94.heap[(a95.add ((il10).toNat * 4)).block]? = some (.cells cs96.toArray t97 (0, 0)) ∧ (a95.add ((il10).toNat * 4)).off + 4 ≤ cs96.length ∧ hasType t97 [⟨13, false, 62, [(.bool b69), (.slice A70 n70 c70), (.slice A71 n71 c71)]⟩, ⟨5, false, 42, [(.int .i64 ilx5_0), (.int .i64 ilx5_1), (.string slx5_2)]⟩] = false ∧ ∀ w98, Wrote w94 w98 (a95.add ((il10).toNat * 4)).block t97 (setCells cs96 (a95.add ((il10).toNat * 4)).off [(.int .i64 ilx5_0), (.int .i64 ilx5_1), (.int .i64 i89), (.string s92)]) → (R (.tuple #[(.slice A26 n26 c26), (.int .i64 (0 : Int))]) w98))))))))))))))))))))))))))))))) :
    garboardref55_Take.L6 Al0 nl0 cl0 Al1 nl1 cl1 il10 il11 ilx5_0 ilx5_1 slx5_2 B w R :=
  loop_of_run (garboardref55_Take.cx w B R) 100000 (loopAt Tryz.f24 6) _ _ follows Tryz.func24 rfl rfl rfl (Eq.mp (by kernel_rfl) h)
theorem garboardref55_Take.vc (Ap0 : Option Addr) (np0 cp0 : Nat) (Ap1 : Option Addr) (np1 cp1 : Nat) (ip2_0 : Int) (ip2_1 : Int) (sp2_2 : ByteArray) (w : World) (R : Value → World → Prop)
    (h : (∀ w1, Ext w.heap.size [] w w1 → (Pure Tryz.prog 14 #[(.slice Ap0 np0 cp0)] w1 fun r4 w5 => ∃ (i2 : Int) (i3 : Int), r4 = (.tuple #[(.int .i64 i2), (.int .i64 i3)]) ∧ ((((i3 : Int) ≠ (0 : Int)) → (R (.tuple #[(.slice none 0 0), (.int .i64 (1 : Int))]) w5)) ∧ (¬ ((i3 : Int) ≠ (0 : Int)) → (Pure Tryz.prog 57 #[(.slice Ap0 np0 cp0), (.slice Ap1 np1 cp1)] w5 fun r7 w8 => ∃ (b6 : Bool), r7 = (.bool b6) ∧ (((b6 = false) → (R (.tuple #[(.slice none 0 0), (.int .i64 (1 : Int))]) w8)) ∧ (¬ (b6 = false) → (Pure Tryz.prog 50 #[(.string sp2_2)] w8 fun r10 w11 => ∃ (b9 : Bool), r10 = (.bool b9) ∧ (((b9 = false) → (R (.tuple #[(.slice none 0 0), (.int .i64 (1 : Int))]) w11)) ∧ (¬ (b9 = false) → (garboardref55_Take.L6 Ap0 np0 cp0 Ap1 np1 cp1 (-1 : Int) (0 : Int) ip2_0 ip2_1 sp2_2 w.heap.size w11 R)))))))))))) :
    Pure Tryz.prog 24 #[(.slice Ap0 np0 cp0), (.slice Ap1 np1 cp1), (.agg #[(.int .i64 ip2_0), (.int .i64 ip2_1), (.string sp2_2)])] w R :=
  pure_of_run (garboardref55_Take.cx w w.heap.size R) 100000 follows Tryz.func24 rfl rfl rfl rfl rfl rfl rfl (Eq.mp (by kernel_rfl) h)

def garboardref55_See.L7 (Al0 : Option Addr) (nl0 cl0 : Nat) (il1 : Int) (il2 : Int) (Al8 : Option Addr) (nl8 cl8 : Nat) (il9 : Int) (B : Nat) (w : World) (R : Value → World → Prop) : Prop := At Tryz.prog 26 49 (loopAt Tryz.f26 7) [(0, .v (.slice Al0 nl0 cl0)), (1, .v (.int .i64 il1)), (2, .v (.int .i64 il2)), (8, .v (.slice Al8 nl8 cl8)), (9, .v (.int .i64 il9))] [] B w R
noncomputable def garboardref55_See.cx (w : World) (B : Nat) (R : Value → World → Prop) : Cx := ⟨Tryz.prog, 26, 49, Tryz.f26.results.toList, [((true, 7), [0, 1, 2, 8, 9], [])], [(9, 4, 2), (12, 2, 2), (12, 3, 2)], w, B, R⟩
theorem garboardref55_See.L7.step (Al0 : Option Addr) (nl0 cl0 : Nat) (il1 : Int) (il2 : Int) (Al8 : Option Addr) (nl8 cl8 : Nat) (il9 : Int) (B : Nat) (w : World) (R : Value → World → Prop)
    (h : ((((il9 : Int) < (nl0 : Int)) → ((0 ≤ il9 ∧ il9 < nl0) ∧ ∃ a7, Al0 = some a7 ∧ (∃ (i8 : Int) (i9 : Int) (i10 : Int) (s11 : ByteArray), CellsAt w (a7.add ((il9).toNat * 4)) [(.int .i64 i8), (.int .i64 i9), (.int .i64 i10), (.string s11)] ∧ (RunOk Tryz.prog (Instr.alloc 46 true (.tuple #[])) B [] w fun r13 w12 => ∃ (a14 : Addr), r13 = (.pointer (some a14)) ∧ (∃ (cs15 : List Value) (t16 : Nat), B ≤ a14.block ∧ a14.spot = none ∧ w12.heap[a14.block]? = some (.cells cs15.toArray t16 (0, 0)) ∧ a14.off + 4 ≤ cs15.length ∧ hasType t16 [] = false ∧ ∀ w17, Wrote w12 w17 a14.block t16 (setCells cs15 a14.off [(.int .i64 i8), (.int .i64 i9), (.int .i64 i10), (.string s11)]) → (∃ (i18 : Int), CellsAt w17 (a14.add 2) [(.int .i64 i18)] ∧ ((((i18 : Int) ≠ (0 : Int)) → (∃ (i19 : Int), CellsAt w17 (a14.add 1) [(.int .i64 i19)] ∧ (inR .i64 (il1 - il2) ∧ ((((i19 : Int) < (il1 - il2)) → (∃ (cs20 : List Value) (t21 : Nat), B ≤ (a14.add 2).block ∧ (a14.add 2).spot = none ∧ w17.heap[(a14.add 2).block]? = some (.cells cs20.toArray t21 (0, 0)) ∧ (a14.add 2).off + 1 ≤ cs20.length ∧ hasType t21 [] = false ∧ ∀ w22, Wrote w17 w22 (a14.add 2).block t21 (setCells cs20 (a14.add 2).off [(.int .i64 (4 : Int))]) → (∃ (i23 : Int) (i24 : Int) (i25 : Int) (s26 : ByteArray), CellsAt w22 a14 [(.int .i64 i23), (.int .i64 i24), (.int .i64 i25), (.string s26)] ∧ (RunOk Tryz.prog (Instr.buildSlice 32 1 #[(0, (.agg #[(.int .i64 i23), (.int .i64 i24), (.int .i64 i25), (.string s26)]))]) B [] w22 fun r28 w29 => ∃ (A27 : Option Addr) (n27 c27 : Nat), r28 = (.slice A27 n27 c27) ∧ (RunOk Tryz.prog (Builtin.append_ #[32, 32] 32 #[(.slice Al8 nl8 cl8), (.slice A27 n27 c27)]) B [] w29 fun r31 w32 => ∃ (A30 : Option Addr) (n30 c30 : Nat), r31 = (.slice A30 n30 c30) ∧ (inR .i64 (il9 + (1 : Int)) ∧ (garboardref55_See.L7 Al0 nl0 cl0 il1 il2 A30 n30 c30 (il9 + (1 : Int)) B w32 R))))))) ∧ (¬ ((i19 : Int) < (il1 - il2)) → (∃ (i33 : Int) (i34 : Int) (i35 : Int) (s36 : ByteArray), CellsAt w17 a14 [(.int .i64 i33), (.int .i64 i34), (.int .i64 i35), (.string s36)] ∧ (RunOk Tryz.prog (Instr.buildSlice 32 1 #[(0, (.agg #[(.int .i64 i33), (.int .i64 i34), (.int .i64 i35), (.string s36)]))]) B [] w17 fun r38 w39 => ∃ (A37 : Option Addr) (n37 c37 : Nat), r38 = (.slice A37 n37 c37) ∧ (RunOk Tryz.prog (Builtin.append_ #[32, 32] 32 #[(.slice Al8 nl8 cl8), (.slice A37 n37 c37)]) B [] w39 fun r41 w42 => ∃ (A40 : Option Addr) (n40 c40 : Nat), r41 = (.slice A40 n40 c40) ∧ (inR .i64 (il9 + (1 : Int)) ∧ (garboardref55_See.L7 Al0 nl0 cl0 il1 il2 A40 n40 c40 (il9 + (1 : Int)) B w42 R)))))))))) ∧ (¬ ((i18 : Int) ≠ (0 : Int)) → (∃ (i43 : Int) (i44 : Int) (i45 : Int) (s46 : ByteArray), CellsAt w17 a14 [(.int .i64 i43), (.int .i64 i44), (.int .i64 i45), (.string s46)] ∧ (RunOk Tryz.prog (Instr.buildSlice 32 1 #[(0, (.agg #[(.int .i64 i43), (.int .i64 i44), (.int .i64 i45), (.string s46)]))]) B [] w17 fun r48 w49 => ∃ (A47 : Option Addr) (n47 c47 : Nat), r48 = (.slice A47 n47 c47) ∧ (RunOk Tryz.prog (Builtin.append_ #[32, 32] 32 #[(.slice Al8 nl8 cl8), (.slice A47 n47 c47)]) B [] w49 fun r51 w52 => ∃ (A50 : Option Addr) (n50 c50 : Nat), r51 = (.slice A50 n50 c50) ∧ (inR .i64 (il9 + (1 : Int)) ∧ (garboardref55_See.L7 Al0 nl0 cl0 il1 il2 A50 n50 c50 (il9 + (1 : Int)) B w52 R))))))))))))) ∧ (¬ ((il9 : Int) < (nl0 : Int)) → (R (.tuple #[(.slice Al8 nl8 cl8), (.int .i64 (0 : Int))]) w)))) :
    garboardref55_See.L7 Al0 nl0 cl0 il1 il2 Al8 nl8 cl8 il9 B w R :=
  loop_of_run (garboardref55_See.cx w B R) 100000 (loopAt Tryz.f26 7) _ _ follows Tryz.func26 rfl rfl rfl (Eq.mp (by kernel_rfl) h)
theorem garboardref55_See.vc (Ap0 : Option Addr) (np0 cp0 : Nat) (ip1 : Int) (ip2 : Int) (w : World) (R : Value → World → Prop)
    (h : (((((np0 : Int) : Int) > (16 : Int)) → (R (.tuple #[(.slice none 0 0), (.int .i64 (8 : Int))]) w)) ∧ (¬ (((np0 : Int) : Int) > (16 : Int)) → (Pure Tryz.prog 58 #[(.int .i64 ip1)] w fun r2 w3 => ∃ (b1 : Bool), r2 = (.bool b1) ∧ (((b1 = false) → (R (.tuple #[(.slice none 0 0), (.int .i64 (2 : Int))]) w3)) ∧ (¬ (b1 = false) → (Pure Tryz.prog 58 #[(.int .i64 ip2)] w3 fun r5 w6 => ∃ (b4 : Bool), r5 = (.bool b4) ∧ (((b4 = false) → (R (.tuple #[(.slice none 0 0), (.int .i64 (2 : Int))]) w6)) ∧ (¬ (b4 = false) → (garboardref55_See.L7 Ap0 np0 cp0 ip1 ip2 none 0 0 (0 : Int) w.heap.size w6 R)))))))))) :
    Pure Tryz.prog 26 #[(.slice Ap0 np0 cp0), (.int .i64 ip1), (.int .i64 ip2)] w R :=
  pure_of_run (garboardref55_See.cx w w.heap.size R) 100000 follows Tryz.func26 rfl rfl rfl rfl rfl rfl rfl (Eq.mp (by kernel_rfl) h)

def garboardref55_Vote.L3 (Al0 : Option Addr) (nl0 cl0 : Nat) (sl1 : ByteArray) (bl7 : Bool) (il8 : Int) (B : Nat) (w : World) (R : Value → World → Prop) : Prop := At Tryz.prog 28 117 (loopAt Tryz.f28 3) [(0, .v (.slice Al0 nl0 cl0)), (1, .v (.string sl1)), (7, .v (.bool bl7)), (8, .v (.int .i64 il8))] [] B w R
def garboardref55_Vote.L12 (Al0 : Option Addr) (nl0 cl0 : Nat) (sl1 : ByteArray) (Al9 : Option Addr) (nl9 cl9 : Nat) (il10 : Int) (B : Nat) (w : World) (R : Value → World → Prop) : Prop := At Tryz.prog 28 117 (loopAt Tryz.f28 12) [(0, .v (.slice Al0 nl0 cl0)), (1, .v (.string sl1)), (9, .v (.slice Al9 nl9 cl9)), (10, .v (.int .i64 il10))] [] B w R
def garboardref55_Vote.L16 (Al0 : Option Addr) (nl0 cl0 : Nat) (sl1 : ByteArray) (Al9 : Option Addr) (nl9 cl9 : Nat) (il10 : Int) (al11 : Addr) (il12 : Int) (B : Nat) (w : World) (R : Value → World → Prop) : Prop := At Tryz.prog 28 117 (loopAt Tryz.f28 16) [(0, .v (.slice Al0 nl0 cl0)), (1, .v (.string sl1)), (9, .v (.slice Al9 nl9 cl9)), (10, .v (.int .i64 il10)), (11, .v (.pointer (some al11))), (12, .v (.int .i64 il12))] [] B w R
def garboardref55_Vote.L23 (sl1 : ByteArray) (Al9 : Option Addr) (nl9 cl9 : Nat) (il14 : Int) (blx13_0 : Bool) (Alx13_1 : Option Addr) (nlx13_1 clx13_1 : Nat) (Alx13_2 : Option Addr) (nlx13_2 clx13_2 : Nat) (B : Nat) (w : World) (R : Value → World → Prop) : Prop := At Tryz.prog 28 117 (loopAt Tryz.f28 23) [(1, .v (.string sl1)), (9, .v (.slice Al9 nl9 cl9)), (13, .loc 13 0), (14, .v (.int .i64 il14))] [⟨13, false, 62, [(.bool blx13_0), (.slice Alx13_1 nlx13_1 clx13_1), (.slice Alx13_2 nlx13_2 clx13_2)]⟩] B w R
def garboardref55_Vote.J18 (Al0 : Option Addr) (nl0 cl0 : Nat) (sl1 : ByteArray) (Al9 : Option Addr) (nl9 cl9 : Nat) (il10 : Int) (al11 : Addr) (il12 : Int) (B : Nat) (w : World) (R : Value → World → Prop) : Prop := At Tryz.prog 28 117 (regionAt Tryz.f28 18) [(0, .v (.slice Al0 nl0 cl0)), (1, .v (.string sl1)), (9, .v (.slice Al9 nl9 cl9)), (10, .v (.int .i64 il10)), (11, .v (.pointer (some al11))), (12, .v (.int .i64 il12))] [] B w R
noncomputable def garboardref55_Vote.cx (w : World) (B : Nat) (R : Value → World → Prop) : Cx := ⟨Tryz.prog, 28, 117, Tryz.f28.results.toList, [((true, 3), [0, 1, 7, 8], []), ((true, 12), [0, 1, 9, 10], []), ((true, 16), [0, 1, 9, 10, 11, 12], []), ((true, 23), [1, 9, 13, 14], [13]), ((false, 18), [0, 1, 9, 10, 11, 12], [])], [(15, 6, 2), (18, 0, 2), (18, 4, 2), (18, 6, 2), (18, 7, 2), (18, 11, 2)], w, B, R⟩
theorem garboardref55_Vote.L3.step (Al0 : Option Addr) (nl0 cl0 : Nat) (sl1 : ByteArray) (bl7 : Bool) (il8 : Int) (B : Nat) (w : World) (R : Value → World → Prop)
    (h : ((((il8 : Int) < (nl0 : Int)) → ((bl7 = true → ((0 ≤ il8 ∧ il8 < nl0) ∧ ∃ a4, Al0 = some a4 ∧ (∃ (s5 : ByteArray), CellsAt w ((a4.add ((il8).toNat * 4)).add 3) [(.string s5)] ∧ (Pure Tryz.prog 50 #[(.string s5)] w fun r7 w8 => ∃ (b6 : Bool), r7 = (.bool b6) ∧ (inR .i64 (il8 + (1 : Int)) ∧ (garboardref55_Vote.L3 Al0 nl0 cl0 sl1 b6 (il8 + (1 : Int)) B w8 R)))))) ∧ (bl7 = false → (inR .i64 (il8 + (1 : Int)) ∧ (garboardref55_Vote.L3 Al0 nl0 cl0 sl1 false (il8 + (1 : Int)) B w R))))) ∧ (¬ ((il8 : Int) < (nl0 : Int)) → (((bl7 = false) → (R (.tuple #[(.string (⟨#[]⟩ : ByteArray)), (.bool false), (.int .i64 (1 : Int))]) w)) ∧ (¬ (bl7 = false) → (Pure Tryz.prog 70 #[(.string sl1)] w fun r12 w13 => ∃ (b9 : Bool) (A10 : Option Addr) (n10 c10 : Nat) (A11 : Option Addr) (n11 c11 : Nat), r12 = (.agg #[(.bool b9), (.slice A10 n10 c10), (.slice A11 n11 c11)]) ∧ (Pure Tryz.prog 69 #[(.agg #[(.bool b9), (.slice A10 n10 c10), (.slice A11 n11 c11)])] w13 fun r15 w16 => ∃ (i14 : Int), r15 = (.int .i64 i14) ∧ ((((i14 : Int) < (0 : Int)) → (R (.tuple #[(.string (⟨#[]⟩ : ByteArray)), (.bool false), (.int .i64 (1 : Int))]) w16)) ∧ (¬ ((i14 : Int) < (0 : Int)) → (((((nl0 : Int) : Int) > (16 : Int)) → (R (.tuple #[(.string (⟨#[]⟩ : ByteArray)), (.bool false), (.int .i64 (8 : Int))]) w16)) ∧ (¬ (((nl0 : Int) : Int) > (16 : Int)) → (garboardref55_Vote.L12 Al0 nl0 cl0 sl1 none 0 0 (0 : Int) B w16 R)))))))))))) :
    garboardref55_Vote.L3 Al0 nl0 cl0 sl1 bl7 il8 B w R :=
  loop_of_run (garboardref55_Vote.cx w B R) 100000 (loopAt Tryz.f28 3) _ _ follows Tryz.func28 rfl rfl rfl (Eq.mp (by kernel_rfl) h)
theorem garboardref55_Vote.L12.step (Al0 : Option Addr) (nl0 cl0 : Nat) (sl1 : ByteArray) (Al9 : Option Addr) (nl9 cl9 : Nat) (il10 : Int) (B : Nat) (w : World) (R : Value → World → Prop)
    (h : ((((il10 : Int) < (nl0 : Int)) → ((0 ≤ il10 ∧ il10 < nl0) ∧ ∃ a17, Al0 = some a17 ∧ (∃ (i18 : Int), CellsAt w ((a17.add ((il10).toNat * 4)).add 2) [(.int .i64 i18)] ∧ ((((i18 : Int) ≠ (1 : Int)) → (inR .i64 (il10 + (1 : Int)) ∧ (garboardref55_Vote.L12 Al0 nl0 cl0 sl1 Al9 nl9 cl9 (il10 + (1 : Int)) B w R))) ∧ (¬ ((i18 : Int) ≠ (1 : Int)) → ((0 ≤ il10 ∧ il10 < nl0) ∧ ∃ a19, Al0 = some a19 ∧ (∃ (s20 : ByteArray), CellsAt w ((a19.add ((il10).toNat * 4)).add 3) [(.string s20)] ∧ (Pure Tryz.prog 70 #[(.string s20)] w fun r24 w25 => ∃ (b21 : Bool) (A22 : Option Addr) (n22 c22 : Nat) (A23 : Option Addr) (n23 c23 : Nat), r24 = (.agg #[(.bool b21), (.slice A22 n22 c22), (.slice A23 n23 c23)]) ∧ (RunOk Tryz.prog (Instr.alloc 62 true (.tuple #[])) B [] w25 fun r27 w26 => ∃ (a28 : Addr), r27 = (.pointer (some a28)) ∧ (∃ (cs29 : List Value) (t30 : Nat), B ≤ a28.block ∧ a28.spot = none ∧ w26.heap[a28.block]? = some (.cells cs29.toArray t30 (0, 0)) ∧ a28.off + 3 ≤ cs29.length ∧ hasType t30 [] = false ∧ ∀ w31, Wrote w26 w31 a28.block t30 (setCells cs29 a28.off [(.bool b21), (.slice A22 n22 c22), (.slice A23 n23 c23)]) → (garboardref55_Vote.L16 Al0 nl0 cl0 sl1 Al9 nl9 cl9 il10 a28 (0 : Int) B w31 R))))))))))) ∧ (¬ ((il10 : Int) < (nl0 : Int)) → (((((nl9 : Int) : Int) = (0 : Int)) → (R (.tuple #[(.string (⟨#[]⟩ : ByteArray)), (.bool false), (.int .i64 (9 : Int))]) w)) ∧ (¬ (((nl9 : Int) : Int) = (0 : Int)) → (inR .i64 ((nl9 : Int) - (1 : Int)) ∧ ((0 ≤ ((nl9 : Int) - (1 : Int)) ∧ 0 < (2 : Int) ∧ inR .i64 ((nl9 : Int) - (1 : Int))) ∧ ((0 ≤ (((nl9 : Int) - (1 : Int)) / (2 : Int)) ∧ (((nl9 : Int) - (1 : Int)) / (2 : Int)) < nl9) ∧ ∃ a32, Al9 = some a32 ∧ (∃ (b33 : Bool) (A34 : Option Addr) (n34 c34 : Nat) (A35 : Option Addr) (n35 c35 : Nat), CellsAt w (a32.add (((((nl9 : Int) - (1 : Int)) / (2 : Int))).toNat * 3)) [(.bool b33), (.slice A34 n34 c34), (.slice A35 n35 c35)] ∧ (∀ w36, Ext B [] w w36 → (garboardref55_Vote.L23 sl1 Al9 nl9 cl9 (0 : Int) b33 A34 n34 c34 A35 n35 c35 B w36 R))))))))))) :
    garboardref55_Vote.L12 Al0 nl0 cl0 sl1 Al9 nl9 cl9 il10 B w R :=
  loop_of_run (garboardref55_Vote.cx w B R) 100000 (loopAt Tryz.f28 12) _ _ follows Tryz.func28 rfl rfl rfl (Eq.mp (by kernel_rfl) h)
theorem garboardref55_Vote.L16.step (Al0 : Option Addr) (nl0 cl0 : Nat) (sl1 : ByteArray) (Al9 : Option Addr) (nl9 cl9 : Nat) (il10 : Int) (al11 : Addr) (il12 : Int) (B : Nat) (w : World) (R : Value → World → Prop)
    (h : ((((il12 : Int) < (nl9 : Int)) → ((0 ≤ il12 ∧ il12 < nl9) ∧ ∃ a37, Al9 = some a37 ∧ (∃ (b38 : Bool) (A39 : Option Addr) (n39 c39 : Nat) (A40 : Option Addr) (n40 c40 : Nat), CellsAt w (a37.add ((il12).toNat * 3)) [(.bool b38), (.slice A39 n39 c39), (.slice A40 n40 c40)] ∧ (∃ (b41 : Bool) (A42 : Option Addr) (n42 c42 : Nat) (A43 : Option Addr) (n43 c43 : Nat), CellsAt w al11 [(.bool b41), (.slice A42 n42 c42), (.slice A43 n43 c43)] ∧ (∀ w44, Ext B [] w w44 → (Pure Tryz.prog 38 #[(.agg #[(.bool b38), (.slice A39 n39 c39), (.slice A40 n40 c40)]), (.agg #[(.bool b41), (.slice A42 n42 c42), (.slice A43 n43 c43)])] w44 fun r46 w47 => ∃ (b45 : Bool), r46 = (.bool b45) ∧ ((b45 = true → (inR .i64 (il12 + (1 : Int)) ∧ (garboardref55_Vote.L16 Al0 nl0 cl0 sl1 Al9 nl9 cl9 il10 al11 (il12 + (1 : Int)) B w47 R))) ∧ (b45 = false → (garboardref55_Vote.J18 Al0 nl0 cl0 sl1 Al9 nl9 cl9 il10 al11 il12 B w47 R))))))))) ∧ (¬ ((il12 : Int) < (nl9 : Int)) → (∀ w48, Ext B [] w w48 → (garboardref55_Vote.J18 Al0 nl0 cl0 sl1 Al9 nl9 cl9 il10 al11 il12 B w48 R))))) :
    garboardref55_Vote.L16 Al0 nl0 cl0 sl1 Al9 nl9 cl9 il10 al11 il12 B w R :=
  loop_of_run (garboardref55_Vote.cx w B R) 100000 (loopAt Tryz.f28 16) _ _ follows Tryz.func28 rfl rfl rfl (Eq.mp (by kernel_rfl) h)
theorem garboardref55_Vote.L23.step (sl1 : ByteArray) (Al9 : Option Addr) (nl9 cl9 : Nat) (il14 : Int) (blx13_0 : Bool) (Alx13_1 : Option Addr) (nlx13_1 clx13_1 : Nat) (Alx13_2 : Option Addr) (nlx13_2 clx13_2 : Nat) (B : Nat) (w : World) (R : Value → World → Prop)
    (h : ((((il14 : Int) < (nl9 : Int)) → ((0 ≤ il14 ∧ il14 < nl9) ∧ ∃ a49, Al9 = some a49 ∧ (∃ (b50 : Bool) (A51 : Option Addr) (n51 c51 : Nat) (A52 : Option Addr) (n52 c52 : Nat), CellsAt w (a49.add ((il14).toNat * 3)) [(.bool b50), (.slice A51 n51 c51), (.slice A52 n52 c52)] ∧ (∀ w53, Ext B [] w w53 → (Pure Tryz.prog 70 #[(.string sl1)] w53 fun r57 w58 => ∃ (b54 : Bool) (A55 : Option Addr) (n55 c55 : Nat) (A56 : Option Addr) (n56 c56 : Nat), r57 = (.agg #[(.bool b54), (.slice A55 n55 c55), (.slice A56 n56 c56)]) ∧ (Pure Tryz.prog 37 #[(.agg #[(.bool b50), (.slice A51 n51 c51), (.slice A52 n52 c52)]), (.agg #[(.bool blx13_0), (.slice Alx13_1 nlx13_1 clx13_1), (.slice Alx13_2 nlx13_2 clx13_2)])] w58 fun r62 w63 => ∃ (b59 : Bool) (A60 : Option Addr) (n60 c60 : Nat) (A61 : Option Addr) (n61 c61 : Nat), r62 = (.agg #[(.bool b59), (.slice A60 n60 c60), (.slice A61 n61 c61)]) ∧ (Pure Tryz.prog 71 #[(.agg #[(.bool b59), (.slice A60 n60 c60), (.slice A61 n61 c61)])] w63 fun r67 w68 => ∃ (b64 : Bool) (A65 : Option Addr) (n65 c65 : Nat) (A66 : Option Addr) (n66 c66 : Nat), r67 = (.agg #[(.bool b64), (.slice A65 n65 c65), (.slice A66 n66 c66)]) ∧ (Pure Tryz.prog 38 #[(.agg #[(.bool b54), (.slice A55 n55 c55), (.slice A56 n56 c56)]), (.agg #[(.bool b64), (.slice A65 n65 c65), (.slice A66 n66 c66)])] w68 fun r70 w71 => ∃ (b69 : Bool), r70 = (.bool b69) ∧ ((b69 = true → (Pure Tryz.prog 51 #[(.agg #[(.bool blx13_0), (.slice Alx13_1 nlx13_1 clx13_1), (.slice Alx13_2 nlx13_2 clx13_2)])] w71 fun r73 w74 => ∃ (s72 : ByteArray), r73 = (.string s72) ∧ (R (.tuple #[(.string s72), (.bool false), (.int .i64 (0 : Int))]) w74))) ∧ (b69 = false → (inR .i64 (il14 + (1 : Int)) ∧ (garboardref55_Vote.L23 sl1 Al9 nl9 cl9 (il14 + (1 : Int)) blx13_0 Alx13_1 nlx13_1 clx13_1 Alx13_2 nlx13_2 clx13_2 B w71 R)))))))))))) ∧ (¬ ((il14 : Int) < (nl9 : Int)) → (Pure Tryz.prog 51 #[(.agg #[(.bool blx13_0), (.slice Alx13_1 nlx13_1 clx13_1), (.slice Alx13_2 nlx13_2 clx13_2)])] w fun r76 w77 => ∃ (s75 : ByteArray), r76 = (.string s75) ∧ (R (.tuple #[(.string s75), (.bool true), (.int .i64 (0 : Int))]) w77))))) :
    garboardref55_Vote.L23 sl1 Al9 nl9 cl9 il14 blx13_0 Alx13_1 nlx13_1 clx13_1 Alx13_2 nlx13_2 clx13_2 B w R :=
  loop_of_run (garboardref55_Vote.cx w B R) 100000 (loopAt Tryz.f28 23) _ _ follows Tryz.func28 rfl rfl rfl (Eq.mp (by kernel_rfl) h)
theorem garboardref55_Vote.J18.step (Al0 : Option Addr) (nl0 cl0 : Nat) (sl1 : ByteArray) (Al9 : Option Addr) (nl9 cl9 : Nat) (il10 : Int) (al11 : Addr) (il12 : Int) (B : Nat) (w : World) (R : Value → World → Prop)
    (h : ((0 ≤ il12 ∧ il12 ≤ (cl9 : Int)) ∧ ((0 ≤ il12 ∧ il12 ≤ (nl9 : Int) ∧ nl9 ≤ cl9) ∧ ((∀ w78, Ext B [] w w78 → (RunOk Tryz.prog (Instr.buildSlice 98 0 #[]) B [] w78 fun r80 w81 => ∃ (A79 : Option Addr) (n79 c79 : Nat), r80 = (.slice A79 n79 c79) ∧ ((RunOk Tryz.prog (Builtin.append_ #[98, 98] 98 #[(.slice A79 n79 c79), (.slice Al9 ((il12).toNat) cl9)]) B [] w81 fun r83 w84 => ∃ (A82 : Option Addr) (n82 c82 : Nat), r83 = (.slice A82 n82 c82) ∧ (∃ (b85 : Bool) (A86 : Option Addr) (n86 c86 : Nat) (A87 : Option Addr) (n87 c87 : Nat), CellsAt w84 al11 [(.bool b85), (.slice A86 n86 c86), (.slice A87 n87 c87)] ∧ (RunOk Tryz.prog (Instr.buildSlice 98 1 #[(0, (.agg #[(.bool b85), (.slice A86 n86 c86), (.slice A87 n87 c87)]))]) B [] w84 fun r89 w90 => ∃ (A88 : Option Addr) (n88 c88 : Nat), r89 = (.slice A88 n88 c88) ∧ (RunOk Tryz.prog (Builtin.append_ #[98, 98] 98 #[(.slice A82 n82 c82), (.slice A88 n88 c88)]) B [] w90 fun r92 w93 => ∃ (A91 : Option Addr) (n91 c91 : Nat), r92 = (.slice A91 n91 c91) ∧ (RunOk Tryz.prog (Builtin.append_ #[98, 98] 98 #[(.slice A91 n91 c91), (.slice (cutAddr Al9 ((il12).toNat) cl9 3) (nl9 - (il12).toNat) (cl9 - (il12).toNat))]) B [] w93 fun r95 w96 => ∃ (A94 : Option Addr) (n94 c94 : Nat), r95 = (.slice A94 n94 c94) ∧ (inR .i64 (il10 + (1 : Int)) ∧ (garboardref55_Vote.L12 Al0 nl0 cl0 sl1 A94 n94 c94 (il10 + (1 : Int)) B w96 R))))))) ∧ (∃ (b97 : Bool) (A98 : Option Addr) (n98 c98 : Nat) (A99 : Option Addr) (n99 c99 : Nat), CellsAt w81 al11 [(.bool b97), (.slice A98 n98 c98), (.slice A99 n99 c99)] ∧ ((RunOk Tryz.prog (Builtin.append_ #[98, 98] 98 #[(.slice A79 n79 c79), (.slice Al9 ((il12).toNat) cl9)]) B [] w81 fun r101 w102 => ∃ (A100 : Option Addr) (n100 c100 : Nat), r101 = (.slice A100 n100 c100) ∧ (RunOk Tryz.prog (Instr.buildSlice 98 1 #[(0, (.agg #[(.bool b97), (.slice A98 n98 c98), (.slice A99 n99 c99)]))]) B [] w102 fun r104 w105 => ∃ (A103 : Option Addr) (n103 c103 : Nat), r104 = (.slice A103 n103 c103) ∧ (RunOk Tryz.prog (Builtin.append_ #[98, 98] 98 #[(.slice A100 n100 c100), (.slice A103 n103 c103)]) B [] w105 fun r107 w108 => ∃ (A106 : Option Addr) (n106 c106 : Nat), r107 = (.slice A106 n106 c106) ∧ (RunOk Tryz.prog (Builtin.append_ #[98, 98] 98 #[(.slice A106 n106 c106), (.slice (cutAddr Al9 ((il12).toNat) cl9 3) (nl9 - (il12).toNat) (cl9 - (il12).toNat))]) B [] w108 fun r110 w111 => ∃ (A109 : Option Addr) (n109 c109 : Nat), r110 = (.slice A109 n109 c109) ∧ (inR .i64 (il10 + (1 : Int)) ∧ (garboardref55_Vote.L12 Al0 nl0 cl0 sl1 A109 n109 c109 (il10 + (1 : Int)) B w111 R)))))) ∧ (RunOk Tryz.prog (Instr.buildSlice 98 1 #[(0, (.agg #[(.bool b97), (.slice A98 n98 c98), (.slice A99 n99 c99)]))]) B [] w81 fun r113 w114 => ∃ (A112 : Option Addr) (n112 c112 : Nat), r113 = (.slice A112 n112 c112) ∧ (RunOk Tryz.prog (Builtin.append_ #[98, 98] 98 #[(.slice A79 n79 c79), (.slice Al9 ((il12).toNat) cl9)]) B [] w114 fun r116 w117 => ∃ (A115 : Option Addr) (n115 c115 : Nat), r116 = (.slice A115 n115 c115) ∧ (RunOk Tryz.prog (Builtin.append_ #[98, 98] 98 #[(.slice A115 n115 c115), (.slice A112 n112 c112)]) B [] w117 fun r119 w120 => ∃ (A118 : Option Addr) (n118 c118 : Nat), r119 = (.slice A118 n118 c118) ∧ (RunOk Tryz.prog (Builtin.append_ #[98, 98] 98 #[(.slice A118 n118 c118), (.slice (cutAddr Al9 ((il12).toNat) cl9 3) (nl9 - (il12).toNat) (cl9 - (il12).toNat))]) B [] w120 fun r122 w123 => ∃ (A121 : Option Addr) (n121 c121 : Nat), r122 = (.slice A121 n121 c121) ∧ (inR .i64 (il10 + (1 : Int)) ∧ (garboardref55_Vote.L12 Al0 nl0 cl0 sl1 A121 n121 c121 (il10 + (1 : Int)) B w123 R))))))))))) ∧ (∀ w124, Ext B [] w w124 → (∃ (b125 : Bool) (A126 : Option Addr) (n126 c126 : Nat) (A127 : Option Addr) (n127 c127 : Nat), CellsAt w124 al11 [(.bool b125), (.slice A126 n126 c126), (.slice A127 n127 c127)] ∧ ((RunOk Tryz.prog (Instr.buildSlice 98 0 #[]) B [] w124 fun r129 w130 => ∃ (A128 : Option Addr) (n128 c128 : Nat), r129 = (.slice A128 n128 c128) ∧ ((RunOk Tryz.prog (Builtin.append_ #[98, 98] 98 #[(.slice A128 n128 c128), (.slice Al9 ((il12).toNat) cl9)]) B [] w130 fun r132 w133 => ∃ (A131 : Option Addr) (n131 c131 : Nat), r132 = (.slice A131 n131 c131) ∧ (RunOk Tryz.prog (Instr.buildSlice 98 1 #[(0, (.agg #[(.bool b125), (.slice A126 n126 c126), (.slice A127 n127 c127)]))]) B [] w133 fun r135 w136 => ∃ (A134 : Option Addr) (n134 c134 : Nat), r135 = (.slice A134 n134 c134) ∧ (RunOk Tryz.prog (Builtin.append_ #[98, 98] 98 #[(.slice A131 n131 c131), (.slice A134 n134 c134)]) B [] w136 fun r138 w139 => ∃ (A137 : Option Addr) (n137 c137 : Nat), r138 = (.slice A137 n137 c137) ∧ (RunOk Tryz.prog (Builtin.append_ #[98, 98] 98 #[(.slice A137 n137 c137), (.slice (cutAddr Al9 ((il12).toNat) cl9 3) (nl9 - (il12).toNat) (cl9 - (il12).toNat))]) B [] w139 fun r141 w142 => ∃ (A140 : Option Addr) (n140 c140 : Nat), r141 = (.slice A140 n140 c140) ∧ (inR .i64 (il10 + (1 : Int)) ∧ (garboardref55_Vote.L12 Al0 nl0 cl0 sl1 A140 n140 c140 (il10 + (1 : Int)) B w142 R)))))) ∧ (RunOk Tryz.prog (Instr.buildSlice 98 1 #[(0, (.agg #[(.bool b125), (.slice A126 n126 c126), (.slice A127 n127 c127)]))]) B [] w130 fun r144 w145 => ∃ (A143 : Option Addr) (n143 c143 : Nat), r144 = (.slice A143 n143 c143) ∧ (RunOk Tryz.prog (Builtin.append_ #[98, 98] 98 #[(.slice A128 n128 c128), (.slice Al9 ((il12).toNat) cl9)]) B [] w145 fun r147 w148 => ∃ (A146 : Option Addr) (n146 c146 : Nat), r147 = (.slice A146 n146 c146) ∧ (RunOk Tryz.prog (Builtin.append_ #[98, 98] 98 #[(.slice A146 n146 c146), (.slice A143 n143 c143)]) B [] w148 fun r150 w151 => ∃ (A149 : Option Addr) (n149 c149 : Nat), r150 = (.slice A149 n149 c149) ∧ (RunOk Tryz.prog (Builtin.append_ #[98, 98] 98 #[(.slice A149 n149 c149), (.slice (cutAddr Al9 ((il12).toNat) cl9 3) (nl9 - (il12).toNat) (cl9 - (il12).toNat))]) B [] w151 fun r153 w154 => ∃ (A152 : Option Addr) (n152 c152 : Nat), r153 = (.slice A152 n152 c152) ∧ (inR .i64 (il10 + (1 : Int)) ∧ (garboardref55_Vote.L12 Al0 nl0 cl0 sl1 A152 n152 c152 (il10 + (1 : Int)) B w154 R)))))))) ∧ (RunOk Tryz.prog (Instr.buildSlice 98 1 #[(0, (.agg #[(.bool b125), (.slice A126 n126 c126), (.slice A127 n127 c127)]))]) B [] w124 fun r156 w157 => ∃ (A155 : Option Addr) (n155 c155 : Nat), r156 = (.slice A155 n155 c155) ∧ (RunOk Tryz.prog (Instr.buildSlice 98 0 #[]) B [] w157 fun r159 w160 => ∃ (A158 : Option Addr) (n158 c158 : Nat), r159 = (.slice A158 n158 c158) ∧ (RunOk Tryz.prog (Builtin.append_ #[98, 98] 98 #[(.slice A158 n158 c158), (.slice Al9 ((il12).toNat) cl9)]) B [] w160 fun r162 w163 => ∃ (A161 : Option Addr) (n161 c161 : Nat), r162 = (.slice A161 n161 c161) ∧ (RunOk Tryz.prog (Builtin.append_ #[98, 98] 98 #[(.slice A161 n161 c161), (.slice A155 n155 c155)]) B [] w163 fun r165 w166 => ∃ (A164 : Option Addr) (n164 c164 : Nat), r165 = (.slice A164 n164 c164) ∧ (RunOk Tryz.prog (Builtin.append_ #[98, 98] 98 #[(.slice A164 n164 c164), (.slice (cutAddr Al9 ((il12).toNat) cl9 3) (nl9 - (il12).toNat) (cl9 - (il12).toNat))]) B [] w166 fun r168 w169 => ∃ (A167 : Option Addr) (n167 c167 : Nat), r168 = (.slice A167 n167 c167) ∧ (inR .i64 (il10 + (1 : Int)) ∧ (garboardref55_Vote.L12 Al0 nl0 cl0 sl1 A167 n167 c167 (il10 + (1 : Int)) B w169 R)))))))))))))) :
    garboardref55_Vote.J18 Al0 nl0 cl0 sl1 Al9 nl9 cl9 il10 al11 il12 B w R :=
  join_of_run (garboardref55_Vote.cx w B R) 100000 (regionAt Tryz.f28 18) _ _ follows Tryz.func28 rfl rfl rfl (Eq.mp (by kernel_rfl) h)
theorem garboardref55_Vote.vc (Ap0 : Option Addr) (np0 cp0 : Nat) (sp1 : ByteArray) (w : World) (R : Value → World → Prop)
    (h : (Pure Tryz.prog 50 #[(.string sp1)] w fun r2 w3 => ∃ (b1 : Bool), r2 = (.bool b1) ∧ (garboardref55_Vote.L3 Ap0 np0 cp0 sp1 b1 (0 : Int) w.heap.size w3 R))) :
    Pure Tryz.prog 28 #[(.slice Ap0 np0 cp0), (.string sp1)] w R :=
  pure_of_run (garboardref55_Vote.cx w w.heap.size R) 100000 follows Tryz.func28 rfl rfl rfl rfl rfl rfl rfl (Eq.mp (by kernel_rfl) h)

noncomputable def garboardref55_fault.cx (w : World) (B : Nat) (R : Value → World → Prop) : Cx := ⟨Tryz.prog, 45, 92, Tryz.f45.results.toList, [], [], w, B, R⟩
theorem garboardref55_fault.vc (Ap0 : Option Addr) (np0 cp0 : Nat) (ip1 : Int) (w : World) (R : Value → World → Prop)
    (h : ((0 ≤ ip1 ∧ ip1 < np0) ∧ ∃ a1, Ap0 = some a1 ∧ (∃ (i2 : Int) (s3 : ByteArray) (s4 : ByteArray) (s5 : ByteArray) (s6 : ByteArray) (s7 : ByteArray) (s8 : ByteArray), CellsAt w (a1.add ((ip1).toNat * 7)) [(.int .i64 i2), (.string s3), (.string s4), (.string s5), (.string s6), (.string s7), (.string s8)] ∧ (∀ w9, Ext w.heap.size [] w w9 → (Pure Tryz.prog 50 #[(.string s4)] w9 fun r11 w12 => ∃ (b10 : Bool), r11 = (.bool b10) ∧ (((b10 = false) → (R (.int .i64 (1 : Int)) w12)) ∧ (¬ (b10 = false) → (Pure Tryz.prog 50 #[(.string s5)] w12 fun r14 w15 => ∃ (b13 : Bool), r14 = (.bool b13) ∧ (((b13 = false) → (R (.int .i64 (1 : Int)) w15)) ∧ (¬ (b13 = false) → (Pure Tryz.prog 50 #[(.string s6)] w15 fun r17 w18 => ∃ (b16 : Bool), r17 = (.bool b16) ∧ (((b16 = false) → (R (.int .i64 (1 : Int)) w18)) ∧ (¬ (b16 = false) → (Pure Tryz.prog 50 #[(.string s7)] w18 fun r20 w21 => ∃ (b19 : Bool), r20 = (.bool b19) ∧ (((b19 = false) → (R (.int .i64 (1 : Int)) w21)) ∧ (¬ (b19 = false) → (Pure Tryz.prog 50 #[(.string s8)] w21 fun r23 w24 => ∃ (b22 : Bool), r23 = (.bool b22) ∧ (((b22 = false) → (R (.int .i64 (1 : Int)) w24)) ∧ (¬ (b22 = false) → (((((ByteArray.size s3 : Int) : Int) < (1 : Int)) → (R (.int .i64 (4 : Int)) w24)) ∧ (¬ (((ByteArray.size s3 : Int) : Int) < (1 : Int)) → (((((ByteArray.size s3 : Int) : Int) > (64 : Int)) → (R (.int .i64 (4 : Int)) w24)) ∧ (¬ (((ByteArray.size s3 : Int) : Int) > (64 : Int)) → ((((i2 : Int) < (1 : Int)) → (∀ w25, Ext w.heap.size [] w24 w25 → (R (.int .i64 (2 : Int)) w25))) ∧ (¬ ((i2 : Int) < (1 : Int)) → ((((i2 : Int) > (1073741824 : Int)) → (∀ w26, Ext w.heap.size [] w24 w26 → (R (.int .i64 (2 : Int)) w26))) ∧ (¬ ((i2 : Int) > (1073741824 : Int)) → (∀ w27, Ext w.heap.size [] w24 w27 → (Pure Tryz.prog 70 #[(.string s4)] w27 fun r31 w32 => ∃ (b28 : Bool) (A29 : Option Addr) (n29 c29 : Nat) (A30 : Option Addr) (n30 c30 : Nat), r31 = (.agg #[(.bool b28), (.slice A29 n29 c29), (.slice A30 n30 c30)]) ∧ (Pure Tryz.prog 69 #[(.agg #[(.bool b28), (.slice A29 n29 c29), (.slice A30 n30 c30)])] w32 fun r34 w35 => ∃ (i33 : Int), r34 = (.int .i64 i33) ∧ ((((i33 : Int) = (0 : Int)) → (R (.int .i64 (2 : Int)) w35)) ∧ (¬ ((i33 : Int) = (0 : Int)) → (Pure Tryz.prog 70 #[(.string s7)] w35 fun r39 w40 => ∃ (b36 : Bool) (A37 : Option Addr) (n37 c37 : Nat) (A38 : Option Addr) (n38 c38 : Nat), r39 = (.agg #[(.bool b36), (.slice A37 n37 c37), (.slice A38 n38 c38)]) ∧ (Pure Tryz.prog 70 #[(.string s6)] w40 fun r44 w45 => ∃ (b41 : Bool) (A42 : Option Addr) (n42 c42 : Nat) (A43 : Option Addr) (n43 c43 : Nat), r44 = (.agg #[(.bool b41), (.slice A42 n42 c42), (.slice A43 n43 c43)]) ∧ (Pure Tryz.prog 38 #[(.agg #[(.bool b36), (.slice A37 n37 c37), (.slice A38 n38 c38)]), (.agg #[(.bool b41), (.slice A42 n42 c42), (.slice A43 n43 c43)])] w45 fun r47 w48 => ∃ (b46 : Bool), r47 = (.bool b46) ∧ ((b46 = true → (R (.int .i64 (2 : Int)) w48)) ∧ (b46 = false → (Pure Tryz.prog 70 #[(.string s8)] w48 fun r52 w53 => ∃ (b49 : Bool) (A50 : Option Addr) (n50 c50 : Nat) (A51 : Option Addr) (n51 c51 : Nat), r52 = (.agg #[(.bool b49), (.slice A50 n50 c50), (.slice A51 n51 c51)]) ∧ (Pure Tryz.prog 69 #[(.agg #[(.bool b49), (.slice A50 n50 c50), (.slice A51 n51 c51)])] w53 fun r55 w56 => ∃ (i54 : Int), r55 = (.int .i64 i54) ∧ ((((i54 : Int) ≤ (0 : Int)) → (R (.int .i64 (2 : Int)) w56)) ∧ (¬ ((i54 : Int) ≤ (0 : Int)) → ((((ip1 : Int) > (0 : Int)) → (inR .i64 (ip1 - (1 : Int)) ∧ ((0 ≤ (ip1 - (1 : Int)) ∧ (ip1 - (1 : Int)) < np0) ∧ ∃ a57, Ap0 = some a57 ∧ (∃ (i58 : Int), CellsAt w56 ((a57.add (((ip1 - (1 : Int))).toNat * 7)).add 0) [(.int .i64 i58)] ∧ ((((i58 : Int) ≥ i2) → (∀ w59, Ext w.heap.size [] w56 w59 → (R (.int .i64 (5 : Int)) w59))) ∧ (¬ ((i58 : Int) ≥ i2) → (∀ w60, Ext w.heap.size [] w56 w60 → (R (.int .i64 (0 : Int)) w60)))))))) ∧ (¬ ((ip1 : Int) > (0 : Int)) → (∀ w61, Ext w.heap.size [] w56 w61 → (R (.int .i64 (0 : Int)) w61))))))))))))))))))))))))))))))))))))))))))))) :
    Pure Tryz.prog 45 #[(.slice Ap0 np0 cp0), (.int .i64 ip1)] w R :=
  pure_of_run (garboardref55_fault.cx w w.heap.size R) 100000 follows Tryz.func45 rfl rfl rfl rfl rfl rfl rfl (Eq.mp (by kernel_rfl) h)

noncomputable def garboardref55_number.cx (w : World) (B : Nat) (R : Value → World → Prop) : Cx := ⟨Tryz.prog, 52, 15, Tryz.f52.results.toList, [], [], w, B, R⟩
theorem garboardref55_number.vc (ip0_0 : Int) (sp0_1 : ByteArray) (sp0_2 : ByteArray) (sp0_3 : ByteArray) (sp0_4 : ByteArray) (sp0_5 : ByteArray) (sp0_6 : ByteArray) (sp1 : ByteArray) (w : World) (R : Value → World → Prop)
    (h : (∀ w1, Ext w.heap.size [] w w1 → (Pure Tryz.prog 70 #[(.string sp0_2)] w1 fun r5 w6 => ∃ (b2 : Bool) (A3 : Option Addr) (n3 c3 : Nat) (A4 : Option Addr) (n4 c4 : Nat), r5 = (.agg #[(.bool b2), (.slice A3 n3 c3), (.slice A4 n4 c4)]) ∧ (Pure Tryz.prog 70 #[(.string sp1)] w6 fun r10 w11 => ∃ (b7 : Bool) (A8 : Option Addr) (n8 c8 : Nat) (A9 : Option Addr) (n9 c9 : Nat), r10 = (.agg #[(.bool b7), (.slice A8 n8 c8), (.slice A9 n9 c9)]) ∧ (Pure Tryz.prog 35 #[(.agg #[(.bool b2), (.slice A3 n3 c3), (.slice A4 n4 c4)]), (.agg #[(.bool b7), (.slice A8 n8 c8), (.slice A9 n9 c9)])] w11 fun r15 w16 => ∃ (b12 : Bool) (A13 : Option Addr) (n13 c13 : Nat) (A14 : Option Addr) (n14 c14 : Nat), r15 = (.agg #[(.bool b12), (.slice A13 n13 c13), (.slice A14 n14 c14)]) ∧ (Pure Tryz.prog 70 #[(.string sp0_3)] w16 fun r20 w21 => ∃ (b17 : Bool) (A18 : Option Addr) (n18 c18 : Nat) (A19 : Option Addr) (n19 c19 : Nat), r20 = (.agg #[(.bool b17), (.slice A18 n18 c18), (.slice A19 n19 c19)]) ∧ (Pure Tryz.prog 86 #[(.agg #[(.bool b12), (.slice A13 n13 c13), (.slice A14 n14 c14)]), (.agg #[(.bool b17), (.slice A18 n18 c18), (.slice A19 n19 c19)])] w21 fun r25 w26 => ∃ (b22 : Bool) (A23 : Option Addr) (n23 c23 : Nat) (A24 : Option Addr) (n24 c24 : Nat), r25 = (.agg #[(.bool b22), (.slice A23 n23 c23), (.slice A24 n24 c24)]) ∧ (∀ w27, Ext w.heap.size [62] w26 w27 → (R (.agg #[(.bool b22), (.slice A23 n23 c23), (.slice A24 n24 c24)]) w27))))))))) :
    Pure Tryz.prog 52 #[(.agg #[(.int .i64 ip0_0), (.string sp0_1), (.string sp0_2), (.string sp0_3), (.string sp0_4), (.string sp0_5), (.string sp0_6)]), (.string sp1)] w R :=
  pure_of_run (garboardref55_number.cx w w.heap.size R) 100000 follows Tryz.func52 rfl rfl rfl rfl rfl rfl rfl (Eq.mp (by kernel_rfl) h)

def garboardref55_Are.L4 (Al0 : Option Addr) (nl0 cl0 : Nat) (Al1 : Option Addr) (nl1 cl1 : Nat) (il5 : Int) (B : Nat) (w : World) (R : Value → World → Prop) : Prop := At Tryz.prog 57 65 (loopAt Tryz.f57 4) [(0, .v (.slice Al0 nl0 cl0)), (1, .v (.slice Al1 nl1 cl1)), (5, .v (.int .i64 il5))] [] B w R
noncomputable def garboardref55_Are.cx (w : World) (B : Nat) (R : Value → World → Prop) : Cx := ⟨Tryz.prog, 57, 65, Tryz.f57.results.toList, [((true, 4), [0, 1, 5], [])], [(7, 9999, 3)], w, B, R⟩
theorem garboardref55_Are.L4.step (Al0 : Option Addr) (nl0 cl0 : Nat) (Al1 : Option Addr) (nl1 cl1 : Nat) (il5 : Int) (B : Nat) (w : World) (R : Value → World → Prop)
    (h : ((((il5 : Int) < (nl0 : Int)) → ((0 ≤ il5 ∧ il5 < nl1) ∧ ∃ a1, Al1 = some a1 ∧ (∃ (i2 : Int) (i3 : Int) (i4 : Int) (s5 : ByteArray), CellsAt w (a1.add ((il5).toNat * 4)) [(.int .i64 i2), (.int .i64 i3), (.int .i64 i4), (.string s5)] ∧ (∀ w6, Ext B [] w w6 → ((0 ≤ il5 ∧ il5 < nl0) ∧ ∃ a7, Al0 = some a7 ∧ (∃ (i8 : Int), CellsAt w6 ((a7.add ((il5).toNat * 7)).add 0) [(.int .i64 i8)] ∧ ((((i2 : Int) ≠ i8) → (∀ w9, Ext B [] w6 w9 → (R (.bool false) w9))) ∧ (¬ ((i2 : Int) ≠ i8) → ((((i4 : Int) < (0 : Int)) → (∀ w10, Ext B [] w6 w10 → (R (.bool false) w10))) ∧ (¬ ((i4 : Int) < (0 : Int)) → ((((i4 : Int) > (3 : Int)) → (∀ w11, Ext B [] w6 w11 → (R (.bool false) w11))) ∧ (¬ ((i4 : Int) > (3 : Int)) → (∀ w12, Ext B [] w6 w12 → (Pure Tryz.prog 58 #[(.int .i64 i3)] w12 fun r14 w15 => ∃ (b13 : Bool), r14 = (.bool b13) ∧ (((b13 = false) → (R (.bool false) w15)) ∧ (¬ (b13 = false) → (Pure Tryz.prog 50 #[(.string s5)] w15 fun r17 w18 => ∃ (b16 : Bool), r17 = (.bool b16) ∧ (((b16 = false) → (R (.bool false) w18)) ∧ (¬ (b16 = false) → ((((i4 : Int) = (0 : Int)) → ((((i3 : Int) ≠ (0 : Int)) → (R (.bool false) w18)) ∧ (¬ ((i3 : Int) ≠ (0 : Int)) → (((s5 ≠ (⟨#[48]⟩ : ByteArray)) → (R (.bool false) w18)) ∧ (¬ (s5 ≠ (⟨#[48]⟩ : ByteArray)) → (inR .i64 (il5 + (1 : Int)) ∧ (garboardref55_Are.L4 Al0 nl0 cl0 Al1 nl1 cl1 (il5 + (1 : Int)) B w18 R))))))) ∧ (¬ ((i4 : Int) = (0 : Int)) → (inR .i64 (il5 + (1 : Int)) ∧ (garboardref55_Are.L4 Al0 nl0 cl0 Al1 nl1 cl1 (il5 + (1 : Int)) B w18 R))))))))))))))))))))))) ∧ (¬ ((il5 : Int) < (nl0 : Int)) → (R (.bool true) w)))) :
    garboardref55_Are.L4 Al0 nl0 cl0 Al1 nl1 cl1 il5 B w R :=
  loop_of_run (garboardref55_Are.cx w B R) 100000 (loopAt Tryz.f57 4) _ _ follows Tryz.func57 rfl rfl rfl (Eq.mp (by kernel_rfl) h)
theorem garboardref55_Are.vc (Ap0 : Option Addr) (np0 cp0 : Nat) (Ap1 : Option Addr) (np1 cp1 : Nat) (w : World) (R : Value → World → Prop)
    (h : (((((np0 : Int) : Int) ≠ (np1 : Int)) → (R (.bool false) w)) ∧ (¬ (((np0 : Int) : Int) ≠ (np1 : Int)) → (garboardref55_Are.L4 Ap0 np0 cp0 Ap1 np1 cp1 (0 : Int) w.heap.size w R)))) :
    Pure Tryz.prog 57 #[(.slice Ap0 np0 cp0), (.slice Ap1 np1 cp1)] w R :=
  pure_of_run (garboardref55_Are.cx w w.heap.size R) 100000 follows Tryz.func57 rfl rfl rfl rfl rfl rfl rfl (Eq.mp (by kernel_rfl) h)

noncomputable def garboardref55_tick.cx (w : World) (B : Nat) (R : Value → World → Prop) : Cx := ⟨Tryz.prog, 58, 9, Tryz.f58.results.toList, [], [], w, B, R⟩
theorem garboardref55_tick.vc (ip0 : Int) (w : World) (R : Value → World → Prop)
    (h : ((((ip0 : Int) ≥ (0 : Int)) → (R (.bool (decide ((ip0 : Int) ≤ (1073741824 : Int)))) w)) ∧ (¬ ((ip0 : Int) ≥ (0 : Int)) → (R (.bool false) w)))) :
    Pure Tryz.prog 58 #[(.int .i64 ip0)] w R :=
  pure_of_run (garboardref55_tick.cx w w.heap.size R) 100000 follows Tryz.func58 rfl rfl rfl rfl rfl rfl rfl (Eq.mp (by kernel_rfl) h)

noncomputable def garboardref55_quality.cx (w : World) (B : Nat) (R : Value → World → Prop) : Cx := ⟨Tryz.prog, 59, 42, Tryz.f59.results.toList, [], [], w, B, R⟩
theorem garboardref55_quality.vc (ip0_0 : Int) (sp0_1 : ByteArray) (sp0_2 : ByteArray) (sp0_3 : ByteArray) (sp0_4 : ByteArray) (sp0_5 : ByteArray) (sp0_6 : ByteArray) (ip1_0 : Int) (ip1_1 : Int) (ip1_2 : Int) (sp1_3 : ByteArray) (bp2_0 : Bool) (Ap2_1 : Option Addr) (np2_1 cp2_1 : Nat) (Ap2_2 : Option Addr) (np2_2 cp2_2 : Nat) (ip3 : Int) (w : World) (R : Value → World → Prop)
    (h : (∀ w1, Ext w.heap.size [] w w1 → (Pure Tryz.prog 70 #[(.string sp0_4)] w1 fun r5 w6 => ∃ (b2 : Bool) (A3 : Option Addr) (n3 c3 : Nat) (A4 : Option Addr) (n4 c4 : Nat), r5 = (.agg #[(.bool b2), (.slice A3 n3 c3), (.slice A4 n4 c4)]) ∧ (Pure Tryz.prog 38 #[(.agg #[(.bool bp2_0), (.slice Ap2_1 np2_1 cp2_1), (.slice Ap2_2 np2_2 cp2_2)]), (.agg #[(.bool b2), (.slice A3 n3 c3), (.slice A4 n4 c4)])] w6 fun r8 w9 => ∃ (b7 : Bool), r8 = (.bool b7) ∧ ((b7 = true → (R (.int .i64 (2 : Int)) w9)) ∧ (b7 = false → (Pure Tryz.prog 70 #[(.string sp0_5)] w9 fun r13 w14 => ∃ (b10 : Bool) (A11 : Option Addr) (n11 c11 : Nat) (A12 : Option Addr) (n12 c12 : Nat), r13 = (.agg #[(.bool b10), (.slice A11 n11 c11), (.slice A12 n12 c12)]) ∧ (Pure Tryz.prog 38 #[(.agg #[(.bool b10), (.slice A11 n11 c11), (.slice A12 n12 c12)]), (.agg #[(.bool bp2_0), (.slice Ap2_1 np2_1 cp2_1), (.slice Ap2_2 np2_2 cp2_2)])] w14 fun r16 w17 => ∃ (b15 : Bool), r16 = (.bool b15) ∧ ((b15 = true → (R (.int .i64 (2 : Int)) w17)) ∧ (b15 = false → ((((ip1_2 : Int) = (1 : Int)) → (inR .i64 (ip3 - ip1_1) ∧ (∀ w18, Ext w.heap.size [] w17 w18 → (Pure Tryz.prog 70 #[(.string sp0_6)] w18 fun r22 w23 => ∃ (b19 : Bool) (A20 : Option Addr) (n20 c20 : Nat) (A21 : Option Addr) (n21 c21 : Nat), r22 = (.agg #[(.bool b19), (.slice A20 n20 c20), (.slice A21 n21 c21)]) ∧ (Pure Tryz.prog 36 #[(.int .i64 (ip3 - ip1_1))] w23 fun r27 w28 => ∃ (b24 : Bool) (A25 : Option Addr) (n25 c25 : Nat) (A26 : Option Addr) (n26 c26 : Nat), r27 = (.agg #[(.bool b24), (.slice A25 n25 c25), (.slice A26 n26 c26)]) ∧ (Pure Tryz.prog 35 #[(.agg #[(.bool b19), (.slice A20 n20 c20), (.slice A21 n21 c21)]), (.agg #[(.bool b24), (.slice A25 n25 c25), (.slice A26 n26 c26)])] w28 fun r32 w33 => ∃ (b29 : Bool) (A30 : Option Addr) (n30 c30 : Nat) (A31 : Option Addr) (n31 c31 : Nat), r32 = (.agg #[(.bool b29), (.slice A30 n30 c30), (.slice A31 n31 c31)]) ∧ (Pure Tryz.prog 70 #[(.string sp1_3)] w33 fun r37 w38 => ∃ (b34 : Bool) (A35 : Option Addr) (n35 c35 : Nat) (A36 : Option Addr) (n36 c36 : Nat), r37 = (.agg #[(.bool b34), (.slice A35 n35 c35), (.slice A36 n36 c36)]) ∧ (Pure Tryz.prog 37 #[(.agg #[(.bool bp2_0), (.slice Ap2_1 np2_1 cp2_1), (.slice Ap2_2 np2_2 cp2_2)]), (.agg #[(.bool b34), (.slice A35 n35 c35), (.slice A36 n36 c36)])] w38 fun r42 w43 => ∃ (b39 : Bool) (A40 : Option Addr) (n40 c40 : Nat) (A41 : Option Addr) (n41 c41 : Nat), r42 = (.agg #[(.bool b39), (.slice A40 n40 c40), (.slice A41 n41 c41)]) ∧ (Pure Tryz.prog 71 #[(.agg #[(.bool b39), (.slice A40 n40 c40), (.slice A41 n41 c41)])] w43 fun r47 w48 => ∃ (b44 : Bool) (A45 : Option Addr) (n45 c45 : Nat) (A46 : Option Addr) (n46 c46 : Nat), r47 = (.agg #[(.bool b44), (.slice A45 n45 c45), (.slice A46 n46 c46)]) ∧ (Pure Tryz.prog 38 #[(.agg #[(.bool b29), (.slice A30 n30 c30), (.slice A31 n31 c31)]), (.agg #[(.bool b44), (.slice A45 n45 c45), (.slice A46 n46 c46)])] w48 fun r50 w51 => ∃ (b49 : Bool), r50 = (.bool b49) ∧ ((b49 = true → (R (.int .i64 (3 : Int)) w51)) ∧ (b49 = false → (R (.int .i64 (1 : Int)) w51))))))))))))) ∧ (¬ ((ip1_2 : Int) = (1 : Int)) → (∀ w52, Ext w.heap.size [] w17 w52 → (R (.int .i64 (1 : Int)) w52)))))))))))))) :
    Pure Tryz.prog 59 #[(.agg #[(.int .i64 ip0_0), (.string sp0_1), (.string sp0_2), (.string sp0_3), (.string sp0_4), (.string sp0_5), (.string sp0_6)]), (.agg #[(.int .i64 ip1_0), (.int .i64 ip1_1), (.int .i64 ip1_2), (.string sp1_3)]), (.agg #[(.bool bp2_0), (.slice Ap2_1 np2_1 cp2_1), (.slice Ap2_2 np2_2 cp2_2)]), (.int .i64 ip3)] w R :=
  pure_of_run (garboardref55_quality.cx w w.heap.size R) 100000 follows Tryz.func59 rfl rfl rfl rfl rfl rfl rfl (Eq.mp (by kernel_rfl) h)

noncomputable def garboardref55_num.cx (w : World) (B : Nat) (R : Value → World → Prop) : Cx := ⟨Tryz.prog, 70, 5, Tryz.f70.results.toList, [], [], w, B, R⟩
theorem garboardref55_num.vc (sp0 : ByteArray) (w : World) (R : Value → World → Prop)
    (h : (∀ w1, Ext w.heap.size [] w w1 → (Pure Tryz.prog 104 #[(.string sp0)] w1 fun r5 w6 => ∃ (b2 : Bool) (A3 : Option Addr) (n3 c3 : Nat) (A4 : Option Addr) (n4 c4 : Nat), r5 = (.agg #[(.bool b2), (.slice A3 n3 c3), (.slice A4 n4 c4)]) ∧ (∀ w7, Ext w.heap.size [62] w6 w7 → (R (.agg #[(.bool b2), (.slice A3 n3 c3), (.slice A4 n4 c4)]) w7))))) :
    Pure Tryz.prog 70 #[(.string sp0)] w R :=
  pure_of_run (garboardref55_num.cx w w.heap.size R) 100000 follows Tryz.func70 rfl rfl rfl rfl rfl rfl rfl (Eq.mp (by kernel_rfl) h)

noncomputable def garboardref55_size.cx (w : World) (B : Nat) (R : Value → World → Prop) : Cx := ⟨Tryz.prog, 71, 9, Tryz.f71.results.toList, [], [], w, B, R⟩
theorem garboardref55_size.vc (bp0_0 : Bool) (Ap0_1 : Option Addr) (np0_1 cp0_1 : Nat) (Ap0_2 : Option Addr) (np0_2 cp0_2 : Nat) (w : World) (R : Value → World → Prop)
    (h : (∀ w1, Ext w.heap.size [] w w1 → (Pure Tryz.prog 69 #[(.agg #[(.bool bp0_0), (.slice Ap0_1 np0_1 cp0_1), (.slice Ap0_2 np0_2 cp0_2)])] w1 fun r3 w4 => ∃ (i2 : Int), r3 = (.int .i64 i2) ∧ ((((i2 : Int) < (0 : Int)) → (Pure Tryz.prog 39 #[(.agg #[(.bool bp0_0), (.slice Ap0_1 np0_1 cp0_1), (.slice Ap0_2 np0_2 cp0_2)])] w4 fun r8 w9 => ∃ (b5 : Bool) (A6 : Option Addr) (n6 c6 : Nat) (A7 : Option Addr) (n7 c7 : Nat), r8 = (.agg #[(.bool b5), (.slice A6 n6 c6), (.slice A7 n7 c7)]) ∧ (∀ w10, Ext w.heap.size [62] w9 w10 → (R (.agg #[(.bool b5), (.slice A6 n6 c6), (.slice A7 n7 c7)]) w10)))) ∧ (¬ ((i2 : Int) < (0 : Int)) → (∀ w11, Ext w.heap.size [62] w4 w11 → (R (.agg #[(.bool bp0_0), (.slice Ap0_1 np0_1 cp0_1), (.slice Ap0_2 np0_2 cp0_2)]) w11))))))) :
    Pure Tryz.prog 71 #[(.agg #[(.bool bp0_0), (.slice Ap0_1 np0_1 cp0_1), (.slice Ap0_2 np0_2 cp0_2)])] w R :=
  pure_of_run (garboardref55_size.cx w w.heap.size R) 100000 follows Tryz.func71 rfl rfl rfl rfl rfl rfl rfl (Eq.mp (by kernel_rfl) h)

end Go.Proofs.YtdoailkigecmkaaGreatDoor.F

namespace Go.Proofs.YtdoailkigecmkaaGreatDoor.B
open Go Go.RowKit Go.Proofs Go.Proofs.YtdoailkigecmkaaGreatDoor.Vc

def few1 (c : Ch) : Bool := decide (c.name.size ≤ 70 ∧ c.gain.size ≤ 40 ∧ c.offset.size ≤ 40 ∧ c.low.size ≤ 40 ∧ c.high.size ≤ 40 ∧ c.rate.size ≤ 40)
def fewV (v : Va) : Bool := decide (v.num.size ≤ 40)
def fewF (l : List Ch) (v : List Va) : Bool := l.all few1 && v.all fewV && decide (l.length ≤ 17 ∧ v.length ≤ 17)

theorem few_loop2 {w0 : World} {A A1 : Option Addr} {n n1 c c1 : Nat} {l : List Ch} {v : List Va} (hv : SlR w0 A1 4 (v.map Va.row)) (hlen : l.length = n) (hvlen : v.length = n1) (hn1 : n1 < 9223372036854775808) (hl : l.all few1 = true) {R : Value → World → Prop} (hR : ∀ w, R (.bool (fewF l v)) w) :
    ∀ (d i : Nat) (w : World), n1 - i = d → i ≤ n1 → Below w0.heap.size w0 w → (∀ x ∈ v.take i, fewV x = true) → F.garboardref55_Few.L8 A n c A1 n1 c1 i w0.heap.size w R := by
  intro d
  induction d with
  | zero =>
    intro i w hd hi hw hx
    have : i = n1 := by omega
    subst this
    rw [List.take_of_length_le (by omega)] at hx
    have hv' : v.all fewV = true := List.all_eq_true.2 hx
    refine F.garboardref55_Few.L8.step _ _ _ _ _ _ _ _ _ _ ⟨fun h => by omega, fun _ => ⟨fun h => ?_, fun h => ?_⟩⟩
    · have := hR w
      unfold fewF at this
      rw [hl, hv', Bool.true_and, Bool.true_and] at this
      have e : decide (((i : Nat) : Int) ≤ 17) = decide (l.length ≤ 17 ∧ v.length ≤ 17) := by
        rw [decide_eq_decide]
        omega
      rw [e]
      exact this
    · have := hR w
      unfold fewF at this
      rw [hl, hv', Bool.true_and, Bool.true_and, decide_eq_false (by omega)] at this
      exact this
  | succ d ih =>
    intro i w hd hi hw hx
    have hil : i < v.length := by omega
    obtain ⟨hb, a, hA, hrow⟩ := (hv.keep hw (Nat.le_refl _)).load (n := n1) (by simpa using hvlen) (j := (i : Int)) (by omega) (by omega)
    obtain ⟨_, hcell⟩ := hrow v[i].row (by rw [Int.toNat_natCast]; simp [hil]) rfl
    have e3 : (i : Int) + 1 = ((i + 1 : Nat) : Int) := by omega
    refine F.garboardref55_Few.L8.step _ _ _ _ _ _ _ _ _ _ ⟨fun _ => ⟨hb, a, hA, _, hcell 3 _ rfl, fun h => ?_, fun h => ⟨by simp only [inR]; omega, ?_⟩⟩, fun h => by omega⟩
    · have hbad : v.all fewV = false := by
        rw [Bool.eq_false_iff]
        intro k
        have := List.all_eq_true.1 k v[i] (List.getElem_mem _)
        unfold fewV at this
        have := of_decide_eq_true this
        omega
      have := hR w
      unfold fewF at this
      rw [hbad, Bool.and_false, Bool.false_and] at this
      exact this
    · rw [e3]
      refine ih (i + 1) w (by omega) (by omega) hw fun x hm => ?_
      rw [List.take_add_one, List.getElem?_eq_getElem hil] at hm
      rcases List.mem_append.1 hm with h' | h'
      · exact hx x h'
      · simp at h'
        subst h'
        exact decide_eq_true (by omega)
theorem few_loop1 {w0 : World} {A A1 : Option Addr} {n n1 c c1 : Nat} {l : List Ch} {v : List Va} (hc : SlR w0 A 7 (l.map Ch.row)) (hv : SlR w0 A1 4 (v.map Va.row)) (hlen : l.length = n) (hvlen : v.length = n1) (hn : n < 9223372036854775808) (hn1 : n1 < 9223372036854775808) {R : Value → World → Prop} (hR : ∀ w, R (.bool (fewF l v)) w) :
    ∀ (d i : Nat) (w : World), n - i = d → i ≤ n → Below w0.heap.size w0 w → (∀ x ∈ l.take i, few1 x = true) → F.garboardref55_Few.L2 A n c A1 n1 c1 i w0.heap.size w R := by
  intro d
  induction d with
  | zero =>
    intro i w hd hi hw hx
    have : i = n := by omega
    subst this
    rw [List.take_of_length_le (by omega)] at hx
    have hl' : l.all few1 = true := List.all_eq_true.2 hx
    exact F.garboardref55_Few.L2.step _ _ _ _ _ _ _ _ _ _ ⟨fun h => by omega, fun _ => few_loop2 hv hlen hvlen hn1 hl' hR n1 0 w rfl (by omega) hw (fun x hx => by simp at hx)⟩
  | succ d ih =>
    intro i w hd hi hw hx
    have hil : i < l.length := by omega
    obtain ⟨hb, a, hA, hrow⟩ := (hc.keep hw (Nat.le_refl _)).load (n := n) (by simpa using hlen) (j := (i : Int)) (by omega) (by omega)
    obtain ⟨hcell, _⟩ := hrow l[i].row (by rw [Int.toNat_natCast]; simp [hil]) rfl
    have e3 : (i : Int) + 1 = ((i + 1 : Nat) : Int) := by omega
    have bad : few1 l[i] = false → ∀ w, R (.bool false) w := fun h w2 => by
      have hbad : l.all few1 = false := by
        rw [Bool.eq_false_iff]
        intro k
        have := List.all_eq_true.1 k l[i] (List.getElem_mem _)
        rw [h] at this
        cases this
      have := hR w2
      unfold fewF at this
      rw [hbad, Bool.false_and, Bool.false_and] at this
      exact this
    refine F.garboardref55_Few.L2.step _ _ _ _ _ _ _ _ _ _ ⟨fun _ => ⟨hb, a, hA, _, _, _, _, _, _, _, hcell, fun h w2 _ => bad (decide_eq_false (by omega)) w2, fun h1 => ⟨fun h w2 _ => bad (decide_eq_false (by omega)) w2, fun h2 => ⟨fun h w2 _ => bad (decide_eq_false (by omega)) w2, fun h3 => ⟨fun h w2 _ => bad (decide_eq_false (by omega)) w2, fun h4 => ⟨fun h w2 _ => bad (decide_eq_false (by omega)) w2, fun h5 => ⟨fun h w2 _ => bad (decide_eq_false (by omega)) w2, fun h6 => ⟨by simp only [inR]; omega, fun w2 x2 => ?_⟩⟩⟩⟩⟩⟩⟩, fun h => by omega⟩
    rw [e3]
    refine ih (i + 1) w2 (by omega) (by omega) (kE hw x2) fun x hm => ?_
    rw [List.take_add_one, List.getElem?_eq_getElem hil] at hm
    rcases List.mem_append.1 hm with h' | h'
    · exact hx x h'
    · simp at h'
      subst h'
      exact decide_eq_true (by omega)
theorem ref_Few {w : World} {A A1 : Option Addr} {n n1 c c1 : Nat} {l : List Ch} {v : List Va} (hc : SlR w A 7 (l.map Ch.row)) (hv : SlR w A1 4 (v.map Va.row)) (hlen : l.length = n) (hvlen : v.length = n1) (hn : n < 9223372036854775808) (hn1 : n1 < 9223372036854775808) :
    Pure Tryz.prog 11 #[.slice A n c, .slice A1 n1 c1] w fun y _ => y = .bool (fewF l v) :=
  F.garboardref55_Few.vc _ _ _ _ _ _ _ _ (few_loop1 hc hv hlen hvlen hn hn1 (fun _ => rfl) n 0 w rfl (by omega) (Below.refl _ _) (fun x hx => by simp at hx))

theorem few_val {l : List Ch} {v : List Va} (h : fewF l v = true) : (l.length ≤ 17 ∧ v.length ≤ 17) ∧ (∀ x ∈ l, SmC x) ∧ (∀ x ∈ v, SmV x) := by
  unfold fewF at h
  rw [Bool.and_eq_true, Bool.and_eq_true] at h
  obtain ⟨⟨h1, h2⟩, h3⟩ := h
  refine ⟨of_decide_eq_true h3, fun x hx => ?_, fun x hx => ?_⟩
  · have := of_decide_eq_true (List.all_eq_true.1 h1 x hx)
    exact ⟨by omega, by unfold SmS; omega, by unfold SmS; omega, by unfold SmS; omega, by unfold SmS; omega, by unfold SmS; omega⟩
  · have := of_decide_eq_true (List.all_eq_true.1 h2 x hx)
    show x.num.size ≤ 1000
    omega
end Go.Proofs.YtdoailkigecmkaaGreatDoor.B

namespace Go.Proofs.YtdoailkigecmkaaGreatDoor.B
open Go Go.RowKit Go.Proofs Go.Proofs.YtdoailkigecmkaaGreatDoor.Vc

theorem SlR.spot {w : World} {A : Option Addr} {n : Nat} {v : List Va} (h : SlR w A 4 (v.map Va.row)) (hl : v.length = n) {i : Nat} (hi : i < v.length) :
    (0 ≤ (i : Int) ∧ (i : Int) < n) ∧ ∃ a, A = some a ∧ CellsAt w (a.add ((i : Int).toNat * 4)) v[i].row ∧ CellsAt w ((a.add ((i : Int).toNat * 4)).add 1) [.int .i64 v[i].tick] ∧ CellsAt w ((a.add ((i : Int).toNat * 4)).add 2) [.int .i64 v[i].qual] ∧ CellsAt w ((a.add ((i : Int).toNat * 4)).add 3) [.string v[i].num] := by
  obtain ⟨hb, a, hA, hrow⟩ := h.load (n := n) (by simpa using hl) (j := (i : Int)) (by omega) (by omega)
  obtain ⟨hc, hf⟩ := hrow v[i].row (by rw [Int.toNat_natCast]; simp [hi]) rfl
  exact ⟨hb, a, hA, hc, hf 1 _ rfl, hf 2 _ rfl, hf 3 _ rfl⟩

end Go.Proofs.YtdoailkigecmkaaGreatDoor.B

namespace Go.Proofs.YtdoailkigecmkaaGreatDoor.B
open Go Go.RowKit Go.Proofs Go.Proofs.YtdoailkigecmkaaGreatDoor.Vc

theorem r55_Same {w0 : World} {A A1 : Option Addr} {n c c1 : Nat} {v : List Va} (h : SlR w0 A 4 (v.map Va.row)) (h1 : SlR w0 A1 4 (v.map Va.row)) (hlen : v.length = n) (hn : n < 2147483648) :
    Pure Tryz.prog 17 #[.slice A n c, .slice A1 n c1] w0 fun y _ => y = .bool true := by
  have key : ∀ (d i : Nat) (w : World), n - i = d → i ≤ n → Below w0.heap.size w0 w → F.garboardref55_Same.L4 A n c A1 n c1 i w0.heap.size w fun y _ => y = .bool true := by
    intro d
    induction d with
    | zero => intro i w hd hi hw; exact F.garboardref55_Same.L4.step _ _ _ _ _ _ _ _ _ _ ⟨fun h => by omega, fun _ => rfl⟩
    | succ d ih =>
      intro i w hd hi hw
      have hil : i < v.length := by omega
      obtain ⟨hb, a, hA, hc, _⟩ := (h.keep hw (Nat.le_refl _)).spot hlen hil
      obtain ⟨hb2, a2, hA2, hc2, _⟩ := (h1.keep hw (Nat.le_refl _)).spot hlen hil
      refine F.garboardref55_Same.L4.step _ _ _ _ _ _ _ _ _ _ ⟨fun _ => ⟨hb, a, hA, _, _, _, _, hc, hb2, a2, hA2, _, _, _, _, hc2, fun k => absurd ⟨rfl, rfl, rfl, rfl, trivial⟩ k, fun _ => ⟨by simp only [inR]; omega, fun w2 x2 => ?_⟩⟩, fun h => by omega⟩
      have e3 : (i : Int) + 1 = ((i + 1 : Nat) : Int) := by omega
      rw [e3]
      exact ih (i + 1) w2 (by omega) (by omega) (kE hw x2)
  exact F.garboardref55_Same.vc _ _ _ _ _ _ _ _ ⟨fun h => absurd rfl h, fun _ => key n 0 w0 rfl (by omega) (Below.refl _ _)⟩
theorem r55_num {s : ByteArray} (hs : SmS s) (hv : vR s = true) (w : World) : Pure Tryz.prog 70 #[.string s] w (QR (qR s)) := by
  refine F.garboardref55_num.vc _ _ _ fun w1 x1 => Pure.mono (ref47_Num hs hv w1) ?_
  rintro v w2 _ ⟨b, A, n, c, A', n', c', rfl, k⟩
  exact ⟨_, _, _, _, _, _, _, rfl, fun w3 x3 => ⟨_, _, _, _, _, _, _, rfl, k.ext x3 (by decide)⟩⟩
theorem r55_tick (n : Int) (w : World) : Pure Tryz.prog 58 #[.int .i64 n] w fun v _ => v = .bool (decide (0 ≤ n ∧ n ≤ 1073741824)) := by
  refine F.garboardref55_tick.vc _ _ _ ⟨fun h => ?_, fun h => ?_⟩
  · refine congrArg Value.bool ?_
    rw [decide_eq_decide]
    omega
  · refine congrArg Value.bool ?_
    symm
    exact decide_eq_false (by omega)
theorem r55_size {w : World} {b : Bool} {A A' : Option Addr} {n c n' c' : Nat} {x : Rat} (h : IsQ w b A n c A' n' c' x) : Pure Tryz.prog 71 #[.agg #[.bool b, .slice A n c, .slice A' n' c']] w (QR (absR x)) := by
  refine F.garboardref55_size.vc _ _ _ _ _ _ _ _ _ fun w1 x1 => Pure.mono (ref3_Sign (h.ext x1 (by decide))) ?_
  rintro v w2 b2 rfl
  have h2 := (h.ext x1 (by decide)).below b2
  refine ⟨_, rfl, fun hs => ?_, fun hs w3 x3 => ⟨_, _, _, _, _, _, _, rfl, ?_⟩⟩
  · rw [cmpR_lt] at hs
    refine Pure.mono (ref3_Neg h2) ?_
    rintro v w3 b3 ⟨b, A, n, c, A', n', c', rfl, k⟩
    refine ⟨_, _, _, _, _, _, _, rfl, fun w4 x4 => ⟨_, _, _, _, _, _, _, rfl, ?_⟩⟩
    unfold absR
    rw [if_pos hs]
    exact k.ext x4 (by decide)
  · rw [cmpR_lt] at hs
    unfold absR
    rw [if_neg hs]
    exact h2.ext x3 (by decide)

theorem r55_fault {w : World} {A : Option Addr} {n c : Nat} {l : List Ch} (hl : SlR w A 7 (l.map Ch.row)) (hlen : l.length = n) (hn : n < 2147483648) {i : Nat} (hi : i < n) {x : Ch} (hx : l[i]? = some x) (hsm : SmC x) :
    Pure Tryz.prog 45 #[.slice A n c, .int .i64 (i : Int)] w fun v _ => v = .int .i64 (faultOf (prevOf l i) x) := by
  obtain ⟨hb, a, hA, hrow⟩ := hl.load (n := n) (by simpa using hlen) (j := (i : Int)) (by omega) (by omega)
  obtain ⟨hcell, _⟩ := hrow x.row (by rw [Int.toNat_natCast, List.getElem?_map, hx]; rfl) rfl
  have ns := hsm.name
  have bad : ¬ (vR x.gain = true ∧ vR x.offset = true ∧ vR x.low = true ∧ vR x.high = true ∧ vR x.rate = true) → (.int .i64 1 : Value) = .int .i64 (faultOf (prevOf l i) x) := fun h => by unfold faultOf; rw [if_pos h]
  refine F.garboardref55_fault.vc _ _ _ _ _ _ ⟨hb, a, hA, _, _, _, _, _, _, _, hcell, fun w1 x1 => Pure.mono (ref3_Valid x.gain hsm.gain w1) ?_⟩
  have hb1 := k0 x1
  rintro v w2 b2 rfl
  have hb2 := kP hb1 b2
  refine ⟨_, rfl, fun h => bad fun k => (by rw [k.1] at h; cases h), fun g1 => Pure.mono (ref3_Valid x.offset hsm.offset w2) ?_⟩
  rintro v w3 b3 rfl
  have hb3 := kP hb2 b3
  refine ⟨_, rfl, fun h => bad fun k => (by rw [k.2.1] at h; cases h), fun g2 => Pure.mono (ref3_Valid x.low hsm.low w3) ?_⟩
  rintro v w4 b4 rfl
  have hb4 := kP hb3 b4
  refine ⟨_, rfl, fun h => bad fun k => (by rw [k.2.2.1] at h; cases h), fun g3 => Pure.mono (ref3_Valid x.high hsm.high w4) ?_⟩
  rintro v w5 b5 rfl
  have hb5 := kP hb4 b5
  refine ⟨_, rfl, fun h => bad fun k => (by rw [k.2.2.2.1] at h; cases h), fun g4 => Pure.mono (ref3_Valid x.rate hsm.rate w5) ?_⟩
  rintro v w6 b6 rfl
  have hb6 := kP hb5 b6
  refine ⟨_, rfl, fun h => bad fun k => (by rw [k.2.2.2.2] at h; cases h), fun g5 => ?_⟩
  have v1 : vR x.gain = true := by simpa using g1
  have v2 : vR x.offset = true := by simpa using g2
  have v3 : vR x.low = true := by simpa using g3
  have v4 : vR x.high = true := by simpa using g4
  have v5 : vR x.rate = true := by simpa using g5
  have f4 : (x.name.size < 1 ∨ 64 < x.name.size) → (.int .i64 4 : Value) = .int .i64 (faultOf (prevOf l i) x) := fun h => by
    unfold faultOf
    rw [if_neg (fun k => k ⟨v1, v2, v3, v4, v5⟩), if_pos h]
  have f2 : ¬ (x.name.size < 1 ∨ 64 < x.name.size) → (x.id < 1 ∨ 1073741824 < x.id ∨ qR x.gain = 0 ∨ qR x.high < qR x.low ∨ ¬ 0 < qR x.rate) → (.int .i64 2 : Value) = .int .i64 (faultOf (prevOf l i) x) := fun h h2 => by
    unfold faultOf
    rw [if_neg (fun k => k ⟨v1, v2, v3, v4, v5⟩), if_neg h, if_pos h2]
  refine ⟨fun h1 => f4 (.inl (by omega)), fun h1 => ⟨fun h2 => f4 (.inr (by omega)), fun h2 => ⟨fun h3 _ _ => f2 (by omega) (.inl (by omega)), fun h3 => ⟨fun h4 _ _ => f2 (by omega) (.inr (.inl (by omega))), fun h4 w7 x7 => ?_⟩⟩⟩⟩
  have hb7 := kE hb6 x7
  refine Pure.mono (r55_num hsm.gain v1 w7) ?_
  rintro v w8 b8 ⟨bg, Ag, ng, cg, Ag', ng', cg', rfl, kg⟩
  have hb8 := kP hb7 b8
  refine ⟨_, _, _, _, _, _, _, rfl, Pure.mono (ref3_Sign kg) ?_⟩
  rintro v w9 b9 rfl
  have hb9 := kP hb8 b9
  refine ⟨_, rfl, fun h5 => f2 (by omega) (.inr (.inr (.inl (cmpR_eq.1 h5)))), fun h5 => Pure.mono (r55_num hsm.high v4 w9) ?_⟩
  rintro v w10 b10 ⟨bh, Ah, nh, ch, Ah', nh', ch', rfl, kh⟩
  have hb10 := kP hb9 b10
  refine ⟨_, _, _, _, _, _, _, rfl, Pure.mono (r55_num hsm.low v3 w10) ?_⟩
  rintro v w11 b11 ⟨bl, Al, nl, cl, Al', nl', cl', rfl, kl⟩
  have hb11 := kP hb10 b11
  refine ⟨_, _, _, _, _, _, _, rfl, Pure.mono (ref3_Less (kh.below b11) kl ((vR_sm v4 hsm.high).mono (by omega)) ((vR_sm v3 hsm.low).mono (by omega))) ?_⟩
  rintro v w12 b12 rfl
  have hb12 := kP hb11 b12
  refine ⟨_, rfl, fun h6 => f2 (by omega) (.inr (.inr (.inr (.inl (of_decide_eq_true h6))))), fun h6 => Pure.mono (r55_num hsm.rate v5 w12) ?_⟩
  have h6' : ¬ qR x.high < qR x.low := of_decide_eq_false h6
  rintro v w13 b13 ⟨br, Ar, nr, cr, Ar', nr', cr', rfl, kr⟩
  have hb13 := kP hb12 b13
  refine ⟨_, _, _, _, _, _, _, rfl, Pure.mono (ref3_Sign kr) ?_⟩
  rintro v w14 b14 rfl
  have hb14 := kP hb13 b14
  have hrate : cmpR (qR x.rate) 0 ≤ 0 ↔ ¬ 0 < qR x.rate := by rw [← cmpR_gt]; omega
  refine ⟨_, rfl, fun h7 => f2 (by omega) (.inr (.inr (.inr (.inr (hrate.1 h7))))), fun h7 => ?_⟩
  have hpos : ¬ ¬ 0 < qR x.rate := fun k => h7 (hrate.2 k)
  have rest : faultOf (prevOf l i) x = if ∃ q, prevOf l i = some q ∧ x.id ≤ q.id then 5 else 0 := by
    unfold faultOf
    rw [if_neg (fun k => k ⟨v1, v2, v3, v4, v5⟩), if_neg (by omega), if_neg]
    rintro (k | k | k | k | k)
    · omega
    · omega
    · exact h5 (cmpR_eq.2 k)
    · exact h6' k
    · exact absurd k hpos
  refine ⟨fun h8 => ⟨by simp only [inR]; omega, ?_⟩, fun h8 w15 _ => ?_⟩
  · obtain ⟨hb', a', hA', hrow'⟩ := (hl.keep hb14 (Nat.le_refl _)).load (n := n) (by simpa using hlen) (j := (i : Int) - 1) (by omega) (by omega)
    have hi1 : i - 1 < l.length := by omega
    have hprev : prevOf l i = some l[i - 1] := by
      unfold prevOf
      rw [if_neg (by omega)]
      simp [hi1]
    obtain ⟨_, hcell'⟩ := hrow' l[i - 1].row (by rw [show ((i : Int) - 1).toNat = i - 1 by omega]; simp [hi1]) rfl
    refine ⟨hb', a', hA', _, hcell' 0 _ rfl, fun h9 w15 _ => ?_, fun h9 w15 _ => ?_⟩
    · rw [rest, if_pos ⟨_, hprev, h9⟩]
    · rw [rest, if_neg]
      rintro ⟨q, hq, hle⟩
      rw [hprev] at hq
      cases hq
      exact h9 hle
  · have hi0 : i = 0 := by omega
    rw [rest, if_neg]
    rintro ⟨q, hq, _⟩
    simp [prevOf, hi0] at hq

theorem r55_check_loop {w0 : World} {A : Option Addr} {n c : Nat} {l : List Ch} (hl : SlR w0 A 7 (l.map Ch.row)) (hlen : l.length = n) (hn : n < 2147483648) (hsm : ∀ x ∈ l, SmC x) {R : Value → World → Prop} {r : Int × Int} (hR : ∀ w, R (.tuple #[.int .i64 r.1, .int .i64 r.2]) w) :
    ∀ (d i : Nat) (w : World), n - i = d → i ≤ n → Below w0.heap.size w0 w → r = chk (prevOf l i) i (l.drop i) → F.garboardref55_Check.L4 A n c i w0.heap.size w R := by
  intro d
  induction d with
  | zero =>
    intro i w hd hi hw hr
    rw [List.drop_eq_nil_of_le (by omega), chk] at hr
    subst hr
    exact F.garboardref55_Check.L4.step _ _ _ _ _ _ _ ⟨fun h => by omega, fun _ => hR w⟩
  | succ d ih =>
    intro i w hd hi hw hr
    have hil : i < l.length := by omega
    rw [List.drop_eq_getElem_cons hil, chk] at hr
    refine F.garboardref55_Check.L4.step _ _ _ _ _ _ _ ⟨fun _ => Pure.mono (r55_fault (hl.keep hw (Nat.le_refl _)) hlen hn (by omega) (List.getElem?_eq_getElem hil) (hsm _ (List.getElem_mem _))) ?_, fun h => by omega⟩
    rintro v w2 b2 rfl
    refine ⟨_, rfl, fun h => ?_, fun h => ⟨by simp only [inR]; omega, ?_⟩⟩
    · rw [if_pos h] at hr
      subst hr
      exact hR w2
    · rw [if_neg h] at hr
      have e3 : (i : Int) + 1 = ((i + 1 : Nat) : Int) := by omega
      rw [e3]
      refine ih (i + 1) w2 (by omega) (by omega) (kP hw b2) ?_
      rw [hr]
      have e : prevOf l (i + 1) = some l[i] := by
        unfold prevOf
        rw [if_neg (by omega), Nat.add_sub_cancel, List.getElem?_eq_getElem hil]
      rw [e]
theorem r55_Check {w : World} {A : Option Addr} {n c : Nat} {l : List Ch} (hl : SlR w A 7 (l.map Ch.row)) (hlen : l.length = n) (hsm : ∀ x ∈ l, SmC x) :
    Pure Tryz.prog 14 #[.slice A n c] w fun v _ => v = .tuple #[.int .i64 (checkF l).1, .int .i64 (checkF l).2] := by
  refine F.garboardref55_Check.vc _ _ _ _ _ ⟨fun h => ?_, fun h => ?_⟩
  · unfold checkF
    rw [if_pos (by omega)]
  · refine r55_check_loop (r := checkF l) hl hlen (by omega) hsm (fun _ => rfl) n 0 w rfl (by omega) (Below.refl _ _) ?_
    unfold checkF
    rw [if_neg (by omega)]
    rfl
theorem r55_number {w : World} {cc : Ch} (hc : SmC cc) {raw : ByteArray} (hr : SmS raw) (v1 : vR cc.gain = true) (v2 : vR cc.offset = true) (v3 : vR raw = true) : Pure Tryz.prog 52 #[cc.val, .string raw] w (QR (numberR cc raw)) := by
  refine F.garboardref55_number.vc _ _ _ _ _ _ _ _ _ _ fun w1 x1 => Pure.mono (r55_num hc.gain v1 w1) ?_
  rintro v w2 b2 ⟨bg, Ag, ng, cg, Ag', ng', cg', rfl, kg⟩
  refine ⟨_, _, _, _, _, _, _, rfl, Pure.mono (r55_num hr v3 w2) ?_⟩
  rintro v w3 b3 ⟨br, Ar, nr, cr, Ar', nr', cr', rfl, kr⟩
  have sg := vR_sm v1 hc.gain
  have sr := vR_sm v3 hr
  have so := vR_sm v2 hc.offset
  refine ⟨_, _, _, _, _, _, _, rfl, Pure.mono (ref3_Mul (kg.below b3) kr (sg.mono (by omega)) (sr.mono (by omega))) ?_⟩
  rintro v w4 b4 ⟨bm, Am, nm, cm, Am', nm', cm', rfl, km⟩
  refine ⟨_, _, _, _, _, _, _, rfl, Pure.mono (r55_num hc.offset v2 w4) ?_⟩
  rintro v w5 b5 ⟨bo, Ao, no, co, Ao', no', co', rfl, ko⟩
  refine ⟨_, _, _, _, _, _, _, rfl, Pure.mono (ref3_Add (km.below b5) ko ((sg.mul sr).mono (by omega)) (so.mono (by omega))) ?_⟩
  rintro v w6 b6 ⟨b, A, n, c, A', n', c', rfl, k⟩
  exact ⟨_, _, _, _, _, _, _, rfl, fun w7 x7 => ⟨_, _, _, _, _, _, _, rfl, k.ext x7 (by decide)⟩⟩
theorem r55_Number {w : World} {cc : Ch} (hc : SmC cc) {raw : ByteArray} (hr : SmS raw) :
    Pure Tryz.prog 21 #[cc.val, .string raw] w fun v _ => v = .tuple #[.string (numberF cc raw).1, .int .i64 (numberF cc raw).2] := by
  refine F.garboardref55_Number.vc _ _ _ _ _ _ _ _ _ _ fun w1 x1 => ?_
  have hb1 := k0 x1
  refine runOk_lit el_Chs [cc.val] (by simp [Value.cells]) (by simp) hb1.size fun A2 c2 w2 ho b2 => ?_
  have hb2 := kP hb1 b2
  refine Pure.mono (r55_Check (l := [cc]) ho.sl rfl (fun x hx => by rw [List.mem_singleton] at hx; subst hx; exact hc)) ?_
  rintro v w3 b3 rfl
  have hb3 := kP hb2 b3
  refine ⟨_, _, rfl, fun h => ?_, fun h => Pure.mono (ref3_Valid raw hr w3) ?_⟩
  · unfold numberF
    rw [if_neg (fun k => h k.1)]
  rintro v w4 b4 rfl
  have h0 := Decidable.not_not.1 h
  refine ⟨_, rfl, fun h1 => ?_, fun h1 => ?_⟩
  · unfold numberF
    rw [if_neg (fun k => by rw [k.2] at h1; cases h1)]
  have hv : vR raw = true := by simpa using h1
  obtain ⟨_, hfa⟩ := check_valid h0
  obtain ⟨⟨v1, v2, v3, v4, v5⟩, _⟩ := fault_valid (hfa 0 cc rfl)
  refine Pure.mono (r55_number hc hr v1 v2 hv) ?_
  rintro v w5 b5 ⟨b, A, n, c, A', n', c', rfl, k⟩
  refine ⟨_, _, _, _, _, _, _, rfl, Pure.mono (ref3_To k ((numberR_sm hc v1 v2 hr hv).mono (by omega))) ?_⟩
  rintro v w6 b6 rfl
  refine ⟨_, rfl, ?_⟩
  unfold numberF
  rw [if_pos ⟨h0, hv⟩]
theorem r55_start_loop {w0 : World} {A : Option Addr} {n c : Nat} {l : List Ch} (hl : SlR w0 A 7 (l.map Ch.row)) (hlen : l.length = n) (hn : n ≤ 1000) {R : Value → World → Prop}
    (hR : ∀ A' c' w, OwnR w w0.heap.size 46 A' n c' 4 ((startF l).map Va.row) → R (.tuple #[.slice A' n c', .int .i64 0]) w) :
    ∀ (d i : Nat) (w : World) (A' : Option Addr) (c' : Nat), n - i = d → i ≤ n → Below w0.heap.size w0 w → OwnR w w0.heap.size 46 A' i c' 4 (((startF l).take i).map Va.row) →
      F.garboardref55_Start.L6 A n c A' i c' i w0.heap.size w R := by
  intro d
  induction d with
  | zero =>
    intro i w A' c' hd hi hw ho
    have : i = n := by omega
    subst this
    rw [List.take_of_length_le (by simp [startF]; omega)] at ho
    exact F.garboardref55_Start.L6.step _ _ _ _ _ _ _ _ _ _ ⟨fun h => by omega, fun _ => hR _ _ _ ho⟩
  | succ d ih =>
    intro i w A' c' hd hi hw ho
    have hil : i < l.length := by omega
    obtain ⟨hb, a, hA, hrow⟩ := (hl.keep hw (Nat.le_refl _)).load (n := n) (by simpa using hlen) (j := (i : Int)) (by omega) (by omega)
    obtain ⟨_, hf⟩ := hrow l[i].row (by rw [Int.toNat_natCast]; simp [hil]) rfl
    refine F.garboardref55_Start.L6.step _ _ _ _ _ _ _ _ _ _ ⟨fun _ => ⟨hb, a, hA, _, hf 0 _ rfl, ?_⟩, fun h => by omega⟩
    refine app_row el_Vas (Nat.le_refl _) ho (x := .agg #[.int .i64 l[i].id, .int .i64 0, .int .i64 0, .string ⟨#[48]⟩]) rfl (by simp [Value.cells, isCell]) hw.size (by omega) (by decide) fun A3 c3 w3 o3 _ b3 => ⟨by simp only [inR]; omega, ?_⟩
    have e3 : (i : Int) + 1 = ((i + 1 : Nat) : Int) := by omega
    rw [e3]
    refine ih (i + 1) w3 A3 c3 (by omega) (by omega) (hw.trans b3) ?_
    have e4 : (startF l).take (i + 1) = (startF l).take i ++ [⟨l[i].id, 0, 0, ⟨#[48]⟩⟩] := by
      rw [List.take_add_one]
      congr 1
      simp [startF, hil]
    rw [e4, List.map_append]
    exact o3
theorem r55_Start {w : World} {A : Option Addr} {n c : Nat} {l : List Ch} (hl : SlR w A 7 (l.map Ch.row)) (hlen : l.length = n) (hsm : ∀ x ∈ l, SmC x) :
    Pure Tryz.prog 16 #[.slice A n c] w fun v w' => (¬ (checkF l).2 = 0 → v = .tuple #[.slice none 0 0, .int .i64 1]) ∧ ((checkF l).2 = 0 → ∃ A' c', v = .tuple #[.slice A' n c', .int .i64 0] ∧ OwnR w' w.heap.size 46 A' n c' 4 ((startF l).map Va.row)) := by
  refine F.garboardref55_Start.vc _ _ _ _ _ (Pure.mono (r55_Check hl hlen hsm) ?_)
  rintro v w2 b2 rfl
  refine ⟨_, _, rfl, fun h => ⟨fun _ => rfl, fun k => absurd k h⟩, fun h => ?_⟩
  have h0 := Decidable.not_not.1 h
  have hl16 := (check_valid h0).1
  refine r55_start_loop (w0 := w) hl hlen (by omega) (fun A' c' w' ho => ⟨fun k => absurd h0 k, fun _ => ⟨A', c', rfl, ho⟩⟩) n 0 w2 none 0 rfl (by omega) b2 ?_
  simpa using OwnR.nil
end Go.Proofs.YtdoailkigecmkaaGreatDoor.B

namespace Go.Proofs.YtdoailkigecmkaaGreatDoor.B
open Go Go.RowKit Go.Proofs Go.Proofs.YtdoailkigecmkaaGreatDoor.Vc

theorem OwnR.extT {B0 : Nat} {ts : List Nat} {w w' : World} {B ty : Nat} {A : Option Addr} {n c sz : Nat} {rows : List (List Value)} (h : OwnR w B ty A n c sz rows) (x : Ext B0 ts w w') (ht : ty ∉ ts) : OwnR w' B ty A n c sz rows :=
  h.other fun a ha => by
    obtain ⟨cs, hcs⟩ := h.cells a ha
    rcases x.other a.block (h.blk a ha).2 with h1 | ⟨t, h2, c1, c2, fr, e1, e2⟩
    · exact h1
    · rw [hcs] at e1
      cases e1
      exact absurd h2 ht
theorem rowC_len' {l : List Ch} : ∀ r ∈ l.map Ch.row, r.length = 7 := by
  intro r hr
  obtain ⟨x, _, rfl⟩ := List.mem_map.1 hr
  rfl
end Go.Proofs.YtdoailkigecmkaaGreatDoor.B
