/- Part 2 of the proofs that: What the statements SensorChecks, SensorTakes and SensorVotes rest on. -/
import Derived.Test.YtdoailkigecmkaaGreatDoorV1
import Derived.Test.YtdoailkigecmkaaGreatDoorProg
import Derived.Laws.MakeOwn
set_option linter.unusedVariables false
set_option linter.unusedSimpArgs false
namespace Go.Proofs.YtdoailkigecmkaaGreatDoor.Vc
open Go Go.RowKit
section any
variable {P : Program} {ops : Array Oper} {Q : Exit → Act → World → Prop} {S : World → Prop} {qt : Nat → Bool}

def AnyS (P : Program) (ops : Array Oper) (Q : Exit → Act → World → Prop) (S : World → Prop) (qt : Nat → Bool) : Nat → Array Bool → Act → World → Prop
  | 0, l, a, w => Region.ready .any ops l = [] ∧ Q .normal a w
  | n + 1, l, a, w => (Region.ready .any ops l = [] → Q .normal a w) ∧
    ∀ i ∈ Region.ready .any ops l, wpOp P ops Q i (fun a' w' => (qt i = true → S w → S w') ∧ AnyS P ops Q S qt n (l.setIfInBounds i true) a' w') a w

theorem AnyS.wpAny : ∀ (n : Nat) (l : Array Bool) (a : Act) (w : World), AnyS P ops Q S qt n l a w → wpAny P .any ops Q n l a w
  | 0, _, _, _, h => h
  | n + 1, _, _, _, h => ⟨h.1, fun i hi => wpOp_mono (fun a' w' h' => AnyS.wpAny n _ a' w' h'.2) (h.2 i hi)⟩

theorem AnyS.first {S' : World → Prop} {i : Nat} {oi : Oper} {v : Value} (hi : ops[i]? = some oi) (hsel : ∀ (j : Nat) o cs b, ops[j]? = some o → o.op ≠ .select cs b)
    (hQ : ∀ c a w, Q (.panic c) (a.put oi.dst v) w → Q (.panic c) a w) :
    ∀ (n : Nat) (l : Array Bool) (a : Act) (w : World),
      (∀ j oj, ops[j]? = some oj → j ≠ i → l.getD j true = false → (∀ e ∈ oj.after, Region.binds .any e = true → e.on ≠ i) →
        oi.apart ops oj = true ∧ ∀ w w', (qt j = true → S w → S w') → S' w → S' w') →
      i ∈ Region.ready .any ops l → YieldsIf P ops S' oi v a → S' w →
      AnyS P ops Q S qt n (l.setIfInBounds i true) (a.put oi.dst v) w → AnyS P ops Q S qt (n + 1) l a w := by
  intro n
  induction n with
  | zero =>
    intro l a w _ hr hy hS H
    refine ⟨fun h => (by rw [h] at hr; cases hr), fun j hj => ?_⟩
    by_cases hji : j = i
    · subst hji; exact hy.wpOp hi hS ⟨fun _ h => h, H⟩
    · have := ready_mono hj hji
      rw [H.1] at this
      cases this
  | succ n ih =>
    intro l a w hfree hr hy hS H
    refine ⟨fun h => (by rw [h] at hr; cases hr), fun j hj => ?_⟩
    by_cases hji : j = i
    · subst hji; exact hy.wpOp hi hS ⟨fun _ h => h, H⟩
    · have h1 := H.2 j (ready_mono hj hji)
      obtain ⟨hjun, oj, hoj, hall⟩ := mem_ready.1 hj
      have hnot : ∀ e ∈ oj.after, Region.binds .any e = true → e.on ≠ i := fun e he hb heq => by
        have h1 := hall e he hb
        have h0 := (mem_ready.1 hr).1
        rw [heq] at h1
        rcases Nat.lt_or_ge i l.size with h' | h'
        · simp [h'] at h0 h1; rw [h0] at h1; cases h1
        · simp [Array.getElem?_eq_none h'] at h1
      obtain ⟨hap, hkeep⟩ := hfree j oj hoj hji hjun hnot
      have h2 := wpOp_putIf hoj hap (fun cs b => hsel i oi cs b hi) (fun cs b => hsel j oj cs b hoj) hQ hy h1
      refine wpOp_mono (fun a' w' h3 => ⟨h3.2.1, ?_⟩) h2
      have k1 := hkeep w w' h3.2.1 hS
      refine ih (l.setIfInBounds j true) a' w' (fun k ok hk hki hun hno => ?_) (ready_mono hr (Ne.symm hji)) h3.1 k1 ?_
      · refine hfree k ok hk hki ?_ hno
        by_cases hjk : j = k
        · subst hjk; exact hjun
        · rw [getD_set_ne true hjk] at hun; exact hun
      · rw [Array.setIfInBounds_comm _ _ hji]
        exact h3.2.2
end any

section
variable {c : Cx}

theorem inL_iff {n : Nat} : ∀ {l : List Nat}, inL n l = true ↔ n ∈ l := by
  intro l
  induction l with
  | nil => simp [inL]
  | cons x r ih =>
    simp only [inL]
    cases h : Nat.beq x n with
    | true => have := beq_true h; simp [this]
    | false => have := beq_false h; simp only [ih, List.mem_cons]; constructor
               · exact .inr
               · rintro (h | h)
                 · exact absurd h.symm this
                 · exact h

def Rel (ops : Array Oper) (listed : List Nat) (arr : Array Bool) : Prop := arr.size = ops.size ∧ ∀ j, j < ops.size → arr.getD j true = inL j listed

theorem Rel.cons {ops : Array Oper} {listed : List Nat} {arr : Array Bool} (h : Rel ops listed arr) (i : Nat) : Rel ops (i :: listed) (arr.setIfInBounds i true) := by
  refine ⟨by simp [h.1], fun j hj => ?_⟩
  have := h.2 j hj
  have hj' : j < arr.size := by rw [h.1]; exact hj
  simp only [inL]
  cases e : Nat.beq i j with
  | true => have := beq_true e; subst this; simp [hj']
  | false => have hne := beq_false e; rw [getD_set_ne true hne]; exact this

theorem Rel.getD_false {ops : Array Oper} {listed : List Nat} {arr : Array Bool} (h : Rel ops listed arr) {j : Nat} (hj : j < ops.size) : arr.getD j false = inL j listed := by
  have := h.2 j hj
  have hj' : j < arr.size := by rw [h.1]; exact hj
  simp [hj'] at this ⊢
  exact this

theorem readyL_mem {ops : Array Oper} {listed : List Nat} {arr : Array Bool} (h : Rel ops listed arr) (hon : ∀ (j : Nat) o, ops[j]? = some o → ∀ e ∈ o.after, Region.binds .any e = true → e.on < ops.size) :
    ∀ (l : List Oper) (i : Nat), (∀ k, l[k]? = ops[i + k]?) → ∀ j, j ∈ readyL listed i l ↔ i ≤ j ∧ j ∈ Region.ready .any ops arr := by
  intro l
  induction l with
  | nil =>
    intro i hl j
    simp only [readyL, List.not_mem_nil, false_iff, not_and]
    intro hij hj
    obtain ⟨_, o, ho, _⟩ := mem_ready.1 hj
    have := hl (j - i)
    rw [show i + (j - i) = j by omega, ho] at this
    simp at this
  | cons o r ih =>
    intro i hl j
    have hi : ops[i]? = some o := by simpa using (hl 0).symm
    have hlt : i < ops.size := (Array.getElem?_eq_some_iff.1 hi).1
    have ih' := ih (i + 1) (fun k => by have := hl (k + 1); simpa [Nat.add_assoc, Nat.add_comm 1 k] using this)
    have hready : i ∈ Region.ready .any ops arr ↔ (inL i listed || !(o.after.toList.all fun e => !Region.binds .any e || inL e.on listed)) = false := by
      rw [mem_ready, h.2 i hlt]
      simp only [Bool.or_eq_false_iff, Bool.not_eq_false', List.all_eq_true, Bool.or_eq_true, Bool.not_eq_true']
      constructor
      · rintro ⟨h0, o', ho', hall⟩
        rw [hi] at ho'
        cases ho'
        refine ⟨h0, fun e he => ?_⟩
        have he' : e ∈ o.after := by simpa using he
        cases hb : Region.binds .any e with
        | false => exact .inl rfl
        | true => have := hall e he' hb; rw [h.getD_false (hon i o hi e he' hb)] at this; exact .inr this
      · rintro ⟨h0, hall⟩
        refine ⟨h0, o, hi, fun e he hb => ?_⟩
        rw [h.getD_false (hon i o hi e he hb)]
        exact (hall e (by simpa using he)).resolve_left (by simp [hb])
    simp only [readyL]
    cases hc : (inL i listed || !(o.after.toList.all fun e => !Region.binds .any e || inL e.on listed)) with
    | true =>
      have hn : ¬ i ∈ Region.ready .any ops arr := fun hm => by rw [hready.1 hm] at hc; cases hc
      simp only [ih']
      constructor
      · rintro ⟨h1, h2⟩; exact ⟨by omega, h2⟩
      · rintro ⟨h1, h2⟩
        refine ⟨?_, h2⟩
        rcases Nat.lt_or_ge i j with h' | h'
        · omega
        · have : i = j := by omega
          subst this; exact absurd h2 hn
    | false =>
      have hy := hready.2 hc
      simp only [List.mem_cons, ih']
      constructor
      · rintro (rfl | ⟨h1, h2⟩)
        · exact ⟨Nat.le_refl _, hy⟩
        · exact ⟨by omega, h2⟩
      · rintro ⟨h1, h2⟩
        rcases Nat.lt_or_ge i j with h' | h'
        · exact .inr ⟨by omega, h2⟩
        · exact .inl (by omega)

theorem mayFirst_spec {rid : Nat} {ops : Array Oper} {listed : List Nat} {i : Nat} {oi : Oper} : ∀ (l : List Oper) (j0 : Nat), mayFirst c rid ops listed i oi j0 l = true →
    ∀ k o, l[k]? = some o → j0 + k ≠ i → (match isLoad oi && !quietly (modeOf c.mode rid (j0 + k)) o with
      | true => inL (j0 + k) listed = false ∧ waitsFor o i = true
      | false => inL (j0 + k) listed = true ∨ waitsFor o i = true ∨ oi.apart ops o = true) := by
  intro l
  induction l with
  | nil => intro j0 _ k o hk; simp at hk
  | cons x r ih =>
    intro j0 h k o hk hne
    simp only [mayFirst, Bool.and_eq_true] at h
    cases k with
    | zero =>
      simp only [List.getElem?_cons_zero, Option.some.injEq] at hk
      subst hk
      have h1 := h.1
      rw [Bool.or_eq_true] at h1
      have h1 := h1.resolve_left (by simpa using hne)
      simp only [Nat.add_zero]
      split at h1
      · rename_i e; rw [e]; simpa using h1
      · rename_i e; rw [e]; simpa [or_assoc] using h1
    | succ k =>
      have := ih (j0 + 1) h.2 k o (by simpa using hk) (by omega)
      rw [show j0 + 1 + k = j0 + (k + 1) by omega] at this
      exact this

theorem waitsFor_spec {o : Oper} {i : Nat} (h : waitsFor o i = true) : ∃ e ∈ o.after, Region.binds .any e = true ∧ e.on = i := by
  unfold waitsFor at h
  rw [List.any_eq_true] at h
  obtain ⟨e, he, h⟩ := h
  simp only [Bool.and_eq_true] at h
  exact ⟨e, by simpa using he, h.1, beq_true h.2⟩

theorem findEarly_spec {rid : Nat} {ops : Array Oper} {listed : List Nat} : ∀ {l : List Nat} {i : Nat}, findEarly c rid ops listed l = some i →
    i ∈ l ∧ ∃ o, ops[i]? = some o ∧ early o = true ∧ mayFirst c rid ops listed i o 0 ops.toList = true := by
  intro l
  induction l with
  | nil => intro i h; simp [findEarly] at h
  | cons x r ih =>
    intro i h
    simp only [findEarly] at h
    cases hx : ops.toList[x]? with
    | none => simp [hx] at h
    | some o =>
      simp only [hx] at h
      cases hc : early o && mayFirst c rid ops listed x o 0 ops.toList with
      | true =>
        rw [hc] at h
        cases h
        simp only [Bool.and_eq_true] at hc
        exact ⟨by simp, o, by simpa using hx, hc.1, hc.2⟩
      | false =>
        rw [hc] at h
        obtain ⟨h1, h2⟩ := ih h
        exact ⟨by simp [h1], h2⟩

theorem allOf_mem : ∀ {l : List Nat} {z : Prop} {K : Nat → Prop}, allOf l z K → l ≠ [] → ∀ i ∈ l, K i := by
  intro l
  induction l with
  | nil => intro z K _ h; exact absurd rfl h
  | cons x r ih =>
    intro z K h _ i hi
    cases r with
    | nil => simp only [allOf] at h; rw [List.mem_singleton.1 hi]; exact h
    | cons y s =>
      simp only [allOf] at h
      rcases List.mem_cons.1 hi with rfl | hi
      · exact h.1
      · exact ih h.2 (by simp) i hi

def Held (b0 : Nat → Nat) (st0 : St) (lw : Option World) (hold : List Nat) (w : World) : Prop :=
  (∀ l ∈ hold, ∀ x, getBox st0.boxes l = some x → w.heap[b0 l]? = some (.cells x.cells.toArray x.ty (0, 0))) ∧ ∀ v, lw = some v → ∀ a u, v.cell? a = some u → w.cell? a = some u

theorem Held.keep {b0 : Nat → Nat} {st0 : St} {lw : Option World} {hold : List Nat} {w w' : World} (h : Held b0 st0 lw hold w) (hk : ∀ k, k < w.heap.size → w'.heap[k]? = w.heap[k]?) : Held b0 st0 lw hold w' := by
  refine ⟨fun l hl x hx => ?_, fun v hv a u hu => ?_⟩
  · have := h.1 l hl x hx
    rw [hk _ (Array.getElem?_eq_some_iff.1 this).1]
    exact this
  · have := h.2 v hv a u hu
    rw [World.cell?_of_block (hk _ (World.block_lt_of_cell? w a this))]
    exact this

def quietAt (c : Cx) (rid : Nat) (ops : Array Oper) (j : Nat) : Bool := match ops[j]? with
  | some o => quietly (modeOf c.mode rid j) o
  | none => true

def Still (c : Cx) (rid : Nat) (ops : Array Oper) (b0 : Nat → Nat) (st0 : St) (lw : Option World) (hold : List Nat) (listed : List Nat) (b : Nat → Nat) (st : St) (w : World) : Prop :=
  (∀ j ∈ listed, quietAt c rid ops j = true) → Held b0 st0 lw hold w ∧ ∀ l ∈ hold, b l = b0 l ∧ ∀ x', getBox st.boxes l = some x' → ∃ x, getBox st0.boxes l = some x ∧ x.cells = x'.cells ∧ x.ty = x'.ty

theorem newLabels_mem {o : Oper} {l : Nat} : ∀ {ops : List Oper}, o ∈ ops → isNew o = true → o.dst = some l → l ∈ newLabels ops := by
  intro ops
  induction ops with
  | nil => intro h; cases h
  | cons x r ih =>
    intro h hn hd
    simp only [newLabels]
    rcases List.mem_cons.1 h with rfl | h
    · unfold isNew at hn
      split at hn
      · rename_i e; rw [e, hd]; simp
      · rename_i e; rw [e, hd]; simp
      · cases hn
    · have := ih h hn hd
      split <;> simp [this]

theorem drawRun_sound {rid : Nat} {ops : Array Oper} {Q : Exit → Act → World → Prop} {K : St → Prop} {lw : Option World} {hold : List Nat} {b0 : Nat → Nat} {st0 : St}
    (hq : ∀ b st T' w', K st → Inv c b st T' w' → Q .normal (act T') w') (hQ : ∀ ch a w, ¬ Q (.panic ch) a w)
    (hsel : ∀ (j : Nat) o cs q, ops[j]? = some o → o.op ≠ .select cs q) (hon : ∀ (j : Nat) o, ops[j]? = some o → ∀ e ∈ o.after, Region.binds .any e = true → e.on < ops.size)
    (hnew : ∀ l ∈ hold, ∀ (j : Nat) o, ops[j]? = some o → isNew o = true → o.dst ≠ some l) :
    ∀ (n : Nat) (listed : List Nat) (arr : Array Bool) (b : Nat → Nat) (st : St) (T : Array Value) (w : World), Rel ops listed arr → Inv c b st T w →
      Still c rid ops b0 st0 lw hold listed b st w → drawRun c rid ops lw hold n listed st K → AnyS c.P ops Q (Held b0 st0 lw hold) (quietAt c rid ops) n arr (act T) w := by
  intro n
  induction n with
  | zero =>
    intro listed arr b st T w hrel inv hst h
    simp only [drawRun] at h
    have hr : Region.ready .any ops arr = [] := by
      cases he : readyL listed 0 ops.toList with
      | nil =>
        refine List.eq_nil_iff_forall_not_mem.2 fun j hj => ?_
        have := (readyL_mem hrel hon ops.toList 0 (fun k => by simp) j).2 ⟨Nat.zero_le _, hj⟩
        rw [he] at this
        cases this
      | cons x r => simp [he] at h
    refine ⟨hr, ?_⟩
    have hnil : readyL listed 0 ops.toList = [] := by
      cases he : readyL listed 0 ops.toList with
      | nil => rfl
      | cons x r => simp [he] at h
    rw [hnil] at h
    exact hq _ _ _ _ h inv
  | succ n ih =>
    intro listed arr b st T w hrel inv hst h
    have hmem := fun j => readyL_mem hrel hon ops.toList 0 (fun k => by simp) j
    simp only [drawRun] at h
    cases hf : findEarly c rid ops listed (readyL listed 0 ops.toList) with
    | some i =>
      simp only [hf] at h
      obtain ⟨him, o, hi, hearly, hmf⟩ := findEarly_spec hf
      have hi' : ops.toList[i]? = some o := by simpa using hi
      simp only [hi'] at h
      have hready := ((hmem i).1 him).2
      obtain ⟨st', h, inv', hbx⟩ := guarded_sound inv h
      have hlt : i < ops.size := (Array.getElem?_eq_some_iff.1 hi).1
      have hspec := fun j oj (hj : ops[j]? = some oj) (hne : j ≠ i) => mayFirst_spec ops.toList 0 hmf j oj (by simpa using hj) (by omega)
      simp only [Nat.zero_add] at hspec
      have hfree : ∀ j oj, ops[j]? = some oj → j ≠ i → arr.getD j true = false → (∀ e ∈ oj.after, Region.binds .any e = true → e.on ≠ i) →
          o.apart ops oj = true ∧ ∀ w w', (quietAt c rid ops j = true → Held b0 st0 lw hold w → Held b0 st0 lw hold w') → (isLoad o = true → Held b0 st0 lw hold w) → (isLoad o = true → Held b0 st0 lw hold w') := by
        intro j oj hj hne hun hno
        have hs := hspec j oj hj hne
        have hnw : waitsFor oj i = false := by
          cases hw : waitsFor oj i with
          | false => rfl
          | true => obtain ⟨e, he, hb, heq⟩ := waitsFor_spec hw; exact absurd heq (hno e he hb)
        have hjl : j < ops.size := (Array.getElem?_eq_some_iff.1 hj).1
        have hul : inL j listed = false := by rw [← hrel.2 j hjl]; exact hun
        split at hs
        · rw [hnw] at hs; cases hs.2
        · rename_i e
          rw [hul, hnw] at hs
          refine ⟨by simpa using hs, fun w w' hk hS hl => ?_⟩
          have : quietAt c rid ops j = true := by
            unfold quietAt
            rw [hj]
            simp only
            rw [hl] at e
            simpa using e
          exact hk this (hS hl)
      have hload : isLoad o = true → Held b0 st0 lw hold w ∧ ∀ l ∈ hold, b l = b0 l ∧ ∀ x', getBox st.boxes l = some x' → ∃ x, getBox st0.boxes l = some x ∧ x.cells = x'.cells ∧ x.ty = x'.ty := fun hl => hst fun j hj => by
        unfold quietAt
        split
        · rename_i oj hoj
          by_cases hne : j = i
          · subst hne
            rw [hi] at hoj
            cases hoj
            have := (mem_ready.1 hready).1
            rw [hrel.2 j hlt, inL_iff.2 hj] at this
            cases this
          · have hs := hspec j oj hoj hne
            cases hqt : quietly (modeOf c.mode rid j) oj with
            | true => rfl
            | false =>
              rw [hl, hqt] at hs
              simp only [Bool.not_false, Bool.and_self] at hs
              rw [inL_iff.2 hj] at hs
              cases hs.1
        · rfl
      have still' : ∀ st'', st''.boxes = st'.boxes → Still c rid ops b0 st0 lw hold (i :: listed) b st'' w := fun st'' e hall => by
        rw [e, hbx]
        exact hst fun j hj => hall j (by simp [hj])
      have ey : yielded ops (act T).tmps = yielded ops T := rfl
      cases hw : Region.wanted o (yielded ops T) with
      | true =>
        rw [hw] at h
        simp only at h
        have hv := value_sound (Ok := fun w => isLoad o = true → Held b0 st0 lw hold w) (lw := lw) (hold := some hold) (b := b) (fun hl w1 hw1 => by
          have hH := hw1 hl
          refine ⟨fun l x hm hx => ?_, fun v hv a u hu => hH.2 v hv a u hu⟩
          have hlh : l ∈ hold := inL_iff.1 hm
          rw [hbx] at hx
          obtain ⟨e1, e2⟩ := (hload hl).2 l hlh
          obtain ⟨y, hy, f1, f2⟩ := e2 x hx
          rw [e1, ← f1, ← f2]
          exact hH.1 l hlh y hy) inv'.env (fun cs q => hsel i o cs q hi) h
        obtain ⟨x, hp, hrun⟩ := hv
        obtain ⟨st'', hK, inv'', e, hb⟩ := put_sound inv' (v := x.den b) rfl hp
        refine AnyS.first (S' := fun w => isLoad o = true → Held b0 st0 lw hold w) hi hsel (fun ch a w hp => absurd hp (hQ _ _ _)) n arr (act T) w hfree hready (.inl ⟨by rw [ey]; exact hw, fun w1 hw1 => hrun w1 hw1⟩) (fun hl => (hload hl).1) ?_
        rw [e]
        exact ih (i :: listed) _ b st'' _ w (hrel.cons i) inv'' (still' st'' hb) hK
      | false =>
        rw [hw] at h
        simp only at h
        obtain ⟨st'', hK, inv'', e, hb⟩ := put_sound inv' (v := undef) rfl h
        refine AnyS.first (S' := fun w => isLoad o = true → Held b0 st0 lw hold w) hi hsel (fun ch a w hp => absurd hp (hQ _ _ _)) n arr (act T) w hfree hready (.inr ⟨by rw [ey]; exact hw, rfl⟩) (fun hl => (hload hl).1) ?_
        rw [e]
        exact ih (i :: listed) _ b st'' _ w (hrel.cons i) inv'' (still' st'' hb) hK
    | none =>
      simp only [hf] at h
      refine ⟨fun hnil => ?_, fun i hi => ?_⟩
      · have he : readyL listed 0 ops.toList = [] := List.eq_nil_iff_forall_not_mem.2 fun j hj => by
          have := ((hmem j).1 hj).2
          rw [hnil] at this
          cases this
        rw [he] at h
        exact hq _ _ _ _ h inv
      · have him := (hmem i).2 ⟨Nat.zero_le _, hi⟩
        have h := allOf_mem h (fun e => by rw [e] at him; cases him) i him
        obtain ⟨_, o, ho, _⟩ := mem_ready.1 hi
        have ho' : ops.toList[i]? = some o := by simpa using ho
        simp only [ho'] at h
        refine oneOp_sound (fun cs q => hsel i o cs q ho) inv h ho fun b' st' T' w' hK inv' hkept => ?_
        have hqa : quietAt c rid ops i = quietly (modeOf c.mode rid i) o := by unfold quietAt; rw [ho]
        refine ⟨fun hqt hS => ?_, ih (i :: listed) _ b' st' T' w' (hrel.cons i) inv' (fun hall => ?_) hK⟩
        · exact hS.keep (hkept (by rw [← hqa]; exact hqt)).2.1
        · obtain ⟨k1, k2, k3⟩ := hkept (by rw [← hqa]; exact hall i (by simp))
          obtain ⟨hS, hB⟩ := hst fun j hj => hall j (by simp [hj])
          refine ⟨hS.keep k2, fun l hl => ?_⟩
          obtain ⟨e1, e2⟩ := k3 l (fun hn => hnew l hl i o ho hn)
          obtain ⟨g1, g2⟩ := hB l hl
          refine ⟨e1.trans g1, fun x' hx' => ?_⟩
          obtain ⟨y, hy, f1, f2⟩ := e2 x' hx'
          obtain ⟨z, hz, h1, h2⟩ := g2 y hy
          exact ⟨z, hz, h1.trans f1, h2.trans f2⟩
end
end Go.Proofs.YtdoailkigecmkaaGreatDoor.Vc

namespace Go.Proofs.YtdoailkigecmkaaGreatDoor.Vc
open Go Go.RowKit
section
variable {c : Cx}

theorem noSelectL_spec {ops : List Oper} (h : noSelectL ops = true) : ∀ o ∈ ops, ∀ cs q, o.op ≠ .select cs q := by
  induction ops with
  | nil => intro o ho; cases ho
  | cons x r ih =>
    intro o ho cs q e
    simp only [noSelectL] at h
    rcases List.mem_cons.1 ho with rfl | ho
    · rw [e] at h; simp at h
    · split at h
      · cases h
      · exact ih h o ho cs q e

theorem edgesOk_spec {n : Nat} {ops : List Oper} (h : edgesOk n ops = true) : ∀ o ∈ ops, ∀ e ∈ o.after, Region.binds .any e = true → e.on < n := by
  induction ops with
  | nil => intro o ho; cases ho
  | cons x r ih =>
    intro o ho e he hb
    simp only [edgesOk, Bool.and_eq_true, List.all_eq_true] at h
    rcases List.mem_cons.1 ho with rfl | ho
    · have := h.1 e (by simpa using he)
      simpa [hb, Nat.blt_eq] using this
    · exact ih h.2 o ho e he hb

def Post (c : Cx) (K : St → Prop) : Exit → Act → World → Prop
  | .normal, a, w => ∃ b st T, a = act T ∧ K st ∧ Inv c b st T w
  | _, _, _ => False

theorem region_sound {rid : Nat} {ops : Array Oper} {draw : Bool} {K : St → Prop} {b : Nat → Nat} {st : St} {T : Array Value} {wa : World} (hm : c.P.follows .mixedOrders = true) (inv : Inv c b st T wa)
    (h : region c rid ops draw st K) : (Code.region rid ops draw).wp c.P (Post c K) (act T) wa := by
  unfold region at h
  have hq : ∀ b st T' w', K st → Inv c b st T' w' → Post c K .normal (act T') w' := fun b st T' w' h1 h2 => ⟨b, st, T', rfl, h1, h2⟩
  cases draw with
  | false =>
    simp only at h
    cases hns : noSelectL ops.toList with
    | false => rw [hns] at h; exact h.elim
    | true =>
      rw [hns] at h
      have hsel : ∀ (j : Nat) o cs q, ops[j]? = some o → o.op ≠ .select cs q := fun j o cs q ho => noSelectL_spec hns o (by simpa using Array.mem_of_getElem? ho) cs q
      refine wp_region ?_
      have := opsRun_sound (Q := Post c K) hq hsel ops.toList 0 (fun k => by simp) b st T wa inv h
      rw [List.range_eq_range', ← Array.length_toList]
      exact this
  | true =>
    simp only at h
    cases hns : noSelectL ops.toList && edgesOk ops.toList.length ops.toList with
    | false => rw [hns] at h; exact h.elim
    | true =>
      rw [hns] at h
      simp only [Bool.and_eq_true] at hns
      have hsel : ∀ (j : Nat) o cs q, ops[j]? = some o → o.op ≠ .select cs q := fun j o cs q ho => noSelectL_spec hns.1 o (by simpa using Array.mem_of_getElem? ho) cs q
      have hon : ∀ (j : Nat) o, ops[j]? = some o → ∀ e ∈ o.after, Region.binds .any e = true → e.on < ops.size := fun j o ho e he hb => by
        have := edgesOk_spec hns.2 o (by simpa using Array.mem_of_getElem? ho) e he hb
        simpa using this
      have hex : ∃ st', Inv c b st' T wa ∧ drawRun c rid ops (match st'.d with | none => some st'.w | some _ => none) (holdOf st' ops) ops.toList.length [] st'.moved K := by
        simp only at h
        cases hb : Nat.beq (modeOf c.mode rid 9999) 3 with
        | true =>
          rw [hb] at h
          simp only [exposeIf] at h
          obtain ⟨st', h, inv', _⟩ := expose_sound inv h
          exact ⟨st', inv', h⟩
        | false =>
          rw [hb] at h
          exact ⟨st, inv, h⟩
      obtain ⟨st', inv', h⟩ := hex
      refine wp_region_any hm ?_
      have invd : Inv c b st'.moved T { wa with drawn := wa.drawn + 1 } := by
        refine ⟨inv'.size, inv'.env, ⟨inv'.box.at_, inv'.box.ne⟩, inv'.lo, ?_, inv'.new, inv'.base.drew⟩
        have := inv'.extSome
        exact ⟨this.below.drew, this.other⟩
      have hnew : ∀ l ∈ holdOf st' ops, ∀ (j : Nat) o, ops[j]? = some o → isNew o = true → o.dst ≠ some l := fun l hl j o ho hn hd => by
        have h1 := newLabels_mem (ops := ops.toList) (by simpa using Array.mem_of_getElem? ho) hn hd
        unfold holdOf at hl
        have h2 := (List.mem_filter.1 hl).2
        rw [inL_iff.2 h1] at h2
        cases h2
      have hrel : Rel ops [] (Array.replicate ops.size false) := ⟨by simp, fun j hj => by simp [hj, inL]⟩
      have hstill : Still c rid ops b st' (match st'.d with | none => some st'.w | some _ => none) (holdOf st' ops) [] b st'.moved { wa with drawn := wa.drawn + 1 } := fun _ => by
        refine ⟨⟨fun l hl x hx => (inv'.box.at_ l x hx).2, fun v hv a u hu => ?_⟩, fun l hl => ⟨rfl, fun x hx => ⟨x, hx, rfl, rfl⟩⟩⟩
        have hx := inv'.ext
        cases hd : st'.d with
        | none => rw [hd] at hv hx; simp only at hv hx; cases hv; rw [hx]; exact hu
        | some ts => rw [hd] at hv; cases hv
      have := drawRun_sound (Q := Post c K) hq (fun _ _ _ h => h) hsel hon hnew ops.toList.length [] (Array.replicate ops.size false) b st'.moved T { wa with drawn := wa.drawn + 1 } hrel invd hstill h
      rw [Array.length_toList] at this
      exact this.wpAny

def base (f : FuncId) : Frame := { (default : Frame) with fn := f, kind := .normal }

theorem Pt.step {P : Program} {f : FuncId} {todo todo' : List Item} {T : Array Value} {w : World} {R : Ending → World → Prop}
    (hs : ∀ cs, step P (lone ((base f).at ⟨T, []⟩ todo) cs w) = .next (lone ((base f).at ⟨T, []⟩ todo') cs w)) (h : Pt P f todo' T w R) : Pt P f todo T w R := fun cs => by
  obtain ⟨e, w', fr, h1, h2, h3, h4⟩ := h cs
  exact ⟨e, w', fr, h1, .of_steps (.one (hs cs)) h2, h3, h4⟩

theorem Pt.of_wp {P : Program} {f : FuncId} {cd : Code} {k : List Item} {T : Array Value} {w : World} {R : Ending → World → Prop} {Q : Exit → Act → World → Prop}
    (h : cd.wp P Q (act T) w) (hq : ∀ e a w', Q e a w' → e = .normal ∧ ∃ T', a = act T' ∧ Pt P f k T' w' R) : Pt P f (.code cd :: k) T w R := fun cs => by
  obtain ⟨e, a, w', hQ, harr⟩ := h (base f) k cs
  obtain ⟨rfl, T', rfl, hpt⟩ := hq e a w' hQ
  obtain ⟨e, w'', fr, h1, h2, h3, h4⟩ := hpt cs
  exact ⟨e, w'', fr, h1, .of_steps harr h2, h3, h4⟩

def resOne (T : Array Value) : ResultVar → Sem Value
  | .tmp t => pure (T.getD t undef)
  | .cell a t => do loadVar t (← asAddr (T.getD a undef))

theorem resOne_sound {b : Nat → Nat} {st : St} {T : Array Value} {wa : World} (inv : Inv c b st T wa) : ∀ {l : List ResultVar} {vs : List Value}, results c st l = some vs →
    l.length = vs.length ∧ ∀ (i : Nat) r v, l[i]? = some r → vs[i]? = some v → (resOne T r).run c.P wa = .ok v wa := by
  intro l
  induction l with
  | nil => intro vs h; simp only [results] at h; cases h; exact ⟨rfl, fun i r v h => by simp at h⟩
  | cons x r ih =>
    intro vs h
    have fin : ∀ v ws, results c st r = some ws → vs = v :: ws → (resOne T x).run c.P wa = .ok v wa → (x :: r).length = vs.length ∧ ∀ (i : Nat) y u, (x :: r)[i]? = some y → vs[i]? = some u → (resOne T y).run c.P wa = .ok u wa := by
      intro v ws hr e hx
      obtain ⟨h1, h2⟩ := ih hr
      subst e
      refine ⟨by simp [h1], fun i y u hy hu => ?_⟩
      cases i with
      | zero => simp at hy hu; subst hy; subst hu; exact hx
      | succ i => exact h2 i y u (by simpa using hy) (by simpa using hu)
    cases x with
    | tmp t =>
      simp only [results] at h
      cases hx : (get st.env t).bind SV.val with
      | none => simp [hx] at h
      | some v =>
        cases hr : results c st r with
        | none => simp [hx, hr] at h
        | some ws =>
          simp only [hx, hr] at h
          cases h
          obtain ⟨sv, h1, h2⟩ := Option.bind_eq_some_iff.1 hx
          have := inv.env t sv h1
          exact fin _ _ hr rfl (by simp [resOne, this, val_den h2 b])
    | cell a t =>
      simp only [results] at h
      cases hx : get st.env a with
      | none => simp [hx] at h
      | some sv =>
        cases hr : results c st r with
        | none => cases sv <;> simp [hx, hr] at h
        | some ws =>
          rw [hx, hr] at h
          cases sv <;> try (simp at h; done)
          rename_i lb off
          simp only at h
          cases hb : boxLoad c.P st.boxes t lb off with
          | none => simp [hb] at h
          | some v =>
            simp only [hb] at h
            cases h
            have h1 := inv.env a _ hx
            have h2 := boxLoad_sound (b := b) hb (fun x hx => (inv.box.at_ lb x hx).2)
            exact fin _ _ hr rfl (by simp [resOne, Sem.run_bind, h1, SV.den, asAddr, h2])

theorem run_mapM {P : Program} {α β : Type} (f : α → Sem β) (w : World) : ∀ (l : List α) (vs : List β), l.length = vs.length → (∀ (i : Nat) r v, l[i]? = some r → vs[i]? = some v → (f r).run P w = .ok v w) →
    (l.mapM f).run P w = .ok vs w := by
  intro l
  induction l with
  | nil => intro vs hl _; cases vs with
    | nil => rfl
    | cons v r => simp at hl
  | cons x r ih =>
    intro vs hl h
    cases vs with
    | nil => simp at hl
    | cons v ws =>
      have h0 := h 0 x v (by simp) (by simp)
      have h1 := ih ws (by simpa using hl) (fun i r' v' hr hv => h (i + 1) r' v' (by simpa using hr) (by simpa using hv))
      simp [List.mapM_cons, Sem.run_bind, h0, h1]

theorem leave_sound {b : Nat → Nat} {st : St} {T : Array Value} {wa : World} {fn : Func} (hf : c.P.funcs[c.f]? = some fn) (hres : c.res = fn.results.toList) (inv : Inv c b st T wa) (h : leave c st) :
    ∃ v, (Go.results fn T).run c.P wa = .ok v wa ∧ c.R v wa := by
  unfold leave at h
  cases hr : results c st c.res with
  | none => rw [hr] at h; exact h.elim
  | some vs =>
    rw [hr] at h
    simp only at h
    obtain ⟨h0, h1⟩ := resOne_sound inv hr
    rw [hres] at h0 h1
    have h2 := run_mapM (P := c.P) (resOne T) wa _ _ h0 h1
    obtain ⟨st', hR, inv', hw, _⟩ := expose_sound inv h
    rw [hw] at hR
    refine ⟨_, ?_, hR⟩
    have h3 : (fn.results.mapM (resOne T)).run c.P wa = .ok vs.toArray wa := by
      rw [Array.mapM_eq_mapM_toList]
      simp [Sem.run_map, h2]
    have h4 : Go.results fn T = (do let vs ← fn.results.mapM (resOne T); pure (if h : vs.size = 1 then vs[0] else .tuple vs)) := by
      unfold Go.results
      congr 2
    rw [h4]
    simp only [Sem.run_bind, h3, Result.andThen_ok, Sem.run_pure]
    congr 1
    cases vs with
    | nil => rfl
    | cons v r => cases r <;> simp [tupled]

theorem Pt.unstep {P : Program} {f : FuncId} {todo todo' : List Item} {T : Array Value} {w : World} {R : Ending → World → Prop} (h : Pt P f todo T w R)
    (hs : ∀ cs, Go.step P (lone ((base f).at ⟨T, []⟩ todo) cs w) = .next (lone ((base f).at ⟨T, []⟩ todo') cs w)) (hR : ∀ e w', R e w' → ∃ v, e = .returned v) : Pt P f todo' T w R := fun cs => by
  obtain ⟨e, w', fr, h1, h2, h3, h4⟩ := h cs
  obtain ⟨v, rfl⟩ := hR e w' h1
  refine ⟨_, w', fr, h1, ?_, h3, h4⟩
  obtain ⟨n, hn⟩ := h2
  cases n with
  | zero =>
    exfalso
    simp only [runN] at hn
    have e1 : lone ((base f).at ⟨T, []⟩ todo) cs w = lone fr cs w' := by cases hn; rfl
    have e2 := congrArg (fun m : Machine => (m.gs[0]?).map (fun g => g.frame.mode)) e1
    simp [lone, Frame.at, h4.1] at e2
  | succ n =>
    refine ⟨n, ?_⟩
    simp only [runN] at hn
    have hs' := hs cs
    unfold base at hs'
    rw [hs'] at hn
    exact hn

theorem restrict_sound {b : Nat → Nat} {env : Env} {T : Array Value} (he : EnvOk b env T) : ∀ {l : List Nat} {env' : Env}, restrict env l = some env' → EnvOk b env' T := by
  intro l
  induction l with
  | nil => intro env' h; simp only [restrict] at h; cases h; intro s x hs; simp [get] at hs
  | cons s r ih =>
    intro env' h
    simp only [restrict] at h
    cases hx : get env s with
    | none => simp [hx] at h
    | some x =>
      cases hr : restrict env r with
      | none => simp [hx, hr] at h
      | some l =>
        simp only [hx, hr] at h
        cases h
        intro m y hy
        rw [get_cons] at hy
        split at hy
        · rename_i e
          simp only at e
          subst e
          cases hy
          rw [he _ x hx]
          cases x <;> rfl
        · exact ih hr m y hy

theorem restrictB_sound {bs : List Box} : ∀ {l : List Nat} {bs' : List Box}, restrictB bs l = some bs' → ∀ m x, getBox bs' m = some x → x.new = false ∧ ∃ y, getBox bs m = some y ∧ y.cells = x.cells ∧ y.ty = x.ty := by
  intro l
  induction l with
  | nil => intro bs' h; simp only [restrictB] at h; cases h; intro m x hm; simp [getBox] at hm
  | cons s r ih =>
    intro bs' h
    simp only [restrictB] at h
    cases hx : getBox bs s with
    | none => simp [hx] at h
    | some x =>
      cases hr : restrictB bs r with
      | none => simp [hx, hr] at h
      | some l =>
        simp only [hx, hr] at h
        cases h
        intro m y hy
        rw [getBox_cons] at hy
        split at hy
        · rename_i e
          simp only at e
          cases hy
          rw [← e, getBox_lab hx]
          exact ⟨rfl, x, hx, rfl, rfl⟩
        · exact ih hr m y hy

theorem cut_sound {b : Nat → Nat} {st : St} {T : Array Value} {wa : World} (inv : Inv c b st T wa) (todo : List Item) (live : List Nat × List Nat) (h : cutAt c todo st live) : Pt c.P c.f todo T wa (Out c.B c.w0 c.R) := by
  unfold cutAt at h
  cases h1 : restrict st.env live.1 with
  | none => rw [h1] at h; exact h.elim
  | some env =>
    cases h2 : restrictB st.boxes live.2 with
    | none => rw [h1, h2] at h; exact h.elim
    | some boxes =>
      rw [h1, h2] at h
      simp only at h
      obtain ⟨st', h, inv', hw, _⟩ := expose_sound inv h
      rw [hw] at h
      have hlo := inv'.lo
      rw [hw] at hlo
      have hB : BoxOk b c.B boxes wa := by
        refine ⟨fun l x hx => ?_, fun l m x y hx hy hne => ?_⟩
        · obtain ⟨_, y, hy, e1, e2⟩ := restrictB_sound h2 l x hx
          rw [← e1, ← e2]
          exact inv.box.at_ l y hy
        · obtain ⟨_, x', hx', _⟩ := restrictB_sound h2 l x hx
          obtain ⟨_, y', hy', _⟩ := restrictB_sound h2 m y hy
          exact inv.box.ne l m x' y' hx' hy' hne
      have := h b T inv.size (restrict_sound inv.env h1) hB hlo
      intro cs
      obtain ⟨e, w', fr, ⟨v, rfl, hb, hR⟩, k2, k3, k4⟩ := this cs
      exact ⟨_, w', fr, ⟨v, rfl, inv.base.trans hb, hR⟩, k2, k3, k4⟩

theorem run_sound {fn : Func} (hm : c.P.follows .mixedOrders = true) (hf : c.P.funcs[c.f]? = some fn) (hres : c.res = fn.results.toList) :
    ∀ (n : Nat) (first : Bool) (todo : List Item) (b : Nat → Nat) (st : St) (T : Array Value) (wa : World), Inv c b st T wa → run c n first todo st → Pt c.P c.f todo T wa (Out c.B c.w0 c.R) := by
  intro n
  induction n with
  | zero => intro first todo b st T wa _ h; exact h.elim
  | succ n ih =>
    intro first todo b st T wa inv h
    have done : ∀ (todo : List Item), leave c st → (∀ cs, Steps c.P (lone ((base c.f).at ⟨T, []⟩ todo) cs wa) (lone { (base c.f).at ⟨T, []⟩ todo with mode := .returning } cs wa)) → Pt c.P c.f todo T wa (Out c.B c.w0 c.R) := fun todo hl hs cs => by
      obtain ⟨v, hr, hR⟩ := leave_sound hf hres inv hl
      exact ⟨.returned v, wa, _, ⟨v, rfl, inv.base, hR⟩, hs cs, rfl, rfl, rfl, rfl, fn, hf, hr⟩
    have cut : ∀ (todo : List Item) live, cutAt c todo st live → Pt c.P c.f todo T wa (Out c.B c.w0 c.R) := cut_sound inv
    cases todo with
    | nil => exact done [] h fun cs => .one step_end
    | cons it k =>
      cases it with
      | code cd =>
        cases cd <;> simp only [run] at h <;> try exact h.elim
        case skip => exact .step (fun cs => step_skip) (ih _ _ _ _ _ _ inv h)
        case ret => exact done _ h fun cs => .one step_ret
        case seq x y => exact .step (fun cs => step_seq) (ih _ _ _ _ _ _ inv h)
        case block id bd => exact .step (fun cs => step_block) (ih _ _ _ _ _ _ inv h)
        case cond x y z =>
          obtain ⟨v, hv, hB⟩ := withV_some h
          obtain ⟨t, ht, h⟩ := onBool_sound (b := b) hB
          have e := ev_den inv.env hv
          rw [ht] at e
          cases t
          · exact .step (fun cs => step_cond (t := false) e) (ih _ _ _ _ _ _ inv h)
          · exact .step (fun cs => step_cond (t := true) e) (ih _ _ _ _ _ _ inv h)
        case exit id =>
          split at h
          · rename_i k' hk; exact .step (fun cs => step_exit hk) (ih _ _ _ _ _ _ inv h)
          · exact h.elim
        case loop bd =>
          split at h
          · exact cut _ _ h
          · exact .step (fun cs => step_loop) (ih _ _ _ _ _ _ inv h)
        case region id ops draw =>
          split at h
          · exact cut _ _ h
          · refine .of_wp (region_sound hm inv h) fun e a w' hp => ?_
            cases e <;> try exact hp.elim
            obtain ⟨b', st', T', rfl, hK, inv'⟩ := hp
            exact ⟨rfl, T', rfl, ih _ _ _ _ _ _ inv' hK⟩
      | inBlock id => simp only [run] at h; exact .step (fun cs => step_inBlock) (ih _ _ _ _ _ _ inv h)
      | inLoop bd =>
        simp only [run] at h
        split at h
        · have h1 := cut _ _ h
          refine .step (fun cs => step_inLoop) (Pt.unstep h1 (fun cs => step_loop) fun e w' he => ?_)
          obtain ⟨v, rfl, _⟩ := he
          exact ⟨v, rfl⟩
        · exact .step (fun cs => step_inLoop) (ih _ _ _ _ _ _ inv h)
      | _ => exact h.elim

noncomputable def bodyOf (fn : Func) : Code := fn.body.getD .skip

theorem get_argEnv : ∀ (vs : List Value) (i s : Nat) (x : SV), get (argEnv i vs) s = some x → ∃ v, x = .v v ∧ i ≤ s ∧ vs[s - i]? = some v := by
  intro vs
  induction vs with
  | nil => intro i s x h; simp [argEnv, get] at h
  | cons v r ih =>
    intro i s x h
    simp only [argEnv, get_cons] at h
    split at h
    · rename_i e
      cases h
      subst e
      exact ⟨v, rfl, Nat.le_refl _, by simp⟩
    · rename_i e
      obtain ⟨u, rfl, h1, h2⟩ := ih (i + 1) s x h
      have : s - i = (s - (i + 1)) + 1 := by omega
      exact ⟨u, rfl, by omega, by rw [this]; simpa using h2⟩

theorem pureB_of_run (c : Cx) (n : Nat) {fn : Func} {vs : List Value} {args : Array Value} {w : World} (hm : c.P.follows .mixedOrders = true) (hf : c.P.funcs[c.f]? = some fn) (hb : fn.body.isSome = true) (hN : c.N = fn.ntmps)
    (hr : c.res = fn.results.toList) (hw : c.w0 = w) (hB : c.B ≤ w.heap.size) (ha : args = vs.toArray) (hle : Nat.ble vs.length c.N = true)
    (h : run c n false [.code (bodyOf fn)] ⟨argEnv 0 vs, [], w, none⟩) : PureB c.P c.f args c.B w c.R := by
  have hle := Nat.le_of_ble_eq_true hle
  subst ha
  have hpt := run_sound hm hf hr n false _ (fun _ => 0) _ (vs.toArray ++ Array.replicate (fn.ntmps - vs.length) undef) w (by
    refine ⟨?_, fun s x hs => ?_, ⟨fun l x hx => ?_, fun l m x y hx => ?_⟩, ?_, rfl, fun l x hx => ?_, ?_⟩
    · simp; omega
    · obtain ⟨v, rfl, _, hv⟩ := get_argEnv vs 0 s x hs
      have hlt : s < vs.length := by
        rcases Nat.lt_or_ge s vs.length with h | h
        · exact h
        · simp [List.getElem?_eq_none h] at hv
      rw [Array.getElem?_append_left (by simpa using hlt)]
      simpa [SV.den] using hv
    · simp [getBox] at hx
    · simp [getBox] at hx
    · exact hB
    · simp [getBox] at hx
    · rw [hw]; exact Below.refl _ _) h
  intro cs
  obtain ⟨e, w', fr, ⟨v, rfl, hbel, hR⟩, h2, h3, h4⟩ := hpt cs
  refine ⟨_, w', fr, ⟨v, rfl, hw ▸ hbel, hR⟩, ?_, h3, h4⟩
  obtain ⟨bd, hbd⟩ := Option.isSome_iff_exists.1 hb
  have henter : Frame.enter c.P c.f vs.toArray .normal = (base c.f).at ⟨vs.toArray ++ Array.replicate (fn.ntmps - vs.length) undef, []⟩ [.code (bodyOf fn)] := by
    simp [Frame.enter, Frame.at, hf, hbd, base, bodyOf]
  rw [henter]
  exact h2

theorem pure_of_run (c : Cx) (n : Nat) {fn : Func} {vs : List Value} {args : Array Value} {w : World} (hm : c.P.follows .mixedOrders = true) (hf : c.P.funcs[c.f]? = some fn) (hb : fn.body.isSome = true) (hN : c.N = fn.ntmps)
    (hr : c.res = fn.results.toList) (hw : c.w0 = w) (hB : c.B = w.heap.size) (ha : args = vs.toArray) (hle : Nat.ble vs.length c.N = true)
    (h : run c n false [.code (bodyOf fn)] ⟨argEnv 0 vs, [], w, none⟩) : Pure c.P c.f args w c.R := by
  have hle := Nat.le_of_ble_eq_true hle
  subst ha
  have hpt := run_sound hm hf hr n false _ (fun _ => 0) _ (vs.toArray ++ Array.replicate (fn.ntmps - vs.length) undef) w (by
    refine ⟨?_, fun s x hs => ?_, ⟨fun l x hx => ?_, fun l m x y hx => ?_⟩, ?_, rfl, fun l x hx => ?_, ?_⟩
    · simp; omega
    · obtain ⟨v, rfl, _, hv⟩ := get_argEnv vs 0 s x hs
      have hlt : s < vs.length := by
        rcases Nat.lt_or_ge s vs.length with h | h
        · exact h
        · simp [List.getElem?_eq_none h] at hv
      rw [Array.getElem?_append_left (by simpa using hlt)]
      simpa [SV.den] using hv
    · simp [getBox] at hx
    · simp [getBox] at hx
    · rw [hB]; exact Nat.le_refl _
    · simp [getBox] at hx
    · rw [hw]; exact Below.refl _ _) h
  intro cs
  obtain ⟨e, w', fr, ⟨v, rfl, hbel, hR⟩, h2, h3, h4⟩ := hpt cs
  refine ⟨_, w', fr, ⟨v, rfl, by rw [← hB, ← hw]; exact hw ▸ hbel, hR⟩, ?_, h3, h4⟩
  obtain ⟨bd, hbd⟩ := Option.isSome_iff_exists.1 hb
  have henter : Frame.enter c.P c.f vs.toArray .normal = (base c.f).at ⟨vs.toArray ++ Array.replicate (fn.ntmps - vs.length) undef, []⟩ [.code (bodyOf fn)] := by
    simp [Frame.enter, Frame.at, hf, hbd, base, bodyOf]
  rw [henter]
  exact h2

theorem at_of (c : Cx) {w : World} (n : Nat) (first : Bool) (todo : List Item) (env : Env) (boxes : List Box) (hm : c.P.follows .mixedOrders = true) {fn : Func} (hf : c.P.funcs[c.f]? = some fn) (hr : c.res = fn.results.toList) (hw : c.w0 = w)
    (hnew : ∀ l x, getBox boxes l = some x → x.new = false) (h : run c n first todo ⟨env, boxes, w, none⟩) : At c.P c.f c.N todo env boxes c.B w c.R := by
  intro b T hT he hB hlo
  have := run_sound hm hf hr n first todo b _ T w ⟨hT, he, hB, hlo, rfl, fun l x hx hn => (by rw [hnew l x hx] at hn; cases hn), (by rw [hw]; exact Below.refl _ _)⟩ h
  rw [hw] at this
  exact this

def allOld : List Box → Bool
  | [] => true
  | x :: r => !x.new && allOld r
theorem allOld_spec {bs : List Box} (h : allOld bs = true) : ∀ l x, getBox bs l = some x → x.new = false := by
  induction bs with
  | nil => intro l x hx; simp [getBox] at hx
  | cons y r ih =>
    intro l x hx
    simp only [allOld, Bool.and_eq_true] at h
    rw [getBox_cons] at hx
    split at hx
    · cases hx; simpa using h.1
    · exact ih h.2 l x hx

theorem join_of_run (c : Cx) (n : Nat) (todo : List Item) (env : Env) (boxes : List Box) {w : World} (hm : c.P.follows .mixedOrders = true) {fn : Func} (hf : c.P.funcs[c.f]? = some fn) (hr : c.res = fn.results.toList) (hw : c.w0 = w)
    (ho : allOld boxes = true) (h : run c n true todo ⟨env, boxes, w, none⟩) : At c.P c.f c.N todo env boxes c.B w c.R :=
  at_of c n true todo env boxes hm hf hr hw (allOld_spec ho) h

theorem loop_of_run (c : Cx) (n : Nat) (todo : List Item) (env : Env) (boxes : List Box) {w : World} (hm : c.P.follows .mixedOrders = true) {fn : Func} (hf : c.P.funcs[c.f]? = some fn) (hr : c.res = fn.results.toList) (hw : c.w0 = w)
    (ho : allOld boxes = true) (h : run c n true (inside todo) ⟨env, boxes, w, none⟩) : At c.P c.f c.N todo env boxes c.B w c.R := by
  have h1 := at_of c n true (inside todo) env boxes hm hf hr hw (allOld_spec ho) h
  intro b T hT he hB hlo
  have h2 := h1 b T hT he hB hlo
  cases todo with
  | nil => exact h2
  | cons it k =>
    cases it with
    | code cd =>
      cases cd with
      | loop bd => exact .step (fun cs => step_loop) h2
      | _ => exact h2
    | _ => exact h2
end
end Go.Proofs.YtdoailkigecmkaaGreatDoor.Vc

namespace Go.Proofs.YtdoailkigecmkaaGreatDoor.Vc
open Go Go.RowKit
theorem follows : Tryz.prog.follows .mixedOrders = true := by kernel_rfl
end Go.Proofs.YtdoailkigecmkaaGreatDoor.Vc

namespace Go.Proofs.YtdoailkigecmkaaGreatDoor.B
open Go Go.RowKit Go.Proofs Go.Proofs.YtdoailkigecmkaaGreatDoor.Vc

theorem Pure.mono {P : Program} {f : FuncId} {args : Array Value} {w : World} {R R' : Value → World → Prop} (h : Pure P f args w R)
    (hr : ∀ v w', Below w.heap.size w w' → R v w' → R' v w') : Pure P f args w R' :=
  Calls.mono h fun e w' ⟨v, he, hb, hR⟩ => ⟨v, he, hb, hr v w' hb hR⟩

theorem PureB.mono {P : Program} {f : FuncId} {args : Array Value} {B : Nat} {w : World} {R R' : Value → World → Prop} (h : PureB P f args B w R)
    (hr : ∀ v w', Below B w w' → R v w' → R' v w') : PureB P f args B w R' :=
  Calls.mono h fun e w' ⟨v, he, hb, hR⟩ => ⟨v, he, hb, hr v w' hb hR⟩

theorem Below.step {B : Nat} {w0 w1 w2 : World} (h : Below B w0 w1) (hB : B ≤ w0.heap.size) (k : Below w1.heap.size w1 w2) : Below B w0 w2 :=
  h.trans (k.mono (Nat.le_trans hB h.size))
theorem Below.ext {B : Nat} {ts : List Nat} {w0 w1 w2 : World} (h : Below B w0 w1) (k : Ext B ts w1 w2) : Below B w0 w2 := h.trans k.below

structure Good (w : World) : Prop where
  size : 8 ≤ w.heap.size

theorem Good.below {B : Nat} {w w' : World} (h : Good w) (hb : Below B w w') (hB : w.heap.size ≤ B) : Good w' :=
  ⟨Nat.le_trans h.size hb.size⟩
end Go.Proofs.YtdoailkigecmkaaGreatDoor.B

set_option maxRecDepth 100000
namespace Go.Proofs.YtdoailkigecmkaaGreatDoor.F
open Go Go.RowKit Go.Proofs Go.Proofs.YtdoailkigecmkaaGreatDoor.Vc
def natural_Valid.L4 (sl0 : ByteArray) (il17 : Int) (il18 : Int) (B : Nat) (w : World) (R : Value → World → Prop) : Prop := At Tryz.prog 114 32 (loopAt Tryz.f114 4) [(0, .v (.string sl0)), (17, .v (.int .i64 il17)), (18, .v (.int .i64 il18))] [] B w R
noncomputable def natural_Valid.cx (w : World) (B : Nat) (R : Value → World → Prop) : Cx := ⟨Tryz.prog, 114, 32, Tryz.f114.results.toList, [((true, 4), [0, 17, 18], [])], [], w, B, R⟩
theorem natural_Valid.L4.step (sl0 : ByteArray) (il17 : Int) (il18 : Int) (B : Nat) (w : World) (R : Value → World → Prop)
    (h : ((((il18 : Int) < il17) → ((0 ≤ il18 ∧ il18 < (ByteArray.size sl0 : Int)) ∧ (((((bt sl0 il18) : Int) < (48 : Int)) → (R (.bool false) w)) ∧ (¬ (((bt sl0 il18) : Int) < (48 : Int)) → ((0 ≤ il18 ∧ il18 < (ByteArray.size sl0 : Int)) ∧ (((((bt sl0 il18) : Int) > (57 : Int)) → (R (.bool false) w)) ∧ (¬ (((bt sl0 il18) : Int) > (57 : Int)) → (inR .i64 (il18 + (1 : Int)) ∧ (natural_Valid.L4 sl0 il17 (il18 + (1 : Int)) B w R))))))))) ∧ (¬ ((il18 : Int) < il17) → (R (.bool true) w)))) :
    natural_Valid.L4 sl0 il17 il18 B w R :=
  loop_of_run (natural_Valid.cx w B R) 100000 (loopAt Tryz.f114 4) _ _ follows Tryz.func114 rfl rfl rfl (Eq.mp (by kernel_rfl) h)
theorem natural_Valid.vc (sp0 : ByteArray) (w : World) (R : Value → World → Prop)
    (h : (((sp0 = (⟨#[]⟩ : ByteArray)) → (R (.bool false) w)) ∧ (¬ (sp0 = (⟨#[]⟩ : ByteArray)) → (((((ByteArray.size sp0 : Int) : Int) > (1 : Int)) → ((0 ≤ (0 : Int) ∧ (0 : Int) < (ByteArray.size sp0 : Int)) ∧ (((((bt sp0 (0 : Int)) : Int) = (48 : Int)) → (R (.bool false) w)) ∧ (¬ (((bt sp0 (0 : Int)) : Int) = (48 : Int)) → (natural_Valid.L4 sp0 (ByteArray.size sp0 : Int) (0 : Int) w.heap.size w R))))) ∧ (¬ (((ByteArray.size sp0 : Int) : Int) > (1 : Int)) → (natural_Valid.L4 sp0 (ByteArray.size sp0 : Int) (0 : Int) w.heap.size w R)))))) :
    Pure Tryz.prog 114 #[(.string sp0)] w R :=
  pure_of_run (natural_Valid.cx w w.heap.size R) 100000 follows Tryz.func114 rfl rfl rfl rfl rfl rfl rfl (Eq.mp (by kernel_rfl) h)

noncomputable def natural_GCD.cx (w : World) (B : Nat) (R : Value → World → Prop) : Cx := ⟨Tryz.prog, 132, 25, Tryz.f132.results.toList, [], [], w, B, R⟩
theorem natural_GCD.vc (sp0 : ByteArray) (sp1 : ByteArray) (w : World) (R : Value → World → Prop)
    (h : (Pure Tryz.prog 147 #[(.string sp0), (.string sp1)] w fun r4 w5 => ∃ (A1 : Option Addr) (n1 c1 : Nat) (A2 : Option Addr) (n2 c2 : Nat) (i3 : Int), r4 = (.tuple #[(.slice A1 n1 c1), (.slice A2 n2 c2), (.int .i64 i3)]) ∧ ((((i3 : Int) ≠ (0 : Int)) → (R (.tuple #[(.string (⟨#[]⟩ : ByteArray)), (.int .i64 i3)]) w5)) ∧ (¬ ((i3 : Int) ≠ (0 : Int)) → (Pure Tryz.prog 148 #[(.func (.func 149) #[(.slice A1 n1 c1)] #[]), (.slice A2 n2 c2)] w5 fun r8 w9 => ∃ (s6 : ByteArray) (i7 : Int), r8 = (.tuple #[(.string s6), (.int .i64 i7)]) ∧ (R (.tuple #[(.string s6), (.int .i64 i7)]) w9)))))) :
    Pure Tryz.prog 132 #[(.string sp0), (.string sp1)] w R :=
  pure_of_run (natural_GCD.cx w w.heap.size R) 100000 follows Tryz.func132 rfl rfl rfl rfl rfl rfl rfl (Eq.mp (by kernel_rfl) h)

noncomputable def natural_both.cx (w : World) (B : Nat) (R : Value → World → Prop) : Cx := ⟨Tryz.prog, 147, 19, Tryz.f147.results.toList, [], [], w, B, R⟩
theorem natural_both.vc (sp0 : ByteArray) (sp1 : ByteArray) (w : World) (R : Value → World → Prop)
    (h : (Pure Tryz.prog 114 #[(.string sp0)] w fun r2 w3 => ∃ (b1 : Bool), r2 = (.bool b1) ∧ (((b1 = false) → (R (.tuple #[(.slice none 0 0), (.slice none 0 0), (.int .i64 (1 : Int))]) w3)) ∧ (¬ (b1 = false) → (Pure Tryz.prog 114 #[(.string sp1)] w3 fun r5 w6 => ∃ (b4 : Bool), r5 = (.bool b4) ∧ (((b4 = false) → (R (.tuple #[(.slice none 0 0), (.slice none 0 0), (.int .i64 (1 : Int))]) w6)) ∧ (¬ (b4 = false) → (Pure Tryz.prog 164 #[(.string sp0)] w6 fun r8 w9 => ∃ (A7 : Option Addr) (n7 c7 : Nat), r8 = (.slice A7 n7 c7) ∧ (Pure Tryz.prog 164 #[(.string sp1)] w9 fun r11 w12 => ∃ (A10 : Option Addr) (n10 c10 : Nat), r11 = (.slice A10 n10 c10) ∧ (R (.tuple #[(.slice A7 n7 c7), (.slice A10 n10 c10), (.int .i64 (0 : Int))]) w12)))))))))) :
    Pure Tryz.prog 147 #[(.string sp0), (.string sp1)] w R :=
  pure_of_run (natural_both.cx w w.heap.size R) 100000 follows Tryz.func147 rfl rfl rfl rfl rfl rfl rfl (Eq.mp (by kernel_rfl) h)

noncomputable def natural_apply.cx (w : World) (B : Nat) (R : Value → World → Prop) : Cx := ⟨Tryz.prog, 148, 10, Tryz.f148.results.toList, [], [(1, 2, 4)], w, B, R⟩
theorem natural_apply.vc (fp0 : Nat) (ap0 kp0 : Array Value) (Ap1 : Option Addr) (np1 cp1 : Nat) (w : World) (R : Value → World → Prop)
    (h : (callable Tryz.prog fp0 = true ∧ (Pure Tryz.prog fp0 ((Array.toList ap0) ++ ([(.slice Ap1 np1 cp1)] : List Value) ++ (Array.toList kp0)).toArray w fun r2 w3 => ∃ (A1 : Option Addr) (n1 c1 : Nat), r2 = (.slice A1 n1 c1) ∧ (Pure Tryz.prog 165 #[(.slice A1 n1 c1)] w3 fun r5 w6 => ∃ (s4 : ByteArray), r5 = (.string s4) ∧ (R (.tuple #[(.string s4), (.int .i64 (0 : Int))]) w6))))) :
    Pure Tryz.prog 148 #[(.func (.func fp0) ap0 kp0), (.slice Ap1 np1 cp1)] w R :=
  pure_of_run (natural_apply.cx w w.heap.size R) 100000 follows Tryz.func148 rfl rfl rfl rfl rfl rfl rfl (Eq.mp (by kernel_rfl) h)

def natural_num_gcd.L1 (Al0 : Option Addr) (nl0 cl0 : Nat) (Al1 : Option Addr) (nl1 cl1 : Nat) (B : Nat) (w : World) (R : Value → World → Prop) : Prop := At Tryz.prog 149 45 (loopAt Tryz.f149 1) [(0, .v (.slice Al0 nl0 cl0)), (1, .v (.slice Al1 nl1 cl1))] [] B w R
def natural_num_gcd.L5 (il5 : Int) (il7 : Int) (B : Nat) (w : World) (R : Value → World → Prop) : Prop := At Tryz.prog 149 45 (loopAt Tryz.f149 5) [(5, .v (.int .u64 il5)), (7, .v (.int .u64 il7))] [] B w R
noncomputable def natural_num_gcd.cx (w : World) (B : Nat) (R : Value → World → Prop) : Cx := ⟨Tryz.prog, 149, 45, Tryz.f149.results.toList, [((true, 1), [0, 1], []), ((true, 5), [5, 7], [])], [], w, B, R⟩
theorem natural_num_gcd.L1.step (Al0 : Option Addr) (nl0 cl0 : Nat) (Al1 : Option Addr) (nl1 cl1 : Nat) (B : Nat) (w : World) (R : Value → World → Prop)
    (h : (((((nl1 : Int) : Int) > (0 : Int)) → (Pure Tryz.prog 166 #[(.slice Al0 nl0 cl0)] w fun r3 w4 => ∃ (i1 : Int) (b2 : Bool), r3 = (.tuple #[(.int .u64 i1), (.bool b2)]) ∧ (Pure Tryz.prog 166 #[(.slice Al1 nl1 cl1)] w4 fun r7 w8 => ∃ (i5 : Int) (b6 : Bool), r7 = (.tuple #[(.int .u64 i5), (.bool b6)]) ∧ ((b2 = true → ((b6 = true → (natural_num_gcd.L5 i1 i5 B w8 R)) ∧ (b6 = false → (Pure Tryz.prog 168 #[(.slice Al0 nl0 cl0), (.slice Al1 nl1 cl1)] w8 fun r11 w12 => ∃ (A9 : Option Addr) (n9 c9 : Nat) (A10 : Option Addr) (n10 c10 : Nat), r11 = (.tuple #[(.slice A9 n9 c9), (.slice A10 n10 c10)]) ∧ (natural_num_gcd.L1 Al1 nl1 cl1 A10 n10 c10 B w12 R))))) ∧ (b2 = false → (Pure Tryz.prog 168 #[(.slice Al0 nl0 cl0), (.slice Al1 nl1 cl1)] w8 fun r15 w16 => ∃ (A13 : Option Addr) (n13 c13 : Nat) (A14 : Option Addr) (n14 c14 : Nat), r15 = (.tuple #[(.slice A13 n13 c13), (.slice A14 n14 c14)]) ∧ (natural_num_gcd.L1 Al1 nl1 cl1 A14 n14 c14 B w16 R))))))) ∧ (¬ (((nl1 : Int) : Int) > (0 : Int)) → (R (.slice Al0 nl0 cl0) w)))) :
    natural_num_gcd.L1 Al0 nl0 cl0 Al1 nl1 cl1 B w R :=
  loop_of_run (natural_num_gcd.cx w B R) 100000 (loopAt Tryz.f149 1) _ _ follows Tryz.func149 rfl rfl rfl (Eq.mp (by kernel_rfl) h)
theorem natural_num_gcd.L5.step (il5 : Int) (il7 : Int) (B : Nat) (w : World) (R : Value → World → Prop)
    (h : ((((il7 : Int) > (0 : Int)) → ((0 ≤ il5 ∧ 0 < il7) ∧ (∀ w17, Ext B [] w w17 → (natural_num_gcd.L5 il7 (il5 % il7) B w17 R)))) ∧ (¬ ((il7 : Int) > (0 : Int)) → (Pure Tryz.prog 167 #[(.int .u64 il5)] w fun r19 w20 => ∃ (A18 : Option Addr) (n18 c18 : Nat), r19 = (.slice A18 n18 c18) ∧ (R (.slice A18 n18 c18) w20))))) :
    natural_num_gcd.L5 il5 il7 B w R :=
  loop_of_run (natural_num_gcd.cx w B R) 100000 (loopAt Tryz.f149 5) _ _ follows Tryz.func149 rfl rfl rfl (Eq.mp (by kernel_rfl) h)
theorem natural_num_gcd.vc (Ap0 : Option Addr) (np0 cp0 : Nat) (Ap1 : Option Addr) (np1 cp1 : Nat) (w : World) (R : Value → World → Prop)
    (h : (natural_num_gcd.L1 Ap0 np0 cp0 Ap1 np1 cp1 w.heap.size w R)) :
    Pure Tryz.prog 149 #[(.slice Ap0 np0 cp0), (.slice Ap1 np1 cp1)] w R :=
  pure_of_run (natural_num_gcd.cx w w.heap.size R) 100000 follows Tryz.func149 rfl rfl rfl rfl rfl rfl rfl (Eq.mp (by kernel_rfl) h)

noncomputable def natural_Mul.cx (w : World) (B : Nat) (R : Value → World → Prop) : Cx := ⟨Tryz.prog, 154, 25, Tryz.f154.results.toList, [], [], w, B, R⟩
theorem natural_Mul.vc (sp0 : ByteArray) (sp1 : ByteArray) (w : World) (R : Value → World → Prop)
    (h : (Pure Tryz.prog 147 #[(.string sp0), (.string sp1)] w fun r4 w5 => ∃ (A1 : Option Addr) (n1 c1 : Nat) (A2 : Option Addr) (n2 c2 : Nat) (i3 : Int), r4 = (.tuple #[(.slice A1 n1 c1), (.slice A2 n2 c2), (.int .i64 i3)]) ∧ ((((i3 : Int) ≠ (0 : Int)) → (R (.tuple #[(.string (⟨#[]⟩ : ByteArray)), (.int .i64 i3)]) w5)) ∧ (¬ ((i3 : Int) ≠ (0 : Int)) → (Pure Tryz.prog 148 #[(.func (.func 179) #[(.slice A1 n1 c1)] #[]), (.slice A2 n2 c2)] w5 fun r8 w9 => ∃ (s6 : ByteArray) (i7 : Int), r8 = (.tuple #[(.string s6), (.int .i64 i7)]) ∧ (R (.tuple #[(.string s6), (.int .i64 i7)]) w9)))))) :
    Pure Tryz.prog 154 #[(.string sp0), (.string sp1)] w R :=
  pure_of_run (natural_Mul.cx w w.heap.size R) 100000 follows Tryz.func154 rfl rfl rfl rfl rfl rfl rfl (Eq.mp (by kernel_rfl) h)

def natural_read.L2 (sl0 : ByteArray) (Al3 : Option Addr) (nl3 cl3 : Nat) (B : Nat) (w : World) (R : Value → World → Prop) : Prop := At Tryz.prog 164 31 (loopAt Tryz.f164 2) [(0, .v (.string sl0)), (3, .v (.slice Al3 nl3 cl3))] [] B w R
noncomputable def natural_read.cx (w : World) (B : Nat) (R : Value → World → Prop) : Cx := ⟨Tryz.prog, 164, 31, Tryz.f164.results.toList, [((true, 2), [0, 3], [])], [(5, 3, 2), (5, 4, 2)], w, B, R⟩
theorem natural_read.L2.step (sl0 : ByteArray) (Al3 : Option Addr) (nl3 cl3 : Nat) (B : Nat) (w : World) (R : Value → World → Prop)
    (h : (((((ByteArray.size sl0 : Int) : Int) > (0 : Int)) → (inR .i64 ((ByteArray.size sl0 : Int) - (9 : Int)) ∧ ((0 ≤ (if (0 : Int) > ((ByteArray.size sl0 : Int) - (9 : Int)) then (0 : Int) else ((ByteArray.size sl0 : Int) - (9 : Int))) ∧ (if (0 : Int) > ((ByteArray.size sl0 : Int) - (9 : Int)) then (0 : Int) else ((ByteArray.size sl0 : Int) - (9 : Int))) ≤ (ByteArray.size sl0 : Int)) ∧ (Pure Tryz.prog 186 #[(.string (ByteArray.extract sl0 ((if (0 : Int) > ((ByteArray.size sl0 : Int) - (9 : Int)) then (0 : Int) else ((ByteArray.size sl0 : Int) - (9 : Int)))).toNat (ByteArray.size sl0))), (.int .i64 (10 : Int)), (.int .i64 (32 : Int))] w fun r3 w4 => ∃ (i1 : Int) (v2 : Value), r3 = (.tuple #[(.int .u64 i1), v2]) ∧ (inR .u32 (i1) ∧ (RunOk Tryz.prog (Instr.buildSlice 176 1 #[(0, (.int .u32 (i1)))]) B [] w4 fun r6 w7 => ∃ (A5 : Option Addr) (n5 c5 : Nat), r6 = (.slice A5 n5 c5) ∧ (RunOk Tryz.prog (Builtin.append_ #[176, 176] 176 #[(.slice Al3 nl3 cl3), (.slice A5 n5 c5)]) B [] w7 fun r9 w10 => ∃ (A8 : Option Addr) (n8 c8 : Nat), r9 = (.slice A8 n8 c8) ∧ ((0 ≤ (if (0 : Int) > ((ByteArray.size sl0 : Int) - (9 : Int)) then (0 : Int) else ((ByteArray.size sl0 : Int) - (9 : Int))) ∧ (if (0 : Int) > ((ByteArray.size sl0 : Int) - (9 : Int)) then (0 : Int) else ((ByteArray.size sl0 : Int) - (9 : Int))) ≤ (ByteArray.size sl0 : Int)) ∧ (natural_read.L2 (ByteArray.extract sl0 0 ((if (0 : Int) > ((ByteArray.size sl0 : Int) - (9 : Int)) then (0 : Int) else ((ByteArray.size sl0 : Int) - (9 : Int)))).toNat) A8 n8 c8 B w10 R))))))))) ∧ (¬ (((ByteArray.size sl0 : Int) : Int) > (0 : Int)) → (Pure Tryz.prog 187 #[(.slice Al3 nl3 cl3)] w fun r12 w13 => ∃ (A11 : Option Addr) (n11 c11 : Nat), r12 = (.slice A11 n11 c11) ∧ (R (.slice A11 n11 c11) w13))))) :
    natural_read.L2 sl0 Al3 nl3 cl3 B w R :=
  loop_of_run (natural_read.cx w B R) 100000 (loopAt Tryz.f164 2) _ _ follows Tryz.func164 rfl rfl rfl (Eq.mp (by kernel_rfl) h)
theorem natural_read.vc (sp0 : ByteArray) (w : World) (R : Value → World → Prop)
    (h : (natural_read.L2 sp0 none 0 0 w.heap.size w R)) :
    Pure Tryz.prog 164 #[(.string sp0)] w R :=
  pure_of_run (natural_read.cx w w.heap.size R) 100000 follows Tryz.func164 rfl rfl rfl rfl rfl rfl rfl (Eq.mp (by kernel_rfl) h)

noncomputable def natural_num_small.cx (w : World) (B : Nat) (R : Value → World → Prop) : Cx := ⟨Tryz.prog, 166, 26, Tryz.f166.results.toList, [], [], w, B, R⟩
theorem natural_num_small.vc (Ap0 : Option Addr) (np0 cp0 : Nat) (w : World) (R : Value → World → Prop)
    (h : (((((np0 : Int) : Int) = (0 : Int)) → (R (.tuple #[(.int .u64 (0 : Int)), (.bool true)]) w)) ∧ (¬ (((np0 : Int) : Int) = (0 : Int)) → (((((np0 : Int) : Int) = (1 : Int)) → ((0 ≤ (0 : Int) ∧ (0 : Int) < np0) ∧ ∃ a1, Ap0 = some a1 ∧ (∃ (i2 : Int), CellsAt w (a1.add (((0 : Int)).toNat * 1)) [(.int .u32 i2)] ∧ (inR .u64 (i2) ∧ (R (.tuple #[(.int .u64 (i2)), (.bool true)]) w))))) ∧ (¬ (((np0 : Int) : Int) = (1 : Int)) → (((((np0 : Int) : Int) = (2 : Int)) → ((0 ≤ (0 : Int) ∧ (0 : Int) < np0) ∧ ∃ a3, Ap0 = some a3 ∧ (∃ (i4 : Int), CellsAt w (a3.add (((0 : Int)).toNat * 1)) [(.int .u32 i4)] ∧ (inR .u64 (i4) ∧ ((0 ≤ (1 : Int) ∧ (1 : Int) < np0) ∧ ∃ a5, Ap0 = some a5 ∧ (∃ (i6 : Int), CellsAt w (a5.add (((1 : Int)).toNat * 1)) [(.int .u32 i6)] ∧ (inR .u64 (i6) ∧ (inR .u64 ((1000000000 : Int) * (i6)) ∧ (inR .u64 ((i4) + ((1000000000 : Int) * (i6))) ∧ (∀ w7, Ext w.heap.size [] w w7 → (R (.tuple #[(.int .u64 ((i4) + ((1000000000 : Int) * (i6)))), (.bool true)]) w7))))))))))) ∧ (¬ (((np0 : Int) : Int) = (2 : Int)) → (R (.tuple #[(.int .u64 (0 : Int)), (.bool false)]) w)))))))) :
    Pure Tryz.prog 166 #[(.slice Ap0 np0 cp0)] w R :=
  pure_of_run (natural_num_small.cx w w.heap.size R) 100000 follows Tryz.func166 rfl rfl rfl rfl rfl rfl rfl (Eq.mp (by kernel_rfl) h)

noncomputable def natural_of.cx (w : World) (B : Nat) (R : Value → World → Prop) : Cx := ⟨Tryz.prog, 167, 11, Tryz.f167.results.toList, [], [(1, 6, 2)], w, B, R⟩
theorem natural_of.vc (ip0 : Int) (w : World) (R : Value → World → Prop)
    (h : ((0 ≤ ip0 ∧ 0 < (1000000000 : Int)) ∧ (inR .u32 ((ip0 % (1000000000 : Int))) ∧ ((0 ≤ ip0 ∧ 0 < (1000000000 : Int) ∧ inR .u64 ip0) ∧ (inR .u32 ((ip0 / (1000000000 : Int))) ∧ (RunOk Tryz.prog (Instr.buildSlice 176 2 #[(0, (.int .u32 ((ip0 % (1000000000 : Int))))), (1, (.int .u32 ((ip0 / (1000000000 : Int)))))]) w.heap.size [] w fun r2 w3 => ∃ (A1 : Option Addr) (n1 c1 : Nat), r2 = (.slice A1 n1 c1) ∧ (Pure Tryz.prog 187 #[(.slice A1 n1 c1)] w3 fun r5 w6 => ∃ (A4 : Option Addr) (n4 c4 : Nat), r5 = (.slice A4 n4 c4) ∧ (R (.slice A4 n4 c4) w6)))))))) :
    Pure Tryz.prog 167 #[(.int .u64 ip0)] w R :=
  pure_of_run (natural_of.cx w w.heap.size R) 100000 follows Tryz.func167 rfl rfl rfl rfl rfl rfl rfl (Eq.mp (by kernel_rfl) h)

def natural_num_divide.J7 (Al0 : Option Addr) (nl0 cl0 : Nat) (Al1 : Option Addr) (nl1 cl1 : Nat) (B : Nat) (w : World) (R : Value → World → Prop) : Prop := At Tryz.prog 168 299 (regionAt Tryz.f168 7) [(0, .v (.slice Al0 nl0 cl0)), (1, .v (.slice Al1 nl1 cl1))] [] B w R
def natural_num_divide.J13 (Al10 : Option Addr) (nl10 cl10 : Nat) (Al11 : Option Addr) (nl11 cl11 : Nat) (Al12 : Option Addr) (nl12 cl12 : Nat) (B : Nat) (w : World) (R : Value → World → Prop) : Prop := At Tryz.prog 168 299 (regionAt Tryz.f168 13) [(10, .v (.slice Al10 nl10 cl10)), (11, .v (.slice Al11 nl11 cl11)), (12, .v (.slice Al12 nl12 cl12))] [] B w R
def natural_num_divide.L16 (Al10 : Option Addr) (nl10 cl10 : Nat) (Al11 : Option Addr) (nl11 cl11 : Nat) (Al12 : Option Addr) (nl12 cl12 : Nat) (il13 : Int) (Al14 : Option Addr) (nl14 cl14 : Nat) (il15 : Int) (B : Nat) (w : World) (R : Value → World → Prop) : Prop := At Tryz.prog 168 299 (loopAt Tryz.f168 16) [(10, .v (.slice Al10 nl10 cl10)), (11, .v (.slice Al11 nl11 cl11)), (12, .v (.slice Al12 nl12 cl12)), (13, .v (.int .i64 il13)), (14, .v (.slice Al14 nl14 cl14)), (15, .v (.int .i64 il15))] [] B w R
def natural_num_divide.L20 (Al10 : Option Addr) (nl10 cl10 : Nat) (Al11 : Option Addr) (nl11 cl11 : Nat) (Al12 : Option Addr) (nl12 cl12 : Nat) (il13 : Int) (Al14 : Option Addr) (nl14 cl14 : Nat) (il15 : Int) (il17 : Int) (il18 : Int) (B : Nat) (w : World) (R : Value → World → Prop) : Prop := At Tryz.prog 168 299 (loopAt Tryz.f168 20) [(10, .v (.slice Al10 nl10 cl10)), (11, .v (.slice Al11 nl11 cl11)), (12, .v (.slice Al12 nl12 cl12)), (13, .v (.int .i64 il13)), (14, .v (.slice Al14 nl14 cl14)), (15, .v (.int .i64 il15)), (17, .v (.int .u64 il17)), (18, .v (.int .u64 il18))] [] B w R
def natural_num_divide.L26 (Al10 : Option Addr) (nl10 cl10 : Nat) (Al11 : Option Addr) (nl11 cl11 : Nat) (Al12 : Option Addr) (nl12 cl12 : Nat) (il13 : Int) (Al14 : Option Addr) (nl14 cl14 : Nat) (il15 : Int) (il17 : Int) (il19 : Int) (il20 : Int) (il180 : Int) (il181 : Int) (B : Nat) (w : World) (R : Value → World → Prop) : Prop := At Tryz.prog 168 299 (loopAt Tryz.f168 26) [(10, .v (.slice Al10 nl10 cl10)), (11, .v (.slice Al11 nl11 cl11)), (12, .v (.slice Al12 nl12 cl12)), (13, .v (.int .i64 il13)), (14, .v (.slice Al14 nl14 cl14)), (15, .v (.int .i64 il15)), (17, .v (.int .u64 il17)), (19, .v (.int .i64 il19)), (20, .v (.int .i64 il20)), (180, .v (.int .i64 il180)), (181, .v (.int .i64 il181))] [] B w R
def natural_num_divide.L42 (Al10 : Option Addr) (nl10 cl10 : Nat) (Al11 : Option Addr) (nl11 cl11 : Nat) (Al12 : Option Addr) (nl12 cl12 : Nat) (il13 : Int) (Al14 : Option Addr) (nl14 cl14 : Nat) (il15 : Int) (il17 : Int) (il24 : Int) (il25 : Int) (il235 : Int) (il236 : Int) (B : Nat) (w : World) (R : Value → World → Prop) : Prop := At Tryz.prog 168 299 (loopAt Tryz.f168 42) [(10, .v (.slice Al10 nl10 cl10)), (11, .v (.slice Al11 nl11 cl11)), (12, .v (.slice Al12 nl12 cl12)), (13, .v (.int .i64 il13)), (14, .v (.slice Al14 nl14 cl14)), (15, .v (.int .i64 il15)), (17, .v (.int .u64 il17)), (24, .v (.int .i64 il24)), (25, .v (.int .u64 il25)), (235, .v (.int .i64 il235)), (236, .v (.int .i64 il236))] [] B w R
def natural_num_divide.J49 (Al10 : Option Addr) (nl10 cl10 : Nat) (Al11 : Option Addr) (nl11 cl11 : Nat) (Al12 : Option Addr) (nl12 cl12 : Nat) (il13 : Int) (Al14 : Option Addr) (nl14 cl14 : Nat) (il15 : Int) (il17 : Int) (il24 : Int) (B : Nat) (w : World) (R : Value → World → Prop) : Prop := At Tryz.prog 168 299 (regionAt Tryz.f168 49) [(10, .v (.slice Al10 nl10 cl10)), (11, .v (.slice Al11 nl11 cl11)), (12, .v (.slice Al12 nl12 cl12)), (13, .v (.int .i64 il13)), (14, .v (.slice Al14 nl14 cl14)), (15, .v (.int .i64 il15)), (17, .v (.int .u64 il17)), (24, .v (.int .i64 il24))] [] B w R
noncomputable def natural_num_divide.cx (w : World) (B : Nat) (R : Value → World → Prop) : Cx := ⟨Tryz.prog, 168, 299, Tryz.f168.results.toList, [((true, 16), [10, 11, 12, 13, 14, 15], []), ((true, 20), [10, 11, 12, 13, 14, 15, 17, 18], []), ((true, 26), [10, 11, 12, 13, 14, 15, 17, 19, 20, 180, 181], []), ((true, 42), [10, 11, 12, 13, 14, 15, 17, 24, 25, 235, 236], []), ((false, 7), [0, 1], []), ((false, 13), [10, 11, 12], []), ((false, 49), [10, 11, 12, 13, 14, 15, 17, 24], [])], [(10, 3, 2), (10, 4, 2), (12, 1, 2), (12, 2, 2), (14, 4, 2), (19, 9999, 3)], w, B, R⟩
theorem natural_num_divide.J7.step (Al0 : Option Addr) (nl0 cl0 : Nat) (Al1 : Option Addr) (nl1 cl1 : Nat) (B : Nat) (w : World) (R : Value → World → Prop)
    (h : (((((nl1 : Int) : Int) = (1 : Int)) → ((0 ≤ (0 : Int) ∧ (0 : Int) < nl1) ∧ ∃ a19, Al1 = some a19 ∧ (∃ (i20 : Int), CellsAt w (a19.add (((0 : Int)).toNat * 1)) [(.int .u32 i20)] ∧ (inR .u64 (i20) ∧ (Pure Tryz.prog 194 #[(.slice Al0 nl0 cl0), (.int .u64 (i20))] w fun r23 w24 => ∃ (A21 : Option Addr) (n21 c21 : Nat) (A22 : Option Addr) (n22 c22 : Nat), r23 = (.tuple #[(.slice A21 n21 c21), (.slice A22 n22 c22)]) ∧ (R (.tuple #[(.slice A21 n21 c21), (.slice A22 n22 c22)]) w24)))))) ∧ (¬ (((nl1 : Int) : Int) = (1 : Int)) → (inR .i64 ((nl1 : Int) - (1 : Int)) ∧ ((0 ≤ ((nl1 : Int) - (1 : Int)) ∧ ((nl1 : Int) - (1 : Int)) < nl1) ∧ ∃ a25, Al1 = some a25 ∧ (∃ (i26 : Int), CellsAt w (a25.add ((((nl1 : Int) - (1 : Int))).toNat * 1)) [(.int .u32 i26)] ∧ (inR .u64 (i26) ∧ (inR .u64 ((i26) + (1 : Int)) ∧ ((0 ≤ (1000000000 : Int) ∧ 0 < ((i26) + (1 : Int)) ∧ inR .u64 (1000000000 : Int)) ∧ (Pure Tryz.prog 167 #[(.int .u64 ((1000000000 : Int) / ((i26) + (1 : Int))))] w fun r28 w29 => ∃ (A27 : Option Addr) (n27 c27 : Nat), r28 = (.slice A27 n27 c27) ∧ (Pure Tryz.prog 179 #[(.slice Al0 nl0 cl0), (.slice A27 n27 c27)] w29 fun r31 w32 => ∃ (A30 : Option Addr) (n30 c30 : Nat), r31 = (.slice A30 n30 c30) ∧ (RunOk Tryz.prog (Instr.buildSlice 176 1 #[(0, (.int .u32 (0 : Int)))]) B [] w32 fun r34 w35 => ∃ (A33 : Option Addr) (n33 c33 : Nat), r34 = (.slice A33 n33 c33) ∧ (RunOk Tryz.prog (Builtin.append_ #[176, 176] 176 #[(.slice A30 n30 c30), (.slice A33 n33 c33)]) B [] w35 fun r37 w38 => ∃ (A36 : Option Addr) (n36 c36 : Nat), r37 = (.slice A36 n36 c36) ∧ (Pure Tryz.prog 179 #[(.slice Al1 nl1 cl1), (.slice A27 n27 c27)] w38 fun r40 w41 => ∃ (A39 : Option Addr) (n39 c39 : Nat), r40 = (.slice A39 n39 c39) ∧ (((((n36 : Int) : Int) = (nl0 : Int)) → (RunOk Tryz.prog (Instr.buildSlice 176 1 #[(0, (.int .u32 (0 : Int)))]) B [] w41 fun r43 w44 => ∃ (A42 : Option Addr) (n42 c42 : Nat), r43 = (.slice A42 n42 c42) ∧ (RunOk Tryz.prog (Builtin.append_ #[176, 176] 176 #[(.slice A36 n36 c36), (.slice A42 n42 c42)]) B [] w44 fun r46 w47 => ∃ (A45 : Option Addr) (n45 c45 : Nat), r46 = (.slice A45 n45 c45) ∧ (natural_num_divide.J13 A27 n27 c27 A45 n45 c45 A39 n39 c39 B w47 R)))) ∧ (¬ (((n36 : Int) : Int) = (nl0 : Int)) → (natural_num_divide.J13 A27 n27 c27 A36 n36 c36 A39 n39 c39 B w41 R))))))))))))))))) :
    natural_num_divide.J7 Al0 nl0 cl0 Al1 nl1 cl1 B w R :=
  join_of_run (natural_num_divide.cx w B R) 100000 (regionAt Tryz.f168 7) _ _ follows Tryz.func168 rfl rfl rfl (Eq.mp (by kernel_rfl) h)
theorem natural_num_divide.J13.step (Al10 : Option Addr) (nl10 cl10 : Nat) (Al11 : Option Addr) (nl11 cl11 : Nat) (Al12 : Option Addr) (nl12 cl12 : Nat) (B : Nat) (w : World) (R : Value → World → Prop)
    (h : (inR .i64 ((nl11 : Int) - (nl12 : Int)) ∧ (RunOk Tryz.prog (Instr.makeSlice 176 (.int .i64 ((nl11 : Int) - (nl12 : Int))) (.int .i64 ((nl11 : Int) - (nl12 : Int)))) B [] w fun r49 w50 => ∃ (A48 : Option Addr) (n48 c48 : Nat), r49 = (.slice A48 n48 c48) ∧ (inR .i64 ((n48 : Int) - (1 : Int)) ∧ (natural_num_divide.L16 Al10 nl10 cl10 Al11 nl11 cl11 Al12 nl12 cl12 (nl12 : Int) A48 n48 c48 ((n48 : Int) - (1 : Int)) B w50 R))))) :
    natural_num_divide.J13 Al10 nl10 cl10 Al11 nl11 cl11 Al12 nl12 cl12 B w R :=
  join_of_run (natural_num_divide.cx w B R) 100000 (regionAt Tryz.f168 13) _ _ follows Tryz.func168 rfl rfl rfl (Eq.mp (by kernel_rfl) h)
theorem natural_num_divide.L16.step (Al10 : Option Addr) (nl10 cl10 : Nat) (Al11 : Option Addr) (nl11 cl11 : Nat) (Al12 : Option Addr) (nl12 cl12 : Nat) (il13 : Int) (Al14 : Option Addr) (nl14 cl14 : Nat) (il15 : Int) (B : Nat) (w : World) (R : Value → World → Prop)
    (h : ((((il15 : Int) ≥ (0 : Int)) → (inR .i64 (il15 + il13) ∧ ((0 ≤ (il15 + il13) ∧ (il15 + il13) < nl11) ∧ ∃ a51, Al11 = some a51 ∧ (∃ (i52 : Int), CellsAt w (a51.add (((il15 + il13)).toNat * 1)) [(.int .u32 i52)] ∧ (inR .u64 (i52) ∧ (inR .u64 ((i52) * (1000000000 : Int)) ∧ (inR .i64 (il15 + il13) ∧ (inR .i64 ((il15 + il13) - (1 : Int)) ∧ ((0 ≤ ((il15 + il13) - (1 : Int)) ∧ ((il15 + il13) - (1 : Int)) < nl11) ∧ ∃ a53, Al11 = some a53 ∧ (∃ (i54 : Int), CellsAt w (a53.add ((((il15 + il13) - (1 : Int))).toNat * 1)) [(.int .u32 i54)] ∧ (inR .u64 (i54) ∧ (inR .u64 (((i52) * (1000000000 : Int)) + (i54)) ∧ (∀ w55, Ext B [] w w55 → (inR .i64 (il13 - (1 : Int)) ∧ ((0 ≤ (il13 - (1 : Int)) ∧ (il13 - (1 : Int)) < nl12) ∧ ∃ a56, Al12 = some a56 ∧ (∃ (i57 : Int), CellsAt w55 (a56.add (((il13 - (1 : Int))).toNat * 1)) [(.int .u32 i57)] ∧ (inR .u64 (i57) ∧ ((0 ≤ (((i52) * (1000000000 : Int)) + (i54)) ∧ 0 < (i57) ∧ inR .u64 (((i52) * (1000000000 : Int)) + (i54))) ∧ (inR .i64 (il13 - (1 : Int)) ∧ ((0 ≤ (il13 - (1 : Int)) ∧ (il13 - (1 : Int)) < nl12) ∧ ∃ a58, Al12 = some a58 ∧ (∃ (i59 : Int), CellsAt w55 (a58.add (((il13 - (1 : Int))).toNat * 1)) [(.int .u32 i59)] ∧ (inR .u64 (i59) ∧ ((0 ≤ (((i52) * (1000000000 : Int)) + (i54)) ∧ 0 < (i59)) ∧ (∀ w60, Ext B [] w55 w60 → (natural_num_divide.L20 Al10 nl10 cl10 Al11 nl11 cl11 Al12 nl12 cl12 il13 Al14 nl14 cl14 il15 ((((i52) * (1000000000 : Int)) + (i54)) / (i57)) ((((i52) * (1000000000 : Int)) + (i54)) % (i59)) B w60 R))))))))))))))))))))))))) ∧ (¬ ((il15 : Int) ≥ (0 : Int)) → (Pure Tryz.prog 166 #[(.slice Al10 nl10 cl10)] w fun r63 w64 => ∃ (i61 : Int) (b62 : Bool), r63 = (.tuple #[(.int .u64 i61), (.bool b62)]) ∧ ((0 ≤ il13 ∧ il13 ≤ (cl11 : Int)) ∧ (Pure Tryz.prog 187 #[(.slice Al11 ((il13).toNat) cl11)] w64 fun r66 w67 => ∃ (A65 : Option Addr) (n65 c65 : Nat), r66 = (.slice A65 n65 c65) ∧ (Pure Tryz.prog 194 #[(.slice A65 n65 c65), (.int .u64 i61)] w67 fun r70 w71 => ∃ (A68 : Option Addr) (n68 c68 : Nat) (A69 : Option Addr) (n69 c69 : Nat), r70 = (.tuple #[(.slice A68 n68 c68), (.slice A69 n69 c69)]) ∧ (Pure Tryz.prog 187 #[(.slice Al14 nl14 cl14)] w71 fun r73 w74 => ∃ (A72 : Option Addr) (n72 c72 : Nat), r73 = (.slice A72 n72 c72) ∧ (R (.tuple #[(.slice A72 n72 c72), (.slice A68 n68 c68)]) w74))))))))) :
    natural_num_divide.L16 Al10 nl10 cl10 Al11 nl11 cl11 Al12 nl12 cl12 il13 Al14 nl14 cl14 il15 B w R :=
  loop_of_run (natural_num_divide.cx w B R) 100000 (loopAt Tryz.f168 16) _ _ follows Tryz.func168 rfl rfl rfl (Eq.mp (by kernel_rfl) h)
theorem natural_num_divide.L20.step (Al10 : Option Addr) (nl10 cl10 : Nat) (Al11 : Option Addr) (nl11 cl11 : Nat) (Al12 : Option Addr) (nl12 cl12 : Nat) (il13 : Int) (Al14 : Option Addr) (nl14 cl14 : Nat) (il15 : Int) (il17 : Int) (il18 : Int) (B : Nat) (w : World) (R : Value → World → Prop)
    (h : ((((il17 : Int) ≥ (1000000000 : Int)) → (inR .u64 (il17 - (1 : Int)) ∧ (inR .i64 (il13 - (1 : Int)) ∧ ((0 ≤ (il13 - (1 : Int)) ∧ (il13 - (1 : Int)) < nl12) ∧ ∃ a75, Al12 = some a75 ∧ (∀ w76, Ext B [] w w76 → (∃ (i77 : Int), CellsAt w76 (a75.add (((il13 - (1 : Int))).toNat * 1)) [(.int .u32 i77)] ∧ (inR .u64 (i77) ∧ (inR .u64 (il18 + (i77)) ∧ (((((il18 + (i77)) : Int) ≥ (1000000000 : Int)) → (natural_num_divide.L26 Al10 nl10 cl10 Al11 nl11 cl11 Al12 nl12 cl12 il13 Al14 nl14 cl14 il15 (il17 - (1 : Int)) (0 : Int) (0 : Int) il13 (0 : Int) B w76 R)) ∧ (¬ (((il18 + (i77)) : Int) ≥ (1000000000 : Int)) → (natural_num_divide.L20 Al10 nl10 cl10 Al11 nl11 cl11 Al12 nl12 cl12 il13 Al14 nl14 cl14 il15 (il17 - (1 : Int)) (il18 + (i77)) B w76 R))))))))))) ∧ (¬ ((il17 : Int) ≥ (1000000000 : Int)) → (inR .i64 (il13 - (2 : Int)) ∧ ((0 ≤ (il13 - (2 : Int)) ∧ (il13 - (2 : Int)) < nl12) ∧ ∃ a78, Al12 = some a78 ∧ (∃ (i79 : Int), CellsAt w (a78.add (((il13 - (2 : Int))).toNat * 1)) [(.int .u32 i79)] ∧ (inR .u64 (i79) ∧ (inR .u64 (il17 * (i79)) ∧ (inR .u64 (il18 * (1000000000 : Int)) ∧ (inR .i64 (il15 + il13) ∧ (inR .i64 ((il15 + il13) - (2 : Int)) ∧ ((0 ≤ ((il15 + il13) - (2 : Int)) ∧ ((il15 + il13) - (2 : Int)) < nl11) ∧ ∃ a80, Al11 = some a80 ∧ (∃ (i81 : Int), CellsAt w (a80.add ((((il15 + il13) - (2 : Int))).toNat * 1)) [(.int .u32 i81)] ∧ (inR .u64 (i81) ∧ (inR .u64 ((il18 * (1000000000 : Int)) + (i81)) ∧ (((((il17 * (i79)) : Int) > ((il18 * (1000000000 : Int)) + (i81))) → (inR .u64 (il17 - (1 : Int)) ∧ (inR .i64 (il13 - (1 : Int)) ∧ ((0 ≤ (il13 - (1 : Int)) ∧ (il13 - (1 : Int)) < nl12) ∧ ∃ a82, Al12 = some a82 ∧ (∀ w83, Ext B [] w w83 → (∃ (i84 : Int), CellsAt w83 (a82.add (((il13 - (1 : Int))).toNat * 1)) [(.int .u32 i84)] ∧ (inR .u64 (i84) ∧ (inR .u64 (il18 + (i84)) ∧ (((((il18 + (i84)) : Int) ≥ (1000000000 : Int)) → (natural_num_divide.L26 Al10 nl10 cl10 Al11 nl11 cl11 Al12 nl12 cl12 il13 Al14 nl14 cl14 il15 (il17 - (1 : Int)) (0 : Int) (0 : Int) il13 (0 : Int) B w83 R)) ∧ (¬ (((il18 + (i84)) : Int) ≥ (1000000000 : Int)) → (natural_num_divide.L20 Al10 nl10 cl10 Al11 nl11 cl11 Al12 nl12 cl12 il13 Al14 nl14 cl14 il15 (il17 - (1 : Int)) (il18 + (i84)) B w83 R))))))))))) ∧ (¬ (((il17 * (i79)) : Int) > ((il18 * (1000000000 : Int)) + (i81))) → (∀ w85, Ext B [] w w85 → (natural_num_divide.L26 Al10 nl10 cl10 Al11 nl11 cl11 Al12 nl12 cl12 il13 Al14 nl14 cl14 il15 il17 (0 : Int) (0 : Int) il13 (0 : Int) B w85 R))))))))))))))))))) :
    natural_num_divide.L20 Al10 nl10 cl10 Al11 nl11 cl11 Al12 nl12 cl12 il13 Al14 nl14 cl14 il15 il17 il18 B w R :=
  loop_of_run (natural_num_divide.cx w B R) 100000 (loopAt Tryz.f168 20) _ _ follows Tryz.func168 rfl rfl rfl (Eq.mp (by kernel_rfl) h)
theorem natural_num_divide.L26.step (Al10 : Option Addr) (nl10 cl10 : Nat) (Al11 : Option Addr) (nl11 cl11 : Nat) (Al12 : Option Addr) (nl12 cl12 : Nat) (il13 : Int) (Al14 : Option Addr) (nl14 cl14 : Nat) (il15 : Int) (il17 : Int) (il19 : Int) (il20 : Int) (il180 : Int) (il181 : Int) (B : Nat) (w : World) (R : Value → World → Prop)
    (h : ((((il181 : Int) < il180) → (inR .i64 (il17) ∧ ((0 ≤ il181 ∧ il181 < nl12) ∧ ∃ a86, Al12 = some a86 ∧ (∃ (i87 : Int), CellsAt w (a86.add ((il181).toNat * 1)) [(.int .u32 i87)] ∧ (inR .i64 (i87) ∧ (inR .i64 ((il17) * (i87)) ∧ (inR .i64 (((il17) * (i87)) + il19) ∧ ((0 ≤ (((il17) * (i87)) + il19) ∧ 0 < (1000000000 : Int) ∧ inR .i64 (((il17) * (i87)) + il19)) ∧ (inR .i64 (il181 + il15) ∧ ((0 ≤ (il181 + il15) ∧ (il181 + il15) < nl11) ∧ ∃ a88, Al11 = some a88 ∧ (∃ (i89 : Int), CellsAt w (a88.add (((il181 + il15)).toNat * 1)) [(.int .u32 i89)] ∧ (inR .i64 (i89) ∧ ((0 ≤ (((il17) * (i87)) + il19) ∧ 0 < (1000000000 : Int)) ∧ (inR .i64 ((i89) - ((((il17) * (i87)) + il19) % (1000000000 : Int))) ∧ (inR .i64 (((i89) - ((((il17) * (i87)) + il19) % (1000000000 : Int))) - il20) ∧ (((((((i89) - ((((il17) * (i87)) + il19) % (1000000000 : Int))) - il20) : Int) < (0 : Int)) → (inR .i64 ((((i89) - ((((il17) * (i87)) + il19) % (1000000000 : Int))) - il20) + (1000000000 : Int)) ∧ (inR .i64 (il181 + il15) ∧ (inR .u32 (((((i89) - ((((il17) * (i87)) + il19) % (1000000000 : Int))) - il20) + (1000000000 : Int))) ∧ ((0 ≤ (il181 + il15) ∧ (il181 + il15) < nl11) ∧ ∃ a90, Al11 = some a90 ∧ (∃ (cs91 : List Value) (t92 : Nat), B ≤ (a90.add (((il181 + il15)).toNat * 1)).block ∧ (a90.add (((il181 + il15)).toNat * 1)).spot = none ∧ w.heap[(a90.add (((il181 + il15)).toNat * 1)).block]? = some (.cells cs91.toArray t92 (0, 0)) ∧ (a90.add (((il181 + il15)).toNat * 1)).off + 1 ≤ cs91.length ∧ hasType t92 [] = false ∧ ∀ w93, Wrote w w93 (a90.add (((il181 + il15)).toNat * 1)).block t92 (setCells cs91 (a90.add (((il181 + il15)).toNat * 1)).off [(.int .u32 (((((i89) - ((((il17) * (i87)) + il19) % (1000000000 : Int))) - il20) + (1000000000 : Int))))]) → (inR .i64 (il181 + (1 : Int)) ∧ (natural_num_divide.L26 Al10 nl10 cl10 Al11 nl11 cl11 Al12 nl12 cl12 il13 Al14 nl14 cl14 il15 il17 ((((il17) * (i87)) + il19) / (1000000000 : Int)) (1 : Int) il180 (il181 + (1 : Int)) B w93 R)))))))) ∧ (¬ (((((i89) - ((((il17) * (i87)) + il19) % (1000000000 : Int))) - il20) : Int) < (0 : Int)) → (inR .i64 (il181 + il15) ∧ (inR .u32 ((((i89) - ((((il17) * (i87)) + il19) % (1000000000 : Int))) - il20)) ∧ ((0 ≤ (il181 + il15) ∧ (il181 + il15) < nl11) ∧ ∃ a94, Al11 = some a94 ∧ (∃ (cs95 : List Value) (t96 : Nat), B ≤ (a94.add (((il181 + il15)).toNat * 1)).block ∧ (a94.add (((il181 + il15)).toNat * 1)).spot = none ∧ w.heap[(a94.add (((il181 + il15)).toNat * 1)).block]? = some (.cells cs95.toArray t96 (0, 0)) ∧ (a94.add (((il181 + il15)).toNat * 1)).off + 1 ≤ cs95.length ∧ hasType t96 [] = false ∧ ∀ w97, Wrote w w97 (a94.add (((il181 + il15)).toNat * 1)).block t96 (setCells cs95 (a94.add (((il181 + il15)).toNat * 1)).off [(.int .u32 ((((i89) - ((((il17) * (i87)) + il19) % (1000000000 : Int))) - il20)))]) → (inR .i64 (il181 + (1 : Int)) ∧ (natural_num_divide.L26 Al10 nl10 cl10 Al11 nl11 cl11 Al12 nl12 cl12 il13 Al14 nl14 cl14 il15 il17 ((((il17) * (i87)) + il19) / (1000000000 : Int)) (0 : Int) il180 (il181 + (1 : Int)) B w97 R))))))))))))))))))))))) ∧ (¬ ((il181 : Int) < il180) → (inR .i64 (il15 + il13) ∧ ((0 ≤ (il15 + il13) ∧ (il15 + il13) < nl11) ∧ ∃ a98, Al11 = some a98 ∧ (∃ (i99 : Int), CellsAt w (a98.add (((il15 + il13)).toNat * 1)) [(.int .u32 i99)] ∧ (inR .i64 (i99) ∧ (inR .i64 ((i99) - il19) ∧ (inR .i64 (((i99) - il19) - il20) ∧ (((((((i99) - il19) - il20) : Int) < (0 : Int)) → (inR .u64 (il17 - (1 : Int)) ∧ (natural_num_divide.L42 Al10 nl10 cl10 Al11 nl11 cl11 Al12 nl12 cl12 il13 Al14 nl14 cl14 il15 (il17 - (1 : Int)) (((i99) - il19) - il20) (0 : Int) il13 (0 : Int) B w R))) ∧ (¬ (((((i99) - il19) - il20) : Int) < (0 : Int)) → (natural_num_divide.J49 Al10 nl10 cl10 Al11 nl11 cl11 Al12 nl12 cl12 il13 Al14 nl14 cl14 il15 il17 (((i99) - il19) - il20) B w R)))))))))))) :
    natural_num_divide.L26 Al10 nl10 cl10 Al11 nl11 cl11 Al12 nl12 cl12 il13 Al14 nl14 cl14 il15 il17 il19 il20 il180 il181 B w R :=
  loop_of_run (natural_num_divide.cx w B R) 100000 (loopAt Tryz.f168 26) _ _ follows Tryz.func168 rfl rfl rfl (Eq.mp (by kernel_rfl) h)
theorem natural_num_divide.L42.step (Al10 : Option Addr) (nl10 cl10 : Nat) (Al11 : Option Addr) (nl11 cl11 : Nat) (Al12 : Option Addr) (nl12 cl12 : Nat) (il13 : Int) (Al14 : Option Addr) (nl14 cl14 : Nat) (il15 : Int) (il17 : Int) (il24 : Int) (il25 : Int) (il235 : Int) (il236 : Int) (B : Nat) (w : World) (R : Value → World → Prop)
    (h : ((((il236 : Int) < il235) → (inR .i64 (il236 + il15) ∧ ((0 ≤ (il236 + il15) ∧ (il236 + il15) < nl11) ∧ ∃ a100, Al11 = some a100 ∧ (∃ (i101 : Int), CellsAt w (a100.add (((il236 + il15)).toNat * 1)) [(.int .u32 i101)] ∧ (inR .u64 (i101) ∧ ((0 ≤ il236 ∧ il236 < nl12) ∧ ∃ a102, Al12 = some a102 ∧ (∃ (i103 : Int), CellsAt w (a102.add ((il236).toNat * 1)) [(.int .u32 i103)] ∧ (inR .u64 (i103) ∧ (inR .u64 ((i101) + (i103)) ∧ (inR .u64 (il25 + ((i101) + (i103))) ∧ (inR .i64 (il236 + il15) ∧ ((0 ≤ (il25 + ((i101) + (i103))) ∧ 0 < (1000000000 : Int)) ∧ (inR .u32 (((il25 + ((i101) + (i103))) % (1000000000 : Int))) ∧ ((0 ≤ (il236 + il15) ∧ (il236 + il15) < nl11) ∧ ∃ a104, Al11 = some a104 ∧ (∀ w105, Ext B [] w w105 → (∃ (cs106 : List Value) (t107 : Nat), B ≤ (a104.add (((il236 + il15)).toNat * 1)).block ∧ (a104.add (((il236 + il15)).toNat * 1)).spot = none ∧ w105.heap[(a104.add (((il236 + il15)).toNat * 1)).block]? = some (.cells cs106.toArray t107 (0, 0)) ∧ (a104.add (((il236 + il15)).toNat * 1)).off + 1 ≤ cs106.length ∧ hasType t107 [] = false ∧ ∀ w108, Wrote w105 w108 (a104.add (((il236 + il15)).toNat * 1)).block t107 (setCells cs106 (a104.add (((il236 + il15)).toNat * 1)).off [(.int .u32 (((il25 + ((i101) + (i103))) % (1000000000 : Int))))]) → ((0 ≤ (il25 + ((i101) + (i103))) ∧ 0 < (1000000000 : Int) ∧ inR .u64 (il25 + ((i101) + (i103)))) ∧ (inR .i64 (il236 + (1 : Int)) ∧ (natural_num_divide.L42 Al10 nl10 cl10 Al11 nl11 cl11 Al12 nl12 cl12 il13 Al14 nl14 cl14 il15 il17 il24 ((il25 + ((i101) + (i103))) / (1000000000 : Int)) il235 (il236 + (1 : Int)) B w108 R))))))))))))))))))) ∧ (¬ ((il236 : Int) < il235) → (inR .i64 (il25) ∧ (inR .i64 (il24 + (il25)) ∧ (natural_num_divide.J49 Al10 nl10 cl10 Al11 nl11 cl11 Al12 nl12 cl12 il13 Al14 nl14 cl14 il15 il17 (il24 + (il25)) B w R)))))) :
    natural_num_divide.L42 Al10 nl10 cl10 Al11 nl11 cl11 Al12 nl12 cl12 il13 Al14 nl14 cl14 il15 il17 il24 il25 il235 il236 B w R :=
  loop_of_run (natural_num_divide.cx w B R) 100000 (loopAt Tryz.f168 42) _ _ follows Tryz.func168 rfl rfl rfl (Eq.mp (by kernel_rfl) h)
theorem natural_num_divide.J49.step (Al10 : Option Addr) (nl10 cl10 : Nat) (Al11 : Option Addr) (nl11 cl11 : Nat) (Al12 : Option Addr) (nl12 cl12 : Nat) (il13 : Int) (Al14 : Option Addr) (nl14 cl14 : Nat) (il15 : Int) (il17 : Int) (il24 : Int) (B : Nat) (w : World) (R : Value → World → Prop)
    (h : (inR .i64 (il15 + il13) ∧ (inR .u32 ((if (0 : Int) > il24 then (0 : Int) else il24)) ∧ ((0 ≤ (il15 + il13) ∧ (il15 + il13) < nl11) ∧ ∃ a109, Al11 = some a109 ∧ (∃ (cs110 : List Value) (t111 : Nat), B ≤ (a109.add (((il15 + il13)).toNat * 1)).block ∧ (a109.add (((il15 + il13)).toNat * 1)).spot = none ∧ w.heap[(a109.add (((il15 + il13)).toNat * 1)).block]? = some (.cells cs110.toArray t111 (0, 0)) ∧ (a109.add (((il15 + il13)).toNat * 1)).off + 1 ≤ cs110.length ∧ hasType t111 [] = false ∧ ∀ w112, Wrote w w112 (a109.add (((il15 + il13)).toNat * 1)).block t111 (setCells cs110 (a109.add (((il15 + il13)).toNat * 1)).off [(.int .u32 ((if (0 : Int) > il24 then (0 : Int) else il24)))]) → (inR .u32 (il17) ∧ ((0 ≤ il15 ∧ il15 < nl14) ∧ ∃ a113, Al14 = some a113 ∧ (∃ (cs114 : List Value) (t115 : Nat), B ≤ (a113.add ((il15).toNat * 1)).block ∧ (a113.add ((il15).toNat * 1)).spot = none ∧ w112.heap[(a113.add ((il15).toNat * 1)).block]? = some (.cells cs114.toArray t115 (0, 0)) ∧ (a113.add ((il15).toNat * 1)).off + 1 ≤ cs114.length ∧ hasType t115 [] = false ∧ ∀ w116, Wrote w112 w116 (a113.add ((il15).toNat * 1)).block t115 (setCells cs114 (a113.add ((il15).toNat * 1)).off [(.int .u32 (il17))]) → (inR .i64 (il15 - (1 : Int)) ∧ (natural_num_divide.L16 Al10 nl10 cl10 Al11 nl11 cl11 Al12 nl12 cl12 il13 Al14 nl14 cl14 (il15 - (1 : Int)) B w116 R)))))))))) :
    natural_num_divide.J49 Al10 nl10 cl10 Al11 nl11 cl11 Al12 nl12 cl12 il13 Al14 nl14 cl14 il15 il17 il24 B w R :=
  join_of_run (natural_num_divide.cx w B R) 100000 (regionAt Tryz.f168 49) _ _ follows Tryz.func168 rfl rfl rfl (Eq.mp (by kernel_rfl) h)
theorem natural_num_divide.vc (Ap0 : Option Addr) (np0 cp0 : Nat) (Ap1 : Option Addr) (np1 cp1 : Nat) (w : World) (R : Value → World → Prop)
    (h : (Pure Tryz.prog 193 #[(.slice Ap0 np0 cp0), (.slice Ap1 np1 cp1)] w fun r2 w3 => ∃ (i1 : Int), r2 = (.int .i64 i1) ∧ ((((i1 : Int) < (0 : Int)) → (R (.tuple #[(.slice none 0 0), (.slice Ap0 np0 cp0)]) w3)) ∧ (¬ ((i1 : Int) < (0 : Int)) → (Pure Tryz.prog 166 #[(.slice Ap0 np0 cp0)] w3 fun r6 w7 => ∃ (i4 : Int) (b5 : Bool), r6 = (.tuple #[(.int .u64 i4), (.bool b5)]) ∧ (Pure Tryz.prog 166 #[(.slice Ap1 np1 cp1)] w7 fun r10 w11 => ∃ (i8 : Int) (b9 : Bool), r10 = (.tuple #[(.int .u64 i8), (.bool b9)]) ∧ ((b5 = true → ((b9 = true → ((0 ≤ i4 ∧ 0 < i8 ∧ inR .u64 i4) ∧ ((0 ≤ i4 ∧ 0 < i8) ∧ (∀ w12, Ext w.heap.size [] w11 w12 → (Pure Tryz.prog 167 #[(.int .u64 (i4 / i8))] w12 fun r14 w15 => ∃ (A13 : Option Addr) (n13 c13 : Nat), r14 = (.slice A13 n13 c13) ∧ (Pure Tryz.prog 167 #[(.int .u64 (i4 % i8))] w15 fun r17 w18 => ∃ (A16 : Option Addr) (n16 c16 : Nat), r17 = (.slice A16 n16 c16) ∧ (R (.tuple #[(.slice A13 n13 c13), (.slice A16 n16 c16)]) w18))))))) ∧ (b9 = false → (natural_num_divide.J7 Ap0 np0 cp0 Ap1 np1 cp1 w.heap.size w11 R)))) ∧ (b5 = false → (natural_num_divide.J7 Ap0 np0 cp0 Ap1 np1 cp1 w.heap.size w11 R))))))))) :
    Pure Tryz.prog 168 #[(.slice Ap0 np0 cp0), (.slice Ap1 np1 cp1)] w R :=
  pure_of_run (natural_num_divide.cx w w.heap.size R) 100000 follows Tryz.func168 rfl rfl rfl rfl rfl rfl rfl (Eq.mp (by kernel_rfl) h)

def natural_num_times.L3 (Al1 : Option Addr) (nl1 cl1 : Nat) (Al5 : Option Addr) (nl5 cl5 : Nat) (Al17 : Option Addr) (nl17 cl17 : Nat) (il18 : Int) (il19 : Int) (B : Nat) (w : World) (R : Value → World → Prop) : Prop := At Tryz.prog 179 68 (loopAt Tryz.f179 3) [(1, .v (.slice Al1 nl1 cl1)), (5, .v (.slice Al5 nl5 cl5)), (17, .v (.slice Al17 nl17 cl17)), (18, .v (.int .i64 il18)), (19, .v (.int .i64 il19))] [] B w R
def natural_num_times.L7 (Al1 : Option Addr) (nl1 cl1 : Nat) (Al5 : Option Addr) (nl5 cl5 : Nat) (il6 : Int) (il7 : Int) (il8 : Int) (Al17 : Option Addr) (nl17 cl17 : Nat) (il18 : Int) (il19 : Int) (Al24 : Option Addr) (nl24 cl24 : Nat) (il25 : Int) (il26 : Int) (B : Nat) (w : World) (R : Value → World → Prop) : Prop := At Tryz.prog 179 68 (loopAt Tryz.f179 7) [(1, .v (.slice Al1 nl1 cl1)), (5, .v (.slice Al5 nl5 cl5)), (6, .v (.int .i64 il6)), (7, .v (.int .u32 il7)), (8, .v (.int .u64 il8)), (17, .v (.slice Al17 nl17 cl17)), (18, .v (.int .i64 il18)), (19, .v (.int .i64 il19)), (24, .v (.slice Al24 nl24 cl24)), (25, .v (.int .i64 il25)), (26, .v (.int .i64 il26))] [] B w R
noncomputable def natural_num_times.cx (w : World) (B : Nat) (R : Value → World → Prop) : Cx := ⟨Tryz.prog, 179, 68, Tryz.f179.results.toList, [((true, 3), [1, 5, 17, 18, 19], []), ((true, 7), [1, 5, 6, 7, 8, 17, 18, 19, 24, 25, 26], [])], [(1, 5, 2)], w, B, R⟩
theorem natural_num_times.L3.step (Al1 : Option Addr) (nl1 cl1 : Nat) (Al5 : Option Addr) (nl5 cl5 : Nat) (Al17 : Option Addr) (nl17 cl17 : Nat) (il18 : Int) (il19 : Int) (B : Nat) (w : World) (R : Value → World → Prop)
    (h : ((((il19 : Int) < il18) → ((0 ≤ il19 ∧ il19 < nl17) ∧ ∃ a4, Al17 = some a4 ∧ (∃ (i5 : Int), CellsAt w (a4.add ((il19).toNat * 1)) [(.int .u32 i5)] ∧ (natural_num_times.L7 Al1 nl1 cl1 Al5 nl5 cl5 il19 i5 (0 : Int) Al17 nl17 cl17 il18 il19 Al1 nl1 cl1 (nl1 : Int) (0 : Int) B w R)))) ∧ (¬ ((il19 : Int) < il18) → (Pure Tryz.prog 187 #[(.slice Al5 nl5 cl5)] w fun r7 w8 => ∃ (A6 : Option Addr) (n6 c6 : Nat), r7 = (.slice A6 n6 c6) ∧ (R (.slice A6 n6 c6) w8))))) :
    natural_num_times.L3 Al1 nl1 cl1 Al5 nl5 cl5 Al17 nl17 cl17 il18 il19 B w R :=
  loop_of_run (natural_num_times.cx w B R) 100000 (loopAt Tryz.f179 3) _ _ follows Tryz.func179 rfl rfl rfl (Eq.mp (by kernel_rfl) h)
theorem natural_num_times.L7.step (Al1 : Option Addr) (nl1 cl1 : Nat) (Al5 : Option Addr) (nl5 cl5 : Nat) (il6 : Int) (il7 : Int) (il8 : Int) (Al17 : Option Addr) (nl17 cl17 : Nat) (il18 : Int) (il19 : Int) (Al24 : Option Addr) (nl24 cl24 : Nat) (il25 : Int) (il26 : Int) (B : Nat) (w : World) (R : Value → World → Prop)
    (h : ((((il26 : Int) < il25) → ((0 ≤ il26 ∧ il26 < nl24) ∧ ∃ a9, Al24 = some a9 ∧ (∃ (i10 : Int), CellsAt w (a9.add ((il26).toNat * 1)) [(.int .u32 i10)] ∧ (inR .u64 (il7) ∧ (inR .u64 (i10) ∧ (inR .u64 ((il7) * (i10)) ∧ (inR .i64 (il6 + il26) ∧ ((0 ≤ (il6 + il26) ∧ (il6 + il26) < nl5) ∧ ∃ a11, Al5 = some a11 ∧ (∃ (i12 : Int), CellsAt w (a11.add (((il6 + il26)).toNat * 1)) [(.int .u32 i12)] ∧ (inR .u64 (i12) ∧ (inR .u64 (((il7) * (i10)) + (i12)) ∧ (inR .u64 (il8 + (((il7) * (i10)) + (i12))) ∧ (inR .i64 (il6 + il26) ∧ ((0 ≤ (il8 + (((il7) * (i10)) + (i12))) ∧ 0 < (1000000000 : Int)) ∧ (inR .u32 (((il8 + (((il7) * (i10)) + (i12))) % (1000000000 : Int))) ∧ ((0 ≤ (il6 + il26) ∧ (il6 + il26) < nl5) ∧ ∃ a13, Al5 = some a13 ∧ (∃ (cs14 : List Value) (t15 : Nat), B ≤ (a13.add (((il6 + il26)).toNat * 1)).block ∧ (a13.add (((il6 + il26)).toNat * 1)).spot = none ∧ w.heap[(a13.add (((il6 + il26)).toNat * 1)).block]? = some (.cells cs14.toArray t15 (0, 0)) ∧ (a13.add (((il6 + il26)).toNat * 1)).off + 1 ≤ cs14.length ∧ hasType t15 [] = false ∧ ∀ w16, Wrote w w16 (a13.add (((il6 + il26)).toNat * 1)).block t15 (setCells cs14 (a13.add (((il6 + il26)).toNat * 1)).off [(.int .u32 (((il8 + (((il7) * (i10)) + (i12))) % (1000000000 : Int))))]) → ((0 ≤ (il8 + (((il7) * (i10)) + (i12))) ∧ 0 < (1000000000 : Int) ∧ inR .u64 (il8 + (((il7) * (i10)) + (i12)))) ∧ (inR .i64 (il26 + (1 : Int)) ∧ (natural_num_times.L7 Al1 nl1 cl1 Al5 nl5 cl5 il6 il7 ((il8 + (((il7) * (i10)) + (i12))) / (1000000000 : Int)) Al17 nl17 cl17 il18 il19 Al24 nl24 cl24 il25 (il26 + (1 : Int)) B w16 R)))))))))))))))))))) ∧ (¬ ((il26 : Int) < il25) → (inR .i64 (il6 + (nl1 : Int)) ∧ (inR .u32 (il8) ∧ ((0 ≤ (il6 + (nl1 : Int)) ∧ (il6 + (nl1 : Int)) < nl5) ∧ ∃ a17, Al5 = some a17 ∧ (∃ (cs18 : List Value) (t19 : Nat), B ≤ (a17.add (((il6 + (nl1 : Int))).toNat * 1)).block ∧ (a17.add (((il6 + (nl1 : Int))).toNat * 1)).spot = none ∧ w.heap[(a17.add (((il6 + (nl1 : Int))).toNat * 1)).block]? = some (.cells cs18.toArray t19 (0, 0)) ∧ (a17.add (((il6 + (nl1 : Int))).toNat * 1)).off + 1 ≤ cs18.length ∧ hasType t19 [] = false ∧ ∀ w20, Wrote w w20 (a17.add (((il6 + (nl1 : Int))).toNat * 1)).block t19 (setCells cs18 (a17.add (((il6 + (nl1 : Int))).toNat * 1)).off [(.int .u32 (il8))]) → (inR .i64 (il19 + (1 : Int)) ∧ (natural_num_times.L3 Al1 nl1 cl1 Al5 nl5 cl5 Al17 nl17 cl17 il18 (il19 + (1 : Int)) B w20 R))))))))) :
    natural_num_times.L7 Al1 nl1 cl1 Al5 nl5 cl5 il6 il7 il8 Al17 nl17 cl17 il18 il19 Al24 nl24 cl24 il25 il26 B w R :=
  loop_of_run (natural_num_times.cx w B R) 100000 (loopAt Tryz.f179 7) _ _ follows Tryz.func179 rfl rfl rfl (Eq.mp (by kernel_rfl) h)
theorem natural_num_times.vc (Ap0 : Option Addr) (np0 cp0 : Nat) (Ap1 : Option Addr) (np1 cp1 : Nat) (w : World) (R : Value → World → Prop)
    (h : (inR .i64 ((np0 : Int) + (np1 : Int)) ∧ (RunOk Tryz.prog (Instr.makeSlice 176 (.int .i64 ((np0 : Int) + (np1 : Int))) (.int .i64 ((np0 : Int) + (np1 : Int)))) w.heap.size [] w fun r2 w3 => ∃ (A1 : Option Addr) (n1 c1 : Nat), r2 = (.slice A1 n1 c1) ∧ (natural_num_times.L3 Ap1 np1 cp1 A1 n1 c1 Ap0 np0 cp0 (np0 : Int) (0 : Int) w.heap.size w3 R)))) :
    Pure Tryz.prog 179 #[(.slice Ap0 np0 cp0), (.slice Ap1 np1 cp1)] w R :=
  pure_of_run (natural_num_times.cx w w.heap.size R) 100000 follows Tryz.func179 rfl rfl rfl rfl rfl rfl rfl (Eq.mp (by kernel_rfl) h)

noncomputable def natural_Add.cx (w : World) (B : Nat) (R : Value → World → Prop) : Cx := ⟨Tryz.prog, 180, 25, Tryz.f180.results.toList, [], [], w, B, R⟩
theorem natural_Add.vc (sp0 : ByteArray) (sp1 : ByteArray) (w : World) (R : Value → World → Prop)
    (h : (Pure Tryz.prog 147 #[(.string sp0), (.string sp1)] w fun r4 w5 => ∃ (A1 : Option Addr) (n1 c1 : Nat) (A2 : Option Addr) (n2 c2 : Nat) (i3 : Int), r4 = (.tuple #[(.slice A1 n1 c1), (.slice A2 n2 c2), (.int .i64 i3)]) ∧ ((((i3 : Int) ≠ (0 : Int)) → (R (.tuple #[(.string (⟨#[]⟩ : ByteArray)), (.int .i64 i3)]) w5)) ∧ (¬ ((i3 : Int) ≠ (0 : Int)) → (Pure Tryz.prog 148 #[(.func (.func 205) #[(.slice A1 n1 c1)] #[]), (.slice A2 n2 c2)] w5 fun r8 w9 => ∃ (s6 : ByteArray) (i7 : Int), r8 = (.tuple #[(.string s6), (.int .i64 i7)]) ∧ (R (.tuple #[(.string s6), (.int .i64 i7)]) w9)))))) :
    Pure Tryz.prog 180 #[(.string sp0), (.string sp1)] w R :=
  pure_of_run (natural_Add.cx w w.heap.size R) 100000 follows Tryz.func180 rfl rfl rfl rfl rfl rfl rfl (Eq.mp (by kernel_rfl) h)

noncomputable def natural_Compare.cx (w : World) (B : Nat) (R : Value → World → Prop) : Cx := ⟨Tryz.prog, 181, 22, Tryz.f181.results.toList, [], [], w, B, R⟩
theorem natural_Compare.vc (sp0 : ByteArray) (sp1 : ByteArray) (w : World) (R : Value → World → Prop)
    (h : (Pure Tryz.prog 147 #[(.string sp0), (.string sp1)] w fun r4 w5 => ∃ (A1 : Option Addr) (n1 c1 : Nat) (A2 : Option Addr) (n2 c2 : Nat) (i3 : Int), r4 = (.tuple #[(.slice A1 n1 c1), (.slice A2 n2 c2), (.int .i64 i3)]) ∧ ((((i3 : Int) ≠ (0 : Int)) → (R (.tuple #[(.int .i64 (0 : Int)), (.int .i64 i3)]) w5)) ∧ (¬ ((i3 : Int) ≠ (0 : Int)) → (Pure Tryz.prog 193 #[(.slice A1 n1 c1), (.slice A2 n2 c2)] w5 fun r7 w8 => ∃ (i6 : Int), r7 = (.int .i64 i6) ∧ (R (.tuple #[(.int .i64 i6), (.int .i64 (0 : Int))]) w8)))))) :
    Pure Tryz.prog 181 #[(.string sp0), (.string sp1)] w R :=
  pure_of_run (natural_Compare.cx w w.heap.size R) 100000 follows Tryz.func181 rfl rfl rfl rfl rfl rfl rfl (Eq.mp (by kernel_rfl) h)

noncomputable def natural_Sub.cx (w : World) (B : Nat) (R : Value → World → Prop) : Cx := ⟨Tryz.prog, 182, 31, Tryz.f182.results.toList, [], [], w, B, R⟩
theorem natural_Sub.vc (sp0 : ByteArray) (sp1 : ByteArray) (w : World) (R : Value → World → Prop)
    (h : (Pure Tryz.prog 147 #[(.string sp0), (.string sp1)] w fun r4 w5 => ∃ (A1 : Option Addr) (n1 c1 : Nat) (A2 : Option Addr) (n2 c2 : Nat) (i3 : Int), r4 = (.tuple #[(.slice A1 n1 c1), (.slice A2 n2 c2), (.int .i64 i3)]) ∧ ((((i3 : Int) ≠ (0 : Int)) → (R (.tuple #[(.string (⟨#[]⟩ : ByteArray)), (.int .i64 i3)]) w5)) ∧ (¬ ((i3 : Int) ≠ (0 : Int)) → (Pure Tryz.prog 193 #[(.slice A1 n1 c1), (.slice A2 n2 c2)] w5 fun r7 w8 => ∃ (i6 : Int), r7 = (.int .i64 i6) ∧ ((((i6 : Int) < (0 : Int)) → (R (.tuple #[(.string (⟨#[]⟩ : ByteArray)), (.int .i64 (2 : Int))]) w8)) ∧ (¬ ((i6 : Int) < (0 : Int)) → (Pure Tryz.prog 148 #[(.func (.func 206) #[(.slice A1 n1 c1)] #[]), (.slice A2 n2 c2)] w8 fun r11 w12 => ∃ (s9 : ByteArray) (i10 : Int), r11 = (.tuple #[(.string s9), (.int .i64 i10)]) ∧ (R (.tuple #[(.string s9), (.int .i64 i10)]) w12))))))))) :
    Pure Tryz.prog 182 #[(.string sp0), (.string sp1)] w R :=
  pure_of_run (natural_Sub.cx w w.heap.size R) 100000 follows Tryz.func182 rfl rfl rfl rfl rfl rfl rfl (Eq.mp (by kernel_rfl) h)

def natural_num_trim.L1 (Al0 : Option Addr) (nl0 cl0 : Nat) (B : Nat) (w : World) (R : Value → World → Prop) : Prop := At Tryz.prog 187 21 (loopAt Tryz.f187 1) [(0, .v (.slice Al0 nl0 cl0))] [] B w R
noncomputable def natural_num_trim.cx (w : World) (B : Nat) (R : Value → World → Prop) : Cx := ⟨Tryz.prog, 187, 21, Tryz.f187.results.toList, [((true, 1), [0], [])], [], w, B, R⟩
theorem natural_num_trim.L1.step (Al0 : Option Addr) (nl0 cl0 : Nat) (B : Nat) (w : World) (R : Value → World → Prop)
    (h : (((((nl0 : Int) : Int) > (0 : Int)) → (inR .i64 ((nl0 : Int) - (1 : Int)) ∧ ((0 ≤ ((nl0 : Int) - (1 : Int)) ∧ ((nl0 : Int) - (1 : Int)) < nl0) ∧ ∃ a1, Al0 = some a1 ∧ (∃ (i2 : Int), CellsAt w (a1.add ((((nl0 : Int) - (1 : Int))).toNat * 1)) [(.int .u32 i2)] ∧ ((((i2 : Int) = (0 : Int)) → (inR .i64 ((nl0 : Int) - (1 : Int)) ∧ ((0 ≤ ((nl0 : Int) - (1 : Int)) ∧ ((nl0 : Int) - (1 : Int)) ≤ (cl0 : Int)) ∧ (natural_num_trim.L1 Al0 ((((nl0 : Int) - (1 : Int))).toNat) cl0 B w R)))) ∧ (¬ ((i2 : Int) = (0 : Int)) → (R (.slice Al0 nl0 cl0) w))))))) ∧ (¬ (((nl0 : Int) : Int) > (0 : Int)) → (R (.slice Al0 nl0 cl0) w)))) :
    natural_num_trim.L1 Al0 nl0 cl0 B w R :=
  loop_of_run (natural_num_trim.cx w B R) 100000 (loopAt Tryz.f187 1) _ _ follows Tryz.func187 rfl rfl rfl (Eq.mp (by kernel_rfl) h)
theorem natural_num_trim.vc (Ap0 : Option Addr) (np0 cp0 : Nat) (w : World) (R : Value → World → Prop)
    (h : (natural_num_trim.L1 Ap0 np0 cp0 w.heap.size w R)) :
    Pure Tryz.prog 187 #[(.slice Ap0 np0 cp0)] w R :=
  pure_of_run (natural_num_trim.cx w w.heap.size R) 100000 follows Tryz.func187 rfl rfl rfl rfl rfl rfl rfl (Eq.mp (by kernel_rfl) h)

def natural_num_compare.L4 (Al0 : Option Addr) (nl0 cl0 : Nat) (Al1 : Option Addr) (nl1 cl1 : Nat) (il5 : Int) (B : Nat) (w : World) (R : Value → World → Prop) : Prop := At Tryz.prog 193 41 (loopAt Tryz.f193 4) [(0, .v (.slice Al0 nl0 cl0)), (1, .v (.slice Al1 nl1 cl1)), (5, .v (.int .i64 il5))] [] B w R
noncomputable def natural_num_compare.cx (w : World) (B : Nat) (R : Value → World → Prop) : Cx := ⟨Tryz.prog, 193, 41, Tryz.f193.results.toList, [((true, 4), [0, 1, 5], [])], [(7, 9999, 3)], w, B, R⟩
theorem natural_num_compare.L4.step (Al0 : Option Addr) (nl0 cl0 : Nat) (Al1 : Option Addr) (nl1 cl1 : Nat) (il5 : Int) (B : Nat) (w : World) (R : Value → World → Prop)
    (h : ((((il5 : Int) ≥ (0 : Int)) → ((0 ≤ il5 ∧ il5 < nl0) ∧ ∃ a4, Al0 = some a4 ∧ (∃ (i5 : Int), CellsAt w (a4.add ((il5).toNat * 1)) [(.int .u32 i5)] ∧ ((0 ≤ il5 ∧ il5 < nl1) ∧ ∃ a6, Al1 = some a6 ∧ (∃ (i7 : Int), CellsAt w (a6.add ((il5).toNat * 1)) [(.int .u32 i7)] ∧ ((((i5 : Int) ≠ i7) → (∀ w8, Ext B [] w w8 → ((0 ≤ il5 ∧ il5 < nl0) ∧ ∃ a9, Al0 = some a9 ∧ (∃ (i10 : Int), CellsAt w8 (a9.add ((il5).toNat * 1)) [(.int .u32 i10)] ∧ ((0 ≤ il5 ∧ il5 < nl1) ∧ ∃ a11, Al1 = some a11 ∧ (∃ (i12 : Int), CellsAt w8 (a11.add ((il5).toNat * 1)) [(.int .u32 i12)] ∧ (∀ w13, Ext B [] w8 w13 → (Pure Tryz.prog 217 #[(.int .u32 i10), (.int .u32 i12)] w13 fun r15 w16 => ∃ (i14 : Int), r15 = (.int .i64 i14) ∧ (R (.int .i64 i14) w16))))))))) ∧ (¬ ((i5 : Int) ≠ i7) → (inR .i64 (il5 - (1 : Int)) ∧ (∀ w17, Ext B [] w w17 → (natural_num_compare.L4 Al0 nl0 cl0 Al1 nl1 cl1 (il5 - (1 : Int)) B w17 R)))))))))) ∧ (¬ ((il5 : Int) ≥ (0 : Int)) → (R (.int .i64 (0 : Int)) w)))) :
    natural_num_compare.L4 Al0 nl0 cl0 Al1 nl1 cl1 il5 B w R :=
  loop_of_run (natural_num_compare.cx w B R) 100000 (loopAt Tryz.f193 4) _ _ follows Tryz.func193 rfl rfl rfl (Eq.mp (by kernel_rfl) h)
theorem natural_num_compare.vc (Ap0 : Option Addr) (np0 cp0 : Nat) (Ap1 : Option Addr) (np1 cp1 : Nat) (w : World) (R : Value → World → Prop)
    (h : (((((np0 : Int) : Int) ≠ (np1 : Int)) → (Pure Tryz.prog 216 #[(.int .i64 (np0 : Int)), (.int .i64 (np1 : Int))] w fun r2 w3 => ∃ (i1 : Int), r2 = (.int .i64 i1) ∧ (R (.int .i64 i1) w3))) ∧ (¬ (((np0 : Int) : Int) ≠ (np1 : Int)) → (inR .i64 ((np0 : Int) - (1 : Int)) ∧ (natural_num_compare.L4 Ap0 np0 cp0 Ap1 np1 cp1 ((np0 : Int) - (1 : Int)) w.heap.size w R))))) :
    Pure Tryz.prog 193 #[(.slice Ap0 np0 cp0), (.slice Ap1 np1 cp1)] w R :=
  pure_of_run (natural_num_compare.cx w w.heap.size R) 100000 follows Tryz.func193 rfl rfl rfl rfl rfl rfl rfl (Eq.mp (by kernel_rfl) h)

def natural_num_by.L4 (Al0 : Option Addr) (nl0 cl0 : Nat) (il1 : Int) (Al6 : Option Addr) (nl6 cl6 : Nat) (il7 : Int) (il8 : Int) (B : Nat) (w : World) (R : Value → World → Prop) : Prop := At Tryz.prog 194 41 (loopAt Tryz.f194 4) [(0, .v (.slice Al0 nl0 cl0)), (1, .v (.int .u64 il1)), (6, .v (.slice Al6 nl6 cl6)), (7, .v (.int .u64 il7)), (8, .v (.int .i64 il8))] [] B w R
noncomputable def natural_num_by.cx (w : World) (B : Nat) (R : Value → World → Prop) : Cx := ⟨Tryz.prog, 194, 41, Tryz.f194.results.toList, [((true, 4), [0, 1, 6, 7, 8], [])], [(1, 2, 2)], w, B, R⟩
theorem natural_num_by.L4.step (Al0 : Option Addr) (nl0 cl0 : Nat) (il1 : Int) (Al6 : Option Addr) (nl6 cl6 : Nat) (il7 : Int) (il8 : Int) (B : Nat) (w : World) (R : Value → World → Prop)
    (h : ((((il8 : Int) ≥ (0 : Int)) → (inR .u64 (il7 * (1000000000 : Int)) ∧ ((0 ≤ il8 ∧ il8 < nl0) ∧ ∃ a4, Al0 = some a4 ∧ (∃ (i5 : Int), CellsAt w (a4.add ((il8).toNat * 1)) [(.int .u32 i5)] ∧ (inR .u64 (i5) ∧ (inR .u64 ((il7 * (1000000000 : Int)) + (i5)) ∧ ((0 ≤ ((il7 * (1000000000 : Int)) + (i5)) ∧ 0 < il1 ∧ inR .u64 ((il7 * (1000000000 : Int)) + (i5))) ∧ (inR .u32 ((((il7 * (1000000000 : Int)) + (i5)) / il1)) ∧ ((0 ≤ il8 ∧ il8 < nl6) ∧ ∃ a6, Al6 = some a6 ∧ (∃ (cs7 : List Value) (t8 : Nat), B ≤ (a6.add ((il8).toNat * 1)).block ∧ (a6.add ((il8).toNat * 1)).spot = none ∧ w.heap[(a6.add ((il8).toNat * 1)).block]? = some (.cells cs7.toArray t8 (0, 0)) ∧ (a6.add ((il8).toNat * 1)).off + 1 ≤ cs7.length ∧ hasType t8 [] = false ∧ ∀ w9, Wrote w w9 (a6.add ((il8).toNat * 1)).block t8 (setCells cs7 (a6.add ((il8).toNat * 1)).off [(.int .u32 ((((il7 * (1000000000 : Int)) + (i5)) / il1)))]) → ((0 ≤ ((il7 * (1000000000 : Int)) + (i5)) ∧ 0 < il1) ∧ (inR .i64 (il8 - (1 : Int)) ∧ (natural_num_by.L4 Al0 nl0 cl0 il1 Al6 nl6 cl6 (((il7 * (1000000000 : Int)) + (i5)) % il1) (il8 - (1 : Int)) B w9 R))))))))))))) ∧ (¬ ((il8 : Int) ≥ (0 : Int)) → (Pure Tryz.prog 187 #[(.slice Al6 nl6 cl6)] w fun r11 w12 => ∃ (A10 : Option Addr) (n10 c10 : Nat), r11 = (.slice A10 n10 c10) ∧ (Pure Tryz.prog 167 #[(.int .u64 il7)] w12 fun r14 w15 => ∃ (A13 : Option Addr) (n13 c13 : Nat), r14 = (.slice A13 n13 c13) ∧ (R (.tuple #[(.slice A10 n10 c10), (.slice A13 n13 c13)]) w15)))))) :
    natural_num_by.L4 Al0 nl0 cl0 il1 Al6 nl6 cl6 il7 il8 B w R :=
  loop_of_run (natural_num_by.cx w B R) 100000 (loopAt Tryz.f194 4) _ _ follows Tryz.func194 rfl rfl rfl (Eq.mp (by kernel_rfl) h)
theorem natural_num_by.vc (Ap0 : Option Addr) (np0 cp0 : Nat) (ip1 : Int) (w : World) (R : Value → World → Prop)
    (h : (RunOk Tryz.prog (Instr.makeSlice 176 (.int .i64 (np0 : Int)) (.int .i64 (np0 : Int))) w.heap.size [] w fun r2 w3 => ∃ (A1 : Option Addr) (n1 c1 : Nat), r2 = (.slice A1 n1 c1) ∧ (inR .i64 ((np0 : Int) - (1 : Int)) ∧ (natural_num_by.L4 Ap0 np0 cp0 ip1 A1 n1 c1 (0 : Int) ((np0 : Int) - (1 : Int)) w.heap.size w3 R)))) :
    Pure Tryz.prog 194 #[(.slice Ap0 np0 cp0), (.int .u64 ip1)] w R :=
  pure_of_run (natural_num_by.cx w w.heap.size R) 100000 follows Tryz.func194 rfl rfl rfl rfl rfl rfl rfl (Eq.mp (by kernel_rfl) h)

noncomputable def natural_num_plus.cx (w : World) (B : Nat) (R : Value → World → Prop) : Cx := ⟨Tryz.prog, 205, 8, Tryz.f205.results.toList, [], [], w, B, R⟩
theorem natural_num_plus.vc (Ap0 : Option Addr) (np0 cp0 : Nat) (Ap1 : Option Addr) (np1 cp1 : Nat) (w : World) (R : Value → World → Prop)
    (h : (Pure Tryz.prog 224 #[(.slice Ap0 np0 cp0), (.slice Ap1 np1 cp1), (.int .i64 (1 : Int))] w fun r2 w3 => ∃ (A1 : Option Addr) (n1 c1 : Nat), r2 = (.slice A1 n1 c1) ∧ (R (.slice A1 n1 c1) w3))) :
    Pure Tryz.prog 205 #[(.slice Ap0 np0 cp0), (.slice Ap1 np1 cp1)] w R :=
  pure_of_run (natural_num_plus.cx w w.heap.size R) 100000 follows Tryz.func205 rfl rfl rfl rfl rfl rfl rfl (Eq.mp (by kernel_rfl) h)

noncomputable def natural_num_minus.cx (w : World) (B : Nat) (R : Value → World → Prop) : Cx := ⟨Tryz.prog, 206, 9, Tryz.f206.results.toList, [], [], w, B, R⟩
theorem natural_num_minus.vc (Ap0 : Option Addr) (np0 cp0 : Nat) (Ap1 : Option Addr) (np1 cp1 : Nat) (w : World) (R : Value → World → Prop)
    (h : (Pure Tryz.prog 224 #[(.slice Ap0 np0 cp0), (.slice Ap1 np1 cp1), (.int .i64 (-1 : Int))] w fun r2 w3 => ∃ (A1 : Option Addr) (n1 c1 : Nat), r2 = (.slice A1 n1 c1) ∧ (Pure Tryz.prog 187 #[(.slice A1 n1 c1)] w3 fun r5 w6 => ∃ (A4 : Option Addr) (n4 c4 : Nat), r5 = (.slice A4 n4 c4) ∧ (R (.slice A4 n4 c4) w6)))) :
    Pure Tryz.prog 206 #[(.slice Ap0 np0 cp0), (.slice Ap1 np1 cp1)] w R :=
  pure_of_run (natural_num_minus.cx w w.heap.size R) 100000 follows Tryz.func206 rfl rfl rfl rfl rfl rfl rfl (Eq.mp (by kernel_rfl) h)

noncomputable def natural_DivMod.cx (w : World) (B : Nat) (R : Value → World → Prop) : Cx := ⟨Tryz.prog, 221, 37, Tryz.f221.results.toList, [], [], w, B, R⟩
theorem natural_DivMod.vc (sp0 : ByteArray) (sp1 : ByteArray) (w : World) (R : Value → World → Prop)
    (h : (Pure Tryz.prog 147 #[(.string sp0), (.string sp1)] w fun r4 w5 => ∃ (A1 : Option Addr) (n1 c1 : Nat) (A2 : Option Addr) (n2 c2 : Nat) (i3 : Int), r4 = (.tuple #[(.slice A1 n1 c1), (.slice A2 n2 c2), (.int .i64 i3)]) ∧ ((((i3 : Int) ≠ (0 : Int)) → (R (.tuple #[(.string (⟨#[]⟩ : ByteArray)), (.string (⟨#[]⟩ : ByteArray)), (.int .i64 i3)]) w5)) ∧ (¬ ((i3 : Int) ≠ (0 : Int)) → (((((n2 : Int) : Int) = (0 : Int)) → (R (.tuple #[(.string (⟨#[]⟩ : ByteArray)), (.string (⟨#[]⟩ : ByteArray)), (.int .i64 (16 : Int))]) w5)) ∧ (¬ (((n2 : Int) : Int) = (0 : Int)) → (Pure Tryz.prog 168 #[(.slice A1 n1 c1), (.slice A2 n2 c2)] w5 fun r8 w9 => ∃ (A6 : Option Addr) (n6 c6 : Nat) (A7 : Option Addr) (n7 c7 : Nat), r8 = (.tuple #[(.slice A6 n6 c6), (.slice A7 n7 c7)]) ∧ (Pure Tryz.prog 165 #[(.slice A6 n6 c6)] w9 fun r11 w12 => ∃ (s10 : ByteArray), r11 = (.string s10) ∧ (Pure Tryz.prog 165 #[(.slice A7 n7 c7)] w12 fun r14 w15 => ∃ (s13 : ByteArray), r14 = (.string s13) ∧ (R (.tuple #[(.string s10), (.string s13), (.int .i64 (0 : Int))]) w15)))))))))) :
    Pure Tryz.prog 221 #[(.string sp0), (.string sp1)] w R :=
  pure_of_run (natural_DivMod.cx w w.heap.size R) 100000 follows Tryz.func221 rfl rfl rfl rfl rfl rfl rfl (Eq.mp (by kernel_rfl) h)

def natural_merge_uint32_natural_num.L4 (Al0 : Option Addr) (nl0 cl0 : Nat) (Al1 : Option Addr) (nl1 cl1 : Nat) (il2 : Int) (Al7 : Option Addr) (nl7 cl7 : Nat) (il8 : Int) (il19 : Int) (il20 : Int) (B : Nat) (w : World) (R : Value → World → Prop) : Prop := At Tryz.prog 224 71 (loopAt Tryz.f224 4) [(0, .v (.slice Al0 nl0 cl0)), (1, .v (.slice Al1 nl1 cl1)), (2, .v (.int .i64 il2)), (7, .v (.slice Al7 nl7 cl7)), (8, .v (.int .i64 il8)), (19, .v (.int .i64 il19)), (20, .v (.int .i64 il20))] [] B w R
def natural_merge_uint32_natural_num.J8 (Al0 : Option Addr) (nl0 cl0 : Nat) (Al1 : Option Addr) (nl1 cl1 : Nat) (il2 : Int) (Al7 : Option Addr) (nl7 cl7 : Nat) (il8 : Int) (il9 : Int) (il19 : Int) (il20 : Int) (B : Nat) (w : World) (R : Value → World → Prop) : Prop := At Tryz.prog 224 71 (regionAt Tryz.f224 8) [(0, .v (.slice Al0 nl0 cl0)), (1, .v (.slice Al1 nl1 cl1)), (2, .v (.int .i64 il2)), (7, .v (.slice Al7 nl7 cl7)), (8, .v (.int .i64 il8)), (9, .v (.int .i64 il9)), (19, .v (.int .i64 il19)), (20, .v (.int .i64 il20))] [] B w R
def natural_merge_uint32_natural_num.J10 (Al0 : Option Addr) (nl0 cl0 : Nat) (Al1 : Option Addr) (nl1 cl1 : Nat) (il2 : Int) (Al7 : Option Addr) (nl7 cl7 : Nat) (il8 : Int) (il19 : Int) (il20 : Int) (B : Nat) (w : World) (R : Value → World → Prop) : Prop := At Tryz.prog 224 71 (regionAt Tryz.f224 10) [(0, .v (.slice Al0 nl0 cl0)), (1, .v (.slice Al1 nl1 cl1)), (2, .v (.int .i64 il2)), (7, .v (.slice Al7 nl7 cl7)), (8, .v (.int .i64 il8)), (19, .v (.int .i64 il19)), (20, .v (.int .i64 il20))] [] B w R
noncomputable def natural_merge_uint32_natural_num.cx (w : World) (B : Nat) (R : Value → World → Prop) : Cx := ⟨Tryz.prog, 224, 71, Tryz.f224.results.toList, [((true, 4), [0, 1, 2, 7, 8, 19, 20], []), ((false, 8), [0, 1, 2, 7, 8, 9, 19, 20], []), ((false, 10), [0, 1, 2, 7, 8, 19, 20], [])], [(1, 3, 2), (10, 1, 1), (11, 1, 1), (15, 3, 2), (15, 4, 2), (18, 3, 2), (18, 4, 2)], w, B, R⟩
theorem natural_merge_uint32_natural_num.L4.step (Al0 : Option Addr) (nl0 cl0 : Nat) (Al1 : Option Addr) (nl1 cl1 : Nat) (il2 : Int) (Al7 : Option Addr) (nl7 cl7 : Nat) (il8 : Int) (il19 : Int) (il20 : Int) (B : Nat) (w : World) (R : Value → World → Prop)
    (h : ((((il20 : Int) < il19) → ((((il20 : Int) < (nl0 : Int)) → ((0 ≤ il20 ∧ il20 < nl0) ∧ ∃ a4, Al0 = some a4 ∧ (∃ (i5 : Int), CellsAt w (a4.add ((il20).toNat * 1)) [(.int .u32 i5)] ∧ (inR .i64 (i5) ∧ (inR .i64 (il8 + (i5)) ∧ (natural_merge_uint32_natural_num.J8 Al0 nl0 cl0 Al1 nl1 cl1 il2 Al7 nl7 cl7 (il8 + (i5)) il20 il19 il20 B w R)))))) ∧ (¬ ((il20 : Int) < (nl0 : Int)) → (natural_merge_uint32_natural_num.J8 Al0 nl0 cl0 Al1 nl1 cl1 il2 Al7 nl7 cl7 il8 il20 il19 il20 B w R)))) ∧ (¬ ((il20 : Int) < il19) → ((((il8 : Int) > (0 : Int)) → (inR .u32 (il8) ∧ (RunOk Tryz.prog (Instr.buildSlice 176 1 #[(0, (.int .u32 (il8)))]) B [] w fun r7 w8 => ∃ (A6 : Option Addr) (n6 c6 : Nat), r7 = (.slice A6 n6 c6) ∧ (RunOk Tryz.prog (Builtin.append_ #[176, 176] 176 #[(.slice Al7 nl7 cl7), (.slice A6 n6 c6)]) B [] w8 fun r10 w11 => ∃ (A9 : Option Addr) (n9 c9 : Nat), r10 = (.slice A9 n9 c9) ∧ (R (.slice A9 n9 c9) w11))))) ∧ (¬ ((il8 : Int) > (0 : Int)) → (R (.slice Al7 nl7 cl7) w)))))) :
    natural_merge_uint32_natural_num.L4 Al0 nl0 cl0 Al1 nl1 cl1 il2 Al7 nl7 cl7 il8 il19 il20 B w R :=
  loop_of_run (natural_merge_uint32_natural_num.cx w B R) 100000 (loopAt Tryz.f224 4) _ _ follows Tryz.func224 rfl rfl rfl (Eq.mp (by kernel_rfl) h)
theorem natural_merge_uint32_natural_num.J8.step (Al0 : Option Addr) (nl0 cl0 : Nat) (Al1 : Option Addr) (nl1 cl1 : Nat) (il2 : Int) (Al7 : Option Addr) (nl7 cl7 : Nat) (il8 : Int) (il9 : Int) (il19 : Int) (il20 : Int) (B : Nat) (w : World) (R : Value → World → Prop)
    (h : ((((il9 : Int) < (nl1 : Int)) → ((0 ≤ il9 ∧ il9 < nl1) ∧ ∃ a12, Al1 = some a12 ∧ (∃ (i13 : Int), CellsAt w (a12.add ((il9).toNat * 1)) [(.int .u32 i13)] ∧ (inR .i64 (i13) ∧ (inR .i64 (il2 * (i13)) ∧ (inR .i64 (il8 + (il2 * (i13))) ∧ (natural_merge_uint32_natural_num.J10 Al0 nl0 cl0 Al1 nl1 cl1 il2 Al7 nl7 cl7 (il8 + (il2 * (i13))) il19 il20 B w R))))))) ∧ (¬ ((il9 : Int) < (nl1 : Int)) → (natural_merge_uint32_natural_num.J10 Al0 nl0 cl0 Al1 nl1 cl1 il2 Al7 nl7 cl7 il8 il19 il20 B w R)))) :
    natural_merge_uint32_natural_num.J8 Al0 nl0 cl0 Al1 nl1 cl1 il2 Al7 nl7 cl7 il8 il9 il19 il20 B w R :=
  join_of_run (natural_merge_uint32_natural_num.cx w B R) 100000 (regionAt Tryz.f224 8) _ _ follows Tryz.func224 rfl rfl rfl (Eq.mp (by kernel_rfl) h)
theorem natural_merge_uint32_natural_num.J10.step (Al0 : Option Addr) (nl0 cl0 : Nat) (Al1 : Option Addr) (nl1 cl1 : Nat) (il2 : Int) (Al7 : Option Addr) (nl7 cl7 : Nat) (il8 : Int) (il19 : Int) (il20 : Int) (B : Nat) (w : World) (R : Value → World → Prop)
    (h : ((1000000000 : Int) ≠ 0 ∧ ((1000000000 : Int) ≠ 0 ∧ (((((Int.tmod il8 (1000000000 : Int)) : Int) < (0 : Int)) → (inR .i64 ((Int.tmod il8 (1000000000 : Int)) + (1000000000 : Int)) ∧ (inR .i64 ((IntKind.wrap .i64 (Int.tdiv il8 (1000000000 : Int))) - (1 : Int)) ∧ (inR .u32 (((Int.tmod il8 (1000000000 : Int)) + (1000000000 : Int))) ∧ (RunOk Tryz.prog (Instr.buildSlice 176 1 #[(0, (.int .u32 (((Int.tmod il8 (1000000000 : Int)) + (1000000000 : Int)))))]) B [] w fun r15 w16 => ∃ (A14 : Option Addr) (n14 c14 : Nat), r15 = (.slice A14 n14 c14) ∧ (RunOk Tryz.prog (Builtin.append_ #[176, 176] 176 #[(.slice Al7 nl7 cl7), (.slice A14 n14 c14)]) B [] w16 fun r18 w19 => ∃ (A17 : Option Addr) (n17 c17 : Nat), r18 = (.slice A17 n17 c17) ∧ (inR .i64 (il20 + (1 : Int)) ∧ (natural_merge_uint32_natural_num.L4 Al0 nl0 cl0 Al1 nl1 cl1 il2 A17 n17 c17 ((IntKind.wrap .i64 (Int.tdiv il8 (1000000000 : Int))) - (1 : Int)) il19 (il20 + (1 : Int)) B w19 R)))))))) ∧ (¬ (((Int.tmod il8 (1000000000 : Int)) : Int) < (0 : Int)) → (inR .u32 ((Int.tmod il8 (1000000000 : Int))) ∧ (RunOk Tryz.prog (Instr.buildSlice 176 1 #[(0, (.int .u32 ((Int.tmod il8 (1000000000 : Int)))))]) B [] w fun r21 w22 => ∃ (A20 : Option Addr) (n20 c20 : Nat), r21 = (.slice A20 n20 c20) ∧ (RunOk Tryz.prog (Builtin.append_ #[176, 176] 176 #[(.slice Al7 nl7 cl7), (.slice A20 n20 c20)]) B [] w22 fun r24 w25 => ∃ (A23 : Option Addr) (n23 c23 : Nat), r24 = (.slice A23 n23 c23) ∧ (inR .i64 (il20 + (1 : Int)) ∧ (natural_merge_uint32_natural_num.L4 Al0 nl0 cl0 Al1 nl1 cl1 il2 A23 n23 c23 (IntKind.wrap .i64 (Int.tdiv il8 (1000000000 : Int))) il19 (il20 + (1 : Int)) B w25 R)))))))))) :
    natural_merge_uint32_natural_num.J10 Al0 nl0 cl0 Al1 nl1 cl1 il2 Al7 nl7 cl7 il8 il19 il20 B w R :=
  join_of_run (natural_merge_uint32_natural_num.cx w B R) 100000 (regionAt Tryz.f224 10) _ _ follows Tryz.func224 rfl rfl rfl (Eq.mp (by kernel_rfl) h)
theorem natural_merge_uint32_natural_num.vc (Ap0 : Option Addr) (np0 cp0 : Nat) (Ap1 : Option Addr) (np1 cp1 : Nat) (ip2 : Int) (w : World) (R : Value → World → Prop)
    (h : (inR .i64 ((np0 : Int) + (1 : Int)) ∧ (RunOk Tryz.prog (Instr.makeSlice 176 (.int .i64 (0 : Int)) (.int .i64 ((np0 : Int) + (1 : Int)))) w.heap.size [] w fun r2 w3 => ∃ (A1 : Option Addr) (n1 c1 : Nat), r2 = (.slice A1 n1 c1) ∧ (natural_merge_uint32_natural_num.L4 Ap0 np0 cp0 Ap1 np1 cp1 ip2 A1 n1 c1 (0 : Int) (if (np1 : Int) > (np0 : Int) then (np1 : Int) else (np0 : Int)) (0 : Int) w.heap.size w3 R)))) :
    Pure Tryz.prog 224 #[(.slice Ap0 np0 cp0), (.slice Ap1 np1 cp1), (.int .i64 ip2)] w R :=
  pure_of_run (natural_merge_uint32_natural_num.cx w w.heap.size R) 100000 follows Tryz.func224 rfl rfl rfl rfl rfl rfl rfl (Eq.mp (by kernel_rfl) h)

end Go.Proofs.YtdoailkigecmkaaGreatDoor.F

namespace Go.Proofs.YtdoailkigecmkaaGreatDoor.B
open Go Go.RowKit Go.Proofs Go.Proofs.YtdoailkigecmkaaGreatDoor.Vc

abbrev Tx := List UInt8
def by_ (s : ByteArray) : Tx := s.data.toList
def st (l : Tx) : ByteArray := ⟨l.toArray⟩
theorem by_st (l : Tx) : by_ (st l) = l := rfl
theorem st_by (s : ByteArray) : st (by_ s) = s := rfl
theorem size_by (s : ByteArray) : s.size = (by_ s).length := by rfl
theorem st_inj {a b : Tx} (h : st a = st b) : a = b := by have := congrArg by_ h; exact this
theorem by_inj {a b : ByteArray} (h : by_ a = by_ b) : a = b := by rw [← st_by a, ← st_by b, h]

def dig (c : UInt8) : Bool := 48 ≤ c.toNat && c.toNat ≤ 57
def dv (c : UInt8) : Nat := c.toNat - 48
def isNat (l : Tx) : Bool := !l.isEmpty && (l.length == 1 || l.head? != some 48) && l.all dig
def valD (l : Tx) : Nat := l.foldl (fun a c => 10 * a + dv c) 0

theorem bt_get {s : ByteArray} {i : Int} (h0 : 0 ≤ i) (h : i < s.size) : ∃ c, (by_ s)[i.toNat]? = some c ∧ bt s i = (c.toNat : Int) ∧ (by_ s).drop i.toNat = c :: (by_ s).drop (i.toNat + 1) := by
  have hl : i.toNat < (by_ s).length := by rw [← size_by]; omega
  refine ⟨(by_ s)[i.toNat], by simp [hl], ?_, List.drop_eq_getElem_cons hl⟩
  have e : bt s i = (((by_ s).getD i.toNat 0).toNat : Int) := rfl
  rw [e, List.getD_eq_getElem?_getD, List.getElem?_eq_getElem hl]
  rfl

theorem natural_Valid_loop (s : ByteArray) (hs : s.size < 2147483648) (B : Nat) (w : World) (R : Value → World → Prop) : ∀ (d : Nat) (i : Int), 0 ≤ i → i ≤ s.size → s.size - i = d →
    R (.bool (((by_ s).drop i.toNat).all dig)) w → F.natural_Valid.L4 s s.size i B w R := by
  intro d
  induction d with
  | zero =>
    intro i h0 h1 hd hR
    refine F.natural_Valid.L4.step _ _ _ _ _ _ ⟨fun h => by omega, fun h => ?_⟩
    rw [List.drop_eq_nil_of_le (by rw [← size_by]; omega)] at hR
    exact hR
  | succ d ih =>
    intro i h0 h1 hd hR
    obtain ⟨c, hc, hb, hdr⟩ := bt_get h0 (show i < s.size by omega)
    rw [hdr, List.all_cons] at hR
    refine F.natural_Valid.L4.step _ _ _ _ _ _ ⟨fun h => ⟨by omega, ⟨fun h2 => ?_, fun h2 => ⟨by omega, ⟨fun h3 => ?_, fun h3 => ⟨by simp only [inR]; omega, ?_⟩⟩⟩⟩⟩, fun h => by omega⟩
    · have : dig c = false := by simp [dig]; omega
      simpa [this] using hR
    · have : dig c = false := by simp [dig]; omega
      simpa [this] using hR
    · have hc : dig c = true := by simp [dig]; omega
      refine ih (i + 1) (by omega) (by omega) (by omega) ?_
      rw [show (i + 1).toNat = i.toNat + 1 by omega]
      simpa [hc] using hR

theorem natural_Valid (s : ByteArray) (hs : s.size < 2147483648) (w : World) : Pure Tryz.prog 114 #[.string s] w fun v _ => v = .bool (isNat (by_ s)) := by
  have go : ∀ R : Value → World → Prop, R (.bool ((by_ s).all dig)) w → F.natural_Valid.L4 s s.size 0 w.heap.size w R := fun R hR =>
    natural_Valid_loop s hs _ _ _ s.size 0 (by omega) (by omega) (by omega) hR
  refine F.natural_Valid.vc _ _ _ ⟨fun h => ?_, fun h => ⟨fun h1 => ⟨by omega, ⟨fun h2 => ?_, fun h2 => go _ ?_⟩⟩, fun h1 => go _ ?_⟩⟩
  · subst h; rfl
  · obtain ⟨c, hc, hb, hdr⟩ := bt_get (s := s) (i := 0) (by omega) (by omega)
    have e : by_ s = c :: (by_ s).drop 1 := by simpa using hdr
    have hc48 : c = 48 := by
      have : c.toNat = 48 := by omega
      exact UInt8.toNat_inj.1 this
    have hl : (by_ s).length ≠ 1 := by rw [← size_by]; omega
    have : isNat (by_ s) = false := by
      unfold isNat
      simp only [Bool.false_or, (by simpa using hl : ((by_ s).length == 1) = false)]
      rw [e, hc48]
      simp
    rw [this]
  · obtain ⟨c, hc, hb, hdr⟩ := bt_get (s := s) (i := 0) (by omega) (by omega)
    have e : by_ s = c :: (by_ s).drop 1 := by simpa using hdr
    have hc48 : c ≠ 48 := fun k => by subst k; exact h2 hb
    congr 1
    unfold isNat
    rw [e]
    simp [hc48]
  · have hl : (by_ s).length = 1 := by
      rw [← size_by]
      have : s.size ≠ 0 := fun k => h (by apply by_inj; exact List.eq_nil_of_length_eq_zero k)
      omega
    obtain ⟨c, hc⟩ := List.length_eq_one_iff.1 hl
    rw [hc]
    simp [isNat]
end Go.Proofs.YtdoailkigecmkaaGreatDoor.B

namespace Go.Proofs.YtdoailkigecmkaaGreatDoor.B
open Go Go.RowKit Go.Proofs Go.Proofs.YtdoailkigecmkaaGreatDoor.Vc

def wv : List Nat → Nat
  | [] => 0
  | x :: r => x + 1000000000 * wv r
def Small (l : List Nat) : Prop := ∀ x ∈ l, x < 1000000000
def Norm (l : List Nat) : Prop := l.getLast? ≠ some 0

theorem wv_append (a b : List Nat) : wv (a ++ b) = wv a + 1000000000 ^ a.length * wv b := by
  induction a with
  | nil => simp [wv]
  | cons x r ih => simp only [List.cons_append, wv, ih, List.length_cons, Nat.pow_succ]; rw [Nat.mul_add, ← Nat.mul_assoc, Nat.mul_comm 1000000000 (1000000000 ^ _)]; omega
theorem wv_lt {l : List Nat} (h : Small l) : wv l < 1000000000 ^ l.length := by
  induction l with
  | nil => simp [wv]
  | cons x r ih =>
    have h1 := h x (by simp)
    have h2 := ih fun y hy => h y (by simp [hy])
    simp only [wv, List.length_cons, Nat.pow_succ]
    omega
theorem Small.take {l : List Nat} (h : Small l) (n : Nat) : Small (l.take n) := fun x hx => h x (List.mem_of_mem_take hx)
theorem Small.append {a b : List Nat} (ha : Small a) (hb : Small b) : Small (a ++ b) := fun x hx => (List.mem_append.1 hx).elim (ha x) (hb x)
theorem Small.cons {x : Nat} {l : List Nat} (hx : x < 1000000000) (h : Small l) : Small (x :: l) := fun y hy => by
  rcases List.mem_cons.1 hy with rfl | hy
  · exact hx
  · exact h y hy
theorem Small.nil : Small [] := fun x hx => by cases hx

theorem wv_pos {l : List Nat} (h : Norm l) (hn : l ≠ []) : 1000000000 ^ (l.length - 1) ≤ wv l := by
  have e : l = l.dropLast ++ [l.getLast hn] := (List.dropLast_concat_getLast hn).symm
  have h0 : l.getLast hn ≠ 0 := fun k => h (by rw [List.getLast?_eq_some_getLast hn, k])
  have hw : wv l = wv l.dropLast + 1000000000 ^ l.dropLast.length * wv [l.getLast hn] := by rw [← wv_append, ← e]
  rw [hw, List.length_dropLast]
  simp only [wv, Nat.mul_zero, Nat.add_zero]
  have h1 : 1 ≤ l.getLast hn := by omega
  have := Nat.mul_le_mul_left (1000000000 ^ (l.length - 1)) h1
  omega

def SlU (w : World) (A : Option Addr) (ws : List Nat) : Prop :=
  ws = [] ∨ ∃ b off all fr, A = some ⟨b, off, none⟩ ∧ w.heap[b]? = some (.cells all 106 fr) ∧ ∀ i, (h : i < ws.length) → all[off + i]? = some (.int .u32 (ws[i] : Nat))

theorem SlU.cell {w : World} {A : Option Addr} {ws : List Nat} (h : SlU w A ws) {j : Int} (h0 : 0 ≤ j) (h1 : j < ws.length) :
    ∃ a, A = some a ∧ ∃ x : Nat, ws[j.toNat]? = some x ∧ CellsAt w (a.add (j.toNat * 1)) [.int .u32 (x : Int)] := by
  rcases h with h | ⟨b, off, all, fr, hA, hb, hc⟩
  · subst h; simp at h1; omega
  · have hj : j.toNat < ws.length := by omega
    refine ⟨_, hA, ws[j.toNat], by simp [hj], fun i hi => ?_⟩
    have hi : i = 0 := by simp at hi; exact hi
    subst hi
    rw [Nat.mul_one, add_none, add_none]
    simp only [World.cell?, hb]
    simpa using hc j.toNat hj

theorem SlU.heap {w w' : World} {A : Option Addr} {ws : List Nat} (h : SlU w A ws) (hh : ∀ (b : Nat) (all : Array Value) (fr : Nat × Nat), w.heap[b]? = some (.cells all 106 fr) → w'.heap[b]? = w.heap[b]?) : SlU w' A ws := by
  rcases h with h | ⟨b, off, all, fr, hA, hb, hc⟩
  · exact .inl h
  · exact .inr ⟨b, off, all, fr, hA, by rw [hh b all fr hb]; exact hb, hc⟩
theorem SlU.below {w w' : World} {A : Option Addr} {ws : List Nat} (h : SlU w A ws) (hb : Below w.heap.size w w') : SlU w' A ws :=
  SlU.heap h fun b _ _ e => hb.block b (Array.getElem?_eq_some_iff.1 e).1
theorem SlU.ext {w w' : World} {B : Nat} {ts : List Nat} {A : Option Addr} {ws : List Nat} (h : SlU w A ws) (he : Ext B ts w w') (hn : 106 ∉ ts) : SlU w' A ws :=
  SlU.heap h fun b all fr e => by
    rcases he.other b (Array.getElem?_eq_some_iff.1 e).1 with h1 | ⟨t, ht, c, c', fr', h1, _⟩
    · exact h1
    · rw [e] at h1; cases h1; exact absurd ht hn
theorem SlU.take {w : World} {A : Option Addr} {ws : List Nat} (h : SlU w A ws) (k : Nat) : SlU w A (ws.take k) := by
  rcases h with h | ⟨b, off, all, fr, hA, hb, hc⟩
  · exact .inl (by simp [h])
  · exact .inr ⟨b, off, all, fr, hA, hb, fun i hi => by
      have h1 : i < ws.length := by simp at hi; omega
      simpa using hc i h1⟩

def IsN (w : World) (A : Option Addr) (n c : Nat) (x : Nat) : Prop := ∃ ws, SlU w A ws ∧ ws.length = n ∧ n ≤ c ∧ n < 2147483648 ∧ Small ws ∧ Norm ws ∧ wv ws = x
theorem IsN.below {w w' : World} {A : Option Addr} {n c x : Nat} (h : IsN w A n c x) (hb : Below w.heap.size w w') : IsN w' A n c x := by
  obtain ⟨ws, h1, h2⟩ := h; exact ⟨ws, h1.below hb, h2⟩
theorem IsN.ext {w w' : World} {B : Nat} {ts : List Nat} {A : Option Addr} {n c x : Nat} (h : IsN w A n c x) (he : Ext B ts w w') (hn : 106 ∉ ts) : IsN w' A n c x := by
  obtain ⟨ws, h1, h2⟩ := h; exact ⟨ws, h1.ext he hn, h2⟩

theorem wv_take_zero {ws : List Nat} {n : Nat} (hn : ws.length = n + 1) (h0 : ws[n]? = some 0) : wv (ws.take n) = wv ws := by
  have e : ws = ws.take n ++ [0] := by
    apply List.ext_getElem?
    intro i
    by_cases h : i < n
    · rw [List.getElem?_append_left (by simp; omega)]; simp [h]
    · rw [List.getElem?_append_right (by simp; omega)]
      by_cases h2 : i = n
      · subst h2; rw [h0]; simp [hn]
      · rw [List.getElem?_eq_none (by omega), List.getElem?_eq_none (by simp; omega)]
  conv => rhs; rw [e]
  rw [wv_append]
  simp [wv]

theorem natural_trim_loop (B : Nat) (w : World) (A : Option Addr) (c : Nat) (R : Value → World → Prop) : ∀ (n : Nat) (ws : List Nat), SlU w A ws → ws.length = n → n < 2147483648 → n ≤ c → Small ws →
    (∀ m, m ≤ n → Norm (ws.take m) → wv (ws.take m) = wv ws → R (.slice A m c) w) → F.natural_num_trim.L1 A n c B w R := by
  intro n
  induction n with
  | zero =>
    intro ws h hl hc hn hs hR
    refine F.natural_num_trim.L1.step _ _ _ _ _ _ ⟨fun h => by omega, fun _ => hR 0 (by omega) (by simp [Norm]) (by have := List.eq_nil_of_length_eq_zero hl; subst this; rfl)⟩
  | succ n ih =>
    intro ws h hl hc hn hs hR
    obtain ⟨a, hA, x, hx, hcell⟩ := h.cell (j := ((n + 1 : Nat) : Int) - 1) (by omega) (by omega)
    have e : (((n + 1 : Nat) : Int) - 1).toNat = n := by omega
    refine F.natural_num_trim.L1.step _ _ _ _ _ _ ⟨fun _ => ⟨by simp only [inR]; omega, by omega, a, hA, _, hcell, fun h0 => ⟨by simp only [inR]; omega, by omega, ?_⟩, fun h0 => ?_⟩, fun h => by omega⟩
    · rw [e] at hx ⊢
      have hx0 : x = 0 := by omega
      subst hx0
      have ew := wv_take_zero hl hx
      refine ih (ws.take n) (h.take n) (by simp; omega) (by omega) (by omega) (hs.take n) fun m hm h1 h2 => hR m (by omega) ?_ ?_
      · rw [List.take_take, Nat.min_eq_left hm] at h1; exact h1
      · rw [List.take_take, Nat.min_eq_left hm] at h2; rw [h2, ew]
    · rw [e] at hx
      have et : ws.take (n + 1) = ws := List.take_of_length_le (by omega)
      refine hR (n + 1) (Nat.le_refl _) ?_ (by rw [et])
      rw [et]
      unfold Norm
      rw [List.getLast?_eq_getElem?, hl, Nat.add_sub_cancel, hx]
      intro k
      cases k
      exact h0 rfl

theorem natural_trim {w : World} {A : Option Addr} {n c : Nat} {ws : List Nat} (h : SlU w A ws) (hl : ws.length = n) (hn : n ≤ c) (hc : n < 2147483648) (hs : Small ws) :
    Pure Tryz.prog 187 #[.slice A n c] w fun v w' => w' = w ∧ ∃ m, v = .slice A m c ∧ IsN w A m c (wv ws) ∧ m ≤ n ∧ Norm (ws.take m) ∧ wv (ws.take m) = wv ws :=
  F.natural_num_trim.vc _ _ _ _ _ (natural_trim_loop _ _ _ _ _ n ws h hl hc hn hs fun m hm h1 h2 => ⟨rfl, m, rfl, ⟨ws.take m, h.take m, by simp; omega, by omega, by omega, hs.take m, h1, h2⟩, hm, h1, h2⟩)
end Go.Proofs.YtdoailkigecmkaaGreatDoor.B

namespace Go.Proofs.YtdoailkigecmkaaGreatDoor.B
open Go Go.RowKit Go.Proofs Go.Proofs.YtdoailkigecmkaaGreatDoor.Vc

structure El (P : Program) (t e : TypeId) (size bytes : Nat) : Prop where
  und : P.underlying t = some (.slice e)
  info : ∃ i z, P.info? e = some i ∧ i.zero = some z ∧ i.size = size ∧ i.bytes = bytes ∧ z.cells.size = size
  pos : 0 < size
  small : size ≤ 1024

theorem oneCell'_of {v : Value} (h : isCell v = true) : v.oneCell' = true := by cases v <;> first | rfl | (simp [isCell] at h)

theorem fold_set (off : Nat) : ∀ (v : List Value) (k : Nat) (cs : Array Value) (i : Nat),
    ((v.zipIdx k).foldl (fun cs (x : Value × Nat) => cs.setIfInBounds (off + x.2) x.1) cs)[i]? = if off + k ≤ i ∧ i < off + k + v.length ∧ i < cs.size then v[i - off - k]? else cs[i]? := by
  intro v
  induction v with
  | nil => intro k cs i; simp; intro h1 h2; omega
  | cons x r ih =>
    intro k cs i
    rw [List.zipIdx_cons, List.foldl_cons, ih]
    simp only [Array.size_setIfInBounds, List.length_cons]
    by_cases h1 : off + (k + 1) ≤ i ∧ i < off + (k + 1) + r.length ∧ i < cs.size
    · rw [if_pos h1, if_pos ⟨by omega, by omega, h1.2.2⟩, show i - off - k = (i - off - (k + 1)) + 1 by omega, List.getElem?_cons_succ]
    · rw [if_neg h1, Array.getElem?_setIfInBounds]
      by_cases h2 : off + k = i
      · rw [if_pos h2]
        by_cases h3 : i < cs.size
        · rw [if_pos (by omega), if_pos ⟨by omega, by omega, h3⟩, show i - off - k = 0 by omega]; rfl
        · rw [if_neg (by omega), if_neg (by omega), Array.getElem?_eq_none (by omega)]
      · rw [if_neg h2, if_neg (by omega)]

theorem fill_all (size : Nat) : ∀ (vs : List Value) (k : Nat) (pre rest : List Value), pre.length = k * size → rest.length = vs.length * size → (∀ v ∈ vs, v.cells.size = size) →
    Instr.fill (fun i => some (i * size, size)) (pre ++ rest).toArray ((vs.zipIdx k).map fun x => (x.2, x.1)) = some (pre ++ vs.flatMap fun v => v.cells.toList).toArray := by
  intro vs
  induction vs with
  | nil =>
    intro k pre rest hp hr _
    have : rest = [] := List.eq_nil_of_length_eq_zero (by simpa using hr)
    simp [Instr.fill, this]
  | cons v r ih =>
    intro k pre rest hp hr hv
    have h1 := hv v (by simp)
    have hl : v.cells.toList.length = size := by simpa using h1
    have hr' : rest.length = r.length * size + size := by rw [hr, List.length_cons, Nat.add_mul, Nat.one_mul]
    rw [List.zipIdx_cons, List.map_cons, Instr.fill]
    simp only [h1, ne_eq, not_true_eq_false, decide_false, Bool.false_or, List.size_toArray, List.length_append]
    rw [if_neg (by simp; omega)]
    have e : (v.cells.zipIdx.foldl (fun cs x => cs.setIfInBounds (k * size + x.2) x.1) (pre ++ rest).toArray) = ((pre ++ v.cells.toList) ++ rest.drop size).toArray := by
      rw [← Array.foldl_toList, Array.toList_zipIdx]
      apply Array.ext'
      apply List.ext_getElem?
      intro i
      rw [Array.getElem?_toList, fold_set]
      simp only [Nat.add_zero, List.getElem?_toArray, List.size_toArray, List.length_append, hl, hp]
      by_cases h : k * size ≤ i ∧ i < k * size + size ∧ i < k * size + rest.length
      · rw [if_pos h, List.getElem?_append_left (by simp; omega), List.getElem?_append_right (by omega), hp]; simp
      · rw [if_neg h]
        by_cases h2 : i < k * size
        · rw [List.getElem?_append_left (by omega), List.getElem?_append_left (by simp; omega), List.getElem?_append_left (by omega)]
        · rw [List.getElem?_append_right (by omega), List.getElem?_append_right (by simp; omega), List.getElem?_drop]
          congr 1
          simp; omega
    rw [e, ih (k + 1) (pre ++ v.cells.toList) (rest.drop size) (by simp [hp, h1, Nat.add_mul]) (by simp; omega) (fun y hy => hv y (by simp [hy]))]
    simp [List.flatMap_cons, List.append_assoc]

theorem run_buildAll {P : Program} {t e size bytes : Nat} (el : El P t e size bytes) (vs : List Value) (hv : ∀ v ∈ vs, v.cells.size = size) (hn : vs.length ≤ 1024) (w : World) :
    (Instr.buildSlice t vs.length (vs.zipIdx.map fun x => (x.2, x.1)).toArray).run P w = .ok (.slice (some ⟨w.heap.size, 0, none⟩) vs.length vs.length) (w.alloc (.cells (vs.flatMap fun v => v.cells.toList).toArray e)) := by
  obtain ⟨i, z, h1, h2, h3, h4, h5⟩ := el.info
  have hs := el.small
  have hp := el.pos
  have hle : vs.length * size ≤ 1024 * 1024 := Nat.mul_le_mul hn hs
  have e1 : (sizeOf e).run P w = .ok size w := by simp [sizeOf, typeInfo, program, Sem.run_bind, Sem.run, h1, h3]
  have e2 : (zeroValue e).run P w = .ok z w := by simp [zeroValue, typeInfo, program, Sem.run_bind, Sem.run, h1, h2]
  have hfill : ∀ c0 : Array Value, c0.size = vs.length * size → Instr.fill (fun i => some (i * size, size)) c0 (vs.zipIdx.map fun x => (x.2, x.1)) = some (vs.flatMap fun v => v.cells.toList).toArray := by
    intro c0 hc
    have := fill_all size vs 0 [] c0.toList (by simp) (by simpa using hc) hv
    simpa using this
  simp only [Instr.buildSlice, Sem.run_bind, run_underlying el.und, Result.andThen_ok, e1]
  rw [if_neg (by omega)]
  by_cases h0 : vs.length * size = 0
  · rw [if_pos h0]
    simp only [Sem.run_bind, Result.andThen_ok, Sem.run_pure]
    rw [hfill _ (by simp)]
    simp [newRow, newObj, Sem.run]
  · rw [if_neg h0]
    simp only [Sem.run_bind, e2, Result.andThen_ok, Sem.run_pure]
    rw [hfill _ (by simp)]
    simp [newRow, newObj, Sem.run]

theorem ownsRow_form {w : World} {B e size n : Nat} {v : Value} {xs : List Value} (h : w.ownsRow B e size v n xs) : ∃ A c, v = .slice A n c ∧ n ≤ c := by
  rcases h.2 with ⟨rfl, rfl⟩ | ⟨g, cap, cur, rfl, _, _, hc, _⟩
  · exact ⟨none, 0, rfl, Nat.le_refl _⟩
  · exact ⟨_, cap, rfl, hc⟩

theorem below_grown {w w' : World} {B : Nat} {row : Option Nat} (h : w.grownBy w' row) (hr : ∀ k, row = some k → B ≤ k) (hB : B ≤ w.heap.size) : Below B w w' :=
  ⟨h.os, h.tape, h.output, h.size, fun k hk => h.block k (by omega) fun e => by have := hr k e.symm; omega⟩

theorem kept_grown {w w' : World} {B e size n : Nat} {v : Value} {xs : List Value} {tys : List Nat} (h : w.grownBy w' v.ownBlock) (hown : w.ownsRow B e size v n xs) (ht : e ∉ tys) :
    ∀ (k ty : Nat) (cs : Array Value), ty ∈ tys → w.heap[k]? = some (.cells cs ty (0, 0)) → w'.heap[k]? = w.heap[k]? := by
  intro k ty cs hty hk
  refine h.block k (Array.getElem?_eq_some_iff.1 hk).1 fun e1 => ?_
  rcases hown.2 with ⟨rfl, _⟩ | ⟨g, cap, cur, rfl, _, hg, _⟩
  · simp [Value.ownBlock] at e1
  · simp [Value.ownBlock] at e1
    subst e1
    rw [hg] at hk
    cases hk
    exact ht hty

theorem runOk_append {P : Program} {t ty e size bytes : Nat} (el : El P t e size bytes) {B0 B : Nat} (hBB : B0 ≤ B) {tys : List Nat} {w : World} {v : Value} {n : Nat} {xs : List Value} (hown : w.ownsRow B e size v n xs)
    {a : Addr} {m c : Nat} {news : List Value} (hl : news.length = m * size) (hnews : ∀ j u, news[j]? = some u → w.cell? (a.add j) = some u) (h1 : ∀ u ∈ news, isCell u = true)
    (hB : B ≤ w.heap.size) (hsz : (n + m) * (bytes + 1) ≤ 140737488355328) (ht : e ∉ tys) {K : Option Addr → Nat → Nat → World → Prop}
    (h : ∀ A c w2, w2.ownsRow B e size (.slice A (n + m) c) (n + m) (xs ++ news) → w.grownBy w2 v.ownBlock → Below B0 w w2 → K A (n + m) c w2) :
    RunOk P (Builtin.append_ #[t, t] ty #[v, .slice (some a) m c]) B0 tys w fun r w2 => ∃ A n c, r = .slice A n c ∧ K A n c w2 := by
  obtain ⟨i, z, h2, h3, h4, h5, h6⟩ := el.info
  have hle : n + m ≤ (n + m) * (bytes + 1) := Nat.le_mul_of_pos_right _ (by omega)
  have hb : (n + m) * bytes ≤ (n + m) * (bytes + 1) := Nat.mul_le_mul_left _ (by omega)
  obtain ⟨v', w', hr, ho, hg, _⟩ := run_append_own (P := P) w B t ty e i z size bytes el.und h2 h3 h4 h5 h6 el.pos v n xs hown a m c news hl hnews (fun u hu => oneCell'_of (h1 u hu)) (by simp only [maxLen]; omega) (by omega) hB
  have hbel : Below B0 w w' := below_grown hg (fun k hk => Nat.le_trans hBB (hown.lt k hk).1) (Nat.le_trans hBB hB)
  obtain ⟨A, c', rfl, _⟩ := ownsRow_form ho
  exact ⟨_, w', hr, hbel, hbel.size, kept_grown hg hown ht, A, _, c', rfl, h A c' w' ho hg hbel⟩

theorem runOk_append1 {P : Program} {t ty e size bytes : Nat} (el : El P t e size bytes) {B0 B : Nat} (hBB : B0 ≤ B) {tys : List Nat} {w : World} {v : Value} {n : Nat} {xs : List Value} (hown : w.ownsRow B e size v n xs)
    {x : Value} (hx : x.cells.size = size) (h1 : ∀ u ∈ x.cells.toList, isCell u = true)
    (hB : B ≤ w.heap.size) (hsz : (n + 1) * (bytes + 1) ≤ 140737488355328) (ht : e ∉ tys) {K : Option Addr → Nat → Nat → World → Prop}
    (h : ∀ A c w2, w2.ownsRow B e size (.slice A (n + 1) c) (n + 1) (xs ++ x.cells.toList) → w.grownBy w2 v.ownBlock → Below B0 w w2 → K A (n + 1) c w2) :
    RunOk P (Instr.buildSlice t 1 #[(0, x)]) B0 tys w fun r w1 => ∃ A m c, r = .slice A m c ∧
      RunOk P (Builtin.append_ #[t, t] ty #[v, .slice A m c]) B0 tys w1 fun r w2 => ∃ A n c, r = .slice A n c ∧ K A n c w2 := by
  have hr := run_buildAll el [x] (by simpa using hx) (by simp) w
  simp only [List.length_singleton, List.zipIdx_cons, List.zipIdx_nil, List.map_cons, List.map_nil, List.flatMap_cons, List.flatMap_nil, List.append_nil] at hr
  have hg := World.grownBy_alloc w (.cells x.cells.toList.toArray e) none
  have hbel : Below B0 w (w.alloc (.cells x.cells.toList.toArray e)) := below_grown hg (by simp) (Nat.le_trans hBB hB)
  refine ⟨_, _, hr, hbel, hbel.size, fun k ty cs _ hk => hg.block k (Array.getElem?_eq_some_iff.1 hk).1 (by simp), _, _, _, rfl, ?_⟩
  refine runOk_append el hBB (hown.kept hg (by cases v.ownBlock <;> simp)) (news := x.cells.toList) (by simpa using hx) ?_ h1 (by have := hg.size; omega) hsz ht ?_
  · intro j u hu
    rw [add_none, Nat.zero_add]
    simp only [World.cell?]
    rw [heap_alloc_new]
    simpa using hu
  · intro A c w2 h2 h3 h4
    refine h A c w2 h2 ⟨h3.os.trans hg.os, h3.tape.trans hg.tape, h3.output.trans hg.output, Nat.le_trans hg.size h3.size, fun k hk hne => ?_⟩ (hbel.trans h4)
    rw [h3.block k (by have := hg.size; omega) hne]
    exact hg.block k hk (by simp)

theorem runOk_make0 {P : Program} {t e size bytes : Nat} (el : El P t e size bytes) {B : Nat} {tys : List Nat} {w : World} {kl kc : IntKind} {c : Int} (h0 : 0 ≤ c) (hc : c.toNat * (bytes + 1) ≤ 140737488355328) (hB : B ≤ w.heap.size) {K : Option Addr → Nat → Nat → World → Prop}
    (h : ∀ A c w2, w2.ownsRow B e size (.slice A 0 c) 0 [] → w.grownBy w2 none → Below B w w2 → K A 0 c w2) :
    RunOk P (Instr.makeSlice t (.int kl 0) (.int kc c)) B tys w fun r w2 => ∃ A n c, r = .slice A n c ∧ K A n c w2 := by
  obtain ⟨i, z, h2, h3, h4, h5, h6⟩ := el.info
  obtain ⟨c, rfl⟩ := Int.eq_ofNat_of_zero_le h0
  have hc' : c * (bytes + 1) ≤ 140737488355328 := by simpa only [Int.toNat_natCast] using hc
  have hle : c ≤ c * (bytes + 1) := Nat.le_mul_of_pos_right _ (by omega)
  have hb : c * bytes ≤ c * (bytes + 1) := Nat.mul_le_mul_left _ (by omega)
  obtain ⟨w', hr, ho, hg⟩ := run_make_own (P := P) w B t e i z size el.und h2 h3 h4 kl kc c (by rw [h5, Nat.mul_comm]; omega) (by simp only [maxLen]; omega) hB
  have hbel : Below B w w' := below_grown hg (by simp) hB
  exact ⟨_, w', hr, hbel, hbel.size, fun k ty cs _ hk => hg.block k (Array.getElem?_eq_some_iff.1 hk).1 (by simp), _, _, _, rfl, h _ _ w' ho hg hbel⟩

theorem runOk_make {P : Program} {t e bytes : Nat} (el : El P t e 1 bytes) {B : Nat} {tys : List Nat} {w : World} {kl kc : IntKind} {c : Int} {z : Value} (hz : (P.info? e).bind (·.zero) = some z) (hzc : isCell z = true) (h0 : 0 ≤ c) (hc : c.toNat * (bytes + 1) ≤ 140737488355328) (hB : B ≤ w.heap.size)
    {K : Option Addr → Nat → Nat → World → Prop}
    (h : ∀ A (n : Nat) w2, (n : Int) = c → w2.ownsRow w.heap.size e 1 (.slice A n n) n (List.replicate n z) → w.grownBy w2 none → Below B w w2 → K A n n w2) :
    RunOk P (Instr.makeSlice t (.int kl c) (.int kc c)) B tys w fun r w2 => ∃ A n c, r = .slice A n c ∧ K A n c w2 := by
  obtain ⟨i, z', h2, h3, h4, h5, h6⟩ := el.info
  obtain ⟨c, rfl⟩ := Int.eq_ofNat_of_zero_le h0
  have hzz : z' = z := by rw [h2] at hz; simp [h3] at hz; exact hz
  subst hzz
  have hc' : c * (bytes + 1) ≤ 140737488355328 := by simpa only [Int.toNat_natCast] using hc
  have hle : c ≤ c * (bytes + 1) := Nat.le_mul_of_pos_right _ (by omega)
  have hb : c * bytes ≤ c * (bytes + 1) := Nat.mul_le_mul_left _ (by omega)
  have hbi : (i.bytes : Int) * (c : Int) ≤ 281474976710656 := by
    have h : ((i.bytes * c : Nat) : Int) ≤ 281474976710656 := by
      have : i.bytes * c ≤ 281474976710656 := by rw [h5, Nat.mul_comm]; omega
      omega
    rwa [Int.natCast_mul] at h
  have hr := run_make (P := P) w t e i z' el.und h2 h3 kl kc c c (by omega) (Int.le_refl _) hbi (by omega)
  simp only [Int.toNat_natCast, h4, Nat.mul_one] at hr
  have hzl : z'.cells = #[z'] := by cases z' <;> first | rfl | simp [isCell] at hzc
  have hm : madeCells z'.cells c = (List.replicate c z').toArray := by
    apply Array.ext'
    rw [hzl]
    apply List.ext_getElem?
    intro j
    simp only [madeCells, Array.toList_map, Array.toList_range, List.getElem?_map, List.getElem?_replicate]
    by_cases hj : j < c
    · simp [hj, Nat.mod_one]
    · simp [hj]
  rw [hm] at hr
  have hg := World.grownBy_alloc w (.cells (List.replicate c z').toArray e) none
  have hbel : Below B w (w.alloc (.cells (List.replicate c z').toArray e)) := below_grown hg (by simp) hB
  refine ⟨_, _, hr, hbel, hbel.size, fun k ty cs _ hk => hg.block k (Array.getElem?_eq_some_iff.1 hk).1 (by simp), _, _, _, rfl, h _ _ _ rfl ?_ hg hbel⟩
  exact ⟨by simp, .inr ⟨w.heap.size, c, _, rfl, Nat.le_refl _, heap_alloc_new w _, Nat.le_refl _, by simp only [maxLen]; omega, by simp, by simp⟩⟩

theorem ownsRow_wrote {w : World} {B e size n c : Nat} {A : Addr} {xs : List Value} (h : w.ownsRow B e size (.slice (some A) n c) n xs) {off : Nat} {vs : List Value} (hle : off + vs.length ≤ xs.length) :
    ∃ cs : List Value, B ≤ A.block ∧ A.spot = none ∧ A.off = 0 ∧ w.heap[A.block]? = some (.cells cs.toArray e (0, 0)) ∧ off + vs.length ≤ cs.length ∧
      ∀ w1, Wrote w w1 A.block e (setCells cs off vs) → w1.ownsRow B e size (.slice (some A) n c) n (setCells xs off vs) := by
  rcases h.2 with ⟨h1, _⟩ | ⟨g, cap, cur, h1, hb, hg, hc, hm, hs, ht⟩
  · cases h1
  · cases h1
    have hset : ∀ (vs : List Value) (l : List Value) (off : Nat), (setCells l off vs).length = l.length := by
      intro vs
      induction vs with
      | nil => intro l off; rfl
      | cons v r ih => intro l off; rw [setCells, ih]; simp
    have htk : ∀ (vs : List Value) (l : List Value) (off k : Nat), (setCells l off vs).take k = setCells (l.take k) off vs := by
      intro vs
      induction vs with
      | nil => intro l off k; rfl
      | cons v r ih => intro l off k; rw [setCells, ih, setCells, List.take_set]
    refine ⟨cur.toList, hb, rfl, rfl, by simpa using hg, ?_, fun w1 hw => ⟨by rw [hset]; exact h.1, .inr ⟨g, c, (setCells cur.toList off vs).toArray, rfl, hb, by simpa using hw.at_, hc, hm, by simp [hset, hs], ?_⟩⟩⟩
    · have : xs.length ≤ cur.toList.length := by rw [← ht]; simp; omega
      omega
    · rw [← ht]; simp [htk]
end Go.Proofs.YtdoailkigecmkaaGreatDoor.B
