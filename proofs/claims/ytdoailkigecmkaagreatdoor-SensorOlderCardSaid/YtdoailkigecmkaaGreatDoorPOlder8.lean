/- Part 8 of the proof that: The statement SensorOlder holds: what is seen as old is old in every later tick and with every lesser hold, and nothing else is changed; no condition beyond the card. -/
import Derived.Test.YtdoailkigecmkaaGreatDoorPOlder7
namespace Go.Proofs.YtdoailkigecmkaaGreatDoor.B
open Go Go.RowKit Go.Proofs Go.Proofs.YtdoailkigecmkaaGreatDoor.Vc Go.ChangeShapes Go.WideShapes Go.Deep Go.ChangeAt
set_option maxRecDepth 100000

theorem sensorOlder_witness (os : Os) {H : Type} (enc : TypeId × Value → H) :
    (OpenSpec.ofChange Rows.sensorOlderSpec).preRow enc Tryz.prog Tryz.f9 Rows.sensorOlderRow.domain false Rows.sensorOlderRow.laid ((laidWorld os).forCall (fun _ _ => 0) ⟨#[], #[.slice none 0 0, .agg #[.int .i64 0, .int .i64 0, .int .i64 0, .int .i64 0]], []⟩).memory #[.slice none 0 0, .agg #[.int .i64 0, .int .i64 0, .int .i64 0, .int .i64 0]] := by
  have hw : (DataW.whole enc Tryz.prog ((laidWorld os).forCall (fun _ _ => 0) ⟨#[], #[.slice none 0 0, .agg #[.int .i64 0, .int .i64 0, .int .i64 0, .int .i64 0]], []⟩).memory Tryz.f9.params.toList Rows.sensorOlderSpec.vars false (#[.slice none 0 0, .agg #[.int .i64 0, .int .i64 0, .int .i64 0, .int .i64 0]] : Array Value).toList 8).map (fun x => (x.1, x.2.1)) =
      some ([.nil, .agg [.lit (.int .i64 0), .lit (.int .i64 0), .lit (.int .i64 0), .lit (.int .i64 0)]], []) := by kernel_rfl
  obtain ⟨⟨x1, x2, x3⟩, hx, hx1⟩ := Option.map_eq_some_iff.1 hw
  simp only [Prod.mk.injEq] at hx1
  obtain ⟨rfl, rfl⟩ := hx1
  exact OpenSpec.preRow_of_cond 8 hx (by kernel_rfl) (fun k hk => by cases hk) (by kernel_rfl) (laid_met os _)

theorem sensorOlder_lifted (os : Os) (started : os.Started) (H : Type) (enc : TypeId × Value → H) (F : Stop.Interp) :
    ReturnsInHanded {} Tryz.checked os 9 .any ((OpenSpec.ofChange Rows.sensorOlderSpec).preRow enc Tryz.prog Tryz.f9 Rows.sensorOlderRow.domain false Rows.sensorOlderRow.laid) (((OpenSpec.ofChange Rows.sensorOlderSpec).at F).post enc Tryz.prog Tryz.f9 false true false false) := by
  refine returnsInHanded_of_row (C := Tryz.checked) (s := OpenSpec.ofChange Rows.sensorOlderSpec) own started (by kernel_rfl) Tryz.func9
    (witness_row_atRef (enc := enc) (C := Tryz.checked) false (laidWorld os) #[.slice none 0 0, .agg #[.int .i64 0, .int .i64 0, .int .i64 0, .int .i64 0]] rfl (world_vars os _) (world_rest os _) (by kernel_rfl) (sensorOlder_witness os enc)) ?_
  intro W base args ds gs before hval0 hW _ _ _ hL hS _
  have hval : ∀ (j : Nat) t v, Tryz.f9.params[j]? = some t → args[j]? = some v → Value.okWide Tryz.prog W .any base t v := hval0
  have hW' := hW
  obtain ⟨p, q, hA0, hV0, rfl, _, _⟩ := hW
  have hps : Tryz.f9.params = #[32, 73] := by kernel_rfl
  have hA : DataW.TrodAll enc Tryz.prog W 0 (fun _ => true) true Tryz.f9.params.toList args.toList ds p := hA0
  rw [hps] at hA hval
  obtain ⟨v0, v1, d0, d1, p0, p1, rfl, rfl, rfl, h0, h1⟩ := trodAll_two hA
  obtain ⟨rfl, rfl⟩ := trodVars_none hV0
  obtain ⟨A0, n0, c0, l0, rfl, hx0, hlen0, hn0⟩ := open_values (hval 0 _ v0 rfl rfl) h0
  obtain ⟨x0, x1, x2, x3, rfl⟩ := open_four (hval 1 _ v1 rfl rfl) h1
  exact law_post (s := Rows.sensorOlderSpec) laidOut hW' rfl (tb := 4) (by kernel_rfl) (by kernel_rfl) (by rw [hps]; decide +kernel) rfl (law_SensorOlder (glob_of hL hS) hx0 hlen0 hn0)

theorem sensorOlder_said : Rows.SensorOlderSaid :=
  OpenClaim.holds_of_cond 9 Tryz.f9 rfl rfl rfl rfl rfl rfl rfl ⟨rfl, rfl, rfl, rfl, rfl⟩ rfl rfl rfl rfl rfl (by kernel_rfl) Tryz.func9 (by kernel_rfl)
    (of_decide_eq_true (by kernel_rfl)) (by unfold Func.isWrapper; first | (rw [if_pos (by decide +kernel)]; kernel_rfl) | (rw [if_neg (by decide +kernel)]; exact ⟨rfl, rfl⟩))
    (fun os started H enc _ F => by rw [OpenClaim.pre_eq_preRow]; exact sensorOlder_lifted os started H enc F)
end Go.Proofs.YtdoailkigecmkaaGreatDoor.B
