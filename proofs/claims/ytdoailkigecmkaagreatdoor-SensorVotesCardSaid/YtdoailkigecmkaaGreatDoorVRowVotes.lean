/- The statement SensorVotes, its row. -/
import Derived.Test.YtdoailkigecmkaaGreatDoorV10
set_option linter.unusedVariables false
set_option linter.unusedSimpArgs false
namespace Go.Proofs.YtdoailkigecmkaaGreatDoor.B
open Go Go.RowKit Go.Proofs Go.Proofs.YtdoailkigecmkaaGreatDoor.Vc Go.ChangeShapes Go.WideShapes Go.Deep Go.ChangeAt
set_option maxRecDepth 100000

theorem sensorVotes_witness (os : Os) {H : Type} (enc : TypeId × Value → H) :
    (OpenSpec.ofChange Rows.sensorVotesSpec).preRow enc Tryz.prog Tryz.f5 Rows.sensorVotesRow.domain false Rows.sensorVotesRow.laid ((laidWorld os).forCall (fun _ _ => 0) ⟨#[], #[.slice none 0 0, .int .i64 0, .int .i64 0, .string ⟨#[]⟩], []⟩).memory #[.slice none 0 0, .int .i64 0, .int .i64 0, .string ⟨#[]⟩] := by
  have hw : (DataW.whole enc Tryz.prog ((laidWorld os).forCall (fun _ _ => 0) ⟨#[], #[.slice none 0 0, .int .i64 0, .int .i64 0, .string ⟨#[]⟩], []⟩).memory Tryz.f5.params.toList Rows.sensorVotesSpec.vars false (#[.slice none 0 0, .int .i64 0, .int .i64 0, .string ⟨#[]⟩] : Array Value).toList 8).map (fun x => (x.1, x.2.1)) =
      some ([.nil, .lit (.int .i64 0), .lit (.int .i64 0), .lit (.string [])], []) := by kernel_rfl
  obtain ⟨⟨x1, x2, x3⟩, hx, hx1⟩ := Option.map_eq_some_iff.1 hw
  simp only [Prod.mk.injEq] at hx1
  obtain ⟨rfl, rfl⟩ := hx1
  exact OpenSpec.preRow_of_cond 8 hx (by kernel_rfl) (fun k hk => by cases hk) (by kernel_rfl) (laid_met os _)

theorem sensorVotes_lifted (os : Os) (started : os.Started) (H : Type) (enc : TypeId × Value → H) (F : Stop.Interp) :
    ReturnsInHanded {} Tryz.checked os 5 .any ((OpenSpec.ofChange Rows.sensorVotesSpec).preRow enc Tryz.prog Tryz.f5 Rows.sensorVotesRow.domain false Rows.sensorVotesRow.laid) (((OpenSpec.ofChange Rows.sensorVotesSpec).at F).post enc Tryz.prog Tryz.f5 false true false false) := by
  refine returnsInHanded_of_row (C := Tryz.checked) (s := OpenSpec.ofChange Rows.sensorVotesSpec) own started (by kernel_rfl) Tryz.func5
    (witness_row_atRef (enc := enc) (C := Tryz.checked) false (laidWorld os) #[.slice none 0 0, .int .i64 0, .int .i64 0, .string ⟨#[]⟩] rfl (world_vars os _) (world_rest os _) (by kernel_rfl) (sensorVotes_witness os enc)) ?_
  intro W base args ds gs before hval0 hW _ _ _ hL hS _
  have hval : ∀ (j : Nat) t v, Tryz.f5.params[j]? = some t → args[j]? = some v → Value.okWide Tryz.prog W .any base t v := hval0
  have hW' := hW
  obtain ⟨p, q, hA0, hV0, rfl, _, _⟩ := hW
  have hps : Tryz.f5.params = #[32, 3, 3, 23] := by kernel_rfl
  have hA : DataW.TrodAll enc Tryz.prog W 0 (fun _ => true) true Tryz.f5.params.toList args.toList ds p := hA0
  rw [hps] at hA hval
  obtain ⟨v0, v1, v2, v3, d0, d1, d2, d3, p0, p1, p2, p3, rfl, rfl, rfl, h0, h1, h2, h3⟩ := trodAll_four hA
  obtain ⟨rfl, rfl⟩ := trodVars_none hV0
  obtain ⟨A0, n0, c0, l0, rfl, hx0, hlen0, hn0⟩ := open_values (hval 0 _ v0 rfl rfl) h0
  obtain ⟨z1, rfl, _, _, _⟩ := open_int u_int (hval 1 _ v1 rfl rfl) h1
  obtain ⟨z2, rfl, _, _, _⟩ := open_int u_int (hval 2 _ v2 rfl rfl) h2
  obtain ⟨s3, rfl, _, _, hs3⟩ := Go.ChangeMaps.open_string u_Rat (hval 3 _ v3 rfl rfl) h3
  exact law_post (s := Rows.sensorVotesSpec) laidOut hW' rfl (tb := 4) (by kernel_rfl) (by kernel_rfl) (by rw [hps]; decide +kernel) rfl (law_SensorVotes (glob_of hL hS) hx0 hlen0 hn0)

theorem sensorVotes_said : Rows.SensorVotesSaid :=
  OpenClaim.holds_of_cond 5 Tryz.f5 rfl rfl rfl rfl rfl rfl rfl ⟨rfl, rfl, rfl, rfl, rfl⟩ rfl rfl rfl rfl rfl (by kernel_rfl) Tryz.func5 (by kernel_rfl)
    (of_decide_eq_true (by kernel_rfl)) (by unfold Func.isWrapper; first | (rw [if_pos (by decide +kernel)]; kernel_rfl) | (rw [if_neg (by decide +kernel)]; exact ⟨rfl, rfl⟩))
    (fun os started H enc _ F => by rw [OpenClaim.pre_eq_preRow]; exact sensorVotes_lifted os started H enc F)
end Go.Proofs.YtdoailkigecmkaaGreatDoor.B
