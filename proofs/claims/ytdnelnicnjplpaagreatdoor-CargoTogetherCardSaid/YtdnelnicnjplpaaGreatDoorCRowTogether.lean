/- The statement CargoTogether, its row. -/
import Derived.Test.YtdnelnicnjplpaaGreatDoorC11
set_option linter.unusedVariables false
set_option linter.unusedSimpArgs false
namespace Go.Proofs.YtdnelnicnjplpaaGreatDoor.B
open Go Go.RowKit Go.Proofs Go.Proofs.YtdnelnicnjplpaaGreatDoor.Vc Go.ChangeShapes Go.WideShapes Go.Deep Go.ChangeAt
set_option maxRecDepth 100000

theorem cargoTogether_witness (os : Os) {H : Type} (enc : TypeId × Value → H) :
    (OpenSpec.ofChange Rows.cargoTogetherSpec).preRow enc Tryz.prog Tryz.f7 Rows.cargoTogetherRow.domain false Rows.cargoTogetherRow.laid ((laidWorld os).forCall (fun _ _ => 0) ⟨#[], #[.agg #[.slice none 0 0, .slice none 0 0], .slice none 0 0], []⟩).memory #[.agg #[.slice none 0 0, .slice none 0 0], .slice none 0 0] := by
  have hw : (DataW.whole enc Tryz.prog ((laidWorld os).forCall (fun _ _ => 0) ⟨#[], #[.agg #[.slice none 0 0, .slice none 0 0], .slice none 0 0], []⟩).memory Tryz.f7.params.toList Rows.cargoTogetherSpec.vars false (#[.agg #[.slice none 0 0, .slice none 0 0], .slice none 0 0] : Array Value).toList 8).map (fun x => (x.1, x.2.1)) =
      some ([.agg [.nil, .nil], .nil], []) := by kernel_rfl
  obtain ⟨⟨x1, x2, x3⟩, hx, hx1⟩ := Option.map_eq_some_iff.1 hw
  simp only [Prod.mk.injEq] at hx1
  obtain ⟨rfl, rfl⟩ := hx1
  exact OpenSpec.preRow_of_cond 8 hx (by kernel_rfl) (fun k hk => by cases hk) (by kernel_rfl) (laid_met os _)

theorem cargoTogether_lifted (os : Os) (started : os.Started) (H : Type) (enc : TypeId × Value → H) (F : Stop.Interp) :
    ReturnsInHanded {} Tryz.checked os 7 .any ((OpenSpec.ofChange Rows.cargoTogetherSpec).preRow enc Tryz.prog Tryz.f7 Rows.cargoTogetherRow.domain false Rows.cargoTogetherRow.laid) (((OpenSpec.ofChange Rows.cargoTogetherSpec).at F).post enc Tryz.prog Tryz.f7 false true false false) := by
  refine returnsInHanded_of_row (C := Tryz.checked) (s := OpenSpec.ofChange Rows.cargoTogetherSpec) own started (by kernel_rfl) Tryz.func7
    (witness_row_atRef (enc := enc) (C := Tryz.checked) false (laidWorld os) #[.agg #[.slice none 0 0, .slice none 0 0], .slice none 0 0] rfl (world_vars os _) (world_rest os _) (by kernel_rfl) (cargoTogether_witness os enc)) ?_
  intro W base args ds gs before hval0 hW _ _ _ hL hS _
  have hval : ∀ (j : Nat) t v, Tryz.f7.params[j]? = some t → args[j]? = some v → Value.okWide Tryz.prog W .any base t v := hval0
  have hW' := hW
  obtain ⟨p, q, hA0, hV0, rfl, _, _⟩ := hW
  have hps : Tryz.f7.params = #[25, 26] := by kernel_rfl
  have hA : DataW.TrodAll enc Tryz.prog W 0 (fun _ => true) true Tryz.f7.params.toList args.toList ds p := hA0
  rw [hps] at hA hval
  obtain ⟨v0, v1, d0, d1, p0, p1, rfl, rfl, rfl, h0, h1⟩ := trodAll_two hA
  obtain ⟨rfl, rfl⟩ := trodVars_none hV0
  obtain ⟨A0, n0, c0, A0x, n0x, c0x, ps, hs, rfl, hr0, hz0, hz1⟩ := open_cargo (hval 0 _ v0 rfl rfl) h0
  obtain ⟨A1, n1, c1, l1, rfl, hx1, hlen1⟩ := open_stows (hval 1 _ v1 rfl rfl) h1
  exact law_post (s := Rows.cargoTogetherSpec) laidOut hW' rfl (tb := 4) (by kernel_rfl) (by kernel_rfl) (by rw [hps]; decide +kernel) rfl (law47_CargoTogether (glob_of hL hS) hr0 hz0 hz1 hx1 hlen1)

theorem cargoTogether_said : Rows.CargoTogetherSaid :=
  OpenClaim.holds_of_cond 7 Tryz.f7 rfl rfl rfl rfl rfl rfl rfl ⟨rfl, rfl, rfl, rfl, rfl⟩ rfl rfl rfl rfl rfl (by kernel_rfl) Tryz.func7 (by kernel_rfl)
    (of_decide_eq_true (by kernel_rfl)) (by unfold Func.isWrapper; first | (rw [if_pos (by decide +kernel)]; kernel_rfl) | (rw [if_neg (by decide +kernel)]; exact ⟨rfl, rfl⟩))
    (fun os started H enc _ F => by rw [OpenClaim.pre_eq_preRow]; exact cargoTogether_lifted os started H enc F)
end Go.Proofs.YtdnelnicnjplpaaGreatDoor.B
