/- The statement SensorMiddle holds: the vote does not depend on the order of the values; at least half of the good ones are not greater than it, and at least half not less; it is one of them. No condition beyond the card's own. -/
import Derived.Test.YtdoailkigecmkaaGreatDoorG10
import Derived.Test.YtdoailkigecmkaaGreatDoorGRowMiddle
set_option linter.unusedVariables false
set_option linter.unusedSimpArgs false
namespace Go.Proofs.YtdoailkigecmkaaGreatDoor.B
open Go Go.RowKit Go.Proofs Go.Proofs.YtdoailkigecmkaaGreatDoor.Vc Go.ChangeShapes Go.WideShapes Go.Deep Go.ChangeAt
set_option maxRecDepth 100000

theorem sensorMiddle_plain (f : FuncId) (fn : Func) (hf : Tryz.pinned.checked.prog.funcNamed Rows.sensorMiddleRow.func = some f) (hfn : Tryz.pinned.checked.prog.funcs[f]? = some fn) :
    true = Tryz.pinned.checked.prog.looks [] ∧ ∀ (j : Nat) t, fn.params[j]? = some t → Tryz.pinned.checked.prog.wantsStandIn t = false := by
  obtain rfl : f = 8 := Option.some.inj ((show Tryz.prog.funcNamed Rows.sensorMiddleRow.func = some 8 by kernel_rfl).symm.trans hf) |>.symm
  obtain rfl : fn = Tryz.f8 := (Option.some.inj (Tryz.func8.symm.trans hfn)).symm
  refine ⟨by kernel_rfl, fun j t ht => ?_⟩
  have hps : Tryz.f8.params = #[32, 23] := by kernel_rfl
  rw [hps] at ht
  have hall : (#[32, 23] : Array TypeId).all (fun t => Tryz.prog.wantsStandIn t == false) = true := by kernel_rfl
  have := Array.all_eq_true'.1 hall t (Array.mem_of_getElem? ht)
  exact eq_of_beq this
end Go.Proofs.YtdoailkigecmkaaGreatDoor.B
namespace Go.Proofs.YtdoailkigecmkaaGreatDoor
open B
theorem sensorMiddle_card : Rows.SensorMiddleCardSaid :=
  Claim7.holds_tied_plain_at .later [] _ _ _ _ sensorMiddle_said (fun _ h => by cases h) (by kernel_rfl) (fun _ h => by cases h) sensorMiddle_row_tie rfl ⟨rfl, rfl⟩ (by kernel_rfl) rfl sensorMiddle_plain (by kernel_rfl)
end Go.Proofs.YtdoailkigecmkaaGreatDoor
