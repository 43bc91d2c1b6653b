/- The statement SensorOlder holds: what is seen as old is old in every later tick and with every lesser hold, and nothing else is changed; no condition beyond the card. -/
import Derived.Test.YtdoailkigecmkaaGreatDoorPOlder8
namespace Go.Proofs.YtdoailkigecmkaaGreatDoor.B
open Go Go.RowKit Go.Proofs Go.Proofs.YtdoailkigecmkaaGreatDoor.Vc Go.ChangeShapes Go.WideShapes Go.Deep Go.ChangeAt
set_option maxRecDepth 100000

theorem sensorOlder_plain (f : FuncId) (fn : Func) (hf : Tryz.pinned.checked.prog.funcNamed Rows.sensorOlderRow.func = some f) (hfn : Tryz.pinned.checked.prog.funcs[f]? = some fn) :
    true = Tryz.pinned.checked.prog.looks [] ∧ ∀ (j : Nat) t, fn.params[j]? = some t → Tryz.pinned.checked.prog.wantsStandIn t = false := by
  obtain rfl : f = 9 := Option.some.inj ((show Tryz.prog.funcNamed Rows.sensorOlderRow.func = some 9 by kernel_rfl).symm.trans hf) |>.symm
  obtain rfl : fn = Tryz.f9 := (Option.some.inj (Tryz.func9.symm.trans hfn)).symm
  refine ⟨by kernel_rfl, fun j t ht => ?_⟩
  have hps : Tryz.f9.params = #[32, 73] := by kernel_rfl
  rw [hps] at ht
  have hall : (#[32, 73] : Array TypeId).all (fun t => Tryz.prog.wantsStandIn t == false) = true := by kernel_rfl
  have := Array.all_eq_true'.1 hall t (Array.mem_of_getElem? ht)
  exact eq_of_beq this
end Go.Proofs.YtdoailkigecmkaaGreatDoor.B
namespace Go.Proofs.YtdoailkigecmkaaGreatDoor
open B
theorem sensorOlder_card : Rows.SensorOlderCardSaid :=
  Claim7.holds_tied_plain_at .later [] _ _ _ _ sensorOlder_said (fun _ h => by cases h) (by kernel_rfl) (fun _ h => by cases h) sensorOlder_row_tie rfl ⟨rfl, rfl⟩ (by kernel_rfl) rfl sensorOlder_plain (by kernel_rfl)
end Go.Proofs.YtdoailkigecmkaaGreatDoor
