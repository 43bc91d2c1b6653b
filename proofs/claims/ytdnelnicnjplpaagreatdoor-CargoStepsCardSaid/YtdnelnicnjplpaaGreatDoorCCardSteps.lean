/- The statement CargoSteps holds: steps change the total by just what they put or take; steps that fail change nothing. No condition beyond the card's own. -/
import Derived.Test.YtdnelnicnjplpaaGreatDoorC11
import Derived.Test.YtdnelnicnjplpaaGreatDoorCRowSteps
set_option linter.unusedVariables false
set_option linter.unusedSimpArgs false
namespace Go.Proofs.YtdnelnicnjplpaaGreatDoor.B
open Go Go.RowKit Go.Proofs Go.Proofs.YtdnelnicnjplpaaGreatDoor.Vc Go.ChangeShapes Go.WideShapes Go.Deep Go.ChangeAt
set_option maxRecDepth 100000

theorem cargoSteps_plain (f : FuncId) (fn : Func) (hf : Tryz.pinned.checked.prog.funcNamed Rows.cargoStepsRow.func = some f) (hfn : Tryz.pinned.checked.prog.funcs[f]? = some fn) :
    true = Tryz.pinned.checked.prog.looks [] ∧ ∀ (j : Nat) t, fn.params[j]? = some t → Tryz.pinned.checked.prog.wantsStandIn t = false := by
  obtain rfl : f = 10 := Option.some.inj ((show Tryz.prog.funcNamed Rows.cargoStepsRow.func = some 10 by kernel_rfl).symm.trans hf) |>.symm
  obtain rfl : fn = Tryz.f10 := (Option.some.inj (Tryz.func10.symm.trans hfn)).symm
  refine ⟨by kernel_rfl, fun j t ht => ?_⟩
  have hps : Tryz.f10.params = #[25, 26, 63] := by kernel_rfl
  rw [hps] at ht
  have hall : (#[25, 26, 63] : Array TypeId).all (fun t => Tryz.prog.wantsStandIn t == false) = true := by kernel_rfl
  have := Array.all_eq_true'.1 hall t (Array.mem_of_getElem? ht)
  exact eq_of_beq this
end Go.Proofs.YtdnelnicnjplpaaGreatDoor.B
namespace Go.Proofs.YtdnelnicnjplpaaGreatDoor
open B
theorem cargoSteps_card : Rows.CargoStepsCardSaid :=
  Claim7.holds_tied_plain_at .later [] _ _ _ _ cargoSteps_said (fun _ h => by cases h) (by kernel_rfl) (fun _ h => by cases h) cargoSteps_row_tie rfl ⟨rfl, rfl⟩ (by kernel_rfl) rfl cargoSteps_plain (by kernel_rfl)
end Go.Proofs.YtdnelnicnjplpaaGreatDoor
