/- The statement CargoHolds holds: Held, Total and Overloaded return what the definitions specify, or the specified errors. No condition beyond the card's own. -/
import Derived.Test.YtdnelnicnjplpaaGreatDoorB11
import Derived.Test.YtdnelnicnjplpaaGreatDoorBRowHolds
set_option linter.unusedVariables false
set_option linter.unusedSimpArgs false
namespace Go.Proofs.YtdnelnicnjplpaaGreatDoor.B
open Go Go.RowKit Go.Proofs Go.Proofs.YtdnelnicnjplpaaGreatDoor.Vc Go.ChangeShapes Go.WideShapes Go.Deep Go.ChangeAt
set_option maxRecDepth 100000

theorem cargoHolds_plain (f : FuncId) (fn : Func) (hf : Tryz.pinned.checked.prog.funcNamed Rows.cargoHoldsRow.func = some f) (hfn : Tryz.pinned.checked.prog.funcs[f]? = some fn) :
    true = Tryz.pinned.checked.prog.looks [] ∧ ∀ (j : Nat) t, fn.params[j]? = some t → Tryz.pinned.checked.prog.wantsStandIn t = false := by
  obtain rfl : f = 4 := Option.some.inj ((show Tryz.prog.funcNamed Rows.cargoHoldsRow.func = some 4 by kernel_rfl).symm.trans hf) |>.symm
  obtain rfl : fn = Tryz.f4 := (Option.some.inj (Tryz.func4.symm.trans hfn)).symm
  refine ⟨by kernel_rfl, fun j t ht => ?_⟩
  have hps : Tryz.f4.params = #[25, 26, 3] := by kernel_rfl
  rw [hps] at ht
  have hall : (#[25, 26, 3] : Array TypeId).all (fun t => Tryz.prog.wantsStandIn t == false) = true := by kernel_rfl
  have := Array.all_eq_true'.1 hall t (Array.mem_of_getElem? ht)
  exact eq_of_beq this
end Go.Proofs.YtdnelnicnjplpaaGreatDoor.B
namespace Go.Proofs.YtdnelnicnjplpaaGreatDoor
open B
theorem cargoHolds_card : Rows.CargoHoldsCardSaid :=
  Claim7.holds_tied_plain_at .later [] _ _ _ _ cargoHolds_said (fun _ h => by cases h) (by kernel_rfl) (fun _ h => by cases h) cargoHolds_row_tie rfl ⟨rfl, rfl⟩ (by kernel_rfl) rfl cargoHolds_plain (by kernel_rfl)
end Go.Proofs.YtdnelnicnjplpaaGreatDoor
