/- The statement CargoTogether holds: the holds together hold the total; the total of an empty ship is 0. No condition beyond the card's own. -/
import Derived.Test.YtdnelnicnjplpaaGreatDoorC11
import Derived.Test.YtdnelnicnjplpaaGreatDoorCRowTogether
set_option linter.unusedVariables false
set_option linter.unusedSimpArgs false
namespace Go.Proofs.YtdnelnicnjplpaaGreatDoor.B
open Go Go.RowKit Go.Proofs Go.Proofs.YtdnelnicnjplpaaGreatDoor.Vc Go.ChangeShapes Go.WideShapes Go.Deep Go.ChangeAt
set_option maxRecDepth 100000

theorem cargoTogether_plain (f : FuncId) (fn : Func) (hf : Tryz.pinned.checked.prog.funcNamed Rows.cargoTogetherRow.func = some f) (hfn : Tryz.pinned.checked.prog.funcs[f]? = some fn) :
    true = Tryz.pinned.checked.prog.looks [] ∧ ∀ (j : Nat) t, fn.params[j]? = some t → Tryz.pinned.checked.prog.wantsStandIn t = false := by
  obtain rfl : f = 7 := Option.some.inj ((show Tryz.prog.funcNamed Rows.cargoTogetherRow.func = some 7 by kernel_rfl).symm.trans hf) |>.symm
  obtain rfl : fn = Tryz.f7 := (Option.some.inj (Tryz.func7.symm.trans hfn)).symm
  refine ⟨by kernel_rfl, fun j t ht => ?_⟩
  have hps : Tryz.f7.params = #[25, 26] := by kernel_rfl
  rw [hps] at ht
  have hall : (#[25, 26] : Array TypeId).all (fun t => Tryz.prog.wantsStandIn t == false) = true := by kernel_rfl
  have := Array.all_eq_true'.1 hall t (Array.mem_of_getElem? ht)
  exact eq_of_beq this
end Go.Proofs.YtdnelnicnjplpaaGreatDoor.B
namespace Go.Proofs.YtdnelnicnjplpaaGreatDoor
open B
theorem cargoTogether_card : Rows.CargoTogetherCardSaid :=
  Claim7.holds_tied_plain_at .later [] _ _ _ _ cargoTogether_said (fun _ h => by cases h) (by kernel_rfl) (fun _ h => by cases h) cargoTogether_row_tie rfl ⟨rfl, rfl⟩ (by kernel_rfl) rfl cargoTogether_plain (by kernel_rfl)
end Go.Proofs.YtdnelnicnjplpaaGreatDoor
