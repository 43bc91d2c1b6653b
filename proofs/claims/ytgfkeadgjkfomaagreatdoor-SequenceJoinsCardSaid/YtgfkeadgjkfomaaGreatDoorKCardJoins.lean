/- The statement SequenceJoins holds: the steps between two stowages lead from the one to the other, and back with the opposite units. No condition beyond the card's own. -/
import Derived.Test.YtgfkeadgjkfomaaGreatDoorK11
import Derived.Test.YtgfkeadgjkfomaaGreatDoorKRowJoins
set_option linter.unusedVariables false
set_option linter.unusedSimpArgs false
namespace Go.Proofs.YtgfkeadgjkfomaaGreatDoor.B
open Go Go.RowKit Go.Proofs Go.Proofs.YtgfkeadgjkfomaaGreatDoor.Vc Go.ChangeShapes Go.WideShapes Go.Deep Go.ChangeAt
set_option maxRecDepth 100000

theorem sequenceJoins_plain(f:FuncId)(fn:Func)(hf:Tryz.pinned.checked.prog.funcNamed Rows.sequenceJoinsRow.func=some f)(hfn:Tryz.pinned.checked.prog.funcs[f]? =some fn):
  true=Tryz.pinned.checked.prog.looks []/\∀(j:Nat) t,fn.params[j]? =some t->Tryz.pinned.checked.prog.wantsStandIn t=false:=by
 obtain rfl:f=9:=Option.some.inj ((show Tryz.prog.funcNamed Rows.sequenceJoinsRow.func=some 9 by kernel_rfl).symm.trans hf)|>.symm
 obtain rfl:fn=Tryz.f9:=(Option.some.inj (Tryz.func9.symm.trans hfn)).symm
 refine⟨by kernel_rfl,fun j t ht=> ?_⟩
 have hps:Tryz.f9.params= #[25,29,29]:=by kernel_rfl
 rw[hps]at ht
 have hall:(#[25,29,29]:Array TypeId).all (fun t=>Tryz.prog.wantsStandIn t==false)=true:=by kernel_rfl
 have:=Array.all_eq_true'.1 hall t (Array.mem_of_getElem? ht)
 exact eq_of_beq this
end Go.Proofs.YtgfkeadgjkfomaaGreatDoor.B
namespace Go.Proofs.YtgfkeadgjkfomaaGreatDoor
open B
theorem sequenceJoins_card:Rows.SequenceJoinsCardSaid:=
 Claim7.holds_tied_plain_at .later [] _ _ _ _ sequenceJoins_said (fun _ h=>by cases h) (by kernel_rfl) (fun _ h=>by cases h) sequenceJoins_row_tie rfl ⟨rfl,rfl⟩ (by kernel_rfl) rfl sequenceJoins_plain (by kernel_rfl)
end Go.Proofs.YtgfkeadgjkfomaaGreatDoor
