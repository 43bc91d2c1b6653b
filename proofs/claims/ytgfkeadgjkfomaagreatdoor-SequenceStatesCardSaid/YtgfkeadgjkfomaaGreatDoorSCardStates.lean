/- The statement SequenceStates holds: Between and State return what the definitions specify, or the specified errors. No condition beyond the card's own. -/
import Derived.Test.YtgfkeadgjkfomaaGreatDoorS12
import Derived.Test.YtgfkeadgjkfomaaGreatDoorSRowStates
set_option linter.unusedVariables false
set_option linter.unusedSimpArgs false
namespace Go.Proofs.YtgfkeadgjkfomaaGreatDoor.B
open Go Go.RowKit Go.Proofs Go.Proofs.YtgfkeadgjkfomaaGreatDoor.Vc Go.ChangeShapes Go.WideShapes Go.Deep Go.ChangeAt
set_option maxRecDepth 100000

theorem sequenceStates_plain(f:FuncId)(fn:Func)(hf:Tryz.pinned.checked.prog.funcNamed Rows.sequenceStatesRow.func=some f)(b:Tryz.pinned.checked.prog.funcs[f]? =some fn):
  true=Tryz.pinned.checked.prog.looks []/\∀(j:Nat) t,fn.params[j]? =some t->Tryz.pinned.checked.prog.wantsStandIn t=false:=by
 obtain rfl:f=3:=BM ((show Tryz.prog.funcNamed Rows.sequenceStatesRow.func=some 3 by kernel_rfl).symm.trans hf)|>.symm;obtain rfl:fn=Tryz.f3:=(BM (Tryz.func3.symm.trans b)).symm;refine⟨kF,fun j t a=> ?_⟩;have c:Tryz.f3.params= #[28,29,29,30,3]:=kF;rw[c]at a;have d:(#[28,29,29,30,3]:Array TypeId).all (fun t=>Tryz.prog.wantsStandIn t==false)=true:=kF;have:=PE.1 d t (vf a);exact eq_of_beq this
end Go.Proofs.YtgfkeadgjkfomaaGreatDoor.B
namespace Go.Proofs.YtgfkeadgjkfomaaGreatDoor
open B
theorem sequenceStates_card:Rows.SequenceStatesCardSaid:=
 Claim7.holds_tied_plain_at .later [] _ _ _ _ sequenceStates_said (fun _ h=>by cases h) kF (fun _ h=>by cases h) sequenceStates_row_tie rfl ⟨rfl,rfl⟩ kF rfl sequenceStates_plain kF
end Go.Proofs.YtgfkeadgjkfomaaGreatDoor
