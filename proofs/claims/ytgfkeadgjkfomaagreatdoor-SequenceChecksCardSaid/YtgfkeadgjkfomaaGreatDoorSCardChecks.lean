/- The statement SequenceChecks holds: Check and Closed return what the definitions specify, for any lists. No condition beyond the card's own. -/
import Derived.Test.YtgfkeadgjkfomaaGreatDoorS12
import Derived.Test.YtgfkeadgjkfomaaGreatDoorSRowChecks
set_option linter.unusedVariables false
set_option linter.unusedSimpArgs false
namespace Go.Proofs.YtgfkeadgjkfomaaGreatDoor.B
open Go Go.RowKit Go.Proofs Go.Proofs.YtgfkeadgjkfomaaGreatDoor.Vc Go.ChangeShapes Go.WideShapes Go.Deep Go.ChangeAt
set_option maxRecDepth 100000

theorem sequenceChecks_plain(f:FuncId)(fn:Func)(hf:Tryz.pinned.checked.prog.funcNamed Rows.sequenceChecksRow.func=some f)(b:Tryz.pinned.checked.prog.funcs[f]? =some fn):
  true=Tryz.pinned.checked.prog.looks []/\∀(j:Nat) t,fn.params[j]? =some t->Tryz.pinned.checked.prog.wantsStandIn t=false:=by
 obtain rfl:f=5:=BM ((show Tryz.prog.funcNamed Rows.sequenceChecksRow.func=some 5 by kernel_rfl).symm.trans hf)|>.symm;obtain rfl:fn=Tryz.f5:=(BM (Tryz.func5.symm.trans b)).symm;refine⟨kF,fun j t a=> ?_⟩;have c:Tryz.f5.params= #[28,29,30,48,48]:=kF;rw[c]at a;have d:(#[28,29,30,48,48]:Array TypeId).all (fun t=>Tryz.prog.wantsStandIn t==false)=true:=kF;have:=PE.1 d t (vf a);exact eq_of_beq this
end Go.Proofs.YtgfkeadgjkfomaaGreatDoor.B
namespace Go.Proofs.YtgfkeadgjkfomaaGreatDoor
open B
theorem sequenceChecks_card:Rows.SequenceChecksCardSaid:=
 Claim7.holds_tied_plain_at .later [] _ _ _ _ sequenceChecks_said (fun _ h=>by cases h) kF (fun _ h=>by cases h) sequenceChecks_row_tie rfl ⟨rfl,rfl⟩ kF rfl sequenceChecks_plain kF
end Go.Proofs.YtgfkeadgjkfomaaGreatDoor
