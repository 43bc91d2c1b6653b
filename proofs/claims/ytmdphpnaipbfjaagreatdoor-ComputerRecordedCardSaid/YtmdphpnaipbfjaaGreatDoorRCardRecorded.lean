/- The statement ComputerRecorded holds: the state of a record that was written and recovered is that of its events. No condition beyond the card's own. -/
import Derived.Test.YtmdphpnaipbfjaaGreatDoorR13
import Derived.Test.YtmdphpnaipbfjaaGreatDoorRRowRecorded
set_option linter.unusedVariables false
set_option linter.unusedSimpArgs false
namespace Go.Proofs.YtmdphpnaipbfjaaGreatDoor.B
open Go Go.RowKit Go.Proofs Go.Proofs.YtmdphpnaipbfjaaGreatDoor.Vc Go.ChangeShapes Go.WideShapes Go.Deep Go.ChangeAt
set_option maxRecDepth 100000

theorem computerRecorded_plain(f:FuncId)(fn:Func)(hf:Tryz.pinned.checked.prog.funcNamed Rows.computerRecordedRow.func=some f)(a:Tryz.pinned.checked.prog.funcs[f]? =some fn):
  true=Tryz.pinned.checked.prog.looks []/\∀(j:Nat) t,fn.params[j]? =some t->Tryz.pinned.checked.prog.wantsStandIn t=false:=by
 obtain rfl:f=3:=Hc ((show Tryz.prog.funcNamed Rows.computerRecordedRow.func=some 3 by kernel_rfl).symm.trans hf)|>.symm;obtain rfl:fn=Tryz.f3:=(Hc (Tryz.func3.symm.trans a)).symm;refine⟨kF,fun j t c=> ?_⟩;have b:Tryz.f3.params= #[22]:=kF;rw[b]at c;have d:(#[22]:Array TypeId).all (fun t=>Tryz.prog.wantsStandIn t==false)=true:=kF;have:=Array.all_eq_true'.1 d t (LA c);exact eq_of_beq this
end Go.Proofs.YtmdphpnaipbfjaaGreatDoor.B
namespace Go.Proofs.YtmdphpnaipbfjaaGreatDoor
open B
theorem computerRecorded_card:Rows.ComputerRecordedCardSaid:=
 Claim7.holds_tied_plain_at .later [] _ _ _ _ computerRecorded_said (fun _ h=>by cases h) kF (fun _ h=>by cases h) computerRecorded_row_tie rfl ⟨rfl,rfl⟩ kF rfl computerRecorded_plain (Yg Yh rfl)
end Go.Proofs.YtmdphpnaipbfjaaGreatDoor
