/- The statement ComputerApproved holds: each step that was done was approved by a signer with the role 2 and one with the role 3, in its last 1000 ticks. No condition beyond the card's own. -/
import Derived.Test.YtbcojgcjjpggnaaGreatDoorA13
import Derived.Test.YtbcojgcjjpggnaaGreatDoorARowApproved
set_option linter.unusedVariables false
set_option linter.unusedSimpArgs false
namespace Go.Proofs.YtbcojgcjjpggnaaGreatDoor.B
open Go Go.RowKit Go.Proofs Go.Proofs.YtbcojgcjjpggnaaGreatDoor.Vc Go.ChangeShapes Go.WideShapes Go.Deep Go.ChangeAt
set_option maxRecDepth 100000

theorem computerApproved_plain(f:FuncId)(fn:Func)(hf:Tryz.pinned.checked.prog.funcNamed Rows.computerApprovedRow.func=some f)(a:Tryz.pinned.checked.prog.funcs[f]? =some fn):
  true=Tryz.pinned.checked.prog.looks []/\∀(j:Nat) t,fn.params[j]? =some t->Tryz.pinned.checked.prog.wantsStandIn t=false:=by
 obtain rfl:f=4:=HU ((show Tryz.prog.funcNamed Rows.computerApprovedRow.func=some 4 by kernel_rfl).symm.trans hf)|>.symm;obtain rfl:fn=Tryz.f4:=(HU (Tryz.func4.symm.trans a)).symm;refine⟨kF,fun j t b=> ?_⟩;have c:Tryz.f4.params= #[22]:=kF;rw[c]at b;have d:(#[22]:Array TypeId).all (fun t=>Tryz.prog.wantsStandIn t==false)=true:=kF;have:=Array.all_eq_true'.1 d t (Cb b);exact eq_of_beq this
end Go.Proofs.YtbcojgcjjpggnaaGreatDoor.B
namespace Go.Proofs.YtbcojgcjjpggnaaGreatDoor
open B
theorem computerApproved_card:Rows.ComputerApprovedCardSaid:=
 Claim7.holds_tied_plain_at .later [] _ _ _ _ computerApproved_said (fun _ h=>by cases h) kF (fun _ h=>by cases h) computerApproved_row_tie rfl ⟨rfl,rfl⟩ kF rfl computerApproved_plain (MJ MK rfl)
end Go.Proofs.YtbcojgcjjpggnaaGreatDoor
