/- The statement ComputerParts holds: folding in two parts is folding at once, and a state of a tick does not depend on later events. No condition beyond the card's own. -/
import Derived.Test.YtbcojgcjjpggnaaGreatDoorA13
import Derived.Test.YtbcojgcjjpggnaaGreatDoorARowParts
set_option linter.unusedVariables false
set_option linter.unusedSimpArgs false
namespace Go.Proofs.YtbcojgcjjpggnaaGreatDoor.B
open Go Go.RowKit Go.Proofs Go.Proofs.YtbcojgcjjpggnaaGreatDoor.Vc Go.ChangeShapes Go.WideShapes Go.Deep Go.ChangeAt
set_option maxRecDepth 100000

theorem computerParts_plain(f:FuncId)(fn:Func)(hf:Tryz.pinned.checked.prog.funcNamed Rows.computerPartsRow.func=some f)(a:Tryz.pinned.checked.prog.funcs[f]? =some fn):
  true=Tryz.pinned.checked.prog.looks []/\∀(j:Nat) t,fn.params[j]? =some t->Tryz.pinned.checked.prog.wantsStandIn t=false:=by
 obtain rfl:f=5:=HU ((show Tryz.prog.funcNamed Rows.computerPartsRow.func=some 5 by kernel_rfl).symm.trans hf)|>.symm;obtain rfl:fn=Tryz.f5:=(HU (Tryz.func5.symm.trans a)).symm;refine⟨kF,fun j t b=> ?_⟩;have c:Tryz.f5.params= #[22,5]:=kF;rw[c]at b;have d:(#[22,5]:Array TypeId).all (fun t=>Tryz.prog.wantsStandIn t==false)=true:=kF;have:=Array.all_eq_true'.1 d t (Cb b);exact eq_of_beq this
end Go.Proofs.YtbcojgcjjpggnaaGreatDoor.B
namespace Go.Proofs.YtbcojgcjjpggnaaGreatDoor
open B
theorem computerParts_card:Rows.ComputerPartsCardSaid:=
 Claim7.holds_tied_plain_at .later [] _ _ _ _ computerParts_said (fun _ h=>by cases h) kF (fun _ h=>by cases h) computerParts_row_tie rfl ⟨rfl,rfl⟩ kF rfl computerParts_plain (MJ MK rfl)
end Go.Proofs.YtbcojgcjjpggnaaGreatDoor
