/- The statement ComputerWatched holds: lamps change by samples and by seeing alone, as the alarms say for the new values. No condition beyond the card's own. -/
import Derived.Test.YtbcojgcjjpggnaaGreatDoorK13
import Derived.Test.YtbcojgcjjpggnaaGreatDoorKRowWatched
set_option linter.unusedVariables false
set_option linter.unusedSimpArgs false
namespace Go.Proofs.YtbcojgcjjpggnaaGreatDoor.B
open Go Go.RowKit Go.Proofs Go.Proofs.YtbcojgcjjpggnaaGreatDoor.Vc Go.ChangeShapes Go.WideShapes Go.Deep Go.ChangeAt
set_option maxRecDepth 100000

theorem computerWatched_plain(f:FuncId)(fn:Func)(hf:Tryz.pinned.checked.prog.funcNamed Rows.computerWatchedRow.func=some f)(a:Tryz.pinned.checked.prog.funcs[f]? =some fn):
  true=Tryz.pinned.checked.prog.looks []/\∀(j:Nat) t,fn.params[j]? =some t->Tryz.pinned.checked.prog.wantsStandIn t=false:=by
 obtain rfl:f=6:=Gq ((show Tryz.prog.funcNamed Rows.computerWatchedRow.func=some 6 by kernel_rfl).symm.trans hf)|>.symm;obtain rfl:fn=Tryz.f6:=(Gq (Tryz.func6.symm.trans a)).symm;refine⟨kF,fun j t b=> ?_⟩;have c:Tryz.f6.params= #[22]:=kF;rw[c]at b;have d:(#[22]:Array TypeId).all (fun t=>Tryz.prog.wantsStandIn t==false)=true:=kF;have:=Array.all_eq_true'.1 d t (B4 b);exact eq_of_beq this
end Go.Proofs.YtbcojgcjjpggnaaGreatDoor.B
namespace Go.Proofs.YtbcojgcjjpggnaaGreatDoor
open B
theorem computerWatched_card:Rows.ComputerWatchedCardSaid:=
 Claim7.holds_tied_plain_at .later [] _ _ _ _ computerWatched_said (fun _ h=>by cases h) kF (fun _ h=>by cases h) computerWatched_row_tie rfl ⟨rfl,rfl⟩ kF rfl computerWatched_plain (MP MQ rfl)
end Go.Proofs.YtbcojgcjjpggnaaGreatDoor
