/- The statement SequenceFree holds: without rules, and with holds that can take everything, any order of steps that only put in is one, if there are enough units. No condition beyond the card's own. -/
import Derived.Test.YtgfkeadgjkfomaaGreatDoorH11
import Derived.Test.YtgfkeadgjkfomaaGreatDoorHRowFree
set_option linter.unusedVariables false
set_option linter.unusedSimpArgs false
namespace Go.Proofs.YtgfkeadgjkfomaaGreatDoor.B
open Go Go.RowKit Go.Proofs Go.Proofs.YtgfkeadgjkfomaaGreatDoor.Vc Go.ChangeShapes Go.WideShapes Go.Deep Go.ChangeAt
set_option maxRecDepth 100000

theorem sequenceFree_plain(f:FuncId)(fn:Func)(hf:Tryz.pinned.checked.prog.funcNamed Rows.sequenceFreeRow.func=some f)(hfn:Tryz.pinned.checked.prog.funcs[f]? =some fn):
  true=Tryz.pinned.checked.prog.looks []/\∀(j:Nat) t,fn.params[j]? =some t->Tryz.pinned.checked.prog.wantsStandIn t=false:=by
 obtain rfl:f=7:=Option.some.inj ((show Tryz.prog.funcNamed Rows.sequenceFreeRow.func=some 7 by kernel_rfl).symm.trans hf)|>.symm
 obtain rfl:fn=Tryz.f7:=(Option.some.inj (Tryz.func7.symm.trans hfn)).symm
 refine⟨by kernel_rfl,fun j t ht=> ?_⟩
 have hps:Tryz.f7.params= #[28,30,48]:=by kernel_rfl
 rw[hps]at ht
 have hall:(#[28,30,48]:Array TypeId).all (fun t=>Tryz.prog.wantsStandIn t==false)=true:=by kernel_rfl
 have:=Array.all_eq_true'.1 hall t (Array.mem_of_getElem? ht)
 exact eq_of_beq this
end Go.Proofs.YtgfkeadgjkfomaaGreatDoor.B
namespace Go.Proofs.YtgfkeadgjkfomaaGreatDoor
open B
theorem sequenceFree_card:Rows.SequenceFreeCardSaid:=
 Claim7.holds_tied_plain_at .later [] _ _ _ _ sequenceFree_said (fun _ h=>by cases h) (by kernel_rfl) (fun _ h=>by cases h) sequenceFree_row_tie rfl ⟨rfl,rfl⟩ (by kernel_rfl) rfl sequenceFree_plain (by kernel_rfl)
end Go.Proofs.YtgfkeadgjkfomaaGreatDoor
