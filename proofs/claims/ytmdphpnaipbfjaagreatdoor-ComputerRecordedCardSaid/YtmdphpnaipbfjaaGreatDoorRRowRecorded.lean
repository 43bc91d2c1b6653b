/- The statement ComputerRecorded, its row. -/
import Derived.Test.YtmdphpnaipbfjaaGreatDoorR13
set_option linter.unusedVariables false
set_option linter.unusedSimpArgs false
namespace Go.Proofs.YtmdphpnaipbfjaaGreatDoor.B
open Go Go.RowKit Go.Proofs Go.Proofs.YtmdphpnaipbfjaaGreatDoor.Vc Go.ChangeShapes Go.WideShapes Go.Deep Go.ChangeAt
set_option maxRecDepth 100000

theorem computerRecorded_witness(os:Os){H:Type}(enc:TypeId×Value->H):
  (OpenSpec.ofChange Rows.computerRecordedSpec).preRow enc Tryz.prog Tryz.f3 Rows.computerRecordedRow.domain false Rows.computerRecordedRow.laid ((qc os).forCall (fun _ _=>0) ⟨#[],#[.slice none 0 0],[]⟩).memory #[.slice none 0 0]:=by
 have hw:(DataW.whole enc Tryz.prog ((qc os).forCall (fun _ _=>0) ⟨#[],#[.slice none 0 0],[]⟩).memory Tryz.f3.params.toList Rows.computerRecordedSpec.vars false (#[.slice none 0 0]:Array Value).toList 8).map (fun x=>(x.1,x.2.1))=
   some ([.nil],[]):=kF
 obtain⟨⟨x1,x2,c⟩,hx,a⟩:=va.1 hw;simp only[Prod.mk.injEq]at a;obtain⟨rfl,rfl⟩:=a;exact OpenSpec.preRow_of_cond 8 hx kF (fun k b=>by cases b) kF (Uz os _)

theorem computerRecorded_lifted(os:Os)(started:os.Started)(H:Type)(enc:TypeId×Value->H)(F:Stop.Interp):
  ReturnsInHanded {} Tryz.checked os 3 .any ((OpenSpec.ofChange Rows.computerRecordedSpec).preRow enc Tryz.prog Tryz.f3 Rows.computerRecordedRow.domain false Rows.computerRecordedRow.laid) (((OpenSpec.ofChange Rows.computerRecordedSpec).at F).post enc Tryz.prog Tryz.f3 false true false false):=by
 refine returnsInHanded_of_row (C:=Tryz.checked) (s:=OpenSpec.ofChange Rows.computerRecordedSpec) own started kF Tryz.func3
  (witness_row_atRef (enc:=enc) (C:=Tryz.checked) false (qc os) #[.slice none 0 0] rfl (No os _) (Np os _) kF (computerRecorded_witness os enc)) ?_
 intro W base args i gs before b f _ _ r k l _;have g:∀(j:Nat) t v,Tryz.f3.params[j]? =some t->args[j]? =some v->Value.okWide Tryz.prog W .any base t v:=b
 have c:=f;obtain⟨p,q,d,e,rfl,_,_⟩:=f;have a:Tryz.f3.params= #[22]:=kF;have h:DataW.TrodAll enc Tryz.prog W 0 (fun _=>true) true Tryz.f3.params.toList args.toList i p:=d;rw[a]at h g;obtain⟨v0,d0,u,rfl,rfl,rfl,m⟩:=trodAll_one h;obtain⟨rfl,rfl⟩:=trodVars_none e;obtain⟨A0,n0,c0,n,rfl,o⟩:=KF (g 0 _ v0 rfl rfl) m;exact Ux (s:=Rows.computerRecordedSpec) laidOut c rfl (tb:=4) kF kF (by rw[a];decide+kernel) rfl (Ee (Yf k l) o)

theorem computerRecorded_k1:(Rows.computerRecordedRow.inPlace==Tryz.pinned.checked.prog.inPlace 3)=true:=kF
theorem computerRecorded_k2:(Rows.computerRecordedRow.unfollowed==Tryz.pinned.checked.prog.unfollowed 3)=true:=kF
theorem computerRecorded_k3:(Rows.computerRecordedRow.recurses==Tryz.pinned.checked.prog.recurses 3)=true:=kF
theorem computerRecorded_k4:(Rows.computerRecordedRow.named==Tryz.pinned.checked.prog.varsNamed 3)=true:=kF
theorem computerRecorded_closed:joinedFacts Tryz.pinned.checked.prog 3 Tryz.f3 (OpenSpec.ofChange Rows.computerRecordedSpec).bare Rows.computerRecordedRow=true:=by
 unfold joinedFacts
 repeat' with_reducible refine ag2 ?_ ?_
 all_goals first|with_reducible exact Qp|with_reducible exact Qq|with_reducible exact computerRecorded_k1|with_reducible exact computerRecorded_k2|with_reducible exact computerRecorded_k3|with_reducible exact computerRecorded_k4|kernel_rfl
theorem computerRecorded_wraps:Tryz.f3.isInstance Tryz.pinned.checked.prog Rows.computerRecordedRow.origin Rows.computerRecordedRow.targs/\Tryz.f3.isWrapper Tryz.pinned.checked.prog Rows.computerRecordedRow.wrapper Rows.computerRecordedRow.mainSum:=
 ⟨fs kF,by unfold Func.isWrapper;first|(rw[bm (by decide+kernel)];kernel_rfl)|(rw[aq (by decide+kernel)];exact⟨rfl,rfl⟩)⟩
theorem computerRecorded_said:Rows.ComputerRecordedSaid:=
 OpenClaim.holds_of_cond 3 Tryz.f3 rfl rfl rfl rfl rfl rfl rfl ⟨rfl,rfl,rfl,rfl,rfl⟩ rfl rfl rfl rfl rfl kF Tryz.func3 computerRecorded_closed computerRecorded_wraps.1 computerRecorded_wraps.2
  (fun os started H enc _ F=>by rw[OpenClaim.pre_eq_preRow];exact computerRecorded_lifted os started H enc F)
end Go.Proofs.YtmdphpnaipbfjaaGreatDoor.B
