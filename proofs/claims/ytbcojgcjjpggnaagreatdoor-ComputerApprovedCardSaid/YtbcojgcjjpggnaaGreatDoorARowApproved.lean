/- The statement ComputerApproved, its row. -/
import Derived.Test.YtbcojgcjjpggnaaGreatDoorA13
set_option linter.unusedVariables false
set_option linter.unusedSimpArgs false
namespace Go.Proofs.YtbcojgcjjpggnaaGreatDoor.B
open Go Go.RowKit Go.Proofs Go.Proofs.YtbcojgcjjpggnaaGreatDoor.Vc Go.ChangeShapes Go.WideShapes Go.Deep Go.ChangeAt
set_option maxRecDepth 100000

theorem computerApproved_witness(os:Os){H:Type}(enc:TypeId×Value->H):
  (OpenSpec.ofChange Rows.computerApprovedSpec).preRow enc Tryz.prog Tryz.f4 Rows.computerApprovedRow.domain false Rows.computerApprovedRow.laid ((jU os).forCall (fun _ _=>0) ⟨#[],#[.slice none 0 0],[]⟩).memory #[.slice none 0 0]:=by
 have hw:(DataW.whole enc Tryz.prog ((jU os).forCall (fun _ _=>0) ⟨#[],#[.slice none 0 0],[]⟩).memory Tryz.f4.params.toList Rows.computerApprovedSpec.vars false (#[.slice none 0 0]:Array Value).toList 8).map (fun x=>(x.1,x.2.1))=
   some ([.nil],[]):=kF
 obtain⟨⟨c,d,e⟩,hx,a⟩:=oi.1 hw;simp only[TM]at a;obtain⟨rfl,rfl⟩:=a;exact OpenSpec.preRow_of_cond 8 hx kF (fun k b=>by cases b) kF (Jc os _)

theorem computerApproved_lifted(os:Os)(started:os.Started)(H:Type)(enc:TypeId×Value->H)(F:Stop.Interp):
  ReturnsInHanded {} Tryz.checked os 4 .any ((OpenSpec.ofChange Rows.computerApprovedSpec).preRow enc Tryz.prog Tryz.f4 Rows.computerApprovedRow.domain false Rows.computerApprovedRow.laid) (((OpenSpec.ofChange Rows.computerApprovedSpec).at F).post enc Tryz.prog Tryz.f4 false true false false):=by
 refine returnsInHanded_of_row (C:=Tryz.checked) (s:=OpenSpec.ofChange Rows.computerApprovedSpec) own started kF Tryz.func4
  (witness_row_atRef (enc:=enc) (C:=Tryz.checked) false (jU os) #[.slice none 0 0] rfl (CH os _) (CI os _) kF (computerApproved_witness os enc)) ?_
 intro W base args h gs before i d _ _ r k l _;have e:∀(j:Nat) t v,Tryz.f4.params[j]? =some t->args[j]? =some v->Value.okWide Tryz.prog W .any base t v:=i
 have a:=d;obtain⟨p,q,b,c,rfl,_,_⟩:=d;have f:Tryz.f4.params= #[22]:=kF;have g:DataW.TrodAll enc Tryz.prog W 0 (fun _=>true) true Tryz.f4.params.toList args.toList h p:=b;rw[f]at g e;obtain⟨v0,d0,u,rfl,rfl,rfl,m⟩:=trodAll_one g;obtain⟨rfl,rfl⟩:=trodVars_none c;obtain⟨A0,n0,c0,n,rfl,o⟩:=Jf (e 0 _ v0 rfl rfl) m;exact Jb (s:=Rows.computerApprovedSpec) laidOut a rfl (tb:=4) kF kF (by rw[f];decide+kernel) rfl (CG (MH k l) o)

theorem computerApproved_k1:(Rows.computerApprovedRow.inPlace==Tryz.pinned.checked.prog.inPlace 4)=true:=kF
theorem computerApproved_k2:(Rows.computerApprovedRow.unfollowed==Tryz.pinned.checked.prog.unfollowed 4)=true:=kF
theorem computerApproved_k3:(Rows.computerApprovedRow.recurses==Tryz.pinned.checked.prog.recurses 4)=true:=kF
theorem computerApproved_k4:(Rows.computerApprovedRow.named==Tryz.pinned.checked.prog.varsNamed 4)=true:=kF
theorem computerApproved_closed:joinedFacts Tryz.pinned.checked.prog 4 Tryz.f4 (OpenSpec.ofChange Rows.computerApprovedSpec).bare Rows.computerApprovedRow=true:=by
 unfold joinedFacts
 repeat' with_reducible refine Xy ?_ ?_
 all_goals first|with_reducible exact Ey|with_reducible exact Ez|with_reducible exact computerApproved_k1|with_reducible exact computerApproved_k2|with_reducible exact computerApproved_k3|with_reducible exact computerApproved_k4|kernel_rfl
theorem computerApproved_wraps:Tryz.f4.isInstance Tryz.pinned.checked.prog Rows.computerApprovedRow.origin Rows.computerApprovedRow.targs/\Tryz.f4.isWrapper Tryz.pinned.checked.prog Rows.computerApprovedRow.wrapper Rows.computerApprovedRow.mainSum:=
 ⟨eR kF,by unfold Func.isWrapper;first|(rw[bb (by decide+kernel)];kernel_rfl)|(rw[aq (by decide+kernel)];exact⟨rfl,rfl⟩)⟩
theorem computerApproved_said:Rows.ComputerApprovedSaid:=
 OpenClaim.holds_of_cond 4 Tryz.f4 rfl rfl rfl rfl rfl rfl rfl ⟨rfl,rfl,rfl,rfl,rfl⟩ rfl rfl rfl rfl rfl kF Tryz.func4 computerApproved_closed computerApproved_wraps.1 computerApproved_wraps.2
  (fun os started H enc _ F=>by rw[OpenClaim.pre_eq_preRow];exact computerApproved_lifted os started H enc F)
end Go.Proofs.YtbcojgcjjpggnaaGreatDoor.B
