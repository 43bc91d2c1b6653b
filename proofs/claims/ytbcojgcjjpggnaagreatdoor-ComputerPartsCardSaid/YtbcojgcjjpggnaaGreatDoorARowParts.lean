/- The statement ComputerParts, its row. -/
import Derived.Test.YtbcojgcjjpggnaaGreatDoorA13
set_option linter.unusedVariables false
set_option linter.unusedSimpArgs false
namespace Go.Proofs.YtbcojgcjjpggnaaGreatDoor.B
open Go Go.RowKit Go.Proofs Go.Proofs.YtbcojgcjjpggnaaGreatDoor.Vc Go.ChangeShapes Go.WideShapes Go.Deep Go.ChangeAt
set_option maxRecDepth 100000

theorem computerParts_witness(os:Os){H:Type}(enc:TypeId×Value->H):
  (OpenSpec.ofChange Rows.computerPartsSpec).preRow enc Tryz.prog Tryz.f5 Rows.computerPartsRow.domain false Rows.computerPartsRow.laid ((jU os).forCall (fun _ _=>0) ⟨#[],#[.slice none 0 0,.int .u8 0],[]⟩).memory #[.slice none 0 0,.int .u8 0]:=by
 have hw:(DataW.whole enc Tryz.prog ((jU os).forCall (fun _ _=>0) ⟨#[],#[.slice none 0 0,.int .u8 0],[]⟩).memory Tryz.f5.params.toList Rows.computerPartsSpec.vars false (#[.slice none 0 0,.int .u8 0]:Array Value).toList 8).map (fun x=>(x.1,x.2.1))=
   some ([.nil,.lit (.int .u8 0)],[]):=kF
 obtain⟨⟨c,d,e⟩,hx,a⟩:=oi.1 hw;simp only[TM]at a;obtain⟨rfl,rfl⟩:=a;exact OpenSpec.preRow_of_cond 8 hx kF (fun k b=>by cases b) kF (Jc os _)

theorem computerParts_lifted(os:Os)(started:os.Started)(H:Type)(enc:TypeId×Value->H)(F:Stop.Interp):
  ReturnsInHanded {} Tryz.checked os 5 .any ((OpenSpec.ofChange Rows.computerPartsSpec).preRow enc Tryz.prog Tryz.f5 Rows.computerPartsRow.domain false Rows.computerPartsRow.laid) (((OpenSpec.ofChange Rows.computerPartsSpec).at F).post enc Tryz.prog Tryz.f5 false true false false):=by
 refine returnsInHanded_of_row (C:=Tryz.checked) (s:=OpenSpec.ofChange Rows.computerPartsSpec) own started kF Tryz.func5
  (witness_row_atRef (enc:=enc) (C:=Tryz.checked) false (jU os) #[.slice none 0 0,.int .u8 0] rfl (CH os _) (CI os _) kF (computerParts_witness os enc)) ?_
 intro W base args i gs before k f _ _ u l m _;have a:∀(j:Nat) t v,Tryz.f5.params[j]? =some t->args[j]? =some v->Value.okWide Tryz.prog W .any base t v:=k
 have b:=f;obtain⟨p,q,c,d,rfl,_,_⟩:=f;have g:Tryz.f5.params= #[22,5]:=kF;have h:DataW.TrodAll enc Tryz.prog W 0 (fun _=>true) true Tryz.f5.params.toList args.toList i p:=c;rw[g]at h a;obtain⟨v0,v1,d0,d1,w,p1,rfl,rfl,rfl,n,h1⟩:=trodAll_two h;obtain⟨rfl,rfl⟩:=trodVars_none d;obtain⟨A0,n0,c0,o,rfl,r,e⟩:=GK (a 0 _ v0 rfl rfl) n;obtain⟨z1,rfl,i1⟩:=VT (a 1 _ v1 rfl rfl) h1;exact Jb (s:=Rows.computerPartsSpec) laidOut b rfl (tb:=4) kF kF (by rw[g];decide+kernel) rfl (Jg (MH l m) r i1 e)

theorem computerParts_k1:(Rows.computerPartsRow.inPlace==Tryz.pinned.checked.prog.inPlace 5)=true:=kF
theorem computerParts_k2:(Rows.computerPartsRow.unfollowed==Tryz.pinned.checked.prog.unfollowed 5)=true:=kF
theorem computerParts_k3:(Rows.computerPartsRow.recurses==Tryz.pinned.checked.prog.recurses 5)=true:=kF
theorem computerParts_k4:(Rows.computerPartsRow.named==Tryz.pinned.checked.prog.varsNamed 5)=true:=kF
theorem computerParts_closed:joinedFacts Tryz.pinned.checked.prog 5 Tryz.f5 (OpenSpec.ofChange Rows.computerPartsSpec).bare Rows.computerPartsRow=true:=by
 unfold joinedFacts
 repeat' with_reducible refine Xy ?_ ?_
 all_goals first|with_reducible exact Ey|with_reducible exact Ez|with_reducible exact computerParts_k1|with_reducible exact computerParts_k2|with_reducible exact computerParts_k3|with_reducible exact computerParts_k4|kernel_rfl
theorem computerParts_wraps:Tryz.f5.isInstance Tryz.pinned.checked.prog Rows.computerPartsRow.origin Rows.computerPartsRow.targs/\Tryz.f5.isWrapper Tryz.pinned.checked.prog Rows.computerPartsRow.wrapper Rows.computerPartsRow.mainSum:=
 ⟨eR kF,by unfold Func.isWrapper;first|(rw[bb (by decide+kernel)];kernel_rfl)|(rw[aq (by decide+kernel)];exact⟨rfl,rfl⟩)⟩
theorem computerParts_said:Rows.ComputerPartsSaid:=
 OpenClaim.holds_of_cond 5 Tryz.f5 rfl rfl rfl rfl rfl rfl rfl ⟨rfl,rfl,rfl,rfl,rfl⟩ rfl rfl rfl rfl rfl kF Tryz.func5 computerParts_closed computerParts_wraps.1 computerParts_wraps.2
  (fun os started H enc _ F=>by rw[OpenClaim.pre_eq_preRow];exact computerParts_lifted os started H enc F)
end Go.Proofs.YtbcojgcjjpggnaaGreatDoor.B
