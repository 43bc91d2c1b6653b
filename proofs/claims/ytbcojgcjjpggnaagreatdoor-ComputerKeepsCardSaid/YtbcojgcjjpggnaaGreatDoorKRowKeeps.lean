/- The statement ComputerKeeps, its row. -/
import Derived.Test.YtbcojgcjjpggnaaGreatDoorK13
set_option linter.unusedVariables false
set_option linter.unusedSimpArgs false
namespace Go.Proofs.YtbcojgcjjpggnaaGreatDoor.B
open Go Go.RowKit Go.Proofs Go.Proofs.YtbcojgcjjpggnaaGreatDoor.Vc Go.ChangeShapes Go.WideShapes Go.Deep Go.ChangeAt
set_option maxRecDepth 100000

theorem computerKeeps_witness(os:Os){H:Type}(enc:TypeId×Value->H):
  (OpenSpec.ofChange Rows.computerKeepsSpec).preRow enc Tryz.prog Tryz.f3 Rows.computerKeepsRow.domain false Rows.computerKeepsRow.laid ((jW os).forCall (fun _ _=>0) ⟨#[],#[.slice none 0 0],[]⟩).memory #[.slice none 0 0]:=by
 have hw:(DataW.whole enc Tryz.prog ((jW os).forCall (fun _ _=>0) ⟨#[],#[.slice none 0 0],[]⟩).memory Tryz.f3.params.toList Rows.computerKeepsSpec.vars false (#[.slice none 0 0]:Array Value).toList 8).map (fun x=>(x.1,x.2.1))=
   some ([.nil],[]):=kF
 obtain⟨⟨c,d,e⟩,hx,a⟩:=ob.1 hw;simp only[SU]at a;obtain⟨rfl,rfl⟩:=a;exact OpenSpec.preRow_of_cond 8 hx kF (fun k b=>by cases b) kF (Jj os _)

theorem computerKeeps_lifted(os:Os)(started:os.Started)(H:Type)(enc:TypeId×Value->H)(F:Stop.Interp):
  ReturnsInHanded {} Tryz.checked os 3 .any ((OpenSpec.ofChange Rows.computerKeepsSpec).preRow enc Tryz.prog Tryz.f3 Rows.computerKeepsRow.domain false Rows.computerKeepsRow.laid) (((OpenSpec.ofChange Rows.computerKeepsSpec).at F).post enc Tryz.prog Tryz.f3 false true false false):=by
 refine returnsInHanded_of_row (C:=Tryz.checked) (s:=OpenSpec.ofChange Rows.computerKeepsSpec) own started kF Tryz.func3
  (witness_row_atRef (enc:=enc) (C:=Tryz.checked) false (jW os) #[.slice none 0 0] rfl (CN os _) (CO os _) kF (computerKeeps_witness os enc)) ?_
 intro W base args g gs before h c _ _ r i k _;have d:∀(j:Nat) t v,Tryz.f3.params[j]? =some t->args[j]? =some v->Value.okWide Tryz.prog W .any base t v:=h
 have l:=c;obtain⟨p,q,a,b,rfl,_,_⟩:=c;have e:Tryz.f3.params= #[22]:=kF;have f:DataW.TrodAll enc Tryz.prog W 0 (fun _=>true) true Tryz.f3.params.toList args.toList g p:=a;rw[e]at f d;obtain⟨v0,d0,u,rfl,rfl,rfl,m⟩:=trodAll_one f;obtain⟨rfl,rfl⟩:=trodVars_none b;obtain⟨A0,n0,c0,n,rfl,o⟩:=zJ (d 0 _ v0 rfl rfl) m;exact Ji (s:=Rows.computerKeepsSpec) laidOut l rfl (tb:=4) kF kF (by rw[e];decide+kernel) rfl (Jh (MN i k) o)

theorem computerKeeps_k1:(Rows.computerKeepsRow.inPlace==Tryz.pinned.checked.prog.inPlace 3)=true:=kF
theorem computerKeeps_k2:(Rows.computerKeepsRow.unfollowed==Tryz.pinned.checked.prog.unfollowed 3)=true:=kF
theorem computerKeeps_k3:(Rows.computerKeepsRow.recurses==Tryz.pinned.checked.prog.recurses 3)=true:=kF
theorem computerKeeps_k4:(Rows.computerKeepsRow.named==Tryz.pinned.checked.prog.varsNamed 3)=true:=kF
theorem computerKeeps_closed:joinedFacts Tryz.pinned.checked.prog 3 Tryz.f3 (OpenSpec.ofChange Rows.computerKeepsSpec).bare Rows.computerKeepsRow=true:=by
 unfold joinedFacts
 repeat' with_reducible refine XN ?_ ?_
 all_goals first|with_reducible exact EA|with_reducible exact EB|with_reducible exact computerKeeps_k1|with_reducible exact computerKeeps_k2|with_reducible exact computerKeeps_k3|with_reducible exact computerKeeps_k4|kernel_rfl
theorem computerKeeps_wraps:Tryz.f3.isInstance Tryz.pinned.checked.prog Rows.computerKeepsRow.origin Rows.computerKeepsRow.targs/\Tryz.f3.isWrapper Tryz.pinned.checked.prog Rows.computerKeepsRow.wrapper Rows.computerKeepsRow.mainSum:=
 ⟨fk kF,by unfold Func.isWrapper;first|(rw[bm (by decide+kernel)];kernel_rfl)|(rw[aq (by decide+kernel)];exact⟨rfl,rfl⟩)⟩
theorem computerKeeps_said:Rows.ComputerKeepsSaid:=
 OpenClaim.holds_of_cond 3 Tryz.f3 rfl rfl rfl rfl rfl rfl rfl ⟨rfl,rfl,rfl,rfl,rfl⟩ rfl rfl rfl rfl rfl kF Tryz.func3 computerKeeps_closed computerKeeps_wraps.1 computerKeeps_wraps.2
  (fun os started H enc _ F=>by rw[OpenClaim.pre_eq_preRow];exact computerKeeps_lifted os started H enc F)
end Go.Proofs.YtbcojgcjjpggnaaGreatDoor.B
