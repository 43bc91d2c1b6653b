/- The statement ComputerWatched, its row. -/
import Derived.Test.YtbcojgcjjpggnaaGreatDoorK13
set_option linter.unusedVariables false
set_option linter.unusedSimpArgs false
namespace Go.Proofs.YtbcojgcjjpggnaaGreatDoor.B
open Go Go.RowKit Go.Proofs Go.Proofs.YtbcojgcjjpggnaaGreatDoor.Vc Go.ChangeShapes Go.WideShapes Go.Deep Go.ChangeAt
set_option maxRecDepth 100000

theorem computerWatched_witness(os:Os){H:Type}(enc:TypeId×Value->H):
  (OpenSpec.ofChange Rows.computerWatchedSpec).preRow enc Tryz.prog Tryz.f6 Rows.computerWatchedRow.domain false Rows.computerWatchedRow.laid ((jW os).forCall (fun _ _=>0) ⟨#[],#[.slice none 0 0],[]⟩).memory #[.slice none 0 0]:=by
 have hw:(DataW.whole enc Tryz.prog ((jW os).forCall (fun _ _=>0) ⟨#[],#[.slice none 0 0],[]⟩).memory Tryz.f6.params.toList Rows.computerWatchedSpec.vars false (#[.slice none 0 0]:Array Value).toList 8).map (fun x=>(x.1,x.2.1))=
   some ([.nil],[]):=kF
 obtain⟨⟨c,d,e⟩,hx,a⟩:=ob.1 hw;simp only[SU]at a;obtain⟨rfl,rfl⟩:=a;exact OpenSpec.preRow_of_cond 8 hx kF (fun k b=>by cases b) kF (Jj os _)

theorem computerWatched_lifted(os:Os)(started:os.Started)(H:Type)(enc:TypeId×Value->H)(F:Stop.Interp):
  ReturnsInHanded {} Tryz.checked os 6 .any ((OpenSpec.ofChange Rows.computerWatchedSpec).preRow enc Tryz.prog Tryz.f6 Rows.computerWatchedRow.domain false Rows.computerWatchedRow.laid) (((OpenSpec.ofChange Rows.computerWatchedSpec).at F).post enc Tryz.prog Tryz.f6 false true false false):=by
 refine returnsInHanded_of_row (C:=Tryz.checked) (s:=OpenSpec.ofChange Rows.computerWatchedSpec) own started kF Tryz.func6
  (witness_row_atRef (enc:=enc) (C:=Tryz.checked) false (jW os) #[.slice none 0 0] rfl (CN os _) (CO os _) kF (computerWatched_witness os enc)) ?_
 intro W base args g gs before h c _ _ r i k _;have d:∀(j:Nat) t v,Tryz.f6.params[j]? =some t->args[j]? =some v->Value.okWide Tryz.prog W .any base t v:=h
 have l:=c;obtain⟨p,q,a,b,rfl,_,_⟩:=c;have e:Tryz.f6.params= #[22]:=kF;have f:DataW.TrodAll enc Tryz.prog W 0 (fun _=>true) true Tryz.f6.params.toList args.toList g p:=a;rw[e]at f d;obtain⟨v0,d0,u,rfl,rfl,rfl,m⟩:=trodAll_one f;obtain⟨rfl,rfl⟩:=trodVars_none b;obtain⟨A0,n0,c0,n,rfl,o⟩:=zJ (d 0 _ v0 rfl rfl) m;exact Ji (s:=Rows.computerWatchedSpec) laidOut l rfl (tb:=4) kF kF (by rw[e];decide+kernel) rfl (Dy (MN i k) o)

theorem computerWatched_k1:(Rows.computerWatchedRow.inPlace==Tryz.pinned.checked.prog.inPlace 6)=true:=kF
theorem computerWatched_k2:(Rows.computerWatchedRow.unfollowed==Tryz.pinned.checked.prog.unfollowed 6)=true:=kF
theorem computerWatched_k3:(Rows.computerWatchedRow.recurses==Tryz.pinned.checked.prog.recurses 6)=true:=kF
theorem computerWatched_k4:(Rows.computerWatchedRow.named==Tryz.pinned.checked.prog.varsNamed 6)=true:=kF
theorem computerWatched_closed:joinedFacts Tryz.pinned.checked.prog 6 Tryz.f6 (OpenSpec.ofChange Rows.computerWatchedSpec).bare Rows.computerWatchedRow=true:=by
 unfold joinedFacts
 repeat' with_reducible refine XN ?_ ?_
 all_goals first|with_reducible exact EA|with_reducible exact EB|with_reducible exact computerWatched_k1|with_reducible exact computerWatched_k2|with_reducible exact computerWatched_k3|with_reducible exact computerWatched_k4|kernel_rfl
theorem computerWatched_wraps:Tryz.f6.isInstance Tryz.pinned.checked.prog Rows.computerWatchedRow.origin Rows.computerWatchedRow.targs/\Tryz.f6.isWrapper Tryz.pinned.checked.prog Rows.computerWatchedRow.wrapper Rows.computerWatchedRow.mainSum:=
 ⟨fk kF,by unfold Func.isWrapper;first|(rw[bm (by decide+kernel)];kernel_rfl)|(rw[aq (by decide+kernel)];exact⟨rfl,rfl⟩)⟩
theorem computerWatched_said:Rows.ComputerWatchedSaid:=
 OpenClaim.holds_of_cond 6 Tryz.f6 rfl rfl rfl rfl rfl rfl rfl ⟨rfl,rfl,rfl,rfl,rfl⟩ rfl rfl rfl rfl rfl kF Tryz.func6 computerWatched_closed computerWatched_wraps.1 computerWatched_wraps.2
  (fun os started H enc _ F=>by rw[OpenClaim.pre_eq_preRow];exact computerWatched_lifted os started H enc F)
end Go.Proofs.YtbcojgcjjpggnaaGreatDoor.B
