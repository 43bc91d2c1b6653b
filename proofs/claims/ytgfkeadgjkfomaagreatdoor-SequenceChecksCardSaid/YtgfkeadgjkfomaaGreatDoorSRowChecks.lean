/- The statement SequenceChecks, its row. -/
import Derived.Test.YtgfkeadgjkfomaaGreatDoorS12
set_option linter.unusedVariables false
set_option linter.unusedSimpArgs false
namespace Go.Proofs.YtgfkeadgjkfomaaGreatDoor.B
open Go Go.RowKit Go.Proofs Go.Proofs.YtgfkeadgjkfomaaGreatDoor.Vc Go.ChangeShapes Go.WideShapes Go.Deep Go.ChangeAt
set_option maxRecDepth 100000

theorem sequenceChecks_witness(os:Os){H:Type}(enc:TypeId×Value->H):
  (OpenSpec.ofChange Rows.sequenceChecksSpec).preRow enc Tryz.prog Tryz.f5 Rows.sequenceChecksRow.domain false Rows.sequenceChecksRow.laid ((fQ os).forCall (fun _ _=>0) ⟨#[],#[.agg #[.slice none 0 0,.slice none 0 0,.slice none 0 0],.slice none 0 0,.slice none 0 0,.slice none 0 0,.slice none 0 0],[]⟩).memory #[.agg #[.slice none 0 0,.slice none 0 0,.slice none 0 0],.slice none 0 0,.slice none 0 0,.slice none 0 0,.slice none 0 0]:=by
 have hw:(DataW.whole enc Tryz.prog ((fQ os).forCall (fun _ _=>0) ⟨#[],#[.agg #[.slice none 0 0,.slice none 0 0,.slice none 0 0],.slice none 0 0,.slice none 0 0,.slice none 0 0,.slice none 0 0],[]⟩).memory Tryz.f5.params.toList Rows.sequenceChecksSpec.vars false (#[.agg #[.slice none 0 0,.slice none 0 0,.slice none 0 0],.slice none 0 0,.slice none 0 0,.slice none 0 0,.slice none 0 0]:Array Value).toList 8).map (fun x=>(x.1,x.2.1))=
   some ([.agg [.agg [.nil,.nil],.nil],.nil,.nil,.nil,.nil],[]):=kF
 obtain⟨⟨c,d,e⟩,hx,a⟩:=k7.1 hw;simp only[Oo]at a;obtain⟨rfl,rfl⟩:=a;exact OpenSpec.preRow_of_cond 8 hx kF (fun k b=>by cases b) kF (Bj os _)

theorem sequenceChecks_lifted(os:Os)(started:os.Started)(H:Type)(enc:TypeId×Value->H)(F:Stop.Interp):
  ReturnsInHanded {} Tryz.checked os 5 .any ((OpenSpec.ofChange Rows.sequenceChecksSpec).preRow enc Tryz.prog Tryz.f5 Rows.sequenceChecksRow.domain false Rows.sequenceChecksRow.laid) (((OpenSpec.ofChange Rows.sequenceChecksSpec).at F).post enc Tryz.prog Tryz.f5 false true false false):=by
 refine returnsInHanded_of_row (C:=Tryz.checked) (s:=OpenSpec.ofChange Rows.sequenceChecksSpec) own started kF Tryz.func5
  (witness_row_atRef (enc:=enc) (C:=Tryz.checked) false (fQ os) #[.agg #[.slice none 0 0,.slice none 0 0,.slice none 0 0],.slice none 0 0,.slice none 0 0,.slice none 0 0,.slice none 0 0] rfl (vy os _) (vz os _) kF (sequenceChecks_witness os enc)) ?_
 intro W base args f gs before g c _ _ J h i _;have a:∀(j:Nat) t v,Tryz.f5.params[j]? =some t->args[j]? =some v->Value.okWide Tryz.prog W .any base t v:=g
 have k:=c;obtain⟨p,q,l,m,rfl,_,_⟩:=c;have d:Tryz.f5.params= #[28,29,30,48,48]:=kF;have e:DataW.TrodAll enc Tryz.prog W 0 (fun _=>true) true Tryz.f5.params.toList args.toList f p:=l;rw[d]at e a;obtain⟨v0,v1,v2,v3,v4,d0,d1,d2,d3,d4,K,p1,L,M,N,rfl,rfl,rfl,h0,h1,h2,h3,h4⟩:=wR e;obtain⟨rfl,rfl⟩:=trodVars_none m;obtain⟨A0,n0,c0,n,o,r,u,w,x,ps,hs,xs,rfl,y⟩:=rE (a 0 _ v0 rfl rfl) h0;obtain⟨A1,n1,c1,O,rfl,z,A⟩:=rD (a 1 _ v1 rfl rfl) h1;obtain⟨A2,n2,c2,P,rfl,B,D⟩:=vA (a 2 _ v2 rfl rfl) h2;obtain⟨A3,n3,c3,Q,rfl,E,G⟩:=open_ints (a 3 _ v3 rfl rfl) h3;obtain⟨A4,n4,c4,R,rfl,b,I⟩:=open_ints (a 4 _ v4 rfl rfl) h4;exact Bi (s:=Rows.sequenceChecksSpec) laidOut k rfl (tb:=4) kF kF (by rw[d];decide+kernel) rfl (EC (EA h i) y z A B D E G b I)

theorem sequenceChecks_k1:(Rows.sequenceChecksRow.inPlace==Tryz.pinned.checked.prog.inPlace 5)=true:=kF
theorem sequenceChecks_k2:(Rows.sequenceChecksRow.unfollowed==Tryz.pinned.checked.prog.unfollowed 5)=true:=kF
theorem sequenceChecks_k3:(Rows.sequenceChecksRow.recurses==Tryz.pinned.checked.prog.recurses 5)=true:=kF
theorem sequenceChecks_k4:(Rows.sequenceChecksRow.named==Tryz.pinned.checked.prog.varsNamed 5)=true:=kF
theorem sequenceChecks_closed:joinedFacts Tryz.pinned.checked.prog 5 Tryz.f5 (OpenSpec.ofChange Rows.sequenceChecksSpec).bare Rows.sequenceChecksRow=true:=by
 unfold joinedFacts
 repeat' with_reducible refine Od ?_ ?_
 all_goals first|with_reducible exact xF|with_reducible exact xG|with_reducible exact sequenceChecks_k1|with_reducible exact sequenceChecks_k2|with_reducible exact sequenceChecks_k3|with_reducible exact sequenceChecks_k4|kernel_rfl
theorem sequenceChecks_wraps:Tryz.f5.isInstance Tryz.pinned.checked.prog Rows.sequenceChecksRow.origin Rows.sequenceChecksRow.targs/\Tryz.f5.isWrapper Tryz.pinned.checked.prog Rows.sequenceChecksRow.wrapper Rows.sequenceChecksRow.mainSum:=
 ⟨hG kF,by unfold Func.isWrapper;first|(rw[cc (by decide+kernel)];kernel_rfl)|(rw[ar (by decide+kernel)];exact⟨rfl,rfl⟩)⟩
theorem sequenceChecks_said:Rows.SequenceChecksSaid:=
 OpenClaim.holds_of_cond 5 Tryz.f5 rfl rfl rfl rfl rfl rfl rfl ⟨rfl,rfl,rfl,rfl,rfl⟩ rfl rfl rfl rfl rfl kF Tryz.func5 sequenceChecks_closed sequenceChecks_wraps.1 sequenceChecks_wraps.2
  (fun os started H enc _ F=>by rw[OpenClaim.pre_eq_preRow];exact sequenceChecks_lifted os started H enc F)
end Go.Proofs.YtgfkeadgjkfomaaGreatDoor.B
