/- The statement SequenceStates, its row. -/
import Derived.Test.YtgfkeadgjkfomaaGreatDoorS12
set_option linter.unusedVariables false
set_option linter.unusedSimpArgs false
namespace Go.Proofs.YtgfkeadgjkfomaaGreatDoor.B
open Go Go.RowKit Go.Proofs Go.Proofs.YtgfkeadgjkfomaaGreatDoor.Vc Go.ChangeShapes Go.WideShapes Go.Deep Go.ChangeAt
set_option maxRecDepth 100000

theorem sequenceStates_witness(os:Os){H:Type}(enc:TypeId×Value->H):
  (OpenSpec.ofChange Rows.sequenceStatesSpec).preRow enc Tryz.prog Tryz.f3 Rows.sequenceStatesRow.domain false Rows.sequenceStatesRow.laid ((fQ os).forCall (fun _ _=>0) ⟨#[],#[.agg #[.slice none 0 0,.slice none 0 0,.slice none 0 0],.slice none 0 0,.slice none 0 0,.slice none 0 0,.int .i64 0],[]⟩).memory #[.agg #[.slice none 0 0,.slice none 0 0,.slice none 0 0],.slice none 0 0,.slice none 0 0,.slice none 0 0,.int .i64 0]:=by
 have hw:(DataW.whole enc Tryz.prog ((fQ os).forCall (fun _ _=>0) ⟨#[],#[.agg #[.slice none 0 0,.slice none 0 0,.slice none 0 0],.slice none 0 0,.slice none 0 0,.slice none 0 0,.int .i64 0],[]⟩).memory Tryz.f3.params.toList Rows.sequenceStatesSpec.vars false (#[.agg #[.slice none 0 0,.slice none 0 0,.slice none 0 0],.slice none 0 0,.slice none 0 0,.slice none 0 0,.int .i64 0]:Array Value).toList 8).map (fun x=>(x.1,x.2.1))=
   some ([.agg [.agg [.nil,.nil],.nil],.nil,.nil,.nil,.lit (.int .i64 0)],[]):=kF
 obtain⟨⟨c,d,e⟩,hx,a⟩:=k7.1 hw;simp only[Oo]at a;obtain⟨rfl,rfl⟩:=a;exact OpenSpec.preRow_of_cond 8 hx kF (fun k b=>by cases b) kF (Bj os _)

theorem sequenceStates_lifted(os:Os)(started:os.Started)(H:Type)(enc:TypeId×Value->H)(F:Stop.Interp):
  ReturnsInHanded {} Tryz.checked os 3 .any ((OpenSpec.ofChange Rows.sequenceStatesSpec).preRow enc Tryz.prog Tryz.f3 Rows.sequenceStatesRow.domain false Rows.sequenceStatesRow.laid) (((OpenSpec.ofChange Rows.sequenceStatesSpec).at F).post enc Tryz.prog Tryz.f3 false true false false):=by
 refine returnsInHanded_of_row (C:=Tryz.checked) (s:=OpenSpec.ofChange Rows.sequenceStatesSpec) own started kF Tryz.func3
  (witness_row_atRef (enc:=enc) (C:=Tryz.checked) false (fQ os) #[.agg #[.slice none 0 0,.slice none 0 0,.slice none 0 0],.slice none 0 0,.slice none 0 0,.slice none 0 0,.int .i64 0] rfl (vy os _) (vz os _) kF (sequenceStates_witness os enc)) ?_
 intro W base args e gs before f b _ _ G g h _;have a:∀(j:Nat) t v,Tryz.f3.params[j]? =some t->args[j]? =some v->Value.okWide Tryz.prog W .any base t v:=f
 have i:=b;obtain⟨p,q,k,l,rfl,_,_⟩:=b;have c:Tryz.f3.params= #[28,29,29,30,3]:=kF;have d:DataW.TrodAll enc Tryz.prog W 0 (fun _=>true) true Tryz.f3.params.toList args.toList e p:=k;rw[c]at d a;obtain⟨v0,v1,v2,v3,v4,d0,d1,d2,d3,d4,I,p1,J,K,L,rfl,rfl,rfl,h0,h1,h2,h3,h4⟩:=wR d;obtain⟨rfl,rfl⟩:=trodVars_none l;obtain⟨A0,n0,c0,m,n,o,r,u,w,ps,hs,xs,rfl,x⟩:=rE (a 0 _ v0 rfl rfl) h0;obtain⟨A1,n1,c1,M,rfl,y,z⟩:=rD (a 1 _ v1 rfl rfl) h1;obtain⟨A2,n2,c2,N,rfl,A,B⟩:=rD (a 2 _ v2 rfl rfl) h2;obtain⟨A3,n3,c3,O,rfl,D,E⟩:=vA (a 3 _ v3 rfl rfl) h3;obtain⟨z4,rfl,_,_,_⟩:=open_int RD (a 4 _ v4 rfl rfl) h4;exact Bi (s:=Rows.sequenceStatesSpec) laidOut i rfl (tb:=4) kF kF (by rw[c];decide+kernel) rfl (Ey (EA g h) x y z A B D E z4)

theorem sequenceStates_k1:(Rows.sequenceStatesRow.inPlace==Tryz.pinned.checked.prog.inPlace 3)=true:=kF
theorem sequenceStates_k2:(Rows.sequenceStatesRow.unfollowed==Tryz.pinned.checked.prog.unfollowed 3)=true:=kF
theorem sequenceStates_k3:(Rows.sequenceStatesRow.recurses==Tryz.pinned.checked.prog.recurses 3)=true:=kF
theorem sequenceStates_k4:(Rows.sequenceStatesRow.named==Tryz.pinned.checked.prog.varsNamed 3)=true:=kF
theorem sequenceStates_closed:joinedFacts Tryz.pinned.checked.prog 3 Tryz.f3 (OpenSpec.ofChange Rows.sequenceStatesSpec).bare Rows.sequenceStatesRow=true:=by
 unfold joinedFacts
 repeat' with_reducible refine Od ?_ ?_
 all_goals first|with_reducible exact xF|with_reducible exact xG|with_reducible exact sequenceStates_k1|with_reducible exact sequenceStates_k2|with_reducible exact sequenceStates_k3|with_reducible exact sequenceStates_k4|kernel_rfl
theorem sequenceStates_wraps:Tryz.f3.isInstance Tryz.pinned.checked.prog Rows.sequenceStatesRow.origin Rows.sequenceStatesRow.targs/\Tryz.f3.isWrapper Tryz.pinned.checked.prog Rows.sequenceStatesRow.wrapper Rows.sequenceStatesRow.mainSum:=
 ⟨hG kF,by unfold Func.isWrapper;first|(rw[cc (by decide+kernel)];kernel_rfl)|(rw[ar (by decide+kernel)];exact⟨rfl,rfl⟩)⟩
theorem sequenceStates_said:Rows.SequenceStatesSaid:=
 OpenClaim.holds_of_cond 3 Tryz.f3 rfl rfl rfl rfl rfl rfl rfl ⟨rfl,rfl,rfl,rfl,rfl⟩ rfl rfl rfl rfl rfl kF Tryz.func3 sequenceStates_closed sequenceStates_wraps.1 sequenceStates_wraps.2
  (fun os started H enc _ F=>by rw[OpenClaim.pre_eq_preRow];exact sequenceStates_lifted os started H enc F)
end Go.Proofs.YtgfkeadgjkfomaaGreatDoor.B
