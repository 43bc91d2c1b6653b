/- The statement SequenceOrders, its row. -/
import Derived.Test.YtgfkeadgjkfomaaGreatDoorS12
set_option linter.unusedVariables false
set_option linter.unusedSimpArgs false
namespace Go.Proofs.YtgfkeadgjkfomaaGreatDoor.B
open Go Go.RowKit Go.Proofs Go.Proofs.YtgfkeadgjkfomaaGreatDoor.Vc Go.ChangeShapes Go.WideShapes Go.Deep Go.ChangeAt
set_option maxRecDepth 100000

theorem sequenceOrders_witness(os:Os){H:Type}(enc:TypeId×Value->H):
  (OpenSpec.ofChange Rows.sequenceOrdersSpec).preRow enc Tryz.prog Tryz.f4 Rows.sequenceOrdersRow.domain false Rows.sequenceOrdersRow.laid ((fQ os).forCall (fun _ _=>0) ⟨#[],#[.agg #[.slice none 0 0,.slice none 0 0,.slice none 0 0],.slice none 0 0,.slice none 0 0],[]⟩).memory #[.agg #[.slice none 0 0,.slice none 0 0,.slice none 0 0],.slice none 0 0,.slice none 0 0]:=by
 have hw:(DataW.whole enc Tryz.prog ((fQ os).forCall (fun _ _=>0) ⟨#[],#[.agg #[.slice none 0 0,.slice none 0 0,.slice none 0 0],.slice none 0 0,.slice none 0 0],[]⟩).memory Tryz.f4.params.toList Rows.sequenceOrdersSpec.vars false (#[.agg #[.slice none 0 0,.slice none 0 0,.slice none 0 0],.slice none 0 0,.slice none 0 0]:Array Value).toList 8).map (fun x=>(x.1,x.2.1))=
   some ([.agg [.agg [.nil,.nil],.nil],.nil,.nil],[]):=kF
 obtain⟨⟨c,d,e⟩,hx,a⟩:=k7.1 hw;simp only[Oo]at a;obtain⟨rfl,rfl⟩:=a;exact OpenSpec.preRow_of_cond 8 hx kF (fun k b=>by cases b) kF (Bj os _)

theorem sequenceOrders_lifted(os:Os)(started:os.Started)(H:Type)(enc:TypeId×Value->H)(F:Stop.Interp):
  ReturnsInHanded {} Tryz.checked os 4 .any ((OpenSpec.ofChange Rows.sequenceOrdersSpec).preRow enc Tryz.prog Tryz.f4 Rows.sequenceOrdersRow.domain false Rows.sequenceOrdersRow.laid) (((OpenSpec.ofChange Rows.sequenceOrdersSpec).at F).post enc Tryz.prog Tryz.f4 false true false false):=by
 refine returnsInHanded_of_row (C:=Tryz.checked) (s:=OpenSpec.ofChange Rows.sequenceOrdersSpec) own started kF Tryz.func4
  (witness_row_atRef (enc:=enc) (C:=Tryz.checked) false (fQ os) #[.agg #[.slice none 0 0,.slice none 0 0,.slice none 0 0],.slice none 0 0,.slice none 0 0] rfl (vy os _) (vz os _) kF (sequenceOrders_witness os enc)) ?_
 intro W base args e gs before f b _ _ D g h _;have a:∀(j:Nat) t v,Tryz.f4.params[j]? =some t->args[j]? =some v->Value.okWide Tryz.prog W .any base t v:=f
 have i:=b;obtain⟨p,q,k,l,rfl,_,_⟩:=b;have c:Tryz.f4.params= #[28,29,30]:=kF;have d:DataW.TrodAll enc Tryz.prog W 0 (fun _=>true) true Tryz.f4.params.toList args.toList e p:=k;rw[c]at d a;obtain⟨v0,v1,v2,d0,d1,d2,E,p1,G,rfl,rfl,rfl,h0,h1,h2⟩:=trodAll_three d;obtain⟨rfl,rfl⟩:=trodVars_none l;obtain⟨A0,n0,c0,m,n,o,r,u,w,ps,hs,xs,rfl,x⟩:=rE (a 0 _ v0 rfl rfl) h0;obtain⟨A1,n1,c1,I,rfl,y,z⟩:=rD (a 1 _ v1 rfl rfl) h1;obtain⟨A2,n2,c2,J,rfl,A,B⟩:=vA (a 2 _ v2 rfl rfl) h2;exact Bi (s:=Rows.sequenceOrdersSpec) laidOut i rfl (tb:=4) kF kF (by rw[c];decide+kernel) rfl (EB (EA g h) x y z A B)

theorem sequenceOrders_k1:(Rows.sequenceOrdersRow.inPlace==Tryz.pinned.checked.prog.inPlace 4)=true:=kF
theorem sequenceOrders_k2:(Rows.sequenceOrdersRow.unfollowed==Tryz.pinned.checked.prog.unfollowed 4)=true:=kF
theorem sequenceOrders_k3:(Rows.sequenceOrdersRow.recurses==Tryz.pinned.checked.prog.recurses 4)=true:=kF
theorem sequenceOrders_k4:(Rows.sequenceOrdersRow.named==Tryz.pinned.checked.prog.varsNamed 4)=true:=kF
theorem sequenceOrders_closed:joinedFacts Tryz.pinned.checked.prog 4 Tryz.f4 (OpenSpec.ofChange Rows.sequenceOrdersSpec).bare Rows.sequenceOrdersRow=true:=by
 unfold joinedFacts
 repeat' with_reducible refine Od ?_ ?_
 all_goals first|with_reducible exact xF|with_reducible exact xG|with_reducible exact sequenceOrders_k1|with_reducible exact sequenceOrders_k2|with_reducible exact sequenceOrders_k3|with_reducible exact sequenceOrders_k4|kernel_rfl
theorem sequenceOrders_wraps:Tryz.f4.isInstance Tryz.pinned.checked.prog Rows.sequenceOrdersRow.origin Rows.sequenceOrdersRow.targs/\Tryz.f4.isWrapper Tryz.pinned.checked.prog Rows.sequenceOrdersRow.wrapper Rows.sequenceOrdersRow.mainSum:=
 ⟨hG kF,by unfold Func.isWrapper;first|(rw[cc (by decide+kernel)];kernel_rfl)|(rw[ar (by decide+kernel)];exact⟨rfl,rfl⟩)⟩
theorem sequenceOrders_said:Rows.SequenceOrdersSaid:=
 OpenClaim.holds_of_cond 4 Tryz.f4 rfl rfl rfl rfl rfl rfl rfl ⟨rfl,rfl,rfl,rfl,rfl⟩ rfl rfl rfl rfl rfl kF Tryz.func4 sequenceOrders_closed sequenceOrders_wraps.1 sequenceOrders_wraps.2
  (fun os started H enc _ F=>by rw[OpenClaim.pre_eq_preRow];exact sequenceOrders_lifted os started H enc F)
end Go.Proofs.YtgfkeadgjkfomaaGreatDoor.B
