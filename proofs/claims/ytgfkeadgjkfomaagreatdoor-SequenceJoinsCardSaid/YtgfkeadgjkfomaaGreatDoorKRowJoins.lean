/- The statement SequenceJoins, its row. -/
import Derived.Test.YtgfkeadgjkfomaaGreatDoorK11
set_option linter.unusedVariables false
set_option linter.unusedSimpArgs false
namespace Go.Proofs.YtgfkeadgjkfomaaGreatDoor.B
open Go Go.RowKit Go.Proofs Go.Proofs.YtgfkeadgjkfomaaGreatDoor.Vc Go.ChangeShapes Go.WideShapes Go.Deep Go.ChangeAt
set_option maxRecDepth 100000

theorem sequenceJoins_witness(os:Os){H:Type}(enc:TypeId×Value->H):
  (OpenSpec.ofChange Rows.sequenceJoinsSpec).preRow enc Tryz.prog Tryz.f9 Rows.sequenceJoinsRow.domain false Rows.sequenceJoinsRow.laid ((laidWorld os).forCall (fun _ _=>0) ⟨#[],#[.agg #[.slice none 0 0,.slice none 0 0],.slice none 0 0,.slice none 0 0],[]⟩).memory #[.agg #[.slice none 0 0,.slice none 0 0],.slice none 0 0,.slice none 0 0]:=by
 have hw:(DataW.whole enc Tryz.prog ((laidWorld os).forCall (fun _ _=>0) ⟨#[],#[.agg #[.slice none 0 0,.slice none 0 0],.slice none 0 0,.slice none 0 0],[]⟩).memory Tryz.f9.params.toList Rows.sequenceJoinsSpec.vars false (#[.agg #[.slice none 0 0,.slice none 0 0],.slice none 0 0,.slice none 0 0]:Array Value).toList 8).map (fun x=>(x.1,x.2.1))=
   some ([.agg [.nil,.nil],.nil,.nil],[]):=by kernel_rfl
 obtain⟨⟨x1,x2,x3⟩,hx,hx1⟩:=Option.map_eq_some_iff.1 hw
 simp only[Prod.mk.injEq]at hx1
 obtain⟨rfl,rfl⟩:=hx1
 exact OpenSpec.preRow_of_cond 8 hx (by kernel_rfl) (fun k hk=>by cases hk) (by kernel_rfl) (laid_met os _)

theorem sequenceJoins_lifted(os:Os)(started:os.Started)(H:Type)(enc:TypeId×Value->H)(F:Stop.Interp):
  ReturnsInHanded {} Tryz.checked os 9 .any ((OpenSpec.ofChange Rows.sequenceJoinsSpec).preRow enc Tryz.prog Tryz.f9 Rows.sequenceJoinsRow.domain false Rows.sequenceJoinsRow.laid) (((OpenSpec.ofChange Rows.sequenceJoinsSpec).at F).post enc Tryz.prog Tryz.f9 false true false false):=by
 refine returnsInHanded_of_row (C:=Tryz.checked) (s:=OpenSpec.ofChange Rows.sequenceJoinsSpec) own started (by kernel_rfl) Tryz.func9
  (witness_row_atRef (enc:=enc) (C:=Tryz.checked) false (laidWorld os) #[.agg #[.slice none 0 0,.slice none 0 0],.slice none 0 0,.slice none 0 0] rfl (world_vars os _) (world_rest os _) (by kernel_rfl) (sequenceJoins_witness os enc)) ?_
 intro W base args ds gs before hval0 hW _ _ _ hL hS _
 have hval:∀(j:Nat) t v,Tryz.f9.params[j]? =some t->args[j]? =some v->Value.okWide Tryz.prog W .any base t v:=hval0
 have hW':=hW
 obtain⟨p,q,hA0,hV0,rfl,_,_⟩:=hW
 have hps:Tryz.f9.params= #[25,29,29]:=by kernel_rfl
 have hA:DataW.TrodAll enc Tryz.prog W 0 (fun _=>true) true Tryz.f9.params.toList args.toList ds p:=hA0
 rw[hps]at hA hval
 obtain⟨v0,v1,v2,d0,d1,d2,p0,p1,p2,rfl,rfl,rfl,h0,h1,h2⟩:=trodAll_three hA
 obtain⟨rfl,rfl⟩:=trodVars_none hV0
 obtain⟨A0,n0,c0,A0x,n0x,c0x,ps,hs,rfl,hr0,hz0,hz1⟩:=open_cargo (hval 0 _ v0 rfl rfl) h0
 obtain⟨A1,n1,c1,l1,rfl,hx1,hlen1⟩:=open_stows (hval 1 _ v1 rfl rfl) h1
 obtain⟨A2,n2,c2,l2,rfl,hx2,hlen2⟩:=open_stows (hval 2 _ v2 rfl rfl) h2
 exact law_post (s:=Rows.sequenceJoinsSpec) laidOut hW' rfl (tb:=4) (by kernel_rfl) (by kernel_rfl) (by rw[hps];decide+kernel) rfl (law51_Joins (glob_of hL hS) hr0 hz0 hz1 hx1 hlen1 hx2 hlen2)

theorem sequenceJoins_k1:(Rows.sequenceJoinsRow.inPlace==Tryz.pinned.checked.prog.inPlace 9)=true:=by kernel_rfl
theorem sequenceJoins_k2:(Rows.sequenceJoinsRow.unfollowed==Tryz.pinned.checked.prog.unfollowed 9)=true:=by kernel_rfl
theorem sequenceJoins_k3:(Rows.sequenceJoinsRow.recurses==Tryz.pinned.checked.prog.recurses 9)=true:=by kernel_rfl
theorem sequenceJoins_k4:(Rows.sequenceJoinsRow.named==Tryz.pinned.checked.prog.varsNamed 9)=true:=by kernel_rfl
theorem sequenceJoins_closed:joinedFacts Tryz.pinned.checked.prog 9 Tryz.f9 (OpenSpec.ofChange Rows.sequenceJoinsSpec).bare Rows.sequenceJoinsRow=true:=by
 unfold joinedFacts
 repeat' with_reducible refine and_t ?_ ?_
 all_goals first|with_reducible exact tied_laid|with_reducible exact tied_maps|with_reducible exact sequenceJoins_k1|with_reducible exact sequenceJoins_k2|with_reducible exact sequenceJoins_k3|with_reducible exact sequenceJoins_k4|kernel_rfl
theorem sequenceJoins_wraps:Tryz.f9.isInstance Tryz.pinned.checked.prog Rows.sequenceJoinsRow.origin Rows.sequenceJoinsRow.targs/\Tryz.f9.isWrapper Tryz.pinned.checked.prog Rows.sequenceJoinsRow.wrapper Rows.sequenceJoinsRow.mainSum:=
 ⟨of_decide_eq_true (by kernel_rfl),by unfold Func.isWrapper;first|(rw[if_pos (by decide+kernel)];kernel_rfl)|(rw[if_neg (by decide+kernel)];exact⟨rfl,rfl⟩)⟩
theorem sequenceJoins_said:Rows.SequenceJoinsSaid:=
 OpenClaim.holds_of_cond 9 Tryz.f9 rfl rfl rfl rfl rfl rfl rfl ⟨rfl,rfl,rfl,rfl,rfl⟩ rfl rfl rfl rfl rfl (by kernel_rfl) Tryz.func9 sequenceJoins_closed sequenceJoins_wraps.1 sequenceJoins_wraps.2
  (fun os started H enc _ F=>by rw[OpenClaim.pre_eq_preRow];exact sequenceJoins_lifted os started H enc F)
end Go.Proofs.YtgfkeadgjkfomaaGreatDoor.B
