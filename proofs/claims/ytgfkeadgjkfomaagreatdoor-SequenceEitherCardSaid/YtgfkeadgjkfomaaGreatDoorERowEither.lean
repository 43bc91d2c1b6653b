/- The statement SequenceEither, its row. -/
import Derived.Test.YtgfkeadgjkfomaaGreatDoorE10
set_option linter.unusedVariables false
set_option linter.unusedSimpArgs false
namespace Go.Proofs.YtgfkeadgjkfomaaGreatDoor.B
open Go Go.RowKit Go.Proofs Go.Proofs.YtgfkeadgjkfomaaGreatDoor.Vc Go.ChangeShapes Go.WideShapes Go.Deep Go.ChangeAt
set_option maxRecDepth 100000

theorem sequenceEither_witness(os:Os){H:Type}(enc:TypeId×Value->H):
  (OpenSpec.ofChange Rows.sequenceEitherSpec).preRow enc Tryz.prog Tryz.f6 Rows.sequenceEitherRow.domain false Rows.sequenceEitherRow.laid ((laidWorld os).forCall (fun _ _=>0) ⟨#[],#[.agg #[.slice none 0 0,.slice none 0 0,.slice none 0 0],.slice none 0 0,.slice none 0 0,.slice none 0 0,.slice none 0 0],[]⟩).memory #[.agg #[.slice none 0 0,.slice none 0 0,.slice none 0 0],.slice none 0 0,.slice none 0 0,.slice none 0 0,.slice none 0 0]:=by
 have hw:(DataW.whole enc Tryz.prog ((laidWorld os).forCall (fun _ _=>0) ⟨#[],#[.agg #[.slice none 0 0,.slice none 0 0,.slice none 0 0],.slice none 0 0,.slice none 0 0,.slice none 0 0,.slice none 0 0],[]⟩).memory Tryz.f6.params.toList Rows.sequenceEitherSpec.vars false (#[.agg #[.slice none 0 0,.slice none 0 0,.slice none 0 0],.slice none 0 0,.slice none 0 0,.slice none 0 0,.slice none 0 0]:Array Value).toList 8).map (fun x=>(x.1,x.2.1))=
   some ([.agg [.agg [.nil,.nil],.nil],.nil,.nil,.nil,.nil],[]):=by kernel_rfl
 obtain⟨⟨x1,x2,x3⟩,hx,hx1⟩:=Option.map_eq_some_iff.1 hw
 simp only[Prod.mk.injEq]at hx1
 obtain⟨rfl,rfl⟩:=hx1
 exact OpenSpec.preRow_of_cond 8 hx (by kernel_rfl) (fun k hk=>by cases hk) (by kernel_rfl) (laid_met os _)

theorem sequenceEither_lifted(os:Os)(started:os.Started)(H:Type)(enc:TypeId×Value->H)(F:Stop.Interp):
  ReturnsInHanded {} Tryz.checked os 6 .any ((OpenSpec.ofChange Rows.sequenceEitherSpec).preRow enc Tryz.prog Tryz.f6 Rows.sequenceEitherRow.domain false Rows.sequenceEitherRow.laid) (((OpenSpec.ofChange Rows.sequenceEitherSpec).at F).post enc Tryz.prog Tryz.f6 false true false false):=by
 refine returnsInHanded_of_row (C:=Tryz.checked) (s:=OpenSpec.ofChange Rows.sequenceEitherSpec) own started (by kernel_rfl) Tryz.func6
  (witness_row_atRef (enc:=enc) (C:=Tryz.checked) false (laidWorld os) #[.agg #[.slice none 0 0,.slice none 0 0,.slice none 0 0],.slice none 0 0,.slice none 0 0,.slice none 0 0,.slice none 0 0] rfl (world_vars os _) (world_rest os _) (by kernel_rfl) (sequenceEither_witness os enc)) ?_
 intro W base args ds gs before hval0 hW _ _ _ hL hS _
 have hval:∀(j:Nat) t v,Tryz.f6.params[j]? =some t->args[j]? =some v->Value.okWide Tryz.prog W .any base t v:=hval0
 have hW':=hW
 obtain⟨p,q,hA0,hV0,rfl,_,_⟩:=hW
 have hps:Tryz.f6.params= #[28,29,30,48,48]:=by kernel_rfl
 have hA:DataW.TrodAll enc Tryz.prog W 0 (fun _=>true) true Tryz.f6.params.toList args.toList ds p:=hA0
 rw[hps]at hA hval
 obtain⟨v0,v1,v2,v3,v4,d0,d1,d2,d3,d4,p0,p1,p2,p3,p4,rfl,rfl,rfl,h0,h1,h2,h3,h4⟩:=trodAll_five hA
 obtain⟨rfl,rfl⟩:=trodVars_none hV0
 obtain⟨A0,n0,c0,A0x,n0x,c0x,A0y,n0y,c0y,ps,hs,xs,rfl,hr0⟩:=open_problem (hval 0 _ v0 rfl rfl) h0
 obtain⟨A1,n1,c1,l1,rfl,hx1,hlen1⟩:=open_stows (hval 1 _ v1 rfl rfl) h1
 obtain⟨A2,n2,c2,l2,rfl,hx2,hlen2⟩:=open_works (hval 2 _ v2 rfl rfl) h2
 obtain⟨A3,n3,c3,l3,rfl,hx3,hlen3⟩:=open_ints (hval 3 _ v3 rfl rfl) h3
 obtain⟨A4,n4,c4,l4,rfl,hx4,hlen4⟩:=open_ints (hval 4 _ v4 rfl rfl) h4
 exact law_post (s:=Rows.sequenceEitherSpec) laidOut hW' rfl (tb:=4) (by kernel_rfl) (by kernel_rfl) (by rw[hps];decide+kernel) rfl (law51_Either (glob_of hL hS) hr0 hx1 hlen1 hx2 hlen2 hx3 hlen3 hx4 hlen4)

theorem sequenceEither_k1:(Rows.sequenceEitherRow.inPlace==Tryz.pinned.checked.prog.inPlace 6)=true:=by kernel_rfl
theorem sequenceEither_k2:(Rows.sequenceEitherRow.unfollowed==Tryz.pinned.checked.prog.unfollowed 6)=true:=by kernel_rfl
theorem sequenceEither_k3:(Rows.sequenceEitherRow.recurses==Tryz.pinned.checked.prog.recurses 6)=true:=by kernel_rfl
theorem sequenceEither_k4:(Rows.sequenceEitherRow.named==Tryz.pinned.checked.prog.varsNamed 6)=true:=by kernel_rfl
theorem sequenceEither_closed:joinedFacts Tryz.pinned.checked.prog 6 Tryz.f6 (OpenSpec.ofChange Rows.sequenceEitherSpec).bare Rows.sequenceEitherRow=true:=by
 unfold joinedFacts
 repeat' with_reducible refine and_t ?_ ?_
 all_goals first|with_reducible exact tied_laid|with_reducible exact tied_maps|with_reducible exact sequenceEither_k1|with_reducible exact sequenceEither_k2|with_reducible exact sequenceEither_k3|with_reducible exact sequenceEither_k4|kernel_rfl
theorem sequenceEither_wraps:Tryz.f6.isInstance Tryz.pinned.checked.prog Rows.sequenceEitherRow.origin Rows.sequenceEitherRow.targs/\Tryz.f6.isWrapper Tryz.pinned.checked.prog Rows.sequenceEitherRow.wrapper Rows.sequenceEitherRow.mainSum:=
 ⟨of_decide_eq_true (by kernel_rfl),by unfold Func.isWrapper;first|(rw[if_pos (by decide+kernel)];kernel_rfl)|(rw[if_neg (by decide+kernel)];exact⟨rfl,rfl⟩)⟩
theorem sequenceEither_said:Rows.SequenceEitherSaid:=
 OpenClaim.holds_of_cond 6 Tryz.f6 rfl rfl rfl rfl rfl rfl rfl ⟨rfl,rfl,rfl,rfl,rfl⟩ rfl rfl rfl rfl rfl (by kernel_rfl) Tryz.func6 sequenceEither_closed sequenceEither_wraps.1 sequenceEither_wraps.2
  (fun os started H enc _ F=>by rw[OpenClaim.pre_eq_preRow];exact sequenceEither_lifted os started H enc F)
end Go.Proofs.YtgfkeadgjkfomaaGreatDoor.B
