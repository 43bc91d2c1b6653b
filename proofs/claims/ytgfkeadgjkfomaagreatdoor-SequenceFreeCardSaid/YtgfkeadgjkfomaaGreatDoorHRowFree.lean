/- The statement SequenceFree, its row. -/
import Derived.Test.YtgfkeadgjkfomaaGreatDoorH11
set_option linter.unusedVariables false
set_option linter.unusedSimpArgs false
namespace Go.Proofs.YtgfkeadgjkfomaaGreatDoor.B
open Go Go.RowKit Go.Proofs Go.Proofs.YtgfkeadgjkfomaaGreatDoor.Vc Go.ChangeShapes Go.WideShapes Go.Deep Go.ChangeAt
set_option maxRecDepth 100000

theorem sequenceFree_witness(os:Os){H:Type}(enc:TypeId×Value->H):
  (OpenSpec.ofChange Rows.sequenceFreeSpec).preRow enc Tryz.prog Tryz.f7 Rows.sequenceFreeRow.domain false Rows.sequenceFreeRow.laid ((laidWorld os).forCall (fun _ _=>0) ⟨#[],#[.agg #[.slice none 0 0,.slice none 0 0,.slice none 0 0],.slice none 0 0,.slice none 0 0],[]⟩).memory #[.agg #[.slice none 0 0,.slice none 0 0,.slice none 0 0],.slice none 0 0,.slice none 0 0]:=by
 have hw:(DataW.whole enc Tryz.prog ((laidWorld os).forCall (fun _ _=>0) ⟨#[],#[.agg #[.slice none 0 0,.slice none 0 0,.slice none 0 0],.slice none 0 0,.slice none 0 0],[]⟩).memory Tryz.f7.params.toList Rows.sequenceFreeSpec.vars false (#[.agg #[.slice none 0 0,.slice none 0 0,.slice none 0 0],.slice none 0 0,.slice none 0 0]:Array Value).toList 8).map (fun x=>(x.1,x.2.1))=
   some ([.agg [.agg [.nil,.nil],.nil],.nil,.nil],[]):=by kernel_rfl
 obtain⟨⟨x1,x2,x3⟩,hx,hx1⟩:=Option.map_eq_some_iff.1 hw
 simp only[Prod.mk.injEq]at hx1
 obtain⟨rfl,rfl⟩:=hx1
 exact OpenSpec.preRow_of_cond 8 hx (by kernel_rfl) (fun k hk=>by cases hk) (by kernel_rfl) (laid_met os _)

theorem sequenceFree_lifted(os:Os)(started:os.Started)(H:Type)(enc:TypeId×Value->H)(F:Stop.Interp):
  ReturnsInHanded {} Tryz.checked os 7 .any ((OpenSpec.ofChange Rows.sequenceFreeSpec).preRow enc Tryz.prog Tryz.f7 Rows.sequenceFreeRow.domain false Rows.sequenceFreeRow.laid) (((OpenSpec.ofChange Rows.sequenceFreeSpec).at F).post enc Tryz.prog Tryz.f7 false true false false):=by
 refine returnsInHanded_of_row (C:=Tryz.checked) (s:=OpenSpec.ofChange Rows.sequenceFreeSpec) own started (by kernel_rfl) Tryz.func7
  (witness_row_atRef (enc:=enc) (C:=Tryz.checked) false (laidWorld os) #[.agg #[.slice none 0 0,.slice none 0 0,.slice none 0 0],.slice none 0 0,.slice none 0 0] rfl (world_vars os _) (world_rest os _) (by kernel_rfl) (sequenceFree_witness os enc)) ?_
 intro W base args ds gs before hval0 hW _ _ hwt hL hS _
 have hval:∀(j:Nat) t v,Tryz.f7.params[j]? =some t->args[j]? =some v->Value.okWide Tryz.prog W .any base t v:=hval0
 have hW':=hW
 obtain⟨p,q,hA0,hV0,rfl,_,_⟩:=hW
 have hps:Tryz.f7.params= #[28,30,48]:=by kernel_rfl
 have hA:DataW.TrodAll enc Tryz.prog W 0 (fun _=>true) true Tryz.f7.params.toList args.toList ds p:=hA0
 rw[hps]at hA hval hwt
 obtain⟨v0,v1,v2,d0,d1,d2,p0,p1,p2,rfl,rfl,rfl,h0,h1,h2⟩:=trodAll_three hA
 obtain⟨rfl,rfl⟩:=trodVars_none hV0
 have hlt0:Lt Tryz.prog 28 d0:=fun k hk=>by
  have q:=of_decide_eq_true (List.all_eq_true.1 hwt k (mem_weightsEach (i:=0) rfl rfl hk))
  exact Nat.le_trans q (by decide)
 obtain⟨A0,n0,c0,A0x,n0x,c0x,A0y,n0y,c0y,ps,hs,xs,rfl,hr0,hf0⟩:=open_problemW (hval 0 _ v0 rfl rfl) h0 hlt0
 obtain⟨A1,n1,c1,l1,rfl,hx1,hlen1⟩:=open_works (hval 1 _ v1 rfl rfl) h1
 obtain⟨A2,n2,c2,l2,rfl,hx2,hlen2⟩:=open_ints (hval 2 _ v2 rfl rfl) h2
 exact law_post (s:=Rows.sequenceFreeSpec) laidOut hW' rfl (tb:=4) (by kernel_rfl) (by kernel_rfl) (by rw[hps];decide+kernel) rfl (law51_Free (glob_of hL hS) hr0 hf0 hx1 hlen1 hx2 hlen2)

theorem sequenceFree_k1:(Rows.sequenceFreeRow.inPlace==Tryz.pinned.checked.prog.inPlace 7)=true:=by kernel_rfl
theorem sequenceFree_k2:(Rows.sequenceFreeRow.unfollowed==Tryz.pinned.checked.prog.unfollowed 7)=true:=by kernel_rfl
theorem sequenceFree_k3:(Rows.sequenceFreeRow.recurses==Tryz.pinned.checked.prog.recurses 7)=true:=by kernel_rfl
theorem sequenceFree_k4:(Rows.sequenceFreeRow.named==Tryz.pinned.checked.prog.varsNamed 7)=true:=by kernel_rfl
theorem sequenceFree_closed:joinedFacts Tryz.pinned.checked.prog 7 Tryz.f7 (OpenSpec.ofChange Rows.sequenceFreeSpec).bare Rows.sequenceFreeRow=true:=by
 unfold joinedFacts
 repeat' with_reducible refine and_t ?_ ?_
 all_goals first|with_reducible exact tied_laid|with_reducible exact tied_maps|with_reducible exact sequenceFree_k1|with_reducible exact sequenceFree_k2|with_reducible exact sequenceFree_k3|with_reducible exact sequenceFree_k4|kernel_rfl
theorem sequenceFree_wraps:Tryz.f7.isInstance Tryz.pinned.checked.prog Rows.sequenceFreeRow.origin Rows.sequenceFreeRow.targs/\Tryz.f7.isWrapper Tryz.pinned.checked.prog Rows.sequenceFreeRow.wrapper Rows.sequenceFreeRow.mainSum:=
 ⟨of_decide_eq_true (by kernel_rfl),by unfold Func.isWrapper;first|(rw[if_pos (by decide+kernel)];kernel_rfl)|(rw[if_neg (by decide+kernel)];exact⟨rfl,rfl⟩)⟩
theorem sequenceFree_said:Rows.SequenceFreeSaid:=
 OpenClaim.holds_of_cond 7 Tryz.f7 rfl rfl rfl rfl rfl rfl rfl ⟨rfl,rfl,rfl,rfl,rfl⟩ rfl rfl rfl rfl rfl (by kernel_rfl) Tryz.func7 sequenceFree_closed sequenceFree_wraps.1 sequenceFree_wraps.2
  (fun os started H enc _ F=>by rw[OpenClaim.pre_eq_preRow];exact sequenceFree_lifted os started H enc F)
end Go.Proofs.YtgfkeadgjkfomaaGreatDoor.B
