/- Part 10 of the proofs that: a plan is one of the orders -/
import Derived.Test.YtgfkeadgjkfomaaGreatDoorE9
import Derived.Test.YtgfkeadgjkfomaaGreatDoorProg
import Derived.Test.YtgfkeadgjkfomaaGreatDoorCards
import Derived.Test.YtgfkeadgjkfomaaGreatDoorTie
import Derived.WalkKit
import Derived.ProofKit
import Derived.OpenShut
import Derived.Carry
import Derived.Deep.DeepHandedRow
import Derived.Deep.DeepWitnessRowRef
import Derived.Deep.Slices
import Derived.Deep.Fields
import Derived.Lib.SmallJoins
import Derived.Lib.LaidIn
import Derived.Lib.LaidTab
import Derived.Stop.LaidErr
import Derived.Shelf.Vars
import Derived.Laws.IdiomArrays
set_option linter.unusedVariables false
set_option linter.unusedSimpArgs false
namespace Go.Proofs.YtgfkeadgjkfomaaGreatDoor.B
open Go Go.RowKit Go.Proofs Go.Proofs.YtgfkeadgjkfomaaGreatDoor.Vc

theorem index_int{w0:World}{A:Option Addr}{n c:Nat}{l:List Int}(hl:SlR w0 A 1 (l.map iRow))(hlen:l.length=n)(hn:n<2147483648)(z:Int){R:Value->World->Prop}{r:Int}(hR:∀w,R (.int .i64 r) w):
  ∀(d i:Nat)(w:World),n - i=d->i<=n->Below w0.heap.size w0 w->r=idxG (fun x=>decide (x=z)) i (l.drop i)->F.slices_Index_int_int.L2 A n c z n i w0.heap.size w R:=by
 intro d
 induction d with
 |zero=>
  intro i w hd hi hw hr
  rw[List.drop_eq_nil_of_le (by omega)]at hr
  subst hr
  exact F.slices_Index_int_int.L2.step _ _ _ _ _ _ _ _ _ ⟨fun h=>by omega,fun _=>hR w⟩
 |succ d ih=>
  intro i w hd hi hw hr
  have hil:i<l.length:=by omega
  rw[List.drop_eq_getElem_cons hil,idxG]at hr
  obtain⟨hb,ad,hA,hcell,_⟩:=(hl.keep hw (Nat.le_refl _)).at_ (fun _=>rfl) hlen hil
  refine F.slices_Index_int_int.L2.step _ _ _ _ _ _ _ _ _ ⟨fun _=>⟨hb,ad,hA,_,hcell,fun h=> ?_,fun h=>⟨by simp only[inR];omega,?_⟩⟩,fun h=>by omega⟩
  ·rw[if_pos (decide_eq_true h.symm)]at hr
   subst hr
   exact hR w
  ·rw[if_neg (by simpa using fun k=>h k.symm)]at hr
   have e3:(i:Int)+1=((i+1:Nat):Int):=by omega
   rw[e3]
   exact ih (i+1) w (by omega) (by omega) hw hr
theorem hasInt{w0:World}{A:Option Addr}{n c:Nat}{l:List Int}(hl:SlR w0 A 1 (l.map iRow))(hlen:l.length=n)(hn:n<2147483648)(z:Int):
  Pure Tryz.prog 57 #[.slice A n c,.int .i64 z] w0 fun v _=>v= .bool (decide (z∈l)):=by
 refine F.slices_Contains_int_int.vc _ _ _ _ _ _ (Pure.mono (F.slices_Index_int_int.vc _ _ _ _ _ _ (index_int hl hlen hn z (R:=fun v _=>v= .int .i64 (idxG (fun x=>decide (x=z)) 0 l)) (fun _=>rfl) n 0 w0 rfl (by omega) (Below.refl _ _) rfl)) ?_)
 rintro v w2 _ rfl
 refine⟨_,rfl,?_⟩
 rw[any_idx]
 refine congrArg Value.bool ?_
 rw[Bool.eq_iff_iff,List.any_eq_true,decide_eq_true_eq]
 simp

structure Run (w0 wb:World) (k:Tk) (ps:List Pa) (hs:List Ho) (xs:List Rm) (l works:List Sw) (w:World):Prop where
 b:Below w0.heap.size w0 w
 lo:w0.heap.size<=wb.heap.size
 tb:TkIn wb k ps hs xs l works
 c:Cl wb w
 kn:KnIn w w0.heap.size k (allowF ps hs (rsOf xs) l works)
 m:k.m<wb.heap.size
section
variable {w0 wb w:World} {A0 A1 A2 A A3 A5:Option Addr} {n0 c0 n1 c1 n2 c2 n c n3 c3 n5 c5:Nat} {ps:List Pa} {hs:List Ho} {xs:List Rm} {l works:List Sw} {k:Tk} {o:List Int}
theorem Run.t(h:Run w0 wb k ps hs xs l works w):TkIn w k ps hs xs l works:=h.tb.cl h.c
theorem Run.hi{w w':World}(h:Run w0 wb k ps hs xs l works w)(hb:Below wb.heap.size w w'):Run w0 wb k ps hs xs l works w':=by
 obtain⟨f,f1,f2⟩:=h.kn
 refine⟨h.b.trans (hb.mono h.lo),h.lo,h.tb,⟨Nat.le_trans h.c.size hb.size,fun i cs ty fr e=> ?_⟩,⟨f,f1.same (hb.block _ h.m),f2⟩,h.m⟩
 rw[hb.block i (Array.getElem?_eq_some_iff.1 e).1]
 exact h.c.cells i cs ty fr e
theorem Run.keep{w w':World}(h:Run w0 wb k ps hs xs l works w)(hb:Below w.heap.size w w'):Run w0 wb k ps hs xs l works w':=h.hi (hb.mono h.c.size)
theorem Run.new(hb:Below w0.heap.size w0 wb)(ht:TkIn wb k ps hs xs l works)(hk:KnIn wb w0.heap.size k (allowF ps hs (rsOf xs) l works)):Run w0 wb k ps hs xs l works wb:=
 ⟨hb,hb.size,ht,Cl.refl _,hk,by obtain⟨f,f1,_⟩:=hk;exact f1.lt⟩
theorem Run.allowed(hg:Glob w0)(h:Run w0 wb k ps hs xs l works w){s:Nat}(hs':s<128){R:Value->World->Prop}(hR:∀w',Run w0 wb k ps hs xs l works w'->But k.m w w'->Cl w w'->R (.bool (allowF ps hs (rsOf xs) l works s)) w'):
  PureB Tryz.prog 53 #[.pointer (some k.p),.int .i64 (s:Int)] w0.heap.size w R:=by
 refine PureB.mono (seq_allowed (hg.next h.b) h.t h.b.size h.kn hs') ?_
 rintro v w' b' ⟨rfl,kn,bt⟩
 have hc:=bt.cl h.kn.map
 exact hR w' ⟨h.b.trans b',h.lo,h.tb,h.c.trans hc,kn,h.m⟩ bt hc
theorem seq_Check(hg:Glob w)(hp:PrIn w A0 n0 A1 n1 A2 n2 c2 ps hs xs)(h:SlR w A 3 (l.map Sw.row))(hl:l.length=n)(hnc:n<=c)(hn:n<=40)(hwk:SlR w A3 3 (works.map Sw.row))(hlw:works.length=n3)(ho:SlR w A5 1 (o.map iRow))(hlo:o.length=n5)(hn5:n5<2147483648):
  Pure Tryz.prog 27 #[.agg #[.slice A0 n0 c0,.slice A1 n1 c1,.slice A2 n2 c2],.slice A n c,.slice A3 n3 c3,.slice A5 n5 c5] w fun v _=>v= .tuple #[.int .i64 (ordersF ps hs (rsOf xs) l works o).1,.int .i64 (ordersF ps hs (rsOf xs) l works o).2]:=by
 refine F.sequence_Check.vc _ _ _ _ _ _ _ _ _ _ _ _ _ _ _ _ _ _ _ _ fun w1 x1=> ?_
 have hw:=k0 x1
 refine Pure.mono (seq_begin (hg.next hw) (hp.keep hw) (h.keep hw (Nat.le_refl _)) hl hnc hn (hwk.keep hw (Nat.le_refl _)) hlw) ?_
 intro v w5 b5 hv
 have hw5:=kP hw b5
 unfold ordersF
 by_cases h0:taskF ps hs (rsOf xs) l works≠0
 ·rw[if_pos h0]
  have hv:=hv.1 h0
  subst hv
  exact⟨_,_,rfl,fun _=>rfl,fun k=>absurd h0 k⟩
 rw[if_neg h0]
 obtain⟨k,hv,hk,hkn⟩:=hv.2 (Decidable.not_not.1 h0)
 subst hv
 have hk6:=hk.ok.n
 have run:Run w w5 k ps hs xs l works w5:= .new hw5 hk (hkn.le hw.size)
 unfold checkO
 refine⟨_,_,rfl,fun q=>absurd rfl q,fun _=>⟨fun h1=> ?_,fun h1=> ?_⟩⟩
 ·rw[if_pos (fun q=>by have:=q.1;omega)]
 have h1:n5=n3:=by omega
 have walk:(o.length=works.length/\∀i∈List.range works.length,((i:Nat):Int)∈o)->∀(d j s:Nat)(w':World),n5 - j=d->j<=n5->s<2^6->Run w w5 k ps hs xs l works w'->
   F.sequence_Check.L14 (some k.p) s A5 n5 c5 n5 j w.heap.size w' fun v _=>v= .tuple #[.int .i64 (walkO (allowF ps hs (rsOf xs) l works) s j (o.drop j)).1,.int .i64 (walkO (allowF ps hs (rsOf xs) l works) s j (o.drop j)).2]:=by
  intro hc d
  induction d with
  |zero=>
   intro j s w' hd hj hs' hr
   rw[List.drop_eq_nil_of_le (by omega)]
   exact F.sequence_Check.L14.step _ _ _ _ _ _ _ _ _ _ ⟨fun h=>by omega,fun _=>rfl⟩
  |succ d ih=>
   intro j s w' hd hj hs' hr
   have hjl:j<o.length:=by omega
   have e3:(j:Int)+1=((j+1:Nat):Int):=by omega
   obtain⟨x,hx⟩:∃x:Nat,o[j]=(x:Int)/\x<works.length:=by
    have:=(check_perm hc).mem_iff.1 (List.getElem_mem hjl)
    obtain⟨x,hx,e⟩:=List.mem_map.1 this
    exact⟨x,e.symm,List.mem_range.1 hx⟩
   obtain⟨hbb,ad,hA,hcell,_⟩:=(ho.keep hr.b (Nat.le_refl _)).at_ (fun _=>rfl) hlo hjl
   rw[List.drop_eq_getElem_cons hjl,walkO,hx.1,Int.toNat_natCast]
   rw[hx.1]at hcell
   have hs2:=addB_lt (i:=x) hs' (by omega)
   refine F.sequence_Check.L14.step _ _ _ _ _ _ _ _ _ _ ⟨fun _=>⟨hbb,ad,hA,_,hcell,sh_ok (by omega),?_⟩,fun h=>by omega⟩
   rw[shl_one _ (by omega),or_pow _ (by omega) _ (by omega)]
   refine hr.allowed hg (by omega) fun w13 r13 _ _=>⟨fun _ _ _ h=>(by cases h),_,rfl,fun h2=> ?_,fun h2=>⟨by simp only[inR];omega,?_⟩⟩
   ·rw[if_neg (by rw[h2];decide)]
   ·rw[if_pos (Bool.not_eq_false _|>.mp h2),e3]
    exact ih (j+1) (addB s x) w13 (by omega) (by omega) hs2 r13
 have key:∀(d j:Nat)(w':World),n3 - j=d->j<=n3->Run w w5 k ps hs xs l works w'->(∀i∈List.range j,((i:Nat):Int)∈o)->
   F.sequence_Check.L7 A5 n5 c5 (some k.p) n3 j w.heap.size w' fun v _=>v= .tuple #[.int .i64 (if ¬(o.length=works.length/\∀i∈List.range works.length,((i:Nat):Int)∈o)then((-1,10):Int×Int)else walkO (allowF ps hs (rsOf xs) l works) 0 0 o).1,.int .i64 (if ¬(o.length=works.length/\∀i∈List.range works.length,((i:Nat):Int)∈o)then((-1,10):Int×Int)else walkO (allowF ps hs (rsOf xs) l works) 0 0 o).2]:=by
  intro d
  induction d with
  |zero=>
   intro j w' hd hj hr hin
   have hc:o.length=works.length/\∀i∈List.range works.length,((i:Nat):Int)∈o:=⟨by omega,by rw[show works.length=j by omega];exact hin⟩
   rw[if_neg (fun q=>q hc)]
   refine F.sequence_Check.L7.step _ _ _ _ _ _ _ _ _ ⟨fun h=>by omega,fun _=> ?_⟩
   exact walk hc n5 0 0 w' rfl (by omega) (by decide) hr
  |succ d ih=>
   intro j w' hd hj hr hin
   have e3:(j:Int)+1=((j+1:Nat):Int):=by omega
   refine F.sequence_Check.L7.step _ _ _ _ _ _ _ _ _ ⟨fun _=> ?_,fun h=>by omega⟩
   refine Pure.mono (hasInt (ho.keep hr.b (Nat.le_refl _)) hlo hn5 j) ?_
   rintro v w8 b8 rfl
   refine⟨_,rfl,fun h2=> ?_,fun h2=>⟨by simp only[inR];omega,?_⟩⟩
   ·rw[if_pos (fun q=>of_decide_eq_false h2 (q.2 j (List.mem_range.2 (by omega))))]
   ·rw[e3]
    refine ih (j+1) w8 (by omega) (by omega) (hr.keep b8) fun i hi=> ?_
    rw[List.range_succ]at hi
    rcases List.mem_append.1 hi with hi|hi
    ·exact hin i hi
    ·rw[List.mem_singleton.1 hi]
     exact of_decide_eq_true (Bool.not_eq_false _|>.mp h2)
 exact key n3 0 w5 rfl (by omega) run (by simp)
end

def InR(r:List Int×Int)(v:Value)(w':World):Prop:=∃A n c,v= .tuple #[.slice A n c,.int .i64 r.2]/\SlR w' A 1 (r.1.map iRow)/\r.1.length=n/\n<=c
theorem reach_succ(al:Nat->Bool)(n s:Nat):reachedF al n (s+1)=stepR al n (reachedF al n s) (s+1):=by
 unfold reachedF
 rw[List.range_succ,List.foldl_append]
 rfl
theorem step_len(al:Nat->Bool)(n s:Nat):(reachedF al n s).length<=s+1:=by
 induction s with
 |zero=>simp[reachedF]
 |succ s ih=>
  rw[reach_succ]
  unfold stepR
  split
  ·rw[List.length_append];simp;omega
  ·omega
section
variable {w0 wb w:World} {A0 A1 A2 A A3 A5:Option Addr} {n0 c0 n1 c1 n2 c2 n c n3 c3 n5 c5:Nat} {ps:List Pa} {hs:List Ho} {xs:List Rm} {l works:List Sw} {k:Tk} {o:List Int}
structure Own (wb:World) (m:Nat) (f:Int->Option Bool) (w:World):Prop where
 m:MpR w wb.heap.size 3 4 m f
theorem Own.but{w w':World}{m b:Nat}{f:Int->Option Bool}(h:Own wb m f w)(hb:But b w w')(hlt:b<wb.heap.size):Own wb m f w':=⟨h.m.same (hb.other _ h.m.lt (by have:=h.m.1;omega))⟩
theorem Own.low{w w':World}{m:Nat}{f:Int->Option Bool}(h:Own wb m f w)(hb:Below w.heap.size w w'):Own wb m f w':=⟨h.m.below hb⟩
theorem Own.row{w w':World}{m:Nat}{f:Int->Option Bool}(h:Own wb m f w){B ty:Nat}{A:Option Addr}{n c sz:Nat}{rows:List (List Value)}(ho:OwnR w B ty A n c sz rows)(hg:w.grownBy w' (Value.ownBlock (.slice A n c))):Own wb m f w':=by
 refine⟨h.m.same (hg.block _ h.m.lt fun e=> ?_)⟩
 obtain⟨es,cl,e1⟩:=h.m.isMap
 cases A with
 |none=>cases e
 |some a=>
  obtain⟨cs,e2⟩:=ho.cells a rfl
  cases e
  rw[e1]at e2
  cases e2
theorem grown_hi{w w':World}{B ty:Nat}{A:Option Addr}{n c sz:Nat}{rows:List (List Value)}(ho:OwnR w B ty A n c sz rows)(hg:w.grownBy w' (Value.ownBlock (.slice A n c)))(hB:B<=w.heap.size):Below B w w':=by
 refine below_grown hg (fun i e=> ?_) hB
 cases A with
 |none=>cases e
 |some a=>
  cases e
  exact(ho.blk a rfl).1

theorem reached_L10(hg:Glob w0){mr:Nat}{R:Value->World->Prop}{s:Nat}(hs0:1<=s)(hs':s<=fullN k.n3)(hn6:k.n3<=6){Ao:Option Addr}{no co:Nat}{f:Int->Option Bool}(hno:no<=s)(hf:∀z:Nat,(f (z:Int)).getD false=(reachedF (allowF ps hs (rsOf xs) l works) k.n3 (s - 1)).contains z)
  (next:∀(Ao:Option Addr)(no co:Nat)(f:Int->Option Bool)(w':World),Run w0 wb k ps hs xs l works w'->Own wb mr f w'->no<=s+1->OwnR w' wb.heap.size 3 Ao no co 1 ((reachedF (allowF ps hs (rsOf xs) l works) k.n3 s).map fun(z:Nat)=>iRow z)->(∀z:Nat,(f (z:Int)).getD false=(reachedF (allowF ps hs (rsOf xs) l works) k.n3 s).contains z)->F.sequence_Reached.L7 A3 k.n3 c3 (some k.p) (some mr) Ao no co ((s:Int)+1) w0.heap.size w' R):
  ∀(d i:Nat)(w':World),k.n3 - i=d->i<=k.n3->Run w0 wb k ps hs xs l works w'->Own wb mr f w'->OwnR w' wb.heap.size 3 Ao no co 1 ((reachedF (allowF ps hs (rsOf xs) l works) k.n3 (s - 1)).map fun(z:Nat)=>iRow z)->(((List.range i).any fun i=>s.testBit i&&(reachedF (allowF ps hs (rsOf xs) l works) k.n3 (s - 1)).contains (s^^^2^i))&&allowF ps hs (rsOf xs) l works s)=false->
   F.sequence_Reached.L10 A3 k.n3 c3 (some k.p) (some mr) Ao no co s k.n3 i w0.heap.size w' R:=by
 have h64:=pow64 _ hn6
 have hfl:=full_lt k.n3
 have hrs:reachedF (allowF ps hs (rsOf xs) l works) k.n3 s=stepR (allowF ps hs (rsOf xs) l works) k.n3 (reachedF (allowF ps hs (rsOf xs) l works) k.n3 (s - 1)) s:=by
  have:=reach_succ (allowF ps hs (rsOf xs) l works) k.n3 (s - 1)
  rwa [show s - 1+1=s by omega]at this
 intro d
 induction d with
 |zero=>
  intro i w' hd hi hr hm ho hno2
  have:i=k.n3:=by omega
  subst this
  have e:reachedF (allowF ps hs (rsOf xs) l works) k.n3 s=reachedF (allowF ps hs (rsOf xs) l works) k.n3 (s - 1):=by
   rw[hrs]
   unfold stepR
   rw[if_neg (by rw[hno2];decide)]
  refine F.sequence_Reached.L10.step _ _ _ _ _ _ _ _ _ _ _ _ _ _ ⟨fun h=>by omega,fun _=>⟨by simp only[inR];omega,?_⟩⟩
  refine next Ao no co f w' hr hm (by omega) (by rw[e];exact ho) (by rw[e];exact hf)
 |succ d ih=>
  intro i w' hd hi hr hm ho hno2
  have e3:(i:Int)+1=((i+1:Nat):Int):=by omega
  have go:∀w2,Run w0 wb k ps hs xs l works w2->Own wb mr f w2->OwnR w2 wb.heap.size 3 Ao no co 1 ((reachedF (allowF ps hs (rsOf xs) l works) k.n3 (s - 1)).map fun(z:Nat)=>iRow z)->((s.testBit i&&(reachedF (allowF ps hs (rsOf xs) l works) k.n3 (s - 1)).contains (s^^^2^i))=true->allowF ps hs (rsOf xs) l works s=false)->
    (inR .i64 ((i:Int)+1)/\F.sequence_Reached.L10 A3 k.n3 c3 (some k.p) (some mr) Ao no co s k.n3 ((i:Int)+1) w0.heap.size w2 R):=by
   intro w2 hr2 hm2 ho2 hx
   refine⟨by simp only[inR];omega,?_⟩
   rw[e3]
   refine ih (i+1) w2 (by omega) (by omega) hr2 hm2 ho2 ?_
   rw[List.range_succ,List.any_append]
   simp only[List.any_cons,List.any_nil,Bool.or_false]
   cases ha:allowF ps hs (rsOf xs) l works s with
   |false=>rw[Bool.and_false]
   |true=>
    rw[ha,Bool.and_true]at hno2
    rw[hno2,Bool.false_or,Bool.and_true]
    cases hy:(s.testBit i&&(reachedF (allowF ps hs (rsOf xs) l works) k.n3 (s - 1)).contains (s^^^2^i))with
    |false=>rfl
    |true=>rw[hx hy]at ha;cases ha
  refine F.sequence_Reached.L10.step _ _ _ _ _ _ _ _ _ _ _ _ _ _ ⟨fun _=>⟨sh_ok (by omega),fun h1=>⟨sh_ok (by omega),?_⟩,fun h1=> ?_⟩,fun h=>by omega⟩
  ·have hbit:=(bit_eq (by omega) (by omega)).1 h1
   have hx:=xor_bit hbit
   rw[shl_one _ (by omega),andNot_pow _ (by omega) _ (by omega) hbit]
   refine runOk_look hm.m mpB (by omega) (by omega) ?_
   rw[hf]
   refine⟨fun h2=> ?_,fun h2=>go w' hr hm ho fun q=>by rw[h2,Bool.and_false]at q;cases q⟩
   refine hr.allowed hg (by omega) fun w21 r21 bt cl=>⟨fun _ _ _ h=>(by cases h),_,rfl,fun h3=> ?_,fun h3=>go w21 r21 (hm.but bt r21.m) (ho.cl cl) fun _=>h3⟩
   have hm21:=hm.but bt r21.m
   have ho21:=ho.cl cl
   have e:reachedF (allowF ps hs (rsOf xs) l works) k.n3 s=reachedF (allowF ps hs (rsOf xs) l works) k.n3 (s - 1)++[s]:=by
    rw[hrs]
    unfold stepR
    rw[if_pos]
    rw[Bool.and_eq_true,List.any_eq_true]
    exact⟨⟨i,List.mem_range.2 (by omega),by rw[hbit,h2];rfl⟩,h3⟩
   refine runOk_update hm21.m mpB (by omega) (by omega) true r21.lo r21.b.size fun w22 m22 _ g22=> ?_
   have hi22:Below wb.heap.size w21 w22:=below_grown g22 (fun k hk=>by cases hk;exact hm21.m.1) r21.c.size
   have r22:=r21.hi hi22
   have ho22:=ho21.cl (Cl.map hm21.m g22)
   refine app_row el_Ints (B:=wb.heap.size) r22.lo ho22 (x:= .int .i64 (s:Int)) rfl (by simp[Value.cells,isCell]) r22.c.size (by omega) (by decide) fun A3' c3' w28 o28 g28 _=>⟨by simp only[inR];omega,?_⟩
   refine next A3' (no+1) c3' _ w28 (r22.hi (grown_hi ho22 g28 r22.c.size)) (Own.row ⟨m22⟩ ho22 g28) (by omega) (by rw[e,List.map_append];exact o28) fun z=> ?_
   rw[e,List.contains_append]
   unfold putM
   by_cases hz:(z:Int)=s
   ·rw[if_pos hz]
    have:z=s:=by omega
    subst this
    simp
   ·rw[if_neg hz,hf]
    have:z≠s:=by omega
    simp[this]
  ·exact go w' hr hm ho fun q=>by
    rw[Bool.and_eq_true]at q
    exact absurd ((bit_eq (by omega) (by omega)).2 q.1) h1
theorem seq_Reached(hg:Glob w)(hp:PrIn w A0 n0 A1 n1 A2 n2 c2 ps hs xs)(h:SlR w A 3 (l.map Sw.row))(hl:l.length=n)(hnc:n<=c)(hn:n<=40)(hwk:SlR w A3 3 (works.map Sw.row))(hlw:works.length=n3):
  Pure Tryz.prog 24 #[.agg #[.slice A0 n0 c0,.slice A1 n1 c1,.slice A2 n2 c2],.slice A n c,.slice A3 n3 c3] w (InR (reachF ps hs (rsOf xs) l works)):=by
 refine F.sequence_Reached.vc _ _ _ _ _ _ _ _ _ _ _ _ _ _ _ _ _ fun w1 x1=> ?_
 have hw:=k0 x1
 refine Pure.mono (seq_begin (hg.next hw) (hp.keep hw) (h.keep hw (Nat.le_refl _)) hl hnc hn (hwk.keep hw (Nat.le_refl _)) hlw) ?_
 intro v w5 b5 hv
 have hw5:=kP hw b5
 unfold reachF
 by_cases h0:taskF ps hs (rsOf xs) l works≠0
 ·rw[if_pos h0]
  have hv:=hv.1 h0
  subst hv
  exact⟨_,_,rfl,fun _=>⟨_,_,_,rfl,.inl rfl,rfl,Nat.le_refl _⟩,fun k=>absurd h0 k⟩
 rw[if_neg h0]
 obtain⟨k,hv,hk,hkn⟩:=hv.2 (Decidable.not_not.1 h0)
 subst hv
 have hk6:=hk.ok.n
 have hk3:=hk.lw
 have h64:=pow64 k.n3 (by omega)
 have hfl:=full_lt k.n3
 have run:Run w w5 k ps hs xs l works w5:= .new hw5 hk (hkn.le hw.size)
 have en:n3=k.n3:=by omega
 subst en
 rw[hk3]
 refine⟨_,_,rfl,fun q=>absurd rfl q,fun _=> ?_⟩
 refine runOk_makeMap (tk:=3) (te:=4) run.b.size fun w8 m8 b8=> ?_
 have r8:=run.keep b8
 refine runOk_update m8 mpB (z:=0) (by omega) (by omega) true run.b.size r8.b.size fun w9 m9 _ g9=> ?_
 have r9:=r8.hi (below_grown g9 (fun i hi=>by cases hi;exact m8.1) r8.c.size)
 refine runOk_lit el_Ints [.int .i64 0] (by simp[Value.cells]) (by simp) r9.b.size fun Ao co w12 o12 b12=> ?_
 have r12:=r9.keep b12
 have key:∀(d s:Nat)(Ao:Option Addr)(no co:Nat)(f:Int->Option Bool)(w':World),fullN k.n3+1 - s=d->1<=s->s<=fullN k.n3+1->Run w w5 k ps hs xs l works w'->Own w5 w5.heap.size f w'->no<=s->OwnR w' w5.heap.size 3 Ao no co 1 ((reachedF (allowF ps hs (rsOf xs) l works) k.n3 (s - 1)).map fun(z:Nat)=>iRow z)->(∀z:Nat,(f (z:Int)).getD false=(reachedF (allowF ps hs (rsOf xs) l works) k.n3 (s - 1)).contains z)->
   F.sequence_Reached.L7 A3 k.n3 c3 (some k.p) (some w5.heap.size) Ao no co s w.heap.size w' (InR ((reachedF (allowF ps hs (rsOf xs) l works) k.n3 (fullN k.n3)).map fun(s:Nat)=>(s:Int),0)):=by
  intro d
  induction d with
  |zero=>
   intro s Ao no co f w' hd hs0 hs' hr hm hno ho hf
   have:s=fullN k.n3+1:=by omega
   subst this
   refine F.sequence_Reached.L7.step _ _ _ _ _ _ _ _ _ _ _ _ (Pure.mono (seq_all hr.t.t (by omega)) ?_)
   rintro v w15 b15 rfl
   refine⟨_,rfl,fun h=>by omega,fun _=>⟨Ao,no,co,rfl,?_,?_,ho.len_le⟩⟩
   ·have:=(ho.below b15).sl
    rw[Nat.add_sub_cancel]at this
    rw[List.map_map]
    exact this
   ·have:=ho.len
    rw[Nat.add_sub_cancel]at this
    simpa using this
  |succ d ih=>
   intro s Ao no co f w' hd hs0 hs' hr hm hno ho hf
   refine F.sequence_Reached.L7.step _ _ _ _ _ _ _ _ _ _ _ _ (Pure.mono (seq_all hr.t.t (by omega)) ?_)
   rintro v w15 b15 rfl
   refine⟨_,rfl,fun _=> ?_,fun h=>by omega⟩
   refine reached_L10 hg hs0 (by omega) (by omega) hno hf (fun Ao no co f w' hr hm hno ho hf=> ?_) k.n3 0 w15 rfl (by omega) (hr.keep b15) (hm.low b15) (ho.below b15) rfl
   have e3:(s:Int)+1=((s+1:Nat):Int):=by omega
   rw[e3]
   exact ih (s+1) Ao no co f w' (by omega) (by omega) (by omega) hr hm hno (by rw[Nat.add_sub_cancel];exact ho) (by rw[Nat.add_sub_cancel];exact hf)
 refine key _ 1 Ao 1 co _ w12 rfl (by omega) (by omega) r12 ⟨m9.below b12⟩ (by omega) (o12.base r9.c.size) fun z=> ?_
 unfold putM
 by_cases hz:(z:Int)=0
 ·rw[if_pos hz]
  have:z=0:=by omega
  subst this
  rfl
 ·rw[if_neg hz]
  have:z≠0:=by omega
  simp[reachedF,this]
end
end Go.Proofs.YtgfkeadgjkfomaaGreatDoor.B

set_option maxRecDepth 100000
set_option maxHeartbeats 4000000
namespace Go.Proofs.YtgfkeadgjkfomaaGreatDoor.F
open Go Go.RowKit Go.Proofs Go.Proofs.YtgfkeadgjkfomaaGreatDoor.Vc
def garboardref48_Copy.L3(a:Int)(b:Option Addr)(c d:Nat)(e:Option Addr)(f g:Nat)(i:Option Addr)(j l:Nat)(m:Option Addr)(n o:Nat)(p:Option Addr)(q r:Nat)(s:Option Addr)(t u:Nat)(v:Option Addr)(x y:Nat)(z:Option Addr)(A C:Nat)(D:Option Addr)(E G B:Nat)(w:World)(R:Value->World->Prop):Prop:=At Tryz.prog 17 34 (loopAt Tryz.f17 3) [(1,.loc 1 0),(2,.loc 2 0),(3,.loc 3 0),(4,.v (.int .i64 a))] [⟨1,false,28,[(.slice b c d),(.slice e f g),(.slice i j l)]⟩,⟨2,false,28,[(.slice m n o),(.slice p q r),(.slice s t u)]⟩,⟨3,false,28,[(.slice v x y),(.slice z A C),(.slice D E G)]⟩] B w R
noncomputable def garboardref48_Copy.cx(w:World)(B:Nat)(R:Value->World->Prop):Cx:=⟨Tryz.prog,17,34,Tryz.f17.results.toList,[((true,3),[1,2,3,4],[1,2,3])],[(5,5,2),(6,0,2),(6,3,2),(7,3,2),(7,4,2)],w,B,R⟩
theorem garboardref48_Copy.L3.step(b:Int)(p:Option Addr)(q r:Nat)(s:Option Addr)(t u:Nat)(d:Option Addr)(c v:Nat)(x:Option Addr)(y z:Nat)(A:Option Addr)(C D:Nat)(E:Option Addr)(G H:Nat)(e:Option Addr)(f g:Nat)(i:Option Addr)(j l:Nat)(m:Option Addr)(n o B:Nat)(w:World)(R:Value->World->Prop)
  (h:(((b<(c:Int))->((0<=b/\b<c)/\∃N,d=some N/\(∃O Q S T U V X Y Z,CellsAt w (N.add ((b).toNat*7)) [.string O,.int .i64 Q,.slice S T U,.string V,.string X,.int .i64 Y,.int .i64 Z]/\(RunOk P (Instr.alloc 87 true (.tuple #[])) B [28,28,28] w fun d0 a0=>∃(a:Addr),d0= .pointer (some a)/\(∃(I:List Value)(J:Nat),B<=a.block/\a.spot=none/\a0.heap[a.block]? =some (.cells I.toArray J (0,0))/\a.off+7<=I.length/\hasType J [⟨1,false,28,[.slice p q r,.slice s t u,.slice d c v]⟩,⟨2,false,28,[.slice x y z,.slice A C D,.slice E G H]⟩,⟨3,false,28,[.slice e f g,.slice i j l,.slice m n o]⟩]=false/\∀a1,Wrote a0 a1 a.block J (setCells I a.off [.string O,.int .i64 Q,.slice S T U,.string V,.string X,.int .i64 Y,.int .i64 Z])->(RunOk P (Instr.buildSlice 85 0 #[]) B [28,28,28] a1 fun d1 a2=>∃a3 a4 a5,d1= .slice a3 a4 a5/\(∃a6 a7 a8,CellsAt a2 (a.add 2) [.slice a6 a7 a8]/\(RunOk P (Builtin.append_ #[85,85] 85 #[.slice a3 a4 a5,.slice a6 a7 a8]) B [28,28,28] a2 fun d2 a9=>∃b0 b1 b2,d2= .slice b0 b1 b2/\(∃(K:List Value)(L:Nat),B<=(a.add 2).block/\(a.add 2).spot=none/\a9.heap[(a.add 2).block]? =some (.cells K.toArray L (0,0))/\(a.add 2).off+1<=K.length/\hasType L [⟨1,false,28,[.slice p q r,.slice s t u,.slice d c v]⟩,⟨2,false,28,[.slice x y z,.slice A C D,.slice E G H]⟩,⟨3,false,28,[.slice e f g,.slice i j l,.slice m n o]⟩]=false/\∀M,Wrote a9 M (a.add 2).block L (setCells K (a.add 2).off [.slice b0 b1 b2])->(∃b3 b4 b5 b6 b7 b8 b9 c0 c1,CellsAt M a [.string b3,.int .i64 b4,.slice b5 b6 b7,.string b8,.string b9,.int .i64 c0,.int .i64 c1]/\(RunOk P (Instr.buildSlice 26 1 #[(0,(.agg #[.string b3,.int .i64 b4,.slice b5 b6 b7,.string b8,.string b9,.int .i64 c0,.int .i64 c1]))]) B [28,28,28] M fun d3 d4=>∃c2 c3 c4,d3= .slice c2 c3 c4/\(RunOk P (Builtin.append_ #[26,26] 26 #[.slice m n o,.slice c2 c3 c4]) B [28,28,28] d4 fun d5 d6=>∃c5 c6 c7,d5= .slice c5 c6 c7/\(inR .i64 (b+1)/\(∀c8,Ext B [28] d6 c8->(garboardref48_Copy.L3 (b+1) p q r s t u d c v x y z A C D E G H e f g i j l c5 c6 c7 B c8 R)))))))))))))))/\(¬(b<(c:Int))->(∀c9,Ext B [28] w c9->(R (.agg #[.slice e f g,.slice i j l,.slice m n o]) c9))))):
  garboardref48_Copy.L3 b p q r s t u d c v x y z A C D E G H e f g i j l m n o B w R:=
 loop_of_run (garboardref48_Copy.cx w B R) 100000 (loopAt Tryz.f17 3) _ _ follows Tryz.func17 rfl rfl rfl (Eq.mp (by kernel_rfl) h)
theorem garboardref48_Copy.vc(a:Option Addr)(b c:Nat)(d:Option Addr)(e f:Nat)(g:Option Addr)(i j:Nat)(w:World)(R:Value->World->Prop)
  (h:(∀l,Ext w.heap.size [] w l->(Pure P 13 #[.agg #[.slice a b c,.slice d e f]] l fun t u=>∃m n o p q r,t= .agg #[.slice m n o,.slice p q r]/\(∀s,Ext w.heap.size [] u s->(garboardref48_Copy.L3 (0:Int) a b c d e f g i j none 0 0 none 0 0 none 0 0 m n o p q r none 0 0 w.heap.size s R))))):
  Pure P 17 #[.agg #[.slice a b c,.slice d e f,.slice g i j]] w R:=
 pure_of_run (garboardref48_Copy.cx w w.heap.size R) 100000 follows Tryz.func17 rfl rfl rfl rfl rfl rfl rfl (Eq.mp (by kernel_rfl) h)

def garboardref48_Few.L2(a:Int)(b:Option Addr)(c d:Nat)(e:Option Addr)(f g:Nat)(i:Option Addr)(j l B:Nat)(w:World)(R:Value->World->Prop):Prop:=At Tryz.prog 40 63 (loopAt Tryz.f40 2) [(1,.loc 1 0),(3,.v (.int .i64 a))] [⟨1,false,28,[(.slice b c d),(.slice e f g),(.slice i j l)]⟩] B w R
def garboardref48_Few.L8(a b:Int)(c:Option Addr)(d e:Nat)(f:Option Addr)(g i:Nat)(j:Option Addr)(l m:Nat)(n:ByteArray)(o:Int)(p:Option Addr)(q r:Nat)(s t:ByteArray)(u v:Int)(B:Nat)(w:World)(R:Value->World->Prop):Prop:=At Tryz.prog 40 63 (loopAt Tryz.f40 8) [(1,.loc 1 0),(3,.v (.int .i64 a)),(4,.loc 4 0),(5,.v (.int .i64 b))] [⟨1,false,28,[(.slice c d e),(.slice f g i),(.slice j l m)]⟩,⟨4,false,87,[(.string n),(.int .i64 o),(.slice p q r),(.string s),(.string t),(.int .i64 u),(.int .i64 v)]⟩] B w R
noncomputable def garboardref48_Few.cx(w:World)(B:Nat)(R:Value->World->Prop):Cx:=⟨Tryz.prog,40,63,Tryz.f40.results.toList,[((true,2),[1,3],[1]),((true,8),[1,3,4,5],[1,4])],[],w,B,R⟩
theorem garboardref48_Few.L2.step(a:Int)(g:Option Addr)(i j:Nat)(l:Option Addr)(m n:Nat)(o:Option Addr)(b q B:Nat)(w:World)(R:Value->World->Prop)
  (h:(((a<(b:Int))->((0<=a/\a<b)/\∃r,o=some r/\(∃c s t d u e f v x,CellsAt w (r.add ((a).toNat*7)) [.string c,.int .i64 s,.slice t d u,.string e,.string f,.int .i64 v,.int .i64 x]/\(((((ByteArray.size c:Int):Int)>70)->(∀y,Ext B [] w y->(R (.bool false) y)))/\(¬(((ByteArray.size c:Int):Int)>70)->(((((ByteArray.size e:Int):Int)>40)->(∀z,Ext B [] w z->(R (.bool false) z)))/\(¬(((ByteArray.size e:Int):Int)>40)->(((((ByteArray.size f:Int):Int)>40)->(∀A,Ext B [] w A->(R (.bool false) A)))/\(¬(((ByteArray.size f:Int):Int)>40)->((((d:Int)>8)->(∀C,Ext B [] w C->(R (.bool false) C)))/\(¬((d:Int)>8)->(∀D,Ext B [] w D->(garboardref48_Few.L8 a (0:Int) g i j l m n o b q c s t d u e f v x B D R)))))))))))))/\(¬(a<(b:Int))->(Pure P 36 #[.agg #[.slice g i j,.slice l m n]] w fun G E=>∃p,G= .bool p/\((p=true->(R (.bool (decide ((b:Int)<=(17:Int)))) E))/\(p=false->(R (.bool false) E))))))):
  garboardref48_Few.L2 a g i j l m n o b q B w R:=
 loop_of_run (garboardref48_Few.cx w B R) 100000 (loopAt Tryz.f40 2) _ _ follows Tryz.func40 rfl rfl rfl (Eq.mp (by kernel_rfl) h)
theorem garboardref48_Few.L8.step(c a:Int)(d:Option Addr)(e f:Nat)(g:Option Addr)(i j:Nat)(l:Option Addr)(m n:Nat)(q:ByteArray)(r:Int)(o:Option Addr)(b s:Nat)(t u:ByteArray)(v x:Int)(B:Nat)(w:World)(R:Value->World->Prop)
  (h:(((a<(b:Int))->((0<=a/\a<b)/\∃y,o=some y/\(∃p,CellsAt w (y.add ((a).toNat*1)) [.string p]/\(((((ByteArray.size p:Int):Int)>40)->(R (.bool false) w))/\(¬(((ByteArray.size p:Int):Int)>40)->(inR .i64 (a+1)/\(garboardref48_Few.L8 c (a+1) d e f g i j l m n q r o b s t u v x B w R)))))))/\(¬(a<(b:Int))->(inR .i64 (c+1)/\(garboardref48_Few.L2 (c+1) d e f g i j l m n B w R))))):
  garboardref48_Few.L8 c a d e f g i j l m n q r o b s t u v x B w R:=
 loop_of_run (garboardref48_Few.cx w B R) 100000 (loopAt Tryz.f40 8) _ _ follows Tryz.func40 rfl rfl rfl (Eq.mp (by kernel_rfl) h)
theorem garboardref48_Few.vc(a:Option Addr)(b c:Nat)(d:Option Addr)(e f:Nat)(g:Option Addr)(i j:Nat)(w:World)(R:Value->World->Prop)
  (h:(∀l,Ext w.heap.size [] w l->(garboardref48_Few.L2 (0:Int) a b c d e f g i j w.heap.size l R))):
  Pure P 40 #[.agg #[.slice a b c,.slice d e f,.slice g i j]] w R:=
 pure_of_run (garboardref48_Few.cx w w.heap.size R) 100000 follows Tryz.func40 rfl rfl rfl rfl rfl rfl rfl (Eq.mp (by kernel_rfl) h)

end Go.Proofs.YtgfkeadgjkfomaaGreatDoor.F

namespace Go.Proofs.YtgfkeadgjkfomaaGreatDoor.B
open Go Go.RowKit Go.Proofs Go.Proofs.YtgfkeadgjkfomaaGreatDoor.Vc

structure PrRaw (w:World) (A0:Option Addr) (n0 c0:Nat) (A1:Option Addr) (n1 c1:Nat) (A2:Option Addr) (n2 c2:Nat) (ps:List Pa) (hs:List Ho) (xs:List Rm):Prop where
 c:CgRaw w A0 n0 A1 n1 ps hs
 z0:A0=none->c0=0
 z1:A1=none->c1=0
 r:SlR w A2 7 (xs.map Rm.row)
 l:xs.length=n2
 n:n2<9223372036854775808
 k:n2<=c2
 f:∀x∈xs,SlR w x.A 1 (x.r.fac.map sRow)/\x.r.fac.length=x.n/\x.n<9223372036854775808/\(x.A=none->x.c=0)
def fewRu(r:Ru):Bool:=decide (r.name.size<=70/\r.low.size<=40/\r.high.size<=40/\r.fac.length<=8)&&r.fac.all fun s=>decide (s.size<=40)
def fewPr(ps:List Pa)(hs:List Ho)(rs:List Ru):Bool:=rs.all fewRu&&(fewC ps hs&&decide (rs.length<=17))
section
variable {w w':World} {A0 A1 A2:Option Addr} {n0 c0 n1 c1 n2 c2:Nat} {ps:List Pa} {hs:List Ho} {xs:List Rm}
theorem PrRaw.keep(h:PrRaw w A0 n0 c0 A1 n1 c1 A2 n2 c2 ps hs xs)(hb:Below w.heap.size w w'):PrRaw w' A0 n0 c0 A1 n1 c1 A2 n2 c2 ps hs xs:=
 ⟨h.c.keep hb,h.z0,h.z1,h.r.keep hb (Nat.le_refl _),h.l,h.n,h.k,fun x hx=>⟨(h.f x hx).1.keep hb (Nat.le_refl _),(h.f x hx).2⟩⟩
theorem PrRaw.few(h:PrRaw w A0 n0 c0 A1 n1 c1 A2 n2 c2 ps hs xs)(hf:fewPr ps hs (rsOf xs)=true):PrIn w A0 n0 A1 n1 A2 n2 c2 ps hs xs:=by
 unfold fewPr at hf
 rw[Bool.and_eq_true,Bool.and_eq_true]at hf
 obtain⟨h1,h2,h3⟩:=hf
 have h3:=of_decide_eq_true h3
 refine⟨h.c.few h2,h.r,h.l,fun x hx=> ?_,by unfold rsOf at h3;rw[List.length_map,h.l]at h3;exact h3,h.k⟩
 have hr:=List.all_eq_true.1 h1 x.r (List.mem_map_of_mem hx)
 unfold fewRu at hr
 rw[Bool.and_eq_true]at hr
 obtain⟨k1,k2⟩:=hr
 have k1:=of_decide_eq_true k1
 refine⟨(h.f x hx).1,(h.f x hx).2.1,⟨fun s hs'=> ?_,by unfold SmS;omega,by unfold SmS;omega,by omega,k1.2.2.2⟩,(h.f x hx).2.2.2⟩
 have:=of_decide_eq_true (List.all_eq_true.1 k2 s hs')
 unfold SmS
 omega
theorem rule_bad{i:Nat}(hi:i<xs.length)(h:fewRu xs[i].r=false):fewPr ps hs (rsOf xs)=false:=by
 unfold fewPr
 rw[all_false (x:=xs[i].r) (List.mem_map_of_mem (List.getElem_mem hi)) h,Bool.false_and]
theorem r48_Few(h:PrRaw w A0 n0 c0 A1 n1 c1 A2 n2 c2 ps hs xs):
  Pure Tryz.prog 40 #[.agg #[.slice A0 n0 c0,.slice A1 n1 c1,.slice A2 n2 c2]] w fun v _=>v= .bool (fewPr ps hs (rsOf xs)):=by
 have hl:=h.l
 have hn:=h.n
 have key:∀(d i:Nat)(w':World),n2 - i=d->i<=n2->Below w.heap.size w w'->(∀x∈xs.take i,fewRu x.r=true)->F.garboardref48_Few.L2 i A0 n0 c0 A1 n1 c1 A2 n2 c2 w.heap.size w' fun v _=>v= .bool (fewPr ps hs (rsOf xs)):=by
  intro d
  induction d with
  |zero=>
   intro i w' hd hi hw ha
   rw[List.take_of_length_le (by omega)]at ha
   have hall:(rsOf xs).all fewRu=true:=List.all_eq_true.2 fun r hr=>by
    obtain⟨x,hx,rfl⟩:=List.mem_map.1 hr
    exact ha x hx
   refine F.garboardref48_Few.L2.step _ _ _ _ _ _ _ _ _ _ _ _ _ ⟨fun h=>by omega,fun _=>Pure.mono (r47_Few (h.keep hw).c) ?_⟩
   rintro v w17 _ rfl
   unfold fewPr
   rw[hall,Bool.true_and]
   refine⟨_,rfl,fun k=> ?_,fun k=> ?_⟩
   ·rw[k,Bool.true_and]
    refine congrArg Value.bool ?_
    rw[decide_eq_decide]
    unfold rsOf
    rw[List.length_map]
    omega
   ·rw[k,Bool.false_and]
  |succ d ih=>
   intro i w' hd hi hw ha
   have hil:i<xs.length:=by omega
   have e3:(i:Int)+1=((i+1:Nat):Int):=by omega
   obtain⟨hb,a,hA,hcell,_⟩:=((h.keep hw).r).at_ (fun _=>rfl) hl hil
   obtain⟨f1,f2,f3,_⟩:=h.f _ (List.getElem_mem hil)
   have bad:fewRu xs[i].r=false->∀w2:World,(fun(v:Value) (_:World)=>v= .bool (fewPr ps hs (rsOf xs))) (.bool false) w2:=fun k _=>by
    show Value.bool false=_
    rw[rule_bad hil k]
   have badd:¬(xs[i].r.name.size<=70/\xs[i].r.low.size<=40/\xs[i].r.high.size<=40/\xs[i].r.fac.length<=8)->fewRu xs[i].r=false:=fun k=>by
    unfold fewRu
    rw[decide_eq_false k,Bool.false_and]
   refine F.garboardref48_Few.L2.step _ _ _ _ _ _ _ _ _ _ _ _ _ ⟨fun _=>⟨hb,a,hA,_,_,_,_,_,_,_,_,_,hcell,fun k1 w2 _=>bad (badd (by omega)) w2,fun k1=>⟨fun k2 w2 _=>bad (badd (by omega)) w2,fun k2=>⟨fun k3 w2 _=>bad (badd (by omega)) w2,fun k3=>⟨fun k4 w2 _=>bad (badd (by omega)) w2,fun k4 w14 x14=> ?_⟩⟩⟩⟩,fun h=>by omega⟩
   have inner:∀(e j:Nat)(w':World),xs[i].n - j=e->j<=xs[i].n->Below w.heap.size w w'->(∀s∈xs[i].r.fac.take j,decide (s.size<=40)=true)->F.garboardref48_Few.L8 i j A0 n0 c0 A1 n1 c1 A2 n2 c2 xs[i].r.name xs[i].r.kind xs[i].A xs[i].n xs[i].c xs[i].r.low xs[i].r.high xs[i].r.a xs[i].r.b w.heap.size w' fun v _=>v= .bool (fewPr ps hs (rsOf xs)):=by
    intro e
    induction e with
    |zero=>
     intro j w' he hj hw hs'
     rw[List.take_of_length_le (by omega)]at hs'
     refine F.garboardref48_Few.L8.step _ _ _ _ _ _ _ _ _ _ _ _ _ _ _ _ _ _ _ _ _ _ _ ⟨fun h=>by omega,fun _=>⟨by simp only[inR];omega,?_⟩⟩
     rw[e3]
     refine ih (i+1) w' (by omega) (by omega) hw fun x hx=> ?_
     rw[List.take_add_one,List.getElem?_eq_getElem hil]at hx
     rcases List.mem_append.1 hx with hx|hx
     ·exact ha x hx
     ·simp only[Option.toList_some,List.mem_singleton]at hx
      subst hx
      unfold fewRu
      rw[decide_eq_true (show _ from⟨by omega,by omega,by omega,by omega⟩),Bool.true_and]
      exact List.all_eq_true.2 hs'
    |succ e ihe=>
     intro j w' he hj hw hs'
     have hjl:j<xs[i].r.fac.length:=by omega
     have ej:(j:Int)+1=((j+1:Nat):Int):=by omega
     obtain⟨hb,a,hA,hcell,_⟩:=(f1.keep hw (Nat.le_refl _)).at_ (fun _=>rfl) f2 hjl
     refine F.garboardref48_Few.L8.step _ _ _ _ _ _ _ _ _ _ _ _ _ _ _ _ _ _ _ _ _ _ _ ⟨fun _=>⟨hb,a,hA,_,hcell,fun k=>bad ?_ w',fun k=>⟨by simp only[inR];omega,?_⟩⟩,fun h=>by omega⟩
     ·unfold fewRu
      rw[all_false (x:=xs[i].r.fac[j]) (List.getElem_mem hjl) (decide_eq_false (by omega)),Bool.and_false]
     ·rw[ej]
      refine ihe (j+1) w' (by omega) (by omega) hw fun s hs2=> ?_
      rw[List.take_add_one,List.getElem?_eq_getElem hjl]at hs2
      rcases List.mem_append.1 hs2 with hs2|hs2
      ·exact hs' s hs2
      ·simp only[Option.toList_some,List.mem_singleton]at hs2
       subst hs2
       exact decide_eq_true (by omega)
   exact inner xs[i].n 0 w14 rfl (by omega) (kE hw x14) (by simp)
 exact F.garboardref48_Few.vc _ _ _ _ _ _ _ _ _ _ _ fun w1 x1=>key n2 0 w1 rfl (by omega) (k0 x1) (by simp)

theorem el_Rus:El Tryz.prog 26 87 7 96:=El.of (by kernel_rfl)
theorem OwnR.z{w:World}{B ty:Nat}{A:Option Addr}{n c sz:Nat}{rows:List (List Value)}(h:OwnR w B ty A n c sz rows)(hA:A=none):c=0:=by
 subst hA
 rcases h.1.2 with⟨h1,_⟩|⟨g,cap,cur,h1,_⟩
 ·cases h1;rfl
 ·cases h1
def Kq(w w':World):Prop:=∀(i ty:Nat)(cs:Array Value),ty≠87->ty≠28->w.heap[i]? =some (.cells cs ty (0,0))->w'.heap[i]? =some (.cells cs ty (0,0))
theorem Kq.trans{w w1 w2:World}(h:Kq w w1)(k:Kq w1 w2):Kq w w2:=fun i ty cs h1 h2 e=>k i ty cs h1 h2 (h i ty cs h1 h2 e)
theorem Kq.low{w w':World}(h:Below w.heap.size w w'):Kq w w':=fun i ty cs _ _ e=>heap_keep e h
theorem Kq.ext{B:Nat}{w w':World}(x:Ext B [28] w w'):Kq w w':=fun i ty cs _ h2 e=>by
 rcases x.other i (Array.getElem?_eq_some_iff.1 e).1 with q|⟨t,ht,c,c',fr,q,_⟩
 ·exact q.trans e
 ·rw[e]at q
  cases q
  exact absurd (List.mem_singleton.1 ht) h2
theorem Kq.wrote{w w':World}{b:Nat}{cs cs0:List Value}(hw:Wrote w w' b 87 cs)(h0:w.heap[b]? =some (.cells cs0.toArray 87 (0,0))):Kq w w':=fun i ty c h1 _ e=>by
 rw[hw.rest i fun q=> ?_]
 ·exact e
 ·subst q
  rw[h0]at e
  cases e
  exact h1 rfl
theorem Kq.grown{w w':World}{B:Nat}{A:Option Addr}{n c sz:Nat}{rows:List (List Value)}(ho:OwnR w B 87 A n c sz rows)(hg:w.grownBy w' (Value.ownBlock (.slice A n c))):Kq w w':=fun i ty cs h1 _ e=>by
 rw[hg.block i (Array.getElem?_eq_some_iff.1 e).1 fun q=> ?_]
 ·exact e
 ·cases A with
  |none=>cases q
  |some a=>
   obtain⟨cs',e'⟩:=ho.cells a rfl
   cases q
   rw[e]at e'
   cases e'
   exact h1 rfl
theorem OwnR.kq{w w':World}{B ty:Nat}{A:Option Addr}{n c sz:Nat}{rows:List (List Value)}(h:OwnR w B ty A n c sz rows)(k:Kq w w')(h1:ty≠87)(h2:ty≠28):OwnR w' B ty A n c sz rows:=
 h.other fun a ha=>by
  obtain⟨cs,e⟩:=h.cells a ha
  rw[e]
  exact k _ _ _ h1 h2 e
theorem r48_Copy(h:PrIn w A0 n0 A1 n1 A2 n2 c2 ps hs xs)(hz0:A0=none->c0=0)(hz1:A1=none->c1=0):
  Pure Tryz.prog 17 #[.agg #[.slice A0 n0 c0,.slice A1 n1 c1,.slice A2 n2 c2]] w fun v w'=>∃B0 d0 B1 d1 B2 d2 ys,v= .agg #[.slice B0 n0 d0,.slice B1 n1 d1,.slice B2 n2 d2]/\PrIn w' B0 n0 B1 n1 B2 n2 d2 ps hs ys/\rsOf ys=rsOf xs/\OwnR w' w.heap.size 61 B1 n1 d1 7 (hs.map Ho.row):=by
 have hl:=h.l
 have hn:=h.n
 refine F.garboardref48_Copy.vc _ _ _ _ _ _ _ _ _ _ _ fun w1 x1=> ?_
 have hw:=k0 x1
 refine Pure.mono (r47_CopyO (h.keep hw).c hz0 hz1) ?_
 rintro v w5 b5 ⟨B0,d0,B1,d1,rfl,o0,o1⟩
 have hw5:=kP hw b5
 refine⟨_,_,_,_,_,_,rfl,fun w6 x6=> ?_⟩
 have key:∀(d i:Nat)(Ao:Option Addr)(no co:Nat)(ys:List Rm)(w':World),n2 - i=d->i<=n2->Below w.heap.size w w'->Kq w5 w'->OwnR w' w.heap.size 87 Ao no co 7 (ys.map Rm.row)->rsOf ys=rsOf (xs.take i)->(∀y∈ys,OwnR w' w.heap.size 57 y.A y.n y.c 1 (y.r.fac.map sRow)/\SmRu y.r)->
   F.garboardref48_Copy.L3 i A0 n0 c0 A1 n1 c1 A2 n2 c2 none 0 0 none 0 0 none 0 0 B0 n0 d0 B1 n1 d1 Ao no co w.heap.size w' fun v w'=>∃B0 d0 B1 d1 B2 d2 ys,v= .agg #[.slice B0 n0 d0,.slice B1 n1 d1,.slice B2 n2 d2]/\PrIn w' B0 n0 B1 n1 B2 n2 d2 ps hs ys/\rsOf ys=rsOf xs/\OwnR w' w.heap.size 61 B1 n1 d1 7 (hs.map Ho.row):=by
  intro d
  induction d with
  |zero=>
   intro i Ao no co ys w' hd hi hb hk ho hr hy
   rw[List.take_of_length_le (by omega)]at hr
   refine F.garboardref48_Copy.L3.step _ _ _ _ _ _ _ _ _ _ _ _ _ _ _ _ _ _ _ _ _ _ _ _ _ _ _ _ _ _ _ ⟨fun h=>by omega,fun _ w45 x45=> ?_⟩
   have k45:=Kq.ext x45
   have ho:=ho.extT x45 (by decide)
   have hnl:no=n2:=by
    have h1:=ho.len
    rw[List.length_map]at h1
    have:=congrArg List.length hr
    unfold rsOf at this
    rw[List.length_map,List.length_map]at this
    omega
   subst hnl
   have hyl:ys.length=no:=by have:=ho.len;rwa [List.length_map]at this
   have p0:=o0.kq (hk.trans k45) (by decide) (by decide)
   have p1:=o1.kq (hk.trans k45) (by decide) (by decide)
   refine⟨_,_,_,_,_,_,ys,rfl,⟨⟨p0.sl,p1.sl,h.c.lp,h.c.lh,h.c.sp,h.c.sh,h.c.np,h.c.nh⟩,ho.sl,hyl,fun y hy'=> ?_,hn,ho.len_le⟩,hr,p1.base hw.size⟩
   obtain⟨q1,q2⟩:=hy y hy'
   have q1:=q1.kq k45 (by decide) (by decide)
   have:=q1.len
   rw[List.length_map]at this
   exact⟨q1.sl,this,q2,q1.z⟩
  |succ d ih=>
   intro i Ao no co ys w' hd hi hb hk ho hr hy
   have hil:i<xs.length:=by omega
   have e3:(i:Int)+1=((i+1:Nat):Int):=by omega
   have hxi:=h.f _ (List.getElem_mem hil)
   have hfl:=hxi.s.len
   have hxl:=hxi.l
   have hnl:no<=17:=by
    have h1:=ho.len
    rw[List.length_map]at h1
    have:=congrArg List.length hr
    unfold rsOf at this
    rw[List.length_map,List.length_map,List.length_take]at this
    omega
   obtain⟨hbb,a,hA,hcell,_⟩:=(h.keep hb).at_ hil
   refine F.garboardref48_Copy.L3.step _ _ _ _ _ _ _ _ _ _ _ _ _ _ _ _ _ _ _ _ _ _ _ _ _ _ _ _ _ _ _ ⟨fun _=>⟨hbb,a,hA,_,_,_,_,_,_,_,_,_,hcell,?_⟩,fun h=>by omega⟩
   refine runOk_alloc (z:= .agg #[.string ⟨#[]⟩,.int .i64 0,.slice none 0 0,.string ⟨#[]⟩,.string ⟨#[]⟩,.int .i64 0,.int .i64 0]) _ (by kernel_rfl) hb.size fun w15 h15 b15 l15=> ?_
   refine⟨[.string ⟨#[]⟩,.int .i64 0,.slice none 0 0,.string ⟨#[]⟩,.string ⟨#[]⟩,.int .i64 0,.int .i64 0],_,hb.size,rfl,h15,by simp,rfl,fun w20 hw20=> ?_⟩
   have hb15:=kP hb b15
   have hb20:Below w.heap.size w w20:=hb15.trans (Wrote.belowR hw20 hb.size)
   have k20:Kq w' w20:=(Kq.low b15).trans (Kq.wrote hw20 h15)
   have ho20:OwnR w20 w.heap.size 87 Ao no co 7 (ys.map Rm.row):=(ho.below b15).other fun a ha=>hw20.rest _ fun q=>by
    have:=(ho.blk a ha).2
    have q:a.block=w'.heap.size:=q
    omega
   refine runOk_lit el_Rats [] (by simp) (by simp) hb20.size fun Af cf w23 of b23=> ?_
   have hb23:=kP hb20 b23
   have hat23:=heap_keep hw20.at_ b23
   refine⟨_,_,_,box_cell hat23 rfl,?_⟩
   refine app_part el_Rats (B:=w20.heap.size) hb20.size (by simpa using of) (hxi.keep hb23).f (by simpa using hxl) (fun r hr=>by obtain⟨s,_,rfl⟩:=List.mem_map.1 hr;rfl) (fun r hr=>by obtain⟨s,_,rfl⟩:=List.mem_map.1 hr;intro u hu;simp[sRow]at hu;subst hu;rfl) hxi.z b23.size (by simp;omega) (by decide) fun Ag cg w27 og gg bg=> ?_
   simp only[List.length_nil,Nat.zero_add,List.nil_append]at og⊢
   have b2027:Below w20.heap.size w20 w27:=b23.trans (grown_hi (B:=w20.heap.size) (by simpa using of) gg b23.size)
   have hb27:=kP hb20 b2027
   have hat27:=heap_keep hw20.at_ b2027
   have ho27:=ho20.below b2027
   have e2:(⟨w'.heap.size,0,none⟩:Addr).add 2=⟨w'.heap.size,2,none⟩:=by rw[add_plain0]
   rw[e2]
   refine⟨_,_,hb.size,rfl,hat27,by simp[setCells],rfl,fun w30 hw30=> ?_⟩
   have hb30:Below w.heap.size w w30:=hb27.trans (Wrote.belowR hw30 hb.size)
   have k30:Kq w20 w30:=(Kq.low b2027).trans (Kq.wrote hw30 hat27)
   have ho30:OwnR w30 w.heap.size 87 Ao no co 7 (ys.map Rm.row):=ho27.other fun a ha=>hw30.rest _ fun q=>by
    have:=(ho.blk a ha).2
    have q:a.block=w'.heap.size:=q
    omega
   have og30:=og.other fun a ha=>hw30.rest _ fun q=>by
    have:=(og.blk a ha).1
    have q:a.block=w'.heap.size:=q
    have:=hw20.size
    omega
   refine⟨_,_,_,_,_,_,_,_,_,box_all hw30.at_,?_⟩
   refine app_row el_Rus (Nat.le_refl _) ho30 (x:=Rm.val ⟨xs[i].r,Ag,xs[i].n,cg⟩) rfl (by simp[Value.cells,isCell]) hb30.size (by omega) (by decide) fun A3 c3 w43 o43 g43 b43=>⟨by simp only[inR];omega,fun w44 x44=> ?_⟩
   have k43:=Kq.grown ho30 g43
   have k44:=(k43.trans (Kq.ext x44))
   rw[e3]
   refine ih (i+1) A3 (no+1) c3 (ys++[⟨xs[i].r,Ag,xs[i].n,cg⟩]) w44 (by omega) (by omega) (kE (hb30.trans b43) x44) (((hk.trans k20).trans k30).trans k44) ?_ ?_ ?_
   ·rw[List.map_append]
    exact o43.extT x44 (by decide)
   ·rw[<-rs_take hil,<-hr]
    unfold rsOf
    rw[List.map_append]
    rfl
   ·intro y hy'
    rcases List.mem_append.1 hy' with hy'|hy'
    ·obtain⟨q1,q2⟩:=hy y hy'
     exact⟨q1.kq ((k20.trans k30).trans k44) (by decide) (by decide),q2⟩
    ·rw[List.mem_singleton.1 hy']
     exact⟨(og30.kq k44 (by decide) (by decide)).base hb20.size,hxi.s⟩
 exact key n2 0 none 0 0 [] w6 rfl (by omega) (kE hw5 x6) (Kq.low (ext_low x6)) OwnR.nil rfl (by simp)
end

theorem closed_iff{al:Nat->Bool}{n:Nat}{S:List Int}:closedB al n S=true↔(S.Pairwise fun a b=>a<b)/\(∀s∈S,0<=s/\s<(fullN n:Nat))/\(0:Int)∈S/\∀s∈S,∀i,i<n->((addB s.toNat i:Nat):Int)∈S∨al (addB s.toNat i)=false:=by
 unfold closedB
 simp only[Bool.and_eq_true,List.all_eq_true,decide_eq_true_eq,List.contains_iff_mem,List.mem_range,Bool.or_eq_true,Bool.not_eq_true',and_assoc]
section
variable {w0 wb w:World} {A0 A1 A2 A A3 A5:Option Addr} {n0 c0 n1 c1 n2 c2 n c n3 c3 n5 c5:Nat} {ps:List Pa} {hs:List Ho} {xs:List Rm} {l works:List Sw} {k:Tk} {o S:List Int}
theorem closed_L15(hg:Glob w0){mr:Nat}{f:Int->Option Bool}(hn6:k.n3<=6)(hSw:SlR w0 A5 1 (S.map iRow))(hlS:S.length=n5)(hn5:n5<2147483648)(hf:∀z:Nat,(f (z:Int)).getD false=decide ((z:Int)∈S))(hp:S.Pairwise fun a b=>a<b)(ha:∀s∈S,0<=s/\s<(fullN k.n3:Nat))(h0:(0:Int)∈S):
  ∀(d j:Nat)(w':World),n5 - j=d->j<=n5->Run w0 wb k ps hs xs l works w'->Own wb mr f w'->(∀s∈S.take j,∀i,i<k.n3->((addB s.toNat i:Nat):Int)∈S∨allowF ps hs (rsOf xs) l works (addB s.toNat i)=false)->
   F.sequence_Closed.L15 A3 k.n3 c3 (some k.p) (some mr) A5 n5 c5 n5 j w0.heap.size w' fun v _=>v= .int .i64 (if closedB (allowF ps hs (rsOf xs) l works) k.n3 S=true then 0 else 14):=by
 have h64:=pow64 _ hn6
 have hfl:=full_lt k.n3
 intro d
 induction d with
 |zero=>
  intro j w' hd hj hr hm hin
  rw[List.take_of_length_le (by omega)]at hin
  refine F.sequence_Closed.L15.step _ _ _ _ _ _ _ _ _ _ _ _ _ ⟨fun h=>by omega,fun _=> ?_⟩
  rw[if_pos (closed_iff.2 ⟨hp,ha,h0,hin⟩)]
 |succ d ih=>
  intro j w' hd hj hr hm hin
  have hjl:j<S.length:=by omega
  have e3:(j:Int)+1=((j+1:Nat):Int):=by omega
  obtain⟨hbb,ad,hA,hcell,_⟩:=(hSw.keep hr.b (Nat.le_refl _)).at_ (fun _=>rfl) hlS hjl
  have hmem:=List.getElem_mem hjl
  have hsj:=ha _ hmem
  obtain⟨s,hs'⟩:=Int.eq_ofNat_of_zero_le hsj.1
  refine F.sequence_Closed.L15.step _ _ _ _ _ _ _ _ _ _ _ _ _ ⟨fun _=>⟨hbb,ad,hA,_,hcell,?_⟩,fun h=>by omega⟩
  have inner:∀(e i:Nat)(w':World),k.n3 - i=e->i<=k.n3->Run w0 wb k ps hs xs l works w'->Own wb mr f w'->(∀i',i'<i->((addB s i':Nat):Int)∈S∨allowF ps hs (rsOf xs) l works (addB s i')=false)->
    F.sequence_Closed.L18 A3 k.n3 c3 (some k.p) (some mr) s A5 n5 c5 n5 j k.n3 i w0.heap.size w' fun v _=>v= .int .i64 (if closedB (allowF ps hs (rsOf xs) l works) k.n3 S=true then 0 else 14):=by
   intro e
   induction e with
   |zero=>
    intro i w' he hi hr hm hin2
    refine F.sequence_Closed.L18.step _ _ _ _ _ _ _ _ _ _ _ _ _ _ _ _ ⟨fun h=>by omega,fun _=>⟨by simp only[inR];omega,?_⟩⟩
    rw[e3]
    refine ih (j+1) w' (by omega) (by omega) hr hm fun x hx i' hi'=> ?_
    rw[List.take_add_one,List.getElem?_eq_getElem hjl]at hx
    rcases List.mem_append.1 hx with hx|hx
    ·exact hin x hx i' hi'
    ·simp only[Option.toList_some,List.mem_singleton]at hx
     subst hx
     rw[hs',Int.toNat_natCast]
     exact hin2 i' (by omega)
   |succ e ihe=>
    intro i w' he hi hr hm hin2
    have ei:(i:Int)+1=((i+1:Nat):Int):=by omega
    have hlt:=addB_lt (s:=s) (i:=i) (n:=6) (by omega) (by omega)
    have go:∀w2,Run w0 wb k ps hs xs l works w2->Own wb mr f w2->(((addB s i:Nat):Int)∈S∨allowF ps hs (rsOf xs) l works (addB s i)=false)->inR .i64 ((i:Int)+1)/\F.sequence_Closed.L18 A3 k.n3 c3 (some k.p) (some mr) s A5 n5 c5 n5 j k.n3 ((i:Int)+1) w0.heap.size w2 fun v _=>v= .int .i64 (if closedB (allowF ps hs (rsOf xs) l works) k.n3 S=true then 0 else 14):=by
     intro w2 hr2 hm2 hx
     refine⟨by simp only[inR];omega,?_⟩
     rw[ei]
     refine ihe (i+1) w2 (by omega) (by omega) hr2 hm2 fun i' hi'=> ?_
     rcases Nat.lt_or_eq_of_le (Nat.le_of_lt_succ hi')with h|h
     ·exact hin2 i' h
     ·rw[h];exact hx
    refine F.sequence_Closed.L18.step _ _ _ _ _ _ _ _ _ _ _ _ _ _ _ _ ⟨fun _=>⟨sh_ok (by omega),?_⟩,fun h=>by omega⟩
    rw[shl_one _ (by omega),or_pow _ (by omega) _ (by omega)]
    refine runOk_look hm.m mpB (by omega) (by omega) ?_
    rw[hf]
    refine⟨fun h1=> ?_,fun h1=>go w' hr hm (.inl (of_decide_eq_true (Bool.not_eq_false _|>.mp h1)))⟩
    refine hr.allowed hg (by omega) fun w28 r28 bt cl=>⟨fun _ _ _ h=>(by cases h),_,rfl,fun h2=> ?_,fun h2=>go w28 r28 (hm.but bt r28.m) (.inr h2)⟩
    rw[if_neg]
    intro hc
    have:=(closed_iff.1 hc).2.2.2 _ hmem i (by omega)
    rw[hs',Int.toNat_natCast]at this
    rcases this with q|q
    ·exact of_decide_eq_false h1 q
    ·rw[h2]at q;cases q
  have:=inner k.n3 0 w' rfl (by omega) hr hm (fun i' hi'=>by omega)
  rw[hs']
  exact this
theorem seq_Closed(hg:Glob w)(hp:PrIn w A0 n0 A1 n1 A2 n2 c2 ps hs xs)(h:SlR w A 3 (l.map Sw.row))(hl:l.length=n)(hnc:n<=c)(hn:n<=40)(hwk:SlR w A3 3 (works.map Sw.row))(hlw:works.length=n3)(hSw:SlR w A5 1 (S.map iRow))(hlS:S.length=n5)(hn5:n5<2147483648):
  Pure Tryz.prog 30 #[.agg #[.slice A0 n0 c0,.slice A1 n1 c1,.slice A2 n2 c2],.slice A n c,.slice A3 n3 c3,.slice A5 n5 c5] w fun v _=>v= .int .i64 (closedF ps hs (rsOf xs) l works S):=by
 refine F.sequence_Closed.vc _ _ _ _ _ _ _ _ _ _ _ _ _ _ _ _ _ _ _ _ fun w1 x1=> ?_
 have hw:=k0 x1
 refine Pure.mono (seq_begin (hg.next hw) (hp.keep hw) (h.keep hw (Nat.le_refl _)) hl hnc hn (hwk.keep hw (Nat.le_refl _)) hlw) ?_
 intro v w5 b5 hv
 have hw5:=kP hw b5
 unfold closedF
 by_cases h0:taskF ps hs (rsOf xs) l works≠0
 ·rw[if_pos h0]
  have hv:=hv.1 h0
  subst hv
  exact⟨_,_,rfl,fun _=>rfl,fun k=>absurd h0 k⟩
 rw[if_neg h0]
 obtain⟨k,hv,hk,hkn⟩:=hv.2 (Decidable.not_not.1 h0)
 subst hv
 have hk6:=hk.ok.n
 have hk3:=hk.lw
 have h64:=pow64 k.n3 (by omega)
 have hfl:=full_lt k.n3
 have run:Run w w5 k ps hs xs l works w5:= .new hw5 hk (hkn.le hw.size)
 have en:n3=k.n3:=by omega
 subst en
 rw[hk3]
 refine⟨_,_,rfl,fun q=>absurd rfl q,fun _=> ?_⟩
 refine runOk_makeMap (tk:=3) (te:=4) run.b.size fun w8 m8 b8=> ?_
 have r8:=run.keep b8
 have key:∀(d j:Nat)(f:Int->Option Bool)(w':World),n5 - j=d->j<=n5->Run w w5 k ps hs xs l works w'->Own w5 w5.heap.size f w'->(∀z:Nat,(f (z:Int)).getD false=decide ((z:Int)∈S.take j))->((S.take j).Pairwise fun a b=>a<b)->(∀s∈S.take j,0<=s/\s<(fullN k.n3:Nat))->
   F.sequence_Closed.L6 A3 k.n3 c3 A5 n5 c5 (some k.p) (some w5.heap.size) A5 n5 c5 n5 j w.heap.size w' fun v _=>v= .int .i64 (if closedB (allowF ps hs (rsOf xs) l works) k.n3 S=true then 0 else 14):=by
  intro d
  induction d with
  |zero=>
   intro j f w' hd hj hr hm hf hpw hal
   rw[List.take_of_length_le (by omega)]at hf hpw hal
   refine F.sequence_Closed.L6.step _ _ _ _ _ _ _ _ _ _ _ _ _ _ _ _ ⟨fun h=>by omega,fun _=>runOk_look hm.m mpB (z:=0) (by omega) (by omega) ?_⟩
   have hf0:(f 0).getD false=decide ((0:Int)∈S):=hf 0
   rw[hf0]
   refine⟨fun h1=> ?_,fun h1=> ?_⟩
   ·rw[if_neg]
    intro hc
    exact of_decide_eq_false h1 (closed_iff.1 hc).2.2.1
   ·exact closed_L15 hg (by omega) hSw hlS hn5 hf hpw hal (of_decide_eq_true (Bool.not_eq_false _|>.mp h1)) n5 0 w' rfl (by omega) hr hm (by simp)
  |succ d ih=>
   intro j f w' hd hj hr hm hf hpw hal
   have hjl:j<S.length:=by omega
   have e3:(j:Int)+1=((j+1:Nat):Int):=by omega
   have hmem:=List.getElem_mem hjl
   have et:S.take (j+1)=S.take j++[S[j]]:=by rw[List.take_add_one,List.getElem?_eq_getElem hjl];rfl
   obtain⟨hbb,ad,hA,hcell,_⟩:=(hSw.keep hr.b (Nat.le_refl _)).at_ (fun _=>rfl) hlS hjl
   have bad:¬(0<=S[j]/\S[j]<(fullN k.n3:Nat))->(Value.int .i64 14= .int .i64 (if closedB (allowF ps hs (rsOf xs) l works) k.n3 S=true then 0 else 14)):=fun q=>by
    rw[if_neg]
    intro hc
    exact q ((closed_iff.1 hc).2.1 _ hmem)
   refine F.sequence_Closed.L6.step _ _ _ _ _ _ _ _ _ _ _ _ _ _ _ _ ⟨fun _=>⟨hbb,ad,hA,_,hcell,fun h1=>bad (by omega),fun h1=> ?_⟩,fun h=>by omega⟩
   refine Pure.mono (seq_all hr.t.t (by omega)) ?_
   rintro v w13 b13 rfl
   have r13:=hr.keep b13
   have m13:=hm.low b13
   refine⟨_,rfl,fun h2=>bad (by omega),fun h2=> ?_⟩
   have go:∀(w':World),Run w w5 k ps hs xs l works w'->Own w5 w5.heap.size f w'->(∀s∈S.take j,s<S[j])->RunOkU Tryz.prog (Instr.mapUpdate 90 (.map (some w5.heap.size)) (.int .i64 S[j]) (.bool true)) w.heap.size [] w' fun w16=>inR .i64 ((j:Int)+1)/\F.sequence_Closed.L6 A3 k.n3 c3 A5 n5 c5 (some k.p) (some w5.heap.size) A5 n5 c5 n5 ((j:Int)+1) w.heap.size w16 fun v _=>v= .int .i64 (if closedB (allowF ps hs (rsOf xs) l works) k.n3 S=true then 0 else 14):=by
    intro w' hr hm hlt
    refine runOk_update hm.m mpB (by omega) (by omega) true hr.lo hr.b.size fun w16 m16 _ g16=>⟨by simp only[inR];omega,?_⟩
    rw[e3]
    refine ih (j+1) _ w16 (by omega) (by omega) (hr.hi (below_grown g16 (fun i hi=>by cases hi;exact hm.m.1) hr.c.size)) ⟨m16⟩ (fun z=> ?_) ?_ ?_
    ·rw[et]
     unfold putM
     by_cases hz:(z:Int)=S[j]
     ·rw[if_pos hz]
      exact(decide_eq_true (List.mem_append_right _ (by rw[hz];exact List.mem_singleton.2 rfl))).symm
     ·rw[if_neg hz,hf,decide_eq_decide]
      refine⟨fun q=>List.mem_append_left _ q,fun q=> ?_⟩
      rcases List.mem_append.1 q with q|q
      ·exact q
      ·exact absurd (List.mem_singleton.1 q) hz
    ·rw[et,List.pairwise_append]
     exact⟨hpw,by simp,fun a ha b hb=>by rw[List.mem_singleton.1 hb];exact hlt a ha⟩
    ·rw[et]
     intro s hs'
     rcases List.mem_append.1 hs' with hs'|hs'
     ·exact hal s hs'
     ·rw[List.mem_singleton.1 hs']
      omega
   refine⟨fun h3=> ?_,fun h3=>go w13 r13 m13 fun s hs'=>by
    have e:S.take j=[]:=List.eq_nil_of_length_eq_zero (by rw[List.length_take];omega)
    rw[e]at hs'
    cases hs'⟩
   have hj1:j - 1<S.length:=by omega
   have ej:(j:Int) - 1=((j - 1:Nat):Int):=by omega
   rw[ej]
   obtain⟨hbp,ap,hAp,hcp,_⟩:=(hSw.keep r13.b (Nat.le_refl _)).at_ (fun _=>rfl) hlS hj1
   refine⟨by simp only[inR];omega,hbp,ap,hAp,_,hcp,fun h4=> ?_,fun h4=>go w13 r13 m13 fun s hs'=> ?_⟩
   ·rw[if_neg]
    intro hc
    have:=List.pairwise_iff_getElem.1 (closed_iff.1 hc).1 (j - 1) j hj1 hjl (by omega)
    omega
   ·have hlast:∀s∈S.take j,s<=S[j - 1]:=by
     intro s hs'
     obtain⟨i,hi,rfl⟩:=List.mem_iff_getElem.1 hs'
     rw[List.length_take]at hi
     by_cases e:i=j - 1
     ·subst e
      rw[List.getElem_take]
      exact Int.le_refl _
     ·have:=List.pairwise_iff_getElem.1 hpw i (j - 1) (by rw[List.length_take];omega) (by rw[List.length_take];omega) (by omega)
      rw[List.getElem_take,List.getElem_take]at this
      rw[List.getElem_take]
      omega
    have:=hlast s hs'
    omega
 exact key n5 0 _ w8 rfl (by omega) r8 ⟨m8⟩ (fun z=>by simp) (by simp) (by simp)
end

abbrev b1(v:Value)(ty:Nat):Obj:= .cells [v].toArray ty (0,0)
structure Go_ (w0 wb:World) (k:Tk) (md q0 q1 q2 q3 q4:Nat) (ps:List Pa) (hs:List Ho) (xs:List Rm) (l works:List Sw) (w:World) (A:Option Addr) (n c:Nat) (o:List Int):Prop where
 r:Run w0 wb k ps hs xs l works w
 h0:w.heap[q0]? =some (b1 (.pointer (some k.p)) 79)
 h1:w.heap[q1]? =some (b1 (.map (some md)) 90)
 h2:∃A c,w.heap[q2]? =some (b1 (.slice A k.n3 c) 30)
 h3:w.heap[q3]? =some (b1 (.slice A n c) 48)
 h4:w.heap[q4]? =some (b1 (.func (.func 52) #[] #[.pointer (some ⟨q0,0,none⟩),.pointer (some ⟨q1,0,none⟩),.pointer (some ⟨q2,0,none⟩),.pointer (some ⟨q3,0,none⟩),.pointer (some ⟨q4,0,none⟩)]) 91)
 hi:wb.heap.size<=q3
 own:OwnR w wb.heap.size 3 A n c 1 (o.map iRow)
 d:∃f,MpR w w0.heap.size 3 4 md f/\∀s:Nat,f (s:Int)=some true->¬Pth (allowF ps hs (rsOf xs) l works) k.n3 s
 dl:md<wb.heap.size
 ne:md≠k.m
def Kp(w w':World):Prop:=∀(i ty:Nat)(cs:Array Value),ty≠48->ty≠3->w.heap[i]? =some (.cells cs ty (0,0))->w'.heap[i]? =some (.cells cs ty (0,0))
theorem Kp.trans{w w1 w2:World}(h:Kp w w1)(k:Kp w1 w2):Kp w w2:=fun i ty cs h1 h2 e=>k i ty cs h1 h2 (h i ty cs h1 h2 e)
theorem Kp.cl{w w':World}(h:Cl w w'):Kp w w':=fun i ty cs _ _ e=>h.cells i cs ty _ e
section
variable {w0 wb w:World} {k:Tk} {md q0 q1 q2 q3 q4:Nat} {ps:List Pa} {hs:List Ho} {xs:List Rm} {l works:List Sw} {A:Option Addr} {n c:Nat} {o:List Int}
theorem Go_.cl{w w':World}(g:Go_ w0 wb k md q0 q1 q2 q3 q4 ps hs xs l works w A n c o)(hr:Run w0 wb k ps hs xs l works w')(hc:Cl w w')(hd:w'.heap[md]? =w.heap[md]?):Go_ w0 wb k md q0 q1 q2 q3 q4 ps hs xs l works w' A n c o:=by
 obtain⟨f,f1,f2⟩:=g.d
 obtain⟨B2,e2,h2⟩:=g.h2
 exact⟨hr,hc.cells _ _ _ _ g.h0,hc.cells _ _ _ _ g.h1,⟨B2,e2,hc.cells _ _ _ _ h2⟩,hc.cells _ _ _ _ g.h3,hc.cells _ _ _ _ g.h4,g.hi,g.own.cl hc,⟨f,f1.same hd,f2⟩,g.dl,g.ne⟩
theorem Go_.mlt(g:Go_ w0 wb k md q0 q1 q2 q3 q4 ps hs xs l works w A n c o):md<w.heap.size:=Nat.lt_of_lt_of_le g.dl g.r.c.size
theorem Go_.low{w w':World}(g:Go_ w0 wb k md q0 q1 q2 q3 q4 ps hs xs l works w A n c o)(hb:Below w.heap.size w w'):Go_ w0 wb k md q0 q1 q2 q3 q4 ps hs xs l works w' A n c o:=
 g.cl (g.r.keep hb) (Cl.low hb) (hb.block _ g.mlt)
theorem Go_.kp{w w':World}(g:Go_ w0 wb k md q0 q1 q2 q3 q4 ps hs xs l works w A n c o)(hb:Below wb.heap.size w w')(hk:Kp w w'){A':Option Addr}{n' c':Nat}{o':List Int}(h3:w'.heap[q3]? =some (b1 (.slice A' n' c') 48))(ho:OwnR w' wb.heap.size 3 A' n' c' 1 (o'.map iRow)):Go_ w0 wb k md q0 q1 q2 q3 q4 ps hs xs l works w' A' n' c' o':=by
 obtain⟨f,f1,f2⟩:=g.d
 obtain⟨B2,e2,h2⟩:=g.h2
 exact⟨g.r.hi hb,hk _ _ _ (by decide) (by decide) g.h0,hk _ _ _ (by decide) (by decide) g.h1,⟨B2,e2,hk _ _ _ (by decide) (by decide) h2⟩,h3,hk _ _ _ (by decide) (by decide) g.h4,g.hi,ho,⟨f,f1.same (hb.block _ g.dl),f2⟩,g.dl,g.ne⟩
theorem Go_.put{w w':World}(g:Go_ w0 wb k md q0 q1 q2 q3 q4 ps hs xs l works w A n c o){w1:World}{A1:Option Addr}{n1 c1:Nat}{o1:List Int}(hb:Below wb.heap.size w w1)(hk:Kp w w1)(h3:w1.heap[q3]? =some (b1 (.slice A n c) 48))(ho:OwnR w1 wb.heap.size 3 A1 n1 c1 1 (o1.map iRow))(hw:Wrote w1 w' q3 48 [.slice A1 n1 c1]):
  Go_ w0 wb k md q0 q1 q2 q3 q4 ps hs xs l works w' A1 n1 c1 o1/\Kp w w':=by
 have hkw:Kp w1 w':=fun i ty cs hy _ e=>by
  rw[hw.rest i fun q=> ?_]
  ·exact e
  ·subst q
   rw[h3]at e
   cases e
   exact hy rfl
 refine⟨g.kp (hb.trans (Wrote.belowR hw g.hi)) (hk.trans hkw) hw.at_ (ho.other fun a ha=>hw.rest _ fun q=> ?_),hk.trans hkw⟩
 obtain⟨cs,e⟩:=ho.cells a ha
 rw[q,h3]at e
 cases e
theorem row_kp{w w':World}(ho:OwnR w wb.heap.size 3 A n c 1 (o.map iRow))(hg:w.grownBy w' (Value.ownBlock (.slice A n c))):Kp w w':=fun i ty cs _ hy e=>by
 rw[hg.block i (Array.getElem?_eq_some_iff.1 e).1 fun q=> ?_]
 ·exact e
 ·cases A with
  |none=>cases q
  |some a=>
   obtain⟨cs',e'⟩:=ho.cells a rfl
   cases q
   rw[e]at e'
   cases e'
   exact hy rfl
theorem row_h3{w w':World}(ho:OwnR w wb.heap.size 3 A n c 1 (o.map iRow))(hg:w.grownBy w' (Value.ownBlock (.slice A n c))){q:Nat}{v:Value}(h:w.heap[q]? =some (b1 v 48)):w'.heap[q]? =some (b1 v 48):=by
 rw[hg.block q (Array.getElem?_eq_some_iff.1 h).1 fun e=> ?_]
 ·exact h
 ·cases A with
  |none=>cases e
  |some a=>
   obtain⟨cs',e'⟩:=ho.cells a rfl
   cases e
   rw[h]at e'
   cases e'
theorem add_self{s i:Nat}:addB s i=s↔s.testBit i=true:=by
 constructor
 ·intro h
  have:=addB_bit s i i
  rw[h]at this
  rw[this]
  simp
 ·intro h
  refine Nat.eq_of_testBit_eq fun j=> ?_
  rw[addB_bit]
  by_cases e:i=j
  ·subst e;rw[h];rfl
  ·simp[e]
def GoR(w0 wb:World)(k:Tk)(md q0 q1 q2 q3 q4:Nat)(ps:List Pa)(hs:List Ho)(xs:List Rm)(l works:List Sw)(w:World)(o:List Int)(r:Option (List Nat))(v:Value)(w':World):Prop:=
 Kp w w'/\∃A n c,(r=none->v= .bool false/\Go_ w0 wb k md q0 q1 q2 q3 q4 ps hs xs l works w' A n c o)/\∀x,r=some x->v= .bool true/\Go_ w0 wb k md q0 q1 q2 q3 q4 ps hs xs l works w' A n c (o++x.map fun(i:Nat)=>(i:Int))
theorem go1(hg:Glob w0)(hn6:k.n3<=6):∀(d s:Nat)(w:World)(A:Option Addr)(n c:Nat)(o:List Int),leftN k.n3 s<=d->s<2^k.n3->n+leftN k.n3 s<=6->Go_ w0 wb k md q0 q1 q2 q3 q4 ps hs xs l works w A n c o->
  PureB Tryz.prog 52 #[.int .i64 (s:Int),.pointer (some ⟨q0,0,none⟩),.pointer (some ⟨q1,0,none⟩),.pointer (some ⟨q2,0,none⟩),.pointer (some ⟨q3,0,none⟩),.pointer (some ⟨q4,0,none⟩)] w0.heap.size w (GoR w0 wb k md q0 q1 q2 q3 q4 ps hs xs l works w o (restF (allowF ps hs (rsOf xs) l works) k.n3 d s)):=by
 have h64:=pow64 _ hn6
 have hfl:=full_lt k.n3
 intro d
 induction d with
 |zero=>
  intro s w A n c o hd hs' hn g
  have e:=left_zero hs' (by omega)
  refine F.sequence_Order_c1.vcB _ _ _ _ _ _ _ _ g.r.b.size _ ⟨_,box_cell0 g.h0 rfl,Pure.mono (seq_all g.r.t.t hn6) ?_⟩
  rintro v w4 b4 rfl
  refine⟨_,rfl,fun _=>⟨Kp.cl (Cl.low b4),A,n,c,fun q=> ?_,fun x hx=> ?_⟩,fun h=>absurd (by rw[e]) h⟩
  ·rw[restF,if_pos e]at q
   cases q
  ·rw[restF,if_pos e]at hx
   cases hx
   exact⟨rfl,by rw[List.map_nil,List.append_nil];exact g.low b4⟩
 |succ d ih=>
  intro s w A n c o hd hs' hn g
  have hno:=g.own.len
  rw[List.length_map]at hno
  refine F.sequence_Order_c1.vcB _ _ _ _ _ _ _ _ g.r.b.size _ ⟨_,box_cell0 g.h0 rfl,Pure.mono (seq_all g.r.t.t hn6) ?_⟩
  rintro v w4 b4 rfl
  have g:=g.low b4
  have k4:Kp w w4:=Kp.cl (Cl.low b4)
  refine⟨_,rfl,fun h1=>⟨k4,A,n,c,fun q=> ?_,fun x hx=> ?_⟩,fun h1=> ?_⟩
  ·rw[restF,if_pos (by omega)]at q
   cases q
  ·rw[restF,if_pos (by omega)]at hx
   cases hx
   exact⟨rfl,by rw[List.map_nil,List.append_nil];exact g⟩
  have hne:s≠fullN k.n3:=fun e=>h1 (by rw[e])
  obtain⟨f,f1,f2⟩:=g.d
  refine⟨_,box_cell0 g.h1 rfl,runOk_look f1 mpB (by omega) (by omega) ⟨fun h2=>⟨k4,A,n,c,fun _=>⟨rfl,g⟩,fun x hx=> ?_⟩,fun h2=> ?_⟩⟩
  ·exact absurd (rest_some _ _ _ hx) (f2 s (by
    cases e:f (s:Int)with
    |none=>rw[e]at h2;cases h2
    |some y=>rw[e]at h2;exact congrArg some h2))
  obtain⟨B2,e2,h2'⟩:=g.h2
  refine⟨_,_,_,box_cell0 h2' rfl,?_⟩
  have hrest:restF (allowF ps hs (rsOf xs) l works) k.n3 (d+1) s=(List.range k.n3).findSome? fun i=>if s.testBit i|| !allowF ps hs (rsOf xs) l works (addB s i)then none else(restF (allowF ps hs (rsOf xs) l works) k.n3 d (addB s i)).map (i:: ·):=by rw[restF,if_neg hne]
  have loop:∀(e i:Nat)(A:Option Addr)(n c:Nat)(w1:World),k.n3 - i=e->i<=k.n3->n+leftN k.n3 s<=6->Kp w w1->Go_ w0 wb k md q0 q1 q2 q3 q4 ps hs xs l works w1 A n c o->restF (allowF ps hs (rsOf xs) l works) k.n3 (d+1) s=((List.range k.n3).drop i).findSome? (fun i=>if s.testBit i|| !allowF ps hs (rsOf xs) l works (addB s i)then none else(restF (allowF ps hs (rsOf xs) l works) k.n3 d (addB s i)).map (i:: ·))->
    F.sequence_Order_c1.L6 s ⟨q0,0,none⟩ ⟨q1,0,none⟩ ⟨q3,0,none⟩ ⟨q4,0,none⟩ k.n3 i w0.heap.size w1 (GoR w0 wb k md q0 q1 q2 q3 q4 ps hs xs l works w o (restF (allowF ps hs (rsOf xs) l works) k.n3 (d+1) s)):=by
   intro e
   induction e with
   |zero=>
    intro i A n c w1 he hi hn hk g hr
    rw[List.drop_eq_nil_of_le (by simp;omega)]at hr
    have hnone:restF (allowF ps hs (rsOf xs) l works) k.n3 (d+1) s=none:=hr
    obtain⟨f,f1,f2⟩:=g.d
    obtain⟨B2,e2,h2⟩:=g.h2
    refine F.sequence_Order_c1.L6.step _ _ _ _ _ _ _ _ _ _ ⟨fun h=>by omega,fun _=>⟨_,box_cell0 g.h1 rfl,runOk_update f1 mpB (by omega) (by omega) true (Nat.le_refl _) g.r.b.size fun w34 m34 b34 g34=> ?_⟩⟩
    have cl:=Cl.map f1 g34
    have hkm:w34.heap[k.m]? =w1.heap[k.m]? :=g34.block _ (Nat.lt_of_lt_of_le g.r.m g.r.c.size) fun q=>g.ne (by cases q;rfl)
    refine⟨hk.trans (Kp.cl cl),A,n,c,fun _=>⟨rfl,?_⟩,fun x hx=>by rw[hnone]at hx;cases hx⟩
    obtain⟨kf,kf1,kf2⟩:=g.r.kn
    exact⟨⟨g.r.b.trans b34,g.r.lo,g.r.tb,g.r.c.trans cl,⟨kf,kf1.same hkm,kf2⟩,g.r.m⟩,cl.cells _ _ _ _ g.h0,cl.cells _ _ _ _ g.h1,⟨B2,e2,cl.cells _ _ _ _ h2⟩,cl.cells _ _ _ _ g.h3,cl.cells _ _ _ _ g.h4,g.hi,g.own.cl cl,⟨_,m34,fun z hz=>by
     unfold putM at hz
     split at hz
     ·rename_i q
      have:z=s:=by omega
      subst this
      exact rest_none (d+1) z hd hs' hnone
     ·exact f2 z hz⟩,g.dl,g.ne⟩
   |succ e ihe=>
    intro i A n c w1 he hi hn hk g hr
    have ei:(i:Int)+1=((i+1:Nat):Int):=by omega
    have hir:i<(List.range k.n3).length:=by simp;omega
    rw[List.drop_eq_getElem_cons hir,List.getElem_range,List.findSome?_cons]at hr
    have hlt:=addB_lt (s:=s) (i:=i) (n:=k.n3) hs' (by omega)
    have hno:=g.own.len
    rw[List.length_map]at hno
    refine F.sequence_Order_c1.L6.step _ _ _ _ _ _ _ _ _ _ ⟨fun _=>⟨sh_ok (by omega),?_⟩,fun h=>by omega⟩
    rw[shl_one _ (by omega),or_pow _ (by omega) _ (by omega)]
    refine⟨fun h3=>⟨by simp only[inR];omega,?_⟩,fun h3=>⟨_,box_cell0 g.h0 rfl,?_⟩⟩
    ·have hbit:s.testBit i=true:=add_self.1 (by omega)
     rw[hbit,Bool.true_or,if_pos rfl]at hr
     rw[ei]
     exact ihe (i+1) A n c w1 (by omega) (by omega) hn hk g hr
    have hbit:s.testBit i=false:=Bool.not_eq_true _|>.mp fun q=>h3 (by rw[add_self.2 q])
    have hleft:=left_add (n:=k.n3) (by omega) hbit
    rw[hbit,Bool.false_or]at hr
    refine g.r.allowed hg (by omega) fun w13 r13 bt cl=>⟨fun _ _ _ h=>(by cases h),_,rfl,fun h4=>⟨by simp only[inR];omega,?_⟩,fun h4=> ?_⟩
    ·rw[h4,Bool.not_false,if_pos rfl]at hr
     rw[ei]
     exact ihe (i+1) A n c w13 (by omega) (by omega) hn (hk.trans (Kp.cl cl)) (g.cl r13 cl (bt.other _ g.mlt g.ne)) hr
    have h4:=Bool.not_eq_false _|>.mp h4
    rw[h4,Bool.not_true,if_neg (by decide)]at hr
    have g13:=g.cl r13 cl (bt.other _ g.mlt g.ne)
    have k13:=hk.trans (Kp.cl cl)
    refine⟨_,_,_,box_cell0 g13.h3 rfl,app_row el_Ints (B:=wb.heap.size) r13.lo g13.own (x:= .int .i64 (i:Int)) rfl (by simp[Value.cells,isCell]) r13.c.size (by omega) (by decide) fun A' c' w20 o20 g20 _=> ?_⟩
    have hk20:=row_kp g13.own g20
    have h320:=row_h3 g13.own g20 g13.h3
    have hb20:=grown_hi g13.own g20 r13.c.size
    refine⟨[.slice A n c],48,Nat.le_trans r13.lo g13.hi,rfl,h320,by simp,rfl,fun w23 hw23=> ?_⟩
    obtain⟨g23,k23⟩:=g13.put (o1:=o++[(i:Int)]) hb20 hk20 h320 (by rw[List.map_append];exact o20) hw23
    refine⟨_,_,_,box_cell0 g23.h4 rfl,by kernel_rfl,?_⟩
    refine PureB.mono (ih (addB s i) w23 A' (n+1) c' (o++[(i:Int)]) (by omega) hlt (by omega) g23) ?_
    rintro v w27 b27 ⟨k27,A2,n2,c2,hN,hS⟩
    have kk:=(k13.trans k23).trans k27
    refine⟨fun _ _ _ h=>(by cases h),?_⟩
    cases hrr:restF (allowF ps hs (rsOf xs) l works) k.n3 d (addB s i)with
    |none=>
     obtain⟨rfl,g27⟩:=hN hrr
     rw[hrr]at hr
     have hln:=g27.own.len
     rw[List.length_map,List.length_append,List.length_singleton]at hln
     refine⟨_,rfl,fun q=>(by cases q),fun _=>⟨_,_,_,box_cell0 g27.h3 rfl,_,_,_,box_cell0 g27.h3 rfl,by simp only[inR];omega,by have:=g27.own.len_le;omega,[.slice A2 n2 c2],48,Nat.le_trans r13.lo g27.hi,rfl,g27.h3,by simp,rfl,fun w32 hw32=>⟨by simp only[inR];omega,?_⟩⟩⟩
     have en:((n2:Int) - 1).toNat=n:=by omega
     rw[en]at hw32
     have osh:=g27.own.short (m:=n) (by omega)
     rw[<-List.map_take,List.take_append_of_le_length (by omega),List.take_of_length_le (by omega)]at osh
     obtain⟨g32,k32⟩:=g27.put (o1:=o) (Below.refl _ _) (fun _ _ _ _ _ e=>e) g27.h3 osh hw32
     rw[ei]
     exact ihe (i+1) A2 n c2 w32 (by omega) (by omega) hn (kk.trans k32) g32 hr
    |some x=>
     obtain⟨rfl,g27⟩:=hS x hrr
     rw[hrr]at hr
     refine⟨_,rfl,fun _=>⟨kk,A2,n2,c2,fun q=> ?_,fun y hy=>⟨rfl,?_⟩⟩,fun q=>(by cases q)⟩
     ·rw[hr]at q;cases q
     ·rw[hr]at hy
      cases hy
      rw[List.map_cons,show o++((i:Int)::x.map fun(i:Nat)=>(i:Int))=(o++[(i:Int)])++x.map fun(i:Nat)=>(i:Int) by simp]
      exact g27
  exact loop k.n3 0 A n c w4 rfl (by omega) hn k4 g (by rw[List.drop_zero];exact hrest)
end
section
variable {w:World} {A0 A1 A2 A A3:Option Addr} {n0 c0 n1 c1 n2 c2 n c n3 c3:Nat} {ps:List Pa} {hs:List Ho} {xs:List Rm} {l works:List Sw}
theorem seq_Order(hg:Glob w)(hp:PrIn w A0 n0 A1 n1 A2 n2 c2 ps hs xs)(h:SlR w A 3 (l.map Sw.row))(hl:l.length=n)(hnc:n<=c)(hn:n<=40)(hwk:SlR w A3 3 (works.map Sw.row))(hlw:works.length=n3):
  Pure Tryz.prog 22 #[.agg #[.slice A0 n0 c0,.slice A1 n1 c1,.slice A2 n2 c2],.slice A n c,.slice A3 n3 c3] w (InR (orderF ps hs (rsOf xs) l works)):=by
 refine F.sequence_Order.vc _ _ _ _ _ _ _ _ _ _ _ _ _ _ _ _ _ fun w1 x1=> ?_
 have hw:=k0 x1
 refine Pure.mono (seq_begin (c3:=c3) (hg.next hw) (hp.keep hw) (h.keep hw (Nat.le_refl _)) hl hnc hn (hwk.keep hw (Nat.le_refl _)) hlw) ?_
 intro v w5 b5 hv
 have hw5:=kP hw b5
 unfold orderF
 by_cases h0:taskF ps hs (rsOf xs) l works≠0
 ·rw[if_pos h0]
  have hv:=hv.1 h0
  subst hv
  exact⟨_,_,rfl,fun _ _ _=>⟨_,_,_,rfl,.inl rfl,rfl,Nat.le_refl _⟩,fun k=>absurd h0 k⟩
 rw[if_neg h0]
 obtain⟨k,hv,hk,hkn⟩:=hv.2 (Decidable.not_not.1 h0)
 subst hv
 have hk6:=hk.ok.n
 have hk3:=hk.lw
 have en:n3=k.n3:=by omega
 subst en
 rw[hk3]
 refine⟨_,_,rfl,fun q=>absurd rfl q,fun _ w7 x7=> ?_⟩
 have hw7:=kE hw5 x7
 have hkm:k.m<w5.heap.size:=by obtain⟨f,f1,_⟩:=hkn;exact f1.lt
 refine runOk_makeMap (tk:=3) (te:=4) hw7.size fun w10 m10 b10 w11 x11=> ?_
 have hw10:=kP hw7 b10
 have hw11:=kE hw10 x11
 have b511:Below w5.heap.size w5 w11:=kP (kP (extAll x7) b10) (extAll x11)
 have hk11:=hk.keep b511
 have hkn11:=(hkn.below b511).le hw.size
 have run:=Run.new hw11 hk11 hkn11
 have m11:=m10.ext x11
 refine runOk_alloc (z:= .slice none 0 0) _ (by kernel_rfl) hw11.size fun w12 h12 b12 _=> ?_
 have hw12:=kP hw11 b12
 refine runOk_alloc (z:= .nilFunc) _ (by kernel_rfl) hw12.size fun w15 h15 b15 _ p18 hp18 hb18 p19 hp19 hb19 p20 hp20 hb20=> ?_
 have hw15:=kP hw12 b15
 have r15:=(run.keep b12).hi (b15.mono b12.size)
 refine⟨[.nilFunc],_,hw12.size,rfl,h15,by simp,rfl,fun w23 hw23=> ?_⟩
 have hb23:Below w11.heap.size w15 w23:=Wrote.belowR hw23 b12.size
 have other:∀{i ty:Nat} {cs:Array Value},w15.heap[i]? =some (.cells cs ty (0,0))->ty≠91->w23.heap[i]? =some (.cells cs ty (0,0)):=by
  intro i ty cs e hne
  rw[hw23.rest i fun q=> ?_]
  ·exact e
  ·subst q
   rw[h15]at e
   cases e
   exact hne rfl
 have hmlt:w7.heap.size<w11.heap.size:=m11.lt
 have g:Go_ w w11 k w7.heap.size p20 p19 p18 w11.heap.size w12.heap.size ps hs xs l works w23 none 0 0 []:=by
  refine⟨r15.hi hb23,other hb20 (by decide),other hb19 (by decide),⟨_,_,other hb18 (by decide)⟩,other (heap_keep h12 b15) (by decide),hw23.at_,Nat.le_refl _,OwnR.nil,⟨_,(((m11.below b12).below b15).same (hb23.block _ hmlt)).le hw7.size,fun s q=>by cases q⟩,hmlt,by have:=(extAll x7).size;omega⟩
 refine⟨_,_,_,box_cell0 g.h4 rfl,by kernel_rfl,?_⟩
 refine PureB.mono (go1 hg (by omega) k.n3 0 w23 none 0 0 [] (left_le _ _) (Nat.two_pow_pos _) (by have:=left_le k.n3 0;omega) g) ?_
 rintro v w27 b27 ⟨k27,A',n',c',hN,hS⟩
 refine⟨fun i ty cs hty e=> ?_,?_⟩
 ·have:=List.mem_singleton.1 hty
  subst this
  rw[e]
  exact k27 i _ cs (by decide) (by decide) e
 cases hrr:restF (allowF ps hs (rsOf xs) l works) k.n3 k.n3 0 with
 |none=>
  obtain⟨rfl,g27⟩:=hN hrr
  exact⟨_,rfl,fun _=>⟨_,_,_,rfl,.inl rfl,rfl,Nat.le_refl _⟩,fun q=>absurd rfl q⟩
 |some x=>
  obtain⟨rfl,g27⟩:=hS x hrr
  have hln:=g27.own.len
  rw[List.length_map,List.nil_append]at hln
  exact⟨_,rfl,fun q=>(by cases q),fun _=>⟨_,_,_,box_cell0 g27.h3 rfl,A',n',c',rfl,g27.own.sl,hln,g27.own.len_le⟩⟩
end
end Go.Proofs.YtgfkeadgjkfomaaGreatDoor.B

set_option maxRecDepth 100000
set_option maxHeartbeats 4000000
namespace Go.Proofs.YtgfkeadgjkfomaaGreatDoor.F
open Go Go.RowKit Go.Proofs Go.Proofs.YtgfkeadgjkfomaaGreatDoor.Vc
noncomputable def garboardlaw51_SequenceEither.cx(w:World)(B:Nat)(R:Value->World->Prop):Cx:=⟨Tryz.prog,6,122,Tryz.f6.results.toList,[],[],w,B,R⟩
theorem garboardlaw51_SequenceEither.vc(c:Option Addr)(d e:Nat)(f:Option Addr)(g i:Nat)(j:Option Addr)(l m:Nat)(n:Option Addr)(o p:Nat)(q:Option Addr)(r s:Nat)(E:Option Addr)(v G:Nat)(H:Option Addr)(x I:Nat)(w:World)(R:Value->World->Prop)
  (h:(∀N,Ext w.heap.size [] w N->(Pure P 10 #[] N fun r3 O=>∃J,r3= .bool J/\(((J=false)->(R (.bool false) O))/\(¬(J=false)->(Pure P 11 #[.agg #[.slice c d e,.slice f g i,.slice j l m],.slice n o p,.slice q r s] O fun r6 A=>∃K,r6= .bool K/\(((K=false)->(R (.bool true) A))/\(¬(K=false)->((((v:Int)>70)->(R (.bool true) A))/\(¬((v:Int)>70)->((((x:Int)>70)->(R (.bool true) A))/\(¬((x:Int)>70)->(Pure P 17 #[.agg #[.slice c d e,.slice f g i,.slice j l m]] A fun q6 q7=>∃Q S T U V X Y Z a0,q6= .agg #[.slice Q S T,.slice U V X,.slice Y Z a0]/\(Pure P 14 #[.slice n o p] q7 fun q8 q9=>∃a1 a2 a3,q8= .slice a1 a2 a3/\(Pure P 18 #[.slice q r s] q9 fun r0 r1=>∃a4 a5 a6,r0= .slice a4 a5 a6/\(Pure P 22 #[.agg #[.slice Q S T,.slice U V X,.slice Y Z a0],.slice a1 a2 a3,.slice a4 a5 a6] r1 fun r2 r3=>∃r4 r5 r6 a,r2= .tuple #[.slice r4 r5 r6,.int .i64 a]/\(Pure P 17 #[.agg #[.slice c d e,.slice f g i,.slice j l m]] r3 fun r7 r8=>∃a7 a8 a9 b0 b1 b2 b3 b4 b5,r7= .agg #[.slice a7 a8 a9,.slice b0 b1 b2,.slice b3 b4 b5]/\(Pure P 14 #[.slice n o p] r8 fun r9 s0=>∃b6 b7 b8,r9= .slice b6 b7 b8/\(Pure P 18 #[.slice q r s] s0 fun s1 s2=>∃b9 c0 c1,s1= .slice b9 c0 c1/\(Pure P 24 #[.agg #[.slice a7 a8 a9,.slice b0 b1 b2,.slice b3 b4 b5],.slice b6 b7 b8,.slice b9 c0 c1] s2 fun s3 C=>∃L D M b,s3= .tuple #[.slice L D M,.int .i64 b]/\(((a≠0)->(((a≠19)->(((b=a)->(R (.bool (decide ((D:Int)=0))) C))/\(¬(b=a)->(R (.bool false) C))))/\(¬(a≠19)->(Pure P 17 #[.agg #[.slice c d e,.slice f g i,.slice j l m]] C fun s4 s5=>∃c2 c3 c4 c5 c6 c7 c8 c9 d0,s4= .agg #[.slice c2 c3 c4,.slice c5 c6 c7,.slice c8 c9 d0]/\(Pure P 14 #[.slice n o p] s5 fun s6 s7=>∃d1 d2 d3,s6= .slice d1 d2 d3/\(Pure P 18 #[.slice q r s] s7 fun s8 s9=>∃d4 d5 d6,s8= .slice d4 d5 d6/\(Pure P 28 #[.slice L D M] s9 fun t0 t1=>∃d7 d8 d9,t0= .slice d7 d8 d9/\(Pure P 30 #[.agg #[.slice c2 c3 c4,.slice c5 c6 c7,.slice c8 c9 d0],.slice d1 d2 d3,.slice d4 d5 d6,.slice d7 d8 d9] t1 fun t2 t3=>∃y,t2= .int .i64 y/\(Pure P 17 #[.agg #[.slice c d e,.slice f g i,.slice j l m]] t3 fun t4 t5=>∃e0 e1 e2 e3 e4 e5 e6 e7 e8,t4= .agg #[.slice e0 e1 e2,.slice e3 e4 e5,.slice e6 e7 e8]/\(Pure P 14 #[.slice n o p] t5 fun t6 t7=>∃e9 f0 f1,t6= .slice e9 f0 f1/\(Pure P 18 #[.slice q r s] t7 fun t8 t9=>∃f2 f3 f4,t8= .slice f2 f3 f4/\(Pure P 28 #[.slice H x I] t9 fun v0 v1=>∃f5 f6 f7,v0= .slice f5 f6 f7/\(Pure P 30 #[.agg #[.slice e0 e1 e2,.slice e3 e4 e5,.slice e6 e7 e8],.slice e9 f0 f1,.slice f2 f3 f4,.slice f5 f6 f7] v1 fun v2 v3=>∃f8,v2= .int .i64 f8/\(Pure P 17 #[.agg #[.slice c d e,.slice f g i,.slice j l m]] v3 fun v4 v5=>∃f9 g0 g1 g2 g3 g4 g5 g6 g7,v4= .agg #[.slice f9 g0 g1,.slice g2 g3 g4,.slice g5 g6 g7]/\(Pure P 14 #[.slice n o p] v5 fun v6 v7=>∃g8 g9 j0,v6= .slice g8 g9 j0/\(Pure P 18 #[.slice q r s] v7 fun v8 v9=>∃j1 j2 j3,v8= .slice j1 j2 j3/\(Pure P 28 #[.slice E v G] v9 fun x0 x1=>∃j4 j5 j6,x0= .slice j4 j5 j6/\(Pure P 27 #[.agg #[.slice f9 g0 g1,.slice g2 g3 g4,.slice g5 g6 g7],.slice g8 g9 j0,.slice j1 j2 j3,.slice j4 j5 j6] x1 fun x2 t=>∃x3 j7,x2= .tuple #[.int .i64 x3,.int .i64 j7]/\(((a=19)->(((b=0)->(((y=0)->(R (.bool (decide (j7≠0))) t))/\(¬(y=0)->(R (.bool false) t))))/\(¬(b=0)->(R (.bool false) t))))/\(¬(a=19)->(((b=0)->(((y=14)->(R (.bool (decide (f8=14))) t))/\(¬(y=14)->(R (.bool false) t))))/\(¬(b=0)->(R (.bool false) t)))))))))))))))))))))))/\(¬(a≠0)->(Pure P 17 #[.agg #[.slice c d e,.slice f g i,.slice j l m]] C fun x4 x5=>∃j8 j9 l0 l1 l2 l3 l4 l5 l6,x4= .agg #[.slice j8 j9 l0,.slice l1 l2 l3,.slice l4 l5 l6]/\(Pure P 14 #[.slice n o p] x5 fun x6 x7=>∃l7 l8 l9,x6= .slice l7 l8 l9/\(Pure P 18 #[.slice q r s] x7 fun x8 x9=>∃m0 m1 m2,x8= .slice m0 m1 m2/\(Pure P 28 #[.slice L D M] x9 fun y0 y1=>∃m3 m4 m5,y0= .slice m3 m4 m5/\(Pure P 30 #[.agg #[.slice j8 j9 l0,.slice l1 l2 l3,.slice l4 l5 l6],.slice l7 l8 l9,.slice m0 m1 m2,.slice m3 m4 m5] y1 fun y2 y3=>∃z,y2= .int .i64 z/\(Pure P 17 #[.agg #[.slice c d e,.slice f g i,.slice j l m]] y3 fun y4 y5=>∃m6 m7 m8 m9 n0 n1 n2 n3 n4,y4= .agg #[.slice m6 m7 m8,.slice m9 n0 n1,.slice n2 n3 n4]/\(Pure P 14 #[.slice n o p] y5 fun y6 y7=>∃n5 n6 n7,y6= .slice n5 n6 n7/\(Pure P 18 #[.slice q r s] y7 fun y8 y9=>∃n8 n9 o0,y8= .slice n8 n9 o0/\(Pure P 28 #[.slice H x I] y9 fun z0 z1=>∃o1 o2 o3,z0= .slice o1 o2 o3/\(Pure P 30 #[.agg #[.slice m6 m7 m8,.slice m9 n0 n1,.slice n2 n3 n4],.slice n5 n6 n7,.slice n8 n9 o0,.slice o1 o2 o3] z1 fun z2 z3=>∃o4,z2= .int .i64 o4/\(Pure P 17 #[.agg #[.slice c d e,.slice f g i,.slice j l m]] z3 fun z4 z5=>∃o5 o6 o7 o8 o9 p0 p1 p2 p3,z4= .agg #[.slice o5 o6 o7,.slice o8 o9 p0,.slice p1 p2 p3]/\(Pure P 14 #[.slice n o p] z5 fun z6 z7=>∃p4 p5 p6,z6= .slice p4 p5 p6/\(Pure P 18 #[.slice q r s] z7 fun z8 z9=>∃p7 p8 p9,z8= .slice p7 p8 p9/\(Pure P 28 #[.slice E v G] z9 fun A0 A1=>∃q0 q1 q2,A0= .slice q0 q1 q2/\(Pure P 27 #[.agg #[.slice o5 o6 o7,.slice o8 o9 p0,.slice p1 p2 p3],.slice p4 p5 p6,.slice p7 p8 p9,.slice q0 q1 q2] A1 fun A2 u=>∃A3 q3,A2= .tuple #[.int .i64 A3,.int .i64 q3]/\(((a=19)->(((b=0)->(((z=0)->(R (.bool (decide (q3≠0))) u))/\(¬(z=0)->(R (.bool false) u))))/\(¬(b=0)->(R (.bool false) u))))/\(¬(a=19)->(((b=0)->(((z=14)->(R (.bool (decide (o4=14))) u))/\(¬(z=14)->(R (.bool false) u))))/\(¬(b=0)->(R (.bool false) u)))))))))))))))))))))))))))))))))))))))))):
  Pure P 6 #[.agg #[.slice c d e,.slice f g i,.slice j l m],.slice n o p,.slice q r s,.slice E v G,.slice H x I] w R:=
 pure_of_run (garboardlaw51_SequenceEither.cx w w.heap.size R) 100000 follows Tryz.func6 rfl rfl rfl rfl rfl rfl rfl (Eq.mp (by kernel_rfl) h)

noncomputable def garboardlaw51_awake.cx(w:World)(B:Nat)(R:Value->World->Prop):Cx:=⟨Tryz.prog,10,103,Tryz.f10.results.toList,[],[(1,2,2),(6,2,2),(7,16,2),(7,21,2),(7,37,2),(7,52,2)],w,B,R⟩
theorem garboardlaw51_awake.vc  (w:World)(R:Value->World->Prop)
  (h:(RunOk P (Instr.buildSlice 30 2 #[(0,(.agg #[.int .i64 2,.int .i64 1,.int .i64 1])),(1,(.agg #[.int .i64 1,.int .i64 1,.int .i64 1]))]) w.heap.size [] w fun r2 w3=>∃c g d,r2= .slice c g d/\(Pure P 38 #[] w3 fun r7 w8=>∃C D E G H I J K L,r7= .agg #[.slice C D E,.slice G H I,.slice J K L]/\(Pure P 22 #[.agg #[.slice C D E,.slice G H I,.slice J K L],.slice none 0 0,.slice c g d] w8 fun q0 q1=>∃M N O n,q0= .tuple #[.slice M N O,.int .i64 n]/\(Pure P 38 #[] q1 fun q2 q3=>∃Q S T U V X Y Z a0,q2= .agg #[.slice Q S T,.slice U V X,.slice Y Z a0]/\(Pure P 24 #[.agg #[.slice Q S T,.slice U V X,.slice Y Z a0],.slice none 0 0,.slice c g d] q3 fun q4 q5=>∃a1 a2 a3 o,q4= .tuple #[.slice a1 a2 a3,.int .i64 o]/\(Pure P 38 #[] q5 fun q6 q7=>∃a4 a5 a6 a7 a8 a9 b0 b1 b2,q6= .agg #[.slice a4 a5 a6,.slice a7 a8 a9,.slice b0 b1 b2]/\(Pure P 16 #[.agg #[.slice a4 a5 a6,.slice a7 a8 a9,.slice b0 b1 b2],.slice none 0 0,.slice c g d,.int .i64 3] q7 fun q8 q9=>∃b3 m b4 p,q8= .tuple #[.slice b3 m b4,.int .i64 p]/\(Pure P 38 #[] q9 fun r0 r1=>∃b5 b6 b7 b8 b9 c0 r2 r3 r4,r0= .agg #[.slice b5 b6 b7,.slice b8 b9 c0,.slice r2 r3 r4]/\(Pure P 12 #[.agg #[.slice b5 b6 b7,.slice b8 b9 c0],.slice none 0 0,.slice b3 m b4] r1 fun r5 r6=>∃q r s t,r5= .tuple #[.slice q r s,.int .i64 t]/\(Pure P 38 #[] r6 fun r7 r8=>∃c1 c2 c3 c4 c5 c6 c7 c8 c9,r7= .agg #[.slice c1 c2 c3,.slice c4 c5 c6,.slice c7 c8 c9]/\(RunOk P (Instr.buildSlice 48 2 #[(0,(.int .i64 0)),(1,(.int .i64 1))]) w.heap.size [] r8 fun r9 s0=>∃d0 d1 d2,r9= .slice d0 d1 d2/\(Pure P 27 #[.agg #[.slice c1 c2 c3,.slice c4 c5 c6,.slice c7 c8 c9],.slice none 0 0,.slice c g d,.slice d0 d1 d2] s0 fun s1 a=>∃i j,s1= .tuple #[.int .i64 i,.int .i64 j]/\(((n=0)->(((o=0)->(((p=0)->(((t=0)->(∀d3,Ext w.heap.size [] a d3->(RunOk P (Instr.buildSlice 48 2 #[(0,(.int .i64 1)),(1,(.int .i64 0))]) w.heap.size [] d3 fun s2 s3=>∃d4 d5 d6,s2= .slice d4 d5 d6/\(Pure P 26 #[.slice M N O,.slice d4 d5 d6] s3 fun s4 l=>∃u,s4= .bool u/\((u=true->(RunOk P (Instr.buildSlice 48 3 #[(0,(.int .i64 0)),(1,(.int .i64 2)),(2,(.int .i64 3))]) w.heap.size [] l fun s5 s6=>∃d7 d8 d9,s5= .slice d7 d8 d9/\(Pure P 26 #[.slice a1 a2 a3,.slice d7 d8 d9] s6 fun s7 b=>∃v,s7= .bool v/\((v=true->((((m:Int)=2)->((0<=(1:Int)/\(1:Int)<g)/\∃x,c=some x/\((0<=(0:Int)/\(0:Int)<g)/\∃y,c=some y/\((∃e0 e1 e2,CellsAt b (x.add (((1:Int)).toNat*3)) [.int .i64 e0,.int .i64 e1,.int .i64 e2]/\(∃e3 e4 e5,CellsAt b (y.add (((0:Int)).toNat*3)) [.int .i64 e3,.int .i64 e4,.int .i64 e5]/\(RunOk P (Instr.buildSlice 30 2 #[(0,(.agg #[.int .i64 e0,.int .i64 e1,.int .i64 e2])),(1,(.agg #[.int .i64 e3,.int .i64 e4,.int .i64 e5]))]) w.heap.size [] b fun s8 s9=>∃e6 e7 e8,s8= .slice e6 e7 e8/\(Pure P 39 #[.slice q r s,.slice e6 e7 e8] s9 fun t0 e=>∃z,t0= .bool z/\((z=true->(((i=0)->(((j=15)->((0<=(1:Int)/\(1:Int)<=(d:Int))/\((Pure P 38 #[] e fun t1 t2=>∃e9 f0 f1 f2 f3 f4 f5 f6 f7,t1= .agg #[.slice e9 f0 f1,.slice f2 f3 f4,.slice f5 f6 f7]/\(RunOk P (Instr.buildSlice 48 1 #[(0,(.int .i64 0))]) w.heap.size [] t2 fun t3 t4=>∃f8 f9 g0,t3= .slice f8 f9 g0/\(Pure P 30 #[.agg #[.slice e9 f0 f1,.slice f2 f3 f4,.slice f5 f6 f7],.slice none 0 0,(.slice c (((1:Int)).toNat) d),.slice f8 f9 g0] t4 fun t5 t6=>∃g1,t5= .int .i64 g1/\(R (.bool (decide (g1=0))) t6))))/\(RunOk P (Instr.buildSlice 48 1 #[(0,(.int .i64 0))]) w.heap.size [] e fun t7 t8=>∃g2 g3 g4,t7= .slice g2 g3 g4/\(Pure P 38 #[] t8 fun t9 v0=>∃g5 g6 g7 g8 g9 j0 j1 j2 j3,t9= .agg #[.slice g5 g6 g7,.slice g8 g9 j0,.slice j1 j2 j3]/\(Pure P 30 #[.agg #[.slice g5 g6 g7,.slice g8 g9 j0,.slice j1 j2 j3],.slice none 0 0,(.slice c (((1:Int)).toNat) d),.slice g2 g3 g4] v0 fun v1 v2=>∃j4,v1= .int .i64 j4/\(R (.bool (decide (j4=0))) v2)))))))/\(¬(j=15)->((R (.bool false) e)/\(R (.bool false) e)))))/\(¬(i=0)->((R (.bool false) e)/\(R (.bool false) e)))))/\(z=false->((R (.bool false) e)/\(R (.bool false) e))))))))/\(∃j5 j6 j7,CellsAt b (y.add (((0:Int)).toNat*3)) [.int .i64 j5,.int .i64 j6,.int .i64 j7]/\(∃j8 j9 l0,CellsAt b (x.add (((1:Int)).toNat*3)) [.int .i64 j8,.int .i64 j9,.int .i64 l0]/\(RunOk P (Instr.buildSlice 30 2 #[(0,(.agg #[.int .i64 j8,.int .i64 j9,.int .i64 l0])),(1,(.agg #[.int .i64 j5,.int .i64 j6,.int .i64 j7]))]) w.heap.size [] b fun v3 v4=>∃l1 l2 l3,v3= .slice l1 l2 l3/\(Pure P 39 #[.slice q r s,.slice l1 l2 l3] v4 fun v5 f=>∃A,v5= .bool A/\((A=true->(((i=0)->(((j=15)->((0<=(1:Int)/\(1:Int)<=(d:Int))/\((Pure P 38 #[] f fun v6 v7=>∃l4 l5 l6 l7 l8 l9 m0 m1 m2,v6= .agg #[.slice l4 l5 l6,.slice l7 l8 l9,.slice m0 m1 m2]/\(RunOk P (Instr.buildSlice 48 1 #[(0,(.int .i64 0))]) w.heap.size [] v7 fun v8 v9=>∃m3 m4 m5,v8= .slice m3 m4 m5/\(Pure P 30 #[.agg #[.slice l4 l5 l6,.slice l7 l8 l9,.slice m0 m1 m2],.slice none 0 0,(.slice c (((1:Int)).toNat) d),.slice m3 m4 m5] v9 fun x0 x1=>∃m6,x0= .int .i64 m6/\(R (.bool (decide (m6=0))) x1))))/\(RunOk P (Instr.buildSlice 48 1 #[(0,(.int .i64 0))]) w.heap.size [] f fun x2 x3=>∃m7 m8 m9,x2= .slice m7 m8 m9/\(Pure P 38 #[] x3 fun x4 x5=>∃n0 n1 n2 n3 n4 n5 n6 n7 n8,x4= .agg #[.slice n0 n1 n2,.slice n3 n4 n5,.slice n6 n7 n8]/\(Pure P 30 #[.agg #[.slice n0 n1 n2,.slice n3 n4 n5,.slice n6 n7 n8],.slice none 0 0,(.slice c (((1:Int)).toNat) d),.slice m7 m8 m9] x5 fun x6 x7=>∃n9,x6= .int .i64 n9/\(R (.bool (decide (n9=0))) x7)))))))/\(¬(j=15)->((R (.bool false) f)/\(R (.bool false) f)))))/\(¬(i=0)->((R (.bool false) f)/\(R (.bool false) f)))))/\(A=false->((R (.bool false) f)/\(R (.bool false) f))))))))))))/\(¬((m:Int)=2)->(((R (.bool false) b)/\(R (.bool false) b))/\((R (.bool false) b)/\(R (.bool false) b))))))/\(v=false->(((R (.bool false) b)/\(R (.bool false) b))/\((R (.bool false) b)/\(R (.bool false) b))))))))/\(u=false->(((R (.bool false) l)/\(R (.bool false) l))/\((R (.bool false) l)/\(R (.bool false) l)))))))))/\(¬(t=0)->(((∀o0,Ext w.heap.size [] a o0->(R (.bool false) o0))/\(∀o1,Ext w.heap.size [] a o1->(R (.bool false) o1)))/\((∀o2,Ext w.heap.size [] a o2->(R (.bool false) o2))/\(∀o3,Ext w.heap.size [] a o3->(R (.bool false) o3)))))))/\(¬(p=0)->(((∀o4,Ext w.heap.size [] a o4->(R (.bool false) o4))/\(∀o5,Ext w.heap.size [] a o5->(R (.bool false) o5)))/\((∀o6,Ext w.heap.size [] a o6->(R (.bool false) o6))/\(∀o7,Ext w.heap.size [] a o7->(R (.bool false) o7)))))))/\(¬(o=0)->(((∀o8,Ext w.heap.size [] a o8->(R (.bool false) o8))/\(∀o9,Ext w.heap.size [] a o9->(R (.bool false) o9)))/\((∀p0,Ext w.heap.size [] a p0->(R (.bool false) p0))/\(∀p1,Ext w.heap.size [] a p1->(R (.bool false) p1)))))))/\(¬(n=0)->(((∀p2,Ext w.heap.size [] a p2->(R (.bool false) p2))/\(∀p3,Ext w.heap.size [] a p3->(R (.bool false) p3)))/\((∀p4,Ext w.heap.size [] a p4->(R (.bool false) p4))/\(∀p5,Ext w.heap.size [] a p5->(R (.bool false) p5))))))))))))))))))):
  Pure P 10 #[] w R:=
 pure_of_run (garboardlaw51_awake.cx w w.heap.size R) 100000 follows Tryz.func10 rfl rfl rfl rfl rfl rfl rfl (Eq.mp (by kernel_rfl) h)

noncomputable def garboardlaw51_few.cx(w:World)(B:Nat)(R:Value->World->Prop):Cx:=⟨Tryz.prog,11,19,Tryz.f11.results.toList,[],[],w,B,R⟩
theorem garboardlaw51_few.vc(d:Option Addr)(e f:Nat)(g:Option Addr)(i j:Nat)(l:Option Addr)(m n:Nat)(q:Option Addr)(a r:Nat)(s:Option Addr)(o t:Nat)(w:World)(R:Value->World->Prop)
  (h:(∀p,Ext w.heap.size [] w p->(Pure P 40 #[.agg #[.slice d e f,.slice g i j,.slice l m n]] p fun u b=>∃c,u= .bool c/\((c=true->((((a:Int)<=(40:Int))->(R (.bool (decide ((o:Int)<=(7:Int)))) b))/\(¬((a:Int)<=(40:Int))->(R (.bool false) b))))/\(c=false->(R (.bool false) b)))))):
  Pure P 11 #[.agg #[.slice d e f,.slice g i j,.slice l m n],.slice q a r,.slice s o t] w R:=
 pure_of_run (garboardlaw51_few.cx w w.heap.size R) 100000 follows Tryz.func11 rfl rfl rfl rfl rfl rfl rfl (Eq.mp (by kernel_rfl) h)

noncomputable def garboardlaw51_Two.cx(w:World)(B:Nat)(R:Value->World->Prop):Cx:=⟨Tryz.prog,38,15,Tryz.f38.results.toList,[],[(1,2,2),(1,7,2),(1,9,2),(1,12,2)],w,B,R⟩
theorem garboardlaw51_Two.vc  (w:World)(R:Value->World->Prop)
  (h:(∀a,Ext w.heap.size [] w a->(RunOk P (Instr.buildSlice 22 2 #[(0,(.agg #[.int .i64 1,.int .i64 3,.int .i64 1,(.string ⟨#[97]⟩),(.string ⟨#[50]⟩),(.string ⟨#[49]⟩),(.string ⟨#[53]⟩)])),(1,(.agg #[.int .i64 2,.int .i64 1,.int .i64 2,(.string ⟨#[98]⟩),(.string ⟨#[49,47,50]⟩),(.string ⟨#[52]⟩),(.string ⟨#[49]⟩)]))]) w.heap.size [28] a fun q r=>∃b c d,q= .slice b c d/\(RunOk P (Instr.buildSlice 23 2 #[(0,(.agg #[.int .i64 1,(.string ⟨#[65]⟩),(.string ⟨#[52]⟩),(.string ⟨#[55]⟩),(.string ⟨#[49,48]⟩),(.string ⟨#[48]⟩),(.string ⟨#[49]⟩)])),(1,(.agg #[.int .i64 2,(.string ⟨#[66]⟩),(.string ⟨#[57]⟩),(.string ⟨#[51]⟩),(.string ⟨#[45,53]⟩),(.string ⟨#[48]⟩),(.string ⟨#[49]⟩)]))]) w.heap.size [28] r fun s t=>∃e f g,s= .slice e f g/\(RunOk P (Instr.buildSlice 85 2 #[(0,(.string ⟨#[49,48]⟩)),(1,(.string ⟨#[45,53]⟩))]) w.heap.size [28] t fun u v=>∃i j l,u= .slice i j l/\(RunOk P (Instr.buildSlice 26 2 #[(0,(.agg #[(.string ⟨#[108,105,115,116]⟩),.int .i64 1,.slice i j l,(.string ⟨#[48]⟩),(.string ⟨#[51,48]⟩),.int .i64 0,.int .i64 0])),(1,(.agg #[(.string ⟨#[97,112,97,114,116]⟩),.int .i64 2,.slice none 0 0,(.string ⟨#[]⟩),(.string ⟨#[]⟩),.int .i64 1,.int .i64 2]))]) w.heap.size [28] v fun x y=>∃m n o,x= .slice m n o/\(∀p,Ext w.heap.size [28] y p->(R (.agg #[.slice b c d,.slice e f g,.slice m n o]) p)))))))):
  Pure P 38 #[] w R:=
 pure_of_run (garboardlaw51_Two.cx w w.heap.size R) 100000 follows Tryz.func38 rfl rfl rfl rfl rfl rfl rfl (Eq.mp (by kernel_rfl) h)

end Go.Proofs.YtgfkeadgjkfomaaGreatDoor.F

namespace Go.Proofs.YtgfkeadgjkfomaaGreatDoor.B
open Go Go.RowKit Go.Proofs Go.Proofs.YtgfkeadgjkfomaaGreatDoor.Vc

theorem CloneW{w:World}{A:Option Addr}{n c:Nat}{l:List Sw}(h:SlR w A 3 (l.map Sw.row))(hlen:l.length=n)(hn:n<=1000000):
  Pure Tryz.prog 18 #[.slice A n c] w fun v w'=>∃A' c',v= .slice A' n c'/\OwnR w' w.heap.size 44 A' n c' 3 (l.map Sw.row):=by
 refine F.slices_Clone_api_Work_api_Work.vc _ _ _ _ _ ⟨fun hA=> ?_,fun hA=> ?_⟩
 ·subst hA
  have:=h.none_nil
  simp at this
  subst this
  simp at hlen
  subst hlen
  exact⟨none,0,rfl,OwnR.nil⟩
 ·obtain⟨a,rfl⟩:=Option.ne_none_iff_exists'.1 hA
  refine runOk_lit el_Ws [] (by simp) (by simp) (Nat.le_refl _) fun A2 c2 w2 ho b2=> ?_
  refine app_rows el_Ws (Nat.le_refl _) (by simpa using ho) (h.below b2) (by simpa using hlen) rowS_len rowS_cell b2.size (by simp;omega) (by simp) fun A' c' w3 o3 _ b3=> ?_
  simp only[List.length_nil,Nat.zero_add,List.nil_append]at o3⊢
  exact⟨A',c',rfl,o3⟩
theorem EqualW{w0:World}{A A1:Option Addr}{n n1 c c1:Nat}{l l1:List Sw}(h:SlR w0 A 3 (l.map Sw.row))(h1:SlR w0 A1 3 (l1.map Sw.row))(hlen:l.length=n)(hlen1:l1.length=n1)(hn:n<2147483648):
  Pure Tryz.prog 39 #[.slice A n c,.slice A1 n1 c1] w0 fun y _=>y= .bool (decide (l=l1)):=by
 have key:n=n1->∀(d i:Nat)(w:World),n - i=d->i<=n->Below w0.heap.size w0 w->l.take i=l1.take i->F.slices_Equal_api_Work_api_Work.L4 A n c A1 n1 c1 n i w0.heap.size w fun y _=>y= .bool (decide (l=l1)):=by
  intro e d
  induction d with
  |zero=>
   intro i w hd hi hw hx
   refine F.slices_Equal_api_Work_api_Work.L4.step _ _ _ _ _ _ _ _ _ _ _ ⟨fun h=>by omega,fun _=> ?_⟩
   rw[List.take_of_length_le (by omega),List.take_of_length_le (by omega)]at hx
   rw[decide_eq_true hx]
  |succ d ih=>
   intro i w hd hi hw hx
   have hil:i<l.length:=by omega
   have hil1:i<l1.length:=by omega
   have e3:(i:Int)+1=((i+1:Nat):Int):=by omega
   obtain⟨hb,a,hA,hcell,_⟩:=(h.keep hw (Nat.le_refl _)).at_ (fun _=>rfl) hlen hil
   obtain⟨hb1,a1,hA1,hcell1,_⟩:=(h1.keep hw (Nat.le_refl _)).at_ (fun _=>rfl) hlen1 hil1
   refine F.slices_Equal_api_Work_api_Work.L4.step _ _ _ _ _ _ _ _ _ _ _ ⟨fun _=>⟨hb,a,hA,_,_,_,hcell,hb1,a1,hA1,_,_,_,hcell1,fun k w2 _=> ?_,fun k=>⟨by simp only[inR];omega,fun w2 x2=> ?_⟩⟩,fun h=>by omega⟩
   ·rw[decide_eq_false fun e=>k (by subst e;exact⟨rfl,rfl,rfl,trivial⟩)]
   ·rw[e3]
    refine ih (i+1) w2 (by omega) (by omega) (kE hw x2) ?_
    have k:=Decidable.not_not.1 k
    have e:l[i]=l1[i]:=by
     cases hx1:l[i]
     cases hx2:l1[i]
     rw[hx1,hx2]at k
     simp only at k
     rw[k.1,k.2.1,k.2.2.1]
    rw[List.take_add_one,List.take_add_one,hx,List.getElem?_eq_getElem hil,List.getElem?_eq_getElem hil1,e]
 refine F.slices_Equal_api_Work_api_Work.vc _ _ _ _ _ _ _ _ ⟨fun k=> ?_,fun k=>key (by omega) n 0 w0 rfl (by omega) (Below.refl _ _) (by simp)⟩
 rw[decide_eq_false fun e=>k (by subst e;omega)]

def rsT:List Ru:=[⟨⟨#[108,105,115,116]⟩,1,[⟨#[49,48]⟩,⟨#[45,53]⟩],⟨#[48]⟩,⟨#[51,48]⟩,0,0⟩,⟨⟨#[97,112,97,114,116]⟩,2,[],⟨#[]⟩,⟨#[]⟩,1,2⟩]
def wT:List Sw:=[⟨2,1,1⟩,⟨1,1,1⟩]
def sT:List Sw:=[⟨1,1,1⟩,⟨2,1,1⟩]
theorem rsT_sm:∀r∈rsT,SmRu r:=by
 intro r hr
 simp only[rsT,List.mem_cons,List.not_mem_nil,or_false]at hr
 rcases hr with rfl|rfl
 ·refine⟨fun s hs'=> ?_,by decide,by decide,by decide,by decide⟩
  simp only[List.mem_cons,List.not_mem_nil,or_false]at hs'
  rcases hs' with rfl|rfl<;>decide
 ·exact⟨fun s hs'=>(by cases hs'),by decide,by decide,by decide,by decide⟩
theorem t_order:orderF psT hsT rsT [] wT=([1,0],0):=by kernel_rfl
theorem t_reach:reachF psT hsT rsT [] wT=([0,2,3],0):=by kernel_rfl
theorem t_state:statesF psT hsT rsT [] wT 3=(sT,0):=by kernel_rfl
theorem t_between:betweenF psT hsT [] sT=([⟨1,1,1⟩,⟨2,1,1⟩],0):=by kernel_rfl
theorem t_orders:ordersF psT hsT rsT [] wT [0,1]=(0,15):=by kernel_rfl
theorem t_closed:closedF psT hsT rsT [] [⟨2,1,1⟩] [0]=0:=by kernel_rfl
theorem law51_Two(w:World):Pure Tryz.prog 38 #[] w fun v w'=>∃A c A' c' A2 c2 xs,v= .agg #[.slice A 2 c,.slice A' 2 c',.slice A2 2 c2]/\PrIn w' A 2 A' 2 A2 2 c2 psT hsT xs/\rsOf xs=rsT:=by
 refine F.garboardlaw51_Two.vc _ _ fun w1 x1=> ?_
 have hw:=k0 x1
 refine runOk_lit el_Pas (psT.map Pa.val) (by simp[psT,Value.cells]) (by simp[psT]) hw.size fun A c w2 o2 b2=> ?_
 have hw:=kP hw b2
 refine runOk_lit el_Hos (hsT.map Ho.val) (by simp[hsT,Value.cells]) (by simp[hsT]) hw.size fun A' c' w3 o3 b3=> ?_
 have hw:=kP hw b3
 refine runOk_lit el_Rats [.string ⟨#[49,48]⟩,.string ⟨#[45,53]⟩] (by simp[Value.cells]) (by simp) hw.size fun A8 c8 w4 o4 b4=> ?_
 have hw:=kP hw b4
 refine runOk_lit el_Rus [Rm.val ⟨⟨⟨#[108,105,115,116]⟩,1,[⟨#[49,48]⟩,⟨#[45,53]⟩],⟨#[48]⟩,⟨#[51,48]⟩,0,0⟩,A8,2,c8⟩,Rm.val ⟨⟨⟨#[97,112,97,114,116]⟩,2,[],⟨#[]⟩,⟨#[]⟩,1,2⟩,none,0,0⟩] (by simp[Value.cells]) (by simp) hw.size fun A2 c2 w5 o5 b5 w6 x6=> ?_
 have hk:=Kq.ext x6
 have p2:=(((o2.below b3).below b4).below b5).kq hk (by decide) (by decide)
 have p3:=((o3.below b4).below b5).kq hk (by decide) (by decide)
 have p4:=(o4.below b5).kq hk (by decide) (by decide)
 have p5:=o5.extT x6 (by decide)
 have s2:SlR w6 A 7 (psT.map Pa.row):=p2.sl
 have s3:SlR w6 A' 7 (hsT.map Ho.row):=p3.sl
 refine⟨A,c,A',c',A2,c2,[⟨⟨⟨#[108,105,115,116]⟩,1,[⟨#[49,48]⟩,⟨#[45,53]⟩],⟨#[48]⟩,⟨#[51,48]⟩,0,0⟩,A8,2,c8⟩,⟨⟨⟨#[97,112,97,114,116]⟩,2,[],⟨#[]⟩,⟨#[]⟩,1,2⟩,none,0,0⟩],rfl,⟨⟨s2,s3,rfl,rfl,fun p hp=> ?_,fun h hh=> ?_,by omega,by omega⟩,p5.sl,rfl,fun x hx=> ?_,by omega,p5.len_le⟩,rfl⟩
 ·simp only[psT,List.mem_cons,List.not_mem_nil,or_false]at hp
  rcases hp with rfl|rfl<;>exact⟨by decide,by decide,by decide,by decide⟩
 ·simp only[hsT,List.mem_cons,List.not_mem_nil,or_false]at hh
  rcases hh with rfl|rfl<;>exact⟨by decide,by decide,by decide,by decide,by decide,by decide⟩
 ·simp only[List.mem_cons,List.not_mem_nil,or_false]at hx
  rcases hx with rfl|rfl
  ·exact⟨p4.sl,rfl,rsT_sm _ (by simp[rsT]),p4.z⟩
  ·exact⟨.inl rfl,rfl,rsT_sm _ (by simp[rsT]),fun _=>rfl⟩
theorem law51_awake{w:World}(hg:Glob w):Pure Tryz.prog 10 #[] w fun v _=>v= .bool true:=by
 refine F.garboardlaw51_awake.vc _ _ ?_
 refine runOk_lit el_Ws (wT.map Sw.val) (by simp[wT,Value.cells]) (by simp[wT]) (Nat.le_refl _) fun A1 c1 w3 o3 b3=> ?_
 have h1:SlR w3 A1 3 (wT.map Sw.row):=o3.sl
 have hc1:2<=c1:=o3.len_le
 have hw:=b3
 refine Pure.mono (law51_Two w3) ?_
 rintro v w8 b8 ⟨A4,c4,A5,c5,A6,c6,xs,rfl,hp,hxs⟩
 have hw:=kP hw b8
 have h1:=h1.below b8
 refine⟨_,_,_,_,_,_,_,_,_,rfl,Pure.mono (seq_Order (l:=[]) (n:=0) (hg.next hw) hp (.inl rfl) rfl (Nat.le_refl _) (by omega) h1 rfl) ?_⟩
 rw[hxs,t_order]
 rintro v w12 b12 ⟨A9,n9,c9,rfl,s9,l9,_⟩
 have hw:=kP hw b12
 have h1:=h1.below b12
 refine⟨_,_,_,_,rfl,Pure.mono (law51_Two w12) ?_⟩
 rintro v w17 b17 ⟨A4,c4,A5,c5,A6,c6,xs,rfl,hp,hxs⟩
 have hw:=kP hw b17
 have h1:=h1.below b17
 have s9:=s9.below b17
 refine⟨_,_,_,_,_,_,_,_,_,rfl,Pure.mono (seq_Reached (l:=[]) (n:=0) (hg.next hw) hp (.inl rfl) rfl (Nat.le_refl _) (by omega) h1 rfl) ?_⟩
 rw[hxs,t_reach]
 rintro v w21 b21 ⟨A18,n18,c18,rfl,s18,l18,_⟩
 have hw:=kP hw b21
 have h1:=h1.below b21
 have s9:=s9.below b21
 refine⟨_,_,_,_,rfl,Pure.mono (law51_Two w21) ?_⟩
 rintro v w26 b26 ⟨A4,c4,A5,c5,A6,c6,xs,rfl,hp,hxs⟩
 have hw:=kP hw b26
 have h1:=h1.below b26
 have s9:=s9.below b26
 have s18:=s18.below b26
 refine⟨_,_,_,_,_,_,_,_,_,rfl,Pure.mono (seq_State (l:=[]) (n:=0) (hg.next hw) hp (.inl rfl) rfl (Nat.le_refl _) (by omega) h1 rfl 3) ?_⟩
 rw[hxs,t_state]
 rintro v w30 b30 ⟨A27,n27,c27,rfl,s27,l27,k27,_⟩
 have hw:=kP hw b30
 have h1:=h1.below b30
 have s9:=s9.below b30
 have s18:=s18.below b30
 have n27:2=n27:=l27
 subst n27
 refine⟨_,_,_,_,rfl,Pure.mono (law51_Two w30) ?_⟩
 rintro v w35 b35 ⟨A4,c4,A5,c5,A6,c6,xs,rfl,hp,hxs⟩
 have hw:=kP hw b35
 have h1:=h1.below b35
 have s9:=s9.below b35
 have s18:=s18.below b35
 have s27:=s27.below b35
 refine⟨_,_,_,_,_,_,_,_,_,rfl,Pure.mono (seq_Between (l:=[]) (n:=0) (m:=sT) (hg.next hw) hp.c (.inl rfl) rfl (Nat.le_refl _) (by omega) s27 rfl k27 (by omega)) ?_⟩
 rw[t_between]
 rintro v w39 b39 ⟨A36,n36,c36,rfl,s36,l36,_⟩
 have hw:=kP hw b39
 have h1:=h1.below b39
 have s9:=s9.below b39
 have s18:=s18.below b39
 refine⟨_,_,_,_,rfl,Pure.mono (law51_Two w39) ?_⟩
 rintro v w44 b44 ⟨A4,c4,A5,c5,A6,c6,xs,rfl,hp,hxs⟩
 have hw:=kP hw b44
 have h1:=h1.below b44
 have s9:=s9.below b44
 have s18:=s18.below b44
 have s36:=s36.below b44
 refine⟨_,_,_,_,_,_,_,_,_,rfl,runOk_lit el_Ints [.int .i64 0,.int .i64 1] (by simp[Value.cells]) (by simp) hw.size fun A45 c45 w47 o47 b47=> ?_⟩
 have hw:=kP hw b47
 have h1:=h1.below b47
 have s9:=s9.below b47
 have s18:=s18.below b47
 have s36:=s36.below b47
 have s45:SlR w47 A45 1 (([0,1]:List Int).map iRow):=o47.sl
 refine Pure.mono (seq_Check (l:=[]) (n:=0) (o:=[0,1]) (hg.next hw) (hp.keep b47) (.inl rfl) rfl (Nat.le_refl _) (by omega) h1 rfl s45 rfl (by decide)) ?_
 rw[hxs,t_orders]
 rintro v w51 b51 rfl
 have hw:=kP hw b51
 have h1:=h1.below b51
 have s9:=s9.below b51
 have s18:=s18.below b51
 have s36:=s36.below b51
 refine⟨_,_,rfl,fun _=>⟨fun _=>⟨fun _=>⟨fun _ w52 x52=> ?_,fun k=>absurd rfl k⟩,fun k=>absurd rfl k⟩,fun k=>absurd rfl k⟩,fun k=>absurd rfl k⟩
 have hw:=kE hw x52
 have h1:=h1.extNil x52
 have s9:=s9.extNil x52
 have s18:=s18.extNil x52
 have s36:=s36.extNil x52
 refine runOk_lit el_Ints [.int .i64 1,.int .i64 0] (by simp[Value.cells]) (by simp) hw.size fun A53 c53 w55 o55 b55=> ?_
 have hw:=kP hw b55
 have h1:=h1.below b55
 have s9:=s9.below b55
 have s18:=s18.below b55
 have s36:=s36.below b55
 have s53:SlR w55 A53 1 (([1,0]:List Int).map iRow):=o55.sl
 refine Pure.mono (EqualI s9 s53 l9 rfl (by subst l9;decide)) ?_
 rintro v w58 b58 rfl
 have hw:=kP hw b58
 have h1:=h1.below b58
 have s18:=s18.below b58
 have s36:=s36.below b58
 refine⟨_,rfl,fun _=> ?_,fun k=>by simp at k⟩
 refine runOk_lit el_Ints [.int .i64 0,.int .i64 2,.int .i64 3] (by simp[Value.cells]) (by simp) hw.size fun A59 c59 w61 o61 b61=> ?_
 have hw:=kP hw b61
 have h1:=h1.below b61
 have s18:=s18.below b61
 have s36:=s36.below b61
 have s59:SlR w61 A59 1 (([0,2,3]:List Int).map iRow):=o61.sl
 refine Pure.mono (EqualI s18 s59 l18 rfl (by subst l18;decide)) ?_
 rintro v w64 b64 rfl
 have hw:=kP hw b64
 have h1:=h1.below b64
 have s36:=s36.below b64
 refine⟨_,rfl,fun _=>⟨fun _=> ?_,fun k=>absurd rfl k⟩,fun k=>by simp at k⟩
 obtain⟨c1a,a65,hA65,hc65,_⟩:=h1.at_ (fun _=>rfl) (n:=2) rfl (i:=1) (by decide)
 obtain⟨c0a,a66,hA66,hc66,_⟩:=h1.at_ (fun _=>rfl) (n:=2) rfl (i:=0) (by decide)
 have fin:∀(A:Option Addr)(c:Nat)(w109:World),Below w64.heap.size w64 w109->SlR w109 A 3 (([⟨1,1,1⟩,⟨2,1,1⟩]:List Sw).map Sw.row)->Pure Tryz.prog 39 #[.slice A36 n36 c36,.slice A 2 c] w109 fun v w112=>v= .bool true/\Below w.heap.size w w112/\SlR w112 A1 3 (([⟨2,1,1⟩]:List Sw).map Sw.row):=by
  intro A c w109 hb hA
  refine Pure.mono (EqualW (l:=[⟨1,1,1⟩,⟨2,1,1⟩]) (s36.below hb) hA l36 rfl (by subst l36;decide)) ?_
  rintro v w112 b112 rfl
  exact⟨by rw[decide_eq_true rfl],kP (kP hw hb) b112,((h1.below hb).below b112).take 1⟩
 have last:∀(w112:World),Below w.heap.size w w112->SlR w112 A1 3 (([⟨2,1,1⟩]:List Sw).map Sw.row)->∀(A118:Option Addr) (c118:Nat) (w120:World) (A c A' c' A2 c2) (xs:List Rm),Below w112.heap.size w112 w120->PrIn w120 A 2 A' 2 A2 2 c2 psT hsT xs->rsOf xs=rsT->SlR w120 A118 1 (([0]:List Int).map iRow)->Pure Tryz.prog 30 #[.agg #[.slice A 2 c,.slice A' 2 c',.slice A2 2 c2],.slice none 0 0,.slice A1 1 c1,.slice A118 1 c118] w120 fun r _=>∃i:Int,r= .int .i64 i/\Value.bool (decide (i=0))= .bool true:=by
  intro w112 hw112 h112 A118 c118 w120 A c A' c' A2 c2 xs hb hp hxs hs'
  refine Pure.mono (seq_Closed (l:=[]) (n:=0) (works:=[⟨2,1,1⟩]) (S:=[0]) (hg.next (kP hw112 hb)) hp (.inl rfl) rfl (Nat.le_refl _) (by omega) (h112.below hb) rfl hs' rfl (by decide)) ?_
  rw[hxs,t_closed]
  rintro v w123 _ rfl
  exact⟨_,rfl,rfl⟩
 refine⟨c1a,a65,hA65,c0a,a66,hA66,⟨_,_,_,hc65,_,_,_,hc66,?_⟩,⟨_,_,_,hc66,_,_,_,hc65,?_⟩⟩
 all_goals
  refine runOk_lit el_Ws [Sw.val ⟨1,1,1⟩,Sw.val ⟨2,1,1⟩] (by simp[Value.cells]) (by simp) hw.size fun A73 c73 w75 o75 b75=> ?_
  refine Pure.mono (fin A73 c73 w75 b75 o75.sl) ?_
  rintro v w78 _ ⟨rfl,hw78,h78⟩
  refine⟨_,rfl,fun _=>⟨fun _=>⟨fun _=>⟨by omega,?_,?_⟩,fun k=>absurd rfl k⟩,fun k=>absurd rfl k⟩,fun k=>by cases k⟩
  ·refine Pure.mono (law51_Two w78) ?_
   rintro v w83 b83 ⟨A4,c4,A5,c5,A6,c6,xs,rfl,hp,hxs⟩
   refine⟨_,_,_,_,_,_,_,_,_,rfl,runOk_lit el_Ints [.int .i64 0] (by simp[Value.cells]) (by simp) (kP hw78 b83).size fun A84 c84 w86 o86 b86=> ?_⟩
   exact last w78 hw78 h78 A84 c84 w86 _ _ _ _ _ _ xs (kP b83 b86) (hp.keep b86) hxs o86.sl
  ·refine runOk_lit el_Ints [.int .i64 0] (by simp[Value.cells]) (by simp) hw78.size fun A84 c84 w86 o86 b86=> ?_
   refine Pure.mono (law51_Two w86) ?_
   rintro v w83 b83 ⟨A4,c4,A5,c5,A6,c6,xs,rfl,hp,hxs⟩
   refine⟨_,_,_,_,_,_,_,_,_,rfl,?_⟩
   exact last w78 hw78 h78 A84 c84 w83 _ _ _ _ _ _ xs (kP b86 b83) hp hxs (o86.sl.below b83)
def few51(ps:List Pa)(hs:List Ho)(rs:List Ru)(n n3:Nat):Bool:=fewPr ps hs rs&&(decide (n<=40)&&decide (n3<=7))
section
variable {w:World} {A0 A1 A2 A A3:Option Addr} {n0 c0 n1 c1 n2 c2 n c n3 c3:Nat} {ps:List Pa} {hs:List Ho} {xs:List Rm}
theorem law51_few(h:PrRaw w A0 n0 c0 A1 n1 c1 A2 n2 c2 ps hs xs):
  Pure Tryz.prog 11 #[.agg #[.slice A0 n0 c0,.slice A1 n1 c1,.slice A2 n2 c2],.slice A n c,.slice A3 n3 c3] w fun v _=>v= .bool (few51 ps hs (rsOf xs) n n3):=by
 refine F.garboardlaw51_few.vc _ _ _ _ _ _ _ _ _ _ _ _ _ _ _ _ _ fun w1 x1=>Pure.mono (r48_Few (h.keep (k0 x1))) ?_
 rintro v w4 _ rfl
 unfold few51
 refine⟨_,rfl,fun k=>⟨fun k2=> ?_,fun k2=> ?_⟩,fun k=> ?_⟩
 ·rw[k,Bool.true_and,decide_eq_true (show n<=40 by omega),Bool.true_and]
  refine congrArg Value.bool ?_
  rw[decide_eq_decide]
  omega
 ·rw[k,Bool.true_and,decide_eq_false (show ¬n<=40 by omega),Bool.false_and]
 ·rw[k,Bool.false_and]
end

structure Ar (w:World) (A0:Option Addr) (n0 c0:Nat) (A1:Option Addr) (n1 c1:Nat) (A2:Option Addr) (n2 c2:Nat) (A:Option Addr) (n:Nat) (A3:Option Addr) (n3:Nat) (ps:List Pa) (hs:List Ho) (xs:List Rm) (l works:List Sw):Prop where
 p:PrIn w A0 n0 A1 n1 A2 n2 c2 ps hs xs
 z0:A0=none->c0=0
 z1:A1=none->c1=0
 s:SlR w A 3 (l.map Sw.row)
 ls:l.length=n
 n:n<=40
 wk:SlR w A3 3 (works.map Sw.row)
 lw:works.length=n3
 n7:n3<=7
section
variable {w w':World} {A0 A1 A2 A A3:Option Addr} {n0 c0 n1 c1 n2 c2 n c n3 c3:Nat} {ps:List Pa} {hs:List Ho} {xs:List Rm} {l works:List Sw}
theorem Ar.keep(h:Ar w A0 n0 c0 A1 n1 c1 A2 n2 c2 A n A3 n3 ps hs xs l works)(hb:Below w.heap.size w w'):Ar w' A0 n0 c0 A1 n1 c1 A2 n2 c2 A n A3 n3 ps hs xs l works:=
 ⟨h.p.keep hb,h.z0,h.z1,h.s.keep hb (Nat.le_refl _),h.ls,h.n,h.wk.keep hb (Nat.le_refl _),h.lw,h.n7⟩
theorem cp3(h:Ar w A0 n0 c0 A1 n1 c1 A2 n2 c2 A n A3 n3 ps hs xs l works){K:Option Addr->Nat->Nat->Option Addr->Nat->Nat->Option Addr->Nat->Nat->Option Addr->Nat->Nat->Option Addr->Nat->Nat->World->Prop}
  (hK:∀B0 d0 B1 d1 B2 d2 As cs Aw cw w3 ys,Below w.heap.size w w3->PrIn w3 B0 n0 B1 n1 B2 n2 d2 ps hs ys->rsOf ys=rsOf xs->SlR w3 As 3 (l.map Sw.row)->n<=cs->SlR w3 Aw 3 (works.map Sw.row)->K B0 n0 d0 B1 n1 d1 B2 n2 d2 As n cs Aw n3 cw w3):
  Pure Tryz.prog 17 #[.agg #[.slice A0 n0 c0,.slice A1 n1 c1,.slice A2 n2 c2]] w fun r w1=>∃B0 m0 d0 B1 m1 d1 B2 m2 d2,r= .agg #[.slice B0 m0 d0,.slice B1 m1 d1,.slice B2 m2 d2]/\
   (Pure Tryz.prog 14 #[.slice A n c] w1 fun r w2=>∃As ms cs,r= .slice As ms cs/\
    (Pure Tryz.prog 18 #[.slice A3 n3 c3] w2 fun r w3=>∃Aw mw cw,r= .slice Aw mw cw/\K B0 m0 d0 B1 m1 d1 B2 m2 d2 As ms cs Aw mw cw w3)):=by
 have hn:=h.n
 have h7:=h.n7
 refine Pure.mono (r48_Copy h.p h.z0 h.z1) ?_
 rintro v w1 b1 ⟨B0,d0,B1,d1,B2,d2,ys,rfl,hp,hys,_⟩
 refine⟨_,_,_,_,_,_,_,_,_,rfl,Pure.mono (CloneS (h.s.keep b1 (Nat.le_refl _)) h.ls (by omega)) ?_⟩
 rintro v w2 b2 ⟨As,cs,rfl,os⟩
 refine⟨_,_,_,rfl,Pure.mono (CloneW ((h.wk.keep b1 (Nat.le_refl _)).keep b2 (Nat.le_refl _)) h.lw (by omega)) ?_⟩
 rintro v w3 b3 ⟨Aw,cw,rfl,ow⟩
 exact⟨_,_,_,rfl,hK _ _ _ _ _ _ _ _ _ _ _ ys (kP (kP b1 b2) b3) ((hp.keep b2).keep b3) hys (os.below b3).sl os.len_le ow.sl⟩
theorem few_ar(hr:PrRaw w A0 n0 c0 A1 n1 c1 A2 n2 c2 ps hs xs)(hs':SlR w A 3 (l.map Sw.row))(hl:l.length=n)(hw:SlR w A3 3 (works.map Sw.row))(hlw:works.length=n3)(hf:few51 ps hs (rsOf xs) n n3=true):Ar w A0 n0 c0 A1 n1 c1 A2 n2 c2 A n A3 n3 ps hs xs l works:=by
 unfold few51 at hf
 rw[Bool.and_eq_true,Bool.and_eq_true]at hf
 exact⟨hr.few hf.1,hr.z0,hr.z1,hs',hl,of_decide_eq_true hf.2.1,hw,hlw,of_decide_eq_true hf.2.2⟩
end

section
variable {w:World} {A0 A1 A2 A A3 A4 A5:Option Addr} {n0 c0 n1 c1 n2 c2 n c n3 c3 n4 c4 n5 c5:Nat} {ps:List Pa} {hs:List Ho} {xs:List Rm} {l works:List Sw} {o S:List Int}
theorem order_task(h:(orderF ps hs (rsOf xs) l works).2=19):taskF ps hs (rsOf xs) l works=0:=by
 apply Decidable.byContradiction
 intro k
 unfold orderF at h
 rw[if_pos k]at h
 exact task_ne.1 h
theorem law51_Either(hg:Glob w)(hr:PrRaw w A0 n0 c0 A1 n1 c1 A2 n2 c2 ps hs xs)(hst:SlR w A 3 (l.map Sw.row))(hl:l.length=n)(hwk:SlR w A3 3 (works.map Sw.row))(hlw:works.length=n3)(ho:SlR w A4 1 (o.map iRow))(hlo:o.length=n4)(hS:SlR w A5 1 (S.map iRow))(hlS:S.length=n5):
  Pure Tryz.prog 6 #[.agg #[.slice A0 n0 c0,.slice A1 n1 c1,.slice A2 n2 c2],.slice A n c,.slice A3 n3 c3,.slice A4 n4 c4,.slice A5 n5 c5] w fun v _=>v= .bool true:=by
 refine F.garboardlaw51_SequenceEither.vc _ _ _ _ _ _ _ _ _ _ _ _ _ _ _ _ _ _ _ _ _ _ _ fun w1 x1=> ?_
 have hw:=k0 x1
 refine Pure.mono (law51_awake (hg.next hw)) ?_
 rintro v w4 b4 rfl
 have hw:=kP hw b4
 refine⟨_,rfl,fun k=>(by cases k),fun _=>Pure.mono (law51_few (hr.keep hw)) ?_⟩
 rintro v w7 b7 rfl
 have hw:=kP hw b7
 refine⟨_,rfl,fun _=>rfl,fun hf=>⟨fun _=>rfl,fun h4=>⟨fun _=>rfl,fun h5=> ?_⟩⟩⟩
 have ar:=few_ar (hr.keep hw) (hst.keep hw (Nat.le_refl _)) hl (hwk.keep hw (Nat.le_refl _)) hlw (Bool.not_eq_false _|>.mp hf)
 have hn:=ar.n
 refine cp3 ar fun B0 d0 B1 d1 B2 d2 As cs Aw cw w18 ys b18 hp hys s1 hc1 s2=> ?_
 have hw18:=kP hw b18
 refine Pure.mono (seq_Order (hg.next hw18) hp s1 hl hc1 hn s2 hlw) ?_
 rw[hys]
 rintro v w22 b22 ⟨A19,n19,c19,rfl,s19,l19,_⟩
 have hw22:=kP hw18 b22
 have ar22:=ar.keep (kP b18 b22)
 refine⟨_,_,_,_,rfl,cp3 ar22 fun B0 d0 B1 d1 B2 d2 As cs Aw cw w33 ys b33 hp hys s1 hc1 s2=> ?_⟩
 have hw33:=kP hw22 b33
 refine Pure.mono (seq_Reached (hg.next hw33) hp s1 hl hc1 hn s2 hlw) ?_
 rw[hys]
 rintro v w37 b37 ⟨A34,n34,c34,rfl,s34,l34,_⟩
 have hw37:=kP hw33 b37
 have ar37:=ar22.keep (kP b33 b37)
 obtain⟨e1,e2,e3⟩:=seq_either ps hs (rsOf xs) l works o S
 refine⟨_,_,_,_,rfl,fun h1=>⟨fun h2=> ?_,fun h2=> ?_⟩,fun h1=> ?_⟩
 ·obtain⟨q1,q2⟩:=e1 h1 h2
  refine⟨fun _=> ?_,fun k=>absurd q1 k⟩
  rw[q2]at l34
  refine congrArg Value.bool (decide_eq_true ?_)
  simp at l34
  omega
 all_goals
  have hre:(reachF ps hs (rsOf xs) l works).1.length<=1000000:=by
   unfold reachF
   split
   ·simp
   ·rename_i k
    have:=step_len (allowF ps hs (rsOf xs) l works) works.length (fullN works.length)
    have h64:=pow64 _ (task_ok (Decidable.not_not.1 k)).n
    have:=full_lt works.length
    rw[List.length_map]
    omega
  refine cp3 ar37 fun B0 d0 B1 d1 B2 d2 As cs Aw cw w48 ys b48 hp hys s1 hc1 s2=> ?_
  have hw48:=kP hw37 b48
  refine Pure.mono (CloneI (s34.below b48) l34 (by omega)) ?_
  rintro v w51 b51 ⟨A49,c49,rfl,o49⟩
  have hw51:=kP hw48 b51
  refine⟨_,_,_,rfl,Pure.mono (seq_Closed (hg.next hw51) (hp.keep b51) (s1.below b51) hl hc1 hn (s2.below b51) hlw o49.sl l34 (by omega)) ?_⟩
  rw[hys]
  rintro v w54 b54 rfl
  have hw54:=kP hw51 b54
  have ar54:=ar37.keep (kP (kP b48 b51) b54)
  refine⟨_,rfl,cp3 ar54 fun B0 d0 B1 d1 B2 d2 As cs Aw cw w65 ys b65 hp hys s1 hc1 s2=> ?_⟩
  have hw65:=kP hw54 b65
  refine Pure.mono (CloneI (hS.keep hw65 (Nat.le_refl _)) hlS (by omega)) ?_
  rintro v w68 b68 ⟨A66,c66,rfl,o66⟩
  have hw68:=kP hw65 b68
  refine⟨_,_,_,rfl,Pure.mono (seq_Closed (hg.next hw68) (hp.keep b68) (s1.below b68) hl hc1 hn (s2.below b68) hlw o66.sl hlS (by omega)) ?_⟩
  rw[hys]
  rintro v w71 b71 rfl
  have hw71:=kP hw68 b71
  have ar71:=ar54.keep (kP (kP b65 b68) b71)
  refine⟨_,rfl,cp3 ar71 fun B0 d0 B1 d1 B2 d2 As cs Aw cw w82 ys b82 hp hys s1 hc1 s2=> ?_⟩
  have hw82:=kP hw71 b82
  refine Pure.mono (CloneI (ho.keep hw82 (Nat.le_refl _)) hlo (by omega)) ?_
  rintro v w85 b85 ⟨A83,c83,rfl,o83⟩
  have hw85:=kP hw82 b85
  refine⟨_,_,_,rfl,Pure.mono (seq_Check (hg.next hw85) (hp.keep b85) (s1.below b85) hl hc1 hn (s2.below b85) hlw o83.sl hlo (by omega)) ?_⟩
  rw[hys]
  rintro v w89 b89 rfl
  refine⟨_,_,rfl,fun k1=> ?_,fun k1=> ?_⟩
  ·obtain⟨q1,q2,q3⟩:=e2 k1 (order_task k1)
   exact⟨fun _=>⟨fun _=>congrArg Value.bool (decide_eq_true q3),fun k=>absurd q2 k⟩,fun k=>absurd q1 k⟩
  ·have h0:(orderF ps hs (rsOf xs) l works).2=0:=by
    first
     |exact Decidable.not_not.1 h1
     |exact absurd (Decidable.not_not.1 h2) k1
   obtain⟨q1,q2,q3⟩:=e3 h0
   exact⟨fun _=>⟨fun _=>congrArg Value.bool (decide_eq_true q3),fun k=>absurd q2 k⟩,fun k=>absurd q1 k⟩
end
set_option maxRecDepth 100000
open Go Go.RowKit Go.Proofs Go.Proofs.YtgfkeadgjkfomaaGreatDoor.Vc Go.ChangeShapes Go.WideShapes Go.Deep

theorem own:ownKnob Tryz.prog.godebug=none:=by kernel_rfl
theorem laidOut:laidOutB Tryz.prog=true:=by kernel_rfl

section
variable {H:Type} {enc:TypeId×Value->H} {P:Program}

theorem below_trodAll(hl:laidOutB P=true){W W':World}(hb:Below W.heap.size W W'):∀{ts:List TypeId} {vs:List Value} {ds:List (DataW H)} {ps:List MemPlace},
  (∀t∈ts,P.readableRec t=true/\t<P.types.size)->DataW.TrodAll enc P W 0 (fun _=>true) true ts vs ds ps->(∀x∈ps,x.block<W.heap.size)->DataW.TrodAll enc P W' 0 (fun b=>decide (b<W.heap.size)) true ts vs ds ps
 |[],_,_,_,_,h,_=>by
  obtain⟨rfl,rfl,rfl⟩:=trodAll_nil h
  exact trodAll_mk0
 |t::ts,_,_,_,ht,h,hlt=>by
  obtain⟨v,vs1,d,ds1,a,b,rfl,rfl,rfl,h1,h2⟩:=trodAll_cons h
  exact trodAll_cons_mk (Below.trod hl (ht t (by simp)).1 (ht t (by simp)).2 h1 hb (fun x hx=>hlt x (by simp[hx])))
   (below_trodAll hl hb (fun u hu=>ht u (by simp[hu])) h2 (fun x hx=>hlt x (by simp[hx])))

theorem law_post{f:Func}{fid:FuncId}{s:ChangeSpec}{W:World}{args:Array Value}{ds gs:List (DataW H)}{before:List MemPlace}(hl:laidOutB P=true)(hW:DataW.Whole enc P f.params.toList s.vars false W args.toList ds gs before)
  (hvars:s.vars=[]) {tb:TypeId} (hres:f.resultTypes= #[tb]) (htb:P.underlying tb=some .bool) (hrec:∀t∈f.params.toList,P.readableRec t=true/\t<P.types.size)
  (hs:s.fn H (ds++gs)={results:=[.lit (.bool true)],args:=ds}) (key:Pure P fid args W fun y _=>y= .bool true):
  Calls P fid args W fun e W'=>∃v,e= .returned v/\s.post enc P f false true false false W args v W':=by
 refine Calls.mono key fun e W' ⟨v,he,hb,hy⟩=>⟨v,he,?_⟩
 subst hy
 have hlt:=hW.lt
 have hW':=hW
 obtain⟨p,q,hA,hV,rfl,_,_⟩:=hW
 rw[hvars]at hV
 obtain⟨rfl,rfl⟩:=trodVars_none hV
 simp only[List.append_nil]at hlt hW'
 refine⟨ds,_,_,[],p,[],hW',?_,?_,?_,hb.frame _,fun h=>by cases h⟩
 ·rw[hs,hres]
  exact trodAll_cons_mk (shut_bool htb _) trodAll_mk0
 ·rw[hs]
  exact below_trodAll hl hb hrec hA hlt
 ·rw[hs,hvars]
  rfl

end

theorem slR_of_cells{w:World}{a:Addr}{sz:Nat}(hsz:0<sz){rows:List (List Value)}(hl:∀r∈rows,r.length=sz)(h:∀i,(hi:i<rows.length)->∀j,(hj:j<rows[i].length)->w.cell? (a.add (i*sz+j))=some (rows[i][j])):SlR w (some a) sz rows:=by
 by_cases h0:rows=[]
 ·exact .inl h0
 right
 have hp:0<rows.length:=List.length_pos_iff.2 h0
 have hl0:rows[0].length=sz:=hl _ (List.getElem_mem _)
 have c0:=h 0 hp 0 (by omega)
 have hspot:a.spot=none:=by simpa[Addr.add]using World.cell?_spot c0
 obtain⟨b,off,spot⟩:=a
 simp only at hspot
 subst hspot
 have hadd:∀k,(⟨b,off,none⟩:Addr).add k=⟨b,off+k,none⟩:=fun k=>add_plain0 b off k
 rw[hadd]at c0
 cases hh:w.heap[b]? with
 |none=>simp[World.cell?,hh]at c0
 |some o=>
  cases o with
  |cells cs ty fr=>
   refine⟨b,off,cs,ty,fr,rfl,hh,fun i hi j hj=>⟨hl _ (List.getElem_mem _),?_⟩⟩
   have:=h i hi j hj
   rw[hadd]at this
   simpa[World.cell?,hh,Nat.add_assoc]using this
  |_=>simp[World.cell?,hh]at c0

theorem u_Rat:Tryz.prog.underlying 57=some .string:=by kernel_rfl
theorem u_int:Tryz.prog.underlying 3=some (.int .i64):=by kernel_rfl
theorem u_str:Tryz.prog.underlying 9=some .string:=by kernel_rfl

open Go Go.RowKit Go.Proofs

abbrev aLaid:=Rows.sequenceEitherRow.laid
open Go Go.RowKit Go.Proofs Go.Proofs.YtgfkeadgjkfomaaGreatDoor.Vc Go.ChangeShapes Go.WideShapes Go.Deep Go.ChangeAt

noncomputable def laidWorld(os:Os):World:=
 let N:=(World.settled Tryz.prog os).heap.size
 let w0:=World.holding Tryz.prog os ⟨#[.cells #[.string ⟨#[118,97,108,117,101,32,111,117,116,32,111,102,32,114,97,110,103,101]⟩] 340,.cells #[.string ⟨#[105,110,118,97,108,105,100,32,115,121,110,116,97,120]⟩] 340],#[],[]⟩
 let put (h:Array Obj) (g:Nat) (cs:Array Value):Array Obj:=h.modify g fun
  | .cells _ t frozen=> .cells cs t frozen
  |o=>o
 let h0:=put (put w0.heap 5 #[.iface 338 (.pointer (some ⟨N,0,none⟩))]) 4 #[.iface 338 (.pointer (some ⟨N+1,0,none⟩))]
 let h1:=put h0 2 #[.int .u8 0,.int .u8 1,.int .u8 28,.int .u8 2,.int .u8 29,.int .u8 14,.int .u8 24,.int .u8 3,.int .u8 30,.int .u8 22,.int .u8 20,.int .u8 15,.int .u8 25,.int .u8 17,.int .u8 4,.int .u8 8,.int .u8 31,.int .u8 27,.int .u8 13,.int .u8 23,.int .u8 21,.int .u8 19,.int .u8 16,.int .u8 7,.int .u8 26,.int .u8 12,.int .u8 18,.int .u8 6,.int .u8 11,.int .u8 5,.int .u8 10,.int .u8 9]
 let h2:=put h1 3 #[.int .u8 0,.int .u8 1,.int .u8 56,.int .u8 2,.int .u8 57,.int .u8 49,.int .u8 28,.int .u8 3,.int .u8 61,.int .u8 58,.int .u8 42,.int .u8 50,.int .u8 38,.int .u8 29,.int .u8 17,.int .u8 4,.int .u8 62,.int .u8 47,.int .u8 59,.int .u8 36,.int .u8 45,.int .u8 43,.int .u8 51,.int .u8 22,.int .u8 53,.int .u8 39,.int .u8 33,.int .u8 30,.int .u8 24,.int .u8 18,.int .u8 12,.int .u8 5,.int .u8 63,.int .u8 55,.int .u8 48,.int .u8 27,.int .u8 60,.int .u8 41,.int .u8 37,.int .u8 16,.int .u8 46,.int .u8 35,.int .u8 44,.int .u8 21,.int .u8 52,.int .u8 32,.int .u8 23,.int .u8 11,.int .u8 54,.int .u8 26,.int .u8 40,.int .u8 15,.int .u8 34,.int .u8 20,.int .u8 31,.int .u8 10,.int .u8 25,.int .u8 14,.int .u8 19,.int .u8 9,.int .u8 13,.int .u8 8,.int .u8 7,.int .u8 6]
 let h3:=put h2 0 (Lib.pow10Tab.map fun z=>Value.int .u64 z).toArray
 {w0 with heap:=h3}

noncomputable abbrev N0:Nat:=(World.settled Tryz.prog default).heap.size
theorem laid_met(os:Os)(args:Array Value):laidMet Tryz.prog aLaid ((laidWorld os).forCall (fun _ _=>0) ⟨#[],args,[]⟩).memory:=
 (LaidIn.of_run (l:=aLaid) [2,3,0,5,4,N0,N0+1] 8 (by kernel_rfl) (by kernel_rfl) (by kernel_rfl) (by kernel_rfl)).met

theorem world_vars(os:Os)(args:Array Value):((laidWorld os).forCall (fun _ _=>0) ⟨#[],args,[]⟩).variablesRefB Tryz.prog=true:=by kernel_rfl
theorem world_rest (os : Os) (args : Array Value) : (((laidWorld os).forCall (fun _ _ => 0) ⟨#[], args, []⟩).heap.toList.drop Tryz.prog.globals.size).take ((begin Tryz.prog (fun _ _ => 0) default).world.heap.size - Tryz.prog.globals.size) =
      (begin Tryz.prog (fun _ _ => 0) default).world.heap.toList.drop Tryz.prog.globals.size := by kernel_rfl

theorem glob_of {W : World} (hL : laidMet Tryz.prog aLaid W) (hS : W.ShapedOpen Tryz.prog) : Glob W :=
  ⟨Lib.tabIs_of_head (zs := Lib.pow10Tab) (g := 0) (t := 271) (e := 244) (n := 20) g_pow10 (by kernel_rfl) (by kernel_rfl) (by kernel_rfl) (by kernel_rfl) (by kernel_rfl) hL.tail.tail,
   cell_of_shapedOpen_int (g := 1) (t := 3) (zero := #[.int .i64 0]) hS (of_decide_eq_true (by kernel_rfl)) (by kernel_rfl) rfl (by kernel_rfl) (by kernel_rfl) (by kernel_rfl)⟩

theorem and_t{a b:Bool}(h:a=true)(k:b=true):(a&&b)=true:=by rw[h,k];rfl
theorem tied_laid:laidOutB Tryz.pinned.checked.prog=true:=by kernel_rfl
theorem tied_maps:mapsRowed Tryz.pinned.checked.prog=true:=by kernel_rfl

instance:Inhabited Pa:=⟨⟨0,0,0,⟨#[]⟩,⟨#[]⟩,⟨#[]⟩,⟨#[]⟩⟩⟩
instance:Inhabited Ho:=⟨⟨0,⟨#[]⟩,⟨#[]⟩,⟨#[]⟩,⟨#[]⟩,⟨#[]⟩,⟨#[]⟩⟩⟩
instance:Inhabited Sw:=⟨⟨0,0,0⟩⟩

section
variable {H:Type} {enc:TypeId×Value->H} {w:World} {base b0:Nat} {spare:Nat->Bool} {held:Bool}
theorem open_rowsP{α:Type}[Inhabited α]{row:α->List Value}{P:α->Prop}{sz:Nat}(hsz:0<sz)(hrow:∀x,(row x).length=sz){t e:TypeId}(ht:Tryz.prog.underlying t=some (.slice e))(hC:Tryz.prog.cellsOf e=sz)
  (hx:∀(n:Nat)(cs:List Value)(y:DataW H×List MemPlace),DataW.trod enc Tryz.prog w base spare held n e cs=some y->∃x:α,cs=row x/\P x)
  {v:Value} {fuel:Nat} {y:DataW H×List MemPlace} (h:DataW.trod enc Tryz.prog w base spare held fuel t [v]=some y):
  ∃(A:Option Addr)(n c:Nat)(l:List α),v= .slice A n c/\SlR w A sz (l.map row)/\l.length=n/\n<9223372036854775808/\(A=none->c=0)/\n<=c/\∀x∈l,P x:=by
 rcases open_slice ht h with⟨hcs,_⟩|⟨a,len,cap,m,n,D,Pl,hcs,hb,hl,hm,hmm,_,hi⟩
 ·cases hcs
  exact⟨none,0,0,[],rfl,.inl rfl,rfl,by omega,fun _=>rfl,Nat.le_refl _,by simp⟩
 ·cases hcs
  rw[hC]at hi
  obtain⟨g,hg⟩:=choose_lt (α:=α) (n:=len) (p:=fun i x=>P x/\∀j,(hj:j<(row x).length)->w.cell? (a.add (i*sz+j))=some ((row x)[j])) fun i hilt=>by
   have him:i<m:=by
    rw[hmm]
    split<;>omega
   obtain⟨cs',hc,ht'⟩:=hi i him
   obtain⟨_,hcl,hat⟩:=World.cells?_some hc
   obtain⟨x,rfl,hP⟩:=hx _ _ _ ht'
   refine⟨x,hP,fun j hj=> ?_⟩
   rw[<-Go.Deep.add_add,hat j (by rw[hrow]at hj;omega),List.getElem?_eq_getElem hj]
  refine⟨some a,len,cap,(List.range len).map g,rfl,slR_of_cells hsz (fun r hr=> ?_) (fun i hi2 j hj=> ?_),by simp,by unfold maxLen at hm;omega,fun k=>(by cases k),hl,fun x hx'=> ?_⟩
  ·obtain⟨x,_,rfl⟩:=List.mem_map.1 hr
   exact hrow x
  ·simp at hi2
   simp only[List.getElem_map,List.getElem_range]at hj⊢
   exact(hg i hi2).2 j hj
  ·obtain⟨i,hi2,rfl⟩:=List.mem_map.1 hx'
   exact(hg i (List.mem_range.1 hi2)).1
theorem open_rows{α:Type}[Inhabited α]{row:α->List Value}{sz:Nat}(hsz:0<sz)(hrow:∀x,(row x).length=sz){t e:TypeId}(ht:Tryz.prog.underlying t=some (.slice e))(hC:Tryz.prog.cellsOf e=sz)
  (hx:∀(n:Nat)(cs:List Value)(y:DataW H×List MemPlace),DataW.trod enc Tryz.prog w base spare held n e cs=some y->∃x:α,cs=row x)
  {v:Value} {fuel:Nat} {y:DataW H×List MemPlace} (h:DataW.trod enc Tryz.prog w base spare held fuel t [v]=some y):
  ∃(A:Option Addr)(n c:Nat)(l:List α),v= .slice A n c/\SlR w A sz (l.map row)/\l.length=n/\n<9223372036854775808/\(A=none->c=0):=by
 obtain⟨A,n,c,l,h1,h2,h3,h4,h5,_⟩:=open_rowsP (P:=fun _=>True) hsz hrow ht hC (fun n cs y h=>by obtain⟨x,e⟩:=hx n cs y h;exact⟨x,e,trivial⟩) h
 exact⟨A,n,c,l,h1,h2,h3,h4,h5⟩

theorem k_int:Tryz.prog.cellsOf 3=1:=by kernel_rfl
theorem k_str:Tryz.prog.cellsOf 9=1:=by kernel_rfl
theorem k_Rat:Tryz.prog.cellsOf 57=1:=by kernel_rfl
theorem k_Vec:Tryz.prog.cellsOf 59=3:=by kernel_rfl
theorem k_Par:Tryz.prog.cellsOf 65=7:=by kernel_rfl
theorem k_Hol:Tryz.prog.cellsOf 61=7:=by kernel_rfl
theorem k_Sto:Tryz.prog.cellsOf 39=3:=by kernel_rfl
theorem k_Wor:Tryz.prog.cellsOf 44=3:=by kernel_rfl
theorem int_of(n:Nat)(cs:List Value)(y:DataW H×List MemPlace)(h:DataW.trod enc Tryz.prog w base spare held n 3 cs=some y):∃x:Int,cs=iRow x:=by
 obtain⟨z,hz,_⟩:=DataW.trod_int u_int h
 exact⟨z,hz⟩
theorem rat_of{n:Nat}{cs:List Value}{y:DataW H×List MemPlace}(h:DataW.trod enc Tryz.prog w base spare held n 57 cs=some y):∃x,cs=[.string x]:=by
 obtain⟨z,hz,_⟩:=DataW.trod_string u_Rat h
 exact⟨z,hz⟩
theorem str_of{n:Nat}{cs:List Value}{y:DataW H×List MemPlace}(h:DataW.trod enc Tryz.prog w base spare held n 9 cs=some y):∃x,cs=[.string x]:=by
 obtain⟨z,hz,_⟩:=DataW.trod_string u_str h
 exact⟨z,hz⟩
theorem stow_of(n:Nat)(cs:List Value)(y:DataW H×List MemPlace)(h:DataW.trod enc Tryz.prog w base spare held n 39 cs=some y):∃x:Sw,cs=x.row:=by
 obtain⟨ys,m,_,rfl,hl,hlen,hf⟩:=DataW.trod_struct Tryz.underlying39 h
 rw[k_Sto]at hl
 match cs,hl with
 |[v0,v1,v2],_=>
  match ys,hlen with
  |[y0,y1,y2],_=>
   obtain⟨z0,e0⟩:=int_of m [v0] y0 (by simpa[k_int]using hf 0 _ rfl)
   obtain⟨z1,e1⟩:=int_of m [v1] y1 (by simpa[k_int]using hf 1 _ rfl)
   obtain⟨z2,e2⟩:=int_of m [v2] y2 (by simpa[k_int]using hf 2 _ rfl)
   cases e0;cases e1;cases e2
   exact⟨⟨z0,z1,z2⟩,rfl⟩
theorem work_of(n:Nat)(cs:List Value)(y:DataW H×List MemPlace)(h:DataW.trod enc Tryz.prog w base spare held n 44 cs=some y):∃x:Sw,cs=x.row:=by
 obtain⟨ys,m,_,rfl,hl,hlen,hf⟩:=DataW.trod_struct Tryz.underlying44 h
 rw[k_Wor]at hl
 match cs,hl with
 |[v0,v1,v2],_=>
  match ys,hlen with
  |[y0,y1,y2],_=>
   obtain⟨z0,e0⟩:=int_of m [v0] y0 (by simpa[k_int]using hf 0 _ rfl)
   obtain⟨z1,e1⟩:=int_of m [v1] y1 (by simpa[k_int]using hf 1 _ rfl)
   obtain⟨z2,e2⟩:=int_of m [v2] y2 (by simpa[k_int]using hf 2 _ rfl)
   cases e0;cases e1;cases e2
   exact⟨⟨z0,z1,z2⟩,rfl⟩
theorem vec_of{n:Nat}{cs:List Value}{y:DataW H×List MemPlace}(h:DataW.trod enc Tryz.prog w base spare held n 59 cs=some y):∃a b c,cs=[.string a,.string b,.string c]:=by
 obtain⟨ys,m,_,rfl,hl,hlen,hf⟩:=DataW.trod_struct Tryz.underlying59 h
 rw[k_Vec]at hl
 match cs,hl with
 |[v0,v1,v2],_=>
  match ys,hlen with
  |[y0,y1,y2],_=>
   obtain⟨z0,e0⟩:=rat_of (n:=m) (cs:=[v0]) (y:=y0) (by simpa[k_Rat]using hf 0 _ rfl)
   obtain⟨z1,e1⟩:=rat_of (n:=m) (cs:=[v1]) (y:=y1) (by simpa[k_Rat]using hf 1 _ rfl)
   obtain⟨z2,e2⟩:=rat_of (n:=m) (cs:=[v2]) (y:=y2) (by simpa[k_Rat]using hf 2 _ rfl)
   cases e0;cases e1;cases e2
   exact⟨z0,z1,z2,rfl⟩
theorem par_of(n:Nat)(cs:List Value)(y:DataW H×List MemPlace)(h:DataW.trod enc Tryz.prog w base spare held n 65 cs=some y):∃x:Pa,cs=x.row:=by
 obtain⟨ys,m,_,rfl,hl,hlen,hf⟩:=DataW.trod_struct Tryz.underlying65 h
 rw[k_Par]at hl
 match cs,hl with
 |[v0,v1,v2,v3,v4,v5,v6],_=>
  match ys,hlen with
  |[y0,y1,y2,y3,y4,y5,y6],_=>
   obtain⟨z0,e0⟩:=int_of m [v0] y0 (by simpa[k_int]using hf 0 _ rfl)
   obtain⟨z1,e1⟩:=int_of m [v1] y1 (by simpa[k_int]using hf 1 _ rfl)
   obtain⟨z2,e2⟩:=int_of m [v2] y2 (by simpa[k_int]using hf 2 _ rfl)
   obtain⟨z3,e3⟩:=str_of (n:=m) (cs:=[v3]) (y:=y3) (by simpa[k_str]using hf 3 _ rfl)
   obtain⟨z4,e4⟩:=rat_of (n:=m) (cs:=[v4]) (y:=y4) (by simpa[k_Rat]using hf 4 _ rfl)
   obtain⟨z5,e5⟩:=rat_of (n:=m) (cs:=[v5]) (y:=y5) (by simpa[k_Rat]using hf 5 _ rfl)
   obtain⟨z6,e6⟩:=rat_of (n:=m) (cs:=[v6]) (y:=y6) (by simpa[k_Rat]using hf 6 _ rfl)
   cases e0;cases e1;cases e2;cases e3;cases e4;cases e5;cases e6
   exact⟨⟨z0,z1,z2,z3,z4,z5,z6⟩,rfl⟩
theorem hold_of(n:Nat)(cs:List Value)(y:DataW H×List MemPlace)(h:DataW.trod enc Tryz.prog w base spare held n 61 cs=some y):∃x:Ho,cs=x.row:=by
 obtain⟨ys,m,_,rfl,hl,hlen,hf⟩:=DataW.trod_struct Tryz.underlying61 h
 rw[k_Hol]at hl
 match cs,hl with
 |[v0,v1,v2,v3,v4,v5,v6],_=>
  match ys,hlen with
  |[y0,y1,y2,y3,y4],_=>
   obtain⟨z0,e0⟩:=int_of m [v0] y0 (by simpa[k_int]using hf 0 _ rfl)
   obtain⟨z1,e1⟩:=str_of (n:=m) (cs:=[v1]) (y:=y1) (by simpa[k_str]using hf 1 _ rfl)
   obtain⟨z2,e2⟩:=rat_of (n:=m) (cs:=[v2]) (y:=y2) (by simpa[k_Rat]using hf 2 _ rfl)
   obtain⟨z3,e3⟩:=rat_of (n:=m) (cs:=[v3]) (y:=y3) (by simpa[k_Rat]using hf 3 _ rfl)
   obtain⟨a,b,c,e4⟩:=vec_of (n:=m) (cs:=[v4,v5,v6]) (y:=y4) (by simpa[k_Vec]using hf 4 _ rfl)
   cases e0;cases e1;cases e2;cases e3;cases e4
   exact⟨⟨z0,z1,z2,z3,a,b,c⟩,rfl⟩

theorem trod_one{t e:TypeId}(ht:Tryz.prog.underlying t=some (.slice e)){r:Reach}{v:Value}{d:DataW H}{p:List MemPlace}(hv:Value.okWide Tryz.prog w r b0 t v)(h:DataW.Trod enc Tryz.prog w base spare held t v d p):∃fuel,DataW.trod enc Tryz.prog w base spare held fuel t [v]=some (d,p):=by
 obtain⟨a0,len,cap,rfl⟩:=okWide_slice ht hv
 obtain⟨fuel,hf⟩:=h
 exact⟨fuel,by simpa[Value.cells]using hf⟩
theorem open_stows{v:Value}{d:DataW H}{p:List MemPlace}(hv:Value.okWide Tryz.prog w .any b0 29 v)(h:DataW.Trod enc Tryz.prog w base spare held 29 v d p):
  ∃(A:Option Addr)(n c:Nat)(l:List Sw),v= .slice A n c/\SlR w A 3 (l.map Sw.row)/\l.length=n:=by
 obtain⟨fuel,hf⟩:=trod_one Tryz.underlying29 hv h
 obtain⟨A,n,c,l,h1,h2,h3,_⟩:=open_rows (row:=Sw.row) (by decide) (fun _=>rfl) Tryz.underlying29 k_Sto stow_of hf
 exact⟨A,n,c,l,h1,h2,h3⟩
theorem open_works{v:Value}{d:DataW H}{p:List MemPlace}(hv:Value.okWide Tryz.prog w .any b0 30 v)(h:DataW.Trod enc Tryz.prog w base spare held 30 v d p):
  ∃(A:Option Addr)(n c:Nat)(l:List Sw),v= .slice A n c/\SlR w A 3 (l.map Sw.row)/\l.length=n:=by
 obtain⟨fuel,hf⟩:=trod_one Tryz.underlying30 hv h
 obtain⟨A,n,c,l,h1,h2,h3,_⟩:=open_rows (row:=Sw.row) (by decide) (fun _=>rfl) Tryz.underlying30 k_Wor work_of hf
 exact⟨A,n,c,l,h1,h2,h3⟩
theorem open_ints{v:Value}{d:DataW H}{p:List MemPlace}(hv:Value.okWide Tryz.prog w .any b0 48 v)(h:DataW.Trod enc Tryz.prog w base spare held 48 v d p):
  ∃(A:Option Addr)(n c:Nat)(l:List Int),v= .slice A n c/\SlR w A 1 (l.map iRow)/\l.length=n:=by
 obtain⟨fuel,hf⟩:=trod_one Tryz.underlying48 hv h
 obtain⟨A,n,c,l,h1,h2,h3,_⟩:=open_rows (row:=iRow) (by decide) (fun _=>rfl) Tryz.underlying48 k_int int_of hf
 exact⟨A,n,c,l,h1,h2,h3⟩
end

instance:Inhabited Rm:=⟨⟨⟨⟨#[]⟩,0,[],⟨#[]⟩,⟨#[]⟩,0,0⟩,none,0,0⟩⟩
section
variable {H:Type} {enc:TypeId×Value->H} {w:World} {base b0:Nat} {spare:Nat->Bool} {held:Bool}
theorem k_Rul:Tryz.prog.cellsOf 87=7:=by kernel_rfl
theorem k_Car:Tryz.prog.cellsOf 25=2:=by kernel_rfl
theorem k_Pro:Tryz.prog.cellsOf 28=3:=by kernel_rfl
theorem k_Rats:Tryz.prog.cellsOf 85=1:=by kernel_rfl
theorem k_Rules:Tryz.prog.cellsOf 26=1:=by kernel_rfl
theorem k_Pars:Tryz.prog.cellsOf 22=1:=by kernel_rfl
theorem k_Hols:Tryz.prog.cellsOf 23=1:=by kernel_rfl
theorem rule_of(n:Nat)(cs:List Value)(y:DataW H×List MemPlace)(h:DataW.trod enc Tryz.prog w base spare held n 87 cs=some y):
  ∃x:Rm,cs=x.row/\(SlR w x.A 1 (x.r.fac.map sRow)/\x.r.fac.length=x.n/\x.n<9223372036854775808/\(x.A=none->x.c=0)):=by
 obtain⟨ys,m,_,rfl,hl,hlen,hf⟩:=DataW.trod_struct Tryz.underlying87 h
 rw[k_Rul]at hl
 match cs,hl with
 |[v0,v1,v2,v3,v4,v5,v6],_=>
  match ys,hlen with
  |[y0,y1,y2,y3,y4,y5,y6],_=>
   obtain⟨z0,e0⟩:=str_of (n:=m) (cs:=[v0]) (y:=y0) (by simpa[k_str]using hf 0 _ rfl)
   obtain⟨z1,e1⟩:=int_of m [v1] y1 (by simpa[k_int]using hf 1 _ rfl)
   obtain⟨A,k,c,l,rfl,q1,q2,q3,q4⟩:=open_rows (row:=sRow) (by decide) (fun _=>rfl) Tryz.underlying85 k_Rat (fun n cs y h=>rat_of h) (v:=v2) (fuel:=m) (y:=y2) (by simpa[k_Rats]using hf 2 _ rfl)
   obtain⟨z3,e3⟩:=rat_of (n:=m) (cs:=[v3]) (y:=y3) (by simpa[k_Rat]using hf 3 _ rfl)
   obtain⟨z4,e4⟩:=rat_of (n:=m) (cs:=[v4]) (y:=y4) (by simpa[k_Rat]using hf 4 _ rfl)
   obtain⟨z5,e5⟩:=int_of m [v5] y5 (by simpa[k_int]using hf 5 _ rfl)
   obtain⟨z6,e6⟩:=int_of m [v6] y6 (by simpa[k_int]using hf 6 _ rfl)
   cases e0;cases e1;cases e3;cases e4;cases e5;cases e6
   exact⟨⟨⟨z0,z1,l,z3,z4,z5,z6⟩,A,k,c⟩,rfl,q1,q2,q3,q4⟩
theorem open_problem{v:Value}{d:DataW H}{p:List MemPlace}(hv:Value.okWide Tryz.prog w .any b0 28 v)(h:DataW.Trod enc Tryz.prog w base spare held 28 v d p):
  ∃(A0:Option Addr)(n0 c0:Nat)(A1:Option Addr)(n1 c1:Nat)(A2:Option Addr)(n2 c2:Nat)(ps:List Pa)(hs:List Ho)(xs:List Rm),v= .agg #[.slice A0 n0 c0,.slice A1 n1 c1,.slice A2 n2 c2]/\PrRaw w A0 n0 c0 A1 n1 c1 A2 n2 c2 ps hs xs:=by
 obtain⟨cs,rfl,hsz⟩:=okWide_struct Tryz.underlying28 hv
 rw[k_Pro]at hsz
 obtain⟨v0,v1,v2,rfl⟩:∃v0 v1 v2,cs= #[v0,v1,v2]:=by
  obtain⟨l⟩:=cs
  match l,hsz with
  |[a,b,c],_=>exact⟨a,b,c,rfl⟩
 obtain⟨fuel,hf⟩:=h
 obtain⟨ys,m,_,_,_,hlen,hf⟩:=DataW.trod_struct Tryz.underlying28 hf
 match ys,hlen with
 |[y0,y1],_=>
  have g0:DataW.trod enc Tryz.prog w base spare held m 25 [v0,v1]=some y0:=by simpa[Value.cells,k_Car]using hf 0 _ rfl
  have g1:DataW.trod enc Tryz.prog w base spare held m 26 [v2]=some y1:=by simpa[Value.cells,k_Rules]using hf 1 _ rfl
  obtain⟨zs,m',_,_,_,hzl,hz⟩:=DataW.trod_struct Tryz.underlying25 g0
  match zs,hzl with
  |[z0,z1],_=>
   have k0:DataW.trod enc Tryz.prog w base spare held m' 22 [v0]=some z0:=by simpa[k_Pars]using hz 0 _ rfl
   have k1:DataW.trod enc Tryz.prog w base spare held m' 23 [v1]=some z1:=by simpa[k_Hols]using hz 1 _ rfl
   obtain⟨A0,n0,c0,ps,rfl,p1,p2,p3,p4⟩:=open_rows (row:=Pa.row) (by decide) (fun _=>rfl) Tryz.underlying22 k_Par par_of k0
   obtain⟨A1,n1,c1,hs,rfl,q1,q2,q3,q4⟩:=open_rows (row:=Ho.row) (by decide) (fun _=>rfl) Tryz.underlying23 k_Hol hold_of k1
   obtain⟨A2,n2,c2,xs,rfl,r1,r2,r3,r4,r5,r6⟩:=open_rowsP (row:=Rm.row) (by decide) (fun _=>rfl) Tryz.underlying26 k_Rul rule_of g1
   exact⟨A0,n0,c0,A1,n1,c1,A2,n2,c2,ps,hs,xs,rfl,⟨p1,q1,p2,q2,p3,q3⟩,p4,q4,r1,r2,r3,r5,r6⟩
theorem trodAll_five{t0 t1 t2 t3 t4:TypeId}{args:Array Value}{ds:List (DataW H)}{ps:List MemPlace}(h:DataW.TrodAll enc Tryz.prog w base spare held [t0,t1,t2,t3,t4] args.toList ds ps):
  ∃v0 v1 v2 v3 v4 d0 d1 d2 d3 d4 p0 p1 p2 p3 p4,args= #[v0,v1,v2,v3,v4]/\ds=[d0,d1,d2,d3,d4]/\ps=p0++p1++p2++p3++p4/\DataW.Trod enc Tryz.prog w base spare held t0 v0 d0 p0/\DataW.Trod enc Tryz.prog w base spare held t1 v1 d1 p1/\DataW.Trod enc Tryz.prog w base spare held t2 v2 d2 p2/\DataW.Trod enc Tryz.prog w base spare held t3 v3 d3 p3/\DataW.Trod enc Tryz.prog w base spare held t4 v4 d4 p4:=by
 obtain⟨v0,_,d0,_,p0,_,hargs,rfl,rfl,g0,r0⟩:=trodAll_cons h
 obtain⟨v1,_,d1,_,p1,_,rfl,rfl,rfl,g1,r1⟩:=trodAll_cons r0
 obtain⟨v2,_,d2,_,p2,_,rfl,rfl,rfl,g2,r2⟩:=trodAll_cons r1
 obtain⟨v3,_,d3,_,p3,_,rfl,rfl,rfl,g3,r3⟩:=trodAll_cons r2
 obtain⟨v4,_,d4,_,p4,_,rfl,rfl,rfl,g4,r4⟩:=trodAll_cons r3
 obtain⟨rfl,rfl,rfl⟩:=trodAll_nil r4
 exact⟨v0,v1,v2,v3,v4,d0,d1,d2,d3,d4,p0,p1,p2,p3,p4,by cases args;simp_all,rfl,by simp,g0,g1,g2,g3,g4⟩
end
end Go.Proofs.YtgfkeadgjkfomaaGreatDoor.B
