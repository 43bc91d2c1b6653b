/- Part 13 of the proofs that: Each step that was done was approved; folding in two parts is folding at once. -/
import Derived.Test.YtbcojgcjjpggnaaGreatDoorA12
import Derived.Test.YtbcojgcjjpggnaaGreatDoorCards
import Derived.Test.YtbcojgcjjpggnaaGreatDoorTie
import Derived.WalkKit
import Derived.ProofKit
import Derived.OpenShut
import Derived.Carry
import Derived.Deep.DeepHandedRow
import Derived.Deep.DeepWitnessRowRef
import Derived.Deep.Slices
import Derived.Deep.Fields
import Derived.Lib.SmallJoins
import Derived.Lib.LaidIn
import Derived.Lib.LaidTab
import Derived.Stop.LaidErr
import Derived.Shelf.Vars
import Derived.Laws.IdiomArrays
import Derived.Test.YtbcojgcjjpggnaaGreatDoorRows
import Derived.KernelRfl
import GoSem.ClaimGoes
set_option linter.unusedVariables false
set_option linter.unusedSimpArgs false
namespace Go.Proofs.YtbcojgcjjpggnaaGreatDoor.B
open Go Go.RowKit Go.Proofs Go.Proofs.YtbcojgcjjpggnaaGreatDoor.Vc

section
variable {w0 W:World} {A4 A5 rI:Option Addr} {n4 c4 n5 c5 n xZ i:Nat} {nz:List Cw} {qM zs:List Em} {z:Em} {y:Cw} {R:Value->World->Prop}
theorem aeB{B:Int}{N O:Nat}(st:oQ W w0.heap.size A4 n4 c4 nz)(ev:iA W w0.heap.size A5 n5 c5 qM)(P:iA W w0.heap.size rI n xZ zs)(sep:GG A5 rI)(hw:Below w0.heap.size w0 W)(hi:i<1000)(C:n5<=50)(D:n4<=50)(hz:z∈zs)
  (he:W.heap[N]? =some (.cells z.row.toArray 32 (0,0))) (X:W.heap[O]? =some (.cells y.row.toArray 49 (0,0))) (Y:B=0->dP W w0.heap.size y.k y.xs y.x/\dz y.x)
  (e:B=0->∀W Q S E T,Below w0.heap.size w0 W->oQ W w0.heap.size Q (n4+1) S (nz++[y])->iA W w0.heap.size E (n5+1) T (qM++[z])->iA W w0.heap.size rI n xZ zs->GG E rI->F.an.L3 Q (n4+1) S E (n5+1) T rI n xZ n ((i:Int)+1) w0.heap.size W R)
  (Z:B≠0->F.an.L3 A4 n4 c4 A5 n5 c5 rI n xZ n ((i:Int)+1) w0.heap.size W R):
  F.an.J6 A4 n4 c4 A5 n5 c5 ⟨N,0,none⟩ ⟨O,0,none⟩ B rI n xZ n i w0.heap.size W R:=by
 refine F.an.J6.step ⟨fun q=> ?_,fun q=>⟨ir,Z q⟩⟩;obtain⟨hy,ok⟩:=Y q;have e:=e q;refine⟨_,_,_,_,_,_,_,_,_,_,_,_,_,_,_,_,_,_,_,_,_,_,_,_,_,_,_,_,_,_,_,_,_,_,_,_,eE X,fun G h=> ?_,fun j l=> ?_⟩
 ·have b:=extAll h;refine bc CE [y.k.val y.x] (by simp[Value.cells]) sm lf fun A1 c1 m o a=> ?_
  have o:aE m G.heap.size 49 A1 1 c1 14 [y.row]:=o;have g:=kP (kE hw h) a;have r:=(st.below b).below a;have c:=(ev.below b).below a;have d:=(P.below b).below a;have w:=(hy.below b).below a;have U:=ag (ag he b) a;obtain⟨t1,t2⟩:=Ss (L:=fun A4 n4 c4 A5 n5 c5 W=>F.an.L3 A4 n4 c4 A5 n5 c5 rI n xZ n ((i:Int)+1) w0.heap.size W R) e hi C D hz r c d sep g w ok o;exact⟨GH r w ok o g D fun A' c' w2 H I s2=>⟨_,_,_,_,_,_,_,_,_,_,_,_,eE (s2 _ _ _ _ dc U),Sr (L:=fun A4 n4 c4 A5 n5 c5 W=>F.an.L3 A4 n4 c4 A5 n5 c5 rI n xZ n ((i:Int)+1) w0.heap.size W R) e hi C hz I (c.gh s2) (d.gh s2) sep (g.trans H)⟩,_,_,_,_,_,_,_,_,_,_,_,_,eE U,t1,t2⟩
 ·have b:=extAll l;have g:=kE hw l;have r:=st.below b;have c:=ev.below b;have d:=P.below b;have w:=hy.below b;refine⟨_,_,_,_,_,_,_,_,_,_,_,_,eE (ag he b),?_,?_⟩
  ·refine bc CE [y.k.val y.x] (by simp[Value.cells]) sm lf fun A1 c1 m o a=> ?_
   have o:aE m j.heap.size 49 A1 1 c1 14 [y.row]:=o;exact Ss (L:=fun A4 n4 c4 A5 n5 c5 W=>F.an.L3 A4 n4 c4 A5 n5 c5 rI n xZ n ((i:Int)+1) w0.heap.size W R) e hi C D hz (r.below a) (c.below a) (d.below a) sep (kP g a) (w.below a) ok o
  ·refine bc sQ [z.val] (by simp[Value.cells]) sm lf fun A2 c2 w1 J A=> ?_
   have J:aE w1 j.heap.size 32 A2 1 c2 6 [z.row]:=J;have dJ:=kP g A;refine bc CE [y.k.val y.x] (by simp[Value.cells]) sm lf fun A1 c1 m o a=> ?_
   have o:aE m w1.heap.size 49 A1 1 c1 14 [y.row]:=o;have V:=kP dJ a;have K:=(c.below A).below a;have M:=(d.below A).below a;exact GH ((r.below A).below a) ((w.below A).below a) ok o V D fun A' c' w2 H I s2=>LR (L:=fun A4 n4 c4 A5 n5 c5 W=>F.an.L3 A4 n4 c4 A5 n5 c5 rI n xZ n ((i:Int)+1) w0.heap.size W R) e hi C hz I (K.gh s2) (M.gh s2) sep (V.trans H) ((J.below a).bW s2 dc)
end
def I8(H:oG)(B:Nat)(v:Value)(w':World):Prop:=∃A1 n1 c1 A2 n2 c2 nz qM,v= .tuple #[.slice A1 n1 c1,.slice A2 n2 c2]/\oQ w' B A1 n1 c1 nz/\iA w' B A2 n2 c2 qM/\yS H (nz.map Cw.x) (gk qM)/\n2<=40
theorem Dw{H:oG}{w:World}{A:Option Addr}{n c:Nat}{ys:List Em}(fO:fM H)(hg:bj w)(h:uA w A n ys):Pure Tryz.prog 9 #[.slice A n c] w (I8 H w.heap.size):=by
 have hm:=h.m;have hl:=h.l;have key:∀(rI:Option Addr)(xZ:Nat)(zs:List Em),zs.length=n->∀(d i:Nat)(A4:Option Addr)(n4 c4:Nat)(nz:List Cw)(A5:Option Addr)(n5 c5:Nat)(qM:List Em)(w':World),n - i=d->i<=n->Below w.heap.size w w'->oQ w' w.heap.size A4 n4 c4 nz->iA w' w.heap.size A5 n5 c5 qM->iA w' w.heap.size rI n xZ zs->GG A5 rI->yS H (nz.map Cw.x) (gk qM)->n5<=i->
   F.an.L3 A4 n4 c4 A5 n5 c5 rI n xZ n i w.heap.size w' (I8 H w.heap.size):=by
  intro rI xZ zs hzl d;induction d with
  |zero=>
   intro i A4 n4 c4 nz A5 n5 c5 qM w' hd hi hw st ev zz sep ch h5;exact F.an.L3.step ⟨fun q=>by omega,fun _=>⟨_,_,_,_,_,_,nz,qM,rfl,st,ev,ch,om⟩⟩
  |succ d ih=>
   intro i A4 n4 c4 nz A5 n5 c5 qM w' hd hi hw st ev zz sep ch h5;have cB:i<zs.length:=om;have S:=bw cB;obtain⟨hb,a,hA,T,_⟩:=zz.s.sl.at_ (row:=Em.row) (fun _=>rfl) hzl cB;have tN:=st.s.rows;have hel:=ev.s.rows;have hch:=ch.1;rw[ec,ec]at hch;refine F.an.L3.step ⟨fun _=>⟨hb,a,hA,_,_,_,_,_,_,_,_,_,_,_,_,T,?_⟩,fun q=>by omega⟩;refine cC 32 GC hw.size fun ZE h33 E l33=> ?_
   refine⟨_,_,hw.size,rfl,h33,by simp[Value.cells],rfl,fun O zS=>⟨ir,?_⟩⟩;have he:O.heap[w'.heap.size]? =some (.cells zs[i].row.toArray 32 (0,0)):=by
    have:=zS.at_;simpa[setCells,Value.cells]using this
   have U:ZE.heap[w'.heap.size]? =some (.cells ([.int .i64 0,.int .i64 0,.int .i64 0,.slice none 0 0,.slice none 0 0,.slice none 0 0]:List Value).toArray 32 (0,0)):=h33;have Wo:bG 32 w' O:=(bG.low E).trans (bG.wrote zS U);have G:=st.MG Wo;have ev8:=ev.fresh E lf U zS;have V:=zz.fresh E lf U zS;have b38:Below w.heap.size w O:=(kP hw E).trans (aL.dQ zS hw.size);have tp:pJ O zs[i].a zs[i].e:=((V.uV hm).f _ S);have eok:=(zz.o _ S).1;have e4:(n4:Int) - 1=((n4 - 1:Nat):Int):=om;have sY:n4 - 1<nz.length:=om;rw[e4];obtain⟨hb4,a4,Up,B7,_⟩:=G.s.sl.at_ (row:=Cw.row) (fun _=>rfl) tN sY;have hym:=bw sY;have Sv:=st.o _ hym;have oy:=G.f _ hym;have Vj:(nz.map Cw.x)[(gk qM).length]? =some nz[n4 - 1].x:=by
    rw[kl,ec,show qM.length=n4 - 1 by omega,af sY];rfl
   have nn:∀{W:World},Below w.heap.size w W->oQ W w.heap.size A4 n4 c4 nz->iA W w.heap.size A5 n5 c5 qM->iA W w.heap.size rI n xZ zs->F.an.L3 A4 n4 c4 A5 n5 c5 rI n xZ n ((i:Int)+1) w.heap.size W (I8 H w.heap.size):=fun X s1 s2 s3=>by
    rw[show(i:Int)+1=((i+1:Nat):Int) by omega];exact ih (i+1) A4 n4 c4 nz A5 n5 c5 qM _ om om X s1 s2 s3 sep ch om
   have nx:∀{yy:Cw},dh H nz[n4 - 1].x zs[i].e= .ok yy.x->∀W I6 I7 Ls OX,Below w.heap.size w W->oQ W w.heap.size I6 (n4+1) I7 (nz++[yy])->iA W w.heap.size Ls (n5+1) OX (qM++[zs[i]])->iA W w.heap.size rI n xZ zs->GG Ls rI->F.an.L3 I6 (n4+1) I7 Ls (n5+1) OX rI n xZ n ((i:Int)+1) w.heap.size W (I8 H w.heap.size):=fun ha W I6 I7 Ls OX X s1 s2 s3 ai8=>by
    rw[show(i:Int)+1=((i+1:Nat):Int) by omega];refine ih (i+1) I6 (n4+1) I7 _ Ls (n5+1) OX _ W om om X s1 s2 s3 ai8 ?_ om;unfold gk;rw[eH,eH];exact ch.snoc Vj ha
   -- Wm end of each order, once Wm state ai9 in its variable
   have fin:∀{W W':World} {pc:Nat} {ZG:List Value} {k:Ca} {x:Cm} {xs:List Rm} {er:Int},Below w.heap.size w W->oQ W w.heap.size A4 n4 c4 nz->iA W w.heap.size A5 n5 c5 qM->iA W w.heap.size rI n xZ zs->W.heap[w'.heap.size]? =some (.cells zs[i].row.toArray 32 (0,0))->
     O.heap.size<=pc->W.heap[pc]? =some (.cells ZG.toArray 49 (0,0))->aL W W' pc 49 (setCells ZG 0 (k.cells x))->ZG.length=14->oQ W' w.heap.size A4 n4 c4 nz->(er=0->dP W w.heap.size k xs x/\dh H nz[n4 - 1].x zs[i].e= .ok x)->
     F.an.J6 A4 n4 c4 A5 n5 c5 ⟨w'.heap.size,0,none⟩ ⟨pc,0,none⟩ er rI n xZ n i w.heap.size W' (I8 H w.heap.size):=by
    intro W W' pc ZG k x xs er X s1 s2 s3 hee hpc hc0 Y aja cM hr;have sC:=bG.wrote Y hc0;have rG:w'.heap.size<O.heap.size:=(ax.1 he).1;have hwW:Below w.heap.size w W':=X.trans (aL.dQ Y (by have:=hw.size;omega));have Ty:W'.heap[pc]? =some (.cells (k.cells x).toArray 49 (0,0)):=by
     have:=Y.at_
     match ZG,aja with
     |[_,_,_,_,_,_,_,_,_,_,_,_,_,_],_=>exact this
    refine aeB (y:=⟨k,xs,x⟩) (z:=zs[i]) cM (s2.gh sC) (s3.gh sC) sep hwW om om om S (sC _ _ _ _ dc hee) Ty (fun q=> ?_) (fun q=>nx (hr q).2) (fun _=>nn hwW cM (s2.gh sC) (s3.gh sC));exact⟨(hr q).1.gh sC,pZ Sv eok (hr q).2⟩
   have apply:=fun {W:World} {k:Ca} {xs:List Rm} (X:Below w.heap.size w W) (tp:pJ W zs[i].a zs[i].e) (ho:dP W W.heap.size k xs nz[n4 - 1].x∨∃b,dP W b k xs nz[n4 - 1].x)=>mW fO (hg.next X) ((ho.elim (fun h=>h.uV Sv.sr) fun⟨_,h⟩=>h.uV Sv.sr)) Sv tp
   refine⟨hb4,a4,Up,_,_,_,_,_,_,_,_,_,_,_,_,_,_,_,_,_,_,_,_,_,_,_,_,_,_,_,_,_,_,_,_,_,_,_,_,B7,_,_,_,_,_,_,_,_,_,_,_,_,eE he,fun w60 x60=> ?_,fun aey aeI=> ?_⟩
   ·have h60:=extAll x60;have Sd:=kE b38 x60;refine pm (xV (oy.below h60) Sv) ?_;rintro v w76 b76 ⟨k1,nQ,rfl,o1⟩;have P:=kP Sd b76;have I:Below O.heap.size O w76:=kP h60 b76;have Q:=G.below I;have J:=ev8.below I;have K:=V.below I;have L:=ag he I;refine⟨_,_,_,_,_,_,_,_,_,_,_,_,_,_,_,_,_,_,_,_,_,_,_,_,_,_,_,_,_,_,_,_,_,_,_,_,rfl,?_,?_⟩
    ·refine pm (apply P (tp.au I) (.inr ⟨_,o1⟩)) ?_;intro v w93 r j;have VP:=kP P r;have aeJ:=(kP I r).size;cases ha:dh H nz[n4 - 1].x zs[i].e with
     |error er=>
      rw[ha]at j;have j:v=_:=j;subst j;refine⟨_,_,_,_,_,_,_,_,_,_,_,_,_,_,_,_,_,_,_,_,_,_,_,_,_,_,_,_,_,_,_,_,_,_,_,_,_,rfl,cC 49 CF lf fun Z B g l94=>⟨_,_,VP.size,rfl,B,by simp[Value.cells],rfl,fun w99 rD=> ?_⟩⟩;refine fin (xs:=[]) (kP VP g) ((Q.below r).below g) ((J.below r).below g) ((K.below r).below g) (ag (ag L r) g) aeJ B rD rfl ((Q.below r).fresh g lf B rD) fun q=>absurd q (rE ha)
     |ok yy=>
      rw[ha]at j;obtain⟨k',Gv,rfl,zg⟩:=j;refine⟨_,_,_,_,_,_,_,_,_,_,_,_,_,_,_,_,_,_,_,_,_,_,_,_,_,_,_,_,_,_,_,_,_,_,_,_,_,rfl,cC 49 CF lf fun Z B g l94=>⟨_,_,VP.size,rfl,B,by simp[Value.cells],rfl,fun w99 rD=> ?_⟩⟩;refine fin (xs:=Gv) (kP VP g) ((Q.below r).below g) ((J.below r).below g) ((K.below r).below g) (ag (ag L r) g) aeJ B rD rfl ((Q.below r).fresh g lf B rD) fun _=>⟨(zg.below g).base P.size,ha⟩
    ·refine cC 49 CF lf fun Z B g l94=> ?_
     refine pm (apply (kP P g) ((tp.au I).au g) (.inr ⟨_,o1.below g⟩)) ?_;intro v Vr aaq j;have zK:=kP (kP P g) aaq;have OC:=ag B aaq;have C:=kP g aaq;cases ha:dh H nz[n4 - 1].x zs[i].e with
     |error er=>
      rw[ha]at j;have j:v=_:=j;subst j;refine⟨_,_,_,_,_,_,_,_,_,_,_,_,_,_,_,_,_,_,_,_,_,_,_,_,_,_,_,_,_,_,_,_,_,_,_,_,_,rfl,_,_,P.size,rfl,OC,by simp[Value.cells],rfl,fun ajd I9=> ?_⟩;refine fin (xs:=[]) zK (Q.below C) (J.below C) (K.below C) (ag L C) I.size OC I9 rfl (Q.fresh C lf OC I9) fun q=>absurd q (rE ha)
     |ok yy=>
      rw[ha]at j;obtain⟨k',Gv,rfl,zg⟩:=j;refine⟨_,_,_,_,_,_,_,_,_,_,_,_,_,_,_,_,_,_,_,_,_,_,_,_,_,_,_,_,_,_,_,_,_,_,_,_,_,rfl,_,_,P.size,rfl,OC,by simp[Value.cells],rfl,fun ajd I9=> ?_⟩;refine fin (xs:=Gv) zK (Q.below C) (J.below C) (K.below C) (ag L C) I.size OC I9 rfl (Q.fresh C lf OC I9) fun _=>⟨zg.base (kP P g).size,ha⟩
   ·have M:=extAll aeI;have I5:=kE b38 aeI;refine cC 49 CF lf fun Z B g l94=> ?_
    have aje:=kP I5 g;refine pm (xV ((oy.below M).below g) Sv) ?_;rintro v aeA Sp ⟨k1,nQ,rfl,o1⟩;have Sy:=kP aje Sp;refine⟨_,_,_,_,_,_,_,_,_,_,_,_,_,_,_,_,_,_,_,_,_,_,_,_,_,_,_,_,_,_,_,_,_,_,_,_,rfl,?_⟩;refine pm (apply Sy (((tp.au M).au g).au Sp) (.inr ⟨_,o1⟩)) ?_;intro v apY aar j;have Xt:=kP Sy aar;have OD:=ag (ag B Sp) aar;have N:=G.below M;have ev3:=ev8.below M;have zz3:=V.below M;have D:=kP (kP g Sp) aar;cases ha:dh H nz[n4 - 1].x zs[i].e with
    |error er=>
     rw[ha]at j;have j:v=_:=j;subst j;refine⟨_,_,_,_,_,_,_,_,_,_,_,_,_,_,_,_,_,_,_,_,_,_,_,_,_,_,_,_,_,_,_,_,_,_,_,_,_,rfl,_,_,I5.size,rfl,OD,by simp[Value.cells],rfl,fun ajf Ja=> ?_⟩;refine fin (xs:=[]) Xt (N.below D) (ev3.below D) (zz3.below D) (ag (ag he M) D) M.size OD Ja rfl (N.fresh D lf OD Ja) fun q=>absurd q (rE ha)
    |ok yy=>
     rw[ha]at j;obtain⟨k',Gv,rfl,zg⟩:=j;refine⟨_,_,_,_,_,_,_,_,_,_,_,_,_,_,_,_,_,_,_,_,_,_,_,_,_,_,_,_,_,_,_,_,_,_,_,_,_,rfl,_,_,I5.size,rfl,OD,by simp[Value.cells],rfl,fun ajf Ja=> ?_⟩;refine fin (xs:=Gv) Xt (N.below D) (ev3.below D) (zz3.below D) (ag (ag he M) D) M.size OD Ja rfl (N.fresh D lf OD Ja) fun _=>⟨zg.base Sy.size,ha⟩
 refine F.an.vc (pm (Cz w) ?_);rintro v wW F2 rfl;have xU:=F2;refine⟨_,_,_,_,_,_,_,_,_,_,_,_,_,_,_,_,_,_,_,_,_,_,_,_,_,_,_,_,_,_,_,_,_,_,_,_,rfl,?_⟩;refine bc CE [Ca.zero.val Cm.zero] (by simp[Value.cells]) sm xU.size fun A17 c17 AE o17 Jw=> ?_
 have ox:=kP xU Jw;refine bc sQ [] sm sm ox.size fun A20 c20 tx o20 Ry=> ?_
 have kt:=kP ox Ry;refine pm (fD (h.au kt)) ?_;rintro v Uw Jq ⟨A23,c23,zs,rfl,ez,ee⟩;have rm:=kP kt Jq;refine⟨_,_,_,rfl,?_⟩;have aeK:aE tx AE.heap.size 32 A20 0 c20 6 []:=o20;have sep:GG A20 A23:=fun a b ha hb q=>by
  have h1:=(aeK.uJ a ha).2;have h2:=(ez.s.uJ b hb).1;omega
 refine key A23 c23 zs ez.s.rows n 0 A17 1 c17 [⟨Ca.zero,[],Cm.zero⟩] A20 0 c20 [] Uw rfl om rm ⟨?_,?_,?_⟩ ⟨(aeK.below Jq).base ox.size,nofun,nofun⟩ ⟨ez.s.base kt.size,fun y hy=>(ez.f y hy).base kt.size,ez.o⟩ sep ⟨rfl,rfl,nofun⟩ om
 ·exact((show aE AE wW.heap.size 49 A17 1 c17 14 [Ca.zero.cells Cm.zero]from o17).below Ry).below Jq|>.base xU.size
 ·intro y hy;rw[eb.1 hy];exact dP.zero _ _
 ·intro y hy;rw[eb.1 hy];exact dz.zero

structure Sz (w:World) (p6 p7 p8 p9:Nat) (z:Em) (y:Cw) (s:ByteArray) (r:Int):Prop where
 e:w.heap[p6]? =some (.cells z.row.toArray 32 (0,0))
 c:w.heap[p7]? =some (.cells y.row.toArray 49 (0,0))
 s:w.heap[p8]? =some (.cells [Value.string s].toArray 9 (0,0))
 r:w.heap[p9]? =some (.cells [Value.int .i64 r].toArray 3 (0,0))
theorem Sz.below{w w':World}{p6 p7 p8 p9:Nat}{z:Em}{y:Cw}{s:ByteArray}{r:Int}(h:Sz w p6 p7 p8 p9 z y s r)(hb:Below w.heap.size w w'):Sz w' p6 p7 p8 p9 z y s r:=⟨ag h.e hb,ag h.c hb,ag h.s hb,ag h.r hb⟩
section
variable {H:oG} (fO:fM H) {w:World} {p6 p7 p8 p9:Nat} {z:Em} {y:Cw} {s:ByteArray} {r:Int}
include fO
theorem VQ(hg:bj w)(h:Sz w p6 p7 p8 p9 z y s r)(hs:bR w y.k.g.A 4 (y.x.cU.map Si.row))(hl:y.x.cU.length=y.k.g.n)(hn:y.x.cU.length<=16)(J:mS y.x.cU=true)(V:0<=z.e.tick/\z.e.tick<=1073741824){a:Ap}(ha:a.subject.size=32/\0<=a.tick/\a.tick<=1073741824):
  Pure Tryz.prog 20 #[a.val,.pointer (some ⟨p7,0,none⟩),.pointer (some ⟨p9,0,none⟩),.pointer (some ⟨p8,0,none⟩),.pointer (some ⟨p6,0,none⟩)] w fun v _=>v= .bool (apF H y.x.cU s r z.e.tick a):=by
 refine F.eG.vc fun w1 B=>⟨_,_,_,aZ (k:=10) (h.below (extAll B)).c rfl,fun p3 K E=> ?_⟩
 have l:=extAll B;have h1:=h.below l;refine pm (Mk (p:=fun g=>decide (g.id=a.bV)) (hs.below l) hl om kF fun w' hb g _=> ?_) ?_
 ·refine F.dU.vc fun W L=>⟨_,aZ (k:=0) (ext_nil L (ag E hb)) rfl,rfl⟩
 rintro v X d rfl;have M:=kP (k0 B) d;have b:=h1.below d;have g3:=ag E d;have key:=lB (fun g:Si=>decide (g.id=a.bV)) y.x.cU 0;unfold apF;cases hx:Jy y.x.cU a.bV with
 |none=>
  have C:y.x.cU.findIdx? (fun g=>decide (g.id=a.bV))=none:=hx;rw[C]at key;simp only at key;rw[key];exact⟨_,rfl,fun _ Y _=>rfl,fun q=>absurd (show(-1:Int)<0 by omega) q⟩
 |some k=>
  have C:y.x.cU.findIdx? (fun g=>decide (g.id=a.bV))=some k:=hx;rw[C]at key;simp only[jx]at key;rw[key];obtain⟨m,hid⟩:=Lb hx;obtain⟨hb,N,O,_,P⟩:=((hs.below l).below d).at_ (row:=Si.row) (fun _=>rfl) hl m;simp only[af m];refine⟨_,rfl,fun q=>by omega,fun _=>⟨_,_,_,aZ (k:=10) b.c rfl,hb,N,O,_,P 1 _ rfl,_,bE b.r rfl,fun q Z _=>by rw[en q];rfl,fun q=> ?_⟩⟩;rw[gu (dT.1 q),rr];refine⟨_,aZ (k:=2) g3 rfl,_,bE b.s rfl,fun q Dj _=>by rw[en q];rfl,fun q=> ?_⟩;rw[gu (dT.1 q),rr];refine⟨_,aZ (k:=1) g3 rfl,_,aZ (k:=1) b.e rfl,fun q Kv _=>by rw[en om];rfl,fun q=> ?_⟩;rw[gu om,rr];refine⟨_,aZ (k:=1) g3 rfl,_,aZ (k:=1) b.e rfl,ir,fun q Dk _=>by rw[en om];rfl,fun q tx G=> ?_⟩;rw[gu om,rr];have o:=extAll G;obtain⟨D,Q,R,_,S⟩:=(((hs.below l).below d).below o).at_ (row:=Si.row) (fun _=>rfl) hl m;refine⟨_,_,_,aZ (k:=10) (b.below o).c rfl,D,Q,R,_,S 3 _ rfl,_,_,_,_,eE (ag g3 o),fun My i=> ?_⟩;obtain⟨q,I⟩:=Ct (gY.1 J).1 _ (bw m);have T:=I.1;have j:=I.2.2.2.1;refine pm (jg (a:=a) fO (hg.next (kE (kE M G) i)) j.1 j.2 ir ir om) ?_;rintro v Is U rfl;exact⟨_,_,rfl,fun _=>⟨_,aZ (k:=3) (ag (ag (ag g3 o) (extAll i)) U) rfl,rfl⟩,fun q=>absurd rfl q⟩
end
section
variable {H:oG} (fO:fM H) {w0 w1:World} {A3 A21:Option Addr} {n3 c3 n21 c21:Nat} {nz:List Cw} {qM:List Em}
include fO
theorem SA(hg:bj w1)(B:w0.heap.size<=w1.heap.size){i:Nat}{z:Em}{y:Cw}{s:ByteArray}(ho:dP w1 w0.heap.size y.k y.xs y.x)(ok:dz y.x)(M:(dO H y.x.cU y.x.apps).2=0)(N:∀role,role=2∨role=3->y.x.apps.any (apF H y.x.cU s role z.e.tick)=true)(O:0<=z.e.tick/\z.e.tick<=1073741824)
  (hi:i<1000) (P:∀w',Below w1.heap.size w1 w'->F.ar.L7 A3 n3 c3 A21 n21 c21 n21 ((i:Int)+1) w0.heap.size w' fun v _=>v= .bool true):
  ∀(d:Nat)(r:Int)(w:World)(p6 p7 p8 p9:Nat),r+d=4->2<=r->Below w1.heap.size w1 w->Sz w p6 p7 p8 p9 z y s r->F.ar.pL A3 n3 c3 ⟨p6,0,none⟩ ⟨p7,0,none⟩ ⟨p8,0,none⟩ ⟨p9,0,none⟩ A21 n21 c21 n21 i w0.heap.size w fun v _=>v= .bool true:=by
 have lq:=ok.lq;have lg:=ok.lg;have nq:=ho.q.rows;have ng:=ho.g.rows;obtain⟨Q,G⟩:=zL M;intro d;induction d with
 |zero=>
  intro r w p6 p7 p8 p9 R S hw h;exact F.ar.pL.step ⟨_,bE h.r rfl,fun q=>by omega,fun _=>⟨ir,P w hw⟩⟩
 |succ d ih=>
  intro r w p6 p7 p8 p9 R S hw h;have j:=ho.below hw;refine F.ar.pL.step ⟨_,bE h.r rfl,fun _=>⟨_,_,_,aZ (k:=11) h.c rfl,?_⟩,fun q=>by omega⟩;refine pm (wJ (p:=apF H y.x.cU s r z.e.tick) j.q.sl nq om (a:= #[]) (k:= #[.pointer (some ⟨p7,0,none⟩),.pointer (some ⟨p9,0,none⟩),.pointer (some ⟨p8,0,none⟩),.pointer (some ⟨p6,0,none⟩)]) kF fun w' hb a ha=>VQ fO (hg.next (kP hw hb)) (h.below hb) ((j.below hb).g.sl) ng lg Q O (a:=a) ⟨(G a ha).2.2.1,(G a ha).2.1⟩) ?_;rw[N r om];rintro v l m rfl;have n:=kP hw m;have o:=h.below m;refine⟨_,rfl,fun q=>(by cases q),fun _=>⟨_,bE o.r rfl,?_⟩⟩;refine cC (z:= .int .i64 0) 3 kF (dp B n.size) fun T C A U=> ?_
  have V:=kP n A;refine⟨[.int .i64 0],_,dp B n.size,rfl,C,sm,rfl,fun W I=> ?_⟩;have J:W.heap[l.heap.size]? =some (.cells [Value.int .i64 r].toArray 3 (0,0)):=I.at_;refine⟨_,bE J rfl,ir,[.int .i64 r],_,dp B n.size,rfl,J,sm,rfl,fun b K=> ?_⟩;have D:b.heap[l.heap.size]? =some (.cells [Value.int .i64 (r+1)].toArray 3 (0,0)):=K.at_;have L:Below l.heap.size l b:=(A.trans (aL.dQ I lf)).trans (aL.dQ K lf);have E:=o.below L;exact ih (r+1) b p6 p7 p8 l.heap.size om om (kP n L) ⟨E.e,E.c,E.s,D⟩
theorem VR(hg:bj w1)(c:w0.heap.size<=w1.heap.size)(st:oQ w1 w0.heap.size A3 n3 c3 nz)(ev:iA w1 w0.heap.size A21 n21 c21 qM)(ch:yS H (nz.map Cw.x) (gk qM))(hn:n21<=40):
  ∀(d i:Nat)(w:World),n21 - i=d->i<=n21->Below w1.heap.size w1 w->F.ar.L7 A3 n3 c3 A21 n21 c21 n21 i w0.heap.size w fun v _=>v= .bool true:=by
 have tN:=st.s.rows;have O:=ev.s.rows;have P:=ch.1;rw[ec,ec]at P;intro d;induction d with
 |zero=>
  intro i w hd hi hw;exact F.ar.L7.step ⟨fun q=>by omega,fun _=>rfl⟩
 |succ d ih=>
  intro i w hd hi hw;have cB:i<qM.length:=om;have g:i<nz.length:=om;have Q:i+1<nz.length:=om;have nx:∀w',Below w1.heap.size w1 w'->F.ar.L7 A3 n3 c3 A21 n21 c21 n21 ((i:Int)+1) w0.heap.size w' fun v _=>v= .bool true:=fun w' wH=>by
   rw[show(i:Int)+1=((i+1:Nat):Int) by omega];exact ih (i+1) w' om om wH
  have CS:dh H nz[i].x qM[i].e= .ok nz[i+1].x:=ch.2.2 i _ _ _ (by rw[kl,af g];rfl) (by rw[kl,af Q];rfl) (by rw[kl,af cB];rfl);obtain⟨hb,a,hA,hc,_⟩:=((ev.below hw).s.sl).at_ (row:=Em.row) (fun _=>rfl) O cB;refine F.ar.L7.step ⟨fun _=>⟨hb,a,hA,_,_,_,_,_,_,_,_,_,_,_,_,hc,?_⟩,fun q=>by omega⟩;have sz:=hw.size;refine cC 32 GC (dp c sz) fun Kv Gj Ju l18=>⟨_,_,dp c sz,rfl,Gj,by simp[Value.cells],rfl,fun B yL=> ?_⟩
  have OY:B.heap[w.heap.size]? =some (.cells qM[i].row.toArray 32 (0,0)):=yL.at_;have R:Below w.heap.size w B:=Ju.trans (aL.dQ yL lf);have C:=kP hw R;refine⟨_,aZ (k:=2) OY rfl,fun _=>⟨ir,nx B C⟩,fun S=> ?_⟩;have S:=dT.1 S;obtain⟨T,_⟩:=LG CS S;obtain⟨fE,RF⟩:=Ou T;obtain⟨_,U⟩:=pK CS;obtain⟨V,a2,W,qh,_⟩:=((st.below C).s.sl).at_ (row:=Cw.row) (fun _=>rfl) tN g;refine⟨V,a2,W,_,_,_,_,_,_,_,_,_,_,_,_,_,_,_,_,_,_,_,_,_,_,_,_,_,_,_,_,_,_,_,_,_,_,_,_,qh,?_⟩;refine cC 49 CF (dp c C.size) fun Wx X Td l40=>⟨_,_,dp c C.size,rfl,X,by simp[Value.cells],rfl,fun CM D=> ?_⟩
  have E:CM.heap[B.heap.size]? =some (.cells nz[i].row.toArray 49 (0,0)):=D.at_;have G:Below B.heap.size B CM:=Td.trans (aL.dQ D lf);have I:=kP C G;have J:=bw g;have M:=st.o _ J;have oy:=st.f _ J;refine⟨_,_,_,_,_,_,_,_,_,_,_,_,_,_,_,_,_,_,_,_,_,_,_,_,_,_,_,_,_,_,_,_,_,_,_,_,eE E,pm (xV (oy.below I) M) ?_⟩;rintro v w75 h ⟨k1,nQ,rfl,o1⟩;have K:=kP I h;refine⟨_,_,_,_,_,_,_,_,_,_,_,_,_,_,_,_,_,_,_,_,_,_,_,_,_,_,_,_,_,_,_,_,_,_,_,_,rfl,pm (Ex fO (hg.next K) (o1.uV M.sr) M) ?_⟩;rintro v Y j rfl;have l:=kP K j;refine⟨_,rfl,?_⟩;refine cC (z:= .string ⟨#[]⟩) 9 kF (dp c l.size) fun w79 Z b79 l79=>⟨[.string ⟨#[]⟩],_,dp c l.size,rfl,Z,sm,rfl,fun b L=> ?_⟩
  have h84:b.heap[Y.heap.size]? =some (.cells [Value.string (lE H nz[i].x)].toArray 9 (0,0)):=L.at_;have m:Below Y.heap.size Y b:=b79.trans (aL.dQ L lf);have n:=kP l m;refine cC (z:= .int .i64 0) 3 kF (dp c n.size) fun w85 h85 b85 l85=>⟨[.int .i64 0],_,dp c n.size,rfl,h85,sm,rfl,fun A VL=> ?_⟩
  have h90:A.heap[b.heap.size]? =some (.cells [Value.int .i64 2].toArray 3 (0,0)):=VL.at_;have N:Below b.heap.size b A:=b85.trans (aL.dQ VL lf);refine SA fO hg c (z:=qM[i]) (y:=nz[i]) (s:=lE H nz[i].x) oy M fE RF U.tick om nx 2 2 A _ _ _ _ rfl om (kP n N) ⟨?_,?_,ag h84 N,h90⟩
  ·exact ag (ag (ag (ag (ag OY G) h) j) m) N
  ·exact ag (ag (ag (ag E h) j) m) N
end
theorem CG{w:World}{A:Option Addr}{n c:Nat}{ys:List Em}(hg:bj w)(h:vX w A n ys):Pure Tryz.prog 4 #[.slice A n c] w fun v _=>v= .bool true:=by
 refine F.ar.vc (pm (zO hg) ?_);rintro v j b rfl;refine⟨_,rfl,fun q=>(by cases q),fun _=>pm (MC (h.au b)) ?_⟩;rintro v k e rfl;have a:=kP b e;refine⟨_,rfl,fun _=>rfl,fun hf=> ?_⟩;have es:=(h.au a).YI (by simpa using hf);refine pm (Dw wV (hg.next a) es) ?_;rintro v g i ⟨A1,n1,c1,A2,n2,c2,nz,qM,rfl,st,ev,ch,hn⟩;have d:=kP a i;refine⟨_,_,_,_,_,_,rfl,?_⟩;exact VR (w0:=w) wV (hg.next d) d.size ⟨st.s.base a.size,fun y hy=>(st.f y hy).base a.size,st.o⟩ ⟨ev.s.base a.size,fun y hy=>(ev.f y hy).base a.size,ev.o⟩ ch hn n2 0 g rfl om (Below.refl _ _)
set_option maxRecDepth 100000
open Go Go.RowKit Go.Proofs Go.Proofs.YtbcojgcjjpggnaaGreatDoor.Vc Go.ChangeShapes Go.WideShapes Go.Deep

theorem own:ownKnob Tryz.prog.godebug=none:=kF
theorem laidOut:laidOutB Tryz.prog=true:=kF

section
variable {H:Type} {enc:TypeId×Value->H} {P:Program}

theorem vZ(hl:laidOutB P=true){W f:World}(hb:Below W.heap.size W f):∀{ts:List TypeId} {vs:List Value} {g:List (DataW H)} {ps:List MemPlace},
  (∀t∈ts,P.readableRec t=true/\t<P.types.size)->DataW.TrodAll enc P W 0 (fun _=>true) true ts vs g ps->(∀x∈ps,x.block<W.heap.size)->DataW.TrodAll enc P f 0 (fun b=>decide (b<W.heap.size)) true ts vs g ps
 |[],_,_,_,_,h,_=>by
  obtain⟨rfl,rfl,rfl⟩:=trodAll_nil h;exact trodAll_mk0
 |t::ts,_,_,_,e,h,c=>by
  obtain⟨v,i,d,j,a,b,rfl,rfl,rfl,h1,k⟩:=trodAll_cons h;exact trodAll_cons_mk (Below.trod hl (e t sm).1 (e t sm).2 h1 hb (fun x hx=>c x (by simp[hx])))
   (vZ hl hb (fun u hu=>e u (by simp[hu])) k (fun x hx=>c x (by simp[hx])))

theorem Jb{f:Func}{a:FuncId}{s:ChangeSpec}{W:World}{args:Array Value}{d gs:List (DataW H)}{before:List MemPlace}(hl:laidOutB P=true)(g:DataW.Whole enc P f.params.toList s.vars false W args.toList d gs before)
  (k:s.vars=[]) {tb:TypeId} (n:f.resultTypes= #[tb]) (i:P.underlying tb=some .bool) (j:∀t∈f.params.toList,P.readableRec t=true/\t<P.types.size)
  (hs:s.fn H (d++gs)={results:=[.lit (.bool true)],args:=d}) (key:Pure P a args W fun y _=>y= .bool true):
  Calls P a args W fun e l=>∃v,e= .returned v/\s.post enc P f false true false false W args v l:=by
 refine Calls.mono key fun e l ⟨v,he,hb,hy⟩=>⟨v,he,?_⟩
 subst hy;have b:=g.lt;have c:=g;obtain⟨p,q,o,m,rfl,_,_⟩:=g;rw[k]at m;obtain⟨rfl,rfl⟩:=trodVars_none m;simp only[uf]at b c;refine⟨d,_,_,[],p,[],c,?_,?_,?_,hb.frame _,fun h=>by cases h⟩
 ·rw[hs,n];exact trodAll_cons_mk (shut_bool i _) trodAll_mk0
 ·rw[hs];exact vZ hl hb j o b
 ·rw[hs,k];rfl

end

theorem GJ{w:World}{a:Addr}{sz:Nat}(nB:0<sz){rows:List (List Value)}(hl:∀r∈rows,r.length=sz)(h:∀i,(hi:i<rows.length)->∀j,(hj:j<rows[i].length)->w.cell? (a.add (i*sz+j))=some (rows[i][j])):bR w (some a) sz rows:=by
 by_cases d:rows=[]
 ·exact .inl d
 right
 have hp:0<rows.length:=vv.2 d;have g:rows[0].length=sz:=hl _ (bw _);have c0:=h 0 hp 0 om;have e:a.spot=none:=by simpa[Addr.add]using World.cell?_spot c0
 obtain⟨b,off,spot⟩:=a;simp only at e;subst e;have f:∀k,(⟨b,off,none⟩:Addr).add k=⟨b,off+k,none⟩:=fun k=>bT b off k
 rw[f]at c0;cases c:w.heap[b]? with
 |none=>simp[World.cell?,c]at c0
 |some o=>
  cases o with
  |cells cs ty fr=>
   refine⟨b,off,cs,ty,fr,rfl,c,fun i hi j hj=>⟨hl _ (bw _),?_⟩⟩;have:=h i hi j hj;rw[f]at this;simpa[World.cell?,c,IS]using this
  |_=>simp[World.cell?,c]at c0

theorem aeT:Tryz.prog.underlying 88=some .string:=kF
theorem aeU:Tryz.prog.underlying 3=some (.int .i64):=kF
theorem aeV:Tryz.prog.underlying 9=some .string:=kF

open Go Go.RowKit Go.Proofs

abbrev SB:=Rows.computerApprovedRow.laid
open Go Go.RowKit Go.Proofs Go.Proofs.YtbcojgcjjpggnaaGreatDoor.Vc Go.ChangeShapes Go.WideShapes Go.Deep Go.ChangeAt

noncomputable def jU(os:Os):World:=
 let N:=(World.settled Tryz.prog os).heap.size
 let w0:=World.holding Tryz.prog os ⟨#[.cells #[.string ⟨#[118,97,108,117,101,32,111,117,116,32,111,102,32,114,97,110,103,101]⟩] 396,.cells #[.string ⟨#[105,110,118,97,108,105,100,32,115,121,110,116,97,120]⟩] 396],#[],[]⟩
 let put (h:Array Obj) (g:Nat) (cs:Array Value):Array Obj:=h.modify g fun
  | .cells _ t frozen=> .cells cs t frozen
  |o=>o
 let a:=put (put w0.heap 5 #[.iface 394 (.pointer (some ⟨N,0,none⟩))]) 4 #[.iface 394 (.pointer (some ⟨N+1,0,none⟩))]
 let h1:=put a 2 #[.int .u8 0,.int .u8 1,.int .u8 28,.int .u8 2,.int .u8 29,.int .u8 14,.int .u8 24,.int .u8 3,.int .u8 30,.int .u8 22,.int .u8 20,.int .u8 15,.int .u8 25,.int .u8 17,.int .u8 4,.int .u8 8,.int .u8 31,.int .u8 27,.int .u8 13,.int .u8 23,.int .u8 21,.int .u8 19,.int .u8 16,.int .u8 7,.int .u8 26,.int .u8 12,.int .u8 18,.int .u8 6,.int .u8 11,.int .u8 5,.int .u8 10,.int .u8 9]
 let b:=put h1 3 #[.int .u8 0,.int .u8 1,.int .u8 56,.int .u8 2,.int .u8 57,.int .u8 49,.int .u8 28,.int .u8 3,.int .u8 61,.int .u8 58,.int .u8 42,.int .u8 50,.int .u8 38,.int .u8 29,.int .u8 17,.int .u8 4,.int .u8 62,.int .u8 47,.int .u8 59,.int .u8 36,.int .u8 45,.int .u8 43,.int .u8 51,.int .u8 22,.int .u8 53,.int .u8 39,.int .u8 33,.int .u8 30,.int .u8 24,.int .u8 18,.int .u8 12,.int .u8 5,.int .u8 63,.int .u8 55,.int .u8 48,.int .u8 27,.int .u8 60,.int .u8 41,.int .u8 37,.int .u8 16,.int .u8 46,.int .u8 35,.int .u8 44,.int .u8 21,.int .u8 52,.int .u8 32,.int .u8 23,.int .u8 11,.int .u8 54,.int .u8 26,.int .u8 40,.int .u8 15,.int .u8 34,.int .u8 20,.int .u8 31,.int .u8 10,.int .u8 25,.int .u8 14,.int .u8 19,.int .u8 9,.int .u8 13,.int .u8 8,.int .u8 7,.int .u8 6]
 let c:=put b 0 (Lib.pow10Tab.map fun z=>Value.int .u64 z).toArray
 {w0 with heap:=c}

noncomputable abbrev N0:Nat:=(World.settled Tryz.prog default).heap.size
theorem Jc(os:Os)(args:Array Value):laidMet Tryz.prog SB ((jU os).forCall (fun _ _=>0) ⟨#[],args,[]⟩).memory:=
 (LaidIn.of_run (l:=SB) [2,3,0,5,4,N0,N0+1] 8 kF kF kF kF).met

theorem CH(os:Os)(args:Array Value):((jU os).forCall (fun _ _=>0) ⟨#[],args,[]⟩).variablesRefB Tryz.prog=true:=kF
theorem CI (os : Os) (args : Array Value) : (((jU os).forCall (fun _ _ => 0) ⟨#[], args, []⟩).heap.toList.drop Tryz.prog.globals.size).take ((begin Tryz.prog (fun _ _ => 0) default).world.heap.size - Tryz.prog.globals.size) =
      (begin Tryz.prog (fun _ _ => 0) default).world.heap.toList.drop Tryz.prog.globals.size := kF

theorem MH {W : World} (a : laidMet Tryz.prog SB W) (b : W.ShapedOpen Tryz.prog) : bj W :=
  ⟨Lib.tabIs_of_head (zs := Lib.pow10Tab) (g := 0) (t := 303) (e := 230) (n := 20) Ma kF kF kF kF kF a.tail.tail,
   cell_of_shapedOpen_int (g := 1) (t := 3) (zero := #[.int .i64 0]) b (eR kF) kF rfl kF kF kF⟩

theorem Xy{a b:Bool}(h:a=true)(k:b=true):(a&&b)=true:=by rw[h,k];rfl
theorem Ey:laidOutB Tryz.pinned.checked.prog=true:=kF
theorem Ez:mapsRowed Tryz.pinned.checked.prog=true:=kF

instance:Inhabited Pa:=⟨⟨0,0,0,⟨#[]⟩,⟨#[]⟩,⟨#[]⟩,⟨#[]⟩⟩⟩
instance:Inhabited Ho:=⟨⟨0,⟨#[]⟩,⟨#[]⟩,⟨#[]⟩,⟨#[]⟩,⟨#[]⟩,⟨#[]⟩⟩⟩
instance:Inhabited Sw:=⟨⟨0,0,0⟩⟩

section
variable {H:Type} {enc:TypeId×Value->H} {w:World} {base b0:Nat} {spare:Nat->Bool} {held:Bool}
theorem sV{α:Type}[Inhabited α]{row:α->List Value}{P:α->Prop}{sz:Nat}(nB:0<sz)(q:∀x,(row x).length=sz){t e:TypeId}(s:Tryz.prog.underlying t=some (.slice e))(hC:Tryz.prog.cellsOf e=sz)
  (hx:∀(n:Nat)(cs:List Value)(y:DataW H×List MemPlace),DataW.trod enc Tryz.prog w base spare held n e cs=some y->∃x:α,cs=row x/\P x)
  {v:Value} {fuel:Nat} {y:DataW H×List MemPlace} (h:DataW.trod enc Tryz.prog w base spare held fuel t [v]=some y):
  ∃(A:Option Addr)(n c:Nat)(l:List α),v= .slice A n c/\bR w A sz (l.map row)/\l.length=n/\n<9223372036854775808/\(A=none->c=0)/\n<=c/\∀x∈l,P x:=by
 rcases open_slice s h with⟨d,_⟩|⟨a,len,cap,m,n,D,I,d,hb,hl,hm,f,_,hi⟩
 ·cases d;exact⟨none,0,0,[],rfl,.inl rfl,rfl,om,fun _=>rfl,eU _,sm⟩
 ·cases d;rw[hC]at hi;obtain⟨g,hg⟩:=choose_lt (α:=α) (n:=len) (p:=fun i x=>P x/\∀j,(hj:j<(row x).length)->w.cell? (a.add (i*sz+j))=some ((row x)[j])) fun i u=>by
   have z:i<m:=by
    rw[f];split<;>omega
   obtain⟨J,B,o⟩:=hi i z;obtain⟨_,K,C⟩:=World.cells?_some B;obtain⟨x,rfl,E⟩:=hx _ _ _ o;refine⟨x,E,fun j hj=> ?_⟩;rw[<-Go.Deep.add_add,C j (by rw[q]at hj;omega),af hj]
  refine⟨some a,len,cap,(List.range len).map g,rfl,GJ nB (fun r F=> ?_) (fun i b j hj=> ?_),sm,by unfold maxLen at hm;omega,fun k=>(by cases k),hl,fun x G=> ?_⟩
  ·obtain⟨x,_,rfl⟩:=hM.1 F;exact q x
  ·simp at b;simp only[List.getElem_map,List.getElem_range]at hj⊢;exact(hg i b).2 j hj
  ·obtain⟨i,b,rfl⟩:=hM.1 G;exact(hg i (B2.1 b)).1
theorem EA{α:Type}[Inhabited α]{row:α->List Value}{sz:Nat}(nB:0<sz)(a:∀x,(row x).length=sz){t e:TypeId}(b:Tryz.prog.underlying t=some (.slice e))(hC:Tryz.prog.cellsOf e=sz)
  (hx:∀(n:Nat)(cs:List Value)(y:DataW H×List MemPlace),DataW.trod enc Tryz.prog w base spare held n e cs=some y->∃x:α,cs=row x)
  {v:Value} {fuel:Nat} {y:DataW H×List MemPlace} (h:DataW.trod enc Tryz.prog w base spare held fuel t [v]=some y):
  ∃(A:Option Addr)(n c:Nat)(l:List α),v= .slice A n c/\bR w A sz (l.map row)/\l.length=n/\n<9223372036854775808/\(A=none->c=0):=by
 obtain⟨A,n,c,l,h1,d,f,g,i,_⟩:=sV (P:=fun _=>True) nB a b hC (fun n cs y h=>by obtain⟨x,e⟩:=hx n cs y h;exact⟨x,e,trivial⟩) h;exact⟨A,n,c,l,h1,d,f,g,i⟩

theorem MI:Tryz.prog.cellsOf 3=1:=kF
theorem aeW:Tryz.prog.cellsOf 9=1:=kF
theorem aeX:Tryz.prog.cellsOf 88=1:=kF
theorem aaw{n:Nat}{cs:List Value}{y:DataW H×List MemPlace}(h:DataW.trod enc Tryz.prog w base spare held n 88 cs=some y):∃x,cs=[.string x]:=by
 obtain⟨z,hz,_⟩:=DataW.trod_string aeT h;exact⟨z,hz⟩
theorem aax{n:Nat}{cs:List Value}{y:DataW H×List MemPlace}(h:DataW.trod enc Tryz.prog w base spare held n 9 cs=some y):∃x,cs=[.string x]:=by
 obtain⟨z,hz,_⟩:=DataW.trod_string aeV h;exact⟨z,hz⟩
theorem Jd{t e:TypeId}(a:Tryz.prog.underlying t=some (.slice e)){r:Reach}{v:Value}{d:DataW H}{p:List MemPlace}(b:Value.okWide Tryz.prog w r b0 t v)(h:DataW.Trod enc Tryz.prog w base spare held t v d p):∃fuel,DataW.trod enc Tryz.prog w base spare held fuel t [v]=some (d,p):=by
 obtain⟨a0,len,cap,rfl⟩:=okWide_slice a b;obtain⟨fuel,hf⟩:=h;exact⟨fuel,by simpa[Value.cells]using hf⟩
end

instance:Inhabited Em:=⟨⟨⟨0,0,0,[],[],[]⟩,⟨.nil,.nil,.nil⟩⟩⟩
section
variable {H:Type} {enc:TypeId×Value->H} {w:World} {base b0:Nat} {spare:Nat->Bool} {held:Bool}
theorem aay:Tryz.prog.cellsOf 28=1:=kF
theorem aeY:Tryz.prog.cellsOf 29=1:=kF
theorem aaz:Tryz.prog.cellsOf 30=1:=kF
theorem SC:Tryz.prog.cellsOf 32=6:=kF
theorem AI(n:Nat)(cs:List Value)(y:DataW H×List MemPlace)(h:DataW.trod enc Tryz.prog w base spare held n 3 cs=some y):∃x:Int,cs=fG x/\aU .i64 x:=by
 obtain⟨z,hz,_,hw⟩:=DataW.trod_int aeU h;refine⟨z,hz,?_⟩;simp only[Lit.wf,cy,hJ]at hw;simp only[aU];exact hw
theorem Je(n:Nat)(cs:List Value)(y:DataW H×List MemPlace)(h:DataW.trod enc Tryz.prog w base spare held n 32 cs=some y):∃x:Em,cs=x.row/\vW w x:=by
 obtain⟨ys,m,_,rfl,hl,hlen,hf⟩:=DataW.trod_struct Tryz.underlying32 h;rw[SC]at hl
 match cs,hl with
 |[v0,v1,v2,v3,v4,v5],_=>
  match ys,hlen with
  |[a,b,c,d,e,f],_=>
   obtain⟨z0,g,_⟩:=AI m [v0] a (by simpa[MI]using hf 0 _ rfl);obtain⟨z1,i,_⟩:=AI m [v1] b (by simpa[MI]using hf 1 _ rfl);obtain⟨z2,j,i2⟩:=AI m [v2] c (by simpa[MI]using hf 2 _ rfl);obtain⟨A3,n3,c3,k,rfl,p1,p2,p3,l,_,o⟩:=sV (row:=fG) (P:=fun z=>aU .i64 z) dc (fun _=>rfl) Tryz.underlying28 MI AI (v:=v3) (fuel:=m) (y:=d) (by simpa[aay]using hf 3 _ rfl);obtain⟨A4,n4,c4,p,rfl,q1,q,r,s⟩:=EA (row:=gq) dc (fun _=>rfl) Tryz.underlying29 aeX (fun n cs y h=>aaw h) (v:=v4) (fuel:=m) (y:=e) (by simpa[aeY]using hf 4 _ rfl);obtain⟨A5,n5,c5,t,rfl,u,A,B,C⟩:=EA (row:=gq) dc (fun _=>rfl) Tryz.underlying30 aeW (fun n cs y h=>aax h) (v:=v5) (fuel:=m) (y:=f) (by simpa[aaz]using hf 5 _ rfl);cases g;cases i;cases j;exact⟨⟨⟨z0,z1,z2,k,p,t⟩,⟨⟨A3,n3,c3⟩,⟨A4,n4,c4⟩,⟨A5,n5,c5⟩⟩⟩,rfl,⟨p1,q1,u,p2,q,A,p3,r,B,l,s,C,o,i2⟩⟩
theorem Jf{v:Value}{d:DataW H}{p:List MemPlace}(a:Value.okWide Tryz.prog w .any b0 22 v)(h:DataW.Trod enc Tryz.prog w base spare held 22 v d p):
  ∃(A:Option Addr)(n c:Nat)(ys:List Em),v= .slice A n c/\vX w A n ys:=by
 obtain⟨fuel,hf⟩:=Jd Tryz.underlying22 a h;obtain⟨A,n,c,l,rfl,q1,b,e,_,_,f⟩:=sV (row:=Em.row) dc (fun _=>rfl) Tryz.underlying22 SC Je hf;exact⟨A,n,c,l,rfl,q1,b,e,f⟩
theorem GK{v:Value}{d:DataW H}{p:List MemPlace}(a:Value.okWide Tryz.prog w .any b0 22 v)(h:DataW.Trod enc Tryz.prog w base spare held 22 v d p):
  ∃(A:Option Addr)(n c:Nat)(ys:List Em),v= .slice A n c/\vX w A n ys/\n<=c:=by
 obtain⟨fuel,hf⟩:=Jd Tryz.underlying22 a h;obtain⟨A,n,c,l,rfl,q1,b,e,_,f,g⟩:=sV (row:=Em.row) dc (fun _=>rfl) Tryz.underlying22 SC Je hf;exact⟨A,n,c,l,rfl,⟨q1,b,e,g⟩,f⟩
theorem ajn:Tryz.prog.underlying 5=some (.int .u8):=kF
theorem VT{v:Value}{d:DataW H}{p:List MemPlace}(a:Value.okWide Tryz.prog w .any b0 5 v)(h:DataW.Trod enc Tryz.prog w base spare held 5 v d p):∃z,v= .int .u8 z/\0<=z/\z<256:=by
 obtain⟨z,rfl,_,_,hw⟩:=open_int ajn a h;simp only[Lit.wf,cy,hJ]at hw;exact⟨z,rfl,hw.1,Int.lt_of_le_of_lt hw.2 dc⟩
theorem trodAll_one{t0:TypeId}{args:Array Value}{b:List (DataW H)}{ps:List MemPlace}(h:DataW.TrodAll enc Tryz.prog w base spare held [t0] args.toList b ps):
  ∃v0 d0 a,args= #[v0]/\b=[d0]/\ps=a/\DataW.Trod enc Tryz.prog w base spare held t0 v0 d0 a:=by
 obtain⟨v0,_,d0,_,a,_,c,rfl,rfl,g0,d⟩:=trodAll_cons h;obtain⟨rfl,rfl,rfl⟩:=trodAll_nil d;exact⟨v0,d0,a,by cases args;simp_all,rfl,sm,g0⟩
theorem trodAll_two{t0 t1:TypeId}{args:Array Value}{b:List (DataW H)}{ps:List MemPlace}(h:DataW.TrodAll enc Tryz.prog w base spare held [t0,t1] args.toList b ps):
  ∃v0 v1 d0 d1 a p1,args= #[v0,v1]/\b=[d0,d1]/\ps=a++p1/\DataW.Trod enc Tryz.prog w base spare held t0 v0 d0 a/\DataW.Trod enc Tryz.prog w base spare held t1 v1 d1 p1:=by
 obtain⟨v0,_,d0,_,a,_,c,rfl,rfl,g0,d⟩:=trodAll_cons h;obtain⟨v1,_,d1,_,p1,_,rfl,rfl,rfl,g1,e⟩:=trodAll_cons d;obtain⟨rfl,rfl,rfl⟩:=trodAll_nil e;exact⟨v0,v1,d0,d1,a,p1,by cases args;simp_all,rfl,sm,g0,g1⟩
end
open Go

theorem OF{P:Program}(h:P.funcs.any Func.goes=false)(f:FuncId):P.goes f=false:=by
 unfold Program.goes;rw[h,Bool.and_false,Bool.or_false,xW];intro g _ hg;cases hf:P.funcs[g]? with
 |none=>rw[hf]at hg;cases hg
 |some fn=>
  rw[hf]at hg;have hg:fn.goes=true:=hg;have:=Array.any_eq_false.1 h;obtain⟨hl,he⟩:=ax.1 hf;exact this g hl (by rw[he];exact hg)
theorem OG{P:Program}(h:P.funcs.any Func.goes=false)(s:String):P.goesFrom s=false:=by
 unfold Program.goesFrom;cases P.funcNamed s with
 |none=>rfl
 |some f=>exact OF h f
theorem MJ{P:Program}(h:P.funcs.any Func.goes=false){c:OpenClaim}(a:c.start= .entering):false=c.goesBy P:=by
 unfold OpenClaim.goesBy Program.goesAt;rw[OG h,a];rfl
theorem MK:Tryz.pinned.checked.prog.funcs.any Func.goes=false:=kF

section
variable {H:oG}
theorem yT:∀(l m:List Ev)(i:Nat)(x a:Cm),eS H i x (l++m)= .ok a->∃y,eS H i x l= .ok y/\eS H (i+l.length) y m= .ok a:=by
 intro l;induction l with
 |nil=>
  intro m i x a h;exact⟨x,rfl,h⟩
 |cons e r ih=>
  intro m i x a h;rw[vu,eS]at h;rw[eS];cases ha:dh H x e with
  |error d=>rw[ha]at h;cases h
  |ok z=>
   rw[ha]at h;obtain⟨y,h1,b⟩:=ih m (i+1) z a h;exact⟨y,h1,by rw[eL,show i+(r.length+1)=i+1+r.length by omega];exact b⟩
theorem OH:∀{l:List Ev} {i j:Nat} {x:Cm} {a:Int},eS H i x l= .error (j,a)->a≠0:=by
 intro l;induction l with
 |nil=>
  intro i j x a h;cases h
 |cons e r ih=>
  intro i j x a h;rw[eS]at h;cases ha:dh H x e with
  |error b=>
   rw[ha]at h;cases h;exact rE ha
  |ok z=>
   rw[ha]at h;exact ih h
theorem qb:∀(l:List Ev)(i:Nat)(x a:Cm),eS H i x l= .ok a->0<=x.tick->x.tick<=1073741824->x.tick<=a.tick/\a.tick<=1073741824/\∀e∈l,x.tick<=e.tick/\e.tick<=a.tick:=by
 intro l;induction l with
 |nil=>
  intro i x a h b h1;cases h;exact⟨Jm _,h1,nofun⟩
 |cons e r ih=>
  intro i x a h b h1;rw[eS]at h;cases ha:dh H x e with
  |error q=>rw[ha]at h;cases h
  |ok z=>
   rw[ha]at h;obtain⟨d,p⟩:=pK ha;have y:=(uz ha).2;have B:=p.tick;have C:=p.ord.2;obtain⟨D,g,j⟩:=ih (i+1) z a h om om;refine⟨om,g,fun k o=> ?_⟩;rcases cc.1 o with rfl|hm
   ·omega
   ·have:=j k hm;omega
theorem GL(t:Int):∀(l:List Ev)(i:Nat)(x a:Cm),eS H i x l= .ok a->0<=x.tick->x.tick<=1073741824->∃m,l.filter (fun e=>decide (e.tick<=t))=l.take m:=by
 intro l;induction l with
 |nil=>
  intro i x a _ _ _;exact⟨0,rfl⟩
 |cons e r ih=>
  intro i x a h k h1;rw[eS]at h;cases ha:dh H x e with
  |error o=>rw[ha]at h;cases h
  |ok z=>
   rw[ha]at h;obtain⟨d,p⟩:=pK ha;have y:=(uz ha).2;have B:=p.tick;by_cases q:e.tick<=t
   ·obtain⟨m,hm⟩:=ih (i+1) z a h om om;exact⟨m+1,by rw[OK (by simpa using q),hm];rfl⟩
   ·obtain⟨_,_,b⟩:=qb r (i+1) z a h om om;refine⟨0,?_⟩;rw[Ji,Pl];intro g j;rw[hJ];rcases cc.1 j with rfl|hm
    ·exact q
    ·have:=b g hm;omega
theorem OI{l:List Ev}{i:Nat}{x a:Cm}{t:Int}{m:Nat}(h:eS H i x l= .ok a)(j:0<=x.tick)(h1:x.tick<=1073741824)(hm:m<=l.length)(hl:∀e∈l.take m,e.tick<=t)(k:∀h:m<l.length,t<l[m].tick):
  l.filter (fun e=>decide (e.tick<=t))=l.take m:=by
 have o:(l.take m).filter (fun e=>decide (e.tick<=t))=l.take m:=MV.2 fun e he=>by simpa using hl e he
 have q:(l.drop m).filter (fun e=>decide (e.tick<=t))=[]:=by
  rw[Pl];intro e he;rw[hJ];by_cases g:m<l.length
  ·obtain⟨y,hy,hz⟩:=yT (l.take m) (l.drop m) i x a (by rw[hN];exact h);obtain⟨g0,g1,_⟩:=qb _ _ _ _ hy j h1;rw[cz g]at hz he;have r:=k g;rw[eS]at hz;cases ha:dh H y l[m]with
   |error C=>rw[ha]at hz;cases hz
   |ok z=>
    rw[ha]at hz;have D:=(uz ha).2;obtain⟨d,p⟩:=pK ha;have E:=p.tick;obtain⟨_,_,B⟩:=qb _ _ _ _ hz om om;rcases cc.1 he with rfl|b
    ·omega
    ·have:=B e b;omega
  ·rw[cd om]at he;cases he
 have:=F3 (p:=fun e:Ev=>decide (e.tick<=t)) (l.take m) (l.drop m);rw[hN,o,q,uf]at this;exact this
theorem aaA{l:List Ev}{a:Cm}{t:Int}(h:eS H 0 Cm.zero l= .ok a)(b:0<=t)(h1:t<=1073741824):∃d,VD H l t= .ok d:=by
 obtain⟨m,hm⟩:=GL t l 0 Cm.zero a h (Jm _) dc;obtain⟨y,hy,_⟩:=yT (l.take m) (l.drop m) 0 Cm.zero a (by rw[hN];exact h);exact⟨y,by unfold VD;rw[aq om,hm];exact hy⟩
theorem VU{l:List Ev}{a d:Cm}{t:Int}{m:Nat}(h:eS H 0 Cm.zero l= .ok a)(i:0<=t)(h1:t<=1073741824)(b:VD H l t= .ok d)(hm:m<=l.length)(hl:∀e∈l.take m,e.tick<=t)(g:∀h:m<l.length,t<l[m].tick):eS H 0 Cm.zero (l.take m)= .ok d:=by
 rw[<-OI h (Jm _) dc hm hl g];unfold VD at b;rwa [aq om]at b
end
section
variable {w w':World} {A:Option Addr} {n c m:Nat} {ys:List Em}
theorem uA.take(h:uA w A n ys)(hm:m<=n):uA w A m (ys.take m):=
 ⟨by rw[Aa];exact h.s.take m,by have:=h.l;rw[ew];omega,fun y hy=>h.f y (iF hy),fun y hy=>h.o y (iF hy),fun y hy=>h.w y (iF hy),by have:=h.m;omega⟩
theorem uA.drop(h:uA w A n ys)(a:n<=c):uA w (cD A m c 6) (n - m) (ys.drop m):=
 ⟨by rw[Tw];exact h.s.Qt (by have:=h.l;rw[ec];omega),by have:=h.l;rw[rT];omega,fun y hy=>h.f y (pV hy),fun y hy=>h.o y (pV hy),fun y hy=>h.w y (pV hy),by have:=h.m;omega⟩
end

section
theorem iA.Xz{w:World}{B B':Nat}{A:Option Addr}{n c:Nat}{ys:List Em}(h:iA w B A n c ys)(hb:B'<=B):iA w B' A n c ys:=⟨h.s.base hb,fun y hy=>(h.f y hy).base hb,h.o⟩
variable {H:oG} {w0:World}
theorem EB(fO:fM H)(hg:bj w0){I:Option Addr}{B J:Nat}{zs:List Em}(hn:B<=40){b m z:Ca}{O P Q:List Rm}{D C:Cm}(R:dz D)(S:dz C):
  ∀(d j:Nat)(k:Ca)(xs:List Rm)(x:Cm)(w:World),B - j=d->j<=B->Below w0.heap.size w0 w->iA w w0.heap.size I B J zs->dP w w0.heap.size b O D->dP w w0.heap.size m P C->dP w w0.heap.size z Q C->dP w w0.heap.size k xs x->dz x->(∃i,eS H i x (gk (zs.drop j))= .ok D)->
   F.az.Xm 0 0 I B J B j b.p.A b.p.n b.p.c b.h.A b.h.n b.h.c b.r.A b.r.n b.r.c b.s.A b.s.n b.s.c b.w.A b.w.n b.w.c D.bQ b.c.A b.c.n b.c.c b.v.A b.v.n b.v.c b.a.A b.a.n b.a.c b.l.A b.l.n b.l.c b.g.A b.g.n b.g.c b.q.A b.q.n b.q.c D.last D.tick k.p.A k.p.n k.p.c k.h.A k.h.n k.h.c k.r.A k.r.n k.r.c k.s.A k.s.n k.s.c k.w.A k.w.n k.w.c x.bQ k.c.A k.c.n k.c.c k.v.A k.v.n k.v.c k.a.A k.a.n k.a.c k.l.A k.l.n k.l.c k.g.A k.g.n k.g.c k.q.A k.q.n k.q.c x.last x.tick m.p.A m.p.n m.p.c m.h.A m.h.n m.h.c m.r.A m.r.n m.r.c m.s.A m.s.n m.s.c m.w.A m.w.n m.w.c C.bQ m.c.A m.c.n m.c.c m.v.A m.v.n m.v.c m.a.A m.a.n m.a.c m.l.A m.l.n m.l.c m.g.A m.g.n m.g.c m.q.A m.q.n m.q.c C.last C.tick z.p.A z.p.n z.p.c z.h.A z.h.n z.h.c z.r.A z.r.n z.r.c z.s.A z.s.n z.s.c z.w.A z.w.n z.w.c C.bQ z.c.A z.c.n z.c.c z.v.A z.v.n z.v.c z.a.A z.a.n z.a.c z.l.A z.l.n z.l.c z.g.A z.g.n z.g.c z.q.A z.q.n z.q.c C.last C.tick w0.heap.size w fun v _=>v= .bool true:=by
 intro d;induction d with
 |zero=>
  intro j k xs x w hd hj hw E T U V ho ok ⟨i,hx⟩;have hl:=E.s.rows;rw[cd om]at hx;have hx:(Except.ok x:Except (Nat×Int) Cm)= .ok D:=hx;cases hx;refine F.az.Xm.step ⟨fun q=>by omega,fun _=>⟨fun _=>⟨fun _=>pm (CB (U.uV S.sr) (V.uV S.sr) S) ?_,fun q=>absurd rfl q⟩,fun q=>absurd rfl q⟩⟩;rintro v w1 K rfl;refine⟨_,rfl,fun _=>pm (CB ((ho.below K).uV R.sr) ((T.below K).uV R.sr) R) ?_,fun q=>by cases q⟩;rintro v w2 Y rfl;exact⟨_,rfl,rfl⟩
 |succ d ih=>
  intro j k xs x w hd hj hw E T U V ho ok ⟨i,hx⟩;have hl:=E.s.rows;have N:j<zs.length:=om;obtain⟨hb,a,hA,G,_⟩:=E.s.sl.at_ (row:=Em.row) (fun _=>rfl) hl N;rw[cz N]at hx;simp only[gk,zQ,eS]at hx;refine F.az.Xm.step ⟨fun _=>⟨hb,a,hA,_,_,_,_,_,_,_,_,_,_,_,_,G,fun w1 x1=> ?_⟩,fun q=>by omega⟩;have K:=extAll x1;refine pm (xV (ho.below K) ok) ?_;rintro v w2 Y ⟨k1,nQ,rfl,o1⟩;have W:=kP K Y;refine⟨_,_,_,_,_,_,_,_,_,_,_,_,_,_,_,_,_,_,_,_,_,_,_,_,_,_,_,_,_,_,_,_,_,_,_,_,rfl,fun w3 Z=> ?_⟩;have X:=kP W (extAll Z);have rH:=hw.trans (X.mono hw.size);refine pm (mW fO (hg.next rH) ((o1.below (extAll Z)).uV ok.sr) ok (((E.below X).uV hn).f _ (bw N))) ?_;intro v w4 b4 hv;have L:=kP X b4;cases ha:dh H x zs[j].e with
  |error er=>rw[ha]at hx;cases hx
  |ok y=>
   rw[ha]at hx hv;obtain⟨k',Gv,rfl,zg⟩:=hv;refine⟨_,_,_,_,_,_,_,_,_,_,_,_,_,_,_,_,_,_,_,_,_,_,_,_,_,_,_,_,_,_,_,_,_,_,_,_,_,rfl,fun q=>absurd rfl q,fun _=>⟨ir,fun w5 x5=> ?_⟩⟩;rw[show(j:Int)+1=((j+1:Nat):Int) by omega];have M:=bG.ext x5;exact ih (j+1) k' Gv y w5 om om (kE (hw.trans (L.mono hw.size)) x5) ((E.below L).gh M) ((T.below L).gh M) ((U.below L).gh M) ((V.below L).gh M) ((zg.base rH.size).gh M) (pZ ok (E.o _ (bw N)).1 ha) ⟨_,hx⟩
theorem OJ(fO:fM H)(hg:bj w0){A:Option Addr}{n c m0:Nat}{ys:List Em}(es:uA w0 A n ys)(mv:n<=c)(h0:m0<=n){j b k:Ca}{W y X:List Rm}{z o B:Cm}(XA:dz z)(N:dz o)(XB:dz B)
  (Y:0<=o.tick) (YM:o.tick<=1073741824) (RO:eS H 0 Cm.zero (gk ys)= .ok z) (Tq:VD H (gk ys) o.tick= .ok B) (hc:∃i,eS H i o (gk (ys.drop m0))= .ok z):
  ∀(d m:Nat)(w:World),n - m=d->m<=n->Below w0.heap.size w0 w->dP w w0.heap.size j W z->dP w w0.heap.size b y o->dP w w0.heap.size k X B->(∀e∈gk (ys.take m),e.tick<=o.tick)->
   F.az.tB A n c m0 0 m j.p.A j.p.n j.p.c j.h.A j.h.n j.h.c j.r.A j.r.n j.r.c j.s.A j.s.n j.s.c j.w.A j.w.n j.w.c z.bQ j.c.A j.c.n j.c.c j.v.A j.v.n j.v.c j.a.A j.a.n j.a.c j.l.A j.l.n j.l.c j.g.A j.g.n j.g.c j.q.A j.q.n j.q.c z.last z.tick b.p.A b.p.n b.p.c b.h.A b.h.n b.h.c b.r.A b.r.n b.r.c b.s.A b.s.n b.s.c b.w.A b.w.n b.w.c o.bQ b.c.A b.c.n b.c.c b.v.A b.v.n b.v.c b.a.A b.a.n b.a.c b.l.A b.l.n b.l.c b.g.A b.g.n b.g.c b.q.A b.q.n b.q.c o.last o.tick k.p.A k.p.n k.p.c k.h.A k.h.n k.h.c k.r.A k.r.n k.r.c k.s.A k.s.n k.s.c k.w.A k.w.n k.w.c B.bQ k.c.A k.c.n k.c.c k.v.A k.v.n k.v.c k.a.A k.a.n k.a.c k.l.A k.l.n k.l.c k.g.A k.g.n k.g.c k.q.A k.q.n k.q.c B.last B.tick w0.heap.size w fun v _=>v= .bool true:=by
 have hl:=es.l;have aaB:=es.m
 -- behind Wm loop
 have fin:∀(m:Nat),m<=n->(∀e∈gk (ys.take m),e.tick<=o.tick)->(∀h:m<ys.length,o.tick<ys[m].e.tick)->eS H 0 Cm.zero (gk (ys.take m))= .ok B:=by
  intro m hm hle Z;have:=VU (m:=m) RO Y YM Tq (by rw[gk,ec];omega) (by rw[gk,<-Aa];exact hle) (fun h=>by
   have h':m<ys.length:=by simpa[gk]using h
   have:=Z h';simpa[gk]using this)
  rw[gk,Aa];exact this
 intro d;induction d with
 |zero=>
  intro m w hd hm hw T U V hle;refine F.az.tB.step ⟨fun q=>by omega,fun _=>⟨⟨om,om⟩,fun w1 x=> ?_⟩⟩;have hf:=fin m hm hle (fun h=>by omega);have C:=extAll x;have O:=kE hw x;refine pm (fD ((es.au O).take hm)) ?_;rintro v w2 P ⟨A2,c2,zs,rfl,ez,ee⟩;have D:=kP C P;have E:=kP O P;refine⟨_,_,_,rfl,pm (oV fO (hg.next E) (ez.uV om)) ?_⟩;rw[ee,ca,hf];rintro v w3 Q ⟨ke,xse,rfl,oe,_⟩;have G:=kP D Q;have rH:=kP E Q;refine⟨_,_,_,_,_,_,_,_,_,_,_,_,_,_,_,_,_,_,_,_,_,_,_,_,_,_,_,_,_,_,_,_,_,_,_,_,_,_,rfl,⟨om,om,mv⟩,fun w4 R=> ?_⟩;have S:=extAll R;have R4:=kP G S;have I:=kE rH R;refine pm (fD ((es.au I).drop (m:=m0) mv)) ?_;rintro v w5 J ⟨A5,c5,zs5,rfl,K,L⟩;have M:=kP R4 J;have sE:=kP I J;refine⟨_,_,_,rfl,?_⟩;exact EB fO hg om XA XB (n - m0) 0 b y o w5 rfl om sE (K.Xz I.size) (T.below M) (V.below M) (((oe.below S).below J).base E.size) (U.below M) N (by rw[FI,L];exact hc)
 |succ d ih=>
  intro m w hd hm hw T U V hle;have OM:m<ys.length:=om;obtain⟨hb,a,hA,hcell,DE⟩:=((es.au hw).s).at_ (row:=Em.row) (fun _=>rfl) hl OM;refine F.az.tB.step ⟨fun _=>⟨hb,a,hA,_,DE 1 _ rfl,fun q=>⟨ir,fun w1 x=> ?_⟩,fun q=>⟨⟨om,om⟩,fun w1 x=> ?_⟩⟩,fun q=>by omega⟩
  ·rw[show(m:Int)+1=((m+1:Nat):Int) by omega];have C:=extAll x;refine ih (m+1) w1 om om (kE hw x) (T.below C) (U.below C) (V.below C) fun e he=> ?_
   rw[Pp OM,gk,eH]at he;rcases fi.1 he with h1|h1
   ·exact hle e h1
   ·rw[eb.1 h1];exact q
  ·have hf:=fin m hm hle (fun _=>by omega);have C:=extAll x;have O:=kE hw x;refine pm (fD ((es.au O).take hm)) ?_;rintro v w2 P ⟨A2,c2,zs,rfl,ez,ee⟩;have D:=kP C P;have E:=kP O P;refine⟨_,_,_,rfl,pm (oV fO (hg.next E) (ez.uV om)) ?_⟩;rw[ee,ca,hf];rintro v w3 Q ⟨ke,xse,rfl,oe,_⟩;have G:=kP D Q;have rH:=kP E Q;refine⟨_,_,_,_,_,_,_,_,_,_,_,_,_,_,_,_,_,_,_,_,_,_,_,_,_,_,_,_,_,_,_,_,_,_,_,_,_,_,rfl,⟨om,om,mv⟩,fun w4 R=> ?_⟩;have S:=extAll R;have R4:=kP G S;have I:=kE rH R;refine pm (fD ((es.au I).drop (m:=m0) mv)) ?_;rintro v w5 J ⟨A5,c5,zs5,rfl,K,L⟩;have M:=kP R4 J;have sE:=kP I J;refine⟨_,_,_,rfl,?_⟩;exact EB fO hg om XA XB (n - m0) 0 b y o w5 rfl om sE (K.Xz I.size) (T.below M) (V.below M) (((oe.below S).below J).base E.size) (U.below M) N (by rw[FI,L];exact hc)
end
theorem Jg{w:World}{A:Option Addr}{n c:Nat}{ys:List Em}{z:Int}(hg:bj w)(h:vX w A n ys)(hz:0<=z/\z<256)(mv:n<=c):Pure Tryz.prog 5 #[.slice A n c,.int .u8 z] w fun v _=>v= .bool true:=by
 refine F.az.vc (pm (zO hg) ?_);rintro v w3 b3 rfl;refine⟨_,rfl,fun q=>(by cases q),fun _=>pm (MC (h.au b3)) ?_⟩;rintro v w6 b6 rfl;have vf:=kP b3 b6;refine⟨_,rfl,fun _=>rfl,fun hf=> ?_⟩;have es:=h.YI (by simpa using hf);have o:=es.m;have hl:=es.l;refine pm (fD (es.au vf)) ?_;rintro v w9 b9 ⟨A7,c7,zs7,rfl,I,J⟩;have a:=kP vf b9;refine⟨_,_,_,rfl,pm (oV wV (hg.next a) (I.uV o)) ?_⟩;rw[J];cases G:eS aeq 0 Cm.zero (gk ys)with
 |error er=>
  obtain⟨i,er⟩:=er;intro v CP La K;have K:v=_:=K;subst K;exact⟨_,_,_,_,_,_,_,_,_,_,_,_,_,_,_,_,_,_,_,_,_,_,_,_,_,_,_,_,_,_,_,_,_,_,_,_,_,_,rfl,fun _ zB _=>rfl,fun q=>absurd (dT.1 q) (OH G)⟩
 |ok xa=>
  rintro v CP La ⟨ka,xsa,rfl,oa,XA⟩;have xS:=kP a La;have Wq:0<=z % ((n:Int)+1):=Int.emod_nonneg _ om;have hq1:z % ((n:Int)+1)<(n:Int)+1:=Int.emod_lt_of_pos _ om;obtain⟨m0,Yu⟩:=IX Wq;have L:m0<=n:=om;refine⟨_,_,_,_,_,_,_,_,_,_,_,_,_,_,_,_,_,_,_,_,_,_,_,_,_,_,_,_,_,_,_,_,_,_,_,_,_,_,rfl,fun q=>absurd rfl q,fun _=>⟨ir,ir,⟨om,om⟩,?_⟩⟩;rw[Yu];refine⟨⟨om,om⟩,fun DJ ZH=> ?_⟩;have Ux:=extAll ZH;have Iu:=kE xS ZH;refine pm (fD ((es.au Iu).take L)) ?_;rintro v SP Te ⟨A30,c30,aqk,rfl,M,N⟩;have O:=kP Iu Te;have P:=kP Ux Te;obtain⟨xc,r,Q⟩:=yT (gk (ys.take m0)) (gk (ys.drop m0)) 0 Cm.zero xa (by rw[gk,gk,<-eH,hN];exact G);refine⟨_,_,_,rfl,pm (oV wV (hg.next O) (M.uV om)) ?_⟩;rw[N,ca,r];rintro v Vi x ⟨kc,xsc,rfl,oc,R⟩;have Vl:=kP O x;have S:=kP P x;refine⟨_,_,_,_,_,_,_,_,_,_,_,_,_,_,_,_,_,_,_,_,_,_,_,_,_,_,_,_,_,_,_,_,_,_,_,_,_,_,rfl,fun q=>absurd rfl q,fun _=>⟨fun q=>absurd rfl q,fun _ w53 y=> ?_⟩⟩;have B:=extAll y;have C:=kE Vl y;have T:=kP S B;refine pm (fD (es.au C)) ?_;rintro v w56 b ⟨A54,c54,aql,rfl,U,V⟩;have Ov:=kP C b;have W:=kP T b;refine⟨_,_,_,rfl,fun w57 D=> ?_⟩;have d:=extAll D;have g:=kE Ov D;have X:=kP W d;obtain⟨g0,g1,g2⟩:=qb _ _ _ _ r (Jm _) dc;have g0:0<=xc.tick:=g0;obtain⟨xd,Tq⟩:=aaA G g0 g1;refine pm (MD wV (hg.next g) ((U.below d).uV o) xc.tick) ?_;rw[V,Tq];rintro v Tf j ⟨ko,xso,rfl,oo,XB⟩;have NF:=kP g j;refine⟨_,_,_,_,_,_,_,_,_,_,_,_,_,_,_,_,_,_,_,_,_,_,_,_,_,_,_,_,_,_,_,_,_,_,_,_,_,rfl,fun Y E=> ?_⟩;have Z:=kE NF E;have k:=bG.ext E;have ajG:=(((oa.below X).below j).base a.size).gh k;have ajH:=(((((oc.below B).below b).below d).below j).base O.size).gh k;exact OJ wV hg es mv L XA R XB g0 g1 G Tq ⟨_,Q⟩ (n - m0) m0 Y rfl L Z ajG ajH ((oo.base g.size).gh k) fun e he=>(g2 e he).2
end Go.Proofs.YtbcojgcjjpggnaaGreatDoor.B
