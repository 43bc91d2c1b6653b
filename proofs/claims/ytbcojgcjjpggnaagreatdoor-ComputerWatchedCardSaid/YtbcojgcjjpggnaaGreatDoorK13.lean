/- Part 13 of the proofs that: What is stowed keeps the problem; lamps change by samples and by seeing alone. -/
import Derived.Test.YtbcojgcjjpggnaaGreatDoorK12
import Derived.Test.YtbcojgcjjpggnaaGreatDoorCards
import Derived.Test.YtbcojgcjjpggnaaGreatDoorTie
import Derived.WalkKit
import Derived.ProofKit
import Derived.OpenShut
import Derived.Carry
import Derived.Deep.DeepHandedRow
import Derived.Deep.DeepWitnessRowRef
import Derived.Deep.Slices
import Derived.Deep.Fields
import Derived.Lib.SmallJoins
import Derived.Lib.LaidIn
import Derived.Lib.LaidTab
import Derived.Stop.LaidErr
import Derived.Shelf.Vars
import Derived.Laws.IdiomArrays
import Derived.Test.YtbcojgcjjpggnaaGreatDoorRows
import Derived.KernelRfl
import GoSem.ClaimGoes
set_option linter.unusedVariables false
set_option linter.unusedSimpArgs false
namespace Go.Proofs.YtbcojgcjjpggnaaGreatDoor.B
open Go Go.RowKit Go.Proofs Go.Proofs.YtbcojgcjjpggnaaGreatDoor.Vc

structure Cw where
 k:Ca
 xs:List Rm
 x:Cm
abbrev Cw.row(y:Cw):List Value:=y.k.cells y.x
theorem CI:El Tryz.prog 25 49 14 288:=El.of kF
theorem CJ:(Tryz.prog.info? 49).bind (·.zero)=some (Ca.zero.val Cm.zero):=kF
structure oK (w:World) (B:Nat) (A:Option Addr) (n c:Nat) (ys:List Cw):Prop where
 s:aF w B 49 A n c 14 (ys.map Cw.row)
 f:∀y∈ys,dW w B y.k y.xs y.x
 o:∀y∈ys,dI y.x
theorem dW.MM{w w':World}{B:Nat}{k:Ca}{xs:List Rm}{x:Cm}(h:dW w B k xs x)(s:bH 32 w w'):dW w' B k xs x:=by
 obtain⟨p1,p2,p3,d,g,p6,j,l,m,a,b,o⟩:=h.Ln s;exact⟨p1 dc,p2 dc,p3 dc,d dc,h.e,g dc,p6 dc,h.nw,h.cw,j dc,l dc,m dc,a dc,b dc,o dc⟩
theorem vy.jq{w w':World}{B:Nat}{a:Ea}{e:Ev}(h:vy w B a e)(s:bH 49 w w'):vy w' B a e:=⟨h.n.bW s dc,h.r.bW s dc,h.t.bW s dc⟩
section
variable {w w':World} {B n c:Nat} {A:Option Addr} {ys:List Cw} {zs:List Em}
theorem oK.below(h:oK w B A n c ys)(hb:Below w.heap.size w w'):oK w' B A n c ys:=⟨h.s.below hb,fun y hy=>(h.f y hy).below hb,h.o⟩
theorem oK.MM(h:oK w B A n c ys)(s:bH 32 w w'):oK w' B A n c ys:=⟨h.s.bW s dc,fun y hy=>(h.f y hy).MM s,h.o⟩
theorem iY.jq(h:iY w B A n c zs)(s:bH 49 w w'):iY w' B A n c zs:=⟨h.s.bW s dc,fun y hy=>(h.f y hy).jq s,h.o⟩
theorem iY.fresh(h:iY w B A n c zs){w1:World}{p:Nat}{cs b:List Value}(hb:Below w.heap.size w w1)(hp:w.heap.size<=p)(h1:w1.heap[p]? =some (.cells cs.toArray 32 (0,0)))(hw:aC w1 w' p 32 b):iY w' B A n c zs:=
 ⟨(h.s.below hb).other fun a ha=>hw.rest _ (by have:=(h.s.uP a ha).2;omega),fun y hy=>((h.f y hy).below hb).bW (bH.wrote hw h1),h.o⟩
theorem oK.fresh(h:oK w B A n c ys){w1:World}{p:Nat}{cs b:List Value}(hb:Below w.heap.size w w1)(hp:w.heap.size<=p)(h1:w1.heap[p]? =some (.cells cs.toArray 49 (0,0)))(hw:aC w1 w' p 49 b):oK w' B A n c ys:=
 ⟨(h.s.below hb).other fun a ha=>hw.rest _ (by have:=(h.s.uP a ha).2;omega),fun y hy=>((h.f y hy).below hb).jq (bH.wrote hw h1),h.o⟩
end
def xc(H:pS)(jY:List Cm)(es:List Ev):Prop:=jY.length=es.length+1/\jY[0]? =some Cm.zero/\∀i x y e,jY[i]? =some x->jY[i+1]? =some y->es[i]? =some e->db H x e= .ok y
theorem xc.snoc{H:pS}{jY:List Cm}{es:List Ev}{x y:Cm}{e:Ev}(h:xc H jY es)(hl:jY[es.length]? =some x)(ha:db H x e= .ok y):xc H (jY++[y]) (es++[e]):=by
 obtain⟨h1,a,b⟩:=h;refine⟨by simp[h1],by rw[gv om];exact a,fun i d g j g1 g2 g3=> ?_⟩;have hi:i<(es++[e]).length:=(eh.1 g3).1;rw[en,wM]at hi;by_cases q:i<es.length
 ·rw[gv om]at g1;rw[gv om]at g2;rw[gv q]at g3;exact b i d g j g1 g2 g3
 ·have:i=es.length:=om;subst this;rw[gv om,hl]at g1;rw[hN om,h1,IS]at g2;rw[hN om,IS]at g3;cases g1;cases g2;cases g3;exact ha
abbrev GI(A5 rI:Option Addr):Prop:=∀a b,A5=some a->rI=some b->a.block≠b.block
section
variable {w0 W:World} {A4 A5 rI:Option Addr} {n4 c4 n5 c5 n ye i:Nat} {jY:List Cw} {oV zs:List Em} {z:Em} {y:Cw} {L:Option Addr->Nat->Nat->Option Addr->Nat->Nat->World->Prop}
theorem GJ(st:oK W w0.heap.size A4 n4 c4 jY)(hy:dW W w0.heap.size y.k y.xs y.x)(ok:dI y.x){A2:Option Addr}{c2 lo:Nat}(o:aF W lo 49 A2 1 c2 14 [y.row])(hw:Below w0.heap.size w0 W)(hn:n4<=50){K:Option Addr->Nat->Nat->World->Prop}
  (d:∀A' c' a,Below w0.heap.size W a->oK a w0.heap.size A' (n4+1) c' (jY++[y])->bH 49 W a->K A' (n4+1) c' a):
  ae Tryz.prog (Builtin.append_ #[25,25] 25 #[.slice A4 n4 c4,.slice A2 1 c2]) w0.heap.size [] W fun r w1=>∃A n c,r= .slice A n c/\K A n c w1:=by
 refine xJ CI lf st.s o.sl (show([y.row]:List (List Value)).length=1 from rfl) (fun r b=>by rw[ec.1 b];rfl) (fun r b=>by
  rw[ec.1 b];intro u hu;simp only[Cw.row,Ca.cells,cy,fX,tu]at hu;rcases hu with rfl|rfl|rfl|rfl|rfl|rfl|rfl|rfl|rfl|rfl|rfl|rfl|rfl|rfl<;>rfl) (fun e=>o.pM e) hw.size om sm fun A' c' a g g2 h=> ?_
 have s:=bH.grown st.s g2;refine d A' c' a h ⟨by rw[eL];exact g,fun x hx=> ?_,fun x hx=> ?_⟩ s
 ·rcases ga.1 hx with hx|hx
  ·exact(st.f x hx).jq s
  ·rw[ec.1 hx];exact hy.jq s
 ·rcases ga.1 hx with hx|hx
  ·exact st.o x hx
  ·rw[ec.1 hx];exact ok
variable (nx:∀W Jc Jd Lu Pe,Below w0.heap.size w0 W->oK W w0.heap.size Jc (n4+1) Jd (jY++[y])->iY W w0.heap.size Lu (n5+1) Pe (oV++[z])->iY W w0.heap.size rI n ye zs->GI Lu rI->L Jc (n4+1) Jd Lu (n5+1) Pe W) (hi:i<1000) (RO:n5<=50) (RL:n4<=50) (hz:z∈zs)
include nx hi RO hz
theorem LZ{Jc:Option Addr}{Jd:Nat}(st:oK W w0.heap.size Jc (n4+1) Jd (jY++[y]))(ev:iY W w0.heap.size A5 n5 c5 oV)(d:iY W w0.heap.size rI n ye zs)(sep:GI A5 rI)(hw:Below w0.heap.size w0 W){A2:Option Addr}{c2 lo:Nat}(o:aF W lo 32 A2 1 c2 6 [z.row]):
  ae Tryz.prog (Builtin.append_ #[22,22] 22 #[.slice A5 n5 c5,.slice A2 1 c2]) w0.heap.size [] W fun r w1=>∃A n c,r= .slice A n c/\(aS .i64 ((i:Int)+1)/\L Jc (n4+1) Jd A n c w1):=by
 rcases o.sl with e|⟨b,off,cs,ty,fr,rfl,C,D⟩
 ·cases e
 refine Dw sX lf ev.s.1 (m:=1) (news:=z.row) rfl (fun j u hu=> ?_) (fun u hu=> ?_) hw.size om om sm fun A' c' h E g2 F loc=>⟨ir,?_⟩
 ·have hj:j<z.row.length:=(eh.1 hu).1;obtain⟨_,k⟩:=D 0 sm j (by simpa using hj);rw[bU] ;simp only[World.cell?,C];rw[RN,tT]at k;rw[k,<-hu];exact(af hj).symm
 ·simp only[Em.row,cy,fX,tu]at hu;rcases hu with rfl|rfl|rfl|rfl|rfl|rfl<;>rfl
 ·have s:=bH.grown ev.s g2;have on:aF h w0.heap.size 32 A' (n5+1) c' 6 ((oV++[z]).map Em.row):=⟨by rw[eL,ow];simpa using E,by simp[ev.s.rows],fun r G=>by obtain⟨x,_,rfl⟩:=gX.1 G;rfl⟩;refine nx h Jc Jd A' c' (hw.trans F) (st.MM s) ⟨on,fun x hx=> ?_,fun x hx=> ?_⟩ ⟨d.s.other fun a ha=>g2.block _ (d.s.uP a ha).2 fun q=> ?_,fun x hx=>(d.f x hx).bW s,d.o⟩ fun a b ha hb q=> ?_
  ·rcases ga.1 hx with hx|hx
   ·exact(ev.f x hx).bW s
   ·rw[ec.1 hx];exact(d.f z hz).bW s
  ·rcases ga.1 hx with hx|hx
   ·exact ev.o x hx
   ·rw[ec.1 hx];exact d.o z hz
  ·cases g:A5 with
   |none=>rw[g]at q;cases q
   |some a5=>
    rw[g]at q;have q:some a.block=some a5.block:=q;exact sep a5 a g ha (Gq q).symm
  ·subst ha;have H:=(d.s.uP b hb).2;have loc:(some a.block=Value.ownBlock (.slice A5 n5 c5))∨some a.block=some W.heap.size:=loc;rcases loc with l|l
   ·cases g:A5 with
    |none=>rw[g]at l;cases l
    |some a5=>
     rw[g]at l;have l:some a.block=some a5.block:=l;have:=Gq l;exact sep a5 b g hb (by rw[<-this];exact q)
   ·have:=Gq l;omega
theorem Su{Jc:Option Addr}{Jd:Nat}(st:oK W w0.heap.size Jc (n4+1) Jd (jY++[y]))(ev:iY W w0.heap.size A5 n5 c5 oV)(a:iY W w0.heap.size rI n ye zs)(sep:GI A5 rI)(hw:Below w0.heap.size w0 W):
  ae Tryz.prog (Instr.buildSlice 22 1 #[(0,z.val)]) W.heap.size [] W fun r w1=>∃A m c,r= .slice A m c/\
   ae Tryz.prog (Builtin.append_ #[22,22] 22 #[.slice A5 n5 c5,.slice A m c]) w0.heap.size [] w1 fun r w1=>∃A n c,r= .slice A n c/\(aS .i64 ((i:Int)+1)/\L Jc (n4+1) Jd A n c w1):=
 bc sX [z.val] (by simp[Value.cells]) sm lf fun A c d o b=>LZ nx hi RO hz (st.below b) (ev.below b) (a.below b) sep (kP hw b) (show aF d _ _ A 1 c 6 [z.row]from o)
include RL
theorem Sv(st:oK W w0.heap.size A4 n4 c4 jY)(ev:iY W w0.heap.size A5 n5 c5 oV)(e:iY W w0.heap.size rI n ye zs)(sep:GI A5 rI)(hw:Below w0.heap.size w0 W)(hy:dW W w0.heap.size y.k y.xs y.x)(ok:dI y.x){A2:Option Addr}{c2 lo:Nat}(o:aF W lo 49 A2 1 c2 14 [y.row]):
  (ae Tryz.prog (Builtin.append_ #[25,25] 25 #[.slice A4 n4 c4,.slice A2 1 c2]) w0.heap.size [] W fun r w1=>∃A' n' c',r= .slice A' n' c'/\
   ae Tryz.prog (Instr.buildSlice 22 1 #[(0,z.val)]) w1.heap.size [] w1 fun r w1=>∃A m c,r= .slice A m c/\
    ae Tryz.prog (Builtin.append_ #[22,22] 22 #[.slice A5 n5 c5,.slice A m c]) w0.heap.size [] w1 fun r w1=>∃A n c,r= .slice A n c/\(aS .i64 ((i:Int)+1)/\L A' n' c' A n c w1))/\
  ae Tryz.prog (Instr.buildSlice 22 1 #[(0,z.val)]) W.heap.size [] W fun r w1=>∃A m c,r= .slice A m c/\
   ae Tryz.prog (Builtin.append_ #[25,25] 25 #[.slice A4 n4 c4,.slice A2 1 c2]) w0.heap.size [] w1 fun r w1=>∃A' n' c',r= .slice A' n' c'/\
    ae Tryz.prog (Builtin.append_ #[22,22] 22 #[.slice A5 n5 c5,.slice A m c]) w0.heap.size [] w1 fun r w1=>∃A n c,r= .slice A n c/\(aS .i64 ((i:Int)+1)/\L A' n' c' A n c w1):=by
 constructor
 ·exact GJ st hy ok o hw RL fun A' c' g b d s2=>Su nx hi RO hz d (ev.jq s2) (e.jq s2) sep (hw.trans b)
 ·refine bc sX [z.val] (by simp[Value.cells]) sm lf fun A c w1 h a=> ?_
  exact GJ (st.below a) (hy.below a) ok (o.below a) (kP hw a) RL fun A' c' g b d s2=>LZ nx hi RO hz d ((ev.below a).jq s2) ((e.below a).jq s2) sep ((kP hw a).trans b) ((show aF w1 _ _ A 1 c 6 [z.row]from h).bW s2 dc)
end

section
variable {w0 W:World} {A4 A5 rI:Option Addr} {n4 c4 n5 c5 n ye i:Nat} {jY:List Cw} {oV zs:List Em} {z:Em} {y:Cw} {R:Value->World->Prop}
theorem aeL{C:Int}{O P:Nat}(st:oK W w0.heap.size A4 n4 c4 jY)(ev:iY W w0.heap.size A5 n5 c5 oV)(Q:iY W w0.heap.size rI n ye zs)(sep:GI A5 rI)(hw:Below w0.heap.size w0 W)(hi:i<1000)(D:n5<=50)(E:n4<=50)(hz:z∈zs)
  (he:W.heap[O]? =some (.cells z.row.toArray 32 (0,0))) (X:W.heap[P]? =some (.cells y.row.toArray 49 (0,0))) (Y:C=0->dW W w0.heap.size y.k y.xs y.x/\dI y.x)
  (e:C=0->∀W S T G U,Below w0.heap.size w0 W->oK W w0.heap.size S (n4+1) T (jY++[y])->iY W w0.heap.size G (n5+1) U (oV++[z])->iY W w0.heap.size rI n ye zs->GI G rI->F.au.L3 S (n4+1) T G (n5+1) U rI n ye n ((i:Int)+1) w0.heap.size W R)
  (Z:C≠0->F.au.L3 A4 n4 c4 A5 n5 c5 rI n ye n ((i:Int)+1) w0.heap.size W R):
  F.au.J6 A4 n4 c4 A5 n5 c5 ⟨O,0,none⟩ ⟨P,0,none⟩ C rI n ye n i w0.heap.size W R:=by
 refine F.au.J6.step ⟨fun q=> ?_,fun q=>⟨ir,Z q⟩⟩;obtain⟨hy,ok⟩:=Y q;have e:=e q;refine⟨_,_,_,_,_,_,_,_,_,_,_,_,_,_,_,_,_,_,_,_,_,_,_,_,_,_,_,_,_,_,_,_,_,_,_,_,eY X,fun H h=> ?_,fun j l=> ?_⟩
 ·have b:=extAll h;refine bc CI [y.k.val y.x] (by simp[Value.cells]) sm lf fun A1 c1 m o a=> ?_
  have o:aF m H.heap.size 49 A1 1 c1 14 [y.row]:=o;have g:=kP (kE hw h) a;have r:=(st.below b).below a;have c:=(ev.below b).below a;have d:=(Q.below b).below a;have w:=(hy.below b).below a;have A:=ag (ag he b) a;obtain⟨t1,t2⟩:=Sv (L:=fun A4 n4 c4 A5 n5 c5 W=>F.au.L3 A4 n4 c4 A5 n5 c5 rI n ye n ((i:Int)+1) w0.heap.size W R) e hi D E hz r c d sep g w ok o;exact⟨GJ r w ok o g E fun A' c' w2 I J s2=>⟨_,_,_,_,_,_,_,_,_,_,_,_,eY (s2 _ _ _ _ dc A),Su (L:=fun A4 n4 c4 A5 n5 c5 W=>F.au.L3 A4 n4 c4 A5 n5 c5 rI n ye n ((i:Int)+1) w0.heap.size W R) e hi D hz J (c.jq s2) (d.jq s2) sep (g.trans I)⟩,_,_,_,_,_,_,_,_,_,_,_,_,eY A,t1,t2⟩
 ·have b:=extAll l;have g:=kE hw l;have r:=st.below b;have c:=ev.below b;have d:=Q.below b;have w:=hy.below b;refine⟨_,_,_,_,_,_,_,_,_,_,_,_,eY (ag he b),?_,?_⟩
  ·refine bc CI [y.k.val y.x] (by simp[Value.cells]) sm lf fun A1 c1 m o a=> ?_
   have o:aF m j.heap.size 49 A1 1 c1 14 [y.row]:=o;exact Sv (L:=fun A4 n4 c4 A5 n5 c5 W=>F.au.L3 A4 n4 c4 A5 n5 c5 rI n ye n ((i:Int)+1) w0.heap.size W R) e hi D E hz (r.below a) (c.below a) (d.below a) sep (kP g a) (w.below a) ok o
  ·refine bc sX [z.val] (by simp[Value.cells]) sm lf fun A2 c2 w1 K B=> ?_
   have K:aF w1 j.heap.size 32 A2 1 c2 6 [z.row]:=K;have dM:=kP g B;refine bc CI [y.k.val y.x] (by simp[Value.cells]) sm lf fun A1 c1 m o a=> ?_
   have o:aF m w1.heap.size 49 A1 1 c1 14 [y.row]:=o;have V:=kP dM a;have M:=(c.below B).below a;have N:=(d.below B).below a;exact GJ ((r.below B).below a) ((w.below B).below a) ok o V E fun A' c' w2 I J s2=>LZ (L:=fun A4 n4 c4 A5 n5 c5 W=>F.au.L3 A4 n4 c4 A5 n5 c5 rI n ye n ((i:Int)+1) w0.heap.size W R) e hi D hz J (M.jq s2) (N.jq s2) sep (V.trans I) ((K.below a).bW s2 dc)
end
def Je(H:pS)(B:Nat)(v:Value)(w':World):Prop:=∃A1 n1 c1 A2 n2 c2 jY oV,v= .tuple #[.slice A1 n1 c1,.slice A2 n2 c2]/\oK w' B A1 n1 c1 jY/\iY w' B A2 n2 c2 oV/\xc H (jY.map Cw.x) (lJ oV)/\n2<=40
theorem wu{H:pS}{w:World}{A:Option Addr}{n c:Nat}{ys:List Em}(gW:gL H)(hg:bk w)(h:Ds w A n ys):Pure Tryz.prog 9 #[.slice A n c] w (Je H w.heap.size):=by
 have hm:=h.m;have hl:=h.l;have key:∀(rI:Option Addr)(ye:Nat)(zs:List Em),zs.length=n->∀(d i:Nat)(A4:Option Addr)(n4 c4:Nat)(jY:List Cw)(A5:Option Addr)(n5 c5:Nat)(oV:List Em)(w':World),n - i=d->i<=n->Below w.heap.size w w'->oK w' w.heap.size A4 n4 c4 jY->iY w' w.heap.size A5 n5 c5 oV->iY w' w.heap.size rI n ye zs->GI A5 rI->xc H (jY.map Cw.x) (lJ oV)->n5<=i->
   F.au.L3 A4 n4 c4 A5 n5 c5 rI n ye n i w.heap.size w' (Je H w.heap.size):=by
  intro rI ye zs hzl d;induction d with
  |zero=>
   intro i A4 n4 c4 jY A5 n5 c5 oV w' hd hi hw st ev zz sep ch h5;exact F.au.L3.step ⟨fun q=>by omega,fun _=>⟨_,_,_,_,_,_,jY,oV,rfl,st,ev,ch,om⟩⟩
  |succ d ih=>
   intro i A4 n4 c4 jY A5 n5 c5 oV w' hd hi hw st ev zz sep ch h5;have cn:i<zs.length:=om;have T:=bA cn;obtain⟨hb,a,hA,U,_⟩:=zz.s.sl.at_ (row:=Em.row) (fun _=>rfl) hzl cn;have tx:=st.s.rows;have hel:=ev.s.rows;have ZG:=ch.1;rw[eb,eb]at ZG;refine F.au.L3.step ⟨fun _=>⟨hb,a,hA,_,_,_,_,_,_,_,_,_,_,_,_,U,?_⟩,fun q=>by omega⟩;refine cK 32 CD hw.size fun ZZ h33 G l33=> ?_
   refine⟨_,_,hw.size,rfl,h33,by simp[Value.cells],rfl,fun P zM=>⟨ir,?_⟩⟩;have he:P.heap[w'.heap.size]? =some (.cells zs[i].row.toArray 32 (0,0)):=by
    have:=zM.at_;simpa[setCells,Value.cells]using this
   have V:ZZ.heap[w'.heap.size]? =some (.cells ([.int .i64 0,.int .i64 0,.int .i64 0,.slice none 0 0,.slice none 0 0,.slice none 0 0]:List Value).toArray 32 (0,0)):=h33;have WC:bH 32 w' P:=(bH.low G).trans (bH.wrote zM V);have I:=st.MM WC;have ev8:=ev.fresh G lf V zM;have X:=zz.fresh G lf V zM;have b38:Below w.heap.size w P:=(kP hw G).trans (aC.eD zM hw.size);have tz:pN P zs[i].a zs[i].e:=((X.AI hm).f _ T);have eok:=(zz.o _ T).1;have e4:(n4:Int) - 1=((n4 - 1:Nat):Int):=om;have ti:n4 - 1<jY.length:=om;rw[e4];obtain⟨hb4,a4,Uv,B8,_⟩:=I.s.sl.at_ (row:=Cw.row) (fun _=>rfl) tx ti;have hym:=bA ti;have Dx:=st.o _ hym;have oy:=I.f _ hym;have Vt:(jY.map Cw.x)[(lJ oV).length]? =some jY[n4 - 1].x:=by
    rw[hM,eb,show oV.length=n4 - 1 by omega,af ti];rfl
   have nn:∀{W:World},Below w.heap.size w W->oK W w.heap.size A4 n4 c4 jY->iY W w.heap.size A5 n5 c5 oV->iY W w.heap.size rI n ye zs->F.au.L3 A4 n4 c4 A5 n5 c5 rI n ye n ((i:Int)+1) w.heap.size W (Je H w.heap.size):=fun Y s1 s2 s3=>by
    rw[show(i:Int)+1=((i+1:Nat):Int) by omega];exact ih (i+1) A4 n4 c4 jY A5 n5 c5 oV _ om om Y s1 s2 s3 sep ch om
   have nx:∀{yy:Cw},db H jY[n4 - 1].x zs[i].e= .ok yy.x->∀W Jc Jd Lu Pe,Below w.heap.size w W->oK W w.heap.size Jc (n4+1) Jd (jY++[yy])->iY W w.heap.size Lu (n5+1) Pe (oV++[zs[i]])->iY W w.heap.size rI n ye zs->GI Lu rI->F.au.L3 Jc (n4+1) Jd Lu (n5+1) Pe rI n ye n ((i:Int)+1) w.heap.size W (Je H w.heap.size):=fun ha W Jc Jd Lu Pe Y s1 s2 s3 aji=>by
    rw[show(i:Int)+1=((i+1:Nat):Int) by omega];refine ih (i+1) Jc (n4+1) Jd _ Lu (n5+1) Pe _ W om om Y s1 s2 s3 aji ?_ om;unfold lJ;rw[eL,eL];exact ch.snoc Vt ha
   -- YB end of each order, once YB state ajj in its variable
   have fin:∀{W W':World} {pc:Nat} {B:List Value} {k:Ca} {x:Cm} {xs:List Rm} {er:Int},Below w.heap.size w W->oK W w.heap.size A4 n4 c4 jY->iY W w.heap.size A5 n5 c5 oV->iY W w.heap.size rI n ye zs->W.heap[w'.heap.size]? =some (.cells zs[i].row.toArray 32 (0,0))->
     P.heap.size<=pc->W.heap[pc]? =some (.cells B.toArray 49 (0,0))->aC W W' pc 49 (setCells B 0 (k.cells x))->B.length=14->oK W' w.heap.size A4 n4 c4 jY->(er=0->dW W w.heap.size k xs x/\db H jY[n4 - 1].x zs[i].e= .ok x)->
     F.au.J6 A4 n4 c4 A5 n5 c5 ⟨w'.heap.size,0,none⟩ ⟨pc,0,none⟩ er rI n ye n i w.heap.size W' (Je H w.heap.size):=by
    intro W W' pc B k x xs er Y s1 s2 s3 hee hpc hc0 Z ajk cO hr;have sC:=bH.wrote Z hc0;have rH:w'.heap.size<P.heap.size:=(ax.1 he).1;have hwW:Below w.heap.size w W':=Y.trans (aC.eD Z (by have:=hw.size;omega));have TD:W'.heap[pc]? =some (.cells (k.cells x).toArray 49 (0,0)):=by
     have:=Z.at_
     match B,ajk with
     |[_,_,_,_,_,_,_,_,_,_,_,_,_,_],_=>exact this
    refine aeL (y:=⟨k,xs,x⟩) (z:=zs[i]) cO (s2.jq sC) (s3.jq sC) sep hwW om om om T (sC _ _ _ _ dc hee) TD (fun q=> ?_) (fun q=>nx (hr q).2) (fun _=>nn hwW cO (s2.jq sC) (s3.jq sC));exact⟨(hr q).1.jq sC,uH Dx eok (hr q).2⟩
   have apply:=fun {W:World} {k:Ca} {xs:List Rm} (Y:Below w.heap.size w W) (tz:pN W zs[i].a zs[i].e) (ho:dW W W.heap.size k xs jY[n4 - 1].x∨∃b,dW W b k xs jY[n4 - 1].x)=>pP gW (hg.next Y) ((ho.elim (fun h=>h.AI Dx.sr) fun⟨_,h⟩=>h.AI Dx.sr)) Dx tz
   refine⟨hb4,a4,Uv,_,_,_,_,_,_,_,_,_,_,_,_,_,_,_,_,_,_,_,_,_,_,_,_,_,_,_,_,_,_,_,_,_,_,_,_,B8,_,_,_,_,_,_,_,_,_,_,_,_,eY he,fun w60 x60=> ?_,fun aeI aeR=> ?_⟩
   ·have h60:=extAll x60;have Sf:=kE b38 x60;refine pm (I9 (oy.below h60) Dx) ?_;rintro v w76 b76 ⟨k1,oO,rfl,o1⟩;have Q:=kP Sf b76;have J:Below P.heap.size P w76:=kP h60 b76;have S:=I.below J;have K:=ev8.below J;have L:=X.below J;have M:=ag he J;refine⟨_,_,_,_,_,_,_,_,_,_,_,_,_,_,_,_,_,_,_,_,_,_,_,_,_,_,_,_,_,_,_,_,_,_,_,_,rfl,?_,?_⟩
    ·refine pm (apply Q (tz.av J) (.inr ⟨_,o1⟩)) ?_;intro v w93 r j;have Wh:=kP Q r;have aeS:=(kP J r).size;cases ha:db H jY[n4 - 1].x zs[i].e with
     |error er=>
      rw[ha]at j;have j:v=_:=j;subst j;refine⟨_,_,_,_,_,_,_,_,_,_,_,_,_,_,_,_,_,_,_,_,_,_,_,_,_,_,_,_,_,_,_,_,_,_,_,_,_,rfl,cK 49 CJ lf fun w94 C g l94=>⟨_,_,Wh.size,rfl,C,by simp[Value.cells],rfl,fun w99 rG=> ?_⟩⟩;refine fin (xs:=[]) (kP Wh g) ((S.below r).below g) ((K.below r).below g) ((L.below r).below g) (ag (ag M r) g) aeS C rG rfl ((S.below r).fresh g lf C rG) fun q=>absurd q (vg ha)
     |ok yy=>
      rw[ha]at j;obtain⟨k',I0,rfl,Am⟩:=j;refine⟨_,_,_,_,_,_,_,_,_,_,_,_,_,_,_,_,_,_,_,_,_,_,_,_,_,_,_,_,_,_,_,_,_,_,_,_,_,rfl,cK 49 CJ lf fun w94 C g l94=>⟨_,_,Wh.size,rfl,C,by simp[Value.cells],rfl,fun w99 rG=> ?_⟩⟩;refine fin (xs:=I0) (kP Wh g) ((S.below r).below g) ((K.below r).below g) ((L.below r).below g) (ag (ag M r) g) aeS C rG rfl ((S.below r).fresh g lf C rG) fun _=>⟨(Am.below g).base Q.size,ha⟩
    ·refine cK 49 CJ lf fun w94 C g l94=> ?_
     refine pm (apply (kP Q g) ((tz.av J).av g) (.inr ⟨_,o1.below g⟩)) ?_;intro v VA aaL j;have zE:=kP (kP Q g) aaL;have OJ:=ag C aaL;have D:=kP g aaL;cases ha:db H jY[n4 - 1].x zs[i].e with
     |error er=>
      rw[ha]at j;have j:v=_:=j;subst j;refine⟨_,_,_,_,_,_,_,_,_,_,_,_,_,_,_,_,_,_,_,_,_,_,_,_,_,_,_,_,_,_,_,_,_,_,_,_,_,rfl,_,_,Q.size,rfl,OJ,by simp[Value.cells],rfl,fun ajn Jf=> ?_⟩;refine fin (xs:=[]) zE (S.below D) (K.below D) (L.below D) (ag M D) J.size OJ Jf rfl (S.fresh D lf OJ Jf) fun q=>absurd q (vg ha)
     |ok yy=>
      rw[ha]at j;obtain⟨k',I0,rfl,Am⟩:=j;refine⟨_,_,_,_,_,_,_,_,_,_,_,_,_,_,_,_,_,_,_,_,_,_,_,_,_,_,_,_,_,_,_,_,_,_,_,_,_,rfl,_,_,Q.size,rfl,OJ,by simp[Value.cells],rfl,fun ajn Jf=> ?_⟩;refine fin (xs:=I0) zE (S.below D) (K.below D) (L.below D) (ag M D) J.size OJ Jf rfl (S.fresh D lf OJ Jf) fun _=>⟨Am.base (kP Q g).size,ha⟩
   ·have N:=extAll aeR;have Jb:=kE b38 aeR;refine cK 49 CJ lf fun w94 C g l94=> ?_
    have ajo:=kP Jb g;refine pm (I9 ((oy.below N).below g) Dx) ?_;rintro v aeK Sr ⟨k1,oO,rfl,o1⟩;have Sz:=kP ajo Sr;refine⟨_,_,_,_,_,_,_,_,_,_,_,_,_,_,_,_,_,_,_,_,_,_,_,_,_,_,_,_,_,_,_,_,_,_,_,_,rfl,?_⟩;refine pm (apply Sz (((tz.av N).av g).av Sr) (.inr ⟨_,o1⟩)) ?_;intro v ap1 aaM j;have XG:=kP Sz aaM;have OK:=ag (ag C Sr) aaM;have O:=I.below N;have ev3:=ev8.below N;have zz3:=X.below N;have E:=kP (kP g Sr) aaM;cases ha:db H jY[n4 - 1].x zs[i].e with
    |error er=>
     rw[ha]at j;have j:v=_:=j;subst j;refine⟨_,_,_,_,_,_,_,_,_,_,_,_,_,_,_,_,_,_,_,_,_,_,_,_,_,_,_,_,_,_,_,_,_,_,_,_,_,rfl,_,_,Jb.size,rfl,OK,by simp[Value.cells],rfl,fun ajp Jg=> ?_⟩;refine fin (xs:=[]) XG (O.below E) (ev3.below E) (zz3.below E) (ag (ag he N) E) N.size OK Jg rfl (O.fresh E lf OK Jg) fun q=>absurd q (vg ha)
    |ok yy=>
     rw[ha]at j;obtain⟨k',I0,rfl,Am⟩:=j;refine⟨_,_,_,_,_,_,_,_,_,_,_,_,_,_,_,_,_,_,_,_,_,_,_,_,_,_,_,_,_,_,_,_,_,_,_,_,_,rfl,_,_,Jb.size,rfl,OK,by simp[Value.cells],rfl,fun ajp Jg=> ?_⟩;refine fin (xs:=I0) XG (O.below E) (ev3.below E) (zz3.below E) (ag (ag he N) E) N.size OK Jg rfl (O.fresh E lf OK Jg) fun _=>⟨Am.base Sz.size,ha⟩
 refine F.au.vc (pm (CE w) ?_);rintro v xe F6 rfl;have ya:=F6;refine⟨_,_,_,_,_,_,_,_,_,_,_,_,_,_,_,_,_,_,_,_,_,_,_,_,_,_,_,_,_,_,_,_,_,_,_,_,rfl,?_⟩;refine bc CI [Ca.zero.val Cm.zero] (by simp[Value.cells]) sm ya.size fun A17 c17 AD o17 Jz=> ?_
 have oD:=kP ya Jz;refine bc sX [] sm sm oD.size fun A20 c20 tG o20 RA=> ?_
 have kv:=kP oD RA;refine pm (CC (h.av kv)) ?_;rintro v UD Ju ⟨A23,c23,zs,rfl,ez,ee⟩;have rA:=kP kv Ju;refine⟨_,_,_,rfl,?_⟩;have aeT:aF tG AD.heap.size 32 A20 0 c20 6 []:=o20;have sep:GI A20 A23:=fun a b ha hb q=>by
  have h1:=(aeT.uP a ha).2;have h2:=(ez.s.uP b hb).1;omega
 refine key A23 c23 zs ez.s.rows n 0 A17 1 c17 [⟨Ca.zero,[],Cm.zero⟩] A20 0 c20 [] UD rfl om rA ⟨?_,?_,?_⟩ ⟨(aeT.below Ju).base oD.size,nofun,nofun⟩ ⟨ez.s.base kv.size,fun y hy=>(ez.f y hy).base kv.size,ez.o⟩ sep ⟨rfl,rfl,nofun⟩ om
 ·exact((show aF AD xe.heap.size 49 A17 1 c17 14 [Ca.zero.cells Cm.zero]from o17).below RA).below Ju|>.base ya.size
 ·intro y hy;rw[ec.1 hy];exact dW.zero _ _
 ·intro y hy;rw[ec.1 hy];exact dI.zero

section
variable {v W:World} {B p q:Nat} {x y:Cw}
theorem lH(hw:Below v.heap.size v W){K:Addr->World->Prop}(h:∀b,Below v.heap.size v b->b.heap[W.heap.size]? =some (.cells (Ca.zero.cells Cm.zero).toArray 49 (0,0))->Below W.heap.size W b->W.heap.size<b.heap.size->K ⟨W.heap.size,0,none⟩ b):
  ae Tryz.prog (Instr.alloc 49 true (.tuple #[])) W.heap.size [] W fun r w1=>∃a,r= .pointer (some a)/\K a w1:=
 cK 49 CJ lf fun d e c g=>h d (kP hw c) e c g
theorem wx(hB:B<=v.heap.size)(hw:Below v.heap.size v W)(hp:v.heap.size<=p)(c:W.heap[p]? =some (.cells (Ca.zero.cells Cm.zero).toArray 49 (0,0))){K:World->Prop}
  (h:∀a,Below v.heap.size v a->a.heap[p]? =some (.cells x.row.toArray 49 (0,0))->(∀q o,q≠p->W.heap[q]? =some o->a.heap[q]? =some o)->K a):
  ∃(cs:List Value)(t:Nat),B<=(⟨p,0,none⟩:Addr).block/\(⟨p,0,none⟩:Addr).spot=none/\W.heap[(⟨p,0,none⟩:Addr).block]? =some (.cells cs.toArray t (0,0))/\(⟨p,0,none⟩:Addr).off+14<=cs.length/\hasType t []=false/\
   ∀w1,aC W w1 (⟨p,0,none⟩:Addr).block t (setCells cs (⟨p,0,none⟩:Addr).off x.row)->K w1:=
 ⟨_,_,dT hB hp,rfl,c,sm,rfl,fun w1 b=>h w1 (hw.trans (aC.eD b hp)) b.at_ fun q o d ho=>(b.rest q d).trans ho⟩
theorem oL(hB:B<=v.heap.size)(hw:Below v.heap.size v W)(hp:v.heap.size<=p)(d:v.heap.size<=q)(a:p≠q)(e:W.heap[p]? =some (.cells (Ca.zero.cells Cm.zero).toArray 49 (0,0)))(h1:W.heap[q]? =some (.cells (Ca.zero.cells Cm.zero).toArray 49 (0,0))){K:World->Prop}
  (h:∀b,Below v.heap.size v b->b.heap[p]? =some (.cells x.row.toArray 49 (0,0))->b.heap[q]? =some (.cells y.row.toArray 49 (0,0))->K b):
  ∃(cs:List Value)(t:Nat),B<=(⟨p,0,none⟩:Addr).block/\(⟨p,0,none⟩:Addr).spot=none/\W.heap[(⟨p,0,none⟩:Addr).block]? =some (.cells cs.toArray t (0,0))/\(⟨p,0,none⟩:Addr).off+14<=cs.length/\hasType t []=false/\
   ∀w1,aC W w1 (⟨p,0,none⟩:Addr).block t (setCells cs (⟨p,0,none⟩:Addr).off x.row)->
    ∃(cs:List Value)(t:Nat),B<=(⟨q,0,none⟩:Addr).block/\(⟨q,0,none⟩:Addr).spot=none/\w1.heap[(⟨q,0,none⟩:Addr).block]? =some (.cells cs.toArray t (0,0))/\(⟨q,0,none⟩:Addr).off+14<=cs.length/\hasType t []=false/\
     ∀c,aC w1 c (⟨q,0,none⟩:Addr).block t (setCells cs (⟨q,0,none⟩:Addr).off y.row)->K c:=
 wx hB hw hp e fun m g1 g i=>wx hB g1 d (i q _ a.symm h1) fun j g2 k l=>h j g2 (l p _ a g) k
end

section
variable {H:pS} {w0 v W:World} {A3 SA:Option Addr} {n3 c3 n21 c21 i p6 pa pb:Nat} {x y:Cw} {z:Em} {jY:List Cw} {oV:List Em}
theorem OL(hg:bk v)(a:dW v w0.heap.size x.k x.xs x.x)(j:dI x.x)(b:dW v w0.heap.size y.k y.xs y.x)(g:dI y.x)(Q:db H x.x z.e= .ok y.x)(d:Below v.heap.size v W)
  (ha:W.heap[pa]? =some (.cells x.row.toArray 49 (0,0))) (hb:W.heap[pb]? =some (.cells y.row.toArray 49 (0,0))) (he:W.heap[p6]? =some (.cells z.row.toArray 32 (0,0))) (hi:i<1000)
  (nx:∀W',Below v.heap.size v W'->F.an.L7 A3 n3 c3 SA n21 c21 n21 ((i:Int)+1) w0.heap.size W' fun v _=>v= .bool true):
  F.an.qd A3 n3 c3 ⟨p6,0,none⟩ ⟨pa,0,none⟩ ⟨pb,0,none⟩ SA n21 c21 n21 i w0.heap.size W fun v _=>v= .bool true:=by
 have a:=a.below d;have b:=b.below d;obtain⟨ml,mt⟩:=I7 Q;have lp:=g.lp;have lh:=g.lh;have lr:=g.lr;have ls:=g.ls;have lpx:=j.lp;have lhx:=j.lh;have lsx:=j.ls;have lwx:=j.lw;have ns:=b.s.rows;have m:=a.s.rows;have nw:=b.nw;have J:=a.nw;have iy:=b.AI g.sr;have ix:=a.AI j.sr;have XH:aS .i64 ((i:Int)+1):=ir;refine F.an.qd.step ⟨_,_,_,_,_,_,_,_,_,bj hb 0 3,_,_,_,bj hb 3 1,fun ap3 R=> ?_⟩;have o:=extAll R;have S:=kP d o;refine pm (RZ ((iy.av o).pr g.sp g.sh om om om) (c0:=y.k.p.c) (c1:=y.k.h.c) b.p.pM b.h.pM) ?_;rintro v ap4 K ⟨B0,d0,B1,d1,B2,d2,zs,rfl,hp,T,_⟩;have XI:=kP o K;refine⟨_,_,_,_,_,_,_,_,_,rfl,pm (F5 ((b.below XI).s.sl) ns om) ?_⟩;rintro v ap6 B ⟨As,cs,rfl,os⟩;have U:=kP XI B;refine⟨_,_,_,rfl,pm (sO (hg.next (kP (kP S K) B)) (hp.av B) os.sl ns os.ic om) ?_⟩;rw[T,iy.e,g.av];rintro v ajt Wi rfl;have C:=kP U Wi;have V:=d.trans (C.mono d.size);have D:=ag ha C;have L:=ag hb C;have X:=ag he C;refine⟨_,rfl,fun q=>(by cases q),fun _=>⟨_,bj hb 12 1,_,bj he 0 1,fun q=>absurd ml q,fun _=>⟨_,bj hb 13 1,_,bj he 1 1,fun q=>absurd mt q,fun _=>⟨_,bj X 2 1,fun I=> ?_,fun I=> ?_⟩⟩⟩⟩
 ·have es:y.x.cE=x.x.cE:=I5 Q I;refine⟨_,_,_,bj D 3 1,_,_,_,bj L 3 1,pm (LX ((a.below C).s.sl) ((b.below C).s.sl) m ns om) ?_⟩;rw[fi es.symm];rintro v ap8 Y rfl;exact⟨_,rfl,fun q=>(by cases q),fun _=>⟨XH,nx _ (kP V Y)⟩⟩
 ·have I:=ek.1 I;obtain⟨_,t,r,M,N,Z⟩:=LK Q I;have hl:x.k.w.n=r.length+1:=by rw[<-J,M,eR]
  have cw:=a.cw.1;refine⟨_,_,_,bj D 4 1,fun q=>by omega,fun _=>⟨_,_,_,bj D 4 1,⟨om,om,om⟩,_,_,_,bj L 4 1,fun ajw ajx=> ?_⟩⟩;have E:=kP C (extAll ajx);have zw:Gt ajw 57 (cC x.k.w.A 1 x.k.w.c 3) 3 (r.map Sw.row):=(a.below E).pl.YN (by rw[M];rfl) (by rw[eb];omega);have Vo:y.x.dQ.length=r.length:=by rw[N]
  refine pm (aaG (l:=r) (n:=x.k.w.n - 1) zw.sl ((b.below E).pl.sl) om nw om) ?_;rw[fi N.symm];rintro v ap9 ajy rfl;have SC:=kP E ajy;have G:=ag ha SC;obtain⟨q1,a1,q2,c1,_⟩:=((a.below SC).pl.sl).at_ (row:=Sw.row) (fun _=>rfl) J (i:=0) (by rw[M];simp);have e0:x.x.dQ[0]'(by rw[M];simp)=t:=by simp[M]
  rw[e0]at c1;refine⟨_,rfl,fun q=>(by cases q),fun _=>⟨_,_,_,_,_,_,bj G 0 2,_,_,_,bj G 3 1,_,_,_,bj G 4 1,q1,a1,q2,_,_,_,c1,fun aqa ajA=> ?_⟩⟩;have O:=kP SC (extAll ajA);refine pm (QN ((ix.av O).cg j.sp j.sh om om) (c0:=x.k.p.c) (c1:=x.k.h.c) a.p.pM a.h.pM) ?_;rintro v aqb ajB ⟨C0,e0',C1,e1',rfl,hcg⟩;have XJ:=kP O ajB;refine⟨_,_,_,_,_,_,rfl,pm (F5 ((a.below XJ).s.sl) m om) ?_⟩;rintro v ajC Wj ⟨Ax,cx,rfl,P⟩;have XK:=kP XJ Wj;refine⟨_,_,_,rfl,pm (fG (hg.next (d.trans (XK.mono d.size))) (hcg.av Wj) P.sl m P.ic om t) ?_⟩;rw[Z];rintro v aqd ajD ⟨A29,n29,c29,rfl,Vn⟩;have SD:=kP XK ajD;refine⟨_,_,_,_,rfl,fun q=>absurd rfl q,fun _=>⟨_,_,_,bj (ag hb SD) 3 1,pm (LX Vn.sl ((b.below SD).s.sl) Vn.rows ns (by have I:y.x.cE.length=n29:=Vn.rows;omega)) ?_⟩⟩;rw[fi rfl];rintro v aqe ajE rfl;exact⟨_,rfl,fun q=>(by cases q),fun _=>⟨XH,nx _ (d.trans ((kP SD ajE).mono d.size))⟩⟩

theorem SE{w1:World}(hg:bk w1)(n:w0.heap.size<=w1.heap.size)(st:oK w1 w0.heap.size A3 n3 c3 jY)(ev:iY w1 w0.heap.size SA n21 c21 oV)(ch:xc H (jY.map Cw.x) (lJ oV))(hn:n21<=40):
  ∀(d i:Nat)(w:World),n21 - i=d->i<=n21->Below w1.heap.size w1 w->F.an.L7 A3 n3 c3 SA n21 c21 n21 i w0.heap.size w fun v _=>v= .bool true:=by
 have V:=st.s.rows;have C:=ev.s.rows;have X:=ch.1;rw[eb,eb]at X;intro d;induction d with
 |zero=>
  intro i w Y hi hw;exact F.an.L7.step ⟨fun q=>by omega,fun _=>rfl⟩
 |succ d ih=>
  intro i w Y hi hw;have Q:i<oV.length:=om;have B:i<jY.length:=om;have r:i+1<jY.length:=om;have Z:db H jY[i].x oV[i].e= .ok jY[i+1].x:=ch.2.2 i _ _ _ (by rw[hM,af B];rfl) (by rw[hM,af r];rfl) (by rw[hM,af Q];rfl);obtain⟨hb,a,hA,hc,_⟩:=((ev.below hw).s.sl).at_ (row:=Em.row) (fun _=>rfl) C Q;refine F.an.L7.step ⟨fun _=>⟨hb,a,hA,_,_,_,_,_,_,_,_,_,_,_,_,hc,?_⟩,fun q=>by omega⟩;have sz:=hw.size;refine cK 32 CD lf fun Kv Dn GR l18=>⟨_,_,dT n sz,rfl,Dn,by simp[Value.cells],rfl,fun v R=> ?_⟩
  have he:v.heap[w.heap.size]? =some (.cells oV[i].row.toArray 32 (0,0)):=R.at_;have l:Below w1.heap.size w1 v:=kP hw (GR.trans (aC.eD R lf));have hB:w0.heap.size<=v.heap.size:=dT n l.size;have ld:=fun(W:World) (m:Below v.heap.size v W) (j:Nat) (hj:j<jY.length)=>(((st.below l).below m).s.sl).at_ (row:=Cw.row) (fun _=>rfl) V hj
  obtain⟨SN,a0,D,E,_⟩:=ld v (Below.refl _ _) i B;refine⟨SN,a0,D,_,_,_,_,_,_,_,_,_,_,_,_,_,_,_,_,_,_,_,_,_,_,_,_,_,_,_,_,_,_,_,_,_,_,_,_,E,ir,?_⟩;rw[show(i:Int)+1=((i+1:Nat):Int) by omega];obtain⟨G,S,T,_⟩:=ld v (Below.refl _ _) (i+1) r;have l1:∀W,Below v.heap.size v W->aa W (S.add ((((i+1:Nat):Int)).toNat*14)) jY[i+1].row:=fun W m=>by
   obtain⟨_,a2,U,UW,_⟩:=ld W m (i+1) r;rw[T]at U;cases U;exact UW
  have ho:=fun(j:Nat) (hj:j<jY.length)=>(st.f _ (bA hj)).below l
  have J:∀(pa pb:Nat)(W:World),Below v.heap.size v W->W.heap[pa]? =some (.cells jY[i].row.toArray 49 (0,0))->W.heap[pb]? =some (.cells jY[i+1].row.toArray 49 (0,0))->
    F.an.qd A3 n3 c3 ⟨w.heap.size,0,none⟩ ⟨pa,0,none⟩ ⟨pb,0,none⟩ SA n21 c21 n21 i w0.heap.size W fun v _=>v= .bool true:=fun pa pb W m ha vE=>
   OL (hg.next l) (ho i B) (st.o _ (bA B)) (ho (i+1) r) (st.o _ (bA r)) Z m ha vE (ag he m) om fun W' Tt=>by
    rw[show(i:Int)+1=((i+1:Nat):Int) by omega];exact ih (i+1) W' om om (l.trans (Tt.mono l.size))
  refine⟨G,S,T,fun UB Tl=> ?_,fun w79 I=> ?_,fun ajF K=> ?_⟩
  ·have k:=extAll Tl;have s0:=k.size;refine⟨_,_,_,_,_,_,_,_,_,_,_,_,_,_,_,_,_,_,_,_,_,_,_,_,_,_,_,_,_,_,_,_,_,_,_,_,l1 _ k,?_,?_⟩
   ·exact lH k fun L g1 z1 M m1=>lH g1 fun A g2 z2 g m2=>oL hB g2 s0 om om (ag z1 g) z2 fun h g3 b c=>J _ _ h g3 b c
   ·exact lH k fun L g1 z1 M m1=>lH g1 fun A g2 z2 g m2=>oL hB g2 om s0 om z2 (ag z1 g) fun h g3 b c=>J _ _ h g3 b c
  ·have k:=extAll I;have s0:=k.size;refine lH k fun L g1 z1 M m1=>⟨⟨_,_,_,_,_,_,_,_,_,_,_,_,_,_,_,_,_,_,_,_,_,_,_,_,_,_,_,_,_,_,_,_,_,_,_,_,l1 _ g1,?_⟩,?_⟩
   ·exact lH g1 fun A g2 z2 g m2=>oL hB g2 s0 om om (ag z1 g) z2 fun h g3 b c=>J _ _ h g3 b c
   ·refine lH g1 fun A g2 z2 g m2=>⟨⟨_,_,_,_,_,_,_,_,_,_,_,_,_,_,_,_,_,_,_,_,_,_,_,_,_,_,_,_,_,_,_,_,_,_,_,_,l1 _ g2,?_⟩,?_⟩
    ·exact oL hB g2 s0 om om (ag z1 g) z2 fun h g3 b c=>J _ _ h g3 b c
    ·exact wx hB g2 s0 (ag z1 g) fun h g3 b N=>⟨_,_,_,_,_,_,_,_,_,_,_,_,_,_,_,_,_,_,_,_,_,_,_,_,_,_,_,_,_,_,_,_,_,_,_,_,l1 _ g3,wx hB g3 om (N _ _ om z2) fun O g4 c P=>J _ _ O g4 (P _ _ om b) c⟩
  ·have k:=extAll K;have s0:=k.size;refine lH k fun L g1 z1 M m1=>⟨⟨_,_,_,_,_,_,_,_,_,_,_,_,_,_,_,_,_,_,_,_,_,_,_,_,_,_,_,_,_,_,_,_,_,_,_,_,l1 _ g1,?_⟩,?_⟩
   ·exact lH g1 fun A g2 z2 g m2=>oL hB g2 om s0 om z2 (ag z1 g) fun h g3 b c=>J _ _ h g3 b c
   ·refine lH g1 fun A g2 z2 g m2=>⟨⟨_,_,_,_,_,_,_,_,_,_,_,_,_,_,_,_,_,_,_,_,_,_,_,_,_,_,_,_,_,_,_,_,_,_,_,_,l1 _ g2,?_⟩,?_⟩
    ·exact oL hB g2 om s0 om z2 (ag z1 g) fun h g3 b c=>J _ _ h g3 b c
    ·exact wx hB g2 om z2 fun h g3 b N=>⟨_,_,_,_,_,_,_,_,_,_,_,_,_,_,_,_,_,_,_,_,_,_,_,_,_,_,_,_,_,_,_,_,_,_,_,_,l1 _ g3,wx hB g3 s0 (N _ _ om (ag z1 g)) fun O g4 c P=>J _ _ O g4 (P _ _ om b) c⟩
end
theorem Jh{w:World}{A:Option Addr}{n c:Nat}{ys:List Em}(hg:bk w)(h:yb w A n ys):Pure Tryz.prog 3 #[.slice A n c] w fun v _=>v= .bool true:=by
 refine F.an.vc (pm (zH hg) ?_);rintro v k b rfl;refine⟨_,rfl,fun q=>(by cases q),fun _=>pm (MJ (h.av b)) ?_⟩;rintro v l e rfl;have a:=kP b e;refine⟨_,rfl,fun _=>rfl,fun hf=> ?_⟩;have es:=(h.av a).Za (by simpa using hf);refine pm (wu LW (hg.next a) es) ?_;rintro v g j ⟨A1,n1,c1,A2,n2,c2,jY,oV,rfl,st,ev,ch,hn⟩;have d:=kP a j;refine⟨_,_,_,_,_,_,rfl,?_⟩;exact SE (w0:=w) (hg.next d) d.size ⟨st.s.base a.size,fun y hy=>(st.f y hy).base a.size,st.o⟩ ⟨ev.s.base a.size,fun y hy=>(ev.f y hy).base a.size,ev.o⟩ ch hn n2 0 g rfl om (Below.refl _ _)
set_option maxRecDepth 100000
open Go Go.RowKit Go.Proofs Go.Proofs.YtbcojgcjjpggnaaGreatDoor.Vc Go.ChangeShapes Go.WideShapes Go.Deep

theorem own:ownKnob Tryz.prog.godebug=none:=kF
theorem laidOut:laidOutB Tryz.prog=true:=kF

section
variable {H:Type} {enc:TypeId×Value->H} {P:Program}

theorem wy(hl:laidOutB P=true){W f:World}(hb:Below W.heap.size W f):∀{ts:List TypeId} {vs:List Value} {g:List (DataW H)} {ps:List MemPlace},
  (∀t∈ts,P.readableRec t=true/\t<P.types.size)->DataW.TrodAll enc P W 0 (fun _=>true) true ts vs g ps->(∀x∈ps,x.block<W.heap.size)->DataW.TrodAll enc P f 0 (fun b=>decide (b<W.heap.size)) true ts vs g ps
 |[],_,_,_,_,h,_=>by
  obtain⟨rfl,rfl,rfl⟩:=trodAll_nil h;exact trodAll_mk0
 |t::ts,_,_,_,e,h,c=>by
  obtain⟨v,i,d,j,a,b,rfl,rfl,rfl,h1,k⟩:=trodAll_cons h;exact trodAll_cons_mk (Below.trod hl (e t sm).1 (e t sm).2 h1 hb (fun x hx=>c x (by simp[hx])))
   (wy hl hb (fun u hu=>e u (by simp[hu])) k (fun x hx=>c x (by simp[hx])))

theorem Ji{f:Func}{a:FuncId}{s:ChangeSpec}{W:World}{args:Array Value}{c gs:List (DataW H)}{before:List MemPlace}(hl:laidOutB P=true)(d:DataW.Whole enc P f.params.toList s.vars false W args.toList c gs before)
  (j:s.vars=[]) {tb:TypeId} (n:f.resultTypes= #[tb]) (g:P.underlying tb=some .bool) (i:∀t∈f.params.toList,P.readableRec t=true/\t<P.types.size)
  (hs:s.fn H (c++gs)={results:=[.lit (.bool true)],args:=c}) (key:Pure P a args W fun y _=>y= .bool true):
  Calls P a args W fun e k=>∃v,e= .returned v/\s.post enc P f false true false false W args v k:=by
 refine Calls.mono key fun e k ⟨v,he,hb,hy⟩=>⟨v,he,?_⟩
 subst hy;have b:=d.lt;have l:=d;obtain⟨p,q,o,m,rfl,_,_⟩:=d;rw[j]at m;obtain⟨rfl,rfl⟩:=trodVars_none m;simp only[u1]at b l;refine⟨c,_,_,[],p,[],l,?_,?_,?_,hb.frame _,fun h=>by cases h⟩
 ·rw[hs,n];exact trodAll_cons_mk (shut_bool g _) trodAll_mk0
 ·rw[hs];exact wy hl hb i o b
 ·rw[hs,j];rfl

end

theorem GL{w:World}{a:Addr}{sz:Nat}(nC:0<sz){rows:List (List Value)}(hl:∀r∈rows,r.length=sz)(h:∀i,(hi:i<rows.length)->∀j,(hj:j<rows[i].length)->w.cell? (a.add (i*sz+j))=some (rows[i][j])):bR w (some a) sz rows:=by
 by_cases d:rows=[]
 ·exact .inl d
 right
 have hp:0<rows.length:=ve.2 d;have g:rows[0].length=sz:=hl _ (bA _);have c0:=h 0 hp 0 om;have e:a.spot=none:=by simpa[Addr.add]using World.cell?_spot c0
 obtain⟨b,off,spot⟩:=a;simp only at e;subst e;have f:∀k,(⟨b,off,none⟩:Addr).add k=⟨b,off+k,none⟩:=fun k=>bU b off k
 rw[f]at c0;cases c:w.heap[b]? with
 |none=>simp[World.cell?,c]at c0
 |some o=>
  cases o with
  |cells cs ty fr=>
   refine⟨b,off,cs,ty,fr,rfl,c,fun i hi j hj=>⟨hl _ (bA _),?_⟩⟩;have:=h i hi j hj;rw[f]at this;simpa[World.cell?,c,Ij]using this
  |_=>simp[World.cell?,c]at c0

theorem ae0:Tryz.prog.underlying 88=some .string:=kF
theorem ae1:Tryz.prog.underlying 3=some (.int .i64):=kF
theorem ae2:Tryz.prog.underlying 9=some .string:=kF

open Go Go.RowKit Go.Proofs

abbrev SF:=Rows.computerApprovedRow.laid
open Go Go.RowKit Go.Proofs Go.Proofs.YtbcojgcjjpggnaaGreatDoor.Vc Go.ChangeShapes Go.WideShapes Go.Deep Go.ChangeAt

noncomputable def jW(os:Os):World:=
 let N:=(World.settled Tryz.prog os).heap.size
 let w0:=World.holding Tryz.prog os ⟨#[.cells #[.string ⟨#[118,97,108,117,101,32,111,117,116,32,111,102,32,114,97,110,103,101]⟩] 396,.cells #[.string ⟨#[105,110,118,97,108,105,100,32,115,121,110,116,97,120]⟩] 396],#[],[]⟩
 let put (h:Array Obj) (g:Nat) (cs:Array Value):Array Obj:=h.modify g fun
  | .cells _ t frozen=> .cells cs t frozen
  |o=>o
 let a:=put (put w0.heap 5 #[.iface 394 (.pointer (some ⟨N,0,none⟩))]) 4 #[.iface 394 (.pointer (some ⟨N+1,0,none⟩))]
 let h1:=put a 2 #[.int .u8 0,.int .u8 1,.int .u8 28,.int .u8 2,.int .u8 29,.int .u8 14,.int .u8 24,.int .u8 3,.int .u8 30,.int .u8 22,.int .u8 20,.int .u8 15,.int .u8 25,.int .u8 17,.int .u8 4,.int .u8 8,.int .u8 31,.int .u8 27,.int .u8 13,.int .u8 23,.int .u8 21,.int .u8 19,.int .u8 16,.int .u8 7,.int .u8 26,.int .u8 12,.int .u8 18,.int .u8 6,.int .u8 11,.int .u8 5,.int .u8 10,.int .u8 9]
 let b:=put h1 3 #[.int .u8 0,.int .u8 1,.int .u8 56,.int .u8 2,.int .u8 57,.int .u8 49,.int .u8 28,.int .u8 3,.int .u8 61,.int .u8 58,.int .u8 42,.int .u8 50,.int .u8 38,.int .u8 29,.int .u8 17,.int .u8 4,.int .u8 62,.int .u8 47,.int .u8 59,.int .u8 36,.int .u8 45,.int .u8 43,.int .u8 51,.int .u8 22,.int .u8 53,.int .u8 39,.int .u8 33,.int .u8 30,.int .u8 24,.int .u8 18,.int .u8 12,.int .u8 5,.int .u8 63,.int .u8 55,.int .u8 48,.int .u8 27,.int .u8 60,.int .u8 41,.int .u8 37,.int .u8 16,.int .u8 46,.int .u8 35,.int .u8 44,.int .u8 21,.int .u8 52,.int .u8 32,.int .u8 23,.int .u8 11,.int .u8 54,.int .u8 26,.int .u8 40,.int .u8 15,.int .u8 34,.int .u8 20,.int .u8 31,.int .u8 10,.int .u8 25,.int .u8 14,.int .u8 19,.int .u8 9,.int .u8 13,.int .u8 8,.int .u8 7,.int .u8 6]
 let c:=put b 0 (Lib.pow10Tab.map fun z=>Value.int .u64 z).toArray
 {w0 with heap:=c}

noncomputable abbrev N0:Nat:=(World.settled Tryz.prog default).heap.size
theorem Jj(os:Os)(args:Array Value):laidMet Tryz.prog SF ((jW os).forCall (fun _ _=>0) ⟨#[],args,[]⟩).memory:=
 (LaidIn.of_run (l:=SF) [2,3,0,5,4,N0,N0+1] 8 kF kF kF kF).met

theorem CN(os:Os)(args:Array Value):((jW os).forCall (fun _ _=>0) ⟨#[],args,[]⟩).variablesRefB Tryz.prog=true:=kF
theorem CO (os : Os) (args : Array Value) : (((jW os).forCall (fun _ _ => 0) ⟨#[], args, []⟩).heap.toList.drop Tryz.prog.globals.size).take ((begin Tryz.prog (fun _ _ => 0) default).world.heap.size - Tryz.prog.globals.size) =
      (begin Tryz.prog (fun _ _ => 0) default).world.heap.toList.drop Tryz.prog.globals.size := kF

theorem MN {W : World} (a : laidMet Tryz.prog SF W) (b : W.ShapedOpen Tryz.prog) : bk W :=
  ⟨Lib.tabIs_of_head (zs := Lib.pow10Tab) (g := 0) (t := 303) (e := 230) (n := 20) Mh kF kF kF kF kF a.tail.tail,
   cell_of_shapedOpen_int (g := 1) (t := 3) (zero := #[.int .i64 0]) b (fk kF) kF rfl kF kF kF⟩

theorem XN{a b:Bool}(h:a=true)(k:b=true):(a&&b)=true:=by rw[h,k];rfl
theorem EA:laidOutB Tryz.pinned.checked.prog=true:=kF
theorem EB:mapsRowed Tryz.pinned.checked.prog=true:=kF

instance:Inhabited Pa:=⟨⟨0,0,0,⟨#[]⟩,⟨#[]⟩,⟨#[]⟩,⟨#[]⟩⟩⟩
instance:Inhabited Ho:=⟨⟨0,⟨#[]⟩,⟨#[]⟩,⟨#[]⟩,⟨#[]⟩,⟨#[]⟩,⟨#[]⟩⟩⟩
instance:Inhabited Sw:=⟨⟨0,0,0⟩⟩

section
variable {H:Type} {enc:TypeId×Value->H} {w:World} {base b0:Nat} {spare:Nat->Bool} {held:Bool}
theorem xd{α:Type}[Inhabited α]{row:α->List Value}{P:α->Prop}{sz:Nat}(nC:0<sz)(q:∀x,(row x).length=sz){t e:TypeId}(s:Tryz.prog.underlying t=some (.slice e))(hC:Tryz.prog.cellsOf e=sz)
  (hx:∀(n:Nat)(cs:List Value)(y:DataW H×List MemPlace),DataW.trod enc Tryz.prog w base spare held n e cs=some y->∃x:α,cs=row x/\P x)
  {v:Value} {fuel:Nat} {y:DataW H×List MemPlace} (h:DataW.trod enc Tryz.prog w base spare held fuel t [v]=some y):
  ∃(A:Option Addr)(n c:Nat)(l:List α),v= .slice A n c/\bR w A sz (l.map row)/\l.length=n/\n<9223372036854775808/\(A=none->c=0)/\n<=c/\∀x∈l,P x:=by
 rcases open_slice s h with⟨d,_⟩|⟨a,len,cap,m,n,D,I,d,hb,hl,hm,f,_,hi⟩
 ·cases d;exact⟨none,0,0,[],rfl,.inl rfl,rfl,om,fun _=>rfl,fs _,sm⟩
 ·cases d;rw[hC]at hi;obtain⟨g,hg⟩:=choose_lt (α:=α) (n:=len) (p:=fun i x=>P x/\∀j,(hj:j<(row x).length)->w.cell? (a.add (i*sz+j))=some ((row x)[j])) fun i u=>by
   have z:i<m:=by
    rw[f];split<;>omega
   obtain⟨J,B,o⟩:=hi i z;obtain⟨_,K,C⟩:=World.cells?_some B;obtain⟨x,rfl,E⟩:=hx _ _ _ o;refine⟨x,E,fun j hj=> ?_⟩;rw[<-Go.Deep.add_add,C j (by rw[q]at hj;omega),af hj]
  refine⟨some a,len,cap,(List.range len).map g,rfl,GL nC (fun r F=> ?_) (fun i b j hj=> ?_),sm,by unfold maxLen at hm;omega,fun k=>(by cases k),hl,fun x G=> ?_⟩
  ·obtain⟨x,_,rfl⟩:=gX.1 F;exact q x
  ·simp at b;simp only[List.getElem_map,List.getElem_range]at hj⊢;exact(hg i b).2 j hj
  ·obtain⟨i,b,rfl⟩:=gX.1 G;exact(hg i (CA.1 b)).1
theorem EC{α:Type}[Inhabited α]{row:α->List Value}{sz:Nat}(nC:0<sz)(a:∀x,(row x).length=sz){t e:TypeId}(b:Tryz.prog.underlying t=some (.slice e))(hC:Tryz.prog.cellsOf e=sz)
  (hx:∀(n:Nat)(cs:List Value)(y:DataW H×List MemPlace),DataW.trod enc Tryz.prog w base spare held n e cs=some y->∃x:α,cs=row x)
  {v:Value} {fuel:Nat} {y:DataW H×List MemPlace} (h:DataW.trod enc Tryz.prog w base spare held fuel t [v]=some y):
  ∃(A:Option Addr)(n c:Nat)(l:List α),v= .slice A n c/\bR w A sz (l.map row)/\l.length=n/\n<9223372036854775808/\(A=none->c=0):=by
 obtain⟨A,n,c,l,h1,d,f,g,i,_⟩:=xd (P:=fun _=>True) nC a b hC (fun n cs y h=>by obtain⟨x,e⟩:=hx n cs y h;exact⟨x,e,trivial⟩) h;exact⟨A,n,c,l,h1,d,f,g,i⟩

theorem MO:Tryz.prog.cellsOf 3=1:=kF
theorem ae3:Tryz.prog.cellsOf 9=1:=kF
theorem ae4:Tryz.prog.cellsOf 88=1:=kF
theorem aaS{n:Nat}{cs:List Value}{y:DataW H×List MemPlace}(h:DataW.trod enc Tryz.prog w base spare held n 88 cs=some y):∃x,cs=[.string x]:=by
 obtain⟨z,hz,_⟩:=DataW.trod_string ae0 h;exact⟨z,hz⟩
theorem aaT{n:Nat}{cs:List Value}{y:DataW H×List MemPlace}(h:DataW.trod enc Tryz.prog w base spare held n 9 cs=some y):∃x,cs=[.string x]:=by
 obtain⟨z,hz,_⟩:=DataW.trod_string ae2 h;exact⟨z,hz⟩
theorem SG{t e:TypeId}(a:Tryz.prog.underlying t=some (.slice e)){r:Reach}{v:Value}{d:DataW H}{p:List MemPlace}(b:Value.okWide Tryz.prog w r b0 t v)(h:DataW.Trod enc Tryz.prog w base spare held t v d p):∃fuel,DataW.trod enc Tryz.prog w base spare held fuel t [v]=some (d,p):=by
 obtain⟨a0,len,cap,rfl⟩:=okWide_slice a b;obtain⟨fuel,hf⟩:=h;exact⟨fuel,by simpa[Value.cells]using hf⟩
end

instance:Inhabited Em:=⟨⟨⟨0,0,0,[],[],[]⟩,⟨.nil,.nil,.nil⟩⟩⟩
section
variable {H:Type} {enc:TypeId×Value->H} {w:World} {base b0:Nat} {spare:Nat->Bool} {held:Bool}
theorem aaU:Tryz.prog.cellsOf 28=1:=kF
theorem ae5:Tryz.prog.cellsOf 29=1:=kF
theorem aaV:Tryz.prog.cellsOf 30=1:=kF
theorem XO:Tryz.prog.cellsOf 32=6:=kF
theorem AJ(n:Nat)(cs:List Value)(y:DataW H×List MemPlace)(h:DataW.trod enc Tryz.prog w base spare held n 3 cs=some y):∃x:Int,cs=fE x/\aS .i64 x:=by
 obtain⟨z,hz,_,hw⟩:=DataW.trod_int ae1 h;refine⟨z,hz,?_⟩;simp only[Lit.wf,cz,iv]at hw;simp only[aS];exact hw
theorem SH(n:Nat)(cs:List Value)(y:DataW H×List MemPlace)(h:DataW.trod enc Tryz.prog w base spare held n 32 cs=some y):∃x:Em,cs=x.row/\wm w x:=by
 obtain⟨ys,m,_,rfl,hl,hlen,hf⟩:=DataW.trod_struct Tryz.underlying32 h;rw[XO]at hl
 match cs,hl with
 |[v0,v1,v2,v3,v4,v5],_=>
  match ys,hlen with
  |[a,b,c,d,e,f],_=>
   obtain⟨z0,g,_⟩:=AJ m [v0] a (by simpa[MO]using hf 0 _ rfl);obtain⟨z1,i,_⟩:=AJ m [v1] b (by simpa[MO]using hf 1 _ rfl);obtain⟨z2,j,i2⟩:=AJ m [v2] c (by simpa[MO]using hf 2 _ rfl);obtain⟨A3,n3,c3,k,rfl,p1,p2,p3,l,_,o⟩:=xd (row:=fE) (P:=fun z=>aS .i64 z) dc (fun _=>rfl) Tryz.underlying28 MO AJ (v:=v3) (fuel:=m) (y:=d) (by simpa[aaU]using hf 3 _ rfl);obtain⟨A4,n4,c4,p,rfl,q1,q,r,s⟩:=EC (row:=gi) dc (fun _=>rfl) Tryz.underlying29 ae4 (fun n cs y h=>aaS h) (v:=v4) (fuel:=m) (y:=e) (by simpa[ae5]using hf 4 _ rfl);obtain⟨A5,n5,c5,t,rfl,u,A,B,C⟩:=EC (row:=gi) dc (fun _=>rfl) Tryz.underlying30 ae3 (fun n cs y h=>aaT h) (v:=v5) (fuel:=m) (y:=f) (by simpa[aaV]using hf 5 _ rfl);cases g;cases i;cases j;exact⟨⟨⟨z0,z1,z2,k,p,t⟩,⟨⟨A3,n3,c3⟩,⟨A4,n4,c4⟩,⟨A5,n5,c5⟩⟩⟩,rfl,⟨p1,q1,u,p2,q,A,p3,r,B,l,s,C,o,i2⟩⟩
theorem zJ{v:Value}{d:DataW H}{p:List MemPlace}(a:Value.okWide Tryz.prog w .any b0 22 v)(h:DataW.Trod enc Tryz.prog w base spare held 22 v d p):
  ∃(A:Option Addr)(n c:Nat)(ys:List Em),v= .slice A n c/\yb w A n ys:=by
 obtain⟨fuel,hf⟩:=SG Tryz.underlying22 a h;obtain⟨A,n,c,l,rfl,q1,b,e,_,_,f⟩:=xd (row:=Em.row) dc (fun _=>rfl) Tryz.underlying22 XO SH hf;exact⟨A,n,c,l,rfl,q1,b,e,f⟩
theorem trodAll_one{t0:TypeId}{args:Array Value}{b:List (DataW H)}{ps:List MemPlace}(h:DataW.TrodAll enc Tryz.prog w base spare held [t0] args.toList b ps):
  ∃v0 d0 a,args= #[v0]/\b=[d0]/\ps=a/\DataW.Trod enc Tryz.prog w base spare held t0 v0 d0 a:=by
 obtain⟨v0,_,d0,_,a,_,c,rfl,rfl,g0,d⟩:=trodAll_cons h;obtain⟨rfl,rfl,rfl⟩:=trodAll_nil d;exact⟨v0,d0,a,by cases args;simp_all,rfl,sm,g0⟩
end
open Go

theorem OM{P:Program}(h:P.funcs.any Func.goes=false)(f:FuncId):P.goes f=false:=by
 unfold Program.goes;rw[h,Bool.and_false,Bool.or_false,wJ];intro g _ hg;cases hf:P.funcs[g]? with
 |none=>rw[hf]at hg;cases hg
 |some fn=>
  rw[hf]at hg;have hg:fn.goes=true:=hg;have:=Array.any_eq_false.1 h;obtain⟨hl,he⟩:=ax.1 hf;exact this g hl (by rw[he];exact hg)
theorem ON{P:Program}(h:P.funcs.any Func.goes=false)(s:String):P.goesFrom s=false:=by
 unfold Program.goesFrom;cases P.funcNamed s with
 |none=>rfl
 |some f=>exact OM h f
theorem MP{P:Program}(h:P.funcs.any Func.goes=false){c:OpenClaim}(a:c.start= .entering):false=c.goesBy P:=by
 unfold OpenClaim.goesBy Program.goesAt;rw[ON h,a];rfl
theorem MQ:Tryz.pinned.checked.prog.funcs.any Func.goes=false:=kF

section
variable {H:pS} {w0 v W:World} {A3 SA:Option Addr} {n3 c3 n21 c21 i p6 pa pb:Nat} {x y:Cw} {z:Em} {jY:List Cw} {oV:List Em}
theorem OO(hg:bk v)(d:dW v w0.heap.size x.k x.xs x.x)(G:dI x.x)(c:dW v w0.heap.size y.k y.xs y.x)(r:dI y.x)(E:db H x.x z.e= .ok y.x)(b:Below v.heap.size v W)
  (ha:W.heap[pa]? =some (.cells x.row.toArray 49 (0,0))) (hb:W.heap[pb]? =some (.cells y.row.toArray 49 (0,0))) (he:W.heap[p6]? =some (.cells z.row.toArray 32 (0,0))) (hi:i<1000)
  (w:∀U,Below v.heap.size v U->F.aj.L7 A3 n3 c3 SA n21 c21 n21 ((i:Int)+1) w0.heap.size U fun v _=>v= .bool true):
  F.aj.qd A3 n3 c3 ⟨p6,0,none⟩ ⟨pa,0,none⟩ ⟨pb,0,none⟩ SA n21 c21 n21 i w0.heap.size W fun v _=>v= .bool true:=by
 have d:=d.below b;have c:=c.below b;have ll:=G.ll;have la:=G.la;have lv:=r.lv;have lc:=r.lc;have lly:=r.ll;have lay:=r.la;have nl:=d.l.rows;have g:=c.l.rows;have na:=d.a.rows;have nv:=c.v.rows;have A:aS .i64 ((i:Int)+1):=ir;refine F.aj.qd.step ⟨_,bj he 2 1,fun I=> ?_,fun I=>⟨fun J=> ?_,fun J=>⟨fun K=> ?_,fun K=> ?_⟩⟩⟩
 ·obtain⟨u,hu⟩:=LL E I;have hlen:y.k.l.n=x.k.l.n+1:=by rw[<-nl,<-g,hu,en];rfl
  have agO:=c.l.ic;refine⟨_,_,_,bj hb 9 1,_,_,_,bj ha 9 1,ir,fun q=>by omega,fun _=>⟨_,_,_,bj hb 9 1,_,_,_,bj ha 9 1,⟨om,om⟩,_,_,_,bj ha 9 1,fun aqk L=> ?_⟩⟩;have h:=extAll L;have hs:=(c.below h).l.sl.take x.k.l.n;rw[hu,eL,CL (by rw[eb];omega),cd (by rw[eb];omega)]at hs;refine pm (LY (l:=x.x.dj) (l1:=x.x.dj) hs ((d.below h).l.sl) (by rw[cc];exact nl) nl (by rw[cc];omega)) ?_;rw[fi rfl];rintro v aql M rfl;exact⟨_,rfl,fun q=>(by cases q),fun _=>⟨A,w _ (b.trans ((kP h M).mono b.size))⟩⟩
 ·obtain⟨wE,_⟩:=GF E J;refine⟨_,_,_,bj ha 8 1,_,_,_,bj ha 9 1,_,_,_,bj hb 7 1,_,bj he 1 1,fun ajt N=> ?_⟩;have V:=extAll N;refine pm (Mt ((d.below V).a.sl) na om) ?_;rintro v aqm O ⟨A1,c1,rfl,o1⟩;have X:=kP V O;refine⟨_,_,_,rfl,pm (AE ((d.below X).l.sl) nl om) ?_⟩;rintro v aqn B ⟨A2,c2,rfl,o2⟩;have Y:=kP X B;refine⟨_,_,_,rfl,pm (Mu ((c.below Y).v.sl) nv om) ?_⟩;rintro v aqo j ⟨A5,c5,rfl,o5⟩;have Z:=kP Y j;refine⟨_,_,_,rfl,pm (cN (t:=z.e.tick) (hg.next (b.trans (Z.mono b.size))) ((o1.below B).below j).sl na om G.sa (o2.below j).sl nl o5.sl nv om r.sv om) ?_⟩;rw[wE];rintro v aqp P ⟨A6,n6,c6,rfl,Q⟩;have R:=kP Z P;refine⟨_,_,_,_,rfl,fun q=>absurd rfl q,fun _=>⟨_,_,_,bj (ag hb R) 9 1,pm (LY Q.sl ((c.below R).l.sl) Q.rows g (by have h9:y.x.dj.length=n6:=Q.rows;omega)) ?_⟩⟩;rw[fi rfl];rintro v aqq S rfl;exact⟨_,rfl,fun q=>(by cases q),fun _=>⟨A,w _ (b.trans ((kP R S).mono b.size))⟩⟩
 ·obtain⟨OV,T⟩:=OB E K;refine⟨_,_,_,bj hb 9 1,pm (mU (c.l.sl) g om) ?_⟩;rintro v aqr C rfl;have m:=ag ha C;have D:=ag hb C;refine⟨_,rfl,fun h1=> ?_,fun h1=> ?_⟩
  ·refine⟨_,_,_,bj m 9 1,pm (mU ((d.below C).l.sl) nl om) ?_⟩;rw[T h1];rintro v aqs o rfl;exact⟨_,rfl,fun q=>(by cases q),fun _=>⟨_,_,_,bj (ag m o) 9 1,_,_,_,bj (ag D o) 9 1,fun q=>by omega,fun _=>⟨A,w _ (b.trans ((kP C o).mono b.size))⟩⟩⟩
  ·exact⟨_,_,_,bj m 9 1,_,_,_,bj D 9 1,fun q=>by omega,fun _=>⟨A,w _ (b.trans (C.mono b.size))⟩⟩
 ·have es:y.x.dj=x.x.dj:=I6 E I J K;refine⟨_,_,_,bj ha 9 1,_,_,_,bj hb 9 1,pm (LY (d.l.sl) (c.l.sl) nl g om) ?_⟩;rw[fi es.symm];rintro v ajC Wj rfl;exact⟨_,rfl,fun q=>(by cases q),fun _=>⟨A,w _ (b.trans (Wj.mono b.size))⟩⟩

theorem SL{w1:World}(hg:bk w1)(n:w0.heap.size<=w1.heap.size)(st:oK w1 w0.heap.size A3 n3 c3 jY)(ev:iY w1 w0.heap.size SA n21 c21 oV)(ch:xc H (jY.map Cw.x) (lJ oV))(hn:n21<=40):
  ∀(d i:Nat)(w:World),n21 - i=d->i<=n21->Below w1.heap.size w1 w->F.aj.L7 A3 n3 c3 SA n21 c21 n21 i w0.heap.size w fun v _=>v= .bool true:=by
 have V:=st.s.rows;have C:=ev.s.rows;have X:=ch.1;rw[eb,eb]at X;intro d;induction d with
 |zero=>
  intro i w Y hi hw;exact F.aj.L7.step ⟨fun q=>by omega,fun _=>rfl⟩
 |succ d ih=>
  intro i w Y hi hw;have Q:i<oV.length:=om;have B:i<jY.length:=om;have r:i+1<jY.length:=om;have Z:db H jY[i].x oV[i].e= .ok jY[i+1].x:=ch.2.2 i _ _ _ (by rw[hM,af B];rfl) (by rw[hM,af r];rfl) (by rw[hM,af Q];rfl);obtain⟨hb,a,hA,hc,_⟩:=((ev.below hw).s.sl).at_ (row:=Em.row) (fun _=>rfl) C Q;refine F.aj.L7.step ⟨fun _=>⟨hb,a,hA,_,_,_,_,_,_,_,_,_,_,_,_,hc,?_⟩,fun q=>by omega⟩;have sz:=hw.size;refine cK 32 CD lf fun Kv Dn GR l18=>⟨_,_,dT n sz,rfl,Dn,by simp[Value.cells],rfl,fun v R=> ?_⟩
  have he:v.heap[w.heap.size]? =some (.cells oV[i].row.toArray 32 (0,0)):=R.at_;have l:Below w1.heap.size w1 v:=kP hw (GR.trans (aC.eD R lf));have hB:w0.heap.size<=v.heap.size:=dT n l.size;have ld:=fun(W:World) (m:Below v.heap.size v W) (j:Nat) (hj:j<jY.length)=>(((st.below l).below m).s.sl).at_ (row:=Cw.row) (fun _=>rfl) V hj
  obtain⟨SN,a0,D,E,_⟩:=ld v (Below.refl _ _) i B;refine⟨SN,a0,D,_,_,_,_,_,_,_,_,_,_,_,_,_,_,_,_,_,_,_,_,_,_,_,_,_,_,_,_,_,_,_,_,_,_,_,_,E,ir,?_⟩;rw[show(i:Int)+1=((i+1:Nat):Int) by omega];obtain⟨G,S,T,_⟩:=ld v (Below.refl _ _) (i+1) r;have l1:∀W,Below v.heap.size v W->aa W (S.add ((((i+1:Nat):Int)).toNat*14)) jY[i+1].row:=fun W m=>by
   obtain⟨_,a2,U,UW,_⟩:=ld W m (i+1) r;rw[T]at U;cases U;exact UW
  have ho:=fun(j:Nat) (hj:j<jY.length)=>(st.f _ (bA hj)).below l
  have J:∀(pa pb:Nat)(W:World),Below v.heap.size v W->W.heap[pa]? =some (.cells jY[i].row.toArray 49 (0,0))->W.heap[pb]? =some (.cells jY[i+1].row.toArray 49 (0,0))->
    F.aj.qd A3 n3 c3 ⟨w.heap.size,0,none⟩ ⟨pa,0,none⟩ ⟨pb,0,none⟩ SA n21 c21 n21 i w0.heap.size W fun v _=>v= .bool true:=fun pa pb W m ha vE=>
   OO (hg.next l) (ho i B) (st.o _ (bA B)) (ho (i+1) r) (st.o _ (bA r)) Z m ha vE (ag he m) om fun W' Tt=>by
    rw[show(i:Int)+1=((i+1:Nat):Int) by omega];exact ih (i+1) W' om om (l.trans (Tt.mono l.size))
  refine⟨G,S,T,fun UB Tl=> ?_,fun w79 I=> ?_,fun ajF K=> ?_⟩
  ·have k:=extAll Tl;have s0:=k.size;refine⟨_,_,_,_,_,_,_,_,_,_,_,_,_,_,_,_,_,_,_,_,_,_,_,_,_,_,_,_,_,_,_,_,_,_,_,_,l1 _ k,?_,?_⟩
   ·exact lH k fun L g1 z1 M m1=>lH g1 fun A g2 z2 g m2=>oL hB g2 s0 om om (ag z1 g) z2 fun h g3 b c=>J _ _ h g3 b c
   ·exact lH k fun L g1 z1 M m1=>lH g1 fun A g2 z2 g m2=>oL hB g2 om s0 om z2 (ag z1 g) fun h g3 b c=>J _ _ h g3 b c
  ·have k:=extAll I;have s0:=k.size;refine lH k fun L g1 z1 M m1=>⟨⟨_,_,_,_,_,_,_,_,_,_,_,_,_,_,_,_,_,_,_,_,_,_,_,_,_,_,_,_,_,_,_,_,_,_,_,_,l1 _ g1,?_⟩,?_⟩
   ·exact lH g1 fun A g2 z2 g m2=>oL hB g2 s0 om om (ag z1 g) z2 fun h g3 b c=>J _ _ h g3 b c
   ·refine lH g1 fun A g2 z2 g m2=>⟨⟨_,_,_,_,_,_,_,_,_,_,_,_,_,_,_,_,_,_,_,_,_,_,_,_,_,_,_,_,_,_,_,_,_,_,_,_,l1 _ g2,?_⟩,?_⟩
    ·exact oL hB g2 s0 om om (ag z1 g) z2 fun h g3 b c=>J _ _ h g3 b c
    ·exact wx hB g2 s0 (ag z1 g) fun h g3 b N=>⟨_,_,_,_,_,_,_,_,_,_,_,_,_,_,_,_,_,_,_,_,_,_,_,_,_,_,_,_,_,_,_,_,_,_,_,_,l1 _ g3,wx hB g3 om (N _ _ om z2) fun O g4 c P=>J _ _ O g4 (P _ _ om b) c⟩
  ·have k:=extAll K;have s0:=k.size;refine lH k fun L g1 z1 M m1=>⟨⟨_,_,_,_,_,_,_,_,_,_,_,_,_,_,_,_,_,_,_,_,_,_,_,_,_,_,_,_,_,_,_,_,_,_,_,_,l1 _ g1,?_⟩,?_⟩
   ·exact lH g1 fun A g2 z2 g m2=>oL hB g2 om s0 om z2 (ag z1 g) fun h g3 b c=>J _ _ h g3 b c
   ·refine lH g1 fun A g2 z2 g m2=>⟨⟨_,_,_,_,_,_,_,_,_,_,_,_,_,_,_,_,_,_,_,_,_,_,_,_,_,_,_,_,_,_,_,_,_,_,_,_,l1 _ g2,?_⟩,?_⟩
    ·exact oL hB g2 om s0 om z2 (ag z1 g) fun h g3 b c=>J _ _ h g3 b c
    ·exact wx hB g2 om z2 fun h g3 b N=>⟨_,_,_,_,_,_,_,_,_,_,_,_,_,_,_,_,_,_,_,_,_,_,_,_,_,_,_,_,_,_,_,_,_,_,_,_,l1 _ g3,wx hB g3 s0 (N _ _ om (ag z1 g)) fun O g4 c P=>J _ _ O g4 (P _ _ om b) c⟩
end
theorem Dy{w:World}{A:Option Addr}{n c:Nat}{ys:List Em}(hg:bk w)(h:yb w A n ys):Pure Tryz.prog 6 #[.slice A n c] w fun v _=>v= .bool true:=by
 refine F.aj.vc (pm (zH hg) ?_);rintro v k b rfl;refine⟨_,rfl,fun q=>(by cases q),fun _=>pm (MJ (h.av b)) ?_⟩;rintro v l e rfl;have a:=kP b e;refine⟨_,rfl,fun _=>rfl,fun hf=> ?_⟩;have es:=(h.av a).Za (by simpa using hf);refine pm (wu LW (hg.next a) es) ?_;rintro v g j ⟨A1,n1,c1,A2,n2,c2,jY,oV,rfl,st,ev,ch,hn⟩;have d:=kP a j;refine⟨_,_,_,_,_,_,rfl,?_⟩;exact SL (w0:=w) (hg.next d) d.size ⟨st.s.base a.size,fun y hy=>(st.f y hy).base a.size,st.o⟩ ⟨ev.s.base a.size,fun y hy=>(ev.f y hy).base a.size,ev.o⟩ ch hn n2 0 g rfl om (Below.refl _ _)
end Go.Proofs.YtbcojgcjjpggnaaGreatDoor.B
