/- Part 11 of the proofs that: SequenceStates, SequenceOrders and SequenceChecks hold for every input: the program's functions return what the reference functions return -/
import Derived.Test.YtgfkeadgjkfomaaGreatDoorS10
import Derived.Test.YtgfkeadgjkfomaaGreatDoorProg
import Derived.Maps.AppendAt
import Derived.Test.YtgfkeadgjkfomaaGreatDoorCards
import Derived.Test.YtgfkeadgjkfomaaGreatDoorTie
import Derived.WalkKit
import Derived.ProofKit
import Derived.OpenShut
import Derived.Carry
import Derived.Deep.DeepHandedRow
import Derived.Deep.DeepWitnessRowRef
import Derived.Deep.Slices
import Derived.Deep.Fields
import Derived.Lib.SmallJoins
import Derived.Lib.LaidIn
import Derived.Lib.LaidTab
import Derived.Stop.LaidErr
import Derived.Shelf.Vars
import Derived.Laws.IdiomArrays
set_option linter.unusedVariables false
set_option linter.unusedSimpArgs false
namespace Go.Proofs.YtgfkeadgjkfomaaGreatDoor.B
open Go Go.RowKit Go.Proofs Go.Proofs.YtgfkeadgjkfomaaGreatDoor.Vc

def yS(r:Ru):Bool:=
 if r.kind=1 then decide (¬((r.low.size=0/\r.high.size=0)∨(r.low.size≠0/\r.high.size≠0/\qR r.high<qR r.low)))
 else if r.kind=2 then decide (r.a<r.b/\(1<=r.a/\r.a<=9)/\(1<=r.b/\r.b<=9))else if r.kind=3 then decide (1<=r.a/\r.a<=9)else decide (r.b=0)
def N5(ps:List Pa)(hs:List Ho)(r:Ru):Int:=
 if yS r=false then 2 else if r.kind=3/\pc hs r.b=none then 7 else if r.kind=4/\nW ps r.a=none then 7 else 0
def N7(hs:List Ho)(r:Ru):Prop:=(r.kind=1/\(r.iL.length≠hs.length∨r.a≠0∨r.b≠0))∨(r.kind≠1/\(r.iL.length≠0∨r.low.size≠0∨r.high.size≠0))
theorem IU{ps:List Pa}{hs:List Ho}{pre:List Ru}{r:Ru}(h1:r.iL.all vR=true/\eV r.low=true/\eV r.high=true)(h2:1<=r.name.size/\r.name.size<=64)(h3:(pre.any fun x=>decide (x.name=r.name))=false)(h4:1<=r.kind/\r.kind<=4):
  (N7 hs r->hO ps hs pre r=10)/\(¬N7 hs r->hO ps hs pre r=N5 ps hs r):=by
 unfold hO;rw[ar (fun k=>k h1),ar (fun k=>k h2),ar (by rw[h3];decide),ar om];unfold N7 N5 yS;by_cases d:r.kind=1
 ·rw[cc d,cc d];constructor
  ·rintro(k|k)
   ·rw[cc k.2]
   ·exact absurd d k.1
  ·intro k;rw[ar (fun q=>k (.inl ⟨d,q⟩))];by_cases q:(r.low.size=0/\r.high.size=0)∨(r.low.size≠0/\r.high.size≠0/\qR r.high<qR r.low)
   ·rw[cc q,cc (eh (fun z=>z q))]
   ·rw[ar q,ar (by rw[fc q];decide),ar om,ar om]
 ·rw[ar d,ar d];constructor
  ·rintro(k|k)
   ·exact absurd k.1 d
   ·rw[cc k.2]
  ·intro k;rw[ar (fun q=>k (.inr ⟨d,q⟩))];by_cases g:r.kind=2
   ·rw[cc g,cc g];by_cases q:r.a<r.b/\(1<=r.a/\r.a<=9)/\(1<=r.b/\r.b<=9)
    ·rw[ar (fun z=>z q),ar (by rw[fc q];decide),ar om,ar om]
    ·rw[cc q,cc (eh q)]
   ·rw[ar g,ar g];by_cases e:r.kind=3
    ·rw[cc e,cc e];by_cases q:1<=r.a/\r.a<=9
     ·rw[ar (fun z=>z q),ar (show ¬decide (1<=r.a/\r.a<=9)=false by rw[fc q];decide)];by_cases z:pc hs r.b=none
      ·rw[cc z,cc ⟨e,z⟩]
      ·rw[ar z,ar (fun y=>z y.2),ar om]
     ·rw[cc q,cc (eh q)]
    ·rw[ar e,ar e];by_cases q:r.b=0
     ·rw[ar (fun z=>z q),ar (show ¬decide (r.b=0)=false by rw[fc q];decide),ar (show ¬(r.kind=3/\pc hs r.b=none)from fun y=>e y.1)];by_cases z:nW ps r.a=none
      ·rw[cc z,cc ⟨om,z⟩]
      ·rw[ar z,ar (fun y=>z y.2)]
     ·rw[cc q,cc (eh q)]

section
variable {w:World} {A0 A1 A2 A:Option Addr} {n0 c0 n1 c1 n2 c2 n c:Nat} {ps:List Pa} {hs:List Ho} {xs:List Rm} {l:List Sw}
theorem N8{x:Rm}(hx:Qn x.r){R:Value->World->Prop}(a:∀w,R (.bool (eV x.r.low&&eV x.r.high)) w)(w:World):
  ((x.r.low=⟨#[]⟩->((x.r.high=⟨#[]⟩->R (.bool true) w)/\(¬x.r.high=⟨#[]⟩->Pure Tryz.prog 175 #[.string x.r.high] w fun g i=>∃b:Bool,g= .bool b/\R (.bool b) i)))/\
  (¬x.r.low=⟨#[]⟩->Pure Tryz.prog 175 #[.string x.r.low] w fun j m=>∃o:Bool,j= .bool o/\((o=true->((x.r.high=⟨#[]⟩->R (.bool true) m)/\(¬x.r.high=⟨#[]⟩->Pure Tryz.prog 175 #[.string x.r.high] m fun y B=>∃z:Bool,y= .bool z/\R (.bool z) B)))/\(o=false->R (.bool false) m)))):=by
 have high:eV x.r.low=true->∀w,((x.r.high=⟨#[]⟩->R (.bool true) w)/\(¬x.r.high=⟨#[]⟩->Pure Tryz.prog 175 #[.string x.r.high] w fun g i=>∃b:Bool,g= .bool b/\R (.bool b) i)):=by
  intro C w;rw[C,lI]at a;refine⟨fun k=> ?_,fun k=>pm (fI _ hx.high w) ?_⟩
  ·have e:eV x.r.high=true:=by unfold eV;rw[fc (dR.1 k)];rfl
   rw[<-e];exact a w
  ·rintro v d _ rfl;refine⟨_,rfl,?_⟩;have e:eV x.r.high=vR x.r.high:=by unfold eV;rw[eh (fun q=>k (dR.2 q))];rfl
   rw[<-e];exact a d
 refine⟨fun k=>high (by unfold eV;rw[fc (dR.1 k)];rfl) w,fun k=>pm (fI _ hx.low w) ?_⟩;have e:eV x.r.low=vR x.r.low:=by unfold eV;rw[eh (fun q=>k (dR.2 q))];rfl
 rintro v d _ rfl;refine⟨_,rfl,fun h=>high (e.trans h) d,fun h=> ?_⟩;rw[e,h]at a;exact a d
theorem GL{x:Rm}(hx:tg w x):Pure Tryz.prog 156 #[x.val] w fun v _=>v= .bool (x.r.iL.all vR&&(eV x.r.low&&eV x.r.high)):=by
 have j:=hx.l;have D:=hx.s.len;have key:∀(d i:Nat)(w':World),x.n - i=d->i<=x.n->Below w.heap.size w w'->(∀s∈x.r.iL.take i,vR s=true)->F.bV.L2 i x.r.name x.r.kind x.A x.n x.c x.r.low x.r.high x.r.a x.r.b w.heap.size w' fun v _=>v= .bool (x.r.iL.all vR&&(eV x.r.low&&eV x.r.high)):=by
  intro d;induction d with
  |zero=>
   intro i w' m hi hw ha;rw[bx om]at ha;have o:x.r.iL.all vR=true:=gu.2 ha;refine F.bV.L2.step ⟨fun h=>by omega,fun _=>N8 hx.s (R:=fun v _=>v= .bool (x.r.iL.all vR&&(eV x.r.low&&eV x.r.high))) (fun _=>by rw[o,lI]) w'⟩
  |succ d ih=>
   intro i w' m hi hw ha;have g:i<x.r.iL.length:=om;have q:=sc i;obtain⟨hb,a,y,e,_⟩:=(hx.f.aj hw lf).at_ (fun _=>rfl) j g;refine F.bV.L2.step ⟨fun _=>⟨hb,a,y,_,e,pm (fI _ (hx.s.iL _ (cd g)) w') ?_⟩,fun h=>by omega⟩;rintro v z B rfl;refine⟨_,rfl,fun k=> ?_,fun k=>⟨ir,?_⟩⟩
   ·rw[all_false (x:=x.r.iL[i]) (cd g) k,nZ]
   ·rw[q];refine ih (i+1) z om om (kP hw B) fun s hs=> ?_
    rw[eN,af g]at hs;rcases h8.1 hs with hs|hs
    ·exact ha s hs
    ·simp only[rT,gb]at hs;subst hs;exact hP _|>.mp k
 exact F.bV.vc fun w1 C=>key x.n 0 w1 rfl om (k0 C) sm
theorem xE(z:Int)(w:World):Pure Tryz.prog 186 #[.int .i64 z] w fun v _=>v= .bool (decide (1<=z/\z<=9)):=by
 refine F.jV.vc ⟨fun h=> ?_,fun h=> ?_⟩
 ·exact dB Value.bool (jB.2 om)
 ·exact dB Value.bool (eh om).symm
theorem IV{x:Rm}(hx:Qn x.r)(hl:eV x.r.low=true)(i:eV x.r.high=true):Pure Tryz.prog 157 #[x.val] w fun v _=>v= .bool (yS x.r):=by
 unfold yS;have less:∀d,¬x.r.low=⟨#[]⟩->¬x.r.high=⟨#[]⟩->_:=fun d h1 h2=>
  have v1:=uE hl (fun k=>h1 (dR.2 k));have v2:=uE i (fun k=>h2 (dR.2 k))
  AK (eM hx.high v2) (eM hx.low v1) (hx.high.sQ v2) (hx.low.sQ v1) (w:=d) (K:=fun b w=>(fun(v:Value) (_:World)=>v=Value.bool (if x.r.kind=1 then decide (¬((x.r.low.size=0/\x.r.high.size=0)∨(x.r.low.size≠0/\x.r.high.size≠0/\qR x.r.high<qR x.r.low)))
   else if x.r.kind=2 then decide (x.r.a<x.r.b/\(1<=x.r.a/\x.r.a<=9)/\(1<=x.r.b/\x.r.b<=9))else if x.r.kind=3 then decide (1<=x.r.a/\x.r.a<=9)else decide (x.r.b=0))) (.bool (decide (b=false))) w)
 refine F.jj.vc ⟨fun g=> ?_,fun g=> ?_⟩
 ·rw[cc g]at less⊢;refine⟨fun h1=>⟨fun k=>absurd k h1,fun h1=>⟨fun h2 o _=> ?_,fun h2 d _=>less d h1 h2 fun w' _=> ?_⟩⟩,fun h1=>⟨fun h2=>⟨fun h3 y _=> ?_,fun k=>absurd (ep.1 h1) k⟩,fun h2 j _=> ?_⟩⟩
  ·have h2:=dR.1 h2;have h1:¬x.r.low.size=0:=fun k=>h1 (dR.2 k)
   exact dB Value.bool (fc (by rintro(k|k)<;>omega)).symm
  ·have h1:¬x.r.low.size=0:=fun k=>h1 (dR.2 k)
   have h2:¬x.r.high.size=0:=fun k=>h2 (dR.2 k)
   refine dB Value.bool (jB.2 ⟨fun k=> ?_,fun k=>eh fun q=>k (.inr ⟨h1,h2,q⟩)⟩);have k:=kd k;rintro(q|q)
   ·exact h1 q.1
   ·exact k q.2.2
  ·have h3:=dR.1 h3;have h2:¬x.r.high.size=0:=fun k=>h2 (dR.2 k)
   exact dB Value.bool (fc (by rintro(k|k)<;>omega)).symm
  ·have h1:=dR.1 (ep.1 h1);have h2:=dR.1 (ep.1 h2);exact dB Value.bool (eh (fun k=>k (.inl ⟨h1,h2⟩))).symm
 ·rw[ar g];refine⟨fun e z _=> ?_,fun e=>⟨fun h B _=> ?_,fun h C _=> ?_⟩⟩
  ·rw[cc e];refine pm (xE _ _) ?_;rintro v D _ rfl;refine⟨_,rfl,fun h1=> ?_,fun h1=> ?_⟩
   ·have h1:=hG h1;refine pm (xE _ _) ?_;rintro v m _ rfl;refine⟨_,rfl,fun h2=> ?_,fun h2=> ?_⟩
    ·have h2:=hG h2;exact dB Value.bool (jB.2 om)
    ·have h2:=kd h2;exact dB Value.bool (eh (fun k=>h2 k.2.2)).symm
   ·have h1:=kd h1;exact dB Value.bool (eh (fun k=>h1 k.2.1)).symm
  ·rw[ar e,cc h];refine pm (xE _ _) ?_;rintro v E _ rfl;exact⟨_,rfl,rfl⟩
  ·rw[ar e,ar h]
theorem KY(hp:fu w A0 n0 A1 n1 A2 n2 c2 ps hs xs){i:Nat}(hi:i<xs.length):
  Pure Tryz.prog 116 #[.agg #[.slice A0 n0 c0,.slice A1 n1 c1,.slice A2 n2 c2],.int .i64 (i:Int)] w fun v _=>v= .int .i64 (hO ps hs (aT (xs.take i)) xs[i].r):=by
 have hl:=hp.l;have hn:=hp.n;have iM:=hp.c.lh;have G:=hp.f _ (cd hi);have Kn:=G.l;obtain⟨hb,a,D,_,_⟩:=hp.at_ hi;refine F.aC.vc ⟨hb,a,D,fun w2 N=> ?_⟩;have hw:=k0 N;refine⟨_,_,_,_,_,_,_,_,_,(Ws (hp.aj hw).r (fun _=>rfl) hl hi D).1,fun vg O=> ?_⟩;have hw:=kE hw O;refine pm (GL (G.aj hw)) ?_;rintro v P Q rfl;have R:=kP hw Q;refine⟨_,rfl,fun h=> ?_,fun h=>⟨fun h1=> ?_,fun h1=>⟨fun h2=> ?_,fun h2=> ?_⟩⟩⟩
 ·unfold hO;rw[cc];rintro⟨g,S,o⟩;rw[g,S,o]at h;cases h
 all_goals
  have h:=hP _|>.mp h
  rw[eb,eb]at h
 ·unfold hO;rw[ar (fun k=>k h),cc (fun k=>by omega)]
 ·unfold hO;rw[ar (fun k=>k h),cc (fun k=>by omega)]
 have H:1<=xs[i].r.name.size/\xs[i].r.name.size<=64:=om;have key:∀(d k:Nat)(w':World),i - k=d->k<=i->Below w.heap.size w w'->((aT (xs.take k)).any fun y=>decide (y.name=xs[i].r.name))=false->
   F.aC.L7 i k A0 n0 c0 A1 n1 c1 A2 n2 c2 xs[i].r.name xs[i].r.kind xs[i].A xs[i].n xs[i].c xs[i].r.low xs[i].r.high xs[i].r.a xs[i].r.b w.heap.size w' fun v _=>v= .int .i64 (hO ps hs (aT (xs.take i)) xs[i].r):=by
  intro d;induction d with
  |succ d ih=>
   intro k w' T U hw E;have L:k<xs.length:=om;have V:=sc k;obtain⟨hb,a,D,_,j⟩:=(hp.aj hw).at_ L;refine F.aC.L7.step ⟨fun _=>⟨hb,a,D,_,j 0 _ rfl,fun q qK _=> ?_,fun q=>⟨ir,fun W X=> ?_⟩⟩,fun q=>by omega⟩
   ·unfold hO;rw[ar (fun k=>k h),ar (fun k=>k H),cc];refine kh.2 ⟨xs[k].r,?_,fc q⟩;refine BZ (f:=Rm.r) ?_;have e:(xs.take i)[k]'(by rw[fs];omega)=xs[k]:=ve;rw[<-e];exact cd _
   ·rw[V];refine ih (k+1) W om om (kE hw X) ?_;rw[<-tO L,BO,E];simpa using q
  |zero=>
   intro k w' T U hw E;have Y:k=i:=om;subst Y;have bad:xs[k].r.kind<1∨4<xs[k].r.kind->hO ps hs (aT (xs.take k)) xs[k].r=2:=fun q=>by
    unfold hO;rw[ar (fun k=>k h),ar (fun k=>k H),ar (by rw[E];decide),cc q]
   refine F.aC.L7.step ⟨fun q=>by omega,fun _=>⟨fun q=>by rw[bad (.inl q)],fun q1=>⟨fun q=>by rw[bad (.inr q)],fun q2=> ?_⟩⟩⟩;obtain⟨t1,t2⟩:=IU (ps:=ps) (hs:=hs) h H E om;have B:¬N7 hs xs[k].r->∀w',Below w.heap.size w w'->F.aC.Rv A0 n0 c0 A1 n1 c1 A2 n2 c2 xs[k].r.name xs[k].r.kind xs[k].A xs[k].n xs[k].c xs[k].r.low xs[k].r.high xs[k].r.a xs[k].r.b w.heap.size w' fun v _=>v= .int .i64 (hO ps hs (aT (xs.take k)) xs[k].r):=by
    intro hm w' hw;rw[t2 hm];unfold N5;refine F.aC.Rv.step (pm (IV (x:=xs[k]) G.s h.2.1 h.2.2) ?_);rintro v Z Jn rfl;have I:=kP hw Jn;refine⟨_,rfl,fun q=>by rw[cc q],fun q=> ?_⟩;rw[ar q];have four:¬(xs[k].r.kind=3/\pc hs xs[k].r.b=none)->∀C,Below w.heap.size w C->((xs[k].r.kind=4->Pure Tryz.prog 83 #[.agg #[.slice A0 n0 c0,.slice A1 n1 c1],.int .i64 xs[k].r.a] C fun J Kg=>∃i24:Int,J= .int .i64 i24/\((i24<0->(Value.int .i64 7= .int .i64 (if xs[k].r.kind=3/\pc hs xs[k].r.b=none then 7 else if xs[k].r.kind=4/\nW ps xs[k].r.a=none then 7 else 0)))/\
      (¬i24<0->(Value.int .i64 0= .int .i64 (if xs[k].r.kind=3/\pc hs xs[k].r.b=none then 7 else if xs[k].r.kind=4/\nW ps xs[k].r.a=none then 7 else 0)))))/\(¬xs[k].r.kind=4->(Value.int .i64 0= .int .i64 (if xs[k].r.kind=3/\pc hs xs[k].r.b=none then 7 else if xs[k].r.kind=4/\nW ps xs[k].r.a=none then 7 else 0)))):=by
     intro h3 C BR;rw[ar h3];refine⟨fun K=>pm (kX (hp.aj BR).c _) ?_,fun K=>by rw[ar (fun q=>K q.1)]⟩;rintro v Kg _ rfl;refine⟨_,rfl,fun q=> ?_,fun q=> ?_⟩
     ·rw[cc ⟨K,gh.1 q⟩]
     ·rw[ar (fun z=>q (gh.2 z.2))]
    refine⟨fun o=>pm (qG (hp.aj I).c _) ?_,fun o=>four (fun z=>o z.1) Z I⟩;rintro v C BQ rfl;refine⟨_,rfl,fun q=> ?_,fun q=>four (fun z=>q (gh.2 z.2)) C (kP I BQ)⟩;rw[cc ⟨o,gh.1 q⟩]
   have m:N7 hs xs[k].r->Value.int .i64 10= .int .i64 (hO ps hs (aT (xs.take k)) xs[k].r):=fun q=>by rw[t1 q]
   refine F.aC.LQ.step ⟨fun g=> ?_,fun g=>⟨fun _=> ?_,fun q=>absurd g q⟩⟩
   ·refine⟨fun q=>m (.inl ⟨g,.inl om⟩),fun q3=>⟨fun q=>m (.inl ⟨g,.inr (.inl q)⟩),fun q4=>⟨fun q=>m (.inl ⟨g,.inr (.inr q)⟩),fun M=>⟨fun q=>absurd g q,fun _=>B ?_ w' hw⟩⟩⟩⟩;rintro(z|z)
    ·omega
    ·exact z.1 g
   ·refine⟨fun q=>m (.inr ⟨g,.inl om⟩),fun q3=>⟨fun q=>m (.inr ⟨g,.inr (.inl (ne_nil.1 q))⟩),fun q4=>⟨fun q=>m (.inr ⟨g,.inr (.inr (ne_nil.1 q))⟩),fun M=>B ?_ w' hw⟩⟩⟩;rintro(z|z)
    ·exact g z.1
    ·rcases z.2 with z|z|z
     ·omega
     ·exact q4 (ne_nil.2 z)
     ·exact M (ne_nil.2 z)
 exact key i 0 P rfl om R rfl
theorem CW(hp:fu w A0 n0 A1 n1 A2 n2 c2 ps hs xs):
  Pure Tryz.prog 80 #[.agg #[.slice A0 n0 c0,.slice A1 n1 c1,.slice A2 n2 c2]] w fun v _=>v= .tuple #[.int .i64 (mV ps hs (aT xs)).1,.int .i64 (mV ps hs (aT xs)).2]:=by
 have hl:=hp.l;have hn:=hp.n;unfold mV;refine F.cD.vc fun w1 b=> ?_
 have hw:=k0 b;refine pm (xy (hp.c.aj hw)) ?_;rintro v e g rfl;have hw:=kP hw g;refine⟨_,rfl,fun h=> ?_,fun h=>⟨fun h1=> ?_,fun h1=> ?_⟩⟩
 ·rw[cc h]
 ·rw[ar h,cc (by simp[aT];omega)]
 ·rw[ar h,ar (by simp[aT];omega)];have key:∀(d i:Nat)(w':World),n2 - i=d->i<=n2->Below w.heap.size w w'->F.cD.L7 i A0 n0 c0 A1 n1 c1 A2 n2 c2 w.heap.size w' fun v _=>v= .tuple #[.int .i64 (OG ps hs i (aT (xs.take i)) (aT (xs.drop i))).1,.int .i64 (OG ps hs i (aT (xs.take i)) (aT (xs.drop i))).2]:=by
   intro d;induction d with
   |zero=>
    intro i w' j hi hw;rw[dp om];exact F.cD.L7.step ⟨fun h=>by omega,fun _=>rfl⟩
   |succ d ih=>
    intro i w' j hi hw;have a:i<xs.length:=om;refine F.cD.L7.step ⟨fun _=> ?_,fun h=>by omega⟩;refine pm (KY (hp.aj hw) a) ?_;rintro v k m rfl;have o:=sc i;have q:aT (xs.drop i)=xs[i].r::aT (xs.drop (i+1)):=by
     unfold aT;rw[ec a];rfl
    rw[q,OG];refine⟨_,rfl,fun h=> ?_,fun h=>⟨ir,?_⟩⟩
    ·rw[cc h]
    ·rw[ar h,tO a,o];exact ih (i+1) k om om (kP hw m)
  exact key n2 0 e rfl om hw
theorem KZ(hp:fu w A0 n0 A1 n1 A2 n2 c2 ps hs xs)(h:cK w A 3 (l.map Sw.row))(hl:l.length=n)(hn:n<=40):
  Pure Tryz.prog 158 #[.agg #[.slice A0 n0 c0,.slice A1 n1 c1,.slice A2 n2 c2],.slice A n c] w fun v _=>v= .bool (mi ps hs (aT xs) l):=by
 refine F.jU.vc fun w1 a=> ?_
 have hw:=k0 a;refine pm (CW (hp.aj hw)) ?_;rintro v d b rfl;have hw:=kP hw b;unfold mi;refine⟨_,_,rfl,fun k=>pm (ry (hp.aj hw).c (h.aj hw lf) hl om) ?_,fun k=> ?_⟩
 ·rintro v e _ rfl;refine⟨_,rfl,?_⟩;rw[fc k,lI]
 ·rw[eh k,nZ]
end

section
variable {w:World} {A0 A1 A2 A:Option Addr} {n0 c0 n1 c1 n2 c2 n c:Nat} {ps:List Pa} {hs:List Ho} {xs:List Rm} {l:List Sw}
theorem QI(hp:fu w A0 n0 A1 n1 A2 n2 c2 ps hs xs)(h:cK w A 3 (l.map Sw.row))(hl:l.length=n)(hn:n<=40)(N:cZ ps hs l=0){x:Rm}(hx:tg w x)(hf:x.r.iL.all vR=true)(Bo:x.r.iL.length=hs.length):
  Pure Tryz.prog 215 #[.agg #[.slice A0 n0 c0,.slice A1 n1 c1,.slice A2 n2 c2],x.val,.slice A n c] w (QR (mh ps hs x.r l)):=by
 have j:=dt N;have Y:=hp.c.lh;have Rn:=hp.c.nh;have Z:=hx.l;have U9:(hs.zip x.r.iL).length=n1:=by rw[OO];omega
 refine F.cV.vc fun w1 x1=>pm (ks (z:=0) dc) ?_
 rintro v w6 b6 ⟨b,A3,n3,c3,A4,n4,c4,rfl,q6⟩;have xr:=kP (k0 x1) b6;refine⟨_,_,_,_,_,_,_,rfl,fun w7 O=> ?_⟩;have key:∀(d i:Nat)(b:Bool)(A3:Option Addr)(n3 c3:Nat)(A4:Option Addr)(n4 c4:Nat)(w':World),n1 - i=d->i<=n1->Below w.heap.size w w'->qE w' b A3 n3 c3 A4 n4 c4 ((((hs.zip x.r.iL).take i).map (B6 ps l)).sum)->
   F.cV.L3 A n c i A0 n0 c0 A1 n1 c1 A2 n2 c2 x.r.name x.r.kind x.A x.n x.c x.r.low x.r.high x.r.a x.r.b false none 0 0 none 0 0 b A3 n3 c3 A4 n4 c4 w.heap.size w' (QR (mh ps hs x.r l)):=by
  intro d;induction d with
  |zero=>
   intro i b A3 n3 c3 A4 n4 c4 w' hd hi hw g;rw[bx om,<-Gq]at g;exact F.cV.L3.step ⟨fun k=>by omega,fun _ PC YI=>⟨_,_,_,_,_,_,_,rfl,g.ext YI dc⟩⟩
  |succ d ih=>
   intro i b A3 n3 c3 A4 n4 c4 w' hd hi hw g;have P:i<hs.length:=om;have m:i<x.r.iL.length:=om;have o:i<(hs.zip x.r.iL).length:=om;have e3:=sc i;obtain⟨hb,a,hA,_,e⟩:=((hp.aj hw).c.h).at_ (fun _=>rfl) Y P;refine F.cV.L3.step ⟨fun _=>⟨hb,a,hA,_,e 0 _ rfl,fun vg Q=> ?_⟩,fun k=>by omega⟩;have q:=kE hw Q;refine pm (Nv (hp.aj q).c (h.aj q lf) hl hn hs[i].id) ?_;rintro v Am R rfl;have BX:=kP q R;have Xs:AF ps hs l hs[i].id= .tuple #[Lg ps hs (xa l hs[i].id),.int .i64 0]:=by
    unfold AF;rw[ar (fun k=>k N),ar (NM j.c.ih P)]
   rw[Xs];refine⟨_,_,_,_,_,_,_,rfl,fun rU S=> ?_⟩;have T:=kE BX S;have y:=((g.ext Q dc).below R).ext S dc;obtain⟨hb2,a2,rp,rq,_⟩:=(hx.f.aj T lf).at_ (fun _=>rfl) Z m;refine⟨om,a2,rp,_,rq,fun tV U=> ?_⟩;have hv:=gu.1 hf _ (cd m);have B:=hx.s.iL _ (cd m);have C:=Es hp.c j om hs[i].id;refine pm (eM B hv tV) ?_;rintro v wZ V ⟨b2,A5,n5,c5,A6,n6,c6,rfl,D⟩;refine⟨_,_,_,_,_,_,_,rfl,pm (Is (C.mono om) wZ) ?_⟩;rintro v w33 E ⟨b3,A7,n7,c7,A8,n8,c8,rfl,G⟩;refine⟨_,_,_,_,_,_,_,rfl,pm (F9 (D.below E) G ((rH hv B).mono om) (C.mono om)) ?_⟩;rintro v Mo W ⟨b4,A9,n9,c9,A10,n10,c10,rfl,H⟩;have I:=(((y.ext U dc).below V).below E).below W;have J:(hs.zip x.r.iL)[i]=(hs[i],x.r.iL[i]):=by simp
   have K:(((hs.zip x.r.iL).take (i+1)).map (B6 ps l)).sum=(((hs.zip x.r.iL).take i).map (B6 ps l)).sum+qR x.r.iL[i]*df (tP ps Pa.eF) (xa l hs[i].id):=by
    rw[eN,af o,J,lx];exact CP _ _
   refine⟨_,_,_,_,_,_,_,rfl,pm (Ap I H ((wP hp.c j om hx hf i).mono om) (((rH hv B).mul C).mono om)) ?_⟩;rw[<-K];rintro v w43 L ⟨b5,Yh,Yi,Yj,Lc,Ld,c12,rfl,M⟩;refine⟨_,_,_,_,_,_,_,rfl,ir,fun Nf X=> ?_⟩;rw[e3];exact ih (i+1) _ _ _ _ _ _ _ Nf om om (kE (kP (kP (kP (kP (kE T U) V) E) W) L) X) (M.ext X dc)
 exact key n1 0 _ _ _ _ _ _ _ w7 rfl om (kE xr O) (q6.ext O dc)
theorem IW(hp:fu w A0 n0 A1 n1 A2 n2 c2 ps hs xs)(h:cK w A 3 (l.map Sw.row))(hl:l.length=n)(hn:n<=40)(R:cZ ps hs l=0){x:Rm}(hx:tg w x)(j:xB ps hs x.r)(hk:x.r.kind=1):
  Pure Tryz.prog 187 #[.agg #[.slice A0 n0 c0,.slice A1 n1 c1,.slice A2 n2 c2],x.val,.slice A n c] w (QR (eT x.r (mh ps hs x.r l))):=by
 have TE:=dt R;have qM:Sm 90000 (mh ps hs x.r l):=by
  have:=wP hp.c TE om hx j.iL (hs.zip x.r.iL).length;rwa [QB,<-Gq]at this
 have o:Sm 100000 (mh ps hs x.r l):=qM.mono om;refine F.cI.vc fun w1 y=>pm (QI (hp.aj (k0 y)) (h.aj (k0 y) lf) hl hn R (hx.aj (k0 y)) j.iL (j.sum hk)) ?_
 rintro v w6 b6 ⟨b,A3,n3,c3,A4,n4,c4,rfl,S⟩;have zero:∀w,eT x.r (mh ps hs x.r l)=0->∀{B:Nat},Pure Tryz.prog 189 #[.int .i64 0] w fun r w'=>∃(b:Bool)(A3:Option Addr)(n3 c3:Nat)(A4:Option Addr)(n4 c4:Nat),r= .agg #[.bool b,.slice A3 n3 c3,.slice A4 n4 c4]/\
   ∀g,Ext B [166] w' g->QR (eT x.r (mh ps hs x.r l)) (.agg #[.bool b,.slice A3 n3 c3,.slice A4 n4 c4]) g:=by
  intro w e B;refine pm (ks (z:=0) dc) ?_;rintro v g _ ⟨b,A3,n3,c3,A4,n4,c4,rfl,q⟩;rw[e];exact⟨_,_,_,_,_,_,_,rfl,fun w3 C=>⟨_,_,_,_,_,_,_,rfl,q.ext C dc⟩⟩
 have T:∀{s:ByteArray},rW s->vR s=true->eT x.r (mh ps hs x.r l)=mh ps hs x.r l - qR s->∀i,qE i b A3 n3 c3 A4 n4 c4 (mh ps hs x.r l)->∀{B:Nat},Pure Tryz.prog 146 #[.string s] i fun D U=>∃(V:Bool)(W:Option Addr)(n18 X:Nat)(Y:Option Addr)(n19 Z:Nat),D= .agg #[.bool V,.slice W n18 X,.slice Y n19 Z]/\
   Pure Tryz.prog 216 #[.agg #[.bool b,.slice A3 n3 c3,.slice A4 n4 c4],.agg #[.bool V,.slice W n18 X,.slice Y n19 Z]] U fun r w'=>∃(b:Bool)(A3:Option Addr)(n3 c3:Nat)(A4:Option Addr)(n4 c4:Nat),r= .agg #[.bool b,.slice A3 n3 c3,.slice A4 n4 c4]/\
   ∀g,Ext B [166] w' g->QR (eT x.r (mh ps hs x.r l)) (.agg #[.bool b,.slice A3 n3 c3,.slice A4 n4 c4]) g:=by
  intro s dX hv e i E B;refine pm (eM dX hv i) ?_;rintro v U Ej ⟨b2,A5,n5,c5,A6,n6,c6,rfl,G⟩;refine⟨_,_,_,_,_,_,_,rfl,pm (Ng (E.below Ej) G o (dX.sQ hv)) ?_⟩;rintro v Kg _ ⟨b3,A7,n7,c7,A8,n8,c8,rfl,H⟩;rw[e];exact⟨_,_,_,_,_,_,_,rfl,fun w3 C=>⟨_,_,_,_,_,_,_,rfl,H.ext C dc⟩⟩
 have low:¬(x.r.high.size≠0/\qR x.r.high<mh ps hs x.r l)->∀w',qE w' b A3 n3 c3 A4 n4 c4 (mh ps hs x.r l)->F.cI.J4 x.r.name x.r.kind x.A x.n x.c x.r.low x.r.high x.r.a x.r.b false none 0 0 none 0 0 b A3 n3 c3 A4 n4 c4 w.heap.size w' (QR (eT x.r (mh ps hs x.r l))):=by
  intro I w' q';refine F.cI.J4.step ⟨fun h1 Co J=> ?_,fun h1 K x56=>zero K ?_⟩
  ·have d:=ne_nil.1 h1;have hv:=uE j.low d;have m:=q'.ext J dc;refine pm (eM hx.s.low hv Co) ?_;rintro v Qg UK ⟨b2,A5,n5,c5,A6,n6,c6,rfl,L⟩;refine⟨_,_,_,_,_,_,_,rfl,pm (xw (m.below UK) L o (hx.s.low.sQ hv)) ?_⟩;rintro v GY Rx rfl;refine⟨_,rfl,fun k Mo M=>T hx.s.low hv ?_ Mo (((m.below UK).below Rx).ext M dc),fun k=>zero GY ?_⟩
   ·unfold eT;rw[ar I,cc ⟨d,hG k⟩]
   ·unfold eT;rw[ar I,ar (fun q=>kd k q.2)]
  ·have d:=dR.1 (ep.1 h1);unfold eT;rw[ar I,ar (fun q=>q.1 d)]
 refine⟨_,_,_,_,_,_,_,rfl,fun h1 w7 x7=> ?_,fun h1 wZ N=>low (fun q=>q.1 (dR.1 (ep.1 h1))) wZ (S.ext N dc)⟩;have d:=ne_nil.1 h1;have hv:=uE j.high d;have O:=S.ext x7 dc;refine pm (eM hx.s.high hv w7) ?_;rintro v tz P ⟨b2,A5,n5,c5,A6,n6,c6,rfl,Q⟩;refine⟨_,_,_,_,_,_,_,rfl,pm (xw Q (O.below P) (hx.s.high.sQ hv) o) ?_⟩;rintro v Al yQ rfl;refine⟨_,rfl,fun k i KE=>T hx.s.high hv ?_ i (((O.below P).below yQ).ext KE dc),fun k=>low (fun q=>kd k q.2) Al ((O.below P).below yQ)⟩;unfold eT;rw[cc ⟨d,hG k⟩]
theorem IX(hp:fu w A0 n0 A1 n1 A2 n2 c2 ps hs xs)(h:cK w A 3 (l.map Sw.row))(hl:l.length=n)(hn:n<=40)(D:ek ps hs l)(id cls:Int):
  Pure Tryz.prog 188 #[.agg #[.slice A0 n0 c0,.slice A1 n1 c1,.slice A2 n2 c2],.slice A n c,.int .i64 id,.int .i64 cls] w fun v _=>v= .bool (fM ps l id cls):=by
 have E:=hp.c.lp;have key:∀(d i:Nat)(w':World),n - i=d->i<=n->Below w.heap.size w w'->fM ps (l.take i) id cls=false->F.cJ.L2 A n c id cls i A0 n0 c0 A1 n1 c1 A2 n2 c2 w.heap.size w' fun v _=>v= .bool (fM ps l id cls):=by
  intro d;induction d with
  |zero=>
   intro i w' G hi hw e;rw[bx om]at e;exact F.cJ.L2.step ⟨fun k=>by omega,fun _=>by rw[e]⟩
  |succ d ih=>
   intro i w' G hi hw e;have g:i<l.length:=om;have H:=sc i;have I:l.take (i+1)=l.take i++[l[i]]:=by rw[eN,af g];rfl
   have next:¬(l[i].hold=id/\rR ps l[i].aG=cls)->∀m,Below w.heap.size w m->F.cJ.L2 A n c id cls ((i:Int)+1) A0 n0 c0 A1 n1 c1 A2 n2 c2 w.heap.size m fun v _=>v= .bool (fM ps l id cls):=by
    intro q m J;rw[H];refine ih (i+1) m om om J ?_;unfold fM at e⊢;rw[I,BO,e];simpa using q
   obtain⟨hb,a,y,_,b⟩:=(h.aj hw lf).at_ (fun _=>rfl) hl g;obtain⟨j,_,hj,_⟩:=D.known _ (cd g);obtain⟨z,S⟩:=vj hj;have B:rR ps l[i].aG=ps[j].cls:=by
    unfold rR;rw[hj,DA,af z]
   refine F.cJ.L2.step ⟨fun _=>⟨hb,a,y,_,b 0 _ rfl,fun o=>⟨hb,a,y,_,b 1 _ rfl,fun T K=> ?_⟩,fun o=>⟨ir,fun L M=>next (fun q=>o q.1) L (kE hw M)⟩⟩,fun k=>by omega⟩
   have C:=kE hw K;refine pm (kX (hp.aj C).c _) ?_;rintro v N O rfl;rw[hj];obtain⟨r,a3,P,_,Q⟩:=((hp.aj hw).c.p).at_ (fun _=>rfl) E z;refine⟨_,rfl,r,a3,P,_,Q 2 _ rfl,fun x=> ?_,fun x=>⟨ir,next (fun q=>x (B▸q.2)) N (kP C O)⟩⟩
   refine dB Value.bool (Eq.symm ?_);unfold fM;refine kh.2 ⟨l[i],cd g,?_⟩;rw[fc o,B,fc x];rfl
 exact F.cJ.vc fun w1 R=>key n 0 w1 rfl om (k0 R) rfl
theorem IY(hp:fu w A0 n0 A1 n1 A2 n2 c2 ps hs xs)(h:cK w A 3 (l.map Sw.row))(hl:l.length=n)(hn:n<=40)(O:cZ ps hs l=0){x:Rm}(hx:tg w x)(E:xB ps hs x.r):
  Pure Tryz.prog 159 #[.agg #[.slice A0 n0 c0,.slice A1 n1 c1,.slice A2 n2 c2],x.val,.slice A n c] w fun v _=>v= .bool (eE ps hs l x.r):=by
 have g:=dt O;have W:=hp.c.lh;have Rn:=hp.c.nh;have Tb:=hp.c.np;have X:=E.kind;unfold eE;refine F.aM.vc ⟨fun y w1 Y=> ?_,fun y=>⟨fun G vg Z=> ?_,fun G=>⟨fun H yF Wu=> ?_,fun H Al YU qK KE=> ?_⟩⟩⟩
 ·have hw:=k0 Y;rw[cc y];refine pm (IW (hp.aj hw) (h.aj hw lf) hl hn O (hx.aj hw) E y) ?_;rintro v w6 b6 ⟨b,A3,n3,c3,A4,n4,c4,rfl,q⟩;refine⟨_,_,_,_,_,_,_,rfl,pm (tL q) ?_⟩;rintro v w9 _ rfl;refine⟨_,rfl,dB Value.bool (jB.2 (not_congr ?_))⟩;exact DT
 ·have hw:=k0 Z;rw[ar y,ar om,cc G];refine pm (IX (hp.aj hw) (h.aj hw lf) hl hn g _ _) ?_;rintro v uY _ rfl;exact⟨_,rfl,rfl⟩
 ·rw[ar y,cc H];have key:∀(d i:Nat)(w':World),n1 - i=d->i<=n1->Below w.heap.size w w'->((hs.take i).any fun h=>fM ps l h.id x.r.a&&fM ps l h.id x.r.b)=false->
    F.aM.L7 A n c i A0 n0 c0 A1 n1 c1 A2 n2 c2 x.r.name x.r.kind x.A x.n x.c x.r.low x.r.high x.r.a x.r.b w.heap.size w' fun v _=>v= .bool (hs.any fun h=>fM ps l h.id x.r.a&&fM ps l h.id x.r.b):=by
   intro d;induction d with
   |zero=>
    intro i w' I hi hw B;rw[bx om]at B;exact F.aM.L7.step ⟨fun k=>by omega,fun _=>by rw[B]⟩
   |succ d ih=>
    intro i w' I hi hw B;have m:i<hs.length:=om;have e3:=sc i;have J:hs.take (i+1)=hs.take i++[hs[i]]:=by rw[eN,af m];rfl
    have next:(fM ps l hs[i].id x.r.a&&fM ps l hs[i].id x.r.b)=false->∀C,Below w.heap.size w C->F.aM.L7 A n c ((i:Int)+1) A0 n0 c0 A1 n1 c1 A2 n2 c2 x.r.name x.r.kind x.A x.n x.c x.r.low x.r.high x.r.a x.r.b w.heap.size C fun v _=>v= .bool (hs.any fun h=>fM ps l h.id x.r.a&&fM ps l h.id x.r.b):=by
     intro q C fF;rw[e3];refine ih (i+1) C om om fF ?_;rw[J,BO,B];simpa using q
    obtain⟨hb,a,o,_,e⟩:=((hp.aj hw).c.h).at_ (fun _=>rfl) W m;refine F.aM.L7.step ⟨fun _=>⟨hb,a,o,_,e 0 _ rfl,fun EH Yp=> ?_⟩,fun k=>by omega⟩;have K:=kE hw Yp;refine pm (IX (hp.aj K) (h.aj K lf) hl hn g _ _) ?_;rintro v Le L rfl;have D:=kP K L;refine⟨_,rfl,fun q1=>⟨hb,a,o,_,e 0 _ rfl,pm (IX (hp.aj D) (h.aj D lf) hl hn g _ _) ?_⟩,fun q1=>⟨ir,next (by rw[q1];rfl) Le D⟩⟩
    rintro v BH PY rfl;refine⟨_,rfl,fun q2=> ?_,fun q2=>⟨ir,next (by rw[q2,AG]) BH (kP D PY)⟩⟩
    refine dB Value.bool (Eq.symm ?_);exact kh.2 ⟨hs[i],cd m,by rw[q1,q2];rfl⟩
  exact key n1 0 yF rfl om (k0 Wu) rfl
 ·have P:=k0 YU;have Q:=kE P KE;have k4:x.r.kind=4:=om;obtain⟨i,hi⟩:=E.four k4;obtain⟨m,hid⟩:=vj hi;have VM:=(g.c.p1 _ (cd m)).2.1;rw[ar y,ar H,ar G];refine pm (kX (hp.aj Q).c _) ?_;rintro v Am OH rfl;rw[hi,DA,af m];obtain⟨hb,a,o,_,e⟩:=((hp.aj P).c.p).at_ (fun _=>rfl) hp.c.lp m;refine⟨_,rfl,hb,a,o,_,e 1 _ rfl,?_⟩;have key:∀(d j:Nat)(w':World),n - j=d->j<=n->Below w.heap.size w w'->F.aM.uA A n c (ps[i].aO - cG (l.take j) x.r.a) j x.r.name x.r.kind x.A x.n x.c x.r.low x.r.high x.r.a x.r.b w.heap.size w' fun v _=>v= .bool (decide (cG l x.r.a<ps[i].aO)):=by
   intro d;induction d with
   |zero=>
    intro j w' I hj z;rw[bx om];refine F.aM.uA.step ⟨fun h=>by omega,fun _=>dB Value.bool (jB.2 om)⟩
   |succ d ih=>
    intro j w' I hj z;have M:j<l.length:=om;have R:=sc j;have J:l.take (j+1)=l.take j++[l[j]]:=by rw[eN,af M];rfl
    have es:=lB (l.take j) l[j] x.r.a;rw[<-J]at es;have f1:=oC g.pos x.r.a j;have f2:=oC g.pos x.r.a (j+1);have f3:=g.full _ (cd m);rw[hid]at f3;have S:=g.pos _ (cd M);have cells:∀w',Below w.heap.size w w'->_:=fun w' z=>(h.aj z lf).at_ (fun _=>rfl) hl M
    obtain⟨hb,a,o,_,e⟩:=cells w' z;refine F.aM.uA.step ⟨fun _=>⟨hb,a,o,_,e 1 _ rfl,fun h1=>⟨hb,a,o,fun T YH=> ?_⟩,fun h1=>⟨ir,fun Mo N=> ?_⟩⟩,fun h=>by omega⟩
    ·have U:=kE z YH;obtain⟨_,a',V,_,pU⟩:=cells T U;rw[o]at V;cases V;rw[cc h1]at es;refine⟨_,pU 2 _ rfl,ir,ir,?_⟩;have:=ih (j+1) T om om U;rw[es,<-R]at this;rw[show ps[i].aO - cG (l.take j) x.r.a - l[j].aO=ps[i].aO - (cG (l.take j) x.r.a+l[j].aO) by omega];exact this
    ·rw[ar h1,Pl]at es;have:=ih (j+1) Mo om om (kE z N);rw[es,<-R]at this;exact this
  have:=key n 0 Am rfl om (kP Q OH);rw[Kv]at this;simpa[cG]using this
theorem I0(hp:fu w A0 n0 A1 n1 A2 n2 c2 ps hs xs)(h:cK w A 3 (l.map Sw.row))(hl:l.length=n)(hn:n<=40):
  Pure Tryz.prog 117 #[.agg #[.slice A0 n0 c0,.slice A1 n1 c1,.slice A2 n2 c2],.slice A n c] w fun v _=>∃A' m c',(mi ps hs (aT xs) l=false->v= .tuple #[.slice none 0 0,.int .i64 1])/\(mi ps hs (aT xs) l=true->v= .tuple #[.slice A' m c',.int .i64 0]/\m=(aT xs).countP (eE ps hs l)):=by
 have U:=hp.l;have H:=hp.n;refine F.bT.vc fun w1 I=> ?_
 have hw:=k0 I;refine pm (KZ (hp.aj hw) (h.aj hw lf) hl hn) ?_;rintro v J K rfl;have hw:=kP hw K;refine⟨_,rfl,fun k=>⟨none,0,0,fun _=>rfl,fun q=>(by rw[k]at q;cases q)⟩,fun k=> ?_⟩;have k:=hP _|>.mp k
 have g:=k;unfold mi at g;simp only[eb,nC]at g;have L:=(tc g.1).2.2;have key:∀(d i:Nat)(A':Option Addr)(m c':Nat)(w':World)(o:List Int),n2 - i=d->i<=n2->Below w.heap.size w w'->bF w' w.heap.size 3 A' m c' 1 (o.map dy)->m=(aT (xs.take i)).countP (eE ps hs l)->
   F.bT.L5 A n c A' m c' i A0 n0 c0 A1 n1 c1 A2 n2 c2 w.heap.size w' fun v _=>∃A' m c',(mi ps hs (aT xs) l=false->v= .tuple #[.slice none 0 0,.int .i64 1])/\(mi ps hs (aT xs) l=true->v= .tuple #[.slice A' m c',.int .i64 0]/\m=(aT xs).countP (eE ps hs l)):=by
  intro d;induction d with
  |zero=>
   intro i A' m c' w' o M hi hw ho hm;rw[bx om]at hm;exact F.bT.L5.step ⟨fun h=>by omega,fun _=>⟨A',m,c',fun q=>(by rw[k]at q;cases q),fun _=>⟨rfl,hm⟩⟩⟩
  |succ d ih=>
   intro i A' m c' w' o M hi hw ho hm;have y:i<xs.length:=om;have B:=sc i;have C:=cd y;have N:=L xs[i].r (BZ C);have O:m<=i:=by
    rw[hm];refine ga IQ ?_;unfold aT;rw[gv,fs];omega
   have D:(aT (xs.take (i+1))).countP (eE ps hs l)=m+if eE ps hs l xs[i].r then 1 else 0:=by
    rw[<-tO y,List.countP_append,<-hm,List.countP_singleton]
   obtain⟨hb,a,P,b,_⟩:=(hp.aj hw).at_ y;refine F.bT.L5.step ⟨fun _=>⟨hb,a,P,_,_,_,_,_,_,_,_,_,b,fun V E=> ?_⟩,fun h=>by omega⟩;have j:=kE hw E;refine pm (IY (hp.aj j) (h.aj j lf) hl hn g.2 ((hp.f _ C).aj j) N) ?_;rintro v Q G rfl;have z:=kP j G;have ho:=(ho.eA E).below G;refine⟨_,rfl,fun e=> ?_,fun e=>⟨ir,?_⟩⟩
   ·refine ny ft lf ho (x:= .int .i64 (i:Int)) rfl (by simp[Value.cells,dA]) z.size om dc fun A3 c3 R S _ T=>⟨ir,?_⟩
    rw[B];refine ih (i+1) A3 (m+1) c3 R (o++[(i:Int)]) om om (z.trans T) (by rw[lx];exact S) ?_;rw[D,cc e]
   ·rw[B];refine ih (i+1) A' m c' Q o om om z ho ?_;rw[D,ar (by simp[e])];rfl
 exact key n2 0 none 0 0 J [] rfl om hw bF.nil rfl
theorem CX(hp:fu w A0 n0 A1 n1 A2 n2 c2 ps hs xs)(h:cK w A 3 (l.map Sw.row))(hl:l.length=n)(hn:n<=40):
  Pure Tryz.prog 81 #[.agg #[.slice A0 n0 c0,.slice A1 n1 c1,.slice A2 n2 c2],.slice A n c] w fun v _=>v= .bool (pW ps hs (aT xs) l):=by
 refine F.jT.vc fun w1 b=> ?_
 have hw:=k0 b;refine pm (I0 (hp.aj hw) (h.aj hw lf) hl hn) ?_;rintro v g d ⟨A',m,c',q1,q2⟩;have hw:=kP hw d;unfold pW;cases a:mi ps hs (aT xs) l with
 |false=>
  rw[q1 a];exact⟨_,_,_,_,rfl,fun _=>rfl,fun k=>absurd k dc⟩
 |true=>
  obtain⟨rfl,hm⟩:=q2 a;unfold mi at a;simp only[eb,nC]at a;have e:(aT xs).any (eE ps hs l)=decide (0<m):=by
   rw[hm,sr,nC,List.countP_pos_iff,kh]
  rw[e,lI];refine⟨_,_,_,_,rfl,fun k=>absurd rfl k,fun _=>⟨fun h2=> ?_,fun h2=> ?_⟩⟩
  ·rw[fc (show 0<m by omega)];rfl
  ·rw[eh (show ¬0<m by omega),GK,lI];refine pm (AL (hp.aj hw).c (h.aj hw lf) hl hn) ?_;rintro v i _ rfl;unfold CE;rw[ar (fun k=>k a.2)];exact⟨_,_,rfl,dB Value.bool (jB.2 gh)⟩
end
end Go.Proofs.YtgfkeadgjkfomaaGreatDoor.B

set_option maxRecDepth 100000
set_option maxHeartbeats 4000000
namespace Go.Proofs.YtgfkeadgjkfomaaGreatDoor.F
open Go Go.RowKit Go.Proofs Go.Proofs.YtgfkeadgjkfomaaGreatDoor.Vc
def aw.L7(a:O)(b c:Nat)(d:O)(e f:Nat)(g:O)(i j:Nat)(l:O)(m n:Nat)(o:Int)(p:O)(q r:Nat)(s:O)(t u:Nat):=Lt 15 Tryz.f15 7 [(3,.loc 3 0),(8,.v (.slice a b c)),(10,.v (.slice d e f)),(12,.v (.slice g i j)),(13,.v (.slice l m n)),(14,.v (.int .i64 o))] [⟨3,false,25,[(.slice p q r),(.slice s t u)]⟩]
def aw.pd(a:O)(b c:Nat)(d:O)(e f:Nat)(g:O)(i j:Nat)(l:O)(m n:Nat)(o p:Int)(q:O)(r s:Nat)(t:O)(u v:Nat):=Lt 15 Tryz.f15 10 [(3,.loc 3 0),(8,.v (.slice a b c)),(10,.v (.slice d e f)),(12,.v (.slice g i j)),(13,.v (.slice l m n)),(14,.v (.int .i64 o)),(15,.v (.int .i64 p))] [⟨3,false,25,[(.slice q r s),(.slice t u v)]⟩]
def aw.UM(a:O)(b c:Nat)(d:O)(e f:Nat)(g:O)(i j:Nat)(l:O)(m n:Nat)(o p:Int)(q:Addr)(r:O)(s t:Nat)(u:O)(v x:Nat):=Jt 15 Tryz.f15 16 [(3,.loc 3 0),(8,.v (.slice a b c)),(10,.v (.slice d e f)),(12,.v (.slice g i j)),(13,.v (.slice l m n)),(14,.v (.int .i64 o)),(15,.v (.int .i64 p)),(17,.v (.pointer (some q)))] [⟨3,false,25,[(.slice r s t),(.slice u v x)]⟩]
def aw.cx:Pm:=([((true,7),[3,8,10,12,13,14],[3]),((true,10),[3,8,10,12,13,14,15],[3]),((false,16),[3,8,10,12,13,14,15,17],[3])],[(14,0,11),(15,2,2),(15,3,2),(17,2,2),(17,3,2),(18,2,2)])
theorem aw.L7.step{j l a b m n:O}{o p q r c d e f s t g u B:Nat}{i:Int}{w:World}{R:Kt}
  (h:(Br (i<(g:Int)) (aw.pd j o p l q r a c d b e f i (0:Int) m s t n g u B w R) (au P (Builtin.append_ #[30,30] 30 #[.slice a c d,.slice b e f]) B [25] w (Rs fun y v z x=>(Br ((v:Int)>6) (R (.tuple #[.slice none 0 0,.int .i64 8]) x) (R (.tuple #[.slice y v z,.int .i64 0]) x)))))):
  aw.L7 j o p l q r a c d b e f i m s t n g u B w R:=
 lr aw.cx Tryz.func15 h
theorem aw.pd.step{g i o p j l:O}{m q n r s t u v e x c y B:Nat}{a b:Int}{w:World}{R:Kt}
  (h:(Br (b<(e:Int)) (az .i64 (b*(c:Int))/\(az .i64 ((b*(c:Int))+a)/\(Ix a c l fun J=>(∃C,ae w ((J.add ((a).toNat*7)).add 0) [.int .i64 C]/\(Ix b e j fun K=>(∃D,ae w ((K.add ((b).toNat*7)).add 0) [.int .i64 D]/\(Ix ((b*(c:Int))+a) n i fun L=>(∃z,ae w (L.add ((((b*(c:Int))+a)).toNat*1)) [.int .i64 z]/\(Ix ((b*(c:Int))+a) m g fun M=>(∃A,ae w (M.add ((((b*(c:Int))+a)).toNat*1)) [.int .i64 A]/\(az .i64 (z - A)/\(∀f,Ext B [] w f->(∀d:Nat,B<=d->w.heap.size<=d->f.heap[d]? =some (.cells [.int .i64 C,.int .i64 D,(.int .i64 (z - A))].toArray 44 (0,0))->(∃E,ae f ((⟨d,0,none⟩:Addr).add 2) [.int .i64 E]/\(Br (E<0) (∃G H I,ae f (⟨d,0,none⟩:Addr) [.int .i64 G,.int .i64 H,.int .i64 I]/\(au P (Instr.buildSlice 30 1 #[(0,(.agg #[.int .i64 G,.int .i64 H,.int .i64 I]))]) B [25] f (Rs fun N Q S T=>(au P (Builtin.append_ #[30,30] 30 #[.slice o s t,.slice N Q S]) B [25] T (Rs fun U V X Y=>(aw.UM g m q i n r U V X p u v a b (⟨d,0,none⟩:Addr) j e x l c y B Y R)))))) (aw.UM g m q i n r o s t p u v a b (⟨d,0,none⟩:Addr) j e x l c y B f R)))))))))))))))) (az .i64 (a+1)/\(aw.L7 g m q i n r o s t p u v (a+1) j e x l c y B w R)))):
  aw.pd g m q i n r o s t p u v a b j e x l c y B w R:=
 lr aw.cx Tryz.func15 h
theorem aw.UM.step{b c d e f g:O}{i j l m n o p q r s t u B:Nat}{v a:Int}{x:Addr}{w:World}{R:Kt}
  (h:(∃y,ae w (x.add 2) [.int .i64 y]/\(Br (y>0) (∃z A C,ae w x [.int .i64 z,.int .i64 A,.int .i64 C]/\(au P (Instr.buildSlice 30 1 #[(0,(.agg #[.int .i64 z,.int .i64 A,.int .i64 C]))]) B [25] w (Rs fun D E G H=>(au P (Builtin.append_ #[30,30] 30 #[.slice e p q,.slice D E G]) B [25] H (Rs fun I J K L=>(az .i64 (a+1)/\(aw.pd b i j c l m d n o I J K v (a+1) f r s g t u B L R))))))) (az .i64 (a+1)/\(aw.pd b i j c l m d n o e p q v (a+1) f r s g t u B w R))))):
  aw.UM b i j c l m d n o e p q v a x f r s g t u B w R:=
 jr aw.cx Tryz.func15 h
theorem aw.vc{a b i j:O}{c d e f l m n o:Nat}{w:World}{R:Kt}
  (h:(∀p,Ext w.heap.size [] w p->(Pure P 46 #[.agg #[.slice a c d,.slice b e f],.slice i l m] p (BC fun q r s t u=>(Pure P 46 #[.agg #[.slice a c d,.slice b e f],.slice j n o] u (BC fun v x y z g=>(Br (t≠0) (R (.tuple #[.slice none 0 0,.int .i64 1]) g) (Br (z≠0) (R (.tuple #[.slice none 0 0,.int .i64 1]) g) (aw.L7 q r s v x y none 0 0 none 0 0 (0:Int) a c d b e f w.heap.size g R))))))))):
  Pure P 15 #[.agg #[.slice a c d,.slice b e f],.slice i l m,.slice j n o] w R:=
 pr aw.cx Tryz.func15 h

def jX.cx:Pm:=([],[])
theorem jX.vc{d e f g i:O}{j l m n o p q r a s:Nat}{b:Int}{w:World}{R:Kt}
  (h:(∀t,Ext w.heap.size [] w t->(Pure P 50 #[.agg #[.slice d j l,.slice e m n,.slice f o p],.slice g q r,.slice i a s] t (Ri fun u c=>(Br (u≠0) (R (.tuple #[.slice none 0 0,.int .i64 u]) c) (Br (b<0) (R (.tuple #[.slice none 0 0,.int .i64 2]) c) (pe .i64 (a:Int)/\(Br (b≥(iP .i64 1 (a:Int))) (R (.tuple #[.slice none 0 0,.int .i64 2]) c) (Pure P 51 #[.agg #[.slice d j l,.slice e m n,.slice f o p],.slice g q r,.slice i a s,.int .i64 b] c (T5 fun x y z A v=>(Br (A=false) (R (.tuple #[.slice none 0 0,.int .i64 15]) v) (R (.tuple #[.slice x y z,.int .i64 0]) v)))))))))))):
  Pure P 19 #[.agg #[.slice d j l,.slice e m n,.slice f o p],.slice g q r,.slice i a s,.int .i64 b] w R:=
 pr jX.cx Tryz.func19 h

def cR.L4(a:O)(b c:Nat)(d:O)(e f:Nat)(g:Int):=Lt 20 Tryz.f20 4 [(0,.v (.slice a b c)),(1,.v (.slice d e f)),(5,.v (.int .i64 g))] []
def cR.cx:Pm:=([((true,4),[0,1,5],[])],[])
theorem cR.L4.step{c d:O}{b f e g B:Nat}{a:Int}{w:World}{R:Kt}
  (h:(Br (a<(b:Int)) (Ix a b c fun r=>(∃i j l,ae w (r.add ((a).toNat*3)) [.int .i64 i,.int .i64 j,.int .i64 l]/\(Ix a e d fun s=>(∃m n o,ae w (s.add ((a).toNat*3)) [.int .i64 m,.int .i64 n,.int .i64 o]/\(Br (¬(i=m/\j=n/\l=o/\True)) (∀p,Ext B [] w p->(R (.bool false) p)) (az .i64 (a+1)/\(∀q,Ext B [] w q->(cR.L4 c b f d e g (a+1) B q R)))))))) (R (.bool true) w))):
  cR.L4 c b f d e g a B w R:=
 lr cR.cx Tryz.func20 h
theorem cR.vc{c d:O}{a e b f:Nat}{w:World}{R:Kt}
  (h:(Br ((a:Int)≠(b:Int)) (R (.bool false) w) (cR.L4 c a e d b f (0:Int) w.heap.size w R))):
  Pure P 20 #[.slice c a e,.slice d b f] w R:=
 pr cR.cx Tryz.func20 h

def jY.cx:Pm:=([],[])
theorem jY.vc{b c d e f:O}{g i j l m n o p a q:Nat}{w:World}{R:Kt}
  (h:(∀r,Ext w.heap.size [] w r->(Pure P 50 #[.agg #[.slice b g i,.slice c j l,.slice d m n],.slice e o p,.slice f a q] r (Ri fun s t=>(Br (s≠0) (R (.tuple #[.slice none 0 0,.int .i64 s]) t) (pe .i64 (a:Int)/\(az .i64 ((iP .i64 1 (a:Int)) - (1:Int))/\(∀u,Ext w.heap.size [] t u->(Pure P 55 #[.agg #[.slice b g i,.slice c j l,.slice d m n],.slice e o p,.slice f a q] u (Rs fun x y z A=>(Pure P 54 #[.slice x y z,(.int .i64 ((iP .i64 1 (a:Int)) - (1:Int)))] A (Rb fun C v=>(Br (C=false) (R (.tuple #[.slice none 0 0,.int .i64 19]) v) (Pure P 56 #[.agg #[.slice b g i,.slice c j l,.slice d m n],.slice e o p,.slice f a q,.int .i64 0] v (T5 fun D E G I H=>(R (.tuple #[.slice D E G,.int .i64 0]) H)))))))))))))))):
  Pure P 23 #[.agg #[.slice b g i,.slice c j l,.slice d m n],.slice e o p,.slice f a q] w R:=
 pr jY.cx Tryz.func23 h

def iG.cx:Pm:=([],[])
theorem iG.vc{a b c d e:O}{f g i j l m n o p q:Nat}{w:World}{R:Kt}
  (h:(∀r,Ext w.heap.size [] w r->(Pure P 50 #[.agg #[.slice a f g,.slice b i j,.slice c l m],.slice d n o,.slice e p q] r (Ri fun s t=>(Br (s≠0) (R (.tuple #[.slice none 0 0,.int .i64 s]) t) (Pure P 55 #[.agg #[.slice a f g,.slice b i j,.slice c l m],.slice d n o,.slice e p q] t (Rs fun u v x y=>(R (.tuple #[.slice u v x,.int .i64 0]) y)))))))):
  Pure P 25 #[.agg #[.slice a f g,.slice b i j,.slice c l m],.slice d n o,.slice e p q] w R:=
 pr iG.cx Tryz.func25 h

def bn.L6(a:O)(b c:Nat)(d:O)(e f:Nat)(g:O)(i j:Nat)(l m:Int)(n:O)(o p:Nat)(q:O)(r s:Nat)(t:O)(u v:Nat):=Lt 29 Tryz.f29 6 [(1,.v (.slice a b c)),(2,.v (.slice d e f)),(3,.v (.slice g i j)),(4,.loc 4 0),(11,.v (.int .i64 l)),(12,.v (.int .i64 m))] [⟨4,false,28,[(.slice n o p),(.slice q r s),(.slice t u v)]⟩]
def bn.tJ(a:O)(b c:Nat)(d:O)(e f:Nat)(g:O)(i j:Nat)(l m:Int)(n:O)(o p:Nat)(q:O)(r s:Nat)(t:O)(u v:Nat):=Lt 29 Tryz.f29 15 [(1,.v (.slice a b c)),(2,.v (.slice d e f)),(3,.v (.slice g i j)),(4,.loc 4 0),(11,.v (.int .i64 l)),(13,.v (.int .i64 m))] [⟨4,false,28,[(.slice n o p),(.slice q r s),(.slice t u v)]⟩]
def bn.cx:Pm:=([((true,6),[1,2,3,4,11,12],[4]),((true,15),[1,2,3,4,11,13],[4])],[])
theorem bn.L6.step{e f c g i j:O}{l m d n b o p q r s t u B:Nat}{v a:Int}{w:World}{R:Kt}
  (h:(Br (a<(b:Int)) (Ix a b c fun D=>(∃z,ae w (D.add ((a).toNat*1)) [.int .i64 z]/\(Br (z<0) (R (.tuple #[(.int .i64 (-1:Int)),.int .i64 10]) w) (Ix a b c fun E=>(∃A,ae w (E.add ((a).toNat*1)) [.int .i64 A]/\(Br (A≥(d:Int)) (R (.tuple #[(.int .i64 (-1:Int)),.int .i64 10]) w) (Ix a b c fun G=>(∃C,ae w (G.add ((a).toNat*1)) [.int .i64 C]/\(Pure P 58 #[.int .i64 v,.int .i64 C] w (Rb fun H x=>(Bb H (R (.tuple #[(.int .i64 (-1:Int)),.int .i64 10]) x) (Ix a b c fun I=>(∃y,ae x (I.add ((a).toNat*1)) [.int .i64 y]/\(pe .i64 y/\(az .i64 (a+1)/\(bn.L6 e l m f d n c b o (bits .or .i64 v (iP .i64 1 y)) (a+1) g p q i r s j t u B x R)))))))))))))))) (Br ((b:Int)≠(d:Int)) (R (.tuple #[(.int .i64 (-1:Int)),.int .i64 10]) w) (bn.tJ e l m f d n c b o (0:Int) (0:Int) g p q i r s j t u B w R)))):
  bn.L6 e l m f d n c b o v a g p q i r s j t u B w R:=
 lr bn.cx Tryz.func29 h
theorem bn.tJ.step{d e f g i j:O}{l m n o b x p q r s t u B:Nat}{v a:Int}{w:World}{R:Kt}
  (h:(Br (a<(b:Int)) (Ix a b f fun z=>(∃c,ae w (z.add ((a).toNat*1)) [.int .i64 c]/\(pe .i64 c/\(Pure P 59 #[.agg #[.slice g p q,.slice i r s,.slice j t u],.slice d l m,.slice e n o,(.int .i64 (bits .or .i64 v (iP .i64 1 c)))] w (Rb fun A y=>(Br (A=false) (R (.tuple #[.int .i64 a,.int .i64 15]) y) (az .i64 (a+1)/\(bn.tJ d l m e n o f b x (bits .or .i64 v (iP .i64 1 c)) (a+1) g p q i r s j t u B y R)))))))) (R (.tuple #[(.int .i64 (-1:Int)),.int .i64 0]) w))):
  bn.tJ d l m e n o f b x v a g p q i r s j t u B w R:=
 lr bn.cx Tryz.func29 h
theorem bn.vc{a b c d e r:O}{f g i j l m n o p q s t:Nat}{w:World}{R:Kt}
  (h:(∀u,Ext w.heap.size [] w u->(Pure P 50 #[.agg #[.slice a f g,.slice b i j,.slice c l m],.slice d n o,.slice e p q] u (Ri fun v x=>(Br (v≠0) (R (.tuple #[(.int .i64 (-1:Int)),.int .i64 v]) x) (bn.L6 d n o e p q r s t (0:Int) (0:Int) a f g b i j c l m w.heap.size x R)))))):
  Pure P 29 #[.agg #[.slice a f g,.slice b i j,.slice c l m],.slice d n o,.slice e p q,.slice r s t] w R:=
 pr bn.cx Tryz.func29 h

def aJ.L8(a:O)(b c:Nat)(d:O)(e f:Nat)(g:O)(i j:Nat)(l m:Int)(n:O)(o p:Nat)(q:O)(r s:Nat)(t:O)(u v:Nat):=Lt 31 Tryz.f31 8 [(1,.v (.slice a b c)),(2,.v (.slice d e f)),(3,.v (.slice g i j)),(4,.loc 4 0),(10,.v (.int .i64 l)),(11,.v (.int .i64 m))] [⟨4,false,28,[(.slice n o p),(.slice q r s),(.slice t u v)]⟩]
def aJ.Bp(a:O)(b c:Nat)(d:O)(e f:Nat)(g:O)(i j:Nat)(l m n:Int)(o:O)(p q:Nat)(r:O)(s t:Nat)(u:O)(v x:Nat):=Lt 31 Tryz.f31 13 [(1,.v (.slice a b c)),(2,.v (.slice d e f)),(3,.v (.slice g i j)),(4,.loc 4 0),(10,.v (.int .i64 l)),(11,.v (.int .i64 m)),(12,.v (.int .i64 n))] [⟨4,false,28,[(.slice o p q),(.slice r s t),(.slice u v x)]⟩]
def aJ.cx:Pm:=([((true,8),[1,2,3,4,10,11],[4]),((true,13),[1,2,3,4,10,11,12],[4])],[])
theorem aJ.L8.step{e f c g i j:O}{l m n o b p q r s t u v B:Nat}{d a:Int}{w:World}{R:Kt}
  (h:(Br (a<(b:Int)) (Ix a b c fun I=>(∃x,ae w (I.add ((a).toNat*1)) [.int .i64 x]/\(Br (x<0) (∀y,Ext B [] w y->(R (.int .i64 14) y)) (Ix a b c fun J=>(∃z,ae w (J.add ((a).toNat*1)) [.int .i64 z]/\(Br (z>d) (∀A,Ext B [] w A->(R (.int .i64 14) A)) (Br (a>0) (az .i64 (a - (1:Int))/\(Ix (a - (1:Int)) b c fun K=>(∃C,ae w (K.add (((a - (1:Int))).toNat*1)) [.int .i64 C]/\(Ix a b c fun L=>(∃D,ae w (L.add ((a).toNat*1)) [.int .i64 D]/\(Br (C≥D) (∀E,Ext B [] w E->(R (.int .i64 14) E)) (∀G,Ext B [] w G->(aJ.Bp e l m f n o c b p d a (0:Int) g q r i s t j u v B G R)))))))) (∀H,Ext B [] w H->(aJ.Bp e l m f n o c b p d a (0:Int) g q r i s t j u v B H R))))))))) (R (.int .i64 0) w))):
  aJ.L8 e l m f n o c b p d a g q r i s t j u v B w R:=
 lr aJ.cx Tryz.func31 h
theorem aJ.Bp.step{f g c i j l:O}{m n e o d p q r s t u v B:Nat}{x b a:Int}{w:World}{R:Kt}
  (h:(Br (a<(e:Int)) (Ix b d c fun G=>(∃y,ae w (G.add ((b).toNat*1)) [.int .i64 y]/\(pe .i64 a/\(Ix b d c fun H=>(∀z,Ext B [] w z->(∃A,ae z (H.add ((b).toNat*1)) [.int .i64 A]/\(Pure P 58 #[.int .i64 A,.int .i64 a] z (Rb fun I C=>(Br (I=false) (Pure P 54 #[.slice c d p,(.int .i64 (bits .or .i64 y (iP .i64 1 a)))] C (Rb fun J D=>(Br (J=false) (Pure P 59 #[.agg #[.slice i q r,.slice j s t,.slice l u v],.slice f m n,.slice g e o,(.int .i64 (bits .or .i64 y (iP .i64 1 a)))] D (Rb fun K E=>(Bb K (R (.int .i64 14) E) (az .i64 (a+1)/\(aJ.Bp f m n g e o c d p x b (a+1) i q r j s t l u v B E R))))) (az .i64 (a+1)/\(aJ.Bp f m n g e o c d p x b (a+1) i q r j s t l u v B D R))))) (az .i64 (a+1)/\(aJ.Bp f m n g e o c d p x b (a+1) i q r j s t l u v B C R))))))))))) (az .i64 (b+1)/\(aJ.L8 f m n g e o c d p x (b+1) i q r j s t l u v B w R)))):
  aJ.Bp f m n g e o c d p x b a i q r j s t l u v B w R:=
 lr aJ.cx Tryz.func31 h
theorem aJ.vc{e f g i j b:O}{l m n o p q r s a t c d:Nat}{w:World}{R:Kt}
  (h:(∀u,Ext w.heap.size [] w u->(Pure P 50 #[.agg #[.slice e l m,.slice f n o,.slice g p q],.slice i r s,.slice j a t] u (Ri fun v x=>(Br (v≠0) (R (.int .i64 v) x) (pe .i64 (a:Int)/\(az .i64 ((iP .i64 1 (a:Int)) - (1:Int))/\(Pure P 54 #[.slice b c d,.int .i64 0] x (Rb fun A y=>(Br (A=false) (R (.int .i64 14) y) (Pure P 54 #[.slice b c d,(.int .i64 ((iP .i64 1 (a:Int)) - (1:Int)))] y (Rb fun C z=>(Bb C (R (.int .i64 14) z) (aJ.L8 i r s j a t b c d ((iP .i64 1 (a:Int)) - (1:Int)) (0:Int) e l m f n o g p q w.heap.size z R)))))))))))))):
  Pure P 31 #[.agg #[.slice e l m,.slice f n o,.slice g p q],.slice i r s,.slice j a t,.slice b c d] w R:=
 pr aJ.cx Tryz.func31 h

def bz.L9(a:O)(b c:Nat)(d:Int)(e:O)(f g:Nat)(i:O)(j l:Nat)(m:O)(n o:Nat):=Lt 50 Tryz.f50 9 [(2,.v (.slice a b c)),(3,.loc 3 0),(9,.v (.int .i64 d))] [⟨3,false,28,[(.slice e f g),(.slice i j l),(.slice m n o)]⟩]
def bz.uA(a:O)(b c:Nat)(d:Int):=Lt 50 Tryz.f50 14 [(2,.v (.slice a b c)),(10,.v (.int .i64 d))] []
def bz.cx:Pm:=([((true,9),[2,3,9],[3]),((true,14),[2,10],[])],[])
theorem bz.L9.step{c d e m:O}{b l f g i j n o B:Nat}{a:Int}{w:World}{R:Kt}
  (h:(Br (a<(b:Int)) (Ix a b c fun u=>(∃p,ae w ((u.add ((a).toNat*3)).add 0) [.int .i64 p]/\(∀q,Ext B [] w q->(Pure P 82 #[.agg #[.slice d f g,.slice e i j],.int .i64 p] q (Ri fun v r=>(Br (v<0) (R (.int .i64 7) r) (Ix a b c fun x=>(∃s,ae w ((x.add ((a).toNat*3)).add 1) [.int .i64 s]/\(Pure P 83 #[.agg #[.slice d f g,.slice e i j],.int .i64 s] r (Ri fun y t=>(Br (y<0) (R (.int .i64 7) t) (az .i64 (a+1)/\(bz.L9 c b l (a+1) d f g e i j m n o B t R))))))))))))) (bz.uA c b l (0:Int) B w R))):
  bz.L9 c b l a d f g e i j m n o B w R:=
 lr bz.cx Tryz.func50 h
theorem bz.uA.step{c:O}{b d B:Nat}{a:Int}{w:World}{R:Kt}
  (h:(Br (a<(b:Int)) (Ix a b c fun i=>(∃e,ae w ((i.add ((a).toNat*3)).add 2) [.int .i64 e]/\(Br (e=0) (R (.int .i64 2) w) (Ix a b c fun j=>(∃f,ae w ((j.add ((a).toNat*3)).add 2) [.int .i64 f]/\(Br (f<(-9:Int)) (R (.int .i64 2) w) (Ix a b c fun l=>(∃g,ae w ((l.add ((a).toNat*3)).add 2) [.int .i64 g]/\(Br (g>9) (R (.int .i64 2) w) (az .i64 (a+1)/\(bz.uA c b d (a+1) B w R))))))))))) (R (.int .i64 0) w))):
  bz.uA c b d a B w R:=
 lr bz.cx Tryz.func50 h
theorem bz.vc{a b c n o:O}{d e f g i j p q l r:Nat}{w:World}{R:Kt}
  (h:(∀s,Ext w.heap.size [] w s->(Pure P 80 #[.agg #[.slice a d e,.slice b f g,.slice c i j]] s (Rii fun x u t=>(Br (u≠0) (R (.int .i64 1) t) (Pure P 81 #[.agg #[.slice a d e,.slice b f g,.slice c i j],.slice n p q] t (Rb fun v m=>(Br (v=false) (R (.int .i64 11) m) (Br ((l:Int)>6) (R (.int .i64 8) m) (bz.L9 o l r (0:Int) a d e b f g c i j w.heap.size m R)))))))))):
  Pure P 50 #[.agg #[.slice a d e,.slice b f g,.slice c i j],.slice n p q,.slice o l r] w R:=
 pr bz.cx Tryz.func50 h

def cm.L3(a:O)(b c:Nat)(d:Int)(e:O)(f g:Nat)(i:Int)(j:O)(l m:Nat)(n:O)(o p:Nat)(q:O)(r s:Nat):=Lt 51 Tryz.f51 3 [(2,.v (.slice a b c)),(3,.v (.int .i64 d)),(4,.loc 4 0),(10,.v (.slice e f g)),(12,.v (.int .i64 i))] [⟨4,false,28,[(.slice j l m),(.slice n o p),(.slice q r s)]⟩]
def cm.cx:Pm:=([((true,3),[2,3,4,10,12],[4])],[])
theorem cm.L3.step{m n e f r:O}{g x o s i j a l t u B:Nat}{v b:Int}{w:World}{R:Kt}
  (h:(Br (b<(g:Int)) (Pure P 58 #[.int .i64 v,.int .i64 b] w (Rb fun J p=>(Bb J (Ix b g m fun K=>(∃D,ae p ((K.add ((b).toNat*3)).add 1) [.int .i64 D]/\(Ix b g m fun L=>(∃E,ae p ((L.add ((b).toNat*3)).add 0) [.int .i64 E]/\(Ix b g m fun M=>(∃y,ae p ((M.add ((b).toNat*3)).add 2) [.int .i64 y]/\(∀G,Ext B [] p G->(Pure P 83 #[.agg #[.slice e i j,.slice f a l],.int .i64 D] G (Ri fun c N=>(az .i64 (c*(a:Int))/\(Pure P 82 #[.agg #[.slice e i j,.slice f a l],.int .i64 E] N (Ri fun d H=>(az .i64 ((c*(a:Int))+d)/\(Ix ((c*(a:Int))+d) o n fun Q=>(∃z,ae p (Q.add ((((c*(a:Int))+d)).toNat*1)) [.int .i64 z]/\(az .i64 (z+y)/\(Ix ((c*(a:Int))+d) o n fun q=>(∃(A:List Value)(C:Nat),B<=(q.add ((((c*(a:Int))+d)).toNat*1)).block/\(q.add ((((c*(a:Int))+d)).toNat*1)).spot=none/\H.heap[(q.add ((((c*(a:Int))+d)).toNat*1)).block]? =some (.cells A.toArray C (0,0))/\(q.add ((((c*(a:Int))+d)).toNat*1)).off+1<=A.length/\hasType C [⟨4,false,28,[.slice e i j,.slice f a l,.slice r t u]⟩]=false/\∀I,dd H I (q.add ((((c*(a:Int))+d)).toNat*1)).block C (setCells A (q.add ((((c*(a:Int))+d)).toNat*1)).off [(.int .i64 (z+y))])->(az .i64 (b+1)/\(cm.L3 m g x v n o s (b+1) e i j f a l r t u B I R)))))))))))))))))))) (az .i64 (b+1)/\(cm.L3 m g x v n o s (b+1) e i j f a l r t u B p R))))) (Pure P 84 #[.agg #[.slice e i j,.slice f a l],.slice n o s] w (BC fun S T U V X=>(R (.tuple #[.slice S T U,(.bool (decide (V=0)))]) X))))):
  cm.L3 m g x v n o s b e i j f a l r t u B w R:=
 lr cm.cx Tryz.func51 h
theorem cm.vc{a b g i j:O}{c d e f l m n o p q:Nat}{r:Int}{w:World}{R:Kt}
  (h:(∀s,Ext w.heap.size [] w s->(Pure P 46 #[.agg #[.slice a c d,.slice b e f],.slice i n o] s (BC fun t u v y x=>(cm.L3 j p q r t u v (0:Int) a c d b e f g l m w.heap.size x R))))):
  Pure P 51 #[.agg #[.slice a c d,.slice b e f,.slice g l m],.slice i n o,.slice j p q,.int .i64 r] w R:=
 pr cm.cx Tryz.func51 h

def cW.L2(a:O)(b c:Nat)(d e:Int):=Lt 54 Tryz.f54 2 [(0,.v (.slice a b c)),(1,.v (.int .i64 d)),(5,.v (.int .i64 e))] []
def cW.cx:Pm:=([((true,2),[0,1,5],[])],[])
theorem cW.L2.step{c:O}{b e B:Nat}{d a:Int}{w:World}{R:Kt}
  (h:(Br (a<(b:Int)) (Ix a b c fun g=>(∃f,ae w (g.add ((a).toNat*1)) [.int .i64 f]/\(Br (f=d) (R (.bool true) w) (az .i64 (a+1)/\(cW.L2 c b e d (a+1) B w R))))) (R (.bool false) w))):
  cW.L2 c b e d a B w R:=
 lr cW.cx Tryz.func54 h
theorem cW.vc{a:O}{b c:Nat}{d:Int}{w:World}{R:Kt}
  (h:(cW.L2 a b c d (0:Int) w.heap.size w R)):
  Pure P 54 #[.slice a b c,.int .i64 d] w R:=
 pr cW.cx Tryz.func54 h

def aA.L3(a:O)(b c:Nat)(d:O)(e f:Nat)(g:O)(i j:Nat)(l:Int)(m:O)(n o:Nat)(p:O)(q r:Nat)(s:O)(t u:Nat):=Lt 55 Tryz.f55 3 [(1,.v (.slice a b c)),(2,.v (.slice d e f)),(3,.loc 3 0),(7,.v (.slice g i j)),(8,.v (.int .i64 l))] [⟨3,false,28,[(.slice m n o),(.slice p q r),(.slice s t u)]⟩]
def aA.L7(a:O)(b c:Nat)(d:O)(e f:Nat)(g:O)(i j:Nat)(l:Int)(m:Bool)(n:Int)(o:O)(p q:Nat)(r:O)(s t:Nat)(u:O)(v x:Nat):=Lt 55 Tryz.f55 7 [(1,.v (.slice a b c)),(2,.v (.slice d e f)),(3,.loc 3 0),(7,.v (.slice g i j)),(8,.v (.int .i64 l)),(9,.v (.bool m)),(10,.v (.int .i64 n))] [⟨3,false,28,[(.slice o p q),(.slice r s t),(.slice u v x)]⟩]
def aA.cx:Pm:=([((true,3),[1,2,3,7,8],[3]),((true,7),[1,2,3,7,8,9,10],[3])],[(1,0,2),(11,2,2),(11,3,2)])
theorem aA.L3.step{f g b i j l:O}{m n a o c d p q r s t u B:Nat}{e:Int}{w:World}{R:Kt}
  (h:(pe .i64 (a:Int)/\(Br (e<(iP .i64 1 (a:Int))) (aA.L7 f m n g a o b c d e false (0:Int) i p q j r s l t u B w R) (R (.slice b c d) w)))):
  aA.L3 f m n g a o b c d e i p q j r s l t u B w R:=
 lr aA.cx Tryz.func55 h
theorem aA.L7.step{d e f g i j:O}{l m c n o p q r s t u v B:Nat}{a b:Int}{x:Bool}{w:World}{R:Kt}
  (h:(Br (b<(c:Int)) (Bb x (az .i64 (b+1)/\(aA.L7 d l m e c n f o p a true (b+1) g q r i s t j u v B w R)) (Pure P 58 #[.int .i64 a,.int .i64 b] w (Rb fun A y=>(Bb A (pe .i64 b/\(Pure P 54 #[.slice f o p,(.int .i64 (bits .xor .i64 a (iP .i64 1 b)))] y (Rb fun C D=>(az .i64 (b+1)/\(aA.L7 d l m e c n f o p a C (b+1) g q r i s t j u v B D R))))) (az .i64 (b+1)/\(aA.L7 d l m e c n f o p a false (b+1) g q r i s t j u v B y R)))))) (Bb x (Pure P 59 #[.agg #[.slice g q r,.slice i s t,.slice j u v],.slice d l m,.slice e c n,.int .i64 a] w (Rb fun E z=>(Bb E (au P (Instr.buildSlice 48 1 #[(0,(.int .i64 a))]) B [28] z (Rs fun G H I J=>(au P (Builtin.append_ #[48,48] 48 #[.slice f o p,.slice G H I]) B [28] J (Rs fun K L M N=>(az .i64 (a+1)/\(aA.L3 d l m e c n K L M (a+1) g q r i s t j u v B N R)))))) (az .i64 (a+1)/\(aA.L3 d l m e c n f o p (a+1) g q r i s t j u v B z R))))) (az .i64 (a+1)/\(aA.L3 d l m e c n f o p (a+1) g q r i s t j u v B w R))))):
  aA.L7 d l m e c n f o p a x b g q r i s t j u v B w R:=
 lr aA.cx Tryz.func55 h
theorem aA.vc{a b c d e:O}{f g i j l m n o p q:Nat}{w:World}{R:Kt}
  (h:(∀r,Ext w.heap.size [] w r->(au P (Instr.buildSlice 48 1 #[(0,(.int .i64 0))]) w.heap.size [28] r (Rs fun s t u v=>(aA.L3 d n o e p q s t u (1:Int) a f g b i j c l m w.heap.size v R))))):
  Pure P 55 #[.agg #[.slice a f g,.slice b i j,.slice c l m],.slice d n o,.slice e p q] w R:=
 pr aA.cx Tryz.func55 h

def bN.L4(a:O)(b c:Nat)(d:O)(e f:Nat)(g i:Int)(j:O)(l m:Nat)(n:O)(o p:Nat)(q:O)(r s:Nat):=Lt 56 Tryz.f56 4 [(1,.v (.slice a b c)),(2,.v (.slice d e f)),(3,.v (.int .i64 g)),(4,.loc 4 0),(10,.v (.int .i64 i))] [⟨4,false,28,[(.slice j l m),(.slice n o p),(.slice q r s)]⟩]
def bN.cx:Pm:=([((true,4),[1,2,3,4,10],[4])],[(9,1,2),(9,3,2)])
theorem bN.L4.step{d e f g i:O}{j l b m n o p q r s B:Nat}{c a:Int}{w:World}{R:Kt}
  (h:(Br (a<(b:Int)) (∀t,Ext B [] w t->(Pure P 58 #[.int .i64 c,.int .i64 a] t (Rb fun z u=>(Bb z (az .i64 (a+1)/\(bN.L4 d j l e b m c (a+1) f n o g p q i r s B u R)) (pe .i64 a/\(Pure P 59 #[.agg #[.slice f n o,.slice g p q,.slice i r s],.slice d j l,.slice e b m,(.int .i64 (bits .or .i64 c (iP .i64 1 a)))] u (Rb fun A v=>(Br (A=false) (az .i64 (a+1)/\(bN.L4 d j l e b m c (a+1) f n o g p q i r s B v R)) (pe .i64 a/\(∀x,Ext B [] v x->(Pure P 56 #[.agg #[.slice f n o,.slice g p q,.slice i r s],.slice d j l,.slice e b m,(.int .i64 (bits .or .i64 c (iP .i64 1 a)))] x (T5 fun C D E G y=>(Bb G (au P (Instr.buildSlice 48 1 #[(0,(.int .i64 a))]) B [28] y (Rs fun H I J K=>(au P (Builtin.append_ #[48,48] 48 #[.slice H I J,.slice C D E]) B [28] K (Rs fun L M N Q=>(R (.tuple #[.slice L M N,.bool true]) Q))))) (az .i64 (a+1)/\(bN.L4 d j l e b m c (a+1) f n o g p q i r s B y R))))))))))))))) (R (.tuple #[.slice none 0 0,.bool false]) w))):
  bN.L4 d j l e b m c a f n o g p q i r s B w R:=
 lr bN.cx Tryz.func56 h
theorem bN.vc{c d e f g:O}{i j l m n o p q a r:Nat}{b:Int}{w:World}{R:Kt}
  (h:(pe .i64 (a:Int)/\(az .i64 ((iP .i64 1 (a:Int)) - (1:Int))/\(Br (b=((iP .i64 1 (a:Int)) - (1:Int))) (∀s,Ext w.heap.size [] w s->(R (.tuple #[.slice none 0 0,.bool true]) s)) (∀t,Ext w.heap.size [] w t->(bN.L4 f p q g a r b (0:Int) c i j d l m e n o w.heap.size t R)))))):
  Pure P 56 #[.agg #[.slice c i j,.slice d l m,.slice e n o],.slice f p q,.slice g a r,.int .i64 b] w R:=
 pr bN.cx Tryz.func56 h

def nm.cx:Pm:=([],[])
theorem nm.vc{b a:Int}{w:World}{R:Kt}
  (h:(pe .i64 a/\(R (.bool (decide (((bits .and .i64 (Hi b a) (1:Int)):Int)=1))) w))):
  Pure P 58 #[.int .i64 b,.int .i64 a] w R:=
 pr nm.cx Tryz.func58 h

def iH.cx:Pm:=([],[])
theorem iH.vc{a b c l m:O}{d e f g i j n o p q:Nat}{r:Int}{w:World}{R:Kt}
  (h:(∀s,Ext w.heap.size [] w s->(Pure P 51 #[.agg #[.slice a d e,.slice b f g,.slice c i j],.slice l n o,.slice m p q,.int .i64 r] s (T5 fun u v x y t=>(Bb y (Pure P 81 #[.agg #[.slice a d e,.slice b f g,.slice c i j],.slice u v x] t (Rb fun z A=>(R (.bool z) A))) (R (.bool false) t)))))):
  Pure P 59 #[.agg #[.slice a d e,.slice b f g,.slice c i j],.slice l n o,.slice m p q,.int .i64 r] w R:=
 pr iH.cx Tryz.func59 h

end Go.Proofs.YtgfkeadgjkfomaaGreatDoor.F

namespace Go.Proofs.YtgfkeadgjkfomaaGreatDoor.B
open Go Go.RowKit Go.Proofs Go.Proofs.YtgfkeadgjkfomaaGreatDoor.Vc

theorem Bf{s i:Nat}(hs:s<128)(hi:i<8)(w:World):Pure Tryz.prog 58 #[.int .i64 (s:Int),.int .i64 (i:Int)] w fun v _=>v= .bool (s.testBit i):=by
 refine F.nm.vc ⟨kt om,dB Value.bool ?_⟩;rw[sr,nC];exact AX hs hi
section
variable {w:World} {A0 A1 A2 A A3:Option Addr} {n0 c0 n1 c1 n2 c2 n c n3 c3:Nat} {ps:List Pa} {hs:List Ho} {xs:List Rm} {l works:List Sw}
theorem vw{x:Sw}:gq ps hs x=none↔pc hs x.hold=none∨nW ps x.aG=none:=by
 unfold gq;cases nW ps x.aG<;>cases pc hs x.hold<;>simp
theorem tp(hp:fu w A0 n0 A1 n1 A2 n2 c2 ps hs xs)(h:cK w A 3 (l.map Sw.row))(hl:l.length=n)(hn:n<=40)(m:cK w A3 3 (works.map Sw.row))(o:works.length=n3):
  Pure Tryz.prog 50 #[.agg #[.slice A0 n0 c0,.slice A1 n1 c1,.slice A2 n2 c2],.slice A n c,.slice A3 n3 c3] w fun v _=>v= .int .i64 (fJ ps hs (aT xs) l works):=by
 unfold fJ;refine F.bz.vc fun w1 B=> ?_
 have hw:=k0 B;refine pm (CW (hp.aj hw)) ?_;rintro v O C rfl;have hw:=kP hw C;refine⟨_,_,rfl,fun k=>by rw[cc k],fun k=>pm (CX (hp.aj hw) (h.aj hw lf) hl hn) ?_⟩;rw[ar k];rintro v D E rfl;have G:=kP hw E;refine⟨_,rfl,fun k=>by rw[cc k],fun k=> ?_⟩;rw[ar k];refine⟨fun k=>by rw[cc om],fun k=> ?_⟩;rw[ar om];have aO:(works.any fun w=>decide (gq ps hs w=none))=false->∀(d i:Nat)(w':World),n3 - i=d->i<=n3->Below w.heap.size w w'->((works.take i).any fun w=>decide (w.aO=0∨w.aO< -9∨9<w.aO))=false->
   F.bz.uA A3 n3 c3 i w.heap.size w' fun v _=>v= .int .i64 (if(works.any fun w=>decide (gq ps hs w=none))=true then 7 else if(works.any fun w=>decide (w.aO=0∨w.aO< -9∨9<w.aO))=true then 2 else 0):=by
  intro H d;rw[ar (by rw[H];decide)];induction d with
  |zero=>
   intro i w' r hi hw e;rw[bx om]at e;rw[ar (by rw[e];decide)];exact F.bz.uA.step ⟨fun k=>by omega,fun _=>rfl⟩
  |succ d ih=>
   intro i w' r hi hw e;have g:i<works.length:=om;have x:=sc i;obtain⟨hb,a,j,_,b⟩:=(m.aj hw lf).at_ (fun _=>rfl) o g;have bad:(works[i].aO=0∨works[i].aO< -9∨9<works[i].aO)->Value.int .i64 2= .int .i64 (if(works.any fun w=>decide (w.aO=0∨w.aO< -9∨9<w.aO))=true then 2 else 0):=fun q=>by
    rw[cc (kh.2 ⟨_,cd g,fc q⟩)]
   refine F.bz.uA.step ⟨fun _=>⟨hb,a,j,_,b 2 _ rfl,fun q=>bad (.inl q),fun q1=>⟨hb,a,j,_,b 2 _ rfl,fun q=>bad (.inr (.inl q)),fun q2=>⟨hb,a,j,_,b 2 _ rfl,fun q=>bad (.inr (.inr q)),fun q3=>⟨ir,?_⟩⟩⟩⟩,fun k=>by omega⟩;rw[x];refine ih (i+1) w' om om hw ?_;rw[eN,af g,BO,e,vx];simp only[rT,LR,Re,Of];exact eh om
 have key:∀(d i:Nat)(w':World),n3 - i=d->i<=n3->Below w.heap.size w w'->((works.take i).any fun w=>decide (gq ps hs w=none))=false->
   F.bz.L9 A3 n3 c3 i A0 n0 c0 A1 n1 c1 A2 n2 c2 w.heap.size w' fun v _=>v= .int .i64 (if(works.any fun w=>decide (gq ps hs w=none))=true then 7 else if(works.any fun w=>decide (w.aO=0∨w.aO< -9∨9<w.aO))=true then 2 else 0):=by
  intro d;induction d with
  |zero=>
   intro i w' r hi hw e;rw[bx om]at e;exact F.bz.L9.step ⟨fun k=>by omega,fun _=>aO e n3 0 w' rfl om hw rfl⟩
  |succ d ih=>
   intro i w' r hi hw e;have g:i<works.length:=om;have x:=sc i;obtain⟨hb,a,j,_,b⟩:=(m.aj hw lf).at_ (fun _=>rfl) o g;have bad:gq ps hs works[i]=none->Value.int .i64 7= .int .i64 (if(works.any fun w=>decide (gq ps hs w=none))=true then 7 else if(works.any fun w=>decide (w.aO=0∨w.aO< -9∨9<w.aO))=true then 2 else 0):=fun q=>by
    rw[cc (kh.2 ⟨_,cd g,fc q⟩)]
   refine F.bz.L9.step ⟨fun _=>⟨hb,a,j,_,b 0 _ rfl,fun P I=> ?_⟩,fun k=>by omega⟩;have y:=kE hw I;refine pm (qG (hp.aj y).c _) ?_;rintro v Q J rfl;have z:=kP y J;obtain⟨hb,a',K,_,L⟩:=(m.aj hw lf).at_ (fun _=>rfl) o g;refine⟨_,rfl,fun q=>bad (vw.2 (.inl (gh.1 q))),fun q1=>⟨hb,a',K,_,L 1 _ rfl,pm (kX (hp.aj z).c _) ?_⟩⟩;rintro v M N rfl;refine⟨_,rfl,fun q=>bad (vw.2 (.inr (gh.1 q))),fun q2=>⟨ir,?_⟩⟩;rw[x];refine ih (i+1) M om om (kP z N) ?_;rw[eN,af g,BO,e,vx];simp only[rT,LR,Re,Of];refine eh fun q=> ?_
   rcases vw.1 q with q|q
   ·exact q1 (gh.2 q)
   ·exact q2 (gh.2 q)
 exact key n3 0 D rfl om G rfl
structure Jz (w:World) (A0:Option Addr) (n0:Nat) (A1:Option Addr) (n1:Nat) (A2:Option Addr) (n2 c2:Nat) (A:Option Addr) (n:Nat) (A3:Option Addr) (n3:Nat) (ps:List Pa) (hs:List Ho) (xs:List Rm) (l works:List Sw):Prop where
 p:fu w A0 n0 A1 n1 A2 n2 c2 ps hs xs
 s:cK w A 3 (l.map Sw.row)
 ls:l.length=n
 n:n<=40
 wk:cK w A3 3 (works.map Sw.row)
 lw:works.length=n3
 ok:IA ps hs (aT xs) l works
theorem Jz.aj{w':World}(h:Jz w A0 n0 A1 n1 A2 n2 c2 A n A3 n3 ps hs xs l works)(hb:Below w.heap.size w w'):Jz w' A0 n0 A1 n1 A2 n2 c2 A n A3 n3 ps hs xs l works:=
 ⟨h.p.aj hb,h.s.aj hb lf,h.ls,h.n,h.wk.aj hb lf,h.lw,h.ok⟩
def TO(o:Option (List Sw))(v:Value)(w':World):Prop:=∃A m c,v= .tuple #[.slice A m c,.bool o.isSome]/\∀t,o=some t->cK w' A 3 (t.map Sw.row)/\t.length=m
theorem CY(h:Jz w A0 n0 A1 n1 A2 n2 c2 A n A3 n3 ps hs xs l works){s:Nat}(dX:s<128):
  Pure Tryz.prog 51 #[.agg #[.slice A0 n0 c0,.slice A1 n1 c1,.slice A2 n2 c2],.slice A n c,.slice A3 n3 c3,.int .i64 (s:Int)] w (TO (ji ps hs l works s)):=by
 obtain⟨OA,nL,hr⟩:=th h.ok.keeps;have O:=h.p.c.lp;have r:=h.p.c.lh;have uw:=h.p.c.np;have qe:=h.p.c.nh;have hle:n0*n1<=7*7:=lq uw qe;have xr:=h.ok.n;have lD:=h.lw;have y:(bH ps hs l).length=n0*n1:=by rw[eu,O,r]
 refine F.cm.vc fun w1 x1=> ?_
 have hw:=k0 x1;refine pm (pE (h.p.aj hw).c (h.s.aj hw lf) h.ls (by have:=h.n;omega)) ?_;rintro v w5 b5 ⟨_,hv⟩;have lA:=kP hw b5;obtain⟨A',P,c',rfl,ho⟩:=hv nL;have g:P=n0*n1:=by have:=ho.len;rw[gv,y]at this;exact this.symm
 subst g;have ho:=ho.base hw.size;refine⟨_,_,_,_,rfl,?_⟩;have key:∀(d j:Nat)(a:List Int)(w':World),n3 - j=d->j<=n3->Below w.heap.size w w'->bF w' w.heap.size 3 A' (n0*n1) c' 1 (a.map dy)->(∀x∈a, -(9*(j:Int))<=x/\x<=9+9*(j:Int))->kY ps hs s j a (works.drop j)=kY ps hs s 0 (bH ps hs l) works->
   F.cm.L3 A3 n3 c3 s A' (n0*n1) c' j A0 n0 c0 A1 n1 c1 A2 n2 c2 w.heap.size w' (TO (ji ps hs l works s)):=by
  intro d;induction d with
  |zero=>
   intro j a w' hd hj hw ho hb he;have k:=ho.len;rw[gv]at k;rw[dp om]at he;have z:a=kY ps hs s 0 (bH ps hs l) works:=he;refine F.cm.L3.step ⟨fun h=>by omega,fun _=>pm (NA (h.p.aj hw).c ho.sl k) ?_⟩;intro v Co OB hf;unfold ji TO;rw[<-z];cases e:kr ps hs a with
   |error er=>
    rw[e]at hf;have B:=Gg e;cases hf;exact⟨_,_,_,_,rfl,none,0,0,by rw[eh B];rfl,fun m hm=>by cases hm⟩
   |ok m=>
    rw[e]at hf;obtain⟨A,n,c,rfl,hm⟩:=hf;refine⟨_,_,_,_,rfl,_,_,_,rfl,fun P g=> ?_⟩;cases g;exact⟨hm.sl,by have:=hm.len;rwa [gv]at this⟩
  |succ d ih=>
   intro j a w' hd hj hw ho hb he;have C:j<works.length:=om;have Q:=sc j;have k:=ho.len;rw[gv]at k;have R:=cd C;obtain⟨q,S⟩:=h.ok.place _ R;obtain⟨ip,ik,BV,D,E,Sj⟩:=Gu S;have hu:=h.ok.u _ R;rw[ec C,yi,S]at he;refine F.cm.L3.step ⟨fun _=>pm (Bf dX om w') ?_,fun h=>by omega⟩;rintro v w8 T rfl;have G:=kP hw T;have H:=ho.below T;refine⟨_,rfl,fun h1=> ?_,fun h1=>⟨ir,?_⟩⟩
   ·rw[cc h1]at he;obtain⟨I,J,K,_,b⟩:=(h.wk.aj G lf).at_ (fun _=>rfl) lD C;refine⟨I,J,K,_,b 1 _ rfl,I,J,K,_,b 0 _ rfl,I,J,K,_,b 2 _ rfl,fun Al U=> ?_⟩;have V:=kE G U;refine pm (kX (h.p.aj V).c _) ?_;rintro v MJ W rfl;have X:=kP V W;rw[BV];have Y:nK (some ip)*(n1:Int)=((ip*hs.length:Nat):Int):=by rw[<-r];simp[nK]
    have eq:((ip*hs.length:Nat):Int)+nK (some ik)=(q:Int):=by rw[E];simp[nK]
    have QX:q<n0*n1:=by rw[<-O,<-r];exact Sj
    have o:q<a.length:=om;have mv:(a.map dy)[q]? =some (dy a[q]):=by rw[tX,af o];rfl
    have haq:=hb _ (cd o);have Lb:a.getD q 0=a[q]:=by rw[cN,af o];rfl
    have hlq:ip*hs.length<=q:=om;refine⟨_,rfl,by rw[Y];simp only[az];omega,pm (qG (h.p.aj X).c _) ?_⟩;rintro v BN Z rfl;have yx:=kP X Z;rw[D,Y];have L:=((H.eA U).below W).below Z;obtain⟨Ww,aq,M,N,_⟩:=H.sl.at_ (fun _=>rfl) k o;refine⟨_,rfl,?_⟩;dsimp only;rw[eq];refine⟨ir,Ww,aq,M,_,N,ir,Ww,aq,M,?_⟩;obtain⟨g1,a2,rp,cs,g2,g3,g4,g5,g6⟩:=L.FP (i:=(q:Int)) om om (dy (a[q]+works[j].aO)) _ (by rw[dq];exact mv) rfl;rw[M]at rp;cases rp;refine⟨cs,_,g2,g3,g4,g5,rfl,fun Ab vm=>⟨ir,?_⟩⟩;have Lk:=g6 Ab vm;rw[dq,<-EF]at Lk;rw[Q];refine ih (j+1) (a.set q (a[q]+works[j].aO)) Ab om om (yx.trans (dd.sP vm g2)) Lk (fun x hx=> ?_) ?_
    ·rcases DD hx with hx|rfl
     ·have:=hb x hx;omega
     ·omega
    ·rw[<-he];show _=kY ps hs s (j+1) (rM a q works[j].aO) _;unfold rM;rw[Lb]
   ·rw[ar (by rw[h1];decide)]at he;rw[Q];exact ih (j+1) a w8 om om G H (fun x hx=>by have:=hb x hx;omega) he
 refine key n3 0 (bH ps hs l) w5 rfl om lA ho (fun x hx=> ?_) rfl;have:=iz hr x hx;omega
theorem pF(h:Jz w A0 n0 A1 n1 A2 n2 c2 A n A3 n3 ps hs xs l works){s:Nat}(a:s<128):
  Pure Tryz.prog 59 #[.agg #[.slice A0 n0 c0,.slice A1 n1 c1,.slice A2 n2 c2],.slice A n c,.slice A3 n3 c3,.int .i64 (s:Int)] w fun v _=>v= .bool (aP ps hs (aT xs) l works s):=by
 refine F.iH.vc fun w1 b=> ?_
 have hw:=k0 b;refine pm (CY (h.aj hw) a) ?_;rintro v o d ⟨A',m,c',rfl,hv⟩;have g:=kP hw d;unfold aP;cases e:ji ps hs l works s with
 |none=>exact⟨_,_,_,_,rfl,fun k=>(by cases k),fun _=>rfl⟩
 |some t=>
  obtain⟨i,hlen⟩:=hv t e;have j:=xC e;refine⟨_,_,_,_,rfl,fun _=>pm (CX (h.aj g).p i hlen om) ?_,fun k=>(by cases k)⟩;rintro v q _ rfl;exact⟨_,rfl,rfl⟩
theorem pG{k:Nat}(a:k<=6):iP .i64 1 (k:Int)=((di k:Nat):Int)+1:=by
 rw[mm k om];unfold di;have:=ya k;omega
def Xv(r:List Sw×Int)(v:Value)(w':World):Prop:=∃A n c,v= .tuple #[.slice A n c,.int .i64 r.2]/\cK w' A 3 (r.1.map Sw.row)/\r.1.length=n
theorem K1(hp:fu w A0 n0 A1 n1 A2 n2 c2 ps hs xs)(h:cK w A 3 (l.map Sw.row))(hl:l.length=n)(hn:n<=40)(b:cK w A3 3 (works.map Sw.row))(d:works.length=n3)(set:Int):
  Pure Tryz.prog 19 #[.agg #[.slice A0 n0 c0,.slice A1 n1 c1,.slice A2 n2 c2],.slice A n c,.slice A3 n3 c3,.int .i64 set] w (Xv (tM ps hs (aT xs) l works set)):=by
 have none_:∀(e:Int)(w':World),Xv ([],e) (.tuple #[.slice none 0 0,.int .i64 e]) w':=fun e w'=>⟨_,_,_,rfl,.inl rfl,rfl⟩
 refine F.jX.vc fun w1 g=> ?_
 have hw:=k0 g;refine pm (tp (hp.aj hw) (h.aj hw lf) hl hn (b.aj hw lf) d) ?_;rintro v i j rfl;have a:=kP hw j;unfold tM;refine⟨_,rfl,fun k=>by rw[cc k];exact none_ _ _,fun k=> ?_⟩;rw[ar k];have ok:=rB (ep.1 k);have o:=ok.n;rw[<-d];refine⟨fun q=>by rw[cc (.inl q)];exact none_ _ _,fun q1=>⟨kt om,fun q=> ?_,fun q=> ?_⟩⟩
 ·rw[pG om]at q;rw[cc (.inr om)];exact none_ _ _
 rw[pG om]at q;rw[ar om];have r:=iK works.length;have x:set.toNat<128:=by
  have:di works.length<2^6:=jK r (fy dc o);omega
 have e:(set.toNat:Int)=set:=om;have st:=CY (c:=c) (c0:=c0) (c1:=c1) (c3:=c3) (w:=i) (Jz.mk (hp.aj a) (h.aj a lf) hl hn (b.aj a lf) rfl ok) x;rw[e]at st;refine pm st ?_;rintro v y _ ⟨A',m,c',rfl,hv⟩;refine⟨_,_,_,_,rfl,?_⟩;cases e:ji ps hs l works set.toNat with
 |none=>exact⟨fun _=>none_ _ _,fun k=>absurd rfl k⟩
 |some t=>
  obtain⟨q1,q2⟩:=hv t e;exact⟨fun k=>(by cases k),fun _=>⟨_,_,_,rfl,q1,q2⟩⟩
end

theorem B8{P:Program}{t ty e size bytes:Nat}(el:El P t e size bytes){B0 B:Nat}(o:B0<=B){fB:List Nat}{w:World}{v:Value}{n:Nat}{xs:List Value}(b:w.ownsRow B e size v n xs)
  {a:Addr} {m c:Nat} {news:List Value} (hl:news.length=m*size) (q:∀j u,news[j]? =some u->w.cell? (a.add j)=some u) (h1:∀u∈news,dA u=true)
  (hB:B<=w.heap.size) (hn:n+m<9223372036854775808) (k9:(n+m)*bytes<=140737488355328) (x:e∉fB) {K:Option Addr->Nat->Nat->World->Prop}
  (h:∀A c g,g.ownsRow B e size (.slice A (n+m) c) (n+m) (xs++news)->w.grownBy g v.ownBlock->Below B0 w g->((Value.slice A (n+m) c).ownBlock=v.ownBlock∨(Value.slice A (n+m) c).ownBlock=some w.heap.size)->K A (n+m) c g):
  au P (Builtin.append_ #[t,t] ty #[v,.slice (some a) m c]) B0 fB w fun r g=>∃A n c,r= .slice A n c/\K A n c g:=by
 obtain⟨i,z,h2,h3,h4,y,C⟩:=el.info;obtain⟨G,w',D,ho,l,_,E⟩:=run_append_own_at (P:=P) w B t ty e i z size bytes el.Ov h2 h3 h4 y C el.pos v n xs b a m c news hl q (fun u hu=>py (h1 u hu)) (by simp only[maxLen];omega) om hB;have d:Below B0 w w':=bS l (fun k F=>ga o (b.lt k F).1) (ga o hB);obtain⟨A,c',rfl,_⟩:=ownsRow_form ho;exact⟨_,w',D,d,d.size,uV l b x,A,_,c',rfl,h A c' w' ho l d E⟩

theorem Bg{P:Program}{t ty e size bytes:Nat}(el:El P t e size bytes){B0 B:Nat}(y:B0<=B){fB:List Nat}{w:World}{v:Value}{n:Nat}{xs:List Value}(i:w.ownsRow B e size v n xs)
  {x:Value} (hx:x.cells.size=size) (h1:∀u∈x.cells.toList,dA u=true)
  (hB:B<=w.heap.size) (hn:n+1<9223372036854775808) (k9:(n+1)*bytes<=140737488355328) (C:e∉fB) {K:Option Addr->Nat->Nat->World->Prop}
  (h:∀A c g,g.ownsRow B e size (.slice A (n+1) c) (n+1) (xs++x.cells.toList)->w.grownBy g v.ownBlock->Below B0 w g->((Value.slice A (n+1) c).ownBlock=v.ownBlock∨∃b,(Value.slice A (n+1) c).ownBlock=some b/\w.heap.size<=b)->K A (n+1) c g):
  au P (Instr.buildSlice t 1 #[(0,x)]) B0 fB w fun r w1=>∃A m c,r= .slice A m c/\
   au P (Builtin.append_ #[t,t] ty #[v,.slice A m c]) B0 fB w1 fun r g=>∃A n c,r= .slice A n c/\K A n c g:=by
 have z:=jk el [x] (by simpa using hx) sm w;simp only[vi,K9,Rj,Dx,HD,ow,GD,ns]at z;have d:=World.grownBy_alloc w (.cells x.cells.toList.toArray e) none;have a:Below B0 w (w.alloc (.cells x.cells.toList.toArray e)):=bS d sm (ga y hB);refine⟨_,_,z,a,a.size,fun k ty cs _ l=>d.block k (bU.1 l).1 sm,_,_,_,rfl,?_⟩;refine B8 el y (i.kept d (by cases v.ownBlock<;>simp)) (news:=x.cells.toList) (by simpa using hx) ?_ h1 (by have:=d.size;omega) hn k9 C ?_
 ·intro j u hu;rw[ib,oi];simp only[World.cell?];rw[heap_alloc_new];simpa using hu
 ·intro A c g h2 h3 h4 D;refine h A c g h2 ⟨h3.os.trans d.os,h3.tape.trans d.tape,h3.output.trans d.output,ga d.size h3.size,fun k l o=> ?_⟩ (a.trans h4) (D.imp id fun q=>⟨_,q,a.size⟩);rw[h3.block k (by have:=d.size;omega) o];exact d.block k l sm

theorem Oa{t ty e sz bytes:Nat}(el:El Tryz.prog t e sz bytes){B0 B:Nat}(d:B0<=B){fB:List Nat}{w:World}{A:Option Addr}{n c:Nat}{rows:List (List Value)}(ho:bF w B e A n c sz rows){x:Value}(hx:x.cells.size=sz)(h1:∀u∈x.cells.toList,dA u=true)
  (hB:B<=w.heap.size) (hn:n+1<9223372036854775808) (k9:(n+1)*bytes<=140737488355328) (g:e∉fB) {K:Option Addr->Nat->Nat->World->Prop}
  (h:∀A' c' a,bF a B e A' (n+1) c' sz (rows++[x.cells.toList])->w.grownBy a (Value.ownBlock (.slice A n c))->Below B0 w a->((Value.slice A' (n+1) c').ownBlock=(Value.slice A n c).ownBlock∨∃b,(Value.slice A' (n+1) c').ownBlock=some b/\w.heap.size<=b)->K A' (n+1) c' a):
  au Tryz.prog (Instr.buildSlice t 1 #[(0,x)]) B0 fB w fun r w1=>∃A2 m c2,r= .slice A2 m c2/\
   au Tryz.prog (Builtin.append_ #[t,t] ty #[.slice A n c,.slice A2 m c2]) B0 fB w1 fun r a=>∃A n c,r= .slice A n c/\K A n c a:=
 Bg el d ho.1 hx h1 hB hn k9 g fun A' c' a i j k l=>h A' c' a ⟨by rw[va];simpa using i,by simp[ho.len],fun r o=>by
  rcases h8.1 o with h|h
  ·exact ho.2.2 r h
  ·simp at h;subst h;simpa using hx⟩ j k l

theorem CZ(f:Nat->Nat->Int)(ps:List Pa)(hs:List Ho):(oV f ps hs).length=(rA f ps hs).length:=by
 unfold oV;have key:∀(d:List Sw),(∀s∈d,s.aO≠0)->(d.filter (fun s=>decide (s.aO<0))++d.filter fun s=>decide (0<s.aO)).length=d.length:=by
  intro d;induction d with
  |nil=>intro _;rfl
  |cons x r ih=>
   intro h;have h0:=h x (PB ..);have:=ih fun s a=>h s (List.mem_cons_of_mem _ a)
   rw[fx]at this;rw[fx,GX,GX];by_cases k:x.aO<0
   ·rw[cc (by simpa using k),ar (by simp;omega)];simp only[gw];omega
   ·rw[ar (by simpa using k),cc (by simp;omega)];simp only[gw];omega
 refine key _ fun s a=> ?_
 obtain⟨_,_,_,_,_,_,h0,rfl⟩:=Js.1 a;exact h0

theorem Ob{w0:World}{A A1:Option Addr}{n n1 c c1:Nat}{l b:List Sw}(h:cK w0 A 3 (l.map Sw.row))(h1:cK w0 A1 3 (b.map Sw.row))(hlen:l.length=n)(z:b.length=n1)(hn:n<2147483648):
  Pure Tryz.prog 20 #[.slice A n c,.slice A1 n1 c1] w0 fun y _=>y= .bool (decide (l=b)):=by
 have key:n=n1->∀(d i:Nat)(w:World),n - i=d->i<=n->Below w0.heap.size w0 w->l.take i=b.take i->F.cR.L4 A n c A1 n1 c1 i w0.heap.size w fun y _=>y= .bool (decide (l=b)):=by
  intro e d;induction d with
  |zero=>
   intro i w C hi hw g;rw[bx om,bx om]at g;exact F.cR.L4.step ⟨fun h=>by omega,fun _=>by rw[fc g]⟩
  |succ d ih=>
   intro i w C hi hw g;have q:i<l.length:=om;have r:i<b.length:=om;obtain⟨hb,a,D,E,_⟩:=(h.aj hw lf).at_ (fun _=>rfl) hlen q;obtain⟨j,a2,G,H,_⟩:=(h1.aj hw lf).at_ (fun _=>rfl) z r;refine F.cR.L4.step ⟨fun _=>⟨hb,a,D,_,_,_,E,j,a2,G,_,_,_,H,fun k x _=> ?_,fun k=>⟨ir,fun x I=> ?_⟩⟩,fun h=>by omega⟩
   ·refine dB _ (eh fun J=>k ?_).symm;have o:l[i]=b[i]:=by simp only[J]
    rw[o];exact⟨rfl,rfl,rfl,trivial⟩
   ·have o:=sc i;rw[o];refine ih (i+1) x om om (kE hw I) ?_;obtain⟨q1,q2,q3,_⟩:=ep.1 k;have K:l[i]=b[i]:=by
     cases hx:l[i];cases hy:b[i];rw[hx,hy]at q1 q2 q3;simp only at q1 q2 q3;subst q1;subst q2;subst q3;rfl
    rw[eN,eN,g,af q,af r,K]
 refine F.cR.vc ⟨fun h=> ?_,fun h=>key om n 0 w0 rfl om (Below.refl _ _) sm⟩;refine dB _ (eh fun e=> ?_).symm;subst e;omega

structure Tw (B:Nat) (w:World) (A:Option Addr) (n c:Nat) (A':Option Addr) (n' c':Nat) (l m:List Sw):Prop where
 o:bF w B 44 A n c 3 (l.map Sw.row)
 i:bF w B 44 A' n' c' 3 (m.map Sw.row)
 s:∀a a',A=some a->A'=some a'->a.block≠a'.block
section
variable {B:Nat} {w w':World} {A A':Option Addr} {n c n' c':Nat} {l m:List Sw}
theorem Tw.below(h:Tw B w A n c A' n' c' l m)(hb:Below w.heap.size w w'):Tw B w' A n c A' n' c' l m:=⟨h.o.below hb,h.i.below hb,h.s⟩
theorem Tw.swap(h:Tw B w A n c A' n' c' l m):Tw B w A' n' c' A n c m l:=⟨h.i,h.o,fun a a' h1 h2 e=>h.s a' a h2 h1 e.symm⟩
theorem Tw.put{B0:Nat}{ty:Nat}{fB:List Nat}(h:Tw B w A n c A' n' c' l m)(k:B0<=B)(hB:B<=w.heap.size)(hn:n<=1000)(x:Sw)(y:44∉fB){K:Option Addr->Nat->Nat->World->Prop}
  (z:∀A2 c2 d,Tw B d A2 (n+1) c2 A' n' c' (l++[x]) m->Below B w d->(∀b cs ty,w.heap[b]? =some (.cells cs ty (0,0))->(∀a,A=some a->b≠a.block)->d.heap[b]? =some (.cells cs ty (0,0)))->K A2 (n+1) c2 d):
  au Tryz.prog (Instr.buildSlice 30 1 #[(0,x.val)]) B0 fB w fun r w1=>∃A2 m c2,r= .slice A2 m c2/\
   au Tryz.prog (Builtin.append_ #[30,30] ty #[.slice A n c,.slice A2 m c2]) B0 fB w1 fun r d=>∃A n c,r= .slice A n c/\K A n c d:=by
 refine Oa AZ k h.o (x:=x.val) rfl (by simp[Value.cells,dA]) hB om om y fun A2 c2 d C g2 _ loc=> ?_
 have aj:∀b,b<w.heap.size->(∀a,A=some a->b≠a.block)->d.heap[b]? =w.heap[b]? :=fun b hb g=>g2.block b hb fun e=>by
  cases A with
  |none=>cases e
  |some a=>cases e;exact g a rfl rfl
 refine z A2 c2 d ⟨by rw[lx];exact C,h.i.other fun a ha=>aj _ (h.i.sA a ha).2 fun D h1 e=>h.s D a h1 ha e.symm,fun a a' h1 h2 e=> ?_⟩ ?_ fun b cs ty e g=> ?_
 ·rw[h1]at loc;rcases loc with q|⟨b,q,hb⟩
  ·cases A with
   |none=>cases q
   |some a0=>
    have q:a.block=a0.block:=by simpa[Value.ownBlock]using q
    exact h.s a0 a' rfl h2 (q.symm.trans e)
  ·have q:a.block=b:=by simpa[Value.ownBlock]using q
   have:=(h.i.sA a' h2).2;omega
 ·refine bS g2 (fun q j=> ?_) hB;cases A with
  |none=>cases j
  |some E=>cases j;exact(h.o.sA E rfl).1
 ·rw[aj b (bU.1 e).1 g];exact e
end
abbrev B9(l:List Sw):List Sw:=l.filter fun s=>decide (s.aO<0)
abbrev Ca(l:List Sw):List Sw:=l.filter fun s=>decide (0<s.aO)
section
variable {w:World} {A0 A1 A A':Option Addr} {n0 c0 n1 c1 n c n' c':Nat} {ps:List Pa} {hs:List Ho} {l m:List Sw}
def Xw(r:List Sw×Int)(v:Value)(w':World):Prop:=∃A n c,v= .tuple #[.slice A n c,.int .i64 r.2]/\cK w' A 3 (r.1.map Sw.row)/\r.1.length=n
set_option maxRecDepth 10000 in
theorem GN(D:dF w A0 n0 A1 n1 ps hs)(h:cK w A 3 (l.map Sw.row))(hl:l.length=n)(hn:n<2147483648)(h':cK w A' 3 (m.map Sw.row))(hm:m.length=n')(GR:n'<2147483648):
  Pure Tryz.prog 15 #[.agg #[.slice A0 n0 c0,.slice A1 n1 c1],.slice A n c,.slice A' n' c'] w (Xw (qJ ps hs l m)):=by
 have uw:=D.np;have qe:=D.nh;have W:=D.lp;have O:=D.lh;have bad:∀(e:Int)(w':World),Xw ([],e) (.tuple #[.slice none 0 0,.int .i64 e]) w':=fun e w'=>⟨_,_,_,rfl,.inl rfl,rfl⟩
 refine F.aw.vc fun w1 x1=> ?_
 have hw:=k0 x1;refine pm (pE (D.aj hw) (h.aj hw lf) hl hn) ?_;rintro v w5 b5 ⟨v1,v2⟩;have J:=kP hw b5;unfold qJ;by_cases g1:cZ ps hs l=0
 ·obtain⟨A2,N,X,rfl,P⟩:=v2 g1;refine⟨_,_,_,_,rfl,pm (pE (D.aj J) (h'.aj J lf) hm GR) ?_⟩;rintro v y Y ⟨v3,v4⟩;have Q:=kP J Y;by_cases g2:cZ ps hs m=0
  ·obtain⟨R,E,S,rfl,Z⟩:=v4 g2;refine⟨_,_,_,_,rfl,fun q=>absurd rfl q,fun _=>⟨fun q=>absurd rfl q,fun _=> ?_⟩⟩;rw[ar (by rintro(k|k);exact k g1;exact k g2)];have PQ:=dt g1;have hrm:=dt g2;have P:=P.below Y;have K:(bH ps hs l).length=N:=by have:=P.len;rwa [gv]at this
   have YF:(bH ps hs m).length=E:=by have:=Z.len;rwa [gv]at this
   have hN:N=n0*n1:=by rw[<-K,eu,W,O]
   have hN6:E=n0*n1:=by rw[<-YF,eu,W,O]
   have hle:n0*n1<=7*7:=lq uw qe;have key:∀(d j:Nat)(b:Option Addr)(no co:Nat)(r:Option Addr)(g ci:Nat)(w':World),n1 - j=d->j<=n1->Below y.heap.size y w'->Tw y.heap.size w' b no co r g ci (B9 (nj (fN ps hs l m) ps hs j 0)) (Ca (nj (fN ps hs l m) ps hs j 0))->no<=7*j->g<=7*j->
     F.aw.L7 A2 N X R E S b no co r g ci j A0 n0 c0 A1 n1 c1 w.heap.size w' (Xw (if 6<(rA (fN ps hs l m) ps hs).length then([],8)else(oV (fN ps hs l m) ps hs,0))):=by
    intro d;induction d with
    |zero=>
     intro j b no co r g ci w' hd hj C x b1 b2;have:j=hs.length:=om;subst this;have eD:nj (fN ps hs l m) ps hs hs.length 0=rA (fN ps hs l m) ps hs:=by unfold nj rA;simp
     rw[eD]at x;have vO:=x.o.len;have L:=x.i.len;rw[gv]at vO L;have hwl:=CZ (fN ps hs l m) ps hs;have qg:(oV (fN ps hs l m) ps hs).length=no+g:=by
      show(B9 _++Ca _).length=_;rw[fx];omega
     refine F.aw.L7.step ⟨fun h=>by omega,fun _=> ?_⟩;refine tG AZ (B:=y.heap.size) Q.size x.o x.i.sl (by rw[gv];exact L) Ga CB x.i.z C.size om om dc fun A3 c3 tz o3 _ _=>⟨fun q=> ?_,fun q=> ?_⟩
     ·rw[cc om];exact bad 8 _
     ·rw[ar om];refine⟨_,_,_,rfl,?_,om⟩;have:=o3.sl;rwa [<-lx]at this
    |succ d ih=>
     intro j b no co r g ci w' hd hj C x b1 b2;have G:j<hs.length:=om;have Tn:=sc j;refine F.aw.L7.step ⟨fun _=> ?_,fun h=>by omega⟩;have inner:∀(e i:Nat)(b:Option Addr)(no co:Nat)(r:Option Addr)(g ci:Nat)(w':World),n0 - i=e->i<=n0->Below y.heap.size y w'->Tw y.heap.size w' b no co r g ci (B9 (nj (fN ps hs l m) ps hs j i)) (Ca (nj (fN ps hs l m) ps hs j i))->no<=7*j+i->g<=7*j+i->
       F.aw.pd A2 N X R E S b no co r g ci j i A0 n0 c0 A1 n1 c1 w.heap.size w' (Xw (if 6<(rA (fN ps hs l m) ps hs).length then([],8)else(oV (fN ps hs l m) ps hs,0))):=by
      intro e;induction e with
      |zero=>
       intro i b no co r g ci w' he hi C x b1 b2;have:i=ps.length:=om;subst this;rw[Gz]at x;refine F.aw.pd.step ⟨fun h=>by omega,fun _=>⟨ir,?_⟩⟩;rw[Tn];exact ih (j+1) b no co r g ci w' om om C x om om
      |succ e vb=>
       intro i b no co r g ci w' he hi C x b1 b2;have H:i<ps.length:=om;have Fz:=sc i;have PZ:=kP Q C;have F3:i*n1+j<n0*n1:=rr om om;have pc:i*n1<=7*7:=lq om qe;have e5:(i:Int)*(n1:Int)=((i*n1:Nat):Int):=by simp
       have e6:((i*n1:Nat):Int)+(j:Int)=((i*n1+j:Nat):Int):=by simp
       have T:=gN (l:=l) (af H) (af G);have U:=gN (l:=m) (af H) (af G);rw[O]at T U;obtain⟨ka,T⟩:=ew.1 T;obtain⟨kb,U⟩:=ew.1 U;have sa:=iz PQ _ (cd ka);have sb:=iz hrm _ (cd kb);obtain⟨u,hu⟩:∃u,u=(bH ps hs m)[i*n1+j] - (bH ps hs l)[i*n1+j]:=⟨_,rfl⟩
       have V:B5 (fN ps hs l m) ps hs j i=if u≠0 then[⟨hs[j].id,ps[i].id,u⟩]else[]:=by
        unfold B5 fN;rw[af H,af G,Cu (af G) (af H),Cu (af G) (af H),hu,T,U]
       obtain⟨ba,aa,WE,ca,_⟩:=((P.below C).sl).at_ (fun _=>rfl) K ka;obtain⟨bb,ab,WG,cb,_⟩:=((Z.below C).sl).at_ (fun _=>rfl) YF kb;obtain⟨bh,ah,Eh,_,chh⟩:=((D.aj PZ).h).at_ (fun _=>rfl) O G;obtain⟨bp,ap,BW,_,cp⟩:=((D.aj PZ).p).at_ (fun _=>rfl) W H;refine F.aw.pd.step ⟨fun _=> ?_,fun h=>by omega⟩;rw[e5,e6];refine⟨ir,ir,bh,ah,Eh,_,chh 0 _ rfl,bp,ap,BW,_,cp 0 _ rfl,bb,ab,WG,_,cb,ba,aa,WE,_,ca,ir,fun BN M p hpB UJ hp=> ?_⟩;rw[<-hu]at hp;have yx:=kP C (yJ M);have t21:=x.below (yJ M);have pos:∀(b:Option Addr)(no co:Nat)(I:World),Below y.heap.size y I->Tw y.heap.size I b no co r g ci (B9 (nj (fN ps hs l m) ps hs j (i+1))) (Ca (nj (fN ps hs l m) ps hs j i))->no<=7*j+(i+1)->I.heap[p]? =some (.cells [Value.int .i64 hs[j].id,.int .i64 ps[i].id,.int .i64 u].toArray 44 (0,0))->
         F.aw.UM A2 N X R E S b no co r g ci j i ⟨p,0,none⟩ A0 n0 c0 A1 n1 c1 w.heap.size I (Xw (if 6<(rA (fN ps hs l m) ps hs).length then([],8)else(oV (fN ps hs l m) ps hs,0))):=by
        intro b no co I fF t2 b1 SH;refine F.aw.UM.step ⟨_,fX SH rfl,fun q=>⟨_,_,_,lV SH,?_⟩,fun q=>⟨ir,?_⟩⟩
        ·refine t2.swap.put Q.size fF.size om ⟨hs[j].id,ps[i].id,u⟩ dc fun A3 c3 w3 t3 b3 _=>⟨ir,?_⟩
         rw[Fz];refine vb (i+1) b no co A3 (g+1) c3 w3 om om (fF.trans b3) ?_ om om;have e:Ca (nj (fN ps hs l m) ps hs j (i+1))=Ca (nj (fN ps hs l m) ps hs j i)++[⟨hs[j].id,ps[i].id,u⟩]:=by
          unfold Ca;rw[oE,sn,V,cc om,GX,cc (by simpa using q)];rfl
         rw[e];exact t3.swap
        ·rw[Fz];refine vb (i+1) b no co r g ci I om om fF ?_ om om;have e:Ca (nj (fN ps hs l m) ps hs j (i+1))=Ca (nj (fN ps hs l m) ps hs j i):=by
          unfold Ca;rw[oE,sn,V];split
          ·rw[GX,ar (by simpa using q)];simp
          ·simp
         rw[e];exact t2
       refine⟨_,fX hp rfl,fun q=>⟨_,_,_,lV hp,?_⟩,fun q=> ?_⟩
       ·refine t21.put Q.size yx.size om ⟨hs[j].id,ps[i].id,u⟩ dc fun A3 c3 w3 t3 b3 gy=> ?_
        have e:B9 (nj (fN ps hs l m) ps hs j (i+1))=B9 (nj (fN ps hs l m) ps hs j i)++[⟨hs[j].id,ps[i].id,u⟩]:=by
         unfold B9;rw[oE,sn,V,cc om,GX,cc (by simpa using q)];rfl
        refine pos A3 (no+1) c3 w3 (yx.trans b3) (by rw[e];exact t3) om (gy p _ _ hp fun a ha e=> ?_);have:=(x.o.sA a ha).2;omega
       ·have e:B9 (nj (fN ps hs l m) ps hs j (i+1))=B9 (nj (fN ps hs l m) ps hs j i):=by
         unfold B9;rw[oE,sn,V];split
         ·rw[GX,ar (by simpa using q)];simp
         ·simp
        exact pos b no co BN yx (by rw[e];exact t21) om hp
     exact inner n0 0 b no co r g ci w' rfl om C x om om
   exact key n1 0 none 0 0 none 0 0 y rfl om (Below.refl _ _) ⟨bF.nil,bF.nil,fun a a' h=>by cases h⟩ om om
  ·rw[v3 g2,cc (.inr g2)];exact⟨_,_,_,_,rfl,fun _=>bad 1 _,fun _=>⟨fun _=>bad 1 _,fun q=>absurd dc q⟩⟩
 ·rw[v1 g1,cc (.inl g1)];refine⟨_,_,_,_,rfl,pm (pE (D.aj J) (h'.aj J lf) hm GR) ?_⟩;rintro v y Y ⟨v3,v4⟩;by_cases g2:cZ ps hs m=0
  ·obtain⟨R,E,S,rfl,Z⟩:=v4 g2;exact⟨_,_,_,_,rfl,fun _=>bad 1 _,fun q=>absurd dc q⟩
  ·rw[v3 g2];exact⟨_,_,_,_,rfl,fun _=>bad 1 _,fun q=>absurd dc q⟩
end

section
variable {w:World} {A0 A1 A2 A A' A3:Option Addr} {n0 c0 n1 c1 n2 c2 n c n' c' n3 c3:Nat} {ps:List Pa} {hs:List Ho} {xs:List Rm} {l m works:List Sw}
theorem Ey(o:cT w)(J:rN w A0 n0 c0 A1 n1 c1 A2 n2 c2 ps hs xs)(q:cK w A 3 (l.map Sw.row))(hl:l.length=n)(K:cK w A' 3 (m.map Sw.row))(r:m.length=n')(V:cK w A3 3 (works.map Sw.row))(x:works.length=n3)(set:Int):
  Pure Tryz.prog 3 #[.agg #[.slice A0 n0 c0,.slice A1 n1 c1,.slice A2 n2 c2],.slice A n c,.slice A' n' c',.slice A3 n3 c3,.int .i64 set] w fun v _=>v= .bool true:=by
 refine F.eZ.vc fun w1 W=> ?_
 have hw:=k0 W;refine pm (tn (o.next hw)) ?_;rintro v w4 X rfl;have hw:=kP hw X;refine⟨_,rfl,fun k=>(by cases k),fun _=>pm (xD (J.aj hw)) ?_⟩;rintro v w7 Y rfl;have d:=kP hw Y;refine⟨_,rfl,fun _=>rfl,fun hf=>⟨fun _=>rfl,fun h4=> ?_⟩⟩;have a:=IT (J.aj d) (q.aj d lf) hl (V.aj d lf) x (hP _|>.mp hf);have hn:=a.n;have GR:n'<=40:=om;refine pm (Nn a.p.c a.z0 a.z1) ?_;rintro v yE L ⟨B0,d0,Z,d1,rfl,y⟩;have M:=kP d L;refine⟨_,_,_,_,_,_,rfl,pm (Ei (q.aj M lf) hl om) ?_⟩;rintro v yF z ⟨As,cs,rfl,os⟩;have N:=kP M z;refine⟨_,_,_,rfl,pm (Ei (K.aj N lf) r om) ?_⟩;rintro v wX g ⟨At,ct,rfl,O⟩;have P:=kP N g;refine⟨_,_,_,rfl,pm (yj (o.next P) ((y.aj z).aj g) (os.below g).sl hl os.gV om O.sl r O.gV om) ?_⟩;rintro v BN Q ⟨Aw,nw,cw,rfl,sw,lw,_⟩;have B:=kP P Q;have R:=(((a.aj L).aj z).aj g).aj Q;refine⟨_,_,_,_,rfl,pm (GN R.p.c (q.aj B lf) hl om (K.aj B lf) r om) ?_⟩;rintro v w25 C ⟨Av,nv,cv,rfl,sv,lv⟩;have IK:=kP B C;have S:=R.aj C;refine⟨_,_,_,_,rfl,Xr S fun B0 d0 Z d1 B2 d2 As cs Ak ck Rk ys h hp N4 s1 y s2=> ?_⟩;have T:=kP IK h;refine pm (CT (o.next T) hp s1 hl y hn s2 x set) ?_;rw[N4];rintro v w40 i ⟨A37,n37,c37,rfl,D,b,_,_⟩;have E:=kP T i;have G:=(S.aj h).aj i;refine⟨_,_,_,_,rfl,pm (K1 G.p G.s hl hn G.wk x set) ?_⟩;rintro v Nf j ⟨V7,V8,V9,rfl,H,I⟩;have TQ:=kP E j;have hlen:nw<2147483648:=by
  rw[<-lw];unfold qJ;split
  ·simp
  ·split
   ·simp
   ·show(oV _ _ _).length<_;rw[CZ];omega
 refine⟨_,_,_,_,rfl,pm (Ob (sw.below (kP (kP (kP C h) i) j)) (sv.below (kP (kP h i) j)) lw lv hlen) ?_⟩;rintro v WT U rfl;refine⟨_,rfl,fun _=>⟨fun _=> ?_,fun k=>absurd rfl k⟩,fun k=>absurd k sm⟩;have Bh:n37<2147483648:=by
  rw[<-b];unfold tM;split
  ·simp
  ·split
   ·simp
   ·split
    ·rename_i e;have:=xC e;show _<_;simp only;omega
    ·simp
 refine pm (TN (D.below (kP j U)) (H.below U) b I Bh) ?_;rintro v w50 _ rfl;exact⟨_,rfl,fun _=>by simp,fun k=>absurd k sm⟩
end
set_option maxRecDepth 100000
open Go Go.RowKit Go.Proofs Go.Proofs.YtgfkeadgjkfomaaGreatDoor.Vc Go.ChangeShapes Go.WideShapes Go.Deep

theorem own:ownKnob Tryz.prog.godebug=none:=kF
theorem laidOut:laidOutB Tryz.prog=true:=kF

section
variable {H:Type} {enc:TypeId×Value->H} {P:Program}

theorem uH(hl:laidOutB P=true){W f:World}(hb:Below W.heap.size W f):∀{ts:List TypeId} {vs:List Value} {g:List (DataW H)} {ps:List MemPlace},
  (∀t∈ts,P.readableRec t=true/\t<P.types.size)->DataW.TrodAll enc P W 0 (fun _=>true) true ts vs g ps->(∀x∈ps,x.block<W.heap.size)->DataW.TrodAll enc P f 0 (fun b=>decide (b<W.heap.size)) true ts vs g ps
 |[],_,_,_,_,h,_=>by
  obtain⟨rfl,rfl,rfl⟩:=trodAll_nil h;exact trodAll_mk0
 |t::ts,_,_,_,e,h,c=>by
  obtain⟨v,i,d,j,a,b,rfl,rfl,rfl,h1,h2⟩:=trodAll_cons h;exact trodAll_cons_mk (Below.trod hl (e t sm).1 (e t sm).2 h1 hb (fun x hx=>c x (by simp[hx])))
   (uH hl hb (fun u hu=>e u (by simp[hu])) h2 (fun x hx=>c x (by simp[hx])))

theorem Bi{f:Func}{a:FuncId}{s:ChangeSpec}{W:World}{args:Array Value}{c gs:List (DataW H)}{before:List MemPlace}(hl:laidOutB P=true)(d:DataW.Whole enc P f.params.toList s.vars false W args.toList c gs before)
  (j:s.vars=[]) {tb:TypeId} (n:f.resultTypes= #[tb]) (g:P.underlying tb=some .bool) (i:∀t∈f.params.toList,P.readableRec t=true/\t<P.types.size)
  (hs:s.fn H (c++gs)={results:=[.lit (.bool true)],args:=c}) (key:Pure P a args W fun y _=>y= .bool true):
  Calls P a args W fun e k=>∃v,e= .returned v/\s.post enc P f false true false false W args v k:=by
 refine Calls.mono key fun e k ⟨v,he,hb,hy⟩=>⟨v,he,?_⟩
 subst hy;have b:=d.lt;have l:=d;obtain⟨p,q,o,m,rfl,_,_⟩:=d;rw[j]at m;obtain⟨rfl,rfl⟩:=trodVars_none m;simp only[ns]at b l;refine⟨c,_,_,[],p,[],l,?_,?_,?_,hb.frame _,fun h=>by cases h⟩
 ·rw[hs,n];exact trodAll_cons_mk (shut_bool g _) trodAll_mk0
 ·rw[hs];exact uH hl hb i o b
 ·rw[hs,j];rfl

end

theorem Ez{w:World}{a:Addr}{sz:Nat}(k9:0<sz){rows:List (List Value)}(hl:∀r∈rows,r.length=sz)(h:∀i,(hi:i<rows.length)->∀j,(hj:j<rows[i].length)->w.cell? (a.add (i*sz+j))=some (rows[i][j])):cK w (some a) sz rows:=by
 by_cases h0:rows=[]
 ·exact .inl h0
 right
 have hp:0<rows.length:=nQ.2 h0;have f:rows[0].length=sz:=hl _ (cd _);have c0:=h 0 hp 0 om;have d:a.spot=none:=by simpa[Addr.add]using World.cell?_spot c0
 obtain⟨b,off,spot⟩:=a;simp only at d;subst d;have e:∀k,(⟨b,off,none⟩:Addr).add k=⟨b,off+k,none⟩:=fun k=>eX b off k
 rw[e]at c0;cases c:w.heap[b]? with
 |none=>simp[World.cell?,c]at c0
 |some o=>
  cases o with
  |cells cs ty fr=>
   refine⟨b,off,cs,ty,fr,rfl,c,fun i hi j hj=>⟨hl _ (cd _),?_⟩⟩;have:=h i hi j hj;rw[e]at this;simpa[World.cell?,c,HW]using this
  |_=>simp[World.cell?,c]at c0

theorem Xy:Tryz.prog.underlying 57=some .string:=kF
theorem RD:Tryz.prog.underlying 3=some (.int .i64):=kF
theorem Xz:Tryz.prog.underlying 9=some .string:=kF

open Go Go.RowKit Go.Proofs

abbrev Oc:=Rows.sequenceEitherRow.laid
open Go Go.RowKit Go.Proofs Go.Proofs.YtgfkeadgjkfomaaGreatDoor.Vc Go.ChangeShapes Go.WideShapes Go.Deep Go.ChangeAt

noncomputable def fQ(os:Os):World:=
 let N:=(World.settled Tryz.prog os).heap.size
 let w0:=World.holding Tryz.prog os ⟨#[.cells #[.string ⟨#[118,97,108,117,101,32,111,117,116,32,111,102,32,114,97,110,103,101]⟩] 340,.cells #[.string ⟨#[105,110,118,97,108,105,100,32,115,121,110,116,97,120]⟩] 340],#[],[]⟩
 let put (h:Array Obj) (g:Nat) (cs:Array Value):Array Obj:=h.modify g fun
  | .cells _ t frozen=> .cells cs t frozen
  |o=>o
 let h0:=put (put w0.heap 5 #[.iface 338 (.pointer (some ⟨N,0,none⟩))]) 4 #[.iface 338 (.pointer (some ⟨N+1,0,none⟩))]
 let h1:=put h0 2 #[.int .u8 0,.int .u8 1,.int .u8 28,.int .u8 2,.int .u8 29,.int .u8 14,.int .u8 24,.int .u8 3,.int .u8 30,.int .u8 22,.int .u8 20,.int .u8 15,.int .u8 25,.int .u8 17,.int .u8 4,.int .u8 8,.int .u8 31,.int .u8 27,.int .u8 13,.int .u8 23,.int .u8 21,.int .u8 19,.int .u8 16,.int .u8 7,.int .u8 26,.int .u8 12,.int .u8 18,.int .u8 6,.int .u8 11,.int .u8 5,.int .u8 10,.int .u8 9]
 let h2:=put h1 3 #[.int .u8 0,.int .u8 1,.int .u8 56,.int .u8 2,.int .u8 57,.int .u8 49,.int .u8 28,.int .u8 3,.int .u8 61,.int .u8 58,.int .u8 42,.int .u8 50,.int .u8 38,.int .u8 29,.int .u8 17,.int .u8 4,.int .u8 62,.int .u8 47,.int .u8 59,.int .u8 36,.int .u8 45,.int .u8 43,.int .u8 51,.int .u8 22,.int .u8 53,.int .u8 39,.int .u8 33,.int .u8 30,.int .u8 24,.int .u8 18,.int .u8 12,.int .u8 5,.int .u8 63,.int .u8 55,.int .u8 48,.int .u8 27,.int .u8 60,.int .u8 41,.int .u8 37,.int .u8 16,.int .u8 46,.int .u8 35,.int .u8 44,.int .u8 21,.int .u8 52,.int .u8 32,.int .u8 23,.int .u8 11,.int .u8 54,.int .u8 26,.int .u8 40,.int .u8 15,.int .u8 34,.int .u8 20,.int .u8 31,.int .u8 10,.int .u8 25,.int .u8 14,.int .u8 19,.int .u8 9,.int .u8 13,.int .u8 8,.int .u8 7,.int .u8 6]
 let h3:=put h2 0 (Lib.pow10Tab.map fun z=>Value.int .u64 z).toArray
 {w0 with heap:=h3}

noncomputable abbrev N0:Nat:=(World.settled Tryz.prog default).heap.size
theorem Bj(os:Os)(args:Array Value):laidMet Tryz.prog Oc ((fQ os).forCall (fun _ _=>0) ⟨#[],args,[]⟩).memory:=
 (LaidIn.of_run (l:=Oc) [2,3,0,5,4,N0,N0+1] 8 kF kF kF kF).met

theorem vy(os:Os)(args:Array Value):((fQ os).forCall (fun _ _=>0) ⟨#[],args,[]⟩).variablesRefB Tryz.prog=true:=kF
theorem vz (os : Os) (args : Array Value) : (((fQ os).forCall (fun _ _ => 0) ⟨#[], args, []⟩).heap.toList.drop Tryz.prog.globals.size).take ((begin Tryz.prog (fun _ _ => 0) default).world.heap.size - Tryz.prog.globals.size) =
      (begin Tryz.prog (fun _ _ => 0) default).world.heap.toList.drop Tryz.prog.globals.size := kF

theorem EA {W : World} (a : laidMet Tryz.prog Oc W) (b : W.ShapedOpen Tryz.prog) : cT W :=
  ⟨Lib.tabIs_of_head (zs := Lib.pow10Tab) (g := 0) (t := 271) (e := 244) (n := 20) Ji kF kF kF kF kF a.tail.tail,
   cell_of_shapedOpen_int (g := 1) (t := 3) (zero := #[.int .i64 0]) b (hG kF) kF rfl kF kF kF⟩

theorem Od{a b:Bool}(h:a=true)(k:b=true):(a&&b)=true:=by rw[h,k];rfl
theorem xF:laidOutB Tryz.pinned.checked.prog=true:=kF
theorem xG:mapsRowed Tryz.pinned.checked.prog=true:=kF

instance:Inhabited Pa:=⟨⟨0,0,0,⟨#[]⟩,⟨#[]⟩,⟨#[]⟩,⟨#[]⟩⟩⟩
instance:Inhabited Ho:=⟨⟨0,⟨#[]⟩,⟨#[]⟩,⟨#[]⟩,⟨#[]⟩,⟨#[]⟩,⟨#[]⟩⟩⟩
instance:Inhabited Sw:=⟨⟨0,0,0⟩⟩

section
variable {H:Type} {enc:TypeId×Value->H} {w:World} {base b0:Nat} {spare:Nat->Bool} {held:Bool}
theorem Bk{α:Type}[Inhabited α]{row:α->List Value}{P:α->Prop}{sz:Nat}(k9:0<sz)(o:∀x,(row x).length=sz){t e:TypeId}(s:Tryz.prog.underlying t=some (.slice e))(hC:Tryz.prog.cellsOf e=sz)
  (hx:∀(n:Nat)(cs:List Value)(y:DataW H×List MemPlace),DataW.trod enc Tryz.prog w base spare held n e cs=some y->∃x:α,cs=row x/\P x)
  {v:Value} {fuel:Nat} {y:DataW H×List MemPlace} (h:DataW.trod enc Tryz.prog w base spare held fuel t [v]=some y):
  ∃(A:Option Addr)(n c:Nat)(l:List α),v= .slice A n c/\cK w A sz (l.map row)/\l.length=n/\n<9223372036854775808/\(A=none->c=0)/\n<=c/\∀x∈l,P x:=by
 rcases open_slice s h with⟨d,_⟩|⟨a,len,cap,m,n,D,J,d,hb,hl,hm,f,_,hi⟩
 ·cases d;exact⟨none,0,0,[],rfl,.inl rfl,rfl,om,fun _=>rfl,hM _,sm⟩
 ·cases d;rw[hC]at hi;obtain⟨g,q⟩:=choose_lt (α:=α) (n:=len) (p:=fun i x=>P x/\∀j,(hj:j<(row x).length)->w.cell? (a.add (i*sz+j))=some ((row x)[j])) fun i u=>by
   have z:i<m:=by
    rw[f];split<;>omega
   obtain⟨K,B,C⟩:=hi i z;obtain⟨_,L,E⟩:=World.cells?_some B;obtain⟨x,rfl,F⟩:=hx _ _ _ C;refine⟨x,F,fun j hj=> ?_⟩;rw[<-Go.Deep.add_add,E j (by rw[o]at hj;omega),af hj]
  refine⟨some a,len,cap,(List.range len).map g,rfl,Ez k9 (fun r G=> ?_) (fun i b j hj=> ?_),sm,by unfold maxLen at hm;omega,fun k=>(by cases k),hl,fun x I=> ?_⟩
  ·obtain⟨x,_,rfl⟩:=kc.1 G;exact o x
  ·simp at b;simp only[List.getElem_map,List.getElem_range]at hj⊢;exact(q i b).2 j hj
  ·obtain⟨i,b,rfl⟩:=kc.1 I;exact(q i (jA.1 b)).1
theorem oF{α:Type}[Inhabited α]{row:α->List Value}{sz:Nat}(k9:0<sz)(a:∀x,(row x).length=sz){t e:TypeId}(b:Tryz.prog.underlying t=some (.slice e))(hC:Tryz.prog.cellsOf e=sz)
  (hx:∀(n:Nat)(cs:List Value)(y:DataW H×List MemPlace),DataW.trod enc Tryz.prog w base spare held n e cs=some y->∃x:α,cs=row x)
  {v:Value} {fuel:Nat} {y:DataW H×List MemPlace} (h:DataW.trod enc Tryz.prog w base spare held fuel t [v]=some y):
  ∃(A:Option Addr)(n c:Nat)(l:List α),v= .slice A n c/\cK w A sz (l.map row)/\l.length=n/\n<9223372036854775808/\(A=none->c=0):=by
 obtain⟨A,n,c,l,h1,h2,h3,h4,d,_⟩:=Bk (P:=fun _=>True) k9 a b hC (fun n cs y h=>by obtain⟨x,e⟩:=hx n cs y h;exact⟨x,e,trivial⟩) h;exact⟨A,n,c,l,h1,h2,h3,h4,d⟩

theorem pH:Tryz.prog.cellsOf 3=1:=kF
theorem Oe:Tryz.prog.cellsOf 9=1:=kF
theorem tq:Tryz.prog.cellsOf 57=1:=kF
theorem RE:Tryz.prog.cellsOf 59=3:=kF
theorem RF:Tryz.prog.cellsOf 65=7:=kF
theorem RG:Tryz.prog.cellsOf 61=7:=kF
theorem RH:Tryz.prog.cellsOf 39=3:=kF
theorem RI:Tryz.prog.cellsOf 44=3:=kF
theorem mu(n:Nat)(cs:List Value)(y:DataW H×List MemPlace)(h:DataW.trod enc Tryz.prog w base spare held n 3 cs=some y):∃x:Int,cs=dy x:=by
 obtain⟨z,a,_⟩:=DataW.trod_int RD h;exact⟨z,a⟩
theorem pa{n:Nat}{cs:List Value}{y:DataW H×List MemPlace}(h:DataW.trod enc Tryz.prog w base spare held n 57 cs=some y):∃x,cs=[.string x]:=by
 obtain⟨z,a,_⟩:=DataW.trod_string Xy h;exact⟨z,a⟩
theorem I2{n:Nat}{cs:List Value}{y:DataW H×List MemPlace}(h:DataW.trod enc Tryz.prog w base spare held n 9 cs=some y):∃x,cs=[.string x]:=by
 obtain⟨z,a,_⟩:=DataW.trod_string Xz h;exact⟨z,a⟩
theorem QJ(n:Nat)(cs:List Value)(y:DataW H×List MemPlace)(h:DataW.trod enc Tryz.prog w base spare held n 39 cs=some y):∃x:Sw,cs=x.row:=by
 obtain⟨a,m,_,rfl,hl,hlen,hf⟩:=DataW.trod_struct Tryz.underlying39 h;rw[RH]at hl
 match cs,hl with
 |[v0,v1,v2],_=>
  match a,hlen with
  |[b,c,d],_=>
   obtain⟨z0,e⟩:=mu m [v0] b (by simpa[pH]using hf 0 _ rfl);obtain⟨z1,f⟩:=mu m [v1] c (by simpa[pH]using hf 1 _ rfl);obtain⟨z2,g⟩:=mu m [v2] d (by simpa[pH]using hf 2 _ rfl);cases e;cases f;cases g;exact⟨⟨z0,z1,z2⟩,rfl⟩
theorem QK(n:Nat)(cs:List Value)(y:DataW H×List MemPlace)(h:DataW.trod enc Tryz.prog w base spare held n 44 cs=some y):∃x:Sw,cs=x.row:=by
 obtain⟨a,m,_,rfl,hl,hlen,hf⟩:=DataW.trod_struct Tryz.underlying44 h;rw[RI]at hl
 match cs,hl with
 |[v0,v1,v2],_=>
  match a,hlen with
  |[b,c,d],_=>
   obtain⟨z0,e⟩:=mu m [v0] b (by simpa[pH]using hf 0 _ rfl);obtain⟨z1,f⟩:=mu m [v1] c (by simpa[pH]using hf 1 _ rfl);obtain⟨z2,g⟩:=mu m [v2] d (by simpa[pH]using hf 2 _ rfl);cases e;cases f;cases g;exact⟨⟨z0,z1,z2⟩,rfl⟩
theorem TR{n:Nat}{cs:List Value}{y:DataW H×List MemPlace}(h:DataW.trod enc Tryz.prog w base spare held n 59 cs=some y):∃a b c,cs=[.string a,.string b,.string c]:=by
 obtain⟨d,m,_,rfl,hl,hlen,hf⟩:=DataW.trod_struct Tryz.underlying59 h;rw[RE]at hl
 match cs,hl with
 |[v0,v1,v2],_=>
  match d,hlen with
  |[e,f,g],_=>
   obtain⟨z0,i⟩:=pa (n:=m) (cs:=[v0]) (y:=e) (by simpa[tq]using hf 0 _ rfl);obtain⟨z1,j⟩:=pa (n:=m) (cs:=[v1]) (y:=f) (by simpa[tq]using hf 1 _ rfl);obtain⟨z2,k⟩:=pa (n:=m) (cs:=[v2]) (y:=g) (by simpa[tq]using hf 2 _ rfl);cases i;cases j;cases k;exact⟨z0,z1,z2,rfl⟩
theorem TS(n:Nat)(cs:List Value)(y:DataW H×List MemPlace)(h:DataW.trod enc Tryz.prog w base spare held n 65 cs=some y):∃x:Pa,cs=x.row:=by
 obtain⟨a,m,_,rfl,hl,hlen,hf⟩:=DataW.trod_struct Tryz.underlying65 h;rw[RF]at hl
 match cs,hl with
 |[v0,v1,v2,v3,v4,v5,v6],_=>
  match a,hlen with
  |[b,c,d,e,f,g,i],_=>
   obtain⟨z0,j⟩:=mu m [v0] b (by simpa[pH]using hf 0 _ rfl);obtain⟨z1,k⟩:=mu m [v1] c (by simpa[pH]using hf 1 _ rfl);obtain⟨z2,l⟩:=mu m [v2] d (by simpa[pH]using hf 2 _ rfl);obtain⟨z3,o⟩:=I2 (n:=m) (cs:=[v3]) (y:=e) (by simpa[Oe]using hf 3 _ rfl);obtain⟨z4,p⟩:=pa (n:=m) (cs:=[v4]) (y:=f) (by simpa[tq]using hf 4 _ rfl);obtain⟨z5,q⟩:=pa (n:=m) (cs:=[v5]) (y:=g) (by simpa[tq]using hf 5 _ rfl);obtain⟨r,s⟩:=pa (n:=m) (cs:=[v6]) (y:=i) (by simpa[tq]using hf 6 _ rfl);cases j;cases k;cases l;cases o;cases p;cases q;cases s;exact⟨⟨z0,z1,z2,z3,z4,z5,r⟩,rfl⟩
theorem QL(n:Nat)(cs:List Value)(y:DataW H×List MemPlace)(h:DataW.trod enc Tryz.prog w base spare held n 61 cs=some y):∃x:Ho,cs=x.row:=by
 obtain⟨d,m,_,rfl,hl,hlen,hf⟩:=DataW.trod_struct Tryz.underlying61 h;rw[RG]at hl
 match cs,hl with
 |[v0,v1,v2,v3,v4,v5,v6],_=>
  match d,hlen with
  |[e,f,g,i,j],_=>
   obtain⟨z0,k⟩:=mu m [v0] e (by simpa[pH]using hf 0 _ rfl);obtain⟨z1,l⟩:=I2 (n:=m) (cs:=[v1]) (y:=f) (by simpa[Oe]using hf 1 _ rfl);obtain⟨z2,o⟩:=pa (n:=m) (cs:=[v2]) (y:=g) (by simpa[tq]using hf 2 _ rfl);obtain⟨z3,p⟩:=pa (n:=m) (cs:=[v3]) (y:=i) (by simpa[tq]using hf 3 _ rfl);obtain⟨a,b,c,q⟩:=TR (n:=m) (cs:=[v4,v5,v6]) (y:=j) (by simpa[RE]using hf 4 _ rfl);cases k;cases l;cases o;cases p;cases q;exact⟨⟨z0,z1,z2,z3,a,b,c⟩,rfl⟩

theorem Bl{t e:TypeId}(a:Tryz.prog.underlying t=some (.slice e)){r:Reach}{v:Value}{d:DataW H}{p:List MemPlace}(hv:Value.okWide Tryz.prog w r b0 t v)(h:DataW.Trod enc Tryz.prog w base spare held t v d p):∃fuel,DataW.trod enc Tryz.prog w base spare held fuel t [v]=some (d,p):=by
 obtain⟨a0,len,cap,rfl⟩:=okWide_slice a hv;obtain⟨fuel,hf⟩:=h;exact⟨fuel,by simpa[Value.cells]using hf⟩
theorem rD{v:Value}{d:DataW H}{p:List MemPlace}(hv:Value.okWide Tryz.prog w .any b0 29 v)(h:DataW.Trod enc Tryz.prog w base spare held 29 v d p):
  ∃(A:Option Addr)(n c:Nat)(l:List Sw),v= .slice A n c/\cK w A 3 (l.map Sw.row)/\l.length=n:=by
 obtain⟨fuel,hf⟩:=Bl Tryz.underlying29 hv h;obtain⟨A,n,c,l,h1,h2,h3,_⟩:=oF (row:=Sw.row) dc (fun _=>rfl) Tryz.underlying29 RH QJ hf;exact⟨A,n,c,l,h1,h2,h3⟩
theorem vA{v:Value}{d:DataW H}{p:List MemPlace}(hv:Value.okWide Tryz.prog w .any b0 30 v)(h:DataW.Trod enc Tryz.prog w base spare held 30 v d p):
  ∃(A:Option Addr)(n c:Nat)(l:List Sw),v= .slice A n c/\cK w A 3 (l.map Sw.row)/\l.length=n:=by
 obtain⟨fuel,hf⟩:=Bl Tryz.underlying30 hv h;obtain⟨A,n,c,l,h1,h2,h3,_⟩:=oF (row:=Sw.row) dc (fun _=>rfl) Tryz.underlying30 RI QK hf;exact⟨A,n,c,l,h1,h2,h3⟩
theorem open_ints{v:Value}{d:DataW H}{p:List MemPlace}(hv:Value.okWide Tryz.prog w .any b0 48 v)(h:DataW.Trod enc Tryz.prog w base spare held 48 v d p):
  ∃(A:Option Addr)(n c:Nat)(l:List Int),v= .slice A n c/\cK w A 1 (l.map dy)/\l.length=n:=by
 obtain⟨fuel,hf⟩:=Bl Tryz.underlying48 hv h;obtain⟨A,n,c,l,h1,h2,h3,_⟩:=oF (row:=dy) dc (fun _=>rfl) Tryz.underlying48 pH mu hf;exact⟨A,n,c,l,h1,h2,h3⟩
end

instance:Inhabited Rm:=⟨⟨⟨⟨#[]⟩,0,[],⟨#[]⟩,⟨#[]⟩,0,0⟩,none,0,0⟩⟩
section
variable {H:Type} {enc:TypeId×Value->H} {w:World} {base b0:Nat} {spare:Nat->Bool} {held:Bool}
theorem RJ:Tryz.prog.cellsOf 87=7:=kF
theorem XA:Tryz.prog.cellsOf 25=2:=kF
theorem XB:Tryz.prog.cellsOf 28=3:=kF
theorem TT:Tryz.prog.cellsOf 85=1:=kF
theorem QM:Tryz.prog.cellsOf 26=1:=kF
theorem TU:Tryz.prog.cellsOf 22=1:=kF
theorem TV:Tryz.prog.cellsOf 23=1:=kF
theorem QN(n:Nat)(cs:List Value)(y:DataW H×List MemPlace)(h:DataW.trod enc Tryz.prog w base spare held n 87 cs=some y):
  ∃x:Rm,cs=x.row/\(cK w x.A 1 (x.r.iL.map zU)/\x.r.iL.length=x.n/\x.n<9223372036854775808/\(x.A=none->x.c=0)):=by
 obtain⟨a,m,_,rfl,hl,hlen,hf⟩:=DataW.trod_struct Tryz.underlying87 h;rw[RJ]at hl
 match cs,hl with
 |[v0,v1,v2,v3,v4,v5,v6],_=>
  match a,hlen with
  |[b,d,e,f,g,i,j],_=>
   obtain⟨z0,o⟩:=I2 (n:=m) (cs:=[v0]) (y:=b) (by simpa[Oe]using hf 0 _ rfl);obtain⟨z1,p⟩:=mu m [v1] d (by simpa[pH]using hf 1 _ rfl);obtain⟨A,k,c,l,rfl,q1,q2,q3,q4⟩:=oF (row:=zU) dc (fun _=>rfl) Tryz.underlying85 tq (fun n cs y h=>pa h) (v:=v2) (fuel:=m) (y:=e) (by simpa[TT]using hf 2 _ rfl);obtain⟨z3,q⟩:=pa (n:=m) (cs:=[v3]) (y:=f) (by simpa[tq]using hf 3 _ rfl);obtain⟨z4,s⟩:=pa (n:=m) (cs:=[v4]) (y:=g) (by simpa[tq]using hf 4 _ rfl);obtain⟨z5,t⟩:=mu m [v5] i (by simpa[pH]using hf 5 _ rfl);obtain⟨u,z⟩:=mu m [v6] j (by simpa[pH]using hf 6 _ rfl);cases o;cases p;cases q;cases s;cases t;cases z;exact⟨⟨⟨z0,z1,l,z3,z4,z5,u⟩,A,k,c⟩,rfl,q1,q2,q3,q4⟩
theorem rE{v:Value}{d:DataW H}{p:List MemPlace}(hv:Value.okWide Tryz.prog w .any b0 28 v)(h:DataW.Trod enc Tryz.prog w base spare held 28 v d p):
  ∃(A0:Option Addr)(n0 c0:Nat)(A1:Option Addr)(n1 c1:Nat)(A2:Option Addr)(n2 c2:Nat)(ps:List Pa)(hs:List Ho)(xs:List Rm),v= .agg #[.slice A0 n0 c0,.slice A1 n1 c1,.slice A2 n2 c2]/\rN w A0 n0 c0 A1 n1 c1 A2 n2 c2 ps hs xs:=by
 obtain⟨cs,rfl,k9⟩:=okWide_struct Tryz.underlying28 hv;rw[XB]at k9;obtain⟨v0,v1,v2,rfl⟩:∃v0 v1 v2,cs= #[v0,v1,v2]:=by
  obtain⟨l⟩:=cs
  match l,k9 with
  |[a,b,c],_=>exact⟨a,b,c,rfl⟩
 obtain⟨fuel,hf⟩:=h;obtain⟨g,m,_,_,_,hlen,hf⟩:=DataW.trod_struct Tryz.underlying28 hf
 match g,hlen with
 |[i,j],_=>
  have g0:DataW.trod enc Tryz.prog w base spare held m 25 [v0,v1]=some i:=by simpa[Value.cells,XA]using hf 0 _ rfl
  have g1:DataW.trod enc Tryz.prog w base spare held m 26 [v2]=some j:=by simpa[Value.cells,QM]using hf 1 _ rfl
  obtain⟨zs,e,_,_,_,k,f⟩:=DataW.trod_struct Tryz.underlying25 g0
  match zs,k with
  |[z0,z1],_=>
   have k0:DataW.trod enc Tryz.prog w base spare held e 22 [v0]=some z0:=by simpa[TU]using f 0 _ rfl
   have n:DataW.trod enc Tryz.prog w base spare held e 23 [v1]=some z1:=by simpa[TV]using f 1 _ rfl
   obtain⟨A0,n0,c0,ps,rfl,p1,o,q,r⟩:=oF (row:=Pa.row) dc (fun _=>rfl) Tryz.underlying22 RF TS k0;obtain⟨A1,n1,c1,hs,rfl,q1,q2,q3,q4⟩:=oF (row:=Ho.row) dc (fun _=>rfl) Tryz.underlying23 RG QL n;obtain⟨A2,n2,c2,xs,rfl,s,t,u,z,x,y⟩:=Bk (row:=Rm.row) dc (fun _=>rfl) Tryz.underlying26 RJ QN g1;exact⟨A0,n0,c0,A1,n1,c1,A2,n2,c2,ps,hs,xs,rfl,⟨p1,q1,o,q2,q,q3⟩,r,q4,s,t,u,x,y⟩
theorem wR{t0 t1 t2 t3 t4:TypeId}{args:Array Value}{e:List (DataW H)}{ps:List MemPlace}(h:DataW.TrodAll enc Tryz.prog w base spare held [t0,t1,t2,t3,t4] args.toList e ps):
  ∃v0 v1 v2 v3 v4 d0 d1 d2 d3 d4 a p1 b c d,args= #[v0,v1,v2,v3,v4]/\e=[d0,d1,d2,d3,d4]/\ps=a++p1++b++c++d/\DataW.Trod enc Tryz.prog w base spare held t0 v0 d0 a/\DataW.Trod enc Tryz.prog w base spare held t1 v1 d1 p1/\DataW.Trod enc Tryz.prog w base spare held t2 v2 d2 b/\DataW.Trod enc Tryz.prog w base spare held t3 v3 d3 c/\DataW.Trod enc Tryz.prog w base spare held t4 v4 d4 d:=by
 obtain⟨v0,_,d0,_,a,_,f,rfl,rfl,g0,g⟩:=trodAll_cons h;obtain⟨v1,_,d1,_,p1,_,rfl,rfl,rfl,g1,i⟩:=trodAll_cons g;obtain⟨v2,_,d2,_,b,_,rfl,rfl,rfl,g2,j⟩:=trodAll_cons i;obtain⟨v3,_,d3,_,c,_,rfl,rfl,rfl,g3,k⟩:=trodAll_cons j;obtain⟨v4,_,d4,_,d,_,rfl,rfl,rfl,g4,l⟩:=trodAll_cons k;obtain⟨rfl,rfl,rfl⟩:=trodAll_nil l;exact⟨v0,v1,v2,v3,v4,d0,d1,d2,d3,d4,a,p1,b,c,d,by cases args;simp_all,rfl,sm,g0,g1,g2,g3,g4⟩
end

def Og(n:Nat)(o:List Int):Prop:=o.Nodup/\∀x∈o,0<=x/\x<n
def pI(o:List Int):Nat:=o.foldl (fun s x=>eG s x.toNat) 0
theorem TW{n:Nat}{o:List Int}(h:o.length=n/\∀i∈List.range n,((i:Nat):Int)∈o):Og n o:=by
 have hp:=AQ h;refine⟨(hp.nodup_iff).2 (Qi.2 (N9.imp fun h=>by omega)),fun x hx=> ?_⟩;obtain⟨i,hi,rfl⟩:=kc.1 (hp.mem_iff.1 hx);have:=jA.1 hi;omega
theorem TX{n:Nat}{o:List Int}(hl:o.length=n)(h:Og n o):∀i∈List.range n,((i:Nat):Int)∈o:=by
 intro i hi;have hp:((List.range n).map fun(i:Nat)=>(i:Int)).Perm o:=Jr h.1 (fun x hx=> ?_) (by simp;omega)
 ·exact hp.mem_iff.1 (kc.2 ⟨i,hi,rfl⟩)
 ·obtain⟨h0,h1⟩:=h.2 x hx;exact kc.2 ⟨x.toNat,jA.2 om,om⟩
theorem K2{al:Nat->Bool}{n:Nat}{o:List Int}(h:¬Og n o):pV al n o=(-1,10):=by
 unfold pV;rw[cc fun k=>h (TW k)]
theorem I3{al:Nat->Bool}{n:Nat}{o:List Int}(h:o.length≠n):pV al n o=(-1,10):=by
 unfold pV;rw[cc fun k=>h k.1]
theorem I4{al:Nat->Bool}{n:Nat}{o:List Int}(hl:o.length=n)(h:Og n o):pV al n o=uD al 0 0 o:=by
 unfold pV;rw[ar fun k=>k ⟨hl,TX hl h⟩]
theorem Da(o:List Int)(j:Nat):(pI o).testBit j=o.any fun x=>decide (x.toNat=j):=by
 unfold pI;rw[NF];simp
theorem Bm{n:Nat}{o:List Int}(h:∀x∈o,0<=x/\x<n):pI o<2^n:=by
 have key:∀(o:List Int)(s:Nat),(∀x∈o,0<=x/\x<n)->s<2^n->o.foldl (fun s x=>eG s x.toNat) s<2^n:=by
  intro o;induction o with
  |nil=>intro s _ hs;exact hs
  |cons x r ih=>
   intro s hx hs;have:=hx x sm;exact ih _ (fun y hy=>hx y (by simp[hy])) (ou hs om)
 exact key o 0 h (ya n)
theorem take_one{α:Type}{o:List α}{i:Nat}(hi:i<o.length):o.take (i+1)=o.take i++[o[i]]:=by
 rw[eN,af hi];rfl
theorem vB{o:List Int}{i:Nat}(hi:i<o.length):pI (o.take (i+1))=eG (pI (o.take i)) o[i].toNat:=by
 unfold pI;rw[take_one hi,AY];rfl
theorem QO{n:Nat}{o:List Int}{i:Nat}(hi:i<o.length)(h:Og n (o.take i))(h0:0<=o[i])(hb:(pI (o.take i)).testBit o[i].toNat=true):¬Og n o:=by
 intro k;rw[Da,kh]at hb;obtain⟨x,hx,e⟩:=hb;have e:=hG e;have a:=h.2 x hx;have e:x=o[i]:=om;have hn:=k.1;rw[<-ly i o,ec hi]at hn;exact(uS.1 hn).2.2 x hx o[i] PB e
theorem Oh{n:Nat}{o:List Int}{i:Nat}(hi:i<o.length)(h:Og n (o.take i))(h0:0<=o[i])(h1:o[i]<n)(hb:(pI (o.take i)).testBit o[i].toNat=false):Og n (o.take (i+1)):=by
 rw[take_one hi];refine⟨uS.2 ⟨h.1,sm,fun x hx y hy e=> ?_⟩,fun x hx=> ?_⟩
 ·rw[gb]at hy;subst hy;subst e;rw[Da,vd]at hb;exact hb _ hx (fc rfl)
 ·rcases h8.1 hx with hx|hx
  ·exact h.2 x hx
  ·rw[gb]at hx;subst hx;exact⟨h0,h1⟩
theorem K3{S:List Int}{j:Nat}(hj:j<S.length)(hp:(S.take j).Pairwise fun a b=>a<b)(h:∀(m:Nat)(k:m<S.length),m+1=j->S[m]<S[j]):(S.take (j+1)).Pairwise fun a b=>a<b:=by
 rw[take_one hj];refine uS.2 ⟨hp,sm,fun x hx y hy=> ?_⟩;rw[gb]at hy;subst hy;obtain⟨m,hm,rfl⟩:=List.mem_iff_getElem.1 hx;rw[fs]at hm;by_cases e:m+1=j
 ·rw[ve];exact h m om e
 ·have c:=h (j - 1) om om;have:=za.1 hp m (j - 1) (by rw[fs];omega) (by rw[fs];omega) om;rw[ve,ve]at this;rw[ve];omega
theorem I5{al:Nat->Bool}{n:Nat}{S:List Int}(h0:(0:Int)∈S)(h1:((di n:Nat):Int)∉S)(hp:S.Pairwise fun a b=>a<b)(c:∀s∈S,0<=s/\s<=(di n:Nat))
  (d:∀s∈S,∀i,i<n->s.toNat.testBit i=true∨((eG s.toNat i:Nat):Int)∈S∨al (eG s.toNat i)=false):gx al n S=true:=by
 refine eY.2 ⟨hp,fun s hs=>⟨(c s hs).1,?_⟩,h0,fun s hs i hi=> ?_⟩
 ·have:=(c s hs).2;have:s≠(di n:Nat):=fun e=>h1 (by rw[<-e];exact hs)
  omega
 ·rcases d s hs i hi with h|h
  ·refine .inl ?_;have e:eG s.toNat i=s.toNat:=by
    refine EZ fun j=> ?_
    rw[nH];by_cases e:i=j
    ·subst e;rw[h];rfl
    ·rw[eh e,Of]
   have:=c s hs;rw[e,show((s.toNat:Nat):Int)=s by omega];exact hs
  ·exact h

theorem wS{w0:World}{A:Option Addr}{n c:Nat}{l:List Int}(hl:cK w0 A 1 (l.map dy))(hlen:l.length=n)(hn:n<2147483648)(z:Int):
  Pure Tryz.prog 54 #[.slice A n c,.int .i64 z] w0 fun v _=>v= .bool (decide (z∈l)):=by
 have key:∀(d i:Nat)(w:World),n - i=d->i<=n->Below w0.heap.size w0 w->z∉l.take i->F.cW.L2 A n c z i w0.heap.size w fun v _=>v= .bool (decide (z∈l)):=by
  intro d;induction d with
  |zero=>
   intro i w e hi hw hx;rw[bx om]at hx;exact F.cW.L2.step ⟨fun h=>by omega,fun _=>by rw[eh hx]⟩
  |succ d ih=>
   intro i w e hi hw hx;have b:i<l.length:=om;have g:=sc i;obtain⟨hb,j,k,a,_⟩:=(hl.aj hw lf).at_ (fun _=>rfl) hlen b;refine F.cW.L2.step ⟨fun _=>⟨hb,j,k,_,a,fun h=> ?_,fun h=>⟨ir,?_⟩⟩,fun h=>by omega⟩
   ·rw[fc (by rw[<-h];exact cd b)]
   ·rw[g];refine ih (i+1) w om om hw fun q=> ?_
    rw[take_one b]at q;rcases h8.1 q with q|q
    ·exact hx q
    ·exact h (gb.1 q).symm
 exact F.cW.vc (key n 0 w0 rfl om (Below.refl _ _) sm)
def iN(z:Nat):Int:=z
theorem Oi{l:List Nat}{z:Nat}:decide ((z:Int)∈l.map iN)=l.contains z:=by
 rw[sr,nC,zw,kc];constructor
 ·rintro⟨x,hx,e⟩;have:x=z:=by unfold iN at e;omega
  exact this▸hx
 ·exact fun h=>⟨z,h,rfl⟩
def I6(out:List Nat)(s i:Nat):Bool:=(List.range i).any fun i=>s.testBit i&&out.contains (s^^^2^i)
theorem Bn{out:List Nat}{s i:Nat}:I6 out s (i+1)=(I6 out s i||(s.testBit i&&out.contains (s^^^2^i))):=by
 unfold I6;rw[pg,BO];simp
theorem QP{α:Type}{f:Nat->Option α}{i:Nat}{x:α}(a:(List.range i).findSome? f=none)(hx:f i=some x):∀n,i<n->(List.range n).findSome? f=some x:=by
 intro n;induction n with
 |zero=>intro h;omega
 |succ n ih=>
  intro h;rw[pg,List.findSome?_append];by_cases e:i=n
  ·subst e;rw[a];simp[hx]
  ·rw[ih om];rfl
theorem K4{α:Type}{f:Nat->Option α}{i:Nat}(a:(List.range i).findSome? f=none)(hx:f i=none):(List.range (i+1)).findSome? f=none:=by
 rw[pg,List.findSome?_append,a];simp[hx]
theorem Oj{al:Nat->Bool}{n:Nat}:∀(d s:Nat)(t:List Nat),ez al n d s=some t->t.length<=nI n s:=by
 intro d;induction d with
 |zero=>
  intro s t h;rw[ez]at h;split at h
  ·cases h;exact Oq _
  ·cases h
 |succ d ih=>
  intro s t h;rw[ez]at h;split at h
  ·cases h;exact Oq _
  ·obtain⟨i,hi,hx⟩:=Ff h;split at hx
   ·cases hx
   ·rename_i a;simp only[xt,tW,not_or,zC,hP]at a;obtain⟨e,b,rfl⟩:=k7.1 hx;have:=ih _ _ b;have:=sY (jA.1 hi) a.1;rw[gw];omega
theorem bF.abZ{w:World}{B ty:Nat}{A:Option Addr}{n c sz:Nat}{rows:List (List Value)}(h:bF w B ty A n c sz rows):A=none->c=0:=by
 intro e;subst e;rcases h.1.2 with⟨h1,_⟩|⟨_,_,_,h1,_⟩
 ·cases h1;rfl
 ·cases h1
section
variable {w:World} {A0 A1 A2 A A3:Option Addr} {n0 c0 n1 c1 n2 c2 n c n3 c3:Nat} {ps:List Pa} {hs:List Ho} {xs:List Rm} {l works:List Sw}
theorem yl(h:Jz w A0 n0 A1 n1 A2 n2 c2 A n A3 n3 ps hs xs l works):
  Pure Tryz.prog 55 #[.agg #[.slice A0 n0 c0,.slice A1 n1 c1,.slice A2 n2 c2],.slice A n c,.slice A3 n3 c3] w fun v w'=>∃A n c,v= .slice A n c/\cK w' A 1 (((bB (aP ps hs (aT xs) l works) n3 (di n3)).map iN).map dy)/\(bB (aP ps hs (aT xs) l works) n3 (di n3)).length=n/\n<=64:=by
 have j:n3<=6:=by have:=h.ok.n;have:=h.lw;omega
 have V:=iK n3;have W:=oX n3 j;refine F.aA.vc fun w1 E=> ?_
 have hw:=k0 E;refine dx ft [.int .i64 0] (by simp[Value.cells]) sm hw.size fun a co G H I=> ?_
 have key:∀(d s:Nat)(a:Option Addr)(no co:Nat)(w':World),di n3+1 - s=d->1<=s->s<=di n3+1->Below w.heap.size w w'->no<=s->bF w' w.heap.size 3 a no co 1 (((bB (aP ps hs (aT xs) l works) n3 (s - 1)).map iN).map dy)->
   F.aA.L3 A n c A3 n3 c3 a no co s A0 n0 c0 A1 n1 c1 A2 n2 c2 w.heap.size w' fun v w'=>∃A n c,v= .slice A n c/\cK w' A 1 (((bB (aP ps hs (aT xs) l works) n3 (di n3)).map iN).map dy)/\(bB (aP ps hs (aT xs) l works) n3 (di n3)).length=n/\n<=64:=by
  intro d;induction d with
  |zero=>
   intro s a no co w' J k K hw m ho;have:s=di n3+1:=om;subst this;refine F.aA.L3.step ⟨kt om,fun q=> ?_,fun _=>⟨a,no,co,rfl,ho.sl,?_,om⟩⟩
   ·rw[pG j]at q;omega
   ·have:=ho.len;simpa using this
  |succ d ih=>
   intro s a no co w' J k K hw m ho;have L:=sc s;have hlen:=ho.len;rw[gv]at hlen;have z:bB (aP ps hs (aT xs) l works) n3 s=sZ (aP ps hs (aT xs) l works) n3 (bB (aP ps hs (aT xs) l works) n3 (s - 1)) s:=by
    obtain⟨t,rfl⟩:∃t,s=t+1:=⟨s - 1,om⟩
    unfold bB;rw[pg,AY];rfl
   have out:∀(a:Option Addr)(no co:Nat)(w':World),Below w.heap.size w w'->no<=s+1->bF w' w.heap.size 3 a no co 1 (((bB (aP ps hs (aT xs) l works) n3 s).map iN).map dy)->az .i64 ((s:Int)+1)/\F.aA.L3 A n c A3 n3 c3 a no co ((s:Int)+1) A0 n0 c0 A1 n1 c1 A2 n2 c2 w.heap.size w' fun v w'=>∃A n c,v= .slice A n c/\cK w' A 1 (((bB (aP ps hs (aT xs) l works) n3 (di n3)).map iN).map dy)/\(bB (aP ps hs (aT xs) l works) n3 (di n3)).length=n/\n<=64:=by
    intro a no co w' hw m ho;refine⟨ir,?_⟩;rw[L];exact ih (s+1) a no co w' om om om hw m (by rw[uP];exact ho)
   have inner:∀(e i:Nat)(w':World),n3 - i=e->i<=n3->Below w.heap.size w w'->bF w' w.heap.size 3 a no co 1 (((bB (aP ps hs (aT xs) l works) n3 (s - 1)).map iN).map dy)->
     F.aA.L7 A n c A3 n3 c3 a no co s (I6 (bB (aP ps hs (aT xs) l works) n3 (s - 1)) s i) i A0 n0 c0 A1 n1 c1 A2 n2 c2 w.heap.size w' fun v w'=>∃A n c,v= .slice A n c/\cK w' A 1 (((bB (aP ps hs (aT xs) l works) n3 (di n3)).map iN).map dy)/\(bB (aP ps hs (aT xs) l works) n3 (di n3)).length=n/\n<=64:=by
    intro e;induction e with
    |zero=>
     intro i w' he hi hw ho;have:i=n3:=om;subst this;have B:(I6 (bB (aP ps hs (aT xs) l works) i (s - 1)) s i&&aP ps hs (aT xs) l works s)=false->bB (aP ps hs (aT xs) l works) i s=bB (aP ps hs (aT xs) l works) i (s - 1):=fun q=>by
      rw[z];unfold sZ;rw[ar];unfold I6 at q;rw[q];decide
     refine F.aA.L7.step ⟨fun q=>by omega,fun _=>⟨fun hf=>pm (pF (h.aj hw) om) ?_,fun hf=>out a no co w' hw om (by rw[B (by rw[hf];rfl)];exact ho)⟩⟩;rintro v M o rfl;have r:=kP hw o;refine⟨_,rfl,fun ha=> ?_,fun ha=>out a no co M r om (by rw[B (by rw[ha,AG])];exact ho.below o)⟩;have e:bB (aP ps hs (aT xs) l works) i s=bB (aP ps hs (aT xs) l works) i (s - 1)++[s]:=by
      rw[z];unfold sZ;rw[cc];rw[eb];exact⟨hf,ha⟩
     refine ny ft lf (ho.below o) (x:= .int .i64 (s:Int)) rfl (by simp[Value.cells,dA]) r.size om dc fun N O P y _ Q=>out N (no+1) O P (r.trans Q) om ?_
     rw[e,lx,lx];exact y
    |succ e R=>
     intro i w' he hi hw ho;have S:=sc i;have go:∀(b:Bool)(w':World),Below w.heap.size w w'->bF w' w.heap.size 3 a no co 1 (((bB (aP ps hs (aT xs) l works) n3 (s - 1)).map iN).map dy)->b=I6 (bB (aP ps hs (aT xs) l works) n3 (s - 1)) s (i+1)->
       az .i64 ((i:Int)+1)/\F.aA.L7 A n c A3 n3 c3 a no co s b ((i:Int)+1) A0 n0 c0 A1 n1 c1 A2 n2 c2 w.heap.size w' fun v w'=>∃A n c,v= .slice A n c/\cK w' A 1 (((bB (aP ps hs (aT xs) l works) n3 (di n3)).map iN).map dy)/\(bB (aP ps hs (aT xs) l works) n3 (di n3)).length=n/\n<=64:=by
      intro b w' hw ho hb;refine⟨ir,?_⟩;rw[S,hb];exact R (i+1) w' om om hw ho
     refine F.aA.L7.step ⟨fun _=>⟨fun hf=>go true w' hw ho (by rw[Bn,hf,Bool.true_or]),fun hf=>pm (Bf om om w') ?_⟩,fun q=>by omega⟩;rintro v T g rfl;have C:=kP hw g;refine⟨_,rfl,fun hb=>⟨kt om,?_⟩,fun hb=>go false T C (ho.below g) (by rw[Bn,hf,hb];rfl)⟩;rw[mm _ om,Qw _ om _ om];refine pm (wS (ho.below g).sl hlen om _) ?_;rintro v U D rfl;refine⟨_,rfl,go _ U (kP C D) ((ho.below g).below D) ?_⟩;rw[Bn,hf,hb,Oi];rfl
   refine F.aA.L3.step ⟨kt om,fun _=>inner n3 0 w' rfl om hw ho,fun q=> ?_⟩;rw[pG j]at q;omega
 exact key _ 1 a 1 co G rfl om om (kP hw I) om (H.base hw.size)
def RrR(o:Option (List Nat))(v:Value)(w':World):Prop:=∃A m c,v= .tuple #[.slice A m c,.bool o.isSome]/\∀t,o=some t->cK w' A 1 ((t.map iN).map dy)/\t.length=m/\(A=none->c=0)
theorem Ol:∀(d s:Nat)(w:World),nI n3 s<=d->s<2^n3->Jz w A0 n0 A1 n1 A2 n2 c2 A n A3 n3 ps hs xs l works->
  Pure Tryz.prog 56 #[.agg #[.slice A0 n0 c0,.slice A1 n1 c1,.slice A2 n2 c2],.slice A n c,.slice A3 n3 c3,.int .i64 (s:Int)] w (RrR (ez (aP ps hs (aT xs) l works) n3 d s)):=by
 intro d;induction d with
 |zero=>
  intro s w J y h;have g:n3<=6:=by have:=h.ok.n;have:=h.lw;omega
  have K:=oX n3 g;have L:=xA y om;have M:=iK n3;have e:iP .i64 1 (n3:Int) - 1=(di n3:Nat):=by rw[pG g];omega
  refine F.bN.vc ⟨kt om,?_⟩;rw[e];refine⟨ir,fun _ w1 _=> ?_,fun q=>by omega⟩;rw[ez,cc L];exact⟨_,_,_,rfl,fun t a=>by cases a;exact⟨.inl rfl,rfl,fun _=>rfl⟩⟩
 |succ d ih=>
  intro s w J y h;have g:n3<=6:=by have:=h.ok.n;have:=h.lw;omega
  have K:=oX n3 g;have M:=iK n3;have e:iP .i64 1 (n3:Int) - 1=(di n3:Nat):=by rw[pG g];omega
  refine F.bN.vc ⟨kt om,?_⟩;rw[e];refine⟨ir,fun q w1 _=> ?_,fun q N O=> ?_⟩
  ·rw[ez,cc om];exact⟨_,_,_,rfl,fun t a=>by cases a;exact⟨.inl rfl,rfl,fun _=>rfl⟩⟩
  rw[ez,ar om];generalize hf:(fun i=>if s.testBit i|| !aP ps hs (aT xs) l works (eG s i)then none else(ez (aP ps hs (aT xs) l works) n3 d (eG s i)).map (i:: ·))=f;have b:∀i,f i=if s.testBit i|| !aP ps hs (aT xs) l works (eG s i)then none else(ez (aP ps hs (aT xs) l works) n3 d (eG s i)).map (i:: ·):=fun i=>by rw[<-hf]
  have key:∀(e i:Nat)(w':World),n3 - i=e->i<=n3->Below w.heap.size w w'->(List.range i).findSome? f=none->F.bN.L4 A n c A3 n3 c3 s i A0 n0 c0 A1 n1 c1 A2 n2 c2 w.heap.size w' (RrR ((List.range n3).findSome? f)):=by
   intro e;induction e with
   |zero=>
    intro i w' he hi hw m;have:i=n3:=om;subst this;refine F.bN.L4.step ⟨fun q=>by omega,fun _=> ?_⟩;rw[m];exact⟨_,_,_,rfl,fun t a=>by cases a⟩
   |succ e P=>
    intro i w' he hi hw m;have Q:=sc i;have go:∀(w':World),Below w.heap.size w w'->f i=none->az .i64 ((i:Int)+1)/\F.bN.L4 A n c A3 n3 c3 s ((i:Int)+1) A0 n0 c0 A1 n1 c1 A2 n2 c2 w.heap.size w' (RrR ((List.range n3).findSome? f)):=by
     intro w' hw hx;refine⟨ir,?_⟩;rw[Q];exact P (i+1) w' om om hw (K4 m hx)
    have z:=ou (s:=s) (i:=i) (n:=n3) y om;refine F.bN.L4.step ⟨fun _ R S=>pm (Bf om om R) ?_,fun q=>by omega⟩;rintro v T U rfl;have B:=kP (kE hw S) U;refine⟨_,rfl,fun hb=>go T B (by rw[b,hb];rfl),fun hb=>⟨kt om,?_⟩⟩;rw[mm _ om,vu _ om _ om];refine pm (pF (h.aj B) om) ?_;rintro v V W rfl;have E:=kP B W;refine⟨_,rfl,fun ha=>go V E (by rw[b,ha];simp),fun ha=>⟨kt om,fun X Y=> ?_⟩⟩;have G:=kE E Y;have ha:aP ps hs (aT xs) l works (eG s i)=true:=by simpa using ha
    have j:f i=(ez (aP ps hs (aT xs) l works) n3 d (eG s i)).map (i:: ·):=by rw[b,hb,ha];rfl
    refine pm (ih (eG s i) X (by have:=sY (n:=n3) (s:=s) (i:=i) om hb;omega) z (h.aj G)) ?_;rintro v Z Lj ⟨Yh,Yi,Yj,rfl,a⟩;have o:=kP G Lj;refine⟨_,_,_,_,rfl,fun x=> ?_,fun x=>go Z o ?_⟩
    ·obtain⟨t,C⟩:=Ai.1 x;obtain⟨q1,q2,q3⟩:=a t C;rw[C]at j;have j:f i=some (i::t):=j;rw[QP m j n3 om];have hl3:=ga (Oj _ _ _ C) (wN n3 _);refine dx ft [.int .i64 (i:Int)] (by simp[Value.cells]) sm o.size fun X8 X9 wX D H=> ?_
     have H9:=kP o H;refine MM ft lf (D.base o.size) (q1.below H) (by simpa using q2) (fun r k=>by obtain⟨s,_,rfl⟩:=kc.1 k;rfl) (fun r k=>by obtain⟨s,_,rfl⟩:=kc.1 k;intro u hu;rw[gb.1 hu];rfl) q3 H9.size (by simp only[vi];omega) dc fun A' c' rU I _ Jn=>⟨_,_,_,rfl,fun t' XM=> ?_⟩
     cases XM;exact⟨I.sl,by simp only[gw,ot];omega,I.abZ⟩
    ·rw[j];cases k:ez (aP ps hs (aT xs) l works) n3 d (eG s i)with
     |none=>rfl
     |some t=>rw[k]at x;cases x
  exact key n3 0 N rfl om (k0 O) rfl
def OrR(r:List Int×Int)(v:Value)(w':World):Prop:=∃A n c,v= .tuple #[.slice A n c,.int .i64 r.2]/\cK w' A 1 (r.1.map dy)/\r.1.length=n
theorem GQ(hp:fu w A0 n0 A1 n1 A2 n2 c2 ps hs xs)(h:cK w A 3 (l.map Sw.row))(hl:l.length=n)(hn:n<=40)(d:cK w A3 3 (works.map Sw.row))(a:works.length=n3):
  Pure Tryz.prog 25 #[.agg #[.slice A0 n0 c0,.slice A1 n1 c1,.slice A2 n2 c2],.slice A n c,.slice A3 n3 c3] w (OrR (vq ps hs (aT xs) l works)):=by
 refine F.iG.vc fun w1 e=> ?_
 have hw:=k0 e;refine pm (tp (hp.aj hw) (h.aj hw lf) hl hn (d.aj hw lf) a) ?_;rintro v i g rfl;have b:=kP hw g;unfold vq;refine⟨_,rfl,fun k=>by rw[cc k];exact⟨_,_,_,rfl,.inl rfl,rfl⟩,fun k=> ?_⟩;rw[ar k];refine pm (yl (Jz.mk (hp.aj b) (h.aj b lf) hl hn (d.aj b lf) a (rB (ep.1 k)))) ?_;rintro v j m ⟨A5,n5,c5,rfl,q1,q2,_⟩;rw[a];exact⟨_,_,_,rfl,_,_,_,rfl,q1,by simpa using q2⟩
theorem K5(hp:fu w A0 n0 A1 n1 A2 n2 c2 ps hs xs)(h:cK w A 3 (l.map Sw.row))(hl:l.length=n)(hn:n<=40)(g:cK w A3 3 (works.map Sw.row))(a:works.length=n3):
  Pure Tryz.prog 23 #[.agg #[.slice A0 n0 c0,.slice A1 n1 c1,.slice A2 n2 c2],.slice A n c,.slice A3 n3 c3] w (OrR (vo ps hs (aT xs) l works)):=by
 refine F.jY.vc fun w1 m=> ?_
 have hw:=k0 m;refine pm (tp (hp.aj hw) (h.aj hw lf) hl hn (g.aj hw lf) a) ?_;rintro v G q rfl;have r:=kP hw q;unfold vo;refine⟨_,rfl,fun k=>by rw[cc k];exact⟨_,_,_,rfl,.inl rfl,rfl⟩,fun k=> ?_⟩;rw[ar k];have ok:=rB (ep.1 k);have j:n3<=6:=by have:=ok.n;omega
 have H:=iK n3;have I:=oX n3 j;have e:iP .i64 1 (n3:Int) - 1=(di n3:Nat):=by rw[pG j];omega
 refine⟨kt om,?_⟩;rw[e];refine⟨ir,fun J x=> ?_⟩;have b:=kE r x;refine pm (yl (Jz.mk (hp.aj b) (h.aj b lf) hl hn (g.aj b lf) a ok)) ?_;rintro v K y ⟨L,M,N,rfl,q1,q2,q3⟩;have z:=kP b y;refine⟨_,_,_,rfl,pm (wS q1 (by simpa using q2) om _) ?_⟩;rintro v B C rfl;have i:=kP z C;rw[Oi,a];refine⟨_,rfl,fun hf=> ?_,fun hf=> ?_⟩
 ·cases d:ez (aP ps hs (aT xs) l works) n3 n3 0 with
  |none=>exact⟨_,_,_,rfl,.inl rfl,rfl⟩
  |some o=>
   have:=CL.2 ⟨o,d⟩;rw[<-zw,hf]at this;cases this
 ·obtain⟨o,d⟩:=CL.1 (zw.1 (by simpa using hf));refine pm (Ol (c0:=c0) (c1:=c1) (c:=c) (c3:=c3) n3 0 B (wN n3 0) (ya n3) (Jz.mk (hp.aj i) (h.aj i lf) hl hn (g.aj i lf) a ok)) ?_;rintro v O P ⟨Q,R,c12,rfl,D⟩;obtain⟨p1,E,_⟩:=D o d;rw[d];exact⟨_,_,_,_,rfl,_,_,_,rfl,p1,by simpa using E⟩
end

section
variable {w:World} {A0 A1 A2 A A3:Option Addr} {n0 c0 n1 c1 n2 c2 n c n3 c3:Nat} {ps:List Pa} {hs:List Ho} {xs:List Rm} {l works:List Sw}
theorem EB(m:cT w)(G:rN w A0 n0 c0 A1 n1 c1 A2 n2 c2 ps hs xs)(L:cK w A 3 (l.map Sw.row))(hl:l.length=n)(M:cK w A3 3 (works.map Sw.row))(b:works.length=n3):
  Pure Tryz.prog 4 #[.agg #[.slice A0 n0 c0,.slice A1 n1 c1,.slice A2 n2 c2],.slice A n c,.slice A3 n3 c3] w fun v _=>v= .bool true:=by
 refine F.fa.vc fun w1 N=> ?_
 have hw:=k0 N;refine pm (tn (m.next hw)) ?_;rintro v w4 O rfl;have hw:=kP hw O;refine⟨_,rfl,fun k=>(by cases k),fun _=>pm (xD (G.aj hw)) ?_⟩;rintro v w7 P rfl;have hw:=kP hw P;refine⟨_,rfl,fun _=>rfl,fun hf=> ?_⟩;have g:=IT (G.aj hw) (L.aj hw lf) hl (M.aj hw lf) b (hP _|>.mp hf);have hn:=g.n;have h7:=g.n7;refine Xr g fun B0 d0 Q d1 R d2 S cs T U MJ V H hp o s1 q s2=> ?_
 have I:=kP hw H;refine pm (CV (m.next I) hp s1 hl q hn s2 b) ?_;rw[o];rintro v Ab d ⟨YS,n19,YT,rfl,r,x,_⟩;have W:=kP I d;have h:=g.aj (kP H d);refine⟨_,_,_,_,rfl,pm (K5 h.p h.s hl hn h.wk b) ?_⟩;rintro v Kg y ⟨X,n23,Y,rfl,z,B⟩;have Z:=kP W y;have J:=h.aj y;refine⟨_,_,_,_,rfl,Xr J fun B0 d0 Q d1 R d2 S cs T U GY V i hp o s1 q s2=> ?_⟩;have K:=kP Z i;refine pm (yk (m.next K) hp s1 hl q hn s2 b) ?_;rw[o];rintro v GU j ⟨A38,n38,c38,rfl,Q8,C,_⟩;have IM:=kP K j;have D:=J.aj (kP i j);refine⟨_,_,_,_,rfl,pm (GQ D.p D.s hl hn D.wk b) ?_⟩;rintro v PC a ⟨Uv,Wa,Uw,rfl,X2,E⟩;have hre:(vq ps hs (aT xs) l works).1.length<=1000000:=by
  unfold vq;split
  ·simp
  ·rename_i k;have:=NT (aP ps hs (aT xs) l works) works.length (di works.length);have Ll:=oX _ (rB (ep.1 k)).n;have:=iK works.length;rw[gv];omega
 have T3:(vo ps hs (aT xs) l works).1.length<=1000000:=by
  unfold vo;split
  ·simp
  ·split
   ·rename_i hx;have:=KO hx;rw[gv];omega
   ·simp
 refine⟨_,_,_,_,rfl,pm (Em (r.below (kP (kP (kP y i) j) a)) (z.below (kP (kP i j) a)) x B om) ?_⟩;rintro v w48 e rfl;refine⟨_,rfl,fun _=>⟨fun _=>pm (Em (Q8.below (kP a e)) (X2.below e) C E om) ?_,fun k=>absurd rfl k⟩,fun k=>absurd k sm⟩;rintro v Ex _ rfl;exact⟨_,rfl,fun _=>by simp,fun k=>absurd k sm⟩
end
end Go.Proofs.YtgfkeadgjkfomaaGreatDoor.B
