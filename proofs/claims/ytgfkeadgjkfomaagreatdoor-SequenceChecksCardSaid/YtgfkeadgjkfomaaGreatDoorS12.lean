/- Part 12 of the proofs that: SequenceStates, SequenceOrders and SequenceChecks hold for every input: the program's functions return what the reference functions return -/
import Derived.Test.YtgfkeadgjkfomaaGreatDoorS11
set_option linter.unusedVariables false
set_option linter.unusedSimpArgs false
namespace Go.Proofs.YtgfkeadgjkfomaaGreatDoor.B
open Go Go.RowKit Go.Proofs Go.Proofs.YtgfkeadgjkfomaaGreatDoor.Vc

section
variable {w:World} {A0 A1 A2 A A3 A5:Option Addr} {n0 c0 n1 c1 n2 c2 n c n3 c3 n5 c5:Nat} {ps:List Pa} {hs:List Ho} {xs:List Rm} {l works:List Sw} {o S:List Int}
def YY(r:Int×Int)(v:Value)(_:World):Prop:=v= .tuple #[.int .i64 r.1,.int .i64 r.2]
theorem K6(h:Jz w A0 n0 A1 n1 A2 n2 c2 A n A3 n3 ps hs xs l works){r:Int×Int}{w0:World}(hb:Below w0.heap.size w0 w)(ho:cK w0 A5 1 (o.map dy))(j:o.length=n5)(K:n5<2147483648)(m:n3<=6)(g:Og n3 o):
  ∀(d k:Nat)(w':World),n5 - k=d->k<=n5->Below w.heap.size w w'->uD (aP ps hs (aT xs) l works) (pI (o.take k)) k (o.drop k)=r->
   F.bn.tJ A n c A3 n3 c3 A5 n5 c5 (pI (o.take k)) k A0 n0 c0 A1 n1 c1 A2 n2 c2 w0.heap.size w' (YY r):=by
 intro d;induction d with
 |zero=>
  intro k w' z B hw a;rw[dp om]at a;subst a;exact F.bn.tJ.step ⟨fun q=>by omega,fun _=>rfl⟩
 |succ d ih=>
  intro k w' z B hw a;have e:k<o.length:=om;have C:=sc k;have D:=g.2 _ (cd e);have L:=oX n3 m;have hf:pI (o.take (k+1))<2^n3:=Bm fun x hx=>g.2 x (mr hx)
  have M:pI (o.take k)<2^n3:=Bm fun x hx=>g.2 x (mr hx)
  obtain⟨E,G,H,b,_⟩:=(ho.aj (hb.trans (hw.mono hb.size)) lf).at_ (fun _=>rfl) j e;rw[ec e,uD,<-vB e]at a;generalize hx:o[k]=x at*;obtain⟨y,rfl⟩:=pj D.1;have i:=vB e;rw[hx,dq]at i;refine F.bn.tJ.step ⟨fun _=>⟨E,G,H,_,b,kt om,?_⟩,fun q=>by omega⟩;rw[mm _ om,vu _ om _ om,<-i];refine pm (pF (h.aj hw) om) ?_;rintro v I J rfl;refine⟨_,rfl,fun ha=> ?_,fun ha=>⟨ir,?_⟩⟩
  ·rw[ar (by rw[ha];decide)]at a;subst a;rfl
  ·rw[cc (by simpa using ha)]at a;rw[C];exact ih (k+1) I om om (kP hw J) a
theorem K7(hp:fu w A0 n0 A1 n1 A2 n2 c2 ps hs xs)(h:cK w A 3 (l.map Sw.row))(hl:l.length=n)(hn:n<=40)(C:cK w A3 3 (works.map Sw.row))(r:works.length=n3)(ho:cK w A5 1 (o.map dy))(z:o.length=n5)(M:n5<2147483648):
  Pure Tryz.prog 29 #[.agg #[.slice A0 n0 c0,.slice A1 n1 c1,.slice A2 n2 c2],.slice A n c,.slice A3 n3 c3,.slice A5 n5 c5] w (YY (tN ps hs (aT xs) l works o)):=by
 refine F.bn.vc fun w1 N=> ?_
 have hw:=k0 N;refine pm (tp (hp.aj hw) (h.aj hw lf) hl hn (C.aj hw lf) r) ?_;rintro v O P rfl;have Q:=kP hw P;unfold tN;refine⟨_,rfl,fun k=>by rw[cc k];rfl,fun k=> ?_⟩;rw[ar k];have ok:=rB (ep.1 k);have D:n3<=6:=by have:=ok.n;omega
 have W:=oX n3 D;rw[r];have key:∀(d i:Nat)(w':World),n5 - i=d->i<=n5->Below w.heap.size w w'->Og n3 (o.take i)->F.bn.L6 A n c A3 n3 c3 A5 n5 c5 (pI (o.take i)) i A0 n0 c0 A1 n1 c1 A2 n2 c2 w.heap.size w' (YY (pV (aP ps hs (aT xs) l works) n3 o)):=by
  intro d;induction d with
  |zero=>
   intro i w' R hi hw b;rw[bx om]at b;refine F.bn.L6.step ⟨fun q=>by omega,fun _=>⟨fun q=> ?_,fun q=> ?_⟩⟩
   ·rw[I3 om];rfl
   ·have B:o.length=n3:=om;refine K6 (Jz.mk (hp.aj hw) (h.aj hw lf) hl hn (C.aj hw lf) r ok) hw ho z M D b n5 0 w' rfl om (Below.refl _ _) ?_;rw[I4 B b];rfl
  |succ d ih=>
   intro i w' R hi hw b;have e:i<o.length:=om;have T:=sc i;have E:=cd e;have bad:¬Og n3 o->∀w',YY (pV (aP ps hs (aT xs) l works) n3 o) (.tuple #[.int .i64 (-1),.int .i64 10]) w':=fun q w'=>by rw[K2 q];rfl
   have X:pI (o.take i)<2^n3:=Bm b.2;have G:=Oh e b;have H:=QO e b;have I:=vB e;obtain⟨j,m,g,a,_⟩:=(ho.aj hw lf).at_ (fun _=>rfl) z e;generalize hx:o[i]=x at*;refine F.bn.L6.step ⟨fun _=>⟨j,m,g,_,a,fun q=>bad (fun k=>by have:=(k.2 _ E).1;omega) _,fun q1=>⟨j,m,g,_,a,fun q=>bad (fun k=>by have:=(k.2 _ E).2;omega) _,fun q2=>⟨j,m,g,_,a,?_⟩⟩⟩,fun q=>by omega⟩;obtain⟨y,rfl⟩:=pj (show 0<=x by omega);rw[dq]at G H I;refine pm (Bf om om w') ?_;rintro v U V rfl;have J:=kP hw V;obtain⟨_,_,K,L,_⟩:=(ho.aj J lf).at_ (fun _=>rfl) z e;rw[g]at K;cases K;rw[hx]at L;refine⟨_,rfl,fun hb=>bad (H om hb) _,fun hb=>⟨j,m,g,_,L,kt om,ir,?_⟩⟩;rw[mm _ om,vu _ om _ om,<-I,T];exact ih (i+1) U om om J (G om om hb)
 exact key n5 0 O rfl om Q ⟨Pq,sm⟩
theorem nn{al:Nat->Bool}{m:Nat}(h:¬gx al m S=true):Value.int .i64 14= .int .i64 (if gx al m S=true then 0 else 14):=by
 rw[ar h]
theorem I7(hp:fu w A0 n0 A1 n1 A2 n2 c2 ps hs xs)(h:cK w A 3 (l.map Sw.row))(hl:l.length=n)(hn:n<=40)(U:cK w A3 3 (works.map Sw.row))(L:works.length=n3)(E:cK w A5 1 (S.map dy))(G:S.length=n5)(M:n5<2147483648):
  Pure Tryz.prog 31 #[.agg #[.slice A0 n0 c0,.slice A1 n1 c1,.slice A2 n2 c2],.slice A n c,.slice A3 n3 c3,.slice A5 n5 c5] w fun v _=>v= .int .i64 (wO ps hs (aT xs) l works S):=by
 refine F.aJ.vc fun w1 x1=> ?_
 have hw:=k0 x1;refine pm (tp (hp.aj hw) (h.aj hw lf) hl hn (U.aj hw lf) L) ?_;rintro v w4 b4 rfl;have V:=kP hw b4;unfold wO;refine⟨_,rfl,fun k=>by rw[cc k],fun k=> ?_⟩;rw[ar k];have ok:=rB (ep.1 k);have W:n3<=6:=by have:=ok.n;omega
 have Bo:=iK n3;have Ll:=oX n3 W;have e:iP .i64 1 (n3:Int) - 1=(di n3:Nat):=by rw[pG W];omega
 refine⟨kt om,?_⟩;rw[e,L];refine⟨ir,pm (wS (E.aj V lf) G M 0) ?_⟩;rintro v w7 b7 rfl;have X:=kP V b7;refine⟨_,rfl,fun q=>nn fun r=>kd q (eY.1 r).2.2.1,fun q0=>pm (wS (E.aj X lf) G M _) ?_⟩;have h0:(0:Int)∈S:=by simpa using q0
 rintro v vg Bq rfl;have tY:=kP X Bq;refine⟨_,rfl,fun q=>nn fun r=> ?_,fun q1=> ?_⟩
 ·have:=(eY.1 r).2.1 _ (hG q);omega
 have h1:((di n3:Nat):Int)∉S:=kd q1;have key:∀(d j:Nat)(w':World),n5 - j=d->j<=n5->Below w.heap.size w w'->((S.take j).Pairwise fun a b=>a<b)->(∀s∈S.take j,0<=s/\s<=(di n3:Nat))->(∀s∈S.take j,∀i,i<n3->s.toNat.testBit i=true∨((eG s.toNat i:Nat):Int)∈S∨aP ps hs (aT xs) l works (eG s.toNat i)=false)->
   F.aJ.L8 A n c A3 n3 c3 A5 n5 c5 (di n3:Nat) j A0 n0 c0 A1 n1 c1 A2 n2 c2 w.heap.size w' fun v _=>v= .int .i64 (if gx (aP ps hs (aT xs) l works) n3 S=true then 0 else 14):=by
  intro d;induction d with
  |zero=>
   intro j w' hd hj hw i1 i2 i3;rw[bx om]at i1 i2 i3;refine F.aJ.L8.step ⟨fun q=>by omega,fun _=> ?_⟩;rw[cc (I5 h0 h1 i1 i2 i3)]
  |succ d ih=>
   intro j w' hd hj hw i1 i2 i3;have H:j<S.length:=om;have e3:=sc j;have N:=cd H;have nL:=K3 H i1;have Va:=take_one H;have O:∀(_:Nat)(k:j - 1<S.length),0<j->gx (aP ps hs (aT xs) l works) n3 S=true->S[j - 1]<S[j]:=fun _ k q r=>za.1 (eY.1 r).1 (j - 1) j k H om
   have at_:∀w',Below w.heap.size w w'->(0<=(j:Int)/\(j:Int)<n5)/\∃a,A5=some a/\ae w' (a.add ((j:Int).toNat*1)) (dy S[j]):=fun w' hw=>by
    obtain⟨hb,a,B,r,_⟩:=(E.aj hw lf).at_ (fun _=>rfl) G H;exact⟨hb,a,B,r⟩
   generalize hx:S[j]=x at*;obtain⟨C,D,B,g⟩:=at_ w' hw;refine F.aJ.L8.step ⟨fun _=>⟨C,D,B,_,g,fun q uY _=>nn fun r=>by have:=((eY.1 r).2.1 _ N).1;omega,fun p1=>⟨C,D,B,_,g,fun q qK _=>nn fun r=>by have:=((eY.1 r).2.1 _ N).2;omega,fun p2=> ?_⟩⟩,fun q=>by omega⟩;obtain⟨s,rfl⟩:=pj (show 0<=x by omega);have inner:(∀(m:Nat)(k:m<S.length),m+1=j->S[m]<(s:Int))->∀(e i:Nat)(w':World),n3 - i=e->i<=n3->Below w.heap.size w w'->(∀z,z<i->s.testBit z=true∨((eG s z:Nat):Int)∈S∨aP ps hs (aT xs) l works (eG s z)=false)->
     F.aJ.Bp A n c A3 n3 c3 A5 n5 c5 (di n3:Nat) j i A0 n0 c0 A1 n1 c1 A2 n2 c2 w.heap.size w' fun v _=>v= .int .i64 (if gx (aP ps hs (aT xs) l works) n3 S=true then 0 else 14):=by
    intro XG e;induction e with
    |zero=>
     intro i w' he hi hw P;refine F.aJ.Bp.step ⟨fun q=>by omega,fun _=>⟨ir,?_⟩⟩;rw[e3];refine ih (j+1) w' om om hw (nL XG) (fun y hy=> ?_) (fun y hy z I=> ?_)
     all_goals
      rw[Va]at hy;rcases h8.1 hy with hy|hy
     ·exact i2 y hy
     ·rw[gb.1 hy];omega
     ·exact i3 y hy z I
     ·rw[gb.1 hy,dq];exact P z om
    |succ e vb=>
     intro i w' he hi hw P;have ei:=sc i;have JI:=ou (s:=s) (i:=i) (n:=n3) om om;have go:∀K,Below w.heap.size w K->(s.testBit i=true∨((eG s i:Nat):Int)∈S∨aP ps hs (aT xs) l works (eG s i)=false)->az .i64 ((i:Int)+1)/\F.aJ.Bp A n c A3 n3 c3 A5 n5 c5 (di n3:Nat) j ((i:Int)+1) A0 n0 c0 A1 n1 c1 A2 n2 c2 w.heap.size K fun v _=>v= .int .i64 (if gx (aP ps hs (aT xs) l works) n3 S=true then 0 else 14):=by
      intro K fF hx;refine⟨ir,?_⟩;rw[ei];refine vb (i+1) K om om fF fun z I=> ?_
      rcases Nat.lt_or_eq_of_le (Nat.le_of_lt_succ I)with h|h
      ·exact P z h
      ·rw[h];exact hx
     obtain⟨C,D,B,g⟩:=at_ w' hw;refine F.aJ.Bp.step ⟨fun _=>⟨C,D,B,_,g,kt om,C,D,B,fun Y Q=> ?_⟩,fun q=>by omega⟩;have Z:=kE hw Q;obtain⟨_,_,qL,pU⟩:=at_ Y Z;rw[B]at qL;cases qL;refine⟨_,pU,pm (Bf om om Y) ?_⟩;rintro v MY R rfl;have T:=kP Z R;refine⟨_,rfl,fun hb=> ?_,fun hb=>go MY T (.inl (by simpa using hb))⟩;rw[mm _ om,vu _ om _ om];refine pm (wS (E.aj T lf) G M _) ?_;rintro v Qg UK rfl;have J:=kP T UK;refine⟨_,rfl,fun hm=>pm (pF (Jz.mk (hp.aj J) (h.aj J lf) hl hn (U.aj J lf) L ok) om) ?_,fun hm=>go Qg J (.inr (.inl (by simpa using hm)))⟩;rintro v GY Rx rfl;refine⟨_,rfl,fun ha=>nn fun r=> ?_,fun ha=>go GY (kP J Rx) (.inr (.inr ha))⟩;rcases(eY.1 r).2.2.2 _ N i om with q|q
     ·exact kd hm q
     ·rw[dq,ha]at q;cases q
   refine⟨fun p3=> ?_,fun p3 tV Qt=>inner (fun m _ q=>by omega) n3 0 tV rfl om (kE hw Qt) (fun z I=>by omega)⟩;have Ux:j - 1<S.length:=om;have ej:(j:Int) - 1=((j - 1:Nat):Int):=om;rw[ej];obtain⟨Gc,ap,BW,Ny,_⟩:=(E.aj hw lf).at_ (fun _=>rfl) G Ux;have last:¬S[j - 1]≥(s:Int)->∀m,m+1=j->∀k:m<S.length,S[m]<(s:Int):=fun q m e k=>by
    obtain rfl:m=j - 1:=om;omega
   refine⟨ir,Gc,ap,BW,_,Ny,C,D,B,_,g,fun p4 BN _=>nn fun r=> ?_,fun p4 Ab YE=>inner (fun m k q=>last p4 m q k) n3 0 Ab rfl om (kE hw YE) (fun z I=>by omega)⟩;have:=O 0 Ux om r;omega
 exact key n5 0 vg rfl om tY sm sm sm
end

section
variable {w:World} {A0 A1 A2 A A3 A4 A5:Option Addr} {n0 c0 n1 c1 n2 c2 n c n3 c3 n4 c4 n5 c5:Nat} {ps:List Pa} {hs:List Ho} {xs:List Rm} {l works:List Sw} {o S:List Int}
theorem EC(g:cT w)(z:rN w A0 n0 c0 A1 n1 c1 A2 n2 c2 ps hs xs)(P:cK w A 3 (l.map Sw.row))(hl:l.length=n)(Q:cK w A3 3 (works.map Sw.row))(a:works.length=n3)(ho:cK w A4 1 (o.map dy))(h:o.length=n4)(B:cK w A5 1 (S.map dy))(i:S.length=n5):
  Pure Tryz.prog 5 #[.agg #[.slice A0 n0 c0,.slice A1 n1 c1,.slice A2 n2 c2],.slice A n c,.slice A3 n3 c3,.slice A4 n4 c4,.slice A5 n5 c5] w fun v _=>v= .bool true:=by
 refine F.fb.vc fun w1 R=> ?_
 have hw:=k0 R;refine pm (tn (g.next hw)) ?_;rintro v w4 T rfl;have hw:=kP hw T;refine⟨_,rfl,fun k=>(by cases k),fun _=>pm (xD (z.aj hw)) ?_⟩;rintro v w7 U rfl;have hw:=kP hw U;refine⟨_,rfl,fun _=>rfl,fun hf=>⟨fun _=>rfl,fun h4=>⟨fun _=>rfl,fun h5=> ?_⟩⟩⟩;have j:=IT (z.aj hw) (P.aj hw lf) hl (Q.aj hw lf) a (hP _|>.mp hf);have hn:=j.n;refine Xr j fun B0 d0 V d1 W d2 X cs Y Z MJ ys C hp m s1 q s2=> ?_
 have D:=kP hw C;refine pm (Iv (ho.aj D lf) h om) ?_;rintro v BN b ⟨YS,YT,rfl,Ty⟩;have E:=kP D b;refine⟨_,_,_,rfl,pm (CU (g.next E) (hp.aj b) (s1.below b) hl q hn (s2.below b) a Ty.sl h om) ?_⟩;rw[m];rintro v w25 G rfl;have H:=kP E G;have e:=j.aj (kP (kP C b) G);refine⟨_,_,rfl,pm (K7 e.p e.s hl hn e.wk a (ho.aj H lf) h om) ?_⟩;rintro v Co I rfl;have F8:=kP H I;refine⟨_,_,rfl,fun _=>⟨fun _ OK J=> ?_,fun k=>absurd rfl k⟩,fun k=>absurd rfl k⟩;have IN:=kE F8 J;have K:=(e.aj I).aj (extAll J);refine Xr K fun B0 d0 V d1 W d2 X cs Y Z GU ys L hp m s1 q s2=> ?_
 have M:=kP IN L;refine pm (Iv (B.aj M lf) i om) ?_;rintro v Nf d ⟨Uv,Uw,rfl,r⟩;have N:=kP M d;refine⟨_,_,_,rfl,pm (Be (g.next N) (hp.aj d) (s1.below d) hl q hn (s2.below d) a r.sl i om) ?_⟩;rw[m];rintro v WT O rfl;have x:=kP N O;have y:=K.aj (kP (kP L d) O);refine⟨_,rfl,pm (I7 y.p y.s hl hn y.wk a (B.aj x lf) i om) ?_⟩;rintro v w50 _ rfl;exact⟨_,rfl,sm⟩
end
end Go.Proofs.YtgfkeadgjkfomaaGreatDoor.B
