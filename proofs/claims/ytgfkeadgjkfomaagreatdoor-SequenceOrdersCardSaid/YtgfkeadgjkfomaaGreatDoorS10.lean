/- Part 10 of the proofs that: SequenceStates, SequenceOrders and SequenceChecks hold for every input: the program's functions return what the reference functions return -/
import Derived.Test.YtgfkeadgjkfomaaGreatDoorS9
import Derived.Test.YtgfkeadgjkfomaaGreatDoorProg
set_option linter.unusedVariables false
set_option linter.unusedSimpArgs false
namespace Go.Proofs.YtgfkeadgjkfomaaGreatDoor.B
open Go Go.RowKit Go.Proofs Go.Proofs.YtgfkeadgjkfomaaGreatDoor.Vc

theorem AZ:El Tryz.prog 30 44 3 24:=El.of kF
theorem NR{T D:List Sw}{x y:Sw}:((T++y::x::D).set (T.length+1) y).set T.length x=T++x::y::D:=by
 induction T with
 |nil=>rfl
 |cons a r ih=>
  show a::((r++y::x::D).set (r.length+1) y).set r.length x=a::_;rw[ih];rfl
theorem Ju(a:Addr)(k:Nat):a.block=(a.add k).block:=by unfold Addr.add;split<;>rfl
section
variable {w0:World} {B:Nat} {A:Option Addr} {n c:Nat} {l:List Sw} {f:Nat} {a k:Array Value}
theorem Qy(hlen:l.length=n)(hn:n<=20)(eR:bc Tryz.prog f=true)
  (hf:∀w,qF A w0 w->∀x y:Sw,Pure Tryz.prog f (a.toList++([x.val,y.val]:List Value)++k.toList).toArray w fun v _=>∃i:Int,v= .int .i64 i/\(i<0↔(tR x=true/\tR y=false))) {R:Value->World->Prop}
  (X:∀w,qF A w0 w->bF w B 44 A n c 3 ((dI l).map Sw.row)->R (.tuple #[]) w):
  ∀(d i:Nat)(w:World),n+1 - i=d->1<=i->i<=n+1->qF A w0 w->bF w B 44 A n c 3 ((dI (l.take i)++l.drop i).map Sw.row)->F.ak.L1 A n c 0 n f a k i B w R:=by
 intro d;induction d with
 |zero=>
  intro i w hd h1 hi hw ho;rw[bx om,dp om,ns]at ho;exact F.ak.L1.step ⟨fun h=>by omega,fun _=>X w hw ho⟩
 |succ d ih=>
  intro i w hd h1 hi hw ho;have Y:=sc i;refine F.ak.L1.step ⟨fun hlt=> ?_,fun XN=> ?_⟩
  ·have Z:i<l.length:=om;have yN:(dI (l.take i)).length=i:=by rw[Gx,fs];omega
   have et:l.take (i+1)=l.take i++[l[i]]:=by rw[eN,af Z];rfl
   have inner:∀(j:Nat)(w:World),j<=i->qF A w0 w->bF w B 44 A n c 3 (((dI (l.take i)).take j++l[i]::((dI (l.take i)).drop j++l.drop (i+1))).map Sw.row)->(∀y∈(dI (l.take i)).drop j,tR l[i]=true/\tR y=false)->
     F.ak.L4 A n c 0 n f a k i j B w R:=by
    intro j;induction j with
    |zero=>
     intro w hj hw ho E;refine F.ak.L4.step ⟨fun h=>by omega,fun _=>⟨ir,fun OK WA=> ?_⟩⟩;rw[Y];refine ih (i+1) OK om om om (hw.trans (qF.low (extAll WA))) ?_;have:=Gy (l:=l.take i) (x:=l[i]) (j:=0) om E (.inl rfl);rw[et,<-this];simpa using ho.eA WA
    |succ j J=>
     intro w hj hw ho E;have K:j<(dI (l.take i)).length:=om;have Va:(dI (l.take i)).take (j+1)=(dI (l.take i)).take j++[(dI (l.take i))[j]]:=by rw[eN,af K];rfl
     have ED:(dI (l.take i)).drop j=(dI (l.take i))[j]::(dI (l.take i)).drop (j+1):=ec K;generalize hy:(dI (l.take i))[j]=y at*;have eL:(dI (l.take i)).take (j+1)++l[i]::((dI (l.take i)).drop (j+1)++l.drop (i+1))=(dI (l.take i)).take j++y::l[i]::((dI (l.take i)).drop (j+1)++l.drop (i+1)):=by rw[Va];simp
     rw[eL]at ho;have g:((dI (l.take i)).take j).length=j:=by rw[fs];omega
     generalize hT:(dI (l.take i)).take j=T at*;generalize hD:(dI (l.take i)).drop (j+1)++l.drop (i+1)=D at*;have L:(T++y::l[i]::D).length=n:=by have:=ho.len;rwa [gv]at this
     have g1:(T++y::l[i]::D)[j+1]? =some l[i]:=by rw[mP om,g];simp
     have g0:(T++y::l[i]::D)[j]? =some y:=by rw[mP om,g];simp
     have ej:((j+1:Nat):Int) - 1=(j:Int):=om;have rd:∀(w:World),bF w B 44 A n c 3 ((T++y::l[i]::D).map Sw.row)->∀(m:Nat)(z:Sw),(T++y::l[i]::D)[m]? =some z->(0<=(m:Int)/\(m:Int)<n)/\∃a,A=some a/\ae w (a.add ((m:Int).toNat*3)) z.row:=by
      intro w ho m z b;obtain⟨hm,e⟩:=ew.1 b;obtain⟨hb,ad,hA,hc,_⟩:=ho.sl.at_ (fun _=>rfl) L hm;rw[e]at hc;exact⟨hb,ad,hA,hc⟩
     obtain⟨M,a1,Tp,c1⟩:=rd w ho (j+1) _ g1;obtain⟨o,a0,TA,qN⟩:=rd w ho j _ g0;refine F.ak.L4.step ⟨fun _=>⟨M,a1,Tp,_,_,_,c1,ir,?_⟩,fun h=>by omega⟩;rw[ej];refine⟨o,a0,TA,_,_,_,qN,eR,fun w9 x9=> ?_⟩;have Hf:=hw.trans (qF.low (extAll x9));have o9:=ho.eA x9;refine pm (hf w9 Hf l[i] y) ?_;rintro v N wI ⟨z,rfl,b⟩;have AU:=Hf.trans (qF.low wI);have G:=o9.below wI;refine⟨_,rfl,fun sC=> ?_,fun r=>⟨ir,?_⟩⟩
     ·have b:=b.1 sC;obtain⟨_,a5,O,c5⟩:=rd N G j _ g0;obtain⟨_,a6,H,c6⟩:=rd N G (j+1) _ g1;refine⟨ir,ir,o,a5,O,_,_,_,c5,M,a6,H,_,_,_,c6,M,a6,H,fun Ab YE=> ?_⟩;have Lk:=G.eA YE;have vm:=AU.trans (qF.low (extAll YE));obtain⟨p1,p2,p3,cs,p4,p5,p6,p7,p8⟩:=Lk.FP (i:=((j+1:Nat):Int)) om om y.row l[i].row (by rw[dq,tX,g1];rfl) rfl;rw[H]at p3;cases p3;refine⟨cs,_,p4,p5,p6,p7,rfl,fun P IK=> ?_⟩;have C:=p8 P IK;rw[dq,<-EF]at C;have Q:=vm.trans (qF.wrote IK ⟨_,H,Ju _ _⟩);have S:((T++y::l[i]::D).set (j+1) y)[j]? =some y:=by rw[qH om,g0]
      obtain⟨q1,q2,q3,U,q4,q5,q6,q7,q8⟩:=C.FP (i:=(j:Int)) om om l[i].row y.row (by rw[dq,tX,S];rfl) rfl;refine⟨o,q2,q3,U,_,q4,q5,q6,q7,rfl,fun Co F8=>⟨ir,?_⟩⟩;have V:=q8 Co F8;rw[dq,<-EF]at V;have W:=Q.trans (qF.wrote F8 ⟨_,q3,Ju _ _⟩);have es:=NR (T:=T) (D:=D) (x:=l[i]) (y:=y);rw[g]at es;rw[es]at V;refine J Co om W ?_ ?_
      ·rw[ED,<-hD]at*;simpa using V
      ·intro q I;rw[ED]at I;rcases fi.1 I with rfl|I
       ·exact b
       ·exact E q I
     ·have b:¬(tR l[i]=true/\tR y=false):=fun q=>r (b.2 q)
      rw[Y];refine ih (i+1) N om om om AU ?_;have:=Gy (l:=l.take i) (x:=l[i]) (j:=j+1) (by rw[fs];omega) E (.inr ⟨y,by rw[uP,af K,hy],b⟩);rw[et,<-this];have e5:(dI (l.take i)).take (j+1)++l[i]::(dI (l.take i)).drop (j+1)++l.drop (i+1)=T++y::l[i]::D:=by rw[<-eL,<-hD];simp
      rw[e5];exact G
   refine inner i w lf hw ?_ ?_
   ·rw[bx om,dp om,nN,<-ec Z];exact ho
   ·rw[dp om];simp
  ·rw[bx om,dp om,ns]at ho;exact X w hw ho
end
theorem WB{w:World}{B:Nat}(hB:B<=w.heap.size){A:Option Addr}{n c:Nat}{l:List Sw}(ho:bF w B 44 A n c 3 (l.map Sw.row))(hn:n<=6){f:Nat}{a k:Array Value}(eR:bc Tryz.prog f=true)
  (hf:∀w',qF A w w'->∀x y:Sw,Pure Tryz.prog f (a.toList++([x.val,y.val]:List Value)++k.toList).toArray w' fun v _=>∃i:Int,v= .int .i64 i/\(i<0↔(tR x=true/\tR y=false))):
  dZ Tryz.prog 43 #[.slice A n c,.func (.func f) a k] B w fun v w'=>v= .tuple #[]/\bF w' B 44 A n c 3 ((dI l).map Sw.row)/\qF A w w':=by
 have hlen:l.length=n:=by have:=ho.len;rwa [gv]at this
 refine F.dM.Jm hB ?_;refine dZ.mono (F.an.Jm hB (R:=fun v w'=>v= .tuple #[]/\bF w' B 44 A n c 3 ((dI l).map Sw.row)/\qF A w w') (F.an.L2.step ⟨fun h=>by omega,fun _=> ?_⟩)) ?_
 ·refine dZ.mono (F.ak.Jm hB (R:=fun v w'=>v= .tuple #[]/\bF w' B 44 A n c 3 ((dI l).map Sw.row)/\qF A w w') ⟨ir,?_⟩) ?_
  ·refine Qy (w0:=w) hlen om eR hf (fun w' h1 h2=>⟨rfl,h2,h1⟩) n 1 w om om om qF.refl ?_;have e:dI (l.take 1)++l.drop 1=l:=by
    cases l with
    |nil=>rfl
    |cons x r=>
     have:dI [x]=[x]:=by unfold dI;cases h:tR x<;>simp[h]
     rw[show List.take 1 (x::r)=[x]from rfl,this];rfl
   rw[e];exact ho
  ·rintro v b d ⟨rfl,h1,h2⟩;refine⟨fun _ _ _ h=>(by cases h),rfl,F.an.L7.step ⟨fun h=>by omega,fun _=>⟨rfl,h1,h2⟩⟩⟩
 ·rintro v g j ⟨rfl,h1,h2⟩;exact⟨fun _ _ _ h=>(by cases h),rfl,rfl,h1,h2⟩

def nj(f:Nat->Nat->Int)(ps:List Pa)(hs:List Ho)(k i:Nat):List Sw:=((List.range k).flatMap fun k=>(List.range ps.length).flatMap fun i=>B5 f ps hs k i)++(List.range i).flatMap fun i=>B5 f ps hs k i
theorem Gz(f:Nat->Nat->Int)(ps:List Pa)(hs:List Ho)(k:Nat):nj f ps hs k ps.length=nj f ps hs (k+1) 0:=by
 unfold nj;rw[pg,FN];simp
theorem oE(f:Nat->Nat->Int)(ps:List Pa)(hs:List Ho)(k i:Nat):nj f ps hs k (i+1)=nj f ps hs k i++B5 f ps hs k i:=by
 unfold nj;rw[pg,FN];simp
def TB(r:List Sw×Int)(v:Value)(w':World):Prop:=∃A n c,v= .tuple #[.slice A n c,.int .i64 r.2]/\cK w' A 3 (r.1.map Sw.row)/\r.1.length=n/\n<=c
theorem GC{w:World}{p:Nat}{t:Nat}(h:w.heap[p]? =some (.cells [Value.func (.func 42) #[] #[]].toArray t (0,0)))(x y:Sw):
  Pure Tryz.prog 44 #[x.val,y.val,.pointer (some ⟨p,0,none⟩)] w fun v _=>∃i:Int,v= .int .i64 i/\(i<0↔(tR x=true/\tR y=false)):=by
 have b:∀(z:Sw)(w:World),Pure Tryz.prog 42 #[z.val] w fun v _=>v= .int .i64 (if tR z then 0 else 1):=by
  intro z w;refine F.jQ.vc ⟨fun h w1 _=> ?_,fun h w1 _=> ?_⟩
  ·rw[cc (show tR z=true from fc h)]
  ·rw[ar (show ¬tR z=true from by unfold tR;simpa using h)]
 refine F.jR.vc fun w1 d=> ?_
 have hb:=bK h (k0 d);refine⟨_,_,_,dN hb rfl,_,_,_,dN hb rfl,kF,fun e j=>pm (b x e) ?_⟩;rintro v g _ rfl;refine⟨_,rfl,kF,pm (b y g) ?_⟩;rintro v o _ rfl;refine⟨_,rfl,pm (yD _ _ _) ?_⟩;rintro v q _ rfl;refine⟨_,rfl,_,rfl,?_⟩;rw[Eb];cases tR x<;>cases tR y<;>simp
section
variable {w:World} {A0 A1 A A':Option Addr} {n0 c0 n1 c1 n c n' c':Nat} {ps:List Pa} {hs:List Ho} {l m:List Sw}
theorem yj(hg:cT w)(D:dF w A0 n0 A1 n1 ps hs)(h:cK w A 3 (l.map Sw.row))(hl:l.length=n)(ph:n<=c)(hn:n<2147483648)(h':cK w A' 3 (m.map Sw.row))(hm:m.length=n')(Z:n'<=c')(GR:n'<2147483648):
  Pure Tryz.prog 12 #[.agg #[.slice A0 n0 c0,.slice A1 n1 c1],.slice A n c,.slice A' n' c'] w (TB (qJ ps hs l m)):=by
 have uw:=D.np;have qe:=D.nh;have pB:=D.lp;have U:=D.lh;have bad:∀(e:Int)(w':World),TB ([],e) (.tuple #[.slice none 0 0,.int .i64 e]) w':=fun e w'=>⟨_,_,_,rfl,.inl rfl,rfl,hM _⟩
 refine F.bC.vc fun w1 x1=> ?_
 have hw:=k0 x1;refine pm (db (hg.next hw) (D.aj hw) (h.aj hw lf) hl ph hn) ?_;intro v H b5 hv;have G:=kP hw b5;unfold qJ;have rest:∀(A2:Option Addr)(N:Nat)(e:Int)(H:World),Below w.heap.size w H->(e≠0↔cZ ps hs l≠0)->(e=0->bF H w.heap.size 3 A2 N N 1 ((bH ps hs l).map dy)/\N=n0*n1)->Pure Tryz.prog 41 #[.agg #[.slice A0 n0 c0,.slice A1 n1 c1],.slice A' n' c'] H fun r8 g=>∃(I:Option Addr)(n6 c6:Nat)(i7:Int),r8= .tuple #[.slice I n6 c6,.int .i64 i7]/\((e≠0->TB (if cZ ps hs l≠0∨cZ ps hs m≠0 then(([],1):List Sw×Int)else if 6<(rA (fN ps hs l m) ps hs).length then([],8)else(oV (fN ps hs l m) ps hs,0)) (.tuple #[.slice none 0 0,.int .i64 1]) g)/\(¬e≠0->((i7≠0->TB (if cZ ps hs l≠0∨cZ ps hs m≠0 then(([],1):List Sw×Int)else if 6<(rA (fN ps hs l m) ps hs).length then([],8)else(oV (fN ps hs l m) ps hs,0)) (.tuple #[.slice none 0 0,.int .i64 1]) g)/\(¬i7≠0->F.bC.L7 A2 N N I n6 c6 none 0 0 A1 n1 c1 n1 0 A0 n0 c0 A1 n1 c1 w.heap.size g (TB (if cZ ps hs l≠0∨cZ ps hs m≠0 then(([],1):List Sw×Int)else if 6<(rA (fN ps hs l m) ps hs).length then([],8)else(oV (fN ps hs l m) ps hs,0))))))):=by
  intro A2 N e H G he M;refine pm (db (hg.next G) (D.aj G) (h'.aj G lf) hm Z GR) ?_;intro v g b9 hv;have O:=kP G b9;by_cases h2:cZ ps hs m≠0
  ·have hv:=hv.1 h2;subst hv;rw[cc (.inr h2)];exact⟨_,_,_,_,rfl,fun _=>bad 1 _,fun _=>⟨fun _=>bad 1 _,fun q=>absurd dc q⟩⟩
  obtain⟨I,J,hv,o6,hN6⟩:=hv.2 (ep.1 h2);subst hv;refine⟨_,_,_,_,rfl,fun q=>by rw[cc (.inl (he.1 q))];exact bad 1 _,fun q=>⟨fun q2=>absurd rfl q2,fun _=> ?_⟩⟩;have h1:¬cZ ps hs l≠0:=fun k=>q (he.2 k)
  rw[ar (by rintro(k|k);exact h1 k;exact h2 k)];obtain⟨P,hN⟩:=M (ep.1 q);have PQ:=dt (ep.1 h1);have hrm:=dt (ep.1 h2);have P:=P.below b9;have o6:=o6.base G.size;have hal:(bH ps hs l).length=N:=by rw[eu,pB,U,hN]
  have YF:(bH ps hs m).length=J:=by rw[eu,pB,U,hN6]
  have hle:n0*n1<=7*7:=lq uw qe;have key:∀(d j:Nat)(r:Option Addr)(o E:Nat)(w':World),n1 - j=d->j<=n1->Below g.heap.size g w'->bF w' g.heap.size 44 r o E 3 ((nj (fN ps hs l m) ps hs j 0).map Sw.row)->o<=7*j->
    F.bC.L7 A2 N N I J J r o E A1 n1 c1 n1 j A0 n0 c0 A1 n1 c1 w.heap.size w' (TB (if 6<(rA (fN ps hs l m) ps hs).length then([],8)else(oV (fN ps hs l m) ps hs,0))):=by
   intro d;induction d with
   |zero=>
    intro j r o E w' hd hj C ho hb;have:j=hs.length:=om;subst this;have eD:nj (fN ps hs l m) ps hs hs.length 0=rA (fN ps hs l m) ps hs:=by unfold nj rA;simp
    rw[eD]at ho;have Bt:=ho.len;rw[gv]at Bt;refine F.bC.L7.step ⟨fun h=>by omega,fun _=>⟨fun k=> ?_,fun k Am Hd UF Wt oq=> ?_⟩⟩
    ·rw[cc om];exact bad 8 _
    ·rw[ar om];have k9:=Hd.below.size;have Ty:=ho.eA Hd;refine dZ.mono (WB (B:=w.heap.size) (a:= #[]) (k:= #[.pointer (some ⟨UF,0,none⟩)]) (by have:=O.size;have:=C.size;omega) (Ty.base O.size) om kF fun w' xx x y=>GC ((xx.2 UF (bU.1 oq).1 fun a ha e=> ?_).trans oq) x y) ?_
     ·obtain⟨cs,Q⟩:=Ty.cells a ha;rw[<-e,oq]at Q;cases Q
     ·rintro v Ab b22 ⟨rfl,V,xx⟩;refine⟨fun i ty cs hty e=>xx.2 i (bU.1 e).1 fun a ha q=> ?_,rfl,?_⟩
      ·obtain⟨YG,Q⟩:=Ty.cells a ha;rw[<-q,e]at Q;cases Q;exact absurd hty dc
      ·rw[KT]at V;have WD:=V.len;rw[gv]at WD;exact⟨_,_,_,rfl,V.sl,WD,V.gV⟩
   |succ d ih=>
    intro j r o E w' hd hj C ho hb;have K:j<hs.length:=om;have Tn:=sc j;have PZ:=kP O C;obtain⟨Ip,ah,Eh,Wp,_⟩:=((D.aj PZ).h).at_ (fun _=>rfl) U K;refine F.bC.L7.step ⟨fun _=>⟨Ip,ah,Eh,_,_,_,_,_,_,_,Wp,fun MJ UE=> ?_⟩,fun h=>by omega⟩;have inner:∀(e i:Nat)(r:Option Addr)(o E:Nat)(w':World),n0 - i=e->i<=n0->Below g.heap.size g w'->bF w' g.heap.size 44 r o E 3 ((nj (fN ps hs l m) ps hs j i).map Sw.row)->o<=7*j+i->
      F.bC.pd A2 N N I J J r o E j A1 n1 c1 n1 j A0 n0 c0 n0 i A0 n0 c0 A1 n1 c1 hs[j].id hs[j].name hs[j].room hs[j].il hs[j].x hs[j].y hs[j].z w.heap.size w' (TB (if 6<(rA (fN ps hs l m) ps hs).length then([],8)else(oV (fN ps hs l m) ps hs,0))):=by
     intro e;induction e with
     |zero=>
      intro i r o E w' he hi C ho hb;have:i=ps.length:=om;subst this;rw[Gz]at ho;refine F.bC.pd.step ⟨fun h=>by omega,fun _=>⟨ir,?_⟩⟩;rw[Tn];exact ih (j+1) r o E w' om om C ho om
     |succ e vb=>
      intro i r o E w' he hi C ho hb;have L:i<ps.length:=om;have Fz:=sc i;have PZ:=kP O C;have F3:i*n1+j<n0*n1:=rr om om;have pc:i*n1<=7*7:=lq om qe;have e5:(i:Int)*(n1:Int)=((i*n1:Nat):Int):=by simp
      have e6:((i*n1:Nat):Int)+(j:Int)=((i*n1+j:Nat):Int):=by simp
      have W:=gN (l:=l) (af L) (af K);have X:=gN (l:=m) (af L) (af K);rw[U]at W X;obtain⟨ka,W⟩:=ew.1 W;obtain⟨kb,X⟩:=ew.1 X;have sa:=iz PQ _ (cd ka);have sb:=iz hrm _ (cd kb);have IL:B5 (fN ps hs l m) ps hs j i=if(bH ps hs m)[i*n1+j] - (bH ps hs l)[i*n1+j]≠0 then[⟨hs[j].id,ps[i].id,(bH ps hs m)[i*n1+j] - (bH ps hs l)[i*n1+j]⟩]else[]:=by
       unfold B5 fN;rw[af L,af K,Cu (af K) (af L),Cu (af K) (af L),W,X]
      have ra:∀w',Below g.heap.size g w'->(0<=((i*n1+j:Nat):Int)/\((i*n1+j:Nat):Int)<N)/\∃a,A2=some a/\ae w' (a.add (((i*n1+j:Nat):Int).toNat*1)) (dy (bH ps hs l)[i*n1+j]):=fun w' C=>by
       obtain⟨b,a,hA,D,_⟩:=((P.below C).sl).at_ (fun _=>rfl) hal ka;exact⟨b,a,hA,D⟩
      have rb:∀w',Below g.heap.size g w'->(0<=((i*n1+j:Nat):Int)/\((i*n1+j:Nat):Int)<J)/\∃a,I=some a/\ae w' (a.add (((i*n1+j:Nat):Int).toNat*1)) (dy (bH ps hs m)[i*n1+j]):=fun w' C=>by
       obtain⟨b,a,hA,D,_⟩:=((o6.below C).sl).at_ (fun _=>rfl) YF kb;exact⟨b,a,hA,D⟩
      obtain⟨Gc,ap,BW,Ny,_⟩:=((D.aj PZ).p).at_ (fun _=>rfl) pB L;refine F.bC.pd.step ⟨fun _=>⟨Gc,ap,BW,_,_,_,_,_,_,_,Ny,?_⟩,fun h=>by omega⟩;rw[e5,e6];refine⟨ir,ir,fun MY Tz=> ?_⟩;have Y:=kP C (extAll Tz);obtain⟨ba,aa,WE,ca⟩:=ra MY Y;obtain⟨bb,ab,WG,cb⟩:=rb MY Y;refine⟨ba,aa,WE,_,ca,bb,ab,WG,_,cb,fun hne Rk YH=> ?_,fun heq=>⟨ir,fun w48 R=> ?_⟩⟩
      ·have Ev:=kP Y (extAll YH);obtain⟨ba,aa,WE,ca⟩:=ra Rk Ev;obtain⟨bb,ab,WG,cb⟩:=rb Rk Ev;refine⟨bb,ab,WG,_,cb,ba,aa,WE,_,ca,ir,fun GU S=> ?_⟩;have IM:=kP Ev (extAll S);have T:=((ho.eA Tz).eA YH).eA S;refine ny AZ (B:=g.heap.size) O.size T (x:= .agg #[.int .i64 hs[j].id,.int .i64 ps[i].id,.int .i64 ((bH ps hs m)[i*n1+j] - (bH ps hs l)[i*n1+j])]) rfl (by simp[Value.cells,dA]) IM.size om dc fun A' c' w2 o2' g2 _=>⟨ir,?_⟩
       rw[Fz];refine vb (i+1) A' (o+1) c' w2 om om (IM.trans (bS g2 (fun q hq=> ?_) IM.size)) ?_ om
       ·cases r with
        |none=>cases hq
        |some a8=>cases hq;exact(T.sA a8 rfl).1
       ·rw[oE,IL,cc om,lx];exact o2'
      ·rw[Fz];refine vb (i+1) r o E w48 om om (kP Y (extAll R)) ?_ om;rw[oE,IL,ar om,ns];exact(ho.eA Tz).eA R
    exact inner n0 0 r o E MJ rfl om (kP C (extAll UE)) (ho.eA UE) om
  exact key n1 0 none 0 0 g rfl om (Below.refl _ _) (by rw[show nj (fN ps hs l m) ps hs 0 0=[]from rfl];exact bF.nil) om
 by_cases h1:cZ ps hs l≠0
 ·have hv:=hv.1 h1;subst hv;exact⟨_,_,_,_,rfl,rest none 0 1 H G ⟨fun _=>h1,fun _=>by decide⟩ (fun q=>by cases q)⟩
 ·obtain⟨A2,N,hv,P,hN⟩:=hv.2 (ep.1 h1);subst hv;exact⟨_,_,_,_,rfl,rest A2 N 0 H G ⟨fun q=>absurd rfl q,fun q=>absurd q h1⟩ (fun _=>⟨P.base hw.size,hN⟩)⟩
end

theorem KU{w0:World}{A:Option Addr}{n c:Nat}{l:List Int}(hl:cK w0 A 1 (l.map dy))(hlen:l.length=n)(hn:n<2147483648)(z:Int){R:Value->World->Prop}{r:Int}(e:∀w,R (.int .i64 r) w):
  ∀(d i:Nat)(w:World),n - i=d->i<=n->Below w0.heap.size w0 w->r=js (fun x=>decide (x=z)) i (l.drop i)->F.cr.L2 A n c z n i w0.heap.size w R:=by
 intro d;induction d with
 |zero=>
  intro i w j hi hw a;rw[dp om]at a;subst a;exact F.cr.L2.step ⟨fun h=>by omega,fun _=>e w⟩
 |succ d ih=>
  intro i w j hi hw a;have g:i<l.length:=om;rw[ec g,js]at a;obtain⟨hb,m,q,b,_⟩:=(hl.aj hw lf).at_ (fun _=>rfl) hlen g;refine F.cr.L2.step ⟨fun _=>⟨hb,m,q,_,b,fun h=> ?_,fun h=>⟨ir,?_⟩⟩,fun h=>by omega⟩
  ·rw[cc (fc h.symm)]at a;subst a;exact e w
  ·rw[ar (by simpa using fun k=>h k.symm)]at a;have y:=sc i;rw[y];exact ih (i+1) w om om hw a
theorem TC{w0:World}{A:Option Addr}{n c:Nat}{l:List Int}(hl:cK w0 A 1 (l.map dy))(hlen:l.length=n)(hn:n<2147483648)(z:Int):
  Pure Tryz.prog 57 #[.slice A n c,.int .i64 z] w0 fun v _=>v= .bool (decide (z∈l)):=by
 refine F.gJ.vc (pm (F.cr.vc (KU hl hlen hn z (R:=fun v _=>v= .int .i64 (js (fun x=>decide (x=z)) 0 l)) (fun _=>rfl) n 0 w0 rfl om (Below.refl _ _) rfl)) ?_);rintro v a _ rfl;refine⟨_,rfl,?_⟩;dsimp only;rw[tE];refine dB Value.bool ?_;rw[sr,kh,nC];simp

structure vC (w0 wb:World) (k:Tk) (ps:List Pa) (hs:List Ho) (xs:List Rm) (l works:List Sw) (w:World):Prop where
 b:Below w0.heap.size w0 w
 lo:w0.heap.size<=wb.heap.size
 tb:yw wb k ps hs xs l works
 c:Cl wb w
 kn:wQ w w0.heap.size k (aP ps hs (aT xs) l works)
 m:k.m<wb.heap.size
section
variable {w0 wb w:World} {A0 A1 A2 A A3 A5:Option Addr} {n0 c0 n1 c1 n2 c2 n c n3 c3 n5 c5:Nat} {ps:List Pa} {hs:List Ho} {xs:List Rm} {l works:List Sw} {k:Tk} {o:List Int}
theorem vC.t(h:vC w0 wb k ps hs xs l works w):yw w k ps hs xs l works:=h.tb.cl h.c
theorem vC.hi{w w':World}(h:vC w0 wb k ps hs xs l works w)(hb:Below wb.heap.size w w'):vC w0 wb k ps hs xs l works w':=by
 obtain⟨f,f1,f2⟩:=h.kn;refine⟨h.b.trans (hb.mono h.lo),h.lo,h.tb,⟨ga h.c.size hb.size,fun i cs ty fr e=> ?_⟩,⟨f,f1.same (hb.block _ h.m),f2⟩,h.m⟩;rw[hb.block i (bU.1 e).1];exact h.c.cells i cs ty fr e
theorem vC.aj{w w':World}(h:vC w0 wb k ps hs xs l works w)(hb:Below w.heap.size w w'):vC w0 wb k ps hs xs l works w':=h.hi (hb.mono h.c.size)
theorem vC.new(hb:Below w0.heap.size w0 wb)(b:yw wb k ps hs xs l works)(a:wQ wb w0.heap.size k (aP ps hs (aT xs) l works)):vC w0 wb k ps hs xs l works wb:=
 ⟨hb,hb.size,b,Cl.refl _,a,by obtain⟨f,f1,_⟩:=a;exact f1.lt⟩
theorem vC.allowed(d:cT w0)(h:vC w0 wb k ps hs xs l works w){s:Nat}(e:s<128){R:Value->World->Prop}(g:∀w',vC w0 wb k ps hs xs l works w'->Eu k.m w w'->Cl w w'->R (.bool (aP ps hs (aT xs) l works s)) w'):
  dZ Tryz.prog 53 #[.pointer (some k.p),.int .i64 (s:Int)] w0.heap.size w R:=by
 refine dZ.mono (Gv (d.next h.b) h.t h.b.size h.kn e) ?_;rintro v w' i ⟨rfl,kn,bt⟩;have a:=bt.cl h.kn.map;exact g w' ⟨h.b.trans i,h.lo,h.tb,h.c.trans a,kn,h.m⟩ bt a
theorem CU(D:cT w)(hp:fu w A0 n0 A1 n1 A2 n2 c2 ps hs xs)(h:cK w A 3 (l.map Sw.row))(hl:l.length=n)(I:n<=c)(hn:n<=40)(J:cK w A3 3 (works.map Sw.row))(K:works.length=n3)(ho:cK w A5 1 (o.map dy))(E:o.length=n5)(L:n5<2147483648):
  Pure Tryz.prog 27 #[.agg #[.slice A0 n0 c0,.slice A1 n1 c1,.slice A2 n2 c2],.slice A n c,.slice A3 n3 c3,.slice A5 n5 c5] w fun v _=>v= .tuple #[.int .i64 (tN ps hs (aT xs) l works o).1,.int .i64 (tN ps hs (aT xs) l works o).2]:=by
 refine F.bQ.vc fun w1 M=> ?_
 have hw:=k0 M;refine pm (qI (D.next hw) (hp.aj hw) (h.aj hw lf) hl I hn (J.aj hw lf) K) ?_;intro v m N hv;have O:=kP hw N;unfold tN;by_cases h0:fJ ps hs (aT xs) l works≠0
 ·rw[cc h0];have hv:=hv.1 h0;subst hv;exact⟨_,_,rfl,fun _=>rfl,fun k=>absurd h0 k⟩
 rw[ar h0];obtain⟨k,hv,G,P⟩:=hv.2 (ep.1 h0);subst hv;have Y:=G.ok.n;have run:vC w m k ps hs xs l works m:= .new O G (P.le hw.size);unfold pV;refine⟨_,_,rfl,fun q=>absurd rfl q,fun _=>⟨fun h1=> ?_,fun h1=> ?_⟩⟩
 ·rw[cc (fun q=>by have:=q.1;omega)]
 have h1:n5=n3:=om;have walk:(o.length=works.length/\∀i∈List.range works.length,((i:Nat):Int)∈o)->∀(d j s:Nat)(w':World),n5 - j=d->j<=n5->s<2^6->vC w m k ps hs xs l works w'->
   F.bQ.uA (some k.p) s A5 n5 c5 n5 j w.heap.size w' fun v _=>v= .tuple #[.int .i64 (uD (aP ps hs (aT xs) l works) s j (o.drop j)).1,.int .i64 (uD (aP ps hs (aT xs) l works) s j (o.drop j)).2]:=by
  intro r d;induction d with
  |zero=>
   intro j s w' y hj H g;rw[dp om];exact F.bQ.uA.step ⟨fun h=>by omega,fun _=>rfl⟩
  |succ d ih=>
   intro j s w' y hj H g;have z:j<o.length:=om;have B:=sc j;obtain⟨x,hx⟩:∃x:Nat,o[j]=(x:Int)/\x<works.length:=by
    have:=(AQ r).mem_iff.1 (cd z);obtain⟨x,hx,e⟩:=kc.1 this;exact⟨x,e.symm,jA.1 hx⟩
   obtain⟨Q,R,S,a,_⟩:=(ho.aj g.b lf).at_ (fun _=>rfl) E z;rw[ec z,uD,hx.1,dq];rw[hx.1]at a;have T:=ou (i:=x) H om;refine F.bQ.uA.step ⟨fun _=>⟨Q,R,S,_,a,kt om,?_⟩,fun h=>by omega⟩;rw[mm _ om,vu _ om _ om];refine g.allowed D om fun U V _ _=>⟨fun _ _ _ h=>(by cases h),_,rfl,fun h2=> ?_,fun h2=>⟨ir,?_⟩⟩
   ·rw[ar (by rw[h2];decide)]
   ·rw[cc (hP _|>.mp h2),B];exact ih (j+1) (eG s x) U om om T V
 have key:∀(d j:Nat)(w':World),n3 - j=d->j<=n3->vC w m k ps hs xs l works w'->(∀i∈List.range j,((i:Nat):Int)∈o)->
   F.bQ.L7 A5 n5 c5 (some k.p) n3 j w.heap.size w' fun v _=>v= .tuple #[.int .i64 (if ¬(o.length=works.length/\∀i∈List.range works.length,((i:Nat):Int)∈o)then((-1,10):Int×Int)else uD (aP ps hs (aT xs) l works) 0 0 o).1,.int .i64 (if ¬(o.length=works.length/\∀i∈List.range works.length,((i:Nat):Int)∈o)then((-1,10):Int×Int)else uD (aP ps hs (aT xs) l works) 0 0 o).2]:=by
  intro d;induction d with
  |zero=>
   intro j w' y hj g C;have r:o.length=works.length/\∀i∈List.range works.length,((i:Nat):Int)∈o:=⟨om,by rw[show works.length=j by omega];exact C⟩
   rw[ar (fun q=>q r)];refine F.bQ.L7.step ⟨fun h=>by omega,fun _=> ?_⟩;exact walk r n5 0 0 w' rfl om dc g
  |succ d ih=>
   intro j w' y hj g C;have B:=sc j;refine F.bQ.L7.step ⟨fun _=> ?_,fun h=>by omega⟩;refine pm (TC (ho.aj g.b lf) E L j) ?_;rintro v W X rfl;refine⟨_,rfl,fun h2=> ?_,fun h2=>⟨ir,?_⟩⟩
   ·rw[cc (fun q=>kd h2 (q.2 j (jA.2 om)))]
   ·rw[B];refine ih (j+1) W om om (g.aj X) fun i hi=> ?_
    rw[pg]at hi;rcases h8.1 hi with hi|hi
    ·exact C i hi
    ·rw[gb.1 hi];exact hG (hP _|>.mp h2)
 exact key n3 0 m rfl om run sm
end

def InR(r:List Int×Int)(v:Value)(w':World):Prop:=∃A n c,v= .tuple #[.slice A n c,.int .i64 r.2]/\cK w' A 1 (r.1.map dy)/\r.1.length=n/\n<=c
theorem Ba(al:Nat->Bool)(n s:Nat):bB al n (s+1)=sZ al n (bB al n s) (s+1):=by
 unfold bB;rw[pg,AY];rfl
theorem NT(al:Nat->Bool)(n s:Nat):(bB al n s).length<=s+1:=by
 induction s with
 |zero=>simp[bB]
 |succ s ih=>
  rw[Ba];unfold sZ;split
  ·rw[fx];simp;omega
  ·omega
section
variable {w0 wb w:World} {A0 A1 A2 A A3 A5:Option Addr} {n0 c0 n1 c1 n2 c2 n c n3 c3 n5 c5:Nat} {ps:List Pa} {hs:List Ho} {xs:List Rm} {l works:List Sw} {k:Tk} {o:List Int}
structure Own (wb:World) (m:Nat) (f:Int->Option Bool) (w:World):Prop where
 m:rL w wb.heap.size 3 4 m f
theorem Own.but{w w':World}{m b:Nat}{f:Int->Option Bool}(h:Own wb m f w)(hb:Eu b w w')(a:b<wb.heap.size):Own wb m f w':=⟨h.m.same (hb.other _ h.m.lt (by have:=h.m.1;omega))⟩
theorem Own.low{w w':World}{m:Nat}{f:Int->Option Bool}(h:Own wb m f w)(hb:Below w.heap.size w w'):Own wb m f w':=⟨h.m.below hb⟩
theorem Own.row{w w':World}{m:Nat}{f:Int->Option Bool}(h:Own wb m f w){B ty:Nat}{A:Option Addr}{n c sz:Nat}{rows:List (List Value)}(ho:bF w B ty A n c sz rows)(d:w.grownBy w' (Value.ownBlock (.slice A n c))):Own wb m f w':=by
 refine⟨h.m.same (d.block _ h.m.lt fun e=> ?_)⟩;obtain⟨es,cl,g⟩:=h.m.isMap;cases A with
 |none=>cases e
 |some a=>
  obtain⟨cs,b⟩:=ho.cells a rfl;cases e;rw[g]at b;cases b
theorem Bc{w w':World}{B ty:Nat}{A:Option Addr}{n c sz:Nat}{rows:List (List Value)}(ho:bF w B ty A n c sz rows)(b:w.grownBy w' (Value.ownBlock (.slice A n c)))(hB:B<=w.heap.size):Below B w w':=by
 refine bS b (fun i e=> ?_) hB;cases A with
 |none=>cases e
 |some a=>
  cases e;exact(ho.sA a rfl).1

theorem GF(Q:cT w0){j:Nat}{R:Value->World->Prop}{s:Nat}(S:1<=s)(dX:s<=di k.n3)(T:k.n3<=6){a:Option Addr}{no co:Nat}{f:Int->Option Bool}(iO:no<=s)(hf:∀z:Nat,(f (z:Int)).getD false=(bB (aP ps hs (aT xs) l works) k.n3 (s - 1)).contains z)
  (next:∀(a:Option Addr)(no co:Nat)(f:Int->Option Bool)(w':World),vC w0 wb k ps hs xs l works w'->Own wb j f w'->no<=s+1->bF w' wb.heap.size 3 a no co 1 ((bB (aP ps hs (aT xs) l works) k.n3 s).map fun(z:Nat)=>dy z)->(∀z:Nat,(f (z:Int)).getD false=(bB (aP ps hs (aT xs) l works) k.n3 s).contains z)->F.bl.L7 A3 k.n3 c3 (some k.p) (some j) a no co ((s:Int)+1) w0.heap.size w' R):
  ∀(d i:Nat)(w':World),k.n3 - i=d->i<=k.n3->vC w0 wb k ps hs xs l works w'->Own wb j f w'->bF w' wb.heap.size 3 a no co 1 ((bB (aP ps hs (aT xs) l works) k.n3 (s - 1)).map fun(z:Nat)=>dy z)->(((List.range i).any fun i=>s.testBit i&&(bB (aP ps hs (aT xs) l works) k.n3 (s - 1)).contains (s^^^2^i))&&aP ps hs (aT xs) l works s)=false->
   F.bl.pd A3 k.n3 c3 (some k.p) (some j) a no co s k.n3 i w0.heap.size w' R:=by
 have Ll:=oX _ T;have Bo:=iK k.n3;have N:bB (aP ps hs (aT xs) l works) k.n3 s=sZ (aP ps hs (aT xs) l works) k.n3 (bB (aP ps hs (aT xs) l works) k.n3 (s - 1)) s:=by
  have:=Ba (aP ps hs (aT xs) l works) k.n3 (s - 1);rwa [show s - 1+1=s by omega]at this
 intro d;induction d with
 |zero=>
  intro i w' U hi y hm ho D;have:i=k.n3:=om;subst this;have e:bB (aP ps hs (aT xs) l works) k.n3 s=bB (aP ps hs (aT xs) l works) k.n3 (s - 1):=by
   rw[N];unfold sZ;rw[ar (by rw[D];decide)]
  refine F.bl.pd.step ⟨fun h=>by omega,fun _=>⟨ir,?_⟩⟩;refine next a no co f w' y hm om (by rw[e];exact ho) (by rw[e];exact hf)
 |succ d ih=>
  intro i w' U hi y hm ho D;have V:=sc i;have go:∀r,vC w0 wb k ps hs xs l works r->Own wb j f r->bF r wb.heap.size 3 a no co 1 ((bB (aP ps hs (aT xs) l works) k.n3 (s - 1)).map fun(z:Nat)=>dy z)->((s.testBit i&&(bB (aP ps hs (aT xs) l works) k.n3 (s - 1)).contains (s^^^2^i))=true->aP ps hs (aT xs) l works s=false)->
    (az .i64 ((i:Int)+1)/\F.bl.pd A3 k.n3 c3 (some k.p) (some j) a no co s k.n3 ((i:Int)+1) w0.heap.size r R):=by
   intro r W X G hx;refine⟨ir,?_⟩;rw[V];refine ih (i+1) r om om W X G ?_;rw[pg,BO];simp only[LR,Re,Of];cases ha:aP ps hs (aT xs) l works s with
   |false=>rw[AG]
   |true=>
    rw[ha,Fh]at D;rw[D,vx,Fh];cases hy:(s.testBit i&&(bB (aP ps hs (aT xs) l works) k.n3 (s - 1)).contains (s^^^2^i))with
    |false=>rfl
    |true=>rw[hx hy]at ha;cases ha
  refine F.bl.pd.step ⟨fun _=>⟨kt om,fun h1=>⟨kt om,?_⟩,fun h1=> ?_⟩,fun h=>by omega⟩
  ·have H:=(AX om om).1 h1;have hx:=En H;rw[mm _ om,II _ om _ om H];refine rz hm.m OJ om om ?_;rw[hf];refine⟨fun h2=> ?_,fun h2=>go w' y hm ho fun q=>by rw[h2,AG]at q;cases q⟩;refine y.allowed Q om fun O g bt cl=>⟨fun _ _ _ h=>(by cases h),_,rfl,fun h3=> ?_,fun h3=>go O g (hm.but bt g.m) (ho.cl cl) fun _=>h3⟩
   have I:=hm.but bt g.m;have J:=ho.cl cl;have e:bB (aP ps hs (aT xs) l works) k.n3 s=bB (aP ps hs (aT xs) l works) k.n3 (s - 1)++[s]:=by
    rw[N];unfold sZ;rw[cc];rw[eb,kh];exact⟨⟨i,jA.2 om,by rw[H,h2];rfl⟩,h3⟩
   refine mj I.m OJ om om true g.lo g.b.size fun Y m22 _ g22=> ?_
   have K:Below wb.heap.size O Y:=bS g22 (fun k Z=>by cases Z;exact I.m.1) g.c.size;have E:=g.hi K;have L:=J.cl (Cl.map I.m g22);refine ny ft (B:=wb.heap.size) E.lo L (x:= .int .i64 (s:Int)) rfl (by simp[Value.cells,dA]) E.c.size om dc fun UB UC wZ M C _=>⟨ir,?_⟩
   refine next UB (no+1) UC _ wZ (E.hi (Bc L C E.c.size)) (Own.row ⟨m22⟩ L C) om (by rw[e,lx];exact M) fun z=> ?_
   rw[e,List.contains_append];unfold vr;by_cases P:(z:Int)=s
   ·rw[cc P];have:z=s:=om;subst this;simp
   ·rw[ar P,hf];have:z≠s:=om;simp[this]
  ·exact go w' y hm ho fun q=>by
    rw[eb]at q;exact absurd ((AX om om).2 q.1) h1
theorem yk(E:cT w)(hp:fu w A0 n0 A1 n1 A2 n2 c2 ps hs xs)(h:cK w A 3 (l.map Sw.row))(hl:l.length=n)(J:n<=c)(hn:n<=40)(K:cK w A3 3 (works.map Sw.row))(L:works.length=n3):
  Pure Tryz.prog 24 #[.agg #[.slice A0 n0 c0,.slice A1 n1 c1,.slice A2 n2 c2],.slice A n c,.slice A3 n3 c3] w (InR (vq ps hs (aT xs) l works)):=by
 refine F.bl.vc fun w1 M=> ?_
 have hw:=k0 M;refine pm (qI (E.next hw) (hp.aj hw) (h.aj hw lf) hl J hn (K.aj hw lf) L) ?_;intro v e N hv;have O:=kP hw N;unfold vq;by_cases h0:fJ ps hs (aT xs) l works≠0
 ·rw[cc h0];have hv:=hv.1 h0;subst hv;exact⟨_,_,rfl,fun _=>⟨_,_,_,rfl,.inl rfl,rfl,hM _⟩,fun k=>absurd h0 k⟩
 rw[ar h0];obtain⟨k,hv,x,P⟩:=hv.2 (ep.1 h0);subst hv;have X:=x.ok.n;have y:=x.lw;have Y:=oX k.n3 om;have Z:=iK k.n3;have run:vC w e k ps hs xs l works e:= .new O x (P.le hw.size);have Q:n3=k.n3:=om;subst Q;rw[y];refine⟨_,_,rfl,fun q=>absurd rfl q,fun _=> ?_⟩;refine nz (tk:=3) (te:=4) run.b.size fun w8 m8 R=> ?_
 have B:=run.aj R;refine mj m8 OJ (z:=0) om om true run.b.size B.b.size fun w9 m9 _ g9=> ?_
 have C:=B.hi (bS g9 (fun i hi=>by cases hi;exact m8.1) B.c.size);refine dx ft [.int .i64 0] (by simp[Value.cells]) sm C.b.size fun a co S T G=> ?_
 have D:=C.aj G;have key:∀(d s:Nat)(a:Option Addr)(no co:Nat)(f:Int->Option Bool)(w':World),di k.n3+1 - s=d->1<=s->s<=di k.n3+1->vC w e k ps hs xs l works w'->Own e e.heap.size f w'->no<=s->bF w' e.heap.size 3 a no co 1 ((bB (aP ps hs (aT xs) l works) k.n3 (s - 1)).map fun(z:Nat)=>dy z)->(∀z:Nat,(f (z:Int)).getD false=(bB (aP ps hs (aT xs) l works) k.n3 (s - 1)).contains z)->
   F.bl.L7 A3 k.n3 c3 (some k.p) (some e.heap.size) a no co s w.heap.size w' (InR ((bB (aP ps hs (aT xs) l works) k.n3 (di k.n3)).map fun(s:Nat)=>(s:Int),0)):=by
  intro d;induction d with
  |zero=>
   intro s a no co f w' U j V g hm r ho hf;have:s=di k.n3+1:=om;subst this;refine F.bl.L7.step (pm (tQ g.t.t om) ?_);rintro v H m rfl;refine⟨_,rfl,fun h=>by omega,fun _=>⟨a,no,co,rfl,?_,?_,ho.gV⟩⟩
   ·have:=(ho.below m).sl;rw[uP]at this;rw[List.map_map];exact this
   ·have:=ho.len;rw[uP]at this;simpa using this
  |succ d ih=>
   intro s a no co f w' U j V g hm r ho hf;refine F.bl.L7.step (pm (tQ g.t.t om) ?_);rintro v H m rfl;refine⟨_,rfl,fun _=> ?_,fun h=>by omega⟩;refine GF E j om om r hf (fun a no co f w' g hm r ho hf=> ?_) k.n3 0 H rfl om (g.aj m) (hm.low m) (ho.below m) rfl;have W:=sc s;rw[W];exact ih (s+1) a no co f w' om om om g hm r (by rw[uP];exact ho) (by rw[uP];exact hf)
 refine key _ 1 a 1 co _ S rfl om om D ⟨m9.below G⟩ om (T.base C.c.size) fun z=> ?_
 unfold vr;by_cases I:(z:Int)=0
 ·rw[cc I];have:z=0:=om;subst this;rfl
 ·rw[ar I];have:z≠0:=om;simp[bB,this]
end
end Go.Proofs.YtgfkeadgjkfomaaGreatDoor.B

set_option maxRecDepth 100000
set_option maxHeartbeats 4000000
namespace Go.Proofs.YtgfkeadgjkfomaaGreatDoor.F
open Go Go.RowKit Go.Proofs Go.Proofs.YtgfkeadgjkfomaaGreatDoor.Vc
def cQ.L3(a:Int)(b:O)(c d:Nat)(e:O)(f g:Nat)(i:O)(j l:Nat)(m:O)(n o:Nat)(p:O)(q r:Nat)(s:O)(t u:Nat)(v:O)(x y:Nat)(z:O)(A C:Nat)(D:O)(E G:Nat):=Lt 17 Tryz.f17 3 [(1,.loc 1 0),(2,.loc 2 0),(3,.loc 3 0),(4,.v (.int .i64 a))] [⟨1,false,28,[(.slice b c d),(.slice e f g),(.slice i j l)]⟩,⟨2,false,28,[(.slice m n o),(.slice p q r),(.slice s t u)]⟩,⟨3,false,28,[(.slice v x y),(.slice z A C),(.slice D E G)]⟩]
def cQ.cx:Pm:=([((true,3),[1,2,3,4],[1,2,3])],[(5,5,2),(6,0,2),(6,3,2),(7,3,2),(7,4,2)])
theorem cQ.L3.step{b:Int}{p q d r s t e f g:O}{u v x y c z A C D E G H i j l m n o B:Nat}{w:World}{R:Kt}
  (h:(Br (b<(c:Int)) (Ix b c d fun k=>(∃N Q S T U V X Y Z,ae w (k.add ((b).toNat*7)) [.string N,.int .i64 Q,.slice S T U,.string V,.string X,.int .i64 Y,.int .i64 Z]/\(au P (Instr.alloc 87 true (.tuple #[])) B [28,28,28] w fun b9 a0=>∃(a:Addr),b9= .pointer (some a)/\(∃(I:List Value)(J:Nat),B<=a.block/\a.spot=none/\a0.heap[a.block]? =some (.cells I.toArray J (0,0))/\a.off+7<=I.length/\hasType J [⟨1,false,28,[.slice p u v,.slice q x y,.slice d c z]⟩,⟨2,false,28,[.slice r A C,.slice s D E,.slice t G H]⟩,⟨3,false,28,[.slice e i j,.slice f l m,.slice g n o]⟩]=false/\∀F,dd a0 F a.block J (setCells I a.off [.string N,.int .i64 Q,.slice S T U,.string V,.string X,.int .i64 Y,.int .i64 Z])->(au P (Instr.buildSlice 85 0 #[]) B [28,28,28] F (Rs fun c0 c1 c2 a2=>(∃a3 a4 a5,ae a2 (a.add 2) [.slice a3 a4 a5]/\(au P (Builtin.append_ #[85,85] 85 #[.slice c0 c1 c2,.slice a3 a4 a5]) B [28,28,28] a2 (Rs fun c3 c4 c5 W=>(∃(K:List Value)(L:Nat),B<=(a.add 2).block/\(a.add 2).spot=none/\W.heap[(a.add 2).block]? =some (.cells K.toArray L (0,0))/\(a.add 2).off+1<=K.length/\hasType L [⟨1,false,28,[.slice p u v,.slice q x y,.slice d c z]⟩,⟨2,false,28,[.slice r A C,.slice s D E,.slice t G H]⟩,⟨3,false,28,[.slice e i j,.slice f l m,.slice g n o]⟩]=false/\∀M,dd W M (a.add 2).block L (setCells K (a.add 2).off [.slice c3 c4 c5])->(∃k a8 a9 b0 b1 b2 b3 b4 b5,ae M a [.string k,.int .i64 a8,.slice a9 b0 b1,.string b2,.string b3,.int .i64 b4,.int .i64 b5]/\(au P (Instr.buildSlice 26 1 #[(0,(.agg #[.string k,.int .i64 a8,.slice a9 b0 b1,.string b2,.string b3,.int .i64 b4,.int .i64 b5]))]) B [28,28,28] M (Rs fun c6 c7 c8 c9=>(au P (Builtin.append_ #[26,26] 26 #[.slice g n o,.slice c6 c7 c8]) B [28,28,28] c9 (Rs fun d0 d1 d2 d3=>(az .i64 (b+1)/\(∀b6,Ext B [28] d3 b6->(cQ.L3 (b+1) p u v q x y d c z r A C s D E t G H e i j f l m d0 d1 d2 B b6 R)))))))))))))))))) (∀b7,Ext B [28] w b7->(R (.agg #[.slice e i j,.slice f l m,.slice g n o]) b7)))):
  cQ.L3 b p u v q x y d c z r A C s D E t G H e i j f l m g n o B w R:=
 lr cQ.cx Tryz.func17 h
theorem cQ.vc{a b g:O}{c d e f i j:Nat}{w:World}{R:Kt}
  (h:(∀l,Ext w.heap.size [] w l->(Pure P 13 #[.agg #[.slice a c d,.slice b e f]] l (Rc fun n o p q r s t=>(∀m,Ext w.heap.size [] t m->(cQ.L3 (0:Int) a c d b e f g i j none 0 0 none 0 0 none 0 0 n o p q r s none 0 0 w.heap.size m R)))))):
  Pure P 17 #[.agg #[.slice a c d,.slice b e f,.slice g i j]] w R:=
 pr cQ.cx Tryz.func17 h

def bE.L2(a:Int)(b:O)(c d:Nat)(e:O)(f g:Nat)(i:O)(j l:Nat):=Lt 40 Tryz.f40 2 [(1,.loc 1 0),(3,.v (.int .i64 a))] [⟨1,false,28,[(.slice b c d),(.slice e f g),(.slice i j l)]⟩]
def bE.L8(a b:Int)(c:O)(d e:Nat)(f:O)(g i:Nat)(j:O)(l m:Nat)(n:ByteArray)(o:Int)(p:O)(q r:Nat)(s t:ByteArray)(u v:Int):=Lt 40 Tryz.f40 8 [(1,.loc 1 0),(3,.v (.int .i64 a)),(4,.loc 4 0),(5,.v (.int .i64 b))] [⟨1,false,28,[(.slice c d e),(.slice f g i),(.slice j l m)]⟩,⟨4,false,87,[(.string n),(.int .i64 o),(.slice p q r),(.string s),(.string t),(.int .i64 u),(.int .i64 v)]⟩]
def bE.cx:Pm:=([((true,2),[1,3],[1]),((true,8),[1,3,4,5],[1,4])],[])
theorem bE.L2.step{a:Int}{c d e:O}{f g i j b p B:Nat}{w:World}{R:Kt}
  (h:(Br (a<(b:Int)) (Ix a b e fun D=>(∃l q r m s n o t u,ae w (D.add ((a).toNat*7)) [.string l,.int .i64 q,.slice r m s,.string n,.string o,.int .i64 t,.int .i64 u]/\(Br (((ByteArray.size l:Int):Int)>70) (∀v,Ext B [] w v->(R (.bool false) v)) (Br (((ByteArray.size n:Int):Int)>40) (∀x,Ext B [] w x->(R (.bool false) x)) (Br (((ByteArray.size o:Int):Int)>40) (∀y,Ext B [] w y->(R (.bool false) y)) (Br ((m:Int)>8) (∀z,Ext B [] w z->(R (.bool false) z)) (∀A,Ext B [] w A->(bE.L8 a (0:Int) c f g d i j e b p l q r m s n o t u B A R)))))))) (Pure P 36 #[.agg #[.slice c f g,.slice d i j]] w (Rb fun E C=>(Bb E (R (.bool (decide ((b:Int)<=(17:Int)))) C) (R (.bool false) C)))))):
  bE.L2 a c f g d i j e b p B w R:=
 lr bE.cx Tryz.func40 h
theorem bE.L8.step{b a p q r:Int}{d e f g:O}{i j l m n o c s B:Nat}{t u v:ByteArray}{w:World}{R:Kt}
  (h:(Br (a<(c:Int)) (Ix a c g fun y=>(∃x,ae w (y.add ((a).toNat*1)) [.string x]/\(Br (((ByteArray.size x:Int):Int)>40) (R (.bool false) w) (az .i64 (a+1)/\(bE.L8 b (a+1) d i j e l m f n o t p g c s u v q r B w R))))) (az .i64 (b+1)/\(bE.L2 (b+1) d i j e l m f n o B w R)))):
  bE.L8 b a d i j e l m f n o t p g c s u v q r B w R:=
 lr bE.cx Tryz.func40 h
theorem bE.vc{a b c:O}{d e f g i j:Nat}{w:World}{R:Kt}
  (h:(∀l,Ext w.heap.size [] w l->(bE.L2 (0:Int) a d e b f g c i j w.heap.size l R))):
  Pure P 40 #[.agg #[.slice a d e,.slice b f g,.slice c i j]] w R:=
 pr bE.cx Tryz.func40 h

def cD.L7(a:Int)(b:O)(c d:Nat)(e:O)(f g:Nat)(i:O)(j l:Nat):=Lt 80 Tryz.f80 7 [(1,.loc 1 0),(5,.v (.int .i64 a))] [⟨1,false,28,[(.slice b c d),(.slice e f g),(.slice i j l)]⟩]
def cD.cx:Pm:=([((true,7),[1,5],[1])],[])
theorem cD.L7.step{a:Int}{c d e:O}{f g i j b l B:Nat}{w:World}{R:Kt}
  (h:(Br (a<(b:Int)) (Pure P 116 #[.agg #[.slice c f g,.slice d i j,.slice e b l],.int .i64 a] w (Ri fun m n=>(Br (m≠0) (R (.tuple #[.int .i64 a,.int .i64 m]) n) (az .i64 (a+1)/\(cD.L7 (a+1) c f g d i j e b l B n R))))) (R (.tuple #[(.int .i64 (-1:Int)),.int .i64 0]) w))):
  cD.L7 a c f g d i j e b l B w R:=
 lr cD.cx Tryz.func80 h
theorem cD.vc{a b j:O}{c d e f g l:Nat}{w:World}{R:Kt}
  (h:(∀m,Ext w.heap.size [] w m->(Pure P 108 #[.agg #[.slice a c d,.slice b e f]] m (Ri fun n i=>(Br (n≠0) (R (.tuple #[(.int .i64 (-1:Int)),.int .i64 n]) i) (Br ((g:Int)>16) (R (.tuple #[(.int .i64 (-1:Int)),.int .i64 8]) i) (cD.L7 (0:Int) a c d b e f j g l w.heap.size i R))))))):
  Pure P 80 #[.agg #[.slice a c d,.slice b e f,.slice j g l]] w R:=
 pr cD.cx Tryz.func80 h

def jT.cx:Pm:=([],[])
theorem jT.vc{a b m c:O}{d e f g n o i j:Nat}{w:World}{R:Kt}
  (h:(∀p,Ext w.heap.size [] w p->(Pure P 117 #[.agg #[.slice a d e,.slice b f g,.slice m n o],.slice c i j] p (BC fun u q v r l=>(Br (r≠0) (R (.bool false) l) (Br ((q:Int)>0) (R (.bool false) l) (Pure P 118 #[.agg #[.slice a d e,.slice b f g],.slice c i j] l (Rii fun s x t=>(R (.bool (decide (s<0))) t))))))))):
  Pure P 81 #[.agg #[.slice a d e,.slice b f g,.slice m n o],.slice c i j] w R:=
 pr jT.cx Tryz.func81 h

def aC.L7(a b:Int)(c:O)(d e:Nat)(f:O)(g i:Nat)(j:O)(l m:Nat)(n:ByteArray)(o:Int)(p:O)(q r:Nat)(s t:ByteArray)(u v:Int):=Lt 116 Tryz.f116 7 [(1,.v (.int .i64 a)),(2,.loc 2 0),(5,.loc 5 0),(6,.v (.int .i64 b))] [⟨2,false,28,[(.slice c d e),(.slice f g i),(.slice j l m)]⟩,⟨5,false,87,[(.string n),(.int .i64 o),(.slice p q r),(.string s),(.string t),(.int .i64 u),(.int .i64 v)]⟩]
def aC.LQ(a:O)(b c:Nat)(d:O)(e f:Nat)(g:O)(i j:Nat)(l:ByteArray)(m:Int)(n:O)(o p:Nat)(q r:ByteArray)(s t:Int):=Jt 116 Tryz.f116 13 [(2,.loc 2 0),(5,.loc 5 0)] [⟨2,false,28,[(.slice a b c),(.slice d e f),(.slice g i j)]⟩,⟨5,false,87,[(.string l),(.int .i64 m),(.slice n o p),(.string q),(.string r),(.int .i64 s),(.int .i64 t)]⟩]
def aC.Rv(a:O)(b c:Nat)(d:O)(e f:Nat)(g:O)(i j:Nat)(l:ByteArray)(m:Int)(n:O)(o p:Nat)(q r:ByteArray)(s t:Int):=Jt 116 Tryz.f116 15 [(2,.loc 2 0),(5,.loc 5 0)] [⟨2,false,28,[(.slice a b c),(.slice d e f),(.slice g i j)]⟩,⟨5,false,87,[(.string l),(.int .i64 m),(.slice n o p),(.string q),(.string r),(.int .i64 s),(.int .i64 t)]⟩]
def aC.cx:Pm:=([((true,7),[1,2,5,6],[2,5]),((false,13),[2,5],[2,5]),((false,15),[2,5],[2,5])],[])
theorem aC.L7.step{f a b g i:Int}{j l c m:O}{n o p q d r s t B:Nat}{e u v:ByteArray}{w:World}{R:Kt}
  (h:(Br (a<f) (Ix a d c fun A=>(∃x,ae w ((A.add ((a).toNat*7)).add 0) [.string x]/\(Br (x=e) (∀y,Ext B [] w y->(R (.int .i64 6) y)) (az .i64 (a+1)/\(∀z,Ext B [] w z->(aC.L7 f (a+1) j n o l p q c d r e b m s t u v g i B z R)))))) (Br (b<1) (R (.int .i64 2) w) (Br (b>4) (R (.int .i64 2) w) (aC.LQ j n o l p q c d r e b m s t u v g i B w R))))):
  aC.L7 f a j n o l p q c d r e b m s t u v g i B w R:=
 lr aC.cx Tryz.func116 h
theorem aC.LQ.step{i j l m:O}{n o e p q r a s B:Nat}{t c d:ByteArray}{b f g:Int}{w:World}{R:Kt}
  (h:(Br (b=1) (Br ((a:Int)≠(e:Int)) (R (.int .i64 10) w) (Br (f≠0) (R (.int .i64 10) w) (Br (g≠0) (R (.int .i64 10) w) (Br (b≠1) (Br ((a:Int)≠0) (R (.int .i64 10) w) (Br (c≠(⟨#[]⟩:ByteArray)) (R (.int .i64 10) w) (Br (d≠(⟨#[]⟩:ByteArray)) (R (.int .i64 10) w) (aC.Rv i n o j e p l q r t b m a s c d f g B w R)))) (aC.Rv i n o j e p l q r t b m a s c d f g B w R))))) (Br (b≠1) (Br ((a:Int)≠0) (R (.int .i64 10) w) (Br (c≠(⟨#[]⟩:ByteArray)) (R (.int .i64 10) w) (Br (d≠(⟨#[]⟩:ByteArray)) (R (.int .i64 10) w) (aC.Rv i n o j e p l q r t b m a s c d f g B w R)))) (aC.Rv i n o j e p l q r t b m a s c d f g B w R)))):
  aC.LQ i n o j e p l q r t b m a s c d f g B w R:=
 jr aC.cx Tryz.func116 h
theorem aC.Rv.step{b c v n:O}{d e f g x y o p B:Nat}{q r s:ByteArray}{a i l:Int}{w:World}{R:Kt}
  (h:(Pure P 157 #[.agg #[.string q,.int .i64 a,.slice n o p,.string r,.string s,.int .i64 i,.int .i64 l]] w (Rb fun z j=>(Br (z=false) (R (.int .i64 2) j) (Br (a=3) (Pure P 82 #[.agg #[.slice b d e,.slice c f g],.int .i64 l] j (Ri fun A m=>(Br (A<0) (R (.int .i64 7) m) (Br (a=4) (Pure P 83 #[.agg #[.slice b d e,.slice c f g],.int .i64 i] m (Ri fun C t=>(Br (C<0) (R (.int .i64 7) t) (R (.int .i64 0) t)))) (R (.int .i64 0) m))))) (Br (a=4) (Pure P 83 #[.agg #[.slice b d e,.slice c f g],.int .i64 i] j (Ri fun D u=>(Br (D<0) (R (.int .i64 7) u) (R (.int .i64 0) u)))) (R (.int .i64 0) j))))))):
  aC.Rv b d e c f g v x y q a n o p r s i l B w R:=
 jr aC.cx Tryz.func116 h
theorem aC.vc{q r d:O}{s t u v e x:Nat}{b:Int}{w:World}{R:Kt}
  (h:(Ix b e d fun z=>(∀f,Ext w.heap.size [] w f->(∃a g i j l m n o p,ae f (z.add ((b).toNat*7)) [.string a,.int .i64 g,.slice i j l,.string m,.string n,.int .i64 o,.int .i64 p]/\(∀y,Ext w.heap.size [] f y->(Pure P 156 #[.agg #[.string a,.int .i64 g,.slice i j l,.string m,.string n,.int .i64 o,.int .i64 p]] y (Rb fun A c=>(Br (A=false) (R (.int .i64 1) c) (Br (((ByteArray.size a:Int):Int)<1) (R (.int .i64 4) c) (Br (((ByteArray.size a:Int):Int)>64) (R (.int .i64 4) c) (aC.L7 b (0:Int) q s t r u v d e x a g i j l m n o p w.heap.size c R))))))))))):
  Pure P 116 #[.agg #[.slice q s t,.slice r u v,.slice d e x],.int .i64 b] w R:=
 pr aC.cx Tryz.func116 h

def bT.L5(a:O)(b c:Nat)(d:O)(e f:Nat)(g:Int)(i:O)(j l:Nat)(m:O)(n o:Nat)(p:O)(q r:Nat):=Lt 117 Tryz.f117 5 [(1,.v (.slice a b c)),(2,.loc 2 0),(6,.v (.slice d e f)),(7,.v (.int .i64 g))] [⟨2,false,28,[(.slice i j l),(.slice m n o),(.slice p q r)]⟩]
def bT.cx:Pm:=([((true,5),[1,2,6,7],[2])],[(8,2,2),(8,3,2)])
theorem bT.L5.step{d e f g c:O}{i j l m n o p q b r B:Nat}{a:Int}{w:World}{R:Kt}
  (h:(Br (a<(b:Int)) (Ix a b c fun G=>(∃s t u v x y z A C,ae w (G.add ((a).toNat*7)) [.string s,.int .i64 t,.slice u v x,.string y,.string z,.int .i64 A,.int .i64 C]/\(∀D,Ext B [] w D->(Pure P 159 #[.agg #[.slice f n o,.slice g p q,.slice c b r],.agg #[.string s,.int .i64 t,.slice u v x,.string y,.string z,.int .i64 A,.int .i64 C],.slice d i j] D (Rb fun H E=>(Bb H (au P (Instr.buildSlice 48 1 #[(0,(.int .i64 a))]) B [28] E (Rs fun I J K L=>(au P (Builtin.append_ #[48,48] 48 #[.slice e l m,.slice I J K]) B [28] L (Rs fun M N Q S=>(az .i64 (a+1)/\(bT.L5 d i j M N Q (a+1) f n o g p q c b r B S R)))))) (az .i64 (a+1)/\(bT.L5 d i j e l m (a+1) f n o g p q c b r B E R)))))))) (R (.tuple #[.slice e l m,.int .i64 0]) w))):
  bT.L5 d i j e l m a f n o g p q c b r B w R:=
 lr bT.cx Tryz.func117 h
theorem bT.vc{a b c d:O}{e f g i j l m n:Nat}{w:World}{R:Kt}
  (h:(∀o,Ext w.heap.size [] w o->(Pure P 158 #[.agg #[.slice a e f,.slice b g i,.slice c j l],.slice d m n] o (Rb fun q p=>(Br (q=false) (R (.tuple #[.slice none 0 0,.int .i64 1]) p) (bT.L5 d m n none 0 0 (0:Int) a e f b g i c j l w.heap.size p R)))))):
  Pure P 117 #[.agg #[.slice a e f,.slice b g i,.slice c j l],.slice d m n] w R:=
 pr bT.cx Tryz.func117 h

def bV.L2(a:Int)(b:ByteArray)(c:Int)(d:O)(e f:Nat)(g i:ByteArray)(j l:Int):=Lt 156 Tryz.f156 2 [(1,.loc 1 0),(3,.v (.int .i64 a))] [⟨1,false,87,[(.string b),(.int .i64 c),(.slice d e f),(.string g),(.string i),(.int .i64 j),(.int .i64 l)]⟩]
def bV.cx:Pm:=([((true,2),[1,3],[1])],[])
theorem bV.L2.step{a g i j:Int}{l c b:ByteArray}{e:O}{d m B:Nat}{w:World}{R:Kt}
  (h:(Br (a<(d:Int)) (Ix a d e fun p=>(∃n,ae w (p.add ((a).toNat*1)) [.string n]/\(Pure P 175 #[.string n] w (Rb fun q o=>(Br (q=false) (R (.bool false) o) (az .i64 (a+1)/\(bV.L2 (a+1) l g e d m c b i j B o R))))))) (Br (c=(⟨#[]⟩:ByteArray)) (Br (b=(⟨#[]⟩:ByteArray)) (R (.bool true) w) (Pure P 175 #[.string b] w (Rb fun r s=>(R (.bool r) s)))) (Pure P 175 #[.string c] w (Rb fun t f=>(Bb t (Br (b=(⟨#[]⟩:ByteArray)) (R (.bool true) f) (Pure P 175 #[.string b] f (Rb fun u v=>(R (.bool u) v)))) (R (.bool false) f))))))):
  bV.L2 a l g e d m c b i j B w R:=
 lr bV.cx Tryz.func156 h
theorem bV.vc{a b c:ByteArray}{d e f:Int}{g:O}{i j:Nat}{w:World}{R:Kt}
  (h:(∀l,Ext w.heap.size [] w l->(bV.L2 (0:Int) a d g i j b c e f w.heap.size l R))):
  Pure P 156 #[.agg #[.string a,.int .i64 d,.slice g i j,.string b,.string c,.int .i64 e,.int .i64 f]] w R:=
 pr bV.cx Tryz.func156 h

def jj.cx:Pm:=([],[])
theorem jj.vc{t a b:ByteArray}{c d e:Int}{u:O}{v x:Nat}{w:World}{R:Kt}
  (h:(Br (c=1) (Br (a≠(⟨#[]⟩:ByteArray)) (Br (a=(⟨#[]⟩:ByteArray)) (∀f,Ext w.heap.size [] w f->(R (.bool true) f)) (Br (b=(⟨#[]⟩:ByteArray)) (∀g,Ext w.heap.size [] w g->(R (.bool true) g)) (∀i,Ext w.heap.size [] w i->(Pure P 146 #[.string b] i (Rq fun y z A C D E G H=>(Pure P 146 #[.string a] H (Rq fun I J K L M N Q S=>(Pure P 161 #[.agg #[.bool y,.slice z A C,.slice D E G],.agg #[.bool I,.slice J K L,.slice M N Q]] S (Rb fun T U=>(R (.bool (decide (T=false))) U)))))))))) (Br (b≠(⟨#[]⟩:ByteArray)) (Br (a=(⟨#[]⟩:ByteArray)) (∀j,Ext w.heap.size [] w j->(R (.bool true) j)) (Br (b=(⟨#[]⟩:ByteArray)) (∀l,Ext w.heap.size [] w l->(R (.bool true) l)) (∀m,Ext w.heap.size [] w m->(Pure P 146 #[.string b] m (Rq fun V X Y Z a0 k a2 a3=>(Pure P 146 #[.string a] a3 (Rq fun a4 a5 B F W a9 b0 b1=>(Pure P 161 #[.agg #[.bool V,.slice X Y Z,.slice a0 k a2],.agg #[.bool a4,.slice a5 B F,.slice W a9 b0]] b1 (Rb fun b2 b3=>(R (.bool (decide (b2=false))) b3)))))))))) (∀n,Ext w.heap.size [] w n->(R (.bool false) n)))) (Br (c=2) (∀o,Ext w.heap.size [] w o->(Pure P 186 #[.int .i64 d] o (Rb fun b4 p=>(Bb b4 (Pure P 186 #[.int .i64 e] p (Rb fun b5 q=>(Bb b5 (R (.bool (decide (d<e))) q) (R (.bool false) q)))) (R (.bool false) p))))) (Br (c=3) (∀r,Ext w.heap.size [] w r->(Pure P 186 #[.int .i64 d] r (Rb fun b6 b7=>(R (.bool b6) b7)))) (∀s,Ext w.heap.size [] w s->(R (.bool (decide (e=0))) s)))))):
  Pure P 157 #[.agg #[.string t,.int .i64 c,.slice u v x,.string a,.string b,.int .i64 d,.int .i64 e]] w R:=
 pr jj.cx Tryz.func157 h

def jU.cx:Pm:=([],[])
theorem jU.vc{a b g i:O}{c d e f j l m n:Nat}{w:World}{R:Kt}
  (h:(∀o,Ext w.heap.size [] w o->(Pure P 80 #[.agg #[.slice a c d,.slice b e f,.slice g j l]] o (Rii fun t q p=>(Br (q=0) (Pure P 75 #[.agg #[.slice a c d,.slice b e f],.slice i m n] p (Ri fun r s=>(R (.bool (decide (r=0))) s))) (R (.bool false) p)))))):
  Pure P 158 #[.agg #[.slice a c d,.slice b e f,.slice g j l],.slice i m n] w R:=
 pr jU.cx Tryz.func158 h

def aM.L7(a:O)(b c:Nat)(d:Int)(e:O)(f g:Nat)(i:O)(j l:Nat)(m:O)(n o:Nat)(p:ByteArray)(q:Int)(r:O)(s t:Nat)(u v:ByteArray)(x y:Int):=Lt 159 Tryz.f159 7 [(2,.v (.slice a b c)),(3,.loc 3 0),(4,.loc 4 0),(7,.v (.int .i64 d))] [⟨3,false,28,[(.slice e f g),(.slice i j l),(.slice m n o)]⟩,⟨4,false,87,[(.string p),(.int .i64 q),(.slice r s t),(.string u),(.string v),(.int .i64 x),(.int .i64 y)]⟩]
def aM.uA(a:O)(b c:Nat)(d e:Int)(f:ByteArray)(g:Int)(i:O)(j l:Nat)(m n:ByteArray)(o p:Int):=Lt 159 Tryz.f159 14 [(2,.v (.slice a b c)),(4,.loc 4 0),(8,.v (.int .i64 d)),(9,.v (.int .i64 e))] [⟨4,false,87,[(.string f),(.int .i64 g),(.slice i j l),(.string m),(.string n),(.int .i64 o),(.int .i64 p)]⟩]
def aM.cx:Pm:=([((true,7),[2,3,4,7],[3,4]),((true,14),[2,4,8,9],[4])],[(12,9999,3)])
theorem aM.L7.step{d e c f r:O}{g i j l b m n o s t B:Nat}{a u p q:Int}{v x y:ByteArray}{w:World}{R:Kt}
  (h:(Br (a<(b:Int)) (Ix a b c fun G=>(∃z,ae w ((G.add ((a).toNat*7)).add 0) [.int .i64 z]/\(∀A,Ext B [] w A->(Pure P 188 #[.agg #[.slice e j l,.slice c b m,.slice f n o],.slice d g i,.int .i64 z,.int .i64 p] A (Rb fun H C=>(Bb H (Ix a b c fun I=>(∃D,ae w ((I.add ((a).toNat*7)).add 0) [.int .i64 D]/\(Pure P 188 #[.agg #[.slice e j l,.slice c b m,.slice f n o],.slice d g i,.int .i64 D,.int .i64 q] C (Rb fun J E=>(Bb J (R (.bool true) E) (az .i64 (a+1)/\(aM.L7 d g i (a+1) e j l c b m f n o v u r s t x y p q B E R))))))) (az .i64 (a+1)/\(aM.L7 d g i (a+1) e j l c b m f n o v u r s t x y p q B C R)))))))) (R (.bool false) w))):
  aM.L7 d g i a e j l c b m f n o v u r s t x y p q B w R:=
 lr aM.cx Tryz.func159 h
theorem aM.uA.step{c f:O}{b g i j B:Nat}{d a l e m:Int}{n o p:ByteArray}{w:World}{R:Kt}
  (h:(Br (a<(b:Int)) (Ix a b c fun u=>(∃s,ae w ((u.add ((a).toNat*3)).add 1) [.int .i64 s]/\(Br (s=e) (Ix a b c fun v=>(∀q,Ext B [] w q->(∃r,ae q ((v.add ((a).toNat*3)).add 2) [.int .i64 r]/\(az .i64 (d - r)/\(az .i64 (a+1)/\(aM.uA c b g (d - r) (a+1) n l f i j o p e m B q R)))))) (az .i64 (a+1)/\(∀t,Ext B [] w t->(aM.uA c b g d (a+1) n l f i j o p e m B t R)))))) (R (.bool (decide (d>0))) w))):
  aM.uA c b g d a n l f i j o p e m B w R:=
 lr aM.cx Tryz.func159 h
theorem aM.vc{b e o p f:O}{c g i j q r s t l m:Nat}{u v x:ByteArray}{a d n:Int}{w:World}{R:Kt}
  (h:(Br (a=1) (∀z,Ext w.heap.size [] w z->(Pure P 187 #[.agg #[.slice b c g,.slice e i j,.slice o q r],.agg #[.string u,.int .i64 a,.slice p s t,.string v,.string x,.int .i64 d,.int .i64 n],.slice f l m] z (Rq fun H I J K L M N Q=>(Pure P 145 #[.agg #[.bool H,.slice I J K,.slice L M N]] Q (Ri fun S T=>(R (.bool (decide (S≠0))) T)))))) (Br (a=3) (∀A,Ext w.heap.size [] w A->(Pure P 188 #[.agg #[.slice b c g,.slice e i j,.slice o q r],.slice f l m,.int .i64 n,.int .i64 d] A (Rb fun U V=>(R (.bool U) V)))) (Br (a=2) (∀C,Ext w.heap.size [] w C->(aM.L7 f l m (0:Int) b c g e i j o q r u a p s t v x d n w.heap.size C R)) (∀y,Ext w.heap.size [] w y->(∀D,Ext w.heap.size [] y D->(Pure P 83 #[.agg #[.slice b c g,.slice e i j],.int .i64 d] D (Ri fun E X=>(Ix E c b fun Y=>(∃G,ae y ((Y.add ((E).toNat*7)).add 1) [.int .i64 G]/\(aM.uA f l m G (0:Int) u a p s t v x d n w.heap.size X R))))))))))):
  Pure P 159 #[.agg #[.slice b c g,.slice e i j,.slice o q r],.agg #[.string u,.int .i64 a,.slice p s t,.string v,.string x,.int .i64 d,.int .i64 n],.slice f l m] w R:=
 pr aM.cx Tryz.func159 h

def jV.cx:Pm:=([],[])
theorem jV.vc{a:Int}{w:World}{R:Kt}
  (h:(Br (a≥(1:Int)) (R (.bool (decide (a<=(9:Int)))) w) (R (.bool false) w))):
  Pure P 186 #[.int .i64 a] w R:=
 pr jV.cx Tryz.func186 h

def cI.J4(a:ByteArray)(b:Int)(c:O)(d e:Nat)(f g:ByteArray)(i j:Int)(l:Bool)(m:O)(n o:Nat)(p:O)(q r:Nat)(s:Bool)(t:O)(u v:Nat)(x:O)(y z:Nat):=Jt 187 Tryz.f187 4 [(4,.loc 4 0),(6,.loc 6 0),(7,.loc 7 0)] [⟨4,false,87,[(.string a),(.int .i64 b),(.slice c d e),(.string f),(.string g),(.int .i64 i),(.int .i64 j)]⟩,⟨6,false,166,[(.bool l),(.slice m n o),(.slice p q r)]⟩,⟨7,false,166,[(.bool s),(.slice t u v),(.slice x y z)]⟩]
def cI.cx:Pm:=([((false,4),[4,6,7],[4,6,7])],[])
theorem cI.J4.step{r a s:ByteArray}{t u v:Int}{x y z b c:O}{A C D E G H d e f g B:Nat}{I i:Bool}{w:World}{R:Kt}
  (h:(Br (a≠(⟨#[]⟩:ByteArray)) (∀j,Ext B [] w j->(Pure P 146 #[.string a] j (Rq fun J K L M N Q S T=>(Pure P 161 #[.agg #[.bool i,.slice b d e,.slice c f g],.agg #[.bool J,.slice K L M,.slice N Q S]] T (Rb fun U l=>(Bb U (∀m,Ext B [] l m->(Pure P 146 #[.string a] m (Rq fun V X Y Z a0 k a2 a3=>(Pure P 216 #[.agg #[.bool i,.slice b d e,.slice c f g],.agg #[.bool V,.slice X Y Z,.slice a0 k a2]] a3 (Rq fun a4 a5 F W a8 a9 b0 b1=>(∀n,Ext B [166] b1 n->(R (.agg #[.bool a4,.slice a5 F W,.slice a8 a9 b0]) n))))))) (Pure P 189 #[.int .i64 0] l (Rq fun b2 b3 b4 b5 b6 b7 b8 b9=>(∀o,Ext B [166] b9 o->(R (.agg #[.bool b2,.slice b3 b4 b5,.slice b6 b7 b8]) o)))))))))) (∀p,Ext B [] w p->(Pure P 189 #[.int .i64 0] p (Rq fun c0 c1 c2 c3 c4 c5 c6 c7=>(∀q,Ext B [166] c7 q->(R (.agg #[.bool c0,.slice c1 c2 c3,.slice c4 c5 c6]) q))))))):
  cI.J4 r t x A C a s u v I y D E z G H i b d e c f g B w R:=
 jr cI.cx Tryz.func187 h
theorem cI.vc{s t u b v:O}{x y z A C D c d E G:Nat}{e f a:ByteArray}{g i j:Int}{w:World}{R:Kt}
  (h:(∀H,Ext w.heap.size [] w H->(Pure P 215 #[.agg #[.slice s x y,.slice t z A,.slice u C D],.agg #[.string e,.int .i64 g,.slice b c d,.string f,.string a,.int .i64 i,.int .i64 j],.slice v E G] H (Rq fun l m n o p q r I=>(Br (a≠(⟨#[]⟩:ByteArray)) (∀J,Ext w.heap.size [] I J->(Pure P 146 #[.string a] J (Rq fun Q S T U V X Y Z=>(Pure P 161 #[.agg #[.bool Q,.slice S T U,.slice V X Y],.agg #[.bool l,.slice m n o,.slice p q r]] Z (Rb fun a0 K=>(Bb a0 (∀L,Ext w.heap.size [] K L->(Pure P 146 #[.string a] L (Rq fun k a2 a3 a4 a5 B F W=>(Pure P 216 #[.agg #[.bool l,.slice m n o,.slice p q r],.agg #[.bool k,.slice a2 a3 a4,.slice a5 B F]] W (Rq fun a9 b0 b1 b2 b3 b4 b5 b6=>(∀M,Ext w.heap.size [166] b6 M->(R (.agg #[.bool a9,.slice b0 b1 b2,.slice b3 b4 b5]) M))))))) (cI.J4 e g b c d f a i j false none 0 0 none 0 0 l m n o p q r w.heap.size K R))))))) (∀N,Ext w.heap.size [] I N->(cI.J4 e g b c d f a i j false none 0 0 none 0 0 l m n o p q r w.heap.size N R))))))):
  Pure P 187 #[.agg #[.slice s x y,.slice t z A,.slice u C D],.agg #[.string e,.int .i64 g,.slice b c d,.string f,.string a,.int .i64 i,.int .i64 j],.slice v E G] w R:=
 pr cI.cx Tryz.func187 h

def cJ.L2(a:O)(b c:Nat)(d e f:Int)(g:O)(i j:Nat)(l:O)(m n:Nat)(o:O)(p q:Nat):=Lt 188 Tryz.f188 2 [(1,.v (.slice a b c)),(2,.v (.int .i64 d)),(3,.v (.int .i64 e)),(4,.loc 4 0),(9,.v (.int .i64 f))] [⟨4,false,28,[(.slice g i j),(.slice l m n),(.slice o p q)]⟩]
def cJ.cx:Pm:=([((true,2),[1,2,3,4,9],[4])],[])
theorem cJ.L2.step{c d f n:O}{b o e g i j p q B:Nat}{l m a:Int}{w:World}{R:Kt}
  (h:(Br (a<(b:Int)) (Ix a b c fun z=>(∃r,ae w ((z.add ((a).toNat*3)).add 0) [.int .i64 r]/\(Br (r=l) (Ix a b c fun A=>(∃s,ae w ((A.add ((a).toNat*3)).add 1) [.int .i64 s]/\(∀t,Ext B [] w t->(Pure P 83 #[.agg #[.slice d e g,.slice f i j],.int .i64 s] t (Ri fun u v=>(Ix u e d fun C=>(∃x,ae w ((C.add ((u).toNat*7)).add 2) [.int .i64 x]/\(Br (x=m) (R (.bool true) v) (az .i64 (a+1)/\(cJ.L2 c b o l m (a+1) d e g f i j n p q B v R)))))))))) (az .i64 (a+1)/\(∀y,Ext B [] w y->(cJ.L2 c b o l m (a+1) d e g f i j n p q B y R)))))) (R (.bool false) w))):
  cJ.L2 c b o l m a d e g f i j n p q B w R:=
 lr cJ.cx Tryz.func188 h
theorem cJ.vc{a b c d:O}{e f g i j l m n:Nat}{o p:Int}{w:World}{R:Kt}
  (h:(∀q,Ext w.heap.size [] w q->(cJ.L2 d m n o p (0:Int) a e f b g i c j l w.heap.size q R))):
  Pure P 188 #[.agg #[.slice a e f,.slice b g i,.slice c j l],.slice d m n,.int .i64 o,.int .i64 p] w R:=
 pr cJ.cx Tryz.func188 h

def cV.L3(a:O)(b c:Nat)(d:Int)(e:O)(f g:Nat)(i:O)(j l:Nat)(m:O)(n o:Nat)(p:ByteArray)(q:Int)(r:O)(s t:Nat)(u v:ByteArray)(x y:Int)(z:Bool)(A:O)(C D:Nat)(E:O)(G H:Nat)(I:Bool)(J:O)(K L:Nat)(M:O)(N Q:Nat):=Lt 215 Tryz.f215 3 [(2,.v (.slice a b c)),(3,.loc 3 0),(4,.loc 4 0),(6,.loc 6 0),(7,.loc 7 0),(8,.v (.int .i64 d))] [⟨3,false,28,[(.slice e f g),(.slice i j l),(.slice m n o)]⟩,⟨4,false,87,[(.string p),(.int .i64 q),(.slice r s t),(.string u),(.string v),(.int .i64 x),(.int .i64 y)]⟩,⟨6,false,166,[(.bool z),(.slice A C D),(.slice E G H)]⟩,⟨7,false,166,[(.bool I),(.slice J K L),(.slice M N Q)]⟩]
def cV.cx:Pm:=([((true,3),[2,3,4,6,7,8],[3,4,6,7])],[(5,9998,8),(6,9999,3)])
theorem cV.L3.step{d e c x f y z g i:O}{j l m n b o A C p D E G H I q r s t B:Nat}{a J K L:Int}{M N Q:ByteArray}{S u:Bool}{w:World}{R:Kt}
  (h:(Br (a<(b:Int)) (Ix a b c fun k=>(∃T,ae w ((k.add ((a).toNat*7)).add 0) [.int .i64 T]/\(∀U,Ext B [] w U->(Pure P 244 #[.agg #[.slice e m n,.slice c b o],.slice d j l,.int .i64 T] U fun a2 a3=>∃V a4 a5 F W k a9,a2= .tuple #[.agg #[.string V,.string a4,.string a5,.string F,.string W,.string k],.int .i64 a9]/\(∀v,Ext B [135] a3 v->(Ix a p f fun b0=>(∃X,ae v (b0.add ((a).toNat*1)) [.string X]/\(∀Y,Ext B [] v Y->(Pure P 146 #[.string X] Y (Rq fun b1 b2 b3 b4 b5 b6 b7 b8=>(Pure P 146 #[.string V] b8 (Rq fun b9 c0 c1 c2 c3 c4 c5 c6=>(Pure P 190 #[.agg #[.bool b1,.slice b2 b3 b4,.slice b5 b6 b7],.agg #[.bool b9,.slice c0 c1 c2,.slice c3 c4 c5]] c6 (Rq fun c7 c8 c9 d0 d1 d2 d3 d4=>(Pure P 191 #[.agg #[.bool u,.slice g q r,.slice i s t],.agg #[.bool c7,.slice c8 c9 d0,.slice d1 d2 d3]] d4 (Rq fun d5 d6 d7 d8 d9 e0 e1 e2=>(az .i64 (a+1)/\(∀Z,Ext B [166] e2 Z->(cV.L3 d j l (a+1) e m n c b o x A C M J f p D N Q K L S y E G z H I d5 d6 d7 d8 d9 e0 e1 B Z R))))))))))))))))))) (∀a0,Ext B [166] w a0->(R (.agg #[.bool u,.slice g q r,.slice i s t]) a0)))):
  cV.L3 d j l a e m n c b o x A C M J f p D N Q K L S y E G z H I u g q r i s t B w R:=
 lr cV.cx Tryz.func215 h
theorem cV.vc{a b c d e:O}{f g i j l m n o p q:Nat}{r s t:ByteArray}{u v x:Int}{w:World}{R:Kt}
  (h:(∀y,Ext w.heap.size [] w y->(Pure P 189 #[.int .i64 0] y (Rq fun A C D E G H I J=>(∀z,Ext w.heap.size [] J z->(cV.L3 e p q (0:Int) a f g b i j c l m r u d n o s t v x false none 0 0 none 0 0 A C D E G H I w.heap.size z R)))))):
  Pure P 215 #[.agg #[.slice a f g,.slice b i j,.slice c l m],.agg #[.string r,.int .i64 u,.slice d n o,.string s,.string t,.int .i64 v,.int .i64 x],.slice e p q] w R:=
 pr cV.cx Tryz.func215 h

end Go.Proofs.YtgfkeadgjkfomaaGreatDoor.F

namespace Go.Proofs.YtgfkeadgjkfomaaGreatDoor.B
open Go Go.RowKit Go.Proofs Go.Proofs.YtgfkeadgjkfomaaGreatDoor.Vc

structure rN (w:World) (A0:Option Addr) (n0 c0:Nat) (A1:Option Addr) (n1 c1:Nat) (A2:Option Addr) (n2 c2:Nat) (ps:List Pa) (hs:List Ho) (xs:List Rm):Prop where
 c:wJ w A0 n0 A1 n1 ps hs
 z0:A0=none->c0=0
 z1:A1=none->c1=0
 r:cK w A2 7 (xs.map Rm.row)
 l:xs.length=n2
 n:n2<9223372036854775808
 k:n2<=c2
 f:∀x∈xs,cK w x.A 1 (x.r.iL.map zU)/\x.r.iL.length=x.n/\x.n<9223372036854775808/\(x.A=none->x.c=0)
def uF(r:Ru):Bool:=decide (r.name.size<=70/\r.low.size<=40/\r.high.size<=40/\r.iL.length<=8)&&r.iL.all fun s=>decide (s.size<=40)
def uG(ps:List Pa)(hs:List Ho)(rs:List Ru):Bool:=rs.all uF&&(BU ps hs&&decide (rs.length<=17))
section
variable {w w':World} {A0 A1 A2:Option Addr} {n0 c0 n1 c1 n2 c2:Nat} {ps:List Pa} {hs:List Ho} {xs:List Rm}
theorem rN.aj(h:rN w A0 n0 c0 A1 n1 c1 A2 n2 c2 ps hs xs)(hb:Below w.heap.size w w'):rN w' A0 n0 c0 A1 n1 c1 A2 n2 c2 ps hs xs:=
 ⟨h.c.aj hb,h.z0,h.z1,h.r.aj hb lf,h.l,h.n,h.k,fun x hx=>⟨(h.f x hx).1.aj hb lf,(h.f x hx).2⟩⟩
theorem rN.few(h:rN w A0 n0 c0 A1 n1 c1 A2 n2 c2 ps hs xs)(hf:uG ps hs (aT xs)=true):fu w A0 n0 A1 n1 A2 n2 c2 ps hs xs:=by
 unfold uG at hf;rw[eb,eb]at hf;obtain⟨h1,h2,h3⟩:=hf;have h3:=hG h3;refine⟨h.c.few h2,h.r,h.l,fun x hx=> ?_,by unfold aT at h3;rw[gv,h.l]at h3;exact h3,h.k⟩;have a:=gu.1 h1 x.r (BZ hx);unfold uF at a;rw[eb]at a;obtain⟨b,d⟩:=a;have b:=hG b;refine⟨(h.f x hx).1,(h.f x hx).2.1,⟨fun s e=> ?_,by unfold rW;omega,by unfold rW;omega,om,b.2.2.2⟩,(h.f x hx).2.2.2⟩;have:=hG (gu.1 d s e);unfold rW;omega
theorem NU{i:Nat}(hi:i<xs.length)(h:uF xs[i].r=false):uG ps hs (aT xs)=false:=by
 unfold uG;rw[all_false (x:=xs[i].r) (BZ (cd hi)) h,nZ]
theorem QA(h:rN w A0 n0 c0 A1 n1 c1 A2 n2 c2 ps hs xs):
  Pure Tryz.prog 40 #[.agg #[.slice A0 n0 c0,.slice A1 n1 c1,.slice A2 n2 c2]] w fun v _=>v= .bool (uG ps hs (aT xs)):=by
 have hl:=h.l;have hn:=h.n;have key:∀(d i:Nat)(w':World),n2 - i=d->i<=n2->Below w.heap.size w w'->(∀x∈xs.take i,uF x.r=true)->F.bE.L2 i A0 n0 c0 A1 n1 c1 A2 n2 c2 w.heap.size w' fun v _=>v= .bool (uG ps hs (aT xs)):=by
  intro d;induction d with
  |zero=>
   intro i w' D hi hw ha;rw[bx om]at ha;have E:(aT xs).all uF=true:=gu.2 fun r G=>by
    obtain⟨x,hx,rfl⟩:=kc.1 G;exact ha x hx
   refine F.bE.L2.step ⟨fun h=>by omega,fun _=>pm (Qc (h.aj hw).c) ?_⟩;rintro v R _ rfl;unfold uG;rw[E,lI];refine⟨_,rfl,fun k=> ?_,fun k=> ?_⟩
   ·rw[k,lI];refine dB Value.bool ?_;rw[jB];unfold aT;rw[gv];omega
   ·rw[k,nZ]
  |succ d ih=>
   intro i w' D hi hw ha;have q:i<xs.length:=om;have H:=sc i;obtain⟨hb,a,B,g,_⟩:=((h.aj hw).r).at_ (fun _=>rfl) hl q;obtain⟨f1,f2,f3,_⟩:=h.f _ (cd q);have bad:uF xs[i].r=false->∀m:World,(fun(v:Value) (_:World)=>v= .bool (uG ps hs (aT xs))) (.bool false) m:=fun k _=>by
    show Value.bool false=_;rw[NU q k]
   have y:¬(xs[i].r.name.size<=70/\xs[i].r.low.size<=40/\xs[i].r.high.size<=40/\xs[i].r.iL.length<=8)->uF xs[i].r=false:=fun k=>by
    unfold uF;rw[eh k,nZ]
   refine F.bE.L2.step ⟨fun _=>⟨hb,a,B,_,_,_,_,_,_,_,_,_,g,fun I m _=>bad (y om) m,fun I=>⟨fun J m _=>bad (y om) m,fun J=>⟨fun K m _=>bad (y om) m,fun K=>⟨fun L m _=>bad (y om) m,fun L M N=> ?_⟩⟩⟩⟩,fun h=>by omega⟩;have inner:∀(e j:Nat)(w':World),xs[i].n - j=e->j<=xs[i].n->Below w.heap.size w w'->(∀s∈xs[i].r.iL.take j,decide (s.size<=40)=true)->F.bE.L8 i j A0 n0 c0 A1 n1 c1 A2 n2 c2 xs[i].r.name xs[i].r.kind xs[i].A xs[i].n xs[i].c xs[i].r.low xs[i].r.high xs[i].r.a xs[i].r.b w.heap.size w' fun v _=>v= .bool (uG ps hs (aT xs)):=by
    intro e;induction e with
    |zero=>
     intro j w' he hj hw z;rw[bx om]at z;refine F.bE.L8.step ⟨fun h=>by omega,fun _=>⟨ir,?_⟩⟩;rw[H];refine ih (i+1) w' om om hw fun x hx=> ?_
     rw[eN,af q]at hx;rcases h8.1 hx with hx|hx
     ·exact ha x hx
     ·simp only[rT,gb]at hx;subst hx;unfold uF;rw[fc (show _ from⟨om,om,om,om⟩),lI];exact gu.2 z
    |succ e O=>
     intro j w' he hj hw z;have C:j<xs[i].r.iL.length:=om;have P:=sc j;obtain⟨hb,a,B,g,_⟩:=(f1.aj hw lf).at_ (fun _=>rfl) f2 C;refine F.bE.L8.step ⟨fun _=>⟨hb,a,B,_,g,fun k=>bad ?_ w',fun k=>⟨ir,?_⟩⟩,fun h=>by omega⟩
     ·unfold uF;rw[all_false (x:=xs[i].r.iL[j]) (cd C) (eh om),AG]
     ·rw[P];refine O (j+1) w' om om hw fun s o=> ?_
      rw[eN,af C]at o;rcases h8.1 o with o|o
      ·exact z s o
      ·simp only[rT,gb]at o;subst o;exact fc om
   exact inner xs[i].n 0 M rfl om (kE hw N) sm
 exact F.bE.vc fun w1 Q=>key n2 0 w1 rfl om (k0 Q) sm

theorem NV:El Tryz.prog 26 87 7 96:=El.of kF
theorem bF.z{w:World}{B ty:Nat}{A:Option Addr}{n c sz:Nat}{rows:List (List Value)}(h:bF w B ty A n c sz rows)(a:A=none):c=0:=by
 subst a;rcases h.1.2 with⟨h1,_⟩|⟨g,cap,cur,h1,_⟩
 ·cases h1;rfl
 ·cases h1
def Kq(w w':World):Prop:=∀(i ty:Nat)(cs:Array Value),ty≠87->ty≠28->w.heap[i]? =some (.cells cs ty (0,0))->w'.heap[i]? =some (.cells cs ty (0,0))
theorem Kq.trans{w w1 a:World}(h:Kq w w1)(k:Kq w1 a):Kq w a:=fun i ty cs h1 h2 e=>k i ty cs h1 h2 (h i ty cs h1 h2 e)
theorem Kq.low{w w':World}(h:Below w.heap.size w w'):Kq w w':=fun i ty cs _ _ e=>bK e h
theorem Kq.ext{B:Nat}{w w':World}(x:Ext B [28] w w'):Kq w w':=fun i ty cs _ h2 e=>by
 rcases x.other i (bU.1 e).1 with q|⟨t,a,c,c',fr,q,_⟩
 ·exact q.trans e
 ·rw[e]at q;cases q;exact absurd (gb.1 a) h2
theorem Kq.wrote{w w':World}{b:Nat}{cs a:List Value}(hw:dd w w' b 87 cs)(h0:w.heap[b]? =some (.cells a.toArray 87 (0,0))):Kq w w':=fun i ty c h1 _ e=>by
 rw[hw.rest i fun q=> ?_]
 ·exact e
 ·subst q;rw[h0]at e;cases e;exact h1 rfl
theorem Kq.grown{w w':World}{B:Nat}{A:Option Addr}{n c sz:Nat}{rows:List (List Value)}(ho:bF w B 87 A n c sz rows)(d:w.grownBy w' (Value.ownBlock (.slice A n c))):Kq w w':=fun i ty cs h1 _ e=>by
 rw[d.block i (bU.1 e).1 fun q=> ?_]
 ·exact e
 ·cases A with
  |none=>cases q
  |some a=>
   obtain⟨g,b⟩:=ho.cells a rfl;cases q;rw[e]at b;cases b;exact h1 rfl
theorem bF.kq{w w':World}{B ty:Nat}{A:Option Addr}{n c sz:Nat}{rows:List (List Value)}(h:bF w B ty A n c sz rows)(k:Kq w w')(h1:ty≠87)(h2:ty≠28):bF w' B ty A n c sz rows:=
 h.other fun a ha=>by
  obtain⟨cs,e⟩:=h.cells a ha;rw[e];exact k _ _ _ h1 h2 e
structure GG (w:World) (A0:Option Addr) (n0:Nat) (A1:Option Addr) (n1:Nat) (A2:Option Addr) (n2:Nat) (ps:List Pa) (hs:List Ho) (xs:List Rm):Prop where
 c:wL w A0 n0 A1 n1 ps hs
 r:cK w A2 7 (xs.map Rm.row)
 l:xs.length=n2
 n:n2*96<=140737488355328
 f:∀x∈xs,cK w x.A 1 (x.r.iL.map zU)/\x.r.iL.length=x.n/\x.n*16<=140737488355328/\(x.A=none->x.c=0)
theorem GG.aj(h:GG w A0 n0 A1 n1 A2 n2 ps hs xs)(hb:Below w.heap.size w w'):GG w' A0 n0 A1 n1 A2 n2 ps hs xs:=
 ⟨h.c.aj hb,h.r.aj hb lf,h.l,h.n,fun x hx=>⟨(h.f x hx).1.aj hb lf,(h.f x hx).2⟩⟩
theorem fu.fit(h:fu w A0 n0 A1 n1 A2 n2 c2 ps hs xs):GG w A0 n0 A1 n1 A2 n2 ps hs xs:=
 ⟨h.c.fit,h.r,h.l,by have:=h.n;omega,fun x hx=>⟨(h.f x hx).f,(h.f x hx).l,by have:=(h.f x hx).s.len;have:=(h.f x hx).l;omega,(h.f x hx).z⟩⟩
def CpR(B:Nat)(n0 n1 n2:Nat)(ps:List Pa)(hs:List Ho)(xs:List Rm)(v:Value)(w':World):Prop:=
 ∃B0 d0 b d1 d d2 a,v= .agg #[.slice B0 n0 d0,.slice b n1 d1,.slice d n2 d2]/\bF w' B 65 B0 n0 d0 7 (ps.map Pa.row)/\bF w' B 61 b n1 d1 7 (hs.map Ho.row)/\
  bF w' B 87 d n2 d2 7 (a.map Rm.row)/\aT a=aT xs/\∀y∈a,bF w' B 57 y.A y.n y.c 1 (y.r.iL.map zU)
theorem KV(h:GG w A0 n0 A1 n1 A2 n2 ps hs xs)(M:A0=none->c0=0)(N:A1=none->c1=0):
  Pure Tryz.prog 17 #[.agg #[.slice A0 n0 c0,.slice A1 n1 c1,.slice A2 n2 c2]] w (CpR w.heap.size n0 n1 n2 ps hs xs):=by
 have hl:=h.l;have hn:=h.n;refine F.cQ.vc fun w1 x1=> ?_
 have hw:=k0 x1;refine pm (CC (h.aj hw).c M N) ?_;rintro v w5 b5 ⟨B0,d0,B1,d1,rfl,o0,o1⟩;have lA:=kP hw b5;refine⟨_,_,_,_,_,_,rfl,fun w6 x6=> ?_⟩;have key:∀(d i:Nat)(C:Option Addr)(no co:Nat)(b:List Rm)(w':World),n2 - i=d->i<=n2->Below w.heap.size w w'->Kq w5 w'->bF w' w.heap.size 87 C no co 7 (b.map Rm.row)->aT b=aT (xs.take i)->(∀y∈b,bF w' w.heap.size 57 y.A y.n y.c 1 (y.r.iL.map zU))->
   F.cQ.L3 i A0 n0 c0 A1 n1 c1 A2 n2 c2 none 0 0 none 0 0 none 0 0 B0 n0 d0 B1 n1 d1 C no co w.heap.size w' (CpR w.heap.size n0 n1 n2 ps hs xs):=by
  intro d;induction d with
  |zero=>
   intro i C no co b w' hd hi hb K ho e hy;rw[bx om]at e;refine F.cQ.L3.step ⟨fun h=>by omega,fun _ PC YI=> ?_⟩;have j:=Kq.ext YI;have ho:=ho.ML YI dc;have U3:no=n2:=by
    have h1:=ho.len;rw[gv]at h1;have:=dB List.length e;unfold aT at this;rw[gv,gv]at this;omega
   subst U3;have hyl:b.length=no:=by have:=ho.len;rwa [gv]at this
   have p0:=o0.kq (K.trans j) dc dc;have p1:=o1.kq (K.trans j) dc dc;exact⟨_,_,_,_,_,_,b,rfl,p0.base hw.size,p1.base hw.size,ho,e,fun y k=>(hy y k).kq j dc dc⟩
  |succ d ih=>
   intro i C no co b w' hd hi hb K ho e hy;have O:i<xs.length:=om;have e3:=sc i;have P:=h.f _ (cd O);obtain⟨Vt,Kn,af4,Q⟩:=P;have U3:no=i:=by
    have h1:=ho.len;rw[gv]at h1;have:=dB List.length e;unfold aT at this;rw[gv,gv,fs]at this;omega
   obtain⟨tU,a,hA,m,_⟩:=(h.aj hb).r.at_ (fun _=>rfl) hl O;refine F.cQ.L3.step ⟨fun _=>⟨tU,a,hA,_,_,_,_,_,_,_,_,_,m,?_⟩,fun h=>by omega⟩;refine pC (z:= .agg #[.string ⟨#[]⟩,.int .i64 0,.slice none 0 0,.string ⟨#[]⟩,.string ⟨#[]⟩,.int .i64 0,.int .i64 0]) _ kF hb.size fun Al WH R l15=> ?_
   refine⟨[.string ⟨#[]⟩,.int .i64 0,.slice none 0 0,.string ⟨#[]⟩,.string ⟨#[]⟩,.int .i64 0,.int .i64 0],_,hb.size,rfl,WH,sm,rfl,fun g D=> ?_⟩;have S:=kP hb R;have E:Below w.heap.size w g:=S.trans (dd.sP D hb.size);have G:Kq w' g:=(Kq.low R).trans (Kq.wrote D WH);have T:bF g w.heap.size 87 C no co 7 (b.map Rm.row):=(ho.below R).other fun a ha=>D.rest _ fun q=>by
    have:=(ho.sA a ha).2;have q:a.block=w'.heap.size:=q;omega
   refine dx wy [] sm sm E.size fun Af cf tV of H=> ?_
   have QC:=kP E H;have WI:=bK D.at_ H;refine⟨_,_,_,fX WI rfl,?_⟩;refine tG wy (B:=g.heap.size) E.size (by simpa using of) (Vt.aj QC lf) (by simpa using Kn) (fun r e=>by obtain⟨s,_,rfl⟩:=kc.1 e;rfl) (fun r e=>by obtain⟨s,_,rfl⟩:=kc.1 e;intro u hu;simp[zU]at hu;subst hu;rfl) Q H.size (by simp;omega) (by simp;omega) dc fun Ag cg Le U gg bg=> ?_
   simp only[ot,oi,nN]at U⊢;have L:Below g.heap.size g Le:=H.trans (Bc (B:=g.heap.size) (by simpa using of) gg H.size);have V:=kP E L;have Rw:=bK D.at_ L;have W:=T.below L;have e2:(⟨w'.heap.size,0,none⟩:Addr).add 2=⟨w'.heap.size,2,none⟩:=by rw[eX]
   rw[e2];refine⟨_,_,hb.size,rfl,Rw,by simp[setCells],rfl,fun X I=> ?_⟩;have WJ:Below w.heap.size w X:=V.trans (dd.sP I hb.size);have J:Kq g X:=(Kq.low L).trans (Kq.wrote I Rw);have WK:bF X w.heap.size 87 C no co 7 (b.map Rm.row):=W.other fun a ha=>I.rest _ fun q=>by
    have:=(ho.sA a ha).2;have q:a.block=w'.heap.size:=q;omega
   have Y:=U.other fun a ha=>I.rest _ fun q=>by
    have:=(U.sA a ha).1;have q:a.block=w'.heap.size:=q;have:=D.size;omega
   refine⟨_,_,_,_,_,_,_,_,_,lV I.at_,?_⟩;refine MU NV lf WK (x:=Rm.val ⟨xs[i].r,Ag,xs[i].n,cg⟩) rfl (by simp[Value.cells,dA]) WJ.size om om dc fun A3 c3 w43 Z g43 b43=>⟨ir,fun Nf UI=> ?_⟩
   have k43:=Kq.grown WK g43;have o:=(k43.trans (Kq.ext UI));rw[e3];refine ih (i+1) A3 (no+1) c3 (b++[⟨xs[i].r,Ag,xs[i].n,cg⟩]) Nf om om (kE (WJ.trans b43) UI) (((K.trans G).trans J).trans o) ?_ ?_ ?_
   ·rw[lx];exact Z.ML UI dc
   ·rw[<-tO O,<-e];unfold aT;rw[lx];rfl
   ·intro y k;rcases h8.1 k with k|k
    ·exact(hy y k).kq ((G.trans J).trans o) dc dc
    ·rw[gb.1 k];exact(Y.kq o dc dc).base E.size
 exact key n2 0 none 0 0 [] w6 rfl om (kE lA x6) (Kq.low (yJ x6)) bF.nil rfl sm
theorem NW(h:fu w A0 n0 A1 n1 A2 n2 c2 ps hs xs)(d:A0=none->c0=0)(g:A1=none->c1=0):
  Pure Tryz.prog 17 #[.agg #[.slice A0 n0 c0,.slice A1 n1 c1,.slice A2 n2 c2]] w fun v w'=>∃B0 d0 b d1 i d2 a,v= .agg #[.slice B0 n0 d0,.slice b n1 d1,.slice i n2 d2]/\fu w' B0 n0 b n1 i n2 d2 ps hs a/\aT a=aT xs/\bF w' w.heap.size 61 b n1 d1 7 (hs.map Ho.row):=by
 refine pm (KV h.fit d g) ?_;rintro v w' _ ⟨B0,d0,b,d1,i,d2,a,rfl,l,o1,j,e,of⟩;have k:a.length=n2:=by have:=j.len;rwa [gv]at this
 refine⟨_,_,_,_,_,_,a,rfl,⟨⟨l.sl,o1.sl,h.c.lp,h.c.lh,h.c.sp,h.c.sh,h.c.np,h.c.nh⟩,j.sl,k,fun y hy=> ?_,h.n,j.gV⟩,e,o1⟩;have hm:y.r∈aT xs:=by rw[<-e];exact BZ hy
 obtain⟨x,hx,ex⟩:=kc.1 hm;have ho:=of y hy;have:=ho.len;rw[gv]at this;exact⟨ho.sl,this,by rw[<-ex];exact(h.f x hx).s,ho.z⟩
end

theorem eY{al:Nat->Bool}{n:Nat}{S:List Int}:gx al n S=true↔(S.Pairwise fun a b=>a<b)/\(∀s∈S,0<=s/\s<(di n:Nat))/\(0:Int)∈S/\∀s∈S,∀i,i<n->((eG s.toNat i:Nat):Int)∈S∨al (eG s.toNat i)=false:=by
 unfold gx;simp only[eb,gu,nC,zw,jA,xt,tW,and_assoc]
section
variable {w0 wb w:World} {A0 A1 A2 A A3 A5:Option Addr} {n0 c0 n1 c1 n2 c2 n c n3 c3 n5 c5:Nat} {ps:List Pa} {hs:List Ho} {xs:List Rm} {l works:List Sw} {k:Tk} {o S:List Int}
theorem IP(M:cT w0){B:Nat}{f:Int->Option Bool}(N:k.n3<=6)(O:cK w0 A5 1 (S.map dy))(P:S.length=n5)(NS:n5<2147483648)(hf:∀z:Nat,(f (z:Int)).getD false=decide ((z:Int)∈S))(hp:S.Pairwise fun a b=>a<b)(ha:∀s∈S,0<=s/\s<(di k.n3:Nat))(h0:(0:Int)∈S):
  ∀(d j:Nat)(w':World),n5 - j=d->j<=n5->vC w0 wb k ps hs xs l works w'->Own wb B f w'->(∀s∈S.take j,∀i,i<k.n3->((eG s.toNat i:Nat):Int)∈S∨aP ps hs (aT xs) l works (eG s.toNat i)=false)->
   F.aL.tJ A3 k.n3 c3 (some k.p) (some B) A5 n5 c5 n5 j w0.heap.size w' fun v _=>v= .int .i64 (if gx (aP ps hs (aT xs) l works) k.n3 S=true then 0 else 14):=by
 have Ll:=oX _ N;have Bo:=iK k.n3;intro d;induction d with
 |zero=>
  intro j w' Q hj r hm E;rw[bx om]at E;refine F.aL.tJ.step ⟨fun h=>by omega,fun _=> ?_⟩;rw[cc (eY.2 ⟨hp,ha,h0,E⟩)]
 |succ d ih=>
  intro j w' Q hj r hm E;have H:j<S.length:=om;have R:=sc j;obtain⟨T,U,V,y,_⟩:=(O.aj r.b lf).at_ (fun _=>rfl) P H;have L:=cd H;have I:=ha _ L;obtain⟨s,J⟩:=pj I.1;refine F.aL.tJ.step ⟨fun _=>⟨T,U,V,_,y,?_⟩,fun h=>by omega⟩;have inner:∀(e i:Nat)(w':World),k.n3 - i=e->i<=k.n3->vC w0 wb k ps hs xs l works w'->Own wb B f w'->(∀g,g<i->((eG s g:Nat):Int)∈S∨aP ps hs (aT xs) l works (eG s g)=false)->
    F.aL.Qx A3 k.n3 c3 (some k.p) (some B) s A5 n5 c5 n5 j k.n3 i w0.heap.size w' fun v _=>v= .int .i64 (if gx (aP ps hs (aT xs) l works) k.n3 S=true then 0 else 14):=by
   intro e;induction e with
   |zero=>
    intro i w' he hi r hm K;refine F.aL.Qx.step ⟨fun h=>by omega,fun _=>⟨ir,?_⟩⟩;rw[R];refine ih (j+1) w' om om r hm fun x hx g G=> ?_
    rw[eN,af H]at hx;rcases h8.1 hx with hx|hx
    ·exact E x hx g G
    ·simp only[rT,gb]at hx;subst hx;rw[J,dq];exact K g om
   |succ e W=>
    intro i w' he hi r hm K;have X:=sc i;have Y:=ou (s:=s) (i:=i) (n:=6) om om;have go:∀C,vC w0 wb k ps hs xs l works C->Own wb B f C->(((eG s i:Nat):Int)∈S∨aP ps hs (aT xs) l works (eG s i)=false)->az .i64 ((i:Int)+1)/\F.aL.Qx A3 k.n3 c3 (some k.p) (some B) s A5 n5 c5 n5 j k.n3 ((i:Int)+1) w0.heap.size C fun v _=>v= .int .i64 (if gx (aP ps hs (aT xs) l works) k.n3 S=true then 0 else 14):=by
     intro C Z Ue hx;refine⟨ir,?_⟩;rw[X];refine W (i+1) C om om Z Ue fun g G=> ?_
     rcases Nat.lt_or_eq_of_le (Nat.le_of_lt_succ G)with h|h
     ·exact K g h
     ·rw[h];exact hx
    refine F.aL.Qx.step ⟨fun _=>⟨kt om,?_⟩,fun h=>by omega⟩;rw[mm _ om,vu _ om _ om];refine rz hm.m OJ om om ?_;rw[hf];refine⟨fun h1=> ?_,fun h1=>go w' r hm (.inl (hG (hP _|>.mp h1)))⟩;refine r.allowed M om fun wZ D bt cl=>⟨fun _ _ _ h=>(by cases h),_,rfl,fun h2=> ?_,fun h2=>go wZ D (hm.but bt D.m) (.inr h2)⟩
    rw[ar];intro hc;have:=(eY.1 hc).2.2.2 _ L i om;rw[J,dq]at this;rcases this with q|q
    ·exact kd h1 q
    ·rw[h2]at q;cases q
  have:=inner k.n3 0 w' rfl om r hm (fun g G=>by omega);rw[J];exact this
theorem Be(P:cT w)(hp:fu w A0 n0 A1 n1 A2 n2 c2 ps hs xs)(h:cK w A 3 (l.map Sw.row))(hl:l.length=n)(U:n<=c)(hn:n<=40)(V:cK w A3 3 (works.map Sw.row))(W:works.length=n3)(H:cK w A5 1 (S.map dy))(I:S.length=n5)(X:n5<2147483648):
  Pure Tryz.prog 30 #[.agg #[.slice A0 n0 c0,.slice A1 n1 c1,.slice A2 n2 c2],.slice A n c,.slice A3 n3 c3,.slice A5 n5 c5] w fun v _=>v= .int .i64 (wO ps hs (aT xs) l works S):=by
 refine F.aL.vc fun w1 Y=> ?_
 have hw:=k0 Y;refine pm (qI (P.next hw) (hp.aj hw) (h.aj hw lf) hl U hn (V.aj hw lf) W) ?_;intro v r Z hv;have lA:=kP hw Z;unfold wO;by_cases h0:fJ ps hs (aT xs) l works≠0
 ·rw[cc h0];have hv:=hv.1 h0;subst hv;exact⟨_,_,rfl,fun _=>rfl,fun k=>absurd h0 k⟩
 rw[ar h0];obtain⟨k,hv,J,La⟩:=hv.2 (ep.1 h0);subst hv;have Mm:=J.ok.n;have K:=J.lw;have Ll:=oX k.n3 om;have Bo:=iK k.n3;have run:vC w r k ps hs xs l works r:= .new lA J (La.le hw.size);have en:n3=k.n3:=om;subst en;rw[K];refine⟨_,_,rfl,fun q=>absurd rfl q,fun _=> ?_⟩;refine nz (tk:=3) (te:=4) run.b.size fun w8 m8 b8=> ?_
 have r8:=run.aj b8;have key:∀(d j:Nat)(f:Int->Option Bool)(w':World),n5 - j=d->j<=n5->vC w r k ps hs xs l works w'->Own r r.heap.size f w'->(∀z:Nat,(f (z:Int)).getD false=decide ((z:Int)∈S.take j))->((S.take j).Pairwise fun a b=>a<b)->(∀s∈S.take j,0<=s/\s<(di k.n3:Nat))->
   F.aL.L6 A3 k.n3 c3 A5 n5 c5 (some k.p) (some r.heap.size) A5 n5 c5 n5 j w.heap.size w' fun v _=>v= .int .i64 (if gx (aP ps hs (aT xs) l works) k.n3 S=true then 0 else 14):=by
  intro d;induction d with
  |zero=>
   intro j f w' hd hj x hm hf C y;rw[bx om]at hf C y;refine F.aL.L6.step ⟨fun h=>by omega,fun _=>rz hm.m OJ (z:=0) om om ?_⟩;have Jg:(f 0).getD false=decide ((0:Int)∈S):=hf 0;rw[Jg];refine⟨fun h1=> ?_,fun h1=> ?_⟩
   ·rw[ar];intro D;exact kd h1 (eY.1 D).2.2.1
   ·exact IP P om H I X hf C y (hG (hP _|>.mp h1)) n5 0 w' rfl om x hm sm
  |succ d ih=>
   intro j f w' hd hj x hm hf C y;have E:j<S.length:=om;have e3:=sc j;have ic:=cd E;have L:S.take (j+1)=S.take j++[S[j]]:=by rw[eN,af E];rfl
   obtain⟨tU,ad,hA,B,_⟩:=(H.aj x.b lf).at_ (fun _=>rfl) I E;have bad:¬(0<=S[j]/\S[j]<(di k.n3:Nat))->(Value.int .i64 14= .int .i64 (if gx (aP ps hs (aT xs) l works) k.n3 S=true then 0 else 14)):=fun q=>by
    rw[ar];intro D;exact q ((eY.1 D).2.1 _ ic)
   refine F.aL.L6.step ⟨fun _=>⟨tU,ad,hA,_,B,fun h1=>bad om,fun h1=> ?_⟩,fun h=>by omega⟩;refine pm (tQ x.t.t om) ?_;rintro v Q R rfl;have M:=x.aj R;have m13:=hm.low R;refine⟨_,rfl,fun h2=>bad om,fun h2=> ?_⟩;have go:∀(w':World),vC w r k ps hs xs l works w'->Own r r.heap.size f w'->(∀s∈S.take j,s<S[j])->jz Tryz.prog (Instr.mapUpdate 90 (.map (some r.heap.size)) (.int .i64 S[j]) (.bool true)) w.heap.size [] w' fun N=>az .i64 ((j:Int)+1)/\F.aL.L6 A3 k.n3 c3 A5 n5 c5 (some k.p) (some r.heap.size) A5 n5 c5 n5 ((j:Int)+1) w.heap.size N fun v _=>v= .int .i64 (if gx (aP ps hs (aT xs) l works) k.n3 S=true then 0 else 14):=by
    intro w' x hm O;refine mj hm.m OJ om om true x.lo x.b.size fun N m16 _ g16=>⟨ir,?_⟩
    rw[e3];refine ih (j+1) _ N om om (x.hi (bS g16 (fun i hi=>by cases hi;exact hm.m.1) x.c.size)) ⟨m16⟩ (fun z=> ?_) ?_ ?_
    ·rw[L];unfold vr;by_cases G:(z:Int)=S[j]
     ·rw[cc G];exact(fc (List.mem_append_right _ (by rw[G];exact gb.2 rfl))).symm
     ·rw[ar G,hf,jB];refine⟨fun q=>List.mem_append_left _ q,fun q=> ?_⟩;rcases h8.1 q with q|q
      ·exact q
      ·exact absurd (gb.1 q) G
    ·rw[L,uS];exact⟨C,sm,fun a ha b hb=>by rw[gb.1 hb];exact O a ha⟩
    ·rw[L];intro s g;rcases h8.1 g with g|g
     ·exact y s g
     ·rw[gb.1 g];omega
   refine⟨fun h3=> ?_,fun h3=>go Q M m13 fun s g=>by
    have e:S.take j=[]:=gz (by rw[fs];omega);rw[e]at g;cases g⟩
   have T:j - 1<S.length:=om;have ej:(j:Int) - 1=((j - 1:Nat):Int):=om;rw[ej];obtain⟨Gc,ap,BW,Ny,_⟩:=(H.aj M.b lf).at_ (fun _=>rfl) I T;refine⟨ir,Gc,ap,BW,_,Ny,fun h4=> ?_,fun h4=>go Q M m13 fun s g=> ?_⟩
   ·rw[ar];intro D;have:=za.1 (eY.1 D).1 (j - 1) j T E om;omega
   ·have uk:∀s∈S.take j,s<=S[j - 1]:=by
     intro s g;obtain⟨i,hi,rfl⟩:=List.mem_iff_getElem.1 g;rw[fs]at hi;by_cases e:i=j - 1
     ·subst e;rw[ve];exact PL _
     ·have:=za.1 C i (j - 1) (by rw[fs];omega) (by rw[fs];omega) om;rw[ve,ve]at this;rw[ve];omega
    have:=uk s g;omega
 exact key n5 0 _ w8 rfl om r8 ⟨m8⟩ (fun z=>by simp) sm sm
end

abbrev b1(v:Value)(ty:Nat):Obj:= .cells [v].toArray ty (0,0)
structure Ew (w0 wb:World) (k:Tk) (md q0 q1 q2 q3 q4:Nat) (ps:List Pa) (hs:List Ho) (xs:List Rm) (l works:List Sw) (w:World) (A:Option Addr) (n c:Nat) (o:List Int):Prop where
 r:vC w0 wb k ps hs xs l works w
 h0:w.heap[q0]? =some (b1 (.pointer (some k.p)) 79)
 h1:w.heap[q1]? =some (b1 (.map (some md)) 90)
 h2:∃A c,w.heap[q2]? =some (b1 (.slice A k.n3 c) 30)
 h3:w.heap[q3]? =some (b1 (.slice A n c) 48)
 h4:w.heap[q4]? =some (b1 (.func (.func 52) #[] #[.pointer (some ⟨q0,0,none⟩),.pointer (some ⟨q1,0,none⟩),.pointer (some ⟨q2,0,none⟩),.pointer (some ⟨q3,0,none⟩),.pointer (some ⟨q4,0,none⟩)]) 91)
 hi:wb.heap.size<=q3
 own:bF w wb.heap.size 3 A n c 1 (o.map dy)
 d:∃f,rL w w0.heap.size 3 4 md f/\∀s:Nat,f (s:Int)=some true->¬NB (aP ps hs (aT xs) l works) k.n3 s
 dl:md<wb.heap.size
 ne:md≠k.m
def Kp(w w':World):Prop:=∀(i ty:Nat)(cs:Array Value),ty≠48->ty≠3->w.heap[i]? =some (.cells cs ty (0,0))->w'.heap[i]? =some (.cells cs ty (0,0))
theorem Kp.trans{w w1 a:World}(h:Kp w w1)(k:Kp w1 a):Kp w a:=fun i ty cs h1 h2 e=>k i ty cs h1 h2 (h i ty cs h1 h2 e)
theorem Kp.cl{w w':World}(h:Cl w w'):Kp w w':=fun i ty cs _ _ e=>h.cells i cs ty _ e
section
variable {w0 wb w:World} {k:Tk} {md q0 q1 q2 q3 q4:Nat} {ps:List Pa} {hs:List Ho} {xs:List Rm} {l works:List Sw} {A:Option Addr} {n c:Nat} {o:List Int}
theorem Ew.cl{w w':World}(g:Ew w0 wb k md q0 q1 q2 q3 q4 ps hs xs l works w A n c o)(b:vC w0 wb k ps hs xs l works w')(a:Cl w w')(e:w'.heap[md]? =w.heap[md]?):Ew w0 wb k md q0 q1 q2 q3 q4 ps hs xs l works w' A n c o:=by
 obtain⟨f,f1,f2⟩:=g.d;obtain⟨h,i,h2⟩:=g.h2;exact⟨b,a.cells _ _ _ _ g.h0,a.cells _ _ _ _ g.h1,⟨h,i,a.cells _ _ _ _ h2⟩,a.cells _ _ _ _ g.h3,a.cells _ _ _ _ g.h4,g.hi,g.own.cl a,⟨f,f1.same e,f2⟩,g.dl,g.ne⟩
theorem Ew.mlt(g:Ew w0 wb k md q0 q1 q2 q3 q4 ps hs xs l works w A n c o):md<w.heap.size:=jK g.dl g.r.c.size
theorem Ew.low{w w':World}(g:Ew w0 wb k md q0 q1 q2 q3 q4 ps hs xs l works w A n c o)(hb:Below w.heap.size w w'):Ew w0 wb k md q0 q1 q2 q3 q4 ps hs xs l works w' A n c o:=
 g.cl (g.r.aj hb) (Cl.low hb) (hb.block _ g.mlt)
theorem Ew.kp{w w':World}(g:Ew w0 wb k md q0 q1 q2 q3 q4 ps hs xs l works w A n c o)(hb:Below wb.heap.size w w')(a:Kp w w'){A':Option Addr}{n' c':Nat}{o':List Int}(h3:w'.heap[q3]? =some (b1 (.slice A' n' c') 48))(ho:bF w' wb.heap.size 3 A' n' c' 1 (o'.map dy)):Ew w0 wb k md q0 q1 q2 q3 q4 ps hs xs l works w' A' n' c' o':=by
 obtain⟨f,f1,f2⟩:=g.d;obtain⟨b,e,h2⟩:=g.h2;exact⟨g.r.hi hb,a _ _ _ dc dc g.h0,a _ _ _ dc dc g.h1,⟨b,e,a _ _ _ dc dc h2⟩,h3,a _ _ _ dc dc g.h4,g.hi,ho,⟨f,f1.same (hb.block _ g.dl),f2⟩,g.dl,g.ne⟩
theorem Ew.put{w w':World}(g:Ew w0 wb k md q0 q1 q2 q3 q4 ps hs xs l works w A n c o){w1:World}{A1:Option Addr}{n1 c1:Nat}{o1:List Int}(hb:Below wb.heap.size w w1)(d:Kp w w1)(h3:w1.heap[q3]? =some (b1 (.slice A n c) 48))(ho:bF w1 wb.heap.size 3 A1 n1 c1 1 (o1.map dy))(hw:dd w1 w' q3 48 [.slice A1 n1 c1]):
  Ew w0 wb k md q0 q1 q2 q3 q4 ps hs xs l works w' A1 n1 c1 o1/\Kp w w':=by
 have b:Kp w1 w':=fun i ty cs hy _ e=>by
  rw[hw.rest i fun q=> ?_]
  ·exact e
  ·subst q;rw[h3]at e;cases e;exact hy rfl
 refine⟨g.kp (hb.trans (dd.sP hw g.hi)) (d.trans b) hw.at_ (ho.other fun a ha=>hw.rest _ fun q=> ?_),d.trans b⟩;obtain⟨cs,e⟩:=ho.cells a ha;rw[q,h3]at e;cases e
theorem TJ{w w':World}(ho:bF w wb.heap.size 3 A n c 1 (o.map dy))(d:w.grownBy w' (Value.ownBlock (.slice A n c))):Kp w w':=fun i ty cs _ hy e=>by
 rw[d.block i (bU.1 e).1 fun q=> ?_]
 ·exact e
 ·cases A with
  |none=>cases q
  |some a=>
   obtain⟨g,b⟩:=ho.cells a rfl;cases q;rw[e]at b;cases b;exact hy rfl
theorem TK{w w':World}(ho:bF w wb.heap.size 3 A n c 1 (o.map dy))(d:w.grownBy w' (Value.ownBlock (.slice A n c))){q:Nat}{v:Value}(h:w.heap[q]? =some (b1 v 48)):w'.heap[q]? =some (b1 v 48):=by
 rw[d.block q (bU.1 h).1 fun e=> ?_]
 ·exact h
 ·cases A with
  |none=>cases e
  |some a=>
   obtain⟨g,b⟩:=ho.cells a rfl;cases e;rw[h]at b;cases b
theorem GH{s i:Nat}:eG s i=s↔s.testBit i=true:=by
 constructor
 ·intro h;have:=nH s i i;rw[h]at this;rw[this];simp
 ·intro h;refine EZ fun j=> ?_
  rw[nH];by_cases e:i=j
  ·subst e;rw[h];rfl
  ·simp[e]
def GoR(w0 wb:World)(k:Tk)(md q0 q1 q2 q3 q4:Nat)(ps:List Pa)(hs:List Ho)(xs:List Rm)(l works:List Sw)(w:World)(o:List Int)(r:Option (List Nat))(v:Value)(w':World):Prop:=
 Kp w w'/\∃A n c,(r=none->v= .bool false/\Ew w0 wb k md q0 q1 q2 q3 q4 ps hs xs l works w' A n c o)/\∀x,r=some x->v= .bool true/\Ew w0 wb k md q0 q1 q2 q3 q4 ps hs xs l works w' A n c (o++x.map fun(i:Nat)=>(i:Int))
theorem go1(hg:cT w0)(L:k.n3<=6):∀(d s:Nat)(w:World)(A:Option Addr)(n c:Nat)(o:List Int),nI k.n3 s<=d->s<2^k.n3->n+nI k.n3 s<=6->Ew w0 wb k md q0 q1 q2 q3 q4 ps hs xs l works w A n c o->
  dZ Tryz.prog 52 #[.int .i64 (s:Int),.pointer (some ⟨q0,0,none⟩),.pointer (some ⟨q1,0,none⟩),.pointer (some ⟨q2,0,none⟩),.pointer (some ⟨q3,0,none⟩),.pointer (some ⟨q4,0,none⟩)] w0.heap.size w (GoR w0 wb k md q0 q1 q2 q3 q4 ps hs xs l works w o (ez (aP ps hs (aT xs) l works) k.n3 d s)):=by
 have Ll:=oX _ L;have Bo:=iK k.n3;intro d;induction d with
 |zero=>
  intro s w A n c o hd I hn g;have e:=xA I om;refine F.bZ.Jm g.r.b.size ⟨_,dN g.h0 rfl,pm (tQ g.r.t.t L) ?_⟩;rintro v M D rfl;refine⟨_,rfl,fun _=>⟨Kp.cl (Cl.low D),A,n,c,fun q=> ?_,fun x hx=> ?_⟩,fun h=>absurd (by rw[e]) h⟩
  ·rw[ez,cc e]at q;cases q
  ·rw[ez,cc e]at hx;cases hx;exact⟨rfl,by rw[HD,ns];exact g.low D⟩
 |succ d ih=>
  intro s w A n c o hd I hn g;have N:=g.own.len;rw[gv]at N;refine F.bZ.Jm g.r.b.size ⟨_,dN g.h0 rfl,pm (tQ g.r.t.t L) ?_⟩;rintro v M D rfl;have g:=g.low D;have O:Kp w M:=Kp.cl (Cl.low D);refine⟨_,rfl,fun h1=>⟨O,A,n,c,fun q=> ?_,fun x hx=> ?_⟩,fun h1=> ?_⟩
  ·rw[ez,cc om]at q;cases q
  ·rw[ez,cc om]at hx;cases hx;exact⟨rfl,by rw[HD,ns];exact g⟩
  have P:s≠di k.n3:=fun e=>h1 (by rw[e])
  obtain⟨f,f1,f2⟩:=g.d;refine⟨_,dN g.h1 rfl,rz f1 OJ om om ⟨fun h2=>⟨O,A,n,c,fun _=>⟨rfl,g⟩,fun x hx=> ?_⟩,fun h2=> ?_⟩⟩
  ·exact absurd (CI _ _ _ hx) (f2 s (by
    cases e:f (s:Int)with
    |none=>rw[e]at h2;cases h2
    |some y=>rw[e]at h2;exact dB some h2))
  obtain⟨B2,e2,X0⟩:=g.h2;refine⟨_,_,_,dN X0 rfl,?_⟩;have WM:ez (aP ps hs (aT xs) l works) k.n3 (d+1) s=(List.range k.n3).findSome? fun i=>if s.testBit i|| !aP ps hs (aT xs) l works (eG s i)then none else(ez (aP ps hs (aT xs) l works) k.n3 d (eG s i)).map (i:: ·):=by rw[ez,ar P]
  have loop:∀(e i:Nat)(A:Option Addr)(n c:Nat)(w1:World),k.n3 - i=e->i<=k.n3->n+nI k.n3 s<=6->Kp w w1->Ew w0 wb k md q0 q1 q2 q3 q4 ps hs xs l works w1 A n c o->ez (aP ps hs (aT xs) l works) k.n3 (d+1) s=((List.range k.n3).drop i).findSome? (fun i=>if s.testBit i|| !aP ps hs (aT xs) l works (eG s i)then none else(ez (aP ps hs (aT xs) l works) k.n3 d (eG s i)).map (i:: ·))->
    F.bZ.L6 s ⟨q0,0,none⟩ ⟨q1,0,none⟩ ⟨q3,0,none⟩ ⟨q4,0,none⟩ k.n3 i w0.heap.size w1 (GoR w0 wb k md q0 q1 q2 q3 q4 ps hs xs l works w o (ez (aP ps hs (aT xs) l works) k.n3 (d+1) s)):=by
   intro e;induction e with
   |zero=>
    intro i A n c w1 he hi hn E g a;rw[dp (by simp;omega)]at a;have EY:ez (aP ps hs (aT xs) l works) k.n3 (d+1) s=none:=a;obtain⟨f,f1,f2⟩:=g.d;obtain⟨B2,e2,h2⟩:=g.h2;refine F.bZ.L6.step ⟨fun h=>by omega,fun _=>⟨_,dN g.h1 rfl,mj f1 OJ om om true lf g.r.b.size fun Qg Q UK G=> ?_⟩⟩;have cl:=Cl.map f1 G;have R:Qg.heap[k.m]? =w1.heap[k.m]? :=G.block _ (jK g.r.m g.r.c.size) fun q=>g.ne (by cases q;rfl)
    refine⟨E.trans (Kp.cl cl),A,n,c,fun _=>⟨rfl,?_⟩,fun x hx=>by rw[EY]at hx;cases hx⟩;obtain⟨kf,S,T⟩:=g.r.kn;exact⟨⟨g.r.b.trans UK,g.r.lo,g.r.tb,g.r.c.trans cl,⟨kf,S.same R,T⟩,g.r.m⟩,cl.cells _ _ _ _ g.h0,cl.cells _ _ _ _ g.h1,⟨B2,e2,cl.cells _ _ _ _ h2⟩,cl.cells _ _ _ _ g.h3,cl.cells _ _ _ _ g.h4,g.hi,g.own.cl cl,⟨_,Q,fun z U=>by
     unfold vr at U;split at U
     ·rename_i q;have:z=s:=om;subst this;exact CJ (d+1) z hd I EY
     ·exact f2 z U⟩,g.dl,g.ne⟩
   |succ e V=>
    intro i A n c w1 he hi hn E g a;have W:=sc i;have X:i<(List.range k.n3).length:=by simp;omega
    rw[ec X,List.getElem_range,List.findSome?_cons]at a;have Y:=ou (s:=s) (i:=i) (n:=k.n3) I om;have N:=g.own.len;rw[gv]at N;refine F.bZ.L6.step ⟨fun _=>⟨kt om,?_⟩,fun h=>by omega⟩;rw[mm _ om,vu _ om _ om];refine⟨fun h3=>⟨ir,?_⟩,fun h3=>⟨_,dN g.h0 rfl,?_⟩⟩
    ·have J:s.testBit i=true:=GH.1 om;rw[J,Bool.true_or,cc rfl]at a;rw[W];exact V (i+1) A n c w1 om om hn E g a
    have J:s.testBit i=false:=zC _|>.mp fun q=>h3 (by rw[GH.2 q])
    have adI:=sY (n:=k.n3) om J;rw[J,vx]at a;refine g.r.allowed hg om fun uY C bt cl=>⟨fun _ _ _ h=>(by cases h),_,rfl,fun h4=>⟨ir,?_⟩,fun h4=> ?_⟩
    ·rw[h4,GK,cc rfl]at a;rw[W];exact V (i+1) A n c uY om om hn (E.trans (Kp.cl cl)) (g.cl C cl (bt.other _ g.mlt g.ne)) a
    have h4:=hP _|>.mp h4
    rw[h4,Bool.not_true,ar dc]at a;have g13:=g.cl C cl (bt.other _ g.mlt g.ne);have Z:=E.trans (Kp.cl cl);refine⟨_,_,_,dN g13.h3 rfl,ny ft (B:=wb.heap.size) C.lo g13.own (x:= .int .i64 (i:Int)) rfl (by simp[Value.cells,dA]) C.c.size om dc fun A' c' rU YJ g20 _=> ?_⟩;have abi:=TJ g13.own g20;have WN:=TK g13.own g20 g13.h3;have oq:=Bc g13.own g20 C.c.size;refine⟨[.slice A n c],48,ga C.lo g13.hi,rfl,WN,sm,rfl,fun tV BR=> ?_⟩;obtain⟨g23,k23⟩:=g13.put (o1:=o++[(i:Int)]) oq abi WN (by rw[lx];exact YJ) BR;refine⟨_,_,_,dN g23.h4 rfl,kF,?_⟩;refine dZ.mono (ih (eG s i) tV A' (n+1) c' (o++[(i:Int)]) om Y om g23) ?_;rintro v Le b27 ⟨WO,A2,n2,c2,hN,hS⟩;have kk:=(Z.trans k23).trans WO;refine⟨fun _ _ _ h=>(by cases h),?_⟩;cases K:ez (aP ps hs (aT xs) l works) k.n3 d (eG s i)with
    |none=>
     obtain⟨rfl,j⟩:=hN K;rw[K]at a;have Bt:=j.own.len;rw[gv,fx,vi]at Bt;refine⟨_,rfl,fun q=>(by cases q),fun _=>⟨_,_,_,dN j.h3 rfl,_,_,_,dN j.h3 rfl,ir,by have:=j.own.gV;omega,[.slice A2 n2 c2],48,ga C.lo j.hi,rfl,j.h3,sm,rfl,fun BH Ko=>⟨ir,?_⟩⟩⟩;have en:((n2:Int) - 1).toNat=n:=om;rw[en]at Ko;have H:=j.own.short (m:=n) om;rw[<-LN,Hs om,bx om]at H;obtain⟨g32,k32⟩:=j.put (o1:=o) (Below.refl _ _) (fun _ _ _ _ _ e=>e) j.h3 H Ko;rw[W];exact V (i+1) A2 n c2 BH om om hn (kk.trans k32) g32 a
    |some x=>
     obtain⟨rfl,j⟩:=hS x K;rw[K]at a;refine⟨_,rfl,fun _=>⟨kk,A2,n2,c2,fun q=> ?_,fun y hy=>⟨rfl,?_⟩⟩,fun q=>(by cases q)⟩
     ·rw[a]at q;cases q
     ·rw[a]at hy;cases hy;rw[Dx,show o++((i:Int)::x.map fun(i:Nat)=>(i:Int))=(o++[(i:Int)])++x.map fun(i:Nat)=>(i:Int) by simp];exact j
  exact loop k.n3 0 A n c M rfl om hn O g (by rw[uQ];exact WM)
end
section
variable {w:World} {A0 A1 A2 A A3:Option Addr} {n0 c0 n1 c1 n2 c2 n c n3 c3:Nat} {ps:List Pa} {hs:List Ho} {xs:List Rm} {l works:List Sw}
theorem CV(S:cT w)(hp:fu w A0 n0 A1 n1 A2 n2 c2 ps hs xs)(h:cK w A 3 (l.map Sw.row))(hl:l.length=n)(ph:n<=c)(hn:n<=40)(qg:cK w A3 3 (works.map Sw.row))(lD:works.length=n3):
  Pure Tryz.prog 22 #[.agg #[.slice A0 n0 c0,.slice A1 n1 c1,.slice A2 n2 c2],.slice A n c,.slice A3 n3 c3] w (InR (vo ps hs (aT xs) l works)):=by
 refine F.oZ.vc fun w1 x1=> ?_
 have hw:=k0 x1;refine pm (qI (c3:=c3) (S.next hw) (hp.aj hw) (h.aj hw lf) hl ph hn (qg.aj hw lf) lD) ?_;intro v y b5 hv;have lA:=kP hw b5;unfold vo;by_cases h0:fJ ps hs (aT xs) l works≠0
 ·rw[cc h0];have hv:=hv.1 h0;subst hv;exact⟨_,_,rfl,fun _ _ _=>⟨_,_,_,rfl,.inl rfl,rfl,hM _⟩,fun k=>absurd h0 k⟩
 rw[ar h0];obtain⟨k,hv,B,T⟩:=hv.2 (ep.1 h0);subst hv;have Mm:=B.ok.n;have C:=B.lw;have en:n3=k.n3:=om;subst en;rw[C];refine⟨_,_,rfl,fun q=>absurd rfl q,fun _ U D=> ?_⟩;have E:=kE lA D;have hkm:k.m<y.heap.size:=by obtain⟨f,f1,_⟩:=T;exact f1.lt
 refine nz (tk:=3) (te:=4) E.size fun vg m10 V a G=> ?_
 have tY:=kP E V;have H:=kE tY G;have W:Below y.heap.size y a:=kP (kP (extAll D) V) (extAll G);have I:=B.aj W;have WR:=(T.below W).le hw.size;have run:=vC.new H I WR;have m11:=m10.ext G;refine pC (z:= .slice none 0 0) _ kF H.size fun tz J b _=> ?_
 have K:=kP H b;refine pC (z:= .nilFunc) _ kF K.size fun X Y j _ L agm M N aaQ Ts UF Wt oq=> ?_
 have wM:=kP K j;have O:=(run.aj b).hi (j.mono b.size);refine⟨[.nilFunc],_,K.size,rfl,Y,sm,rfl,fun r P=> ?_⟩;have Z:Below a.heap.size X r:=dd.sP P b.size;have other:∀{i ty:Nat} {cs:Array Value},X.heap[i]? =some (.cells cs ty (0,0))->ty≠91->r.heap[i]? =some (.cells cs ty (0,0)):=by
  intro i ty cs e Q;rw[P.rest i fun q=> ?_]
  ·exact e
  ·subst q;rw[Y]at e;cases e;exact Q rfl
 have WS:U.heap.size<a.heap.size:=m11.lt;have g:Ew w a k U.heap.size UF N L a.heap.size tz.heap.size ps hs xs l works r none 0 0 []:=by
  refine⟨O.hi Z,other oq dc,other Ts dc,⟨_,_,other M dc⟩,other (bK J j) dc,P.at_,hM _,bF.nil,⟨_,(((m11.below b).below j).same (Z.block _ WS)).le E.size,fun s q=>by cases q⟩,WS,by have:=(extAll D).size;omega⟩
 refine⟨_,_,_,dN g.h4 rfl,kF,?_⟩;refine dZ.mono (go1 S om k.n3 0 r none 0 0 [] (wN _ _) (ya _) (by have:=wN k.n3 0;omega) g) ?_;rintro v Le b27 ⟨WO,A',n',c',hN,hS⟩;refine⟨fun i ty cs R e=> ?_,?_⟩
 ·have:=gb.1 R;subst this;rw[e];exact WO i _ cs dc dc e
 cases NO:ez (aP ps hs (aT xs) l works) k.n3 k.n3 0 with
 |none=>
  obtain⟨rfl,d⟩:=hN NO;exact⟨_,rfl,fun _=>⟨_,_,_,rfl,.inl rfl,rfl,hM _⟩,fun q=>absurd rfl q⟩
 |some x=>
  obtain⟨rfl,d⟩:=hS x NO;have Bt:=d.own.len;rw[gv,nN]at Bt;exact⟨_,rfl,fun q=>(by cases q),fun _=>⟨_,_,_,dN d.h3 rfl,A',n',c',rfl,d.own.sl,Bt,d.own.gV⟩⟩
end
end Go.Proofs.YtgfkeadgjkfomaaGreatDoor.B

set_option maxRecDepth 100000
set_option maxHeartbeats 4000000
namespace Go.Proofs.YtgfkeadgjkfomaaGreatDoor.F
open Go Go.RowKit Go.Proofs Go.Proofs.YtgfkeadgjkfomaaGreatDoor.Vc
def eZ.cx:Pm:=([],[])
theorem eZ.vc{a b l c s m:O}{d e f g n o i j p t q r:Nat}{u:Int}{w:World}{R:Kt}
  (h:(∀y,Ext w.heap.size [] w y->(Pure P 10 #[] y (Rb fun C z=>(Br (C=false) (R (.bool false) z) (Pure P 11 #[.agg #[.slice a d e,.slice b f g,.slice l n o],.slice c i j,.slice m q r] z (Rb fun D v=>(Br (D=false) (R (.bool true) v) (Br ((p:Int)>40) (R (.bool true) v) (Pure P 13 #[.agg #[.slice a d e,.slice b f g]] v (Rc fun E G H I J K L=>(Pure P 14 #[.slice c i j] L (Rs fun M N Q S=>(Pure P 14 #[.slice s p t] S (Rs fun T U V X=>(Pure P 12 #[.agg #[.slice E G H,.slice I J K],.slice M N Q,.slice T U V] X (BC fun Y Z a0 k a2=>(Pure P 15 #[.agg #[.slice a d e,.slice b f g],.slice c i j,.slice s p t] a2 (BC fun a3 a4 a5 B F=>(Pure P 17 #[.agg #[.slice a d e,.slice b f g,.slice l n o]] F (Rp fun W a9 b0 b1 b2 b3 b4 b5 b6 b7=>(Pure P 14 #[.slice c i j] b7 (Rs fun b8 b9 c0 c1=>(Pure P 18 #[.slice m q r] c1 (Rs fun c2 c3 c4 c5=>(Pure P 16 #[.agg #[.slice W a9 b0,.slice b1 b2 b3,.slice b4 b5 b6],.slice b8 b9 c0,.slice c2 c3 c4,.int .i64 u] c5 (BC fun c6 c7 c8 c9 d0=>(Pure P 19 #[.agg #[.slice a d e,.slice b f g,.slice l n o],.slice c i j,.slice m q r,.int .i64 u] d0 (BC fun d1 d2 d3 d4 d5=>(Pure P 20 #[.slice Y Z a0,.slice a3 a4 a5] d5 (Rb fun d6 x=>(Bb d6 (Br (k=B) (Pure P 21 #[.slice c6 c7 c8,.slice d1 d2 d3] x (Rb fun d7 A=>(Bb d7 (R (.bool (decide (c9=d4))) A) (R (.bool false) A)))) (R (.bool false) x)) (R (.bool false) x))))))))))))))))))))))))))))))))):
  Pure P 3 #[.agg #[.slice a d e,.slice b f g,.slice l n o],.slice c i j,.slice s p t,.slice m q r,.int .i64 u] w R:=
 pr eZ.cx Tryz.func3 h

def fa.cx:Pm:=([],[])
theorem fa.vc{a b c d e:O}{f g i j l m n o p q:Nat}{w:World}{R:Kt}
  (h:(∀s,Ext w.heap.size [] w s->(Pure P 10 #[] s (Rb fun x t=>(Br (x=false) (R (.bool false) t) (Pure P 11 #[.agg #[.slice a f g,.slice b i j,.slice c l m],.slice d n o,.slice e p q] t (Rb fun y u=>(Br (y=false) (R (.bool true) u) (Pure P 17 #[.agg #[.slice a f g,.slice b i j,.slice c l m]] u (Rp fun z A C D E G H I J K=>(Pure P 14 #[.slice d n o] K (Rs fun L M N Q=>(Pure P 18 #[.slice e p q] Q (Rs fun S T U V=>(Pure P 22 #[.agg #[.slice z A C,.slice D E G,.slice H I J],.slice L M N,.slice S T U] V (BC fun X Y Z a0 k=>(Pure P 23 #[.agg #[.slice a f g,.slice b i j,.slice c l m],.slice d n o,.slice e p q] k (BC fun a2 a3 a4 a5 B=>(Pure P 17 #[.agg #[.slice a f g,.slice b i j,.slice c l m]] B (Rp fun F W a9 b0 b1 b2 b3 b4 b5 b6=>(Pure P 14 #[.slice d n o] b6 (Rs fun b7 b8 b9 c0=>(Pure P 18 #[.slice e p q] c0 (Rs fun c1 c2 c3 c4=>(Pure P 24 #[.agg #[.slice F W a9,.slice b0 b1 b2,.slice b3 b4 b5],.slice b7 b8 b9,.slice c1 c2 c3] c4 (BC fun c5 c6 c7 c8 c9=>(Pure P 25 #[.agg #[.slice a f g,.slice b i j,.slice c l m],.slice d n o,.slice e p q] c9 (BC fun d0 d1 d2 d3 d4=>(Pure P 26 #[.slice X Y Z,.slice a2 a3 a4] d4 (Rb fun d5 r=>(Bb d5 (Br (a0=a5) (Pure P 26 #[.slice c5 c6 c7,.slice d0 d1 d2] r (Rb fun d6 v=>(Bb d6 (R (.bool (decide (c8=d3))) v) (R (.bool false) v)))) (R (.bool false) r)) (R (.bool false) r)))))))))))))))))))))))))))))))):
  Pure P 4 #[.agg #[.slice a f g,.slice b i j,.slice c l m],.slice d n o,.slice e p q] w R:=
 pr fa.cx Tryz.func4 h

def fb.cx:Pm:=([],[])
theorem fb.vc{a b c d e u v:O}{f g i j l m n o p q r x s y:Nat}{w:World}{R:Kt}
  (h:(∀A,Ext w.heap.size [] w A->(Pure P 10 #[] A (Rb fun H C=>(Br (H=false) (R (.bool false) C) (Pure P 11 #[.agg #[.slice a f g,.slice b i j,.slice c l m],.slice d n o,.slice e p q] C (Rb fun I t=>(Br (I=false) (R (.bool true) t) (Br ((r:Int)>70) (R (.bool true) t) (Br ((s:Int)>70) (R (.bool true) t) (Pure P 17 #[.agg #[.slice a f g,.slice b i j,.slice c l m]] t (Rp fun J K L M N Q S T U V=>(Pure P 14 #[.slice d n o] V (Rs fun X Y Z a0=>(Pure P 18 #[.slice e p q] a0 (Rs fun k a2 a3 a4=>(Pure P 28 #[.slice u r x] a4 (Rs fun a5 B F W=>(Pure P 27 #[.agg #[.slice J K L,.slice M N Q,.slice S T U],.slice X Y Z,.slice k a2 a3,.slice a5 B F] W (Rii fun a9 b0 b1=>(Pure P 29 #[.agg #[.slice a f g,.slice b i j,.slice c l m],.slice d n o,.slice e p q,.slice u r x] b1 (Rii fun b2 b3 z=>(Br (a9=b2) (Br (b0=b3) (∀D,Ext w.heap.size [] z D->(Pure P 17 #[.agg #[.slice a f g,.slice b i j,.slice c l m]] D (Rp fun b4 b5 b6 b7 b8 b9 c0 c1 c2 c3=>(Pure P 14 #[.slice d n o] c3 (Rs fun c4 c5 c6 c7=>(Pure P 18 #[.slice e p q] c7 (Rs fun c8 c9 d0 d1=>(Pure P 28 #[.slice v s y] d1 (Rs fun d2 d3 d4 d5=>(Pure P 30 #[.agg #[.slice b4 b5 b6,.slice b7 b8 b9,.slice c0 c1 c2],.slice c4 c5 c6,.slice c8 c9 d0,.slice d2 d3 d4] d5 (Ri fun d6 d7=>(Pure P 31 #[.agg #[.slice a f g,.slice b i j,.slice c l m],.slice d n o,.slice e p q,.slice v s y] d7 (Ri fun d8 d9=>(R (.bool (decide (d6=d8))) d9)))))))))))))) (∀E,Ext w.heap.size [] z E->(R (.bool false) E))) (∀G,Ext w.heap.size [] z G->(R (.bool false) G))))))))))))))))))))))))):
  Pure P 5 #[.agg #[.slice a f g,.slice b i j,.slice c l m],.slice d n o,.slice e p q,.slice u r x,.slice v s y] w R:=
 pr fb.cx Tryz.func5 h

def jW.cx:Pm:=([],[(1,2,2),(6,2,2),(7,16,2),(7,21,2),(7,37,2),(7,52,2)])
theorem jW.vc{w:World}{R:Kt}
  (h:(au P (Instr.buildSlice 30 2 #[(0,(.agg #[(.int .i64 (2:Int)),(.int .i64 (1:Int)),(.int .i64 (1:Int))])),(1,(.agg #[(.int .i64 (1:Int)),(.int .i64 (1:Int)),(.int .i64 (1:Int))]))]) w.heap.size [] w (Rs fun A1 n1 c1 w3=>(Pure P 38 #[] w3 (Rp fun A4 n4 c4 A5 n5 c5 A6 n6 c6 w8=>(Pure P 22 #[(.agg #[(.slice A4 n4 c4),(.slice A5 n5 c5),(.slice A6 n6 c6)]),(.slice none 0 0),(.slice A1 n1 c1)] w8 (BC fun A9 n9 c9 i10 tz=>(Pure P 38 #[] tz (Rp fun Up Uq Ur i n14 j X8 n15 X9 wX=>(Pure P 24 #[(.agg #[(.slice Up Uq Ur),(.slice i n14 j),(.slice X8 n15 X9)]),(.slice none 0 0),(.slice A1 n1 c1)] wX (BC fun SO n18 SP i19 BN=>(Pure P 38 #[] BN (Rp fun k n22 l m n23 n o n24 c24 Kg=>(Pure P 16 #[(.agg #[(.slice k n22 l),(.slice m n23 n),(.slice o n24 c24)]),(.slice none 0 0),(.slice A1 n1 c1),(.int .i64 (3:Int))] Kg (BC fun Yc n27 Yd i28 OK=>(Pure P 38 #[] OK (Rp fun q n31 c31 r n32 x VZ n33 c33 OC=>(Pure P 12 #[(.agg #[(.slice q n31 c31),(.slice r n32 x)]),(.slice none 0 0),(.slice Yc n27 Yd)] OC (BC fun YK n36 YL i37 V6=>(Pure P 38 #[] V6 (Rp fun y n40 c40 V7 V8 V9 Uv Wa Uw Nf=>(au P (Instr.buildSlice 48 2 #[(0,(.int .i64 (0:Int))),(1,(.int .i64 (1:Int)))]) w.heap.size [] Nf (Rs fun z A B WT=>(Pure P 27 #[(.agg #[(.slice y n40 c40),(.slice V7 V8 V9),(.slice Uv Wa Uw)]),(.slice none 0 0),(.slice A1 n1 c1),(.slice z A B)] WT (Rii fun i48 i49 a=>(Br ((i10:Int)=(0:Int)) (Br ((i19:Int)=(0:Int)) (Br ((i28:Int)=(0:Int)) (Br ((i37:Int)=(0:Int)) (∀e,Ext w.heap.size [] a e->(au P (Instr.buildSlice 48 2 #[(0,(.int .i64 (1:Int))),(1,(.int .i64 (0:Int)))]) w.heap.size [] e (Rs fun C D c53 Tf=>(Pure P 26 #[(.slice A9 n9 c9),(.slice C D c53)] Tf (Rb fun E g=>(Bb E (au P (Instr.buildSlice 48 3 #[(0,(.int .i64 (0:Int))),(1,(.int .i64 (2:Int))),(2,(.int .i64 (3:Int)))]) w.heap.size [] g (Rs fun F G c59 H=>(Pure P 26 #[(.slice SO n18 SP),(.slice F G c59)] H (Rb fun I b=>(Bb I (Br (((n27:Int):Int)=(2:Int)) (Ix (1:Int) n1 A1 fun a65=>(Ix (0:Int) n1 A1 fun a66=>((∃(i67:Int)(i68:Int)(i69:Int),ae b (a65.add (((1:Int)).toNat*3)) [(.int .i64 i67),(.int .i64 i68),(.int .i64 i69)]/\(∃(i70:Int)(i71:Int)(i72:Int),ae b (a66.add (((0:Int)).toNat*3)) [(.int .i64 i70),(.int .i64 i71),(.int .i64 i72)]/\(au P (Instr.buildSlice 30 2 #[(0,(.agg #[(.int .i64 i67),(.int .i64 i68),(.int .i64 i69)])),(1,(.agg #[(.int .i64 i70),(.int .i64 i71),(.int .i64 i72)]))]) w.heap.size [] b (Rs fun J K L M=>(Pure P 39 #[(.slice YK n36 YL),(.slice J K L)] M (Rb fun N c=>(Bb N (Br ((i48:Int)=(0:Int)) (Br ((i49:Int)=(15:Int)) ((0<=(1:Int)/\(1:Int)<=(c1:Int))/\((Pure P 38 #[] c (Rp fun O Q S T U c80 V W X YM=>(au P (Instr.buildSlice 48 1 #[(0,(.int .i64 (0:Int)))]) w.heap.size [] YM (Rs fun WU Y WV WW=>(Pure P 30 #[(.agg #[(.slice O Q S),(.slice T U c80),(.slice V W X)]),(.slice none 0 0),(.slice A1 (((1:Int)).toNat) c1),(.slice WU Y WV)] WW (Ri fun i87 Z=>(R (.bool (decide ((i87:Int)=(0:Int)))) Z)))))))/\(au P (Instr.buildSlice 48 1 #[(0,(.int .i64 (0:Int)))]) w.heap.size [] c (Rs fun A90 n90 c90 w92=>(Pure P 38 #[] w92 (Rp fun A93 n93 c93 A94 n94 c94 A95 n95 c95 XQ=>(Pure P 30 #[(.agg #[(.slice A93 n93 c93),(.slice A94 n94 c94),(.slice A95 n95 c95)]),(.slice none 0 0),(.slice A1 (((1:Int)).toNat) c1),(.slice A90 n90 c90)] XQ (Ri fun i98 abv=>(R (.bool (decide ((i98:Int)=(0:Int)))) abv))))))))) ((R (.bool false) c)/\(R (.bool false) c))) ((R (.bool false) c)/\(R (.bool false) c))) ((R (.bool false) c)/\(R (.bool false) c)))))))))/\(∃(i101:Int)(i102:Int)(i103:Int),ae b (a66.add (((0:Int)).toNat*3)) [(.int .i64 i101),(.int .i64 i102),(.int .i64 i103)]/\(∃(i104:Int)(i105:Int)(i106:Int),ae b (a65.add (((1:Int)).toNat*3)) [(.int .i64 i104),(.int .i64 i105),(.int .i64 i106)]/\(au P (Instr.buildSlice 30 2 #[(0,(.agg #[(.int .i64 i104),(.int .i64 i105),(.int .i64 i106)])),(1,(.agg #[(.int .i64 i101),(.int .i64 i102),(.int .i64 i103)]))]) w.heap.size [] b (Rs fun abw n107 c107 KW=>(Pure P 39 #[(.slice YK n36 YL),(.slice abw n107 c107)] KW (Rb fun abx d=>(Bb abx (Br ((i48:Int)=(0:Int)) (Br ((i49:Int)=(15:Int)) ((0<=(1:Int)/\(1:Int)<=(c1:Int))/\((Pure P 38 #[] d (Rp fun aby n113 abz abA n114 abB abC n115 abD abE=>(au P (Instr.buildSlice 48 1 #[(0,(.int .i64 (0:Int)))]) w.heap.size [] abE (Rs fun NY n118 QD IS=>(Pure P 30 #[(.agg #[(.slice aby n113 abz),(.slice abA n114 abB),(.slice abC n115 abD)]),(.slice none 0 0),(.slice A1 (((1:Int)).toNat) c1),(.slice NY n118 QD)] IS (Ri fun i121 WX=>(R (.bool (decide ((i121:Int)=(0:Int)))) WX)))))))/\(au P (Instr.buildSlice 48 1 #[(0,(.int .i64 (0:Int)))]) w.heap.size [] d (Rs fun abF n124 c124 abG=>(Pure P 38 #[] abG (Rp fun abH n127 c127 abI n128 abJ abK n129 abL abM=>(Pure P 30 #[(.agg #[(.slice abH n127 c127),(.slice abI n128 abJ),(.slice abK n129 abL)]),(.slice none 0 0),(.slice A1 (((1:Int)).toNat) c1),(.slice abF n124 c124)] abM (Ri fun i132 abN=>(R (.bool (decide ((i132:Int)=(0:Int)))) abN))))))))) ((R (.bool false) d)/\(R (.bool false) d))) ((R (.bool false) d)/\(R (.bool false) d))) ((R (.bool false) d)/\(R (.bool false) d)))))))))))) (((R (.bool false) b)/\(R (.bool false) b))/\((R (.bool false) b)/\(R (.bool false) b)))) (((R (.bool false) b)/\(R (.bool false) b))/\((R (.bool false) b)/\(R (.bool false) b)))))))) (((R (.bool false) g)/\(R (.bool false) g))/\((R (.bool false) g)/\(R (.bool false) g))))))))) (((∀WY,Ext w.heap.size [] a WY->(R (.bool false) WY))/\(∀WZ,Ext w.heap.size [] a WZ->(R (.bool false) WZ)))/\((∀W5,Ext w.heap.size [] a W5->(R (.bool false) W5))/\(∀W6,Ext w.heap.size [] a W6->(R (.bool false) W6))))) (((∀W7,Ext w.heap.size [] a W7->(R (.bool false) W7))/\(∀W8,Ext w.heap.size [] a W8->(R (.bool false) W8)))/\((∀W9,Ext w.heap.size [] a W9->(R (.bool false) W9))/\(∀Xa,Ext w.heap.size [] a Xa->(R (.bool false) Xa))))) (((∀Xb,Ext w.heap.size [] a Xb->(R (.bool false) Xb))/\(∀Xc,Ext w.heap.size [] a Xc->(R (.bool false) Xc)))/\((∀Xd,Ext w.heap.size [] a Xd->(R (.bool false) Xd))/\(∀Xe,Ext w.heap.size [] a Xe->(R (.bool false) Xe))))) (((∀Xf,Ext w.heap.size [] a Xf->(R (.bool false) Xf))/\(∀Xg,Ext w.heap.size [] a Xg->(R (.bool false) Xg)))/\((∀Xh,Ext w.heap.size [] a Xh->(R (.bool false) Xh))/\(∀Xi,Ext w.heap.size [] a Xi->(R (.bool false) Xi)))))))))))))))))))))))))))))):
  Pure P 10 #[] w R:=
 pr jW.cx Tryz.func10 h

def mo.cx:Pm:=([],[])
theorem mo.vc{b c d p q:O}{e f g i j l m r n s:Nat}{w:World}{R:Kt}
  (h:(∀o,Ext w.heap.size [] w o->(Pure P 40 #[.agg #[.slice b e f,.slice c g i,.slice d j l]] o (Rb fun t a=>(Bb t (Br ((m:Int)<=(40:Int)) (R (.bool (decide ((n:Int)<=(7:Int)))) a) (R (.bool false) a)) (R (.bool false) a)))))):
  Pure P 11 #[.agg #[.slice b e f,.slice c g i,.slice d j l],.slice p m r,.slice q n s] w R:=
 pr mo.cx Tryz.func11 h

def mq.cx:Pm:=([],[(1,2,2),(1,7,2),(1,9,2),(1,12,2)])
theorem mq.vc{w:World}{R:Kt}
  (h:(∀a,Ext w.heap.size [] w a->(au P (Instr.buildSlice 22 2 #[(0,(.agg #[.int .i64 1,.int .i64 3,.int .i64 1,(.string ⟨#[97]⟩),(.string ⟨#[50]⟩),(.string ⟨#[49]⟩),(.string ⟨#[53]⟩)])),(1,(.agg #[.int .i64 2,.int .i64 1,.int .i64 2,(.string ⟨#[98]⟩),(.string ⟨#[49,47,50]⟩),(.string ⟨#[52]⟩),(.string ⟨#[49]⟩)]))]) w.heap.size [28] a (Rs fun c d e f=>(au P (Instr.buildSlice 23 2 #[(0,(.agg #[.int .i64 1,(.string ⟨#[65]⟩),(.string ⟨#[52]⟩),(.string ⟨#[55]⟩),(.string ⟨#[49,48]⟩),(.string ⟨#[48]⟩),(.string ⟨#[49]⟩)])),(1,(.agg #[.int .i64 2,(.string ⟨#[66]⟩),(.string ⟨#[57]⟩),(.string ⟨#[51]⟩),(.string ⟨#[45,53]⟩),(.string ⟨#[48]⟩),(.string ⟨#[49]⟩)]))]) w.heap.size [28] f (Rs fun g i j l=>(au P (Instr.buildSlice 85 2 #[(0,(.string ⟨#[49,48]⟩)),(1,(.string ⟨#[45,53]⟩))]) w.heap.size [28] l (Rs fun m n o p=>(au P (Instr.buildSlice 26 2 #[(0,(.agg #[(.string ⟨#[108,105,115,116]⟩),.int .i64 1,.slice m n o,(.string ⟨#[48]⟩),(.string ⟨#[51,48]⟩),.int .i64 0,.int .i64 0])),(1,(.agg #[(.string ⟨#[97,112,97,114,116]⟩),.int .i64 2,.slice none 0 0,(.string ⟨#[]⟩),(.string ⟨#[]⟩),.int .i64 1,.int .i64 2]))]) w.heap.size [28] p (Rs fun q r s t=>(∀b,Ext w.heap.size [28] t b->(R (.agg #[.slice c d e,.slice g i j,.slice q r s]) b)))))))))))):
  Pure P 38 #[] w R:=
 pr mq.cx Tryz.func38 h

end Go.Proofs.YtgfkeadgjkfomaaGreatDoor.F

namespace Go.Proofs.YtgfkeadgjkfomaaGreatDoor.B
open Go Go.RowKit Go.Proofs Go.Proofs.YtgfkeadgjkfomaaGreatDoor.Vc

theorem TL{w:World}{A:Option Addr}{n c:Nat}{l:List Sw}(h:cK w A 3 (l.map Sw.row))(hlen:l.length=n)(hn:n<=1000000):
  Pure Tryz.prog 18 #[.slice A n c] w fun v w'=>∃A' c',v= .slice A' n c'/\bF w' w.heap.size 44 A' n c' 3 (l.map Sw.row):=by
 refine F.eK.vc ⟨fun b=> ?_,fun b=> ?_⟩
 ·subst b;have:=h.sN;simp at this;subst this;simp at hlen;subst hlen;exact⟨none,0,rfl,bF.nil⟩
 ·obtain⟨a,rfl⟩:=K0.1 b;refine dx AZ [] sm sm lf fun A2 c2 g ho d=> ?_
  refine wu AZ lf (by simpa using ho) (h.below d) (by simpa using hlen) Ga CB d.size (by simp;omega) sm fun A' c' i e _ j=> ?_
  simp only[ot,oi,nN]at e⊢;exact⟨A',c',rfl,e⟩
theorem TM{w0:World}{A A1:Option Addr}{n n1 c c1:Nat}{l g:List Sw}(h:cK w0 A 3 (l.map Sw.row))(h1:cK w0 A1 3 (g.map Sw.row))(hlen:l.length=n)(x:g.length=n1)(hn:n<2147483648):
  Pure Tryz.prog 39 #[.slice A n c,.slice A1 n1 c1] w0 fun y _=>y= .bool (decide (l=g)):=by
 have key:n=n1->∀(d i:Nat)(w:World),n - i=d->i<=n->Below w0.heap.size w0 w->l.take i=g.take i->F.bq.L4 A n c A1 n1 c1 n i w0.heap.size w fun y _=>y= .bool (decide (l=g)):=by
  intro e d;induction d with
  |zero=>
   intro i w z hi hw hx;refine F.bq.L4.step ⟨fun h=>by omega,fun _=> ?_⟩;rw[bx om,bx om]at hx;rw[fc hx]
  |succ d ih=>
   intro i w z hi hw hx;have o:i<l.length:=om;have q:i<g.length:=om;have B:=sc i;obtain⟨hb,a,C,j,_⟩:=(h.aj hw lf).at_ (fun _=>rfl) hlen o;obtain⟨m,D,E,b,_⟩:=(h1.aj hw lf).at_ (fun _=>rfl) x q;refine F.bq.L4.step ⟨fun _=>⟨hb,a,C,_,_,_,j,m,D,E,_,_,_,b,fun k r _=> ?_,fun k=>⟨ir,fun r G=> ?_⟩⟩,fun h=>by omega⟩
   ·rw[eh fun e=>k (by subst e;exact⟨rfl,rfl,rfl,trivial⟩)]
   ·rw[B];refine ih (i+1) r om om (kE hw G) ?_;have k:=ep.1 k;have e:l[i]=g[i]:=by
     cases H:l[i];cases I:g[i];rw[H,I]at k;simp only at k;rw[k.1,k.2.1,k.2.2.1]
    rw[eN,eN,hx,af o,af q,e]
 refine F.bq.vc ⟨fun k=> ?_,fun k=>key om n 0 w0 rfl om (Below.refl _ _) sm⟩;rw[eh fun e=>k (by subst e;omega)]

def NZ:List Ru:=[⟨⟨#[108,105,115,116]⟩,1,[⟨#[49,48]⟩,⟨#[45,53]⟩],⟨#[48]⟩,⟨#[51,48]⟩,0,0⟩,⟨⟨#[97,112,97,114,116]⟩,2,[],⟨#[]⟩,⟨#[]⟩,1,2⟩]
def wT:List Sw:=[⟨2,1,1⟩,⟨1,1,1⟩]
def sT:List Sw:=[⟨1,1,1⟩,⟨2,1,1⟩]
theorem N1:∀r∈NZ,Qn r:=by
 intro r b;simp only[NZ,fi,pw,LP]at b;rcases b with rfl|rfl
 ·refine⟨fun s a=> ?_,dc,dc,dc,dc⟩;simp only[fi,pw,LP]at a;rcases a with rfl|rfl<;>decide
 ·exact⟨fun s a=>(by cases a),dc,dc,dc,dc⟩
theorem QE:vo KL KM NZ [] wT=([1,0],0):=kF
theorem QF:vq KL KM NZ [] wT=([0,2,3],0):=kF
theorem QG:tM KL KM NZ [] wT 3=(sT,0):=kF
theorem KX:qJ KL KM [] sT=([⟨1,1,1⟩,⟨2,1,1⟩],0):=kF
theorem N2:tN KL KM NZ [] wT [0,1]=(0,15):=kF
theorem N3:wO KL KM NZ [] [⟨2,1,1⟩] [0]=0:=kF
theorem nk(w:World):Pure Tryz.prog 38 #[] w fun v w'=>∃A c A' c' A2 c2 xs,v= .agg #[.slice A 2 c,.slice A' 2 c',.slice A2 2 c2]/\fu w' A 2 A' 2 A2 2 c2 KL KM xs/\aT xs=NZ:=by
 refine F.mq.vc fun w1 q=> ?_
 have hw:=k0 q;refine dx Il (KL.map Pa.val) (by simp[KL,Value.cells]) (by simp[KL]) hw.size fun A c I r y=> ?_
 have hw:=kP hw y;refine dx Im (KM.map Ho.val) (by simp[KM,Value.cells]) (by simp[KM]) hw.size fun A' c' J B e=> ?_
 have hw:=kP hw e;refine dx wy [.string ⟨#[49,48]⟩,.string ⟨#[45,53]⟩] (by simp[Value.cells]) sm hw.size fun g i K C a=> ?_
 have hw:=kP hw a;refine dx NV [Rm.val ⟨⟨⟨#[108,105,115,116]⟩,1,[⟨#[49,48]⟩,⟨#[45,53]⟩],⟨#[48]⟩,⟨#[51,48]⟩,0,0⟩,g,2,i⟩,Rm.val ⟨⟨⟨#[97,112,97,114,116]⟩,2,[],⟨#[]⟩,⟨#[]⟩,1,2⟩,none,0,0⟩] (by simp[Value.cells]) sm hw.size fun A2 c2 L D b j k=> ?_
 have d:=Kq.ext k;have E:=(((r.below e).below a).below b).kq d dc dc;have G:=((B.below a).below b).kq d dc dc;have l:=(C.below b).kq d dc dc;have m:=D.ML k dc;have s2:cK j A 7 (KL.map Pa.row):=E.sl;have H:cK j A' 7 (KM.map Ho.row):=G.sl;refine⟨A,c,A',c',A2,c2,[⟨⟨⟨#[108,105,115,116]⟩,1,[⟨#[49,48]⟩,⟨#[45,53]⟩],⟨#[48]⟩,⟨#[51,48]⟩,0,0⟩,g,2,i⟩,⟨⟨⟨#[97,112,97,114,116]⟩,2,[],⟨#[]⟩,⟨#[]⟩,1,2⟩,none,0,0⟩],rfl,⟨⟨s2,H,rfl,rfl,fun p hp=> ?_,fun h o=> ?_,om,om⟩,m.sl,rfl,fun x hx=> ?_,om,m.gV⟩,rfl⟩
 ·simp only[KL,fi,pw,LP]at hp;rcases hp with rfl|rfl<;>exact⟨dc,dc,dc,dc⟩
 ·simp only[KM,fi,pw,LP]at o;rcases o with rfl|rfl<;>exact⟨dc,dc,dc,dc,dc,dc⟩
 ·simp only[fi,pw,LP]at hx;rcases hx with rfl|rfl
  ·exact⟨l.sl,rfl,N1 _ (by simp[NZ]),l.z⟩
  ·exact⟨.inl rfl,rfl,N1 _ (by simp[NZ]),fun _=>rfl⟩
theorem tn{w:World}(q:cT w):Pure Tryz.prog 10 #[] w fun v _=>v= .bool true:=by
 refine F.jW.vc ?_;refine dx AZ (wT.map Sw.val) (by simp[wT,Value.cells]) (by simp[wT]) lf fun A1 c1 w3 o3 b3=> ?_
 have h1:cK w3 A1 3 (wT.map Sw.row):=o3.sl;have Lm:2<=c1:=o3.gV;have hw:=b3;refine pm (nk w3) ?_;rintro v w8 b8 ⟨A4,c4,A5,c5,x,y,xs,rfl,hp,e⟩;have hw:=kP hw b8;have h1:=h1.below b8;refine⟨_,_,_,_,_,_,_,_,_,rfl,pm (CV (l:=[]) (n:=0) (q.next hw) hp (.inl rfl) rfl lf om h1 rfl) ?_⟩;rw[e,QE];rintro v tz wI ⟨A9,n9,c9,rfl,a,l9,_⟩;have hw:=kP hw wI;have h1:=h1.below wI;refine⟨_,_,_,_,rfl,pm (nk tz) ?_⟩;rintro v wX V ⟨A4,c4,A5,c5,x,y,xs,rfl,hp,e⟩;have hw:=kP hw V;have h1:=h1.below V;have a:=a.below V;refine⟨_,_,_,_,_,_,_,_,_,rfl,pm (yk (l:=[]) (n:=0) (q.next hw) hp (.inl rfl) rfl lf om h1 rfl) ?_⟩;rw[e,QF];rintro v BN W ⟨SO,n18,SP,rfl,b,B,_⟩;have hw:=kP hw W;have h1:=h1.below W;have a:=a.below W;refine⟨_,_,_,_,rfl,pm (nk BN) ?_⟩;rintro v Kg M ⟨A4,c4,A5,c5,x,y,xs,rfl,hp,e⟩;have hw:=kP hw M;have h1:=h1.below M;have a:=a.below M;have b:=b.below M;refine⟨_,_,_,_,_,_,_,_,_,rfl,pm (CT (l:=[]) (n:=0) (q.next hw) hp (.inl rfl) rfl lf om h1 rfl 3) ?_⟩;rw[e,QG];rintro v OK N ⟨Yc,n27,Yd,rfl,X,Y,WO,_⟩;have hw:=kP hw N;have h1:=h1.below N;have a:=a.below N;have b:=b.below N;have n27:2=n27:=Y;subst n27;refine⟨_,_,_,_,rfl,pm (nk OK) ?_⟩;rintro v OC C ⟨A4,c4,A5,c5,x,y,xs,rfl,hp,e⟩;have hw:=kP hw C;have h1:=h1.below C;have a:=a.below C;have b:=b.below C;have X:=X.below C;refine⟨_,_,_,_,_,_,_,_,_,rfl,pm (yj (l:=[]) (n:=0) (m:=sT) (q.next hw) hp.c (.inl rfl) rfl lf om X rfl WO om) ?_⟩;rw[KX];rintro v V6 O ⟨YK,n36,YL,rfl,d,D,_⟩;have hw:=kP hw O;have h1:=h1.below O;have a:=a.below O;have b:=b.below O;refine⟨_,_,_,_,rfl,pm (nk V6) ?_⟩;rintro v Nf E ⟨A4,c4,A5,c5,x,y,xs,rfl,hp,e⟩;have hw:=kP hw E;have h1:=h1.below E;have a:=a.below E;have b:=b.below E;have d:=d.below E;refine⟨_,_,_,_,_,_,_,_,_,rfl,dx ft [.int .i64 0,.int .i64 1] (by simp[Value.cells]) sm hw.size fun Z c45 WT o47 z=> ?_⟩;have hw:=kP hw z;have h1:=h1.below z;have a:=a.below z;have b:=b.below z;have d:=d.below z;have s45:cK WT Z 1 (([0,1]:List Int).map dy):=o47.sl;refine pm (CU (l:=[]) (n:=0) (o:=[0,1]) (q.next hw) (hp.aj z) (.inl rfl) rfl lf om h1 rfl s45 rfl dc) ?_;rw[e,N2];rintro v Ex G rfl;have hw:=kP hw G;have h1:=h1.below G;have a:=a.below G;have b:=b.below G;have d:=d.below G;refine⟨_,_,rfl,fun _=>⟨fun _=>⟨fun _=>⟨fun _ w52 H=> ?_,fun k=>absurd rfl k⟩,fun k=>absurd rfl k⟩,fun k=>absurd rfl k⟩,fun k=>absurd rfl k⟩;have hw:=kE hw H;have h1:=h1.eA H;have a:=a.eA H;have b:=b.eA H;have d:=d.eA H;refine dx ft [.int .i64 1,.int .i64 0] (by simp[Value.cells]) sm hw.size fun A53 c53 Tf o55 I=> ?_
 have hw:=kP hw I;have h1:=h1.below I;have a:=a.below I;have b:=b.below I;have d:=d.below I;have s53:cK Tf A53 1 (([1,0]:List Int).map dy):=o55.sl;refine pm (Em a s53 l9 rfl (by subst l9;decide)) ?_;rintro v J2 P rfl;have hw:=kP hw P;have h1:=h1.below P;have b:=b.below P;have d:=d.below P;refine⟨_,rfl,fun _=> ?_,fun k=>by simp at k⟩;refine dx ft [.int .i64 0,.int .i64 2,.int .i64 3] (by simp[Value.cells]) sm hw.size fun A59 c59 w61 o61 Q=> ?_
 have hw:=kP hw Q;have h1:=h1.below Q;have b:=b.below Q;have d:=d.below Q;have s59:cK w61 A59 1 (([0,2,3]:List Int).map dy):=o61.sl;refine pm (Em b s59 B rfl (by subst B;decide)) ?_;rintro v GJ h rfl;have hw:=kP hw h;have h1:=h1.below h;have d:=d.below h;refine⟨_,rfl,fun _=>⟨fun _=> ?_,fun k=>absurd rfl k⟩,fun k=>by simp at k⟩;obtain⟨c1a,a65,abP,Xm,_⟩:=h1.at_ (fun _=>rfl) (n:=2) rfl (i:=1) dc;obtain⟨c0a,a66,abQ,Xn,_⟩:=h1.at_ (fun _=>rfl) (n:=2) rfl (i:=0) dc;have fin:∀(A:Option Addr)(c:Nat)(R:World),Below GJ.heap.size GJ R->cK R A 3 (([⟨1,1,1⟩,⟨2,1,1⟩]:List Sw).map Sw.row)->Pure Tryz.prog 39 #[.slice YK n36 YL,.slice A 2 c] R fun v g=>v= .bool true/\Below w.heap.size w g/\cK g A1 3 (([⟨2,1,1⟩]:List Sw).map Sw.row):=by
  intro A c R hb hA;refine pm (TM (l:=[⟨1,1,1⟩,⟨2,1,1⟩]) (d.below hb) hA D rfl (by subst D;decide)) ?_;rintro v g Xo rfl;exact⟨by rw[fc rfl],kP (kP hw hb) Xo,((h1.below hb).below Xo).take 1⟩
 have last:∀(g:World),Below w.heap.size w g->cK g A1 3 (([⟨2,1,1⟩]:List Sw).map Sw.row)->∀(NY:Option Addr) (QD:Nat) (J:World) (A c A' c' A2 c2) (xs:List Rm),Below g.heap.size g J->fu J A 2 A' 2 A2 2 c2 KL KM xs->aT xs=NZ->cK J NY 1 (([0]:List Int).map dy)->Pure Tryz.prog 30 #[.agg #[.slice A 2 c,.slice A' 2 c',.slice A2 2 c2],.slice none 0 0,.slice A1 1 c1,.slice NY 1 QD] J fun r _=>∃i:Int,r= .int .i64 i/\Value.bool (decide (i=0))= .bool true:=by
  intro g Xp abR NY QD J A c A' c' A2 c2 xs hb hp e dX;refine pm (Be (l:=[]) (n:=0) (works:=[⟨2,1,1⟩]) (S:=[0]) (q.next (kP Xp hb)) hp (.inl rfl) rfl lf om (abR.below hb) rfl dX rfl dc) ?_;rw[e,N3];rintro v WX _ rfl;exact⟨_,rfl,rfl⟩
 refine⟨c1a,a65,abP,c0a,a66,abQ,⟨_,_,_,Xm,_,_,_,Xn,?_⟩,⟨_,_,_,Xn,_,_,_,Xm,?_⟩⟩
 all_goals
  refine dx AZ [Sw.val ⟨1,1,1⟩,Sw.val ⟨2,1,1⟩] (by simp[Value.cells]) sm hw.size fun A73 c73 w75 o75 b75=> ?_
  refine pm (fin A73 c73 w75 b75 o75.sl) ?_;rintro v GZ _ ⟨rfl,T,K⟩;refine⟨_,rfl,fun _=>⟨fun _=>⟨fun _=>⟨om,?_,?_⟩,fun k=>absurd rfl k⟩,fun k=>absurd rfl k⟩,fun k=>by cases k⟩
  ·refine pm (nk GZ) ?_;rintro v YM L ⟨A4,c4,A5,c5,x,y,xs,rfl,hp,e⟩;refine⟨_,_,_,_,_,_,_,_,_,rfl,dx ft [.int .i64 0] (by simp[Value.cells]) sm (kP T L).size fun WU WV WW j U=> ?_⟩;exact last GZ T K WU WV WW _ _ _ _ _ _ xs (kP L U) (hp.aj U) e j.sl
  ·refine dx ft [.int .i64 0] (by simp[Value.cells]) sm T.size fun WU WV WW j U=> ?_
   refine pm (nk WW) ?_;rintro v YM L ⟨A4,c4,A5,c5,x,y,xs,rfl,hp,e⟩;refine⟨_,_,_,_,_,_,_,_,_,rfl,?_⟩;exact last GZ T K WU WV YM _ _ _ _ _ _ xs (kP U L) hp e (j.sl.below L)
def Jy(ps:List Pa)(hs:List Ho)(rs:List Ru)(n n3:Nat):Bool:=uG ps hs rs&&(decide (n<=40)&&decide (n3<=7))
section
variable {w:World} {A0 A1 A2 A A3:Option Addr} {n0 c0 n1 c1 n2 c2 n c n3 c3:Nat} {ps:List Pa} {hs:List Ho} {xs:List Rm}
theorem xD(h:rN w A0 n0 c0 A1 n1 c1 A2 n2 c2 ps hs xs):
  Pure Tryz.prog 11 #[.agg #[.slice A0 n0 c0,.slice A1 n1 c1,.slice A2 n2 c2],.slice A n c,.slice A3 n3 c3] w fun v _=>v= .bool (Jy ps hs (aT xs) n n3):=by
 refine F.mo.vc fun w1 a=>pm (QA (h.aj (k0 a))) ?_
 rintro v d _ rfl;unfold Jy;refine⟨_,rfl,fun k=>⟨fun b=> ?_,fun b=> ?_⟩,fun k=> ?_⟩
 ·rw[k,lI,fc (show n<=40 by omega),lI];refine dB Value.bool ?_;rw[jB];omega
 ·rw[k,lI,eh (show ¬n<=40 by omega),nZ]
 ·rw[k,nZ]
end

structure Ar (w:World) (A0:Option Addr) (n0 c0:Nat) (A1:Option Addr) (n1 c1:Nat) (A2:Option Addr) (n2 c2:Nat) (A:Option Addr) (n:Nat) (A3:Option Addr) (n3:Nat) (ps:List Pa) (hs:List Ho) (xs:List Rm) (l works:List Sw):Prop where
 p:fu w A0 n0 A1 n1 A2 n2 c2 ps hs xs
 z0:A0=none->c0=0
 z1:A1=none->c1=0
 s:cK w A 3 (l.map Sw.row)
 ls:l.length=n
 n:n<=40
 wk:cK w A3 3 (works.map Sw.row)
 lw:works.length=n3
 n7:n3<=7
section
variable {w w':World} {A0 A1 A2 A A3:Option Addr} {n0 c0 n1 c1 n2 c2 n c n3 c3:Nat} {ps:List Pa} {hs:List Ho} {xs:List Rm} {l works:List Sw}
theorem Ar.aj(h:Ar w A0 n0 c0 A1 n1 c1 A2 n2 c2 A n A3 n3 ps hs xs l works)(hb:Below w.heap.size w w'):Ar w' A0 n0 c0 A1 n1 c1 A2 n2 c2 A n A3 n3 ps hs xs l works:=
 ⟨h.p.aj hb,h.z0,h.z1,h.s.aj hb lf,h.ls,h.n,h.wk.aj hb lf,h.lw,h.n7⟩
theorem Xr(h:Ar w A0 n0 c0 A1 n1 c1 A2 n2 c2 A n A3 n3 ps hs xs l works){K:Option Addr->Nat->Nat->Option Addr->Nat->Nat->Option Addr->Nat->Nat->Option Addr->Nat->Nat->Option Addr->Nat->Nat->World->Prop}
  (x:∀B0 d0 b d1 d d2 e cs g i a j,Below w.heap.size w a->fu a B0 n0 b n1 d n2 d2 ps hs j->aT j=aT xs->cK a e 3 (l.map Sw.row)->n<=cs->cK a g 3 (works.map Sw.row)->K B0 n0 d0 b n1 d1 d n2 d2 e n cs g n3 i a):
  Pure Tryz.prog 17 #[.agg #[.slice A0 n0 c0,.slice A1 n1 c1,.slice A2 n2 c2]] w fun r w1=>∃B0 m0 d0 b m1 d1 d m2 d2,r= .agg #[.slice B0 m0 d0,.slice b m1 d1,.slice d m2 d2]/\
   (Pure Tryz.prog 14 #[.slice A n c] w1 fun r o=>∃e ms cs,r= .slice e ms cs/\
    (Pure Tryz.prog 18 #[.slice A3 n3 c3] o fun r a=>∃g q i,r= .slice g q i/\K B0 m0 d0 b m1 d1 d m2 d2 e ms cs g q i a)):=by
 have hn:=h.n;have B:=h.n7;refine pm (NW h.p h.z0 h.z1) ?_;rintro v w1 b1 ⟨B0,d0,b,d1,d,d2,j,rfl,hp,y,_⟩;refine⟨_,_,_,_,_,_,_,_,_,rfl,pm (Ei (h.s.aj b1 lf) h.ls om) ?_⟩;rintro v o k ⟨e,cs,rfl,os⟩;refine⟨_,_,_,rfl,pm (TL ((h.wk.aj b1 lf).aj k lf) h.lw om) ?_⟩;rintro v a m ⟨g,i,rfl,z⟩;exact⟨_,_,_,rfl,x _ _ _ _ _ _ _ _ _ _ _ j (kP (kP b1 k) m) ((hp.aj k).aj m) y (os.below m).sl os.gV z.sl⟩
theorem IT(a:rN w A0 n0 c0 A1 n1 c1 A2 n2 c2 ps hs xs)(b:cK w A 3 (l.map Sw.row))(hl:l.length=n)(hw:cK w A3 3 (works.map Sw.row))(d:works.length=n3)(hf:Jy ps hs (aT xs) n n3=true):Ar w A0 n0 c0 A1 n1 c1 A2 n2 c2 A n A3 n3 ps hs xs l works:=by
 unfold Jy at hf;rw[eb,eb]at hf;exact⟨a.few hf.1,a.z0,a.z1,b,hl,hG hf.2.1,hw,d,hG hf.2.2⟩
end

theorem TN{w0:World}{A A1:Option Addr}{n n1 c c1:Nat}{l g:List Sw}(h:cK w0 A 3 (l.map Sw.row))(h1:cK w0 A1 3 (g.map Sw.row))(hlen:l.length=n)(x:g.length=n1)(hn:n<2147483648):
  Pure Tryz.prog 21 #[.slice A n c,.slice A1 n1 c1] w0 fun y _=>y= .bool (decide (l=g)):=by
 have key:n=n1->∀(d i:Nat)(w:World),n - i=d->i<=n->Below w0.heap.size w0 w->l.take i=g.take i->F.bo.L4 A n c A1 n1 c1 n i w0.heap.size w fun y _=>y= .bool (decide (l=g)):=by
  intro e d;induction d with
  |zero=>
   intro i w z hi hw hx;refine F.bo.L4.step ⟨fun h=>by omega,fun _=> ?_⟩;rw[bx om,bx om]at hx;rw[fc hx]
  |succ d ih=>
   intro i w z hi hw hx;have o:i<l.length:=om;have q:i<g.length:=om;have B:=sc i;obtain⟨hb,a,C,j,_⟩:=(h.aj hw lf).at_ (fun _=>rfl) hlen o;obtain⟨m,D,E,b,_⟩:=(h1.aj hw lf).at_ (fun _=>rfl) x q;refine F.bo.L4.step ⟨fun _=>⟨hb,a,C,_,_,_,j,m,D,E,_,_,_,b,fun k r _=> ?_,fun k=>⟨ir,fun r G=> ?_⟩⟩,fun h=>by omega⟩
   ·rw[eh fun e=>k (by subst e;exact⟨rfl,rfl,rfl,trivial⟩)]
   ·rw[B];refine ih (i+1) r om om (kE hw G) ?_;have k:=ep.1 k;have e:l[i]=g[i]:=by
     cases H:l[i];cases I:g[i];rw[H,I]at k;simp only at k;rw[k.1,k.2.1,k.2.2.1]
    rw[eN,eN,hx,af o,af q,e]
 refine F.bo.vc ⟨fun k=> ?_,fun k=>key om n 0 w0 rfl om (Below.refl _ _) sm⟩;rw[eh fun e=>k (by subst e;omega)]

end Go.Proofs.YtgfkeadgjkfomaaGreatDoor.B
