/- Part 4 of the proofs that: Each step that was done was approved; folding in two parts is folding at once. -/
import Derived.Test.YtbcojgcjjpggnaaGreatDoorA3
import Derived.Lib.ItoaNum
import Derived.Lib.LaidTab
import Derived.Test.YtbcojgcjjpggnaaGreatDoorProg
set_option linter.unusedVariables false
set_option linter.unusedSimpArgs false
namespace Go.Proofs.YtbcojgcjjpggnaaGreatDoor.B

theorem PU{top b low M v1 v2 vl q:Nat}(hu:b<1000000000)(hl:low<M)(h:q*((v1*1000000000+v2)*M+vl)<=(top*1000000000+b)*M+low):q*v1<=top:=by
 apply bm;intro hn;have h1:(top+1)*(1000000000*M)<=q*v1*(1000000000*M):=gb _ om;have c:q*v1*(1000000000*M)<=q*((v1*1000000000+v2)*M+vl):=by
  have:q*((v1*1000000000+v2)*M+vl)=q*v1*(1000000000*M)+q*(v2*M+vl):=gD;omega
 have d:(top*1000000000+b)*M+M<=(top+1)*(1000000000*M):=by
  have a:(top*1000000000+b+1)*M<=((top+1)*1000000000)*M:=gb _ om;grind
 omega

theorem PV{top a low M v1 v2 vl q g rest:Nat}(hl:low<M)(h:q*((v1*1000000000+v2)*M+vl)<=(top*1000000000+a)*M+low)(hg:g*v1+rest=top)(b:q<=g)
  (c:g*v2>rest*1000000000+a):q<g:=by
 rcases Ip q g with h1|h1
 ·exact h1
 ·have e:q=g:=om;subst e;have d:(top*1000000000+a+1)*M<=(q*(v1*1000000000+v2))*M:=gb _ gD;have f:q*((v1*1000000000+v2)*M+vl)=(q*(v1*1000000000+v2))*M+q*vl:=gD;have i:(top*1000000000+a+1)*M=(top*1000000000+a)*M+M:=gD;omega

theorem BC{top a low M v1 v2 vl g rest:Nat}(hl:vl<M)(b:1<=v1)(hg:g*v1+rest=top)(hb:g<=1000000000)(c:g*v2<=rest*1000000000+a):
  g*((v1*1000000000+v2)*M+vl)<((top*1000000000+a)*M+low)+((v1*1000000000+v2)*M+vl):=by
 have h1:(g*(v1*1000000000+v2))*M<=(top*1000000000+a)*M:=gb _ gD;have d:g*((v1*1000000000+v2)*M+vl)=(g*(v1*1000000000+v2))*M+g*vl:=gD;have e:g*vl<=1000000000*vl:=gb _ hb;have f:1*(1000000000*M)<=v1*(1000000000*M):=gb _ b;have h:(v1*1000000000+v2)*M=v1*(1000000000*M)+v2*M:=gD;omega

theorem HJ{top a low M v1 v2 vl g:Nat}(b:0<M)(c:v2<1000000000)(hl:vl<M)(hn:1000000000<=2*v1)(d:(top*1000000000+a)*M+low<1000000000*((v1*1000000000+v2)*M+vl))(hg:g*v1<=top):g<=1000000001:=by
 have h1:top*M<(v1*1000000000+v2+1)*M:=gD;have e:top<v1*1000000000+v2+1:=Nat.lt_of_mul_lt_mul_right h1;apply bm;intro f;have h:1000000002*v1<=g*v1:=gb _ om;omega

theorem HK{v f:Nat}(g:1<=v)(c:v<1000000000)(hf:f=1000000000 / (v+1)):1<=f/\(v+1)*f<=1000000000/\1000000000<=2*(v*f):=by
 have d:=Ek 1000000000 (v+1);have h1:=Js 1000000000 (show 0<v+1 by omega);rw[<-hf]at d;have e:1<=f:=by
  rw[hf];exact(Nat.one_le_div_iff om).2 om
 refine⟨e,om,?_⟩;obtain⟨a,rfl⟩:∃a,v=a+1:=⟨v - 1,om⟩
 obtain⟨b,rfl⟩:∃b,f=b+1:=⟨f - 1,om⟩
 have h:(a+1+1)*(b+1)=(a+1)*(b+1)+(b+1):=gD;have i:(a+1)*(b+1)=a*b+a+b+1:=gD;omega

theorem PX{P Q W f V g a c br D x c' b:Nat}(h:f+g*V=Q+P*(c+br))(j:W+P*D=f+P*x)(hx:x+(g*a+c) % 1000000000+br=D+1000000000*b)(i:c'=(g*a+c) / 1000000000):
  W+g*(V+P*a)=Q+(P*1000000000)*(c'+b):=by
 have d:=Ek (g*a+c) 1000000000;rw[<-i]at d;generalize (g*a+c) % 1000000000=m at*;have e:P*x+P*m+P*br=P*D+P*(1000000000*b):=by rw[<-oj,<-oj,hx,oj]
 have k:P*(1000000000*c')+P*m=P*(g*a)+P*c:=by rw[<-oj,d,oj]
 clear hx d i;grind

theorem PY{P Q W d V a c D x c':Nat}(h:d+P*c=Q+V)(f:W+P*D=d+P*x)(hx:x=(c+(D+a)) % 1000000000)(e:c'=(c+(D+a)) / 1000000000):
  W+(P*1000000000)*c'=Q+(V+P*a):=by
 have b:=Ek (c+(D+a)) 1000000000;rw[<-e,<-hx]at b;have g:P*(1000000000*c')+P*x=P*c+(P*D+P*a):=by rw[<-oj,b,oj,oj]
 clear hx b e;grind

theorem PZ{D:List Nat}{k:Nat}(a:k<=D.length)(hs:Small D)(h:wv D<1000000000^(k+1)):wv D=wv (D.take k)+1000000000^k*D.getD k 0/\wv (D.take k)<1000000000^k:=by
 have h1:=lV D k a;rw[lU]at h1;have b:=pg (hs.take k);rw[ew,nF a]at b;have c:wv (D.drop (k+1))=0:=by
  apply bm;intro c;have d:1000000000^k*(1000000000*1)<=1000000000^k*(1000000000*wv (D.drop (k+1))):=ib _ (ib _ om);rw[oj]at h1;rw[ky]at h;omega
 rw[c]at h1;exact⟨by simpa using h1,b⟩

open Go Go.RowKit Go.Proofs Go.Proofs.YtbcojgcjjpggnaaGreatDoor.Vc

theorem eW.other{w w':World}{B:Nat}{A:Option Addr}{n c:Nat}{ws:List Nat}(h:eW w B A n c ws)(a:∀b,Value.ownBlock (.slice A n c)=some b->w'.heap[b]? =w.heap[b]?):eW w' B A n c ws:=by
 refine⟨h.1,?_⟩;rcases h.2 with h1|⟨g,cap,cur,h1,d,e,i⟩
 ·exact .inl h1
 ·refine .inr ⟨g,cap,cur,h1,d,?_,i⟩;rw[a g (by rw[h1];rfl)];exact e
theorem eW.uJ{w:World}{B:Nat}{A:Option Addr}{n c:Nat}{ws:List Nat}(h:eW w B A n c ws):∀b,Value.ownBlock (.slice A n c)=some b->B<=b/\b<w.heap.size:=World.ownsRow.lt h

theorem ie{pre D:List Nat}{j i:Nat}(h:pre.length=j):(pre++D).getD (i+j) 0=D.getD i 0:=by
 rw[cb,hU om,cb]
 congr 2;omega
theorem Fy{pre D:List Nat}{j i x:Nat}(h:pre.length=j):(pre++D).set (i+j) x=pre++D.set i x:=by
 rw[yl _ _ om]
 congr 2;omega
theorem getD_set_ne{D:List Nat}{i t x:Nat}(h:i≠t):(D.set i x).getD t 0=D.getD t 0:=by
 rw[cb,LM h,<-cb]

theorem sb{D a:List Nat}{k:Nat}(h:D.drop k=a.drop k):D.getD k 0=a.getD k 0:=by
 have e:∀l:List Nat,l.getD k 0=(l.drop k).getD 0 0:=fun l=>by rw[cb,cb,k7,va]
 rw[e D,e a,h]

structure Div (w1 w:World) (B:Nat) (Au:Option Addr) (nu cu:Nat) (us:List Nat) (Aq:Option Addr) (nq cq:Nat) (qs:List Nat):Prop where
 u:eW w B Au nu cu us
 q:eW w B Aq nq cq qs
 su:Small us
 sq:Small qs
 fr:∀k,k<w1.heap.size->some k≠Value.ownBlock (.slice Au nu cu)->some k≠Value.ownBlock (.slice Aq nq cq)->w.heap[k]? =w1.heap[k]?
 below:Below B w1 w

section
variable {w1 w:World} {B:Nat} {Au:Option Addr} {nu cu:Nat} {us:List Nat} {Aq:Option Addr} {nq cq:Nat} {qs:List Nat}

def Sep(A Au Aq:Option Addr)(nu cu nq cq:Nat):Prop:=∀a,A=some a->some a.block≠Value.ownBlock (.slice Au nu cu)/\some a.block≠Value.ownBlock (.slice Aq nq cq)
def BD(Au Aq:Option Addr):Prop:=∀a b,Au=some a->Aq=some b->a.block≠b.block

theorem Div.sl(h:Div w1 w B Au nu cu us Aq nq cq qs){A:Option Addr}{ws:List Nat}(hs:mZ w1 A ws)(d:Sep A Au Aq nu cu nq cq):mZ w A ws:=by
 rcases hs with h1|⟨b,off,all,fr,a,hb,e⟩
 ·exact .inl h1
 ·refine .inr ⟨b,off,all,fr,a,?_,e⟩;have c:=d _ a;rw[h.fr b (ax.1 hb).1 c.1 c.2];exact hb

theorem Div.ext(h:Div w1 w B Au nu cu us Aq nq cq qs){c:World}(e:Ext B [] w c):Div w1 c B Au nu cu us Aq nq cq qs:=by
 have same:∀k,k<w.heap.size->c.heap[k]? =w.heap[k]? :=fun k a=>by
  rcases e.other k a with h1|⟨t,d,_⟩
  ·exact h1
  ·cases d
 exact⟨h.u.other fun b hb=>same b (h.u.uJ b hb).2,h.q.other fun b hb=>same b (h.q.uJ b hb).2,h.su,h.sq,
  fun k a h1 g=>by rw[same k (sS a h.below.size)];exact h.fr k a h1 g,h.below.trans e.below⟩

theorem Div.Fz(h:Div w1 w B Au nu cu us Aq nq cq qs)(ha:BD Au Aq){j x:Int}(d:0<=j)(h1:j<nu)(hx:0<=x)(g:x<1000000000){K:World->Prop}
  (k:∀c,Div w1 c B Au nu cu (us.set j.toNat x.toNat) Aq nq cq qs->K c):
  (0<=j/\j<nu)/\∃a,Au=some a/\∃(cs:List Value)(t:Nat),B<=(a.add (j.toNat*1)).block/\(a.add (j.toNat*1)).spot=none/\w.heap[(a.add (j.toNat*1)).block]? =some (.cells cs.toArray t (0,0))/\
   (a.add (j.toNat*1)).off+1<=cs.length/\hasType t []=false/\∀w1,aL w w1 (a.add (j.toNat*1)).block t (setCells cs (a.add (j.toNat*1)).off [.int .u32 x])->K w1:=by
 refine h.u.store d h1 hx rfl fun c i l f1=>k c ⟨i,h.q.other fun b hb=>f1 b ?_,h.su.set om,h.sq,fun k m h1 n=>by rw[f1 k h1];exact h.fr k m h1 n,h.below.trans l⟩
 intro e;cases Au with
 |none=>simp[Value.ownBlock]at e
 |some a=>cases Aq with
  |none=>simp[Value.ownBlock]at hb
  |some o=>
   simp[Value.ownBlock]at e hb;exact ha _ _ rfl rfl om

theorem Div.Yi(h:Div w1 w B Au nu cu us Aq nq cq qs)(ha:BD Au Aq){j x:Int}(g:0<=j)(h1:j<nq)(hx:0<=x)(i:x<1000000000){K:World->Prop}
  (k:∀c,Div w1 c B Au nu cu us Aq nq cq (qs.set j.toNat x.toNat)->K c):
  (0<=j/\j<nq)/\∃a,Aq=some a/\∃(cs:List Value)(t:Nat),B<=(a.add (j.toNat*1)).block/\(a.add (j.toNat*1)).spot=none/\w.heap[(a.add (j.toNat*1)).block]? =some (.cells cs.toArray t (0,0))/\
   (a.add (j.toNat*1)).off+1<=cs.length/\hasType t []=false/\∀w1,aL w w1 (a.add (j.toNat*1)).block t (setCells cs (a.add (j.toNat*1)).off [.int .u32 x])->K w1:=by
 refine h.q.store g h1 hx rfl fun c l m f1=>k c ⟨h.u.other fun b hb=>f1 b ?_,l,h.su,h.sq.set om,fun k n h1 d=>by rw[f1 k d];exact h.fr k n h1 d,h.below.trans m⟩
 intro e;cases Aq with
 |none=>simp[Value.ownBlock]at e
 |some a=>cases Au with
  |none=>simp[Value.ownBlock]at hb
  |some o=>
   simp[Value.ownBlock]at e hb;exact ha _ _ rfl rfl om
end

section
variable {w1:World} {B:Nat} {Af Au Av Aq:Option Addr} {nf cf nu cu nv cv nq cq:Nat} {vs:List Nat} {R:Value->World->Prop}

theorem LZ(ha:BD Au Aq)(hn:nu<=1000000){w:World}{pre D qs:List Nat}{g j:Nat}{last:Int}(h:Div w1 w B Au nu cu (pre++D) Aq nq cq qs)(hj:pre.length=j)(m:nv<D.length)(hg:g<1000000000)(n:j<nq)(hl:last<1000000000)
  (d:∀a,Div w1 a B Au nu cu (pre++D.set nv last.toNat) Aq nq cq (qs.set j g)->F.ab.yn Af nf cf Au nu cu Av nv cv nv Aq nq cq ((j:Int) - 1) B a R):
  F.ab.Wf Af nf cf Au nu cu Av nv cv nv Aq nq cq j g last B w R:=by
 have i:=h.u.len;simp only[ek]at i;have e:(if(0:Int)>last then(0:Int)else last)=(last.toNat:Int):=by split<;>omega
 refine F.ab.Wf.step ⟨ir,by rw[e];simp only[aU];omega,?_⟩;rw[e];refine h.Fz ha om om om om fun a b=>⟨ir,?_⟩
 have k:((j:Int)+(nv:Int)).toNat=nv+j:=om;rw[k,ca,Fy hj]at b;refine b.Yi ha om om om om fun l c=>⟨ir,?_⟩
 rw[ca,ca]at c;exact d l c

theorem TN(ha:BD Au Aq)(hn:nu<=1000000)(z:mZ w1 Av vs)(A:vs.length=nv)(C:Small vs)(E:Sep Av Au Aq nu cu nq cq){pre c qs:List Nat}{g j:Nat}{last:Int}(hj:pre.length=j)(Q:nv<c.length)(S: -2000000000<=last/\last<0)
  (G:∀w D (up:Nat),Div w1 w B Au nu cu (pre++D) Aq nq cq qs->D.length=c.length->up<=1->D.drop nv=c.drop nv->wv D+1000000000^nv*up=wv c+wv vs->
   F.ab.Wf Af nf cf Au nu cu Av nv cv nv Aq nq cq j g (last+up) B w R):
  ∀(d i:Nat)(w:World)(D:List Nat)(up:Nat),nv - i=d->i<=nv->Div w1 w B Au nu cu (pre++D) Aq nq cq qs->D.length=c.length->up<=1->D.drop nv=c.drop nv->wv D+1000000000^i*up=wv c+wv (vs.take i)->
   F.ab.SI Af nf cf Au nu cu Av nv cv nv Aq nq cq j g last up nv i B w R:=by
 intro d;induction d with
 |zero=>
  intro i w D up H hi h hl hu o he;have I:i=nv:=om;subst I;rw[de om]at he;refine F.ab.SI.step ⟨fun h=>by omega,fun _=>⟨ir,ir,?_⟩⟩;exact G w D up h hl hu o he
 |succ d ih=>
  intro i w D up H hi h hl hu o he;have q:=h.u.len;have J:=q;simp only[ek]at q;have T:=C.getD i;have L:=h.su.getD (i+j);have m:((i:Int)+(j:Int)).toNat=i+j:=om;rw[ie hj]at L;refine F.ab.SI.step ⟨fun _=>⟨ir,?_⟩,fun h=>by omega⟩;refine h.u.sl.load J om om ⟨by rw[m,ie hj];simp only[aU];omega,?_⟩;refine(h.sl z E).load A om om ?_;rw[m,ca,ie hj];refine⟨ir,ir,ir,ir,om,ir,?_⟩;have k:∃a,Au=some a:=by
   obtain⟨a,M,_⟩:=h.u.sl.cell (j:=(i:Int)+j) om om;exact⟨a,M⟩
  obtain⟨a,rfl⟩:=k;have step:∀b,Div w1 b B (some a) nu cu ((pre++D).set ((i:Int)+(j:Int)).toNat ((((up:Int)+((D.getD i 0:Nat)+(vs.getD i 0:Nat))) % 1000000000)).toNat) Aq nq cq qs->
    F.ab.SI Af nf cf (some a) nu cu Av nv cv nv Aq nq cq j g last (((up:Int)+((D.getD i 0:Nat)+(vs.getD i 0:Nat))) / 1000000000) nv ((i:Int)+1) B b R:=by
   intro b n;obtain⟨t,r⟩:∃t,t=up+(D.getD i 0+vs.getD i 0):=⟨_,rfl⟩
   have y:(up:Int)+((D.getD i 0:Nat)+(vs.getD i 0:Nat))=(t:Int):=om;have N:=sc i;have O:((t:Int) % 1000000000).toNat=t % 1000000000:=om;have P:(t:Int) / 1000000000=((t / 1000000000:Nat):Int):=om;rw[y,m,O,Fy hj]at n;rw[y,N,P];refine ih (i+1) b _ _ om om n (by simpa using hl) om (by rw[Tu,bb om];exact o) ?_;rw[fv,ky];exact PY he (yq D i _ om) (by rw[r]) (by rw[r])
  refine⟨⟨om,om⟩,a,rfl,fun U e=> ?_⟩;obtain⟨_,V,ea,l⟩:=(h.ext e).Fz ha (j:=(i:Int)+(j:Int)) (x:=((up:Int)+((D.getD i 0:Nat)+(vs.getD i 0:Nat))) % 1000000000) om om om om (K:=fun b=>(0<=((up:Int)+((D.getD i 0:Nat)+(vs.getD i 0:Nat)))/\0<(1000000000:Int)/\aU .u64 ((up:Int)+((D.getD i 0:Nat)+(vs.getD i 0:Nat))))/\aU .i64 ((i:Int)+1)/\
   F.ab.SI Af nf cf (some a) nu cu Av nv cv nv Aq nq cq j g last (((up:Int)+((D.getD i 0:Nat)+(vs.getD i 0:Nat))) / 1000000000) nv ((i:Int)+1) B b R) (fun b n=>⟨⟨om,om,ir⟩,ir,step b n⟩)
  cases ea;rw[m]at l;exact l

theorem TO(ha:BD Au Aq)(hn:nu<=1000000)(A:mZ w1 Av vs)(C:vs.length=nv)(E:Small vs)(G:Sep Av Au Aq nu cu nq cq){pre a qs:List Nat}{g j:Nat}(hj:pre.length=j)(Q:nv<a.length)(hg:g<=1000000000)
  (H:∀w D (c br:Nat),Div w1 w B Au nu cu (pre++D) Aq nq cq qs->D.length=a.length->c<1000000000->br<=1->D.drop nv=a.drop nv->wv D+g*wv vs=wv a+1000000000^nv*(c+br)->
   ((a.getD nv 0:Nat) - (c:Int) - (br:Int)<0->1<=g/\F.ab.SI Af nf cf Au nu cu Av nv cv nv Aq nq cq j ((g:Int) - 1) ((a.getD nv 0:Nat) - (c:Int) - (br:Int)) 0 nv 0 B w R)/\
   (¬((a.getD nv 0:Nat) - (c:Int) - (br:Int)<0)->F.ab.Wf Af nf cf Au nu cu Av nv cv nv Aq nq cq j g ((a.getD nv 0:Nat) - (c:Int) - (br:Int)) B w R)):
  ∀(d i:Nat)(w:World)(D:List Nat)(c br:Nat),nv - i=d->i<=nv->Div w1 w B Au nu cu (pre++D) Aq nq cq qs->D.length=a.length->c<1000000000->br<=1->D.drop nv=a.drop nv->wv D+g*wv (vs.take i)=wv a+1000000000^i*(c+br)->
   F.ab.Bp Af nf cf Au nu cu Av nv cv nv Aq nq cq j g c br nv i B w R:=by
 intro d;induction d with
 |zero=>
  intro i w D c br I hi h hl z hb n he;have J:i=nv:=om;subst J;have l:=h.u.len;have q:=l;simp only[ek]at l;have r:=h.su.getD (i+j);rw[ie hj]at r;rw[de om]at he;have k:((j:Int)+(i:Int)).toNat=i+j:=om;have o:=H w D c br h hl z hb n he;rw[<-sb n]at o;refine F.ab.Bp.step ⟨fun h=>by omega,fun _=>⟨ir,?_⟩⟩;refine h.u.sl.load q om om ?_;rw[k,ie hj];exact⟨ir,ir,ir,fun h=>⟨by have:=(o.1 h).1;simp only[aU];omega,(o.1 h).2⟩,fun h=>o.2 h⟩
 |succ d ih=>
  intro i w D c br I hi h hl z hb n he;have l:=h.u.len;have q:=l;simp only[ek]at l;have S:=E.getD i;have r:=h.su.getD (i+j);have k:((i:Int)+(j:Int)).toNat=i+j:=om;rw[ie hj]at r;have K:=sc i;have L:g*vs.getD i 0<=1000000000*999999999:=vi hg om;obtain⟨p,hp⟩:∃p,p=g*vs.getD i 0+c:=⟨_,rfl⟩
  have M:(g:Int)*(vs.getD i 0:Nat)=((g*vs.getD i 0:Nat):Int):=by simp
  have y:((g*vs.getD i 0:Nat):Int)+(c:Int)=(p:Int):=om;have N:(p:Int) / 1000000000=((p / 1000000000:Nat):Int):=om;have next:∀(m x:Nat) b,m<=1->x+p % 1000000000+br=D.getD i 0+1000000000*m->Div w1 b B Au nu cu ((pre++D).set (i+j) x) Aq nq cq qs->
    F.ab.Bp Af nf cf Au nu cu Av nv cv nv Aq nq cq j g ((p / 1000000000:Nat):Int) m nv ((i:Int)+1) B b R:=by
   intro m x b O hx e;rw[Fy hj]at e;rw[K];refine ih (i+1) b _ _ m om om e (by simpa using hl) om O (by rw[Tu,bb om];exact n) ?_;rw[fv,ky];exact PX he (yq D i x om) (by rw[<-hp];exact hx) (by rw[<-hp])
  refine F.ab.Bp.step ⟨fun _=>⟨ir,?_⟩,fun h=>by omega⟩;refine(h.sl A G).load C om om ?_;rw[ca,M,y];refine⟨ir,ir,ir,⟨om,om,ir⟩,ir,?_⟩;refine h.u.sl.load q om om ?_;rw[k,ie hj,N];refine⟨ir,om,ir,ir,fun P=>⟨ir,ir,ir,?_⟩,fun P=>⟨ir,ir,?_⟩⟩
  ·rw[<-k];refine h.Fz ha om om om om fun b e=>⟨ir,?_⟩
   rw[k]at e;exact next 1 _ b om om e
  ·rw[<-k];refine h.Fz ha om om om om fun b e=>⟨ir,?_⟩
   rw[k]at e;exact next 0 _ b om om e

theorem mZ.Wi{w:World}{A:Option Addr}{ws:List Nat}{n:Nat}(h:mZ w A ws)(hl:ws.length=n){j:Int}(c:0<=j)(h1:j<n){K:World->Int->Prop}(k:∀b,Ext B [] w b->K b (ws.getD j.toNat 0:Nat)):
  (0<=j/\j<n)/\∃a,A=some a/\∀b,Ext B [] w b->∃i:Int,aa b (a.add (j.toNat*1)) [.int .u32 i]/\K b i:=by
 obtain⟨_,a,d,_,_⟩:=h.load hl c h1 (K:=fun _=>True) trivial;refine⟨⟨c,h1⟩,a,d,fun b e=> ?_⟩;obtain⟨_,o,g,i,l,m⟩:=(Ext.ab4 h e).load hl c h1 (K:=K b) (k b e);rw[d]at g;cases g;exact⟨i,l,m⟩

theorem TP(hn:nu<=1000000)(r:mZ w1 Av vs)(x:vs.length=nv)(K:Small vs)(y:Sep Av Au Aq nu cu nq cq)(N:2<=nv){pre D qs:List Nat}{j:Nat}(hj:pre.length=j)(U:nv<D.length)
  {top low M vl q T V:Nat} (O:low<M) (E:vl<M) (G:1<=vs.getD (nv - 1) 0) (z:V=(vs.getD (nv - 1) 0*1000000000+vs.getD (nv - 2) 0)*M+vl) (A:T=(top*1000000000+D.getD (nv - 2) 0)*M+low)
  (b:q*V<=T) (W:q<1000000000)
  (H:∀w (g:Nat),Div w1 w B Au nu cu (pre++D) Aq nq cq qs->g<=1000000000->q<=g->g*V<T+V->F.ab.Bp Af nf cf Au nu cu Av nv cv nv Aq nq cq j g 0 0 nv 0 B w R):
  ∀(g rest:Nat)(w:World),Div w1 w B Au nu cu (pre++D) Aq nq cq qs->g*vs.getD (nv - 1) 0+rest=top->q<=g->g<=1000000001->rest<1000000000->
   F.ab.Bo Af nf cf Au nu cu Av nv cv nv Aq nq cq j g rest B w R:=by
 have g1:=K.getD (nv - 1);have g2:=K.getD (nv - 2);have c:((nv:Int) - 1).toNat=nv - 1:=om;have d:((nv:Int) - 2).toNat=nv - 2:=om;have i:((j:Int)+(nv:Int) - 2).toNat=(nv - 2)+j:=om;intro g;induction g with
 |zero=>
  intro rest w h k C hg P;have l:=h.u.len;have I:=l;simp only[ek]at l;have J:=h.su.getD (nv - 2+j);rw[ie hj]at J;refine F.ab.Bo.step ⟨fun h=>by omega,fun _=>⟨ir,?_⟩⟩;refine(h.sl r y).load x om om ?_;rw[d];refine⟨ir,ir,ir,ir,ir,?_⟩;refine h.u.sl.load I om om ?_;rw[i,ie hj];refine⟨ir,ir,fun m=>by omega,fun m a e=>H a 0 (h.ext e) om C ?_⟩;rw[A,z];exact BC E G k om om
 |succ g ih=>
  intro rest w h k C hg P;have l:=h.u.len;have I:=l;simp only[ek]at l;have J:=h.su.getD (nv - 2+j);rw[ie hj]at J;have L:((g+1:Nat):Int) - 1=(g:Int):=om;have next:q<=g->∀a,Ext B [] w a->aU .u64 ((vs.getD (nv - 1) 0:Nat):Int)/\aU .u64 ((rest:Int)+(vs.getD (nv - 1) 0:Nat))/\
    (((rest:Int)+(vs.getD (nv - 1) 0:Nat)≥(1000000000:Int)->F.ab.Bp Af nf cf Au nu cu Av nv cv nv Aq nq cq j g 0 0 nv 0 B a R)/\
    (¬((rest:Int)+(vs.getD (nv - 1) 0:Nat)≥(1000000000:Int))->F.ab.Bo Af nf cf Au nu cu Av nv cv nv Aq nq cq j g ((rest:Int)+(vs.getD (nv - 1) 0:Nat)) B a R)):=by
   intro n a e;have o:g*vs.getD (nv - 1) 0+(rest+vs.getD (nv - 1) 0)=top:=by rw[nU]at k;omega
   refine⟨ir,ir,fun m=>H a g (h.ext e) om n ?_,fun m=> ?_⟩
   ·rw[A,z];refine BC E G o om ?_;have X:g*vs.getD (nv - 2) 0<=1000000000*1000000000:=vi om om;omega
   ·exact ih (rest+vs.getD (nv - 1) 0) a (h.ext e) o n om om
  refine F.ab.Bo.step ⟨fun m=>⟨ir,ir,?_⟩,fun m=>⟨ir,?_⟩⟩
  ·rw[L];refine(h.sl r y).Wi x om om fun a e=> ?_
   rw[c];exact next om a e
  ·have Q:(g+1)*vs.getD (nv - 2) 0<=1000000000*1000000000:=vi om om;have S:((g+1:Nat):Int)*(vs.getD (nv - 2) 0:Nat)=(((g+1)*vs.getD (nv - 2) 0:Nat):Int):=by simp
   refine(h.sl r y).load x om om ?_;rw[d,S];refine⟨ir,ir,ir,ir,ir,?_⟩;refine h.u.sl.load I om om ?_;rw[i,ie hj,L];refine⟨ir,ir,fun h1=>⟨ir,ir,?_⟩,fun h1 a e=>H a (g+1) (h.ext e) om C ?_⟩
   ·refine(h.sl r y).Wi x om om fun a e=> ?_
    rw[c];refine next ?_ a e
    rw[A,z]at b;have:=PV O b k C om;omega
   ·rw[A,z];exact BC E G k om om
end

theorem eW.base{w:World}{B B':Nat}{A:Option Addr}{n c:Nat}{ws:List Nat}(h:eW w B' A n c ws)(hB:B<=B'):eW w B A n c ws:=by
 refine⟨h.1,?_⟩;rcases h.2 with h1|⟨g,cap,cur,h1,a,b⟩
 ·exact .inl h1
 ·exact .inr ⟨g,cap,cur,h1,dp hB a,b⟩

theorem Yj{D:List Nat}{a:Nat}(c:a+2<D.length)(hs:Small D)(h:wv D<1000000000^(a+2+1)):
  wv D=((D.getD (a+2) 0*1000000000+D.getD (a+1) 0)*1000000000+D.getD a 0)*1000000000^a+wv (D.take a)/\wv (D.take a)<1000000000^a:=by
 have h1:=(PZ om hs h).1;have b:=pg (hs.take a);rw[ew,nF om]at b;refine⟨?_,b⟩;rw[h1,fv,fv,ky,ky];grind
theorem Yk{vs:List Nat}{a:Nat}(c:vs.length=a+2)(hs:Small vs):
  wv vs=(vs.getD (a+1) 0*1000000000+vs.getD a 0)*1000000000^a+wv (vs.take a)/\wv (vs.take a)<1000000000^a:=by
 have b:=pg (hs.take a);rw[ew,nF om]at b;refine⟨?_,b⟩;have e:vs=vs.take (a+1+1):=(de om).symm;have h1:wv vs=wv (vs.take (a+1+1)):=by rw[<-e]
 rw[h1,fv,fv,ky];grind

theorem Sep.of{A Au Aq:Option Addr}{nu cu nq cq:Nat}(h1:∀a b,A=some a->Au=some b->a.block≠b.block)(c:∀a b,A=some a->Aq=some b->a.block≠b.block):Sep A Au Aq nu cu nq cq:=by
 intro a ha;constructor
 ·cases Au with
  |none=>simp[Value.ownBlock]
  |some b=>simp[Value.ownBlock];exact h1 a b ha rfl
 ·cases Aq with
  |none=>simp[Value.ownBlock]
  |some b=>simp[Value.ownBlock];exact c a b ha rfl

section
variable {w1:World} {B:Nat} {Af Au Av Aq:Option Addr} {nf cf nu cu nv cv nq cq:Nat} {vs:List Nat} {R:Value->World->Prop}

set_option maxHeartbeats 2000000 in
theorem TQ(ha:BD Au Aq)(hn:nu<=1000000)(hB:B<=w1.heap.size)(L:mZ w1 Av vs)(y:vs.length=nv)(C:Small vs)(N:Sep Av Au Aq nu cu nq cq)(hnv:2<=nv)(hnq:nu=nq+nv)(X:1000000000<=2*vs.getD (nv - 1) 0)
  {f:Nat} (hf:iH w1 Af nf cf f) (ab7:Sep Af Au Aq nu cu nq cq) (hf0:0<f) (Yh:f<=1000000000) {O:Nat}
  (hR:∀A n c A' n' c' w,iH w A n c (O / wv vs)->iH w A' n' c' (O % wv vs / f)->R (.tuple #[.slice A n c,.slice A' n' c']) w):
  ∀(i:Nat)(w:World)(us qs:List Nat),i<=nq->Div w1 w B Au nu cu us Aq nq cq qs->wv (us.drop i)<wv vs->wv (qs.drop i)*wv vs*1000000000^i+wv us=O->
   F.ab.yn Af nf cf Au nu cu Av nv cv nv Aq nq cq ((i:Int) - 1) B w R:=by
 obtain⟨a,rfl⟩:∃a,nv=a+2:=⟨nv - 2,om⟩
 have agH:wv vs<1000000000^(a+2):=by have:=pg C;rwa [y]at this
 obtain⟨hV,DI⟩:=Yk y C;have l:a+2 - 1=a+1:=om;have g1:=C.getD (a+1);have g2:=C.getD a;rw[l]at X;intro i;induction i with
 |zero=>
  intro w us qs hi h d he;have As:=h.u.len;have amB:=h.u.cap;simp only[FI,Nat.pow_zero,CX]at d he;have ediv:O / wv vs=wv qs:=by rw[<-he,Cf,Nat.mul_add_div om,TU d,va]
  have emod:O % wv vs=wv us:=by rw[<-he,Cf,Nat.mul_add_mod,TV d]
  rw[ediv,emod]at hR;have ab8:wv (us.take (a+2))=wv us:=by
   have h1:=lV us (a+2) om;have e:wv (us.drop (a+2))=0:=by
    apply bm;intro h3;have h4:1000000000^(a+2)*1<=1000000000^(a+2)*wv (us.drop (a+2)):=ib _ om;omega
   rw[e]at h1;omega
  have hfw:iH w Af nf cf f:=by
   obtain⟨ws,r,k2⟩:=hf;exact⟨ws,h.sl r ab7,k2⟩
  refine F.ab.yn.step ⟨fun h=>by omega,fun _=> ?_⟩;refine pm (kj hfw) ?_;rintro v J Q rfl;refine⟨_,_,rfl,⟨om,om⟩,?_⟩;have e2:(((a+2:Nat):Int)).toNat=a+2:=om;rw[e2,bb om];refine pm (lS ((h.u.sl.below Q).take (a+2)) (by simp;omega) om om (h.su.take _)) ?_;rintro v w3 hb3 ⟨rfl,m,rfl,hm,hm1,_⟩;rw[ab8]at hm;refine⟨_,_,_,rfl,pm (BB hm om hf0 Yh) ?_⟩;rintro v w4 hb4 ⟨A1,n1,c1,A2,n2,c2,rfl,r,k2⟩;refine⟨_,_,_,_,_,_,rfl,?_⟩;have hq4:mZ w4 Aq qs:=(h.q.sl.below Q).below hb4;refine pm (lS hq4 h.q.len h.q.cap (by have:=h.q.cap;omega) h.sq) ?_;rintro v w5 CL ⟨rfl,m',rfl,hm',_⟩;exact⟨_,_,_,rfl,hR _ _ _ _ _ _ _ hm' r⟩
 |succ j ih=>
  intro w us qs hi h d he;have As:=h.u.len;have hql:=h.q.len;have e0:((j+1:Nat):Int) - 1=(j:Int):=om;rw[e0];obtain⟨pre,MZ⟩:∃pre,pre=us.take j:=⟨_,rfl⟩
  obtain⟨D,Y⟩:∃D,D=us.drop j:=⟨_,rfl⟩
  have S:us=pre++D:=by rw[MZ,Y,hN]
  have hj:pre.length=j:=by rw[MZ];simp;omega
  have hDl:D.length=nu - j:=by rw[Y];simp[As]
  have b:Small D:=by rw[Y];exact fun x hx=>h.su x (pV hx)
  have ab9:us.drop (j+1)=D.drop 1:=by rw[Y,OQ]
  rw[ab9]at d;have hT0:wv D=D.getD 0 0+1000000000*wv (D.drop 1):=by have:=lU D 0;simpa using this
  have gD0:=b.getD 0;have hT:wv D<1000000000*wv vs:=om;have U:wv D<1000000000^(a+2+1):=by rw[ky];omega
  obtain⟨o,BF⟩:=Yj om b U;have gt0:=b.getD (a+2);have gt1:=b.getD (a+1);have gt2:=b.getD a;have hwu:wv us=wv pre+1000000000^j*wv D:=by rw[S,gB,hj]
  obtain⟨q,hq⟩:∃q,q=wv D / wv vs:=⟨_,rfl⟩
  have Wl:0<wv vs:=om;have E:q*wv vs<=wv D:=by rw[hq];exact Nat.div_mul_le_self _ _
  have amI:wv D<q*wv vs+wv vs:=by
   have h1:=Ek (wv D) (wv vs);have e:=Js (wv D) Wl;rw[<-hq,Cf]at h1;omega
  have Wj:q<1000000000:=by
   rw[hq,P0 Wl];exact hT
  rw[S]at h
  -- Wm next round
  have next:∀J Z,Div w1 J B Au nu cu (pre++Z) Aq nq cq (qs.set j q)->wv Z=wv D - q*wv vs->
    F.ab.yn Af nf cf Au nu cu Av (a+2) cv (a+2:Nat) Aq nq cq ((j:Int) - 1) B J R:=by
   intro J Z e iY;refine ih J _ _ om e ?_ ?_
   ·rw[<-hj,List.drop_left,iY];omega
   ·have Yl:wv ((qs.set j q).drop j)=q+1000000000*wv (qs.drop (j+1)):=by
     rw[lU,Tu,bb om,cb,xt om];rfl
    have e5:wv Z+q*wv vs=wv D:=om;rw[Yl,gB,hj];rw[hwu,<-e5,ky]at he;rw[<-he];grind
  obtain⟨top,Ym⟩:∃top,top=D.getD (a+2) 0*1000000000+D.getD (a+1) 0:=⟨_,rfl⟩
  rw[<-Ym]at o;have agI:((D.getD (a+2) 0:Nat):Int)*1000000000+((D.getD (a+1) 0:Nat):Int)=(top:Int):=om;obtain⟨v1,G⟩:∃v1,v1=vs.getD (a+1) 0:=⟨_,rfl⟩
  have ei1:((j:Int)+((a+2:Nat):Int)).toNat=(a+2)+j:=om;have ei2:((j:Int)+((a+2:Nat):Int) - 1).toNat=(a+1)+j:=om;have ei3:(((a+2:Nat):Int) - 1).toNat=a+1:=om;have zR:=h.u.len;refine F.ab.yn.step ⟨fun _=>⟨ir,?_⟩,fun h=>by omega⟩;refine h.u.sl.load zR om om ?_;rw[ei1,ie hj];refine⟨ir,ir,ir,ir,?_⟩;refine h.u.sl.load zR om om ?_;rw[ei2,ie hj,agI];refine⟨ir,ir,fun J e2=>⟨ir,?_⟩⟩;have e:=h.ext e2;refine(e.sl L N).load y om om ?_;have tJ:vs.getD (((a+2:Nat):Int) - 1).toNat 0=v1:=by rw[ei3,G]
  rw[tJ];rw[<-G]at X g1;refine⟨ir,⟨om,om,ir⟩,ir,?_⟩;refine(e.sl L N).load y om om ?_;rw[tJ];refine⟨ir,⟨om,om⟩,fun w3 e3=> ?_⟩;have h3:=e.ext e3;have ed:(top:Int) / (v1:Int)=((top / v1:Nat):Int):=by simp
  have em:(top:Int) % (v1:Int)=((top % v1:Nat):Int):=by simp
  rw[ed,em];have hgq:q<=top / v1:=by
   rw[Nat.le_div_iff_mul_le om];rw[o,hV,<-G]at E;exact PU gt2 BF E
  have hgb:top / v1<=1000000001:=by
   refine HJ om g2 DI (by rw[G]at X;exact X) (by rw[<-o,<-hV];exact hT) ?_;rw[<-G];exact Nat.div_mul_le_self _ _
  refine TP hn L y C N om hj om (top:=top) (low:=wv (D.take a)) (M:=1000000000^a) (vl:=wv (vs.take a)) (q:=q) (T:=wv D) (V:=wv vs) BF DI (by rw[l,<-G];omega) (by rw[l];exact hV) o E Wj
   (fun w4 g h4 hg1 hg2 SO=> ?_) (top / v1) (top % v1) w3 h3 (by rw[l,<-G];have:=Ek top v1;rw[Cf]at this;exact this) hgq hgb (by have:=Js top (show 0<v1 by omega);omega)
  refine TO ha hn L y C N hj om hg1 (fun w5 D5 c br h5 hl5 hc hbr Yn TR=> ?_) (a+2) 0 w4 D 0 0 om om h4 rfl om om rfl (by simp[wv]);have t5:=lV D5 (a+2) om;have t0:=PZ (k:=a+2) om b U;have hs5:Small D5:=fun x hx=>h5.su x (by simp[hx])
  have l5:=pg (hs5.take (a+2));rw[ew,nF om]at l5;have td:wv (D.drop (a+2))=D.getD (a+2) 0:=by
   have h1:=lV D (a+2) om;have hp:0<1000000000^(a+2):=OE om;have e:1000000000^(a+2)*wv (D.drop (a+2))=1000000000^(a+2)*D.getD (a+2) 0:=om;exact Nat.eq_of_mul_eq_mul_left hp e
  rw[Yn,td]at t5;have H:=sb Yn;obtain⟨P,K⟩:∃P,P=1000000000^(a+2):=⟨_,rfl⟩
  rw[<-K]at t5 l5 TR agH;obtain⟨z,hz⟩:∃z,z=D.getD (a+2) 0:=⟨_,rfl⟩
  rw[<-hz]at t5 H gt0⊢;rw[oj]at TR;refine⟨fun Da=> ?_,fun hpos=> ?_⟩
  ·have amO:wv D<g*wv vs:=by
    have r:P*(z+1)<=P*(c+br):=ib _ om;rw[oj,oj]at r;omega
   have hg0:1<=g:=by
    apply bm;intro k;have:g=0:=om;subst this;omega
   have I:q+1=g:=by
    have r:q<g:=by
     apply bm;intro k;have:=gb (wv vs) (show g<=q by omega);omega
    apply bm;intro k;have:=gb (wv vs) (show q+2<=g by omega);rw[nU]at this;omega
   refine⟨hg0,?_⟩;have eg:(g:Int) - 1=(q:Int):=om;rw[eg];refine TN ha hn L y C N hj om ⟨om,Da⟩ (fun w6 D6 up h6 hl6 hup W he6=> ?_) (a+2) 0 w5 D5 0 om om h5 rfl om rfl (by simp[wv]);refine LZ ha hn h6 hj om Wj om om fun w7 h7=> ?_
   have hg6:=sb W;have t6:=lV D6 (a+2) om;have hs6:Small D6:=fun x hx=>h6.su x (by simp[hx])
   have l6:=pg (hs6.take (a+2));rw[ew,nF om,<-K]at l6;rw[W,Yn,td,<-K,<-hz]at t6;rw[<-K]at he6;have hgV:g*wv vs=q*wv vs+wv vs:=by rw[<-I,nU,Nat.one_mul]
   -- low + P * (z + up) = (T - qV) + P * (c + br)
   have key:wv (D6.take (a+2))+P*(z+up)=(wv D - q*wv vs)+P*(c+br):=by rw[oj,oj];omega
   have hzz:z+up=c+br:=by
    rcases Nat.lt_trichotomy (z+up) (c+br)with k|k|k
    ·have:=ib P (show z+up+1<=c+br by omega);rw[oj]at this;omega
    ·exact k
    ·have:=ib P (show c+br+1<=z+up by omega);rw[oj]at this;omega
   have e7:((z:Int) - (c:Int) - (br:Int)+(up:Int)).toNat=0:=om;rw[e7]at h7;refine next w7 _ h7 ?_
   have yp:=yq D6 (a+2) 0 om;rw[hg6,H,<-K]at yp;rw[hzz]at key;omega
  ·have amS:g*wv vs<=wv D:=by
    have r:P*(c+br)<=P*z:=ib _ om;rw[oj]at r;omega
   have I:q=g:=by
    rcases Ip q g with k|k
    ·have:=gb (wv vs) (show q+1<=g by omega);rw[nU]at this;omega
    ·omega
   subst I;refine LZ ha hn h5 hj om Wj om om fun w7 h7=>next w7 _ h7 ?_
   have yp:=yq D5 (a+2) (((z:Int) - (c:Int) - (br:Int)).toNat) om;rw[H,<-K]at yp;have e8:P*(((z:Int) - (c:Int) - (br:Int)).toNat)+(P*c+P*br)=P*z:=by
    rw[<-oj,<-oj]
    congr 1
    omega
   omega
end

theorem mZ.P1{w:World}{A:Option Addr}{ws:List Nat}(h:mZ w A ws)(hn:ws≠[]):∀a,A=some a->a.block<w.heap.size:=by
 intro a ha;rcases h with h|⟨b,off,all,fr,c,hb,_⟩
 ·exact absurd h hn
 ·rw[c]at ha;cases ha;exact(ax.1 hb).1

theorem eW.FA{w:World}{B:Nat}{A:Option Addr}{n c:Nat}{ws:List Nat}(h:eW w B A n c ws):∀a,A=some a->B<=a.block/\a.block<w.heap.size:=by
 intro a ha;subst ha;exact h.uJ a.block rfl

theorem eW.replicate{w:World}{B:Nat}{A:Option Addr}{n:Nat}(k:w.ownsRow B 227 1 (.slice A n n) n (List.replicate n (.int .u32 0))):eW w B A n n (List.replicate n 0):=by
 unfold eW;have:nW (List.replicate n 0)=List.replicate n (.int .u32 0):=by simp[nW]
 rw[this];exact k
theorem Small.replicate(n:Nat):Small (List.replicate n 0):=fun x hx=>by rw[CV hx];omega

theorem TS{w:World}{B Bu:Nat}{Af Au Av:Option Addr}{nf cf nu cu nv cv:Nat}{us vs:List Nat}{R:Value->World->Prop}(hB:B<=w.heap.size)(g:B<=Bu)(hu:eW w Bu Au nu cu us)(h:Small us)(y:mZ w Av vs)(z:vs.length=nv)(C:Small vs)
  (i:∀a b,Av=some a->Au=some b->a.block≠b.block) (j:∀a,Av=some a->a.block<w.heap.size) (k:2<=nv) (D:nv<=nu) (hn:nu<=1000000) (E:1000000000<=2*vs.getD (nv - 1) 0)
  {f:Nat} (hf:iH w Af nf cf f) (G:∀a b,Af=some a->Au=some b->a.block≠b.block) (l:∀a,Af=some a->a.block<w.heap.size) (m:0<f) (H:f<=1000000000) (I:wv (us.drop (nu - nv))<wv vs)
  (J:∀A n c A' n' c' w,iH w A n c (wv us / wv vs)->iH w A' n' c' (wv us % wv vs / f)->R (.tuple #[.slice A n c,.slice A' n' c']) w):
  F.ab.J13 Af nf cf Au nu cu Av nv cv B w R:=by
 refine F.ab.J13.step ⟨ir,?_⟩;refine rY qe El.Fv rfl om om hB fun Aq nq e K L g2 O=>⟨ir,?_⟩
 have o:nq=nu - nv:=om;have r:=eW.replicate L;have q:∀a,Aq=some a->w.heap.size<=a.block:=fun a ha=>(r.FA a ha).1
 have d:Below w.heap.size w e:=bM g2 sm lf;have M:eW e B Au nu cu us:=(hu.base g).other fun b hb=>d.block b (hu.uJ b hb).2
 have N:BD Au Aq:=fun a b ha hb=>by
  have h1:=hu.FA a ha;have x:=q b hb;omega
 refine TQ (w1:=e) N hn (dp hB d.size) (y.below d) z C (Sep.of i fun a b ha hb=>by have h1:=j a ha;have x:=q b hb;omega) k om E (hf.below d)
  (Sep.of G fun a b ha hb=>by have h1:=l a ha;have x:=q b hb;omega) m H J nq e us (List.replicate nq 0) lf
  ⟨M,r.base hB,h,Small.replicate _,fun _ _ _ _=>rfl,Below.refl _ _⟩ (by rw[o];exact I) ?_
 rw[cd sm];simp[wv]

theorem yu{a b:List Nat}(d:Small a)(c:Norm b)(h:wv b<=wv a):b.length<=a.length:=by
 apply bm;intro k;have:=yr d c om;omega

theorem P3{l:List Nat}(hn:Norm l)(h:l≠[]):1<=l.getD (l.length - 1) 0:=by
 have hp:=vv.2 h;have e:l.getLast? =some (l.getD (l.length - 1) 0):=by
  rw[Gp,cb,af om];rfl
 apply bm;intro k;have a:l.getD (l.length - 1) 0=0:=om;rw[a]at e;exact hn e

theorem P4{w:World}{B:Nat}{A0 A1:Option Addr}{n0 c0 n1 c1 x y:Nat}{R:Value->World->Prop}(hB:B<=w.heap.size)(ha:iH w A0 n0 c0 x)(hb:iH w A1 n1 c1 y)(hx:x<fy)(S:y<=x)(ON:y≠0)
  (hR:∀A n c A' n' c' w,iH w A n c (x / y)->iH w A' n' c' (x % y)->R (.tuple #[.slice A n c,.slice A' n' c']) w):
  F.ab.J7 A0 n0 c0 A1 n1 c1 B w R:=by
 have l0:=ha.len hx;have l1:=hb.len (pe S hx);have o:=ha;have T:=hb;obtain⟨a,a1,a2,a3,a4,a5,a6,U⟩:=ha;obtain⟨b,b1,V,b3,b4,W,X,j⟩:=hb;have q:b≠[]:=fun k=>by subst k;simp[wv]at j;omega
 have LY:=vv.2 q;refine F.ab.J7.step ⟨fun h=> ?_,fun h=>⟨ir,?_⟩⟩
 ·have g:=W.getD (Int.toNat 0);refine b1.load V om om ⟨ir,?_⟩;have e:b.getD (Int.toNat 0) 0=y:=by
   obtain⟨z,rfl⟩:=pt.1 (by omega:b.length=1);simpa[wv]using j
  rw[e]at g⊢;refine pm (BB o om om om) ?_;rintro v w2 hb2 ⟨A,n,c,A',n',c',rfl,r,M⟩;exact⟨_,_,_,_,_,_,rfl,hR _ _ _ _ _ _ _ r M⟩
 ·have g:=W.getD (n1 - 1);have e1:((n1:Int) - 1).toNat=n1 - 1:=om;refine b1.load V om om ?_;rw[e1];obtain⟨mt,i⟩:∃mt,mt=b.getD (n1 - 1) 0:=⟨_,rfl⟩
  have Y:1<=mt:=by rw[i,<-V];exact P3 X q
  rw[<-i]at g⊢;obtain⟨f,hf⟩:∃f,f=1000000000 / (mt+1):=⟨_,rfl⟩
  obtain⟨hf0,Yh,hf2⟩:=HK Y g hf;have C:f<=1000000000:=by rw[hf];exact Hu _ _
  have ef:(1000000000:Int) / ((mt:Int)+1)=(f:Int):=by rw[hf];simp
  rw[ef];refine⟨ir,ir,⟨om,om,ir⟩,?_⟩;refine pm (iG om) ?_;rintro v N Z ⟨Af,nf,cf,rfl,kf⟩;refine⟨_,_,_,rfl,?_⟩;have D:f<fy:=by
   unfold fy;exact pe (show f<=1000000000^1 by omega) (Nat.pow_lt_pow_right om (by have:=Hw;omega))
  refine pm (qf (o.below Z) kf hx D) ?_;rintro v SP Yo ⟨Au,nu,cu,rfl,_,us,E,u2,u3,u4⟩;refine⟨_,_,_,rfl,?_⟩;have hxf:x<=x*f:=vV _ om;have hnu:n0<=nu:=by
   have:=yu u2 a6 (by rw[U,u4];exact hxf);have:=E.len;omega
  have amX:nu<=n0+1:=by
   apply bm;intro k;have hl:=E.len;have h1:=nV u3 (fun e=>by subst e;simp at hl;omega);have m:=pg a5;have O:1000000000^(a.length+1)<=1000000000^(us.length - 1):=fm om om;have Q:wv a*f<=wv a*1000000000:=ib _ C;rw[ky]at O;rw[u4,<-U]at h1;omega
  have Yp:=Z.size;have G:=Yo.size;refine xq (B0:=B) qe om E om G sm (x:=0) om fun Au' cu' Kh u5 g38 b38=> ?_
  have M1:Below N.heap.size SP Kh:=bM g38 (fun k hk=>(E.uJ k hk).1) G;have Wo:=M1.size;have zS:Below w.heap.size w Kh:=(Z.trans (Yo.mono Yp)).trans (M1.mono Yp);have H:iH Kh Af nf cf f:=kf.below (Yo.trans M1);refine pm (qf (T.below zS) H (pe S hx) D) ?_;rintro v SQ Yq ⟨Av,nv,cv,rfl,_,vs,v1,v2,v3,v4⟩;have s41:=Yq.size;refine⟨_,_,_,rfl,fun h=>by omega,fun _=> ?_⟩;have hyf:y<=y*f:=vV _ om;have d:=lV b (n1 - 1) om;have PF:wv (b.drop (n1 - 1))=mt:=by
   rw[lU,<-i,cd om];simp[wv]
  rw[PF]at d;have I:=pg (W.take (n1 - 1));rw[ew,nF om]at I;obtain⟨P,J⟩:∃P,P=1000000000^(n1 - 1):=⟨_,rfl⟩
  rw[<-J]at d I;have am2:y*f<P*1000000000:=by
   have r:y+1<=P*(mt+1):=by rw[<-j,d,oj];omega
   have M:(y+1)*f<=P*(mt+1)*f:=gb _ r;have k3:P*((mt+1)*f)<=P*1000000000:=ib _ Yh;rw[Nat.mul_assoc]at M;rw[nU]at M;omega
  have am3:P*(mt*f)<=y*f:=by
   have r:P*mt<=y:=by rw[<-j,d];omega
   have:=gb f r;rwa [Nat.mul_assoc]at this
  have hnv:nv=n1:=by
   have h1:=yu v2 X (by rw[j,v4];exact hyf);have m:=v1.len;apply bm;intro k;have O:=nV v3 (fun e=>by rw[e,wu]at h1;omega);have Q:1000000000^(n1 - 1+1)<=1000000000^(vs.length - 1):=fm om om;rw[ky,<-J]at Q;omega
  subst hnv;have DH:=v1.len;have zl:1000000000<=2*vs.getD (nv - 1) 0:=by
   have h1:=lV vs (nv - 1) om;have m:=pg (v2.take (nv - 1));rw[ew,nF om,<-J]at m;have O:wv (vs.drop (nv - 1))=vs.getD (nv - 1) 0:=by
    rw[lU,cd om];simp[wv]
   rw[O,<-J,v4]at h1;apply bm;intro k;have Q:P*(vs.getD (nv - 1) 0+1)<=P*(mt*f):=ib _ om;rw[oj]at Q;omega
  have zh:nv<=n0:=by
   have:=yu a5 X (by rw[U,j];exact S);omega
  have As:=E.len;have K:=u5.FA;have L:=v1.FA;have Tt:∀a,Af=some a->a.block<N.heap.size:=by
   obtain⟨ws,q1,q2,_,_,_,_,q3⟩:=kf;refine q1.P1 fun e=> ?_
   subst e;simp[wv]at q3;omega
  have e0:wv (us++[(0:Int).toNat])=x*f:=by rw[gB,u4];simp[wv]
  have u41:eW SQ N.heap.size Au' (nu+1) cu' (us++[(0:Int).toNat]):=u5.other fun k hk=>Yq.block k (u5.uJ k hk).2
  refine TS (Bu:=N.heap.size) om om u41 (u2.append (Small.cons sm Small.nil)) v1.sl DH v2 (fun a b ha hb=> ?_) (fun a ha=>(L a ha).2) om om om zl
   (H.below Yq) (fun a b ha hb=> ?_) (fun a ha=>by have:=Tt a ha;omega) om C ?_ ?_
  ·have h1:=L a ha;have m:=K b hb;omega
  ·have h1:=Tt a ha;have m:=K b hb;omega
  ·have e2:(us++[(0:Int).toNat]).drop (nu+1 - nv)=us.drop (nu+1 - nv)++[0]:=by rw[RL om];rfl
   rw[e2,gB];have h1:=pg (l:=us.drop (nu+1 - nv)) fun x hx=>u2 x (pV hx)
   rw[rT,show us.length - (nu+1 - nv)=nv - 1 by omega,<-J]at h1;have m:P*1<=P*(mt*f):=ib _ (Nat.mul_pos om om);simp only[wv,UP,va];omega
  ·rw[e0,v4,Nat.mul_div_mul_right _ _ om,Nat.mul_mod_mul_right,Nat.mul_div_cancel _ om];exact hR

theorem tS{w:World}{A0 A1:Option Addr}{n0 c0 n1 c1 x y:Nat}(ha:iH w A0 n0 c0 x)(hb:iH w A1 n1 c1 y)(hx:x<fy)(hy:y<fy)(l:y≠0):
  Pure Tryz.prog 293 #[.slice A0 n0 c0,.slice A1 n1 c1] w fun v w'=>∃A n c A' n' c',v= .tuple #[.slice A n c,.slice A' n' c']/\iH w' A n c (x / y)/\iH w' A' n' c' (x % y):=by
 refine F.ab.vc (pm (nX ha hb hx hy) ?_);rintro v G a rfl;refine⟨_,rfl,fun h=> ?_,fun h=> ?_⟩
 ·have d:x<y:=by
   simp only[js]at h;split at h
   ·omega
   ·split at h<;>omega
  rw[TU d,TV d];exact⟨_,_,_,_,_,_,rfl,⟨[],.inl rfl,rfl,om,om,Small.nil,by simp[Norm],rfl⟩,ha.below a⟩
 ·have hle:y<=x:=by
   simp only[js]at h;split at h<;>omega
  refine pm (kj (ha.below a)) ?_;rintro v m e rfl;refine⟨_,_,rfl,?_⟩;have g:Below w.heap.size w m:=a.trans (e.mono a.size);refine pm (kj (hb.below g)) ?_;rintro v o q rfl;have b:Below w.heap.size w o:=g.trans (q.mono g.size);have done:∀A n c A' n' c' w',iH w' A n c (x / y)->iH w' A' n' c' (x % y)->∃A1 n1 c1 A2 n2 c2,Value.tuple #[.slice A n c,.slice A' n' c']= .tuple #[.slice A1 n1 c1,.slice A2 n2 c2]/\iH w' A1 n1 c1 (x / y)/\iH w' A2 n2 c2 (x % y):=
   fun A n c A' n' c' w' i j=>⟨_,_,_,_,_,_,rfl,i,j⟩
  refine⟨_,_,rfl,fun hs=>⟨fun r=> ?_,fun _=> ?_⟩,fun _=> ?_⟩
  ·have z:x<1000000000000000000:=by simpa using hs
   have B:y<1000000000000000000:=by simpa using r
   rw[bb z,bb B];have C:(x:Int) / (y:Int)=((x / y:Nat):Int):=by simp
   have em:(x:Int) % (y:Int)=((x % y:Nat):Int):=by simp
   have H:=Hu x y;have hm:=Nat.mod_le x y;rw[C,em];refine⟨⟨om,om,ir⟩,⟨om,om⟩,fun I D=> ?_⟩;refine pm (iG om) ?_;rintro v J E ⟨A,n,c,rfl,i⟩;refine⟨_,_,_,rfl,pm (iG om) ?_⟩;rintro v K k ⟨A',n',c',rfl,j⟩;exact⟨_,_,_,rfl,done _ _ _ _ _ _ _ (i.below k) j⟩
  ·exact P4 b.size (ha.below b) (hb.below b) hx hle l done
  ·exact P4 b.size (ha.below b) (hb.below b) hx hle l done

theorem iH.L0{w:World}{A:Option Addr}{n c x:Nat}(h:iH w A n c x):0<n↔x≠0:=by
 obtain⟨ws,_,hl,_,_,_,hn,rfl⟩:=h;constructor
 ·intro a hx;have h1:=nV hn (fun e=>by subst e;simp at hl;omega);have b:0<1000000000^(ws.length - 1):=OE om;omega
 ·intro hx;apply bm;intro k;have:ws=[]:=ep om;subst this;exact hx rfl

theorem Yr{B:Nat}{R:Value->World->Prop}:∀(y x:Nat)(w:World),x<1000000000000000000->y<1000000000000000000->B<=w.heap.size->(∀A n c w',iH w' A n c (Nat.gcd x y)->R (.slice A n c) w')->F.bo.L5 x y B w R:=by
 intro y;induction y using Nat.strongRecOn with
 |ind y ih=>
  intro x w hx hy hB b;refine F.bo.L5.step ⟨fun h=>⟨⟨om,om⟩,fun a e=> ?_⟩,fun h=> ?_⟩
  ·have em:(x:Int) % (y:Int)=((x % y:Nat):Int):=by simp
   rw[em];have hm:=Js x (show 0<y by omega);refine ih _ hm y a hy om (dp hB e.below.size) fun A n c w' k=>b A n c w' ?_
   rwa [OU y,<-Nat.gcd_rec,OU]at k
  ·have d:y=0:=om;subst d;refine pm (iG hx) ?_;rintro v a _ ⟨A,n,c,rfl,k⟩;exact⟨_,_,_,rfl,b A n c a (by rwa [SK])⟩

theorem Ys{B:Nat}{R:Value->World->Prop}:∀(y x:Nat)(w:World)(A0 A1:Option Addr)(n0 c0 n1 c1:Nat),iH w A0 n0 c0 x->iH w A1 n1 c1 y->x<fy->y<fy->B<=w.heap.size->(∀A n c w',iH w' A n c (Nat.gcd x y)->R (.slice A n c) w')->
  F.bo.L1 A0 n0 c0 A1 n1 c1 B w R:=by
 intro y;induction y using Nat.strongRecOn with
 |ind y ih=>
  intro x w A0 A1 n0 c0 n1 c1 ha hb hx hy hB e;have hp:=hb.L0;refine F.bo.L1.step ⟨fun h=> ?_,fun h=> ?_⟩
  ·have m:y≠0:=hp.1 om;have hm:=Js x (show 0<y by omega);refine pm (kj ha) ?_;rintro v C a rfl;refine⟨_,_,rfl,pm (kj (hb.below a)) ?_⟩;rintro v g i rfl;have d:Below w.heap.size w g:=a.trans (i.mono a.size);have D:=d.size;have rest:Pure Tryz.prog 293 #[.slice A0 n0 c0,.slice A1 n1 c1] g fun v w'=>∃A n c A' n' c',v= .tuple #[.slice A n c,.slice A' n' c']/\F.bo.L1 A1 n1 c1 A' n' c' B w' R:=by
    refine pm (tS (ha.below d) (hb.below d) hx hy m) ?_;rintro v o b ⟨A,n,c,A',n',c',rfl,E,q⟩;refine⟨_,_,_,_,_,_,rfl,ih _ hm y o _ _ _ _ _ _ ((hb.below d).below b) q hy om (by have:=b.size;omega) fun A n c w' k=>e A n c w' ?_⟩;rwa [OU y,<-Nat.gcd_rec,OU]at k
   refine⟨_,_,rfl,fun hs=>⟨fun r=> ?_,fun _=>rest⟩,fun _=>rest⟩;have j:x<1000000000000000000:=by simpa using hs
   have l:y<1000000000000000000:=by simpa using r
   rw[bb j,bb l];exact Yr y x g j l om e
  ·have z:y=0:=by
    apply bm;intro k;have:=hp.2 k;omega
   subst z;exact e _ _ _ _ (by rwa [SK])

theorem HL{w:World}{A0 A1:Option Addr}{n0 c0 n1 c1 x y:Nat}(ha:iH w A0 n0 c0 x)(hb:iH w A1 n1 c1 y)(hx:x<fy)(hy:y<fy):
  Pure Tryz.prog 268 #[.slice A0 n0 c0,.slice A1 n1 c1] w fun v w'=>∃A n c,v= .slice A n c/\iH w' A n c (Nat.gcd x y):=
 F.bo.vc (Ys y x w _ _ _ _ _ _ ha hb hx hy lf fun A n c w' k=>⟨A,n,c,rfl,k⟩)

theorem P5(l:Tx):∀a:Nat,l.foldl (fun a c=>10*a+dv c) a=a*10^l.length+eC l:=by
 induction l with
 |nil=>intro a;simp[eC]
 |cons c r ih=>
  intro a;have h1:=ih (10*a+dv c);have b:=ih (10*0+dv c);simp only[eC,Vk,eL,ky]at*;rw[h1,b];grind
theorem HM(a b:Tx):eC (a++b)=eC a*10^b.length+eC b:=by
 have:=P5 b (eC a);rw[<-this];simp[eC,List.foldl_append]
theorem DL(c:UInt8)(r:Tx):eC (c::r)=dv c*10^r.length+eC r:=by
 have h1:=P5 r (10*0+dv c);have b:eC (c::r)=r.foldl (fun a c=>10*a+dv c) (10*0+dv c):=rfl;rw[b,h1];simp
theorem FB{l:Tx}(h:l.all uZ=true):eC l<10^l.length:=by
 induction l with
 |nil=>simp[eC]
 |cons c r ih=>
  simp only[zP,cy]at h;have h1:=ih h.2;have a:dv c<=9:=by have:=h.1;simp[uZ]at this;simp only[dv];omega
  have b:dv c*10^r.length<=9*10^r.length:=gb _ a;rw[DL,eL,ky];omega

theorem Db(M:Nat)(h:M<18446744073709551616):∀(l:Tx)(acc:Nat),l.all uZ=true->acc*10^l.length+eC l<=M->Lib.parseUintM M acc l= .ok (acc*10^l.length+eC l):=by
 intro l;induction l with
 |nil=>intro acc _ _;simp[Lib.parseUintM,eC]
 |cons c r ih=>
  intro acc b hle;simp only[zP,cy]at b;have d:48<=c.toNat/\c.toNat<=57:=by have:=b.1;simpa[uZ]using this
  have e:acc*10^(c::r).length+eC (c::r)=(acc*10+(c.toNat - 48))*10^r.length+eC r:=by
   have h1:=P5 r (10*0+dv c);have g:eC (c::r)=r.foldl (fun a c=>10*a+dv c) (10*0+dv c):=rfl;rw[g,h1,eL,ky];simp only[dv];grind
  have hp:0<10^r.length:=OE om;have i:acc*10+(c.toNat - 48)<=(acc*10+(c.toNat - 48))*10^r.length:=vV _ hp;rw[e]at hle⊢;rw[Lib.parseUintM,bb d,aq om,aq om];exact ih _ b.2 hle
theorem vF{B:Nat}{l:Tx}(hB:2^B - 1<18446744073709551616)(a:l≠[])(b:l.all uZ=true)(hle:eC l<=2^B - 1):Lib.parseUintB B l= .ok (eC l):=by
 rw[Lib.parseUintB,aq a,Db _ hB l 0 b (by simpa using hle)];simp

theorem BG(s:ByteArray)(i j:Nat):cL (s.extract i j)=((cL s).take j).drop i:=by
 unfold cL;rw[ByteArray.data_extract,Array.toList_extract,List.extract_eq_take_drop,List.drop_take]

theorem vG{w w':World}{e:Nat}{s:ByteArray}(h:w'=w∨w'=Lib.bytesWorld w e s):Below w.heap.size w w':=by
 rcases h with rfl|rfl
 ·exact Below.refl _ _
 ·exact⟨rfl,rfl,rfl,by rw[Lib.bytesWorld_size];omega,fun k a=>Lib.bytesWorld_at_old w e s k a⟩

theorem HN(s:ByteArray)(b:cL s≠[])(a:(cL s).all uZ=true)(hl:s.size<=9)(w:World):
  Pure Tryz.prog 303 #[.string s,.int .i64 10,.int .i64 32] w fun v _=>v= .tuple #[.int .u64 (eC (cL s):Nat),.nilIface]:=by
 have c:=FB a;have hp:10^(cL s).length<=10^9:=fm om (by rw[<-kz];exact hl);have fO:=vF (B:=32) om b a om;exact Calls.mono (Tryz.strconv_ParseUint_10_at32_ok s om _ fO w) fun e w' ⟨he,hw⟩=>⟨_,he,vG hw,rfl⟩

theorem M4{w0:World}{R:Value->World->Prop}{x:Nat}(G:∀A n c w,iH w A n c x->R (.slice A n c) w):
  ∀(d:Nat)(s:ByteArray)(w:World)(A:Option Addr)(n c:Nat)(ws:List Nat),s.size<=d->n+s.size<=900000->(cL s).all uZ=true->eW w w0.heap.size A n c ws->Small ws->w0.heap.size<=w.heap.size->
   wv ws+1000000000^n*eC (cL s)=x->F.cZ.L2 s A n c w0.heap.size w R:=by
 intro d;induction d with
 |zero=>
  intro s w A n c ws hs hn a ho l hw he;have C:cL s=[]:=ep (by rw[<-kz];omega);rw[C]at he;refine F.cZ.L2.step ⟨fun h=>by omega,fun _=> ?_⟩;refine pm (lS ho.sl ho.len ho.cap om l) ?_;rintro v L _ ⟨rfl,m,rfl,h,_⟩;have e:wv ws=x:=by rw[<-he];simp[eC]
  rw[e]at h;exact⟨_,_,_,rfl,G _ _ _ _ h⟩
 |succ d ih=>
  intro s w A n c ws hs hn a ho l hw he;have nB:=kz s;by_cases C:s.size=0
  ·exact ih s w A n c ws om hn a ho l hw he
  obtain⟨at_,M⟩:∃at_:Nat,at_=s.size - 9:=⟨_,rfl⟩
  have r:(if(0:Int)>((s.size:Int) - 9)then(0:Int)else((s.size:Int) - 9))=(at_:Int):=by split<;>omega
  refine F.cZ.L2.step ⟨fun _=> ?_,fun h=>by omega⟩;rw[r,ca];refine⟨ir,⟨om,om⟩,?_⟩;have o:cL (s.extract at_ s.size)=(cL s).drop at_:=by rw[BG,de om]
  have q:cL (s.extract 0 at_)=(cL s).take at_:=by rw[BG];rfl
  have g:((cL s).drop at_).all uZ=true:=by
   rw[gr]at a⊢;exact fun y hy=>a y (pV hy)
  have z:((cL s).take at_).all uZ=true:=by
   rw[gr]at a⊢;exact fun y hy=>a y (iF hy)
  have i:((cL s).drop at_).length=s.size - at_:=by rw[rT,<-nB]
  have D:((cL s).take at_).length=at_:=by rw[ew,<-nB];omega
  have hu:=FB g;have hp:10^((cL s).drop at_).length<=10^9:=fm om om;refine pm (HN _ (by rw[o];exact fun k=>by rw[k]at i;simp at i;omega) (by rw[o];exact g) (by rw[kz,o];omega) w) ?_;rintro v H j rfl;rw[o];refine⟨_,_,rfl,ir,?_⟩;have B:eW H w0.heap.size A n c ws:=ho.other fun b hb=>j.block b (ho.uJ b hb).2
  have N:=j.size;refine xq (B0:=w0.heap.size) qe lf B om om sm om fun A' c' I E _ J=>⟨⟨om,om⟩,?_⟩
  have O:=J.size;rw[ca]at E;refine ih _ I A' (n+1) c' _ (by rw[kz,q,D];omega) (by rw[kz,q,D];omega) (by rw[q];exact z) E (l.append (Small.cons om Small.nil)) om ?_;rw[q,gB,ho.len,ky];have ev:eC (cL s)=eC ((cL s).take at_)*1000000000+eC ((cL s).drop at_):=by
   have h1:=HM ((cL s).take at_) ((cL s).drop at_);rw[hN]at h1;by_cases K:at_=0
   ·rw[h1,K];simp[eC]
   ·rw[h1,show((cL s).drop at_).length=9 by omega]
  rw[ev]at he;rw[<-he];simp only[wv];grind

theorem cZ{w:World}{s:ByteArray}(hs:s.size<=900000)(h:isNat (cL s)=true):
  Pure Tryz.prog 289 #[.string s] w fun v w'=>∃A n c,v= .slice A n c/\iH w' A n c (eC (cL s)):=by
 have a:(cL s).all uZ=true:=by simp[isNat]at h;simpa using h.2
 exact F.cZ.vc (M4 (w0:=w) (x:=eC (cL s)) (fun A n c w k=>⟨A,n,c,rfl,k⟩) s.size s w none 0 0 [] lf om a (World.ownsRow_nil w _ _ _) Small.nil lf (by simp[wv]))

abbrev eK(n:Nat):Tx:=Lib.decDigits n

theorem DM(l:Tx)(c:UInt8):eC (l++[c])=10*eC l+dv c:=by simp[eC]
theorem gS{n:Nat}(h:n<10):eK n=[UInt8.ofNat (48+n)]:=Lib.decDigits_one h
theorem nG{n:Nat}(h:¬n<10):eK n=eK (n / 10)++[UInt8.ofNat (48+n % 10)]:=by rw[eK,Lib.decDigits,dif_neg h]
theorem P6{n:Nat}(h:n<10):dv (UInt8.ofNat (48+n))=n:=by
 simp only[dv,SL];omega
theorem P7{n:Nat}(h:n<10):uZ (UInt8.ofNat (48+n))=true:=by
 simp only[uZ,SL];simp;omega
theorem P8{c:UInt8}(h:uZ c=true):UInt8.ofNat (48+dv c)=c:=by
 apply UInt8.toNat_inj.1;simp only[uZ,cy,hJ]at h;simp only[dv,SL];have:=c.toNat_lt;omega
theorem Wp{c:UInt8}(h:uZ c=true):dv c<10:=by
 simp only[uZ,cy,hJ]at h;simp only[dv];omega

theorem km(n:Nat):eC (eK n)=n:=by
 induction n using Nat.strongRecOn with
 |_ n ih=>
  by_cases h:n<10
  ·have e:∀c,eC [c]=dv c:=fun c=>by simp[eC]
   rw[gS h,e,P6 h]
  ·rw[nG h,DM,ih (n / 10) om,P6 om];omega
theorem tU(n:Nat):(eK n).all uZ=true:=by
 induction n using Nat.strongRecOn with
 |_ n ih=>
  by_cases h:n<10
  ·rw[gS h,zP,P7 h];rfl
  ·rw[nG h,Vp,ih (n / 10) om,zP,P7 (show n % 10<10 by omega)];rfl
theorem xw(n:Nat):eK n≠[]:=by
 by_cases h:n<10
 ·rw[gS h];simp
 ·rw[nG h];simp
theorem HO{a b:Tx}(h:a≠[]):(a++b).head? =a.head? :=by
 cases a with
 |nil=>exact absurd rfl h
 |cons c r=>rfl
theorem M5(n:Nat)(b:0<n):(eK n).head?≠some 48:=by
 induction n using Nat.strongRecOn with
 |_ n ih=>
  by_cases h:n<10
  ·rw[gS h];intro k;have a:UInt8.ofNat (48+n)=48:=by simpa using k
   have:=bx dv a;rw[P6 h]at this;simp[dv]at this;omega
  ·rw[nG h,HO (xw _)];exact ih (n / 10) om om
theorem ph(n:Nat):isNat (eK n)=true:=by
 have h1:=tU n;have a:=xw n;unfold isNat;rw[h1];by_cases h:n=0
 ·subst h;rw[gS om];simp
 ·have b:=M5 n om;have c:((eK n).head? !=some 48)=true:=by simpa using b
  have d:(eK n).isEmpty=false:=by simpa using a
  rw[c,d];simp
theorem BH{a b:Nat}(h:eK a=eK b):a=b:=by
 have:=bx eC h;rwa [km,km]at this

theorem P9{l:Tx}(a:l.all uZ=true)(h:l≠[])(b:l.head?≠some 48):0<eC l:=by
 cases l with
 |nil=>exact absurd rfl h
 |cons c r=>
  rw[DL];simp only[zP,cy]at a;have h1:c≠48:=fun k=>by subst k;simp at b
  have d:dv c≠0:=fun k=>by
   have:=P8 a.1;rw[k]at this;exact h1 this.symm
  have e:0<dv c*10^r.length:=Nat.mul_pos om (OE om);omega
theorem zm{t:Tx}(h:isNat t=true):t≠[]/\(t.length=1∨t.head?≠some 48)/\t.all uZ=true:=by
 unfold isNat at h;simp only[cy,Ka,Ij,beq_iff_eq,bne_iff_ne,ne_eq]at h;refine⟨fun k=> ?_,h.1.2,h.2⟩;subst k;simp at h
theorem M6:∀(k:Nat)(t:Tx),t.length=k->isNat t=true->eK (eC t)=t:=by
 intro k;induction k with
 |zero=>intro t hl h;exact absurd (ep hl) (zm h).1
 |succ k ih=>
  intro t hl h;obtain⟨h1,b,a⟩:=zm h;obtain⟨l,c,rfl⟩:∃l c,t=l++[c]:=⟨t.dropLast,t.getLast h1,(Ao h1).symm⟩
  rw[Vp]at a;simp only[cy,zP,Su,and_true]at a;rw[DM];by_cases hn:l=[]
  ·subst hn;have:10*eC []+dv c=dv c:=by simp[eC]
   rw[this,gS (Wp a.2),P8 a.2];rfl
  ·have e:l.head?≠some 48:=by
    rcases b with b|b
    ·have:=vv.2 hn;rw[ek,xX]at b;omega
    ·rwa [HO hn]at b
   have hp:=P9 a.1 hn e;have d:isNat l=true:=by
    unfold isNat;have g:(l.head? !=some 48)=true:=by simpa using e
    have i:l.isEmpty=false:=by simpa using hn
    rw[a.1,g,i];simp
   have j:=Wp a.2;rw[nG om,show(10*eC l+dv c) / 10=eC l by omega,show(10*eC l+dv c) % 10=dv c by omega,ih l (by simp at hl;omega) d,P8 a.2]
theorem oK{t:Tx}(h:isNat t=true):eK (eC t)=t:=M6 _ t rfl h

theorem yv:eK 0=[48]:=by rw[gS om];rfl
theorem Ki:eK 1=[49]:=by rw[gS om];rfl
theorem ni{n:Nat}:eK n=[48]↔n=0:=by
 constructor
 ·intro h;exact BH (h.trans yv.symm)
 ·intro h;subst h;exact yv
theorem xx{n:Nat}:eK n=[49]↔n=1:=by
 constructor
 ·intro h;exact BH (h.trans Ki.symm)
 ·intro h;subst h;exact Ki
theorem Ax(n:Nat):n<10^(eK n).length:=by
 have:=FB (tU n);rwa [km]at this
theorem ig{n k:Nat}(h:n<10^k)(b:1<=k):(eK n).length<=k:=by
 induction k generalizing n with
 |zero=>omega
 |succ k ih=>
  by_cases hn:n<10
  ·rw[gS hn];simp
  ·rw[nG hn,ek];have a:1<=k:=by
    apply bm;intro k0;have:k=0:=om;subst this;omega
   have:=ih (n:=n / 10) (by rw[ky]at h;omega) a;simp;omega
theorem BI{n:Nat}{c:UInt8}(h:c∈eK n):uZ c=true:=by
 have:=tU n;rw[gr]at this;exact this c h

abbrev kr(z:Int):Tx:=Lib.itoa z
def isInt(t:Tx):Bool:=if t.head? =some 45 then isNat t.tail&&t.tail !=[48]else isNat t
def ks(t:Tx):Int:=if t.head? =some 45 then -(eC t.tail:Int)else eC t

theorem xy(n:Nat):kr (n:Int)=eK n:=by
 rw[kr,Lib.itoa,aq om];rfl
theorem Qa{n:Nat}(h:0<n):kr (-(n:Int))=45::eK n:=by
 rw[kr,Lib.itoa,bb om];simp
theorem nk(z:Int):kr z=if z<0 then 45::eK z.natAbs else eK z.natAbs:=by
 rw[kr,Lib.itoa];split
 ·rfl
 ·congr 1;omega
theorem tV(n:Nat):(eK n).head?≠some 45:=by
 intro h;have:=BI (List.mem_of_head? h);simp[uZ]at this
theorem wD(z:Int):isInt (kr z)=true:=by
 rw[nk,isInt];split
 ·have h1:=ph z.natAbs;have a:eK z.natAbs≠[48]:=fun k=>by have:=ni.1 k;omega
  simp[h1,a]
 ·rw[aq (tV _)];exact ph _
theorem qY(z:Int):ks (kr z)=z:=by
 rw[nk,ks];split
 ·simp[km];omega
 ·rw[aq (tV _),km];omega
theorem uK{t:Tx}(h:isInt t=true):kr (ks t)=t:=by
 unfold isInt at h;unfold ks;split at h
 ·rename_i k;simp only[cy,bne_iff_ne,ne_eq]at h;rw[bb k];have a:0<eC t.tail:=by
   apply Nat.pos_of_ne_zero;intro k0;have:=oK h.1;rw[k0]at this;exact h.2 (this▸ni.2 rfl)
  rw[Qa a,oK h.1];cases t with
  |nil=>simp at k
  |cons c r=>simp at k;subst k;rfl
 ·rename_i k;rw[aq k,xy,oK h]
theorem Qb{a b:Int}(h:kr a=kr b):a=b:=by
 have:=bx ks h;rwa [qY,qY]at this
theorem Dc{z:Int}:kr z=[48]↔z=0:=by
 constructor
 ·intro h;exact Qb (h.trans ((xy 0).trans yv).symm)
 ·intro h;subst h;exact(xy 0).trans yv
theorem Qc{z:Int}{c:UInt8}(h:c∈kr z):uZ c=true∨c=45:=by
 rw[nk]at h;split at h
 ·rcases cc.1 h with h|h
  ·exact .inr h
  ·exact .inl (BI h)
 ·exact .inl (BI h)
theorem TW(z:Int):kr z≠[]:=by
 rw[nk];split
 ·simp
 ·exact xw _
theorem jA{z:Int}{k:Nat}(h:z.natAbs<10^k)(a:1<=k):(kr z).length<=k+1:=by
 rw[nk];have:=ig h a;split
 ·simp;omega
 ·omega
theorem FC(z:Int):z.natAbs<10^(kr z).length:=by
 rw[nk];have h1:=Ax z.natAbs;split
 ·rw[eL,ky];omega
 ·exact h1

def pM(r:Rat):Tx:=if r.den=1 then kr r.num else kr r.num++47::eK r.den
def uL(t:Tx):Tx:=t.takeWhile (· !=47)
def se(t:Tx):Tx:=(t.dropWhile (· !=47)).tail
def lW(t:Tx):Bool:=if 47∈t then isInt (uL t)&&uL t !=[48]&&isNat (se t)&&se t !=[48]&&se t !=[49]&&Nat.gcd (ks (uL t)).natAbs (eC (se t))==1 else isInt t
def xz(t:Tx):Rat:=if 47∈t then mkRat (ks (uL t)) (eC (se t))else(ks t:Rat)

theorem jO(z:Int):47∉kr z:=by
 intro h;rcases Qc h with h|h
 ·simp[uZ]at h
 ·simp at h
theorem FD{a b:Tx}(h:47∉a):uL (a++47::b)=a:=by
 unfold uL;rw[List.takeWhile_append_of_pos (fun x hx=>by simp;intro k;subst k;exact h hx)];simp
theorem FE{a b:Tx}(h:47∉a):se (a++47::b)=b:=by
 unfold se;rw[List.dropWhile_append_of_pos (fun x hx=>by simp;intro k;subst k;exact h hx)];simp
theorem Qd{t:Tx}(h:47∈t):t=uL t++47::se t/\47∉uL t:=by
 induction t with
 |nil=>simp at h
 |cons c r ih=>
  by_cases a:c=47
  ·subst a;simp[uL,se]
  ·have b:47∈r:=by
    rcases cc.1 h with k|k
    ·exact absurd k.symm a
    ·exact k
   obtain⟨e,hn⟩:=ih b;have d:uL (c::r)=c::uL r:=by simp[uL,a]
   have g:se (c::r)=se r:=by simp[se,a]
   rw[d,g];constructor
   ·rw[vu,<-e]
   ·intro k;rcases cc.1 k with k|k
    ·exact a k.symm
    ·exact hn k

theorem xA(r:Rat):xz (pM r)=r:=by
 unfold pM xz;split
 ·rename_i h;rw[aq (jO _),qY];apply Rat.ext
  ·rfl
  ·rw[h];rfl
 ·rw[bb sm,FD (jO _),FE (jO _),qY,km,Rat.mkRat_self]
theorem Kj(r:Rat):lW (pM r)=true:=by
 unfold pM lW;split
 ·rw[aq (jO _)];exact wD _
 ·rename_i h;rw[bb sm,FD (jO _),FE (jO _),wD,ph,qY,km];have h1:kr r.num≠[48]:=by
   intro k;have b:=Dc.1 k;have:=r.reduced;rw[b]at this;have a:Nat.gcd 0 r.den=1:=this;simp at a;exact h a
  have a:eK r.den≠[48]:=fun k=>r.den_nz (ni.1 k)
  have c:eK r.den≠[49]:=fun k=>h (xx.1 k)
  have d:Nat.gcd r.num.natAbs r.den=1:=r.reduced;simp[h1,a,c,d]
theorem HP{t:Tx}(h:lW t=true)(k:47∈t):isInt (uL t)=true/\uL t≠[48]/\isNat (se t)=true/\se t≠[48]/\se t≠[49]/\Nat.gcd (ks (uL t)).natAbs (eC (se t))=1:=by
 unfold lW at h;rw[bb k]at h;simp only[cy,bne_iff_ne,ne_eq,beq_iff_eq]at h;obtain⟨⟨⟨⟨⟨h1,a⟩,b⟩,c⟩,d⟩,e⟩:=h;exact⟨h1,a,b,c,d,e⟩
theorem uM{p:Int}{d:Nat}(a:d≠0):(mkRat p d).num=p / (p.natAbs.gcd d:Nat)/\(mkRat p d).den=d / p.natAbs.gcd d:=by
 rw[<-Rat.normalize_eq_mkRat a];exact⟨Rat.num_normalize a,Rat.den_normalize a⟩
theorem FF{t:Tx}(h:lW t=true):pM (xz t)=t:=by
 by_cases k:47∈t
 ·obtain⟨h1,o,a,g,i,j⟩:=HP h k;have e:=(Qd k).1;have l:eC (se t)≠0:=fun k0=>by
   have:=oK a;rw[k0]at this;exact g (this▸ni.2 rfl)
  have b:eC (se t)≠1:=fun k0=>by
   have:=oK a;rw[k0]at this;exact i (this▸xx.2 rfl)
  obtain⟨c,d⟩:=uM (p:=ks (uL t)) l;rw[j]at c d;unfold xz pM;rw[bb k,c,d];simp only[Nat.div_one,Int.natCast_one,Int.ediv_one];rw[aq b,uK h1,oK a,<-e]
 ·unfold lW at h;rw[aq k]at h;unfold xz pM;rw[aq k];have m:((ks t:Rat)).den=1:=rfl;have n:((ks t:Rat)).num=ks t:=rfl;rw[bb m,n,uK h]
theorem Qe{a b:Rat}(h:pM a=pM b):a=b:=by
 have:=bx xz h;rwa [xA,xA]at this

def Sm(k:Nat)(r:Rat):Prop:=r.num.natAbs<10^k/\r.den<10^k
theorem Sm.mono{j k:Nat}{r:Rat}(h:Sm j r)(a:j<=k):Sm k r:=
 have hp:10^j<=10^k:=fm om a
 ⟨sS h.1 hp,sS h.2 hp⟩
theorem Sm.neg{k:Nat}{r:Rat}(h:Sm k r):Sm k (-r):=by
 refine⟨?_,h.2⟩;rw[Rat.neg_num,VV];exact h.1
theorem Sm.mkRat{k:Nat}{p:Int}{d:Nat}(h1:p.natAbs<10^k)(a:d<10^k)(b:d≠0):Sm k (mkRat p d):=by
 obtain⟨c,e⟩:=uM (p:=p) b;constructor
 ·rw[c,Int.natAbs_ediv_of_dvd (Int.ofNat_dvd_left.2 (Ub _ _)),tR];exact pe (Hu _ _) h1
 ·rw[e];exact pe (Hu _ _) a
theorem iI{a b j k:Nat}(ha:a<10^j)(hb:b<10^k):a*b<10^(j+k):=by
 rw[Nat.pow_add];exact Uf ha hb
theorem BJ{j k:Nat}{a b:Rat}(ha:Sm j a)(hb:Sm k b):(a.num*b.den+b.num*a.den).natAbs<10^(j+k+1):=by
 have h1:=iI ha.1 hb.2;have c:=iI hb.1 ha.2;rw[LP k j]at c;have d:(a.num*b.den).natAbs=a.num.natAbs*b.den:=by rw[Bx,tR]
 have e:(b.num*a.den).natAbs=b.num.natAbs*a.den:=by rw[Bx,tR]
 have g:=Int.natAbs_add_le (a.num*b.den) (b.num*a.den);rw[ky];omega
theorem sf{j k:Nat}{a b:Rat}(ha:Sm j a)(hb:Sm k b):a.den*b.den<10^(j+k):=iI ha.2 hb.2
theorem sj(a b:Rat):a.den*b.den≠0:=Nat.mul_ne_zero a.den_nz b.den_nz
theorem Sm.add{j k:Nat}{a b:Rat}(ha:Sm j a)(hb:Sm k b):Sm (j+k+1) (a+b):=by
 rw[Rat.add_def'];refine Sm.mkRat (BJ ha hb) ?_ (sj a b);have:=sf ha hb;rw[ky];omega
theorem Sm.sub{j k:Nat}{a b:Rat}(ha:Sm j a)(hb:Sm k b):Sm (j+k+1) (a - b):=by
 rw[SM];exact ha.add hb.neg
theorem Sm.mul{j k:Nat}{a b:Rat}(ha:Sm j a)(hb:Sm k b):Sm (j+k) (a*b):=by
 rw[Rat.mul_def'];refine Sm.mkRat ?_ (sf ha hb) (sj a b);rw[Bx];exact iI ha.1 hb.1
theorem Sm.ofInt{k:Nat}{z:Int}(h:z.natAbs<10^k)(a:1<=k):Sm k (z:Rat):=by
 have hp:10^1<=10^k:=fm om a;refine⟨h,?_⟩;have:(z:Rat).den=1:=rfl;omega
theorem Sm.text{k:Nat}{r:Rat}(h:(pM r).length<=k):Sm k r:=by
 have h1:=FC r.num;have b:=Ax r.den;have c:=vv.2 (TW r.num);unfold pM at h;split at h
 ·rename_i e;have hp:10^(kr r.num).length<=10^k:=fm om h;have a:10^1<=10^k:=fm om om;exact⟨om,om⟩
 ·simp only[ek,eL]at h;have hp:10^(kr r.num).length<=10^k:=fm om om;have a:10^(eK r.den).length<=10^k:=fm om om;exact⟨om,om⟩
theorem Sm.length{k:Nat}{r:Rat}(h:Sm k r)(a:1<=k):(pM r).length<=2*k+2:=by
 have h1:=jA h.1 a;have b:=ig h.2 a;unfold pM;split
 ·omega
 ·simp only[ek,eL];omega
theorem Sm.int{k:Nat}{r:Rat}(h:Sm k r)(a:1<=k):(kr r.num).length<=k+1:=jA h.1 a
theorem Sm.nat{k:Nat}{r:Rat}(h:Sm k r)(a:1<=k):(eK r.den).length<=k:=ig h.2 a

theorem HQ(a b:Rat):a<b↔a.num*b.den - b.num*a.den<0:=by
 rw[Rat.lt_iff];omega
theorem Qf(a b:Rat):a=b↔a.num*b.den - b.num*a.den=0:=by
 rw[Rat.eq_iff_mul_eq_mul];omega
def gA(a b:Rat):Int:=if a<b then -1 else if b<a then 1 else 0
theorem jn{a b:Rat}:gA a b<0↔a<b:=by
 unfold gA;split
 ·simp[*]
 ·split<;>simp[*]
theorem gx{a b:Rat}:gA a b>0↔b<a:=by
 unfold gA;split
 ·rename_i h;have:¬b<a:=SU.2 (Rat.le_of_lt h);simp[this]
 ·split<;>simp[*]
theorem Ay{a b:Rat}:gA a b=0↔a=b:=by
 unfold gA;split
 ·rename_i h;have:=Rat.ne_of_lt h;simp[this]
 ·rename_i h;split
  ·rename_i c;have:=Rat.ne_of_gt c;simp[this]
  ·rename_i c;simp;exact Rat.le_antisymm (SU.1 c) (SU.1 h)
theorem Qg(r:Rat):r.num.sign=gA r 0:=by
 have h1:r<0↔r.num<0:=by rw[Rat.lt_iff];simp
 have a:0<r↔0<r.num:=by rw[Rat.lt_iff];simp
 unfold gA;rcases Int.lt_trichotomy r.num 0 with h|h|h
 ·rw[bb (h1.2 h),LN h]
 ·rw[aq (fun k=>by have:=h1.1 k;omega),aq (fun k=>by have:=a.1 k;omega),h];rfl
 ·rw[aq (fun k=>by have:=h1.1 k;omega),bb (a.2 h),OZ h]

theorem Ma : Tryz.prog.globalNamed "internal/strconv.uint64pow10" = some 0 := kF

structure bj (w:World):Prop where
 tab : Lib.TabIs Tryz.prog w "internal/strconv.uint64pow10" .u64 Lib.pow10Tab
 mx:∃m:Int,w.cell? ⟨1,0,none⟩=some (.int .i64 m)

theorem Mb{w:World}{a:Addr}{v:Value}(h:w.cell? a=some v):a.block<w.heap.size:=by
 apply bm;intro k;have:w.heap[a.block]? =none:=vd om;simp[World.cell?,this]at h
theorem HR {w w' : World} {B : Nat} (h : Lib.TabIs Tryz.prog w "internal/strconv.uint64pow10" .u64 Lib.pow10Tab) (hb : Below B w w') (hB : w.heap.size ≤ B) : Lib.TabIs Tryz.prog w' "internal/strconv.uint64pow10" .u64 Lib.pow10Tab := by
 unfold Lib.TabIs World.var? at*;rw[Ma]at*;simp only[Mw]at*;have a:0<w.heap.size:=by
  apply bm;intro k;have:w.heap[0]? =none:=vd om;rw[this]at h;cases h
 rw[hb.block _ om];exact h
theorem bj.below{w w':World}{B:Nat}(h:bj w)(hb:Below B w w')(hB:w.heap.size<=B):bj w':=by
 refine⟨HR h.tab hb hB,?_⟩;obtain⟨m,hm⟩:=h.mx;refine⟨m,?_⟩;have:=Mb hm;simp only at this;simp only[World.cell?]at hm⊢;rw[hb.block _ om];exact hm
theorem bj.next{w w':World}(h:bj w)(hb:Below w.heap.size w w'):bj w':=h.below hb lf
open Go Go.RowKit Go.Shelf Go.Proofs Go.Proofs.YtbcojgcjjpggnaaGreatDoor.Vc
attribute [local go_sem] Oper.semAt_some

def FG:Nat->Nat->Tx
 |0,_=>[]
 |k+1,r=>FG k (r / 10)++[UInt8.ofNat (48+r % 10)]
theorem Kk(q:Nat)(hq:0<q):∀(k r:Nat),r<10^k->eK (q*10^k+r)=eK q++FG k r:=by
 intro k;induction k with
 |zero=>intro r hr;simp at hr;simp[hr,FG]
 |succ k ih=>
  intro r hr;rw[ky]at hr⊢;have hp:0<10^k:=OE om;have h1:1<=q*10^k:=Nat.mul_pos hq hp;have e:q*(10^k*10)+r=10*(q*10^k)+r:=gD;rw[e,nG om,show(10*(q*10^k)+r) / 10=q*10^k+r / 10 by omega,show(10*(q*10^k)+r) % 10=r % 10 by omega,ih (r / 10) om,FG,lN]
theorem M7(k:Nat):FG k 0=List.replicate k 48:=by
 induction k with
 |zero=>rfl
 |succ k ih=>rw[FG,Nat.zero_div,ih,RP];rfl
theorem Qh:∀(k r:Nat),r<10^k->1<=k->FG k r=List.replicate (k - (eK r).length) 48++eK r:=by
 intro k;induction k with
 |zero=>intro r _ h;omega
 |succ k ih=>
  intro r hr _;rw[ky]at hr;by_cases h:r<10
  ·rw[FG,show r / 10=0 by omega,M7,gS h,show r % 10=r by omega];simp
  ·have hk:1<=k:=by
    apply bm;intro k0;have:k=0:=om;subst this;omega
   rw[FG,ih (r / 10) om hk,nG h,ek,lN]
   congr 2
   simp

def tW(n:Nat)(p:PW):Tx:=if(p.1:Int)<(n:Int) - 1 then List.replicate (9 - (eK p.2.1).length) 48++eK p.2.1 else eK p.2.1
def SR(n:Nat)(l:List PW):Tx:=l.flatMap (tW n)
theorem BK(n:Nat)(l:List PW)(p:PW):SR n (l++[p])=SR n l++tW n p:=by simp[SR]
theorem Qi(ws:List Nat)(hs:Small ws)(hn:Norm ws):∀d m,ws.length - 1 - m=d->m<ws.length->SR ws.length (qX ws hs m)=eK (wv (ws.drop m)):=by
 intro d;induction d with
 |zero=>
  intro m hd hm;have hm':m=ws.length - 1:=om;have e:qX ws hs m=[Wh ws hs m]:=by
   rw[wB ws hs hm,show m+1=ws.length by omega,DG];rfl
  rw[e,lU,cd om];have h1:¬((m:Int)<(ws.length:Int) - 1):=om;simp[SR,tW,Wh,h1,wv]
 |succ d ih=>
  intro m hd hm;rw[wB ws hs hm,BK,ih (m+1) om om,lU ws m];have h1:((m:Int)<(ws.length:Int) - 1):=om;have hx:=hs.getD m;have hpos:0<wv (ws.drop (m+1)):=by
   have hne:ws.drop (m+1)≠[]:=by
    intro k;have:=bx List.length k;simp at this;omega
   have hnn:Norm (ws.drop (m+1)):=by
    unfold Norm at*;rw[List.getLast?_drop,aq om];exact hn
   have:=nV hnn hne;have hp:0<1000000000^((ws.drop (m+1)).length - 1):=OE om;omega
  have e:ws.getD m 0+1000000000*wv (ws.drop (m+1))=wv (ws.drop (m+1))*10^9+ws.getD m 0:=om;rw[e,Kk _ hpos 9 _ om,Qh 9 _ om om];have e2:tW ws.length (Wh ws hs m)=List.replicate (9 - (eK (ws.getD m 0)).length) 48++eK (ws.getD m 0):=by
   simp[tW,Wh,h1]
  rw[e2]
theorem TX(ws:List Nat)(hs:Small ws)(hn:Norm ws)(h:ws≠[]):SR ws.length (qX ws hs 0)=eK (wv ws):=by
 have:=Qi ws hs hn _ 0 rfl (vv.2 h);simpa using this
theorem FH(n:Nat)(p:PW):(tW n p).length<=9:=by
 have h:=ig (n:=p.2.1) (k:=9) p.2.2 om;unfold tW;split
 ·simp;omega
 ·exact h
theorem Kl(n:Nat)(l:List PW):(SR n l).length<=9*l.length:=by
 induction l with
 |nil=>simp[SR]
 |cons p r ih=>
  have:=FH n p;simp only[SR,u6,ek,eL]at*;omega

theorem iD{w w':World}(h:Below w.heap.size w w'):w.grownBy w' none:=⟨h.os,h.tape,h.output,h.size,fun k hk _=>h.block k hk⟩
theorem fR{T e B b:Nat}{bs:List Value}{w w':World}{row:Option Nat}(h:Lib.IsBuilderF T e B b bs w)(hg:w.grownBy w' row)(hr:∀r,row=some r->∃o:Obj,w.heap[r]? =some o/\o.isCells=false):Lib.IsBuilderF T e B b bs w':=by
 have one:∀p,Lib.BuilderAtF T e B b p bs w->Lib.BuilderAtF T e B b p bs w':=by
  rintro p ⟨hB,v,hb,hown,hne⟩;refine⟨hB,v,?_,hown.kept hg ?_,hne⟩
  ·rw[hg.block b (ax.1 hb).1]
   ·exact hb
   ·intro k;obtain⟨o,ho,hc⟩:=hr b k.symm;rw[hb]at ho;cases ho;simp[Obj.isCells]at hc
  ·rcases hown.2 with⟨hv,_⟩|⟨g,cap,cur,fz,hv,_,hgg,_⟩
   ·left;rw[hv];rfl
   ·right
    rw[hv];intro k;simp only[Value.ownBlock]at k;obtain⟨o,ho,hc⟩:=hr g k.symm;rw[hgg]at ho;cases ho;simp[Obj.isCells]at hc
 exact h.imp (one _) (one _)
theorem CK.uN{b:Nat}{W W':World}(h:Lib.OthersKept 5 (some b) W W'):CK b W W':=fun k cs ty fz hk hne hty=>h k _ hk (fun e=>hne (by cases e;rfl)) fun c f e=>by cases e;exact hty rfl
theorem sk{b:Nat}{W W':World}(h:Below W.heap.size W W'):Lib.OthersKept 5 (some b) W W':=fun k o hk _ _=>by
 rw[h.block k (ax.1 hk).1];exact hk
theorem qZ{b B:Nat}{W W':World}(h:Lib.OthersKept 5 (some b) W W')(hs:W.heap.size<=W'.heap.size)(hb:∀o,W.heap[b]? =some o->o.isCells=true):KeepsFrom B W W':=
 ⟨hs,fun k o _ hk hc=>h k o hk (fun e=>by cases e;rw[hb o hk]at hc;cases hc) fun c f e=>by subst e;simp[Obj.isCells]at hc⟩
theorem BL{T e B b:Nat}{bs:List Value}{w:World}(h:Lib.IsBuilderF T e B b bs w):∀o,w.heap[b]? =some o->o.isCells=true:=by
 intro o ho;rcases h with h|h<;>(obtain⟨_,v,hb,_⟩:=h;rw[hb]at ho;cases ho;rfl)
theorem tX(w:World)(k:Nat)(os:Array Obj):Below w.heap.size w (Sort.grow (w.drewN k) os):=
 ⟨rfl,rfl,rfl,by simp[Sort.grow,World.drewN],fun i hi=>by simp[Sort.grow,World.drewN,LK hi]⟩
theorem M8 (u : Nat) (hu : u < 18446744073709551616) (w : World) (htab : Lib.TabIs Tryz.prog w "internal/strconv.uint64pow10" .u64 Lib.pow10Tab) :
  Calls Tryz.prog 306 #[.int .u64 u,.int .i64 10] w fun e w'=>e= .returned (.string ⟨(eK u).toArray⟩)/\Below w.heap.size w w':=
 (Tryz.Kg u hu w htab).mono (by
  rintro e w' ⟨rfl,k,os,rfl⟩;exact⟨rfl,tX _ _ _⟩)
theorem BM{w w':World}{a:Addr}{v:Value}(h:w.cell? a=some v)(hb:Below w.heap.size w w'):w'.cell? a=some v:=(hb.cell (Mb h)).trans h

theorem Km(F:Fence)(n:Nat)(h5:F.fn 305)(hro:F.round=none)(A:Option Addr)(len cap:Nat)(w:World):
  CallsIn F n Tryz.prog 305 #[.slice A len cap] w fun e w'=>e= .returned (.func (.func 320) #[] #[.pointer (some ⟨w.heap.size,0,none⟩)])/\w'=w.alloc (.cells #[.slice A len cap] 325):=by
 refine callsIn_of_wp Tryz.func305 rfl h5 ?_ hro;simp only[Tryz.ntmps305,Bt,eL,wu,Nat.reduceAdd,Nat.reduceSub,QV,Rq,Ts,RW,tu,vu]
 gi_wp2
 go_ret
 exact⟨rfl,rfl⟩

theorem Kn(b Bs:Nat)(A:Option Addr)(cap:Nat)(ws:List Nat)(hs:Small ws)(hlen:ws.length<=1000000)(w:World)(ha:mZ w A ws)(h0:ws≠[])(hb:∀o,w.heap[b]? =some o->∀c fz,o≠ .cells c 227 fz/\o≠ .cells c 325 fz)(hBs:w.heap[Bs]? =some (.cells #[.slice A ws.length cap] 325 (0,0)))(n:Nat)(hn:1<=n):
  SeqStopsK Fence.wide n Tryz.prog 320 #[.pointer (some ⟨Bs,0,none⟩)] PM (CK b) (fun ys=>ys=qX ws hs 0) (fun _=>True) ws.length w:=fun l J Jx W hW _ _ hY h1=>by
 rcases ha with ha|⟨wb,off,all,fr,rfl,hw,hc⟩
 ·exact absurd ha h0
 ·have hwl:=(ax.1 hw).1;have hBl:=(ax.1 hBs).1;refine TA Fence.wide n trivial rfl hn l Bs b wb off cap (fun e=> ?_) (fun e=> ?_) ws hs hlen J Jx hY W _ rfl ((hW.block Bs hBl).trans hBs) all fr ((hW.block wb hwl).trans hw) (fun j hj=> ?_) h1
  ·subst e;exact(hb _ hBs _ _).2 rfl
  ·subst e;exact(hb _ hw _ _).1 rfl
  ·have:=hc j hj;rw[cb,af hj];exact this

set_option maxRecDepth 100000 in
set_option maxHeartbeats 4000000 in
theorem Ko{w:World}{A:Option Addr}{cap:Nat}{ws:List Nat}(hg:bj w)(ha:mZ w A ws)(hs:Small ws)(hnn:Norm ws)(hle:ws.length<=1000000)(h0:ws≠[]):
  Calls Tryz.prog 290 #[.slice A ws.length cap] w fun e w'=>e= .returned (.string ⟨(eK (wv ws)).toArray⟩)/\Below w.heap.size w w':=by
 have hne:¬((ws.length:Int)=0):=by
  have:=vv.2 h0;omega
 refine(callsIn_wide (n:=5)).1 ?_;refine callsIn_of_wp_marks Tryz.func290 rfl trivial ?_ rfl;simp only[Tryz.ntmps290,Bt,eL,wu,Nat.reduceAdd,Nat.reduceSub,QV,Rq,Ts,RW,tu,vu]
 gi_wp2_with (refine⟨trivial,?_⟩;gi_at_call 305;refine(Km Fence.wide _ trivial rfl _ _ _ _).mono ?_;rintro e w' ⟨rfl,rfl⟩)
 obtain⟨W0,hW0⟩:∃W0,((w.alloc (.cells #[.slice A ws.length cap] 325)).alloc (.cells #[.pointer none,.slice none 0 0] 117)).alloc (.cells #[.slice A ws.length cap] 325)=W0:=⟨_,rfl⟩
 have hs0:W0.heap.size=w.heap.size+3:=by rw[<-hW0];simp
 have hB0:W0.heap[w.heap.size]? =some (.cells #[.slice A ws.length cap] 325 (0,0)):=by
  rw[<-hW0];exact((Below.heap_alloc _ _ _ (by simp;omega)).trans (Below.heap_alloc _ _ _ sm)).trans (World.alloc_heap_new w _)
 have hB1:W0.heap[w.heap.size+1]? =some (.cells #[.pointer none,.slice none 0 0] 117 (0,0)):=by
  rw[<-hW0];refine(Below.heap_alloc _ _ _ sm).trans ?_;have:=World.alloc_heap_new (w.alloc (.cells #[.slice A ws.length cap] 325)) (.cells #[.pointer none,.slice none 0 0] 117);rwa [World.size_alloc]at this
 have hB2:W0.heap[w.heap.size+1+1]? =some (.cells #[.slice A ws.length cap] 325 (0,0)):=by
  rw[<-hW0];have:=World.alloc_heap_new ((w.alloc (.cells #[.slice A ws.length cap] 325)).alloc (.cells #[.pointer none,.slice none 0 0] 117)) (.cells #[.slice A ws.length cap] 325);rwa [World.size_alloc,World.size_alloc]at this
 have hbel:Below w.heap.size w W0:=by
  rw[<-hW0];exact(((Below.refl _ w).alloc lf _).alloc sm _).alloc (by simp;omega) _
 rw[hW0];refine wpIn_rangeFunc_ownG rfl om (gf:=320) (lb:= #[.pointer (some ⟨w.heap.size+1+1,0,none⟩)]) rfl trivial (enters_of Tryz.func320 kF rfl)
  (Kn (w.heap.size+1) (w.heap.size+1+1) A cap ws hs hle W0 (ha.au hbel lf) h0 (fun o ho c fz=>by rw[hB1]at ho;cases ho;exact⟨sm,sm⟩) hB2 _ om)
  (fun h k=>CK.trans h k) (fun W l o o' _ h hc _=>CK.putObj W l o o' h hc) (Below.refl _ _) (fun _=>rfl)
  (fun pre W=>Lib.IsBuilderF 117 5 w.heap.size (w.heap.size+1) (Lib.byteCells (SR ws.length pre)) W/\Below w.heap.size w W/\W.heap[w.heap.size]? =some (.cells #[.slice A ws.length cap] 325 (0,0)))
  (fun _ _ _=>False)
  (fun s W1 W2 row hI hgr hr=>⟨fR hI.1 hgr (fun r e=>(hr r e).2),hI.2.1.grown hgr hI.2.1.size (fun r e=>by have:=(hr r e).1;omega),?_⟩)
  (fun _ _ _ _ _ hs _ _=>hs)
  ⟨?_,hbel,hB0⟩ (fun x=>{tmps:= #[.slice A ws.length cap,.pointer (some ⟨w.heap.size,0,none⟩),.string ⟨#[]⟩,.pointer (some ⟨w.heap.size+1,0,none⟩),.int .i64 (x.1:Int),.int .u32 (x.2.1:Int),undef,.slice A ws.length cap,.int .i64 ws.length,.bool false,.slice A ws.length cap,.func (.func 320) #[] #[.pointer (some ⟨w.heap.size+1+1,0,none⟩)],.int .i64 (x.1:Int),.int .u32 (x.2.1:Int),undef,undef,undef,undef,undef,undef,undef,undef,undef,undef,undef,undef,undef,undef,undef,undef],defers:=[]}) ?assign ?body ?done ?stop
 case assign=>
  intro l x W K hK
  gi_wp2
  exact hK
 case body=>
  rintro l pre x W ⟨hI,hbw,hc0⟩ hlen;have hx:=x.2.2;have hcell:W.cell? ⟨w.heap.size,0,none⟩=some (.slice A ws.length cap):=by simp[World.cell?,hc0]
  have htab:=HR hg.tab hbw lf;have hwr:IntKind.wrap .u64 (x.2.1:Int)=(x.2.1:Int):=by rw[IntKind.wrap_u64];omega
  obtain⟨t,ht⟩:∃t,t=eK x.2.1:=⟨_,rfl⟩
  have hl9:t.length<=9:=by rw[ht];exact ig (n:=x.2.1) (k:=9) hx om
  obtain⟨c,hc⟩:∃c,c=9 - t.length:=⟨_,rfl⟩
  have hfmt : ∀ w', Lib.TabIs Tryz.prog w' "internal/strconv.uint64pow10" .u64 Lib.pow10Tab → Calls Tryz.prog 306 #[.int .u64 (x.2.1 : Int), .int .i64 10] w' fun e w'' => e = .returned (.string ⟨t.toArray⟩) ∧ Below w'.heap.size w' w'' := fun w' h => by rw [ht]; exact M8 x.2.1 om _ h
  have hrep:∀w',Calls Tryz.prog 307 #[.string ⟨#[48]⟩,.int .i64 (9 - (t.length:Int))] w' fun e w''=>e= .returned (.string ⟨(List.replicate c (48:UInt8)).toArray⟩)/\Below w'.heap.size w' w'':=fun w'=>by
   rw[show 9 - (t.length:Int)=(c:Int) by omega];refine(Tryz.strings_Repeat ⟨#[48]⟩ c w' om (by simp[ByteArray.size];omega)).mono ?_;rintro e w'' ⟨rfl,h⟩;refine⟨?_,h⟩;have e1:Lib.repeatL [48] c=List.replicate c (48:UInt8):=by
    clear hc;induction c with
    |zero=>rfl
    |succ c ih=>simp[Lib.repeatL,ih,MT]
   show Ending.returned (.string ⟨(Lib.repeatL [48] c).toArray⟩)=_;rw[e1]
  have hc9:c<=9:=om;have hlx:=Kl ws.length pre;have hWs:=hbw.size;by_cases hlt:(x.1:Int)<(ws.length:Int) - 1
  ·have ho:tW ws.length x=List.replicate c 48++t:=by simp[tW,hlt,hc,ht]
   clear hc ht
   gi_wp2_with (refine⟨trivial,?_⟩;gi_at_call 306;refine(CallsIn.inRound l (callsIn_wide.2 (hfmt _ htab))).mono ?_;clear hfmt;rintro e W1 ⟨rfl,hb1⟩;have hcell1:=BM hcell hb1)
   refine⟨trivial,?_⟩
   gi_at_call 307
   refine(CallsIn.inRound l (callsIn_wide.2 (hrep _))).mono ?_;rintro e W2 ⟨rfl,hb2⟩;have hI2:=fR (fR hI (iD hb1) (fun _ e=>by cases e)) (iD hb2) (fun _ e=>by cases e);have s1:=hb1.size;have s2:=hb2.size
   gi_wp2
   refine⟨trivial,?_⟩
   gi_at_call 49
   refine(CallsIn.inRound l (callsIn_wide.2 (Tryz.Bz w.heap.size (w.heap.size+1) _ ⟨(List.replicate c (48:UInt8)).toArray⟩ W2 hI2 (by rw[Lib.byteCells_length];simp[ByteArray.size];omega) om))).mono ?_;rintro e W3 ⟨rfl,hI3,hb3,ho3⟩;have s3:=hb3.size
   gi_wp2
   refine⟨trivial,?_⟩
   gi_at_call 49
   refine(CallsIn.inRound l (callsIn_wide.2 (Tryz.Bz w.heap.size (w.heap.size+1) _ ⟨t.toArray⟩ W3 (.inr hI3) (by rw[ek,Lib.byteCells_length,Lib.strCells_length];simp[ByteArray.size];omega) om))).mono ?_;rintro e W4 ⟨rfl,hI4,hb4,ho4⟩;have s4:=hb4.size
   gi_wp2
   have ho4':=((sk (b:=w.heap.size+1) hb1).trans (sk hb2)).trans (ho3.trans ho4);refine⟨qZ ho4' om (BL hI),CK.uN ho4',.inr ?_,hbw.trans ((hb1.mono hWs).trans ((hb2.mono om).trans (hb3.trans hb4))),CK.uN ho4' _ _ _ _ hc0 om dc⟩;rw[BK,ho,Lib.byteCells_append,Lib.byteCells_append,<-lN];exact hI4
  ·have ho:tW ws.length x=t:=by simp[tW,hlt,ht]
   clear hc ht
   gi_wp2_with (refine⟨trivial,?_⟩;gi_at_call 306;refine(CallsIn.inRound l (callsIn_wide.2 (hfmt _ htab))).mono ?_;clear hfmt;rintro e W1 ⟨rfl,hb1⟩;have hcell1:=BM hcell hb1)
   have hI1:=fR hI (iD hb1) (fun _ e=>by cases e);have s1:=hb1.size;refine⟨trivial,?_⟩
   gi_at_call 49
   refine(CallsIn.inRound l (callsIn_wide.2 (Tryz.Bz w.heap.size (w.heap.size+1) _ ⟨t.toArray⟩ W1 hI1 (by rw[Lib.byteCells_length];simp[ByteArray.size];omega) om))).mono ?_;rintro e W4 ⟨rfl,hI4,hb4,ho4⟩;have s4:=hb4.size
   gi_wp2
   have ho4':=(sk (b:=w.heap.size+1) hb1).trans ho4;refine⟨qZ ho4' om (BL hI),CK.uN ho4',.inr ?_,hbw.trans ((hb1.mono hWs).trans hb4),CK.uN ho4' _ _ _ _ hc0 om dc⟩;rw[BK,ho,Lib.byteCells_append];exact hI4
 case done=>
  rintro D ys W hD rfl ⟨hI,hbw,hc0⟩ hK;rw[TX ws hs hnn h0]at hI;have hWs:=hbw.size
  gi_wp2
  refine⟨trivial,?_⟩
  gi_at_call 52
  refine(callsIn_wide.2 (Tryz.Builder_String_any_k w.heap.size (w.heap.size+1) _ W hI om)).mono ?_;rintro e W1 ⟨rfl,hI1,hb1,ho1⟩;have s1:=hb1.size;have hK1:=ho1 D _ hK (fun e=>by cases e;omega) (fun c f e=>by cases e)
  gi_wp2
  refine⟨sm,.inl ⟨_,_,rfl,run_takeDeferred hK1,?_⟩⟩;refine⟨_,results_tmp rfl _ _ _,rfl,?_⟩;exact hbw.trans (hb1.trans (belowK_b (w:=w) lf W1 D _ _ om hK1 rfl rfl))
 case stop=>
  rintro D c pre W _ _ h _;exact h.elim
 ·have hb:=hI.2.2;rw[hgr.block _ (ax.1 hb).1 (fun e=> ?_)]
  ·exact hb
  ·obtain⟨_,o,ho,hc⟩:=hr _ e.symm;rw[hb]at ho;cases ho;simp[Obj.isCells]at hc
 ·exact .inl ⟨om,.slice none 0 0,hB1,World.ownsRowF_nil _ _ _ _,by simp[Value.ownBlock]⟩

theorem sn{w:World}{A:Option Addr}{n c x:Nat}(hg:bj w)(ha:iH w A n c x)(hn:n<=1000000):
  Pure Tryz.prog 290 #[.slice A n c] w fun v _=>v= .string (st (eK x)):=by
 obtain⟨ws,a1,a2,a3,a4,a5,a6,rfl⟩:=ha;by_cases h0:ws=[]
 ·subst h0;simp at a2;subst a2;refine(?_:Calls Tryz.prog 290 #[.slice A 0 c] w fun e w'=>e= .returned (.string ⟨#[48]⟩)/\Below w.heap.size w w').mono ?_
  ·go_enter Tryz.func290,Tryz.ntmps290
   go_wp2
   go_ret
   exact⟨rfl,(Below.refl _ w).alloc lf _⟩
  ·rintro e w' ⟨rfl,hb⟩;refine⟨_,rfl,hb,?_⟩;have:eK (wv [])=[48]:=by simp only[wv];exact yv
   rw[this];rfl
 ·subst a2;refine(Ko hg a1 a5 a6 hn h0).mono ?_;rintro e w' ⟨rfl,hb⟩;exact⟨_,rfl,hb,rfl⟩

theorem lP{w:World}{s t:ByteArray}(hs:s.size<=900000)(e:t.size<=900000):
  Pure Tryz.prog 266 #[.string s,.string t] w fun v w'=>
   (¬(isNat (cL s)=true/\isNat (cL t)=true)/\v= .tuple #[.slice none 0 0,.slice none 0 0,.int .i64 1])∨
   ((isNat (cL s)=true/\isNat (cL t)=true)/\∃A n c A' n' c',v= .tuple #[.slice A n c,.slice A' n' c',.int .i64 0]/\iH w' A n c (eC (cL s))/\iH w' A' n' c' (eC (cL t))):=by
 refine F.lP.vc (pm (bP s om w) ?_);rintro v g _ rfl;refine⟨_,rfl,fun h=> .inl ⟨by simp[h],rfl⟩,fun h=> ?_⟩;refine pm (bP t om g) ?_;rintro v l _ rfl;refine⟨_,rfl,fun d=> .inl ⟨by simp[d],rfl⟩,fun d=> ?_⟩;have a:isNat (cL s)=true:=by simpa using h
 have b:isNat (cL t)=true:=by simpa using d
 refine pm (cZ hs a) ?_;rintro v m _ ⟨A,n,c,rfl,i⟩;refine⟨_,_,_,rfl,pm (cZ e b) ?_⟩;rintro v o j ⟨A',n',c',rfl,k⟩;exact⟨_,_,_,rfl,.inr ⟨⟨a,b⟩,_,_,_,_,_,_,rfl,i.below j,k⟩⟩

def nS(n:Nat):ByteArray:=st (eK n)
def iS(z:Int):ByteArray:=st (kr z)
def rS(r:Rat):ByteArray:=st (pM r)
theorem acg(n:Nat):cL (nS n)=eK n:=rfl
theorem ach(z:Int):cL (iS z)=kr z:=rfl
theorem aci(r:Rat):cL (rS r)=pM r:=rfl
theorem wE{a b:Nat}(h:nS a=nS b):a=b:=BH (By h)
theorem pj(n:Nat):iS (n:Int)=nS n:=by unfold iS nS;rw[xy]
theorem Yt{a b:Nat}:nS a=nS b↔a=b:=⟨wE,fun h=>by rw[h]⟩
theorem Qj:(⟨#[48]⟩:ByteArray)=nS 0:=by unfold nS;rw[yv];rfl
theorem M9:(⟨#[49]⟩:ByteArray)=nS 1:=by unfold nS;rw[Ki];rfl
theorem acj:(⟨#[48]⟩:ByteArray)=iS 0:=by rw[Qj,<-pj];rfl

theorem yw:fy=10^(9*rZ):=by
 unfold fy;have e:(1000000000:Nat)=10^9:=rfl;rw[e,<-Nat.pow_mul]
theorem nY{x k:Nat}(h:x<10^k)(a:k<=900000):x<fy:=by
 rw[yw];exact sS h (fm om (by have:=Hw;omega))
theorem wF{x:Nat}(h:x<fy):(nS x).size<=900000:=by
 rw[yw]at h;have k:=Hw;have:=ig h om;show(eK x).length<=_;omega
theorem iH.Kp{w:World}{A:Option Addr}{n c x:Nat}(h:iH w A n c x)(hx:x<fy*fy+fy):n<=1000000:=by
 obtain⟨ws,_,hl,_,_,_,hn,rfl⟩:=h;unfold fy at hx;by_cases d:ws=[]
 ·subst d;simp at hl;omega
 ·have h1:=nV hn d;rw[<-Nat.pow_add]at hx;have k:=Hw;have g:1000000000^rZ<=1000000000^(rZ+rZ):=fm om om;have e:1000000000^(rZ+rZ)+1000000000^rZ<=1000000000^(rZ+rZ+1):=by
   rw[ky (n:=1000000000) (m:=rZ+rZ)];generalize 1000000000^(rZ+rZ)=a at*;generalize 1000000000^rZ=b at*;omega
  have i:=(M0 (a:=1000000000) om).1 (pe h1 (sS hx e));omega
theorem Mc{x y:Nat}(hx:x<fy)(hy:y<fy):x+y<fy*fy+fy:=by
 have a:2<=fy:=by rw[yw];exact dp om (fm (n:=10) om (show 1<=9*rZ by have:=Hw;omega))
 have:fy<=fy*fy:=Nat.le_mul_of_pos_left _ om;omega
theorem TY{x y:Nat}(hx:x<fy)(hy:y<fy):x*y<fy*fy+fy:=by
 have:=Uf hx hy;omega
theorem Kr{x y:Nat}(hx:x<fy)(h:y<=x):y<fy*fy+fy:=om

theorem fX{w:World}{f:Nat}{a k:Array Value}{A:Option Addr}{n c x:Nat}(hg:bj w)(d:ay Tryz.prog f=true)(hx:x<fy*fy+fy)
  (h:Pure Tryz.prog f (a.toList++([.slice A n c]:List Value)++k.toList).toArray w fun v w'=>∃A n c,v= .slice A n c/\iH w' A n c x):
  Pure Tryz.prog 267 #[.func (.func f) a k,.slice A n c] w fun v _=>v= .tuple #[.string (nS x),.int .i64 0]:=by
 refine F.fX.vc ⟨d,pm h ?_⟩;rintro v e hb ⟨A,n,c,rfl,b⟩;refine⟨_,_,_,rfl,pm (sn (hg.next hb) b (b.Kp hx)) ?_⟩;rintro v g _ rfl;exact⟨_,rfl,rfl⟩

theorem uO{w:World}{x y:Nat}(hx:x<fy)(hy:y<fy):
  Pure Tryz.prog 266 #[.string (nS x),.string (nS y)] w fun v w'=>
   ∃A n c A' n' c',v= .tuple #[.slice A n c,.slice A' n' c',.int .i64 0]/\iH w' A n c x/\iH w' A' n' c' y:=by
 refine pm (lP (wF hx) (wF hy)) ?_;rintro v w' _ (⟨h,_⟩|⟨_,A,n,c,A',n',c',rfl,h1,a⟩)
 ·exact absurd ⟨ph _,ph _⟩ h
 ·rw[acg,km]at h1 a;exact⟨_,_,_,_,_,_,rfl,h1,a⟩

theorem k8{w:World}{x y:Nat}(hg:bj w)(hx:x<fy)(hy:y<fy):
  Pure Tryz.prog 296 #[.string (nS x),.string (nS y)] w fun v _=>v= .tuple #[.string (nS (x+y)),.int .i64 0]:=by
 refine F.k8.vc (pm (uO hx hy) ?_);rintro v b hb ⟨A,n,c,A',n',c',rfl,h1,a⟩;refine⟨_,_,_,_,_,_,_,rfl,fun h=>absurd rfl h,fun _=> ?_⟩;refine pm (fX (hg.next hb) kF (Mc hx hy) (Fl h1 a hx hy)) ?_;rintro v d _ rfl;exact⟨_,_,rfl,rfl⟩

theorem jz{w:World}{x y:Nat}(hg:bj w)(hx:x<fy)(hy:y<fy):
  Pure Tryz.prog 273 #[.string (nS x),.string (nS y)] w fun v _=>v= .tuple #[.string (nS (x*y)),.int .i64 0]:=by
 refine F.jz.vc (pm (uO hx hy) ?_);rintro v d hb ⟨A,n,c,A',n',c',rfl,h1,a⟩;refine⟨_,_,_,_,_,_,_,rfl,fun h=>absurd rfl h,fun _=> ?_⟩;refine pm (fX (hg.next hb) kF (TY hx hy) (pm (qf h1 a hx hy) ?_)) ?_
 ·rintro v b _ ⟨A,n,c,rfl,k,_⟩;exact⟨_,_,_,rfl,k⟩
 ·rintro v b _ rfl;exact⟨_,_,rfl,rfl⟩

theorem nD{w:World}{x y:Nat}(hg:bj w)(hx:x<fy)(hy:y<fy):
  Pure Tryz.prog 224 #[.string (nS x),.string (nS y)] w fun v _=>v= .tuple #[.string (nS (Nat.gcd x y)),.int .i64 0]:=by
 refine F.nD.vc (pm (uO hx hy) ?_);rintro v d hb ⟨A,n,c,A',n',c',rfl,h1,b⟩;refine⟨_,_,_,_,_,_,_,rfl,fun h=>absurd rfl h,fun _=> ?_⟩;have hle:Nat.gcd x y<=x+y:=by
  rcases Nat.eq_zero_or_pos x with a|a
  ·subst a;simp
  ·have:=Nat.le_of_dvd a (Ub x y);omega
 refine pm (fX (hg.next hb) kF (pe hle (Mc hx hy)) (HL h1 b hx hy)) ?_;rintro v e _ rfl;exact⟨_,_,rfl,rfl⟩

theorem iW{w:World}{x y:Nat}(hx:x<fy)(hy:y<fy):
  Pure Tryz.prog 297 #[.string (nS x),.string (nS y)] w fun v _=>v= .tuple #[.int .i64 (js x y),.int .i64 0]:=by
 refine F.iW.vc (pm (uO hx hy) ?_);rintro v b hb ⟨A,n,c,A',n',c',rfl,h1,a⟩;refine⟨_,_,_,_,_,_,_,rfl,fun h=>absurd rfl h,fun _=> ?_⟩;refine pm (nX h1 a hx hy) ?_;rintro v d _ rfl;exact⟨_,rfl,rfl⟩

theorem lj{w:World}{x y:Nat}(hg:bj w)(hx:x<fy)(b:y<=x):
  Pure Tryz.prog 298 #[.string (nS x),.string (nS y)] w fun v _=>v= .tuple #[.string (nS (x - y)),.int .i64 0]:=by
 have hy:y<fy:=pe b hx;refine F.lj.vc (pm (uO hx hy) ?_);rintro v e hb ⟨A,n,c,A',n',c',rfl,h1,d⟩;refine⟨_,_,_,_,_,_,_,rfl,fun h=>absurd rfl h,fun _=> ?_⟩;refine pm (nX h1 d hx hy) ?_;rintro v g a rfl;refine⟨_,rfl,fun h=> ?_,fun _=> ?_⟩
 ·simp only[js]at h;split at h
  ·omega
  ·split at h<;>omega
 ·refine pm (fX ((hg.next hb).next a) kF (Kr hx (Nat.sub_le x y)) (CZ (h1.below a) (d.below a) hx b)) ?_;rintro v i _ rfl;exact⟨_,_,rfl,rfl⟩

theorem ic{w:World}{x y:Nat}(hg:bj w)(hx:x<fy)(hy:y<fy)(e:y≠0):
  Pure Tryz.prog 346 #[.string (nS x),.string (nS y)] w fun v _=>v= .tuple #[.string (nS (x / y)),.string (nS (x % y)),.int .i64 0]:=by
 refine F.ic.vc (pm (uO hx hy) ?_);rintro v l hb ⟨A,n,c,A',n',c',rfl,h1,g⟩;refine⟨_,_,_,_,_,_,_,rfl,fun h=>absurd rfl h,fun _=>⟨fun h=> ?_,fun _=> ?_⟩⟩
 ·obtain⟨ws,_,a2,_,_,_,_,rfl⟩:=g;have:ws=[]:=ep om;subst this;exact absurd rfl e
 ·refine pm (tS h1 g hx hy e) ?_;rintro v o b ⟨B,m,d,B',q,r,rfl,i,j⟩;have k:=(hg.next hb).next b;refine⟨_,_,_,_,_,_,rfl,pm (sn k i (i.Kp (Kr hx (Hu x y)))) ?_⟩;rintro v z a rfl;refine⟨_,rfl,pm (sn (k.next a) (j.below a) (j.Kp (Kr hx (Nat.mod_le x y)))) ?_⟩;rintro v C _ rfl;exact⟨_,rfl,rfl⟩
end Go.Proofs.YtbcojgcjjpggnaaGreatDoor.B

set_option maxRecDepth 100000
set_option maxHeartbeats 4000000
namespace Go.Proofs.YtbcojgcjjpggnaaGreatDoor.F
open Go Go.RowKit Go.Proofs Go.Proofs.YtbcojgcjjpggnaaGreatDoor.Vc
open Tryz
variable {A C D E G H J K A0 A1 A2 A3 A4 A5 A6 A7 A8 A9 C0 C1 C2 C3 C4 C5 C6 C7 C8 C9:O} {a b c d e f g i j l m n o a0 a1 a2 a3 a4 a5 a6 a7 a8 a9 b0 b1 b2 b3 b4 b5 b6 b7 b8 b9 c0 c1 c2 c3 c4 c5 c6 c7 c8 c9:Nat} {p q r s t u v x p0 p1 p2 p3 p4 p5 p6 p7 p8 p9 q0 q1 q2 q3 q4 q5 q6 q7 q8 q9:Int} {L M N N0 N1 N2 N3 N4 N5 N6 N7 N8 N9 T0 T1 T2 T3 T4 T5 T6 T7 T8 T9:ByteArray} {Q S:Bool} {B:Nat} {w:World} {R:Kt}
def iZ.cx:Pm:=([],[])
theorem iZ.vc
  (h:(Pure P 222 #[.string L] w fun c d=>∃e f a,c= .tuple #[.agg #[.bool e,.string f],.bool a]/\(∀b,Ext w.heap.size [] d b->(R (.bool a) b)))):
  Pure P 177 #[.string L] w R:=
 pr iZ.cx func177 h

def gJ.cx:Pm:=([],[])
theorem gJ.vc
  (h:(Pure P 235 #[.string L,.string M] w fun m b=>∃c d e f a,m= .tuple #[.agg #[.bool c,.string d],.agg #[.bool e,.string f],I a]/\(Br (a≠0) (∀g,Ext w.heap.size [] b g->(R (.tuple #[(.string ⟨#[]⟩),I a]) g)) (∀i,Ext w.heap.size [] b i->(Pure P 236 #[.agg #[.bool c,.string d],.agg #[.bool e,.string f]] i fun n o=>∃j l,n= .agg #[.bool j,.string l]/\(Pure P 237 #[.agg #[.bool j,.string l]] o (Rt fun p q=>(R (.tuple #[.string p,I 0]) q)))))))):
  Pure P 195 #[.string L,.string M] w R:=
 pr gJ.cx func195 h

def iX.cx:Pm:=([],[])
theorem iX.vc
  (h:(Pure P 235 #[.string L,.string M] w fun m n=>∃a b c d e,m= .tuple #[.agg #[.bool a,.string b],.agg #[.bool c,.string d],I e]/\(∀f,Ext w.heap.size [] n f->(Pure P 239 #[.agg #[.bool c,.string d]] f fun o p=>∃g i,o= .agg #[.bool g,.string i]/\(Pure P 238 #[.agg #[.bool a,.string b],.agg #[.bool g,.string i]] p fun q r=>∃j l,q= .agg #[.bool j,.string l]/\(Pure P 240 #[.agg #[.bool j,.string l]] r (Ri fun s t=>(R (.tuple #[I s,I e]) t)))))))):
  Pure P 196 #[.string L,.string M] w R:=
 pr iX.cx func196 h

def jP.cx:Pm:=([],[])
theorem jP.vc
  (h:(∀d,Ext w.heap.size [] w d->(Pure P 264 #[.string L,(.string ⟨#[45]⟩)] d fun l m=>∃a b,l= .tuple #[.string a,.bool b]/\(∀e,Ext w.heap.size [] m e->(Pure P 178 #[.string a] e (Rb fun n c=>(Bb n ((∀f,Ext w.heap.size [287] c f->(R (.tuple #[.agg #[.bool b,.string a],(.bool (decide (¬(b=true/\a=(⟨#[48]⟩:ByteArray)/\True))))]) f))/\(∀g,Ext w.heap.size [287] c g->(R (.tuple #[.agg #[.bool b,.string a],(.bool (decide (¬(b=true/\a=(⟨#[48]⟩:ByteArray)/\True))))]) g))) ((∀i,Ext w.heap.size [287] c i->(R (.tuple #[.agg #[.bool b,.string a],.bool false]) i))/\(∀j,Ext w.heap.size [287] c j->(R (.tuple #[.agg #[.bool b,.string a],.bool false]) j)))))))))):
  Pure P 222 #[.string L] w R:=
 pr jP.cx func222 h

def nH.cx:Pm:=([],[])
theorem nH.vc
  (h:(Pure P 265 #[.string L] w fun f b=>∃g c a,f= .tuple #[.agg #[.bool g,.string c],I a]/\(Br (a≠0) (∀d,Ext w.heap.size [] b d->(R (.tuple #[(.string ⟨#[]⟩),I a]) d)) (∀e,Ext w.heap.size [] b e->(R (.tuple #[.string c,I 0]) e))))):
  Pure P 223 #[.string L] w R:=
 pr nH.cx func223 h

def lX.cx:Pm:=([],[])
theorem lX.vc
  (h:(Pure P 265 #[.string L] w fun e f=>∃a b c,e= .tuple #[.agg #[.bool a,.string b],I c]/\(∀d,Ext w.heap.size [] f d->(Pure P 240 #[.agg #[.bool a,.string b]] d (Ri fun g i=>(R (.tuple #[I g,I c]) i)))))):
  Pure P 234 #[.string L] w R:=
 pr lX.cx func234 h

def fS.cx:Pm:=([],[])
theorem fS.vc
  (h:(∀f,Ext w.heap.size [] w f->(Pure P 222 #[.string L] f fun A C=>∃b c g,A= .tuple #[.agg #[.bool b,.string c],.bool g]/\(∀i,Ext w.heap.size [] C i->(Pure P 222 #[.string M] i fun D a=>∃d e j,D= .tuple #[.agg #[.bool d,.string e],.bool j]/\(Br (g=false) (∀l,Ext w.heap.size [] a l->(Pure P 272 #[] l fun E G=>∃m n,E= .agg #[.bool m,.string n]/\(Pure P 272 #[] G fun H J=>∃o p,H= .agg #[.bool o,.string p]/\(∀q,Ext w.heap.size [287] J q->(R (.tuple #[.agg #[.bool m,.string n],.agg #[.bool o,.string p],I 1]) q))))) (Br (j=false) (∀r,Ext w.heap.size [] a r->(Pure P 272 #[] r fun K N=>∃s t,K= .agg #[.bool s,.string t]/\(Pure P 272 #[] N fun O Q=>∃u v,O= .agg #[.bool u,.string v]/\(∀x,Ext w.heap.size [287] Q x->(R (.tuple #[.agg #[.bool s,.string t],.agg #[.bool u,.string v],I 1]) x))))) ((∀y,Ext w.heap.size [287] a y->(R (.tuple #[.agg #[.bool b,.string c],.agg #[.bool d,.string e],I 0]) y))/\(∀z,Ext w.heap.size [287] a z->(R (.tuple #[.agg #[.bool b,.string c],.agg #[.bool d,.string e],I 0]) z)))))))))):
  Pure P 235 #[.string L,.string M] w R:=
 pr fS.cx func235 h

def jB.cx:Pm:=([],[])
theorem jB.vc
  (h:(∀a,Ext w.heap.size [] w a->(Pure P 273 #[.string L,.string M] a (rF fun e j f=>(Pure P 274 #[(.bool (decide (¬((Q:Bool)=S)))),.string e] f fun g i=>∃b c,g= .agg #[.bool b,.string c]/\(∀d,Ext w.heap.size [287] i d->(R (.agg #[.bool b,.string c]) d))))))):
  Pure P 236 #[.agg #[.bool Q,.string L],.agg #[.bool S,.string M]] w R:=
 pr jB.cx func236 h

def jV.cx:Pm:=([],[])
theorem jV.vc
  (h:(Bb Q (ByteArray.size (⟨#[45]⟩:ByteArray)+ByteArray.size L<=9223372036854775807/\(∀a,Ext w.heap.size [] w a->(R (.string ((⟨#[45]⟩:ByteArray)++L)) a))) (∀b,Ext w.heap.size [] w b->(R (.string L) b)))):
  Pure P 237 #[.agg #[.bool Q,.string L]] w R:=
 pr jV.cx func237 h

def jW.cx:Pm:=([],[(2,6,1),(2,7,1)])
theorem jW.vc
  (h:(∀d,Ext w.heap.size [] w d->(Pure P 277 #[.bool S] d (Ri fun a e=>((0<=a/\a<2)/\((True/\(a=(0:Int)->(Pure P 277 #[.bool Q] e (Ri fun b f=>((0<=b/\b<2)/\((True/\(b=(0:Int)->(Pure P 275 #[.agg #[.bool S,.string L],.agg #[.bool Q,.string M]] f fun v x=>∃g i,v= .agg #[.bool g,.string i]/\(∀j,Ext w.heap.size [287] x j->(R (.agg #[.bool g,.string i]) j)))))/\(b=(1:Int)->(Pure P 276 #[.agg #[.bool S,.string L],.agg #[.bool Q,.string M]] f fun y z=>∃l m,y= .agg #[.bool l,.string m]/\(∀n,Ext w.heap.size [287] z n->(R (.agg #[.bool l,.string m]) n))))))))))/\(a=(1:Int)->(Pure P 277 #[.bool Q] e (Ri fun c o=>((0<=c/\c<2)/\((True/\(c=(0:Int)->(Pure P 276 #[.agg #[.bool S,.string L],.agg #[.bool Q,.string M]] o fun A C=>∃p q,A= .agg #[.bool p,.string q]/\(∀r,Ext w.heap.size [287] C r->(R (.agg #[.bool p,.string q]) r)))))/\(c=(1:Int)->(Pure P 275 #[.agg #[.bool S,.string L],.agg #[.bool Q,.string M]] o fun D E=>∃s t,D= .agg #[.bool s,.string t]/\(∀u,Ext w.heap.size [287] E u->(R (.agg #[.bool s,.string t]) u))))))))))))))):
  Pure P 238 #[.agg #[.bool S,.string L],.agg #[.bool Q,.string M]] w R:=
 pr jW.cx func238 h

def ij.cx:Pm:=([],[])
theorem ij.vc
  (h:(∀a,Ext w.heap.size [] w a->(Pure P 274 #[(.bool (decide (Q=false))),.string L] a fun e f=>∃b c,e= .agg #[.bool b,.string c]/\(∀d,Ext w.heap.size [287] f d->(R (.agg #[.bool b,.string c]) d))))):
  Pure P 239 #[.agg #[.bool Q,.string L]] w R:=
 pr ij.cx func239 h

def jX.cx:Pm:=([],[])
theorem jX.vc
  (h:(∀b,Ext w.heap.size [] w b->(Pure P 272 #[] b fun e a=>∃c d,e= .agg #[.bool c,.string d]/\(Br (Q=c/\L=d/\True) (R (I 0) a) (Bb Q (R (I (-1:Int)) a) (R (I 1) a)))))):
  Pure P 240 #[.agg #[.bool Q,.string L]] w R:=
 pr jX.cx func240 h

def jC.cx:Pm:=([],[])
theorem jC.vc
  (h:(∀a,Ext w.heap.size [] w a->(Pure P 235 #[.string L,(.string ⟨#[48]⟩)] a fun f g=>∃b c i j d,f= .tuple #[.agg #[.bool b,.string c],.agg #[.bool i,.string j],I d]/\(∀e,Ext w.heap.size [287] g e->(R (.tuple #[.agg #[.bool b,.string c],I d]) e))))):
  Pure P 265 #[.string L] w R:=
 pr jC.cx func265 h

def jQ.cx:Pm:=([],[])
theorem jQ.vc
  (h:(∀a,Ext w.heap.size [] w a->(R (.agg #[.bool false,(.string ⟨#[48]⟩)]) a))):
  Pure P 272 #[] w R:=
 pr jQ.cx func272 h

def dt.cx:Pm:=([],[])
theorem dt.vc
  (h:(Bb Q (∀a,Ext w.heap.size [] w a->(R (.agg #[(.bool (decide (L≠(⟨#[48]⟩:ByteArray)))),.string L]) a)) (∀b,Ext w.heap.size [] w b->(R (.agg #[.bool false,.string L]) b)))):
  Pure P 274 #[.bool Q,.string L] w R:=
 pr dt.cx func274 h

def lu.cx:Pm:=([],[])
theorem lu.vc
  (h:(∀a,Ext w.heap.size [] w a->(Pure P 296 #[.string L,.string M] a (rF fun e j f=>(Pure P 274 #[.bool Q,.string e] f fun g i=>∃b c,g= .agg #[.bool b,.string c]/\(∀d,Ext w.heap.size [287] i d->(R (.agg #[.bool b,.string c]) d))))))):
  Pure P 275 #[.agg #[.bool Q,.string L],.agg #[.bool S,.string M]] w R:=
 pr lu.cx func275 h

def bH.J4(a:Bool)(b:ByteArray)(c:Bool)(d:ByteArray)(e:Bool)(f:ByteArray):=Jt 276 f276 4 [vL 2,vL 3,vL 4] [⟨2,false,287,[(.bool a),(.string b)]⟩,⟨3,false,287,[(.bool c),(.string d)]⟩,⟨4,false,287,[(.bool e),(.string f)]⟩]
def bH.cx:Pm:=([((false,4),[2,3,4],[2,3,4])],[])
theorem bH.J4.step{a e f:Bool}
  (h:(Pure P 298 #[.string L,.string M] w (rF fun g m i=>(Pure P 274 #[.bool a,.string g] i fun j l=>∃b c,j= .agg #[.bool b,.string c]/\(∀d,Ext B [287] l d->(R (.agg #[.bool b,.string c]) d)))))):
  bH.J4 a L e M f N B w R:=
 jr bH.cx func276 h
theorem bH.vc
  (h:(∀a,Ext w.heap.size [] w a->(Pure P 297 #[.string L,.string M] a (Rii fun d e b=>(Br (d<0) (∀c,Ext w.heap.size [287] b c->(bH.J4 S M Q L false (⟨#[]⟩:ByteArray) w.heap.size c R)) (bH.J4 Q L S M false (⟨#[]⟩:ByteArray) w.heap.size b R)))))):
  Pure P 276 #[.agg #[.bool Q,.string L],.agg #[.bool S,.string M]] w R:=
 pr bH.cx func276 h

def jD.cx:Pm:=([],[])
theorem jD.vc
  (h:(Bb Q (R (I 1) w) (R (I 0) w))):
  Pure P 277 #[.bool Q] w R:=
 pr jD.cx func277 h

def nI.cx:Pm:=([],[])
theorem nI.vc
  (h:(Pure P 235 #[.string L,.string M] w fun m b=>∃c d e f a,m= .tuple #[.agg #[.bool c,.string d],.agg #[.bool e,.string f],I a]/\(Br (a≠0) (∀g,Ext w.heap.size [] b g->(R (.tuple #[(.string ⟨#[]⟩),I a]) g)) (∀i,Ext w.heap.size [] b i->(Pure P 238 #[.agg #[.bool c,.string d],.agg #[.bool e,.string f]] i fun n o=>∃j l,n= .agg #[.bool j,.string l]/\(Pure P 237 #[.agg #[.bool j,.string l]] o (Rt fun p q=>(R (.tuple #[.string p,I 0]) q)))))))):
  Pure P 329 #[.string L,.string M] w R:=
 pr nI.cx func329 h

def nJ.cx:Pm:=([],[])
theorem nJ.vc
  (h:(Pure P 265 #[.string L] w fun j b=>∃c d a,j= .tuple #[.agg #[.bool c,.string d],I a]/\(Br (a≠0) (∀e,Ext w.heap.size [] b e->(R (.tuple #[(.string ⟨#[]⟩),I a]) e)) (∀f,Ext w.heap.size [] b f->(Pure P 239 #[.agg #[.bool c,.string d]] f fun l m=>∃g i,l= .agg #[.bool g,.string i]/\(Pure P 237 #[.agg #[.bool g,.string i]] m (Rt fun n o=>(R (.tuple #[.string n,I 0]) o)))))))):
  Pure P 331 #[.string L] w R:=
 pr nJ.cx func331 h

def jE.cx:Pm:=([],[])
theorem jE.vc
  (h:(Pure P 235 #[.string L,.string M] w fun s d=>∃e f a b c,s= .tuple #[.agg #[.bool e,.string f],.agg #[.bool a,.string b],I c]/\(Br (c≠0) (∀g,Ext w.heap.size [] d g->(R (.tuple #[(.string ⟨#[]⟩),(.string ⟨#[]⟩),I c]) g)) (∀i,Ext w.heap.size [] d i->(Pure P 272 #[] i fun t j=>∃l m,t= .agg #[.bool l,.string m]/\(Br (a=l/\b=m/\True) (R (.tuple #[(.string ⟨#[]⟩),(.string ⟨#[]⟩),I 16]) j) (Pure P 351 #[.agg #[.bool e,.string f],.agg #[.bool a,.string b]] j fun u v=>∃n o p q,u= .tuple #[.agg #[.bool n,.string o],.agg #[.bool p,.string q]]/\(∀r,Ext w.heap.size [] v r->(Pure P 237 #[.agg #[.bool n,.string o]] r (Rt fun x y=>(Pure P 237 #[.agg #[.bool p,.string q]] y (Rt fun z A=>(R (.tuple #[.string x,.string z,I 0]) A))))))))))))):
  Pure P 345 #[.string L,.string M] w R:=
 pr jE.cx func345 h

def ji.cx:Pm:=([],[])
theorem ji.vc
  (h:(∀d,Ext w.heap.size [] w d->(Pure P 346 #[.string M,.string L] d fun v c=>∃b a x,v= .tuple #[.string b,.string a,I x]/\(Bb Q (Br (a≠(⟨#[48]⟩:ByteArray)) (Pure P 296 #[.string b,(.string ⟨#[49]⟩)] c (rF fun y Y z=>(Pure P 298 #[.string L,.string a] z (rF fun A Z C=>(Pure P 274 #[(.bool (decide (¬((Q:Bool)=S)))),.string y] C fun D E=>∃e f,D= .agg #[.bool e,.string f]/\(Pure P 274 #[.bool false,.string A] E fun G H=>∃g i,G= .agg #[.bool g,.string i]/\(∀j,Ext w.heap.size [287] H j->(R (.tuple #[.agg #[.bool e,.string f],.agg #[.bool g,.string i]]) j)))))))) (Pure P 274 #[(.bool (decide (¬((Q:Bool)=S)))),.string b] c fun J K=>∃l m,J= .agg #[.bool l,.string m]/\(Pure P 274 #[.bool false,.string a] K fun N O=>∃n o,N= .agg #[.bool n,.string o]/\(∀p,Ext w.heap.size [287] O p->(R (.tuple #[.agg #[.bool l,.string m],.agg #[.bool n,.string o]]) p))))) (Pure P 274 #[(.bool (decide (¬((Q:Bool)=S)))),.string b] c fun T U=>∃q r,T= .agg #[.bool q,.string r]/\(Pure P 274 #[.bool false,.string a] U fun V X=>∃s t,V= .agg #[.bool s,.string t]/\(∀u,Ext w.heap.size [287] X u->(R (.tuple #[.agg #[.bool q,.string r],.agg #[.bool s,.string t]]) u)))))))):
  Pure P 351 #[.agg #[.bool Q,.string M],.agg #[.bool S,.string L]] w R:=
 pr ji.cx func351 h

end Go.Proofs.YtbcojgcjjpggnaaGreatDoor.F

namespace Go.Proofs.YtbcojgcjjpggnaaGreatDoor.B
open Go Go.RowKit Go.Proofs Go.Proofs.YtbcojgcjjpggnaaGreatDoor.Vc

theorem kE{w a b:World}{ts:List Nat}(h:Below w.heap.size w a)(e:Ext w.heap.size ts a b):Below w.heap.size w b:=h.trans e.below
theorem kP{w a b:World}(h:Below w.heap.size w a)(k:Below a.heap.size a b):Below w.heap.size w b:=h.trans (k.mono h.size)
theorem k0{w b:World}{ts:List Nat}(e:Ext w.heap.size ts w b):Below w.heap.size w b:=e.below

abbrev iV(z:Int):Value:= .agg #[.bool (decide (z<0)),.string (nS z.natAbs)]

theorem jQ(w:World):Pure Tryz.prog 272 #[] w fun v _=>v=iV 0:=by
 refine F.jQ.vc fun w1 _=> ?_
 rw[Qj];rfl

theorem dt(neg:Bool)(n:Nat)(w:World):Pure Tryz.prog 274 #[.bool neg,.string (nS n)] w fun v _=>v=iV (if neg then -(n:Int)else n):=by
 refine F.dt.vc ⟨fun h w1 _=> ?_,fun h w1 _=> ?_⟩
 ·subst h;rw[Qj];simp only[CY,iV]
  congr 3
  ·by_cases a:n=0
   ·subst a;simp
   ·have h1:nS n≠nS 0:=fun k=>a (wE k)
    simp[h1];omega
  ·simp
 ·subst h;have b:¬(n:Int)<0:=om;simp[iV,b]

theorem rb(z:Int)(w:World):Pure Tryz.prog 239 #[iV z] w fun v _=>v=iV (-z):=by
 refine F.ij.vc fun w1 _=> ?_
 refine pm (dt _ _ _) ?_;rintro v a _ rfl;refine⟨_,_,rfl,fun b _=> ?_⟩;have e:(if decide (decide (z<0)=false)=true then -((z.natAbs:Nat):Int)else(z.natAbs:Int))= -z:=by
  by_cases h:z<0
  ·simp[h];omega
  ·simp[h];omega
 rw[e]

theorem xB(z:Int)(w:World):Pure Tryz.prog 240 #[iV z] w fun v _=>v= .int .i64 z.sign:=by
 refine F.jX.vc fun w1 _=>pm (jQ _) ?_
 rintro v a _ rfl;refine⟨_,_,rfl,fun h=> ?_,fun h=>⟨fun h1=> ?_,fun h1=> ?_⟩⟩
 ·have:z.natAbs=0:=wE h.2.1;have:z=0:=om;subst this;rfl
 ·have:z<0:=by simpa using h1
  rw[LN this]
 ·have b:¬z<0:=by simpa using h1
  have:z≠0:=fun k=>by subst k;exact h ⟨sm,rfl,trivial⟩
  rw[OZ om]

theorem TZ(c:UInt8)(l:Tx):(⟨#[c]⟩:ByteArray)++st l=st (c::l):=by
 apply JY;simp[cL,st,ByteArray.data_append]
theorem lY{z:Int}(h:z.natAbs<fy)(w:World):Pure Tryz.prog 237 #[iV z] w fun v _=>v= .string (iS z):=by
 have hs:=wF h;refine F.jV.vc ⟨fun h=>⟨by show 1+(nS z.natAbs).size<=_;omega,fun w1 _=> ?_⟩,fun h w1 _=> ?_⟩
 ·have h1:z<0:=by simpa using h
  have e:iS z=st (45::eK z.natAbs):=by unfold iS;rw[nk,bb h1]
  rw[e,<-TZ];rfl
 ·have h1:¬z<0:=by simpa using h
  have e:iS z=nS z.natAbs:=by unfold iS nS;rw[nk,aq h1]
  rw[e]

theorem lu{w:World}{x y:Int}(hg:bj w)(hx:x.natAbs<fy)(hy:y.natAbs<fy):
  Pure Tryz.prog 275 #[iV x,iV y] w fun v _=>v=iV (if x<0 then -((x.natAbs+y.natAbs:Nat):Int)else((x.natAbs+y.natAbs:Nat):Int)):=by
 refine F.lu.vc fun w1 a=>pm (k8 (hg.next (k0 a)) hx hy) ?_
 rintro v b _ rfl;refine⟨_,_,rfl,pm (dt _ _ _) ?_⟩;rintro v c _ rfl;refine⟨_,_,rfl,fun d _=> ?_⟩;simp

theorem tY{w0:World}{x y:Int}(hg:bj w0){a b:Bool}{s t:ByteArray}{R:Value->World->Prop}(hx:x.natAbs<fy)(d:y.natAbs<=x.natAbs){w:World}{c:Bool}{r:ByteArray}(hb:Below w0.heap.size w0 w)
  (e:∀w,R (iV (if x<0 then -((x.natAbs - y.natAbs:Nat):Int)else((x.natAbs - y.natAbs:Nat):Int))) w):
  F.bH.J4 (decide (x<0)) (nS x.natAbs) (decide (y<0)) (nS y.natAbs) c r w0.heap.size w R:=by
 refine F.bH.J4.step (pm (lj (hg.next hb) hx d) ?_);rintro v h _ rfl;refine⟨_,_,rfl,pm (dt _ _ _) ?_⟩;rintro v i _ rfl;refine⟨_,_,rfl,fun g _=> ?_⟩;have:=e g;simpa using this

theorem bH{w:World}{x y:Int}(hg:bj w)(hx:x.natAbs<fy)(hy:y.natAbs<fy)(hs:(x<0/\0<=y)∨(0<=x/\y<0)):
  Pure Tryz.prog 276 #[iV x,iV y] w fun v _=>v=iV (x+y):=by
 refine F.bH.vc fun w1 e=>pm (iW hx hy) ?_
 rintro v i d rfl;refine⟨_,_,rfl,fun h j g=> ?_,fun h=> ?_⟩
 ·have c:x.natAbs<y.natAbs:=by
   simp only[js]at h;split at h
   ·omega
   ·split at h<;>omega
  refine tY (a:=false) (b:=false) (s:=⟨#[]⟩) (t:=⟨#[]⟩) hg hy (Nat.le_of_lt c) (kE (kP (k0 e) d) g) fun w=> ?_
  congr 1
  split<;>omega
 ·have c:y.natAbs<=x.natAbs:=by
   simp only[js]at h;split at h<;>omega
  refine tY (a:=false) (b:=false) (s:=⟨#[]⟩) (t:=⟨#[]⟩) hg hx c (kP (k0 e) d) fun w=> ?_
  congr 1
  split<;>omega

theorem jD(b:Bool)(w:World):Pure Tryz.prog 277 #[.bool b] w fun v _=>v= .int .i64 (if b then 1 else 0):=by
 refine F.jD.vc ⟨fun h=> ?_,fun h=> ?_⟩<;>subst h<;>rfl

theorem xC{w:World}{x y:Int}(hg:bj w)(hx:x.natAbs<fy)(hy:y.natAbs<fy):
  Pure Tryz.prog 238 #[iV x,iV y] w fun v _=>v=iV (x+y):=by
 refine F.jW.vc fun w1 j=>pm (jD _ _) ?_
 rintro v l d rfl;have hb:=kP (k0 j) d;refine⟨_,rfl,by split<;>omega,⟨trivial,fun h1=>pm (jD _ _) ?_⟩,fun h1=>pm (jD _ _) ?_⟩
 all_goals
  rintro v m e rfl;have c:=hg.next (kP hb e);refine⟨_,rfl,by split<;>omega,⟨trivial,fun a=> ?_⟩,fun a=> ?_⟩
 ·have b:¬x<0:=fun k=>by simp[k]at h1
  have g:¬y<0:=fun k=>by simp[k]at a
  refine pm (lu c hx hy) ?_;rintro v h _ rfl;refine⟨_,_,rfl,fun i _=> ?_⟩;rw[aq b];show iV _=iV _
  congr 1
  omega
 ·have b:¬x<0:=fun k=>by simp[k]at h1
  have g:y<0:=by apply bm;intro k;simp[k]at a
  refine pm (bH c hx hy om) ?_;rintro v h _ rfl;exact⟨_,_,rfl,fun i _=>rfl⟩
 ·have b:x<0:=by apply bm;intro k;simp[k]at h1
  have g:¬y<0:=fun k=>by simp[k]at a
  refine pm (bH c hx hy om) ?_;rintro v h _ rfl;exact⟨_,_,rfl,fun i _=>rfl⟩
 ·have b:x<0:=by apply bm;intro k;simp[k]at h1
  have g:y<0:=by apply bm;intro k;simp[k]at a
  refine pm (lu c hx hy) ?_;rintro v h _ rfl;refine⟨_,_,rfl,fun i _=> ?_⟩;rw[bb b];show iV _=iV _
  congr 1
  omega

theorem Qk(x y:Int):(if decide (¬(decide (x<0)=decide (y<0)))=true then -((x.natAbs*y.natAbs:Nat):Int)else((x.natAbs*y.natAbs:Nat):Int))=x*y:=by
 have e:(x*y).natAbs=x.natAbs*y.natAbs:=Bx x y;rw[<-e];rcases Int.lt_or_le x 0 with hx|hx<;>rcases Int.lt_or_le y 0 with hy|hy
 ·have:=Int.mul_nonneg_of_nonpos_of_nonpos (U0 hx) (U0 hy);simp[hx,hy];omega
 ·have:=Int.mul_nonpos_of_nonpos_of_nonneg (U0 hx) hy;simp[hx,Wg.2 hy];omega
 ·have:=Int.mul_nonpos_of_nonneg_of_nonpos hx (U0 hy);simp[hy,Wg.2 hx];omega
 ·have:=Int.mul_nonneg hx hy;simp[Wg.2 hx,Wg.2 hy];omega

theorem Dd{w:World}{x y:Int}(hg:bj w)(hx:x.natAbs<fy)(hy:y.natAbs<fy):
  Pure Tryz.prog 236 #[iV x,iV y] w fun v _=>v=iV (x*y):=by
 refine F.jB.vc fun w1 a=>pm (jz (hg.next (k0 a)) hx hy) ?_
 rintro v b _ rfl;refine⟨_,_,rfl,pm (dt _ _ _) ?_⟩;rintro v c _ rfl;refine⟨_,_,rfl,fun d _=> ?_⟩;rw[Qk]

theorem Ql(s:ByteArray)(w:World):
  Pure Tryz.prog 264 #[.string s,.string ⟨#[45]⟩] w fun v _=>v= .tuple #[.string (if(cL s).head? =some 45 then st (cL s).tail else s),.bool (decide ((cL s).head? =some 45))]:=by
 refine Calls.mono (Tryz.strings_CutPrefix s ⟨#[45]⟩ w) ?_;rintro e w' ⟨rfl,rfl⟩;refine⟨_,rfl,Below.refl _ _,?_⟩;have h1:Lib.hasPrefix s.data.toList [45]=decide ((cL s).head? =some 45):=by
  show List.isPrefixOf [45] (cL s)=_;cases cL s with
  |nil=>rfl
  |cons c r=>
   by_cases h:c=45
   ·subst h;simp[List.isPrefixOf]
   ·have a:(45==c)=false:=by simpa using fun k=>h k.symm
    simp[List.isPrefixOf,h,a]
 have a:(⟨(Lib.trimPrefix s.data.toList [45]).toArray⟩:ByteArray)=if(cL s).head? =some 45 then st (cL s).tail else s:=by
  unfold Lib.trimPrefix;rw[h1];by_cases h:(cL s).head? =some 45
  ·simp only[h,decide_true,CY];show st ((cL s).drop 1)=st (cL s).tail;rw[List.drop_one]
  ·simp only[h,decide_false,zD];rfl
 rw[<-h1,<-a]

theorem jP(s:ByteArray)(hs:s.size<2147483648)(w:World):
  Pure Tryz.prog 222 #[.string s] w fun v _=>∃b t,v= .tuple #[.agg #[.bool b,.string t],.bool (isInt (cL s))]/\(isInt (cL s)=true->b=decide (ks (cL s)<0)/\t=nS (ks (cL s)).natAbs):=by
 refine F.jP.vc fun w1 _=>pm (Ql s _) ?_
 rintro v n _ rfl;refine⟨_,_,rfl,fun o _=> ?_⟩;obtain⟨t,c⟩:∃t,t=(if(cL s).head? =some 45 then st (cL s).tail else s):=⟨_,rfl⟩
 rw[<-c];have g:t.size<2147483648:=by
  rw[c];split
  ·have:(st (cL s).tail).size=(cL s).tail.length:=rfl;have:=kz s;simp at*;omega
  ·exact hs
 refine pm (bP t g _) ?_;rintro v q _ rfl;have l:isNat (cL t)=true->eC (cL t)=(ks (cL s)).natAbs/\t=nS (ks (cL s)).natAbs:=by
  intro hn;have e:eC (cL t)=(ks (cL s)).natAbs:=by
   rw[c];unfold ks;split
   ·simp[Hs]
   ·simp
  refine⟨e,?_⟩;rw[<-e];exact(by rw[<-PJ t];unfold nS;rw[Hs,oK hn]:t=nS (eC (cL t)))
 have m:isInt (cL s)=true->decide ((cL s).head? =some 45)=decide (ks (cL s)<0):=by
  intro hi;have e:=uK hi
  conv=>lhs;rw[<-e]
  rw[nk];split
  ·rename_i k;simp[k]
  ·rename_i k;simp[k,tV]
 have d:isInt (cL s)=(isNat (cL t)&&decide (¬(decide ((cL s).head? =some 45)=true/\t=(⟨#[48]⟩:ByteArray)/\True))):=by
  unfold isInt;by_cases h:(cL s).head? =some 45
  ·have i:t=st (cL s).tail:=by rw[c,bb h]
   rw[bb h,i,Hs]
   congr 1
   by_cases j:(cL s).tail=[48]
   ·simp[h,j];rfl
   ·have:st (cL s).tail≠(⟨#[48]⟩:ByteArray):=fun k=>j (By (k.trans rfl:st (cL s).tail=st [48]))
    simp[h,j,this]
  ·have i:t=s:=by rw[c,aq h]
   rw[aq h,i];simp[h]
 refine⟨_,rfl,fun h=> ?_,fun h=> ?_⟩
 ·rw[h,rr]at d;have fin:∀w',(fun v (_:World)=>∃b t,v=Value.tuple #[.agg #[.bool b,.string t],.bool (isInt (cL s))]/\(isInt (cL s)=true->b=decide (ks (cL s)<0)/\t=nS (ks (cL s)).natAbs)) (.tuple #[(.agg #[(.bool (decide ((cL s).head? =some 45))),(.string t)]),(.bool (decide (¬(decide ((cL s).head? =some 45)=true/\t=(⟨#[48]⟩:ByteArray)/\True))))]) w':=
   fun w'=>⟨_,_,by rw[d],fun hi=>⟨m hi,(l h).2⟩⟩
  exact⟨fun a _=>fin a,fun a _=>fin a⟩
 ·rw[h,FL]at d;have fin:∀w',(fun v (_:World)=>∃b t,v=Value.tuple #[.agg #[.bool b,.string t],.bool (isInt (cL s))]/\(isInt (cL s)=true->b=decide (ks (cL s)<0)/\t=nS (ks (cL s)).natAbs)) (.tuple #[(.agg #[(.bool (decide ((cL s).head? =some 45))),(.string t)]),(.bool false)]) w':=
   fun w'=>⟨_,_,by rw[d],fun hi=>by rw[d]at hi;cases hi⟩
  exact⟨fun a _=>fin a,fun a _=>fin a⟩

theorem Ks{z:Int}(h:z.natAbs<fy):(iS z).size<2147483648:=by
 rw[yw]at h;have k:=Hw;have:=jA h om;show(kr z).length<_;omega
theorem sZ{z:Int}(h:z.natAbs<fy)(w:World):Pure Tryz.prog 222 #[.string (iS z)] w fun v _=>v= .tuple #[iV z,.bool true]:=by
 refine pm (jP _ (Ks h) w) ?_;rintro v c _ ⟨b,t,rfl,a⟩;rw[ach,wD,qY]at*;obtain⟨rfl,rfl⟩:=a rfl;rfl
theorem iZ(s:ByteArray)(hs:s.size<2147483648)(w:World):Pure Tryz.prog 177 #[.string s] w fun v _=>v= .bool (isInt (cL s)):=by
 refine F.iZ.vc (pm (jP s hs w) ?_);rintro v a _ ⟨b,t,rfl,_⟩;exact⟨_,_,_,rfl,fun c _=>rfl⟩

theorem fS{x y:Int}(hx:x.natAbs<fy)(hy:y.natAbs<fy)(w:World):
  Pure Tryz.prog 235 #[.string (iS x),.string (iS y)] w fun v _=>v= .tuple #[iV x,iV y,.int .i64 0]:=by
 refine F.fS.vc fun w1 _=>pm (sZ hx _) ?_
 rintro v b _ rfl;refine⟨_,_,_,rfl,fun c _=>pm (sZ hy _) ?_⟩;rintro v d _ rfl;exact⟨_,_,_,rfl,fun h=>by simp at h,fun _=>⟨fun h=>by simp at h,fun _=>⟨fun a _=>rfl,fun a _=>rfl⟩⟩⟩
theorem Ua:0<fy:=by rw[yw];exact OE om
theorem jC{x:Int}(hx:x.natAbs<fy)(w:World):
  Pure Tryz.prog 265 #[.string (iS x)] w fun v _=>v= .tuple #[iV x,.int .i64 0]:=by
 refine F.jC.vc fun w1 _=> ?_
 rw[acj];refine pm (fS hx (by simpa using Ua) _) ?_;rintro v a _ rfl;exact⟨_,_,_,_,_,rfl,fun b _=>rfl⟩
theorem lX{x:Int}(hx:x.natAbs<fy)(w:World):
  Pure Tryz.prog 234 #[.string (iS x)] w fun v _=>v= .tuple #[.int .i64 x.sign,.int .i64 0]:=by
 refine F.lX.vc (pm (jC hx w) ?_);rintro v a _ rfl;refine⟨_,_,_,rfl,fun b _=>pm (xB _ _) ?_⟩;rintro v c _ rfl;exact⟨_,rfl,rfl⟩
theorem nH{x:Int}(hx:x.natAbs<fy)(w:World):
  Pure Tryz.prog 223 #[.string (iS x)] w fun v _=>v= .tuple #[.string (nS x.natAbs),.int .i64 0]:=by
 refine F.nH.vc (pm (jC hx w) ?_);rintro v a _ rfl;exact⟨_,_,_,rfl,fun h=>absurd rfl h,fun _ b _=>rfl⟩
theorem nJ{x:Int}(hx:x.natAbs<fy)(w:World):
  Pure Tryz.prog 331 #[.string (iS x)] w fun v _=>v= .tuple #[.string (iS (-x)),.int .i64 0]:=by
 refine F.nJ.vc (pm (jC hx w) ?_);rintro v a _ rfl;refine⟨_,_,_,rfl,fun h=>absurd rfl h,fun _ b _=>pm (rb _ _) ?_⟩;rintro v c _ rfl;refine⟨_,_,rfl,pm (lY (by rw[VV];exact hx) _) ?_⟩;rintro v d _ rfl;exact⟨_,rfl,rfl⟩
theorem nI{w:World}{x y:Int}(hg:bj w)(hx:x.natAbs<fy)(hy:y.natAbs<fy)(a:(x+y).natAbs<fy):
  Pure Tryz.prog 329 #[.string (iS x),.string (iS y)] w fun v _=>v= .tuple #[.string (iS (x+y)),.int .i64 0]:=by
 refine F.nI.vc (pm (fS hx hy w) ?_);rintro v d b rfl;refine⟨_,_,_,_,_,rfl,fun h=>absurd rfl h,fun _ e c=>pm (xC (hg.next (kE b c)) hx hy) ?_⟩;rintro v g _ rfl;refine⟨_,_,rfl,pm (lY a _) ?_⟩;rintro v i _ rfl;exact⟨_,rfl,rfl⟩
theorem gJ{w:World}{x y:Int}(hg:bj w)(hx:x.natAbs<fy)(hy:y.natAbs<fy)(a:(x*y).natAbs<fy):
  Pure Tryz.prog 195 #[.string (iS x),.string (iS y)] w fun v _=>v= .tuple #[.string (iS (x*y)),.int .i64 0]:=by
 refine F.gJ.vc (pm (fS hx hy w) ?_);rintro v d b rfl;refine⟨_,_,_,_,_,rfl,fun h=>absurd rfl h,fun _ e c=>pm (Dd (hg.next (kE b c)) hx hy) ?_⟩;rintro v g _ rfl;refine⟨_,_,rfl,pm (lY a _) ?_⟩;rintro v i _ rfl;exact⟨_,rfl,rfl⟩
theorem iX{w:World}{x y:Int}(hg:bj w)(hx:x.natAbs<fy)(hy:y.natAbs<fy):
  Pure Tryz.prog 196 #[.string (iS x),.string (iS y)] w fun v _=>v= .tuple #[.int .i64 (x - y).sign,.int .i64 0]:=by
 refine F.iX.vc (pm (fS hx hy w) ?_);rintro v d a rfl;refine⟨_,_,_,_,_,rfl,fun e c=>pm (rb _ _) ?_⟩;rintro v g b rfl;refine⟨_,_,rfl,pm (xC (hg.next (kP (kE a c) b)) hx (by rw[VV];exact hy)) ?_⟩;rintro v h _ rfl;refine⟨_,_,rfl,pm (xB _ _) ?_⟩;rintro v i _ rfl;refine⟨_,rfl,?_⟩;rw[Int.sub_eq_add_neg]

theorem BN{w:World}{x:Int}{d:Nat}(hg:bj w)(hx:x.natAbs<fy)(C:d<fy)(I:d≠0):
  Pure Tryz.prog 351 #[iV x,iV (d:Int)] w fun v _=>v= .tuple #[iV (x / (d:Int)),iV (x % (d:Int))]:=by
 have J:decide ((d:Int)<0)=false:=by simp
 have i:((d:Int)).natAbs=d:=by simp
 have b:(0:Int)<(d:Int):=om;refine F.ji.vc fun w1 D=> ?_
 rw[i];refine pm (ic (hg.next (k0 D)) hx C I) ?_;rintro v N j rfl;have hb:=kP (k0 D) j;have hm:=Js x.natAbs (show 0<d by omega);have K:=Ek x.natAbs d;obtain⟨q,l⟩:∃q,q=x.natAbs / d:=⟨_,rfl⟩
 obtain⟨r,m⟩:∃r,r=x.natAbs % d:=⟨_,rfl⟩
 rw[<-l,<-m]at K;rw[<-m]at hm;have o:q<=x.natAbs:=by rw[l];exact Hu _ _
 rw[<-l,<-m];have L:((d*q:Nat):Int)=(d:Int)*(q:Int):=by simp
 have pos:0<=x->x / (d:Int)=(q:Int)/\x % (d:Int)=(r:Int):=fun h=>by
  rw[RQ b];omega
 have y:x<0->r=0->x / (d:Int)= -(q:Int)/\x % (d:Int)=(r:Int):=fun h M=>by
  rw[RQ b,Int.mul_neg];omega
 have z:x<0->r≠0->x / (d:Int)= -((q+1:Nat):Int)/\x % (d:Int)=((d - r:Nat):Int):=fun h M=>by
  have e:(d:Int)*((q+1:Nat):Int)=(d:Int)*(q:Int)+d:=gD;rw[RQ b,Int.mul_neg,e];omega
 refine⟨_,_,_,rfl,fun h=>⟨fun h1=> ?_,fun h1=> ?_⟩,fun h=> ?_⟩
 ·have c:x<0:=by simpa using h
  have A:r≠0:=fun k=>by rw[k,Qj]at h1;exact h1 rfl
  obtain⟨g,a⟩:=z c A;rw[M9];refine pm (k8 (hg.next hb) (pe o hx) ?_) ?_
  ·rw[yw];exact sS om (fm (n:=10) om (show 1<=9*rZ by have:=Hw;omega))
  rintro v O B rfl;refine⟨_,_,rfl,pm (lj (hg.next (kP hb B)) C (Nat.le_of_lt hm)) ?_⟩;rintro v P _ rfl;refine⟨_,_,rfl,pm (dt _ _ _) ?_⟩;rintro v E _ rfl;refine⟨_,_,rfl,pm (dt _ _ _) ?_⟩;rintro v G _ rfl;refine⟨_,_,rfl,fun H _=> ?_⟩;rw[g,a];simp[c]
 ·have c:x<0:=by simpa using h
  have A:r=0:=by
   apply bm;intro k;rw[Qj]at h1;exact h1 fun e=>k (wE e)
  obtain⟨g,a⟩:=y c A;refine pm (dt _ _ _) ?_;rintro v E _ rfl;refine⟨_,_,rfl,pm (dt _ _ _) ?_⟩;rintro v G _ rfl;refine⟨_,_,rfl,fun H _=> ?_⟩;rw[g,a];simp[c]
 ·have c:¬x<0:=by simpa using h
  obtain⟨g,a⟩:=pos om;refine pm (dt _ _ _) ?_;rintro v E _ rfl;refine⟨_,_,rfl,pm (dt _ _ _) ?_⟩;rintro v G _ rfl;refine⟨_,_,rfl,fun H _=> ?_⟩;rw[g,a];simp[c]

theorem BO(x:Int)(d:Nat):(x / (d:Int)).natAbs<=x.natAbs:=Int.natAbs_ediv_le_natAbs _ _
theorem jE{w:World}{x:Int}{d:Nat}(hg:bj w)(hx:x.natAbs<fy)(e:d<fy)(g:d≠0):
  Pure Tryz.prog 345 #[.string (iS x),.string (nS d)] w fun v _=>v= .tuple #[.string (iS (x / (d:Int))),.string (nS (x % (d:Int)).toNat),.int .i64 0]:=by
 have a:((d:Int)).natAbs=d:=by simp
 have i:=Int.emod_nonneg x (show(d:Int)≠0 by omega);have j:=Int.emod_lt_of_pos x (show(0:Int)<d by omega);rw[<-pj];refine F.jE.vc (pm (fS hx (by rw[a];exact e) w) ?_);rintro v l b rfl;refine⟨_,_,_,_,_,rfl,fun h=>absurd rfl h,fun _ m k=>pm (jQ _) ?_⟩;rintro v n c rfl;refine⟨_,_,rfl,fun h=> ?_,fun _=>pm (BN (hg.next (kP (kE b k) c)) hx e g) ?_⟩
 ·have:=wE h.2.1;omega
 rintro v o _ rfl;refine⟨_,_,_,_,rfl,fun q _=>pm (lY (pe (BO _ _) hx) _) ?_⟩;rintro v r _ rfl;refine⟨_,rfl,pm (lY om _) ?_⟩;rintro v y _ rfl;refine⟨_,rfl,?_⟩;rw[<-pj,Int.toNat_of_nonneg i]
end Go.Proofs.YtbcojgcjjpggnaaGreatDoor.B
