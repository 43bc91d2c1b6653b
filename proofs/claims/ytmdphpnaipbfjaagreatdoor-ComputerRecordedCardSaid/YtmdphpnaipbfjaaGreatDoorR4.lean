/- Part 4 of the proofs that: The state of a record that was written and recovered is that of its events. -/
import Derived.Test.YtmdphpnaipbfjaaGreatDoorR3
import Derived.Lib.ItoaNum
import Derived.Lib.LaidTab
import Derived.Test.YtmdphpnaipbfjaaGreatDoorProg
set_option linter.unusedVariables false
set_option linter.unusedSimpArgs false
namespace Go.Proofs.YtmdphpnaipbfjaaGreatDoor.B

theorem RL{top b low M v1 v2 vl q:Nat}(hu:b<1000000000)(hl:low<M)(h:q*((v1*1000000000+v2)*M+vl)<=(top*1000000000+b)*M+low):q*v1<=top:=by
 apply bB;intro hn;have h1:(top+1)*(1000000000*M)<=q*v1*(1000000000*M):=hJ _ om;have c:q*v1*(1000000000*M)<=q*((v1*1000000000+v2)*M+vl):=by
  have:q*((v1*1000000000+v2)*M+vl)=q*v1*(1000000000*M)+q*(v2*M+vl):=gD;omega
 have d:(top*1000000000+b)*M+M<=(top+1)*(1000000000*M):=by
  have a:(top*1000000000+b+1)*M<=((top+1)*1000000000)*M:=hJ _ om;grind
 omega

theorem RM{top a low M v1 v2 vl q g rest:Nat}(hl:low<M)(h:q*((v1*1000000000+v2)*M+vl)<=(top*1000000000+a)*M+low)(hg:g*v1+rest=top)(b:q<=g)
  (c:g*v2>rest*1000000000+a):q<g:=by
 rcases MB q g with h1|h1
 ·exact h1
 ·have e:q=g:=om;subst e;have d:(top*1000000000+a+1)*M<=(q*(v1*1000000000+v2))*M:=hJ _ gD;have f:q*((v1*1000000000+v2)*M+vl)=(q*(v1*1000000000+v2))*M+q*vl:=gD;have i:(top*1000000000+a+1)*M=(top*1000000000+a)*M+M:=gD;omega

theorem CR{top a low M v1 v2 vl g rest:Nat}(hl:vl<M)(b:1<=v1)(hg:g*v1+rest=top)(hb:g<=1000000000)(c:g*v2<=rest*1000000000+a):
  g*((v1*1000000000+v2)*M+vl)<((top*1000000000+a)*M+low)+((v1*1000000000+v2)*M+vl):=by
 have h1:(g*(v1*1000000000+v2))*M<=(top*1000000000+a)*M:=hJ _ gD;have d:g*((v1*1000000000+v2)*M+vl)=(g*(v1*1000000000+v2))*M+g*vl:=gD;have e:g*vl<=1000000000*vl:=hJ _ hb;have f:1*(1000000000*M)<=v1*(1000000000*M):=hJ _ b;have h:(v1*1000000000+v2)*M=v1*(1000000000*M)+v2*M:=gD;omega

theorem I0{top a low M v1 v2 vl g:Nat}(b:0<M)(c:v2<1000000000)(hl:vl<M)(hn:1000000000<=2*v1)(d:(top*1000000000+a)*M+low<1000000000*((v1*1000000000+v2)*M+vl))(hg:g*v1<=top):g<=1000000001:=by
 have h1:top*M<(v1*1000000000+v2+1)*M:=gD;have e:top<v1*1000000000+v2+1:=Nat.lt_of_mul_lt_mul_right h1;apply bB;intro f;have h:1000000002*v1<=g*v1:=hJ _ om;omega

theorem I1{v f:Nat}(g:1<=v)(d:v<1000000000)(hf:f=1000000000 / (v+1)):1<=f/\(v+1)*f<=1000000000/\1000000000<=2*(v*f):=by
 have e:=KM 1000000000 (v+1);have h1:=NB 1000000000 (show 0<v+1 by omega);rw[<-hf]at e;have c:1<=f:=by
  rw[hf];exact(Nat.one_le_div_iff om).2 om
 refine⟨c,om,?_⟩;obtain⟨a,rfl⟩:∃a,v=a+1:=⟨v - 1,om⟩
 obtain⟨b,rfl⟩:∃b,f=b+1:=⟨f - 1,om⟩
 have h:(a+1+1)*(b+1)=(a+1)*(b+1)+(b+1):=gD;have i:(a+1)*(b+1)=a*b+a+b+1:=gD;omega

theorem RN{P Q W f V g a c br D x c' b:Nat}(h:f+g*V=Q+P*(c+br))(j:W+P*D=f+P*x)(hx:x+(g*a+c) % 1000000000+br=D+1000000000*b)(i:c'=(g*a+c) / 1000000000):
  W+g*(V+P*a)=Q+(P*1000000000)*(c'+b):=by
 have d:=KM (g*a+c) 1000000000;rw[<-i]at d;generalize (g*a+c) % 1000000000=m at*;have e:P*x+P*m+P*br=P*D+P*(1000000000*b):=by rw[<-pP,<-pP,hx,pP]
 have k:P*(1000000000*c')+P*m=P*(g*a)+P*c:=by rw[<-pP,d,pP]
 clear hx d i;grind

theorem RO{P Q W d V a c D x c':Nat}(h:d+P*c=Q+V)(f:W+P*D=d+P*x)(hx:x=(c+(D+a)) % 1000000000)(e:c'=(c+(D+a)) / 1000000000):
  W+(P*1000000000)*c'=Q+(V+P*a):=by
 have b:=KM (c+(D+a)) 1000000000;rw[<-e,<-hx]at b;have g:P*(1000000000*c')+P*x=P*c+(P*D+P*a):=by rw[<-pP,b,pP,pP]
 clear hx b e;grind

theorem RP{D:List Nat}{k:Nat}(a:k<=D.length)(hs:Small D)(h:wv D<1000000000^(k+1)):wv D=wv (D.take k)+1000000000^k*D.getD k 0/\wv (D.take k)<1000000000^k:=by
 have h1:=mK D k a;rw[mJ]at h1;have b:=ql (hs.take k);rw[ep,jv a]at b;have c:wv (D.drop (k+1))=0:=by
  apply bB;intro c;have d:1000000000^k*(1000000000*1)<=1000000000^k*(1000000000*wv (D.drop (k+1))):=kc _ (kc _ om);rw[pP]at h1;rw[ob]at h;omega
 rw[c]at h1;exact⟨by simpa using h1,b⟩

open Go Go.RowKit Go.Proofs Go.Proofs.YtmdphpnaipbfjaaGreatDoor.Vc

theorem fo.other{w w':World}{B:Nat}{A:Option Addr}{n c:Nat}{ws:List Nat}(h:fo w B A n c ws)(a:∀b,Value.ownBlock (.slice A n c)=some b->w'.heap[b]? =w.heap[b]?):fo w' B A n c ws:=by
 refine⟨h.1,?_⟩;rcases h.2 with h1|⟨g,cap,cur,h1,d,e,i⟩
 ·exact .inl h1
 ·refine .inr ⟨g,cap,cur,h1,d,?_,i⟩;rw[a g (by rw[h1];rfl)];exact e
theorem fo.uN{w:World}{B:Nat}{A:Option Addr}{n c:Nat}{ws:List Nat}(h:fo w B A n c ws):∀b,Value.ownBlock (.slice A n c)=some b->B<=b/\b<w.heap.size:=World.ownsRow.lt h

theorem iD{pre D:List Nat}{j i:Nat}(h:pre.length=j):(pre++D).getD (i+j) 0=D.getD i 0:=by
 rw[cz,iB om,cz]
 congr 2;omega
theorem GG{pre D:List Nat}{j i x:Nat}(h:pre.length=j):(pre++D).set (i+j) x=pre++D.set i x:=by
 rw[B4 _ _ om]
 congr 2;omega
theorem getD_set_ne{D:List Nat}{i t x:Nat}(h:i≠t):(D.set i x).getD t 0=D.getD t 0:=by
 rw[cz,Qu h,<-cz]

theorem tN{D a:List Nat}{k:Nat}(h:D.drop k=a.drop k):D.getD k 0=a.getD k 0:=by
 have e:∀l:List Nat,l.getD k 0=(l.drop k).getD 0 0:=fun l=>by rw[cz,cz,oj,xK]
 rw[e D,e a,h]

structure Div (w1 w:World) (B:Nat) (Au:Option Addr) (nu cu:Nat) (us:List Nat) (Aq:Option Addr) (nq cq:Nat) (qs:List Nat):Prop where
 u:fo w B Au nu cu us
 q:fo w B Aq nq cq qs
 su:Small us
 sq:Small qs
 fr:∀k,k<w1.heap.size->some k≠Value.ownBlock (.slice Au nu cu)->some k≠Value.ownBlock (.slice Aq nq cq)->w.heap[k]? =w1.heap[k]?
 below:Below B w1 w

section
variable {w1 w:World} {B:Nat} {Au:Option Addr} {nu cu:Nat} {us:List Nat} {Aq:Option Addr} {nq cq:Nat} {qs:List Nat}

def Sep(A Au Aq:Option Addr)(nu cu nq cq:Nat):Prop:=∀a,A=some a->some a.block≠Value.ownBlock (.slice Au nu cu)/\some a.block≠Value.ownBlock (.slice Aq nq cq)
def CS(Au Aq:Option Addr):Prop:=∀a b,Au=some a->Aq=some b->a.block≠b.block

theorem Div.sl(h:Div w1 w B Au nu cu us Aq nq cq qs){A:Option Addr}{ws:List Nat}(hs:oI w1 A ws)(d:Sep A Au Aq nu cu nq cq):oI w A ws:=by
 rcases hs with h1|⟨b,off,all,fr,a,hb,e⟩
 ·exact .inl h1
 ·refine .inr ⟨b,off,all,fr,a,?_,e⟩;have c:=d _ a;rw[h.fr b (ax.1 hb).1 c.1 c.2];exact hb

theorem Div.ext(h:Div w1 w B Au nu cu us Aq nq cq qs){c:World}(e:Ext B [] w c):Div w1 c B Au nu cu us Aq nq cq qs:=by
 have same:∀k,k<w.heap.size->c.heap[k]? =w.heap[k]? :=fun k a=>by
  rcases e.other k a with h1|⟨t,d,_⟩
  ·exact h1
  ·cases d
 exact⟨h.u.other fun b hb=>same b (h.u.uN b hb).2,h.q.other fun b hb=>same b (h.q.uN b hb).2,h.su,h.sq,
  fun k a h1 g=>by rw[same k (uB a h.below.size)];exact h.fr k a h1 g,h.below.trans e.below⟩

theorem Div.GH(h:Div w1 w B Au nu cu us Aq nq cq qs)(ha:CS Au Aq){j x:Int}(d:0<=j)(h1:j<nu)(hx:0<=x)(n:x<1000000000){K:World->Prop}
  (k:∀c,Div w1 c B Au nu cu (us.set j.toNat x.toNat) Aq nq cq qs->K c):
  (0<=j/\j<nu)/\∃a,Au=some a/\∃(cs:List Value)(t:Nat),B<=(a.add (j.toNat*1)).block/\(a.add (j.toNat*1)).spot=none/\w.heap[(a.add (j.toNat*1)).block]? =some (.cells cs.toArray t (0,0))/\
   (a.add (j.toNat*1)).off+1<=cs.length/\hasType t []=false/\∀w1,aG w w1 (a.add (j.toNat*1)).block t (setCells cs (a.add (j.toNat*1)).off [.int .u32 x])->K w1:=by
 refine h.u.store d h1 hx rfl fun c g i f1=>k c ⟨g,h.q.other fun b hb=>f1 b ?_,h.su.set om,h.sq,fun k l h1 m=>by rw[f1 k h1];exact h.fr k l h1 m,h.below.trans i⟩
 intro e;cases Au with
 |none=>simp[Value.ownBlock]at e
 |some a=>cases Aq with
  |none=>simp[Value.ownBlock]at hb
  |some o=>
   simp[Value.ownBlock]at e hb;exact ha _ _ rfl rfl om

theorem Div.aax(h:Div w1 w B Au nu cu us Aq nq cq qs)(ha:CS Au Aq){j x:Int}(g:0<=j)(h1:j<nq)(hx:0<=x)(n:x<1000000000){K:World->Prop}
  (k:∀c,Div w1 c B Au nu cu us Aq nq cq (qs.set j.toNat x.toNat)->K c):
  (0<=j/\j<nq)/\∃a,Aq=some a/\∃(cs:List Value)(t:Nat),B<=(a.add (j.toNat*1)).block/\(a.add (j.toNat*1)).spot=none/\w.heap[(a.add (j.toNat*1)).block]? =some (.cells cs.toArray t (0,0))/\
   (a.add (j.toNat*1)).off+1<=cs.length/\hasType t []=false/\∀w1,aG w w1 (a.add (j.toNat*1)).block t (setCells cs (a.add (j.toNat*1)).off [.int .u32 x])->K w1:=by
 refine h.q.store g h1 hx rfl fun c i l f1=>k c ⟨h.u.other fun b hb=>f1 b ?_,i,h.su,h.sq.set om,fun k m h1 d=>by rw[f1 k d];exact h.fr k m h1 d,h.below.trans l⟩
 intro e;cases Aq with
 |none=>simp[Value.ownBlock]at e
 |some a=>cases Au with
  |none=>simp[Value.ownBlock]at hb
  |some o=>
   simp[Value.ownBlock]at e hb;exact ha _ _ rfl rfl om
end

section
variable {w1:World} {B:Nat} {Af Au Av Aq:Option Addr} {nf cf nu cu nv cv nq cq:Nat} {vs:List Nat} {R:Value->World->Prop}

theorem Nv(ha:CS Au Aq)(hn:nu<=1000000){w:World}{pre D qs:List Nat}{g j:Nat}{last:Int}(h:Div w1 w B Au nu cu (pre++D) Aq nq cq qs)(hj:pre.length=j)(m:nv<D.length)(hg:g<1000000000)(n:j<nq)(hl:last<1000000000)
  (d:∀a,Div w1 a B Au nu cu (pre++D.set nv last.toNat) Aq nq cq (qs.set j g)->F.ab.uZ Af nf cf Au nu cu Av nv cv nv Aq nq cq ((j:Int) - 1) B a R):
  F.ab.Yr Af nf cf Au nu cu Av nv cv nv Aq nq cq j g last B w R:=by
 have i:=h.u.len;simp only[dp]at i;have e:(if(0:Int)>last then(0:Int)else last)=(last.toNat:Int):=by split<;>omega
 refine F.ab.Yr.step ⟨ir,by rw[e];simp only[aN];omega,?_⟩;rw[e];refine h.GH ha om om om om fun a b=>⟨ir,?_⟩
 have k:((j:Int)+(nv:Int)).toNat=nv+j:=om;rw[k,cd,GG hj]at b;refine b.aax ha om om om om fun l c=>⟨ir,?_⟩
 rw[cd,cd]at c;exact d l c

theorem Vy(ha:CS Au Aq)(hn:nu<=1000000)(z:oI w1 Av vs)(A:vs.length=nv)(C:Small vs)(E:Sep Av Au Aq nu cu nq cq){pre c qs:List Nat}{g j:Nat}{last:Int}(hj:pre.length=j)(Q:nv<c.length)(S: -2000000000<=last/\last<0)
  (G:∀w D (up:Nat),Div w1 w B Au nu cu (pre++D) Aq nq cq qs->D.length=c.length->up<=1->D.drop nv=c.drop nv->wv D+1000000000^nv*up=wv c+wv vs->
   F.ab.Yr Af nf cf Au nu cu Av nv cv nv Aq nq cq j g (last+up) B w R):
  ∀(d i:Nat)(w:World)(D:List Nat)(up:Nat),nv - i=d->i<=nv->Div w1 w B Au nu cu (pre++D) Aq nq cq qs->D.length=c.length->up<=1->D.drop nv=c.drop nv->wv D+1000000000^i*up=wv c+wv (vs.take i)->
   F.ab.UF Af nf cf Au nu cu Av nv cv nv Aq nq cq j g last up nv i B w R:=by
 intro d;induction d with
 |zero=>
  intro i w D up H hi h hl hu o he;have I:i=nv:=om;subst I;rw[cc om]at he;refine F.ab.UF.step ⟨fun h=>by omega,fun _=>⟨ir,ir,?_⟩⟩;exact G w D up h hl hu o he
 |succ d ih=>
  intro i w D up H hi h hl hu o he;have q:=h.u.len;have J:=q;simp only[dp]at q;have T:=C.getD i;have L:=h.su.getD (i+j);have m:((i:Int)+(j:Int)).toNat=i+j:=om;rw[iD hj]at L;refine F.ab.UF.step ⟨fun _=>⟨ir,?_⟩,fun h=>by omega⟩;refine h.u.sl.load J om om ⟨by rw[m,iD hj];simp only[aN];omega,?_⟩;refine(h.sl z E).load A om om ?_;rw[m,cd,iD hj];refine⟨ir,ir,ir,ir,om,ir,?_⟩;have k:∃a,Au=some a:=by
   obtain⟨a,M,_⟩:=h.u.sl.cell (j:=(i:Int)+j) om om;exact⟨a,M⟩
  obtain⟨a,rfl⟩:=k;have step:∀b,Div w1 b B (some a) nu cu ((pre++D).set ((i:Int)+(j:Int)).toNat ((((up:Int)+((D.getD i 0:Nat)+(vs.getD i 0:Nat))) % 1000000000)).toNat) Aq nq cq qs->
    F.ab.UF Af nf cf (some a) nu cu Av nv cv nv Aq nq cq j g last (((up:Int)+((D.getD i 0:Nat)+(vs.getD i 0:Nat))) / 1000000000) nv ((i:Int)+1) B b R:=by
   intro b n;obtain⟨t,r⟩:∃t,t=up+(D.getD i 0+vs.getD i 0):=⟨_,rfl⟩
   have y:(up:Int)+((D.getD i 0:Nat)+(vs.getD i 0:Nat))=(t:Int):=om;have N:=sc i;have O:((t:Int) % 1000000000).toNat=t % 1000000000:=om;have P:(t:Int) / 1000000000=((t / 1000000000:Nat):Int):=om;rw[y,m,O,GG hj]at n;rw[y,N,P];refine ih (i+1) b _ _ om om n (by simpa using hl) om (by rw[Yi,bm om];exact o) ?_;rw[fM,ob];exact RO he (zO D i _ om) (by rw[r]) (by rw[r])
  refine⟨⟨om,om⟩,a,rfl,fun U e=> ?_⟩;obtain⟨_,V,ea,l⟩:=(h.ext e).GH ha (j:=(i:Int)+(j:Int)) (x:=((up:Int)+((D.getD i 0:Nat)+(vs.getD i 0:Nat))) % 1000000000) om om om om (K:=fun b=>(0<=((up:Int)+((D.getD i 0:Nat)+(vs.getD i 0:Nat)))/\0<(1000000000:Int)/\aN .u64 ((up:Int)+((D.getD i 0:Nat)+(vs.getD i 0:Nat))))/\aN .i64 ((i:Int)+1)/\
   F.ab.UF Af nf cf (some a) nu cu Av nv cv nv Aq nq cq j g last (((up:Int)+((D.getD i 0:Nat)+(vs.getD i 0:Nat))) / 1000000000) nv ((i:Int)+1) B b R) (fun b n=>⟨⟨om,om,ir⟩,ir,step b n⟩)
  cases ea;rw[m]at l;exact l

theorem Vz(ha:CS Au Aq)(hn:nu<=1000000)(A:oI w1 Av vs)(C:vs.length=nv)(E:Small vs)(G:Sep Av Au Aq nu cu nq cq){pre a qs:List Nat}{g j:Nat}(hj:pre.length=j)(Q:nv<a.length)(hg:g<=1000000000)
  (H:∀w D (c br:Nat),Div w1 w B Au nu cu (pre++D) Aq nq cq qs->D.length=a.length->c<1000000000->br<=1->D.drop nv=a.drop nv->wv D+g*wv vs=wv a+1000000000^nv*(c+br)->
   ((a.getD nv 0:Nat) - (c:Int) - (br:Int)<0->1<=g/\F.ab.UF Af nf cf Au nu cu Av nv cv nv Aq nq cq j ((g:Int) - 1) ((a.getD nv 0:Nat) - (c:Int) - (br:Int)) 0 nv 0 B w R)/\
   (¬((a.getD nv 0:Nat) - (c:Int) - (br:Int)<0)->F.ab.Yr Af nf cf Au nu cu Av nv cv nv Aq nq cq j g ((a.getD nv 0:Nat) - (c:Int) - (br:Int)) B w R)):
  ∀(d i:Nat)(w:World)(D:List Nat)(c br:Nat),nv - i=d->i<=nv->Div w1 w B Au nu cu (pre++D) Aq nq cq qs->D.length=a.length->c<1000000000->br<=1->D.drop nv=a.drop nv->wv D+g*wv (vs.take i)=wv a+1000000000^i*(c+br)->
   F.ab.CL Af nf cf Au nu cu Av nv cv nv Aq nq cq j g c br nv i B w R:=by
 intro d;induction d with
 |zero=>
  intro i w D c br I hi h hl z hb n he;have J:i=nv:=om;subst J;have l:=h.u.len;have q:=l;simp only[dp]at l;have r:=h.su.getD (i+j);rw[iD hj]at r;rw[cc om]at he;have k:((j:Int)+(i:Int)).toNat=i+j:=om;have o:=H w D c br h hl z hb n he;rw[<-tN n]at o;refine F.ab.CL.step ⟨fun h=>by omega,fun _=>⟨ir,?_⟩⟩;refine h.u.sl.load q om om ?_;rw[k,iD hj];exact⟨ir,ir,ir,fun h=>⟨by have:=(o.1 h).1;simp only[aN];omega,(o.1 h).2⟩,fun h=>o.2 h⟩
 |succ d ih=>
  intro i w D c br I hi h hl z hb n he;have l:=h.u.len;have q:=l;simp only[dp]at l;have S:=E.getD i;have r:=h.su.getD (i+j);have k:((i:Int)+(j:Int)).toNat=i+j:=om;rw[iD hj]at r;have K:=sc i;have L:g*vs.getD i 0<=1000000000*999999999:=oi hg om;obtain⟨p,hp⟩:∃p,p=g*vs.getD i 0+c:=⟨_,rfl⟩
  have M:(g:Int)*(vs.getD i 0:Nat)=((g*vs.getD i 0:Nat):Int):=by simp
  have y:((g*vs.getD i 0:Nat):Int)+(c:Int)=(p:Int):=om;have N:(p:Int) / 1000000000=((p / 1000000000:Nat):Int):=om;have next:∀(m x:Nat) b,m<=1->x+p % 1000000000+br=D.getD i 0+1000000000*m->Div w1 b B Au nu cu ((pre++D).set (i+j) x) Aq nq cq qs->
    F.ab.CL Af nf cf Au nu cu Av nv cv nv Aq nq cq j g ((p / 1000000000:Nat):Int) m nv ((i:Int)+1) B b R:=by
   intro m x b O hx e;rw[GG hj]at e;rw[K];refine ih (i+1) b _ _ m om om e (by simpa using hl) om O (by rw[Yi,bm om];exact n) ?_;rw[fM,ob];exact RN he (zO D i x om) (by rw[<-hp];exact hx) (by rw[<-hp])
  refine F.ab.CL.step ⟨fun _=>⟨ir,?_⟩,fun h=>by omega⟩;refine(h.sl A G).load C om om ?_;rw[cd,M,y];refine⟨ir,ir,ir,⟨om,om,ir⟩,ir,?_⟩;refine h.u.sl.load q om om ?_;rw[k,iD hj,N];refine⟨ir,om,ir,ir,fun P=>⟨ir,ir,ir,?_⟩,fun P=>⟨ir,ir,?_⟩⟩
  ·rw[<-k];refine h.GH ha om om om om fun b e=>⟨ir,?_⟩
   rw[k]at e;exact next 1 _ b om om e
  ·rw[<-k];refine h.GH ha om om om om fun b e=>⟨ir,?_⟩
   rw[k]at e;exact next 0 _ b om om e

theorem oI.Yu{w:World}{A:Option Addr}{ws:List Nat}{n:Nat}(h:oI w A ws)(hl:ws.length=n){j:Int}(c:0<=j)(h1:j<n){K:World->Int->Prop}(k:∀b,Ext B [] w b->K b (ws.getD j.toNat 0:Nat)):
  (0<=j/\j<n)/\∃a,A=some a/\∀b,Ext B [] w b->∃i:Int,aa b (a.add (j.toNat*1)) [.int .u32 i]/\K b i:=by
 obtain⟨_,a,d,_,_⟩:=h.load hl c h1 (K:=fun _=>True) trivial;refine⟨⟨c,h1⟩,a,d,fun b e=> ?_⟩;obtain⟨_,o,g,i,l,m⟩:=(Ext.ad1 h e).load hl c h1 (K:=K b) (k b e);rw[d]at g;cases g;exact⟨i,l,m⟩

theorem VA(hn:nu<=1000000)(r:oI w1 Av vs)(x:vs.length=nv)(K:Small vs)(y:Sep Av Au Aq nu cu nq cq)(N:2<=nv){pre D qs:List Nat}{j:Nat}(hj:pre.length=j)(U:nv<D.length)
  {top low M vl q T V:Nat} (O:low<M) (E:vl<M) (G:1<=vs.getD (nv - 1) 0) (z:V=(vs.getD (nv - 1) 0*1000000000+vs.getD (nv - 2) 0)*M+vl) (A:T=(top*1000000000+D.getD (nv - 2) 0)*M+low)
  (b:q*V<=T) (W:q<1000000000)
  (H:∀w (g:Nat),Div w1 w B Au nu cu (pre++D) Aq nq cq qs->g<=1000000000->q<=g->g*V<T+V->F.ab.CL Af nf cf Au nu cu Av nv cv nv Aq nq cq j g 0 0 nv 0 B w R):
  ∀(g rest:Nat)(w:World),Div w1 w B Au nu cu (pre++D) Aq nq cq qs->g*vs.getD (nv - 1) 0+rest=top->q<=g->g<=1000000001->rest<1000000000->
   F.ab.CJ Af nf cf Au nu cu Av nv cv nv Aq nq cq j g rest B w R:=by
 have g1:=K.getD (nv - 1);have g2:=K.getD (nv - 2);have c:((nv:Int) - 1).toNat=nv - 1:=om;have d:((nv:Int) - 2).toNat=nv - 2:=om;have i:((j:Int)+(nv:Int) - 2).toNat=(nv - 2)+j:=om;intro g;induction g with
 |zero=>
  intro rest w h k C hg P;have l:=h.u.len;have I:=l;simp only[dp]at l;have J:=h.su.getD (nv - 2+j);rw[iD hj]at J;refine F.ab.CJ.step ⟨fun h=>by omega,fun _=>⟨ir,?_⟩⟩;refine(h.sl r y).load x om om ?_;rw[d];refine⟨ir,ir,ir,ir,ir,?_⟩;refine h.u.sl.load I om om ?_;rw[i,iD hj];refine⟨ir,ir,fun m=>by omega,fun m a e=>H a 0 (h.ext e) om C ?_⟩;rw[A,z];exact CR E G k om om
 |succ g ih=>
  intro rest w h k C hg P;have l:=h.u.len;have I:=l;simp only[dp]at l;have J:=h.su.getD (nv - 2+j);rw[iD hj]at J;have L:((g+1:Nat):Int) - 1=(g:Int):=om;have next:q<=g->∀a,Ext B [] w a->aN .u64 ((vs.getD (nv - 1) 0:Nat):Int)/\aN .u64 ((rest:Int)+(vs.getD (nv - 1) 0:Nat))/\
    (((rest:Int)+(vs.getD (nv - 1) 0:Nat)≥(1000000000:Int)->F.ab.CL Af nf cf Au nu cu Av nv cv nv Aq nq cq j g 0 0 nv 0 B a R)/\
    (¬((rest:Int)+(vs.getD (nv - 1) 0:Nat)≥(1000000000:Int))->F.ab.CJ Af nf cf Au nu cu Av nv cv nv Aq nq cq j g ((rest:Int)+(vs.getD (nv - 1) 0:Nat)) B a R)):=by
   intro n a e;have o:g*vs.getD (nv - 1) 0+(rest+vs.getD (nv - 1) 0)=top:=by rw[qh]at k;omega
   refine⟨ir,ir,fun m=>H a g (h.ext e) om n ?_,fun m=> ?_⟩
   ·rw[A,z];refine CR E G o om ?_;have X:g*vs.getD (nv - 2) 0<=1000000000*1000000000:=oi om om;omega
   ·exact ih (rest+vs.getD (nv - 1) 0) a (h.ext e) o n om om
  refine F.ab.CJ.step ⟨fun m=>⟨ir,ir,?_⟩,fun m=>⟨ir,?_⟩⟩
  ·rw[L];refine(h.sl r y).Yu x om om fun a e=> ?_
   rw[c];exact next om a e
  ·have Q:(g+1)*vs.getD (nv - 2) 0<=1000000000*1000000000:=oi om om;have S:((g+1:Nat):Int)*(vs.getD (nv - 2) 0:Nat)=(((g+1)*vs.getD (nv - 2) 0:Nat):Int):=by simp
   refine(h.sl r y).load x om om ?_;rw[d,S];refine⟨ir,ir,ir,ir,ir,?_⟩;refine h.u.sl.load I om om ?_;rw[i,iD hj,L];refine⟨ir,ir,fun h1=>⟨ir,ir,?_⟩,fun h1 a e=>H a (g+1) (h.ext e) om C ?_⟩
   ·refine(h.sl r y).Yu x om om fun a e=> ?_
    rw[c];refine next ?_ a e
    rw[A,z]at b;have:=RM O b k C om;omega
   ·rw[A,z];exact CR E G k om om
end

theorem fo.base{w:World}{B a:Nat}{A:Option Addr}{n c:Nat}{ws:List Nat}(h:fo w a A n c ws)(hB:B<=a):fo w B A n c ws:=by
 refine⟨h.1,?_⟩;rcases h.2 with h1|⟨g,cap,cur,h1,b,d⟩
 ·exact .inl h1
 ·exact .inr ⟨g,cap,cur,h1,ec hB b,d⟩

theorem aay{D:List Nat}{a:Nat}(c:a+2<D.length)(hs:Small D)(h:wv D<1000000000^(a+2+1)):
  wv D=((D.getD (a+2) 0*1000000000+D.getD (a+1) 0)*1000000000+D.getD a 0)*1000000000^a+wv (D.take a)/\wv (D.take a)<1000000000^a:=by
 have h1:=(RP om hs h).1;have b:=ql (hs.take a);rw[ep,jv om]at b;refine⟨?_,b⟩;rw[h1,fM,fM,ob,ob];grind
theorem aaz{vs:List Nat}{a:Nat}(c:vs.length=a+2)(hs:Small vs):
  wv vs=(vs.getD (a+1) 0*1000000000+vs.getD a 0)*1000000000^a+wv (vs.take a)/\wv (vs.take a)<1000000000^a:=by
 have b:=ql (hs.take a);rw[ep,jv om]at b;refine⟨?_,b⟩;have e:vs=vs.take (a+1+1):=(cc om).symm;have h1:wv vs=wv (vs.take (a+1+1)):=by rw[<-e]
 rw[h1,fM,fM,ob];grind

theorem Sep.of{A Au Aq:Option Addr}{nu cu nq cq:Nat}(h1:∀a b,A=some a->Au=some b->a.block≠b.block)(c:∀a b,A=some a->Aq=some b->a.block≠b.block):Sep A Au Aq nu cu nq cq:=by
 intro a ha;constructor
 ·cases Au with
  |none=>simp[Value.ownBlock]
  |some b=>simp[Value.ownBlock];exact h1 a b ha rfl
 ·cases Aq with
  |none=>simp[Value.ownBlock]
  |some b=>simp[Value.ownBlock];exact c a b ha rfl

section
variable {w1:World} {B:Nat} {Af Au Av Aq:Option Addr} {nf cf nu cu nv cv nq cq:Nat} {vs:List Nat} {R:Value->World->Prop}

set_option maxHeartbeats 2000000 in
theorem VB(ha:CS Au Aq)(hn:nu<=1000000)(hB:B<=w1.heap.size)(N:oI w1 Av vs)(y:vs.length=nv)(C:Small vs)(O:Sep Av Au Aq nu cu nq cq)(hnv:2<=nv)(hnq:nu=nq+nv)(Y:1000000000<=2*vs.getD (nv - 1) 0)
  {f:Nat} (hf:iZ w1 Af nf cf f) (ad7:Sep Af Au Aq nu cu nq cq) (hf0:0<f) (hf1:f<=1000000000) {Q:Nat}
  (hR:∀A n c A' n' c' w,iZ w A n c (Q / wv vs)->iZ w A' n' c' (Q % wv vs / f)->R (.tuple #[.slice A n c,.slice A' n' c']) w):
  ∀(i:Nat)(w:World)(us qs:List Nat),i<=nq->Div w1 w B Au nu cu us Aq nq cq qs->wv (us.drop i)<wv vs->wv (qs.drop i)*wv vs*1000000000^i+wv us=Q->
   F.ab.uZ Af nf cf Au nu cu Av nv cv nv Aq nq cq ((i:Int) - 1) B w R:=by
 obtain⟨a,rfl⟩:∃a,nv=a+2:=⟨nv - 2,om⟩
 have aiP:wv vs<1000000000^(a+2):=by have:=ql C;rwa [y]at this
 obtain⟨hV,Fl⟩:=aaz y C;have l:a+2 - 1=a+1:=om;have g1:=C.getD (a+1);have g2:=C.getD a;rw[l]at Y;intro i;induction i with
 |zero=>
  intro w us qs hi h d he;have BY:=h.u.len;have aoE:=h.u.cap;simp only[AY,Nat.pow_zero,Jm]at d he;have ediv:Q / wv vs=wv qs:=by rw[<-he,DS,Nat.mul_add_div om,Ys d,xK]
  have emod:Q % wv vs=wv us:=by rw[<-he,DS,Nat.mul_add_mod,KO d]
  rw[ediv,emod]at hR;have ad8:wv (us.take (a+2))=wv us:=by
   have h1:=mK us (a+2) om;have e:wv (us.drop (a+2))=0:=by
    apply bB;intro h3;have h4:1000000000^(a+2)*1<=1000000000^(a+2)*wv (us.drop (a+2)):=kc _ om;omega
   rw[e]at h1;omega
  have hfw:iZ w Af nf cf f:=by
   obtain⟨ws,r,k2⟩:=hf;exact⟨ws,h.sl r ad7,k2⟩
  refine F.ab.uZ.step ⟨fun h=>by omega,fun _=> ?_⟩;refine pm (kU hfw) ?_;rintro v K S rfl;refine⟨_,_,rfl,⟨om,om⟩,?_⟩;have e2:(((a+2:Nat):Int)).toNat=a+2:=om;rw[e2,bm om];refine pm (mH ((h.u.sl.below S).take (a+2)) (by simp;omega) om om (h.su.take _)) ?_;rintro v w3 hb3 ⟨rfl,m,rfl,hm,hm1,_⟩;rw[ad8]at hm;refine⟨_,_,_,rfl,pm (CQ hm om hf0 hf1) ?_⟩;rintro v w4 hb4 ⟨A1,n1,c1,A2,n2,c2,rfl,r,k2⟩;refine⟨_,_,_,_,_,_,rfl,?_⟩;have hq4:oI w4 Aq qs:=(h.q.sl.below S).below hb4;refine pm (mH hq4 h.q.len h.q.cap (by have:=h.q.cap;omega) h.sq) ?_;rintro v w5 Eg ⟨rfl,m',rfl,hm',_⟩;exact⟨_,_,_,rfl,hR _ _ _ _ _ _ _ hm' r⟩
 |succ j ih=>
  intro w us qs hi h d he;have BY:=h.u.len;have hql:=h.q.len;have e0:((j+1:Nat):Int) - 1=(j:Int):=om;rw[e0];obtain⟨pre,OD⟩:∃pre,pre=us.take j:=⟨_,rfl⟩
  obtain⟨D,Z⟩:∃D,D=us.drop j:=⟨_,rfl⟩
  have U:us=pre++D:=by rw[OD,Z,iv]
  have hj:pre.length=j:=by rw[OD];simp;omega
  have hDl:D.length=nu - j:=by rw[Z];simp[BY]
  have b:Small D:=by rw[Z];exact fun x hx=>h.su x (Be hx)
  have ad9:us.drop (j+1)=D.drop 1:=by rw[Z,SI]
  rw[ad9]at d;have hT0:wv D=D.getD 0 0+1000000000*wv (D.drop 1):=by have:=mJ D 0;simpa using this
  have gD0:=b.getD 0;have hT:wv D<1000000000*wv vs:=om;have W:wv D<1000000000^(a+2+1):=by rw[ob];omega
  obtain⟨o,CU⟩:=aay om b W;have gt0:=b.getD (a+2);have gt1:=b.getD (a+1);have gt2:=b.getD a;have hwu:wv us=wv pre+1000000000^j*wv D:=by rw[U,gR,hj]
  obtain⟨q,hq⟩:∃q,q=wv D / wv vs:=⟨_,rfl⟩
  have Yw:0<wv vs:=om;have E:q*wv vs<=wv D:=by rw[hq];exact Nat.div_mul_le_self _ _
  have aoL:wv D<q*wv vs+wv vs:=by
   have h1:=KM (wv D) (wv vs);have e:=NB (wv D) Yw;rw[<-hq,DS]at h1;omega
  have Yv:q<1000000000:=by
   rw[hq,TI Yw];exact hT
  rw[U]at h
  -- the next round
  have next:∀K D3,Div w1 K B Au nu cu (pre++D3) Aq nq cq (qs.set j q)->wv D3=wv D - q*wv vs->
    F.ab.uZ Af nf cf Au nu cu Av (a+2) cv (a+2:Nat) Aq nq cq ((j:Int) - 1) B K R:=by
   intro K D3 e jn;refine ih K _ _ om e ?_ ?_
   ·rw[<-hj,List.drop_left,jn];omega
   ·have eq1:wv ((qs.set j q).drop j)=q+1000000000*wv (qs.drop (j+1)):=by
     rw[mJ,Yi,bm om,cz,B2 om];rfl
    have e5:wv D3+q*wv vs=wv D:=om;rw[eq1,gR,hj];rw[hwu,<-e5,ob]at he;rw[<-he];grind
  obtain⟨top,aaC⟩:∃top,top=D.getD (a+2) 0*1000000000+D.getD (a+1) 0:=⟨_,rfl⟩
  rw[<-aaC]at o;have aiQ:((D.getD (a+2) 0:Nat):Int)*1000000000+((D.getD (a+1) 0:Nat):Int)=(top:Int):=om;obtain⟨v1,G⟩:∃v1,v1=vs.getD (a+1) 0:=⟨_,rfl⟩
  have ei1:((j:Int)+((a+2:Nat):Int)).toNat=(a+2)+j:=om;have ei2:((j:Int)+((a+2:Nat):Int) - 1).toNat=(a+1)+j:=om;have ei3:(((a+2:Nat):Int) - 1).toNat=a+1:=om;have BE:=h.u.len;refine F.ab.uZ.step ⟨fun _=>⟨ir,?_⟩,fun h=>by omega⟩;refine h.u.sl.load BE om om ?_;rw[ei1,iD hj];refine⟨ir,ir,ir,ir,?_⟩;refine h.u.sl.load BE om om ?_;rw[ei2,iD hj,aiQ];refine⟨ir,ir,fun K e2=>⟨ir,?_⟩⟩;have e:=h.ext e2;refine(e.sl N O).load y om om ?_;have zC:vs.getD (((a+2:Nat):Int) - 1).toNat 0=v1:=by rw[ei3,G]
  rw[zC];rw[<-G]at Y g1;refine⟨ir,⟨om,om,ir⟩,ir,?_⟩;refine(e.sl N O).load y om om ?_;rw[zC];refine⟨ir,⟨om,om⟩,fun w3 e3=> ?_⟩;have h3:=e.ext e3;have ed:(top:Int) / (v1:Int)=((top / v1:Nat):Int):=by simp
  have em:(top:Int) % (v1:Int)=((top % v1:Nat):Int):=by simp
  rw[ed,em];have hgq:q<=top / v1:=by
   rw[Nat.le_div_iff_mul_le om];rw[o,hV,<-G]at E;exact RL gt2 CU E
  have hgb:top / v1<=1000000001:=by
   refine I0 om g2 Fl (by rw[G]at Y;exact Y) (by rw[<-o,<-hV];exact hT) ?_;rw[<-G];exact Nat.div_mul_le_self _ _
  refine VA hn N y C O om hj om (top:=top) (low:=wv (D.take a)) (M:=1000000000^a) (vl:=wv (vs.take a)) (q:=q) (T:=wv D) (V:=wv vs) CU Fl (by rw[l,<-G];omega) (by rw[l];exact hV) o E Yv
   (fun w4 g h4 hg1 hg2 RR=> ?_) (top / v1) (top % v1) w3 h3 (by rw[l,<-G];have:=KM top v1;rw[DS]at this;exact this) hgq hgb (by have:=NB top (show 0<v1 by omega);omega)
  refine Vz ha hn N y C O hj om hg1 (fun w5 D5 c br h5 hl5 hc hbr H VC=> ?_) (a+2) 0 w4 D 0 0 om om h4 rfl om om rfl (by simp[wv]);have t5:=mK D5 (a+2) om;have t0:=RP (k:=a+2) om b W;have hs5:Small D5:=fun x hx=>h5.su x (by simp[hx])
  have l5:=ql (hs5.take (a+2));rw[ep,jv om]at l5;have td:wv (D.drop (a+2))=D.getD (a+2) 0:=by
   have h1:=mK D (a+2) om;have hp:0<1000000000^(a+2):=Sp om;have e:1000000000^(a+2)*wv (D.drop (a+2))=1000000000^(a+2)*D.getD (a+2) 0:=om;exact Nat.eq_of_mul_eq_mul_left hp e
  rw[H,td]at t5;have I:=tN H;obtain⟨P,L⟩:∃P,P=1000000000^(a+2):=⟨_,rfl⟩
  rw[<-L]at t5 l5 VC aiP;obtain⟨z,hz⟩:∃z,z=D.getD (a+2) 0:=⟨_,rfl⟩
  rw[<-hz]at t5 I gt0⊢;rw[pP]at VC;refine⟨fun Ex=> ?_,fun hpos=> ?_⟩
  ·have aoQ:wv D<g*wv vs:=by
    have r:P*(z+1)<=P*(c+br):=kc _ om;rw[pP,pP]at r;omega
   have hg0:1<=g:=by
    apply bB;intro k;have:g=0:=om;subst this;omega
   have J:q+1=g:=by
    have r:q<g:=by
     apply bB;intro k;have:=hJ (wv vs) (show g<=q by omega);omega
    apply bB;intro k;have:=hJ (wv vs) (show q+2<=g by omega);rw[qh]at this;omega
   refine⟨hg0,?_⟩;have eg:(g:Int) - 1=(q:Int):=om;rw[eg];refine Vy ha hn N y C O hj om ⟨om,Ex⟩ (fun w6 D6 up h6 hl6 hup X he6=> ?_) (a+2) 0 w5 D5 0 om om h5 rfl om rfl (by simp[wv]);refine Nv ha hn h6 hj om Yv om om fun w7 h7=> ?_
   have hg6:=tN X;have t6:=mK D6 (a+2) om;have hs6:Small D6:=fun x hx=>h6.su x (by simp[hx])
   have l6:=ql (hs6.take (a+2));rw[ep,jv om,<-L]at l6;rw[X,H,td,<-L,<-hz]at t6;rw[<-L]at he6;have hgV:g*wv vs=q*wv vs+wv vs:=by rw[<-J,qh,Nat.one_mul]
   -- low + P * (z + up) = (T - qV) + P * (c + br)
   have key:wv (D6.take (a+2))+P*(z+up)=(wv D - q*wv vs)+P*(c+br):=by rw[pP,pP];omega
   have hzz:z+up=c+br:=by
    rcases Nat.lt_trichotomy (z+up) (c+br)with k|k|k
    ·have:=kc P (show z+up+1<=c+br by omega);rw[pP]at this;omega
    ·exact k
    ·have:=kc P (show c+br+1<=z+up by omega);rw[pP]at this;omega
   have e7:((z:Int) - (c:Int) - (br:Int)+(up:Int)).toNat=0:=om;rw[e7]at h7;refine next w7 _ h7 ?_
   have zM:=zO D6 (a+2) 0 om;rw[hg6,I,<-L]at zM;rw[hzz]at key;omega
  ·have aoT:g*wv vs<=wv D:=by
    have r:P*(c+br)<=P*z:=kc _ om;rw[pP]at r;omega
   have J:q=g:=by
    rcases MB q g with k|k
    ·have:=hJ (wv vs) (show q+1<=g by omega);rw[qh]at this;omega
    ·omega
   subst J;refine Nv ha hn h5 hj om Yv om om fun w7 h7=>next w7 _ h7 ?_
   have zM:=zO D5 (a+2) (((z:Int) - (c:Int) - (br:Int)).toNat) om;rw[I,<-L]at zM;have e8:P*(((z:Int) - (c:Int) - (br:Int)).toNat)+(P*c+P*br)=P*z:=by
    rw[<-pP,<-pP]
    congr 1
    omega
   omega
end

theorem oI.RS{w:World}{A:Option Addr}{ws:List Nat}(h:oI w A ws)(hn:ws≠[]):∀a,A=some a->a.block<w.heap.size:=by
 intro a ha;rcases h with h|⟨b,off,all,fr,c,hb,_⟩
 ·exact absurd h hn
 ·rw[c]at ha;cases ha;exact(ax.1 hb).1

theorem fo.GI{w:World}{B:Nat}{A:Option Addr}{n c:Nat}{ws:List Nat}(h:fo w B A n c ws):∀a,A=some a->B<=a.block/\a.block<w.heap.size:=by
 intro a ha;subst ha;exact h.uN a.block rfl

theorem fo.replicate{w:World}{B:Nat}{A:Option Addr}{n:Nat}(k:w.ownsRow B 174 1 (.slice A n n) n (List.replicate n (.int .u32 0))):fo w B A n n (List.replicate n 0):=by
 unfold fo;have:pq (List.replicate n 0)=List.replicate n (.int .u32 0):=by simp[pq]
 rw[this];exact k
theorem Small.replicate(n:Nat):Small (List.replicate n 0):=fun x hx=>by rw[Jb hx];omega

theorem VD{w:World}{B Bu:Nat}{Af Au Av:Option Addr}{nf cf nu cu nv cv:Nat}{us vs:List Nat}{R:Value->World->Prop}(hB:B<=w.heap.size)(g:B<=Bu)(hu:fo w Bu Au nu cu us)(h:Small us)(C:oI w Av vs)(D:vs.length=nv)(E:Small vs)
  (i:∀a b,Av=some a->Au=some b->a.block≠b.block) (j:∀a,Av=some a->a.block<w.heap.size) (k:2<=nv) (G:nv<=nu) (hn:nu<=1000000) (H:1000000000<=2*vs.getD (nv - 1) 0)
  {f:Nat} (hf:iZ w Af nf cf f) (I:∀a b,Af=some a->Au=some b->a.block≠b.block) (l:∀a,Af=some a->a.block<w.heap.size) (m:0<f) (o:f<=1000000000) (q:wv (us.drop (nu - nv))<wv vs)
  (J:∀A n c A' n' c' w,iZ w A n c (wv us / wv vs)->iZ w A' n' c' (wv us % wv vs / f)->R (.tuple #[.slice A n c,.slice A' n' c']) w):
  F.ab.J13 Af nf cf Au nu cu Av nv cv B w R:=by
 refine F.ab.J13.step ⟨ir,?_⟩;refine qm ry El.GC rfl om om hB fun Aq nq e K L g2 O=>⟨ir,?_⟩
 have r:nq=nu - nv:=om;have y:=fo.replicate L;have x:∀a,Aq=some a->w.heap.size<=a.block:=fun a ha=>(y.GI a ha).1
 have d:Below w.heap.size w e:=bT g2 sm lf;have M:fo e B Au nu cu us:=(hu.base g).other fun b hb=>d.block b (hu.uN b hb).2
 have N:CS Au Aq:=fun a b ha hb=>by
  have h1:=hu.GI a ha;have z:=x b hb;omega
 refine VB (w1:=e) N hn (ec hB d.size) (C.below d) D E (Sep.of i fun a b ha hb=>by have h1:=j a ha;have z:=x b hb;omega) k om H (hf.below d)
  (Sep.of I fun a b ha hb=>by have h1:=l a ha;have z:=x b hb;omega) m o J nq e us (List.replicate nq 0) lf
  ⟨M,y.base hB,h,Small.replicate _,fun _ _ _ _=>rfl,Below.refl _ _⟩ (by rw[r];exact q) ?_
 rw[dd sm];simp[wv]

theorem zQ{a b:List Nat}(d:Small a)(c:Norm b)(h:wv b<=wv a):b.length<=a.length:=by
 apply bB;intro k;have:=zP d c om;omega

theorem RU{l:List Nat}(hn:Norm l)(h:l≠[]):1<=l.getD (l.length - 1) 0:=by
 have hp:=zk.2 h;have e:l.getLast? =some (l.getD (l.length - 1) 0):=by
  rw[vu,cz,af om];rfl
 apply bB;intro k;have a:l.getD (l.length - 1) 0=0:=om;rw[a]at e;exact hn e

theorem RV{w:World}{B:Nat}{A0 A1:Option Addr}{n0 c0 n1 c1 x y:Nat}{R:Value->World->Prop}(hB:B<=w.heap.size)(ha:iZ w A0 n0 c0 x)(hb:iZ w A1 n1 c1 y)(hx:x<fR)(U:y<=x)(Qv:y≠0)
  (hR:∀A n c A' n' c' w,iZ w A n c (x / y)->iZ w A' n' c' (x % y)->R (.tuple #[.slice A n c,.slice A' n' c']) w):
  F.ab.J7 A0 n0 c0 A1 n1 c1 B w R:=by
 have l0:=ha.len hx;have l1:=hb.len (uQ U hx);have q:=ha;have V:=hb;obtain⟨a,a1,a2,a3,a4,a5,a6,W⟩:=ha;obtain⟨b,b1,X,b3,b4,Y,Z,m⟩:=hb;have r:b≠[]:=fun k=>by subst k;simp[wv]at m;omega
 have LC:=zk.2 r;refine F.ab.J7.step ⟨fun h=> ?_,fun h=>⟨ir,?_⟩⟩
 ·have g:=Y.getD (Int.toNat 0);refine b1.load X om om ⟨ir,?_⟩;have e:b.getD (Int.toNat 0) 0=y:=by
   obtain⟨z,rfl⟩:=u6.1 (by omega:b.length=1);simpa[wv]using m
  rw[e]at g⊢;refine pm (CQ q om om om) ?_;rintro v w2 hb2 ⟨A,n,c,A',n',c',rfl,C,O⟩;exact⟨_,_,_,_,_,_,rfl,hR _ _ _ _ _ _ _ C O⟩
 ·have g:=Y.getD (n1 - 1);have e1:((n1:Int) - 1).toNat=n1 - 1:=om;refine b1.load X om om ?_;rw[e1];obtain⟨mt,i⟩:∃mt,mt=b.getD (n1 - 1) 0:=⟨_,rfl⟩
  have aiV:1<=mt:=by rw[i,<-X];exact RU Z r
  rw[<-i]at g⊢;obtain⟨f,hf⟩:∃f,f=1000000000 / (mt+1):=⟨_,rfl⟩
  obtain⟨hf0,hf1,hf2⟩:=I1 aiV g hf;have D:f<=1000000000:=by rw[hf];exact Mz _ _
  have ef:(1000000000:Int) / ((mt:Int)+1)=(f:Int):=by rw[hf];simp
  rw[ef];refine⟨ir,ir,⟨om,om,ir⟩,?_⟩;refine pm (iY om) ?_;rintro v Q OE ⟨Af,nf,cf,rfl,kf⟩;refine⟨_,_,_,rfl,?_⟩;have E:f<fR:=by
   unfold fR;exact uQ (show f<=1000000000^1 by omega) (Nat.pow_lt_pow_right om (by have:=IM;omega))
  refine pm (rz (q.below OE) kf hx E) ?_;rintro v UK RW ⟨Au,nu,cu,rfl,_,us,G,u2,u3,u4⟩;refine⟨_,_,_,rfl,?_⟩;have hxf:x<=x*f:=Ao _ om;have hnu:n0<=nu:=by
   have:=zQ u2 a6 (by rw[W,u4];exact hxf);have:=G.len;omega
  have aoY:nu<=n0+1:=by
   apply bB;intro k;have hl:=G.len;have h1:=po u3 (fun e=>by subst e;simp at hl;omega);have o:=ql a5;have S:1000000000^(a.length+1)<=1000000000^(us.length - 1):=gb om om;have T:wv a*f<=wv a*1000000000:=kc _ D;rw[ob]at S;rw[u4,<-W]at h1;omega
  have H:=OE.size;have I:=RW.size;refine yC (B0:=B) ry om G om I sm (x:=0) om fun Au' cu' LI u5 g38 b38=> ?_
  have OF:Below Q.heap.size UK LI:=bT g38 (fun k hk=>(G.uN k hk).1) I;have Yy:=OF.size;have BF:Below w.heap.size w LI:=(OE.trans (RW.mono H)).trans (OF.mono H);have J:iZ LI Af nf cf f:=kf.below (RW.trans OF);refine pm (rz (V.below BF) J (uQ U hx) E) ?_;rintro v RX j ⟨Av,nv,cv,rfl,_,vs,v1,v2,v3,v4⟩;have s41:=j.size;refine⟨_,_,_,rfl,fun h=>by omega,fun _=> ?_⟩;have hyf:y<=y*f:=Ao _ om;have d:=mK b (n1 - 1) om;have Rv:wv (b.drop (n1 - 1))=mt:=by
   rw[mJ,<-i,dd om];simp[wv]
  rw[Rv]at d;have K:=ql (Y.take (n1 - 1));rw[ep,jv om]at K;obtain⟨P,L⟩:∃P,P=1000000000^(n1 - 1):=⟨_,rfl⟩
  rw[<-L]at d K;have ao3:y*f<P*1000000000:=by
   have C:y+1<=P*(mt+1):=by rw[<-m,d,pP];omega
   have O:(y+1)*f<=P*(mt+1)*f:=hJ _ C;have k3:P*((mt+1)*f)<=P*1000000000:=kc _ hf1;rw[Nat.mul_assoc]at O;rw[qh]at O;omega
  have ao4:P*(mt*f)<=y*f:=by
   have C:P*mt<=y:=by rw[<-m,d];omega
   have:=hJ f C;rwa [Nat.mul_assoc]at this
  have hnv:nv=n1:=by
   have h1:=zQ v2 Z (by rw[m,v4];exact hyf);have o:=v1.len;apply bB;intro k;have S:=po v3 (fun e=>by rw[e,za]at h1;omega);have T:1000000000^(n1 - 1+1)<=1000000000^(vs.length - 1):=gb om om;rw[ob,<-L]at T;omega
  subst hnv;have Fk:=v1.len;have AN:1000000000<=2*vs.getD (nv - 1) 0:=by
   have h1:=mK vs (nv - 1) om;have o:=ql (v2.take (nv - 1));rw[ep,jv om,<-L]at o;have S:wv (vs.drop (nv - 1))=vs.getD (nv - 1) 0:=by
    rw[mJ,dd om];simp[wv]
   rw[S,<-L,v4]at h1;apply bB;intro k;have T:P*(vs.getD (nv - 1) 0+1)<=P*(mt*f):=kc _ om;rw[pP]at T;omega
  have yz:nv<=n0:=by
   have:=zQ a5 Z (by rw[W,m];exact U);omega
  have BY:=G.len;have M:=u5.GI;have N:=v1.GI;have Vd:∀a,Af=some a->a.block<Q.heap.size:=by
   obtain⟨ws,q1,q2,_,_,_,_,q3⟩:=kf;refine q1.RS fun e=> ?_
   subst e;simp[wv]at q3;omega
  have e0:wv (us++[(0:Int).toNat])=x*f:=by rw[gR,u4];simp[wv]
  have u41:fo RX Q.heap.size Au' (nu+1) cu' (us++[(0:Int).toNat]):=u5.other fun k hk=>j.block k (u5.uN k hk).2
  refine VD (Bu:=Q.heap.size) om om u41 (u2.append (Small.cons sm Small.nil)) v1.sl Fk v2 (fun a b ha hb=> ?_) (fun a ha=>(N a ha).2) om om om AN
   (J.below j) (fun a b ha hb=> ?_) (fun a ha=>by have:=Vd a ha;omega) om D ?_ ?_
  ·have h1:=N a ha;have o:=M b hb;omega
  ·have h1:=Vd a ha;have o:=M b hb;omega
  ·have e2:(us++[(0:Int).toNat]).drop (nu+1 - nv)=us.drop (nu+1 - nv)++[0]:=by rw[Jr om];rfl
   rw[e2,gR];have h1:=ql (l:=us.drop (nu+1 - nv)) fun x hx=>u2 x (Be hx)
   rw[wo,show us.length - (nu+1 - nv)=nv - 1 by omega,<-L]at h1;have o:P*1<=P*(mt*f):=kc _ (Nat.mul_pos om om);simp only[wv,YN,xK];omega
  ·rw[e0,v4,Nat.mul_div_mul_right _ _ om,Nat.mul_mod_mul_right,Nat.mul_div_cancel _ om];exact hR

theorem u7{w:World}{A0 A1:Option Addr}{n0 c0 n1 c1 x y:Nat}(ha:iZ w A0 n0 c0 x)(hb:iZ w A1 n1 c1 y)(hx:x<fR)(hy:y<fR)(l:y≠0):
  Pure Tryz.prog 272 #[.slice A0 n0 c0,.slice A1 n1 c1] w fun v w'=>∃A n c A' n' c',v= .tuple #[.slice A n c,.slice A' n' c']/\iZ w' A n c (x / y)/\iZ w' A' n' c' (x % y):=by
 refine F.ab.vc (pm (pt ha hb hx hy) ?_);rintro v G a rfl;refine⟨_,rfl,fun h=> ?_,fun h=> ?_⟩
 ·have d:x<y:=by
   simp only[jL]at h;split at h
   ·omega
   ·split at h<;>omega
  rw[Ys d,KO d];exact⟨_,_,_,_,_,_,rfl,⟨[],.inl rfl,rfl,om,om,Small.nil,by simp[Norm],rfl⟩,ha.below a⟩
 ·have hle:y<=x:=by
   simp only[jL]at h;split at h<;>omega
  refine pm (kU (ha.below a)) ?_;rintro v m e rfl;refine⟨_,_,rfl,?_⟩;have g:Below w.heap.size w m:=a.trans (e.mono a.size);refine pm (kU (hb.below g)) ?_;rintro v o q rfl;have b:Below w.heap.size w o:=g.trans (q.mono g.size);have done:∀A n c A' n' c' w',iZ w' A n c (x / y)->iZ w' A' n' c' (x % y)->∃A1 n1 c1 A2 n2 c2,Value.tuple #[.slice A n c,.slice A' n' c']= .tuple #[.slice A1 n1 c1,.slice A2 n2 c2]/\iZ w' A1 n1 c1 (x / y)/\iZ w' A2 n2 c2 (x % y):=
   fun A n c A' n' c' w' i j=>⟨_,_,_,_,_,_,rfl,i,j⟩
  refine⟨_,_,rfl,fun hs=>⟨fun r=> ?_,fun _=> ?_⟩,fun _=> ?_⟩
  ·have z:x<1000000000000000000:=by simpa using hs
   have B:y<1000000000000000000:=by simpa using r
   rw[bm z,bm B];have C:(x:Int) / (y:Int)=((x / y:Nat):Int):=by simp
   have em:(x:Int) % (y:Int)=((x % y:Nat):Int):=by simp
   have H:=Mz x y;have hm:=Nat.mod_le x y;rw[C,em];refine⟨⟨om,om,ir⟩,⟨om,om⟩,fun I D=> ?_⟩;refine pm (iY om) ?_;rintro v J E ⟨A,n,c,rfl,i⟩;refine⟨_,_,_,rfl,pm (iY om) ?_⟩;rintro v K k ⟨A',n',c',rfl,j⟩;exact⟨_,_,_,rfl,done _ _ _ _ _ _ _ (i.below k) j⟩
  ·exact RV b.size (ha.below b) (hb.below b) hx hle l done
  ·exact RV b.size (ha.below b) (hb.below b) hx hle l done

theorem iZ.Nx{w:World}{A:Option Addr}{n c x:Nat}(h:iZ w A n c x):0<n↔x≠0:=by
 obtain⟨ws,_,hl,_,_,_,hn,rfl⟩:=h;constructor
 ·intro a hx;have h1:=po hn (fun e=>by subst e;simp at hl;omega);have b:0<1000000000^(ws.length - 1):=Sp om;omega
 ·intro hx;apply bB;intro k;have:ws=[]:=eR om;subst this;exact hx rfl

theorem aaH{B:Nat}{R:Value->World->Prop}:∀(y x:Nat)(w:World),x<1000000000000000000->y<1000000000000000000->B<=w.heap.size->(∀A n c w',iZ w' A n c (Nat.gcd x y)->R (.slice A n c) w')->F.bo.L5 x y B w R:=by
 intro y;induction y using Nat.strongRecOn with
 |ind y ih=>
  intro x w hx hy hB b;refine F.bo.L5.step ⟨fun h=>⟨⟨om,om⟩,fun a e=> ?_⟩,fun h=> ?_⟩
  ·have em:(x:Int) % (y:Int)=((x % y:Nat):Int):=by simp
   rw[em];have hm:=NB x (show 0<y by omega);refine ih _ hm y a hy om (ec hB e.below.size) fun A n c w' k=>b A n c w' ?_
   rwa [SS y,<-Nat.gcd_rec,SS]at k
  ·have d:y=0:=om;subst d;refine pm (iY hx) ?_;rintro v a _ ⟨A,n,c,rfl,k⟩;exact⟨_,_,_,rfl,b A n c a (by rwa [WD])⟩

theorem aaI{B:Nat}{R:Value->World->Prop}:∀(y x:Nat)(w:World)(A0 A1:Option Addr)(n0 c0 n1 c1:Nat),iZ w A0 n0 c0 x->iZ w A1 n1 c1 y->x<fR->y<fR->B<=w.heap.size->(∀A n c w',iZ w' A n c (Nat.gcd x y)->R (.slice A n c) w')->
  F.bo.L1 A0 n0 c0 A1 n1 c1 B w R:=by
 intro y;induction y using Nat.strongRecOn with
 |ind y ih=>
  intro x w A0 A1 n0 c0 n1 c1 ha hb hx hy hB e;have hp:=hb.Nx;refine F.bo.L1.step ⟨fun h=> ?_,fun h=> ?_⟩
  ·have m:y≠0:=hp.1 om;have hm:=NB x (show 0<y by omega);refine pm (kU ha) ?_;rintro v C a rfl;refine⟨_,_,rfl,pm (kU (hb.below a)) ?_⟩;rintro v g i rfl;have d:Below w.heap.size w g:=a.trans (i.mono a.size);have D:=d.size;have rest:Pure Tryz.prog 272 #[.slice A0 n0 c0,.slice A1 n1 c1] g fun v w'=>∃A n c A' n' c',v= .tuple #[.slice A n c,.slice A' n' c']/\F.bo.L1 A1 n1 c1 A' n' c' B w' R:=by
    refine pm (u7 (ha.below d) (hb.below d) hx hy m) ?_;rintro v o b ⟨A,n,c,A',n',c',rfl,E,q⟩;refine⟨_,_,_,_,_,_,rfl,ih _ hm y o _ _ _ _ _ _ ((hb.below d).below b) q hy om (by have:=b.size;omega) fun A n c w' k=>e A n c w' ?_⟩;rwa [SS y,<-Nat.gcd_rec,SS]at k
   refine⟨_,_,rfl,fun hs=>⟨fun r=> ?_,fun _=>rest⟩,fun _=>rest⟩;have j:x<1000000000000000000:=by simpa using hs
   have l:y<1000000000000000000:=by simpa using r
   rw[bm j,bm l];exact aaH y x g j l om e
  ·have z:y=0:=by
    apply bB;intro k;have:=hp.2 k;omega
   subst z;exact e _ _ _ _ (by rwa [WD])

theorem I2{w:World}{A0 A1:Option Addr}{n0 c0 n1 c1 x y:Nat}(ha:iZ w A0 n0 c0 x)(hb:iZ w A1 n1 c1 y)(hx:x<fR)(hy:y<fR):
  Pure Tryz.prog 231 #[.slice A0 n0 c0,.slice A1 n1 c1] w fun v w'=>∃A n c,v= .slice A n c/\iZ w' A n c (Nat.gcd x y):=
 F.bo.vc (aaI y x w _ _ _ _ _ _ ha hb hx hy lf fun A n c w' k=>⟨A,n,c,rfl,k⟩)

theorem RY(l:Tx):∀a:Nat,l.foldl (fun a c=>10*a+dv c) a=a*10^l.length+eS l:=by
 induction l with
 |nil=>intro a;simp[eS]
 |cons c r ih=>
  intro a;have h1:=ih (10*a+dv c);have b:=ih (10*0+dv c);simp only[eS,YZ,ew,ob]at*;rw[h1,b];grind
theorem I3(a b:Tx):eS (a++b)=eS a*10^b.length+eS b:=by
 have:=RY b (eS a);rw[<-this];simp[eS,List.foldl_append]
theorem Fm(c:UInt8)(r:Tx):eS (c::r)=dv c*10^r.length+eS r:=by
 have h1:=RY r (10*0+dv c);have b:eS (c::r)=r.foldl (fun a c=>10*a+dv c) (10*0+dv c):=rfl;rw[b,h1];simp
theorem GJ{l:Tx}(h:l.all tJ=true):eS l<10^l.length:=by
 induction l with
 |nil=>simp[eS]
 |cons c r ih=>
  simp only[B6,de]at h;have h1:=ih h.2;have a:dv c<=9:=by have:=h.1;simp[tJ]at this;simp only[dv];omega
  have b:dv c*10^r.length<=9*10^r.length:=hJ _ a;rw[Fm,ew,ob];omega

theorem EA(M:Nat)(h:M<18446744073709551616):∀(l:Tx)(acc:Nat),l.all tJ=true->acc*10^l.length+eS l<=M->Lib.parseUintM M acc l= .ok (acc*10^l.length+eS l):=by
 intro l;induction l with
 |nil=>intro acc _ _;simp[Lib.parseUintM,eS]
 |cons c r ih=>
  intro acc b hle;simp only[B6,de]at b;have d:48<=c.toNat/\c.toNat<=57:=by have:=b.1;simpa[tJ]using this
  have e:acc*10^(c::r).length+eS (c::r)=(acc*10+(c.toNat - 48))*10^r.length+eS r:=by
   have h1:=RY r (10*0+dv c);have g:eS (c::r)=r.foldl (fun a c=>10*a+dv c) (10*0+dv c):=rfl;rw[g,h1,ew,ob];simp only[dv];grind
  have hp:0<10^r.length:=Sp om;have i:acc*10+(c.toNat - 48)<=(acc*10+(c.toNat - 48))*10^r.length:=Ao _ hp;rw[e]at hle⊢;rw[Lib.parseUintM,bm d,aq om,aq om];exact ih _ b.2 hle
theorem xm{B:Nat}{l:Tx}(hB:2^B - 1<18446744073709551616)(a:l≠[])(b:l.all tJ=true)(hle:eS l<=2^B - 1):Lib.parseUintB B l= .ok (eS l):=by
 rw[Lib.parseUintB,aq a,EA _ hB l 0 b (by simpa using hle)];simp

theorem lK(s:ByteArray)(i j:Nat):bJ (s.extract i j)=((bJ s).take j).drop i:=by
 unfold bJ;rw[ByteArray.data_extract,Array.toList_extract,List.extract_eq_take_drop,List.drop_take]

theorem xn{w w':World}{e:Nat}{s:ByteArray}(h:w'=w∨w'=Lib.bytesWorld w e s):Below w.heap.size w w':=by
 rcases h with rfl|rfl
 ·exact Below.refl _ _
 ·exact⟨rfl,rfl,rfl,by rw[Lib.bytesWorld_size];omega,fun k a=>Lib.bytesWorld_at_old w e s k a⟩

theorem I4(s:ByteArray)(b:bJ s≠[])(a:(bJ s).all tJ=true)(hl:s.size<=9)(w:World):
  Pure Tryz.prog 297 #[.string s,.int .i64 10,.int .i64 32] w fun v _=>v= .tuple #[.int .u64 (eS (bJ s):Nat),.nilIface]:=by
 have c:=GJ a;have hp:10^(bJ s).length<=10^9:=gb om (by rw[<-lB];exact hl);have fk:=xm (B:=32) om b a om;exact Calls.mono (Tryz.strconv_ParseUint_10_at32_ok s om _ fk w) fun e w' ⟨he,hw⟩=>⟨_,he,xn hw,rfl⟩

theorem OH{w0:World}{R:Value->World->Prop}{x:Nat}(G:∀A n c w,iZ w A n c x->R (.slice A n c) w):
  ∀(d:Nat)(s:ByteArray)(w:World)(A:Option Addr)(n c:Nat)(ws:List Nat),s.size<=d->n+s.size<=900000->(bJ s).all tJ=true->fo w w0.heap.size A n c ws->Small ws->w0.heap.size<=w.heap.size->
   wv ws+1000000000^n*eS (bJ s)=x->F.dy.L2 s A n c w0.heap.size w R:=by
 intro d;induction d with
 |zero=>
  intro s w A n c ws hs hn a ho l hw he;have C:bJ s=[]:=eR (by rw[<-lB];omega);rw[C]at he;refine F.dy.L2.step ⟨fun h=>by omega,fun _=> ?_⟩;refine pm (mH ho.sl ho.len ho.cap om l) ?_;rintro v L _ ⟨rfl,m,rfl,h,_⟩;have e:wv ws=x:=by rw[<-he];simp[eS]
  rw[e]at h;exact⟨_,_,_,rfl,G _ _ _ _ h⟩
 |succ d ih=>
  intro s w A n c ws hs hn a ho l hw he;have lz:=lB s;by_cases C:s.size=0
  ·exact ih s w A n c ws om hn a ho l hw he
  obtain⟨at_,M⟩:∃at_:Nat,at_=s.size - 9:=⟨_,rfl⟩
  have r:(if(0:Int)>((s.size:Int) - 9)then(0:Int)else((s.size:Int) - 9))=(at_:Int):=by split<;>omega
  refine F.dy.L2.step ⟨fun _=> ?_,fun h=>by omega⟩;rw[r,cd];refine⟨ir,⟨om,om⟩,?_⟩;have o:bJ (s.extract at_ s.size)=(bJ s).drop at_:=by rw[lK,cc om]
  have q:bJ (s.extract 0 at_)=(bJ s).take at_:=by rw[lK];rfl
  have g:((bJ s).drop at_).all tJ=true:=by
   rw[gu]at a⊢;exact fun y hy=>a y (Be hy)
  have z:((bJ s).take at_).all tJ=true:=by
   rw[gu]at a⊢;exact fun y hy=>a y (oe hy)
  have i:((bJ s).drop at_).length=s.size - at_:=by rw[wo,<-lz]
  have D:((bJ s).take at_).length=at_:=by rw[ep,<-lz];omega
  have hu:=GJ g;have hp:10^((bJ s).drop at_).length<=10^9:=gb om om;refine pm (I4 _ (by rw[o];exact fun k=>by rw[k]at i;simp at i;omega) (by rw[o];exact g) (by rw[lB,o];omega) w) ?_;rintro v H j rfl;rw[o];refine⟨_,_,rfl,ir,?_⟩;have B:fo H w0.heap.size A n c ws:=ho.other fun b hb=>j.block b (ho.uN b hb).2
  have N:=j.size;refine yC (B0:=w0.heap.size) ry lf B om om sm om fun A' c' I E _ J=>⟨⟨om,om⟩,?_⟩
  have O:=J.size;rw[cd]at E;refine ih _ I A' (n+1) c' _ (by rw[lB,q,D];omega) (by rw[lB,q,D];omega) (by rw[q];exact z) E (l.append (Small.cons om Small.nil)) om ?_;rw[q,gR,ho.len,ob];have ev:eS (bJ s)=eS ((bJ s).take at_)*1000000000+eS ((bJ s).drop at_):=by
   have h1:=I3 ((bJ s).take at_) ((bJ s).drop at_);rw[iv]at h1;by_cases K:at_=0
   ·rw[h1,K];simp[eS]
   ·rw[h1,show((bJ s).drop at_).length=9 by omega]
  rw[ev]at he;rw[<-he];simp only[wv];grind

theorem dy{w:World}{s:ByteArray}(hs:s.size<=900000)(h:isNat (bJ s)=true):
  Pure Tryz.prog 268 #[.string s] w fun v w'=>∃A n c,v= .slice A n c/\iZ w' A n c (eS (bJ s)):=by
 have a:(bJ s).all tJ=true:=by simp[isNat]at h;simpa using h.2
 exact F.dy.vc (OH (w0:=w) (x:=eS (bJ s)) (fun A n c w k=>⟨A,n,c,rfl,k⟩) s.size s w none 0 0 [] lf om a (World.ownsRow_nil w _ _ _) Small.nil lf (by simp[wv]))

abbrev fb(n:Nat):Tx:=Lib.decDigits n

theorem Fo(l:Tx)(c:UInt8):eS (l++[c])=10*eS l+dv c:=by simp[eS]
theorem ib{n:Nat}(h:n<10):fb n=[UInt8.ofNat (48+n)]:=Lib.decDigits_one h
theorem oR{n:Nat}(h:¬n<10):fb n=fb (n / 10)++[UInt8.ofNat (48+n % 10)]:=by rw[fb,Lib.decDigits,dif_neg h]
theorem RZ{n:Nat}(h:n<10):dv (UInt8.ofNat (48+n))=n:=by
 simp only[dv,W6];omega
theorem R1{n:Nat}(h:n<10):tJ (UInt8.ofNat (48+n))=true:=by
 simp only[tJ,W6];simp;omega
theorem R2{c:UInt8}(h:tJ c=true):UInt8.ofNat (48+dv c)=c:=by
 apply UInt8.toNat_inj.1;simp only[tJ,de,kl]at h;simp only[dv,W6];have:=c.toNat_lt;omega
theorem Yz{c:UInt8}(h:tJ c=true):dv c<10:=by
 simp only[tJ,de,kl]at h;simp only[dv];omega

theorem kV(n:Nat):eS (fb n)=n:=by
 induction n using Nat.strongRecOn with
 |_ n ih=>
  by_cases h:n<10
  ·have e:∀c,eS [c]=dv c:=fun c=>by simp[eS]
   rw[ib h,e,RZ h]
  ·rw[oR h,Fo,ih (n / 10) om,RZ om];omega
theorem vf(n:Nat):(fb n).all tJ=true:=by
 induction n using Nat.strongRecOn with
 |_ n ih=>
  by_cases h:n<10
  ·rw[ib h,B6,R1 h];rfl
  ·rw[oR h,Zm,ih (n / 10) om,B6,R1 (show n % 10<10 by omega)];rfl
theorem yF(n:Nat):fb n≠[]:=by
 by_cases h:n<10
 ·rw[ib h];simp
 ·rw[oR h];simp
theorem I5{a b:Tx}(h:a≠[]):(a++b).head? =a.head? :=by
 cases a with
 |nil=>exact absurd rfl h
 |cons c r=>rfl
theorem OI(n:Nat)(b:0<n):(fb n).head?≠some 48:=by
 induction n using Nat.strongRecOn with
 |_ n ih=>
  by_cases h:n<10
  ·rw[ib h];intro k;have a:UInt8.ofNat (48+n)=48:=by simpa using k
   have:=ca dv a;rw[RZ h]at this;simp[dv]at this;omega
  ·rw[oR h,I5 (yF _)];exact ih (n / 10) om om
theorem qo(n:Nat):isNat (fb n)=true:=by
 have h1:=vf n;have a:=yF n;unfold isNat;rw[h1];by_cases h:n=0
 ·subst h;rw[ib om];simp
 ·have b:=OI n om;have c:((fb n).head? !=some 48)=true:=by simpa using b
  have d:(fb n).isEmpty=false:=by simpa using a
  rw[c,d];simp
theorem CW{a b:Nat}(h:fb a=fb b):a=b:=by
 have:=ca eS h;rwa [kV,kV]at this

theorem R3{l:Tx}(a:l.all tJ=true)(h:l≠[])(b:l.head?≠some 48):0<eS l:=by
 cases l with
 |nil=>exact absurd rfl h
 |cons c r=>
  rw[Fm];simp only[B6,de]at a;have h1:c≠48:=fun k=>by subst k;simp at b
  have d:dv c≠0:=fun k=>by
   have:=R2 a.1;rw[k]at this;exact h1 this.symm
  have e:0<dv c*10^r.length:=Nat.mul_pos om (Sp om);omega
theorem AO{t:Tx}(h:isNat t=true):t≠[]/\(t.length=1∨t.head?≠some 48)/\t.all tJ=true:=by
 unfold isNat at h;simp only[de,My,MA,beq_iff_eq,bne_iff_ne,ne_eq]at h;refine⟨fun k=> ?_,h.1.2,h.2⟩;subst k;simp at h
theorem OJ:∀(k:Nat)(t:Tx),t.length=k->isNat t=true->fb (eS t)=t:=by
 intro k;induction k with
 |zero=>intro t hl h;exact absurd (eR hl) (AO h).1
 |succ k ih=>
  intro t hl h;obtain⟨h1,b,a⟩:=AO h;obtain⟨l,c,rfl⟩:∃l c,t=l++[c]:=⟨t.dropLast,t.getLast h1,(CM h1).symm⟩
  rw[Zm]at a;simp only[de,B6,VM,and_true]at a;rw[Fo];by_cases hn:l=[]
  ·subst hn;have:10*eS []+dv c=dv c:=by simp[eS]
   rw[this,ib (Yz a.2),R2 a.2];rfl
  ·have e:l.head?≠some 48:=by
    rcases b with b|b
    ·have:=zk.2 hn;rw[dp,pe]at b;omega
    ·rwa [I5 hn]at b
   have hp:=R3 a.1 hn e;have d:isNat l=true:=by
    unfold isNat;have g:(l.head? !=some 48)=true:=by simpa using e
    have i:l.isEmpty=false:=by simpa using hn
    rw[a.1,g,i];simp
   have j:=Yz a.2;rw[oR om,show(10*eS l+dv c) / 10=eS l by omega,show(10*eS l+dv c) % 10=dv c by omega,ih l (by simp at hl;omega) d,R2 a.2]
theorem pO{t:Tx}(h:isNat t=true):fb (eS t)=t:=OJ _ t rfl h

theorem zR:fb 0=[48]:=by rw[ib om];rfl
theorem LJ:fb 1=[49]:=by rw[ib om];rfl
theorem oJ{n:Nat}:fb n=[48]↔n=0:=by
 constructor
 ·intro h;exact CW (h.trans zR.symm)
 ·intro h;subst h;exact zR
theorem yG{n:Nat}:fb n=[49]↔n=1:=by
 constructor
 ·intro h;exact CW (h.trans LJ.symm)
 ·intro h;subst h;exact LJ
theorem BZ(n:Nat):n<10^(fb n).length:=by
 have:=GJ (vf n);rwa [kV]at this
theorem iE{n k:Nat}(h:n<10^k)(b:1<=k):(fb n).length<=k:=by
 induction k generalizing n with
 |zero=>omega
 |succ k ih=>
  by_cases hn:n<10
  ·rw[ib hn];simp
  ·rw[oR hn,dp];have a:1<=k:=by
    apply bB;intro k0;have:k=0:=om;subst this;omega
   have:=ih (n:=n / 10) (by rw[ob]at h;omega) a;simp;omega
theorem CX{n:Nat}{c:UInt8}(h:c∈fb n):tJ c=true:=by
 have:=vf n;rw[gu]at this;exact this c h

abbrev kW(z:Int):Tx:=Lib.itoa z
def isInt(t:Tx):Bool:=if t.head? =some 45 then isNat t.tail&&t.tail !=[48]else isNat t
def kX(t:Tx):Int:=if t.head? =some 45 then -(eS t.tail:Int)else eS t

theorem yH(n:Nat):kW (n:Int)=fb n:=by
 rw[kW,Lib.itoa,aq om];rfl
theorem R4{n:Nat}(h:0<n):kW (-(n:Int))=45::fb n:=by
 rw[kW,Lib.itoa,bm om];simp
theorem oK(z:Int):kW z=if z<0 then 45::fb z.natAbs else fb z.natAbs:=by
 rw[kW,Lib.itoa];split
 ·rfl
 ·congr 1;omega
theorem vg(n:Nat):(fb n).head?≠some 45:=by
 intro h;have:=CX (List.mem_of_head? h);simp[tJ]at this
theorem xR(z:Int):isInt (kW z)=true:=by
 rw[oK,isInt];split
 ·have h1:=qo z.natAbs;have a:fb z.natAbs≠[48]:=fun k=>by have:=oJ.1 k;omega
  simp[h1,a]
 ·rw[aq (vg _)];exact qo _
theorem sK(z:Int):kX (kW z)=z:=by
 rw[oK,kX];split
 ·simp[kV];omega
 ·rw[aq (vg _),kV];omega
theorem wz{t:Tx}(h:isInt t=true):kW (kX t)=t:=by
 unfold isInt at h;unfold kX;split at h
 ·rename_i k;simp only[de,bne_iff_ne,ne_eq]at h;rw[bm k];have a:0<eS t.tail:=by
   apply Nat.pos_of_ne_zero;intro k0;have:=pO h.1;rw[k0]at this;exact h.2 (this▸oJ.2 rfl)
  rw[R4 a,pO h.1];cases t with
  |nil=>simp at k
  |cons c r=>simp at k;subst k;rfl
 ·rename_i k;rw[aq k,yH,pO h]
theorem R5{a b:Int}(h:kW a=kW b):a=b:=by
 have:=ca kX h;rwa [sK,sK]at this
theorem EB{z:Int}:kW z=[48]↔z=0:=by
 constructor
 ·intro h;exact R5 (h.trans ((yH 0).trans zR).symm)
 ·intro h;subst h;exact(yH 0).trans zR
theorem R6{z:Int}{c:UInt8}(h:c∈kW z):tJ c=true∨c=45:=by
 rw[oK]at h;split at h
 ·rcases cb.1 h with h|h
  ·exact .inr h
  ·exact .inl (CX h)
 ·exact .inl (CX h)
theorem VH(z:Int):kW z≠[]:=by
 rw[oK];split
 ·simp
 ·exact yF _
theorem jS{z:Int}{k:Nat}(h:z.natAbs<10^k)(a:1<=k):(kW z).length<=k+1:=by
 rw[oK];have:=iE h a;split
 ·simp;omega
 ·omega
theorem GK(z:Int):z.natAbs<10^(kW z).length:=by
 rw[oK];have h1:=BZ z.natAbs;split
 ·rw[ew,ob];omega
 ·exact h1

def qS(r:Rat):Tx:=if r.den=1 then kW r.num else kW r.num++47::fb r.den
def wA(t:Tx):Tx:=t.takeWhile (· !=47)
def tQ(t:Tx):Tx:=(t.dropWhile (· !=47)).tail
def kH(t:Tx):Bool:=if 47∈t then isInt (wA t)&&wA t !=[48]&&isNat (tQ t)&&tQ t !=[48]&&tQ t !=[49]&&Nat.gcd (kX (wA t)).natAbs (eS (tQ t))==1 else isInt t
def yI(t:Tx):Rat:=if 47∈t then mkRat (kX (wA t)) (eS (tQ t))else(kX t:Rat)

theorem ku(z:Int):47∉kW z:=by
 intro h;rcases R6 h with h|h
 ·simp[tJ]at h
 ·simp at h
theorem GL{a b:Tx}(h:47∉a):wA (a++47::b)=a:=by
 unfold wA;rw[List.takeWhile_append_of_pos (fun x hx=>by simp;intro k;subst k;exact h hx)];simp
theorem GM{a b:Tx}(h:47∉a):tQ (a++47::b)=b:=by
 unfold tQ;rw[List.dropWhile_append_of_pos (fun x hx=>by simp;intro k;subst k;exact h hx)];simp
theorem R7{t:Tx}(h:47∈t):t=wA t++47::tQ t/\47∉wA t:=by
 induction t with
 |nil=>simp at h
 |cons c r ih=>
  by_cases a:c=47
  ·subst a;simp[wA,tQ]
  ·have b:47∈r:=by
    rcases cb.1 h with k|k
    ·exact absurd k.symm a
    ·exact k
   obtain⟨e,hn⟩:=ih b;have d:wA (c::r)=c::wA r:=by simp[wA,a]
   have g:tQ (c::r)=tQ r:=by simp[tQ,a]
   rw[d,g];constructor
   ·rw[vv,<-e]
   ·intro k;rcases cb.1 k with k|k
    ·exact a k.symm
    ·exact hn k

theorem yJ(r:Rat):yI (qS r)=r:=by
 unfold qS yI;split
 ·rename_i h;rw[aq (ku _),sK];apply Rat.ext
  ·rfl
  ·rw[h];rfl
 ·rw[bm sm,GL (ku _),GM (ku _),sK,kV,Rat.mkRat_self]
theorem LK(r:Rat):kH (qS r)=true:=by
 unfold qS kH;split
 ·rw[aq (ku _)];exact xR _
 ·rename_i h;rw[bm sm,GL (ku _),GM (ku _),xR,qo,sK,kV];have h1:kW r.num≠[48]:=by
   intro k;have b:=EB.1 k;have:=r.reduced;rw[b]at this;have a:Nat.gcd 0 r.den=1:=this;simp at a;exact h a
  have a:fb r.den≠[48]:=fun k=>r.den_nz (oJ.1 k)
  have c:fb r.den≠[49]:=fun k=>h (yG.1 k)
  have d:Nat.gcd r.num.natAbs r.den=1:=r.reduced;simp[h1,a,c,d]
theorem I6{t:Tx}(h:kH t=true)(k:47∈t):isInt (wA t)=true/\wA t≠[48]/\isNat (tQ t)=true/\tQ t≠[48]/\tQ t≠[49]/\Nat.gcd (kX (wA t)).natAbs (eS (tQ t))=1:=by
 unfold kH at h;rw[bm k]at h;simp only[de,bne_iff_ne,ne_eq,beq_iff_eq]at h;obtain⟨⟨⟨⟨⟨h1,a⟩,b⟩,c⟩,d⟩,e⟩:=h;exact⟨h1,a,b,c,d,e⟩
theorem wB{p:Int}{d:Nat}(a:d≠0):(mkRat p d).num=p / (p.natAbs.gcd d:Nat)/\(mkRat p d).den=d / p.natAbs.gcd d:=by
 rw[<-Rat.normalize_eq_mkRat a];exact⟨Rat.num_normalize a,Rat.den_normalize a⟩
theorem GN{t:Tx}(h:kH t=true):qS (yI t)=t:=by
 by_cases k:47∈t
 ·obtain⟨h1,o,a,g,i,j⟩:=I6 h k;have e:=(R7 k).1;have l:eS (tQ t)≠0:=fun k0=>by
   have:=pO a;rw[k0]at this;exact g (this▸oJ.2 rfl)
  have b:eS (tQ t)≠1:=fun k0=>by
   have:=pO a;rw[k0]at this;exact i (this▸yG.2 rfl)
  obtain⟨c,d⟩:=wB (p:=kX (wA t)) l;rw[j]at c d;unfold yI qS;rw[bm k,c,d];simp only[Nat.div_one,Int.natCast_one,Int.ediv_one];rw[aq b,wz h1,pO a,<-e]
 ·unfold kH at h;rw[aq k]at h;unfold yI qS;rw[aq k];have m:((kX t:Rat)).den=1:=rfl;have n:((kX t:Rat)).num=kX t:=rfl;rw[bm m,n,wz h]
theorem R8{a b:Rat}(h:qS a=qS b):a=b:=by
 have:=ca yI h;rwa [yJ,yJ]at this

def Sm(k:Nat)(r:Rat):Prop:=r.num.natAbs<10^k/\r.den<10^k
theorem Sm.mono{j k:Nat}{r:Rat}(h:Sm j r)(a:j<=k):Sm k r:=
 have hp:10^j<=10^k:=gb om a
 ⟨uB h.1 hp,uB h.2 hp⟩
theorem Sm.neg{k:Nat}{r:Rat}(h:Sm k r):Sm k (-r):=by
 refine⟨?_,h.2⟩;rw[Rat.neg_num,ZA];exact h.1
theorem Sm.mkRat{k:Nat}{p:Int}{d:Nat}(h1:p.natAbs<10^k)(a:d<10^k)(b:d≠0):Sm k (mkRat p d):=by
 obtain⟨c,e⟩:=wB (p:=p) b;constructor
 ·rw[c,Int.natAbs_ediv_of_dvd (Int.ofNat_dvd_left.2 (Yx _ _)),wV];exact uQ (Mz _ _) h1
 ·rw[e];exact uQ (Mz _ _) a
theorem ja{a b j k:Nat}(ha:a<10^j)(hb:b<10^k):a*b<10^(j+k):=by
 rw[Zz];exact YA ha hb
theorem CY{j k:Nat}{a b:Rat}(ha:Sm j a)(hb:Sm k b):(a.num*b.den+b.num*a.den).natAbs<10^(j+k+1):=by
 have h1:=ja ha.1 hb.2;have c:=ja hb.1 ha.2;rw[M9 k j]at c;have d:(a.num*b.den).natAbs=a.num.natAbs*b.den:=by rw[EL,wV]
 have e:(b.num*a.den).natAbs=b.num.natAbs*a.den:=by rw[EL,wV]
 have g:=Int.natAbs_add_le (a.num*b.den) (b.num*a.den);rw[ob];omega
theorem tR{j k:Nat}{a b:Rat}(ha:Sm j a)(hb:Sm k b):a.den*b.den<10^(j+k):=ja ha.2 hb.2
theorem tS(a b:Rat):a.den*b.den≠0:=Nat.mul_ne_zero a.den_nz b.den_nz
theorem Sm.add{j k:Nat}{a b:Rat}(ha:Sm j a)(hb:Sm k b):Sm (j+k+1) (a+b):=by
 rw[Rat.add_def'];refine Sm.mkRat (CY ha hb) ?_ (tS a b);have:=tR ha hb;rw[ob];omega
theorem Sm.sub{j k:Nat}{a b:Rat}(ha:Sm j a)(hb:Sm k b):Sm (j+k+1) (a - b):=by
 rw[Xg];exact ha.add hb.neg
theorem Sm.mul{j k:Nat}{a b:Rat}(ha:Sm j a)(hb:Sm k b):Sm (j+k) (a*b):=by
 rw[Rat.mul_def'];refine Sm.mkRat ?_ (tR ha hb) (tS a b);rw[EL];exact ja ha.1 hb.1
theorem Sm.ofInt{k:Nat}{z:Int}(h:z.natAbs<10^k)(a:1<=k):Sm k (z:Rat):=by
 have hp:10^1<=10^k:=gb om a;refine⟨h,?_⟩;have:(z:Rat).den=1:=rfl;omega
theorem Sm.text{k:Nat}{r:Rat}(h:(qS r).length<=k):Sm k r:=by
 have h1:=GK r.num;have b:=BZ r.den;have c:=zk.2 (VH r.num);unfold qS at h;split at h
 ·rename_i e;have hp:10^(kW r.num).length<=10^k:=gb om h;have a:10^1<=10^k:=gb om om;exact⟨om,om⟩
 ·simp only[dp,ew]at h;have hp:10^(kW r.num).length<=10^k:=gb om om;have a:10^(fb r.den).length<=10^k:=gb om om;exact⟨om,om⟩
theorem Sm.length{k:Nat}{r:Rat}(h:Sm k r)(a:1<=k):(qS r).length<=2*k+2:=by
 have h1:=jS h.1 a;have b:=iE h.2 a;unfold qS;split
 ·omega
 ·simp only[dp,ew];omega
theorem Sm.int{k:Nat}{r:Rat}(h:Sm k r)(a:1<=k):(kW r.num).length<=k+1:=jS h.1 a
theorem Sm.nat{k:Nat}{r:Rat}(h:Sm k r)(a:1<=k):(fb r.den).length<=k:=iE h.2 a

theorem I7(a b:Rat):a<b↔a.num*b.den - b.num*a.den<0:=by
 rw[Rat.lt_iff];omega
theorem R9(a b:Rat):a=b↔a.num*b.den - b.num*a.den=0:=by
 rw[Rat.eq_iff_mul_eq_mul];omega
def gO(a b:Rat):Int:=if a<b then -1 else if b<a then 1 else 0
theorem jI{a b:Rat}:gO a b<0↔a<b:=by
 unfold gO;split
 ·simp[*]
 ·split<;>simp[*]
theorem gL{a b:Rat}:gO a b>0↔b<a:=by
 unfold gO;split
 ·rename_i h;have:¬b<a:=Xh.2 (Rat.le_of_lt h);simp[this]
 ·split<;>simp[*]
theorem B3{a b:Rat}:gO a b=0↔a=b:=by
 unfold gO;split
 ·rename_i h;have:=Rat.ne_of_lt h;simp[this]
 ·rename_i h;split
  ·rename_i c;have:=Rat.ne_of_gt c;simp[this]
  ·rename_i c;simp;exact Rat.le_antisymm (Xh.1 c) (Xh.1 h)
theorem Sa(r:Rat):r.num.sign=gO r 0:=by
 have h1:r<0↔r.num<0:=by rw[Rat.lt_iff];simp
 have a:0<r↔0<r.num:=by rw[Rat.lt_iff];simp
 unfold gO;rcases Int.lt_trichotomy r.num 0 with h|h|h
 ·rw[bm (h1.2 h),Qw h]
 ·rw[aq (fun k=>by have:=h1.1 k;omega),aq (fun k=>by have:=a.1 k;omega),h];rfl
 ·rw[aq (fun k=>by have:=h1.1 k;omega),bm (a.2 h),Tm h]

theorem Ny : Tryz.prog.globalNamed "internal/strconv.uint64pow10" = some 0 := kF

structure bj (w:World):Prop where
 tab : Lib.TabIs Tryz.prog w "internal/strconv.uint64pow10" .u64 Lib.pow10Tab
 mx:∃m:Int,w.cell? ⟨1,0,none⟩=some (.int .i64 m)

theorem Nz{w:World}{a:Addr}{v:Value}(h:w.cell? a=some v):a.block<w.heap.size:=by
 apply bB;intro k;have:w.heap[a.block]? =none:=xO om;simp[World.cell?,this]at h
theorem I8 {w w' : World} {B : Nat} (h : Lib.TabIs Tryz.prog w "internal/strconv.uint64pow10" .u64 Lib.pow10Tab) (hb : Below B w w') (hB : w.heap.size ≤ B) : Lib.TabIs Tryz.prog w' "internal/strconv.uint64pow10" .u64 Lib.pow10Tab := by
 unfold Lib.TabIs World.var? at*;rw[Ny]at*;simp only[QE]at*;have a:0<w.heap.size:=by
  apply bB;intro k;have:w.heap[0]? =none:=xO om;rw[this]at h;cases h
 rw[hb.block _ om];exact h
theorem bj.below{w w':World}{B:Nat}(h:bj w)(hb:Below B w w')(hB:w.heap.size<=B):bj w':=by
 refine⟨I8 h.tab hb hB,?_⟩;obtain⟨m,hm⟩:=h.mx;refine⟨m,?_⟩;have:=Nz hm;simp only at this;simp only[World.cell?]at hm⊢;rw[hb.block _ om];exact hm
theorem bj.next{w w':World}(h:bj w)(hb:Below w.heap.size w w'):bj w':=h.below hb lf
open Go Go.RowKit Go.Shelf Go.Proofs Go.Proofs.YtmdphpnaipbfjaaGreatDoor.Vc
attribute [local go_sem] Oper.semAt_some

def GO:Nat->Nat->Tx
 |0,_=>[]
 |k+1,r=>GO k (r / 10)++[UInt8.ofNat (48+r % 10)]
theorem LL(q:Nat)(hq:0<q):∀(k r:Nat),r<10^k->fb (q*10^k+r)=fb q++GO k r:=by
 intro k;induction k with
 |zero=>intro r hr;simp at hr;simp[hr,GO]
 |succ k ih=>
  intro r hr;rw[ob]at hr⊢;have hp:0<10^k:=Sp om;have h1:1<=q*10^k:=Nat.mul_pos hq hp;have e:q*(10^k*10)+r=10*(q*10^k)+r:=gD;rw[e,oR om,show(10*(q*10^k)+r) / 10=q*10^k+r / 10 by omega,show(10*(q*10^k)+r) % 10=r % 10 by omega,ih (r / 10) om,GO,fi]
theorem OK(k:Nat):GO k 0=List.replicate k 48:=by
 induction k with
 |zero=>rfl
 |succ k ih=>rw[GO,Nat.zero_div,ih,U0];rfl
theorem Sb:∀(k r:Nat),r<10^k->1<=k->GO k r=List.replicate (k - (fb r).length) 48++fb r:=by
 intro k;induction k with
 |zero=>intro r _ h;omega
 |succ k ih=>
  intro r hr _;rw[ob]at hr;by_cases h:r<10
  ·rw[GO,show r / 10=0 by omega,OK,ib h,show r % 10=r by omega];simp
  ·have hk:1<=k:=by
    apply bB;intro k0;have:k=0:=om;subst this;omega
   rw[GO,ih (r / 10) om hk,oR h,dp,fi]
   congr 2
   simp

def vj(n:Nat)(p:PW):Tx:=if(p.1:Int)<(n:Int) - 1 then List.replicate (9 - (fb p.2.1).length) 48++fb p.2.1 else fb p.2.1
def UL(n:Nat)(l:List PW):Tx:=l.flatMap (vj n)
theorem CZ(n:Nat)(l:List PW)(p:PW):UL n (l++[p])=UL n l++vj n p:=by simp[UL]
theorem Sc(ws:List Nat)(hs:Small ws)(hn:Norm ws):∀d m,ws.length - 1 - m=d->m<ws.length->UL ws.length (sJ ws hs m)=fb (wv (ws.drop m)):=by
 intro d;induction d with
 |zero=>
  intro m hd hm;have hm':m=ws.length - 1:=om;have e:sJ ws hs m=[Yt ws hs m]:=by
   rw[xP ws hs hm,show m+1=ws.length by omega,Fj];rfl
  rw[e,mJ,dd om];have h1:¬((m:Int)<(ws.length:Int) - 1):=om;simp[UL,vj,Yt,h1,wv]
 |succ d ih=>
  intro m hd hm;rw[xP ws hs hm,CZ,ih (m+1) om om,mJ ws m];have h1:((m:Int)<(ws.length:Int) - 1):=om;have hx:=hs.getD m;have hpos:0<wv (ws.drop (m+1)):=by
   have hne:ws.drop (m+1)≠[]:=by
    intro k;have:=ca List.length k;simp at this;omega
   have hnn:Norm (ws.drop (m+1)):=by
    unfold Norm at*;rw[List.getLast?_drop,aq om];exact hn
   have:=po hnn hne;have hp:0<1000000000^((ws.drop (m+1)).length - 1):=Sp om;omega
  have e:ws.getD m 0+1000000000*wv (ws.drop (m+1))=wv (ws.drop (m+1))*10^9+ws.getD m 0:=om;rw[e,LL _ hpos 9 _ om,Sb 9 _ om om];have e2:vj ws.length (Yt ws hs m)=List.replicate (9 - (fb (ws.getD m 0)).length) 48++fb (ws.getD m 0):=by
   simp[vj,Yt,h1]
  rw[e2]
theorem VI(ws:List Nat)(hs:Small ws)(hn:Norm ws)(h:ws≠[]):UL ws.length (sJ ws hs 0)=fb (wv ws):=by
 have:=Sc ws hs hn _ 0 rfl (zk.2 h);simpa using this
theorem GQ(n:Nat)(p:PW):(vj n p).length<=9:=by
 have h:=iE (n:=p.2.1) (k:=9) p.2.2 om;unfold vj;split
 ·simp;omega
 ·exact h
theorem LM(n:Nat)(l:List PW):(UL n l).length<=9*l.length:=by
 induction l with
 |nil=>simp[UL]
 |cons p r ih=>
  have:=GQ n p;simp only[UL,xJ,dp,ew]at*;omega

theorem iW{w w':World}(h:Below w.heap.size w w'):w.grownBy w' none:=⟨h.os,h.tape,h.output,h.size,fun k hk _=>h.block k hk⟩
theorem gj{T e B b:Nat}{bs:List Value}{w w':World}{row:Option Nat}(h:Lib.IsBuilderF T e B b bs w)(hg:w.grownBy w' row)(hr:∀r,row=some r->∃o:Obj,w.heap[r]? =some o/\o.isCells=false):Lib.IsBuilderF T e B b bs w':=by
 have one:∀p,Lib.BuilderAtF T e B b p bs w->Lib.BuilderAtF T e B b p bs w':=by
  rintro p ⟨hB,v,hb,hown,hne⟩;refine⟨hB,v,?_,hown.kept hg ?_,hne⟩
  ·rw[hg.block b (ax.1 hb).1]
   ·exact hb
   ·intro k;obtain⟨o,ho,hc⟩:=hr b k.symm;rw[hb]at ho;cases ho;simp[Obj.isCells]at hc
  ·rcases hown.2 with⟨hv,_⟩|⟨g,cap,cur,fz,hv,_,hgg,_⟩
   ·left;rw[hv];rfl
   ·right
    rw[hv];intro k;simp only[Value.ownBlock]at k;obtain⟨o,ho,hc⟩:=hr g k.symm;rw[hgg]at ho;cases ho;simp[Obj.isCells]at hc
 exact h.imp (one _) (one _)
theorem CK.wC{b:Nat}{W W':World}(h:Lib.OthersKept 5 (some b) W W'):CK b W W':=fun k cs ty fz hk hne hty=>h k _ hk (fun e=>hne (by cases e;rfl)) fun c f e=>by cases e;exact hty rfl
theorem tT{b:Nat}{W W':World}(h:Below W.heap.size W W'):Lib.OthersKept 5 (some b) W W':=fun k o hk _ _=>by
 rw[h.block k (ax.1 hk).1];exact hk
theorem sL{b B:Nat}{W W':World}(h:Lib.OthersKept 5 (some b) W W')(hs:W.heap.size<=W'.heap.size)(hb:∀o,W.heap[b]? =some o->o.isCells=true):KeepsFrom B W W':=
 ⟨hs,fun k o _ hk hc=>h k o hk (fun e=>by cases e;rw[hb o hk]at hc;cases hc) fun c f e=>by subst e;simp[Obj.isCells]at hc⟩
theorem Da{T e B b:Nat}{bs:List Value}{w:World}(h:Lib.IsBuilderF T e B b bs w):∀o,w.heap[b]? =some o->o.isCells=true:=by
 intro o ho;rcases h with h|h<;>(obtain⟨_,v,hb,_⟩:=h;rw[hb]at ho;cases ho;rfl)
theorem vk(w:World)(k:Nat)(os:Array Obj):Below w.heap.size w (Sort.grow (w.drewN k) os):=
 ⟨rfl,rfl,rfl,by simp[Sort.grow,World.drewN],fun i hi=>by simp[Sort.grow,World.drewN,Pv hi]⟩
theorem OL (u : Nat) (hu : u < 18446744073709551616) (w : World) (htab : Lib.TabIs Tryz.prog w "internal/strconv.uint64pow10" .u64 Lib.pow10Tab) :
  Calls Tryz.prog 300 #[.int .u64 u,.int .i64 10] w fun e w'=>e= .returned (.string ⟨(fb u).toArray⟩)/\Below w.heap.size w w':=
 (Tryz.LH u hu w htab).mono (by
  rintro e w' ⟨rfl,k,os,rfl⟩;exact⟨rfl,vk _ _ _⟩)
theorem Db{w w':World}{a:Addr}{v:Value}(h:w.cell? a=some v)(hb:Below w.heap.size w w'):w'.cell? a=some v:=(hb.cell (Nz h)).trans h

theorem LN(F:Fence)(n:Nat)(h5:F.fn 299)(hro:F.round=none)(A:Option Addr)(len cap:Nat)(w:World):
  CallsIn F n Tryz.prog 299 #[.slice A len cap] w fun e w'=>e= .returned (.func (.func 317) #[] #[.pointer (some ⟨w.heap.size,0,none⟩)])/\w'=w.alloc (.cells #[.slice A len cap] 314):=by
 refine callsIn_of_wp Tryz.func299 rfl h5 ?_ hro;simp only[Tryz.ntmps299,Eu,ew,za,Nat.reduceAdd,Nat.reduceSub,UQ,UT,Yc,Vx,u0,vv]
 gi_wp2
 go_ret
 exact⟨rfl,rfl⟩

theorem LO(b Bs:Nat)(A:Option Addr)(cap:Nat)(ws:List Nat)(hs:Small ws)(hlen:ws.length<=1000000)(w:World)(ha:oI w A ws)(h0:ws≠[])(hb:∀o,w.heap[b]? =some o->∀c fz,o≠ .cells c 174 fz/\o≠ .cells c 314 fz)(hBs:w.heap[Bs]? =some (.cells #[.slice A ws.length cap] 314 (0,0)))(n:Nat)(hn:1<=n):
  SeqStopsK Fence.wide n Tryz.prog 317 #[.pointer (some ⟨Bs,0,none⟩)] RC (CK b) (fun ys=>ys=sJ ws hs 0) (fun _=>True) ws.length w:=fun l J Jx W hW _ _ hY h1=>by
 rcases ha with ha|⟨wb,off,all,fr,rfl,hw,hc⟩
 ·exact absurd ha h0
 ·have hwl:=(ax.1 hw).1;have hBl:=(ax.1 hBs).1;refine Vl Fence.wide n trivial rfl hn l Bs b wb off cap (fun e=> ?_) (fun e=> ?_) ws hs hlen J Jx hY W _ rfl ((hW.block Bs hBl).trans hBs) all fr ((hW.block wb hwl).trans hw) (fun j hj=> ?_) h1
  ·subst e;exact(hb _ hBs _ _).2 rfl
  ·subst e;exact(hb _ hw _ _).1 rfl
  ·have:=hc j hj;rw[cz,af hj];exact this

set_option maxRecDepth 100000 in
set_option maxHeartbeats 4000000 in
theorem LP{w:World}{A:Option Addr}{cap:Nat}{ws:List Nat}(hg:bj w)(ha:oI w A ws)(hs:Small ws)(hnn:Norm ws)(hle:ws.length<=1000000)(h0:ws≠[]):
  Calls Tryz.prog 269 #[.slice A ws.length cap] w fun e w'=>e= .returned (.string ⟨(fb (wv ws)).toArray⟩)/\Below w.heap.size w w':=by
 have hne:¬((ws.length:Int)=0):=by
  have:=zk.2 h0;omega
 refine(callsIn_wide (n:=5)).1 ?_;refine callsIn_of_wp_marks Tryz.func269 rfl trivial ?_ rfl;simp only[Tryz.ntmps269,Eu,ew,za,Nat.reduceAdd,Nat.reduceSub,UQ,UT,Yc,Vx,u0,vv]
 gi_wp2_with (refine⟨trivial,?_⟩;gi_at_call 299;refine(LN Fence.wide _ trivial rfl _ _ _ _).mono ?_;rintro e w' ⟨rfl,rfl⟩)
 obtain⟨W0,hW0⟩:∃W0,((w.alloc (.cells #[.slice A ws.length cap] 314)).alloc (.cells #[.pointer none,.slice none 0 0] 88)).alloc (.cells #[.slice A ws.length cap] 314)=W0:=⟨_,rfl⟩
 have hs0:W0.heap.size=w.heap.size+3:=by rw[<-hW0];simp
 have hB0:W0.heap[w.heap.size]? =some (.cells #[.slice A ws.length cap] 314 (0,0)):=by
  rw[<-hW0];exact((Below.heap_alloc _ _ _ (by simp;omega)).trans (Below.heap_alloc _ _ _ sm)).trans (World.alloc_heap_new w _)
 have hB1:W0.heap[w.heap.size+1]? =some (.cells #[.pointer none,.slice none 0 0] 88 (0,0)):=by
  rw[<-hW0];refine(Below.heap_alloc _ _ _ sm).trans ?_;have:=World.alloc_heap_new (w.alloc (.cells #[.slice A ws.length cap] 314)) (.cells #[.pointer none,.slice none 0 0] 88);rwa [World.size_alloc]at this
 have hB2:W0.heap[w.heap.size+1+1]? =some (.cells #[.slice A ws.length cap] 314 (0,0)):=by
  rw[<-hW0];have:=World.alloc_heap_new ((w.alloc (.cells #[.slice A ws.length cap] 314)).alloc (.cells #[.pointer none,.slice none 0 0] 88)) (.cells #[.slice A ws.length cap] 314);rwa [World.size_alloc,World.size_alloc]at this
 have hbel:Below w.heap.size w W0:=by
  rw[<-hW0];exact(((Below.refl _ w).alloc lf _).alloc sm _).alloc (by simp;omega) _
 rw[hW0];refine wpIn_rangeFunc_ownG rfl om (gf:=317) (lb:= #[.pointer (some ⟨w.heap.size+1+1,0,none⟩)]) rfl trivial (enters_of Tryz.func317 kF rfl)
  (LO (w.heap.size+1) (w.heap.size+1+1) A cap ws hs hle W0 (ha.ar hbel lf) h0 (fun o ho c fz=>by rw[hB1]at ho;cases ho;exact⟨sm,sm⟩) hB2 _ om)
  (fun h k=>CK.trans h k) (fun W l o o' _ h hc _=>CK.putObj W l o o' h hc) (Below.refl _ _) (fun _=>rfl)
  (fun pre W=>Lib.IsBuilderF 88 5 w.heap.size (w.heap.size+1) (Lib.byteCells (UL ws.length pre)) W/\Below w.heap.size w W/\W.heap[w.heap.size]? =some (.cells #[.slice A ws.length cap] 314 (0,0)))
  (fun _ _ _=>False)
  (fun s W1 W2 row hI hgr hr=>⟨gj hI.1 hgr (fun r e=>(hr r e).2),hI.2.1.grown hgr hI.2.1.size (fun r e=>by have:=(hr r e).1;omega),?_⟩)
  (fun _ _ _ _ _ hs _ _=>hs)
  ⟨?_,hbel,hB0⟩ (fun x=>{tmps:= #[.slice A ws.length cap,.pointer (some ⟨w.heap.size,0,none⟩),.string ⟨#[]⟩,.pointer (some ⟨w.heap.size+1,0,none⟩),.int .i64 (x.1:Int),.int .u32 (x.2.1:Int),undef,.slice A ws.length cap,.int .i64 ws.length,.bool false,.slice A ws.length cap,.func (.func 317) #[] #[.pointer (some ⟨w.heap.size+1+1,0,none⟩)],.int .i64 (x.1:Int),.int .u32 (x.2.1:Int),undef,undef,undef,undef,undef,undef,undef,undef,undef,undef,undef,undef,undef,undef,undef,undef],defers:=[]}) ?assign ?body ?done ?stop
 case assign=>
  intro l x W K hK
  gi_wp2
  exact hK
 case body=>
  rintro l pre x W ⟨hI,hbw,hc0⟩ hlen;have hx:=x.2.2;have hcell:W.cell? ⟨w.heap.size,0,none⟩=some (.slice A ws.length cap):=by simp[World.cell?,hc0]
  have htab:=I8 hg.tab hbw lf;have hwr:IntKind.wrap .u64 (x.2.1:Int)=(x.2.1:Int):=by rw[IntKind.wrap_u64];omega
  obtain⟨t,ht⟩:∃t,t=fb x.2.1:=⟨_,rfl⟩
  have hl9:t.length<=9:=by rw[ht];exact iE (n:=x.2.1) (k:=9) hx om
  obtain⟨c,hc⟩:∃c,c=9 - t.length:=⟨_,rfl⟩
  have hfmt : ∀ w', Lib.TabIs Tryz.prog w' "internal/strconv.uint64pow10" .u64 Lib.pow10Tab → Calls Tryz.prog 300 #[.int .u64 (x.2.1 : Int), .int .i64 10] w' fun e w'' => e = .returned (.string ⟨t.toArray⟩) ∧ Below w'.heap.size w' w'' := fun w' h => by rw [ht]; exact OL x.2.1 om _ h
  have hrep:∀w',Calls Tryz.prog 301 #[.string ⟨#[48]⟩,.int .i64 (9 - (t.length:Int))] w' fun e w''=>e= .returned (.string ⟨(List.replicate c (48:UInt8)).toArray⟩)/\Below w'.heap.size w' w'':=fun w'=>by
   rw[show 9 - (t.length:Int)=(c:Int) by omega];refine(Tryz.strings_Repeat ⟨#[48]⟩ c w' om (by simp[ByteArray.size];omega)).mono ?_;rintro e w'' ⟨rfl,h⟩;refine⟨?_,h⟩;have e1:Lib.repeatL [48] c=List.replicate c (48:UInt8):=by
    clear hc;induction c with
    |zero=>rfl
    |succ c ih=>simp[Lib.repeatL,ih,QH]
   show Ending.returned (.string ⟨(Lib.repeatL [48] c).toArray⟩)=_;rw[e1]
  have hc9:c<=9:=om;have hlx:=LM ws.length pre;have hWs:=hbw.size;by_cases hlt:(x.1:Int)<(ws.length:Int) - 1
  ·have ho:vj ws.length x=List.replicate c 48++t:=by simp[vj,hlt,hc,ht]
   clear hc ht
   gi_wp2_with (refine⟨trivial,?_⟩;gi_at_call 300;refine(CallsIn.inRound l (callsIn_wide.2 (hfmt _ htab))).mono ?_;clear hfmt;rintro e W1 ⟨rfl,hb1⟩;have hcell1:=Db hcell hb1)
   refine⟨trivial,?_⟩
   gi_at_call 301
   refine(CallsIn.inRound l (callsIn_wide.2 (hrep _))).mono ?_;rintro e W2 ⟨rfl,hb2⟩;have hI2:=gj (gj hI (iW hb1) (fun _ e=>by cases e)) (iW hb2) (fun _ e=>by cases e);have s1:=hb1.size;have s2:=hb2.size
   gi_wp2
   refine⟨trivial,?_⟩
   gi_at_call 28
   refine(CallsIn.inRound l (callsIn_wide.2 (Tryz.zN w.heap.size (w.heap.size+1) _ ⟨(List.replicate c (48:UInt8)).toArray⟩ W2 hI2 (by rw[Lib.byteCells_length];simp[ByteArray.size];omega) om))).mono ?_;rintro e W3 ⟨rfl,hI3,hb3,ho3⟩;have s3:=hb3.size
   gi_wp2
   refine⟨trivial,?_⟩
   gi_at_call 28
   refine(CallsIn.inRound l (callsIn_wide.2 (Tryz.zN w.heap.size (w.heap.size+1) _ ⟨t.toArray⟩ W3 (.inr hI3) (by rw[dp,Lib.byteCells_length,Lib.strCells_length];simp[ByteArray.size];omega) om))).mono ?_;rintro e W4 ⟨rfl,hI4,hb4,ho4⟩;have s4:=hb4.size
   gi_wp2
   have ho4':=((tT (b:=w.heap.size+1) hb1).trans (tT hb2)).trans (ho3.trans ho4);refine⟨sL ho4' om (Da hI),CK.wC ho4',.inr ?_,hbw.trans ((hb1.mono hWs).trans ((hb2.mono om).trans (hb3.trans hb4))),CK.wC ho4' _ _ _ _ hc0 om dc⟩;rw[CZ,ho,Lib.byteCells_append,Lib.byteCells_append,<-fi];exact hI4
  ·have ho:vj ws.length x=t:=by simp[vj,hlt,ht]
   clear hc ht
   gi_wp2_with (refine⟨trivial,?_⟩;gi_at_call 300;refine(CallsIn.inRound l (callsIn_wide.2 (hfmt _ htab))).mono ?_;clear hfmt;rintro e W1 ⟨rfl,hb1⟩;have hcell1:=Db hcell hb1)
   have hI1:=gj hI (iW hb1) (fun _ e=>by cases e);have s1:=hb1.size;refine⟨trivial,?_⟩
   gi_at_call 28
   refine(CallsIn.inRound l (callsIn_wide.2 (Tryz.zN w.heap.size (w.heap.size+1) _ ⟨t.toArray⟩ W1 hI1 (by rw[Lib.byteCells_length];simp[ByteArray.size];omega) om))).mono ?_;rintro e W4 ⟨rfl,hI4,hb4,ho4⟩;have s4:=hb4.size
   gi_wp2
   have ho4':=(tT (b:=w.heap.size+1) hb1).trans ho4;refine⟨sL ho4' om (Da hI),CK.wC ho4',.inr ?_,hbw.trans ((hb1.mono hWs).trans hb4),CK.wC ho4' _ _ _ _ hc0 om dc⟩;rw[CZ,ho,Lib.byteCells_append];exact hI4
 case done=>
  rintro D ys W hD rfl ⟨hI,hbw,hc0⟩ hK;rw[VI ws hs hnn h0]at hI;have hWs:=hbw.size
  gi_wp2
  refine⟨trivial,?_⟩
  gi_at_call 30
  refine(callsIn_wide.2 (Tryz.Builder_String_any_k w.heap.size (w.heap.size+1) _ W hI om)).mono ?_;rintro e W1 ⟨rfl,hI1,hb1,ho1⟩;have s1:=hb1.size;have hK1:=ho1 D _ hK (fun e=>by cases e;omega) (fun c f e=>by cases e)
  gi_wp2
  refine⟨sm,.inl ⟨_,_,rfl,run_takeDeferred hK1,?_⟩⟩;refine⟨_,results_tmp rfl _ _ _,rfl,?_⟩;exact hbw.trans (hb1.trans (belowK_b (w:=w) lf W1 D _ _ om hK1 rfl rfl))
 case stop=>
  rintro D c pre W _ _ h _;exact h.elim
 ·have hb:=hI.2.2;rw[hgr.block _ (ax.1 hb).1 (fun e=> ?_)]
  ·exact hb
  ·obtain⟨_,o,ho,hc⟩:=hr _ e.symm;rw[hb]at ho;cases ho;simp[Obj.isCells]at hc
 ·exact .inl ⟨om,.slice none 0 0,hB1,World.ownsRowF_nil _ _ _ _,by simp[Value.ownBlock]⟩

theorem tU{w:World}{A:Option Addr}{n c x:Nat}(hg:bj w)(ha:iZ w A n c x)(hn:n<=1000000):
  Pure Tryz.prog 269 #[.slice A n c] w fun v _=>v= .string (st (fb x)):=by
 obtain⟨ws,a1,a2,a3,a4,a5,a6,rfl⟩:=ha;by_cases h0:ws=[]
 ·subst h0;simp at a2;subst a2;refine(?_:Calls Tryz.prog 269 #[.slice A 0 c] w fun e w'=>e= .returned (.string ⟨#[48]⟩)/\Below w.heap.size w w').mono ?_
  ·go_enter Tryz.func269,Tryz.ntmps269
   go_wp2
   go_ret
   exact⟨rfl,(Below.refl _ w).alloc lf _⟩
  ·rintro e w' ⟨rfl,hb⟩;refine⟨_,rfl,hb,?_⟩;have:fb (wv [])=[48]:=by simp only[wv];exact zR
   rw[this];rfl
 ·subst a2;refine(LP hg a1 a5 a6 hn h0).mono ?_;rintro e w' ⟨rfl,hb⟩;exact⟨_,rfl,hb,rfl⟩

theorem mE{w:World}{s t:ByteArray}(hs:s.size<=900000)(e:t.size<=900000):
  Pure Tryz.prog 229 #[.string s,.string t] w fun v w'=>
   (¬(isNat (bJ s)=true/\isNat (bJ t)=true)/\v= .tuple #[.slice none 0 0,.slice none 0 0,.int .i64 1])∨
   ((isNat (bJ s)=true/\isNat (bJ t)=true)/\∃A n c A' n' c',v= .tuple #[.slice A n c,.slice A' n' c',.int .i64 0]/\iZ w' A n c (eS (bJ s))/\iZ w' A' n' c' (eS (bJ t))):=by
 refine F.mE.vc (pm (bZ s om w) ?_);rintro v g _ rfl;refine⟨_,rfl,fun h=> .inl ⟨by simp[h],rfl⟩,fun h=> ?_⟩;refine pm (bZ t om g) ?_;rintro v l _ rfl;refine⟨_,rfl,fun d=> .inl ⟨by simp[d],rfl⟩,fun d=> ?_⟩;have a:isNat (bJ s)=true:=by simpa using h
 have b:isNat (bJ t)=true:=by simpa using d
 refine pm (dy hs a) ?_;rintro v m _ ⟨A,n,c,rfl,i⟩;refine⟨_,_,_,rfl,pm (dy e b) ?_⟩;rintro v o j ⟨A',n',c',rfl,k⟩;exact⟨_,_,_,rfl,.inr ⟨⟨a,b⟩,_,_,_,_,_,_,rfl,i.below j,k⟩⟩

def nS(n:Nat):ByteArray:=st (fb n)
def iS(z:Int):ByteArray:=st (kW z)
def rS(r:Rat):ByteArray:=st (qS r)
theorem aeg(n:Nat):bJ (nS n)=fb n:=rfl
theorem aeh(z:Int):bJ (iS z)=kW z:=rfl
theorem aei(r:Rat):bJ (rS r)=qS r:=rfl
theorem xS{a b:Nat}(h:nS a=nS b):a=b:=CW (CO h)
theorem qp(n:Nat):iS (n:Int)=nS n:=by unfold iS nS;rw[yH]
theorem aaJ{a b:Nat}:nS a=nS b↔a=b:=⟨xS,fun h=>by rw[h]⟩
theorem Sd:(⟨#[48]⟩:ByteArray)=nS 0:=by unfold nS;rw[zR];rfl
theorem OM:(⟨#[49]⟩:ByteArray)=nS 1:=by unfold nS;rw[LJ];rfl
theorem aej:(⟨#[48]⟩:ByteArray)=iS 0:=by rw[Sd,<-qp];rfl

theorem zS:fR=10^(9*tM):=by
 unfold fR;have e:(1000000000:Nat)=10^9:=rfl;rw[e,<-Nat.pow_mul]
theorem pv{x k:Nat}(h:x<10^k)(a:k<=900000):x<fR:=by
 rw[zS];exact uB h (gb om (by have:=IM;omega))
theorem xT{x:Nat}(h:x<fR):(nS x).size<=900000:=by
 rw[zS]at h;have k:=IM;have:=iE h om;show(fb x).length<=_;omega
theorem iZ.LQ{w:World}{A:Option Addr}{n c x:Nat}(h:iZ w A n c x)(hx:x<fR*fR+fR):n<=1000000:=by
 obtain⟨ws,_,hl,_,_,_,hn,rfl⟩:=h;unfold fR at hx;by_cases d:ws=[]
 ·subst d;simp at hl;omega
 ·have h1:=po hn d;rw[<-Zz]at hx;have k:=IM;have g:1000000000^tM<=1000000000^(tM+tM):=gb om om;have e:1000000000^(tM+tM)+1000000000^tM<=1000000000^(tM+tM+1):=by
   rw[ob (n:=1000000000) (m:=tM+tM)];generalize 1000000000^(tM+tM)=a at*;generalize 1000000000^tM=b at*;omega
  have i:=(QY (a:=1000000000) om).1 (uQ h1 (uB hx e));omega
theorem NA{x y:Nat}(hx:x<fR)(hy:y<fR):x+y<fR*fR+fR:=by
 have a:2<=fR:=by rw[zS];exact ec om (gb (n:=10) om (show 1<=9*tM by have:=IM;omega))
 have:fR<=fR*fR:=Nat.le_mul_of_pos_left _ om;omega
theorem VJ{x y:Nat}(hx:x<fR)(hy:y<fR):x*y<fR*fR+fR:=by
 have:=YA hx hy;omega
theorem LR{x y:Nat}(hx:x<fR)(h:y<=x):y<fR*fR+fR:=om

theorem gx{w:World}{f:Nat}{a k:Array Value}{A:Option Addr}{n c x:Nat}(hg:bj w)(d:av Tryz.prog f=true)(hx:x<fR*fR+fR)
  (h:Pure Tryz.prog f (a.toList++([.slice A n c]:List Value)++k.toList).toArray w fun v w'=>∃A n c,v= .slice A n c/\iZ w' A n c x):
  Pure Tryz.prog 230 #[.func (.func f) a k,.slice A n c] w fun v _=>v= .tuple #[.string (nS x),.int .i64 0]:=by
 refine F.gx.vc ⟨d,pm h ?_⟩;rintro v e hb ⟨A,n,c,rfl,b⟩;refine⟨_,_,_,rfl,pm (tU (hg.next hb) b (b.LQ hx)) ?_⟩;rintro v g _ rfl;exact⟨_,rfl,rfl⟩

theorem wD{w:World}{x y:Nat}(hx:x<fR)(hy:y<fR):
  Pure Tryz.prog 229 #[.string (nS x),.string (nS y)] w fun v w'=>
   ∃A n c A' n' c',v= .tuple #[.slice A n c,.slice A' n' c',.int .i64 0]/\iZ w' A n c x/\iZ w' A' n' c' y:=by
 refine pm (mE (xT hx) (xT hy)) ?_;rintro v w' _ (⟨h,_⟩|⟨_,A,n,c,A',n',c',rfl,h1,a⟩)
 ·exact absurd ⟨qo _,qo _⟩ h
 ·rw[aeg,kV]at h1 a;exact⟨_,_,_,_,_,_,rfl,h1,a⟩

theorem ma{w:World}{x y:Nat}(hg:bj w)(hx:x<fR)(hy:y<fR):
  Pure Tryz.prog 340 #[.string (nS x),.string (nS y)] w fun v _=>v= .tuple #[.string (nS (x+y)),.int .i64 0]:=by
 refine F.ma.vc (pm (wD hx hy) ?_);rintro v b hb ⟨A,n,c,A',n',c',rfl,h1,a⟩;refine⟨_,_,_,_,_,_,_,rfl,fun h=>absurd rfl h,fun _=> ?_⟩;refine pm (gx (hg.next hb) kF (NA hx hy) (Gs h1 a hx hy)) ?_;rintro v d _ rfl;exact⟨_,_,rfl,rfl⟩

theorem jR{w:World}{x y:Nat}(hg:bj w)(hx:x<fR)(hy:y<fR):
  Pure Tryz.prog 324 #[.string (nS x),.string (nS y)] w fun v _=>v= .tuple #[.string (nS (x*y)),.int .i64 0]:=by
 refine F.jR.vc (pm (wD hx hy) ?_);rintro v d hb ⟨A,n,c,A',n',c',rfl,h1,a⟩;refine⟨_,_,_,_,_,_,_,rfl,fun h=>absurd rfl h,fun _=> ?_⟩;refine pm (gx (hg.next hb) kF (VJ hx hy) (pm (rz h1 a hx hy) ?_)) ?_
 ·rintro v b _ ⟨A,n,c,rfl,k,_⟩;exact⟨_,_,_,rfl,k⟩
 ·rintro v b _ rfl;exact⟨_,_,rfl,rfl⟩

theorem oN{w:World}{x y:Nat}(hg:bj w)(hx:x<fR)(hy:y<fR):
  Pure Tryz.prog 181 #[.string (nS x),.string (nS y)] w fun v _=>v= .tuple #[.string (nS (Nat.gcd x y)),.int .i64 0]:=by
 refine F.oN.vc (pm (wD hx hy) ?_);rintro v d hb ⟨A,n,c,A',n',c',rfl,h1,b⟩;refine⟨_,_,_,_,_,_,_,rfl,fun h=>absurd rfl h,fun _=> ?_⟩;have hle:Nat.gcd x y<=x+y:=by
  rcases Nat.eq_zero_or_pos x with a|a
  ·subst a;simp
  ·have:=Nat.le_of_dvd a (Yx x y);omega
 refine pm (gx (hg.next hb) kF (uQ hle (NA hx hy)) (I2 h1 b hx hy)) ?_;rintro v e _ rfl;exact⟨_,_,rfl,rfl⟩

theorem jq{w:World}{x y:Nat}(hx:x<fR)(hy:y<fR):
  Pure Tryz.prog 341 #[.string (nS x),.string (nS y)] w fun v _=>v= .tuple #[.int .i64 (jL x y),.int .i64 0]:=by
 refine F.jq.vc (pm (wD hx hy) ?_);rintro v b hb ⟨A,n,c,A',n',c',rfl,h1,a⟩;refine⟨_,_,_,_,_,_,_,rfl,fun h=>absurd rfl h,fun _=> ?_⟩;refine pm (pt h1 a hx hy) ?_;rintro v d _ rfl;exact⟨_,rfl,rfl⟩

theorem mc{w:World}{x y:Nat}(hg:bj w)(hx:x<fR)(b:y<=x):
  Pure Tryz.prog 342 #[.string (nS x),.string (nS y)] w fun v _=>v= .tuple #[.string (nS (x - y)),.int .i64 0]:=by
 have hy:y<fR:=uQ b hx;refine F.mc.vc (pm (wD hx hy) ?_);rintro v e hb ⟨A,n,c,A',n',c',rfl,h1,d⟩;refine⟨_,_,_,_,_,_,_,rfl,fun h=>absurd rfl h,fun _=> ?_⟩;refine pm (pt h1 d hx hy) ?_;rintro v g a rfl;refine⟨_,rfl,fun h=> ?_,fun _=> ?_⟩
 ·simp only[jL]at h;split at h
  ·omega
  ·split at h<;>omega
 ·refine pm (gx ((hg.next hb).next a) kF (LR hx (Nat.sub_le x y)) (Ew (h1.below a) (d.below a) hx b)) ?_;rintro v i _ rfl;exact⟨_,_,rfl,rfl⟩

theorem iC{w:World}{x y:Nat}(hg:bj w)(hx:x<fR)(hy:y<fR)(e:y≠0):
  Pure Tryz.prog 363 #[.string (nS x),.string (nS y)] w fun v _=>v= .tuple #[.string (nS (x / y)),.string (nS (x % y)),.int .i64 0]:=by
 refine F.iC.vc (pm (wD hx hy) ?_);rintro v l hb ⟨A,n,c,A',n',c',rfl,h1,g⟩;refine⟨_,_,_,_,_,_,_,rfl,fun h=>absurd rfl h,fun _=>⟨fun h=> ?_,fun _=> ?_⟩⟩
 ·obtain⟨ws,_,a2,_,_,_,_,rfl⟩:=g;have:ws=[]:=eR om;subst this;exact absurd rfl e
 ·refine pm (u7 h1 g hx hy e) ?_;rintro v o b ⟨B,m,d,q,r,z,rfl,i,j⟩;have k:=(hg.next hb).next b;refine⟨_,_,_,_,_,_,rfl,pm (tU k i (i.LQ (LR hx (Mz x y)))) ?_⟩;rintro v C a rfl;refine⟨_,rfl,pm (tU (k.next a) (j.below a) (j.LQ (LR hx (Nat.mod_le x y)))) ?_⟩;rintro v D _ rfl;exact⟨_,rfl,rfl⟩
end Go.Proofs.YtmdphpnaipbfjaaGreatDoor.B

set_option maxRecDepth 100000
set_option maxHeartbeats 4000000
namespace Go.Proofs.YtmdphpnaipbfjaaGreatDoor.F
open Go Go.RowKit Go.Proofs Go.Proofs.YtmdphpnaipbfjaaGreatDoor.Vc
open Tryz
variable {A C D E G H J K A0 A1 A2 A3 A4 A5 A6 A7 A8 A9 C0 C1 C2 C3 C4 C5 C6 C7 C8 C9:O} {a b c d e f g i j l m n o a0 a1 a2 a3 a4 a5 a6 a7 a8 a9 b0 b1 b2 b3 b4 b5 b6 b7 b8 b9 c0 c1 c2 c3 c4 c5 c6 c7 c8 c9:Nat} {p q r s t u v x p0 p1 p2 p3 p4 p5 p6 p7 p8 p9 q0 q1 q2 q3 q4 q5 q6 q7 q8 q9:Int} {L M N N0 N1 N2 N3 N4 N5 N6 N7 N8 N9 T0 T1 T2 T3 T4 T5 T6 T7 T8 T9:ByteArray} {Q S:Bool} {B:Nat} {w:World} {R:Kt}
def jt.cx:Pm:=([],[])
theorem jt.vc
  (h:(Pure P 179 #[vU L] w fun c d=>∃e f a,c= .tuple #[.agg #[.bool e,vU f],.bool a]/\(∀b,Ext w.heap.size [] d b->(R (.bool a) b)))):
  Pure P 123 #[vU L] w R:=
 pr jt.cx func123 h

def kv.cx:Pm:=([],[])
theorem kv.vc
  (h:(∀d,Ext w.heap.size [] w d->(Pure P 227 #[vU L,(vU ⟨#[45]⟩)] d fun l m=>∃a b,l= .tuple #[vU a,.bool b]/\(∀e,Ext w.heap.size [] m e->(Pure P 124 #[vU a] e (Rb fun n c=>(Bb n ((∀f,Ext w.heap.size [269] c f->(R (.tuple #[.agg #[.bool b,vU a],(.bool (decide (¬(b=true/\a=(⟨#[48]⟩:ByteArray)/\True))))]) f))/\(∀g,Ext w.heap.size [269] c g->(R (.tuple #[.agg #[.bool b,vU a],(.bool (decide (¬(b=true/\a=(⟨#[48]⟩:ByteArray)/\True))))]) g))) ((∀i,Ext w.heap.size [269] c i->(R (.tuple #[.agg #[.bool b,vU a],.bool false]) i))/\(∀j,Ext w.heap.size [269] c j->(R (.tuple #[.agg #[.bool b,vU a],.bool false]) j)))))))))):
  Pure P 179 #[vU L] w R:=
 pr kv.cx func179 h

def oS.cx:Pm:=([],[])
theorem oS.vc
  (h:(Pure P 228 #[vU L] w fun f b=>∃g c a,f= .tuple #[.agg #[.bool g,vU c],I a]/\(Br (a≠0) (∀d,Ext w.heap.size [] b d->(R (.tuple #[(vU ⟨#[]⟩),I a]) d)) (∀e,Ext w.heap.size [] b e->(R (.tuple #[vU c,I 0]) e))))):
  Pure P 180 #[vU L] w R:=
 pr oS.cx func180 h

def jT.cx:Pm:=([],[])
theorem jT.vc
  (h:(∀a,Ext w.heap.size [] w a->(Pure P 267 #[vU L,(vU ⟨#[48]⟩)] a fun f g=>∃b c i j d,f= .tuple #[.agg #[.bool b,vU c],.agg #[.bool i,vU j],I d]/\(∀e,Ext w.heap.size [269] g e->(R (.tuple #[.agg #[.bool b,vU c],I d]) e))))):
  Pure P 228 #[vU L] w R:=
 pr jT.cx func228 h

def gk.cx:Pm:=([],[])
theorem gk.vc
  (h:(∀f,Ext w.heap.size [] w f->(Pure P 179 #[vU L] f fun A C=>∃b c g,A= .tuple #[.agg #[.bool b,vU c],.bool g]/\(∀i,Ext w.heap.size [] C i->(Pure P 179 #[vU M] i fun D a=>∃d e j,D= .tuple #[.agg #[.bool d,vU e],.bool j]/\(Br (g=false) (∀l,Ext w.heap.size [] a l->(Pure P 296 #[] l fun E G=>∃m n,E= .agg #[.bool m,vU n]/\(Pure P 296 #[] G fun H J=>∃o p,H= .agg #[.bool o,vU p]/\(∀q,Ext w.heap.size [269] J q->(R (.tuple #[.agg #[.bool m,vU n],.agg #[.bool o,vU p],I 1]) q))))) (Br (j=false) (∀r,Ext w.heap.size [] a r->(Pure P 296 #[] r fun K N=>∃s t,K= .agg #[.bool s,vU t]/\(Pure P 296 #[] N fun O Q=>∃u v,O= .agg #[.bool u,vU v]/\(∀x,Ext w.heap.size [269] Q x->(R (.tuple #[.agg #[.bool s,vU t],.agg #[.bool u,vU v],I 1]) x))))) ((∀y,Ext w.heap.size [269] a y->(R (.tuple #[.agg #[.bool b,vU c],.agg #[.bool d,vU e],I 0]) y))/\(∀z,Ext w.heap.size [269] a z->(R (.tuple #[.agg #[.bool b,vU c],.agg #[.bool d,vU e],I 0]) z)))))))))):
  Pure P 267 #[vU L,vU M] w R:=
 pr gk.cx func267 h

def gW.cx:Pm:=([],[])
theorem gW.vc
  (h:(Pure P 267 #[vU L,vU M] w fun m b=>∃c d e f a,m= .tuple #[.agg #[.bool c,vU d],.agg #[.bool e,vU f],I a]/\(Br (a≠0) (∀g,Ext w.heap.size [] b g->(R (.tuple #[(vU ⟨#[]⟩),I a]) g)) (∀i,Ext w.heap.size [] b i->(Pure P 306 #[.agg #[.bool c,vU d],.agg #[.bool e,vU f]] i fun n o=>∃j l,n= .agg #[.bool j,vU l]/\(Pure P 307 #[.agg #[.bool j,vU l]] o (Rt fun p q=>(R (.tuple #[vU p,I 0]) q)))))))):
  Pure P 275 #[vU L,vU M] w R:=
 pr gW.cx func275 h

def js.cx:Pm:=([],[])
theorem js.vc
  (h:(Pure P 267 #[vU L,vU M] w fun m n=>∃a b c d e,m= .tuple #[.agg #[.bool a,vU b],.agg #[.bool c,vU d],I e]/\(∀f,Ext w.heap.size [] n f->(Pure P 309 #[.agg #[.bool c,vU d]] f fun o p=>∃g i,o= .agg #[.bool g,vU i]/\(Pure P 308 #[.agg #[.bool a,vU b],.agg #[.bool g,vU i]] p fun q r=>∃j l,q= .agg #[.bool j,vU l]/\(Pure P 310 #[.agg #[.bool j,vU l]] r (Ri fun s t=>(R (.tuple #[I s,I e]) t)))))))):
  Pure P 276 #[vU L,vU M] w R:=
 pr js.cx func276 h

def kx.cx:Pm:=([],[])
theorem kx.vc
  (h:(∀a,Ext w.heap.size [] w a->(R (.agg #[.bool false,(vU ⟨#[48]⟩)]) a))):
  Pure P 296 #[] w R:=
 pr kx.cx func296 h

def mL.cx:Pm:=([],[])
theorem mL.vc
  (h:(Pure P 228 #[vU L] w fun e f=>∃a b c,e= .tuple #[.agg #[.bool a,vU b],I c]/\(∀d,Ext w.heap.size [] f d->(Pure P 310 #[.agg #[.bool a,vU b]] d (Ri fun g i=>(R (.tuple #[I g,I c]) i)))))):
  Pure P 305 #[vU L] w R:=
 pr mL.cx func305 h

def jU.cx:Pm:=([],[])
theorem jU.vc
  (h:(∀a,Ext w.heap.size [] w a->(Pure P 324 #[vU L,vU M] a (qO fun e j f=>(Pure P 325 #[(.bool (decide (¬((Q:Bool)=S)))),vU e] f fun g i=>∃b c,g= .agg #[.bool b,vU c]/\(∀d,Ext w.heap.size [269] i d->(R (.agg #[.bool b,vU c]) d))))))):
  Pure P 306 #[.agg #[.bool Q,vU L],.agg #[.bool S,vU M]] w R:=
 pr jU.cx func306 h

def kI.cx:Pm:=([],[])
theorem kI.vc
  (h:(Bb Q (ByteArray.size (⟨#[45]⟩:ByteArray)+ByteArray.size L<=9223372036854775807/\(∀a,Ext w.heap.size [] w a->(R (vU ((⟨#[45]⟩:ByteArray)++L)) a))) (∀b,Ext w.heap.size [] w b->(R (vU L) b)))):
  Pure P 307 #[.agg #[.bool Q,vU L]] w R:=
 pr kI.cx func307 h

def kJ.cx:Pm:=([],[(2,6,1),(2,7,1)])
theorem kJ.vc
  (h:(∀d,Ext w.heap.size [] w d->(Pure P 328 #[.bool S] d (Ri fun a e=>((0<=a/\a<2)/\((True/\(a=(0:Int)->(Pure P 328 #[.bool Q] e (Ri fun b f=>((0<=b/\b<2)/\((True/\(b=(0:Int)->(Pure P 326 #[.agg #[.bool S,vU L],.agg #[.bool Q,vU M]] f fun v x=>∃g i,v= .agg #[.bool g,vU i]/\(∀j,Ext w.heap.size [269] x j->(R (.agg #[.bool g,vU i]) j)))))/\(b=(1:Int)->(Pure P 327 #[.agg #[.bool S,vU L],.agg #[.bool Q,vU M]] f fun y z=>∃l m,y= .agg #[.bool l,vU m]/\(∀n,Ext w.heap.size [269] z n->(R (.agg #[.bool l,vU m]) n))))))))))/\(a=(1:Int)->(Pure P 328 #[.bool Q] e (Ri fun c o=>((0<=c/\c<2)/\((True/\(c=(0:Int)->(Pure P 327 #[.agg #[.bool S,vU L],.agg #[.bool Q,vU M]] o fun A C=>∃p q,A= .agg #[.bool p,vU q]/\(∀r,Ext w.heap.size [269] C r->(R (.agg #[.bool p,vU q]) r)))))/\(c=(1:Int)->(Pure P 326 #[.agg #[.bool S,vU L],.agg #[.bool Q,vU M]] o fun D E=>∃s t,D= .agg #[.bool s,vU t]/\(∀u,Ext w.heap.size [269] E u->(R (.agg #[.bool s,vU t]) u))))))))))))))):
  Pure P 308 #[.agg #[.bool S,vU L],.agg #[.bool Q,vU M]] w R:=
 pr kJ.cx func308 h

def iF.cx:Pm:=([],[])
theorem iF.vc
  (h:(∀a,Ext w.heap.size [] w a->(Pure P 325 #[(.bool (decide (Q=false))),vU L] a fun e f=>∃b c,e= .agg #[.bool b,vU c]/\(∀d,Ext w.heap.size [269] f d->(R (.agg #[.bool b,vU c]) d))))):
  Pure P 309 #[.agg #[.bool Q,vU L]] w R:=
 pr iF.cx func309 h

def kK.cx:Pm:=([],[])
theorem kK.vc
  (h:(∀b,Ext w.heap.size [] w b->(Pure P 296 #[] b fun e a=>∃c d,e= .agg #[.bool c,vU d]/\(Br (Q=c/\L=d/\True) (R (I 0) a) (Bb Q (R (I (-1:Int)) a) (R (I 1) a)))))):
  Pure P 310 #[.agg #[.bool Q,vU L]] w R:=
 pr kK.cx func310 h

def dI.cx:Pm:=([],[])
theorem dI.vc
  (h:(Bb Q (∀a,Ext w.heap.size [] w a->(R (.agg #[(.bool (decide (L≠(⟨#[48]⟩:ByteArray)))),vU L]) a)) (∀b,Ext w.heap.size [] w b->(R (.agg #[.bool false,vU L]) b)))):
  Pure P 325 #[.bool Q,vU L] w R:=
 pr dI.cx func325 h

def mf.cx:Pm:=([],[])
theorem mf.vc
  (h:(∀a,Ext w.heap.size [] w a->(Pure P 340 #[vU L,vU M] a (qO fun e j f=>(Pure P 325 #[.bool Q,vU e] f fun g i=>∃b c,g= .agg #[.bool b,vU c]/\(∀d,Ext w.heap.size [269] i d->(R (.agg #[.bool b,vU c]) d))))))):
  Pure P 326 #[.agg #[.bool Q,vU L],.agg #[.bool S,vU M]] w R:=
 pr mf.cx func326 h

def bM.J4(a:Bool)(b:ByteArray)(c:Bool)(d:ByteArray)(e:Bool)(f:ByteArray):=Jt 327 f327 4 [vL 2,vL 3,vL 4] [⟨2,false,269,[(.bool a),(vU b)]⟩,⟨3,false,269,[(.bool c),(vU d)]⟩,⟨4,false,269,[(.bool e),(vU f)]⟩]
def bM.cx:Pm:=([((false,4),[2,3,4],[2,3,4])],[])
theorem bM.J4.step{a e f:Bool}
  (h:(Pure P 342 #[vU L,vU M] w (qO fun g m i=>(Pure P 325 #[.bool a,vU g] i fun j l=>∃b c,j= .agg #[.bool b,vU c]/\(∀d,Ext B [269] l d->(R (.agg #[.bool b,vU c]) d)))))):
  bM.J4 a L e M f N B w R:=
 jr bM.cx func327 h
theorem bM.vc
  (h:(∀a,Ext w.heap.size [] w a->(Pure P 341 #[vU L,vU M] a (Rii fun d e b=>(Br (d<0) (∀c,Ext w.heap.size [269] b c->(bM.J4 S M Q L false (⟨#[]⟩:ByteArray) w.heap.size c R)) (bM.J4 Q L S M false (⟨#[]⟩:ByteArray) w.heap.size b R)))))):
  Pure P 327 #[.agg #[.bool Q,vU L],.agg #[.bool S,vU M]] w R:=
 pr bM.cx func327 h

def jV.cx:Pm:=([],[])
theorem jV.vc
  (h:(Bb Q (R (I 1) w) (R (I 0) w))):
  Pure P 328 #[.bool Q] w R:=
 pr jV.cx func328 h

def oT.cx:Pm:=([],[])
theorem oT.vc
  (h:(Pure P 267 #[vU L,vU M] w fun m b=>∃c d e f a,m= .tuple #[.agg #[.bool c,vU d],.agg #[.bool e,vU f],I a]/\(Br (a≠0) (∀g,Ext w.heap.size [] b g->(R (.tuple #[(vU ⟨#[]⟩),I a]) g)) (∀i,Ext w.heap.size [] b i->(Pure P 308 #[.agg #[.bool c,vU d],.agg #[.bool e,vU f]] i fun n o=>∃j l,n= .agg #[.bool j,vU l]/\(Pure P 307 #[.agg #[.bool j,vU l]] o (Rt fun p q=>(R (.tuple #[vU p,I 0]) q)))))))):
  Pure P 356 #[vU L,vU M] w R:=
 pr oT.cx func356 h

def oU.cx:Pm:=([],[])
theorem oU.vc
  (h:(Pure P 228 #[vU L] w fun j b=>∃c d a,j= .tuple #[.agg #[.bool c,vU d],I a]/\(Br (a≠0) (∀e,Ext w.heap.size [] b e->(R (.tuple #[(vU ⟨#[]⟩),I a]) e)) (∀f,Ext w.heap.size [] b f->(Pure P 309 #[.agg #[.bool c,vU d]] f fun l m=>∃g i,l= .agg #[.bool g,vU i]/\(Pure P 307 #[.agg #[.bool g,vU i]] m (Rt fun n o=>(R (.tuple #[vU n,I 0]) o)))))))):
  Pure P 358 #[vU L] w R:=
 pr oU.cx func358 h

def jW.cx:Pm:=([],[])
theorem jW.vc
  (h:(Pure P 267 #[vU L,vU M] w fun s d=>∃e f a b c,s= .tuple #[.agg #[.bool e,vU f],.agg #[.bool a,vU b],I c]/\(Br (c≠0) (∀g,Ext w.heap.size [] d g->(R (.tuple #[(vU ⟨#[]⟩),(vU ⟨#[]⟩),I c]) g)) (∀i,Ext w.heap.size [] d i->(Pure P 296 #[] i fun t j=>∃l m,t= .agg #[.bool l,vU m]/\(Br (a=l/\b=m/\True) (R (.tuple #[(vU ⟨#[]⟩),(vU ⟨#[]⟩),I 16]) j) (Pure P 365 #[.agg #[.bool e,vU f],.agg #[.bool a,vU b]] j fun u v=>∃n o p q,u= .tuple #[.agg #[.bool n,vU o],.agg #[.bool p,vU q]]/\(∀r,Ext w.heap.size [] v r->(Pure P 307 #[.agg #[.bool n,vU o]] r (Rt fun x y=>(Pure P 307 #[.agg #[.bool p,vU q]] y (Rt fun z A=>(R (.tuple #[vU x,vU z,I 0]) A))))))))))))):
  Pure P 362 #[vU L,vU M] w R:=
 pr jW.cx func362 h

def jD.cx:Pm:=([],[])
theorem jD.vc
  (h:(∀d,Ext w.heap.size [] w d->(Pure P 363 #[vU M,vU L] d fun v c=>∃b a x,v= .tuple #[vU b,vU a,I x]/\(Bb Q (Br (a≠(⟨#[48]⟩:ByteArray)) (Pure P 340 #[vU b,(vU ⟨#[49]⟩)] c (qO fun y Y z=>(Pure P 342 #[vU L,vU a] z (qO fun A Z C=>(Pure P 325 #[(.bool (decide (¬((Q:Bool)=S)))),vU y] C fun D E=>∃e f,D= .agg #[.bool e,vU f]/\(Pure P 325 #[.bool false,vU A] E fun G H=>∃g i,G= .agg #[.bool g,vU i]/\(∀j,Ext w.heap.size [269] H j->(R (.tuple #[.agg #[.bool e,vU f],.agg #[.bool g,vU i]]) j)))))))) (Pure P 325 #[(.bool (decide (¬((Q:Bool)=S)))),vU b] c fun J K=>∃l m,J= .agg #[.bool l,vU m]/\(Pure P 325 #[.bool false,vU a] K fun N O=>∃n o,N= .agg #[.bool n,vU o]/\(∀p,Ext w.heap.size [269] O p->(R (.tuple #[.agg #[.bool l,vU m],.agg #[.bool n,vU o]]) p))))) (Pure P 325 #[(.bool (decide (¬((Q:Bool)=S)))),vU b] c fun T U=>∃q r,T= .agg #[.bool q,vU r]/\(Pure P 325 #[.bool false,vU a] U fun V X=>∃s t,V= .agg #[.bool s,vU t]/\(∀u,Ext w.heap.size [269] X u->(R (.tuple #[.agg #[.bool q,vU r],.agg #[.bool s,vU t]]) u)))))))):
  Pure P 365 #[.agg #[.bool Q,vU M],.agg #[.bool S,vU L]] w R:=
 pr jD.cx func365 h

end Go.Proofs.YtmdphpnaipbfjaaGreatDoor.F

namespace Go.Proofs.YtmdphpnaipbfjaaGreatDoor.B
open Go Go.RowKit Go.Proofs Go.Proofs.YtmdphpnaipbfjaaGreatDoor.Vc

theorem kE{w a b:World}{ts:List Nat}(h:Below w.heap.size w a)(e:Ext w.heap.size ts a b):Below w.heap.size w b:=h.trans e.below
theorem kP{w a b:World}(h:Below w.heap.size w a)(k:Below a.heap.size a b):Below w.heap.size w b:=h.trans (k.mono h.size)
theorem k0{w b:World}{ts:List Nat}(e:Ext w.heap.size ts w b):Below w.heap.size w b:=e.below

abbrev iV(z:Int):Value:= .agg #[.bool (decide (z<0)),.string (nS z.natAbs)]

theorem kx(w:World):Pure Tryz.prog 296 #[] w fun v _=>v=iV 0:=by
 refine F.kx.vc fun w1 _=> ?_
 rw[Sd];rfl

theorem dI(neg:Bool)(n:Nat)(w:World):Pure Tryz.prog 325 #[.bool neg,.string (nS n)] w fun v _=>v=iV (if neg then -(n:Int)else n):=by
 refine F.dI.vc ⟨fun h w1 _=> ?_,fun h w1 _=> ?_⟩
 ·subst h;rw[Sd];simp only[JS,iV]
  congr 3
  ·by_cases a:n=0
   ·subst a;simp
   ·have h1:nS n≠nS 0:=fun k=>a (xS k)
    simp[h1];omega
  ·simp
 ·subst h;have b:¬(n:Int)<0:=om;simp[iV,b]

theorem sM(z:Int)(w:World):Pure Tryz.prog 309 #[iV z] w fun v _=>v=iV (-z):=by
 refine F.iF.vc fun w1 _=> ?_
 refine pm (dI _ _ _) ?_;rintro v a _ rfl;refine⟨_,_,rfl,fun b _=> ?_⟩;have e:(if decide (decide (z<0)=false)=true then -((z.natAbs:Nat):Int)else(z.natAbs:Int))= -z:=by
  by_cases h:z<0
  ·simp[h];omega
  ·simp[h];omega
 rw[e]

theorem yK(z:Int)(w:World):Pure Tryz.prog 310 #[iV z] w fun v _=>v= .int .i64 z.sign:=by
 refine F.kK.vc fun w1 _=>pm (kx _) ?_
 rintro v a _ rfl;refine⟨_,_,rfl,fun h=> ?_,fun h=>⟨fun h1=> ?_,fun h1=> ?_⟩⟩
 ·have:z.natAbs=0:=xS h.2.1;have:z=0:=om;subst this;rfl
 ·have:z<0:=by simpa using h1
  rw[Qw this]
 ·have b:¬z<0:=by simpa using h1
  have:z≠0:=fun k=>by subst k;exact h ⟨sm,rfl,trivial⟩
  rw[Tm om]

theorem VK(c:UInt8)(l:Tx):(⟨#[c]⟩:ByteArray)++st l=st (c::l):=by
 apply xM;simp[bJ,st,TJ]
theorem mM{z:Int}(h:z.natAbs<fR)(w:World):Pure Tryz.prog 307 #[iV z] w fun v _=>v= .string (iS z):=by
 have hs:=xT h;refine F.kI.vc ⟨fun h=>⟨by show 1+(nS z.natAbs).size<=_;omega,fun w1 _=> ?_⟩,fun h w1 _=> ?_⟩
 ·have h1:z<0:=by simpa using h
  have e:iS z=st (45::fb z.natAbs):=by unfold iS;rw[oK,bm h1]
  rw[e,<-VK];rfl
 ·have h1:¬z<0:=by simpa using h
  have e:iS z=nS z.natAbs:=by unfold iS nS;rw[oK,aq h1]
  rw[e]

theorem mf{w:World}{x y:Int}(hg:bj w)(hx:x.natAbs<fR)(hy:y.natAbs<fR):
  Pure Tryz.prog 326 #[iV x,iV y] w fun v _=>v=iV (if x<0 then -((x.natAbs+y.natAbs:Nat):Int)else((x.natAbs+y.natAbs:Nat):Int)):=by
 refine F.mf.vc fun w1 a=>pm (ma (hg.next (k0 a)) hx hy) ?_
 rintro v b _ rfl;refine⟨_,_,rfl,pm (dI _ _ _) ?_⟩;rintro v c _ rfl;refine⟨_,_,rfl,fun d _=> ?_⟩;simp

theorem vm{w0:World}{x y:Int}(hg:bj w0){a b:Bool}{s t:ByteArray}{R:Value->World->Prop}(hx:x.natAbs<fR)(d:y.natAbs<=x.natAbs){w:World}{c:Bool}{r:ByteArray}(hb:Below w0.heap.size w0 w)
  (e:∀w,R (iV (if x<0 then -((x.natAbs - y.natAbs:Nat):Int)else((x.natAbs - y.natAbs:Nat):Int))) w):
  F.bM.J4 (decide (x<0)) (nS x.natAbs) (decide (y<0)) (nS y.natAbs) c r w0.heap.size w R:=by
 refine F.bM.J4.step (pm (mc (hg.next hb) hx d) ?_);rintro v h _ rfl;refine⟨_,_,rfl,pm (dI _ _ _) ?_⟩;rintro v i _ rfl;refine⟨_,_,rfl,fun g _=> ?_⟩;have:=e g;simpa using this

theorem bM{w:World}{x y:Int}(hg:bj w)(hx:x.natAbs<fR)(hy:y.natAbs<fR)(hs:(x<0/\0<=y)∨(0<=x/\y<0)):
  Pure Tryz.prog 327 #[iV x,iV y] w fun v _=>v=iV (x+y):=by
 refine F.bM.vc fun w1 e=>pm (jq hx hy) ?_
 rintro v i d rfl;refine⟨_,_,rfl,fun h j g=> ?_,fun h=> ?_⟩
 ·have c:x.natAbs<y.natAbs:=by
   simp only[jL]at h;split at h
   ·omega
   ·split at h<;>omega
  refine vm (a:=false) (b:=false) (s:=⟨#[]⟩) (t:=⟨#[]⟩) hg hy (Nat.le_of_lt c) (kE (kP (k0 e) d) g) fun w=> ?_
  congr 1
  split<;>omega
 ·have c:y.natAbs<=x.natAbs:=by
   simp only[jL]at h;split at h<;>omega
  refine vm (a:=false) (b:=false) (s:=⟨#[]⟩) (t:=⟨#[]⟩) hg hx c (kP (k0 e) d) fun w=> ?_
  congr 1
  split<;>omega

theorem jV(b:Bool)(w:World):Pure Tryz.prog 328 #[.bool b] w fun v _=>v= .int .i64 (if b then 1 else 0):=by
 refine F.jV.vc ⟨fun h=> ?_,fun h=> ?_⟩<;>subst h<;>rfl

theorem yL{w:World}{x y:Int}(hg:bj w)(hx:x.natAbs<fR)(hy:y.natAbs<fR):
  Pure Tryz.prog 308 #[iV x,iV y] w fun v _=>v=iV (x+y):=by
 refine F.kJ.vc fun w1 j=>pm (jV _ _) ?_
 rintro v l d rfl;have hb:=kP (k0 j) d;refine⟨_,rfl,by split<;>omega,⟨trivial,fun h1=>pm (jV _ _) ?_⟩,fun h1=>pm (jV _ _) ?_⟩
 all_goals
  rintro v m e rfl;have c:=hg.next (kP hb e);refine⟨_,rfl,by split<;>omega,⟨trivial,fun a=> ?_⟩,fun a=> ?_⟩
 ·have b:¬x<0:=fun k=>by simp[k]at h1
  have g:¬y<0:=fun k=>by simp[k]at a
  refine pm (mf c hx hy) ?_;rintro v h _ rfl;refine⟨_,_,rfl,fun i _=> ?_⟩;rw[aq b];show iV _=iV _
  congr 1
  omega
 ·have b:¬x<0:=fun k=>by simp[k]at h1
  have g:y<0:=by apply bB;intro k;simp[k]at a
  refine pm (bM c hx hy om) ?_;rintro v h _ rfl;exact⟨_,_,rfl,fun i _=>rfl⟩
 ·have b:x<0:=by apply bB;intro k;simp[k]at h1
  have g:¬y<0:=fun k=>by simp[k]at a
  refine pm (bM c hx hy om) ?_;rintro v h _ rfl;exact⟨_,_,rfl,fun i _=>rfl⟩
 ·have b:x<0:=by apply bB;intro k;simp[k]at h1
  have g:y<0:=by apply bB;intro k;simp[k]at a
  refine pm (mf c hx hy) ?_;rintro v h _ rfl;refine⟨_,_,rfl,fun i _=> ?_⟩;rw[bm b];show iV _=iV _
  congr 1
  omega

theorem Se(x y:Int):(if decide (¬(decide (x<0)=decide (y<0)))=true then -((x.natAbs*y.natAbs:Nat):Int)else((x.natAbs*y.natAbs:Nat):Int))=x*y:=by
 have e:(x*y).natAbs=x.natAbs*y.natAbs:=EL x y;rw[<-e];rcases Int.lt_or_le x 0 with hx|hx<;>rcases Int.lt_or_le y 0 with hy|hy
 ·have:=Int.mul_nonneg_of_nonpos_of_nonpos (YP hx) (YP hy);simp[hx,hy];omega
 ·have:=Int.mul_nonpos_of_nonpos_of_nonneg (YP hx) hy;simp[hx,ZF.2 hy];omega
 ·have:=Int.mul_nonpos_of_nonneg_of_nonpos hx (YP hy);simp[hy,ZF.2 hx];omega
 ·have:=Int.mul_nonneg hx hy;simp[ZF.2 hx,ZF.2 hy];omega

theorem EC{w:World}{x y:Int}(hg:bj w)(hx:x.natAbs<fR)(hy:y.natAbs<fR):
  Pure Tryz.prog 306 #[iV x,iV y] w fun v _=>v=iV (x*y):=by
 refine F.jU.vc fun w1 a=>pm (jR (hg.next (k0 a)) hx hy) ?_
 rintro v b _ rfl;refine⟨_,_,rfl,pm (dI _ _ _) ?_⟩;rintro v c _ rfl;refine⟨_,_,rfl,fun d _=> ?_⟩;rw[Se]

theorem Sf(s:ByteArray)(w:World):
  Pure Tryz.prog 227 #[.string s,.string ⟨#[45]⟩] w fun v _=>v= .tuple #[.string (if(bJ s).head? =some 45 then st (bJ s).tail else s),.bool (decide ((bJ s).head? =some 45))]:=by
 refine Calls.mono (Tryz.strings_CutPrefix s ⟨#[45]⟩ w) ?_;rintro e w' ⟨rfl,rfl⟩;refine⟨_,rfl,Below.refl _ _,?_⟩;have h1:Lib.hasPrefix s.data.toList [45]=decide ((bJ s).head? =some 45):=by
  show List.isPrefixOf [45] (bJ s)=_;cases bJ s with
  |nil=>rfl
  |cons c r=>
   by_cases h:c=45
   ·subst h;simp[List.isPrefixOf]
   ·have a:(45==c)=false:=by simpa using fun k=>h k.symm
    simp[List.isPrefixOf,h,a]
 have a:(⟨(Lib.trimPrefix s.data.toList [45]).toArray⟩:ByteArray)=if(bJ s).head? =some 45 then st (bJ s).tail else s:=by
  unfold Lib.trimPrefix;rw[h1];by_cases h:(bJ s).head? =some 45
  ·simp only[h,decide_true,JS];show st ((bJ s).drop 1)=st (bJ s).tail;rw[List.drop_one]
  ·simp only[h,decide_false,B5];rfl
 rw[<-h1,<-a]

theorem kv(s:ByteArray)(hs:s.size<2147483648)(w:World):
  Pure Tryz.prog 179 #[.string s] w fun v _=>∃b t,v= .tuple #[.agg #[.bool b,.string t],.bool (isInt (bJ s))]/\(isInt (bJ s)=true->b=decide (kX (bJ s)<0)/\t=nS (kX (bJ s)).natAbs):=by
 refine F.kv.vc fun w1 _=>pm (Sf s _) ?_
 rintro v n _ rfl;refine⟨_,_,rfl,fun o _=> ?_⟩;obtain⟨t,c⟩:∃t,t=(if(bJ s).head? =some 45 then st (bJ s).tail else s):=⟨_,rfl⟩
 rw[<-c];have g:t.size<2147483648:=by
  rw[c];split
  ·have:(st (bJ s).tail).size=(bJ s).tail.length:=rfl;have:=lB s;simp at*;omega
  ·exact hs
 refine pm (bZ t g _) ?_;rintro v q _ rfl;have l:isNat (bJ t)=true->eS (bJ t)=(kX (bJ s)).natAbs/\t=nS (kX (bJ s)).natAbs:=by
  intro hn;have e:eS (bJ t)=(kX (bJ s)).natAbs:=by
   rw[c];unfold kX;split
   ·simp[oQ]
   ·simp
  refine⟨e,?_⟩;rw[<-e];exact(by rw[<-Ry t];unfold nS;rw[oQ,pO hn]:t=nS (eS (bJ t)))
 have m:isInt (bJ s)=true->decide ((bJ s).head? =some 45)=decide (kX (bJ s)<0):=by
  intro hi;have e:=wz hi
  conv=>lhs;rw[<-e]
  rw[oK];split
  ·rename_i k;simp[k]
  ·rename_i k;simp[k,vg]
 have d:isInt (bJ s)=(isNat (bJ t)&&decide (¬(decide ((bJ s).head? =some 45)=true/\t=(⟨#[48]⟩:ByteArray)/\True))):=by
  unfold isInt;by_cases h:(bJ s).head? =some 45
  ·have i:t=st (bJ s).tail:=by rw[c,bm h]
   rw[bm h,i,oQ]
   congr 1
   by_cases j:(bJ s).tail=[48]
   ·simp[h,j];rfl
   ·have:st (bJ s).tail≠(⟨#[48]⟩:ByteArray):=fun k=>j (CO (k.trans rfl:st (bJ s).tail=st [48]))
    simp[h,j,this]
  ·have i:t=s:=by rw[c,aq h]
   rw[aq h,i];simp[h]
 refine⟨_,rfl,fun h=> ?_,fun h=> ?_⟩
 ·rw[h,zi]at d;have fin:∀w',(fun v (_:World)=>∃b t,v=Value.tuple #[.agg #[.bool b,.string t],.bool (isInt (bJ s))]/\(isInt (bJ s)=true->b=decide (kX (bJ s)<0)/\t=nS (kX (bJ s)).natAbs)) (.tuple #[(.agg #[(.bool (decide ((bJ s).head? =some 45))),(.string t)]),(.bool (decide (¬(decide ((bJ s).head? =some 45)=true/\t=(⟨#[48]⟩:ByteArray)/\True))))]) w':=
   fun w'=>⟨_,_,by rw[d],fun hi=>⟨m hi,(l h).2⟩⟩
  exact⟨fun a _=>fin a,fun a _=>fin a⟩
 ·rw[h,Lu]at d;have fin:∀w',(fun v (_:World)=>∃b t,v=Value.tuple #[.agg #[.bool b,.string t],.bool (isInt (bJ s))]/\(isInt (bJ s)=true->b=decide (kX (bJ s)<0)/\t=nS (kX (bJ s)).natAbs)) (.tuple #[(.agg #[(.bool (decide ((bJ s).head? =some 45))),(.string t)]),(.bool false)]) w':=
   fun w'=>⟨_,_,by rw[d],fun hi=>by rw[d]at hi;cases hi⟩
  exact⟨fun a _=>fin a,fun a _=>fin a⟩

theorem LS{z:Int}(h:z.natAbs<fR):(iS z).size<2147483648:=by
 rw[zS]at h;have k:=IM;have:=jS h om;show(kW z).length<_;omega
theorem uz{z:Int}(h:z.natAbs<fR)(w:World):Pure Tryz.prog 179 #[.string (iS z)] w fun v _=>v= .tuple #[iV z,.bool true]:=by
 refine pm (kv _ (LS h) w) ?_;rintro v c _ ⟨b,t,rfl,a⟩;rw[aeh,xR,sK]at*;obtain⟨rfl,rfl⟩:=a rfl;rfl
theorem jt(s:ByteArray)(hs:s.size<2147483648)(w:World):Pure Tryz.prog 123 #[.string s] w fun v _=>v= .bool (isInt (bJ s)):=by
 refine F.jt.vc (pm (kv s hs w) ?_);rintro v a _ ⟨b,t,rfl,_⟩;exact⟨_,_,_,rfl,fun c _=>rfl⟩

theorem gk{x y:Int}(hx:x.natAbs<fR)(hy:y.natAbs<fR)(w:World):
  Pure Tryz.prog 267 #[.string (iS x),.string (iS y)] w fun v _=>v= .tuple #[iV x,iV y,.int .i64 0]:=by
 refine F.gk.vc fun w1 _=>pm (uz hx _) ?_
 rintro v b _ rfl;refine⟨_,_,_,rfl,fun c _=>pm (uz hy _) ?_⟩;rintro v d _ rfl;exact⟨_,_,_,rfl,fun h=>by simp at h,fun _=>⟨fun h=>by simp at h,fun _=>⟨fun a _=>rfl,fun a _=>rfl⟩⟩⟩
theorem VL:0<fR:=by rw[zS];exact Sp om
theorem jT{x:Int}(hx:x.natAbs<fR)(w:World):
  Pure Tryz.prog 228 #[.string (iS x)] w fun v _=>v= .tuple #[iV x,.int .i64 0]:=by
 refine F.jT.vc fun w1 _=> ?_
 rw[aej];refine pm (gk hx (by simpa using VL) _) ?_;rintro v a _ rfl;exact⟨_,_,_,_,_,rfl,fun b _=>rfl⟩
theorem mL{x:Int}(hx:x.natAbs<fR)(w:World):
  Pure Tryz.prog 305 #[.string (iS x)] w fun v _=>v= .tuple #[.int .i64 x.sign,.int .i64 0]:=by
 refine F.mL.vc (pm (jT hx w) ?_);rintro v a _ rfl;refine⟨_,_,_,rfl,fun b _=>pm (yK _ _) ?_⟩;rintro v c _ rfl;exact⟨_,rfl,rfl⟩
theorem oS{x:Int}(hx:x.natAbs<fR)(w:World):
  Pure Tryz.prog 180 #[.string (iS x)] w fun v _=>v= .tuple #[.string (nS x.natAbs),.int .i64 0]:=by
 refine F.oS.vc (pm (jT hx w) ?_);rintro v a _ rfl;exact⟨_,_,_,rfl,fun h=>absurd rfl h,fun _ b _=>rfl⟩
theorem oU{x:Int}(hx:x.natAbs<fR)(w:World):
  Pure Tryz.prog 358 #[.string (iS x)] w fun v _=>v= .tuple #[.string (iS (-x)),.int .i64 0]:=by
 refine F.oU.vc (pm (jT hx w) ?_);rintro v a _ rfl;refine⟨_,_,_,rfl,fun h=>absurd rfl h,fun _ b _=>pm (sM _ _) ?_⟩;rintro v c _ rfl;refine⟨_,_,rfl,pm (mM (by rw[ZA];exact hx) _) ?_⟩;rintro v d _ rfl;exact⟨_,rfl,rfl⟩
theorem oT{w:World}{x y:Int}(hg:bj w)(hx:x.natAbs<fR)(hy:y.natAbs<fR)(a:(x+y).natAbs<fR):
  Pure Tryz.prog 356 #[.string (iS x),.string (iS y)] w fun v _=>v= .tuple #[.string (iS (x+y)),.int .i64 0]:=by
 refine F.oT.vc (pm (gk hx hy w) ?_);rintro v d b rfl;refine⟨_,_,_,_,_,rfl,fun h=>absurd rfl h,fun _ e c=>pm (yL (hg.next (kE b c)) hx hy) ?_⟩;rintro v g _ rfl;refine⟨_,_,rfl,pm (mM a _) ?_⟩;rintro v i _ rfl;exact⟨_,rfl,rfl⟩
theorem gW{w:World}{x y:Int}(hg:bj w)(hx:x.natAbs<fR)(hy:y.natAbs<fR)(a:(x*y).natAbs<fR):
  Pure Tryz.prog 275 #[.string (iS x),.string (iS y)] w fun v _=>v= .tuple #[.string (iS (x*y)),.int .i64 0]:=by
 refine F.gW.vc (pm (gk hx hy w) ?_);rintro v d b rfl;refine⟨_,_,_,_,_,rfl,fun h=>absurd rfl h,fun _ e c=>pm (EC (hg.next (kE b c)) hx hy) ?_⟩;rintro v g _ rfl;refine⟨_,_,rfl,pm (mM a _) ?_⟩;rintro v i _ rfl;exact⟨_,rfl,rfl⟩
theorem js{w:World}{x y:Int}(hg:bj w)(hx:x.natAbs<fR)(hy:y.natAbs<fR):
  Pure Tryz.prog 276 #[.string (iS x),.string (iS y)] w fun v _=>v= .tuple #[.int .i64 (x - y).sign,.int .i64 0]:=by
 refine F.js.vc (pm (gk hx hy w) ?_);rintro v d a rfl;refine⟨_,_,_,_,_,rfl,fun e c=>pm (sM _ _) ?_⟩;rintro v g b rfl;refine⟨_,_,rfl,pm (yL (hg.next (kP (kE a c) b)) hx (by rw[ZA];exact hy)) ?_⟩;rintro v h _ rfl;refine⟨_,_,rfl,pm (yK _ _) ?_⟩;rintro v i _ rfl;refine⟨_,rfl,?_⟩;rw[Int.sub_eq_add_neg]

theorem Dc{w:World}{x:Int}{d:Nat}(hg:bj w)(hx:x.natAbs<fR)(C:d<fR)(I:d≠0):
  Pure Tryz.prog 365 #[iV x,iV (d:Int)] w fun v _=>v= .tuple #[iV (x / (d:Int)),iV (x % (d:Int))]:=by
 have J:decide ((d:Int)<0)=false:=by simp
 have i:((d:Int)).natAbs=d:=by simp
 have c:(0:Int)<(d:Int):=om;refine F.jD.vc fun w1 D=> ?_
 rw[i];refine pm (iC (hg.next (k0 D)) hx C I) ?_;rintro v N j rfl;have hb:=kP (k0 D) j;have hm:=NB x.natAbs (show 0<d by omega);have K:=KM x.natAbs d;obtain⟨q,l⟩:∃q,q=x.natAbs / d:=⟨_,rfl⟩
 obtain⟨r,m⟩:∃r,r=x.natAbs % d:=⟨_,rfl⟩
 rw[<-l,<-m]at K;rw[<-m]at hm;have o:q<=x.natAbs:=by rw[l];exact Mz _ _
 rw[<-l,<-m];have L:((d*q:Nat):Int)=(d:Int)*(q:Int):=by simp
 have pos:0<=x->x / (d:Int)=(q:Int)/\x % (d:Int)=(r:Int):=fun h=>by
  rw[Vf c];omega
 have y:x<0->r=0->x / (d:Int)= -(q:Int)/\x % (d:Int)=(r:Int):=fun h M=>by
  rw[Vf c,Int.mul_neg];omega
 have z:x<0->r≠0->x / (d:Int)= -((q+1:Nat):Int)/\x % (d:Int)=((d - r:Nat):Int):=fun h M=>by
  have e:(d:Int)*((q+1:Nat):Int)=(d:Int)*(q:Int)+d:=gD;rw[Vf c,Int.mul_neg,e];omega
 refine⟨_,_,_,rfl,fun h=>⟨fun h1=> ?_,fun h1=> ?_⟩,fun h=> ?_⟩
 ·have g:x<0:=by simpa using h
  have A:r≠0:=fun k=>by rw[k,Sd]at h1;exact h1 rfl
  obtain⟨a,b⟩:=z g A;rw[OM];refine pm (ma (hg.next hb) (uQ o hx) ?_) ?_
  ·rw[zS];exact uB om (gb (n:=10) om (show 1<=9*tM by have:=IM;omega))
  rintro v O B rfl;refine⟨_,_,rfl,pm (mc (hg.next (kP hb B)) C (Nat.le_of_lt hm)) ?_⟩;rintro v P _ rfl;refine⟨_,_,rfl,pm (dI _ _ _) ?_⟩;rintro v E _ rfl;refine⟨_,_,rfl,pm (dI _ _ _) ?_⟩;rintro v G _ rfl;refine⟨_,_,rfl,fun H _=> ?_⟩;rw[a,b];simp[g]
 ·have g:x<0:=by simpa using h
  have A:r=0:=by
   apply bB;intro k;rw[Sd]at h1;exact h1 fun e=>k (xS e)
  obtain⟨a,b⟩:=y g A;refine pm (dI _ _ _) ?_;rintro v E _ rfl;refine⟨_,_,rfl,pm (dI _ _ _) ?_⟩;rintro v G _ rfl;refine⟨_,_,rfl,fun H _=> ?_⟩;rw[a,b];simp[g]
 ·have g:¬x<0:=by simpa using h
  obtain⟨a,b⟩:=pos om;refine pm (dI _ _ _) ?_;rintro v E _ rfl;refine⟨_,_,rfl,pm (dI _ _ _) ?_⟩;rintro v G _ rfl;refine⟨_,_,rfl,fun H _=> ?_⟩;rw[a,b];simp[g]

theorem Dd(x:Int)(d:Nat):(x / (d:Int)).natAbs<=x.natAbs:=Int.natAbs_ediv_le_natAbs _ _
theorem jW{w:World}{x:Int}{d:Nat}(hg:bj w)(hx:x.natAbs<fR)(g:d<fR)(i:d≠0):
  Pure Tryz.prog 362 #[.string (iS x),.string (nS d)] w fun v _=>v= .tuple #[.string (iS (x / (d:Int))),.string (nS (x % (d:Int)).toNat),.int .i64 0]:=by
 have a:((d:Int)).natAbs=d:=by simp
 have b:=Int.emod_nonneg x (show(d:Int)≠0 by omega);have j:=Int.emod_lt_of_pos x (show(0:Int)<d by omega);rw[<-qp];refine F.jW.vc (pm (gk hx (by rw[a];exact g) w) ?_);rintro v l c rfl;refine⟨_,_,_,_,_,rfl,fun h=>absurd rfl h,fun _ m k=>pm (kx _) ?_⟩;rintro v n e rfl;refine⟨_,_,rfl,fun h=> ?_,fun _=>pm (Dc (hg.next (kP (kE c k) e)) hx g i) ?_⟩
 ·have:=xS h.2.1;omega
 rintro v o _ rfl;refine⟨_,_,_,_,rfl,fun q _=>pm (mM (uQ (Dd _ _) hx) _) ?_⟩;rintro v r _ rfl;refine⟨_,rfl,pm (mM om _) ?_⟩;rintro v y _ rfl;refine⟨_,rfl,?_⟩;rw[<-qp,QJ b]
end Go.Proofs.YtmdphpnaipbfjaaGreatDoor.B
