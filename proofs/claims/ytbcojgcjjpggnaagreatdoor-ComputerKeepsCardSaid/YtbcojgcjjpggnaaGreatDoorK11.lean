/- Part 11 of the proofs that: What is stowed keeps the problem; lamps change by samples and by seeing alone. -/
import Derived.Test.YtbcojgcjjpggnaaGreatDoorK10
import Derived.Test.YtbcojgcjjpggnaaGreatDoorProg
set_option linter.unusedVariables false
set_option linter.unusedSimpArgs false
namespace Go.Proofs.YtbcojgcjjpggnaaGreatDoor.B
open Go Go.RowKit Go.Proofs Go.Proofs.YtbcojgcjjpggnaaGreatDoor.Vc

structure IX (w:World) (A0:Option Addr) (n0 c0:Nat) (A1:Option Addr) (n1 c1:Nat) (A2:Option Addr) (n2 c2:Nat) (ps:List Pa) (hs:List Ho) (xs:List Rm):Prop where
 c:DU w A0 n0 A1 n1 ps hs
 z0:A0=none->c0=0
 z1:A1=none->c1=0
 r:bR w A2 7 (xs.map Rm.row)
 l:xs.length=n2
 n:n2<9223372036854775808
 k:n2<=c2
 f:∀x∈xs,bR w x.A 1 (x.r.pF.map gi)/\x.r.pF.length=x.n/\x.n<9223372036854775808/\(x.A=none->x.c=0)
def Xi(r:Ru):Bool:=decide (r.name.size<=70/\r.low.size<=40/\r.high.size<=40/\r.pF.length<=8)&&r.pF.all fun s=>decide (s.size<=40)
def Xj(ps:List Pa)(hs:List Ho)(rs:List Ru):Bool:=rs.all Xi&&(YZ ps hs&&decide (rs.length<=17))
section
variable {w w':World} {A0 A1 A2:Option Addr} {n0 c0 n1 c1 n2 c2:Nat} {ps:List Pa} {hs:List Ho} {xs:List Rm}
theorem IX.av(h:IX w A0 n0 c0 A1 n1 c1 A2 n2 c2 ps hs xs)(hb:Below w.heap.size w w'):IX w' A0 n0 c0 A1 n1 c1 A2 n2 c2 ps hs xs:=
 ⟨h.c.av hb,h.z0,h.z1,h.r.av hb lf,h.l,h.n,h.k,fun x hx=>⟨(h.f x hx).1.av hb lf,(h.f x hx).2⟩⟩
theorem IX.Za(h:IX w A0 n0 c0 A1 n1 c1 A2 n2 c2 ps hs xs)(hf:Xj ps hs (dD xs)=true):nP w A0 n0 A1 n1 A2 n2 c2 ps hs xs:=by
 unfold Xj at hf;rw[cz,cz]at hf;obtain⟨h1,e,a⟩:=hf;have a:=fk a;refine⟨h.c.Za e,h.r,h.l,fun x hx=> ?_,by unfold dD at a;rw[eb,h.l]at a;exact a,h.k⟩;have b:=gu.1 h1 x.r (Iq hx);unfold Xi at b;rw[cz]at b;obtain⟨d,g⟩:=b;have d:=fk d;refine⟨(h.f x hx).1,(h.f x hx).2.1,⟨fun s i=> ?_,by unfold mc;omega,by unfold mc;omega,om,dT d.2.2.2 om⟩,(h.f x hx).2.2.2⟩;have:=fk (gu.1 g s i);unfold mc;omega
theorem Lw:El Tryz.prog 37 103 7 96:=El.of kF
theorem aF.z{w:World}{B ty:Nat}{A:Option Addr}{n c sz:Nat}{rows:List (List Value)}(h:aF w B ty A n c sz rows)(a:A=none):c=0:=by
 subst a;rcases h.1.2 with⟨h1,_⟩|⟨g,cap,cur,h1,_⟩
 ·cases h1;rfl
 ·cases h1
def Kq(w w':World):Prop:=∀(i ty:Nat)(cs:Array Value),ty≠103->ty≠39->w.heap[i]? =some (.cells cs ty (0,0))->w'.heap[i]? =some (.cells cs ty (0,0))
theorem Kq.trans{w w1 a:World}(h:Kq w w1)(k:Kq w1 a):Kq w a:=fun i ty cs h1 b e=>k i ty cs h1 b (h i ty cs h1 b e)
theorem Kq.low{w w':World}(h:Below w.heap.size w w'):Kq w w':=fun i ty cs _ _ e=>ag e h
theorem Kq.ext{B:Nat}{w w':World}(x:Ext B [39] w w'):Kq w w':=fun i ty cs _ a e=>by
 rcases x.other i (ax.1 e).1 with q|⟨t,b,c,c',fr,q,_⟩
 ·exact q.trans e
 ·rw[e]at q;cases q;exact absurd (ec.1 b) a
theorem Kq.wrote{w w':World}{b:Nat}{cs a:List Value}(hw:aC w w' b 103 cs)(d:w.heap[b]? =some (.cells a.toArray 103 (0,0))):Kq w w':=fun i ty c h1 _ e=>by
 rw[hw.rest i fun q=> ?_]
 ·exact e
 ·subst q;rw[d]at e;cases e;exact h1 rfl
theorem Kq.grown{w w':World}{B:Nat}{A:Option Addr}{n c sz:Nat}{rows:List (List Value)}(ho:aF w B 103 A n c sz rows)(hg:w.grownBy w' (Value.ownBlock (.slice A n c))):Kq w w':=fun i ty cs h1 _ e=>by
 rw[hg.block i (ax.1 e).1 fun q=> ?_]
 ·exact e
 ·cases A with
  |none=>cases q
  |some a=>
   obtain⟨d,b⟩:=ho.cells a rfl;cases q;rw[e]at b;cases b;exact h1 rfl
theorem aF.kq{w w':World}{B ty:Nat}{A:Option Addr}{n c sz:Nat}{rows:List (List Value)}(h:aF w B ty A n c sz rows)(k:Kq w w')(h1:ty≠103)(b:ty≠39):aF w' B ty A n c sz rows:=
 h.other fun a ha=>by
  obtain⟨cs,e⟩:=h.cells a ha;rw[e];exact k _ _ _ h1 b e
structure IY (w:World) (A0:Option Addr) (n0:Nat) (A1:Option Addr) (n1:Nat) (A2:Option Addr) (n2:Nat) (ps:List Pa) (hs:List Ho) (xs:List Rm):Prop where
 c:xO w A0 n0 A1 n1 ps hs
 r:bR w A2 7 (xs.map Rm.row)
 l:xs.length=n2
 n:n2*96<=140737488355328
 f:∀x∈xs,bR w x.A 1 (x.r.pF.map gi)/\x.r.pF.length=x.n/\x.n*16<=140737488355328/\(x.A=none->x.c=0)
theorem IY.av(h:IY w A0 n0 A1 n1 A2 n2 ps hs xs)(hb:Below w.heap.size w w'):IY w' A0 n0 A1 n1 A2 n2 ps hs xs:=
 ⟨h.c.av hb,h.r.av hb lf,h.l,h.n,fun x hx=>⟨(h.f x hx).1.av hb lf,(h.f x hx).2⟩⟩
theorem nP.fit(h:nP w A0 n0 A1 n1 A2 n2 c2 ps hs xs):IY w A0 n0 A1 n1 A2 n2 ps hs xs:=
 ⟨h.c.fit,h.r,h.l,by have:=h.n;omega,fun x hx=>⟨(h.f x hx).f,(h.f x hx).l,by have:=(h.f x hx).s.len;have:=(h.f x hx).l;omega,(h.f x hx).z⟩⟩
def CpR(B:Nat)(n0 n1 n2:Nat)(ps:List Pa)(hs:List Ho)(xs:List Rm)(v:Value)(w':World):Prop:=
 ∃B0 d0 a d1 b d2 ys,v= .agg #[.slice B0 n0 d0,.slice a n1 d1,.slice b n2 d2]/\aF w' B 111 B0 n0 d0 7 (ps.map Pa.row)/\aF w' B 172 a n1 d1 7 (hs.map Ho.row)/\
  aF w' B 103 b n2 d2 7 (ys.map Rm.row)/\dD ys=dD xs/\∀y∈ys,aF w' B 88 y.A y.n y.c 1 (y.r.pF.map gi)
theorem Et(h:IY w A0 n0 A1 n1 A2 n2 ps hs xs)(O:A0=none->c0=0)(P:A1=none->c1=0):
  Pure Tryz.prog 11 #[.agg #[.slice A0 n0 c0,.slice A1 n1 c1,.slice A2 n2 c2]] w (CpR w.heap.size n0 n1 n2 ps hs xs):=by
 have hl:=h.l;have hn:=h.n;refine F.bY.vc fun w1 x1=> ?_
 have hw:=k0 x1;refine pm (DW (h.av hw).c O P) ?_;rintro v w5 b5 ⟨B0,d0,B1,d1,rfl,o0,o1⟩;have uf:=kP hw b5;refine⟨_,_,_,_,_,_,rfl,fun w6 x6=> ?_⟩;have key:∀(d i:Nat)(C:Option Addr)(no co:Nat)(ys:List Rm)(w':World),n2 - i=d->i<=n2->Below w.heap.size w w'->Kq w5 w'->aF w' w.heap.size 103 C no co 7 (ys.map Rm.row)->dD ys=dD (xs.take i)->(∀y∈ys,aF w' w.heap.size 88 y.A y.n y.c 1 (y.r.pF.map gi))->
   F.bY.L3 i A0 n0 c0 A1 n1 c1 A2 n2 c2 none 0 0 none 0 0 none 0 0 B0 n0 d0 B1 n1 d1 C no co w.heap.size w' (CpR w.heap.size n0 n1 n2 ps hs xs):=by
  intro d;induction d with
  |zero=>
   intro i C no co ys w' hd hi hb M ho b hy;rw[cd om]at b;refine F.bY.L3.step ⟨fun h=>by omega,fun _ FM E=> ?_⟩;have g:=Kq.ext E;have ho:=ho.Nk E dc;have G:no=n2:=by
    have h1:=ho.len;rw[eb]at h1;have:=ca List.length b;unfold dD at this;rw[eb,eb]at this;omega
   subst G;have Vo:ys.length=no:=by have:=ho.len;rwa [eb]at this
   have p0:=o0.kq (M.trans g) dc dc;have p1:=o1.kq (M.trans g) dc dc;exact⟨_,_,_,_,_,_,ys,rfl,p0.base hw.size,p1.base hw.size,ho,b,fun y j=>(hy y j).kq g dc dc⟩
  |succ d ih=>
   intro i C no co ys w' hd hi hb M ho b hy;have Q:i<xs.length:=om;have e3:=sc i;have OX:=h.f _ (bA Q);obtain⟨R,Ny,aoH,S⟩:=OX;have G:no=i:=by
    have h1:=ho.len;rw[eb]at h1;have:=ca List.length b;unfold dD at this;rw[eb,eb,eH]at this;omega
   obtain⟨Qt,a,hA,k,_⟩:=(h.av hb).r.at_ (fun _=>rfl) hl Q;refine F.bY.L3.step ⟨fun _=>⟨Qt,a,hA,_,_,_,_,_,_,_,_,_,k,?_⟩,fun h=>by omega⟩;refine cK (z:= .agg #[.string ⟨#[]⟩,.int .i64 0,.slice none 0 0,.string ⟨#[]⟩,.string ⟨#[]⟩,.int .i64 0,.int .i64 0]) _ kF hb.size fun Ed Gl T l15=> ?_
   refine⟨[.string ⟨#[]⟩,.int .i64 0,.slice none 0 0,.string ⟨#[]⟩,.string ⟨#[]⟩,.int .i64 0,.int .i64 0],_,hb.size,rfl,Gl,sm,rfl,fun e D=> ?_⟩;have U:=kP hb T;have H:Below w.heap.size w e:=U.trans (aC.eD D hb.size);have Tm:Kq w' e:=(Kq.low T).trans (Kq.wrote D Gl);have Vh:aF e w.heap.size 103 C no co 7 (ys.map Rm.row):=(ho.below T).other fun a ha=>D.rest _ fun q=>by
    have:=(ho.uP a ha).2;have q:a.block=w'.heap.size:=q;omega
   refine bc ny [] sm sm H.size fun Af cf CR of I=> ?_
   have V:=kP H I;have W:=ag D.at_ I;refine⟨_,_,_,bz W rfl,?_⟩;refine yF ny (B:=e.heap.size) H.size (by simpa using of) (R.av V lf) (by simpa using Ny) (fun r b=>by obtain⟨s,_,rfl⟩:=gX.1 b;rfl) (fun r b=>by obtain⟨s,_,rfl⟩:=gX.1 b;intro u hu;simp[gi]at hu;subst hu;rfl) S I.size (by simp;omega) (by simp;omega) dc fun Ag cg Eo X gg bg=> ?_
   simp only[vu,jx,rT]at X⊢;have N:Below e.heap.size e Eo:=I.trans (RY (B:=e.heap.size) (by simpa using of) gg I.size);have Y:=kP H N;have Xk:=ag D.at_ N;have Z:=Vh.below N;have e2:(⟨w'.heap.size,0,none⟩:Addr).add 2=⟨w'.heap.size,2,none⟩:=by rw[bU]
   rw[e2];refine⟨_,_,hb.size,rfl,Xk,by simp[setCells],rfl,fun Oa J=> ?_⟩;have K:Below w.heap.size w Oa:=Y.trans (aC.eD J hb.size);have ZX:Kq e Oa:=(Kq.low N).trans (Kq.wrote J Xk);have L:aF Oa w.heap.size 103 C no co 7 (ys.map Rm.row):=Z.other fun a ha=>J.rest _ fun q=>by
    have:=(ho.uP a ha).2;have q:a.block=w'.heap.size:=q;omega
   have ais:=X.other fun a ha=>J.rest _ fun q=>by
    have:=(X.uP a ha).1;have q:a.block=w'.heap.size:=q;have:=D.size;omega
   refine⟨_,_,_,_,_,_,_,_,_,eY J.at_,?_⟩;refine QG Lw lf L (x:=Rm.val ⟨xs[i].r,Ag,xs[i].n,cg⟩) rfl (by simp[Value.cells,bo]) K.size om om dc fun A3 c3 w43 o43 g43 Zm=>⟨ir,fun w44 m=> ?_⟩
   have k43:=Kq.grown L g43;have o:=(k43.trans (Kq.ext m));rw[e3];refine ih (i+1) A3 (no+1) c3 (ys++[⟨xs[i].r,Ag,xs[i].n,cg⟩]) w44 om om (kE (K.trans Zm) m) (((M.trans Tm).trans ZX).trans o) ?_ ?_ ?_
   ·rw[eL];exact o43.Nk m dc
   ·rw[<-AH Q,<-b];unfold dD;rw[eL];rfl
   ·intro y j;rcases ga.1 j with j|j
    ·exact(hy y j).kq ((Tm.trans ZX).trans o) dc dc
    ·rw[ec.1 j];exact(ais.kq o dc dc).base H.size
 exact key n2 0 none 0 0 [] w6 rfl om (kE uf x6) (Kq.low (Mk x6)) aF.nil rfl sm
theorem RZ(h:nP w A0 n0 A1 n1 A2 n2 c2 ps hs xs)(b:A0=none->c0=0)(d:A1=none->c1=0):
  Pure Tryz.prog 11 #[.agg #[.slice A0 n0 c0,.slice A1 n1 c1,.slice A2 n2 c2]] w fun v w'=>∃B0 d0 a d1 g d2 ys,v= .agg #[.slice B0 n0 d0,.slice a n1 d1,.slice g n2 d2]/\nP w' B0 n0 a n1 g n2 d2 ps hs ys/\dD ys=dD xs/\aF w' w.heap.size 172 a n1 d1 7 (hs.map Ho.row):=by
 refine pm (Et h.fit b d) ?_;rintro v w' _ ⟨B0,d0,a,d1,g,d2,ys,rfl,k,j,i,e,of⟩;have l:ys.length=n2:=by have:=i.len;rwa [eb]at this
 refine⟨_,_,_,_,_,_,ys,rfl,⟨⟨k.sl,j.sl,h.c.lp,h.c.lh,h.c.sp,h.c.sh,h.c.np,h.c.nh⟩,i.sl,l,fun y hy=> ?_,h.n,i.ic⟩,e,j⟩;have hm:y.r∈dD xs:=by rw[<-e];exact Iq hy
 obtain⟨x,hx,ex⟩:=gX.1 hm;have ho:=of y hy;have:=ho.len;rw[eb]at this;exact⟨ho.sl,this,by rw[<-ex];exact(h.f x hx).s,ho.z⟩
end

theorem bH.low{ty:Nat}{w w':World}(hb:Below w.heap.size w w'):bH ty w w':=fun _ _ _ _ _ a=>ag a hb
theorem bH.ext{B ty:Nat}{w w':World}(x:Ext B [ty] w w'):bH ty w w':=fun q t cs fr a b=>by
 rcases x.other q (ax.1 b).1 with e|⟨h,d,c,c',g,e,_⟩
 ·exact e.trans b
 ·rw[b]at e;cases e;exact absurd (ec.1 d) a
theorem bH.trans{ty:Nat}{w w1 b:World}(s:bH ty w w1)(t:bH ty w1 b):bH ty w b:=fun q u cs fr a d=>t q u cs fr a (s q u cs fr a d)
theorem R1(l:List Pa):(∀r∈l.map Pa.row,r.length=7)/\∀r∈l.map Pa.row,∀u∈r,bo u=true:=fg (fun _=>rfl) (fun x u h=>by simp only[Pa.row,cy,fX,tu]at h;rcases h with rfl|rfl|rfl|rfl|rfl|rfl|rfl<;>rfl)
theorem R2(l:List Ho):(∀r∈l.map Ho.row,r.length=7)/\∀r∈l.map Ho.row,∀u∈r,bo u=true:=fg (fun _=>rfl) (fun x u h=>by simp only[Ho.row,cy,fX,tu]at h;rcases h with rfl|rfl|rfl|rfl|rfl|rfl|rfl<;>rfl)
theorem R3(l:List Rm):(∀r∈l.map Rm.row,r.length=7)/\∀r∈l.map Rm.row,∀u∈r,bo u=true:=fg (fun _=>rfl) (fun x u h=>by simp only[Rm.row,cy,fX,tu]at h;rcases h with rfl|rfl|rfl|rfl|rfl|rfl|rfl<;>rfl)
section
variable {w:World} {A:Option Addr} {n c:Nat} {k:Ca} {xs:List Rm} {x:Cm}
theorem Vp{l:List Pa}(h:bR w A 7 (l.map Pa.row))(hlen:l.length=n)(hn:n<=1000000):
  Pure Tryz.prog 124 #[.slice A n c] w fun v w'=>∃A' c',v= .slice A' n c'/\aF w' w.heap.size 111 A' n c' 7 (l.map Pa.row):=
 F.dZ.vc (gz (R:=fun v w'=>∃A' c',v= .slice A' n c'/\aF w' w.heap.size 111 A' n c' 7 (l.map Pa.row)) FX h (by simpa using hlen) (R1 l).1 (R1 l).2 om fun A' c' w' o=>⟨A',c',rfl,o⟩)
theorem Vq{l:List Ho}(h:bR w A 7 (l.map Ho.row))(hlen:l.length=n)(hn:n<=1000000):
  Pure Tryz.prog 125 #[.slice A n c] w fun v w'=>∃A' c',v= .slice A' n c'/\aF w' w.heap.size 172 A' n c' 7 (l.map Ho.row):=
 F.fc.vc (gz (R:=fun v w'=>∃A' c',v= .slice A' n c'/\aF w' w.heap.size 172 A' n c' 7 (l.map Ho.row)) FY h (by simpa using hlen) (R2 l).1 (R2 l).2 om fun A' c' w' o=>⟨A',c',rfl,o⟩)
theorem Vr{l:List Rm}(h:bR w A 7 (l.map Rm.row))(hlen:l.length=n)(hn:n<=1000000):
  Pure Tryz.prog 126 #[.slice A n c] w fun v w'=>∃A' c',v= .slice A' n c'/\aF w' w.heap.size 103 A' n c' 7 (l.map Rm.row):=
 F.fe.vc (gz (R:=fun v w'=>∃A' c',v= .slice A' n c'/\aF w' w.heap.size 103 A' n c' 7 (l.map Rm.row)) Lw h (by simpa using hlen) (R3 l).1 (R3 l).2 om fun A' c' w' o=>⟨A',c',rfl,o⟩)
theorem Gx(l:List Sw):(∀r∈l.map Sw.row,r.length=3)/\∀r∈l.map Sw.row,∀u∈r,bo u=true:=fg (fun _=>rfl) (fun x u h=>by simp only[Sw.row,cy,fX,tu]at h;rcases h with rfl|rfl|rfl<;>rfl)
theorem Vs{l:List Sw}(h:bR w A 3 (l.map Sw.row))(hlen:l.length=n)(hn:n<=1000000):
  Pure Tryz.prog 128 #[.slice A n c] w fun v w'=>∃A' c',v= .slice A' n c'/\aF w' w.heap.size 57 A' n c' 3 (l.map Sw.row):=
 F.ff.vc (gz (R:=fun v w'=>∃A' c',v= .slice A' n c'/\aF w' w.heap.size 57 A' n c' 3 (l.map Sw.row)) RV h (by simpa using hlen) (Gx l).1 (Gx l).2 om fun A' c' w' o=>⟨A',c',rfl,o⟩)
theorem IZ(h:uC w k xs x)(ok:dI x):
  Pure Tryz.prog 61 #[k.val x] w fun v w'=>∃D T,v=D.val x/\dW w' w.heap.size D T x:=by
 have lp:=ok.lp;have lh:=ok.lh;have lr:=ok.lr;have ls:=ok.ls;have lw:=ok.lw;have lc:=ok.lc;have lv:=ok.lv;have la:=ok.la;have ll:=ok.ll;have lg:=ok.lg;have lq:=ok.lq;have np:=h.np;have nh:=h.nh;have nr:=h.nr;have ns:=h.ns;have nw:=h.nw;have nc:=h.nc;have nv:=h.nv;have na:=h.na;have nl:=h.nl;have ng:=h.ng;have nq:=h.nq;have nx:xs.length=k.r.n:=by rw[<-nr,<-h.e,eb]
 refine F.cX.vc fun w1 x1=>pm (Vp (h.p.below (k0 x1)) np om) ?_
 have dM:=k0 x1;rintro v w4 b4 ⟨A2,c2,rfl,E⟩;have U:=kP dM b4;refine⟨_,_,_,rfl,pm (Vq (h.h.below U) nh om) ?_⟩;rintro v w7 b7 ⟨A5,c5,rfl,G⟩;have V:=kP U b7;refine⟨_,_,_,rfl,pm (Vr (h.r.below V) nx om) ?_⟩;rintro v jK W ⟨X,Y,rfl,m⟩;have sI:=kP V W;refine⟨_,_,_,rfl,fun wO GV=> ?_⟩;have tV:=kE sI GV;have z:bH 49 jK wO:=bH.ext GV;have key:∀(d i:Nat)(ys:List Rm)(w':World),k.r.n - i=d->i<=k.r.n->Below w.heap.size w w'->ys.length=i->dD ys=dD (xs.take i)->aF w' w.heap.size 111 A2 k.p.n c2 7 (x.ps.map Pa.row)->aF w' w.heap.size 172 A5 k.h.n c5 7 (x.hs.map Ho.row)->
   aF w' w.heap.size 103 X k.r.n Y 7 ((ys++xs.drop i).map Rm.row)->(∀y∈ys,ZU w' w.heap.size y)->
   F.cX.L4 k.r.n i A2 k.p.n c2 A5 k.h.n c5 X k.r.n Y k.s.A k.s.n k.s.c k.w.A k.w.n k.w.c x.cF k.c.A k.c.n k.c.c k.v.A k.v.n k.v.c k.a.A k.a.n k.a.c k.l.A k.l.n k.l.c k.g.A k.g.n k.g.c k.q.A k.q.n k.q.c x.last x.tick none 0 0 none 0 0 none 0 0 none 0 0 none 0 0 0 none 0 0 none 0 0 none 0 0 none 0 0 none 0 0 none 0 0 0 0 w.heap.size w' (fun v w'=>∃D T,v=D.val x/\dW w' w.heap.size D T x):=by
  intro d;induction d with
  |zero=>
   intro i ys w' hd hi hb H Q E G m of;have tz:i=k.r.n:=om;rw[de om,u1]at m;rw[cd om]at Q;refine F.cX.L4.step ⟨fun q=>by omega,fun _ tG Og=> ?_⟩;have Z:=kE hb Og;have s22:bH 49 w' tG:=bH.low (extAll Og);refine pm (F5 (h.s.below Z) ns om) ?_;rintro v UD Ju ⟨A23,c23,rfl,o23⟩;have rA:=kP Z Ju;refine⟨_,_,_,rfl,pm (Vs (h.pl.below rA) nw om) ?_⟩;rintro v zS OW ⟨A26,c26,rfl,B⟩;have tD:=kP rA OW;refine⟨_,_,_,rfl,fun FC I=> ?_⟩;have QY:=kE tD I;have YG:bH 49 zS FC:=bH.ext I;refine pm (UN (h.c.below QY) nc om) ?_;rintro v Ua ZD ⟨A30,c30,rfl,o30⟩;have Gw:=kP QY ZD;refine⟨_,_,_,rfl,pm (Mu (h.v.below Gw) nv om) ?_⟩;rintro v w35 To ⟨A33,c33,rfl,o33⟩;have Dq:=kP Gw To;refine⟨_,_,_,rfl,fun w36 J=> ?_⟩;have C:=kE Dq J;have s36:bH 49 w35 w36:=bH.ext J;refine pm (Mt (h.a.below C) na om) ?_;rintro v w39 K ⟨A37,c37,rfl,o37⟩;have R4:=kP C K;refine⟨_,_,_,rfl,pm (AE (h.l.below R4) nl om) ?_⟩;rintro v w42 L ⟨A40,c40,rfl,Eh⟩;have Oh:=kP R4 L;refine⟨_,_,_,rfl,fun w43 M=> ?_⟩;have Lx:=kE Oh M;have s43:bH 49 w42 w43:=bH.ext M;refine pm (UL (h.g.below Lx) ng om) ?_;rintro v w46 N ⟨A44,c44,rfl,Lv⟩;have R5:=kP Lx N;refine⟨_,_,_,rfl,pm (UM (h.q.below R5) nq om) ?_⟩;rintro v WE Xl ⟨A47,c47,rfl,o47⟩;have Ly:=kP R5 Xl;refine⟨_,_,_,rfl,fun Xm x50=> ?_⟩;have Td:bH 49 WE Xm:=bH.ext x50;have t46:=(bH.low Xl).trans Td;have t42:=(s43.trans (bH.low N)).trans t46;have t39:=(bH.low L).trans t42;have t35:=(s36.trans (bH.low K)).trans t39;have t32:=(bH.low To).trans t35;have t28:=(YG.trans (bH.low ZD)).trans t32;have t25:=(bH.low OW).trans t28;have t0:=(s22.trans (bH.low Ju)).trans t25;refine⟨⟨⟨A2,k.p.n,c2⟩,⟨A5,k.h.n,c5⟩,⟨X,k.r.n,Y⟩,⟨A23,k.s.n,c23⟩,⟨A26,k.w.n,c26⟩,⟨A30,k.c.n,c30⟩,⟨A33,k.v.n,c33⟩,⟨A37,k.a.n,c37⟩,⟨A40,k.l.n,c40⟩,⟨A44,k.g.n,c44⟩,⟨A47,k.q.n,c47⟩⟩,ys,rfl,?_⟩;exact⟨E.bW t0 dc,G.bW t0 dc,m.bW t0 dc,fun y hy=>⟨(of y hy).o.bW t0 dc⟩,Q.trans h.e,(o23.bW t25 dc).base Z.size,((B.bW t28 dc).base rA.size).slT,nw,⟨B.ic,B.pM⟩,(o30.bW t32 dc).base QY.size,(o33.bW t35 dc).base Gw.size,(o37.bW t39 dc).base C.size,
    (Eh.bW t42 dc).base R4.size,(Lv.bW t46 dc).base Lx.size,(o47.bW Td dc).base R5.size⟩
  |succ d ih=>
   intro i ys w' hd hi hb H Q E G m of;have cn:i<xs.length:=om;have R:=h.f _ (bA cn);have hlen:(ys++xs.drop i).length=k.r.n:=by rw[en,sH];omega
   have Vt:(ys++xs.drop i)[i]'om=xs[i]:=by rw[List.getElem_append_right om];simp[H]
   obtain⟨q1,a,q2,_,q3⟩:=m.sl.at_ (row:=Rm.row) (fun _=>rfl) hlen (i:=i) om;rw[Vt]at q3;refine F.cX.L4.step ⟨fun _=>⟨q1,a,q2,_,_,_,q3 2 _ rfl,fun GO O=> ?_⟩,fun q=>by omega⟩;have Ab:=kE hb O;have sl:=R.s.len;have fl:=R.l;refine pm (MG (R.f.below Ab) R.l om) ?_;rintro v Di P ⟨b,j,rfl,o15⟩;have Lq:=kP Ab P;have o8':=(m.below (extAll O)).below P;obtain⟨p1,a',p2,cs,r1,r2,r3,r4,r5⟩:=o8'.set (i:=(i:Int)) q1.1 q1.2 2 [.slice b xs[i].n j] (Rm.row xs[i]) (by
    rw[cc,hM,af om,Vt];rfl) sm
   refine⟨_,_,_,rfl,p1,a',p2,cs,_,r1,r2,r3,r4,rfl,fun Ee vx=>⟨ir,?_⟩⟩;have aeb:=Lq.trans (aC.eD vx r1);have S:=bH.wrote vx r3;rw[show(i:Int)+1=((i+1:Nat):Int) by omega];refine ih (i+1) (ys++[⟨xs[i].r,b,xs[i].n,j⟩]) Ee om om aeb (by simp[H]) ?_ (((E.below (extAll O)).below P).bW S dc) (((G.below (extAll O)).below P).bW S dc) ?_ ?_
   ·rw[<-AH cn,<-Q];unfold dD;rw[eL];rfl
   ·have o:=r5 Ee vx;rw[cc]at o;have e:((ys++xs.drop i).map Rm.row).set i (setCells (Rm.row xs[i]) 2 [.slice b xs[i].n j])=((ys++[(⟨xs[i].r,b,xs[i].n,j⟩:Rm)])++xs.drop (i+1)).map Rm.row:=by
     rw[dp cn,eL,wV _ _ (by simp[H]),yq,eb,H,IS,IW,ky,eL];rfl
    rw[e]at o;exact o
   ·intro y hy;rcases ga.1 hy with hy|hy
    ·exact⟨(((of y hy).o.below (extAll O)).below P).bW S dc⟩
    ·rw[ec.1 hy];exact⟨(o15.bW S dc).base Ab.size⟩
 refine key k.r.n 0 [] wO rfl om tV rfl rfl ?_ ?_ ?_ sm
 ·exact(((E.below b7).below W).bW z dc).base dM.size
 ·exact((G.below W).bW z dc).base U.size
 ·exact(m.bW z dc).base V.size
end

def jh(x:Cm)(e:Ev):Cm×Int:=match e.nums,e.gj,e.texts with
 |[a],[g,o,l,h,r],[n]=>
  if(iN (x.iW++[⟨a,n,g,o,l,h,r⟩])).2≠0 then(x,(iN (x.iW++[⟨a,n,g,o,l,h,r⟩])).2)
  else({x with iW:=x.iW++[⟨a,n,g,o,l,h,r⟩],sS:=x.sS++[⟨a,0,0,⟨#[48]⟩⟩]},0)
 |_,_,_=>(x,1)
def pO(x:Cm)(e:Ev):Cm×Int:=match e.nums,e.gj,e.texts with
 |[a,c,p,d,z],[s,r],[t]=>
  if z≠0/\z≠1 then(x,1)
  else if(sM (x.fK++[⟨a,c,p,d,decide (z=1),s,r,t⟩])).2≠0 then(x,(sM (x.fK++[⟨a,c,p,d,decide (z=1),s,r,t⟩])).2)
  else({x with fK:=x.fK++[⟨a,c,p,d,decide (z=1),s,r,t⟩],dj:=x.dj++[⟨a,0,e.tick⟩]},0)
 |_,_,_=>(x,1)
section
variable {w0 w:World} {b:Nat} {k:Ca} {xs:List Rm} {x:Cm} {ea:Ea} {e:Ev}
theorem Oi(hg:bk w0)(hb:Below w0.heap.size w0 w)(h:Wk w w0.heap.size b k xs x)(ok:dI x)(he:pN w0 ea e)(hn:e.nums.length=3)(W:e.texts.length=3):
  cI Tryz.prog 113 #[.pointer (some ⟨b,0,none⟩),ea.val e] w0.heap.size w (Lo (qT x e) w0.heap.size b):=by
 obtain⟨id,tick,kind,nums,gj,texts⟩:=e;obtain⟨kd,a,c,rfl⟩:=Vi hn;obtain⟨n,lo,hi,rfl⟩:=Vi W;have sr:=he.sr;have mr:=he.mr;have st:=he.st;simp only[cy,fX,tu,LV,Tn]at st;unfold qT;dsimp only;have lr:=ok.lr;have ls:=ok.ls;have lp:=ok.lp;have lh:=ok.lh;refine F.qN.vo hb.size fun w1 P=> ?_
 have Q:=kE hb P;have h1:=h.below (extAll P);have A:=he.av Q;have D:=fun(i:Nat) (hi:i<3)=>A.n.at_ (row:=fE) (fun _=>rfl) A.ln (i:=i) hi
 have E:=fun(i:Nat) (hi:i<3)=>A.t.at_ (row:=gi) (fun _=>rfl) A.lt (i:=i) hi
 obtain⟨p1,X,q1,c1,_⟩:=E 0 om;obtain⟨p2,a2,Y,c2,_⟩:=D 0 om;obtain⟨p3,a3,Z,c3,_⟩:=E 1 om;obtain⟨p4,a4,q4,c4,_⟩:=E 2 om;obtain⟨p5,a5,q5,c5,_⟩:=D 1 om;obtain⟨p6,a6,q6,c6,_⟩:=D 2 om;refine⟨_,_,_,bj h1.box 2 1,p1,X,q1,_,c1,p2,a2,Y,_,c2,p3,a3,Z,_,c3,p4,a4,q4,_,c4,p5,a5,q5,_,c5,p6,a6,q6,_,c6,fun Ed R=> ?_⟩;have Gl:=h1.below (extAll R);have G:=kE Q R;have C:=he.av G;refine pm (MG C.r C.lr (by have:=C.lr;show ea.r.n<=_;have:gj.length=ea.r.n:=C.lr;omega)) ?_;rintro v Kv S ⟨H,I,rfl,J⟩;have d:=Gl.below S;have l:=kP G S;have J:=J.base (B:=w0.heap.size) G.size;have nr:=d.o.r.rows;have T:=d.o.e;have nrs:xs.length=x.rs.length:=by rw[<-T,eb]
 refine⟨_,_,_,rfl,jg Lw d.o.r (val:= .agg #[.string n,.int .i64 kd,.slice H ea.r.n I,.string lo,.string hi,.int .i64 a,.int .i64 c]) rfl (by simp[Value.cells,bo]) l.size om dc fun A' c' Ce K j OY=> ?_⟩;have U:=j _ _ _ _ dc d.box;refine dX U d.hB 2 1 (by show 3<=14;omega) rfl fun Eo L=> ?_
 have V:=(l.trans OY).trans (aC.eD L d.hB);have Ti:=bH.wrote L U;obtain⟨g1,g2,_,g4,g5,g6,g7,g8,g9,g10,g11,g12⟩:=d.o.Ln j;have f24:=g4 dc;have M:dW Ce w0.heap.size {k with r:=⟨A',k.r.n+1,c'⟩} (xs++[⟨⟨n,kd,gj,lo,hi,a,c⟩,H,ea.r.n,I⟩]) {x with rs:=x.rs++[⟨n,kd,gj,lo,hi,a,c⟩]}:=
  ⟨g1 dc,g2 dc,by rw[eL];exact K,fun y hy=>by
   rcases ga.1 hy with hy|hy
   ·exact f24 y hy
   ·rw[ec.1 hy];exact⟨J.bW j dc⟩,by show List.map Rm.r (xs++_)=_;rw[eL];show dD xs++_=_;rw[T];rfl,g5 dc,g6 dc,d.o.nw,d.o.cw,g7 dc,g8 dc,g9 dc,g10 dc,g11 dc,g12 dc⟩
 have g:Wk Eo w0.heap.size b {k with r:=⟨A',k.r.n+1,c'⟩} (xs++[⟨⟨n,kd,gj,lo,hi,a,c⟩,H,ea.r.n,I⟩]) {x with rs:=x.rs++[⟨n,kd,gj,lo,hi,a,c⟩]}:=⟨L.at_,d.hB,M.bW Ti⟩;have m:∀y∈x.rs++[(⟨n,kd,gj,lo,hi,a,c⟩:Ru)],Rj y:=fun y hy=>by
  rcases ga.1 hy with hy|hy
  ·exact ok.sr y hy
  ·rw[ec.1 hy];exact⟨fun s hs=>by have:=sr s hs;show s.size<=1000;omega,by show lo.size<=1000;omega,by show hi.size<=1000;omega,by show n.size<_;omega,mr⟩
 have q:(x.rs++[(⟨n,kd,gj,lo,hi,a,c⟩:Ru)]).length<=17:=by rw[en];simp;omega
 have i27:=g.o.AI m;refine⟨_,_,_,_,_,_,_,_,_,bj g.box 0 3,pm (wW (hg.next V) (i27.pr ok.sp ok.sh (by show x.ps.length<=7;omega) (by show x.hs.length<=7;omega) q)) ?_⟩;rw[i27.e];rintro v Js N rfl;refine⟨_,_,rfl,fun z=> ?_,fun O=> ?_⟩
 ·rw[bm z];exact⟨rfl,fun O=>absurd O z⟩
 rw[aq O];refine pm (u7 (hg.next (kP V N)) (g.below N) m ok.sp ok.sh (by show x.ps.length<=7;omega) (by show x.hs.length<=7;omega) q (by show x.cE.length<=40;omega)) ?_;rintro v QS NI rfl;exact⟨_,rfl,rfl,fun _=>⟨_,_,(g.below N).below NI⟩⟩
theorem Gy(hg:bk w0)(hb:Below w0.heap.size w0 w)(h:Wk w w0.heap.size b k xs x)(ok:dI x)(he:pN w0 ea e)(hn:e.nums.length=1)(hr:e.gj.length=5)(ht:e.texts.length=1):
  cI Tryz.prog 114 #[.pointer (some ⟨b,0,none⟩),ea.val e] w0.heap.size w (Lo (jh x e) w0.heap.size b):=by
 obtain⟨id,tick,kind,nums,gj,texts⟩:=e;obtain⟨a,rfl⟩:=Cz hn;obtain⟨g,o,l,m,r,rfl⟩:=ZV hr;obtain⟨n,rfl⟩:=Cz ht;have sr:=he.sr;have st:=he.st;simp only[cy,fX,tu,LV,Tn]at sr st;unfold jh;dsimp only;have lc:=ok.lc;have lv:=ok.lv;refine F.mV.vo hb.size fun w1 Q=> ?_
 have R:=kE hb Q;have h1:=h.below (extAll Q);have q:=he.av R;have z:=fun(i:Nat) (hi:i<5)=>q.r.at_ (row:=gi) (fun _=>rfl) q.lr (i:=i) hi
 obtain⟨p1,I,q1,c1,_⟩:=q.n.at_ (row:=fE) (fun _=>rfl) q.ln (i:=0) sm;obtain⟨p2,a2,q2,c2,_⟩:=q.t.at_ (row:=gi) (fun _=>rfl) q.lt (i:=0) sm;obtain⟨p3,a3,q3,c3,_⟩:=z 0 om;obtain⟨p4,a4,q4,c4,_⟩:=z 1 om;obtain⟨p5,a5,q5,c5,_⟩:=z 2 om;obtain⟨p6,a6,q6,c6,_⟩:=z 3 om;obtain⟨p7,a7,q7,c7,_⟩:=z 4 om;refine⟨_,_,_,bj h1.box 6 1,p1,I,q1,_,c1,p2,a2,q2,_,c2,p3,a3,q3,_,c3,p4,a4,q4,_,c4,p5,a5,q5,_,c5,p6,a6,q6,_,c6,p7,a7,q7,_,c7,fun Di S=> ?_⟩;have d:=h1.below (extAll S);have T:=kE R S;have nc:=d.o.c.rows;have nv:=d.o.v.rows;refine jg KW d.o.c (val:= .agg #[.int .i64 a,.string n,.string g,.string o,.string l,.string m,.string r]) rfl (by simp[Value.cells,bo]) T.size om dc fun A' c' CR J A CT=> ?_
 have U:=A _ _ _ _ dc d.box;refine dX U d.hB 6 1 (by show 7<=14;omega) rfl fun Ih K=> ?_
 have V:=(T.trans CT).trans (aC.eD K d.hB);have Zj:=bH.wrote K U;obtain⟨g1,g2,g3,g4,g5,g6,_,g8,g9,g10,g11,g12⟩:=d.o.Ln A;have ZW:dW CR w0.heap.size {k with c:=⟨A',k.c.n+1,c'⟩} xs {x with iW:=x.iW++[⟨a,n,g,o,l,m,r⟩]}:=
  ⟨g1 dc,g2 dc,g3 dc,g4 dc,d.o.e,g5 dc,g6 dc,d.o.nw,d.o.cw,by rw[eL];exact J,g8 dc,g9 dc,g10 dc,g11 dc,g12 dc⟩
 have H:Wk Ih w0.heap.size b {k with c:=⟨A',k.c.n+1,c'⟩} xs {x with iW:=x.iW++[⟨a,n,g,o,l,m,r⟩]}:=⟨K.at_,d.hB,ZW.bW Zj⟩;have sc:∀y∈x.iW++[(⟨a,n,g,o,l,m,r⟩:Ch)],Jv y:=fun y hy=>by
  rcases ga.1 hy with hy|hy
  ·exact ok.sc y hy
  ·rw[ec.1 hy];exact⟨by show n.size<_;omega,by show g.size<=1000;omega,by show o.size<=1000;omega,by show l.size<=1000;omega,by show m.size<=1000;omega,by show r.size<=1000;omega⟩
 have L:=H.o.c.rows;refine⟨_,_,_,bj H.box 6 1,pm (df (hg.next V) H.o.c.sl L sc) ?_⟩;rintro v WY W rfl;have B:=H.below W;have X:=kP V W;have C:=he.av X;refine⟨_,_,rfl,fun D=> ?_,fun M=> ?_⟩
 ·rw[bm D];exact⟨rfl,fun M=>absurd M D⟩
 rw[aq M];obtain⟨p1,I,q1,c1,_⟩:=C.n.at_ (row:=fE) (fun _=>rfl) C.ln (i:=0) sm;refine⟨_,_,_,bj B.box 7 1,p1,I,q1,_,c1,fun w35 E=> ?_⟩;have j:=B.below (extAll E);have Dq:=kE X E;refine jg KV j.o.v (val:= .agg #[.int .i64 a,.int .i64 0,.int .i64 0,.string ⟨#[48]⟩]) rfl (by simp[Value.cells,bo]) Dq.size (by show(k.v.n+1)*_<=_;omega) dc fun A2 c2 SZ N G b41=> ?_
 have Y:=G _ _ _ _ dc j.box;refine dX Y j.hB 7 1 (by show 8<=14;omega) rfl fun w44 Z=> ?_
 have O:=bH.wrote Z Y;obtain⟨g1,g2,g3,g4,g5,g6,g7,_,g9,g10,g11,g12⟩:=j.o.Ln G;have P:dW SZ w0.heap.size {k with c:=⟨A',k.c.n+1,c'⟩,v:=⟨A2,k.v.n+1,c2⟩} xs {x with iW:=x.iW++[⟨a,n,g,o,l,m,r⟩],sS:=x.sS++[⟨a,0,0,⟨#[48]⟩⟩]}:=
  ⟨g1 dc,g2 dc,g3 dc,g4 dc,j.o.e,g5 dc,g6 dc,j.o.nw,j.o.cw,g7 dc,by rw[eL];exact N,g9 dc,g10 dc,g11 dc,g12 dc⟩
 exact⟨rfl,fun _=>⟨{k with c:=⟨A',k.c.n+1,c'⟩,v:=⟨A2,k.v.n+1,c2⟩},xs,Z.at_,j.hB,P.bW O⟩⟩
theorem Ol(hg:bk w0)(hb:Below w0.heap.size w0 w)(h:Wk w w0.heap.size b k xs x)(ok:dI x)(he:pN w0 ea e)(hn:e.nums.length=5)(hr:e.gj.length=2)(ht:e.texts.length=1):
  cI Tryz.prog 115 #[.pointer (some ⟨b,0,none⟩),ea.val e] w0.heap.size w (Lo (pO x e) w0.heap.size b):=by
 obtain⟨id,tick,kind,nums,gj,texts⟩:=e;obtain⟨a,c,p,d,z,rfl⟩:=ZV hn;obtain⟨s,r,rfl⟩:=Kp hr;obtain⟨t,rfl⟩:=Cz ht;have sr:=he.sr;have st:=he.st;simp only[cy,fX,tu,LV,Tn]at sr st;unfold pO;dsimp only;have la:=ok.la;have ll:=ok.ll;have na:=h.o.a.rows;have nl:=h.o.l.rows;have A:=fun {w':World} (xN:Below w0.heap.size w0 w') (i:Nat) (hi:i<5)=>(he.av xN).n.at_ (row:=fE) (fun _=>rfl) he.ln (i:=i) hi
 obtain⟨J,a0,I,_,_⟩:=A hb 4 om;refine F.qO.vo hb.size ⟨J,a0,I,fun w2 U=> ?_⟩;have V:=h.below (extAll U);have B:=kE hb U;have g:=he.av B;obtain⟨p5,a5,W,c5,_⟩:=A B 4 om;rw[I]at W;cases W;refine⟨_,c5,fun z0=>⟨J,a0,I,_,c5,fun z1=> ?_,fun z1=> ?_⟩,fun z0=> ?_⟩
 ·rw[bm ⟨z0,z1⟩];exact⟨rfl,fun h=>absurd (show(1:Int)=0 from h) dc⟩
 all_goals
  rw[aq (by
   first
    |exact fun k=>z1 k.2
    |exact fun k=>z0 k.1)]
  obtain⟨p1,K,q1,c1,_⟩:=A B 0 om;obtain⟨p2,a2,q2,c2,_⟩:=A B 1 om;obtain⟨p3,a3,q3,c3,_⟩:=A B 2 om;obtain⟨p4,a4,q4,c4,_⟩:=A B 3 om;obtain⟨p6,a6,q6,c6,_⟩:=g.r.at_ (row:=gi) (fun _=>rfl) g.lr (i:=0) sm;obtain⟨p7,a7,q7,c7,_⟩:=g.r.at_ (row:=gi) (fun _=>rfl) g.lr (i:=1) sm;obtain⟨p8,a8,q8,c8,_⟩:=g.t.at_ (row:=gi) (fun _=>rfl) g.lt (i:=0) sm;refine⟨_,_,_,bj V.box 8 1,p1,K,q1,_,c1,p2,a2,q2,_,c2,p3,a3,q3,_,c3,p4,a4,q4,_,c4,J,_,I,_,c5,p6,a6,q6,_,c6,p7,a7,q7,_,c7,p8,a8,q8,_,c8,fun CR X=> ?_⟩;have j:=V.below (extAll X);have Y:=kE B X;refine jg KR j.o.a (val:= .agg #[.int .i64 a,.int .i64 c,.int .i64 p,.int .i64 d,.bool (decide (z=1)),.string s,.string r,.string t]) rfl (by simp[Value.cells,bo]) Y.size om dc fun A' c' FC Vn Z Zl=> ?_
  have Xr:=Z _ _ _ _ dc j.box;refine dX Xr j.hB 8 1 (by show 9<=14;omega) rfl fun Ua L=> ?_
  have Xs:=(Y.trans Zl).trans (aC.eD L j.hB);have M:=bH.wrote L Xr;obtain⟨g1,g2,g3,g4,g5,g6,g7,g8,_,g10,g11,g12⟩:=j.o.Ln Z;have N:dW FC w0.heap.size {k with a:=⟨A',k.a.n+1,c'⟩} xs {x with fK:=x.fK++[⟨a,c,p,d,decide (z=1),s,r,t⟩]}:=
   ⟨g1 dc,g2 dc,g3 dc,g4 dc,j.o.e,g5 dc,g6 dc,j.o.nw,j.o.cw,g7 dc,g8 dc,by rw[eL];exact Vn,g10 dc,g11 dc,g12 dc⟩
  have m:Wk Ua w0.heap.size b {k with a:=⟨A',k.a.n+1,c'⟩} xs {x with fK:=x.fK++[⟨a,c,p,d,decide (z=1),s,r,t⟩]}:=⟨L.at_,j.hB,N.bW M⟩;have sa:∀y∈x.fK++[(⟨a,c,p,d,decide (z=1),s,r,t⟩:Al)],UT y:=fun y hy=>by
   rcases ga.1 hy with hy|hy
   ·exact ok.sa y hy
   ·rw[ec.1 hy];exact⟨by show s.size<=1000;omega,by show r.size<=1000;omega,by show t.size<_;omega⟩
  have O:=m.o.a.rows;refine⟨_,_,_,bj m.box 8 1,pm (dH (hg.next Xs) m.o.a.sl O (by show k.a.n+1<_;omega) sa) ?_⟩;rintro v QS NI rfl;have C:=m.below NI;have pA:=kP Xs NI;refine⟨_,_,rfl,fun D=> ?_,fun P=> ?_⟩
  ·rw[bm D];exact⟨rfl,fun P=>absurd P D⟩
  rw[aq P];obtain⟨p1,K,q1,c1,_⟩:=A pA 0 om;refine⟨_,_,_,bj C.box 9 1,p1,K,q1,_,c1,fun SZ E=> ?_⟩;have q:=C.below (extAll E);have Q:=kE pA E;refine jg KS q.o.l (val:= .agg #[.int .i64 a,.int .i64 0,.int .i64 tick]) rfl (by simp[Value.cells,bo]) Q.size (by show(k.l.n+1)*_<=_;omega) dc fun A2 c2 R S G b47=> ?_
  have Xu:=G _ _ _ _ dc q.box;refine dX Xu q.hB 9 1 (by show 10<=14;omega) rfl fun Xm H=> ?_
  have Td:=bH.wrote H Xu;obtain⟨g1,g2,g3,g4,g5,g6,g7,g8,g9,_,g11,g12⟩:=q.o.Ln G;have T:dW R w0.heap.size {k with a:=⟨A',k.a.n+1,c'⟩,l:=⟨A2,k.l.n+1,c2⟩} xs {x with fK:=x.fK++[⟨a,c,p,d,decide (z=1),s,r,t⟩],dj:=x.dj++[⟨a,0,tick⟩]}:=
   ⟨g1 dc,g2 dc,g3 dc,g4 dc,q.o.e,g5 dc,g6 dc,q.o.nw,q.o.cw,g7 dc,g8 dc,g9 dc,by rw[eL];exact S,g11 dc,g12 dc⟩
  exact⟨rfl,fun _=>⟨{k with a:=⟨A',k.a.n+1,c'⟩,l:=⟨A2,k.l.n+1,c2⟩},xs,H.at_,q.hB,T.bW Td⟩⟩
end

structure Kd where
 n:Int
 r:Int
 t:Int
 em:Bool
 fu:Bool
 f:Nat
abbrev Kd.val(d:Kd):Value:= .agg #[.int .i64 d.n,.int .i64 d.r,.int .i64 d.t,.bool d.em,.bool d.fu,.func (.func d.f) #[] #[]]
def kd(z:Int):Option Kd:=
 if z=12 then some ⟨0,0,0,false,true,122⟩
 else if z=11 then some ⟨1,0,0,false,false,121⟩
 else if z=10 then some ⟨1,1,0,false,false,120⟩
 else if z=9 then some ⟨0,0,0,false,true,119⟩
 else if z=8 then some ⟨1,0,1,false,true,118⟩
 else if z=7 then some ⟨-1,0,0,true,false,117⟩
 else if z=6 then some ⟨2,0,2,false,false,116⟩
 else if z=5 then some ⟨5,2,1,false,false,115⟩
 else if z=4 then some ⟨1,5,1,false,false,114⟩
 else if z=3 then some ⟨3, -1,3,true,false,113⟩
 else if z=2 then some ⟨1,5,1,true,false,112⟩
 else if z=1 then some ⟨3,3,1,true,false,111⟩
 else none
noncomputable def sV(H:pS)(z:Int)(x:Cm)(e:Ev):Cm×Int:=
 if z=12 then Gu x
 else if z=11 then uD x e
 else if z=10 then jQ x e
 else if z=9 then km H x e
 else if z=8 then gB H x e
 else if z=7 then qU x e
 else if z=6 then iX H x e
 else if z=5 then pO x e
 else if z=4 then jh x e
 else if z=3 then qT x e
 else if z=2 then qS x e
 else if z=1 then kB x e
 else(x,1)
abbrev kdZ:Value:= .agg #[.int .i64 0,.int .i64 0,.int .i64 0,.bool false,.bool false,.nilFunc]
theorem Om:Zz 134 3 132 kdZ:=⟨kF,kF,fun w=>by kernel_rfl⟩
theorem kH{z a:Int}{d:Kd}{o:Option Kd}{f:Int->Option Value}(h:f z=o.map Kd.val):zW f a d.val z=(if z=a then some d else o).map Kd.val:=by
 unfold zW;by_cases q:z=a
 ·rw[bm q,bm q];rfl
 ·rw[aq q,aq q];exact h
theorem gU{n:Nat}{d:Int}{m:Nat}(h:0<=d->(n:Int)=d)(a:d=(m:Int)):n=m:=by
 have:=h om;omega
theorem LA(w:World):Pure Tryz.prog 59 #[] w fun v w'=>∃m,v= .map (some m)/\xg w' w.heap.size 3 kdZ m 12 fun z=>(kd z).map Kd.val:=by
 refine F.pL.vc (yM (tk:=3) (zv:=kdZ) lf fun M m3 A=> ?_);refine cV m3 Om ir _ om lf A.size fun N m4 c g4=> ?_
 have B:=A.trans c;refine cV m4 Om ir _ om lf B.size fun O m5 d g5=> ?_
 have C:=B.trans d;refine cV m5 Om ir _ om lf C.size fun P m6 g g6=> ?_
 have D:=C.trans g;refine cV m6 Om ir _ om lf D.size fun Q m7 h g7=> ?_
 have E:=D.trans h;refine cV m7 Om ir _ om lf E.size fun R m8 i g8=> ?_
 have b8:=E.trans i;refine cV m8 Om ir _ om lf b8.size fun S m9 j g9=> ?_
 have G:=b8.trans j;refine cV m9 Om ir _ om lf G.size fun T m10 l g10=> ?_
 have I:=G.trans l;refine cV m10 Om ir _ om lf I.size fun U m11 n g11=> ?_
 have a:=I.trans n;refine cV m11 Om ir _ om lf a.size fun V m12 o g12=> ?_
 have J:=a.trans o;refine cV m12 Om ir _ om lf J.size fun W m13 q g13=> ?_
 have K:=J.trans q;refine cV m13 Om ir _ om lf K.size fun X m14 r g14=> ?_
 have L:=K.trans r;refine cV m14 Om ir _ om lf L.size fun Y m15 y g15=> ?_
 have Z:=L.trans y;refine⟨_,rfl,?_⟩;have e:(fun z=>(kd z).map Kd.val)=fun z=>_:=funext fun z=>(show _=(kd z).map Kd.val from by
  unfold kd;exact kH (kH (kH (kH (kH (kH (kH (kH (kH (kH (kH (kH (f:=fun _=>none) rfl)))))))))))).symm
 rw[e];exact m15
def Eu(want:Int)(n:Nat):Bool:=decide (want<0∨want=n)
def jo(d:Kd)(e:Ev):Bool:=Eu d.n e.nums.length&&Eu d.r e.gj.length&&Eu d.t e.texts.length&&(decide (0<=d.n)||decide (e.nums.length % 3=0))
theorem Gz(want:Int)(n:Nat)(w:World):Pure Tryz.prog 123 #[.int .i64 want,.int .i64 n] w fun v _=>v= .bool (Eu want n):=by
 refine F.kX.vc ⟨fun q=> ?_,fun q=> ?_⟩
 ·exact ca Value.bool (fi (.inl q)).symm
 ·refine ca Value.bool ?_;unfold Eu;rw[uk,iv,iv];omega
theorem I1{w:World}{ea:Ea}{e:Ev}(he:pN w ea e)(d:Kd):Pure Tryz.prog 60 #[d.val,ea.val e] w fun v _=>v= .bool (jo d e):=by
 have ln:=he.ln;have lr:=he.lr;have lt:=he.lt;unfold jo;rw[ln,lr,lt];refine F.oG.vc fun w1 g=>pm (Gz _ _ _) ?_
 rintro v h _ rfl;refine⟨_,rfl,fun q1=>pm (Gz _ _ _) ?_,fun q1=>by rw[q1];rfl⟩;rintro v i _ rfl;refine⟨_,rfl,fun a=>pm (Gz _ _ _) ?_,fun a=>by rw[q1,a];rfl⟩;rintro v j _ rfl;refine⟨_,rfl,fun c=> ?_,fun c=>by rw[q1,a,c];rfl⟩;rw[q1,a,c];refine⟨fun q=> ?_,fun q=>⟨om,?_⟩⟩
 ·rw[fi (by omega:(0:Int)<=d.n)];rfl
 ·rw[ep (by omega:¬(0:Int)<=d.n)];refine ca Value.bool ?_;simp only[vd,Ip];rw[kh];omega
theorem On{d:Kd}{e:Ev}(h:jo d e=true):(0<=d.n->(e.nums.length:Int)=d.n)/\(0<=d.r->(e.gj.length:Int)=d.r)/\(0<=d.t->(e.texts.length:Int)=d.t)/\(d.n<0->e.nums.length % 3=0):=by
 unfold jo Eu at h;simp only[cz,Jl,iv]at h;omega
section
variable {H:pS} {w0 w:World} {b:Nat} {k:Ca} {xs:List Rm} {x:Cm} {ea:Ea} {e:Ev}
theorem Vw(gW:gL H)(hg:bk w0)(hb:Below w0.heap.size w0 w)(h:Wk w w0.heap.size b k xs x)(ok:dI x)(he:pN w0 ea e){d:Kd}(a:kd e.kind=some d)(hf:jo d e=true)(B:d.fu=true->x.dQ≠[]):
  az Tryz.prog d.f=true/\cI Tryz.prog d.f #[.pointer (some ⟨b,0,none⟩),ea.val e] w0.heap.size w (Lo (sV H e.kind x e) w0.heap.size b):=by
 obtain⟨fn,fr,c,f3⟩:=On hf;unfold kd at a;unfold sV;by_cases g:e.kind=12
 ·rw[bm g]at a⊢;cases a;exact⟨kF,NW hb h⟩
 rw[aq g]at a⊢;by_cases i:e.kind=11
 ·rw[bm i]at a⊢;cases a;exact⟨kF,RT hg hb h ok he (gU (m:=1) fn rfl)⟩
 rw[aq i]at a⊢;by_cases j:e.kind=10
 ·rw[bm j]at a⊢;cases a;exact⟨kF,IT hg hb h ok he (gU (m:=1) fn rfl) (gU (m:=1) fr rfl)⟩
 rw[aq j]at a⊢;by_cases l:e.kind=9
 ·rw[bm l]at a⊢;cases a;exact⟨kF,Of gW hg hb h ok (B rfl)⟩
 rw[aq l]at a⊢;by_cases n:e.kind=8
 ·rw[bm n]at a⊢;cases a;exact⟨kF,Gv gW hg hb h ok he (gU (m:=1) fn rfl) (gU (m:=1) c rfl)⟩
 rw[aq n]at a⊢;by_cases o:e.kind=7
 ·rw[bm o]at a⊢;cases a;exact⟨kF,Oe hg hb h ok he (f3 dc)⟩
 rw[aq o]at a⊢;by_cases q:e.kind=6
 ·rw[bm q]at a⊢;cases a;exact⟨kF,IU gW hg hb h ok he (gU (m:=2) fn rfl) (gU (m:=2) c rfl)⟩
 rw[aq q]at a⊢;by_cases r:e.kind=5
 ·rw[bm r]at a⊢;cases a;exact⟨kF,Ol hg hb h ok he (gU (m:=5) fn rfl) (gU (m:=2) fr rfl) (gU (m:=1) c rfl)⟩
 rw[aq r]at a⊢;by_cases y:e.kind=4
 ·rw[bm y]at a⊢;cases a;exact⟨kF,Gy hg hb h ok he (gU (m:=1) fn rfl) (gU (m:=5) fr rfl) (gU (m:=1) c rfl)⟩
 rw[aq y]at a⊢;by_cases z:e.kind=3
 ·rw[bm z]at a⊢;cases a;exact⟨kF,Oi hg hb h ok he (gU (m:=3) fn rfl) (gU (m:=3) c rfl)⟩
 rw[aq z]at a⊢;by_cases A:e.kind=2
 ·rw[bm A]at a⊢;cases a;exact⟨kF,NY hg hb h ok he (gU (m:=1) fn rfl) (gU (m:=5) fr rfl) (gU (m:=1) c rfl)⟩
 rw[aq A]at a⊢;by_cases q1:e.kind=1
 ·rw[bm q1]at a⊢;cases a;exact⟨kF,IP hg hb h ok he (gU (m:=3) fn rfl) (gU (m:=3) fr rfl) (gU (m:=1) c rfl)⟩
 rw[aq q1]at a⊢;cases a
noncomputable def db(H:pS)(x:Cm)(e:Ev):Except Int Cm:=
 if e.id<1∨1073741824<e.id∨e.tick<0∨1073741824<e.tick then .error 2
 else match kd e.kind with
 |none=> .error 1
 |some d=>
  if jo d e=false then .error 1
  else if e.id<=x.last∨e.tick<x.tick then .error 5
  else if(d.em=true/\x.dQ≠[])∨(d.fu=true/\x.dQ=[])then .error 11
  else if(sV H e.kind x e).2≠0 then .error (sV H e.kind x e).2
  else .ok {(sV H e.kind x e).1 with last:=e.id,tick:=e.tick}
def ApR(r:Except Int Cm)(B:Nat)(v:Value)(w':World):Prop:=match r with
 | .error a=>v= .tuple #[Ca.zero.val Cm.zero,.int .i64 a]
 | .ok y=>∃k xs,v= .tuple #[k.val y,.int .i64 0]/\dW w' B k xs y
end

theorem dW.jq{w w':World}{B:Nat}{k:Ca}{xs:List Rm}{x:Cm}(h:dW w B k xs x)(s:bH 49 w w'):dW w' B k xs x:=by
 obtain⟨p1,p2,p3,c,g,p6,i,j,l,a,b,m⟩:=h.Ln s;exact⟨p1 dc,p2 dc,p3 dc,c dc,h.e,g dc,p6 dc,h.nw,h.cw,i dc,j dc,l dc,a dc,b dc,m dc⟩
theorem dW.last{w:World}{B:Nat}{k:Ca}{xs:List Rm}{x:Cm}(h:dW w B k xs x)(i t:Int):dW w B k xs {x with last:=i,tick:=t}:=⟨h.p,h.h,h.r,h.f,h.e,h.s,h.pl,h.nw,h.cw,h.c,h.v,h.a,h.l,h.g,h.q⟩
theorem LB{f:FuncId}{args:Array Value}{B a:Nat}{w:World}{R R':Value->World->Prop}(h:cI Tryz.prog f args a w R)(hB:B<=a)(b:∀v w',Below a w w'->R v w'->R' v w'):cI Tryz.prog f args B w R':=
 Calls.mono h fun _ _ ⟨v,e,hb,c⟩=>⟨v,e,hb.mono hB,b v _ hb c⟩
theorem GC{w w':World}{B p:Nat}{o:Obj}(h:w.heap[p]? =some o)(hb:Below B w w')(hp:p<B):w'.heap[p]? =some o:=(hb.block p hp).trans h
section
variable {H:pS} {w0 w:World} {k:Ca} {xs:List Rm} {x:Cm} {ea:Ea} {e:Ev} {d:Kd}
theorem Vx(gW:gL H)(hg:bk w0)(h:uC w0 k xs x)(ok:dI x)(he:pN w0 ea e)(hd:kd e.kind=some d)(hf:jo d e=true)(TZ:d.fu=true->x.dQ≠[])(hw:Below w0.heap.size w0 w){R:Value->World->Prop}
  (hE:(sV H e.kind x e).2≠0->∀w,R (.tuple #[Ca.zero.val Cm.zero,.int .i64 (sV H e.kind x e).2]) w)
  (hR:(sV H e.kind x e).2=0->∀w k xs,dW w w0.heap.size k xs {(sV H e.kind x e).1 with last:=e.id,tick:=e.tick}->R (.tuple #[k.val {(sV H e.kind x e).1 with last:=e.id,tick:=e.tick},.int .i64 0]) w):
  F.bG.qd k.p.A k.p.n k.p.c k.h.A k.h.n k.h.c k.r.A k.r.n k.r.c k.s.A k.s.n k.s.c k.w.A k.w.n k.w.c x.cF k.c.A k.c.n k.c.c k.v.A k.v.n k.v.c k.a.A k.a.n k.a.c k.l.A k.l.n k.l.c k.g.A k.g.n k.g.c k.q.A k.q.n k.q.c x.last x.tick e.id e.tick e.kind ea.n.A ea.n.n ea.n.c ea.r.A ea.r.n ea.r.c ea.t.A ea.t.n ea.t.c
   none 0 0 none 0 0 none 0 0 none 0 0 none 0 0 0 none 0 0 none 0 0 none 0 0 none 0 0 none 0 0 none 0 0 0 0 d.n d.r d.t d.em d.fu (.func (.func d.f) #[] #[]) w0.heap.size w R:=by
 refine F.bG.qd.step fun p30 l30 h30 G l31 I b J WU p33 l33 T=>⟨_,_,_,_,_,_,_,_,_,_,_,_,_,_,_,_,_,_,_,_,_,_,_,_,_,_,_,_,_,_,_,_,_,_,_,_,bj h30 0 14 rfl,pm (IZ (h.av hw) ok) ?_⟩
 have U:=(ax.1 I).1;have s32:=(ax.1 WU).1;have s33:=(ax.1 T).1;rintro v P Q ⟨k1,oO,rfl,o1⟩;have Oo:=kP hw Q;refine⟨_,_,_,_,_,_,_,_,_,_,_,_,_,_,_,_,_,_,_,_,_,_,_,_,_,_,_,_,_,_,_,_,_,_,_,_,rfl,oX _ _ Oo.size fun V h64 W l64=> ?_⟩;have Z:Below w.heap.size w V:=Q.trans (W.mono Q.size);have wk:Wk V w.heap.size P.heap.size k1 oO x:=⟨h64,Q.size,o1.below W⟩;obtain⟨cB,eQ⟩:=Vw gW (hg.next hw) Z wk ok (he.av hw) hd hf TZ;refine⟨_,_,_,bj (GC T Z s33) 5 1,_,_,_,_,_,_,_,_,_,_,_,_,bj (GC I Z U) 0 6 rfl,cB,LB eQ hw.size ?_⟩;rintro v w76 b76 ⟨rfl,hk⟩;have K:=Z.trans b76;have B:=GC I K U;have i:=GC WU K s32;have GD:=hw.trans (K.mono hw.size);refine⟨fun _ _ _ hm=>(by cases hm),_,rfl,fun hne=> ?_,fun h0=> ?_⟩
 ·refine dX i J 0 14 sm rfl (fun w79 aiO=>⟨_,_,_,_,_,_,_,_,_,_,_,_,_,_,_,_,_,_,_,_,_,_,_,_,_,_,_,_,_,_,_,_,_,_,_,_,bj aiO.at_ 0 14 rfl,?_⟩) rfl;exact hE hne w79
 ·have h0:=ek.1 h0;obtain⟨S,C,wk2⟩:=hk h0;have nb:b≠P.heap.size:=by have:=Q.size;omega
  have X:G≠P.heap.size:=by have:=Q.size;omega
  have fin:∀{w':World},w'.heap[b]? =some (.cells ([.slice none 0 0,.slice none 0 0,.slice none 0 0,.slice none 0 0,.slice none 0 0,.int .i64 0,.slice none 0 0,.slice none 0 0,.slice none 0 0,.slice none 0 0,.slice none 0 0,.slice none 0 0,.int .i64 0,.int .i64 0]:List Value).toArray 49 (0,0))->
    Wk w' w.heap.size P.heap.size S C {(sV H e.kind x e).1 with last:=e.id,tick:=e.tick}->∀D,aC w' D b 49 (S.cells {(sV H e.kind x e).1 with last:=e.id,tick:=e.tick})->R (.tuple #[S.val {(sV H e.kind x e).1 with last:=e.id,tick:=e.tick},.int .i64 0]) D:=fun hz hk D aiP=>by
   have o:=hk.o.jq (bH.wrote aiP hz);exact hR h0 D S C ⟨o.p.base hw.size,o.h.base hw.size,o.r.base hw.size,fun y hy=>⟨(o.f y hy).o.base hw.size⟩,o.e,o.s.base hw.size,o.pl,o.nw,o.cw,o.c.base hw.size,o.v.base hw.size,o.a.base hw.size,o.l.base hw.size,o.g.base hw.size,o.q.base hw.size⟩
  refine⟨_,bj B 0 1,fun w95 E=> ?_,fun w95 E=> ?_⟩
  all_goals
   have B:=ag B (extAll E);have i:=ag i (extAll E);have j:=wk2.below (extAll E)
  ·refine⟨_,bj B 1 1,?_⟩;refine dX j.box (dT hw.size j.hB) 12 1 (by show 13<=14;omega) rfl fun w99 m=> ?_
   have L:=bH.wrote m j.box;have B:=(m.rest G X).trans B;have i:=(m.rest b nb).trans i;refine dX m.at_ (dT hw.size j.hB) 13 1 (by show 14<=14;omega) rfl fun M N=> ?_
   have O:=bH.wrote N m.at_;have i:=(N.rest b nb).trans i;have z:Wk M w.heap.size P.heap.size S C {(sV H e.kind x e).1 with last:=e.id,tick:=e.tick}:=⟨N.at_,j.hB,((j.o.bW L).bW O).last _ _⟩;refine⟨_,_,_,_,_,_,_,_,_,_,_,_,_,_,_,_,_,_,_,_,_,_,_,_,_,_,_,_,_,_,_,_,_,_,_,_,bj z.box 0 14,dX i J 0 14 sm rfl (fun VA Y=>⟨_,_,_,_,_,_,_,_,_,_,_,_,_,_,_,_,_,_,_,_,_,_,_,_,_,_,_,_,_,_,_,_,_,_,_,_,bj Y.at_ 0 14 rfl,?_⟩) rfl⟩;exact fin i z VA Y
  ·refine dX j.box (dT hw.size j.hB) 12 1 (by show 13<=14;omega) rfl fun w99 m=> ?_
   have L:=bH.wrote m j.box;have B:=(m.rest G X).trans B;have i:=(m.rest b nb).trans i;refine⟨_,bj B 1 1,?_⟩;refine dX m.at_ (dT hw.size j.hB) 13 1 (by show 14<=14;omega) rfl fun M N=> ?_
   have O:=bH.wrote N m.at_;have i:=(N.rest b nb).trans i;have z:Wk M w.heap.size P.heap.size S C {(sV H e.kind x e).1 with last:=e.id,tick:=e.tick}:=⟨N.at_,j.hB,((j.o.bW L).bW O).last _ _⟩;refine⟨_,_,_,_,_,_,_,_,_,_,_,_,_,_,_,_,_,_,_,_,_,_,_,_,_,_,_,_,_,_,_,_,_,_,_,_,bj z.box 0 14,dX i J 0 14 sm rfl (fun VA Y=>⟨_,_,_,_,_,_,_,_,_,_,_,_,_,_,_,_,_,_,_,_,_,_,_,_,_,_,_,_,_,_,_,_,_,_,_,_,bj Y.at_ 0 14 rfl,?_⟩) rfl⟩;exact fin i z VA Y
theorem pP(gW:gL H)(hg:bk w)(h:uC w k xs x)(ok:dI x)(he:pN w ea e):
  Pure Tryz.prog 27 #[k.val x,ea.val e] w (ApR (db H x e) w.heap.size):=by
 have nw:=h.nw;unfold db;refine F.bG.vc ⟨fun q w1 _=>by rw[bm (.inl q)];rfl,fun q1=>⟨fun q X _=>by rw[bm (.inr (.inl q))];rfl,fun A=>⟨fun q Y _=>by rw[bm (.inr (.inr (.inl q)))];rfl,fun J=>⟨fun q Z _=>by rw[bm (.inr (.inr (.inr q)))];rfl,fun j O P=> ?_⟩⟩⟩⟩;rw[aq om];have Q:=k0 P;refine pm (LA O) ?_;rintro v w8 b8 ⟨m,rfl,hm⟩;have S:=kP Q b8;refine⟨_,rfl,fun w9 K=> ?_⟩;have B:=kE S K;have C:=hm.ext K;refine IF C Om he.ik ?_;cases T:kd e.kind with
 |none=>
  refine⟨_,_,_,_,_,_,_,rfl,fun L M=> ?_⟩;exact F.bG.J4.step ⟨fun _ Ar _=>rfl,fun q=>absurd rfl q⟩
 |some d=>
  refine⟨_,_,_,_,_,_,_,rfl,fun L M=> ?_⟩;have N:Below w.heap.size w L:=B.trans (M.below);dsimp only;have D:∀c,Below w.heap.size w c->jo d e=true->(d.em=true->x.dQ=[])->(d.fu=true->x.dQ≠[])->¬(e.id<=x.last∨e.tick<x.tick)->_:=fun c l hf r E g=>Vx (w:=c) (R:=ApR (if jo d e=false then .error 1
  else if e.id<=x.last∨e.tick<x.tick then .error 5
  else if(d.em=true/\x.dQ≠[])∨(d.fu=true/\x.dQ=[])then .error 11
  else if(sV H e.kind x e).2≠0 then .error (sV H e.kind x e).2
  else .ok {(sV H e.kind x e).1 with last:=e.id,tick:=e.tick}) w.heap.size) gW hg h ok he T hf E l (fun G w=>by
   rw[aq (by rw[hf];decide),aq g,aq (by rintro(⟨a,b⟩|⟨a,b⟩);exact b (r a);exact E a b),bm G];rfl) (fun U w k xs o=>by
   rw[aq (by rw[hf];decide),aq g,aq (by rintro(⟨a,b⟩|⟨a,b⟩);exact b (r a);exact E a b),aq (fun k=>k U)];exact⟨k,xs,rfl,o⟩)
  refine F.bG.J4.step ⟨fun q=>(by cases q),fun _=>pm (I1 (he.av N) d) ?_⟩;rintro v c V rfl;have l:=kP N V;refine⟨_,rfl,fun q Ce _=>by rw[bm q];rfl,fun q=> ?_⟩;have hf:jo d e=true:=by simpa using q
  refine⟨fun q1 UD _=>by rw[aq q,bm (.inl q1)];rfl,fun q1=>⟨fun A Ih _=>by rw[aq q,bm (.inr A)];rfl,fun A=> ?_⟩⟩;have g:¬(e.id<=x.last∨e.tick<x.tick):=om;have y:k.w.n=0↔x.dQ=[]:=by rw[<-nw];exact M7
  have bad:∀w1:World,(d.em=true/\x.dQ≠[])∨(d.fu=true/\x.dQ=[])->∀w,ApR (if jo d e=false then .error 1
  else if e.id<=x.last∨e.tick<x.tick then .error 5
  else if(d.em=true/\x.dQ≠[])∨(d.fu=true/\x.dQ=[])then .error 11
  else if(sV H e.kind x e).2≠0 then .error (sV H e.kind x e).2
  else .ok {(sV H e.kind x e).1 with last:=e.id,tick:=e.tick}) w1.heap.size (.tuple #[Ca.zero.val Cm.zero,.int .i64 11]) w:=fun w1 hb w=>by
   rw[aq q,aq g,bm hb];rfl
  refine⟨fun z=>⟨fun J W _=>bad w (.inl ⟨z,fun k=>by have:=y.2 k;omega⟩) W,fun J=> ?_⟩,fun z=> ?_⟩
  ·have hp:x.dQ=[]:=y.1 om;exact⟨fun i=>⟨fun j I _=>bad w (.inr ⟨i,hp⟩) I,fun j=>by omega⟩,fun i=>D c l hf (fun _=>hp) (fun k=>by rw[i]at k;cases k) g⟩
  ·exact⟨fun i=>⟨fun j I _=>bad w (.inr ⟨i,y.1 om⟩) I,fun j=>D c l hf (fun k=>by rw[z]at k;cases k) (fun _ k=>j (by have:=y.2 k;omega)) g⟩,fun i=>D c l hf (fun k=>by rw[z]at k;cases k) (fun k=>by rw[i]at k;cases k) g⟩
end

structure kZ (e:Ev):Prop where
 mn:e.nums.length<=24
 mr:e.gj.length<=9
 mt:e.texts.length<=4
 sr:∀s∈e.gj,s.size<=40
 st:∀s∈e.texts,s.size<=70
 ir:∀z∈e.nums, -9223372036854775808<=z/\z<=9223372036854775807
theorem qg{ps:List Pa}{hs:List Ho}{rs:List Ru}{l:List Sw}(h:kV ps hs rs l=true):ps.length<=6/\hs.length<=6/\rs.length<=16/\l.length<=36:=by
 unfold kV yK at h;simp only[cz,iv]at h;obtain⟨c0,a,_⟩:=uu h.1.1.1;have r:=me c0;exact⟨r.lp,r.lh,a,(fv h.1.1.2).len⟩
theorem vf{x:Cm}(h:tp x=0):kV x.ps x.hs x.rs x.cE=true:=by
 unfold tp at h;split at h
 ·cases h
 ·rename_i k;simpa using k
theorem sW{α:Type}{P:α->Prop}{l:List α}{a:α}(h:∀y∈l,P y)(ha:P a):∀y∈l++[a],P y:=fun y hy=>by
 rcases ga.1 hy with hy|hy
 ·exact h y hy
 ·rw[ec.1 hy];exact ha
theorem I3:∀{l:List Int},(∀z∈l, -9223372036854775808<=z/\z<=9223372036854775807)->∀y∈dm l,SmW y:=by
 intro l;induction l using dm.induct with
 |case1 a b c r ih=>
  intro h y hy;rw[dm]at hy;rcases cy.1 hy with rfl|hy
  ·exact⟨h a sm,h b sm,h c sm⟩
  ·exact ih (fun z hz=>h z (by simp[hz])) y hy
 |case2 l hl=>
  intro h y hy;rw[dm]at hy
  ·cases hy
  ·exact hl
section
variable {H:pS} {x:Cm} {e:Ev} {r:Cm×Int}
theorem kZ.sR(he:kZ e){s:ByteArray}(h:s∈e.gj):mc s:=by
 have:=he.sr s h;show s.size<=1000;omega
theorem kZ.sT(he:kZ e){s:ByteArray}(h:s∈e.texts):s.size<2147483648:=by
 have:=he.st s h;omega
theorem kZ.sU(he:kZ e){s:ByteArray}(h:s∈e.texts):mc s:=by
 have:=he.st s h;show s.size<=1000;omega
theorem Oq(ok:dI x)(he:kZ e)(h:kB x e=r)(b:r.2=0):dI r.1:=by
 unfold kB at h;split at h
 ·rename_i a u c m v j t h1 d i;dsimp only at h;split at h
  ·rename_i k;subst h;exact absurd b k
  ·subst h;have g:=vf b;obtain⟨lp,lh,lr,ls⟩:=qg g;exact {ok with av:=g,lp:=lp,lh:=lh,lr:=lr,ls:=ls,sp:=sW ok.sp ⟨he.sR (by rw[d];simp),he.sR (by rw[d];simp),he.sR (by rw[d];simp),he.sT (by rw[i];simp)⟩}
 ·subst h;cases b
theorem VB(ok:dI x)(he:kZ e)(h:qS x e=r)(c:r.2=0):dI r.1:=by
 unfold qS at h;split at h
 ·rename_i a i m cx j l t h1 b g;dsimp only at h;split at h
  ·subst h;cases c
  ·split at h
   ·rename_i k;subst h;exact absurd c k
   ·subst h;have d:=vf c;obtain⟨lp,lh,lr,ls⟩:=qg d;exact {ok with av:=d,lp:=lp,lh:=lh,lr:=lr,ls:=ls,sh:=sW ok.sh ⟨he.sR (by rw[b];simp),he.sR (by rw[b];simp),he.sR (by rw[b];simp),he.sR (by rw[b];simp),he.sR (by rw[b];simp),he.sT (by rw[g];simp)⟩}
 ·subst h;cases c
theorem VC(ok:dI x)(he:kZ e)(h:qT x e=r)(c:r.2=0):dI r.1:=by
 unfold qT at h;split at h
 ·rename_i kd a b n lo hi h1 d;dsimp only at h;split at h
  ·rename_i k;subst h;exact absurd c k
  ·subst h;have g:=vf c;obtain⟨lp,lh,lr,ls⟩:=qg g;exact {ok with av:=g,lp:=lp,lh:=lh,lr:=lr,ls:=ls,sr:=sW ok.sr ⟨fun s hs=>he.sR hs,he.sU (by rw[d];simp),he.sU (by rw[d];simp),he.sT (by rw[d];simp),he.mr⟩}
 ·subst h;cases c
theorem LD(ok:dI x)(he:kZ e)(h:jh x e=r)(c:r.2=0):dI r.1:=by
 unfold jh at h;split at h
 ·rename_i a g o l d i n h1 b j;split at h
  ·rename_i k;subst h;exact absurd c k
  ·rename_i k;subst h;have hl:(x.iW++[(⟨a,n,g,o,l,d,i⟩:Ch)]).length<=16:=by
    refine bx fun q=>k ?_
    unfold iN;rw[bm om];decide
   have lv:=ok.lv;exact {ok with
    sc:=sW ok.sc ⟨he.sT (by rw[j];simp),he.sR (by rw[b];simp),he.sR (by rw[b];simp),he.sR (by rw[b];simp),he.sR (by rw[b];simp),he.sR (by rw[b];simp)⟩
    sg:=sW ok.sg ⟨he.sr _ (by rw[b];simp),he.sr _ (by rw[b];simp)⟩
    sv:=sW ok.sv (by show(1:Nat)<=1000;omega)
    lc:=hl
    lv:=by simp[lv]}
 ·subst h;cases c
theorem VD(ok:dI x)(he:kZ e)(h:pO x e=r)(b:r.2=0):dI r.1:=by
 unfold pO at h;split at h
 ·rename_i a c p d z s i t h1 g j;split at h
  ·subst h;cases b
  ·split at h
   ·rename_i k;subst h;exact absurd b k
   ·rename_i k;subst h;have hl:(x.fK++[(⟨a,c,p,d,decide (z=1),s,i,t⟩:Al)]).length<=32:=by
     refine bx fun q=>k ?_
     unfold sM;rw[bm om];decide
    have ll:=ok.ll;exact {ok with
     sa:=sW ok.sa ⟨he.sR (by rw[g];simp),he.sR (by rw[g];simp),he.sT (by rw[j];simp)⟩
     la:=hl
     ll:=by simp[ll]}
 ·subst h;cases b
theorem Ot(ok:dI x)(h:iX H x e=r)(b:r.2=0):dI r.1:=by
 unfold iX at h;split at h
 ·rename_i a c n k h1 d;subst h;have hl:(x.fx++[(⟨a,c,n,k⟩:Si)]).length<=16:=by
   refine(jP.1 ?_).2;refine bx fun q=> ?_
   unfold eP at b;rw[bm (by simpa using q)]at b;cases b
  exact {ok with lg:=hl}
 ·subst h;cases b
theorem VE(ok:dI x)(he:kZ e)(hi:1<=e.id/\e.id<=1073741824)(h:qU x e=r)(a:r.2=0):dI r.1:=by
 unfold qU at h;split at h
 ·subst h;cases a
 ·split at h
  ·rename_i k;subst h;exact absurd a k
  ·rename_i k;subst h;have hl:(dm e.nums).length<=6:=by
    refine bx fun q=>k ?_
    unfold qf;by_cases t0:mj x.ps x.hs x.rs x.cE (dm e.nums)=0
    ·refine absurd t0 ?_;unfold mj;split
     ·decide
     ·split
      ·decide
      ·rw[bm om];decide
    ·rw[bm t0];exact t0
   exact {ok with lw:=hl,sw:=I3 he.ir,si:=(by dsimp only;omega)}
theorem LF(ok:dI x)(h:gB H x e=r)(b:r.2=0):dI r.1:=by
 unfold gB at h;split at h
 ·rename_i a t h1 c;subst h;have hl:(x.apps++[(⟨a,e.tick,mz H x,t⟩:Ap)]).length<=1024:=by
   refine bx fun q=> ?_
   dsimp only at b;unfold eP at b;split at b
   ·cases b
   ·rw[bm om]at b;cases b
  exact {ok with lq:=hl}
 ·subst h;cases b
theorem VF(ok:dI x)(h:km H x e=r)(a:r.2=0):dI r.1:=by
 unfold km at h;split at h
 ·subst h;cases a
 ·split at h
  ·subst h;cases a
  ·rename_i t d hp;split at h
   ·rename_i g c;subst h;dsimp only at a;subst a;exact ok
   ·rename_i l c;subst h;have b:=vf a;obtain⟨lp,lh,lr,ls⟩:=qg b;have lw:=ok.lw;rw[hp,eR]at lw;have si:=ok.si;exact {ok with av:=b,lp:=lp,lh:=lh,lr:=lr,ls:=ls,lw:=(by dsimp only;omega),sw:=fun y hy=>ok.sw y (by rw[hp];exact List.mem_cons_of_mem _ hy),si:=(by dsimp only;split<;>omega)}
theorem R6{l:List Al}{m:List Lp}(h:xT l m=true):l.length=m.length:=by
 unfold xT at h;simp only[cz,iv]at h;exact h.2.1
theorem Ou{l:List Al}{m:List Lp}{v:List Va}{t:Int}(h:(xW l m v t).2=0):(xW l m v t).1.length=m.length:=by
 revert h
 generalize hs:xW l m v t=s;intro h;unfold xW at hs;split at hs
 ·subst hs;cases h
 ·rename_i hf;have:=R6 (by simpa using hf);split at hs
  ·subst hs;cases h
  ·split at hs
   ·subst hs;cases h
   ·split at hs
    ·subst hs;cases h
    ·split at hs
     ·subst hs;cases h
     ·subst hs;rw[List.length_zipWith];omega
theorem I4{l:List Al}{m:List Lp}{a t:Int}(h:(zU l m a t).2=0):(zU l m a t).1.length=m.length:=by
 revert h
 generalize hs:zU l m a t=s;intro h;unfold zU at hs;split at hs
 ·subst hs;cases h
 ·split at hs
  ·subst hs;cases h
  ·split at hs
   ·subst hs;cases h
   ·split at hs
    ·subst hs;cases h
    ·split at hs
     ·subst hs;cases h
     ·split at hs
      ·subst hs;exact va
      ·split at hs
       ·subst hs;exact va
       ·subst hs;cases h
theorem Ov(ok:dI x)(he:kZ e)(h:jQ x e=r)(b:r.2=0):dI r.1:=by
 unfold jQ at h;split at h
 ·rename_i a g h1 d;split at h
  ·rename_i i c;subst h;exact absurd b (yP c)
  ·rename_i v c;subst h;obtain⟨s1,s2⟩:=zC c ok.sg ok.sv (he.sr _ (by rw[d];simp));exact {ok with sv:=s1,lv:=s2.trans ok.lv,ll:=(Ou b).trans ok.ll}
 ·subst h;cases b
theorem aaj(ok:dI x)(h:uD x e=r)(a:r.2=0):dI r.1:=by
 unfold uD at h;split at h
 ·subst h;exact {ok with ll:=(I4 a).trans ok.ll}
 ·subst h;cases a
theorem VG(ok:dI x):dI (Gu x).1:={ok with
 lw:=(by show([]:List Sw).length<=6;decide)
 sw:=(fun y hy=>nomatch (show y∈([]:List Sw)from hy))
 si:=(by show(-9223372036854775808:Int)<=0/\(0:Int)<=9223372036854775807;decide)}
theorem CB{P:Cm×Int->Prop}{z:Int}(n:z=12->P (Gu x))(o:z=11->P (uD x e))(q:z=10->P (jQ x e))(w:z=9->P (km H x e))(y:z=8->P (gB H x e))(A:z=7->P (qU x e))(B:z=6->P (iX H x e))(C:z=5->P (pO x e))(D:z=4->P (jh x e))(E:z=3->P (qT x e))(F:z=2->P (qS x e))(h1:z=1->P (kB x e))(G:P (x,1)):P (sV H z x e):=by
 unfold sV;by_cases a:z=12
 ·rw[bm a];exact n a
 rw[aq a];by_cases b:z=11
 ·rw[bm b];exact o b
 rw[aq b];by_cases c:z=10
 ·rw[bm c];exact q c
 rw[aq c];by_cases d:z=9
 ·rw[bm d];exact w d
 rw[aq d];by_cases g:z=8
 ·rw[bm g];exact y g
 rw[aq g];by_cases h:z=7
 ·rw[bm h];exact A h
 rw[aq h];by_cases i:z=6
 ·rw[bm i];exact B i
 rw[aq i];by_cases j:z=5
 ·rw[bm j];exact C j
 rw[aq j];by_cases k:z=4
 ·rw[bm k];exact D k
 rw[aq k];by_cases l:z=3
 ·rw[bm l];exact E l
 rw[aq l];by_cases m:z=2
 ·rw[bm m];exact F m
 rw[aq m];by_cases q1:z=1
 ·rw[bm q1];exact h1 q1
 rw[aq q1];exact G
theorem aek(ok:dI x)(he:kZ e)(hi:1<=e.id/\e.id<=1073741824){z:Int}:(sV H z x e).2=0->dI (sV H z x e).1:=
 CB (P:=fun r=>r.2=0->dI r.1) (fun _ _=>VG ok) (fun _=>aaj ok rfl) (fun _=>Ov ok he rfl) (fun _=>VF ok rfl) (fun _=>LF ok rfl) (fun _=>VE ok he hi rfl) (fun _=>Ot ok rfl) (fun _=>VD ok he rfl) (fun _=>LD ok he rfl)
  (fun _=>VC ok he rfl) (fun _=>VB ok he rfl) (fun _=>Oq ok he rfl) (fun h=>by cases h)
structure aiR (H:pS) (x:Cm) (e:Ev) (y:Cm) (d:Kd):Prop where
 id:1<=e.id/\e.id<=1073741824
 tick:0<=e.tick/\e.tick<=1073741824
 kd:kd e.kind=some d
 form:jo d e=true
 ord:x.last<e.id/\x.tick<=e.tick
 em:d.em=true->x.dQ=[]
 fu:d.fu=true->x.dQ≠[]
 ok:(sV H e.kind x e).2=0
 y:y={(sV H e.kind x e).1 with last:=e.id,tick:=e.tick}
theorem nR{y:Cm}(h:db H x e= .ok y):∃d,aiR H x e y d:=by
 unfold db at h;split at h
 ·cases h
 ·rename_i h1;split at h
  ·cases h
  ·rename_i d b;split at h
   ·cases h
   ·rename_i c;split at h
    ·cases h
    ·rename_i i;split at h
     ·cases h
     ·rename_i a;split at h
      ·cases h
      ·rename_i g;cases h;exact⟨d,om,om,b,by simpa using c,om,fun q=>bx fun k=>a (.inl ⟨q,k⟩),fun q k=>a (.inr ⟨q,k⟩),ek.1 g,rfl⟩
theorem vg{a:Int}(h:db H x e= .error a):a≠0:=by
 unfold db at h;split at h
 ·cases h;decide
 ·split at h
  ·cases h;decide
  ·split at h
   ·cases h;decide
   ·split at h
    ·cases h;decide
    ·split at h
     ·cases h;decide
     ·split at h
      ·rename_i k;cases h;exact k
      ·cases h
theorem dI.at_(ok:dI x)(i t:Int):dI {x with last:=i,tick:=t}:=⟨ok.av,ok.sp,ok.sh,ok.sr,ok.sc,ok.sg,ok.sv,ok.sa,ok.lp,ok.lh,ok.lr,ok.ls,ok.lw,ok.lc,ok.lv,ok.la,ok.ll,ok.lg,ok.lq,ok.sw,ok.si⟩
theorem uH(ok:dI x)(he:kZ e){y:Cm}(h:db H x e= .ok y):dI y:=by
 obtain⟨d,a⟩:=nR h;rw[a.y];exact(aek ok he a.id a.ok).at_ _ _
end
theorem dI.zero:dI Cm.zero:=
 ⟨dc,nofun,nofun,nofun,nofun,nofun,nofun,nofun,dc,dc,dc,dc,dc,dc,rfl,dc,rfl,dc,dc,nofun,dc⟩

noncomputable def nT(H:pS):Nat->Cm->List Ev->Except (Nat×Int) Cm
 |_,x,[]=> .ok x
 |i,x,e::r=>match db H x e with
  | .error a=> .error (i,a)
  | .ok y=>nT H (i+1) y r
inductive Steps (H:pS):Cm->List Ev->List Cm->Prop where
 |nil (x:Cm):Steps H x [] [x]
 |cons {x y:Cm} {e:Ev} {es:List Ev} {ys:List Cm}:kZ e->dI x->db H x e= .ok y->Steps H y es ys->Steps H x (e::es) (x::ys)
section
variable {H:pS} {x y:Cm} {e:Ev} {r:Cm×Int} {d:Kd}
theorem aak:(uD x e).1.cE=x.cE:=by
 unfold uD;split<;>rfl
theorem Ow:(jQ x e).1.cE=x.cE:=by
 unfold jQ;split
 ·split<;>rfl
 ·rfl
theorem LG:(gB H x e).1.cE=x.cE:=by
 unfold gB;split<;>rfl
theorem VH:(qU x e).1.cE=x.cE:=by
 unfold qU;split
 ·rfl
 ·split<;>rfl
theorem Ox:(iX H x e).1.cE=x.cE:=by
 unfold iX;split<;>rfl
theorem VI:(pO x e).1.cE=x.cE:=by
 unfold pO;split
 ·split
  ·rfl
  ·split<;>rfl
 ·rfl
theorem LH:(jh x e).1.cE=x.cE:=by
 unfold jh;split
 ·split<;>rfl
 ·rfl
theorem VJ:(qT x e).1.cE=x.cE:=by
 unfold qT;split
 ·dsimp only;split<;>rfl
 ·rfl
theorem VK:(qS x e).1.cE=x.cE:=by
 unfold qS;split
 ·dsimp only;split
  ·rfl
  ·split<;>rfl
 ·rfl
theorem Oy:(kB x e).1.cE=x.cE:=by
 unfold kB;split
 ·dsimp only;split<;>rfl
 ·rfl
theorem VL:(km H x e).1.dj=x.dj:=by
 unfold km;split
 ·rfl
 ·split
  ·rfl
  ·split<;>rfl
theorem LI:(gB H x e).1.dj=x.dj:=by
 unfold gB;split<;>rfl
theorem VM:(qU x e).1.dj=x.dj:=by
 unfold qU;split
 ·rfl
 ·split<;>rfl
theorem Oz:(iX H x e).1.dj=x.dj:=by
 unfold iX;split<;>rfl
theorem LJ:(jh x e).1.dj=x.dj:=by
 unfold jh;split
 ·split<;>rfl
 ·rfl
theorem VN:(qT x e).1.dj=x.dj:=by
 unfold qT;split
 ·dsimp only;split<;>rfl
 ·rfl
theorem VO:(qS x e).1.dj=x.dj:=by
 unfold qS;split
 ·dsimp only;split
  ·rfl
  ·split<;>rfl
 ·rfl
theorem OA:(kB x e).1.dj=x.dj:=by
 unfold kB;split
 ·dsimp only;split<;>rfl
 ·rfl
theorem R7(a:e.kind≠9):(sV H e.kind x e).1.cE=x.cE:=
 CB (P:=fun r=>r.1.cE=x.cE) (fun _=>rfl) (fun _=>aak) (fun _=>Ow) (fun q=>absurd q a) (fun _=>LG) (fun _=>VH) (fun _=>Ox) (fun _=>VI) (fun _=>LH) (fun _=>VJ) (fun _=>VK) (fun _=>Oy) rfl
theorem R8(a:e.kind≠5)(b:e.kind≠10)(c:e.kind≠11):(sV H e.kind x e).1.dj=x.dj:=
 CB (P:=fun r=>r.1.dj=x.dj) (fun _=>rfl) (fun q=>absurd q c) (fun q=>absurd q b) (fun _=>VL) (fun _=>LI) (fun _=>VM) (fun _=>Oz) (fun q=>absurd q a) (fun _=>LJ) (fun _=>VN) (fun _=>VO) (fun _=>OA) rfl
theorem LK(h:db H x e= .ok y)(i:e.kind=9):Es H x e.tick=true/\∃t r,x.dQ=t::r/\y.dQ=r/\zO x.ps x.hs x.cE t= .ok y.cE:=by
 obtain⟨d,a⟩:=nR h;have hy:=a.y;have c:=a.ok;have j:sV H e.kind x e=km H x e:=by
  unfold sV;rw[aq om,aq om,aq om,bm i]
 rw[j]at hy c;subst hy
 revert c
 generalize b:km H x e=r;intro c;unfold km at b;split at b
 ·subst b;cases c
 ·rename_i ha;refine⟨by simpa using ha,?_⟩;split at b
  ·subst b;cases c
  ·rename_i t k hp;split at b
   ·rename_i m g;subst b;dsimp only at c;subst c;exact absurd rfl (Mv g)
   ·rename_i l g;subst b;exact⟨t,k,hp,rfl,g⟩
theorem I5(h:db H x e= .ok y)(b:e.kind≠9):y.cE=x.cE:=by
 obtain⟨d,a⟩:=nR h;rw[a.y];exact R7 b
theorem LL(h:db H x e= .ok y)(g:e.kind=5):∃u,y.dj=x.dj++[u]:=by
 obtain⟨d,a⟩:=nR h;have hy:=a.y;have c:=a.ok;have i:sV H e.kind x e=pO x e:=by
  unfold sV;rw[aq om,aq om,aq om,aq om,aq om,aq om,aq om,bm g]
 rw[i]at hy c;subst hy
 revert c
 generalize b:pO x e=r;intro c;unfold pO at b;split at b
 ·split at b
  ·subst b;cases c
  ·split at b
   ·rename_i k;subst b;exact absurd c k
   ·subst b;exact⟨_,rfl⟩
 ·subst b;cases c
theorem GF(h:db H x e= .ok y)(j:e.kind=10):xW x.fK x.dj y.sS e.tick=(y.dj,0)/\y.sS.length=x.sS.length:=by
 obtain⟨d,a⟩:=nR h;have hy:=a.y;have b:=a.ok;have i:sV H e.kind x e=jQ x e:=by
  unfold sV;rw[aq om,aq om,bm j]
 rw[i]at hy b;subst hy
 revert b
 generalize c:jQ x e=r;intro b;unfold jQ at c;split at c
 ·split at c
  ·rename_i k g;subst c;exact absurd b (yP g)
  ·rename_i v g;subst c;dsimp only at b⊢;refine⟨Prod.ext rfl b,?_⟩;rcases uE x.iW x.sS _ e.tick _ with⟨_,h1,_⟩|⟨_,_,_,_,_,_,_,_,h1⟩
   ·rw[h1]at g;cases g
   ·rw[h1]at g;cases g;exact va
 ·subst c;cases b
theorem R9{l:List Al}{m:List Lp}{i t:Int}(h:(zU l m i t).2=0):(zB (zU l m i t).1=true->zB m=true):=by
 revert h
 generalize hs:zU l m i t=s;intro h;unfold zU at hs;split at hs
 ·subst hs;cases h
 ·split at hs
  ·subst hs;cases h
  ·split at hs
   ·subst hs;cases h
   ·rename_i j _ _ u hu;split at hs
    ·subst hs;cases h
    ·split at hs
     ·subst hs;cases h
     ·have go:∀(z:Int),z≠2->z≠4->zB (m.set j ⟨u.we,z,t⟩)=true->zB m=true:=fun z c g a=>by
       unfold zB at a⊢;rw[pe]at a⊢;obtain⟨v,b,hz⟩:=a;rcases By b with b|rfl
       ·exact⟨v,b,hz⟩
       ·have:=fk hz;dsimp only at this;omega
      split at hs
      ·subst hs;exact go 3 dc dc
      ·split at hs
       ·subst hs;exact go 0 dc dc
       ·subst hs;cases h
theorem OB(h:db H x e= .ok y)(i:e.kind=11):y.dj.length=x.dj.length/\(zB y.dj=true->zB x.dj=true):=by
 obtain⟨d,a⟩:=nR h;have hy:=a.y;have b:=a.ok;have g:sV H e.kind x e=uD x e:=by
  unfold sV;rw[aq om,bm i]
 rw[g]at hy b;subst hy
 revert b
 generalize c:uD x e=r;intro b;unfold uD at c;split at c
 ·subst c;exact⟨I4 b,R9 b⟩
 ·subst c;cases b
theorem I6(h:db H x e= .ok y)(b:e.kind≠5)(c:e.kind≠10)(g:e.kind≠11):y.dj=x.dj:=by
 obtain⟨d,a⟩:=nR h;rw[a.y];exact R8 b c g
theorem I7(h:db H x e= .ok y):y.last=e.id/\y.tick=e.tick:=by
 obtain⟨d,a⟩:=nR h;rw[a.y];exact⟨rfl,rfl⟩
end
end Go.Proofs.YtbcojgcjjpggnaaGreatDoor.B

open Go.Proofs.YtbcojgcjjpggnaaGreatDoor

namespace Go.Proofs.YtbcojgcjjpggnaaGreatDoor.B
open Go Go.RowKit Go.Proofs Go.Proofs.YtbcojgcjjpggnaaGreatDoor.Vc

structure Em where
 e:Ev
 a:Ea
abbrev Em.row(y:Em):List Value:=[.int .i64 y.e.id,.int .i64 y.e.tick,.int .i64 y.e.kind,y.a.n.v,y.a.r.v,y.a.t.v]
abbrev Em.val(y:Em):Value:=y.a.val y.e
abbrev lJ(ys:List Em):List Ev:=ys.map Em.e
structure wm (w:World) (y:Em):Prop where
 n:bR w y.a.n.A 1 (y.e.nums.map fE)
 r:bR w y.a.r.A 1 (y.e.gj.map gi)
 t:bR w y.a.t.A 1 (y.e.texts.map gi)
 ln:y.e.nums.length=y.a.n.n
 lr:y.e.gj.length=y.a.r.n
 lt:y.e.texts.length=y.a.t.n
 bn:y.a.n.n<9223372036854775808
 br:y.a.r.n<9223372036854775808
 bt:y.a.t.n<9223372036854775808
 zn:y.a.n.A=none->y.a.n.c=0
 zr:y.a.r.A=none->y.a.r.c=0
 zt:y.a.t.A=none->y.a.t.c=0
 ir:∀z∈y.e.nums,aS .i64 z
 ik:aS .i64 y.e.kind
theorem wm.av{w w':World}{y:Em}(h:wm w y)(hb:Below w.heap.size w w'):wm w' y:=⟨h.n.below hb,h.r.below hb,h.t.below hb,h.ln,h.lr,h.lt,h.bn,h.br,h.bt,h.zn,h.zr,h.zt,h.ir,h.ik⟩
structure yb (w:World) (A:Option Addr) (n:Nat) (ys:List Em):Prop where
 s:bR w A 6 (ys.map Em.row)
 l:ys.length=n
 b:n<9223372036854775808
 f:∀y∈ys,wm w y
theorem yb.av{w w':World}{A:Option Addr}{n:Nat}{ys:List Em}(h:yb w A n ys)(hb:Below w.heap.size w w'):yb w' A n ys:=⟨h.s.below hb,h.l,h.b,fun y hy=>(h.f y hy).av hb⟩
structure Ds (w:World) (A:Option Addr) (n:Nat) (ys:List Em):Prop where
 s:bR w A 6 (ys.map Em.row)
 l:ys.length=n
 f:∀y∈ys,pN w y.a y.e
 o:∀y∈ys,kZ y.e
 w:∀y∈ys,wm w y
 m:n<=40
theorem Ds.av{w w':World}{A:Option Addr}{n:Nat}{ys:List Em}(h:Ds w A n ys)(hb:Below w.heap.size w w'):Ds w' A n ys:=⟨h.s.below hb,h.l,fun y hy=>(h.f y hy).av hb,h.o,fun y hy=>(h.w y hy).av hb,h.m⟩
def Dt(e:Ev):Bool:=decide (e.nums.length<=24/\e.gj.length<=9/\e.texts.length<=4)&&((e.gj.all fun s=>decide (s.size<=40))&&e.texts.all fun s=>decide (s.size<=70))
def wq(l:List Ev):Bool:=l.all Dt&&decide (l.length<=40)
theorem uI{e:Ev}:Dt e=true↔(e.nums.length<=24/\e.gj.length<=9/\e.texts.length<=4)/\(∀s∈e.gj,s.size<=40)/\∀s∈e.texts,s.size<=70:=by
 unfold Dt;simp only[cz,iv,gu]
theorem wm.ok{w:World}{y:Em}(h:wm w y)(hf:Dt y.e=true):kZ y.e/\pN w y.a y.e:=by
 obtain⟨⟨h1,b,c⟩,d,g⟩:=uI.1 hf;exact⟨⟨h1,b,c,d,g,fun z hz=>by have:=h.ir z hz;simp only[aS]at this;omega⟩,⟨h.n,h.r,h.t,h.ln,h.lr,h.lt,h1,b,c,d,g,h.zr,h.ik⟩⟩
theorem yb.Za{w:World}{A:Option Addr}{n:Nat}{ys:List Em}(h:yb w A n ys)(hf:wq (lJ ys)=true):Ds w A n ys:=by
 unfold wq at hf;rw[cz,iv,eb]at hf;have hl:=h.l;have ok:=fun y hy=>(h.f y hy).ok (gu.1 hf.1 y.e (Iq hy))
 exact⟨h.s,h.l,fun y hy=>(ok y hy).2,fun y hy=>(ok y hy).1,h.f,om⟩
end Go.Proofs.YtbcojgcjjpggnaaGreatDoor.B

set_option maxRecDepth 100000
set_option maxHeartbeats 4000000
namespace Go.Proofs.YtbcojgcjjpggnaaGreatDoor.F
open Go Go.RowKit Go.Proofs Go.Proofs.YtbcojgcjjpggnaaGreatDoor.Vc
open Tryz
variable {A C D E G H J K A0 A1 A2 A3 A4 A5 A6 A7 A8 A9 C0 C1 C2 C3 C4 C5 C6 C7 C8 C9:O} {a b c d e f g i j l m n o a0 a1 a2 a3 a4 a5 a6 a7 a8 a9 b0 b1 b2 b3 b4 b5 b6 b7 b8 b9 c0 c1 c2 c3 c4 c5 c6 c7 c8 c9:Nat} {p q r s t u v x p0 p1 p2 p3 p4 p5 p6 p7 p8 p9 q0 q1 q2 q3 q4 q5 q6 q7 q8 q9:Int} {L M N N0 N1 N2 N3 N4 N5 N6 N7 N8 N9 T0 T1 T2 T3 T4 T5 T6 T7 T8 T9:ByteArray} {Q S:Bool} {B:Nat} {w:World} {R:Kt}
def aK.L2(a:O)(b c:Nat)(d:Int):=Lt 8 f8 2 [vS 0 a b c,vI 3 d] []
def aK.L8(a:O)(b c:Nat)(d e f g i:Int)(j:O)(l m:Nat)(n:O)(o p:Nat)(q:O)(r s:Nat):=Lt 8 f8 8 [vS 0 a b c,vI 3 d,vL 4,vI 5 e] [⟨4,false,32,[(I f),(I g),(I i),(.slice j l m),(.slice n o p),(.slice q r s)]⟩]
def aK.tn(a:O)(b c:Nat)(d e f g i:Int)(j:O)(l m:Nat)(n:O)(o p:Nat)(q:O)(r s:Nat):=Lt 8 f8 13 [vS 0 a b c,vI 3 d,vL 4,vI 6 e] [⟨4,false,32,[(I f),(I g),(I i),(.slice j l m),(.slice n o p),(.slice q r s)]⟩]
def aK.cx:Pm:=([((true,2),[0,3],[]),((true,8),[0,3,4,5],[4]),((true,13),[0,3,4,6],[4])],[])
theorem aK.L2.step
  (h:(Br (p<(a:Int)) (Ix p a A fun v=>(∃f g i j c l m d n o e q,aa w (v.add ((p).toNat*6)) [I f,I g,I i,.slice j c l,.slice m d n,.slice o e q]/\(Br ((c:Int)>24) (∀r,Ext B [] w r->(R (.bool false) r)) (Br ((d:Int)>9) (∀s,Ext B [] w s->(R (.bool false) s)) (Br ((e:Int)>4) (∀t,Ext B [] w t->(R (.bool false) t)) (∀u,Ext B [] w u->(aK.L8 A a b p (0:Int) f g i j c l m d n o e q B u R))))))) (R (.bool (decide ((a:Int)<=(40:Int)))) w))):
  aK.L2 A a b p B w R:=
 lr aK.cx func8 h
theorem aK.L8.step
  (h:(Br (p<(a:Int)) (Ix p a A fun l=>(∃j,aa w (l.add ((p).toNat*1)) [.string j]/\(Br (((ByteArray.size j:Int):Int)>40) (R (.bool false) w) (aS .i64 (p+1)/\(aK.L8 C b c q (p+1) r s t D d e A a f E g i B w R))))) (aK.tn C b c q (0:Int) r s t D d e A a f E g i B w R))):
  aK.L8 C b c q p r s t D d e A a f E g i B w R:=
 lr aK.cx func8 h
theorem aK.tn.step
  (h:(Br (p<(a:Int)) (Ix p a C fun l=>(∃j,aa w (l.add ((p).toNat*1)) [.string j]/\(Br (((ByteArray.size j:Int):Int)>70) (R (.bool false) w) (aS .i64 (p+1)/\(aK.tn A b c q (p+1) r s t D d e E f g C a i B w R))))) (aS .i64 (q+1)/\(aK.L2 A b c (q+1) B w R)))):
  aK.tn A b c q p r s t D d e E f g C a i B w R:=
 lr aK.cx func8 h
theorem aK.vc
  (h:(aK.L2 A a b (0:Int) w.heap.size w R)):
  Pure P 8 #[.slice A a b] w R:=
 pr aK.cx func8 h

def k8.cx:Pm:=([],[(2,0,2),(2,3,2),(3,0,2),(3,3,2),(4,0,2),(4,3,2),(5,0,2),(5,3,2),(6,0,2),(6,3,2),(7,0,2),(7,3,2),(8,0,2),(8,3,2),(9,0,2),(9,3,2)])
theorem k8.vc
  (h:(∀s,Ext w.heap.size [] w s->(Pure P 11 #[.agg #[.slice A a b,.slice C c d,.slice D e f]] s (Rp fun O Q S T U V X Y Z k=>(∀t,Ext w.heap.size [49] k t->(ae P (Instr.buildSlice 40 0 #[]) w.heap.size [49,49] t (Rs fun A8 F c8 d4=>(ae P (Builtin.append_ #[40,40] 40 #[.slice A8 F c8,.slice E g i]) w.heap.size [49,49] d4 (Rs fun d5 d6 d7 d8=>(∀u,Ext w.heap.size [49] d8 u->(ae P (Instr.buildSlice 41 0 #[]) w.heap.size [49,49] u (Rs fun d9 W e1 e2=>(ae P (Builtin.append_ #[41,41] 41 #[.slice d9 W e1,.slice G j l]) w.heap.size [49,49] e2 (Rs fun e3 e4 e5 e6=>(∀v,Ext w.heap.size [49] e6 v->(ae P (Instr.buildSlice 42 0 #[]) w.heap.size [49,49] v (Rs fun e7 e8 e9 g0=>(ae P (Builtin.append_ #[42,42] 42 #[.slice e7 e8 e9,.slice H m n]) w.heap.size [49,49] g0 (Rs fun g1 g2 g3 g4=>(∀x,Ext w.heap.size [49] g4 x->(ae P (Instr.buildSlice 43 0 #[]) w.heap.size [49,49] x (Rs fun g5 g6 g7 g8=>(ae P (Builtin.append_ #[43,43] 43 #[.slice g5 g6 g7,.slice J o a0]) w.heap.size [49,49] g8 (Rs fun g9 j0 j1 j2=>(∀y,Ext w.heap.size [49] j2 y->(ae P (Instr.buildSlice 44 0 #[]) w.heap.size [49,49] y (Rs fun j3 j4 j5 j6=>(ae P (Builtin.append_ #[44,44] 44 #[.slice j3 j4 j5,.slice K a1 a2]) w.heap.size [49,49] j6 (Rs fun j7 j8 j9 l0=>(∀z,Ext w.heap.size [49] l0 z->(ae P (Instr.buildSlice 45 0 #[]) w.heap.size [49,49] z (Rs fun l1 l2 l3 l4=>(ae P (Builtin.append_ #[45,45] 45 #[.slice l1 l2 l3,.slice A0 a3 a4]) w.heap.size [49,49] l4 (Rs fun l5 l6 l7 l8=>(∀L,Ext w.heap.size [49] l8 L->(ae P (Instr.buildSlice 46 0 #[]) w.heap.size [49,49] L (Rs fun l9 m0 m1 m2=>(ae P (Builtin.append_ #[46,46] 46 #[.slice l9 m0 m1,.slice A1 a5 a6]) w.heap.size [49,49] m2 (Rs fun m3 m4 m5 m6=>(∀M,Ext w.heap.size [49] m6 M->(ae P (Instr.buildSlice 47 0 #[]) w.heap.size [49,49] M (Rs fun m7 m8 m9 n0=>(ae P (Builtin.append_ #[47,47] 47 #[.slice m7 m8 m9,.slice A2 a7 a8]) w.heap.size [49,49] n0 (Rs fun n1 n2 n3 n4=>(∀N,Ext w.heap.size [49] n4 N->(R (.agg #[.slice O Q S,.slice T U V,.slice X Y Z,.slice d5 d6 d7,.slice e3 e4 e5,I p,.slice g1 g2 g3,.slice g9 j0 j1,.slice j7 j8 j9,.slice l5 l6 l7,.slice m3 m4 m5,.slice n1 n2 n3,I q,I r]) N)))))))))))))))))))))))))))))))))))))))))))))):
  Pure P 18 #[.agg #[.slice A a b,.slice C c d,.slice D e f,.slice E g i,.slice G j l,I p,.slice H m n,.slice J o a0,.slice K a1 a2,.slice A0 a3 a4,.slice A1 a5 a6,.slice A2 a7 a8,I q,I r]] w R:=
 pr k8.cx func18 h

def bw.L3(a:O)(b c:Nat)(d:O)(e f:Nat)(g:Int):=Lt 25 f25 3 [vS 0 a b c,vS 3 d e f,vI 4 g] []
def bw.cx:Pm:=([((true,3),[0,3,4],[])],[(5,6,2),(5,7,2)])
theorem bw.L3.step
  (h:(Br (p<(a:Int)) (Ix p a A fun L=>(∃e f g i j l m n o q r s,aa w (L.add ((p).toNat*6)) [I e,I f,I g,.slice i j l,.slice m n o,.slice q r s]/\(Pure P 55 #[.agg #[I e,I f,I g,.slice i j l,.slice m n o,.slice q r s]] w fun M N=>∃t u v x y z D E G H J K,M= .agg #[I t,I u,I v,.slice x y z,.slice D E G,.slice H J K]/\(ae P (Instr.buildSlice 22 1 #[(0,(.agg #[I t,I u,I v,.slice x y z,.slice D E G,.slice H J K]))]) B [] N (Rs fun O Q S T=>(ae P (Builtin.append_ #[22,22] 22 #[.slice C b c,.slice O Q S]) B [] T (Rs fun U V X Y=>(aS .i64 (p+1)/\(bw.L3 A a d U V X (p+1) B Y R))))))))) (R (.slice C b c) w))):
  bw.L3 A a d C b c p B w R:=
 lr bw.cx func25 h
theorem bw.vc
  (h:(bw.L3 A a b none 0 0 (0:Int) w.heap.size w R)):
  Pure P 25 #[.slice A a b] w R:=
 pr bw.cx func25 h

def aB.L4(a:Int)(b:O)(c d:Nat)(e:O)(f g:Nat)(i:O)(j l:Nat)(m:O)(n o:Nat)(p:O)(q r:Nat)(s:Int)(t:O)(u v:Nat)(x:O)(y z:Nat)(A:O)(C D:Nat)(E:O)(G H:Nat)(J:O)(K L:Nat)(M:O)(N Q:Nat)(S T:Int)(U:O)(V X:Nat)(Y:O)(Z d0:Nat)(d1:O)(d2 d3:Nat)(d4:O)(d5 d6:Nat)(d7:O)(d8 d9:Nat)(h:Int)(k:O)(F P:Nat)(W:O)(e5 e6:Nat)(e7:O)(e8 e9:Nat)(g0:O)(g1 g2:Nat)(g3:O)(g4 g5:Nat)(g6:O)(g7 g8:Nat)(g9 j0:Int):=Lt 28 f28 4 [vL 2,vL 3,vI 5 a] [⟨2,false,49,[(.slice b c d),(.slice e f g),(.slice i j l),(.slice m n o),(.slice p q r),(I s),(.slice t u v),(.slice x y z),(.slice A C D),(.slice E G H),(.slice J K L),(.slice M N Q),(I S),(I T)]⟩,⟨3,false,49,[(.slice U V X),(.slice Y Z d0),(.slice d1 d2 d3),(.slice d4 d5 d6),(.slice d7 d8 d9),(I h),(.slice k F P),(.slice W e5 e6),(.slice e7 e8 e9),(.slice g0 g1 g2),(.slice g3 g4 g5),(.slice g6 g7 g8),(I g9),(I j0)]⟩]
def aB.L9(a:Int)(b:O)(c d:Nat)(e:O)(f g:Nat)(i:O)(j l:Nat)(m:O)(n o:Nat)(p:O)(q r:Nat)(s:Int)(t:O)(u v:Nat)(x:O)(y z:Nat)(A:O)(C D:Nat)(E:O)(G H:Nat)(J:O)(K L:Nat)(M:O)(N Q:Nat)(S T:Int)(U:O)(V X:Nat)(Y:O)(Z d0:Nat)(d1:O)(d2 d3:Nat)(d4:O)(d5 d6:Nat)(d7:O)(d8 d9:Nat)(h:Int)(k:O)(F P:Nat)(W:O)(e5 e6:Nat)(e7:O)(e8 e9:Nat)(g0:O)(g1 g2:Nat)(g3:O)(g4 g5:Nat)(g6:O)(g7 g8:Nat)(g9 j0:Int):=Lt 28 f28 9 [vL 2,vL 3,vI 6 a] [⟨2,false,49,[(.slice b c d),(.slice e f g),(.slice i j l),(.slice m n o),(.slice p q r),(I s),(.slice t u v),(.slice x y z),(.slice A C D),(.slice E G H),(.slice J K L),(.slice M N Q),(I S),(I T)]⟩,⟨3,false,49,[(.slice U V X),(.slice Y Z d0),(.slice d1 d2 d3),(.slice d4 d5 d6),(.slice d7 d8 d9),(I h),(.slice k F P),(.slice W e5 e6),(.slice e7 e8 e9),(.slice g0 g1 g2),(.slice g3 g4 g5),(.slice g6 g7 g8),(I g9),(I j0)]⟩]
def aB.xY(a:Int)(b:O)(c d:Nat)(e:O)(f g:Nat)(i:O)(j l:Nat)(m:O)(n o:Nat)(p:O)(q r:Nat)(s:Int)(t:O)(u v:Nat)(x:O)(y z:Nat)(A:O)(C D:Nat)(E:O)(G H:Nat)(J:O)(K L:Nat)(M:O)(N Q:Nat)(S T:Int)(U:O)(V X:Nat)(Y:O)(Z d0:Nat)(d1:O)(d2 d3:Nat)(d4:O)(d5 d6:Nat)(d7:O)(d8 d9:Nat)(h:Int)(k:O)(F P:Nat)(W:O)(e5 e6:Nat)(e7:O)(e8 e9:Nat)(g0:O)(g1 g2:Nat)(g3:O)(g4 g5:Nat)(g6:O)(g7 g8:Nat)(g9 j0:Int):=Lt 28 f28 14 [vL 2,vL 3,vI 7 a] [⟨2,false,49,[(.slice b c d),(.slice e f g),(.slice i j l),(.slice m n o),(.slice p q r),(I s),(.slice t u v),(.slice x y z),(.slice A C D),(.slice E G H),(.slice J K L),(.slice M N Q),(I S),(I T)]⟩,⟨3,false,49,[(.slice U V X),(.slice Y Z d0),(.slice d1 d2 d3),(.slice d4 d5 d6),(.slice d7 d8 d9),(I h),(.slice k F P),(.slice W e5 e6),(.slice e7 e8 e9),(.slice g0 g1 g2),(.slice g3 g4 g5),(.slice g6 g7 g8),(I g9),(I j0)]⟩]
def aB.cx:Pm:=([((true,4),[2,3,5],[2,3]),((true,9),[2,3,6],[2,3]),((true,14),[2,3,7],[2,3])],[])
theorem aB.L4.step{c d e f g i j l m n a o x y z L M N O Q S T U V X Y Z d0 d1 d2 d3 d4 b d5 d6 d7 d8 d9 k F P W e4 e5 B:Nat}
  (h:(Br (p<(a:Int)) (Ix p a A fun a5=>(∃i6 s7 s8 s9 g0 g1 g2,aa w (a5.add ((p).toNat*7)) [I i6,.string s7,.string s8,.string s9,.string g0,.string g1,.string g2]/\(Ix p b C fun j3=>(∃g3 g4 g5 g6 g7 g8 g9,aa w (j3.add ((p).toNat*7)) [I g3,.string g4,.string g5,.string g6,.string g7,.string g8,.string g9]/\(Br (¬(i6=g3/\s7=g4/\s8=g5/\s9=g6/\g0=g7/\g1=g8/\g2=g9/\True)) (∀j0,Ext B [] w j0->(R (.bool false) j0)) (aS .i64 (p+1)/\(∀j1,Ext B [] w j1->(aB.L4 (p+1) D c d E e f G g i H j l J m n q A a o K x y A0 z L A1 M N A2 O Q A3 S T r s A4 U V A5 X Y A6 Z d0 A7 d1 d2 A8 d3 d4 t C b d5 A9 d6 d7 C0 d8 d9 C1 k F C2 P W C3 e4 e5 u v B j1 R)))))))) (aB.L9 (0:Int) D c d E e f G g i H j l J m n q A a o K x y A0 z L A1 M N A2 O Q A3 S T r s A4 U V A5 X Y A6 Z d0 A7 d1 d2 A8 d3 d4 t C b d5 A9 d6 d7 C0 d8 d9 C1 k F C2 P W C3 e4 e5 u v B w R))):
  aB.L4 p D c d E e f G g i H j l J m n q A a o K x y A0 z L A1 M N A2 O Q A3 S T r s A4 U V A5 X Y A6 Z d0 A7 d1 d2 A8 d3 d4 t C b d5 A9 d6 d7 C0 d8 d9 C1 k F C2 P W C3 e4 e5 u v B w R:=
 lr aB.cx func28 h
theorem aB.L9.step{c d e f g i j l m n o x y z a L M N O Q S T U V X Y Z d0 d1 d2 d3 d4 d5 d6 d7 d8 b d9 k F P W e4 e5 B:Nat}
  (h:(Br (p<(a:Int)) (Ix p a A fun j4=>(∃e6 e7 e8 e9 g0 g1 g2 g3,aa w (j4.add ((p).toNat*8)) [I e6,I e7,I e8,I e9,.bool g0,.string g1,.string g2,.string g3]/\(Ix p b C fun j5=>(∃g4 g5 g6 g7 g8 g9 j0 j1,aa w (j5.add ((p).toNat*8)) [I g4,I g5,I g6,I g7,.bool g8,.string g9,.string j0,.string j1]/\(Br (¬(e6=g4/\e7=g5/\e8=g6/\e9=g7/\g0=g8/\g1=g9/\g2=j0/\g3=j1/\True)) (∀j2,Ext B [] w j2->(R (.bool false) j2)) (aS .i64 (p+1)/\(∀j3,Ext B [] w j3->(aB.L9 (p+1) D c d E e f G g i H j l J m n q K o x A0 y z A a L A1 M N A2 O Q A3 S T r s A4 U V A5 X Y A6 Z d0 A7 d1 d2 A8 d3 d4 t A9 d5 d6 C0 d7 d8 C b d9 C1 k F C2 P W C3 e4 e5 u v B j3 R)))))))) (aB.xY (0:Int) D c d E e f G g i H j l J m n q K o x A0 y z A a L A1 M N A2 O Q A3 S T r s A4 U V A5 X Y A6 Z d0 A7 d1 d2 A8 d3 d4 t A9 d5 d6 C0 d7 d8 C b d9 C1 k F C2 P W C3 e4 e5 u v B w R))):
  aB.L9 p D c d E e f G g i H j l J m n q K o x A0 y z A a L A1 M N A2 O Q A3 S T r s A4 U V A5 X Y A6 Z d0 A7 d1 d2 A8 d3 d4 t A9 d5 d6 C0 d7 d8 C b d9 C1 k F C2 P W C3 e4 e5 u v B w R:=
 lr aB.cx func28 h
theorem aB.xY.step{b c d e f g i j l m d8 d9 n o k F x y a W z L M N O Q S T U V X Y e3 e4 Z d0 e5 e6 d1 d2 d3 e7 d4 d5 B:Nat}
  (h:(Br (p<(a:Int)) (Ix p a K fun j2=>(∃e8 e9 g0 g1,aa w (j2.add ((p).toNat*4)) [I e8,I e9,.string g0,.string g1]/\(Ix p d3 A8 fun j3=>(∃g2 g3 g4 g5,aa w (j3.add ((p).toNat*4)) [I g2,I g3,.string g4,.string g5]/\(Br (¬(e8=g2/\e9=g3/\g0=g4/\g1=g5/\True)) (∀g6,Ext B [] w g6->(R (.bool false) g6)) (aS .i64 (p+1)/\(∀g7,Ext B [] w g7->(aB.xY (p+1) A b c C d e D f g E i j G l m q C0 d8 d9 H n o C1 k F J x y K a W A0 z L r s A1 M N A2 O Q A3 S T A4 U V A5 X Y t C2 e3 e4 A6 Z d0 C3 e5 e6 A7 d1 d2 A8 d3 e7 A9 d4 d5 u v B g7 R)))))))) (Pure P 62 #[.agg #[.slice A b c,.slice C d e,.slice D f g],.agg #[.slice A1 M N,.slice A2 O Q,.slice A3 S T]] w (Rb fun j4 g8=>(Bb j4 (Pure P 63 #[.slice E i j,.slice A4 U V] g8 (Rb fun j5 g9=>(Bb j5 (Pure P 64 #[.slice G l m,.slice A5 X Y] g9 (Rb fun j6 d6=>(Bb j6 (Br (q=t) (Pure P 65 #[.slice H n o,.slice A6 Z d0] d6 (Rb fun j7 j0=>(Bb j7 (Pure P 66 #[.slice J x y,.slice A7 d1 d2] j0 (Rb fun j8 j1=>(Bb j8 (Pure P 67 #[.slice A0 z L,.slice A9 d4 d5] j1 (Rb fun j9 d7=>(Bb j9 (Br (r=u) (R (.bool (decide (s=v))) d7) (R (.bool false) d7)) (R (.bool false) d7)))) (R (.bool false) j1)))) (R (.bool false) j0)))) (R (.bool false) d6)) (R (.bool false) d6)))) (R (.bool false) g9)))) (R (.bool false) g8)))))):
  aB.xY p A b c C d e D f g E i j G l m q C0 d8 d9 H n o C1 k F J x y K a W A0 z L r s A1 M N A2 O Q A3 S T A4 U V A5 X Y t C2 e3 e4 A6 Z d0 C3 e5 e6 A7 d1 d2 A8 d3 e7 A9 d4 d5 u v B w R:=
 lr aB.cx func28 h
theorem aB.vc{g i j l m n o v x y a z L M b N O Q c S T U V X Y Z d0 d1 d2 d3 d4 d5 d d6 d7 d8 e d9 k F f W e3 e4:Nat}
  (h:(Br ((a:Int)≠(d:Int)) (∀w1,Ext w.heap.size [] w w1->(R (.bool false) w1)) (Br ((b:Int)≠(e:Int)) (∀w2,Ext w.heap.size [] w w2->(R (.bool false) w2)) (Br ((c:Int)≠(f:Int)) (∀w3,Ext w.heap.size [] w w3->(R (.bool false) w3)) (∀w4,Ext w.heap.size [] w w4->(aB.L4 (0:Int) A g i C j l D m n E o v G x y p H a z J L M K b N A0 O Q A1 c S A2 T U q r A3 V X A4 Y Z A5 d0 d1 A6 d2 d3 A7 d4 d5 s A8 d d6 A9 d7 d8 C0 e d9 C1 k F C2 f W C3 e3 e4 t u w.heap.size w4 R)))))):
  Pure P 28 #[.agg #[.slice A g i,.slice C j l,.slice D m n,.slice E o v,.slice G x y,I p,.slice H a z,.slice J L M,.slice K b N,.slice A0 O Q,.slice A1 c S,.slice A2 T U,I q,I r],.agg #[.slice A3 V X,.slice A4 Y Z,.slice A5 d0 d1,.slice A6 d2 d3,.slice A7 d4 d5,I s,.slice A8 d d6,.slice A9 d7 d8,.slice C0 e d9,.slice C1 k F,.slice C2 f W,.slice C3 e3 e4,I t,I u]] w R:=
 pr aB.cx func28 h

end Go.Proofs.YtbcojgcjjpggnaaGreatDoor.F

set_option maxRecDepth 100000
set_option maxHeartbeats 4000000
namespace Go.Proofs.YtbcojgcjjpggnaaGreatDoor.F
open Go Go.RowKit Go.Proofs Go.Proofs.YtbcojgcjjpggnaaGreatDoor.Vc
open Tryz
variable {A C D E G H J K A0 A1 A2 A3 A4 A5 A6 A7 A8 A9 C0 C1 C2 C3 C4 C5 C6 C7 C8 C9:O} {a b c d e f g i j l m n o a0 a1 a2 a3 a4 a5 a6 a7 a8 a9 b0 b1 b2 b3 b4 b5 b6 b7 b8 b9 c0 c1 c2 c3 c4 c5 c6 c7 c8 c9:Nat} {p q r s t u v x p0 p1 p2 p3 p4 p5 p6 p7 p8 p9 q0 q1 q2 q3 q4 q5 q6 q7 q8 q9:Int} {L M N N0 N1 N2 N3 N4 N5 N6 N7 N8 N9 T0 T1 T2 T3 T4 T5 T6 T7 T8 T9:ByteArray} {Q S:Bool} {B:Nat} {w:World} {R:Kt}
def iw.cx:Pm:=([],[(1,0,2),(1,3,2),(2,0,2),(2,3,2),(3,0,2),(3,3,2)])
theorem iw.vc
  (h:(∀g,Ext w.heap.size [] w g->(ae P (Instr.buildSlice 28 0 #[]) w.heap.size [32,32] g (Rs fun m n o s=>(ae P (Builtin.append_ #[28,28] 28 #[.slice m n o,.slice A a b]) w.heap.size [32,32] s (Rs fun t u v x=>(∀i,Ext w.heap.size [32] x i->(ae P (Instr.buildSlice 29 0 #[]) w.heap.size [32,32] i (Rs fun y z E G=>(ae P (Builtin.append_ #[29,29] 29 #[.slice y z E,.slice C c d]) w.heap.size [32,32] G (Rs fun H J K L=>(∀j,Ext w.heap.size [32] L j->(ae P (Instr.buildSlice 30 0 #[]) w.heap.size [32,32] j (Rs fun M N O Q=>(ae P (Builtin.append_ #[30,30] 30 #[.slice M N O,.slice D e f]) w.heap.size [32,32] Q (Rs fun S T U V=>(∀l,Ext w.heap.size [32] V l->(R (.agg #[I p,I q,I r,.slice t u v,.slice H J K,.slice S T U]) l)))))))))))))))))):
  Pure P 55 #[.agg #[I p,I q,I r,.slice A a b,.slice C c d,.slice D e f]] w R:=
 pr iw.cx func55 h

end Go.Proofs.YtbcojgcjjpggnaaGreatDoor.F

namespace Go.Proofs.YtbcojgcjjpggnaaGreatDoor.B
open Go Go.RowKit Go.Proofs Go.Proofs.YtbcojgcjjpggnaaGreatDoor.Vc

theorem qh:El Tryz.prog 30 9 1 16:=El.of kF
theorem sX:El Tryz.prog 22 32 6 96:=El.of kF
theorem MI(l:List ByteArray):(∀r∈l.map gi,r.length=1)/\∀r∈l.map gi,∀u∈r,bo u=true:=fg (fun _=>rfl) (fun x u h=>by simp only[gi,ec]at h;rw[h];rfl)
theorem VP(l:List Int):(∀r∈l.map fE,r.length=1)/\∀r∈l.map fE,∀u∈r,bo u=true:=fg (fun _=>rfl) (fun x u h=>by simp only[fE,ec]at h;rw[h];rfl)
theorem mu{t ty e sz bytes:Nat}(el:El Tryz.prog t e sz bytes){B:Nat}{tys:List Nat}{w:World}{A2:Option Addr}{m c2:Nat}{more:List (List Value)}(i:bR w A2 sz more)(hm:more.length=m)(d:(∀r∈more,r.length=sz)/\∀r∈more,∀u∈r,bo u=true)(hz:A2=none->c2=0)
  (hB:B<=w.heap.size) (nC:m*(bytes+1)<=140737488355328) (j:e∉tys) {K:Option Addr->Nat->Nat->World->Prop} (h:∀A' c' a,aF a w.heap.size e A' m c' sz more->Below w.heap.size w a->K A' m c' a):
  ae Tryz.prog (Instr.buildSlice t 0 #[]) B tys w fun r w1=>∃A n c,r= .slice A n c/\
   ae Tryz.prog (Builtin.append_ #[t,t] ty #[.slice A n c,.slice A2 m c2]) B tys w1 fun r a=>∃A n c,r= .slice A n c/\K A n c a:=by
 refine bc el [] sm sm hB fun A c a o b=> ?_
 refine xJ el (B:=w.heap.size) hB (by simpa using o) (i.below b) hm d.1 d.2 hz b.size (by simpa using nC) j fun A' c' k g _ l=> ?_
 simp only[vu,jx,rT]at g⊢;exact h A' c' k g (b.trans l)
section
variable {w:World} {A:Option Addr} {n c:Nat} {ys:List Em}
theorem VQ{i:Nat}(hi:i<ys.length)(h:Dt ys[i].e=false):wq (lJ ys)=false:=by
 unfold wq;rw[all_false (x:=ys[i].e) (Iq (bA hi)) h,Fc]
theorem MJ(h:yb w A n ys):Pure Tryz.prog 8 #[.slice A n c] w fun v _=>v= .bool (wq (lJ ys)):=by
 have hl:=h.l;have hn:=h.b;have key:∀(d i:Nat)(w':World),n - i=d->i<=n->Below w.heap.size w w'->(∀y∈ys.take i,Dt y.e=true)->F.aK.L2 A n c i w.heap.size w' fun v _=>v= .bool (wq (lJ ys)):=by
  intro d;induction d with
  |zero=>
   intro i w' I hi hw ha;rw[cd om]at ha;refine F.aK.L2.step ⟨fun h=>by omega,fun _=>ca Value.bool ?_⟩;unfold wq;rw[gu.2 fun r m=>by
    obtain⟨x,hx,rfl⟩:=gX.1 m;exact ha x hx,vd,kh,eb]
   omega
  |succ d ih=>
   intro i w' I hi hw ha;have D:i<ys.length:=om;have J:=sc i;obtain⟨hb,a,C,g,_⟩:=((h.av hw).s).at_ (row:=Em.row) (fun _=>rfl) hl D;have raw:=h.f _ (bA D);have ln:=raw.ln;have lr:=raw.lr;have lt:=raw.lt;have br:=raw.br;have bt:=raw.bt;have bad:Dt ys[i].e=false->∀o:World,(fun(v:Value) (_:World)=>v= .bool (wq (lJ ys))) (.bool false) o:=fun k _=>by
    show Value.bool false=_;rw[VQ D k]
   have z:¬(ys[i].e.nums.length<=24/\ys[i].e.gj.length<=9/\ys[i].e.texts.length<=4)->Dt ys[i].e=false:=fun k=>by
    unfold Dt;rw[ep k,Fc]
   refine F.aK.L2.step ⟨fun _=>⟨hb,a,C,_,_,_,_,_,_,_,_,_,_,_,_,g,fun K o _=>bad (z om) o,fun K=>⟨fun L o _=>bad (z om) o,fun L=>⟨fun M o _=>bad (z om) o,fun M N O=> ?_⟩⟩⟩,fun h=>by omega⟩;have last:∀(e j:Nat)(w':World),ys[i].a.t.n - j=e->j<=ys[i].a.t.n->Below w.heap.size w w'->(∀s∈ys[i].e.gj,s.size<=40)->(∀s∈ys[i].e.texts.take j,s.size<=70)->
     F.aK.tn A n c i j ys[i].e.id ys[i].e.tick ys[i].e.kind ys[i].a.n.A ys[i].a.n.n ys[i].a.n.c ys[i].a.r.A ys[i].a.r.n ys[i].a.r.c ys[i].a.t.A ys[i].a.t.n ys[i].a.t.c w.heap.size w' fun v _=>v= .bool (wq (lJ ys)):=by
    intro e;induction e with
    |zero=>
     intro j w' he hj hw m E;rw[cd om]at E;refine F.aK.tn.step ⟨fun h=>by omega,fun _=>⟨ir,?_⟩⟩;rw[J];refine ih (i+1) w' om om hw fun y hy=> ?_
     rw[eU,af D]at hy;rcases ga.1 hy with hy|hy
     ·exact ha y hy
     ·simp only[FL,ec]at hy;subst hy;exact uI.2 ⟨⟨om,om,om⟩,m,E⟩
    |succ e G=>
     intro j w' he hj hw m E;have B:j<ys[i].e.texts.length:=om;obtain⟨hb,a,C,g,_⟩:=(raw.t.below hw).at_ (row:=gi) (fun _=>rfl) lt B;refine F.aK.tn.step ⟨fun _=>⟨hb,a,C,_,g,fun k=>bad (Hu.2 fun q=> ?_) w',fun k=>⟨ir,?_⟩⟩,fun h=>by omega⟩
     ·have:=(uI.1 q).2.2 _ (bA B);omega
     ·rw[show(j:Int)+1=((j+1:Nat):Int) by omega];refine G (j+1) w' om om hw m fun s hs=> ?_
      rw[eU,af B]at hs;rcases ga.1 hs with hs|hs
      ·exact E s hs
      ·simp only[FL,ec]at hs;subst hs;omega
   have H:∀(e j:Nat)(w':World),ys[i].a.r.n - j=e->j<=ys[i].a.r.n->Below w.heap.size w w'->(∀s∈ys[i].e.gj.take j,s.size<=40)->
     F.aK.L8 A n c i j ys[i].e.id ys[i].e.tick ys[i].e.kind ys[i].a.n.A ys[i].a.n.n ys[i].a.n.c ys[i].a.r.A ys[i].a.r.n ys[i].a.r.c ys[i].a.t.A ys[i].a.t.n ys[i].a.t.c w.heap.size w' fun v _=>v= .bool (wq (lJ ys)):=by
    intro e;induction e with
    |zero=>
     intro j w' he hj hw m;rw[cd om]at m;exact F.aK.L8.step ⟨fun h=>by omega,fun _=>last _ 0 w' rfl om hw m sm⟩
    |succ e G=>
     intro j w' he hj hw m;have B:j<ys[i].e.gj.length:=om;obtain⟨hb,a,C,g,_⟩:=(raw.r.below hw).at_ (row:=gi) (fun _=>rfl) lr B;refine F.aK.L8.step ⟨fun _=>⟨hb,a,C,_,g,fun k=>bad (Hu.2 fun q=> ?_) w',fun k=>⟨ir,?_⟩⟩,fun h=>by omega⟩
     ·have:=(uI.1 q).2.1 _ (bA B);omega
     ·rw[show(j:Int)+1=((j+1:Nat):Int) by omega];refine G (j+1) w' om om hw fun s hs=> ?_
      rw[eU,af B]at hs;rcases ga.1 hs with hs|hs
      ·exact m s hs
      ·simp only[FL,ec]at hs;subst hs;omega
   exact H _ 0 N rfl om (kE hw O) sm
 exact F.aK.vc (key n 0 w rfl om (Below.refl _ _) sm)
structure vy (w:World) (B:Nat) (a:Ea) (e:Ev):Prop where
 n:aF w B 3 a.n.A a.n.n a.n.c 1 (e.nums.map fE)
 r:aF w B 88 a.r.A a.r.n a.r.c 1 (e.gj.map gi)
 t:aF w B 9 a.t.A a.t.n a.t.c 1 (e.texts.map gi)
theorem vy.below{w w':World}{B:Nat}{a:Ea}{e:Ev}(h:vy w B a e)(hb:Below w.heap.size w w'):vy w' B a e:=⟨h.n.below hb,h.r.below hb,h.t.below hb⟩
theorem vy.bW{w w':World}{B:Nat}{a:Ea}{e:Ev}(h:vy w B a e)(s:bH 32 w w'):vy w' B a e:=⟨h.n.bW s dc,h.r.bW s dc,h.t.bW s dc⟩
theorem vy.base{w:World}{B b:Nat}{a:Ea}{e:Ev}(h:vy w B a e)(hb:b<=B):vy w b a e:=⟨h.n.base hb,h.r.base hb,h.t.base hb⟩
theorem vy.raw{w:World}{B:Nat}{a:Ea}{e:Ev}(h:vy w B a e)(ok:kZ e)(b:aS .i64 e.kind):wm w ⟨e,a⟩:=by
 have l1:=h.n.rows;have d:=h.r.rows;have g:=h.t.rows;have m1:=ok.mn;have m2:=ok.mr;have m3:=ok.mt;exact⟨h.n.sl,h.r.sl,h.t.sl,l1,d,g,by show a.n.n<_;omega,by show a.r.n<_;omega,by show a.t.n<_;omega,h.n.pM,h.r.pM,h.t.pM,fun z hz=>by have:=ok.ir z hz;simp only[aS];omega,b⟩
theorem kZ.Za{e:Ev}(ok:kZ e):Dt e=true:=uI.2 ⟨⟨ok.mn,ok.mr,ok.mt⟩,ok.sr,ok.st⟩
theorem Du{y:Em}(h:wm w y)(ok:kZ y.e):Pure Tryz.prog 55 #[y.val] w fun v w'=>∃o,v=o.val y.e/\vy w' w.heap.size o y.e:=by
 have l1:=h.ln;have C:=h.lr;have D:=h.lt;have m1:=ok.mn;have m2:=ok.mr;have m3:=ok.mt;refine F.iw.vc fun w1 E=> ?_
 have b:=k0 E;refine mu gK (h.n.below b) (by rw[eb];exact l1) (VP _) h.zn b.size om dc fun A5 c5 G H I Q q=> ?_
 have J:=kP b I;have d:=kE J q;refine mu ny (h.r.below d) (by rw[eb];exact C) (MI _) h.zr d.size om dc fun g c12 K i x R z=> ?_
 have L:=kP d x;have j:=kE L z;refine mu qh (h.t.below j) (by rw[eb];exact D) (MI _) h.zt j.size om dc fun k l M N O m P=> ?_
 have B:bH 32 M m:=bH.ext P;have s2:bH 32 K m:=(bH.ext z).trans ((bH.low O).trans B);have s1:bH 32 G m:=(bH.ext q).trans ((bH.low x).trans s2);exact⟨⟨⟨A5,y.a.n.n,c5⟩,⟨g,y.a.r.n,c12⟩,⟨k,y.a.t.n,l⟩⟩,rfl,(H.bW s1 dc).base b.size,(i.bW s2 dc).base d.size,(N.bW B dc).base j.size⟩
structure iY (w:World) (B:Nat) (A:Option Addr) (n c:Nat) (ys:List Em):Prop where
 s:aF w B 32 A n c 6 (ys.map Em.row)
 f:∀y∈ys,vy w B y.a y.e
 o:∀y∈ys,kZ y.e/\aS .i64 y.e.kind
theorem iY.below{w w':World}{B:Nat}{A:Option Addr}{n c:Nat}{ys:List Em}(h:iY w B A n c ys)(hb:Below w.heap.size w w'):iY w' B A n c ys:=⟨h.s.below hb,fun y hy=>(h.f y hy).below hb,h.o⟩
theorem iY.AI{w:World}{B:Nat}{A:Option Addr}{n c:Nat}{ys:List Em}(h:iY w B A n c ys)(hn:n<=40):Ds w A n ys:=
 ⟨h.s.sl,h.s.rows,fun y hy=>(((h.f y hy).raw (h.o y hy).1 (h.o y hy).2).ok (h.o y hy).1.Za).2,fun y hy=>(h.o y hy).1,fun y hy=>(h.f y hy).raw (h.o y hy).1 (h.o y hy).2,hn⟩
theorem CC(h:Ds w A n ys):Pure Tryz.prog 25 #[.slice A n c] w fun v w'=>∃A' c' zs,v= .slice A' n c'/\iY w' w.heap.size A' n c' zs/\lJ zs=lJ ys:=by
 have hl:=h.l;have hm:=h.m;have key:∀(d i:Nat)(k:Option Addr)(no co:Nat)(zs:List Em)(w':World),n - i=d->i<=n->Below w.heap.size w w'->iY w' w.heap.size k no co zs->lJ zs=lJ (ys.take i)->
   F.bw.L3 A n c k no co i w.heap.size w' fun v w'=>∃A' c' zs,v= .slice A' n c'/\iY w' w.heap.size A' n c' zs/\lJ zs=lJ ys:=by
  intro d;induction d with
  |zero=>
   intro i k no co zs w' D hi hw ho he;rw[cd om]at he;refine F.bw.L3.step ⟨fun h=>by omega,fun _=> ?_⟩;have h1:=ho.s.rows;have q:=ca List.length he;rw[eb,eb]at q;obtain rfl:no=n:=om;exact⟨_,_,zs,rfl,ho,he⟩
  |succ d ih=>
   intro i k no co zs w' D hi hw ho he;have j:i<ys.length:=om;have E:=sc i;obtain⟨hb,a,G,b,_⟩:=((h.av hw).s).at_ (row:=Em.row) (fun _=>rfl) hl j;have L:no<=40:=by
    have h1:=ho.s.rows;have q:=ca List.length he;rw[eb,eb,eH]at q;omega
   refine F.bw.L3.step ⟨fun _=>⟨hb,a,G,_,_,_,_,_,_,_,_,_,_,_,_,b,pm (Du (((h.av hw).w _ (bA j))) (h.o _ (bA j))) ?_⟩,fun h=>by omega⟩;rintro v H r ⟨z,rfl,I⟩;have B:=kP hw r;refine⟨_,_,_,_,_,_,_,_,_,_,_,_,rfl,?_⟩;have g:=ho.below r;refine sA sX lf g.s (x:=z.val ys[i].e) rfl (by simp[Value.cells,bo]) B.size om dc fun A3 c3 C J g3 K=>⟨ir,?_⟩
   have st:bH 32 H C:=bH.grown g.s g3;rw[E];refine ih (i+1) A3 _ c3 (zs++[⟨ys[i].e,z⟩]) C om om (B.trans K) ⟨by rw[eL];exact J,?_,?_⟩ ?_
   ·intro y hy;rcases ga.1 hy with hy|hy
    ·exact(g.f y hy).bW st
    ·rw[ec.1 hy];exact(I.base hw.size).bW st
   ·intro y hy;rcases ga.1 hy with hy|hy
    ·exact ho.o y hy
    ·rw[ec.1 hy];show kZ ys[i].e/\aS .i64 ys[i].e.kind;exact⟨h.o _ (bA j),(h.f _ (bA j)).ik⟩
   ·unfold lJ at he⊢;rw[eL,he,eU,af j,eL];rfl
 exact F.bw.vc (key n 0 none 0 0 [] w rfl om (Below.refl _ _) ⟨aF.nil,nofun,nofun⟩ rfl)
end

theorem VR{w:World}{A:Option Addr}{n c:Nat}{l:List Em}(hl:bR w A 6 (l.map Em.row))(hlen:l.length=n)(hn:n<2147483648){f:Nat}{a k:Array Value}(cB:az Tryz.prog f=true){p:Em->Bool}
  (hf:∀w',Below w.heap.size w w'->∀x∈l,Pure Tryz.prog f (a.toList++([Em.val x]:List Value)++k.toList).toArray w' fun v _=>v= .bool (p x)):
  Pure Tryz.prog 110 #[.slice A n c,.func (.func f) a k] w fun v _=>v= .int .i64 (fD p 0 l):=
 F.aO.vc (pE (val:=Em.val) hlen hn hf (R:=fun v _=>v= .int .i64 (fD p 0 l)) (fun _=>rfl) (L:=fun i w'=>F.aO.L2 A n c f a k n i w.heap.size w' fun v _=>v= .int .i64 (fD p 0 l))
  (fun i w' h1 d=>F.aO.L2.step ⟨fun q=>absurd q h1,fun _=>d⟩)
  (fun i w' hi hw h=>F.aO.L2.step ⟨fun _=>by obtain⟨hb,e,g,b,_⟩:=(hl.av hw lf).at_ (row:=Em.row) (fun _=>rfl) hlen hi;exact⟨hb,e,g,_,_,_,_,_,_,_,_,_,_,_,_,b,cB,h⟩,fun q=>by omega⟩)
  n 0 w rfl om (Below.refl _ _) rfl)
theorem Sa(l:List Em):(∀r∈l.map Em.row,r.length=6)/\∀r∈l.map Em.row,∀u∈r,bo u=true:=fg (fun _=>rfl) (fun x u h=>by simp only[Em.row,cy,fX,tu]at h;rcases h with rfl|rfl|rfl|rfl|rfl|rfl<;>rfl)
theorem VS{w:World}{A:Option Addr}{n c:Nat}{l:List Em}(h:bR w A 6 (l.map Em.row))(hlen:l.length=n)(hn:n<=1000000):
  Pure Tryz.prog 57 #[.slice A n c] w fun v w'=>∃A' c',v= .slice A' n c'/\aF w' w.heap.size 32 A' n c' 6 (l.map Em.row):=
 F.eM.vc (gz (R:=fun v w'=>∃A' c',v= .slice A' n c'/\aF w' w.heap.size 32 A' n c' 6 (l.map Em.row)) sX h (by simpa using hlen) (Sa l).1 (Sa l).2 om fun A' c' w' o=>⟨A',c',rfl,o⟩)
theorem CD:(Tryz.prog.info? 32).bind (·.zero)=some (.agg #[.int .i64 0,.int .i64 0,.int .i64 0,.slice none 0 0,.slice none 0 0,.slice none 0 0]):=kF

theorem VT{w0:World}{B:Nat}{A:Option Addr}{n c:Nat}{l:List Em}(hlen:l.length=n)(hn:n<2147483648)(Z:n<=c){f:Nat}{a k:Array Value}(cB:az Tryz.prog f=true){p:Em->Bool}
  (hf:∀w,qp A w0 w->∀x:Em,Pure Tryz.prog f (a.toList++([Em.val x]:List Value)++k.toList).toArray w fun v _=>v= .bool (p x)) {R:Value->World->Prop}
  (hR:∀m w,qp A w0 w->aF w B 32 A m c 6 ((l.filter fun x=> !p x).map Em.row)->R (.slice A m c) w):
  ∀(d i j:Nat)(cur:List Em)(w:World),n - j=d->j<=n->i<=j->cur.length=n->aF w B 32 A n c 6 (cur.map Em.row)->cur.take i=(l.take j).filter (fun x=> !p x)->cur.drop j=l.drop j->qp A w0 w->B<=w.heap.size->
   F.aH.L5 A n c f a k i j B w R:=by
 intro d;induction d with
 |zero=>
  intro i j cur w hd hj L y ho g H z b;have:j=n:=om;subst this;rw[cd (l:=l) om]at g;refine F.aH.L5.step ⟨fun h=>by omega,fun _=>⟨om,?_⟩⟩;have os:=ho.short (m:=i) om;rw[<-En,g]at os;rw[cc];refine uh sX CD (by simp[Value.cells,bo]) os L Z fun M o2 C k2=>⟨om,hR i M (z.trans ⟨C.size,k2⟩) o2⟩
 |succ d ih=>
  intro i j cur w hd hj L y ho g H z b;have N:j<l.length:=om;have o:j<cur.length:=om;have I:cur[j]=l[j]:=by
   have h1:(cur.drop j)[0]? =(l.drop j)[0]? :=by rw[H]
   rw[kp,kp]at h1;simpa[N,o]using h1
  have O:=sc j;have e4:=sc i;have P:cur.drop (j+1)=l.drop (j+1):=by
   have:=ca (List.drop 1) H;simpa[NZ]using this
  have q:l.take (j+1)=l.take j++[l[j]]:=by rw[eU,af N];rfl
  obtain⟨hb,ad,hA,e,_⟩:=ho.sl.at_ (fun _=>rfl) y o;refine F.aH.L5.step ⟨fun _=>⟨hb,ad,hA,_,_,_,_,_,_,_,_,_,_,_,_,e,?_⟩,fun h=>by omega⟩;refine cK 32 CD b fun M fB C hlt=> ?_
  refine⟨_,_,b,rfl,fB,by simp[Value.cells],rfl,fun D E=> ?_⟩;have Q:D.heap[w.heap.size]? =some (.cells (cur[j].row).toArray 32 (0,0)):=by
   have:=E.at_;simpa[setCells,Value.cells]using this
  have S:qp A w0 D:=qp.fresh E (z.trans (qp.low C)) z.1;have Ze:∀x,A=some x->x.block<w.heap.size:=fun x hx=>(ho.uP x hx).2
  have o3:aF D B 32 A n c 6 (cur.map Em.row):=(ho.below C).other fun x hx=>E.rest _ (by have:=Ze x hx;show x.block≠w.heap.size;omega)
  refine⟨_,_,_,_,_,_,_,_,_,_,_,_,eY Q,cB,pm (hf D S cur[j]) ?_⟩;rintro v T G rfl;have U:=S.trans (qp.low (A:=A) G);have V:=o3.below G;have r:B<=T.heap.size:=by have:=G.size;have:=E.size;omega
  refine⟨_,rfl,fun gC=> ?_,fun Zf=>⟨ir,?_⟩⟩
  ·have J:p l[j]=false:=by rw[<-I];exact gC
   obtain⟨g1,a2,W,cs,g2,g3,g4,g5,g6⟩:=V.Nj (i:=(i:Int)) om om (cur[j].row) ((cur[i]'om).row) (by rw[cc,hM,af om];rfl) rfl;refine⟨_,_,_,_,_,_,_,_,_,_,_,_,eY (ag Q G),g1,a2,W,cs,_,g2,g3,g4,g5,rfl,fun X K=>⟨ir,ir,?_⟩⟩;have Y:=g6 X K;rw[cc]at Y;have Nx:(a2.add ((i:Int).toNat*6)).block=a2.block:=by unfold Addr.add;split<;>rfl
   rw[O,e4];refine ih (i+1) (j+1) (cur.set i cur[j]) X om om om (by simp[y]) (by rw[Cd];exact Y) ?_ ?_ (U.trans (qp.wrote K ⟨a2,W,Nx.symm⟩)) (by rw[K.size];exact r)
   ·rw[eU,wI om,List.take_set_of_le om,g,q,Ja,I];simp[J]
   ·rw[List.drop_set_of_lt om];exact P
  ·have J:p l[j]=true:=by rw[<-I];simpa using Zf
   rw[O];refine ih i (j+1) cur T om om om y V ?_ P U r;rw[g,q,Ja];simp[J]
theorem I8{w:World}{B:Nat}(hB:B<=w.heap.size){A:Option Addr}{n c:Nat}{l:List Em}(ho:aF w B 32 A n c 6 (l.map Em.row))(hn:n<2147483648){f:Nat}{a k:Array Value}(cB:az Tryz.prog f=true){p:Em->Bool}
  (hf:∀w',qp A w w'->∀x:Em,Pure Tryz.prog f (a.toList++([Em.val x]:List Value)++k.toList).toArray w' fun v _=>v= .bool (p x)):
  cI Tryz.prog 56 #[.slice A n c,.func (.func f) a k] B w fun v w'=>∃m,v= .slice A m c/\aF w' B 32 A m c 6 ((l.filter fun x=> !p x).map Em.row)/\qp A w w':=by
 have hlen:l.length=n:=by have:=ho.len;simpa using this
 have e:=ho.ic;refine F.aH.vo hB ?_;refine pm (VR ho.sl hlen hn cB fun w' hb x _=>hf w' (qp.low hb) x) ?_;rintro v g b rfl;have key:=mI p l 0;cases hx:l.findIdx? p with
 |none=>
  rw[hx]at key;simp only at key;rw[key];refine⟨_,rfl,fun _=>⟨n,rfl,?_,qp.low b⟩,fun h=>absurd rfl h⟩;rw[DX hx];exact ho.below b
 |some i=>
  rw[hx]at key;simp only[jx]at key;rw[key];obtain⟨r,d⟩:=DY hx;have j:=sc i;refine⟨_,rfl,fun h=>by omega,fun _=>⟨ir,?_⟩⟩;rw[j];exact VT (w0:=w) hlen hn e cB hf (fun m w' q o=>⟨m,rfl,o,q⟩) (n - (i+1)) i (i+1) l g rfl om om hlen (ho.below b) d.symm rfl (qp.low b) (dT hB b.size)

theorem dW.zero(w:World)(B:Nat):dW w B Ca.zero [] Cm.zero:=⟨aF.nil,aF.nil,aF.nil,nofun,rfl,aF.nil,.inl rfl,rfl,⟨fs _,fun _=>rfl⟩,aF.nil,aF.nil,aF.nil,aF.nil,aF.nil,aF.nil⟩
theorem dW.base{w:World}{B b:Nat}{k:Ca}{xs:List Rm}{x:Cm}(h:dW w B k xs x)(hb:b<=B):dW w b k xs x:=
 ⟨h.p.base hb,h.h.base hb,h.r.base hb,fun y hy=>⟨(h.f y hy).o.base hb⟩,h.e,h.s.base hb,h.pl,h.nw,h.cw,h.c.base hb,h.v.base hb,h.a.base hb,h.l.base hb,h.g.base hb,h.q.base hb⟩
theorem CE(w:World):Pure Tryz.prog 37 #[] w fun v _=>v=Ca.zero.val Cm.zero:=F.sP.vc fun _ _=>rfl
def FoR(r:Except (Nat×Int) Cm)(B:Nat)(v:Value)(w':World):Prop:=match r with
 | .error (i,a)=>v= .tuple #[Ca.zero.val Cm.zero,.int .i64 i,.int .i64 a]
 | .ok y=>∃k xs,v= .tuple #[k.val y,.int .i64 (-1),.int .i64 0]/\dW w' B k xs y/\dI y
section
variable {H:pS} {w:World} {A:Option Addr} {n c:Nat} {ys:List Em}
theorem Ew(gW:gL H)(hg:bk w)(h:Ds w A n ys):
  Pure Tryz.prog 24 #[.slice A n c] w (FoR (nT H 0 Cm.zero (lJ ys)) w.heap.size):=by
 have hl:=h.l;have hm:=h.m;have key:∀(d i:Nat)(k:Ca)(xs:List Rm)(x:Cm)(w':World),n - i=d->i<=n->Below w.heap.size w w'->dW w' w.heap.size k xs x->dI x->∀r,nT H i x (lJ (ys.drop i))=r->
   F.dK.L5 A n c n i none 0 0 none 0 0 none 0 0 none 0 0 none 0 0 0 none 0 0 none 0 0 none 0 0 none 0 0 none 0 0 none 0 0 0 0 k.p.A k.p.n k.p.c k.h.A k.h.n k.h.c k.r.A k.r.n k.r.c k.s.A k.s.n k.s.c k.w.A k.w.n k.w.c x.cF k.c.A k.c.n k.c.c k.v.A k.v.n k.v.c k.a.A k.a.n k.a.c k.l.A k.l.n k.l.c k.g.A k.g.n k.g.c k.q.A k.q.n k.q.c x.last x.tick w.heap.size w' (FoR r w.heap.size):=by
  intro d;induction d with
  |zero=>
   intro i k xs x w' K hi hw ho ok r b;rw[de om]at b;subst b;exact F.dK.L5.step ⟨fun q=>by omega,fun _ L G=>⟨k,xs,rfl,ho.jq (bH.ext G),ok⟩⟩
  |succ d ih=>
   intro i k xs x w' K hi hw ho ok r b;have D:i<ys.length:=om;obtain⟨hb,a,M,j,_⟩:=((h.av hw).s).at_ (row:=Em.row) (fun _=>rfl) hl D;rw[dp D]at b;simp only[lJ,yq,nT]at b;refine F.dK.L5.step ⟨fun _=>⟨hb,a,M,_,_,_,_,_,_,_,_,_,_,_,_,j,fun Y B=> ?_⟩,fun q=>by omega⟩;have E:=kE hw B;have N:=(h.av E).f _ (bA D);refine pm (pP gW (hg.next E) ((ho.below (extAll B)).AI ok.sr) ok N) ?_;intro v O I z;have P:=kP E I;cases ha:db H x ys[i].e with
   |error Z=>
    rw[ha]at b z;have z:v=_:=z;subst z b;refine⟨_,_,_,_,_,_,_,_,_,_,_,_,_,_,_,_,_,_,_,_,_,_,_,_,_,_,_,_,_,_,_,_,_,_,_,_,_,rfl,fun _ FM _=>rfl,fun q=>absurd (ek.1 q) (vg ha)⟩
   |ok y=>
    rw[ha]at b z;obtain⟨Q,R,rfl,S⟩:=z;refine⟨_,_,_,_,_,_,_,_,_,_,_,_,_,_,_,_,_,_,_,_,_,_,_,_,_,_,_,_,_,_,_,_,_,_,_,_,_,rfl,fun q=>absurd rfl q,fun _=>⟨ir,fun J C=> ?_⟩⟩;rw[show(i:Int)+1=((i+1:Nat):Int) by omega];exact ih (i+1) Q R y J om om (kE P C) ((S.jq (bH.ext C)).base E.size) (uH ok (h.o _ (bA D)) ha) r b
 refine F.dK.vc ⟨fun q=>by omega,fun _ T U=>pm (CE T) ?_⟩;rintro v Kv V rfl;refine⟨_,_,_,_,_,_,_,_,_,_,_,_,_,_,_,_,_,_,_,_,_,_,_,_,_,_,_,_,_,_,_,_,_,_,_,_,rfl,fun W X=> ?_⟩;exact key n 0 Ca.zero [] Cm.zero W rfl om (kE (kP (k0 U) V) X) (dW.zero _ _) dI.zero _ rfl
theorem ael{p:Nat}{t:Int}{w:World}(a:w.heap[p]? =some (.cells [Value.int .i64 t].toArray 3 (0,0)))(y:Em):
  Pure Tryz.prog 58 #[y.val,.pointer (some ⟨p,0,none⟩)] w fun v _=>v= .bool (decide (y.e.tick>t)):=by
 refine F.pK.vc fun w1 b=> ?_
 exact⟨_,bS (ext_nil b a) rfl,rfl⟩
def OnR(r:Except (Nat×Int) Cm)(B:Nat)(v:Value)(w':World):Prop:=match r with
 | .error (_,a)=>v= .tuple #[Ca.zero.val Cm.zero,.int .i64 a]
 | .ok y=>∃k xs,v= .tuple #[k.val y,.int .i64 0]/\dW w' B k xs y/\dI y
noncomputable def onF(H:pS)(l:List Ev)(t:Int):Except (Nat×Int) Cm:=if t<0∨1073741824<t then .error (0,2)else nT H 0 Cm.zero (l.filter fun e=>decide (e.tick<=t))
theorem VU(gW:gL H)(hg:bk w)(h:Ds w A n ys)(t:Int):
  Pure Tryz.prog 26 #[.slice A n c,.int .i64 t] w (OnR (onF H (lJ ys) t) w.heap.size):=by
 have hl:=h.l;have hm:=h.m;unfold onF;refine F.uB.vc ⟨fun q w1 _=>by rw[bm (.inl q)];rfl,fun q1=>⟨fun q X _=>by rw[bm (.inr q)];rfl,fun Y Z O=> ?_⟩⟩;rw[aq om];have g:=k0 O;refine pm (VS (h.av g).s hl om) ?_;rintro v P Q ⟨A4,c4,rfl,j⟩;have J:=kP g Q;refine⟨_,_,_,rfl,fun r R z=> ?_⟩;have B:∀a,A4=some a->r≠a.block:=fun a ha e=>by
  obtain⟨cs,b⟩:=j.cells a ha;rw[<-e,z]at b;simp at b
 have C:r<P.heap.size:=(ax.1 z).1;refine cI.mono (I8 (p:=fun y=>decide (y.e.tick>t)) J.size (j.base g.size) om kF fun w' D y=>ael ((D.2 r C B).trans z) y) ?_;rintro v K S ⟨m,rfl,L,D⟩;have d:Below w.heap.size w K:=J.trans S;refine⟨fun k ty cs T M=>D.2 k (ax.1 M).1 fun a ha e=> ?_,_,_,_,rfl,?_⟩
 ·obtain⟨CS,b⟩:=j.cells a ha;rw[<-e,M]at b;cases b;exact absurd T dc
 have E:∀y∈ys.filter (fun x=> !decide (x.e.tick>t)),y∈ys:=fun y hy=>(Ao.1 hy).1
 have hlen:(ys.filter fun x=> !decide (x.e.tick>t)).length=m:=L.rows;have es:Ds K A4 m (ys.filter fun x=> !decide (x.e.tick>t)):=⟨L.sl,hlen,fun y hy=>((h.av d).f y (E y hy)),fun y hy=>h.o y (E y hy),fun y hy=>((h.av d).w y (E y hy)),by have:=List.length_filter_le (fun x:Em=> !decide (x.e.tick>t)) ys;omega⟩;refine pm (Ew gW (hg.next d) es) ?_;have e:lJ (ys.filter fun x=> !decide (x.e.tick>t))=(lJ ys).filter fun e=>decide (e.tick<=t):=by
  unfold lJ;rw[List.filter_map];refine ca _ (List.filter_congr fun y _=> ?_);show(!decide (y.e.tick>t))=decide (y.e.tick<=t);rw[uk];simp
 rw[e];cases nT H 0 Cm.zero ((lJ ys).filter fun e=>decide (e.tick<=t))with
 |error N=>
  obtain⟨i,N⟩:=N;intro v U V G;have G:v=_:=G;subst G;exact⟨_,_,_,_,_,_,_,_,_,_,_,_,_,_,_,_,_,_,_,_,_,_,_,_,_,_,_,_,_,_,_,_,_,_,_,_,_,_,rfl,fun W _=>rfl⟩
 |ok y=>
  rintro v U V ⟨k,xs,rfl,ho,ok⟩;exact⟨_,_,_,_,_,_,_,_,_,_,_,_,_,_,_,_,_,_,_,_,_,_,_,_,_,_,_,_,_,_,_,_,_,_,_,_,_,_,rfl,fun W I=>⟨k,xs,rfl,(ho.jq (bH.ext I)).base d.size,ok⟩⟩
end

theorem I9{w:World}{B:Nat}{k:Ca}{xs:List Rm}{x:Cm}(h:dW w B k xs x)(ok:dI x):
  Pure Tryz.prog 18 #[k.val x] w fun v w'=>∃V I0,v=V.val x/\dW w' w.heap.size V I0 x:=by
 have lp:=ok.lp;have lh:=ok.lh;have lr:=ok.lr;have ls:=ok.ls;have lw:=ok.lw;have lc:=ok.lc;have lv:=ok.lv;have la:=ok.la;have ll:=ok.ll;have lg:=ok.lg;have lq:=ok.lq;have np:=h.p.rows;have nh:=h.h.rows;have nr:=h.r.rows;have hi:=h.AI ok.sr;refine F.k8.vc fun w1 x1=> ?_
 have d:=k0 x1;have pf:=((hi.av d).pr ok.sp ok.sh om om om).fit;refine pm (Et (c0:=k.p.c) (c1:=k.h.c) (c2:=k.r.c) pf h.p.pM h.h.pM) ?_;rintro v w6 b6 ⟨A2,c2,A3,c3,A4,c4,ys,rfl,o2,o3,o4,e4,f4⟩;have tE:=kP d b6;refine⟨_,_,_,_,_,_,_,_,_,rfl,fun w7 W=> ?_⟩;have G:=kE tE W;have rs:=h.s.rows;refine mu gS ((h.s.sl).below G) (by rw[eb];exact h.s.rows) (Gx x.cE) (h.s.pM) G.size om dc fun Bs ds xz os X GO Y=> ?_
 have rF:=kP G X;have N:=kE rF Y;have rW:=h.nw;refine mu RV ((h.pl.sl).below N) (by rw[eb];exact h.nw) (Gx x.dQ) (h.cw.2) N.size om dc fun Bw dw Ar O Z Ee Xd=> ?_
 have Aa:=kP N Z;have H:=kE Aa Xd;have rc:=h.c.rows;refine mu KW ((h.c.sl).below H) (by rw[eb];exact h.c.rows) (Gf x.iW) (h.c.pM) H.size om dc fun Bc dC Eo oc OZ zS WL=> ?_
 have zX:=kP H OZ;have I:=kE zX WL;have rv:=h.v.rows;refine mu KV ((h.v.sl).below I) (by rw[eb];exact h.v.rows) (Ge x.sS) (h.v.pM) I.size om dc fun Bv dv Js ov MF w35 i=> ?_
 have tC:=kP I MF;have J:=kE tC i;have ra:=h.a.rows;refine mu KR ((h.a.sl).below J) (by rw[eb];exact h.a.rows) (Ga x.fK) (h.a.pM) J.size om dc fun Ba da SZ oa j w42 m=> ?_
 have P:=kP J j;have K:=kE P m;have rl:=h.l.rows;refine mu KS ((h.l.sl).below K) (by rw[eb];exact h.l.rows) (Gb x.dj) (h.l.pM) K.size om dc fun Bl dl Q ol o WE z=> ?_
 have R:=kP K o;have L:=kE R z;have rg:=h.g.rows;refine mu KT ((h.g.sl).below L) (by rw[eb];exact h.g.rows) (Gc x.fx) (h.g.pM) L.size om dc fun Bg dg S og A w56 C=> ?_
 have KG:=kP L A;have M:=kE KG C;have rq:=h.q.rows;refine mu KU ((h.q.sl).below M) (by rw[eb];exact h.q.rows) (Gd x.apps) (h.q.pM) M.size om dc fun Bq dq T oq D b E=> ?_
 have U:=kP M D;have Oo:=kE U E;have tq:bH 49 T b:=bH.ext E;have tg:bH 49 S b:=(bH.ext C).trans ((bH.low D).trans tq);have tl:bH 49 Q b:=(bH.ext z).trans ((bH.low A).trans tg);have ta:bH 49 SZ b:=(bH.ext m).trans ((bH.low o).trans tl);have tv:bH 49 Js b:=(bH.ext i).trans ((bH.low j).trans ta);have tc:bH 49 Eo b:=(bH.ext WL).trans ((bH.low MF).trans tv);have tw:bH 49 Ar b:=(bH.ext Xd).trans ((bH.low OZ).trans tc);have ts:bH 49 xz b:=(bH.ext Y).trans ((bH.low Z).trans tw);have t0:bH 49 w6 b:=(bH.ext W).trans ((bH.low X).trans ts);refine⟨⟨⟨A2,k.p.n,c2⟩,⟨A3,k.h.n,c3⟩,⟨A4,k.r.n,c4⟩,⟨Bs,k.s.n,ds⟩,⟨Bw,k.w.n,dw⟩,⟨Bc,k.c.n,dC⟩,⟨Bv,k.v.n,dv⟩,⟨Ba,k.a.n,da⟩,⟨Bl,k.l.n,dl⟩,⟨Bg,k.g.n,dg⟩,⟨Bq,k.q.n,dq⟩⟩,ys,rfl,?_⟩;exact⟨(o2.bW t0 dc).base d.size,(o3.bW t0 dc).base d.size,(o4.bW t0 dc).base d.size,fun y hy=>⟨((f4 y hy).bW t0 dc).base d.size⟩,e4.trans h.e,(os.bW ts dc).base G.size,(O.bW tw dc).slT,rW,⟨O.ic,O.pM⟩,(oc.bW tc dc).base H.size,(ov.bW tv dc).base I.size,(oa.bW ta dc).base J.size,(ol.bW tl dc).base K.size,(og.bW tg dc).base L.size,(oq.bW tq dc).base M.size⟩

def VW:Ev:=⟨1,0,1,[1,3,1],[⟨#[50]⟩,⟨#[49]⟩,⟨#[53]⟩],[⟨#[97]⟩]⟩
def VX:Ev:=⟨2,0,2,[1],[⟨#[57]⟩,⟨#[57]⟩,⟨#[49]⟩,⟨#[48]⟩,⟨#[48]⟩],[⟨#[65]⟩]⟩
def VY:Ev:=⟨3,0,3,[1,0,0],[⟨#[49]⟩],[⟨#[109,111,115,116]⟩,⟨#[]⟩,⟨#[53]⟩]⟩
def Tq:Ev:=⟨4,0,6,[1,2],[],[⟨#[65,110,110,97]⟩,⟨#[107]⟩]⟩
def Tr:Ev:=⟨5,0,6,[2,3],[],[⟨#[66,111,98]⟩,⟨#[113]⟩]⟩
def tn6:Ev:=⟨6,3,7,[1,1,2],[],[]⟩
def aan:List Ev:=[VW,VX,VY,Tq,Tr,tn6]
def zF:List Si:=[⟨1,2,⟨#[65,110,110,97]⟩,⟨#[107]⟩⟩,⟨2,3,⟨#[66,111,98]⟩,⟨#[113]⟩⟩]
def Xw:Cm:={Cm.zero with ps:=[⟨1,3,1,⟨#[97]⟩,⟨#[50]⟩,⟨#[49]⟩,⟨#[53]⟩⟩],hs:=[⟨1,⟨#[65]⟩,⟨#[57]⟩,⟨#[57]⟩,⟨#[49]⟩,⟨#[48]⟩,⟨#[48]⟩⟩],rs:=[⟨⟨#[109,111,115,116]⟩,1,[⟨#[49]⟩],⟨#[]⟩,⟨#[53]⟩,0,0⟩],last:=3}
def cm5:Cm:={Xw with fx:=zF,last:=5}
def wZ:Cm:={cm5 with dQ:=[⟨1,1,2⟩],cF:=6,last:=6,tick:=3}
section
variable {H:pS} {x y:Cm} {e:Ev}
theorem uJ{d:Kd}(h1:¬(e.id<1∨1073741824<e.id∨e.tick<0∨1073741824<e.tick))(a:kd e.kind=some d)(b:jo d e=true)(c:¬(e.id<=x.last∨e.tick<x.tick))(g:¬((d.em=true/\x.dQ≠[])∨(d.fu=true/\x.dQ=[])))(h:sV H e.kind x e=(y,0)):
  db H x e= .ok {y with last:=e.id,tick:=e.tick}:=by
 unfold db;rw[aq h1,a];dsimp only;rw[aq (by rw[b];decide),aq c,aq g,h,aq (fun k=>k rfl)]
theorem uK:pJ [(⟨1,2,⟨#[65,110,110,97]⟩,⟨#[107]⟩⟩:Si)]=true/\pJ zF=true:=by
 refine⟨jP.2 ⟨⟨⟨dc,dc,dc,dc,nofun⟩,trivial⟩,dc⟩,jP.2 ⟨⟨⟨dc,dc,dc,dc,nofun⟩,⟨dc,dc,dc,dc,fun q a=>by cases a;decide⟩,trivial⟩,dc⟩⟩
theorem uL{ss:List Si}(h:pJ ss=true):eP H ss []=(-1,0):=by
 unfold eP;rw[aq (by rw[h];decide),aq sm];rfl
theorem aeo:nT H 0 Cm.zero [VW,VX,VY]= .ok Xw:=kF
theorem aep:db H Xw Tq= .ok {Xw with fx:=[⟨1,2,⟨#[65,110,110,97]⟩,⟨#[107]⟩⟩],last:=4}:=
 uJ (d:=⟨2,0,2,false,false,116⟩) (y:={Xw with fx:=[⟨1,2,⟨#[65,110,110,97]⟩,⟨#[107]⟩⟩]}) dc rfl rfl dc sm (by
  show iX H Xw Tq=_;show(_,(eP H [(⟨1,2,⟨#[65,110,110,97]⟩,⟨#[107]⟩⟩:Si)] []).2)=_;rw[uL uK.1];rfl)
theorem aeq:db H {Xw with fx:=[⟨1,2,⟨#[65,110,110,97]⟩,⟨#[107]⟩⟩],last:=4} Tr= .ok cm5:=
 uJ (d:=⟨2,0,2,false,false,116⟩) (y:={Xw with fx:=zF,last:=4}) dc rfl rfl dc sm (by
  show iX H _ Tr=_;show(_,(eP H zF []).2)=_;rw[uL uK.2];rfl)
theorem aer:db H cm5 tn6= .ok wZ:=kF
theorem Ex:∀(l m:List Ev)(i:Nat)(x y:Cm),nT H i x l= .ok y->nT H i x (l++m)=nT H (i+l.length) y m:=by
 intro l;induction l with
 |nil=>
  intro m i x y h;cases h;rfl
 |cons e r ih=>
  intro m i x y h;rw[nT]at h;rw[wo,nT];cases ha:db H x e with
  |error a=>rw[ha]at h;cases h
  |ok z=>
   rw[ha]at h;dsimp only at h⊢;rw[ih m (i+1) z y h,eR,Ij,LP 1]
theorem Xx:nT H 0 Cm.zero [VW,VX,VY,Tq,Tr]= .ok cm5:=by
 rw[show[VW,VX,VY,Tq,Tr]=[VW,VX,VY]++[Tq,Tr]from rfl,Ex _ _ _ _ _ aeo,nT,aep];dsimp only;rw[nT,aeq];rfl
theorem aes:nT H 0 Cm.zero aan= .ok wZ:=by
 rw[show aan=[VW,VX,VY,Tq,Tr]++[tn6]from rfl,Ex _ _ _ _ _ Xx,nT,aer];rfl
noncomputable def Ts(H:pS):ByteArray:=mz H wZ
noncomputable def Xy(H:pS)(i:Int)(key:ByteArray):ByteArray:=codeF H key ⟨i,4,Ts H,⟨#[]⟩⟩
noncomputable def tr(H:pS)(i:Int)(key:ByteArray):Ap:=⟨i,4,Ts H,Xy H i key⟩
noncomputable def tn7(H:pS):Ev:=⟨7,4,8,[1],[],[Xy H 1 ⟨#[107]⟩]⟩
noncomputable def tn8(H:pS):Ev:=⟨8,4,8,[2],[],[Xy H 2 ⟨#[113]⟩]⟩
noncomputable def cm7(H:pS):Cm:={wZ with apps:=[tr H 1 ⟨#[107]⟩],last:=7,tick:=4}
noncomputable def MK(H:pS):Cm:={wZ with apps:=[tr H 1 ⟨#[107]⟩,tr H 2 ⟨#[113]⟩],last:=8,tick:=4}
def tn9:Ev:=⟨9,5,9,[],[],[]⟩
noncomputable def cm9(H:pS):Cm:={MK H with cE:=[⟨1,1,2⟩],dQ:=[],cF:=0,last:=9,tick:=5}
theorem Xz(ok:gL H):nA zF [] (tr H 1 ⟨#[107]⟩)=0:=by
 unfold nA;have h:NK zF (tr H 1 ⟨#[107]⟩).cU=some 0:=by show NK zF 1=_;kernel_rfl
 have hs:(tr H 1 ⟨#[107]⟩).subject.size=32:=ok.len _;have a:(tr H 1 ⟨#[107]⟩).tick=4:=rfl;rw[h,aq sm,aq (by rw[hs,a];decide),aq sm,aq sm]
theorem aet(ok:gL H):nA zF [tr H 1 ⟨#[107]⟩] (tr H 2 ⟨#[113]⟩)=0:=by
 unfold nA;have h:NK zF (tr H 2 ⟨#[113]⟩).cU=some 1:=by show NK zF 2=_;kernel_rfl
 have hs:(tr H 2 ⟨#[113]⟩).subject.size=32:=ok.len _;have a:(tr H 2 ⟨#[113]⟩).tick=4:=rfl;have h1:(tr H 1 ⟨#[107]⟩).tick=4:=rfl;have g1:(tr H 1 ⟨#[107]⟩).cU=1:=rfl;have g2:(tr H 2 ⟨#[113]⟩).cU=2:=rfl;rw[h,aq sm,aq (by rw[hs,a];decide),aq (by simp[a,h1]),aq (by simp[g1,g2])]
theorem LM(ok:gL H):eP H zF [tr H 1 ⟨#[107]⟩]=(-1,0)/\eP H zF [tr H 1 ⟨#[107]⟩,tr H 2 ⟨#[113]⟩]=(-1,0):=by
 have c1:(tr H 1 ⟨#[107]⟩).code=codeF H (RD zF (tr H 1 ⟨#[107]⟩).cU) (tr H 1 ⟨#[107]⟩):=rfl;have c2:(tr H 2 ⟨#[113]⟩).code=codeF H (RD zF (tr H 2 ⟨#[113]⟩).cU) (tr H 2 ⟨#[113]⟩):=rfl;constructor
 ·unfold eP;rw[aq (by rw[uK.2];decide),aq sm,wi,aq (by rw[Xz ok];decide),aq (fun k=>k c1)];rfl
 ·unfold eP;rw[aq (by rw[uK.2];decide),aq sm,wi,aq (by rw[Xz ok];decide),aq (fun k=>k c1),wi,aq (by rw[rT,aet ok];decide),aq (fun k=>k c2)];rfl
theorem aeu(ok:gL H):db H wZ (tn7 H)= .ok (cm7 H):=
 uJ (d:=⟨1,0,1,false,true,118⟩) (y:={wZ with apps:=[tr H 1 ⟨#[107]⟩]}) (by show ¬((7:Int)<1∨1073741824<(7:Int)∨(4:Int)<0∨1073741824<(4:Int));decide) rfl rfl (by show ¬((7:Int)<=6∨(4:Int)<3);decide) (by simp[wZ]) (by
  show gB H wZ (tn7 H)=_;show(_,(eP H zF [tr H 1 ⟨#[107]⟩]).2)=_;rw[(LM ok).1];rfl)
theorem aev(ok:gL H):db H (cm7 H) (tn8 H)= .ok (MK H):=
 uJ (d:=⟨1,0,1,false,true,118⟩) (y:={cm7 H with apps:=[tr H 1 ⟨#[107]⟩,tr H 2 ⟨#[113]⟩]}) (by show ¬((8:Int)<1∨1073741824<(8:Int)∨(4:Int)<0∨1073741824<(4:Int));decide) rfl rfl (by show ¬((8:Int)<=7∨(4:Int)<4);decide) (by simp[cm7,wZ]) (by
  show gB H (cm7 H) (tn8 H)=_;show(_,(eP H zF [tr H 1 ⟨#[107]⟩,tr H 2 ⟨#[113]⟩]).2)=_;rw[(LM ok).2];rfl)
theorem OC{ss:List Si}{l:List Ap}{subject:ByteArray}{t:Int}(h:∀r,r=2∨r=3->∃s∈ss,s.role=r/\Gm l subject 1000 0 t s=true):xX (uA ss l subject [2,3] 1000 0 t) 9=[]:=by
 have a:∀r,uA ss l subject [2,3] 1000 0 t r<=0:=fun r=>by
  unfold uA;by_cases q:r=2∨r=3
  ·obtain⟨s,hs,h1,a⟩:=h r q;have:0<ss.countP fun s=>decide (s.role=r)&&Gm l subject 1000 0 t s:=List.countP_pos_iff.2 ⟨s,hs,by simp[h1,a]⟩
   have b:([2,3]:List Int).count r=1:=by rcases q with rfl|rfl<;>decide
   rw[b];omega
  ·have b:([2,3]:List Int).count r=0:=List.count_eq_zero.2 (by simp;omega);rw[b];omega
 unfold xX;rw[List.flatMap_eq_nil_iff];intro j _;rw[List.replicate_eq_nil_iff];have:=a ((j:Int)+1);omega
theorem ML{ss:List Si}{l:List Ap}{subject:ByteArray}{t:Int}(h1:(eP H ss l).2=0)(a:subject.size=32)(b:0<=t/\t<=1073741824):wj H ss l subject [2,3] 1000 0 t=(xX (uA ss l subject [2,3] 1000 0 t) 9,0):=by
 unfold wj;rw[aq (by rw[h1];decide),aq dc,aq (by rw[a];decide),aq om]
theorem aew(ok:gL H):Es H wZ 4=false:=by
 have hm:=ML (H:=H) (ss:=zF) (l:=[]) (subject:=mz H wZ) (t:=4) (by rw[uL uK.2]) (ok.len _) dc;show decide ((wj H zF [] (mz H wZ) [2,3] 1000 0 4).2=0/\(wj H zF [] (mz H wZ) [2,3] 1000 0 4).1=[])=false;rw[hm];refine ep fun k=> ?_
 have:=k.2;unfold xX at this;rw[List.flatMap_eq_nil_iff]at this;have:=this 1 sm;rw[List.replicate_eq_nil_iff]at this
 revert this
 have e:uA zF [] (mz H wZ) [2,3] 1000 0 4 2=1:=kF;show ¬(uA zF [] (mz H wZ) [2,3] 1000 0 4 2).toNat=0;rw[e];decide
theorem Sb(ok:gL H):Es H (MK H) 5=true:=by
 have hm:=ML (H:=H) (ss:=zF) (l:=[tr H 1 ⟨#[107]⟩,tr H 2 ⟨#[113]⟩]) (subject:=Ts H) (t:=5) (by rw[(LM ok).2]) (ok.len _) dc;show decide ((wj H zF [tr H 1 ⟨#[107]⟩,tr H 2 ⟨#[113]⟩] (Ts H) [2,3] 1000 0 5).2=0/\(wj H zF [tr H 1 ⟨#[107]⟩,tr H 2 ⟨#[113]⟩] (Ts H) [2,3] 1000 0 5).1=[])=true;rw[hm];refine fi ⟨rfl,OC fun r a=> ?_⟩;rcases a with rfl|rfl
 ·refine⟨⟨1,2,⟨#[65,110,110,97]⟩,⟨#[107]⟩⟩,by simp[zF],rfl,pe.2 ⟨tr H 1 ⟨#[107]⟩,sm,fi ⟨rfl,rfl,?_,?_,?_⟩⟩⟩
  ·show(4:Int)<=5;decide
  ·show(4:Int)≥5 - 1000;decide
  ·show(1:Int)≠0;decide
 ·refine⟨⟨2,3,⟨#[66,111,98]⟩,⟨#[113]⟩⟩,by simp[zF],rfl,pe.2 ⟨tr H 2 ⟨#[113]⟩,sm,fi ⟨rfl,rfl,?_,?_,?_⟩⟩⟩
  ·show(4:Int)<=5;decide
  ·show(4:Int)≥5 - 1000;decide
  ·show(2:Int)≠0;decide
theorem aao(ok:gL H):db H wZ ⟨7,4,9,[],[],[]⟩= .error 23:=by
 have h:sV H 9 wZ ⟨7,4,9,[],[],[]⟩=(wZ,23):=by
  show km H wZ _=_;unfold km;rw[bm (aew ok)]
 unfold db;rw[aq dc];show(if jo (⟨0,0,0,false,true,119⟩:Kd) _=false then _ else _)=_;rw[aq dc,aq dc,aq (by simp[wZ]),h,bm dc]
theorem aap:zO wZ.ps wZ.hs [] ⟨1,1,2⟩= .ok [⟨1,1,2⟩]:=kF
theorem VZ:kV wZ.ps wZ.hs wZ.rs [⟨1,1,2⟩]=true:=kF
theorem Wa{t:Sw}{r l:List Sw}(ha:Es H x e.tick=true)(hp:x.dQ=t::r)(a:zO x.ps x.hs x.cE t= .ok l):
  km H x e=({x with cE:=l,dQ:=r,cF:=if r.length=0 then 0 else x.cF},tp {x with cE:=l,dQ:=r,cF:=if r.length=0 then 0 else x.cF}):=by
 unfold km;rw[aq (by rw[ha];decide),hp];dsimp only;rw[a]
theorem aex(ok:gL H):db H (MK H) tn9= .ok (cm9 H):=
 uJ (d:=⟨0,0,0,false,true,119⟩) (y:={MK H with cE:=[⟨1,1,2⟩],dQ:=[],cF:=0}) dc rfl rfl (by show ¬((9:Int)<=8∨(5:Int)<4);decide) (by simp[MK,wZ]) (by
  show km H (MK H) tn9=_;rw[Wa (x:=MK H) (e:=tn9) (t:=⟨1,1,2⟩) (r:=[]) (l:=[⟨1,1,2⟩]) (Sb ok) rfl aap];refine Prod.ext rfl ?_;show tp _=0;unfold tp;rw[aq (by show ¬kV wZ.ps wZ.hs wZ.rs [⟨1,1,2⟩]=false;rw[VZ];decide)])
end
end Go.Proofs.YtbcojgcjjpggnaaGreatDoor.B
