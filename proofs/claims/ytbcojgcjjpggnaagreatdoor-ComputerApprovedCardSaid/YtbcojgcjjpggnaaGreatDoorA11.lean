/- Part 11 of the proofs that: Each step that was done was approved; folding in two parts is folding at once. -/
import Derived.Test.YtbcojgcjjpggnaaGreatDoorA10
import Derived.Test.YtbcojgcjjpggnaaGreatDoorProg
set_option linter.unusedVariables false
set_option linter.unusedSimpArgs false
namespace Go.Proofs.YtbcojgcjjpggnaaGreatDoor.B
open Go Go.RowKit Go.Proofs Go.Proofs.YtbcojgcjjpggnaaGreatDoor.Vc

theorem bG.low{ty:Nat}{w w':World}(hb:Below w.heap.size w w'):bG ty w w':=fun _ _ _ _ _ a=>ag a hb
theorem bG.ext{B ty:Nat}{w w':World}(x:Ext B [ty] w w'):bG ty w w':=fun q t cs fr a b=>by
 rcases x.other q (ax.1 b).1 with e|⟨h,d,c,c',g,e,_⟩
 ·exact e.trans b
 ·rw[b]at e;cases e;exact absurd (eb.1 d) a
theorem bG.trans{ty:Nat}{w w1 b:World}(s:bG ty w w1)(t:bG ty w1 b):bG ty w b:=fun q u cs fr a d=>t q u cs fr a (s q u cs fr a d)
theorem RY(l:List Pa):(∀r∈l.map Pa.row,r.length=7)/\∀r∈l.map Pa.row,∀u∈r,bl u=true:=fj (fun _=>rfl) (fun x u h=>by simp only[Pa.row,cc,fs,u1]at h;rcases h with rfl|rfl|rfl|rfl|rfl|rfl|rfl<;>rfl)
theorem RZ(l:List Ho):(∀r∈l.map Ho.row,r.length=7)/\∀r∈l.map Ho.row,∀u∈r,bl u=true:=fj (fun _=>rfl) (fun x u h=>by simp only[Ho.row,cc,fs,u1]at h;rcases h with rfl|rfl|rfl|rfl|rfl|rfl|rfl<;>rfl)
theorem R1(l:List Rm):(∀r∈l.map Rm.row,r.length=7)/\∀r∈l.map Rm.row,∀u∈r,bl u=true:=fj (fun _=>rfl) (fun x u h=>by simp only[Rm.row,cc,fs,u1]at h;rcases h with rfl|rfl|rfl|rfl|rfl|rfl|rfl<;>rfl)
section
variable {w:World} {A:Option Addr} {n c:Nat} {k:Ca} {xs:List Rm} {x:Cm}
theorem Ve{l:List Pa}(h:bR w A 7 (l.map Pa.row))(hlen:l.length=n)(hn:n<=1000000):
  Pure Tryz.prog 124 #[.slice A n c] w fun v w'=>∃A' c',v= .slice A' n c'/\aE w' w.heap.size 111 A' n c' 7 (l.map Pa.row):=
 F.eu.vc (gF (R:=fun v w'=>∃A' c',v= .slice A' n c'/\aE w' w.heap.size 111 A' n c' 7 (l.map Pa.row)) FU h (by simpa using hlen) (RY l).1 (RY l).2 om fun A' c' w' o=>⟨A',c',rfl,o⟩)
theorem Vf{l:List Ho}(h:bR w A 7 (l.map Ho.row))(hlen:l.length=n)(hn:n<=1000000):
  Pure Tryz.prog 125 #[.slice A n c] w fun v w'=>∃A' c',v= .slice A' n c'/\aE w' w.heap.size 172 A' n c' 7 (l.map Ho.row):=
 F.fe.vc (gF (R:=fun v w'=>∃A' c',v= .slice A' n c'/\aE w' w.heap.size 172 A' n c' 7 (l.map Ho.row)) FV h (by simpa using hlen) (RZ l).1 (RZ l).2 om fun A' c' w' o=>⟨A',c',rfl,o⟩)
theorem Vg{l:List Rm}(h:bR w A 7 (l.map Rm.row))(hlen:l.length=n)(hn:n<=1000000):
  Pure Tryz.prog 126 #[.slice A n c] w fun v w'=>∃A' c',v= .slice A' n c'/\aE w' w.heap.size 103 A' n c' 7 (l.map Rm.row):=
 F.ff.vc (gF (R:=fun v w'=>∃A' c',v= .slice A' n c'/\aE w' w.heap.size 103 A' n c' 7 (l.map Rm.row)) Lv h (by simpa using hlen) (R1 l).1 (R1 l).2 om fun A' c' w' o=>⟨A',c',rfl,o⟩)
theorem Gu(l:List Sw):(∀r∈l.map Sw.row,r.length=3)/\∀r∈l.map Sw.row,∀u∈r,bl u=true:=fj (fun _=>rfl) (fun x u h=>by simp only[Sw.row,cc,fs,u1]at h;rcases h with rfl|rfl|rfl<;>rfl)
theorem Vh{l:List Sw}(h:bR w A 3 (l.map Sw.row))(hlen:l.length=n)(hn:n<=1000000):
  Pure Tryz.prog 128 #[.slice A n c] w fun v w'=>∃A' c',v= .slice A' n c'/\aE w' w.heap.size 57 A' n c' 3 (l.map Sw.row):=
 F.fg.vc (gF (R:=fun v w'=>∃A' c',v= .slice A' n c'/\aE w' w.heap.size 57 A' n c' 3 (l.map Sw.row)) RU h (by simpa using hlen) (Gu l).1 (Gu l).2 om fun A' c' w' o=>⟨A',c',rfl,o⟩)
theorem I0(h:ux w k xs x)(ok:dz x):
  Pure Tryz.prog 61 #[k.val x] w fun v w'=>∃D R,v=D.val x/\dP w' w.heap.size D R x:=by
 have lp:=ok.lp;have lh:=ok.lh;have lr:=ok.lr;have ls:=ok.ls;have lw:=ok.lw;have lc:=ok.lc;have lv:=ok.lv;have la:=ok.la;have ll:=ok.ll;have lg:=ok.lg;have lq:=ok.lq;have np:=h.np;have nh:=h.nh;have nr:=h.nr;have ns:=h.ns;have nw:=h.nw;have nc:=h.nc;have nv:=h.nv;have na:=h.na;have nl:=h.nl;have ng:=h.ng;have nq:=h.nq;have nx:xs.length=k.r.n:=by rw[<-nr,<-h.e,ec]
 refine F.cV.vc fun w1 x1=>pm (Ve (h.p.below (k0 x1)) np om) ?_
 have dJ:=k0 x1;rintro v w4 b4 ⟨A2,c2,rfl,E⟩;have S:=kP dJ b4;refine⟨_,_,_,rfl,pm (Vf (h.h.below S) nh om) ?_⟩;rintro v w7 b7 ⟨A5,c5,rfl,G⟩;have T:=kP S b7;refine⟨_,_,_,rfl,pm (Vg (h.r.below T) nx om) ?_⟩;rintro v jS U ⟨V,W,rfl,z⟩;have vg:=kP T U;refine⟨_,_,_,rfl,fun wC GU=> ?_⟩;have tT:=kE vg GU;have B:bG 49 jS wC:=bG.ext GU;have key:∀(d i:Nat)(ys:List Rm)(w':World),k.r.n - i=d->i<=k.r.n->Below w.heap.size w w'->ys.length=i->dK ys=dK (xs.take i)->aE w' w.heap.size 111 A2 k.p.n c2 7 (x.ps.map Pa.row)->aE w' w.heap.size 172 A5 k.h.n c5 7 (x.hs.map Ho.row)->
   aE w' w.heap.size 103 V k.r.n W 7 ((ys++xs.drop i).map Rm.row)->(∀y∈ys,Zz w' w.heap.size y)->
   F.cV.L4 k.r.n i A2 k.p.n c2 A5 k.h.n c5 V k.r.n W k.s.A k.s.n k.s.c k.w.A k.w.n k.w.c x.bQ k.c.A k.c.n k.c.c k.v.A k.v.n k.v.c k.a.A k.a.n k.a.c k.l.A k.l.n k.l.c k.g.A k.g.n k.g.c k.q.A k.q.n k.q.c x.last x.tick none 0 0 none 0 0 none 0 0 none 0 0 none 0 0 0 none 0 0 none 0 0 none 0 0 none 0 0 none 0 0 none 0 0 0 0 w.heap.size w' (fun v w'=>∃D R,v=D.val x/\dP w' w.heap.size D R x):=by
  intro d;induction d with
  |zero=>
   intro i ys w' hd hi hb b O E G z of;have tp:i=k.r.n:=om;rw[cd om,uf]at z;rw[de om]at O;refine F.cV.L4.step ⟨fun q=>by omega,fun _ tx JC=> ?_⟩;have X:=kE hb JC;have Y:bG 49 w' tx:=bG.low (extAll JC);refine pm (QQ (h.s.below X) ns om) ?_;rintro v Uw Jq ⟨Z,c23,rfl,o23⟩;have rm:=kP X Jq;refine⟨_,_,_,rfl,pm (Vh (h.pl.below rm) nw om) ?_⟩;rintro v zB OR ⟨A26,c26,rfl,C⟩;have tA:=kP rm OR;refine⟨_,_,_,rfl,fun DJ ZH=> ?_⟩;have Iu:=kE tA ZH;have Yp:bG 49 zB DJ:=bG.ext ZH;refine pm (UI (h.c.below Iu) nc om) ?_;rintro v SP Te ⟨A30,c30,rfl,o30⟩;have yP:=kP Iu Te;refine⟨_,_,_,rfl,pm (UH (h.v.below yP) nv om) ?_⟩;rintro v w35 Ti ⟨A33,c33,rfl,o33⟩;have Dq:=kP yP Ti;refine⟨_,_,_,rfl,fun w36 H=> ?_⟩;have ZI:=kE Dq H;have s36:bG 49 w35 w36:=bG.ext H;refine pm (UE (h.a.below ZI) na om) ?_;rintro v w39 I ⟨A37,c37,rfl,o37⟩;have R2:=kP ZI I;refine⟨_,_,_,rfl,pm (F8 (h.l.below R2) nl om) ?_⟩;rintro v w42 J ⟨A40,c40,rfl,Ef⟩;have Oc:=kP R2 J;refine⟨_,_,_,rfl,fun w43 K=> ?_⟩;have Lx:=kE Oc K;have s43:bG 49 w42 w43:=bG.ext K;refine pm (UF (h.g.below Lx) ng om) ?_;rintro v w46 L ⟨A44,c44,rfl,Lu⟩;have R3:=kP Lx L;refine⟨_,_,_,rfl,pm (UG (h.q.below R3) nq om) ?_⟩;rintro v Wr W6 ⟨A47,c47,rfl,o47⟩;have Ly:=kP R3 W6;refine⟨_,_,_,rfl,fun Vi ZJ=> ?_⟩;have SW:bG 49 Wr Vi:=bG.ext ZJ;have t46:=(bG.low W6).trans SW;have t42:=(s43.trans (bG.low L)).trans t46;have t39:=(bG.low J).trans t42;have t35:=(s36.trans (bG.low I)).trans t39;have t32:=(bG.low Ti).trans t35;have t28:=(Yp.trans (bG.low Te)).trans t32;have t25:=(bG.low OR).trans t28;have t0:=(Y.trans (bG.low Jq)).trans t25;refine⟨⟨⟨A2,k.p.n,c2⟩,⟨A5,k.h.n,c5⟩,⟨V,k.r.n,W⟩,⟨Z,k.s.n,c23⟩,⟨A26,k.w.n,c26⟩,⟨A30,k.c.n,c30⟩,⟨A33,k.v.n,c33⟩,⟨A37,k.a.n,c37⟩,⟨A40,k.l.n,c40⟩,⟨A44,k.g.n,c44⟩,⟨A47,k.q.n,c47⟩⟩,ys,rfl,?_⟩;exact⟨E.bW t0 dc,G.bW t0 dc,z.bW t0 dc,fun y hy=>⟨(of y hy).o.bW t0 dc⟩,O.trans h.e,(o23.bW t25 dc).base X.size,((C.bW t28 dc).base rm.size).slT,nw,⟨C.jY,C.sO⟩,(o30.bW t32 dc).base Iu.size,(o33.bW t35 dc).base yP.size,(o37.bW t39 dc).base ZI.size,
    (Ef.bW t42 dc).base R2.size,(Lu.bW t46 dc).base Lx.size,(o47.bW SW dc).base R3.size⟩
  |succ d ih=>
   intro i ys w' hd hi hb b O E G z of;have cB:i<xs.length:=om;have P:=h.f _ (bw cB);have hlen:(ys++xs.drop i).length=k.r.n:=by rw[ek,rT];omega
   have Vj:(ys++xs.drop i)[i]'om=xs[i]:=by rw[List.getElem_append_right om];simp[b]
   obtain⟨q1,a,q2,_,q3⟩:=z.sl.at_ (row:=Rm.row) (fun _=>rfl) hlen (i:=i) om;rw[Vj]at q3;refine F.cV.L4.step ⟨fun _=>⟨q1,a,q2,_,_,_,q3 2 _ rfl,fun GO M=> ?_⟩,fun q=>by omega⟩;have Ad:=kE hb M;have sl:=P.s.len;have fl:=P.l;refine pm (Mx (P.f.below Ad) P.l om) ?_;rintro v Df N ⟨j,m,rfl,o15⟩;have Lo:=kP Ad N;have o8':=(z.below (extAll M)).below N;obtain⟨p1,a',p2,cs,r1,r2,r3,r4,r5⟩:=o8'.set (i:=(i:Int)) q1.1 q1.2 2 [.slice j xs[i].n m] (Rm.row xs[i]) (by
    rw[ca,kl,af om,Vj];rfl) sm
   refine⟨_,_,_,rfl,p1,a',p2,cs,_,r1,r2,r3,r4,rfl,fun Dk vj=>⟨ir,?_⟩⟩;have adT:=Lo.trans (aL.dQ vj r1);have Q:=bG.wrote vj r3;rw[show(i:Int)+1=((i+1:Nat):Int) by omega];refine ih (i+1) (ys++[⟨xs[i].r,j,xs[i].n,m⟩]) Dk om om adT (by simp[b]) ?_ (((E.below (extAll M)).below N).bW Q dc) (((G.below (extAll M)).below N).bW Q dc) ?_ ?_
   ·rw[<-AH cB,<-O];unfold dK;rw[eH];rfl
   ·have o:=r5 Dk vj;rw[ca]at o;have e:((ys++xs.drop i).map Rm.row).set i (setCells (Rm.row xs[i]) 2 [.slice j xs[i].n m])=((ys++[(⟨xs[i].r,j,xs[i].n,m⟩:Rm)])++xs.drop (i+1)).map Rm.row:=by
     rw[cz cB,eH,yl _ _ (by simp[b]),zQ,ec,b,JN,JX,lN,eH];rfl
    rw[e]at o;exact o
   ·intro y hy;rcases fi.1 hy with hy|hy
    ·exact⟨(((of y hy).o.below (extAll M)).below N).bW Q dc⟩
    ·rw[eb.1 hy];exact⟨(o15.bW Q dc).base Ad.size⟩
 refine key k.r.n 0 [] wC rfl om tT rfl rfl ?_ ?_ ?_ sm
 ·exact(((E.below b7).below U).bW B dc).base dJ.size
 ·exact((G.below U).bW B dc).base S.size
 ·exact(z.bW B dc).base T.size
end

def oU(x:Cm)(e:Ev):Cm×Int:=match e.nums,e.gw,e.texts with
 |[a],[g,o,l,h,r],[n]=>
  if(iP (x.jo++[⟨a,n,g,o,l,h,r⟩])).2≠0 then(x,(iP (x.jo++[⟨a,n,g,o,l,h,r⟩])).2)
  else({x with jo:=x.jo++[⟨a,n,g,o,l,h,r⟩],wP:=x.wP++[⟨a,0,0,⟨#[48]⟩⟩]},0)
 |_,_,_=>(x,1)
def yQ(x:Cm)(e:Ev):Cm×Int:=match e.nums,e.gw,e.texts with
 |[a,c,p,d,z],[s,r],[t]=>
  if z≠0/\z≠1 then(x,1)
  else if(sK (x.fW++[⟨a,c,p,d,decide (z=1),s,r,t⟩])).2≠0 then(x,(sK (x.fW++[⟨a,c,p,d,decide (z=1),s,r,t⟩])).2)
  else({x with fW:=x.fW++[⟨a,c,p,d,decide (z=1),s,r,t⟩],oI:=x.oI++[⟨a,0,e.tick⟩]},0)
 |_,_,_=>(x,1)
section
variable {w0 w:World} {b:Nat} {k:Ca} {xs:List Rm} {x:Cm} {ea:Ea} {e:Ev}
theorem Od(hg:bj w0)(hb:Below w0.heap.size w0 w)(h:Wk w w0.heap.size b k xs x)(ok:dz x)(he:pJ w0 ea e)(hn:e.nums.length=3)(W:e.texts.length=3):
  cI Tryz.prog 113 #[.pointer (some ⟨b,0,none⟩),ea.val e] w0.heap.size w (Ln (yN x e) w0.heap.size b):=by
 obtain⟨id,tick,kind,nums,gw,texts⟩:=e;obtain⟨kd,a,c,rfl⟩:=U7 hn;obtain⟨n,lo,hi,rfl⟩:=U7 W;have sr:=he.sr;have mr:=he.mr;have st:=he.st;simp only[cc,fs,u1,MA,Ut]at st;unfold yN;dsimp only;have lr:=ok.lr;have ls:=ok.ls;have lp:=ok.lp;have lh:=ok.lh;refine F.qH.u7 hb.size fun w1 P=> ?_
 have Q:=kE hb P;have h1:=h.below (extAll P);have A:=he.au Q;have D:=fun(i:Nat) (hi:i<3)=>A.n.at_ (row:=fG) (fun _=>rfl) A.ln (i:=i) hi
 have E:=fun(i:Nat) (hi:i<3)=>A.t.at_ (row:=gq) (fun _=>rfl) A.lt (i:=i) hi
 obtain⟨p1,X,q1,c1,_⟩:=E 0 om;obtain⟨p2,a2,Y,c2,_⟩:=D 0 om;obtain⟨p3,a3,Z,c3,_⟩:=E 1 om;obtain⟨p4,a4,q4,c4,_⟩:=E 2 om;obtain⟨p5,a5,q5,c5,_⟩:=D 1 om;obtain⟨p6,a6,q6,c6,_⟩:=D 2 om;refine⟨_,_,_,cF h1.box 2 1,p1,X,q1,_,c1,p2,a2,Y,_,c2,p3,a3,Z,_,c3,p4,a4,q4,_,c4,p5,a5,q5,_,c5,p6,a6,q6,_,c6,fun Dj R=> ?_⟩;have Gi:=h1.below (extAll R);have G:=kE Q R;have C:=he.au G;refine pm (Mx C.r C.lr (by have:=C.lr;show ea.r.n<=_;have:gw.length=ea.r.n:=C.lr;omega)) ?_;rintro v Kv S ⟨H,I,rfl,J⟩;have d:=Gi.below S;have l:=kP G S;have J:=J.base (B:=w0.heap.size) G.size;have nr:=d.o.r.rows;have T:=d.o.e;have nrs:xs.length=x.rs.length:=by rw[<-T,ec]
 refine⟨_,_,_,rfl,jh Lv d.o.r (val:= .agg #[.string n,.int .i64 kd,.slice H ea.r.n I,.string lo,.string hi,.int .i64 a,.int .i64 c]) rfl (by simp[Value.cells,bl]) l.size om dc fun A' c' Ce K j OT=> ?_⟩;have U:=j _ _ _ _ dc d.box;refine dY U d.hB 2 1 (by show 3<=14;omega) rfl fun CP L=> ?_
 have V:=(l.trans OT).trans (aL.dQ L d.hB);have Tb:=bG.wrote L U;obtain⟨g1,g2,_,g4,g5,g6,g7,g8,g9,g10,g11,g12⟩:=d.o.Lm j;have f24:=g4 dc;have M:dP Ce w0.heap.size {k with r:=⟨A',k.r.n+1,c'⟩} (xs++[⟨⟨n,kd,gw,lo,hi,a,c⟩,H,ea.r.n,I⟩]) {x with rs:=x.rs++[⟨n,kd,gw,lo,hi,a,c⟩]}:=
  ⟨g1 dc,g2 dc,by rw[eH];exact K,fun y hy=>by
   rcases fi.1 hy with hy|hy
   ·exact f24 y hy
   ·rw[eb.1 hy];exact⟨J.bW j dc⟩,by show List.map Rm.r (xs++_)=_;rw[eH];show dK xs++_=_;rw[T];rfl,g5 dc,g6 dc,d.o.nw,d.o.cw,g7 dc,g8 dc,g9 dc,g10 dc,g11 dc,g12 dc⟩
 have g:Wk CP w0.heap.size b {k with r:=⟨A',k.r.n+1,c'⟩} (xs++[⟨⟨n,kd,gw,lo,hi,a,c⟩,H,ea.r.n,I⟩]) {x with rs:=x.rs++[⟨n,kd,gw,lo,hi,a,c⟩]}:=⟨L.at_,d.hB,M.bW Tb⟩;have m:∀y∈x.rs++[(⟨n,kd,gw,lo,hi,a,c⟩:Ru)],Rf y:=fun y hy=>by
  rcases fi.1 hy with hy|hy
  ·exact ok.sr y hy
  ·rw[eb.1 hy];exact⟨fun s hs=>by have:=sr s hs;show s.size<=1000;omega,by show lo.size<=1000;omega,by show hi.size<=1000;omega,by show n.size<_;omega,mr⟩
 have q:(x.rs++[(⟨n,kd,gw,lo,hi,a,c⟩:Ru)]).length<=17:=by rw[ek];simp;omega
 have i27:=g.o.uV m;refine⟨_,_,_,_,_,_,_,_,_,cF g.box 0 3,pm (wM (hg.next V) (i27.pr ok.sp ok.sh (by show x.ps.length<=7;omega) (by show x.hs.length<=7;omega) q)) ?_⟩;rw[i27.e];rintro v Is N rfl;refine⟨_,_,rfl,fun z=> ?_,fun O=> ?_⟩
 ·rw[bb z];exact⟨rfl,fun O=>absurd O z⟩
 rw[aq O];refine pm (uW (hg.next (kP V N)) (g.below N) m ok.sp ok.sh (by show x.ps.length<=7;omega) (by show x.hs.length<=7;omega) q (by show x.fN.length<=40;omega)) ?_;rintro v QO ND rfl;exact⟨_,rfl,rfl,fun _=>⟨_,_,(g.below N).below ND⟩⟩
theorem Gw(hg:bj w0)(hb:Below w0.heap.size w0 w)(h:Wk w w0.heap.size b k xs x)(ok:dz x)(he:pJ w0 ea e)(hn:e.nums.length=1)(hr:e.gw.length=5)(ht:e.texts.length=1):
  cI Tryz.prog 114 #[.pointer (some ⟨b,0,none⟩),ea.val e] w0.heap.size w (Ln (oU x e) w0.heap.size b):=by
 obtain⟨id,tick,kind,nums,gw,texts⟩:=e;obtain⟨a,rfl⟩:=Cy hn;obtain⟨g,o,l,m,r,rfl⟩:=ZA hr;obtain⟨n,rfl⟩:=Cy ht;have sr:=he.sr;have st:=he.st;simp only[cc,fs,u1,MA,Ut]at sr st;unfold oU;dsimp only;have lc:=ok.lc;have lv:=ok.lv;refine F.mT.u7 hb.size fun w1 Q=> ?_
 have R:=kE hb Q;have h1:=h.below (extAll Q);have q:=he.au R;have z:=fun(i:Nat) (hi:i<5)=>q.r.at_ (row:=gq) (fun _=>rfl) q.lr (i:=i) hi
 obtain⟨p1,I,q1,c1,_⟩:=q.n.at_ (row:=fG) (fun _=>rfl) q.ln (i:=0) sm;obtain⟨p2,a2,q2,c2,_⟩:=q.t.at_ (row:=gq) (fun _=>rfl) q.lt (i:=0) sm;obtain⟨p3,a3,q3,c3,_⟩:=z 0 om;obtain⟨p4,a4,q4,c4,_⟩:=z 1 om;obtain⟨p5,a5,q5,c5,_⟩:=z 2 om;obtain⟨p6,a6,q6,c6,_⟩:=z 3 om;obtain⟨p7,a7,q7,c7,_⟩:=z 4 om;refine⟨_,_,_,cF h1.box 6 1,p1,I,q1,_,c1,p2,a2,q2,_,c2,p3,a3,q3,_,c3,p4,a4,q4,_,c4,p5,a5,q5,_,c5,p6,a6,q6,_,c6,p7,a7,q7,_,c7,fun Df S=> ?_⟩;have d:=h1.below (extAll S);have T:=kE R S;have nc:=d.o.c.rows;have nv:=d.o.v.rows;refine jh KV d.o.c (val:= .agg #[.int .i64 a,.string n,.string g,.string o,.string l,.string m,.string r]) rfl (by simp[Value.cells,bl]) T.size om dc fun A' c' xE J A CO=> ?_
 have U:=A _ _ _ _ dc d.box;refine dY U d.hB 6 1 (by show 7<=14;omega) rfl fun Ih K=> ?_
 have V:=(T.trans CO).trans (aL.dQ K d.hB);have YS:=bG.wrote K U;obtain⟨g1,g2,g3,g4,g5,g6,_,g8,g9,g10,g11,g12⟩:=d.o.Lm A;have ZB:dP xE w0.heap.size {k with c:=⟨A',k.c.n+1,c'⟩} xs {x with jo:=x.jo++[⟨a,n,g,o,l,m,r⟩]}:=
  ⟨g1 dc,g2 dc,g3 dc,g4 dc,d.o.e,g5 dc,g6 dc,d.o.nw,d.o.cw,by rw[eH];exact J,g8 dc,g9 dc,g10 dc,g11 dc,g12 dc⟩
 have H:Wk Ih w0.heap.size b {k with c:=⟨A',k.c.n+1,c'⟩} xs {x with jo:=x.jo++[⟨a,n,g,o,l,m,r⟩]}:=⟨K.at_,d.hB,ZB.bW YS⟩;have sc:∀y∈x.jo++[(⟨a,n,g,o,l,m,r⟩:Ch)],Jr y:=fun y hy=>by
  rcases fi.1 hy with hy|hy
  ·exact ok.sc y hy
  ·rw[eb.1 hy];exact⟨by show n.size<_;omega,by show g.size<=1000;omega,by show o.size<=1000;omega,by show l.size<=1000;omega,by show m.size<=1000;omega,by show r.size<=1000;omega⟩
 have L:=H.o.c.rows;refine⟨_,_,_,cF H.box 6 1,pm (db (hg.next V) H.o.c.sl L sc) ?_⟩;rintro v WJ W rfl;have B:=H.below W;have X:=kP V W;have C:=he.au X;refine⟨_,_,rfl,fun D=> ?_,fun M=> ?_⟩
 ·rw[bb D];exact⟨rfl,fun M=>absurd M D⟩
 rw[aq M];obtain⟨p1,I,q1,c1,_⟩:=C.n.at_ (row:=fG) (fun _=>rfl) C.ln (i:=0) sm;refine⟨_,_,_,cF B.box 7 1,p1,I,q1,_,c1,fun w35 E=> ?_⟩;have j:=B.below (extAll E);have Dq:=kE X E;refine jh KU j.o.v (val:= .agg #[.int .i64 a,.int .i64 0,.int .i64 0,.string ⟨#[48]⟩]) rfl (by simp[Value.cells,bl]) Dq.size (by show(k.v.n+1)*_<=_;omega) dc fun A2 c2 SQ N G b41=> ?_
 have Y:=G _ _ _ _ dc j.box;refine dY Y j.hB 7 1 (by show 8<=14;omega) rfl fun w44 Z=> ?_
 have O:=bG.wrote Z Y;obtain⟨g1,g2,g3,g4,g5,g6,g7,_,g9,g10,g11,g12⟩:=j.o.Lm G;have P:dP SQ w0.heap.size {k with c:=⟨A',k.c.n+1,c'⟩,v:=⟨A2,k.v.n+1,c2⟩} xs {x with jo:=x.jo++[⟨a,n,g,o,l,m,r⟩],wP:=x.wP++[⟨a,0,0,⟨#[48]⟩⟩]}:=
  ⟨g1 dc,g2 dc,g3 dc,g4 dc,j.o.e,g5 dc,g6 dc,j.o.nw,j.o.cw,g7 dc,by rw[eH];exact N,g9 dc,g10 dc,g11 dc,g12 dc⟩
 exact⟨rfl,fun _=>⟨{k with c:=⟨A',k.c.n+1,c'⟩,v:=⟨A2,k.v.n+1,c2⟩},xs,Z.at_,j.hB,P.bW O⟩⟩
theorem Of(hg:bj w0)(hb:Below w0.heap.size w0 w)(h:Wk w w0.heap.size b k xs x)(ok:dz x)(he:pJ w0 ea e)(hn:e.nums.length=5)(hr:e.gw.length=2)(ht:e.texts.length=1):
  cI Tryz.prog 115 #[.pointer (some ⟨b,0,none⟩),ea.val e] w0.heap.size w (Ln (yQ x e) w0.heap.size b):=by
 obtain⟨id,tick,kind,nums,gw,texts⟩:=e;obtain⟨a,c,p,d,z,rfl⟩:=ZA hn;obtain⟨s,r,rfl⟩:=Kp hr;obtain⟨t,rfl⟩:=Cy ht;have sr:=he.sr;have st:=he.st;simp only[cc,fs,u1,MA,Ut]at sr st;unfold yQ;dsimp only;have la:=ok.la;have ll:=ok.ll;have na:=h.o.a.rows;have nl:=h.o.l.rows;have A:=fun {w':World} (wH:Below w0.heap.size w0 w') (i:Nat) (hi:i<5)=>(he.au wH).n.at_ (row:=fG) (fun _=>rfl) he.ln (i:=i) hi
 obtain⟨I,a0,H,_,_⟩:=A hb 4 om;refine F.qI.u7 hb.size ⟨I,a0,H,fun w2 T=> ?_⟩;have U:=h.below (extAll T);have B:=kE hb T;have g:=he.au B;obtain⟨p5,a5,V,c5,_⟩:=A B 4 om;rw[H]at V;cases V;refine⟨_,c5,fun z0=>⟨I,a0,H,_,c5,fun z1=> ?_,fun z1=> ?_⟩,fun z0=> ?_⟩
 ·rw[bb ⟨z0,z1⟩];exact⟨rfl,fun h=>absurd (show(1:Int)=0 from h) dc⟩
 all_goals
  rw[aq (by
   first
    |exact fun k=>z1 k.2
    |exact fun k=>z0 k.1)]
  obtain⟨p1,J,q1,c1,_⟩:=A B 0 om;obtain⟨p2,a2,q2,c2,_⟩:=A B 1 om;obtain⟨p3,a3,q3,c3,_⟩:=A B 2 om;obtain⟨p4,a4,q4,c4,_⟩:=A B 3 om;obtain⟨p6,a6,q6,c6,_⟩:=g.r.at_ (row:=gq) (fun _=>rfl) g.lr (i:=0) sm;obtain⟨p7,a7,q7,c7,_⟩:=g.r.at_ (row:=gq) (fun _=>rfl) g.lr (i:=1) sm;obtain⟨p8,a8,q8,c8,_⟩:=g.t.at_ (row:=gq) (fun _=>rfl) g.lt (i:=0) sm;refine⟨_,_,_,cF U.box 8 1,p1,J,q1,_,c1,p2,a2,q2,_,c2,p3,a3,q3,_,c3,p4,a4,q4,_,c4,I,_,H,_,c5,p6,a6,q6,_,c6,p7,a7,q7,_,c7,p8,a8,q8,_,c8,fun xE W=> ?_⟩;have j:=U.below (extAll W);have X:=kE B W;refine jh KQ j.o.a (val:= .agg #[.int .i64 a,.int .i64 c,.int .i64 p,.int .i64 d,.bool (decide (z=1)),.string s,.string r,.string t]) rfl (by simp[Value.cells,bl]) X.size om dc fun A' c' DJ K Y Ux=> ?_
  have Z:=Y _ _ _ _ dc j.box;refine dY Z j.hB 8 1 (by show 9<=14;omega) rfl fun SP L=> ?_
  have Xd:=(X.trans Ux).trans (aL.dQ L j.hB);have M:=bG.wrote L Z;obtain⟨g1,g2,g3,g4,g5,g6,g7,g8,_,g10,g11,g12⟩:=j.o.Lm Y;have N:dP DJ w0.heap.size {k with a:=⟨A',k.a.n+1,c'⟩} xs {x with fW:=x.fW++[⟨a,c,p,d,decide (z=1),s,r,t⟩]}:=
   ⟨g1 dc,g2 dc,g3 dc,g4 dc,j.o.e,g5 dc,g6 dc,j.o.nw,j.o.cw,g7 dc,g8 dc,by rw[eH];exact K,g10 dc,g11 dc,g12 dc⟩
  have m:Wk SP w0.heap.size b {k with a:=⟨A',k.a.n+1,c'⟩} xs {x with fW:=x.fW++[⟨a,c,p,d,decide (z=1),s,r,t⟩]}:=⟨L.at_,j.hB,N.bW M⟩;have sa:∀y∈x.fW++[(⟨a,c,p,d,decide (z=1),s,r,t⟩:Al)],UO y:=fun y hy=>by
   rcases fi.1 hy with hy|hy
   ·exact ok.sa y hy
   ·rw[eb.1 hy];exact⟨by show s.size<=1000;omega,by show r.size<=1000;omega,by show t.size<_;omega⟩
  have O:=m.o.a.rows;refine⟨_,_,_,cF m.box 8 1,pm (dF (hg.next Xd) m.o.a.sl O (by show k.a.n+1<_;omega) sa) ?_⟩;rintro v QO ND rfl;have C:=m.below ND;have py:=kP Xd ND;refine⟨_,_,rfl,fun D=> ?_,fun P=> ?_⟩
  ·rw[bb D];exact⟨rfl,fun P=>absurd P D⟩
  rw[aq P];obtain⟨p1,J,q1,c1,_⟩:=A py 0 om;refine⟨_,_,_,cF C.box 9 1,p1,J,q1,_,c1,fun SQ E=> ?_⟩;have q:=C.below (extAll E);have ZK:=kE py E;refine jh KR q.o.l (val:= .agg #[.int .i64 a,.int .i64 0,.int .i64 tick]) rfl (by simp[Value.cells,bl]) ZK.size (by show(k.l.n+1)*_<=_;omega) dc fun A2 c2 Q R G b47=> ?_
  have Xf:=G _ _ _ _ dc q.box;refine dY Xf q.hB 9 1 (by show 10<=14;omega) rfl fun Vi Vl=> ?_
  have SW:=bG.wrote Vl Xf;obtain⟨g1,g2,g3,g4,g5,g6,g7,g8,g9,_,g11,g12⟩:=q.o.Lm G;have S:dP Q w0.heap.size {k with a:=⟨A',k.a.n+1,c'⟩,l:=⟨A2,k.l.n+1,c2⟩} xs {x with fW:=x.fW++[⟨a,c,p,d,decide (z=1),s,r,t⟩],oI:=x.oI++[⟨a,0,tick⟩]}:=
   ⟨g1 dc,g2 dc,g3 dc,g4 dc,q.o.e,g5 dc,g6 dc,q.o.nw,q.o.cw,g7 dc,g8 dc,g9 dc,by rw[eH];exact R,g11 dc,g12 dc⟩
  exact⟨rfl,fun _=>⟨{k with a:=⟨A',k.a.n+1,c'⟩,l:=⟨A2,k.l.n+1,c2⟩},xs,Vl.at_,q.hB,S.bW SW⟩⟩
end

structure Kd where
 n:Int
 r:Int
 t:Int
 em:Bool
 fu:Bool
 f:Nat
abbrev Kd.val(d:Kd):Value:= .agg #[.int .i64 d.n,.int .i64 d.r,.int .i64 d.t,.bool d.em,.bool d.fu,.func (.func d.f) #[] #[]]
def kd(z:Int):Option Kd:=
 if z=12 then some ⟨0,0,0,false,true,122⟩
 else if z=11 then some ⟨1,0,0,false,false,121⟩
 else if z=10 then some ⟨1,1,0,false,false,120⟩
 else if z=9 then some ⟨0,0,0,false,true,119⟩
 else if z=8 then some ⟨1,0,1,false,true,118⟩
 else if z=7 then some ⟨-1,0,0,true,false,117⟩
 else if z=6 then some ⟨2,0,2,false,false,116⟩
 else if z=5 then some ⟨5,2,1,false,false,115⟩
 else if z=4 then some ⟨1,5,1,false,false,114⟩
 else if z=3 then some ⟨3, -1,3,true,false,113⟩
 else if z=2 then some ⟨1,5,1,true,false,112⟩
 else if z=1 then some ⟨3,3,1,true,false,111⟩
 else none
noncomputable def wR(H:oG)(z:Int)(x:Cm)(e:Ev):Cm×Int:=
 if z=12 then Gs x
 else if z=11 then Eo x e
 else if z=10 then rC x e
 else if z=9 then mq H x e
 else if z=8 then lF H x e
 else if z=7 then yO x e
 else if z=6 then nP H x e
 else if z=5 then yQ x e
 else if z=4 then oU x e
 else if z=3 then yN x e
 else if z=2 then yM x e
 else if z=1 then rB x e
 else(x,1)
abbrev kdZ:Value:= .agg #[.int .i64 0,.int .i64 0,.int .i64 0,.bool false,.bool false,.nilFunc]
theorem Og:Zi 134 3 132 kdZ:=⟨kF,kF,fun w=>by kernel_rfl⟩
theorem kB{z a:Int}{d:Kd}{o:Option Kd}{f:Int->Option Value}(h:f z=o.map Kd.val):zZ f a d.val z=(if z=a then some d else o).map Kd.val:=by
 unfold zZ;by_cases q:z=a
 ·rw[bb q,bb q];rfl
 ·rw[aq q,aq q];exact h
theorem gZ{n:Nat}{d:Int}{m:Nat}(h:0<=d->(n:Int)=d)(a:d=(m:Int)):n=m:=by
 have:=h om;omega
theorem LA(w:World):Pure Tryz.prog 59 #[] w fun v w'=>∃m,v= .map (some m)/\wY w' w.heap.size 3 kdZ m 12 fun z=>(kd z).map Kd.val:=by
 refine F.pI.vc (yI (tk:=3) (zv:=kdZ) lf fun M m3 r=> ?_);refine cS m3 Og ir _ om lf r.size fun N m4 K g4=> ?_
 have y:=r.trans K;refine cS m4 Og ir _ om lf y.size fun O m5 L g5=> ?_
 have A:=y.trans L;refine cS m5 Og ir _ om lf A.size fun P m6 c g6=> ?_
 have B:=A.trans c;refine cS m6 Og ir _ om lf B.size fun Q m7 d g7=> ?_
 have C:=B.trans d;refine cS m7 Og ir _ om lf C.size fun R m8 g g8=> ?_
 have b8:=C.trans g;refine cS m8 Og ir _ om lf b8.size fun S m9 h g9=> ?_
 have D:=b8.trans h;refine cS m9 Og ir _ om lf D.size fun T m10 i g10=> ?_
 have E:=D.trans i;refine cS m10 Og ir _ om lf E.size fun U m11 j g11=> ?_
 have a:=E.trans j;refine cS m11 Og ir _ om lf a.size fun V m12 l g12=> ?_
 have G:=a.trans l;refine cS m12 Og ir _ om lf G.size fun W m13 n g13=> ?_
 have I:=G.trans n;refine cS m13 Og ir _ om lf I.size fun X m14 o g14=> ?_
 have J:=I.trans o;refine cS m14 Og ir _ om lf J.size fun Y m15 q g15=> ?_
 have Z:=J.trans q;refine⟨_,rfl,?_⟩;have e:(fun z=>(kd z).map Kd.val)=fun z=>_:=funext fun z=>(show _=(kd z).map Kd.val from by
  unfold kd;exact kB (kB (kB (kB (kB (kB (kB (kB (kB (kB (kB (kB (f:=fun _=>none) rfl)))))))))))).symm
 rw[e];exact m15
def Es(want:Int)(n:Nat):Bool:=decide (want<0∨want=n)
def jq(d:Kd)(e:Ev):Bool:=Es d.n e.nums.length&&Es d.r e.gw.length&&Es d.t e.texts.length&&(decide (0<=d.n)||decide (e.nums.length % 3=0))
theorem Gx(want:Int)(n:Nat)(w:World):Pure Tryz.prog 123 #[.int .i64 want,.int .i64 n] w fun v _=>v= .bool (Es want n):=by
 refine F.kS.vc ⟨fun q=> ?_,fun q=> ?_⟩
 ·exact bx Value.bool (gu (.inl q)).symm
 ·refine bx Value.bool ?_;unfold Es;rw[ve,hJ,hJ];omega
theorem I1{w:World}{ea:Ea}{e:Ev}(he:pJ w ea e)(d:Kd):Pure Tryz.prog 60 #[d.val,ea.val e] w fun v _=>v= .bool (jq d e):=by
 have ln:=he.ln;have lr:=he.lr;have lt:=he.lt;unfold jq;rw[ln,lr,lt];refine F.oB.vc fun w1 g=>pm (Gx _ _ _) ?_
 rintro v h _ rfl;refine⟨_,rfl,fun q1=>pm (Gx _ _ _) ?_,fun q1=>by rw[q1];rfl⟩;rintro v i _ rfl;refine⟨_,rfl,fun a=>pm (Gx _ _ _) ?_,fun a=>by rw[q1,a];rfl⟩;rintro v j _ rfl;refine⟨_,rfl,fun c=> ?_,fun c=>by rw[q1,a,c];rfl⟩;rw[q1,a,c];refine⟨fun q=> ?_,fun q=>⟨om,?_⟩⟩
 ·rw[gu (by omega:(0:Int)<=d.n)];rfl
 ·rw[en (by omega:¬(0:Int)<=d.n)];refine bx Value.bool ?_;simp only[rr,IT];rw[nb];omega
theorem Oh{d:Kd}{e:Ev}(h:jq d e=true):(0<=d.n->(e.nums.length:Int)=d.n)/\(0<=d.r->(e.gw.length:Int)=d.r)/\(0<=d.t->(e.texts.length:Int)=d.t)/\(d.n<0->e.nums.length % 3=0):=by
 unfold jq Es at h;simp only[cy,Ka,hJ]at h;omega
section
variable {H:oG} {w0 w:World} {b:Nat} {k:Ca} {xs:List Rm} {x:Cm} {ea:Ea} {e:Ev}
theorem Vn(fO:fM H)(hg:bj w0)(hb:Below w0.heap.size w0 w)(h:Wk w w0.heap.size b k xs x)(ok:dz x)(he:pJ w0 ea e){d:Kd}(a:kd e.kind=some d)(hf:jq d e=true)(B:d.fu=true->x.dS≠[]):
  ay Tryz.prog d.f=true/\cI Tryz.prog d.f #[.pointer (some ⟨b,0,none⟩),ea.val e] w0.heap.size w (Ln (wR H e.kind x e) w0.heap.size b):=by
 obtain⟨fn,fr,c,f3⟩:=Oh hf;unfold kd at a;unfold wR;by_cases g:e.kind=12
 ·rw[bb g]at a⊢;cases a;exact⟨kF,NS hb h⟩
 rw[aq g]at a⊢;by_cases i:e.kind=11
 ·rw[bb i]at a⊢;cases a;exact⟨kF,RS hg hb h ok he (gZ (m:=1) fn rfl)⟩
 rw[aq i]at a⊢;by_cases j:e.kind=10
 ·rw[bb j]at a⊢;cases a;exact⟨kF,IU hg hb h ok he (gZ (m:=1) fn rfl) (gZ (m:=1) fr rfl)⟩
 rw[aq j]at a⊢;by_cases l:e.kind=9
 ·rw[bb l]at a⊢;cases a;exact⟨kF,Oa fO hg hb h ok (B rfl)⟩
 rw[aq l]at a⊢;by_cases n:e.kind=8
 ·rw[bb n]at a⊢;cases a;exact⟨kF,Gt fO hg hb h ok he (gZ (m:=1) fn rfl) (gZ (m:=1) c rfl)⟩
 rw[aq n]at a⊢;by_cases o:e.kind=7
 ·rw[bb o]at a⊢;cases a;exact⟨kF,NZ hg hb h ok he (f3 dc)⟩
 rw[aq o]at a⊢;by_cases q:e.kind=6
 ·rw[bb q]at a⊢;cases a;exact⟨kF,IV fO hg hb h ok he (gZ (m:=2) fn rfl) (gZ (m:=2) c rfl)⟩
 rw[aq q]at a⊢;by_cases r:e.kind=5
 ·rw[bb r]at a⊢;cases a;exact⟨kF,Of hg hb h ok he (gZ (m:=5) fn rfl) (gZ (m:=2) fr rfl) (gZ (m:=1) c rfl)⟩
 rw[aq r]at a⊢;by_cases y:e.kind=4
 ·rw[bb y]at a⊢;cases a;exact⟨kF,Gw hg hb h ok he (gZ (m:=1) fn rfl) (gZ (m:=5) fr rfl) (gZ (m:=1) c rfl)⟩
 rw[aq y]at a⊢;by_cases z:e.kind=3
 ·rw[bb z]at a⊢;cases a;exact⟨kF,Od hg hb h ok he (gZ (m:=3) fn rfl) (gZ (m:=3) c rfl)⟩
 rw[aq z]at a⊢;by_cases A:e.kind=2
 ·rw[bb A]at a⊢;cases a;exact⟨kF,NT hg hb h ok he (gZ (m:=1) fn rfl) (gZ (m:=5) fr rfl) (gZ (m:=1) c rfl)⟩
 rw[aq A]at a⊢;by_cases q1:e.kind=1
 ·rw[bb q1]at a⊢;cases a;exact⟨kF,IQ hg hb h ok he (gZ (m:=3) fn rfl) (gZ (m:=3) fr rfl) (gZ (m:=1) c rfl)⟩
 rw[aq q1]at a⊢;cases a
noncomputable def dh(H:oG)(x:Cm)(e:Ev):Except Int Cm:=
 if e.id<1∨1073741824<e.id∨e.tick<0∨1073741824<e.tick then .error 2
 else match kd e.kind with
 |none=> .error 1
 |some d=>
  if jq d e=false then .error 1
  else if e.id<=x.last∨e.tick<x.tick then .error 5
  else if(d.em=true/\x.dS≠[])∨(d.fu=true/\x.dS=[])then .error 11
  else if(wR H e.kind x e).2≠0 then .error (wR H e.kind x e).2
  else .ok {(wR H e.kind x e).1 with last:=e.id,tick:=e.tick}
def ApR(r:Except Int Cm)(B:Nat)(v:Value)(w':World):Prop:=match r with
 | .error a=>v= .tuple #[Ca.zero.val Cm.zero,.int .i64 a]
 | .ok y=>∃k xs,v= .tuple #[k.val y,.int .i64 0]/\dP w' B k xs y
end

theorem dP.gh{w w':World}{B:Nat}{k:Ca}{xs:List Rm}{x:Cm}(h:dP w B k xs x)(s:bG 49 w w'):dP w' B k xs x:=by
 obtain⟨p1,p2,p3,c,g,p6,p7,p8,p9,a,b,i⟩:=h.Lm s;exact⟨p1 dc,p2 dc,p3 dc,c dc,h.e,g dc,p6 dc,h.nw,h.cw,p7 dc,p8 dc,p9 dc,a dc,b dc,i dc⟩
theorem dP.last{w:World}{B:Nat}{k:Ca}{xs:List Rm}{x:Cm}(h:dP w B k xs x)(i t:Int):dP w B k xs {x with last:=i,tick:=t}:=⟨h.p,h.h,h.r,h.f,h.e,h.s,h.pl,h.nw,h.cw,h.c,h.v,h.a,h.l,h.g,h.q⟩
theorem LB{f:FuncId}{args:Array Value}{B B':Nat}{w:World}{R R':Value->World->Prop}(h:cI Tryz.prog f args B' w R)(hB:B<=B')(a:∀v w',Below B' w w'->R v w'->R' v w'):cI Tryz.prog f args B w R':=
 Calls.mono h fun _ _ ⟨v,e,hb,b⟩=>⟨v,e,hb.mono hB,a v _ hb b⟩
theorem Gy{w w':World}{B p:Nat}{o:Obj}(h:w.heap[p]? =some o)(hb:Below B w w')(hp:p<B):w'.heap[p]? =some o:=(hb.block p hp).trans h
section
variable {H:oG} {w0 w:World} {k:Ca} {xs:List Rm} {x:Cm} {ea:Ea} {e:Ev} {d:Kd}
theorem Vo(fO:fM H)(hg:bj w0)(h:ux w0 k xs x)(ok:dz x)(he:pJ w0 ea e)(hd:kd e.kind=some d)(hf:jq d e=true)(TT:d.fu=true->x.dS≠[])(hw:Below w0.heap.size w0 w){R:Value->World->Prop}
  (hE:(wR H e.kind x e).2≠0->∀w,R (.tuple #[Ca.zero.val Cm.zero,.int .i64 (wR H e.kind x e).2]) w)
  (hR:(wR H e.kind x e).2=0->∀w k xs,dP w w0.heap.size k xs {(wR H e.kind x e).1 with last:=e.id,tick:=e.tick}->R (.tuple #[k.val {(wR H e.kind x e).1 with last:=e.id,tick:=e.tick},.int .i64 0]) w):
  F.bF.Jl k.p.A k.p.n k.p.c k.h.A k.h.n k.h.c k.r.A k.r.n k.r.c k.s.A k.s.n k.s.c k.w.A k.w.n k.w.c x.bQ k.c.A k.c.n k.c.c k.v.A k.v.n k.v.c k.a.A k.a.n k.a.c k.l.A k.l.n k.l.c k.g.A k.g.n k.g.c k.q.A k.q.n k.q.c x.last x.tick e.id e.tick e.kind ea.n.A ea.n.n ea.n.c ea.r.A ea.r.n ea.r.c ea.t.A ea.t.n ea.t.c
   none 0 0 none 0 0 none 0 0 none 0 0 none 0 0 0 none 0 0 none 0 0 none 0 0 none 0 0 none 0 0 none 0 0 0 0 d.n d.r d.t d.em d.fu (.func (.func d.f) #[] #[]) w0.heap.size w R:=by
 refine F.bF.Jl.step fun p30 l30 Z E l31 G I J WE p33 l33 P=>⟨_,_,_,_,_,_,_,_,_,_,_,_,_,_,_,_,_,_,_,_,_,_,_,_,_,_,_,_,_,_,_,_,_,_,_,_,cF Z 0 14 rfl,pm (I0 (h.au hw) ok) ?_⟩
 have Q:=(ax.1 G).1;have s32:=(ax.1 WE).1;have s33:=(ax.1 P).1;rintro v M N ⟨k1,nQ,rfl,o1⟩;have Oi:=kP hw N;refine⟨_,_,_,_,_,_,_,_,_,_,_,_,_,_,_,_,_,_,_,_,_,_,_,_,_,_,_,_,_,_,_,_,_,_,_,_,rfl,oS _ _ Oi.size fun S h64 T l64=> ?_⟩;have W:Below w.heap.size w S:=N.trans (T.mono N.size);have wk:Wk S w.heap.size M.heap.size k1 nQ x:=⟨h64,N.size,o1.below T⟩;obtain⟨cA,eT⟩:=Vn fO (hg.next hw) W wk ok (he.au hw) hd hf TT;refine⟨_,_,_,cF (Gy P W s33) 5 1,_,_,_,_,_,_,_,_,_,_,_,_,cF (Gy G W Q) 0 6 rfl,cA,LB eT hw.size ?_⟩;rintro v w76 b76 ⟨rfl,hk⟩;have ZM:=W.trans b76;have z:=Gy G ZM Q;have b:=Gy WE ZM s32;have Gz:=hw.trans (ZM.mono hw.size);refine⟨fun _ _ _ hm=>(by cases hm),_,rfl,fun hne=> ?_,fun X=> ?_⟩
 ·refine dY b J 0 14 sm rfl (fun w79 aiE=>⟨_,_,_,_,_,_,_,_,_,_,_,_,_,_,_,_,_,_,_,_,_,_,_,_,_,_,_,_,_,_,_,_,_,_,_,_,cF aiE.at_ 0 14 rfl,?_⟩) rfl;exact hE hne w79
 ·have X:=dT.1 X;obtain⟨O,B,wk2⟩:=hk X;have Y:I≠M.heap.size:=by have:=N.size;omega
  have U:E≠M.heap.size:=by have:=N.size;omega
  have fin:∀{w':World},w'.heap[I]? =some (.cells ([.slice none 0 0,.slice none 0 0,.slice none 0 0,.slice none 0 0,.slice none 0 0,.int .i64 0,.slice none 0 0,.slice none 0 0,.slice none 0 0,.slice none 0 0,.slice none 0 0,.slice none 0 0,.int .i64 0,.int .i64 0]:List Value).toArray 49 (0,0))->
    Wk w' w.heap.size M.heap.size O B {(wR H e.kind x e).1 with last:=e.id,tick:=e.tick}->∀C,aL w' C I 49 (O.cells {(wR H e.kind x e).1 with last:=e.id,tick:=e.tick})->R (.tuple #[O.val {(wR H e.kind x e).1 with last:=e.id,tick:=e.tick},.int .i64 0]) C:=fun hz hk C aiF=>by
   have o:=hk.o.gh (bG.wrote aiF hz);exact hR X C O B ⟨o.p.base hw.size,o.h.base hw.size,o.r.base hw.size,fun y hy=>⟨(o.f y hy).o.base hw.size⟩,o.e,o.s.base hw.size,o.pl,o.nw,o.cw,o.c.base hw.size,o.v.base hw.size,o.a.base hw.size,o.l.base hw.size,o.g.base hw.size,o.q.base hw.size⟩
  refine⟨_,cF z 0 1,fun Xh D=> ?_,fun Xh D=> ?_⟩
  all_goals
   have z:=ag z (extAll D);have b:=ag b (extAll D);have i:=wk2.below (extAll D)
  ·refine⟨_,cF z 1 1,?_⟩;refine dY i.box (dp hw.size i.hB) 12 1 (by show 13<=14;omega) rfl fun w99 j=> ?_
   have K:=bG.wrote j i.box;have z:=(j.rest E U).trans z;have b:=(j.rest I Y).trans b;refine dY j.at_ (dp hw.size i.hB) 13 1 (by show 14<=14;omega) rfl fun R5 L=> ?_
   have ZN:=bG.wrote L j.at_;have b:=(L.rest I Y).trans b;have m:Wk R5 w.heap.size M.heap.size O B {(wR H e.kind x e).1 with last:=e.id,tick:=e.tick}:=⟨L.at_,i.hB,((i.o.bW K).bW ZN).last _ _⟩;refine⟨_,_,_,_,_,_,_,_,_,_,_,_,_,_,_,_,_,_,_,_,_,_,_,_,_,_,_,_,_,_,_,_,_,_,_,_,cF m.box 0 14,dY b J 0 14 sm rfl (fun Vr V=>⟨_,_,_,_,_,_,_,_,_,_,_,_,_,_,_,_,_,_,_,_,_,_,_,_,_,_,_,_,_,_,_,_,_,_,_,_,cF V.at_ 0 14 rfl,?_⟩) rfl⟩;exact fin b m Vr V
  ·refine dY i.box (dp hw.size i.hB) 12 1 (by show 13<=14;omega) rfl fun w99 j=> ?_
   have K:=bG.wrote j i.box;have z:=(j.rest E U).trans z;have b:=(j.rest I Y).trans b;refine⟨_,cF z 1 1,?_⟩;refine dY j.at_ (dp hw.size i.hB) 13 1 (by show 14<=14;omega) rfl fun R5 L=> ?_
   have ZN:=bG.wrote L j.at_;have b:=(L.rest I Y).trans b;have m:Wk R5 w.heap.size M.heap.size O B {(wR H e.kind x e).1 with last:=e.id,tick:=e.tick}:=⟨L.at_,i.hB,((i.o.bW K).bW ZN).last _ _⟩;refine⟨_,_,_,_,_,_,_,_,_,_,_,_,_,_,_,_,_,_,_,_,_,_,_,_,_,_,_,_,_,_,_,_,_,_,_,_,cF m.box 0 14,dY b J 0 14 sm rfl (fun Vr V=>⟨_,_,_,_,_,_,_,_,_,_,_,_,_,_,_,_,_,_,_,_,_,_,_,_,_,_,_,_,_,_,_,_,_,_,_,_,cF V.at_ 0 14 rfl,?_⟩) rfl⟩;exact fin b m Vr V
theorem mW(fO:fM H)(hg:bj w)(h:ux w k xs x)(ok:dz x)(he:pJ w ea e):
  Pure Tryz.prog 27 #[k.val x,ea.val e] w (ApR (dh H x e) w.heap.size):=by
 have nw:=h.nw;unfold dh;refine F.bF.vc ⟨fun q w1 _=>by rw[bb (.inl q)];rfl,fun q1=>⟨fun q X _=>by rw[bb (.inr (.inl q))];rfl,fun A=>⟨fun q Y _=>by rw[bb (.inr (.inr (.inl q)))];rfl,fun J=>⟨fun q Z _=>by rw[bb (.inr (.inr (.inr q)))];rfl,fun j O P=> ?_⟩⟩⟩⟩;rw[aq om];have Q:=k0 P;refine pm (LA O) ?_;rintro v w8 b8 ⟨m,rfl,hm⟩;have S:=kP Q b8;refine⟨_,rfl,fun w9 K=> ?_⟩;have B:=kE S K;have C:=hm.ext K;refine II C Og he.ik ?_;cases T:kd e.kind with
 |none=>
  refine⟨_,_,_,_,_,_,_,rfl,fun L M=> ?_⟩;exact F.bF.J4.step ⟨fun _ Aw _=>rfl,fun q=>absurd rfl q⟩
 |some d=>
  refine⟨_,_,_,_,_,_,_,rfl,fun L M=> ?_⟩;have N:Below w.heap.size w L:=B.trans (M.below);dsimp only;have D:∀c,Below w.heap.size w c->jq d e=true->(d.em=true->x.dS=[])->(d.fu=true->x.dS≠[])->¬(e.id<=x.last∨e.tick<x.tick)->_:=fun c l hf r E g=>Vo (w:=c) (R:=ApR (if jq d e=false then .error 1
  else if e.id<=x.last∨e.tick<x.tick then .error 5
  else if(d.em=true/\x.dS≠[])∨(d.fu=true/\x.dS=[])then .error 11
  else if(wR H e.kind x e).2≠0 then .error (wR H e.kind x e).2
  else .ok {(wR H e.kind x e).1 with last:=e.id,tick:=e.tick}) w.heap.size) fO hg h ok he T hf E l (fun G w=>by
   rw[aq (by rw[hf];decide),aq g,aq (by rintro(⟨a,b⟩|⟨a,b⟩);exact b (r a);exact E a b),bb G];rfl) (fun U w k xs o=>by
   rw[aq (by rw[hf];decide),aq g,aq (by rintro(⟨a,b⟩|⟨a,b⟩);exact b (r a);exact E a b),aq (fun k=>k U)];exact⟨k,xs,rfl,o⟩)
  refine F.bF.J4.step ⟨fun q=>(by cases q),fun _=>pm (I1 (he.au N) d) ?_⟩;rintro v c V rfl;have l:=kP N V;refine⟨_,rfl,fun q Ce _=>by rw[bb q];rfl,fun q=> ?_⟩;have hf:jq d e=true:=by simpa using q
  refine⟨fun q1 Uw _=>by rw[aq q,bb (.inl q1)];rfl,fun q1=>⟨fun A Ih _=>by rw[aq q,bb (.inr A)];rfl,fun A=> ?_⟩⟩;have g:¬(e.id<=x.last∨e.tick<x.tick):=om;have y:k.w.n=0↔x.dS=[]:=by rw[<-nw];exact OO
  have bad:∀w1:World,(d.em=true/\x.dS≠[])∨(d.fu=true/\x.dS=[])->∀w,ApR (if jq d e=false then .error 1
  else if e.id<=x.last∨e.tick<x.tick then .error 5
  else if(d.em=true/\x.dS≠[])∨(d.fu=true/\x.dS=[])then .error 11
  else if(wR H e.kind x e).2≠0 then .error (wR H e.kind x e).2
  else .ok {(wR H e.kind x e).1 with last:=e.id,tick:=e.tick}) w1.heap.size (.tuple #[Ca.zero.val Cm.zero,.int .i64 11]) w:=fun w1 hb w=>by
   rw[aq q,aq g,bb hb];rfl
  refine⟨fun z=>⟨fun J W _=>bad w (.inl ⟨z,fun k=>by have:=y.2 k;omega⟩) W,fun J=> ?_⟩,fun z=> ?_⟩
  ·have hp:x.dS=[]:=y.1 om;exact⟨fun i=>⟨fun j I _=>bad w (.inr ⟨i,hp⟩) I,fun j=>by omega⟩,fun i=>D c l hf (fun _=>hp) (fun k=>by rw[i]at k;cases k) g⟩
  ·exact⟨fun i=>⟨fun j I _=>bad w (.inr ⟨i,y.1 om⟩) I,fun j=>D c l hf (fun k=>by rw[z]at k;cases k) (fun _ k=>j (by have:=y.2 k;omega)) g⟩,fun i=>D c l hf (fun k=>by rw[z]at k;cases k) (fun k=>by rw[i]at k;cases k) g⟩
end

structure kV (e:Ev):Prop where
 mn:e.nums.length<=24
 mr:e.gw.length<=9
 mt:e.texts.length<=4
 sr:∀s∈e.gw,s.size<=40
 st:∀s∈e.texts,s.size<=70
 ir:∀z∈e.nums, -9223372036854775808<=z/\z<=9223372036854775807
theorem pY{ps:List Pa}{hs:List Ho}{rs:List Ru}{l:List Sw}(h:kQ ps hs rs l=true):ps.length<=6/\hs.length<=6/\rs.length<=16/\l.length<=36:=by
 unfold kQ yG at h;simp only[cy,hJ]at h;obtain⟨c0,a,_⟩:=um h.1.1.1;have r:=mc c0;exact⟨r.lp,r.lh,a,(fw h.1.1.2).len⟩
theorem uX{x:Cm}(h:tj x=0):kQ x.ps x.hs x.rs x.fN=true:=by
 unfold tj at h;split at h
 ·cases h
 ·rename_i k;simpa using k
theorem sP{α:Type}{P:α->Prop}{l:List α}{a:α}(h:∀y∈l,P y)(ha:P a):∀y∈l++[a],P y:=fun y hy=>by
 rcases fi.1 hy with hy|hy
 ·exact h y hy
 ·rw[eb.1 hy];exact ha
theorem I3:∀{l:List Int},(∀z∈l, -9223372036854775808<=z/\z<=9223372036854775807)->∀y∈di l,SmW y:=by
 intro l;induction l using di.induct with
 |case1 a b c r ih=>
  intro h y hy;rw[di]at hy;rcases cc.1 hy with rfl|hy
  ·exact⟨h a sm,h b sm,h c sm⟩
  ·exact ih (fun z hz=>h z (by simp[hz])) y hy
 |case2 l hl=>
  intro h y hy;rw[di]at hy
  ·cases hy
  ·exact hl
section
variable {H:oG} {x:Cm} {e:Ev} {r:Cm×Int}
theorem kV.sR(he:kV e){s:ByteArray}(h:s∈e.gw):ma s:=by
 have:=he.sr s h;show s.size<=1000;omega
theorem kV.sT(he:kV e){s:ByteArray}(h:s∈e.texts):s.size<2147483648:=by
 have:=he.st s h;omega
theorem kV.sU(he:kV e){s:ByteArray}(h:s∈e.texts):ma s:=by
 have:=he.st s h;show s.size<=1000;omega
theorem Oj(ok:dz x)(he:kV e)(h:rB x e=r)(b:r.2=0):dz r.1:=by
 unfold rB at h;split at h
 ·rename_i a u c m v j t h1 d i;dsimp only at h;split at h
  ·rename_i k;subst h;exact absurd b k
  ·subst h;have g:=uX b;obtain⟨lp,lh,lr,ls⟩:=pY g;exact {ok with au:=g,lp:=lp,lh:=lh,lr:=lr,ls:=ls,sp:=sP ok.sp ⟨he.sR (by rw[d];simp),he.sR (by rw[d];simp),he.sR (by rw[d];simp),he.sT (by rw[i];simp)⟩}
 ·subst h;cases b
theorem Vs(ok:dz x)(he:kV e)(h:yM x e=r)(c:r.2=0):dz r.1:=by
 unfold yM at h;split at h
 ·rename_i a i m cx j l t h1 b g;dsimp only at h;split at h
  ·subst h;cases c
  ·split at h
   ·rename_i k;subst h;exact absurd c k
   ·subst h;have d:=uX c;obtain⟨lp,lh,lr,ls⟩:=pY d;exact {ok with au:=d,lp:=lp,lh:=lh,lr:=lr,ls:=ls,sh:=sP ok.sh ⟨he.sR (by rw[b];simp),he.sR (by rw[b];simp),he.sR (by rw[b];simp),he.sR (by rw[b];simp),he.sR (by rw[b];simp),he.sT (by rw[g];simp)⟩}
 ·subst h;cases c
theorem Vt(ok:dz x)(he:kV e)(h:yN x e=r)(c:r.2=0):dz r.1:=by
 unfold yN at h;split at h
 ·rename_i kd a b n lo hi h1 d;dsimp only at h;split at h
  ·rename_i k;subst h;exact absurd c k
  ·subst h;have g:=uX c;obtain⟨lp,lh,lr,ls⟩:=pY g;exact {ok with au:=g,lp:=lp,lh:=lh,lr:=lr,ls:=ls,sr:=sP ok.sr ⟨fun s hs=>he.sR hs,he.sU (by rw[d];simp),he.sU (by rw[d];simp),he.sT (by rw[d];simp),he.mr⟩}
 ·subst h;cases c
theorem LD(ok:dz x)(he:kV e)(h:oU x e=r)(c:r.2=0):dz r.1:=by
 unfold oU at h;split at h
 ·rename_i a g o l d i n h1 b j;split at h
  ·rename_i k;subst h;exact absurd c k
  ·rename_i k;subst h;have hl:(x.jo++[(⟨a,n,g,o,l,d,i⟩:Ch)]).length<=16:=by
    refine bm fun q=>k ?_
    unfold iP;rw[bb om];decide
   have lv:=ok.lv;exact {ok with
    sc:=sP ok.sc ⟨he.sT (by rw[j];simp),he.sR (by rw[b];simp),he.sR (by rw[b];simp),he.sR (by rw[b];simp),he.sR (by rw[b];simp),he.sR (by rw[b];simp)⟩
    sg:=sP ok.sg ⟨he.sr _ (by rw[b];simp),he.sr _ (by rw[b];simp)⟩
    sv:=sP ok.sv (by show(1:Nat)<=1000;omega)
    lc:=hl
    lv:=by simp[lv]}
 ·subst h;cases c
theorem Vu(ok:dz x)(he:kV e)(h:yQ x e=r)(b:r.2=0):dz r.1:=by
 unfold yQ at h;split at h
 ·rename_i a c p d z s i t h1 g j;split at h
  ·subst h;cases b
  ·split at h
   ·rename_i k;subst h;exact absurd b k
   ·rename_i k;subst h;have hl:(x.fW++[(⟨a,c,p,d,decide (z=1),s,i,t⟩:Al)]).length<=32:=by
     refine bm fun q=>k ?_
     unfold sK;rw[bb om];decide
    have ll:=ok.ll;exact {ok with
     sa:=sP ok.sa ⟨he.sR (by rw[g];simp),he.sR (by rw[g];simp),he.sT (by rw[j];simp)⟩
     la:=hl
     ll:=by simp[ll]}
 ·subst h;cases b
theorem Ol(ok:dz x)(h:nP H x e=r)(b:r.2=0):dz r.1:=by
 unfold nP at h;split at h
 ·rename_i a c n k h1 d;subst h;have hl:(x.cU++[(⟨a,c,n,k⟩:Si)]).length<=16:=by
   refine(gY.1 ?_).2;refine bm fun q=> ?_
   unfold dO at b;rw[bb (by simpa using q)]at b;cases b
  exact {ok with lg:=hl}
 ·subst h;cases b
theorem Vv(ok:dz x)(he:kV e)(hi:1<=e.id/\e.id<=1073741824)(h:yO x e=r)(a:r.2=0):dz r.1:=by
 unfold yO at h;split at h
 ·subst h;cases a
 ·split at h
  ·rename_i k;subst h;exact absurd a k
  ·rename_i k;subst h;have hl:(di e.nums).length<=6:=by
    refine bm fun q=>k ?_
    unfold pX;by_cases t0:mi x.ps x.hs x.rs x.fN (di e.nums)=0
    ·refine absurd t0 ?_;unfold mi;split
     ·decide
     ·split
      ·decide
      ·rw[bb om];decide
    ·rw[bb t0];exact t0
   exact {ok with lw:=hl,sw:=I3 he.ir,si:=(by dsimp only;omega)}
theorem LF(ok:dz x)(h:lF H x e=r)(b:r.2=0):dz r.1:=by
 unfold lF at h;split at h
 ·rename_i a t h1 c;subst h;have hl:(x.apps++[(⟨a,e.tick,lE H x,t⟩:Ap)]).length<=1024:=by
   refine bm fun q=> ?_
   dsimp only at b;unfold dO at b;split at b
   ·cases b
   ·rw[bb om]at b;cases b
  exact {ok with lq:=hl}
 ·subst h;cases b
theorem Vw(ok:dz x)(h:mq H x e=r)(a:r.2=0):dz r.1:=by
 unfold mq at h;split at h
 ·subst h;cases a
 ·split at h
  ·subst h;cases a
  ·rename_i t d hp;split at h
   ·rename_i g c;subst h;dsimp only at a;subst a;exact ok
   ·rename_i l c;subst h;have b:=uX a;obtain⟨lp,lh,lr,ls⟩:=pY b;have lw:=ok.lw;rw[hp,eL]at lw;have si:=ok.si;exact {ok with au:=b,lp:=lp,lh:=lh,lr:=lr,ls:=ls,lw:=(by dsimp only;omega),sw:=fun y hy=>ok.sw y (by rw[hp];exact List.mem_cons_of_mem _ hy),si:=(by dsimp only;split<;>omega)}
theorem R6{l:List Al}{m:List Lp}(h:xP l m=true):l.length=m.length:=by
 unfold xP at h;simp only[cy,hJ]at h;exact h.2.1
theorem Om{l:List Al}{m:List Lp}{v:List Va}{t:Int}(h:(zF l m v t).2=0):(zF l m v t).1.length=m.length:=by
 revert h
 generalize hs:zF l m v t=s;intro h;unfold zF at hs;split at hs
 ·subst hs;cases h
 ·rename_i hf;have:=R6 (by simpa using hf);split at hs
  ·subst hs;cases h
  ·split at hs
   ·subst hs;cases h
   ·split at hs
    ·subst hs;cases h
    ·split at hs
     ·subst hs;cases h
     ·subst hs;rw[List.length_zipWith];omega
theorem R7{l:List Al}{m:List Lp}{a t:Int}(h:(IH l m a t).2=0):(IH l m a t).1.length=m.length:=by
 revert h
 generalize hs:IH l m a t=s;intro h;unfold IH at hs;split at hs
 ·subst hs;cases h
 ·split at hs
  ·subst hs;cases h
  ·split at hs
   ·subst hs;cases h
   ·split at hs
    ·subst hs;cases h
    ·split at hs
     ·subst hs;cases h
     ·split at hs
      ·subst hs;exact wA
      ·split at hs
       ·subst hs;exact wA
       ·subst hs;cases h
theorem On(ok:dz x)(he:kV e)(h:rC x e=r)(b:r.2=0):dz r.1:=by
 unfold rC at h;split at h
 ·rename_i a g h1 d;split at h
  ·rename_i i c;subst h;exact absurd b (Ep c)
  ·rename_i v c;subst h;obtain⟨s1,s2⟩:=zI c ok.sg ok.sv (he.sr _ (by rw[d];simp));exact {ok with sv:=s1,lv:=s2.trans ok.lv,ll:=(Om b).trans ok.ll}
 ·subst h;cases b
theorem ZO(ok:dz x)(h:Eo x e=r)(a:r.2=0):dz r.1:=by
 unfold Eo at h;split at h
 ·subst h;exact {ok with ll:=(R7 a).trans ok.ll}
 ·subst h;cases a
theorem Vx(ok:dz x):dz (Gs x).1:={ok with
 lw:=(by show([]:List Sw).length<=6;decide)
 sw:=(fun y hy=>nomatch (show y∈([]:List Sw)from hy))
 si:=(by show(-9223372036854775808:Int)<=0/\(0:Int)<=9223372036854775807;decide)}
theorem R8{P:Cm×Int->Prop}{z:Int}(n:z=12->P (Gs x))(o:z=11->P (Eo x e))(q:z=10->P (rC x e))(w:z=9->P (mq H x e))(y:z=8->P (lF H x e))(A:z=7->P (yO x e))(B:z=6->P (nP H x e))(C:z=5->P (yQ x e))(D:z=4->P (oU x e))(E:z=3->P (yN x e))(F:z=2->P (yM x e))(h1:z=1->P (rB x e))(G:P (x,1)):P (wR H z x e):=by
 unfold wR;by_cases a:z=12
 ·rw[bb a];exact n a
 rw[aq a];by_cases b:z=11
 ·rw[bb b];exact o b
 rw[aq b];by_cases c:z=10
 ·rw[bb c];exact q c
 rw[aq c];by_cases d:z=9
 ·rw[bb d];exact w d
 rw[aq d];by_cases g:z=8
 ·rw[bb g];exact y g
 rw[aq g];by_cases h:z=7
 ·rw[bb h];exact A h
 rw[aq h];by_cases i:z=6
 ·rw[bb i];exact B i
 rw[aq i];by_cases j:z=5
 ·rw[bb j];exact C j
 rw[aq j];by_cases k:z=4
 ·rw[bb k];exact D k
 rw[aq k];by_cases l:z=3
 ·rw[bb l];exact E l
 rw[aq l];by_cases m:z=2
 ·rw[bb m];exact F m
 rw[aq m];by_cases q1:z=1
 ·rw[bb q1];exact h1 q1
 rw[aq q1];exact G
theorem ad5(ok:dz x)(he:kV e)(hi:1<=e.id/\e.id<=1073741824){z:Int}:(wR H z x e).2=0->dz (wR H z x e).1:=
 R8 (P:=fun r=>r.2=0->dz r.1) (fun _ _=>Vx ok) (fun _=>ZO ok rfl) (fun _=>On ok he rfl) (fun _=>Vw ok rfl) (fun _=>LF ok rfl) (fun _=>Vv ok he hi rfl) (fun _=>Ol ok rfl) (fun _=>Vu ok he rfl) (fun _=>LD ok he rfl)
  (fun _=>Vt ok he rfl) (fun _=>Vs ok he rfl) (fun _=>Oj ok he rfl) (fun h=>by cases h)
structure aiH (H:oG) (x:Cm) (e:Ev) (y:Cm) (d:Kd):Prop where
 id:1<=e.id/\e.id<=1073741824
 tick:0<=e.tick/\e.tick<=1073741824
 kd:kd e.kind=some d
 form:jq d e=true
 ord:x.last<e.id/\x.tick<=e.tick
 em:d.em=true->x.dS=[]
 fu:d.fu=true->x.dS≠[]
 ok:(wR H e.kind x e).2=0
 y:y={(wR H e.kind x e).1 with last:=e.id,tick:=e.tick}
theorem pK{y:Cm}(h:dh H x e= .ok y):∃d,aiH H x e y d:=by
 unfold dh at h;split at h
 ·cases h
 ·rename_i h1;split at h
  ·cases h
  ·rename_i d b;split at h
   ·cases h
   ·rename_i c;split at h
    ·cases h
    ·rename_i i;split at h
     ·cases h
     ·rename_i a;split at h
      ·cases h
      ·rename_i g;cases h;exact⟨d,om,om,b,by simpa using c,om,fun q=>bm fun k=>a (.inl ⟨q,k⟩),fun q k=>a (.inr ⟨q,k⟩),dT.1 g,rfl⟩
theorem rE{a:Int}(h:dh H x e= .error a):a≠0:=by
 unfold dh at h;split at h
 ·cases h;decide
 ·split at h
  ·cases h;decide
  ·split at h
   ·cases h;decide
   ·split at h
    ·cases h;decide
    ·split at h
     ·cases h;decide
     ·split at h
      ·rename_i k;cases h;exact k
      ·cases h
theorem dz.at_(ok:dz x)(i t:Int):dz {x with last:=i,tick:=t}:=⟨ok.au,ok.sp,ok.sh,ok.sr,ok.sc,ok.sg,ok.sv,ok.sa,ok.lp,ok.lh,ok.lr,ok.ls,ok.lw,ok.lc,ok.lv,ok.la,ok.ll,ok.lg,ok.lq,ok.sw,ok.si⟩
theorem pZ(ok:dz x)(he:kV e){y:Cm}(h:dh H x e= .ok y):dz y:=by
 obtain⟨d,a⟩:=pK h;rw[a.y];exact(ad5 ok he a.id a.ok).at_ _ _
end
theorem dz.zero:dz Cm.zero:=
 ⟨dc,nofun,nofun,nofun,nofun,nofun,nofun,nofun,dc,dc,dc,dc,dc,dc,rfl,dc,rfl,dc,dc,nofun,dc⟩

noncomputable def eS(H:oG):Nat->Cm->List Ev->Except (Nat×Int) Cm
 |_,x,[]=> .ok x
 |i,x,e::r=>match dh H x e with
  | .error a=> .error (i,a)
  | .ok y=>eS H (i+1) y r
inductive Steps (H:oG):Cm->List Ev->List Cm->Prop where
 |nil (x:Cm):Steps H x [] [x]
 |cons {x y:Cm} {e:Ev} {es:List Ev} {ys:List Cm}:kV e->dz x->dh H x e= .ok y->Steps H y es ys->Steps H x (e::es) (x::ys)
section
variable {H:oG} {x y:Cm} {e:Ev} {r:Cm×Int} {d:Kd}
theorem LG(h:dh H x e= .ok y)(i:e.kind=9):Er H x e.tick=true/\∃t r,x.dS=t::r/\y.dS=r/\zU x.ps x.hs x.fN t= .ok y.fN:=by
 obtain⟨d,a⟩:=pK h;have hy:=a.y;have c:=a.ok;have j:wR H e.kind x e=mq H x e:=by
  unfold wR;rw[aq om,aq om,aq om,bb i]
 rw[j]at hy c;subst hy
 revert c
 generalize b:mq H x e=r;intro c;unfold mq at b;split at b
 ·subst b;cases c
 ·rename_i ha;refine⟨by simpa using ha,?_⟩;split at b
  ·subst b;cases c
  ·rename_i t k hp;split at b
   ·rename_i m g;subst b;dsimp only at c;subst c;exact absurd rfl (Mm g)
   ·rename_i l g;subst b;exact⟨t,k,hp,rfl,g⟩
theorem uz(h:dh H x e= .ok y):y.last=e.id/\y.tick=e.tick:=by
 obtain⟨d,a⟩:=pK h;rw[a.y];exact⟨rfl,rfl⟩
end

def apF(H:oG)(ss:List Si)(subject:ByteArray)(role t:Int)(a:Ap):Bool:=match Jy ss a.bV with
 |none=>false
 |some k=>match ss[k]? with
  |none=>false
  |some g=>decide (g.role=role)&&(decide (a.subject=subject)&&(decide (a.tick<=t)&&(decide (t - 1000<=a.tick)&&decide (codeF H g.key a=a.code))))
theorem Oo:∀{l:List Si} {p:Option Si},Gk p l->l.Pairwise (fun a b=>a.id<b.id)/\∀q,p=some q->∀s∈l,q.id<s.id:=by
 intro l;induction l with
 |nil=>intro p _;exact⟨List.Pairwise.nil,fun q _ s hs=>(by cases hs)⟩
 |cons c r ih=>
  intro p h;obtain⟨h1,d⟩:=h;obtain⟨i1,i2⟩:=ih d;refine⟨wo.2 ⟨fun s hs=>i2 c rfl s hs,i1⟩,fun q e s hs=> ?_⟩;have:=h1.2.2.2.2 q e;rcases cc.1 hs with rfl|hs
  ·exact this
  ·exact Int.lt_trans this (i2 c rfl s hs)
theorem Oq{l:List Si}(h:l.Pairwise (fun a b=>a.id<b.id)){a b:Si}(ha:a∈l)(hb:b∈l)(e:a.id=b.id):a=b:=by
 induction l with
 |nil=>cases ha
 |cons c r ih=>
  obtain⟨h1,i⟩:=wo.1 h;rcases cc.1 ha with rfl|d<;>rcases cc.1 hb with rfl|g
  ·rfl
  ·have:=h1 b g;omega
  ·have:=h1 a d;omega
  ·exact ih i d g
section
variable {H:oG} {ss:List Si} {l:List Ap}
theorem Ot:∀(l pre:List Ap),(th H ss pre l).2=0->∀a∈l,(∃q,mo ss q a=0)/\a.code=codeF H (IJ ss a.bV) a:=by
 intro l;induction l with
 |nil=>intro _ _ a ha;cases ha
 |cons b r ih=>
  intro pre h a ha;rw[th]at h;split at h
  ·rename_i k;exact absurd h k
  ·rename_i k;split at h
   ·cases h
   ·rename_i c;rcases cc.1 ha with rfl|ha
    ·exact⟨⟨pre,dT.1 k⟩,dT.1 c⟩
    ·exact ih _ h a ha
theorem zL(h:(dO H ss l).2=0):mS ss=true/\∀a∈l,(∃k,Jy ss a.bV=some k)/\(0<=a.tick/\a.tick<=1073741824)/\a.subject.size=32/\a.code=codeF H (IJ ss a.bV) a:=by
 unfold dO at h;split at h
 ·cases h
 ·rename_i h1;split at h
  ·cases h
  ·refine⟨by simpa using h1,fun a ha=> ?_⟩;obtain⟨⟨q,b⟩,c⟩:=Ot _ _ h a ha;obtain⟨g1,g2,g3⟩:=zG b;exact⟨g1,g2,g3,c⟩
theorem Ou{subject:ByteArray}{t:Int}(h:Gl H ss l subject [2,3] 1000 0 t=true):(dO H ss l).2=0/\∀role,role=2∨role=3->l.any (apF H ss subject role t)=true:=by
 have h:=eR h
 revert h
 generalize hm:ti H ss l subject [2,3] 1000 0 t=m;rintro⟨g,h1⟩;unfold ti at hm;split at hm
 ·subst hm;cases g
 ·rename_i c0;have c0:=dT.1 c0;refine⟨c0,fun role q=> ?_⟩;split at hm
  ·subst hm;cases g
  ·split at hm
   ·subst hm;cases g
   ·split at hm
    ·subst hm;cases g
    ·subst hm;obtain⟨hs,hl⟩:=zL c0;have hp:=(Oo (gY.1 hs).1).1;have b:rz ss l subject [2,3] 1000 0 t role<=0:=by
      dsimp only at h1;unfold wL at h1;rw[OP]at h1;have:=h1 (role.toNat - 1) (B2.2 om);rw[MS]at this;have e:(((role.toNat - 1:Nat):Int)+1)=role:=om;rw[e]at this;omega
     unfold rz at b;have r:([2,3]:List Int).count role=1:=by rcases q with rfl|rfl<;>decide
     rw[r]at b;have c:0<ss.countP fun s=>decide (s.role=role)&&Dn l subject 1000 0 t s:=om
     obtain⟨s,w,d⟩:=R0.1 c;rw[cy,hJ]at d;obtain⟨j,x⟩:=d;obtain⟨a,ha,n⟩:=oZ.1 x;obtain⟨y,z,A,B,_⟩:=eR n;obtain⟨⟨k,b⟩,_,_,i⟩:=hl a ha;obtain⟨o,hid⟩:=Lb b;have same:ss[k]=s:=Oq hp (bw o) w (hid.trans y);refine oZ.2 ⟨a,ha,?_⟩;unfold apF;unfold IJ at i;rw[b]at i⊢;simp only[af o]at i⊢;rw[<-i,same,j,z];simp;omega
end

structure Em where
 e:Ev
 a:Ea
abbrev Em.row(y:Em):List Value:=[.int .i64 y.e.id,.int .i64 y.e.tick,.int .i64 y.e.kind,y.a.n.v,y.a.r.v,y.a.t.v]
abbrev Em.val(y:Em):Value:=y.a.val y.e
abbrev gk(ys:List Em):List Ev:=ys.map Em.e
structure vW (w:World) (y:Em):Prop where
 n:bR w y.a.n.A 1 (y.e.nums.map fG)
 r:bR w y.a.r.A 1 (y.e.gw.map gq)
 t:bR w y.a.t.A 1 (y.e.texts.map gq)
 ln:y.e.nums.length=y.a.n.n
 lr:y.e.gw.length=y.a.r.n
 lt:y.e.texts.length=y.a.t.n
 bn:y.a.n.n<9223372036854775808
 br:y.a.r.n<9223372036854775808
 bt:y.a.t.n<9223372036854775808
 zn:y.a.n.A=none->y.a.n.c=0
 zr:y.a.r.A=none->y.a.r.c=0
 zt:y.a.t.A=none->y.a.t.c=0
 ir:∀z∈y.e.nums,aU .i64 z
 ik:aU .i64 y.e.kind
theorem vW.au{w w':World}{y:Em}(h:vW w y)(hb:Below w.heap.size w w'):vW w' y:=⟨h.n.below hb,h.r.below hb,h.t.below hb,h.ln,h.lr,h.lt,h.bn,h.br,h.bt,h.zn,h.zr,h.zt,h.ir,h.ik⟩
structure vX (w:World) (A:Option Addr) (n:Nat) (ys:List Em):Prop where
 s:bR w A 6 (ys.map Em.row)
 l:ys.length=n
 b:n<9223372036854775808
 f:∀y∈ys,vW w y
theorem vX.au{w w':World}{A:Option Addr}{n:Nat}{ys:List Em}(h:vX w A n ys)(hb:Below w.heap.size w w'):vX w' A n ys:=⟨h.s.below hb,h.l,h.b,fun y hy=>(h.f y hy).au hb⟩
structure uA (w:World) (A:Option Addr) (n:Nat) (ys:List Em):Prop where
 s:bR w A 6 (ys.map Em.row)
 l:ys.length=n
 f:∀y∈ys,pJ w y.a y.e
 o:∀y∈ys,kV y.e
 w:∀y∈ys,vW w y
 m:n<=40
theorem uA.au{w w':World}{A:Option Addr}{n:Nat}{ys:List Em}(h:uA w A n ys)(hb:Below w.heap.size w w'):uA w' A n ys:=⟨h.s.below hb,h.l,fun y hy=>(h.f y hy).au hb,h.o,fun y hy=>(h.w y hy).au hb,h.m⟩
def Ds(e:Ev):Bool:=decide (e.nums.length<=24/\e.gw.length<=9/\e.texts.length<=4)&&((e.gw.all fun s=>decide (s.size<=40))&&e.texts.all fun s=>decide (s.size<=70))
def vY(l:List Ev):Bool:=l.all Ds&&decide (l.length<=40)
theorem uB{e:Ev}:Ds e=true↔(e.nums.length<=24/\e.gw.length<=9/\e.texts.length<=4)/\(∀s∈e.gw,s.size<=40)/\∀s∈e.texts,s.size<=70:=by
 unfold Ds;simp only[cy,hJ,gr]
theorem vW.ok{w:World}{y:Em}(h:vW w y)(hf:Ds y.e=true):kV y.e/\pJ w y.a y.e:=by
 obtain⟨⟨h1,b,c⟩,d,g⟩:=uB.1 hf;exact⟨⟨h1,b,c,d,g,fun z hz=>by have:=h.ir z hz;simp only[aU]at this;omega⟩,⟨h.n,h.r,h.t,h.ln,h.lr,h.lt,h1,b,c,d,g,h.zr,h.ik⟩⟩
theorem vX.YI{w:World}{A:Option Addr}{n:Nat}{ys:List Em}(h:vX w A n ys)(hf:vY (gk ys)=true):uA w A n ys:=by
 unfold vY at hf;rw[cy,hJ,ec]at hf;have hl:=h.l;have ok:=fun y hy=>(h.f y hy).ok (gr.1 hf.1 y.e (MY hy))
 exact⟨h.s,h.l,fun y hy=>(ok y hy).2,fun y hy=>(ok y hy).1,h.f,om⟩
end Go.Proofs.YtbcojgcjjpggnaaGreatDoor.B

set_option maxRecDepth 100000
set_option maxHeartbeats 4000000
namespace Go.Proofs.YtbcojgcjjpggnaaGreatDoor.F
open Go Go.RowKit Go.Proofs Go.Proofs.YtbcojgcjjpggnaaGreatDoor.Vc
open Tryz
variable {A C D E G H J K A0 A1 A2 A3 A4 A5 A6 A7 A8 A9 C0 C1 C2 C3 C4 C5 C6 C7 C8 C9:O} {a b c d e f g i j l m n o a0 a1 a2 a3 a4 a5 a6 a7 a8 a9 b0 b1 b2 b3 b4 b5 b6 b7 b8 b9 c0 c1 c2 c3 c4 c5 c6 c7 c8 c9:Nat} {p q r s t u v x p0 p1 p2 p3 p4 p5 p6 p7 p8 p9 q0 q1 q2 q3 q4 q5 q6 q7 q8 q9:Int} {L M N N0 N1 N2 N3 N4 N5 N6 N7 N8 N9 T0 T1 T2 T3 T4 T5 T6 T7 T8 T9:ByteArray} {Q S:Bool} {B:Nat} {w:World} {R:Kt}
def aJ.L2(a:O)(b c:Nat)(d:Int):=Lt 8 f8 2 [vS 0 a b c,vI 3 d] []
def aJ.L8(a:O)(b c:Nat)(d e f g i:Int)(j:O)(l m:Nat)(n:O)(o p:Nat)(q:O)(r s:Nat):=Lt 8 f8 8 [vS 0 a b c,vI 3 d,vL 4,vI 5 e] [⟨4,false,32,[(I f),(I g),(I i),(.slice j l m),(.slice n o p),(.slice q r s)]⟩]
def aJ.pL(a:O)(b c:Nat)(d e f g i:Int)(j:O)(l m:Nat)(n:O)(o p:Nat)(q:O)(r s:Nat):=Lt 8 f8 13 [vS 0 a b c,vI 3 d,vL 4,vI 6 e] [⟨4,false,32,[(I f),(I g),(I i),(.slice j l m),(.slice n o p),(.slice q r s)]⟩]
def aJ.cx:Pm:=([((true,2),[0,3],[]),((true,8),[0,3,4,5],[4]),((true,13),[0,3,4,6],[4])],[])
theorem aJ.L2.step
  (h:(Br (p<(a:Int)) (Ix p a A fun v=>(∃f g i j c l m d n o e q,aa w (v.add ((p).toNat*6)) [I f,I g,I i,.slice j c l,.slice m d n,.slice o e q]/\(Br ((c:Int)>24) (∀r,Ext B [] w r->(R (.bool false) r)) (Br ((d:Int)>9) (∀s,Ext B [] w s->(R (.bool false) s)) (Br ((e:Int)>4) (∀t,Ext B [] w t->(R (.bool false) t)) (∀u,Ext B [] w u->(aJ.L8 A a b p (0:Int) f g i j c l m d n o e q B u R))))))) (R (.bool (decide ((a:Int)<=(40:Int)))) w))):
  aJ.L2 A a b p B w R:=
 lr aJ.cx func8 h
theorem aJ.L8.step
  (h:(Br (p<(a:Int)) (Ix p a A fun l=>(∃j,aa w (l.add ((p).toNat*1)) [.string j]/\(Br (((ByteArray.size j:Int):Int)>40) (R (.bool false) w) (aU .i64 (p+1)/\(aJ.L8 C b c q (p+1) r s t D d e A a f E g i B w R))))) (aJ.pL C b c q (0:Int) r s t D d e A a f E g i B w R))):
  aJ.L8 C b c q p r s t D d e A a f E g i B w R:=
 lr aJ.cx func8 h
theorem aJ.pL.step
  (h:(Br (p<(a:Int)) (Ix p a C fun l=>(∃j,aa w (l.add ((p).toNat*1)) [.string j]/\(Br (((ByteArray.size j:Int):Int)>70) (R (.bool false) w) (aU .i64 (p+1)/\(aJ.pL A b c q (p+1) r s t D d e E f g C a i B w R))))) (aU .i64 (q+1)/\(aJ.L2 A b c (q+1) B w R)))):
  aJ.pL A b c q p r s t D d e E f g C a i B w R:=
 lr aJ.cx func8 h
theorem aJ.vc
  (h:(aJ.L2 A a b (0:Int) w.heap.size w R)):
  Pure P 8 #[.slice A a b] w R:=
 pr aJ.cx func8 h

def kW.cx:Pm:=([],[(2,0,2),(2,3,2),(3,0,2),(3,3,2),(4,0,2),(4,3,2),(5,0,2),(5,3,2),(6,0,2),(6,3,2),(7,0,2),(7,3,2),(8,0,2),(8,3,2),(9,0,2),(9,3,2)])
theorem kW.vc
  (h:(∀s,Ext w.heap.size [] w s->(Pure P 11 #[.agg #[.slice A a b,.slice C c d,.slice D e f]] s (Rp fun O Q S T U V X Y Z k=>(∀t,Ext w.heap.size [49] k t->(ae P (Instr.buildSlice 40 0 #[]) w.heap.size [49,49] t (Rs fun A8 F c8 d4=>(ae P (Builtin.append_ #[40,40] 40 #[.slice A8 F c8,.slice E g i]) w.heap.size [49,49] d4 (Rs fun d5 d6 d7 d8=>(∀u,Ext w.heap.size [49] d8 u->(ae P (Instr.buildSlice 41 0 #[]) w.heap.size [49,49] u (Rs fun d9 W e1 e2=>(ae P (Builtin.append_ #[41,41] 41 #[.slice d9 W e1,.slice G j l]) w.heap.size [49,49] e2 (Rs fun e3 e4 e5 e6=>(∀v,Ext w.heap.size [49] e6 v->(ae P (Instr.buildSlice 42 0 #[]) w.heap.size [49,49] v (Rs fun e7 e8 e9 g0=>(ae P (Builtin.append_ #[42,42] 42 #[.slice e7 e8 e9,.slice H m n]) w.heap.size [49,49] g0 (Rs fun g1 g2 g3 g4=>(∀x,Ext w.heap.size [49] g4 x->(ae P (Instr.buildSlice 43 0 #[]) w.heap.size [49,49] x (Rs fun g5 g6 g7 g8=>(ae P (Builtin.append_ #[43,43] 43 #[.slice g5 g6 g7,.slice J o a0]) w.heap.size [49,49] g8 (Rs fun g9 j0 j1 j2=>(∀y,Ext w.heap.size [49] j2 y->(ae P (Instr.buildSlice 44 0 #[]) w.heap.size [49,49] y (Rs fun j3 j4 j5 j6=>(ae P (Builtin.append_ #[44,44] 44 #[.slice j3 j4 j5,.slice K a1 a2]) w.heap.size [49,49] j6 (Rs fun j7 j8 j9 l0=>(∀z,Ext w.heap.size [49] l0 z->(ae P (Instr.buildSlice 45 0 #[]) w.heap.size [49,49] z (Rs fun l1 l2 l3 l4=>(ae P (Builtin.append_ #[45,45] 45 #[.slice l1 l2 l3,.slice A0 a3 a4]) w.heap.size [49,49] l4 (Rs fun l5 l6 l7 l8=>(∀L,Ext w.heap.size [49] l8 L->(ae P (Instr.buildSlice 46 0 #[]) w.heap.size [49,49] L (Rs fun l9 m0 m1 m2=>(ae P (Builtin.append_ #[46,46] 46 #[.slice l9 m0 m1,.slice A1 a5 a6]) w.heap.size [49,49] m2 (Rs fun m3 m4 m5 m6=>(∀M,Ext w.heap.size [49] m6 M->(ae P (Instr.buildSlice 47 0 #[]) w.heap.size [49,49] M (Rs fun m7 m8 m9 n0=>(ae P (Builtin.append_ #[47,47] 47 #[.slice m7 m8 m9,.slice A2 a7 a8]) w.heap.size [49,49] n0 (Rs fun n1 n2 n3 n4=>(∀N,Ext w.heap.size [49] n4 N->(R (.agg #[.slice O Q S,.slice T U V,.slice X Y Z,.slice d5 d6 d7,.slice e3 e4 e5,I p,.slice g1 g2 g3,.slice g9 j0 j1,.slice j7 j8 j9,.slice l5 l6 l7,.slice m3 m4 m5,.slice n1 n2 n3,I q,I r]) N)))))))))))))))))))))))))))))))))))))))))))))):
  Pure P 18 #[.agg #[.slice A a b,.slice C c d,.slice D e f,.slice E g i,.slice G j l,I p,.slice H m n,.slice J o a0,.slice K a1 a2,.slice A0 a3 a4,.slice A1 a5 a6,.slice A2 a7 a8,I q,I r]] w R:=
 pr kW.cx func18 h

def bu.L3(a:O)(b c:Nat)(d:O)(e f:Nat)(g:Int):=Lt 25 f25 3 [vS 0 a b c,vS 3 d e f,vI 4 g] []
def bu.cx:Pm:=([((true,3),[0,3,4],[])],[(5,6,2),(5,7,2)])
theorem bu.L3.step
  (h:(Br (p<(a:Int)) (Ix p a A fun L=>(∃e f g i j l m n o q r s,aa w (L.add ((p).toNat*6)) [I e,I f,I g,.slice i j l,.slice m n o,.slice q r s]/\(Pure P 55 #[.agg #[I e,I f,I g,.slice i j l,.slice m n o,.slice q r s]] w fun M N=>∃t u v x y z D E G H J K,M= .agg #[I t,I u,I v,.slice x y z,.slice D E G,.slice H J K]/\(ae P (Instr.buildSlice 22 1 #[(0,(.agg #[I t,I u,I v,.slice x y z,.slice D E G,.slice H J K]))]) B [] N (Rs fun O Q S T=>(ae P (Builtin.append_ #[22,22] 22 #[.slice C b c,.slice O Q S]) B [] T (Rs fun U V X Y=>(aU .i64 (p+1)/\(bu.L3 A a d U V X (p+1) B Y R))))))))) (R (.slice C b c) w))):
  bu.L3 A a d C b c p B w R:=
 lr bu.cx func25 h
theorem bu.vc
  (h:(bu.L3 A a b none 0 0 (0:Int) w.heap.size w R)):
  Pure P 25 #[.slice A a b] w R:=
 pr bu.cx func25 h

def aB.L4(a:Int)(b:O)(c d:Nat)(e:O)(f g:Nat)(i:O)(j l:Nat)(m:O)(n o:Nat)(p:O)(q r:Nat)(s:Int)(t:O)(u v:Nat)(x:O)(y z:Nat)(A:O)(C D:Nat)(E:O)(G H:Nat)(J:O)(K L:Nat)(M:O)(N Q:Nat)(S T:Int)(U:O)(V X:Nat)(Y:O)(Z d0:Nat)(d1:O)(d2 d3:Nat)(d4:O)(d5 d6:Nat)(d7:O)(d8 d9:Nat)(h:Int)(k:O)(F P:Nat)(W:O)(e5 e6:Nat)(e7:O)(e8 e9:Nat)(g0:O)(g1 g2:Nat)(g3:O)(g4 g5:Nat)(g6:O)(g7 g8:Nat)(g9 j0:Int):=Lt 28 f28 4 [vL 2,vL 3,vI 5 a] [⟨2,false,49,[(.slice b c d),(.slice e f g),(.slice i j l),(.slice m n o),(.slice p q r),(I s),(.slice t u v),(.slice x y z),(.slice A C D),(.slice E G H),(.slice J K L),(.slice M N Q),(I S),(I T)]⟩,⟨3,false,49,[(.slice U V X),(.slice Y Z d0),(.slice d1 d2 d3),(.slice d4 d5 d6),(.slice d7 d8 d9),(I h),(.slice k F P),(.slice W e5 e6),(.slice e7 e8 e9),(.slice g0 g1 g2),(.slice g3 g4 g5),(.slice g6 g7 g8),(I g9),(I j0)]⟩]
def aB.L9(a:Int)(b:O)(c d:Nat)(e:O)(f g:Nat)(i:O)(j l:Nat)(m:O)(n o:Nat)(p:O)(q r:Nat)(s:Int)(t:O)(u v:Nat)(x:O)(y z:Nat)(A:O)(C D:Nat)(E:O)(G H:Nat)(J:O)(K L:Nat)(M:O)(N Q:Nat)(S T:Int)(U:O)(V X:Nat)(Y:O)(Z d0:Nat)(d1:O)(d2 d3:Nat)(d4:O)(d5 d6:Nat)(d7:O)(d8 d9:Nat)(h:Int)(k:O)(F P:Nat)(W:O)(e5 e6:Nat)(e7:O)(e8 e9:Nat)(g0:O)(g1 g2:Nat)(g3:O)(g4 g5:Nat)(g6:O)(g7 g8:Nat)(g9 j0:Int):=Lt 28 f28 9 [vL 2,vL 3,vI 6 a] [⟨2,false,49,[(.slice b c d),(.slice e f g),(.slice i j l),(.slice m n o),(.slice p q r),(I s),(.slice t u v),(.slice x y z),(.slice A C D),(.slice E G H),(.slice J K L),(.slice M N Q),(I S),(I T)]⟩,⟨3,false,49,[(.slice U V X),(.slice Y Z d0),(.slice d1 d2 d3),(.slice d4 d5 d6),(.slice d7 d8 d9),(I h),(.slice k F P),(.slice W e5 e6),(.slice e7 e8 e9),(.slice g0 g1 g2),(.slice g3 g4 g5),(.slice g6 g7 g8),(I g9),(I j0)]⟩]
def aB.tB(a:Int)(b:O)(c d:Nat)(e:O)(f g:Nat)(i:O)(j l:Nat)(m:O)(n o:Nat)(p:O)(q r:Nat)(s:Int)(t:O)(u v:Nat)(x:O)(y z:Nat)(A:O)(C D:Nat)(E:O)(G H:Nat)(J:O)(K L:Nat)(M:O)(N Q:Nat)(S T:Int)(U:O)(V X:Nat)(Y:O)(Z d0:Nat)(d1:O)(d2 d3:Nat)(d4:O)(d5 d6:Nat)(d7:O)(d8 d9:Nat)(h:Int)(k:O)(F P:Nat)(W:O)(e5 e6:Nat)(e7:O)(e8 e9:Nat)(g0:O)(g1 g2:Nat)(g3:O)(g4 g5:Nat)(g6:O)(g7 g8:Nat)(g9 j0:Int):=Lt 28 f28 14 [vL 2,vL 3,vI 7 a] [⟨2,false,49,[(.slice b c d),(.slice e f g),(.slice i j l),(.slice m n o),(.slice p q r),(I s),(.slice t u v),(.slice x y z),(.slice A C D),(.slice E G H),(.slice J K L),(.slice M N Q),(I S),(I T)]⟩,⟨3,false,49,[(.slice U V X),(.slice Y Z d0),(.slice d1 d2 d3),(.slice d4 d5 d6),(.slice d7 d8 d9),(I h),(.slice k F P),(.slice W e5 e6),(.slice e7 e8 e9),(.slice g0 g1 g2),(.slice g3 g4 g5),(.slice g6 g7 g8),(I g9),(I j0)]⟩]
def aB.cx:Pm:=([((true,4),[2,3,5],[2,3]),((true,9),[2,3,6],[2,3]),((true,14),[2,3,7],[2,3])],[])
theorem aB.L4.step{c d e f g i j l m n a o x y z L M N O Q S T U V X Y Z d0 d1 d2 d3 d4 b d5 d6 d7 d8 d9 k F P W e4 e5 B:Nat}
  (h:(Br (p<(a:Int)) (Ix p a A fun a5=>(∃i6 s7 s8 s9 g0 g1 g2,aa w (a5.add ((p).toNat*7)) [I i6,.string s7,.string s8,.string s9,.string g0,.string g1,.string g2]/\(Ix p b C fun j3=>(∃g3 g4 g5 g6 g7 g8 g9,aa w (j3.add ((p).toNat*7)) [I g3,.string g4,.string g5,.string g6,.string g7,.string g8,.string g9]/\(Br (¬(i6=g3/\s7=g4/\s8=g5/\s9=g6/\g0=g7/\g1=g8/\g2=g9/\True)) (∀j0,Ext B [] w j0->(R (.bool false) j0)) (aU .i64 (p+1)/\(∀j1,Ext B [] w j1->(aB.L4 (p+1) D c d E e f G g i H j l J m n q A a o K x y A0 z L A1 M N A2 O Q A3 S T r s A4 U V A5 X Y A6 Z d0 A7 d1 d2 A8 d3 d4 t C b d5 A9 d6 d7 C0 d8 d9 C1 k F C2 P W C3 e4 e5 u v B j1 R)))))))) (aB.L9 (0:Int) D c d E e f G g i H j l J m n q A a o K x y A0 z L A1 M N A2 O Q A3 S T r s A4 U V A5 X Y A6 Z d0 A7 d1 d2 A8 d3 d4 t C b d5 A9 d6 d7 C0 d8 d9 C1 k F C2 P W C3 e4 e5 u v B w R))):
  aB.L4 p D c d E e f G g i H j l J m n q A a o K x y A0 z L A1 M N A2 O Q A3 S T r s A4 U V A5 X Y A6 Z d0 A7 d1 d2 A8 d3 d4 t C b d5 A9 d6 d7 C0 d8 d9 C1 k F C2 P W C3 e4 e5 u v B w R:=
 lr aB.cx func28 h
theorem aB.L9.step{c d e f g i j l m n o x y z a L M N O Q S T U V X Y Z d0 d1 d2 d3 d4 d5 d6 d7 d8 b d9 k F P W e4 e5 B:Nat}
  (h:(Br (p<(a:Int)) (Ix p a A fun j4=>(∃e6 e7 e8 e9 g0 g1 g2 g3,aa w (j4.add ((p).toNat*8)) [I e6,I e7,I e8,I e9,.bool g0,.string g1,.string g2,.string g3]/\(Ix p b C fun j5=>(∃g4 g5 g6 g7 g8 g9 j0 j1,aa w (j5.add ((p).toNat*8)) [I g4,I g5,I g6,I g7,.bool g8,.string g9,.string j0,.string j1]/\(Br (¬(e6=g4/\e7=g5/\e8=g6/\e9=g7/\g0=g8/\g1=g9/\g2=j0/\g3=j1/\True)) (∀j2,Ext B [] w j2->(R (.bool false) j2)) (aU .i64 (p+1)/\(∀j3,Ext B [] w j3->(aB.L9 (p+1) D c d E e f G g i H j l J m n q K o x A0 y z A a L A1 M N A2 O Q A3 S T r s A4 U V A5 X Y A6 Z d0 A7 d1 d2 A8 d3 d4 t A9 d5 d6 C0 d7 d8 C b d9 C1 k F C2 P W C3 e4 e5 u v B j3 R)))))))) (aB.tB (0:Int) D c d E e f G g i H j l J m n q K o x A0 y z A a L A1 M N A2 O Q A3 S T r s A4 U V A5 X Y A6 Z d0 A7 d1 d2 A8 d3 d4 t A9 d5 d6 C0 d7 d8 C b d9 C1 k F C2 P W C3 e4 e5 u v B w R))):
  aB.L9 p D c d E e f G g i H j l J m n q K o x A0 y z A a L A1 M N A2 O Q A3 S T r s A4 U V A5 X Y A6 Z d0 A7 d1 d2 A8 d3 d4 t A9 d5 d6 C0 d7 d8 C b d9 C1 k F C2 P W C3 e4 e5 u v B w R:=
 lr aB.cx func28 h
theorem aB.tB.step{b c d e f g i j l m d8 d9 n o k F x y a W z L M N O Q S T U V X Y e3 e4 Z d0 e5 e6 d1 d2 d3 e7 d4 d5 B:Nat}
  (h:(Br (p<(a:Int)) (Ix p a K fun j2=>(∃e8 e9 g0 g1,aa w (j2.add ((p).toNat*4)) [I e8,I e9,.string g0,.string g1]/\(Ix p d3 A8 fun j3=>(∃g2 g3 g4 g5,aa w (j3.add ((p).toNat*4)) [I g2,I g3,.string g4,.string g5]/\(Br (¬(e8=g2/\e9=g3/\g0=g4/\g1=g5/\True)) (∀g6,Ext B [] w g6->(R (.bool false) g6)) (aU .i64 (p+1)/\(∀g7,Ext B [] w g7->(aB.tB (p+1) A b c C d e D f g E i j G l m q C0 d8 d9 H n o C1 k F J x y K a W A0 z L r s A1 M N A2 O Q A3 S T A4 U V A5 X Y t C2 e3 e4 A6 Z d0 C3 e5 e6 A7 d1 d2 A8 d3 e7 A9 d4 d5 u v B g7 R)))))))) (Pure P 62 #[.agg #[.slice A b c,.slice C d e,.slice D f g],.agg #[.slice A1 M N,.slice A2 O Q,.slice A3 S T]] w (Rb fun j4 g8=>(Bb j4 (Pure P 63 #[.slice E i j,.slice A4 U V] g8 (Rb fun j5 g9=>(Bb j5 (Pure P 64 #[.slice G l m,.slice A5 X Y] g9 (Rb fun j6 d6=>(Bb j6 (Br (q=t) (Pure P 65 #[.slice H n o,.slice A6 Z d0] d6 (Rb fun j7 j0=>(Bb j7 (Pure P 66 #[.slice J x y,.slice A7 d1 d2] j0 (Rb fun j8 j1=>(Bb j8 (Pure P 67 #[.slice A0 z L,.slice A9 d4 d5] j1 (Rb fun j9 d7=>(Bb j9 (Br (r=u) (R (.bool (decide (s=v))) d7) (R (.bool false) d7)) (R (.bool false) d7)))) (R (.bool false) j1)))) (R (.bool false) j0)))) (R (.bool false) d6)) (R (.bool false) d6)))) (R (.bool false) g9)))) (R (.bool false) g8)))))):
  aB.tB p A b c C d e D f g E i j G l m q C0 d8 d9 H n o C1 k F J x y K a W A0 z L r s A1 M N A2 O Q A3 S T A4 U V A5 X Y t C2 e3 e4 A6 Z d0 C3 e5 e6 A7 d1 d2 A8 d3 e7 A9 d4 d5 u v B w R:=
 lr aB.cx func28 h
theorem aB.vc{g i j l m n o v x y a z L M b N O Q c S T U V X Y Z d0 d1 d2 d3 d4 d5 d d6 d7 d8 e d9 k F f W e3 e4:Nat}
  (h:(Br ((a:Int)≠(d:Int)) (∀w1,Ext w.heap.size [] w w1->(R (.bool false) w1)) (Br ((b:Int)≠(e:Int)) (∀w2,Ext w.heap.size [] w w2->(R (.bool false) w2)) (Br ((c:Int)≠(f:Int)) (∀w3,Ext w.heap.size [] w w3->(R (.bool false) w3)) (∀w4,Ext w.heap.size [] w w4->(aB.L4 (0:Int) A g i C j l D m n E o v G x y p H a z J L M K b N A0 O Q A1 c S A2 T U q r A3 V X A4 Y Z A5 d0 d1 A6 d2 d3 A7 d4 d5 s A8 d d6 A9 d7 d8 C0 e d9 C1 k F C2 f W C3 e3 e4 t u w.heap.size w4 R)))))):
  Pure P 28 #[.agg #[.slice A g i,.slice C j l,.slice D m n,.slice E o v,.slice G x y,I p,.slice H a z,.slice J L M,.slice K b N,.slice A0 O Q,.slice A1 c S,.slice A2 T U,I q,I r],.agg #[.slice A3 V X,.slice A4 Y Z,.slice A5 d0 d1,.slice A6 d2 d3,.slice A7 d4 d5,I s,.slice A8 d d6,.slice A9 d7 d8,.slice C0 e d9,.slice C1 k F,.slice C2 f W,.slice C3 e3 e4,I t,I u]] w R:=
 pr aB.cx func28 h

end Go.Proofs.YtbcojgcjjpggnaaGreatDoor.F

set_option maxRecDepth 100000
set_option maxHeartbeats 4000000
namespace Go.Proofs.YtbcojgcjjpggnaaGreatDoor.F
open Go Go.RowKit Go.Proofs Go.Proofs.YtbcojgcjjpggnaaGreatDoor.Vc
open Tryz
variable {A C D E G H J K A0 A1 A2 A3 A4 A5 A6 A7 A8 A9 C0 C1 C2 C3 C4 C5 C6 C7 C8 C9:O} {a b c d e f g i j l m n o a0 a1 a2 a3 a4 a5 a6 a7 a8 a9 b0 b1 b2 b3 b4 b5 b6 b7 b8 b9 c0 c1 c2 c3 c4 c5 c6 c7 c8 c9:Nat} {p q r s t u v x p0 p1 p2 p3 p4 p5 p6 p7 p8 p9 q0 q1 q2 q3 q4 q5 q6 q7 q8 q9:Int} {L M N N0 N1 N2 N3 N4 N5 N6 N7 N8 N9 T0 T1 T2 T3 T4 T5 T6 T7 T8 T9:ByteArray} {Q S:Bool} {B:Nat} {w:World} {R:Kt}
def iz.cx:Pm:=([],[(1,0,2),(1,3,2),(2,0,2),(2,3,2),(3,0,2),(3,3,2)])
theorem iz.vc
  (h:(∀g,Ext w.heap.size [] w g->(ae P (Instr.buildSlice 28 0 #[]) w.heap.size [32,32] g (Rs fun m n o s=>(ae P (Builtin.append_ #[28,28] 28 #[.slice m n o,.slice A a b]) w.heap.size [32,32] s (Rs fun t u v x=>(∀i,Ext w.heap.size [32] x i->(ae P (Instr.buildSlice 29 0 #[]) w.heap.size [32,32] i (Rs fun y z E G=>(ae P (Builtin.append_ #[29,29] 29 #[.slice y z E,.slice C c d]) w.heap.size [32,32] G (Rs fun H J K L=>(∀j,Ext w.heap.size [32] L j->(ae P (Instr.buildSlice 30 0 #[]) w.heap.size [32,32] j (Rs fun M N O Q=>(ae P (Builtin.append_ #[30,30] 30 #[.slice M N O,.slice D e f]) w.heap.size [32,32] Q (Rs fun S T U V=>(∀l,Ext w.heap.size [32] V l->(R (.agg #[I p,I q,I r,.slice t u v,.slice H J K,.slice S T U]) l)))))))))))))))))):
  Pure P 55 #[.agg #[I p,I q,I r,.slice A a b,.slice C c d,.slice D e f]] w R:=
 pr iz.cx func55 h

end Go.Proofs.YtbcojgcjjpggnaaGreatDoor.F

namespace Go.Proofs.YtbcojgcjjpggnaaGreatDoor.B
open Go Go.RowKit Go.Proofs Go.Proofs.YtbcojgcjjpggnaaGreatDoor.Vc

theorem qa:El Tryz.prog 30 9 1 16:=El.of kF
theorem sQ:El Tryz.prog 22 32 6 96:=El.of kF
theorem MB(l:List ByteArray):(∀r∈l.map gq,r.length=1)/\∀r∈l.map gq,∀u∈r,bl u=true:=fj (fun _=>rfl) (fun x u h=>by simp only[gq,eb]at h;rw[h];rfl)
theorem Vy(l:List Int):(∀r∈l.map fG,r.length=1)/\∀r∈l.map fG,∀u∈r,bl u=true:=fj (fun _=>rfl) (fun x u h=>by simp only[fG,eb]at h;rw[h];rfl)
theorem mu{t ty e sz bytes:Nat}(el:El Tryz.prog t e sz bytes){B:Nat}{tys:List Nat}{w:World}{A2:Option Addr}{m c2:Nat}{more:List (List Value)}(i:bR w A2 sz more)(hm:more.length=m)(d:(∀r∈more,r.length=sz)/\∀r∈more,∀u∈r,bl u=true)(hz:A2=none->c2=0)
  (hB:B<=w.heap.size) (nB:m*(bytes+1)<=140737488355328) (j:e∉tys) {K:Option Addr->Nat->Nat->World->Prop} (h:∀A' c' a,aE a w.heap.size e A' m c' sz more->Below w.heap.size w a->K A' m c' a):
  ae Tryz.prog (Instr.buildSlice t 0 #[]) B tys w fun r w1=>∃A n c,r= .slice A n c/\
   ae Tryz.prog (Builtin.append_ #[t,t] ty #[.slice A n c,.slice A2 m c2]) B tys w1 fun r a=>∃A n c,r= .slice A n c/\K A n c a:=by
 refine bc el [] sm sm hB fun A c a o b=> ?_
 refine xG el (B:=w.heap.size) hB (by simpa using o) (i.below b) hm d.1 d.2 hz b.size (by simpa using nB) j fun A' c' k g _ l=> ?_
 simp only[wu,jx,tu]at g⊢;exact h A' c' k g (b.trans l)
section
variable {w:World} {A:Option Addr} {n c:Nat} {ys:List Em}
theorem Vz{i:Nat}(hi:i<ys.length)(h:Ds ys[i].e=false):vY (gk ys)=false:=by
 unfold vY;rw[all_false (x:=ys[i].e) (MY (bw hi)) h,FL]
theorem MC(h:vX w A n ys):Pure Tryz.prog 8 #[.slice A n c] w fun v _=>v= .bool (vY (gk ys)):=by
 have hl:=h.l;have hn:=h.b;have key:∀(d i:Nat)(w':World),n - i=d->i<=n->Below w.heap.size w w'->(∀y∈ys.take i,Ds y.e=true)->F.aJ.L2 A n c i w.heap.size w' fun v _=>v= .bool (vY (gk ys)):=by
  intro d;induction d with
  |zero=>
   intro i w' I hi hw ha;rw[de om]at ha;refine F.aJ.L2.step ⟨fun h=>by omega,fun _=>bx Value.bool ?_⟩;unfold vY;rw[gr.2 fun r m=>by
    obtain⟨x,hx,rfl⟩:=hM.1 m;exact ha x hx,rr,nb,ec]
   omega
  |succ d ih=>
   intro i w' I hi hw ha;have C:i<ys.length:=om;have J:=sc i;obtain⟨hb,a,B,g,_⟩:=((h.au hw).s).at_ (row:=Em.row) (fun _=>rfl) hl C;have raw:=h.f _ (bw C);have ln:=raw.ln;have lr:=raw.lr;have lt:=raw.lt;have br:=raw.br;have bt:=raw.bt;have bad:Ds ys[i].e=false->∀o:World,(fun(v:Value) (_:World)=>v= .bool (vY (gk ys))) (.bool false) o:=fun k _=>by
    show Value.bool false=_;rw[Vz C k]
   have E:¬(ys[i].e.nums.length<=24/\ys[i].e.gw.length<=9/\ys[i].e.texts.length<=4)->Ds ys[i].e=false:=fun k=>by
    unfold Ds;rw[en k,FL]
   refine F.aJ.L2.step ⟨fun _=>⟨hb,a,B,_,_,_,_,_,_,_,_,_,_,_,_,g,fun K o _=>bad (E om) o,fun K=>⟨fun L o _=>bad (E om) o,fun L=>⟨fun M o _=>bad (E om) o,fun M N O=> ?_⟩⟩⟩,fun h=>by omega⟩;have last:∀(e j:Nat)(w':World),ys[i].a.t.n - j=e->j<=ys[i].a.t.n->Below w.heap.size w w'->(∀s∈ys[i].e.gw,s.size<=40)->(∀s∈ys[i].e.texts.take j,s.size<=70)->
     F.aJ.pL A n c i j ys[i].e.id ys[i].e.tick ys[i].e.kind ys[i].a.n.A ys[i].a.n.n ys[i].a.n.c ys[i].a.r.A ys[i].a.r.n ys[i].a.r.c ys[i].a.t.A ys[i].a.t.n ys[i].a.t.c w.heap.size w' fun v _=>v= .bool (vY (gk ys)):=by
    intro e;induction e with
    |zero=>
     intro j w' he hj hw m D;rw[de om]at D;refine F.aJ.pL.step ⟨fun h=>by omega,fun _=>⟨ir,?_⟩⟩;rw[J];refine ih (i+1) w' om om hw fun y hy=> ?_
     rw[ft,af C]at hy;rcases fi.1 hy with hy|hy
     ·exact ha y hy
     ·simp only[FQ,eb]at hy;subst hy;exact uB.2 ⟨⟨om,om,om⟩,m,D⟩
    |succ e G=>
     intro j w' he hj hw m D;have z:j<ys[i].e.texts.length:=om;obtain⟨hb,a,B,g,_⟩:=(raw.t.below hw).at_ (row:=gq) (fun _=>rfl) lt z;refine F.aJ.pL.step ⟨fun _=>⟨hb,a,B,_,g,fun k=>bad (Iq.2 fun q=> ?_) w',fun k=>⟨ir,?_⟩⟩,fun h=>by omega⟩
     ·have:=(uB.1 q).2.2 _ (bw z);omega
     ·rw[show(j:Int)+1=((j+1:Nat):Int) by omega];refine G (j+1) w' om om hw m fun s hs=> ?_
      rw[ft,af z]at hs;rcases fi.1 hs with hs|hs
      ·exact D s hs
      ·simp only[FQ,eb]at hs;subst hs;omega
   have H:∀(e j:Nat)(w':World),ys[i].a.r.n - j=e->j<=ys[i].a.r.n->Below w.heap.size w w'->(∀s∈ys[i].e.gw.take j,s.size<=40)->
     F.aJ.L8 A n c i j ys[i].e.id ys[i].e.tick ys[i].e.kind ys[i].a.n.A ys[i].a.n.n ys[i].a.n.c ys[i].a.r.A ys[i].a.r.n ys[i].a.r.c ys[i].a.t.A ys[i].a.t.n ys[i].a.t.c w.heap.size w' fun v _=>v= .bool (vY (gk ys)):=by
    intro e;induction e with
    |zero=>
     intro j w' he hj hw m;rw[de om]at m;exact F.aJ.L8.step ⟨fun h=>by omega,fun _=>last _ 0 w' rfl om hw m sm⟩
    |succ e G=>
     intro j w' he hj hw m;have z:j<ys[i].e.gw.length:=om;obtain⟨hb,a,B,g,_⟩:=(raw.r.below hw).at_ (row:=gq) (fun _=>rfl) lr z;refine F.aJ.L8.step ⟨fun _=>⟨hb,a,B,_,g,fun k=>bad (Iq.2 fun q=> ?_) w',fun k=>⟨ir,?_⟩⟩,fun h=>by omega⟩
     ·have:=(uB.1 q).2.1 _ (bw z);omega
     ·rw[show(j:Int)+1=((j+1:Nat):Int) by omega];refine G (j+1) w' om om hw fun s hs=> ?_
      rw[ft,af z]at hs;rcases fi.1 hs with hs|hs
      ·exact m s hs
      ·simp only[FQ,eb]at hs;subst hs;omega
   exact H _ 0 N rfl om (kE hw O) sm
 exact F.aJ.vc (key n 0 w rfl om (Below.refl _ _) sm)
structure vk (w:World) (B:Nat) (a:Ea) (e:Ev):Prop where
 n:aE w B 3 a.n.A a.n.n a.n.c 1 (e.nums.map fG)
 r:aE w B 88 a.r.A a.r.n a.r.c 1 (e.gw.map gq)
 t:aE w B 9 a.t.A a.t.n a.t.c 1 (e.texts.map gq)
theorem vk.below{w w':World}{B:Nat}{a:Ea}{e:Ev}(h:vk w B a e)(hb:Below w.heap.size w w'):vk w' B a e:=⟨h.n.below hb,h.r.below hb,h.t.below hb⟩
theorem vk.bW{w w':World}{B:Nat}{a:Ea}{e:Ev}(h:vk w B a e)(s:bG 32 w w'):vk w' B a e:=⟨h.n.bW s dc,h.r.bW s dc,h.t.bW s dc⟩
theorem vk.base{w:World}{B B':Nat}{a:Ea}{e:Ev}(h:vk w B a e)(hb:B'<=B):vk w B' a e:=⟨h.n.base hb,h.r.base hb,h.t.base hb⟩
theorem vk.raw{w:World}{B:Nat}{a:Ea}{e:Ev}(h:vk w B a e)(ok:kV e)(b:aU .i64 e.kind):vW w ⟨e,a⟩:=by
 have l1:=h.n.rows;have d:=h.r.rows;have g:=h.t.rows;have m1:=ok.mn;have m2:=ok.mr;have m3:=ok.mt;exact⟨h.n.sl,h.r.sl,h.t.sl,l1,d,g,by show a.n.n<_;omega,by show a.r.n<_;omega,by show a.t.n<_;omega,h.n.sO,h.r.sO,h.t.sO,fun z hz=>by have:=ok.ir z hz;simp only[aU];omega,b⟩
theorem kV.YI{e:Ev}(ok:kV e):Ds e=true:=uB.2 ⟨⟨ok.mn,ok.mr,ok.mt⟩,ok.sr,ok.st⟩
theorem Dt{y:Em}(h:vW w y)(ok:kV y.e):Pure Tryz.prog 55 #[y.val] w fun v w'=>∃o,v=o.val y.e/\vk w' w.heap.size o y.e:=by
 have l1:=h.ln;have C:=h.lr;have D:=h.lt;have m1:=ok.mn;have m2:=ok.mr;have m3:=ok.mt;refine F.iz.vc fun w1 E=> ?_
 have b:=k0 E;refine mu gQ (h.n.below b) (by rw[ec];exact l1) (Vy _) h.zn b.size om dc fun A5 c5 G H I Q q=> ?_
 have J:=kP b I;have d:=kE J q;refine mu nm (h.r.below d) (by rw[ec];exact C) (MB _) h.zr d.size om dc fun g c12 K i x R z=> ?_
 have L:=kP d x;have j:=kE L z;refine mu qa (h.t.below j) (by rw[ec];exact D) (MB _) h.zt j.size om dc fun k l M N O m P=> ?_
 have B:bG 32 M m:=bG.ext P;have s2:bG 32 K m:=(bG.ext z).trans ((bG.low O).trans B);have s1:bG 32 G m:=(bG.ext q).trans ((bG.low x).trans s2);exact⟨⟨⟨A5,y.a.n.n,c5⟩,⟨g,y.a.r.n,c12⟩,⟨k,y.a.t.n,l⟩⟩,rfl,(H.bW s1 dc).base b.size,(i.bW s2 dc).base d.size,(N.bW B dc).base j.size⟩
structure iA (w:World) (B:Nat) (A:Option Addr) (n c:Nat) (ys:List Em):Prop where
 s:aE w B 32 A n c 6 (ys.map Em.row)
 f:∀y∈ys,vk w B y.a y.e
 o:∀y∈ys,kV y.e/\aU .i64 y.e.kind
theorem iA.below{w w':World}{B:Nat}{A:Option Addr}{n c:Nat}{ys:List Em}(h:iA w B A n c ys)(hb:Below w.heap.size w w'):iA w' B A n c ys:=⟨h.s.below hb,fun y hy=>(h.f y hy).below hb,h.o⟩
theorem iA.uV{w:World}{B:Nat}{A:Option Addr}{n c:Nat}{ys:List Em}(h:iA w B A n c ys)(hn:n<=40):uA w A n ys:=
 ⟨h.s.sl,h.s.rows,fun y hy=>(((h.f y hy).raw (h.o y hy).1 (h.o y hy).2).ok (h.o y hy).1.YI).2,fun y hy=>(h.o y hy).1,fun y hy=>(h.f y hy).raw (h.o y hy).1 (h.o y hy).2,hn⟩
theorem fD(h:uA w A n ys):Pure Tryz.prog 25 #[.slice A n c] w fun v w'=>∃A' c' zs,v= .slice A' n c'/\iA w' w.heap.size A' n c' zs/\gk zs=gk ys:=by
 have hl:=h.l;have hm:=h.m;have key:∀(d i:Nat)(j:Option Addr)(no co:Nat)(zs:List Em)(w':World),n - i=d->i<=n->Below w.heap.size w w'->iA w' w.heap.size j no co zs->gk zs=gk (ys.take i)->
   F.bu.L3 A n c j no co i w.heap.size w' fun v w'=>∃A' c' zs,v= .slice A' n c'/\iA w' w.heap.size A' n c' zs/\gk zs=gk ys:=by
  intro d;induction d with
  |zero=>
   intro i j no co zs w' D hi hw ho he;rw[de om]at he;refine F.bu.L3.step ⟨fun h=>by omega,fun _=> ?_⟩;have h1:=ho.s.rows;have k:=bx List.length he;rw[ec,ec]at k;obtain rfl:no=n:=om;exact⟨_,_,zs,rfl,ho,he⟩
  |succ d ih=>
   intro i j no co zs w' D hi hw ho he;have g:i<ys.length:=om;have E:=sc i;obtain⟨hb,a,G,b,_⟩:=((h.au hw).s).at_ (row:=Em.row) (fun _=>rfl) hl g;have L:no<=40:=by
    have h1:=ho.s.rows;have k:=bx List.length he;rw[ec,ec,ew]at k;omega
   refine F.bu.L3.step ⟨fun _=>⟨hb,a,G,_,_,_,_,_,_,_,_,_,_,_,_,b,pm (Dt (((h.au hw).w _ (bw g))) (h.o _ (bw g))) ?_⟩,fun h=>by omega⟩;rintro v H r ⟨z,rfl,I⟩;have B:=kP hw r;refine⟨_,_,_,_,_,_,_,_,_,_,_,_,rfl,?_⟩;have q:=ho.below r;refine so sQ lf q.s (x:=z.val ys[i].e) rfl (by simp[Value.cells,bl]) B.size om dc fun A3 c3 C J g3 K=>⟨ir,?_⟩
   have st:bG 32 H C:=bG.grown q.s g3;rw[E];refine ih (i+1) A3 _ c3 (zs++[⟨ys[i].e,z⟩]) C om om (B.trans K) ⟨by rw[eH];exact J,?_,?_⟩ ?_
   ·intro y hy;rcases fi.1 hy with hy|hy
    ·exact(q.f y hy).bW st
    ·rw[eb.1 hy];exact(I.base hw.size).bW st
   ·intro y hy;rcases fi.1 hy with hy|hy
    ·exact ho.o y hy
    ·rw[eb.1 hy];show kV ys[i].e/\aU .i64 ys[i].e.kind;exact⟨h.o _ (bw g),(h.f _ (bw g)).ik⟩
   ·unfold gk at he⊢;rw[eH,he,ft,af g,eH];rfl
 exact F.bu.vc (key n 0 none 0 0 [] w rfl om (Below.refl _ _) ⟨aE.nil,nofun,nofun⟩ rfl)
end

theorem VA{w:World}{A:Option Addr}{n c:Nat}{l:List Em}(hl:bR w A 6 (l.map Em.row))(hlen:l.length=n)(hn:n<2147483648){f:Nat}{a k:Array Value}(cA:ay Tryz.prog f=true){p:Em->Bool}
  (hf:∀w',Below w.heap.size w w'->∀x∈l,Pure Tryz.prog f (a.toList++([Em.val x]:List Value)++k.toList).toArray w' fun v _=>v= .bool (p x)):
  Pure Tryz.prog 110 #[.slice A n c,.func (.func f) a k] w fun v _=>v= .int .i64 (fF p 0 l):=
 F.aO.vc (pC (val:=Em.val) hlen hn hf (R:=fun v _=>v= .int .i64 (fF p 0 l)) (fun _=>rfl) (L:=fun i w'=>F.aO.L2 A n c f a k n i w.heap.size w' fun v _=>v= .int .i64 (fF p 0 l))
  (fun i w' h1 d=>F.aO.L2.step ⟨fun q=>absurd q h1,fun _=>d⟩)
  (fun i w' hi hw h=>F.aO.L2.step ⟨fun _=>by obtain⟨hb,e,g,b,_⟩:=(hl.au hw lf).at_ (row:=Em.row) (fun _=>rfl) hlen hi;exact⟨hb,e,g,_,_,_,_,_,_,_,_,_,_,_,_,b,cA,h⟩,fun q=>by omega⟩)
  n 0 w rfl om (Below.refl _ _) rfl)
theorem R9(l:List Em):(∀r∈l.map Em.row,r.length=6)/\∀r∈l.map Em.row,∀u∈r,bl u=true:=fj (fun _=>rfl) (fun x u h=>by simp only[Em.row,cc,fs,u1]at h;rcases h with rfl|rfl|rfl|rfl|rfl|rfl<;>rfl)
theorem VB{w:World}{A:Option Addr}{n c:Nat}{l:List Em}(h:bR w A 6 (l.map Em.row))(hlen:l.length=n)(hn:n<=1000000):
  Pure Tryz.prog 57 #[.slice A n c] w fun v w'=>∃A' c',v= .slice A' n c'/\aE w' w.heap.size 32 A' n c' 6 (l.map Em.row):=
 F.eP.vc (gF (R:=fun v w'=>∃A' c',v= .slice A' n c'/\aE w' w.heap.size 32 A' n c' 6 (l.map Em.row)) sQ h (by simpa using hlen) (R9 l).1 (R9 l).2 om fun A' c' w' o=>⟨A',c',rfl,o⟩)
theorem GC:(Tryz.prog.info? 32).bind (·.zero)=some (.agg #[.int .i64 0,.int .i64 0,.int .i64 0,.slice none 0 0,.slice none 0 0,.slice none 0 0]):=kF

theorem VC{w0:World}{B:Nat}{A:Option Addr}{n c:Nat}{l:List Em}(hlen:l.length=n)(hn:n<2147483648)(mv:n<=c){f:Nat}{a k:Array Value}(cA:ay Tryz.prog f=true){p:Em->Bool}
  (hf:∀w,qk A w0 w->∀x:Em,Pure Tryz.prog f (a.toList++([Em.val x]:List Value)++k.toList).toArray w fun v _=>v= .bool (p x)) {R:Value->World->Prop}
  (Z:∀m w,qk A w0 w->aE w B 32 A m c 6 ((l.filter fun x=> !p x).map Em.row)->R (.slice A m c) w):
  ∀(d i j:Nat)(cur:List Em)(w:World),n - j=d->j<=n->i<=j->cur.length=n->aE w B 32 A n c 6 (cur.map Em.row)->cur.take i=(l.take j).filter (fun x=> !p x)->cur.drop j=l.drop j->qk A w0 w->B<=w.heap.size->
   F.aG.L5 A n c f a k i j B w R:=by
 intro d;induction d with
 |zero=>
  intro i j cur w hd hj K r ho g G y b;have:j=n:=om;subst this;rw[de (l:=l) om]at g;refine F.aG.L5.step ⟨fun h=>by omega,fun _=>⟨om,?_⟩⟩;have os:=ho.short (m:=i) om;rw[<-Aa,g]at os;rw[ca];refine ue sQ GC (by simp[Value.cells,bl]) os K mv fun L o2 z k2=>⟨om,Z i L (y.trans ⟨z.size,k2⟩) o2⟩
 |succ d ih=>
  intro i j cur w hd hj K r ho g G y b;have M:j<l.length:=om;have o:j<cur.length:=om;have H:cur[j]=l[j]:=by
   have h1:(cur.drop j)[0]? =(l.drop j)[0]? :=by rw[G]
   rw[k7,k7]at h1;simpa[M,o]using h1
  have N:=sc j;have e4:=sc i;have O:cur.drop (j+1)=l.drop (j+1):=by
   have:=bx (List.drop 1) G;simpa[OQ]using this
  have P:l.take (j+1)=l.take j++[l[j]]:=by rw[ft,af M];rfl
  obtain⟨hb,ad,hA,e,_⟩:=ho.sl.at_ (fun _=>rfl) r o;refine F.aG.L5.step ⟨fun _=>⟨hb,ad,hA,_,_,_,_,_,_,_,_,_,_,_,_,e,?_⟩,fun h=>by omega⟩;refine cC 32 GC b fun L fB z hlt=> ?_
  refine⟨_,_,b,rfl,fB,by simp[Value.cells],rfl,fun C D=> ?_⟩;have Q:C.heap[w.heap.size]? =some (.cells (cur[j].row).toArray 32 (0,0)):=by
   have:=D.at_;simpa[setCells,Value.cells]using this
  have S:qk A w0 C:=qk.fresh D (y.trans (qk.low z)) y.1;have YN:∀x,A=some x->x.block<w.heap.size:=fun x hx=>(ho.uJ x hx).2
  have o3:aE C B 32 A n c 6 (cur.map Em.row):=(ho.below z).other fun x hx=>D.rest _ (by have:=YN x hx;show x.block≠w.heap.size;omega)
  refine⟨_,_,_,_,_,_,_,_,_,_,_,_,eE Q,cA,pm (hf C S cur[j]) ?_⟩;rintro v T E rfl;have U:=S.trans (qk.low (A:=A) E);have V:=o3.below E;have q:B<=T.heap.size:=by have:=E.size;have:=D.size;omega
  refine⟨_,rfl,fun gI=> ?_,fun YO=>⟨ir,?_⟩⟩
  ·have I:p l[j]=false:=by rw[<-H];exact gI
   obtain⟨g1,a2,W,cs,g2,g3,g4,g5,g6⟩:=V.Nc (i:=(i:Int)) om om (cur[j].row) ((cur[i]'om).row) (by rw[ca,kl,af om];rfl) rfl;refine⟨_,_,_,_,_,_,_,_,_,_,_,_,eE (ag Q E),g1,a2,W,cs,_,g2,g3,g4,g5,rfl,fun X J=>⟨ir,ir,?_⟩⟩;have Y:=g6 X J;rw[ca]at Y;have Ns:(a2.add ((i:Int).toNat*6)).block=a2.block:=by unfold Addr.add;split<;>rfl
   rw[N,e4];refine ih (i+1) (j+1) (cur.set i cur[j]) X om om om (by simp[r]) (by rw[Cv];exact Y) ?_ ?_ (U.trans (qk.wrote J ⟨a2,W,Ns.symm⟩)) (by rw[J.size];exact q)
   ·rw[ft,xt om,List.take_set_of_le om,g,P,F3,H];simp[I]
   ·rw[List.drop_set_of_lt om];exact O
  ·have I:p l[j]=true:=by rw[<-H];simpa using YO
   rw[N];refine ih i (j+1) cur T om om om r V ?_ O U q;rw[g,P,F3];simp[I]
theorem I4{w:World}{B:Nat}(hB:B<=w.heap.size){A:Option Addr}{n c:Nat}{l:List Em}(ho:aE w B 32 A n c 6 (l.map Em.row))(hn:n<2147483648){f:Nat}{a k:Array Value}(cA:ay Tryz.prog f=true){p:Em->Bool}
  (hf:∀w',qk A w w'->∀x:Em,Pure Tryz.prog f (a.toList++([Em.val x]:List Value)++k.toList).toArray w' fun v _=>v= .bool (p x)):
  cI Tryz.prog 56 #[.slice A n c,.func (.func f) a k] B w fun v w'=>∃m,v= .slice A m c/\aE w' B 32 A m c 6 ((l.filter fun x=> !p x).map Em.row)/\qk A w w':=by
 have hlen:l.length=n:=by have:=ho.len;simpa using this
 have mv:=ho.jY;refine F.aG.u7 hB ?_;refine pm (VA ho.sl hlen hn cA fun w' hb x _=>hf w' (qk.low hb) x) ?_;rintro v e b rfl;have key:=lB p l 0;cases hx:l.findIdx? p with
 |none=>
  rw[hx]at key;simp only at key;rw[key];refine⟨_,rfl,fun _=>⟨n,rfl,?_,qk.low b⟩,fun h=>absurd rfl h⟩;rw[DW hx];exact ho.below b
 |some i=>
  rw[hx]at key;simp only[jx]at key;rw[key];obtain⟨q,d⟩:=DX hx;have g:=sc i;refine⟨_,rfl,fun h=>by omega,fun _=>⟨ir,?_⟩⟩;rw[g];exact VC (w0:=w) hlen hn mv cA hf (fun m w' j o=>⟨m,rfl,o,j⟩) (n - (i+1)) i (i+1) l e rfl om om hlen (ho.below b) d.symm rfl (qk.low b) (dp hB b.size)

theorem dP.zero(w:World)(B:Nat):dP w B Ca.zero [] Cm.zero:=⟨aE.nil,aE.nil,aE.nil,nofun,rfl,aE.nil,.inl rfl,rfl,⟨eU _,fun _=>rfl⟩,aE.nil,aE.nil,aE.nil,aE.nil,aE.nil,aE.nil⟩
theorem dP.base{w:World}{B B':Nat}{k:Ca}{xs:List Rm}{x:Cm}(h:dP w B k xs x)(hb:B'<=B):dP w B' k xs x:=
 ⟨h.p.base hb,h.h.base hb,h.r.base hb,fun y hy=>⟨(h.f y hy).o.base hb⟩,h.e,h.s.base hb,h.pl,h.nw,h.cw,h.c.base hb,h.v.base hb,h.a.base hb,h.l.base hb,h.g.base hb,h.q.base hb⟩
theorem Cz(w:World):Pure Tryz.prog 37 #[] w fun v _=>v=Ca.zero.val Cm.zero:=F.sM.vc fun _ _=>rfl
def FoR(r:Except (Nat×Int) Cm)(B:Nat)(v:Value)(w':World):Prop:=match r with
 | .error (i,a)=>v= .tuple #[Ca.zero.val Cm.zero,.int .i64 i,.int .i64 a]
 | .ok y=>∃k xs,v= .tuple #[k.val y,.int .i64 (-1),.int .i64 0]/\dP w' B k xs y/\dz y
section
variable {H:oG} {w:World} {A:Option Addr} {n c:Nat} {ys:List Em}
theorem oV(fO:fM H)(hg:bj w)(h:uA w A n ys):
  Pure Tryz.prog 24 #[.slice A n c] w (FoR (eS H 0 Cm.zero (gk ys)) w.heap.size):=by
 have hl:=h.l;have hm:=h.m;have key:∀(d i:Nat)(k:Ca)(xs:List Rm)(x:Cm)(w':World),n - i=d->i<=n->Below w.heap.size w w'->dP w' w.heap.size k xs x->dz x->∀r,eS H i x (gk (ys.drop i))=r->
   F.dH.L5 A n c n i none 0 0 none 0 0 none 0 0 none 0 0 none 0 0 0 none 0 0 none 0 0 none 0 0 none 0 0 none 0 0 none 0 0 0 0 k.p.A k.p.n k.p.c k.h.A k.h.n k.h.c k.r.A k.r.n k.r.c k.s.A k.s.n k.s.c k.w.A k.w.n k.w.c x.bQ k.c.A k.c.n k.c.c k.v.A k.v.n k.v.c k.a.A k.a.n k.a.c k.l.A k.l.n k.l.c k.g.A k.g.n k.g.c k.q.A k.q.n k.q.c x.last x.tick w.heap.size w' (FoR r w.heap.size):=by
  intro d;induction d with
  |zero=>
   intro i k xs x w' K hi hw ho ok r b;rw[cd om]at b;subst b;exact F.dH.L5.step ⟨fun q=>by omega,fun _ L G=>⟨k,xs,rfl,ho.gh (bG.ext G),ok⟩⟩
  |succ d ih=>
   intro i k xs x w' K hi hw ho ok r b;have D:i<ys.length:=om;obtain⟨hb,a,M,j,_⟩:=((h.au hw).s).at_ (row:=Em.row) (fun _=>rfl) hl D;rw[cz D]at b;simp only[gk,zQ,eS]at b;refine F.dH.L5.step ⟨fun _=>⟨hb,a,M,_,_,_,_,_,_,_,_,_,_,_,_,j,fun Y B=> ?_⟩,fun q=>by omega⟩;have E:=kE hw B;have N:=(h.au E).f _ (bw D);refine pm (mW fO (hg.next E) ((ho.below (extAll B)).uV ok.sr) ok N) ?_;intro v O I z;have P:=kP E I;cases ha:dh H x ys[i].e with
   |error Z=>
    rw[ha]at b z;have z:v=_:=z;subst z b;refine⟨_,_,_,_,_,_,_,_,_,_,_,_,_,_,_,_,_,_,_,_,_,_,_,_,_,_,_,_,_,_,_,_,_,_,_,_,_,rfl,fun _ CM _=>rfl,fun q=>absurd (dT.1 q) (rE ha)⟩
   |ok y=>
    rw[ha]at b z;obtain⟨Q,R,rfl,S⟩:=z;refine⟨_,_,_,_,_,_,_,_,_,_,_,_,_,_,_,_,_,_,_,_,_,_,_,_,_,_,_,_,_,_,_,_,_,_,_,_,_,rfl,fun q=>absurd rfl q,fun _=>⟨ir,fun J C=> ?_⟩⟩;rw[show(i:Int)+1=((i+1:Nat):Int) by omega];exact ih (i+1) Q R y J om om (kE P C) ((S.gh (bG.ext C)).base E.size) (pZ ok (h.o _ (bw D)) ha) r b
 refine F.dH.vc ⟨fun q=>by omega,fun _ T U=>pm (Cz T) ?_⟩;rintro v Kv V rfl;refine⟨_,_,_,_,_,_,_,_,_,_,_,_,_,_,_,_,_,_,_,_,_,_,_,_,_,_,_,_,_,_,_,_,_,_,_,_,rfl,fun W X=> ?_⟩;exact key n 0 Ca.zero [] Cm.zero W rfl om (kE (kP (k0 U) V) X) (dP.zero _ _) dz.zero _ rfl
theorem ad7{p:Nat}{t:Int}{w:World}(a:w.heap[p]? =some (.cells [Value.int .i64 t].toArray 3 (0,0)))(y:Em):
  Pure Tryz.prog 58 #[y.val,.pointer (some ⟨p,0,none⟩)] w fun v _=>v= .bool (decide (y.e.tick>t)):=by
 refine F.pH.vc fun w1 b=> ?_
 exact⟨_,bE (ext_nil b a) rfl,rfl⟩
def OnR(r:Except (Nat×Int) Cm)(B:Nat)(v:Value)(w':World):Prop:=match r with
 | .error (_,a)=>v= .tuple #[Ca.zero.val Cm.zero,.int .i64 a]
 | .ok y=>∃k xs,v= .tuple #[k.val y,.int .i64 0]/\dP w' B k xs y/\dz y
noncomputable def VD(H:oG)(l:List Ev)(t:Int):Except (Nat×Int) Cm:=if t<0∨1073741824<t then .error (0,2)else eS H 0 Cm.zero (l.filter fun e=>decide (e.tick<=t))
theorem MD(fO:fM H)(hg:bj w)(h:uA w A n ys)(t:Int):
  Pure Tryz.prog 26 #[.slice A n c,.int .i64 t] w (OnR (VD H (gk ys) t) w.heap.size):=by
 have hl:=h.l;have hm:=h.m;unfold VD;refine F.uw.vc ⟨fun q w1 _=>by rw[bb (.inl q)];rfl,fun q1=>⟨fun q W _=>by rw[bb (.inr q)];rfl,fun X Y M=> ?_⟩⟩;rw[aq om];have g:=k0 M;refine pm (VB (h.au g).s hl om) ?_;rintro v N O ⟨A4,c4,rfl,j⟩;have G:=kP g O;refine⟨_,_,_,rfl,fun p7 P r=> ?_⟩;have z:∀a,A4=some a->p7≠a.block:=fun a ha e=>by
  obtain⟨cs,b⟩:=j.cells a ha;rw[<-e,r]at b;simp at b
 have B:p7<N.heap.size:=(ax.1 r).1;refine cI.mono (I4 (p:=fun y=>decide (y.e.tick>t)) G.size (j.base g.size) om kF fun w' C y=>ad7 ((C.2 p7 B z).trans r) y) ?_;rintro v I Q ⟨m,rfl,J,C⟩;have d:Below w.heap.size w I:=G.trans Q;refine⟨fun k ty cs R K=>C.2 k (ax.1 K).1 fun a ha e=> ?_,_,_,_,rfl,?_⟩
 ·obtain⟨Z,b⟩:=j.cells a ha;rw[<-e,K]at b;cases b;exact absurd R dc
 have D:∀y∈ys.filter (fun x=> !decide (x.e.tick>t)),y∈ys:=fun y hy=>(B5.1 hy).1
 have hlen:(ys.filter fun x=> !decide (x.e.tick>t)).length=m:=J.rows;have es:uA I A4 m (ys.filter fun x=> !decide (x.e.tick>t)):=⟨J.sl,hlen,fun y hy=>((h.au d).f y (D y hy)),fun y hy=>h.o y (D y hy),fun y hy=>((h.au d).w y (D y hy)),by have:=List.length_filter_le (fun x:Em=> !decide (x.e.tick>t)) ys;omega⟩;refine pm (oV fO (hg.next d) es) ?_;have e:gk (ys.filter fun x=> !decide (x.e.tick>t))=(gk ys).filter fun e=>decide (e.tick<=t):=by
  unfold gk;rw[List.filter_map];refine bx _ (List.filter_congr fun y _=> ?_);show(!decide (y.e.tick>t))=decide (y.e.tick<=t);rw[ve];simp
 rw[e];cases eS H 0 Cm.zero ((gk ys).filter fun e=>decide (e.tick<=t))with
 |error L=>
  obtain⟨i,L⟩:=L;intro v S T E;have E:v=_:=E;subst E;exact⟨_,_,_,_,_,_,_,_,_,_,_,_,_,_,_,_,_,_,_,_,_,_,_,_,_,_,_,_,_,_,_,_,_,_,_,_,_,_,rfl,fun U _=>rfl⟩
 |ok y=>
  rintro v S T ⟨k,xs,rfl,ho,ok⟩;exact⟨_,_,_,_,_,_,_,_,_,_,_,_,_,_,_,_,_,_,_,_,_,_,_,_,_,_,_,_,_,_,_,_,_,_,_,_,_,_,rfl,fun U V=>⟨k,xs,rfl,(ho.gh (bG.ext V)).base d.size,ok⟩⟩
end

theorem xV{w:World}{B:Nat}{k:Ca}{xs:List Rm}{x:Cm}(h:dP w B k xs x)(ok:dz x):
  Pure Tryz.prog 18 #[k.val x] w fun v w'=>∃U Gv,v=U.val x/\dP w' w.heap.size U Gv x:=by
 have lp:=ok.lp;have lh:=ok.lh;have lr:=ok.lr;have ls:=ok.ls;have lw:=ok.lw;have lc:=ok.lc;have lv:=ok.lv;have la:=ok.la;have ll:=ok.ll;have lg:=ok.lg;have lq:=ok.lq;have np:=h.p.rows;have nh:=h.h.rows;have nr:=h.r.rows;have hi:=h.uV ok.sr;refine F.kW.vc fun w1 x1=> ?_
 have d:=k0 x1;have pf:=((hi.au d).pr ok.sp ok.sh om om om).fit;refine pm (Ob (c0:=k.p.c) (c1:=k.h.c) (c2:=k.r.c) pf h.p.sO h.h.sO) ?_;rintro v w6 b6 ⟨A2,c2,A3,c3,A4,c4,ys,rfl,o2,o3,o4,e4,f4⟩;have vf:=kP d b6;refine⟨_,_,_,_,_,_,_,_,_,rfl,fun w7 V=> ?_⟩;have G:=kE vf V;have rs:=h.s.rows;refine mu gW ((h.s.sl).below G) (by rw[ec];exact h.s.rows) (Gu x.fN) (h.s.sO) G.size om dc fun Bs ds xv os W GO X=> ?_
 have rA:=kP G W;have N:=kE rA X;have rW:=h.nw;refine mu RU ((h.pl.sl).below N) (by rw[ec];exact h.nw) (Gu x.dS) (h.cw.2) N.size om dc fun Bw dw Aw O Y Dk Z=> ?_
 have Ac:=kP N Y;have H:=kE Ac Z;have rc:=h.c.rows;refine mu KV ((h.c.sl).below H) (by rw[ec];exact h.c.rows) (Gc x.jo) (h.c.sO) H.size om dc fun Bc dC CP oc La zB Ww=> ?_
 have xS:=kP H La;have I:=kE xS Ww;have rv:=h.v.rows;refine mu KU ((h.v.sl).below I) (by rw[ec];exact h.v.rows) (Gb x.wP) (h.v.sO) I.size om dc fun Bv dv Is ov JB w35 i=> ?_
 have tz:=kP I JB;have J:=kE tz i;have ra:=h.a.rows;refine mu KQ ((h.a.sl).below J) (by rw[ec];exact h.a.rows) (F6 x.fW) (h.a.sO) J.size om dc fun Ba da SQ oa j w42 m=> ?_
 have ZK:=kP J j;have K:=kE ZK m;have rl:=h.l.rows;refine mu KR ((h.l.sl).below K) (by rw[ec];exact h.l.rows) (F7 x.oI) (h.l.sO) K.size om dc fun Bl dl P ol o Wr z=> ?_
 have Q:=kP K o;have L:=kE Q z;have rg:=h.g.rows;refine mu KS ((h.g.sl).below L) (by rw[ec];exact h.g.rows) (F9 x.cU) (h.g.sO) L.size om dc fun Bg dg R og A w56 C=> ?_
 have KF:=kP L A;have M:=kE KF C;have rq:=h.q.rows;refine mu KT ((h.q.sl).below M) (by rw[ec];exact h.q.rows) (Ga x.apps) (h.q.sO) M.size om dc fun Bq dq S oq D b E=> ?_
 have T:=kP M D;have Oi:=kE T E;have tq:bG 49 S b:=bG.ext E;have tg:bG 49 R b:=(bG.ext C).trans ((bG.low D).trans tq);have tl:bG 49 P b:=(bG.ext z).trans ((bG.low A).trans tg);have ta:bG 49 SQ b:=(bG.ext m).trans ((bG.low o).trans tl);have tv:bG 49 Is b:=(bG.ext i).trans ((bG.low j).trans ta);have tc:bG 49 CP b:=(bG.ext Ww).trans ((bG.low JB).trans tv);have tw:bG 49 Aw b:=(bG.ext Z).trans ((bG.low La).trans tc);have ts:bG 49 xv b:=(bG.ext X).trans ((bG.low Y).trans tw);have t0:bG 49 w6 b:=(bG.ext V).trans ((bG.low W).trans ts);refine⟨⟨⟨A2,k.p.n,c2⟩,⟨A3,k.h.n,c3⟩,⟨A4,k.r.n,c4⟩,⟨Bs,k.s.n,ds⟩,⟨Bw,k.w.n,dw⟩,⟨Bc,k.c.n,dC⟩,⟨Bv,k.v.n,dv⟩,⟨Ba,k.a.n,da⟩,⟨Bl,k.l.n,dl⟩,⟨Bg,k.g.n,dg⟩,⟨Bq,k.q.n,dq⟩⟩,ys,rfl,?_⟩;exact⟨(o2.bW t0 dc).base d.size,(o3.bW t0 dc).base d.size,(o4.bW t0 dc).base d.size,fun y hy=>⟨((f4 y hy).bW t0 dc).base d.size⟩,e4.trans h.e,(os.bW ts dc).base G.size,(O.bW tw dc).slT,rW,⟨O.jY,O.sO⟩,(oc.bW tc dc).base H.size,(ov.bW tv dc).base I.size,(oa.bW ta dc).base J.size,(ol.bW tl dc).base K.size,(og.bW tg dc).base L.size,(oq.bW tq dc).base M.size⟩

def VE:Ev:=⟨1,0,1,[1,3,1],[⟨#[50]⟩,⟨#[49]⟩,⟨#[53]⟩],[⟨#[97]⟩]⟩
def VF:Ev:=⟨2,0,2,[1],[⟨#[57]⟩,⟨#[57]⟩,⟨#[49]⟩,⟨#[48]⟩,⟨#[48]⟩],[⟨#[65]⟩]⟩
def VG:Ev:=⟨3,0,3,[1,0,0],[⟨#[49]⟩],[⟨#[109,111,115,116]⟩,⟨#[]⟩,⟨#[53]⟩]⟩
def Tl:Ev:=⟨4,0,6,[1,2],[],[⟨#[65,110,110,97]⟩,⟨#[107]⟩]⟩
def Tm:Ev:=⟨5,0,6,[2,3],[],[⟨#[66,111,98]⟩,⟨#[113]⟩]⟩
def tn6:Ev:=⟨6,3,7,[1,1,2],[],[]⟩
def ZR:List Ev:=[VE,VF,VG,Tl,Tm,tn6]
def zM:List Si:=[⟨1,2,⟨#[65,110,110,97]⟩,⟨#[107]⟩⟩,⟨2,3,⟨#[66,111,98]⟩,⟨#[113]⟩⟩]
def Xi:Cm:={Cm.zero with ps:=[⟨1,3,1,⟨#[97]⟩,⟨#[50]⟩,⟨#[49]⟩,⟨#[53]⟩⟩],hs:=[⟨1,⟨#[65]⟩,⟨#[57]⟩,⟨#[57]⟩,⟨#[49]⟩,⟨#[48]⟩,⟨#[48]⟩⟩],rs:=[⟨⟨#[109,111,115,116]⟩,1,[⟨#[49]⟩],⟨#[]⟩,⟨#[53]⟩,0,0⟩],last:=3}
def cm5:Cm:={Xi with cU:=zM,last:=5}
def wS:Cm:={cm5 with dS:=[⟨1,1,2⟩],bQ:=6,last:=6,tick:=3}
section
variable {H:oG} {x y:Cm} {e:Ev}
theorem uC{d:Kd}(h1:¬(e.id<1∨1073741824<e.id∨e.tick<0∨1073741824<e.tick))(a:kd e.kind=some d)(b:jq d e=true)(c:¬(e.id<=x.last∨e.tick<x.tick))(g:¬((d.em=true/\x.dS≠[])∨(d.fu=true/\x.dS=[])))(h:wR H e.kind x e=(y,0)):
  dh H x e= .ok {y with last:=e.id,tick:=e.tick}:=by
 unfold dh;rw[aq h1,a];dsimp only;rw[aq (by rw[b];decide),aq c,aq g,h,aq (fun k=>k rfl)]
theorem uD:mS [(⟨1,2,⟨#[65,110,110,97]⟩,⟨#[107]⟩⟩:Si)]=true/\mS zM=true:=by
 refine⟨gY.2 ⟨⟨⟨dc,dc,dc,dc,nofun⟩,trivial⟩,dc⟩,gY.2 ⟨⟨⟨dc,dc,dc,dc,nofun⟩,⟨dc,dc,dc,dc,fun q a=>by cases a;decide⟩,trivial⟩,dc⟩⟩
theorem uE{ss:List Si}(h:mS ss=true):dO H ss []=(-1,0):=by
 unfold dO;rw[aq (by rw[h];decide),aq sm];rfl
theorem aea:eS H 0 Cm.zero [VE,VF,VG]= .ok Xi:=kF
theorem aeb:dh H Xi Tl= .ok {Xi with cU:=[⟨1,2,⟨#[65,110,110,97]⟩,⟨#[107]⟩⟩],last:=4}:=
 uC (d:=⟨2,0,2,false,false,116⟩) (y:={Xi with cU:=[⟨1,2,⟨#[65,110,110,97]⟩,⟨#[107]⟩⟩]}) dc rfl rfl dc sm (by
  show nP H Xi Tl=_;show(_,(dO H [(⟨1,2,⟨#[65,110,110,97]⟩,⟨#[107]⟩⟩:Si)] []).2)=_;rw[uE uD.1];rfl)
theorem aec:dh H {Xi with cU:=[⟨1,2,⟨#[65,110,110,97]⟩,⟨#[107]⟩⟩],last:=4} Tm= .ok cm5:=
 uC (d:=⟨2,0,2,false,false,116⟩) (y:={Xi with cU:=zM,last:=4}) dc rfl rfl dc sm (by
  show nP H _ Tm=_;show(_,(dO H zM []).2)=_;rw[uE uD.2];rfl)
theorem aed:dh H cm5 tn6= .ok wS:=kF
theorem Et:∀(l m:List Ev)(i:Nat)(x y:Cm),eS H i x l= .ok y->eS H i x (l++m)=eS H (i+l.length) y m:=by
 intro l;induction l with
 |nil=>
  intro m i x y h;cases h;rfl
 |cons e r ih=>
  intro m i x y h;rw[eS]at h;rw[vu,eS];cases ha:dh H x e with
  |error a=>rw[ha]at h;cases h
  |ok z=>
   rw[ha]at h;dsimp only at h⊢;rw[ih m (i+1) z y h,eL,IS,LP 1]
theorem Xj:eS H 0 Cm.zero [VE,VF,VG,Tl,Tm]= .ok cm5:=by
 rw[show[VE,VF,VG,Tl,Tm]=[VE,VF,VG]++[Tl,Tm]from rfl,Et _ _ _ _ _ aea,eS,aeb];dsimp only;rw[eS,aec];rfl
theorem aee:eS H 0 Cm.zero ZR= .ok wS:=by
 rw[show ZR=[VE,VF,VG,Tl,Tm]++[tn6]from rfl,Et _ _ _ _ _ Xj,eS,aed];rfl
noncomputable def Tn(H:oG):ByteArray:=lE H wS
noncomputable def Xk(H:oG)(i:Int)(key:ByteArray):ByteArray:=codeF H key ⟨i,4,Tn H,⟨#[]⟩⟩
noncomputable def tm(H:oG)(i:Int)(key:ByteArray):Ap:=⟨i,4,Tn H,Xk H i key⟩
noncomputable def tn7(H:oG):Ev:=⟨7,4,8,[1],[],[Xk H 1 ⟨#[107]⟩]⟩
noncomputable def tn8(H:oG):Ev:=⟨8,4,8,[2],[],[Xk H 2 ⟨#[113]⟩]⟩
noncomputable def cm7(H:oG):Cm:={wS with apps:=[tm H 1 ⟨#[107]⟩],last:=7,tick:=4}
noncomputable def ME(H:oG):Cm:={wS with apps:=[tm H 1 ⟨#[107]⟩,tm H 2 ⟨#[113]⟩],last:=8,tick:=4}
def tn9:Ev:=⟨9,5,9,[],[],[]⟩
noncomputable def cm9(H:oG):Cm:={ME H with fN:=[⟨1,1,2⟩],dS:=[],bQ:=0,last:=9,tick:=5}
theorem Xl(ok:fM H):mo zM [] (tm H 1 ⟨#[107]⟩)=0:=by
 unfold mo;have h:Jy zM (tm H 1 ⟨#[107]⟩).bV=some 0:=by show Jy zM 1=_;kernel_rfl
 have hs:(tm H 1 ⟨#[107]⟩).subject.size=32:=ok.len _;have a:(tm H 1 ⟨#[107]⟩).tick=4:=rfl;rw[h,aq sm,aq (by rw[hs,a];decide),aq sm,aq sm]
theorem aef(ok:fM H):mo zM [tm H 1 ⟨#[107]⟩] (tm H 2 ⟨#[113]⟩)=0:=by
 unfold mo;have h:Jy zM (tm H 2 ⟨#[113]⟩).bV=some 1:=by show Jy zM 2=_;kernel_rfl
 have hs:(tm H 2 ⟨#[113]⟩).subject.size=32:=ok.len _;have a:(tm H 2 ⟨#[113]⟩).tick=4:=rfl;have h1:(tm H 1 ⟨#[107]⟩).tick=4:=rfl;have g1:(tm H 1 ⟨#[107]⟩).bV=1:=rfl;have g2:(tm H 2 ⟨#[113]⟩).bV=2:=rfl;rw[h,aq sm,aq (by rw[hs,a];decide),aq (by simp[a,h1]),aq (by simp[g1,g2])]
theorem LH(ok:fM H):dO H zM [tm H 1 ⟨#[107]⟩]=(-1,0)/\dO H zM [tm H 1 ⟨#[107]⟩,tm H 2 ⟨#[113]⟩]=(-1,0):=by
 have c1:(tm H 1 ⟨#[107]⟩).code=codeF H (IJ zM (tm H 1 ⟨#[107]⟩).bV) (tm H 1 ⟨#[107]⟩):=rfl;have c2:(tm H 2 ⟨#[113]⟩).code=codeF H (IJ zM (tm H 2 ⟨#[113]⟩).bV) (tm H 2 ⟨#[113]⟩):=rfl;constructor
 ·unfold dO;rw[aq (by rw[uD.2];decide),aq sm,th,aq (by rw[Xl ok];decide),aq (fun k=>k c1)];rfl
 ·unfold dO;rw[aq (by rw[uD.2];decide),aq sm,th,aq (by rw[Xl ok];decide),aq (fun k=>k c1),th,aq (by rw[tu,aef ok];decide),aq (fun k=>k c2)];rfl
theorem aeg(ok:fM H):dh H wS (tn7 H)= .ok (cm7 H):=
 uC (d:=⟨1,0,1,false,true,118⟩) (y:={wS with apps:=[tm H 1 ⟨#[107]⟩]}) (by show ¬((7:Int)<1∨1073741824<(7:Int)∨(4:Int)<0∨1073741824<(4:Int));decide) rfl rfl (by show ¬((7:Int)<=6∨(4:Int)<3);decide) (by simp[wS]) (by
  show lF H wS (tn7 H)=_;show(_,(dO H zM [tm H 1 ⟨#[107]⟩]).2)=_;rw[(LH ok).1];rfl)
theorem aeh(ok:fM H):dh H (cm7 H) (tn8 H)= .ok (ME H):=
 uC (d:=⟨1,0,1,false,true,118⟩) (y:={cm7 H with apps:=[tm H 1 ⟨#[107]⟩,tm H 2 ⟨#[113]⟩]}) (by show ¬((8:Int)<1∨1073741824<(8:Int)∨(4:Int)<0∨1073741824<(4:Int));decide) rfl rfl (by show ¬((8:Int)<=7∨(4:Int)<4);decide) (by simp[cm7,wS]) (by
  show lF H (cm7 H) (tn8 H)=_;show(_,(dO H zM [tm H 1 ⟨#[107]⟩,tm H 2 ⟨#[113]⟩]).2)=_;rw[(LH ok).2];rfl)
theorem Ow{ss:List Si}{l:List Ap}{subject:ByteArray}{t:Int}(h:∀r,r=2∨r=3->∃s∈ss,s.role=r/\Dn l subject 1000 0 t s=true):wL (rz ss l subject [2,3] 1000 0 t) 9=[]:=by
 have a:∀r,rz ss l subject [2,3] 1000 0 t r<=0:=fun r=>by
  unfold rz;by_cases q:r=2∨r=3
  ·obtain⟨s,hs,h1,a⟩:=h r q;have:0<ss.countP fun s=>decide (s.role=r)&&Dn l subject 1000 0 t s:=R0.2 ⟨s,hs,by simp[h1,a]⟩
   have b:([2,3]:List Int).count r=1:=by rcases q with rfl|rfl<;>decide
   rw[b];omega
  ·have b:([2,3]:List Int).count r=0:=List.count_eq_zero.2 (by simp;omega);rw[b];omega
 unfold wL;rw[OP];intro j _;rw[MS];have:=a ((j:Int)+1);omega
theorem MF{ss:List Si}{l:List Ap}{subject:ByteArray}{t:Int}(h1:(dO H ss l).2=0)(a:subject.size=32)(b:0<=t/\t<=1073741824):ti H ss l subject [2,3] 1000 0 t=(wL (rz ss l subject [2,3] 1000 0 t) 9,0):=by
 unfold ti;rw[aq (by rw[h1];decide),aq dc,aq (by rw[a];decide),aq om]
theorem aei(ok:fM H):Er H wS 4=false:=by
 have hm:=MF (H:=H) (ss:=zM) (l:=[]) (subject:=lE H wS) (t:=4) (by rw[uE uD.2]) (ok.len _) dc;show decide ((ti H zM [] (lE H wS) [2,3] 1000 0 4).2=0/\(ti H zM [] (lE H wS) [2,3] 1000 0 4).1=[])=false;rw[hm];refine en fun k=> ?_
 have:=k.2;unfold wL at this;rw[OP]at this;have:=this 1 sm;rw[MS]at this
 revert this
 have e:rz zM [] (lE H wS) [2,3] 1000 0 4 2=1:=kF;show ¬(rz zM [] (lE H wS) [2,3] 1000 0 4 2).toNat=0;rw[e];decide
theorem Sa(ok:fM H):Er H (ME H) 5=true:=by
 have hm:=MF (H:=H) (ss:=zM) (l:=[tm H 1 ⟨#[107]⟩,tm H 2 ⟨#[113]⟩]) (subject:=Tn H) (t:=5) (by rw[(LH ok).2]) (ok.len _) dc;show decide ((ti H zM [tm H 1 ⟨#[107]⟩,tm H 2 ⟨#[113]⟩] (Tn H) [2,3] 1000 0 5).2=0/\(ti H zM [tm H 1 ⟨#[107]⟩,tm H 2 ⟨#[113]⟩] (Tn H) [2,3] 1000 0 5).1=[])=true;rw[hm];refine gu ⟨rfl,Ow fun r a=> ?_⟩;rcases a with rfl|rfl
 ·refine⟨⟨1,2,⟨#[65,110,110,97]⟩,⟨#[107]⟩⟩,by simp[zM],rfl,oZ.2 ⟨tm H 1 ⟨#[107]⟩,sm,gu ⟨rfl,rfl,?_,?_,?_⟩⟩⟩
  ·show(4:Int)<=5;decide
  ·show(4:Int)≥5 - 1000;decide
  ·show(1:Int)≠0;decide
 ·refine⟨⟨2,3,⟨#[66,111,98]⟩,⟨#[113]⟩⟩,by simp[zM],rfl,oZ.2 ⟨tm H 2 ⟨#[113]⟩,sm,gu ⟨rfl,rfl,?_,?_,?_⟩⟩⟩
  ·show(4:Int)<=5;decide
  ·show(4:Int)≥5 - 1000;decide
  ·show(2:Int)≠0;decide
theorem ZS(ok:fM H):dh H wS ⟨7,4,9,[],[],[]⟩= .error 23:=by
 have h:wR H 9 wS ⟨7,4,9,[],[],[]⟩=(wS,23):=by
  show mq H wS _=_;unfold mq;rw[bb (aei ok)]
 unfold dh;rw[aq dc];show(if jq (⟨0,0,0,false,true,119⟩:Kd) _=false then _ else _)=_;rw[aq dc,aq dc,aq (by simp[wS]),h,bb dc]
theorem ZT:zU wS.ps wS.hs [] ⟨1,1,2⟩= .ok [⟨1,1,2⟩]:=kF
theorem VH:kQ wS.ps wS.hs wS.rs [⟨1,1,2⟩]=true:=kF
theorem VI{t:Sw}{r l:List Sw}(ha:Er H x e.tick=true)(hp:x.dS=t::r)(a:zU x.ps x.hs x.fN t= .ok l):
  mq H x e=({x with fN:=l,dS:=r,bQ:=if r.length=0 then 0 else x.bQ},tj {x with fN:=l,dS:=r,bQ:=if r.length=0 then 0 else x.bQ}):=by
 unfold mq;rw[aq (by rw[ha];decide),hp];dsimp only;rw[a]
theorem aej(ok:fM H):dh H (ME H) tn9= .ok (cm9 H):=
 uC (d:=⟨0,0,0,false,true,119⟩) (y:={ME H with fN:=[⟨1,1,2⟩],dS:=[],bQ:=0}) dc rfl rfl (by show ¬((9:Int)<=8∨(5:Int)<4);decide) (by simp[ME,wS]) (by
  show mq H (ME H) tn9=_;rw[VI (x:=ME H) (e:=tn9) (t:=⟨1,1,2⟩) (r:=[]) (l:=[⟨1,1,2⟩]) (Sa ok) rfl ZT];refine Prod.ext rfl ?_;show tj _=0;unfold tj;rw[aq (by show ¬kQ wS.ps wS.hs wS.rs [⟨1,1,2⟩]=false;rw[VH];decide)])
end
end Go.Proofs.YtbcojgcjjpggnaaGreatDoor.B
