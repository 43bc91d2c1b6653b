/- Part 11 of the proofs that: The state of a record that was written and recovered is that of its events. -/
import Derived.Test.YtmdphpnaipbfjaaGreatDoorR10
import Derived.Test.YtmdphpnaipbfjaaGreatDoorProg
set_option linter.unusedVariables false
set_option linter.unusedSimpArgs false
namespace Go.Proofs.YtmdphpnaipbfjaaGreatDoor.B
open Go Go.RowKit Go.Proofs Go.Proofs.YtmdphpnaipbfjaaGreatDoor.Vc

def di:List Int->List Sw
 |a::b::c::r=>⟨a,b,c⟩::di r
 |_=>[]
def iota(n:Nat):List Int:=(List.range n).map fun(i:Nat)=>(i:Int)
theorem PU(n:Nat):iota (n+1)=iota n++[(n:Int)]:=by simp[iota,GX]
theorem TS(n:Nat):(iota n).length=n:=by simp[iota]
theorem M3:∀{l:List Int},l.length % 3=0->(di l).length*3=l.length/\∀j,(hj:j<(di l).length)->(h:3*j+2<l.length)->(di l)[j]=⟨l[3*j],l[3*j+1],l[3*j+2]⟩:=by
 intro l;induction l using di.induct with
 |case1 a b c r ih=>
  intro h;simp only[ew]at h;obtain⟨h1,d⟩:=ih om;refine⟨by simp only[di,ew];omega,fun j hj hl=> ?_⟩;cases j with
  |zero=>rfl
  |succ j=>
   simp only[di,ew]at hj hl;have:=d j om om;simp only[di,List.getElem_cons_succ];rw[this];rfl
 |case2 l hl=>
  intro h
  match l,hl with
  |[],_=>exact⟨rfl,fun j hj=>by simp[di]at hj⟩
  |[_],_=>simp at h
  |[_,_],_=>simp at h
  |a::b::c::r,hl=>exact absurd rfl (hl a b c r)
def we(x:Cm)(e:Ev):Cm×Int:=
 if e.nums=[]then(x,9)
 else if(pS x.ps x.hs x.rs x.gK (di e.nums) (iota (di e.nums).length)).2≠0 then(x,(pS x.ps x.hs x.rs x.gK (di e.nums) (iota (di e.nums).length)).2)
 else({x with eE:=di e.nums,cO:=e.id},0)
noncomputable def jC(H:mw)(x:Cm)(e:Ev):Cm×Int:=match e.nums,e.texts with
 |[a],[t]=>({x with apps:=x.apps++[⟨a,e.tick,ni H x,t⟩]},(eJ H x.fQ (x.apps++[⟨a,e.tick,ni H x,t⟩])).2)
 |_,_=>(x,1)
noncomputable def qJ(H:mw)(x:Cm)(e:Ev):Cm×Int:=
 if JX H x e.tick=false then(x,23)else match x.eE with
 |[]=>(x,1)
 |t::r=>match Dk x.ps x.hs x.gK t with
  | .error a=>(x,a)
  | .ok l=>({x with gK:=l,eE:=r,cO:=if r.length=0 then 0 else x.cO},uE {x with gK:=l,eE:=r,cO:=if r.length=0 then 0 else x.cO})
section
variable {w0 w:World} {b:Nat} {k:Ca} {xs:List Rm} {x:Cm} {ea:Ea} {e:Ev}
theorem PV(hg:bj w0)(hb:Below w0.heap.size w0 w)(h:Wk w w0.heap.size b k xs x)(ok:eA x)(he:mZ w0 ea e)(hn:e.nums.length % 3=0):
  ba Tryz.prog 74 #[.pointer (some ⟨b,0,none⟩),ea.val e] w0.heap.size w (M0 (we x e) w0.heap.size b):=by
 have ln:=he.ln;have mn:=he.mn;obtain⟨hS,BB⟩:=M3 hn;unfold we;refine F.dV.sV hb.size ⟨fun q w1 x1=> ?_,fun q w2 x2=> ?_⟩
 ·rw[bm (eR om)];exact⟨rfl,fun q=>absurd (show(9:Int)=0 from q) dc⟩
 rw[aq (fun q'=>q (by rw[q']at ln;simp at ln;omega))];have jn:=kE hb x2;have Z:=h.below (extAll x2);have key:∀(m j:Nat)(A5:Option Addr)(c5:Nat)(J:Option Addr)(K:Nat)(w:World),j+m=(di e.nums).length->Below w0.heap.size w0 w->
   w.heap[b]? =some (.cells (k.cells x).toArray 121 (0,0))->fa w w0.heap.size {k with w:= .nil} xs {x with eE:=[]}->
   ay w w0.heap.size 123 A5 j c5 3 (((di e.nums).take j).map Sw.row)->ay w w0.heap.size 3 J j K 1 ((iota j).map fO)->
   F.dV.L6 ⟨b,0,none⟩ A5 j c5 J j K ((3*j:Nat):Int) e.id e.tick e.kind ea.n.A ea.n.n ea.n.c ea.r.A ea.r.n ea.r.c ea.t.A ea.t.n ea.t.c w0.heap.size w (M0 (if(pS x.ps x.hs x.rs x.gK (di e.nums) (iota (di e.nums).length)).2≠0 then(x,(pS x.ps x.hs x.rs x.gK (di e.nums) (iota (di e.nums).length)).2)
    else({x with eE:=di e.nums,cO:=e.id},0)) w0.heap.size b):=by
  intro m;induction m with
  |zero=>
   intro j A5 c5 J K w hj hw box o B L;rw[xK]at hj;subst hj;rw[KT]at B;refine F.dV.L6.step ⟨fun q=>by omega,fun _=> ?_⟩;have hi:=o.ze ok.sr;have lp:=ok.lp;have lh:=ok.lh;have lr:=ok.lr;have ls:=ok.ls;have ns:x.gK.length=k.s.n:=hi.ns;refine⟨_,_,_,_,_,_,_,_,_,bD box 0 3,_,_,_,bD box 3 1,fun Fu d=> ?_⟩;have vM:=kE hw d;have i26:=hi.ar (extAll d);refine pm (PI (hg.next vM) (i26.pr ok.sp ok.sh (by show x.ps.length<=7;omega) (by show x.hs.length<=7;omega) (by show x.rs.length<=17;omega)) i26.s ns i26.cs (by show k.s.n<=40;omega) (B.below (extAll d)).sl rfl (L.below (extAll d)).sl (TS _) om) ?_;rw[i26.e];rintro v Im M rfl;have uM:=kP vM M;have JY:=ai (ai box (extAll d)) M;refine⟨_,_,rfl,fun C=>by rw[bm C];exact⟨rfl,fun q=>absurd q C⟩,fun h0=> ?_⟩;rw[aq h0];refine⟨fun NQ D=> ?_,fun NQ D=> ?_⟩
   all_goals
    have N:=((o.below (extAll d)).below M).below (extAll D);have t31:=((B.below (extAll d)).below M).below (extAll D);refine eK (ai JY (extAll D)) h.hB 4 1 (by show 5<=14;omega) rfl fun KQ O=> ?_
    have E:=bA.wrote O (ai JY (extAll D));refine eK O.at_ h.hB 5 1 (by show 6<=14;omega) rfl fun SN qz=>⟨rfl,fun _=>⟨{k with w:=⟨A5,(di e.nums).length,c5⟩},xs,qz.at_,h.hB,?_⟩⟩
    have G:=bA.wrote qz O.at_;have o':=(N.bH E).bH G;have t':=(t31.bH E dc).bH G dc;exact⟨o'.p,o'.h,o'.r,o'.f,o'.e,o'.s,t'.slT,rfl,⟨t'.jZ,t'.th⟩,o'.c,o'.v,o'.a,o'.l,o'.g,o'.q⟩
  |succ m ih=>
   intro j A5 c5 J K w hj hw box o B L;have oH:j<(di e.nums).length:=om;have h3:3*j+2<e.nums.length:=om;refine F.dV.L6.step ⟨fun _=> ?_,fun q=>by omega⟩;refine ix gM lf L (x:= .int .i64 (j:Int)) rfl (by simp[Value.cells,bk]) hw.size om dc fun P Q w8 o8 g8 b8=> ?_
   have rA:=hw.trans b8;have R:=bA.grown L g8;have H:=he.ar rA;have S:=fun(i:Nat) (hi:i<e.nums.length)=>H.n.at_ (row:=fO) (fun _=>rfl) H.ln (i:=i) hi
   obtain⟨p0,a0,q0,r0,_⟩:=S (3*j) om;obtain⟨p1,a1,q1,r1,_⟩:=S (3*j+1) om;obtain⟨p2,a2,q2,r2,_⟩:=S (3*j+2) om;have e1:((3*j+1:Nat):Int)=((3*j:Nat):Int)+1:=om;have e2:((3*j+2:Nat):Int)=((3*j:Nat):Int)+2:=om;rw[e1]at p1 r1;rw[e2]at p2 r2;refine⟨p0,a0,q0,_,r0,ir,p1,a1,q1,_,r1,ir,p2,a2,q2,_,r2,fun Du I=> ?_⟩;have wc:=kE rA I;have Zj:=(B.bH R dc).below (extAll I);have Tu:=ai (R _ _ _ _ dc box) (extAll I);have T:=o.MZ R;obtain⟨g1,g2,g3,g4,g5,g6,g7,z,g9,g10,g11,g12⟩:=T;have U:fa w8 w0.heap.size {k with w:= .nil} xs {x with eE:=[]}:=⟨g1 dc,g2 dc,g3 dc,g4 dc,o.e,g5 dc,g6 dc,o.nw,o.cw,g7 dc,z dc,g9 dc,g10 dc,g11 dc,g12 dc⟩;have V:=U.below (extAll I);refine jB TR Zj (val:= .agg #[.int .i64 (e.nums[3*j]),.int .i64 (e.nums[3*j+1]),.int .i64 (e.nums[3*j+2])]) rfl (by simp[Value.cells,bk]) wc.size om dc fun M4 QI EI W X Ph=>⟨ir,?_⟩
   obtain⟨g1,g2,g3,g4,g5,_,g7,z,g9,g10,g11,g12⟩:=V.MZ X;have Y:fa EI w0.heap.size {k with w:= .nil} xs {x with eE:=[]}:=⟨g1 dc,g2 dc,g3 dc,g4 dc,o.e,g5 dc,.inl rfl,o.nw,o.cw,g7 dc,z dc,g9 dc,g10 dc,g11 dc,g12 dc⟩;rw[show((3*j:Nat):Int)+3=((3*(j+1):Nat):Int) by omega];refine ih (j+1) M4 QI P Q EI om (wc.trans Ph) (X _ _ _ _ dc Tu) Y ?_ ?_
   ·rw[hP oH,eh,BB j oH h3];exact W
   ·rw[PU,eh];exact(o8.below (extAll I)).bH X dc
 have y:=Z.o;exact key (di e.nums).length 0 none 0 none 0 w2 om jn Z.box ⟨y.p,y.h,y.r,y.f,y.e,y.s,.inl rfl,rfl,⟨ga _,fun _=>rfl⟩,y.c,y.v,y.a,y.l,y.g,y.q⟩ ay.nil ay.nil
theorem HM{H:mw}(fk:fj H)(hg:bj w0)(hb:Below w0.heap.size w0 w)(h:Wk w w0.heap.size b k xs x)(ok:eA x)(he:mZ w0 ea e)(hn:e.nums.length=1)(L:e.texts.length=1):
  ba Tryz.prog 75 #[.pointer (some ⟨b,0,none⟩),ea.val e] w0.heap.size w (M0 (jC H x e) w0.heap.size b):=by
 obtain⟨id,tick,kind,nums,bS,texts⟩:=e;obtain⟨a,rfl⟩:=DQ hn;obtain⟨t,rfl⟩:=DQ L;have st:=he.st;unfold jC;dsimp only;refine F.oD.sV hb.size fun w1 x1=> ?_
 have C:=kE hb x1;have h1:=h.below (extAll x1);have r:=he.ar C;obtain⟨p1,M,q1,c1,_⟩:=r.n.at_ (row:=fO) (fun _=>rfl) r.ln (i:=0) sm;obtain⟨p2,a2,N,c2,_⟩:=r.t.at_ (row:=eD) (fun _=>rfl) r.lt (i:=0) sm;have lw:=ok.lw;have lq:=ok.lq;have lg:=ok.lg;refine⟨_,_,_,bD h1.box 11 1,p1,M,q1,_,c1,_,_,_,_,_,_,_,_,_,_,_,_,_,_,_,_,_,_,_,_,_,_,_,_,_,_,_,_,_,_,_,_,_,_,_,_,bD h1.box 0 14,p2,a2,N,_,c2,fun T D=> ?_⟩;have E:=h1.below (extAll D);have G:=kE C D;have i21:=E.o.ze ok.sr;refine pm (bQ (x:=x) (k:=k) fk (hg.next G) i21.pl i21.nw ok.sw lw ok.si) ?_;rintro v U I rfl;have c:=E.below I;have J:=kP G I;have nq:=c.o.q.rows;have ng:=c.o.g.rows;refine⟨_,rfl,jB Ms c.o.q (val:= .agg #[.int .i64 a,.int .i64 tick,.string (ni H x),.string t]) rfl (by simp[Value.cells,bk]) J.size om dc fun A' c' O P l Q=> ?_⟩;have K:=l _ _ _ _ dc c.box;refine eK K c.hB 11 1 (by show 12<=14;omega) rfl fun R y=> ?_
 have z:=(J.trans Q).trans (aG.eC y c.hB);have A:=bA.wrote y K;obtain⟨g1,g2,g3,g4,g5,g6,g7,g8,g9,g10,g11,_⟩:=c.o.MZ l;have B:fa O w0.heap.size {k with q:=⟨A',k.q.n+1,c'⟩} xs {x with apps:=x.apps++[⟨a,tick,ni H x,t⟩]}:=
  ⟨g1 dc,g2 dc,g3 dc,g4 dc,c.o.e,g5 dc,g6 dc,c.o.nw,c.o.cw,g7 dc,g8 dc,g9 dc,g10 dc,g11 dc,by rw[eh];exact P⟩
 have j:Wk R w0.heap.size b {k with q:=⟨A',k.q.n+1,c'⟩} xs {x with apps:=x.apps++[⟨a,tick,ni H x,t⟩]}:=⟨y.at_,c.hB,B.bH A⟩;refine⟨_,_,_,bD j.box 10 1,_,_,_,bD j.box 11 1,fun V m=> ?_⟩;have d:=j.below (extAll m);refine pm (cG fk (hg.next (kE z m)) d.o.g.sl ng (by show k.g.n<_;omega) d.o.q.sl d.o.q.rows (by show k.q.n+1<_;omega) d.o.q.jZ) ?_;rintro v W S rfl;exact⟨_,_,rfl,rfl,fun _=>⟨_,_,d.below S⟩⟩
theorem Bo{α:Type}{p q:α->Bool}(h:∀x,¬(p x=true/\q x=true)):∀l:List α,(l.filter p).length+(l.filter q).length<=l.length
 |[]=>ga _
 |x::r=>by
  have ih:=Bo h r;have hx:=h x;rw[List.filter_cons,List.filter_cons,ew];by_cases h1:p x=true<;>by_cases a:q x=true<;>simp[h1,a]
  ·exact absurd ⟨h1,a⟩ hx
  all_goals omega
theorem Xa{ps:List Pa}{hs:List Ho}{l m:List Sw}{t:Sw}(h:Dk ps hs l t= .ok m):m.length<=l.length+1:=by
 rw[(aaP h).e];unfold LX;have:=Bo (p:=fun x=>decide (fT x ⟨t.hold,t.au,iG l t.hold t.au+t.aU⟩)) (q:=fun x=>decide (fT ⟨t.hold,t.au,iG l t.hold t.au+t.aU⟩ x)) (fun x hx=>by
  have h1:=fs hx.1;have a:=fs hx.2;unfold fT at h1 a;dsimp only at h1 a;omega) l
 rw[dp,dp];split<;>simp<;>omega
theorem Il.aes{w:World}{ty:Nat}{A:Option Addr}{rows rest:List (List Value)}{d:List Value}{c sz:Nat}(h:Il w ty A sz rows)(he:rows=d::rest)(n:rest.length+1<=c):Il w ty (cT A 1 c sz) sz rest:=by
 subst he;rcases h with e|⟨b,off,cs,fr,g,l,m⟩
 ·cases e
 ·subst g;unfold cT;split
  ·refine .inl (eR om)
  ·refine .inr ⟨b,off+1*sz,cs,fr,by simp[Addr.add],l,fun i hi j hj=> ?_⟩;obtain⟨h1,a⟩:=m (i+1) (by simpa using hi) j (by simpa using hj);simp only[List.getElem_cons_succ]at h1 a;refine⟨h1,?_⟩;rw[show off+1*sz+i*sz+j=off+(i+1)*sz+j by rw[qh];omega];exact a
theorem PY{H:mw}(fk:fj H)(hg:bj w0)(hb:Below w0.heap.size w0 w)(h:Wk w w0.heap.size b k xs x)(ok:eA x)(He:x.eE≠[]):
  ba Tryz.prog 76 #[.pointer (some ⟨b,0,none⟩),ea.val e] w0.heap.size w (M0 (qJ H x e) w0.heap.size b):=by
 have lp:=ok.lp;have lh:=ok.lh;have lr:=ok.lr;have ls:=ok.ls;have lw:=ok.lw;unfold qJ;refine F.sn.sV hb.size fun w1 x1=> ?_
 have dn:=kE hb x1;have h1:=h.below (extAll x1);refine⟨_,_,_,_,_,_,_,_,_,_,_,_,_,_,_,_,_,_,_,_,_,_,_,_,_,_,_,_,_,_,_,_,_,_,_,_,bD h1.box 0 14,fun xi Z=> ?_⟩;have qU:=kE dn Z;have HB:=h1.below (extAll Z);refine pm (fX fk (hg.next qU) (HB.o.ze ok.sr) ok e.tick) ?_;rintro v Cb yX rfl;refine⟨_,rfl,fun q=>by rw[bm q];exact⟨rfl,fun q=>absurd (show(23:Int)=0 from q) dc⟩,fun q=> ?_⟩;rw[aq q];have G:=HB.below yX;have pC:=kP qU yX;have i19:=G.o.ze ok.sr;obtain⟨t,r,D⟩:∃t r,x.eE=t::r:=by
  cases hx:x.eE with
  |nil=>exact absurd hx He
  |cons t r=>exact⟨t,r,rfl⟩
 have nw:=i19.nw;have ns:=i19.ns;obtain⟨p1,a1,q1,c1,_⟩:=i19.pl.at_ (row:=Sw.row) (fun _=>rfl) nw (i:=0) (by rw[D];simp);refine⟨_,_,_,_,_,_,bD G.box 0 2,_,_,_,bD G.box 3 1,_,_,_,bD G.box 4 1,p1,a1,q1,_,_,_,c1,fun BK P=> ?_⟩;have Q:=kE pC P;have i28:=i19.ar (extAll P);have R:=G.below (extAll P);have e0:x.eE[0]'(by rw[D];simp)=t:=by simp[D]
 rw[e0];refine pm (gE (c0:=k.p.c) (c1:=k.h.c) (hg.next Q) (i28.cg ok.sp ok.sh om om) i28.s ns i28.cs om t) ?_;intro v UK U1 M;rw[D];dsimp only;have S:=R.below U1;have BP:=kP Q U1;cases N:Dk x.ps x.hs x.gK t with
 |error er=>
  rw[N]at M;cases M;have I:er≠0:=Ww N;exact⟨_,_,_,_,rfl,fun _=>⟨rfl,fun q=>absurd q I⟩,fun q=>absurd I q⟩
 |ok l=>
  rw[N]at M;obtain⟨T,n29,U,rfl,y⟩:=M;have y:=y.base (B:=w0.heap.size) Q.size;have cw:=S.o.cw;have nw1:k.w.n=r.length+1:=by rw[<-nw,D,ew]
  refine⟨_,_,_,_,rfl,fun q=>absurd rfl q,fun _=>⟨_,_,_,bD S.box 4 1,⟨om,om,om⟩,fun KQ z=> ?_⟩⟩;have j:=S.below (extAll z);have uK:=kE BP z;refine eK j.box j.hB 3 1 (by show 4<=14;omega) rfl fun SN O=> ?_
  have J:=bA.wrote O j.box;refine eK O.at_ j.hB 4 1 (by show 5<=14;omega) rfl fun YK E=> ?_
  have K:=bA.wrote E O.at_;have Zr:=(uK.trans (aG.eC O j.hB)).trans (aG.eC E j.hB);have d:=(j.o.bH J).bH K;have t40:=((y.below (extAll z)).bH J dc).bH K dc;have L:Il YK 123 (cT k.w.A 1 k.w.c 3) 3 (r.map Sw.row):=d.pl.aes (by rw[D];rfl) (by rw[en];omega);have aqH:=Xa N;have V:l.length<=40:=om;have fin:∀{w:World} {id:Int},Below w0.heap.size w0 w->Wk w w0.heap.size b {k with s:=⟨T,n29,U⟩,w:=⟨cT k.w.A 1 k.w.c 3,k.w.n - 1,k.w.c - 1⟩} xs {x with gK:=l,eE:=r,cO:=id}->
    Pure Tryz.prog 104 #[.pointer (some ⟨b,0,none⟩)] w fun v w'=>∃i45:Int,v= .int .i64 i45/\M0 ({x with gK:=l,eE:=r,cO:=id},uE {x with gK:=l,eE:=r,cO:=id}) w0.heap.size b (.int .i64 i45) w':=fun hw hk=>by
   refine pm (wN (hg.next hw) hk ok.sr ok.sp ok.sh (by show x.ps.length<=7;omega) (by show x.hs.length<=7;omega) (by show x.rs.length<=17;omega) V) ?_;rintro v w47 W rfl;exact⟨_,rfl,rfl,fun _=>⟨_,_,hk.below W⟩⟩
  refine⟨_,_,_,bD E.at_ 4 1,fun q=> ?_,fun q=> ?_⟩
  ·have X:r.length=0:=om;rw[bm X];refine eK E.at_ j.hB 5 1 (by show 6<=14;omega) rfl fun w44 Y=> ?_
   have C:=bA.wrote Y E.at_;have m:=d.bH C;exact fin (Zr.trans (aG.eC Y j.hB)) ⟨Y.at_,j.hB,m.p,m.h,m.r,m.f,m.e,t40.bH C dc,L.bH C dc,by show r.length=k.w.n - 1;omega,⟨by show k.w.n - 1<=k.w.c - 1;omega,fun q=>by have:=cw.2 (TK q);show k.w.c - 1=0;omega⟩,m.c,m.v,m.a,m.l,m.g,m.q⟩
  ·have X:¬r.length=0:=om;rw[aq X];exact fin Zr ⟨E.at_,j.hB,d.p,d.h,d.r,d.f,d.e,t40,L,by show r.length=k.w.n - 1;omega,⟨by show k.w.n - 1<=k.w.c - 1;omega,fun q=>by have:=cw.2 (TK q);show k.w.c - 1=0;omega⟩,d.c,d.v,d.a,d.l,d.g,d.q⟩
end

section
variable {w0 wb w:World} {A0 A1 A2 A A3 A5:Option Addr} {n0 c0 n1 c1 n2 c2 n c n3 c3 n5 c5:Nat} {ps:List Pa} {hs:List Ho} {xs:List Rm} {l aV:List Sw} {k:Tk} {o:List Int}
structure Own (wb:World) (m:Nat) (f:Int->Option Bool) (w:World):Prop where
 m:uP w wb.heap.size 3 4 m f
theorem Own.MZ{w w':World}{m b:Nat}{f:Int->Option Bool}(h:Own wb m f w)(hb:HH b w w')(a:b<wb.heap.size):Own wb m f w':=⟨h.m.same (hb.other _ h.m.lt (by have:=h.m.1;omega))⟩
theorem Own.low{w w':World}{m:Nat}{f:Int->Option Bool}(h:Own wb m f w)(hb:Below w.heap.size w w'):Own wb m f w':=⟨h.m.below hb⟩
theorem Own.row{w w':World}{m:Nat}{f:Int->Option Bool}(h:Own wb m f w){B ty:Nat}{A:Option Addr}{n c sz:Nat}{rows:List (List Value)}(ho:ay w B ty A n c sz rows)(hg:w.grownBy w' (Value.ownBlock (.slice A n c))):Own wb m f w':=by
 refine⟨h.m.same (hg.block _ h.m.lt fun e=> ?_)⟩;obtain⟨es,cl,d⟩:=h.m.isMap;cases A with
 |none=>cases e
 |some a=>
  obtain⟨cs,b⟩:=ho.cells a rfl;cases e;rw[d]at b;cases b
theorem TU{w w':World}{B ty:Nat}{A:Option Addr}{n c sz:Nat}{rows:List (List Value)}(ho:ay w B ty A n c sz rows)(hg:w.grownBy w' (Value.ownBlock (.slice A n c)))(hB:B<=w.heap.size):Below B w w':=by
 refine bT hg (fun i e=> ?_) hB;cases A with
 |none=>cases e
 |some a=>
  cases e;exact(ho.uN a rfl).1

end
end Go.Proofs.YtmdphpnaipbfjaaGreatDoor.B

set_option maxRecDepth 100000
set_option maxHeartbeats 4000000
namespace Go.Proofs.YtmdphpnaipbfjaaGreatDoor.F
open Go Go.RowKit Go.Proofs Go.Proofs.YtmdphpnaipbfjaaGreatDoor.Vc
open Tryz
variable {A C D E G H J K A0 A1 A2 A3 A4 A5 A6 A7 A8 A9 C0 C1 C2 C3 C4 C5 C6 C7 C8 C9:O} {a b c d e f g i j l m n o a0 a1 a2 a3 a4 a5 a6 a7 a8 a9 b0 b1 b2 b3 b4 b5 b6 b7 b8 b9 c0 c1 c2 c3 c4 c5 c6 c7 c8 c9:Nat} {p q r s t u v x p0 p1 p2 p3 p4 p5 p6 p7 p8 p9 q0 q1 q2 q3 q4 q5 q6 q7 q8 q9:Int} {L M N N0 N1 N2 N3 N4 N5 N6 N7 N8 N9 T0 T1 T2 T3 T4 T5 T6 T7 T8 T9:ByteArray} {Q S:Bool} {B:Nat} {w:World} {R:Kt}
def aj.L4(a:Int)(b:O)(c d:Nat)(e:O)(f g:Nat)(i:O)(j l:Nat)(m:O)(n o:Nat)(p:O)(q r:Nat)(s:O)(t u:Nat):=Lt 33 f33 4 [vL 2,vL 3,vI 5 a] [⟨2,false,47,[(vW b c d),(vW e f g),(vW i j l)]⟩,⟨3,false,47,[(vW m n o),(vW p q r),(vW s t u)]⟩]
def aj.L9(a:Int)(b:O)(c d:Nat)(e:O)(f g:Nat)(i:O)(j l:Nat)(m:O)(n o:Nat)(p:O)(q r:Nat)(s:O)(t u:Nat):=Lt 33 f33 9 [vL 2,vL 3,vI 6 a] [⟨2,false,47,[(vW b c d),(vW e f g),(vW i j l)]⟩,⟨3,false,47,[(vW m n o),(vW p q r),(vW s t u)]⟩]
def aj.zb(a:Int)(b:O)(c d:Nat)(e:O)(f g:Nat)(i:O)(j l:Nat)(m:O)(n o:Nat)(p:O)(q r:Nat)(s:O)(t u:Nat):=Lt 33 f33 14 [vL 2,vL 3,vI 7 a] [⟨2,false,47,[(vW b c d),(vW e f g),(vW i j l)]⟩,⟨3,false,47,[(vW m n o),(vW p q r),(vW s t u)]⟩]
def aj.CJ(a b:Int)(c:O)(d e:Nat)(f:O)(g i:Nat)(j:O)(l m:Nat)(n:O)(o p:Nat)(q:O)(r s:Nat)(t:O)(u v:Nat)(x:ByteArray)(y:Int)(z:O)(A C:Nat)(D E:ByteArray)(G H:Int)(J:ByteArray)(K:Int)(L:O)(M N:Nat)(Q S:ByteArray)(T U:Int):=Lt 33 f33 20 [vL 2,vL 3,vI 7 a,vL 8,vL 9,vI 10 b] [⟨2,false,47,[(vW c d e),(vW f g i),(vW j l m)]⟩,⟨3,false,47,[(vW n o p),(vW q r s),(vW t u v)]⟩,⟨8,false,151,[(vU x),(I y),(vW z A C),(vU D),(vU E),(I G),(I H)]⟩,⟨9,false,151,[(vU J),(I K),(vW L M N),(vU Q),(vU S),(I T),(I U)]⟩]
def aj.cx:Pm:=([((true,4),[2,3,5],[2,3]),((true,9),[2,3,6],[2,3]),((true,14),[2,3,7],[2,3]),((true,20),[2,3,7,8,9,10],[2,3,8,9])],[(16,9998,8)])
theorem aj.L4.step
  (h:(Br (p<(a:Int)) (Ix p a A fun Q=>(∃o q r s t u v,aa w (Q.add ((p).toNat*7)) [I o,I q,I r,vU s,vU t,vU u,vU v]/\(Ix p b C fun S=>(∃x y z J K L M,aa w (S.add ((p).toNat*7)) [I x,I y,I z,vU J,vU K,vU L,vU M]/\(Br (¬(o=x/\q=y/\r=z/\s=J/\t=K/\u=L/\v=M/\True)) (∀N,Ext B [] w N->(R (.bool false) N)) (aN .i64 (p+1)/\(∀O,Ext B [] w O->(aj.L4 (p+1) A a c D d e E f g C b i G j l H m n B O R)))))))) (aj.L9 (0:Int) A a c D d e E f g C b i G j l H m n B w R))):
  aj.L4 p A a c D d e E f g C b i G j l H m n B w R:=
 lr aj.cx func33 h
theorem aj.L9.step
  (h:(Br (p<(a:Int)) (Ix p a A fun Q=>(∃o q r s t u v,aa w (Q.add ((p).toNat*7)) [I o,vU q,vU r,vU s,vU t,vU u,vU v]/\(Ix p b C fun S=>(∃x y z J K L M,aa w (S.add ((p).toNat*7)) [I x,vU y,vU z,vU J,vU K,vU L,vU M]/\(Br (¬(o=x/\q=y/\r=z/\s=J/\t=K/\u=L/\v=M/\True)) (∀N,Ext B [] w N->(R (.bool false) N)) (aN .i64 (p+1)/\(∀O,Ext B [] w O->(aj.L9 (p+1) D c d A a e E f g G i j C b l H m n B O R)))))))) (aj.zb (0:Int) D c d A a e E f g G i j C b l H m n B w R))):
  aj.L9 p D c d A a e E f g G i j C b l H m n B w R:=
 lr aj.cx func33 h
theorem aj.zb.step
  (h:(Br (p<(a:Int)) (Ix p a C fun l0=>(∃s t J u K v x y z,aa w (l0.add ((p).toNat*7)) [vU s,I t,vW J u K,vU v,vU x,I y,I z]/\((Ix p b A fun d9=>((∀o,Ext B [] w o->(∃L M k N F O Q S T,aa o (d9.add ((p).toNat*7)) [vU L,I M,vW k N F,vU O,vU Q,I S,I T]/\(Br (s≠L) (∀P,Ext B [151] o P->(R (.bool false) P)) (Br (t≠M) (∀W,Ext B [151] o W->(R (.bool false) W)) (Br (v≠O) (∀e4,Ext B [151] o e4->(R (.bool false) e4)) (Br (x≠Q) (∀e5,Ext B [151] o e5->(R (.bool false) e5)) (Br (y≠S) (∀e6,Ext B [151] o e6->(R (.bool false) e6)) (Br (z≠T) (∀e7,Ext B [151] o e7->(R (.bool false) e7)) (Br ((u:Int)≠(N:Int)) (∀e8,Ext B [151] o e8->(R (.bool false) e8)) (∀e9,Ext B [151] o e9->(aj.CJ p (0:Int) D c d E e f C a g G i j H l m A b n s t J u K v x y z L M k N F O Q S T B e9 R)))))))))))/\(∀q,Ext B [151] w q->(∃U V g0 X g1 Y Z d0 d1,aa q (d9.add ((p).toNat*7)) [vU U,I V,vW g0 X g1,vU Y,vU Z,I d0,I d1]/\(Br (s≠U) (∀g2,Ext B [151] q g2->(R (.bool false) g2)) (Br (t≠V) (∀g3,Ext B [151] q g3->(R (.bool false) g3)) (Br (v≠Y) (∀g4,Ext B [151] q g4->(R (.bool false) g4)) (Br (x≠Z) (∀g5,Ext B [151] q g5->(R (.bool false) g5)) (Br (y≠d0) (∀g6,Ext B [151] q g6->(R (.bool false) g6)) (Br (z≠d1) (∀g7,Ext B [151] q g7->(R (.bool false) g7)) (Br ((u:Int)≠(X:Int)) (∀g8,Ext B [151] q g8->(R (.bool false) g8)) (∀g9,Ext B [151] q g9->(aj.CJ p (0:Int) D c d E e f C a g G i j H l m A b n s t J u K v x y z U V g0 X g1 Y Z d0 d1 B g9 R)))))))))))))/\(Ix p b A fun l1=>(∀r,Ext B [151] w r->(∃d2 d3 j0 d4 j1 d5 d6 d7 d8,aa r (l1.add ((p).toNat*7)) [vU d2,I d3,vW j0 d4 j1,vU d5,vU d6,I d7,I d8]/\(Br (s≠d2) (∀j2,Ext B [151] r j2->(R (.bool false) j2)) (Br (t≠d3) (∀j3,Ext B [151] r j3->(R (.bool false) j3)) (Br (v≠d5) (∀j4,Ext B [151] r j4->(R (.bool false) j4)) (Br (x≠d6) (∀j5,Ext B [151] r j5->(R (.bool false) j5)) (Br (y≠d7) (∀j6,Ext B [151] r j6->(R (.bool false) j6)) (Br (z≠d8) (∀j7,Ext B [151] r j7->(R (.bool false) j7)) (Br ((u:Int)≠(d4:Int)) (∀j8,Ext B [151] r j8->(R (.bool false) j8)) (∀j9,Ext B [151] r j9->(aj.CJ p (0:Int) D c d E e f C a g G i j H l m A b n s t J u K v x y z d2 d3 j0 d4 j1 d5 d6 d7 d8 B j9 R))))))))))))))) (R (.bool true) w))):
  aj.zb p D c d E e f C a g G i j H l m A b n B w R:=
 lr aj.cx func33 h
theorem aj.CJ.step
  (h:(Br (p<(a:Int)) (Ix p a J fun S=>(∃y,aa w (S.add ((p).toNat*1)) [vU y]/\(Ix p a0 K fun T=>(∃z,aa w (T.add ((p).toNat*1)) [vU z]/\(Br (y≠z) (∀O,Ext B [] w O->(R (.bool false) O)) (aN .i64 (p+1)/\(∀Q,Ext B [] w Q->(aj.CJ q (p+1) A b c C d e D f g E i j G l m H n o L r J a a1 M N s t N0 u K a0 a2 N1 N2 v x B Q R)))))))) (aN .i64 (q+1)/\(aj.zb (q+1) A b c C d e D f g E i j G l m H n o B w R)))):
  aj.CJ q p A b c C d e D f g E i j G l m H n o L r J a a1 M N s t N0 u K a0 a2 N1 N2 v x B w R:=
 lr aj.cx func33 h
theorem aj.vc
  (h:(Br ((c:Int)≠(f:Int)) (∀o,Ext w.heap.size [] w o->(R (.bool false) o)) (Br ((a:Int)≠(d:Int)) (∀p,Ext w.heap.size [] w p->(R (.bool false) p)) (Br ((b:Int)≠(e:Int)) (∀q,Ext w.heap.size [] w q->(R (.bool false) q)) (∀r,Ext w.heap.size [] w r->(aj.L4 (0:Int) A a g C b i D c j E d l G e m H f n w.heap.size r R)))))):
  Pure P 33 #[.agg #[vW A a g,vW C b i,vW D c j],.agg #[vW E d l,vW G e m,vW H f n]] w R:=
 pr aj.cx func33 h

def cB.L3(a:Int)(b:O)(c d:Nat)(e:O)(f g:Nat)(i:O)(j l:Nat)(m:O)(n o:Nat)(p:O)(q r:Nat)(s:O)(t u:Nat)(v:O)(x y:Nat)(z:O)(A C:Nat)(D:O)(E G:Nat):=Lt 50 f50 3 [vL 1,vL 2,vL 3,vI 4 a] [⟨1,false,47,[(vW b c d),(vW e f g),(vW i j l)]⟩,⟨2,false,47,[(vW m n o),(vW p q r),(vW s t u)]⟩,⟨3,false,47,[(vW v x y),(vW z A C),(vW D E G)]⟩]
def cB.cx:Pm:=([((true,3),[1,2,3,4],[1,2,3])],[(5,5,2),(6,0,2),(6,3,2),(7,3,2),(7,4,2)])
theorem cB.L3.step
  (h:(Br (p<(a:Int)) (Ix p a A fun a7=>(∃x y z L M N O Q S,aa w (a7.add ((p).toNat*7)) [vU x,I y,vW z L M,vU N,vU O,I Q,I S]/\(ae P (Instr.alloc 151 true (.tuple #[])) B [47,47,47] w fun W T=>∃(q:Addr),W= .pointer (some q)/\(∃(r:List Value)(s:Nat),B<=q.block/\q.spot=none/\T.heap[q.block]? =some (.cells r.toArray s (0,0))/\q.off+7<=r.length/\hasType s [⟨1,false,47,[vW G i j,vW H l m,vW A a n]⟩,⟨2,false,47,[vW J o a0,vW K a1 a2,vW A0 a3 a4]⟩,⟨3,false,47,[vW C b c,vW D d e,vW E f g]⟩]=false/\∀U,aG T U q.block s (setCells r q.off [vU x,I y,vW z L M,vU N,vU O,I Q,I S])->(ae P (Instr.buildSlice 30 0 #[]) B [47,47,47] U (Rs fun e4 e5 e6 V=>(∃X Y Z,aa V (q.add 2) [vW X Y Z]/\(ae P (Builtin.append_ #[30,30] 30 #[vW e4 e5 e6,vW X Y Z]) B [47,47,47] V (Rs fun e7 e8 e9 d0=>(∃(t:List Value)(u:Nat),B<=(q.add 2).block/\(q.add 2).spot=none/\d0.heap[(q.add 2).block]? =some (.cells t.toArray u (0,0))/\(q.add 2).off+1<=t.length/\hasType u [⟨1,false,47,[vW G i j,vW H l m,vW A a n]⟩,⟨2,false,47,[vW J o a0,vW K a1 a2,vW A0 a3 a4]⟩,⟨3,false,47,[vW C b c,vW D d e,vW E f g]⟩]=false/\∀v,aG d0 v (q.add 2).block u (setCells t (q.add 2).off [vW e7 e8 e9])->(∃d1 d2 d3 d4 d5 d6 d7 d8 d9,aa v q [vU d1,I d2,vW d3 d4 d5,vU d6,vU d7,I d8,I d9]/\(ae P (Instr.buildSlice 45 1 #[(0,(.agg #[vU d1,I d2,vW d3 d4 d5,vU d6,vU d7,I d8,I d9]))]) B [47,47,47] v (Rs fun g0 g1 g2 g3=>(ae P (Builtin.append_ #[45,45] 45 #[vW E f g,vW g0 g1 g2]) B [47,47,47] g3 (Rs fun g4 g5 g6 g7=>(aN .i64 (p+1)/\(∀k,Ext B [47] g7 k->(cB.L3 (p+1) G i j H l m A a n J o a0 K a1 a2 A0 a3 a4 C b c D d e g4 g5 g6 B k R)))))))))))))))))) (∀F,Ext B [47] w F->(R (.agg #[vW C b c,vW D d e,vW E f g]) F)))):
  cB.L3 p G i j H l m A a n J o a0 K a1 a2 A0 a3 a4 C b c D d e E f g B w R:=
 lr cB.cx func50 h
theorem cB.vc
  (h:(∀g,Ext w.heap.size [] w g->(Pure P 96 #[.agg #[vW A a b,vW C c d]] g (Rc fun j l m n o p q=>(∀i,Ext w.heap.size [] q i->(cB.L3 (0:Int) A a b C c d D e f none 0 0 none 0 0 none 0 0 j l m n o p none 0 0 w.heap.size i R)))))):
  Pure P 50 #[.agg #[vW A a b,vW C c d,vW D e f]] w R:=
 pr cB.cx func50 h

end Go.Proofs.YtmdphpnaipbfjaaGreatDoor.F

namespace Go.Proofs.YtmdphpnaipbfjaaGreatDoor.B
open Go Go.RowKit Go.Proofs Go.Proofs.YtmdphpnaipbfjaaGreatDoor.Vc

structure Ka (w:World) (A0:Option Addr) (n0 c0:Nat) (A1:Option Addr) (n1 c1:Nat) (A2:Option Addr) (n2 c2:Nat) (ps:List Pa) (hs:List Ho) (xs:List Rm):Prop where
 c:Fw w A0 n0 A1 n1 ps hs
 z0:A0=none->c0=0
 z1:A1=none->c1=0
 r:bW w A2 7 (xs.map Rm.row)
 l:xs.length=n2
 n:n2<9223372036854775808
 k:n2<=c2
 f:∀x∈xs,bW w x.A 1 (x.r.ph.map eD)/\x.r.ph.length=x.n/\x.n<9223372036854775808/\(x.A=none->x.c=0)
def Zs(r:Ru):Bool:=decide (r.name.size<=70/\r.low.size<=40/\r.high.size<=40/\r.ph.length<=8)&&r.ph.all fun s=>decide (s.size<=40)
def Zt(ps:List Pa)(hs:List Ho)(rs:List Ru):Bool:=rs.all Zs&&(aaX ps hs&&decide (rs.length<=17))
section
variable {w w':World} {A0 A1 A2:Option Addr} {n0 c0 n1 c1 n2 c2:Nat} {ps:List Pa} {hs:List Ho} {xs:List Rm}
theorem Ka.ar(h:Ka w A0 n0 c0 A1 n1 c1 A2 n2 c2 ps hs xs)(hb:Below w.heap.size w w'):Ka w' A0 n0 c0 A1 n1 c1 A2 n2 c2 ps hs xs:=
 ⟨h.c.ar hb,h.z0,h.z1,h.r.ar hb lf,h.l,h.n,h.k,fun x hx=>⟨(h.f x hx).1.ar hb lf,(h.f x hx).2⟩⟩
theorem Ka.uO(h:Ka w A0 n0 c0 A1 n1 c1 A2 n2 c2 ps hs xs)(hf:Zt ps hs (dW xs)=true):pT w A0 n0 A1 n1 A2 n2 c2 ps hs xs:=by
 unfold Zt at hf;rw[de,de]at hf;obtain⟨h1,e,a⟩:=hf;have a:=fs a;refine⟨h.c.uO e,h.r,h.l,fun x hx=> ?_,by unfold dW at a;rw[en,h.l]at a;exact a,h.k⟩;have b:=gu.1 h1 x.r (QL hx);unfold Zs at b;rw[de]at b;obtain⟨d,g⟩:=b;have d:=fs d;refine⟨(h.f x hx).1,(h.f x hx).2.1,⟨fun s i=> ?_,by unfold mO;omega,by unfold mO;omega,om,ec d.2.2.2 om⟩,(h.f x hx).2.2.2⟩;have:=fs (gu.1 g s i);unfold mO;omega
theorem M6:El Tryz.prog 45 151 7 96:=El.of kF
theorem ay.z{w:World}{B ty:Nat}{A:Option Addr}{n c sz:Nat}{rows:List (List Value)}(h:ay w B ty A n c sz rows)(a:A=none):c=0:=by
 subst a;rcases h.1.2 with⟨h1,_⟩|⟨g,cap,cur,h1,_⟩
 ·cases h1;rfl
 ·cases h1
def Kq(w w':World):Prop:=∀(i ty:Nat)(cs:Array Value),ty≠151->ty≠47->w.heap[i]? =some (.cells cs ty (0,0))->w'.heap[i]? =some (.cells cs ty (0,0))
theorem Kq.trans{w w1 a:World}(h:Kq w w1)(k:Kq w1 a):Kq w a:=fun i ty cs h1 b e=>k i ty cs h1 b (h i ty cs h1 b e)
theorem Kq.low{w w':World}(h:Below w.heap.size w w'):Kq w w':=fun i ty cs _ _ e=>ai e h
theorem Kq.ext{B:Nat}{w w':World}(x:Ext B [47] w w'):Kq w w':=fun i ty cs _ a e=>by
 rcases x.other i (ax.1 e).1 with q|⟨t,b,c,c',fr,q,_⟩
 ·exact q.trans e
 ·rw[e]at q;cases q;exact absurd (eb.1 b) a
theorem Kq.wrote{w w':World}{b:Nat}{cs a:List Value}(hw:aG w w' b 151 cs)(d:w.heap[b]? =some (.cells a.toArray 151 (0,0))):Kq w w':=fun i ty c h1 _ e=>by
 rw[hw.rest i fun q=> ?_]
 ·exact e
 ·subst q;rw[d]at e;cases e;exact h1 rfl
theorem Kq.grown{w w':World}{B:Nat}{A:Option Addr}{n c sz:Nat}{rows:List (List Value)}(ho:ay w B 151 A n c sz rows)(hg:w.grownBy w' (Value.ownBlock (.slice A n c))):Kq w w':=fun i ty cs h1 _ e=>by
 rw[hg.block i (ax.1 e).1 fun q=> ?_]
 ·exact e
 ·cases A with
  |none=>cases q
  |some a=>
   obtain⟨d,b⟩:=ho.cells a rfl;cases q;rw[e]at b;cases b;exact h1 rfl
theorem ay.kq{w w':World}{B ty:Nat}{A:Option Addr}{n c sz:Nat}{rows:List (List Value)}(h:ay w B ty A n c sz rows)(k:Kq w w')(h1:ty≠151)(b:ty≠47):ay w' B ty A n c sz rows:=
 h.other fun a ha=>by
  obtain⟨cs,e⟩:=h.cells a ha;rw[e];exact k _ _ _ h1 b e
structure Kb (w:World) (A0:Option Addr) (n0:Nat) (A1:Option Addr) (n1:Nat) (A2:Option Addr) (n2:Nat) (ps:List Pa) (hs:List Ho) (xs:List Rm):Prop where
 c:yR w A0 n0 A1 n1 ps hs
 r:bW w A2 7 (xs.map Rm.row)
 l:xs.length=n2
 n:n2*96<=140737488355328
 f:∀x∈xs,bW w x.A 1 (x.r.ph.map eD)/\x.r.ph.length=x.n/\x.n*16<=140737488355328/\(x.A=none->x.c=0)
theorem Kb.ar(h:Kb w A0 n0 A1 n1 A2 n2 ps hs xs)(hb:Below w.heap.size w w'):Kb w' A0 n0 A1 n1 A2 n2 ps hs xs:=
 ⟨h.c.ar hb,h.r.ar hb lf,h.l,h.n,fun x hx=>⟨(h.f x hx).1.ar hb lf,(h.f x hx).2⟩⟩
theorem pT.fit(h:pT w A0 n0 A1 n1 A2 n2 c2 ps hs xs):Kb w A0 n0 A1 n1 A2 n2 ps hs xs:=
 ⟨h.c.fit,h.r,h.l,by have:=h.n;omega,fun x hx=>⟨(h.f x hx).f,(h.f x hx).l,by have:=(h.f x hx).s.len;have:=(h.f x hx).l;omega,(h.f x hx).z⟩⟩
def CpR(B:Nat)(n0 n1 n2:Nat)(ps:List Pa)(hs:List Ho)(xs:List Rm)(v:Value)(w':World):Prop:=
 ∃B0 d0 a d1 b d2 ys,v= .agg #[.slice B0 n0 d0,.slice a n1 d1,.slice b n2 d2]/\ay w' B 145 B0 n0 d0 7 (ps.map Pa.row)/\ay w' B 149 a n1 d1 7 (hs.map Ho.row)/\
  ay w' B 151 b n2 d2 7 (ys.map Rm.row)/\dW ys=dW xs/\∀y∈ys,ay w' B 75 y.A y.n y.c 1 (y.r.ph.map eD)
theorem PZ(h:Kb w A0 n0 A1 n1 A2 n2 ps hs xs)(P:A0=none->c0=0)(Q:A1=none->c1=0):
  Pure Tryz.prog 50 #[.agg #[.slice A0 n0 c0,.slice A1 n1 c1,.slice A2 n2 c2]] w (CpR w.heap.size n0 n1 n2 ps hs xs):=by
 have hl:=h.l;have hn:=h.n;refine F.cB.vc fun w1 x1=> ?_
 have hw:=k0 x1;refine pm (Pc (h.ar hw).c P Q) ?_;rintro v w5 b5 ⟨B0,d0,B1,d1,rfl,o0,o1⟩;have pA:=kP hw b5;refine⟨_,_,_,_,_,_,rfl,fun w6 x6=> ?_⟩;have key:∀(d i:Nat)(C:Option Addr)(no co:Nat)(ys:List Rm)(w':World),n2 - i=d->i<=n2->Below w.heap.size w w'->Kq w5 w'->ay w' w.heap.size 151 C no co 7 (ys.map Rm.row)->dW ys=dW (xs.take i)->(∀y∈ys,ay w' w.heap.size 75 y.A y.n y.c 1 (y.r.ph.map eD))->
   F.cB.L3 i A0 n0 c0 A1 n1 c1 A2 n2 c2 none 0 0 none 0 0 none 0 0 B0 n0 d0 B1 n1 d1 C no co w.heap.size w' (CpR w.heap.size n0 n1 n2 ps hs xs):=by
  intro d;induction d with
  |zero=>
   intro i C no co ys w' hd hi hb N ho b hy;rw[cc om]at b;refine F.cB.L3.step ⟨fun h=>by omega,fun _ EE E=> ?_⟩;have g:=Kq.ext E;have ho:=ho.OQ E dc;have G:no=n2:=by
    have h1:=ho.len;rw[en]at h1;have:=ca List.length b;unfold dW at this;rw[en,en]at this;omega
   subst G;have hyl:ys.length=no:=by have:=ho.len;rwa [en]at this
   have p0:=o0.kq (N.trans g) dc dc;have p1:=o1.kq (N.trans g) dc dc;exact⟨_,_,_,_,_,_,ys,rfl,p0.base hw.size,p1.base hw.size,ho,b,fun y j=>(hy y j).kq g dc dc⟩
  |succ d ih=>
   intro i C no co ys w' hd hi hb N ho b hy;have R:i<xs.length:=om;have e3:=sc i;have QC:=h.f _ (bx R);obtain⟨S,Pf,aqJ,T⟩:=QC;have G:no=i:=by
    have h1:=ho.len;rw[en]at h1;have:=ca List.length b;unfold dW at this;rw[en,en,ep]at this;omega
   obtain⟨Sj,a,hA,k,_⟩:=(h.ar hb).r.at_ (fun _=>rfl) hl R;refine F.cB.L3.step ⟨fun _=>⟨Sj,a,hA,_,_,_,_,_,_,_,_,_,k,?_⟩,fun h=>by omega⟩;refine cK (z:= .agg #[.string ⟨#[]⟩,.int .i64 0,.slice none 0 0,.string ⟨#[]⟩,.string ⟨#[]⟩,.int .i64 0,.int .i64 0]) _ kF hb.size fun Du HC U l15=> ?_
   refine⟨[.string ⟨#[]⟩,.int .i64 0,.slice none 0 0,.string ⟨#[]⟩,.string ⟨#[]⟩,.int .i64 0,.int .i64 0],_,hb.size,rfl,HC,sm,rfl,fun e D=> ?_⟩;have V:=kP hb U;have H:Below w.heap.size w e:=V.trans (aG.eC D hb.size);have U2:Kq w' e:=(Kq.low U).trans (Kq.wrote D HC);have WZ:ay e w.heap.size 151 C no co 7 (ys.map Rm.row):=(ho.below U).other fun a ha=>D.rest _ fun q=>by
    have:=(ho.uN a ha).2;have q:a.block=w'.heap.size:=q;omega
   refine aW lD [] sm sm H.size fun Af cf zT of I=> ?_
   have W:=kP H I;have X:=ai D.at_ I;refine⟨_,_,_,bz X rfl,?_⟩;refine zX lD (B:=e.heap.size) H.size (by simpa using of) (S.ar W lf) (by simpa using Pf) (fun r b=>by obtain⟨s,_,rfl⟩:=iu.1 b;rfl) (fun r b=>by obtain⟨s,_,rfl⟩:=iu.1 b;intro u hu;simp[eD]at hu;subst hu;rfl) T I.size (by simp;omega) (by simp;omega) dc fun Ag cg BN Y gg bg=> ?_
   simp only[za,mC,u0]at Y⊢;have O:Below e.heap.size e BN:=I.trans (TU (B:=e.heap.size) (by simpa using of) gg I.size);have Z:=kP H O;have Zu:=ai D.at_ O;have aky:=WZ.below O;have e2:(⟨w'.heap.size,0,none⟩:Addr).add 2=⟨w'.heap.size,2,none⟩:=by rw[ct]
   rw[e2];refine⟨_,_,hb.size,rfl,Zu,by simp[setCells],rfl,fun Im J=> ?_⟩;have K:Below w.heap.size w Im:=Z.trans (aG.eC J hb.size);have L:Kq e Im:=(Kq.low O).trans (Kq.wrote J Zu);have M:ay Im w.heap.size 151 C no co 7 (ys.map Rm.row):=aky.other fun a ha=>J.rest _ fun q=>by
    have:=(ho.uN a ha).2;have q:a.block=w'.heap.size:=q;omega
   have akz:=Y.other fun a ha=>J.rest _ fun q=>by
    have:=(Y.uN a ha).1;have q:a.block=w'.heap.size:=q;have:=D.size;omega
   refine⟨_,_,_,_,_,_,_,_,_,fy J.at_,?_⟩;refine SC M6 lf M (x:=Rm.val ⟨xs[i].r,Ag,xs[i].n,cg⟩) rfl (by simp[Value.cells,bk]) K.size om om dc fun A3 c3 w43 YM g43 QA=>⟨ir,fun w44 m=> ?_⟩
   have k43:=Kq.grown M g43;have o:=(k43.trans (Kq.ext m));rw[e3];refine ih (i+1) A3 (no+1) c3 (ys++[⟨xs[i].r,Ag,xs[i].n,cg⟩]) w44 om om (kE (K.trans QA) m) (((N.trans U2).trans L).trans o) ?_ ?_ ?_
   ·rw[eh];exact YM.OQ m dc
   ·rw[<-Cd R,<-b];unfold dW;rw[eh];rfl
   ·intro y j;rcases fJ.1 j with j|j
    ·exact(hy y j).kq ((U2.trans L).trans o) dc dc
    ·rw[eb.1 j];exact(akz.kq o dc dc).base H.size
 exact key n2 0 none 0 0 [] w6 rfl om (kE pA x6) (Kq.low (NC x6)) ay.nil rfl sm
end

theorem bA.low{ty:Nat}{w w':World}(hb:Below w.heap.size w w'):bA ty w w':=fun _ _ _ _ _ a=>ai a hb
theorem bA.ext{B ty:Nat}{w w':World}(x:Ext B [ty] w w'):bA ty w w':=fun q t cs fr a b=>by
 rcases x.other q (ax.1 b).1 with e|⟨t',d,c,c',g,e,_⟩
 ·exact e.trans b
 ·rw[b]at e;cases e;exact absurd (eb.1 d) a
theorem bA.trans{ty:Nat}{w w1 b:World}(s:bA ty w w1)(t:bA ty w1 b):bA ty w b:=fun q u cs fr a d=>t q u cs fr a (s q u cs fr a d)
theorem TV(l:List Pa):(∀r∈l.map Pa.row,r.length=7)/\∀r∈l.map Pa.row,∀u∈r,bk u=true:=fH (fun _=>rfl) (fun x u h=>by simp only[Pa.row,cb,eH,oP]at h;rcases h with rfl|rfl|rfl|rfl|rfl|rfl|rfl<;>rfl)
theorem TW(l:List Ho):(∀r∈l.map Ho.row,r.length=7)/\∀r∈l.map Ho.row,∀u∈r,bk u=true:=fH (fun _=>rfl) (fun x u h=>by simp only[Ho.row,cb,eH,oP]at h;rcases h with rfl|rfl|rfl|rfl|rfl|rfl|rfl<;>rfl)
theorem TX(l:List Rm):(∀r∈l.map Rm.row,r.length=7)/\∀r∈l.map Rm.row,∀u∈r,bk u=true:=fH (fun _=>rfl) (fun x u h=>by simp only[Rm.row,cb,eH,oP]at h;rcases h with rfl|rfl|rfl|rfl|rfl|rfl|rfl<;>rfl)
section
variable {w:World} {A:Option Addr} {n c:Nat} {k:Ca} {xs:List Rm} {x:Cm}
theorem Xb{l:List Pa}(h:bW w A 7 (l.map Pa.row))(hlen:l.length=n)(hn:n<=1000000):
  Pure Tryz.prog 81 #[.slice A n c] w fun v w'=>∃A' c',v= .slice A' n c'/\ay w' w.heap.size 145 A' n c' 7 (l.map Pa.row):=
 F.eO.vc (fW (R:=fun v w'=>∃A' c',v= .slice A' n c'/\ay w' w.heap.size 145 A' n c' 7 (l.map Pa.row)) Hf h (by simpa using hlen) (TV l).1 (TV l).2 om fun A' c' w' o=>⟨A',c',rfl,o⟩)
theorem Xc{l:List Ho}(h:bW w A 7 (l.map Ho.row))(hlen:l.length=n)(hn:n<=1000000):
  Pure Tryz.prog 82 #[.slice A n c] w fun v w'=>∃A' c',v= .slice A' n c'/\ay w' w.heap.size 149 A' n c' 7 (l.map Ho.row):=
 F.fC.vc (fW (R:=fun v w'=>∃A' c',v= .slice A' n c'/\ay w' w.heap.size 149 A' n c' 7 (l.map Ho.row)) Hg h (by simpa using hlen) (TW l).1 (TW l).2 om fun A' c' w' o=>⟨A',c',rfl,o⟩)
theorem Xd{l:List Rm}(h:bW w A 7 (l.map Rm.row))(hlen:l.length=n)(hn:n<=1000000):
  Pure Tryz.prog 83 #[.slice A n c] w fun v w'=>∃A' c',v= .slice A' n c'/\ay w' w.heap.size 151 A' n c' 7 (l.map Rm.row):=
 F.fD.vc (fW (R:=fun v w'=>∃A' c',v= .slice A' n c'/\ay w' w.heap.size 151 A' n c' 7 (l.map Rm.row)) M6 h (by simpa using hlen) (TX l).1 (TX l).2 om fun A' c' w' o=>⟨A',c',rfl,o⟩)
theorem HN(l:List Sw):(∀r∈l.map Sw.row,r.length=3)/\∀r∈l.map Sw.row,∀u∈r,bk u=true:=fH (fun _=>rfl) (fun x u h=>by simp only[Sw.row,cb,eH,oP]at h;rcases h with rfl|rfl|rfl<;>rfl)
theorem Xe{l:List Sw}(h:bW w A 3 (l.map Sw.row))(hlen:l.length=n)(hn:n<=1000000):
  Pure Tryz.prog 85 #[.slice A n c] w fun v w'=>∃A' c',v= .slice A' n c'/\ay w' w.heap.size 123 A' n c' 3 (l.map Sw.row):=
 F.fF.vc (fW (R:=fun v w'=>∃A' c',v= .slice A' n c'/\ay w' w.heap.size 123 A' n c' 3 (l.map Sw.row)) TR h (by simpa using hlen) (HN l).1 (HN l).2 om fun A' c' w' o=>⟨A',c',rfl,o⟩)
theorem Kc(h:vX w k xs x)(ok:eA x):
  Pure Tryz.prog 41 #[k.val x] w fun v w'=>∃D Q,v=D.val x/\fa w' w.heap.size D Q x:=by
 have lp:=ok.lp;have lh:=ok.lh;have lr:=ok.lr;have ls:=ok.ls;have lw:=ok.lw;have lc:=ok.lc;have lv:=ok.lv;have la:=ok.la;have ll:=ok.ll;have lg:=ok.lg;have lq:=ok.lq;have np:=h.np;have nh:=h.nh;have nr:=h.nr;have ns:=h.ns;have nw:=h.nw;have nc:=h.nc;have nv:=h.nv;have na:=h.na;have nl:=h.nl;have ng:=h.ng;have nq:=h.nq;have nx:xs.length=k.r.n:=by rw[<-nr,<-h.e,en]
 refine F.dj.vc fun w1 x1=>pm (Xb (h.p.below (k0 x1)) np om) ?_
 have dn:=k0 x1;rintro v w4 b4 ⟨A2,c2,rfl,E⟩;have R:=kP dn b4;refine⟨_,_,_,rfl,pm (Xc (h.h.below R) nh om) ?_⟩;rintro v w7 b7 ⟨A5,c5,rfl,G⟩;have S:=kP R b7;refine⟨_,_,_,rfl,pm (Xd (h.r.below S) nx om) ?_⟩;rintro v kg T ⟨U,V,rfl,z⟩;have uc:=kP S T;refine⟨_,_,_,rfl,fun wS FJ=> ?_⟩;have tO:=kE uc FJ;have W:bA 57 kg wS:=bA.ext FJ;have key:∀(d i:Nat)(ys:List Rm)(w':World),k.r.n - i=d->i<=k.r.n->Below w.heap.size w w'->ys.length=i->dW ys=dW (xs.take i)->ay w' w.heap.size 145 A2 k.p.n c2 7 (x.ps.map Pa.row)->ay w' w.heap.size 149 A5 k.h.n c5 7 (x.hs.map Ho.row)->
   ay w' w.heap.size 151 U k.r.n V 7 ((ys++xs.drop i).map Rm.row)->(∀y∈ys,abE w' w.heap.size y)->
   F.dj.L4 k.r.n i A2 k.p.n c2 A5 k.h.n c5 U k.r.n V k.s.A k.s.n k.s.c k.w.A k.w.n k.w.c x.cO k.c.A k.c.n k.c.c k.v.A k.v.n k.v.c k.a.A k.a.n k.a.c k.l.A k.l.n k.l.c k.g.A k.g.n k.g.c k.q.A k.q.n k.q.c x.last x.tick none 0 0 none 0 0 none 0 0 none 0 0 none 0 0 0 none 0 0 none 0 0 none 0 0 none 0 0 none 0 0 none 0 0 0 0 w.heap.size w' (fun v w'=>∃D Q,v=D.val x/\fa w' w.heap.size D Q x):=by
  intro d;induction d with
  |zero=>
   intro i ys w' hd hi hb b N E G z of;have lA:i=k.r.n:=om;rw[dd om,vB]at z;rw[cc om]at N;refine F.dj.L4.step ⟨fun q=>by omega,fun _ uA Pw=> ?_⟩;have X:=kE hb Pw;have Y:bA 57 w' uA:=bA.low (extAll Pw);refine pm (SP (h.s.below X) ns om) ?_;rintro v Wg KR ⟨Z,c23,rfl,o23⟩;have sX:=kP X KR;refine⟨_,_,_,rfl,pm (Xe (h.pl.below sX) nw om) ?_⟩;rintro v BK Qz ⟨A26,c26,rfl,B⟩;have uL:=kP sX Qz;refine⟨_,_,_,rfl,fun Ey H=> ?_⟩;have Me:=kE uL H;have s29:bA 57 BK Ey:=bA.ext H;refine pm (Wu (h.c.below Me) nc om) ?_;rintro v UK U1 ⟨A30,c30,rfl,Zo⟩;have BP:=kP Me U1;refine⟨_,_,_,rfl,pm (Wt (h.v.below BP) nv om) ?_⟩;rintro v w35 QG ⟨A33,c33,rfl,o33⟩;have EO:=kP BP QG;refine⟨_,_,_,rfl,fun Zq I=> ?_⟩;have C:=kE EO I;have s36:bA 57 w35 Zq:=bA.ext I;refine pm (Wq (h.a.below C) na om) ?_;rintro v w39 Zv ⟨A37,c37,rfl,o37⟩;have Kf:=kP C Zv;refine⟨_,_,_,rfl,pm (Hr (h.l.below Kf) nl om) ?_⟩;rintro v w42 J ⟨A40,c40,rfl,FF⟩;have P0:=kP Kf J;refine⟨_,_,_,rfl,fun w43 K=> ?_⟩;have HO:=kE P0 K;have s43:bA 57 w42 w43:=bA.ext K;refine pm (Wr (h.g.below HO) ng om) ?_;rintro v w46 TY ⟨A44,c44,rfl,M5⟩;have Kg:=kP HO TY;refine⟨_,_,_,rfl,pm (Ws (h.q.below Kg) nq om) ?_⟩;rintro v YB YU ⟨A47,c47,rfl,o47⟩;have MG:=kP Kg YU;refine⟨_,_,_,rfl,fun Zw x50=> ?_⟩;have UO:bA 57 YB Zw:=bA.ext x50;have t46:=(bA.low YU).trans UO;have t42:=(s43.trans (bA.low TY)).trans t46;have t39:=(bA.low J).trans t42;have t35:=(s36.trans (bA.low Zv)).trans t39;have t32:=(bA.low QG).trans t35;have t28:=(s29.trans (bA.low U1)).trans t32;have t25:=(bA.low Qz).trans t28;have t0:=(Y.trans (bA.low KR)).trans t25;refine⟨⟨⟨A2,k.p.n,c2⟩,⟨A5,k.h.n,c5⟩,⟨U,k.r.n,V⟩,⟨Z,k.s.n,c23⟩,⟨A26,k.w.n,c26⟩,⟨A30,k.c.n,c30⟩,⟨A33,k.v.n,c33⟩,⟨A37,k.a.n,c37⟩,⟨A40,k.l.n,c40⟩,⟨A44,k.g.n,c44⟩,⟨A47,k.q.n,c47⟩⟩,ys,rfl,?_⟩;exact⟨E.bH t0 dc,G.bH t0 dc,z.bH t0 dc,fun y hy=>⟨(of y hy).o.bH t0 dc⟩,N.trans h.e,(o23.bH t25 dc).base X.size,((B.bH t28 dc).base sX.size).slT,nw,⟨B.jZ,B.th⟩,(Zo.bH t32 dc).base Me.size,(o33.bH t35 dc).base BP.size,(o37.bH t39 dc).base C.size,
    (FF.bH t42 dc).base Kf.size,(M5.bH t46 dc).base HO.size,(o47.bH UO dc).base Kg.size⟩
  |succ d ih=>
   intro i ys w' hd hi hb b N E G z of;have bK:i<xs.length:=om;have O:=h.f _ (bx bK);have hlen:(ys++xs.drop i).length=k.r.n:=by rw[dp,wo];omega
   have Xf:(ys++xs.drop i)[i]'om=xs[i]:=by rw[List.getElem_append_right om];simp[b]
   obtain⟨q1,a,q2,_,q3⟩:=z.sl.at_ (row:=Rm.row) (fun _=>rfl) hlen (i:=i) om;rw[Xf]at q3;refine F.dj.L4.step ⟨fun _=>⟨q1,a,q2,_,_,_,q3 2 _ rfl,fun CV L=> ?_⟩,fun q=>by omega⟩;have tj:=kE hb L;have sl:=O.s.len;have fl:=O.l;refine pm (Oc (O.f.below tj) O.l om) ?_;rintro v BG M ⟨j,m,rfl,Zj⟩;have ER:=kP tj M;have o8':=(z.below (extAll L)).below M;obtain⟨p1,a',p2,cs,r1,r2,r3,r4,r5⟩:=o8'.set (i:=(i:Int)) q1.1 q1.2 2 [.slice j xs[i].n m] (Rm.row xs[i]) (by
    rw[cd,ow,af om,Xf];rfl) sm
   refine⟨_,_,_,rfl,p1,a',p2,cs,_,r1,r2,r3,r4,rfl,fun EI wY=>⟨ir,?_⟩⟩;have af0:=ER.trans (aG.eC wY r1);have P:=bA.wrote wY r3;rw[show(i:Int)+1=((i+1:Nat):Int) by omega];refine ih (i+1) (ys++[⟨xs[i].r,j,xs[i].n,m⟩]) EI om om af0 (by simp[b]) ?_ (((E.below (extAll L)).below M).bH P dc) (((G.below (extAll L)).below M).bH P dc) ?_ ?_
   ·rw[<-Cd bK,<-N];unfold dW;rw[eh];rfl
   ·have o:=r5 EI wY;rw[cd]at o;have e:((ys++xs.drop i).map Rm.row).set i (setCells (Rm.row xs[i]) 2 [.slice j xs[i].n m])=((ys++[(⟨xs[i].r,j,xs[i].n,m⟩:Rm)])++xs.drop (i+1)).map Rm.row:=by
     rw[cy bK,eh,B4 _ _ (by simp[b]),DM,en,b,NW,NZ,fi,eh];rfl
    rw[e]at o;exact o
   ·intro y hy;rcases fJ.1 hy with hy|hy
    ·exact⟨(((of y hy).o.below (extAll L)).below M).bH P dc⟩
    ·rw[eb.1 hy];exact⟨(Zj.bH P dc).base tj.size⟩
 refine key k.r.n 0 [] wS rfl om tO rfl rfl ?_ ?_ ?_ sm
 ·exact(((E.below b7).below T).bH W dc).base dn.size
 ·exact((G.below T).bH W dc).base R.size
 ·exact(z.bH W dc).base S.size
end

def mq(x:Cm)(e:Ev):Cm×Int:=match e.nums,e.bS,e.texts with
 |[a],[g,o,l,h,r],[n]=>
  if(iK (x.jJ++[⟨a,n,g,o,l,h,r⟩])).2≠0 then(x,(iK (x.jJ++[⟨a,n,g,o,l,h,r⟩])).2)
  else({x with jJ:=x.jJ++[⟨a,n,g,o,l,h,r⟩],ye:=x.ye++[⟨a,0,0,⟨#[48]⟩⟩]},0)
 |_,_,_=>(x,1)
def wg(x:Cm)(e:Ev):Cm×Int:=match e.nums,e.bS,e.texts with
 |[a,c,p,d,z],[s,r],[t]=>
  if z≠0/\z≠1 then(x,1)
  else if(pE (x.gw++[⟨a,c,p,d,decide (z=1),s,r,t⟩])).2≠0 then(x,(pE (x.gw++[⟨a,c,p,d,decide (z=1),s,r,t⟩])).2)
  else({x with gw:=x.gw++[⟨a,c,p,d,decide (z=1),s,r,t⟩],pL:=x.pL++[⟨a,0,e.tick⟩]},0)
 |_,_,_=>(x,1)
section
variable {w0 w:World} {b:Nat} {k:Ca} {xs:List Rm} {x:Cm} {ea:Ea} {e:Ev}
theorem P1(hg:bj w0)(hb:Below w0.heap.size w0 w)(h:Wk w w0.heap.size b k xs x)(ok:eA x)(he:mZ w0 ea e)(hn:e.nums.length=3)(V:e.texts.length=3):
  ba Tryz.prog 70 #[.pointer (some ⟨b,0,none⟩),ea.val e] w0.heap.size w (M0 (vZ x e) w0.heap.size b):=by
 obtain⟨id,tick,kind,nums,bS,texts⟩:=e;obtain⟨kd,a,c,rfl⟩:=W5 hn;obtain⟨n,lo,hi,rfl⟩:=W5 V;have sr:=he.sr;have mr:=he.mr;have st:=he.st;simp only[cb,eH,oP,vd,KI]at st;unfold vZ;dsimp only;have lr:=ok.lr;have ls:=ok.ls;have lp:=ok.lp;have lh:=ok.lh;refine F.sj.sV hb.size fun w1 x1=> ?_
 have O:=kE hb x1;have h1:=h.below (extAll x1);have z:=he.ar O;have C:=fun(i:Nat) (hi:i<3)=>z.n.at_ (row:=fO) (fun _=>rfl) z.ln (i:=i) hi
 have D:=fun(i:Nat) (hi:i<3)=>z.t.at_ (row:=eD) (fun _=>rfl) z.lt (i:=i) hi
 obtain⟨p1,W,q1,c1,_⟩:=D 0 om;obtain⟨p2,a2,X,c2,_⟩:=C 0 om;obtain⟨p3,a3,Y,c3,_⟩:=D 1 om;obtain⟨Z,a4,q4,c4,_⟩:=D 2 om;obtain⟨p5,a5,q5,c5,_⟩:=C 1 om;obtain⟨p6,a6,q6,c6,_⟩:=C 2 om;refine⟨_,_,_,bD h1.box 2 1,p1,W,q1,_,c1,p2,a2,X,_,c2,p3,a3,Y,_,c3,Z,a4,q4,_,c4,p5,a5,q5,_,c5,p6,a6,q6,_,c6,fun Du P=> ?_⟩;have HC:=h1.below (extAll P);have E:=kE O P;have A:=he.ar E;refine pm (Oc A.r A.lr (by have:=A.lr;show ea.r.n<=_;have:bS.length=ea.r.n:=A.lr;omega)) ?_;rintro v Eh Q ⟨G,H,rfl,I⟩;have d:=HC.below Q;have R:=kP E Q;have I:=I.base (B:=w0.heap.size) E.size;have nr:=d.o.r.rows;have S:=d.o.e;have nrs:xs.length=x.rs.length:=by rw[<-S,en]
 refine⟨_,_,_,rfl,jB M6 d.o.r (val:= .agg #[.string n,.int .i64 kd,.slice G ea.r.n H,.string lo,.string hi,.int .i64 a,.int .i64 c]) rfl (by simp[Value.cells,bk]) R.size om dc fun A' c' wK J j Ik=> ?_⟩;have T:=j _ _ _ _ dc d.box;refine eK T d.hB 2 1 (by show 3<=14;omega) rfl fun BN K=> ?_
 have U:=(R.trans Ik).trans (aG.eC K d.hB);have UU:=bA.wrote K T;obtain⟨g1,g2,_,g4,g5,g6,g7,g8,g9,g10,g11,g12⟩:=d.o.MZ j;have f24:=g4 dc;have L:fa wK w0.heap.size {k with r:=⟨A',k.r.n+1,c'⟩} (xs++[⟨⟨n,kd,bS,lo,hi,a,c⟩,G,ea.r.n,H⟩]) {x with rs:=x.rs++[⟨n,kd,bS,lo,hi,a,c⟩]}:=
  ⟨g1 dc,g2 dc,by rw[eh];exact J,fun y hy=>by
   rcases fJ.1 hy with hy|hy
   ·exact f24 y hy
   ·rw[eb.1 hy];exact⟨I.bH j dc⟩,by show List.map Rm.r (xs++_)=_;rw[eh];show dW xs++_=_;rw[S];rfl,g5 dc,g6 dc,d.o.nw,d.o.cw,g7 dc,g8 dc,g9 dc,g10 dc,g11 dc,g12 dc⟩
 have g:Wk BN w0.heap.size b {k with r:=⟨A',k.r.n+1,c'⟩} (xs++[⟨⟨n,kd,bS,lo,hi,a,c⟩,G,ea.r.n,H⟩]) {x with rs:=x.rs++[⟨n,kd,bS,lo,hi,a,c⟩]}:=⟨K.at_,d.hB,L.bH UU⟩;have l:∀y∈x.rs++[(⟨n,kd,bS,lo,hi,a,c⟩:Ru)],Td y:=fun y hy=>by
  rcases fJ.1 hy with hy|hy
  ·exact ok.sr y hy
  ·rw[eb.1 hy];exact⟨fun s hs=>by have:=sr s hs;show s.size<=1000;omega,by show lo.size<=1000;omega,by show hi.size<=1000;omega,by show n.size<_;omega,mr⟩
 have m:(x.rs++[(⟨n,kd,bS,lo,hi,a,c⟩:Ru)]).length<=17:=by rw[dp];simp;omega
 have i27:=g.o.ze l;refine⟨_,_,_,_,_,_,_,_,_,bD g.box 0 3,pm (yb (hg.next U) (i27.pr ok.sp ok.sh (by show x.ps.length<=7;omega) (by show x.hs.length<=7;omega) m)) ?_⟩;rw[i27.e];rintro v KQ M rfl;refine⟨_,_,rfl,fun q=> ?_,fun N=> ?_⟩
 ·rw[bm q];exact⟨rfl,fun N=>absurd N q⟩
 rw[aq N];refine pm (wN (hg.next (kP U M)) (g.below M) l ok.sp ok.sh (by show x.ps.length<=7;omega) (by show x.hs.length<=7;omega) m (by show x.gK.length<=40;omega)) ?_;rintro v SN Px rfl;exact⟨_,rfl,rfl,fun _=>⟨_,_,(g.below M).below Px⟩⟩
theorem HP(hg:bj w0)(hb:Below w0.heap.size w0 w)(h:Wk w w0.heap.size b k xs x)(ok:eA x)(he:mZ w0 ea e)(hn:e.nums.length=1)(hr:e.bS.length=5)(ht:e.texts.length=1):
  ba Tryz.prog 71 #[.pointer (some ⟨b,0,none⟩),ea.val e] w0.heap.size w (M0 (mq x e) w0.heap.size b):=by
 obtain⟨id,tick,kind,nums,bS,texts⟩:=e;obtain⟨a,rfl⟩:=DQ hn;obtain⟨g,o,l,m,r,rfl⟩:=abL hr;obtain⟨n,rfl⟩:=DQ ht;have sr:=he.sr;have st:=he.st;simp only[cb,eH,oP,vd,KI]at sr st;unfold mq;dsimp only;have lc:=ok.lc;have lv:=ok.lv;refine F.oC.sV hb.size fun w1 x1=> ?_
 have S:=kE hb x1;have h1:=h.below (extAll x1);have q:=he.ar S;have z:=fun(i:Nat) (hi:i<5)=>q.r.at_ (row:=eD) (fun _=>rfl) q.lr (i:=i) hi
 obtain⟨p1,I,q1,c1,_⟩:=q.n.at_ (row:=fO) (fun _=>rfl) q.ln (i:=0) sm;obtain⟨p2,a2,q2,c2,_⟩:=q.t.at_ (row:=eD) (fun _=>rfl) q.lt (i:=0) sm;obtain⟨p3,a3,q3,c3,_⟩:=z 0 om;obtain⟨p4,a4,q4,c4,_⟩:=z 1 om;obtain⟨p5,a5,q5,c5,_⟩:=z 2 om;obtain⟨p6,a6,q6,c6,_⟩:=z 3 om;obtain⟨p7,a7,q7,c7,_⟩:=z 4 om;refine⟨_,_,_,bD h1.box 6 1,p1,I,q1,_,c1,p2,a2,q2,_,c2,p3,a3,q3,_,c3,p4,a4,q4,_,c4,p5,a5,q5,_,c5,p6,a6,q6,_,c6,p7,a7,q7,_,c7,fun BG T=> ?_⟩;have d:=h1.below (extAll T);have U:=kE S T;have nc:=d.o.c.rows;have nv:=d.o.v.rows;refine jB Mu d.o.c (val:= .agg #[.int .i64 a,.string n,.string g,.string o,.string l,.string m,.string r]) rfl (by simp[Value.cells,bk]) U.size om dc fun A' c' zT J A Am=> ?_
 have V:=A _ _ _ _ dc d.box;refine eK V d.hB 6 1 (by show 7<=14;omega) rfl fun Fu K=> ?_
 have W:=(U.trans Am).trans (aG.eC K d.hB);have L:=bA.wrote K V;obtain⟨g1,g2,g3,g4,g5,g6,_,g8,g9,g10,g11,g12⟩:=d.o.MZ A;have M:fa zT w0.heap.size {k with c:=⟨A',k.c.n+1,c'⟩} xs {x with jJ:=x.jJ++[⟨a,n,g,o,l,m,r⟩]}:=
  ⟨g1 dc,g2 dc,g3 dc,g4 dc,d.o.e,g5 dc,g6 dc,d.o.nw,d.o.cw,by rw[eh];exact J,g8 dc,g9 dc,g10 dc,g11 dc,g12 dc⟩
 have H:Wk Fu w0.heap.size b {k with c:=⟨A',k.c.n+1,c'⟩} xs {x with jJ:=x.jJ++[⟨a,n,g,o,l,m,r⟩]}:=⟨K.at_,d.hB,M.bH L⟩;have sc:∀y∈x.jJ++[(⟨a,n,g,o,l,m,r⟩:Ch)],KS y:=fun y hy=>by
  rcases fJ.1 hy with hy|hy
  ·exact ok.sc y hy
  ·rw[eb.1 hy];exact⟨by show n.size<_;omega,by show g.size<=1000;omega,by show o.size<=1000;omega,by show l.size<=1000;omega,by show m.size<=1000;omega,by show r.size<=1000;omega⟩
 have N:=H.o.c.rows;refine⟨_,_,_,bD H.box 6 1,pm (dz (hg.next W) H.o.c.sl N sc) ?_⟩;rintro v NQ X rfl;have B:=H.below X;have Y:=kP W X;have C:=he.ar Y;refine⟨_,_,rfl,fun D=> ?_,fun O=> ?_⟩
 ·rw[bm D];exact⟨rfl,fun O=>absurd O D⟩
 rw[aq O];obtain⟨p1,I,q1,c1,_⟩:=C.n.at_ (row:=fO) (fun _=>rfl) C.ln (i:=0) sm;refine⟨_,_,_,bD B.box 7 1,p1,I,q1,_,c1,fun w35 E=> ?_⟩;have j:=B.below (extAll E);have EO:=kE Y E;refine jB Mt j.o.v (val:= .agg #[.int .i64 a,.int .i64 0,.int .i64 0,.string ⟨#[48]⟩]) rfl (by simp[Value.cells,bk]) EO.size (by show(k.v.n+1)*_<=_;omega) dc fun A2 c2 RX P G b41=> ?_
 have Z:=G _ _ _ _ dc j.box;refine eK Z j.hB 7 1 (by show 8<=14;omega) rfl fun w44 JZ=> ?_
 have Q:=bA.wrote JZ Z;obtain⟨g1,g2,g3,g4,g5,g6,g7,_,g9,g10,g11,g12⟩:=j.o.MZ G;have R:fa RX w0.heap.size {k with c:=⟨A',k.c.n+1,c'⟩,v:=⟨A2,k.v.n+1,c2⟩} xs {x with jJ:=x.jJ++[⟨a,n,g,o,l,m,r⟩],ye:=x.ye++[⟨a,0,0,⟨#[48]⟩⟩]}:=
  ⟨g1 dc,g2 dc,g3 dc,g4 dc,j.o.e,g5 dc,g6 dc,j.o.nw,j.o.cw,g7 dc,by rw[eh];exact P,g9 dc,g10 dc,g11 dc,g12 dc⟩
 exact⟨rfl,fun _=>⟨{k with c:=⟨A',k.c.n+1,c'⟩,v:=⟨A2,k.v.n+1,c2⟩},xs,JZ.at_,j.hB,R.bH Q⟩⟩
theorem P2(hg:bj w0)(hb:Below w0.heap.size w0 w)(h:Wk w w0.heap.size b k xs x)(ok:eA x)(he:mZ w0 ea e)(hn:e.nums.length=5)(hr:e.bS.length=2)(ht:e.texts.length=1):
  ba Tryz.prog 72 #[.pointer (some ⟨b,0,none⟩),ea.val e] w0.heap.size w (M0 (wg x e) w0.heap.size b):=by
 obtain⟨id,tick,kind,nums,bS,texts⟩:=e;obtain⟨a,c,p,d,z,rfl⟩:=abL hn;obtain⟨s,r,rfl⟩:=LQ hr;obtain⟨t,rfl⟩:=DQ ht;have sr:=he.sr;have st:=he.st;simp only[cb,eH,oP,vd,KI]at sr st;unfold wg;dsimp only;have la:=ok.la;have ll:=ok.ll;have na:=h.o.a.rows;have nl:=h.o.l.rows;have A:=fun {w':World} (xU:Below w0.heap.size w0 w') (i:Nat) (hi:i<5)=>(he.ar xU).n.at_ (row:=fO) (fun _=>rfl) he.ln (i:=i) hi
 obtain⟨L,a0,K,_,_⟩:=A hb 4 om;refine F.sk.sV hb.size ⟨L,a0,K,fun w2 x2=> ?_⟩;have W:=h.below (extAll x2);have B:=kE hb x2;have g:=he.ar B;obtain⟨p5,a5,X,c5,_⟩:=A B 4 om;rw[K]at X;cases X;refine⟨_,c5,fun z0=>⟨L,a0,K,_,c5,fun z1=> ?_,fun z1=> ?_⟩,fun z0=> ?_⟩
 ·rw[bm ⟨z0,z1⟩];exact⟨rfl,fun h=>absurd (show(1:Int)=0 from h) dc⟩
 all_goals
  rw[aq (by
   first
    |exact fun k=>z1 k.2
    |exact fun k=>z0 k.1)]
  obtain⟨p1,M,q1,c1,_⟩:=A B 0 om;obtain⟨p2,a2,q2,c2,_⟩:=A B 1 om;obtain⟨p3,a3,q3,c3,_⟩:=A B 2 om;obtain⟨p4,a4,q4,c4,_⟩:=A B 3 om;obtain⟨p6,a6,q6,c6,_⟩:=g.r.at_ (row:=eD) (fun _=>rfl) g.lr (i:=0) sm;obtain⟨p7,a7,q7,c7,_⟩:=g.r.at_ (row:=eD) (fun _=>rfl) g.lr (i:=1) sm;obtain⟨p8,a8,q8,c8,_⟩:=g.t.at_ (row:=eD) (fun _=>rfl) g.lt (i:=0) sm;refine⟨_,_,_,bD W.box 8 1,p1,M,q1,_,c1,p2,a2,q2,_,c2,p3,a3,q3,_,c3,p4,a4,q4,_,c4,L,_,K,_,c5,p6,a6,q6,_,c6,p7,a7,q7,_,c7,p8,a8,q8,_,c8,fun zT C=> ?_⟩;have j:=W.below (extAll C);have Y:=kE B C;refine jB Mo j.o.a (val:= .agg #[.int .i64 a,.int .i64 c,.int .i64 p,.int .i64 d,.bool (decide (z=1)),.string s,.string r,.string t]) rfl (by simp[Value.cells,bk]) Y.size om dc fun A' c' Ey N D UX=> ?_
  have Z:=D _ _ _ _ dc j.box;refine eK Z j.hB 8 1 (by show 9<=14;omega) rfl fun UK O=> ?_
  have ZC:=(Y.trans UX).trans (aG.eC O j.hB);have P:=bA.wrote O Z;obtain⟨g1,g2,g3,g4,g5,g6,g7,g8,_,g10,g11,g12⟩:=j.o.MZ D;have Q:fa Ey w0.heap.size {k with a:=⟨A',k.a.n+1,c'⟩} xs {x with gw:=x.gw++[⟨a,c,p,d,decide (z=1),s,r,t⟩]}:=
   ⟨g1 dc,g2 dc,g3 dc,g4 dc,j.o.e,g5 dc,g6 dc,j.o.nw,j.o.cw,g7 dc,g8 dc,by rw[eh];exact N,g10 dc,g11 dc,g12 dc⟩
  have m:Wk UK w0.heap.size b {k with a:=⟨A',k.a.n+1,c'⟩} xs {x with gw:=x.gw++[⟨a,c,p,d,decide (z=1),s,r,t⟩]}:=⟨O.at_,j.hB,Q.bH P⟩;have sa:∀y∈x.gw++[(⟨a,c,p,d,decide (z=1),s,r,t⟩:Al)],WC y:=fun y hy=>by
   rcases fJ.1 hy with hy|hy
   ·exact ok.sa y hy
   ·rw[eb.1 hy];exact⟨by show s.size<=1000;omega,by show r.size<=1000;omega,by show t.size<_;omega⟩
  have R:=m.o.a.rows;refine⟨_,_,_,bD m.box 8 1,pm (dR (hg.next ZC) m.o.a.sl R (by show k.a.n+1<_;omega) sa) ?_⟩;rintro v SN Px rfl;have E:=m.below Px;have qz:=kP ZC Px;refine⟨_,_,rfl,fun G=> ?_,fun S=> ?_⟩
  ·rw[bm G];exact⟨rfl,fun S=>absurd S G⟩
  rw[aq S];obtain⟨p1,M,q1,c1,_⟩:=A qz 0 om;refine⟨_,_,_,bD E.box 9 1,p1,M,q1,_,c1,fun RX H=> ?_⟩;have q:=E.below (extAll H);have P3:=kE qz H;refine jB Mq q.o.l (val:= .agg #[.int .i64 a,.int .i64 0,.int .i64 tick]) rfl (by simp[Value.cells,bk]) P3.size (by show(k.l.n+1)*_<=_;omega) dc fun A2 c2 T U I b47=> ?_
  have ZE:=I _ _ _ _ dc q.box;refine eK ZE q.hB 9 1 (by show 10<=14;omega) rfl fun Zw J=> ?_
  have UO:=bA.wrote J ZE;obtain⟨g1,g2,g3,g4,g5,g6,g7,g8,g9,_,g11,g12⟩:=q.o.MZ I;have V:fa T w0.heap.size {k with a:=⟨A',k.a.n+1,c'⟩,l:=⟨A2,k.l.n+1,c2⟩} xs {x with gw:=x.gw++[⟨a,c,p,d,decide (z=1),s,r,t⟩],pL:=x.pL++[⟨a,0,tick⟩]}:=
   ⟨g1 dc,g2 dc,g3 dc,g4 dc,q.o.e,g5 dc,g6 dc,q.o.nw,q.o.cw,g7 dc,g8 dc,g9 dc,by rw[eh];exact U,g11 dc,g12 dc⟩
  exact⟨rfl,fun _=>⟨{k with a:=⟨A',k.a.n+1,c'⟩,l:=⟨A2,k.l.n+1,c2⟩},xs,J.at_,q.hB,V.bH UO⟩⟩
end

structure Kd where
 n:Int
 r:Int
 t:Int
 em:Bool
 fu:Bool
 f:Nat
abbrev Kd.val(d:Kd):Value:= .agg #[.int .i64 d.n,.int .i64 d.r,.int .i64 d.t,.bool d.em,.bool d.fu,.func (.func d.f) #[] #[]]
def kd(z:Int):Option Kd:=
 if z=12 then some ⟨0,0,0,false,true,79⟩
 else if z=11 then some ⟨1,0,0,false,false,78⟩
 else if z=10 then some ⟨1,1,0,false,false,77⟩
 else if z=9 then some ⟨0,0,0,false,true,76⟩
 else if z=8 then some ⟨1,0,1,false,true,75⟩
 else if z=7 then some ⟨-1,0,0,true,false,74⟩
 else if z=6 then some ⟨2,0,2,false,false,73⟩
 else if z=5 then some ⟨5,2,1,false,false,72⟩
 else if z=4 then some ⟨1,5,1,false,false,71⟩
 else if z=3 then some ⟨3, -1,3,true,false,70⟩
 else if z=2 then some ⟨1,5,1,true,false,69⟩
 else if z=1 then some ⟨3,3,1,true,false,68⟩
 else none
noncomputable def zg(H:mw)(z:Int)(x:Cm)(e:Ev):Cm×Int:=
 if z=12 then HL x
 else if z=11 then Bk x e
 else if z=10 then pg x e
 else if z=9 then qJ H x e
 else if z=8 then jC H x e
 else if z=7 then we x e
 else if z=6 then lk H x e
 else if z=5 then wg x e
 else if z=4 then mq x e
 else if z=3 then vZ x e
 else if z=2 then vY x e
 else if z=1 then pd x e
 else(x,1)
abbrev kdZ:Value:= .agg #[.int .i64 0,.int .i64 0,.int .i64 0,.bool false,.bool false,.nilFunc]
theorem P4:MgT 116 3 114 kdZ:=⟨kF,kF,fun w=>by kernel_rfl⟩
theorem lE{z a:Int}{d:Kd}{o:Option Kd}{f:Int->Option Value}(h:f z=o.map Kd.val):BM f a d.val z=(if z=a then some d else o).map Kd.val:=by
 unfold BM;by_cases q:z=a
 ·rw[bm q,bm q];rfl
 ·rw[aq q,aq q];exact h
theorem im{n:Nat}{d:Int}{m:Nat}(h:0<=d->(n:Int)=d)(a:d=(m:Int)):n=m:=by
 have:=h om;omega
theorem M7(w:World):Pure Tryz.prog 39 #[] w fun v w'=>∃m,v= .map (some m)/\yk w' w.heap.size 3 kdZ m 12 fun z=>(kd z).map Kd.val:=by
 refine F.qG.vc (Ai (tk:=3) (zv:=kdZ) lf fun M m3 y=> ?_);refine df m3 P4 ir _ om lf y.size fun N m4 a g4=> ?_
 have A:=y.trans a;refine df m4 P4 ir _ om lf A.size fun O m5 c g5=> ?_
 have B:=A.trans c;refine df m5 P4 ir _ om lf B.size fun P m6 d g6=> ?_
 have C:=B.trans d;refine df m6 P4 ir _ om lf C.size fun Q m7 g g7=> ?_
 have D:=C.trans g;refine df m7 P4 ir _ om lf D.size fun R m8 h g8=> ?_
 have b8:=D.trans h;refine df m8 P4 ir _ om lf b8.size fun S m9 i g9=> ?_
 have E:=b8.trans i;refine df m9 P4 ir _ om lf E.size fun T m10 j g10=> ?_
 have G:=E.trans j;refine df m10 P4 ir _ om lf G.size fun U m11 l g11=> ?_
 have I:=G.trans l;refine df m11 P4 ir _ om lf I.size fun V m12 n g12=> ?_
 have J:=I.trans n;refine df m12 P4 ir _ om lf J.size fun W m13 o g13=> ?_
 have K:=J.trans o;refine df m13 P4 ir _ om lf K.size fun X m14 q g14=> ?_
 have L:=K.trans q;refine df m14 P4 ir _ om lf L.size fun Y m15 r g15=> ?_
 have Z:=L.trans r;refine⟨_,rfl,?_⟩;have e:(fun z=>(kd z).map Kd.val)=fun z=>_:=funext fun z=>(show _=(kd z).map Kd.val from by
  unfold kd;exact lE (lE (lE (lE (lE (lE (lE (lE (lE (lE (lE (lE (f:=fun _=>none) rfl)))))))))))).symm
 rw[e];exact m15
def DR(want:Int)(n:Nat):Bool:=decide (want<0∨want=n)
def jm(d:Kd)(e:Ev):Bool:=DR d.n e.nums.length&&DR d.r e.bS.length&&DR d.t e.texts.length&&(decide (0<=d.n)||decide (e.nums.length % 3=0))
theorem HQ(want:Int)(n:Nat)(w:World):Pure Tryz.prog 80 #[.int .i64 want,.int .i64 n] w fun v _=>v= .bool (DR want n):=by
 refine F.lT.vc ⟨fun q=> ?_,fun q=> ?_⟩
 ·exact ca Value.bool (hM (.inl q)).symm
 ·refine ca Value.bool ?_;unfold DR;rw[ya,kl,kl];omega
theorem Kh{w:World}{ea:Ea}{e:Ev}(he:mZ w ea e)(d:Kd):Pure Tryz.prog 40 #[d.val,ea.val e] w fun v _=>v= .bool (jm d e):=by
 have ln:=he.ln;have lr:=he.lr;have lt:=he.lt;unfold jm;rw[ln,lr,lt];refine F.pF.vc fun w1 x1=>pm (HQ _ _ _) ?_
 rintro v g _ rfl;refine⟨_,rfl,fun q1=>pm (HQ _ _ _) ?_,fun q1=>by rw[q1];rfl⟩;rintro v h _ rfl;refine⟨_,rfl,fun a=>pm (HQ _ _ _) ?_,fun a=>by rw[q1,a];rfl⟩;rintro v i _ rfl;refine⟨_,rfl,fun c=> ?_,fun c=>by rw[q1,a,c];rfl⟩;rw[q1,a,c];refine⟨fun q=> ?_,fun q=>⟨om,?_⟩⟩
 ·rw[hM (by omega:(0:Int)<=d.n)];rfl
 ·rw[eL (by omega:¬(0:Int)<=d.n)];refine ca Value.bool ?_;simp only[zi,MF];rw[ky];omega
theorem P5{d:Kd}{e:Ev}(h:jm d e=true):(0<=d.n->(e.nums.length:Int)=d.n)/\(0<=d.r->(e.bS.length:Int)=d.r)/\(0<=d.t->(e.texts.length:Int)=d.t)/\(d.n<0->e.nums.length % 3=0):=by
 unfold jm DR at h;simp only[de,My,kl]at h;omega
section
variable {H:mw} {w0 w:World} {b:Nat} {k:Ca} {xs:List Rm} {x:Cm} {ea:Ea} {e:Ev}
theorem Xi(fk:fj H)(hg:bj w0)(hb:Below w0.heap.size w0 w)(h:Wk w w0.heap.size b k xs x)(ok:eA x)(he:mZ w0 ea e){d:Kd}(a:kd e.kind=some d)(hf:jm d e=true)(B:d.fu=true->x.eE≠[]):
  av Tryz.prog d.f=true/\ba Tryz.prog d.f #[.pointer (some ⟨b,0,none⟩),ea.val e] w0.heap.size w (M0 (zg H e.kind x e) w0.heap.size b):=by
 obtain⟨fn,fr,c,f3⟩:=P5 hf;unfold kd at a;unfold zg;by_cases g:e.kind=12
 ·rw[bm g]at a⊢;cases a;exact⟨kF,PO hb h⟩
 rw[aq g]at a⊢;by_cases i:e.kind=11
 ·rw[bm i]at a⊢;cases a;exact⟨kF,TP hg hb h ok he (im (m:=1) fn rfl)⟩
 rw[aq i]at a⊢;by_cases j:e.kind=10
 ·rw[bm j]at a⊢;cases a;exact⟨kF,JU hg hb h ok he (im (m:=1) fn rfl) (im (m:=1) fr rfl)⟩
 rw[aq j]at a⊢;by_cases l:e.kind=9
 ·rw[bm l]at a⊢;cases a;exact⟨kF,PY fk hg hb h ok (B rfl)⟩
 rw[aq l]at a⊢;by_cases n:e.kind=8
 ·rw[bm n]at a⊢;cases a;exact⟨kF,HM fk hg hb h ok he (im (m:=1) fn rfl) (im (m:=1) c rfl)⟩
 rw[aq n]at a⊢;by_cases o:e.kind=7
 ·rw[bm o]at a⊢;cases a;exact⟨kF,PV hg hb h ok he (f3 dc)⟩
 rw[aq o]at a⊢;by_cases q:e.kind=6
 ·rw[bm q]at a⊢;cases a;exact⟨kF,JV fk hg hb h ok he (im (m:=2) fn rfl) (im (m:=2) c rfl)⟩
 rw[aq q]at a⊢;by_cases r:e.kind=5
 ·rw[bm r]at a⊢;cases a;exact⟨kF,P2 hg hb h ok he (im (m:=5) fn rfl) (im (m:=2) fr rfl) (im (m:=1) c rfl)⟩
 rw[aq r]at a⊢;by_cases y:e.kind=4
 ·rw[bm y]at a⊢;cases a;exact⟨kF,HP hg hb h ok he (im (m:=1) fn rfl) (im (m:=5) fr rfl) (im (m:=1) c rfl)⟩
 rw[aq y]at a⊢;by_cases z:e.kind=3
 ·rw[bm z]at a⊢;cases a;exact⟨kF,P1 hg hb h ok he (im (m:=3) fn rfl) (im (m:=3) c rfl)⟩
 rw[aq z]at a⊢;by_cases A:e.kind=2
 ·rw[bm A]at a⊢;cases a;exact⟨kF,PQ hg hb h ok he (im (m:=1) fn rfl) (im (m:=5) fr rfl) (im (m:=1) c rfl)⟩
 rw[aq A]at a⊢;by_cases q1:e.kind=1
 ·rw[bm q1]at a⊢;cases a;exact⟨kF,JR hg hb h ok he (im (m:=3) fn rfl) (im (m:=3) fr rfl) (im (m:=1) c rfl)⟩
 rw[aq q1]at a⊢;cases a
noncomputable def eF(H:mw)(x:Cm)(e:Ev):Except Int Cm:=
 if e.id<1∨1073741824<e.id∨e.tick<0∨1073741824<e.tick then .error 2
 else match kd e.kind with
 |none=> .error 1
 |some d=>
  if jm d e=false then .error 1
  else if e.id<=x.last∨e.tick<x.tick then .error 5
  else if(d.em=true/\x.eE≠[])∨(d.fu=true/\x.eE=[])then .error 11
  else if(zg H e.kind x e).2≠0 then .error (zg H e.kind x e).2
  else .ok {(zg H e.kind x e).1 with last:=e.id,tick:=e.tick}
def ApR(r:Except Int Cm)(B:Nat)(v:Value)(w':World):Prop:=match r with
 | .error a=>v= .tuple #[Ca.zero.val Cm.zero,.int .i64 a]
 | .ok y=>∃k xs,v= .tuple #[k.val y,.int .i64 0]/\fa w' B k xs y
end

theorem fa.jK{w w':World}{B:Nat}{k:Ca}{xs:List Rm}{x:Cm}(h:fa w B k xs x)(s:bA 57 w w'):fa w' B k xs x:=by
 obtain⟨p1,p2,p3,c,g,i,j,l,m,a,b,n⟩:=h.MZ s;exact⟨p1 dc,p2 dc,p3 dc,c dc,h.e,g dc,i dc,h.nw,h.cw,j dc,l dc,m dc,a dc,b dc,n dc⟩
theorem fa.last{w:World}{B:Nat}{k:Ca}{xs:List Rm}{x:Cm}(h:fa w B k xs x)(i t:Int):fa w B k xs {x with last:=i,tick:=t}:=⟨h.p,h.h,h.r,h.f,h.e,h.s,h.pl,h.nw,h.cw,h.c,h.v,h.a,h.l,h.g,h.q⟩
theorem M8{f:FuncId}{args:Array Value}{B a:Nat}{w:World}{R R':Value->World->Prop}(h:ba Tryz.prog f args a w R)(hB:B<=a)(b:∀v w',Below a w w'->R v w'->R' v w'):ba Tryz.prog f args B w R':=
 Calls.mono h fun _ _ ⟨v,e,hb,c⟩=>⟨v,e,hb.mono hB,b v _ hb c⟩
theorem HR{w w':World}{B p:Nat}{o:Obj}(h:w.heap[p]? =some o)(hb:Below B w w')(hp:p<B):w'.heap[p]? =some o:=(hb.block p hp).trans h
section
variable {H:mw} {w0 w:World} {k:Ca} {xs:List Rm} {x:Cm} {ea:Ea} {e:Ev} {d:Kd}
theorem Xm(fk:fj H)(hg:bj w0)(h:vX w0 k xs x)(ok:eA x)(he:mZ w0 ea e)(hd:kd e.kind=some d)(hf:jm d e=true)(VE:d.fu=true->x.eE≠[])(hw:Below w0.heap.size w0 w){R:Value->World->Prop}
  (hE:(zg H e.kind x e).2≠0->∀w,R (.tuple #[Ca.zero.val Cm.zero,.int .i64 (zg H e.kind x e).2]) w)
  (hR:(zg H e.kind x e).2=0->∀w k xs,fa w w0.heap.size k xs {(zg H e.kind x e).1 with last:=e.id,tick:=e.tick}->R (.tuple #[k.val {(zg H e.kind x e).1 with last:=e.id,tick:=e.tick},.int .i64 0]) w):
  F.bL.KL k.p.A k.p.n k.p.c k.h.A k.h.n k.h.c k.r.A k.r.n k.r.c k.s.A k.s.n k.s.c k.w.A k.w.n k.w.c x.cO k.c.A k.c.n k.c.c k.v.A k.v.n k.v.c k.a.A k.a.n k.a.c k.l.A k.l.n k.l.c k.g.A k.g.n k.g.c k.q.A k.q.n k.q.c x.last x.tick e.id e.tick e.kind ea.n.A ea.n.n ea.n.c ea.r.A ea.r.n ea.r.c ea.t.A ea.t.n ea.t.c
   none 0 0 none 0 0 none 0 0 none 0 0 none 0 0 0 none 0 0 none 0 0 none 0 0 none 0 0 none 0 0 none 0 0 0 0 d.n d.r d.t d.em d.fu (.func (.func d.f) #[] #[]) w0.heap.size w R:=by
 refine F.bL.KL.step fun p30 l30 h30 G l31 I b J YX p33 l33 T=>⟨_,_,_,_,_,_,_,_,_,_,_,_,_,_,_,_,_,_,_,_,_,_,_,_,_,_,_,_,_,_,_,_,_,_,_,_,bD h30 0 14 rfl,pm (Kc (h.ar hw) ok) ?_⟩
 have U:=(ax.1 I).1;have s32:=(ax.1 YX).1;have s33:=(ax.1 T).1;rintro v P Q ⟨k1,pM,rfl,o1⟩;have P6:=kP hw Q;refine⟨_,_,_,_,_,_,_,_,_,_,_,_,_,_,_,_,_,_,_,_,_,_,_,_,_,_,_,_,_,_,_,_,_,_,_,_,rfl,qa _ _ P6.size fun V h64 W l64=> ?_⟩;have Z:Below w.heap.size w V:=Q.trans (W.mono Q.size);have wk:Wk V w.heap.size P.heap.size k1 pM x:=⟨h64,Q.size,o1.below W⟩;obtain⟨bU,fm⟩:=Xi fk (hg.next hw) Z wk ok (he.ar hw) hd hf VE;refine⟨_,_,_,bD (HR T Z s33) 5 1,_,_,_,_,_,_,_,_,_,_,_,_,bD (HR I Z U) 0 6 rfl,bU,M8 fm hw.size ?_⟩;rintro v w76 b76 ⟨rfl,hk⟩;have K:=Z.trans b76;have B:=HR I K U;have i:=HR YX K s32;have HS:=hw.trans (K.mono hw.size);refine⟨fun _ _ _ hm=>(by cases hm),_,rfl,fun hne=> ?_,fun h0=> ?_⟩
 ·refine eK i J 0 14 sm rfl (fun w79 akU=>⟨_,_,_,_,_,_,_,_,_,_,_,_,_,_,_,_,_,_,_,_,_,_,_,_,_,_,_,_,_,_,_,_,_,_,_,_,bD akU.at_ 0 14 rfl,?_⟩) rfl;exact hE hne w79
 ·have h0:=dT.1 h0;obtain⟨S,C,wk2⟩:=hk h0;have nb:b≠P.heap.size:=by have:=Q.size;omega
  have X:G≠P.heap.size:=by have:=Q.size;omega
  have fin:∀{w':World},w'.heap[b]? =some (.cells ([.slice none 0 0,.slice none 0 0,.slice none 0 0,.slice none 0 0,.slice none 0 0,.int .i64 0,.slice none 0 0,.slice none 0 0,.slice none 0 0,.slice none 0 0,.slice none 0 0,.slice none 0 0,.int .i64 0,.int .i64 0]:List Value).toArray 57 (0,0))->
    Wk w' w.heap.size P.heap.size S C {(zg H e.kind x e).1 with last:=e.id,tick:=e.tick}->∀D,aG w' D b 57 (S.cells {(zg H e.kind x e).1 with last:=e.id,tick:=e.tick})->R (.tuple #[S.val {(zg H e.kind x e).1 with last:=e.id,tick:=e.tick},.int .i64 0]) D:=fun hz hk D akV=>by
   have o:=hk.o.jK (bA.wrote akV hz);exact hR h0 D S C ⟨o.p.base hw.size,o.h.base hw.size,o.r.base hw.size,fun y hy=>⟨(o.f y hy).o.base hw.size⟩,o.e,o.s.base hw.size,o.pl,o.nw,o.cw,o.c.base hw.size,o.v.base hw.size,o.a.base hw.size,o.l.base hw.size,o.g.base hw.size,o.q.base hw.size⟩
  refine⟨_,bD B 0 1,fun w95 E=> ?_,fun w95 E=> ?_⟩
  all_goals
   have B:=ai B (extAll E);have i:=ai i (extAll E);have j:=wk2.below (extAll E)
  ·refine⟨_,bD B 1 1,?_⟩;refine eK j.box (ec hw.size j.hB) 12 1 (by show 13<=14;omega) rfl fun w99 m=> ?_
   have L:=bA.wrote m j.box;have B:=(m.rest G X).trans B;have i:=(m.rest b nb).trans i;refine eK m.at_ (ec hw.size j.hB) 13 1 (by show 14<=14;omega) rfl fun M N=> ?_
   have O:=bA.wrote N m.at_;have i:=(N.rest b nb).trans i;have z:Wk M w.heap.size P.heap.size S C {(zg H e.kind x e).1 with last:=e.id,tick:=e.tick}:=⟨N.at_,j.hB,((j.o.bH L).bH O).last _ _⟩;refine⟨_,_,_,_,_,_,_,_,_,_,_,_,_,_,_,_,_,_,_,_,_,_,_,_,_,_,_,_,_,_,_,_,_,_,_,_,bD z.box 0 14,eK i J 0 14 sm rfl (fun Xp Y=>⟨_,_,_,_,_,_,_,_,_,_,_,_,_,_,_,_,_,_,_,_,_,_,_,_,_,_,_,_,_,_,_,_,_,_,_,_,bD Y.at_ 0 14 rfl,?_⟩) rfl⟩;exact fin i z Xp Y
  ·refine eK j.box (ec hw.size j.hB) 12 1 (by show 13<=14;omega) rfl fun w99 m=> ?_
   have L:=bA.wrote m j.box;have B:=(m.rest G X).trans B;have i:=(m.rest b nb).trans i;refine⟨_,bD B 1 1,?_⟩;refine eK m.at_ (ec hw.size j.hB) 13 1 (by show 14<=14;omega) rfl fun M N=> ?_
   have O:=bA.wrote N m.at_;have i:=(N.rest b nb).trans i;have z:Wk M w.heap.size P.heap.size S C {(zg H e.kind x e).1 with last:=e.id,tick:=e.tick}:=⟨N.at_,j.hB,((j.o.bH L).bH O).last _ _⟩;refine⟨_,_,_,_,_,_,_,_,_,_,_,_,_,_,_,_,_,_,_,_,_,_,_,_,_,_,_,_,_,_,_,_,_,_,_,_,bD z.box 0 14,eK i J 0 14 sm rfl (fun Xp Y=>⟨_,_,_,_,_,_,_,_,_,_,_,_,_,_,_,_,_,_,_,_,_,_,_,_,_,_,_,_,_,_,_,_,_,_,_,_,bD Y.at_ 0 14 rfl,?_⟩) rfl⟩;exact fin i z Xp Y
theorem qK(fk:fj H)(hg:bj w)(h:vX w k xs x)(ok:eA x)(he:mZ w ea e):
  Pure Tryz.prog 14 #[k.val x,ea.val e] w (ApR (eF H x e) w.heap.size):=by
 have nw:=h.nw;unfold eF;refine F.bL.vc ⟨fun q w1 _=>by rw[bm (.inl q)];rfl,fun q1=>⟨fun q X _=>by rw[bm (.inr (.inl q))];rfl,fun A=>⟨fun q Y _=>by rw[bm (.inr (.inr (.inl q)))];rfl,fun I=>⟨fun q Z _=>by rw[bm (.inr (.inr (.inr q)))];rfl,fun j N O=> ?_⟩⟩⟩⟩;rw[aq om];have P:=k0 O;refine pm (M7 N) ?_;rintro v w8 b8 ⟨m,rfl,hm⟩;have Q:=kP P b8;refine⟨_,rfl,fun w9 J=> ?_⟩;have S:=kE Q J;have B:=hm.ext J;refine JG B P4 he.ik ?_;cases T:kd e.kind with
 |none=>
  refine⟨_,_,_,_,_,_,_,rfl,fun K L=> ?_⟩;exact F.bL.J4.step ⟨fun _ zL _=>rfl,fun q=>absurd rfl q⟩
 |some d=>
  refine⟨_,_,_,_,_,_,_,rfl,fun K L=> ?_⟩;have M:Below w.heap.size w K:=S.trans (L.below);dsimp only;have C:∀c,Below w.heap.size w c->jm d e=true->(d.em=true->x.eE=[])->(d.fu=true->x.eE≠[])->¬(e.id<=x.last∨e.tick<x.tick)->_:=fun c l hf r D g=>Xm (w:=c) (R:=ApR (if jm d e=false then .error 1
  else if e.id<=x.last∨e.tick<x.tick then .error 5
  else if(d.em=true/\x.eE≠[])∨(d.fu=true/\x.eE=[])then .error 11
  else if(zg H e.kind x e).2≠0 then .error (zg H e.kind x e).2
  else .ok {(zg H e.kind x e).1 with last:=e.id,tick:=e.tick}) w.heap.size) fk hg h ok he T hf D l (fun E w=>by
   rw[aq (by rw[hf];decide),aq g,aq (by rintro(⟨a,b⟩|⟨a,b⟩);exact b (r a);exact D a b),bm E];rfl) (fun U w k xs o=>by
   rw[aq (by rw[hf];decide),aq g,aq (by rintro(⟨a,b⟩|⟨a,b⟩);exact b (r a);exact D a b),aq (fun k=>k U)];exact⟨k,xs,rfl,o⟩)
  refine F.bL.J4.step ⟨fun q=>(by cases q),fun _=>pm (Kh (he.ar M) d) ?_⟩;rintro v c V rfl;have l:=kP M V;refine⟨_,rfl,fun q wK _=>by rw[bm q];rfl,fun q=> ?_⟩;have hf:jm d e=true:=by simpa using q
  refine⟨fun q1 Wg _=>by rw[aq q,bm (.inl q1)];rfl,fun q1=>⟨fun A Fu _=>by rw[aq q,bm (.inr A)];rfl,fun A=> ?_⟩⟩;have g:¬(e.id<=x.last∨e.tick<x.tick):=om;have y:k.w.n=0↔x.eE=[]:=by rw[<-nw];exact Dv
  have bad:∀w1:World,(d.em=true/\x.eE≠[])∨(d.fu=true/\x.eE=[])->∀w,ApR (if jm d e=false then .error 1
  else if e.id<=x.last∨e.tick<x.tick then .error 5
  else if(d.em=true/\x.eE≠[])∨(d.fu=true/\x.eE=[])then .error 11
  else if(zg H e.kind x e).2≠0 then .error (zg H e.kind x e).2
  else .ok {(zg H e.kind x e).1 with last:=e.id,tick:=e.tick}) w1.heap.size (.tuple #[Ca.zero.val Cm.zero,.int .i64 11]) w:=fun w1 hb w=>by
   rw[aq q,aq g,bm hb];rfl
  refine⟨fun z=>⟨fun I W _=>bad w (.inl ⟨z,fun k=>by have:=y.2 k;omega⟩) W,fun I=> ?_⟩,fun z=> ?_⟩
  ·have hp:x.eE=[]:=y.1 om;exact⟨fun i=>⟨fun j G _=>bad w (.inr ⟨i,hp⟩) G,fun j=>by omega⟩,fun i=>C c l hf (fun _=>hp) (fun k=>by rw[i]at k;cases k) g⟩
  ·exact⟨fun i=>⟨fun j G _=>bad w (.inr ⟨i,y.1 om⟩) G,fun j=>C c l hf (fun k=>by rw[z]at k;cases k) (fun _ k=>j (by have:=y.2 k;omega)) g⟩,fun i=>C c l hf (fun k=>by rw[z]at k;cases k) (fun k=>by rw[i]at k;cases k) g⟩
end

structure gQ (e:Ev):Prop where
 mn:e.nums.length<=24
 mr:e.bS.length<=9
 mt:e.texts.length<=4
 sr:∀s∈e.bS,s.size<=40
 st:∀s∈e.texts,s.size<=70
 ir:∀z∈e.nums, -9223372036854775808<=z/\z<=9223372036854775807
theorem rn{ps:List Pa}{hs:List Ho}{rs:List Ru}{l:List Sw}(h:lQ ps hs rs l=true):ps.length<=6/\hs.length<=6/\rs.length<=16/\l.length<=36:=by
 unfold lQ Ae at h;simp only[de,kl]at h;obtain⟨c0,a,_⟩:=mm h.1.1.1;have r:=gn c0;exact⟨r.lp,r.lh,a,(fN h.1.1.2).len⟩
theorem wO{x:Cm}(h:uE x=0):lQ x.ps x.hs x.rs x.gK=true:=by
 unfold uE at h;split at h
 ·cases h
 ·rename_i k;simpa using k
theorem ur{α:Type}{P:α->Prop}{l:List α}{a:α}(h:∀y∈l,P y)(ha:P a):∀y∈l++[a],P y:=fun y hy=>by
 rcases fJ.1 hy with hy|hy
 ·exact h y hy
 ·rw[eb.1 hy];exact ha
theorem Kj:∀{l:List Int},(∀z∈l, -9223372036854775808<=z/\z<=9223372036854775807)->∀y∈di l,SmW y:=by
 intro l;induction l using di.induct with
 |case1 a b c r ih=>
  intro h y hy;rw[di]at hy;rcases cb.1 hy with rfl|hy
  ·exact⟨h a sm,h b sm,h c sm⟩
  ·exact ih (fun z hz=>h z (by simp[hz])) y hy
 |case2 l hl=>
  intro h y hy;rw[di]at hy
  ·cases hy
  ·exact hl
section
variable {H:mw} {x:Cm} {e:Ev} {r:Cm×Int}
theorem gQ.sR(he:gQ e){s:ByteArray}(h:s∈e.bS):mO s:=by
 have:=he.sr s h;show s.size<=1000;omega
theorem gQ.sT(he:gQ e){s:ByteArray}(h:s∈e.texts):s.size<2147483648:=by
 have:=he.st s h;omega
theorem gQ.sU(he:gQ e){s:ByteArray}(h:s∈e.texts):mO s:=by
 have:=he.st s h;show s.size<=1000;omega
theorem P7(ok:eA x)(he:gQ e)(h:pd x e=r)(b:r.2=0):eA r.1:=by
 unfold pd at h;split at h
 ·rename_i a u c m v j t h1 d i;dsimp only at h;split at h
  ·rename_i k;subst h;exact absurd b k
  ·subst h;have g:=wO b;obtain⟨lp,lh,lr,ls⟩:=rn g;exact {ok with ar:=g,lp:=lp,lh:=lh,lr:=lr,ls:=ls,sp:=ur ok.sp ⟨he.sR (by rw[d];simp),he.sR (by rw[d];simp),he.sR (by rw[d];simp),he.sT (by rw[i];simp)⟩}
 ·subst h;cases b
theorem Xq(ok:eA x)(he:gQ e)(h:vY x e=r)(c:r.2=0):eA r.1:=by
 unfold vY at h;split at h
 ·rename_i a i m cx j l t h1 b g;dsimp only at h;split at h
  ·subst h;cases c
  ·split at h
   ·rename_i k;subst h;exact absurd c k
   ·subst h;have d:=wO c;obtain⟨lp,lh,lr,ls⟩:=rn d;exact {ok with ar:=d,lp:=lp,lh:=lh,lr:=lr,ls:=ls,sh:=ur ok.sh ⟨he.sR (by rw[b];simp),he.sR (by rw[b];simp),he.sR (by rw[b];simp),he.sR (by rw[b];simp),he.sR (by rw[b];simp),he.sT (by rw[g];simp)⟩}
 ·subst h;cases c
theorem Xr(ok:eA x)(he:gQ e)(h:vZ x e=r)(c:r.2=0):eA r.1:=by
 unfold vZ at h;split at h
 ·rename_i kd a b n lo hi h1 d;dsimp only at h;split at h
  ·rename_i k;subst h;exact absurd c k
  ·subst h;have g:=wO c;obtain⟨lp,lh,lr,ls⟩:=rn g;exact {ok with ar:=g,lp:=lp,lh:=lh,lr:=lr,ls:=ls,sr:=ur ok.sr ⟨fun s hs=>he.sR hs,he.sU (by rw[d];simp),he.sU (by rw[d];simp),he.sT (by rw[d];simp),he.mr⟩}
 ·subst h;cases c
theorem Na(ok:eA x)(he:gQ e)(h:mq x e=r)(c:r.2=0):eA r.1:=by
 unfold mq at h;split at h
 ·rename_i a g o l d i n h1 b j;split at h
  ·rename_i k;subst h;exact absurd c k
  ·rename_i k;subst h;have hl:(x.jJ++[(⟨a,n,g,o,l,d,i⟩:Ch)]).length<=16:=by
    refine bB fun q=>k ?_
    unfold iK;rw[bm om];decide
   have lv:=ok.lv;exact {ok with
    sc:=ur ok.sc ⟨he.sT (by rw[j];simp),he.sR (by rw[b];simp),he.sR (by rw[b];simp),he.sR (by rw[b];simp),he.sR (by rw[b];simp),he.sR (by rw[b];simp)⟩
    sg:=ur ok.sg ⟨he.sr _ (by rw[b];simp),he.sr _ (by rw[b];simp)⟩
    sv:=ur ok.sv (by show(1:Nat)<=1000;omega)
    lc:=hl
    lv:=by simp[lv]}
 ·subst h;cases c
theorem Xs(ok:eA x)(he:gQ e)(h:wg x e=r)(b:r.2=0):eA r.1:=by
 unfold wg at h;split at h
 ·rename_i a c p d z s i t h1 g j;split at h
  ·subst h;cases b
  ·split at h
   ·rename_i k;subst h;exact absurd b k
   ·rename_i k;subst h;have hl:(x.gw++[(⟨a,c,p,d,decide (z=1),s,i,t⟩:Al)]).length<=32:=by
     refine bB fun q=>k ?_
     unfold pE;rw[bm om];decide
    have ll:=ok.ll;exact {ok with
     sa:=ur ok.sa ⟨he.sR (by rw[g];simp),he.sR (by rw[g];simp),he.sT (by rw[j];simp)⟩
     la:=hl
     ll:=by simp[ll]}
 ·subst h;cases b
theorem P8(ok:eA x)(h:lk H x e=r)(b:r.2=0):eA r.1:=by
 unfold lk at h;split at h
 ·rename_i a c n k h1 d;subst h;have hl:(x.fQ++[(⟨a,c,n,k⟩:Si)]).length<=16:=by
   refine(ji.1 ?_).2;refine bB fun q=> ?_
   unfold eJ at b;rw[bm (by simpa using q)]at b;cases b
  exact {ok with lg:=hl}
 ·subst h;cases b
theorem Xt(ok:eA x)(he:gQ e)(hi:1<=e.id/\e.id<=1073741824)(h:we x e=r)(a:r.2=0):eA r.1:=by
 unfold we at h;split at h
 ·subst h;cases a
 ·split at h
  ·rename_i k;subst h;exact absurd a k
  ·rename_i k;subst h;have hl:(di e.nums).length<=6:=by
    refine bB fun q=>k ?_
    unfold pS;by_cases t0:mo x.ps x.hs x.rs x.gK (di e.nums)=0
    ·refine absurd t0 ?_;unfold mo;split
     ·decide
     ·split
      ·decide
      ·rw[bm om];decide
    ·rw[bm t0];exact t0
   exact {ok with lw:=hl,sw:=Kj he.ir,si:=(by dsimp only;omega)}
theorem Nb(ok:eA x)(h:jC H x e=r)(b:r.2=0):eA r.1:=by
 unfold jC at h;split at h
 ·rename_i a t h1 c;subst h;have hl:(x.apps++[(⟨a,e.tick,ni H x,t⟩:Ap)]).length<=1024:=by
   refine bB fun q=> ?_
   dsimp only at b;unfold eJ at b;split at b
   ·cases b
   ·rw[bm om]at b;cases b
  exact {ok with lq:=hl}
 ·subst h;cases b
theorem Xu(ok:eA x)(h:qJ H x e=r)(a:r.2=0):eA r.1:=by
 unfold qJ at h;split at h
 ·subst h;cases a
 ·split at h
  ·subst h;cases a
  ·rename_i t d hp;split at h
   ·rename_i g c;subst h;dsimp only at a;subst a;exact ok
   ·rename_i l c;subst h;have b:=wO a;obtain⟨lp,lh,lr,ls⟩:=rn b;have lw:=ok.lw;rw[hp,ew]at lw;have si:=ok.si;exact {ok with ar:=b,lp:=lp,lh:=lh,lr:=lr,ls:=ls,lw:=(by dsimp only;omega),sw:=fun y hy=>ok.sw y (by rw[hp];exact Js _ hy),si:=(by dsimp only;split<;>omega)}
theorem TZ{l:List Al}{m:List Lp}(h:vK l m=true):l.length=m.length:=by
 unfold vK at h;simp only[de,kl]at h;exact h.2.1
theorem P9{l:List Al}{m:List Lp}{v:List Va}{t:Int}(h:(Bh l m v t).2=0):(Bh l m v t).1.length=m.length:=by
 revert h
 generalize hs:Bh l m v t=s;intro h;unfold Bh at hs;split at hs
 ·subst hs;cases h
 ·rename_i hf;have:=TZ (by simpa using hf);split at hs
  ·subst hs;cases h
  ·split at hs
   ·subst hs;cases h
   ·split at hs
    ·subst hs;cases h
    ·split at hs
     ·subst hs;cases h
     ·subst hs;rw[List.length_zipWith];omega
theorem Ua{l:List Al}{m:List Lp}{a t:Int}(h:(EM l m a t).2=0):(EM l m a t).1.length=m.length:=by
 revert h
 generalize hs:EM l m a t=s;intro h;unfold EM at hs;split at hs
 ·subst hs;cases h
 ·split at hs
  ·subst hs;cases h
  ·split at hs
   ·subst hs;cases h
   ·split at hs
    ·subst hs;cases h
    ·split at hs
     ·subst hs;cases h
     ·split at hs
      ·subst hs;exact BD
      ·split at hs
       ·subst hs;exact BD
       ·subst hs;cases h
theorem Qa(ok:eA x)(he:gQ e)(h:pg x e=r)(b:r.2=0):eA r.1:=by
 unfold pg at h;split at h
 ·rename_i a g h1 d;split at h
  ·rename_i i c;subst h;exact absurd b (As c)
  ·rename_i v c;subst h;obtain⟨s1,s2⟩:=Bn c ok.sg ok.sv (he.sr _ (by rw[d];simp));exact {ok with sv:=s1,lv:=s2.trans ok.lv,ll:=(P9 b).trans ok.ll}
 ·subst h;cases b
theorem abX(ok:eA x)(h:Bk x e=r)(a:r.2=0):eA r.1:=by
 unfold Bk at h;split at h
 ·subst h;exact {ok with ll:=(Ua a).trans ok.ll}
 ·subst h;cases a
theorem Xv(ok:eA x):eA (HL x).1:={ok with
 lw:=(by show([]:List Sw).length<=6;decide)
 sw:=(fun y hy=>nomatch (show y∈([]:List Sw)from hy))
 si:=(by show(-9223372036854775808:Int)<=0/\(0:Int)<=9223372036854775807;decide)}
theorem Kk{P:Cm×Int->Prop}{z:Int}(n:z=12->P (HL x))(o:z=11->P (Bk x e))(q:z=10->P (pg x e))(w:z=9->P (qJ H x e))(y:z=8->P (jC H x e))(A:z=7->P (we x e))(B:z=6->P (lk H x e))(C:z=5->P (wg x e))(D:z=4->P (mq x e))(E:z=3->P (vZ x e))(F:z=2->P (vY x e))(h1:z=1->P (pd x e))(G:P (x,1)):P (zg H z x e):=by
 unfold zg;by_cases a:z=12
 ·rw[bm a];exact n a
 rw[aq a];by_cases b:z=11
 ·rw[bm b];exact o b
 rw[aq b];by_cases c:z=10
 ·rw[bm c];exact q c
 rw[aq c];by_cases d:z=9
 ·rw[bm d];exact w d
 rw[aq d];by_cases g:z=8
 ·rw[bm g];exact y g
 rw[aq g];by_cases h:z=7
 ·rw[bm h];exact A h
 rw[aq h];by_cases i:z=6
 ·rw[bm i];exact B i
 rw[aq i];by_cases j:z=5
 ·rw[bm j];exact C j
 rw[aq j];by_cases k:z=4
 ·rw[bm k];exact D k
 rw[aq k];by_cases l:z=3
 ·rw[bm l];exact E l
 rw[aq l];by_cases m:z=2
 ·rw[bm m];exact F m
 rw[aq m];by_cases q1:z=1
 ·rw[bm q1];exact h1 q1
 rw[aq q1];exact G
theorem af8(ok:eA x)(he:gQ e)(hi:1<=e.id/\e.id<=1073741824){z:Int}:(zg H z x e).2=0->eA (zg H z x e).1:=
 Kk (P:=fun r=>r.2=0->eA r.1) (fun _ _=>Xv ok) (fun _=>abX ok rfl) (fun _=>Qa ok he rfl) (fun _=>Xu ok rfl) (fun _=>Nb ok rfl) (fun _=>Xt ok he hi rfl) (fun _=>P8 ok rfl) (fun _=>Xs ok he rfl) (fun _=>Na ok he rfl)
  (fun _=>Xr ok he rfl) (fun _=>Xq ok he rfl) (fun _=>P7 ok he rfl) (fun h=>by cases h)
structure akX (H:mw) (x:Cm) (e:Ev) (y:Cm) (d:Kd):Prop where
 id:1<=e.id/\e.id<=1073741824
 tick:0<=e.tick/\e.tick<=1073741824
 kd:kd e.kind=some d
 form:jm d e=true
 ord:x.last<e.id/\x.tick<=e.tick
 em:d.em=true->x.eE=[]
 fu:d.fu=true->x.eE≠[]
 ok:(zg H e.kind x e).2=0
 y:y={(zg H e.kind x e).1 with last:=e.id,tick:=e.tick}
theorem zh{y:Cm}(h:eF H x e= .ok y):∃d,akX H x e y d:=by
 unfold eF at h;split at h
 ·cases h
 ·rename_i h1;split at h
  ·cases h
  ·rename_i d b;split at h
   ·cases h
   ·rename_i c;split at h
    ·cases h
    ·rename_i i;split at h
     ·cases h
     ·rename_i a;split at h
      ·cases h
      ·rename_i g;cases h;exact⟨d,om,om,b,by simpa using c,om,fun q=>bB fun k=>a (.inl ⟨q,k⟩),fun q k=>a (.inr ⟨q,k⟩),dT.1 g,rfl⟩
theorem wP{a:Int}(h:eF H x e= .error a):a≠0:=by
 unfold eF at h;split at h
 ·cases h;decide
 ·split at h
  ·cases h;decide
  ·split at h
   ·cases h;decide
   ·split at h
    ·cases h;decide
    ·split at h
     ·cases h;decide
     ·split at h
      ·rename_i k;cases h;exact k
      ·cases h
theorem eA.at_(ok:eA x)(i t:Int):eA {x with last:=i,tick:=t}:=⟨ok.ar,ok.sp,ok.sh,ok.sr,ok.sc,ok.sg,ok.sv,ok.sa,ok.lp,ok.lh,ok.lr,ok.ls,ok.lw,ok.lc,ok.lv,ok.la,ok.ll,ok.lg,ok.lq,ok.sw,ok.si⟩
theorem wh(ok:eA x)(he:gQ e){y:Cm}(h:eF H x e= .ok y):eA y:=by
 obtain⟨d,a⟩:=zh h;rw[a.y];exact(af8 ok he a.id a.ok).at_ _ _
end
theorem eA.zero:eA Cm.zero:=
 ⟨dc,nofun,nofun,nofun,nofun,nofun,nofun,nofun,dc,dc,dc,dc,dc,dc,rfl,dc,rfl,dc,dc,nofun,dc⟩

noncomputable def mu(H:mw):Nat->Cm->List Ev->Except (Nat×Int) Cm
 |_,x,[]=> .ok x
 |i,x,e::r=>match eF H x e with
  | .error a=> .error (i,a)
  | .ok y=>mu H (i+1) y r
inductive Steps (H:mw):Cm->List Ev->List Cm->Prop where
 |nil (x:Cm):Steps H x [] [x]
 |cons {x y:Cm} {e:Ev} {es:List Ev} {ys:List Cm}:gQ e->eA x->eF H x e= .ok y->Steps H y es ys->Steps H x (e::es) (x::ys)
section
variable {H:mw} {x y:Cm} {e:Ev} {r:Cm×Int} {d:Kd}
theorem Kl(h:eF H x e= .ok y):y.last=e.id/\y.tick=e.tick:=by
 obtain⟨d,a⟩:=zh h;rw[a.y];exact⟨rfl,rfl⟩
end

def hX(l:List Int):Tx:=l.flatMap fun z=>bJ (nB (FO z))
def kD(e:Ev):Tx:=bJ (nB e.id.toNat)++(bJ (nB e.tick.toNat)++(bJ (nB e.kind.toNat)++(bJ (nB e.nums.length)++(hX e.nums++(bJ (nB e.bS.length)++(cJ e.bS++(bJ (nB e.texts.length)++cJ e.texts)))))))
structure qL (e:Ev):Prop where
 id:1<=e.id/\e.id<=1073741824
 tick:0<=e.tick/\e.tick<=1073741824
 kind:1<=e.kind/\e.kind<=99
 nums:∀z∈e.nums, -1099511627776<=z/\z<=1099511627776
 bS:∀s∈e.bS,vR s=true
theorem Ub{z:Int}(h: -1099511627776<=z/\z<=1099511627776):FO z<2^56:=by
 unfold FO;split<;>omega

section
variable {H:mw} {ss:List Si} {l:List Ap}
theorem Qb:∀(l pre:List Ap),(uD H ss pre l).2=0->∀a∈l,(∃q,mY ss q a=0)/\a.code=codeF H (MI ss a.cR) a:=by
 intro l;induction l with
 |nil=>intro _ _ a ha;cases ha
 |cons b r ih=>
  intro pre h a ha;rw[uD]at h;split at h
  ·rename_i k;exact absurd h k
  ·rename_i k;split at h
   ·cases h
   ·rename_i c;rcases cb.1 ha with rfl|ha
    ·exact⟨⟨pre,dT.1 k⟩,dT.1 c⟩
    ·exact ih _ h a ha
theorem Bt(h:(eJ H ss l).2=0):od ss=true/\∀a∈l,(∃k,NP ss a.cR=some k)/\(0<=a.tick/\a.tick<=1073741824)/\a.subject.size=32/\a.code=codeF H (MI ss a.cR) a:=by
 unfold eJ at h;split at h
 ·cases h
 ·rename_i h1;split at h
  ·cases h
  ·refine⟨by simpa using h1,fun a ha=> ?_⟩;obtain⟨⟨q,b⟩,c⟩:=Qb _ _ h a ha;obtain⟨g1,g2,g3⟩:=Bi b;exact⟨g1,g2,g3,c⟩
end

def sA(e:Ev):Prop:=(∀z∈e.nums, -1099511627776<=z/\z<=1099511627776)/\∀s∈e.bS,vR s=true
theorem FP{l:List Al}(h:(pE l).2=0):∀a∈l,(1<=a.id/\a.id<=1073741824)/\(1<=a.chan/\a.chan<=1073741824)/\(1<=a.prio/\a.prio<=3)/\(0<=a.qC/\a.qC<=1073741824)/\vR a.set=true/\vR a.reset=true:=by
 unfold pE at h;split at h
 ·cases h
 ·intro a ha;obtain⟨p,hp⟩:=NU _ _ _ h a ha;unfold gq at hp;split at hp
  ·cases hp
  ·rename_i b;have b:=dT.1 b;split at hp
   ·cases hp
   ·split at hp
    ·cases hp
    ·rename_i c;have c:=(ZK.1 c).1;exact⟨om,om,om,om,b.1,b.2⟩
theorem abY{l:List Al}{m:List Lp}{a t:Int}(h:(EM l m a t).2=0):1<=a/\a<=1073741824:=by
 unfold EM at h;split at h
 ·cases h
 ·rename_i hf;split at h
  ·cases h
  ·rename_i i hi;have b:(pE l).2=0:=by
    have hf:vK l m=true:=by simpa using hf
    unfold vK at hf;rw[de]at hf;exact fs hf.1
   obtain⟨c,hp,_⟩:=tu.1 hi;have e:l[i].id=a:=fs hp;rw[<-e];exact(FP b _ (bx c)).1
theorem Oe{l:List Ch}(h:(iK l).2=0):∀c∈l,(1<=c.id/\c.id<=1073741824)/\vR c.pR=true/\vR c.offset=true/\vR c.low=true/\vR c.high=true/\vR c.mT=true:=by
 intro c a;obtain⟨i,hi,rfl⟩:=BA.1 a;obtain⟨f1,f2⟩:=rm ((rk h).2 i _ (af hi));have g1:=(ZK.1 f2.1).1;have g2:=(ZK.1 (ZK.1 f2.1).2).1;exact⟨om,f1⟩
theorem Xw{l:List Ch}{v u:List Va}{a t:Int}{r:ByteArray}(h:nE l v a t r= .ok u):(1<=a/\a<=1073741824)/\vR r=true:=by
 unfold nE at h;split at h
 ·rename_i k;rcases Ac (fun c=>decide (c.id=a)) l 0 with⟨hi,_⟩|⟨i,c,hi,hx,hp,_⟩
  ·rw[hi]at h;cases h
  ·have e:c.id=a:=fs hp;rw[<-e];exact⟨(Oe k.1 c (gr hx)).1,k.2.2⟩
 ·cases h
section
variable {H:mw} {x y:Cm} {e:Ev} {d:Kd}
theorem Qc(h:(pd x e).2=0):sA e:=by
 unfold pd at h;split at h
 ·rename_i a u c m v g t h1 i j;dsimp only at h;split at h
  ·rename_i k;exact absurd h k
  ·rename_i k;have r:=gn (dT.1 k);have b:=r.vp ⟨a,u,c,t,m,v,g⟩ sm;obtain⟨g1,g2,g3,_⟩:=r.p1 ⟨a,u,c,t,m,v,g⟩ sm;simp only[vP,de]at b g1 g2 g3;unfold sA;rw[h1,i];simp only[cb,eH,oP,vd,KI];exact⟨⟨om,om,om⟩,b.1.1,b.1.2,b.2⟩
 ·cases h
theorem Xx(h:(vY x e).2=0):sA e:=by
 unfold vY at h;split at h
 ·rename_i a c m cx g i t h1 j l;dsimp only at h;split at h
  ·cases h
  ·split at h
   ·rename_i k;exact absurd h k
   ·rename_i k;have r:=gn (dT.1 k);have b:=r.vh ⟨a,t,c,m,cx,g,i⟩ sm;obtain⟨g1,_⟩:=r.h1 ⟨a,t,c,m,cx,g,i⟩ sm;simp only[vH,de]at b g1;unfold sA;rw[h1,j];simp only[cb,eH,oP,vd,KI];exact⟨om,b.1.1.1.1,b.1.1.1.2,b.1.1.2,b.1.2,b.2⟩
 ·cases h
theorem Xy{ps:List Pa}{hs:List Ho}:∀(rs:List Ru)(i:Nat)(pre:List Ru),(Wy ps hs i pre rs).2=0->∀r∈rs,∃q,rG ps hs q r=0:=by
 intro rs;induction rs with
 |nil=>intro _ _ _ r a;cases a
 |cons c t ih=>
  intro i pre h r a;rw[Wy]at h;split at h
  ·rename_i k;exact absurd h k
  ·rename_i k;rcases cb.1 a with rfl|a
   ·exact⟨pre,dT.1 k⟩
   ·exact ih _ _ h r a
theorem nk{c:Prop}[Decidable c]{a b:Int}(h:(if c then a else b)=0)(ha:a≠0):¬c/\b=0:=by
 by_cases q:c
 ·rw[bm q]at h;exact absurd h ha
 ·rw[aq q]at h;exact⟨q,h⟩
theorem Uc{ps:List Pa}{hs:List Ho}{pre:List Ru}{r:Ru}(h:rG ps hs pre r=0)(j:zU ps hs):(1<=r.kind/\r.kind<=4)/\(0<=r.a/\r.a<=1073741824)/\(0<=r.b/\r.b<=1073741824)/\r.ph.all vR=true:=by
 have l:∀{b:Int} {k:Nat},wT hs b=some k->1<=b/\b<=1073741824:=fun c=>by
  obtain⟨hi,e⟩:=Dt c;rw[<-e];exact(j.h1 _ (bx hi)).1
 have hp:∀{b:Int} {k:Nat},rC ps b=some k->1<=b/\b<=1073741824:=fun c=>by
  obtain⟨hi,e⟩:=xV c;rw[<-e];exact(j.p1 _ (bx hi)).1
 have R:=DB h;have m:=R.kind;refine⟨R.kind,?_⟩;unfold rG at h;obtain⟨_,h⟩:=nk h dc;obtain⟨_,h⟩:=nk h dc;obtain⟨_,h⟩:=nk h dc;obtain⟨_,h⟩:=nk h dc;by_cases q1:r.kind=1
 ·rw[bm q1]at h;obtain⟨q,_⟩:=nk h dc;obtain⟨_,q⟩:=ZK.1 q;obtain⟨q1,g⟩:=ZK.1 q;exact⟨om,om,R.ph⟩
 ·rw[aq q1]at h;obtain⟨_,h⟩:=nk h dc;by_cases g:r.kind=2
  ·rw[bm g]at h;obtain⟨q,_⟩:=nk h dc;have q:=dT.1 q;exact⟨om,om,R.ph⟩
  ·rw[aq g]at h;by_cases i:r.kind=3
   ·rw[bm i]at h;obtain⟨q,_⟩:=nk h dc;have q:=dT.1 q;obtain⟨k,c⟩:=R.three i;have:=l c;exact⟨om,om,R.ph⟩
   ·rw[aq i]at h;obtain⟨q,_⟩:=nk h dc;obtain⟨k,c⟩:=R.four om;have:=hp c;exact⟨om,om,R.ph⟩
theorem Xz(h:(vZ x e).2=0):sA e:=by
 unfold vZ at h;split at h
 ·rename_i kd a b n lo hi h1 i;dsimp only at h;split at h
  ·rename_i k;exact absurd h k
  ·rename_i k;have k:=dT.1 k;have c:=gn (mm k).1;have hg:∃q,rG x.ps x.hs q ⟨n,kd,e.bS,lo,hi,a,b⟩=0:=by
    unfold nQ at k;rw[aq (fun q=>q (mm k).1)]at k;split at k
    ·cases k
    ·exact Xy _ _ _ k _ sm
   obtain⟨q,g⟩:=hg;obtain⟨g1,g2,g3,g4⟩:=Uc g c;simp only at g1 g2 g3 g4;unfold sA;rw[h1];simp only[cb,eH,oP,vd,KI];exact⟨⟨om,om,om⟩,gu.1 g4⟩
 ·cases h
theorem Nc(h:(mq x e).2=0):sA e:=by
 unfold mq at h;split at h
 ·rename_i a g o l b r n h1 c i;split at h
  ·rename_i k;exact absurd h k
  ·rename_i k;obtain⟨g1,v1,v2,v3,v4,v5⟩:=Oe (dT.1 k) ⟨a,n,g,o,l,b,r⟩ sm;simp only at g1;unfold sA;rw[h1,c];simp only[cb,eH,oP,vd,KI];exact⟨om,v1,v2,v3,v4,v5⟩
 ·cases h
theorem XA(h:(wg x e).2=0):sA e:=by
 unfold wg at h;split at h
 ·rename_i a c p b z s r t h1 g i;split at h
  ·cases h
  ·rename_i hz;split at h
   ·rename_i k;exact absurd h k
   ·rename_i k;obtain⟨g1,g2,g3,g4,v1,v2⟩:=FP (dT.1 k) ⟨a,c,p,b,decide (z=1),s,r,t⟩ sm;simp only at g1 g2 g3 g4;unfold sA;rw[h1,g];simp only[cb,eH,oP,vd,KI];exact⟨⟨om,om,om,om,om⟩,v1,v2⟩
 ·cases h
theorem Km{l:List Si}(h:od l=true):∀s∈l,(1<=s.id/\s.id<=1073741824)/\(1<=s.role/\s.role<=9):=fun s hs=>by
 obtain⟨q,a⟩:=DG (ji.1 h).1 s hs;exact⟨a.1,a.2.1⟩
theorem Qd(h:(lk H x e).2=0)(b:e.bS=[]):sA e:=by
 unfold lk at h;split at h
 ·rename_i a r n k h1 c;obtain⟨g1,g2⟩:=Km (Bt h).1 ⟨a,r,n,k⟩ sm;simp only at g1 g2;unfold sA;rw[h1,b];simp only[cb,eH,oP,vd,KI];exact⟨⟨om,om⟩,nofun⟩
 ·cases h
theorem Nd(h:(jC H x e).2=0)(b:e.bS=[]):sA e:=by
 unfold jC at h;split at h
 ·rename_i a t h1 i;obtain⟨s1,s2⟩:=Bt h;obtain⟨⟨k,c⟩,_⟩:=s2 ⟨a,e.tick,ni H x,t⟩ sm;obtain⟨hi,g⟩:=Tv c;have g1:=(Km s1 _ (bx hi)).1;rw[g]at g1;simp only at g1;unfold sA;rw[h1,b];simp only[cb,eH,oP,vd,KI];exact⟨om,nofun⟩
 ·cases h
theorem Qe(h:(pg x e).2=0):sA e:=by
 unfold pg at h;split at h
 ·rename_i a r h1 c;split at h
  ·rename_i g b;exact absurd h (As b)
  ·rename_i v b;obtain⟨g1,g2⟩:=Xw b;unfold sA;rw[h1,c];simp only[cb,eH,oP,vd,KI];exact⟨om,g2⟩
 ·cases h
theorem XB(h:(Bk x e).2=0)(b:e.bS=[]):sA e:=by
 unfold Bk at h;split at h
 ·rename_i a h1;have g1:=abY h;unfold sA;rw[h1,b];simp only[cb,eH,oP,vd,KI];exact⟨om,nofun⟩
 ·cases h
theorem Qf{P:Int->Prop}:∀{l:List Int},l.length % 3=0->(∀y∈di l,P y.hold/\P y.au/\P y.aU)->∀z∈l,P z:=by
 intro l;induction l using di.induct with
 |case1 a b c r ih=>
  intro h hp z hz;rw[di]at hp;simp only[ew]at h;obtain⟨p1,p2,p3⟩:=hp ⟨a,b,c⟩ RB;rcases cb.1 hz with rfl|hz
  ·exact p1
  rcases cb.1 hz with rfl|hz
  ·exact p2
  rcases cb.1 hz with rfl|hz
  ·exact p3
  exact ih om (fun y hy=>hp y (Js _ hy)) z hz
 |case2 l hl=>
  intro h _ z hz;exfalso
  match l,hl,h,hz with
  |[],_,_,hz=>cases hz
  |[_],_,h,_=>simp at h
  |[_,_],_,h,_=>simp at h
  |a::b::c::r,hl,_,_=>exact hl a b c r rfl
theorem XC(h:(we x e).2=0)(b:e.bS=[])(hn:e.nums.length % 3=0):sA e:=by
 unfold we at h;split at h
 ·cases h
 ·split at h
  ·rename_i k;exact absurd h k
  ·rename_i k;have k:=dT.1 k;unfold pS at k;split at k
   ·rename_i q;exact absurd k q
   ·rename_i q;have q:=dT.1 q;unfold mo at q;split at q
    ·cases q
    ·rename_i c0;have a:=gn (mm (dT.1 c0)).1;split at q
     ·cases q
     ·split at q
      ·cases q
      ·split at q
       ·cases q
       ·rename_i c3;split at q
        ·cases q
        ·rename_i c4;refine⟨Qf hn fun w hw=> ?_,by rw[b];nofun⟩;have d3:¬lR x.ps x.hs w=none:=fun z=>c3 (uv.2 ⟨w,hw,hM z⟩)
         have d4:¬(w.aU=0∨w.aU< -9∨9<w.aU):=fun z=>c4 (uv.2 ⟨w,hw,hM z⟩)
         unfold lR at d3;split at d3
         ·rename_i i j c g;obtain⟨l1,m1⟩:=xV c;obtain⟨l,m2⟩:=Dt g;have m:=(a.p1 _ (bx l1)).1;have n:=(a.h1 _ (bx l)).1;rw[m1]at m;rw[m2]at n;exact⟨om,om,om⟩
         ·exact absurd rfl d3
theorem Qg(h:eF H x e= .ok y):qL e:=by
 obtain⟨d,a⟩:=zh h;have b:=a.kd;have hf:=a.form;have key:(1<=e.kind/\e.kind<=12)/\(e.kind≠1->e.kind≠2->e.kind≠3->e.kind≠4->e.kind≠5->e.kind≠10->e.bS=[])/\(e.kind=7->e.nums.length % 3=0)/\(e.kind=9∨e.kind=12->e.nums=[]):=by
  unfold jm DR at hf;simp only[de,My,kl]at hf;obtain⟨⟨⟨f1,f2⟩,f3⟩,f4⟩:=hf;have lr:e.bS=[]↔e.bS.length=0:=Dv.symm;have ln:e.nums=[]↔e.nums.length=0:=Dv.symm;rw[lr,ln];unfold kd at b;by_cases g:e.kind=12
  ·rw[bm g]at b;cases b;dsimp only at f1 f2 f3 f4;omega
  rw[aq g]at b;by_cases i:e.kind=11
  ·rw[bm i]at b;cases b;dsimp only at f1 f2 f3 f4;omega
  rw[aq i]at b;by_cases j:e.kind=10
  ·rw[bm j]at b;cases b;dsimp only at f1 f2 f3 f4;omega
  rw[aq j]at b;by_cases k:e.kind=9
  ·rw[bm k]at b;cases b;dsimp only at f1 f2 f3 f4;omega
  rw[aq k]at b;by_cases l:e.kind=8
  ·rw[bm l]at b;cases b;dsimp only at f1 f2 f3 f4;omega
  rw[aq l]at b;by_cases m:e.kind=7
  ·rw[bm m]at b;cases b;dsimp only at f1 f2 f3 f4;omega
  rw[aq m]at b;by_cases n:e.kind=6
  ·rw[bm n]at b;cases b;dsimp only at f1 f2 f3 f4;omega
  rw[aq n]at b;by_cases o:e.kind=5
  ·rw[bm o]at b;cases b;dsimp only at f1 f2 f3 f4;omega
  rw[aq o]at b;by_cases w:e.kind=4
  ·rw[bm w]at b;cases b;dsimp only at f1 f2 f3 f4;omega
  rw[aq w]at b;by_cases z:e.kind=3
  ·rw[bm z]at b;cases b;dsimp only at f1 f2 f3 f4;omega
  rw[aq z]at b;by_cases A:e.kind=2
  ·rw[bm A]at b;cases b;dsimp only at f1 f2 f3 f4;omega
  rw[aq A]at b;by_cases q1:e.kind=1
  ·rw[bm q1]at b;cases b;dsimp only at f1 f2 f3 f4;omega
  rw[aq q1]at b;cases b
 obtain⟨D,c,C,B⟩:=key;have fk:=a.ok;have two:sA e:=by
  revert fk
  refine Kk (P:=fun r=>r.2=0->sA e) (fun q _=> ?_) (fun q h=>XB h (c om om om om om om)) (fun q h=>Qe h) (fun q _=> ?_) (fun q h=>Nd h (c om om om om om om)) (fun q h=>XC h (c om om om om om om) (C q)) (fun q h=>Qd h (c om om om om om om)) (fun q h=>XA h) (fun q h=>Nc h) (fun q h=>Xz h) (fun q h=>Xx h) (fun q h=>Qc h) (fun h=>by cases h)
  ·exact⟨by rw[B (.inr q)];nofun,by rw[c om om om om om om];nofun⟩
  ·exact⟨by rw[B (.inl q)];nofun,by rw[c om om om om om om];nofun⟩
 exact⟨a.id,a.tick,om,two.1,two.2⟩
end

structure Em where
 e:Ev
 a:Ea
abbrev Em.row(y:Em):List Value:=[.int .i64 y.e.id,.int .i64 y.e.tick,.int .i64 y.e.kind,y.a.n.v,y.a.r.v,y.a.t.v]
abbrev Em.val(y:Em):Value:=y.a.val y.e
abbrev iR(ys:List Em):List Ev:=ys.map Em.e
structure tn (w:World) (y:Em):Prop where
 n:bW w y.a.n.A 1 (y.e.nums.map fO)
 r:bW w y.a.r.A 1 (y.e.bS.map eD)
 t:bW w y.a.t.A 1 (y.e.texts.map eD)
 ln:y.e.nums.length=y.a.n.n
 lr:y.e.bS.length=y.a.r.n
 lt:y.e.texts.length=y.a.t.n
 bn:y.a.n.n<9223372036854775808
 br:y.a.r.n<9223372036854775808
 bt:y.a.t.n<9223372036854775808
 zn:y.a.n.A=none->y.a.n.c=0
 zr:y.a.r.A=none->y.a.r.c=0
 zt:y.a.t.A=none->y.a.t.c=0
 ir:∀z∈y.e.nums,aN .i64 z
 ik:aN .i64 y.e.kind
theorem tn.ar{w w':World}{y:Em}(h:tn w y)(hb:Below w.heap.size w w'):tn w' y:=⟨h.n.below hb,h.r.below hb,h.t.below hb,h.ln,h.lr,h.lt,h.bn,h.br,h.bt,h.zn,h.zr,h.zt,h.ir,h.ik⟩
structure Bx (w:World) (A:Option Addr) (n:Nat) (ys:List Em):Prop where
 s:bW w A 6 (ys.map Em.row)
 l:ys.length=n
 b:n<9223372036854775808
 f:∀y∈ys,tn w y
theorem Bx.ar{w w':World}{A:Option Addr}{n:Nat}{ys:List Em}(h:Bx w A n ys)(hb:Below w.heap.size w w'):Bx w' A n ys:=⟨h.s.below hb,h.l,h.b,fun y hy=>(h.f y hy).ar hb⟩
structure ET (w:World) (A:Option Addr) (n:Nat) (ys:List Em):Prop where
 s:bW w A 6 (ys.map Em.row)
 l:ys.length=n
 f:∀y∈ys,mZ w y.a y.e
 o:∀y∈ys,gQ y.e
 w:∀y∈ys,tn w y
 m:n<=40
theorem ET.ar{w w':World}{A:Option Addr}{n:Nat}{ys:List Em}(h:ET w A n ys)(hb:Below w.heap.size w w'):ET w' A n ys:=⟨h.s.below hb,h.l,fun y hy=>(h.f y hy).ar hb,h.o,fun y hy=>(h.w y hy).ar hb,h.m⟩
def EU(e:Ev):Bool:=decide (e.nums.length<=24/\e.bS.length<=9/\e.texts.length<=4)&&((e.bS.all fun s=>decide (s.size<=40))&&e.texts.all fun s=>decide (s.size<=70))
def xy(l:List Ev):Bool:=l.all EU&&decide (l.length<=40)
theorem wi{e:Ev}:EU e=true↔(e.nums.length<=24/\e.bS.length<=9/\e.texts.length<=4)/\(∀s∈e.bS,s.size<=40)/\∀s∈e.texts,s.size<=70:=by
 unfold EU;simp only[de,kl,gu]
theorem tn.ok{w:World}{y:Em}(h:tn w y)(hf:EU y.e=true):gQ y.e/\mZ w y.a y.e:=by
 obtain⟨⟨h1,b,c⟩,d,g⟩:=wi.1 hf;exact⟨⟨h1,b,c,d,g,fun z hz=>by have:=h.ir z hz;simp only[aN]at this;omega⟩,⟨h.n,h.r,h.t,h.ln,h.lr,h.lt,h1,b,c,d,g,h.zr,h.ik⟩⟩
theorem Bx.uO{w:World}{A:Option Addr}{n:Nat}{ys:List Em}(h:Bx w A n ys)(hf:xy (iR ys)=true):ET w A n ys:=by
 unfold xy at hf;rw[de,kl,en]at hf;have hl:=h.l;have ok:=fun y hy=>(h.f y hy).ok (gu.1 hf.1 y.e (QL hy))
 exact⟨h.s,h.l,fun y hy=>(ok y hy).2,fun y hy=>(ok y hy).1,h.f,om⟩
end Go.Proofs.YtmdphpnaipbfjaaGreatDoor.B

set_option maxRecDepth 100000
set_option maxHeartbeats 4000000
namespace Go.Proofs.YtmdphpnaipbfjaaGreatDoor.F
open Go Go.RowKit Go.Proofs Go.Proofs.YtmdphpnaipbfjaaGreatDoor.Vc
open Tryz
variable {A C D E G H J K A0 A1 A2 A3 A4 A5 A6 A7 A8 A9 C0 C1 C2 C3 C4 C5 C6 C7 C8 C9:O} {a b c d e f g i j l m n o a0 a1 a2 a3 a4 a5 a6 a7 a8 a9 b0 b1 b2 b3 b4 b5 b6 b7 b8 b9 c0 c1 c2 c3 c4 c5 c6 c7 c8 c9:Nat} {p q r s t u v x p0 p1 p2 p3 p4 p5 p6 p7 p8 p9 q0 q1 q2 q3 q4 q5 q6 q7 q8 q9:Int} {L M N N0 N1 N2 N3 N4 N5 N6 N7 N8 N9 T0 T1 T2 T3 T4 T5 T6 T7 T8 T9:ByteArray} {Q S:Bool} {B:Nat} {w:World} {R:Kt}
def aJ.L2(a:O)(b c:Nat)(d:Int):=Lt 5 f5 2 [vS 0 a b c,vI 3 d] []
def aJ.L8(a:O)(b c:Nat)(d e f g i:Int)(j:O)(l m:Nat)(n:O)(o p:Nat)(q:O)(r s:Nat):=Lt 5 f5 8 [vS 0 a b c,vI 3 d,vL 4,vI 5 e] [⟨4,false,33,[(I f),(I g),(I i),(vW j l m),(vW n o p),(vW q r s)]⟩]
def aJ.uC(a:O)(b c:Nat)(d e f g i:Int)(j:O)(l m:Nat)(n:O)(o p:Nat)(q:O)(r s:Nat):=Lt 5 f5 13 [vS 0 a b c,vI 3 d,vL 4,vI 6 e] [⟨4,false,33,[(I f),(I g),(I i),(vW j l m),(vW n o p),(vW q r s)]⟩]
def aJ.cx:Pm:=([((true,2),[0,3],[]),((true,8),[0,3,4,5],[4]),((true,13),[0,3,4,6],[4])],[])
theorem aJ.L2.step
  (h:(Br (p<(a:Int)) (Ix p a A fun v=>(∃f g i j c l m d n o e q,aa w (v.add ((p).toNat*6)) [I f,I g,I i,vW j c l,vW m d n,vW o e q]/\(Br ((c:Int)>24) (∀r,Ext B [] w r->(R (.bool false) r)) (Br ((d:Int)>9) (∀s,Ext B [] w s->(R (.bool false) s)) (Br ((e:Int)>4) (∀t,Ext B [] w t->(R (.bool false) t)) (∀u,Ext B [] w u->(aJ.L8 A a b p (0:Int) f g i j c l m d n o e q B u R))))))) (R (.bool (decide ((a:Int)<=(40:Int)))) w))):
  aJ.L2 A a b p B w R:=
 lr aJ.cx func5 h
theorem aJ.L8.step
  (h:(Br (p<(a:Int)) (Ix p a A fun l=>(∃j,aa w (l.add ((p).toNat*1)) [vU j]/\(Br (((ByteArray.size j:Int):Int)>40) (R (.bool false) w) (aN .i64 (p+1)/\(aJ.L8 C b c q (p+1) r s t D d e A a f E g i B w R))))) (aJ.uC C b c q (0:Int) r s t D d e A a f E g i B w R))):
  aJ.L8 C b c q p r s t D d e A a f E g i B w R:=
 lr aJ.cx func5 h
theorem aJ.uC.step
  (h:(Br (p<(a:Int)) (Ix p a C fun l=>(∃j,aa w (l.add ((p).toNat*1)) [vU j]/\(Br (((ByteArray.size j:Int):Int)>70) (R (.bool false) w) (aN .i64 (p+1)/\(aJ.uC A b c q (p+1) r s t D d e E f g C a i B w R))))) (aN .i64 (q+1)/\(aJ.L2 A b c (q+1) B w R)))):
  aJ.uC A b c q p r s t D d e E f g C a i B w R:=
 lr aJ.cx func5 h
theorem aJ.vc
  (h:(aJ.L2 A a b (0:Int) w.heap.size w R)):
  Pure P 5 #[vW A a b] w R:=
 pr aJ.cx func5 h

def aA.L4(a:Int)(b:O)(c d:Nat)(e:O)(f g:Nat)(i:O)(j l:Nat)(m:O)(n o:Nat)(p:O)(q r:Nat)(s:Int)(t:O)(u v:Nat)(x:O)(y z:Nat)(A:O)(C D:Nat)(E:O)(G H:Nat)(J:O)(K L:Nat)(M:O)(N Q:Nat)(S T:Int)(U:O)(V X:Nat)(Y:O)(Z d0:Nat)(d1:O)(d2 d3:Nat)(d4:O)(d5 d6:Nat)(d7:O)(d8 d9:Nat)(h:Int)(k:O)(F P:Nat)(W:O)(e5 e6:Nat)(e7:O)(e8 e9:Nat)(g0:O)(g1 g2:Nat)(g3:O)(g4 g5:Nat)(g6:O)(g7 g8:Nat)(g9 j0:Int):=Lt 12 f12 4 [vL 2,vL 3,vI 5 a] [⟨2,false,57,[(vW b c d),(vW e f g),(vW i j l),(vW m n o),(vW p q r),(I s),(vW t u v),(vW x y z),(vW A C D),(vW E G H),(vW J K L),(vW M N Q),(I S),(I T)]⟩,⟨3,false,57,[(vW U V X),(vW Y Z d0),(vW d1 d2 d3),(vW d4 d5 d6),(vW d7 d8 d9),(I h),(vW k F P),(vW W e5 e6),(vW e7 e8 e9),(vW g0 g1 g2),(vW g3 g4 g5),(vW g6 g7 g8),(I g9),(I j0)]⟩]
def aA.L9(a:Int)(b:O)(c d:Nat)(e:O)(f g:Nat)(i:O)(j l:Nat)(m:O)(n o:Nat)(p:O)(q r:Nat)(s:Int)(t:O)(u v:Nat)(x:O)(y z:Nat)(A:O)(C D:Nat)(E:O)(G H:Nat)(J:O)(K L:Nat)(M:O)(N Q:Nat)(S T:Int)(U:O)(V X:Nat)(Y:O)(Z d0:Nat)(d1:O)(d2 d3:Nat)(d4:O)(d5 d6:Nat)(d7:O)(d8 d9:Nat)(h:Int)(k:O)(F P:Nat)(W:O)(e5 e6:Nat)(e7:O)(e8 e9:Nat)(g0:O)(g1 g2:Nat)(g3:O)(g4 g5:Nat)(g6:O)(g7 g8:Nat)(g9 j0:Int):=Lt 12 f12 9 [vL 2,vL 3,vI 6 a] [⟨2,false,57,[(vW b c d),(vW e f g),(vW i j l),(vW m n o),(vW p q r),(I s),(vW t u v),(vW x y z),(vW A C D),(vW E G H),(vW J K L),(vW M N Q),(I S),(I T)]⟩,⟨3,false,57,[(vW U V X),(vW Y Z d0),(vW d1 d2 d3),(vW d4 d5 d6),(vW d7 d8 d9),(I h),(vW k F P),(vW W e5 e6),(vW e7 e8 e9),(vW g0 g1 g2),(vW g3 g4 g5),(vW g6 g7 g8),(I g9),(I j0)]⟩]
def aA.zb(a:Int)(b:O)(c d:Nat)(e:O)(f g:Nat)(i:O)(j l:Nat)(m:O)(n o:Nat)(p:O)(q r:Nat)(s:Int)(t:O)(u v:Nat)(x:O)(y z:Nat)(A:O)(C D:Nat)(E:O)(G H:Nat)(J:O)(K L:Nat)(M:O)(N Q:Nat)(S T:Int)(U:O)(V X:Nat)(Y:O)(Z d0:Nat)(d1:O)(d2 d3:Nat)(d4:O)(d5 d6:Nat)(d7:O)(d8 d9:Nat)(h:Int)(k:O)(F P:Nat)(W:O)(e5 e6:Nat)(e7:O)(e8 e9:Nat)(g0:O)(g1 g2:Nat)(g3:O)(g4 g5:Nat)(g6:O)(g7 g8:Nat)(g9 j0:Int):=Lt 12 f12 14 [vL 2,vL 3,vI 7 a] [⟨2,false,57,[(vW b c d),(vW e f g),(vW i j l),(vW m n o),(vW p q r),(I s),(vW t u v),(vW x y z),(vW A C D),(vW E G H),(vW J K L),(vW M N Q),(I S),(I T)]⟩,⟨3,false,57,[(vW U V X),(vW Y Z d0),(vW d1 d2 d3),(vW d4 d5 d6),(vW d7 d8 d9),(I h),(vW k F P),(vW W e5 e6),(vW e7 e8 e9),(vW g0 g1 g2),(vW g3 g4 g5),(vW g6 g7 g8),(I g9),(I j0)]⟩]
def aA.cx:Pm:=([((true,4),[2,3,5],[2,3]),((true,9),[2,3,6],[2,3]),((true,14),[2,3,7],[2,3])],[])
theorem aA.L4.step{c d e f g i j l m n a o x y z L M N O Q S T U V X Y Z d0 d1 d2 d3 d4 b d5 d6 d7 d8 d9 k F P W e4 e5 B:Nat}
  (h:(Br (p<(a:Int)) (Ix p a A fun a5=>(∃i6 s7 s8 s9 g0 g1 g2,aa w (a5.add ((p).toNat*7)) [I i6,vU s7,vU s8,vU s9,vU g0,vU g1,vU g2]/\(Ix p b C fun j3=>(∃g3 g4 g5 g6 g7 g8 g9,aa w (j3.add ((p).toNat*7)) [I g3,vU g4,vU g5,vU g6,vU g7,vU g8,vU g9]/\(Br (¬(i6=g3/\s7=g4/\s8=g5/\s9=g6/\g0=g7/\g1=g8/\g2=g9/\True)) (∀j0,Ext B [] w j0->(R (.bool false) j0)) (aN .i64 (p+1)/\(∀j1,Ext B [] w j1->(aA.L4 (p+1) D c d E e f G g i H j l J m n q A a o K x y A0 z L A1 M N A2 O Q A3 S T r s A4 U V A5 X Y A6 Z d0 A7 d1 d2 A8 d3 d4 t C b d5 A9 d6 d7 C0 d8 d9 C1 k F C2 P W C3 e4 e5 u v B j1 R)))))))) (aA.L9 (0:Int) D c d E e f G g i H j l J m n q A a o K x y A0 z L A1 M N A2 O Q A3 S T r s A4 U V A5 X Y A6 Z d0 A7 d1 d2 A8 d3 d4 t C b d5 A9 d6 d7 C0 d8 d9 C1 k F C2 P W C3 e4 e5 u v B w R))):
  aA.L4 p D c d E e f G g i H j l J m n q A a o K x y A0 z L A1 M N A2 O Q A3 S T r s A4 U V A5 X Y A6 Z d0 A7 d1 d2 A8 d3 d4 t C b d5 A9 d6 d7 C0 d8 d9 C1 k F C2 P W C3 e4 e5 u v B w R:=
 lr aA.cx func12 h
theorem aA.L9.step{c d e f g i j l m n o x y z a L M N O Q S T U V X Y Z d0 d1 d2 d3 d4 d5 d6 d7 d8 b d9 k F P W e4 e5 B:Nat}
  (h:(Br (p<(a:Int)) (Ix p a A fun j4=>(∃e6 e7 e8 e9 g0 g1 g2 g3,aa w (j4.add ((p).toNat*8)) [I e6,I e7,I e8,I e9,.bool g0,vU g1,vU g2,vU g3]/\(Ix p b C fun j5=>(∃g4 g5 g6 g7 g8 g9 j0 j1,aa w (j5.add ((p).toNat*8)) [I g4,I g5,I g6,I g7,.bool g8,vU g9,vU j0,vU j1]/\(Br (¬(e6=g4/\e7=g5/\e8=g6/\e9=g7/\g0=g8/\g1=g9/\g2=j0/\g3=j1/\True)) (∀j2,Ext B [] w j2->(R (.bool false) j2)) (aN .i64 (p+1)/\(∀j3,Ext B [] w j3->(aA.L9 (p+1) D c d E e f G g i H j l J m n q K o x A0 y z A a L A1 M N A2 O Q A3 S T r s A4 U V A5 X Y A6 Z d0 A7 d1 d2 A8 d3 d4 t A9 d5 d6 C0 d7 d8 C b d9 C1 k F C2 P W C3 e4 e5 u v B j3 R)))))))) (aA.zb (0:Int) D c d E e f G g i H j l J m n q K o x A0 y z A a L A1 M N A2 O Q A3 S T r s A4 U V A5 X Y A6 Z d0 A7 d1 d2 A8 d3 d4 t A9 d5 d6 C0 d7 d8 C b d9 C1 k F C2 P W C3 e4 e5 u v B w R))):
  aA.L9 p D c d E e f G g i H j l J m n q K o x A0 y z A a L A1 M N A2 O Q A3 S T r s A4 U V A5 X Y A6 Z d0 A7 d1 d2 A8 d3 d4 t A9 d5 d6 C0 d7 d8 C b d9 C1 k F C2 P W C3 e4 e5 u v B w R:=
 lr aA.cx func12 h
theorem aA.zb.step{b c d e f g i j l m d8 d9 n o k F x y a W z L M N O Q S T U V X Y e3 e4 Z d0 e5 e6 d1 d2 d3 e7 d4 d5 B:Nat}
  (h:(Br (p<(a:Int)) (Ix p a K fun j2=>(∃e8 e9 g0 g1,aa w (j2.add ((p).toNat*4)) [I e8,I e9,vU g0,vU g1]/\(Ix p d3 A8 fun j3=>(∃g2 g3 g4 g5,aa w (j3.add ((p).toNat*4)) [I g2,I g3,vU g4,vU g5]/\(Br (¬(e8=g2/\e9=g3/\g0=g4/\g1=g5/\True)) (∀g6,Ext B [] w g6->(R (.bool false) g6)) (aN .i64 (p+1)/\(∀g7,Ext B [] w g7->(aA.zb (p+1) A b c C d e D f g E i j G l m q C0 d8 d9 H n o C1 k F J x y K a W A0 z L r s A1 M N A2 O Q A3 S T A4 U V A5 X Y t C2 e3 e4 A6 Z d0 C3 e5 e6 A7 d1 d2 A8 d3 e7 A9 d4 d5 u v B g7 R)))))))) (Pure P 33 #[.agg #[vW A b c,vW C d e,vW D f g],.agg #[vW A1 M N,vW A2 O Q,vW A3 S T]] w (Rb fun j4 g8=>(Bb j4 (Pure P 34 #[vW E i j,vW A4 U V] g8 (Rb fun j5 g9=>(Bb j5 (Pure P 35 #[vW G l m,vW A5 X Y] g9 (Rb fun j6 d6=>(Bb j6 (Br (q=t) (Pure P 36 #[vW H n o,vW A6 Z d0] d6 (Rb fun j7 j0=>(Bb j7 (Pure P 37 #[vW J x y,vW A7 d1 d2] j0 (Rb fun j8 j1=>(Bb j8 (Pure P 38 #[vW A0 z L,vW A9 d4 d5] j1 (Rb fun j9 d7=>(Bb j9 (Br (r=u) (R (.bool (decide (s=v))) d7) (R (.bool false) d7)) (R (.bool false) d7)))) (R (.bool false) j1)))) (R (.bool false) j0)))) (R (.bool false) d6)) (R (.bool false) d6)))) (R (.bool false) g9)))) (R (.bool false) g8)))))):
  aA.zb p A b c C d e D f g E i j G l m q C0 d8 d9 H n o C1 k F J x y K a W A0 z L r s A1 M N A2 O Q A3 S T A4 U V A5 X Y t C2 e3 e4 A6 Z d0 C3 e5 e6 A7 d1 d2 A8 d3 e7 A9 d4 d5 u v B w R:=
 lr aA.cx func12 h
theorem aA.vc{g i j l m n o v x y a z L M b N O Q c S T U V X Y Z d0 d1 d2 d3 d4 d5 d d6 d7 d8 e d9 k F f W e3 e4:Nat}
  (h:(Br ((a:Int)≠(d:Int)) (∀w1,Ext w.heap.size [] w w1->(R (.bool false) w1)) (Br ((b:Int)≠(e:Int)) (∀w2,Ext w.heap.size [] w w2->(R (.bool false) w2)) (Br ((c:Int)≠(f:Int)) (∀w3,Ext w.heap.size [] w w3->(R (.bool false) w3)) (∀w4,Ext w.heap.size [] w w4->(aA.L4 (0:Int) A g i C j l D m n E o v G x y p H a z J L M K b N A0 O Q A1 c S A2 T U q r A3 V X A4 Y Z A5 d0 d1 A6 d2 d3 A7 d4 d5 s A8 d d6 A9 d7 d8 C0 e d9 C1 k F C2 f W C3 e3 e4 t u w.heap.size w4 R)))))):
  Pure P 12 #[.agg #[vW A g i,vW C j l,vW D m n,vW E o v,vW G x y,I p,vW H a z,vW J L M,vW K b N,vW A0 O Q,vW A1 c S,vW A2 T U,I q,I r],.agg #[vW A3 V X,vW A4 Y Z,vW A5 d0 d1,vW A6 d2 d3,vW A7 d4 d5,I s,vW A8 d d6,vW A9 d7 d8,vW C0 e d9,vW C1 k F,vW C2 f W,vW C3 e3 e4,I t,I u]] w R:=
 pr aA.cx func12 h

def bw.L3(a:O)(b c:Nat)(d:O)(e f:Nat)(g:Int):=Lt 21 f21 3 [vS 0 a b c,vS 3 d e f,vI 4 g] []
def bw.cx:Pm:=([((true,3),[0,3,4],[])],[(5,6,2),(5,7,2)])
theorem bw.L3.step
  (h:(Br (p<(a:Int)) (Ix p a A fun L=>(∃e f g i j l m n o q r s,aa w (L.add ((p).toNat*6)) [I e,I f,I g,vW i j l,vW m n o,vW q r s]/\(Pure P 49 #[.agg #[I e,I f,I g,vW i j l,vW m n o,vW q r s]] w fun M N=>∃t u v x y z D E G H J K,M= .agg #[I t,I u,I v,vW x y z,vW D E G,vW H J K]/\(ae P (Instr.buildSlice 22 1 #[(0,(.agg #[I t,I u,I v,vW x y z,vW D E G,vW H J K]))]) B [] N (Rs fun O Q S T=>(ae P (Builtin.append_ #[22,22] 22 #[vW C b c,vW O Q S]) B [] T (Rs fun U V X Y=>(aN .i64 (p+1)/\(bw.L3 A a d U V X (p+1) B Y R))))))))) (R (vW C b c) w))):
  bw.L3 A a d C b c p B w R:=
 lr bw.cx func21 h
theorem bw.vc
  (h:(bw.L3 A a b none 0 0 (0:Int) w.heap.size w R)):
  Pure P 21 #[vW A a b] w R:=
 pr bw.cx func21 h

def lV.cx:Pm:=([],[(2,0,2),(2,3,2),(3,0,2),(3,3,2),(4,0,2),(4,3,2),(5,0,2),(5,3,2),(6,0,2),(6,3,2),(7,0,2),(7,3,2),(8,0,2),(8,3,2),(9,0,2),(9,3,2)])
theorem lV.vc
  (h:(∀s,Ext w.heap.size [] w s->(Pure P 50 #[.agg #[vW A a b,vW C c d,vW D e f]] s (Rp fun O Q S T U V X Y Z k=>(∀t,Ext w.heap.size [57] k t->(ae P (Instr.buildSlice 48 0 #[]) w.heap.size [57,57] t (Rs fun A8 F c8 d4=>(ae P (Builtin.append_ #[48,48] 48 #[vW A8 F c8,vW E g i]) w.heap.size [57,57] d4 (Rs fun d5 d6 d7 d8=>(∀u,Ext w.heap.size [57] d8 u->(ae P (Instr.buildSlice 49 0 #[]) w.heap.size [57,57] u (Rs fun d9 W e1 e2=>(ae P (Builtin.append_ #[49,49] 49 #[vW d9 W e1,vW G j l]) w.heap.size [57,57] e2 (Rs fun e3 e4 e5 e6=>(∀v,Ext w.heap.size [57] e6 v->(ae P (Instr.buildSlice 50 0 #[]) w.heap.size [57,57] v (Rs fun e7 e8 e9 g0=>(ae P (Builtin.append_ #[50,50] 50 #[vW e7 e8 e9,vW H m n]) w.heap.size [57,57] g0 (Rs fun g1 g2 g3 g4=>(∀x,Ext w.heap.size [57] g4 x->(ae P (Instr.buildSlice 51 0 #[]) w.heap.size [57,57] x (Rs fun g5 g6 g7 g8=>(ae P (Builtin.append_ #[51,51] 51 #[vW g5 g6 g7,vW J o a0]) w.heap.size [57,57] g8 (Rs fun g9 j0 j1 j2=>(∀y,Ext w.heap.size [57] j2 y->(ae P (Instr.buildSlice 52 0 #[]) w.heap.size [57,57] y (Rs fun j3 j4 j5 j6=>(ae P (Builtin.append_ #[52,52] 52 #[vW j3 j4 j5,vW K a1 a2]) w.heap.size [57,57] j6 (Rs fun j7 j8 j9 l0=>(∀z,Ext w.heap.size [57] l0 z->(ae P (Instr.buildSlice 53 0 #[]) w.heap.size [57,57] z (Rs fun l1 l2 l3 l4=>(ae P (Builtin.append_ #[53,53] 53 #[vW l1 l2 l3,vW A0 a3 a4]) w.heap.size [57,57] l4 (Rs fun l5 l6 l7 l8=>(∀L,Ext w.heap.size [57] l8 L->(ae P (Instr.buildSlice 54 0 #[]) w.heap.size [57,57] L (Rs fun l9 m0 m1 m2=>(ae P (Builtin.append_ #[54,54] 54 #[vW l9 m0 m1,vW A1 a5 a6]) w.heap.size [57,57] m2 (Rs fun m3 m4 m5 m6=>(∀M,Ext w.heap.size [57] m6 M->(ae P (Instr.buildSlice 55 0 #[]) w.heap.size [57,57] M (Rs fun m7 m8 m9 n0=>(ae P (Builtin.append_ #[55,55] 55 #[vW m7 m8 m9,vW A2 a7 a8]) w.heap.size [57,57] n0 (Rs fun n1 n2 n3 n4=>(∀N,Ext w.heap.size [57] n4 N->(R (.agg #[vW O Q S,vW T U V,vW X Y Z,vW d5 d6 d7,vW e3 e4 e5,I p,vW g1 g2 g3,vW g9 j0 j1,vW j7 j8 j9,vW l5 l6 l7,vW m3 m4 m5,vW n1 n2 n3,I q,I r]) N)))))))))))))))))))))))))))))))))))))))))))))):
  Pure P 22 #[.agg #[vW A a b,vW C c d,vW D e f,vW E g i,vW G j l,I p,vW H m n,vW J o a0,vW K a1 a2,vW A0 a3 a4,vW A1 a5 a6,vW A2 a7 a8,I q,I r]] w R:=
 pr lV.cx func22 h

end Go.Proofs.YtmdphpnaipbfjaaGreatDoor.F

set_option maxRecDepth 100000
set_option maxHeartbeats 4000000
namespace Go.Proofs.YtmdphpnaipbfjaaGreatDoor.F
open Go Go.RowKit Go.Proofs Go.Proofs.YtmdphpnaipbfjaaGreatDoor.Vc
open Tryz
variable {A C D E G H J K A0 A1 A2 A3 A4 A5 A6 A7 A8 A9 C0 C1 C2 C3 C4 C5 C6 C7 C8 C9:O} {a b c d e f g i j l m n o a0 a1 a2 a3 a4 a5 a6 a7 a8 a9 b0 b1 b2 b3 b4 b5 b6 b7 b8 b9 c0 c1 c2 c3 c4 c5 c6 c7 c8 c9:Nat} {p q r s t u v x p0 p1 p2 p3 p4 p5 p6 p7 p8 p9 q0 q1 q2 q3 q4 q5 q6 q7 q8 q9:Int} {L M N N0 N1 N2 N3 N4 N5 N6 N7 N8 N9 T0 T1 T2 T3 T4 T5 T6 T7 T8 T9:ByteArray} {Q S:Bool} {B:Nat} {w:World} {R:Kt}
def iP.cx:Pm:=([],[(1,0,2),(1,3,2),(2,0,2),(2,3,2),(3,0,2),(3,3,2)])
theorem iP.vc
  (h:(∀g,Ext w.heap.size [] w g->(ae P (Instr.buildSlice 29 0 #[]) w.heap.size [33,33] g (Rs fun m n o s=>(ae P (Builtin.append_ #[29,29] 29 #[vW m n o,vW A a b]) w.heap.size [33,33] s (Rs fun t u v x=>(∀i,Ext w.heap.size [33] x i->(ae P (Instr.buildSlice 30 0 #[]) w.heap.size [33,33] i (Rs fun y z E G=>(ae P (Builtin.append_ #[30,30] 30 #[vW y z E,vW C c d]) w.heap.size [33,33] G (Rs fun H J K L=>(∀j,Ext w.heap.size [33] L j->(ae P (Instr.buildSlice 31 0 #[]) w.heap.size [33,33] j (Rs fun M N O Q=>(ae P (Builtin.append_ #[31,31] 31 #[vW M N O,vW D e f]) w.heap.size [33,33] Q (Rs fun S T U V=>(∀l,Ext w.heap.size [33] V l->(R (.agg #[I p,I q,I r,vW t u v,vW H J K,vW S T U]) l)))))))))))))))))):
  Pure P 49 #[.agg #[I p,I q,I r,vW A a b,vW C c d,vW D e f]] w R:=
 pr iP.cx func49 h

end Go.Proofs.YtmdphpnaipbfjaaGreatDoor.F

namespace Go.Proofs.YtmdphpnaipbfjaaGreatDoor.B
open Go Go.RowKit Go.Proofs Go.Proofs.YtmdphpnaipbfjaaGreatDoor.Vc

theorem kG:El Tryz.prog 31 9 1 16:=El.of kF
theorem sB:El Tryz.prog 22 33 6 96:=El.of kF
theorem wQ(l:List ByteArray):(∀r∈l.map eD,r.length=1)/\∀r∈l.map eD,∀u∈r,bk u=true:=fH (fun _=>rfl) (fun x u h=>by simp only[eD,eb]at h;rw[h];rfl)
theorem XD(l:List Int):(∀r∈l.map fO,r.length=1)/\∀r∈l.map fO,∀u∈r,bk u=true:=fH (fun _=>rfl) (fun x u h=>by simp only[fO,eb]at h;rw[h];rfl)
theorem nm{t ty e sz bytes:Nat}(el:El Tryz.prog t e sz bytes){B:Nat}{tys:List Nat}{w:World}{A2:Option Addr}{m c2:Nat}{more:List (List Value)}(i:bW w A2 sz more)(hm:more.length=m)(d:(∀r∈more,r.length=sz)/\∀r∈more,∀u∈r,bk u=true)(hz:A2=none->c2=0)
  (hB:B<=w.heap.size) (lz:m*(bytes+1)<=140737488355328) (j:e∉tys) {K:Option Addr->Nat->Nat->World->Prop} (h:∀A' c' a,ay a w.heap.size e A' m c' sz more->Below w.heap.size w a->K A' m c' a):
  ae Tryz.prog (Instr.buildSlice t 0 #[]) B tys w fun r w1=>∃A n c,r= .slice A n c/\
   ae Tryz.prog (Builtin.append_ #[t,t] ty #[.slice A n c,.slice A2 m c2]) B tys w1 fun r a=>∃A n c,r= .slice A n c/\K A n c a:=by
 refine aW el [] sm sm hB fun A c a o b=> ?_
 refine vt el (B:=w.heap.size) hB (by simpa using o) (i.below b) hm d.1 d.2 hz b.size (by simpa using lz) j fun A' c' k g _ l=> ?_
 simp only[za,mC,u0]at g⊢;exact h A' c' k g (b.trans l)
section
variable {w:World} {A:Option Addr} {n c:Nat} {ys:List Em}
theorem XE{i:Nat}(hi:i<ys.length)(h:EU ys[i].e=false):xy (iR ys)=false:=by
 unfold xy;rw[all_false (x:=ys[i].e) (QL (bx hi)) h,Lu]
theorem XF(h:Bx w A n ys):Pure Tryz.prog 5 #[.slice A n c] w fun v _=>v= .bool (xy (iR ys)):=by
 have hl:=h.l;have hn:=h.b;have key:∀(d i:Nat)(w':World),n - i=d->i<=n->Below w.heap.size w w'->(∀y∈ys.take i,EU y.e=true)->F.aJ.L2 A n c i w.heap.size w' fun v _=>v= .bool (xy (iR ys)):=by
  intro d;induction d with
  |zero=>
   intro i w' I hi hw ha;rw[cc om]at ha;refine F.aJ.L2.step ⟨fun h=>by omega,fun _=>ca Value.bool ?_⟩;unfold xy;rw[gu.2 fun r m=>by
    obtain⟨x,hx,rfl⟩:=iu.1 m;exact ha x hx,zi,ky,en]
   omega
  |succ d ih=>
   intro i w' I hi hw ha;have D:i<ys.length:=om;have J:=sc i;obtain⟨hb,a,C,g,_⟩:=((h.ar hw).s).at_ (row:=Em.row) (fun _=>rfl) hl D;have raw:=h.f _ (bx D);have ln:=raw.ln;have lr:=raw.lr;have lt:=raw.lt;have br:=raw.br;have bt:=raw.bt;have bad:EU ys[i].e=false->∀o:World,(fun(v:Value) (_:World)=>v= .bool (xy (iR ys))) (.bool false) o:=fun k _=>by
    show Value.bool false=_;rw[XE D k]
   have z:¬(ys[i].e.nums.length<=24/\ys[i].e.bS.length<=9/\ys[i].e.texts.length<=4)->EU ys[i].e=false:=fun k=>by
    unfold EU;rw[eL k,Lu]
   refine F.aJ.L2.step ⟨fun _=>⟨hb,a,C,_,_,_,_,_,_,_,_,_,_,_,_,g,fun K o _=>bad (z om) o,fun K=>⟨fun L o _=>bad (z om) o,fun L=>⟨fun M o _=>bad (z om) o,fun M N O=> ?_⟩⟩⟩,fun h=>by omega⟩;have last:∀(e j:Nat)(w':World),ys[i].a.t.n - j=e->j<=ys[i].a.t.n->Below w.heap.size w w'->(∀s∈ys[i].e.bS,s.size<=40)->(∀s∈ys[i].e.texts.take j,s.size<=70)->
     F.aJ.uC A n c i j ys[i].e.id ys[i].e.tick ys[i].e.kind ys[i].a.n.A ys[i].a.n.n ys[i].a.n.c ys[i].a.r.A ys[i].a.r.n ys[i].a.r.c ys[i].a.t.A ys[i].a.t.n ys[i].a.t.c w.heap.size w' fun v _=>v= .bool (xy (iR ys)):=by
    intro e;induction e with
    |zero=>
     intro j w' he hj hw m E;rw[cc om]at E;refine F.aJ.uC.step ⟨fun h=>by omega,fun _=>⟨ir,?_⟩⟩;rw[J];refine ih (i+1) w' om om hw fun y hy=> ?_
     rw[gv,af D]at hy;rcases fJ.1 hy with hy|hy
     ·exact ha y hy
     ·simp only[Lx,eb]at hy;subst hy;exact wi.2 ⟨⟨om,om,om⟩,m,E⟩
    |succ e G=>
     intro j w' he hj hw m E;have B:j<ys[i].e.texts.length:=om;obtain⟨hb,a,C,g,_⟩:=(raw.t.below hw).at_ (row:=eD) (fun _=>rfl) lt B;refine F.aJ.uC.step ⟨fun _=>⟨hb,a,C,_,g,fun k=>bad (MC.2 fun q=> ?_) w',fun k=>⟨ir,?_⟩⟩,fun h=>by omega⟩
     ·have:=(wi.1 q).2.2 _ (bx B);omega
     ·rw[show(j:Int)+1=((j+1:Nat):Int) by omega];refine G (j+1) w' om om hw m fun s hs=> ?_
      rw[gv,af B]at hs;rcases fJ.1 hs with hs|hs
      ·exact E s hs
      ·simp only[Lx,eb]at hs;subst hs;omega
   have H:∀(e j:Nat)(w':World),ys[i].a.r.n - j=e->j<=ys[i].a.r.n->Below w.heap.size w w'->(∀s∈ys[i].e.bS.take j,s.size<=40)->
     F.aJ.L8 A n c i j ys[i].e.id ys[i].e.tick ys[i].e.kind ys[i].a.n.A ys[i].a.n.n ys[i].a.n.c ys[i].a.r.A ys[i].a.r.n ys[i].a.r.c ys[i].a.t.A ys[i].a.t.n ys[i].a.t.c w.heap.size w' fun v _=>v= .bool (xy (iR ys)):=by
    intro e;induction e with
    |zero=>
     intro j w' he hj hw m;rw[cc om]at m;exact F.aJ.L8.step ⟨fun h=>by omega,fun _=>last _ 0 w' rfl om hw m sm⟩
    |succ e G=>
     intro j w' he hj hw m;have B:j<ys[i].e.bS.length:=om;obtain⟨hb,a,C,g,_⟩:=(raw.r.below hw).at_ (row:=eD) (fun _=>rfl) lr B;refine F.aJ.L8.step ⟨fun _=>⟨hb,a,C,_,g,fun k=>bad (MC.2 fun q=> ?_) w',fun k=>⟨ir,?_⟩⟩,fun h=>by omega⟩
     ·have:=(wi.1 q).2.1 _ (bx B);omega
     ·rw[show(j:Int)+1=((j+1:Nat):Int) by omega];refine G (j+1) w' om om hw fun s hs=> ?_
      rw[gv,af B]at hs;rcases fJ.1 hs with hs|hs
      ·exact m s hs
      ·simp only[Lx,eb]at hs;subst hs;omega
   exact H _ 0 N rfl om (kE hw O) sm
 exact F.aJ.vc (key n 0 w rfl om (Below.refl _ _) sm)
structure nC (w:World) (B:Nat) (a:Ea) (e:Ev):Prop where
 n:ay w B 3 a.n.A a.n.n a.n.c 1 (e.nums.map fO)
 r:ay w B 75 a.r.A a.r.n a.r.c 1 (e.bS.map eD)
 t:ay w B 9 a.t.A a.t.n a.t.c 1 (e.texts.map eD)
theorem nC.below{w w':World}{B:Nat}{a:Ea}{e:Ev}(h:nC w B a e)(hb:Below w.heap.size w w'):nC w' B a e:=⟨h.n.below hb,h.r.below hb,h.t.below hb⟩
theorem nC.bH{w w':World}{B:Nat}{a:Ea}{e:Ev}(h:nC w B a e)(s:bA 33 w w'):nC w' B a e:=⟨h.n.bH s dc,h.r.bH s dc,h.t.bH s dc⟩
theorem nC.base{w:World}{B b:Nat}{a:Ea}{e:Ev}(h:nC w B a e)(hb:b<=B):nC w b a e:=⟨h.n.base hb,h.r.base hb,h.t.base hb⟩
theorem nC.raw{w:World}{B:Nat}{a:Ea}{e:Ev}(h:nC w B a e)(ok:gQ e)(b:aN .i64 e.kind):tn w ⟨e,a⟩:=by
 have l1:=h.n.rows;have d:=h.r.rows;have g:=h.t.rows;have m1:=ok.mn;have m2:=ok.mr;have m3:=ok.mt;exact⟨h.n.sl,h.r.sl,h.t.sl,l1,d,g,by show a.n.n<_;omega,by show a.r.n<_;omega,by show a.t.n<_;omega,h.n.th,h.r.th,h.t.th,fun z hz=>by have:=ok.ir z hz;simp only[aN];omega,b⟩
theorem gQ.uO{e:Ev}(ok:gQ e):EU e=true:=wi.2 ⟨⟨ok.mn,ok.mr,ok.mt⟩,ok.sr,ok.st⟩
theorem EV{y:Em}(h:tn w y)(ok:gQ y.e):Pure Tryz.prog 49 #[y.val] w fun v w'=>∃q,v=q.val y.e/\nC w' w.heap.size q y.e:=by
 have l1:=h.ln;have D:=h.lr;have E:=h.lt;have m1:=ok.mn;have m2:=ok.mr;have m3:=ok.mt;refine F.iP.vc fun w1 x1=> ?_
 have b:=k0 x1;refine nm gM (h.n.below b) (by rw[en];exact l1) (XD _) h.zn b.size om dc fun A5 c5 G H I P x=> ?_
 have J:=kP b I;have d:=kE J x;refine nm lD (h.r.below d) (by rw[en];exact D) (wQ _) h.zr d.size om dc fun g c12 K i z Q B=> ?_
 have L:=kP d z;have j:=kE L B;refine nm kG (h.t.below j) (by rw[en];exact E) (wQ _) h.zt j.size om dc fun k l M m N o O=> ?_
 have C:bA 33 M o:=bA.ext O;have s2:bA 33 K o:=(bA.ext B).trans ((bA.low N).trans C);have s1:bA 33 G o:=(bA.ext x).trans ((bA.low z).trans s2);exact⟨⟨⟨A5,y.a.n.n,c5⟩,⟨g,y.a.r.n,c12⟩,⟨k,y.a.t.n,l⟩⟩,rfl,(H.bH s1 dc).base b.size,(i.bH s2 dc).base d.size,(m.bH C dc).base j.size⟩
structure iT (w:World) (B:Nat) (A:Option Addr) (n c:Nat) (ys:List Em):Prop where
 s:ay w B 33 A n c 6 (ys.map Em.row)
 f:∀y∈ys,nC w B y.a y.e
 o:∀y∈ys,gQ y.e/\aN .i64 y.e.kind
theorem iT.below{w w':World}{B:Nat}{A:Option Addr}{n c:Nat}{ys:List Em}(h:iT w B A n c ys)(hb:Below w.heap.size w w'):iT w' B A n c ys:=⟨h.s.below hb,fun y hy=>(h.f y hy).below hb,h.o⟩
theorem iT.ze{w:World}{B:Nat}{A:Option Addr}{n c:Nat}{ys:List Em}(h:iT w B A n c ys)(hn:n<=40):ET w A n ys:=
 ⟨h.s.sl,h.s.rows,fun y hy=>(((h.f y hy).raw (h.o y hy).1 (h.o y hy).2).ok (h.o y hy).1.uO).2,fun y hy=>(h.o y hy).1,fun y hy=>(h.f y hy).raw (h.o y hy).1 (h.o y hy).2,hn⟩
theorem DT(h:ET w A n ys):Pure Tryz.prog 21 #[.slice A n c] w fun v w'=>∃A' c' zs,v= .slice A' n c'/\iT w' w.heap.size A' n c' zs/\iR zs=iR ys:=by
 have hl:=h.l;have hm:=h.m;have key:∀(d i:Nat)(k:Option Addr)(no co:Nat)(zs:List Em)(w':World),n - i=d->i<=n->Below w.heap.size w w'->iT w' w.heap.size k no co zs->iR zs=iR (ys.take i)->
   F.bw.L3 A n c k no co i w.heap.size w' fun v w'=>∃A' c' zs,v= .slice A' n c'/\iT w' w.heap.size A' n c' zs/\iR zs=iR ys:=by
  intro d;induction d with
  |zero=>
   intro i k no co zs w' D hi hw ho he;rw[cc om]at he;refine F.bw.L3.step ⟨fun h=>by omega,fun _=> ?_⟩;have h1:=ho.s.rows;have q:=ca List.length he;rw[en,en]at q;obtain rfl:no=n:=om;exact⟨_,_,zs,rfl,ho,he⟩
  |succ d ih=>
   intro i k no co zs w' D hi hw ho he;have j:i<ys.length:=om;have E:=sc i;obtain⟨hb,a,G,b,_⟩:=((h.ar hw).s).at_ (row:=Em.row) (fun _=>rfl) hl j;have L:no<=40:=by
    have h1:=ho.s.rows;have q:=ca List.length he;rw[en,en,ep]at q;omega
   refine F.bw.L3.step ⟨fun _=>⟨hb,a,G,_,_,_,_,_,_,_,_,_,_,_,_,b,pm (EV (((h.ar hw).w _ (bx j))) (h.o _ (bx j))) ?_⟩,fun h=>by omega⟩;rintro v H r ⟨z,rfl,I⟩;have B:=kP hw r;refine⟨_,_,_,_,_,_,_,_,_,_,_,_,rfl,?_⟩;have g:=ho.below r;refine ix sB lf g.s (x:=z.val ys[i].e) rfl (by simp[Value.cells,bk]) B.size om dc fun A3 c3 C J g3 K=>⟨ir,?_⟩
   have st:bA 33 H C:=bA.grown g.s g3;rw[E];refine ih (i+1) A3 _ c3 (zs++[⟨ys[i].e,z⟩]) C om om (B.trans K) ⟨by rw[eh];exact J,?_,?_⟩ ?_
   ·intro y hy;rcases fJ.1 hy with hy|hy
    ·exact(g.f y hy).bH st
    ·rw[eb.1 hy];exact(I.base hw.size).bH st
   ·intro y hy;rcases fJ.1 hy with hy|hy
    ·exact ho.o y hy
    ·rw[eb.1 hy];show gQ ys[i].e/\aN .i64 ys[i].e.kind;exact⟨h.o _ (bx j),(h.f _ (bx j)).ik⟩
   ·unfold iR at he⊢;rw[eh,he,gv,af j,eh];rfl
 exact F.bw.vc (key n 0 none 0 0 [] w rfl om (Below.refl _ _) ⟨ay.nil,nofun,nofun⟩ rfl)
end

structure En where
 m:Em
 d:ByteArray
abbrev En.row(x:En):List Value:=[.int .i64 x.m.e.id,.int .i64 x.m.e.tick,.int .i64 x.m.e.kind,x.m.a.n.v,x.m.a.r.v,x.m.a.t.v,.string x.d]
abbrev En.val(x:En):Value:= .agg #[.int .i64 x.m.e.id,.int .i64 x.m.e.tick,.int .i64 x.m.e.kind,x.m.a.n.v,x.m.a.r.v,x.m.a.t.v,.string x.d]
def z32:ByteArray:=strOfNums (List.replicate 32 0)
theorem Kn:z32.size=32:=by
 unfold z32;rw[strOfNums_size,TT]
def Of(l:List En):ByteArray:=match l.getLast? with
 |none=>z32
 |some x=>x.d
def xz(H:mw)(l:List En)(e:Ev):ByteArray:=H.sum (Of l++st (kD e))
structure HT (l:List En) (e:Ev):Prop where
 enc:qL e
 uO:gQ e
 ord:∀q,l.getLast? =some q->q.m.e.id<e.id/\q.m.e.tick<=e.tick
structure FQ (H:mw) (l:List En) (x:En):Prop where
 fit:HT l x.m.e
 tJ:x.d=xz H l x.m.e
def fZ(H:mw)(l:List En):Prop:=∀i (h:i<l.length),FQ H (l.take i) l[i]
theorem fZ.nil{H:mw}:fZ H []:=fun i h=>absurd h (Nat.not_lt_zero i)
theorem fZ.snoc{H:mw}{l:List En}{x:En}(h:fZ H l)(hx:FQ H l x):fZ H (l++[x]):=fun i hi=>by
 rw[dp,pe]at hi;by_cases q:i<l.length
 ·have e:(l++[x])[i]'(by rw[dp];omega)=l[i]:=List.getElem_append_left q;rw[e,vi om];exact h i q
 ·have:i=l.length:=om;subst this;have e:(l++[x])[l.length]'sm=x:=by simp
  rw[e,vi om,KT];exact hx
theorem DU{H:mw}(ok:fj H){l:List En}(h:fZ H l):(Of l).size=32:=by
 unfold Of;split
 ·exact Kn
 ·rename_i x hx;rw[vu]at hx;obtain⟨hi,rfl⟩:=ek.1 hx;rw[(h _ hi).tJ];exact ok.len _
theorem fZ.take{H:mw}{l:List En}(h:fZ H l)(k:Nat):fZ H (l.take k):=fun i hi=>by
 rw[ep]at hi;have:=h i om;rw[List.getElem_take,SJ,jv om];exact this
def same(a b:En):Prop:=a.m.e=b.m.e/\a.d=b.d
theorem Ko{l m:List En}(h:l.map (fun x=>(x.m.e,x.d))=m.map (fun x=>(x.m.e,x.d))):(l.getLast?).map (fun x=>(x.m.e,x.d))=(m.getLast?).map (fun x=>(x.m.e,x.d)):=by
 rw[<-Yd,h,Yd]
abbrev lu(l:List En):List (Ev×ByteArray):=l.map fun x=>(x.m.e,x.d)
theorem Kp{l m:List En}(h:lu l=lu m):Of l=Of m:=by
 have:=Ko h;unfold Of
 revert this
 generalize l.getLast? =a;generalize m.getLast? =b;intro this
 match a,b,this with
 |none,none,_=>rfl
 |some x,some y,h=>exact(ZD (Hc h)).2
 |none,some y,h=>cases h
 |some x,none,h=>cases h
theorem HT.lu{l m:List En}{e:Ev}(h:HT l e)(a:lu l=lu m):HT m e:=⟨h.enc,h.uO,fun q b=>by
 have:=Ko a;rw[b]at this
 match hl:l.getLast?,this with
 |none,t=>cases t
 |some x,t=>
  have t:=(ZD (Hc t)).1;rw[<-t];exact h.ord x hl⟩
theorem FQ.lu{H:mw}{l m:List En}{x y:En}(h:FQ H l x)(a:B.lu l=B.lu m)(hx:x.m.e=y.m.e)(b:x.d=y.d):FQ H m y:=⟨by rw[<-hx];exact h.fit.lu a,by
 rw[<-b,h.tJ];unfold xz;rw[Kp a,hx]⟩
theorem fZ.lu{H:mw}{l m:List En}(h:fZ H l)(a:B.lu l=B.lu m):fZ H m:=fun i hi=>by
 have hl:l.length=m.length:=by simpa using ca List.length a
 have b:i<l.length:=om;have e:B.lu (l.take i)=B.lu (m.take i):=by
  show(l.take i).map _=(m.take i).map _;rw[DO,DO];exact ca _ a
 have g:(B.lu l)[i]'(by simpa using b)=(B.lu m)[i]'(by simpa using hi):=by simp only[a]
 rw[UI,UI]at g;exact(h i b).lu e (ZD g).1 (ZD g).2
theorem Qh:∀(l:List Int),(∀z∈l, -1099511627776<=z/\z<=1099511627776)->(hX l).length<=l.length*9:=by
 intro l;induction l with
 |nil=>simp[hX]
 |cons x r ih=>
  intro h;have h1:=ih fun z hz=>h z (Js _ hz)
  have a:=Ub (h x RB);have b:=iO (FO x) om;have e:hX (x::r)=bJ (nB (FO x))++hX r:=rfl;rw[e,dp,dx,ew,Zx];omega
theorem qM{e:Ev}(he:gQ e)(h:qL e):(kD e).length<=2000:=by
 unfold kD;have a:=iO e.id.toNat (by have:=h.id;omega);have a2:=iO e.tick.toNat (by have:=h.tick;omega);have a3:=iO e.kind.toNat (by have:=h.kind;omega);have m1:=he.mn;have m2:=he.mr;have m3:=he.mt;have a4:=iO e.nums.length om;have a5:=iO e.bS.length om;have b:=iO e.texts.length om;have c:=Qh e.nums h.nums;have d:=ti e.bS 40 he.sr om;have g:=ti e.texts 70 he.st om;simp only[dp,dx];have c1:e.nums.length*9<=24*9:=oi m1 lf;have c2:e.bS.length*(40+9)<=9*49:=oi m2 lf;have c3:e.texts.length*(70+9)<=4*79:=oi m3 lf;omega
def qW:List En->Tx
 |[]=>[]
 |x::r=>cJ [st (kD x.m.e)]++(bJ x.d++qW r)
theorem yg:∀(l m:List En),qW (l++m)=qW l++qW m:=by
 intro l m;induction l with
 |nil=>rfl
 |cons x r ih=>rw[vv,qW,qW,ih];simp
theorem Og{l:List En}(h:∀x∈l,gQ x.m.e/\qL x.m.e/\x.d.size=32):(qW l).length<=l.length*2100:=by
 induction l with
 |nil=>simp[qW]
 |cons x r ih=>
  have h1:=ih fun y hy=>h y (Js _ hy)
  obtain⟨g1,g2,g3⟩:=h x RB;have g4:=qM g1 g2;have g5:(st (kD x.m.e)).size=(kD x.m.e).length:=by rw[<-dx,oQ]
  have g6:=ti [st (kD x.m.e)] 2000 (by simp;omega) om;rw[qW,dp,dp,dx,ew,Zx];simp only[pe]at g6;omega
end Go.Proofs.YtmdphpnaipbfjaaGreatDoor.B
