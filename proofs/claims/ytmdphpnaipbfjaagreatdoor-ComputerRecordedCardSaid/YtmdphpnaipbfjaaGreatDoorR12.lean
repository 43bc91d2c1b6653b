/- Part 12 of the proofs that: The state of a record that was written and recovered is that of its events. -/
import Derived.Test.YtmdphpnaipbfjaaGreatDoorR11
import Derived.Test.YtmdphpnaipbfjaaGreatDoorProg
import Derived.Maps.AppendAt
set_option linter.unusedVariables false
set_option linter.unusedSimpArgs false
namespace Go.Proofs.YtmdphpnaipbfjaaGreatDoor.B
open Go Go.RowKit Go.Proofs Go.Proofs.YtmdphpnaipbfjaaGreatDoor.Vc

theorem XG{w:World}{A:Option Addr}{n c:Nat}{l:List ByteArray}(hl:bW w A 1 (l.map eD))(hlen:l.length=n)(hn:n<2147483648){f:Nat}{a k:Array Value}(bU:av Tryz.prog f=true){p:ByteArray->Bool}
  (hf:∀w',Below w.heap.size w w'->∀x∈l,Pure Tryz.prog f (a.toList++([Value.string x]:List Value)++k.toList).toArray w' fun v _=>v= .bool (p x)):
  Pure Tryz.prog 98 #[.slice A n c,.func (.func f) a k] w fun v _=>v= .int .i64 (fq p 0 l):=
 F.aB.vc (mU (val:=Value.string) hlen hn hf (R:=fun v _=>v= .int .i64 (fq p 0 l)) (fun _=>rfl) (L:=fun i w'=>F.aB.L2 A n c f a k n i w.heap.size w' fun v _=>v= .int .i64 (fq p 0 l))
  (fun i w' h1 d=>F.aB.L2.step ⟨fun q=>absurd q h1,fun _=>d⟩)
  (fun i w' hi hw h=>F.aB.L2.step ⟨fun _=>by obtain⟨hb,e,g,b,_⟩:=(hl.ar hw lf).at_ (row:=eD) (fun _=>rfl) hlen hi;exact⟨hb,e,g,_,b,bU,h⟩,fun q=>by omega⟩)
  n 0 w rfl om (Below.refl _ _) rfl)
theorem DV{w:World}{A:Option Addr}{n c:Nat}{l:List ByteArray}(hl:bW w A 1 (l.map eD))(hlen:l.length=n)(hn:n<2147483648){f:Nat}{a k:Array Value}(bU:av Tryz.prog f=true){p:ByteArray->Bool}
  (hf:∀w',Below w.heap.size w w'->∀x∈l,Pure Tryz.prog f (a.toList++([Value.string x]:List Value)++k.toList).toArray w' fun v _=>v= .bool (p x)):
  Pure Tryz.prog 55 #[.slice A n c,.func (.func f) a k] w fun v _=>v= .bool (l.any p):=by
 refine F.cL.vc (pm (XG hl hlen hn bU hf) ?_);rintro v b _ rfl;exact⟨_,rfl,Ad p l⟩
theorem XH{w:World}{A:Option Addr}{n c:Nat}{l:List ByteArray}(hl:bW w A 1 (l.map eD))(hlen:l.length=n)(hn:n<2147483648){f:Nat}{a k:Array Value}(bU:av Tryz.prog f=true){p:ByteArray->Bool}
  (hf:∀w',Below w.heap.size w w'->∀x∈l,Pure Tryz.prog f (a.toList++([Value.string x]:List Value)++k.toList).toArray w' fun v _=>v= .bool (p x)):
  Pure Tryz.prog 99 #[.slice A n c,.func (.func f) a k] w fun v _=>v= .int .i64 (fq p 0 l):=
 F.aY.vc (mU (val:=Value.string) hlen hn hf (R:=fun v _=>v= .int .i64 (fq p 0 l)) (fun _=>rfl) (L:=fun i w'=>F.aY.L2 A n c f a k n i w.heap.size w' fun v _=>v= .int .i64 (fq p 0 l))
  (fun i w' h1 d=>F.aY.L2.step ⟨fun q=>absurd q h1,fun _=>d⟩)
  (fun i w' hi hw h=>F.aY.L2.step ⟨fun _=>by obtain⟨hb,e,g,b,_⟩:=(hl.ar hw lf).at_ (row:=eD) (fun _=>rfl) hlen hi;exact⟨hb,e,g,_,b,bU,h⟩,fun q=>by omega⟩)
  n 0 w rfl om (Below.refl _ _) rfl)
theorem Nf{w:World}{A:Option Addr}{n c:Nat}{l:List ByteArray}(hl:bW w A 1 (l.map eD))(hlen:l.length=n)(hn:n<2147483648){f:Nat}{a k:Array Value}(bU:av Tryz.prog f=true){p:ByteArray->Bool}
  (hf:∀w',Below w.heap.size w w'->∀x∈l,Pure Tryz.prog f (a.toList++([Value.string x]:List Value)++k.toList).toArray w' fun v _=>v= .bool (p x)):
  Pure Tryz.prog 57 #[.slice A n c,.func (.func f) a k] w fun v _=>v= .bool (l.any p):=by
 refine F.eX.vc (pm (XH hl hlen hn bU hf) ?_);rintro v b _ rfl;exact⟨_,rfl,Ad p l⟩

theorem XI{w:World}{A:Option Addr}{n c:Nat}{l:List Em}(hl:bW w A 6 (l.map Em.row))(hlen:l.length=n)(hn:n<2147483648){f:Nat}{a k:Array Value}(bU:av Tryz.prog f=true){p:Em->Bool}
  (hf:∀w',Below w.heap.size w w'->∀x∈l,Pure Tryz.prog f (a.toList++([Em.val x]:List Value)++k.toList).toArray w' fun v _=>v= .bool (p x)):
  Pure Tryz.prog 94 #[.slice A n c,.func (.func f) a k] w fun v _=>v= .int .i64 (fq p 0 l):=
 F.aP.vc (mU (val:=Em.val) hlen hn hf (R:=fun v _=>v= .int .i64 (fq p 0 l)) (fun _=>rfl) (L:=fun i w'=>F.aP.L2 A n c f a k n i w.heap.size w' fun v _=>v= .int .i64 (fq p 0 l))
  (fun i w' h1 d=>F.aP.L2.step ⟨fun q=>absurd q h1,fun _=>d⟩)
  (fun i w' hi hw h=>F.aP.L2.step ⟨fun _=>by obtain⟨hb,e,g,b,_⟩:=(hl.ar hw lf).at_ (row:=Em.row) (fun _=>rfl) hlen hi;exact⟨hb,e,g,_,_,_,_,_,_,_,_,_,_,_,_,b,bU,h⟩,fun q=>by omega⟩)
  n 0 w rfl om (Below.refl _ _) rfl)
theorem Ud(l:List Em):(∀r∈l.map Em.row,r.length=6)/\∀r∈l.map Em.row,∀u∈r,bk u=true:=fH (fun _=>rfl) (fun x u h=>by simp only[Em.row,cb,eH,oP]at h;rcases h with rfl|rfl|rfl|rfl|rfl|rfl<;>rfl)
theorem XJ{w:World}{A:Option Addr}{n c:Nat}{l:List Em}(h:bW w A 6 (l.map Em.row))(hlen:l.length=n)(hn:n<=1000000):
  Pure Tryz.prog 46 #[.slice A n c] w fun v w'=>∃A' c',v= .slice A' n c'/\ay w' w.heap.size 33 A' n c' 6 (l.map Em.row):=
 F.fe.vc (fW (R:=fun v w'=>∃A' c',v= .slice A' n c'/\ay w' w.heap.size 33 A' n c' 6 (l.map Em.row)) sB h (by simpa using hlen) (Ud l).1 (Ud l).2 om fun A' c' w' o=>⟨A',c',rfl,o⟩)
theorem Ng:(Tryz.prog.info? 33).bind (·.zero)=some (.agg #[.int .i64 0,.int .i64 0,.int .i64 0,.slice none 0 0,.slice none 0 0,.slice none 0 0]):=kF

theorem XK{w0:World}{B:Nat}{A:Option Addr}{n c:Nat}{l:List Em}(hlen:l.length=n)(hn:n<2147483648)(pB:n<=c){f:Nat}{a k:Array Value}(bU:av Tryz.prog f=true){p:Em->Bool}
  (hf:∀w,rF A w0 w->∀x:Em,Pure Tryz.prog f (a.toList++([Em.val x]:List Value)++k.toList).toArray w fun v _=>v= .bool (p x)) {R:Value->World->Prop}
  (hR:∀m w,rF A w0 w->ay w B 33 A m c 6 ((l.filter fun x=> !p x).map Em.row)->R (.slice A m c) w):
  ∀(d i j:Nat)(cur:List Em)(w:World),n - j=d->j<=n->i<=j->cur.length=n->ay w B 33 A n c 6 (cur.map Em.row)->cur.take i=(l.take j).filter (fun x=> !p x)->cur.drop j=l.drop j->rF A w0 w->B<=w.heap.size->
   F.aF.L5 A n c f a k i j B w R:=by
 intro d;induction d with
 |zero=>
  intro i j cur w hd hj N z ho o I C b;have:j=n:=om;subst this;rw[cc (l:=l) om]at o;refine F.aF.L5.step ⟨fun h=>by omega,fun _=>⟨om,?_⟩⟩;have os:=ho.short (m:=i) om;rw[<-DO,o]at os;rw[cd];refine vA sB Ng (by simp[Value.cells,bk]) os N pB fun O o2 D k2=>⟨om,hR i O (C.trans ⟨D.size,k2⟩) o2⟩
 |succ d ih=>
  intro i j cur w hd hj N z ho o I C b;have P:j<l.length:=om;have q:j<cur.length:=om;have J:cur[j]=l[j]:=by
   have h1:(cur.drop j)[0]? =(l.drop j)[0]? :=by rw[I]
   rw[oj,oj]at h1;simpa[P,q]using h1
  have Q:=sc j;have e4:=sc i;have S:cur.drop (j+1)=l.drop (j+1):=by
   have:=ca (List.drop 1) I;simpa[SI]using this
  have r:l.take (j+1)=l.take j++[l[j]]:=by rw[gv,af P];rfl
  obtain⟨hb,ad,hA,e,_⟩:=ho.sl.at_ (fun _=>rfl) z q;refine F.aF.L5.step ⟨fun _=>⟨hb,ad,hA,_,_,_,_,_,_,_,_,_,_,_,_,e,?_⟩,fun h=>by omega⟩;refine cK 33 Ng b fun O fS D hlt=> ?_
  refine⟨_,_,b,rfl,fS,by simp[Value.cells],rfl,fun E G=> ?_⟩;have T:E.heap[w.heap.size]? =some (.cells (cur[j].row).toArray 33 (0,0)):=by
   have:=G.at_;simpa[setCells,Value.cells]using this
  have U:rF A w0 E:=rF.fresh G (C.trans (rF.low D)) C.1;have K:∀x,A=some x->x.block<w.heap.size:=fun x hx=>(ho.uN x hx).2
  have o3:ay E B 33 A n c 6 (cur.map Em.row):=(ho.below D).other fun x hx=>G.rest _ (by have:=K x hx;show x.block≠w.heap.size;omega)
  refine⟨_,_,_,_,_,_,_,_,_,_,_,_,fy T,bU,pm (hf E U cur[j]) ?_⟩;rintro v V H rfl;have W:=U.trans (rF.low (A:=A) H);have X:=o3.below H;have y:B<=V.heap.size:=by have:=H.size;have:=G.size;omega
  refine⟨_,rfl,fun gV=> ?_,fun L=>⟨ir,?_⟩⟩
  ·have g:p l[j]=false:=by rw[<-J];exact gV
   obtain⟨g1,a2,Y,cs,g2,g3,g4,g5,g6⟩:=X.OP (i:=(i:Int)) om om (cur[j].row) ((cur[i]'om).row) (by rw[cd,ow,af om];rfl) rfl;refine⟨_,_,_,_,_,_,_,_,_,_,_,_,fy (ai T H),g1,a2,Y,cs,_,g2,g3,g4,g5,rfl,fun Z M=>⟨ir,ir,?_⟩⟩;have o5:=g6 Z M;rw[cd]at o5;have Pe:(a2.add ((i:Int).toNat*6)).block=a2.block:=by unfold Addr.add;split<;>rfl
   rw[Q,e4];refine ih (i+1) (j+1) (cur.set i cur[j]) Z om om om (by simp[z]) (by rw[IK];exact o5) ?_ ?_ (W.trans (rF.wrote M ⟨a2,Y,Pe.symm⟩)) (by rw[M.size];exact y)
   ·rw[gv,B2 om,List.take_set_of_le om,o,r,Oa,J];simp[g]
   ·rw[List.drop_set_of_lt om];exact S
  ·have g:p l[j]=true:=by rw[<-J];simpa using L
   rw[Q];refine ih i (j+1) cur V om om om z X ?_ S W y;rw[o,r,Oa];simp[g]
theorem Kr{w:World}{B:Nat}(hB:B<=w.heap.size){A:Option Addr}{n c:Nat}{l:List Em}(ho:ay w B 33 A n c 6 (l.map Em.row))(hn:n<2147483648){f:Nat}{a k:Array Value}(bU:av Tryz.prog f=true){p:Em->Bool}
  (hf:∀w',rF A w w'->∀x:Em,Pure Tryz.prog f (a.toList++([Em.val x]:List Value)++k.toList).toArray w' fun v _=>v= .bool (p x)):
  ba Tryz.prog 45 #[.slice A n c,.func (.func f) a k] B w fun v w'=>∃m,v= .slice A m c/\ay w' B 33 A m c 6 ((l.filter fun x=> !p x).map Em.row)/\rF A w w':=by
 have hlen:l.length=n:=by have:=ho.len;simpa using this
 have e:=ho.jZ;refine F.aF.sV hB ?_;refine pm (XI ho.sl hlen hn bU fun w' hb x _=>hf w' (rF.low hb) x) ?_;rintro v g b rfl;have key:=nN p l 0;cases hx:l.findIdx? p with
 |none=>
  rw[hx]at key;simp only at key;rw[key];refine⟨_,rfl,fun _=>⟨n,rfl,?_,rF.low b⟩,fun h=>absurd rfl h⟩;rw[Fy hx];exact ho.below b
 |some i=>
  rw[hx]at key;simp only[mC]at key;rw[key];obtain⟨r,d⟩:=Fz hx;have j:=sc i;refine⟨_,rfl,fun h=>by omega,fun _=>⟨ir,?_⟩⟩;rw[j];exact XK (w0:=w) hlen hn e bU hf (fun m w' q o=>⟨m,rfl,o,q⟩) (n - (i+1)) i (i+1) l g rfl om om hlen (ho.below b) d.symm rfl (rF.low b) (ec hB b.size)

theorem fa.zero(w:World)(B:Nat):fa w B Ca.zero [] Cm.zero:=⟨ay.nil,ay.nil,ay.nil,nofun,rfl,ay.nil,.inl rfl,rfl,⟨ga _,fun _=>rfl⟩,ay.nil,ay.nil,ay.nil,ay.nil,ay.nil,ay.nil⟩
theorem fa.base{w:World}{B b:Nat}{k:Ca}{xs:List Rm}{x:Cm}(h:fa w B k xs x)(hb:b<=B):fa w b k xs x:=
 ⟨h.p.base hb,h.h.base hb,h.r.base hb,fun y hy=>⟨(h.f y hy).o.base hb⟩,h.e,h.s.base hb,h.pl,h.nw,h.cw,h.c.base hb,h.v.base hb,h.a.base hb,h.l.base hb,h.g.base hb,h.q.base hb⟩
theorem DW(w:World):Pure Tryz.prog 20 #[] w fun v _=>v=Ca.zero.val Cm.zero:=F.ui.vc fun _ _=>rfl
def FoR(r:Except (Nat×Int) Cm)(B:Nat)(v:Value)(w':World):Prop:=match r with
 | .error (i,a)=>v= .tuple #[Ca.zero.val Cm.zero,.int .i64 i,.int .i64 a]
 | .ok y=>∃k xs,v= .tuple #[k.val y,.int .i64 (-1),.int .i64 0]/\fa w' B k xs y/\eA y
section
variable {H:mw} {w:World} {A:Option Addr} {n c:Nat} {ys:List Em}
theorem Aw(fk:fj H)(hg:bj w)(h:ET w A n ys):
  Pure Tryz.prog 10 #[.slice A n c] w (FoR (mu H 0 Cm.zero (iR ys)) w.heap.size):=by
 have hl:=h.l;have hm:=h.m;have key:∀(d i:Nat)(k:Ca)(xs:List Rm)(x:Cm)(w':World),n - i=d->i<=n->Below w.heap.size w w'->fa w' w.heap.size k xs x->eA x->∀r,mu H i x (iR (ys.drop i))=r->
   F.dU.L5 A n c n i none 0 0 none 0 0 none 0 0 none 0 0 none 0 0 0 none 0 0 none 0 0 none 0 0 none 0 0 none 0 0 none 0 0 0 0 k.p.A k.p.n k.p.c k.h.A k.h.n k.h.c k.r.A k.r.n k.r.c k.s.A k.s.n k.s.c k.w.A k.w.n k.w.c x.cO k.c.A k.c.n k.c.c k.v.A k.v.n k.v.c k.a.A k.a.n k.a.c k.l.A k.l.n k.l.c k.g.A k.g.n k.g.c k.q.A k.q.n k.q.c x.last x.tick w.heap.size w' (FoR r w.heap.size):=by
  intro d;induction d with
  |zero=>
   intro i k xs x w' K hi hw ho ok r b;rw[dd om]at b;subst b;exact F.dU.L5.step ⟨fun q=>by omega,fun _ L G=>⟨k,xs,rfl,ho.jK (bA.ext G),ok⟩⟩
  |succ d ih=>
   intro i k xs x w' K hi hw ho ok r b;have D:i<ys.length:=om;obtain⟨hb,a,M,j,_⟩:=((h.ar hw).s).at_ (row:=Em.row) (fun _=>rfl) hl D;rw[cy D]at b;simp only[iR,DM,mu]at b;refine F.dU.L5.step ⟨fun _=>⟨hb,a,M,_,_,_,_,_,_,_,_,_,_,_,_,j,fun X B=> ?_⟩,fun q=>by omega⟩;have E:=kE hw B;have N:=(h.ar E).f _ (bx D);refine pm (qK fk (hg.next E) ((ho.below (extAll B)).ze ok.sr) ok N) ?_;intro v O I z;have P:=kP E I;cases ha:eF H x ys[i].e with
   |error Y=>
    rw[ha]at b z;have z:v=_:=z;subst z b;refine⟨_,_,_,_,_,_,_,_,_,_,_,_,_,_,_,_,_,_,_,_,_,_,_,_,_,_,_,_,_,_,_,_,_,_,_,_,_,rfl,fun _ Z _=>rfl,fun q=>absurd (dT.1 q) (wP ha)⟩
   |ok y=>
    rw[ha]at b z;obtain⟨Q,R,rfl,S⟩:=z;refine⟨_,_,_,_,_,_,_,_,_,_,_,_,_,_,_,_,_,_,_,_,_,_,_,_,_,_,_,_,_,_,_,_,_,_,_,_,_,rfl,fun q=>absurd rfl q,fun _=>⟨ir,fun J C=> ?_⟩⟩;rw[show(i:Int)+1=((i+1:Nat):Int) by omega];exact ih (i+1) Q R y J om om (kE P C) ((S.jK (bA.ext C)).base E.size) (wh ok (h.o _ (bx D)) ha) r b
 refine F.dU.vc ⟨fun q=>by omega,fun _ T x2=>pm (DW T) ?_⟩;rintro v Eh U rfl;refine⟨_,_,_,_,_,_,_,_,_,_,_,_,_,_,_,_,_,_,_,_,_,_,_,_,_,_,_,_,_,_,_,_,_,_,_,_,rfl,fun V W=> ?_⟩;exact key n 0 Ca.zero [] Cm.zero V rfl om (kE (kP (k0 x2) U) W) (fa.zero _ _) eA.zero _ rfl
theorem af9{p:Nat}{t:Int}{w:World}(a:w.heap[p]? =some (.cells [Value.int .i64 t].toArray 3 (0,0)))(y:Em):
  Pure Tryz.prog 47 #[y.val,.pointer (some ⟨p,0,none⟩)] w fun v _=>v= .bool (decide (y.e.tick>t)):=by
 refine F.qH.vc fun w1 x1=> ?_
 exact⟨_,cm (ext_nil x1 a) rfl,rfl⟩
def OnR(r:Except (Nat×Int) Cm)(B:Nat)(v:Value)(w':World):Prop:=match r with
 | .error (_,a)=>v= .tuple #[Ca.zero.val Cm.zero,.int .i64 a]
 | .ok y=>∃k xs,v= .tuple #[k.val y,.int .i64 0]/\fa w' B k xs y/\eA y
noncomputable def onF(H:mw)(l:List Ev)(t:Int):Except (Nat×Int) Cm:=if t<0∨1073741824<t then .error (0,2)else mu H 0 Cm.zero (l.filter fun e=>decide (e.tick<=t))
theorem XL(fk:fj H)(hg:bj w)(h:ET w A n ys)(t:Int):
  Pure Tryz.prog 17 #[.slice A n c,.int .i64 t] w (OnR (onF H (iR ys) t) w.heap.size):=by
 have hl:=h.l;have hm:=h.m;unfold onF;refine F.vV.vc ⟨fun q w1 _=>by rw[bm (.inl q)];rfl,fun q1=>⟨fun q X _=>by rw[bm (.inr q)];rfl,fun Y Z O=> ?_⟩⟩;rw[aq om];have g:=k0 O;refine pm (XJ (h.ar g).s hl om) ?_;rintro v P Q ⟨A4,c4,rfl,j⟩;have J:=kP g Q;refine⟨_,_,_,rfl,fun r R z=> ?_⟩;have B:∀a,A4=some a->r≠a.block:=fun a ha e=>by
  obtain⟨cs,b⟩:=j.cells a ha;rw[<-e,z]at b;simp at b
 have C:r<P.heap.size:=(ax.1 z).1;refine ba.mono (Kr (p:=fun y=>decide (y.e.tick>t)) J.size (j.base g.size) om kF fun w' D y=>af9 ((D.2 r C B).trans z) y) ?_;rintro v K S ⟨m,rfl,L,D⟩;have d:Below w.heap.size w K:=J.trans S;refine⟨fun k ty cs T M=>D.2 k (ax.1 M).1 fun a ha e=> ?_,_,_,_,rfl,?_⟩
 ·obtain⟨AX,b⟩:=j.cells a ha;rw[<-e,M]at b;cases b;exact absurd T dc
 have E:∀y∈ys.filter (fun x=> !decide (x.e.tick>t)),y∈ys:=fun y hy=>(GR.1 hy).1
 have hlen:(ys.filter fun x=> !decide (x.e.tick>t)).length=m:=L.rows;have es:ET K A4 m (ys.filter fun x=> !decide (x.e.tick>t)):=⟨L.sl,hlen,fun y hy=>((h.ar d).f y (E y hy)),fun y hy=>h.o y (E y hy),fun y hy=>((h.ar d).w y (E y hy)),by have:=List.length_filter_le (fun x:Em=> !decide (x.e.tick>t)) ys;omega⟩;refine pm (Aw fk (hg.next d) es) ?_;have e:iR (ys.filter fun x=> !decide (x.e.tick>t))=(iR ys).filter fun e=>decide (e.tick<=t):=by
  unfold iR;rw[List.filter_map];refine ca _ (List.filter_congr fun y _=> ?_);show(!decide (y.e.tick>t))=decide (y.e.tick<=t);rw[ya];simp
 rw[e];cases mu H 0 Cm.zero ((iR ys).filter fun e=>decide (e.tick<=t))with
 |error N=>
  obtain⟨i,N⟩:=N;intro v U V G;have G:v=_:=G;subst G;exact⟨_,_,_,_,_,_,_,_,_,_,_,_,_,_,_,_,_,_,_,_,_,_,_,_,_,_,_,_,_,_,_,_,_,_,_,_,_,_,rfl,fun W _=>rfl⟩
 |ok y=>
  rintro v U V ⟨k,xs,rfl,ho,ok⟩;exact⟨_,_,_,_,_,_,_,_,_,_,_,_,_,_,_,_,_,_,_,_,_,_,_,_,_,_,_,_,_,_,_,_,_,_,_,_,_,_,rfl,fun W I=>⟨k,xs,rfl,(ho.jK (bA.ext I)).base d.size,ok⟩⟩
end

theorem Ks{w:World}{B:Nat}{k:Ca}{xs:List Rm}{x:Cm}(h:fa w B k xs x)(ok:eA x):
  Pure Tryz.prog 22 #[k.val x] w fun v w'=>∃T Ke,v=T.val x/\fa w' w.heap.size T Ke x:=by
 have lp:=ok.lp;have lh:=ok.lh;have lr:=ok.lr;have ls:=ok.ls;have lw:=ok.lw;have lc:=ok.lc;have lv:=ok.lv;have la:=ok.la;have ll:=ok.ll;have lg:=ok.lg;have lq:=ok.lq;have np:=h.p.rows;have nh:=h.h.rows;have nr:=h.r.rows;have hi:=h.ze ok.sr;refine F.lV.vc fun w1 x1=> ?_
 have d:=k0 x1;have pf:=((hi.ar d).pr ok.sp ok.sh om om om).fit;refine pm (PZ (c0:=k.p.c) (c1:=k.h.c) (c2:=k.r.c) pf h.p.th h.h.th) ?_;rintro v w6 b6 ⟨A2,c2,A3,c3,A4,c4,ys,rfl,o2,o3,o4,e4,f4⟩;have vy:=kP d b6;refine⟨_,_,_,_,_,_,_,_,_,rfl,fun w7 U=> ?_⟩;have G:=kE vy U;have rs:=h.s.rows;refine nm ij ((h.s.sl).below G) (by rw[en];exact h.s.rows) (HN x.gK) (h.s.th) G.size om dc fun Bs ds xQ os V CV W=> ?_
 have oB:=kP G V;have N:=kE oB W;have rW:=h.nw;refine nm TR ((h.pl.sl).below N) (by rw[en];exact h.nw) (HN x.eE) (h.cw.2) N.size om dc fun Bw dw zL O X EI Y=> ?_
 have uo:=kP N X;have H:=kE uo Y;have rc:=h.c.rows;refine nm Mu ((h.c.sl).below H) (by rw[en];exact h.c.rows) (Hv x.jJ) (h.c.th) H.size om dc fun Bc dC BN oc Z BK YJ=> ?_
 have vQ:=kP H Z;have I:=kE vQ YJ;have rv:=h.v.rows;refine nm Mt ((h.v.sl).below I) (by rw[en];exact h.v.rows) (Hu x.ye) (h.v.th) I.size om dc fun Bv dv KQ ov NR w35 i=> ?_
 have uK:=kP I NR;have J:=kE uK i;have ra:=h.a.rows;refine nm Mo ((h.a.sl).below J) (by rw[en];exact h.a.rows) (Hp x.gw) (h.a.th) J.size om dc fun Ba da RX oa j w42 m=> ?_
 have P3:=kP J j;have K:=kE P3 m;have rl:=h.l.rows;refine nm Mq ((h.l.sl).below K) (by rw[en];exact h.l.rows) (Hq x.pL) (h.l.th) K.size om dc fun Bl dl P ol o YB z=> ?_
 have XM:=kP K o;have L:=kE XM z;have rg:=h.g.rows;refine nm Mr ((h.g.sl).below L) (by rw[en];exact h.g.rows) (Hs x.fQ) (h.g.th) L.size om dc fun Bg dg Q og A w56 C=> ?_
 have Mc:=kP L A;have M:=kE Mc C;have rq:=h.q.rows;refine nm Ms ((h.q.sl).below M) (by rw[en];exact h.q.rows) (Ht x.apps) (h.q.th) M.size om dc fun Bq dq R oq D b E=> ?_
 have S:=kP M D;have P6:=kE S E;have tq:bA 57 R b:=bA.ext E;have tg:bA 57 Q b:=(bA.ext C).trans ((bA.low D).trans tq);have tl:bA 57 P b:=(bA.ext z).trans ((bA.low A).trans tg);have ta:bA 57 RX b:=(bA.ext m).trans ((bA.low o).trans tl);have tv:bA 57 KQ b:=(bA.ext i).trans ((bA.low j).trans ta);have tc:bA 57 BN b:=(bA.ext YJ).trans ((bA.low NR).trans tv);have tw:bA 57 zL b:=(bA.ext Y).trans ((bA.low Z).trans tc);have ts:bA 57 xQ b:=(bA.ext W).trans ((bA.low X).trans tw);have t0:bA 57 w6 b:=(bA.ext U).trans ((bA.low V).trans ts);refine⟨⟨⟨A2,k.p.n,c2⟩,⟨A3,k.h.n,c3⟩,⟨A4,k.r.n,c4⟩,⟨Bs,k.s.n,ds⟩,⟨Bw,k.w.n,dw⟩,⟨Bc,k.c.n,dC⟩,⟨Bv,k.v.n,dv⟩,⟨Ba,k.a.n,da⟩,⟨Bl,k.l.n,dl⟩,⟨Bg,k.g.n,dg⟩,⟨Bq,k.q.n,dq⟩⟩,ys,rfl,?_⟩;exact⟨(o2.bH t0 dc).base d.size,(o3.bH t0 dc).base d.size,(o4.bH t0 dc).base d.size,fun y hy=>⟨((f4 y hy).bH t0 dc).base d.size⟩,e4.trans h.e,(os.bH ts dc).base G.size,(O.bH tw dc).slT,rW,⟨O.jZ,O.th⟩,(oc.bH tc dc).base H.size,(ov.bH tv dc).base I.size,(oa.bH ta dc).base J.size,(ol.bH tl dc).base K.size,(og.bH tg dc).base L.size,(oq.bH tq dc).base M.size⟩

def XN:Ev:=⟨1,0,1,[1,3,1],[⟨#[50]⟩,⟨#[49]⟩,⟨#[53]⟩],[⟨#[97]⟩]⟩
def XO:Ev:=⟨2,0,2,[1],[⟨#[57]⟩,⟨#[57]⟩,⟨#[49]⟩,⟨#[48]⟩,⟨#[48]⟩],[⟨#[65]⟩]⟩
def XP:Ev:=⟨3,0,3,[1,0,0],[⟨#[49]⟩],[⟨#[109,111,115,116]⟩,⟨#[]⟩,⟨#[53]⟩]⟩
def U4:Ev:=⟨4,0,6,[1,2],[],[⟨#[65,110,110,97]⟩,⟨#[107]⟩]⟩
def U5:Ev:=⟨5,0,6,[2,3],[],[⟨#[66,111,98]⟩,⟨#[113]⟩]⟩
def tn6:Ev:=⟨6,3,7,[1,1,2],[],[]⟩
def ab1:List Ev:=[XN,XO,XP,U4,U5,tn6]
def By:List Si:=[⟨1,2,⟨#[65,110,110,97]⟩,⟨#[107]⟩⟩,⟨2,3,⟨#[66,111,98]⟩,⟨#[113]⟩⟩]
def ZG:Cm:={Cm.zero with ps:=[⟨1,3,1,⟨#[97]⟩,⟨#[50]⟩,⟨#[49]⟩,⟨#[53]⟩⟩],hs:=[⟨1,⟨#[65]⟩,⟨#[57]⟩,⟨#[57]⟩,⟨#[49]⟩,⟨#[48]⟩,⟨#[48]⟩⟩],rs:=[⟨⟨#[109,111,115,116]⟩,1,[⟨#[49]⟩],⟨#[]⟩,⟨#[53]⟩,0,0⟩],last:=3}
def cm5:Cm:={ZG with fQ:=By,last:=5}
def yh:Cm:={cm5 with eE:=[⟨1,1,2⟩],cO:=6,last:=6,tick:=3}
section
variable {H:mw} {x y:Cm} {e:Ev}
theorem wj{d:Kd}(h1:¬(e.id<1∨1073741824<e.id∨e.tick<0∨1073741824<e.tick))(a:kd e.kind=some d)(b:jm d e=true)(c:¬(e.id<=x.last∨e.tick<x.tick))(g:¬((d.em=true/\x.eE≠[])∨(d.fu=true/\x.eE=[])))(h:zg H e.kind x e=(y,0)):
  eF H x e= .ok {y with last:=e.id,tick:=e.tick}:=by
 unfold eF;rw[aq h1,a];dsimp only;rw[aq (by rw[b];decide),aq c,aq g,h,aq (fun k=>k rfl)]
theorem wm:od [(⟨1,2,⟨#[65,110,110,97]⟩,⟨#[107]⟩⟩:Si)]=true/\od By=true:=by
 refine⟨ji.2 ⟨⟨⟨dc,dc,dc,dc,nofun⟩,trivial⟩,dc⟩,ji.2 ⟨⟨⟨dc,dc,dc,dc,nofun⟩,⟨dc,dc,dc,dc,fun q a=>by cases a;decide⟩,trivial⟩,dc⟩⟩
theorem wq{ss:List Si}(h:od ss=true):eJ H ss []=(-1,0):=by
 unfold eJ;rw[aq (by rw[h];decide),aq sm];rfl
theorem agd:mu H 0 Cm.zero [XN,XO,XP]= .ok ZG:=kF
theorem age:eF H ZG U4= .ok {ZG with fQ:=[⟨1,2,⟨#[65,110,110,97]⟩,⟨#[107]⟩⟩],last:=4}:=
 wj (d:=⟨2,0,2,false,false,73⟩) (y:={ZG with fQ:=[⟨1,2,⟨#[65,110,110,97]⟩,⟨#[107]⟩⟩]}) dc rfl rfl dc sm (by
  show lk H ZG U4=_;show(_,(eJ H [(⟨1,2,⟨#[65,110,110,97]⟩,⟨#[107]⟩⟩:Si)] []).2)=_;rw[wq wm.1];rfl)
theorem agf:eF H {ZG with fQ:=[⟨1,2,⟨#[65,110,110,97]⟩,⟨#[107]⟩⟩],last:=4} U5= .ok cm5:=
 wj (d:=⟨2,0,2,false,false,73⟩) (y:={ZG with fQ:=By,last:=4}) dc rfl rfl dc sm (by
  show lk H _ U5=_;show(_,(eJ H By []).2)=_;rw[wq wm.2];rfl)
theorem agh:eF H cm5 tn6= .ok yh:=kF
theorem FR:∀(l m:List Ev)(i:Nat)(x y:Cm),mu H i x l= .ok y->mu H i x (l++m)=mu H (i+l.length) y m:=by
 intro l;induction l with
 |nil=>
  intro m i x y h;cases h;rfl
 |cons e r ih=>
  intro m i x y h;rw[mu]at h;rw[vv,mu];cases ha:eF H x e with
  |error a=>rw[ha]at h;cases h
  |ok z=>
   rw[ha]at h;dsimp only at h⊢;rw[ih m (i+1) z y h,ew,ME,M9 1]
theorem ZH:mu H 0 Cm.zero [XN,XO,XP,U4,U5]= .ok cm5:=by
 rw[show[XN,XO,XP,U4,U5]=[XN,XO,XP]++[U4,U5]from rfl,FR _ _ _ _ _ agd,mu,age];dsimp only;rw[mu,agf];rfl
theorem agi:mu H 0 Cm.zero ab1= .ok yh:=by
 rw[show ab1=[XN,XO,XP,U4,U5]++[tn6]from rfl,FR _ _ _ _ _ ZH,mu,agh];rfl
noncomputable def U6(H:mw):ByteArray:=ni H yh
noncomputable def ZI(H:mw)(i:Int)(key:ByteArray):ByteArray:=codeF H key ⟨i,4,U6 H,⟨#[]⟩⟩
noncomputable def uG(H:mw)(i:Int)(key:ByteArray):Ap:=⟨i,4,U6 H,ZI H i key⟩
noncomputable def tn7(H:mw):Ev:=⟨7,4,8,[1],[],[ZI H 1 ⟨#[107]⟩]⟩
noncomputable def tn8(H:mw):Ev:=⟨8,4,8,[2],[],[ZI H 2 ⟨#[113]⟩]⟩
noncomputable def cm7(H:mw):Cm:={yh with apps:=[uG H 1 ⟨#[107]⟩],last:=7,tick:=4}
noncomputable def Oh(H:mw):Cm:={yh with apps:=[uG H 1 ⟨#[107]⟩,uG H 2 ⟨#[113]⟩],last:=8,tick:=4}
def tn9:Ev:=⟨9,5,9,[],[],[]⟩
noncomputable def cm9(H:mw):Cm:={Oh H with gK:=[⟨1,1,2⟩],eE:=[],cO:=0,last:=9,tick:=5}
theorem ZJ(ok:fj H):mY By [] (uG H 1 ⟨#[107]⟩)=0:=by
 unfold mY;have h:NP By (uG H 1 ⟨#[107]⟩).cR=some 0:=by show NP By 1=_;kernel_rfl
 have hs:(uG H 1 ⟨#[107]⟩).subject.size=32:=ok.len _;have a:(uG H 1 ⟨#[107]⟩).tick=4:=rfl;rw[h,aq sm,aq (by rw[hs,a];decide),aq sm,aq sm]
theorem agj(ok:fj H):mY By [uG H 1 ⟨#[107]⟩] (uG H 2 ⟨#[113]⟩)=0:=by
 unfold mY;have h:NP By (uG H 2 ⟨#[113]⟩).cR=some 1:=by show NP By 2=_;kernel_rfl
 have hs:(uG H 2 ⟨#[113]⟩).subject.size=32:=ok.len _;have a:(uG H 2 ⟨#[113]⟩).tick=4:=rfl;have h1:(uG H 1 ⟨#[107]⟩).tick=4:=rfl;have g1:(uG H 1 ⟨#[107]⟩).cR=1:=rfl;have g2:(uG H 2 ⟨#[113]⟩).cR=2:=rfl;rw[h,aq sm,aq (by rw[hs,a];decide),aq (by simp[a,h1]),aq (by simp[g1,g2])]
theorem Nh(ok:fj H):eJ H By [uG H 1 ⟨#[107]⟩]=(-1,0)/\eJ H By [uG H 1 ⟨#[107]⟩,uG H 2 ⟨#[113]⟩]=(-1,0):=by
 have c1:(uG H 1 ⟨#[107]⟩).code=codeF H (MI By (uG H 1 ⟨#[107]⟩).cR) (uG H 1 ⟨#[107]⟩):=rfl;have c2:(uG H 2 ⟨#[113]⟩).code=codeF H (MI By (uG H 2 ⟨#[113]⟩).cR) (uG H 2 ⟨#[113]⟩):=rfl;constructor
 ·unfold eJ;rw[aq (by rw[wm.2];decide),aq sm,uD,aq (by rw[ZJ ok];decide),aq (fun k=>k c1)];rfl
 ·unfold eJ;rw[aq (by rw[wm.2];decide),aq sm,uD,aq (by rw[ZJ ok];decide),aq (fun k=>k c1),uD,aq (by rw[u0,agj ok];decide),aq (fun k=>k c2)];rfl
theorem agk(ok:fj H):eF H yh (tn7 H)= .ok (cm7 H):=
 wj (d:=⟨1,0,1,false,true,75⟩) (y:={yh with apps:=[uG H 1 ⟨#[107]⟩]}) (by show ¬((7:Int)<1∨1073741824<(7:Int)∨(4:Int)<0∨1073741824<(4:Int));decide) rfl rfl (by show ¬((7:Int)<=6∨(4:Int)<3);decide) (by simp[yh]) (by
  show jC H yh (tn7 H)=_;show(_,(eJ H By [uG H 1 ⟨#[107]⟩]).2)=_;rw[(Nh ok).1];rfl)
theorem agl(ok:fj H):eF H (cm7 H) (tn8 H)= .ok (Oh H):=
 wj (d:=⟨1,0,1,false,true,75⟩) (y:={cm7 H with apps:=[uG H 1 ⟨#[107]⟩,uG H 2 ⟨#[113]⟩]}) (by show ¬((8:Int)<1∨1073741824<(8:Int)∨(4:Int)<0∨1073741824<(4:Int));decide) rfl rfl (by show ¬((8:Int)<=7∨(4:Int)<4);decide) (by simp[cm7,yh]) (by
  show jC H (cm7 H) (tn8 H)=_;show(_,(eJ H By [uG H 1 ⟨#[107]⟩,uG H 2 ⟨#[113]⟩]).2)=_;rw[(Nh ok).2];rfl)
theorem Qj{ss:List Si}{l:List Ap}{subject:ByteArray}{t:Int}(h:∀r,r=2∨r=3->∃s∈ss,s.role=r/\HD l subject 1000 0 t s=true):yZ (vO ss l subject [2,3] 1000 0 t) 9=[]:=by
 have a:∀r,vO ss l subject [2,3] 1000 0 t r<=0:=fun r=>by
  unfold vO;by_cases q:r=2∨r=3
  ·obtain⟨s,hs,h1,a⟩:=h r q;have:0<ss.countP fun s=>decide (s.role=r)&&HD l subject 1000 0 t s:=List.countP_pos_iff.2 ⟨s,hs,by simp[h1,a]⟩
   have b:([2,3]:List Int).count r=1:=by rcases q with rfl|rfl<;>decide
   rw[b];omega
  ·have b:([2,3]:List Int).count r=0:=List.count_eq_zero.2 (by simp;omega);rw[b];omega
 unfold yZ;rw[List.flatMap_eq_nil_iff];intro j _;rw[List.replicate_eq_nil_iff];have:=a ((j:Int)+1);omega
theorem Oi{ss:List Si}{l:List Ap}{subject:ByteArray}{t:Int}(h1:(eJ H ss l).2=0)(a:subject.size=32)(b:0<=t/\t<=1073741824):xx H ss l subject [2,3] 1000 0 t=(yZ (vO ss l subject [2,3] 1000 0 t) 9,0):=by
 unfold xx;rw[aq (by rw[h1];decide),aq dc,aq (by rw[a];decide),aq om]
theorem agm(ok:fj H):JX H yh 4=false:=by
 have hm:=Oi (H:=H) (ss:=By) (l:=[]) (subject:=ni H yh) (t:=4) (by rw[wq wm.2]) (ok.len _) dc;show decide ((xx H By [] (ni H yh) [2,3] 1000 0 4).2=0/\(xx H By [] (ni H yh) [2,3] 1000 0 4).1=[])=false;rw[hm];refine eL fun k=> ?_
 have:=k.2;unfold yZ at this;rw[List.flatMap_eq_nil_iff]at this;have:=this 1 sm;rw[List.replicate_eq_nil_iff]at this
 revert this
 have e:vO By [] (ni H yh) [2,3] 1000 0 4 2=1:=kF;show ¬(vO By [] (ni H yh) [2,3] 1000 0 4 2).toNat=0;rw[e];decide
theorem Ue(ok:fj H):JX H (Oh H) 5=true:=by
 have hm:=Oi (H:=H) (ss:=By) (l:=[uG H 1 ⟨#[107]⟩,uG H 2 ⟨#[113]⟩]) (subject:=U6 H) (t:=5) (by rw[(Nh ok).2]) (ok.len _) dc;show decide ((xx H By [uG H 1 ⟨#[107]⟩,uG H 2 ⟨#[113]⟩] (U6 H) [2,3] 1000 0 5).2=0/\(xx H By [uG H 1 ⟨#[107]⟩,uG H 2 ⟨#[113]⟩] (U6 H) [2,3] 1000 0 5).1=[])=true;rw[hm];refine hM ⟨rfl,Qj fun r a=> ?_⟩;rcases a with rfl|rfl
 ·refine⟨⟨1,2,⟨#[65,110,110,97]⟩,⟨#[107]⟩⟩,by simp[By],rfl,uv.2 ⟨uG H 1 ⟨#[107]⟩,sm,hM ⟨rfl,rfl,?_,?_,?_⟩⟩⟩
  ·show(4:Int)<=5;decide
  ·show(4:Int)≥5 - 1000;decide
  ·show(1:Int)≠0;decide
 ·refine⟨⟨2,3,⟨#[66,111,98]⟩,⟨#[113]⟩⟩,by simp[By],rfl,uv.2 ⟨uG H 2 ⟨#[113]⟩,sm,hM ⟨rfl,rfl,?_,?_,?_⟩⟩⟩
  ·show(4:Int)<=5;decide
  ·show(4:Int)≥5 - 1000;decide
  ·show(2:Int)≠0;decide
theorem ab2(ok:fj H):eF H yh ⟨7,4,9,[],[],[]⟩= .error 23:=by
 have h:zg H 9 yh ⟨7,4,9,[],[],[]⟩=(yh,23):=by
  show qJ H yh _=_;unfold qJ;rw[bm (agm ok)]
 unfold eF;rw[aq dc];show(if jm (⟨0,0,0,false,true,76⟩:Kd) _=false then _ else _)=_;rw[aq dc,aq dc,aq (by simp[yh]),h,bm dc]
theorem ab3:Dk yh.ps yh.hs [] ⟨1,1,2⟩= .ok [⟨1,1,2⟩]:=kF
theorem XQ:lQ yh.ps yh.hs yh.rs [⟨1,1,2⟩]=true:=kF
theorem XR{t:Sw}{r l:List Sw}(ha:JX H x e.tick=true)(hp:x.eE=t::r)(a:Dk x.ps x.hs x.gK t= .ok l):
  qJ H x e=({x with gK:=l,eE:=r,cO:=if r.length=0 then 0 else x.cO},uE {x with gK:=l,eE:=r,cO:=if r.length=0 then 0 else x.cO}):=by
 unfold qJ;rw[aq (by rw[ha];decide),hp];dsimp only;rw[a]
theorem agn(ok:fj H):eF H (Oh H) tn9= .ok (cm9 H):=
 wj (d:=⟨0,0,0,false,true,76⟩) (y:={Oh H with gK:=[⟨1,1,2⟩],eE:=[],cO:=0}) dc rfl rfl (by show ¬((9:Int)<=8∨(5:Int)<4);decide) (by simp[Oh,yh]) (by
  show qJ H (Oh H) tn9=_;rw[XR (x:=Oh H) (e:=tn9) (t:=⟨1,1,2⟩) (r:=[]) (l:=[⟨1,1,2⟩]) (Ue ok) rfl ab3];refine Prod.ext rfl ?_;show uE _=0;unfold uE;rw[aq (by show ¬lQ yh.ps yh.hs yh.rs [⟨1,1,2⟩]=false;rw[XQ];decide)])
end
end Go.Proofs.YtmdphpnaipbfjaaGreatDoor.B

set_option maxRecDepth 100000
set_option maxHeartbeats 4000000
namespace Go.Proofs.YtmdphpnaipbfjaaGreatDoor.F
open Go Go.RowKit Go.Proofs Go.Proofs.YtmdphpnaipbfjaaGreatDoor.Vc
open Tryz
variable {A C D E G H J K A0 A1 A2 A3 A4 A5 A6 A7 A8 A9 C0 C1 C2 C3 C4 C5 C6 C7 C8 C9:O} {a b c d e f g i j l m n o a0 a1 a2 a3 a4 a5 a6 a7 a8 a9 b0 b1 b2 b3 b4 b5 b6 b7 b8 b9 c0 c1 c2 c3 c4 c5 c6 c7 c8 c9:Nat} {p q r s t u v x p0 p1 p2 p3 p4 p5 p6 p7 p8 p9 q0 q1 q2 q3 q4 q5 q6 q7 q8 q9:Int} {L M N N0 N1 N2 N3 N4 N5 N6 N7 N8 N9 T0 T1 T2 T3 T4 T5 T6 T7 T8 T9:ByteArray} {Q S:Bool} {B:Nat} {w:World} {R:Kt}
def aZ.L8(a:O)(b c:Nat)(d:O)(e f:Nat)(g:O)(i j:Nat)(l m:Int):=Lt 3 f3 8 [vS 3 a b c,vS 5 d e f,vS 27 g i j,vI 28 l,vI 29 m] []
def aZ.cx:Pm:=([((true,8),[3,5,27,28,29],[])],[(18,9999,3)])
theorem aZ.L8.step
  (h:(Br (p<q) (Ix p d D fun n3=>(∃i j l m n o r s t u v x,aa w (n3.add ((p).toNat*6)) [I i,I j,I l,vW m n o,vW r s t,vW u v x]/\(∀y,Ext B [] w y->(Pure P 7 #[vW C b c,.agg #[I i,I j,I l,vW m n o,vW r s t,vW u v x]] y (Vh fun n4 n5 n6 n7 z=>(Br (n7≠0) (R (.bool false) z) (aN .i64 (p+1)/\(aZ.L8 A a e n4 n5 n6 D d f q (p+1) B z R)))))))) (Pure P 8 #[vW C b c] w (qO fun E n8 n9=>(Pure P 9 #[vU E] n9 (Vh fun o0 o1 o2 o3 o4=>(Pure P 11 #[vW o0 o1 o2] o4 (Rs fun o5 o6 o7 o8=>(Pure P 10 #[vW o5 o6 o7] o8 fun o9 r0=>∃G H J K L M N O Q S T U V X Y Z d0 d1 d2 d3 d4 d5 d6 d7 d8 d9 k F W e3 e4 e5 e6 e7 e8 e9 g0 g1,o9= .tuple #[.agg #[vW G H J,vW K L M,vW N O Q,vW S T U,vW V X Y,I Z,vW d0 d1 d2,vW d3 d4 d5,vW d6 d7 d8,vW d9 k F,vW W e3 e4,vW e5 e6 e7,I e8,I e9],I g0,I g1]/\(∀g,Ext B [] r0 g->(Br (n8=0) (Br (o3=(ByteArray.size E:Int)) (Br (g1=0) (Br (g0=(-1:Int)) (aN .i64 ((a:Int) - (1:Int))/\(Ix ((a:Int) - (1:Int)) a A fun r1=>(∃g2 g3 g4 g5 g6 g7 g8 g9 j0 j1 j2 j3 j4 j5 j6 j7 j8 j9 l0 l1 l2 l3 l4 l5 l6 l7 l8 l9 m0 m1 m2 m3 m4 m5 m6 m7,aa g (r1.add ((((a:Int) - (1:Int))).toNat*14)) [vW g2 g3 g4,vW g5 g6 g7,vW g8 g9 j0,vW j1 j2 j3,vW j4 j5 j6,I j7,vW j8 j9 l0,vW l1 l2 l3,vW l4 l5 l6,vW l7 l8 l9,vW m0 m1 m2,vW m3 m4 m5,I m6,I m7]/\(∀m8,Ext B [] g m8->(Pure P 12 #[.agg #[vW G H J,vW K L M,vW N O Q,vW S T U,vW V X Y,I Z,vW d0 d1 d2,vW d3 d4 d5,vW d6 d7 d8,vW d9 k F,vW W e3 e4,vW e5 e6 e7,I e8,I e9],.agg #[vW g2 g3 g4,vW g5 g6 g7,vW g8 g9 j0,vW j1 j2 j3,vW j4 j5 j6,I j7,vW j8 j9 l0,vW l1 l2 l3,vW l4 l5 l6,vW l7 l8 l9,vW m0 m1 m2,vW m3 m4 m5,I m6,I m7]] m8 (Rb fun r2 r3=>(R (.bool r2) r3))))))) (∀m9,Ext B [] g m9->(R (.bool false) m9))) (∀n0,Ext B [] g n0->(R (.bool false) n0))) (∀n1,Ext B [] g n1->(R (.bool false) n1))) (∀n2,Ext B [] g n2->(R (.bool false) n2))))))))))))):
  aZ.L8 A a e C b c D d f q p B w R:=
 lr aZ.cx func3 h
theorem aZ.vc
  (h:(Pure P 4 #[] w (Rb fun m d=>(Br (m=false) (R (.bool false) d) (Pure P 5 #[vW A a b] d (Rb fun n e=>(Br (n=false) (R (.bool true) e) (Pure P 6 #[vW A a b] e fun o p=>∃f g i j c l,o= .tuple #[vW f g i,vW j c l]/\(aZ.L8 f g i none 0 0 j c l (c:Int) (0:Int) w.heap.size p R))))))))):
  Pure P 3 #[vW A a b] w R:=
 pr aZ.cx func3 h

def bI.L5(a b c:Int)(d:ByteArray)(e:O)(f g:Nat)(i j:Int)(l:O)(m n:Nat)(o:O)(p q:Nat)(r:O)(s t:Nat)(u:O)(v x:Nat)(y:O)(z A:Nat)(C:Int)(D:O)(E G:Nat)(H:O)(J K:Nat)(L:O)(M N:Nat)(Q:O)(S T:Nat)(U:O)(V X:Nat)(Y:O)(Z d0:Nat)(d1 d2:Int):=Lt 4 f4 5 [vL 1,vI 2 a,vI 3 b,vI 5 c,vT 6 d,vS 31 e f g,vI 32 i,vI 33 j] [⟨1,false,57,[(vW l m n),(vW o p q),(vW r s t),(vW u v x),(vW y z A),(I C),(vW D E G),(vW H J K),(vW L M N),(vW Q S T),(vW U V X),(vW Y Z d0),(I d1),(I d2)]⟩]
def bI.cx:Pm:=([((true,5),[1,2,3,5,6,31,32,33],[1])],[(4,0,2),(8,5,2),(8,7,2),(15,31,2)])
theorem bI.L5.step
  (h:(Br (p<x) (Ix p a9 A3 fun r1=>(∃O,aa w (r1.add ((p).toNat*1)) [vU O]/\(aN .i64 (p+1)/\(Pure P 16 #[vU O,(.agg #[(I (p+1)),I 4,vU L,(vU ⟨#[]⟩)])] w (qO fun r2 r3 r4=>(aN .i64 ((7:Int)+p)/\(aN .i64 (p+1)/\(ae P (Instr.buildSlice 29 1 #[(0,(I (p+1)))]) B [57] r4 (Rs fun r5 r6 r7 r8=>(ae P (Instr.buildSlice 31 1 #[(0,(vU r2))]) B [57] r8 (Rs fun r9 s0 s1 s2=>(Pure P 14 #[.agg #[vW A a b,vW C c d,vW D e f,vW E g i,vW G j l,I q,vW H m n,vW J o a0,vW K a1 a2,vW A0 a3 a4,vW A1 a5 a6,vW A2 a7 a8,I r,I s],(.agg #[(I ((7:Int)+p)),I 4,I 8,vW r5 r6 r7,vN,vW r9 s0 s1])] s2 fun s3 N=>∃Q S T U V X Y Z d0 d1 d2 d3 d4 d5 d6 d7 d8 d9 k F W e3 e4 e5 e6 e7 e8 e9 g0 g1 g2 g3 g4 g5 g6 g7 g8,s3= .tuple #[.agg #[vW Q S T,vW U V X,vW Y Z d0,vW d1 d2 d3,vW d4 d5 d6,I d7,vW d8 d9 k,vW F W e3,vW e4 e5 e6,vW e7 e8 e9,vW g0 g1 g2,vW g3 g4 g5,I g6,I g7],I g8]/\(Br (r3≠0) (∀g9,Ext B [] N g9->(R (.bool false) g9)) (Br (g8≠0) (∀j0,Ext B [] N j0->(R (.bool false) j0)) (aN .i64 (p+1)/\(∀j1,Ext B [57] N j1->(bI.L5 t u v L A3 a9 b0 x (p+1) Q S T U V X Y Z d0 d1 d2 d3 d4 d5 d6 d7 d8 d9 k F W e3 e4 e5 e6 e7 e8 e9 g0 g1 g2 g3 g4 g5 g6 g7 B j1 R))))))))))))))))) (Pure P 14 #[.agg #[vW A a b,vW C c d,vW D e f,vW E g i,vW G j l,I q,vW H m n,vW J o a0,vW K a1 a2,vW A0 a3 a4,vW A1 a5 a6,vW A2 a7 a8,I r,I s],.agg #[I 9,I 5,I 9,vN,vN,vN]] w fun s4 s5=>∃s6 s7 s8 s9 t0 t1 t2 t3 t4 j2 j3 j4 t5 j5 t6 t7 t8 t9 v0 v1 v2 v3 v4 v5 v6 v7 v8 v9 x0 x1 x2 x3 x4 x5 x6 x7 j6,s4= .tuple #[.agg #[vW s6 s7 s8,vW s9 t0 t1,vW t2 t3 t4,vW j2 j3 j4,vW t5 j5 t6,I t7,vW t8 t9 v0,vW v1 v2 v3,vW v4 v5 v6,vW v7 v8 v9,vW x0 x1 x2,vW x3 x4 x5,I x6,I x7],I j6]/\(∀j7,Ext B [] s5 j7->(Pure P 13 #[] j7 (Rs fun x8 x9 y0 y1=>(Pure P 17 #[vW x8 x9 y0,I 2] y1 fun y2 y=>∃y3 y4 y5 y6 y7 y8 y9 z0 z1 z2 z3 z4 z5 z6 z7 z8 z9 D0 D1 D2 D3 D4 D5 D6 D7 D8 D9 E0 E1 E2 E3 E4 E5 E6 j8 E7 j9,y2= .tuple #[.agg #[vW y3 y4 y5,vW y6 y7 y8,vW y9 z0 z1,vW z2 z3 z4,vW z5 z6 z7,I z8,vW z9 D0 D1,vW D2 D3 D4,vW D5 D6 D7,vW D8 D9 E0,vW E1 E2 E3,vW E4 E5 E6,I j8,I E7],I j9]/\(Br (u=0) (Br (t=(-1:Int)) (Br (v=23) (Br (((ByteArray.size L:Int):Int)=32) (∀l0,Ext B [] y l0->(Pure P 18 #[.agg #[vW A a b,vW C c d,vW D e f,vW E g i,vW G j l,I q,vW H m n,vW J o a0,vW K a1 a2,vW A0 a3 a4,vW A1 a5 a6,vW A2 a7 a8,I r,I s],I 5] l0 (Rb fun E8 z=>(Bb E8 (Br (j6=0) (Br (j9=0) (ae P (Instr.buildSlice 48 1 #[(0,(.agg #[I 1,I 1,I 2]))]) B [57,57,57] z (Rs fun E9 G0 G1 G2=>(Pure P 19 #[vW j2 j3 j4,vW E9 G0 G1] G2 (Rb fun G3 M=>(Bb G3 (Br ((j5:Int)=0) (Br (j8=5) (Pure P 20 #[] M fun G4 G5=>∃l1 l2 l3 l4 l5 l6 l7 l8 l9 m0 m1 m2 m3 m4 m5 m6 m7 m8 m9 n0 n1 n2 n3 n4 n5 n6 n7 n8 n9 o0 o1 o2 o3 o4 o5 o6,G4= .agg #[vW l1 l2 l3,vW l4 l5 l6,vW l7 l8 l9,vW m0 m1 m2,vW m3 m4 m5,I m6,vW m7 m8 m9,vW n0 n1 n2,vW n3 n4 n5,vW n6 n7 n8,vW n9 o0 o1,vW o2 o3 o4,I o5,I o6]/\(Pure P 12 #[.agg #[vW l1 l2 l3,vW l4 l5 l6,vW l7 l8 l9,vW m0 m1 m2,vW m3 m4 m5,I m6,vW m7 m8 m9,vW n0 n1 n2,vW n3 n4 n5,vW n6 n7 n8,vW n9 o0 o1,vW o2 o3 o4,I o5,I o6],.agg #[vN,vN,vN,vN,vN,I 0,vN,vN,vN,vN,vN,vN,I 0,I 0]] G5 (Rb fun G6 G7=>(R (.bool G6) G7)))) (R (.bool false) M)) (R (.bool false) M)) (R (.bool false) M)))))) (R (.bool false) z)) (R (.bool false) z)) (R (.bool false) z))))) (∀o7,Ext B [] y o7->(R (.bool false) o7))) (∀o8,Ext B [] y o8->(R (.bool false) o8))) (∀o9,Ext B [] y o9->(R (.bool false) o9))) (∀r0,Ext B [] y r0->(R (.bool false) r0)))))))))):
  bI.L5 t u v L A3 a9 b0 x p A a b C c d D e f E g i G j l q H m n J o a0 K a1 a2 A0 a3 a4 A1 a5 a6 A2 a7 a8 r s B w R:=
 lr bI.cx func4 h
theorem bI.vc
  (h:(Pure P 13 #[] w (Rs fun Z n1 c1 k=>(Pure P 10 #[vW Z n1 c1] k fun d3 d4=>∃a b c d e f g i j l m n o p q r s t u v x y z A C D E G H J K L M N O Q S T,d3= .tuple #[.agg #[vW a b c,vW d e f,vW g i j,vW l m n,vW o p q,I r,vW s t u,vW v x y,vW z A C,vW D E G,vW H J K,vW L M N,I O,I Q],I S,I T]/\(∀U,Ext w.heap.size [] d4 U->(Pure P 14 #[.agg #[vW a b c,vW d e f,vW g i j,vW l m n,vW o p q,I r,vW s t u,vW v x y,vW z A C,vW D E G,vW H J K,vW L M N,I O,I Q],.agg #[I 7,I 4,I 9,vN,vN,vN]] U fun d5 d6=>∃d7 d8 d9 F W e2 e3 e4 e5 e6 e7 e8 e9 g0 g1 g2 g3 g4 g5 g6 g7 g8 g9 j0 j1 j2 j3 j4 j5 j6 j7 j8 j9 l0 l1 l2 V,d5= .tuple #[.agg #[vW d7 d8 d9,vW F W e2,vW e3 e4 e5,vW e6 e7 e8,vW e9 g0 g1,I g2,vW g3 g4 g5,vW g6 g7 g8,vW g9 j0 j1,vW j2 j3 j4,vW j5 j6 j7,vW j8 j9 l0,I l1,I l2],I V]/\(∀X,Ext w.heap.size [] d6 X->(Pure P 15 #[.agg #[vW a b c,vW d e f,vW g i j,vW l m n,vW o p q,I r,vW s t u,vW v x y,vW z A C,vW D E G,vW H J K,vW L M N,I O,I Q]] X (Rt fun l3 l4=>(ae P (Instr.buildSlice 31 2 #[(0,(vU ⟨#[107]⟩)),(1,(vU ⟨#[113]⟩))]) w.heap.size [57,57] l4 (Rs fun l5 Y l6 l7=>(bI.L5 S T V l3 l5 Y l6 (Y:Int) (0:Int) a b c d e f g i j l m n o p q r s t u v x y z A C D E G H J K L M N O Q w.heap.size l7 R)))))))))))):
  Pure P 4 #[] w R:=
 pr bI.cx func4 h

def an.L3(a:O)(b c:Nat)(d:O)(e f:Nat)(g:O)(i j:Nat)(l m:Int):=Lt 6 f6 3 [vS 4 a b c,vS 5 d e f,vS 14 g i j,vI 15 l,vI 16 m] []
def an.J6(a:O)(b c:Nat)(d:O)(e f:Nat)(g:Addr)(i:Addr)(j:Int)(l:O)(m n:Nat)(o p:Int):=Jt 6 f6 6 [vS 4 a b c,vS 5 d e f,(7,.v (.pointer (some g))),(8,.v (.pointer (some i))),vI 9 j,vS 14 l m n,vI 15 o,vI 16 p] []
def an.cx:Pm:=([((true,3),[4,5,14,15,16],[]),((false,6),[4,5,7,8,9,14,15,16],[])],[(1,1,2),(1,2,2),(4,2,2),(5,12,7),(7,2,7),(7,3,2),(7,6,7),(7,7,2)])
theorem an.L3.step
  (h:(Br (p<q) (Ix p e D fun Q5=>(∃n7 n8 n9 o0 o1 o2 o3 o4 o5 o6 o7 o8,aa w (Q5.add ((p).toNat*6)) [I n7,I n8,I n9,vW o0 o1 o2,vW o3 o4 o5,vW o6 o7 o8]/\(ae P (Instr.alloc 33 true (.tuple #[])) B [] w fun Q6 o9=>∃(g:Addr),Q6= .pointer (some g)/\(∃(H:List Value)(J:Nat),B<=g.block/\g.spot=none/\o9.heap[g.block]? =some (.cells H.toArray J (0,0))/\g.off+6<=H.length/\hasType J []=false/\∀m,aG o9 m g.block J (setCells H g.off [I n7,I n8,I n9,vW o0 o1 o2,vW o3 o4 o5,vW o6 o7 o8])->(aN .i64 ((a:Int) - (1:Int))/\(Ix ((a:Int) - (1:Int)) a A fun Q7=>(∃K L M N O Q S T U V X Y Z d0 d1 d2 d3 d4 d5 d6 d7 d8 d9 k F W e3 e4 e5 e6 e7 e8 e9 g0 g1 g2,aa m (Q7.add ((((a:Int) - (1:Int))).toNat*14)) [vW K L M,vW N O Q,vW S T U,vW V X Y,vW Z d0 d1,I d2,vW d3 d4 d5,vW d6 d7 d8,vW d9 k F,vW W e3 e4,vW e5 e6 e7,vW e8 e9 g0,I g1,I g2]/\(∃n o r s t u v x y z E G,aa m g [I n,I o,I r,vW s t u,vW v x y,vW z E G]/\((∀r0,Ext B [] m r0->(Pure P 22 #[.agg #[vW K L M,vW N O Q,vW S T U,vW V X Y,vW Z d0 d1,I d2,vW d3 d4 d5,vW d6 d7 d8,vW d9 k F,vW W e3 e4,vW e5 e6 e7,vW e8 e9 g0,I g1,I g2]] r0 fun Q8 g3=>∃g4 g5 g6 g7 g8 g9 j0 j1 j2 j3 j4 j5 j6 j7 j8 j9 l0 l1 l2 l3 l4 l5 l6 l7 l8 l9 m0 m1 m2 m3 m4 m5 m6 m7 m8 m9,Q8= .agg #[vW g4 g5 g6,vW g7 g8 g9,vW j0 j1 j2,vW j3 j4 j5,vW j6 j7 j8,I j9,vW l0 l1 l2,vW l3 l4 l5,vW l6 l7 l8,vW l9 m0 m1,vW m2 m3 m4,vW m5 m6 m7,I m8,I m9]/\((Pure P 14 #[.agg #[vW g4 g5 g6,vW g7 g8 g9,vW j0 j1 j2,vW j3 j4 j5,vW j6 j7 j8,I j9,vW l0 l1 l2,vW l3 l4 l5,vW l6 l7 l8,vW l9 m0 m1,vW m2 m3 m4,vW m5 m6 m7,I m8,I m9],.agg #[I n,I o,I r,vW s t u,vW v x y,vW z E G]] g3 fun Q9 r1=>∃r2 r3 r4 r5 r6 r7 r8 r9 s0 s1 s2 s3 s4 s5 s6 s7 s8 s9 t0 t1 t2 t3 t4 t5 t6 t7 t8 t9 v0 v1 v2 v3 v4 v5 v6 v7 v8,Q9= .tuple #[.agg #[vW r2 r3 r4,vW r5 r6 r7,vW r8 r9 s0,vW s1 s2 s3,vW s4 s5 s6,I s7,vW s8 s9 t0,vW t1 t2 t3,vW t4 t5 t6,vW t7 t8 t9,vW v0 v1 v2,vW v3 v4 v5,I v6,I v7],I v8]/\(ae P (Instr.alloc 57 true (.tuple #[])) r1.heap.size [] r1 fun S0 v9=>∃(i:Addr),S0= .pointer (some i)/\(∃(n0:List Value)(n1:Nat),B<=i.block/\i.spot=none/\v9.heap[i.block]? =some (.cells n0.toArray n1 (0,0))/\i.off+14<=n0.length/\hasType n1 []=false/\∀x0,aG v9 x0 i.block n1 (setCells n0 i.off [vW r2 r3 r4,vW r5 r6 r7,vW r8 r9 s0,vW s1 s2 s3,vW s4 s5 s6,I s7,vW s8 s9 t0,vW t1 t2 t3,vW t4 t5 t6,vW t7 t8 t9,vW v0 v1 v2,vW v3 v4 v5,I v6,I v7])->(an.J6 A a b C c d g i v8 D e f q p B x0 R))))/\(ae P (Instr.alloc 57 true (.tuple #[])) g3.heap.size [] g3 fun S1 S2=>∃(j:Addr),S1= .pointer (some j)/\(Pure P 14 #[.agg #[vW g4 g5 g6,vW g7 g8 g9,vW j0 j1 j2,vW j3 j4 j5,vW j6 j7 j8,I j9,vW l0 l1 l2,vW l3 l4 l5,vW l6 l7 l8,vW l9 m0 m1,vW m2 m3 m4,vW m5 m6 m7,I m8,I m9],.agg #[I n,I o,I r,vW s t u,vW v x y,vW z E G]] S2 fun S3 x1=>∃x2 x3 x4 x5 x6 x7 x8 x9 y0 y1 y2 y3 y4 y5 y6 y7 y8 y9 z0 z1 z2 z3 z4 z5 z6 z7 z8 z9 D0 D1 D2 D3 D4 D5 D6 D7 D8,S3= .tuple #[.agg #[vW x2 x3 x4,vW x5 x6 x7,vW x8 x9 y0,vW y1 y2 y3,vW y4 y5 y6,I y7,vW y8 y9 z0,vW z1 z2 z3,vW z4 z5 z6,vW z7 z8 z9,vW D0 D1 D2,vW D3 D4 D5,I D6,I D7],I D8]/\(∃(n2:List Value)(n3:Nat),B<=j.block/\j.spot=none/\x1.heap[j.block]? =some (.cells n2.toArray n3 (0,0))/\j.off+14<=n2.length/\hasType n3 []=false/\∀D9,aG x1 D9 j.block n3 (setCells n2 j.off [vW x2 x3 x4,vW x5 x6 x7,vW x8 x9 y0,vW y1 y2 y3,vW y4 y5 y6,I y7,vW y8 y9 z0,vW z1 z2 z3,vW z4 z5 z6,vW z7 z8 z9,vW D0 D1 D2,vW D3 D4 D5,I D6,I D7])->(an.J6 A a b C c d g j D8 D e f q p B D9 R)))))))/\(∀n4,Ext B [] m n4->(ae P (Instr.alloc 57 true (.tuple #[])) n4.heap.size [] n4 fun S4 S5=>∃(l:Addr),S4= .pointer (some l)/\(Pure P 22 #[.agg #[vW K L M,vW N O Q,vW S T U,vW V X Y,vW Z d0 d1,I d2,vW d3 d4 d5,vW d6 d7 d8,vW d9 k F,vW W e3 e4,vW e5 e6 e7,vW e8 e9 g0,I g1,I g2]] S5 fun S6 S7=>∃E0 E1 E2 E3 E4 E5 E6 E7 E8 E9 G0 G1 G2 G3 G4 G5 G6 G7 G8 G9 H0 H1 H2 H3 H4 H5 H6 H7 H8 H9 J0 J1 J2 J3 J4 J5,S6= .agg #[vW E0 E1 E2,vW E3 E4 E5,vW E6 E7 E8,vW E9 G0 G1,vW G2 G3 G4,I G5,vW G6 G7 G8,vW G9 H0 H1,vW H2 H3 H4,vW H5 H6 H7,vW H8 H9 J0,vW J1 J2 J3,I J4,I J5]/\(Pure P 14 #[.agg #[vW E0 E1 E2,vW E3 E4 E5,vW E6 E7 E8,vW E9 G0 G1,vW G2 G3 G4,I G5,vW G6 G7 G8,vW G9 H0 H1,vW H2 H3 H4,vW H5 H6 H7,vW H8 H9 J0,vW J1 J2 J3,I J4,I J5],.agg #[I n,I o,I r,vW s t u,vW v x y,vW z E G]] S7 fun S8 J6=>∃J7 J8 J9 K0 K1 K2 K3 K4 K5 K6 K7 K8 K9 N0 N1 N2 N3 N4 N5 N6 N7 N8 N9 O0 O1 O2 O3 O4 O5 O6 O7 O8 O9 Q0 Q1 Q2 Q3,S8= .tuple #[.agg #[vW J7 J8 J9,vW K0 K1 K2,vW K3 K4 K5,vW K6 K7 K8,vW K9 N0 N1,I N2,vW N3 N4 N5,vW N6 N7 N8,vW N9 O0 O1,vW O2 O3 O4,vW O5 O6 O7,vW O8 O9 Q0,I Q1,I Q2],I Q3]/\(∃(n5:List Value)(n6:Nat),B<=l.block/\l.spot=none/\J6.heap[l.block]? =some (.cells n5.toArray n6 (0,0))/\l.off+14<=n5.length/\hasType n6 []=false/\∀Q4,aG J6 Q4 l.block n6 (setCells n5 l.off [vW J7 J8 J9,vW K0 K1 K2,vW K3 K4 K5,vW K6 K7 K8,vW K9 N0 N1,I N2,vW N3 N4 N5,vW N6 N7 N8,vW N9 O0 O1,vW O2 O3 O4,vW O5 O6 O7,vW O8 O9 Q0,I Q1,I Q2])->(an.J6 A a b C c d g l Q3 D e f q p B Q4 R))))))))))))))) (R (.tuple #[vW A a b,vW C c d]) w))):
  an.L3 A a b C c d D e f q p B w R:=
 lr an.cx func6 h
theorem an.J6.step{j j8:Addr}
  (h:(Br (r=0) (∃l m n o s t u v x y z E G H J K L M N O Q S T U V X Y Z d0 d1 d2 d3 d4 d5 d6 d7,aa w j8 [vW l m n,vW o s t,vW u v x,vW y z E,vW G H J,I K,vW L M N,vW O Q S,vW T U V,vW X Y Z,vW d0 d1 d2,vW d3 d4 d5,I d6,I d7]/\((∀g0,Ext B [] w g0->(ae P (Instr.buildSlice 25 1 #[(0,(.agg #[vW l m n,vW o s t,vW u v x,vW y z E,vW G H J,I K,vW L M N,vW O Q S,vW T U V,vW X Y Z,vW d0 d1 d2,vW d3 d4 d5,I d6,I d7]))]) g0.heap.size [] g0 (Rs fun g1 g2 g3 i=>((ae P (Builtin.append_ #[25,25] 25 #[vW A a b,vW g1 g2 g3]) B [] i (Rs fun m7 m8 m9 g4=>(∃j9 l0 l1 l2 l3 l4 l5 l6 l7 l8 l9 m0,aa g4 j [I j9,I l0,I l1,vW l2 l3 l4,vW l5 l6 l7,vW l8 l9 m0]/\(ae P (Instr.buildSlice 22 1 #[(0,(.agg #[I j9,I l0,I l1,vW l2 l3 l4,vW l5 l6 l7,vW l8 l9 m0]))]) g4.heap.size [] g4 (Rs fun n0 n1 n2 n3=>(ae P (Builtin.append_ #[22,22] 22 #[vW C c d,vW n0 n1 n2]) B [] n3 (Rs fun n4 n5 n6 n7=>(aN .i64 (p+1)/\(an.L3 m7 m8 m9 n4 n5 n6 D e f q (p+1) B n7 R)))))))))/\(∃g5 g6 g7 g8 g9 j0 j1 j2 j3 j4 j5 j6,aa i j [I g5,I g6,I g7,vW g8 g9 j0,vW j1 j2 j3,vW j4 j5 j6]/\((ae P (Builtin.append_ #[25,25] 25 #[vW A a b,vW g1 g2 g3]) B [] i (Rs fun n8 n9 o0 m1=>(ae P (Instr.buildSlice 22 1 #[(0,(.agg #[I g5,I g6,I g7,vW g8 g9 j0,vW j1 j2 j3,vW j4 j5 j6]))]) m1.heap.size [] m1 (Rs fun o1 o2 o3 o4=>(ae P (Builtin.append_ #[22,22] 22 #[vW C c d,vW o1 o2 o3]) B [] o4 (Rs fun o5 o6 o7 o8=>(aN .i64 (p+1)/\(an.L3 n8 n9 o0 o5 o6 o7 D e f q (p+1) B o8 R))))))))/\(ae P (Instr.buildSlice 22 1 #[(0,(.agg #[I g5,I g6,I g7,vW g8 g9 j0,vW j1 j2 j3,vW j4 j5 j6]))]) i.heap.size [] i (Rs fun o9 r0 r1 r2=>(ae P (Builtin.append_ #[25,25] 25 #[vW A a b,vW g1 g2 g3]) B [] r2 (Rs fun r3 r4 r5 r6=>(ae P (Builtin.append_ #[22,22] 22 #[vW C c d,vW o9 r0 r1]) B [] r6 (Rs fun r7 r8 r9 s0=>(aN .i64 (p+1)/\(an.L3 r3 r4 r5 r7 r8 r9 D e f q (p+1) B s0 R))))))))))))))/\(∀g,Ext B [] w g->(∃d8 d9 k F W e3 e4 e5 e6 e7 e8 e9,aa g j [I d8,I d9,I k,vW F W e3,vW e4 e5 e6,vW e7 e8 e9]/\((ae P (Instr.buildSlice 25 1 #[(0,(.agg #[vW l m n,vW o s t,vW u v x,vW y z E,vW G H J,I K,vW L M N,vW O Q S,vW T U V,vW X Y Z,vW d0 d1 d2,vW d3 d4 d5,I d6,I d7]))]) g.heap.size [] g (Rs fun m2 m3 m4 j7=>((ae P (Builtin.append_ #[25,25] 25 #[vW A a b,vW m2 m3 m4]) B [] j7 (Rs fun s1 s2 s3 m5=>(ae P (Instr.buildSlice 22 1 #[(0,(.agg #[I d8,I d9,I k,vW F W e3,vW e4 e5 e6,vW e7 e8 e9]))]) m5.heap.size [] m5 (Rs fun s4 s5 s6 s7=>(ae P (Builtin.append_ #[22,22] 22 #[vW C c d,vW s4 s5 s6]) B [] s7 (Rs fun s8 s9 t0 t1=>(aN .i64 (p+1)/\(an.L3 s1 s2 s3 s8 s9 t0 D e f q (p+1) B t1 R))))))))/\(ae P (Instr.buildSlice 22 1 #[(0,(.agg #[I d8,I d9,I k,vW F W e3,vW e4 e5 e6,vW e7 e8 e9]))]) j7.heap.size [] j7 (Rs fun t2 t3 t4 t5=>(ae P (Builtin.append_ #[25,25] 25 #[vW A a b,vW m2 m3 m4]) B [] t5 (Rs fun t6 t7 t8 t9=>(ae P (Builtin.append_ #[22,22] 22 #[vW C c d,vW t2 t3 t4]) B [] t9 (Rs fun v0 v1 v2 v3=>(aN .i64 (p+1)/\(an.L3 t6 t7 t8 v0 v1 v2 D e f q (p+1) B v3 R)))))))))))/\(ae P (Instr.buildSlice 22 1 #[(0,(.agg #[I d8,I d9,I k,vW F W e3,vW e4 e5 e6,vW e7 e8 e9]))]) g.heap.size [] g (Rs fun v4 v5 v6 m6=>(ae P (Instr.buildSlice 25 1 #[(0,(.agg #[vW l m n,vW o s t,vW u v x,vW y z E,vW G H J,I K,vW L M N,vW O Q S,vW T U V,vW X Y Z,vW d0 d1 d2,vW d3 d4 d5,I d6,I d7]))]) m6.heap.size [] m6 (Rs fun v7 v8 v9 x0=>(ae P (Builtin.append_ #[25,25] 25 #[vW A a b,vW v7 v8 v9]) B [] x0 (Rs fun x1 x2 x3 x4=>(ae P (Builtin.append_ #[22,22] 22 #[vW C c d,vW v4 v5 v6]) B [] x4 (Rs fun x5 x6 x7 x8=>(aN .i64 (p+1)/\(an.L3 x1 x2 x3 x5 x6 x7 D e f q (p+1) B x8 R))))))))))))))) (aN .i64 (p+1)/\(an.L3 A a b C c d D e f q (p+1) B w R)))):
  an.J6 A a b C c d j j8 r D e f q p B w R:=
 jr an.cx func6 h
theorem an.vc
  (h:(Pure P 20 #[] w fun X Y=>∃c d e f g i j l m n o p q r s t u v x y z C D E G H J K L M N O Q S T U,X= .agg #[vW c d e,vW f g i,vW j l m,vW n o p,vW q r s,I t,vW u v x,vW y z C,vW D E G,vW H J K,vW L M N,vW O Q S,I T,I U]/\(ae P (Instr.buildSlice 25 1 #[(0,(.agg #[vW c d e,vW f g i,vW j l m,vW n o p,vW q r s,I t,vW u v x,vW y z C,vW D E G,vW H J K,vW L M N,vW O Q S,I T,I U]))]) w.heap.size [] Y (Rs fun Z d0 d1 d2=>(ae P (Instr.buildSlice 22 0 #[]) w.heap.size [] d2 (Rs fun d3 d4 d5 d6=>(Pure P 21 #[vW A a b] d6 (Rs fun d7 V d8 d9=>(an.L3 Z d0 d1 d3 d4 d5 d7 V d8 (V:Int) (0:Int) w.heap.size d9 R))))))))):
  Pure P 6 #[vW A a b] w R:=
 pr an.cx func6 h

def lW.cx:Pm:=([],[(1,0,2),(1,1,2),(1,2,2),(1,4,2),(1,5,2),(1,6,2),(1,8,2),(1,9,2),(1,10,2),(1,12,2),(1,13,2),(1,15,2),(1,16,2),(1,18,2),(1,20,2)])
theorem lW.vc
  (h:(ae P (Instr.buildSlice 29 3 #[(0,(I 1)),(1,(I 3)),(2,(I 1))]) w.heap.size [] w (Rs fun a b c d=>(ae P (Instr.buildSlice 30 3 #[(0,(vU ⟨#[50]⟩)),(1,(vU ⟨#[49]⟩)),(2,(vU ⟨#[53]⟩))]) w.heap.size [] d (Rs fun e f g i=>(ae P (Instr.buildSlice 31 1 #[(0,(vU ⟨#[97]⟩))]) w.heap.size [] i (Rs fun j l m n=>(ae P (Instr.buildSlice 29 1 #[(0,(I 1))]) w.heap.size [] n (Rs fun o p q r=>(ae P (Instr.buildSlice 30 5 #[(0,(vU ⟨#[57]⟩)),(1,(vU ⟨#[57]⟩)),(2,(vU ⟨#[49]⟩)),(3,(vU ⟨#[48]⟩)),(4,(vU ⟨#[48]⟩))]) w.heap.size [] r (Rs fun s t u v=>(ae P (Instr.buildSlice 31 1 #[(0,(vU ⟨#[65]⟩))]) w.heap.size [] v (Rs fun x y z A=>(ae P (Instr.buildSlice 29 3 #[(0,(I 1)),(1,(I 0)),(2,(I 0))]) w.heap.size [] A (Rs fun C D E G=>(ae P (Instr.buildSlice 30 1 #[(0,(vU ⟨#[49]⟩))]) w.heap.size [] G (Rs fun H J K L=>(ae P (Instr.buildSlice 31 3 #[(0,(vU ⟨#[109,111,115,116]⟩)),(1,(vU ⟨#[]⟩)),(2,(vU ⟨#[53]⟩))]) w.heap.size [] L (Rs fun M N O Q=>(ae P (Instr.buildSlice 29 2 #[(0,(I 1)),(1,(I 2))]) w.heap.size [] Q (Rs fun S T U V=>(ae P (Instr.buildSlice 31 2 #[(0,(vU ⟨#[65,110,110,97]⟩)),(1,(vU ⟨#[107]⟩))]) w.heap.size [] V (Rs fun X Y Z d0=>(ae P (Instr.buildSlice 29 2 #[(0,(I 2)),(1,(I 3))]) w.heap.size [] d0 (Rs fun d1 d2 d3 d4=>(ae P (Instr.buildSlice 31 2 #[(0,(vU ⟨#[66,111,98]⟩)),(1,(vU ⟨#[113]⟩))]) w.heap.size [] d4 (Rs fun d5 d6 d7 d8=>(ae P (Instr.buildSlice 29 3 #[(0,(I 1)),(1,(I 1)),(2,(I 2))]) w.heap.size [] d8 (Rs fun d9 k F W=>(ae P (Instr.buildSlice 22 6 #[(0,(.agg #[I 1,I 0,I 1,vW a b c,vW e f g,vW j l m])),(1,(.agg #[I 2,I 0,I 2,vW o p q,vW s t u,vW x y z])),(2,(.agg #[I 3,I 0,I 3,vW C D E,vW H J K,vW M N O])),(3,(.agg #[I 4,I 0,I 6,vW S T U,vN,vW X Y Z])),(4,(.agg #[I 5,I 0,I 6,vW d1 d2 d3,vN,vW d5 d6 d7])),(5,(.agg #[I 6,I 3,I 7,vW d9 k F,vN,vN]))]) w.heap.size [] W (Rs fun e3 e4 e5 e6=>(R (vW e3 e4 e5) e6)))))))))))))))))))))))))))))))):
  Pure P 13 #[] w R:=
 pr lW.cx func13 h

end Go.Proofs.YtmdphpnaipbfjaaGreatDoor.F

namespace Go.Proofs.YtmdphpnaipbfjaaGreatDoor.B
open Go Go.RowKit Go.Proofs Go.Proofs.YtmdphpnaipbfjaaGreatDoor.Vc

theorem ago:gQ XN/\gQ XO/\gQ XP/\gQ U4/\gQ U5/\gQ tn6:=
 ⟨⟨dc,dc,dc,dc,dc,dc⟩,⟨dc,dc,dc,dc,dc,dc⟩,⟨dc,dc,dc,dc,dc,dc⟩,⟨dc,dc,dc,dc,dc,dc⟩,⟨dc,dc,dc,dc,dc,dc⟩,⟨dc,dc,dc,dc,dc,dc⟩⟩
theorem DX(w:World):Pure Tryz.prog 13 #[] w fun v w'=>∃A c ys,v= .slice A 6 c/\iT w' w.heap.size A 6 c ys/\iR ys=ab1:=by
 refine F.lW.vc ?_;refine aW gM [.int .i64 1,.int .i64 3,.int .i64 1] (by simp[Value.cells]) sm lf fun A1 c1 M o1 b1=> ?_
 have N:Below w.heap.size w M:=b1;refine aW lD [.string ⟨#[50]⟩,.string ⟨#[49]⟩,.string ⟨#[53]⟩] (by simp[Value.cells]) sm N.size fun A4 c4 O o4 b4=> ?_
 have P:Below w.heap.size w O:=kP N b4;refine aW kG [.string ⟨#[97]⟩] (by simp[Value.cells]) sm P.size fun A7 c7 Q o7 b7=> ?_
 have R:Below w.heap.size w Q:=kP P b7;refine aW gM [.int .i64 1] (by simp[Value.cells]) sm R.size fun e g S T xr=> ?_
 have U:Below w.heap.size w S:=kP R xr;refine aW lD [.string ⟨#[57]⟩,.string ⟨#[57]⟩,.string ⟨#[49]⟩,.string ⟨#[48]⟩,.string ⟨#[48]⟩] (by simp[Value.cells]) sm U.size fun h i V W ud=> ?_
 have X:Below w.heap.size w V:=kP U ud;refine aW kG [.string ⟨#[65]⟩] (by simp[Value.cells]) sm X.size fun Zk Zl Y NS EJ=> ?_
 have Z:Below w.heap.size w Y:=kP X EJ;refine aW gM [.int .i64 1,.int .i64 0,.int .i64 0] (by simp[Value.cells]) sm Z.size fun j k EI o19 yX=> ?_
 have pC:Below w.heap.size w EI:=kP Z yX;refine aW lD [.string ⟨#[49]⟩] (by simp[Value.cells]) sm pC.size fun Uf U7 wK UZ Jw=> ?_
 have kA:Below w.heap.size w wK:=kP pC Jw;refine aW kG [.string ⟨#[109,111,115,116]⟩,.string ⟨#[]⟩,.string ⟨#[53]⟩] (by simp[Value.cells]) sm kA.size fun l m BN o25 KR=> ?_
 have sX:Below w.heap.size w BN:=kP kA KR;refine aW gM [.int .i64 1,.int .i64 2] (by simp[Value.cells]) sm sX.size fun n c28 Im o28 Qz=> ?_
 have uL:Below w.heap.size w Im:=kP sX Qz;refine aW kG [.string ⟨#[65,110,110,97]⟩,.string ⟨#[107]⟩] (by simp[Value.cells]) sm uL.size fun o c31 Zp o31 KU=> ?_
 have ES:Below w.heap.size w Zp:=kP uL KU;refine aW gM [.int .i64 2,.int .i64 3] (by simp[Value.cells]) sm ES.size fun q c34 Zq YL NR=> ?_
 have uK:Below w.heap.size w Zq:=kP ES NR;refine aW kG [.string ⟨#[66,111,98]⟩,.string ⟨#[113]⟩] (by simp[Value.cells]) sm uK.size fun r c37 b o37 Px=> ?_
 have qz:Below w.heap.size w b:=kP uK Px;refine aW gM [.int .i64 1,.int .i64 1,.int .i64 2] (by simp[Value.cells]) sm qz.size fun x c40 d FF NI=> ?_
 have zf:Below w.heap.size w d:=kP qz NI;refine aW sB ((([⟨XN,⟨⟨A1,3,c1⟩,⟨A4,3,c4⟩,⟨A7,1,c7⟩⟩⟩,⟨XO,⟨⟨e,1,g⟩,⟨h,5,i⟩,⟨Zk,1,Zl⟩⟩⟩,⟨XP,⟨⟨j,3,k⟩,⟨Uf,1,U7⟩,⟨l,3,m⟩⟩⟩,⟨U4,⟨⟨n,2,c28⟩,.nil,⟨o,2,c31⟩⟩⟩,⟨U5,⟨⟨q,2,c34⟩,.nil,⟨r,2,c37⟩⟩⟩,⟨tn6,⟨⟨x,3,c40⟩,.nil,.nil⟩⟩]:List Em)).map Em.val) (by simp[Value.cells]) sm zf.size fun A43 c43 a YM QA=> ?_
 have z:Below d.heap.size d a:=QA;have B:Below b.heap.size b a:=kP NI z;have C:Below Zq.heap.size Zq a:=kP Px B;have D:Below Zp.heap.size Zp a:=kP NR C;have E:Below Im.heap.size Im a:=kP KU D;have G:Below BN.heap.size BN a:=kP Qz E;have H:Below wK.heap.size wK a:=kP KR G;have I:Below EI.heap.size EI a:=kP Jw H;have J:Below Y.heap.size Y a:=kP yX I;have K:Below V.heap.size V a:=kP EJ J;have L:Below S.heap.size S a:=kP ud K;have e7:Below Q.heap.size Q a:=kP xr L;have e4:Below O.heap.size O a:=kP b7 e7;have e1:Below M.heap.size M a:=kP b4 e4;obtain⟨k1,k2,k3,k4,k5,k6⟩:=ago;refine⟨A43,c43,[⟨XN,⟨⟨A1,3,c1⟩,⟨A4,3,c4⟩,⟨A7,1,c7⟩⟩⟩,⟨XO,⟨⟨e,1,g⟩,⟨h,5,i⟩,⟨Zk,1,Zl⟩⟩⟩,⟨XP,⟨⟨j,3,k⟩,⟨Uf,1,U7⟩,⟨l,3,m⟩⟩⟩,⟨U4,⟨⟨n,2,c28⟩,.nil,⟨o,2,c31⟩⟩⟩,⟨U5,⟨⟨q,2,c34⟩,.nil,⟨r,2,c37⟩⟩⟩,⟨tn6,⟨⟨x,3,c40⟩,.nil,.nil⟩⟩],rfl,⟨YM.base zf.size,?_,?_⟩,rfl⟩
 ·intro y hy;simp only[cb,eH,oP]at hy;rcases hy with rfl|rfl|rfl|rfl|rfl|rfl
  ·exact⟨(o1.below e1),((o4.below e4).base N.size),((o7.below e7).base P.size)⟩
  ·exact⟨((T.below L).base R.size),((W.below K).base U.size),((NS.below J).base X.size)⟩
  ·exact⟨((o19.below I).base Z.size),((UZ.below H).base pC.size),((o25.below G).base kA.size)⟩
  ·exact⟨((o28.below E).base sX.size),ay.nil,((o31.below D).base uL.size)⟩
  ·exact⟨((YL.below C).base ES.size),ay.nil,((o37.below B).base uK.size)⟩
  ·exact⟨((FF.below z).base qz.size),ay.nil,ay.nil⟩
 ·intro y hy;simp only[cb,eH,oP]at hy;rcases hy with rfl|rfl|rfl|rfl|rfl|rfl
  ·exact⟨k1,by show aN .i64 1;simp only[aN];omega⟩
  ·exact⟨k2,by show aN .i64 2;simp only[aN];omega⟩
  ·exact⟨k3,by show aN .i64 3;simp only[aN];omega⟩
  ·exact⟨k4,by show aN .i64 6;simp only[aN];omega⟩
  ·exact⟨k5,by show aN .i64 6;simp only[aN];omega⟩
  ·exact⟨k6,by show aN .i64 7;simp only[aN];omega⟩
end Go.Proofs.YtmdphpnaipbfjaaGreatDoor.B

set_option maxRecDepth 100000
set_option maxHeartbeats 4000000
namespace Go.Proofs.YtmdphpnaipbfjaaGreatDoor.F
open Go Go.RowKit Go.Proofs Go.Proofs.YtmdphpnaipbfjaaGreatDoor.Vc
open Tryz
variable {A C D E G H J K A0 A1 A2 A3 A4 A5 A6 A7 A8 A9 C0 C1 C2 C3 C4 C5 C6 C7 C8 C9:O} {a b c d e f g i j l m n o a0 a1 a2 a3 a4 a5 a6 a7 a8 a9 b0 b1 b2 b3 b4 b5 b6 b7 b8 b9 c0 c1 c2 c3 c4 c5 c6 c7 c8 c9:Nat} {p q r s t u v x p0 p1 p2 p3 p4 p5 p6 p7 p8 p9 q0 q1 q2 q3 q4 q5 q6 q7 q8 q9:Int} {L M N N0 N1 N2 N3 N4 N5 N6 N7 N8 N9 T0 T1 T2 T3 T4 T5 T6 T7 T8 T9:ByteArray} {Q S:Bool} {B:Nat} {w:World} {R:Kt}
def cC.L4(a:O)(b c:Nat)(d:O)(e f:Nat)(g:Int):=Lt 35 f35 4 [vS 0 a b c,vS 1 d e f,vI 5 g] []
def cC.cx:Pm:=([((true,4),[0,1,5],[])],[])
theorem cC.L4.step
  (h:(Br (p<(a:Int)) (Ix p a A fun o=>(∃e f g,aa w (o.add ((p).toNat*3)) [I e,I f,I g]/\(Ix p b C fun q=>(∃i j l,aa w (q.add ((p).toNat*3)) [I i,I j,I l]/\(Br (¬(e=i/\f=j/\g=l/\True)) (∀m,Ext B [] w m->(R (.bool false) m)) (aN .i64 (p+1)/\(∀n,Ext B [] w n->(cC.L4 A a c C b d (p+1) B n R)))))))) (R (.bool true) w))):
  cC.L4 A a c C b d p B w R:=
 lr cC.cx func35 h
theorem cC.vc
  (h:(Br ((a:Int)≠(b:Int)) (R (.bool false) w) (cC.L4 A a c C b d (0:Int) w.heap.size w R))):
  Pure P 35 #[vW A a c,vW C b d] w R:=
 pr cC.cx func35 h

end Go.Proofs.YtmdphpnaipbfjaaGreatDoor.F

set_option maxRecDepth 100000
set_option maxHeartbeats 4000000
namespace Go.Proofs.YtmdphpnaipbfjaaGreatDoor.F
open Go Go.RowKit Go.Proofs Go.Proofs.YtmdphpnaipbfjaaGreatDoor.Vc
open Tryz
variable {A C D E G H J K A0 A1 A2 A3 A4 A5 A6 A7 A8 A9 C0 C1 C2 C3 C4 C5 C6 C7 C8 C9:O} {a b c d e f g i j l m n o a0 a1 a2 a3 a4 a5 a6 a7 a8 a9 b0 b1 b2 b3 b4 b5 b6 b7 b8 b9 c0 c1 c2 c3 c4 c5 c6 c7 c8 c9:Nat} {p q r s t u v x p0 p1 p2 p3 p4 p5 p6 p7 p8 p9 q0 q1 q2 q3 q4 q5 q6 q7 q8 q9:Int} {L M N N0 N1 N2 N3 N4 N5 N6 N7 N8 N9 T0 T1 T2 T3 T4 T5 T6 T7 T8 T9:ByteArray} {Q S:Bool} {B:Nat} {w:World} {R:Kt}
def cD.L4(a:O)(b c:Nat)(d:O)(e f:Nat)(g:Int):=Lt 36 f36 4 [vS 0 a b c,vS 1 d e f,vI 5 g] []
def cD.cx:Pm:=([((true,4),[0,1,5],[])],[])
theorem cD.L4.step
  (h:(Br (p<(a:Int)) (Ix p a A fun r=>(∃e f g i,aa w (r.add ((p).toNat*4)) [I e,I f,I g,vU i]/\(Ix p b C fun s=>(∃j l m n,aa w (s.add ((p).toNat*4)) [I j,I l,I m,vU n]/\(Br (¬(e=j/\f=l/\g=m/\i=n/\True)) (∀o,Ext B [] w o->(R (.bool false) o)) (aN .i64 (p+1)/\(∀q,Ext B [] w q->(cD.L4 A a c C b d (p+1) B q R)))))))) (R (.bool true) w))):
  cD.L4 A a c C b d p B w R:=
 lr cD.cx func36 h
theorem cD.vc
  (h:(Br ((a:Int)≠(b:Int)) (R (.bool false) w) (cD.L4 A a c C b d (0:Int) w.heap.size w R))):
  Pure P 36 #[vW A a c,vW C b d] w R:=
 pr cD.cx func36 h

end Go.Proofs.YtmdphpnaipbfjaaGreatDoor.F

set_option maxRecDepth 100000
set_option maxHeartbeats 4000000
namespace Go.Proofs.YtmdphpnaipbfjaaGreatDoor.F
open Go Go.RowKit Go.Proofs Go.Proofs.YtmdphpnaipbfjaaGreatDoor.Vc
open Tryz
variable {A C D E G H J K A0 A1 A2 A3 A4 A5 A6 A7 A8 A9 C0 C1 C2 C3 C4 C5 C6 C7 C8 C9:O} {a b c d e f g i j l m n o a0 a1 a2 a3 a4 a5 a6 a7 a8 a9 b0 b1 b2 b3 b4 b5 b6 b7 b8 b9 c0 c1 c2 c3 c4 c5 c6 c7 c8 c9:Nat} {p q r s t u v x p0 p1 p2 p3 p4 p5 p6 p7 p8 p9 q0 q1 q2 q3 q4 q5 q6 q7 q8 q9:Int} {L M N N0 N1 N2 N3 N4 N5 N6 N7 N8 N9 T0 T1 T2 T3 T4 T5 T6 T7 T8 T9:ByteArray} {Q S:Bool} {B:Nat} {w:World} {R:Kt}
def cE.L4(a:O)(b c:Nat)(d:O)(e f:Nat)(g:Int):=Lt 37 f37 4 [vS 0 a b c,vS 1 d e f,vI 5 g] []
def cE.cx:Pm:=([((true,4),[0,1,5],[])],[])
theorem cE.L4.step
  (h:(Br (p<(a:Int)) (Ix p a A fun o=>(∃e f g,aa w (o.add ((p).toNat*3)) [I e,I f,I g]/\(Ix p b C fun q=>(∃i j l,aa w (q.add ((p).toNat*3)) [I i,I j,I l]/\(Br (¬(e=i/\f=j/\g=l/\True)) (∀m,Ext B [] w m->(R (.bool false) m)) (aN .i64 (p+1)/\(∀n,Ext B [] w n->(cE.L4 A a c C b d (p+1) B n R)))))))) (R (.bool true) w))):
  cE.L4 A a c C b d p B w R:=
 lr cE.cx func37 h
theorem cE.vc
  (h:(Br ((a:Int)≠(b:Int)) (R (.bool false) w) (cE.L4 A a c C b d (0:Int) w.heap.size w R))):
  Pure P 37 #[vW A a c,vW C b d] w R:=
 pr cE.cx func37 h

end Go.Proofs.YtmdphpnaipbfjaaGreatDoor.F

set_option maxRecDepth 100000
set_option maxHeartbeats 4000000
namespace Go.Proofs.YtmdphpnaipbfjaaGreatDoor.F
open Go Go.RowKit Go.Proofs Go.Proofs.YtmdphpnaipbfjaaGreatDoor.Vc
open Tryz
variable {A C D E G H J K A0 A1 A2 A3 A4 A5 A6 A7 A8 A9 C0 C1 C2 C3 C4 C5 C6 C7 C8 C9:O} {a b c d e f g i j l m n o a0 a1 a2 a3 a4 a5 a6 a7 a8 a9 b0 b1 b2 b3 b4 b5 b6 b7 b8 b9 c0 c1 c2 c3 c4 c5 c6 c7 c8 c9:Nat} {p q r s t u v x p0 p1 p2 p3 p4 p5 p6 p7 p8 p9 q0 q1 q2 q3 q4 q5 q6 q7 q8 q9:Int} {L M N N0 N1 N2 N3 N4 N5 N6 N7 N8 N9 T0 T1 T2 T3 T4 T5 T6 T7 T8 T9:ByteArray} {Q S:Bool} {B:Nat} {w:World} {R:Kt}
def cF.L4(a:O)(b c:Nat)(d:O)(e f:Nat)(g:Int):=Lt 38 f38 4 [vS 0 a b c,vS 1 d e f,vI 5 g] []
def cF.cx:Pm:=([((true,4),[0,1,5],[])],[])
theorem cF.L4.step
  (h:(Br (p<(a:Int)) (Ix p a A fun r=>(∃e f g i,aa w (r.add ((p).toNat*4)) [I e,I f,vU g,vU i]/\(Ix p b C fun s=>(∃j l m n,aa w (s.add ((p).toNat*4)) [I j,I l,vU m,vU n]/\(Br (¬(e=j/\f=l/\g=m/\i=n/\True)) (∀o,Ext B [] w o->(R (.bool false) o)) (aN .i64 (p+1)/\(∀q,Ext B [] w q->(cF.L4 A a c C b d (p+1) B q R)))))))) (R (.bool true) w))):
  cF.L4 A a c C b d p B w R:=
 lr cF.cx func38 h
theorem cF.vc
  (h:(Br ((a:Int)≠(b:Int)) (R (.bool false) w) (cF.L4 A a c C b d (0:Int) w.heap.size w R))):
  Pure P 38 #[vW A a c,vW C b d] w R:=
 pr cF.cx func38 h

end Go.Proofs.YtmdphpnaipbfjaaGreatDoor.F

namespace Go.Proofs.YtmdphpnaipbfjaaGreatDoor.B
open Go Go.RowKit Go.Proofs Go.Proofs.YtmdphpnaipbfjaaGreatDoor.Vc

theorem lF{w0:World}{n:Nat}{L:Int->World->Prop}(he:∀w,Below w0.heap.size w0 w->L (n:Int) w)(hs:∀(i:Nat)(w:World),i<n->Below w0.heap.size w0 w->(∀w',Below w0.heap.size w0 w'->L ((i:Int)+1) w')->L (i:Int) w):∀w,Below w0.heap.size w0 w->L 0 w:=by
 have key:∀(d i:Nat)(w:World),n - i=d->i<=n->Below w0.heap.size w0 w->L (i:Int) w:=by
  intro d;induction d with
  |zero=>
   intro i w a hi hw;have:i=n:=om;subst this;exact he w hw
  |succ d ih=>
   intro i w a hi hw;refine hs i w om hw fun w' b=> ?_
   rw[show(i:Int)+1=((i+1:Nat):Int) by omega];exact ih (i+1) w' om om b
 exact fun w hw=>key n 0 w rfl om hw
section
variable {w0:World} {A A1:Option Addr} {n n1 c c1:Nat}
theorem ab4{l:List Sw}(h:bW w0 A 3 (l.map Sw.row))(h1:bW w0 A1 3 (l.map Sw.row))(e:l.length=n)(B:l.length=n1)(hn:n<2147483648):Pure Tryz.prog 34 #[.slice A n c,.slice A1 n1 c1] w0 fun v _=>v= .bool true:=by
 obtain rfl:n=n1:=om;refine F.cA.vc ⟨fun q=>absurd rfl q,fun _=>lF (n:=n) (L:=fun i w=>F.cA.L4 A n c A1 n c1 i w0.heap.size w fun v _=>v= .bool true) (fun w _=>F.cA.L4.step ⟨fun q=>by omega,fun _=>rfl⟩) (fun i w hi hw d=> ?_) w0 (Below.refl _ _)⟩;obtain⟨hb,a,g,j,_⟩:=(h.below hw).at_ (row:=Sw.row) (fun _=>rfl) e (i:=i) om;obtain⟨b,m,o,r,_⟩:=(h1.below hw).at_ (row:=Sw.row) (fun _=>rfl) e (i:=i) om;exact F.cA.L4.step ⟨fun _=>⟨hb,a,g,_,_,_,j,b,m,o,_,_,_,r,fun q=>absurd ⟨rfl,rfl,rfl,trivial⟩ q,fun _=>⟨ir,fun y z=>d y (kE hw z)⟩⟩,fun q=>by omega⟩
theorem ab5{l:List Sw}(h:bW w0 A 3 (l.map Sw.row))(h1:bW w0 A1 3 (l.map Sw.row))(e:l.length=n)(B:l.length=n1)(hn:n<2147483648):Pure Tryz.prog 35 #[.slice A n c,.slice A1 n1 c1] w0 fun v _=>v= .bool true:=by
 obtain rfl:n=n1:=om;refine F.cC.vc ⟨fun q=>absurd rfl q,fun _=>lF (n:=n) (L:=fun i w=>F.cC.L4 A n c A1 n c1 i w0.heap.size w fun v _=>v= .bool true) (fun w _=>F.cC.L4.step ⟨fun q=>by omega,fun _=>rfl⟩) (fun i w hi hw d=> ?_) w0 (Below.refl _ _)⟩;obtain⟨hb,a,g,j,_⟩:=(h.below hw).at_ (row:=Sw.row) (fun _=>rfl) e (i:=i) om;obtain⟨b,m,o,r,_⟩:=(h1.below hw).at_ (row:=Sw.row) (fun _=>rfl) e (i:=i) om;exact F.cC.L4.step ⟨fun _=>⟨hb,a,g,_,_,_,j,b,m,o,_,_,_,r,fun q=>absurd ⟨rfl,rfl,rfl,trivial⟩ q,fun _=>⟨ir,fun y z=>d y (kE hw z)⟩⟩,fun q=>by omega⟩
theorem ab6{l:List Va}(h:bW w0 A 4 (l.map Va.row))(h1:bW w0 A1 4 (l.map Va.row))(e:l.length=n)(B:l.length=n1)(hn:n<2147483648):Pure Tryz.prog 36 #[.slice A n c,.slice A1 n1 c1] w0 fun v _=>v= .bool true:=by
 obtain rfl:n=n1:=om;refine F.cD.vc ⟨fun q=>absurd rfl q,fun _=>lF (n:=n) (L:=fun i w=>F.cD.L4 A n c A1 n c1 i w0.heap.size w fun v _=>v= .bool true) (fun w _=>F.cD.L4.step ⟨fun q=>by omega,fun _=>rfl⟩) (fun i w hi hw d=> ?_) w0 (Below.refl _ _)⟩;obtain⟨hb,a,g,j,_⟩:=(h.below hw).at_ (row:=Va.row) (fun _=>rfl) e (i:=i) om;obtain⟨b,m,o,r,_⟩:=(h1.below hw).at_ (row:=Va.row) (fun _=>rfl) e (i:=i) om;exact F.cD.L4.step ⟨fun _=>⟨hb,a,g,_,_,_,_,j,b,m,o,_,_,_,_,r,fun q=>absurd ⟨rfl,rfl,rfl,rfl,trivial⟩ q,fun _=>⟨ir,fun y z=>d y (kE hw z)⟩⟩,fun q=>by omega⟩
theorem ab7{l:List Lp}(h:bW w0 A 3 (l.map Lp.row))(h1:bW w0 A1 3 (l.map Lp.row))(e:l.length=n)(B:l.length=n1)(hn:n<2147483648):Pure Tryz.prog 37 #[.slice A n c,.slice A1 n1 c1] w0 fun v _=>v= .bool true:=by
 obtain rfl:n=n1:=om;refine F.cE.vc ⟨fun q=>absurd rfl q,fun _=>lF (n:=n) (L:=fun i w=>F.cE.L4 A n c A1 n c1 i w0.heap.size w fun v _=>v= .bool true) (fun w _=>F.cE.L4.step ⟨fun q=>by omega,fun _=>rfl⟩) (fun i w hi hw d=> ?_) w0 (Below.refl _ _)⟩;obtain⟨hb,a,g,j,_⟩:=(h.below hw).at_ (row:=Lp.row) (fun _=>rfl) e (i:=i) om;obtain⟨b,m,o,r,_⟩:=(h1.below hw).at_ (row:=Lp.row) (fun _=>rfl) e (i:=i) om;exact F.cE.L4.step ⟨fun _=>⟨hb,a,g,_,_,_,j,b,m,o,_,_,_,r,fun q=>absurd ⟨rfl,rfl,rfl,trivial⟩ q,fun _=>⟨ir,fun y z=>d y (kE hw z)⟩⟩,fun q=>by omega⟩
theorem ab8{l:List Ap}(h:bW w0 A 4 (l.map Ap.row))(h1:bW w0 A1 4 (l.map Ap.row))(e:l.length=n)(B:l.length=n1)(hn:n<2147483648):Pure Tryz.prog 38 #[.slice A n c,.slice A1 n1 c1] w0 fun v _=>v= .bool true:=by
 obtain rfl:n=n1:=om;refine F.cF.vc ⟨fun q=>absurd rfl q,fun _=>lF (n:=n) (L:=fun i w=>F.cF.L4 A n c A1 n c1 i w0.heap.size w fun v _=>v= .bool true) (fun w _=>F.cF.L4.step ⟨fun q=>by omega,fun _=>rfl⟩) (fun i w hi hw d=> ?_) w0 (Below.refl _ _)⟩;obtain⟨hb,a,g,j,_⟩:=(h.below hw).at_ (row:=Ap.row) (fun _=>rfl) e (i:=i) om;obtain⟨b,m,o,r,_⟩:=(h1.below hw).at_ (row:=Ap.row) (fun _=>rfl) e (i:=i) om;exact F.cF.L4.step ⟨fun _=>⟨hb,a,g,_,_,_,_,j,b,m,o,_,_,_,_,r,fun q=>absurd ⟨rfl,rfl,rfl,rfl,trivial⟩ q,fun _=>⟨ir,fun y z=>d y (kE hw z)⟩⟩,fun q=>by omega⟩
end
section
variable {w0:World} {k k1:Ca} {xs pM:List Rm} {x:Cm}
theorem ab9(h:vX w0 k xs x)(h1:vX w0 k1 pM x)(lp:x.ps.length<=6)(lh:x.hs.length<=6)(lr:x.rs.length<=16):Pure Tryz.prog 33 #[.agg #[k.p.v,k.h.v,k.r.v],.agg #[k1.p.v,k1.h.v,k1.r.v]] w0 fun v _=>v= .bool true:=by
 have np:=h.np;have nh:=h.nh;have nr:=h.nr;have P:=h1.np;have Q:=h1.nh;have R:=h1.nr;have nx:xs.length=k.r.n:=by rw[<-nr,<-h.e,en]
 have S:pM.length=k1.r.n:=by rw[<-R,<-h1.e,en]
 have er:∀i,(hi:i<xs.length)->(YO:i<pM.length)->xs[i].r=pM[i].r:=fun i hi YO=>by
  have e:dW xs=dW pM:=h.e.trans h1.e.symm;have:=ca (fun l:List Ru=>l[i]?) e;simpa[dW,af hi,af YO]using this
 have zb:∀w,Below w0.heap.size w0 w->F.aj.zb 0 k.p.A k.p.n k.p.c k.h.A k.h.n k.h.c k.r.A k.r.n k.r.c k1.p.A k1.p.n k1.p.c k1.h.A k1.h.n k1.h.c k1.r.A k1.r.n k1.r.c w0.heap.size w fun v _=>v= .bool true:=
  lF (n:=k.r.n) (L:=fun i w=>F.aj.zb i k.p.A k.p.n k.p.c k.h.A k.h.n k.h.c k.r.A k.r.n k.r.c k1.p.A k1.p.n k1.p.c k1.h.A k1.h.n k1.h.c k1.r.A k1.r.n k1.r.c w0.heap.size w fun v _=>v= .bool true) (fun w _=>F.aj.zb.step ⟨fun q=>by omega,fun _=>rfl⟩) (fun i w hi hw E=>by
   have i1:i<xs.length:=om;have i2:i<pM.length:=om;have e:=er i i1 i2;have y:=h.f _ (bx i1);have y1:=h1.f _ (bx i2);have sy:=y.s.len;have ly:=y.l;have G:=y1.l;have cells:=fun w' (z:Below w0.heap.size w0 w')=>(h.r.below z).at_ (row:=Rm.row) (fun _=>rfl) nx i1
   have Uh:=fun w' (z:Below w0.heap.size w0 w')=>(h1.r.below z).at_ (row:=Rm.row) (fun _=>rfl) S i2
   have CJ:∀w,Below w0.heap.size w0 w->F.aj.CJ i 0 k.p.A k.p.n k.p.c k.h.A k.h.n k.h.c k.r.A k.r.n k.r.c k1.p.A k1.p.n k1.p.c k1.h.A k1.h.n k1.h.c k1.r.A k1.r.n k1.r.c xs[i].r.name xs[i].r.kind xs[i].A xs[i].n xs[i].c xs[i].r.low xs[i].r.high xs[i].r.a xs[i].r.b pM[i].r.name pM[i].r.kind pM[i].A pM[i].n pM[i].c pM[i].r.low pM[i].r.high pM[i].r.a pM[i].r.b w0.heap.size w fun v _=>v= .bool true:=
    lF (n:=xs[i].n) (L:=fun j w=>F.aj.CJ i j k.p.A k.p.n k.p.c k.h.A k.h.n k.h.c k.r.A k.r.n k.r.c k1.p.A k1.p.n k1.p.c k1.h.A k1.h.n k1.h.c k1.r.A k1.r.n k1.r.c xs[i].r.name xs[i].r.kind xs[i].A xs[i].n xs[i].c xs[i].r.low xs[i].r.high xs[i].r.a xs[i].r.b pM[i].r.name pM[i].r.kind pM[i].A pM[i].n pM[i].c pM[i].r.low pM[i].r.high pM[i].r.a pM[i].r.b w0.heap.size w fun v _=>v= .bool true)
     (fun w hw=>F.aj.CJ.step ⟨fun q=>by omega,fun _=>⟨ir,E w hw⟩⟩) (fun j w hj hw nj=>by
      have T:j<xs[i].r.ph.length:=om;have j2:j<pM[i].r.ph.length:=by rw[<-e];exact T
      have ej:xs[i].r.ph[j]=pM[i].r.ph[j]:=by
       have:=ca (fun r:Ru=>r.ph[j]?) e;simpa[af T,af j2]using this
      obtain⟨hb,a,B,C,_⟩:=(y.f.below hw).at_ (row:=eD) (fun _=>rfl) ly T;obtain⟨d,g,m,D,_⟩:=(y1.f.below hw).at_ (row:=eD) (fun _=>rfl) G j2;exact F.aj.CJ.step ⟨fun _=>⟨hb,a,B,_,C,d,g,m,_,D,fun q=>absurd ej q,fun _=>⟨ir,fun H I=>nj H (kE hw I)⟩⟩,fun q=>by omega⟩)
   have fin:∀{tys:List Nat} (w w':World),Below w0.heap.size w0 w->Ext w0.heap.size tys w w'->F.aj.CJ i 0 k.p.A k.p.n k.p.c k.h.A k.h.n k.h.c k.r.A k.r.n k.r.c k1.p.A k1.p.n k1.p.c k1.h.A k1.h.n k1.h.c k1.r.A k1.r.n k1.r.c xs[i].r.name xs[i].r.kind xs[i].A xs[i].n xs[i].c xs[i].r.low xs[i].r.high xs[i].r.a xs[i].r.b pM[i].r.name pM[i].r.kind pM[i].A pM[i].n pM[i].c pM[i].r.low pM[i].r.high pM[i].r.a pM[i].r.b w0.heap.size w' fun v _=>v= .bool true:=fun w w' hw x=>CJ w' (kE hw x)
   obtain⟨hb,a,B,C,_⟩:=cells w hw;refine F.aj.zb.step ⟨fun _=>⟨hb,a,B,_,_,_,_,_,_,_,_,_,C,?_⟩,fun q=>by omega⟩;have U:∀(w':World),Below w0.heap.size w0 w'->∃g,k1.r.A=some g/\aa w' (g.add ((i:Int).toNat*7)) (Rm.row pM[i]):=fun w' z=>by
    obtain⟨_,g,m,D,_⟩:=Uh w' z;exact⟨g,m,D⟩
   obtain⟨d,g,m,_⟩:=Uh w hw;have c1:∀w',Below w0.heap.size w0 w'->aa w' (g.add ((i:Int).toNat*7)) (Rm.row pM[i]):=fun w' z=>by
    obtain⟨a2,tp,V⟩:=U w' z;rw[m]at tp;cases tp;exact V
   have W:xs[i].r.name=pM[i].r.name:=by rw[e]
   have X:xs[i].r.kind=pM[i].r.kind:=by rw[e]
   have el:xs[i].r.low=pM[i].r.low:=by rw[e]
   have Y:xs[i].r.high=pM[i].r.high:=by rw[e]
   have ea:xs[i].r.a=pM[i].r.a:=by rw[e]
   have Z:xs[i].r.b=pM[i].r.b:=by rw[e]
   have ef:xs[i].n=pM[i].n:=by rw[<-ly,<-G,e]
   refine⟨⟨d,g,m,fun J o=>⟨_,_,_,_,_,_,_,_,_,c1 J (kE hw o),fun q=>absurd W q,fun _=>⟨fun q=>absurd X q,fun _=>⟨fun q=>absurd el q,fun _=>⟨fun q=>absurd Y q,fun _=>⟨fun q=>absurd ea q,fun _=>⟨fun q=>absurd Z q,fun _=>⟨fun q=>absurd ef om,fun _ K M=>fin J K (kE hw o) M⟩⟩⟩⟩⟩⟩⟩,fun N O=>⟨_,_,_,_,_,_,_,_,_,c1 N (kE hw O),fun q=>absurd W q,fun _=>⟨fun q=>absurd X q,fun _=>⟨fun q=>absurd el q,fun _=>⟨fun q=>absurd Y q,fun _=>⟨fun q=>absurd ea q,fun _=>⟨fun q=>absurd Z q,fun _=>⟨fun q=>absurd ef om,fun _ K M=>fin N K (kE hw O) M⟩⟩⟩⟩⟩⟩⟩⟩,d,g,m,fun J o=>⟨_,_,_,_,_,_,_,_,_,c1 J (kE hw o),fun q=>absurd W q,fun _=>⟨fun q=>absurd X q,fun _=>⟨fun q=>absurd el q,fun _=>⟨fun q=>absurd Y q,fun _=>⟨fun q=>absurd ea q,fun _=>⟨fun q=>absurd Z q,fun _=>⟨fun q=>absurd ef om,fun _ K M=>fin J K (kE hw o) M⟩⟩⟩⟩⟩⟩⟩⟩)
 have L9:∀w,Below w0.heap.size w0 w->F.aj.L9 0 k.p.A k.p.n k.p.c k.h.A k.h.n k.h.c k.r.A k.r.n k.r.c k1.p.A k1.p.n k1.p.c k1.h.A k1.h.n k1.h.c k1.r.A k1.r.n k1.r.c w0.heap.size w fun v _=>v= .bool true:=
  lF (n:=k.h.n) (L:=fun i w=>F.aj.L9 i k.p.A k.p.n k.p.c k.h.A k.h.n k.h.c k.r.A k.r.n k.r.c k1.p.A k1.p.n k1.p.c k1.h.A k1.h.n k1.h.c k1.r.A k1.r.n k1.r.c w0.heap.size w fun v _=>v= .bool true) (fun w hw=>F.aj.L9.step ⟨fun q=>by omega,fun _=>zb w hw⟩) (fun i w hi hw E=>by
   obtain⟨hb,a,B,C,_⟩:=(h.h.below hw).at_ (row:=Ho.row) (fun _=>rfl) nh (i:=i) om;obtain⟨d,g,m,D,_⟩:=(h1.h.below hw).at_ (row:=Ho.row) (fun _=>rfl) Q (i:=i) om;exact F.aj.L9.step ⟨fun _=>⟨hb,a,B,_,_,_,_,_,_,_,C,d,g,m,_,_,_,_,_,_,_,D,fun q=>absurd ⟨rfl,rfl,rfl,rfl,rfl,rfl,rfl,trivial⟩ q,fun _=>⟨ir,fun H I=>E H (kE hw I)⟩⟩,fun q=>by omega⟩)
 have L4:∀w,Below w0.heap.size w0 w->F.aj.L4 0 k.p.A k.p.n k.p.c k.h.A k.h.n k.h.c k.r.A k.r.n k.r.c k1.p.A k1.p.n k1.p.c k1.h.A k1.h.n k1.h.c k1.r.A k1.r.n k1.r.c w0.heap.size w fun v _=>v= .bool true:=
  lF (n:=k.p.n) (L:=fun i w=>F.aj.L4 i k.p.A k.p.n k.p.c k.h.A k.h.n k.h.c k.r.A k.r.n k.r.c k1.p.A k1.p.n k1.p.c k1.h.A k1.h.n k1.h.c k1.r.A k1.r.n k1.r.c w0.heap.size w fun v _=>v= .bool true) (fun w hw=>F.aj.L4.step ⟨fun q=>by omega,fun _=>L9 w hw⟩) (fun i w hi hw E=>by
   obtain⟨hb,a,B,C,_⟩:=(h.p.below hw).at_ (row:=Pa.row) (fun _=>rfl) np (i:=i) om;obtain⟨d,g,m,D,_⟩:=(h1.p.below hw).at_ (row:=Pa.row) (fun _=>rfl) P (i:=i) om;exact F.aj.L4.step ⟨fun _=>⟨hb,a,B,_,_,_,_,_,_,_,C,d,g,m,_,_,_,_,_,_,_,D,fun q=>absurd ⟨rfl,rfl,rfl,rfl,rfl,rfl,rfl,trivial⟩ q,fun _=>⟨ir,fun H I=>E H (kE hw I)⟩⟩,fun q=>by omega⟩)
 exact F.aj.vc ⟨fun q=>by omega,fun _=>⟨fun q=>by omega,fun _=>⟨fun q=>by omega,fun _ w4 x4=>L4 w4 (k0 x4)⟩⟩⟩
theorem Ku(h:vX w0 k xs x)(h1:vX w0 k1 pM x)(ok:eA x):Pure Tryz.prog 12 #[k.val x,k1.val x] w0 fun v _=>v= .bool true:=by
 have lp:=ok.lp;have lh:=ok.lh;have lr:=ok.lr;have ls:=ok.ls;have lw:=ok.lw;have lc:=ok.lc;have lv:=ok.lv;have la:=ok.la;have ll:=ok.ll;have lg:=ok.lg;have lq:=ok.lq;have ns:=h.ns;have D:=h1.ns;have nw:=h.nw;have E:=h1.nw;have nc:=h.nc;have G:=h1.nc;have nv:=h.nv;have H:=h1.nv;have na:=h.na;have I:=h1.na;have nl:=h.nl;have U:=h1.nl;have ng:=h.ng;have J:=h1.ng;have nq:=h.nq;have K:=h1.nq;have zb:∀w,Below w0.heap.size w0 w->F.aA.zb 0 k.p.A k.p.n k.p.c k.h.A k.h.n k.h.c k.r.A k.r.n k.r.c k.s.A k.s.n k.s.c k.w.A k.w.n k.w.c x.cO k.c.A k.c.n k.c.c k.v.A k.v.n k.v.c k.a.A k.a.n k.a.c k.l.A k.l.n k.l.c k.g.A k.g.n k.g.c k.q.A k.q.n k.q.c x.last x.tick k1.p.A k1.p.n k1.p.c k1.h.A k1.h.n k1.h.c k1.r.A k1.r.n k1.r.c k1.s.A k1.s.n k1.s.c k1.w.A k1.w.n k1.w.c x.cO k1.c.A k1.c.n k1.c.c k1.v.A k1.v.n k1.v.c k1.a.A k1.a.n k1.a.c k1.l.A k1.l.n k1.l.c k1.g.A k1.g.n k1.g.c k1.q.A k1.q.n k1.q.c x.last x.tick w0.heap.size w fun v _=>v= .bool true:=
  lF (n:=k.g.n) (L:=fun i w=>F.aA.zb i k.p.A k.p.n k.p.c k.h.A k.h.n k.h.c k.r.A k.r.n k.r.c k.s.A k.s.n k.s.c k.w.A k.w.n k.w.c x.cO k.c.A k.c.n k.c.c k.v.A k.v.n k.v.c k.a.A k.a.n k.a.c k.l.A k.l.n k.l.c k.g.A k.g.n k.g.c k.q.A k.q.n k.q.c x.last x.tick k1.p.A k1.p.n k1.p.c k1.h.A k1.h.n k1.h.c k1.r.A k1.r.n k1.r.c k1.s.A k1.s.n k1.s.c k1.w.A k1.w.n k1.w.c x.cO k1.c.A k1.c.n k1.c.c k1.v.A k1.v.n k1.v.c k1.a.A k1.a.n k1.a.c k1.l.A k1.l.n k1.l.c k1.g.A k1.g.n k1.g.c k1.q.A k1.q.n k1.q.c x.last x.tick w0.heap.size w fun v _=>v= .bool true) (fun w hw=>F.aA.zb.step ⟨fun q=>by omega,fun _=> ?_⟩) (fun i w hi hw d=> ?_)
 rotate_left
 ·have hi:=h.ar hw;have T:=h1.ar hw;refine pm (ab9 hi T lp lh lr) ?_;rintro v UP M rfl;refine⟨_,rfl,fun _=>pm (ab4 ((hi.ar M).s) ((T.ar M).s) ns D om) ?_,fun q=>by cases q⟩;rintro v V N rfl;have O:=kP (kP hw M) N;refine⟨_,rfl,fun _=>pm (ab5 ((h.ar O).pl) ((h1.ar O).pl) nw E om) ?_,fun q=>by cases q⟩;rintro v Ki W rfl;have P:=kP O W;refine⟨_,rfl,fun _=>⟨fun _=>pm (ab6 ((h.ar P).v) ((h1.ar P).v) nv H om) ?_,fun q=>absurd rfl q⟩,fun q=>by cases q⟩;rintro v X Q rfl;have R:=kP P Q;refine⟨_,rfl,fun _=>pm (ab7 ((h.ar R).l) ((h1.ar R).l) nl U om) ?_,fun q=>by cases q⟩;rintro v Y S rfl;have e:=kP R S;refine⟨_,rfl,fun _=>pm (ab8 ((h.ar e).q) ((h1.ar e).q) nq K om) ?_,fun q=>by cases q⟩;rintro v Z b72 rfl;exact⟨_,rfl,fun _=>⟨fun _=>by rw[hM rfl],fun q=>absurd rfl q⟩,fun q=>by cases q⟩
 ·obtain⟨hb,a,j,m,_⟩:=(h.g.below hw).at_ (row:=Si.row) (fun _=>rfl) ng (i:=i) om;obtain⟨b,o,y,z,_⟩:=(h1.g.below hw).at_ (row:=Si.row) (fun _=>rfl) J (i:=i) om;exact F.aA.zb.step ⟨fun _=>⟨hb,a,j,_,_,_,_,m,b,o,y,_,_,_,_,z,fun q=>absurd ⟨rfl,rfl,rfl,rfl,trivial⟩ q,fun _=>⟨ir,fun B C=>d B (kE hw C)⟩⟩,fun q=>by omega⟩
 have L9:∀w,Below w0.heap.size w0 w->F.aA.L9 0 k.p.A k.p.n k.p.c k.h.A k.h.n k.h.c k.r.A k.r.n k.r.c k.s.A k.s.n k.s.c k.w.A k.w.n k.w.c x.cO k.c.A k.c.n k.c.c k.v.A k.v.n k.v.c k.a.A k.a.n k.a.c k.l.A k.l.n k.l.c k.g.A k.g.n k.g.c k.q.A k.q.n k.q.c x.last x.tick k1.p.A k1.p.n k1.p.c k1.h.A k1.h.n k1.h.c k1.r.A k1.r.n k1.r.c k1.s.A k1.s.n k1.s.c k1.w.A k1.w.n k1.w.c x.cO k1.c.A k1.c.n k1.c.c k1.v.A k1.v.n k1.v.c k1.a.A k1.a.n k1.a.c k1.l.A k1.l.n k1.l.c k1.g.A k1.g.n k1.g.c k1.q.A k1.q.n k1.q.c x.last x.tick w0.heap.size w fun v _=>v= .bool true:=
  lF (n:=k.a.n) (L:=fun i w=>F.aA.L9 i k.p.A k.p.n k.p.c k.h.A k.h.n k.h.c k.r.A k.r.n k.r.c k.s.A k.s.n k.s.c k.w.A k.w.n k.w.c x.cO k.c.A k.c.n k.c.c k.v.A k.v.n k.v.c k.a.A k.a.n k.a.c k.l.A k.l.n k.l.c k.g.A k.g.n k.g.c k.q.A k.q.n k.q.c x.last x.tick k1.p.A k1.p.n k1.p.c k1.h.A k1.h.n k1.h.c k1.r.A k1.r.n k1.r.c k1.s.A k1.s.n k1.s.c k1.w.A k1.w.n k1.w.c x.cO k1.c.A k1.c.n k1.c.c k1.v.A k1.v.n k1.v.c k1.a.A k1.a.n k1.a.c k1.l.A k1.l.n k1.l.c k1.g.A k1.g.n k1.g.c k1.q.A k1.q.n k1.q.c x.last x.tick w0.heap.size w fun v _=>v= .bool true) (fun w hw=>F.aA.L9.step ⟨fun q=>by omega,fun _=>zb w hw⟩) (fun i w hi hw d=>by
   obtain⟨hb,a,j,m,_⟩:=(h.a.below hw).at_ (row:=Al.row) (fun _=>rfl) na (i:=i) om;obtain⟨b,o,y,z,_⟩:=(h1.a.below hw).at_ (row:=Al.row) (fun _=>rfl) I (i:=i) om;exact F.aA.L9.step ⟨fun _=>⟨hb,a,j,_,_,_,_,_,_,_,_,m,b,o,y,_,_,_,_,_,_,_,_,z,fun q=>absurd ⟨rfl,rfl,rfl,rfl,rfl,rfl,rfl,rfl,trivial⟩ q,fun _=>⟨ir,fun B C=>d B (kE hw C)⟩⟩,fun q=>by omega⟩)
 have L4:∀w,Below w0.heap.size w0 w->F.aA.L4 0 k.p.A k.p.n k.p.c k.h.A k.h.n k.h.c k.r.A k.r.n k.r.c k.s.A k.s.n k.s.c k.w.A k.w.n k.w.c x.cO k.c.A k.c.n k.c.c k.v.A k.v.n k.v.c k.a.A k.a.n k.a.c k.l.A k.l.n k.l.c k.g.A k.g.n k.g.c k.q.A k.q.n k.q.c x.last x.tick k1.p.A k1.p.n k1.p.c k1.h.A k1.h.n k1.h.c k1.r.A k1.r.n k1.r.c k1.s.A k1.s.n k1.s.c k1.w.A k1.w.n k1.w.c x.cO k1.c.A k1.c.n k1.c.c k1.v.A k1.v.n k1.v.c k1.a.A k1.a.n k1.a.c k1.l.A k1.l.n k1.l.c k1.g.A k1.g.n k1.g.c k1.q.A k1.q.n k1.q.c x.last x.tick w0.heap.size w fun v _=>v= .bool true:=
  lF (n:=k.c.n) (L:=fun i w=>F.aA.L4 i k.p.A k.p.n k.p.c k.h.A k.h.n k.h.c k.r.A k.r.n k.r.c k.s.A k.s.n k.s.c k.w.A k.w.n k.w.c x.cO k.c.A k.c.n k.c.c k.v.A k.v.n k.v.c k.a.A k.a.n k.a.c k.l.A k.l.n k.l.c k.g.A k.g.n k.g.c k.q.A k.q.n k.q.c x.last x.tick k1.p.A k1.p.n k1.p.c k1.h.A k1.h.n k1.h.c k1.r.A k1.r.n k1.r.c k1.s.A k1.s.n k1.s.c k1.w.A k1.w.n k1.w.c x.cO k1.c.A k1.c.n k1.c.c k1.v.A k1.v.n k1.v.c k1.a.A k1.a.n k1.a.c k1.l.A k1.l.n k1.l.c k1.g.A k1.g.n k1.g.c k1.q.A k1.q.n k1.q.c x.last x.tick w0.heap.size w fun v _=>v= .bool true) (fun w hw=>F.aA.L4.step ⟨fun q=>by omega,fun _=>L9 w hw⟩) (fun i w hi hw d=>by
   obtain⟨hb,a,j,m,_⟩:=(h.c.below hw).at_ (row:=Ch.row) (fun _=>rfl) nc (i:=i) om;obtain⟨b,o,y,z,_⟩:=(h1.c.below hw).at_ (row:=Ch.row) (fun _=>rfl) G (i:=i) om;exact F.aA.L4.step ⟨fun _=>⟨hb,a,j,_,_,_,_,_,_,_,m,b,o,y,_,_,_,_,_,_,_,z,fun q=>absurd ⟨rfl,rfl,rfl,rfl,rfl,rfl,rfl,trivial⟩ q,fun _=>⟨ir,fun B C=>d B (kE hw C)⟩⟩,fun q=>by omega⟩)
 exact F.aA.vc ⟨fun q=>by omega,fun _=>⟨fun q=>by omega,fun _=>⟨fun q=>by omega,fun _ w4 x4=>L4 w4 (k0 x4)⟩⟩⟩
end

theorem aca{w0:World}{A A1:Option Addr}{n n1 c c1:Nat}{l l1:List Sw}(h:bW w0 A 3 (l.map Sw.row))(h1:bW w0 A1 3 (l1.map Sw.row))(hlen:l.length=n)(r:l1.length=n1)(hn:n<2147483648):
  Pure Tryz.prog 19 #[.slice A n c,.slice A1 n1 c1] w0 fun y _=>y= .bool (decide (l=l1)):=by
 have key:n=n1->∀(d i:Nat)(w:World),n - i=d->i<=n->Below w0.heap.size w0 w->l.take i=l1.take i->F.aX.L4 A n c A1 n1 c1 n i w0.heap.size w fun y _=>y= .bool (decide (l=l1)):=by
  intro e d;induction d with
  |zero=>
   intro i w x hi hw hx;refine F.aX.L4.step ⟨fun h=>by omega,fun _=> ?_⟩;rw[cc om,cc om]at hx;rw[hM hx]
  |succ d ih=>
   intro i w x hi hw hx;have o:i<l.length:=om;have j:i<l1.length:=om;have z:=sc i;obtain⟨hb,a,B,g,_⟩:=(h.ar hw lf).at_ (fun _=>rfl) hlen o;obtain⟨m,C,D,b,_⟩:=(h1.ar hw lf).at_ (fun _=>rfl) r j;refine F.aX.L4.step ⟨fun _=>⟨hb,a,B,_,_,_,g,m,C,D,_,_,_,b,fun k q _=> ?_,fun k=>⟨ir,fun q x2=> ?_⟩⟩,fun h=>by omega⟩
   ·rw[eL fun e=>k (by subst e;exact⟨rfl,rfl,rfl,trivial⟩)]
   ·rw[z];refine ih (i+1) q om om (kE hw x2) ?_;have k:=dT.1 k;have e:l[i]=l1[i]:=by
     cases E:l[i];cases G:l1[i];rw[E,G]at k;simp only at k;rw[k.1,k.2.1,k.2.2.1]
    rw[gv,gv,hx,af o,af j,e]
 refine F.aX.vc ⟨fun k=> ?_,fun k=>key om n 0 w0 rfl om (Below.refl _ _) sm⟩;rw[eL fun e=>k (by subst e;omega)]

theorem Uj(w:World){i t k:Int}(a:aN .i64 k):mZ w ⟨.nil,.nil,.nil⟩ ⟨i,t,k,[],[],[]⟩:=⟨.inl rfl,.inl rfl,.inl rfl,rfl,rfl,rfl,sm,sm,sm,nofun,nofun,fun _=>rfl,a⟩
section
variable {H:mw} (fk:fj H)
include fk
theorem Ql{w:World}(hg:bj w){k:Ca}{xs:List Rm}{x:Cm}(h:vX w k xs x)(ok:eA x):Pure Tryz.prog 15 #[k.val x] w fun v _=>v= .string (ni H x):=bQ fk hg h.pl h.nw ok.sw ok.lw ok.si
theorem Uk{w0:World}(hg:bj w0){i:Nat}{key:ByteArray}{A:Option Addr}{c:Nat}{xs:List Rm}{k:Ca}{x y:Cm}{w:World}(hi:i<2)(S:([⟨#[107]⟩,⟨#[113]⟩]:List ByteArray)[i]? =some key)(h1:key.size=1)(hs:ay w w0.heap.size 9 A 2 c 1 ((([⟨#[107]⟩,⟨#[113]⟩]:List ByteArray)).map eD))(hw:Below w0.heap.size w0 w)(ho:fa w w0.heap.size k xs x)(ok:eA x)
  (ha:eF H x ⟨7+(i:Int),4,8,[(i:Int)+1],[],[ZI H ((i:Int)+1) key]⟩= .ok y)
  (T:∀w' d C,Below w0.heap.size w0 w'->ay w' w0.heap.size 9 A 2 c 1 ((([⟨#[107]⟩,⟨#[113]⟩]:List ByteArray)).map eD)->fa w' w0.heap.size d C y->eA y->F.bI.L5 (-1) 0 23 (U6 H) A 2 c 2 ((i:Int)+1) d.p.A d.p.n d.p.c d.h.A d.h.n d.h.c d.r.A d.r.n d.r.c d.s.A d.s.n d.s.c d.w.A d.w.n d.w.c y.cO d.c.A d.c.n d.c.c d.v.A d.v.n d.v.c d.a.A d.a.n d.a.c d.l.A d.l.n d.l.c d.g.A d.g.n d.g.c d.q.A d.q.n d.q.c y.last y.tick w0.heap.size w' fun v _=>v= .bool true):
  F.bI.L5 (-1) 0 23 (U6 H) A 2 c 2 (i:Int) k.p.A k.p.n k.p.c k.h.A k.h.n k.h.c k.r.A k.r.n k.r.c k.s.A k.s.n k.s.c k.w.A k.w.n k.w.c x.cO k.c.A k.c.n k.c.c k.v.A k.v.n k.v.c k.a.A k.a.n k.a.c k.l.A k.l.n k.l.c k.g.A k.g.n k.g.c k.q.A k.q.n k.q.c x.last x.tick w0.heap.size w fun v _=>v= .bool true:=by
 obtain⟨U,D⟩:=ek.1 S;obtain⟨hb,a,V,O,_⟩:=hs.sl.at_ (row:=eD) (fun _=>rfl) rfl (i:=i) U;rw[D]at O;refine F.bI.L5.step ⟨fun _=>⟨hb,a,V,_,O,ir,pm (k8 (a:=⟨(i:Int)+1,4,U6 H,⟨#[]⟩⟩) fk (hg.next hw) om om ir ir (by show(ni H yh).size<=_;unfold ni;rw[fk.len];omega)) ?_⟩,fun q=>by omega⟩;rintro v W m rfl;have P:=kP hw m;refine⟨_,_,rfl,ir,ir,?_⟩;refine aW gM [.int .i64 ((i:Int)+1)] (by simp[Value.cells]) sm P.size fun E c53 X G o=> ?_
 have Q:=kP P o;refine aW kG [.string (ZI H ((i:Int)+1) key)] (by simp[Value.cells]) sm Q.size fun I J R K e=> ?_
 have L:=kP Q e;have sz:(ZI H ((i:Int)+1) key).size=32:=fk.len _;have b:Below w.heap.size w R:=kP (kP m o) e;have ev:mZ R ⟨⟨E,1,c53⟩,.nil,⟨I,1,J⟩⟩ ⟨7+(i:Int),4,8,[(i:Int)+1],[],[ZI H ((i:Int)+1) key]⟩:=
  ⟨(G.below e).sl,.inl rfl,K.sl,rfl,rfl,rfl,sm,sm,sm,nofun,fun s hs=>by rw[eb.1 hs,sz];omega,fun _=>rfl,ir⟩
 have Y:gQ ⟨7+(i:Int),4,8,[(i:Int)+1],[],[ZI H ((i:Int)+1) key]⟩:=⟨sm,sm,sm,nofun,fun s hs=>by rw[eb.1 hs,sz];omega,fun z hz=>by rw[eb.1 hz];omega⟩;have M:=qK fk (hg.next L) ((ho.below b).ze ok.sr) ok ev;rw[ha]at M;refine pm M ?_;clear M;rintro v Z B ⟨d,C,rfl,BX⟩;have N:=kP L B;refine⟨_,_,_,_,_,_,_,_,_,_,_,_,_,_,_,_,_,_,_,_,_,_,_,_,_,_,_,_,_,_,_,_,_,_,_,_,_,rfl,fun q=>absurd rfl q,fun _=>⟨fun q=>absurd rfl q,fun _=>⟨ir,fun YY j=> ?_⟩⟩⟩;have lo:=((hs.below b).below B).bH (bA.ext j) dc;exact T YY d C (kE N j) lo ((BX.jK (bA.ext j)).base L.size) (wh ok Y ha)
theorem ace{w0:World}(hg:bj w0){A:Option Addr}{c:Nat}{xs:List Rm}{k:Ca}{w:World}(hw:Below w0.heap.size w0 w)(ho:fa w w0.heap.size k xs (Oh H))(ok:eA (Oh H)):
  F.bI.L5 (-1) 0 23 (U6 H) A 2 c 2 2 k.p.A k.p.n k.p.c k.h.A k.h.n k.h.c k.r.A k.r.n k.r.c k.s.A k.s.n k.s.c k.w.A k.w.n k.w.c (Oh H).cO k.c.A k.c.n k.c.c k.v.A k.v.n k.v.c k.a.A k.a.n k.a.c k.l.A k.l.n k.l.c k.g.A k.g.n k.g.c k.q.A k.q.n k.q.c (Oh H).last (Oh H).tick w0.heap.size w fun v _=>v= .bool true:=by
 have C:=qK (e:=tn9) fk (hg.next hw) (ho.ze ok.sr) ok (Uj w ir);rw[agn fk]at C;refine F.bI.L5.step ⟨fun q=>by omega,fun _=>pm C ?_⟩;clear C;rintro v V o ⟨k9,W,rfl,b⟩;have D:=kP hw o;refine⟨_,_,_,_,_,_,_,_,_,_,_,_,_,_,_,_,_,_,_,_,_,_,_,_,_,_,_,_,_,_,_,_,_,_,_,_,_,rfl,fun E d=> ?_⟩;have G:=kE D d;have b:=b.below (extAll d);have I:=(ho.below o).below (extAll d);refine pm (DX E) ?_;rintro v X i ⟨Y,Z,ys,rfl,es,ee⟩;have R:=kP G i;refine⟨_,_,_,rfl,pm (XL fk (hg.next R) (es.ze om) 2) ?_⟩;have eo:onF H (iR ys) 2= .ok cm5:=by
  rw[ee];unfold onF;rw[aq dc];exact ZH
 rw[eo];rintro v arJ j ⟨ko,xso,rfl,oo,oko⟩;have J:=kP R j;refine⟨_,_,_,_,_,_,_,_,_,_,_,_,_,_,_,_,_,_,_,_,_,_,_,_,_,_,_,_,_,_,_,_,_,_,_,_,_,rfl,fun _=>⟨fun _=>⟨fun _=>⟨fun _ arK m=> ?_,fun q=>absurd (by rw[show(U6 H).size=32 from fk.len _];rfl) q⟩,fun q=>absurd rfl q⟩,fun q=>absurd rfl q⟩,fun q=>absurd rfl q⟩;have S:=kE J m;have K:=((I.below i).below j).below (extAll m);have b:=((b.below i).below j).below (extAll m);refine pm (fX fk (hg.next S) (K.ze ok.sr) ok 5) ?_;rw[Ue fk];rintro v arL y rfl;have T:=kP S y;refine⟨_,rfl,fun _=>⟨fun _=>⟨fun _=> ?_,fun q=>absurd rfl q⟩,fun q=>absurd rfl q⟩,fun q=>by cases q⟩;refine aW ij [Sw.val ⟨1,1,2⟩] (by simp[Value.cells]) sm T.size fun L arM M N B=> ?_
 have Kw:=kP T B;have b:=(b.below y).below B;have U:=b.s.rows;have p9:=b.nw;have h1:bW M L 3 (([⟨1,1,2⟩]:List Sw).map Sw.row):=N.sl;refine pm (aca (l1:=[⟨1,1,2⟩]) b.s.sl h1 U rfl (by rw[<-U];show(1:Nat)<_;omega)) ?_;rintro v O P rfl;have anV:=kP Kw P;refine⟨_,rfl,fun _=>⟨fun _=>⟨fun _=>pm (DW O) ?_,fun q=>absurd rfl q⟩,fun q=>absurd (by rw[<-p9];rfl) q⟩,fun q=>absurd (hM (rfl:([⟨1,1,2⟩]:List Sw)=[⟨1,1,2⟩])) (by intro k;exact absurd (k.symm.trans q) dc)⟩;rintro v Q Um rfl;have z:=(fa.zero Q 0).ze (x:=Cm.zero) nofun;have hz:=Ku z z eA.zero;refine⟨_,_,_,_,_,_,_,_,_,_,_,_,_,_,_,_,_,_,_,_,_,_,_,_,_,_,_,_,_,_,_,_,_,_,_,_,rfl,pm hz ?_⟩;rintro v arN _ rfl;exact⟨_,rfl,rfl⟩
theorem Un{w:World}(hg:bj w):Pure Tryz.prog 4 #[] w fun v _=>v= .bool true:=by
 refine F.bI.vc (pm (DX w) ?_);rintro v T b ⟨A1,c1,ys,rfl,es,C⟩;refine⟨_,_,_,rfl,pm (Aw fk (hg.next b) (es.ze om)) ?_⟩;rw[C,agi];rintro v U D ⟨k,xs,rfl,o,ok⟩;have E:=kP b D;refine⟨_,_,_,_,_,_,_,_,_,_,_,_,_,_,_,_,_,_,_,_,_,_,_,_,_,_,_,_,_,_,_,_,_,_,_,_,_,_,rfl,fun G q=> ?_⟩;have r:=kE E q;have o:=(o.below (extAll q)).base b.size;have c:=qK fk (hg.next r) (o.ze ok.sr) ok (Uj (i:=7) (t:=4) (k:=9) G ir);rw[ab2 fk]at c;refine pm c ?_;clear c;intro v I x d;have d:v=_:=d;subst d;have J:=kP r x;refine⟨_,_,_,_,_,_,_,_,_,_,_,_,_,_,_,_,_,_,_,_,_,_,_,_,_,_,_,_,_,_,_,_,_,_,_,_,_,rfl,fun V a=> ?_⟩;have z:=kE J a;have o:=(o.below x).below (extAll a);refine pm (Ql fk (hg.next z) (o.ze ok.sr) ok) ?_;rintro v K A rfl;have e:=kP z A;refine⟨_,rfl,?_⟩;refine aW kG [.string ⟨#[107]⟩,.string ⟨#[113]⟩] (by simp[Value.cells]) sm e.size fun g h j L B=> ?_
 have M:=kP e B;have o:=(o.below A).below B;have hs:ay j w.heap.size 9 g 2 h 1 ((([⟨#[107]⟩,⟨#[113]⟩]:List ByteArray)).map eD):=L.base e.size;refine Uk fk hg (i:=0) (key:=⟨#[107]⟩) (y:=cm7 H) om rfl rfl hs M o ok (agk fk) fun w1 W X N l O m=> ?_
 refine Uk fk hg (i:=1) (key:=⟨#[113]⟩) (y:=Oh H) om rfl rfl l N O m (agl fk) fun Y Z P Q R S n=> ?_
 exact ace fk hg Q S n
end
theorem Kx{w:World}(hg:bj w):Pure Tryz.prog 4 #[] w fun v _=>v= .bool true:=Un MT hg

theorem EW{P:Program}{t ty e size bytes:Nat}(el:El P t e size bytes){B0 B:Nat}(l:B0<=B){tys:List Nat}{w:World}{v:Value}{n:Nat}{xs:List Value}(b:w.ownsRow B e size v n xs)
  {a:Addr} {m c:Nat} {news:List Value} (hl:news.length=m*size) (o:∀j u,news[j]? =some u->w.cell? (a.add j)=some u) (h1:∀u∈news,bk u=true)
  (hB:B<=w.heap.size) (hn:n+m<9223372036854775808) (lz:(n+m)*bytes<=140737488355328) (q:e∉tys) {K:Option Addr->Nat->Nat->World->Prop}
  (h:∀A c g,g.ownsRow B e size (.slice A (n+m) c) (n+m) (xs++news)->w.grownBy g v.ownBlock->Below B0 w g->((Value.slice A (n+m) c).ownBlock=v.ownBlock∨(Value.slice A (n+m) c).ownBlock=some w.heap.size)->K A (n+m) c g):
  ae P (Builtin.append_ #[t,t] ty #[v,.slice (some a) m c]) B0 tys w fun r g=>∃A n c,r= .slice A n c/\K A n c g:=by
 obtain⟨i,z,x,y,C,D,E⟩:=el.info;obtain⟨I,w',F,ho,hg,_,G⟩:=run_append_own_at (P:=P) w B t ty e i z size bytes el.IJ x y C D E el.pos v n xs b a m c news hl o (fun u hu=>me (h1 u hu)) (by simp only[maxLen];omega) om hB;have d:Below B0 w w':=bT hg (fun k H=>ec l (b.lt k H).1) (ec l hB);obtain⟨A,c',rfl,_⟩:=ownsRow_form ho;exact⟨_,w',F,d,d.size,tK hg b q,A,_,c',rfl,h A c' w' ho hg d G⟩

structure Cw where
 k:Ca
 xs:List Rm
 x:Cm
abbrev Cw.row(y:Cw):List Value:=y.k.cells y.x
theorem DY:El Tryz.prog 25 57 14 288:=El.of kF
theorem HU:(Tryz.prog.info? 57).bind (·.zero)=some (Ca.zero.val Cm.zero):=kF
structure pW (w:World) (B:Nat) (A:Option Addr) (n c:Nat) (ys:List Cw):Prop where
 s:ay w B 57 A n c 14 (ys.map Cw.row)
 f:∀y∈ys,fa w B y.k y.xs y.x
 o:∀y∈ys,eA y.x
theorem fa.Oj{w w':World}{B:Nat}{k:Ca}{xs:List Rm}{x:Cm}(h:fa w B k xs x)(s:bA 33 w w'):fa w' B k xs x:=by
 obtain⟨p1,p2,p3,d,g,j,l,m,o,a,b,q⟩:=h.MZ s;exact⟨p1 dc,p2 dc,p3 dc,d dc,h.e,g dc,j dc,h.nw,h.cw,l dc,m dc,o dc,a dc,b dc,q dc⟩
theorem nC.jK{w w':World}{B:Nat}{a:Ea}{e:Ev}(h:nC w B a e)(s:bA 57 w w'):nC w' B a e:=⟨h.n.bH s dc,h.r.bH s dc,h.t.bH s dc⟩
section
variable {w w':World} {B n c:Nat} {A:Option Addr} {ys:List Cw} {zs:List Em}
theorem pW.below(h:pW w B A n c ys)(hb:Below w.heap.size w w'):pW w' B A n c ys:=⟨h.s.below hb,fun y hy=>(h.f y hy).below hb,h.o⟩
theorem pW.Oj(h:pW w B A n c ys)(s:bA 33 w w'):pW w' B A n c ys:=⟨h.s.bH s dc,fun y hy=>(h.f y hy).Oj s,h.o⟩
theorem iT.jK(h:iT w B A n c zs)(s:bA 57 w w'):iT w' B A n c zs:=⟨h.s.bH s dc,fun y hy=>(h.f y hy).jK s,h.o⟩
theorem iT.fresh(h:iT w B A n c zs){w1:World}{p:Nat}{cs b:List Value}(hb:Below w.heap.size w w1)(hp:w.heap.size<=p)(h1:w1.heap[p]? =some (.cells cs.toArray 33 (0,0)))(hw:aG w1 w' p 33 b):iT w' B A n c zs:=
 ⟨(h.s.below hb).other fun a ha=>hw.rest _ (by have:=(h.s.uN a ha).2;omega),fun y hy=>((h.f y hy).below hb).bH (bA.wrote hw h1),h.o⟩
theorem pW.fresh(h:pW w B A n c ys){w1:World}{p:Nat}{cs b:List Value}(hb:Below w.heap.size w w1)(hp:w.heap.size<=p)(h1:w1.heap[p]? =some (.cells cs.toArray 57 (0,0)))(hw:aG w1 w' p 57 b):pW w' B A n c ys:=
 ⟨(h.s.below hb).other fun a ha=>hw.rest _ (by have:=(h.s.uN a ha).2;omega),fun y hy=>((h.f y hy).below hb).jK (bA.wrote hw h1),h.o⟩
end
def kS(H:mw)(lX:List Cm)(es:List Ev):Prop:=lX.length=es.length+1/\lX[0]? =some Cm.zero/\∀i x y e,lX[i]? =some x->lX[i+1]? =some y->es[i]? =some e->eF H x e= .ok y
theorem kS.snoc{H:mw}{lX:List Cm}{es:List Ev}{x y:Cm}{e:Ev}(h:kS H lX es)(hl:lX[es.length]? =some x)(ha:eF H x e= .ok y):kS H (lX++[y]) (es++[e]):=by
 obtain⟨h1,a,b⟩:=h;refine⟨by simp[h1],by rw[hN om];exact a,fun i d g j g1 g2 g3=> ?_⟩;have hi:i<(es++[e]).length:=(ek.1 g3).1;rw[dp,pe]at hi;by_cases q:i<es.length
 ·rw[hN om]at g1;rw[hN om]at g2;rw[hN q]at g3;exact b i d g j g1 g2 g3
 ·have:i=es.length:=om;subst this;rw[hN om,hl]at g1;rw[iB om,h1,NW]at g2;rw[iB om,NW]at g3;cases g1;cases g2;cases g3;exact ha
abbrev HV(A5 tr:Option Addr):Prop:=∀a b,A5=some a->tr=some b->a.block≠b.block
section
variable {w0 W:World} {A4 A5 tr:Option Addr} {n4 c4 n5 c5 n zq i:Nat} {lX:List Cw} {pJ zs:List Em} {z:Em} {y:Cw} {L:Option Addr->Nat->Nat->Option Addr->Nat->Nat->World->Prop}
theorem HW(st:pW W w0.heap.size A4 n4 c4 lX)(hy:fa W w0.heap.size y.k y.xs y.x)(ok:eA y.x){A2:Option Addr}{c2 lo:Nat}(o:ay W lo 57 A2 1 c2 14 [y.row])(hw:Below w0.heap.size w0 W)(hn:n4<=50){K:Option Addr->Nat->Nat->World->Prop}
  (d:∀A' c' a,Below w0.heap.size W a->pW a w0.heap.size A' (n4+1) c' (lX++[y])->bA 57 W a->K A' (n4+1) c' a):
  ae Tryz.prog (Builtin.append_ #[25,25] 25 #[.slice A4 n4 c4,.slice A2 1 c2]) w0.heap.size [] W fun r w1=>∃A n c,r= .slice A n c/\K A n c w1:=by
 refine vt DY lf st.s o.sl (show([y.row]:List (List Value)).length=1 from rfl) (fun r b=>by rw[eb.1 b];rfl) (fun r b=>by
  rw[eb.1 b];intro u hu;simp only[Cw.row,Ca.cells,cb,eH,oP]at hu;rcases hu with rfl|rfl|rfl|rfl|rfl|rfl|rfl|rfl|rfl|rfl|rfl|rfl|rfl|rfl<;>rfl) (fun e=>o.th e) hw.size om sm fun A' c' a g g2 h=> ?_
 have s:=bA.grown st.s g2;refine d A' c' a h ⟨by rw[eh];exact g,fun x hx=> ?_,fun x hx=> ?_⟩ s
 ·rcases fJ.1 hx with hx|hx
  ·exact(st.f x hx).jK s
  ·rw[eb.1 hx];exact hy.jK s
 ·rcases fJ.1 hx with hx|hx
  ·exact st.o x hx
  ·rw[eb.1 hx];exact ok
variable (nx:∀W Ky Kz M4 QI,Below w0.heap.size w0 W->pW W w0.heap.size Ky (n4+1) Kz (lX++[y])->iT W w0.heap.size M4 (n5+1) QI (pJ++[z])->iT W w0.heap.size tr n zq zs->HV M4 tr->L Ky (n4+1) Kz M4 (n5+1) QI W) (hi:i<1000) (TG:n5<=50) (TD:n4<=50) (hz:z∈zs)
include nx hi TG hz
theorem Ni{Ky:Option Addr}{Kz:Nat}(st:pW W w0.heap.size Ky (n4+1) Kz (lX++[y]))(ev:iT W w0.heap.size A5 n5 c5 pJ)(d:iT W w0.heap.size tr n zq zs)(sep:HV A5 tr)(hw:Below w0.heap.size w0 W){A2:Option Addr}{c2 lo:Nat}(o:ay W lo 33 A2 1 c2 6 [z.row]):
  ae Tryz.prog (Builtin.append_ #[22,22] 22 #[.slice A5 n5 c5,.slice A2 1 c2]) w0.heap.size [] W fun r w1=>∃A n c,r= .slice A n c/\(aN .i64 ((i:Int)+1)/\L Ky (n4+1) Kz A n c w1):=by
 rcases o.sl with e|⟨b,off,cs,ty,fr,rfl,C,D⟩
 ·cases e
 refine EW sB lf ev.s.1 (m:=1) (news:=z.row) rfl (fun j u hu=> ?_) (fun u hu=> ?_) hw.size om om sm fun A' c' h E g2 F loc=>⟨ir,?_⟩
 ·have hj:j<z.row.length:=(ek.1 hu).1;obtain⟨_,k⟩:=D 0 sm j (by simpa using hj);rw[ct] ;simp only[World.cell?,C];rw[VQ,xK]at k;rw[k,<-hu];exact(af hj).symm
 ·simp only[Em.row,cb,eH,oP]at hu;rcases hu with rfl|rfl|rfl|rfl|rfl|rfl<;>rfl
 ·have s:=bA.grown ev.s g2;have on:ay h w0.heap.size 33 A' (n5+1) c' 6 ((pJ++[z]).map Em.row):=⟨by rw[eh,u1];simpa using E,by simp[ev.s.rows],fun r G=>by obtain⟨x,_,rfl⟩:=iu.1 G;rfl⟩;refine nx h Ky Kz A' c' (hw.trans F) (st.Oj s) ⟨on,fun x hx=> ?_,fun x hx=> ?_⟩ ⟨d.s.other fun a ha=>g2.block _ (d.s.uN a ha).2 fun q=> ?_,fun x hx=>(d.f x hx).bH s,d.o⟩ fun a b ha hb q=> ?_
  ·rcases fJ.1 hx with hx|hx
   ·exact(ev.f x hx).bH s
   ·rw[eb.1 hx];exact(d.f z hz).bH s
  ·rcases fJ.1 hx with hx|hx
   ·exact ev.o x hx
   ·rw[eb.1 hx];exact d.o z hz
  ·cases g:A5 with
   |none=>rw[g]at q;cases q
   |some a5=>
    rw[g]at q;have q:some a.block=some a5.block:=q;exact sep a5 a g ha (Hc q).symm
  ·subst ha;have H:=(d.s.uN b hb).2;have loc:(some a.block=Value.ownBlock (.slice A5 n5 c5))∨some a.block=some W.heap.size:=loc;rcases loc with l|l
   ·cases g:A5 with
    |none=>rw[g]at l;cases l
    |some a5=>
     rw[g]at l;have l:some a.block=some a5.block:=l;have:=Hc l;exact sep a5 b g hb (by rw[<-this];exact q)
   ·have:=Hc l;omega
theorem Uo{Ky:Option Addr}{Kz:Nat}(st:pW W w0.heap.size Ky (n4+1) Kz (lX++[y]))(ev:iT W w0.heap.size A5 n5 c5 pJ)(a:iT W w0.heap.size tr n zq zs)(sep:HV A5 tr)(hw:Below w0.heap.size w0 W):
  ae Tryz.prog (Instr.buildSlice 22 1 #[(0,z.val)]) W.heap.size [] W fun r w1=>∃A m c,r= .slice A m c/\
   ae Tryz.prog (Builtin.append_ #[22,22] 22 #[.slice A5 n5 c5,.slice A m c]) w0.heap.size [] w1 fun r w1=>∃A n c,r= .slice A n c/\(aN .i64 ((i:Int)+1)/\L Ky (n4+1) Kz A n c w1):=
 aW sB [z.val] (by simp[Value.cells]) sm lf fun A c d o b=>Ni nx hi TG hz (st.below b) (ev.below b) (a.below b) sep (kP hw b) (show ay d _ _ A 1 c 6 [z.row]from o)
include TD
theorem Up(st:pW W w0.heap.size A4 n4 c4 lX)(ev:iT W w0.heap.size A5 n5 c5 pJ)(e:iT W w0.heap.size tr n zq zs)(sep:HV A5 tr)(hw:Below w0.heap.size w0 W)(hy:fa W w0.heap.size y.k y.xs y.x)(ok:eA y.x){A2:Option Addr}{c2 lo:Nat}(o:ay W lo 57 A2 1 c2 14 [y.row]):
  (ae Tryz.prog (Builtin.append_ #[25,25] 25 #[.slice A4 n4 c4,.slice A2 1 c2]) w0.heap.size [] W fun r w1=>∃A' n' c',r= .slice A' n' c'/\
   ae Tryz.prog (Instr.buildSlice 22 1 #[(0,z.val)]) w1.heap.size [] w1 fun r w1=>∃A m c,r= .slice A m c/\
    ae Tryz.prog (Builtin.append_ #[22,22] 22 #[.slice A5 n5 c5,.slice A m c]) w0.heap.size [] w1 fun r w1=>∃A n c,r= .slice A n c/\(aN .i64 ((i:Int)+1)/\L A' n' c' A n c w1))/\
  ae Tryz.prog (Instr.buildSlice 22 1 #[(0,z.val)]) W.heap.size [] W fun r w1=>∃A m c,r= .slice A m c/\
   ae Tryz.prog (Builtin.append_ #[25,25] 25 #[.slice A4 n4 c4,.slice A2 1 c2]) w0.heap.size [] w1 fun r w1=>∃A' n' c',r= .slice A' n' c'/\
    ae Tryz.prog (Builtin.append_ #[22,22] 22 #[.slice A5 n5 c5,.slice A m c]) w0.heap.size [] w1 fun r w1=>∃A n c,r= .slice A n c/\(aN .i64 ((i:Int)+1)/\L A' n' c' A n c w1):=by
 constructor
 ·exact HW st hy ok o hw TD fun A' c' g b d s2=>Uo nx hi TG hz d (ev.jK s2) (e.jK s2) sep (hw.trans b)
 ·refine aW sB [z.val] (by simp[Value.cells]) sm lf fun A c w1 h a=> ?_
  exact HW (st.below a) (hy.below a) ok (o.below a) (kP hw a) TD fun A' c' g b d s2=>Ni nx hi TG hz d ((ev.below a).jK s2) ((e.below a).jK s2) sep ((kP hw a).trans b) ((show ay w1 _ _ A 1 c 6 [z.row]from h).bH s2 dc)
end

section
variable {H:mw} {lX:List Cm} {es:List Ev}
theorem kS.get(h:kS H lX es){i:Nat}(hi:i<es.length):∃x y,lX[i]? =some x/\lX[i+1]? =some y/\eF H x es[i]= .ok y:=by
 obtain⟨h1,_,a⟩:=h;refine⟨lX[i],lX[i+1],af om,af om,a i _ _ _ (af om) (af om) (af hi)⟩
theorem kS.enc(h:kS H lX es){i:Nat}(hi:i<es.length):qL es[i]:=by
 obtain⟨x,y,_,_,ha⟩:=h.get hi;exact Qg ha
theorem kS.ord(h:kS H lX es){i:Nat}(hi:i+1<es.length):es[i].id<es[i+1].id/\es[i].tick<=es[i+1].tick:=by
 obtain⟨x,y,_,hy,ha⟩:=h.get (i:=i) om;obtain⟨x2,e,c,_,b⟩:=h.get (i:=i+1) hi;rw[hy]at c;cases c;obtain⟨m1,m2⟩:=Kl ha;obtain⟨d,a⟩:=zh b;have:=a.ord;omega
theorem kS.fold(h:kS H lX es):∃x,lX[es.length]? =some x/\mu H 0 Cm.zero es= .ok x:=by
 have key:∀(d i:Nat)(x:Cm),i+d=es.length->lX[i]? =some x->∃y,lX[es.length]? =some y/\mu H i x (es.drop i)= .ok y:=by
  intro d;induction d with
  |zero=>
   intro i x hi hx;have:i=es.length:=om;subst this;exact⟨x,hx,by rw[dd lf];rfl⟩
  |succ d ih=>
   intro i x hi hx;have hl:i<es.length:=om;obtain⟨x2,y,a,hy,ha⟩:=h.get hl;rw[hx]at a;cases a;obtain⟨z,hz,hf⟩:=ih (i+1) y om hy;refine⟨z,hz,?_⟩;rw[cy hl,mu,ha];exact hf
 have:=key es.length 0 Cm.zero om h.2.1;rwa [AY]at this
theorem kS.fit(h:kS H lX es){l:List En}{i:Nat}(hi:i<es.length)(ok:gQ es[i])(hl:l.map (fun x=>x.m.e)=es.take i):HT l es[i]:=by
 refine⟨h.enc hi,ok,fun q b=> ?_⟩;have a:(l.map fun x=>x.m.e).getLast? =some q.m.e:=by rw[Yd,b];rfl
 rw[hl,vu,ep,jv om]at a
 match i,hi,a with
 |0,_,a=>simp at a
 |j+1,hi,a=>
  rw[Wh,List.getElem?_take_of_lt om,af om]at a;rw[<-Hc a];exact h.ord hi
end

theorem HX{α:Type}{l:List α}{p:α->Bool}(h:∀x∈l,p x=false):l.any p=false:=zI.2 fun x hx=>by rw[h x hx];decide
theorem pX(l m:List Int):hX (l++m)=hX l++hX m:=by simp[hX]
theorem Ax(z:Int):hX [z]=bJ (nB (FO z)):=by simp[hX]
theorem Nj(l:List Int)(z:Int):hX (l++[z])=hX l++bJ (nB (FO z)):=by rw[pX,Ax]
theorem Qm(s:ByteArray):cJ [s]=bJ (nB s.size++s):=by simp[cJ]
theorem uu:∀(l m:List ByteArray),cJ (l++m)=cJ l++cJ m:=by
 intro l m;induction l with
 |nil=>rfl
 |cons x r ih=>rw[vv,cJ,cJ,ih,fi]
theorem DZ(a b:ByteArray):bJ (a++b)=bJ a++bJ b:=by simp[bJ,TJ]
def EX(e:Ev):Tx:=bJ (nB e.id.toNat)++(bJ (nB e.tick.toNat)++(bJ (nB e.kind.toNat)++bJ (nB e.nums.length)))
theorem HY(e:Ev):kD e=EX e++(hX e.nums++(bJ (nB e.bS.length)++(cJ e.bS++(bJ (nB e.texts.length)++cJ e.texts)))):=by
 unfold kD EX;simp only[fi]
section
variable {w0 w:World} {a:Ea} {e:Ev} {b:Nat}
theorem Eb{T rest:Tx}(he:gQ e)(ok:qL e)(h:kD e=T++rest):T.length<=2000:=by
 have:=qM he ok;rw[h,dp]at this;omega
abbrev ach(e:Ev)(v:Value):Prop:=v= .tuple #[.string (st (kD e)),.int .i64 0]
theorem XS(h:mZ w0 a e)(he:gQ e)(ok:qL e)(hB:w0.heap.size<=b){x0 x1 x2:Int}{A3:Option Addr}{n3 c3:Nat}:
  ∀(d i:Nat)(w:World),a.r.n - i=d->i<=a.r.n->Below w0.heap.size w0 w->Bu w w0.heap.size b (EX e++(hX e.nums++(bJ (nB e.bS.length)++cJ (e.bS.take i))))->
   F.bu.uZ ⟨b,0,none⟩ a.r.A a.r.n a.r.c a.r.n i x0 x1 x2 A3 n3 c3 a.r.A a.r.n a.r.c a.t.A a.t.n a.t.c w0.heap.size w fun v _=>ach e v:=by
 have lr:=h.lr;have lt:=h.lt;have mr:=he.mr;have mt:=he.mt;intro d;induction d with
 |zero=>
  intro i w R hi hw hb;rw[cc om]at hb;refine F.bu.uZ.step ⟨fun q=>by omega,fun _ S M=>pm (cj S a.t.n om) ?_⟩;have B:=extAll M;have C:=kE hw M;rintro v T N rfl;have O:=kP C N;refine⟨_,rfl,pm (dH (h.t.below O) lt om fun s hs=>by have:=he.st s hs;omega) ?_⟩;rintro v U j rfl;have k:=kP O j;have D:=((hb.below B).below N).below j;have y:kD e=(EX e++(hX e.nums++(bJ (nB e.bS.length)++cJ e.bS)))++bJ (nB a.t.n++st (cJ e.texts)):=by
   rw[HY,DZ,oQ,<-lt];simp only[fi]
  have hl:=qM he ok;rw[y,dp,dx,eU]at hl;refine⟨_,rfl,om,qI D (nB a.t.n++st (cJ e.texts)) (by rw[eU];omega) k.size dc dc fun V E m _=> ?_⟩;have G:=k.trans E;rw[<-y]at m;refine ba.mono (Ar (ts:=[33]) m G.size dc dc (K:=fun _=>True) fun _ _ _=>trivial) ?_;rintro v YY W ⟨H,s,rfl,rfl,_⟩;exact⟨H,_,rfl,rfl⟩
 |succ d ih=>
  intro i w R hi hw hb;have z:i<e.bS.length:=om;obtain⟨X,Y,Z,g,_⟩:=(h.r.below hw).at_ (row:=eD) (fun _=>rfl) lr z;refine F.bu.uZ.step ⟨fun _=>⟨X,Y,Z,_,g,?_⟩,fun q=>by omega⟩;refine aW kG [.string e.bS[i]] (by simp[Value.cells]) sm hw.size fun A55 c55 UP I P=> ?_
  have Uq:=kP hw P;refine pm (dH (l:=[e.bS[i]]) I.sl rfl sm fun s hs=>by rw[eb.1 hs];have:=he.sr _ (bx z);omega) ?_;rintro v w60 o rfl;have Q:=kP Uq o;have y:kD e=((EX e++(hX e.nums++(bJ (nB e.bS.length)++cJ (e.bS.take i))))++cJ [e.bS[i]])++(cJ (e.bS.drop (i+1))++(bJ (nB e.texts.length)++cJ e.texts)):=by
   have e2:cJ e.bS=cJ (e.bS.take i)++(cJ [e.bS[i]]++cJ (e.bS.drop (i+1))):=by
    rw[<-uu,<-uu,Ug,<-cy z,iv]
   rw[HY,e2];simp only[fi]
  have hl:=Eb he ok y;rw[dp]at hl;refine⟨_,rfl,qI ((hb.below P).below o) (st (cJ [e.bS[i]])) (by rw[<-dx,oQ];omega) Q.size dc dc fun J L x _=>⟨ir,?_⟩⟩;rw[show(i:Int)+1=((i+1:Nat):Int) by omega];refine ih (i+1) J om om (Q.trans L) ?_;rw[hP z,uu];rw[oQ]at x;simpa only[fi]using x
theorem XU(h:mZ w0 a e)(he:gQ e)(ok:qL e)(hB:w0.heap.size<=b){x0 x1 x2:Int}:
  ∀(d i:Nat)(w:World),a.n.n - i=d->i<=a.n.n->Below w0.heap.size w0 w->Bu w w0.heap.size b (EX e++hX (e.nums.take i))->
   F.bu.Mx ⟨b,0,none⟩ a.n.A a.n.n a.n.c a.n.n i x0 x1 x2 a.n.A a.n.n a.n.c a.r.A a.r.n a.r.c a.t.A a.t.n a.t.c w0.heap.size w fun v _=>ach e v:=by
 have ln:=h.ln;have lr:=h.lr;have mr:=he.mr;have mn:=he.mn;intro d;induction d with
 |zero=>
  intro i w E hi hw hb;rw[cc om]at hb;refine F.bu.Mx.step ⟨fun q=>by omega,fun _=>pm (cj w a.r.n om) ?_⟩;rintro v G j rfl;have C:=kP hw j;have m:kD e=((EX e++hX e.nums)++bJ (nB a.r.n))++(cJ e.bS++(bJ (nB e.texts.length)++cJ e.texts)):=by
   rw[HY,<-lr];simp only[fi]
  have hl:=Eb he ok m;rw[dp,dx]at hl;refine⟨_,rfl,qI (hb.below j) (nB a.r.n) om C.size dc dc fun o x y _=> ?_⟩;refine XS h he ok hB a.r.n 0 o rfl om (C.trans x) ?_;rw[FI,lr];simpa only[cJ,fi,vB]using y
 |succ d ih=>
  intro i w E hi hw hb;have l:i<e.nums.length:=om;obtain⟨H,I,J,g,_⟩:=(h.n.below hw).at_ (row:=fO) (fun _=>rfl) ln l;have hz:=ok.nums _ (bx l);refine F.bu.Mx.step ⟨fun _=>⟨H,I,J,_,g,pm (lj w e.nums[i] om) ?_⟩,fun q=>by omega⟩;rintro v M k rfl;have D:=kP hw k;have m:kD e=((EX e++hX (e.nums.take i))++bJ (nB (FO e.nums[i])))++(hX (e.nums.drop (i+1))++(bJ (nB e.bS.length)++(cJ e.bS++(bJ (nB e.texts.length)++cJ e.texts)))):=by
   rw[HY];have K:hX e.nums=hX (e.nums.take i)++(bJ (nB (FO e.nums[i]))++hX (e.nums.drop (i+1))):=by
    rw[<-Ax,<-pX,<-pX,Ug,<-cy l,iv]
   rw[K];simp only[fi]
  have hl:=Eb he ok m;rw[dp,dx]at hl;refine⟨_,rfl,qI (hb.below k) (nB (FO e.nums[i])) om D.size dc dc fun L z B _=>⟨ir,?_⟩⟩;rw[show(i:Int)+1=((i+1:Nat):Int) by omega];refine ih (i+1) L om om (D.trans z) ?_;rw[hP l,Nj];simpa only[fi]using B
theorem bu(hg:bj w)(h:mZ w a e)(he:gQ e)(ok:qL e):Pure Tryz.prog 27 #[a.val e] w fun v _=>ach e v:=by
 have ln:=h.ln;have lr:=h.lr;have lt:=h.lt;have mn:=he.mn;have mr:=he.mr;have mt:=he.mt;obtain⟨i1,i2⟩:=ok.id;obtain⟨t1,t2⟩:=ok.tick;obtain⟨k1,k2⟩:=ok.kind;have n1:e.bS.any (fun s=>decide (200<s.size))=false:=HX fun s hs=>eL (by have:=he.sr s hs;omega)
 have n2:e.texts.any (fun s=>decide (4096<s.size))=false:=HX fun s hs=>eL (by have:=he.st s hs;omega)
 have n3:e.nums.any (fun z=>decide (z< -1099511627776∨1099511627776<z))=false:=HX fun z hz=>eL (by have:=ok.nums z hz;omega)
 have n4:e.bS.any (fun s=> !vR s)=false:=HX fun s hs=>by rw[ok.bS s hs];rfl
 refine F.bu.vc ⟨fun q=>by omega,fun _=>⟨fun q=>by omega,fun _=>⟨fun q=>by omega,fun _ w4 G=> ?_⟩⟩⟩;have o:=k0 G;refine pm (DV (p:=fun s=>decide (200<s.size)) (h.r.below o) lr om kF fun w' g x hx=> ?_) ?_
 ·refine F.oh.vc (ca Value.bool ?_);rw[ky];omega
 rw[n1];rintro v w7 H rfl;have y:=kP o H;refine⟨_,rfl,fun q=>(by cases q),fun _=>pm (Nf (p:=fun s=>decide (4096<s.size)) (h.t.below y) lt om kF fun w' g x hx=> ?_) ?_⟩
 ·refine F.ot.vc (ca Value.bool ?_);rw[ky];omega
 rw[n2];rintro v kg I rfl;have A:=kP y I;refine⟨_,rfl,fun q=>(by cases q),fun _=>⟨fun q=>by omega,fun _=>⟨fun q=>by omega,fun _=>⟨fun q=>by omega,fun _=>⟨fun q=>by omega,fun _=>⟨fun q=>by omega,fun _=>⟨fun q=>by omega,fun _=> ?_⟩⟩⟩⟩⟩⟩⟩;refine pm (zY (p:=fun z=>decide (z< -1099511627776∨1099511627776<z)) (h.n.below A) ln om kF fun w' g x hx=> ?_) ?_
 ·refine F.ou.vc ⟨fun q=>ca Value.bool (hM (.inl q)).symm,fun q=>ca Value.bool ?_⟩;rw[ky];omega
 rw[n3];rintro v xQ J rfl;have i:=kP A J;refine⟨_,rfl,fun q=>(by cases q),fun _=>pm (DV (p:=fun s=> !vR s) (h.r.below i) lr om kF fun w' g x hx=> ?_) ?_⟩
 ·refine F.oA.vc (pm (dN (hg.next (i.trans (g.mono i.size))) x (by have:=he.sr x hx;omega)) ?_);rintro v w3 _ rfl;refine⟨_,rfl,ca Value.bool ?_⟩;show decide (kH (bJ x)=false)= !kH (bJ x);cases kH (bJ x)<;>rfl
 rw[n4];rintro v xi K rfl;have j:=kP i K;refine⟨_,rfl,fun q=>(by cases q),fun _=> ?_⟩;refine cK (z:= .agg #[.pointer none,.slice none 0 0]) _ kF j.size fun BG L M N O c=> ?_
 have hB:=j.size;have k:=MW L hB;have P:=extAll c;have Q:=k.below P;have R:=kE (j.trans (M.mono hB)) c;refine(show e.id=((e.id.toNat:Nat):Int) by omega)▸pm (cj O e.id.toNat om) ?_;rintro v S B rfl;have T:=kP R B;refine⟨_,rfl,(show e.tick=((e.tick.toNat:Nat):Int) by omega)▸pm (cj S e.tick.toNat om) ?_⟩;rintro v U d rfl;have V:=kP T d;have s1:=iO e.id.toNat om;have s2:=iO e.tick.toNat om;have s3:=iO e.kind.toNat om;have s4:=iO a.n.n om;refine⟨_,rfl,om,(show e.kind=((e.kind.toNat:Nat):Int) by omega)▸pm (cj U e.kind.toNat om) ?_⟩;rintro v W C rfl;have X:=kP V C;refine⟨_,rfl,by rw[eU];omega,pm (cj W a.n.n om) ?_⟩;rintro v UK D rfl;have E:=kP X D;have Y:=(((Q.below B).below d).below C).below D;refine⟨_,rfl,by rw[eU,eU];omega,qI Y _ (by simp only[eU,za];omega) E.size dc dc fun Z l m _=> ?_⟩;refine XU h he ok hB a.n.n 0 Z rfl om (E.trans l) ?_;have e1:EX e++hX (e.nums.take 0)=[]++bJ (((nB e.id.toNat++nB e.tick.toNat)++nB e.kind.toNat)++nB a.n.n):=by
  unfold EX;rw[FI,<-ln];simp[hX,DZ]
 rw[e1];exact m
end

theorem KA(n:Nat)(h:n<9223372036854775808):bits .and .i64 (n:Int) 1=((n % 2:Nat):Int):=by
 have h1:(BitVec.ofInt 64 (n:Int)).toNat=n:=by
  rw[Vi,Xk];exact KO om
 show IntKind.i64.wrap ((BitVec.ofInt 64 (n:Int)&&&BitVec.ofInt 64 1).toNat:Int)=_;rw[BitVec.toNat_and,h1,show(BitVec.ofInt 64 1).toNat=1 from rfl,Nat.and_one_is_mod,IntKind.wrap_i64];omega
theorem XV{z:Int}(hz: -1099511627776<=z/\z<=1099511627776)(h:FO z % 2=1):IntKind.wrap .i64 (Int.tdiv (-(FO z:Int) - 1) 2)=z:=by
 have e: -(FO z:Int) - 1=2*z:=by
  unfold FO at h⊢;split at h
  ·rename_i k;rw[bm k];omega
  ·omega
 rw[e,Int.mul_tdiv_cancel_left _ dc,IntKind.wrap_i64];omega
theorem XW{z:Int}(hz: -1099511627776<=z/\z<=1099511627776)(h:¬FO z % 2=1):IntKind.wrap .i64 (Int.tdiv (FO z:Int) 2)=z:=by
 have e:(FO z:Int)=2*z:=by
  unfold FO at h⊢;split at h
  ·omega
  ·rename_i k;rw[aq k];omega
 rw[e,Int.mul_tdiv_cancel_left _ dc,IntKind.wrap_i64];omega
theorem qN{w w':World}{b:Nat}{s:ByteArray}{bad:Bool}(h:Rd w b s bad)(ho:∀k,k≠b->k<w.heap.size->w'.heap[k]? =w.heap[k]?){ts:List Nat}(h1:98∉ts):qk ts w w':=by
 intro q ty cs d c;rw[ho q (fun e=>by
  subst e;rw[h]at c;cases c;exact h1 d) (ax.1 c).1,c]
theorem HZ{w w':World}{b:Nat}{s:ByteArray}{bad:Bool}(h:Rd w b s bad)(ho:∀k,k≠b->k<w.heap.size->w'.heap[k]? =w.heap[k]?):bA 98 w w':=by
 intro q ty cs fr d c;rw[ho q (fun e=>by
  subst e;rw[h]at c;cases c;exact d rfl) (ax.1 c).1,c]
structure Bz (w:World) (B b:Nat) (a:Ea) (N:List Int) (R T:List ByteArray) (z:Tx):Prop where
 n:ay w B 3 a.n.A a.n.n a.n.c 1 (N.map fO)
 r:ay w B 75 a.r.A a.r.n a.r.c 1 (R.map eD)
 t:ay w B 9 a.t.A a.t.n a.t.c 1 (T.map eD)
 s:∃s,Rd w b s false/\bJ s=z
section
variable {w0 w w':World} {B b:Nat} {a:Ea} {N:List Int} {R T:List ByteArray} {t t':Tx} {e:Ev}
theorem Bz.bH{q:Nat}(h:Bz w B b a N R T t)(s:bA q w w')(h1:3≠q)(c:75≠q)(d:9≠q)(g:98≠q):Bz w' B b a N R T t:=
 ⟨h.n.bH s h1,h.r.bH s c,h.t.bH s d,by obtain⟨x,hx,e⟩:=h.s;exact⟨x,s _ _ _ _ g hx,e⟩⟩
theorem Bz.ext(h:Bz w B b a N R T t)(x:Ext B [33] w w'):Bz w' B b a N R T t:=h.bH (bA.ext x) dc dc dc dc
theorem Bz.agD(h:Bz w B b a N R T t)(x:Ext B [] w w'):Bz w' B b a N R T t:=h.bH (q:=33) (bA.low (extAll x)) dc dc dc dc
theorem Bz.read{s c:ByteArray}(h:Bz w B b a N R T t)(g:Rd w b s false)(ho:∀k,k≠b->k<w.heap.size->w'.heap[k]? =w.heap[k]?)(d:Rd w' b c false)(e:bJ c=t'):Bz w' B b a N R T t':=by
 have st:=HZ g ho;exact⟨h.n.bH st dc,h.r.bH st dc,h.t.bH st dc,c,d,e⟩
theorem Bz.low(h:Bz w B b a N R T t)(k:Below w.heap.size w w'):Bz w' B b a N R T t:=h.bH (q:=33) (bA.low k) dc dc dc dc
abbrev DcR(e:Ev)(B:Nat)(v:Value)(w':World):Prop:=∃c,v= .tuple #[c.val e,.int .i64 0]/\nC w' B c e
theorem Ec(s:ByteArray)(r:List ByteArray):cJ (s::r)=bJ (nB s.size)++(bJ s++cJ r):=by rw[cJ,DZ,fi]
theorem XX(hg:bj w0)(he:gQ e)(ok:qL e)(hB:w0.heap.size<=b){x0 x1 x2:Int}{sl:ByteArray}(O:sl=st (kD e)):
  ∀(d i:Nat)(w:World)(a:Ea),e.texts.length - i=d->i<=e.texts.length->Below w0.heap.size w0 w->Bz w w0.heap.size b a e.nums e.bS (e.texts.take i) (cJ (e.texts.drop i))->
   F.aL.UY sl ⟨b,0,none⟩ e.texts.length i x0 x1 x2 none 0 0 none 0 0 none 0 0 e.id e.tick e.kind a.n.A a.n.n a.n.c a.r.A a.r.n a.r.c a.t.A a.t.n a.t.c w0.heap.size w (DcR e w0.heap.size):=by
 have mt:=he.mt;intro d;induction d with
 |zero=>
  intro i w a P hi hw h;have Q:i=e.texts.length:=om;subst Q;rw[KT,UN]at h;have G:nC w w0.heap.size a e:=⟨h.n,h.r,h.t⟩;have S:mZ w a e:=((G.raw he (by have:=ok.kind;simp only[aN];omega)).ok he.uO).2;refine F.aL.UY.step ⟨fun q=>by omega,fun _=>pm (bu (hg.next hw) S he ok) ?_⟩;rintro v U H rfl;have o:=h.low H;obtain⟨s,j,hs⟩:=o.s;have I:s=⟨#[]⟩:=xM hs;refine⟨_,_,rfl,_,bD j 1 1,fun q=>(by cases q),fun _=>⟨_,bD j 0 1,fun q=>absurd I q,fun _=>⟨fun q=>absurd rfl q,fun _=>⟨fun q=>absurd O.symm q,fun _ V J=> ?_⟩⟩⟩⟩;have k:=o.ext J;exact⟨a,rfl,k.n,k.r,k.t⟩
 |succ d ih=>
  intro i w a P hi hw h;have K:i<e.texts.length:=om;have lz:=he.st _ (bx K);have L:∀w1,Below w0.heap.size w0 w1->Bz w1 w0.heap.size b a e.nums e.bS (e.texts.take i) (cJ (e.texts.drop (i+1)))->
    ae Tryz.prog (Instr.buildSlice 31 1 #[(0,.string e.texts[i])]) w0.heap.size [33,33] w1 fun r g=>∃A2 m c2,r= .slice A2 m c2/\
     ae Tryz.prog (Builtin.append_ #[31,31] 31 #[.slice a.t.A a.t.n a.t.c,.slice A2 m c2]) w0.heap.size [33,33] g fun r g=>∃A n c,r= .slice A n c/\
      (aN .i64 ((i:Int)+1)/\∀C,Ext w0.heap.size [33] g C->F.aL.UY sl ⟨b,0,none⟩ e.texts.length ((i:Int)+1) x0 x1 x2 none 0 0 none 0 0 none 0 0 e.id e.tick e.kind a.n.A a.n.n a.n.c a.r.A a.r.n a.r.c A n c w0.heap.size C (DcR e w0.heap.size)):=by
   intro w1 y h1;have l1:=h1.t.rows;rw[ep,jv om]at l1;refine ix kG lf h1.t (x:= .string e.texts[i]) rfl (by simp[Value.cells,bk]) y.size om dc fun A2 c2 g D g2 z=>⟨ir,fun C M=> ?_⟩
   have s2:=bA.grown h1.t g2;obtain⟨s,j,hs⟩:=h1.s;have l:Bz g w0.heap.size b ⟨a.n,a.r,⟨A2,a.t.n+1,c2⟩⟩ e.nums e.bS (e.texts.take (i+1)) (cJ (e.texts.drop (i+1))):=⟨h1.n.bH s2 dc,h1.r.bH s2 dc,by
    rw[hP K,eh];exact D,s,s2 _ _ _ _ dc j,hs⟩
   rw[show(i:Int)+1=((i+1:Nat):Int) by omega];exact ih (i+1) C _ om om (kE (y.trans z) M) (l.ext M)
  have rd:∀w1,Ext w0.heap.size [] w w1->ba Tryz.prog 31 #[.pointer (some ⟨b,0,none⟩)] w0.heap.size w1 fun v g=>qk [33,33] w1 g/\v= .string e.texts[i]/\Below w0.heap.size w0 g/\Bz g w0.heap.size b a e.nums e.bS (e.texts.take i) (cJ (e.texts.drop (i+1))):=by
   intro w1 x1;have y:=kE hw x1;have h1:=h.agD x1;obtain⟨s,j,hs⟩:=h1.s;rw[cy K,Ec]at hs;refine ba.mono (um hB y.size om j hs) ?_;rintro v g z ⟨rfl,s2,W,X,D⟩;exact⟨qN j D dc,rfl,y.trans z,h1.read j D W X⟩
  refine F.aL.UY.step ⟨fun _=>⟨fun w1 x1=>ba.mono (rd w1 x1) ?_,fun w1 x1=>ba.mono (rd w1 x1) ?_⟩,fun q=>by omega⟩
  ·rintro v g z ⟨s2,rfl,E,l⟩;exact⟨s2,_,rfl,L g E l⟩
  ·rintro v g z ⟨s2,rfl,E,l⟩;exact⟨s2,_,rfl,L g E l,L g E l⟩
theorem XY(hg:bj w0)(he:gQ e)(ok:qL e)(hB:w0.heap.size<=b){x0 x1 x2:Int}{sl:ByteArray}(L:sl=st (kD e)):
  ∀(d i:Nat)(w:World)(a:Ea),e.bS.length - i=d->i<=e.bS.length->Below w0.heap.size w0 w->Bz w w0.heap.size b a e.nums (e.bS.take i) [] (cJ (e.bS.drop i)++(bJ (nB e.texts.length)++cJ e.texts))->a.t=⟨none,0,0⟩->
   F.aL.Bf sl ⟨b,0,none⟩ e.bS.length i x0 x1 x2 none 0 0 none 0 0 none 0 0 e.id e.tick e.kind a.n.A a.n.n a.n.c a.r.A a.r.n a.r.c none 0 0 w0.heap.size w (DcR e w0.heap.size):=by
 have mr:=he.mr;have mt:=he.mt;intro d;induction d with
 |zero=>
  intro i w a M hi hw h ha;have O:i=e.bS.length:=om;subst O;rw[KT,UN]at h;obtain⟨s,j,hs⟩:=h.s;refine F.aL.Bf.step ⟨fun q=>by omega,fun _=>ba.mono (uk hB hw.size (n:=e.texts.length) om om j hs) ?_⟩;rintro v D E ⟨rfl,s2,G,H,k⟩;refine⟨qN j k dc,_,rfl,?_⟩;have:=XX hg he ok hB L (x0:=x0) (x1:=x1) (x2:=x2) e.texts.length 0 D a rfl om (hw.trans E) (by
   have:=h.read j k G H;rwa [FI,AY])
  rw[ha]at this;exact this
 |succ d ih=>
  intro i w a M hi hw h ha;have I:i<e.bS.length:=om;have lz:=he.sr _ (bx I);have J:∀w1,Below w0.heap.size w0 w1->Bz w1 w0.heap.size b a e.nums (e.bS.take i) [] (cJ (e.bS.drop (i+1))++(bJ (nB e.texts.length)++cJ e.texts))->
    ae Tryz.prog (Instr.buildSlice 30 1 #[(0,.string e.bS[i])]) w0.heap.size [33,33] w1 fun r g=>∃A2 m c2,r= .slice A2 m c2/\
     ae Tryz.prog (Builtin.append_ #[30,30] 30 #[.slice a.r.A a.r.n a.r.c,.slice A2 m c2]) w0.heap.size [33,33] g fun r g=>∃A n c,r= .slice A n c/\
      (aN .i64 ((i:Int)+1)/\∀z,Ext w0.heap.size [33] g z->F.aL.Bf sl ⟨b,0,none⟩ e.bS.length ((i:Int)+1) x0 x1 x2 none 0 0 none 0 0 none 0 0 e.id e.tick e.kind a.n.A a.n.n a.n.c A n c none 0 0 w0.heap.size z (DcR e w0.heap.size)):=by
   intro w1 o h1;have l1:=h1.r.rows;rw[ep,jv om]at l1;refine ix lD lf h1.r (x:= .string e.bS[i]) rfl (by simp[Value.cells,bk]) o.size om dc fun A2 c2 g k g2 y=>⟨ir,fun z K=> ?_⟩
   have s2:=bA.grown h1.r g2;obtain⟨s,j,hs⟩:=h1.s;have l:Bz g w0.heap.size b ⟨a.n,⟨A2,a.r.n+1,c2⟩,a.t⟩ e.nums (e.bS.take (i+1)) [] (cJ (e.bS.drop (i+1))++(bJ (nB e.texts.length)++cJ e.texts)):=⟨h1.n.bH s2 dc,by
    rw[hP I,eh];exact k,h1.t.bH s2 dc,s,s2 _ _ _ _ dc j,hs⟩
   rw[show(i:Int)+1=((i+1:Nat):Int) by omega];exact ih (i+1) z _ om om (kE (o.trans y) K) (l.ext K) ha
  have rd:∀w1,Ext w0.heap.size [] w w1->ba Tryz.prog 31 #[.pointer (some ⟨b,0,none⟩)] w0.heap.size w1 fun v g=>qk [33,33] w1 g/\v= .string e.bS[i]/\Below w0.heap.size w0 g/\Bz g w0.heap.size b a e.nums (e.bS.take i) [] (cJ (e.bS.drop (i+1))++(bJ (nB e.texts.length)++cJ e.texts)):=by
   intro w1 x1;have o:=kE hw x1;have h1:=h.agD x1;obtain⟨s,j,hs⟩:=h1.s;rw[cy I,Ec,fi,fi]at hs;refine ba.mono (um hB o.size om j hs) ?_;rintro v g y ⟨rfl,s2,G,H,k⟩;exact⟨qN j k dc,rfl,o.trans y,h1.read j k G H⟩
  refine F.aL.Bf.step ⟨fun _=>⟨fun w1 x1=>ba.mono (rd w1 x1) ?_,fun w1 x1=>ba.mono (rd w1 x1) ?_⟩,fun q=>by omega⟩
  ·rintro v g y ⟨s2,rfl,C,l⟩;exact⟨s2,_,rfl,J g C l⟩
  ·rintro v g y ⟨s2,rfl,C,l⟩;exact⟨s2,_,rfl,J g C l,J g C l⟩
theorem ack(hg:bj w0)(he:gQ e)(ok:qL e)(hB:w0.heap.size<=b){x0 x1 x2:Int}{sl:ByteArray}(M:sl=st (kD e)):
  ∀(d i:Nat)(w:World)(a:Ea),e.nums.length - i=d->i<=e.nums.length->Below w0.heap.size w0 w->Bz w w0.heap.size b a (e.nums.take i) [] [] (hX (e.nums.drop i)++(bJ (nB e.bS.length)++(cJ e.bS++(bJ (nB e.texts.length)++cJ e.texts))))->a.r=⟨none,0,0⟩->a.t=⟨none,0,0⟩->
   F.aL.L4 sl ⟨b,0,none⟩ e.nums.length i x0 x1 x2 none 0 0 none 0 0 none 0 0 e.id e.tick e.kind a.n.A a.n.n a.n.c none 0 0 none 0 0 w0.heap.size w (DcR e w0.heap.size):=by
 have mn:=he.mn;have mr:=he.mr;intro d;induction d with
 |zero=>
  intro i w a O hi hw h y ha;have P:i=e.nums.length:=om;subst P;rw[KT,UN]at h;obtain⟨s,g,hs⟩:=h.s;refine F.aL.L4.step ⟨fun q=>by omega,fun _=>ba.mono (uk hB hw.size (n:=e.bS.length) om om g hs) ?_⟩;rintro v z Q ⟨rfl,s2,C,D,j⟩;refine⟨qN g j dc,_,rfl,?_⟩;have:=XY hg he ok hB M (x0:=x0) (x1:=x1) (x2:=x2) e.bS.length 0 z a rfl om (hw.trans Q) (by
   have:=h.read g j C D;rwa [FI,AY]) ha
  rw[y]at this;exact this
 |succ d ih=>
  intro i w a O hi hw h y ha;have E:i<e.nums.length:=om;have hz:=ok.nums _ (bx E);have k:=Ub hz;have G:∀w1,Below w0.heap.size w0 w1->Bz w1 w0.heap.size b a (e.nums.take i) [] [] (hX (e.nums.drop (i+1))++(bJ (nB e.bS.length)++(cJ e.bS++(bJ (nB e.texts.length)++cJ e.texts))))->
    ae Tryz.prog (Instr.buildSlice 29 1 #[(0,.int .i64 e.nums[i])]) w0.heap.size [33,33] w1 fun r l=>∃A2 m c2,r= .slice A2 m c2/\
     ae Tryz.prog (Builtin.append_ #[29,29] 29 #[.slice a.n.A a.n.n a.n.c,.slice A2 m c2]) w0.heap.size [33,33] l fun r l=>∃A n c,r= .slice A n c/\
      (aN .i64 ((i:Int)+1)/\∀o,Ext w0.heap.size [33] l o->F.aL.L4 sl ⟨b,0,none⟩ e.nums.length ((i:Int)+1) x0 x1 x2 none 0 0 none 0 0 none 0 0 e.id e.tick e.kind A n c none 0 0 none 0 0 w0.heap.size o (DcR e w0.heap.size)):=by
   intro w1 H h1;have l1:=h1.n.rows;rw[ep,jv om]at l1;refine ix gM lf h1.n (x:= .int .i64 e.nums[i]) rfl (by simp[Value.cells,bk]) H.size om dc fun A2 c2 l j g2 S=>⟨ir,fun o I=> ?_⟩
   have s2:=bA.grown h1.n g2;obtain⟨s,g,hs⟩:=h1.s;have U:Bz l w0.heap.size b ⟨⟨A2,a.n.n+1,c2⟩,a.r,a.t⟩ (e.nums.take (i+1)) [] [] (hX (e.nums.drop (i+1))++(bJ (nB e.bS.length)++(cJ e.bS++(bJ (nB e.texts.length)++cJ e.texts)))):=⟨by
    rw[hP E,eh];exact j,h1.r.bH s2 dc,h1.t.bH s2 dc,s,s2 _ _ _ _ dc g,hs⟩
   rw[show(i:Int)+1=((i+1:Nat):Int) by omega];exact ih (i+1) o _ om om (kE (H.trans S) I) (U.ext I) y ha
  obtain⟨s,g,hs⟩:=h.s;rw[cy E,<-Ug,pX,Ax,fi]at hs;refine F.aL.L4.step ⟨fun _=>ba.mono (kC hB hw.size k g hs) ?_,fun q=>by omega⟩;rintro v J V ⟨rfl,s2,C,D,j⟩;have K:=h.read g j C D;have L:=hw.trans V;rw[show(2:Nat)^56=72057594037927936 from rfl]at k;refine⟨qN g j dc,_,rfl,?_,?_⟩
  ·rw[KA _ om];intro q;refine⟨ir,ir,dc,?_⟩;rw[XV hz om];exact G J L K
  ·rw[KA _ om];intro q;refine⟨dc,?_⟩;rw[XW hz om];exact G J L K
theorem aL(hg:bj w)(he:gQ e)(ok:qL e):Pure Tryz.prog 32 #[.string (st (kD e))] w (DcR e w.heap.size):=by
 have mn:=he.mn;obtain⟨i1,i2⟩:=ok.id;obtain⟨t1,t2⟩:=ok.tick;obtain⟨P,Q⟩:=ok.kind;refine F.aL.vc fun w1 x1 b hb h1=> ?_
 have m:=k0 x1;have o:Rd w1 b (st (kD e)) false:=h1;refine ba.mono (kC hb m.size (n:=e.id.toNat) om o rfl) ?_;rintro v S A ⟨rfl,U,q,C,D⟩;have r:=m.trans A;refine⟨qN o D dc,_,rfl,ba.mono (kC hb r.size (n:=e.tick.toNat) om q C) ?_⟩;rintro v V b8 ⟨rfl,W,x,E,G⟩;have y:=r.trans b8;refine⟨qN q G dc,_,rfl,ba.mono (kC hb y.size (n:=e.kind.toNat) om x E) ?_⟩;rintro v X H ⟨rfl,I,g,h,i⟩;have J:=y.trans H;refine⟨qN x i dc,_,rfl,fun K c=> ?_⟩;have z:=kE J c;have d:Rd K b I false:=ext_nil c g;refine ba.mono (uk hb z.size (n:=e.nums.length) om om d h) ?_;rintro v L M ⟨rfl,j,k,l,O⟩;refine⟨qN d O dc,_,rfl,?_⟩;have:=ack hg he ok hb rfl (x0:=0) (x1:=0) (x2:=0) e.nums.length 0 L ⟨⟨none,0,0⟩,⟨none,0,0⟩,⟨none,0,0⟩⟩ rfl om (z.trans M) ⟨ay.nil,ay.nil,ay.nil,j,k,by rw[l,AY]⟩ rfl rfl;rw[QJ om,QJ t1,QJ om];exact this
end

structure Ia (w:World) (A:Option Addr) (n c:Nat) (l:List En):Prop where
 s:bW w A 7 (l.map En.row)
 len:l.length=n
 cap:n<=c
 uO:n<=1000
 f:∀x∈l,tn w x.m
structure pY (w:World) (B:Nat) (A:Option Addr) (n c:Nat) (l:List En):Prop where
 s:ay w B 82 A n c 7 (l.map En.row)
 f:∀x∈l,nC w B x.m.a x.m.e
theorem Ed:El Tryz.prog 28 82 7 112:=El.of kF
theorem XZ{l:List En}{n:Nat}(hl:l.length=n)(hn:0<n):Of l=(l[n - 1]'om).d:=by
 subst hl;unfold Of;rw[vu,af om]
theorem last_pos{l:List En}{n:Nat}(hl:l.length=n)(hn:0<n):l.getLast? =some (l[n - 1]'om):=by
 subst hl;rw[vu,af om]
section
variable {H:mw} {w w0 w':World} {A:Option Addr} {n c B:Nat} {l:List En} {a:Ea} {e:Ev} {s:ByteArray}
theorem Ia.ar(h:Ia w A n c l)(hb:Below w.heap.size w w'):Ia w' A n c l:=⟨h.s.below hb,h.len,h.cap,h.uO,fun x hx=>(h.f x hx).ar hb⟩
theorem pY.below(h:pY w B A n c l)(hb:Below w.heap.size w w'):pY w' B A n c l:=⟨h.s.below hb,fun x hx=>(h.f x hx).below hb⟩
theorem pY.ze(h:pY w B A n c l)(hs:fZ H l)(hn:n<=1000):Ia w A n c l:=⟨h.s.sl,h.s.rows,h.s.jZ,hn,fun x hx=>by
 obtain⟨i,hi,rfl⟩:=BA.1 hx;have b:=(hs i hi).fit;exact(h.f _ hx).raw b.uO (by have:=b.enc.kind;simp only[aN];omega)⟩
theorem kt(fk:fj H)(h:bW w A 7 (l.map En.row))(hl:l.length=n)(hn:n<1000000)(j:(Of l).size<=1000)(hs:s.size<=1000000):
  Pure Tryz.prog 26 #[.slice A n c,.string s] w fun v _=>v= .string (H.sum (Of l++s)):=by
 refine F.kt.vc ?_;refine qm oX (z:= .int .u8 0) kF rfl dc dc lf fun A1 n1 d k b J m=> ?_
 have k:n1=32:=om;subst k;have o:ay d w.heap.size 5 A1 32 32 1 ((List.replicate 32 (0:Int)).map b8):=⟨b,rfl,fun r y=>by
  obtain⟨x,_,rfl⟩:=iu.1 y;rfl⟩
 refine wM o dc ⟨fun q=> ?_,fun q=> ?_⟩
 ·refine⟨ir,?_⟩;rw[show(n:Int) - 1=((n - 1:Nat):Int) by omega];obtain⟨C,D,E,g,G⟩:=(h.below m).at_ (row:=En.row) (fun _=>rfl) hl (i:=n - 1) om;have e:=XZ hl om;rw[e]at j⊢;refine⟨C,D,E,_,G 6 _ rfl,om,pm (fk.sum d _ (by rw[eU];omega)) ?_⟩;rintro v I _ rfl;exact⟨_,rfl,rfl⟩
 ·have e:Of l=z32:=by
   have:l=[]:=Dv.1 om;subst this;rfl
  rw[e]at j⊢;have hz:(strOfNums (List.replicate 32 0)).size=32:=Kn;refine⟨om,pm (fk.sum d _ (by rw[eU];omega)) ?_⟩;rintro v I _ rfl;exact⟨_,rfl,rfl⟩
theorem ks(hg:bj w)(h:bW w A 7 (l.map En.row))(hl:l.length=n)(hn:n<1000000)(b:mZ w a e)(j:HT l e):
  Pure Tryz.prog 24 #[.slice A n c,a.val e] w fun v _=>v= .tuple #[.string (st (kD e)),.int .i64 0]:=by
 refine F.ks.vc fun w1 x1=> ?_
 have k:=k0 x1;have g:=extAll x1;refine pm (bu (hg.next k) ⟨b.n.below g,b.r.below g,b.t.below g,b.ln,b.lr,b.lt,b.mn,b.mr,b.mt,b.sr,b.st,b.zr,b.ik⟩ j.uO j.enc) ?_;rintro v z m rfl;refine⟨_,_,rfl,fun q=>absurd rfl q,fun _=>⟨fun q=> ?_,fun q=>rfl⟩⟩;refine⟨ir,?_⟩;rw[show(n:Int) - 1=((n - 1:Nat):Int) by omega];obtain⟨o,x,y,d,C⟩:=((h.below g).below m).at_ (row:=En.row) (fun _=>rfl) hl (i:=n - 1) om;have ho:=j.ord _ (last_pos hl om);exact⟨o,x,y,_,_,_,_,_,_,_,_,_,_,_,_,tX d 0 6,fun q=>by omega,fun _=>⟨fun q=>by omega,fun _ D _=>rfl⟩⟩
theorem fZ.dsz(fk:fj H)(h:fZ H l):∀x∈l,x.d.size=32:=fun x hx=>by
 obtain⟨i,hi,rfl⟩:=BA.1 hx;rw[(h i hi).tJ];exact fk.len _
theorem cV(fk:fj H)(hg:bj w)(h:Ia w A n c l)(hs:fZ H l):Pure Tryz.prog 23 #[.slice A n c] w fun v _=>v= .tuple #[.int .i64 (-1),.int .i64 0]:=by
 have hl:=h.len;have hm:=h.uO;have M:=h.cap;have key:∀(d i:Nat)(w':World),n - i=d->i<=n->Below w.heap.size w w'->F.cV.L4 A n c A n c n i w.heap.size w' fun v _=>v= .tuple #[.int .i64 (-1),.int .i64 0]:=by
  intro d;induction d with
  |zero=>
   intro i w' r hi hw;exact F.cV.L4.step ⟨fun q=>by omega,fun _=>rfl⟩
  |succ d ih=>
   intro i w' r hi hw;have m:i<l.length:=om;obtain⟨x,y,z,b,N⟩:=(h.s.below hw).at_ (row:=En.row) (fun _=>rfl) hl m;have g:=hs i m;refine F.cV.L4.step ⟨fun _=>⟨x,y,z,_,_,_,_,_,_,_,_,_,_,_,_,_,b,⟨om,om⟩,fun O C=> ?_⟩,fun q=>by omega⟩;have k:=kE hw C;have raw:=((h.f _ (bx m)).ar k).ok g.fit.uO.uO;have j:(l.take i).length=i:=by rw[ep];omega
   refine pm (ks (hg.next k) ((h.s.below k).pre i) j om raw.2 g.fit) ?_;rintro v P D rfl;have E:=kP k D;refine⟨_,_,rfl,fun _=>⟨⟨om,om⟩,fun Q G=> ?_⟩,fun q=>absurd rfl q⟩;have o:=kE E G;have I:(Of (l.take i)).size=32:=DU fk (hs.take i);have J:=qM g.fit.uO g.fit.enc;refine pm (kt fk ((h.s.below o).pre i) j om om (by rw[<-dx,oQ];omega)) ?_;rintro v K L rfl;refine⟨_,rfl,fun q=>absurd g.tJ q,fun _=>⟨fun q=>absurd rfl q,fun _=>⟨ir,?_⟩⟩⟩;rw[show(i:Int)+1=((i+1:Nat):Int) by omega];exact ih (i+1) K om om (kP o L)
 exact F.cV.vc ⟨fun q=>by omega,fun _=>key n 0 w rfl om (Below.refl _ _)⟩
theorem Ya{l:List ByteArray}(h:bW w A 1 (l.map eD))(hlen:l.length=n)(hn:n<=1000000):
  Pure Tryz.prog 52 #[.slice A n c] w fun v w'=>∃A' c',v= .slice A' n c'/\ay w' w.heap.size 75 A' n c' 1 (l.map eD):=
 F.eI.vc (fW (R:=fun v w'=>∃A' c',v= .slice A' n c'/\ay w' w.heap.size 75 A' n c' 1 (l.map eD)) lD h (by simpa using hlen) (wQ l).1 (wQ l).2 om fun A' c' w' o=>⟨A',c',rfl,o⟩)
theorem Yb{l:List ByteArray}(h:bW w A 1 (l.map eD))(hlen:l.length=n)(hn:n<=1000000):
  Pure Tryz.prog 53 #[.slice A n c] w fun v w'=>∃A' c',v= .slice A' n c'/\ay w' w.heap.size 9 A' n c' 1 (l.map eD):=
 F.gJ.vc (fW (R:=fun v w'=>∃A' c',v= .slice A' n c'/\ay w' w.heap.size 9 A' n c' 1 (l.map eD)) kG h (by simpa using hlen) (wQ l).1 (wQ l).2 om fun A' c' w' o=>⟨A',c',rfl,o⟩)
theorem jj(h:mZ w a e):Pure Tryz.prog 25 #[a.val e] w fun v w'=>∃j,v=j.val e/\nC w' w.heap.size j e:=by
 have ln:=h.ln;have lr:=h.lr;have lt:=h.lt;have mn:=h.mn;have mr:=h.mr;have mt:=h.mt;refine F.jj.vc fun w1 x1=> ?_
 have b:=extAll x1;have k:=k0 x1;refine pm (SU (h.n.below b) ln om) ?_;rintro v G d ⟨A2,c2,rfl,q⟩;have m:=kP k d;refine⟨_,_,_,rfl,pm (Ya (h.r.below (kP b d)) lr om) ?_⟩;rintro v I g ⟨A5,c5,rfl,x⟩;have y:=kP m g;refine⟨_,_,_,rfl,pm (Yb (h.t.below (kP (kP b d) g)) lt om) ?_⟩;rintro v J o ⟨z,C,rfl,D⟩;refine⟨_,_,_,rfl,fun K E=>⟨⟨⟨A2,a.n.n,c2⟩,⟨A5,a.r.n,c5⟩,⟨z,a.t.n,C⟩⟩,rfl,?_⟩⟩;have i:=bA.ext E;exact⟨(((q.below g).below o).base k.size).bH i dc,((x.below o).base m.size).bH i dc,(D.base y.size).bH i dc⟩
end
end Go.Proofs.YtmdphpnaipbfjaaGreatDoor.B
