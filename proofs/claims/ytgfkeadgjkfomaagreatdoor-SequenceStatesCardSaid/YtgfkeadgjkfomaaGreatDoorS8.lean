/- Part 8 of the proofs that: SequenceStates, SequenceOrders and SequenceChecks hold for every input: the program's functions return what the reference functions return -/
import Derived.Test.YtgfkeadgjkfomaaGreatDoorS7
set_option linter.unusedVariables false
set_option linter.unusedSimpArgs false
namespace Go.Proofs.YtgfkeadgjkfomaaGreatDoor.B
open Go Go.RowKit Go.Proofs Go.Proofs.YtgfkeadgjkfomaaGreatDoor.Vc

def Qa(p:Pa):Bool:=decide (p.eF.size<=40/\p.nJ.size<=40/\p.dP.size<=40/\p.name.size<=70)
def Qb(h:Ho):Bool:=decide (h.room.size<=40/\h.il.size<=40/\h.x.size<=40/\h.y.size<=40/\h.z.size<=40/\h.name.size<=70)
def BU(ps:List Pa)(hs:List Ho):Bool:=ps.all Qa&&hs.all Qb&&decide (ps.length<=7/\hs.length<=7)
structure wJ (w:World) (A0:Option Addr) (n0:Nat) (A1:Option Addr) (n1:Nat) (ps:List Pa) (hs:List Ho):Prop where
 p:cK w A0 7 (ps.map Pa.row)
 h:cK w A1 7 (hs.map Ho.row)
 lp:ps.length=n0
 lh:hs.length=n1
 np:n0<9223372036854775808
 nh:n1<9223372036854775808
theorem wJ.aj{w w':World}{A0 A1:Option Addr}{n0 n1:Nat}{ps:List Pa}{hs:List Ho}(h:wJ w A0 n0 A1 n1 ps hs)(hb:Below w.heap.size w w'):wJ w' A0 n0 A1 n1 ps hs:=
 ⟨h.p.aj hb lf,h.h.aj hb lf,h.lp,h.lh,h.np,h.nh⟩
theorem wJ.few{w:World}{A0 A1:Option Addr}{n0 n1:Nat}{ps:List Pa}{hs:List Ho}(h:wJ w A0 n0 A1 n1 ps hs)(hf:BU ps hs=true):dF w A0 n0 A1 n1 ps hs:=by
 unfold BU at hf;rw[eb,eb]at hf;obtain⟨⟨h1,h2⟩,h3⟩:=hf;have h3:=hG h3;refine⟨h.p,h.h,h.lp,h.lh,fun p hp=> ?_,fun x hx=> ?_,by have:=h.lp;omega,by have:=h.lh;omega⟩
 ·have:=hG (gu.1 h1 p hp);exact⟨by unfold rW;omega,by unfold rW;omega,by unfold rW;omega,om⟩
 ·have:=hG (gu.1 h2 x hx);exact⟨by unfold rW;omega,by unfold rW;omega,by unfold rW;omega,by unfold rW;omega,by unfold rW;omega,om⟩
theorem all_false{α:Type}{p:α->Bool}{l:List α}{x:α}(hx:x∈l)(h:p x=false):l.all p=false:=by
 rw[Bool.eq_false_iff];intro k;rw[gu.1 k x hx]at h;cases h
theorem wK{α:Type}{p:α->Prop}{l:List α}{i:Nat}(hi:i<l.length)(h:∀x∈l.take i,p x)(hx:p l[i]):∀x∈l.take (i+1),p x:=by
 intro x hm;rw[eN,af hi]at hm;rcases h8.1 hm with a|a
 ·exact h x a
 ·simp only[rT,gb]at a;subst a;exact hx
theorem S9{w0:World}{A0 A1:Option Addr}{n0 c0 n1 c1:Nat}{ps:List Pa}{hs:List Ho}(g:wJ w0 A0 n0 A1 n1 ps hs)(hp:ps.all Qa=true){R:Value->World->Prop}(j:∀w,R (.bool (BU ps hs)) w):
  ∀(d i:Nat)(w:World),n1 - i=d->i<=n1->Below w0.heap.size w0 w->(∀x∈hs.take i,Qb x=true)->F.bD.L8 i A0 n0 c0 A1 n1 c1 w0.heap.size w R:=by
 have r:=g.lp;have y:=g.lh;have z:=g.nh;intro d;induction d with
 |zero=>
  intro i w m hi hw hx;rw[bx om]at hx;have l:hs.all Qb=true:=gu.2 hx;refine F.bD.L8.step ⟨fun h=>by omega,fun _=>⟨fun h=> ?_,fun h=> ?_⟩⟩
  ·have:=j w;unfold BU at this;rw[hp,l,lI,lI]at this;have e:decide (((n1:Nat):Int)<=7)=decide (ps.length<=7/\hs.length<=7):=by rw[jB];omega
   rw[e];exact this
  ·have:=j w;unfold BU at this;rw[hp,l,lI,lI,eh om]at this;exact this
 |succ d ih=>
  intro i w m hi hw hx;have k:i<hs.length:=om;have n:=sc i;obtain⟨hb,a,o,c,_⟩:=(g.h.aj hw lf).at_ (fun _=>rfl) g.lh k;have bad:Qb hs[i]=false->∀w,R (.bool false) w:=fun h w=>by
   have:=j w;unfold BU at this;rwa [all_false (cd k) h,AG,nZ]at this
  refine F.bD.L8.step ⟨fun _=>⟨hb,a,o,_,_,_,_,_,_,_,c,fun h b _=>bad (eh om) b,fun h1=>⟨fun h b _=>bad (eh om) b,fun h2=>⟨fun h b _=>bad (eh om) b,fun h3=>⟨fun h b _=>bad (eh om) b,fun h4=>⟨fun h b _=>bad (eh om) b,fun A=>⟨fun h b _=>bad (eh om) b,fun B=>⟨ir,fun b q=> ?_⟩⟩⟩⟩⟩⟩⟩,fun h=>by omega⟩;rw[n];exact ih (i+1) b om om (kE hw q) (wK k hx (fc om))
theorem Ta{w0:World}{A0 A1:Option Addr}{n0 c0 n1 c1:Nat}{ps:List Pa}{hs:List Ho}(e:wJ w0 A0 n0 A1 n1 ps hs){R:Value->World->Prop}(j:∀w,R (.bool (BU ps hs)) w):
  ∀(d i:Nat)(w:World),n0 - i=d->i<=n0->Below w0.heap.size w0 w->(∀x∈ps.take i,Qa x=true)->F.bD.L2 i A0 n0 c0 A1 n1 c1 w0.heap.size w R:=by
 have o:=e.lp;have q:=e.lh;have r:=e.np;intro d;induction d with
 |zero=>
  intro i w k hi hw hx;rw[bx om]at hx;exact F.bD.L2.step ⟨fun h=>by omega,fun _=>S9 e (gu.2 hx) j n1 0 w rfl om hw sm⟩
 |succ d ih=>
  intro i w k hi hw hx;have g:i<ps.length:=om;have l:=sc i;obtain⟨hb,a,m,c,_⟩:=(e.p.aj hw lf).at_ (fun _=>rfl) e.lp g;have bad:Qa ps[i]=false->∀w,R (.bool false) w:=fun h w=>by
   have:=j w;unfold BU at this;rwa [all_false (cd g) h,nZ,nZ]at this
  refine F.bD.L2.step ⟨fun _=>⟨hb,a,m,_,_,_,_,_,_,_,c,fun h b _=>bad (eh om) b,fun h1=>⟨fun h b _=>bad (eh om) b,fun h2=>⟨fun h b _=>bad (eh om) b,fun h3=>⟨fun h b _=>bad (eh om) b,fun h4=>⟨ir,fun b n=> ?_⟩⟩⟩⟩⟩,fun h=>by omega⟩;rw[l];exact ih (i+1) b om om (kE hw n) (wK g hx (fc om))
theorem Qc{w:World}{A0 A1:Option Addr}{n0 c0 n1 c1:Nat}{ps:List Pa}{hs:List Ho}(a:wJ w A0 n0 A1 n1 ps hs):
  Pure Tryz.prog 36 #[.agg #[.slice A0 n0 c0,.slice A1 n1 c1]] w fun v _=>v= .bool (BU ps hs):=
 F.bD.vc fun w1 b=>Ta a (fun _=>rfl) n0 0 w1 rfl om (k0 b) sm

theorem Il:El Tryz.prog 22 65 7 88:=El.of kF
theorem Im:El Tryz.prog 23 61 7 104:=El.of kF
theorem Nk{v:List Pa}:∀r∈v.map Pa.row,r.length=7:=by
 intro r a;obtain⟨x,_,rfl⟩:=kc.1 a;rfl
theorem Kz{v:List Pa}:∀r∈v.map Pa.row,∀u∈r,dA u=true:=by
 intro r a u hu;obtain⟨x,_,rfl⟩:=kc.1 a;simp only[Pa.row,fi,pw,LP]at hu;rcases hu with rfl|rfl|rfl|rfl|rfl|rfl|rfl<;>rfl
theorem Nl{v:List Ho}:∀r∈v.map Ho.row,r.length=7:=by
 intro r a;obtain⟨x,_,rfl⟩:=kc.1 a;rfl
theorem KA{v:List Ho}:∀r∈v.map Ho.row,∀u∈r,dA u=true:=by
 intro r a u hu;obtain⟨x,_,rfl⟩:=kc.1 a;simp only[Ho.row,fi,pw,LP]at hu;rcases hu with rfl|rfl|rfl|rfl|rfl|rfl|rfl<;>rfl
theorem Ga{v:List Sw}:∀r∈v.map Sw.row,r.length=3:=by
 intro r a;obtain⟨x,_,rfl⟩:=kc.1 a;rfl
theorem CB{v:List Sw}:∀r∈v.map Sw.row,∀u∈r,dA u=true:=by
 intro r a u hu;obtain⟨x,_,rfl⟩:=kc.1 a;simp only[Sw.row,fi,pw,LP]at hu;rcases hu with rfl|rfl|rfl<;>rfl

structure wL (w:World) (A0:Option Addr) (n0:Nat) (A1:Option Addr) (n1:Nat) (ps:List Pa) (hs:List Ho):Prop where
 p:cK w A0 7 (ps.map Pa.row)
 h:cK w A1 7 (hs.map Ho.row)
 lp:ps.length=n0
 lh:hs.length=n1
 np:n0*88<=140737488355328
 nh:n1*104<=140737488355328
theorem wL.aj{w w':World}{A0 A1:Option Addr}{n0 n1:Nat}{ps:List Pa}{hs:List Ho}(h:wL w A0 n0 A1 n1 ps hs)(hb:Below w.heap.size w w'):wL w' A0 n0 A1 n1 ps hs:=
 ⟨h.p.aj hb lf,h.h.aj hb lf,h.lp,h.lh,h.np,h.nh⟩
theorem dF.fit{w:World}{A0 A1:Option Addr}{n0 n1:Nat}{ps:List Pa}{hs:List Ho}(h:dF w A0 n0 A1 n1 ps hs):wL w A0 n0 A1 n1 ps hs:=
 ⟨h.p,h.h,h.lp,h.lh,by have:=h.np;omega,by have:=h.nh;omega⟩
structure yr (w0:World) (A0:Option Addr) (n0:Nat) (A1:Option Addr) (n1:Nat) (ps:List Pa) (hs:List Ho) (p h:Option (Option Addr×Nat×Nat)) (fp fh:Bool) (w:World):Prop where
 cg:wL w A0 n0 A1 n1 ps hs
 b:Below w0.heap.size w0 w
 p:∀x,p=some x->bF w w0.heap.size 65 x.1 x.2.1 x.2.2 7 (if fp then ps.map Pa.row else[])
 h:∀x,h=some x->bF w w0.heap.size 61 x.1 x.2.1 x.2.2 7 (if fh then hs.map Ho.row else[])
section
variable {w0:World} {A0 A1:Option Addr} {n0 c0 n1 c1:Nat} {ps:List Pa} {hs:List Ho} {p h:Option (Option Addr×Nat×Nat)} {fp fh:Bool} {w:World}
theorem yr.next{w':World}(k:yr w0 A0 n0 A1 n1 ps hs p h fp fh w)(hb:Below w.heap.size w w'):yr w0 A0 n0 A1 n1 ps hs p h fp fh w':=
 ⟨k.cg.aj hb,kP k.b hb,fun x hx=>(k.p x hx).below hb,fun x hx=>(k.h x hx).below hb⟩
theorem yr.ext{ts:List Nat}{G:World->Prop}(k:yr w0 A0 n0 A1 n1 ps hs p h fp fh w)(a:ts=[])(b:∀w',yr w0 A0 n0 A1 n1 ps hs p h fp fh w'->G w'):∀w',Ext w0.heap.size ts w w'->G w':=by
 intro w' x;subst a;exact b w' (k.next (yJ x))
theorem yr.bp{fB:List Nat}{K:Option Addr->Nat->Nat->World->Prop}(k:yr w0 A0 n0 A1 n1 ps hs none h fp fh w)(a:∀A c w',yr w0 A0 n0 A1 n1 ps hs (some (A,0,c)) h false fh w'->K A 0 c w'):
  au Tryz.prog (Instr.buildSlice 22 0 #[]) w.heap.size fB w fun r w1=>∃A n c,r= .slice A n c/\K A n c w1:=
 dx Il [] sm sm lf fun A c w' ho hb=>a A c w' ⟨k.cg.aj hb,kP k.b hb,fun x hx=>(by cases hx;exact ho.base k.b.size),fun x hx=>(k.h x hx).below hb⟩
theorem yr.bh{fB:List Nat}{K:Option Addr->Nat->Nat->World->Prop}(k:yr w0 A0 n0 A1 n1 ps hs p none fp fh w)(a:∀A c w',yr w0 A0 n0 A1 n1 ps hs p (some (A,0,c)) fp false w'->K A 0 c w'):
  au Tryz.prog (Instr.buildSlice 23 0 #[]) w.heap.size fB w fun r w1=>∃A n c,r= .slice A n c/\K A n c w1:=
 dx Im [] sm sm lf fun A c w' ho hb=>a A c w' ⟨k.cg.aj hb,kP k.b hb,fun x hx=>(k.p x hx).below hb,fun x hx=>(by cases hx;exact ho.base k.b.size)⟩
theorem yr.ap{fB:List Nat}{ty:Nat}{A:Option Addr}{n c:Nat}{K:Option Addr->Nat->Nat->World->Prop}(d:wL w0 A0 n0 A1 n1 ps hs)(g:A0=none->c0=0)(i:65∉fB)(k:yr w0 A0 n0 A1 n1 ps hs (some (A,n,c)) h false fh w)(j:∀A' n' c' w',yr w0 A0 n0 A1 n1 ps hs (some (A',n',c')) h true fh w'->K A' n' c' w'):
  au Tryz.prog (Builtin.append_ #[22,22] ty #[.slice A n c,.slice A0 n0 c0]) w0.heap.size fB w fun r w1=>∃A n c,r= .slice A n c/\K A n c w1:=by
 have hl:=k.cg.lp;have z:=k.cg.np;have ho:bF w w0.heap.size 65 A n c 7 []:=by simpa using k.p _ rfl
 have hn:n=0:=by have:=ho.len;simpa using this.symm
 subst hn;refine tG Il lf ho k.cg.p (by simpa using hl) Nk Kz g k.b.size om om i fun A' c' w' o l hb=>j _ _ _ _ ⟨d.aj (k.b.trans hb),k.b.trans hb,fun x hx=> ?_,fun x hx=> ?_⟩
 ·cases hx;simpa using o
 ·refine(k.h x hx).other fun a ha=> ?_
  obtain⟨cs,m⟩:=(k.h x hx).cells a ha;refine l.block _ ((k.h x hx).sA a ha).2 fun e=> ?_
  cases A with
  |none=>simp[Value.ownBlock]at e
  |some a2=>
   simp[Value.ownBlock]at e;obtain⟨q,y⟩:=ho.cells a2 rfl;exact Cs m y dc (by first|exact e|exact e.symm)
theorem yr.ah{fB:List Nat}{ty:Nat}{A:Option Addr}{n c:Nat}{K:Option Addr->Nat->Nat->World->Prop}(d:wL w0 A0 n0 A1 n1 ps hs)(g:A1=none->c1=0)(i:61∉fB)(k:yr w0 A0 n0 A1 n1 ps hs p (some (A,n,c)) fp false w)(j:∀A' n' c' w',yr w0 A0 n0 A1 n1 ps hs p (some (A',n',c')) fp true w'->K A' n' c' w'):
  au Tryz.prog (Builtin.append_ #[23,23] ty #[.slice A n c,.slice A1 n1 c1]) w0.heap.size fB w fun r w1=>∃A n c,r= .slice A n c/\K A n c w1:=by
 have hl:=k.cg.lh;have z:=k.cg.nh;have ho:bF w w0.heap.size 61 A n c 7 []:=by simpa using k.h _ rfl
 have hn:n=0:=by have:=ho.len;simpa using this.symm
 subst hn;refine tG Im lf ho k.cg.h (by simpa using hl) Nl KA g k.b.size om om i fun A' c' w' o l hb=>j _ _ _ _ ⟨d.aj (k.b.trans hb),k.b.trans hb,fun x hx=> ?_,fun x hx=> ?_⟩
 ·refine(k.p x hx).other fun a ha=> ?_
  obtain⟨cs,m⟩:=(k.p x hx).cells a ha;refine l.block _ ((k.p x hx).sA a ha).2 fun e=> ?_
  cases A with
  |none=>simp[Value.ownBlock]at e
  |some a2=>
   simp[Value.ownBlock]at e;obtain⟨q,y⟩:=ho.cells a2 rfl;exact Cs m y dc (by first|exact e|exact e.symm)
 ·cases hx;simpa using o
end
set_option maxRecDepth 20000 in
theorem CC{w:World}{A0 A1:Option Addr}{n0 c0 n1 c1:Nat}{ps:List Pa}{hs:List Ho}(a:wL w A0 n0 A1 n1 ps hs)(i:A0=none->c0=0)(j:A1=none->c1=0):
  Pure Tryz.prog 13 #[.agg #[.slice A0 n0 c0,.slice A1 n1 c1]] w fun v w'=>∃B0 d0 b d1,v= .agg #[.slice B0 n0 d0,.slice b n1 d1]/\bF w' w.heap.size 65 B0 n0 d0 7 (ps.map Pa.row)/\bF w' w.heap.size 61 b n1 d1 7 (hs.map Ho.row):=by
 refine F.kL.vc fun w1 l=> ?_
 have s1:yr w A0 n0 A1 n1 ps hs none none false false w1:=⟨a.aj (k0 l),k0 l,fun x hx=>(by cases hx),fun x hx=>(by cases hx)⟩;have fin:∀{P H:Option Addr} {np nh d e:Nat} {c:World},yr w A0 n0 A1 n1 ps hs (some (P,np,d)) (some (H,nh,e)) true true c->∀g,Ext w.heap.size [25] c g->
   ∃B0 d0 b d1,Value.agg #[.slice P np d,.slice H nh e]= .agg #[.slice B0 n0 d0,.slice b n1 d1]/\bF g w.heap.size 65 B0 n0 d0 7 (ps.map Pa.row)/\bF g w.heap.size 61 b n1 d1 7 (hs.map Ho.row):=by
  intro P H np nh d e c k g m;have hp:bF c w.heap.size 65 P np d 7 (ps.map Pa.row):=k.p _ rfl;have n:bF c w.heap.size 61 H nh e 7 (hs.map Ho.row):=k.h _ rfl;have lp:=hp.len;have lh:=n.len;simp only[gv]at lp lh;rw[a.lp]at lp;rw[a.lh]at lh;subst lp;subst lh;exact⟨_,_,_,_,rfl,hp.ML m dc,n.ML m dc⟩
 repeat' first
  |(with_reducible refine And.intro ?_ ?_)
  |exact fin (by assumption)
  |(with_reducible refine yr.ext (by assumption) rfl fun _ _=> ?_)
  |(with_reducible refine yr.bp (by assumption) fun _ _ _ _=> ?_)
  |(with_reducible refine yr.bh (by assumption) fun _ _ _ _=> ?_)
  |(with_reducible refine yr.ap a i ?_ (by assumption) fun _ _ _ _ _=> ?_; · decide)
  |(with_reducible refine yr.ah a j ?_ (by assumption) fun _ _ _ _ _=> ?_; · decide)
theorem Nn{w:World}{A0 A1:Option Addr}{n0 c0 n1 c1:Nat}{ps:List Pa}{hs:List Ho}(a:dF w A0 n0 A1 n1 ps hs)(b:A0=none->c0=0)(c:A1=none->c1=0):
  Pure Tryz.prog 13 #[.agg #[.slice A0 n0 c0,.slice A1 n1 c1]] w fun v w'=>∃B0 d0 d d1,v= .agg #[.slice B0 n0 d0,.slice d n1 d1]/\dF w' B0 n0 d n1 ps hs:=by
 refine pm (CC a.fit b c) ?_;rintro v w' _ ⟨B0,d0,d,d1,rfl,h1,h2⟩;exact⟨_,_,_,_,rfl,h1.sl,h2.sl,a.lp,a.lh,a.sp,a.sh,a.np,a.nh⟩
end Go.Proofs.YtgfkeadgjkfomaaGreatDoor.B

open Go.Proofs.YtgfkeadgjkfomaaGreatDoor

namespace Go.Proofs.YtgfkeadgjkfomaaGreatDoor.B
open Go Go.RowKit Go.Proofs Go.Proofs.YtgfkeadgjkfomaaGreatDoor.Vc

def qF(A:Option Addr)(w w':World):Prop:=w.heap.size<=w'.heap.size/\∀k,k<w.heap.size->(∀a,A=some a->k≠a.block)->w'.heap[k]? =w.heap[k]?
theorem qF.refl{A:Option Addr}{w:World}:qF A w w:=⟨hM _,fun _ _ _=>rfl⟩
theorem qF.trans{A:Option Addr}{w w1 a:World}(h:qF A w w1)(k:qF A w1 a):qF A w a:=
 ⟨ga h.1 k.1,fun j hj ha=>(k.2 j (jK hj h.1) ha).trans (h.2 j hj ha)⟩
theorem qF.low{A:Option Addr}{w w1:World}(h:Below w.heap.size w w1):qF A w w1:=⟨h.size,fun k a _=>h.block k a⟩
theorem qF.wrote{A:Option Addr}{w w1:World}{b ty:Nat}{cs:List Value}(h:dd w w1 b ty cs)(ha:∃a,A=some a/\a.block=b):qF A w w1:=
 ⟨by rw[h.size];exact hM _,fun k d c=>h.rest k fun e=>by obtain⟨a,h1,h2⟩:=ha;exact c a h1 (e.trans h2.symm)⟩
theorem qF.fresh{A:Option Addr}{w0 w w1:World}{b ty:Nat}{cs:List Value}(h:dd w w1 b ty cs)(k:qF A w0 w)(hb:w0.heap.size<=b):qF A w0 w1:=
 ⟨by rw[h.size];exact k.1,fun j hj ha=>(h.rest j om).trans (k.2 j hj ha)⟩

theorem yh{w0:World}{A:Option Addr}{n c:Nat}{l:List Sw}(hl:cK w0 A 3 (l.map Sw.row))(hlen:l.length=n)(hn:n<2147483648){f:Nat}{a k:Array Value}(eR:bc Tryz.prog f=true){p:Sw->Bool}
  (hf:∀w,Below w0.heap.size w0 w->∀x∈l,Pure Tryz.prog f (a.toList++([x.val]:List Value)++k.toList).toArray w fun v _=>v= .bool (p x)) {R:Value->World->Prop} {r:Int} (j:∀w,R (.int .i64 r) w):
  ∀(d i:Nat)(w:World),n - i=d->i<=n->Below w0.heap.size w0 w->r=js p i (l.drop i)->F.aN.L2 A n c f a k n i w0.heap.size w R:=by
 intro d;induction d with
 |zero=>
  intro i w o hi hw b;rw[dp om]at b;subst b;exact F.aN.L2.step ⟨fun h=>by omega,fun _=>j w⟩
 |succ d ih=>
  intro i w o hi hw b;have g:i<l.length:=om;rw[ec g,js]at b;obtain⟨hb,q,y,e,_⟩:=(hl.aj hw lf).at_ (fun _=>rfl) hlen g;refine F.aN.L2.step ⟨fun _=> ?_,fun h=>by omega⟩;refine⟨hb,q,y,_,_,_,e,eR,pm (hf w hw l[i] (cd g)) ?_⟩;rintro v m z rfl;refine⟨_,rfl,fun h=> ?_,fun h=>⟨ir,?_⟩⟩
  ·rw[cc h]at b;subst b;exact j m
  ·rw[ar (by simp[h])]at b;have B:=sc i;rw[B];exact ih (i+1) m om om (kP hw z) b
theorem KB{α:Type}{p:α->Bool}{l:List α}(h:l.findIdx? p=none):l.filter (fun x=> !p x)=l:=by
 rw[List.filter_eq_self];intro x hx;have:=DE.1 h x hx;simp[this]
theorem KC{α:Type}{p:α->Bool}{l:List α}{i:Nat}(h:l.findIdx? p=some i):i<l.length/\(l.take (i+1)).filter (fun x=> !p x)=l.take i:=by
 obtain⟨hi,hp,a⟩:=DC.1 h;refine⟨hi,?_⟩;rw[eN,af hi,sn];have b:(l.take i).filter (fun x=> !p x)=l.take i:=by
  rw[List.filter_eq_self];intro x hx;obtain⟨j,hj,rfl⟩:=List.mem_take_iff_getElem.1 hx;have:=a j om;simpa using this
 rw[b];simp[hp]
theorem No:(Tryz.prog.info? 39).bind (·.zero)=some (.agg #[.int .i64 0,.int .i64 0,.int .i64 0]):=kF

theorem KD{w0:World}{B:Nat}{A:Option Addr}{n c:Nat}{l:List Sw}(hlen:l.length=n)(hn:n<2147483648)(ph:n<=c){f:Nat}{a k:Array Value}(eR:bc Tryz.prog f=true){p:Sw->Bool}
  (hf:∀w,qF A w0 w->∀x:Sw,Pure Tryz.prog f (a.toList++([x.val]:List Value)++k.toList).toArray w fun v _=>v= .bool (p x)) {R:Value->World->Prop}
  (hR:∀m w,qF A w0 w->bF w B 39 A m c 3 ((l.filter fun x=> !p x).map Sw.row)->R (.slice A m c) w):
  ∀(d i j:Nat)(cur:List Sw)(w:World),n - j=d->j<=n->i<=j->cur.length=n->bF w B 39 A n c 3 (cur.map Sw.row)->cur.take i=(l.take j).filter (fun x=> !p x)->cur.drop j=l.drop j->qF A w0 w->B<=w.heap.size->
   F.aK.L5 A n c f a k i j B w R:=by
 intro d;induction d with
 |zero=>
  intro i j cur w hd hj N z ho o I C b;have:j=n:=om;subst this;rw[bx (l:=l) om]at o;refine F.aK.L5.step ⟨fun h=>by omega,fun _=>⟨om,?_⟩⟩;have os:=ho.short (m:=i) om;rw[<-LN,o]at os;rw[dq];refine F0 zY No (by simp[Value.cells,dA]) os N ph fun O o2 D k2=>⟨om,hR i O (C.trans ⟨D.size,k2⟩) o2⟩
 |succ d ih=>
  intro i j cur w hd hj N z ho o I C b;have P:j<l.length:=om;have q:j<cur.length:=om;have J:cur[j]=l[j]:=by
   have h1:(cur.drop j)[0]? =(l.drop j)[0]? :=by rw[I]
   rw[xk,xk]at h1;simpa[P,q]using h1
  have Q:=sc j;have e4:=sc i;have S:cur.drop (j+1)=l.drop (j+1):=by
   have:=dB (List.drop 1) I;simpa[GI]using this
  have r:l.take (j+1)=l.take j++[l[j]]:=by rw[eN,af P];rfl
  obtain⟨hb,ad,hA,e,_⟩:=ho.sl.at_ (fun _=>rfl) z q;refine F.aK.L5.step ⟨fun _=>⟨hb,ad,hA,_,_,_,e,?_⟩,fun h=>by omega⟩;refine pC 39 No b fun O fS D hlt=> ?_
  refine⟨_,_,b,rfl,fS,by simp[Value.cells],rfl,fun E G=> ?_⟩;have T:E.heap[w.heap.size]? =some (.cells (cur[j].row).toArray 39 (0,0)):=by
   have:=G.at_;simpa[setCells,Value.cells]using this
  have U:qF A w0 E:=qF.fresh G (C.trans (qF.low D)) C.1;have K:∀x,A=some x->x.block<w.heap.size:=fun x hx=>(ho.sA x hx).2
  have o3:bF E B 39 A n c 3 (cur.map Sw.row):=(ho.below D).other fun x hx=>G.rest _ (by have:=K x hx;show x.block≠w.heap.size;omega)
  refine⟨_,_,_,lV T,eR,pm (hf E U cur[j]) ?_⟩;rintro v V H rfl;have W:=U.trans (qF.low (A:=A) H);have X:=o3.below H;have y:B<=V.heap.size:=by have:=H.size;have:=G.size;omega
  refine⟨_,rfl,fun gy=> ?_,fun L=>⟨ir,?_⟩⟩
  ·have g:p l[j]=false:=by rw[<-J];exact gy
   obtain⟨g1,a2,Y,cs,g2,g3,g4,g5,g6⟩:=X.FP (i:=(i:Int)) om om (cur[j].row) ((cur[i]'om).row) (by rw[dq,tX,af om];rfl) rfl;refine⟨_,_,_,lV (bK T H),g1,a2,Y,cs,_,g2,g3,g4,g5,rfl,fun Z M=>⟨ir,ir,?_⟩⟩;have o5:=g6 Z M;rw[dq]at o5;have Qd:(a2.add ((i:Int).toNat*3)).block=a2.block:=by unfold Addr.add;split<;>rfl
   rw[Q,e4];refine ih (i+1) (j+1) (cur.set i cur[j]) Z om om om (by simp[z]) (by rw[EF];exact o5) ?_ ?_ (W.trans (qF.wrote M ⟨a2,Y,Qd.symm⟩)) (by rw[M.size];exact y)
   ·rw[eN,oK om,List.take_set_of_le om,o,r,sn,J];simp[g]
   ·rw[List.drop_set_of_lt om];exact S
  ·have g:p l[j]=true:=by rw[<-J];simpa using L
   rw[Q];refine ih i (j+1) cur V om om om z X ?_ S W y;rw[o,r,sn];simp[g]
theorem Gb{w:World}{B:Nat}(hB:B<=w.heap.size){A:Option Addr}{n c:Nat}{l:List Sw}(ho:bF w B 39 A n c 3 (l.map Sw.row))(hn:n<2147483648){f:Nat}{a k:Array Value}(eR:bc Tryz.prog f=true){p:Sw->Bool}
  (hf:∀w',qF A w w'->∀x:Sw,Pure Tryz.prog f (a.toList++([x.val]:List Value)++k.toList).toArray w' fun v _=>v= .bool (p x)):
  dZ Tryz.prog 139 #[.slice A n c,.func (.func f) a k] B w fun v w'=>∃m,v= .slice A m c/\bF w' B 39 A m c 3 ((l.filter fun x=> !p x).map Sw.row)/\qF A w w':=by
 have hlen:l.length=n:=by have:=ho.len;simpa using this
 have d:=ho.gV;refine F.aK.Jm hB ?_;refine pm (F.aN.vc (yh ho.sl hlen hn eR (fun w' hb x _=>hf w' (qF.low hb) x) (R:=fun v _=>v= .int .i64 (js p 0 l)) (fun _=>rfl) n 0 w rfl om (Below.refl _ _) rfl)) ?_;rintro v e b rfl;have key:=oB p l 0;cases hx:l.findIdx? p with
 |none=>
  rw[hx]at key;simp only at key;rw[key];refine⟨_,rfl,fun _=>⟨n,rfl,?_,qF.low b⟩,fun h=>absurd rfl h⟩;rw[KB hx];exact ho.below b
 |some i=>
  rw[hx]at key;simp only[oi]at key;rw[key];obtain⟨r,g⟩:=KC hx;have j:=sc i;refine⟨_,rfl,fun h=>by omega,fun _=>⟨ir,?_⟩⟩;rw[j];exact KD (w0:=w) hlen hn d eR hf (fun m w' q o=>⟨m,rfl,o,q⟩) (n - (i+1)) i (i+1) l e rfl om om hlen (ho.below b) g.symm rfl (qF.low b) (ga hB b.size)
end Go.Proofs.YtgfkeadgjkfomaaGreatDoor.B

open Go.Proofs.YtgfkeadgjkfomaaGreatDoor

namespace Go.Proofs.YtgfkeadgjkfomaaGreatDoor.B
open Go Go.RowKit Go.Proofs Go.Proofs.YtgfkeadgjkfomaaGreatDoor.Vc

def gP(ps:List Pa)(f:Pa->ByteArray)(id:Int):Rat:=match (nW ps id).bind fun i=>ps[i]? with|some p=>qR (f p)|none=>0
def gH(hs:List Ho)(f:Ho->ByteArray)(id:Int):Rat:=match (pc hs id).bind fun i=>hs[i]? with|some h=>qR (f h)|none=>0
def tP(ps:List Pa)(f:Pa->ByteArray)(s:Sw):Rat:=(s.aO:Rat)*gP ps f s.aG
def tH(ps:List Pa)(hs:List Ho)(f:Ho->ByteArray)(s:Sw):Rat:=(s.aO:Rat)*gP ps Pa.eF s.aG*gH hs f s.hold
abbrev ldV(a b c x y z:Rat):Value:= .agg #[.string (rS a),.string (rS b),.string (rS c),.string (rS x),.string (rS y),.string (rS z)]
def Lg(ps:List Pa)(hs:List Ho)(l:List Sw):Value:=ldV (df (tP ps Pa.eF) l) (df (tP ps Pa.nJ) l) (df (tP ps Pa.dP) l) (df (tH ps hs Ho.x) l) (df (tH ps hs Ho.y) l) (df (tH ps hs Ho.z) l)
theorem AA{ps:List Pa}{id:Int}{i:Nat}{p:Pa}(h:nW ps id=some i)(e:ps[i]? =some p)(f:Pa->ByteArray):gP ps f id=qR (f p):=by
 unfold gP;rw[h,DA,e]
theorem AB{hs:List Ho}{id:Int}{i:Nat}{p:Ho}(h:pc hs id=some i)(e:hs[i]? =some p)(f:Ho->ByteArray):gH hs f id=qR (f p):=by
 unfold gH;rw[h,DA,e]
theorem mU(f:Sw->Rat)(l:List Sw)(s:Sw):df f (l++[s])=df f l+f s:=by rw[yc,FY]
theorem vj{ps:List Pa}{id:Int}{i:Nat}(h:nW ps id=some i):∃hi:i<ps.length,ps[i].id=id:=by
 obtain⟨p,e,k⟩:=gG h;obtain⟨hi,rfl⟩:=ew.1 e;exact⟨hi,k⟩
theorem Eg{hs:List Ho}{id:Int}{i:Nat}(h:pc hs id=some i):∃hi:i<hs.length,hs[i].id=id:=by
 obtain⟨p,e,k⟩:=oQ h;obtain⟨hi,rfl⟩:=ew.1 e;exact⟨hi,k⟩
structure pk (ps:List Pa) (hs:List Ho) (l:List Sw):Prop where
 c:xp ps hs
 known:∀s∈l,∃i k,nW ps s.aG=some i/\pc hs s.hold=some k
 u:∀s∈l,1<=s.aO/\s.aO<=9
 n:l.length<=40
theorem pk.filter{ps:List Pa}{hs:List Ho}{l:List Sw}(h:pk ps hs l)(q:Sw->Bool):pk ps hs (l.filter q):=
 ⟨h.c,fun s a=>h.known s (BD.1 a).1,fun s a=>h.u s (BD.1 a).1,ga (List.length_filter_le _ _) h.n⟩
theorem CD{l:List Sw}(h:∀s∈l,1<=s.aO){s:Sw}(hs:s∈l):s.aO<=cG l s.aG:=by
 obtain⟨a,b,rfl⟩:=List.append_of_mem hs;rw[show a++s::b=a++([s]++b)from rfl,fw,fw,mO,cc rfl];have h1:=gl (l:=a) (fun x hx=>h x (by simp[hx])) s.aG;have h2:=gl (l:=b) (fun x hx=>h x (by simp[hx])) s.aG;omega
theorem ek.ld{ps:List Pa}{hs:List Ho}{l:List Sw}(h:ek ps hs l)(hn:l.length<=40):pk ps hs l:=by
 refine⟨h.c,h.known,fun s a=>⟨h.pos s a,?_⟩,hn⟩;obtain⟨i,k,hi,_⟩:=h.known s a;obtain⟨p,e,hid⟩:=gG hi;have hm:=hJ e;have h1:=h.full p hm;have h2:=CD h.pos a;have h3:=(h.c.p1 p hm).2.1.2;rw[hid]at h1;omega
theorem Td{z:Int}(h1:1<=z)(a:z<=9):Sm 1 (z:Rat):=Sm.ofInt om om
theorem vk{f:Sw->Rat}{l:List Sw}(h:∀s∈l,Sm 2001 (f s)):Sm (2002*l.length+1) (df f l):=by
 induction l with
 |nil=>exact Sm.zero om
 |cons s r ih=>
  rw[show s::r=[s]++r from rfl,yc,FY];refine((h s sm).add (ih fun x hx=>h x (by simp[hx]))).mono ?_;simp;omega

section
variable {w0:World} {A0 A1 A:Option Addr} {n0 c0 n1 c1 n c:Nat} {ps:List Pa} {hs:List Ho} {l:List Sw} {R:Value->World->Prop}
theorem pk.smP(h:pk ps hs l)(b:dF w0 A0 n0 A1 n1 ps hs){s:Sw}(d:s∈l):Sm 1000 (gP ps Pa.eF s.aG)/\Sm 1000 (gP ps Pa.nJ s.aG)/\Sm 1000 (gP ps Pa.dP s.aG):=by
 obtain⟨i,k,hi,_⟩:=h.known s d;obtain⟨p,e,_⟩:=gG hi;have hm:=hJ e;have hv:=h.c.vp p hm;have a:=b.sp p hm;unfold vP at hv;simp only[eb]at hv;rw[AA hi e,AA hi e,AA hi e];exact⟨rH hv.1.1 a.eF,rH hv.1.2 a.nJ,rH hv.2 a.dP⟩
theorem pk.smH(h:pk ps hs l)(b:dF w0 A0 n0 A1 n1 ps hs){s:Sw}(d:s∈l):Sm 1000 (gH hs Ho.x s.hold)/\Sm 1000 (gH hs Ho.y s.hold)/\Sm 1000 (gH hs Ho.z s.hold):=by
 obtain⟨_,i,_,hi⟩:=h.known s d;obtain⟨p,e,_⟩:=oQ hi;have hm:=hJ e;have hv:=h.c.vh p hm;have a:=b.sh p hm;unfold vH at hv;simp only[eb]at hv;rw[AB hi e,AB hi e,AB hi e];exact⟨rH hv.1.1.2 a.x,rH hv.1.2 a.y,rH hv.2 a.z⟩
theorem pk.Qe(h:pk ps hs l)(g:dF w0 A0 n0 A1 n1 ps hs){s:Sw}(e:s∈l):
  (Sm 2001 (tP ps Pa.eF s)/\Sm 2001 (tP ps Pa.nJ s)/\Sm 2001 (tP ps Pa.dP s))/\(Sm 2001 (tH ps hs Ho.x s)/\Sm 2001 (tH ps hs Ho.y s)/\Sm 2001 (tH ps hs Ho.z s)):=by
 obtain⟨a,b,d⟩:=h.smP g e;obtain⟨x,y,z⟩:=h.smH g e;have hn:=Td (h.u s e).1 (h.u s e).2;exact⟨⟨(hn.mul a).mono om,(hn.mul b).mono om,(hn.mul d).mono om⟩,((hn.mul a).mul x).mono om,((hn.mul a).mul y).mono om,((hn.mul a).mul z).mono om⟩
theorem pk.Wg(h:pk ps hs l)(b:dF w0 A0 n0 A1 n1 ps hs):
  (jy (df (tP ps Pa.eF) l)/\jy (df (tP ps Pa.nJ) l)/\jy (df (tP ps Pa.dP) l))/\(jy (df (tH ps hs Ho.x) l)/\jy (df (tH ps hs Ho.y) l)/\jy (df (tH ps hs Ho.z) l)):=by
 have hn:=h.n;exact⟨⟨(vk fun s a=>(h.Qe b a).1.1).mono om,(vk fun s a=>(h.Qe b a).1.2.1).mono om,(vk fun s a=>(h.Qe b a).1.2.2).mono om⟩,
  (vk fun s a=>(h.Qe b a).2.1).mono om,(vk fun s a=>(h.Qe b a).2.2.1).mono om,(vk fun s a=>(h.Qe b a).2.2.2).mono om⟩
theorem pk.take(h:pk ps hs l)(i:Nat):pk ps hs (l.take i):=
 ⟨h.c,fun s a=>h.known s (mr a),fun s a=>h.u s (mr a),by have:=h.n;rw[fs];omega⟩

theorem Nr (j : cT w0) (g : dF w0 A0 n0 A1 n1 ps hs) (h : cK w0 A 3 (l.map Sw.row)) (hl : l.length = n) (m : pk ps hs l) (t0 t1 t2 t3 t4 t5 : ByteArray) :
    ∀ (d i : Nat) (w : World), n - i = d → i ≤ n → Below w0.heap.size w0 w →
      F.bG.L3 A n c n i A0 n0 c0 A1 n1 c1 t0 t1 t2 t3 t4 t5 (rS (df (tP ps Pa.eF) (l.take i))) (rS (df (tP ps Pa.nJ) (l.take i))) (rS (df (tP ps Pa.dP) (l.take i))) (rS (df (tH ps hs Ho.x) (l.take i))) (rS (df (tH ps hs Ho.y) (l.take i))) (rS (df (tH ps hs Ho.z) (l.take i))) w0.heap.size w fun v _ => v = Lg ps hs l := by
  intro d
  induction d with
  | zero =>
    intro i w hd hi hw
    refine F.bG.L3.step ⟨fun h => by omega, fun _ w2 _ => ?_⟩
    rw [bx om]
    rfl
  | succ d ih =>
    intro i w hd hi hw
    have U : i < l.length := om
    have Wh := m.n
    have e3 := sc i
    have et : l.take (i + 1) = l.take i ++ [l[i]] := by rw [eN, af U]; rfl
    have E : l[i] ∈ l := cd U
    obtain ⟨ip, k, G, H⟩ := m.known l[i] E
    obtain ⟨B, afv⟩ := vj G
    obtain ⟨C, afw⟩ := Eg H
    obtain ⟨⟨b1, b2, b3⟩, b4, b5, b6⟩ := (m.take i).Wg g
    obtain ⟨m1, m2, m3⟩ := m.smP g E
    obtain ⟨m4, m5, m6⟩ := m.smH g E
    obtain ⟨⟨Q, k2, k3⟩, k4, k5, k6⟩ := m.Qe g E
    have hu := m.u l[i] E
    have Hz := Td hu.1 hu.2
    have V : jy ((l[i].aO : Int) : Rat) := Hz.mono om
    have I := m.c.vp _ (cd B)
    have J := m.c.vh _ (cd C)
    unfold vP at I
    unfold vH at J
    simp only [eb] at I J
    have p1 : ps[ip].eF = rS (gP ps Pa.eF l[i].aG) := by rw [AA G (af B)]; exact nV I.1.1
    have p2 : ps[ip].nJ = rS (gP ps Pa.nJ l[i].aG) := by rw [AA G (af B)]; exact nV I.1.2
    have p3 : ps[ip].dP = rS (gP ps Pa.dP l[i].aG) := by rw [AA G (af B)]; exact nV I.2
    have p4 : hs[k].x = rS (gH hs Ho.x l[i].hold) := by rw [AB H (af C)]; exact nV J.1.1.2
    have p5 : hs[k].y = rS (gH hs Ho.y l[i].hold) := by rw [AB H (af C)]; exact nV J.1.2
    have p6 : hs[k].z = rS (gH hs Ho.z l[i].hold) := by rw [AB H (af C)]; exact nV J.2
    have sQ : ∀ {x : Rat}, Sm 2001 x → jy x := fun h => h.mono om
    have D : ∀ {x : Rat}, Sm 1000 x → jy x := fun h => h.mono om
    have fin : ∀ (w : World) (a b : Int), Below w0.heap.size w0 w →
        F.bG.J6 A n c n i A0 n0 c0 A1 n1 c1 t0 t1 t2 t3 t4 t5 (rS (df (tP ps Pa.eF) (l.take i))) (rS (df (tP ps Pa.nJ) (l.take i))) (rS (df (tP ps Pa.dP) (l.take i))) (rS (df (tH ps hs Ho.x) (l.take i))) (rS (df (tH ps hs Ho.y) (l.take i))) (rS (df (tH ps hs Ho.z) (l.take i)))
          l[i].hold l[i].aG l[i].aO ps[ip].id a b ps[ip].name ps[ip].eF ps[ip].nJ ps[ip].dP hs[k].x hs[k].y hs[k].z w0.heap.size w fun v _ => v = Lg ps hs l := by
      intro w a b hw
      rw [p1, p2, p3, p4, p5, p6]
      have next : ∀ w', Below w0.heap.size w0 w' → F.bG.L3 A n c n ((i : Int) + 1) A0 n0 c0 A1 n1 c1 t0 t1 t2 t3 t4 t5 (rS (df (tP ps Pa.eF) (l.take i) + tP ps Pa.eF l[i])) (rS (df (tP ps Pa.nJ) (l.take i) + tP ps Pa.nJ l[i])) (rS (df (tP ps Pa.dP) (l.take i) + tP ps Pa.dP l[i])) (rS (df (tH ps hs Ho.x) (l.take i) + tH ps hs Ho.x l[i])) (rS (df (tH ps hs Ho.y) (l.take i) + tH ps hs Ho.y l[i])) (rS (df (tH ps hs Ho.z) (l.take i) + tH ps hs Ho.z l[i])) w0.heap.size w' fun v _ => v = Lg ps hs l := by
        intro w' oo
        have := ih (i + 1) w' om om oo
        rw [et] at this
        simp only [mU] at this
        rw [e3]
        exact this
      unfold tP tH at *
      refine F.bG.J6.step (pm (lX (j.next hw) om om) ?_)
      rintro v w1 h1 rfl
      have hw := kP hw h1; clear h1
      refine ⟨_, rfl, pm (ix (j.next hw) V (D m1)) ?_⟩
      rintro v w2 h1 rfl
      have hw := kP hw h1; clear h1
      refine ⟨_, rfl, fun w3 x3 => ?_⟩
      have hw := kE hw x3; clear x3
      refine pm (iy (j.next hw) b1 (sQ Q)) ?_
      rintro v w4 h1 rfl
      have hw := kP hw h1; clear h1
      refine ⟨_, rfl, pm (ix (j.next hw) V (D m2)) ?_⟩
      rintro v w5 h1 rfl
      have hw := kP hw h1; clear h1
      refine ⟨_, rfl, pm (iy (j.next hw) b2 (sQ k2)) ?_⟩
      rintro v W h1 rfl
      have hw := kP hw h1; clear h1
      refine ⟨_, rfl, pm (ix (j.next hw) V (D m3)) ?_⟩
      rintro v w7 h1 rfl
      have hw := kP hw h1; clear h1
      refine ⟨_, rfl, pm (iy (j.next hw) b3 (sQ k3)) ?_⟩
      rintro v w8 h1 rfl
      have hw := kP hw h1; clear h1
      refine ⟨_, rfl, fun w9 x9 => ?_⟩
      have hw := kE hw x9; clear x9
      refine pm (ix (j.next hw) (sQ Q) (D m4)) ?_
      rintro v vg h1 rfl
      have hw := kP hw h1; clear h1
      refine ⟨_, rfl, pm (iy (j.next hw) b4 (sQ k4)) ?_⟩
      rintro v yE h1 rfl
      have hw := kP hw h1; clear h1
      refine ⟨_, rfl, pm (ix (j.next hw) (sQ Q) (D m5)) ?_⟩
      rintro v tz h1 rfl
      have hw := kP hw h1; clear h1
      refine ⟨_, rfl, pm (iy (j.next hw) b5 (sQ k5)) ?_⟩
      rintro v uY h1 rfl
      have hw := kP hw h1; clear h1
      refine ⟨_, rfl, pm (ix (j.next hw) (sQ Q) (D m6)) ?_⟩
      rintro v yF h1 rfl
      have hw := kP hw h1; clear h1
      refine ⟨_, rfl, pm (iy (j.next hw) b6 (sQ k6)) ?_⟩
      rintro v Al h1 rfl
      have hw := kP hw h1; clear h1
      refine ⟨_, rfl, ir, fun qK KE => ?_⟩
      exact next qK (kE hw KE)
    clear ih
    obtain ⟨hb, a, hA, q, _⟩ := (h.aj hw lf).at_ (fun _ => rfl) hl U
    obtain ⟨Gc, ap, X, _⟩ := g.p.at_ (fun _ => rfl) g.lp B
    obtain ⟨S, ah, K, _⟩ := g.h.at_ (fun _ => rfl) g.lh C
    have cP : ∀ w, Below w0.heap.size w0 w → ae w (ap.add ((ip : Int).toNat * 7)) (ps[ip].row) := fun w hw => by
      obtain ⟨_, a', L, Y, _⟩ := (g.p.aj hw lf).at_ (fun _ => rfl) g.lp B
      rw [X] at L
      cases L
      exact Y
    have cH : ∀ w, Below w0.heap.size w0 w → ae w ((ah.add ((k : Int).toNat * 7)).add 4) [.string hs[k].x, .string hs[k].y, .string hs[k].z] := fun w hw => by
      obtain ⟨_, a', L, Y, _⟩ := (g.h.aj hw lf).at_ (fun _ => rfl) g.lh C
      rw [K] at L
      cases L
      exact zT Y 4 3
    refine F.bG.L3.step ⟨fun _ => ⟨hb, a, hA, _, _, _, q, fun W x6 => ?_⟩, fun h => by omega⟩
    have T := kE hw x6
    have par : ∀ w, Below w0.heap.size w0 w → Pure Tryz.prog 62 #[.agg #[.slice A0 n0 c0, .slice A1 n1 c1], .int .i64 l[i].aG] w fun v _ => v = .int .i64 (ip : Int) := fun w hw => by
      have := gX (c0 := c0) (c1 := c1) (g.aj hw) l[i].aG
      rw [G] at this
      exact this
    have Z : ∀ w, Below w0.heap.size w0 w → Pure Tryz.prog 63 #[.agg #[.slice A0 n0 c0, .slice A1 n1 c1], .int .i64 l[i].hold] w fun v _ => v = .int .i64 (k : Int) := fun w hw => by
      have := jd (c0 := c0) (c1 := c1) (g.aj hw) l[i].hold
      rw [H] at this
      exact this
    have Wi : ∀ (w : World), Below w0.heap.size w0 w → ∃ M N O : ByteArray, ae w ((ah.add ((k : Int).toNat * 7)).add 4) [.string M, .string N, .string O] ∧ ∀ (ts : List Nat) o, Ext w0.heap.size ts w o → F.bG.J6 A n c n i A0 n0 c0 A1 n1 c1 t0 t1 t2 t3 t4 t5 (rS (df (tP ps Pa.eF) (l.take i))) (rS (df (tP ps Pa.nJ) (l.take i))) (rS (df (tP ps Pa.dP) (l.take i))) (rS (df (tH ps hs Ho.x) (l.take i))) (rS (df (tH ps hs Ho.y) (l.take i))) (rS (df (tH ps hs Ho.z) (l.take i)))
          l[i].hold l[i].aG l[i].aO ps[ip].id ps[ip].aO ps[ip].cls ps[ip].name ps[ip].eF ps[ip].nJ ps[ip].dP M N O w0.heap.size o fun v _ => v = Lg ps hs l :=
      fun w hw => ⟨_, _, _, cH w hw, fun ts o x => fin o _ _ (kE hw x)⟩
    have r : ∀ (ts Te : List Nat) (w : World), Below w0.heap.size w0 w → ∀ P, Ext w0.heap.size ts w P → ∃ M N O : ByteArray, ae P ((ah.add ((k : Int).toNat * 7)).add 4) [.string M, .string N, .string O] ∧ ∀ o, Ext w0.heap.size Te P o → F.bG.J6 A n c n i A0 n0 c0 A1 n1 c1 t0 t1 t2 t3 t4 t5 (rS (df (tP ps Pa.eF) (l.take i))) (rS (df (tP ps Pa.nJ) (l.take i))) (rS (df (tP ps Pa.dP) (l.take i))) (rS (df (tH ps hs Ho.x) (l.take i))) (rS (df (tH ps hs Ho.y) (l.take i))) (rS (df (tH ps hs Ho.z) (l.take i)))
          l[i].hold l[i].aG l[i].aO ps[ip].id ps[ip].aO ps[ip].cls ps[ip].name ps[ip].eF ps[ip].nJ ps[ip].dP M N O w0.heap.size o fun v _ => v = Lg ps hs l :=
      fun ts Te w hw P x => by
        obtain ⟨s1, s2, s3, e, f⟩ := Wi P (kE hw x)
        exact ⟨s1, s2, s3, e, fun o x28 => f Te o x28⟩
    clear fin
    refine ⟨fun w7 x7 => ?_, fun Tf x55 => ?_⟩
    · have rV := kE T x7
      refine pm (par w7 rV) ?_
      rintro v vg Ha rfl
      have tY := kP rV Ha
      refine ⟨_, rfl, Gc, ap, X, _, _, _, _, _, _, _, cP W T, fun Am Hd => ?_, fun Qg x34 => ?_⟩
      · have BX := kE tY Hd
        refine pm (Z Am BX) ?_
        rintro v Ab Yl rfl
        have vm := kP BX Yl
        exact ⟨_, rfl, S, ah, K, r _ _ Ab vm, r _ _ Ab vm⟩
      · have AE := kE tY x34
        refine pm (Z Qg AE) ?_
        rintro v GY Ym rfl
        have BY := kP AE Ym
        exact ⟨_, rfl, ⟨S, ah, K, r _ _ GY BY, r _ _ GY BY⟩, S, ah, K, r _ _ GY BY⟩
    · have Ns := kE T x55
      refine pm (par Tf Ns) ?_
      rintro v J2 Yn rfl
      have Tg := kP Ns Yn
      refine ⟨_, rfl, Gc, ap, X, _, _, _, _, _, _, _, cP W T, fun w67 x67 => ?_⟩
      have Nt := kE Tg x67
      refine pm (Z w67 Nt) ?_
      rintro v Wk Yo rfl
      have Nu := kP Nt Yo
      exact ⟨_, rfl, S, ah, K, r _ _ Wk Nu, r _ _ Wk Nu⟩
theorem bG(a:cT w0)(b:dF w0 A0 n0 A1 n1 ps hs)(h:cK w0 A 3 (l.map Sw.row))(hl:l.length=n)(d:pk ps hs l):
  Pure Tryz.prog 103 #[.agg #[.slice A0 n0 c0,.slice A1 n1 c1],.slice A n c] w0 fun v _=>v=Lg ps hs l:=by
 refine F.bG.vc fun w1 e=> ?_
 have:=Nr (c:=c) (c0:=c0) (c1:=c1) a b h hl d (⟨#[]⟩) (⟨#[]⟩) (⟨#[]⟩) (⟨#[]⟩) (⟨#[]⟩) (⟨#[]⟩) n 0 w1 rfl om (k0 e);simp only[Kv,MP,<-s0]at this;exact this
end

theorem Ei{w:World}{A:Option Addr}{n c:Nat}{l:List Sw}(h:cK w A 3 (l.map Sw.row))(hlen:l.length=n)(hn:n<=1000000):
  Pure Tryz.prog 14 #[.slice A n c] w fun v w'=>∃A' c',v= .slice A' n c'/\bF w' w.heap.size 39 A' n c' 3 (l.map Sw.row):=by
 refine F.eJ.vc ⟨fun b=> ?_,fun b=> ?_⟩
 ·subst b;have:=h.sN;simp at this;subst this;simp at hlen;subst hlen;exact⟨none,0,rfl,bF.nil⟩
 ·obtain⟨a,rfl⟩:=K0.1 b;refine dx zY [] sm sm lf fun A2 c2 i ho e=> ?_
  refine wu zY lf (by simpa using ho) (h.below e) (by simpa using hlen) (fun r d=>by obtain⟨s,_,rfl⟩:=kc.1 d;rfl) (fun r d=>by obtain⟨s,_,rfl⟩:=kc.1 d;intro u hu;simp[Sw.row]at hu;rcases hu with rfl|rfl|rfl<;>rfl) e.size (by simp;omega) sm fun A' c' j g _ k=> ?_
  simp only[ot,oi,nN]at g⊢;exact⟨A',c',rfl,g⟩
def xa(l:List Sw)(id:Int):List Sw:=l.filter fun s=>decide (s.hold=id)
theorem oS{w:World}{A:Option Addr}{n c:Nat}{l:List Sw}(h:cK w A 3 (l.map Sw.row))(hlen:l.length=n)(hn:n<=1000000)(id:Int):
  Pure Tryz.prog 104 #[.slice A n c,.int .i64 id] w fun v w'=>∃A' m c',v= .slice A' m c'/\cK w' A' 3 ((xa l id).map Sw.row)/\(xa l id).length=m:=by
 refine F.oS.vc fun w1 r=> ?_
 have g:=k0 r;refine pm (Ei (h.aj g lf) hlen hn) ?_;rintro v y z ⟨A',c',rfl,ho⟩;refine⟨_,_,_,rfl,fun d B i=> ?_⟩;have C:=kP g z;have j:∀a,A'=some a->d≠a.block:=fun a ha e=>by
  obtain⟨cs,o⟩:=ho.cells a ha;rw[<-e,i]at o;simp at o
 have b:d<y.heap.size:=(bU.1 i).1;refine dZ.mono (Gb (p:=fun s=>decide (s.hold≠id)) C.size (ho.base g.size) om kF fun w' q x=> ?_) ?_
 ·refine F.sU.vc fun G D=>⟨_,lV (ty:=3) ?_,rfl⟩
  exact(k0 D).block d (jK b q.1)|>.trans ((q.2 d b j).trans i)
 ·rintro v H I ⟨m,rfl,k,_⟩;refine⟨fun _ _ _ E=>(by cases E),_,_,_,rfl,_,_,_,rfl,?_⟩;have e:(l.filter fun x=> !(decide (x.hold≠id)))=xa l id:=by
   unfold xa;refine Qf fun s _=> ?_
   by_cases h:s.hold=id<;>simp[h]
  rw[e]at k;exact⟨k.sl,by simpa using k.len⟩

abbrev ld0:Value:= .agg #[.string ⟨#[]⟩,.string ⟨#[]⟩,.string ⟨#[]⟩,.string ⟨#[]⟩,.string ⟨#[]⟩,.string ⟨#[]⟩]
def AF(ps:List Pa)(hs:List Ho)(l:List Sw)(id:Int):Value:=
 if cZ ps hs l≠0 then .tuple #[ld0,.int .i64 1]else if pc hs id=none then .tuple #[ld0,.int .i64 7]else .tuple #[Lg ps hs (xa l id),.int .i64 0]
def nX(ps:List Pa)(_:List Ho)(l:List Sw)(h:Ho):Bool:=
 decide (qR h.il<df (tP ps Pa.eF) (xa l h.id))||decide (qR h.room<df (tP ps Pa.nJ) (xa l h.id))
def CE(ps:List Pa)(hs:List Ho)(l:List Sw):Value:=
 if cZ ps hs l≠0 then .tuple #[.int .i64 0,.int .i64 1]else .tuple #[.int .i64 (nK (hs.findIdx? (nX ps hs l))),.int .i64 0]
theorem gh{o:Option Nat}:nK o<0↔o=none:=by cases o<;>simp[nK]

section
variable {w:World} {A0 A1 A:Option Addr} {n0 c0 n1 c1 n c:Nat} {ps:List Pa} {hs:List Ho} {l:List Sw}
theorem oT(b:cT w)(a:dF w A0 n0 A1 n1 ps hs)(h:cK w A 3 (l.map Sw.row))(hl:l.length=n)(d:n<=c)(hn:n<=40)(id:Int):
  Pure Tryz.prog 129 #[.agg #[.slice A0 n0 c0,.slice A1 n1 c1],.slice A n c,.int .i64 id] w fun v _=>v=AF ps hs l id:=by
 refine F.oT.vc fun w1 e=> ?_
 have hw:=k0 e;refine pm (cS (b.next hw) (a.aj hw) (h.aj hw lf) hl d om) ?_;rintro v x g rfl;have hw:=kP hw g;unfold AF;refine⟨_,rfl,fun h0 y _=>by rw[cc h0],fun h0=> ?_⟩;rw[ar h0];have i:=(dt (ep.1 h0)).ld om;refine pm (jd (a.aj hw) id) ?_;rintro v z j rfl;have hw:=kP hw j;refine⟨_,rfl,fun h1 B _=>by rw[cc (gh.1 h1)],fun h1 C o=> ?_⟩;rw[ar (fun k=>h1 (gh.2 k))];have hw:=kE hw o;refine pm (oS (h.aj hw lf) hl om id) ?_;rintro v D q ⟨A',m,c',rfl,hi,r⟩;have hw:=kP hw q;refine⟨_,_,_,rfl,pm (bG (b.next hw) (a.aj hw) hi r (i.filter _)) ?_⟩;rintro v E G rfl;exact⟨_,_,_,_,_,_,rfl,fun H _=>rfl⟩
theorem Qh(e:cT w)(g:dF w A0 n0 A1 n1 ps hs)(h:cK w A 3 (l.map Sw.row))(hl:l.length=n)(b:pk ps hs l){q0 q1:Addr}(L:∀w',Below w.heap.size w w'->ae w' q0 [.slice A0 n0 c0,.slice A1 n1 c1])(M:∀w',Below w.heap.size w w'->ae w' q1 [.slice A n c]){x:Ho}(hx:x∈hs):
  Pure Tryz.prog 102 #[x.val,.pointer (some q0),.pointer (some q1)] w fun v _=>v= .bool (nX ps hs l x):=by
 have hn:=b.n;have d:=b.c.vh x hx;unfold vH at d;simp only[eb]at d;have H:=g.sh x hx;have N:jy (qR x.il):=H.il.sQ d.1.1.1.2;have O:jy (qR x.room):=H.room.sQ d.1.1.1.1;have em:x.il=rS (qR x.il):=nV d.1.1.1.2;have P:x.room=rS (qR x.room):=nV d.1.1.1.1;obtain⟨⟨b1,Q,V⟩,W,X,Y⟩:=(b.filter fun s=>decide (s.hold=x.id)).Wg g;have cmp:∀w',Below w.heap.size w w'->Pure Tryz.prog 105 #[.string (rS (df (tP ps Pa.eF) (xa l x.id))),.string x.il] w' fun r C=>∃i:Int,r= .int .i64 i/\((i>0->(fun(v:Value) (_:World)=>v= .bool (nX ps hs l x)) (.bool true) C)/\(¬i>0->
   Pure Tryz.prog 105 #[.string (rS (df (tP ps Pa.nJ) (xa l x.id))),.string x.room] C fun r I=>∃i:Int,r= .int .i64 i/\(fun(v:Value) (_:World)=>v= .bool (nX ps hs l x)) (.bool (decide (i>0))) I)):=by
  intro w' hw;have c1:=gm (e.next hw) b1 N;rw[<-em]at c1;refine pm c1 ?_;rintro v C h2 rfl;have hw:=kP hw h2;refine⟨_,rfl,fun k=> ?_,fun k=> ?_⟩
  ·have:=gT.1 k;show Value.bool true=_;unfold nX;rw[show(decide (qR x.il<df (tP ps Pa.eF) (xa l x.id)))=true from fc this];rfl
  ·have c2:=gm (e.next hw) Q O;rw[<-P]at c2;refine pm c2 ?_;rintro v I h3 rfl;refine⟨_,rfl,?_⟩;show Value.bool _=_;unfold nX;rw[show(decide (qR x.il<df (tP ps Pa.eF) (xa l x.id)))=false from eh fun h=>k (gT.2 h),vx];refine dB Value.bool ?_;rw[jB];exact gT
 refine F.jH.vc fun w1 R=> ?_
 have z:=k0 R;refine⟨_,_,_,_,_,_,L w1 z,_,_,_,M w1 z,fun Z S=> ?_,fun T D=> ?_⟩
 ·have j:=kE z S;refine pm (oS (h.aj j lf) hl om x.id) ?_;rintro v U E ⟨A',m,c',rfl,hi,B⟩;have a:=kP j E;refine⟨_,_,_,rfl,pm (bG (e.next a) (g.aj a) hi B (b.filter _)) ?_,fun EH J=> ?_⟩
  ·rintro v K o rfl;exact⟨_,_,_,_,_,_,rfl,fun q y=>cmp q (kE (kP a o) y)⟩
  ·have G:=kE a J;refine pm (bG (e.next G) (g.aj G) (hi.eA J) B (b.filter _)) ?_;rintro v K o rfl;exact⟨_,_,_,_,_,_,rfl,fun q y=>cmp q (kE (kP G o) y)⟩
 ·have j:=kE z D;refine pm (oS (h.aj j lf) hl om x.id) ?_;rintro v U E ⟨A',m,c',rfl,hi,B⟩;have a:=kP j E;refine⟨_,_,_,rfl,pm (bG (e.next a) (g.aj a) hi B (b.filter _)) ?_⟩;rintro v K o rfl;exact⟨_,_,_,_,_,_,rfl,fun q y=>cmp q (kE (kP a o) y)⟩
theorem gI(b:cT w)(a:dF w A0 n0 A1 n1 ps hs)(h:cK w A 3 (l.map Sw.row))(hl:l.length=n)(d:n<=c)(hn:n<=40):
  Pure Tryz.prog 71 #[.agg #[.slice A0 n0 c0,.slice A1 n1 c1],.slice A n c] w fun v _=>v=CE ps hs l:=by
 have r:=a.nh;refine F.gI.vc fun w1 e=> ?_
 have hw:=k0 e;refine pm (cS (b.next hw) (a.aj hw) (h.aj hw lf) hl d om) ?_;rintro v y g rfl;have hw:=kP hw g;unfold CE;refine⟨_,rfl,fun h0=>by rw[cc h0],fun h0 z i j B k m=> ?_⟩;rw[ar h0];have o:=(dt (ep.1 h0)).ld om;refine pm (yM (p:=nX ps hs l) ((a.aj hw).h) a.lh om kF fun w' hb x hx=> ?_) ?_
 ·exact Qh (b.next (kP hw hb)) (a.aj (kP hw hb)) (h.aj (kP hw hb) lf) hl o (fun q h2=>lV (bK (bK m hb) h2)) (fun q h2=>lV (bK (bK j hb) h2)) hx
 ·rintro v C D rfl;exact⟨_,rfl,rfl⟩
end
end Go.Proofs.YtgfkeadgjkfomaaGreatDoor.B

open Go.Proofs.YtgfkeadgjkfomaaGreatDoor

namespace Go.Proofs.YtgfkeadgjkfomaaGreatDoor.B
open Go Go.RowKit Go.Proofs Go.Proofs.YtgfkeadgjkfomaaGreatDoor.Vc

theorem CF(s:ByteArray)(w:World):Pure Tryz.prog 147 #[.string s] w fun v w'=>v= .bool (decide (1<=s.size/\s.size<=64)):=by
 refine F.jI.vc ⟨fun h=> ?_,fun h=> ?_⟩
 ·refine dB Value.bool ?_;rw[jB];omega
 ·exact dB Value.bool (eh om).symm
theorem Gd(n:Int)(w:World):Pure Tryz.prog 144 #[.int .i64 n] w fun v w'=>v= .bool (decide (1<=n/\n<=1073741824)):=by
 refine F.kM.vc ⟨fun h=> ?_,fun h=> ?_⟩
 ·refine dB Value.bool ?_;rw[jB];omega
 ·exact dB Value.bool (eh om).symm
theorem Ir(a b:Sw)(w:World):Pure Tryz.prog 109 #[a.val,b.val] w fun v w'=>v= .bool (decide (mN a b)):=by
 refine F.jf.vc ⟨fun h c _=> ?_,fun h=>⟨fun h2 c _=> ?_,fun h2 c _=> ?_⟩⟩
 ·exact dB Value.bool (fc (.inl h)).symm
 ·refine dB Value.bool ?_;rw[jB];unfold mN;omega
 ·refine dB Value.bool (eh ?_).symm;unfold mN;omega
theorem sX{s:ByteArray}(hs:rW s)(h:vR s=true){w:World}{K:Value->World->Prop}(a:∀w',Below w.heap.size w w'->K (.int .i64 (fm (qR s) 0)) w'):
  Pure Tryz.prog 146 #[.string s] w fun r w1=>∃(b:Bool)(A:Option Addr)(n c:Nat)(A':Option Addr)(n' c':Nat),r= .agg #[.bool b,.slice A n c,.slice A' n' c']/\Pure Tryz.prog 145 #[.agg #[.bool b,.slice A n c,.slice A' n' c']] w1 K:=by
 refine pm (eM hs h w) ?_;rintro v i d ⟨b,A,n,c,A',n',c',rfl,k⟩;refine⟨_,_,_,_,_,_,_,rfl,pm (tL k) ?_⟩;rintro v e g rfl;exact a e (kP d g)

theorem yu{w0:World}{A0 A1:Option Addr}{n0 c0 n1 c1:Nat}{ps:List Pa}{hs:List Ho}(b:dF w0 A0 n0 A1 n1 ps hs)(id:Int){R:Value->World->Prop}{r:Int}(c:∀w,R (.int .i64 r) w):
  ∀(d i:Nat)(w:World),n0 - i=d->i<=n0->Below w0.heap.size w0 w->r=js (fun p=>decide (p.id=id)) i (ps.drop i)->F.cy.L2 id i A0 n0 c0 A1 n1 c1 w0.heap.size w R:=by
 have m:=b.np;have n:=b.nh;have o:=b.lp;have q:=b.lh;intro d;induction d with
 |zero=>
  intro i w g hi hw a;rw[dp om]at a;subst a;exact F.cy.L2.step ⟨fun h=>by omega,fun _=>c w⟩
 |succ d ih=>
  intro i w g hi hw a;have e:i<ps.length:=om;have j:=sc i;rw[ec e,js]at a;obtain⟨hb,k,l,_,hf⟩:=(b.p.aj hw lf).at_ (fun _=>rfl) b.lp e;refine F.cy.L2.step ⟨fun _=>⟨hb,k,l,_,hf 0 _ rfl,fun h=> ?_,fun h=>⟨ir,?_⟩⟩,fun h=>by omega⟩
  ·rw[cc (fc h)]at a;subst a;exact c w
  ·rw[ar (by simpa using h)]at a;rw[j];exact ih (i+1) w om om hw a
theorem kX{w:World}{A0 A1:Option Addr}{n0 c0 n1 c1:Nat}{ps:List Pa}{hs:List Ho}(a:dF w A0 n0 A1 n1 ps hs)(id:Int):
  Pure Tryz.prog 83 #[.agg #[.slice A0 n0 c0,.slice A1 n1 c1],.int .i64 id] w fun v _=>v= .int .i64 (nK (nW ps id)):=
 F.cy.vc fun w1 b=>yu a id (fun _=>rfl) n0 0 w1 rfl om (k0 b) (by
  have:=oB (fun p=>decide (p.id=id)) ps 0;rw[uQ,this];unfold nW;cases ps.findIdx? _ with
  |none=>rfl
  |some i=>simp only[nK,oi])

theorem B3{w0:World}{A0 A1:Option Addr}{n0 c0 n1 c1:Nat}{ps:List Pa}{hs:List Ho}(b:dF w0 A0 n0 A1 n1 ps hs)(id:Int){R:Value->World->Prop}{r:Int}(c:∀w,R (.int .i64 r) w):
  ∀(d i:Nat)(w:World),n1 - i=d->i<=n1->Below w0.heap.size w0 w->r=js (fun p=>decide (p.id=id)) i (hs.drop i)->F.cL.L2 id i A0 n0 c0 A1 n1 c1 w0.heap.size w R:=by
 have m:=b.np;have n:=b.nh;have o:=b.lp;have q:=b.lh;intro d;induction d with
 |zero=>
  intro i w g hi hw a;rw[dp om]at a;subst a;exact F.cL.L2.step ⟨fun h=>by omega,fun _=>c w⟩
 |succ d ih=>
  intro i w g hi hw a;have e:i<hs.length:=om;have j:=sc i;rw[ec e,js]at a;obtain⟨hb,k,l,_,hf⟩:=(b.h.aj hw lf).at_ (fun _=>rfl) b.lh e;refine F.cL.L2.step ⟨fun _=>⟨hb,k,l,_,hf 0 _ rfl,fun h=> ?_,fun h=>⟨ir,?_⟩⟩,fun h=>by omega⟩
  ·rw[cc (fc h)]at a;subst a;exact c w
  ·rw[ar (by simpa using h)]at a;rw[j];exact ih (i+1) w om om hw a
theorem qG{w:World}{A0 A1:Option Addr}{n0 c0 n1 c1:Nat}{ps:List Pa}{hs:List Ho}(a:dF w A0 n0 A1 n1 ps hs)(id:Int):
  Pure Tryz.prog 82 #[.agg #[.slice A0 n0 c0,.slice A1 n1 c1],.int .i64 id] w fun v _=>v= .int .i64 (nK (pc hs id)):=
 F.cL.vc fun w1 b=>B3 a id (fun _=>rfl) n1 0 w1 rfl om (k0 b) (by
  have:=oB (fun p=>decide (p.id=id)) hs 0;rw[uQ,this];unfold pc;cases hs.findIdx? _ with
  |none=>rfl
  |some i=>simp only[nK,oi])

theorem AH{w0:World}{A0 A1:Option Addr}{n0 c0 n1 c1:Nat}{ps:List Pa}{hs:List Ho}(a:dF w0 A0 n0 A1 n1 ps hs){R:Value->World->Prop}(g:∀w,R (.bool (ps.all vP&&hs.all vH)) w)(hp:ps.all vP=true):
  ∀(d i:Nat)(w:World),n1 - i=d->i<=n1->Below w0.heap.size w0 w->(∀x∈hs.take i,vH x=true)->F.aV.L8 i A0 n0 c0 A1 n1 c1 w0.heap.size w R:=by
 have L:=a.np;have M:=a.nh;have N:=a.lp;have O:=a.lh;intro d;induction d with
 |zero=>
  intro i w j hi hw hx;rw[bx om]at hx;refine F.aV.L8.step ⟨fun h=>by omega,fun _=> ?_⟩;have:=g w;rwa [hp,show hs.all vH=true from gu.2 hx]at this
 |succ d ih=>
  intro i w j hi hw hx;have e:i<hs.length:=om;have k:=sc i;obtain⟨hb,l,m,b,_⟩:=(a.h.aj hw lf).at_ (fun _=>rfl) a.lh e;have c:=a.sh _ (cd e);have bad:vH hs[i]=false->∀w,R (.bool false) w:=fun h w=>by
   have:=g w;rwa [all_false (p:=vH) (cd e) h,AG]at this
  refine F.aV.L8.step ⟨fun _=>⟨hb,l,m,_,_,_,_,_,_,_,b,fun w1 n=> ?_⟩,fun h=>by omega⟩;have o:=kE hw n;refine pm (fI _ c.room _) ?_;rintro v P q rfl;have r:=kP o q;refine⟨_,rfl,fun h=>bad (by unfold vH;simp[h]) _,fun h1=> ?_⟩;have v1:vR hs[i].room=true:=by simpa using h1
  refine pm (fI _ c.il _) ?_;rintro v Q A rfl;have B:=kP r A;refine⟨_,rfl,fun h=>bad (by unfold vH;simp[h]) _,fun h2=> ?_⟩;have v2:vR hs[i].il=true:=by simpa using h2
  refine pm (fI _ c.x _) ?_;rintro v S C rfl;have D:=kP B C;refine⟨_,rfl,fun h=>bad (by unfold vH;simp[h]) _,fun h3=> ?_⟩;have v3:vR hs[i].x=true:=by simpa using h3
  refine pm (fI _ c.y _) ?_;rintro v T E rfl;have G:=kP D E;refine⟨_,rfl,fun h=>bad (by unfold vH;simp[h]) _,fun h4=> ?_⟩;have v4:vR hs[i].y=true:=by simpa using h4
  refine pm (fI _ c.z _) ?_;rintro v H I rfl;have J:=kP G I;refine⟨_,rfl,fun h=>bad (by unfold vH;simp[h]) _,fun K=> ?_⟩;have v5:vR hs[i].z=true:=by simpa using K
  refine⟨ir,?_⟩;rw[k];refine ih (i+1) H om om J (wK e hx ?_);unfold vH;simp[v1,v2,v3,v4,v5]

theorem AI{w0:World}{A0 A1:Option Addr}{n0 c0 n1 c1:Nat}{ps:List Pa}{hs:List Ho}(a:dF w0 A0 n0 A1 n1 ps hs){R:Value->World->Prop}(g:∀w,R (.bool (ps.all vP&&hs.all vH)) w):
  ∀(d i:Nat)(w:World),n0 - i=d->i<=n0->Below w0.heap.size w0 w->(∀x∈ps.take i,vP x=true)->F.aV.L2 i A0 n0 c0 A1 n1 c1 w0.heap.size w R:=by
 have D:=a.np;have E:=a.nh;have G:=a.lp;have H:=a.lh;intro d;induction d with
 |zero=>
  intro i w j hi hw hx;rw[bx om]at hx;refine F.aV.L2.step ⟨fun h=>by omega,fun _=> ?_⟩;exact AH a g (gu.2 hx) n1 0 w rfl om hw sm
 |succ d ih=>
  intro i w j hi hw hx;have c:i<ps.length:=om;have k:=sc i;obtain⟨hb,l,m,b,_⟩:=(a.p.aj hw lf).at_ (fun _=>rfl) a.lp c;have e:=a.sp _ (cd c);have bad:vP ps[i]=false->∀w,R (.bool false) w:=fun h w=>by
   have:=g w;rwa [all_false (p:=vP) (cd c) h,nZ]at this
  refine F.aV.L2.step ⟨fun _=>⟨hb,l,m,_,_,_,_,_,_,_,b,fun w1 n=> ?_⟩,fun h=>by omega⟩;have o:=kE hw n;refine pm (fI _ e.eF _) ?_;rintro v I q rfl;have r:=kP o q;refine⟨_,rfl,fun h=>bad (by unfold vP;simp[h]) _,fun h1=> ?_⟩;have v1:vR ps[i].eF=true:=by simpa using h1
  refine pm (fI _ e.nJ _) ?_;rintro v J y rfl;have z:=kP r y;refine⟨_,rfl,fun h=>bad (by unfold vP;simp[h]) _,fun h2=> ?_⟩;have v2:vR ps[i].nJ=true:=by simpa using h2
  refine pm (fI _ e.dP _) ?_;rintro v A B rfl;have C:=kP z B;refine⟨_,rfl,fun h=>bad (by unfold vP;simp[h]) _,fun h3=> ?_⟩;have v3:vR ps[i].dP=true:=by simpa using h3
  refine⟨ir,?_⟩;rw[k];refine ih (i+1) A om om C (wK c hx ?_);unfold vP;simp[v1,v2,v3]

theorem Ge{w:World}{A0 A1:Option Addr}{n0 c0 n1 c1:Nat}{ps:List Pa}{hs:List Ho}(a:dF w A0 n0 A1 n1 ps hs):
  Pure Tryz.prog 143 #[.agg #[.slice A0 n0 c0,.slice A1 n1 c1]] w fun v _=>v= .bool (ps.all vP&&hs.all vH):=
 F.aV.vc fun w1 b=>AI a (fun _=>rfl) n0 0 w1 rfl om (k0 b) sm

theorem B4{w0:World}{A0 A1:Option Addr}{n0 c0 n1 c1:Nat}{ps:List Pa}{hs:List Ho}(a:dF w0 A0 n0 A1 n1 ps hs){R:Value->World->Prop}{r:Int}(o:∀w,Below w0.heap.size w0 w->R (.int .i64 r) w)(C:∀h∈hs,vH h=true):
  ∀(d i:Nat)(w:World),n1 - i=d->i<=n1->Below w0.heap.size w0 w->r=iC gW (fK hs i) (hs.drop i)->F.aQ.vT i A0 n0 c0 A1 n1 c1 w0.heap.size w R:=by
 have T:=a.np;have U:=a.nh;have V:=a.lp;have W:=a.lh;intro d;induction d with
 |zero=>
  intro i w D hi hw b;have:i=n1:=om;subst this;refine F.aQ.vT.step ⟨fun h=>by omega,fun _=> ?_⟩;rw[dp om]at b;subst b;exact o w hw
 |succ d ih=>
  intro i w D hi hw b;have g:i<hs.length:=om;obtain⟨hb,E,G,c,_⟩:=(a.h.aj hw lf).at_ (fun _=>rfl) a.lh g;have H:=sc i;refine F.aQ.vT.step ⟨fun _=>⟨hb,E,G,_,_,_,_,_,_,_,c,fun w1 I=> ?_⟩,fun h=>by omega⟩;have J:=kE hw I;have x:=a.sh _ (cd g);have vh:=C _ (cd g);unfold vH at vh;simp only[eb]at vh;obtain⟨⟨⟨⟨v1,v2⟩,_⟩,_⟩,_⟩:=vh;rw[ec g,iC]at b;have bad:∀(e:Int)(w:World),Below w0.heap.size w0 w->e≠0->gW (fK hs i) hs[i]=e->R (.int .i64 e) w:=fun e w hw h0 he=>by
   rw[he,cc h0]at b;have:=o w hw;rwa [b]at this
  have f2:¬((1<=hs[i].id/\hs[i].id<=1073741824)/\¬qR hs[i].room<0/\¬qR hs[i].il<0)->gW (fK hs i) hs[i]=2:=fun h=>by unfold gW;rw[cc h]
  refine pm (Gd _ _) ?_;rintro v X K rfl;have y:=kP J K;refine⟨_,rfl,fun h=>bad 2 _ y om (f2 fun k=>zW h k.1),fun h=> ?_⟩;have q1:=zX h;refine sX x.room v1 fun Y L=> ?_
  have z:=kP y L;refine⟨_,rfl,fun h=>bad 2 _ z om (f2 fun k=>k.2.1 (gS.1 h)),fun h=> ?_⟩;have q2:¬qR hs[i].room<0:=fun k=>h (gS.2 k)
  refine sX x.il v2 fun Z M=> ?_
  have A:=kP z M;refine⟨_,rfl,fun h=>bad 2 _ A om (f2 fun k=>k.2.2 (gS.1 h)),fun h=> ?_⟩;have q3:¬qR hs[i].il<0:=fun k=>h (gS.2 k)
  have all:(1<=hs[i].id/\hs[i].id<=1073741824)/\¬qR hs[i].room<0/\¬qR hs[i].il<0:=⟨q1,q2,q3⟩;refine pm (CF _ _) ?_;rintro v w8 N rfl;have j:=kP A N;refine⟨_,rfl,fun h=>bad 4 _ j om (by unfold gW;rw[ar (fun k=>k all),cc (zW h)]),fun h=> ?_⟩;have O:=zX h;have rest:gW (fK hs i) hs[i]=if ∃q,fK hs i=some q/\hs[i].id<=q.id then 5 else 0:=by
   unfold gW;rw[ar (fun k=>k all),ar (fun k=>k O)]
  have go:(¬∃q,fK hs i=some q/\hs[i].id<=q.id)->∀w,Below w0.heap.size w0 w->F.aQ.vT ((i:Int)+1) A0 n0 c0 A1 n1 c1 w0.heap.size w R:=fun h w hw=>by
   rw[ar h]at rest;rw[H];refine ih (i+1) w om om hw ?_;simp only[rest,RS,I1,tm]at b;rw[rn g];exact b
  refine⟨fun h=>⟨ir,?_⟩,fun h=>⟨ir,fun B l=>go ?_ _ (kE j l)⟩⟩
  ·obtain⟨n,a2,P,_,Q⟩:=(a.h.aj j lf).at_ (fun _=>rfl) a.lh (i:=i - 1) om;have S:(i:Int) - 1=((i - 1:Nat):Int):=om;have hp:=tF g om;rw[S];refine⟨n,a2,P,_,Q 0 _ rfl,fun h=>fun B l=>bad 5 _ (kE j l) om ?_,fun h=>⟨ir,fun B l=>go ?_ _ (kE j l)⟩⟩
   ·rw[rest,cc ⟨_,hp,h⟩]
   ·rintro⟨q,m,hle⟩;rw[hp]at m;cases m;exact h hle
  ·rintro⟨q,m,_⟩;have:i=0:=om;subst this;cases m

theorem Ek{w0:World}{A0 A1:Option Addr}{n0 c0 n1 c1:Nat}{ps:List Pa}{hs:List Ho}(a:dF w0 A0 n0 A1 n1 ps hs){R:Value->World->Prop}{r:Int}(y:∀w,Below w0.heap.size w0 w->R (.int .i64 r) w)(D:∀p∈ps,vP p=true)(E:∀h∈hs,vH h=true):
  ∀(d i:Nat)(w:World),n0 - i=d->i<=n0->Below w0.heap.size w0 w->r=(if iC gF (fK ps i) (ps.drop i)≠0 then iC gF (fK ps i) (ps.drop i)else iC gW none hs)->F.aQ.L6 i A0 n0 c0 A1 n1 c1 w0.heap.size w R:=by
 have Y:=a.np;have Z:=a.nh;have pB:=a.lp;have iM:=a.lh;intro d;induction d with
 |zero=>
  intro i w G hi hw b;have:i=n0:=om;subst this;refine F.aQ.L6.step ⟨fun h=>by omega,fun _=> ?_⟩;rw[dp om]at b;refine B4 a y E n1 0 w rfl om hw ?_;rw[b];rfl
 |succ d ih=>
  intro i w G hi hw b;have g:i<ps.length:=om;obtain⟨hb,H,I,c,_⟩:=(a.p.aj hw lf).at_ (fun _=>rfl) a.lp g;have J:=sc i;refine F.aQ.L6.step ⟨fun _=>⟨hb,H,I,_,_,_,_,_,_,_,c,fun w1 K=> ?_⟩,fun h=>by omega⟩;have L:=kE hw K;have o:=a.sp _ (cd g);have vp:=D _ (cd g);unfold vP at vp;simp only[eb]at vp;obtain⟨⟨v1,v2⟩,v3⟩:=vp;rw[ec g,iC]at b;have bad:∀(e:Int)(w:World),Below w0.heap.size w0 w->e≠0->gF (fK ps i) ps[i]=e->R (.int .i64 e) w:=fun e w hw h0 he=>by
   rw[he,cc h0,cc h0]at b;have:=y w hw;rwa [b]at this
  have f2:¬((1<=ps[i].id/\ps[i].id<=1073741824)/\(1<=ps[i].aO/\ps[i].aO<=9)/\(1<=ps[i].cls/\ps[i].cls<=9)/\0<qR ps[i].eF/\0<qR ps[i].nJ/\¬qR ps[i].dP<0)->gF (fK ps i) ps[i]=2:=fun h=>by unfold gF;rw[cc h]
  refine pm (Gd _ _) ?_;rintro v w2 M rfl;have j:=kP L M;refine⟨_,rfl,fun h=>bad 2 _ j om (f2 fun k=>zW h k.1),fun h=> ?_⟩;have q1:=zX h;refine⟨fun h=>bad 2 _ j om (f2 fun k=>by have:=k.2.1;omega),fun h2=>⟨fun h=>bad 2 _ j om (f2 fun k=>by have:=k.2.1;omega),fun h3=>⟨fun h=>bad 2 _ j om (f2 fun k=>by have:=k.2.2.1;omega),fun h4=>⟨fun h=>bad 2 _ j om (f2 fun k=>by have:=k.2.2.1;omega),fun h5=> ?_⟩⟩⟩⟩;have q2:1<=ps[i].aO/\ps[i].aO<=9:=om;have q3:1<=ps[i].cls/\ps[i].cls<=9:=om;refine sX o.eF v1 fun w5 N=> ?_
  have z:=kP j N;refine⟨_,rfl,fun h=>bad 2 _ z om (f2 fun k=>by have:=gT.2 k.2.2.2.1;omega),fun h=> ?_⟩;have q4:0<qR ps[i].eF:=gT.1 om;refine sX o.nJ v2 fun w6 O=> ?_
  have A:=kP z O;refine⟨_,rfl,fun h=>bad 2 _ A om (f2 fun k=>by have:=gT.2 k.2.2.2.2.1;omega),fun h=> ?_⟩;have P:0<qR ps[i].nJ:=gT.1 om;refine sX o.dP v3 fun w7 Q=> ?_
  have B:=kP A Q;refine⟨_,rfl,fun h=>bad 2 _ B om (f2 fun k=>k.2.2.2.2.2 (gS.1 h)),fun h=> ?_⟩;have S:¬qR ps[i].dP<0:=fun k=>h (gS.2 k)
  have all:(1<=ps[i].id/\ps[i].id<=1073741824)/\(1<=ps[i].aO/\ps[i].aO<=9)/\(1<=ps[i].cls/\ps[i].cls<=9)/\0<qR ps[i].eF/\0<qR ps[i].nJ/\¬qR ps[i].dP<0:=⟨q1,q2,q3,q4,P,S⟩;refine pm (CF _ _) ?_;rintro v w8 T rfl;have l:=kP B T;refine⟨_,rfl,fun h=>bad 4 _ l om (by unfold gF;rw[ar (fun k=>k all),cc (zW h)]),fun h=> ?_⟩;have U:=zX h;have rest:gF (fK ps i) ps[i]=if ∃q,fK ps i=some q/\ps[i].id<=q.id then 5 else 0:=by
   unfold gF;rw[ar (fun k=>k all),ar (fun k=>k U)]
  have go:(¬∃q,fK ps i=some q/\ps[i].id<=q.id)->∀w,Below w0.heap.size w0 w->F.aQ.L6 ((i:Int)+1) A0 n0 c0 A1 n1 c1 w0.heap.size w R:=fun h w hw=>by
   rw[ar h]at rest;rw[J];refine ih (i+1) w om om hw ?_;simp only[rest,RS,I1,tm]at b;rw[rn g];exact b
  refine⟨fun h=>⟨ir,?_⟩,fun h=>⟨ir,fun C m=>go ?_ _ (kE l m)⟩⟩
  ·obtain⟨x,a2,V,_,W⟩:=(a.p.aj l lf).at_ (fun _=>rfl) a.lp (i:=i - 1) om;have X:(i:Int) - 1=((i - 1:Nat):Int):=om;have hp:=tF g om;rw[X];refine⟨x,a2,V,_,W 0 _ rfl,fun h=>fun C m=>bad 5 _ (kE l m) om ?_,fun h=>⟨ir,fun C m=>go ?_ _ (kE l m)⟩⟩
   ·rw[rest,cc ⟨_,hp,h⟩]
   ·rintro⟨q,n,hle⟩;rw[hp]at n;cases n;exact h hle
  ·rintro⟨q,n,_⟩;have:i=0:=om;subst this;cases n

theorem xy{w:World}{A0 A1:Option Addr}{n0 c0 n1 c1:Nat}{ps:List Pa}{hs:List Ho}(a:dF w A0 n0 A1 n1 ps hs):
  Pure Tryz.prog 108 #[.agg #[.slice A0 n0 c0,.slice A1 n1 c1]] w fun v _=>v= .int .i64 (eI ps hs):=by
 have i:=a.lp;have j:=a.lh;refine F.aQ.vc fun w1 c=> ?_
 have b:=k0 c;refine pm (Ge (a.aj b)) ?_;rintro v d e rfl;have g:=kP b e;refine⟨_,rfl,fun h=> ?_,fun h=> ?_⟩
 ·unfold eI;rw[cc];intro k;rw[k.1,k.2]at h;cases h
 have hv:ps.all vP=true/\hs.all vH=true:=by simpa[eb]using h
 refine⟨fun h1=> ?_,fun h1=>⟨fun h2=> ?_,fun h2=> ?_⟩⟩
 ·unfold eI;rw[ar (fun k=>k hv),cc (.inl om)]
 ·unfold eI;rw[ar (fun k=>k hv),cc (.inr om)]
 ·refine Ek a (fun _ _=>rfl) (gu.1 hv.1) (gu.1 hv.2) n0 0 d rfl om g ?_;unfold eI;rw[ar (fun k=>k hv),ar om];rfl

theorem AJ{w0:World}{A0 A1 A:Option Addr}{n0 c0 n1 c1 n c:Nat}{l:List Sw}(h:cK w0 A 3 (l.map Sw.row))(hl:l.length=n)(hn:n<2147483648){i:Nat}(r:i<l.length){P:Int}(N:P<=9)(b:∀s∈l.take (i+1),1<=s.aO)(O:cG (l.take i) l[i].aG<=P){R:Value->World->Prop}
  (D:∀w,P<cG (l.take i++[l[i]]) l[i].aG->R (.int .i64 12) w) (E:∀w,Below w0.heap.size w0 w->cG (l.take i++[l[i]]) l[i].aG<=P->F.aI.L4 A n c ((i:Int)+1) A0 n0 c0 A1 n1 c1 w0.heap.size w R):
  ∀(d j:Nat)(w:World),i+1 - j=d->j<=i+1->Below w0.heap.size w0 w->cG (l.take j) l[i].aG<=P->F.aI.tJ A n c i (P - cG (l.take j) l[i].aG) j A0 n0 c0 A1 n1 c1 w0.heap.size w R:=by
 have x:l.take (i+1)=l.take i++[l[i]]:=by rw[eN,af r];rfl
 intro d;induction d with
 |zero=>
  intro j w G hj hw hu;have:j=i+1:=om;subst this;rw[x]at hu;exact F.aI.tJ.step ⟨fun h=>by omega,fun _=>⟨ir,E w hw hu⟩⟩
 |succ d ih=>
  intro j w G hj hw hu;have m:j<l.length:=om;have y:=sc j;have e:l.take (j+1)=l.take j++[l[j]]:=by rw[eN,af m];rfl
  have hs:=lB (l.take j) l[j] l[i].aG;have Q:1<=l[j].aO:=b _ (by
   rw[List.mem_take_iff_getElem];exact⟨j,om,rfl⟩)
  have H:0<=cG (l.take j) l[i].aG:=gl (fun s hs=>b s (by
   have:l.take j=(l.take (i+1)).take j:=by rw[AD,iv om]
   rw[this]at hs;exact mr hs)) _
  obtain⟨hb,a,g,_,hf⟩:=(h.aj hw lf).at_ (fun _=>rfl) hl m;obtain⟨o,a2,I,_,J⟩:=(h.aj hw lf).at_ (fun _=>rfl) hl r;refine F.aI.tJ.step ⟨fun _=>⟨hb,a,g,_,hf 1 _ rfl,o,a2,I,_,J 1 _ rfl,fun he=>⟨hb,a,g,fun k q=> ?_⟩,fun he=>⟨ir,fun k q=> ?_⟩⟩,fun h=>by omega⟩
  ·have z:=kE hw q;rw[cc he]at hs;obtain⟨_,a3,B,_,C⟩:=(h.aj z lf).at_ (fun _=>rfl) hl m;rw[g]at B;cases B;refine⟨_,C 2 _ rfl,fun K=>D k ?_,fun hle=>⟨hb,a,g,_,C 2 _ rfl,ir,ir,?_⟩⟩
   ·-- L M S
    have hm:=(oC b l[i].aG (j+1)).2;rw[AD,iv om,e,hs,x]at hm;omega
   ·rw[y];have:=ih (j+1) k om om z (by rw[e,hs];omega);rw[e,hs]at this;rw[show P - cG (l.take j) l[i].aG - l[j].aO=P - (cG (l.take j) l[i].aG+l[j].aO) by omega];exact this
  ·rw[ar he,Pl]at hs;rw[y];have:=ih (j+1) k om om (kE hw q) (by rw[e,hs];exact hu);rw[e,hs]at this;exact this
theorem yv{w0:World}{A0 A1 A:Option Addr}{n0 c0 n1 c1 n c:Nat}{ps:List Pa}{hs:List Ho}{l:List Sw}(B:dF w0 A0 n0 A1 n1 ps hs)(h:cK w0 A 3 (l.map Sw.row))(hl:l.length=n)(hn:n<2147483648)(OA:eI ps hs=0){R:Value->World->Prop}(X:∀w,R (.int .i64 (jc ps hs [] l)) w):
  ∀(d i:Nat)(w:World),n - i=d->i<=n->Below w0.heap.size w0 w->jc ps hs [] (l.take i)=0->F.aI.L4 A n c i A0 n0 c0 A1 n1 c1 w0.heap.size w R:=by
 have C:=jt OA;intro d;induction d with
 |zero=>
  intro i w hd hi hw o;have:i=n:=om;subst this;rw[bx om]at o;refine F.aI.L4.step ⟨fun h=>by omega,fun _=> ?_⟩;have:=X w;rwa [o]at this
 |succ d ih=>
  intro i w hd hi hw o;have D:i<l.length:=om;have e3:=sc i;have L:l.take (i+1)=l.take i++[l[i]]:=by rw[eN,af D];rfl
  have Y:jc ps hs [] l=if ko ps hs (l.take i) l[i]≠0 then ko ps hs (l.take i) l[i]else jc ps hs (l.take (i+1)) (l.drop (i+1)):=by
   conv=>lhs;rw[<-ly i l,pD,ar (fun k=>k o),nN,ec D,jc,<-L]
  have M:ek ps hs (l.take i):=by
   have h0:ek ps hs []:=⟨C,sm,sm,List.Pairwise.nil,fun p hp=>by have:=(C.p1 p hp).2.1.1;simp[cG];omega⟩;simpa using sR C (l.take i) [] h0 o
  have bad:∀(e:Int)(w:World),e≠0->ko ps hs (l.take i) l[i]=e->R (.int .i64 e) w:=fun e w h0 he=>by
   rw[he,cc h0]at Y;have:=X w;rwa [Y]at this
  have cell:=fun(w:World) (hw:Below w0.heap.size w0 w)=>(h.aj hw lf).at_ (fun _=>rfl) hl D
  obtain⟨hb,a,E,N,hf⟩:=cell w hw;have r:∀(w:World),Below w0.heap.size w0 w->∀k u,(l[i].row)[k]? =some u->ae w ((a.add ((i:Int).toNat*3)).add k) [u]:=fun w hw=>by
   obtain⟨_,a',Z,_,XP⟩:=cell w hw;rw[E]at Z;cases Z;exact XP
  refine F.aI.L4.step ⟨fun _=>⟨hb,a,E,_,hf 1 _ rfl,fun w1 x1=> ?_⟩,fun h=>by omega⟩;have iT:=kE hw x1;refine pm (kX (B.aj iT) l[i].aG) ?_;rintro v w2 b2 rfl;have O:=kP iT b2;cases hp:nW ps l[i].aG with
  |none=>
   refine⟨_,rfl,fun _=>fun G _=>bad 7 _ om (by unfold ko;rw[hp]),fun h=>absurd (by simp[nK]) h⟩
  |some k=>
  refine⟨_,rfl,fun h=>by simp[nK]at h;omega,fun _=>⟨hb,a,E,_,r w2 O 0 _ rfl,fun w2' x=>pm (qG (B.aj (kE O x)) l[i].hold) ?_⟩⟩;have Q:=kE O x;rintro v G b3 rfl;have b:=kP Q b3;cases hh:pc hs l[i].hold with
  |none=>
   refine⟨_,rfl,fun _=>bad 7 _ om (by unfold ko;rw[hp,hh]),fun h=>absurd (by simp[nK]) h⟩
  |some j=>
  obtain⟨p,y,hid⟩:=gG hp;have uL:k<ps.length:=(ew.1 y).1;have Z0:ps[k]=p:=(ew.1 y).2;have s1:ko ps hs (l.take i) l[i]=if l[i].aO<1 then 2 else if ∃q,(l.take i).getLast? =some q/\¬mN q l[i]then 5 else if p.aO<l[i].aO∨p.aO<cG (l.take i++[l[i]]) l[i].aG then 12 else 0:=by
   unfold ko;rw[hp,hh];simp only[y]
  refine⟨_,rfl,fun h=>by simp[nK]at h;omega,fun _=>⟨hb,a,E,_,r G b 2 _ rfl,fun h=>bad 2 _ om (by rw[s1,cc h]),fun hu=> ?_⟩⟩;rw[ar hu]at s1;have VM:=(C.p1 p (hJ y)).2.1.2;have MN:=M.full p (hJ y);rw[hid]at MN;have hnn:=gl M.pos l[i].aG;have S:=lB (l.take i) l[i] l[i].aG;rw[cc rfl]at S;have rest:(¬∃q,(l.take i).getLast? =some q/\¬mN q l[i])->∀w,Below w0.heap.size w0 w->F.aI.tJ A n c i p.aO ((0:Nat):Int) A0 n0 c0 A1 n1 c1 w0.heap.size w R:=by
   intro ho w hw;rw[ar ho]at s1;have key:=AJ (A0:=A0) (n0:=n0) (c0:=c0) (A1:=A1) (n1:=n1) (c1:=c1) (c:=c) h hl hn D (P:=p.aO) om (fun s hs=>by
    rw[L]at hs;rcases h8.1 hs with hs|hs
    ·exact M.pos s hs
    ·rw[gb]at hs;subst hs;omega) MN (R:=R) (fun w T=>bad 12 _ om (by rw[s1,cc (.inr T)])) (fun w hw hle=> ?_) (i+1) 0 w rfl om hw (by simp[cG];omega)
   ·have e0:cG (l.take 0) l[i].aG=0:=rfl;rw[e0,Int.sub_zero]at key;exact key
   ·rw[e3];refine ih (i+1) w om om hw ?_;have h0:ko ps hs (l.take i) l[i]=0:=by
     rw[s1,ar];rintro(k|k)<;>omega
    rw[L,pD,ar (fun k=>k o),nN,jc,h0];rfl
  have g:∀w,Below w0.heap.size w0 w->((0<=nK (some k)/\nK (some k)<n0)/\∃a24,A0=some a24/\ae w ((a24.add ((nK (some k)).toNat*7)).add 1) [(.int .i64 p.aO)]):=fun w hw=>by
   obtain⟨m,a2,U,_,EE⟩:=(B.p.aj hw lf).at_ (fun _=>rfl) B.lp uL;have:=EE 1 _ rfl;rw[Z0]at this;exact⟨m,a2,U,this⟩
  refine⟨fun V=>⟨ir,?_⟩,fun V=> ?_⟩
  ·obtain⟨m,a2,U,rq,_⟩:=(h.aj b lf).at_ (fun _=>rfl) hl (i:=i - 1) om;have e1:(i:Int) - 1=((i - 1:Nat):Int):=om;have uk:(l.take i).getLast? =some l[i - 1]:=by
    rw[yn,fs,iv om,rP,cc om,af om]
   obtain⟨_,a3,GV,vn,_⟩:=cell G b;rw[e1];refine⟨m,a2,U,_,_,_,rq,hb,a3,GV,_,_,_,vn,fun H I=>pm (Ir l[i - 1] l[i] H) ?_⟩;have pS:=kE b I;rintro v w5 b5 rfl;have lA:=kP pS b5;obtain⟨g1,W,J,g2⟩:=g w5 lA;refine⟨_,rfl,fun h=>bad 5 _ om (by rw[s1,cc ⟨_,uk,zW h⟩]),fun h=>⟨g1,W,J,_,g2,rest ?_ w5 lA⟩⟩;rintro⟨q,K,Q4⟩;rw[uk]at K;cases K;exact Q4 (zX h)
  ·obtain⟨g1,W,J,g2⟩:=g G b;refine⟨g1,W,J,fun H I=> ?_⟩;obtain⟨_,a7,z,g3⟩:=g H (kE b I);rw[J]at z;cases z;refine⟨_,g3,rest ?_ H (kE b I)⟩;rintro⟨q,K,_⟩;have:i=0:=om;subst this;simp at K
theorem ry{w:World}{A0 A1 A:Option Addr}{n0 c0 n1 c1 n c:Nat}{ps:List Pa}{hs:List Ho}{l:List Sw}(a:dF w A0 n0 A1 n1 ps hs)(h:cK w A 3 (l.map Sw.row))(hl:l.length=n)(hn:n<2147483648):
  Pure Tryz.prog 75 #[.agg #[.slice A0 n0 c0,.slice A1 n1 c1],.slice A n c] w fun v _=>v= .int .i64 (cZ ps hs l):=by
 refine F.aI.vc fun w1 d=> ?_
 have b:=k0 d;refine pm (xy (a.aj b)) ?_;rintro v e g rfl;have i:=kP b g;refine⟨_,rfl,fun h=> ?_,fun h0=> ?_⟩
 ·unfold cZ;rw[cc h]
 ·have j:=ep.1 h0;exact yv a h hl hn j (fun _=>by unfold cZ;rw[ar h0]) n 0 e rfl om i rfl

structure QT where
 b:Bool
 A:Option Addr
 n:Nat
 c:Nat
 A':Option Addr
 n':Nat
 c':Nat
 r:Rat
def QT.is(x:QT)(w:World):Prop:=qE w x.b x.A x.n x.c x.A' x.n' x.c' x.r
def Qs(w:World)(L:List QT):Prop:=∀x∈L,x.is w
theorem Qs.below{w w':World}{L:List QT}(h:Qs w L)(hb:Below w.heap.size w w'):Qs w' L:=fun x hx=>qE.below (h x hx) hb
theorem Qs.ext{w w':World}{B:Nat}{ts:List Nat}{L:List QT}(h:Qs w L)(e:Ext B ts w w')(a:217∉ts):Qs w' L:=fun x hx=>qE.ext (h x hx) e a
theorem Qs.add{w:World}{L:List QT}(h:Qs w L){x:QT}(k:x.is w):Qs w (x::L):=fun y hy=>by
 rcases fi.1 hy with rfl|hy
 ·exact k
 ·exact h y hy
theorem Qs.nil{w:World}:Qs w []:=fun x hx=>by cases hx
theorem QR.qt{r:Rat}{v:Value}{w:World}(h:QR r v w):∃x:QT,x.r=r/\v= .agg #[.bool x.b,.slice x.A x.n x.c,.slice x.A' x.n' x.c']/\x.is w:=by
 obtain⟨b,A,n,c,A',n',c',rfl,k⟩:=h;exact⟨⟨b,A,n,c,A',n',c',r⟩,rfl,rfl,k⟩
theorem CG{w:World}{x y:QT}(hx:x.is w)(hy:y.is w)(sx:jy x.r)(sy:jy y.r):Pure Tryz.prog 190 #[.agg #[.bool x.b,.slice x.A x.n x.c,.slice x.A' x.n' x.c'],.agg #[.bool y.b,.slice y.A y.n y.c,.slice y.A' y.n' y.c']] w (QR (x.r*y.r)):=F9 hx hy sx sy
theorem CH{w:World}{x y:QT}(hx:x.is w)(hy:y.is w)(sx:jy x.r)(sy:jy y.r):Pure Tryz.prog 191 #[.agg #[.bool x.b,.slice x.A x.n x.c,.slice x.A' x.n' x.c'],.agg #[.bool y.b,.slice y.A y.n y.c,.slice y.A' y.n' y.c']] w (QR (x.r+y.r)):=Ap hx hy sx sy
theorem KF{w:World}{x:QT}(hx:x.is w)(sx:jy x.r):Pure Tryz.prog 192 #[.agg #[.bool x.b,.slice x.A x.n x.c,.slice x.A' x.n' x.c']] w fun v _=>v= .string (rS x.r):=P9 hx sx

def jx(id:Int)(l:List Sw):List Sw:=l.filter fun s=>decide (id=0∨s.hold=id)
theorem KG(id:Int)(l:List Sw)(s:Sw):jx id (l++[s])=jx id l++if id=0∨s.hold=id then[s]else[]:=by
 unfold jx;rw[sn];by_cases h:id=0∨s.hold=id
 ·rw[cc h,List.filter_cons_of_pos (by simpa using h)];rfl
 ·rw[ar h,List.filter_cons_of_neg (by simpa using h)];rfl
theorem Jp{id:Int}(h:id≠0)(l:List Sw):jx id l=xa l id:=by
 unfold jx xa;exact Qf fun s _=>by simp[h]

section
variable {w0:World} {A0 A1 A:Option Addr} {n0 c0 n1 c1 n c:Nat} {ps:List Pa} {hs:List Ho} {l:List Sw}

theorem Ti(I:dF w0 A0 n0 A1 n1 ps hs)(h:cK w0 A 3 (l.map Sw.row))(hl:l.length=n)(G:pk ps hs l){id:Int}{t0 t1 t2 t3 t4 t5:ByteArray}{i:Nat}(bL:i<l.length){ip D:Nat}(BV:nW ps l[i].aG=some ip)(Hb:pc hs l[i].hold=some D)(yN:ip<ps.length)(Hc:D<hs.length)
  (J:jx id (l.take (i+1))=jx id (l.take i)++[l[i]]) {K:Value->World->Prop}
  (next:∀(j k m o q B:QT)(w:World),Below w0.heap.size w0 w->Qs w [B,q,o,m,k,j]->j.r=df (tP ps Pa.eF) (jx id (l.take (i+1)))->k.r=df (tP ps Pa.nJ) (jx id (l.take (i+1)))->m.r=df (tP ps Pa.dP) (jx id (l.take (i+1)))->o.r=df (tH ps hs Ho.x) (jx id (l.take (i+1)))->q.r=df (tH ps hs Ho.y) (jx id (l.take (i+1)))->B.r=df (tH ps hs Ho.z) (jx id (l.take (i+1)))->F.ay.L3 A n c id ((i:Int)+1) A0 n0 c0 A1 n1 c1 t0 t1 t2 t3 t4 t5 j.b j.A j.n j.c j.A' j.n' j.c' k.b k.A k.n k.c k.A' k.n' k.c' m.b m.A m.n m.c m.A' m.n' m.c' o.b o.A o.n o.c o.A' o.n' o.c' q.b q.A q.n q.c q.A' q.n' q.c' B.b B.A B.n B.c B.A' B.n' B.c' w0.heap.size w K)
  {j k m o q B:QT} {w:World} (hw:Below w0.heap.size w0 w) (d:Qs w [B,q,o,m,k,j]) (e0:j.r=df (tP ps Pa.eF) (jx id (l.take i))) (e1:k.r=df (tP ps Pa.nJ) (jx id (l.take i))) (e2:m.r=df (tP ps Pa.dP) (jx id (l.take i))) (e3:o.r=df (tH ps hs Ho.x) (jx id (l.take i))) (e4:q.r=df (tH ps hs Ho.y) (jx id (l.take i))) (e5:B.r=df (tH ps hs Ho.z) (jx id (l.take i))):
  F.ay.J7 A n c id i A0 n0 c0 A1 n1 c1 t0 t1 t2 t3 t4 t5 j.b j.A j.n j.c j.A' j.n' j.c' k.b k.A k.n k.c k.A' k.n' k.c' m.b m.A m.n m.c m.A' m.n' m.c' o.b o.A o.n o.c o.A' o.n' o.c' q.b q.A q.n q.c q.A' q.n' q.c' B.b B.A B.n B.c B.A' B.n' B.c' ps[ip].id ps[ip].aO ps[ip].cls ps[ip].name ps[ip].eF ps[ip].nJ ps[ip].dP hs[D].id hs[D].name hs[D].room hs[D].il hs[D].x hs[D].y hs[D].z w0.heap.size w K:=by
 have Wh:=G.n;have ic:l[i]∈l:=cd bL;obtain⟨⟨b0,b1,b2⟩,b3,b4,b5⟩:=((G.take i).filter fun s=>decide (id=0∨s.hold=id)).Wg I;obtain⟨m1,m2,m3⟩:=G.smP I ic;obtain⟨m4,m5,m6⟩:=G.smH I ic;obtain⟨⟨k0,k1,k2⟩,k3,k4,k5⟩:=G.Qe I ic;have hu:=G.u l[i] ic;have Io:jy ((l[i].aO:Int):Rat):=(Td hu.1 hu.2).mono om;have N:=G.c.vp _ (cd yN);have O:=G.c.vh _ (cd Hc);have sp:=I.sp _ (cd yN);have sh:=I.sh _ (cd Hc);unfold vP at N;unfold vH at O;simp only[eb]at N O;have sQ:∀{x:Rat},Sm 2001 x->jy x:=fun h=>h.mono om
 have L:∀{x:Rat},Sm 1000 x->jy x:=fun h=>h.mono om
 have p1:=AA BV (af yN);have p2:=AB Hb (af Hc);obtain⟨hb,a,hA,_,H⟩:=(h.aj hw lf).at_ (fun _=>rfl) hl bL;refine F.ay.J7.step ⟨hb,a,hA,_,H 2 _ rfl,pm (ks om) ?_⟩;rintro v w1 e h1;obtain⟨nq,M,rfl,Ua⟩:=h1.qt;have hw:=kP hw e;have d:=(d.below e).add Ua;clear h1 Ua e;refine⟨_,_,_,_,_,_,_,rfl,fun E g=> ?_⟩;have hw:=kE hw g;have d:=d.ext g dc;clear g;refine pm (eM sp.eF N.1.1 _) ?_;rintro v w1 e h1;obtain⟨f0,Yr,rfl,Jg⟩:=h1.qt;have hw:=kP hw e;have d:=(d.below e).add Jg;clear h1 Jg e;have Yr:f0.r=gP ps Pa.eF l[i].aG:=by rw[Yr,p1]
 refine⟨_,_,_,_,_,_,_,rfl,fun E g=> ?_⟩;have hw:=kE hw g;have d:=d.ext g dc;clear g;refine pm (CG (d _ sm) (d _ sm) (by rw[M];exact Io) (by rw[Yr];exact L m1)) ?_;rintro v w1 e h1;obtain⟨s0,C,rfl,P⟩:=h1.qt;have hw:=kP hw e;have d:=(d.below e).add P;clear h1 P e;have C:s0.r=tP ps Pa.eF l[i]:=by rw[C,M,Yr];rfl
 refine⟨_,_,_,_,_,_,_,rfl,fun E g=> ?_⟩;have hw:=kE hw g;have d:=d.ext g dc;clear g;refine pm (CH (d _ sm) (d _ sm) (by rw[e0];exact b0) (by rw[C];exact sQ k0)) ?_;rintro v w1 e h1;obtain⟨z0,ez0,rfl,Q⟩:=h1.qt;have hw:=kP hw e;have d:=(d.below e).add Q;clear h1 Q e;refine⟨_,_,_,_,_,_,_,rfl,fun E g=> ?_⟩;have hw:=kE hw g;have d:=d.ext g dc;clear g;refine pm (eM sp.nJ N.1.2 _) ?_;rintro v w1 e h1;obtain⟨f1,Ys,rfl,JP⟩:=h1.qt;have hw:=kP hw e;have d:=(d.below e).add JP;clear h1 JP e;have Ys:f1.r=gP ps Pa.nJ l[i].aG:=by rw[Ys,p1]
 refine⟨_,_,_,_,_,_,_,rfl,pm (CG (d _ sm) (d _ sm) (by rw[M];exact Io) (by rw[Ys];exact L m2)) ?_⟩;rintro v w1 e h1;obtain⟨s1,Yt,rfl,qp⟩:=h1.qt;have hw:=kP hw e;have d:=(d.below e).add qp;clear h1 qp e;have Yt:s1.r=tP ps Pa.nJ l[i]:=by rw[Yt,M,Ys];rfl
 refine⟨_,_,_,_,_,_,_,rfl,pm (CH (d _ sm) (d _ sm) (by rw[e1];exact b1) (by rw[Yt];exact sQ k1)) ?_⟩;rintro v w1 e h1;obtain⟨z1,ez1,rfl,R⟩:=h1.qt;have hw:=kP hw e;have d:=(d.below e).add R;clear h1 R e;refine⟨_,_,_,_,_,_,_,rfl,fun E g=> ?_⟩;have hw:=kE hw g;have d:=d.ext g dc;clear g;refine pm (eM sp.dP N.2 _) ?_;rintro v w1 e h1;obtain⟨f2,Yu,rfl,EE⟩:=h1.qt;have hw:=kP hw e;have d:=(d.below e).add EE;clear h1 EE e;have Yu:f2.r=gP ps Pa.dP l[i].aG:=by rw[Yu,p1]
 refine⟨_,_,_,_,_,_,_,rfl,pm (CG (d _ sm) (d _ sm) (by rw[M];exact Io) (by rw[Yu];exact L m3)) ?_⟩;rintro v w1 e h1;obtain⟨s2,Yv,rfl,Lh⟩:=h1.qt;have hw:=kP hw e;have d:=(d.below e).add Lh;clear h1 Lh e;have Yv:s2.r=tP ps Pa.dP l[i]:=by rw[Yv,M,Yu];rfl
 refine⟨_,_,_,_,_,_,_,rfl,pm (CH (d _ sm) (d _ sm) (by rw[e2];exact b2) (by rw[Yv];exact sQ k2)) ?_⟩;rintro v w1 e h1;obtain⟨z2,ez2,rfl,S⟩:=h1.qt;have hw:=kP hw e;have d:=(d.below e).add S;clear h1 S e;refine⟨_,_,_,_,_,_,_,rfl,fun E g=> ?_⟩;have hw:=kE hw g;have d:=d.ext g dc;clear g;refine pm (eM sh.x O.1.1.2 _) ?_;rintro v w1 e h1;obtain⟨f3,Yw,rfl,Wl⟩:=h1.qt;have hw:=kP hw e;have d:=(d.below e).add Wl;clear h1 Wl e;have Yw:f3.r=gH hs Ho.x l[i].hold:=by rw[Yw,p2]
 refine⟨_,_,_,_,_,_,_,rfl,pm (CG (d _ sm) (d _ sm) (by rw[C];exact sQ k0) (by rw[Yw];exact L m4)) ?_⟩;rintro v w1 e h1;obtain⟨s3,Yx,rfl,T⟩:=h1.qt;have hw:=kP hw e;have d:=(d.below e).add T;clear h1 T e;have Yx:s3.r=tH ps hs Ho.x l[i]:=by rw[Yx,C,Yw];rfl
 refine⟨_,_,_,_,_,_,_,rfl,pm (CH (d _ sm) (d _ sm) (by rw[e3];exact b3) (by rw[Yx];exact sQ k3)) ?_⟩;rintro v w1 e h1;obtain⟨z3,ez3,rfl,U⟩:=h1.qt;have hw:=kP hw e;have d:=(d.below e).add U;clear h1 U e;refine⟨_,_,_,_,_,_,_,rfl,fun E g=> ?_⟩;have hw:=kE hw g;have d:=d.ext g dc;clear g;refine pm (eM sh.y O.1.2 _) ?_;rintro v w1 e h1;obtain⟨f4,Yy,rfl,V⟩:=h1.qt;have hw:=kP hw e;have d:=(d.below e).add V;clear h1 V e;have Yy:f4.r=gH hs Ho.y l[i].hold:=by rw[Yy,p2]
 refine⟨_,_,_,_,_,_,_,rfl,pm (CG (d _ sm) (d _ sm) (by rw[C];exact sQ k0) (by rw[Yy];exact L m5)) ?_⟩;rintro v w1 e h1;obtain⟨s4,Yz,rfl,W⟩:=h1.qt;have hw:=kP hw e;have d:=(d.below e).add W;clear h1 W e;have Yz:s4.r=tH ps hs Ho.y l[i]:=by rw[Yz,C,Yy];rfl
 refine⟨_,_,_,_,_,_,_,rfl,pm (CH (d _ sm) (d _ sm) (by rw[e4];exact b4) (by rw[Yz];exact sQ k4)) ?_⟩;rintro v w1 e h1;obtain⟨z4,ez4,rfl,X⟩:=h1.qt;have hw:=kP hw e;have d:=(d.below e).add X;clear h1 X e;refine⟨_,_,_,_,_,_,_,rfl,fun E g=> ?_⟩;have hw:=kE hw g;have d:=d.ext g dc;clear g;refine pm (eM sh.z O.2 _) ?_;rintro v w1 e h1;obtain⟨f5,YA,rfl,Y⟩:=h1.qt;have hw:=kP hw e;have d:=(d.below e).add Y;clear h1 Y e;have YA:f5.r=gH hs Ho.z l[i].hold:=by rw[YA,p2]
 refine⟨_,_,_,_,_,_,_,rfl,pm (CG (d _ sm) (d _ sm) (by rw[C];exact sQ k0) (by rw[YA];exact L m6)) ?_⟩;rintro v w1 e h1;obtain⟨s5,YB,rfl,Ub⟩:=h1.qt;have hw:=kP hw e;have d:=(d.below e).add Ub;clear h1 Ub e;have YB:s5.r=tH ps hs Ho.z l[i]:=by rw[YB,C,YA];rfl
 refine⟨_,_,_,_,_,_,_,rfl,pm (CH (d _ sm) (d _ sm) (by rw[e5];exact b5) (by rw[YB];exact sQ k5)) ?_⟩;rintro v w1 e h1;obtain⟨z5,ez5,rfl,Z⟩:=h1.qt;have hw:=kP hw e;have d:=(d.below e).add Z;clear h1 Z e;refine⟨_,_,_,_,_,_,_,rfl,ir,fun E g=> ?_⟩;have hw:=kE hw g;have d:=d.ext g dc;exact next z0 z1 z2 z3 z4 z5 E hw (fun x hx=>d x (by simp only[fi,pw,LP]at hx⊢;rcases hx with rfl|rfl|rfl|rfl|rfl|rfl<;>simp)) (by rw[ez0,e0,C,J,mU]) (by rw[ez1,e1,Yt,J,mU]) (by rw[ez2,e2,Yv,J,mU]) (by rw[ez3,e3,Yx,J,mU]) (by rw[ez4,e4,Yz,J,mU]) (by rw[ez5,e5,YB,J,mU])
theorem Tj(r:dF w0 A0 n0 A1 n1 ps hs)(h:cK w0 A 3 (l.map Sw.row))(hl:l.length=n){id:Int}{t0 t1 t2 t3 t4 t5:ByteArray}{i:Nat}(bL:i<l.length){ip o:Nat}(BV:nW ps l[i].aG=some ip)(Hb:pc hs l[i].hold=some o)(Y:ip<ps.length)(Z:o<hs.length){K:Value->World->Prop}
  {d e g j k m:QT} {w:World} (hw:Below w0.heap.size w0 w) (L:Qs w [m,k,j,g,e,d])
  (next:∀(w:World),Below w0.heap.size w0 w->Qs w [m,k,j,g,e,d]->F.ay.J7 A n c id i A0 n0 c0 A1 n1 c1 t0 t1 t2 t3 t4 t5 d.b d.A d.n d.c d.A' d.n' d.c' e.b e.A e.n e.c e.A' e.n' e.c' g.b g.A g.n g.c g.A' g.n' g.c' j.b j.A j.n j.c j.A' j.n' j.c' k.b k.A k.n k.c k.A' k.n' k.c' m.b m.A m.n m.c m.A' m.n' m.c' ps[ip].id ps[ip].aO ps[ip].cls ps[ip].name ps[ip].eF ps[ip].nJ ps[ip].dP hs[o].id hs[o].name hs[o].room hs[o].il hs[o].x hs[o].y hs[o].z w0.heap.size w K):
  F.ay.J6 A n c id i A0 n0 c0 A1 n1 c1 t0 t1 t2 t3 t4 t5 d.b d.A d.n d.c d.A' d.n' d.c' e.b e.A e.n e.c e.A' e.n' e.c' g.b g.A g.n g.c g.A' g.n' g.c' j.b j.A j.n j.c j.A' j.n' j.c' k.b k.A k.n k.c k.A' k.n' k.c' m.b m.A m.n m.c m.A' m.n' m.c' w0.heap.size w K:=by
 obtain⟨hb,a,hA,_,q⟩:=(h.aj hw lf).at_ (fun _=>rfl) hl bL;obtain⟨Gc,ap,O,_⟩:=r.p.at_ (fun _=>rfl) r.lp Y;obtain⟨M,ah,B,_⟩:=r.h.at_ (fun _=>rfl) r.lh Z;have cP:∀w,Below w0.heap.size w0 w->ae w (ap.add ((ip:Int).toNat*7)) (ps[ip].row):=fun w hw=>by
  obtain⟨_,a',C,P,_⟩:=(r.p.aj hw lf).at_ (fun _=>rfl) r.lp Y;rw[O]at C;cases C;exact P
 have cH:∀w,Below w0.heap.size w0 w->ae w (ah.add ((o:Int).toNat*7)) (hs[o].row):=fun w hw=>by
  obtain⟨_,a',C,P,_⟩:=(r.h.aj hw lf).at_ (fun _=>rfl) r.lh Z;rw[B]at C;cases C;exact P
 have par:∀w,Below w0.heap.size w0 w->Pure Tryz.prog 83 #[.agg #[.slice A0 n0 c0,.slice A1 n1 c1],.int .i64 l[i].aG] w fun v _=>v= .int .i64 (ip:Int):=fun w hw=>by
  have:=kX (c0:=c0) (c1:=c1) (r.aj hw) l[i].aG;rw[BV]at this;exact this
 have Q:∀w,Below w0.heap.size w0 w->Pure Tryz.prog 82 #[.agg #[.slice A0 n0 c0,.slice A1 n1 c1],.int .i64 l[i].hold] w fun v _=>v= .int .i64 (o:Int):=fun w hw=>by
  have:=qG (c0:=c0) (c1:=c1) (r.aj hw) l[i].hold;rw[Hb]at this;exact this
 have leaf:∀(ts R:List Nat),217∉ts->217∉R->∀(w:World),Below w0.heap.size w0 w->Qs w [m,k,j,g,e,d]->∀D,Ext w0.heap.size ts w D->∃(z0:Int)(z1 z2 z3 z4 z5 z6:ByteArray),ae D (ah.add ((o:Int).toNat*7)) [.int .i64 z0,.string z1,.string z2,.string z3,.string z4,.string z5,.string z6]/\∀N,Ext w0.heap.size R D N->F.ay.J7 A n c id i A0 n0 c0 A1 n1 c1 t0 t1 t2 t3 t4 t5 d.b d.A d.n d.c d.A' d.n' d.c' e.b e.A e.n e.c e.A' e.n' e.c' g.b g.A g.n g.c g.A' g.n' g.c' j.b j.A j.n j.c j.A' j.n' j.c' k.b k.A k.n k.c k.A' k.n' k.c' m.b m.A m.n m.c m.A' m.n' m.c' ps[ip].id ps[ip].aO ps[ip].cls ps[ip].name ps[ip].eF ps[ip].nJ ps[ip].dP z0 z1 z2 z3 z4 z5 z6 w0.heap.size N K:=
  fun ts R h1 h2 w hw L D y=>⟨_,_,_,_,_,_,_,cH D (kE hw y),fun N E=>next N (kE (kE hw y) E) ((L.ext y h1).ext E h2)⟩
 refine F.ay.J6.step ⟨hb,a,hA,_,q 1 _ rfl,hb,a,hA,_,q 0 _ rfl,fun w7 y7=> ?_,fun Tf G=> ?_⟩
 ·have rV:=kE hw y7;have S:=L.ext y7 dc;refine pm (par w7 rV) ?_;rintro v vg Ha rfl;have tY:=kP rV Ha;have Wm:=S.below Ha;refine⟨_,rfl,Gc,ap,O,_,_,_,_,_,_,_,cP w hw,fun Am H=> ?_,fun Qg I=> ?_⟩
  ·have BX:=kE tY H;refine pm (Q Am BX) ?_;rintro v Ab Yl rfl;have vm:=kP BX Yl;have Wn:=(Wm.ext H dc).below Yl;exact⟨_,rfl,M,ah,B,leaf _ _ dc dc Ab vm Wn,leaf _ _ dc dc Ab vm Wn⟩
  ·have AE:=kE tY I;refine pm (Q Qg AE) ?_;rintro v T Ym rfl;have U:=kP AE Ym;have V:=(Wm.ext I dc).below Ym;exact⟨_,rfl,⟨M,ah,B,leaf _ _ dc dc T U V,leaf _ _ dc dc T U V⟩,M,ah,B,leaf _ _ dc dc T U V⟩
 ·have Ns:=kE hw G;refine pm (par Tf Ns) ?_;rintro v J2 Yn rfl;have Tg:=kP Ns Yn;have W:=(L.ext G dc).below Yn;refine⟨_,rfl,Gc,ap,O,_,_,_,_,_,_,_,cP w hw,fun X J=> ?_⟩;have Nt:=kE Tg J;refine pm (Q X Nt) ?_;rintro v Wk Yo rfl;have Nu:=kP Nt Yo;have Wo:=(W.ext J dc).below Yo;exact⟨_,rfl,M,ah,B,leaf _ _ dc dc Wk Nu Wo,leaf _ _ dc dc Wk Nu Wo⟩
theorem Tm(N:dF w0 A0 n0 A1 n1 ps hs)(h:cK w0 A 3 (l.map Sw.row))(hl:l.length=n)(M:pk ps hs l)(id:Int)(t0 t1 t2 t3 t4 t5:ByteArray):
  ∀(d i:Nat)(g j m o q B:QT)(w:World),n - i=d->i<=n->Below w0.heap.size w0 w->Qs w [B,q,o,m,j,g]->g.r=df (tP ps Pa.eF) (jx id (l.take i))->j.r=df (tP ps Pa.nJ) (jx id (l.take i))->m.r=df (tP ps Pa.dP) (jx id (l.take i))->o.r=df (tH ps hs Ho.x) (jx id (l.take i))->q.r=df (tH ps hs Ho.y) (jx id (l.take i))->B.r=df (tH ps hs Ho.z) (jx id (l.take i))->
   F.ay.L3 A n c id i A0 n0 c0 A1 n1 c1 t0 t1 t2 t3 t4 t5 g.b g.A g.n g.c g.A' g.n' g.c' j.b j.A j.n j.c j.A' j.n' j.c' m.b m.A m.n m.c m.A' m.n' m.c' o.b o.A o.n o.c o.A' o.n' o.c' q.b q.A q.n q.c q.A' q.n' q.c' B.b B.A B.n B.c B.A' B.n' B.c' w0.heap.size w fun v _=>v=Lg ps hs (jx id l):=by
 intro d;induction d with
 |zero=>
  intro i g j m o q B w W hi hw e D E G H I J;rw[bx om]at D E G H I J;obtain⟨⟨b0,b1,X⟩,Y,Z,b5⟩:=(M.filter fun s=>decide (id=0∨s.hold=id)).Wg N;refine F.ay.L3.step ⟨fun h=>by omega,fun _ T O=> ?_⟩;have e:=e.ext O dc;refine pm (KF (e g sm) (by rw[D];exact b0)) ?_;rintro v w3 h1 rfl;have e:=e.below h1;clear h1;refine⟨_,rfl,pm (KF (e j sm) (by rw[E];exact b1)) ?_⟩;rintro v w4 h1 rfl;have e:=e.below h1;clear h1;refine⟨_,rfl,pm (KF (e m sm) (by rw[G];exact X)) ?_⟩;rintro v w5 h1 rfl;have e:=e.below h1;clear h1;refine⟨_,rfl,pm (KF (e o sm) (by rw[H];exact Y)) ?_⟩;rintro v w6 h1 rfl;have e:=e.below h1;clear h1;refine⟨_,rfl,pm (KF (e q sm) (by rw[I];exact Z)) ?_⟩;rintro v w7 h1 rfl;have e:=e.below h1;clear h1;refine⟨_,rfl,pm (KF (e B sm) (by rw[J];exact b5)) ?_⟩;rintro v w8 h1 rfl;have e:=e.below h1;clear h1;refine⟨_,rfl,fun w9 _=> ?_⟩;rw[D,E,G,H,I,J];rfl
 |succ d ih=>
  intro i g j m o q B w W hi hw e D E G H I J;have K:i<l.length:=om;have Wh:=M.n;have et:l.take (i+1)=l.take i++[l[i]]:=by rw[eN,af K];rfl
  have es:=KG id (l.take i) l[i];rw[<-et]at es;have L:(i:Int)+1=((i+1:Nat):Int):=om;obtain⟨ip,qm,P,Q⟩:=M.known l[i] (cd K);obtain⟨U,_⟩:=vj P;obtain⟨V,_⟩:=Eg Q;obtain⟨hb,a,hA,_,C⟩:=(h.aj hw lf).at_ (fun _=>rfl) hl K;have take:(id=0∨l[i].hold=id)->F.ay.J6 A n c id i A0 n0 c0 A1 n1 c1 t0 t1 t2 t3 t4 t5 g.b g.A g.n g.c g.A' g.n' g.c' j.b j.A j.n j.c j.A' j.n' j.c' m.b m.A m.n m.c m.A' m.n' m.c' o.b o.A o.n o.c o.A' o.n' o.c' q.b q.A q.n q.c q.A' q.n' q.c' B.b B.A B.n B.c B.A' B.n' B.c' w0.heap.size w fun v _=>v=Lg ps hs (jx id l):=fun k=>by
   rw[cc k]at es;refine Tj N h hl K P Q U V hw e fun w' oo Z6=> ?_
   refine Ti N h hl M K P Q U V es (fun y0 y1 O y3 y4 y5 T fF ZQ f0 f1 f2 f3 f4 f5=> ?_) oo Z6 D E G H I J;rw[L];exact ih (i+1) y0 y1 O y3 y4 y5 T om om fF ZQ f0 f1 f2 f3 f4 f5
  refine F.ay.L3.step ⟨fun _=>⟨fun R=>⟨hb,a,hA,_,C 0 _ rfl,fun S=>⟨ir,?_⟩,fun heq=>take (.inr (ep.1 heq))⟩,fun R=>take (.inl (ep.1 R))⟩,fun h=>by omega⟩;rw[ar (fun k=>k.elim R S),ns]at es;rw[L];exact ih (i+1) g j m o q B w om om hw e (by rw[es];exact D) (by rw[es];exact E) (by rw[es];exact G) (by rw[es];exact H) (by rw[es];exact I) (by rw[es];exact J)
theorem Jq(d:dF w0 A0 n0 A1 n1 ps hs)(h:cK w0 A 3 (l.map Sw.row))(hl:l.length=n)(e:pk ps hs l)(id:Int):
  Pure Tryz.prog 160 #[.agg #[.slice A0 n0 c0,.slice A1 n1 c1],.slice A n c,.int .i64 id] w0 fun v _=>v=Lg ps hs (jx id l):=by
 refine F.ay.vc fun w1 g=> ?_
 have hw:=k0 g;have a:Qs w1 []:=Qs.nil;refine pm (ks dc) ?_;rintro v J h1 k0;obtain⟨i,j,rfl,hx⟩:=k0.qt;have hw:=kP hw h1;have a:=(a.below h1).add hx;clear h1 hx;refine⟨_,_,_,_,_,_,_,rfl,pm (ks dc) ?_⟩;rintro v K h1 k;obtain⟨m,o,rfl,hx⟩:=k.qt;have hw:=kP hw h1;have a:=(a.below h1).add hx;clear h1 hx;refine⟨_,_,_,_,_,_,_,rfl,pm (ks dc) ?_⟩;rintro v L h1 q;obtain⟨r,w,rfl,hx⟩:=q.qt;have hw:=kP hw h1;have a:=(a.below h1).add hx;clear h1 hx;refine⟨_,_,_,_,_,_,_,rfl,pm (ks dc) ?_⟩;rintro v M h1 x;obtain⟨y,z,rfl,hx⟩:=x.qt;have hw:=kP hw h1;have a:=(a.below h1).add hx;clear h1 hx;refine⟨_,_,_,_,_,_,_,rfl,pm (ks dc) ?_⟩;rintro v N h1 B;obtain⟨C,D,rfl,hx⟩:=B.qt;have hw:=kP hw h1;have a:=(a.below h1).add hx;clear h1 hx;refine⟨_,_,_,_,_,_,_,rfl,pm (ks dc) ?_⟩;rintro v O h1 E;obtain⟨G,H,rfl,hx⟩:=E.qt;have hw:=kP hw h1;have a:=(a.below h1).add hx;clear h1 hx;refine⟨_,_,_,_,_,_,_,rfl,fun I b=> ?_⟩;exact Tm (c:=c) (c0:=c0) (c1:=c1) d h hl e id _ _ _ _ _ _ n 0 i m r y C G I rfl om (kE hw b) (a.ext b dc) (by rw[j];simp[jx,df]) (by rw[o];simp[jx,df]) (by rw[w];simp[jx,df]) (by rw[z];simp[jx,df]) (by rw[D];simp[jx,df]) (by rw[H];simp[jx,df])
end

section
variable {w:World} {A0 A1 A:Option Addr} {n0 c0 n1 c1 n c:Nat} {ps:List Pa} {hs:List Ho} {l:List Sw}
theorem Nv(a:dF w A0 n0 A1 n1 ps hs)(h:cK w A 3 (l.map Sw.row))(hl:l.length=n)(hn:n<=40)(id:Int):
  Pure Tryz.prog 244 #[.agg #[.slice A0 n0 c0,.slice A1 n1 c1],.slice A n c,.int .i64 id] w fun v _=>v=AF ps hs l id:=by
 refine F.kO.vc fun w1 d=> ?_
 have hw:=k0 d;refine pm (ry (a.aj hw) (h.aj hw lf) hl om) ?_;rintro v m g rfl;have hw:=kP hw g;unfold AF;refine⟨_,rfl,fun h0 o _=>by rw[cc h0],fun h0=> ?_⟩;rw[ar h0];have b:=dt (ep.1 h0);have i:=b.ld om;refine pm (qG (a.aj hw) id) ?_;rintro v q j rfl;have hw:=kP hw j;refine⟨_,rfl,fun h1 r _=>by rw[cc (gh.1 h1)],fun h1=> ?_⟩;rw[ar (fun k=>h1 (gh.2 k))];have hid:id≠0:=by
  cases hx:pc hs id with
  |none=>exact absurd (gh.2 hx) h1
  |some k=>
   obtain⟨x,e,y⟩:=oQ hx;have:=(b.c.h1 x (hJ e)).1.1;omega
 refine pm (Jq (a.aj hw) (h.aj hw lf) hl i id) ?_;rintro v z B rfl;rw[Jp hid];exact⟨_,_,_,_,_,_,rfl,fun C _=>rfl⟩
theorem AK{s j:ByteArray}{x y:Rat}(h1:∀w,Pure Tryz.prog 146 #[.string s] w (QR x))(h2:∀w,Pure Tryz.prog 146 #[.string j] w (QR y))(m:jy x)(d:jy y){K:Bool->World->Prop}{w:World}(o:∀w',Below w.heap.size w w'->K (decide (x<y)) w'):
  Pure Tryz.prog 146 #[.string s] w fun r w1=>∃(b:Bool)(A:Option Addr)(n c:Nat)(A':Option Addr)(n' c':Nat),r= .agg #[.bool b,.slice A n c,.slice A' n' c']/\
   Pure Tryz.prog 146 #[.string j] w1 fun r k=>∃(a:Bool)(A2:Option Addr)(n2 c2:Nat)(e:Option Addr)(g h:Nat),r= .agg #[.bool a,.slice A2 n2 c2,.slice e g h]/\
    Pure Tryz.prog 161 #[.agg #[.bool b,.slice A n c,.slice A' n' c'],.agg #[.bool a,.slice A2 n2 c2,.slice e g h]] k fun r i=>∃b,r= .bool b/\K b i:=by
 refine pm (h1 w) ?_;rintro v w1 b1 ⟨b,A,n,c,A',n',c',rfl,q⟩;refine⟨_,_,_,_,_,_,_,rfl,pm (h2 w1) ?_⟩;rintro v k a ⟨C,A2,n2,c2,e,g,h,rfl,z⟩;refine⟨_,_,_,_,_,_,_,rfl,pm (xw (q.below a) z m d) ?_⟩;rintro v i B rfl;exact⟨_,rfl,o i (kP (kP b1 a) B)⟩
theorem Is{x:Rat}(hx:jy x)(w:World):Pure Tryz.prog 146 #[.string (rS x)] w (QR x):=by
 have hlen:=Sm.length hx om;have k9:(rS x).size<=300000:=by
  have:(rS x).size=(oa x).length:=by unfold rS;rw[dn,nU]
  omega
 have:=Ay k9 (VJ x) w;rwa [Rd]at this
theorem Qj(o:dF w A0 n0 A1 n1 ps hs)(h:cK w A 3 (l.map Sw.row))(hl:l.length=n)(X:ek ps hs l)(Y:pk ps hs l){R:Value->World->Prop}
  (J:∀w',R (.tuple #[.int .i64 (nK (hs.findIdx? (nX ps hs l))),.int .i64 0]) w'):
  ∀(d i:Nat)(w':World),n1 - i=d->i<=n1->Below w.heap.size w w'->nK (hs.findIdx? (nX ps hs l))=js (nX ps hs l) i (hs.drop i)->F.bw.L4 A n c i A0 n0 c0 A1 n1 c1 w.heap.size w' R:=by
 have Rn:=o.nh;have iM:=o.lh;intro d;induction d with
 |zero=>
  intro i w' hd hi hw hx;rw[dp om]at hx;rw[hx]at J;exact F.bw.L4.step ⟨fun h=>by omega,fun _=>J w'⟩
 |succ d ih=>
  intro i w' hd hi hw hx;have N:i<hs.length:=om;have e3:=sc i;have hm:=cd N;have q:=X.c.vh _ hm;unfold vH at q;simp only[eb]at q;have L:=o.sh _ hm;have hid:=(X.c.h1 _ hm).1.1;rw[ec N,js]at hx;have cells:∀w',Below w.heap.size w w'->_:=fun w' z=>(o.h.aj z lf).at_ (fun _=>rfl) iM N
  obtain⟨hb,a,B,_,O⟩:=cells w' hw;have cell:∀w',Below w.heap.size w w'->∀(k:Nat)(u:Value),(hs[i].row)[k]? =some u->ae w' ((a.add ((i:Int).toNat*7)).add k) [u]:=fun w' z k u hk=>by
   obtain⟨_,a',Z,_,LX⟩:=cells w' z;rw[B]at Z;cases Z;exact LX k u hk
  obtain⟨⟨b1,g,b3⟩,b4,b5,b6⟩:=(Y.filter fun s=>decide (s.hold=hs[i].id)).Wg o;have b1:jy (df (tP ps Pa.eF) (xa l hs[i].id)):=b1;have g:jy (df (tP ps Pa.nJ) (xa l hs[i].id)):=g;have bm:jy (qR hs[i].il):=L.il.sQ q.1.1.1.2;have br:jy (qR hs[i].room):=L.room.sQ q.1.1.1.1;have sum:∀w',Below w.heap.size w w'->Pure Tryz.prog 160 #[.agg #[.slice A0 n0 c0,.slice A1 n1 c1],.slice A n c,.int .i64 hs[i].id] w' fun v _=>v=Lg ps hs (xa l hs[i].id):=fun w' z=>by
   have:=Jq (c:=c) (c0:=c0) (c1:=c1) (o.aj z) (h.aj z lf) hl Y hs[i].id;rwa [Jp om]at this
  have one:∀w1,Below w.heap.size w w1->∀C,Below w.heap.size w C->_:=fun w1 iT C fF=>AK (x:=qR hs[i].il) (y:=df (tP ps Pa.eF) (xa l hs[i].id)) (eM L.il q.1.1.1.2) (Is b1) bm b1 (w:=C)
   (K:=fun PY M=>(PY=true->R (.tuple #[.int .i64 (i:Int),.int .i64 0]) M)/\(PY=false->(0<=(i:Int)/\(i:Int)<n1)/\∃D,A1=some D/\∃E:ByteArray,ae w1 ((D.add ((i:Int).toNat*7)).add 2) [.string E]/\
    Pure Tryz.prog 146 #[.string E] M fun r w1=>∃(b:Bool)(A3:Option Addr)(n3 c3:Nat)(UB:Option Addr)(G UC:Nat),r= .agg #[.bool b,.slice A3 n3 c3,.slice UB G UC]/\
     Pure Tryz.prog 146 #[.string (rS (df (tP ps Pa.nJ) (xa l hs[i].id)))] w1 fun r C=>∃(g:Bool)(A2:Option Addr)(n2 c2:Nat)(Uy:Option Addr)(Uz UA:Nat),r= .agg #[.bool g,.slice A2 n2 c2,.slice Uy Uz UA]/\
      Pure Tryz.prog 161 #[.agg #[.bool b,.slice A3 n3 c3,.slice UB G UC],.agg #[.bool g,.slice A2 n2 c2,.slice Uy Uz UA]] C fun r e=>∃b,r= .bool b/\(b=true->R (.tuple #[.int .i64 (i:Int),.int .i64 0]) e)/\(b=false->az .i64 ((i:Int)+1)/\F.bw.L4 A n c ((i:Int)+1) A0 n0 c0 A1 n1 c1 w.heap.size e R))) fun M P=>by
   have Ko:=kP fF P;refine⟨fun k=> ?_,fun k=>⟨hb,a,B,_,cell w1 iT 2 _ rfl,?_⟩⟩
   ·rw[cc (by unfold nX;rw[k];rfl)]at hx;rw[<-hx];exact J M
   ·refine AK (x:=qR hs[i].room) (y:=df (tP ps Pa.nJ) (xa l hs[i].id)) (eM L.room q.1.1.1.1) (Is g) br g (K:=fun b e=>(b=true->R (.tuple #[.int .i64 (i:Int),.int .i64 0]) e)/\(b=false->az .i64 ((i:Int)+1)/\F.bw.L4 A n c ((i:Int)+1) A0 n0 c0 A1 n1 c1 w.heap.size e R)) fun e h3=>⟨fun Q=> ?_,fun Q=>⟨ir,?_⟩⟩
    ·rw[cc (by unfold nX;rw[Q,Bool.or_true])]at hx;rw[<-hx];exact J e
    ·rw[ar (by unfold nX;rw[k,Q];simp)]at hx;rw[e3];exact ih (i+1) e om om (kP Ko h3) hx
  refine F.bw.L4.step ⟨fun _=>⟨hb,a,B,_,cell w' hw 0 _ rfl,fun S T=> ?_,fun S T=> ?_⟩,fun h=>by omega⟩
  ·have H:=kE hw T;refine pm (sum S H) ?_;rintro v Al U rfl;have j:=kP H U;refine⟨_,_,_,_,_,_,rfl,fun I m=>⟨hb,a,B,_,cell I (kE j m) 3 _ rfl,fun V W=> ?_⟩⟩;exact one I (kE j m) V (kE (kE j m) W)
  ·have H:=kE hw T;refine pm (sum S H) ?_;rintro v Al U rfl;have j:=kP H U;refine⟨_,_,_,_,_,_,rfl,fun I m=>⟨hb,a,B,_,cell I (kE j m) 3 _ rfl,fun V W=> ?_⟩⟩;exact one I (kE j m) V (kE (kE j m) W)
theorem AL(a:dF w A0 n0 A1 n1 ps hs)(h:cK w A 3 (l.map Sw.row))(hl:l.length=n)(hn:n<=40):
  Pure Tryz.prog 118 #[.agg #[.slice A0 n0 c0,.slice A1 n1 c1],.slice A n c] w fun v _=>v=CE ps hs l:=by
 have j:=a.nh;refine F.bw.vc fun w1 d=> ?_
 have hw:=k0 d;refine pm (ry (a.aj hw) (h.aj hw lf) hl om) ?_;rintro v e g rfl;have hw:=kP hw g;unfold CE;refine⟨_,rfl,fun h0=>by rw[cc h0],fun h0=> ?_⟩;rw[ar h0];have b:=dt (ep.1 h0);refine Qj a h hl b (b.ld om) (fun _=>rfl) n1 0 e rfl om hw ?_;have:=oB (nX ps hs l) hs 0;rw[uQ,this];cases hs.findIdx? (nX ps hs l)with
 |none=>rfl
 |some i=>simp[nK]
end

def xz(ps:List Pa)(hs:List Ho)(l:List Sw)(i k:Nat):List Int:=
 ((ps.take i).flatMap fun p=>hs.map fun h=>oe l h.id p.id)++match ps[i]? with|some p=>(hs.take k).map fun h=>oe l h.id p.id|none=>[]
theorem It(ps:List Pa)(hs:List Ho)(l:List Sw):xz ps hs l 0 0=[]:=by
 unfold xz;cases ps[0]? <;>simp
theorem Nw{ps:List Pa}{hs:List Ho}{l:List Sw}{i:Nat}(hi:i<ps.length):xz ps hs l i hs.length=xz ps hs l (i+1) 0:=by
 unfold xz;rw[eN,af hi,FN];cases ps[i+1]? <;>simp
theorem Nx{ps:List Pa}{hs:List Ho}{l:List Sw}:xz ps hs l ps.length 0=bH ps hs l:=by
 unfold xz bH;rw[kl lf,QB,ns]
theorem KH{ps:List Pa}{hs:List Ho}{l:List Sw}{i k:Nat}(hi:i<ps.length)(a:k<hs.length):xz ps hs l i (k+1)=xz ps hs l i k++[oe l hs[k].id ps[i].id]:=by
 unfold xz;rw[af hi,qo];simp only;rw[eN,af a,lx];rfl

section
variable {w0:World} {A0 A1 A:Option Addr} {n0 c0 n1 c1 n c:Nat} {ps:List Pa} {hs:List Ho}
theorem dF.pAt(b:dF w0 A0 n0 A1 n1 ps hs){w:World}(hw:Below w0.heap.size w0 w){i:Nat}(hi:i<ps.length):
  (0<=(i:Int)/\(i:Int)<n0)/\∃a,A0=some a/\ae w (a.add ((i:Int).toNat*7)) (ps[i].row)/\∀k u,(ps[i].row)[k]? =some u->ae w ((a.add ((i:Int).toNat*7)).add k) [u]:=
 (b.p.aj hw lf).at_ (fun _=>rfl) b.lp hi
theorem dF.hAt(b:dF w0 A0 n0 A1 n1 ps hs){w:World}(hw:Below w0.heap.size w0 w){i:Nat}(hi:i<hs.length):
  (0<=(i:Int)/\(i:Int)<n1)/\∃a,A1=some a/\ae w (a.add ((i:Int).toNat*7)) (hs[i].row)/\∀k u,(hs[i].row)[k]? =some u->ae w ((a.add ((i:Int).toNat*7)).add k) [u]:=
 (b.h.aj hw lf).at_ (fun _=>rfl) b.lh hi
theorem Iu{l:List Sw}(q:dF w0 A0 n0 A1 n1 ps hs)(h:cK w0 A 3 (l.map Sw.row))(hl:l.length=n)(hn:n<2147483648){R:Value->World->Prop}
  (I:∀A' m c' w,Below w0.heap.size w0 w->bF w w0.heap.size 3 A' m c' 1 ((bH ps hs l).map dy)->R (.slice A' m c') w):
  ∀(d i:Nat)(A':Option Addr)(m c':Nat)(w:World),n0 - i=d->i<=n0->Below w0.heap.size w0 w->bF w w0.heap.size 3 A' m c' 1 ((xz ps hs l i 0).map dy)->m<=7*i->F.av.L3 A n c A' m c' i A0 n0 c0 A1 n1 c1 w0.heap.size w R:=by
 have uw:=q.np;have qe:=q.nh;have pB:=q.lp;have iM:=q.lh;intro d;induction d with
 |zero=>
  intro i A' m c' w J hi hw ho hm;have:i=ps.length:=om;subst this;rw[Nx]at ho;exact F.av.L3.step ⟨fun h=>by omega,fun _=>I _ _ _ w hw ho⟩
 |succ d ih=>
  intro i A' m c' w J hi hw ho hm;have z:i<ps.length:=om;have K:=sc i;refine F.av.L3.step ⟨fun _=> ?_,fun h=>by omega⟩;have inner:∀(e k:Nat)(A':Option Addr)(m c':Nat)(w:World),n1 - k=e->k<=n1->Below w0.heap.size w0 w->bF w w0.heap.size 3 A' m c' 1 ((xz ps hs l i k).map dy)->m<=7*i+k->F.av.L6 A n c A' m c' i k A0 n0 c0 A1 n1 c1 w0.heap.size w R:=by
   intro e;induction e with
   |zero=>
    intro k A' m c' w he L hw ho hm;have:k=hs.length:=om;subst this;rw[Nw z]at ho;refine F.av.L6.step ⟨fun h=>by omega,fun _=>⟨ir,?_⟩⟩;rw[K];exact ih (i+1) A' m c' w om om hw ho om
   |succ e M=>
    intro k A' m c' w he L hw ho hm;have E:k<hs.length:=om;have N:=sc k;refine F.av.L6.step ⟨fun _=> ?_,fun h=>by omega⟩;have loop:∀(f j:Nat)(w:World),n - j=f->j<=n->Below w0.heap.size w0 w->bF w w0.heap.size 3 A' m c' 1 ((xz ps hs l i k).map dy)->F.av.pd A n c A' m c' i k (oe (l.take j) hs[k].id ps[i].id) j A0 n0 c0 A1 n1 c1 w0.heap.size w R:=by
     intro f;induction f with
     |zero=>
      intro j w hf hj hw ho;refine F.av.pd.step ⟨fun h=>by omega,fun _=> ?_⟩;rw[bx om];refine ny ft lf ho (x:= .int .i64 (oe l hs[k].id ps[i].id)) rfl (by simp[Value.cells,dA]) hw.size om dc fun A3 c3 O P _ Q=>⟨ir,?_⟩
      rw[N];refine M (k+1) A3 (m+1) c3 O om om (hw.trans Q) ?_ om;rw[KH z E,lx];exact P
     |succ f o=>
      intro j w hf hj hw ho;have G:j<l.length:=om;have B:=sc j;have S:l.take (j+1)=l.take j++[l[j]]:=by rw[eN,af G];rfl
      have es:=qB (l.take j) l[j] hs[k].id ps[i].id;rw[<-S]at es;have lc:∀w,Below w0.heap.size w0 w->_:=fun w hw=>(h.aj (w':=w) hw lf).at_ (fun _=>rfl) hl G
      obtain⟨hb,a,y,_,b⟩:=lc w hw;obtain⟨T,ap,U,_,V⟩:=q.pAt hw z;obtain⟨W,ah,X,_,Y⟩:=q.hAt hw E;refine F.av.pd.step ⟨fun _=>⟨hb,a,y,_,b 1 _ rfl,T,ap,U,_,V 0 _ rfl,fun C=>⟨hb,a,y,_,b 0 _ rfl,W,ah,X,_,Y 0 _ rfl,fun D=>⟨hb,a,y,fun r g=> ?_⟩,fun D=>⟨ir,fun r g=> ?_⟩⟩,fun C=>⟨ir,fun r g=> ?_⟩⟩,fun h=>by omega⟩
      ·obtain⟨_,a',H,_,Z⟩:=lc r (kE hw g);rw[y]at H;cases H;refine⟨_,Z 2 _ rfl,ir,?_⟩;rw[B];rw[cc ⟨C,D⟩]at es;rw[<-es];exact o (j+1) r om om (kE hw g) (ho.eA g)
      ·rw[B];rw[ar (fun k=>D k.2)]at es;rw[<-es];exact o (j+1) r om om (kE hw g) (ho.eA g)
      ·rw[B];rw[ar (fun k=>C k.1)]at es;rw[<-es];exact o (j+1) r om om (kE hw g) (ho.eA g)
    exact loop n 0 w rfl om hw ho
  exact inner n1 0 A' m c' w rfl om hw ho om
theorem Gf{l:List Sw}(a:dF w0 A0 n0 A1 n1 ps hs)(h:cK w0 A 3 (l.map Sw.row))(hl:l.length=n)(hn:n<2147483648):
  Pure Tryz.prog 76 #[.agg #[.slice A0 n0 c0,.slice A1 n1 c1],.slice A n c] w0 fun v w'=>∃A' m c',v= .slice A' m c'/\bF w' w0.heap.size 3 A' m c' 1 ((bH ps hs l).map dy):=
 F.av.vc fun w1 b=>Iu a h hl hn (fun A' m c' w _ ho=>⟨A',m,c',rfl,ho⟩) n0 0 none 0 0 w1 rfl om (k0 b) (by rw[It];exact bF.nil) om
theorem pE{l:List Sw}(a:dF w0 A0 n0 A1 n1 ps hs)(h:cK w0 A 3 (l.map Sw.row))(hl:l.length=n)(hn:n<2147483648):
  Pure Tryz.prog 46 #[.agg #[.slice A0 n0 c0,.slice A1 n1 c1],.slice A n c] w0 fun v w'=>(¬cZ ps hs l=0->v= .tuple #[.slice none 0 0,.int .i64 1])/\
   (cZ ps hs l=0->∃A' m c',v= .tuple #[.slice A' m c',.int .i64 0]/\bF w' w0.heap.size 3 A' m c' 1 ((bH ps hs l).map dy)):=by
 refine F.iE.vc fun w1 b=> ?_
 have hw:=k0 b;refine pm (ry (a.aj hw) (h.aj hw lf) hl hn) ?_;rintro v e d rfl;have hw:=kP hw d;refine⟨_,rfl,fun h0=>⟨fun _=>rfl,fun k=>absurd k h0⟩,fun h0=> ?_⟩;refine pm (Gf (a.aj hw) (h.aj hw lf) hl hn) ?_;rintro v g i ⟨A',m,c',rfl,ho⟩;exact⟨_,_,_,rfl,fun k=>absurd (ep.1 h0) k,fun _=>⟨A',m,c',rfl,ho.base hw.size⟩⟩

theorem Nz{a:List Int}(g:dF w0 A0 n0 A1 n1 ps hs)(h:cK w0 A 1 (a.map dy))(hl:a.length=n)(hn:n=n0*n1){R:Value->World->Prop}
  (E:∀A' m c' w,Below w0.heap.size w0 w->bF w w0.heap.size 39 A' m c' 3 ((jF (ju a n1) ps hs).map Sw.row)->R (.slice A' m c') w):
  ∀(d k:Nat)(A':Option Addr)(m c':Nat)(w:World),n1 - k=d->k<=n1->Below w0.heap.size w0 w->bF w w0.heap.size 39 A' m c' 3 ((wC (ju a n1) ps hs k 0).map Sw.row)->m<=7*k->F.bj.L3 A n c A' m c' k A0 n0 c0 A1 n1 c1 w0.heap.size w R:=by
 have uw:=g.np;have G:=g.nh;have H:=g.lp;have l:=g.lh;intro d;induction d with
 |zero=>
  intro k A' m c' w I J hw ho hm;have:k=n1:=om;subst this;refine F.bj.L3.step ⟨fun h=>by omega,fun _=>E _ _ _ w hw ?_⟩;unfold wC at ho;rw[<-l]at ho;simp only[List.range_zero,GD,ns]at ho;unfold jF;rw[<-l];exact ho
 |succ d ih=>
  intro k A' m c' w I J hw ho hm;have o:k<hs.length:=om;have K:=sc k;refine F.bj.L3.step ⟨fun _=> ?_,fun h=>by omega⟩;have inner:∀(e i:Nat)(A':Option Addr)(m c':Nat)(w:World),n0 - i=e->i<=n0->Below w0.heap.size w0 w->bF w w0.heap.size 39 A' m c' 3 ((wC (ju a n1) ps hs k i).map Sw.row)->m<=7*k+i->
    F.bj.L6 A n c A' m c' k i A0 n0 c0 A1 n1 c1 w0.heap.size w R:=by
   intro e;induction e with
   |zero=>
    intro i A' m c' w he hi hw ho hm;have:i=n0:=om;subst this;refine F.bj.L6.step ⟨fun h=>by omega,fun _=>⟨ir,?_⟩⟩;rw[K];refine ih (k+1) A' m c' w om om hw ?_ om;rw[<-F4,H];exact ho
   |succ e q=>
    intro i A' m c' w he hi hw ho hm;have r:i<ps.length:=om;have y:=sc i;have SJ:i*n1<=7*7:=lq om G;have F3:i*n1+k<n:=by rw[hn];exact rr om om
    have L:(i:Int)*(n1:Int)=((i*n1:Nat):Int):=by simp
    have M:((i*n1:Nat):Int)+(k:Int)=((i*n1+k:Nat):Int):=by simp
    have z:wz (ju a n1) ps hs k i=if 0<ju a n1 i k then[⟨hs[k].id,ps[i].id,ju a n1 i k⟩]else[]:=by
     unfold wz;rw[af o,af r]
    have B:a[i*n1+k]'om=ju a n1 i k:=by
     unfold ju;rw[cN,af om];rfl
    refine F.bj.L6.step ⟨fun _=> ?_,fun h=>by omega⟩;rw[L,M];obtain⟨j,N,O,P,_⟩:=(h.aj hw lf).at_ (fun _=>rfl) hl (i:=i*n1+k) om;obtain⟨Q,ap,S,_,T⟩:=g.pAt hw r;obtain⟨U,ah,V,_,W⟩:=g.hAt hw o;refine⟨ir,ir,j,N,O,_,P,fun b=>⟨U,ah,V,_,W 0 _ rfl,Q,ap,S,_,T 0 _ rfl,fun w2 C=> ?_⟩,fun X=>⟨ir,?_⟩⟩
    ·rw[B]at b⊢;have D:=kE hw C;refine ny zY lf (ho.eA C) (x:= .agg #[.int .i64 hs[k].id,.int .i64 ps[i].id,.int .i64 (ju a n1 i k)]) rfl (by simp[Value.cells,dA]) D.size om dc fun A3 c3 Y Z _ b3=>⟨ir,?_⟩
     rw[y];refine q (i+1) A3 (m+1) c3 Y om om (D.trans b3) ?_ om;rw[tI,z,cc b,lx];exact Z
    ·rw[B]at X;rw[y];refine q (i+1) A' m c' w om om hw ?_ om;rw[tI,z,ar om,ns];exact ho
  exact inner n0 0 A' m c' w rfl om hw ho om
theorem KI{a:List Int}(b:dF w0 A0 n0 A1 n1 ps hs)(h:cK w0 A 1 (a.map dy))(hl:a.length=n)(hn:n=n0*n1):
  Pure Tryz.prog 119 #[.agg #[.slice A0 n0 c0,.slice A1 n1 c1],.slice A n c] w0 fun v w'=>∃A' m c',v= .slice A' m c'/\bF w' w0.heap.size 39 A' m c' 3 ((jF (ju a n1) ps hs).map Sw.row):=
 F.bj.vc fun w1 d=>Nz b h hl hn (fun A' m c' w _ ho=>⟨A',m,c',rfl,ho⟩) n1 0 none 0 0 w1 rfl om (k0 d) (by unfold wC;simpa using bF.nil) om

theorem KJ{a:List Int}(o:dF w0 A0 n0 A1 n1 ps hs)(h:cK w0 A 1 (a.map dy))(hl:a.length=n)(hn:n=n0*n1)(g:∀x∈a,0<=x){i:Nat}(hi:i<n0){b:Bool}{R:Value->World->Prop}
  (y:∀w,b=true->R (.tuple #[.slice none 0 0,.int .i64 12]) w) (z:∀w,Below w0.heap.size w0 w->b=false->F.aB.Rg A n c ((i:Int)+1) A0 n0 c0 A1 n1 c1 w0.heap.size w R):
  ∀(d k:Nat)(left:Int)(w:World),n1 - k=d->k<=n1->0<=left->left<=9->Below w0.heap.size w0 w->qC left ((oh a n1 i).drop k)=b->F.aB.tJ A n c i left k A0 n0 c0 A1 n1 c1 w0.heap.size w R:=by
 have N:=o.np;have B:=o.nh;have O:(oh a n1 i).length=n1:=DZ (m:=n0) om hi;intro d;induction d with
 |zero=>
  intro k left w C D h0 E hw hb;rw[dp om]at hb;exact F.aB.tJ.step ⟨fun h=>by omega,fun _=>⟨ir,z w hw hb.symm⟩⟩
 |succ d ih=>
  intro k left w C D h0 E hw hb;have q:k<(oh a n1 i).length:=om;have G:=sc k;have P:i*n1<=7*7:=lq om B;have Q:i*n1+k<n:=by rw[hn];exact rr om om
  have H:(i:Int)*(n1:Int)=((i*n1:Nat):Int):=by simp
  have I:((i*n1:Nat):Int)+(k:Int)=((i*n1+k:Nat):Int):=by simp
  rw[ec q,qC]at hb;have J:(oh a n1 i)[k]=a[i*n1+k]'om:=by
   have e:=yL (a:=a) (m:=n0) om hi (show k<n1 by omega);rw[af q]at e;rw[BM e];unfold ju;rw[cN,af om];rfl
  rw[J]at hb;have hp:=g _ (cd (l:=a) (n:=i*n1+k) om);obtain⟨j,K,L,M,_⟩:=(h.aj hw lf).at_ (fun _=>rfl) hl (i:=i*n1+k) om;refine F.aB.tJ.step ⟨fun _=> ?_,fun h=>by omega⟩;rw[H,I];refine⟨ir,ir,j,K,L,_,M,fun r=> ?_,fun r=>⟨ir,ir,?_⟩⟩
  ·rw[cc r]at hb;exact y w hb.symm
  ·rw[ar om]at hb;rw[G];exact ih (k+1) _ w om om om om hw hb
theorem KK{a:List Int}(g:dF w0 A0 n0 A1 n1 ps hs)(y:xp ps hs)(h:cK w0 A 1 (a.map dy))(hl:a.length=n)(hn:n=n0*n1)(l:∀x∈a,0<=x){R:Value->World->Prop}
  (z:∀w,uv ps hs a=true->R (.tuple #[.slice none 0 0,.int .i64 12]) w) (B:∀A' m c' w,uv ps hs a=false->bF w w0.heap.size 39 A' m c' 3 ((jF (ju a n1) ps hs).map Sw.row)->R (.tuple #[.slice A' m c',.int .i64 0]) w):
  ∀(d i:Nat)(w:World),n0 - i=d->i<=n0->Below w0.heap.size w0 w->(∀(k:Nat)(p:Pa),k<i->ps[k]? =some p->qC p.aO (oh a hs.length k)=false)->F.aB.Rg A n c i A0 n0 c0 A1 n1 c1 w0.heap.size w R:=by
 have J:=g.np;have K:=g.nh;have L:=g.lp;have q:=g.lh;intro d;induction d with
 |zero=>
  intro i w C hi hw hx;refine F.aB.Rg.step ⟨fun h=>by omega,fun _=> ?_⟩;refine pm (KI (g.aj hw) (h.aj hw lf) hl hn) ?_;rintro v r M ⟨A',m,c',rfl,ho⟩;refine⟨_,_,_,rfl,B _ _ _ _ ?_ (ho.base hw.size)⟩;unfold uv;rw[vd];intro j hj;have hj:=jA.1 hj;rw[af hj];simp only;rw[hx j _ om (af hj)];simp
 |succ d ih=>
  intro i w C hi hw hx;have o:i<ps.length:=om;have D:=sc i;obtain⟨E,ap,G,_,H⟩:=g.pAt hw o;have N:=(y.p1 _ (cd o)).2.1;refine F.aB.Rg.step ⟨fun _=>⟨E,ap,G,_,H 1 _ rfl,?_⟩,fun h=>by omega⟩;refine KJ g h hl hn l om (b:=qC ps[i].aO (oh a n1 i)) (fun w hb=>z w ?_) (fun r I hb=> ?_) n1 0 ps[i].aO w rfl om om om hw rfl
  ·unfold uv;rw[kh];refine⟨i,jA.2 o,?_⟩;rw[af o,q];exact hb
  ·rw[D];refine ih (i+1) r om om I fun k p O hp=> ?_
   by_cases e:k=i
   ·subst e;rw[af o]at hp;cases hp;rw[q];exact hb
   ·exact hx k p om hp
theorem NA{a:List Int}(e:dF w0 A0 n0 A1 n1 ps hs)(h:cK w0 A 1 (a.map dy))(hl:a.length=n):
  Pure Tryz.prog 84 #[.agg #[.slice A0 n0 c0,.slice A1 n1 c1],.slice A n c] w0 (F5 (kr ps hs a) w0.heap.size):=by
 have y:=e.np;have z:=e.nh;have q:=e.lp;have j:=e.lh;have hle:n0*n1<=7*7:=lq y z;refine F.aB.vc fun w1 B=> ?_
 have r:=k0 B;refine pm (xy (e.aj r)) ?_;rintro v C D rfl;have E:=kP r D;have em:(n0:Int)*(n1:Int)=((n0*n1:Nat):Int):=by simp
 rw[em];refine⟨_,rfl,fun h0=> ?_,fun h0=>⟨ir,fun h1=> ?_,fun h1=> ?_⟩⟩
 ·unfold kr;rw[cc h0];rfl
 ·unfold kr;rw[ar h0,cc (by rw[q,j];omega)];rfl
 have hlen:a.length=ps.length*hs.length:=by rw[q,j];omega
 have neg:∀(d i:Nat)(w:World),n - i=d->i<=n->Below w0.heap.size w0 w->(∀x∈a.take i,0<=x)->F.aB.L6 A n c i A0 n0 c0 A1 n1 c1 w0.heap.size w (F5 (kr ps hs a) w0.heap.size):=by
  intro d;induction d with
  |zero=>
   intro i w G hi hw hx;rw[bx om]at hx;have h2:a.any (fun n=>decide (n<0))=false:=by
    rw[vd];intro x l;have:=hx x l;simp;omega
   refine F.aB.L6.step ⟨fun h=>by omega,fun _=> ?_⟩;refine KK e (jt (ep.1 h0)) h hl om hx (fun w' hf=> ?_) (fun A' m c' w' hf ho=> ?_) n0 0 w rfl om hw (fun K p L=>by omega)
   ·unfold kr;rw[ar h0,ar (fun k=>k hlen),ar (by rw[h2];simp),cc hf];rfl
   ·unfold kr;rw[ar h0,ar (fun k=>k hlen),ar (by rw[h2];simp),ar (by rw[hf];simp),j];exact⟨A',m,c',rfl,ho⟩
  |succ d ih=>
   intro i w G hi hw hx;have o:i<a.length:=om;have H:=sc i;obtain⟨hb,I,J,b,_⟩:=(h.aj hw lf).at_ (fun _=>rfl) hl o;refine F.aB.L6.step ⟨fun _=>⟨hb,I,J,_,b,fun k=> ?_,fun k=>⟨ir,?_⟩⟩,fun h=>by omega⟩
   ·unfold kr;rw[ar h0,ar (fun k=>k hlen),cc (kh.2 ⟨_,cd o,by simpa using k⟩)];rfl
   ·rw[H];refine ih (i+1) w om om hw fun x g=> ?_
    rw[eN,af o]at g;rcases h8.1 g with g|g
    ·exact hx x g
    ·simp at g;omega
 exact neg n 0 C rfl om E sm
end

theorem To{ps:List Pa}{hs:List Ho}{l:List Sw}(a:ek ps hs l)(h p:Int):oe l h p<=9:=by
 rcases sS l h p with⟨e,_⟩|⟨x,hx,b,d,g⟩
 ·omega
 ·have:=((a.known x hx));obtain⟨i,_,hi,_⟩:=this;obtain⟨q,e,hid⟩:=gG hi;have hm:=hJ e;have h1:=a.full q hm;have h2:=CD a.pos hx;have h3:=(a.c.p1 q hm).2.1.2;rw[hid]at h1;omega
section
variable {w0:World} {A0 A1 A:Option Addr} {n0 c0 n1 c1 n c:Nat} {ps:List Pa} {hs:List Ho} {l:List Sw}
end

def KL:List Pa:=[⟨1,3,1,⟨#[97]⟩,⟨#[50]⟩,⟨#[49]⟩,⟨#[53]⟩⟩,⟨2,1,2,⟨#[98]⟩,⟨#[49,47,50]⟩,⟨#[52]⟩,⟨#[49]⟩⟩]
def KM:List Ho:=[⟨1,⟨#[65]⟩,⟨#[52]⟩,⟨#[55]⟩,⟨#[49,48]⟩,⟨#[48]⟩,⟨#[49]⟩⟩,⟨2,⟨#[66]⟩,⟨#[57]⟩,⟨#[51]⟩,⟨#[45,53]⟩,⟨#[48]⟩,⟨#[49]⟩⟩]
theorem extAll{B:Nat}{w w':World}(x:Ext B [] w w'):Below w.heap.size w w':=⟨x.below.os,x.below.tape,x.below.output,x.below.size,fun k a=>by
 rcases x.other k a with e|⟨t,b,_⟩
 ·exact e
 ·simp at b⟩
theorem Iv{w:World}{A:Option Addr}{n c:Nat}{l:List Int}(h:cK w A 1 (l.map dy))(hlen:l.length=n)(hn:n<=1000000):
  Pure Tryz.prog 28 #[.slice A n c] w fun v w'=>∃A' c',v= .slice A' n c'/\bF w' w.heap.size 3 A' n c' 1 (l.map dy):=by
 refine F.je.vc ⟨fun b=> ?_,fun b=> ?_⟩
 ·subst b;have:=h.sN;simp at this;subst this;simp at hlen;subst hlen;exact⟨none,0,rfl,bF.nil⟩
 ·obtain⟨a,rfl⟩:=K0.1 b;refine dx ft [] sm sm lf fun A2 c2 i ho e=> ?_
  refine wu ft lf (by simpa using ho) (h.below e) (by simpa using hlen) (fun r d=>by obtain⟨s,_,rfl⟩:=kc.1 d;rfl) (fun r d=>by obtain⟨s,_,rfl⟩:=kc.1 d;intro u hu;simp[dy]at hu;subst hu;rfl) e.size (by simp;omega) sm fun A' c' j g _ k=> ?_
  simp only[ot,oi,nN]at g⊢;exact⟨A',c',rfl,g⟩
theorem Em{w0:World}{A A1:Option Addr}{n n1 c c1:Nat}{l j:List Int}(h:cK w0 A 1 (l.map dy))(h1:cK w0 A1 1 (j.map dy))(hlen:l.length=n)(x:j.length=n1)(hn:n<2147483648):
  Pure Tryz.prog 26 #[.slice A n c,.slice A1 n1 c1] w0 fun y _=>y= .bool (decide (l=j)):=by
 have key:n=n1->∀(d i:Nat)(w:World),n - i=d->i<=n->Below w0.heap.size w0 w->l.take i=j.take i->F.cn.L4 A n c A1 n1 c1 n i w0.heap.size w fun y _=>y= .bool (decide (l=j)):=by
  intro e d;induction d with
  |zero=>
   intro i w z hi hw hx;refine F.cn.L4.step ⟨fun h=>by omega,fun _=> ?_⟩;rw[bx om,bx om]at hx;rw[fc hx]
  |succ d ih=>
   intro i w z hi hw hx;have o:i<l.length:=om;have q:i<j.length:=om;have B:=sc i;obtain⟨hb,a,C,g,_⟩:=(h.aj hw lf).at_ (fun _=>rfl) hlen o;obtain⟨m,D,E,b,_⟩:=(h1.aj hw lf).at_ (fun _=>rfl) x q;refine F.cn.L4.step ⟨fun _=>⟨hb,a,C,_,g,m,D,E,_,b,fun k r _=> ?_,fun k=>⟨ir,fun r G=> ?_⟩⟩,fun h=>by omega⟩
   ·rw[eh fun e=>k (by subst e;rfl)]
   ·rw[B];refine ih (i+1) r om om (kE hw G) ?_;rw[eN,eN,hx,af o,af q,ep.1 k]
 refine F.cn.vc ⟨fun k=> ?_,fun k=>key om n 0 w0 rfl om (Below.refl _ _) sm⟩;rw[eh fun e=>k (by subst e;omega)]

theorem AN{α β:Type}{f:α->List β}{k:Nat}:∀{l:List α},(∀x∈l,(f x).length<=k)->(l.flatMap f).length<=l.length*k:=by
 intro l;induction l with
 |nil=>intro _;simp
 |cons x r ih=>
  intro h;rw[ow,fx,gw,mw,Ry];have:=h x sm;have:=ih fun y hy=>h y (by simp[hy])
  omega
theorem ek.len{ps:List Pa}{hs:List Ho}{l:List Sw}(h:ek ps hs l):l.length<=36:=by
 have e:=HZ h (f:=fA ps hs l) fun _ _ _ _=>rfl
 rw[<-e];unfold jF;have h1:∀k∈List.range hs.length,((List.range ps.length).flatMap fun i=>wz (fA ps hs l) ps hs k i).length<=ps.length:=fun k _=>by
  have:=AN (f:=fun i=>wz (fA ps hs l) ps hs k i) (k:=1) (l:=List.range ps.length) fun i _=>by
   unfold wz;split
   ·split<;>simp
   ·simp
  simpa using this
 have h2:=AN h1;rw[List.length_range]at h2;have:=lq h.c.lh h.c.lp;omega

def Qk(r:Except Int (List Sw)):List Sw×Int:=match r with| .error e=>([],e)| .ok l=>(l,0)
theorem F5.get{r:Except Int (List Sw)}{B:Nat}{y:Value}{w:World}(h:F5 r B y w):∃A m c,y= .tuple #[.slice A m c,.int .i64 (Qk r).2]/\cK w A 3 ((Qk r).1.map Sw.row)/\(Qk r).1.length=m/\m<=c:=by
 cases r with
 |error e=>exact⟨none,0,0,h,.inl rfl,rfl,hM _⟩
 |ok l=>
  obtain⟨A,m,c,rfl,ho⟩:=h;exact⟨A,m,c,rfl,ho.sl,by simpa[Qk]using ho.len,ho.gV⟩
section
variable {w:World} {A0 A1 A A2:Option Addr} {n0 c0 n1 c1 n c n2 c2:Nat} {ps:List Pa} {hs:List Ho} {l:List Sw} {a:List Int}
theorem Gg{e:Int}(h:kr ps hs a= .error e):e≠0:=by
 unfold kr at h;split at h
 ·cases h;decide
 ·split at h
  ·cases h;decide
  ·split at h
   ·cases h;decide
   ·split at h
    ·cases h;decide
    ·cases h
end

def di(n:Nat):Nat:=2^n - 1
def eG(s i:Nat):Nat:=s|||2^i
theorem nH(s i j:Nat):(eG s i).testBit j=(s.testBit j||decide (i=j)):=by
 unfold eG;rw[Nat.testBit_or,OU]
theorem ou{s i n:Nat}(hs:s<2^n)(hi:i<n):eG s i<2^n:=Nat.or_lt_two_pow hs (OE dc hi)
theorem AO(n j:Nat):(di n).testBit j=decide (j<n):=by
 unfold di;exact Nat.testBit_two_pow_sub_one n j
theorem iK(n:Nat):di n<2^n:=by
 unfold di;have:0<2^n:=ya n;omega
theorem Ql{s n:Nat}(hs:s<2^n)(h:∀i,i<n->s.testBit i=true):s=di n:=by
 refine EZ fun j=> ?_
 rw[AO];by_cases hj:j<n
 ·rw[h j hj,fc hj]
 ·rw[eh hj];exact Nat.testBit_lt_two_pow (jK hs (fy dc om))
def nI(n s:Nat):Nat:=(List.range n).countP fun i=> !s.testBit i
theorem sY{n s i:Nat}(hi:i<n)(h:s.testBit i=false):nI n (eG s i)+1=nI n s:=by
 unfold nI;have key:∀(l:List Nat),l.Nodup->(l.countP fun j=> !(eG s i).testBit j)+(if i∈l then 1 else 0)=l.countP fun j=> !s.testBit j:=by
  intro l;induction l with
  |nil=>intro _;rfl
  |cons a r ih=>
   intro hn;obtain⟨h1,h2⟩:=xu.1 hn;have ih:=ih h2;rw[N6,N6,nH];by_cases e:i=a
   ·subst e;rw[ar h1]at ih;simp[h];omega
   ·rw[eh e,Of];have b:(if i∈a::r then 1 else 0)=(if i∈r then 1 else 0):=by simp[e]
    rw[b];omega
 have:=key (List.range n) N9;rw[cc (jA.2 hi)]at this;exact this
theorem xA{n s:Nat}(hs:s<2^n)(h:nI n s=0):s=di n:=by
 refine Ql hs fun i hi=> ?_
 have:=OV.1 h i (jA.2 hi);simpa using this
theorem wN(n s:Nat):nI n s<=n:=by
 have:=IQ (p:=fun i=> !s.testBit i) (l:=List.range n);simpa[nI]using this

def ez(al:Nat->Bool)(n:Nat):Nat->Nat->Option (List Nat)
 |0,s=>if s=di n then some []else none
 |d+1,s=>if s=di n then some []else(List.range n).findSome? fun i=>if s.testBit i|| !al (eG s i)then none else(ez al n d (eG s i)).map (i:: ·)
inductive NB (al:Nat->Bool) (n:Nat):Nat->Prop
 |full:NB al n (di n)
 |step {s i:Nat}:i<n->s.testBit i=false->al (eG s i)=true->NB al n (eG s i)->NB al n s
inductive Li (al:Nat->Bool) (n:Nat):Nat->Prop
 |zero:Li al n 0
 |step {s i:Nat}:Li al n s->i<n->s.testBit i=false->al (eG s i)=true->Li al n (eG s i)
theorem Li.lt{al:Nat->Bool}{n s:Nat}(h:Li al n s):s<2^n:=by
 induction h with
 |zero=>exact ya n
 |step _ hi _ _ ih=>exact ou ih hi
theorem Iw{al:Nat->Bool}{n s:Nat}(h:Li al n s)(k:NB al n s):NB al n 0:=by
 induction h with
 |zero=>exact k
 |step _ hi hb ha ih=>exact ih (.step hi hb ha k)
theorem Iy{al:Nat->Bool}{n s:Nat}(k:NB al n s):Li al n s->Li al n (di n):=by
 induction k with
 |full=>exact id
 |step hi hb ha _ ih=>exact fun h=>ih (.step h hi hb ha)
theorem NC{al:Nat->Bool}{n:Nat}:Li al n (di n)↔NB al n 0:=⟨fun h=>Iw h .full,fun k=>Iy k .zero⟩
theorem CI{al:Nat->Bool}{n:Nat}:∀(d s:Nat)(l:List Nat),ez al n d s=some l->NB al n s:=by
 intro d;induction d with
 |zero=>
  intro s l h;rw[ez]at h;split at h
  ·rename_i e;rw[e];exact .full
  ·cases h
 |succ d ih=>
  intro s l h;rw[ez]at h;split at h
  ·rename_i e;rw[e];exact .full
  ·obtain⟨i,hi,hx⟩:=Ff h;split at hx
   ·cases hx
   ·rename_i a;simp only[xt,tW,not_or,zC,hP]at a;obtain⟨c,b,_⟩:=k7.1 hx;exact .step (jA.1 hi) a.1 a.2 (ih _ _ b)
theorem CJ{al:Nat->Bool}{n:Nat}:∀(d s:Nat),nI n s<=d->s<2^n->ez al n d s=none->¬NB al n s:=by
 intro d;induction d with
 |zero=>
  intro s b hs h;rw[ez,cc (xA hs om)]at h;cases h
 |succ d ih=>
  intro s b hs h k;rw[ez]at h;split at h
  ·cases h
  ·rename_i a;cases k with
   |full=>exact a rfl
   |step hi hb ha k=>
    rename_i i;have:=List.findSome?_eq_none_iff.1 h i (jA.2 hi);rw[hb,ha]at this;simp only[Bool.not_true,Bool.or_self,zy,tm,Option.map_eq_none_iff]at this;exact ih _ (by have:=sY hi hb;omega) (ou hs hi) this k
theorem ND{al:Nat->Bool}{n d s:Nat}(a:nI n s<=d)(hs:s<2^n):(∃l,ez al n d s=some l)↔NB al n s:=by
 constructor
 ·rintro⟨l,h⟩;exact CI d s l h
 ·intro k;cases h:ez al n d s with
  |some l=>exact⟨l,rfl⟩
  |none=>exact absurd k (CJ d s a hs h)
def sZ(al:Nat->Bool)(n:Nat)(out:List Nat)(s:Nat):List Nat:=
 if((List.range n).any fun i=>s.testBit i&&out.contains (s^^^2^i))&&al s then out++[s]else out
def bB(al:Nat->Bool)(n k:Nat):List Nat:=(List.range k).foldl (fun out j=>sZ al n out (j+1)) [0]
theorem En{s i:Nat}(h:s.testBit i=true):s^^^2^i<s/\(s^^^2^i).testBit i=false/\eG (s^^^2^i) i=s:=by
 have hb:∀j,(s^^^2^i).testBit j=(s.testBit j^^decide (i=j)):=fun j=>by rw[Nat.testBit_xor,OU]
 have h0:(s^^^2^i).testBit i=false:=by rw[hb,h];simp
 have h1:eG (s^^^2^i) i=s:=by
  refine EZ fun j=> ?_
  rw[nH,hb];by_cases e:i=j
  ·subst e;rw[h];simp
  ·rw[eh e];simp
 refine⟨?_,h0,h1⟩;have hle:s^^^2^i<=eG (s^^^2^i) i:=Nat.left_le_or;rw[h1]at hle;refine Nat.lt_of_le_of_ne hle fun e=> ?_
 rw[e,h]at h0;cases h0
theorem Gh{al:Nat->Bool}{n:Nat}:∀(k:Nat),k<2^n->∀s,s∈bB al n k↔(Li al n s/\s<=k):=by
 intro k;induction k with
 |zero=>
  intro _ s;unfold bB;constructor
  ·intro h;have:s=0:=by simpa using h
   subst this;exact⟨.zero,hM _⟩
  ·rintro⟨_,h⟩;have:s=0:=om;subst this;simp
 |succ k ih=>
  intro o s;have ih:=ih om;have e:bB al n (k+1)=sZ al n (bB al n k) (k+1):=by
   unfold bB;rw[pg,AY];rfl
  rw[e];unfold sZ;by_cases a:(((List.range n).any fun i=>(k+1).testBit i&&(bB al n k).contains ((k+1)^^^2^i))&&al (k+1))=true
  ·rw[cc a,h8,ih,gb];rw[eb,kh]at a;obtain⟨⟨i,hi,hx⟩,ha⟩:=a;rw[eb,zw]at hx;obtain⟨hb,hm⟩:=hx;obtain⟨q,l,c⟩:=En hb;have m:Li al n (k+1):=by
    have:=Li.step ((ih _).1 hm).1 (jA.1 hi) l (by rw[c];exact ha);rwa [c]at this
   constructor
   ·rintro(h|rfl)
    ·exact⟨h.1,om⟩
    ·exact⟨m,hM _⟩
   ·rintro⟨h1,h2⟩;by_cases e:s=k+1
    ·exact .inr e
    ·exact .inl ⟨h1,om⟩
  ·rw[ar a,ih];constructor
   ·exact fun h=>⟨h.1,om⟩
   ·rintro⟨h1,h2⟩;refine⟨h1,?_⟩;by_cases e:s=k+1
    ·exfalso;subst e;apply a;generalize hs:k+1=t at h1;cases h1 with
     |zero=>omega
     |step h1 hi hb ha=>
      rename_i s i;rw[eb,kh];have d:eG s i^^^2^i=s:=by
       refine EZ fun j=> ?_
       rw[Nat.testBit_xor,OU,nH];by_cases e:i=j
       ·subst e;rw[hb];simp
       ·rw[eh e];simp
      have g:(eG s i).testBit i=true:=by rw[nH];simp
      have b:=(En g).1;rw[d]at b;refine⟨⟨i,jA.2 hi,?_⟩,ha⟩;rw[eb,zw,d,ih];exact⟨g,h1,om⟩
    ·omega
theorem CL{al:Nat->Bool}{n:Nat}:di n∈bB al n (di n)↔∃l,ez al n n 0=some l:=by
 rw[Gh _ (iK n),ND (wN n 0) (ya n),NC];exact⟨fun h=>h.1,fun h=>⟨h,hM _⟩⟩

def gx(al:Nat->Bool)(n:Nat)(S:List Int):Bool:=
 decide (S.Pairwise fun a b=>a<b)&&S.all (fun s=>decide (0<=s/\s<(di n:Nat)))&&S.contains 0&&S.all fun s=>(List.range n).all fun i=>S.contains ((eG s.toNat i:Nat):Int)|| !al (eG s.toNat i)
theorem Jr{α:Type}[DecidableEq α]:∀{l o:List α},l.Nodup->(∀x∈l,x∈o)->o.length<=l.length->o.Perm l:=by
 intro l;induction l with
 |nil=>
  intro o _ _ h;have:o=[]:=List.length_eq_zero_iff.1 (by simpa using h);subst this;exact List.Perm.refl _
 |cons a r ih=>
  intro o hn hm hl;obtain⟨h1,h2⟩:=xu.1 hn;have ha:a∈o:=hm a sm;refine(List.perm_cons_erase ha).trans (List.Perm.cons a (ih h2 (fun x hx=> ?_) ?_))
  ·rw[List.mem_erase_of_ne (fun e=>h1 (by rw[<-e];exact hx))];exact hm x (by simp[hx])
  ·rw[List.length_erase_of_mem ha];simp at hl;omega
def uD(al:Nat->Bool):Nat->Nat->List Int->Int×Int
 |_,_,[]=>(-1,0)
 |s,k,x::r=>if al (eG s x.toNat)then uD al (eG s x.toNat) (k+1) r else((k:Int),15)
def pV(al:Nat->Bool)(n:Nat)(o:List Int):Int×Int:=
 if ¬(o.length=n/\∀i∈List.range n,((i:Nat):Int)∈o)then(-1,10)else uD al 0 0 o
theorem NF:∀(o:List Int)(s j:Nat),(o.foldl (fun s x=>eG s x.toNat) s).testBit j=(s.testBit j||o.any fun x=>decide (x.toNat=j)):=by
 intro o;induction o with
 |nil=>intro s j;simp
 |cons x r ih=>
  intro s j;rw[LS,ih,nH,LR,Bool.or_assoc]
theorem AQ{n:Nat}{o:List Int}(h:o.length=n/\∀i∈List.range n,((i:Nat):Int)∈o):o.Perm ((List.range n).map fun(i:Nat)=>(i:Int)):=by
 refine Jr ?_ (fun x hx=> ?_) (by simp;omega)
 ·exact Qi.2 (N9.imp fun h=>by omega)
 ·obtain⟨i,hi,rfl⟩:=kc.1 hx;exact h.2 i hi

structure Ru where
 name:ByteArray
 kind:Int
 iL:List ByteArray
 low:ByteArray
 high:ByteArray
 a:Int
 b:Int
def eV(s:ByteArray):Bool:=decide (s.size=0)||vR s
def hO(ps:List Pa)(hs:List Ho)(pre:List Ru)(r:Ru):Int:=
 if ¬(r.iL.all vR=true/\eV r.low=true/\eV r.high=true)then 1
 else if ¬(1<=r.name.size/\r.name.size<=64)then 4
 else if(pre.any fun x=>decide (x.name=r.name))=true then 6
 else if r.kind<1∨4<r.kind then 2
 else if r.kind=1 then
  if r.iL.length≠hs.length∨r.a≠0∨r.b≠0 then 10
  else if(r.low.size=0/\r.high.size=0)∨(r.low.size≠0/\r.high.size≠0/\qR r.high<qR r.low)then 2 else 0
 else if r.iL.length≠0∨r.low.size≠0∨r.high.size≠0 then 10
 else if r.kind=2 then(if ¬(r.a<r.b/\(1<=r.a/\r.a<=9)/\(1<=r.b/\r.b<=9))then 2 else 0)
 else if r.kind=3 then(if ¬(1<=r.a/\r.a<=9)then 2 else if pc hs r.b=none then 7 else 0)
 else if r.b≠0 then 2 else if nW ps r.a=none then 7 else 0
def OG(ps:List Pa)(hs:List Ho):Nat->List Ru->List Ru->Int×Int
 |_,_,[]=>(-1,0)
 |i,pre,r::t=>if hO ps hs pre r≠0 then((i:Int),hO ps hs pre r)else OG ps hs (i+1) (pre++[r]) t
def mV(ps:List Pa)(hs:List Ho)(rs:List Ru):Int×Int:=
 if eI ps hs≠0 then(-1,eI ps hs)else if 16<rs.length then(-1,8)else OG ps hs 0 [] rs
structure xB (ps:List Pa) (hs:List Ho) (r:Ru):Prop where
 iL:r.iL.all vR=true
 low:eV r.low=true
 high:eV r.high=true
 kind:1<=r.kind/\r.kind<=4
 sum:r.kind=1->r.iL.length=hs.length
 two:r.kind=2->r.a<r.b
 three:r.kind=3->∃k,pc hs r.b=some k
 four:r.kind=4->∃i,nW ps r.a=some i
theorem Iz{ps:List Pa}{hs:List Ho}{pre:List Ru}{r:Ru}(h:hO ps hs pre r=0):xB ps hs r:=by
 unfold hO at h;split at h
 ·simp at h
 ·rename_i h1;have h1:=ep.1 h1;split at h
  ·simp at h
  ·split at h
   ·simp at h
   ·split at h
    ·simp at h
    ·rename_i h4;split at h
     ·rename_i g;split at h
      ·simp at h
      ·rename_i i;exact⟨h1.1,h1.2.1,h1.2.2,om,fun _=>ea fun k=>i (.inl k),fun k=>by omega,fun k=>by omega,fun k=>by omega⟩
     ·rename_i g;split at h
      ·simp at h
      ·split at h
       ·rename_i j;split at h
        ·simp at h
        ·rename_i c;exact⟨h1.1,h1.2.1,h1.2.2,om,fun k=>by omega,fun _=>(ep.1 c).1,fun k=>by omega,fun k=>by omega⟩
       ·rename_i j;split at h
        ·rename_i c;split at h
         ·simp at h
         ·split at h
          ·simp at h
          ·rename_i d;refine⟨h1.1,h1.2.1,h1.2.2,om,fun k=>by omega,fun k=>by omega,fun _=> ?_,fun k=>by omega⟩;cases e:pc hs r.b with
           |none=>exact absurd e d
           |some k=>exact⟨k,rfl⟩
        ·rename_i c;split at h
         ·simp at h
         ·split at h
          ·simp at h
          ·rename_i d;refine⟨h1.1,h1.2.1,h1.2.2,om,fun k=>by omega,fun k=>by omega,fun k=>by omega,fun _=> ?_⟩;cases e:nW ps r.a with
           |none=>exact absurd e d
           |some k=>exact⟨k,rfl⟩
theorem NG{ps:List Pa}{hs:List Ho}:∀(rs:List Ru)(i:Nat)(pre:List Ru),(OG ps hs i pre rs).2=0->∀r∈rs,xB ps hs r:=by
 intro rs;induction rs with
 |nil=>intro _ _ _ r a;cases a
 |cons x t ih=>
  intro i pre h r a;rw[OG]at h;split at h
  ·rename_i k;exact absurd h k
  ·rename_i k;rcases fi.1 a with rfl|a
   ·exact Iz (ep.1 k)
   ·exact ih _ _ h r a
theorem tc{ps:List Pa}{hs:List Ho}{rs:List Ru}(h:(mV ps hs rs).2=0):eI ps hs=0/\rs.length<=16/\∀r∈rs,xB ps hs r:=by
 unfold mV at h;split at h
 ·rename_i k;exact absurd h k
 ·rename_i k;split at h
  ·simp at h
  ·exact⟨ep.1 k,om,NG _ _ _ h⟩

def rR(ps:List Pa)(id:Int):Int:=match (nW ps id).bind fun i=>ps[i]? with|some p=>p.cls|none=>0
def mh(ps:List Pa)(hs:List Ho)(r:Ru)(l:List Sw):Rat:=((hs.zip r.iL).map fun x=>qR x.2*df (tP ps Pa.eF) (xa l x.1.id)).sum
def eT(r:Ru)(s:Rat):Rat:=
 if r.high.size≠0/\qR r.high<s then s - qR r.high else if r.low.size≠0/\s<qR r.low then s - qR r.low else 0
def fM(ps:List Pa)(l:List Sw)(hold cls:Int):Bool:=l.any fun s=>decide (s.hold=hold)&&decide (rR ps s.aG=cls)
def eE(ps:List Pa)(hs:List Ho)(l:List Sw)(r:Ru):Bool:=
 if r.kind=1 then decide (eT r (mh ps hs r l)≠0)
 else if r.kind=2 then hs.any fun h=>fM ps l h.id r.a&&fM ps l h.id r.b
 else if r.kind=3 then fM ps l r.b r.a
 else match (nW ps r.a).bind fun i=>ps[i]? with|some p=>decide (cG l r.a<p.aO)|none=>false
def mi(ps:List Pa)(hs:List Ho)(rs:List Ru)(l:List Sw):Bool:=decide ((mV ps hs rs).2=0)&&decide (cZ ps hs l=0)
def pW(ps:List Pa)(hs:List Ho)(rs:List Ru)(l:List Sw):Bool:=
 mi ps hs rs l&& !(rs.any (eE ps hs l))&&decide (hs.findIdx? (nX ps hs l)=none)
theorem Gi{ps:List Pa}{hs:List Ho}{l:List Sw}(i:∀s∈l,∃h∈hs,h.id=s.hold)(a b:Int):
  (l.any fun x=>l.any fun y=>decide (x.hold=y.hold)&&(decide (rR ps x.aG=a)&&decide (rR ps y.aG=b)))=hs.any fun h=>fM ps l h.id a&&fM ps l h.id b:=by
 rw[sr];simp only[fM,kh,eb,nC];constructor
 ·rintro⟨x,hx,y,hy,e,c,d⟩;obtain⟨h,j,g⟩:=i x hx;exact⟨h,j,⟨x,hx,g.symm,c⟩,y,hy,by rw[<-e,g],d⟩
 ·rintro⟨h,_,⟨x,hx,ex,c⟩,y,hy,k,d⟩;exact⟨x,hx,y,hy,ex.trans k.symm,c,d⟩

def gq(ps:List Pa)(hs:List Ho)(w:Sw):Option Nat:=match nW ps w.aG,pc hs w.hold with|some i,some k=>some (i*hs.length+k)|_,_=>none
def kY(ps:List Pa)(hs:List Ho)(set:Nat):Nat->List Int->List Sw->List Int
 |_,a,[]=>a
 |n,a,w::r=>kY ps hs set (n+1) (if set.testBit n then(match gq ps hs w with|some j=>a.set j (a.getD j 0+w.aO)|none=>a)else a) r
def ji(ps:List Pa)(hs:List Ho)(l:List Sw)(works:List Sw)(set:Nat):Option (List Sw):=(kr ps hs (kY ps hs set 0 (bH ps hs l) works)).toOption
def aP(ps:List Pa)(hs:List Ho)(rs:List Ru)(l:List Sw)(works:List Sw)(set:Nat):Bool:=match ji ps hs l works set with|some m=>pW ps hs rs m|none=>false
def fJ(ps:List Pa)(hs:List Ho)(rs:List Ru)(l:List Sw)(works:List Sw):Int:=
 if(mV ps hs rs).2≠0 then 1 else if pW ps hs rs l=false then 11 else if 6<works.length then 8
 else if(works.any fun w=>decide (gq ps hs w=none))=true then 7 else if(works.any fun w=>decide (w.aO=0∨w.aO< -9∨9<w.aO))=true then 2 else 0
section
variable (ps:List Pa) (hs:List Ho) (rs:List Ru) (l works:List Sw)
def tM(set:Int):List Sw×Int:=
 if fJ ps hs rs l works≠0 then([],fJ ps hs rs l works)else if set<0∨(di works.length:Nat)<set then([],2)
 else match ji ps hs l works set.toNat with|some m=>(m,0)|none=>([],15)
def vo:List Int×Int:=
 if fJ ps hs rs l works≠0 then([],fJ ps hs rs l works)
 else match ez (aP ps hs rs l works) works.length works.length 0 with|some o=>(o.map fun(i:Nat)=>(i:Int),0)|none=>([],19)
def vq:List Int×Int:=
 if fJ ps hs rs l works≠0 then([],fJ ps hs rs l works)else((bB (aP ps hs rs l works) works.length (di works.length)).map fun(s:Nat)=>(s:Int),0)
def tN(o:List Int):Int×Int:=
 if fJ ps hs rs l works≠0 then(-1,fJ ps hs rs l works)else pV (aP ps hs rs l works) works.length o
def wO(S:List Int):Int:=
 if fJ ps hs rs l works≠0 then fJ ps hs rs l works else if gx (aP ps hs rs l works) works.length S=true then 0 else 14
end
end Go.Proofs.YtgfkeadgjkfomaaGreatDoor.B
