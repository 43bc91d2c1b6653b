/- Part 7 of the proofs that: What is stowed keeps the problem; lamps change by samples and by seeing alone. -/
import Derived.Test.YtbcojgcjjpggnaaGreatDoorK6
import Derived.Test.YtbcojgcjjpggnaaGreatDoorProg
set_option linter.unusedVariables false
set_option linter.unusedSimpArgs false
set_option maxRecDepth 100000
set_option maxHeartbeats 4000000
namespace Go.Proofs.YtbcojgcjjpggnaaGreatDoor.F
open Go Go.RowKit Go.Proofs Go.Proofs.YtbcojgcjjpggnaaGreatDoor.Vc
open Tryz
variable {A C D E G H J K A0 A1 A2 A3 A4 A5 A6 A7 A8 A9 C0 C1 C2 C3 C4 C5 C6 C7 C8 C9:O} {a b c d e f g i j l m n o a0 a1 a2 a3 a4 a5 a6 a7 a8 a9 b0 b1 b2 b3 b4 b5 b6 b7 b8 b9 c0 c1 c2 c3 c4 c5 c6 c7 c8 c9:Nat} {p q r s t u v x p0 p1 p2 p3 p4 p5 p6 p7 p8 p9 q0 q1 q2 q3 q4 q5 q6 q7 q8 q9:Int} {L M N N0 N1 N2 N3 N4 N5 N6 N7 N8 N9 T0 T1 T2 T3 T4 T5 T6 T7 T8 T9:ByteArray} {Q S:Bool} {B:Nat} {w:World} {R:Kt}
def kS.cx:Pm:=([],[(1,0,7),(1,3,2),(1,4,7),(1,7,2),(1,9999,3)])
theorem kS.vc
  (h:(∀f,Ext w.heap.size [] w f->((∀n,Ext w.heap.size [] f n->(ae P (Instr.buildSlice 33 0 #[]) n.heap.size [36,36] n (Rs fun g i j e=>((ae P (Builtin.append_ #[33,33] 33 #[.slice g i j,.slice C c d]) w.heap.size [36,36] e (Rs fun v x y l=>((ae P (Instr.buildSlice 34 0 #[]) l.heap.size [36,36] l (Rs fun A9 k c9 F=>(ae P (Builtin.append_ #[34,34] 34 #[.slice A9 k c9,.slice A a b]) w.heap.size [36,36] F (Rs fun I W e3 e4=>(∀z,Ext w.heap.size [36] e4 z->(R (.agg #[.slice v x y,.slice I W e3]) z))))))/\(ae P (Instr.buildSlice 34 0 #[]) l.heap.size [36,36] l (Rs fun e5 e6 e7 e8=>(ae P (Builtin.append_ #[34,34] 34 #[.slice e5 e6 e7,.slice A a b]) w.heap.size [36,36] e8 (Rs fun e9 g0 g1 g2=>(∀D,Ext w.heap.size [36] g2 D->(R (.agg #[.slice v x y,.slice e9 g0 g1]) D)))))))))/\((ae P (Instr.buildSlice 34 0 #[]) e.heap.size [36,36] e (Rs fun E G H J=>((ae P (Builtin.append_ #[33,33] 33 #[.slice g i j,.slice C c d]) w.heap.size [36,36] J (Rs fun g3 g4 g5 g6=>(ae P (Builtin.append_ #[34,34] 34 #[.slice E G H,.slice A a b]) w.heap.size [36,36] g6 (Rs fun g7 g8 g9 j0=>(∀K,Ext w.heap.size [36] j0 K->(R (.agg #[.slice g3 g4 g5,.slice g7 g8 g9]) K))))))/\(ae P (Builtin.append_ #[33,33] 33 #[.slice g i j,.slice C c d]) w.heap.size [36,36] J (Rs fun j1 j2 j3 j4=>(ae P (Builtin.append_ #[34,34] 34 #[.slice E G H,.slice A a b]) w.heap.size [36,36] j4 (Rs fun j5 j6 j7 j8=>(∀L,Ext w.heap.size [36] j8 L->(R (.agg #[.slice j1 j2 j3,.slice j5 j6 j7]) L)))))))))/\((ae P (Builtin.append_ #[33,33] 33 #[.slice g i j,.slice C c d]) w.heap.size [36,36] e (Rs fun j9 l0 l1 M=>(ae P (Instr.buildSlice 34 0 #[]) M.heap.size [36,36] M (Rs fun l2 l3 l4 l5=>(ae P (Builtin.append_ #[34,34] 34 #[.slice l2 l3 l4,.slice A a b]) w.heap.size [36,36] l5 (Rs fun l6 l7 l8 l9=>(∀N,Ext w.heap.size [36] l9 N->(R (.agg #[.slice j9 l0 l1,.slice l6 l7 l8]) N))))))))/\(ae P (Instr.buildSlice 34 0 #[]) e.heap.size [36,36] e (Rs fun m0 m1 m2 m3=>(ae P (Builtin.append_ #[33,33] 33 #[.slice g i j,.slice C c d]) w.heap.size [36,36] m3 (Rs fun m4 m5 m6 m7=>(ae P (Builtin.append_ #[34,34] 34 #[.slice m0 m1 m2,.slice A a b]) w.heap.size [36,36] m7 (Rs fun m8 m9 n0 n1=>(∀O,Ext w.heap.size [36] n1 O->(R (.agg #[.slice m4 m5 m6,.slice m8 m9 n0]) O))))))))))))))/\((∀o,Ext w.heap.size [] f o->(ae P (Instr.buildSlice 34 0 #[]) o.heap.size [36,36] o (Rs fun p q r m=>((ae P (Instr.buildSlice 33 0 #[]) m.heap.size [36,36] m (Rs fun Q S T U=>((ae P (Builtin.append_ #[33,33] 33 #[.slice Q S T,.slice C c d]) w.heap.size [36,36] U (Rs fun n2 n3 n4 n5=>(ae P (Builtin.append_ #[34,34] 34 #[.slice p q r,.slice A a b]) w.heap.size [36,36] n5 (Rs fun n6 n7 n8 k=>(∀V,Ext w.heap.size [36] k V->(R (.agg #[.slice n2 n3 n4,.slice n6 n7 n8]) V))))))/\(ae P (Builtin.append_ #[33,33] 33 #[.slice Q S T,.slice C c d]) w.heap.size [36,36] U (Rs fun o0 o1 o2 o3=>(ae P (Builtin.append_ #[34,34] 34 #[.slice p q r,.slice A a b]) w.heap.size [36,36] o3 (Rs fun o4 o5 o6 o7=>(∀X,Ext w.heap.size [36] o7 X->(R (.agg #[.slice o0 o1 o2,.slice o4 o5 o6]) X)))))))))/\(ae P (Instr.buildSlice 33 0 #[]) m.heap.size [36,36] m (Rs fun o8 o9 r0 r1=>(ae P (Builtin.append_ #[33,33] 33 #[.slice o8 o9 r0,.slice C c d]) w.heap.size [36,36] r1 (Rs fun r2 r3 r4 r5=>(ae P (Builtin.append_ #[34,34] 34 #[.slice p q r,.slice A a b]) w.heap.size [36,36] r5 (Rs fun r6 r7 r8 r9=>(∀Y,Ext w.heap.size [36] r9 Y->(R (.agg #[.slice r2 r3 r4,.slice r6 r7 r8]) Y))))))))))))/\((∀s,Ext w.heap.size [] f s->(ae P (Instr.buildSlice 33 0 #[]) s.heap.size [36,36] s (Rs fun Z d0 d1 t=>((ae P (Builtin.append_ #[33,33] 33 #[.slice Z d0 d1,.slice C c d]) w.heap.size [36,36] t (Rs fun s0 s1 s2 d2=>(ae P (Instr.buildSlice 34 0 #[]) d2.heap.size [36,36] d2 (Rs fun s3 s4 s5 s6=>(ae P (Builtin.append_ #[34,34] 34 #[.slice s3 s4 s5,.slice A a b]) w.heap.size [36,36] s6 (Rs fun s7 s8 s9 t0=>(∀d3,Ext w.heap.size [36] t0 d3->(R (.agg #[.slice s0 s1 s2,.slice s7 s8 s9]) d3))))))))/\(ae P (Instr.buildSlice 34 0 #[]) t.heap.size [36,36] t (Rs fun t1 t2 t3 t4=>(ae P (Builtin.append_ #[33,33] 33 #[.slice Z d0 d1,.slice C c d]) w.heap.size [36,36] t4 (Rs fun t5 t6 t7 t8=>(ae P (Builtin.append_ #[34,34] 34 #[.slice t1 t2 t3,.slice A a b]) w.heap.size [36,36] t8 (Rs fun t9 v0 v1 v2=>(∀d4,Ext w.heap.size [36] v2 d4->(R (.agg #[.slice t5 t6 t7,.slice t9 v0 v1]) d4))))))))))))/\(∀u,Ext w.heap.size [] f u->(ae P (Instr.buildSlice 34 0 #[]) u.heap.size [36,36] u (Rs fun v3 v4 v5 d5=>(ae P (Instr.buildSlice 33 0 #[]) d5.heap.size [36,36] d5 (Rs fun v6 v7 v8 v9=>(ae P (Builtin.append_ #[33,33] 33 #[.slice v6 v7 v8,.slice C c d]) w.heap.size [36,36] v9 (Rs fun x0 x1 x2 x3=>(ae P (Builtin.append_ #[34,34] 34 #[.slice v3 v4 v5,.slice A a b]) w.heap.size [36,36] x3 (Rs fun x4 x5 x6 x7=>(∀d6,Ext w.heap.size [36] x7 d6->(R (.agg #[.slice x0 x1 x2,.slice x4 x5 x6]) d6)))))))))))))))):
  Pure P 16 #[.agg #[.slice C c d,.slice A a b]] w R:=
 pr kS.cx func16 h

def bV.L4(a:O)(b c:Nat)(d:O)(e f:Nat)(g:Int):=Lt 63 f63 4 [vS 0 a b c,vS 1 d e f,vI 5 g] []
def bV.cx:Pm:=([((true,4),[0,1,5],[])],[])
theorem bV.L4.step
  (h:(Br (p<(a:Int)) (Ix p a A fun o=>(∃e f g,aa w (o.add ((p).toNat*3)) [I e,I f,I g]/\(Ix p b C fun q=>(∃i j l,aa w (q.add ((p).toNat*3)) [I i,I j,I l]/\(Br (¬(e=i/\f=j/\g=l/\True)) (∀m,Ext B [] w m->(R (.bool false) m)) (aS .i64 (p+1)/\(∀n,Ext B [] w n->(bV.L4 A a c C b d (p+1) B n R)))))))) (R (.bool true) w))):
  bV.L4 A a c C b d p B w R:=
 lr bV.cx func63 h
theorem bV.vc
  (h:(Br ((a:Int)≠(b:Int)) (R (.bool false) w) (bV.L4 A a c C b d (0:Int) w.heap.size w R))):
  Pure P 63 #[.slice A a c,.slice C b d] w R:=
 pr bV.cx func63 h

end Go.Proofs.YtbcojgcjjpggnaaGreatDoor.F

open Go.Proofs.YtbcojgcjjpggnaaGreatDoor

namespace Go.Proofs.YtbcojgcjjpggnaaGreatDoor.B
open Go Go.RowKit Go.Proofs Go.Proofs.YtbcojgcjjpggnaaGreatDoor.Vc

theorem eS.ext{w d:World}{B:Nat}{A:Option Addr}{n c:Nat}{ws:List Nat}(h:eS w B A n c ws)(e:Ext B [] w d):eS d B A n c ws:=
 h.other fun b hb=>by
  rcases e.other b (h.uP b hb).2 with h1|⟨t,g,_⟩
  ·exact h1
  ·cases g

section
variable {w0:World} {A1 A0:Option Addr} {n1 c1 n0 c0:Nat} {a b:List Nat} {R:Value->World->Prop}

end

theorem iF.nil(w:World):iF w none 0 0 0:=⟨[],.inl rfl,rfl,om,om,Small.nil,by simp[Norm],rfl⟩
theorem PZ.nil(w:World)(B:Nat):PZ w B none 0 0 0:=⟨[],World.ownsRow_nil w _ _ _,Small.nil,by simp[Norm],rfl⟩
theorem iF.zero{w:World}{A:Option Addr}{n c x:Nat}(h:iF w A n c x)(hn:n=0):x=0:=by
 have:=h.Mg;apply bx;intro k;have:=this.2 k;omega

end Go.Proofs.YtbcojgcjjpggnaaGreatDoor.B

open Go.Proofs.YtbcojgcjjpggnaaGreatDoor

namespace Go.Proofs.YtbcojgcjjpggnaaGreatDoor.B
open Go Go.RowKit Go.Proofs Go.Proofs.YtbcojgcjjpggnaaGreatDoor.Vc

theorem iF.one{w:World}{A:Option Addr}{n c x:Nat}(h:iF w A n c x)(b:0<x)(hx:x<1000000000):n=1/\nk w A [x]:=by
 obtain⟨ws,h1,d,i,j,l,g,rfl⟩:=h;have a:ws≠[]:=fun e=>by subst e;simp[wv]at b
 have hp:=nX g a;have hl:ws.length=1:=by
  have:=ve.2 a;apply bx;intro k;have:1000000000^1<=1000000000^(ws.length - 1):=ft om om;omega
 obtain⟨z,rfl⟩:=ox.1 hl;refine⟨by simpa using d.symm,?_⟩;have e:wv [z]=z:=by simp[wv]
 rw[e];exact h1

section
variable {w1:World} {B:Nat} {Af Au Av Aq:Option Addr} {nf cf nu cu nv cv nq cq:Nat} {vs:List Nat} {R:Value->World->Prop}

end

theorem iF.ic{w:World}{A:Option Addr}{n c z k:Nat}(h:iF w A n c z)(hz:z<1000000000^k):n<=k:=by
 obtain⟨ws,_,hl,_,_,_,hn,rfl⟩:=h;by_cases b:ws=[]
 ·subst b;simp at hl;omega
 ·have h1:=nX hn b;have:=(MH (a:=1000000000) om).1 (oj h1 hz);omega
theorem eS.some{w:World}{B:Nat}{A:Option Addr}{n c:Nat}{ws:List Nat}(h:eS w B A n c ws)(a:n≠0):A≠none:=by
 rintro rfl;rcases h.2 with⟨e,_⟩|⟨g,cap,cur,e,_⟩
 ·cases e;exact a rfl
 ·cases e

def YY(w:World)(b:Bool)(A:Option Addr)(n c:Nat)(z:Int):Prop:=b=decide (z<0)/\iF w A n c z.natAbs
theorem YY.below{w w':World}{b:Bool}{A:Option Addr}{n c:Nat}{z:Int}(h:YY w b A n c z)(hb:Below w.heap.size w w'):YY w' b A n c z:=⟨h.1,h.2.below hb⟩
theorem YY.ext{w w':World}{B:Nat}{ts:List Nat}{b:Bool}{A:Option Addr}{n c:Nat}{z:Int}(h:YY w b A n c z)(e:Ext B ts w w')(a:227∉ts):YY w' b A n c z:=⟨h.1,h.2.ext e a⟩
def sgn(z:Int):Int:=if z<0 then -1 else if 0<z then 1 else 0

def Tg(w:World)(b:Bool)(A:Option Addr)(n c:Nat)(A':Option Addr)(n' c':Nat)(r:Rat):Prop:=YY w b A n c r.num/\iF w A' n' c' r.den
theorem Tg.below{w w':World}{b:Bool}{A A':Option Addr}{n c n' c':Nat}{r:Rat}(h:Tg w b A n c A' n' c' r)(hb:Below w.heap.size w w'):Tg w' b A n c A' n' c' r:=⟨h.1.below hb,h.2.below hb⟩
theorem Tg.ext{w w':World}{B:Nat}{ts:List Nat}{b:Bool}{A A':Option Addr}{n c n' c':Nat}{r:Rat}(h:Tg w b A n c A' n' c' r)(e:Ext B ts w w')(a:227∉ts):Tg w' b A n c A' n' c' r:=⟨h.1.ext e a,h.2.ext e a⟩
abbrev QR(r:Rat)(v:Value)(w:World):Prop:=∃b A n c A' n' c',v= .agg #[.bool b,.slice A n c,.slice A' n' c']/\Tg w b A n c A' n' c' r

end Go.Proofs.YtbcojgcjjpggnaaGreatDoor.B

open Go.Proofs.YtbcojgcjjpggnaaGreatDoor

namespace Go.Proofs.YtbcojgcjjpggnaaGreatDoor.B
open Go Go.RowKit Go.Proofs Go.Proofs.YtbcojgcjjpggnaaGreatDoor.Vc

theorem uj:El Tryz.prog 115 5 1 1:=El.of kF
section
variable {w0:World} {A0:Option Addr} {n0 c0:Nat} {ws:List Nat} {R:Value->World->Prop}

end

def ahg(p:Pa):Bool:=decide (p.iz.size<=40/\p.uX.size<=40/\p.fT.size<=40/\p.name.size<=70)
def ahh(h:Ho):Bool:=decide (h.room.size<=40/\h.oh.size<=40/\h.x.size<=40/\h.y.size<=40/\h.z.size<=40/\h.name.size<=70)
def YZ(ps:List Pa)(hs:List Ho):Bool:=ps.all ahg&&hs.all ahh&&decide (ps.length<=7/\hs.length<=7)
structure DU (w:World) (A0:Option Addr) (n0:Nat) (A1:Option Addr) (n1:Nat) (ps:List Pa) (hs:List Ho):Prop where
 p:bR w A0 7 (ps.map Pa.row)
 h:bR w A1 7 (hs.map Ho.row)
 lp:ps.length=n0
 lh:hs.length=n1
 np:n0<9223372036854775808
 nh:n1<9223372036854775808
theorem DU.av{w w':World}{A0 A1:Option Addr}{n0 n1:Nat}{ps:List Pa}{hs:List Ho}(h:DU w A0 n0 A1 n1 ps hs)(hb:Below w.heap.size w w'):DU w' A0 n0 A1 n1 ps hs:=
 ⟨h.p.av hb lf,h.h.av hb lf,h.lp,h.lh,h.np,h.nh⟩
theorem DU.Za{w:World}{A0 A1:Option Addr}{n0 n1:Nat}{ps:List Pa}{hs:List Ho}(h:DU w A0 n0 A1 n1 ps hs)(hf:YZ ps hs=true):gq w A0 n0 A1 n1 ps hs:=by
 unfold YZ at hf;rw[cz,cz]at hf;obtain⟨⟨h1,b⟩,a⟩:=hf;have a:=fk a;refine⟨h.p,h.h,h.lp,h.lh,fun p hp=> ?_,fun x hx=> ?_,by have:=h.lp;omega,by have:=h.lh;omega⟩
 ·have:=fk (gu.1 h1 p hp);exact⟨by unfold mc;omega,by unfold mc;omega,by unfold mc;omega,om⟩
 ·have:=fk (gu.1 b x hx);exact⟨by unfold mc;omega,by unfold mc;omega,by unfold mc;omega,by unfold mc;omega,by unfold mc;omega,om⟩
theorem all_false{α:Type}{p:α->Bool}{l:List α}{x:α}(hx:x∈l)(h:p x=false):l.all p=false:=by
 rw[Hu];intro k;rw[gu.1 k x hx]at h;cases h
theorem FX:El Tryz.prog 33 111 7 88:=El.of kF
theorem FY:El Tryz.prog 34 172 7 104:=El.of kF
theorem QK{v:List Pa}:∀r∈v.map Pa.row,r.length=7:=by
 intro r a;obtain⟨x,_,rfl⟩:=gX.1 a;rfl
theorem Nu{v:List Pa}:∀r∈v.map Pa.row,∀u∈r,bo u=true:=by
 intro r a u hu;obtain⟨x,_,rfl⟩:=gX.1 a;simp only[Pa.row,cy,fX,tu]at hu;rcases hu with rfl|rfl|rfl|rfl|rfl|rfl|rfl<;>rfl
theorem QL{v:List Ho}:∀r∈v.map Ho.row,r.length=7:=by
 intro r a;obtain⟨x,_,rfl⟩:=gX.1 a;rfl
theorem Nv{v:List Ho}:∀r∈v.map Ho.row,∀u∈r,bo u=true:=by
 intro r a u hu;obtain⟨x,_,rfl⟩:=gX.1 a;simp only[Ho.row,cy,fX,tu]at hu;rcases hu with rfl|rfl|rfl|rfl|rfl|rfl|rfl<;>rfl
theorem B9{v:List Sw}:∀r∈v.map Sw.row,r.length=3:=by
 intro r a;obtain⟨x,_,rfl⟩:=gX.1 a;rfl
theorem DV{v:List Sw}:∀r∈v.map Sw.row,∀u∈r,bo u=true:=by
 intro r a u hu;obtain⟨x,_,rfl⟩:=gX.1 a;simp only[Sw.row,cy,fX,tu]at hu;rcases hu with rfl|rfl|rfl<;>rfl

structure xO (w:World) (A0:Option Addr) (n0:Nat) (A1:Option Addr) (n1:Nat) (ps:List Pa) (hs:List Ho):Prop where
 p:bR w A0 7 (ps.map Pa.row)
 h:bR w A1 7 (hs.map Ho.row)
 lp:ps.length=n0
 lh:hs.length=n1
 np:n0*88<=140737488355328
 nh:n1*104<=140737488355328
theorem xO.av{w w':World}{A0 A1:Option Addr}{n0 n1:Nat}{ps:List Pa}{hs:List Ho}(h:xO w A0 n0 A1 n1 ps hs)(hb:Below w.heap.size w w'):xO w' A0 n0 A1 n1 ps hs:=
 ⟨h.p.av hb lf,h.h.av hb lf,h.lp,h.lh,h.np,h.nh⟩
theorem gq.fit{w:World}{A0 A1:Option Addr}{n0 n1:Nat}{ps:List Pa}{hs:List Ho}(h:gq w A0 n0 A1 n1 ps hs):xO w A0 n0 A1 n1 ps hs:=
 ⟨h.p,h.h,h.lp,h.lh,by have:=h.np;omega,by have:=h.nh;omega⟩
structure zR (w0:World) (A0:Option Addr) (n0:Nat) (A1:Option Addr) (n1:Nat) (ps:List Pa) (hs:List Ho) (p h:Option (Option Addr×Nat×Nat)) (fp fh:Bool) (w:World):Prop where
 cg:xO w A0 n0 A1 n1 ps hs
 b:Below w0.heap.size w0 w
 p:∀x,p=some x->aF w w0.heap.size 111 x.1 x.2.1 x.2.2 7 (if fp then ps.map Pa.row else[])
 h:∀x,h=some x->aF w w0.heap.size 172 x.1 x.2.1 x.2.2 7 (if fh then hs.map Ho.row else[])
section
variable {w0:World} {A0 A1:Option Addr} {n0 c0 n1 c1:Nat} {ps:List Pa} {hs:List Ho} {p h:Option (Option Addr×Nat×Nat)} {fp fh:Bool} {w:World}
theorem zR.next{w':World}(k:zR w0 A0 n0 A1 n1 ps hs p h fp fh w)(hb:Below w.heap.size w w'):zR w0 A0 n0 A1 n1 ps hs p h fp fh w':=
 ⟨k.cg.av hb,kP k.b hb,fun x hx=>(k.p x hx).below hb,fun x hx=>(k.h x hx).below hb⟩
theorem zR.ext{ts:List Nat}{G:World->Prop}(k:zR w0 A0 n0 A1 n1 ps hs p h fp fh w)(a:ts=[])(b:∀w',zR w0 A0 n0 A1 n1 ps hs p h fp fh w'->G w'):∀w',Ext w0.heap.size ts w w'->G w':=by
 intro w' x;subst a;exact b w' (k.next (Mk x))
theorem zR.bp{tys:List Nat}{K:Option Addr->Nat->Nat->World->Prop}(k:zR w0 A0 n0 A1 n1 ps hs none h fp fh w)(a:∀A c w',zR w0 A0 n0 A1 n1 ps hs (some (A,0,c)) h false fh w'->K A 0 c w'):
  ae Tryz.prog (Instr.buildSlice 33 0 #[]) w.heap.size tys w fun r w1=>∃A n c,r= .slice A n c/\K A n c w1:=
 bc FX [] sm sm lf fun A c w' ho hb=>a A c w' ⟨k.cg.av hb,kP k.b hb,fun x hx=>(by cases hx;exact ho.base k.b.size),fun x hx=>(k.h x hx).below hb⟩
theorem zR.bh{tys:List Nat}{K:Option Addr->Nat->Nat->World->Prop}(k:zR w0 A0 n0 A1 n1 ps hs p none fp fh w)(a:∀A c w',zR w0 A0 n0 A1 n1 ps hs p (some (A,0,c)) fp false w'->K A 0 c w'):
  ae Tryz.prog (Instr.buildSlice 34 0 #[]) w.heap.size tys w fun r w1=>∃A n c,r= .slice A n c/\K A n c w1:=
 bc FY [] sm sm lf fun A c w' ho hb=>a A c w' ⟨k.cg.av hb,kP k.b hb,fun x hx=>(k.p x hx).below hb,fun x hx=>(by cases hx;exact ho.base k.b.size)⟩
theorem zR.ap{tys:List Nat}{ty:Nat}{A:Option Addr}{n c:Nat}{K:Option Addr->Nat->Nat->World->Prop}(d:xO w0 A0 n0 A1 n1 ps hs)(hz:A0=none->c0=0)(g:111∉tys)(k:zR w0 A0 n0 A1 n1 ps hs (some (A,n,c)) h false fh w)(i:∀A' n' c' w',zR w0 A0 n0 A1 n1 ps hs (some (A',n',c')) h true fh w'->K A' n' c' w'):
  ae Tryz.prog (Builtin.append_ #[33,33] ty #[.slice A n c,.slice A0 n0 c0]) w0.heap.size tys w fun r w1=>∃A n c,r= .slice A n c/\K A n c w1:=by
 have hl:=k.cg.lp;have j:=k.cg.np;have ho:aF w w0.heap.size 111 A n c 7 []:=by simpa using k.p _ rfl
 have hn:n=0:=by have:=ho.len;simpa using this.symm
 subst hn;refine yF FX lf ho k.cg.p (by simpa using hl) QK Nu hz k.b.size om om g fun A' c' w' o hg hb=>i _ _ _ _ ⟨d.av (k.b.trans hb),k.b.trans hb,fun x hx=> ?_,fun x hx=> ?_⟩
 ·cases hx;simpa using o
 ·refine(k.h x hx).other fun a ha=> ?_
  obtain⟨cs,l⟩:=(k.h x hx).cells a ha;refine hg.block _ ((k.h x hx).uP a ha).2 fun e=> ?_
  cases A with
  |none=>simp[Value.ownBlock]at e
  |some a2=>
   simp[Value.ownBlock]at e;obtain⟨q,m⟩:=ho.cells a2 rfl;exact uW l m dc (by first|exact e|exact e.symm)
theorem zR.ah{tys:List Nat}{ty:Nat}{A:Option Addr}{n c:Nat}{K:Option Addr->Nat->Nat->World->Prop}(d:xO w0 A0 n0 A1 n1 ps hs)(hz:A1=none->c1=0)(g:172∉tys)(k:zR w0 A0 n0 A1 n1 ps hs p (some (A,n,c)) fp false w)(i:∀A' n' c' w',zR w0 A0 n0 A1 n1 ps hs p (some (A',n',c')) fp true w'->K A' n' c' w'):
  ae Tryz.prog (Builtin.append_ #[34,34] ty #[.slice A n c,.slice A1 n1 c1]) w0.heap.size tys w fun r w1=>∃A n c,r= .slice A n c/\K A n c w1:=by
 have hl:=k.cg.lh;have j:=k.cg.nh;have ho:aF w w0.heap.size 172 A n c 7 []:=by simpa using k.h _ rfl
 have hn:n=0:=by have:=ho.len;simpa using this.symm
 subst hn;refine yF FY lf ho k.cg.h (by simpa using hl) QL Nv hz k.b.size om om g fun A' c' w' o hg hb=>i _ _ _ _ ⟨d.av (k.b.trans hb),k.b.trans hb,fun x hx=> ?_,fun x hx=> ?_⟩
 ·refine(k.p x hx).other fun a ha=> ?_
  obtain⟨cs,l⟩:=(k.p x hx).cells a ha;refine hg.block _ ((k.p x hx).uP a ha).2 fun e=> ?_
  cases A with
  |none=>simp[Value.ownBlock]at e
  |some a2=>
   simp[Value.ownBlock]at e;obtain⟨q,m⟩:=ho.cells a2 rfl;exact uW l m dc (by first|exact e|exact e.symm)
 ·cases hx;simpa using o
end
set_option maxRecDepth 20000 in
theorem DW{w:World}{A0 A1:Option Addr}{n0 c0 n1 c1:Nat}{ps:List Pa}{hs:List Ho}(a:xO w A0 n0 A1 n1 ps hs)(g:A0=none->c0=0)(i:A1=none->c1=0):
  Pure Tryz.prog 16 #[.agg #[.slice A0 n0 c0,.slice A1 n1 c1]] w fun v w'=>∃B0 d0 b d1,v= .agg #[.slice B0 n0 d0,.slice b n1 d1]/\aF w' w.heap.size 111 B0 n0 d0 7 (ps.map Pa.row)/\aF w' w.heap.size 172 b n1 d1 7 (hs.map Ho.row):=by
 refine F.kS.vc fun w1 j=> ?_
 have s1:zR w A0 n0 A1 n1 ps hs none none false false w1:=⟨a.av (k0 j),k0 j,fun x hx=>(by cases hx),fun x hx=>(by cases hx)⟩;have fin:∀{P H:Option Addr} {np nh d ch:Nat} {c:World},zR w A0 n0 A1 n1 ps hs (some (P,np,d)) (some (H,nh,ch)) true true c->∀e,Ext w.heap.size [36] c e->
   ∃B0 d0 b d1,Value.agg #[.slice P np d,.slice H nh ch]= .agg #[.slice B0 n0 d0,.slice b n1 d1]/\aF e w.heap.size 111 B0 n0 d0 7 (ps.map Pa.row)/\aF e w.heap.size 172 b n1 d1 7 (hs.map Ho.row):=by
  intro P H np nh d ch c k e l;have hp:aF c w.heap.size 111 P np d 7 (ps.map Pa.row):=k.p _ rfl;have m:aF c w.heap.size 172 H nh ch 7 (hs.map Ho.row):=k.h _ rfl;have lp:=hp.len;have lh:=m.len;simp only[eb]at lp lh;rw[a.lp]at lp;rw[a.lh]at lh;subst lp;subst lh;exact⟨_,_,_,_,rfl,hp.Nk l dc,m.Nk l dc⟩
 repeat' first
  |(with_reducible refine And.intro ?_ ?_)
  |exact fin (by assumption)
  |(with_reducible refine zR.ext (by assumption) rfl fun _ _=> ?_)
  |(with_reducible refine zR.bp (by assumption) fun _ _ _ _=> ?_)
  |(with_reducible refine zR.bh (by assumption) fun _ _ _ _=> ?_)
  |(with_reducible refine zR.ap a g ?_ (by assumption) fun _ _ _ _ _=> ?_; · decide)
  |(with_reducible refine zR.ah a i ?_ (by assumption) fun _ _ _ _ _=> ?_; · decide)
theorem QN{w:World}{A0 A1:Option Addr}{n0 c0 n1 c1:Nat}{ps:List Pa}{hs:List Ho}(a:gq w A0 n0 A1 n1 ps hs)(b:A0=none->c0=0)(c:A1=none->c1=0):
  Pure Tryz.prog 16 #[.agg #[.slice A0 n0 c0,.slice A1 n1 c1]] w fun v w'=>∃B0 d0 d d1,v= .agg #[.slice B0 n0 d0,.slice d n1 d1]/\gq w' B0 n0 d n1 ps hs:=by
 refine pm (DW a.fit b c) ?_;rintro v w' _ ⟨B0,d0,d,d1,rfl,h1,e⟩;exact⟨_,_,_,_,rfl,h1.sl,e.sl,a.lp,a.lh,a.sp,a.sh,a.np,a.nh⟩

theorem Uw(s:Nat)(hs:s<18446744073709551616)(w:World):(binOp .shr 184 (.int .u64 (s:Int)) (.int .u64 1)).run Tryz.prog w= .ok (.int .u64 ((s / 2:Nat):Int)) w:=by
 have e:binOp .shr 184 (.int .u64 (s:Int)) (.int .u64 1)=Op.shift .shr .u64 (s:Int) .u64 1:=rfl;rw[e,shift_shr .u64 .u64 _ _ dc dc];rfl

def vZ(t:Sw)(l:List Sw):Nat:=(l.takeWhile fun x=>decide (fC x t)).length
theorem Zc(t:Sw)(l:List Sw):vZ t l<=l.length:=(List.takeWhile_sublist _).length_le
theorem Zd{t:Sw}{l:List Sw}{i:Nat}(hi:i<=l.length)(h1:∀k a,k<i->l[k]? =some a->fC a t)(c:∀a,l[i]? =some a->¬fC a t):vZ t l=i:=by
 induction l generalizing i with
 |nil=>simp at hi;subst hi;rfl
 |cons a r ih=>
  cases i with
  |zero=>
   have:=c a rfl;simp[vZ,this]
  |succ i=>
   have ha:=h1 0 a om rfl;have:=ih (i:=i) (by simpa using hi) (fun k b d hb=>h1 (k+1) b om (by simpa using hb)) (fun b hb=>c b (by simpa using hb));unfold vZ at*;simp[ha,this]
theorem Mn{l:List Sw}(h:sD l){i j:Nat}{a b t:Sw}(d:i<=j)(ha:l[i]? =some a)(hb:l[j]? =some b)(c:fC b t):fC a t:=by
 by_cases e:i=j
 ·subst e;rw[ha]at hb;cases hb;exact c
 ·obtain⟨hi,rfl⟩:=eh.1 ha;obtain⟨hj,rfl⟩:=eh.1 hb;exact uY (List.pairwise_iff_getElem.1 h i j hi hj om) c
def il(t:Sw)(l:List Sw):Bool:=match l[vZ t l]? with
 |some x=>decide (x.hold=t.hold/\x.aw=t.aw)
 |none=>false
theorem FZ{w0:World}{A:Option Addr}{n c:Nat}{l:List Sw}(hl:bR w0 A 3 (l.map Sw.row))(hlen:l.length=n)(hn:n<1000000)(hs:sD l)(t:Sw):
  Pure Tryz.prog 44 #[.slice A n c,t.val,.func (.func 45) #[] #[]] w0 fun v _=>v= .tuple #[.int .i64 (vZ t l:Nat),.bool (il t l)]:=by
 have fin:∀(i:Nat)(w:World),i<=n->Below w0.heap.size w0 w->(∀k a,k<i->l[k]? =some a->fC a t)->(∀k a,i<=k->l[k]? =some a->¬fC a t)->
   F.ar.L3 A n c 45 #[] #[] n i i t.hold t.aw t.aV w0.heap.size w fun v _=>v= .tuple #[.int .i64 (vZ t l:Nat),.bool (il t l)]:=by
  intro i w hi hw h1 b;have m:vZ t l=i:=Zd om h1 fun a ha=>b i a lf ha
  refine F.ar.L3.step ⟨fun h=>by omega,fun _=>⟨fun h=> ?_,fun h o _=> ?_⟩⟩
  ·have g:i<l.length:=om;obtain⟨hb,a,q,r,_⟩:=(hl.av hw lf).at_ (fun _=>rfl) hlen g;refine⟨hb,a,q,_,_,_,r,kF,fun o B=>pm (jI l[i] t o) ?_⟩;rintro v x _ rfl;refine⟨_,rfl,?_⟩;unfold il;rw[m,af g];have e:decide (KA l[i] t=0)=decide (l[i].hold=t.hold/\l[i].aw=t.aw):=by rw[kh];exact Uo
   dsimp only;rw[e]
  ·unfold il;rw[m,hJ om]
 have key:∀(d i j:Nat)(w:World),j - i<=d->i<=j->j<=n->Below w0.heap.size w0 w->(∀k a,k<i->l[k]? =some a->fC a t)->(∀k a,j<=k->l[k]? =some a->¬fC a t)->
   F.ar.L3 A n c 45 #[] #[] n i j t.hold t.aw t.aV w0.heap.size w fun v _=>v= .tuple #[.int .i64 (vZ t l:Nat),.bool (il t l)]:=by
  intro d;induction d with
  |zero=>
   intro i j w E G hj hw h1 b;have:i=j:=om;subst this;exact fin i w hj hw h1 b
  |succ d ih=>
   intro i j w E G hj hw h1 b;by_cases he:i=j
   ·subst he;exact fin i w hj hw h1 b
   obtain⟨h,H⟩:∃h,h=(i+j) / 2:=⟨_,rfl⟩
   have g:h<l.length:=om;refine F.ar.L3.step ⟨fun _=>⟨ir,ir,?_⟩,fun h=>by omega⟩;have es:(i:Int)+(j:Int)=((i+j:Nat):Int):=om;rw[es];refine⟨_,_,Uw (i+j) om w,Below.refl _ _,fs _,fun _ _ _ _ _=>rfl,_,rfl,?_⟩;rw[<-H];obtain⟨hb,a,q,r,_⟩:=(hl.av hw lf).at_ (fun _=>rfl) hlen g;refine⟨ir,hb,a,q,_,_,_,r,kF,fun o B=>pm (jI l[h] t o) ?_⟩;have C:=kE hw B;rintro v x D rfl;refine⟨_,rfl,fun y=>⟨ir,?_⟩,fun y=> ?_⟩
   ·have I:=sc h;rw[I];exact ih (h+1) j x om om hj (kP C D) (fun k a z ha=>Mn hs om ha (af g) (FU.1 y)) b
   ·refine ih i h x om om om (kP C D) h1 fun k a z ha hb=>y (FU.2 ?_)
    exact Mn hs z (af g) ha hb
 refine F.ar.vc fun w1 J=> ?_
 refine key n 0 n w1 om om om (k0 J) (fun k a h=>by omega) fun k a z ha=> ?_
 rw[hJ om]at ha;cases ha

def qp(A:Option Addr)(w w':World):Prop:=w.heap.size<=w'.heap.size/\∀k,k<w.heap.size->(∀a,A=some a->k≠a.block)->w'.heap[k]? =w.heap[k]?
theorem qp.refl{A:Option Addr}{w:World}:qp A w w:=⟨fs _,fun _ _ _=>rfl⟩
theorem qp.trans{A:Option Addr}{w w1 a:World}(h:qp A w w1)(k:qp A w1 a):qp A w a:=
 ⟨dT h.1 k.1,fun j hj ha=>(k.2 j (qc hj h.1) ha).trans (h.2 j hj ha)⟩
theorem qp.low{A:Option Addr}{w w1:World}(h:Below w.heap.size w w1):qp A w w1:=⟨h.size,fun k a _=>h.block k a⟩
theorem qp.wrote{A:Option Addr}{w w1:World}{b ty:Nat}{cs:List Value}(h:aC w w1 b ty cs)(ha:∃a,A=some a/\a.block=b):qp A w w1:=
 ⟨by rw[h.size];exact fs _,fun k g c=>h.rest k fun e=>by obtain⟨a,h1,d⟩:=ha;exact c a h1 (e.trans d.symm)⟩
theorem qp.fresh{A:Option Addr}{w0 w w1:World}{b ty:Nat}{cs:List Value}(h:aC w w1 b ty cs)(k:qp A w0 w)(hb:w0.heap.size<=b):qp A w0 w1:=
 ⟨by rw[h.size];exact k.1,fun j hj ha=>(h.rest j om).trans (k.2 j hj ha)⟩

theorem zu{w0:World}{A:Option Addr}{n c:Nat}{l:List Sw}(hl:bR w0 A 3 (l.map Sw.row))(hlen:l.length=n)(hn:n<2147483648){f:Nat}{a k:Array Value}(cB:az Tryz.prog f=true){p:Sw->Bool}
  (hf:∀w,Below w0.heap.size w0 w->∀x∈l,Pure Tryz.prog f (a.toList++([x.val]:List Value)++k.toList).toArray w fun v _=>v= .bool (p x)) {R:Value->World->Prop} {r:Int} (j:∀w,R (.int .i64 r) w):
  ∀(d i:Nat)(w:World),n - i=d->i<=n->Below w0.heap.size w0 w->r=fD p i (l.drop i)->F.aN.L2 A n c f a k n i w0.heap.size w R:=by
 intro d;induction d with
 |zero=>
  intro i w o hi hw b;rw[de om]at b;subst b;exact F.aN.L2.step ⟨fun h=>by omega,fun _=>j w⟩
 |succ d ih=>
  intro i w o hi hw b;have g:i<l.length:=om;rw[dp g,fD]at b;obtain⟨hb,q,y,e,_⟩:=(hl.av hw lf).at_ (fun _=>rfl) hlen g;refine F.aN.L2.step ⟨fun _=> ?_,fun h=>by omega⟩;refine⟨hb,q,y,_,_,_,e,cB,pm (hf w hw l[i] (bA g)) ?_⟩;rintro v m z rfl;refine⟨_,rfl,fun h=> ?_,fun h=>⟨ir,?_⟩⟩
  ·rw[bm h]at b;subst b;exact j m
  ·rw[aq (by simp[h])]at b;have B:=sc i;rw[B];exact ih (i+1) m om om (kP hw z) b
theorem DX{α:Type}{p:α->Bool}{l:List α}(h:l.findIdx? p=none):l.filter (fun x=> !p x)=l:=by
 rw[QO];intro x hx;have:=FV.1 h x hx;simp[this]
theorem DY{α:Type}{p:α->Bool}{l:List α}{i:Nat}(h:l.findIdx? p=some i):i<l.length/\(l.take (i+1)).filter (fun x=> !p x)=l.take i:=by
 obtain⟨hi,hp,a⟩:=rr.1 h;refine⟨hi,?_⟩;rw[eU,af hi,Ja];have b:(l.take i).filter (fun x=> !p x)=l.take i:=by
  rw[QO];intro x hx;obtain⟨j,hj,rfl⟩:=List.mem_take_iff_getElem.1 hx;have:=a j om;simpa using this
 rw[b];simp[hp]
theorem F0:(Tryz.prog.info? 54).bind (·.zero)=some (.agg #[.int .i64 0,.int .i64 0,.int .i64 0]):=kF

theorem Nw{w0:World}{B:Nat}{A:Option Addr}{n c:Nat}{l:List Sw}(hlen:l.length=n)(hn:n<2147483648)(Z:n<=c){f:Nat}{a k:Array Value}(cB:az Tryz.prog f=true){p:Sw->Bool}
  (hf:∀w,qp A w0 w->∀x:Sw,Pure Tryz.prog f (a.toList++([x.val]:List Value)++k.toList).toArray w fun v _=>v= .bool (p x)) {R:Value->World->Prop}
  (hR:∀m w,qp A w0 w->aF w B 54 A m c 3 ((l.filter fun x=> !p x).map Sw.row)->R (.slice A m c) w):
  ∀(d i j:Nat)(cur:List Sw)(w:World),n - j=d->j<=n->i<=j->cur.length=n->aF w B 54 A n c 3 (cur.map Sw.row)->cur.take i=(l.take j).filter (fun x=> !p x)->cur.drop j=l.drop j->qp A w0 w->B<=w.heap.size->
   F.aL.L5 A n c f a k i j B w R:=by
 intro d;induction d with
 |zero=>
  intro i j cur w hd hj L y ho g H z b;have:j=n:=om;subst this;rw[cd (l:=l) om]at g;refine F.aL.L5.step ⟨fun h=>by omega,fun _=>⟨om,?_⟩⟩;have os:=ho.short (m:=i) om;rw[<-En,g]at os;rw[cc];refine uh gS F0 (by simp[Value.cells,bo]) os L Z fun M o2 C k2=>⟨om,hR i M (z.trans ⟨C.size,k2⟩) o2⟩
 |succ d ih=>
  intro i j cur w hd hj L y ho g H z b;have N:j<l.length:=om;have o:j<cur.length:=om;have I:cur[j]=l[j]:=by
   have h1:(cur.drop j)[0]? =(l.drop j)[0]? :=by rw[H]
   rw[kp,kp]at h1;simpa[N,o]using h1
  have O:=sc j;have e4:=sc i;have P:cur.drop (j+1)=l.drop (j+1):=by
   have:=ca (List.drop 1) H;simpa[NZ]using this
  have q:l.take (j+1)=l.take j++[l[j]]:=by rw[eU,af N];rfl
  obtain⟨hb,ad,hA,e,_⟩:=ho.sl.at_ (fun _=>rfl) y o;refine F.aL.L5.step ⟨fun _=>⟨hb,ad,hA,_,_,_,e,?_⟩,fun h=>by omega⟩;refine cK 54 F0 b fun M fB C hlt=> ?_
  refine⟨_,_,b,rfl,fB,by simp[Value.cells],rfl,fun D E=> ?_⟩;have Q:D.heap[w.heap.size]? =some (.cells (cur[j].row).toArray 54 (0,0)):=by
   have:=E.at_;simpa[setCells,Value.cells]using this
  have S:qp A w0 D:=qp.fresh E (z.trans (qp.low C)) z.1;have Ze:∀x,A=some x->x.block<w.heap.size:=fun x hx=>(ho.uP x hx).2
  have o3:aF D B 54 A n c 3 (cur.map Sw.row):=(ho.below C).other fun x hx=>E.rest _ (by have:=Ze x hx;show x.block≠w.heap.size;omega)
  refine⟨_,_,_,eY Q,cB,pm (hf D S cur[j]) ?_⟩;rintro v T G rfl;have U:=S.trans (qp.low (A:=A) G);have V:=o3.below G;have r:B<=T.heap.size:=by have:=G.size;have:=E.size;omega
  refine⟨_,rfl,fun gC=> ?_,fun Zf=>⟨ir,?_⟩⟩
  ·have J:p l[j]=false:=by rw[<-I];exact gC
   obtain⟨g1,a2,W,cs,g2,g3,g4,g5,g6⟩:=V.Nj (i:=(i:Int)) om om (cur[j].row) ((cur[i]'om).row) (by rw[cc,hM,af om];rfl) rfl;refine⟨_,_,_,eY (ag Q G),g1,a2,W,cs,_,g2,g3,g4,g5,rfl,fun X K=>⟨ir,ir,?_⟩⟩;have Y:=g6 X K;rw[cc]at Y;have Nx:(a2.add ((i:Int).toNat*3)).block=a2.block:=by unfold Addr.add;split<;>rfl
   rw[O,e4];refine ih (i+1) (j+1) (cur.set i cur[j]) X om om om (by simp[y]) (by rw[Cd];exact Y) ?_ ?_ (U.trans (qp.wrote K ⟨a2,W,Nx.symm⟩)) (by rw[K.size];exact r)
   ·rw[eU,wI om,List.take_set_of_le om,g,q,Ja,I];simp[J]
   ·rw[List.drop_set_of_lt om];exact P
  ·have J:p l[j]=true:=by rw[<-I];simpa using Zf
   rw[O];refine ih i (j+1) cur T om om om y V ?_ P U r;rw[g,q,Ja];simp[J]
theorem Ir{w:World}{B:Nat}(hB:B<=w.heap.size){A:Option Addr}{n c:Nat}{l:List Sw}(ho:aF w B 54 A n c 3 (l.map Sw.row))(hn:n<2147483648){f:Nat}{a k:Array Value}(cB:az Tryz.prog f=true){p:Sw->Bool}
  (hf:∀w',qp A w w'->∀x:Sw,Pure Tryz.prog f (a.toList++([x.val]:List Value)++k.toList).toArray w' fun v _=>v= .bool (p x)):
  cI Tryz.prog 153 #[.slice A n c,.func (.func f) a k] B w fun v w'=>∃m,v= .slice A m c/\aF w' B 54 A m c 3 ((l.filter fun x=> !p x).map Sw.row)/\qp A w w':=by
 have hlen:l.length=n:=by have:=ho.len;simpa using this
 have e:=ho.ic;refine F.aL.vo hB ?_;refine pm (F.aN.vc (zu ho.sl hlen hn cB (fun w' hb x _=>hf w' (qp.low hb) x) (R:=fun v _=>v= .int .i64 (fD p 0 l)) (fun _=>rfl) n 0 w rfl om (Below.refl _ _) rfl)) ?_;rintro v g b rfl;have key:=mI p l 0;cases hx:l.findIdx? p with
 |none=>
  rw[hx]at key;simp only at key;rw[key];refine⟨_,rfl,fun _=>⟨n,rfl,?_,qp.low b⟩,fun h=>absurd rfl h⟩;rw[DX hx];exact ho.below b
 |some i=>
  rw[hx]at key;simp only[jx]at key;rw[key];obtain⟨r,d⟩:=DY hx;have j:=sc i;refine⟨_,rfl,fun h=>by omega,fun _=>⟨ir,?_⟩⟩;rw[j];exact Nw (w0:=w) hlen hn e cB hf (fun m w' q o=>⟨m,rfl,o,q⟩) (n - (i+1)) i (i+1) l g rfl om om hlen (ho.below b) d.symm rfl (qp.low b) (dT hB b.size)

theorem F1{sz:Nat}{rows:List (List Value)}(h:∀r∈rows,r.length=sz){m:Nat}(hm:m<=rows.length):(rows.take m).flatten=rows.flatten.take (m*sz):=by
 have b:(rows.take m).flatten.length=m*sz:=by rw[jH _ fun r a=>h r (k7 a),eH,lO hm]
 have:rows.flatten=(rows.take m).flatten++(rows.drop m).flatten:=by rw[<-ow,kl]
 conv=>rhs;rw[this]
 rw[CL om,cd (l:=(rows.take m).flatten) om]
theorem F2{sz:Nat}{rows:List (List Value)}(h:∀r∈rows,r.length=sz){m:Nat}(hm:m<=rows.length):(rows.drop m).flatten=rows.flatten.drop (m*sz):=by
 have c:(rows.take m).flatten.length=m*sz:=by rw[jH _ fun r a=>h r (k7 a),eH,lO hm]
 have:rows.flatten=(rows.take m).flatten++(rows.drop m).flatten:=by rw[<-ow,kl]
 conv=>rhs;rw[this]
 have b:(rows.take m).flatten.drop (m*sz)=[]:=de om;rw[PI om,b,rT]

theorem yG{t ty e sz bytes:Nat}(el:El Tryz.prog t e sz bytes){B0 B:Nat}(D:B0<=B){tys:List Nat}{w:World}{g n c:Nat}{rows:List (List Value)}(ho:aF w B e (some ⟨g,0,none⟩) n c sz rows)
  {a:Addr} {m c2:Nat} {more:List (List Value)} (x:bR w (some a) sz more) (hm:more.length=m) (y:∀r∈more,r.length=sz) (h1:∀r∈more,∀u∈r,bo u=true) (C:n+m<=c) (E:e∉tys) (hB:B<=w.heap.size) {K:Option Addr->Nat->Nat->World->Prop}
  (h:∀l,aF l B e (some ⟨g,0,none⟩) (n+m) c sz (rows++more)->w.grownBy l (some g)->Below B0 w l->K (some ⟨g,0,none⟩) (n+m) c l):
  ae Tryz.prog (Builtin.append_ #[t,t] ty #[.slice (some ⟨g,0,none⟩) n c,.slice (some a) m c2]) B0 tys w fun r l=>∃A n c,r= .slice A n c/\K A n c l:=by
 obtain⟨i,z,F,N,G,O,Q⟩:=el.info;have hlen:more.flatten.length=m*sz:=by rw[jH _ y,hm]
 obtain⟨w',o,q,hg⟩:=run_append_fits (P:=Tryz.prog) w B t ty e i sz el.Ht F G g n c rows.flatten ho.1 a m c2 more.flatten hlen (fun j u hu=>by
  rcases x with x|⟨b,off,cs,ty,fr,H,I,J⟩
  ·subst x;simp at hu
  ·cases H;rw[bU];simp only[World.cell?,I];have:=uV more off y (fun i hi j hj=>(J i hi j hj).2) j u hu;simpa using this) (fun u hu=>by
  obtain⟨r,o,L⟩:=LU.1 hu;exact lA (h1 r o u L)) C
 have d:Below B0 w w':=bN hg (fun k M=>by cases M;exact dT D (World.ownsRow.lt ho.1 g rfl).1) (dT D hB);refine⟨_,w',o,d,d.size,rX (v:= .slice (some ⟨g,0,none⟩) n c) hg ho.1 E,_,_,_,rfl,h w' ⟨by rw[ow];exact q,by simp[ho.len,hm],fun r o=> ?_⟩ hg d⟩;rcases ga.1 o with h|h
 ·exact ho.2.2 r h
 ·exact y r h
theorem KD(A:Option Addr)(n c i j:Nat)(h:i<=j)(a:j<=n)(k:n<=c)(w:World):∃v,(Instr.sliceAt 40 (.slice A n c) (some (.int .i64 (i:Int))) (some (.int .i64 (j:Int))) (some (.int .i64 (n:Int)))).run Tryz.prog w= .ok v w/\∃A' n' c',v= .slice A' n' c':=by
 obtain⟨q,z,b,l,m,o,r⟩:=gS.info;have d:∀{code:BoundsCode},(Instr.sliceBound (.int .i64 (n:Int)) c code).run Tryz.prog w= .ok n w:=fun {code}=>by
  have:=Go.run_sliceBound (P:=Tryz.prog) w .i64 (n:Int) c code om om;simpa using this
 have e:∀{code:BoundsCode},(Instr.sliceBound (.int .i64 (j:Int)) n code).run Tryz.prog w= .ok j w:=fun {code}=>by
  have:=Go.run_sliceBound (P:=Tryz.prog) w .i64 (j:Int) n code om om;simpa using this
 have g:∀{code:BoundsCode},(Instr.sliceBound (.int .i64 (i:Int)) j code).run Tryz.prog w= .ok i w:=fun {code}=>by
  have:=Go.run_sliceBound (P:=Tryz.prog) w .i64 (i:Int) j code om om;simpa using this
 refine⟨.slice (if n=i then A else A.map (·.add (i*q.size))) (j - i) (n - i),?_,_,_,_,rfl⟩;simp[Instr.sliceAt,Instr.slice,Instr.sliceBounds,run_underlying gS.Ht,d,e,g,sizeOf,typeInfo,b]
theorem Ux{w:World}{B:Nat}(hB:B<=w.heap.size){A:Option Addr}{n c:Nat}{l:List Sw}(ho:aF w B 54 A n c 3 (l.map Sw.row))(hn:n<2147483648){i:Nat}(hi:i<n):
  cI Tryz.prog 48 #[.slice A n c,.int .i64 (i:Int),.int .i64 ((i+1:Nat):Int)] B w fun v w'=>∃m,v= .slice A m c/\aF w' B 54 A m c 3 ((l.take i++l.drop (i+1)).map Sw.row)/\qp A w w':=by
 have hlen:l.length=n:=by have:=ho.len;simpa using this
 have q:=ho.ic;have C:∃g,A=some ⟨g,0,none⟩:=by
  rcases ho.1.2 with⟨L,r⟩|⟨g,cap,cur,r,_⟩
  ·omega
  ·cases r;exact⟨g,rfl⟩
 obtain⟨g,rfl⟩:=C;obtain⟨v,D,A',n',c',rfl⟩:=KD (some ⟨g,0,none⟩) n c i (i+1) om om q w;refine F.eX.vo hB ⟨_,w,D,Below.refl _ _,fs _,fun _ _ _ _ _=>rfl,_,_,_,rfl,fun h=>by omega,fun _=>⟨om,om,fun x b=> ?_⟩⟩;rw[cc,cc];have y:=ho.kR b;have os:=y.short (m:=i) om;rw[<-En]at os;have d:∃a,cC (some (⟨g,0,none⟩:Addr)) (i+1) c 3=some a:=by
  unfold cC;split
  ·exact⟨_,rfl⟩
  ·exact⟨_,rfl⟩
 obtain⟨a,ha⟩:=d;have j:=y.sl.WG (k:=i+1) (c:=c) (by simp;omega);rw[ha]at j⊢;rw[<-List.map_drop]at j;refine yG gS lf os j (by simp;omega) B9 DV om sm (dT hB b.below.size) fun E z g3 M=>⟨om,?_⟩
 have em:i+(n - (i+1))=n - 1:=om;rw[<-eL]at z;rw[cc,cc];refine uh gS F0 (by simp[Value.cells,bo]) z om q fun N G H I=>⟨_,rfl,G,?_⟩
 have t2:qp (some ⟨g,0,none⟩) w x:=⟨b.below.size,fun k o _=>by
  rcases b.other k o with h|⟨t,J,_⟩
  ·exact h
  ·simp at J⟩
 have t3:qp (some ⟨g,0,none⟩) x E:=⟨g3.size,fun k o K=>g3.block k o fun e=>by cases e;exact K _ rfl rfl⟩;exact(t2.trans t3).trans ⟨H.size,I⟩

theorem DZ{xs L x:List Value}{p q N:Nat}(e:xs.length=N)(hx:x.length=q)(hp:p<=N)(h1:∀k,k<p->L[k]? =xs[k]?)(c:∀k,k<q->L[p+k]? =x[k]?)(d:∀k,p<=k->k<N->L[k+q]? =xs[k]?):L.take (N+q)=xs.take p++x++xs.drop p:=by
 apply zy;intro k;rw[jv,ky];have hl:(xs.take p).length=p:=by simp;omega
 by_cases b:k<p
 ·rw[bm om,gv om,jv,bm b,h1 k b]
 ·rw[hN om,hl];by_cases g:k<p+q
  ·rw[bm om,gv om];have:=c (k - p) om;rwa [show p+(k - p)=k by omega]at this
  ·rw[hN om,hx,kp];by_cases a:k<N+q
   ·rw[bm a];have:=d (k - q) om om;rw[show k - q+q=k by omega]at this;rw[this]
    congr 1
    omega
   ·rw[aq a,hJ om]
theorem Uy{w:World}{B:Nat}(hB:B<=w.heap.size){A:Option Addr}{n c:Nat}{l:List Sw}(Hi:aF w B 54 A n c 3 (l.map Sw.row))(hn:n<=1000){i:Nat}(hi:i<=n)
  {o J:Nat} {s:Sw} (U:aF w B 54 (some ⟨o,0,none⟩) 1 J 3 [s.row]) (hne:∀a,A=some a->a.block≠o):
  cI Tryz.prog 47 #[.slice A n c,.int .i64 (i:Int),.slice (some ⟨o,0,none⟩) 1 J] B w fun v w'=>∃A' c',v= .slice A' (n+1) c'/\aF w' B 54 A' (n+1) c' 3 ((l.take i++s::l.drop i).map Sw.row)/\qp A w w':=by
 have hlen:l.length=n:=by have:=Hi.len;simpa using this
 have oB:=Hi.ic;have V:∀r∈l.map Sw.row,r.length=3:=B9
 have OV:(l.map Sw.row).length=n:=by simp[hlen]
 obtain⟨xs,K⟩:∃xs,xs=(l.map Sw.row).flatten:=⟨_,rfl⟩
 have ho:=Hi.1;rw[<-K]at ho;obtain⟨x,hx⟩:∃x:List Value,x=s.row:=⟨_,rfl⟩
 have M:x.length=3:=by rw[hx];rfl
 have KE:∀v∈x,bo v=true:=by
  rw[hx];intro v y;simp only[Sw.row,cy,fX,tu]at y;rcases y with rfl|rfl|rfl<;>rfl
 have h1:∀v∈xs,bo v=true:=by
  intro v y;rw[K]at y;obtain⟨r,hr,P7⟩:=LU.1 y;exact DV r hr v P7
 have S:xs.length=n*3:=ho.1
 -- YB result, out of YB cells
 have fin:∀(A':Option Addr)(c':Nat)(w':World),w'.ownsRow B 54 3 (.slice A' (n+1) c') (n+1) (xs.take (i*3)++x++xs.drop (i*3))->aF w' B 54 A' (n+1) c' 3 ((l.take i++s::l.drop i).map Sw.row):=fun A' c' w' h=>by
  have e:((l.take i++s::l.drop i).map Sw.row).flatten=xs.take (i*3)++x++xs.drop (i*3):=by
   rw[eL,yq,ow,sY,En,List.map_drop,F1 V om,F2 V om,<-K,<-hx,ky]
  exact⟨by rw[e];exact h,by simp;omega,B9⟩
 obtain⟨cv,hBv,y,hvt,XY⟩:∃cv:Array Value,B<=o/\w.heap[o]? =some (.cells cv 54 (0,0))/\cv.toList.take 3=x/\cv.size=J*3:=by
  rcases U.1.2 with⟨e1,_⟩|⟨g,cap,cur,e1,e2,e3,e4,e5,e6,e7⟩
  ·cases e1
  ·cases e1;exact⟨cur,e2,e3,by rw[hx];simpa using e7,e6⟩
 have hcc:1<=J:=U.ic;have QP:∀{w':World},w'.heap[o]? =some (.cells cv 54 (0,0))->∀j v,x[j]? =some v->w'.cell? ((⟨o,0,none⟩:Addr).add j)=some v:=by
  intro w' hv' j v hj;rw[bU];simp only[World.cell?,hv',jx];rw[<-hvt,jv]at hj;split at hj
  ·simpa using hj
  ·cases hj
 refine F.eW.vo (w:=w) hB ⟨om,fun h=>by omega,fun _=>⟨fun h=> ?_,fun h=>⟨ir,fun h2=> ?_,fun h2=> ?_⟩⟩⟩
 ·-- at YB end
  have tz:i=n:=om;subst tz;refine rY (P:=Tryz.prog) (ty:=40) gS (fs B) (tys:=[]) ho (a:=⟨o,0,none⟩) (m:=1) (c:=J) (news:=x) (by rw[M]) (QP y) KE hB om sm fun A' c' w2 k1 k2 k3=>⟨A',c',rfl,fin _ _ _ ?_,k2.size,fun k d Tf=>k2.block k d fun e=> ?_⟩
  ·rw[cd om,de om,u1];exact k1
  ·cases A with
   |none=>simp[Value.ownBlock]at e
   |some a=>simp[Value.ownBlock]at e;exact Tf a rfl e
 ·-- no room: a new row
  have hA:∃g,A=some ⟨g,0,none⟩/\∃cur:Array Value,B<=g/\w.heap[g]? =some (.cells cur 54 (0,0))/\cur.toList.take (n*3)=xs:=by
   rcases ho.2 with⟨h0,W⟩|⟨g,cap,cur,W,h4,h5,h6,T,h8,h9⟩
   ·omega
   ·cases W;exact⟨g,rfl,cur,h4,h5,h9⟩
  obtain⟨g,rfl,cur,E,hg,zP⟩:=hA;have tz:i<n:=om;obtain⟨i0,z,e2,e3,e4,e5,e6⟩:=gS.info;have C:∀{w':World},w'.heap[g]? =some (.cells cur 54 (0,0))->∀j v,xs[j]? =some v->w'.cell? ((⟨g,0,none⟩:Addr).add j)=some v:=fun {w'} EV j v hj=>by
   rw[bU];simp only[World.cell?,EV,jx];rw[<-zP,jv]at hj;split at hj
   ·simpa using hj
   ·cases hj
  have hold:(Builtin.firstCells i0.size i (.slice (some ⟨g,0,none⟩) i c)).run Tryz.prog w.drew= .ok (xs.take (i*3)).toArray w.drew:=by
   rw[e4];exact run_firstCells_some w.drew 3 i ⟨g,0,none⟩ i c (xs.take (i*3)) (by rw[eH];omega) (fun j v hj=>by
    rw[jv]at hj;split at hj
    ·exact C (w':=w.drew) hg j v hj
    ·cases hj)
  have X:i+(n+1 - i)=n+1:=om;have ahm:(n+1)*24<=140737488355328:=om;have D:=Lib.run_append_grow_zeros w 40 3 40 54 i0 z .i64 .i64 gS.Ht Tryz.underlying3 e2 e3 (some ⟨g,0,none⟩) i c (xs.take (i*3)) hold (n+1 - i) om om om om (by rw[e5];omega) (by rw[e5,X];exact growslice_fits om ahm);rw[X]at D;obtain⟨G,hG⟩:∃G,G=grownCap w (n+1) c 54:=⟨_,rfl⟩
  have hGn:n+1<=G:=by rw[hG];exact grownCap_ge w _ _ _
  have hGm:G<=maxLen:=by rw[hG];exact grownCap_le_maxLen w (n+1) c _ (by unfold maxLen;omega)
  rw[<-hG]at D;obtain⟨q,N⟩:∃q:List Value,q=((xs.take (i*3)).toArray++Builtin.zeroCells z.cells (n+1 - i)++Builtin.zeroCells z.cells (G - (n+1))).toList:=⟨_,rfl⟩
  have aho:((xs.take (i*3)).toArray++Builtin.zeroCells z.cells (n+1 - i)++Builtin.zeroCells z.cells (G - (n+1)))=q.toArray:=by rw[N]
  have ahp:q.length=G*3:=by
   rw[N];simp only[nW,Array.size_append,zI,eH,size_zeroCells,e6];omega
  have ahq:∀k,k<i*3->q[k]? =xs[k]? :=fun k d=>by
   rw[N];simp only[Array.toList_append,ky];rw[gv (by simp;omega),jv,bm d]
  rw[aho]at D;have ekk:((n:Int)+((1:Nat):Int)) - (i:Int)=((n+1 - i:Nat):Int):=om;have eN:((i:Int)).toNat=i:=cc i;have b:w.grownBy (w.drew.alloc (.cells q.toArray 54)) none:=⟨rfl,rfl,rfl,sm,fun k d _=>RowKit.Below.heap_alloc w.drew _ k d⟩;have Y:=bN (B:=B) b sm hB;have fB:(w.drew.alloc (.cells q.toArray 54)).heap[w.heap.size]? =some (.cells q.toArray 54 (0,0)):=heap_alloc_new w.drew _;obtain⟨W1,hW1⟩:∃W1,W1=w.drew.alloc (.cells q.toArray 54):=⟨_,rfl⟩
  rw[<-hW1]at D b Y fB;have gl:=(ax.1 hg).1;have vl:=(ax.1 y).1;have O:((i:Int)+((1:Nat):Int)).toNat=i+1:=om;rw[eN,ekk];refine⟨om,ir,ir,_,W1,D,Y,b.size,fun k ty cs h=>(by cases h),_,_,_,rfl,om,?_⟩;rw[Ns om];refine nM gS (cs:=x) (cur:=q) (by rw[M];simp only[UE];split<;>omega) (QP (by rw[b.block o vl sm];exact y)) fB om KE hB sm fun w2 c1 c2 c3 c4=>⟨ir,om,om,fun w3 x3=> ?_⟩
  rw[O,Ns om,Ns om];have d1:=ext_nil x3 c1;have SY:w3.heap[g]? =some (.cells cur 54 (0,0)):=ext_nil x3 (by rw[c2 g om,b.block g gl sm];exact hg);have H:(xs.drop (i*3)).length=(n - i)*3:=by rw[sH,S];omega
  refine nM gS (cs:=xs.drop (i*3)) (cur:=setCells q (i*3) x) (by rw[H];simp only[UE];split<;>omega) (fun j v hj=> ?_) d1 (by rw[fQ,H];omega) (fun v Q=>h1 v (vn Q)) hB sm fun w4 f1 f2 f3 f4=> ?_
  ·rw[kp]at hj;have:=C SY (i*3+j) v hj;rw[bU]at this⊢;simpa using this
  refine⟨_,_,rfl,fin _ _ _ ⟨by simp[S,M];omega,.inr ⟨w.heap.size,G,_,rfl,hB,f1,hGn,hGm,by simp[fQ,ahp],?_⟩⟩,?_,fun k d Tf=> ?_⟩
  ·have Z:i*3+x.length<=q.length:=om;have R:(i+1)*3+(xs.drop (i*3)).length<=(setCells q (i*3) x).length:=by rw[fQ,H];omega
   have:=DZ (L:=setCells (setCells q (i*3) x) ((i+1)*3) (xs.drop (i*3))) (x:=x) (p:=i*3) S M om (fun k d=>by
     rw[dV _ _ _ _ R,aq om,dV _ _ _ _ Z,aq om];exact ahq k d)
    (fun k d=>by
     rw[dV _ _ _ _ R,aq om,dV _ _ _ _ Z,bm om];rw[show i*3+k - i*3=k by omega])
    (fun k d JO=>by
     rw[dV _ _ _ _ R,bm (by rw[H];omega),kp];rw[show i*3+(k+3 - (i+1)*3)=k by omega])
   rw[show(n+1)*3=n*3+3 by omega];simpa using this
  ·have:=x3.below.size;have:=b.size;omega
  ·rw[f2 k om];rcases x3.other k (by rw[c3];have:=b.size;omega)with T|⟨t,ht,_⟩
   ·rw[T,c2 k om,b.block k d sm]
   ·simp at ht
 ·-- there is room
  have tz:i<n:=om;have hA:∃g,A=some ⟨g,0,none⟩/\∃cur:Array Value,B<=g/\w.heap[g]? =some (.cells cur 54 (0,0))/\cur.toList.take (n*3)=xs/\cur.size=c*3/\c<=maxLen:=by
   rcases ho.2 with⟨h0,W⟩|⟨g,cap,cur,W,h4,h5,h6,T,h8,h9⟩
   ·omega
   ·cases W;exact⟨g,rfl,cur,h4,h5,h9,h8,T⟩
  obtain⟨g,rfl,cur,E,hg,zP,sB,hcm⟩:=hA;have hgv:g≠o:=hne _ rfl;have eN:((i:Int)).toNat=i:=cc i;have O:((i:Int)+((1:Nat):Int)).toNat=i+1:=om;have enN:((n:Int)+((1:Nat):Int)).toNat=n+1:=om;obtain⟨L,hL⟩:∃L:List Value,L=cur.toList:=⟨_,rfl⟩
  have hLa:cur=L.toArray:=by rw[hL]
  rw[<-hL]at zP;have hLl:L.length=c*3:=by rw[hL];simpa using sB
  rw[hLa]at hg;have C:∀j v,xs[j]? =some v->L[j]? =some v:=fun j v hj=>by
   rw[<-zP,jv]at hj;split at hj
   ·exact hj
   ·cases hj
  have hov:=Lib.run_overlaps_apart w 40 4 54 gS.Ht 3 Tryz.sizeOf54 ⟨o,0,none⟩ ⟨g,(i+1)*3,none⟩ 1 J (n+1 - (i+1)) (c - (i+1)) (fun e=>hgv e.symm) 54 54 (J*3) (c*3) (by simp[World.shape?,y,XY]) (by simp[World.shape?,hg,hLl]) om (Lib.frozen_of_heap y _) (Lib.frozen_of_heap y _);have hco:(callFunc 104 #[.slice (some ⟨o,0,none⟩) 1 J,.slice (some ⟨g,(i+1)*3,none⟩) (n+1 - (i+1)) (c - (i+1))]).run Tryz.prog w= .ok (.value (.bool false)) w:=by
   rw[run_callFunc_extern Tryz.func104 kF kF kF (e:=Extern.SlicesOverlaps.overlaps #[40,40] #[4]) kF,hov];rfl
  rw[O,enN,eN];have zw:n+1<=c:=om;rw[Ns om,Ns om];have I:(xs.drop (i*3)).length=(n - i)*3:=by rw[sH,S];omega
  refine⟨ir,om,ir,om,_,w,hco,Below.refl _ _,fs _,fun k ty cs h=>(by cases h),_,rfl,fun _=>⟨ir,om,om,fun w1 x1=> ?_⟩,fun h=>absurd rfl h⟩;have g1:w1.heap[g]? =some (.cells L.toArray 54 (0,0)):=ext_nil x1 hg;have v1:w1.heap[o]? =some (.cells cv 54 (0,0)):=ext_nil x1 y;refine nM gS (cs:=xs.drop (i*3)) (cur:=L) (by rw[I];simp only[UE];split<;>omega) (fun j v hj=> ?_) g1 (by rw[I];omega) (fun v Q=>h1 v (vn Q)) E sm fun w2 c1 c2 c3 c4=>⟨om,?_⟩
  ·rw[kp]at hj;have:=C (i*3+j) v hj;rw[bU];simp only[World.cell?,g1];simpa using this
  refine nM gS (cs:=x) (cur:=setCells L ((i+1)*3) (xs.drop (i*3))) (by rw[M];simp only[UE];split<;>omega) (QP (by rw[c2 o (fun e=>hgv e.symm)];exact v1)) c1 (by rw[fQ];omega) KE E sm fun w3 d1 d2 d3 d4=> ?_
  refine⟨_,_,rfl,fin _ _ _ ⟨by simp[S,M];omega,.inr ⟨g,c,_,rfl,E,d1,om,hcm,by simp[fQ,hLl],?_⟩⟩,?_,fun k d Tf=> ?_⟩
  ·have Z:(i+1)*3+(xs.drop (i*3)).length<=L.length:=by rw[I];omega
   have R:i*3+x.length<=(setCells L ((i+1)*3) (xs.drop (i*3))).length:=by rw[fQ];omega
   have:=DZ (L:=setCells (setCells L ((i+1)*3) (xs.drop (i*3))) (i*3) x) (x:=x) (p:=i*3) S M om (fun k d=>by
     rw[dV _ _ _ _ R,aq om,dV _ _ _ _ Z,aq om];obtain⟨v,hv3⟩:∃v,xs[k]? =some v:=⟨xs[k]'om,af _⟩
     rw[hv3,C k v hv3])
    (fun k d=>by
     rw[dV _ _ _ _ R,bm om];rw[show i*3+k - i*3=k by omega])
    (fun k d JO=>by
     rw[dV _ _ _ _ R,aq om,dV _ _ _ _ Z,bm (by rw[I];omega),kp];rw[show i*3+(k+3 - (i+1)*3)=k by omega])
   rw[show(n+1)*3=n*3+3 by omega];simpa using this
  ·have:=x1.below.size;omega
  ·have hkg:k≠g:=Tf _ rfl;rw[d2 k hkg,c2 k hkg];rcases x1.other k d with T|⟨t,ht,_⟩
   ·exact T
   ·simp at ht

def gP(ps:List Pa)(f:Pa->ByteArray)(id:Int):Rat:=match (qX ps id).bind fun i=>ps[i]? with|some p=>qR (f p)|none=>0
def gH(hs:List Ho)(f:Ho->ByteArray)(id:Int):Rat:=match (vX hs id).bind fun i=>hs[i]? with|some h=>qR (f h)|none=>0
def tP(ps:List Pa)(f:Pa->ByteArray)(s:Sw):Rat:=(s.aV:Rat)*gP ps f s.aw
def tH(ps:List Pa)(hs:List Ho)(f:Ho->ByteArray)(s:Sw):Rat:=(s.aV:Rat)*gP ps Pa.iz s.aw*gH hs f s.hold
abbrev ldV(a b c x y z:Rat):Value:= .agg #[.string (rS a),.string (rS b),.string (rS c),.string (rS x),.string (rS y),.string (rS z)]
def Zh(ps:List Pa)(hs:List Ho)(l:List Sw):Value:=ldV (eE (tP ps Pa.iz) l) (eE (tP ps Pa.uX) l) (eE (tP ps Pa.fT) l) (eE (tH ps hs Ho.x) l) (eE (tH ps hs Ho.y) l) (eE (tH ps hs Ho.z) l)
theorem Eb{ps:List Pa}{id:Int}{i:Nat}{p:Pa}(h:qX ps id=some i)(e:ps[i]? =some p)(f:Pa->ByteArray):gP ps f id=qR (f p):=by
 unfold gP;rw[h,LS,e]
theorem Ec{hs:List Ho}{id:Int}{i:Nat}{p:Ho}(h:vX hs id=some i)(e:hs[i]? =some p)(f:Ho->ByteArray):gH hs f id=qR (f p):=by
 unfold gH;rw[h,LS,e]
theorem Nz(f:Sw->Rat)(l:List Sw)(s:Sw):eE f (l++[s])=eE f l+f s:=by rw[zo,Ic]
theorem Cc{ps:List Pa}{id:Int}{i:Nat}(h:qX ps id=some i):∃hi:i<ps.length,ps[i].id=id:=by
 obtain⟨p,e,k⟩:=gG h;obtain⟨hi,rfl⟩:=eh.1 e;exact⟨hi,k⟩
theorem KF{hs:List Ho}{id:Int}{i:Nat}(h:vX hs id=some i):∃hi:i<hs.length,hs[i].id=id:=by
 obtain⟨p,e,k⟩:=pv h;obtain⟨hi,rfl⟩:=eh.1 e;exact⟨hi,k⟩
structure tB (ps:List Pa) (hs:List Ho) (l:List Sw):Prop where
 c:BU ps hs
 known:∀s∈l,∃i k,qX ps s.aw=some i/\vX hs s.hold=some k
 u:∀s∈l,1<=s.aV/\s.aV<=9
 n:l.length<=40
theorem tB.filter{ps:List Pa}{hs:List Ho}{l:List Sw}(h:tB ps hs l)(q:Sw->Bool):tB ps hs (l.filter q):=
 ⟨h.c,fun s a=>h.known s (Ao.1 a).1,fun s a=>h.u s (Ao.1 a).1,dT (List.length_filter_le _ _) h.n⟩
theorem yH{l:List Sw}(h:∀s∈l,1<=s.aV){s:Sw}(hs:s∈l):s.aV<=cS l s.aw:=by
 obtain⟨a,b,rfl⟩:=List.append_of_mem hs;rw[show a++s::b=a++([s]++b)from rfl,fU,fU,mH,bm rfl];have h1:=jd (l:=a) (fun x hx=>h x (by simp[hx])) s.aw;have d:=jd (l:=b) (fun x hx=>h x (by simp[hx])) s.aw;omega
theorem eJ.ld{ps:List Pa}{hs:List Ho}{l:List Sw}(h:eJ ps hs l)(hn:l.length<=40):tB ps hs l:=by
 refine⟨h.c,h.known,fun s a=>⟨h.pos s a,?_⟩,hn⟩;obtain⟨i,k,hi,_⟩:=h.known s a;obtain⟨p,e,hid⟩:=gG hi;have hm:=gb e;have h1:=h.full p hm;have b:=yH h.pos a;have d:=(h.c.p1 p hm).2.1.2;rw[hid]at h1;omega
theorem ac1{z:Int}(h1:1<=z)(a:z<=9):Sm 1 (z:Rat):=Sm.ofInt om om
theorem wT{f:Sw->Rat}{l:List Sw}(h:∀s∈l,Sm 2001 (f s)):Sm (2002*l.length+1) (eE f l):=by
 induction l with
 |nil=>exact Sm.zero om
 |cons s r ih=>
  rw[show s::r=[s]++r from rfl,zo,Ic];refine((h s sm).add (ih fun x hx=>h x (by simp[hx]))).mono ?_;simp;omega

section
variable {w0:World} {A0 A1 A:Option Addr} {n0 c0 n1 c1 n c:Nat} {ps:List Pa} {hs:List Ho} {l:List Sw} {R:Value->World->Prop}
theorem tB.smP(h:tB ps hs l)(d:gq w0 A0 n0 A1 n1 ps hs){s:Sw}(g:s∈l):Sm 1000 (gP ps Pa.iz s.aw)/\Sm 1000 (gP ps Pa.uX s.aw)/\Sm 1000 (gP ps Pa.fT s.aw):=by
 obtain⟨i,k,hi,_⟩:=h.known s g;obtain⟨p,e,_⟩:=gG hi;have hm:=gb e;have a:=h.c.vp p hm;have b:=d.sp p hm;unfold vP at a;simp only[cz]at a;rw[Eb hi e,Eb hi e,Eb hi e];exact⟨lC a.1.1 b.iz,lC a.1.2 b.uX,lC a.2 b.fT⟩
theorem tB.smH(h:tB ps hs l)(d:gq w0 A0 n0 A1 n1 ps hs){s:Sw}(g:s∈l):Sm 1000 (gH hs Ho.x s.hold)/\Sm 1000 (gH hs Ho.y s.hold)/\Sm 1000 (gH hs Ho.z s.hold):=by
 obtain⟨_,i,_,hi⟩:=h.known s g;obtain⟨p,e,_⟩:=pv hi;have hm:=gb e;have a:=h.c.vh p hm;have b:=d.sh p hm;unfold vH at a;simp only[cz]at a;rw[Ec hi e,Ec hi e,Ec hi e];exact⟨lC a.1.1.2 b.x,lC a.1.2 b.y,lC a.2 b.z⟩
theorem tB.WK(h:tB ps hs l)(g:gq w0 A0 n0 A1 n1 ps hs){s:Sw}(e:s∈l):
  (Sm 2001 (tP ps Pa.iz s)/\Sm 2001 (tP ps Pa.uX s)/\Sm 2001 (tP ps Pa.fT s))/\(Sm 2001 (tH ps hs Ho.x s)/\Sm 2001 (tH ps hs Ho.y s)/\Sm 2001 (tH ps hs Ho.z s)):=by
 obtain⟨a,b,d⟩:=h.smP g e;obtain⟨x,y,z⟩:=h.smH g e;have hn:=ac1 (h.u s e).1 (h.u s e).2;exact⟨⟨(hn.mul a).mono om,(hn.mul b).mono om,(hn.mul d).mono om⟩,((hn.mul a).mul x).mono om,((hn.mul a).mul y).mono om,((hn.mul a).mul z).mono om⟩
theorem tB.smL(h:tB ps hs l)(b:gq w0 A0 n0 A1 n1 ps hs):
  (kG (eE (tP ps Pa.iz) l)/\kG (eE (tP ps Pa.uX) l)/\kG (eE (tP ps Pa.fT) l))/\(kG (eE (tH ps hs Ho.x) l)/\kG (eE (tH ps hs Ho.y) l)/\kG (eE (tH ps hs Ho.z) l)):=by
 have hn:=h.n;exact⟨⟨(wT fun s a=>(h.WK b a).1.1).mono om,(wT fun s a=>(h.WK b a).1.2.1).mono om,(wT fun s a=>(h.WK b a).1.2.2).mono om⟩,
  (wT fun s a=>(h.WK b a).2.1).mono om,(wT fun s a=>(h.WK b a).2.2.1).mono om,(wT fun s a=>(h.WK b a).2.2.2).mono om⟩
theorem tB.take(h:tB ps hs l)(i:Nat):tB ps hs (l.take i):=
 ⟨h.c,fun s a=>h.known s (k7 a),fun s a=>h.u s (k7 a),by have:=h.n;rw[eH];omega⟩

theorem QQ (hg : bk w0) (g : gq w0 A0 n0 A1 n1 ps hs) (h : bR w0 A 3 (l.map Sw.row)) (hl : l.length = n) (gW : tB ps hs l) (t0 t1 t2 t3 t4 t5 : ByteArray) :
    ∀ (d i : Nat) (w : World), n - i = d → i ≤ n → Below w0.heap.size w0 w →
      F.bl.L3 A n c n i A0 n0 c0 A1 n1 c1 t0 t1 t2 t3 t4 t5 (rS (eE (tP ps Pa.iz) (l.take i))) (rS (eE (tP ps Pa.uX) (l.take i))) (rS (eE (tP ps Pa.fT) (l.take i))) (rS (eE (tH ps hs Ho.x) (l.take i))) (rS (eE (tH ps hs Ho.y) (l.take i))) (rS (eE (tH ps hs Ho.z) (l.take i))) w0.heap.size w fun v _ => v = Zh ps hs l := by
  intro d
  induction d with
  | zero =>
    intro i w hd hi hw
    refine F.bl.L3.step ⟨fun h => by omega, fun _ w2 _ => ?_⟩
    rw [cd om]
    rfl
  | succ d ih =>
    intro i w hd hi hw
    have Y : i < l.length := om
    have anG := gW.n
    have e3 := sc i
    have et : l.take (i + 1) = l.take i ++ [l[i]] := by rw [eU, af Y]; rfl
    have I : l[i] ∈ l := bA Y
    obtain ⟨ip, j, J, K⟩ := gW.known l[i] I
    obtain ⟨G, ac2⟩ := Cc J
    obtain ⟨k, anH⟩ := KF K
    obtain ⟨⟨b1, b2, b3⟩, b4, b5, b6⟩ := (gW.take i).smL g
    obtain ⟨m1, m2, m3⟩ := gW.smP g I
    obtain ⟨m4, m5, m6⟩ := gW.smH g I
    obtain ⟨⟨W, k2, k3⟩, k4, k5, k6⟩ := gW.WK g I
    have hu := gW.u l[i] I
    have Jk := ac1 hu.1 hu.2
    have Z : kG ((l[i].aV : Int) : Rat) := Jk.mono om
    have L := gW.c.vp _ (bA G)
    have M := gW.c.vh _ (bA k)
    unfold vP at L
    unfold vH at M
    simp only [cz] at L M
    have p1 : ps[ip].iz = rS (gP ps Pa.iz l[i].aw) := by rw [Eb J (af G)]; exact gV L.1.1
    have p2 : ps[ip].uX = rS (gP ps Pa.uX l[i].aw) := by rw [Eb J (af G)]; exact gV L.1.2
    have p3 : ps[ip].fT = rS (gP ps Pa.fT l[i].aw) := by rw [Eb J (af G)]; exact gV L.2
    have p4 : hs[j].x = rS (gH hs Ho.x l[i].hold) := by rw [Ec K (af k)]; exact gV M.1.1.2
    have p5 : hs[j].y = rS (gH hs Ho.y l[i].hold) := by rw [Ec K (af k)]; exact gV M.1.2
    have p6 : hs[j].z = rS (gH hs Ho.z l[i].hold) := by rw [Ec K (af k)]; exact gV M.2
    have xf : ∀ {x : Rat}, Sm 2001 x → kG x := fun h => h.mono om
    have H : ∀ {x : Rat}, Sm 1000 x → kG x := fun h => h.mono om
    have fin : ∀ (w : World) (a b : Int), Below w0.heap.size w0 w →
        F.bl.J6 A n c n i A0 n0 c0 A1 n1 c1 t0 t1 t2 t3 t4 t5 (rS (eE (tP ps Pa.iz) (l.take i))) (rS (eE (tP ps Pa.uX) (l.take i))) (rS (eE (tP ps Pa.fT) (l.take i))) (rS (eE (tH ps hs Ho.x) (l.take i))) (rS (eE (tH ps hs Ho.y) (l.take i))) (rS (eE (tH ps hs Ho.z) (l.take i)))
          l[i].hold l[i].aw l[i].aV ps[ip].id a b ps[ip].name ps[ip].iz ps[ip].uX ps[ip].fT hs[j].x hs[j].y hs[j].z w0.heap.size w fun v _ => v = Zh ps hs l := by
      intro w a b hw
      rw [p1, p2, p3, p4, p5, p6]
      have next : ∀ w', Below w0.heap.size w0 w' → F.bl.L3 A n c n ((i : Int) + 1) A0 n0 c0 A1 n1 c1 t0 t1 t2 t3 t4 t5 (rS (eE (tP ps Pa.iz) (l.take i) + tP ps Pa.iz l[i])) (rS (eE (tP ps Pa.uX) (l.take i) + tP ps Pa.uX l[i])) (rS (eE (tP ps Pa.fT) (l.take i) + tP ps Pa.fT l[i])) (rS (eE (tH ps hs Ho.x) (l.take i) + tH ps hs Ho.x l[i])) (rS (eE (tH ps hs Ho.y) (l.take i) + tH ps hs Ho.y l[i])) (rS (eE (tH ps hs Ho.z) (l.take i) + tH ps hs Ho.z l[i])) w0.heap.size w' fun v _ => v = Zh ps hs l := by
        intro w' xN
        have := ih (i + 1) w' om om xN
        rw [et] at this
        simp only [Nz] at this
        rw [e3]
        exact this
      unfold tP tH at *
      refine F.bl.J6.step (pm (mg (hg.next hw) om om) ?_)
      rintro v w1 h1 rfl
      have hw := kP hw h1; clear h1
      refine ⟨_, rfl, pm (je (hg.next hw) Z (H m1)) ?_⟩
      rintro v w2 h1 rfl
      have hw := kP hw h1; clear h1
      refine ⟨_, rfl, fun w3 x3 => ?_⟩
      have hw := kE hw x3; clear x3
      refine pm (jf (hg.next hw) b1 (xf W)) ?_
      rintro v w4 h1 rfl
      have hw := kP hw h1; clear h1
      refine ⟨_, rfl, pm (je (hg.next hw) Z (H m2)) ?_⟩
      rintro v w5 h1 rfl
      have hw := kP hw h1; clear h1
      refine ⟨_, rfl, pm (jf (hg.next hw) b2 (xf k2)) ?_⟩
      rintro v w6 h1 rfl
      have hw := kP hw h1; clear h1
      refine ⟨_, rfl, pm (je (hg.next hw) Z (H m3)) ?_⟩
      rintro v w7 h1 rfl
      have hw := kP hw h1; clear h1
      refine ⟨_, rfl, pm (jf (hg.next hw) b3 (xf k3)) ?_⟩
      rintro v w8 h1 rfl
      have hw := kP hw h1; clear h1
      refine ⟨_, rfl, fun w9 x9 => ?_⟩
      have hw := kE hw x9; clear x9
      refine pm (je (hg.next hw) (xf W) (H m4)) ?_
      rintro v jK h1 rfl
      have hw := kP hw h1; clear h1
      refine ⟨_, rfl, pm (jf (hg.next hw) b4 (xf k4)) ?_⟩
      rintro v wO h1 rfl
      have hw := kP hw h1; clear h1
      refine ⟨_, rfl, pm (je (hg.next hw) (xf W) (H m5)) ?_⟩
      rintro v FD h1 rfl
      have hw := kP hw h1; clear h1
      refine ⟨_, rfl, pm (jf (hg.next hw) b5 (xf k5)) ?_⟩
      rintro v xz h1 rfl
      have hw := kP hw h1; clear h1
      refine ⟨_, rfl, pm (je (hg.next hw) (xf W) (H m6)) ?_⟩
      rintro v GO h1 rfl
      have hw := kP hw h1; clear h1
      refine ⟨_, rfl, pm (jf (hg.next hw) b6 (xf k6)) ?_⟩
      rintro v Ed h1 rfl
      have hw := kP hw h1; clear h1
      refine ⟨_, rfl, ir, fun xe F4 => ?_⟩
      exact next xe (kE hw F4)
    clear ih
    obtain ⟨hb, a, hA, r, _⟩ := (h.av hw lf).at_ (fun _ => rfl) hl Y
    obtain ⟨N, ap, B, _⟩ := g.p.at_ (fun _ => rfl) g.lp G
    obtain ⟨o, ah, m, _⟩ := g.h.at_ (fun _ => rfl) g.lh k
    have cP : ∀ w, Below w0.heap.size w0 w → aa w (ap.add ((ip : Int).toNat * 7)) (ps[ip].row) := fun w hw => by
      obtain ⟨_, a', O, TD, _⟩ := (g.p.av hw lf).at_ (fun _ => rfl) g.lp G
      rw [B] at O
      cases O
      exact TD
    have cH : ∀ w, Below w0.heap.size w0 w → aa w ((ah.add ((j : Int).toNat * 7)).add 4) [.string hs[j].x, .string hs[j].y, .string hs[j].z] := fun w hw => by
      obtain ⟨_, a', O, TD, _⟩ := (g.h.av hw lf).at_ (fun _ => rfl) g.lh k
      rw [m] at O
      cases O
      exact wS TD 4 3
    refine F.bl.L3.step ⟨fun _ => ⟨hb, a, hA, _, _, _, r, fun w6 x6 => ?_⟩, fun h => by omega⟩
    have X := kE hw x6
    have par : ∀ w, Below w0.heap.size w0 w → Pure Tryz.prog 42 #[.agg #[.slice A0 n0 c0, .slice A1 n1 c1], .int .i64 l[i].aw] w fun v _ => v = .int .i64 (ip : Int) := fun w hw => by
      have := gI (c0 := c0) (c1 := c1) (g.av hw) l[i].aw
      rw [J] at this
      exact this
    have C : ∀ w, Below w0.heap.size w0 w → Pure Tryz.prog 43 #[.agg #[.slice A0 n0 c0, .slice A1 n1 c1], .int .i64 l[i].hold] w fun v _ => v = .int .i64 (j : Int) := fun w hw => by
      have := iK (c0 := c0) (c1 := c1) (g.av hw) l[i].hold
      rw [K] at this
      exact this
    have ac5 : ∀ (w : World), Below w0.heap.size w0 w → ∃ P Q S : ByteArray, aa w ((ah.add ((j : Int).toNat * 7)).add 4) [.string P, .string Q, .string S] ∧ ∀ (ts : List Nat) q, Ext w0.heap.size ts w q → F.bl.J6 A n c n i A0 n0 c0 A1 n1 c1 t0 t1 t2 t3 t4 t5 (rS (eE (tP ps Pa.iz) (l.take i))) (rS (eE (tP ps Pa.uX) (l.take i))) (rS (eE (tP ps Pa.fT) (l.take i))) (rS (eE (tH ps hs Ho.x) (l.take i))) (rS (eE (tH ps hs Ho.y) (l.take i))) (rS (eE (tH ps hs Ho.z) (l.take i)))
          l[i].hold l[i].aw l[i].aV ps[ip].id ps[ip].aV ps[ip].cls ps[ip].name ps[ip].iz ps[ip].uX ps[ip].fT P Q S w0.heap.size q fun v _ => v = Zh ps hs l :=
      fun w hw => ⟨_, _, _, cH w hw, fun ts q x => fin q _ _ (kE hw x)⟩
    have D : ∀ (ts E : List Nat) (w : World), Below w0.heap.size w0 w → ∀ T, Ext w0.heap.size ts w T → ∃ P Q S : ByteArray, aa T ((ah.add ((j : Int).toNat * 7)).add 4) [.string P, .string Q, .string S] ∧ ∀ q, Ext w0.heap.size E T q → F.bl.J6 A n c n i A0 n0 c0 A1 n1 c1 t0 t1 t2 t3 t4 t5 (rS (eE (tP ps Pa.iz) (l.take i))) (rS (eE (tP ps Pa.uX) (l.take i))) (rS (eE (tP ps Pa.fT) (l.take i))) (rS (eE (tH ps hs Ho.x) (l.take i))) (rS (eE (tH ps hs Ho.y) (l.take i))) (rS (eE (tH ps hs Ho.z) (l.take i)))
          l[i].hold l[i].aw l[i].aV ps[ip].id ps[ip].aV ps[ip].cls ps[ip].name ps[ip].iz ps[ip].uX ps[ip].fT P Q S w0.heap.size q fun v _ => v = Zh ps hs l :=
      fun ts E w hw T x => by
        obtain ⟨s1, s2, s3, e, f⟩ := ac5 T (kE hw x)
        exact ⟨s1, s2, s3, e, fun q WL => f E q WL⟩
    clear fin
    refine ⟨fun w7 x7 => ?_, fun w55 x55 => ?_⟩
    · have se := kE X x7
      refine pm (par w7 se) ?_
      rintro v jK oC rfl
      have sI := kP se oC
      refine ⟨_, rfl, N, ap, B, _, _, _, _, _, _, _, cP w6 X, fun AD Jr => ?_, fun Js x34 => ?_⟩
      · have oD := kE sI Jr
        refine pm (C AD oD) ?_
        rintro v tG h22 rfl
        have kv := kP oD h22
        exact ⟨_, rfl, o, ah, m, D _ _ tG kv, D _ _ tG kv⟩
      · have tC := kE sI x34
        refine pm (C Js tC) ?_
        rintro v QS h37 rfl
        have pA := kP tC h37
        exact ⟨_, rfl, ⟨o, ah, m, D _ _ QS pA, D _ _ QS pA⟩, o, ah, m, D _ _ QS pA⟩
    · have KG := kE X x55
      refine pm (par w55 KG) ?_
      rintro v Uj h58 rfl
      have QU := kP KG h58
      refine ⟨_, rfl, N, ap, B, _, _, _, _, _, _, _, cP w6 X, fun w67 x67 => ?_⟩
      have U := kE QU x67
      refine pm (C w67 U) ?_
      rintro v Tj h70 rfl
      have V := kP U h70
      exact ⟨_, rfl, o, ah, m, D _ _ Tj V, D _ _ Tj V⟩
theorem bl(hg:bk w0)(a:gq w0 A0 n0 A1 n1 ps hs)(h:bR w0 A 3 (l.map Sw.row))(hl:l.length=n)(gW:tB ps hs l):
  Pure Tryz.prog 94 #[.agg #[.slice A0 n0 c0,.slice A1 n1 c1],.slice A n c] w0 fun v _=>v=Zh ps hs l:=by
 refine F.bl.vc fun w1 b=> ?_
 have:=QQ (c:=c) (c0:=c0) (c1:=c1) hg a h hl gW (⟨#[]⟩) (⟨#[]⟩) (⟨#[]⟩) (⟨#[]⟩) (⟨#[]⟩) (⟨#[]⟩) n 0 w1 rfl om (k0 b);simp only[LO,QA,<-s0]at this;exact this
end

theorem F5{w:World}{A:Option Addr}{n c:Nat}{l:List Sw}(h:bR w A 3 (l.map Sw.row))(hlen:l.length=n)(hn:n<=1000000):
  Pure Tryz.prog 12 #[.slice A n c] w fun v w'=>∃A' c',v= .slice A' n c'/\aF w' w.heap.size 54 A' n c' 3 (l.map Sw.row):=by
 refine F.fa.vc ⟨fun b=> ?_,fun b=> ?_⟩
 ·subst b;have:=h.rp;simp at this;subst this;simp at hlen;subst hlen;exact⟨none,0,rfl,aF.nil⟩
 ·obtain⟨a,rfl⟩:=zY.1 b;refine bc gS [] sm sm lf fun A2 c2 i ho e=> ?_
  refine uc gS lf (by simpa using ho) (h.below e) (by simpa using hlen) (fun r d=>by obtain⟨s,_,rfl⟩:=gX.1 d;rfl) (fun r d=>by obtain⟨s,_,rfl⟩:=gX.1 d;intro u hu;simp[Sw.row]at hu;rcases hu with rfl|rfl|rfl<;>rfl) e.size (by simp;omega) sm fun A' c' j g _ k=> ?_
  simp only[vu,jx,rT]at g⊢;exact⟨A',c',rfl,g⟩
def GQ(l:List Sw)(id:Int):List Sw:=l.filter fun s=>decide (s.hold=id)
theorem px{w:World}{A:Option Addr}{n c:Nat}{l:List Sw}(h:bR w A 3 (l.map Sw.row))(hlen:l.length=n)(hn:n<=1000000)(id:Int):
  Pure Tryz.prog 95 #[.slice A n c,.int .i64 id] w fun v w'=>∃A' m c',v= .slice A' m c'/\bR w' A' 3 ((GQ l id).map Sw.row)/\(GQ l id).length=m:=by
 refine F.px.vc fun w1 r=> ?_
 have g:=k0 r;refine pm (F5 (h.av g lf) hlen hn) ?_;rintro v y z ⟨A',c',rfl,ho⟩;refine⟨_,_,_,rfl,fun d B i=> ?_⟩;have C:=kP g z;have j:∀a,A'=some a->d≠a.block:=fun a ha e=>by
  obtain⟨cs,o⟩:=ho.cells a ha;rw[<-e,i]at o;simp at o
 have b:d<y.heap.size:=(ax.1 i).1;refine cI.mono (Ir (p:=fun s=>decide (s.hold≠id)) C.size (ho.base g.size) om kF fun w' q x=> ?_) ?_
 ·refine F.ue.vc fun G D=>⟨_,eY (ty:=3) ?_,rfl⟩
  exact(k0 D).block d (qc b q.1)|>.trans ((q.2 d b j).trans i)
 ·rintro v H b8 ⟨m,rfl,k,_⟩;refine⟨fun _ _ _ E=>(by cases E),_,_,_,rfl,_,_,_,rfl,?_⟩;have e:(l.filter fun x=> !(decide (x.hold≠id)))=GQ l id:=by
   unfold GQ;refine List.filter_congr fun s _=> ?_
   by_cases h:s.hold=id<;>simp[h]
  rw[e]at k;exact⟨k.sl,by simpa using k.len⟩

abbrev ld0:Value:= .agg #[.string ⟨#[]⟩,.string ⟨#[]⟩,.string ⟨#[]⟩,.string ⟨#[]⟩,.string ⟨#[]⟩,.string ⟨#[]⟩]
def QV(ps:List Pa)(hs:List Ho)(l:List Sw)(id:Int):Value:=
 if gY ps hs l≠0 then .tuple #[ld0,.int .i64 1]else if vX hs id=none then .tuple #[ld0,.int .i64 7]else .tuple #[Zh ps hs (GQ l id),.int .i64 0]
def zx(ps:List Pa)(_:List Ho)(l:List Sw)(h:Ho):Bool:=
 decide (qR h.oh<eE (tP ps Pa.iz) (GQ l h.id))||decide (qR h.room<eE (tP ps Pa.uX) (GQ l h.id))
def QW(ps:List Pa)(hs:List Ho)(l:List Sw):Value:=
 if gY ps hs l≠0 then .tuple #[.int .i64 0,.int .i64 1]else .tuple #[.int .i64 (u6 (hs.findIdx? (zx ps hs l))),.int .i64 0]
theorem oS{o:Option Nat}:u6 o<0↔o=none:=by cases o<;>simp[u6]

section
variable {w:World} {A0 A1 A:Option Addr} {n0 c0 n1 c1 n c:Nat} {ps:List Pa} {hs:List Ho} {l:List Sw}
theorem py(hg:bk w)(b:gq w A0 n0 A1 n1 ps hs)(h:bR w A 3 (l.map Sw.row))(hl:l.length=n)(d:n<=c)(hn:n<=40)(id:Int):
  Pure Tryz.prog 142 #[.agg #[.slice A0 n0 c0,.slice A1 n1 c1],.slice A n c,.int .i64 id] w fun v _=>v=QV ps hs l id:=by
 refine F.py.vc fun w1 e=> ?_
 have hw:=k0 e;refine pm (bT (hg.next hw) (b.av hw) (h.av hw lf) hl d om) ?_;rintro v q g rfl;have hw:=kP hw g;unfold QV;refine⟨_,rfl,fun a r _=>by rw[bm a],fun a=> ?_⟩;rw[aq a];have gW:=(fv (ek.1 a)).ld om;refine pm (iK (b.av hw) id) ?_;rintro v x b8 rfl;have hw:=kP hw b8;refine⟨_,rfl,fun h1 y _=>by rw[bm (oS.1 h1)],fun h1 z i=> ?_⟩;rw[aq (fun k=>h1 (oS.2 k))];have hw:=kE hw i;refine pm (px (h.av hw lf) hl om id) ?_;rintro v B j ⟨A',m,c',rfl,hi,o⟩;have hw:=kP hw j;refine⟨_,_,_,rfl,pm (bl (hg.next hw) (b.av hw) hi o (gW.filter _)) ?_⟩;rintro v C D rfl;exact⟨_,_,_,_,_,_,rfl,fun E _=>rfl⟩
theorem UA(hg:bk w)(d:gq w A0 n0 A1 n1 ps hs)(h:bR w A 3 (l.map Sw.row))(hl:l.length=n)(gW:tB ps hs l){G q1:Addr}(B:∀w',Below w.heap.size w w'->aa w' G [.slice A0 n0 c0,.slice A1 n1 c1])(C:∀w',Below w.heap.size w w'->aa w' q1 [.slice A n c]){x:Ho}(hx:x∈hs):
  Pure Tryz.prog 93 #[x.val,.pointer (some G),.pointer (some q1)] w fun v _=>v= .bool (zx ps hs l x):=by
 have hn:=gW.n;have b:=gW.c.vh x hx;unfold vH at b;simp only[cz]at b;have H:=d.sh x hx;have K:kG (qR x.oh):=H.oh.xf b.1.1.1.2;have br:kG (qR x.room):=H.room.xf b.1.1.1.1;have em:x.oh=rS (qR x.oh):=gV b.1.1.1.2;have L:x.room=rS (qR x.room):=gV b.1.1.1.1;obtain⟨⟨M,N,T⟩,U,V,W⟩:=(gW.filter fun s=>decide (s.hold=x.id)).smL d;have cmp:∀w',Below w.heap.size w w'->Pure Tryz.prog 96 #[.string (rS (eE (tP ps Pa.iz) (GQ l x.id))),.string x.oh] w' fun r D=>∃i:Int,r= .int .i64 i/\((i>0->(fun(v:Value) (_:World)=>v= .bool (zx ps hs l x)) (.bool true) D)/\(¬i>0->
   Pure Tryz.prog 96 #[.string (rS (eE (tP ps Pa.uX) (GQ l x.id))),.string x.room] D fun r I=>∃i:Int,r= .int .i64 i/\(fun(v:Value) (_:World)=>v= .bool (zx ps hs l x)) (.bool (decide (i>0))) I)):=by
  intro w' hw;have c1:=gQ (hg.next hw) M K;rw[<-em]at c1;refine pm c1 ?_;rintro v D O rfl;have hw:=kP hw O;refine⟨_,rfl,fun k=> ?_,fun k=> ?_⟩
  ·have:=gk.1 k;show Value.bool true=_;unfold zx;rw[show(decide (qR x.oh<eE (tP ps Pa.iz) (GQ l x.id)))=true from fi this];rfl
  ·have c2:=gQ (hg.next hw) N br;rw[<-L]at c2;refine pm c2 ?_;rintro v I X rfl;refine⟨_,rfl,?_⟩;show Value.bool _=_;unfold zx;rw[show(decide (qR x.oh<eE (tP ps Pa.iz) (GQ l x.id)))=false from ep fun h=>k (gk.2 h),Ip];refine ca Value.bool ?_;rw[kh];exact gk
 refine F.ke.vc fun w1 P=> ?_
 have y:=k0 P;refine⟨_,_,_,_,_,_,B w1 y,_,_,_,C w1 y,fun Y Q=> ?_,fun Z R=> ?_⟩
 ·have e:=kE y Q;refine pm (px (h.av e lf) hl om x.id) ?_;rintro v S b8 ⟨A',m,c',rfl,hi,z⟩;have a:=kP e b8;refine⟨_,_,_,rfl,pm (bl (hg.next a) (d.av a) hi z (gW.filter _)) ?_,fun Ce g=> ?_⟩
  ·rintro v J j rfl;exact⟨_,_,_,_,_,_,rfl,fun o q=>cmp o (kE (kP a j) q)⟩
  ·have E:=kE a g;refine pm (bl (hg.next E) (d.av E) (hi.kR g) z (gW.filter _)) ?_;rintro v J j rfl;exact⟨_,_,_,_,_,_,rfl,fun o q=>cmp o (kE (kP E j) q)⟩
 ·have e:=kE y R;refine pm (px (h.av e lf) hl om x.id) ?_;rintro v S b8 ⟨A',m,c',rfl,hi,z⟩;have a:=kP e b8;refine⟨_,_,_,rfl,pm (bl (hg.next a) (d.av a) hi z (gW.filter _)) ?_⟩;rintro v J j rfl;exact⟨_,_,_,_,_,_,rfl,fun o q=>cmp o (kE (kP a j) q)⟩
theorem ig(hg:bk w)(a:gq w A0 n0 A1 n1 ps hs)(h:bR w A 3 (l.map Sw.row))(hl:l.length=n)(e:n<=c)(hn:n<=40):
  Pure Tryz.prog 40 #[.agg #[.slice A0 n0 c0,.slice A1 n1 c1],.slice A n c] w fun v _=>v=QW ps hs l:=by
 have g:=a.nh;refine F.ig.vc fun w1 i=> ?_
 have hw:=k0 i;refine pm (bT (hg.next hw) (a.av hw) (h.av hw lf) hl e om) ?_;rintro v y j rfl;have hw:=kP hw j;unfold QW;refine⟨_,rfl,fun b=>by rw[bm b],fun b z k m p6 o q=> ?_⟩;rw[aq b];have gW:=(fv (ek.1 b)).ld om;refine pm (AB (p:=zx ps hs l) ((a.av hw).h) a.lh om kF fun w' hb x hx=> ?_) ?_
 ·exact UA (hg.next (kP hw hb)) (a.av (kP hw hb)) (h.av (kP hw hb) lf) hl gW (fun r d=>eY (ag (ag q hb) d)) (fun r d=>eY (ag (ag m hb) d)) hx
 ·rintro v B C rfl;exact⟨_,rfl,rfl⟩
end

theorem Cg(t a:Sw)(r:List Sw):vZ t (a::r)=if fC a t then vZ t r+1 else 0:=by
 unfold vZ;rw[List.takeWhile_cons];by_cases h:fC a t
 ·simp[h]
 ·simp[h]
theorem Is(t a:Sw)(r:List Sw):il t (a::r)=if fC a t then il t r else decide (a.hold=t.hold/\a.aw=t.aw):=by
 unfold il;rw[Cg];by_cases h:fC a t
 ·rw[bm h,bm h];rfl
 ·rw[aq h,aq h];rfl
theorem Mo{a t:Sw}(h:¬fC a t):(a.hold=t.hold/\a.aw=t.aw)∨fC t a:=by unfold fC at*;omega
theorem Ef{t:Sw}:∀{l:List Sw},sD l->l.filter (fun x=>decide (fC x t))=l.take (vZ t l):=by
 intro l;induction l with
 |nil=>intro _;rfl
 |cons a r ih=>
  intro h;obtain⟨p,q⟩:=B6.1 h;rw[Cg];by_cases e:fC a t
  ·rw[bm e,List.filter_cons_of_pos (by simpa using e),ih q];rfl
  ·rw[aq e,M5 (by simpa using e)];rw[LO,List.filter_eq_nil_iff];intro x hx k;exact e (uY (p x hx) (by simpa using k))
theorem Eg{t:Sw}:∀{l:List Sw},sD l->l.filter (fun x=>decide (fC t x))=l.drop (vZ t l+if il t l=true then 1 else 0):=by
 intro l;induction l with
 |nil=>intro _;simp
 |cons a r ih=>
  intro h;obtain⟨p,q⟩:=B6.1 h;rw[Cg,Is];by_cases e:fC a t
  ·rw[bm e,bm e,M5 (by simpa using DN e),ih q,show vZ t r+1+(if il t r=true then 1 else 0)=(vZ t r+if il t r=true then 1 else 0)+1 by omega];rfl
  ·rw[aq e,aq e];have all:∀x∈r,fC t x:=fun x hx=>by
    rcases Mo e with k|k
    ·have:=p x hx;unfold fC at*;omega
    ·exact uY k (p x hx)
   have b:r.filter (fun x=>decide (fC t x))=r:=QO.2 fun x hx=>by simpa using all x hx
   by_cases k:a.hold=t.hold/\a.aw=t.aw
   ·rw[fi k,bm rfl,M5 (by simp;unfold fC;omega),b];rfl
   ·rw[ep k,aq sm,List.filter_cons_of_pos (by simpa using(Mo e).resolve_left k),b];rfl
theorem Ci{t:Sw}{l:List Sw}(h:il t l=true):∃hi:vZ t l<l.length,l[vZ t l].hold=t.hold/\l[vZ t l].aw=t.aw:=by
 unfold il at h;by_cases hi:vZ t l<l.length
 ·rw[af hi]at h;exact⟨hi,by simpa using h⟩
 ·rw[hJ om]at h;cases h
theorem yI{t:Sw}{l:List Sw}(hs:sD l)(h:il t l=true)(hi:vZ t l<l.length):ie l t.hold t.aw=l[vZ t l].aV:=by
 obtain⟨_,a,b⟩:=Ci h;rw[<-FQ hs (bA hi),a,b]
theorem uo{t:Sw}{l:List Sw}(hs:sD l)(h:il t l=false):ie l t.hold t.aw=0:=by
 refine BW fun s a k=> ?_
 have d:=Ef (t:=t) hs;have b:=Eg (t:=t) hs;rw[h,aq sm,tT]at b;rw[<-kl (vZ t l) l,<-d,<-b]at a;rcases ga.1 a with m|m
 ·have:=(Ao.1 m).2;simp at this;unfold fC at this;omega
 ·have:=(Ao.1 m).2;simp at this;unfold fC at this;omega
theorem KH{t:Sw}{l:List Sw}(hs:sD l){n:Int}:Ky l ⟨t.hold,t.aw,n⟩=l.take (vZ t l)++(if 0<n then[⟨t.hold,t.aw,n⟩]else[])++l.drop (vZ t l+if il t l=true then 1 else 0):=by
 unfold Ky;rw[<-Ef hs,<-Eg hs];rfl
theorem Zk{l:List Sw}{i:Nat}(hi:i<l.length)(s:Sw):l.set i s=l.take i++[s]++l.drop (i+1):=by
 rw[List.set_eq_take_append_cons_drop,bm hi];simp

section
variable {w0:World} {A0 A1 A:Option Addr} {n0 c0 n1 c1 n c:Nat} {ps:List Pa} {hs:List Ho} {l:List Sw}
theorem UC(hc:gq w0 A0 n0 A1 n1 ps hs)(h:bR w0 A 3 (l.map Sw.row))(hl:l.length=n)(hn:n<=40)(b:eJ ps hs l)(t:Sw)(hu: -9<=t.aV/\t.aV<=9/\t.aV≠0){ip:Nat}(F3:qX ps t.aw=some ip){R:Value->World->Prop}
  (Dd:∀w,ie l t.hold t.aw+t.aV<0->R (.tuple #[.slice none 0 0,.int .i64 11]) w)
  (WH:∀w p,¬ie l t.hold t.aw+t.aV<0->ps[ip]? =some p->p.aV<cS l t.aw+t.aV->R (.tuple #[.slice none 0 0,.int .i64 12]) w)
  (gW:∀w p A m c,¬ie l t.hold t.aw+t.aV<0->ps[ip]? =some p->¬p.aV<cS l t.aw+t.aV->aF w w0.heap.size 54 A m c 3 ((Ky l ⟨t.hold,t.aw,ie l t.hold t.aw+t.aV⟩).map Sw.row)->R (.tuple #[.slice A m c,.int .i64 0]) w)
  {w:World} (hw:Below w0.heap.size w0 w):F.fG.J12 A n c ip (vZ t l) (il t l) (ie l t.hold t.aw) A0 n0 c0 A1 n1 c1 t.hold t.aw t.aV w0.heap.size w R:=by
 obtain⟨E,J⟩:=Cc F3;have o:=bA E;have hpu:=(b.c.p1 _ o).2.1;have K:=b.full _ o;rw[J]at K;have Jk:=jd b.pos t.aw;have ham:=BX b.pos t.hold t.aw;have hlb:=Zc t l;have hle:ie l t.hold t.aw<=9:=by
  rcases ry l t.hold t.aw with⟨e,_⟩|⟨x,hx,e1,e2,e3⟩
  ·omega
  ·have:=yH b.pos hx;rw[e1]at this;omega
 refine F.fG.J12.step ⟨ir,fun k=>Dd w k,fun k=> ?_⟩;obtain⟨L,ap,M,_,N⟩:=(hc.p.av hw lf).at_ (fun _=>rfl) hc.lp E;refine⟨L,ap,M,_,N 1 _ rfl,fun AD Jr=> ?_⟩;have hw:=kE hw Jr;refine pm (dt (h.av hw lf) hl om (b.smu t.aw)) ?_;rintro v G KI rfl;have hw:=kP hw KI;refine⟨_,rfl,ir,fun O=>WH G _ k (af E) O,fun O=> ?_⟩;have fin:=fun w A m c ho=>gW w _ A m c k (af E) O ho
 refine Ik gS om hw.size fun UD akz P Ju=> ?_
 have rA:=kP hw Ju;have hB:=hw.size;have Q:=h.av rA lf;refine Dk gS (P.base hw.size) Q (by simpa using hl) (fun r b=>by obtain⟨s,_,rfl⟩:=gX.1 b;rfl) (fun r b=>by obtain⟨s,_,rfl⟩:=gX.1 b;intro u hu;simp[Sw.row]at hu;rcases hu with rfl|rfl|rfl<;>rfl) dc fun H q k28 OW=> ?_
 have S:=rA.trans OW;refine⟨ir,cK 54 F0 S.size fun FC fB Zl hlt=> ?_⟩;have QY:=kP S Zl;refine⟨_,_,S.size,rfl,fB,by simp[Value.cells],rfl,fun y T=> ?_⟩;have U:y.heap[H.heap.size]? =some (.cells ([.int .i64 t.hold,.int .i64 t.aw,.int .i64 (ie l t.hold t.aw+t.aV)]:List Value).toArray 54 (0,0)):=by
  have:=T.at_;simpa[setCells,Value.cells]using this
 have I:w0.heap.size<=y.heap.size:=by rw[T.size];exact QY.size
 have anO:G.heap.size<H.heap.size:=by
  have:=(q.uP _ rfl).2;simpa using this
 have j:aF y w0.heap.size 54 (some ⟨G.heap.size,0,none⟩) n n 3 (l.map Sw.row):=(q.below Zl).other fun x hx=>T.rest _ (by cases hx;show G.heap.size≠H.heap.size;omega)
 refine⟨fun hf=> ?_,fun hf=> ?_⟩
 ·have ha0:=uo b.Kw hf;have z:0<ie l t.hold t.aw+t.aV:=om;refine⟨_,_,_,eY U,?_⟩;refine bc gS [.agg #[.int .i64 t.hold,.int .i64 t.aw,.int .i64 (ie l t.hold t.aw+t.aV)]] (by simp[Value.cells]) sm I fun A2 c2 UB Eh V=> ?_
  have W:∃g,A2=some ⟨g,0,none⟩/\y.heap.size<=g:=by
   rcases Eh.1.2 with⟨_,X⟩|⟨g,cap,cur,X,h4,_⟩
   ·simp at X
   ·cases X;exact⟨g,rfl,h4⟩
  obtain⟨vb,rfl,hvb⟩:=W;have Y:aF UB w0.heap.size 54 (some ⟨vb,0,none⟩) 1 c2 3 [(⟨t.hold,t.aw,ie l t.hold t.aw+t.aV⟩:Sw).row]:=Eh.base I;refine cI.mono (Uy (dT I V.size) (j.below V) om om Y fun a ha e=> ?_) ?_
  ·cases ha;have:=(j.uP _ rfl).2;simp only at e this;omega
  ·rintro v w43 Zm ⟨A',c',rfl,Z,oR⟩;refine⟨fun i ty cs B C=>oR.2 i (ax.1 C).1 fun a ha e=> ?_,_,_,_,rfl,fin _ _ _ _ ?_⟩
   ·cases ha;have:=((j.below V).cells _ rfl);obtain⟨CS,d⟩:=this;rw[<-e,C]at d;simp only[CY,Obj.cells.injEq]at d;rw[d.2.1]at B
    revert B
    decide
   ·rw[KH b.Kw,hf,bm z];simpa using Z
 ·have hf:il t l=true:=by simpa using hf
  obtain⟨hi,e1,e2⟩:=Ci hf;have ha:=yI b.Kw hf hi;have e3:((vZ t l:Nat):Int)+1=((vZ t l+1:Nat):Int):=om;refine⟨_,(show aa y ((⟨H.heap.size,0,none⟩:Addr).add 2) [.int .i64 (ie l t.hold t.aw+t.aV)]from wS (eY U) 2 1),fun hz=> ?_,fun hz=> ?_⟩
  ·refine⟨ir,?_⟩;rw[e3];refine cI.mono (Ux I j om om) ?_;rintro v w47 b47 ⟨m,rfl,o47,oR⟩;refine⟨fun i ty cs B C=>oR.2 i (ax.1 C).1 fun a ha e=> ?_,_,_,_,rfl,fin _ _ _ _ ?_⟩
   ·cases ha;obtain⟨CS,d⟩:=j.cells _ rfl;rw[<-e,C]at d;simp only[CY,Obj.cells.injEq]at d;rw[d.2.1]at B
    revert B
    decide
   ·rw[KH b.Kw,hf,aq om];simpa using o47
  ·refine⟨_,_,_,eY U,?_⟩;obtain⟨g1,a2,W,cs,g2,g3,g4,g5,g6⟩:=j.Nj (i:=((vZ t l:Nat):Int)) om om [.int .i64 t.hold,.int .i64 t.aw,.int .i64 (ie l t.hold t.aw+t.aV)] ((l[vZ t l]'om).row) (by rw[cc,hM,af om];rfl) rfl;refine⟨g1,a2,W,cs,_,g2,g3,g4,g5,rfl,fun w54 ahz=>fin _ _ _ _ ?_⟩;have D:=g6 w54 ahz;rw[cc]at D;rw[KH b.Kw,hf,bm om,bm rfl,<-Zk hi,Cd];exact D
theorem fG{w:World}(hg:bk w)(g:gq w A0 n0 A1 n1 ps hs)(h:bR w A 3 (l.map Sw.row))(hl:l.length=n)(B:n<=c)(hn:n<=40)(t:Sw):
  Pure Tryz.prog 15 #[.agg #[.slice A0 n0 c0,.slice A1 n1 c1],.slice A n c,t.val] w (Io (zO ps hs l t) w.heap.size):=by
 refine F.fG.vc fun w1 C=> ?_
 have hw:=k0 C;refine pm (bT (hg.next hw) (g.av hw) (h.av hw lf) hl B om) ?_;rintro v P D rfl;have hw:=kP hw D;unfold zO;refine⟨_,rfl,fun i=>by rw[bm i];rfl,fun i=> ?_⟩;rw[aq i];have d:=fv (ek.1 i);refine pm (gI (g.av hw) t.aw) ?_;rintro v Q E rfl;have hw:=kP hw E;refine⟨_,rfl,fun h1=>by rw[oS.1 h1];rfl,fun h1=> ?_⟩;refine pm (iK (g.av hw) t.hold) ?_;rintro v S G rfl;have hw:=kP hw G;cases r:qX ps t.aw with
 |none=>exact absurd (oS.2 r) h1
 |some ip=>
 refine⟨_,rfl,fun j=>by rw[oS.1 j];rfl,fun j=> ?_⟩;cases H:vX hs t.hold with
 |none=>exact absurd (oS.2 H) j
 |some ih=>
 refine⟨fun o=>by simp only;rw[bm (.inl o)];rfl,fun o=>⟨fun x=>by simp only;rw[bm (.inr (.inl x))];rfl,fun x=>⟨fun I=>by simp only;rw[bm (.inr (.inr om))];rfl,fun I=> ?_⟩⟩⟩;simp only;rw[aq om];refine pm (FZ (h.av hw lf) hl om d.Kw ⟨t.hold,t.aw,0⟩) ?_;rintro v y K rfl;have hw:=kP hw K;have L:∀u:Int,vZ ⟨t.hold,t.aw,u⟩ l=vZ t l:=fun u=>rfl
 have M:∀u:Int,il ⟨t.hold,t.aw,u⟩ l=il t l:=fun u=>rfl
 rw[L,M];have J:=fun(w':World) N=>UC (c:=c) (c0:=c0) (c1:=c1) g h hl hn d t ⟨om,om,o⟩ r (R:=Io (if ie l t.hold t.aw+t.aV<0 then .error 11 else match ps[ip]? with
   |some p=>if p.aV<cS l t.aw+t.aV then .error 12 else .ok (Ky l ⟨t.hold,t.aw,ie l t.hold t.aw+t.aV⟩)
   |none=> .error 0) w.heap.size)
  (fun z k=>by rw[bm k];rfl) (fun z p k e q=>by rw[aq k,e];simp only;rw[bm q];rfl)
  (fun z p A m c k e q ho=>by rw[aq k,e];simp only;rw[aq q];exact⟨A,m,c,rfl,ho⟩) (w:=w') N
 refine⟨_,_,rfl,fun hf=> ?_,fun hf=> ?_⟩
 ·obtain⟨hi,T,U⟩:=Ci hf;obtain⟨hb,a,O,_,b⟩:=(h.av hw lf).at_ (fun _=>rfl) hl hi;refine⟨hb,a,O,_,b 2 _ rfl,?_⟩;have:=J y hw;rw[yI d.Kw hf hi]at this;rw[yI d.Kw hf hi];exact this
 ·have:=J y hw;rw[uo d.Kw hf]at this;rw[uo d.Kw hf];exact this
end
end Go.Proofs.YtbcojgcjjpggnaaGreatDoor.B

open Go.Proofs.YtbcojgcjjpggnaaGreatDoor

namespace Go.Proofs.YtbcojgcjjpggnaaGreatDoor.B
open Go Go.RowKit Go.Proofs Go.Proofs.YtbcojgcjjpggnaaGreatDoor.Vc

structure QT where
 b:Bool
 A:Option Addr
 n:Nat
 c:Nat
 A':Option Addr
 n':Nat
 c':Nat
 r:Rat
def QT.is(x:QT)(w:World):Prop:=Tg w x.b x.A x.n x.c x.A' x.n' x.c' x.r
def Qs(w:World)(L:List QT):Prop:=∀x∈L,x.is w
theorem Qs.below{w w':World}{L:List QT}(h:Qs w L)(hb:Below w.heap.size w w'):Qs w' L:=fun x hx=>Tg.below (h x hx) hb
theorem Qs.ext{w w':World}{B:Nat}{ts:List Nat}{L:List QT}(h:Qs w L)(e:Ext B ts w w')(a:227∉ts):Qs w' L:=fun x hx=>Tg.ext (h x hx) e a
theorem Qs.add{w:World}{L:List QT}(h:Qs w L){x:QT}(k:x.is w):Qs w (x::L):=fun y hy=>by
 rcases cy.1 hy with rfl|hy
 ·exact k
 ·exact h y hy
theorem Qs.nil{w:World}:Qs w []:=fun x hx=>by cases hx
theorem QR.qt{r:Rat}{v:Value}{w:World}(h:QR r v w):∃x:QT,x.r=r/\v= .agg #[.bool x.b,.slice x.A x.n x.c,.slice x.A' x.n' x.c']/\x.is w:=by
 obtain⟨b,A,n,c,A',n',c',rfl,k⟩:=h;exact⟨⟨b,A,n,c,A',n',c',r⟩,rfl,rfl,k⟩
section
variable {w0:World} {A0 A1 A:Option Addr} {n0 c0 n1 c1 n c:Nat} {ps:List Pa} {hs:List Ho} {l:List Sw}

end
end Go.Proofs.YtbcojgcjjpggnaaGreatDoor.B

open Go.Proofs.YtbcojgcjjpggnaaGreatDoor

namespace Go.Proofs.YtbcojgcjjpggnaaGreatDoor.B
open Go Go.RowKit Go.Proofs Go.Proofs.YtbcojgcjjpggnaaGreatDoor.Vc

theorem Zn{ps:List Pa}{hs:List Ho}{l:List Sw}(a:eJ ps hs l)(h p:Int):ie l h p<=9:=by
 rcases ry l h p with⟨e,_⟩|⟨x,hx,b,d,g⟩
 ·omega
 ·have:=((a.known x hx));obtain⟨i,_,hi,_⟩:=this;obtain⟨q,e,hid⟩:=gG hi;have hm:=gb e;have h1:=a.full q hm;have j:=yH a.pos hx;have k:=(a.c.p1 q hm).2.1.2;rw[hid]at h1;omega
section
variable {w0:World} {A0 A1 A:Option Addr} {n0 c0 n1 c1 n c:Nat} {ps:List Pa} {hs:List Ho} {l:List Sw}
end

theorem extAll{B:Nat}{w w':World}(x:Ext B [] w w'):Below w.heap.size w w':=⟨x.below.os,x.below.tape,x.below.output,x.below.size,fun k a=>by
 rcases x.other k a with e|⟨t,b,_⟩
 ·exact e
 ·simp at b⟩
theorem Zo{w:World}{A:Option Addr}{n c:Nat}{l:List Int}(h:bR w A 1 (l.map fE))(hlen:l.length=n)(hn:n<=1000000):
  Pure Tryz.prog 282 #[.slice A n c] w fun v w'=>∃A' c',v= .slice A' n c'/\aF w' w.heap.size 3 A' n c' 1 (l.map fE):=by
 refine F.jJ.vc ⟨fun b=> ?_,fun b=> ?_⟩
 ·subst b;have:=h.rp;simp at this;subst this;simp at hlen;subst hlen;exact⟨none,0,rfl,aF.nil⟩
 ·obtain⟨a,rfl⟩:=zY.1 b;refine bc gK [] sm sm lf fun A2 c2 i ho e=> ?_
  refine uc gK lf (by simpa using ho) (h.below e) (by simpa using hlen) (fun r d=>by obtain⟨s,_,rfl⟩:=gX.1 d;rfl) (fun r d=>by obtain⟨s,_,rfl⟩:=gX.1 d;intro u hu;simp[fE]at hu;subst hu;rfl) e.size (by simp;omega) sm fun A' c' j g _ k=> ?_
  simp only[vu,jx,rT]at g⊢;exact⟨A',c',rfl,g⟩
end Go.Proofs.YtbcojgcjjpggnaaGreatDoor.B

set_option maxRecDepth 100000
set_option maxHeartbeats 4000000
namespace Go.Proofs.YtbcojgcjjpggnaaGreatDoor.F
open Go Go.RowKit Go.Proofs Go.Proofs.YtbcojgcjjpggnaaGreatDoor.Vc
open Tryz
variable {A C D E G H J K A0 A1 A2 A3 A4 A5 A6 A7 A8 A9 C0 C1 C2 C3 C4 C5 C6 C7 C8 C9:O} {a b c d e f g i j l m n o a0 a1 a2 a3 a4 a5 a6 a7 a8 a9 b0 b1 b2 b3 b4 b5 b6 b7 b8 b9 c0 c1 c2 c3 c4 c5 c6 c7 c8 c9:Nat} {p q r s t u v x p0 p1 p2 p3 p4 p5 p6 p7 p8 p9 q0 q1 q2 q3 q4 q5 q6 q7 q8 q9:Int} {L M N N0 N1 N2 N3 N4 N5 N6 N7 N8 N9 T0 T1 T2 T3 T4 T5 T6 T7 T8 T9:ByteArray} {Q S:Bool} {B:Nat} {w:World} {R:Kt}
def df.L4(a:O)(b c:Nat)(d e:Int):=Lt 170 f170 4 [vS 0 a b c,vI 10 d,vI 11 e] []
def df.cx:Pm:=([((true,4),[0,10,11],[])],[])
theorem df.L4.step
  (h:(Br (p<q) (Pure P 205 #[.slice A a b,I p] w (Ri fun c d=>(Br (c≠0) (R (.tuple #[I p,I c]) d) (aS .i64 (p+1)/\(df.L4 A a b q (p+1) B d R))))) (R (.tuple #[(I (-1:Int)),I 0]) w))):
  df.L4 A a b q p B w R:=
 lr df.cx func170 h
theorem df.vc
  (h:(Br ((a:Int)>16) (R (.tuple #[(I (-1:Int)),I 8]) w) (df.L4 A a b (a:Int) (0:Int) w.heap.size w R))):
  Pure P 170 #[.slice A a b] w R:=
 pr df.cx func170 h

def nN.cx:Pm:=([],[(3,1,5),(10,9999,3)])
theorem nN.vc
  (h:(∀s,Ext w.heap.size [] w s->(Pure P 212 #[.slice A a c] s (Rb fun b2 t=>(Br (b2=false) (R (.tuple #[.slice none 0 0,I 1]) t) (Pure P 213 #[.slice A a c,.slice C b d] t (Rb fun b5 u=>(Br (b5=false) (R (.tuple #[.slice none 0 0,I 1]) u) (Pure P 71 #[.string L] u (Rb fun b8 m=>(Br (b8=false) (R (.tuple #[.slice none 0 0,I 1]) m) (∀f:Nat,w.heap.size<=f->m.heap[f]? =some (.cells [I p,I q,.string L].toArray 243 (0,0))->(Pure P 214 #[.slice A a c,(.func (.func 215) #[] #[(.pointer (some (⟨f,0,none⟩:Addr)))])] m (Ri fun e n=>(Br (e<0) (R (.tuple #[.slice none 0 0,I 7]) n) (∃v,aa n ((⟨f,0,none⟩:Addr).add 1) [I v]/\(Pure P 216 #[I v] n (Rb fun W j=>(Br (W=false) (R (.tuple #[.slice none 0 0,I 2]) j) (∃x,aa j ((⟨f,0,none⟩:Addr).add 1) [I x]/\(Ix e b C fun e6=>(∃y,aa j ((e6.add ((e).toNat*4)).add 1) [I y]/\(Br (x<y) (∀z,Ext w.heap.size [] j z->(R (.tuple #[.slice none 0 0,I 5]) z)) (∀l,Ext w.heap.size [] j l->(Ix e a A fun e7=>(∃D E G H J K M,aa l (e7.add ((e).toNat*7)) [I D,.string E,.string G,.string H,.string J,.string K,.string M]/\(∃N,aa l ((⟨f,0,none⟩:Addr).add 2) [.string N]/\(∀O,Ext w.heap.size [] l O->(Pure P 217 #[.agg #[I D,.string E,.string G,.string H,.string J,.string K,.string M],.string N] O (rV fun Q g3 e8=>(Pure P 33 #[.slice C b d] e8 (Rs fun S T e9 g=>(∃U,aa g ((⟨f,0,none⟩:Addr).add 0) [I U]/\(∃V,aa g ((⟨f,0,none⟩:Addr).add 1) [I V]/\(Ix e a A fun g0=>(∃X Y Z d0 d1 d2 d3,aa g (g0.add ((e).toNat*7)) [I X,.string Y,.string Z,.string d0,.string d1,.string d2,.string d3]/\(Ix e b C fun g1=>(∃d4 d5 d6 d7,aa g (g1.add ((e).toNat*4)) [I d4,I d5,I d6,.string d7]/\(∃d8,aa g ((⟨f,0,none⟩:Addr).add 1) [I d8]/\(∀d9,Ext w.heap.size [] g d9->(Pure P 218 #[.agg #[I X,.string Y,.string Z,.string d0,.string d1,.string d2,.string d3],.agg #[I d4,I d5,I d6,.string d7],.string Q,I d8] d9 (Ri fun g2 k=>(Ix e T S fun i=>(∃(o:List Value)(r:Nat),w.heap.size<=(i.add ((e).toNat*4)).block/\(i.add ((e).toNat*4)).spot=none/\k.heap[(i.add ((e).toNat*4)).block]? =some (.cells o.toArray r (0,0))/\(i.add ((e).toNat*4)).off+4<=o.length/\hasType r []=false/\∀F,aC k F (i.add ((e).toNat*4)).block r (setCells o (i.add ((e).toNat*4)).off [I U,I V,I g2,.string Q])->(R (.tuple #[.slice S T e9,I 0]) F))))))))))))))))))))))))))))))))))))))))))))):
  Pure P 173 #[.slice A a c,.slice C b d,.agg #[I p,I q,.string L]] w R:=
 pr nN.cx func173 h

def dz.L3(a:O)(b c:Nat)(d:Int)(e:O)(f g:Nat)(i j l:Int)(m n o p q r:ByteArray):=Lt 205 f205 3 [vS 0 a b c,vI 1 d,vL 5,vS 22 e f g,vI 23 i,vI 24 j] [⟨5,false,141,[(I l),(.string m),(.string n),(.string o),(.string p),(.string q),(.string r)]⟩]
def dz.cx:Pm:=([((true,3),[0,1,5,22,23,24],[5])],[(2,10,2)])
theorem dz.L3.step
  (h:(Br (q<s) (Ix q b C fun t=>(∃f,aa w (t.add ((q).toNat*1)) [.string f]/\(Pure P 71 #[.string f] w (Rb fun u g=>(Br (u=false) (R (I 1) g) (aS .i64 (q+1)/\(dz.L3 A a c p C b d s (q+1) r L M N2 N N0 N1 B g R))))))) (Br (((ByteArray.size L:Int):Int)<1) (R (I 4) w) (Br (((ByteArray.size L:Int):Int)>64) (R (I 4) w) (Br (r<1) (R (I 2) w) (Br (r>1073741824) (R (I 2) w) (Pure P 247 #[.string M] w (Ri fun v i=>(Br (v=0) (R (I 2) i) (Pure P 248 #[.string N,.string N0] i (Ri fun x j=>(Br (x>0) (R (I 2) j) (Pure P 247 #[.string N1] j (Ri fun y e=>(Br (y<=(0:Int)) (R (I 2) e) (Br (p>0) (aS .i64 (p - (1:Int))/\(Ix (p - (1:Int)) a A fun z=>(∃l,aa e ((z.add (((p - (1:Int))).toNat*7)).add 0) [I l]/\(Br (l≥r) (∀m,Ext B [] e m->(R (I 5) m)) (∀n,Ext B [] e n->(R (I 0) n)))))) (∀o,Ext B [] e o->(R (I 0) o)))))))))))))))))):
  dz.L3 A a c p C b d s q r L M N2 N N0 N1 B w R:=
 lr dz.cx func205 h
theorem dz.vc
  (h:(Ix p a A fun n=>(∃i j c d e f g,aa w (n.add ((p).toNat*7)) [I i,.string j,.string c,.string d,.string e,.string f,.string g]/\(∀l,Ext w.heap.size [] w l->(ae P (Instr.buildSlice 29 5 #[(0,(.string c)),(1,(.string d)),(2,(.string e)),(3,(.string f)),(4,(.string g))]) w.heap.size [141] l (Rs fun o m q r=>(dz.L3 A a b p o m q (m:Int) (0:Int) i j c d e f g w.heap.size r R))))))):
  Pure P 205 #[.slice A a b,I p] w R:=
 pr dz.cx func205 h

def jV.cx:Pm:=([],[])
theorem jV.vc
  (h:(Pure P 170 #[.slice A a b] w (Rii fun e c d=>(R (.bool (decide (c=0))) d)))):
  Pure P 212 #[.slice A a b] w R:=
 pr jV.cx func212 h

def du.L4(a:O)(b c:Nat)(d:O)(e f:Nat)(g i:Int):=Lt 213 f213 4 [vS 0 a b c,vS 12 d e f,vI 13 g,vI 14 i] []
def du.cx:Pm:=([((true,4),[0,12,13,14],[])],[(6,9999,3)])
theorem du.L4.step
  (h:(Br (p<q) (Ix p b C fun u=>(∃l i g j,aa w (u.add ((p).toNat*4)) [I l,I i,I g,.string j]/\(∀e,Ext B [] w e->(Ix p a A fun v=>(∃m,aa e ((v.add ((p).toNat*7)).add 0) [I m]/\(Br (l≠m) (∀n,Ext B [] e n->(R (.bool false) n)) (Br (g<0) (∀o,Ext B [] e o->(R (.bool false) o)) (Br (g>3) (∀r,Ext B [] e r->(R (.bool false) r)) (∀s,Ext B [] e s->(Pure P 216 #[I i] s (Rb fun x t=>(Br (x=false) (R (.bool false) t) (Pure P 71 #[.string j] t (Rb fun y f=>(Br (y=false) (R (.bool false) f) (Br (g=0) (Br (i≠0) (R (.bool false) f) (Br (j≠(⟨#[48]⟩:ByteArray)) (R (.bool false) f) (aS .i64 (p+1)/\(du.L4 A a c C b d q (p+1) B f R)))) (aS .i64 (p+1)/\(du.L4 A a c C b d q (p+1) B f R)))))))))))))))))) (R (.bool true) w))):
  du.L4 A a c C b d q p B w R:=
 lr du.cx func213 h
theorem du.vc
  (h:(Br ((b:Int)≠(a:Int)) (R (.bool false) w) (du.L4 A b c C a d (a:Int) (0:Int) w.heap.size w R))):
  Pure P 213 #[.slice A b c,.slice C a d] w R:=
 pr du.cx func213 h

def pB.cx:Pm:=([],[])
theorem pB.vc{b:Addr}
  (h:(∀a,Ext w.heap.size [] w a->(∃c,aa a (b.add 0) [I c]/\(R (.bool (decide (p=c))) a)))):
  Pure P 215 #[.agg #[I p,.string L,.string M,.string N,.string N0,.string N1,.string N2],(.pointer (some b))] w R:=
 pr pB.cx func215 h

def lF.cx:Pm:=([],[])
theorem lF.vc
  (h:(Br (p≥(0:Int)) (R (.bool (decide (p<=(1073741824:Int)))) w) (R (.bool false) w))):
  Pure P 216 #[I p] w R:=
 pr lF.cx func216 h

def kx.cx:Pm:=([],[(1,1,2)])
theorem kx.vc
  (h:(∀a,Ext w.heap.size [] w a->(ae P (Instr.buildSlice 42 1 #[(0,(.agg #[I p,.string N0,.string L,.string M,.string N1,.string N2,.string N3]))]) w.heap.size [141] a (Rs fun e f g i=>(Pure P 212 #[.slice e f g] i (Rb fun j b=>(Br (j=false) (R (.tuple #[(.string ⟨#[]⟩),I 1]) b) (Pure P 71 #[.string N] b (Rb fun l c=>(Br (l=false) (R (.tuple #[(.string ⟨#[]⟩),I 1]) c) (∀d,Ext w.heap.size [] c d->(Pure P 257 #[.string L,.string N] d (Rt fun m n=>(Pure P 256 #[.string m,.string M] n (Rt fun o q=>(R (.tuple #[.string o,I 0]) q)))))))))))))))):
  Pure P 217 #[.agg #[I p,.string N0,.string L,.string M,.string N1,.string N2,.string N3],.string N] w R:=
 pr kx.cx func217 h

def cL.L3(a:O)(b c:Nat)(d e:Int):=Lt 218 f218 3 [vS 17 a b c,vI 18 d,vI 19 e] []
def cL.cx:Pm:=([((true,3),[17,18,19],[])],[(1,0,5),(1,2,5),(1,4,2),(5,2,4)])
theorem cL.L3.step
  (h:(Br (p<q) (Ix p a A fun j=>(∃(d:Int)(c:Nat)(e f:Array Value),aa w (j.add ((p).toNat*2)) [I d,(.func (.func c) e f)]/\(az P c=true/\(∀g,Ext B [] w g->(Pure P c ((Array.toList e)++([]:List Value)++(Array.toList f)).toArray g (Rb fun l i=>(Bb l (R (I d) i) (aS .i64 (p+1)/\(cL.L3 A a b q (p+1) B i R))))))))) (R (I 1) w))):
  cL.L3 A a b q p B w R:=
 lr cL.cx func218 h
theorem cL.vc
  (h:(∀a,Ext w.heap.size [] w a->(∀b:Nat,w.heap.size<=b->a.heap[b]? =some (.cells [I p,.string L,.string M,.string N,.string N0,.string N1,.string N2].toArray 141 (0,0))->(∀c:Nat,w.heap.size<=c->a.heap[c]? =some (.cells [.string N4].toArray 88 (0,0))->(∀d:Nat,w.heap.size<=d->a.heap[d]? =some (.cells [I t].toArray 3 (0,0))->(∀e:Nat,w.heap.size<=e->a.heap[e]? =some (.cells [I q,I r,I s,.string N3].toArray 94 (0,0))->(ae P (Instr.buildSlice 318 2 #[(0,(.agg #[I 2,(.func (.func 258) #[] #[(.pointer (some (⟨c,0,none⟩:Addr))),(.pointer (some (⟨b,0,none⟩:Addr)))])])),(1,(.agg #[I 3,(.func (.func 259) #[] #[(.pointer (some (⟨e,0,none⟩:Addr))),(.pointer (some (⟨c,0,none⟩:Addr))),(.pointer (some (⟨b,0,none⟩:Addr))),(.pointer (some (⟨d,0,none⟩:Addr)))])]))]) w.heap.size [] a (Rs fun g f i j=>(cL.L3 g f i (f:Int) (0:Int) w.heap.size j R))))))))):
  Pure P 218 #[.agg #[I p,.string L,.string M,.string N,.string N0,.string N1,.string N2],.agg #[I q,I r,I s,.string N3],.string N4,I t] w R:=
 pr cL.cx func218 h

def lG.cx:Pm:=([],[])
theorem lG.vc
  (h:(Pure P 248 #[.string L,(.string ⟨#[48]⟩)] w (Ri fun a b=>(R (I a) b)))):
  Pure P 247 #[.string L] w R:=
 pr lG.cx func247 h

def eO.cx:Pm:=([],[])
theorem eO.vc
  (h:(Pure P 155 #[.string L,.string M] w (Rii fun a c b=>(R (I a) b)))):
  Pure P 248 #[.string L,.string M] w R:=
 pr eO.cx func248 h

def pC.cx:Pm:=([],[])
theorem pC.vc
  (h:(Pure P 189 #[.string L,.string M] w (rV fun a c b=>(R (.string a) b)))):
  Pure P 256 #[.string L,.string M] w R:=
 pr pC.cx func256 h

def mJ.cx:Pm:=([],[])
theorem mJ.vc
  (h:(Pure P 190 #[.string L,.string M] w (rV fun a c b=>(R (.string a) b)))):
  Pure P 257 #[.string L,.string M] w R:=
 pr mJ.cx func257 h

def mh.cx:Pm:=([],[])
theorem mh.vc{b c:Addr}
  (h:(∃d,aa w b [.string d]/\(∃e,aa w (c.add 4) [.string e]/\(Pure P 248 #[.string d,.string e] w (Ri fun i a=>(Br (i<0) (R (.bool true) a) (∃f,aa a b [.string f]/\(∃g,aa a (c.add 5) [.string g]/\(Pure P 248 #[.string f,.string g] a (Ri fun j l=>(R (.bool (decide (j>0))) l))))))))))):
  Pure P 258 #[(.pointer (some b)),(.pointer (some c))] w R:=
 pr mh.cx func258 h

def mi.cx:Pm:=([],[])
theorem mi.vc{a d e f:Addr}
  (h:(∃g,aa w (a.add 2) [I g]/\(Br (g=1) (∃i,aa w d [.string i]/\(∃j,aa w (a.add 3) [.string j]/\(∃l,aa w (e.add 6) [.string l]/\(∃b,aa w f [I b]/\(∃c,aa w (a.add 1) [I c]/\(aS .i64 (b - c)/\(∀m,Ext w.heap.size [] w m->(Pure P 261 #[.string i,.string j] m (Rt fun o p=>(Pure P 260 #[.string o] p (Rt fun q r=>(Pure P 262 #[(I (b - c))] r (Rt fun s t=>(Pure P 257 #[.string l,.string s] t (Rt fun u v=>(Pure P 248 #[.string q,.string u] v (Ri fun x y=>(R (.bool (decide (x>0))) y)))))))))))))))))) (∀n,Ext w.heap.size [] w n->(R (.bool false) n))))):
  Pure P 259 #[(.pointer (some a)),(.pointer (some d)),(.pointer (some e)),(.pointer (some f))] w R:=
 pr mi.cx func259 h

def nO.cx:Pm:=([],[])
theorem nO.vc
  (h:(Pure P 247 #[.string L] w (Ri fun b a=>(Br (b<0) (Pure P 261 #[(.string ⟨#[48]⟩),.string L] a (Rt fun c d=>(R (.string c) d))) (R (.string L) a))))):
  Pure P 260 #[.string L] w R:=
 pr nO.cx func260 h

def mK.cx:Pm:=([],[])
theorem mK.vc
  (h:(Pure P 188 #[.string L,.string M] w (rV fun a c b=>(R (.string a) b)))):
  Pure P 261 #[.string L,.string M] w R:=
 pr mK.cx func261 h

def kz.cx:Pm:=([],[])
theorem kz.vc
  (h:(Pure P 50 #[I p] w (Rt fun a b=>(R (.string a) b)))):
  Pure P 262 #[I p] w R:=
 pr kz.cx func262 h

end Go.Proofs.YtbcojgcjjpggnaaGreatDoor.F

namespace Go.Proofs.YtbcojgcjjpggnaaGreatDoor.B
open Go Go.RowKit Go.Proofs Go.Proofs.YtbcojgcjjpggnaaGreatDoor.Vc

structure Ch where
 id:Int
 name:ByteArray
 pD:ByteArray
 offset:ByteArray
 low:ByteArray
 high:ByteArray
 mw:ByteArray
structure Va where
 chan:Int
 tick:Int
 xQ:Int
 num:ByteArray
abbrev Ch.row(c:Ch):List Value:=[.int .i64 c.id,.string c.name,.string c.pD,.string c.offset,.string c.low,.string c.high,.string c.mw]
abbrev Ch.val(c:Ch):Value:= .agg #[.int .i64 c.id,.string c.name,.string c.pD,.string c.offset,.string c.low,.string c.high,.string c.mw]
abbrev Va.row(v:Va):List Value:=[.int .i64 v.chan,.int .i64 v.tick,.int .i64 v.xQ,.string v.num]
abbrev Va.val(v:Va):Value:= .agg #[.int .i64 v.chan,.int .i64 v.tick,.int .i64 v.xQ,.string v.num]
structure Jv (c:Ch):Prop where
 name:c.name.size<2147483648
 pD:mc c.pD
 offset:mc c.offset
 low:mc c.low
 high:mc c.high
 mw:mc c.mw

def fw(p:Option Ch)(c:Ch):Int:=
 if ¬(vR c.pD=true/\vR c.offset=true/\vR c.low=true/\vR c.high=true/\vR c.mw=true)then 1
 else if c.name.size<1∨64<c.name.size then 4
 else if c.id<1∨1073741824<c.id∨qR c.pD=0∨qR c.high<qR c.low∨¬0<qR c.mw then 2
 else if ∃q,p=some q/\c.id<=q.id then 5
 else 0

theorem pC{w:World}{x y:Rat}(hg:bk w)(hx:kG x)(hy:kG y):Pure Tryz.prog 256 #[.string (rS x),.string (rS y)] w fun v _=>v= .string (rS (x+y)):=by
 refine F.pC.vc (pm (iH hg hx hy) ?_);rintro v a _ rfl;exact⟨_,_,rfl,rfl⟩
theorem mK{w:World}{x y:Rat}(hg:bk w)(hx:kG x)(hy:kG y):Pure Tryz.prog 261 #[.string (rS x),.string (rS y)] w fun v _=>v= .string (rS (x - y)):=by
 refine F.mK.vc (pm (jU hg hx hy) ?_);rintro v a _ rfl;exact⟨_,_,rfl,rfl⟩
theorem mJ{w:World}{x y:Rat}(hg:bk w)(hx:kG x)(hy:kG y):Pure Tryz.prog 257 #[.string (rS x),.string (rS y)] w fun v _=>v= .string (rS (x*y)):=by
 refine F.mJ.vc (pm (iI hg hx hy) ?_);rintro v a _ rfl;exact⟨_,_,rfl,rfl⟩
theorem eO{w:World}{x y:Rat}(hg:bk w)(hx:kG x)(hy:kG y):Pure Tryz.prog 248 #[.string (rS x),.string (rS y)] w fun v _=>v= .int .i64 (gp x y):=by
 refine F.eO.vc (pm (eC hg hx hy) ?_);rintro v a _ rfl;exact⟨_,_,rfl,rfl⟩
theorem lG{w:World}{x:Rat}(hg:bk w)(hx:kG x):Pure Tryz.prog 247 #[.string (rS x)] w fun v _=>v= .int .i64 (gp x 0):=by
 refine F.lG.vc ?_;rw[s0];refine pm (eO hg hx (Sm.zero om)) ?_;rintro v a _ rfl;exact⟨_,rfl,rfl⟩
theorem kz{w:World}{z:Int}(hg:bk w)(a: -9223372036854775808<=z)(h1:z<=9223372036854775807):Pure Tryz.prog 262 #[.int .i64 z] w fun v _=>v= .string (rS (z:Rat)):=by
 refine F.kz.vc (pm (ub hg z a h1) ?_);rintro v b _ rfl;refine⟨_,rfl,?_⟩;rw[Qy]
theorem nO{w:World}{x:Rat}(hg:bk w)(hx:kG x):Pure Tryz.prog 260 #[.string (rS x)] w fun v _=>v= .string (rS (BS x)):=by
 refine F.nO.vc (pm (lG hg hx) ?_);rintro v b a rfl;refine⟨_,rfl,fun h=> ?_,fun h=> ?_⟩
 ·rw[jn]at h;rw[s0];refine pm (mK (hg.next a) (Sm.zero om) hx) ?_;rintro v c _ rfl;refine⟨_,rfl,?_⟩;have e:(0:Rat) - x= -x:=by rw[R0,Rat.zero_add]
  rw[e];unfold BS;rw[bm h]
 ·rw[jn]at h;unfold BS;rw[aq h]
theorem lF(n:Int)(w:World):Pure Tryz.prog 216 #[.int .i64 n] w fun v _=>v= .bool (decide (0<=n/\n<=1073741824)):=by
 refine F.lF.vc ⟨fun h=> ?_,fun h=> ?_⟩
 ·congr 1
  simp;omega
 ·congr 1
  simp;omega

abbrev Ch.zT(c:Ch):List ByteArray:=[c.pD,c.offset,c.low,c.high,c.mw]
theorem Ch.Mq(c:Ch):(∀s∈c.zT,vR s=true)↔(vR c.pD=true/\vR c.offset=true/\vR c.low=true/\vR c.high=true/\vR c.mw=true):=by simp[Ch.zT]
theorem Jv.all{c:Ch}(h:Jv c):∀s∈c.zT,mc s:=by
 intro s hs;simp only[Ch.zT,cy,fX,tu]at hs;rcases hs with rfl|rfl|rfl|rfl|rfl
 ·exact h.pD
 ·exact h.offset
 ·exact h.low
 ·exact h.high
 ·exact h.mw
theorem Mr{w:World}{s:ByteArray}(hg:bk w)(hs:mc s)(h:vR s=true):Pure Tryz.prog 247 #[.string s] w fun v _=>v= .int .i64 (gp (qR s) 0):=by
 have:=lG hg (hs.xf h);rwa [<-gV h]at this
theorem KK{w:World}{s t:ByteArray}(hg:bk w)(hs:mc s)(h:vR s=true)(a:mc t)(k:vR t=true):Pure Tryz.prog 248 #[.string s,.string t] w fun v _=>v= .int .i64 (gp (qR s) (qR t)):=by
 have:=eO hg (hs.xf h) (a.xf k);rwa [<-gV h,<-gV k]at this

def kU(l:List Ch)(i:Nat):Option Ch:=if i=0 then none else l[i - 1]?

theorem KL{w0:World}(hg:bk w0){A:Option Addr}{n c:Nat}{l:List Ch}(hl:bR w0 A 7 (l.map Ch.row))(hlen:l.length=n)(hn:n<2147483648){i:Nat}(hi:i<n){x:Ch}(hx:l[i]? =some x)(m:Jv x)
  {A2:Option Addr} {c2:Nat} {R:Value->World->Prop} (e:∀w,R (.int .i64 (fw (kU l i) x)) w):
  ∀(d k:Nat)(w:World),5 - k=d->k<=5->Below w0.heap.size w0 w->aF w w0.heap.size 88 A2 5 c2 1 (x.zT.map fun s=>[.string s])->(∀j,j<k->∀s,x.zT[j]? =some s->vR s=true)->
   F.dz.L3 A n c i A2 5 c2 ((5:Nat):Int) k x.id x.name x.pD x.offset x.low x.high x.mw w0.heap.size w R:=by
 intro d;induction d with
 |zero=>
  intro k w T U hw ho B;have C:k=5:=om;subst C;have V:∀s∈x.zT,vR s=true:=by
   intro s hs;obtain⟨j,hj,rfl⟩:=List.mem_iff_getElem.1 hs;exact B j (by simpa[Ch.zT]using hj) _ (by simp[hj])
  have D:=(Ch.Mq x).1 V;obtain⟨v1,v2,v3,v4,v5⟩:=D;have ns:=m.name;refine F.dz.L3.step ⟨fun h=>by omega,fun _=> ?_⟩;have f4:(x.name.size<1∨64<x.name.size)->fw (kU l i) x=4:=fun h=>by
   unfold fw;rw[aq (fun k=>k ⟨v1,v2,v3,v4,v5⟩),bm h]
  have f2:¬(x.name.size<1∨64<x.name.size)->(x.id<1∨1073741824<x.id∨qR x.pD=0∨qR x.high<qR x.low∨¬0<qR x.mw)->fw (kU l i) x=2:=fun h g=>by
   unfold fw;rw[aq (fun k=>k ⟨v1,v2,v3,v4,v5⟩),aq h,bm g]
  refine⟨fun h1=> ?_,fun h1=>⟨fun g=> ?_,fun g=>⟨fun W=> ?_,fun W=>⟨fun X=> ?_,fun X=> ?_⟩⟩⟩⟩
  ·have:=e w;rwa [f4 om]at this
  ·have:=e w;rwa [f4 om]at this
  ·have:=e w;rwa [f2 om (.inl om)]at this
  ·have:=e w;rwa [f2 om (.inr (.inl om))]at this
  refine pm (Mr (hg.next hw) m.pD v1) ?_;rintro v r y rfl;have N:=kP hw y;refine⟨_,rfl,fun E=> ?_,fun E=> ?_⟩
  ·have:=e r;rwa [f2 om (.inr (.inr (.inl (Ay.1 E))))]at this
  refine pm (KK (hg.next N) m.low v3 m.high v4) ?_;rintro v Y Z rfl;have O:=kP N Z;refine⟨_,rfl,fun G=> ?_,fun G=> ?_⟩
  ·have:=e Y;rwa [f2 om (.inr (.inr (.inr (.inl (gk.1 G)))))]at this
  refine pm (Mr (hg.next O) m.mw v5) ?_;rintro v w4 b4 rfl;have pQ:=kP O b4;have P:gp (qR x.mw) 0<=0↔¬0<qR x.mw:=by rw[<-gk];omega
  refine⟨_,rfl,fun H=> ?_,fun H=> ?_⟩
  ·have:=e w4;rwa [f2 om (.inr (.inr (.inr (.inr (P.1 H)))))]at this
  have rest:fw (kU l i) x=if ∃q,kU l i=some q/\x.id<=q.id then 5 else 0:=by
   unfold fw;rw[aq (fun k=>k ⟨v1,v2,v3,v4,v5⟩),aq om,aq];rintro(k|k|k|k|k)
   ·omega
   ·omega
   ·exact E (Ay.2 k)
   ·exact G (gk.2 k)
   ·exact H (P.2 k)
  rw[rest]at e;refine⟨fun h8=>⟨ir,?_⟩,fun h8 o _=> ?_⟩
  ·obtain⟨hb,a,I,J⟩:=(hl.av pQ lf).load (n:=n) (by simpa using hlen) (j:=(i:Int) - 1) om om;have Q:i - 1<l.length:=om;have S:kU l i=some l[i - 1]:=by
    unfold kU;rw[aq om];simp[Q]
   obtain⟨_,b⟩:=J l[i - 1].row (by rw[show((i:Int) - 1).toNat=i - 1 by omega];simp[Q]) rfl;refine⟨hb,a,I,_,b 0 _ rfl,fun K o _=> ?_,fun K o _=> ?_⟩
   ·have:=e o;rwa [bm ⟨_,S,K⟩]at this
   ·have:=e o;rwa [aq (fun⟨q,z,hle⟩=>by rw[S]at z;cases z;exact K hle)]at this
  ·have L:i=0:=om;have:=e o;rwa [aq (fun⟨q,z,_⟩=>by simp[kU,L]at z)]at this
 |succ d ih=>
  intro k w T U hw ho B;have C:k<x.zT.length:=by simp[Ch.zT];omega
  obtain⟨s,hs⟩:∃s,x.zT[k]? =some s:=⟨x.zT[k],by simp[C]⟩
  have hss:mc s:=m.all s (gb hs);refine F.dz.L3.step ⟨fun _=> ?_,fun h=>by omega⟩;obtain⟨hb,a,I,J⟩:=ho.sl.load (n:=5) ho.len (j:=(k:Int)) om om;obtain⟨b,_⟩:=J [.string s] (by rw[cc,hM,hs];rfl) rfl;refine⟨hb,a,I,_,b,pm (dU (hg.next hw) s om) ?_⟩;rintro v r y rfl;refine⟨_,rfl,fun h1=> ?_,fun h1=>⟨ir,?_⟩⟩
  ·have hf:fw (kU l i) x=1:=by
    unfold fw;rw[bm];intro hc;have g:=(Ch.Mq x).2 hc s (gb hs);unfold vR at g;rw[h1]at g;cases g
   have:=e r;rwa [hf]at this
  ·have e3:=sc k;rw[e3];refine ih (k+1) r om om (kP hw y) (ho.below y) fun j hj t M=> ?_
   by_cases Wn:j=k
   ·subst Wn;rw[hs]at M;cases M;simpa[vR]using h1
   ·exact B j om t M

theorem dz{w:World}(hg:bk w){A:Option Addr}{n c:Nat}{l:List Ch}(hl:bR w A 7 (l.map Ch.row))(hlen:l.length=n)(hn:n<2147483648){i:Nat}(hi:i<n){x:Ch}(hx:l[i]? =some x)(h:Jv x):
  Pure Tryz.prog 205 #[.slice A n c,.int .i64 (i:Int)] w fun v _=>v= .int .i64 (fw (kU l i) x):=by
 obtain⟨hb,a,k,m⟩:=hl.load (n:=n) (by simpa using hlen) (j:=(i:Int)) om om;obtain⟨b,_⟩:=m x.row (by rw[cc];simp[hx]) rfl;refine F.dz.vc ⟨hb,a,k,_,_,_,_,_,_,_,b,fun w1 o=> ?_⟩;have d:=k0 o;refine bc ny [.string x.pD,.string x.offset,.string x.low,.string x.high,.string x.mw] (by simp[Value.cells]) sm d.size fun A2 c2 q ho r=> ?_
 refine KL hg hl hlen hn hi hx h (fun _=>rfl) 5 0 q rfl om (kP d r) ⟨?_,ho.2⟩ (fun j hj=>by omega);have h1:=ho.1;refine⟨h1.1,?_⟩;rcases h1.2 with e|⟨g,cap,cur,e,y,z⟩
 ·exact .inl e
 ·exact .inr ⟨g,cap,cur,e,dT d.size y,z⟩

def WS:Option Ch->Nat->List Ch->Int×Int
 |_,_,[]=>(-1,0)
 |p,i,c::r=>if fw p c≠0 then((i:Int),fw p c)else WS (some c) (i+1) r
def iN(l:List Ch):Int×Int:=if 16<l.length then(-1,8)else WS none 0 l

theorem KM{w0:World}(hg:bk w0){A:Option Addr}{n c:Nat}{l:List Ch}(hl:bR w0 A 7 (l.map Ch.row))(hlen:l.length=n)(hn:n<2147483648)(j:∀x∈l,Jv x){R:Value->World->Prop}{r:Int×Int}(e:∀w,R (.tuple #[.int .i64 r.1,.int .i64 r.2]) w):
  ∀(d i:Nat)(w:World),n - i=d->i<=n->Below w0.heap.size w0 w->r=WS (kU l i) i (l.drop i)->F.df.L4 A n c n i w0.heap.size w R:=by
 intro d;induction d with
 |zero=>
  intro i w m hi hw a;rw[de om]at a;subst a;exact F.df.L4.step ⟨fun h=>by omega,fun _=>e w⟩
 |succ d ih=>
  intro i w m hi hw a;have b:i<l.length:=om;have hx:l[i]? =some l[i]:=by simp[b]
  rw[dp b]at a;refine F.df.L4.step ⟨fun _=> ?_,fun h=>by omega⟩;refine pm (dz (hg.next hw) (hl.av hw lf) hlen hn om hx (j _ (bA _))) ?_;rintro v g o rfl;refine⟨_,rfl,fun h=> ?_,fun h=>⟨ir,?_⟩⟩
  ·rw[WS,bm h]at a;subst a;exact e g
  ·have q:fw (kU l i) l[i]=0:=by
    apply bx;intro k;exact h k
   rw[WS,aq (fun k=>k q)]at a;have y:=sc i;rw[y];refine ih (i+1) g om om (kP hw o) ?_;have hp:kU l (i+1)=some l[i]:=by simp[kU,b]
   rw[hp];exact a

theorem df{w:World}(hg:bk w){A:Option Addr}{n c:Nat}{l:List Ch}(hl:bR w A 7 (l.map Ch.row))(hlen:l.length=n)(a:∀x∈l,Jv x):
  Pure Tryz.prog 170 #[.slice A n c] w fun v _=>v= .tuple #[.int .i64 (iN l).1,.int .i64 (iN l).2]:=by
 refine F.df.vc ⟨fun h=> ?_,fun h=> ?_⟩
 ·unfold iN;rw[bm om]
 ·refine KM (r:=iN l) hg hl hlen om a (fun _=>rfl) n 0 w rfl om (Below.refl _ _) ?_;unfold iN;rw[aq om];rfl
theorem jV{w:World}(hg:bk w){A:Option Addr}{n c:Nat}{l:List Ch}(hl:bR w A 7 (l.map Ch.row))(hlen:l.length=n)(a:∀x∈l,Jv x):
  Pure Tryz.prog 212 #[.slice A n c] w fun v _=>v= .bool (decide ((iN l).2=0)):=by
 refine F.jV.vc (pm (df hg hl hlen a) ?_);rintro v b _ rfl;exact⟨_,_,rfl,rfl⟩

theorem Zp:El Tryz.prog 42 141 7 104:=El.of kF
theorem QZ:El Tryz.prog 43 94 4 40:=El.of kF

def gm(c:Ch)(raw:ByteArray):Rat:=qR c.pD*qR raw+qR c.offset
def sJ(c:Ch)(raw:ByteArray):ByteArray×Int:=if(iN [c]).2=0/\vR raw=true then(rS (gm c raw),0)else(⟨#[]⟩,1)

theorem uq{l:List Ch}(h:(iN l).2=0):l.length<=16/\∀i x,l[i]? =some x->fw (kU l i) x=0:=by
 unfold iN at h;split at h
 ·simp at h
 ·refine⟨om,?_⟩;have gen:∀(r:List Ch)(p:Option Ch)(k:Nat),(WS p k r).2=0->∀i x,r[i]? =some x->fw (if i=0 then p else r[i - 1]?) x=0:=by
   intro r;induction r with
   |nil=>intro p k _ i x hx;simp at hx
   |cons c r ih=>
    intro p k h i x hx;rw[WS]at h;split at h
    ·rename_i a;exact absurd h a
    ·rename_i a;have a:fw p c=0:=by
      apply bx;intro k;exact a k
     cases i with
     |zero=>simp at hx;subst hx;simpa using a
     |succ i=>
      have:=ih (some c) (k+1) h i x (by simpa using hx);rw[aq om];cases i with
      |zero=>simpa using this
      |succ i=>simpa using this
  intro i x hx;exact gen l none 0 h i x hx
theorem ur{p:Option Ch}{c:Ch}(h:fw p c=0):(vR c.pD=true/\vR c.offset=true/\vR c.low=true/\vR c.high=true/\vR c.mw=true)/\¬(c.id<1∨1073741824<c.id∨qR c.pD=0∨qR c.high<qR c.low∨¬0<qR c.mw)/\∀q,p=some q->q.id<c.id:=by
 unfold fw at h;split at h
 ·simp at h
 ·rename_i h1;have h1:=ek.1 h1;split at h
  ·simp at h
  ·split at h
   ·simp at h
   ·rename_i a;split at h
    ·simp at h
    ·rename_i b;exact⟨h1,a,fun q d=>by
      apply bx;intro k;exact b ⟨q,d,om⟩⟩

theorem KN{c:Ch}{raw:ByteArray}(a:Jv c)(v1:vR c.pD=true)(v2:vR c.offset=true)(b:mc raw)(v3:vR raw=true):Sm 3001 (gm c raw):=
 Sm.mono (((lC v1 a.pD).mul (lC v3 b)).add (lC v2 a.offset)) om

theorem kx{w:World}(hg:bk w){c:Ch}(g:Jv c){raw:ByteArray}(n:mc raw):
  Pure Tryz.prog 217 #[c.val,.string raw] w fun v _=>v= .tuple #[.string (sJ c raw).1,.int .i64 (sJ c raw).2]:=by
 refine F.kx.vc fun w1 q=> ?_
 have a:=k0 q;refine bc Zp [c.val] (by simp[Value.cells]) sm a.size fun A2 c2 B ho r=> ?_
 have b:=kP a r;refine pm (jV (hg.next b) (l:=[c]) ho.sl rfl (by simpa using g)) ?_;rintro v C x rfl;have d:=kP b x;refine⟨_,rfl,fun h=> ?_,fun h=>pm (dU (hg.next d) raw om) ?_⟩
 ·unfold sJ;rw[aq (fun k=>by have:=k.1;simp at h;exact h this)]
 rintro v D y rfl;have m:=kP d y;have e:(iN [c]).2=0:=by
  apply bx;intro k;simp[k]at h
 refine⟨_,rfl,fun i=> ?_,fun i E z=> ?_⟩
 ·unfold sJ vR;rw[aq (fun k=>by rw[k.2]at i;cases i)]
 have j:vR raw=true:=by simpa[vR]using i
 obtain⟨⟨v1,v2,_⟩,_⟩:=ur ((uq e).2 0 c rfl);have o:=kE m z;have m1:=mJ (hg.next o) (g.pD.xf v1) (n.xf j);rw[<-gV v1,<-gV j]at m1;refine pm m1 ?_;rintro v G A rfl;have m2:=pC (hg.next (kP o A)) (((lC v1 g.pD).mul (lC j n)).mono om) (g.offset.xf v2);rw[<-gV v2]at m2;refine⟨_,rfl,pm m2 ?_⟩;rintro v H _ rfl;refine⟨_,rfl,?_⟩;unfold sJ;rw[bm ⟨e,j⟩];rfl

def xR(c:Ch)(x:Va):Bool:=x.chan==c.id&&decide (0<=x.xQ/\x.xQ<=3)&&decide (0<=x.tick/\x.tick<=1073741824)&&vR x.num&&(x.xQ !=0||(x.tick==0&&decide (x.num=⟨#[48]⟩)))
def rB:List Ch->List Va->Bool
 |[],[]=>true
 |c::r,x::s=>xR c x&&rB r s
 |_,_=>false

abbrev Zq(x:Va):Prop:=mc x.num

theorem NB{w0:World}(hg:bk w0){A A1:Option Addr}{n c c1:Nat}{l:List Ch}{v:List Va}(hl:bR w0 A 7 (l.map Ch.row))(hlen:l.length=n)(S:bR w0 A1 4 (v.map Va.row))(T:v.length=n)(hn:n<2147483648)(U:∀x∈v,Zq x){R:Value->World->Prop}{r:Bool}(b:∀w,R (.bool r) w):
  ∀(d i:Nat)(w:World),n - i=d->i<=n->Below w0.heap.size w0 w->r=rB (l.drop i) (v.drop i)->F.du.L4 A n c A1 n c1 n i w0.heap.size w R:=by
 intro d;induction d with
 |zero=>
  intro i w V hi hw g;rw[de om,de om]at g;subst g;exact F.du.L4.step ⟨fun h=>by omega,fun _=>b w⟩
 |succ d ih=>
  intro i w V hi hw g;have K:i<l.length:=om;have o:i<v.length:=om;rw[dp K,dp o,rB]at g;obtain⟨hb,a,W,X⟩:=(S.av hw lf).load (n:=n) (by simpa using T) (j:=(i:Int)) om om;obtain⟨e,_⟩:=X v[i].row (by rw[cc];simp[o]) rfl;refine F.du.L4.step ⟨fun _=> ?_,fun h=>by omega⟩;refine⟨hb,a,W,_,_,_,_,e,fun w2 Y=> ?_⟩;have L:=kE hw Y;obtain⟨B,a2,Z,Ra⟩:=(hl.av L lf).load (n:=n) (by simpa using hlen) (j:=(i:Int)) om om;obtain⟨_,sG⟩:=Ra l[i].row (by rw[cc];simp[K]) rfl;have bad:xR l[i] v[i]=false->r=false:=fun h=>by rw[g,h,Fc]
  have sv:Zq v[i]:=U _ (bA _);refine⟨B,a2,Z,_,sG 0 _ rfl,fun h1 m _=> ?_,fun h1=>⟨fun h2 m _=> ?_,fun h2=>⟨fun h3 m _=> ?_,fun h3 m x3=> ?_⟩⟩⟩
  ·have:=b m;rwa [bad (by simp[xR];intro k;omega)]at this
  ·have:=b m;rwa [bad (by simp[xR];intros;omega)]at this
  ·have:=b m;rwa [bad (by simp[xR];intros;omega)]at this
  have vq:=kE L x3;refine pm (lF _ _) ?_;rintro y w4 b4 rfl;have M:=kP vq b4;refine⟨_,rfl,fun C=> ?_,fun C=>pm (dU (hg.next M) v[i].num om) ?_⟩
  ·have:=b w4;rwa [bad (by
    have D:decide (0<=v[i].tick/\v[i].tick<=1073741824)=false:=C;unfold xR;rw[D];simp)]at this
  rintro y q b5 rfl;have uf:=kP M b5;refine⟨_,rfl,fun E=> ?_,fun E=> ?_⟩
  ·have:=b q;rwa [bad (by
    have D:vR v[i].num=false:=E;unfold xR;rw[D];simp)]at this
  have N:v[i].chan=l[i].id:=by
   apply bx;intro k;exact h1 k
  have O:decide (0<=v[i].tick/\v[i].tick<=1073741824)=true:=by simpa using C
  have P:vR v[i].num=true:=by simpa[vR]using E
  have Q:decide (0<=v[i].xQ/\v[i].xQ<=3)=true:=by simp;omega
  have e3:=sc i;have go:xR l[i] v[i]=true->F.du.L4 A n c A1 n c1 n ((i:Int)+1) w0.heap.size q R:=fun h=>by
   rw[e3];exact ih (i+1) q om om uf (by rw[g,h,vd])
  refine⟨fun z=>⟨fun G=> ?_,fun G=>⟨fun H=> ?_,fun H=>⟨ir,go ?_⟩⟩⟩,fun z=>⟨ir,go ?_⟩⟩
  ·have:=b q;rwa [bad (by simp[xR];intros;exact⟨z,fun k=>absurd k G⟩)]at this
  ·have:=b q;rwa [bad (by simp[xR];intros;exact⟨z,fun _ k=>H k⟩)]at this
  ·have I:v[i].tick=0:=by apply bx;intro k;exact G k
   have J:v[i].num=⟨#[48]⟩:=by apply bx;intro k;exact H k
   unfold xR;rw[O,P,Q];simp[N,I,J]
  ·unfold xR;rw[O,P,Q];simp[N,z]

theorem NC:∀(l:List Ch)(v:List Va),l.length≠v.length->rB l v=false:=by
 intro l;induction l with
 |nil=>intro v h;cases v with
  |nil=>simp at h
  |cons x s=>rfl
 |cons c r ih=>intro v h;cases v with
  |nil=>rfl
  |cons x s=>rw[rB,ih s (by simpa using h),Bool.and_false]
theorem It:∀{l:List Ch} {v:List Va},rB l v=true->l.length=v.length/\∀(i:Nat)(c:Ch)(x:Va),l[i]? =some c->v[i]? =some x->xR c x=true:=by
 intro l;induction l with
 |nil=>intro v h;cases v with
  |nil=>exact⟨rfl,fun i c x a=>by simp at a⟩
  |cons x s=>simp[rB]at h
 |cons c r ih=>intro v h;cases v with
  |nil=>simp[rB]at h
  |cons x s=>
   rw[rB,cz]at h;obtain⟨h1,b⟩:=ih h.2;refine⟨by simp[h1],fun i c' d a hx=> ?_⟩;cases i with
   |zero=>simp at a hx;subst a;subst hx;exact h.1
   |succ i=>exact b i c' d (by simpa using a) (by simpa using hx)

theorem du{w:World}(hg:bk w){A A1:Option Addr}{n n1 c c1:Nat}{l:List Ch}{v:List Va}(hl:bR w A 7 (l.map Ch.row))(hlen:l.length=n)(a:bR w A1 4 (v.map Va.row))(b:v.length=n1)(hn:n<2147483648)(d:∀x∈v,Zq x):
  Pure Tryz.prog 213 #[.slice A n c,.slice A1 n1 c1] w fun y _=>y= .bool (rB l v):=by
 refine F.du.vc ⟨fun h=> ?_,fun h=> ?_⟩
 ·rw[NC _ _ om]
 ·have e:n1=n:=om;subst e;exact NB hg hl hlen a b hn d (fun _=>rfl) n1 0 w rfl om (Below.refl _ _) rfl

def wc(c:Ch)(a:Va)(x:Rat)(at_:Int):Int:=
 if x<qR c.low∨qR c.high<x then 2
 else if a.xQ=1/\qR c.mw*((at_ - a.tick:Int):Rat)<BS (x - qR a.num)then 3
 else 1

theorem UF{w:World}(hg:bk w){c:Ch}(b:Jv c)(v3:vR c.low=true)(v4:vR c.high=true){x:Rat}(hx:kG x){p2 p3:Nat}(d:w.heap[p2]? =some (.cells (c.row).toArray 141 (0,0)))(e:w.heap[p3]? =some (.cells [.string (rS x)].toArray 88 (0,0))):
  Pure Tryz.prog 258 #[.pointer (some ⟨p3,0,none⟩),.pointer (some ⟨p2,0,none⟩)] w fun v _=>v= .bool (decide (x<qR c.low∨qR c.high<x)):=by
 have g:=gV v3;have i:=gV v4;refine F.mh.vc ⟨_,bS e rfl,_,bz d rfl,?_⟩;have m1:=eO hg hx (b.low.xf v3);rw[<-g]at m1;refine pm m1 ?_;rintro v j a rfl;refine⟨_,rfl,fun h=> ?_,fun h=> ?_⟩
 ·rw[jn]at h;simp[h]
 ·rw[jn]at h;refine⟨_,bS (ag e a) rfl,_,bz (ag d a) rfl,?_⟩;have m2:=eO (hg.next a) hx (b.high.xf v4);rw[<-i]at m2;refine pm m2 ?_;rintro v k _ rfl;refine⟨_,rfl,?_⟩;have:gp x (qR c.high)>0↔qR c.high<x:=gk;simp[h,this]

theorem UG{w:World}(hg:bk w){c:Ch}(l:Jv c)(v5:vR c.mw=true){u:Va}(hu:Zq u)(i:vR u.num=true)(J:0<=u.tick/\u.tick<=1073741824){x:Rat}(hx:Sm 10000 x){at_:Int}(K:0<=at_/\at_<=1073741824){p2 p3 m n:Nat}(q:w.heap[p2]? =some (.cells (c.row).toArray 141 (0,0)))(r:w.heap[p3]? =some (.cells [.string (rS x)].toArray 88 (0,0)))
  (y:w.heap[m]? =some (.cells [.int .i64 at_].toArray 3 (0,0))) (j:w.heap[n]? =some (.cells (u.row).toArray 94 (0,0))):
  Pure Tryz.prog 259 #[.pointer (some ⟨n,0,none⟩),.pointer (some ⟨p3,0,none⟩),.pointer (some ⟨p2,0,none⟩),.pointer (some ⟨m,0,none⟩)] w fun v _=>v= .bool (decide (u.xQ=1/\qR c.mw*((at_ - u.tick:Int):Rat)<BS (x - qR u.num))):=by
 have z:=gV i;have A:=gV v5;refine F.mi.vc ⟨_,bz j rfl,fun k=>⟨_,bS r rfl,_,bz j rfl,_,bz q rfl,_,bS y rfl,_,bz j rfl,ir,fun w1 B=> ?_⟩,fun k w1 _=> ?_⟩
 ·have b:=k0 B;have su:=lC i hu;have m1:=mK (hg.next b) (hx.mono om) (hu.xf i);rw[<-z]at m1;refine pm m1 ?_;rintro v L C rfl;have d:=kP b C;have s2:Sm 20000 (x - qR u.num):=(hx.sub su).mono om;refine⟨_,rfl,pm (nO (hg.next d) (s2.mono om)) ?_⟩;rintro v M D rfl;have e:=kP d D;refine⟨_,rfl,pm (kz (hg.next e) om om) ?_⟩;rintro v N E rfl;have g:=kP e E;have o:Sm 10 ((at_ - u.tick:Int):Rat):=Sm.ofInt om om;have m2:=mJ (hg.next g) (l.mw.xf v5) (o.mono om);rw[<-A]at m2;refine⟨_,rfl,pm m2 ?_⟩;rintro v O G rfl;have H:=kP g G;have I:Sm 2000 (qR c.mw*((at_ - u.tick:Int):Rat)):=((lC v5 l.mw).mul o).mono om;refine⟨_,rfl,pm (eO (hg.next H) (s2.abs.mono om) (I.mono om)) ?_⟩;rintro v P _ rfl;refine⟨_,rfl,?_⟩;have:gp (BS (x - qR u.num)) (qR c.mw*((at_ - u.tick:Int):Rat))>0↔qR c.mw*((at_ - u.tick:Int):Rat)<BS (x - qR u.num):=gk;have a:u.xQ=1:=k;refine ca Value.bool ?_;rw[kh,this];exact⟨fun h=>⟨a,h⟩,fun h=>h.2⟩
 ·have a:¬u.xQ=1:=k;simp[a]

theorem Rd:El Tryz.prog 318 316 2 16:=El.of kF
set_option maxRecDepth 4000 in
theorem cL{w:World}(hg:bk w){c:Ch}(D:Jv c)(hf:vR c.low=true/\vR c.high=true/\vR c.mw=true){u:Va}(hu:Zq u)(E:vR u.num=true)(G:0<=u.tick/\u.tick<=1073741824){x:Rat}(hx:Sm 10000 x){at_:Int}(H:0<=at_/\at_<=1073741824):
  Pure Tryz.prog 218 #[c.val,u.val,.string (rS x),.int .i64 at_] w fun v _=>v= .int .i64 (wc c u x at_):=by
 obtain⟨v3,v4,v5⟩:=hf;refine F.cL.vc fun w1 I p2 S i p3 J K L M N O P Q=> ?_
 have k:=k0 I;refine bc Rd [.agg #[.int .i64 2,.func (.func 258) #[] #[.pointer (some ⟨p3,0,none⟩),.pointer (some ⟨p2,0,none⟩)]],.agg #[.int .i64 3,.func (.func 259) #[] #[.pointer (some ⟨O,0,none⟩),.pointer (some ⟨p3,0,none⟩),.pointer (some ⟨p2,0,none⟩),.pointer (some ⟨L,0,none⟩)]]]
  (by simp[Value.cells]) sm k.size fun A2 c2 T ho l=> ?_
 have r:=kP k l;obtain⟨y,a,z,A⟩:=ho.sl.load (n:=2) rfl (j:=0) om om;obtain⟨b,_⟩:=A _ rfl rfl;refine F.cL.L3.step ⟨fun _=>⟨y,a,z,_,_,_,_,b,kF,fun U e=> ?_⟩,fun h=>by simp at h⟩;have m:=kE r e;have g2:=ext_nil e (ag i l);have g3:=ext_nil e (ag K l);have g4:=ext_nil e (ag N l);have g5:=ext_nil e (ag Q l);have B:=ho.kR e;refine pm (UF (hg.next m) D v3 v4 (hx.mono om) g2 g3) ?_;rintro v V g rfl;have C:=kP m g;refine⟨_,rfl,fun h=> ?_,fun h=>⟨ir,?_⟩⟩
 ·have q:x<qR c.low∨qR c.high<x:=by simpa using h
  unfold wc;rw[bm q]
 have q:¬(x<qR c.low∨qR c.high<x):=by simpa using h
 obtain⟨y,a,z,A⟩:=(B.below g).sl.load (n:=2) rfl (j:=1) om om;obtain⟨b,_⟩:=A _ rfl rfl;refine F.cL.L3.step ⟨fun _=>⟨y,a,z,_,_,_,_,b,kF,fun W o=> ?_⟩,fun h=>by simp at h⟩;have R:=kE C o;refine pm (UG (hg.next R) D v5 hu E G hx H (ext_nil o (ag g2 g)) (ext_nil o (ag g3 g)) (ext_nil o (ag g4 g)) (ext_nil o (ag g5 g))) ?_;rintro v X Y rfl;refine⟨_,rfl,fun i=> ?_,fun i=>⟨ir,?_⟩⟩
 ·have d:u.xQ=1/\qR c.mw*((at_ - u.tick:Int):Rat)<BS (x - qR u.num):=fk i;unfold wc;rw[aq q,bm d]
 ·have d:¬(u.xQ=1/\qR c.mw*((at_ - u.tick:Int):Rat)<BS (x - qR u.num)):=hP i;refine F.cL.L3.step ⟨fun h=>by simp at h,fun _=> ?_⟩;unfold wc;rw[aq q,aq d]

def F8(p:Ch->Bool):Nat->List Ch->Int
 |_,[]=> -1
 |i,c::r=>if p c then(i:Int)else F8 p (i+1) r

theorem KO{w0:World}{A:Option Addr}{n c:Nat}{l:List Ch}(hl:bR w0 A 7 (l.map Ch.row))(hlen:l.length=n)(hn:n<2147483648){f:Nat}{a k:Array Value}(cB:az Tryz.prog f=true){p:Ch->Bool}
  (hf:∀w,Below w0.heap.size w0 w->∀x:Ch,Pure Tryz.prog f (a.toList++([x.val]:List Value)++k.toList).toArray w fun v _=>v= .bool (p x)) {R:Value->World->Prop} {r:Int} (g:∀w,R (.int .i64 r) w):
  ∀(d i:Nat)(w:World),n - i=d->i<=n->Below w0.heap.size w0 w->r=F8 p i (l.drop i)->F.aG.L2 A n c f a k n i w0.heap.size w R:=by
 intro d;induction d with
 |zero=>
  intro i w q hi hw b;rw[de om]at b;subst b;exact F.aG.L2.step ⟨fun h=>by omega,fun _=>g w⟩
 |succ d ih=>
  intro i w q hi hw b;have m:i<l.length:=om;rw[dp m,F8]at b;obtain⟨hb,y,z,B⟩:=(hl.av hw lf).load (n:=n) (by simpa using hlen) (j:=(i:Int)) om om;obtain⟨e,_⟩:=B l[i].row (by rw[cc];simp[m]) rfl;refine F.aG.L2.step ⟨fun _=> ?_,fun h=>by omega⟩;refine⟨hb,y,z,_,_,_,_,_,_,_,e,cB,pm (hf w hw l[i]) ?_⟩;rintro v o C rfl;refine⟨_,rfl,fun h=> ?_,fun h=>⟨ir,?_⟩⟩
  ·rw[bm h]at b;subst b;exact g o
  ·rw[aq (by simp[h])]at b;have D:=sc i;rw[D];exact ih (i+1) o om om (kP hw C) b
theorem KP{w:World}{A:Option Addr}{n c:Nat}{l:List Ch}(hl:bR w A 7 (l.map Ch.row))(hlen:l.length=n)(hn:n<2147483648){f:Nat}{a k:Array Value}(cB:az Tryz.prog f=true){p:Ch->Bool}
  (hf:∀w',Below w.heap.size w w'->∀x:Ch,Pure Tryz.prog f (a.toList++([x.val]:List Value)++k.toList).toArray w' fun v _=>v= .bool (p x)):
  Pure Tryz.prog 214 #[.slice A n c,.func (.func f) a k] w fun v _=>v= .int .i64 (F8 p 0 l):=
 F.aG.vc (KO hl hlen hn cB hf (fun _=>rfl) n 0 w rfl om (Below.refl _ _) rfl)
theorem Ei(p:Ch->Bool):∀(l:List Ch)(k:Nat),(F8 p k l= -1/\∀c∈l,p c=false)∨∃(i:Nat)(c:Ch),F8 p k l=((k+i:Nat):Int)/\l[i]? =some c/\p c=true/\∀(j:Nat)(d:Ch),j<i->l[j]? =some d->p d=false:=by
 intro l;induction l with
 |nil=>intro k;exact .inl ⟨rfl,sm⟩
 |cons c r ih=>
  intro k;rw[F8];by_cases h:p c=true
  ·rw[bm h];exact .inr ⟨0,c,rfl,rfl,h,fun j d hj=>by omega⟩
  ·rw[aq h];rcases ih (k+1)with⟨h1,a⟩|⟨i,d,h1,a,b,g⟩
   ·exact .inl ⟨h1,fun x hx=>by
     rcases cy.1 hx with rfl|hx
     ·simpa using h
     ·exact a x hx⟩
   ·refine .inr ⟨i+1,d,by rw[h1];congr 1;omega,by simpa using a,b,fun j e hj he=> ?_⟩;cases j with
    |zero=>simp at he;subst he;simpa using h
    |succ j=>exact g j e om (by simpa using he)
end Go.Proofs.YtbcojgcjjpggnaaGreatDoor.B
