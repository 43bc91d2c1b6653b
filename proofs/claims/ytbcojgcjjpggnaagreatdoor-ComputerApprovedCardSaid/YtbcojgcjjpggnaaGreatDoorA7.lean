/- Part 7 of the proofs that: Each step that was done was approved; folding in two parts is folding at once. -/
import Derived.Test.YtbcojgcjjpggnaaGreatDoorA6
import Derived.Test.YtbcojgcjjpggnaaGreatDoorProg
set_option linter.unusedVariables false
set_option linter.unusedSimpArgs false
set_option maxRecDepth 100000
set_option maxHeartbeats 4000000
namespace Go.Proofs.YtbcojgcjjpggnaaGreatDoor.F
open Go Go.RowKit Go.Proofs Go.Proofs.YtbcojgcjjpggnaaGreatDoor.Vc
open Tryz
variable {A C D E G H J K A0 A1 A2 A3 A4 A5 A6 A7 A8 A9 C0 C1 C2 C3 C4 C5 C6 C7 C8 C9:O} {a b c d e f g i j l m n o a0 a1 a2 a3 a4 a5 a6 a7 a8 a9 b0 b1 b2 b3 b4 b5 b6 b7 b8 b9 c0 c1 c2 c3 c4 c5 c6 c7 c8 c9:Nat} {p q r s t u v x p0 p1 p2 p3 p4 p5 p6 p7 p8 p9 q0 q1 q2 q3 q4 q5 q6 q7 q8 q9:Int} {L M N N0 N1 N2 N3 N4 N5 N6 N7 N8 N9 T0 T1 T2 T3 T4 T5 T6 T7 T8 T9:ByteArray} {Q S:Bool} {B:Nat} {w:World} {R:Kt}
def kM.cx:Pm:=([],[(1,0,7),(1,3,2),(1,4,7),(1,7,2),(1,9999,3)])
theorem kM.vc
  (h:(∀f,Ext w.heap.size [] w f->((∀n,Ext w.heap.size [] f n->(ae P (Instr.buildSlice 33 0 #[]) n.heap.size [36,36] n (Rs fun g i j e=>((ae P (Builtin.append_ #[33,33] 33 #[.slice g i j,.slice C c d]) w.heap.size [36,36] e (Rs fun v x y l=>((ae P (Instr.buildSlice 34 0 #[]) l.heap.size [36,36] l (Rs fun A9 k c9 F=>(ae P (Builtin.append_ #[34,34] 34 #[.slice A9 k c9,.slice A a b]) w.heap.size [36,36] F (Rs fun I W e3 e4=>(∀z,Ext w.heap.size [36] e4 z->(R (.agg #[.slice v x y,.slice I W e3]) z))))))/\(ae P (Instr.buildSlice 34 0 #[]) l.heap.size [36,36] l (Rs fun e5 e6 e7 e8=>(ae P (Builtin.append_ #[34,34] 34 #[.slice e5 e6 e7,.slice A a b]) w.heap.size [36,36] e8 (Rs fun e9 g0 g1 g2=>(∀D,Ext w.heap.size [36] g2 D->(R (.agg #[.slice v x y,.slice e9 g0 g1]) D)))))))))/\((ae P (Instr.buildSlice 34 0 #[]) e.heap.size [36,36] e (Rs fun E G H J=>((ae P (Builtin.append_ #[33,33] 33 #[.slice g i j,.slice C c d]) w.heap.size [36,36] J (Rs fun g3 g4 g5 g6=>(ae P (Builtin.append_ #[34,34] 34 #[.slice E G H,.slice A a b]) w.heap.size [36,36] g6 (Rs fun g7 g8 g9 j0=>(∀K,Ext w.heap.size [36] j0 K->(R (.agg #[.slice g3 g4 g5,.slice g7 g8 g9]) K))))))/\(ae P (Builtin.append_ #[33,33] 33 #[.slice g i j,.slice C c d]) w.heap.size [36,36] J (Rs fun j1 j2 j3 j4=>(ae P (Builtin.append_ #[34,34] 34 #[.slice E G H,.slice A a b]) w.heap.size [36,36] j4 (Rs fun j5 j6 j7 j8=>(∀L,Ext w.heap.size [36] j8 L->(R (.agg #[.slice j1 j2 j3,.slice j5 j6 j7]) L)))))))))/\((ae P (Builtin.append_ #[33,33] 33 #[.slice g i j,.slice C c d]) w.heap.size [36,36] e (Rs fun j9 l0 l1 M=>(ae P (Instr.buildSlice 34 0 #[]) M.heap.size [36,36] M (Rs fun l2 l3 l4 l5=>(ae P (Builtin.append_ #[34,34] 34 #[.slice l2 l3 l4,.slice A a b]) w.heap.size [36,36] l5 (Rs fun l6 l7 l8 l9=>(∀N,Ext w.heap.size [36] l9 N->(R (.agg #[.slice j9 l0 l1,.slice l6 l7 l8]) N))))))))/\(ae P (Instr.buildSlice 34 0 #[]) e.heap.size [36,36] e (Rs fun m0 m1 m2 m3=>(ae P (Builtin.append_ #[33,33] 33 #[.slice g i j,.slice C c d]) w.heap.size [36,36] m3 (Rs fun m4 m5 m6 m7=>(ae P (Builtin.append_ #[34,34] 34 #[.slice m0 m1 m2,.slice A a b]) w.heap.size [36,36] m7 (Rs fun m8 m9 n0 n1=>(∀O,Ext w.heap.size [36] n1 O->(R (.agg #[.slice m4 m5 m6,.slice m8 m9 n0]) O))))))))))))))/\((∀o,Ext w.heap.size [] f o->(ae P (Instr.buildSlice 34 0 #[]) o.heap.size [36,36] o (Rs fun p q r m=>((ae P (Instr.buildSlice 33 0 #[]) m.heap.size [36,36] m (Rs fun Q S T U=>((ae P (Builtin.append_ #[33,33] 33 #[.slice Q S T,.slice C c d]) w.heap.size [36,36] U (Rs fun n2 n3 n4 n5=>(ae P (Builtin.append_ #[34,34] 34 #[.slice p q r,.slice A a b]) w.heap.size [36,36] n5 (Rs fun n6 n7 n8 k=>(∀V,Ext w.heap.size [36] k V->(R (.agg #[.slice n2 n3 n4,.slice n6 n7 n8]) V))))))/\(ae P (Builtin.append_ #[33,33] 33 #[.slice Q S T,.slice C c d]) w.heap.size [36,36] U (Rs fun o0 o1 o2 o3=>(ae P (Builtin.append_ #[34,34] 34 #[.slice p q r,.slice A a b]) w.heap.size [36,36] o3 (Rs fun o4 o5 o6 o7=>(∀X,Ext w.heap.size [36] o7 X->(R (.agg #[.slice o0 o1 o2,.slice o4 o5 o6]) X)))))))))/\(ae P (Instr.buildSlice 33 0 #[]) m.heap.size [36,36] m (Rs fun o8 o9 r0 r1=>(ae P (Builtin.append_ #[33,33] 33 #[.slice o8 o9 r0,.slice C c d]) w.heap.size [36,36] r1 (Rs fun r2 r3 r4 r5=>(ae P (Builtin.append_ #[34,34] 34 #[.slice p q r,.slice A a b]) w.heap.size [36,36] r5 (Rs fun r6 r7 r8 r9=>(∀Y,Ext w.heap.size [36] r9 Y->(R (.agg #[.slice r2 r3 r4,.slice r6 r7 r8]) Y))))))))))))/\((∀s,Ext w.heap.size [] f s->(ae P (Instr.buildSlice 33 0 #[]) s.heap.size [36,36] s (Rs fun Z d0 d1 t=>((ae P (Builtin.append_ #[33,33] 33 #[.slice Z d0 d1,.slice C c d]) w.heap.size [36,36] t (Rs fun s0 s1 s2 d2=>(ae P (Instr.buildSlice 34 0 #[]) d2.heap.size [36,36] d2 (Rs fun s3 s4 s5 s6=>(ae P (Builtin.append_ #[34,34] 34 #[.slice s3 s4 s5,.slice A a b]) w.heap.size [36,36] s6 (Rs fun s7 s8 s9 t0=>(∀d3,Ext w.heap.size [36] t0 d3->(R (.agg #[.slice s0 s1 s2,.slice s7 s8 s9]) d3))))))))/\(ae P (Instr.buildSlice 34 0 #[]) t.heap.size [36,36] t (Rs fun t1 t2 t3 t4=>(ae P (Builtin.append_ #[33,33] 33 #[.slice Z d0 d1,.slice C c d]) w.heap.size [36,36] t4 (Rs fun t5 t6 t7 t8=>(ae P (Builtin.append_ #[34,34] 34 #[.slice t1 t2 t3,.slice A a b]) w.heap.size [36,36] t8 (Rs fun t9 v0 v1 v2=>(∀d4,Ext w.heap.size [36] v2 d4->(R (.agg #[.slice t5 t6 t7,.slice t9 v0 v1]) d4))))))))))))/\(∀u,Ext w.heap.size [] f u->(ae P (Instr.buildSlice 34 0 #[]) u.heap.size [36,36] u (Rs fun v3 v4 v5 d5=>(ae P (Instr.buildSlice 33 0 #[]) d5.heap.size [36,36] d5 (Rs fun v6 v7 v8 v9=>(ae P (Builtin.append_ #[33,33] 33 #[.slice v6 v7 v8,.slice C c d]) w.heap.size [36,36] v9 (Rs fun x0 x1 x2 x3=>(ae P (Builtin.append_ #[34,34] 34 #[.slice v3 v4 v5,.slice A a b]) w.heap.size [36,36] x3 (Rs fun x4 x5 x6 x7=>(∀d6,Ext w.heap.size [36] x7 d6->(R (.agg #[.slice x0 x1 x2,.slice x4 x5 x6]) d6)))))))))))))))):
  Pure P 16 #[.agg #[.slice C c d,.slice A a b]] w R:=
 pr kM.cx func16 h

def bU.L4(a:O)(b c:Nat)(d:O)(e f:Nat)(g:Int):=Lt 63 f63 4 [vS 0 a b c,vS 1 d e f,vI 5 g] []
def bU.cx:Pm:=([((true,4),[0,1,5],[])],[])
theorem bU.L4.step
  (h:(Br (p<(a:Int)) (Ix p a A fun o=>(∃e f g,aa w (o.add ((p).toNat*3)) [I e,I f,I g]/\(Ix p b C fun q=>(∃i j l,aa w (q.add ((p).toNat*3)) [I i,I j,I l]/\(Br (¬(e=i/\f=j/\g=l/\True)) (∀m,Ext B [] w m->(R (.bool false) m)) (aU .i64 (p+1)/\(∀n,Ext B [] w n->(bU.L4 A a c C b d (p+1) B n R)))))))) (R (.bool true) w))):
  bU.L4 A a c C b d p B w R:=
 lr bU.cx func63 h
theorem bU.vc
  (h:(Br ((a:Int)≠(b:Int)) (R (.bool false) w) (bU.L4 A a c C b d (0:Int) w.heap.size w R))):
  Pure P 63 #[.slice A a c,.slice C b d] w R:=
 pr bU.cx func63 h

end Go.Proofs.YtbcojgcjjpggnaaGreatDoor.F

open Go.Proofs.YtbcojgcjjpggnaaGreatDoor

namespace Go.Proofs.YtbcojgcjjpggnaaGreatDoor.B
open Go Go.RowKit Go.Proofs Go.Proofs.YtbcojgcjjpggnaaGreatDoor.Vc

theorem eW.ext{w d:World}{B:Nat}{A:Option Addr}{n c:Nat}{ws:List Nat}(h:eW w B A n c ws)(e:Ext B [] w d):eW d B A n c ws:=
 h.other fun b hb=>by
  rcases e.other b (h.uJ b hb).2 with h1|⟨t,g,_⟩
  ·exact h1
  ·cases g

section
variable {w0:World} {A1 A0:Option Addr} {n1 c1 n0 c0:Nat} {a b:List Nat} {R:Value->World->Prop}

end

theorem iH.nil(w:World):iH w none 0 0 0:=⟨[],.inl rfl,rfl,om,om,Small.nil,by simp[Norm],rfl⟩
theorem PT.nil(w:World)(B:Nat):PT w B none 0 0 0:=⟨[],World.ownsRow_nil w _ _ _,Small.nil,by simp[Norm],rfl⟩
theorem iH.zero{w:World}{A:Option Addr}{n c x:Nat}(h:iH w A n c x)(hn:n=0):x=0:=by
 have:=h.L0;apply bm;intro k;have:=this.2 k;omega

end Go.Proofs.YtbcojgcjjpggnaaGreatDoor.B

open Go.Proofs.YtbcojgcjjpggnaaGreatDoor

namespace Go.Proofs.YtbcojgcjjpggnaaGreatDoor.B
open Go Go.RowKit Go.Proofs Go.Proofs.YtbcojgcjjpggnaaGreatDoor.Vc

theorem iH.one{w:World}{A:Option Addr}{n c x:Nat}(h:iH w A n c x)(b:0<x)(hx:x<1000000000):n=1/\mZ w A [x]:=by
 obtain⟨ws,h1,d,i,j,l,g,rfl⟩:=h;have a:ws≠[]:=fun e=>by subst e;simp[wv]at b
 have hp:=nV g a;have hl:ws.length=1:=by
  have:=vv.2 a;apply bm;intro k;have:1000000000^1<=1000000000^(ws.length - 1):=fm om om;omega
 obtain⟨z,rfl⟩:=pt.1 hl;refine⟨by simpa using d.symm,?_⟩;have e:wv [z]=z:=by simp[wv]
 rw[e];exact h1

section
variable {w1:World} {B:Nat} {Af Au Av Aq:Option Addr} {nf cf nu cu nv cv nq cq:Nat} {vs:List Nat} {R:Value->World->Prop}

end

theorem iH.jY{w:World}{A:Option Addr}{n c z k:Nat}(h:iH w A n c z)(hz:z<1000000000^k):n<=k:=by
 obtain⟨ws,_,hl,_,_,_,hn,rfl⟩:=h;by_cases b:ws=[]
 ·subst b;simp at hl;omega
 ·have h1:=nV hn b;have:=(M0 (a:=1000000000) om).1 (pe h1 hz);omega
theorem eW.some{w:World}{B:Nat}{A:Option Addr}{n c:Nat}{ws:List Nat}(h:eW w B A n c ws)(a:n≠0):A≠none:=by
 rintro rfl;rcases h.2 with⟨e,_⟩|⟨g,cap,cur,e,_⟩
 ·cases e;exact a rfl
 ·cases e

def YG(w:World)(b:Bool)(A:Option Addr)(n c:Nat)(z:Int):Prop:=b=decide (z<0)/\iH w A n c z.natAbs
theorem YG.below{w w':World}{b:Bool}{A:Option Addr}{n c:Nat}{z:Int}(h:YG w b A n c z)(hb:Below w.heap.size w w'):YG w' b A n c z:=⟨h.1,h.2.below hb⟩
theorem YG.ext{w w':World}{B:Nat}{ts:List Nat}{b:Bool}{A:Option Addr}{n c:Nat}{z:Int}(h:YG w b A n c z)(e:Ext B ts w w')(a:227∉ts):YG w' b A n c z:=⟨h.1,h.2.ext e a⟩
def sgn(z:Int):Int:=if z<0 then -1 else if 0<z then 1 else 0

def SZ(w:World)(b:Bool)(A:Option Addr)(n c:Nat)(A':Option Addr)(n' c':Nat)(r:Rat):Prop:=YG w b A n c r.num/\iH w A' n' c' r.den
theorem SZ.below{w w':World}{b:Bool}{A A':Option Addr}{n c n' c':Nat}{r:Rat}(h:SZ w b A n c A' n' c' r)(hb:Below w.heap.size w w'):SZ w' b A n c A' n' c' r:=⟨h.1.below hb,h.2.below hb⟩
theorem SZ.ext{w w':World}{B:Nat}{ts:List Nat}{b:Bool}{A A':Option Addr}{n c n' c':Nat}{r:Rat}(h:SZ w b A n c A' n' c' r)(e:Ext B ts w w')(a:227∉ts):SZ w' b A n c A' n' c' r:=⟨h.1.ext e a,h.2.ext e a⟩
abbrev QR(r:Rat)(v:Value)(w:World):Prop:=∃b A n c A' n' c',v= .agg #[.bool b,.slice A n c,.slice A' n' c']/\SZ w b A n c A' n' c' r

end Go.Proofs.YtbcojgcjjpggnaaGreatDoor.B

open Go.Proofs.YtbcojgcjjpggnaaGreatDoor

namespace Go.Proofs.YtbcojgcjjpggnaaGreatDoor.B
open Go Go.RowKit Go.Proofs Go.Proofs.YtbcojgcjjpggnaaGreatDoor.Vc

theorem ug:El Tryz.prog 115 5 1 1:=El.of kF
section
variable {w0:World} {A0:Option Addr} {n0 c0:Nat} {ws:List Nat} {R:Value->World->Prop}

end

def ag9(p:Pa):Bool:=decide (p.iB.size<=40/\p.uR.size<=40/\p.fY.size<=40/\p.name.size<=70)
def aha(h:Ho):Bool:=decide (h.room.size<=40/\h.nZ.size<=40/\h.x.size<=40/\h.y.size<=40/\h.z.size<=40/\h.name.size<=70)
def YH(ps:List Pa)(hs:List Ho):Bool:=ps.all ag9&&hs.all aha&&decide (ps.length<=7/\hs.length<=7)
structure DU (w:World) (A0:Option Addr) (n0:Nat) (A1:Option Addr) (n1:Nat) (ps:List Pa) (hs:List Ho):Prop where
 p:bR w A0 7 (ps.map Pa.row)
 h:bR w A1 7 (hs.map Ho.row)
 lp:ps.length=n0
 lh:hs.length=n1
 np:n0<9223372036854775808
 nh:n1<9223372036854775808
theorem DU.au{w w':World}{A0 A1:Option Addr}{n0 n1:Nat}{ps:List Pa}{hs:List Ho}(h:DU w A0 n0 A1 n1 ps hs)(hb:Below w.heap.size w w'):DU w' A0 n0 A1 n1 ps hs:=
 ⟨h.p.au hb lf,h.h.au hb lf,h.lp,h.lh,h.np,h.nh⟩
theorem DU.YI{w:World}{A0 A1:Option Addr}{n0 n1:Nat}{ps:List Pa}{hs:List Ho}(h:DU w A0 n0 A1 n1 ps hs)(hf:YH ps hs=true):gO w A0 n0 A1 n1 ps hs:=by
 unfold YH at hf;rw[cy,cy]at hf;obtain⟨⟨h1,b⟩,a⟩:=hf;have a:=eR a;refine⟨h.p,h.h,h.lp,h.lh,fun p hp=> ?_,fun x hx=> ?_,by have:=h.lp;omega,by have:=h.lh;omega⟩
 ·have:=eR (gr.1 h1 p hp);exact⟨by unfold ma;omega,by unfold ma;omega,by unfold ma;omega,om⟩
 ·have:=eR (gr.1 b x hx);exact⟨by unfold ma;omega,by unfold ma;omega,by unfold ma;omega,by unfold ma;omega,by unfold ma;omega,om⟩
theorem all_false{α:Type}{p:α->Bool}{l:List α}{x:α}(hx:x∈l)(h:p x=false):l.all p=false:=by
 rw[Iq];intro k;rw[gr.1 k x hx]at h;cases h
theorem FU:El Tryz.prog 33 111 7 88:=El.of kF
theorem FV:El Tryz.prog 34 172 7 104:=El.of kF
theorem QG{v:List Pa}:∀r∈v.map Pa.row,r.length=7:=by
 intro r a;obtain⟨x,_,rfl⟩:=hM.1 a;rfl
theorem No{v:List Pa}:∀r∈v.map Pa.row,∀u∈r,bl u=true:=by
 intro r a u hu;obtain⟨x,_,rfl⟩:=hM.1 a;simp only[Pa.row,cc,fs,u1]at hu;rcases hu with rfl|rfl|rfl|rfl|rfl|rfl|rfl<;>rfl
theorem QH{v:List Ho}:∀r∈v.map Ho.row,r.length=7:=by
 intro r a;obtain⟨x,_,rfl⟩:=hM.1 a;rfl
theorem Np{v:List Ho}:∀r∈v.map Ho.row,∀u∈r,bl u=true:=by
 intro r a u hu;obtain⟨x,_,rfl⟩:=hM.1 a;simp only[Ho.row,cc,fs,u1]at hu;rcases hu with rfl|rfl|rfl|rfl|rfl|rfl|rfl<;>rfl
theorem B8{v:List Sw}:∀r∈v.map Sw.row,r.length=3:=by
 intro r a;obtain⟨x,_,rfl⟩:=hM.1 a;rfl
theorem DV{v:List Sw}:∀r∈v.map Sw.row,∀u∈r,bl u=true:=by
 intro r a u hu;obtain⟨x,_,rfl⟩:=hM.1 a;simp only[Sw.row,cc,fs,u1]at hu;rcases hu with rfl|rfl|rfl<;>rfl

structure xK (w:World) (A0:Option Addr) (n0:Nat) (A1:Option Addr) (n1:Nat) (ps:List Pa) (hs:List Ho):Prop where
 p:bR w A0 7 (ps.map Pa.row)
 h:bR w A1 7 (hs.map Ho.row)
 lp:ps.length=n0
 lh:hs.length=n1
 np:n0*88<=140737488355328
 nh:n1*104<=140737488355328
theorem xK.au{w w':World}{A0 A1:Option Addr}{n0 n1:Nat}{ps:List Pa}{hs:List Ho}(h:xK w A0 n0 A1 n1 ps hs)(hb:Below w.heap.size w w'):xK w' A0 n0 A1 n1 ps hs:=
 ⟨h.p.au hb lf,h.h.au hb lf,h.lp,h.lh,h.np,h.nh⟩
theorem gO.fit{w:World}{A0 A1:Option Addr}{n0 n1:Nat}{ps:List Pa}{hs:List Ho}(h:gO w A0 n0 A1 n1 ps hs):xK w A0 n0 A1 n1 ps hs:=
 ⟨h.p,h.h,h.lp,h.lh,by have:=h.np;omega,by have:=h.nh;omega⟩
structure zW (w0:World) (A0:Option Addr) (n0:Nat) (A1:Option Addr) (n1:Nat) (ps:List Pa) (hs:List Ho) (p h:Option (Option Addr×Nat×Nat)) (fp fh:Bool) (w:World):Prop where
 cg:xK w A0 n0 A1 n1 ps hs
 b:Below w0.heap.size w0 w
 p:∀x,p=some x->aE w w0.heap.size 111 x.1 x.2.1 x.2.2 7 (if fp then ps.map Pa.row else[])
 h:∀x,h=some x->aE w w0.heap.size 172 x.1 x.2.1 x.2.2 7 (if fh then hs.map Ho.row else[])
section
variable {w0:World} {A0 A1:Option Addr} {n0 c0 n1 c1:Nat} {ps:List Pa} {hs:List Ho} {p h:Option (Option Addr×Nat×Nat)} {fp fh:Bool} {w:World}
theorem zW.next{w':World}(k:zW w0 A0 n0 A1 n1 ps hs p h fp fh w)(hb:Below w.heap.size w w'):zW w0 A0 n0 A1 n1 ps hs p h fp fh w':=
 ⟨k.cg.au hb,kP k.b hb,fun x hx=>(k.p x hx).below hb,fun x hx=>(k.h x hx).below hb⟩
theorem zW.ext{ts:List Nat}{G:World->Prop}(k:zW w0 A0 n0 A1 n1 ps hs p h fp fh w)(a:ts=[])(b:∀w',zW w0 A0 n0 A1 n1 ps hs p h fp fh w'->G w'):∀w',Ext w0.heap.size ts w w'->G w':=by
 intro w' x;subst a;exact b w' (k.next (Md x))
theorem zW.bp{tys:List Nat}{K:Option Addr->Nat->Nat->World->Prop}(k:zW w0 A0 n0 A1 n1 ps hs none h fp fh w)(a:∀A c w',zW w0 A0 n0 A1 n1 ps hs (some (A,0,c)) h false fh w'->K A 0 c w'):
  ae Tryz.prog (Instr.buildSlice 33 0 #[]) w.heap.size tys w fun r w1=>∃A n c,r= .slice A n c/\K A n c w1:=
 bc FU [] sm sm lf fun A c w' ho hb=>a A c w' ⟨k.cg.au hb,kP k.b hb,fun x hx=>(by cases hx;exact ho.base k.b.size),fun x hx=>(k.h x hx).below hb⟩
theorem zW.bh{tys:List Nat}{K:Option Addr->Nat->Nat->World->Prop}(k:zW w0 A0 n0 A1 n1 ps hs p none fp fh w)(a:∀A c w',zW w0 A0 n0 A1 n1 ps hs p (some (A,0,c)) fp false w'->K A 0 c w'):
  ae Tryz.prog (Instr.buildSlice 34 0 #[]) w.heap.size tys w fun r w1=>∃A n c,r= .slice A n c/\K A n c w1:=
 bc FV [] sm sm lf fun A c w' ho hb=>a A c w' ⟨k.cg.au hb,kP k.b hb,fun x hx=>(k.p x hx).below hb,fun x hx=>(by cases hx;exact ho.base k.b.size)⟩
theorem zW.ap{tys:List Nat}{ty:Nat}{A:Option Addr}{n c:Nat}{K:Option Addr->Nat->Nat->World->Prop}(d:xK w0 A0 n0 A1 n1 ps hs)(hz:A0=none->c0=0)(g:111∉tys)(k:zW w0 A0 n0 A1 n1 ps hs (some (A,n,c)) h false fh w)(i:∀A' n' c' w',zW w0 A0 n0 A1 n1 ps hs (some (A',n',c')) h true fh w'->K A' n' c' w'):
  ae Tryz.prog (Builtin.append_ #[33,33] ty #[.slice A n c,.slice A0 n0 c0]) w0.heap.size tys w fun r w1=>∃A n c,r= .slice A n c/\K A n c w1:=by
 have hl:=k.cg.lp;have j:=k.cg.np;have ho:aE w w0.heap.size 111 A n c 7 []:=by simpa using k.p _ rfl
 have hn:n=0:=by have:=ho.len;simpa using this.symm
 subst hn;refine yA FU lf ho k.cg.p (by simpa using hl) QG No hz k.b.size om om g fun A' c' w' o hg hb=>i _ _ _ _ ⟨d.au (k.b.trans hb),k.b.trans hb,fun x hx=> ?_,fun x hx=> ?_⟩
 ·cases hx;simpa using o
 ·refine(k.h x hx).other fun a ha=> ?_
  obtain⟨cs,l⟩:=(k.h x hx).cells a ha;refine hg.block _ ((k.h x hx).uJ a ha).2 fun e=> ?_
  cases A with
  |none=>simp[Value.ownBlock]at e
  |some a2=>
   simp[Value.ownBlock]at e;obtain⟨q,m⟩:=ho.cells a2 rfl;exact uQ l m dc (by first|exact e|exact e.symm)
theorem zW.ah{tys:List Nat}{ty:Nat}{A:Option Addr}{n c:Nat}{K:Option Addr->Nat->Nat->World->Prop}(d:xK w0 A0 n0 A1 n1 ps hs)(hz:A1=none->c1=0)(g:172∉tys)(k:zW w0 A0 n0 A1 n1 ps hs p (some (A,n,c)) fp false w)(i:∀A' n' c' w',zW w0 A0 n0 A1 n1 ps hs p (some (A',n',c')) fp true w'->K A' n' c' w'):
  ae Tryz.prog (Builtin.append_ #[34,34] ty #[.slice A n c,.slice A1 n1 c1]) w0.heap.size tys w fun r w1=>∃A n c,r= .slice A n c/\K A n c w1:=by
 have hl:=k.cg.lh;have j:=k.cg.nh;have ho:aE w w0.heap.size 172 A n c 7 []:=by simpa using k.h _ rfl
 have hn:n=0:=by have:=ho.len;simpa using this.symm
 subst hn;refine yA FV lf ho k.cg.h (by simpa using hl) QH Np hz k.b.size om om g fun A' c' w' o hg hb=>i _ _ _ _ ⟨d.au (k.b.trans hb),k.b.trans hb,fun x hx=> ?_,fun x hx=> ?_⟩
 ·refine(k.p x hx).other fun a ha=> ?_
  obtain⟨cs,l⟩:=(k.p x hx).cells a ha;refine hg.block _ ((k.p x hx).uJ a ha).2 fun e=> ?_
  cases A with
  |none=>simp[Value.ownBlock]at e
  |some a2=>
   simp[Value.ownBlock]at e;obtain⟨q,m⟩:=ho.cells a2 rfl;exact uQ l m dc (by first|exact e|exact e.symm)
 ·cases hx;simpa using o
end
set_option maxRecDepth 20000 in
theorem Nq{w:World}{A0 A1:Option Addr}{n0 c0 n1 c1:Nat}{ps:List Pa}{hs:List Ho}(a:xK w A0 n0 A1 n1 ps hs)(g:A0=none->c0=0)(i:A1=none->c1=0):
  Pure Tryz.prog 16 #[.agg #[.slice A0 n0 c0,.slice A1 n1 c1]] w fun v w'=>∃B0 d0 b d1,v= .agg #[.slice B0 n0 d0,.slice b n1 d1]/\aE w' w.heap.size 111 B0 n0 d0 7 (ps.map Pa.row)/\aE w' w.heap.size 172 b n1 d1 7 (hs.map Ho.row):=by
 refine F.kM.vc fun w1 j=> ?_
 have s1:zW w A0 n0 A1 n1 ps hs none none false false w1:=⟨a.au (k0 j),k0 j,fun x hx=>(by cases hx),fun x hx=>(by cases hx)⟩;have fin:∀{P H:Option Addr} {np nh d ch:Nat} {c:World},zW w A0 n0 A1 n1 ps hs (some (P,np,d)) (some (H,nh,ch)) true true c->∀e,Ext w.heap.size [36] c e->
   ∃B0 d0 b d1,Value.agg #[.slice P np d,.slice H nh ch]= .agg #[.slice B0 n0 d0,.slice b n1 d1]/\aE e w.heap.size 111 B0 n0 d0 7 (ps.map Pa.row)/\aE e w.heap.size 172 b n1 d1 7 (hs.map Ho.row):=by
  intro P H np nh d ch c k e l;have hp:aE c w.heap.size 111 P np d 7 (ps.map Pa.row):=k.p _ rfl;have m:aE c w.heap.size 172 H nh ch 7 (hs.map Ho.row):=k.h _ rfl;have lp:=hp.len;have lh:=m.len;simp only[ec]at lp lh;rw[a.lp]at lp;rw[a.lh]at lh;subst lp;subst lh;exact⟨_,_,_,_,rfl,hp.Nd l dc,m.Nd l dc⟩
 repeat' first
  |(with_reducible refine And.intro ?_ ?_)
  |exact fin (by assumption)
  |(with_reducible refine zW.ext (by assumption) rfl fun _ _=> ?_)
  |(with_reducible refine zW.bp (by assumption) fun _ _ _ _=> ?_)
  |(with_reducible refine zW.bh (by assumption) fun _ _ _ _=> ?_)
  |(with_reducible refine zW.ap a g ?_ (by assumption) fun _ _ _ _ _=> ?_; · decide)
  |(with_reducible refine zW.ah a i ?_ (by assumption) fun _ _ _ _ _=> ?_; · decide)

theorem Uq(s:Nat)(hs:s<18446744073709551616)(w:World):(binOp .shr 184 (.int .u64 (s:Int)) (.int .u64 1)).run Tryz.prog w= .ok (.int .u64 ((s / 2:Nat):Int)) w:=by
 have e:binOp .shr 184 (.int .u64 (s:Int)) (.int .u64 1)=Op.shift .shr .u64 (s:Int) .u64 1:=rfl;rw[e,shift_shr .u64 .u64 _ _ dc dc];rfl

def vN(t:Sw)(l:List Sw):Nat:=(l.takeWhile fun x=>decide (fC x t)).length
theorem YK(t:Sw)(l:List Sw):vN t l<=l.length:=(List.takeWhile_sublist _).length_le
theorem YL{t:Sw}{l:List Sw}{i:Nat}(hi:i<=l.length)(h1:∀k a,k<i->l[k]? =some a->fC a t)(c:∀a,l[i]? =some a->¬fC a t):vN t l=i:=by
 induction l generalizing i with
 |nil=>simp at hi;subst hi;rfl
 |cons a r ih=>
  cases i with
  |zero=>
   have:=c a rfl;simp[vN,this]
  |succ i=>
   have ha:=h1 0 a om rfl;have:=ih (i:=i) (by simpa using hi) (fun k b d hb=>h1 (k+1) b om (by simpa using hb)) (fun b hb=>c b (by simpa using hb));unfold vN at*;simp[ha,this]
theorem Mg{l:List Sw}(h:sA l){i j:Nat}{a b t:Sw}(d:i<=j)(ha:l[i]? =some a)(hb:l[j]? =some b)(c:fC b t):fC a t:=by
 by_cases e:i=j
 ·subst e;rw[ha]at hb;cases hb;exact c
 ·obtain⟨hi,rfl⟩:=eh.1 ha;obtain⟨hj,rfl⟩:=eh.1 hb;exact uS (List.pairwise_iff_getElem.1 h i j hi hj om) c
def iu(t:Sw)(l:List Sw):Bool:=match l[vN t l]? with
 |some x=>decide (x.hold=t.hold/\x.av=t.av)
 |none=>false
theorem FW{w0:World}{A:Option Addr}{n c:Nat}{l:List Sw}(hl:bR w0 A 3 (l.map Sw.row))(hlen:l.length=n)(hn:n<1000000)(hs:sA l)(t:Sw):
  Pure Tryz.prog 44 #[.slice A n c,t.val,.func (.func 45) #[] #[]] w0 fun v _=>v= .tuple #[.int .i64 (vN t l:Nat),.bool (iu t l)]:=by
 have fin:∀(i:Nat)(w:World),i<=n->Below w0.heap.size w0 w->(∀k a,k<i->l[k]? =some a->fC a t)->(∀k a,i<=k->l[k]? =some a->¬fC a t)->
   F.ak.L3 A n c 45 #[] #[] n i i t.hold t.av t.aV w0.heap.size w fun v _=>v= .tuple #[.int .i64 (vN t l:Nat),.bool (iu t l)]:=by
  intro i w hi hw h1 b;have m:vN t l=i:=YL om h1 fun a ha=>b i a lf ha
  refine F.ak.L3.step ⟨fun h=>by omega,fun _=>⟨fun h=> ?_,fun h o _=> ?_⟩⟩
  ·have g:i<l.length:=om;obtain⟨hb,a,q,r,_⟩:=(hl.au hw lf).at_ (fun _=>rfl) hlen g;refine⟨hb,a,q,_,_,_,r,kF,fun o B=>pm (jI l[i] t o) ?_⟩;rintro v x _ rfl;refine⟨_,rfl,?_⟩;unfold iu;rw[m,af g];have e:decide (KA l[i] t=0)=decide (l[i].hold=t.hold/\l[i].av=t.av):=by rw[nb];exact Uh
   dsimp only;rw[e]
  ·unfold iu;rw[m,hP om]
 have key:∀(d i j:Nat)(w:World),j - i<=d->i<=j->j<=n->Below w0.heap.size w0 w->(∀k a,k<i->l[k]? =some a->fC a t)->(∀k a,j<=k->l[k]? =some a->¬fC a t)->
   F.ak.L3 A n c 45 #[] #[] n i j t.hold t.av t.aV w0.heap.size w fun v _=>v= .tuple #[.int .i64 (vN t l:Nat),.bool (iu t l)]:=by
  intro d;induction d with
  |zero=>
   intro i j w E G hj hw h1 b;have:i=j:=om;subst this;exact fin i w hj hw h1 b
  |succ d ih=>
   intro i j w E G hj hw h1 b;by_cases he:i=j
   ·subst he;exact fin i w hj hw h1 b
   obtain⟨h,H⟩:∃h,h=(i+j) / 2:=⟨_,rfl⟩
   have g:h<l.length:=om;refine F.ak.L3.step ⟨fun _=>⟨ir,ir,?_⟩,fun h=>by omega⟩;have es:(i:Int)+(j:Int)=((i+j:Nat):Int):=om;rw[es];refine⟨_,_,Uq (i+j) om w,Below.refl _ _,eU _,fun _ _ _ _ _=>rfl,_,rfl,?_⟩;rw[<-H];obtain⟨hb,a,q,r,_⟩:=(hl.au hw lf).at_ (fun _=>rfl) hlen g;refine⟨ir,hb,a,q,_,_,_,r,kF,fun o B=>pm (jI l[h] t o) ?_⟩;have C:=kE hw B;rintro v x D rfl;refine⟨_,rfl,fun y=>⟨ir,?_⟩,fun y=> ?_⟩
   ·have I:=sc h;rw[I];exact ih (h+1) j x om om hj (kP C D) (fun k a z ha=>Mg hs om ha (af g) (FP.1 y)) b
   ·refine ih i h x om om om (kP C D) h1 fun k a z ha hb=>y (FP.2 ?_)
    exact Mg hs z (af g) ha hb
 refine F.ak.vc fun w1 J=> ?_
 refine key n 0 n w1 om om om (k0 J) (fun k a h=>by omega) fun k a z ha=> ?_
 rw[hP om]at ha;cases ha

def qk(A:Option Addr)(w w':World):Prop:=w.heap.size<=w'.heap.size/\∀k,k<w.heap.size->(∀a,A=some a->k≠a.block)->w'.heap[k]? =w.heap[k]?
theorem qk.refl{A:Option Addr}{w:World}:qk A w w:=⟨eU _,fun _ _ _=>rfl⟩
theorem qk.trans{A:Option Addr}{w w1 a:World}(h:qk A w w1)(k:qk A w1 a):qk A w a:=
 ⟨dp h.1 k.1,fun j hj ha=>(k.2 j (sS hj h.1) ha).trans (h.2 j hj ha)⟩
theorem qk.low{A:Option Addr}{w w1:World}(h:Below w.heap.size w w1):qk A w w1:=⟨h.size,fun k a _=>h.block k a⟩
theorem qk.wrote{A:Option Addr}{w w1:World}{b ty:Nat}{cs:List Value}(h:aL w w1 b ty cs)(ha:∃a,A=some a/\a.block=b):qk A w w1:=
 ⟨by rw[h.size];exact eU _,fun k g c=>h.rest k fun e=>by obtain⟨a,h1,d⟩:=ha;exact c a h1 (e.trans d.symm)⟩
theorem qk.fresh{A:Option Addr}{w0 w w1:World}{b ty:Nat}{cs:List Value}(h:aL w w1 b ty cs)(k:qk A w0 w)(hb:w0.heap.size<=b):qk A w0 w1:=
 ⟨by rw[h.size];exact k.1,fun j hj ha=>(h.rest j om).trans (k.2 j hj ha)⟩

theorem zA{w0:World}{A:Option Addr}{n c:Nat}{l:List Sw}(hl:bR w0 A 3 (l.map Sw.row))(hlen:l.length=n)(hn:n<2147483648){f:Nat}{a k:Array Value}(cA:ay Tryz.prog f=true){p:Sw->Bool}
  (hf:∀w,Below w0.heap.size w0 w->∀x∈l,Pure Tryz.prog f (a.toList++([x.val]:List Value)++k.toList).toArray w fun v _=>v= .bool (p x)) {R:Value->World->Prop} {r:Int} (j:∀w,R (.int .i64 r) w):
  ∀(d i:Nat)(w:World),n - i=d->i<=n->Below w0.heap.size w0 w->r=fF p i (l.drop i)->F.aN.L2 A n c f a k n i w0.heap.size w R:=by
 intro d;induction d with
 |zero=>
  intro i w o hi hw b;rw[cd om]at b;subst b;exact F.aN.L2.step ⟨fun h=>by omega,fun _=>j w⟩
 |succ d ih=>
  intro i w o hi hw b;have g:i<l.length:=om;rw[cz g,fF]at b;obtain⟨hb,q,y,e,_⟩:=(hl.au hw lf).at_ (fun _=>rfl) hlen g;refine F.aN.L2.step ⟨fun _=> ?_,fun h=>by omega⟩;refine⟨hb,q,y,_,_,_,e,cA,pm (hf w hw l[i] (bw g)) ?_⟩;rintro v m z rfl;refine⟨_,rfl,fun h=> ?_,fun h=>⟨ir,?_⟩⟩
  ·rw[bb h]at b;subst b;exact j m
  ·rw[aq (by simp[h])]at b;have B:=sc i;rw[B];exact ih (i+1) m om om (kP hw z) b
theorem DW{α:Type}{p:α->Bool}{l:List α}(h:l.findIdx? p=none):l.filter (fun x=> !p x)=l:=by
 rw[MV];intro x hx;have:=Hm.1 h x hx;simp[this]
theorem DX{α:Type}{p:α->Bool}{l:List α}{i:Nat}(h:l.findIdx? p=some i):i<l.length/\(l.take (i+1)).filter (fun x=> !p x)=l.take i:=by
 obtain⟨hi,hp,a⟩:=tf.1 h;refine⟨hi,?_⟩;rw[ft,af hi,F3];have b:(l.take i).filter (fun x=> !p x)=l.take i:=by
  rw[MV];intro x hx;obtain⟨j,hj,rfl⟩:=List.mem_take_iff_getElem.1 hx;have:=a j om;simpa using this
 rw[b];simp[hp]
theorem FX:(Tryz.prog.info? 54).bind (·.zero)=some (.agg #[.int .i64 0,.int .i64 0,.int .i64 0]):=kF

theorem Nr{w0:World}{B:Nat}{A:Option Addr}{n c:Nat}{l:List Sw}(hlen:l.length=n)(hn:n<2147483648)(mv:n<=c){f:Nat}{a k:Array Value}(cA:ay Tryz.prog f=true){p:Sw->Bool}
  (hf:∀w,qk A w0 w->∀x:Sw,Pure Tryz.prog f (a.toList++([x.val]:List Value)++k.toList).toArray w fun v _=>v= .bool (p x)) {R:Value->World->Prop}
  (Z:∀m w,qk A w0 w->aE w B 54 A m c 3 ((l.filter fun x=> !p x).map Sw.row)->R (.slice A m c) w):
  ∀(d i j:Nat)(cur:List Sw)(w:World),n - j=d->j<=n->i<=j->cur.length=n->aE w B 54 A n c 3 (cur.map Sw.row)->cur.take i=(l.take j).filter (fun x=> !p x)->cur.drop j=l.drop j->qk A w0 w->B<=w.heap.size->
   F.aK.L5 A n c f a k i j B w R:=by
 intro d;induction d with
 |zero=>
  intro i j cur w hd hj K r ho g G y b;have:j=n:=om;subst this;rw[de (l:=l) om]at g;refine F.aK.L5.step ⟨fun h=>by omega,fun _=>⟨om,?_⟩⟩;have os:=ho.short (m:=i) om;rw[<-Aa,g]at os;rw[ca];refine ue gW FX (by simp[Value.cells,bl]) os K mv fun L o2 z k2=>⟨om,Z i L (y.trans ⟨z.size,k2⟩) o2⟩
 |succ d ih=>
  intro i j cur w hd hj K r ho g G y b;have M:j<l.length:=om;have o:j<cur.length:=om;have H:cur[j]=l[j]:=by
   have h1:(cur.drop j)[0]? =(l.drop j)[0]? :=by rw[G]
   rw[k7,k7]at h1;simpa[M,o]using h1
  have N:=sc j;have e4:=sc i;have O:cur.drop (j+1)=l.drop (j+1):=by
   have:=bx (List.drop 1) G;simpa[OQ]using this
  have P:l.take (j+1)=l.take j++[l[j]]:=by rw[ft,af M];rfl
  obtain⟨hb,ad,hA,e,_⟩:=ho.sl.at_ (fun _=>rfl) r o;refine F.aK.L5.step ⟨fun _=>⟨hb,ad,hA,_,_,_,e,?_⟩,fun h=>by omega⟩;refine cC 54 FX b fun L fB z hlt=> ?_
  refine⟨_,_,b,rfl,fB,by simp[Value.cells],rfl,fun C D=> ?_⟩;have Q:C.heap[w.heap.size]? =some (.cells (cur[j].row).toArray 54 (0,0)):=by
   have:=D.at_;simpa[setCells,Value.cells]using this
  have S:qk A w0 C:=qk.fresh D (y.trans (qk.low z)) y.1;have YN:∀x,A=some x->x.block<w.heap.size:=fun x hx=>(ho.uJ x hx).2
  have o3:aE C B 54 A n c 3 (cur.map Sw.row):=(ho.below z).other fun x hx=>D.rest _ (by have:=YN x hx;show x.block≠w.heap.size;omega)
  refine⟨_,_,_,eE Q,cA,pm (hf C S cur[j]) ?_⟩;rintro v T E rfl;have U:=S.trans (qk.low (A:=A) E);have V:=o3.below E;have q:B<=T.heap.size:=by have:=E.size;have:=D.size;omega
  refine⟨_,rfl,fun gI=> ?_,fun YO=>⟨ir,?_⟩⟩
  ·have I:p l[j]=false:=by rw[<-H];exact gI
   obtain⟨g1,a2,W,cs,g2,g3,g4,g5,g6⟩:=V.Nc (i:=(i:Int)) om om (cur[j].row) ((cur[i]'om).row) (by rw[ca,kl,af om];rfl) rfl;refine⟨_,_,_,eE (ag Q E),g1,a2,W,cs,_,g2,g3,g4,g5,rfl,fun X J=>⟨ir,ir,?_⟩⟩;have Y:=g6 X J;rw[ca]at Y;have Ns:(a2.add ((i:Int).toNat*3)).block=a2.block:=by unfold Addr.add;split<;>rfl
   rw[N,e4];refine ih (i+1) (j+1) (cur.set i cur[j]) X om om om (by simp[r]) (by rw[Cv];exact Y) ?_ ?_ (U.trans (qk.wrote J ⟨a2,W,Ns.symm⟩)) (by rw[J.size];exact q)
   ·rw[ft,xt om,List.take_set_of_le om,g,P,F3,H];simp[I]
   ·rw[List.drop_set_of_lt om];exact O
  ·have I:p l[j]=true:=by rw[<-H];simpa using YO
   rw[N];refine ih i (j+1) cur T om om om r V ?_ O U q;rw[g,P,F3];simp[I]
theorem Ir{w:World}{B:Nat}(hB:B<=w.heap.size){A:Option Addr}{n c:Nat}{l:List Sw}(ho:aE w B 54 A n c 3 (l.map Sw.row))(hn:n<2147483648){f:Nat}{a k:Array Value}(cA:ay Tryz.prog f=true){p:Sw->Bool}
  (hf:∀w',qk A w w'->∀x:Sw,Pure Tryz.prog f (a.toList++([x.val]:List Value)++k.toList).toArray w' fun v _=>v= .bool (p x)):
  cI Tryz.prog 153 #[.slice A n c,.func (.func f) a k] B w fun v w'=>∃m,v= .slice A m c/\aE w' B 54 A m c 3 ((l.filter fun x=> !p x).map Sw.row)/\qk A w w':=by
 have hlen:l.length=n:=by have:=ho.len;simpa using this
 have mv:=ho.jY;refine F.aK.u7 hB ?_;refine pm (F.aN.vc (zA ho.sl hlen hn cA (fun w' hb x _=>hf w' (qk.low hb) x) (R:=fun v _=>v= .int .i64 (fF p 0 l)) (fun _=>rfl) n 0 w rfl om (Below.refl _ _) rfl)) ?_;rintro v e b rfl;have key:=lB p l 0;cases hx:l.findIdx? p with
 |none=>
  rw[hx]at key;simp only at key;rw[key];refine⟨_,rfl,fun _=>⟨n,rfl,?_,qk.low b⟩,fun h=>absurd rfl h⟩;rw[DW hx];exact ho.below b
 |some i=>
  rw[hx]at key;simp only[jx]at key;rw[key];obtain⟨q,d⟩:=DX hx;have g:=sc i;refine⟨_,rfl,fun h=>by omega,fun _=>⟨ir,?_⟩⟩;rw[g];exact Nr (w0:=w) hlen hn mv cA hf (fun m w' j o=>⟨m,rfl,o,j⟩) (n - (i+1)) i (i+1) l e rfl om om hlen (ho.below b) d.symm rfl (qk.low b) (dp hB b.size)

theorem FY{sz:Nat}{rows:List (List Value)}(h:∀r∈rows,r.length=sz){m:Nat}(hm:m<=rows.length):(rows.take m).flatten=rows.flatten.take (m*sz):=by
 have b:(rows.take m).flatten.length=m*sz:=by rw[jH _ fun r a=>h r (iF a),ew,nF hm]
 have:rows.flatten=(rows.take m).flatten++(rows.drop m).flatten:=by rw[<-po,hN]
 conv=>rhs;rw[this]
 rw[Jo om,de (l:=(rows.take m).flatten) om]
theorem FZ{sz:Nat}{rows:List (List Value)}(h:∀r∈rows,r.length=sz){m:Nat}(hm:m<=rows.length):(rows.drop m).flatten=rows.flatten.drop (m*sz):=by
 have c:(rows.take m).flatten.length=m*sz:=by rw[jH _ fun r a=>h r (iF a),ew,nF hm]
 have:rows.flatten=(rows.take m).flatten++(rows.drop m).flatten:=by rw[<-po,hN]
 conv=>rhs;rw[this]
 have b:(rows.take m).flatten.drop (m*sz)=[]:=cd om;rw[RL om,b,tu]

theorem yB{t ty e sz bytes:Nat}(el:El Tryz.prog t e sz bytes){B0 B:Nat}(D:B0<=B){tys:List Nat}{w:World}{g n c:Nat}{rows:List (List Value)}(ho:aE w B e (some ⟨g,0,none⟩) n c sz rows)
  {a:Addr} {m c2:Nat} {more:List (List Value)} (x:bR w (some a) sz more) (hm:more.length=m) (y:∀r∈more,r.length=sz) (h1:∀r∈more,∀u∈r,bl u=true) (C:n+m<=c) (E:e∉tys) (hB:B<=w.heap.size) {K:Option Addr->Nat->Nat->World->Prop}
  (h:∀l,aE l B e (some ⟨g,0,none⟩) (n+m) c sz (rows++more)->w.grownBy l (some g)->Below B0 w l->K (some ⟨g,0,none⟩) (n+m) c l):
  ae Tryz.prog (Builtin.append_ #[t,t] ty #[.slice (some ⟨g,0,none⟩) n c,.slice (some a) m c2]) B0 tys w fun r l=>∃A n c,r= .slice A n c/\K A n c l:=by
 obtain⟨i,z,F,N,G,O,Q⟩:=el.info;have hlen:more.flatten.length=m*sz:=by rw[jH _ y,hm]
 obtain⟨w',o,q,hg⟩:=run_append_fits (P:=Tryz.prog) w B t ty e i sz el.Ht F G g n c rows.flatten ho.1 a m c2 more.flatten hlen (fun j u hu=>by
  rcases x with x|⟨b,off,cs,ty,fr,H,I,J⟩
  ·subst x;simp at hu
  ·cases H;rw[bT];simp only[World.cell?,I];have:=uP more off y (fun i hi j hj=>(J i hi j hj).2) j u hu;simpa using this) (fun u hu=>by
  obtain⟨r,o,L⟩:=Mz.1 hu;exact lk (h1 r o u L)) C
 have d:Below B0 w w':=bM hg (fun k M=>by cases M;exact dp D (World.ownsRow.lt ho.1 g rfl).1) (dp D hB);refine⟨_,w',o,d,d.size,rV (v:= .slice (some ⟨g,0,none⟩) n c) hg ho.1 E,_,_,_,rfl,h w' ⟨by rw[po];exact q,by simp[ho.len,hm],fun r o=> ?_⟩ hg d⟩;rcases fi.1 o with h|h
 ·exact ho.2.2 r h
 ·exact y r h
theorem KD(A:Option Addr)(n c i j:Nat)(h:i<=j)(a:j<=n)(mv:n<=c)(w:World):∃v,(Instr.sliceAt 40 (.slice A n c) (some (.int .i64 (i:Int))) (some (.int .i64 (j:Int))) (some (.int .i64 (n:Int)))).run Tryz.prog w= .ok v w/\∃A' n' c',v= .slice A' n' c':=by
 obtain⟨q,z,b,k,l,m,o⟩:=gW.info;have d:∀{code:BoundsCode},(Instr.sliceBound (.int .i64 (n:Int)) c code).run Tryz.prog w= .ok n w:=fun {code}=>by
  have:=Go.run_sliceBound (P:=Tryz.prog) w .i64 (n:Int) c code om om;simpa using this
 have e:∀{code:BoundsCode},(Instr.sliceBound (.int .i64 (j:Int)) n code).run Tryz.prog w= .ok j w:=fun {code}=>by
  have:=Go.run_sliceBound (P:=Tryz.prog) w .i64 (j:Int) n code om om;simpa using this
 have g:∀{code:BoundsCode},(Instr.sliceBound (.int .i64 (i:Int)) j code).run Tryz.prog w= .ok i w:=fun {code}=>by
  have:=Go.run_sliceBound (P:=Tryz.prog) w .i64 (i:Int) j code om om;simpa using this
 refine⟨.slice (if n=i then A else A.map (·.add (i*q.size))) (j - i) (n - i),?_,_,_,_,rfl⟩;simp[Instr.sliceAt,Instr.slice,Instr.sliceBounds,run_underlying gW.Ht,d,e,g,sizeOf,typeInfo,b]
theorem Ur{w:World}{B:Nat}(hB:B<=w.heap.size){A:Option Addr}{n c:Nat}{l:List Sw}(ho:aE w B 54 A n c 3 (l.map Sw.row))(hn:n<2147483648){i:Nat}(hi:i<n):
  cI Tryz.prog 48 #[.slice A n c,.int .i64 (i:Int),.int .i64 ((i+1:Nat):Int)] B w fun v w'=>∃m,v= .slice A m c/\aE w' B 54 A m c 3 ((l.take i++l.drop (i+1)).map Sw.row)/\qk A w w':=by
 have hlen:l.length=n:=by have:=ho.len;simpa using this
 have mv:=ho.jY;have z:∃g,A=some ⟨g,0,none⟩:=by
  rcases ho.1.2 with⟨K,q⟩|⟨g,cap,cur,q,_⟩
  ·omega
  ·cases q;exact⟨g,rfl⟩
 obtain⟨g,rfl⟩:=z;obtain⟨v,C,A',n',c',rfl⟩:=KD (some ⟨g,0,none⟩) n c i (i+1) om om mv w;refine F.eZ.u7 hB ⟨_,w,C,Below.refl _ _,eU _,fun _ _ _ _ _=>rfl,_,_,_,rfl,fun h=>by omega,fun _=>⟨om,om,fun r b=> ?_⟩⟩;rw[ca,ca];have x:=ho.kL b;have os:=x.short (m:=i) om;rw[<-Aa]at os;have d:∃a,cD (some (⟨g,0,none⟩:Addr)) (i+1) c 3=some a:=by
  unfold cD;split
  ·exact⟨_,rfl⟩
  ·exact⟨_,rfl⟩
 obtain⟨a,ha⟩:=d;have j:=x.sl.Qt (k:=i+1) (c:=c) (by simp;omega);rw[ha]at j⊢;rw[<-Tw]at j;refine yB gW lf os j (by simp;omega) B8 DV om sm (dp hB b.below.size) fun D y g3 L=>⟨om,?_⟩
 have em:i+(n - (i+1))=n - 1:=om;rw[<-eH]at y;rw[ca,ca];refine ue gW FX (by simp[Value.cells,bl]) y om mv fun M E G H=>⟨_,rfl,E,?_⟩
 have t2:qk (some ⟨g,0,none⟩) w r:=⟨b.below.size,fun k o _=>by
  rcases b.other k o with h|⟨t,I,_⟩
  ·exact h
  ·simp at I⟩
 have t3:qk (some ⟨g,0,none⟩) r D:=⟨g3.size,fun k o J=>g3.block k o fun e=>by cases e;exact J _ rfl rfl⟩;exact(t2.trans t3).trans ⟨G.size,H⟩

theorem DY{xs L x:List Value}{p q N:Nat}(e:xs.length=N)(hx:x.length=q)(hp:p<=N)(h1:∀k,k<p->L[k]? =xs[k]?)(c:∀k,k<q->L[p+k]? =x[k]?)(d:∀k,p<=k->k<N->L[k+q]? =xs[k]?):L.take (N+q)=xs.take p++x++xs.drop p:=by
 apply AG;intro k;rw[kh,lN];have hl:(xs.take p).length=p:=by simp;omega
 by_cases b:k<p
 ·rw[bb om,gv om,kh,bb b,h1 k b]
 ·rw[hU om,hl];by_cases g:k<p+q
  ·rw[bb om,gv om];have:=c (k - p) om;rwa [show p+(k - p)=k by omega]at this
  ·rw[hU om,hx,k7];by_cases a:k<N+q
   ·rw[bb a];have:=d (k - q) om om;rw[show k - q+q=k by omega]at this;rw[this]
    congr 1
    omega
   ·rw[aq a,hP om]
theorem Us{w:World}{B:Nat}(hB:B<=w.heap.size){A:Option Addr}{n c:Nat}{l:List Sw}(Hi:aE w B 54 A n c 3 (l.map Sw.row))(hn:n<=1000){i:Nat}(hi:i<=n)
  {o J:Nat} {s:Sw} (U:aE w B 54 (some ⟨o,0,none⟩) 1 J 3 [s.row]) (hne:∀a,A=some a->a.block≠o):
  cI Tryz.prog 47 #[.slice A n c,.int .i64 (i:Int),.slice (some ⟨o,0,none⟩) 1 J] B w fun v w'=>∃A' c',v= .slice A' (n+1) c'/\aE w' B 54 A' (n+1) c' 3 ((l.take i++s::l.drop i).map Sw.row)/\qk A w w':=by
 have hlen:l.length=n:=by have:=Hi.len;simpa using this
 have mv:=Hi.jY;have V:∀r∈l.map Sw.row,r.length=3:=B8
 have QK:(l.map Sw.row).length=n:=by simp[hlen]
 obtain⟨xs,K⟩:∃xs,xs=(l.map Sw.row).flatten:=⟨_,rfl⟩
 have ho:=Hi.1;rw[<-K]at ho;obtain⟨x,hx⟩:∃x:List Value,x=s.row:=⟨_,rfl⟩
 have M:x.length=3:=by rw[hx];rfl
 have QL:∀v∈x,bl v=true:=by
  rw[hx];intro v y;simp only[Sw.row,cc,fs,u1]at y;rcases y with rfl|rfl|rfl<;>rfl
 have h1:∀v∈xs,bl v=true:=by
  intro v y;rw[K]at y;obtain⟨r,hr,P2⟩:=Mz.1 y;exact DV r hr v P2
 have S:xs.length=n*3:=ho.1
 -- Wm result, out of Wm cells
 have fin:∀(A':Option Addr)(c':Nat)(w':World),w'.ownsRow B 54 3 (.slice A' (n+1) c') (n+1) (xs.take (i*3)++x++xs.drop (i*3))->aE w' B 54 A' (n+1) c' 3 ((l.take i++s::l.drop i).map Sw.row):=fun A' c' w' h=>by
  have e:((l.take i++s::l.drop i).map Sw.row).flatten=xs.take (i*3)++x++xs.drop (i*3):=by
   rw[eH,zQ,po,tD,Aa,Tw,FY V om,FZ V om,<-K,<-hx,lN]
  exact⟨by rw[e];exact h,by simp;omega,B8⟩
 obtain⟨cv,hBv,y,hvt,XI⟩:∃cv:Array Value,B<=o/\w.heap[o]? =some (.cells cv 54 (0,0))/\cv.toList.take 3=x/\cv.size=J*3:=by
  rcases U.1.2 with⟨e1,_⟩|⟨g,cap,cur,e1,e2,e3,e4,e5,e6,e7⟩
  ·cases e1
  ·cases e1;exact⟨cur,e2,e3,by rw[hx];simpa using e7,e6⟩
 have hcc:1<=J:=U.jY;have QM:∀{w':World},w'.heap[o]? =some (.cells cv 54 (0,0))->∀j v,x[j]? =some v->w'.cell? ((⟨o,0,none⟩:Addr).add j)=some v:=by
  intro w' hv' j v hj;rw[bT];simp only[World.cell?,hv',jx];rw[<-hvt,kh]at hj;split at hj
  ·simpa using hj
  ·cases hj
 refine F.eY.u7 (w:=w) hB ⟨om,fun h=>by omega,fun _=>⟨fun h=> ?_,fun h=>⟨ir,fun h2=> ?_,fun h2=> ?_⟩⟩⟩
 ·-- at Wm end
  have tp:i=n:=om;subst tp;refine rX (P:=Tryz.prog) (ty:=40) gW (eU B) (tys:=[]) ho (a:=⟨o,0,none⟩) (m:=1) (c:=J) (news:=x) (by rw[M]) (QM y) QL hB om sm fun A' c' w2 k1 k2 k3=>⟨A',c',rfl,fin _ _ _ ?_,k2.size,fun k d SY=>k2.block k d fun e=> ?_⟩
  ·rw[de om,cd om,uf];exact k1
  ·cases A with
   |none=>simp[Value.ownBlock]at e
   |some a=>simp[Value.ownBlock]at e;exact SY a rfl e
 ·-- no room: a new row
  have hA:∃g,A=some ⟨g,0,none⟩/\∃cur:Array Value,B<=g/\w.heap[g]? =some (.cells cur 54 (0,0))/\cur.toList.take (n*3)=xs:=by
   rcases ho.2 with⟨h0,W⟩|⟨g,cap,cur,W,h4,h5,h6,T,h8,h9⟩
   ·omega
   ·cases W;exact⟨g,rfl,cur,h4,h5,h9⟩
  obtain⟨g,rfl,cur,E,hg,zV⟩:=hA;have tp:i<n:=om;obtain⟨i0,z,e2,e3,e4,e5,e6⟩:=gW.info;have C:∀{w':World},w'.heap[g]? =some (.cells cur 54 (0,0))->∀j v,xs[j]? =some v->w'.cell? ((⟨g,0,none⟩:Addr).add j)=some v:=fun {w'} EU j v hj=>by
   rw[bT];simp only[World.cell?,EU,jx];rw[<-zV,kh]at hj;split at hj
   ·simpa using hj
   ·cases hj
  have hold:(Builtin.firstCells i0.size i (.slice (some ⟨g,0,none⟩) i c)).run Tryz.prog w.drew= .ok (xs.take (i*3)).toArray w.drew:=by
   rw[e4];exact run_firstCells_some w.drew 3 i ⟨g,0,none⟩ i c (xs.take (i*3)) (by rw[ew];omega) (fun j v hj=>by
    rw[kh]at hj;split at hj
    ·exact C (w':=w.drew) hg j v hj
    ·cases hj)
  have X:i+(n+1 - i)=n+1:=om;have ahe:(n+1)*24<=140737488355328:=om;have D:=Lib.run_append_grow_zeros w 40 3 40 54 i0 z .i64 .i64 gW.Ht Tryz.underlying3 e2 e3 (some ⟨g,0,none⟩) i c (xs.take (i*3)) hold (n+1 - i) om om om om (by rw[e5];omega) (by rw[e5,X];exact growslice_fits om ahe);rw[X]at D;obtain⟨G,hG⟩:∃G,G=grownCap w (n+1) c 54:=⟨_,rfl⟩
  have hGn:n+1<=G:=by rw[hG];exact grownCap_ge w _ _ _
  have hGm:G<=maxLen:=by rw[hG];exact grownCap_le_maxLen w (n+1) c _ (by unfold maxLen;omega)
  rw[<-hG]at D;obtain⟨q,N⟩:∃q:List Value,q=((xs.take (i*3)).toArray++Builtin.zeroCells z.cells (n+1 - i)++Builtin.zeroCells z.cells (G - (n+1))).toList:=⟨_,rfl⟩
  have ahg:((xs.take (i*3)).toArray++Builtin.zeroCells z.cells (n+1 - i)++Builtin.zeroCells z.cells (G - (n+1)))=q.toArray:=by rw[N]
  have ahh:q.length=G*3:=by
   rw[N];simp only[ob,Array.size_append,Bt,ew,size_zeroCells,e6];omega
  have ahi:∀k,k<i*3->q[k]? =xs[k]? :=fun k d=>by
   rw[N];simp only[Array.toList_append,lN];rw[gv (by simp;omega),kh,bb d]
  rw[ahg]at D;have ekk:((n:Int)+((1:Nat):Int)) - (i:Int)=((n+1 - i:Nat):Int):=om;have eN:((i:Int)).toNat=i:=ca i;have b:w.grownBy (w.drew.alloc (.cells q.toArray 54)) none:=⟨rfl,rfl,rfl,sm,fun k d _=>RowKit.Below.heap_alloc w.drew _ k d⟩;have Y:=bM (B:=B) b sm hB;have fB:(w.drew.alloc (.cells q.toArray 54)).heap[w.heap.size]? =some (.cells q.toArray 54 (0,0)):=heap_alloc_new w.drew _;obtain⟨W1,hW1⟩:∃W1,W1=w.drew.alloc (.cells q.toArray 54):=⟨_,rfl⟩
  rw[<-hW1]at D b Y fB;have gl:=(ax.1 hg).1;have vl:=(ax.1 y).1;have O:((i:Int)+((1:Nat):Int)).toNat=i+1:=om;rw[eN,ekk];refine⟨om,ir,ir,_,W1,D,Y,b.size,fun k ty cs h=>(by cases h),_,_,_,rfl,om,?_⟩;rw[Nl om];refine nL gW (cs:=x) (cur:=q) (by rw[M];simp only[We];split<;>omega) (QM (by rw[b.block o vl sm];exact y)) fB om QL hB sm fun w2 c1 c2 c3 c4=>⟨ir,om,om,fun w3 x3=> ?_⟩
  rw[O,Nl om,Nl om];have d1:=ext_nil x3 c1;have SO:w3.heap[g]? =some (.cells cur 54 (0,0)):=ext_nil x3 (by rw[c2 g om,b.block g gl sm];exact hg);have H:(xs.drop (i*3)).length=(n - i)*3:=by rw[rT,S];omega
  refine nL gW (cs:=xs.drop (i*3)) (cur:=setCells q (i*3) x) (by rw[H];simp only[We];split<;>omega) (fun j v hj=> ?_) d1 (by rw[fT,H];omega) (fun v Q=>h1 v (pV Q)) hB sm fun w4 f1 f2 f3 f4=> ?_
  ·rw[k7]at hj;have:=C SO (i*3+j) v hj;rw[bT]at this⊢;simpa using this
  refine⟨_,_,rfl,fin _ _ _ ⟨by simp[S,M];omega,.inr ⟨w.heap.size,G,_,rfl,hB,f1,hGn,hGm,by simp[fT,ahh],?_⟩⟩,?_,fun k d SY=> ?_⟩
  ·have Z:i*3+x.length<=q.length:=om;have R:(i+1)*3+(xs.drop (i*3)).length<=(setCells q (i*3) x).length:=by rw[fT,H];omega
   have:=DY (L:=setCells (setCells q (i*3) x) ((i+1)*3) (xs.drop (i*3))) (x:=x) (p:=i*3) S M om (fun k d=>by
     rw[dX _ _ _ _ R,aq om,dX _ _ _ _ Z,aq om];exact ahi k d)
    (fun k d=>by
     rw[dX _ _ _ _ R,aq om,dX _ _ _ _ Z,bb om];rw[show i*3+k - i*3=k by omega])
    (fun k d JO=>by
     rw[dX _ _ _ _ R,bb (by rw[H];omega),k7];rw[show i*3+(k+3 - (i+1)*3)=k by omega])
   rw[show(n+1)*3=n*3+3 by omega];simpa using this
  ·have:=x3.below.size;have:=b.size;omega
  ·rw[f2 k om];rcases x3.other k (by rw[c3];have:=b.size;omega)with T|⟨t,ht,_⟩
   ·rw[T,c2 k om,b.block k d sm]
   ·simp at ht
 ·-- there is room
  have tp:i<n:=om;have hA:∃g,A=some ⟨g,0,none⟩/\∃cur:Array Value,B<=g/\w.heap[g]? =some (.cells cur 54 (0,0))/\cur.toList.take (n*3)=xs/\cur.size=c*3/\c<=maxLen:=by
   rcases ho.2 with⟨h0,W⟩|⟨g,cap,cur,W,h4,h5,h6,T,h8,h9⟩
   ·omega
   ·cases W;exact⟨g,rfl,cur,h4,h5,h9,h8,T⟩
  obtain⟨g,rfl,cur,E,hg,zV,qh,hcm⟩:=hA;have hgv:g≠o:=hne _ rfl;have eN:((i:Int)).toNat=i:=ca i;have O:((i:Int)+((1:Nat):Int)).toNat=i+1:=om;have enN:((n:Int)+((1:Nat):Int)).toNat=n+1:=om;obtain⟨L,hL⟩:∃L:List Value,L=cur.toList:=⟨_,rfl⟩
  have hLa:cur=L.toArray:=by rw[hL]
  rw[<-hL]at zV;have hLl:L.length=c*3:=by rw[hL];simpa using qh
  rw[hLa]at hg;have C:∀j v,xs[j]? =some v->L[j]? =some v:=fun j v hj=>by
   rw[<-zV,kh]at hj;split at hj
   ·exact hj
   ·cases hj
  have hov:=Lib.run_overlaps_apart w 40 4 54 gW.Ht 3 Tryz.sizeOf54 ⟨o,0,none⟩ ⟨g,(i+1)*3,none⟩ 1 J (n+1 - (i+1)) (c - (i+1)) (fun e=>hgv e.symm) 54 54 (J*3) (c*3) (by simp[World.shape?,y,XI]) (by simp[World.shape?,hg,hLl]) om (Lib.frozen_of_heap y _) (Lib.frozen_of_heap y _);have hco:(callFunc 104 #[.slice (some ⟨o,0,none⟩) 1 J,.slice (some ⟨g,(i+1)*3,none⟩) (n+1 - (i+1)) (c - (i+1))]).run Tryz.prog w= .ok (.value (.bool false)) w:=by
   rw[run_callFunc_extern Tryz.func104 kF kF kF (e:=Extern.SlicesOverlaps.overlaps #[40,40] #[4]) kF,hov];rfl
  rw[O,enN,eN];have AD:n+1<=c:=om;rw[Nl om,Nl om];have I:(xs.drop (i*3)).length=(n - i)*3:=by rw[rT,S];omega
  refine⟨ir,om,ir,om,_,w,hco,Below.refl _ _,eU _,fun k ty cs h=>(by cases h),_,rfl,fun _=>⟨ir,om,om,fun w1 x1=> ?_⟩,fun h=>absurd rfl h⟩;have g1:w1.heap[g]? =some (.cells L.toArray 54 (0,0)):=ext_nil x1 hg;have v1:w1.heap[o]? =some (.cells cv 54 (0,0)):=ext_nil x1 y;refine nL gW (cs:=xs.drop (i*3)) (cur:=L) (by rw[I];simp only[We];split<;>omega) (fun j v hj=> ?_) g1 (by rw[I];omega) (fun v Q=>h1 v (pV Q)) E sm fun w2 c1 c2 c3 c4=>⟨om,?_⟩
  ·rw[k7]at hj;have:=C (i*3+j) v hj;rw[bT];simp only[World.cell?,g1];simpa using this
  refine nL gW (cs:=x) (cur:=setCells L ((i+1)*3) (xs.drop (i*3))) (by rw[M];simp only[We];split<;>omega) (QM (by rw[c2 o (fun e=>hgv e.symm)];exact v1)) c1 (by rw[fT];omega) QL E sm fun w3 d1 d2 d3 d4=> ?_
  refine⟨_,_,rfl,fin _ _ _ ⟨by simp[S,M];omega,.inr ⟨g,c,_,rfl,E,d1,om,hcm,by simp[fT,hLl],?_⟩⟩,?_,fun k d SY=> ?_⟩
  ·have Z:(i+1)*3+(xs.drop (i*3)).length<=L.length:=by rw[I];omega
   have R:i*3+x.length<=(setCells L ((i+1)*3) (xs.drop (i*3))).length:=by rw[fT];omega
   have:=DY (L:=setCells (setCells L ((i+1)*3) (xs.drop (i*3))) (i*3) x) (x:=x) (p:=i*3) S M om (fun k d=>by
     rw[dX _ _ _ _ R,aq om,dX _ _ _ _ Z,aq om];obtain⟨v,hv3⟩:∃v,xs[k]? =some v:=⟨xs[k]'om,af _⟩
     rw[hv3,C k v hv3])
    (fun k d=>by
     rw[dX _ _ _ _ R,bb om];rw[show i*3+k - i*3=k by omega])
    (fun k d JO=>by
     rw[dX _ _ _ _ R,aq om,dX _ _ _ _ Z,bb (by rw[I];omega),k7];rw[show i*3+(k+3 - (i+1)*3)=k by omega])
   rw[show(n+1)*3=n*3+3 by omega];simpa using this
  ·have:=x1.below.size;omega
  ·have hkg:k≠g:=SY _ rfl;rw[d2 k hkg,c2 k hkg];rcases x1.other k d with T|⟨t,ht,_⟩
   ·exact T
   ·simp at ht

def gP(ps:List Pa)(f:Pa->ByteArray)(id:Int):Rat:=match (qN ps id).bind fun i=>ps[i]? with|some p=>qR (f p)|none=>0
def gH(hs:List Ho)(f:Ho->ByteArray)(id:Int):Rat:=match (vK hs id).bind fun i=>hs[i]? with|some h=>qR (f h)|none=>0
def tP(ps:List Pa)(f:Pa->ByteArray)(s:Sw):Rat:=(s.aV:Rat)*gP ps f s.av
def tH(ps:List Pa)(hs:List Ho)(f:Ho->ByteArray)(s:Sw):Rat:=(s.aV:Rat)*gP ps Pa.iB s.av*gH hs f s.hold
abbrev ldV(a b c x y z:Rat):Value:= .agg #[.string (rS a),.string (rS b),.string (rS c),.string (rS x),.string (rS y),.string (rS z)]
def YQ(ps:List Pa)(hs:List Ho)(l:List Sw):Value:=ldV (eF (tP ps Pa.iB) l) (eF (tP ps Pa.uR) l) (eF (tP ps Pa.fY) l) (eF (tH ps hs Ho.x) l) (eF (tH ps hs Ho.y) l) (eF (tH ps hs Ho.z) l)
theorem DZ{ps:List Pa}{id:Int}{i:Nat}{p:Pa}(h:qN ps id=some i)(e:ps[i]? =some p)(f:Pa->ByteArray):gP ps f id=qR (f p):=by
 unfold gP;rw[h,Mw,e]
theorem Eb{hs:List Ho}{id:Int}{i:Nat}{p:Ho}(h:vK hs id=some i)(e:hs[i]? =some p)(f:Ho->ByteArray):gH hs f id=qR (f p):=by
 unfold gH;rw[h,Mw,e]
theorem Nu(f:Sw->Rat)(l:List Sw)(s:Sw):eF f (l++[s])=eF f l+f s:=by rw[zx,Ic]
theorem Cc{ps:List Pa}{id:Int}{i:Nat}(h:qN ps id=some i):∃hi:i<ps.length,ps[i].id=id:=by
 obtain⟨p,e,k⟩:=gL h;obtain⟨hi,rfl⟩:=eh.1 e;exact⟨hi,k⟩
theorem KE{hs:List Ho}{id:Int}{i:Nat}(h:vK hs id=some i):∃hi:i<hs.length,hs[i].id=id:=by
 obtain⟨p,e,k⟩:=pn h;obtain⟨hi,rfl⟩:=eh.1 e;exact⟨hi,k⟩
structure tt (ps:List Pa) (hs:List Ho) (l:List Sw):Prop where
 c:BS ps hs
 known:∀s∈l,∃i k,qN ps s.av=some i/\vK hs s.hold=some k
 u:∀s∈l,1<=s.aV/\s.aV<=9
 n:l.length<=40
theorem tt.filter{ps:List Pa}{hs:List Ho}{l:List Sw}(h:tt ps hs l)(q:Sw->Bool):tt ps hs (l.filter q):=
 ⟨h.c,fun s a=>h.known s (B5.1 a).1,fun s a=>h.u s (B5.1 a).1,dp (List.length_filter_le _ _) h.n⟩
theorem yC{l:List Sw}(h:∀s∈l,1<=s.aV){s:Sw}(hs:s∈l):s.aV<=cQ l s.av:=by
 obtain⟨a,b,rfl⟩:=List.append_of_mem hs;rw[show a++s::b=a++([s]++b)from rfl,fZ,fZ,mG,bb rfl];have h1:=jd (l:=a) (fun x hx=>h x (by simp[hx])) s.av;have d:=jd (l:=b) (fun x hx=>h x (by simp[hx])) s.av;omega
theorem eM.ld{ps:List Pa}{hs:List Ho}{l:List Sw}(h:eM ps hs l)(hn:l.length<=40):tt ps hs l:=by
 refine⟨h.c,h.known,fun s a=>⟨h.pos s a,?_⟩,hn⟩;obtain⟨i,k,hi,_⟩:=h.known s a;obtain⟨p,e,hid⟩:=gL hi;have hm:=ga e;have h1:=h.full p hm;have b:=yC h.pos a;have d:=(h.c.p1 p hm).2.1.2;rw[hid]at h1;omega
theorem acL{z:Int}(h1:1<=z)(a:z<=9):Sm 1 (z:Rat):=Sm.ofInt om om
theorem wI{f:Sw->Rat}{l:List Sw}(h:∀s∈l,Sm 2001 (f s)):Sm (2002*l.length+1) (eF f l):=by
 induction l with
 |nil=>exact Sm.zero om
 |cons s r ih=>
  rw[show s::r=[s]++r from rfl,zx,Ic];refine((h s sm).add (ih fun x hx=>h x (by simp[hx]))).mono ?_;simp;omega

section
variable {w0:World} {A0 A1 A:Option Addr} {n0 c0 n1 c1 n c:Nat} {ps:List Pa} {hs:List Ho} {l:List Sw} {R:Value->World->Prop}
theorem tt.smP(h:tt ps hs l)(d:gO w0 A0 n0 A1 n1 ps hs){s:Sw}(g:s∈l):Sm 1000 (gP ps Pa.iB s.av)/\Sm 1000 (gP ps Pa.uR s.av)/\Sm 1000 (gP ps Pa.fY s.av):=by
 obtain⟨i,k,hi,_⟩:=h.known s g;obtain⟨p,e,_⟩:=gL hi;have hm:=ga e;have a:=h.c.vp p hm;have b:=d.sp p hm;unfold vP at a;simp only[cy]at a;rw[DZ hi e,DZ hi e,DZ hi e];exact⟨lx a.1.1 b.iB,lx a.1.2 b.uR,lx a.2 b.fY⟩
theorem tt.smH(h:tt ps hs l)(d:gO w0 A0 n0 A1 n1 ps hs){s:Sw}(g:s∈l):Sm 1000 (gH hs Ho.x s.hold)/\Sm 1000 (gH hs Ho.y s.hold)/\Sm 1000 (gH hs Ho.z s.hold):=by
 obtain⟨_,i,_,hi⟩:=h.known s g;obtain⟨p,e,_⟩:=pn hi;have hm:=ga e;have a:=h.c.vh p hm;have b:=d.sh p hm;unfold vH at a;simp only[cy]at a;rw[Eb hi e,Eb hi e,Eb hi e];exact⟨lx a.1.1.2 b.x,lx a.1.2 b.y,lx a.2 b.z⟩
theorem tt.Wv(h:tt ps hs l)(g:gO w0 A0 n0 A1 n1 ps hs){s:Sw}(e:s∈l):
  (Sm 2001 (tP ps Pa.iB s)/\Sm 2001 (tP ps Pa.uR s)/\Sm 2001 (tP ps Pa.fY s))/\(Sm 2001 (tH ps hs Ho.x s)/\Sm 2001 (tH ps hs Ho.y s)/\Sm 2001 (tH ps hs Ho.z s)):=by
 obtain⟨a,b,d⟩:=h.smP g e;obtain⟨x,y,z⟩:=h.smH g e;have hn:=acL (h.u s e).1 (h.u s e).2;exact⟨⟨(hn.mul a).mono om,(hn.mul b).mono om,(hn.mul d).mono om⟩,((hn.mul a).mul x).mono om,((hn.mul a).mul y).mono om,((hn.mul a).mul z).mono om⟩
theorem tt.smL(h:tt ps hs l)(b:gO w0 A0 n0 A1 n1 ps hs):
  (kA (eF (tP ps Pa.iB) l)/\kA (eF (tP ps Pa.uR) l)/\kA (eF (tP ps Pa.fY) l))/\(kA (eF (tH ps hs Ho.x) l)/\kA (eF (tH ps hs Ho.y) l)/\kA (eF (tH ps hs Ho.z) l)):=by
 have hn:=h.n;exact⟨⟨(wI fun s a=>(h.Wv b a).1.1).mono om,(wI fun s a=>(h.Wv b a).1.2.1).mono om,(wI fun s a=>(h.Wv b a).1.2.2).mono om⟩,
  (wI fun s a=>(h.Wv b a).2.1).mono om,(wI fun s a=>(h.Wv b a).2.2.1).mono om,(wI fun s a=>(h.Wv b a).2.2.2).mono om⟩
theorem tt.take(h:tt ps hs l)(i:Nat):tt ps hs (l.take i):=
 ⟨h.c,fun s a=>h.known s (iF a),fun s a=>h.u s (iF a),by have:=h.n;rw[ew];omega⟩

theorem QN (hg : bj w0) (g : gO w0 A0 n0 A1 n1 ps hs) (h : bR w0 A 3 (l.map Sw.row)) (hl : l.length = n) (fO : tt ps hs l) (t0 t1 t2 t3 t4 t5 : ByteArray) :
    ∀ (d i : Nat) (w : World), n - i = d → i ≤ n → Below w0.heap.size w0 w →
      F.bk.L3 A n c n i A0 n0 c0 A1 n1 c1 t0 t1 t2 t3 t4 t5 (rS (eF (tP ps Pa.iB) (l.take i))) (rS (eF (tP ps Pa.uR) (l.take i))) (rS (eF (tP ps Pa.fY) (l.take i))) (rS (eF (tH ps hs Ho.x) (l.take i))) (rS (eF (tH ps hs Ho.y) (l.take i))) (rS (eF (tH ps hs Ho.z) (l.take i))) w0.heap.size w fun v _ => v = YQ ps hs l := by
  intro d
  induction d with
  | zero =>
    intro i w hd hi hw
    refine F.bk.L3.step ⟨fun h => by omega, fun _ w2 _ => ?_⟩
    rw [de om]
    rfl
  | succ d ih =>
    intro i w hd hi hw
    have Y : i < l.length := om
    have anD := fO.n
    have e3 := sc i
    have et : l.take (i + 1) = l.take i ++ [l[i]] := by rw [ft, af Y]; rfl
    have I : l[i] ∈ l := bw Y
    obtain ⟨ip, j, J, K⟩ := fO.known l[i] I
    obtain ⟨G, acM⟩ := Cc J
    obtain ⟨k, anE⟩ := KE K
    obtain ⟨⟨b1, b2, b3⟩, b4, b5, b6⟩ := (fO.take i).smL g
    obtain ⟨m1, m2, m3⟩ := fO.smP g I
    obtain ⟨m4, m5, m6⟩ := fO.smH g I
    obtain ⟨⟨W, k2, k3⟩, k4, k5, k6⟩ := fO.Wv g I
    have hu := fO.u l[i] I
    have Jh := acL hu.1 hu.2
    have Z : kA ((l[i].aV : Int) : Rat) := Jh.mono om
    have L := fO.c.vp _ (bw G)
    have M := fO.c.vh _ (bw k)
    unfold vP at L
    unfold vH at M
    simp only [cy] at L M
    have p1 : ps[ip].iB = rS (gP ps Pa.iB l[i].av) := by rw [DZ J (af G)]; exact hO L.1.1
    have p2 : ps[ip].uR = rS (gP ps Pa.uR l[i].av) := by rw [DZ J (af G)]; exact hO L.1.2
    have p3 : ps[ip].fY = rS (gP ps Pa.fY l[i].av) := by rw [DZ J (af G)]; exact hO L.2
    have p4 : hs[j].x = rS (gH hs Ho.x l[i].hold) := by rw [Eb K (af k)]; exact hO M.1.1.2
    have p5 : hs[j].y = rS (gH hs Ho.y l[i].hold) := by rw [Eb K (af k)]; exact hO M.1.2
    have p6 : hs[j].z = rS (gH hs Ho.z l[i].hold) := by rw [Eb K (af k)]; exact hO M.2
    have wX : ∀ {x : Rat}, Sm 2001 x → kA x := fun h => h.mono om
    have H : ∀ {x : Rat}, Sm 1000 x → kA x := fun h => h.mono om
    have fin : ∀ (w : World) (a b : Int), Below w0.heap.size w0 w →
        F.bk.J6 A n c n i A0 n0 c0 A1 n1 c1 t0 t1 t2 t3 t4 t5 (rS (eF (tP ps Pa.iB) (l.take i))) (rS (eF (tP ps Pa.uR) (l.take i))) (rS (eF (tP ps Pa.fY) (l.take i))) (rS (eF (tH ps hs Ho.x) (l.take i))) (rS (eF (tH ps hs Ho.y) (l.take i))) (rS (eF (tH ps hs Ho.z) (l.take i)))
          l[i].hold l[i].av l[i].aV ps[ip].id a b ps[ip].name ps[ip].iB ps[ip].uR ps[ip].fY hs[j].x hs[j].y hs[j].z w0.heap.size w fun v _ => v = YQ ps hs l := by
      intro w a b hw
      rw [p1, p2, p3, p4, p5, p6]
      have next : ∀ w', Below w0.heap.size w0 w' → F.bk.L3 A n c n ((i : Int) + 1) A0 n0 c0 A1 n1 c1 t0 t1 t2 t3 t4 t5 (rS (eF (tP ps Pa.iB) (l.take i) + tP ps Pa.iB l[i])) (rS (eF (tP ps Pa.uR) (l.take i) + tP ps Pa.uR l[i])) (rS (eF (tP ps Pa.fY) (l.take i) + tP ps Pa.fY l[i])) (rS (eF (tH ps hs Ho.x) (l.take i) + tH ps hs Ho.x l[i])) (rS (eF (tH ps hs Ho.y) (l.take i) + tH ps hs Ho.y l[i])) (rS (eF (tH ps hs Ho.z) (l.take i) + tH ps hs Ho.z l[i])) w0.heap.size w' fun v _ => v = YQ ps hs l := by
        intro w' wH
        have := ih (i + 1) w' om om wH
        rw [et] at this
        simp only [Nu] at this
        rw [e3]
        exact this
      unfold tP tH at *
      refine F.bk.J6.step (pm (mf (hg.next hw) om om) ?_)
      rintro v w1 h1 rfl
      have hw := kP hw h1; clear h1
      refine ⟨_, rfl, pm (je (hg.next hw) Z (H m1)) ?_⟩
      rintro v w2 h1 rfl
      have hw := kP hw h1; clear h1
      refine ⟨_, rfl, fun w3 x3 => ?_⟩
      have hw := kE hw x3; clear x3
      refine pm (jf (hg.next hw) b1 (wX W)) ?_
      rintro v w4 h1 rfl
      have hw := kP hw h1; clear h1
      refine ⟨_, rfl, pm (je (hg.next hw) Z (H m2)) ?_⟩
      rintro v w5 h1 rfl
      have hw := kP hw h1; clear h1
      refine ⟨_, rfl, pm (jf (hg.next hw) b2 (wX k2)) ?_⟩
      rintro v w6 h1 rfl
      have hw := kP hw h1; clear h1
      refine ⟨_, rfl, pm (je (hg.next hw) Z (H m3)) ?_⟩
      rintro v w7 h1 rfl
      have hw := kP hw h1; clear h1
      refine ⟨_, rfl, pm (jf (hg.next hw) b3 (wX k3)) ?_⟩
      rintro v w8 h1 rfl
      have hw := kP hw h1; clear h1
      refine ⟨_, rfl, fun w9 x9 => ?_⟩
      have hw := kE hw x9; clear x9
      refine pm (je (hg.next hw) (wX W) (H m4)) ?_
      rintro v jS h1 rfl
      have hw := kP hw h1; clear h1
      refine ⟨_, rfl, pm (jf (hg.next hw) b4 (wX k4)) ?_⟩
      rintro v wC h1 rfl
      have hw := kP hw h1; clear h1
      refine ⟨_, rfl, pm (je (hg.next hw) (wX W) (H m5)) ?_⟩
      rintro v DK h1 rfl
      have hw := kP hw h1; clear h1
      refine ⟨_, rfl, pm (jf (hg.next hw) b5 (wX k5)) ?_⟩
      rintro v xv h1 rfl
      have hw := kP hw h1; clear h1
      refine ⟨_, rfl, pm (je (hg.next hw) (wX W) (H m6)) ?_⟩
      rintro v GO h1 rfl
      have hw := kP hw h1; clear h1
      refine ⟨_, rfl, pm (jf (hg.next hw) b6 (wX k6)) ?_⟩
      rintro v Dj h1 rfl
      have hw := kP hw h1; clear h1
      refine ⟨_, rfl, ir, fun wW F1 => ?_⟩
      exact next wW (kE hw F1)
    clear ih
    obtain ⟨hb, a, hA, r, _⟩ := (h.au hw lf).at_ (fun _ => rfl) hl Y
    obtain ⟨N, ap, B, _⟩ := g.p.at_ (fun _ => rfl) g.lp G
    obtain ⟨o, ah, m, _⟩ := g.h.at_ (fun _ => rfl) g.lh k
    have cP : ∀ w, Below w0.heap.size w0 w → aa w (ap.add ((ip : Int).toNat * 7)) (ps[ip].row) := fun w hw => by
      obtain ⟨_, a', O, Ty, _⟩ := (g.p.au hw lf).at_ (fun _ => rfl) g.lp G
      rw [B] at O
      cases O
      exact Ty
    have cH : ∀ w, Below w0.heap.size w0 w → aa w ((ah.add ((j : Int).toNat * 7)).add 4) [.string hs[j].x, .string hs[j].y, .string hs[j].z] := fun w hw => by
      obtain ⟨_, a', O, Ty, _⟩ := (g.h.au hw lf).at_ (fun _ => rfl) g.lh k
      rw [m] at O
      cases O
      exact wG Ty 4 3
    refine F.bk.L3.step ⟨fun _ => ⟨hb, a, hA, _, _, _, r, fun w6 x6 => ?_⟩, fun h => by omega⟩
    have X := kE hw x6
    have par : ∀ w, Below w0.heap.size w0 w → Pure Tryz.prog 42 #[.agg #[.slice A0 n0 c0, .slice A1 n1 c1], .int .i64 l[i].av] w fun v _ => v = .int .i64 (ip : Int) := fun w hw => by
      have := gM (c0 := c0) (c1 := c1) (g.au hw) l[i].av
      rw [J] at this
      exact this
    have C : ∀ w, Below w0.heap.size w0 w → Pure Tryz.prog 43 #[.agg #[.slice A0 n0 c0, .slice A1 n1 c1], .int .i64 l[i].hold] w fun v _ => v = .int .i64 (j : Int) := fun w hw => by
      have := iM (c0 := c0) (c1 := c1) (g.au hw) l[i].hold
      rw [K] at this
      exact this
    have acP : ∀ (w : World), Below w0.heap.size w0 w → ∃ P Q S : ByteArray, aa w ((ah.add ((j : Int).toNat * 7)).add 4) [.string P, .string Q, .string S] ∧ ∀ (ts : List Nat) q, Ext w0.heap.size ts w q → F.bk.J6 A n c n i A0 n0 c0 A1 n1 c1 t0 t1 t2 t3 t4 t5 (rS (eF (tP ps Pa.iB) (l.take i))) (rS (eF (tP ps Pa.uR) (l.take i))) (rS (eF (tP ps Pa.fY) (l.take i))) (rS (eF (tH ps hs Ho.x) (l.take i))) (rS (eF (tH ps hs Ho.y) (l.take i))) (rS (eF (tH ps hs Ho.z) (l.take i)))
          l[i].hold l[i].av l[i].aV ps[ip].id ps[ip].aV ps[ip].cls ps[ip].name ps[ip].iB ps[ip].uR ps[ip].fY P Q S w0.heap.size q fun v _ => v = YQ ps hs l :=
      fun w hw => ⟨_, _, _, cH w hw, fun ts q x => fin q _ _ (kE hw x)⟩
    have D : ∀ (ts E : List Nat) (w : World), Below w0.heap.size w0 w → ∀ T, Ext w0.heap.size ts w T → ∃ P Q S : ByteArray, aa T ((ah.add ((j : Int).toNat * 7)).add 4) [.string P, .string Q, .string S] ∧ ∀ q, Ext w0.heap.size E T q → F.bk.J6 A n c n i A0 n0 c0 A1 n1 c1 t0 t1 t2 t3 t4 t5 (rS (eF (tP ps Pa.iB) (l.take i))) (rS (eF (tP ps Pa.uR) (l.take i))) (rS (eF (tP ps Pa.fY) (l.take i))) (rS (eF (tH ps hs Ho.x) (l.take i))) (rS (eF (tH ps hs Ho.y) (l.take i))) (rS (eF (tH ps hs Ho.z) (l.take i)))
          l[i].hold l[i].av l[i].aV ps[ip].id ps[ip].aV ps[ip].cls ps[ip].name ps[ip].iB ps[ip].uR ps[ip].fY P Q S w0.heap.size q fun v _ => v = YQ ps hs l :=
      fun ts E w hw T x => by
        obtain ⟨s1, s2, s3, e, f⟩ := acP T (kE hw x)
        exact ⟨s1, s2, s3, e, fun q Ww => f E q Ww⟩
    clear fin
    refine ⟨fun w7 x7 => ?_, fun w55 x55 => ?_⟩
    · have sd := kE X x7
      refine pm (par w7 sd) ?_
      rintro v jS rk rfl
      have vg := kP sd rk
      refine ⟨_, rfl, N, ap, B, _, _, _, _, _, _, _, cP w6 X, fun AE Jp => ?_, fun Is x34 => ?_⟩
      · have ox := kE vg Jp
        refine pm (C AE ox) ?_
        rintro v tx h22 rfl
        have kt := kP ox h22
        exact ⟨_, rfl, o, ah, m, D _ _ tx kt, D _ _ tx kt⟩
      · have tz := kE vg x34
        refine pm (C Is tz) ?_
        rintro v QO h37 rfl
        have py := kP tz h37
        exact ⟨_, rfl, ⟨o, ah, m, D _ _ QO py, D _ _ QO py⟩, o, ah, m, D _ _ QO py⟩
    · have KF := kE X x55
      refine pm (par w55 KF) ?_
      rintro v Uc h58 rfl
      have QP := kP KF h58
      refine ⟨_, rfl, N, ap, B, _, _, _, _, _, _, _, cP w6 X, fun w67 x67 => ?_⟩
      have U := kE QP x67
      refine pm (C w67 U) ?_
      rintro v Tc h70 rfl
      have V := kP U h70
      exact ⟨_, rfl, o, ah, m, D _ _ Tc V, D _ _ Tc V⟩
theorem bk(hg:bj w0)(a:gO w0 A0 n0 A1 n1 ps hs)(h:bR w0 A 3 (l.map Sw.row))(hl:l.length=n)(fO:tt ps hs l):
  Pure Tryz.prog 94 #[.agg #[.slice A0 n0 c0,.slice A1 n1 c1],.slice A n c] w0 fun v _=>v=YQ ps hs l:=by
 refine F.bk.vc fun w1 b=> ?_
 have:=QN (c:=c) (c0:=c0) (c1:=c1) hg a h hl fO (⟨#[]⟩) (⟨#[]⟩) (⟨#[]⟩) (⟨#[]⟩) (⟨#[]⟩) (⟨#[]⟩) n 0 w1 rfl om (k0 b);simp only[Ji,Qw,<-s0]at this;exact this
end

theorem QQ{w:World}{A:Option Addr}{n c:Nat}{l:List Sw}(h:bR w A 3 (l.map Sw.row))(hlen:l.length=n)(hn:n<=1000000):
  Pure Tryz.prog 12 #[.slice A n c] w fun v w'=>∃A' c',v= .slice A' n c'/\aE w' w.heap.size 54 A' n c' 3 (l.map Sw.row):=by
 refine F.fb.vc ⟨fun b=> ?_,fun b=> ?_⟩
 ·subst b;have:=h.rf;simp at this;subst this;simp at hlen;subst hlen;exact⟨none,0,rfl,aE.nil⟩
 ·obtain⟨a,rfl⟩:=B4.1 b;refine bc gW [] sm sm lf fun A2 c2 i ho e=> ?_
  refine ua gW lf (by simpa using ho) (h.below e) (by simpa using hlen) (fun r d=>by obtain⟨s,_,rfl⟩:=hM.1 d;rfl) (fun r d=>by obtain⟨s,_,rfl⟩:=hM.1 d;intro u hu;simp[Sw.row]at hu;rcases hu with rfl|rfl|rfl<;>rfl) e.size (by simp;omega) sm fun A' c' j g _ k=> ?_
  simp only[wu,jx,tu]at g⊢;exact⟨A',c',rfl,g⟩
def GQ(l:List Sw)(id:Int):List Sw:=l.filter fun s=>decide (s.hold=id)
theorem pv{w:World}{A:Option Addr}{n c:Nat}{l:List Sw}(h:bR w A 3 (l.map Sw.row))(hlen:l.length=n)(hn:n<=1000000)(id:Int):
  Pure Tryz.prog 95 #[.slice A n c,.int .i64 id] w fun v w'=>∃A' m c',v= .slice A' m c'/\bR w' A' 3 ((GQ l id).map Sw.row)/\(GQ l id).length=m:=by
 refine F.pv.vc fun w1 r=> ?_
 have g:=k0 r;refine pm (QQ (h.au g lf) hlen hn) ?_;rintro v y z ⟨A',c',rfl,ho⟩;refine⟨_,_,_,rfl,fun d B i=> ?_⟩;have C:=kP g z;have j:∀a,A'=some a->d≠a.block:=fun a ha e=>by
  obtain⟨cs,o⟩:=ho.cells a ha;rw[<-e,i]at o;simp at o
 have b:d<y.heap.size:=(ax.1 i).1;refine cI.mono (Ir (p:=fun s=>decide (s.hold≠id)) C.size (ho.base g.size) om kF fun w' q x=> ?_) ?_
 ·refine F.uc.vc fun G D=>⟨_,eE (ty:=3) ?_,rfl⟩
  exact(k0 D).block d (sS b q.1)|>.trans ((q.2 d b j).trans i)
 ·rintro v H b8 ⟨m,rfl,k,_⟩;refine⟨fun _ _ _ E=>(by cases E),_,_,_,rfl,_,_,_,rfl,?_⟩;have e:(l.filter fun x=> !(decide (x.hold≠id)))=GQ l id:=by
   unfold GQ;refine List.filter_congr fun s _=> ?_
   by_cases h:s.hold=id<;>simp[h]
  rw[e]at k;exact⟨k.sl,by simpa using k.len⟩

abbrev ld0:Value:= .agg #[.string ⟨#[]⟩,.string ⟨#[]⟩,.string ⟨#[]⟩,.string ⟨#[]⟩,.string ⟨#[]⟩,.string ⟨#[]⟩]
def QS(ps:List Pa)(hs:List Ho)(l:List Sw)(id:Int):Value:=
 if hX ps hs l≠0 then .tuple #[ld0,.int .i64 1]else if vK hs id=none then .tuple #[ld0,.int .i64 7]else .tuple #[YQ ps hs (GQ l id),.int .i64 0]
def zC(ps:List Pa)(_:List Ho)(l:List Sw)(h:Ho):Bool:=
 decide (qR h.nZ<eF (tP ps Pa.iB) (GQ l h.id))||decide (qR h.room<eF (tP ps Pa.uR) (GQ l h.id))
def QU(ps:List Pa)(hs:List Ho)(l:List Sw):Value:=
 if hX ps hs l≠0 then .tuple #[.int .i64 0,.int .i64 1]else .tuple #[.int .i64 (uU (hs.findIdx? (zC ps hs l))),.int .i64 0]
theorem oM{o:Option Nat}:uU o<0↔o=none:=by cases o<;>simp[uU]

section
variable {w:World} {A0 A1 A:Option Addr} {n0 c0 n1 c1 n c:Nat} {ps:List Pa} {hs:List Ho} {l:List Sw}
theorem pw(hg:bj w)(b:gO w A0 n0 A1 n1 ps hs)(h:bR w A 3 (l.map Sw.row))(hl:l.length=n)(mv:n<=c)(hn:n<=40)(id:Int):
  Pure Tryz.prog 142 #[.agg #[.slice A0 n0 c0,.slice A1 n1 c1],.slice A n c,.int .i64 id] w fun v _=>v=QS ps hs l id:=by
 refine F.pw.vc fun w1 d=> ?_
 have hw:=k0 d;refine pm (bS (hg.next hw) (b.au hw) (h.au hw lf) hl mv om) ?_;rintro v o e rfl;have hw:=kP hw e;unfold QS;refine⟨_,rfl,fun a q _=>by rw[bb a],fun a=> ?_⟩;rw[aq a];have fO:=(fw (dT.1 a)).ld om;refine pm (iM (b.au hw) id) ?_;rintro v r b8 rfl;have hw:=kP hw b8;refine⟨_,rfl,fun h1 x _=>by rw[bb (oM.1 h1)],fun h1 y g=> ?_⟩;rw[aq (fun k=>h1 (oM.2 k))];have hw:=kE hw g;refine pm (pv (h.au hw lf) hl om id) ?_;rintro v z i ⟨A',m,c',rfl,hi,j⟩;have hw:=kP hw i;refine⟨_,_,_,rfl,pm (bk (hg.next hw) (b.au hw) hi j (fO.filter _)) ?_⟩;rintro v B C rfl;exact⟨_,_,_,_,_,_,rfl,fun D _=>rfl⟩
theorem Uu(hg:bj w)(d:gO w A0 n0 A1 n1 ps hs)(h:bR w A 3 (l.map Sw.row))(hl:l.length=n)(fO:tt ps hs l){G q1:Addr}(K:∀w',Below w.heap.size w w'->aa w' G [.slice A0 n0 c0,.slice A1 n1 c1])(B:∀w',Below w.heap.size w w'->aa w' q1 [.slice A n c]){x:Ho}(hx:x∈hs):
  Pure Tryz.prog 93 #[x.val,.pointer (some G),.pointer (some q1)] w fun v _=>v= .bool (zC ps hs l x):=by
 have hn:=fO.n;have b:=fO.c.vh x hx;unfold vH at b;simp only[cy]at b;have H:=d.sh x hx;have L:kA (qR x.nZ):=H.nZ.wX b.1.1.1.2;have br:kA (qR x.room):=H.room.wX b.1.1.1.1;have em:x.nZ=rS (qR x.nZ):=hO b.1.1.1.2;have M:x.room=rS (qR x.room):=hO b.1.1.1.1;obtain⟨⟨N,O,T⟩,U,V,W⟩:=(fO.filter fun s=>decide (s.hold=x.id)).smL d;have cmp:∀w',Below w.heap.size w w'->Pure Tryz.prog 96 #[.string (rS (eF (tP ps Pa.iB) (GQ l x.id))),.string x.nZ] w' fun r C=>∃i:Int,r= .int .i64 i/\((i>0->(fun(v:Value) (_:World)=>v= .bool (zC ps hs l x)) (.bool true) C)/\(¬i>0->
   Pure Tryz.prog 96 #[.string (rS (eF (tP ps Pa.uR) (GQ l x.id))),.string x.room] C fun r I=>∃i:Int,r= .int .i64 i/\(fun(v:Value) (_:World)=>v= .bool (zC ps hs l x)) (.bool (decide (i>0))) I)):=by
  intro w' hw;have c1:=gU (hg.next hw) N L;rw[<-em]at c1;refine pm c1 ?_;rintro v C P rfl;have hw:=kP hw P;refine⟨_,rfl,fun k=> ?_,fun k=> ?_⟩
  ·have:=gx.1 k;show Value.bool true=_;unfold zC;rw[show(decide (qR x.nZ<eF (tP ps Pa.iB) (GQ l x.id)))=true from gu this];rfl
  ·have c2:=gU (hg.next hw) O br;rw[<-M]at c2;refine pm c2 ?_;rintro v I X rfl;refine⟨_,rfl,?_⟩;show Value.bool _=_;unfold zC;rw[show(decide (qR x.nZ<eF (tP ps Pa.iB) (GQ l x.id)))=false from en fun h=>k (gx.2 h),IT];refine bx Value.bool ?_;rw[nb];exact gx
 refine F.jZ.vc fun w1 Q=> ?_
 have y:=k0 Q;refine⟨_,_,_,_,_,_,K w1 y,_,_,_,B w1 y,fun Y R=> ?_,fun Z D=> ?_⟩
 ·have e:=kE y R;refine pm (pv (h.au e lf) hl om x.id) ?_;rintro v S b8 ⟨A',m,c',rfl,hi,z⟩;have a:=kP e b8;refine⟨_,_,_,rfl,pm (bk (hg.next a) (d.au a) hi z (fO.filter _)) ?_,fun Ce g=> ?_⟩
  ·rintro v J j rfl;exact⟨_,_,_,_,_,_,rfl,fun o q=>cmp o (kE (kP a j) q)⟩
  ·have E:=kE a g;refine pm (bk (hg.next E) (d.au E) (hi.kL g) z (fO.filter _)) ?_;rintro v J j rfl;exact⟨_,_,_,_,_,_,rfl,fun o q=>cmp o (kE (kP E j) q)⟩
 ·have e:=kE y D;refine pm (pv (h.au e lf) hl om x.id) ?_;rintro v S b8 ⟨A',m,c',rfl,hi,z⟩;have a:=kP e b8;refine⟨_,_,_,rfl,pm (bk (hg.next a) (d.au a) hi z (fO.filter _)) ?_⟩;rintro v J j rfl;exact⟨_,_,_,_,_,_,rfl,fun o q=>cmp o (kE (kP a j) q)⟩
theorem im(hg:bj w)(a:gO w A0 n0 A1 n1 ps hs)(h:bR w A 3 (l.map Sw.row))(hl:l.length=n)(mv:n<=c)(hn:n<=40):
  Pure Tryz.prog 40 #[.agg #[.slice A0 n0 c0,.slice A1 n1 c1],.slice A n c] w fun v _=>v=QU ps hs l:=by
 have e:=a.nh;refine F.im.vc fun w1 g=> ?_
 have hw:=k0 g;refine pm (bS (hg.next hw) (a.au hw) (h.au hw lf) hl mv om) ?_;rintro v r i rfl;have hw:=kP hw i;unfold QU;refine⟨_,rfl,fun b=>by rw[bb b],fun b y j k p6 m o=> ?_⟩;rw[aq b];have fO:=(fw (dT.1 b)).ld om;refine pm (AB (p:=zC ps hs l) ((a.au hw).h) a.lh om kF fun w' hb x hx=> ?_) ?_
 ·exact Uu (hg.next (kP hw hb)) (a.au (kP hw hb)) (h.au (kP hw hb) lf) hl fO (fun q d=>eE (ag (ag o hb) d)) (fun q d=>eE (ag (ag k hb) d)) hx
 ·rintro v z B rfl;exact⟨_,rfl,rfl⟩
end

theorem Cg(t a:Sw)(r:List Sw):vN t (a::r)=if fC a t then vN t r+1 else 0:=by
 unfold vN;rw[List.takeWhile_cons];by_cases h:fC a t
 ·simp[h]
 ·simp[h]
theorem It(t a:Sw)(r:List Sw):iu t (a::r)=if fC a t then iu t r else decide (a.hold=t.hold/\a.av=t.av):=by
 unfold iu;rw[Cg];by_cases h:fC a t
 ·rw[bb h,bb h];rfl
 ·rw[aq h,aq h];rfl
theorem Mh{a t:Sw}(h:¬fC a t):(a.hold=t.hold/\a.av=t.av)∨fC t a:=by unfold fC at*;omega
theorem Ec{t:Sw}:∀{l:List Sw},sA l->l.filter (fun x=>decide (fC x t))=l.take (vN t l):=by
 intro l;induction l with
 |nil=>intro _;rfl
 |cons a r ih=>
  intro h;obtain⟨p,q⟩:=wo.1 h;rw[Cg];by_cases e:fC a t
  ·rw[bb e,OK (by simpa using e),ih q];rfl
  ·rw[aq e,OL (by simpa using e)];rw[Ji,Pl];intro x hx k;exact e (uS (p x hx) (by simpa using k))
theorem Ed{t:Sw}:∀{l:List Sw},sA l->l.filter (fun x=>decide (fC t x))=l.drop (vN t l+if iu t l=true then 1 else 0):=by
 intro l;induction l with
 |nil=>intro _;simp
 |cons a r ih=>
  intro h;obtain⟨p,q⟩:=wo.1 h;rw[Cg,It];by_cases e:fC a t
  ·rw[bb e,bb e,OL (by simpa using DN e),ih q,show vN t r+1+(if iu t r=true then 1 else 0)=(vN t r+if iu t r=true then 1 else 0)+1 by omega];rfl
  ·rw[aq e,aq e];have all:∀x∈r,fC t x:=fun x hx=>by
    rcases Mh e with k|k
    ·have:=p x hx;unfold fC at*;omega
    ·exact uS k (p x hx)
   have b:r.filter (fun x=>decide (fC t x))=r:=MV.2 fun x hx=>by simpa using all x hx
   by_cases k:a.hold=t.hold/\a.av=t.av
   ·rw[gu k,bb rfl,OL (by simp;unfold fC;omega),b];rfl
   ·rw[en k,aq sm,OK (by simpa using(Mh e).resolve_left k),b];rfl
theorem Ci{t:Sw}{l:List Sw}(h:iu t l=true):∃hi:vN t l<l.length,l[vN t l].hold=t.hold/\l[vN t l].av=t.av:=by
 unfold iu at h;by_cases hi:vN t l<l.length
 ·rw[af hi]at h;exact⟨hi,by simpa using h⟩
 ·rw[hP om]at h;cases h
theorem yD{t:Sw}{l:List Sw}(hs:sA l)(h:iu t l=true)(hi:vN t l<l.length):il l t.hold t.av=l[vN t l].aV:=by
 obtain⟨_,a,b⟩:=Ci h;rw[<-FM hs (bw hi),a,b]
theorem ui{t:Sw}{l:List Sw}(hs:sA l)(h:iu t l=false):il l t.hold t.av=0:=by
 refine BV fun s a k=> ?_
 have d:=Ec (t:=t) hs;have b:=Ed (t:=t) hs;rw[h,aq sm,va]at b;rw[<-hN (vN t l) l,<-d,<-b]at a;rcases fi.1 a with m|m
 ·have:=(B5.1 m).2;simp at this;unfold fC at this;omega
 ·have:=(B5.1 m).2;simp at this;unfold fC at this;omega
theorem KG{t:Sw}{l:List Sw}(hs:sA l){n:Int}:Ky l ⟨t.hold,t.av,n⟩=l.take (vN t l)++(if 0<n then[⟨t.hold,t.av,n⟩]else[])++l.drop (vN t l+if iu t l=true then 1 else 0):=by
 unfold Ky;rw[<-Ec hs,<-Ed hs];rfl
theorem YT{l:List Sw}{i:Nat}(hi:i<l.length)(s:Sw):l.set i s=l.take i++[s]++l.drop (i+1):=by
 rw[List.set_eq_take_append_cons_drop,bb hi];simp

section
variable {w0:World} {A0 A1 A:Option Addr} {n0 c0 n1 c1 n c:Nat} {ps:List Pa} {hs:List Ho} {l:List Sw}
theorem Uv(hc:gO w0 A0 n0 A1 n1 ps hs)(h:bR w0 A 3 (l.map Sw.row))(hl:l.length=n)(hn:n<=40)(b:eM ps hs l)(t:Sw)(hu: -9<=t.aV/\t.aV<=9/\t.aV≠0){ip:Nat}(F0:qN ps t.av=some ip){R:Value->World->Prop}
  (Da:∀w,il l t.hold t.av+t.aV<0->R (.tuple #[.slice none 0 0,.int .i64 11]) w)
  (Ws:∀w p,¬il l t.hold t.av+t.aV<0->ps[ip]? =some p->p.aV<cQ l t.av+t.aV->R (.tuple #[.slice none 0 0,.int .i64 12]) w)
  (fO:∀w p A m c,¬il l t.hold t.av+t.aV<0->ps[ip]? =some p->¬p.aV<cQ l t.av+t.aV->aE w w0.heap.size 54 A m c 3 ((Ky l ⟨t.hold,t.av,il l t.hold t.av+t.aV⟩).map Sw.row)->R (.tuple #[.slice A m c,.int .i64 0]) w)
  {w:World} (hw:Below w0.heap.size w0 w):F.gj.J12 A n c ip (vN t l) (iu t l) (il l t.hold t.av) A0 n0 c0 A1 n1 c1 t.hold t.av t.aV w0.heap.size w R:=by
 obtain⟨E,J⟩:=Cc F0;have o:=bw E;have hpu:=(b.c.p1 _ o).2.1;have K:=b.full _ o;rw[J]at K;have Jh:=jd b.pos t.av;have ham:=BW b.pos t.hold t.av;have hlb:=YK t l;have hle:il l t.hold t.av<=9:=by
  rcases ri l t.hold t.av with⟨e,_⟩|⟨x,hx,e1,e2,e3⟩
  ·omega
  ·have:=yC b.pos hx;rw[e1]at this;omega
 refine F.gj.J12.step ⟨ir,fun k=>Da w k,fun k=> ?_⟩;obtain⟨L,ap,M,_,N⟩:=(hc.p.au hw lf).at_ (fun _=>rfl) hc.lp E;refine⟨L,ap,M,_,N 1 _ rfl,fun AE Jp=> ?_⟩;have hw:=kE hw Jp;refine pm (dn (h.au hw lf) hl om (b.smu t.av)) ?_;rintro v G Ee rfl;have hw:=kP hw Ee;refine⟨_,rfl,ir,fun O=>Ws G _ k (af E) O,fun O=> ?_⟩;have fin:=fun w A m c ho=>fO w _ A m c k (af E) O ho
 refine Ik gW om hw.size fun Uw akp P Jq=> ?_
 have rm:=kP hw Jq;have hB:=hw.size;have Q:=h.au rm lf;refine Dh gW (P.base hw.size) Q (by simpa using hl) (fun r b=>by obtain⟨s,_,rfl⟩:=hM.1 b;rfl) (fun r b=>by obtain⟨s,_,rfl⟩:=hM.1 b;intro u hu;simp[Sw.row]at hu;rcases hu with rfl|rfl|rfl<;>rfl) dc fun H q k28 OR=> ?_
 have S:=rm.trans OR;refine⟨ir,cC 54 FX S.size fun DJ fB Ux hlt=> ?_⟩;have Iu:=kP S Ux;refine⟨_,_,S.size,rfl,fB,by simp[Value.cells],rfl,fun y T=> ?_⟩;have U:y.heap[H.heap.size]? =some (.cells ([.int .i64 t.hold,.int .i64 t.av,.int .i64 (il l t.hold t.av+t.aV)]:List Value).toArray 54 (0,0)):=by
  have:=T.at_;simpa[setCells,Value.cells]using this
 have I:w0.heap.size<=y.heap.size:=by rw[T.size];exact Iu.size
 have anL:G.heap.size<H.heap.size:=by
  have:=(q.uJ _ rfl).2;simpa using this
 have j:aE y w0.heap.size 54 (some ⟨G.heap.size,0,none⟩) n n 3 (l.map Sw.row):=(q.below Ux).other fun x hx=>T.rest _ (by cases hx;show G.heap.size≠H.heap.size;omega)
 refine⟨fun hf=> ?_,fun hf=> ?_⟩
 ·have ha0:=ui b.Kw hf;have z:0<il l t.hold t.av+t.aV:=om;refine⟨_,_,_,eE U,?_⟩;refine bc gW [.agg #[.int .i64 t.hold,.int .i64 t.av,.int .i64 (il l t.hold t.av+t.aV)]] (by simp[Value.cells]) sm I fun A2 c2 Wx Ef V=> ?_
  have W:∃g,A2=some ⟨g,0,none⟩/\y.heap.size<=g:=by
   rcases Ef.1.2 with⟨_,X⟩|⟨g,cap,cur,X,h4,_⟩
   ·simp at X
   ·cases X;exact⟨g,rfl,h4⟩
  obtain⟨vb,rfl,hvb⟩:=W;have Y:aE Wx w0.heap.size 54 (some ⟨vb,0,none⟩) 1 c2 3 [(⟨t.hold,t.av,il l t.hold t.av+t.aV⟩:Sw).row]:=Ef.base I;refine cI.mono (Us (dp I V.size) (j.below V) om om Y fun a ha e=> ?_) ?_
  ·cases ha;have:=(j.uJ _ rfl).2;simp only at e this;omega
  ·rintro v w43 YU ⟨A',c',rfl,Z,oL⟩;refine⟨fun i ty cs B C=>oL.2 i (ax.1 C).1 fun a ha e=> ?_,_,_,_,rfl,fin _ _ _ _ ?_⟩
   ·cases ha;have:=((j.below V).cells _ rfl);obtain⟨CN,d⟩:=this;rw[<-e,C]at d;simp only[Dm,Obj.cells.injEq]at d;rw[d.2.1]at B
    revert B
    decide
   ·rw[KG b.Kw,hf,bb z];simpa using Z
 ·have hf:iu t l=true:=by simpa using hf
  obtain⟨hi,e1,e2⟩:=Ci hf;have ha:=yD b.Kw hf hi;have e3:((vN t l:Nat):Int)+1=((vN t l+1:Nat):Int):=om;refine⟨_,(show aa y ((⟨H.heap.size,0,none⟩:Addr).add 2) [.int .i64 (il l t.hold t.av+t.aV)]from wG (eE U) 2 1),fun hz=> ?_,fun hz=> ?_⟩
  ·refine⟨ir,?_⟩;rw[e3];refine cI.mono (Ur I j om om) ?_;rintro v w47 b47 ⟨m,rfl,o47,oL⟩;refine⟨fun i ty cs B C=>oL.2 i (ax.1 C).1 fun a ha e=> ?_,_,_,_,rfl,fin _ _ _ _ ?_⟩
   ·cases ha;obtain⟨CN,d⟩:=j.cells _ rfl;rw[<-e,C]at d;simp only[Dm,Obj.cells.injEq]at d;rw[d.2.1]at B
    revert B
    decide
   ·rw[KG b.Kw,hf,aq om];simpa using o47
  ·refine⟨_,_,_,eE U,?_⟩;obtain⟨g1,a2,W,cs,g2,g3,g4,g5,g6⟩:=j.Nc (i:=((vN t l:Nat):Int)) om om [.int .i64 t.hold,.int .i64 t.av,.int .i64 (il l t.hold t.av+t.aV)] ((l[vN t l]'om).row) (by rw[ca,kl,af om];rfl) rfl;refine⟨g1,a2,W,cs,_,g2,g3,g4,g5,rfl,fun w54 ahr=>fin _ _ _ _ ?_⟩;have D:=g6 w54 ahr;rw[ca]at D;rw[KG b.Kw,hf,bb om,bb rfl,<-YT hi,Cv];exact D
theorem gj{w:World}(hg:bj w)(g:gO w A0 n0 A1 n1 ps hs)(h:bR w A 3 (l.map Sw.row))(hl:l.length=n)(mv:n<=c)(hn:n<=40)(t:Sw):
  Pure Tryz.prog 15 #[.agg #[.slice A0 n0 c0,.slice A1 n1 c1],.slice A n c,t.val] w (Io (zU ps hs l t) w.heap.size):=by
 refine F.gj.vc fun w1 B=> ?_
 have hw:=k0 B;refine pm (bS (hg.next hw) (g.au hw) (h.au hw lf) hl mv om) ?_;rintro v O C rfl;have hw:=kP hw C;unfold zU;refine⟨_,rfl,fun i=>by rw[bb i];rfl,fun i=> ?_⟩;rw[aq i];have d:=fw (dT.1 i);refine pm (gM (g.au hw) t.av) ?_;rintro v P D rfl;have hw:=kP hw D;refine⟨_,rfl,fun h1=>by rw[oM.1 h1];rfl,fun h1=> ?_⟩;refine pm (iM (g.au hw) t.hold) ?_;rintro v Q E rfl;have hw:=kP hw E;cases r:qN ps t.av with
 |none=>exact absurd (oM.2 r) h1
 |some ip=>
 refine⟨_,rfl,fun j=>by rw[oM.1 j];rfl,fun j=> ?_⟩;cases G:vK hs t.hold with
 |none=>exact absurd (oM.2 G) j
 |some ih=>
 refine⟨fun o=>by simp only;rw[bb (.inl o)];rfl,fun o=>⟨fun x=>by simp only;rw[bb (.inr (.inl x))];rfl,fun x=>⟨fun H=>by simp only;rw[bb (.inr (.inr om))];rfl,fun H=> ?_⟩⟩⟩;simp only;rw[aq om];refine pm (FW (h.au hw lf) hl om d.Kw ⟨t.hold,t.av,0⟩) ?_;rintro v y I rfl;have hw:=kP hw I;have K:∀u:Int,vN ⟨t.hold,t.av,u⟩ l=vN t l:=fun u=>rfl
 have L:∀u:Int,iu ⟨t.hold,t.av,u⟩ l=iu t l:=fun u=>rfl
 rw[K,L];have J:=fun(w':World) M=>Uv (c:=c) (c0:=c0) (c1:=c1) g h hl hn d t ⟨om,om,o⟩ r (R:=Io (if il l t.hold t.av+t.aV<0 then .error 11 else match ps[ip]? with
   |some p=>if p.aV<cQ l t.av+t.aV then .error 12 else .ok (Ky l ⟨t.hold,t.av,il l t.hold t.av+t.aV⟩)
   |none=> .error 0) w.heap.size)
  (fun z k=>by rw[bb k];rfl) (fun z p k e q=>by rw[aq k,e];simp only;rw[bb q];rfl)
  (fun z p A m c k e q ho=>by rw[aq k,e];simp only;rw[aq q];exact⟨A,m,c,rfl,ho⟩) (w:=w') M
 refine⟨_,_,rfl,fun hf=> ?_,fun hf=> ?_⟩
 ·obtain⟨hi,S,T⟩:=Ci hf;obtain⟨hb,a,N,_,b⟩:=(h.au hw lf).at_ (fun _=>rfl) hl hi;refine⟨hb,a,N,_,b 2 _ rfl,?_⟩;have:=J y hw;rw[yD d.Kw hf hi]at this;rw[yD d.Kw hf hi];exact this
 ·have:=J y hw;rw[ui d.Kw hf]at this;rw[ui d.Kw hf];exact this
end
end Go.Proofs.YtbcojgcjjpggnaaGreatDoor.B

open Go.Proofs.YtbcojgcjjpggnaaGreatDoor

namespace Go.Proofs.YtbcojgcjjpggnaaGreatDoor.B
open Go Go.RowKit Go.Proofs Go.Proofs.YtbcojgcjjpggnaaGreatDoor.Vc

structure QT where
 b:Bool
 A:Option Addr
 n:Nat
 c:Nat
 A':Option Addr
 n':Nat
 c':Nat
 r:Rat
def QT.is(x:QT)(w:World):Prop:=SZ w x.b x.A x.n x.c x.A' x.n' x.c' x.r
def Qs(w:World)(L:List QT):Prop:=∀x∈L,x.is w
theorem Qs.below{w w':World}{L:List QT}(h:Qs w L)(hb:Below w.heap.size w w'):Qs w' L:=fun x hx=>SZ.below (h x hx) hb
theorem Qs.ext{w w':World}{B:Nat}{ts:List Nat}{L:List QT}(h:Qs w L)(e:Ext B ts w w')(a:227∉ts):Qs w' L:=fun x hx=>SZ.ext (h x hx) e a
theorem Qs.add{w:World}{L:List QT}(h:Qs w L){x:QT}(k:x.is w):Qs w (x::L):=fun y hy=>by
 rcases cc.1 hy with rfl|hy
 ·exact k
 ·exact h y hy
theorem Qs.nil{w:World}:Qs w []:=fun x hx=>by cases hx
theorem QR.qt{r:Rat}{v:Value}{w:World}(h:QR r v w):∃x:QT,x.r=r/\v= .agg #[.bool x.b,.slice x.A x.n x.c,.slice x.A' x.n' x.c']/\x.is w:=by
 obtain⟨b,A,n,c,A',n',c',rfl,k⟩:=h;exact⟨⟨b,A,n,c,A',n',c',r⟩,rfl,rfl,k⟩
section
variable {w0:World} {A0 A1 A:Option Addr} {n0 c0 n1 c1 n c:Nat} {ps:List Pa} {hs:List Ho} {l:List Sw}

end
end Go.Proofs.YtbcojgcjjpggnaaGreatDoor.B

open Go.Proofs.YtbcojgcjjpggnaaGreatDoor

namespace Go.Proofs.YtbcojgcjjpggnaaGreatDoor.B
open Go Go.RowKit Go.Proofs Go.Proofs.YtbcojgcjjpggnaaGreatDoor.Vc

theorem YV{ps:List Pa}{hs:List Ho}{l:List Sw}(a:eM ps hs l)(h p:Int):il l h p<=9:=by
 rcases ri l h p with⟨e,_⟩|⟨x,hx,b,d,g⟩
 ·omega
 ·have:=((a.known x hx));obtain⟨i,_,hi,_⟩:=this;obtain⟨q,e,hid⟩:=gL hi;have hm:=ga e;have h1:=a.full q hm;have j:=yC a.pos hx;have k:=(a.c.p1 q hm).2.1.2;rw[hid]at h1;omega
section
variable {w0:World} {A0 A1 A:Option Addr} {n0 c0 n1 c1 n c:Nat} {ps:List Pa} {hs:List Ho} {l:List Sw}
end

theorem extAll{B:Nat}{w w':World}(x:Ext B [] w w'):Below w.heap.size w w':=⟨x.below.os,x.below.tape,x.below.output,x.below.size,fun k a=>by
 rcases x.other k a with e|⟨t,b,_⟩
 ·exact e
 ·simp at b⟩
theorem YW{w:World}{A:Option Addr}{n c:Nat}{l:List Int}(h:bR w A 1 (l.map fG))(hlen:l.length=n)(hn:n<=1000000):
  Pure Tryz.prog 282 #[.slice A n c] w fun v w'=>∃A' c',v= .slice A' n c'/\aE w' w.heap.size 3 A' n c' 1 (l.map fG):=by
 refine F.jJ.vc ⟨fun b=> ?_,fun b=> ?_⟩
 ·subst b;have:=h.rf;simp at this;subst this;simp at hlen;subst hlen;exact⟨none,0,rfl,aE.nil⟩
 ·obtain⟨a,rfl⟩:=B4.1 b;refine bc gQ [] sm sm lf fun A2 c2 i ho e=> ?_
  refine ua gQ lf (by simpa using ho) (h.below e) (by simpa using hlen) (fun r d=>by obtain⟨s,_,rfl⟩:=hM.1 d;rfl) (fun r d=>by obtain⟨s,_,rfl⟩:=hM.1 d;intro u hu;simp[fG]at hu;subst hu;rfl) e.size (by simp;omega) sm fun A' c' j g _ k=> ?_
  simp only[wu,jx,tu]at g⊢;exact⟨A',c',rfl,g⟩
end Go.Proofs.YtbcojgcjjpggnaaGreatDoor.B

set_option maxRecDepth 100000
set_option maxHeartbeats 4000000
namespace Go.Proofs.YtbcojgcjjpggnaaGreatDoor.F
open Go Go.RowKit Go.Proofs Go.Proofs.YtbcojgcjjpggnaaGreatDoor.Vc
open Tryz
variable {A C D E G H J K A0 A1 A2 A3 A4 A5 A6 A7 A8 A9 C0 C1 C2 C3 C4 C5 C6 C7 C8 C9:O} {a b c d e f g i j l m n o a0 a1 a2 a3 a4 a5 a6 a7 a8 a9 b0 b1 b2 b3 b4 b5 b6 b7 b8 b9 c0 c1 c2 c3 c4 c5 c6 c7 c8 c9:Nat} {p q r s t u v x p0 p1 p2 p3 p4 p5 p6 p7 p8 p9 q0 q1 q2 q3 q4 q5 q6 q7 q8 q9:Int} {L M N N0 N1 N2 N3 N4 N5 N6 N7 N8 N9 T0 T1 T2 T3 T4 T5 T6 T7 T8 T9:ByteArray} {Q S:Bool} {B:Nat} {w:World} {R:Kt}
def db.L4(a:O)(b c:Nat)(d e:Int):=Lt 170 f170 4 [vS 0 a b c,vI 10 d,vI 11 e] []
def db.cx:Pm:=([((true,4),[0,10,11],[])],[])
theorem db.L4.step
  (h:(Br (p<q) (Pure P 205 #[.slice A a b,I p] w (Ri fun c d=>(Br (c≠0) (R (.tuple #[I p,I c]) d) (aU .i64 (p+1)/\(db.L4 A a b q (p+1) B d R))))) (R (.tuple #[(I (-1:Int)),I 0]) w))):
  db.L4 A a b q p B w R:=
 lr db.cx func170 h
theorem db.vc
  (h:(Br ((a:Int)>16) (R (.tuple #[(I (-1:Int)),I 8]) w) (db.L4 A a b (a:Int) (0:Int) w.heap.size w R))):
  Pure P 170 #[.slice A a b] w R:=
 pr db.cx func170 h

def nM.cx:Pm:=([],[(3,1,5),(10,9999,3)])
theorem nM.vc
  (h:(∀s,Ext w.heap.size [] w s->(Pure P 212 #[.slice A a c] s (Rb fun b2 t=>(Br (b2=false) (R (.tuple #[.slice none 0 0,I 1]) t) (Pure P 213 #[.slice A a c,.slice C b d] t (Rb fun b5 u=>(Br (b5=false) (R (.tuple #[.slice none 0 0,I 1]) u) (Pure P 71 #[.string L] u (Rb fun b8 m=>(Br (b8=false) (R (.tuple #[.slice none 0 0,I 1]) m) (∀f:Nat,w.heap.size<=f->m.heap[f]? =some (.cells [I p,I q,.string L].toArray 243 (0,0))->(Pure P 214 #[.slice A a c,(.func (.func 215) #[] #[(.pointer (some (⟨f,0,none⟩:Addr)))])] m (Ri fun e n=>(Br (e<0) (R (.tuple #[.slice none 0 0,I 7]) n) (∃v,aa n ((⟨f,0,none⟩:Addr).add 1) [I v]/\(Pure P 216 #[I v] n (Rb fun W j=>(Br (W=false) (R (.tuple #[.slice none 0 0,I 2]) j) (∃x,aa j ((⟨f,0,none⟩:Addr).add 1) [I x]/\(Ix e b C fun e6=>(∃y,aa j ((e6.add ((e).toNat*4)).add 1) [I y]/\(Br (x<y) (∀z,Ext w.heap.size [] j z->(R (.tuple #[.slice none 0 0,I 5]) z)) (∀l,Ext w.heap.size [] j l->(Ix e a A fun e7=>(∃D E G H J K M,aa l (e7.add ((e).toNat*7)) [I D,.string E,.string G,.string H,.string J,.string K,.string M]/\(∃N,aa l ((⟨f,0,none⟩:Addr).add 2) [.string N]/\(∀O,Ext w.heap.size [] l O->(Pure P 217 #[.agg #[I D,.string E,.string G,.string H,.string J,.string K,.string M],.string N] O (rF fun Q g3 e8=>(Pure P 33 #[.slice C b d] e8 (Rs fun S T e9 g=>(∃U,aa g ((⟨f,0,none⟩:Addr).add 0) [I U]/\(∃V,aa g ((⟨f,0,none⟩:Addr).add 1) [I V]/\(Ix e a A fun g0=>(∃X Y Z d0 d1 d2 d3,aa g (g0.add ((e).toNat*7)) [I X,.string Y,.string Z,.string d0,.string d1,.string d2,.string d3]/\(Ix e b C fun g1=>(∃d4 d5 d6 d7,aa g (g1.add ((e).toNat*4)) [I d4,I d5,I d6,.string d7]/\(∃d8,aa g ((⟨f,0,none⟩:Addr).add 1) [I d8]/\(∀d9,Ext w.heap.size [] g d9->(Pure P 218 #[.agg #[I X,.string Y,.string Z,.string d0,.string d1,.string d2,.string d3],.agg #[I d4,I d5,I d6,.string d7],.string Q,I d8] d9 (Ri fun g2 k=>(Ix e T S fun i=>(∃(o:List Value)(r:Nat),w.heap.size<=(i.add ((e).toNat*4)).block/\(i.add ((e).toNat*4)).spot=none/\k.heap[(i.add ((e).toNat*4)).block]? =some (.cells o.toArray r (0,0))/\(i.add ((e).toNat*4)).off+4<=o.length/\hasType r []=false/\∀F,aL k F (i.add ((e).toNat*4)).block r (setCells o (i.add ((e).toNat*4)).off [I U,I V,I g2,.string Q])->(R (.tuple #[.slice S T e9,I 0]) F))))))))))))))))))))))))))))))))))))))))))))):
  Pure P 173 #[.slice A a c,.slice C b d,.agg #[I p,I q,.string L]] w R:=
 pr nM.cx func173 h

def dx.L3(a:O)(b c:Nat)(d:Int)(e:O)(f g:Nat)(i j l:Int)(m n o p q r:ByteArray):=Lt 205 f205 3 [vS 0 a b c,vI 1 d,vL 5,vS 22 e f g,vI 23 i,vI 24 j] [⟨5,false,141,[(I l),(.string m),(.string n),(.string o),(.string p),(.string q),(.string r)]⟩]
def dx.cx:Pm:=([((true,3),[0,1,5,22,23,24],[5])],[(2,10,2)])
theorem dx.L3.step
  (h:(Br (q<s) (Ix q b C fun t=>(∃f,aa w (t.add ((q).toNat*1)) [.string f]/\(Pure P 71 #[.string f] w (Rb fun u g=>(Br (u=false) (R (I 1) g) (aU .i64 (q+1)/\(dx.L3 A a c p C b d s (q+1) r L M N2 N N0 N1 B g R))))))) (Br (((ByteArray.size L:Int):Int)<1) (R (I 4) w) (Br (((ByteArray.size L:Int):Int)>64) (R (I 4) w) (Br (r<1) (R (I 2) w) (Br (r>1073741824) (R (I 2) w) (Pure P 247 #[.string M] w (Ri fun v i=>(Br (v=0) (R (I 2) i) (Pure P 248 #[.string N,.string N0] i (Ri fun x j=>(Br (x>0) (R (I 2) j) (Pure P 247 #[.string N1] j (Ri fun y e=>(Br (y<=(0:Int)) (R (I 2) e) (Br (p>0) (aU .i64 (p - (1:Int))/\(Ix (p - (1:Int)) a A fun z=>(∃l,aa e ((z.add (((p - (1:Int))).toNat*7)).add 0) [I l]/\(Br (l≥r) (∀m,Ext B [] e m->(R (I 5) m)) (∀n,Ext B [] e n->(R (I 0) n)))))) (∀o,Ext B [] e o->(R (I 0) o)))))))))))))))))):
  dx.L3 A a c p C b d s q r L M N2 N N0 N1 B w R:=
 lr dx.cx func205 h
theorem dx.vc
  (h:(Ix p a A fun n=>(∃i j c d e f g,aa w (n.add ((p).toNat*7)) [I i,.string j,.string c,.string d,.string e,.string f,.string g]/\(∀l,Ext w.heap.size [] w l->(ae P (Instr.buildSlice 29 5 #[(0,(.string c)),(1,(.string d)),(2,(.string e)),(3,(.string f)),(4,(.string g))]) w.heap.size [141] l (Rs fun o m q r=>(dx.L3 A a b p o m q (m:Int) (0:Int) i j c d e f g w.heap.size r R))))))):
  Pure P 205 #[.slice A a b,I p] w R:=
 pr dx.cx func205 h

def jT.cx:Pm:=([],[])
theorem jT.vc
  (h:(Pure P 170 #[.slice A a b] w (Rii fun e c d=>(R (.bool (decide (c=0))) d)))):
  Pure P 212 #[.slice A a b] w R:=
 pr jT.cx func212 h

def dr.L4(a:O)(b c:Nat)(d:O)(e f:Nat)(g i:Int):=Lt 213 f213 4 [vS 0 a b c,vS 12 d e f,vI 13 g,vI 14 i] []
def dr.cx:Pm:=([((true,4),[0,12,13,14],[])],[(6,9999,3)])
theorem dr.L4.step
  (h:(Br (p<q) (Ix p b C fun u=>(∃l i g j,aa w (u.add ((p).toNat*4)) [I l,I i,I g,.string j]/\(∀e,Ext B [] w e->(Ix p a A fun v=>(∃m,aa e ((v.add ((p).toNat*7)).add 0) [I m]/\(Br (l≠m) (∀n,Ext B [] e n->(R (.bool false) n)) (Br (g<0) (∀o,Ext B [] e o->(R (.bool false) o)) (Br (g>3) (∀r,Ext B [] e r->(R (.bool false) r)) (∀s,Ext B [] e s->(Pure P 216 #[I i] s (Rb fun x t=>(Br (x=false) (R (.bool false) t) (Pure P 71 #[.string j] t (Rb fun y f=>(Br (y=false) (R (.bool false) f) (Br (g=0) (Br (i≠0) (R (.bool false) f) (Br (j≠(⟨#[48]⟩:ByteArray)) (R (.bool false) f) (aU .i64 (p+1)/\(dr.L4 A a c C b d q (p+1) B f R)))) (aU .i64 (p+1)/\(dr.L4 A a c C b d q (p+1) B f R)))))))))))))))))) (R (.bool true) w))):
  dr.L4 A a c C b d q p B w R:=
 lr dr.cx func213 h
theorem dr.vc
  (h:(Br ((b:Int)≠(a:Int)) (R (.bool false) w) (dr.L4 A b c C a d (a:Int) (0:Int) w.heap.size w R))):
  Pure P 213 #[.slice A b c,.slice C a d] w R:=
 pr dr.cx func213 h

def pz.cx:Pm:=([],[])
theorem pz.vc{b:Addr}
  (h:(∀a,Ext w.heap.size [] w a->(∃c,aa a (b.add 0) [I c]/\(R (.bool (decide (p=c))) a)))):
  Pure P 215 #[.agg #[I p,.string L,.string M,.string N,.string N0,.string N1,.string N2],(.pointer (some b))] w R:=
 pr pz.cx func215 h

def lC.cx:Pm:=([],[])
theorem lC.vc
  (h:(Br (p≥(0:Int)) (R (.bool (decide (p<=(1073741824:Int)))) w) (R (.bool false) w))):
  Pure P 216 #[I p] w R:=
 pr lC.cx func216 h

def ku.cx:Pm:=([],[(1,1,2)])
theorem ku.vc
  (h:(∀a,Ext w.heap.size [] w a->(ae P (Instr.buildSlice 42 1 #[(0,(.agg #[I p,.string N0,.string L,.string M,.string N1,.string N2,.string N3]))]) w.heap.size [141] a (Rs fun e f g i=>(Pure P 212 #[.slice e f g] i (Rb fun j b=>(Br (j=false) (R (.tuple #[(.string ⟨#[]⟩),I 1]) b) (Pure P 71 #[.string N] b (Rb fun l c=>(Br (l=false) (R (.tuple #[(.string ⟨#[]⟩),I 1]) c) (∀d,Ext w.heap.size [] c d->(Pure P 257 #[.string L,.string N] d (Rt fun m n=>(Pure P 256 #[.string m,.string M] n (Rt fun o q=>(R (.tuple #[.string o,I 0]) q)))))))))))))))):
  Pure P 217 #[.agg #[I p,.string N0,.string L,.string M,.string N1,.string N2,.string N3],.string N] w R:=
 pr ku.cx func217 h

def cK.L3(a:O)(b c:Nat)(d e:Int):=Lt 218 f218 3 [vS 17 a b c,vI 18 d,vI 19 e] []
def cK.cx:Pm:=([((true,3),[17,18,19],[])],[(1,0,5),(1,2,5),(1,4,2),(5,2,4)])
theorem cK.L3.step
  (h:(Br (p<q) (Ix p a A fun j=>(∃(d:Int)(c:Nat)(e f:Array Value),aa w (j.add ((p).toNat*2)) [I d,(.func (.func c) e f)]/\(ay P c=true/\(∀g,Ext B [] w g->(Pure P c ((Array.toList e)++([]:List Value)++(Array.toList f)).toArray g (Rb fun l i=>(Bb l (R (I d) i) (aU .i64 (p+1)/\(cK.L3 A a b q (p+1) B i R))))))))) (R (I 1) w))):
  cK.L3 A a b q p B w R:=
 lr cK.cx func218 h
theorem cK.vc
  (h:(∀a,Ext w.heap.size [] w a->(∀b:Nat,w.heap.size<=b->a.heap[b]? =some (.cells [I p,.string L,.string M,.string N,.string N0,.string N1,.string N2].toArray 141 (0,0))->(∀c:Nat,w.heap.size<=c->a.heap[c]? =some (.cells [.string N4].toArray 88 (0,0))->(∀d:Nat,w.heap.size<=d->a.heap[d]? =some (.cells [I t].toArray 3 (0,0))->(∀e:Nat,w.heap.size<=e->a.heap[e]? =some (.cells [I q,I r,I s,.string N3].toArray 94 (0,0))->(ae P (Instr.buildSlice 318 2 #[(0,(.agg #[I 2,(.func (.func 258) #[] #[(.pointer (some (⟨c,0,none⟩:Addr))),(.pointer (some (⟨b,0,none⟩:Addr)))])])),(1,(.agg #[I 3,(.func (.func 259) #[] #[(.pointer (some (⟨e,0,none⟩:Addr))),(.pointer (some (⟨c,0,none⟩:Addr))),(.pointer (some (⟨b,0,none⟩:Addr))),(.pointer (some (⟨d,0,none⟩:Addr)))])]))]) w.heap.size [] a (Rs fun g f i j=>(cK.L3 g f i (f:Int) (0:Int) w.heap.size j R))))))))):
  Pure P 218 #[.agg #[I p,.string L,.string M,.string N,.string N0,.string N1,.string N2],.agg #[I q,I r,I s,.string N3],.string N4,I t] w R:=
 pr cK.cx func218 h

def lD.cx:Pm:=([],[])
theorem lD.vc
  (h:(Pure P 248 #[.string L,(.string ⟨#[48]⟩)] w (Ri fun a b=>(R (I a) b)))):
  Pure P 247 #[.string L] w R:=
 pr lD.cx func247 h

def eQ.cx:Pm:=([],[])
theorem eQ.vc
  (h:(Pure P 155 #[.string L,.string M] w (Rii fun a c b=>(R (I a) b)))):
  Pure P 248 #[.string L,.string M] w R:=
 pr eQ.cx func248 h

def pA.cx:Pm:=([],[])
theorem pA.vc
  (h:(Pure P 189 #[.string L,.string M] w (rF fun a c b=>(R (.string a) b)))):
  Pure P 256 #[.string L,.string M] w R:=
 pr pA.cx func256 h

def mH.cx:Pm:=([],[])
theorem mH.vc
  (h:(Pure P 190 #[.string L,.string M] w (rF fun a c b=>(R (.string a) b)))):
  Pure P 257 #[.string L,.string M] w R:=
 pr mH.cx func257 h

def mg.cx:Pm:=([],[])
theorem mg.vc{b c:Addr}
  (h:(∃d,aa w b [.string d]/\(∃e,aa w (c.add 4) [.string e]/\(Pure P 248 #[.string d,.string e] w (Ri fun i a=>(Br (i<0) (R (.bool true) a) (∃f,aa a b [.string f]/\(∃g,aa a (c.add 5) [.string g]/\(Pure P 248 #[.string f,.string g] a (Ri fun j l=>(R (.bool (decide (j>0))) l))))))))))):
  Pure P 258 #[(.pointer (some b)),(.pointer (some c))] w R:=
 pr mg.cx func258 h

def mh.cx:Pm:=([],[])
theorem mh.vc{a d e f:Addr}
  (h:(∃g,aa w (a.add 2) [I g]/\(Br (g=1) (∃i,aa w d [.string i]/\(∃j,aa w (a.add 3) [.string j]/\(∃l,aa w (e.add 6) [.string l]/\(∃b,aa w f [I b]/\(∃c,aa w (a.add 1) [I c]/\(aU .i64 (b - c)/\(∀m,Ext w.heap.size [] w m->(Pure P 261 #[.string i,.string j] m (Rt fun o p=>(Pure P 260 #[.string o] p (Rt fun q r=>(Pure P 262 #[(I (b - c))] r (Rt fun s t=>(Pure P 257 #[.string l,.string s] t (Rt fun u v=>(Pure P 248 #[.string q,.string u] v (Ri fun x y=>(R (.bool (decide (x>0))) y)))))))))))))))))) (∀n,Ext w.heap.size [] w n->(R (.bool false) n))))):
  Pure P 259 #[(.pointer (some a)),(.pointer (some d)),(.pointer (some e)),(.pointer (some f))] w R:=
 pr mh.cx func259 h

def nN.cx:Pm:=([],[])
theorem nN.vc
  (h:(Pure P 247 #[.string L] w (Ri fun b a=>(Br (b<0) (Pure P 261 #[(.string ⟨#[48]⟩),.string L] a (Rt fun c d=>(R (.string c) d))) (R (.string L) a))))):
  Pure P 260 #[.string L] w R:=
 pr nN.cx func260 h

def mI.cx:Pm:=([],[])
theorem mI.vc
  (h:(Pure P 188 #[.string L,.string M] w (rF fun a c b=>(R (.string a) b)))):
  Pure P 261 #[.string L,.string M] w R:=
 pr mI.cx func261 h

def kv.cx:Pm:=([],[])
theorem kv.vc
  (h:(Pure P 50 #[I p] w (Rt fun a b=>(R (.string a) b)))):
  Pure P 262 #[I p] w R:=
 pr kv.cx func262 h

end Go.Proofs.YtbcojgcjjpggnaaGreatDoor.F

namespace Go.Proofs.YtbcojgcjjpggnaaGreatDoor.B
open Go Go.RowKit Go.Proofs Go.Proofs.YtbcojgcjjpggnaaGreatDoor.Vc

structure Ch where
 id:Int
 name:ByteArray
 pB:ByteArray
 offset:ByteArray
 low:ByteArray
 high:ByteArray
 mw:ByteArray
structure Va where
 chan:Int
 tick:Int
 xL:Int
 num:ByteArray
abbrev Ch.row(c:Ch):List Value:=[.int .i64 c.id,.string c.name,.string c.pB,.string c.offset,.string c.low,.string c.high,.string c.mw]
abbrev Ch.val(c:Ch):Value:= .agg #[.int .i64 c.id,.string c.name,.string c.pB,.string c.offset,.string c.low,.string c.high,.string c.mw]
abbrev Va.row(v:Va):List Value:=[.int .i64 v.chan,.int .i64 v.tick,.int .i64 v.xL,.string v.num]
abbrev Va.val(v:Va):Value:= .agg #[.int .i64 v.chan,.int .i64 v.tick,.int .i64 v.xL,.string v.num]
structure Jr (c:Ch):Prop where
 name:c.name.size<2147483648
 pB:ma c.pB
 offset:ma c.offset
 low:ma c.low
 high:ma c.high
 mw:ma c.mw

def fx(p:Option Ch)(c:Ch):Int:=
 if ¬(vR c.pB=true/\vR c.offset=true/\vR c.low=true/\vR c.high=true/\vR c.mw=true)then 1
 else if c.name.size<1∨64<c.name.size then 4
 else if c.id<1∨1073741824<c.id∨qR c.pB=0∨qR c.high<qR c.low∨¬0<qR c.mw then 2
 else if ∃q,p=some q/\c.id<=q.id then 5
 else 0

theorem pA{w:World}{x y:Rat}(hg:bj w)(hx:kA x)(hy:kA y):Pure Tryz.prog 256 #[.string (rS x),.string (rS y)] w fun v _=>v= .string (rS (x+y)):=by
 refine F.pA.vc (pm (iJ hg hx hy) ?_);rintro v a _ rfl;exact⟨_,_,rfl,rfl⟩
theorem mI{w:World}{x y:Rat}(hg:bj w)(hx:kA x)(hy:kA y):Pure Tryz.prog 261 #[.string (rS x),.string (rS y)] w fun v _=>v= .string (rS (x - y)):=by
 refine F.mI.vc (pm (jR hg hx hy) ?_);rintro v a _ rfl;exact⟨_,_,rfl,rfl⟩
theorem mH{w:World}{x y:Rat}(hg:bj w)(hx:kA x)(hy:kA y):Pure Tryz.prog 257 #[.string (rS x),.string (rS y)] w fun v _=>v= .string (rS (x*y)):=by
 refine F.mH.vc (pm (iK hg hx hy) ?_);rintro v a _ rfl;exact⟨_,_,rfl,rfl⟩
theorem eQ{w:World}{x y:Rat}(hg:bj w)(hx:kA x)(hy:kA y):Pure Tryz.prog 248 #[.string (rS x),.string (rS y)] w fun v _=>v= .int .i64 (gA x y):=by
 refine F.eQ.vc (pm (eD hg hx hy) ?_);rintro v a _ rfl;exact⟨_,_,rfl,rfl⟩
theorem lD{w:World}{x:Rat}(hg:bj w)(hx:kA x):Pure Tryz.prog 247 #[.string (rS x)] w fun v _=>v= .int .i64 (gA x 0):=by
 refine F.lD.vc ?_;rw[s0];refine pm (eQ hg hx (Sm.zero om)) ?_;rintro v a _ rfl;exact⟨_,rfl,rfl⟩
theorem kv{w:World}{z:Int}(hg:bj w)(a: -9223372036854775808<=z)(h1:z<=9223372036854775807):Pure Tryz.prog 262 #[.int .i64 z] w fun v _=>v= .string (rS (z:Rat)):=by
 refine F.kv.vc (pm (tZ hg z a h1) ?_);rintro v b _ rfl;refine⟨_,rfl,?_⟩;rw[Qu]
theorem nN{w:World}{x:Rat}(hg:bj w)(hx:kA x):Pure Tryz.prog 260 #[.string (rS x)] w fun v _=>v= .string (rS (BR x)):=by
 refine F.nN.vc (pm (lD hg hx) ?_);rintro v b a rfl;refine⟨_,rfl,fun h=> ?_,fun h=> ?_⟩
 ·rw[jn]at h;rw[s0];refine pm (mI (hg.next a) (Sm.zero om) hx) ?_;rintro v c _ rfl;refine⟨_,rfl,?_⟩;have e:(0:Rat) - x= -x:=by rw[SM,Rat.zero_add]
  rw[e];unfold BR;rw[bb h]
 ·rw[jn]at h;unfold BR;rw[aq h]
theorem lC(n:Int)(w:World):Pure Tryz.prog 216 #[.int .i64 n] w fun v _=>v= .bool (decide (0<=n/\n<=1073741824)):=by
 refine F.lC.vc ⟨fun h=> ?_,fun h=> ?_⟩
 ·congr 1
  simp;omega
 ·congr 1
  simp;omega

abbrev Ch.zX(c:Ch):List ByteArray:=[c.pB,c.offset,c.low,c.high,c.mw]
theorem Ch.Mi(c:Ch):(∀s∈c.zX,vR s=true)↔(vR c.pB=true/\vR c.offset=true/\vR c.low=true/\vR c.high=true/\vR c.mw=true):=by simp[Ch.zX]
theorem Jr.all{c:Ch}(h:Jr c):∀s∈c.zX,ma s:=by
 intro s hs;simp only[Ch.zX,cc,fs,u1]at hs;rcases hs with rfl|rfl|rfl|rfl|rfl
 ·exact h.pB
 ·exact h.offset
 ·exact h.low
 ·exact h.high
 ·exact h.mw
theorem Mj{w:World}{s:ByteArray}(hg:bj w)(hs:ma s)(h:vR s=true):Pure Tryz.prog 247 #[.string s] w fun v _=>v= .int .i64 (gA (qR s) 0):=by
 have:=lD hg (hs.wX h);rwa [<-hO h]at this
theorem KI{w:World}{s t:ByteArray}(hg:bj w)(hs:ma s)(h:vR s=true)(a:ma t)(k:vR t=true):Pure Tryz.prog 248 #[.string s,.string t] w fun v _=>v= .int .i64 (gA (qR s) (qR t)):=by
 have:=eQ hg (hs.wX h) (a.wX k);rwa [<-hO h,<-hO k]at this

def kO(l:List Ch)(i:Nat):Option Ch:=if i=0 then none else l[i - 1]?

theorem KJ{w0:World}(hg:bj w0){A:Option Addr}{n c:Nat}{l:List Ch}(hl:bR w0 A 7 (l.map Ch.row))(hlen:l.length=n)(hn:n<2147483648){i:Nat}(hi:i<n){x:Ch}(hx:l[i]? =some x)(m:Jr x)
  {A2:Option Addr} {c2:Nat} {R:Value->World->Prop} (e:∀w,R (.int .i64 (fx (kO l i) x)) w):
  ∀(d k:Nat)(w:World),5 - k=d->k<=5->Below w0.heap.size w0 w->aE w w0.heap.size 88 A2 5 c2 1 (x.zX.map fun s=>[.string s])->(∀j,j<k->∀s,x.zX[j]? =some s->vR s=true)->
   F.dx.L3 A n c i A2 5 c2 ((5:Nat):Int) k x.id x.name x.pB x.offset x.low x.high x.mw w0.heap.size w R:=by
 intro d;induction d with
 |zero=>
  intro k w T U hw ho B;have C:k=5:=om;subst C;have V:∀s∈x.zX,vR s=true:=by
   intro s hs;obtain⟨j,hj,rfl⟩:=List.mem_iff_getElem.1 hs;exact B j (by simpa[Ch.zX]using hj) _ (by simp[hj])
  have D:=(Ch.Mi x).1 V;obtain⟨v1,v2,v3,v4,v5⟩:=D;have ns:=m.name;refine F.dx.L3.step ⟨fun h=>by omega,fun _=> ?_⟩;have f4:(x.name.size<1∨64<x.name.size)->fx (kO l i) x=4:=fun h=>by
   unfold fx;rw[aq (fun k=>k ⟨v1,v2,v3,v4,v5⟩),bb h]
  have f2:¬(x.name.size<1∨64<x.name.size)->(x.id<1∨1073741824<x.id∨qR x.pB=0∨qR x.high<qR x.low∨¬0<qR x.mw)->fx (kO l i) x=2:=fun h g=>by
   unfold fx;rw[aq (fun k=>k ⟨v1,v2,v3,v4,v5⟩),aq h,bb g]
  refine⟨fun h1=> ?_,fun h1=>⟨fun g=> ?_,fun g=>⟨fun W=> ?_,fun W=>⟨fun X=> ?_,fun X=> ?_⟩⟩⟩⟩
  ·have:=e w;rwa [f4 om]at this
  ·have:=e w;rwa [f4 om]at this
  ·have:=e w;rwa [f2 om (.inl om)]at this
  ·have:=e w;rwa [f2 om (.inr (.inl om))]at this
  refine pm (Mj (hg.next hw) m.pB v1) ?_;rintro v r y rfl;have N:=kP hw y;refine⟨_,rfl,fun E=> ?_,fun E=> ?_⟩
  ·have:=e r;rwa [f2 om (.inr (.inr (.inl (Ay.1 E))))]at this
  refine pm (KI (hg.next N) m.low v3 m.high v4) ?_;rintro v Y Z rfl;have O:=kP N Z;refine⟨_,rfl,fun G=> ?_,fun G=> ?_⟩
  ·have:=e Y;rwa [f2 om (.inr (.inr (.inr (.inl (gx.1 G)))))]at this
  refine pm (Mj (hg.next O) m.mw v5) ?_;rintro v w4 b4 rfl;have nt:=kP O b4;have P:gA (qR x.mw) 0<=0↔¬0<qR x.mw:=by rw[<-gx];omega
  refine⟨_,rfl,fun H=> ?_,fun H=> ?_⟩
  ·have:=e w4;rwa [f2 om (.inr (.inr (.inr (.inr (P.1 H)))))]at this
  have rest:fx (kO l i) x=if ∃q,kO l i=some q/\x.id<=q.id then 5 else 0:=by
   unfold fx;rw[aq (fun k=>k ⟨v1,v2,v3,v4,v5⟩),aq om,aq];rintro(k|k|k|k|k)
   ·omega
   ·omega
   ·exact E (Ay.2 k)
   ·exact G (gx.2 k)
   ·exact H (P.2 k)
  rw[rest]at e;refine⟨fun h8=>⟨ir,?_⟩,fun h8 o _=> ?_⟩
  ·obtain⟨hb,a,I,J⟩:=(hl.au nt lf).load (n:=n) (by simpa using hlen) (j:=(i:Int) - 1) om om;have Q:i - 1<l.length:=om;have S:kO l i=some l[i - 1]:=by
    unfold kO;rw[aq om];simp[Q]
   obtain⟨_,b⟩:=J l[i - 1].row (by rw[show((i:Int) - 1).toNat=i - 1 by omega];simp[Q]) rfl;refine⟨hb,a,I,_,b 0 _ rfl,fun K o _=> ?_,fun K o _=> ?_⟩
   ·have:=e o;rwa [bb ⟨_,S,K⟩]at this
   ·have:=e o;rwa [aq (fun⟨q,z,hle⟩=>by rw[S]at z;cases z;exact K hle)]at this
  ·have L:i=0:=om;have:=e o;rwa [aq (fun⟨q,z,_⟩=>by simp[kO,L]at z)]at this
 |succ d ih=>
  intro k w T U hw ho B;have C:k<x.zX.length:=by simp[Ch.zX];omega
  obtain⟨s,hs⟩:∃s,x.zX[k]? =some s:=⟨x.zX[k],by simp[C]⟩
  have hss:ma s:=m.all s (ga hs);refine F.dx.L3.step ⟨fun _=> ?_,fun h=>by omega⟩;obtain⟨hb,a,I,J⟩:=ho.sl.load (n:=5) ho.len (j:=(k:Int)) om om;obtain⟨b,_⟩:=J [.string s] (by rw[ca,kl,hs];rfl) rfl;refine⟨hb,a,I,_,b,pm (dW (hg.next hw) s om) ?_⟩;rintro v r y rfl;refine⟨_,rfl,fun h1=> ?_,fun h1=>⟨ir,?_⟩⟩
  ·have hf:fx (kO l i) x=1:=by
    unfold fx;rw[bb];intro hc;have g:=(Ch.Mi x).2 hc s (ga hs);unfold vR at g;rw[h1]at g;cases g
   have:=e r;rwa [hf]at this
  ·have e3:=sc k;rw[e3];refine ih (k+1) r om om (kP hw y) (ho.below y) fun j hj t M=> ?_
   by_cases VW:j=k
   ·subst VW;rw[hs]at M;cases M;simpa[vR]using h1
   ·exact B j om t M

theorem dx{w:World}(hg:bj w){A:Option Addr}{n c:Nat}{l:List Ch}(hl:bR w A 7 (l.map Ch.row))(hlen:l.length=n)(hn:n<2147483648){i:Nat}(hi:i<n){x:Ch}(hx:l[i]? =some x)(h:Jr x):
  Pure Tryz.prog 205 #[.slice A n c,.int .i64 (i:Int)] w fun v _=>v= .int .i64 (fx (kO l i) x):=by
 obtain⟨hb,a,k,m⟩:=hl.load (n:=n) (by simpa using hlen) (j:=(i:Int)) om om;obtain⟨b,_⟩:=m x.row (by rw[ca];simp[hx]) rfl;refine F.dx.vc ⟨hb,a,k,_,_,_,_,_,_,_,b,fun w1 o=> ?_⟩;have d:=k0 o;refine bc nm [.string x.pB,.string x.offset,.string x.low,.string x.high,.string x.mw] (by simp[Value.cells]) sm d.size fun A2 c2 q ho r=> ?_
 refine KJ hg hl hlen hn hi hx h (fun _=>rfl) 5 0 q rfl om (kP d r) ⟨?_,ho.2⟩ (fun j hj=>by omega);have h1:=ho.1;refine⟨h1.1,?_⟩;rcases h1.2 with e|⟨g,cap,cur,e,y,z⟩
 ·exact .inl e
 ·exact .inr ⟨g,cap,cur,e,dp d.size y,z⟩

def WC:Option Ch->Nat->List Ch->Int×Int
 |_,_,[]=>(-1,0)
 |p,i,c::r=>if fx p c≠0 then((i:Int),fx p c)else WC (some c) (i+1) r
def iP(l:List Ch):Int×Int:=if 16<l.length then(-1,8)else WC none 0 l

theorem KK{w0:World}(hg:bj w0){A:Option Addr}{n c:Nat}{l:List Ch}(hl:bR w0 A 7 (l.map Ch.row))(hlen:l.length=n)(hn:n<2147483648)(j:∀x∈l,Jr x){R:Value->World->Prop}{r:Int×Int}(e:∀w,R (.tuple #[.int .i64 r.1,.int .i64 r.2]) w):
  ∀(d i:Nat)(w:World),n - i=d->i<=n->Below w0.heap.size w0 w->r=WC (kO l i) i (l.drop i)->F.db.L4 A n c n i w0.heap.size w R:=by
 intro d;induction d with
 |zero=>
  intro i w m hi hw a;rw[cd om]at a;subst a;exact F.db.L4.step ⟨fun h=>by omega,fun _=>e w⟩
 |succ d ih=>
  intro i w m hi hw a;have b:i<l.length:=om;have hx:l[i]? =some l[i]:=by simp[b]
  rw[cz b]at a;refine F.db.L4.step ⟨fun _=> ?_,fun h=>by omega⟩;refine pm (dx (hg.next hw) (hl.au hw lf) hlen hn om hx (j _ (bw _))) ?_;rintro v g o rfl;refine⟨_,rfl,fun h=> ?_,fun h=>⟨ir,?_⟩⟩
  ·rw[WC,bb h]at a;subst a;exact e g
  ·have q:fx (kO l i) l[i]=0:=by
    apply bm;intro k;exact h k
   rw[WC,aq (fun k=>k q)]at a;have y:=sc i;rw[y];refine ih (i+1) g om om (kP hw o) ?_;have hp:kO l (i+1)=some l[i]:=by simp[kO,b]
   rw[hp];exact a

theorem db{w:World}(hg:bj w){A:Option Addr}{n c:Nat}{l:List Ch}(hl:bR w A 7 (l.map Ch.row))(hlen:l.length=n)(a:∀x∈l,Jr x):
  Pure Tryz.prog 170 #[.slice A n c] w fun v _=>v= .tuple #[.int .i64 (iP l).1,.int .i64 (iP l).2]:=by
 refine F.db.vc ⟨fun h=> ?_,fun h=> ?_⟩
 ·unfold iP;rw[bb om]
 ·refine KK (r:=iP l) hg hl hlen om a (fun _=>rfl) n 0 w rfl om (Below.refl _ _) ?_;unfold iP;rw[aq om];rfl
theorem jT{w:World}(hg:bj w){A:Option Addr}{n c:Nat}{l:List Ch}(hl:bR w A 7 (l.map Ch.row))(hlen:l.length=n)(a:∀x∈l,Jr x):
  Pure Tryz.prog 212 #[.slice A n c] w fun v _=>v= .bool (decide ((iP l).2=0)):=by
 refine F.jT.vc (pm (db hg hl hlen a) ?_);rintro v b _ rfl;exact⟨_,_,rfl,rfl⟩

theorem YX:El Tryz.prog 42 141 7 104:=El.of kF
theorem QW:El Tryz.prog 43 94 4 40:=El.of kF

def gy(c:Ch)(raw:ByteArray):Rat:=qR c.pB*qR raw+qR c.offset
def sH(c:Ch)(raw:ByteArray):ByteArray×Int:=if(iP [c]).2=0/\vR raw=true then(rS (gy c raw),0)else(⟨#[]⟩,1)

theorem uj{l:List Ch}(h:(iP l).2=0):l.length<=16/\∀i x,l[i]? =some x->fx (kO l i) x=0:=by
 unfold iP at h;split at h
 ·simp at h
 ·refine⟨om,?_⟩;have gen:∀(r:List Ch)(p:Option Ch)(k:Nat),(WC p k r).2=0->∀i x,r[i]? =some x->fx (if i=0 then p else r[i - 1]?) x=0:=by
   intro r;induction r with
   |nil=>intro p k _ i x hx;simp at hx
   |cons c r ih=>
    intro p k h i x hx;rw[WC]at h;split at h
    ·rename_i a;exact absurd h a
    ·rename_i a;have a:fx p c=0:=by
      apply bm;intro k;exact a k
     cases i with
     |zero=>simp at hx;subst hx;simpa using a
     |succ i=>
      have:=ih (some c) (k+1) h i x (by simpa using hx);rw[aq om];cases i with
      |zero=>simpa using this
      |succ i=>simpa using this
  intro i x hx;exact gen l none 0 h i x hx
theorem uk{p:Option Ch}{c:Ch}(h:fx p c=0):(vR c.pB=true/\vR c.offset=true/\vR c.low=true/\vR c.high=true/\vR c.mw=true)/\¬(c.id<1∨1073741824<c.id∨qR c.pB=0∨qR c.high<qR c.low∨¬0<qR c.mw)/\∀q,p=some q->q.id<c.id:=by
 unfold fx at h;split at h
 ·simp at h
 ·rename_i h1;have h1:=dT.1 h1;split at h
  ·simp at h
  ·split at h
   ·simp at h
   ·rename_i a;split at h
    ·simp at h
    ·rename_i b;exact⟨h1,a,fun q d=>by
      apply bm;intro k;exact b ⟨q,d,om⟩⟩

theorem KL{c:Ch}{raw:ByteArray}(a:Jr c)(v1:vR c.pB=true)(v2:vR c.offset=true)(b:ma raw)(v3:vR raw=true):Sm 3001 (gy c raw):=
 Sm.mono (((lx v1 a.pB).mul (lx v3 b)).add (lx v2 a.offset)) om

theorem ku{w:World}(hg:bj w){c:Ch}(g:Jr c){raw:ByteArray}(n:ma raw):
  Pure Tryz.prog 217 #[c.val,.string raw] w fun v _=>v= .tuple #[.string (sH c raw).1,.int .i64 (sH c raw).2]:=by
 refine F.ku.vc fun w1 q=> ?_
 have a:=k0 q;refine bc YX [c.val] (by simp[Value.cells]) sm a.size fun A2 c2 B ho r=> ?_
 have b:=kP a r;refine pm (jT (hg.next b) (l:=[c]) ho.sl rfl (by simpa using g)) ?_;rintro v C x rfl;have d:=kP b x;refine⟨_,rfl,fun h=> ?_,fun h=>pm (dW (hg.next d) raw om) ?_⟩
 ·unfold sH;rw[aq (fun k=>by have:=k.1;simp at h;exact h this)]
 rintro v D y rfl;have m:=kP d y;have e:(iP [c]).2=0:=by
  apply bm;intro k;simp[k]at h
 refine⟨_,rfl,fun i=> ?_,fun i E z=> ?_⟩
 ·unfold sH vR;rw[aq (fun k=>by rw[k.2]at i;cases i)]
 have j:vR raw=true:=by simpa[vR]using i
 obtain⟨⟨v1,v2,_⟩,_⟩:=uk ((uj e).2 0 c rfl);have o:=kE m z;have m1:=mH (hg.next o) (g.pB.wX v1) (n.wX j);rw[<-hO v1,<-hO j]at m1;refine pm m1 ?_;rintro v G A rfl;have m2:=pA (hg.next (kP o A)) (((lx v1 g.pB).mul (lx j n)).mono om) (g.offset.wX v2);rw[<-hO v2]at m2;refine⟨_,rfl,pm m2 ?_⟩;rintro v H _ rfl;refine⟨_,rfl,?_⟩;unfold sH;rw[bb ⟨e,j⟩];rfl

def xM(c:Ch)(x:Va):Bool:=x.chan==c.id&&decide (0<=x.xL/\x.xL<=3)&&decide (0<=x.tick/\x.tick<=1073741824)&&vR x.num&&(x.xL !=0||(x.tick==0&&decide (x.num=⟨#[48]⟩)))
def rn:List Ch->List Va->Bool
 |[],[]=>true
 |c::r,x::s=>xM c x&&rn r s
 |_,_=>false

abbrev YY(x:Va):Prop:=ma x.num

theorem Nw{w0:World}(hg:bj w0){A A1:Option Addr}{n c c1:Nat}{l:List Ch}{v:List Va}(hl:bR w0 A 7 (l.map Ch.row))(hlen:l.length=n)(S:bR w0 A1 4 (v.map Va.row))(T:v.length=n)(hn:n<2147483648)(U:∀x∈v,YY x){R:Value->World->Prop}{r:Bool}(b:∀w,R (.bool r) w):
  ∀(d i:Nat)(w:World),n - i=d->i<=n->Below w0.heap.size w0 w->r=rn (l.drop i) (v.drop i)->F.dr.L4 A n c A1 n c1 n i w0.heap.size w R:=by
 intro d;induction d with
 |zero=>
  intro i w V hi hw g;rw[cd om,cd om]at g;subst g;exact F.dr.L4.step ⟨fun h=>by omega,fun _=>b w⟩
 |succ d ih=>
  intro i w V hi hw g;have K:i<l.length:=om;have o:i<v.length:=om;rw[cz K,cz o,rn]at g;obtain⟨hb,a,W,X⟩:=(S.au hw lf).load (n:=n) (by simpa using T) (j:=(i:Int)) om om;obtain⟨e,_⟩:=X v[i].row (by rw[ca];simp[o]) rfl;refine F.dr.L4.step ⟨fun _=> ?_,fun h=>by omega⟩;refine⟨hb,a,W,_,_,_,_,e,fun w2 Y=> ?_⟩;have L:=kE hw Y;obtain⟨B,a2,Z,QX⟩:=(hl.au L lf).load (n:=n) (by simpa using hlen) (j:=(i:Int)) om om;obtain⟨_,sF⟩:=QX l[i].row (by rw[ca];simp[K]) rfl;have bad:xM l[i] v[i]=false->r=false:=fun h=>by rw[g,h,FL]
  have sv:YY v[i]:=U _ (bw _);refine⟨B,a2,Z,_,sF 0 _ rfl,fun h1 m _=> ?_,fun h1=>⟨fun h2 m _=> ?_,fun h2=>⟨fun h3 m _=> ?_,fun h3 m x3=> ?_⟩⟩⟩
  ·have:=b m;rwa [bad (by simp[xM];intro k;omega)]at this
  ·have:=b m;rwa [bad (by simp[xM];intros;omega)]at this
  ·have:=b m;rwa [bad (by simp[xM];intros;omega)]at this
  have rH:=kE L x3;refine pm (lC _ _) ?_;rintro y w4 b4 rfl;have M:=kP rH b4;refine⟨_,rfl,fun C=> ?_,fun C=>pm (dW (hg.next M) v[i].num om) ?_⟩
  ·have:=b w4;rwa [bad (by
    have D:decide (0<=v[i].tick/\v[i].tick<=1073741824)=false:=C;unfold xM;rw[D];simp)]at this
  rintro y q b5 rfl;have sE:=kP M b5;refine⟨_,rfl,fun E=> ?_,fun E=> ?_⟩
  ·have:=b q;rwa [bad (by
    have D:vR v[i].num=false:=E;unfold xM;rw[D];simp)]at this
  have N:v[i].chan=l[i].id:=by
   apply bm;intro k;exact h1 k
  have O:decide (0<=v[i].tick/\v[i].tick<=1073741824)=true:=by simpa using C
  have P:vR v[i].num=true:=by simpa[vR]using E
  have Q:decide (0<=v[i].xL/\v[i].xL<=3)=true:=by simp;omega
  have e3:=sc i;have go:xM l[i] v[i]=true->F.dr.L4 A n c A1 n c1 n ((i:Int)+1) w0.heap.size q R:=fun h=>by
   rw[e3];exact ih (i+1) q om om sE (by rw[g,h,rr])
  refine⟨fun z=>⟨fun G=> ?_,fun G=>⟨fun H=> ?_,fun H=>⟨ir,go ?_⟩⟩⟩,fun z=>⟨ir,go ?_⟩⟩
  ·have:=b q;rwa [bad (by simp[xM];intros;exact⟨z,fun k=>absurd k G⟩)]at this
  ·have:=b q;rwa [bad (by simp[xM];intros;exact⟨z,fun _ k=>H k⟩)]at this
  ·have I:v[i].tick=0:=by apply bm;intro k;exact G k
   have J:v[i].num=⟨#[48]⟩:=by apply bm;intro k;exact H k
   unfold xM;rw[O,P,Q];simp[N,I,J]
  ·unfold xM;rw[O,P,Q];simp[N,z]

theorem Nx:∀(l:List Ch)(v:List Va),l.length≠v.length->rn l v=false:=by
 intro l;induction l with
 |nil=>intro v h;cases v with
  |nil=>simp at h
  |cons x s=>rfl
 |cons c r ih=>intro v h;cases v with
  |nil=>rfl
  |cons x s=>rw[rn,ih s (by simpa using h),Bool.and_false]
theorem Iv:∀{l:List Ch} {v:List Va},rn l v=true->l.length=v.length/\∀(i:Nat)(c:Ch)(x:Va),l[i]? =some c->v[i]? =some x->xM c x=true:=by
 intro l;induction l with
 |nil=>intro v h;cases v with
  |nil=>exact⟨rfl,fun i c x a=>by simp at a⟩
  |cons x s=>simp[rn]at h
 |cons c r ih=>intro v h;cases v with
  |nil=>simp[rn]at h
  |cons x s=>
   rw[rn,cy]at h;obtain⟨h1,b⟩:=ih h.2;refine⟨by simp[h1],fun i c' d a hx=> ?_⟩;cases i with
   |zero=>simp at a hx;subst a;subst hx;exact h.1
   |succ i=>exact b i c' d (by simpa using a) (by simpa using hx)

theorem dr{w:World}(hg:bj w){A A1:Option Addr}{n n1 c c1:Nat}{l:List Ch}{v:List Va}(hl:bR w A 7 (l.map Ch.row))(hlen:l.length=n)(a:bR w A1 4 (v.map Va.row))(b:v.length=n1)(hn:n<2147483648)(d:∀x∈v,YY x):
  Pure Tryz.prog 213 #[.slice A n c,.slice A1 n1 c1] w fun y _=>y= .bool (rn l v):=by
 refine F.dr.vc ⟨fun h=> ?_,fun h=> ?_⟩
 ·rw[Nx _ _ om]
 ·have e:n1=n:=om;subst e;exact Nw hg hl hlen a b hn d (fun _=>rfl) n1 0 w rfl om (Below.refl _ _) rfl

def vO(c:Ch)(a:Va)(x:Rat)(at_:Int):Int:=
 if x<qR c.low∨qR c.high<x then 2
 else if a.xL=1/\qR c.mw*((at_ - a.tick:Int):Rat)<BR (x - qR a.num)then 3
 else 1

theorem Uz{w:World}(hg:bj w){c:Ch}(b:Jr c)(v3:vR c.low=true)(v4:vR c.high=true){x:Rat}(hx:kA x){p2 p3:Nat}(d:w.heap[p2]? =some (.cells (c.row).toArray 141 (0,0)))(e:w.heap[p3]? =some (.cells [.string (rS x)].toArray 88 (0,0))):
  Pure Tryz.prog 258 #[.pointer (some ⟨p3,0,none⟩),.pointer (some ⟨p2,0,none⟩)] w fun v _=>v= .bool (decide (x<qR c.low∨qR c.high<x)):=by
 have g:=hO v3;have i:=hO v4;refine F.mg.vc ⟨_,bE e rfl,_,aZ d rfl,?_⟩;have m1:=eQ hg hx (b.low.wX v3);rw[<-g]at m1;refine pm m1 ?_;rintro v j a rfl;refine⟨_,rfl,fun h=> ?_,fun h=> ?_⟩
 ·rw[jn]at h;simp[h]
 ·rw[jn]at h;refine⟨_,bE (ag e a) rfl,_,aZ (ag d a) rfl,?_⟩;have m2:=eQ (hg.next a) hx (b.high.wX v4);rw[<-i]at m2;refine pm m2 ?_;rintro v k _ rfl;refine⟨_,rfl,?_⟩;have:gA x (qR c.high)>0↔qR c.high<x:=gx;simp[h,this]

theorem UA{w:World}(hg:bj w){c:Ch}(l:Jr c)(v5:vR c.mw=true){u:Va}(hu:YY u)(i:vR u.num=true)(J:0<=u.tick/\u.tick<=1073741824){x:Rat}(hx:Sm 10000 x){at_:Int}(K:0<=at_/\at_<=1073741824){p2 p3 m n:Nat}(q:w.heap[p2]? =some (.cells (c.row).toArray 141 (0,0)))(r:w.heap[p3]? =some (.cells [.string (rS x)].toArray 88 (0,0)))
  (y:w.heap[m]? =some (.cells [.int .i64 at_].toArray 3 (0,0))) (j:w.heap[n]? =some (.cells (u.row).toArray 94 (0,0))):
  Pure Tryz.prog 259 #[.pointer (some ⟨n,0,none⟩),.pointer (some ⟨p3,0,none⟩),.pointer (some ⟨p2,0,none⟩),.pointer (some ⟨m,0,none⟩)] w fun v _=>v= .bool (decide (u.xL=1/\qR c.mw*((at_ - u.tick:Int):Rat)<BR (x - qR u.num))):=by
 have z:=hO i;have A:=hO v5;refine F.mh.vc ⟨_,aZ j rfl,fun k=>⟨_,bE r rfl,_,aZ j rfl,_,aZ q rfl,_,bE y rfl,_,aZ j rfl,ir,fun w1 B=> ?_⟩,fun k w1 _=> ?_⟩
 ·have b:=k0 B;have su:=lx i hu;have m1:=mI (hg.next b) (hx.mono om) (hu.wX i);rw[<-z]at m1;refine pm m1 ?_;rintro v L C rfl;have d:=kP b C;have s2:Sm 20000 (x - qR u.num):=(hx.sub su).mono om;refine⟨_,rfl,pm (nN (hg.next d) (s2.mono om)) ?_⟩;rintro v M D rfl;have e:=kP d D;refine⟨_,rfl,pm (kv (hg.next e) om om) ?_⟩;rintro v N E rfl;have g:=kP e E;have o:Sm 10 ((at_ - u.tick:Int):Rat):=Sm.ofInt om om;have m2:=mH (hg.next g) (l.mw.wX v5) (o.mono om);rw[<-A]at m2;refine⟨_,rfl,pm m2 ?_⟩;rintro v O G rfl;have H:=kP g G;have I:Sm 2000 (qR c.mw*((at_ - u.tick:Int):Rat)):=((lx v5 l.mw).mul o).mono om;refine⟨_,rfl,pm (eQ (hg.next H) (s2.abs.mono om) (I.mono om)) ?_⟩;rintro v P _ rfl;refine⟨_,rfl,?_⟩;have:gA (BR (x - qR u.num)) (qR c.mw*((at_ - u.tick:Int):Rat))>0↔qR c.mw*((at_ - u.tick:Int):Rat)<BR (x - qR u.num):=gx;have a:u.xL=1:=k;refine bx Value.bool ?_;rw[nb,this];exact⟨fun h=>⟨a,h⟩,fun h=>h.2⟩
 ·have a:¬u.xL=1:=k;simp[a]

theorem QY:El Tryz.prog 318 316 2 16:=El.of kF
set_option maxRecDepth 4000 in
theorem cK{w:World}(hg:bj w){c:Ch}(D:Jr c)(hf:vR c.low=true/\vR c.high=true/\vR c.mw=true){u:Va}(hu:YY u)(E:vR u.num=true)(G:0<=u.tick/\u.tick<=1073741824){x:Rat}(hx:Sm 10000 x){at_:Int}(H:0<=at_/\at_<=1073741824):
  Pure Tryz.prog 218 #[c.val,u.val,.string (rS x),.int .i64 at_] w fun v _=>v= .int .i64 (vO c u x at_):=by
 obtain⟨v3,v4,v5⟩:=hf;refine F.cK.vc fun w1 I p2 S i p3 J K L M N O P Q=> ?_
 have k:=k0 I;refine bc QY [.agg #[.int .i64 2,.func (.func 258) #[] #[.pointer (some ⟨p3,0,none⟩),.pointer (some ⟨p2,0,none⟩)]],.agg #[.int .i64 3,.func (.func 259) #[] #[.pointer (some ⟨O,0,none⟩),.pointer (some ⟨p3,0,none⟩),.pointer (some ⟨p2,0,none⟩),.pointer (some ⟨L,0,none⟩)]]]
  (by simp[Value.cells]) sm k.size fun A2 c2 T ho l=> ?_
 have r:=kP k l;obtain⟨y,a,z,A⟩:=ho.sl.load (n:=2) rfl (j:=0) om om;obtain⟨b,_⟩:=A _ rfl rfl;refine F.cK.L3.step ⟨fun _=>⟨y,a,z,_,_,_,_,b,kF,fun U e=> ?_⟩,fun h=>by simp at h⟩;have m:=kE r e;have g2:=ext_nil e (ag i l);have g3:=ext_nil e (ag K l);have g4:=ext_nil e (ag N l);have g5:=ext_nil e (ag Q l);have B:=ho.kL e;refine pm (Uz (hg.next m) D v3 v4 (hx.mono om) g2 g3) ?_;rintro v V g rfl;have C:=kP m g;refine⟨_,rfl,fun h=> ?_,fun h=>⟨ir,?_⟩⟩
 ·have q:x<qR c.low∨qR c.high<x:=by simpa using h
  unfold vO;rw[bb q]
 have q:¬(x<qR c.low∨qR c.high<x):=by simpa using h
 obtain⟨y,a,z,A⟩:=(B.below g).sl.load (n:=2) rfl (j:=1) om om;obtain⟨b,_⟩:=A _ rfl rfl;refine F.cK.L3.step ⟨fun _=>⟨y,a,z,_,_,_,_,b,kF,fun W o=> ?_⟩,fun h=>by simp at h⟩;have R:=kE C o;refine pm (UA (hg.next R) D v5 hu E G hx H (ext_nil o (ag g2 g)) (ext_nil o (ag g3 g)) (ext_nil o (ag g4 g)) (ext_nil o (ag g5 g))) ?_;rintro v X Y rfl;refine⟨_,rfl,fun i=> ?_,fun i=>⟨ir,?_⟩⟩
 ·have d:u.xL=1/\qR c.mw*((at_ - u.tick:Int):Rat)<BR (x - qR u.num):=eR i;unfold vO;rw[aq q,bb d]
 ·have d:¬(u.xL=1/\qR c.mw*((at_ - u.tick:Int):Rat)<BR (x - qR u.num)):=iv i;refine F.cK.L3.step ⟨fun h=>by simp at h,fun _=> ?_⟩;unfold vO;rw[aq q,aq d]

def F4(p:Ch->Bool):Nat->List Ch->Int
 |_,[]=> -1
 |i,c::r=>if p c then(i:Int)else F4 p (i+1) r

theorem KM{w0:World}{A:Option Addr}{n c:Nat}{l:List Ch}(hl:bR w0 A 7 (l.map Ch.row))(hlen:l.length=n)(hn:n<2147483648){f:Nat}{a k:Array Value}(cA:ay Tryz.prog f=true){p:Ch->Bool}
  (hf:∀w,Below w0.heap.size w0 w->∀x:Ch,Pure Tryz.prog f (a.toList++([x.val]:List Value)++k.toList).toArray w fun v _=>v= .bool (p x)) {R:Value->World->Prop} {r:Int} (g:∀w,R (.int .i64 r) w):
  ∀(d i:Nat)(w:World),n - i=d->i<=n->Below w0.heap.size w0 w->r=F4 p i (l.drop i)->F.aF.L2 A n c f a k n i w0.heap.size w R:=by
 intro d;induction d with
 |zero=>
  intro i w q hi hw b;rw[cd om]at b;subst b;exact F.aF.L2.step ⟨fun h=>by omega,fun _=>g w⟩
 |succ d ih=>
  intro i w q hi hw b;have m:i<l.length:=om;rw[cz m,F4]at b;obtain⟨hb,y,z,B⟩:=(hl.au hw lf).load (n:=n) (by simpa using hlen) (j:=(i:Int)) om om;obtain⟨e,_⟩:=B l[i].row (by rw[ca];simp[m]) rfl;refine F.aF.L2.step ⟨fun _=> ?_,fun h=>by omega⟩;refine⟨hb,y,z,_,_,_,_,_,_,_,e,cA,pm (hf w hw l[i]) ?_⟩;rintro v o C rfl;refine⟨_,rfl,fun h=> ?_,fun h=>⟨ir,?_⟩⟩
  ·rw[bb h]at b;subst b;exact g o
  ·rw[aq (by simp[h])]at b;have D:=sc i;rw[D];exact ih (i+1) o om om (kP hw C) b
theorem KN{w:World}{A:Option Addr}{n c:Nat}{l:List Ch}(hl:bR w A 7 (l.map Ch.row))(hlen:l.length=n)(hn:n<2147483648){f:Nat}{a k:Array Value}(cA:ay Tryz.prog f=true){p:Ch->Bool}
  (hf:∀w',Below w.heap.size w w'->∀x:Ch,Pure Tryz.prog f (a.toList++([x.val]:List Value)++k.toList).toArray w' fun v _=>v= .bool (p x)):
  Pure Tryz.prog 214 #[.slice A n c,.func (.func f) a k] w fun v _=>v= .int .i64 (F4 p 0 l):=
 F.aF.vc (KM hl hlen hn cA hf (fun _=>rfl) n 0 w rfl om (Below.refl _ _) rfl)
theorem Eg(p:Ch->Bool):∀(l:List Ch)(k:Nat),(F4 p k l= -1/\∀c∈l,p c=false)∨∃(i:Nat)(c:Ch),F4 p k l=((k+i:Nat):Int)/\l[i]? =some c/\p c=true/\∀(j:Nat)(d:Ch),j<i->l[j]? =some d->p d=false:=by
 intro l;induction l with
 |nil=>intro k;exact .inl ⟨rfl,sm⟩
 |cons c r ih=>
  intro k;rw[F4];by_cases h:p c=true
  ·rw[bb h];exact .inr ⟨0,c,rfl,rfl,h,fun j d hj=>by omega⟩
  ·rw[aq h];rcases ih (k+1)with⟨h1,a⟩|⟨i,d,h1,a,b,g⟩
   ·exact .inl ⟨h1,fun x hx=>by
     rcases cc.1 hx with rfl|hx
     ·simpa using h
     ·exact a x hx⟩
   ·refine .inr ⟨i+1,d,by rw[h1];congr 1;omega,by simpa using a,b,fun j e hj he=> ?_⟩;cases j with
    |zero=>simp at he;subst he;simpa using h
    |succ j=>exact g j e om (by simpa using he)
end Go.Proofs.YtbcojgcjjpggnaaGreatDoor.B
