/- Part 8 of the proofs that: the steps between two stowages join them, and an order keeps the problem -/
import Derived.Test.YtgfkeadgjkfomaaGreatDoorK7
import Derived.Test.YtgfkeadgjkfomaaGreatDoorProg
set_option linter.unusedVariables false
set_option linter.unusedSimpArgs false
set_option maxRecDepth 100000
set_option maxHeartbeats 4000000
namespace Go.Proofs.YtgfkeadgjkfomaaGreatDoor.F
open Go Go.RowKit Go.Proofs Go.Proofs.YtgfkeadgjkfomaaGreatDoor.Vc
noncomputable def garboardref47_Copy.cx(w:World)(B:Nat)(R:Value->World->Prop):Cx:=⟨Tryz.prog,13,12,Tryz.f13.results.toList,[],[(1,0,7),(1,3,2),(1,4,7),(1,7,2),(1,9999,3)],w,B,R⟩
theorem garboardref47_Copy.vc(d:Option Addr)(e f:Nat)(a:Option Addr)(b c:Nat)(w:World)(R:Value->World->Prop)
  (h:(∀m,Ext w.heap.size [] w m->((∀s,Ext w.heap.size [] m s->(RunOk P (Instr.buildSlice 22 0 #[]) s.heap.size [25,25] s fun r4 g=>∃i j l,r4= .slice i j l/\((RunOk P (Builtin.append_ #[22,22] 22 #[.slice i j l,.slice d e f]) w.heap.size [25,25] g fun r7 n=>∃t u v,r7= .slice t u v/\((RunOk P (Instr.buildSlice 23 0 #[]) n.heap.size [25,25] n fun n1 n2=>∃M N O,n1= .slice M N O/\(RunOk P (Builtin.append_ #[23,23] 23 #[.slice M N O,.slice a b c]) w.heap.size [25,25] n2 fun n3 n4=>∃Q S T,n3= .slice Q S T/\(∀U,Ext w.heap.size [25] n4 U->(R (.agg #[.slice t u v,.slice Q S T]) U))))/\(RunOk P (Instr.buildSlice 23 0 #[]) n.heap.size [25,25] n fun n5 n6=>∃V X Y,n5= .slice V X Y/\(RunOk P (Builtin.append_ #[23,23] 23 #[.slice V X Y,.slice a b c]) w.heap.size [25,25] n6 fun n7 n8=>∃Z a0 a1,n7= .slice Z a0 a1/\(∀a2,Ext w.heap.size [25] n8 a2->(R (.agg #[.slice t u v,.slice Z a0 a1]) a2))))))/\((RunOk P (Instr.buildSlice 23 0 #[]) g.heap.size [25,25] g fun n9 a3=>∃x y z,n9= .slice x y z/\((RunOk P (Builtin.append_ #[22,22] 22 #[.slice i j l,.slice d e f]) w.heap.size [25,25] a3 fun o0 o1=>∃a4 a5 a6,o0= .slice a4 a5 a6/\(RunOk P (Builtin.append_ #[23,23] 23 #[.slice x y z,.slice a b c]) w.heap.size [25,25] o1 fun o2 o3=>∃a7 a8 a9,o2= .slice a7 a8 a9/\(∀b0,Ext w.heap.size [25] o3 b0->(R (.agg #[.slice a4 a5 a6,.slice a7 a8 a9]) b0))))/\(RunOk P (Builtin.append_ #[22,22] 22 #[.slice i j l,.slice d e f]) w.heap.size [25,25] a3 fun o4 o5=>∃b1 b2 b3,o4= .slice b1 b2 b3/\(RunOk P (Builtin.append_ #[23,23] 23 #[.slice x y z,.slice a b c]) w.heap.size [25,25] o5 fun o6 o7=>∃b4 b5 b6,o6= .slice b4 b5 b6/\(∀b7,Ext w.heap.size [25] o7 b7->(R (.agg #[.slice b1 b2 b3,.slice b4 b5 b6]) b7))))))/\((RunOk P (Builtin.append_ #[22,22] 22 #[.slice i j l,.slice d e f]) w.heap.size [25,25] g fun o8 b8=>∃b9 c0 c1,o8= .slice b9 c0 c1/\(RunOk P (Instr.buildSlice 23 0 #[]) b8.heap.size [25,25] b8 fun o9 p0=>∃c2 c3 c4,o9= .slice c2 c3 c4/\(RunOk P (Builtin.append_ #[23,23] 23 #[.slice c2 c3 c4,.slice a b c]) w.heap.size [25,25] p0 fun p1 p2=>∃c5 c6 c7,p1= .slice c5 c6 c7/\(∀c8,Ext w.heap.size [25] p2 c8->(R (.agg #[.slice b9 c0 c1,.slice c5 c6 c7]) c8)))))/\(RunOk P (Instr.buildSlice 23 0 #[]) g.heap.size [25,25] g fun p3 p4=>∃c9 d0 d1,p3= .slice c9 d0 d1/\(RunOk P (Builtin.append_ #[22,22] 22 #[.slice i j l,.slice d e f]) w.heap.size [25,25] p4 fun p5 p6=>∃d2 d3 d4,p5= .slice d2 d3 d4/\(RunOk P (Builtin.append_ #[23,23] 23 #[.slice c9 d0 d1,.slice a b c]) w.heap.size [25,25] p6 fun p7 p8=>∃d5 d6 d7,p7= .slice d5 d6 d7/\(∀d8,Ext w.heap.size [25] p8 d8->(R (.agg #[.slice d2 d3 d4,.slice d5 d6 d7]) d8))))))))))/\((∀A,Ext w.heap.size [] m A->(RunOk P (Instr.buildSlice 23 0 #[]) A.heap.size [25,25] A fun p9 o=>∃p q r,p9= .slice p q r/\((RunOk P (Instr.buildSlice 22 0 #[]) o.heap.size [25,25] o fun q0 d9=>∃C D E,q0= .slice C D E/\((RunOk P (Builtin.append_ #[22,22] 22 #[.slice C D E,.slice d e f]) w.heap.size [25,25] d9 fun q1 q2=>∃e0 e1 e2,q1= .slice e0 e1 e2/\(RunOk P (Builtin.append_ #[23,23] 23 #[.slice p q r,.slice a b c]) w.heap.size [25,25] q2 fun q3 q4=>∃e3 e4 e5,q3= .slice e3 e4 e5/\(∀e6,Ext w.heap.size [25] q4 e6->(R (.agg #[.slice e0 e1 e2,.slice e3 e4 e5]) e6))))/\(RunOk P (Builtin.append_ #[22,22] 22 #[.slice C D E,.slice d e f]) w.heap.size [25,25] d9 fun q5 q6=>∃e7 e8 e9,q5= .slice e7 e8 e9/\(RunOk P (Builtin.append_ #[23,23] 23 #[.slice p q r,.slice a b c]) w.heap.size [25,25] q6 fun q7 q8=>∃f0 f1 f2,q7= .slice f0 f1 f2/\(∀f3,Ext w.heap.size [25] q8 f3->(R (.agg #[.slice e7 e8 e9,.slice f0 f1 f2]) f3))))))/\(RunOk P (Instr.buildSlice 22 0 #[]) o.heap.size [25,25] o fun q9 r0=>∃f4 f5 f6,q9= .slice f4 f5 f6/\(RunOk P (Builtin.append_ #[22,22] 22 #[.slice f4 f5 f6,.slice d e f]) w.heap.size [25,25] r0 fun r1 r2=>∃f7 f8 f9,r1= .slice f7 f8 f9/\(RunOk P (Builtin.append_ #[23,23] 23 #[.slice p q r,.slice a b c]) w.heap.size [25,25] r2 fun r3 r4=>∃g0 g1 g2,r3= .slice g0 g1 g2/\(∀g3,Ext w.heap.size [25] r4 g3->(R (.agg #[.slice f7 f8 f9,.slice g0 g1 g2]) g3))))))))/\((∀G,Ext w.heap.size [] m G->(RunOk P (Instr.buildSlice 22 0 #[]) G.heap.size [25,25] G fun r5 H=>∃I J K,r5= .slice I J K/\((RunOk P (Builtin.append_ #[22,22] 22 #[.slice I J K,.slice d e f]) w.heap.size [25,25] H fun r6 g4=>∃g5 g6 g7,r6= .slice g5 g6 g7/\(RunOk P (Instr.buildSlice 23 0 #[]) g4.heap.size [25,25] g4 fun r7 r8=>∃g8 g9 j0,r7= .slice g8 g9 j0/\(RunOk P (Builtin.append_ #[23,23] 23 #[.slice g8 g9 j0,.slice a b c]) w.heap.size [25,25] r8 fun r9 s0=>∃j1 j2 j3,r9= .slice j1 j2 j3/\(∀j4,Ext w.heap.size [25] s0 j4->(R (.agg #[.slice g5 g6 g7,.slice j1 j2 j3]) j4)))))/\(RunOk P (Instr.buildSlice 23 0 #[]) H.heap.size [25,25] H fun s1 s2=>∃j5 j6 j7,s1= .slice j5 j6 j7/\(RunOk P (Builtin.append_ #[22,22] 22 #[.slice I J K,.slice d e f]) w.heap.size [25,25] s2 fun s3 s4=>∃j8 j9 l0,s3= .slice j8 j9 l0/\(RunOk P (Builtin.append_ #[23,23] 23 #[.slice j5 j6 j7,.slice a b c]) w.heap.size [25,25] s4 fun s5 s6=>∃l1 l2 l3,s5= .slice l1 l2 l3/\(∀l4,Ext w.heap.size [25] s6 l4->(R (.agg #[.slice j8 j9 l0,.slice l1 l2 l3]) l4))))))))/\(∀L,Ext w.heap.size [] m L->(RunOk P (Instr.buildSlice 23 0 #[]) L.heap.size [25,25] L fun s7 l5=>∃l6 l7 l8,s7= .slice l6 l7 l8/\(RunOk P (Instr.buildSlice 22 0 #[]) l5.heap.size [25,25] l5 fun s8 s9=>∃l9 m0 m1,s8= .slice l9 m0 m1/\(RunOk P (Builtin.append_ #[22,22] 22 #[.slice l9 m0 m1,.slice d e f]) w.heap.size [25,25] s9 fun t0 t1=>∃m2 m3 m4,t0= .slice m2 m3 m4/\(RunOk P (Builtin.append_ #[23,23] 23 #[.slice l6 l7 l8,.slice a b c]) w.heap.size [25,25] t1 fun t2 t3=>∃m5 m6 m7,t2= .slice m5 m6 m7/\(∀m8,Ext w.heap.size [25] t3 m8->(R (.agg #[.slice m2 m3 m4,.slice m5 m6 m7]) m8)))))))))))):
  Pure P 13 #[.agg #[.slice d e f,.slice a b c]] w R:=
 pure_of_run (garboardref47_Copy.cx w w.heap.size R) 100000 follows Tryz.func13 rfl rfl rfl rfl rfl rfl rfl (Eq.mp (by kernel_rfl) h)

def garboardref47_Few.L2(a:Int)(b:Option Addr)(c d:Nat)(e:Option Addr)(f g B:Nat)(w:World)(R:Value->World->Prop):Prop:=At Tryz.prog 36 100 (loopAt Tryz.f36 2) [(1,.loc 1 0),(3,.v (.int .i64 a))] [⟨1,false,25,[(.slice b c d),(.slice e f g)]⟩] B w R
def garboardref47_Few.L8(a:Int)(b:Option Addr)(c d:Nat)(e:Option Addr)(f g B:Nat)(w:World)(R:Value->World->Prop):Prop:=At Tryz.prog 36 100 (loopAt Tryz.f36 8) [(1,.loc 1 0),(5,.v (.int .i64 a))] [⟨1,false,25,[(.slice b c d),(.slice e f g)]⟩] B w R
noncomputable def garboardref47_Few.cx(w:World)(B:Nat)(R:Value->World->Prop):Cx:=⟨Tryz.prog,36,100,Tryz.f36.results.toList,[((true,2),[1,3],[1]),((true,8),[1,5],[1])],[],w,B,R⟩
theorem garboardref47_Few.L2.step(a:Int)(c:Option Addr)(b d:Nat)(e:Option Addr)(f g B:Nat)(w:World)(R:Value->World->Prop)
  (h:(((a<(b:Int))->((0<=a/\a<b)/\∃n,c=some n/\(∃t u v i j l m,CellsAt w (n.add ((a).toNat*7)) [.int .i64 t,.int .i64 u,.int .i64 v,.string i,.string j,.string l,.string m]/\(((((ByteArray.size j:Int):Int)>40)->(∀o,Ext B [] w o->(R (.bool false) o)))/\(¬(((ByteArray.size j:Int):Int)>40)->(((((ByteArray.size l:Int):Int)>40)->(∀p,Ext B [] w p->(R (.bool false) p)))/\(¬(((ByteArray.size l:Int):Int)>40)->(((((ByteArray.size m:Int):Int)>40)->(∀q,Ext B [] w q->(R (.bool false) q)))/\(¬(((ByteArray.size m:Int):Int)>40)->(((((ByteArray.size i:Int):Int)>70)->(∀r,Ext B [] w r->(R (.bool false) r)))/\(¬(((ByteArray.size i:Int):Int)>70)->(inR .i64 (a+1)/\(∀s,Ext B [] w s->(garboardref47_Few.L2 (a+1) c b d e f g B s R))))))))))))))/\(¬(a<(b:Int))->(garboardref47_Few.L8 (0:Int) c b d e f g B w R)))):
  garboardref47_Few.L2 a c b d e f g B w R:=
 loop_of_run (garboardref47_Few.cx w B R) 100000 (loopAt Tryz.f36 2) _ _ follows Tryz.func36 rfl rfl rfl (Eq.mp (by kernel_rfl) h)
theorem garboardref47_Few.L8.step(a:Int)(m:Option Addr)(c n:Nat)(d:Option Addr)(b o B:Nat)(w:World)(R:Value->World->Prop)
  (h:(((a<(b:Int))->((0<=a/\a<b)/\∃p,d=some p/\(∃y e f g i j l,CellsAt w (p.add ((a).toNat*7)) [.int .i64 y,.string e,.string f,.string g,.string i,.string j,.string l]/\(((((ByteArray.size f:Int):Int)>40)->(∀q,Ext B [] w q->(R (.bool false) q)))/\(¬(((ByteArray.size f:Int):Int)>40)->(((((ByteArray.size g:Int):Int)>40)->(∀r,Ext B [] w r->(R (.bool false) r)))/\(¬(((ByteArray.size g:Int):Int)>40)->(((((ByteArray.size i:Int):Int)>40)->(∀s,Ext B [] w s->(R (.bool false) s)))/\(¬(((ByteArray.size i:Int):Int)>40)->(((((ByteArray.size j:Int):Int)>40)->(∀t,Ext B [] w t->(R (.bool false) t)))/\(¬(((ByteArray.size j:Int):Int)>40)->(((((ByteArray.size l:Int):Int)>40)->(∀u,Ext B [] w u->(R (.bool false) u)))/\(¬(((ByteArray.size l:Int):Int)>40)->(((((ByteArray.size e:Int):Int)>70)->(∀v,Ext B [] w v->(R (.bool false) v)))/\(¬(((ByteArray.size e:Int):Int)>70)->(inR .i64 (a+1)/\(∀x,Ext B [] w x->(garboardref47_Few.L8 (a+1) m c n d b o B x R))))))))))))))))))/\(¬(a<(b:Int))->((((c:Int)<=(7:Int))->(R (.bool (decide ((b:Int)<=(7:Int)))) w))/\(¬((c:Int)<=(7:Int))->(R (.bool false) w)))))):
  garboardref47_Few.L8 a m c n d b o B w R:=
 loop_of_run (garboardref47_Few.cx w B R) 100000 (loopAt Tryz.f36 8) _ _ follows Tryz.func36 rfl rfl rfl (Eq.mp (by kernel_rfl) h)
theorem garboardref47_Few.vc(a:Option Addr)(b c:Nat)(d:Option Addr)(e f:Nat)(w:World)(R:Value->World->Prop)
  (h:(∀g,Ext w.heap.size [] w g->(garboardref47_Few.L2 (0:Int) a b c d e f w.heap.size g R))):
  Pure P 36 #[.agg #[.slice a b c,.slice d e f]] w R:=
 pure_of_run (garboardref47_Few.cx w w.heap.size R) 100000 follows Tryz.func36 rfl rfl rfl rfl rfl rfl rfl (Eq.mp (by kernel_rfl) h)

end Go.Proofs.YtgfkeadgjkfomaaGreatDoor.F

namespace Go.Proofs.YtgfkeadgjkfomaaGreatDoor.B
open Go Go.RowKit Go.Proofs Go.Proofs.YtgfkeadgjkfomaaGreatDoor.Vc

theorem OwnU.ext{w w2:World}{B:Nat}{A:Option Addr}{n c:Nat}{ws:List Nat}(h:OwnU w B A n c ws)(e:Ext B [] w w2):OwnU w2 B A n c ws:=
 h.other fun b hb=>by
  rcases e.other b (h.blk b hb).2 with h1|⟨t,ht,_⟩
  ·exact h1
  ·cases ht

section
variable {w0:World} {A1 A0:Option Addr} {n1 c1 n0 c0:Nat} {a b:List Nat} {R:Value->World->Prop}

end

theorem IsN.nil(w:World):IsN w none 0 0 0:=⟨[],.inl rfl,rfl,by omega,by omega,Small.nil,by simp[Norm],rfl⟩
theorem OwnN.nil(w:World)(B:Nat):OwnN w B none 0 0 0:=⟨[],World.ownsRow_nil w _ _ _,Small.nil,by simp[Norm],rfl⟩
theorem IsN.zero{w:World}{A:Option Addr}{n c x:Nat}(h:IsN w A n c x)(hn:n=0):x=0:=by
 have:=h.pos_len
 apply Decidable.byContradiction
 intro k
 have:=this.2 k
 omega

theorem IsN.one{w:World}{A:Option Addr}{n c x:Nat}(h:IsN w A n c x)(h0:0<x)(hx:x<1000000000):n=1/\SlU w A [x]:=by
 obtain⟨ws,h1,h2,h3,h4,h5,h6,rfl⟩:=h
 have hne:ws≠[]:=fun e=>by subst e;simp[wv]at h0
 have hp:=wv_pos h6 hne
 have hl:ws.length=1:=by
  have:=List.length_pos_iff.2 hne
  apply Decidable.byContradiction
  intro k
  have:1000000000^1<=1000000000^(ws.length - 1):=Nat.pow_le_pow_right (by omega) (by omega)
  omega
 obtain⟨z,rfl⟩:=List.length_eq_one_iff.1 hl
 refine⟨by simpa using h2.symm,?_⟩
 have e:wv [z]=z:=by simp[wv]
 rw[e]
 exact h1

section
variable {w1:World} {B:Nat} {Af Au Av Aq:Option Addr} {nf cf nu cu nv cv nq cq:Nat} {vs:List Nat} {R:Value->World->Prop}

end

theorem IsN.len_le{w:World}{A:Option Addr}{n c z k:Nat}(h:IsN w A n c z)(hz:z<1000000000^k):n<=k:=by
 obtain⟨ws,_,hl,_,_,_,hn,rfl⟩:=h
 by_cases h0:ws=[]
 ·subst h0;simp at hl;omega
 ·have h1:=wv_pos hn h0
  have:=(Nat.pow_lt_pow_iff_right (a:=1000000000) (by omega)).1 (Nat.lt_of_le_of_lt h1 hz)
  omega
theorem OwnU.some{w:World}{B:Nat}{A:Option Addr}{n c:Nat}{ws:List Nat}(h:OwnU w B A n c ws)(h0:n≠0):A≠none:=by
 rintro rfl
 rcases h.2 with⟨e,_⟩|⟨g,cap,cur,e,_⟩
 ·cases e;exact h0 rfl
 ·cases e

def IsZ(w:World)(b:Bool)(A:Option Addr)(n c:Nat)(z:Int):Prop:=b=decide (z<0)/\IsN w A n c z.natAbs
theorem IsZ.below{w w':World}{b:Bool}{A:Option Addr}{n c:Nat}{z:Int}(h:IsZ w b A n c z)(hb:Below w.heap.size w w'):IsZ w' b A n c z:=⟨h.1,h.2.below hb⟩
theorem IsZ.ext{w w':World}{B:Nat}{ts:List Nat}{b:Bool}{A:Option Addr}{n c:Nat}{z:Int}(h:IsZ w b A n c z)(e:Ext B ts w w')(ht:217∉ts):IsZ w' b A n c z:=⟨h.1,h.2.ext e ht⟩
def sgn(z:Int):Int:=if z<0 then -1 else if 0<z then 1 else 0

def IsQ(w:World)(b:Bool)(A:Option Addr)(n c:Nat)(A':Option Addr)(n' c':Nat)(r:Rat):Prop:=IsZ w b A n c r.num/\IsN w A' n' c' r.den
theorem IsQ.below{w w':World}{b:Bool}{A A':Option Addr}{n c n' c':Nat}{r:Rat}(h:IsQ w b A n c A' n' c' r)(hb:Below w.heap.size w w'):IsQ w' b A n c A' n' c' r:=⟨h.1.below hb,h.2.below hb⟩
theorem IsQ.ext{w w':World}{B:Nat}{ts:List Nat}{b:Bool}{A A':Option Addr}{n c n' c':Nat}{r:Rat}(h:IsQ w b A n c A' n' c' r)(e:Ext B ts w w')(ht:217∉ts):IsQ w' b A n c A' n' c' r:=⟨h.1.ext e ht,h.2.ext e ht⟩
abbrev QR(r:Rat)(v:Value)(w:World):Prop:=∃b A n c A' n' c',v= .agg #[.bool b,.slice A n c,.slice A' n' c']/\IsQ w b A n c A' n' c' r

def fewP(p:Pa):Bool:=decide (p.mass.size<=40/\p.vol.size<=40/\p.worth.size<=40/\p.name.size<=70)
def fewH(h:Ho):Bool:=decide (h.room.size<=40/\h.most.size<=40/\h.x.size<=40/\h.y.size<=40/\h.z.size<=40/\h.name.size<=70)
def fewC(ps:List Pa)(hs:List Ho):Bool:=ps.all fewP&&hs.all fewH&&decide (ps.length<=7/\hs.length<=7)
structure CgRaw (w:World) (A0:Option Addr) (n0:Nat) (A1:Option Addr) (n1:Nat) (ps:List Pa) (hs:List Ho):Prop where
 p:SlR w A0 7 (ps.map Pa.row)
 h:SlR w A1 7 (hs.map Ho.row)
 lp:ps.length=n0
 lh:hs.length=n1
 np:n0<9223372036854775808
 nh:n1<9223372036854775808
theorem CgRaw.keep{w w':World}{A0 A1:Option Addr}{n0 n1:Nat}{ps:List Pa}{hs:List Ho}(h:CgRaw w A0 n0 A1 n1 ps hs)(hb:Below w.heap.size w w'):CgRaw w' A0 n0 A1 n1 ps hs:=
 ⟨h.p.keep hb (Nat.le_refl _),h.h.keep hb (Nat.le_refl _),h.lp,h.lh,h.np,h.nh⟩
theorem CgRaw.few{w:World}{A0 A1:Option Addr}{n0 n1:Nat}{ps:List Pa}{hs:List Ho}(h:CgRaw w A0 n0 A1 n1 ps hs)(hf:fewC ps hs=true):CgIn w A0 n0 A1 n1 ps hs:=by
 unfold fewC at hf
 rw[Bool.and_eq_true,Bool.and_eq_true]at hf
 obtain⟨⟨h1,h2⟩,h3⟩:=hf
 have h3:=of_decide_eq_true h3
 refine⟨h.p,h.h,h.lp,h.lh,fun p hp=> ?_,fun x hx=> ?_,by have:=h.lp;omega,by have:=h.lh;omega⟩
 ·have:=of_decide_eq_true (List.all_eq_true.1 h1 p hp)
  exact⟨by unfold SmS;omega,by unfold SmS;omega,by unfold SmS;omega,by omega⟩
 ·have:=of_decide_eq_true (List.all_eq_true.1 h2 x hx)
  exact⟨by unfold SmS;omega,by unfold SmS;omega,by unfold SmS;omega,by unfold SmS;omega,by unfold SmS;omega,by omega⟩
theorem all_false{α:Type}{p:α->Bool}{l:List α}{x:α}(hx:x∈l)(h:p x=false):l.all p=false:=by
 rw[Bool.eq_false_iff]
 intro k
 rw[List.all_eq_true.1 k x hx]at h
 cases h
theorem take_all{α:Type}{p:α->Prop}{l:List α}{i:Nat}(hi:i<l.length)(h:∀x∈l.take i,p x)(hx:p l[i]):∀x∈l.take (i+1),p x:=by
 intro x hm
 rw[List.take_add_one,List.getElem?_eq_getElem hi]at hm
 rcases List.mem_append.1 hm with h'|h'
 ·exact h x h'
 ·simp only[Option.toList_some,List.mem_singleton]at h'
  subst h'
  exact hx
theorem few_L8{w0:World}{A0 A1:Option Addr}{n0 c0 n1 c1:Nat}{ps:List Pa}{hs:List Ho}(hc:CgRaw w0 A0 n0 A1 n1 ps hs)(hp:ps.all fewP=true){R:Value->World->Prop}(hR:∀w,R (.bool (fewC ps hs)) w):
  ∀(d i:Nat)(w:World),n1 - i=d->i<=n1->Below w0.heap.size w0 w->(∀x∈hs.take i,fewH x=true)->F.garboardref47_Few.L8 i A0 n0 c0 A1 n1 c1 w0.heap.size w R:=by
 have hlp:=hc.lp
 have hlh:=hc.lh
 have hnh:=hc.nh
 intro d
 induction d with
 |zero=>
  intro i w hd hi hw hx
  rw[List.take_of_length_le (by omega)]at hx
  have hh:hs.all fewH=true:=List.all_eq_true.2 hx
  refine F.garboardref47_Few.L8.step _ _ _ _ _ _ _ _ _ _ ⟨fun h=>by omega,fun _=>⟨fun h=> ?_,fun h=> ?_⟩⟩
  ·have:=hR w
   unfold fewC at this
   rw[hp,hh,Bool.true_and,Bool.true_and]at this
   have e:decide (((n1:Nat):Int)<=7)=decide (ps.length<=7/\hs.length<=7):=by rw[decide_eq_decide];omega
   rw[e]
   exact this
  ·have:=hR w
   unfold fewC at this
   rw[hp,hh,Bool.true_and,Bool.true_and,decide_eq_false (by omega)]at this
   exact this
 |succ d ih=>
  intro i w hd hi hw hx
  have hil:i<hs.length:=by omega
  have e3:(i:Int)+1=((i+1:Nat):Int):=by omega
  obtain⟨hb,a,hA,hcell,_⟩:=(hc.h.keep hw (Nat.le_refl _)).at_ (fun _=>rfl) hc.lh hil
  have bad:fewH hs[i]=false->∀w,R (.bool false) w:=fun h w=>by
   have:=hR w
   unfold fewC at this
   rwa [all_false (List.getElem_mem hil) h,Bool.and_false,Bool.false_and]at this
  refine F.garboardref47_Few.L8.step _ _ _ _ _ _ _ _ _ _ ⟨fun _=>⟨hb,a,hA,_,_,_,_,_,_,_,hcell,fun h w2 _=>bad (decide_eq_false (by omega)) w2,fun h1=>⟨fun h w2 _=>bad (decide_eq_false (by omega)) w2,fun h2=>⟨fun h w2 _=>bad (decide_eq_false (by omega)) w2,fun h3=>⟨fun h w2 _=>bad (decide_eq_false (by omega)) w2,fun h4=>⟨fun h w2 _=>bad (decide_eq_false (by omega)) w2,fun h5=>⟨fun h w2 _=>bad (decide_eq_false (by omega)) w2,fun h6=>⟨by simp only[inR];omega,fun w2 x2=> ?_⟩⟩⟩⟩⟩⟩⟩,fun h=>by omega⟩
  rw[e3]
  exact ih (i+1) w2 (by omega) (by omega) (kE hw x2) (take_all hil hx (decide_eq_true (by omega)))
theorem few_L2{w0:World}{A0 A1:Option Addr}{n0 c0 n1 c1:Nat}{ps:List Pa}{hs:List Ho}(hc:CgRaw w0 A0 n0 A1 n1 ps hs){R:Value->World->Prop}(hR:∀w,R (.bool (fewC ps hs)) w):
  ∀(d i:Nat)(w:World),n0 - i=d->i<=n0->Below w0.heap.size w0 w->(∀x∈ps.take i,fewP x=true)->F.garboardref47_Few.L2 i A0 n0 c0 A1 n1 c1 w0.heap.size w R:=by
 have hlp:=hc.lp
 have hlh:=hc.lh
 have hnp:=hc.np
 intro d
 induction d with
 |zero=>
  intro i w hd hi hw hx
  rw[List.take_of_length_le (by omega)]at hx
  exact F.garboardref47_Few.L2.step _ _ _ _ _ _ _ _ _ _ ⟨fun h=>by omega,fun _=>few_L8 hc (List.all_eq_true.2 hx) hR n1 0 w rfl (by omega) hw (by simp)⟩
 |succ d ih=>
  intro i w hd hi hw hx
  have hil:i<ps.length:=by omega
  have e3:(i:Int)+1=((i+1:Nat):Int):=by omega
  obtain⟨hb,a,hA,hcell,_⟩:=(hc.p.keep hw (Nat.le_refl _)).at_ (fun _=>rfl) hc.lp hil
  have bad:fewP ps[i]=false->∀w,R (.bool false) w:=fun h w=>by
   have:=hR w
   unfold fewC at this
   rwa [all_false (List.getElem_mem hil) h,Bool.false_and,Bool.false_and]at this
  refine F.garboardref47_Few.L2.step _ _ _ _ _ _ _ _ _ _ ⟨fun _=>⟨hb,a,hA,_,_,_,_,_,_,_,hcell,fun h w2 _=>bad (decide_eq_false (by omega)) w2,fun h1=>⟨fun h w2 _=>bad (decide_eq_false (by omega)) w2,fun h2=>⟨fun h w2 _=>bad (decide_eq_false (by omega)) w2,fun h3=>⟨fun h w2 _=>bad (decide_eq_false (by omega)) w2,fun h4=>⟨by simp only[inR];omega,fun w2 x2=> ?_⟩⟩⟩⟩⟩,fun h=>by omega⟩
  rw[e3]
  exact ih (i+1) w2 (by omega) (by omega) (kE hw x2) (take_all hil hx (decide_eq_true (by omega)))
theorem r47_Few{w:World}{A0 A1:Option Addr}{n0 c0 n1 c1:Nat}{ps:List Pa}{hs:List Ho}(hc:CgRaw w A0 n0 A1 n1 ps hs):
  Pure Tryz.prog 36 #[.agg #[.slice A0 n0 c0,.slice A1 n1 c1]] w fun v _=>v= .bool (fewC ps hs):=
 F.garboardref47_Few.vc _ _ _ _ _ _ _ _ fun w1 x1=>few_L2 hc (fun _=>rfl) n0 0 w1 rfl (by omega) (k0 x1) (by simp)

theorem el_Pas:El Tryz.prog 22 65 7 88:=El.of (by kernel_rfl)
theorem el_Hos:El Tryz.prog 23 61 7 104:=El.of (by kernel_rfl)
theorem rowP_len{v:List Pa}:∀r∈v.map Pa.row,r.length=7:=by
 intro r hr;obtain⟨x,_,rfl⟩:=List.mem_map.1 hr;rfl
theorem rowP_cell{v:List Pa}:∀r∈v.map Pa.row,∀u∈r,isCell u=true:=by
 intro r hr u hu
 obtain⟨x,_,rfl⟩:=List.mem_map.1 hr
 simp only[Pa.row,List.mem_cons,List.not_mem_nil,or_false]at hu
 rcases hu with rfl|rfl|rfl|rfl|rfl|rfl|rfl<;>rfl
theorem rowH_len{v:List Ho}:∀r∈v.map Ho.row,r.length=7:=by
 intro r hr;obtain⟨x,_,rfl⟩:=List.mem_map.1 hr;rfl
theorem rowH_cell{v:List Ho}:∀r∈v.map Ho.row,∀u∈r,isCell u=true:=by
 intro r hr u hu
 obtain⟨x,_,rfl⟩:=List.mem_map.1 hr
 simp only[Ho.row,List.mem_cons,List.not_mem_nil,or_false]at hu
 rcases hu with rfl|rfl|rfl|rfl|rfl|rfl|rfl<;>rfl
theorem rowS_len{v:List Sw}:∀r∈v.map Sw.row,r.length=3:=by
 intro r hr;obtain⟨x,_,rfl⟩:=List.mem_map.1 hr;rfl
theorem rowS_cell{v:List Sw}:∀r∈v.map Sw.row,∀u∈r,isCell u=true:=by
 intro r hr u hu
 obtain⟨x,_,rfl⟩:=List.mem_map.1 hr
 simp only[Sw.row,List.mem_cons,List.not_mem_nil,or_false]at hu
 rcases hu with rfl|rfl|rfl<;>rfl

structure CpS (w0:World) (A0:Option Addr) (n0:Nat) (A1:Option Addr) (n1:Nat) (ps:List Pa) (hs:List Ho) (p h:Option (Option Addr×Nat×Nat)) (fp fh:Bool) (w:World):Prop where
 cg:CgIn w A0 n0 A1 n1 ps hs
 b:Below w0.heap.size w0 w
 p:∀x,p=some x->OwnR w w0.heap.size 65 x.1 x.2.1 x.2.2 7 (if fp then ps.map Pa.row else[])
 h:∀x,h=some x->OwnR w w0.heap.size 61 x.1 x.2.1 x.2.2 7 (if fh then hs.map Ho.row else[])
section
variable {w0:World} {A0 A1:Option Addr} {n0 c0 n1 c1:Nat} {ps:List Pa} {hs:List Ho} {p h:Option (Option Addr×Nat×Nat)} {fp fh:Bool} {w:World}
theorem CpS.next{w':World}(k:CpS w0 A0 n0 A1 n1 ps hs p h fp fh w)(hb:Below w.heap.size w w'):CpS w0 A0 n0 A1 n1 ps hs p h fp fh w':=
 ⟨k.cg.keep hb,kP k.b hb,fun x hx=>(k.p x hx).below hb,fun x hx=>(k.h x hx).below hb⟩
theorem CpS.ext{ts:List Nat}{G:World->Prop}(k:CpS w0 A0 n0 A1 n1 ps hs p h fp fh w)(hts:ts=[])(hG:∀w',CpS w0 A0 n0 A1 n1 ps hs p h fp fh w'->G w'):∀w',Ext w0.heap.size ts w w'->G w':=by
 intro w' x
 subst hts
 exact hG w' (k.next (ext_low x))
theorem CpS.bp{tys:List Nat}{K:Option Addr->Nat->Nat->World->Prop}(k:CpS w0 A0 n0 A1 n1 ps hs none h fp fh w)(hK:∀A c w',CpS w0 A0 n0 A1 n1 ps hs (some (A,0,c)) h false fh w'->K A 0 c w'):
  RunOk Tryz.prog (Instr.buildSlice 22 0 #[]) w.heap.size tys w fun r w1=>∃A n c,r= .slice A n c/\K A n c w1:=
 runOk_lit el_Pas [] (by simp) (by simp) (Nat.le_refl _) fun A c w' ho hb=>hK A c w' ⟨k.cg.keep hb,kP k.b hb,fun x hx=>(by cases hx;exact ho.base k.b.size),fun x hx=>(k.h x hx).below hb⟩
theorem CpS.bh{tys:List Nat}{K:Option Addr->Nat->Nat->World->Prop}(k:CpS w0 A0 n0 A1 n1 ps hs p none fp fh w)(hK:∀A c w',CpS w0 A0 n0 A1 n1 ps hs p (some (A,0,c)) fp false w'->K A 0 c w'):
  RunOk Tryz.prog (Instr.buildSlice 23 0 #[]) w.heap.size tys w fun r w1=>∃A n c,r= .slice A n c/\K A n c w1:=
 runOk_lit el_Hos [] (by simp) (by simp) (Nat.le_refl _) fun A c w' ho hb=>hK A c w' ⟨k.cg.keep hb,kP k.b hb,fun x hx=>(k.p x hx).below hb,fun x hx=>(by cases hx;exact ho.base k.b.size)⟩
theorem CpS.ap{tys:List Nat}{ty:Nat}{A:Option Addr}{n c:Nat}{K:Option Addr->Nat->Nat->World->Prop}(hc0:CgIn w0 A0 n0 A1 n1 ps hs)(hz:A0=none->c0=0)(ht:65∉tys)(k:CpS w0 A0 n0 A1 n1 ps hs (some (A,n,c)) h false fh w)(hK:∀A' n' c' w',CpS w0 A0 n0 A1 n1 ps hs (some (A',n',c')) h true fh w'->K A' n' c' w'):
  RunOk Tryz.prog (Builtin.append_ #[22,22] ty #[.slice A n c,.slice A0 n0 c0]) w0.heap.size tys w fun r w1=>∃A n c,r= .slice A n c/\K A n c w1:=by
 have hl:=k.cg.lp
 have hnp:=k.cg.np
 have ho:OwnR w w0.heap.size 65 A n c 7 []:=by simpa using k.p _ rfl
 have hn:n=0:=by have:=ho.len;simpa using this.symm
 subst hn
 refine app_part el_Pas (Nat.le_refl _) ho k.cg.p (by simpa using hl) rowP_len rowP_cell hz k.b.size (by omega) ht fun A' c' w' o hg hb=>hK _ _ _ _ ⟨hc0.keep (k.b.trans hb),k.b.trans hb,fun x hx=> ?_,fun x hx=> ?_⟩
 ·cases hx
  simpa using o
 ·refine(k.h x hx).other fun a ha=> ?_
  obtain⟨cs,hcs⟩:=(k.h x hx).cells a ha
  refine hg.block _ ((k.h x hx).blk a ha).2 fun e=> ?_
  cases A with
  |none=>simp[Value.ownBlock]at e
  |some a2=>
   simp[Value.ownBlock]at e
   obtain⟨cs2,hcs2⟩:=ho.cells a2 rfl
   exact two_types hcs hcs2 (by decide) (by first|exact e|exact e.symm)
theorem CpS.ah{tys:List Nat}{ty:Nat}{A:Option Addr}{n c:Nat}{K:Option Addr->Nat->Nat->World->Prop}(hc0:CgIn w0 A0 n0 A1 n1 ps hs)(hz:A1=none->c1=0)(ht:61∉tys)(k:CpS w0 A0 n0 A1 n1 ps hs p (some (A,n,c)) fp false w)(hK:∀A' n' c' w',CpS w0 A0 n0 A1 n1 ps hs p (some (A',n',c')) fp true w'->K A' n' c' w'):
  RunOk Tryz.prog (Builtin.append_ #[23,23] ty #[.slice A n c,.slice A1 n1 c1]) w0.heap.size tys w fun r w1=>∃A n c,r= .slice A n c/\K A n c w1:=by
 have hl:=k.cg.lh
 have hnp:=k.cg.nh
 have ho:OwnR w w0.heap.size 61 A n c 7 []:=by simpa using k.h _ rfl
 have hn:n=0:=by have:=ho.len;simpa using this.symm
 subst hn
 refine app_part el_Hos (Nat.le_refl _) ho k.cg.h (by simpa using hl) rowH_len rowH_cell hz k.b.size (by omega) ht fun A' c' w' o hg hb=>hK _ _ _ _ ⟨hc0.keep (k.b.trans hb),k.b.trans hb,fun x hx=> ?_,fun x hx=> ?_⟩
 ·refine(k.p x hx).other fun a ha=> ?_
  obtain⟨cs,hcs⟩:=(k.p x hx).cells a ha
  refine hg.block _ ((k.p x hx).blk a ha).2 fun e=> ?_
  cases A with
  |none=>simp[Value.ownBlock]at e
  |some a2=>
   simp[Value.ownBlock]at e
   obtain⟨cs2,hcs2⟩:=ho.cells a2 rfl
   exact two_types hcs hcs2 (by decide) (by first|exact e|exact e.symm)
 ·cases hx
  simpa using o
end
set_option maxRecDepth 20000 in
theorem r47_CopyO{w:World}{A0 A1:Option Addr}{n0 c0 n1 c1:Nat}{ps:List Pa}{hs:List Ho}(hc:CgIn w A0 n0 A1 n1 ps hs)(hz0:A0=none->c0=0)(hz1:A1=none->c1=0):
  Pure Tryz.prog 13 #[.agg #[.slice A0 n0 c0,.slice A1 n1 c1]] w fun v w'=>∃B0 d0 B1 d1,v= .agg #[.slice B0 n0 d0,.slice B1 n1 d1]/\OwnR w' w.heap.size 65 B0 n0 d0 7 (ps.map Pa.row)/\OwnR w' w.heap.size 61 B1 n1 d1 7 (hs.map Ho.row):=by
 refine F.garboardref47_Copy.vc _ _ _ _ _ _ _ _ fun w1 x1=> ?_
 have s1:CpS w A0 n0 A1 n1 ps hs none none false false w1:=⟨hc.keep (k0 x1),k0 x1,fun x hx=>(by cases hx),fun x hx=>(by cases hx)⟩
 have fin:∀{P H:Option Addr} {np nh cp ch:Nat} {w2:World},CpS w A0 n0 A1 n1 ps hs (some (P,np,cp)) (some (H,nh,ch)) true true w2->∀w3,Ext w.heap.size [25] w2 w3->
   ∃B0 d0 B1 d1,Value.agg #[.slice P np cp,.slice H nh ch]= .agg #[.slice B0 n0 d0,.slice B1 n1 d1]/\OwnR w3 w.heap.size 65 B0 n0 d0 7 (ps.map Pa.row)/\OwnR w3 w.heap.size 61 B1 n1 d1 7 (hs.map Ho.row):=by
  intro P H np nh cp ch w2 k w3 x3
  have hp:OwnR w2 w.heap.size 65 P np cp 7 (ps.map Pa.row):=k.p _ rfl
  have hh:OwnR w2 w.heap.size 61 H nh ch 7 (hs.map Ho.row):=k.h _ rfl
  have lp:=hp.len
  have lh:=hh.len
  simp only[List.length_map]at lp lh
  rw[hc.lp]at lp
  rw[hc.lh]at lh
  subst lp
  subst lh
  exact⟨_,_,_,_,rfl,hp.extT x3 (by decide),hh.extT x3 (by decide)⟩
 repeat' first
  |(with_reducible refine And.intro ?_ ?_)
  |exact fin (by assumption)
  |(with_reducible refine CpS.ext (by assumption) rfl fun _ _=> ?_)
  |(with_reducible refine CpS.bp (by assumption) fun _ _ _ _=> ?_)
  |(with_reducible refine CpS.bh (by assumption) fun _ _ _ _=> ?_)
  |(with_reducible refine CpS.ap hc hz0 ?_ (by assumption) fun _ _ _ _ _=> ?_; · decide)
  |(with_reducible refine CpS.ah hc hz1 ?_ (by assumption) fun _ _ _ _ _=> ?_; · decide)
theorem r47_Copy{w:World}{A0 A1:Option Addr}{n0 c0 n1 c1:Nat}{ps:List Pa}{hs:List Ho}(hc:CgIn w A0 n0 A1 n1 ps hs)(hz0:A0=none->c0=0)(hz1:A1=none->c1=0):
  Pure Tryz.prog 13 #[.agg #[.slice A0 n0 c0,.slice A1 n1 c1]] w fun v w'=>∃B0 d0 B1 d1,v= .agg #[.slice B0 n0 d0,.slice B1 n1 d1]/\CgIn w' B0 n0 B1 n1 ps hs:=by
 refine Pure.mono (r47_CopyO hc hz0 hz1) ?_
 rintro v w' _ ⟨B0,d0,B1,d1,rfl,h1,h2⟩
 exact⟨_,_,_,_,rfl,h1.sl,h2.sl,hc.lp,hc.lh,hc.sp,hc.sh,hc.np,hc.nh⟩

theorem run_shr(s:Nat)(hs:s<18446744073709551616)(w:World):(binOp .shr 125 (.int .u64 (s:Int)) (.int .u64 1)).run Tryz.prog w= .ok (.int .u64 ((s / 2:Nat):Int)) w:=by
 have e:binOp .shr 125 (.int .u64 (s:Int)) (.int .u64 1)=Op.shift .shr .u64 (s:Int) .u64 1:=rfl
 rw[e,shift_shr .u64 .u64 _ _ (by decide) (by decide)]
 rfl

def lbS(t:Sw)(l:List Sw):Nat:=(l.takeWhile fun x=>decide (befS x t)).length
theorem lbS_le(t:Sw)(l:List Sw):lbS t l<=l.length:=(List.takeWhile_sublist _).length_le
theorem lbS_eq{t:Sw}{l:List Sw}{i:Nat}(hi:i<=l.length)(h1:∀k a,k<i->l[k]? =some a->befS a t)(h2:∀a,l[i]? =some a->¬befS a t):lbS t l=i:=by
 induction l generalizing i with
 |nil=>simp at hi;subst hi;rfl
 |cons a r ih=>
  cases i with
  |zero=>
   have:=h2 a rfl
   simp[lbS,this]
  |succ i=>
   have ha:=h1 0 a (by omega) rfl
   have:=ih (i:=i) (by simpa using hi) (fun k b hk hb=>h1 (k+1) b (by omega) (by simpa using hb)) (fun b hb=>h2 b (by simpa using hb))
   unfold lbS at*
   simp[ha,this]
theorem befS_le{l:List Sw}(h:SrtS l){i j:Nat}{a b t:Sw}(hij:i<=j)(ha:l[i]? =some a)(hb:l[j]? =some b)(hbt:befS b t):befS a t:=by
 by_cases e:i=j
 ·subst e;rw[ha]at hb;cases hb;exact hbt
 ·obtain⟨hi,rfl⟩:=List.getElem?_eq_some_iff.1 ha
  obtain⟨hj,rfl⟩:=List.getElem?_eq_some_iff.1 hb
  exact bef_trans (List.pairwise_iff_getElem.1 h i j hi hj (by omega)) hbt
def foundS(t:Sw)(l:List Sw):Bool:=match l[lbS t l]? with
 |some x=>decide (x.hold=t.hold/\x.parcel=t.parcel)
 |none=>false
theorem search_stows{w0:World}{A:Option Addr}{n c:Nat}{l:List Sw}(hl:SlR w0 A 3 (l.map Sw.row))(hlen:l.length=n)(hn:n<1000000)(hs:SrtS l)(t:Sw):
  Pure Tryz.prog 64 #[.slice A n c,t.val,.func (.func 65) #[] #[]] w0 fun v _=>v= .tuple #[.int .i64 (lbS t l:Nat),.bool (foundS t l)]:=by
 have fin:∀(i:Nat)(w:World),i<=n->Below w0.heap.size w0 w->(∀k a,k<i->l[k]? =some a->befS a t)->(∀k a,i<=k->l[k]? =some a->¬befS a t)->
   F.slices_BinarySearchFunc_api_Stow_api_Stow_api_Stow.L3 A n c 65 #[] #[] n i i t.hold t.parcel t.units w0.heap.size w fun v _=>v= .tuple #[.int .i64 (lbS t l:Nat),.bool (foundS t l)]:=by
  intro i w hi hw h1 h2
  have hlb:lbS t l=i:=lbS_eq (by omega) h1 fun a ha=>h2 i a (Nat.le_refl _) ha
  refine F.slices_BinarySearchFunc_api_Stow_api_Stow_api_Stow.L3.step _ _ _ _ _ _ _ _ _ _ _ _ _ _ _ ⟨fun h=>by omega,fun _=>⟨fun h=> ?_,fun h w2 _=> ?_⟩⟩
  ·have hil:i<l.length:=by omega
   obtain⟨hb,a,hA,hc,_⟩:=(hl.keep hw (Nat.le_refl _)).at_ (fun _=>rfl) hlen hil
   refine⟨hb,a,hA,_,_,_,hc,by kernel_rfl,fun w2 x2=>Pure.mono (cargo_order l[i] t w2) ?_⟩
   rintro v w3 _ rfl
   refine⟨_,rfl,?_⟩
   unfold foundS
   rw[hlb,List.getElem?_eq_getElem hil]
   have e:decide (ordS l[i] t=0)=decide (l[i].hold=t.hold/\l[i].parcel=t.parcel):=by rw[decide_eq_decide];exact ordS_eq
   rw[e]
  ·unfold foundS
   rw[hlb,List.getElem?_eq_none (by omega)]
 have key:∀(d i j:Nat)(w:World),j - i<=d->i<=j->j<=n->Below w0.heap.size w0 w->(∀k a,k<i->l[k]? =some a->befS a t)->(∀k a,j<=k->l[k]? =some a->¬befS a t)->
   F.slices_BinarySearchFunc_api_Stow_api_Stow_api_Stow.L3 A n c 65 #[] #[] n i j t.hold t.parcel t.units w0.heap.size w fun v _=>v= .tuple #[.int .i64 (lbS t l:Nat),.bool (foundS t l)]:=by
  intro d
  induction d with
  |zero=>
   intro i j w hd hij hj hw h1 h2
   have:i=j:=by omega
   subst this
   exact fin i w hj hw h1 h2
  |succ d ih=>
   intro i j w hd hij hj hw h1 h2
   by_cases he:i=j
   ·subst he
    exact fin i w hj hw h1 h2
   obtain⟨h,hh⟩:∃h,h=(i+j) / 2:=⟨_,rfl⟩
   have hil:h<l.length:=by omega
   refine F.slices_BinarySearchFunc_api_Stow_api_Stow_api_Stow.L3.step _ _ _ _ _ _ _ _ _ _ _ _ _ _ _ ⟨fun _=>⟨by simp only[inR];omega,by simp only[inR];omega,?_⟩,fun h=>by omega⟩
   have es:(i:Int)+(j:Int)=((i+j:Nat):Int):=by omega
   rw[es]
   refine⟨_,_,run_shr (i+j) (by omega) w,Below.refl _ _,Nat.le_refl _,fun _ _ _ _ _=>rfl,_,rfl,?_⟩
   rw[<-hh]
   obtain⟨hb,a,hA,hc,_⟩:=(hl.keep hw (Nat.le_refl _)).at_ (fun _=>rfl) hlen hil
   refine⟨by simp only[inR];omega,hb,a,hA,_,_,_,hc,by kernel_rfl,fun w2 x2=>Pure.mono (cargo_order l[h] t w2) ?_⟩
   have hw2:=kE hw x2
   rintro v w3 b3 rfl
   refine⟨_,rfl,fun h3=>⟨by simp only[inR];omega,?_⟩,fun h3=> ?_⟩
   ·have e3:(h:Int)+1=((h+1:Nat):Int):=by omega
    rw[e3]
    exact ih (h+1) j w3 (by omega) (by omega) hj (kP hw2 b3) (fun k a hk ha=>befS_le hs (by omega) ha (List.getElem?_eq_getElem hil) (ordS_lt.1 h3)) h2
   ·refine ih i h w3 (by omega) (by omega) (by omega) (kP hw2 b3) h1 fun k a hk ha hb=>h3 (ordS_lt.2 ?_)
    exact befS_le hs hk (List.getElem?_eq_getElem hil) ha hb
 refine F.slices_BinarySearchFunc_api_Stow_api_Stow_api_Stow.vc _ _ _ _ _ _ _ _ _ _ _ fun w1 x1=> ?_
 refine key n 0 n w1 (by omega) (by omega) (by omega) (k0 x1) (fun k a h=>by omega) fun k a hk ha=> ?_
 rw[List.getElem?_eq_none (by omega)]at ha
 cases ha

def Oth(A:Option Addr)(w w':World):Prop:=w.heap.size<=w'.heap.size/\∀k,k<w.heap.size->(∀a,A=some a->k≠a.block)->w'.heap[k]? =w.heap[k]?
theorem Oth.refl{A:Option Addr}{w:World}:Oth A w w:=⟨Nat.le_refl _,fun _ _ _=>rfl⟩
theorem Oth.trans{A:Option Addr}{w w1 w2:World}(h:Oth A w w1)(k:Oth A w1 w2):Oth A w w2:=
 ⟨Nat.le_trans h.1 k.1,fun j hj ha=>(k.2 j (Nat.lt_of_lt_of_le hj h.1) ha).trans (h.2 j hj ha)⟩
theorem Oth.low{A:Option Addr}{w w1:World}(h:Below w.heap.size w w1):Oth A w w1:=⟨h.size,fun k hk _=>h.block k hk⟩
theorem Oth.wrote{A:Option Addr}{w w1:World}{b ty:Nat}{cs:List Value}(h:Wrote w w1 b ty cs)(ha:∃a,A=some a/\a.block=b):Oth A w w1:=
 ⟨by rw[h.size];exact Nat.le_refl _,fun k hk hka=>h.rest k fun e=>by obtain⟨a,h1,h2⟩:=ha;exact hka a h1 (e.trans h2.symm)⟩
theorem Oth.fresh{A:Option Addr}{w0 w w1:World}{b ty:Nat}{cs:List Value}(h:Wrote w w1 b ty cs)(k:Oth A w0 w)(hb:w0.heap.size<=b):Oth A w0 w1:=
 ⟨by rw[h.size];exact k.1,fun j hj ha=>(h.rest j (by omega)).trans (k.2 j hj ha)⟩

theorem index_stows{w0:World}{A:Option Addr}{n c:Nat}{l:List Sw}(hl:SlR w0 A 3 (l.map Sw.row))(hlen:l.length=n)(hn:n<2147483648){f:Nat}{a k:Array Value}(hcall:callable Tryz.prog f=true){p:Sw->Bool}
  (hf:∀w,Below w0.heap.size w0 w->∀x∈l,Pure Tryz.prog f (a.toList++([x.val]:List Value)++k.toList).toArray w fun v _=>v= .bool (p x)) {R:Value->World->Prop} {r:Int} (hR:∀w,R (.int .i64 r) w):
  ∀(d i:Nat)(w:World),n - i=d->i<=n->Below w0.heap.size w0 w->r=idxG p i (l.drop i)->F.slices_IndexFunc_api_Stow_api_Stow.L2 A n c f a k n i w0.heap.size w R:=by
 intro d
 induction d with
 |zero=>
  intro i w hd hi hw hr
  rw[List.drop_eq_nil_of_le (by omega)]at hr
  subst hr
  exact F.slices_IndexFunc_api_Stow_api_Stow.L2.step _ _ _ _ _ _ _ _ _ _ _ ⟨fun h=>by omega,fun _=>hR w⟩
 |succ d ih=>
  intro i w hd hi hw hr
  have hil:i<l.length:=by omega
  rw[List.drop_eq_getElem_cons hil,idxG]at hr
  obtain⟨hb,ad,hA,hcell,_⟩:=(hl.keep hw (Nat.le_refl _)).at_ (fun _=>rfl) hlen hil
  refine F.slices_IndexFunc_api_Stow_api_Stow.L2.step _ _ _ _ _ _ _ _ _ _ _ ⟨fun _=> ?_,fun h=>by omega⟩
  refine⟨hb,ad,hA,_,_,_,hcell,hcall,Pure.mono (hf w hw l[i] (List.getElem_mem hil)) ?_⟩
  rintro v w2 b2 rfl
  refine⟨_,rfl,fun h=> ?_,fun h=>⟨by simp only[inR];omega,?_⟩⟩
  ·rw[if_pos h]at hr
   subst hr
   exact hR w2
  ·rw[if_neg (by simp[h])]at hr
   have e3:(i:Int)+1=((i+1:Nat):Int):=by omega
   rw[e3]
   exact ih (i+1) w2 (by omega) (by omega) (kP hw b2) hr
theorem find_none{α:Type}{p:α->Bool}{l:List α}(h:l.findIdx? p=none):l.filter (fun x=> !p x)=l:=by
 rw[List.filter_eq_self]
 intro x hx
 have:=List.findIdx?_eq_none_iff.1 h x hx
 simp[this]
theorem find_some{α:Type}{p:α->Bool}{l:List α}{i:Nat}(h:l.findIdx? p=some i):i<l.length/\(l.take (i+1)).filter (fun x=> !p x)=l.take i:=by
 obtain⟨hi,hp,hlt⟩:=List.findIdx?_eq_some_iff_getElem.1 h
 refine⟨hi,?_⟩
 rw[List.take_add_one,List.getElem?_eq_getElem hi,List.filter_append]
 have e1:(l.take i).filter (fun x=> !p x)=l.take i:=by
  rw[List.filter_eq_self]
  intro x hx
  obtain⟨j,hj,rfl⟩:=List.mem_take_iff_getElem.1 hx
  have:=hlt j (by omega)
  simpa using this
 rw[e1]
 simp[hp]
theorem zeroSw:(Tryz.prog.info? 39).bind (·.zero)=some (.agg #[.int .i64 0,.int .i64 0,.int .i64 0]):=by kernel_rfl

theorem delf_loop{w0:World}{B:Nat}{A:Option Addr}{n c:Nat}{l:List Sw}(hlen:l.length=n)(hn:n<2147483648)(hnc:n<=c){f:Nat}{a k:Array Value}(hcall:callable Tryz.prog f=true){p:Sw->Bool}
  (hf:∀w,Oth A w0 w->∀x:Sw,Pure Tryz.prog f (a.toList++([x.val]:List Value)++k.toList).toArray w fun v _=>v= .bool (p x)) {R:Value->World->Prop}
  (hR:∀m w,Oth A w0 w->OwnR w B 39 A m c 3 ((l.filter fun x=> !p x).map Sw.row)->R (.slice A m c) w):
  ∀(d i j:Nat)(cur:List Sw)(w:World),n - j=d->j<=n->i<=j->cur.length=n->OwnR w B 39 A n c 3 (cur.map Sw.row)->cur.take i=(l.take j).filter (fun x=> !p x)->cur.drop j=l.drop j->Oth A w0 w->B<=w.heap.size->
   F.slices_DeleteFunc_api_Stow_api_Stow.L5 A n c f a k i j B w R:=by
 intro d
 induction d with
 |zero=>
  intro i j cur w hd hj hij hcl ho ht hdr hoth hBw
  have:j=n:=by omega
  subst this
  rw[List.take_of_length_le (l:=l) (by omega)]at ht
  refine F.slices_DeleteFunc_api_Stow_api_Stow.L5.step _ _ _ _ _ _ _ _ _ _ _ ⟨fun h=>by omega,fun _=>⟨by omega,?_⟩⟩
  have os:=ho.short (m:=i) (by omega)
  rw[<-List.map_take,ht]at os
  rw[Int.toNat_natCast]
  refine runOk_clear el_Sws zeroSw (by simp[Value.cells,isCell]) os hij hnc fun w2 o2 b2 k2=>⟨by omega,hR i w2 (hoth.trans ⟨b2.size,k2⟩) o2⟩
 |succ d ih=>
  intro i j cur w hd hj hij hcl ho ht hdr hoth hBw
  have hjl:j<l.length:=by omega
  have hjc:j<cur.length:=by omega
  have ej:cur[j]=l[j]:=by
   have h1:(cur.drop j)[0]? =(l.drop j)[0]? :=by rw[hdr]
   rw[List.getElem?_drop,List.getElem?_drop]at h1
   simpa[hjl,hjc]using h1
  have e3:(j:Int)+1=((j+1:Nat):Int):=by omega
  have e4:(i:Int)+1=((i+1:Nat):Int):=by omega
  have hdr':cur.drop (j+1)=l.drop (j+1):=by
   have:=congrArg (List.drop 1) hdr
   simpa[List.drop_drop]using this
  have ht1:l.take (j+1)=l.take j++[l[j]]:=by rw[List.take_add_one,List.getElem?_eq_getElem hjl];rfl
  obtain⟨hb,ad,hA,hcell,_⟩:=ho.sl.at_ (fun _=>rfl) hcl hjc
  refine F.slices_DeleteFunc_api_Stow_api_Stow.L5.step _ _ _ _ _ _ _ _ _ _ _ ⟨fun _=>⟨hb,ad,hA,_,_,_,hcell,?_⟩,fun h=>by omega⟩
  refine runOk_alloc 39 zeroSw hBw fun w2 hnew b2 hlt=> ?_
  refine⟨_,_,hBw,rfl,hnew,by simp[Value.cells],rfl,fun w3 hw3=> ?_⟩
  have hcells:w3.heap[w.heap.size]? =some (.cells (cur[j].row).toArray 39 (0,0)):=by
   have:=hw3.at_
   simpa[setCells,Value.cells]using this
  have hoth3:Oth A w0 w3:=Oth.fresh hw3 (hoth.trans (Oth.low b2)) hoth.1
  have hblk:∀x,A=some x->x.block<w.heap.size:=fun x hx=>(ho.blk x hx).2
  have o3:OwnR w3 B 39 A n c 3 (cur.map Sw.row):=(ho.below b2).other fun x hx=>hw3.rest _ (by have:=hblk x hx;show x.block≠w.heap.size;omega)
  refine⟨_,_,_,box_all hcells,hcall,Pure.mono (hf w3 hoth3 cur[j]) ?_⟩
  rintro v w4 b4 rfl
  have hoth4:=hoth3.trans (Oth.low (A:=A) b4)
  have o4:=o3.below b4
  have hB4:B<=w4.heap.size:=by have:=b4.size;have:=hw3.size;omega
  refine⟨_,rfl,fun hkeep=> ?_,fun hdel=>⟨by simp only[inR];omega,?_⟩⟩
  ·have hpj:p l[j]=false:=by rw[<-ej];exact hkeep
   obtain⟨g1,a2,hA2,cs,g2,g3,g4,g5,g6⟩:=o4.set0 (i:=(i:Int)) (by omega) (by omega) (cur[j].row) ((cur[i]'(by omega)).row) (by rw[Int.toNat_natCast,List.getElem?_map,List.getElem?_eq_getElem (by omega)];rfl) rfl
   refine⟨_,_,_,box_all (heap_keep hcells b4),g1,a2,hA2,cs,_,g2,g3,g4,g5,rfl,fun w5 hw5=>⟨by simp only[inR];omega,by simp only[inR];omega,?_⟩⟩
   have o5:=g6 w5 hw5
   rw[Int.toNat_natCast]at o5
   have hadd:(a2.add ((i:Int).toNat*3)).block=a2.block:=by unfold Addr.add;split<;>rfl
   rw[e3,e4]
   refine ih (i+1) (j+1) (cur.set i cur[j]) w5 (by omega) (by omega) (by omega) (by simp[hcl]) (by rw[List.map_set];exact o5) ?_ ?_ (hoth4.trans (Oth.wrote hw5 ⟨a2,hA2,hadd.symm⟩)) (by rw[hw5.size];exact hB4)
   ·rw[List.take_add_one,List.getElem?_set_self (by omega),List.take_set_of_le (by omega),ht,ht1,List.filter_append,ej]
    simp[hpj]
   ·rw[List.drop_set_of_lt (by omega)]
    exact hdr'
  ·have hpj:p l[j]=true:=by rw[<-ej];simpa using hdel
   rw[e3]
   refine ih i (j+1) cur w4 (by omega) (by omega) (by omega) hcl o4 ?_ hdr' hoth4 hB4
   rw[ht,ht1,List.filter_append]
   simp[hpj]
theorem DeleteFuncS{w:World}{B:Nat}(hB:B<=w.heap.size){A:Option Addr}{n c:Nat}{l:List Sw}(ho:OwnR w B 39 A n c 3 (l.map Sw.row))(hn:n<2147483648){f:Nat}{a k:Array Value}(hcall:callable Tryz.prog f=true){p:Sw->Bool}
  (hf:∀w',Oth A w w'->∀x:Sw,Pure Tryz.prog f (a.toList++([x.val]:List Value)++k.toList).toArray w' fun v _=>v= .bool (p x)):
  PureB Tryz.prog 139 #[.slice A n c,.func (.func f) a k] B w fun v w'=>∃m,v= .slice A m c/\OwnR w' B 39 A m c 3 ((l.filter fun x=> !p x).map Sw.row)/\Oth A w w':=by
 have hlen:l.length=n:=by have:=ho.len;simpa using this
 have hnc:=ho.len_le
 refine F.slices_DeleteFunc_api_Stow_api_Stow.vcB _ _ _ _ _ _ _ _ hB _ ?_
 refine Pure.mono (F.slices_IndexFunc_api_Stow_api_Stow.vc _ _ _ _ _ _ _ _ (index_stows ho.sl hlen hn hcall (fun w' hb x _=>hf w' (Oth.low hb) x) (R:=fun v _=>v= .int .i64 (idxG p 0 l)) (fun _=>rfl) n 0 w rfl (by omega) (Below.refl _ _) rfl)) ?_
 rintro v w2 b2 rfl
 have key:=idxG_find p l 0
 cases hx:l.findIdx? p with
 |none=>
  rw[hx]at key
  simp only at key
  rw[key]
  refine⟨_,rfl,fun _=>⟨n,rfl,?_,Oth.low b2⟩,fun h=>absurd rfl h⟩
  rw[find_none hx]
  exact ho.below b2
 |some i=>
  rw[hx]at key
  simp only[Nat.zero_add]at key
  rw[key]
  obtain⟨hil,hfi⟩:=find_some hx
  have e3:(i:Int)+1=((i+1:Nat):Int):=by omega
  refine⟨_,rfl,fun h=>by omega,fun _=>⟨by simp only[inR];omega,?_⟩⟩
  rw[e3]
  exact delf_loop (w0:=w) hlen hn hnc hcall hf (fun m w' hoth o=>⟨m,rfl,o,hoth⟩) (n - (i+1)) i (i+1) l w2 rfl (by omega) (by omega) hlen (ho.below b2) hfi.symm rfl (Oth.low b2) (Nat.le_trans hB b2.size)

theorem flatten_take{sz:Nat}{rows:List (List Value)}(h:∀r∈rows,r.length=sz){m:Nat}(hm:m<=rows.length):(rows.take m).flatten=rows.flatten.take (m*sz):=by
 have hfl:(rows.take m).flatten.length=m*sz:=by rw[flatten_len _ fun r hr=>h r (List.mem_of_mem_take hr),List.length_take,Nat.min_eq_left hm]
 have:rows.flatten=(rows.take m).flatten++(rows.drop m).flatten:=by rw[<-List.flatten_append,List.take_append_drop]
 conv=>rhs;rw[this]
 rw[List.take_append_of_le_length (by omega),List.take_of_length_le (l:=(rows.take m).flatten) (by omega)]
theorem flatten_drop{sz:Nat}{rows:List (List Value)}(h:∀r∈rows,r.length=sz){m:Nat}(hm:m<=rows.length):(rows.drop m).flatten=rows.flatten.drop (m*sz):=by
 have hfl:(rows.take m).flatten.length=m*sz:=by rw[flatten_len _ fun r hr=>h r (List.mem_of_mem_take hr),List.length_take,Nat.min_eq_left hm]
 have:rows.flatten=(rows.take m).flatten++(rows.drop m).flatten:=by rw[<-List.flatten_append,List.take_append_drop]
 conv=>rhs;rw[this]
 have e0:(rows.take m).flatten.drop (m*sz)=[]:=List.drop_eq_nil_of_le (by omega)
 rw[List.drop_append_of_le_length (by omega),e0,List.nil_append]

theorem runOk_appendFits{t ty e sz bytes:Nat}(el:El Tryz.prog t e sz bytes){B0 B:Nat}(hBB:B0<=B){tys:List Nat}{w:World}{g n c:Nat}{rows:List (List Value)}(ho:OwnR w B e (some ⟨g,0,none⟩) n c sz rows)
  {a:Addr} {m c2:Nat} {more:List (List Value)} (hsl:SlR w (some a) sz more) (hm:more.length=m) (hms:∀r∈more,r.length=sz) (h1:∀r∈more,∀u∈r,isCell u=true) (hroom:n+m<=c) (ht:e∉tys) (hB:B<=w.heap.size) {K:Option Addr->Nat->Nat->World->Prop}
  (h:∀w2,OwnR w2 B e (some ⟨g,0,none⟩) (n+m) c sz (rows++more)->w.grownBy w2 (some g)->Below B0 w w2->K (some ⟨g,0,none⟩) (n+m) c w2):
  RunOk Tryz.prog (Builtin.append_ #[t,t] ty #[.slice (some ⟨g,0,none⟩) n c,.slice (some a) m c2]) B0 tys w fun r w2=>∃A n c,r= .slice A n c/\K A n c w2:=by
 obtain⟨i,z,h2,h3,h4,h5,h6⟩:=el.info
 have hlen:more.flatten.length=m*sz:=by rw[flatten_len _ hms,hm]
 obtain⟨w',hr,hown,hg⟩:=run_append_fits (P:=Tryz.prog) w B t ty e i sz el.und h2 h4 g n c rows.flatten ho.1 a m c2 more.flatten hlen (fun j u hu=>by
  rcases hsl with hsl|⟨b,off,cs,ty,fr,hA,hh,hc⟩
  ·subst hsl;simp at hu
  ·cases hA
   rw[add_plain0]
   simp only[World.cell?,hh]
   have:=flat_cell more off hms (fun i hi j hj=>(hc i hi j hj).2) j u hu
   simpa using this) (fun u hu=>by
  obtain⟨r,hr,hu2⟩:=List.mem_flatten.1 hu
  exact oneCell'_of (h1 r hr u hu2)) hroom
 have hbel:Below B0 w w':=below_grown hg (fun k hk=>by cases hk;exact Nat.le_trans hBB (World.ownsRow.lt ho.1 g rfl).1) (Nat.le_trans hBB hB)
 refine⟨_,w',hr,hbel,hbel.size,kept_grown (v:= .slice (some ⟨g,0,none⟩) n c) hg ho.1 ht,_,_,_,rfl,h w' ⟨by rw[List.flatten_append];exact hown,by simp[ho.len,hm],fun r hr=> ?_⟩ hg hbel⟩
 rcases List.mem_append.1 hr with h|h
 ·exact ho.2.2 r h
 ·exact hms r h
theorem run_slice3(A:Option Addr)(n c i j:Nat)(hij:i<=j)(hjn:j<=n)(hnc:n<=c)(w:World):∃v,(Instr.sliceAt 29 (.slice A n c) (some (.int .i64 (i:Int))) (some (.int .i64 (j:Int))) (some (.int .i64 (n:Int)))).run Tryz.prog w= .ok v w/\∃A' n' c',v= .slice A' n' c':=by
 obtain⟨q,z,h2,h3,h4,h5,h6⟩:=el_Sws.info
 have b1:∀{code:BoundsCode},(Instr.sliceBound (.int .i64 (n:Int)) c code).run Tryz.prog w= .ok n w:=fun {code}=>by
  have:=Go.run_sliceBound (P:=Tryz.prog) w .i64 (n:Int) c code (by omega) (by omega)
  simpa using this
 have b2:∀{code:BoundsCode},(Instr.sliceBound (.int .i64 (j:Int)) n code).run Tryz.prog w= .ok j w:=fun {code}=>by
  have:=Go.run_sliceBound (P:=Tryz.prog) w .i64 (j:Int) n code (by omega) (by omega)
  simpa using this
 have b3:∀{code:BoundsCode},(Instr.sliceBound (.int .i64 (i:Int)) j code).run Tryz.prog w= .ok i w:=fun {code}=>by
  have:=Go.run_sliceBound (P:=Tryz.prog) w .i64 (i:Int) j code (by omega) (by omega)
  simpa using this
 refine⟨.slice (if n=i then A else A.map (·.add (i*q.size))) (j - i) (n - i),?_,_,_,_,rfl⟩
 simp[Instr.sliceAt,Instr.slice,Instr.sliceBounds,run_underlying el_Sws.und,b1,b2,b3,sizeOf,typeInfo,h2]
theorem DeleteS{w:World}{B:Nat}(hB:B<=w.heap.size){A:Option Addr}{n c:Nat}{l:List Sw}(ho:OwnR w B 39 A n c 3 (l.map Sw.row))(hn:n<2147483648){i:Nat}(hi:i<n):
  PureB Tryz.prog 68 #[.slice A n c,.int .i64 (i:Int),.int .i64 ((i+1:Nat):Int)] B w fun v w'=>∃m,v= .slice A m c/\OwnR w' B 39 A m c 3 ((l.take i++l.drop (i+1)).map Sw.row)/\Oth A w w':=by
 have hlen:l.length=n:=by have:=ho.len;simpa using this
 have hnc:=ho.len_le
 have hA:∃g,A=some ⟨g,0,none⟩:=by
  rcases ho.1.2 with⟨h0,h3⟩|⟨g,cap,cur,h3,_⟩
  ·omega
  ·cases h3;exact⟨g,rfl⟩
 obtain⟨g,rfl⟩:=hA
 obtain⟨v,hr,A',n',c',rfl⟩:=run_slice3 (some ⟨g,0,none⟩) n c i (i+1) (by omega) (by omega) hnc w
 refine F.slices_Delete_api_Stow_api_Stow.vcB _ _ _ _ _ _ _ hB _ ⟨_,w,hr,Below.refl _ _,Nat.le_refl _,fun _ _ _ _ _=>rfl,_,_,_,rfl,fun h=>by omega,fun _=>⟨by omega,by omega,fun w2 x2=> ?_⟩⟩
 rw[Int.toNat_natCast,Int.toNat_natCast]
 have o2:=ho.extNil x2
 have os:=o2.short (m:=i) (by omega)
 rw[<-List.map_take]at os
 have hs2:∃a,cutAddr (some (⟨g,0,none⟩:Addr)) (i+1) c 3=some a:=by
  unfold cutAddr
  split
  ·exact⟨_,rfl⟩
  ·exact⟨_,rfl⟩
 obtain⟨a,ha⟩:=hs2
 have hsl:=o2.sl.dropS (k:=i+1) (c:=c) (by simp;omega)
 rw[ha]at hsl⊢
 rw[<-List.map_drop]at hsl
 refine runOk_appendFits el_Sws (Nat.le_refl _) os hsl (by simp;omega) rowS_len rowS_cell (by omega) (by simp) (Nat.le_trans hB x2.below.size) fun w3 o3 g3 b3=>⟨by omega,?_⟩
 have em:i+(n - (i+1))=n - 1:=by omega
 rw[<-List.map_append]at o3
 rw[Int.toNat_natCast,Int.toNat_natCast]
 refine runOk_clear el_Sws zeroSw (by simp[Value.cells,isCell]) o3 (by omega) hnc fun w4 o4 b4 k4=>⟨_,rfl,o4,?_⟩
 have t2:Oth (some ⟨g,0,none⟩) w w2:=⟨x2.below.size,fun k hk _=>by
  rcases x2.other k hk with h|⟨t,ht,_⟩
  ·exact h
  ·simp at ht⟩
 have t3:Oth (some ⟨g,0,none⟩) w2 w3:=⟨g3.size,fun k hk hka=>g3.block k hk fun e=>by cases e;exact hka _ rfl rfl⟩
 exact(t2.trans t3).trans ⟨b4.size,k4⟩

theorem ins_takeS{xs L x:List Value}{p q N:Nat}(hxl:xs.length=N)(hx:x.length=q)(hp:p<=N)(h1:∀k,k<p->L[k]? =xs[k]?)(h2:∀k,k<q->L[p+k]? =x[k]?)(h3:∀k,p<=k->k<N->L[k+q]? =xs[k]?):L.take (N+q)=xs.take p++x++xs.drop p:=by
 apply List.ext_getElem?
 intro k
 rw[List.getElem?_take,List.append_assoc]
 have hl:(xs.take p).length=p:=by simp;omega
 by_cases hk:k<p
 ·rw[if_pos (by omega),List.getElem?_append_left (by omega),List.getElem?_take,if_pos hk,h1 k hk]
 ·rw[List.getElem?_append_right (by omega),hl]
  by_cases hk2:k<p+q
  ·rw[if_pos (by omega),List.getElem?_append_left (by omega)]
   have:=h2 (k - p) (by omega)
   rwa [show p+(k - p)=k by omega]at this
  ·rw[List.getElem?_append_right (by omega),hx,List.getElem?_drop]
   by_cases hk3:k<N+q
   ·rw[if_pos hk3]
    have:=h3 (k - q) (by omega) (by omega)
    rw[show k - q+q=k by omega]at this
    rw[this]
    congr 1
    omega
   ·rw[if_neg hk3,List.getElem?_eq_none (by omega)]
theorem InsertS{w:World}{B:Nat}(hB:B<=w.heap.size){A:Option Addr}{n c:Nat}{l:List Sw}(hor:OwnR w B 39 A n c 3 (l.map Sw.row))(hn:n<=1000){i:Nat}(hi:i<=n)
  {vb cc:Nat} {s:Sw} (hvr:OwnR w B 39 (some ⟨vb,0,none⟩) 1 cc 3 [s.row]) (hne:∀a,A=some a->a.block≠vb):
  PureB Tryz.prog 67 #[.slice A n c,.int .i64 (i:Int),.slice (some ⟨vb,0,none⟩) 1 cc] B w fun v w'=>∃A' c',v= .slice A' (n+1) c'/\OwnR w' B 39 A' (n+1) c' 3 ((l.take i++s::l.drop i).map Sw.row)/\Oth A w w':=by
 have hlen:l.length=n:=by have:=hor.len;simpa using this
 have hnc:=hor.len_le
 have hrl:∀r∈l.map Sw.row,r.length=3:=rowS_len
 have hll:(l.map Sw.row).length=n:=by simp[hlen]
 obtain⟨xs,hxs⟩:∃xs,xs=(l.map Sw.row).flatten:=⟨_,rfl⟩
 have ho:=hor.1
 rw[<-hxs]at ho
 obtain⟨x,hx⟩:∃x:List Value,x=s.row:=⟨_,rfl⟩
 have hxn:x.length=3:=by rw[hx];rfl
 have hx1:∀v∈x,isCell v=true:=by
  rw[hx];intro v hv;simp only[Sw.row,List.mem_cons,List.not_mem_nil,or_false]at hv
  rcases hv with rfl|rfl|rfl<;>rfl
 have h1:∀v∈xs,isCell v=true:=by
  intro v hv
  rw[hxs]at hv
  obtain⟨r,hr,hu2⟩:=List.mem_flatten.1 hv
  exact rowS_cell r hr v hu2
 have hxl:xs.length=n*3:=ho.1
 -- the result, out of the cells
 have fin:∀(A':Option Addr)(c':Nat)(w':World),w'.ownsRow B 39 3 (.slice A' (n+1) c') (n+1) (xs.take (i*3)++x++xs.drop (i*3))->OwnR w' B 39 A' (n+1) c' 3 ((l.take i++s::l.drop i).map Sw.row):=fun A' c' w' h=>by
  have e:((l.take i++s::l.drop i).map Sw.row).flatten=xs.take (i*3)++x++xs.drop (i*3):=by
   rw[List.map_append,List.map_cons,List.flatten_append,List.flatten_cons,List.map_take,List.map_drop,flatten_take hrl (by omega),flatten_drop hrl (by omega),<-hxs,<-hx,List.append_assoc]
  exact⟨by rw[e];exact h,by simp;omega,rowS_len⟩
 obtain⟨cv,hBv,hv,hvt,hvs⟩:∃cv:Array Value,B<=vb/\w.heap[vb]? =some (.cells cv 39 (0,0))/\cv.toList.take 3=x/\cv.size=cc*3:=by
  rcases hvr.1.2 with⟨e1,_⟩|⟨g,cap,cur,e1,e2,e3,e4,e5,e6,e7⟩
  ·cases e1
  ·cases e1
   exact⟨cur,e2,e3,by rw[hx];simpa using e7,e6⟩
 have hcc:1<=cc:=hvr.len_le
 have hsrcv:∀{w':World},w'.heap[vb]? =some (.cells cv 39 (0,0))->∀j v,x[j]? =some v->w'.cell? ((⟨vb,0,none⟩:Addr).add j)=some v:=by
  intro w' hv' j v hj
  rw[add_plain0]
  simp only[World.cell?,hv',Nat.zero_add]
  rw[<-hvt,List.getElem?_take]at hj
  split at hj
  ·simpa using hj
  ·cases hj
 refine F.slices_Insert_api_Stow_api_Stow.vcB _ _ _ _ _ _ _ _ w hB _ ⟨by omega,fun h=>by omega,fun _=>⟨fun h=> ?_,fun h=>⟨by simp only[inR];omega,fun h2=> ?_,fun h2=> ?_⟩⟩⟩
 ·-- at the end
  have hin:i=n:=by omega
  subst hin
  refine runOk_append (P:=Tryz.prog) (ty:=29) el_Sws (Nat.le_refl B) (tys:=[]) ho (a:=⟨vb,0,none⟩) (m:=1) (c:=cc) (news:=x) (by rw[hxn]) (hsrcv hv) hx1 hB (by omega) (by simp) fun A' c' w2 k1 k2 k3=>⟨A',c',rfl,fin _ _ _ ?_,k2.size,fun k hk hka=>k2.block k hk fun e=> ?_⟩
  ·rw[List.take_of_length_le (by omega),List.drop_eq_nil_of_le (by omega),List.append_nil]
   exact k1
  ·cases A with
   |none=>simp[Value.ownBlock]at e
   |some a=>simp[Value.ownBlock]at e;exact hka a rfl e
 ·-- no room: a new row
  have hA:∃g,A=some ⟨g,0,none⟩/\∃cur:Array Value,B<=g/\w.heap[g]? =some (.cells cur 39 (0,0))/\cur.toList.take (n*3)=xs:=by
   rcases ho.2 with⟨h0,h3⟩|⟨g,cap,cur,h3,h4,h5,h6,h7,h8,h9⟩
   ·omega
   ·cases h3
    exact⟨g,rfl,cur,h4,h5,h9⟩
  obtain⟨g,rfl,cur,hBg,hg,hcur⟩:=hA
  have hin:i<n:=by omega
  obtain⟨i0,z,e2,e3,e4,e5,e6⟩:=el_Sws.info
  have hgs:∀{w':World},w'.heap[g]? =some (.cells cur 39 (0,0))->∀j v,xs[j]? =some v->w'.cell? ((⟨g,0,none⟩:Addr).add j)=some v:=fun {w'} hg' j v hj=>by
   rw[add_plain0]
   simp only[World.cell?,hg',Nat.zero_add]
   rw[<-hcur,List.getElem?_take]at hj
   split at hj
   ·simpa using hj
   ·cases hj
  have hold:(Builtin.firstCells i0.size i (.slice (some ⟨g,0,none⟩) i c)).run Tryz.prog w.drew= .ok (xs.take (i*3)).toArray w.drew:=by
   rw[e4]
   exact run_firstCells_some w.drew 3 i ⟨g,0,none⟩ i c (xs.take (i*3)) (by rw[List.length_take];omega) (fun j v hj=>by
    rw[List.getElem?_take]at hj
    split at hj
    ·exact hgs (w':=w.drew) hg j v hj
    ·cases hj)
  have hik:i+(n+1 - i)=n+1:=by omega
  have hbig:(n+1)*24<=140737488355328:=by omega
  have hrz:=Lib.run_append_grow_zeros w 29 3 29 39 i0 z .i64 .i64 el_Sws.und Tryz.underlying3 e2 e3 (some ⟨g,0,none⟩) i c (xs.take (i*3)) hold (n+1 - i) (by omega) (by omega) (by omega) (by omega) (by rw[e5];omega) (by rw[e5,hik];exact growslice_fits (by omega) hbig)
  rw[hik]at hrz
  obtain⟨G,hG⟩:∃G,G=grownCap w (n+1) c 39:=⟨_,rfl⟩
  have hGn:n+1<=G:=by rw[hG];exact grownCap_ge w _ _ _
  have hGm:G<=maxLen:=by rw[hG];exact grownCap_le_maxLen w (n+1) c _ (by unfold maxLen;omega)
  rw[<-hG]at hrz
  obtain⟨R0,hR0⟩:∃R0:List Value,R0=((xs.take (i*3)).toArray++Builtin.zeroCells z.cells (n+1 - i)++Builtin.zeroCells z.cells (G - (n+1))).toList:=⟨_,rfl⟩
  have hR0a:((xs.take (i*3)).toArray++Builtin.zeroCells z.cells (n+1 - i)++Builtin.zeroCells z.cells (G - (n+1)))=R0.toArray:=by rw[hR0]
  have hR0l:R0.length=G*3:=by
   rw[hR0]
   simp only[Array.length_toList,Array.size_append,List.size_toArray,List.length_take,size_zeroCells,e6]
   omega
  have hR0p:∀k,k<i*3->R0[k]? =xs[k]? :=fun k hk=>by
   rw[hR0]
   simp only[Array.toList_append,List.append_assoc]
   rw[List.getElem?_append_left (by simp;omega),List.getElem?_take,if_pos hk]
  rw[hR0a]at hrz
  have ekk:((n:Int)+((1:Nat):Int)) - (i:Int)=((n+1 - i:Nat):Int):=by omega
  have eN:((i:Int)).toNat=i:=Int.toNat_natCast i
  have hgrow:w.grownBy (w.drew.alloc (.cells R0.toArray 39)) none:=⟨rfl,rfl,rfl,by simp,fun k hk _=>RowKit.Below.heap_alloc w.drew _ k hk⟩
  have hb1:=below_grown (B:=B) hgrow (by simp) hB
  have hnew:(w.drew.alloc (.cells R0.toArray 39)).heap[w.heap.size]? =some (.cells R0.toArray 39 (0,0)):=heap_alloc_new w.drew _
  obtain⟨W1,hW1⟩:∃W1,W1=w.drew.alloc (.cells R0.toArray 39):=⟨_,rfl⟩
  rw[<-hW1]at hrz hgrow hb1 hnew
  have gl:=(Array.getElem?_eq_some_iff.1 hg).1
  have vl:=(Array.getElem?_eq_some_iff.1 hv).1
  have e1N:((i:Int)+((1:Nat):Int)).toNat=i+1:=by omega
  rw[eN,ekk]
  refine⟨by omega,by simp only[inR];omega,by simp only[inR];omega,_,W1,hrz,hb1,hgrow.size,fun k ty cs h=>(by cases h),_,_,_,rfl,by omega,?_⟩
  rw[cut3 (by omega)]
  refine runOk_copyS el_Sws (cs:=x) (cur:=R0) (by rw[hxn];simp only[Nat.min_def];split<;>omega) (hsrcv (by rw[hgrow.block vb vl (by simp)];exact hv)) hnew (by omega) hx1 hB (by simp) fun w2 c1 c2 c3 c4=>⟨by simp only[inR];omega,by omega,by omega,fun w3 x3=> ?_⟩
  rw[e1N,cut3 (by omega),cut3 (by omega)]
  have d1:=ext_nil x3 c1
  have hg3:w3.heap[g]? =some (.cells cur 39 (0,0)):=ext_nil x3 (by rw[c2 g (by omega),hgrow.block g gl (by simp)];exact hg)
  have hdl:(xs.drop (i*3)).length=(n - i)*3:=by rw[List.length_drop,hxl];omega
  refine runOk_copyS el_Sws (cs:=xs.drop (i*3)) (cur:=setCells R0 (i*3) x) (by rw[hdl];simp only[Nat.min_def];split<;>omega) (fun j v hj=> ?_) d1 (by rw[setCells_len,hdl];omega) (fun v hv2=>h1 v (List.mem_of_mem_drop hv2)) hB (by simp) fun w4 f1 f2 f3 f4=> ?_
  ·rw[List.getElem?_drop]at hj
   have:=hgs hg3 (i*3+j) v hj
   rw[add_plain0]at this⊢
   simpa using this
  refine⟨_,_,rfl,fin _ _ _ ⟨by simp[hxl,hxn];omega,.inr ⟨w.heap.size,G,_,rfl,hB,f1,hGn,hGm,by simp[setCells_len,hR0l],?_⟩⟩,?_,fun k hk hka=> ?_⟩
  ·have hlen1:i*3+x.length<=R0.length:=by omega
   have hlen2:(i+1)*3+(xs.drop (i*3)).length<=(setCells R0 (i*3) x).length:=by rw[setCells_len,hdl];omega
   have:=ins_takeS (L:=setCells (setCells R0 (i*3) x) ((i+1)*3) (xs.drop (i*3))) (x:=x) (p:=i*3) hxl hxn (by omega) (fun k hk=>by
     rw[setCells_get _ _ _ _ hlen2,if_neg (by omega),setCells_get _ _ _ _ hlen1,if_neg (by omega)]
     exact hR0p k hk)
    (fun k hk=>by
     rw[setCells_get _ _ _ _ hlen2,if_neg (by omega),setCells_get _ _ _ _ hlen1,if_pos (by omega)]
     rw[show i*3+k - i*3=k by omega])
    (fun k hk hk2=>by
     rw[setCells_get _ _ _ _ hlen2,if_pos (by rw[hdl];omega),List.getElem?_drop]
     rw[show i*3+(k+3 - (i+1)*3)=k by omega])
   rw[show(n+1)*3=n*3+3 by omega]
   simpa using this
  ·have:=x3.below.size;have:=hgrow.size;omega
  ·rw[f2 k (by omega)]
   rcases x3.other k (by rw[c3];have:=hgrow.size;omega)with h7|⟨t,ht,_⟩
   ·rw[h7,c2 k (by omega),hgrow.block k hk (by simp)]
   ·simp at ht
 ·-- there is room
  have hin:i<n:=by omega
  have hA:∃g,A=some ⟨g,0,none⟩/\∃cur:Array Value,B<=g/\w.heap[g]? =some (.cells cur 39 (0,0))/\cur.toList.take (n*3)=xs/\cur.size=c*3/\c<=maxLen:=by
   rcases ho.2 with⟨h0,h3⟩|⟨g,cap,cur,h3,h4,h5,h6,h7,h8,h9⟩
   ·omega
   ·cases h3
    exact⟨g,rfl,cur,h4,h5,h9,h8,h7⟩
  obtain⟨g,rfl,cur,hBg,hg,hcur,hcs,hcm⟩:=hA
  have hgv:g≠vb:=hne _ rfl
  have eN:((i:Int)).toNat=i:=Int.toNat_natCast i
  have e1N:((i:Int)+((1:Nat):Int)).toNat=i+1:=by omega
  have enN:((n:Int)+((1:Nat):Int)).toNat=n+1:=by omega
  obtain⟨L,hL⟩:∃L:List Value,L=cur.toList:=⟨_,rfl⟩
  have hLa:cur=L.toArray:=by rw[hL]
  rw[<-hL]at hcur
  have hLl:L.length=c*3:=by rw[hL];simpa using hcs
  rw[hLa]at hg
  have hgs:∀j v,xs[j]? =some v->L[j]? =some v:=fun j v hj=>by
   rw[<-hcur,List.getElem?_take]at hj
   split at hj
   ·exact hj
   ·cases hj
  have hov:=Lib.run_overlaps_apart w 29 4 39 el_Sws.und 3 Tryz.sizeOf39 ⟨vb,0,none⟩ ⟨g,(i+1)*3,none⟩ 1 cc (n+1 - (i+1)) (c - (i+1)) (fun e=>hgv e.symm) 39 39 (cc*3) (c*3) (by simp[World.shape?,hv,hvs]) (by simp[World.shape?,hg,hLl]) (by omega) (Lib.frozen_of_heap hv _) (Lib.frozen_of_heap hv _)
  have hco:(callFunc 92 #[.slice (some ⟨vb,0,none⟩) 1 cc,.slice (some ⟨g,(i+1)*3,none⟩) (n+1 - (i+1)) (c - (i+1))]).run Tryz.prog w= .ok (.value (.bool false)) w:=by
   rw[run_callFunc_extern Tryz.func92 (by kernel_rfl) (by kernel_rfl) (by kernel_rfl) (e:=Extern.SlicesOverlaps.overlaps #[29,29] #[4]) (by kernel_rfl),hov]
   rfl
  rw[e1N,enN,eN]
  have hc1:n+1<=c:=by omega
  rw[cut3 (by omega),cut3 (by omega)]
  have hxd:(xs.drop (i*3)).length=(n - i)*3:=by rw[List.length_drop,hxl];omega
  refine⟨by simp only[inR];omega,by omega,by simp only[inR];omega,by omega,_,w,hco,Below.refl _ _,Nat.le_refl _,fun k ty cs h=>(by cases h),_,rfl,fun _=>⟨by simp only[inR];omega,by omega,by omega,fun w1 x1=> ?_⟩,fun h=>absurd rfl h⟩
  have g1:w1.heap[g]? =some (.cells L.toArray 39 (0,0)):=ext_nil x1 hg
  have v1:w1.heap[vb]? =some (.cells cv 39 (0,0)):=ext_nil x1 hv
  refine runOk_copyS el_Sws (cs:=xs.drop (i*3)) (cur:=L) (by rw[hxd];simp only[Nat.min_def];split<;>omega) (fun j v hj=> ?_) g1 (by rw[hxd];omega) (fun v hv2=>h1 v (List.mem_of_mem_drop hv2)) hBg (by simp) fun w2 c1 c2 c3 c4=>⟨by omega,?_⟩
  ·rw[List.getElem?_drop]at hj
   have:=hgs (i*3+j) v hj
   rw[add_plain0]
   simp only[World.cell?,g1]
   simpa using this
  refine runOk_copyS el_Sws (cs:=x) (cur:=setCells L ((i+1)*3) (xs.drop (i*3))) (by rw[hxn];simp only[Nat.min_def];split<;>omega) (hsrcv (by rw[c2 vb (fun e=>hgv e.symm)];exact v1)) c1 (by rw[setCells_len];omega) hx1 hBg (by simp) fun w3 d1 d2 d3 d4=> ?_
  refine⟨_,_,rfl,fin _ _ _ ⟨by simp[hxl,hxn];omega,.inr ⟨g,c,_,rfl,hBg,d1,by omega,hcm,by simp[setCells_len,hLl],?_⟩⟩,?_,fun k hk hka=> ?_⟩
  ·have hlen1:(i+1)*3+(xs.drop (i*3)).length<=L.length:=by rw[hxd];omega
   have hlen2:i*3+x.length<=(setCells L ((i+1)*3) (xs.drop (i*3))).length:=by rw[setCells_len];omega
   have:=ins_takeS (L:=setCells (setCells L ((i+1)*3) (xs.drop (i*3))) (i*3) x) (x:=x) (p:=i*3) hxl hxn (by omega) (fun k hk=>by
     rw[setCells_get _ _ _ _ hlen2,if_neg (by omega),setCells_get _ _ _ _ hlen1,if_neg (by omega)]
     obtain⟨v,hv3⟩:∃v,xs[k]? =some v:=⟨xs[k]'(by omega),List.getElem?_eq_getElem _⟩
     rw[hv3,hgs k v hv3])
    (fun k hk=>by
     rw[setCells_get _ _ _ _ hlen2,if_pos (by omega)]
     rw[show i*3+k - i*3=k by omega])
    (fun k hk hk2=>by
     rw[setCells_get _ _ _ _ hlen2,if_neg (by omega),setCells_get _ _ _ _ hlen1,if_pos (by rw[hxd];omega),List.getElem?_drop]
     rw[show i*3+(k+3 - (i+1)*3)=k by omega])
   rw[show(n+1)*3=n*3+3 by omega]
   simpa using this
  ·have:=x1.below.size;omega
  ·have hkg:k≠g:=hka _ rfl
   rw[d2 k hkg,c2 k hkg]
   rcases x1.other k hk with h7|⟨t,ht,_⟩
   ·exact h7
   ·simp at ht

def gP(ps:List Pa)(f:Pa->ByteArray)(id:Int):Rat:=match (pix ps id).bind fun i=>ps[i]? with|some p=>qR (f p)|none=>0
def gH(hs:List Ho)(f:Ho->ByteArray)(id:Int):Rat:=match (hix hs id).bind fun i=>hs[i]? with|some h=>qR (f h)|none=>0
def tP(ps:List Pa)(f:Pa->ByteArray)(s:Sw):Rat:=(s.units:Rat)*gP ps f s.parcel
def tH(ps:List Pa)(hs:List Ho)(f:Ho->ByteArray)(s:Sw):Rat:=(s.units:Rat)*gP ps Pa.mass s.parcel*gH hs f s.hold
abbrev ldV(a b c x y z:Rat):Value:= .agg #[.string (rS a),.string (rS b),.string (rS c),.string (rS x),.string (rS y),.string (rS z)]
def ldF(ps:List Pa)(hs:List Ho)(l:List Sw):Value:=ldV (sumR (tP ps Pa.mass) l) (sumR (tP ps Pa.vol) l) (sumR (tP ps Pa.worth) l) (sumR (tH ps hs Ho.x) l) (sumR (tH ps hs Ho.y) l) (sumR (tH ps hs Ho.z) l)
theorem gP_at{ps:List Pa}{id:Int}{i:Nat}{p:Pa}(h:pix ps id=some i)(e:ps[i]? =some p)(f:Pa->ByteArray):gP ps f id=qR (f p):=by
 unfold gP;rw[h,Option.bind_some,e]
theorem gH_at{hs:List Ho}{id:Int}{i:Nat}{p:Ho}(h:hix hs id=some i)(e:hs[i]? =some p)(f:Ho->ByteArray):gH hs f id=qR (f p):=by
 unfold gH;rw[h,Option.bind_some,e]
theorem sumR_snoc(f:Sw->Rat)(l:List Sw)(s:Sw):sumR f (l++[s])=sumR f l+f s:=by rw[sumR_append,sumR_one]
theorem pix_lt{ps:List Pa}{id:Int}{i:Nat}(h:pix ps id=some i):∃hi:i<ps.length,ps[i].id=id:=by
 obtain⟨p,e,k⟩:=pix_some h
 obtain⟨hi,rfl⟩:=List.getElem?_eq_some_iff.1 e
 exact⟨hi,k⟩
theorem hix_lt{hs:List Ho}{id:Int}{i:Nat}(h:hix hs id=some i):∃hi:i<hs.length,hs[i].id=id:=by
 obtain⟨p,e,k⟩:=hix_some h
 obtain⟨hi,rfl⟩:=List.getElem?_eq_some_iff.1 e
 exact⟨hi,k⟩
structure LdOk (ps:List Pa) (hs:List Ho) (l:List Sw):Prop where
 c:RightC ps hs
 known:∀s∈l,∃i k,pix ps s.parcel=some i/\hix hs s.hold=some k
 u:∀s∈l,1<=s.units/\s.units<=9
 n:l.length<=40
theorem LdOk.filter{ps:List Pa}{hs:List Ho}{l:List Sw}(h:LdOk ps hs l)(q:Sw->Bool):LdOk ps hs (l.filter q):=
 ⟨h.c,fun s hs'=>h.known s (List.mem_filter.1 hs').1,fun s hs'=>h.u s (List.mem_filter.1 hs').1,Nat.le_trans (List.length_filter_le _ _) h.n⟩
theorem units_mem{l:List Sw}(h:∀s∈l,1<=s.units){s:Sw}(hs:s∈l):s.units<=unitsF l s.parcel:=by
 obtain⟨a,b,rfl⟩:=List.append_of_mem hs
 rw[show a++s::b=a++([s]++b)from rfl,unitsF_append,unitsF_append,unitsF_one,if_pos rfl]
 have h1:=unitsF_nonneg (l:=a) (fun x hx=>h x (by simp[hx])) s.parcel
 have h2:=unitsF_nonneg (l:=b) (fun x hx=>h x (by simp[hx])) s.parcel
 omega
theorem RightS.ld{ps:List Pa}{hs:List Ho}{l:List Sw}(h:RightS ps hs l)(hn:l.length<=40):LdOk ps hs l:=by
 refine⟨h.c,h.known,fun s hs'=>⟨h.pos s hs',?_⟩,hn⟩
 obtain⟨i,k,hi,_⟩:=h.known s hs'
 obtain⟨p,e,hid⟩:=pix_some hi
 have hm:=List.mem_of_getElem? e
 have h1:=h.full p hm
 have h2:=units_mem h.pos hs'
 have h3:=(h.c.p1 p hm).2.1.2
 rw[hid]at h1
 omega
theorem sm_n{z:Int}(h1:1<=z)(h9:z<=9):Sm 1 (z:Rat):=Sm.ofInt (by omega) (by omega)
theorem sm_sum{f:Sw->Rat}{l:List Sw}(h:∀s∈l,Sm 2001 (f s)):Sm (2002*l.length+1) (sumR f l):=by
 induction l with
 |nil=>exact Sm.zero (by omega)
 |cons s r ih=>
  rw[show s::r=[s]++r from rfl,sumR_append,sumR_one]
  refine((h s (by simp)).add (ih fun x hx=>h x (by simp[hx]))).mono ?_
  simp
  omega

section
variable {w0:World} {A0 A1 A:Option Addr} {n0 c0 n1 c1 n c:Nat} {ps:List Pa} {hs:List Ho} {l:List Sw} {R:Value->World->Prop}
theorem LdOk.smP(h:LdOk ps hs l)(hc:CgIn w0 A0 n0 A1 n1 ps hs){s:Sw}(hs':s∈l):Sm 1000 (gP ps Pa.mass s.parcel)/\Sm 1000 (gP ps Pa.vol s.parcel)/\Sm 1000 (gP ps Pa.worth s.parcel):=by
 obtain⟨i,k,hi,_⟩:=h.known s hs'
 obtain⟨p,e,_⟩:=pix_some hi
 have hm:=List.mem_of_getElem? e
 have hv:=h.c.vp p hm
 have hsm:=hc.sp p hm
 unfold vP at hv
 simp only[Bool.and_eq_true]at hv
 rw[gP_at hi e,gP_at hi e,gP_at hi e]
 exact⟨vR_sm hv.1.1 hsm.mass,vR_sm hv.1.2 hsm.vol,vR_sm hv.2 hsm.worth⟩
theorem LdOk.smH(h:LdOk ps hs l)(hc:CgIn w0 A0 n0 A1 n1 ps hs){s:Sw}(hs':s∈l):Sm 1000 (gH hs Ho.x s.hold)/\Sm 1000 (gH hs Ho.y s.hold)/\Sm 1000 (gH hs Ho.z s.hold):=by
 obtain⟨_,i,_,hi⟩:=h.known s hs'
 obtain⟨p,e,_⟩:=hix_some hi
 have hm:=List.mem_of_getElem? e
 have hv:=h.c.vh p hm
 have hsm:=hc.sh p hm
 unfold vH at hv
 simp only[Bool.and_eq_true]at hv
 rw[gH_at hi e,gH_at hi e,gH_at hi e]
 exact⟨vR_sm hv.1.1.2 hsm.x,vR_sm hv.1.2 hsm.y,vR_sm hv.2 hsm.z⟩
theorem LdOk.smT(h:LdOk ps hs l)(hc:CgIn w0 A0 n0 A1 n1 ps hs){s:Sw}(hs':s∈l):
  (Sm 2001 (tP ps Pa.mass s)/\Sm 2001 (tP ps Pa.vol s)/\Sm 2001 (tP ps Pa.worth s))/\(Sm 2001 (tH ps hs Ho.x s)/\Sm 2001 (tH ps hs Ho.y s)/\Sm 2001 (tH ps hs Ho.z s)):=by
 obtain⟨a,b,d⟩:=h.smP hc hs'
 obtain⟨x,y,z⟩:=h.smH hc hs'
 have hn:=sm_n (h.u s hs').1 (h.u s hs').2
 exact⟨⟨(hn.mul a).mono (by omega),(hn.mul b).mono (by omega),(hn.mul d).mono (by omega)⟩,((hn.mul a).mul x).mono (by omega),((hn.mul a).mul y).mono (by omega),((hn.mul a).mul z).mono (by omega)⟩
theorem LdOk.smL(h:LdOk ps hs l)(hc:CgIn w0 A0 n0 A1 n1 ps hs):
  (Big (sumR (tP ps Pa.mass) l)/\Big (sumR (tP ps Pa.vol) l)/\Big (sumR (tP ps Pa.worth) l))/\(Big (sumR (tH ps hs Ho.x) l)/\Big (sumR (tH ps hs Ho.y) l)/\Big (sumR (tH ps hs Ho.z) l)):=by
 have hn:=h.n
 exact⟨⟨(sm_sum fun s hs'=>(h.smT hc hs').1.1).mono (by omega),(sm_sum fun s hs'=>(h.smT hc hs').1.2.1).mono (by omega),(sm_sum fun s hs'=>(h.smT hc hs').1.2.2).mono (by omega)⟩,
  (sm_sum fun s hs'=>(h.smT hc hs').2.1).mono (by omega),(sm_sum fun s hs'=>(h.smT hc hs').2.2.1).mono (by omega),(sm_sum fun s hs'=>(h.smT hc hs').2.2.2).mono (by omega)⟩
theorem LdOk.take(h:LdOk ps hs l)(i:Nat):LdOk ps hs (l.take i):=
 ⟨h.c,fun s hs'=>h.known s (List.mem_of_mem_take hs'),fun s hs'=>h.u s (List.mem_of_mem_take hs'),by have:=h.n;rw[List.length_take];omega⟩

theorem laden_L3 (hg : Glob w0) (hc : CgIn w0 A0 n0 A1 n1 ps hs) (h : SlR w0 A 3 (l.map Sw.row)) (hl : l.length = n) (hok : LdOk ps hs l) (t0 t1 t2 t3 t4 t5 : ByteArray) :
    ∀ (d i : Nat) (w : World), n - i = d → i ≤ n → Below w0.heap.size w0 w →
      F.cargo_laden.L3 A n c n i A0 n0 c0 A1 n1 c1 t0 t1 t2 t3 t4 t5 (rS (sumR (tP ps Pa.mass) (l.take i))) (rS (sumR (tP ps Pa.vol) (l.take i))) (rS (sumR (tP ps Pa.worth) (l.take i))) (rS (sumR (tH ps hs Ho.x) (l.take i))) (rS (sumR (tH ps hs Ho.y) (l.take i))) (rS (sumR (tH ps hs Ho.z) (l.take i))) w0.heap.size w fun v _ => v = ldF ps hs l := by
  intro d
  induction d with
  | zero =>
    intro i w hd hi hw
    refine F.cargo_laden.L3.step _ _ _ _ _ _ _ _ _ _ _ _ _ _ _ _ _ _ _ _ _ _ _ _ _ _ ⟨fun h => by omega, fun _ w2 _ => ?_⟩
    rw [List.take_of_length_le (by omega)]
    rfl
  | succ d ih =>
    intro i w hd hi hw
    have hil : i < l.length := by omega
    have hn40 := hok.n
    have e3 : (i : Int) + 1 = ((i + 1 : Nat) : Int) := by omega
    have et : l.take (i + 1) = l.take i ++ [l[i]] := by rw [List.take_add_one, List.getElem?_eq_getElem hil]; rfl
    have hmem : l[i] ∈ l := List.getElem_mem hil
    obtain ⟨ip, ih', hip, hih⟩ := hok.known l[i] hmem
    obtain ⟨hpl, hpid⟩ := pix_lt hip
    obtain ⟨hhl, hhid⟩ := hix_lt hih
    obtain ⟨⟨b1, b2, b3⟩, b4, b5, b6⟩ := (hok.take i).smL hc
    obtain ⟨m1, m2, m3⟩ := hok.smP hc hmem
    obtain ⟨m4, m5, m6⟩ := hok.smH hc hmem
    obtain ⟨⟨k1, k2, k3⟩, k4, k5, k6⟩ := hok.smT hc hmem
    have hu := hok.u l[i] hmem
    have hun := sm_n hu.1 hu.2
    have hunB : Big ((l[i].units : Int) : Rat) := hun.mono (by omega)
    have hvp := hok.c.vp _ (List.getElem_mem hpl)
    have hvh := hok.c.vh _ (List.getElem_mem hhl)
    unfold vP at hvp
    unfold vH at hvh
    simp only [Bool.and_eq_true] at hvp hvh
    have p1 : ps[ip].mass = rS (gP ps Pa.mass l[i].parcel) := by rw [gP_at hip (List.getElem?_eq_getElem hpl)]; exact vR_eq hvp.1.1
    have p2 : ps[ip].vol = rS (gP ps Pa.vol l[i].parcel) := by rw [gP_at hip (List.getElem?_eq_getElem hpl)]; exact vR_eq hvp.1.2
    have p3 : ps[ip].worth = rS (gP ps Pa.worth l[i].parcel) := by rw [gP_at hip (List.getElem?_eq_getElem hpl)]; exact vR_eq hvp.2
    have p4 : hs[ih'].x = rS (gH hs Ho.x l[i].hold) := by rw [gH_at hih (List.getElem?_eq_getElem hhl)]; exact vR_eq hvh.1.1.2
    have p5 : hs[ih'].y = rS (gH hs Ho.y l[i].hold) := by rw [gH_at hih (List.getElem?_eq_getElem hhl)]; exact vR_eq hvh.1.2
    have p6 : hs[ih'].z = rS (gH hs Ho.z l[i].hold) := by rw [gH_at hih (List.getElem?_eq_getElem hhl)]; exact vR_eq hvh.2
    have big : ∀ {x : Rat}, Sm 2001 x → Big x := fun h => h.mono (by omega)
    have bg : ∀ {x : Rat}, Sm 1000 x → Big x := fun h => h.mono (by omega)
    have fin : ∀ (w : World) (a b : Int), Below w0.heap.size w0 w →
        F.cargo_laden.J6 A n c n i A0 n0 c0 A1 n1 c1 t0 t1 t2 t3 t4 t5 (rS (sumR (tP ps Pa.mass) (l.take i))) (rS (sumR (tP ps Pa.vol) (l.take i))) (rS (sumR (tP ps Pa.worth) (l.take i))) (rS (sumR (tH ps hs Ho.x) (l.take i))) (rS (sumR (tH ps hs Ho.y) (l.take i))) (rS (sumR (tH ps hs Ho.z) (l.take i)))
          l[i].hold l[i].parcel l[i].units ps[ip].id a b ps[ip].name ps[ip].mass ps[ip].vol ps[ip].worth hs[ih'].x hs[ih'].y hs[ih'].z w0.heap.size w fun v _ => v = ldF ps hs l := by
      intro w a b hw
      rw [p1, p2, p3, p4, p5, p6]
      have next : ∀ w', Below w0.heap.size w0 w' → F.cargo_laden.L3 A n c n ((i : Int) + 1) A0 n0 c0 A1 n1 c1 t0 t1 t2 t3 t4 t5 (rS (sumR (tP ps Pa.mass) (l.take i) + tP ps Pa.mass l[i])) (rS (sumR (tP ps Pa.vol) (l.take i) + tP ps Pa.vol l[i])) (rS (sumR (tP ps Pa.worth) (l.take i) + tP ps Pa.worth l[i])) (rS (sumR (tH ps hs Ho.x) (l.take i) + tH ps hs Ho.x l[i])) (rS (sumR (tH ps hs Ho.y) (l.take i) + tH ps hs Ho.y l[i])) (rS (sumR (tH ps hs Ho.z) (l.take i) + tH ps hs Ho.z l[i])) w0.heap.size w' fun v _ => v = ldF ps hs l := by
        intro w' hw'
        have := ih (i + 1) w' (by omega) (by omega) hw'
        rw [et] at this
        simp only [sumR_snoc] at this
        rw [e3]
        exact this
      unfold tP tH at *
      refine F.cargo_laden.J6.step _ _ _ _ _ _ _ _ _ _ _ _ _ _ _ _ _ _ _ _ _ _ _ _ _ _ _ _ _ _ _ _ _ _ _ _ _ _ _ (Pure.mono (cargo_number (hg.next hw) (by omega) (by omega)) ?_)
      rintro v w1 h1 rfl
      have hw := kP hw h1; clear h1
      refine ⟨_, rfl, Pure.mono (cargo_mul (hg.next hw) hunB (bg m1)) ?_⟩
      rintro v w2 h1 rfl
      have hw := kP hw h1; clear h1
      refine ⟨_, rfl, fun w3 x3 => ?_⟩
      have hw := kE hw x3; clear x3
      refine Pure.mono (cargo_add (hg.next hw) b1 (big k1)) ?_
      rintro v w4 h1 rfl
      have hw := kP hw h1; clear h1
      refine ⟨_, rfl, Pure.mono (cargo_mul (hg.next hw) hunB (bg m2)) ?_⟩
      rintro v w5 h1 rfl
      have hw := kP hw h1; clear h1
      refine ⟨_, rfl, Pure.mono (cargo_add (hg.next hw) b2 (big k2)) ?_⟩
      rintro v w6 h1 rfl
      have hw := kP hw h1; clear h1
      refine ⟨_, rfl, Pure.mono (cargo_mul (hg.next hw) hunB (bg m3)) ?_⟩
      rintro v w7 h1 rfl
      have hw := kP hw h1; clear h1
      refine ⟨_, rfl, Pure.mono (cargo_add (hg.next hw) b3 (big k3)) ?_⟩
      rintro v w8 h1 rfl
      have hw := kP hw h1; clear h1
      refine ⟨_, rfl, fun w9 x9 => ?_⟩
      have hw := kE hw x9; clear x9
      refine Pure.mono (cargo_mul (hg.next hw) (big k1) (bg m4)) ?_
      rintro v w10 h1 rfl
      have hw := kP hw h1; clear h1
      refine ⟨_, rfl, Pure.mono (cargo_add (hg.next hw) b4 (big k4)) ?_⟩
      rintro v w11 h1 rfl
      have hw := kP hw h1; clear h1
      refine ⟨_, rfl, Pure.mono (cargo_mul (hg.next hw) (big k1) (bg m5)) ?_⟩
      rintro v w12 h1 rfl
      have hw := kP hw h1; clear h1
      refine ⟨_, rfl, Pure.mono (cargo_add (hg.next hw) b5 (big k5)) ?_⟩
      rintro v w13 h1 rfl
      have hw := kP hw h1; clear h1
      refine ⟨_, rfl, Pure.mono (cargo_mul (hg.next hw) (big k1) (bg m6)) ?_⟩
      rintro v w14 h1 rfl
      have hw := kP hw h1; clear h1
      refine ⟨_, rfl, Pure.mono (cargo_add (hg.next hw) b6 (big k6)) ?_⟩
      rintro v w15 h1 rfl
      have hw := kP hw h1; clear h1
      refine ⟨_, rfl, by simp only [inR]; omega, fun w16 x16 => ?_⟩
      exact next w16 (kE hw x16)
    clear ih
    obtain ⟨hb, a, hA, hcell, _⟩ := (h.keep hw (Nat.le_refl _)).at_ (fun _ => rfl) hl hil
    obtain ⟨hbp, ap, hAp, _⟩ := hc.p.at_ (fun _ => rfl) hc.lp hpl
    obtain ⟨hbh, ah, hAh, _⟩ := hc.h.at_ (fun _ => rfl) hc.lh hhl
    have cP : ∀ w, Below w0.heap.size w0 w → CellsAt w (ap.add ((ip : Int).toNat * 7)) (ps[ip].row) := fun w hw => by
      obtain ⟨_, a', hA', hc', _⟩ := (hc.p.keep hw (Nat.le_refl _)).at_ (fun _ => rfl) hc.lp hpl
      rw [hAp] at hA'
      cases hA'
      exact hc'
    have cH : ∀ w, Below w0.heap.size w0 w → CellsAt w ((ah.add ((ih' : Int).toNat * 7)).add 4) [.string hs[ih'].x, .string hs[ih'].y, .string hs[ih'].z] := fun w hw => by
      obtain ⟨_, a', hA', hc', _⟩ := (hc.h.keep hw (Nat.le_refl _)).at_ (fun _ => rfl) hc.lh hhl
      rw [hAh] at hA'
      cases hA'
      exact cells_part hc' 4 3
    refine F.cargo_laden.L3.step _ _ _ _ _ _ _ _ _ _ _ _ _ _ _ _ _ _ _ _ _ _ _ _ _ _ ⟨fun _ => ⟨hb, a, hA, _, _, _, hcell, fun w6 x6 => ?_⟩, fun h => by omega⟩
    have hw6 := kE hw x6
    have par : ∀ w, Below w0.heap.size w0 w → Pure Tryz.prog 62 #[.agg #[.slice A0 n0 c0, .slice A1 n1 c1], .int .i64 l[i].parcel] w fun v _ => v = .int .i64 (ip : Int) := fun w hw => by
      have := cargo_parcel (c0 := c0) (c1 := c1) (hc.keep hw) l[i].parcel
      rw [hip] at this
      exact this
    have hol : ∀ w, Below w0.heap.size w0 w → Pure Tryz.prog 63 #[.agg #[.slice A0 n0 c0, .slice A1 n1 c1], .int .i64 l[i].hold] w fun v _ => v = .int .i64 (ih' : Int) := fun w hw => by
      have := cargo_hold (c0 := c0) (c1 := c1) (hc.keep hw) l[i].hold
      rw [hih] at this
      exact this
    have leafA : ∀ (w : World), Below w0.heap.size w0 w → ∃ s25 s26 s27 : ByteArray, CellsAt w ((ah.add ((ih' : Int).toNat * 7)).add 4) [.string s25, .string s26, .string s27] ∧ ∀ (ts : List Nat) w28, Ext w0.heap.size ts w w28 → F.cargo_laden.J6 A n c n i A0 n0 c0 A1 n1 c1 t0 t1 t2 t3 t4 t5 (rS (sumR (tP ps Pa.mass) (l.take i))) (rS (sumR (tP ps Pa.vol) (l.take i))) (rS (sumR (tP ps Pa.worth) (l.take i))) (rS (sumR (tH ps hs Ho.x) (l.take i))) (rS (sumR (tH ps hs Ho.y) (l.take i))) (rS (sumR (tH ps hs Ho.z) (l.take i)))
          l[i].hold l[i].parcel l[i].units ps[ip].id ps[ip].units ps[ip].cls ps[ip].name ps[ip].mass ps[ip].vol ps[ip].worth s25 s26 s27 w0.heap.size w28 fun v _ => v = ldF ps hs l :=
      fun w hw => ⟨_, _, _, cH w hw, fun ts w28 x => fin w28 _ _ (kE hw x)⟩
    have leaf2 : ∀ (ts ts' : List Nat) (w : World), Below w0.heap.size w0 w → ∀ w24, Ext w0.heap.size ts w w24 → ∃ s25 s26 s27 : ByteArray, CellsAt w24 ((ah.add ((ih' : Int).toNat * 7)).add 4) [.string s25, .string s26, .string s27] ∧ ∀ w28, Ext w0.heap.size ts' w24 w28 → F.cargo_laden.J6 A n c n i A0 n0 c0 A1 n1 c1 t0 t1 t2 t3 t4 t5 (rS (sumR (tP ps Pa.mass) (l.take i))) (rS (sumR (tP ps Pa.vol) (l.take i))) (rS (sumR (tP ps Pa.worth) (l.take i))) (rS (sumR (tH ps hs Ho.x) (l.take i))) (rS (sumR (tH ps hs Ho.y) (l.take i))) (rS (sumR (tH ps hs Ho.z) (l.take i)))
          l[i].hold l[i].parcel l[i].units ps[ip].id ps[ip].units ps[ip].cls ps[ip].name ps[ip].mass ps[ip].vol ps[ip].worth s25 s26 s27 w0.heap.size w28 fun v _ => v = ldF ps hs l :=
      fun ts ts' w hw w24 x => by
        obtain ⟨s1, s2, s3, e, f⟩ := leafA w24 (kE hw x)
        exact ⟨s1, s2, s3, e, fun w28 x28 => f ts' w28 x28⟩
    clear fin
    refine ⟨fun w7 x7 => ?_, fun w55 x55 => ?_⟩
    · have hw7 := kE hw6 x7
      refine Pure.mono (par w7 hw7) ?_
      rintro v w10 h10 rfl
      have hw10 := kP hw7 h10
      refine ⟨_, rfl, hbp, ap, hAp, _, _, _, _, _, _, _, cP w6 hw6, fun w19 x19 => ?_, fun w34 x34 => ?_⟩
      · have hw19 := kE hw10 x19
        refine Pure.mono (hol w19 hw19) ?_
        rintro v w22 h22 rfl
        have hw22 := kP hw19 h22
        exact ⟨_, rfl, hbh, ah, hAh, leaf2 _ _ w22 hw22, leaf2 _ _ w22 hw22⟩
      · have hw34 := kE hw10 x34
        refine Pure.mono (hol w34 hw34) ?_
        rintro v w37 h37 rfl
        have hw37 := kP hw34 h37
        exact ⟨_, rfl, ⟨hbh, ah, hAh, leaf2 _ _ w37 hw37, leaf2 _ _ w37 hw37⟩, hbh, ah, hAh, leaf2 _ _ w37 hw37⟩
    · have hw55 := kE hw6 x55
      refine Pure.mono (par w55 hw55) ?_
      rintro v w58 h58 rfl
      have hw58 := kP hw55 h58
      refine ⟨_, rfl, hbp, ap, hAp, _, _, _, _, _, _, _, cP w6 hw6, fun w67 x67 => ?_⟩
      have hw67 := kE hw58 x67
      refine Pure.mono (hol w67 hw67) ?_
      rintro v w70 h70 rfl
      have hw70 := kP hw67 h70
      exact ⟨_, rfl, hbh, ah, hAh, leaf2 _ _ w70 hw70, leaf2 _ _ w70 hw70⟩
theorem cargo_laden(hg:Glob w0)(hc:CgIn w0 A0 n0 A1 n1 ps hs)(h:SlR w0 A 3 (l.map Sw.row))(hl:l.length=n)(hok:LdOk ps hs l):
  Pure Tryz.prog 103 #[.agg #[.slice A0 n0 c0,.slice A1 n1 c1],.slice A n c] w0 fun v _=>v=ldF ps hs l:=by
 refine F.cargo_laden.vc _ _ _ _ _ _ _ _ _ _ _ fun w1 x1=> ?_
 have:=laden_L3 (c:=c) (c0:=c0) (c1:=c1) hg hc h hl hok (⟨#[]⟩) (⟨#[]⟩) (⟨#[]⟩) (⟨#[]⟩) (⟨#[]⟩) (⟨#[]⟩) n 0 w1 rfl (by omega) (k0 x1)
 simp only[List.take_zero,sumR_nil,<-s0]at this
 exact this
end

theorem CloneS{w:World}{A:Option Addr}{n c:Nat}{l:List Sw}(h:SlR w A 3 (l.map Sw.row))(hlen:l.length=n)(hn:n<=1000000):
  Pure Tryz.prog 14 #[.slice A n c] w fun v w'=>∃A' c',v= .slice A' n c'/\OwnR w' w.heap.size 39 A' n c' 3 (l.map Sw.row):=by
 refine F.slices_Clone_api_Stow_api_Stow.vc _ _ _ _ _ ⟨fun hA=> ?_,fun hA=> ?_⟩
 ·subst hA
  have:=h.none_nil
  simp at this
  subst this
  simp at hlen
  subst hlen
  exact⟨none,0,rfl,OwnR.nil⟩
 ·obtain⟨a,rfl⟩:=Option.ne_none_iff_exists'.1 hA
  refine runOk_lit el_Sws [] (by simp) (by simp) (Nat.le_refl _) fun A2 c2 w2 ho b2=> ?_
  refine app_rows el_Sws (Nat.le_refl _) (by simpa using ho) (h.below b2) (by simpa using hlen) (fun r hr=>by obtain⟨s,_,rfl⟩:=List.mem_map.1 hr;rfl) (fun r hr=>by obtain⟨s,_,rfl⟩:=List.mem_map.1 hr;intro u hu;simp[Sw.row]at hu;rcases hu with rfl|rfl|rfl<;>rfl) b2.size (by simp;omega) (by simp) fun A' c' w3 o3 _ b3=> ?_
  simp only[List.length_nil,Nat.zero_add,List.nil_append]at o3⊢
  exact⟨A',c',rfl,o3⟩
def inS(l:List Sw)(id:Int):List Sw:=l.filter fun s=>decide (s.hold=id)
theorem cargo_in{w:World}{A:Option Addr}{n c:Nat}{l:List Sw}(h:SlR w A 3 (l.map Sw.row))(hlen:l.length=n)(hn:n<=1000000)(id:Int):
  Pure Tryz.prog 104 #[.slice A n c,.int .i64 id] w fun v w'=>∃A' m c',v= .slice A' m c'/\SlR w' A' 3 ((inS l id).map Sw.row)/\(inS l id).length=m:=by
 refine F.cargo_in.vc _ _ _ _ _ _ fun w1 x1=> ?_
 have hw1:=k0 x1
 refine Pure.mono (CloneS (h.keep hw1 (Nat.le_refl _)) hlen hn) ?_
 rintro v w4 b4 ⟨A',c',rfl,ho⟩
 refine⟨_,_,_,rfl,fun p5 hp5 hbox=> ?_⟩
 have hw4:=kP hw1 b4
 have hne:∀a,A'=some a->p5≠a.block:=fun a ha e=>by
  obtain⟨cs,hcs⟩:=ho.cells a ha
  rw[<-e,hbox]at hcs
  simp at hcs
 have hlt:p5<w4.heap.size:=(Array.getElem?_eq_some_iff.1 hbox).1
 refine PureB.mono (DeleteFuncS (p:=fun s=>decide (s.hold≠id)) hw4.size (ho.base hw1.size) (by omega) (by kernel_rfl) fun w' hoth x=> ?_) ?_
 ·refine F.cargo_in_c1.vc _ _ _ _ _ _ fun w5 x5=>⟨_,box_all (ty:=3) ?_,rfl⟩
  exact(k0 x5).block p5 (Nat.lt_of_lt_of_le hlt hoth.1)|>.trans ((hoth.2 p5 hlt hne).trans hbox)
 ·rintro v w8 b8 ⟨m,rfl,o8,_⟩
  refine⟨fun _ _ _ ht=>(by cases ht),_,_,_,rfl,_,_,_,rfl,?_⟩
  have e:(l.filter fun x=> !(decide (x.hold≠id)))=inS l id:=by
   unfold inS
   refine List.filter_congr fun s _=> ?_
   by_cases h:s.hold=id<;>simp[h]
  rw[e]at o8
  exact⟨o8.sl,by simpa using o8.len⟩

abbrev ld0:Value:= .agg #[.string ⟨#[]⟩,.string ⟨#[]⟩,.string ⟨#[]⟩,.string ⟨#[]⟩,.string ⟨#[]⟩,.string ⟨#[]⟩]
def heldV(ps:List Pa)(hs:List Ho)(l:List Sw)(id:Int):Value:=
 if stowedF ps hs l≠0 then .tuple #[ld0,.int .i64 1]else if hix hs id=none then .tuple #[ld0,.int .i64 7]else .tuple #[ldF ps hs (inS l id),.int .i64 0]
def overB(ps:List Pa)(_:List Ho)(l:List Sw)(h:Ho):Bool:=
 decide (qR h.most<sumR (tP ps Pa.mass) (inS l h.id))||decide (qR h.room<sumR (tP ps Pa.vol) (inS l h.id))
def overV(ps:List Pa)(hs:List Ho)(l:List Sw):Value:=
 if stowedF ps hs l≠0 then .tuple #[.int .i64 0,.int .i64 1]else .tuple #[.int .i64 (ixI (hs.findIdx? (overB ps hs l))),.int .i64 0]
theorem ixI_neg{o:Option Nat}:ixI o<0↔o=none:=by cases o<;>simp[ixI]

section
variable {w:World} {A0 A1 A:Option Addr} {n0 c0 n1 c1 n c:Nat} {ps:List Pa} {hs:List Ho} {l:List Sw}
theorem cargo_Held(hg:Glob w)(hc:CgIn w A0 n0 A1 n1 ps hs)(h:SlR w A 3 (l.map Sw.row))(hl:l.length=n)(hnc:n<=c)(hn:n<=40)(id:Int):
  Pure Tryz.prog 129 #[.agg #[.slice A0 n0 c0,.slice A1 n1 c1],.slice A n c,.int .i64 id] w fun v _=>v=heldV ps hs l id:=by
 refine F.cargo_Held.vc _ _ _ _ _ _ _ _ _ _ _ _ fun w1 x1=> ?_
 have hw:=k0 x1
 refine Pure.mono (cargo_Stowed (hg.next hw) (hc.keep hw) (h.keep hw (Nat.le_refl _)) hl hnc (by omega)) ?_
 rintro v w4 b4 rfl
 have hw:=kP hw b4
 unfold heldV
 refine⟨_,rfl,fun h0 w5 _=>by rw[if_pos h0],fun h0=> ?_⟩
 rw[if_neg h0]
 have hok:=(stowed_right (Decidable.not_not.1 h0)).ld (by omega)
 refine Pure.mono (cargo_hold (hc.keep hw) id) ?_
 rintro v w8 b8 rfl
 have hw:=kP hw b8
 refine⟨_,rfl,fun h1 w9 _=>by rw[if_pos (ixI_neg.1 h1)],fun h1 w10 x10=> ?_⟩
 rw[if_neg (fun k=>h1 (ixI_neg.2 k))]
 have hw:=kE hw x10
 refine Pure.mono (cargo_in (h.keep hw (Nat.le_refl _)) hl (by omega) id) ?_
 rintro v w13 b13 ⟨A',m,c',rfl,hi,hil⟩
 have hw:=kP hw b13
 refine⟨_,_,_,rfl,Pure.mono (cargo_laden (hg.next hw) (hc.keep hw) hi hil (hok.filter _)) ?_⟩
 rintro v w21 b21 rfl
 exact⟨_,_,_,_,_,_,rfl,fun w22 _=>rfl⟩
theorem over_c1(hg:Glob w)(hc:CgIn w A0 n0 A1 n1 ps hs)(h:SlR w A 3 (l.map Sw.row))(hl:l.length=n)(hok:LdOk ps hs l){q0 q1:Addr}(hq0:∀w',Below w.heap.size w w'->CellsAt w' q0 [.slice A0 n0 c0,.slice A1 n1 c1])(hq1:∀w',Below w.heap.size w w'->CellsAt w' q1 [.slice A n c]){x:Ho}(hx:x∈hs):
  Pure Tryz.prog 102 #[x.val,.pointer (some q0),.pointer (some q1)] w fun v _=>v= .bool (overB ps hs l x):=by
 have hn:=hok.n
 have hvh:=hok.c.vh x hx
 unfold vH at hvh
 simp only[Bool.and_eq_true]at hvh
 have hsm:=hc.sh x hx
 have bm:Big (qR x.most):=hsm.most.big hvh.1.1.1.2
 have br:Big (qR x.room):=hsm.room.big hvh.1.1.1.1
 have em:x.most=rS (qR x.most):=vR_eq hvh.1.1.1.2
 have er:x.room=rS (qR x.room):=vR_eq hvh.1.1.1.1
 obtain⟨⟨b1,b2,b3⟩,b4,b5,b6⟩:=(hok.filter fun s=>decide (s.hold=x.id)).smL hc
 have cmp:∀w',Below w.heap.size w w'->Pure Tryz.prog 105 #[.string (rS (sumR (tP ps Pa.mass) (inS l x.id))),.string x.most] w' fun r w2=>∃i:Int,r= .int .i64 i/\((i>0->(fun(v:Value) (_:World)=>v= .bool (overB ps hs l x)) (.bool true) w2)/\(¬i>0->
   Pure Tryz.prog 105 #[.string (rS (sumR (tP ps Pa.vol) (inS l x.id))),.string x.room] w2 fun r w3=>∃i:Int,r= .int .i64 i/\(fun(v:Value) (_:World)=>v= .bool (overB ps hs l x)) (.bool (decide (i>0))) w3)):=by
  intro w' hw
  have c1:=cargo_compare (hg.next hw) b1 bm
  rw[<-em]at c1
  refine Pure.mono c1 ?_
  rintro v w2 h2 rfl
  have hw:=kP hw h2
  refine⟨_,rfl,fun k=> ?_,fun k=> ?_⟩
  ·have:=cmpR_gt.1 k
   show Value.bool true=_
   unfold overB
   rw[show(decide (qR x.most<sumR (tP ps Pa.mass) (inS l x.id)))=true from decide_eq_true this]
   rfl
  ·have c2:=cargo_compare (hg.next hw) b2 br
   rw[<-er]at c2
   refine Pure.mono c2 ?_
   rintro v w3 h3 rfl
   refine⟨_,rfl,?_⟩
   show Value.bool _=_
   unfold overB
   rw[show(decide (qR x.most<sumR (tP ps Pa.mass) (inS l x.id)))=false from decide_eq_false fun h=>k (cmpR_gt.2 h),Bool.false_or]
   refine congrArg Value.bool ?_
   rw[decide_eq_decide]
   exact cmpR_gt
 refine F.cargo_Overloaded_c1.vc _ _ _ _ _ _ _ _ _ _ _ fun w1 x1=> ?_
 have hw1:=k0 x1
 refine⟨_,_,_,_,_,_,hq0 w1 hw1,_,_,_,hq1 w1 hw1,fun w5 x5=> ?_,fun w40 x40=> ?_⟩
 ·have hw5:=kE hw1 x5
  refine Pure.mono (cargo_in (h.keep hw5 (Nat.le_refl _)) hl (by omega) x.id) ?_
  rintro v w8 b8 ⟨A',m,c',rfl,hi,hil⟩
  have hw8:=kP hw5 b8
  refine⟨_,_,_,rfl,Pure.mono (cargo_laden (hg.next hw8) (hc.keep hw8) hi hil (hok.filter _)) ?_,fun w24 x24=> ?_⟩
  ·rintro v w16 b16 rfl
   exact⟨_,_,_,_,_,_,rfl,fun w17 x17=>cmp w17 (kE (kP hw8 b16) x17)⟩
  ·have hw24:=kE hw8 x24
   refine Pure.mono (cargo_laden (hg.next hw24) (hc.keep hw24) (hi.extNil x24) hil (hok.filter _)) ?_
   rintro v w16 b16 rfl
   exact⟨_,_,_,_,_,_,rfl,fun w17 x17=>cmp w17 (kE (kP hw24 b16) x17)⟩
 ·have hw5:=kE hw1 x40
  refine Pure.mono (cargo_in (h.keep hw5 (Nat.le_refl _)) hl (by omega) x.id) ?_
  rintro v w8 b8 ⟨A',m,c',rfl,hi,hil⟩
  have hw8:=kP hw5 b8
  refine⟨_,_,_,rfl,Pure.mono (cargo_laden (hg.next hw8) (hc.keep hw8) hi hil (hok.filter _)) ?_⟩
  rintro v w16 b16 rfl
  exact⟨_,_,_,_,_,_,rfl,fun w17 x17=>cmp w17 (kE (kP hw8 b16) x17)⟩
theorem cargo_Overloaded(hg:Glob w)(hc:CgIn w A0 n0 A1 n1 ps hs)(h:SlR w A 3 (l.map Sw.row))(hl:l.length=n)(hnc:n<=c)(hn:n<=40):
  Pure Tryz.prog 71 #[.agg #[.slice A0 n0 c0,.slice A1 n1 c1],.slice A n c] w fun v _=>v=overV ps hs l:=by
 have hnh:=hc.nh
 refine F.cargo_Overloaded.vc _ _ _ _ _ _ _ _ _ _ _ fun w1 x1=> ?_
 have hw:=k0 x1
 refine Pure.mono (cargo_Stowed (hg.next hw) (hc.keep hw) (h.keep hw (Nat.le_refl _)) hl hnc (by omega)) ?_
 rintro v w4 b4 rfl
 have hw:=kP hw b4
 unfold overV
 refine⟨_,rfl,fun h0=>by rw[if_pos h0],fun h0 p5 hp5 hb5 p6 hp6 hb6=> ?_⟩
 rw[if_neg h0]
 have hok:=(stowed_right (Decidable.not_not.1 h0)).ld (by omega)
 refine Pure.mono (IndexHo (p:=overB ps hs l) ((hc.keep hw).h) hc.lh (by omega) (by kernel_rfl) fun w' hb x hx=> ?_) ?_
 ·exact over_c1 (hg.next (kP hw hb)) (hc.keep (kP hw hb)) (h.keep (kP hw hb) (Nat.le_refl _)) hl hok (fun w2 h2=>box_all (heap_keep (heap_keep hb6 hb) h2)) (fun w2 h2=>box_all (heap_keep (heap_keep hb5 hb) h2)) hx
 ·rintro v w9 b9 rfl
  exact⟨_,rfl,rfl⟩
end

theorem lbS_cons(t a:Sw)(r:List Sw):lbS t (a::r)=if befS a t then lbS t r+1 else 0:=by
 unfold lbS
 rw[List.takeWhile_cons]
 by_cases h:befS a t
 ·simp[h]
 ·simp[h]
theorem foundS_cons(t a:Sw)(r:List Sw):foundS t (a::r)=if befS a t then foundS t r else decide (a.hold=t.hold/\a.parcel=t.parcel):=by
 unfold foundS
 rw[lbS_cons]
 by_cases h:befS a t
 ·rw[if_pos h,if_pos h]
  rfl
 ·rw[if_neg h,if_neg h]
  rfl
theorem bef_tri{a t:Sw}(h:¬befS a t):(a.hold=t.hold/\a.parcel=t.parcel)∨befS t a:=by unfold befS at*;omega
theorem filter_lb{t:Sw}:∀{l:List Sw},SrtS l->l.filter (fun x=>decide (befS x t))=l.take (lbS t l):=by
 intro l
 induction l with
 |nil=>intro _;rfl
 |cons a r ih=>
  intro h
  obtain⟨p,q⟩:=List.pairwise_cons.1 h
  rw[lbS_cons]
  by_cases e:befS a t
  ·rw[if_pos e,List.filter_cons_of_pos (by simpa using e),ih q]
   rfl
  ·rw[if_neg e,List.filter_cons_of_neg (by simpa using e)]
   rw[List.take_zero,List.filter_eq_nil_iff]
   intro x hx k
   exact e (bef_trans (p x hx) (by simpa using k))
theorem filter_gt{t:Sw}:∀{l:List Sw},SrtS l->l.filter (fun x=>decide (befS t x))=l.drop (lbS t l+if foundS t l=true then 1 else 0):=by
 intro l
 induction l with
 |nil=>intro _;simp
 |cons a r ih=>
  intro h
  obtain⟨p,q⟩:=List.pairwise_cons.1 h
  rw[lbS_cons,foundS_cons]
  by_cases e:befS a t
  ·rw[if_pos e,if_pos e,List.filter_cons_of_neg (by simpa using bef_asymm e),ih q,show lbS t r+1+(if foundS t r=true then 1 else 0)=(lbS t r+if foundS t r=true then 1 else 0)+1 by omega]
   rfl
  ·rw[if_neg e,if_neg e]
   have all:∀x∈r,befS t x:=fun x hx=>by
    rcases bef_tri e with k|k
    ·have:=p x hx
     unfold befS at*
     omega
    ·exact bef_trans k (p x hx)
   have er:r.filter (fun x=>decide (befS t x))=r:=List.filter_eq_self.2 fun x hx=>by simpa using all x hx
   by_cases k:a.hold=t.hold/\a.parcel=t.parcel
   ·rw[decide_eq_true k,if_pos rfl,List.filter_cons_of_neg (by simp;unfold befS;omega),er]
    rfl
   ·rw[decide_eq_false k,if_neg (by simp),List.filter_cons_of_pos (by simpa using(bef_tri e).resolve_left k),er]
    rfl
theorem found_at{t:Sw}{l:List Sw}(h:foundS t l=true):∃hi:lbS t l<l.length,l[lbS t l].hold=t.hold/\l[lbS t l].parcel=t.parcel:=by
 unfold foundS at h
 by_cases hi:lbS t l<l.length
 ·rw[List.getElem?_eq_getElem hi]at h
  exact⟨hi,by simpa using h⟩
 ·rw[List.getElem?_eq_none (by omega)]at h
  cases h
theorem amt_found{t:Sw}{l:List Sw}(hs:SrtS l)(h:foundS t l=true)(hi:lbS t l<l.length):amtF l t.hold t.parcel=l[lbS t l].units:=by
 obtain⟨_,e1,e2⟩:=found_at h
 rw[<-amt_mem hs (List.getElem_mem hi),e1,e2]
theorem amt_unfound{t:Sw}{l:List Sw}(hs:SrtS l)(h:foundS t l=false):amtF l t.hold t.parcel=0:=by
 refine amt_none fun s hs' k=> ?_
 have e1:=filter_lb (t:=t) hs
 have e2:=filter_gt (t:=t) hs
 rw[h,if_neg (by simp),Nat.add_zero]at e2
 rw[<-List.take_append_drop (lbS t l) l,<-e1,<-e2]at hs'
 rcases List.mem_append.1 hs' with m|m
 ·have:=(List.mem_filter.1 m).2
  simp at this
  unfold befS at this
  omega
 ·have:=(List.mem_filter.1 m).2
  simp at this
  unfold befS at this
  omega
theorem upd_at{t:Sw}{l:List Sw}(hs:SrtS l){n:Int}:updS l ⟨t.hold,t.parcel,n⟩=l.take (lbS t l)++(if 0<n then[⟨t.hold,t.parcel,n⟩]else[])++l.drop (lbS t l+if foundS t l=true then 1 else 0):=by
 unfold updS
 rw[<-filter_lb hs,<-filter_gt hs]
 rfl
theorem set_at{l:List Sw}{i:Nat}(hi:i<l.length)(s:Sw):l.set i s=l.take i++[s]++l.drop (i+1):=by
 rw[List.set_eq_take_append_cons_drop,if_pos hi]
 simp

section
variable {w0:World} {A0 A1 A:Option Addr} {n0 c0 n1 c1 n c:Nat} {ps:List Pa} {hs:List Ho} {l:List Sw}
theorem put_J12(hc:CgIn w0 A0 n0 A1 n1 ps hs)(h:SlR w0 A 3 (l.map Sw.row))(hl:l.length=n)(hn:n<=40)(hr:RightS ps hs l)(t:Sw)(hu: -9<=t.units/\t.units<=9/\t.units≠0){ip:Nat}(hip:pix ps t.parcel=some ip){R:Value->World->Prop}
  (hneg:∀w,amtF l t.hold t.parcel+t.units<0->R (.tuple #[.slice none 0 0,.int .i64 11]) w)
  (hfull:∀w p,¬amtF l t.hold t.parcel+t.units<0->ps[ip]? =some p->p.units<unitsF l t.parcel+t.units->R (.tuple #[.slice none 0 0,.int .i64 12]) w)
  (hok:∀w p A m c,¬amtF l t.hold t.parcel+t.units<0->ps[ip]? =some p->¬p.units<unitsF l t.parcel+t.units->OwnR w w0.heap.size 39 A m c 3 ((updS l ⟨t.hold,t.parcel,amtF l t.hold t.parcel+t.units⟩).map Sw.row)->R (.tuple #[.slice A m c,.int .i64 0]) w)
  {w:World} (hw:Below w0.heap.size w0 w):F.cargo_Put.J12 A n c ip (lbS t l) (foundS t l) (amtF l t.hold t.parcel) A0 n0 c0 A1 n1 c1 t.hold t.parcel t.units w0.heap.size w R:=by
 obtain⟨hpl,hpid⟩:=pix_lt hip
 have hpm:=List.getElem_mem hpl
 have hpu:=(hr.c.p1 _ hpm).2.1
 have hful:=hr.full _ hpm
 rw[hpid]at hful
 have hun:=unitsF_nonneg hr.pos t.parcel
 have ham:=amt_nonneg hr.pos t.hold t.parcel
 have hlb:=lbS_le t l
 have hle:amtF l t.hold t.parcel<=9:=by
  rcases amt_spec l t.hold t.parcel with⟨e,_⟩|⟨x,hx,e1,e2,e3⟩
  ·omega
  ·have:=units_mem hr.pos hx
   rw[e1]at this
   omega
 refine F.cargo_Put.J12.step _ _ _ _ _ _ _ _ _ _ _ _ _ _ _ _ _ _ _ ⟨by simp only[inR];omega,fun k=>hneg w k,fun k=> ?_⟩
 obtain⟨hbp,ap,hAp,_,hcp⟩:=(hc.p.keep hw (Nat.le_refl _)).at_ (fun _=>rfl) hc.lp hpl
 refine⟨hbp,ap,hAp,_,hcp 1 _ rfl,fun w19 x19=> ?_⟩
 have hw:=kE hw x19
 refine Pure.mono (cargo_units (h.keep hw (Nat.le_refl _)) hl (by omega) (hr.smu t.parcel)) ?_
 rintro v w22 b22 rfl
 have hw:=kP hw b22
 refine⟨_,rfl,by simp only[inR];omega,fun k2=>hfull w22 _ k (List.getElem?_eq_getElem hpl) k2,fun k2=> ?_⟩
 have fin:=fun w A m c ho=>hok w _ A m c k (List.getElem?_eq_getElem hpl) k2 ho
 refine runOk_makeS el_Sws (by omega) hw.size fun w25 rows0 o25 b25=> ?_
 have hw25:=kP hw b25
 have hB:=hw.size
 have h25:=h.keep hw25 (Nat.le_refl _)
 refine runOk_copyAll el_Sws (o25.base hw.size) h25 (by simpa using hl) (fun r hr=>by obtain⟨s,_,rfl⟩:=List.mem_map.1 hr;rfl) (fun r hr=>by obtain⟨s,_,rfl⟩:=List.mem_map.1 hr;intro u hu;simp[Sw.row]at hu;rcases hu with rfl|rfl|rfl<;>rfl) (by decide) fun w28 o28 k28 b28=> ?_
 have hw28:=hw25.trans b28
 refine⟨by simp only[inR];omega,runOk_alloc 39 zeroSw hw28.size fun w29 hnew b29 hlt=> ?_⟩
 have hw29:=kP hw28 b29
 refine⟨_,_,hw28.size,rfl,hnew,by simp[Value.cells],rfl,fun w34 hw34=> ?_⟩
 have hcells:w34.heap[w28.heap.size]? =some (.cells ([.int .i64 t.hold,.int .i64 t.parcel,.int .i64 (amtF l t.hold t.parcel+t.units)]:List Value).toArray 39 (0,0)):=by
  have:=hw34.at_
  simpa[setCells,Value.cells]using this
 have hB34:w0.heap.size<=w34.heap.size:=by rw[hw34.size];exact hw29.size
 have hg28:w22.heap.size<w28.heap.size:=by
  have:=(o28.blk _ rfl).2
  simpa using this
 have o34:OwnR w34 w0.heap.size 39 (some ⟨w22.heap.size,0,none⟩) n n 3 (l.map Sw.row):=(o28.below b29).other fun x hx=>hw34.rest _ (by cases hx;show w22.heap.size≠w28.heap.size;omega)
 refine⟨fun hf=> ?_,fun hf=> ?_⟩
 ·have ha0:=amt_unfound hr.srt hf
  have hpos:0<amtF l t.hold t.parcel+t.units:=by omega
  refine⟨_,_,_,box_all hcells,?_⟩
  refine runOk_lit el_Sws [.agg #[.int .i64 t.hold,.int .i64 t.parcel,.int .i64 (amtF l t.hold t.parcel+t.units)]] (by simp[Value.cells]) (by simp) hB34 fun A2 c2 w40 o40 b40=> ?_
  have hA2:∃g,A2=some ⟨g,0,none⟩/\w34.heap.size<=g:=by
   rcases o40.1.2 with⟨_,h3⟩|⟨g,cap,cur,h3,h4,_⟩
   ·simp at h3
   ·cases h3;exact⟨g,rfl,h4⟩
  obtain⟨vb,rfl,hvb⟩:=hA2
  have hvr:OwnR w40 w0.heap.size 39 (some ⟨vb,0,none⟩) 1 c2 3 [(⟨t.hold,t.parcel,amtF l t.hold t.parcel+t.units⟩:Sw).row]:=o40.base hB34
  refine PureB.mono (InsertS (Nat.le_trans hB34 b40.size) (o34.below b40) (by omega) (by omega) hvr fun a ha e=> ?_) ?_
  ·cases ha
   have:=(o34.blk _ rfl).2
   simp only at e this
   omega
  ·rintro v w43 b43 ⟨A',c',rfl,o43,hoth⟩
   refine⟨fun i ty cs ht hcs=>hoth.2 i (Array.getElem?_eq_some_iff.1 hcs).1 fun a ha e=> ?_,_,_,_,rfl,fin _ _ _ _ ?_⟩
   ·cases ha
    have:=((o34.below b40).cells _ rfl)
    obtain⟨cs',hcs'⟩:=this
    rw[<-e,hcs]at hcs'
    simp only[Option.some.injEq,Obj.cells.injEq]at hcs'
    rw[hcs'.2.1]at ht
    revert ht
    decide
   ·rw[upd_at hr.srt,hf,if_pos hpos]
    simpa using o43
 ·have hf:foundS t l=true:=by simpa using hf
  obtain⟨hi,e1,e2⟩:=found_at hf
  have ha:=amt_found hr.srt hf hi
  have e3:((lbS t l:Nat):Int)+1=((lbS t l+1:Nat):Int):=by omega
  refine⟨_,(show CellsAt w34 ((⟨w28.heap.size,0,none⟩:Addr).add 2) [.int .i64 (amtF l t.hold t.parcel+t.units)]from cells_part (box_all hcells) 2 1),fun hz=> ?_,fun hz=> ?_⟩
  ·refine⟨by simp only[inR];omega,?_⟩
   rw[e3]
   refine PureB.mono (DeleteS hB34 o34 (by omega) (by omega)) ?_
   rintro v w47 b47 ⟨m,rfl,o47,hoth⟩
   refine⟨fun i ty cs ht hcs=>hoth.2 i (Array.getElem?_eq_some_iff.1 hcs).1 fun a ha e=> ?_,_,_,_,rfl,fin _ _ _ _ ?_⟩
   ·cases ha
    obtain⟨cs',hcs'⟩:=o34.cells _ rfl
    rw[<-e,hcs]at hcs'
    simp only[Option.some.injEq,Obj.cells.injEq]at hcs'
    rw[hcs'.2.1]at ht
    revert ht
    decide
   ·rw[upd_at hr.srt,hf,if_neg (by omega)]
    simpa using o47
  ·refine⟨_,_,_,box_all hcells,?_⟩
   obtain⟨g1,a2,hA2,cs,g2,g3,g4,g5,g6⟩:=o34.set0 (i:=((lbS t l:Nat):Int)) (by omega) (by omega) [.int .i64 t.hold,.int .i64 t.parcel,.int .i64 (amtF l t.hold t.parcel+t.units)] ((l[lbS t l]'(by omega)).row) (by rw[Int.toNat_natCast,List.getElem?_map,List.getElem?_eq_getElem (by omega)];rfl) rfl
   refine⟨g1,a2,hA2,cs,_,g2,g3,g4,g5,rfl,fun w54 hw54=>fin _ _ _ _ ?_⟩
   have o54:=g6 w54 hw54
   rw[Int.toNat_natCast]at o54
   rw[upd_at hr.srt,hf,if_pos (by omega),if_pos rfl,<-set_at hi,List.map_set]
   exact o54
theorem cargo_Put{w:World}(hg:Glob w)(hc:CgIn w A0 n0 A1 n1 ps hs)(h:SlR w A 3 (l.map Sw.row))(hl:l.length=n)(hnc:n<=c)(hn:n<=40)(t:Sw):
  Pure Tryz.prog 34 #[.agg #[.slice A0 n0 c0,.slice A1 n1 c1],.slice A n c,t.val] w (StowR (putF ps hs l t) w.heap.size):=by
 refine F.cargo_Put.vc _ _ _ _ _ _ _ _ _ _ _ _ _ _ fun w1 x1=> ?_
 have hw:=k0 x1
 refine Pure.mono (cargo_Stowed (hg.next hw) (hc.keep hw) (h.keep hw (Nat.le_refl _)) hl hnc (by omega)) ?_
 rintro v w4 b4 rfl
 have hw:=kP hw b4
 unfold putF
 refine⟨_,rfl,fun h0=>by rw[if_pos h0];rfl,fun h0=> ?_⟩
 rw[if_neg h0]
 have hr:=stowed_right (Decidable.not_not.1 h0)
 refine Pure.mono (cargo_parcel (hc.keep hw) t.parcel) ?_
 rintro v w7 b7 rfl
 have hw:=kP hw b7
 refine⟨_,rfl,fun h1=>by rw[ixI_neg.1 h1];rfl,fun h1=> ?_⟩
 refine Pure.mono (cargo_hold (hc.keep hw) t.hold) ?_
 rintro v w10 b10 rfl
 have hw:=kP hw b10
 cases hip:pix ps t.parcel with
 |none=>exact absurd (ixI_neg.2 hip) h1
 |some ip=>
 refine⟨_,rfl,fun h2=>by rw[ixI_neg.1 h2];rfl,fun h2=> ?_⟩
 cases hih:hix hs t.hold with
 |none=>exact absurd (ixI_neg.2 hih) h2
 |some ih=>
 refine⟨fun h3=>by simp only;rw[if_pos (.inl h3)];rfl,fun h3=>⟨fun h4=>by simp only;rw[if_pos (.inr (.inl h4))];rfl,fun h4=>⟨fun h5=>by simp only;rw[if_pos (.inr (.inr (by omega)))];rfl,fun h5=> ?_⟩⟩⟩
 simp only
 rw[if_neg (by omega)]
 refine Pure.mono (search_stows (h.keep hw (Nat.le_refl _)) hl (by omega) hr.srt ⟨t.hold,t.parcel,0⟩) ?_
 rintro v w14 b14 rfl
 have hw:=kP hw b14
 have ek:∀u:Int,lbS ⟨t.hold,t.parcel,u⟩ l=lbS t l:=fun u=>rfl
 have ef:∀u:Int,foundS ⟨t.hold,t.parcel,u⟩ l=foundS t l:=fun u=>rfl
 rw[ek,ef]
 have J:=fun(w':World) hw'=>put_J12 (c:=c) (c0:=c0) (c1:=c1) hc h hl hn hr t ⟨by omega,by omega,h3⟩ hip (R:=StowR (if amtF l t.hold t.parcel+t.units<0 then .error 11 else match ps[ip]? with
   |some p=>if p.units<unitsF l t.parcel+t.units then .error 12 else .ok (updS l ⟨t.hold,t.parcel,amtF l t.hold t.parcel+t.units⟩)
   |none=> .error 0) w.heap.size)
  (fun w2 k=>by rw[if_pos k];rfl) (fun w2 p k e k2=>by rw[if_neg k,e];simp only;rw[if_pos k2];rfl)
  (fun w2 p A m c k e k2 ho=>by rw[if_neg k,e];simp only;rw[if_neg k2];exact⟨A,m,c,rfl,ho⟩) (w:=w') hw'
 refine⟨_,_,rfl,fun hf=> ?_,fun hf=> ?_⟩
 ·obtain⟨hi,e1,e2⟩:=found_at hf
  obtain⟨hb,a,hA,_,hcell⟩:=(h.keep hw (Nat.le_refl _)).at_ (fun _=>rfl) hl hi
  refine⟨hb,a,hA,_,hcell 2 _ rfl,?_⟩
  have:=J w14 hw
  rw[amt_found hr.srt hf hi]at this
  rw[amt_found hr.srt hf hi]
  exact this
 ·have:=J w14 hw
  rw[amt_unfound hr.srt hf]at this
  rw[amt_unfound hr.srt hf]
  exact this
end

structure QT where
 b:Bool
 A:Option Addr
 n:Nat
 c:Nat
 A':Option Addr
 n':Nat
 c':Nat
 r:Rat
def QT.is(x:QT)(w:World):Prop:=IsQ w x.b x.A x.n x.c x.A' x.n' x.c' x.r
def Qs(w:World)(L:List QT):Prop:=∀x∈L,x.is w
theorem Qs.below{w w':World}{L:List QT}(h:Qs w L)(hb:Below w.heap.size w w'):Qs w' L:=fun x hx=>IsQ.below (h x hx) hb
theorem Qs.ext{w w':World}{B:Nat}{ts:List Nat}{L:List QT}(h:Qs w L)(e:Ext B ts w w')(ht:217∉ts):Qs w' L:=fun x hx=>IsQ.ext (h x hx) e ht
theorem Qs.add{w:World}{L:List QT}(h:Qs w L){x:QT}(k:x.is w):Qs w (x::L):=fun y hy=>by
 rcases List.mem_cons.1 hy with rfl|hy
 ·exact k
 ·exact h y hy
theorem Qs.nil{w:World}:Qs w []:=fun x hx=>by cases hx
theorem QR.qt{r:Rat}{v:Value}{w:World}(h:QR r v w):∃x:QT,x.r=r/\v= .agg #[.bool x.b,.slice x.A x.n x.c,.slice x.A' x.n' x.c']/\x.is w:=by
 obtain⟨b,A,n,c,A',n',c',rfl,k⟩:=h
 exact⟨⟨b,A,n,c,A',n',c',r⟩,rfl,rfl,k⟩
section
variable {w0:World} {A0 A1 A:Option Addr} {n0 c0 n1 c1 n c:Nat} {ps:List Pa} {hs:List Ho} {l:List Sw}

end

theorem amounts_upd{ps:List Pa}{hs:List Ho}{l:List Sw}(hr:RightS ps hs l){s:Sw}(h0:0<=s.units){i k:Nat}(hi:pix ps s.parcel=some i)(hk:hix hs s.hold=some k):
  (amountsF ps hs l).set (i*hs.length+k) s.units=amountsF ps hs (updS l s):=by
 obtain⟨p,hp,ep⟩:=pix_some hi
 obtain⟨h,hh,eh⟩:=hix_some hk
 have hkl:=(List.getElem?_eq_some_iff.1 hh).1
 have hil:=(List.getElem?_eq_some_iff.1 hp).1
 refine list_ext2 (by rw[List.length_set,amounts_len]) (amounts_len ps hs _) fun i' k' hi' hk'=> ?_
 have e2:ps[i']? =some ps[i']:=List.getElem?_eq_getElem hi'
 have e1:hs[k']? =some hs[k']:=List.getElem?_eq_getElem hk'
 rw[amounts_get e2 e1,amt_upd hr.srt h0,List.getElem?_set]
 by_cases e:i*hs.length+k=i'*hs.length+k'
 ·obtain⟨rfl,rfl⟩:=idx_inj hkl hk' e
  rw[if_pos rfl,if_pos (by rw[amounts_len];exact idx_lt hil hkl),if_pos]
  rw[e2]at hp
  rw[e1]at hh
  cases hp
  cases hh
  exact⟨eh.symm,ep.symm⟩
 ·rw[if_neg e,amounts_get e2 e1,if_neg]
  rintro⟨q2,q1⟩
  have a1:=pair_inj (f:=Pa.id) hr.c.ip hp e2 (by rw[ep,q1])
  have a2:=pair_inj (f:=Ho.id) hr.c.ih hh e1 (by rw[eh,q2])
  exact e (by rw[a1,a2])
theorem amt_le{ps:List Pa}{hs:List Ho}{l:List Sw}(hr:RightS ps hs l)(h p:Int):amtF l h p<=9:=by
 rcases amt_spec l h p with⟨e,_⟩|⟨x,hx,e1,e2,e3⟩
 ·omega
 ·have:=((hr.known x hx))
  obtain⟨i,_,hi,_⟩:=this
  obtain⟨q,e,hid⟩:=pix_some hi
  have hm:=List.mem_of_getElem? e
  have h1:=hr.full q hm
  have h2:=units_mem hr.pos hx
  have h3:=(hr.c.p1 q hm).2.1.2
  rw[hid]at h1
  omega
section
variable {w0:World} {A0 A1 A:Option Addr} {n0 c0 n1 c1 n c:Nat} {ps:List Pa} {hs:List Ho} {l:List Sw}
end

def psT:List Pa:=[⟨1,3,1,⟨#[97]⟩,⟨#[50]⟩,⟨#[49]⟩,⟨#[53]⟩⟩,⟨2,1,2,⟨#[98]⟩,⟨#[49,47,50]⟩,⟨#[52]⟩,⟨#[49]⟩⟩]
def hsT:List Ho:=[⟨1,⟨#[65]⟩,⟨#[52]⟩,⟨#[55]⟩,⟨#[49,48]⟩,⟨#[48]⟩,⟨#[49]⟩⟩,⟨2,⟨#[66]⟩,⟨#[57]⟩,⟨#[51]⟩,⟨#[45,53]⟩,⟨#[48]⟩,⟨#[49]⟩⟩]
theorem extAll{B:Nat}{w w':World}(x:Ext B [] w w'):Below w.heap.size w w':=⟨x.below.os,x.below.tape,x.below.output,x.below.size,fun k hk=>by
 rcases x.other k hk with e|⟨t,ht,_⟩
 ·exact e
 ·simp at ht⟩
theorem CloneI{w:World}{A:Option Addr}{n c:Nat}{l:List Int}(h:SlR w A 1 (l.map iRow))(hlen:l.length=n)(hn:n<=1000000):
  Pure Tryz.prog 28 #[.slice A n c] w fun v w'=>∃A' c',v= .slice A' n c'/\OwnR w' w.heap.size 3 A' n c' 1 (l.map iRow):=by
 refine F.slices_Clone_int_int.vc _ _ _ _ _ ⟨fun hA=> ?_,fun hA=> ?_⟩
 ·subst hA
  have:=h.none_nil
  simp at this
  subst this
  simp at hlen
  subst hlen
  exact⟨none,0,rfl,OwnR.nil⟩
 ·obtain⟨a,rfl⟩:=Option.ne_none_iff_exists'.1 hA
  refine runOk_lit el_Ints [] (by simp) (by simp) (Nat.le_refl _) fun A2 c2 w2 ho b2=> ?_
  refine app_rows el_Ints (Nat.le_refl _) (by simpa using ho) (h.below b2) (by simpa using hlen) (fun r hr=>by obtain⟨s,_,rfl⟩:=List.mem_map.1 hr;rfl) (fun r hr=>by obtain⟨s,_,rfl⟩:=List.mem_map.1 hr;intro u hu;simp[iRow]at hu;subst hu;rfl) b2.size (by simp;omega) (by simp) fun A' c' w3 o3 _ b3=> ?_
  simp only[List.length_nil,Nat.zero_add,List.nil_append]at o3⊢
  exact⟨A',c',rfl,o3⟩
theorem EqualI{w0:World}{A A1:Option Addr}{n n1 c c1:Nat}{l l1:List Int}(h:SlR w0 A 1 (l.map iRow))(h1:SlR w0 A1 1 (l1.map iRow))(hlen:l.length=n)(hlen1:l1.length=n1)(hn:n<2147483648):
  Pure Tryz.prog 26 #[.slice A n c,.slice A1 n1 c1] w0 fun y _=>y= .bool (decide (l=l1)):=by
 have key:n=n1->∀(d i:Nat)(w:World),n - i=d->i<=n->Below w0.heap.size w0 w->l.take i=l1.take i->F.slices_Equal_int_int.L4 A n c A1 n1 c1 n i w0.heap.size w fun y _=>y= .bool (decide (l=l1)):=by
  intro e d
  induction d with
  |zero=>
   intro i w hd hi hw hx
   refine F.slices_Equal_int_int.L4.step _ _ _ _ _ _ _ _ _ _ _ ⟨fun h=>by omega,fun _=> ?_⟩
   rw[List.take_of_length_le (by omega),List.take_of_length_le (by omega)]at hx
   rw[decide_eq_true hx]
  |succ d ih=>
   intro i w hd hi hw hx
   have hil:i<l.length:=by omega
   have hil1:i<l1.length:=by omega
   have e3:(i:Int)+1=((i+1:Nat):Int):=by omega
   obtain⟨hb,a,hA,hcell,_⟩:=(h.keep hw (Nat.le_refl _)).at_ (fun _=>rfl) hlen hil
   obtain⟨hb1,a1,hA1,hcell1,_⟩:=(h1.keep hw (Nat.le_refl _)).at_ (fun _=>rfl) hlen1 hil1
   refine F.slices_Equal_int_int.L4.step _ _ _ _ _ _ _ _ _ _ _ ⟨fun _=>⟨hb,a,hA,_,hcell,hb1,a1,hA1,_,hcell1,fun k w2 _=> ?_,fun k=>⟨by simp only[inR];omega,fun w2 x2=> ?_⟩⟩,fun h=>by omega⟩
   ·rw[decide_eq_false fun e=>k (by subst e;rfl)]
   ·rw[e3]
    refine ih (i+1) w2 (by omega) (by omega) (kE hw x2) ?_
    rw[List.take_add_one,List.take_add_one,hx,List.getElem?_eq_getElem hil,List.getElem?_eq_getElem hil1,Decidable.not_not.1 k]
 refine F.slices_Equal_int_int.vc _ _ _ _ _ _ _ _ ⟨fun k=> ?_,fun k=>key (by omega) n 0 w0 rfl (by omega) (Below.refl _ _) (by simp)⟩
 rw[decide_eq_false fun e=>k (by subst e;omega)]

theorem flatMap_le{α β:Type}{f:α->List β}{k:Nat}:∀{l:List α},(∀x∈l,(f x).length<=k)->(l.flatMap f).length<=l.length*k:=by
 intro l
 induction l with
 |nil=>intro _;simp
 |cons x r ih=>
  intro h
  rw[List.flatMap_cons,List.length_append,List.length_cons,Nat.add_mul,Nat.one_mul]
  have:=h x (by simp)
  have:=ih fun y hy=>h y (by simp[hy])
  omega
theorem RightS.len{ps:List Pa}{hs:List Ho}{l:List Sw}(h:RightS ps hs l):l.length<=36:=by
 have e:=stows_amts h (f:=fA ps hs l) fun _ _ _ _=>rfl
 rw[<-e]
 unfold stowsG
 have h1:∀k∈List.range hs.length,((List.range ps.length).flatMap fun i=>entS (fA ps hs l) ps hs k i).length<=ps.length:=fun k _=>by
  have:=flatMap_le (f:=fun i=>entS (fA ps hs l) ps hs k i) (k:=1) (l:=List.range ps.length) fun i _=>by
   unfold entS
   split
   ·split<;>simp
   ·simp
  simpa using this
 have h2:=flatMap_le h1
 rw[List.length_range]at h2
 have:=Nat.mul_le_mul h.c.lh h.c.lp
 omega

def outE(r:Except Int (List Sw)):List Sw×Int:=match r with| .error e=>([],e)| .ok l=>(l,0)
theorem StowR.get{r:Except Int (List Sw)}{B:Nat}{y:Value}{w:World}(h:StowR r B y w):∃A m c,y= .tuple #[.slice A m c,.int .i64 (outE r).2]/\SlR w A 3 ((outE r).1.map Sw.row)/\(outE r).1.length=m/\m<=c:=by
 cases r with
 |error e=>exact⟨none,0,0,h,.inl rfl,rfl,Nat.le_refl _⟩
 |ok l=>
  obtain⟨A,m,c,rfl,ho⟩:=h
  exact⟨A,m,c,rfl,ho.sl,by simpa[outE]using ho.len,ho.len_le⟩
section
variable {w:World} {A0 A1 A A2:Option Addr} {n0 c0 n1 c1 n c n2 c2:Nat} {ps:List Pa} {hs:List Ho} {l:List Sw} {a:List Int}
theorem from_err{e:Int}(h:fromF ps hs a= .error e):e≠0:=by
 unfold fromF at h
 split at h
 ·cases h;decide
 ·split at h
  ·cases h;decide
  ·split at h
   ·cases h;decide
   ·split at h
    ·cases h;decide
    ·cases h
end

def fullN(n:Nat):Nat:=2^n - 1
def addB(s i:Nat):Nat:=s|||2^i
theorem addB_bit(s i j:Nat):(addB s i).testBit j=(s.testBit j||decide (i=j)):=by
 unfold addB
 rw[Nat.testBit_or,Nat.testBit_two_pow]
theorem addB_lt{s i n:Nat}(hs:s<2^n)(hi:i<n):addB s i<2^n:=Nat.or_lt_two_pow hs (Nat.pow_lt_pow_right (by decide) hi)
theorem full_bit(n j:Nat):(fullN n).testBit j=decide (j<n):=by
 unfold fullN
 exact Nat.testBit_two_pow_sub_one n j
theorem full_lt(n:Nat):fullN n<2^n:=by
 unfold fullN
 have:0<2^n:=Nat.two_pow_pos n
 omega
theorem eq_full{s n:Nat}(hs:s<2^n)(h:∀i,i<n->s.testBit i=true):s=fullN n:=by
 refine Nat.eq_of_testBit_eq fun j=> ?_
 rw[full_bit]
 by_cases hj:j<n
 ·rw[h j hj,decide_eq_true hj]
 ·rw[decide_eq_false hj]
  exact Nat.testBit_lt_two_pow (Nat.lt_of_lt_of_le hs (Nat.pow_le_pow_right (by decide) (by omega)))
def leftN(n s:Nat):Nat:=(List.range n).countP fun i=> !s.testBit i
theorem left_add{n s i:Nat}(hi:i<n)(h:s.testBit i=false):leftN n (addB s i)+1=leftN n s:=by
 unfold leftN
 have key:∀(l:List Nat),l.Nodup->(l.countP fun j=> !(addB s i).testBit j)+(if i∈l then 1 else 0)=l.countP fun j=> !s.testBit j:=by
  intro l
  induction l with
  |nil=>intro _;rfl
  |cons a r ih=>
   intro hn
   obtain⟨h1,h2⟩:=List.nodup_cons.1 hn
   have ih:=ih h2
   rw[List.countP_cons,List.countP_cons,addB_bit]
   by_cases e:i=a
   ·subst e
    rw[if_neg h1]at ih
    simp[h]
    omega
   ·rw[decide_eq_false e,Bool.or_false]
    have hmm:(if i∈a::r then 1 else 0)=(if i∈r then 1 else 0):=by simp[e]
    rw[hmm]
    omega
 have:=key (List.range n) List.nodup_range
 rw[if_pos (List.mem_range.2 hi)]at this
 exact this
theorem left_zero{n s:Nat}(hs:s<2^n)(h:leftN n s=0):s=fullN n:=by
 refine eq_full hs fun i hi=> ?_
 have:=List.countP_eq_zero.1 h i (List.mem_range.2 hi)
 simpa using this
theorem left_le(n s:Nat):leftN n s<=n:=by
 have:=List.countP_le_length (p:=fun i=> !s.testBit i) (l:=List.range n)
 simpa[leftN]using this

def restF(al:Nat->Bool)(n:Nat):Nat->Nat->Option (List Nat)
 |0,s=>if s=fullN n then some []else none
 |d+1,s=>if s=fullN n then some []else(List.range n).findSome? fun i=>if s.testBit i|| !al (addB s i)then none else(restF al n d (addB s i)).map (i:: ·)
inductive Pth (al:Nat->Bool) (n:Nat):Nat->Prop
 |full:Pth al n (fullN n)
 |step {s i:Nat}:i<n->s.testBit i=false->al (addB s i)=true->Pth al n (addB s i)->Pth al n s
inductive Rch (al:Nat->Bool) (n:Nat):Nat->Prop
 |zero:Rch al n 0
 |step {s i:Nat}:Rch al n s->i<n->s.testBit i=false->al (addB s i)=true->Rch al n (addB s i)
theorem Rch.lt{al:Nat->Bool}{n s:Nat}(h:Rch al n s):s<2^n:=by
 induction h with
 |zero=>exact Nat.two_pow_pos n
 |step _ hi _ _ ih=>exact addB_lt ih hi
theorem rest_some{al:Nat->Bool}{n:Nat}:∀(d s:Nat)(l:List Nat),restF al n d s=some l->Pth al n s:=by
 intro d
 induction d with
 |zero=>
  intro s l h
  rw[restF]at h
  split at h
  ·rename_i e;rw[e];exact .full
  ·cases h
 |succ d ih=>
  intro s l h
  rw[restF]at h
  split at h
  ·rename_i e;rw[e];exact .full
  ·obtain⟨i,hi,hx⟩:=List.exists_of_findSome?_eq_some h
   split at hx
   ·cases hx
   ·rename_i hc
    simp only[Bool.or_eq_true,Bool.not_eq_true',not_or,Bool.not_eq_true,Bool.not_eq_false]at hc
    obtain⟨l',hl',_⟩:=Option.map_eq_some_iff.1 hx
    exact .step (List.mem_range.1 hi) hc.1 hc.2 (ih _ _ hl')
theorem rest_none{al:Nat->Bool}{n:Nat}:∀(d s:Nat),leftN n s<=d->s<2^n->restF al n d s=none->¬Pth al n s:=by
 intro d
 induction d with
 |zero=>
  intro s hd hs h
  rw[restF,if_pos (left_zero hs (by omega))]at h
  cases h
 |succ d ih=>
  intro s hd hs h k
  rw[restF]at h
  split at h
  ·cases h
  ·rename_i hne
   cases k with
   |full=>exact hne rfl
   |step hi hb ha k=>
    rename_i i
    have:=List.findSome?_eq_none_iff.1 h i (List.mem_range.2 hi)
    rw[hb,ha]at this
    simp only[Bool.not_true,Bool.or_self,Bool.false_eq_true,if_false,Option.map_eq_none_iff]at this
    exact ih _ (by have:=left_add hi hb;omega) (addB_lt hs hi) this k
def stepR(al:Nat->Bool)(n:Nat)(out:List Nat)(s:Nat):List Nat:=
 if((List.range n).any fun i=>s.testBit i&&out.contains (s^^^2^i))&&al s then out++[s]else out
def reachedF(al:Nat->Bool)(n k:Nat):List Nat:=(List.range k).foldl (fun out j=>stepR al n out (j+1)) [0]
theorem xor_bit{s i:Nat}(h:s.testBit i=true):s^^^2^i<s/\(s^^^2^i).testBit i=false/\addB (s^^^2^i) i=s:=by
 have hb:∀j,(s^^^2^i).testBit j=(s.testBit j^^decide (i=j)):=fun j=>by rw[Nat.testBit_xor,Nat.testBit_two_pow]
 have h0:(s^^^2^i).testBit i=false:=by rw[hb,h];simp
 have h1:addB (s^^^2^i) i=s:=by
  refine Nat.eq_of_testBit_eq fun j=> ?_
  rw[addB_bit,hb]
  by_cases e:i=j
  ·subst e;rw[h];simp
  ·rw[decide_eq_false e];simp
 refine⟨?_,h0,h1⟩
 have hle:s^^^2^i<=addB (s^^^2^i) i:=Nat.left_le_or
 rw[h1]at hle
 refine Nat.lt_of_le_of_ne hle fun e=> ?_
 rw[e,h]at h0
 cases h0

def closedB(al:Nat->Bool)(n:Nat)(S:List Int):Bool:=
 decide (S.Pairwise fun a b=>a<b)&&S.all (fun s=>decide (0<=s/\s<(fullN n:Nat)))&&S.contains 0&&S.all fun s=>(List.range n).all fun i=>S.contains ((addB s.toNat i:Nat):Int)|| !al (addB s.toNat i)
theorem perm_of{α:Type}[DecidableEq α]:∀{l o:List α},l.Nodup->(∀x∈l,x∈o)->o.length<=l.length->o.Perm l:=by
 intro l
 induction l with
 |nil=>
  intro o _ _ h
  have:o=[]:=List.length_eq_zero_iff.1 (by simpa using h)
  subst this
  exact List.Perm.refl _
 |cons a r ih=>
  intro o hn hm hl
  obtain⟨h1,h2⟩:=List.nodup_cons.1 hn
  have ha:a∈o:=hm a (by simp)
  refine(List.perm_cons_erase ha).trans (List.Perm.cons a (ih h2 (fun x hx=> ?_) ?_))
  ·rw[List.mem_erase_of_ne (fun e=>h1 (by rw[<-e];exact hx))]
   exact hm x (by simp[hx])
  ·rw[List.length_erase_of_mem ha]
   simp at hl
   omega
def walkO(al:Nat->Bool):Nat->Nat->List Int->Int×Int
 |_,_,[]=>(-1,0)
 |s,k,x::r=>if al (addB s x.toNat)then walkO al (addB s x.toNat) (k+1) r else((k:Int),15)
def checkO(al:Nat->Bool)(n:Nat)(o:List Int):Int×Int:=
 if ¬(o.length=n/\∀i∈List.range n,((i:Nat):Int)∈o)then(-1,10)else walkO al 0 0 o
theorem check_perm{n:Nat}{o:List Int}(h:o.length=n/\∀i∈List.range n,((i:Nat):Int)∈o):o.Perm ((List.range n).map fun(i:Nat)=>(i:Int)):=by
 refine perm_of ?_ (fun x hx=> ?_) (by simp;omega)
 ·exact List.pairwise_map.2 (List.nodup_range.imp fun h=>by omega)
 ·obtain⟨i,hi,rfl⟩:=List.mem_map.1 hx
  exact h.2 i hi
theorem rest_walk{al:Nat->Bool}{n:Nat}:∀(d s k:Nat)(l:List Nat),restF al n d s=some l->(walkO al s k (l.map fun(i:Nat)=>(i:Int))).2=0/\(walkO al s k (l.map fun(i:Nat)=>(i:Int))).1= -1/\(∀i∈l,i<n/\s.testBit i=false)/\l.Nodup:=by
 intro d
 induction d with
 |zero=>
  intro s k l h
  rw[restF]at h
  split at h
  ·cases h;exact⟨rfl,rfl,by simp,List.nodup_nil⟩
  ·cases h
 |succ d ih=>
  intro s k l h
  rw[restF]at h
  split at h
  ·cases h;exact⟨rfl,rfl,by simp,List.nodup_nil⟩
  ·obtain⟨i,hi,hx⟩:=List.exists_of_findSome?_eq_some h
   split at hx
   ·cases hx
   ·rename_i hc
    simp only[Bool.or_eq_true,Bool.not_eq_true',not_or,Bool.not_eq_true,Bool.not_eq_false]at hc
    obtain⟨l',hl',rfl⟩:=Option.map_eq_some_iff.1 hx
    obtain⟨h1,h2,h3,h4⟩:=ih _ (k+1) _ hl'
    refine⟨?_,?_,fun j hj=> ?_,List.nodup_cons.2 ⟨fun hm=> ?_,h4⟩⟩
    ·rw[List.map_cons,walkO,Int.toNat_natCast,if_pos hc.2];exact h1
    ·rw[List.map_cons,walkO,Int.toNat_natCast,if_pos hc.2];exact h2
    ·rcases List.mem_cons.1 hj with rfl|hj
     ·exact⟨List.mem_range.1 hi,hc.1⟩
     ·obtain⟨q1,q2⟩:=h3 j hj
      rw[addB_bit,Bool.or_eq_false_iff]at q2
      exact⟨q1,q2.1⟩
    ·have:=(h3 i hm).2
     rw[addB_bit]at this
     simp at this

structure Ru where
 name:ByteArray
 kind:Int
 fac:List ByteArray
 low:ByteArray
 high:ByteArray
 a:Int
 b:Int
def eV(s:ByteArray):Bool:=decide (s.size=0)||vR s
def faultR(ps:List Pa)(hs:List Ho)(pre:List Ru)(r:Ru):Int:=
 if ¬(r.fac.all vR=true/\eV r.low=true/\eV r.high=true)then 1
 else if ¬(1<=r.name.size/\r.name.size<=64)then 4
 else if(pre.any fun x=>decide (x.name=r.name))=true then 6
 else if r.kind<1∨4<r.kind then 2
 else if r.kind=1 then
  if r.fac.length≠hs.length∨r.a≠0∨r.b≠0 then 10
  else if(r.low.size=0/\r.high.size=0)∨(r.low.size≠0/\r.high.size≠0/\qR r.high<qR r.low)then 2 else 0
 else if r.fac.length≠0∨r.low.size≠0∨r.high.size≠0 then 10
 else if r.kind=2 then(if ¬(r.a<r.b/\(1<=r.a/\r.a<=9)/\(1<=r.b/\r.b<=9))then 2 else 0)
 else if r.kind=3 then(if ¬(1<=r.a/\r.a<=9)then 2 else if hix hs r.b=none then 7 else 0)
 else if r.b≠0 then 2 else if pix ps r.a=none then 7 else 0
def goR(ps:List Pa)(hs:List Ho):Nat->List Ru->List Ru->Int×Int
 |_,_,[]=>(-1,0)
 |i,pre,r::t=>if faultR ps hs pre r≠0 then((i:Int),faultR ps hs pre r)else goR ps hs (i+1) (pre++[r]) t
def checkR(ps:List Pa)(hs:List Ho)(rs:List Ru):Int×Int:=
 if checkC ps hs≠0 then(-1,checkC ps hs)else if 16<rs.length then(-1,8)else goR ps hs 0 [] rs
structure RightR (ps:List Pa) (hs:List Ho) (r:Ru):Prop where
 fac:r.fac.all vR=true
 low:eV r.low=true
 high:eV r.high=true
 kind:1<=r.kind/\r.kind<=4
 sum:r.kind=1->r.fac.length=hs.length
 two:r.kind=2->r.a<r.b
 three:r.kind=3->∃k,hix hs r.b=some k
 four:r.kind=4->∃i,pix ps r.a=some i
theorem fault_zero{ps:List Pa}{hs:List Ho}{pre:List Ru}{r:Ru}(h:faultR ps hs pre r=0):RightR ps hs r:=by
 unfold faultR at h
 split at h
 ·simp at h
 ·rename_i h1
  have h1:=Decidable.not_not.1 h1
  split at h
  ·simp at h
  ·split at h
   ·simp at h
   ·split at h
    ·simp at h
    ·rename_i h4
     split at h
     ·rename_i h5
      split at h
      ·simp at h
      ·rename_i h6
       exact⟨h1.1,h1.2.1,h1.2.2,by omega,fun _=>Decidable.byContradiction fun k=>h6 (.inl k),fun k=>by omega,fun k=>by omega,fun k=>by omega⟩
     ·rename_i h5
      split at h
      ·simp at h
      ·split at h
       ·rename_i h7
        split at h
        ·simp at h
        ·rename_i h8
         exact⟨h1.1,h1.2.1,h1.2.2,by omega,fun k=>by omega,fun _=>(Decidable.not_not.1 h8).1,fun k=>by omega,fun k=>by omega⟩
       ·rename_i h7
        split at h
        ·rename_i h8
         split at h
         ·simp at h
         ·split at h
          ·simp at h
          ·rename_i h9
           refine⟨h1.1,h1.2.1,h1.2.2,by omega,fun k=>by omega,fun k=>by omega,fun _=> ?_,fun k=>by omega⟩
           cases e:hix hs r.b with
           |none=>exact absurd e h9
           |some k=>exact⟨k,rfl⟩
        ·rename_i h8
         split at h
         ·simp at h
         ·split at h
          ·simp at h
          ·rename_i h9
           refine⟨h1.1,h1.2.1,h1.2.2,by omega,fun k=>by omega,fun k=>by omega,fun k=>by omega,fun _=> ?_⟩
           cases e:pix ps r.a with
           |none=>exact absurd e h9
           |some k=>exact⟨k,rfl⟩
theorem goR_zero{ps:List Pa}{hs:List Ho}:∀(rs:List Ru)(i:Nat)(pre:List Ru),(goR ps hs i pre rs).2=0->∀r∈rs,RightR ps hs r:=by
 intro rs
 induction rs with
 |nil=>intro _ _ _ r hr;cases hr
 |cons x t ih=>
  intro i pre h r hr
  rw[goR]at h
  split at h
  ·rename_i k;exact absurd h k
  ·rename_i k
   rcases List.mem_cons.1 hr with rfl|hr
   ·exact fault_zero (Decidable.not_not.1 k)
   ·exact ih _ _ h r hr
theorem checkR_zero{ps:List Pa}{hs:List Ho}{rs:List Ru}(h:(checkR ps hs rs).2=0):checkC ps hs=0/\rs.length<=16/\∀r∈rs,RightR ps hs r:=by
 unfold checkR at h
 split at h
 ·rename_i k;exact absurd h k
 ·rename_i k
  split at h
  ·simp at h
  ·exact⟨Decidable.not_not.1 k,by omega,goR_zero _ _ _ h⟩

def clsP(ps:List Pa)(id:Int):Int:=match (pix ps id).bind fun i=>ps[i]? with|some p=>p.cls|none=>0
def sumRu(ps:List Pa)(hs:List Ho)(r:Ru)(l:List Sw):Rat:=((hs.zip r.fac).map fun x=>qR x.2*sumR (tP ps Pa.mass) (inS l x.1.id)).sum
def excessR(r:Ru)(s:Rat):Rat:=
 if r.high.size≠0/\qR r.high<s then s - qR r.high else if r.low.size≠0/\s<qR r.low then s - qR r.low else 0
def hasCls(ps:List Pa)(l:List Sw)(hold cls:Int):Bool:=l.any fun s=>decide (s.hold=hold)&&decide (clsP ps s.parcel=cls)
def brokenR(ps:List Pa)(hs:List Ho)(l:List Sw)(r:Ru):Bool:=
 if r.kind=1 then decide (excessR r (sumRu ps hs r l)≠0)
 else if r.kind=2 then hs.any fun h=>hasCls ps l h.id r.a&&hasCls ps l h.id r.b
 else if r.kind=3 then hasCls ps l r.b r.a
 else match (pix ps r.a).bind fun i=>ps[i]? with|some p=>decide (unitsF l r.a<p.units)|none=>false
def rightF(ps:List Pa)(hs:List Ho)(rs:List Ru)(l:List Sw):Bool:=decide ((checkR ps hs rs).2=0)&&decide (stowedF ps hs l=0)
def keepsF(ps:List Pa)(hs:List Ho)(rs:List Ru)(l:List Sw):Bool:=
 rightF ps hs rs l&& !(rs.any (brokenR ps hs l))&&decide (hs.findIdx? (overB ps hs l)=none)
theorem apart_pairs{ps:List Pa}{hs:List Ho}{l:List Sw}(hk:∀s∈l,∃h∈hs,h.id=s.hold)(a b:Int):
  (l.any fun x=>l.any fun y=>decide (x.hold=y.hold)&&(decide (clsP ps x.parcel=a)&&decide (clsP ps y.parcel=b)))=hs.any fun h=>hasCls ps l h.id a&&hasCls ps l h.id b:=by
 rw[Bool.eq_iff_iff]
 simp only[hasCls,List.any_eq_true,Bool.and_eq_true,decide_eq_true_eq]
 constructor
 ·rintro⟨x,hx,y,hy,e,e1,e2⟩
  obtain⟨h,hh,eh⟩:=hk x hx
  exact⟨h,hh,⟨x,hx,eh.symm,e1⟩,y,hy,by rw[<-e,eh],e2⟩
 ·rintro⟨h,_,⟨x,hx,ex,e1⟩,y,hy,ey,e2⟩
  exact⟨x,hx,y,hy,ex.trans ey.symm,e1,e2⟩

def placeW(ps:List Pa)(hs:List Ho)(w:Sw):Option Nat:=match pix ps w.parcel,hix hs w.hold with|some i,some k=>some (i*hs.length+k)|_,_=>none
def stateA(ps:List Pa)(hs:List Ho)(set:Nat):Nat->List Int->List Sw->List Int
 |_,a,[]=>a
 |n,a,w::r=>stateA ps hs set (n+1) (if set.testBit n then(match placeW ps hs w with|some j=>a.set j (a.getD j 0+w.units)|none=>a)else a) r
def stateF(ps:List Pa)(hs:List Ho)(l:List Sw)(works:List Sw)(set:Nat):Option (List Sw):=(fromF ps hs (stateA ps hs set 0 (amountsF ps hs l) works)).toOption
def allowF(ps:List Pa)(hs:List Ho)(rs:List Ru)(l:List Sw)(works:List Sw)(set:Nat):Bool:=match stateF ps hs l works set with|some m=>keepsF ps hs rs m|none=>false
def taskF(ps:List Pa)(hs:List Ho)(rs:List Ru)(l:List Sw)(works:List Sw):Int:=
 if(checkR ps hs rs).2≠0 then 1 else if keepsF ps hs rs l=false then 11 else if 6<works.length then 8
 else if(works.any fun w=>decide (placeW ps hs w=none))=true then 7 else if(works.any fun w=>decide (w.units=0∨w.units< -9∨9<w.units))=true then 2 else 0
section
variable (ps:List Pa) (hs:List Ho) (rs:List Ru) (l works:List Sw)
def statesF(set:Int):List Sw×Int:=
 if taskF ps hs rs l works≠0 then([],taskF ps hs rs l works)else if set<0∨(fullN works.length:Nat)<set then([],2)
 else match stateF ps hs l works set.toNat with|some m=>(m,0)|none=>([],15)
def orderF:List Int×Int:=
 if taskF ps hs rs l works≠0 then([],taskF ps hs rs l works)
 else match restF (allowF ps hs rs l works) works.length works.length 0 with|some o=>(o.map fun(i:Nat)=>(i:Int),0)|none=>([],19)
def reachF:List Int×Int:=
 if taskF ps hs rs l works≠0 then([],taskF ps hs rs l works)else((reachedF (allowF ps hs rs l works) works.length (fullN works.length)).map fun(s:Nat)=>(s:Int),0)
def ordersF(o:List Int):Int×Int:=
 if taskF ps hs rs l works≠0 then(-1,taskF ps hs rs l works)else checkO (allowF ps hs rs l works) works.length o
def closedF(S:List Int):Int:=
 if taskF ps hs rs l works≠0 then taskF ps hs rs l works else if closedB (allowF ps hs rs l works) works.length S=true then 0 else 14
end
end Go.Proofs.YtgfkeadgjkfomaaGreatDoor.B
