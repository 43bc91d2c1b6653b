/- Part 8 of the proofs that: The state of a record that was written and recovered is that of its events. -/
import Derived.Test.YtmdphpnaipbfjaaGreatDoorR7
import Derived.Test.YtmdphpnaipbfjaaGreatDoorProg
set_option linter.unusedVariables false
set_option linter.unusedSimpArgs false
set_option maxRecDepth 100000
set_option maxHeartbeats 4000000
namespace Go.Proofs.YtmdphpnaipbfjaaGreatDoor.F
open Go Go.RowKit Go.Proofs Go.Proofs.YtmdphpnaipbfjaaGreatDoor.Vc
open Tryz
variable {A C D E G H J K A0 A1 A2 A3 A4 A5 A6 A7 A8 A9 C0 C1 C2 C3 C4 C5 C6 C7 C8 C9:O} {a b c d e f g i j l m n o a0 a1 a2 a3 a4 a5 a6 a7 a8 a9 b0 b1 b2 b3 b4 b5 b6 b7 b8 b9 c0 c1 c2 c3 c4 c5 c6 c7 c8 c9:Nat} {p q r s t u v x p0 p1 p2 p3 p4 p5 p6 p7 p8 p9 q0 q1 q2 q3 q4 q5 q6 q7 q8 q9:Int} {L M N N0 N1 N2 N3 N4 N5 N6 N7 N8 N9 T0 T1 T2 T3 T4 T5 T6 T7 T8 T9:ByteArray} {Q S:Bool} {B:Nat} {w:World} {R:Kt}
def dS.L7(a b:Int)(c:O)(d e:Nat)(f:O)(g i:Nat)(j:O)(l m:Nat):=Lt 107 f107 7 [vL 1,vI 19 a,vI 20 b] [⟨1,false,47,[(vW c d e),(vW f g i),(vW j l m)]⟩]
def dS.cx:Pm:=([((true,7),[1,19,20],[1])],[])
theorem dS.L7.step
  (h:(Br (p<q) (Pure P 132 #[.agg #[vW A a b,vW C c d,vW D e f],I p] w (Ri fun g i=>(Br (g≠0) (R (.tuple #[I p,I g]) i) (aN .i64 (p+1)/\(dS.L7 q (p+1) A a b C c d D e f B i R))))) (R (.tuple #[(I (-1:Int)),I 0]) w))):
  dS.L7 q p A a b C c d D e f B w R:=
 lr dS.cx func107 h
theorem dS.vc
  (h:(∀i,Ext w.heap.size [] w i->(Pure P 103 #[.agg #[vW A b c,vW C d e]] i (Ri fun j g=>(Br (j≠0) (R (.tuple #[(I (-1:Int)),I j]) g) (Br ((a:Int)>16) (R (.tuple #[(I (-1:Int)),I 8]) g) (dS.L7 (a:Int) (0:Int) A b c C d e D a f w.heap.size g R))))))):
  Pure P 107 #[.agg #[vW A b c,vW C d e,vW D a f]] w R:=
 pr dS.cx func107 h

def rI.cx:Pm:=([],[])
theorem rI.vc
  (h:(∀j,Ext w.heap.size [] w j->(Pure P 184 #[.agg #[vW A a b,vW C c d,vW E g i],vW D e f] j (Rb fun n l=>(Br (n=false) (R (.bool false) l) (Pure P 185 #[.agg #[vW A a b,vW C c d,vW E g i],vW D e f] l (Rs fun r o s m=>(Br ((o:Int)>0) (R (.bool false) m) (Pure P 186 #[.agg #[vW A a b,vW C c d],vW D e f] m (Rii fun p t q=>(R (.bool (decide (p<0))) q))))))))))):
  Pure P 130 #[.agg #[vW A a b,vW C c d,vW E g i],vW D e f] w R:=
 pr rI.cx func130 h

def rJ.cx:Pm:=([],[(6,4,5)])
theorem rJ.vc
  (h:(Ix p c A fun a1=>(∀m,Ext w.heap.size [] w m->(∃l t n o q r s u v,aa m (a1.add ((p).toNat*7)) [vU l,I t,vW n o q,vU r,vU s,I u,I v]/\(∀x,Ext w.heap.size [] m x->(Pure P 55 #[vW n o q,(.func (.func 187) #[] #[])] x (Rb fun e4 y=>(Bb e4 (R (I 1) y) (Pure P 188 #[vU r] y (Rb fun e5 z=>(Br (e5=false) (R (I 1) z) (Pure P 188 #[vU s] z (Rb fun e6 j=>(Br (e6=false) (R (I 1) j) (Br (((ByteArray.size l:Int):Int)<1) (R (I 4) j) (Br (((ByteArray.size l:Int):Int)>64) (R (I 4) j) ((0<=p/\p<=(a:Int))/\(∀i:Nat,w.heap.size<=i->j.heap[i]? =some (.cells [vU l,I t,vW n o q,vU r,vU s,I u,I v].toArray 151 (0,0))->(Pure P 105 #[(vW A ((p).toNat) a),(.func (.func 189) #[] #[(.pointer (some (⟨i,0,none⟩:Addr)))])] j (Rb fun e7 g=>(Bb e7 (R (I 6) g) (∃E,aa g ((⟨i,0,none⟩:Addr).add 1) [I E]/\(Br (E<1) (R (I 2) g) (∃G,aa g ((⟨i,0,none⟩:Addr).add 1) [I G]/\(Br (G>4) (R (I 2) g) (∃H,aa g ((⟨i,0,none⟩:Addr).add 1) [I H]/\(Br (H=1) (∃e8 J e9,aa g ((⟨i,0,none⟩:Addr).add 2) [vW e8 J e9]/\(Br ((J:Int)≠(b:Int)) (R (I 10) g) (∃K,aa g ((⟨i,0,none⟩:Addr).add 5) [I K]/\(Br (K≠0) (R (I 10) g) (∃L,aa g ((⟨i,0,none⟩:Addr).add 6) [I L]/\(Br (L≠0) (R (I 10) g) (∃M,aa g ((⟨i,0,none⟩:Addr).add 3) [vU M]/\(Br (M=(⟨#[]⟩:ByteArray)) (∃N,aa g ((⟨i,0,none⟩:Addr).add 4) [vU N]/\(Br (N=(⟨#[]⟩:ByteArray)) (R (I 2) g) (∃O,aa g ((⟨i,0,none⟩:Addr).add 3) [vU O]/\(Br (O≠(⟨#[]⟩:ByteArray)) (∃Q,aa g ((⟨i,0,none⟩:Addr).add 4) [vU Q]/\(Br (Q≠(⟨#[]⟩:ByteArray)) (∃S,aa g ((⟨i,0,none⟩:Addr).add 3) [vU S]/\(∃T,aa g ((⟨i,0,none⟩:Addr).add 4) [vU T]/\(Pure P 190 #[vU S,vU T] g (Ri fun g0 U=>(Br (g0>0) (R (I 2) U) (R (I 0) U)))))) (R (I 0) g))) (R (I 0) g))))) (∃V,aa g ((⟨i,0,none⟩:Addr).add 3) [vU V]/\(Br (V≠(⟨#[]⟩:ByteArray)) (∃X,aa g ((⟨i,0,none⟩:Addr).add 4) [vU X]/\(Br (X≠(⟨#[]⟩:ByteArray)) (∃Y,aa g ((⟨i,0,none⟩:Addr).add 3) [vU Y]/\(∃Z,aa g ((⟨i,0,none⟩:Addr).add 4) [vU Z]/\(Pure P 190 #[vU Y,vU Z] g (Ri fun g1 d0=>(Br (g1>0) (R (I 2) d0) (R (I 0) d0)))))) (R (I 0) g))) (R (I 0) g))))))))))) (∃g2 d1 g3,aa g ((⟨i,0,none⟩:Addr).add 2) [vW g2 d1 g3]/\(Br ((d1:Int)>0) (R (I 10) g) (∃d2,aa g ((⟨i,0,none⟩:Addr).add 3) [vU d2]/\(Br (d2≠(⟨#[]⟩:ByteArray)) (R (I 10) g) (∃d3,aa g ((⟨i,0,none⟩:Addr).add 4) [vU d3]/\(Br (d3≠(⟨#[]⟩:ByteArray)) (R (I 10) g) (∃d4 d5 d6 d7 d8 d9 k F W,aa g (⟨i,0,none⟩:Addr) [vU d4,I d5,vW d6 d7 d8,vU d9,vU k,I F,I W]/\(Pure P 191 #[.agg #[vW C d e,vW D b f,vW A c a],.agg #[vU d4,I d5,vW d6 d7 d8,vU d9,vU k,I F,I W]] g (Ri fun g4 g5=>(R (I g4) g5))))))))))))))))))))))))))))))))))))):
  Pure P 132 #[.agg #[vW C d e,vW D b f,vW A c a],I p] w R:=
 pr rJ.cx func132 h

def rK.cx:Pm:=([],[])
theorem rK.vc
  (h:(∀j,Ext w.heap.size [] w j->(Pure P 107 #[.agg #[vW A a b,vW C c d,vW D e f]] j (Rii fun p m l=>(Br (m=0) (Pure P 141 #[.agg #[vW A a b,vW C c d],vW E g i] l (Ri fun n o=>(R (.bool (decide (n=0))) o))) (R (.bool false) l)))))):
  Pure P 184 #[.agg #[vW A a b,vW C c d,vW D e f],vW E g i] w R:=
 pr rK.cx func184 h

def bN.L4(a:O)(b c:Nat)(d:O)(e f:Nat)(g:O)(i j:Nat)(l m:Int)(n:O)(o p:Nat)(q:O)(r s:Nat)(t:O)(u v:Nat):=Lt 185 f185 4 [vS 1 a b c,vL 2,vL 5,vS 6 d e f,vS 11 g i j,vI 12 l,vI 13 m] [⟨2,false,47,[(vW n o p),(vW q r s),(vW t u v)]⟩,⟨5,false,323,[.nilFunc,(.func (.func 233) #[] #[]),(.func (.func 237) #[] #[]),(.func (.func 238) #[] #[]),(.func (.func 239) #[] #[])]⟩]
def bN.cx:Pm:=([((true,4),[1,2,5,6,11,12,13],[2,5])],[(6,2,1),(7,2,2),(7,3,2)])
theorem bN.L4.step
  (h:(Br (p<q) (Ix p m H fun T=>(∃r o s t u v x y z,aa w (T.add ((p).toNat*7)) [vU r,I o,vW s t u,vU v,vU x,I y,I z]/\((0<=o/\o<5)/\(((((True/\(o=(0:Int)->False))/\(o=(1:Int)->(∀J,Ext B [] w J->(Pure P 233 #[.agg #[vW C c d,vW D e f,vW E g i],.agg #[vU r,I o,vW s t u,vU v,vU x,I y,I z],vW A a b] J (Rb fun U K=>(Bb U (ae P (Instr.buildSlice 29 1 #[(0,(I p))]) B [151,47,323] K (Rs fun V X Y Z=>(ae P (Builtin.append_ #[29,29] 29 #[vW G j l,vW V X Y]) B [151,47,323] Z (Rs fun d0 d1 d2 d3=>(aN .i64 (p+1)/\(bN.L4 A a b d0 d1 d2 H m n q (p+1) C c d D e f E g i B d3 R)))))) (aN .i64 (p+1)/\(bN.L4 A a b G j l H m n q (p+1) C c d D e f E g i B K R))))))))/\(o=(2:Int)->(∀L,Ext B [] w L->(Pure P 237 #[.agg #[vW C c d,vW D e f,vW E g i],.agg #[vU r,I o,vW s t u,vU v,vU x,I y,I z],vW A a b] L (Rb fun d4 M=>(Bb d4 (ae P (Instr.buildSlice 29 1 #[(0,(I p))]) B [151,47,323] M (Rs fun d5 d6 d7 d8=>(ae P (Builtin.append_ #[29,29] 29 #[vW G j l,vW d5 d6 d7]) B [151,47,323] d8 (Rs fun d9 k F W=>(aN .i64 (p+1)/\(bN.L4 A a b d9 k F H m n q (p+1) C c d D e f E g i B W R)))))) (aN .i64 (p+1)/\(bN.L4 A a b G j l H m n q (p+1) C c d D e f E g i B M R))))))))/\(o=(3:Int)->(∀N,Ext B [] w N->(Pure P 238 #[.agg #[vW C c d,vW D e f,vW E g i],.agg #[vU r,I o,vW s t u,vU v,vU x,I y,I z],vW A a b] N (Rb fun e3 O=>(Bb e3 (ae P (Instr.buildSlice 29 1 #[(0,(I p))]) B [151,47,323] O (Rs fun e4 e5 e6 e7=>(ae P (Builtin.append_ #[29,29] 29 #[vW G j l,vW e4 e5 e6]) B [151,47,323] e7 (Rs fun e8 e9 g0 g1=>(aN .i64 (p+1)/\(bN.L4 A a b e8 e9 g0 H m n q (p+1) C c d D e f E g i B g1 R)))))) (aN .i64 (p+1)/\(bN.L4 A a b G j l H m n q (p+1) C c d D e f E g i B O R))))))))/\(o=(4:Int)->(∀Q,Ext B [] w Q->(Pure P 239 #[.agg #[vW C c d,vW D e f,vW E g i],.agg #[vU r,I o,vW s t u,vU v,vU x,I y,I z],vW A a b] Q (Rb fun g2 S=>(Bb g2 (ae P (Instr.buildSlice 29 1 #[(0,(I p))]) B [151,47,323] S (Rs fun g3 g4 g5 g6=>(ae P (Builtin.append_ #[29,29] 29 #[vW G j l,vW g3 g4 g5]) B [151,47,323] g6 (Rs fun g7 g8 g9 j0=>(aN .i64 (p+1)/\(bN.L4 A a b g7 g8 g9 H m n q (p+1) C c d D e f E g i B j0 R)))))) (aN .i64 (p+1)/\(bN.L4 A a b G j l H m n q (p+1) C c d D e f E g i B S R))))))))))) (R (vW G j l) w))):
  bN.L4 A a b G j l H m n q p C c d D e f E g i B w R:=
 lr bN.cx func185 h
theorem bN.vc
  (h:(∀j,Ext w.heap.size [] w j->(bN.L4 E g i none 0 0 A a b (a:Int) (0:Int) C c d D e f A a b w.heap.size j R))):
  Pure P 185 #[.agg #[vW C c d,vW D e f,vW A a b],vW E g i] w R:=
 pr bN.cx func185 h

def nR.cx:Pm:=([],[])
theorem nR.vc
  (h:(Pure P 62 #[vU L] w (Rb fun a b=>(R (.bool (decide (a=false))) b)))):
  Pure P 187 #[vU L] w R:=
 pr nR.cx func187 h

def rL.cx:Pm:=([],[])
theorem rL.vc
  (h:(Br (L=(⟨#[]⟩:ByteArray)) (R (.bool true) w) (Pure P 62 #[vU L] w (Rb fun a b=>(R (.bool a) b))))):
  Pure P 188 #[vU L] w R:=
 pr rL.cx func188 h

def nT.cx:Pm:=([],[])
theorem nT.vc{d:Addr}
  (h:(∀c,Ext w.heap.size [] w c->(∃e,aa c (d.add 0) [vU e]/\(R (.bool (decide (L=e))) c)))):
  Pure P 189 #[.agg #[vU L,I p,vW A a b,vU M,vU N,I q,I r],(.pointer (some d))] w R:=
 pr nT.cx func189 h

def pD.cx:Pm:=([],[])
theorem pD.vc
  (h:(Pure P 232 #[vU L,vU M] w (Rii fun a c b=>(R (I a) b)))):
  Pure P 190 #[vU L,vU M] w R:=
 pr pD.cx func190 h

def rM.cx:Pm:=([],[(5,3,5),(13,3,5)])
theorem rM.vc
  (h:(Br (r=2) (Br (p≥q) (∀o,Ext w.heap.size [] w o->(R (I 2) o)) (∀s,Ext w.heap.size [] w s->(Pure P 244 #[I p] s (Rb fun G t=>(Br (G=false) (R (I 2) t) (Pure P 244 #[I q] t (Rb fun H u=>(Br (H=false) (R (I 2) u) (R (I 0) u))))))))) (Br (r=3) (∀v,Ext w.heap.size [] w v->(Pure P 244 #[I p] v (Rb fun J j=>(Br (J=false) (R (I 2) j) (∀l:Nat,w.heap.size<=l->j.heap[l]? =some (.cells [vU L,I r,vW A a b,vU M,vU N,I p,I q].toArray 151 (0,0))->(Pure P 245 #[vW D e f,(.func (.func 246) #[] #[(.pointer (some (⟨l,0,none⟩:Addr)))])] j (Rb fun K x=>(Br (K=false) (R (I 7) x) (R (I 0) x))))))))) (Br (q≠0) (∀y,Ext w.heap.size [] w y->(R (I 2) y)) (∀m,Ext w.heap.size [] w m->(∀n:Nat,w.heap.size<=n->m.heap[n]? =some (.cells [vU L,I r,vW A a b,vU M,vU N,I p,I q].toArray 151 (0,0))->(Pure P 247 #[vW C c d,(.func (.func 248) #[] #[(.pointer (some (⟨n,0,none⟩:Addr)))])] m (Rb fun O z=>(Br (O=false) (R (I 7) z) (R (I 0) z)))))))))):
  Pure P 191 #[.agg #[vW C c d,vW D e f,vW E g i],.agg #[vU L,I r,vW A a b,vU M,vU N,I p,I q]] w R:=
 pr rM.cx func191 h

def mV.cx:Pm:=([],[])
theorem mV.vc
  (h:(∀m,Ext w.heap.size [] w m->(Pure P 236 #[.agg #[vW C c d,vW D e f,vW E g i],.agg #[vU L,I p,vW A a b,vU M,vU N,I q,I r],vW G j l] m (Rt fun n o=>(Pure P 235 #[.agg #[vU L,I p,vW A a b,vU M,vU N,I q,I r],vU n] o (Rt fun s t=>(Pure P 234 #[vU s] t (Ri fun u v=>(R (.bool (decide (u≠0))) v))))))))):
  Pure P 233 #[.agg #[vW C c d,vW D e f,vW E g i],.agg #[vU L,I p,vW A a b,vU M,vU N,I q,I r],vW G j l] w R:=
 pr mV.cx func233 h

def uf.cx:Pm:=([],[])
theorem uf.vc
  (h:(Pure P 190 #[vU L,(vU ⟨#[48]⟩)] w (Ri fun a b=>(R (I a) b)))):
  Pure P 234 #[vU L] w R:=
 pr uf.cx func234 h

def qE.cx:Pm:=([],[])
theorem qE.vc
  (h:(Br (N≠(⟨#[]⟩:ByteArray)) (∀d,Ext w.heap.size [] w d->(Pure P 190 #[vU M,vU N] d (Ri fun j c=>(Br (j>0) (Pure P 277 #[vU M,vU N] c (Rt fun l m=>(R (vU l) m))) (Br (L≠(⟨#[]⟩:ByteArray)) (Pure P 190 #[vU M,vU L] c (Ri fun n e=>(Br (n<0) (Pure P 277 #[vU M,vU L] e (Rt fun o s=>(R (vU o) s))) (R (vU ⟨#[48]⟩) e)))) (R (vU ⟨#[48]⟩) c)))))) (Br (L≠(⟨#[]⟩:ByteArray)) (∀f,Ext w.heap.size [] w f->(Pure P 190 #[vU M,vU L] f (Ri fun t g=>(Br (t<0) (Pure P 277 #[vU M,vU L] g (Rt fun u v=>(R (vU u) v))) (R (vU ⟨#[48]⟩) g))))) (∀i,Ext w.heap.size [] w i->(R (vU ⟨#[48]⟩) i))))):
  Pure P 235 #[.agg #[vU N0,I p,vW A a b,vU L,vU N,I q,I r],vU M] w R:=
 pr qE.cx func235 h

def fv.L3(a:O)(b c:Nat)(d:ByteArray)(e:O)(f g:Nat)(i j:Int)(l:O)(m n:Nat)(o:O)(p q:Nat)(r:O)(s t:Nat)(u:ByteArray)(v:Int)(x:O)(y z:Nat)(A C:ByteArray)(D E:Int):=Lt 236 f236 3 [vS 2 a b c,vL 3,vL 4,vT 7 d,vS 14 e f g,vI 15 i,vI 16 j] [⟨3,false,47,[(vW l m n),(vW o p q),(vW r s t)]⟩,⟨4,false,151,[(vU u),(I v),(vW x y z),(vU A),(vU C),(I D),(I E)]⟩]
def fv.cx:Pm:=([((true,3),[2,3,4,7,14,15,16],[3,4])],[(6,9999,3)])
theorem fv.L3.step
  (h:(Br (p<q) (Ix p c C fun J=>(∃u K O Q S T U,aa w (J.add ((p).toNat*7)) [I u,vU K,vU O,vU Q,vU S,vU T,vU U]/\(∀v,Ext B [] w v->(Pure P 278 #[.agg #[vW D d e,vW E f g],vW A a b,I u] v fun V X=>∃x Y Z d0 d1 d2 d3,V= .tuple #[.agg #[vU x,vU Y,vU Z,vU d0,vU d1,vU d2],I d3]/\(∀o,Ext B [] X o->(Ix p i G fun d4=>(∃y,aa o (d4.add ((p).toNat*1)) [vU y]/\(∀z,Ext B [] o z->(Pure P 280 #[vU y,vU x] z (Rt fun d5 d6=>(Pure P 279 #[vU L,vU d5] d6 (Rt fun d7 d8=>(aN .i64 (p+1)/\(fv.L3 A a b d7 C c j q (p+1) D d e E f g H l m M r G i n N N0 s t B d8 R)))))))))))))) (R (vU L) w))):
  fv.L3 A a b L C c j q p D d e E f g H l m M r G i n N N0 s t B w R:=
 lr fv.cx func236 h
theorem fv.vc
  (h:(∀m,Ext w.heap.size [] w m->(fv.L3 G j l (⟨#[48]⟩:ByteArray) A a b (a:Int) (0:Int) C c d A a b D e f L p E g i M N q r w.heap.size m R))):
  Pure P 236 #[.agg #[vW C c d,vW A a b,vW D e f],.agg #[vU L,I p,vW E g i,vU M,vU N,I q,I r],vW G j l] w R:=
 pr fv.cx func236 h

def bE.L2(a:O)(b c:Nat)(d:O)(e f:Nat)(g i:Int)(j:O)(l m:Nat)(n:O)(o p:Nat)(q:O)(r s:Nat)(t:ByteArray)(u:Int)(v:O)(x y:Nat)(z A:ByteArray)(C D:Int):=Lt 237 f237 2 [vS 2 a b c,vL 3,vL 4,vS 11 d e f,vI 12 g,vI 13 i] [⟨3,false,47,[(vW j l m),(vW n o p),(vW q r s)]⟩,⟨4,false,151,[(vU t),(I u),(vW v x y),(vU z),(vU A),(I C),(I D)]⟩]
def bE.L5(a:O)(b c:Nat)(d:O)(e f:Nat)(g i:Int)(j:O)(l m:Nat)(n o:Int)(p:O)(q r:Nat)(s:O)(t u:Nat)(v:O)(x y:Nat)(z:ByteArray)(A:Int)(C:O)(D E:Nat)(G H:ByteArray)(J K L M N:Int):=Lt 237 f237 5 [vS 2 a b c,vL 3,vL 4,vL 8,vS 11 d e f,vI 12 g,vI 13 i,vS 17 j l m,vI 18 n,vI 19 o] [⟨3,false,47,[(vW p q r),(vW s t u),(vW v x y)]⟩,⟨4,false,151,[(vU z),(I A),(vW C D E),(vU G),(vU H),(I J),(I K)]⟩,⟨8,false,73,[(I L),(I M),(I N)]⟩]
def bE.cx:Pm:=([((true,2),[2,3,4,11,12,13],[3,4]),((true,5),[2,3,4,8,11,12,13,17,18,19],[3,4,8])],[])
theorem bE.L2.step
  (h:(Br (p<q) (Ix p c C fun y=>(∃o u v,aa w (y.add ((p).toNat*3)) [I o,I u,I v]/\(∀x,Ext B [] w x->(bE.L5 A a b C c d q p A a b (a:Int) (0:Int) D e f E g i G j l L r H m n M N s t o u v B x R)))) (R (.bool false) w))):
  bE.L2 A a b C c d q p D e f E g i G j l L r H m n M N s t B w R:=
 lr bE.cx func237 h
theorem bE.L5.step
  (h:(Br (p<u) (Ix p m H fun T=>(∃y z U,aa w (T.add ((p).toNat*3)) [I y,I z,I U]/\(Br (x=y) (∀K,Ext B [] w K->(Pure P 281 #[.agg #[vW A a b,vW C c d,vW D e f],I p0] K (Ri fun V O=>(Br (V=r) (Pure P 281 #[.agg #[vW A a b,vW C c d,vW D e f],I z] O (Ri fun X Q=>(Br (X=s) (R (.bool true) Q) (aN .i64 (p+1)/\(bE.L5 E g i G j l t q H m a0 u (p+1) A a b C c d D e f L v J n o M N r s x p0 p1 B Q R))))) (aN .i64 (p+1)/\(bE.L5 E g i G j l t q H m a0 u (p+1) A a b C c d D e f L v J n o M N r s x p0 p1 B O R)))))) (aN .i64 (p+1)/\(∀S,Ext B [] w S->(bE.L5 E g i G j l t q H m a0 u (p+1) A a b C c d D e f L v J n o M N r s x p0 p1 B S R)))))) (aN .i64 (q+1)/\(bE.L2 E g i G j l t (q+1) A a b C c d D e f L v J n o M N r s B w R)))):
  bE.L5 E g i G j l t q H m a0 u p A a b C c d D e f L v J n o M N r s x p0 p1 B w R:=
 lr bE.cx func237 h
theorem bE.vc
  (h:(∀m,Ext w.heap.size [] w m->(bE.L2 A a b A a b (a:Int) (0:Int) C c d D e f E g i L p G j l M N q r w.heap.size m R))):
  Pure P 237 #[.agg #[vW C c d,vW D e f,vW E g i],.agg #[vU L,I p,vW G j l,vU M,vU N,I q,I r],vW A a b] w R:=
 pr bE.cx func237 h

def rN.cx:Pm:=([],[(1,1,5)])
theorem rN.vc
  (h:(∀m,Ext w.heap.size [] w m->(∀n:Nat,w.heap.size<=n->m.heap[n]? =some (.cells [vW A a b,vW C c d,vW D e f].toArray 47 (0,0))->(∀o:Nat,w.heap.size<=o->m.heap[o]? =some (.cells [vU L,I p,vW E g i,vU M,vU N,I q,I r].toArray 151 (0,0))->(Pure P 282 #[vW G j l,(.func (.func 283) #[] #[(.pointer (some (⟨o,0,none⟩:Addr))),(.pointer (some (⟨n,0,none⟩:Addr)))])] m (Rb fun s t=>(R (.bool s) t))))))):
  Pure P 238 #[.agg #[vW A a b,vW C c d,vW D e f],.agg #[vU L,I p,vW E g i,vU M,vU N,I q,I r],vW G j l] w R:=
 pr rN.cx func238 h

def dD.L4(a:Addr)(b:Int)(c:O)(d e:Nat)(f g:Int):=Lt 239 f239 4 [(4,.v (.pointer (some a))),vI 8 b,vS 23 c d e,vI 24 f,vI 25 g] []
def dD.cx:Pm:=([((true,4),[4,8,23,24,25],[])],[(1,3,5)])
theorem dD.L4.step{c:Addr}
  (h:(Br (p<r) (Ix p a A fun i=>(∃j f e,aa w (i.add ((p).toNat*3)) [I j,I f,I e]/\(∀d,Ext B [] w d->(∃g,aa d (c.add 5) [I g]/\(Br (f=g) (aN .i64 (q - e)/\(aN .i64 (p+1)/\(dD.L4 c (q - e) A a b r (p+1) B d R))) (aN .i64 (p+1)/\(dD.L4 c q A a b r (p+1) B d R))))))) (R (.bool (decide (q>0))) w))):
  dD.L4 c q A a b r p B w R:=
 lr dD.cx func239 h
theorem dD.vc
  (h:(∀n,Ext w.heap.size [] w n->(∀m:Nat,w.heap.size<=m->n.heap[m]? =some (.cells [vU L,I p,vW C d e,vU M,vU N,I q,I r].toArray 151 (0,0))->(Pure P 249 #[vW A a c,(.func (.func 284) #[] #[(.pointer (some (⟨m,0,none⟩:Addr)))])] n (Ri fun o s=>(Ix o a A fun u=>(∃t,aa s ((u.add ((o).toNat*7)).add 1) [I t]/\(dD.L4 (⟨m,0,none⟩:Addr) t D b f (b:Int) (0:Int) w.heap.size s R)))))))):
  Pure P 239 #[.agg #[vW A a c,vW E g i,vW G j l],.agg #[vU L,I p,vW C d e,vU M,vU N,I q,I r],vW D b f] w R:=
 pr dD.cx func239 h

def nU.cx:Pm:=([],[])
theorem nU.vc
  (h:(Br (p≥(1:Int)) (R (.bool (decide (p<=(9:Int)))) w) (R (.bool false) w))):
  Pure P 244 #[I p] w R:=
 pr nU.cx func244 h

def nV.cx:Pm:=([],[])
theorem nV.vc{b:Addr}
  (h:(∀a,Ext w.heap.size [] w a->(∃c,aa a (b.add 6) [I c]/\(R (.bool (decide (p=c))) a)))):
  Pure P 246 #[.agg #[I p,vU L,vU M,vU N,vU N0,vU N1,vU N2],(.pointer (some b))] w R:=
 pr nV.cx func246 h

def nW.cx:Pm:=([],[])
theorem nW.vc{b:Addr}
  (h:(∀a,Ext w.heap.size [] w a->(∃c,aa a (b.add 5) [I c]/\(R (.bool (decide (p=c))) a)))):
  Pure P 248 #[.agg #[I p,I q,I r,vU L,vU M,vU N,vU N0],(.pointer (some b))] w R:=
 pr nW.cx func248 h

def vF.cx:Pm:=([],[])
theorem vF.vc
  (h:(Pure P 259 #[vU L,vU M] w (qO fun a c b=>(R (vU a) b)))):
  Pure P 277 #[vU L,vU M] w R:=
 pr vF.cx func277 h

def vG.cx:Pm:=([],[])
theorem vG.vc
  (h:(Pure P 257 #[vU L,vU M] w (qO fun a c b=>(R (vU a) b)))):
  Pure P 279 #[vU L,vU M] w R:=
 pr vG.cx func279 h

def vJ.cx:Pm:=([],[])
theorem vJ.vc
  (h:(Pure P 258 #[vU L,vU M] w (qO fun a c b=>(R (vU a) b)))):
  Pure P 280 #[vU L,vU M] w R:=
 pr vJ.cx func280 h

def rO.cx:Pm:=([],[(1,3,5)])
theorem rO.vc
  (h:(∀g,Ext w.heap.size [] w g->(∀i:Nat,w.heap.size<=i->g.heap[i]? =some (.cells [I p].toArray 3 (0,0))->(Pure P 249 #[vW A a b,(.func (.func 311) #[] #[(.pointer (some (⟨i,0,none⟩:Addr)))])] g (Ri fun j l=>(Ix j a A fun n=>(∃m,aa l ((n.add ((j).toNat*7)).add 2) [I m]/\(R (I m) l)))))))):
  Pure P 281 #[.agg #[vW A a b,vW C c d,vW D e f],I p] w R:=
 pr rO.cx func281 h

def nX.cx:Pm:=([],[(1,9999,3)])
theorem nX.vc{b c:Addr}
  (h:(∀a,Ext w.heap.size [] w a->(∃d,aa a (b.add 6) [I d]/\(Br (p=d) (∃e f g i j l m n o,aa a c [vW e f g,vW i j l,vW m n o]/\(∃s,aa a (b.add 5) [I s]/\(∀t,Ext w.heap.size [] a t->(Pure P 281 #[.agg #[vW e f g,vW i j l,vW m n o],I q] t (Ri fun v x=>(R (.bool (decide (v=s))) x)))))) (∀u,Ext w.heap.size [] a u->(R (.bool false) u)))))):
  Pure P 283 #[.agg #[I p,I q,I r],(.pointer (some b)),(.pointer (some c))] w R:=
 pr nX.cx func283 h

def nY.cx:Pm:=([],[])
theorem nY.vc{b:Addr}
  (h:(∀a,Ext w.heap.size [] w a->(∃c,aa a (b.add 5) [I c]/\(R (.bool (decide (p=c))) a)))):
  Pure P 284 #[.agg #[I p,I q,I r,vU L,vU M,vU N,vU N0],(.pointer (some b))] w R:=
 pr nY.cx func284 h

def nZ.cx:Pm:=([],[])
theorem nZ.vc{b:Addr}
  (h:(∀a,Ext w.heap.size [] w a->(∃c,aa a b [I c]/\(R (.bool (decide (p=c))) a)))):
  Pure P 311 #[.agg #[I p,I q,I r,vU L,vU M,vU N,vU N0],(.pointer (some b))] w R:=
 pr nZ.cx func311 h

end Go.Proofs.YtmdphpnaipbfjaaGreatDoor.F

namespace Go.Proofs.YtmdphpnaipbfjaaGreatDoor.B
open Go Go.RowKit Go.Proofs Go.Proofs.YtmdphpnaipbfjaaGreatDoor.Vc

theorem Tf{w:World}{x y:Rat}(hg:bj w)(hx:lC x)(hy:lC y):Pure Tryz.prog 279 #[.string (rS x),.string (rS y)] w fun v _=>v= .string (rS (x+y)):=by
 refine F.vG.vc (pm (jb hg hx hy) ?_);rintro v a _ rfl;exact⟨_,_,rfl,rfl⟩
theorem JE{w:World}{x y:Rat}(hg:bj w)(hx:lC x)(hy:lC y):Pure Tryz.prog 277 #[.string (rS x),.string (rS y)] w fun v _=>v= .string (rS (x - y)):=by
 refine F.vF.vc (pm (kz hg hx hy) ?_);rintro v a _ rfl;exact⟨_,_,rfl,rfl⟩
theorem Tg{w:World}{x y:Rat}(hg:bj w)(hx:lC x)(hy:lC y):Pure Tryz.prog 280 #[.string (rS x),.string (rS y)] w fun v _=>v= .string (rS (x*y)):=by
 refine F.vJ.vc (pm (jc hg hx hy) ?_);rintro v a _ rfl;exact⟨_,_,rfl,rfl⟩
theorem pU{w:World}{x y:Rat}(hg:bj w)(hx:lC x)(hy:lC y):Pure Tryz.prog 190 #[.string (rS x),.string (rS y)] w fun v _=>v= .int .i64 (gO x y):=by
 refine F.pD.vc (pm (eT hg hx hy) ?_);rintro v a _ rfl;exact⟨_,_,rfl,rfl⟩
theorem Pp{w:World}{x:Rat}(hg:bj w)(h:lC x):Pure Tryz.prog 234 #[.string (rS x)] w fun v _=>v= .int .i64 (gO x 0):=by
 refine F.uf.vc ?_;rw[s0];refine pm (pU hg h (Sm.zero om)) ?_;rintro v a _ rfl;exact⟨_,rfl,rfl⟩
theorem sZ{w:World}(hg:bj w){s:ByteArray}(hs:mO s):Pure Tryz.prog 62 #[.string s] w fun v _=>v= .bool (vR s):=by
 refine pm (dN hg s (ec hs dc)) ?_;rintro v a _ rfl;unfold vR;cases kH (bJ s)<;>rfl
theorem qF{s:ByteArray}:s=⟨#[]⟩↔s.size=0:=by
 constructor
 ·rintro rfl;rfl
 ·intro h;obtain⟨d⟩:=s;have:d.size=0:=h;rw[Array.eq_empty_of_size_eq_zero this]
theorem DE{w:World}(hg:bj w){s:ByteArray}(hs:mO s):Pure Tryz.prog 188 #[.string s] w fun v _=>v= .bool (eV s):=by
 refine F.rL.vc ⟨fun h=> ?_,fun h=> ?_⟩
 ·unfold eV;rw[hM (qF.1 h)];rfl
 ·refine pm (sZ hg hs) ?_;rintro v a _ rfl;refine⟨_,rfl,?_⟩;unfold eV;rw[eL (fun k=>h (qF.2 k))];rfl
theorem FH{s:ByteArray}(h:eV s=true)(a:¬s.size=0):vR s=true:=by
 unfold eV at h;rw[eL a]at h;exact h

theorem JF{w0:World}{A:Option Addr}{n c:Nat}{l:List Rm}(hl:bW w0 A 7 (l.map Rm.row))(hlen:l.length=n)(hn:n<2147483648){f:Nat}{a k:Array Value}(bU:av Tryz.prog f=true){p:Rm->Bool}
  (hf:∀w,Below w0.heap.size w0 w->∀x∈l,Pure Tryz.prog f (a.toList++([x.val]:List Value)++k.toList).toArray w fun v _=>v= .bool (p x)) {R:Value->World->Prop} {r:Int} (g:∀w,Below w0.heap.size w0 w->R (.int .i64 r) w):
  ∀(d i:Nat)(w:World),n - i=d->i<=n->Below w0.heap.size w0 w->r=fq p i (l.drop i)->F.az.L2 A n c f a k n i w0.heap.size w R:=by
 intro d;induction d with
 |zero=>
  intro i w q hi hw b;rw[dd om]at b;subst b;exact F.az.L2.step ⟨fun h=>by omega,fun _=>g w hw⟩
 |succ d ih=>
  intro i w q hi hw b;have j:i<l.length:=om;rw[cy j,fq]at b;obtain⟨hb,y,z,e,_⟩:=(hl.ar hw lf).at_ (fun _=>rfl) hlen j;refine F.az.L2.step ⟨fun _=> ?_,fun h=>by omega⟩;refine⟨hb,y,z,_,_,_,_,_,_,_,_,_,e,bU,pm (hf w hw l[i] (bx _)) ?_⟩;rintro v m o rfl;refine⟨_,rfl,fun h=> ?_,fun h=>⟨ir,?_⟩⟩
  ·rw[bm h]at b;subst b;exact g m (kP hw o)
  ·rw[aq (by simp[h])]at b;have B:=sc i;rw[B];exact ih (i+1) m om om (kP hw o) b
theorem Th{w0:World}{A:Option Addr}{n c:Nat}{l:List Rm}(hl:bW w0 A 7 (l.map Rm.row))(hlen:l.length=n)(hn:n<2147483648){f:Nat}{a k:Array Value}(bU:av Tryz.prog f=true){p:Rm->Bool}
  (hf:∀w,Below w0.heap.size w0 w->∀x∈l,Pure Tryz.prog f (a.toList++([x.val]:List Value)++k.toList).toArray w fun v _=>v= .bool (p x)):
  Pure Tryz.prog 105 #[.slice A n c,.func (.func f) a k] w0 fun v _=>v= .bool (l.any p):=by
 refine F.cY.vc (pm (F.az.vc (JF hl hlen hn bU hf (R:=fun v _=>v= .int .i64 (fq p 0 l)) (fun _ _=>rfl) n 0 w0 rfl om (Below.refl _ _) rfl)) ?_);rintro v b _ rfl;exact⟨_,rfl,by dsimp only;rw[tY]⟩
theorem WB{w0:World}{A:Option Addr}{n c:Nat}{l:List ByteArray}(hl:bW w0 A 1 (l.map eD))(hlen:l.length=n)(hn:n<2147483648){f:Nat}{a k:Array Value}(bU:av Tryz.prog f=true){p:ByteArray->Bool}
  (hf:∀w,Below w0.heap.size w0 w->∀x∈l,Pure Tryz.prog f (a.toList++([.string x]:List Value)++k.toList).toArray w fun v _=>v= .bool (p x)):
  Pure Tryz.prog 55 #[.slice A n c,.func (.func f) a k] w0 fun v _=>v= .bool (l.any p):=by
 refine F.cL.vc (pm (F.aB.vc (Dl hl hlen hn bU hf (R:=fun v _=>v= .int .i64 (fq p 0 l)) (fun _=>rfl) n 0 w0 rfl om (Below.refl _ _) rfl)) ?_);rintro v b _ rfl;exact⟨_,rfl,by dsimp only;rw[tY]⟩
end Go.Proofs.YtmdphpnaipbfjaaGreatDoor.B

set_option maxRecDepth 100000
set_option maxHeartbeats 4000000
namespace Go.Proofs.YtmdphpnaipbfjaaGreatDoor.F
open Go Go.RowKit Go.Proofs Go.Proofs.YtmdphpnaipbfjaaGreatDoor.Vc
open Tryz
variable {A C D E G H J K A0 A1 A2 A3 A4 A5 A6 A7 A8 A9 C0 C1 C2 C3 C4 C5 C6 C7 C8 C9:O} {a b c d e f g i j l m n o a0 a1 a2 a3 a4 a5 a6 a7 a8 a9 b0 b1 b2 b3 b4 b5 b6 b7 b8 b9 c0 c1 c2 c3 c4 c5 c6 c7 c8 c9:Nat} {p q r s t u v x p0 p1 p2 p3 p4 p5 p6 p7 p8 p9 q0 q1 q2 q3 q4 q5 q6 q7 q8 q9:Int} {L M N N0 N1 N2 N3 N4 N5 N6 N7 N8 N9 T0 T1 T2 T3 T4 T5 T6 T7 T8 T9:ByteArray} {Q S:Bool} {B:Nat} {w:World} {R:Kt}
def dR.L4(a:O)(b c:Nat)(d e:Int):=Lt 109 f109 4 [vS 0 a b c,vI 10 d,vI 11 e] []
def dR.cx:Pm:=([((true,4),[0,10,11],[])],[])
theorem dR.L4.step
  (h:(Br (p<q) (Pure P 134 #[vW A a b,I p] w (Ri fun c d=>(Br (c≠0) (R (.tuple #[I p,I c]) d) (aN .i64 (p+1)/\(dR.L4 A a b q (p+1) B d R))))) (R (.tuple #[(I (-1:Int)),I 0]) w))):
  dR.L4 A a b q p B w R:=
 lr dR.cx func109 h
theorem dR.vc
  (h:(Br ((a:Int)>32) (R (.tuple #[(I (-1:Int)),I 8]) w) (dR.L4 A a b (a:Int) (0:Int) w.heap.size w R))):
  Pure P 109 #[vW A a b] w R:=
 pr dR.cx func109 h

def dm.uC(a:O)(b c:Nat)(d:O)(e f:Nat)(g:Addr)(i:Option Nat)(j:O)(l m:Nat)(n:O)(o p:Nat)(q r:Int):=Lt 114 f114 13 [vS 0 a b c,vS 2 d e f,(7,.v (.pointer (some g))),(11,.v (.map i)),vS 12 j l m,vS 44 n o p,vI 45 q,vI 46 r] []
def dm.cx:Pm:=([((true,13),[0,2,7,11,12,44,45,46],[])],[(7,1,5),(10,0,2),(10,1,5),(10,2,2),(10,4,2),(10,6,2),(10,8,2),(10,10,2),(14,3,2),(15,9998,8),(17,3,2),(17,5,4)])
theorem dm.uC.step{m:Addr}{n:Option Nat}
  (h:(Br (p<q) (Ix p f E fun g8=>(∃d0 d1 d2,aa w (g8.add ((p).toNat*3)) [I d0,I d1,I d2]/\(ae P (Instr.alloc 155 true (.tuple #[])) B [] w fun g9 d3=>∃(l:Addr),g9= .pointer (some l)/\(∃(H:List Value)(J:Nat),B<=l.block/\l.spot=none/\d3.heap[l.block]? =some (.cells H.toArray J (0,0))/\l.off+3<=H.length/\hasType J []=false/\∀x,aG d3 x l.block J (setCells H l.off [I d0,I d1,I d2])->(Ix p b C fun j0=>(∃d4 d5 d6 d7 d8 d9 k F,aa x (j0.add ((p).toNat*8)) [I d4,I d5,I d6,I d7,.bool d8,vU d9,vU k,vU F]/\(∃W e3 e4,aa x l [I W,I e3,I e4]/\(∃e5,aa x m [I e5]/\(∀e6,Ext B [] x e6->(Pure P 168 #[.agg #[I d4,I d5,I d6,I d7,.bool d8,vU d9,vU k,vU F],.agg #[I W,I e3,I e4],vW D c d,I e5] e6 fun j1 e7=>∃o r s t e8,j1= .tuple #[.agg #[.bool o,.bool r,.bool s,.bool t],.bool e8]/\(Br (e8=false) (aN .i64 (p+1)/\(∀e9,Ext B [255] e7 e9->(dm.uC C b g D c d m n A a e E f i q (p+1) B e9 R))) (∀K,Ext B [255] e7 K->(∃g0,aa K (l.add 1) [I g0]/\(ae P (Instr.lookup 257 (.map n) (I g0) false) B [255] K fun j2 j3=>∃(L:Nat)(g1 g2:Array Value),j2= .func (.func L) g1 g2/\(av P L=true/\(Pure P L ((Array.toList g1)++([.agg #[.bool o,.bool r,.bool s,.bool t]]:List Value)++(Array.toList g2)).toArray j3 (Ri fun M y=>(∃g3,aa y (l.add 1) [I g3]/\(Br (M≠g3) (Ix p a A fun j=>((∀z,Ext B [] y z->(∃g4,aa z m [I g4]/\(∃(N:List Value)(O:Nat),B<=((j.add ((p).toNat*3)).add 1).block/\((j.add ((p).toNat*3)).add 1).spot=none/\z.heap[((j.add ((p).toNat*3)).add 1).block]? =some (.cells N.toArray O (0,0))/\((j.add ((p).toNat*3)).add 1).off+1<=N.length/\hasType O [⟨15,false,255,[.bool o,.bool r,.bool s,.bool t]⟩]=false/\∀Q,aG z Q ((j.add ((p).toNat*3)).add 1).block O (setCells N ((j.add ((p).toNat*3)).add 1).off [I M])->(Ix p a A fun u=>(∃(S:List Value)(T:Nat),B<=((u.add ((p).toNat*3)).add 2).block/\((u.add ((p).toNat*3)).add 2).spot=none/\Q.heap[((u.add ((p).toNat*3)).add 2).block]? =some (.cells S.toArray T (0,0))/\((u.add ((p).toNat*3)).add 2).off+1<=S.length/\hasType T [⟨15,false,255,[.bool o,.bool r,.bool s,.bool t]⟩]=false/\∀g5,aG Q g5 ((u.add ((p).toNat*3)).add 2).block T (setCells S ((u.add ((p).toNat*3)).add 2).off [I g4])->(aN .i64 (p+1)/\(dm.uC C b g D c d m n A a e E f i q (p+1) B g5 R)))))))/\(∀U,Ext B [] y U->(∃(V:List Value)(X:Nat),B<=((j.add ((p).toNat*3)).add 1).block/\((j.add ((p).toNat*3)).add 1).spot=none/\U.heap[((j.add ((p).toNat*3)).add 1).block]? =some (.cells V.toArray X (0,0))/\((j.add ((p).toNat*3)).add 1).off+1<=V.length/\hasType X [⟨15,false,255,[.bool o,.bool r,.bool s,.bool t]⟩]=false/\∀G,aG U G ((j.add ((p).toNat*3)).add 1).block X (setCells V ((j.add ((p).toNat*3)).add 1).off [I M])->(∃g6,aa G m [I g6]/\(Ix p a A fun v=>(∃(Y:List Value)(Z:Nat),B<=((v.add ((p).toNat*3)).add 2).block/\((v.add ((p).toNat*3)).add 2).spot=none/\G.heap[((v.add ((p).toNat*3)).add 2).block]? =some (.cells Y.toArray Z (0,0))/\((v.add ((p).toNat*3)).add 2).off+1<=Y.length/\hasType Z [⟨15,false,255,[.bool o,.bool r,.bool s,.bool t]⟩]=false/\∀g7,aG G g7 ((v.add ((p).toNat*3)).add 2).block Z (setCells Y ((v.add ((p).toNat*3)).add 2).off [I g6])->(aN .i64 (p+1)/\(dm.uC C b g D c d m n A a e E f i q (p+1) B g7 R))))))))) (aN .i64 (p+1)/\(dm.uC C b g D c d m n A a e E f i q (p+1) B y R))))))))))))))))))))) (R (.tuple #[vW A a e,I 0]) w))):
  dm.uC C b g D c d m n A a e E f i q p B w R:=
 lr dm.cx func114 h
theorem dm.vc
  (h:(∀n,Ext w.heap.size [] w n->(Pure P 156 #[vW C d e,vW A a b] n (Rb fun t o=>(Br (t=false) (R (.tuple #[vN,I 1]) o) (Pure P 157 #[vW D c f,(.func (.func 158) #[] #[])] o (Rb fun u l=>(Bb u (R (.tuple #[vN,I 1]) l) (Br ((c:Int)>16) (R (.tuple #[vN,I 8]) l) (Pure P 159 #[I p] l (Rb fun v m=>(Br (v=false) (R (.tuple #[vN,I 2]) m) (∀j:Nat,w.heap.size<=j->m.heap[j]? =some (.cells [I p].toArray 3 (0,0))->(Pure P 160 #[vW A a b,(.func (.func 161) #[] #[(.pointer (some (⟨j,0,none⟩:Addr)))])] m (Rb fun x q=>(Bb x (R (.tuple #[vN,I 5]) q) (∀r,Ext w.heap.size [] q r->(ae P (Instr.makeMap 257 none) w.heap.size [253] r fun y s=>∃(g:Option Nat),y= .map g/\(∀i:Nat,w.heap.size<=i->s.heap[i]? =some (.cells [(.func (.func 162) #[] #[])].toArray 253 (0,0))->(eM P (Instr.mapUpdate 257 (.map g) (I 0) (.func (.func 163) #[] #[(.pointer (some (⟨i,0,none⟩:Addr)))])) w.heap.size [] s fun z=>(eM P (Instr.mapUpdate 257 (.map g) (I 1) (.func (.func 164) #[] #[(.pointer (some (⟨i,0,none⟩:Addr)))])) w.heap.size [] z fun E=>(eM P (Instr.mapUpdate 257 (.map g) (I 2) (.func (.func 165) #[] #[(.pointer (some (⟨i,0,none⟩:Addr)))])) w.heap.size [] E fun G=>(eM P (Instr.mapUpdate 257 (.map g) (I 3) (.func (.func 166) #[] #[(.pointer (some (⟨i,0,none⟩:Addr)))])) w.heap.size [] G fun H=>(eM P (Instr.mapUpdate 257 (.map g) (I 4) (.func (.func 167) #[] #[(.pointer (some (⟨i,0,none⟩:Addr)))])) w.heap.size [] H fun J=>(Pure P 89 #[vW A a b] J (Rs fun K L M N=>(dm.uC C d e D c f (⟨j,0,none⟩:Addr) g K L M A a b (a:Int) (0:Int) w.heap.size N R))))))))))))))))))))))))))):
  Pure P 114 #[vW C d e,vW A a b,vW D c f,I p] w R:=
 pr dm.cx func114 h

def tf.cx:Pm:=([],[(3,1,5)])
theorem tf.vc
  (h:(∀K,Ext w.heap.size [] w K->(Pure P 156 #[vW C b c,vW A a d] K (Rb fun S r=>(Br (S=false) (R (.tuple #[vN,I 1]) r) (∀s:Nat,w.heap.size<=s->r.heap[s]? =some (.cells [I q].toArray 3 (0,0))->(Pure P 169 #[vW C b c,(.func (.func 170) #[] #[(.pointer (some (⟨s,0,none⟩:Addr)))])] r (Ri fun e L=>(Br (e<0) (R (.tuple #[vN,I 7]) L) (Pure P 159 #[I p] L (Rb fun T o=>(Br (T=false) (R (.tuple #[vN,I 2]) o) (Ix e a A fun U=>(∃M,aa o ((U.add ((e).toNat*3)).add 2) [I M]/\(Br (p<M) (R (.tuple #[vN,I 5]) o) (Pure P 89 #[vW A a d] o (Rs fun f g N i=>(Ix e g f fun V=>(∃t,aa i ((V.add ((e).toNat*3)).add 1) [I t]/\(Br (t=2) (Ix e g f fun j=>(∃(u:List Value)(v:Nat),w.heap.size<=((j.add ((e).toNat*3)).add 1).block/\((j.add ((e).toNat*3)).add 1).spot=none/\i.heap[((j.add ((e).toNat*3)).add 1).block]? =some (.cells u.toArray v (0,0))/\((j.add ((e).toNat*3)).add 1).off+1<=u.length/\hasType v []=false/\∀x,aG i x ((j.add ((e).toNat*3)).add 1).block v (setCells u ((j.add ((e).toNat*3)).add 1).off [I 3])->(Ix e g f fun l=>(∃(y:List Value)(z:Nat),w.heap.size<=((l.add ((e).toNat*3)).add 2).block/\((l.add ((e).toNat*3)).add 2).spot=none/\x.heap[((l.add ((e).toNat*3)).add 2).block]? =some (.cells y.toArray z (0,0))/\((l.add ((e).toNat*3)).add 2).off+1<=y.length/\hasType z []=false/\∀O,aG x O ((l.add ((e).toNat*3)).add 2).block z (setCells y ((l.add ((e).toNat*3)).add 2).off [I p])->(R (.tuple #[vW f g N,I 0]) O))))) (Br (t=4) (Ix e g f fun m=>(∃(D:List Value)(E:Nat),w.heap.size<=((m.add ((e).toNat*3)).add 1).block/\((m.add ((e).toNat*3)).add 1).spot=none/\i.heap[((m.add ((e).toNat*3)).add 1).block]? =some (.cells D.toArray E (0,0))/\((m.add ((e).toNat*3)).add 1).off+1<=D.length/\hasType E []=false/\∀G,aG i G ((m.add ((e).toNat*3)).add 1).block E (setCells D ((m.add ((e).toNat*3)).add 1).off [I 0])->(Ix e g f fun n=>(∃(H:List Value)(J:Nat),w.heap.size<=((n.add ((e).toNat*3)).add 2).block/\((n.add ((e).toNat*3)).add 2).spot=none/\G.heap[((n.add ((e).toNat*3)).add 2).block]? =some (.cells H.toArray J (0,0))/\((n.add ((e).toNat*3)).add 2).off+1<=H.length/\hasType J []=false/\∀Q,aG G Q ((n.add ((e).toNat*3)).add 2).block J (setCells H ((n.add ((e).toNat*3)).add 2).off [I p])->(R (.tuple #[vW f g N,I 0]) Q))))) (R (.tuple #[vN,I 11]) i)))))))))))))))))))))):
  Pure P 115 #[vW C b c,vW A a d,I q,I p] w R:=
 pr tf.cx func115 h

def pa.cx:Pm:=([],[])
theorem pa.vc
  (h:(Ix p a A fun O=>(∃d g i o f j l q,aa w (O.add ((p).toNat*8)) [I d,I g,I i,I o,.bool f,vU j,vU l,vU q]/\(∀r,Ext w.heap.size [] w r->(Pure P 62 #[vU j] r (Rb fun Q s=>(Br (Q=false) (R (I 1) s) (Pure P 62 #[vU l] s (Rb fun S m=>(Br (S=false) (R (I 1) m) (Br (((ByteArray.size q:Int):Int)>64) (R (I 4) m) (Pure P 194 #[vU l,vU j] m (Ri fun n e=>(Br (d<1) (R (I 2) e) (Br (d>1073741824) (R (I 2) e) (Br (g<1) (R (I 2) e) (Br (g>1073741824) (R (I 2) e) (Br (i<1) (R (I 2) e) (Br (i>3) (R (I 2) e) (Pure P 159 #[I o] e (Rb fun T c=>(Br (T=false) (R (I 2) c) (Bb f (Br (n>0) (R (I 2) c) (Br (f=false) (Br (n<0) (R (I 2) c) (Br (p>0) (aN .i64 (p - (1:Int))/\(Ix (p - (1:Int)) a A fun U=>(∃t,aa c ((U.add (((p - (1:Int))).toNat*8)).add 0) [I t]/\(Br (t≥d) (∀u,Ext w.heap.size [] c u->(R (I 5) u)) (∀v,Ext w.heap.size [] c v->(R (I 0) v)))))) (∀x,Ext w.heap.size [] c x->(R (I 0) x)))) (Br (p>0) (aN .i64 (p - (1:Int))/\(Ix (p - (1:Int)) a A fun V=>(∃y,aa c ((V.add (((p - (1:Int))).toNat*8)).add 0) [I y]/\(Br (y≥d) (∀z,Ext w.heap.size [] c z->(R (I 5) z)) (∀C,Ext w.heap.size [] c C->(R (I 0) C)))))) (∀D,Ext w.heap.size [] c D->(R (I 0) D))))) (Br (f=false) (Br (n<0) (R (I 2) c) (Br (p>0) (aN .i64 (p - (1:Int))/\(Ix (p - (1:Int)) a A fun X=>(∃E,aa c ((X.add (((p - (1:Int))).toNat*8)).add 0) [I E]/\(Br (E≥d) (∀G,Ext w.heap.size [] c G->(R (I 5) G)) (∀H,Ext w.heap.size [] c H->(R (I 0) H)))))) (∀J,Ext w.heap.size [] c J->(R (I 0) J)))) (Br (p>0) (aN .i64 (p - (1:Int))/\(Ix (p - (1:Int)) a A fun Y=>(∃K,aa c ((Y.add (((p - (1:Int))).toNat*8)).add 0) [I K]/\(Br (K≥d) (∀L,Ext w.heap.size [] c L->(R (I 5) L)) (∀M,Ext w.heap.size [] c M->(R (I 0) M)))))) (∀N,Ext w.heap.size [] c N->(R (I 0) N))))))))))))))))))))))))))):
  Pure P 134 #[vW A a b,I p] w R:=
 pr pa.cx func134 h

def eQ.L5(a:O)(b c:Nat)(d:O)(e f:Nat)(g i:Int):=Lt 156 f156 5 [vS 0 a b c,vS 23 d e f,vI 24 g,vI 25 i] []
def eQ.cx:Pm:=([((true,5),[0,23,24,25],[])],[(7,9999,3)])
theorem eQ.L5.step
  (h:(Br (p<q) (Ix p b C fun s=>(∃g f i,aa w (s.add ((p).toNat*3)) [I g,I f,I i]/\(∀e,Ext B [] w e->(Ix p a A fun t=>(∃j,aa e ((t.add ((p).toNat*8)).add 0) [I j]/\(Br (g≠j) (∀l,Ext B [] e l->(R (.bool false) l)) (Br (f<0) (∀m,Ext B [] e m->(R (.bool false) m)) (Br (f>4) (∀n,Ext B [] e n->(R (.bool false) n)) (∀o,Ext B [] e o->(Pure P 159 #[I i] o (Rb fun u r=>(Br (u=false) (R (.bool false) r) (aN .i64 (p+1)/\(eQ.L5 A a c C b d q (p+1) B r R)))))))))))))) (R (.bool true) w))):
  eQ.L5 A a c C b d q p B w R:=
 lr eQ.cx func156 h
theorem eQ.vc
  (h:(Pure P 109 #[vW A a c] w (Rii fun g f e=>(Br (f≠0) (R (.bool false) e) (Br ((a:Int)≠(b:Int)) (R (.bool false) e) (eQ.L5 A a c C b d (b:Int) (0:Int) w.heap.size e R)))))):
  Pure P 156 #[vW A a c,vW C b d] w R:=
 pr eQ.cx func156 h

def rP.cx:Pm:=([],[])
theorem rP.vc
  (h:(∀a,Ext w.heap.size [] w a->(Pure P 62 #[vU L] a (Rb fun b c=>(R (.bool (decide (b=false))) c))))):
  Pure P 158 #[.agg #[I p,I q,I r,vU L]] w R:=
 pr rP.cx func158 h

def kj.cx:Pm:=([],[])
theorem kj.vc
  (h:(Br (p≥(0:Int)) (R (.bool (decide (p<=(1073741824:Int)))) w) (R (.bool false) w))):
  Pure P 159 #[I p] w R:=
 pr kj.cx func159 h

def rQ.cx:Pm:=([],[])
theorem rQ.vc{b:Addr}
  (h:(∀a,Ext w.heap.size [] w a->(∃c,aa a b [I c]/\(R (.bool (decide (p>c))) a)))):
  Pure P 161 #[.agg #[I q,I r,I p],(.pointer (some b))] w R:=
 pr rQ.cx func161 h

def rR.cx:Pm:=([],[])
theorem rR.vc
  (h:(Bb Q (R (I p) w) (R (I q) w))):
  Pure P 162 #[.bool Q,I p,I q] w R:=
 pr rR.cx func162 h

def rT.cx:Pm:=([],[(1,6,4),(1,7,4),(1,9999,3)])
theorem rT.vc{e n o f:Bool}{b:Addr}
  (h:(∀a,Ext w.heap.size [] w a->(∃(c:Nat)(g i:Array Value),aa a b [(.func (.func c) g i)]/\(∃(d:Nat)(j l:Array Value),aa a b [(.func (.func d) j l)]/\(av P d=true/\(∀m,Ext w.heap.size [] a m->(Pure P d ((Array.toList j)++([.bool f,I 1,I 2]:List Value)++(Array.toList l)).toArray m (Ri fun p q=>(av P c=true/\(Pure P c ((Array.toList g)++([.bool e,I p,I 0]:List Value)++(Array.toList i)).toArray q (Ri fun r s=>(R (I r) s)))))))))))):
  Pure P 163 #[.agg #[.bool e,.bool n,.bool o,.bool f],(.pointer (some b))] w R:=
 pr rT.cx func163 h

def rU.cx:Pm:=([],[(1,6,4),(1,7,4),(1,9999,3)])
theorem rU.vc{e n f o:Bool}{b:Addr}
  (h:(∀a,Ext w.heap.size [] w a->(∃(c:Nat)(g i:Array Value),aa a b [(.func (.func c) g i)]/\(∃(d:Nat)(j l:Array Value),aa a b [(.func (.func d) j l)]/\(av P d=true/\(∀m,Ext w.heap.size [] a m->(Pure P d ((Array.toList j)++([.bool f,I 2,I 1]:List Value)++(Array.toList l)).toArray m (Ri fun p q=>(av P c=true/\(Pure P c ((Array.toList g)++([.bool e,I p,I 0]:List Value)++(Array.toList i)).toArray q (Ri fun r s=>(R (I r) s)))))))))))):
  Pure P 164 #[.agg #[.bool e,.bool n,.bool f,.bool o],(.pointer (some b))] w R:=
 pr rU.cx func164 h

def rV.cx:Pm:=([],[(1,3,4)])
theorem rV.vc{g c i j:Bool}{d:Addr}
  (h:(∀a,Ext w.heap.size [] w a->(∃(b:Nat)(e f:Array Value),aa a d [(.func (.func b) e f)]/\(av P b=true/\(Pure P b ((Array.toList e)++([.bool c,I 4,I 2]:List Value)++(Array.toList f)).toArray a (Ri fun l m=>(R (I l) m))))))):
  Pure P 165 #[.agg #[.bool g,.bool c,.bool i,.bool j],(.pointer (some d))] w R:=
 pr rV.cx func165 h

def rX.cx:Pm:=([],[(1,3,4)])
theorem rX.vc{g c i j:Bool}{d:Addr}
  (h:(∀a,Ext w.heap.size [] w a->(∃(b:Nat)(e f:Array Value),aa a d [(.func (.func b) e f)]/\(av P b=true/\(Pure P b ((Array.toList e)++([.bool c,I 0,I 3]:List Value)++(Array.toList f)).toArray a (Ri fun l m=>(R (I l) m))))))):
  Pure P 166 #[.agg #[.bool g,.bool c,.bool i,.bool j],(.pointer (some d))] w R:=
 pr rX.cx func166 h

def rY.cx:Pm:=([],[(1,3,4)])
theorem rY.vc{c g i j:Bool}{d:Addr}
  (h:(∀a,Ext w.heap.size [] w a->(∃(b:Nat)(e f:Array Value),aa a d [(.func (.func b) e f)]/\(av P b=true/\(Pure P b ((Array.toList e)++([.bool c,I 2,I 4]:List Value)++(Array.toList f)).toArray a (Ri fun l m=>(R (I l) m))))))):
  Pure P 167 #[.agg #[.bool c,.bool g,.bool i,.bool j],(.pointer (some d))] w R:=
 pr rY.cx func167 h

def fI.J7(a:Int)(b:Addr)(c d e f g:Int)(i j l m:Bool):=Jt 168 f168 7 [vI 3 a,(4,.v (.pointer (some b))),vL 5,vL 8,vI 11 c,vI 12 d] [⟨5,false,155,[(I e),(I f),(I g)]⟩,⟨8,false,255,[(.bool i),(.bool j),(.bool l),(.bool m)]⟩]
def fI.cx:Pm:=([((false,7),[3,4,5,8,11,12],[5,8])],[(1,1,5)])
theorem fI.J7.step{a:Addr}{e f g i:Bool}
  (h:(aN .i64 (p - q)/\(∃b,aa w (a.add 3) [I b]/\(∃c,aa w (a.add 3) [I c]/\(∀d,Ext B [255] w d->(R (.tuple #[(.agg #[(.bool (decide (r>0))),(.bool (decide (s<=(0:Int)))),(.bool (decide (((p - q):Int)≥b))),(.bool (decide (c>0)))]),.bool true]) d)))))):
  fI.J7 p a r s t u q e f g i B w R:=
 jr fI.cx func168 h
theorem fI.vc
  (h:(∀f,Ext w.heap.size [] w f->(∀c:Nat,w.heap.size<=c->f.heap[c]? =some (.cells [I t,I u,I v,I x,.bool Q,vU L,vU M,vU N].toArray 104 (0,0))->(Pure P 218 #[vW A a b,(.func (.func 220) #[] #[(.pointer (some (⟨c,0,none⟩:Addr)))])] f (Ri fun e d=>(Br (e<0) (∀l,Ext w.heap.size [255] d l->(R (.tuple #[.agg #[.bool false,.bool false,.bool false,.bool false],.bool false]) l)) (Ix e a A fun G=>(∃m,aa d ((G.add ((e).toNat*4)).add 2) [I m]/\(Br (m≠1) (∀n,Ext w.heap.size [255] d n->(R (.tuple #[.agg #[.bool false,.bool false,.bool false,.bool false],.bool false]) n)) (Ix e a A fun H=>(∃o,aa d ((H.add ((e).toNat*4)).add 3) [vU o]/\(∃y,aa d ((⟨c,0,none⟩:Addr).add 5) [vU y]/\(Ix e a A fun J=>(∃z,aa d ((J.add ((e).toNat*4)).add 3) [vU z]/\(∃C,aa d ((⟨c,0,none⟩:Addr).add 6) [vU C]/\(∀D,Ext w.heap.size [] d D->(Pure P 194 #[vU o,vU y] D (Ri fun g K=>(Pure P 194 #[vU z,vU C] K (Ri fun i j=>(∃E,aa j ((⟨c,0,none⟩:Addr).add 4) [.bool E]/\(Br (E=false) (aN .i64 (-g)/\(aN .i64 (-i)/\(fI.J7 s (⟨c,0,none⟩:Addr) (-g) (-i) p q r false false false false w.heap.size j R))) (fI.J7 s (⟨c,0,none⟩:Addr) g i p q r false false false false w.heap.size j R))))))))))))))))))))))):
  Pure P 168 #[.agg #[I t,I u,I v,I x,.bool Q,vU L,vU M,vU N],.agg #[I p,I q,I r],vW A a b,I s] w R:=
 pr fI.cx func168 h

def ug.cx:Pm:=([],[])
theorem ug.vc{b:Addr}
  (h:(∀a,Ext w.heap.size [] w a->(∃c,aa a b [I c]/\(R (.bool (decide (p=c))) a)))):
  Pure P 170 #[.agg #[I p,I q,I r,I s,.bool Q,vU L,vU M,vU N],(.pointer (some b))] w R:=
 pr ug.cx func170 h

def il.cx:Pm:=([],[])
theorem il.vc
  (h:(Pure P 232 #[vU L,vU M] w (Rii fun a c b=>(R (I a) b)))):
  Pure P 194 #[vU L,vU M] w R:=
 pr il.cx func194 h

def rZ.cx:Pm:=([],[])
theorem rZ.vc{b:Addr}
  (h:(∀a,Ext w.heap.size [] w a->(∃c,aa a (b.add 1) [I c]/\(R (.bool (decide (p=c))) a)))):
  Pure P 220 #[.agg #[I p,I q,I r,vU L],(.pointer (some b))] w R:=
 pr rZ.cx func220 h

end Go.Proofs.YtmdphpnaipbfjaaGreatDoor.F

namespace Go.Proofs.YtmdphpnaipbfjaaGreatDoor.B
open Go Go.RowKit Go.Proofs Go.Proofs.YtmdphpnaipbfjaaGreatDoor.Vc

structure WC (a:Al):Prop where
 set:mO a.set
 reset:mO a.reset
 text:a.text.size<2147483648
def gq(p:Option Al)(a:Al):Int:=
 if ¬(vR a.set=true/\vR a.reset=true)then 1
 else if 64<a.text.size then 4
 else if(a.id<1∨1073741824<a.id∨a.chan<1∨1073741824<a.chan∨a.prio<1∨3<a.prio∨¬(0<=a.qC/\a.qC<=1073741824))∨(a.nD=true/\qR a.set<qR a.reset)∨(a.nD=false/\qR a.reset<qR a.set)then 2
 else if ∃q,p=some q/\a.id<=q.id then 5
 else 0
def HA{α:Type}(f:Option α->α->Int):Option α->Nat->List α->Int×Int
 |_,_,[]=>(-1,0)
 |p,i,c::r=>if f p c≠0 then((i:Int),f p c)else HA f (some c) (i+1) r
def pE(l:List Al):Int×Int:=if 32<l.length then(-1,8)else HA gq none 0 l
def okL(a:Al)(x:Lp):Bool:=decide (x.yV=a.id/\0<=x.state/\x.state<=4/\0<=x.since/\x.since<=1073741824)
def vK(l:List Al)(m:List Lp):Bool:=decide ((pE l).2=0)&&(decide (l.length=m.length)&&(l.zip m).all fun z=>okL z.1 z.2)
theorem il{w:World}{s t:ByteArray}(hg:bj w)(hs:mO s)(h:vR s=true)(a:mO t)(k:vR t=true):Pure Tryz.prog 194 #[.string s,.string t] w fun v _=>v= .int .i64 (gO (qR s) (qR t)):=by
 refine F.il.vc ?_;have:=eT hg (hs.yj h) (a.yj k);rw[<-iq h,<-iq k]at this;refine pm this ?_;rintro v b _ rfl;exact⟨_,_,rfl,rfl⟩
theorem kj(n:Int)(w:World):Pure Tryz.prog 159 #[.int .i64 n] w fun v _=>v= .bool (decide (0<=n/\n<=1073741824)):=by
 refine F.kj.vc ⟨fun h=> ?_,fun h=> ?_⟩
 ·congr 1
  simp;omega
 ·congr 1
  simp;omega
theorem pa{w:World}(hg:bj w){A:Option Addr}{n c:Nat}{l:List Al}(hl:bW w A 8 (l.map Al.row))(hlen:l.length=n)(hn:n<2147483648){i:Nat}(hi:i<l.length)(r:WC l[i]):
  Pure Tryz.prog 134 #[.slice A n c,.int .i64 (i:Int)] w fun v _=>v= .int .i64 (gq (fK l i) l[i]):=by
 obtain⟨hb,L,M,g,_⟩:=hl.at_ (fun _=>rfl) hlen hi;have N:∀j,fK l i=some j->0<i:=fun j hj=>by
  unfold fK at hj;split at hj
  ·cases hj
  ·omega
 have H:∀h:i - 1<l.length,0<i->fK l i=some l[i - 1]:=fun h b=>by
  unfold fK;rw[aq om,af h]
 have z:∀w',Below w.heap.size w w'->0<i->∃h:i - 1<l.length,(0<=(i:Int) - 1/\(i:Int) - 1<n)/\∃a,A=some a/\aa w' ((a.add (((i:Int) - 1).toNat*8)).add 0) [.int .i64 l[i - 1].id]:=fun w' hw b=>by
  have h:i - 1<l.length:=om;obtain⟨q1,a,B,_,o⟩:=(hl.ar hw lf).at_ (fun _=>rfl) hlen h;have e:((i - 1:Nat):Int)=(i:Int) - 1:=om;rw[e]at q1 o;exact⟨h,q1,a,B,o 0 _ rfl⟩
 generalize hx:l[i]=x at*;refine F.pa.vc ⟨hb,L,M,_,_,_,_,_,_,_,_,g,fun X O=> ?_⟩;have I:=k0 O;refine pm (sZ (hg.next I) r.set) ?_;rintro v Y P rfl;have C:=kP I P;have one:¬(vR x.set=true/\vR x.reset=true)->Value.int .i64 1= .int .i64 (gq (fK l i) x):=fun h=>by
  unfold gq;rw[bm h]
 refine⟨_,rfl,fun h=>one (fun k=>by rw[h]at k;exact absurd k.1 dc),fun h1=>pm (sZ (hg.next C) r.reset) ?_⟩;rintro v Z Q rfl;have J:=kP C Q;refine⟨_,rfl,fun h=>one (fun k=>by rw[h]at k;exact absurd k.2 dc),fun R=> ?_⟩;have v1:vR x.set=true:=by simpa using h1
 have v2:vR x.reset=true:=by simpa using R
 have S:=r.text;refine⟨fun h=> ?_,fun h3=> ?_⟩
 ·unfold gq;rw[aq (fun k=>k ⟨v1,v2⟩),bm om]
 have two:(a:(x.id<1∨1073741824<x.id∨x.chan<1∨1073741824<x.chan∨x.prio<1∨3<x.prio∨¬(0<=x.qC/\x.qC<=1073741824))∨(x.nD=true/\qR x.set<qR x.reset)∨(x.nD=false/\qR x.reset<qR x.set))->Value.int .i64 2= .int .i64 (gq (fK l i) x):=fun h=>by
  unfold gq;rw[aq (fun k=>k ⟨v1,v2⟩),aq om,bm h]
 refine pm (il (hg.next J) r.reset v2 r.set v1) ?_;rintro v T U rfl;have V:=kP J U;refine⟨_,rfl,fun h=>two om,fun i1=>⟨fun h=>two om,fun i2=>⟨fun h=>two om,fun i3=>⟨fun h=>two om,fun i4=>⟨fun h=>two om,fun i5=>⟨fun h=>two om,fun i6=>pm (kj _ T) ?_⟩⟩⟩⟩⟩⟩;rintro v K W rfl;have D:=kP V W;refine⟨_,rfl,fun h=>two (.inl (by have:=kh h;omega)),fun i7=> ?_⟩;have i7:0<=x.qC/\x.qC<=1073741824:=by simpa using i7
 have last:¬((x.nD=true/\qR x.set<qR x.reset)∨(x.nD=false/\qR x.reset<qR x.set))->gq (fK l i) x=if ∃q,fK l i=some q/\x.id<=q.id then 5 else 0:=fun h=>by
  unfold gq;rw[aq (fun k=>k ⟨v1,v2⟩),aq om,aq (by rintro(k|k);omega;exact h k)]
 have Vu:¬((x.nD=true/\qR x.set<qR x.reset)∨(x.nD=false/\qR x.reset<qR x.set))->¬0<i->Value.int .i64 0= .int .i64 (gq (fK l i) x):=fun h b=>by
  rw[last h,aq (by rintro⟨q,e,_⟩;exact b (N _ e))]
 have E:¬((x.nD=true/\qR x.set<qR x.reset)∨(x.nD=false/\qR x.reset<qR x.set))->∀(h:i - 1<l.length),0<i->(l[i - 1].id≥x.id->Value.int .i64 5= .int .i64 (gq (fK l i) x))/\(¬l[i - 1].id≥x.id->Value.int .i64 0= .int .i64 (gq (fK l i) x)):=fun h h1 b=>by
  rw[last h];refine⟨fun q=>by rw[bm ⟨_,H h1 b,q⟩],fun q=>by rw[aq];rintro⟨y,e,hy⟩;rw[H h1 b]at e;cases e;exact q hy⟩
 cases d:x.nD
 ·refine⟨fun k=>(by cases k),fun _=>⟨fun _=>⟨fun h=>two (.inr (.inr ⟨d,jI.1 h⟩)),fun h=> ?_⟩,fun k=>absurd rfl k⟩⟩;have no:¬((x.nD=true/\qR x.set<qR x.reset)∨(x.nD=false/\qR x.reset<qR x.set)):=by
   rintro(k|k)
   ·rw[d]at k;cases k.1
   ·exact h (jI.2 k.2)
  refine⟨fun b=>⟨ir,?_⟩,fun b w' _=>Vu no om⟩;obtain⟨hp,q1,G,B,o⟩:=z K D om;exact⟨q1,G,B,_,o,fun k w' _=>(E no hp om).1 k,fun k w' _=>(E no hp om).2 k⟩
 ·refine⟨fun _=>⟨fun h=>two (.inr (.inl ⟨d,gL.1 h⟩)),fun h=>⟨fun k=>(by cases k),fun _=> ?_⟩⟩,fun k=>(by cases k)⟩;have no:¬((x.nD=true/\qR x.set<qR x.reset)∨(x.nD=false/\qR x.reset<qR x.set)):=by
   rintro(k|k)
   ·exact h (gL.2 k.2)
   ·rw[d]at k;cases k.1
  refine⟨fun b=>⟨ir,?_⟩,fun b w' _=>Vu no om⟩;obtain⟨hp,q1,G,B,o⟩:=z K D om;exact⟨q1,G,B,_,o,fun k w' _=>(E no hp om).1 k,fun k w' _=>(E no hp om).2 k⟩
section
variable {w:World} {A A1:Option Addr} {n c n1 c1:Nat} {l:List Al} {m:List Lp}
theorem dR(hg:bj w)(hl:bW w A 8 (l.map Al.row))(hlen:l.length=n)(hn:n<2147483648)(e:∀x∈l,WC x):
  Pure Tryz.prog 109 #[.slice A n c] w fun v _=>v= .tuple #[.int .i64 (pE l).1,.int .i64 (pE l).2]:=by
 have key:∀(d i:Nat)(w':World),n - i=d->i<=n->Below w.heap.size w w'->HA gq (fK l i) i (l.drop i)=HA gq none 0 l->F.dR.L4 A n c n i w.heap.size w' fun v _=>v= .tuple #[.int .i64 (HA gq none 0 l).1,.int .i64 (HA gq none 0 l).2]:=by
  intro d;induction d with
  |zero=>
   intro i w' g hi hw a;rw[dd om]at a;rw[<-a];exact F.dR.L4.step ⟨fun h=>by omega,fun _=>rfl⟩
  |succ d ih=>
   intro i w' g hi hw a;have b:i<l.length:=om;rw[cy b,HA]at a;refine F.dR.L4.step ⟨fun _=>pm (pa (hg.next hw) (hl.ar hw lf) hlen hn b (e _ (bx b))) ?_,fun h=>by omega⟩;rintro v j k rfl;refine⟨_,rfl,fun h=> ?_,fun h=>⟨ir,?_⟩⟩
   ·rw[bm h]at a;rw[<-a]
   ·rw[aq h,<-tZ b]at a;have o:=sc i;rw[o];exact ih (i+1) j om om (kP hw k) a
 unfold pE;refine F.dR.vc ⟨fun h=> ?_,fun h=> ?_⟩
 ·rw[bm om]
 ·rw[aq om];exact key n 0 w rfl om (Below.refl _ _) rfl
theorem eQ(hg:bj w)(hl:bW w A 8 (l.map Al.row))(hlen:l.length=n)(hn:n<2147483648)(y:∀x∈l,WC x)(hm:bW w A1 3 (m.map Lp.row))(B:m.length=n1):
  Pure Tryz.prog 156 #[.slice A n c,.slice A1 n1 c1] w fun v _=>v= .bool (vK l m):=by
 refine F.eQ.vc (pm (dR hg hl hlen hn y) ?_);rintro v C D rfl;unfold vK;refine⟨_,_,rfl,fun h=>by rw[eL h];rfl,fun h=>⟨fun E=>by rw[eL (show ¬l.length=m.length by omega)];simp,fun E=> ?_⟩⟩;have G:n=n1:=om;rw[hM (dT.1 h),hM (show l.length=m.length by omega),zi,zi];have key:∀(d i:Nat)(w':World),n1 - i=d->i<=n1->Below w.heap.size w w'->((l.zip m).take i).all (fun z=>okL z.1 z.2)=true->F.eQ.L5 A n c A1 n1 c1 n1 i w.heap.size w' fun v _=>v= .bool ((l.zip m).all fun z=>okL z.1 z.2):=by
  intro d;induction d with
  |zero=>
   intro i w' H hi hw b;rw[cc (by rw[Ow];omega)]at b;rw[b];exact F.eQ.L5.step ⟨fun h=>by omega,fun _=>rfl⟩
  |succ d ih=>
   intro i w' H hi hw b;have I:i<l.length:=om;have J:i<m.length:=om;have hz:i<(l.zip m).length:=by rw[Ow];omega
   have k:(l.zip m)[i]=(l[i],m[i]):=by simp
   have bad:okL l[i] m[i]=false->Value.bool false= .bool ((l.zip m).all fun z=>okL z.1 z.2):=fun h=>by
    refine ca Value.bool (YW ?_);rw[List.all_eq_false];exact⟨_,bx hz,by rw[k,h];decide⟩
   obtain⟨hb,K,L,a,_⟩:=(hm.ar hw lf).at_ (fun _=>rfl) B J;refine F.eQ.L5.step ⟨fun _=>⟨hb,K,L,_,_,_,a,fun U M=> ?_⟩,fun h=>by omega⟩;have o:=kE hw M;obtain⟨e,g,N,_,j⟩:=(hl.ar o lf).at_ (fun _=>rfl) hlen I;refine⟨e,g,N,_,j 0 _ rfl,fun q w' _=>bad (eL om),fun q1=>⟨fun q w' _=>bad (eL om),fun V=>⟨fun q w' _=>bad (eL om),fun W O P=>pm (kj _ O) ?_⟩⟩⟩;have Q:=kE o P;rintro v R S rfl;refine⟨_,rfl,fun q=>bad (eL (by have:=kh q;omega)),fun r=>⟨ir,?_⟩⟩;have r:0<=m[i].since/\m[i].since<=1073741824:=by simpa using r
   have T:=sc i;rw[T];refine ih (i+1) R om om (kP Q S) ?_;rw[gv,af hz,Zm,b,k];have:okL l[i] m[i]=true:=hM om;simp[this]
 exact key n1 0 C rfl om D rfl
end
open Go Go.RowKit Go.Proofs Go.Proofs.YtmdphpnaipbfjaaGreatDoor.Vc Go.Maps

structure MgT (t tk te:Nat) (zv:Value):Prop where
 t:Tryz.prog.underlying t=some (.map tk te)
 k:Tryz.prog.underlying tk=some (.int .i64)
 z:∀w,(zeroValue te).run Tryz.prog w= .ok zv w
def aeY(v:Value):Option (DataW Value×List MemPlace):=some (.held v,[])
abbrev BM(f:Int->Option Value)(z:Int)(x:Value):Int->Option Value:=fun y=>if y=z then some x else f y
def yk(w:World)(B tk:Nat)(zv:Value)(b n:Nat)(f:Int->Option Value):Prop:=
 B<=b/\∃D:DataW Value,w.ownsMap Tryz.prog tk aeY b n D/\∀z,has D (.int .i64 z)=(f z).isSome/\D.atKey (.int .i64 z) (.held zv)= .held ((f z).getD zv)
theorem abf{z:Int}(h:aN .i64 z):(Lit.int .i64 z).wf=true:=by
 simp only[aN]at h;simp[Lit.wf,IntKind.min,IntKind.max,IntKind.signed,IntKind.bits];omega
section
variable {w:World} {B t tk te b n:Nat} {zv:Value} {f:Int->Option Value}
theorem yY(T:MgT t tk te zv){z:Int}(hz:aN .i64 z):keyOf Tryz.prog tk (.int .i64 z)=some (.int .i64 z):=by simp[keyOf,mapKey,T.k,abf hz]
theorem yk.lt(h:yk w B tk zv b n f):b<w.heap.size:=by obtain⟨_,D,h,_⟩:=h;exact h.lt
theorem yk.le{a:Nat}(h:yk w B tk zv b n f)(hB:a<=B):yk w a tk zv b n f:=⟨ec hB h.1,h.2⟩
theorem yk.same{w':World}(h:yk w B tk zv b n f)(hb:w'.heap[b]? =w.heap[b]?):yk w' B tk zv b n f:=by
 obtain⟨h1,D,a,c⟩:=h;refine⟨h1,D,?_,c⟩;obtain⟨es,clock,d,F,e,g⟩:=a;exact⟨es,clock,hb.trans d,F,e,g⟩
theorem yk.below{w':World}(h:yk w B tk zv b n f)(hb:Below w.heap.size w w'):yk w' B tk zv b n f:=h.same (hb.block b h.lt)
theorem yk.isMap(h:yk w B tk zv b n f):∃es clock,w.heap[b]? =some (.map es clock):=by
 obtain⟨h1,D,⟨es,clock,a,_⟩,c⟩:=h;exact⟨es,clock,a⟩
theorem yk.ext{B0:Nat}{ts:List Nat}{w':World}(h:yk w B tk zv b n f)(x:Ext B0 ts w w'):yk w' B tk zv b n f:=by
 refine h.same ?_;obtain⟨es,clock,a⟩:=h.isMap;rcases x.other b h.lt with q|⟨_,_,c,c',fr,q,_⟩
 ·exact q
 ·rw[a]at q;cases q
theorem yk.wrote{w':World}{a ty:Nat}{cs d:List Value}(h:yk w B tk zv b n f)(x:aG w w' a ty d)(g:w.heap[a]? =some (.cells cs.toArray ty (0,0))):yk w' B tk zv b n f:=by
 refine h.same (x.rest b fun e=> ?_);obtain⟨es,clock,c⟩:=h.isMap;rw[e,g]at c;cases c
theorem pV{w':World}(h:yk w B tk zv b n f)(hg:w.grownBy w' (some b)){k ty:Nat}{cs:Array Value}{fr:Nat×Nat}(a:w.heap[k]? =some (.cells cs ty fr)):w'.heap[k]? =w.heap[k]? :=by
 obtain⟨es,clock,c⟩:=h.isMap;refine hg.block k (ax.1 a).1 fun e=> ?_
 cases e;rw[c]at a;cases a
theorem Ah(h:yk w B tk zv b n f)(T:MgT t tk te zv){z:Int}(hz:aN .i64 z){B0:Nat}{tys:List Nat}{R:Value->World->Prop}(c:R ((f z).getD zv) w):
  ae Tryz.prog (Instr.lookup t (.map (some b)) (.int .i64 z) false) B0 tys w R:=by
 obtain⟨_,D,d,e⟩:=h;obtain⟨v,ps,g,a⟩:=d.lookup (int_keyed T.k) T.t (T.z w) (zd:= .held zv) (zp:=[]) rfl (yY T hz);rw[(e z).2]at a;cases a;exact⟨_,w,g,Below.refl _ _,ga _,fun _ _ _ _ _=>rfl,c⟩
theorem JG(h:yk w B tk zv b n f)(T:MgT t tk te zv){z:Int}(hz:aN .i64 z){B0:Nat}{tys:List Nat}{R:Value->World->Prop}(e:R (.tuple #[(f z).getD zv,.bool (f z).isSome]) w):
  ae Tryz.prog (Instr.lookup t (.map (some b)) (.int .i64 z) true) B0 tys w R:=by
 obtain⟨_,D,g,a⟩:=h;obtain⟨v,ps,c,d⟩:=g.look_ok (int_keyed T.k) T.t (T.z w) (zd:= .held zv) (zp:=[]) rfl (yY T hz);rw[(a z).2]at d;rw[(a z).1]at c;cases d;exact⟨_,w,c,Below.refl _ _,ga _,fun _ _ _ _ _=>rfl,e⟩
theorem df(h:yk w B tk zv b n f)(T:MgT t tk te zv){z:Int}(hz:aN .i64 z)(x:Value)(hn:n<1000000){B0:Nat}(i:B0<=B)(j:B0<=w.heap.size){tys:List Nat}{K:World->Prop}
  (o:∀w',yk w' B tk zv b (n+1) (BM f z x)->Below B0 w w'->w.grownBy w' (some b)->K w'):
  eM Tryz.prog (Instr.mapUpdate t (.map (some b)) (.int .i64 z) x) B0 tys w K:=by
 have p:=h;obtain⟨h1,D,l,q⟩:=h;have m:Keyed Tryz.prog tk:=int_keyed T.k;obtain⟨w',r,c,hg⟩:=l.update m T.t (by unfold maxLen;omega) (yY T hz) (val:=x) (d:= .held x) (ps:=[]) rfl;have hm:=l.isMap;have a:=m.key (yY T hz);have hb:Below B0 w w':=bT hg (fun k a=>by cases a;exact ec i h1) j;refine⟨w',r,hb,hb.size,fun k ty cs _ a=>pV p hg a,o w' ⟨h1,_,c,fun y=> ?_⟩ hb hg⟩;show has _ _=(BM f z x y).isSome/\_=DataW.held ((BM f z x y).getD zv);unfold BM;by_cases e:y=z
 ·subst e;rw[bm rfl,has_put_same hm a,atKey_put_same hm a];exact⟨rfl,rfl⟩
 ·have g:(Lit.int .i64 y)≠ .int .i64 z:=fun k=>by cases k;exact e rfl
  rw[aq e,has_put_other g,atKey_put_other g];exact q y
theorem Ai{w:World}{t tk:Nat}{zv:Value}{B:Nat}{tys:List Nat}(hB:B<=w.heap.size){K:Option Nat->World->Prop}
  (a:∀w',yk w' w.heap.size tk zv w.heap.size 0 (fun _=>none)->Below w.heap.size w w'->K (some w.heap.size) w'):
  ae Tryz.prog (Instr.makeMap t none) B tys w fun r w1=>∃m:Option Nat,r= .map m/\K m w1:=by
 have hg:=World.grownBy_alloc w (.map #[] 0) none;have hb:Below w.heap.size w (w.alloc (.map #[] 0)):=bT hg sm lf;exact⟨_,_,run_makeMap t w,hb.mono hB,hb.size,fun k ty cs _ c=>hb.block k (ax.1 c).1,_,rfl,a _ ⟨ga _,.map [],World.ownsMap_made w _ _ _,fun _=>⟨rfl,rfl⟩⟩ hb⟩
end
end Go.Proofs.YtmdphpnaipbfjaaGreatDoor.B

set_option maxRecDepth 100000
set_option maxHeartbeats 4000000
namespace Go.Proofs.YtmdphpnaipbfjaaGreatDoor.F
open Go Go.RowKit Go.Proofs Go.Proofs.YtmdphpnaipbfjaaGreatDoor.Vc
open Tryz
variable {A C D E G H J K A0 A1 A2 A3 A4 A5 A6 A7 A8 A9 C0 C1 C2 C3 C4 C5 C6 C7 C8 C9:O} {a b c d e f g i j l m n o a0 a1 a2 a3 a4 a5 a6 a7 a8 a9 b0 b1 b2 b3 b4 b5 b6 b7 b8 b9 c0 c1 c2 c3 c4 c5 c6 c7 c8 c9:Nat} {p q r s t u v x p0 p1 p2 p3 p4 p5 p6 p7 p8 p9 q0 q1 q2 q3 q4 q5 q6 q7 q8 q9:Int} {L M N N0 N1 N2 N3 N4 N5 N6 N7 N8 N9 T0 T1 T2 T3 T4 T5 T6 T7 T8 T9:ByteArray} {Q S:Bool} {B:Nat} {w:World} {R:Kt}
def k8.cx:Pm:=([],[])
theorem k8.vc
  (h:(Br (((ByteArray.size L:Int):Int)<1) (∀a,Ext w.heap.size [] w a->(R (.tuple #[(vU ⟨#[]⟩),I 1]) a)) (Br (((ByteArray.size L:Int):Int)>64) (∀b,Ext w.heap.size [] w b->(R (.tuple #[(vU ⟨#[]⟩),I 1]) b)) (∀c,Ext w.heap.size [] w c->(Pure P 44 #[vU L,.agg #[I p,I q,vU M,vU N]] c (Rt fun d e=>(R (.tuple #[vU d,I 0]) e))))))):
  Pure P 16 #[vU L,.agg #[I p,I q,vU M,vU N]] w R:=
 pr k8.cx func16 h

def iL.cx:Pm:=([],[])
theorem iL.vc
  (h:(Pure P 54 #[vU L] w (Rt fun a b=>(R (vU a) b)))):
  Pure P 43 #[vU L] w R:=
 pr iL.cx func43 h

def sb.cx:Pm:=([],[])
theorem sb.vc
  (h:(∀c,Ext w.heap.size [] w c->(Pure P 42 #[I p] c (Rt fun a g=>(ByteArray.size a+ByteArray.size (⟨#[32]⟩:ByteArray)<=9223372036854775807/\(Pure P 42 #[I q] g (Rt fun b i=>(ByteArray.size (a++(⟨#[32]⟩:ByteArray))+ByteArray.size b<=9223372036854775807/\(ByteArray.size ((a++(⟨#[32]⟩:ByteArray))++b)+ByteArray.size (⟨#[32]⟩:ByteArray)<=9223372036854775807/\(ByteArray.size (((a++(⟨#[32]⟩:ByteArray))++b)++(⟨#[32]⟩:ByteArray))+ByteArray.size L<=9223372036854775807/\(Pure P 93 #[vU M,(.int .u8 (92:Int))] i (Rt fun d j=>(Pure P 93 #[vU M,(.int .u8 (54:Int))] j (Rt fun e l=>(ByteArray.size e+ByteArray.size ((((a++(⟨#[32]⟩:ByteArray))++b)++(⟨#[32]⟩:ByteArray))++L)<=9223372036854775807/\(Pure P 54 #[(vU (e++((((a++(⟨#[32]⟩:ByteArray))++b)++(⟨#[32]⟩:ByteArray))++L)))] l (Rt fun f m=>(ByteArray.size d+ByteArray.size f<=9223372036854775807/\(Pure P 54 #[(vU (d++f))] m (Rt fun n o=>(R (vU n) o))))))))))))))))))))):
  Pure P 44 #[vU M,.agg #[I p,I q,vU L,vU N]] w R:=
 pr sb.cx func44 h

def iM.cx:Pm:=([],[])
theorem iM.vc
  (h:(∀g,Ext w.heap.size [] w g->(Pure P 95 #[vW A a b,vW C c d,vU L,.agg #[vW D e f,I p,I q],I r] g (Vh fun m j n l i=>(Br (l=0) (R (.bool (decide ((j:Int)=0))) i) (R (.bool false) i)))))):
  Pure P 48 #[vW A a b,vW C c d,vU L,.agg #[vW D e f,I p,I q],I r] w R:=
 pr iM.cx func48 h

def dL.L3(a:ByteArray)(b:Int)(c:Addr)(d:Int):=Lt 93 f93 3 [vT 0 a,(1,.v (.int .u8 b)),(5,.v (.pointer (some c))),vI 7 d] []
def dL.cx:Pm:=([((true,3),[0,1,5,7],[])],[(1,0,2),(9,0,2),(9,1,2)])
theorem dL.L3.step{a:Addr}
  (h:(Br (p<64) (Br (p<(ByteArray.size L:Int)) ((0<=p/\p<(ByteArray.size L:Int))/\((0<=p/\p<64)/\(∃(c:List Value)(d:Nat),B<=(a.add ((p).toNat*1)).block/\(a.add ((p).toNat*1)).spot=none/\w.heap[(a.add ((p).toNat*1)).block]? =some (.cells c.toArray d (0,0))/\(a.add ((p).toNat*1)).off+1<=c.length/\hasType d []=false/\∀b,aG w b (a.add ((p).toNat*1)).block d (setCells c (a.add ((p).toNat*1)).off [(.int .u8 (bt L p))])->((0<=p/\p<64)/\(∃j,aa b (a.add ((p).toNat*1)) [.int .u8 j]/\((0<=p/\p<64)/\(∃(e:List Value)(f:Nat),B<=(a.add ((p).toNat*1)).block/\(a.add ((p).toNat*1)).spot=none/\b.heap[(a.add ((p).toNat*1)).block]? =some (.cells e.toArray f (0,0))/\(a.add ((p).toNat*1)).off+1<=e.length/\hasType f []=false/\∀l,aG b l (a.add ((p).toNat*1)).block f (setCells e (a.add ((p).toNat*1)).off [(.int .u8 (bits .xor .u8 j q))])->(aN .i64 (p+1)/\(dL.L3 L q a (p+1) B l R))))))))) ((0<=p/\p<64)/\(∃m,aa w (a.add ((p).toNat*1)) [.int .u8 m]/\((0<=p/\p<64)/\(∃(g:List Value)(i:Nat),B<=(a.add ((p).toNat*1)).block/\(a.add ((p).toNat*1)).spot=none/\w.heap[(a.add ((p).toNat*1)).block]? =some (.cells g.toArray i (0,0))/\(a.add ((p).toNat*1)).off+1<=g.length/\hasType i []=false/\∀n,aG w n (a.add ((p).toNat*1)).block i (setCells g (a.add ((p).toNat*1)).off [(.int .u8 (bits .xor .u8 m q))])->(aN .i64 (p+1)/\(dL.L3 L q a (p+1) B n R))))))) (ae P (Instr.sliceAt 209 (.pointer (some a)) none none none) B [] w (Rs fun o r s t=>(ae P (convert 86 9 (vW o r s)) B [] t (Rt fun u v=>(R (vU u) v))))))):
  dL.L3 L q a p B w R:=
 lr dL.cx func93 h
theorem dL.vc
  (h:(ae P (Instr.alloc 209 true (.tuple #[])) w.heap.size [] w fun b c=>∃(a:Addr),b= .pointer (some a)/\(dL.L3 L p a (0:Int) w.heap.size c R))):
  Pure P 93 #[vU L,.int .u8 p] w R:=
 pr dL.cx func93 h

def aw.L8(a:O)(b c:Nat)(d:O)(e f:Nat)(g:Addr)(i:Addr)(j:Addr)(l:Option Nat)(m:O)(n o:Nat)(p q:Int):=Lt 95 f95 8 [vS 0 a b c,vS 1 d e f,(7,.v (.pointer (some g))),(8,.v (.pointer (some i))),(9,.v (.pointer (some j))),(14,.v (.map l)),vS 45 m n o,vI 46 p,vI 47 q] []
def aw.uC(a:O)(b c:Nat)(d:Addr)(e:Addr)(f:Addr)(g:Option Nat)(i:O)(j l:Nat)(m n:Int):=Lt 95 f95 13 [vS 1 a b c,(7,.v (.pointer (some d))),(8,.v (.pointer (some e))),(9,.v (.pointer (some f))),(14,.v (.map g)),vS 56 i j l,vI 57 m,vI 58 n] []
def aw.B8(a:Option Nat)(b:O)(c d:Nat)(e:Int):=Lt 95 f95 21 [(14,.v (.map a)),vS 20 b c d,vI 21 e] []
def aw.KN(a:Option Nat)(b:O)(c d:Nat)(e f g:Int):=Lt 95 f95 24 [(14,.v (.map a)),vS 20 b c d,vI 21 e,vI 79 f,vI 80 g] []
def aw.cx:Pm:=([((true,8),[0,1,7,8,9,14,45,46,47],[]),((true,13),[1,7,8,9,14,56,57,58],[]),((true,21),[14,20,21],[]),((true,24),[14,20,21,79,80],[])],[(0,0,2),(0,1,2),(0,2,2),(6,0,2),(10,2,2),(10,4,2),(15,0,5),(17,3,2),(17,5,2),(23,2,2),(25,2,2),(25,3,2)])
theorem aw.L8.step{i j l:Addr}{g:Option Nat}
  (h:(Br (p<q) (Ix p e D fun o=>(∃m,aa w (o.add ((p).toNat*1)) [I m]/\(ae P (Instr.lookup 211 (.map g) (I m) false) B [] w (Ri fun n r=>(aN .i64 (n+1)/\(eM P (Instr.mapUpdate 211 (.map g) (I m) (I (n+1))) B [] r fun s=>(aN .i64 (p+1)/\(aw.L8 A a b C c d i j l g D e f q (p+1) B s R)))))))) (aw.uC C c d i j l g A a b (a:Int) (0:Int) B w R))):
  aw.L8 A a b C c d i j l g D e f q p B w R:=
 lr aw.cx func95 h
theorem aw.uC.step{f g i:Addr}{e:Option Nat}
  (h:(Br (p<q) (Ix p c C fun v=>(∃o r s t,aa w (v.add ((p).toNat*4)) [I o,I r,vU s,vU t]/\(∀l,Ext B [] w l->(∀j:Nat,B<=j->l.heap[j]? =some (.cells [I o,I r,vU s,vU t].toArray 106 (0,0))->(Pure P 120 #[vW A a b,(.func (.func 119) #[] #[(.pointer (some (⟨j,0,none⟩:Addr))),(.pointer (some f)),(.pointer (some i)),(.pointer (some g))])] l (Rb fun x m=>(Bb x (∃n,aa m ((⟨j,0,none⟩:Addr).add 1) [I n]/\(ae P (Instr.lookup 211 (.map e) (I n) false) B [] m (Ri fun u y=>(aN .i64 (u - (1:Int))/\(eM P (Instr.mapUpdate 211 (.map e) (I n) (I (u - (1:Int)))) B [] y fun z=>(aN .i64 (p+1)/\(aw.uC A a b f g i e C c d q (p+1) B z R))))))) (aN .i64 (p+1)/\(aw.uC A a b f g i e C c d q (p+1) B m R))))))))) (aw.B8 e none 0 0 (1:Int) B w R))):
  aw.uC A a b f g i e C c d q p B w R:=
 lr aw.cx func95 h
theorem aw.B8.step{c:Option Nat}
  (h:(Br (p<=(9:Int)) (ae P (Instr.lookup 211 (.map c) (I p) false) B [] w (Ri fun d e=>(aw.KN c A a b p (if(0:Int)>d then(0:Int)else d) (0:Int) B e R))) (R (.tuple #[vW A a b,I 0]) w))):
  aw.B8 c A a b p B w R:=
 lr aw.cx func95 h
theorem aw.KN.step{c:Option Nat}
  (h:(Br (q<r) (ae P (Instr.buildSlice 29 1 #[(0,(I p))]) B [] w (Rs fun d e f g=>(ae P (Builtin.append_ #[29,29] 29 #[vW A a b,vW d e f]) B [] g (Rs fun i j l m=>(aN .i64 (q+1)/\(aw.KN c i j l p r (q+1) B m R)))))) (aN .i64 (p+1)/\(aw.B8 c A a b (p+1) B w R)))):
  aw.KN c A a b p r q B w R:=
 lr aw.cx func95 h
theorem aw.vc
  (h:(ae P (Instr.box 9 (vU L)) w.heap.size [] w fun K M=>∃(j:Addr),K= .pointer (some j)/\(ae P (Instr.box 130 (.agg #[vW D e f,I p,I q])) w.heap.size [] M fun N O=>∃(i:Addr),N= .pointer (some i)/\(ae P (Instr.box 3 (I r)) w.heap.size [] O fun Q S=>∃(l:Addr),Q= .pointer (some l)/\(Pure P 110 #[vW A a b,vW C c d] S (Rii fun Y T m=>(Br (T≠0) (R (.tuple #[vN,I 1]) m) (∃o s t u v,aa m i [vW o s t,I u,I v]/\(Pure P 117 #[.agg #[vW o s t,I u,I v]] m (Rb fun U g=>(Br (U=false) (R (.tuple #[vN,I 1]) g) (∃x,aa g j [vU x]/\(Br (((ByteArray.size x:Int):Int)≠32) (R (.tuple #[vN,I 2]) g) (∃y,aa g l [I y]/\(Pure P 118 #[I y] g (Rb fun V z=>(Br (V=false) (R (.tuple #[vN,I 2]) z) (ae P (Instr.makeMap 211 none) w.heap.size [] z fun X E=>∃(G:Option Nat),X= .map G/\(∃H n J,aa E (i.add 0) [vW H n J]/\(aw.L8 A a b C c d j i l G H n J (n:Int) (0:Int) w.heap.size E R)))))))))))))))))))):
  Pure P 95 #[vW A a b,vW C c d,vU L,.agg #[vW D e f,I p,I q],I r] w R:=
 pr aw.cx func95 h

def cG.L6(a:O)(b c:Nat)(d:O)(e f:Nat)(g:O)(i j:Nat)(l m:Int):=Lt 110 f110 6 [vS 0 a b c,vS 1 d e f,vS 15 g i j,vI 16 l,vI 17 m] []
def cG.cx:Pm:=([((true,6),[0,1,15,16,17],[])],[])
theorem cG.L6.step
  (h:(Br (p<q) (Ix p d D fun v=>(∃g j l i,aa w (v.add ((p).toNat*4)) [I g,I j,vU l,vU i]/\((0<=p/\p<=(c:Int))/\(∀n,Ext B [] w n->(Pure P 136 #[vW A a b,(vW C ((p).toNat) c),.agg #[I g,I j,vU l,vU i]] n (Ri fun o m=>(Br (o≠0) (R (.tuple #[I p,I o]) m) (∀r,Ext B [] m r->(Pure P 137 #[vW A a b,I g] r (Ri fun s x=>(Ix s a A fun y=>(∃t,aa m ((y.add ((s).toNat*4)).add 3) [vU t]/\(Pure P 44 #[vU t,.agg #[I g,I j,vU l,vU i]] x (Rt fun z u=>(Br (i≠z) (R (.tuple #[I p,I 14]) u) (aN .i64 (p+1)/\(cG.L6 A a b C e c D d f q (p+1) B u R))))))))))))))))) (R (.tuple #[(I (-1:Int)),I 0]) w))):
  cG.L6 A a b C e c D d f q p B w R:=
 lr cG.cx func110 h
theorem cG.vc
  (h:(Pure P 135 #[vW A b c] w (Rb fun f e=>(Br (f=false) (R (.tuple #[(I (-1:Int)),I 1]) e) (Br ((a:Int)>1024) (R (.tuple #[(I (-1:Int)),I 8]) e) (cG.L6 A b c C a d C a d (a:Int) (0:Int) w.heap.size e R)))))):
  Pure P 110 #[vW A b c,vW C a d] w R:=
 pr cG.cx func110 h

def km.cx:Pm:=([],[])
theorem km.vc
  (h:(Br ((a:Int)≥(1:Int)) (Br ((a:Int)<=(9:Int)) (∀c,Ext w.heap.size [] w c->(Pure P 59 #[vW A a b,(.func (.func 175) #[] #[])] c (Rb fun i d=>(Br (i=false) (Pure P 118 #[I p] d (Rb fun j e=>(Bb j (Pure P 118 #[I q] e (Rb fun l m=>(R (.bool l) m))) (R (.bool false) e)))) (R (.bool false) d))))) (∀f,Ext w.heap.size [] w f->(R (.bool false) f))) (∀g,Ext w.heap.size [] w g->(R (.bool false) g)))):
  Pure P 117 #[.agg #[vW A a b,I p,I q]] w R:=
 pr km.cx func117 h

def gA.cx:Pm:=([],[])
theorem gA.vc
  (h:(Br (p≥(0:Int)) (R (.bool (decide (p<=(1073741824:Int)))) w) (R (.bool false) w))):
  Pure P 118 #[I p] w R:=
 pr gA.cx func118 h

def kO.cx:Pm:=([],[])
theorem kO.vc{b g c d:Addr}
  (h:(∀a,Ext w.heap.size [] w a->(∃i,aa a (b.add 0) [I i]/\(Br (q=i) (∃j,aa a g [vU j]/\(Br (L=j) (∃l,aa a c [I l]/\(Br (p<=l) (∃e,aa a c [I e]/\(∃f,aa a (d.add 1) [I f]/\(aN .i64 (e - f)/\(Br (p≥(e - f)) (∃m,aa a (b.add 0) [I m]/\(∃n,aa a (d.add 2) [I n]/\(R (.bool (decide (m≠n))) a))) (R (.bool false) a))))) (R (.bool false) a))) (R (.bool false) a))) (R (.bool false) a))))):
  Pure P 119 #[.agg #[I q,I p,vU L,vU M],(.pointer (some b)),(.pointer (some g)),(.pointer (some c)),(.pointer (some d))] w R:=
 pr kO.cx func119 h

def cI.L2(a:O)(b c:Nat)(d:O)(e f:Nat)(g i:Int):=Lt 135 f135 2 [vS 0 a b c,vS 5 d e f,vI 6 g,vI 7 i] []
def cI.cx:Pm:=([((true,2),[0,5,6,7],[])],[(4,9999,3)])
theorem cI.L2.step
  (h:(Br (p<q) (Ix p b C fun v=>(∃f i j l,aa w (v.add ((p).toNat*4)) [I f,I i,vU j,vU l]/\(∀e,Ext B [] w e->(Br (f<1) (∀m,Ext B [] e m->(R (.bool false) m)) (Br (f>1073741824) (∀n,Ext B [] e n->(R (.bool false) n)) (Br (i<1) (∀o,Ext B [] e o->(R (.bool false) o)) (Br (i>9) (∀r,Ext B [] e r->(R (.bool false) r)) (∀s,Ext B [] e s->(Pure P 195 #[vU j] s (Rb fun x t=>(Br (x=false) (R (.bool false) t) (Pure P 195 #[vU l] t (Rb fun y g=>(Br (y=false) (R (.bool false) g) (Br (p>0) (aN .i64 (p - (1:Int))/\(Ix (p - (1:Int)) a A fun z=>(∃u,aa e ((z.add (((p - (1:Int))).toNat*4)).add 0) [I u]/\(Br (u≥f) (R (.bool false) g) (aN .i64 (p+1)/\(cI.L2 A a c C b d q (p+1) B g R)))))) (aN .i64 (p+1)/\(cI.L2 A a c C b d q (p+1) B g R))))))))))))))))) (R (.bool (decide ((a:Int)<=(16:Int)))) w))):
  cI.L2 A a c C b d q p B w R:=
 lr cI.cx func135 h
theorem cI.vc
  (h:(cI.L2 A a b A a b (a:Int) (0:Int) w.heap.size w R)):
  Pure P 135 #[vW A a b] w R:=
 pr cI.cx func135 h

def kr.cx:Pm:=([],[(7,1,5)])
theorem kr.vc
  (h:(∀l,Ext w.heap.size [] w l->(Pure P 137 #[vW C c d,I q] l (Ri fun t m=>(Br (t<0) (R (I 7) m) (Pure P 118 #[I p] m (Rb fun u e=>(Br (u=false) (R (I 2) e) (Br (((ByteArray.size L:Int):Int)≠32) (R (I 2) e) (Br ((a:Int)>0) (aN .i64 ((a:Int) - (1:Int))/\(Ix ((a:Int) - (1:Int)) a A fun v=>(∃n,aa e ((v.add ((((a:Int) - (1:Int))).toNat*4)).add 1) [I n]/\(Br (n>p) (∀o,Ext w.heap.size [] e o->(R (I 5) o)) (∀f,Ext w.heap.size [] e f->(∀g:Nat,w.heap.size<=g->f.heap[g]? =some (.cells [I q,I p,vU L,vU M].toArray 68 (0,0))->(Pure P 120 #[vW A a b,(.func (.func 196) #[] #[(.pointer (some (⟨g,0,none⟩:Addr)))])] f (Rb fun x r=>(Bb x (R (I 6) r) (R (I 0) r)))))))))) (∀i,Ext w.heap.size [] e i->(∀j:Nat,w.heap.size<=j->i.heap[j]? =some (.cells [I q,I p,vU L,vU M].toArray 68 (0,0))->(Pure P 120 #[vW A a b,(.func (.func 196) #[] #[(.pointer (some (⟨j,0,none⟩:Addr)))])] i (Rb fun y s=>(Bb y (R (I 6) s) (R (I 0) s)))))))))))))))):
  Pure P 136 #[vW C c d,vW A a b,.agg #[I q,I p,vU L,vU M]] w R:=
 pr kr.cx func136 h

def gU.cx:Pm:=([],[(1,1,5)])
theorem gU.vc
  (h:(∀c,Ext w.heap.size [] w c->(∀d:Nat,w.heap.size<=d->c.heap[d]? =some (.cells [I p].toArray 3 (0,0))->(Pure P 197 #[vW A a b,(.func (.func 198) #[] #[(.pointer (some (⟨d,0,none⟩:Addr)))])] c (Ri fun e f=>(R (I e) f)))))):
  Pure P 137 #[vW A a b,I p] w R:=
 pr gU.cx func137 h

def mW.cx:Pm:=([],[])
theorem mW.vc
  (h:(Br (p<1) (R (.bool true) w) (R (.bool (decide (p>9))) w))):
  Pure P 175 #[I p] w R:=
 pr mW.cx func175 h

def iN.cx:Pm:=([],[])
theorem iN.vc
  (h:(Br (((ByteArray.size L:Int):Int)≥(1:Int)) (R (.bool (decide (((ByteArray.size L:Int):Int)<=(64:Int)))) w) (R (.bool false) w))):
  Pure P 195 #[vU L] w R:=
 pr iN.cx func195 h

def mX.cx:Pm:=([],[])
theorem mX.vc{b:Addr}
  (h:(∀a,Ext w.heap.size [] w a->(∃c,aa a (b.add 0) [I c]/\(Br (p=c) (∃d,aa a (b.add 2) [vU d]/\(Br (L=d) (∃e,aa a (b.add 1) [I e]/\(R (.bool (decide (q=e))) a)) (R (.bool false) a))) (R (.bool false) a))))):
  Pure P 196 #[.agg #[I p,I q,vU L,vU M],(.pointer (some b))] w R:=
 pr mX.cx func196 h

def lS.cx:Pm:=([],[])
theorem lS.vc{b:Addr}
  (h:(∀a,Ext w.heap.size [] w a->(∃c,aa a b [I c]/\(R (.bool (decide (p=c))) a)))):
  Pure P 198 #[.agg #[I p,I q,vU L,vU M],(.pointer (some b))] w R:=
 pr lS.cx func198 h

end Go.Proofs.YtmdphpnaipbfjaaGreatDoor.F

namespace Go.Proofs.YtmdphpnaipbfjaaGreatDoor.B
open Go Go.RowKit Go.Proofs Go.Proofs.YtmdphpnaipbfjaaGreatDoor.Vc

structure mw where
 sum:ByteArray->ByteArray
 pad:ByteArray->Int->ByteArray
structure fj (H:mw):Prop where
 sum:∀(w:World)(s:ByteArray),s.size<=100000000->Pure Tryz.prog 54 #[.string s] w fun v _=>v= .string (H.sum s)
 len:∀s:ByteArray,(H.sum s).size=32
 pad:∀(w:World)(s:ByteArray)(b:Int),s.size<=64->0<=b->b<256->Pure Tryz.prog 93 #[.string s,.int .u8 b] w fun v _=>v= .string (H.pad s b)
 aeZ:∀(s:ByteArray)(b:Int),(H.pad s b).size=64
abbrev DF:ByteArray:=⟨#[32]⟩
def xw(a:Ap):ByteArray:=(((iS a.cR++DF)++iS a.tick)++DF)++a.subject
def codeF(H:mw)(key:ByteArray)(a:Ap):ByteArray:=H.sum (H.pad key 92++H.sum (H.pad key 54++xw a))
theorem Aj{z:Int}(a: -9223372036854775808<=z)(h1:z<=9223372036854775807):(iS z).size<=20:=by
 show(kW z).length<=20;exact jS (k:=19) om om
section
variable {H:mw} {w:World}
theorem NO(ok:fj H)(hg:bj w){key:ByteArray}{a:Ap}(c:key.size<=64)(h1:aN .i64 a.cR)(b:aN .i64 a.tick)(hs:a.subject.size<=1000000):
  Pure Tryz.prog 44 #[.string key,a.val] w fun v _=>v= .string (codeF H key a):=by
 simp only[aN]at h1 b;have l1:=Aj h1.1 h1.2;have m:=Aj b.1 b.2;have s1:DF.size=1:=rfl;refine F.sb.vc fun w1 x1=> ?_
 have d:=k0 x1;refine pm (vn (hg.next d) _ h1.1 h1.2) ?_;rintro v n g rfl;have e:=kP d g;refine⟨_,rfl,by show _+DF.size<=_;omega,pm (vn (hg.next e) _ b.1 b.2) ?_⟩;rintro v h i rfl;have o:=kP e i;have z1:(iS a.cR++DF).size=(iS a.cR).size+1:=by rw[eU];rfl
 have z2:((iS a.cR++DF)++iS a.tick).size=(iS a.cR).size+1+(iS a.tick).size:=by rw[eU,z1]
 have z3:(((iS a.cR++DF)++iS a.tick)++DF).size=(iS a.cR).size+1+(iS a.tick).size+1:=by rw[eU,z2];rfl
 have z4:(xw a).size=(iS a.cR).size+1+(iS a.tick).size+1+a.subject.size:=by unfold xw;rw[eU,z3]
 refine⟨_,rfl,by show(iS a.cR++DF).size+_<=_;omega,by show((iS a.cR++DF)++iS a.tick).size+DF.size<=_;omega,by show(((iS a.cR++DF)++iS a.tick)++DF).size+_<=_;omega,pm (ok.pad h key 92 c om om) ?_⟩;rintro v j q rfl;refine⟨_,rfl,pm (ok.pad j key 54 c om om) ?_⟩;rintro v k r rfl;have p1:=ok.aeZ key 54;have p2:=ok.aeZ key 92;have p3:=ok.len (H.pad key 54++xw a);have z5:(H.pad key 54++xw a).size=64+(xw a).size:=by rw[eU,p1]
 have x:(H.pad key 92++H.sum (H.pad key 54++xw a)).size=96:=by rw[eU,p2,p3]
 refine⟨_,rfl,by show _+(xw a).size<=_;omega,pm (ok.sum k (H.pad key 54++xw a) om) ?_⟩;rintro v l y rfl;refine⟨_,rfl,om,pm (ok.sum l (H.pad key 92++H.sum (H.pad key 54++xw a)) om) ?_⟩;rintro v z _ rfl;exact⟨_,rfl,rfl⟩
theorem k8(ok:fj H)(hg:bj w){key:ByteArray}{a:Ap}(b:1<=key.size)(c:key.size<=64)(h1:aN .i64 a.cR)(d:aN .i64 a.tick)(hs:a.subject.size<=1000000):
  Pure Tryz.prog 16 #[.string key,a.val] w fun v _=>v= .tuple #[.string (codeF H key a),.int .i64 0]:=by
 refine F.k8.vc ⟨fun h=>by omega,fun _=>⟨fun h=>by omega,fun _ g e=>pm (NO ok (hg.next (k0 e)) c h1 d hs) ?_⟩⟩;rintro v i _ rfl;exact⟨_,rfl,rfl⟩
theorem iL(ok:fj H){s:ByteArray}(hs:s.size<=100000000):Pure Tryz.prog 43 #[.string s] w fun v _=>v= .string (H.sum s):=by
 refine F.iL.vc (pm (ok.sum w s hs) ?_);rintro v a _ rfl;exact⟨_,rfl,rfl⟩
theorem gA(n:Int)(w:World):Pure Tryz.prog 118 #[.int .i64 n] w fun v _=>v= .bool (decide (0<=n/\n<=1073741824)):=by
 refine F.gA.vc ⟨fun h=> ?_,fun h=> ?_⟩
 ·congr 1
  simp;omega
 ·congr 1
  simp;omega
theorem iN(s:ByteArray)(w:World):Pure Tryz.prog 195 #[.string s] w fun v _=>v= .bool (decide (1<=s.size/\s.size<=64)):=by
 refine F.iN.vc ⟨fun h=>ca Value.bool ?_,fun h=>ca Value.bool (YW (eL om))⟩;rw[ky];omega
def okS(p:Option Si)(s:Si):Prop:=(1<=s.id/\s.id<=1073741824)/\(1<=s.role/\s.role<=9)/\(1<=s.name.size/\s.name.size<=64)/\(1<=s.key.size/\s.key.size<=64)/\∀q,p=some q->q.id<s.id
def JH:Option Si->List Si->Prop
 |_,[]=>True
 |p,s::r=>okS p s/\JH (some s) r
noncomputable def od(l:List Si):Bool:=by
 classical
 exact decide (JH none l/\l.length<=16)
theorem ji{l:List Si}:od l=true↔JH none l/\l.length<=16:=by
 unfold od;simp
theorem DG:∀{l:List Si} {p:Option Si},JH p l->∀s∈l,∃q,okS q s:=by
 intro l;induction l with
 |nil=>intro p _ s hs;cases hs
 |cons c r ih=>
  intro p h s hs;rcases cb.1 hs with rfl|hs
  ·exact⟨p,h.1⟩
  ·exact ih h.2 s hs
theorem cI{A:Option Addr}{n c:Nat}{l:List Si}(hl:bW w A 4 (l.map Si.row))(hlen:l.length=n)(hn:n<2147483648):
  Pure Tryz.prog 135 #[.slice A n c] w fun v _=>v= .bool (od l):=by
 have key:∀(d i:Nat)(w':World),n - i=d->i<=n->Below w.heap.size w w'->(JH (fK l i) (l.drop i)↔JH none l)->F.cI.L2 A n c A n c n i w.heap.size w' fun v _=>v= .bool (od l):=by
  intro d;induction d with
  |zero=>
   intro i w' C hi hw b;rw[dd om]at b;refine F.cI.L2.step ⟨fun h=>by omega,fun _=>ca Value.bool ?_⟩;have ha:JH none l:=b.1 trivial;rw[ya,kl,ji];exact⟨fun h=>⟨ha,om⟩,fun h=>by omega⟩
  |succ d ih=>
   intro i w' C hi hw b;have j:i<l.length:=om;have D:=sc i;rw[cy j,JH,<-tZ j]at b;have bad:¬okS (fK l i) l[i]->Value.bool false= .bool (od l):=fun h=>by
    refine ca Value.bool (YW (MC.2 fun k=> ?_));exact h (b.2 (ji.1 k).1).1
   obtain⟨hb,E,G,g,_⟩:=(hl.ar hw lf).at_ (fun _=>rfl) hlen j;refine F.cI.L2.step ⟨fun _=>⟨hb,E,G,_,_,_,_,g,fun S I=>⟨fun q w' _=>bad fun k=>by have:=k.1;omega,fun q1=>⟨fun q w' _=>bad fun k=>by have:=k.1;omega,fun T=>⟨fun q w' _=>bad fun k=>by have:=k.2.1;omega,fun U=>⟨fun q w' _=>bad fun k=>by have:=k.2.1;omega,fun V J K=>pm (iN _ J) ?_⟩⟩⟩⟩⟩,fun h=>by omega⟩;have x:=kE hw I;have L:=kE x K;rintro v M N rfl;have m:=kP L N;refine⟨_,rfl,fun q=>bad fun k=>kh q k.2.2.1,fun o=>pm (iN _ M) ?_⟩;rintro v y O rfl;have P:=kP m O;have o:1<=l[i].name.size/\l[i].name.size<=64:=by simpa using o
   refine⟨_,rfl,fun q=>bad fun k=>kh q k.2.2.2.1,fun r=> ?_⟩;have r:1<=l[i].key.size/\l[i].key.size<=64:=by simpa using r
   have go:(∀q,fK l i=some q->q.id<l[i].id)->aN .i64 ((i:Int)+1)/\F.cI.L2 A n c A n c n ((i:Int)+1) w.heap.size y fun v _=>v= .bool (od l):=fun h=>by
    refine⟨ir,?_⟩;rw[D];refine ih (i+1) y om om P ⟨fun k=>b.1 ⟨⟨om,om,o,r,h⟩,k⟩,fun k=>(b.2 k).2⟩
   refine⟨fun Q=>⟨ir,?_⟩,fun Q=>go fun q e=> ?_⟩
   ·have z:i - 1<l.length:=om;have B:fK l i=some l[i - 1]:=by
     unfold fK;rw[aq om,af z]
    obtain⟨p1,a,p2,_,p3⟩:=(hl.ar x lf).at_ (fun _=>rfl) hlen z;have e:((i - 1:Nat):Int)=(i:Int) - 1:=om;rw[e]at p1 p3;refine⟨p1,a,p2,_,p3 0 _ rfl,fun k=>bad fun R=> ?_,fun k=>go fun q e=> ?_⟩
    ·have:=R.2.2.2.2 _ B;omega
    ·rw[B]at e;cases e;omega
   ·unfold fK at e;rw[bm om]at e;cases e
 exact F.cI.vc (key n 0 w rfl om (Below.refl _ _) Iff.rfl)
theorem Pr{p:Nat}{id:Int}(h:w.heap[p]? =some (.cells [Value.int .i64 id].toArray 3 (0,0)))(s:Si):
  Pure Tryz.prog 198 #[s.val,.pointer (some ⟨p,0,none⟩)] w fun v _=>v= .bool (decide (s.id=id)):=
 F.lS.vc fun w1 x1=>⟨_,cm (ext_nil x1 h) rfl,rfl⟩
def NP(l:List Si)(id:Int):Option Nat:=l.findIdx? fun s=>decide (s.id=id)
def ixO:Option Nat->Int
 |some i=>i
 |none=> -1
theorem gU{A:Option Addr}{n c:Nat}{l:List Si}(hl:bW w A 4 (l.map Si.row))(hlen:l.length=n)(hn:n<2147483648)(id:Int):
  Pure Tryz.prog 137 #[.slice A n c,.int .i64 id] w fun v _=>v= .int .i64 (ixO (NP l id)):=by
 refine F.gU.vc fun w1 x1 p2 _ b=> ?_
 have h1:=k0 x1;refine pm (Wo (hl.ar h1 lf) hlen hn (a:= #[]) (k:= #[.pointer (some ⟨p2,0,none⟩)]) kF fun w' hb s _=>Pr (ai b hb) s) ?_;rintro v d _ rfl;refine⟨_,rfl,?_⟩;rw[nN];unfold NP ixO;cases l.findIdx? fun s=>decide (s.id=id)with
 |none=>rfl
 |some i=>simp
def mY(ss:List Si)(l:List Ap)(a:Ap):Int:=
 if NP ss a.cR=none then 7 else if ¬(0<=a.tick/\a.tick<=1073741824)∨a.subject.size≠32 then 2
 else if ∃q,l.getLast? =some q/\q.tick>a.tick then 5
 else if(l.any fun b=>decide (b.cR=a.cR/\b.subject=a.subject/\b.tick=a.tick))=true then 6 else 0
theorem Ti{p:Nat}{a:Ap}(h:w.heap[p]? =some (.cells (Ap.row a).toArray 68 (0,0)))(b:Ap):
  Pure Tryz.prog 196 #[b.val,.pointer (some ⟨p,0,none⟩)] w fun v _=>v= .bool (decide (b.cR=a.cR/\b.subject=a.subject/\b.tick=a.tick)):=by
 refine F.mX.vc fun w1 x1=> ?_
 have hb:=ext_nil x1 h;refine⟨_,bz hb rfl,fun k=>⟨_,bz hb rfl,fun c=>⟨_,bz hb rfl,ca Value.bool ?_⟩,fun c=>ca Value.bool (YW (eL fun q=>c q.2.1))⟩,fun k=>ca Value.bool (YW (eL fun q=>k q.1))⟩;rw[ky];exact⟨fun q=>⟨k,c,q⟩,fun q=>q.2.2⟩
theorem kr{A A1:Option Addr}{n c n1 c1:Nat}{ss:List Si}{l:List Ap}(hs:bW w A 4 (ss.map Si.row))(y:ss.length=n)(hn:n<2147483648)(hl:bW w A1 4 (l.map Ap.row))(j:l.length=n1)(z:n1<2147483648)(a:Ap):
  Pure Tryz.prog 136 #[.slice A n c,.slice A1 n1 c1,a.val] w fun v _=>v= .int .i64 (mY ss l a):=by
 refine F.kr.vc fun w1 x1=> ?_
 have h1:=k0 x1;refine pm (gU (hs.ar h1 lf) y hn a.cR) ?_;rintro v B C rfl;have D:=kP h1 C;unfold mY;have neg:ixO (NP ss a.cR)<0↔NP ss a.cR=none:=by
  unfold ixO;cases NP ss a.cR with
  |none=>simp
  |some i=>simp
 refine⟨_,rfl,fun q=>by rw[bm (neg.1 q)],fun q=>pm (gA _ B) ?_⟩;rw[aq (fun k=>q (neg.2 k))];rintro v P E rfl;have m:=kP D E;refine⟨_,rfl,fun q=>by rw[bm (.inl (kh q))],fun q1=> ?_⟩;have q1:0<=a.tick/\a.tick<=1073741824:=by simpa using q1
 refine⟨fun q=>by rw[bm (.inr om)],fun Q=> ?_⟩;rw[aq (by rintro(k|k);exact k q1;omega)];have fin:∀(d:World),Below w.heap.size w d->∀g:Nat,d.heap[g]? =some (.cells (Ap.row a).toArray 68 (0,0))->Pure Tryz.prog 120 #[.slice A1 n1 c1,.func (.func 196) #[] #[.pointer (some ⟨g,0,none⟩)]] d
   (Rb fun G I=>Bb G (Value.int .i64 6= .int .i64 (if(l.any fun b=>decide (b.cR=a.cR/\b.subject=a.subject/\b.tick=a.tick))=true then 6 else 0)) (Value.int .i64 0= .int .i64 (if(l.any fun b=>decide (b.cR=a.cR/\b.subject=a.subject/\b.tick=a.tick))=true then 6 else 0))):=by
  intro d J g h;refine pm (Dy (hl.ar J lf) j z (a:= #[]) (k:= #[.pointer (some ⟨g,0,none⟩)]) (p:=fun b=>decide (b.cR=a.cR/\b.subject=a.subject/\b.tick=a.tick)) kF fun w' hb b _=>Ti (ai h hb) b) ?_;rintro v I _ rfl;exact⟨_,rfl,fun k=>by rw[bm k],fun k=>by rw[aq (by rw[k];decide)]⟩
 refine⟨fun K=>⟨ir,?_⟩,fun K L M o _ h=> ?_⟩
 ·have r:n1 - 1<l.length:=om;have el:l.getLast? =some l[n1 - 1]:=by rw[vu,<-af r,j]
  obtain⟨p1,N,p2,_,p3⟩:=(hl.ar m lf).at_ (fun _=>rfl) j r;have e:((n1 - 1:Nat):Int)=(n1:Int) - 1:=om;rw[e]at p1 p3;refine⟨p1,N,p2,_,p3 1 _ rfl,fun k R _=>by rw[bm ⟨_,el,k⟩],fun k d O g _ h=> ?_⟩;rw[aq (by rintro⟨q,e,x⟩;rw[el]at e;cases e;exact k x)];exact fin d (kE m O) g h
 ·have:l=[]:=eR om;rw[aq (by rintro⟨q,e,x⟩;rw[this]at e;cases e)];exact fin L (kE m M) o h
end
end Go.Proofs.YtmdphpnaipbfjaaGreatDoor.B

set_option maxRecDepth 100000
set_option maxHeartbeats 4000000
namespace Go.Proofs.YtmdphpnaipbfjaaGreatDoor.F
open Go Go.RowKit Go.Proofs Go.Proofs.YtmdphpnaipbfjaaGreatDoor.Vc
open Tryz
variable {A C D E G H J K A0 A1 A2 A3 A4 A5 A6 A7 A8 A9 C0 C1 C2 C3 C4 C5 C6 C7 C8 C9:O} {a b c d e f g i j l m n o a0 a1 a2 a3 a4 a5 a6 a7 a8 a9 b0 b1 b2 b3 b4 b5 b6 b7 b8 b9 c0 c1 c2 c3 c4 c5 c6 c7 c8 c9:Nat} {p q r s t u v x p0 p1 p2 p3 p4 p5 p6 p7 p8 p9 q0 q1 q2 q3 q4 q5 q6 q7 q8 q9:Int} {L M N N0 N1 N2 N3 N4 N5 N6 N7 N8 N9 T0 T1 T2 T3 T4 T5 T6 T7 T8 T9:ByteArray} {Q S:Bool} {B:Nat} {w:World} {R:Kt}
def dt.Bf(a:O)(b c:Nat)(d:ByteArray)(e:O)(f g:Nat)(i:O)(j l:Nat)(m n o p q:Int)(r:O)(s t:Nat)(u:O)(v x:Nat)(y:O)(z A:Nat):=Lt 7 f7 11 [vS 0 a b c,vL 3,vT 8 d,vS 10 e f g,vS 32 i j l,vI 33 m,vI 34 n] [⟨3,false,33,[(I o),(I p),(I q),(vW r s t),(vW u v x),(vW y z A)]⟩]
def dt.cx:Pm:=([((true,11),[0,3,8,10,32,33,34],[3])],[(12,2,2),(13,7,2),(13,8,2),(15,7,2),(15,8,2)])
theorem dt.Bf.step
  (h:(Br (p<t) (Ix p m H fun j7=>(∃y z J K M N O Q S T U V X,aa w (j7.add ((p).toNat*7)) [I y,I z,I J,vW K M N,vW O Q S,vW T U V,vU X]/\(ae P (Instr.alloc 82 true (.tuple #[])) B [33] w fun j8 Y=>∃(o:Addr),j8= .pointer (some o)/\(∃(v:List Value)(x:Nat),B<=o.block/\o.spot=none/\Y.heap[o.block]? =some (.cells v.toArray x (0,0))/\o.off+7<=v.length/\hasType x [⟨3,false,33,[I q,I r,I s,vW A a b,vW C c d,vW D e f]⟩]=false/\∀u,aG Y u o.block x (setCells v o.off [I y,I z,I J,vW K M N,vW O Q S,vW T U V,vU X])->(∃Z d0 d1 d2 d3 d4 d5 d6 d7 d8 d9 k,aa u (o.add 0) [I Z,I d0,I d1,vW d2 d3 d4,vW d5 d6 d7,vW d8 d9 k]/\(∃F,aa u (o.add 6) [vU F]/\(∀W,Ext B [] u W->(Pure P 25 #[.agg #[I Z,I d0,I d1,vW d2 d3 d4,vW d5 d6 d7,vW d8 d9 k]] W fun j9 l0=>∃e3 e4 e5 e6 e7 e8 e9 g0 g1 g2 g3 g4,j9= .agg #[I e3,I e4,I e5,vW e6 e7 e8,vW e9 g0 g1,vW g2 g3 g4]/\(ae P (Instr.buildSlice 28 1 #[(0,(.agg #[I e3,I e4,I e5,vW e6 e7 e8,vW e9 g0 g1,vW g2 g3 g4,vU F]))]) B [33] l0 (Rs fun l1 l2 l3 l4=>(ae P (Builtin.append_ #[28,28] 28 #[vW G j l,vW l1 l2 l3]) B [33] l4 (Rs fun l5 l6 l7 l8=>(aN .i64 (p+1)/\(dt.Bf E g i L l5 l6 l7 H m n t (p+1) q r s A a b C c d D e f B l8 R)))))))))))))) (Pure P 25 #[.agg #[I q,I r,I s,vW A a b,vW C c d,vW D e f]] w fun l9 m0=>∃g5 g6 g7 g8 g9 j0 j1 j2 j3 j4 j5 j6,l9= .agg #[I g5,I g6,I g7,vW g8 g9 j0,vW j1 j2 j3,vW j4 j5 j6]/\(Pure P 26 #[vW E g i,vU L] m0 (Rt fun m1 m2=>(ae P (Instr.buildSlice 28 1 #[(0,(.agg #[I g5,I g6,I g7,vW g8 g9 j0,vW j1 j2 j3,vW j4 j5 j6,vU m1]))]) B [33] m2 (Rs fun m3 m4 m5 m6=>(ae P (Builtin.append_ #[28,28] 28 #[vW G j l,vW m3 m4 m5]) B [33] m6 (Rs fun m7 m8 m9 n0=>(R (.tuple #[vW m7 m8 m9,I 0]) n0)))))))))):
  dt.Bf E g i L G j l H m n t p q r s A a b C c d D e f B w R:=
 lr dt.cx func7 h
theorem dt.vc
  (h:(∀l,Ext w.heap.size [] w l->(Pure P 23 #[vW A a b] l (Rii fun t o m=>(Br (o≠0) (R (.tuple #[vN,I 1]) m) (Pure P 24 #[vW A a b,.agg #[I p,I q,I r,vW C c d,vW D e f,vW E g i]] m (qO fun s n j=>(Br (n≠0) (R (.tuple #[vN,I n]) j) (Br ((a:Int)=1024) (R (.tuple #[vN,I 12]) j) (dt.Bf A a b s none 0 0 A a b (a:Int) (0:Int) p q r C c d D e f E g i w.heap.size j R)))))))))):
  Pure P 7 #[vW A a b,.agg #[I p,I q,I r,vW C c d,vW D e f,vW E g i]] w R:=
 pr dt.cx func7 h

def cM.L6(a:Addr)(b:O)(c d:Nat)(e f:Int):=Lt 8 f8 6 [(6,.v (.pointer (some a))),vS 18 b c d,vI 19 e,vI 20 f] []
def cM.cx:Pm:=([((true,6),[6,18,19,20],[])],[(4,0,2),(9,1,2),(9,6,6),(11,0,6)])
theorem cM.L6.step{c:Addr}
  (h:(Br (p<q) (Ix p a A fun V=>(∃e f g i j l m n o r s t d,aa w (V.add ((p).toNat*7)) [I e,I f,I g,vW i j l,vW m n o,vW r s t,vU d]/\(∀u,Ext B [] w u->(Pure P 27 #[.agg #[I e,I f,I g,vW i j l,vW m n o,vW r s t]] u (qO fun v F x=>((∀y,Ext B [] x y->(ae P (Instr.buildSlice 31 1 #[(0,(vU v))]) B [82] y (Rs fun z C D E=>((Pure P 29 #[vW z C D] E (Rt fun G H=>(ByteArray.size G+ByteArray.size d<=9223372036854775807/\(ba P 28 #[(.pointer (some c)),(vU (G++d))] B H fun X J=>qk [82] H J/\∃(Y:Int)(Z:Value),X= .tuple #[I Y,Z]/\(aN .i64 (p+1)/\(cM.L6 c A a b q (p+1) B J R))))))/\(Pure P 29 #[vW z C D] E (Rt fun K L=>(ByteArray.size K+ByteArray.size d<=9223372036854775807/\(ba P 28 #[(.pointer (some c)),(vU (K++d))] B L fun d0 M=>qk [82] L M/\∃(d1:Int)(d2:Value),d0= .tuple #[I d1,d2]/\(aN .i64 (p+1)/\(cM.L6 c A a b q (p+1) B M R))))))))))/\(∀N,Ext B [] x N->(ae P (Instr.buildSlice 31 1 #[(0,(vU v))]) B [82] N (Rs fun d3 d4 d5 d6=>(Pure P 29 #[vW d3 d4 d5] d6 (Rt fun O Q=>(ByteArray.size O+ByteArray.size d<=9223372036854775807/\(ba P 28 #[(.pointer (some c)),(vU (O++d))] B Q fun d7 S=>qk [82] Q S/\∃(d8:Int)(d9:Value),d7= .tuple #[I d8,d9]/\(aN .i64 (p+1)/\(cM.L6 c A a b q (p+1) B S R))))))))))))))) (ba P 30 #[(.pointer (some c))] B w fun k T=>qk [] w T/\∃U,k=vU U/\(R (.tuple #[vU U,I 0]) T)))):
  cM.L6 c A a b q p B w R:=
 lr cM.cx func8 h
theorem cM.vc
  (h:(Pure P 23 #[vW A a b] w (Rii fun i e c=>(Br (e≠0) (R (.tuple #[(vU ⟨#[]⟩),I 1]) c) (ae P (Instr.alloc 88 true (.tuple #[])) w.heap.size [] c fun f g=>∃(d:Addr),f= .pointer (some d)/\(cM.L6 d A a b (a:Int) (0:Int) w.heap.size g R)))))):
  Pure P 8 #[vW A a b] w R:=
 pr cM.cx func8 h

def ck.L4(a:ByteArray)(b:O)(c d:Nat)(e:Int)(f:Addr):=Lt 9 f9 4 [vT 0 a,vS 4 b c d,vI 5 e,(6,.v (.pointer (some f)))] []
def ck.cx:Pm:=([((true,4),[0,4,5,6],[])],[(3,3,5),(5,1,6),(7,6,2),(14,2,2),(14,3,2)])
theorem ck.L4.step{c:Addr}
  (h:(Br ((a:Int)<1024) (ba P 31 #[(.pointer (some c))] B w fun r4 e=>qk [] w e/\∃l,r4=vU l/\(∃V,aa e (c.add 1) [.bool V]/\(Bb V (R (.tuple #[vW A a b,I p]) e) (∃X,aa e (c.add 0) [vU X]/\(Br (((ByteArray.size X:Int):Int)<32) (R (.tuple #[vW A a b,I p]) e) (∃m,aa e (c.add 0) [vU m]/\((0<=(32:Int)/\(32:Int)<=(ByteArray.size m:Int))/\(ae P (Instr.alloc 82 true (.tuple #[])) B [] e fun j5 Y=>∃(d:Addr),j5= .pointer (some d)/\(∃(n:List Value)(o:Nat),B<=d.block/\d.spot=none/\Y.heap[d.block]? =some (.cells n.toArray o (0,0))/\d.off+7<=n.length/\hasType o []=false/\∀f,aG Y f d.block o (setCells n d.off [I 0,I 0,I 0,vN,vN,vN,(vU (ByteArray.extract m 0 ((32:Int)).toNat))])->(∃g,aa f (c.add 0) [vU g]/\((0<=(32:Int)/\(32:Int)<=(ByteArray.size g:Int))/\(∃(q:List Value)(r:Nat),B<=(c.add 0).block/\(c.add 0).spot=none/\f.heap[(c.add 0).block]? =some (.cells q.toArray r (0,0))/\(c.add 0).off+1<=q.length/\hasType r []=false/\∀Z,aG f Z (c.add 0).block r (setCells q (c.add 0).off [(vU (ByteArray.extract g ((32:Int)).toNat (ByteArray.size g)))])->(Pure P 32 #[vU l] Z fun j6 d0=>∃d1 d2 d3 d4 d5 d6 d7 d8 d9 k F W e3,j6= .tuple #[.agg #[I d1,I d2,I d3,vW d4 d5 d6,vW d7 d8 d9,vW k F W],I e3]/\(∃(s:List Value)(t:Nat),B<=(d.add 0).block/\(d.add 0).spot=none/\d0.heap[(d.add 0).block]? =some (.cells s.toArray t (0,0))/\(d.add 0).off+6<=s.length/\hasType t []=false/\∀i,aG d0 i (d.add 0).block t (setCells s (d.add 0).off [I d1,I d2,I d3,vW d4 d5 d6,vW d7 d8 d9,vW k F W])->(Br (e3≠0) (R (.tuple #[vW A a b,I p]) i) (∃e4 e5 e6 e7 e8 e9 g0 g1 g2 g3 g4 g5,aa i (d.add 0) [I e4,I e5,I e6,vW e7 e8 e9,vW g0 g1 g2,vW g3 g4 g5]/\(Pure P 24 #[vW A a b,.agg #[I e4,I e5,I e6,vW e7 e8 e9,vW g0 g1 g2,vW g3 g4 g5]] i (qO fun m4 j7 u=>(Br (j7≠0) (∀g6,Ext B [] u g6->(R (.tuple #[vW A a b,I p]) g6)) (∃g7,aa u (d.add 6) [vU g7]/\(∀g8,Ext B [] u g8->(Pure P 26 #[vW A a b,vU l] g8 (Rt fun j8 j=>(Br (g7≠j8) (R (.tuple #[vW A a b,I p]) j) (∃v x y z C D E G H J K M N,aa j d [I v,I x,I y,vW z C D,vW E G H,vW J K M,vU N]/\((∀g9,Ext B [] j g9->(ae P (Instr.buildSlice 28 1 #[(0,(.agg #[I v,I x,I y,vW z C D,vW E G H,vW J K M,vU N]))]) B [] g9 (Rs fun j0 j1 j2 O=>((ae P (Builtin.append_ #[28,28] 28 #[vW A a b,vW j0 j1 j2]) B [] O (Rs fun j9 l0 l1 j3=>(∃Q,aa j3 (c.add 0) [vU Q]/\(aN .i64 ((ByteArray.size L:Int) - (ByteArray.size Q:Int))/\(ck.L4 L j9 l0 l1 ((ByteArray.size L:Int) - (ByteArray.size Q:Int)) c B j3 R)))))/\(∃S,aa O (c.add 0) [vU S]/\(aN .i64 ((ByteArray.size L:Int) - (ByteArray.size S:Int))/\(ae P (Builtin.append_ #[28,28] 28 #[vW A a b,vW j0 j1 j2]) B [] O (Rs fun l2 l3 l4 l5=>(ck.L4 L l2 l3 l4 ((ByteArray.size L:Int) - (ByteArray.size S:Int)) c B l5 R)))))))))/\(∀T,Ext B [] j T->(∃U,aa T (c.add 0) [vU U]/\(aN .i64 ((ByteArray.size L:Int) - (ByteArray.size U:Int))/\(ae P (Instr.buildSlice 28 1 #[(0,(.agg #[I v,I x,I y,vW z C D,vW E G H,vW J K M,vU N]))]) B [] T (Rs fun l6 l7 l8 l9=>(ae P (Builtin.append_ #[28,28] 28 #[vW A a b,vW l6 l7 l8]) B [] l9 (Rs fun m0 m1 m2 m3=>(ck.L4 L m0 m1 m2 ((ByteArray.size L:Int) - (ByteArray.size U:Int)) c B m3 R)))))))))))))))))))))))))))))))))) (R (.tuple #[vW A a b,I p]) w))):
  ck.L4 L A a b p c B w R:=
 lr ck.cx func9 h
theorem ck.vc
  (h:(∀a,Ext w.heap.size [] w a->(∀b:Nat,w.heap.size<=b->a.heap[b]? =some (.cells [vU L,.bool false].toArray 98 (0,0))->(ck.L4 L none 0 0 (0:Int) (⟨b,0,none⟩:Addr) w.heap.size a R)))):
  Pure P 9 #[vU L] w R:=
 pr ck.cx func9 h

def du.L3(a:O)(b c:Nat)(d:O)(e f:Nat)(g i:Int):=Lt 11 f11 3 [vS 3 a b c,vS 6 d e f,vI 7 g,vI 8 i] []
def du.cx:Pm:=([((true,3),[3,6,7,8],[])],[(5,4,2),(5,5,2)])
theorem du.L3.step
  (h:(Br (p<q) (Ix p c C fun N=>(∃e f g i j l m n o r s t O,aa w (N.add ((p).toNat*7)) [I e,I f,I g,vW i j l,vW m n o,vW r s t,vU O]/\(∀u,Ext B [] w u->(Pure P 25 #[.agg #[I e,I f,I g,vW i j l,vW m n o,vW r s t]] u fun Q S=>∃v x y z D E G H J K L M,Q= .agg #[I v,I x,I y,vW z D E,vW G H J,vW K L M]/\(ae P (Instr.buildSlice 22 1 #[(0,(.agg #[I v,I x,I y,vW z D E,vW G H J,vW K L M]))]) B [82] S (Rs fun T U V X=>(ae P (Builtin.append_ #[22,22] 22 #[vW A a b,vW T U V]) B [82] X (Rs fun Y Z d0 d1=>(aN .i64 (p+1)/\(du.L3 Y Z d0 C c d q (p+1) B d1 R)))))))))) (R (vW A a b) w))):
  du.L3 A a b C c d q p B w R:=
 lr du.cx func11 h
theorem du.vc
  (h:(du.L3 none 0 0 A a b (a:Int) (0:Int) w.heap.size w R)):
  Pure P 11 #[vW A a b] w R:=
 pr du.cx func11 h

def cV.L4(a:O)(b c:Nat)(d:O)(e f:Nat)(g i:Int):=Lt 23 f23 4 [vS 0 a b c,vS 11 d e f,vI 12 g,vI 13 i] []
def cV.cx:Pm:=([((true,4),[0,11,12,13],[])],[])
theorem cV.L4.step
  (h:(Br (p<q) (Ix p b C fun H=>(∃i j l m n o r s t u v x y,aa w (H.add ((p).toNat*7)) [I i,I j,I l,vW m n o,vW r s t,vW u v x,vU y]/\((0<=p/\p<=(a:Int))/\(∀z,Ext B [] w z->(Pure P 24 #[(vW A ((p).toNat) a),.agg #[I i,I j,I l,vW m n o,vW r s t,vW u v x]] z (qO fun J e g=>(Br (e=0) ((0<=p/\p<=(a:Int))/\(∀D,Ext B [] g D->(Pure P 26 #[(vW A ((p).toNat) a),vU J] D (Rt fun K f=>(Br (y≠K) (Br ((14:Int)≠0) (R (.tuple #[I p,I 14]) f) (aN .i64 (p+1)/\(cV.L4 A c a C b d q (p+1) B f R))) (Br (e≠0) (R (.tuple #[I p,I e]) f) (aN .i64 (p+1)/\(cV.L4 A c a C b d q (p+1) B f R)))))))) (Br (e≠0) (∀E,Ext B [] g E->(R (.tuple #[I p,I e]) E)) (aN .i64 (p+1)/\(∀G,Ext B [] g G->(cV.L4 A c a C b d q (p+1) B G R))))))))))) (R (.tuple #[(I (-1:Int)),I 0]) w))):
  cV.L4 A c a C b d q p B w R:=
 lr cV.cx func23 h
theorem cV.vc
  (h:(Br ((a:Int)>1024) (R (.tuple #[(I (-1:Int)),I 8]) w) (cV.L4 A a b A a b (a:Int) (0:Int) w.heap.size w R))):
  Pure P 23 #[vW A a b] w R:=
 pr cV.cx func23 h

def ks.cx:Pm:=([],[])
theorem ks.vc
  (h:(∀l,Ext w.heap.size [] w l->(Pure P 27 #[.agg #[I p,I q,I r,vW C b c,vW D d e,vW E f g]] l (qO fun m n j=>(Br (n≠0) (R (.tuple #[(vU ⟨#[]⟩),I n]) j) (Br ((a:Int)>0) (aN .i64 ((a:Int) - (1:Int))/\(Ix ((a:Int) - (1:Int)) a A fun x=>(∃o s y z G H J K L M N O,aa j ((x.add ((((a:Int) - (1:Int))).toNat*7)).add 0) [I o,I s,I y,vW z G H,vW J K L,vW M N O]/\(Br (o≥p) (∀t,Ext w.heap.size [] j t->(R (.tuple #[(vU ⟨#[]⟩),I 5]) t)) (Br (s>q) (∀u,Ext w.heap.size [] j u->(R (.tuple #[(vU ⟨#[]⟩),I 5]) u)) (∀v,Ext w.heap.size [] j v->(R (.tuple #[vU m,I 0]) v))))))) (R (.tuple #[vU m,I 0]) j))))))):
  Pure P 24 #[vW A a i,.agg #[I p,I q,I r,vW C b c,vW D d e,vW E f g]] w R:=
 pr ks.cx func24 h

def jj.cx:Pm:=([],[])
theorem jj.vc
  (h:(∀g,Ext w.heap.size [] w g->(Pure P 51 #[vW A a b] g (Rs fun j l m n=>(Pure P 52 #[vW C c d] n (Rs fun o s t u=>(Pure P 53 #[vW D e f] u (Rs fun v x y z=>(∀i,Ext w.heap.size [33] z i->(R (.agg #[I p,I q,I r,vW j l m,vW o s t,vW v x y]) i)))))))))):
  Pure P 25 #[.agg #[I p,I q,I r,vW A a b,vW C c d,vW D e f]] w R:=
 pr jj.cx func25 h

def kt.cx:Pm:=([],[(1,0,2),(1,1,2)])
theorem kt.vc
  (h:(ae P (Instr.makeSlice 86 (I 32) (I 32)) w.heap.size [] w (Rs fun f g i j=>(ae P (convert 86 9 (vW f g i)) w.heap.size [] j (Rt fun e c=>(Br ((a:Int)>0) (aN .i64 ((a:Int) - (1:Int))/\(Ix ((a:Int) - (1:Int)) a A fun l=>(∃d,aa c ((l.add ((((a:Int) - (1:Int))).toNat*7)).add 6) [vU d]/\(ByteArray.size d+ByteArray.size L<=9223372036854775807/\(Pure P 54 #[(vU (d++L))] c (Rt fun m n=>(R (vU m) n))))))) (ByteArray.size e+ByteArray.size L<=9223372036854775807/\(Pure P 54 #[(vU (e++L))] c (Rt fun o p=>(R (vU o) p)))))))))):
  Pure P 26 #[vW A a b,vU L] w R:=
 pr kt.cx func26 h

def bu.Mx(a:Addr)(b:O)(c d:Nat)(e f g i j:Int)(l:O)(m n:Nat)(o:O)(p q:Nat)(r:O)(s t:Nat):=Lt 27 f27 10 [vL 1,(4,.v (.pointer (some a))),vS 89 b c d,vI 90 e,vI 91 f] [⟨1,false,33,[(I g),(I i),(I j),(vW l m n),(vW o p q),(vW r s t)]⟩]
def bu.uZ(a:Addr)(b:O)(c d:Nat)(e f g i j:Int)(l:O)(m n:Nat)(o:O)(p q:Nat)(r:O)(s t:Nat):=Lt 27 f27 16 [vL 1,(4,.v (.pointer (some a))),vS 105 b c d,vI 106 e,vI 107 f] [⟨1,false,33,[(I g),(I i),(I j),(vW l m n),(vW o p q),(vW r s t)]⟩]
def bu.cx:Pm:=([((true,10),[1,4,89,90,91],[1]),((true,16),[1,4,105,106,107],[1])],[(7,0,2),(8,16,6),(12,2,6),(14,4,6),(18,1,2),(18,3,6),(20,8,6),(21,0,6)])
theorem bu.Mx.step{j:Addr}
  (h:(Br (p<q) (Ix p c C fun v=>(∃l,aa w (v.add ((p).toNat*1)) [I l]/\(Pure P 64 #[I l] w (Rt fun x m=>(ba P 28 #[(.pointer (some j)),vU x] B m fun y n=>qk [33] m n/\∃(z:Int)(G:Value),y= .tuple #[I z,G]/\(aN .i64 (p+1)/\(bu.Mx j C c i q (p+1) r s t D d e A a b E f g B n R))))))) (Pure P 63 #[(I (a:Int))] w (Rt fun H o=>(ba P 28 #[(.pointer (some j)),vU H] B o fun J u=>qk [33] o u/\∃(K:Int)(L:Value),J= .tuple #[I K,L]/\(bu.uZ j A a b (a:Int) (0:Int) r s t D d e A a b E f g B u R)))))):
  bu.Mx j C c i q p r s t D d e A a b E f g B w R:=
 lr bu.cx func27 h
theorem bu.uZ.step{j:Addr}
  (h:(Br (p<q) (Ix p b A fun H=>(∃m,aa w (H.add ((p).toNat*1)) [vU m]/\(ae P (Instr.buildSlice 31 1 #[(0,(vU m))]) B [33] w (Rs fun J K L M=>(Pure P 29 #[vW J K L] M (Rt fun N n=>(ba P 28 #[(.pointer (some j)),vU N] B n fun O o=>qk [33] n o/\∃(Q:Int)(S:Value),O= .tuple #[I Q,S]/\(aN .i64 (p+1)/\(bu.uZ j A b d q (p+1) r s t D e f E g i C a c B o R))))))))) (∀u,Ext B [] w u->(Pure P 63 #[(I (a:Int))] u (Rt fun v T=>(Pure P 29 #[vW C a c] T (Rt fun x y=>(ByteArray.size v+ByteArray.size x<=9223372036854775807/\(ba P 28 #[(.pointer (some j)),(vU (v++x))] B y fun U l=>qk [33] y l/\∃(V:Int)(X:Value),U= .tuple #[I V,X]/\(ba P 30 #[(.pointer (some j))] B l fun Y z=>qk [33] l z/\∃G,Y=vU G/\(R (.tuple #[vU G,I 0]) z))))))))))):
  bu.uZ j A b d q p r s t D e f E g i C a c B w R:=
 lr bu.cx func27 h
theorem bu.vc
  (h:(Br ((a:Int)>64) (∀n,Ext w.heap.size [] w n->(R (.tuple #[(vU ⟨#[]⟩),I 8]) n)) (Br ((b:Int)>64) (∀o,Ext w.heap.size [] w o->(R (.tuple #[(vU ⟨#[]⟩),I 8]) o)) (Br ((e:Int)>16) (∀s,Ext w.heap.size [] w s->(R (.tuple #[(vU ⟨#[]⟩),I 8]) s)) (∀t,Ext w.heap.size [] w t->(Pure P 55 #[vW C b d,(.func (.func 56) #[] #[])] t (Rb fun H u=>(Bb H (R (.tuple #[(vU ⟨#[]⟩),I 8]) u) (Pure P 57 #[vW D e f,(.func (.func 58) #[] #[])] u (Rb fun J g=>(Bb J (R (.tuple #[(vU ⟨#[]⟩),I 8]) g) (Br (p<1) (R (.tuple #[(vU ⟨#[]⟩),I 2]) g) (Br (p>1073741824) (R (.tuple #[(vU ⟨#[]⟩),I 2]) g) (Br (q<0) (R (.tuple #[(vU ⟨#[]⟩),I 2]) g) (Br (q>1073741824) (R (.tuple #[(vU ⟨#[]⟩),I 2]) g) (Br (r<1) (R (.tuple #[(vU ⟨#[]⟩),I 2]) g) (Br (r>99) (R (.tuple #[(vU ⟨#[]⟩),I 2]) g) (Pure P 59 #[vW A a c,(.func (.func 60) #[] #[])] g (Rb fun K v=>(Bb K (R (.tuple #[(vU ⟨#[]⟩),I 2]) v) (Pure P 55 #[vW C b d,(.func (.func 61) #[] #[])] v (Rb fun L x=>(Bb L (R (.tuple #[(vU ⟨#[]⟩),I 1]) x) (ae P (Instr.alloc 88 true (.tuple #[])) w.heap.size [33] x fun M N=>∃(l:Addr),M= .pointer (some l)/\(∀y,Ext w.heap.size [] N y->(Pure P 63 #[I p] y (Rt fun i O=>(Pure P 63 #[I q] O (Rt fun j Q=>(ByteArray.size i+ByteArray.size j<=9223372036854775807/\(Pure P 63 #[I r] Q (Rt fun m S=>(ByteArray.size (i++j)+ByteArray.size m<=9223372036854775807/\(Pure P 63 #[(I (a:Int))] S (Rt fun z E=>(ByteArray.size ((i++j)++m)+ByteArray.size z<=9223372036854775807/\(ba P 28 #[(.pointer (some l)),(vU (((i++j)++m)++z))] w.heap.size E fun T G=>qk [33] E G/\∃(U:Int)(V:Value),T= .tuple #[I U,V]/\(bu.Mx l A a c (a:Int) (0:Int) p q r A a c C b d D e f w.heap.size G R)))))))))))))))))))))))))))))))))))))):
  Pure P 27 #[.agg #[I p,I q,I r,vW A a c,vW C b d,vW D e f]] w R:=
 pr bu.cx func27 h

def dH.L3(a:Addr)(b:O)(c d:Nat)(e f:Int):=Lt 29 f29 3 [(3,.v (.pointer (some a))),vS 6 b c d,vI 7 e,vI 8 f] []
def dH.cx:Pm:=([((true,3),[3,6,7,8],[])],[(1,0,2),(5,5,6),(7,0,6)])
theorem dH.L3.step{c:Addr}
  (h:(Br (p<q) (Ix p a A fun l=>(∃d,aa w (l.add ((p).toNat*1)) [vU d]/\(Pure P 63 #[(I (ByteArray.size d:Int))] w (Rt fun e f=>(ByteArray.size e+ByteArray.size d<=9223372036854775807/\(ba P 28 #[(.pointer (some c)),(vU (e++d))] B f fun m g=>qk [] f g/\∃(n:Int)(o:Value),m= .tuple #[I n,o]/\(aN .i64 (p+1)/\(dH.L3 c A a b q (p+1) B g R)))))))) (ba P 30 #[(.pointer (some c))] B w fun r i=>qk [] w i/\∃j,r=vU j/\(R (vU j) i)))):
  dH.L3 c A a b q p B w R:=
 lr dH.cx func29 h
theorem dH.vc
  (h:(ae P (Instr.alloc 88 true (.tuple #[])) w.heap.size [] w fun d e=>∃(c:Addr),d= .pointer (some c)/\(dH.L3 c A a b (a:Int) (0:Int) w.heap.size e R))):
  Pure P 29 #[vW A a b] w R:=
 pr dH.cx func29 h

def iz.cx:Pm:=([],[(1,1,6)])
theorem iz.sV{a:Addr}(hB:B<=w.heap.size)
  (h:(ba P 66 #[(.pointer (some a))] B w fun s b=>qk [] w b/\∃c,s=I c/\(∃n,aa b (a.add 1) [.bool n]/\(Bb n (∃(e:List Value)(f:Nat),B<=(a.add 1).block/\(a.add 1).spot=none/\b.heap[(a.add 1).block]? =some (.cells e.toArray f (0,0))/\(a.add 1).off+1<=e.length/\hasType f []=false/\∀o,aG b o (a.add 1).block f (setCells e (a.add 1).off [.bool true])->(R (vU ⟨#[]⟩) o)) (∃p,aa b (a.add 0) [vU p]/\(Br (c>(ByteArray.size p:Int)) (∃(g:List Value)(i:Nat),B<=(a.add 1).block/\(a.add 1).spot=none/\b.heap[(a.add 1).block]? =some (.cells g.toArray i (0,0))/\(a.add 1).off+1<=g.length/\hasType i []=false/\∀q,aG b q (a.add 1).block i (setCells g (a.add 1).off [.bool true])->(R (vU ⟨#[]⟩) q)) (∃j,aa b (a.add 0) [vU j]/\((0<=c/\c<=(ByteArray.size j:Int))/\(∃d,aa b (a.add 0) [vU d]/\((0<=c/\c<=(ByteArray.size d:Int))/\(∃(l:List Value)(m:Nat),B<=(a.add 0).block/\(a.add 0).spot=none/\b.heap[(a.add 0).block]? =some (.cells l.toArray m (0,0))/\(a.add 0).off+1<=l.length/\hasType m []=false/\∀r,aG b r (a.add 0).block m (setCells l (a.add 0).off [(vU (ByteArray.extract d (c).toNat (ByteArray.size d)))])->(R (vU (ByteArray.extract j 0 (c).toNat)) r)))))))))))):
  ba P 31 #[(.pointer (some a))] B w R:=
 pb iz.cx func31 h hB

def aL.L4(a:ByteArray)(b:Addr)(c d e f g:Int)(i:O)(j l:Nat)(m:O)(n o:Nat)(p:O)(q r:Nat)(s t u:Int)(v:O)(x y:Nat)(z:O)(A C:Nat)(D:O)(E G:Nat):=Lt 32 f32 4 [vT 0 a,vL 2,(4,.v (.pointer (some b))),vL 5,vI 20 c,vI 21 d] [⟨2,false,33,[(I e),(I f),(I g),(vW i j l),(vW m n o),(vW p q r)]⟩,⟨5,false,33,[(I s),(I t),(I u),(vW v x y),(vW z A C),(vW D E G)]⟩]
def aL.Bf(a:ByteArray)(b:Addr)(c d e f g:Int)(i:O)(j l:Nat)(m:O)(n o:Nat)(p:O)(q r:Nat)(s t u:Int)(v:O)(x y:Nat)(z:O)(A C:Nat)(D:O)(E G:Nat):=Lt 32 f32 11 [vT 0 a,vL 2,(4,.v (.pointer (some b))),vL 5,vI 40 c,vI 41 d] [⟨2,false,33,[(I e),(I f),(I g),(vW i j l),(vW m n o),(vW p q r)]⟩,⟨5,false,33,[(I s),(I t),(I u),(vW v x y),(vW z A C),(vW D E G)]⟩]
def aL.UY(a:ByteArray)(b:Addr)(c d e f g:Int)(i:O)(j l:Nat)(m:O)(n o:Nat)(p:O)(q r:Nat)(s t u:Int)(v:O)(x y:Nat)(z:O)(A C:Nat)(D:O)(E G:Nat):=Lt 32 f32 15 [vT 0 a,vL 2,(4,.v (.pointer (some b))),vL 5,vI 52 c,vI 53 d] [⟨2,false,33,[(I e),(I f),(I g),(vW i j l),(vW m n o),(vW p q r)]⟩,⟨5,false,33,[(I s),(I t),(I u),(vW v x y),(vW z A C),(vW D E G)]⟩]
def aL.cx:Pm:=([((true,4),[0,2,4,5,20,21],[2,5]),((true,11),[0,2,4,5,40,41],[2,5]),((true,15),[0,2,4,5,52,53],[2,5])],[(1,3,5),(2,1,6),(2,3,6),(2,5,6),(3,1,6),(5,1,6),(8,3,1),(8,4,2),(8,5,2),(10,1,6),(12,3,6),(12,4,2),(12,5,2),(14,1,6),(16,3,6),(16,4,2),(16,5,2)])
theorem aL.L4.step{o:Addr}
  (h:(Br (p<q) (ba P 66 #[(.pointer (some o))] B w fun O z=>qk [33,33] w z/\∃y,O=I y/\(Br (((bits .and .i64 y (1:Int)):Int)=1) (aN .i64 (-y)/\(aN .i64 ((-y) - (1:Int))/\((2:Int)≠0/\(ae P (Instr.buildSlice 29 1 #[(0,(I (IntKind.wrap .i64 (Int.tdiv ((-y) - (1:Int)) (2:Int)))))]) B [33,33] z (Rs fun Q S T U=>(ae P (Builtin.append_ #[29,29] 29 #[vW E g i,vW Q S T]) B [33,33] U (Rs fun V X Y Z=>(aN .i64 (p+1)/\(∀J,Ext B [33] Z J->(aL.L4 L o q (p+1) r s t A a b C c d D e f u v x V X Y G j l H m n B J R)))))))))) ((2:Int)≠0/\(ae P (Instr.buildSlice 29 1 #[(0,(I (IntKind.wrap .i64 (Int.tdiv y (2:Int)))))]) B [33,33] z (Rs fun d0 d1 d2 d3=>(ae P (Builtin.append_ #[29,29] 29 #[vW E g i,vW d0 d1 d2]) B [33,33] d3 (Rs fun d4 d5 d6 d7=>(aN .i64 (p+1)/\(∀K,Ext B [33] d7 K->(aL.L4 L o q (p+1) r s t A a b C c d D e f u v x d4 d5 d6 G j l H m n B K R)))))))))) (ba P 67 #[(.pointer (some o)),I 64] B w fun d8 M=>qk [33,33] w M/\∃N,d8=I N/\(aL.Bf L o N (0:Int) r s t A a b C c d D e f u v x E g i G j l H m n B M R)))):
  aL.L4 L o q p r s t A a b C c d D e f u v x E g i G j l H m n B w R:=
 lr aL.cx func32 h
theorem aL.Bf.step{o:Addr}
  (h:(Br (p<q) ((∀y,Ext B [] w y->(ba P 31 #[(.pointer (some o))] B y fun V M=>qk [33,33] y M/\∃N,V=vU N/\(ae P (Instr.buildSlice 30 1 #[(0,(vU N))]) B [33,33] M (Rs fun X Y Z d0=>(ae P (Builtin.append_ #[30,30] 30 #[vW G j l,vW X Y Z]) B [33,33] d0 (Rs fun d1 d2 d3 d4=>(aN .i64 (p+1)/\(∀O,Ext B [33] d4 O->(aL.Bf L o q (p+1) r s t A a b C c d D e f u v x E g i d1 d2 d3 H m n B O R)))))))))/\(∀z,Ext B [] w z->(ba P 31 #[(.pointer (some o))] B z fun d5 J=>qk [33,33] z J/\∃K,d5=vU K/\((ae P (Instr.buildSlice 30 1 #[(0,(vU K))]) B [33,33] J (Rs fun d6 d7 d8 d9=>(ae P (Builtin.append_ #[30,30] 30 #[vW G j l,vW d6 d7 d8]) B [33,33] d9 (Rs fun k F W e3=>(aN .i64 (p+1)/\(∀Q,Ext B [33] e3 Q->(aL.Bf L o q (p+1) r s t A a b C c d D e f u v x E g i k F W H m n B Q R)))))))/\(ae P (Instr.buildSlice 30 1 #[(0,(vU K))]) B [33,33] J (Rs fun e4 e5 e6 e7=>(ae P (Builtin.append_ #[30,30] 30 #[vW G j l,vW e4 e5 e6]) B [33,33] e7 (Rs fun e8 e9 g0 g1=>(aN .i64 (p+1)/\(∀S,Ext B [33] g1 S->(aL.Bf L o q (p+1) r s t A a b C c d D e f u v x E g i e8 e9 g0 H m n B S R))))))))))) (ba P 67 #[(.pointer (some o)),I 16] B w fun g2 T=>qk [33,33] w T/\∃U,g2=I U/\(aL.UY L o U (0:Int) r s t A a b C c d D e f u v x E g i G j l H m n B T R)))):
  aL.Bf L o q p r s t A a b C c d D e f u v x E g i G j l H m n B w R:=
 lr aL.cx func32 h
theorem aL.UY.step{o:Addr}
  (h:(Br (p<t) ((∀z,Ext B [] w z->(ba P 31 #[(.pointer (some o))] B z fun d2 N=>qk [33,33] z N/\∃O,d2=vU O/\(ae P (Instr.buildSlice 31 1 #[(0,(vU O))]) B [33,33] N (Rs fun d3 d4 d5 d6=>(ae P (Builtin.append_ #[31,31] 31 #[vW D e f,vW d3 d4 d5]) B [33,33] d6 (Rs fun d7 d8 d9 k=>(aN .i64 (p+1)/\(∀Q,Ext B [33] k Q->(aL.UY L o t (p+1) u v x E g i G j l H m n q r s A a b C c d d7 d8 d9 B Q R)))))))))/\(∀J,Ext B [] w J->(ba P 31 #[(.pointer (some o))] B J fun F K=>qk [33,33] J K/\∃M,F=vU M/\((ae P (Instr.buildSlice 31 1 #[(0,(vU M))]) B [33,33] K (Rs fun W e3 e4 e5=>(ae P (Builtin.append_ #[31,31] 31 #[vW D e f,vW W e3 e4]) B [33,33] e5 (Rs fun e6 e7 e8 e9=>(aN .i64 (p+1)/\(∀S,Ext B [33] e9 S->(aL.UY L o t (p+1) u v x E g i G j l H m n q r s A a b C c d e6 e7 e8 B S R)))))))/\(ae P (Instr.buildSlice 31 1 #[(0,(vU M))]) B [33,33] K (Rs fun g0 g1 g2 g3=>(ae P (Builtin.append_ #[31,31] 31 #[vW D e f,vW g0 g1 g2]) B [33,33] g3 (Rs fun g4 g5 g6 g7=>(aN .i64 (p+1)/\(∀T,Ext B [33] g7 T->(aL.UY L o t (p+1) u v x E g i G j l H m n q r s A a b C c d g4 g5 g6 B T R))))))))))) (Pure P 27 #[.agg #[I q,I r,I s,vW A a b,vW C c d,vW D e f]] w (qO fun g8 g9 y=>(∃U,aa y (o.add 1) [.bool U]/\(Bb U (∀V,Ext B [33] y V->(R (.tuple #[.agg #[I 0,I 0,I 0,vN,vN,vN],I 13]) V)) (∃X,aa y (o.add 0) [vU X]/\(Br (X≠(⟨#[]⟩:ByteArray)) (∀Y,Ext B [33] y Y->(R (.tuple #[.agg #[I 0,I 0,I 0,vN,vN,vN],I 13]) Y)) (Br (g9≠0) (∀Z,Ext B [33] y Z->(R (.tuple #[.agg #[I 0,I 0,I 0,vN,vN,vN],I 13]) Z)) (Br (g8≠L) (∀d0,Ext B [33] y d0->(R (.tuple #[.agg #[I 0,I 0,I 0,vN,vN,vN],I 13]) d0)) (∀d1,Ext B [33] y d1->(R (.tuple #[.agg #[I q,I r,I s,vW A a b,vW C c d,vW D e f],I 0]) d1)))))))))))):
  aL.UY L o t p u v x E g i G j l H m n q r s A a b C c d D e f B w R:=
 lr aL.cx func32 h
theorem aL.vc
  (h:(∀b,Ext w.heap.size [] w b->(∀a:Nat,w.heap.size<=a->b.heap[a]? =some (.cells [vU L,.bool false].toArray 98 (0,0))->(ba P 66 #[(.pointer (some (⟨a,0,none⟩:Addr)))] w.heap.size b fun n c=>qk [33] b c/\∃f,n=I f/\(ba P 66 #[(.pointer (some (⟨a,0,none⟩:Addr)))] w.heap.size c fun o d=>qk [33] c d/\∃g,o=I g/\(ba P 66 #[(.pointer (some (⟨a,0,none⟩:Addr)))] w.heap.size d fun p i=>qk [33] d i/\∃j,p=I j/\(∀e,Ext w.heap.size [] i e->(ba P 67 #[(.pointer (some (⟨a,0,none⟩:Addr))),I 64] w.heap.size e fun q l=>qk [33,33] e l/\∃m,q=I m/\(aL.L4 L (⟨a,0,none⟩:Addr) m (0:Int) (0:Int) (0:Int) (0:Int) none 0 0 none 0 0 none 0 0 f g j none 0 0 none 0 0 none 0 0 w.heap.size l R))))))))):
  Pure P 32 #[vU L] w R:=
 pr aL.cx func32 h

def bf.L4(a:ByteArray)(b:Int)(c:O)(d e:Nat)(f g i j l m n o:Int):=Lt 54 f54 4 [vT 0 a,vL 3,(4,.v (.int .u64 b)),vS 5 c d e] [⟨3,false,176,[(.int .u32 f),(.int .u32 g),(.int .u32 i),(.int .u32 j),(.int .u32 l),(.int .u32 m),(.int .u32 n),(.int .u32 o)]⟩]
def bf.L7(a:ByteArray)(b:Int)(c:O)(d e:Nat)(f g i j l m n o p:Int):=Lt 54 f54 7 [vT 0 a,vL 3,(4,.v (.int .u64 b)),vS 5 c d e,vI 6 f] [⟨3,false,176,[(.int .u32 g),(.int .u32 i),(.int .u32 j),(.int .u32 l),(.int .u32 m),(.int .u32 n),(.int .u32 o),(.int .u32 p)]⟩]
def bf.Bf(a:ByteArray)(b c d e f g i j:Int):=Lt 54 f54 11 [vT 0 a,vL 3] [⟨3,false,176,[(.int .u32 b),(.int .u32 c),(.int .u32 d),(.int .u32 e),(.int .u32 f),(.int .u32 g),(.int .u32 i),(.int .u32 j)]⟩]
def bf.uZ(a:O)(b c:Nat)(d e f g i j l m n:Int):=Lt 54 f54 16 [vS 7 a b c,(49,.v (.agg #[(.int .u32 d),(.int .u32 e),(.int .u32 f),(.int .u32 g),(.int .u32 i),(.int .u32 j),(.int .u32 l),(.int .u32 m)])),vI 50 n] []
def bf.cx:Pm:=([((true,4),[0,3,4,5],[3]),((true,7),[0,3,4,5,6],[3]),((true,11),[0,3],[3]),((true,16),[7,49,50],[])],[(3,0,2),(5,1,2),(5,2,2),(9,3,0),(9,4,1),(9,5,2),(9,6,2),(10,2,2),(17,0,2),(18,3,1),(18,6,1),(18,9,1),(18,11,1),(18,12,2),(18,13,2),(20,1,2)])
theorem bf.L4.step{k:ByteArray}{y I T U V W X Y Z:Int}{UG:O}{F z B:Nat}{w:World}{R:Kt}
  (h:(aN .i64 ((ByteArray.size k:Int)+(F:Int))/\((0<=((ByteArray.size k:Int)+(F:Int))/\0<(64:Int))/\(Br (((((ByteArray.size k:Int)+(F:Int)) % (64:Int)):Int)≠(56:Int)) (ae P (Instr.buildSlice 86 1 #[(0,(.int .u8 (0:Int)))]) B [176] w (Rs fun A5 n5 c5 w7=>(ae P (Builtin.append_ #[86,86] 86 #[(.slice UG F z),(.slice A5 n5 c5)]) B [176] w7 (Rs fun A8 n8 c8 kg=>(bf.L4 k y A8 n8 c8 I T U V W X Y Z B kg R))))) (bf.L7 k y UG F z (56:Int) I T U V W X Y Z B w R))))):
  bf.L4 k y UG F z I T U V W X Y Z B w R:=
 lr bf.cx Tryz.func54 h
theorem bf.L7.step
  (h:(Br (p≥(0:Int)) (qP .u64 p/\(ae P (Instr.buildSlice 86 1 #[(0,(.int .u8 (IntKind.wrap .u8 ((ny q p)))))]) B [176] w (Rs fun d e f g=>(ae P (Builtin.append_ #[86,86] 86 #[vW A a b,vW d e f]) B [176] g (Rs fun i j l m=>(aN .i64 (p - (8:Int))/\(bf.L7 L q i j l (p - (8:Int)) r s t u v x p0 p1 B m R))))))) (ae P (convert 86 9 (vW A a b)) B [176] w (Rt fun c n=>(ByteArray.size L+ByteArray.size c<=9223372036854775807/\(bf.Bf (L++c) r s t u v x p0 p1 B n R)))))):
  bf.L7 L q A a b p r s t u v x p0 p1 B w R:=
 lr bf.cx func54 h
theorem bf.Bf.step
  (h:(Br (L≠(⟨#[]⟩:ByteArray)) ((0<=(64:Int)/\(64:Int)<=(ByteArray.size L:Int))/\(∀a,Ext B [] w a->(Pure P 97 #[.agg #[.int .u32 p,.int .u32 q,.int .u32 r,.int .u32 s,.int .u32 t,.int .u32 u,.int .u32 v,.int .u32 x],(vU (ByteArray.extract L 0 ((64:Int)).toNat))] a fun m n=>∃b c d e f g i j,m= .agg #[.int .u32 b,.int .u32 c,.int .u32 d,.int .u32 e,.int .u32 f,.int .u32 g,.int .u32 i,.int .u32 j]/\((0<=(64:Int)/\(64:Int)<=(ByteArray.size L:Int))/\(∀l,Ext B [176] n l->(bf.Bf (ByteArray.extract L ((64:Int)).toNat (ByteArray.size L)) b c d e f g i j B l R)))))) (bf.uZ none 0 0 p q r s t u v x (0:Int) B w R))):
  bf.Bf L p q r s t u v x B w R:=
 lr bf.cx func54 h
theorem bf.uZ.step
  (h:(Br (p<8) (ae P (Instr.index 176 (.agg #[.int .u32 q,.int .u32 r,.int .u32 s,.int .u32 t,.int .u32 u,.int .u32 v,.int .u32 x,.int .u32 p0]) (I p)) B [] w fun d e=>∃c,d= .int .u32 c/\(qP .u32 (24:Int)/\(qP .u32 (16:Int)/\(qP .u32 (8:Int)/\(ae P (Instr.buildSlice 86 4 #[(0,(.int .u8 (IntKind.wrap .u8 ((ny c (24:Int)))))),(1,(.int .u8 (IntKind.wrap .u8 ((ny c (16:Int)))))),(2,(.int .u8 (IntKind.wrap .u8 ((ny c (8:Int)))))),(3,(.int .u8 (IntKind.wrap .u8 (c))))]) B [] e (Rs fun f g i j=>(ae P (Builtin.append_ #[86,86] 86 #[vW A a b,vW f g i]) B [] j (Rs fun l m n o=>(aN .i64 (p+1)/\(bf.uZ l m n q r s t u v x p0 (p+1) B o R)))))))))) (ae P (convert 86 9 (vW A a b)) B [] w (Rt fun y z=>(R (vU y) z))))):
  bf.uZ A a b q r s t u v x p0 p B w R:=
 lr bf.cx func54 h
theorem bf.vc
  (h:(aN .u64 ((ByteArray.size L:Int))/\(aN .u64 (((ByteArray.size L:Int))*(8:Int))/\(∀a,Ext w.heap.size [] w a->(ae P (Instr.buildSlice 86 1 #[(0,(.int .u8 (128:Int)))]) w.heap.size [176] a (Rs fun b c d e=>(bf.L4 L (((ByteArray.size L:Int))*(8:Int)) b c d (1779033703:Int) (3144134277:Int) (1013904242:Int) (2773480762:Int) (1359893119:Int) (2600822924:Int) (528734635:Int) (1541459225:Int) w.heap.size e R))))))):
  Pure P 54 #[vU L] w R:=
 pr bf.cx func54 h

def oh.cx:Pm:=([],[])
theorem oh.vc
  (h:(R (.bool (decide (((ByteArray.size L:Int):Int)>200))) w)):
  Pure P 56 #[vU L] w R:=
 pr oh.cx func56 h

def ot.cx:Pm:=([],[])
theorem ot.vc
  (h:(R (.bool (decide (((ByteArray.size L:Int):Int)>4096))) w)):
  Pure P 58 #[vU L] w R:=
 pr ot.cx func58 h

def ou.cx:Pm:=([],[])
theorem ou.vc
  (h:(Br (p<(-1099511627776:Int)) (R (.bool true) w) (R (.bool (decide (p>1099511627776))) w))):
  Pure P 60 #[I p] w R:=
 pr ou.cx func60 h

def oA.cx:Pm:=([],[])
theorem oA.vc
  (h:(Pure P 62 #[vU L] w (Rb fun a b=>(R (.bool (decide (a=false))) b)))):
  Pure P 61 #[vU L] w R:=
 pr oA.cx func61 h

def cj.L2(a:Int)(b:O)(c d:Nat):=Lt 63 f63 2 [vI 0 a,vS 3 b c d] []
def cj.cx:Pm:=([((true,2),[0,3],[])],[(3,2,1),(3,4,2),(3,5,2),(5,2,1),(5,3,2),(5,4,2),(5,5,2)])
theorem cj.L2.step
  (h:(Br (p≥(128:Int)) (ae P (Instr.buildSlice 86 1 #[(0,(.int .u8 (bits .or .u8 (IntKind.wrap .u8 (p)) (128:Int))))]) B [] w (Rs fun c d e f=>(ae P (Builtin.append_ #[86,86] 86 #[vW A a b,vW c d e]) B [] f (Rs fun g i j l=>(qP .i64 7/\(cj.L2 (ny p (7:Int)) g i j B l R)))))) (ae P (Instr.buildSlice 86 1 #[(0,(.int .u8 (IntKind.wrap .u8 (p))))]) B [] w (Rs fun m n o q=>(ae P (Builtin.append_ #[86,86] 86 #[vW A a b,vW m n o]) B [] q (Rs fun r s t u=>(ae P (convert 86 9 (vW r s t)) B [] u (Rt fun v x=>(R (vU v) x))))))))):
  cj.L2 p A a b B w R:=
 lr cj.cx func63 h
theorem cj.vc
  (h:(cj.L2 p none 0 0 w.heap.size w R)):
  Pure P 63 #[I p] w R:=
 pr cj.cx func63 h

def lj.cx:Pm:=([],[])
theorem lj.vc
  (h:(Br (p<0) (aN .i64 ((-2:Int)*p)/\(aN .i64 (((-2:Int)*p) - (1:Int))/\(Pure P 63 #[(I (((-2:Int)*p) - (1:Int)))] w (Rt fun a b=>(R (vU a) b))))) (aN .i64 ((2:Int)*p)/\(Pure P 63 #[(I ((2:Int)*p))] w (Rt fun c d=>(R (vU c) d)))))):
  Pure P 64 #[I p] w R:=
 pr lj.cx func64 h

def bO.L3(a:Addr)(b c:Int):=Lt 66 f66 3 [(0,.v (.pointer (some a))),vI 3 b,vI 4 c] []
def bO.cx:Pm:=([((true,3),[0,3,4],[])],[])
theorem bO.L3.step{a:Addr}
  (h:(Br (p<63) (∃u,aa w (a.add 0) [vU u]/\(Br (u≠(⟨#[]⟩:ByteArray)) (∃b,aa w (a.add 0) [vU b]/\((0<=(0:Int)/\(0:Int)<(ByteArray.size b:Int))/\(∃d,aa w (a.add 0) [vU d]/\((0<=(1:Int)/\(1:Int)<=(ByteArray.size d:Int))/\(∃(e:List Value)(f:Nat),B<=(a.add 0).block/\(a.add 0).spot=none/\w.heap[(a.add 0).block]? =some (.cells e.toArray f (0,0))/\(a.add 0).off+1<=e.length/\hasType f []=false/\∀c,aG w c (a.add 0).block f (setCells e (a.add 0).off [(vU (ByteArray.extract d ((1:Int)).toNat (ByteArray.size d)))])->(aN .i64 ((bits .and .u8 (bt b (0:Int)) (127:Int)))/\(qP .i64 p/\(Br (((bt b (0:Int)):Int)<128) (Br (((bt b (0:Int)):Int)=0) (Br (p>0) (∃(g:List Value)(i:Nat),B<=(a.add 1).block/\(a.add 1).spot=none/\c.heap[(a.add 1).block]? =some (.cells g.toArray i (0,0))/\(a.add 1).off+1<=g.length/\hasType i []=false/\∀v,aG c v (a.add 1).block i (setCells g (a.add 1).off [.bool true])->(R (I 0) v)) (Br (((bits .or .i64 q (qd .i64 ((bits .and .u8 (bt b (0:Int)) (127:Int))) p)):Int)<0) (∃(j:List Value)(l:Nat),B<=(a.add 1).block/\(a.add 1).spot=none/\c.heap[(a.add 1).block]? =some (.cells j.toArray l (0,0))/\(a.add 1).off+1<=j.length/\hasType l []=false/\∀x,aG c x (a.add 1).block l (setCells j (a.add 1).off [.bool true])->(R (I 0) x)) (R (I (bits .or .i64 q (qd .i64 ((bits .and .u8 (bt b (0:Int)) (127:Int))) p))) c))) (Br (((bits .or .i64 q (qd .i64 ((bits .and .u8 (bt b (0:Int)) (127:Int))) p)):Int)<0) (∃(m:List Value)(n:Nat),B<=(a.add 1).block/\(a.add 1).spot=none/\c.heap[(a.add 1).block]? =some (.cells m.toArray n (0,0))/\(a.add 1).off+1<=m.length/\hasType n []=false/\∀y,aG c y (a.add 1).block n (setCells m (a.add 1).off [.bool true])->(R (I 0) y)) (R (I (bits .or .i64 q (qd .i64 ((bits .and .u8 (bt b (0:Int)) (127:Int))) p))) c))) (aN .i64 (p+7)/\(bO.L3 a (bits .or .i64 q (qd .i64 ((bits .and .u8 (bt b (0:Int)) (127:Int))) p)) (p+7) B c R)))))))))) (∃(o:List Value)(r:Nat),B<=(a.add 1).block/\(a.add 1).spot=none/\w.heap[(a.add 1).block]? =some (.cells o.toArray r (0,0))/\(a.add 1).off+1<=o.length/\hasType r []=false/\∀z,aG w z (a.add 1).block r (setCells o (a.add 1).off [.bool true])->(R (I 0) z)))) (∃(s:List Value)(t:Nat),B<=(a.add 1).block/\(a.add 1).spot=none/\w.heap[(a.add 1).block]? =some (.cells s.toArray t (0,0))/\(a.add 1).off+1<=s.length/\hasType t []=false/\∀A,aG w A (a.add 1).block t (setCells s (a.add 1).off [.bool true])->(R (I 0) A)))):
  bO.L3 a q p B w R:=
 lr bO.cx func66 h
theorem bO.sV{a:Addr}(hB:B<=w.heap.size)
  (h:(bO.L3 a (0:Int) (0:Int) B w R)):
  ba P 66 #[(.pointer (some a))] B w R:=
 pb bO.cx func66 h hB

def kQ.cx:Pm:=([],[(1,1,6)])
theorem kQ.sV{a:Addr}(hB:B<=w.heap.size)
  (h:(ba P 66 #[(.pointer (some a))] B w fun g b=>qk [] w b/\∃c,g=I c/\(Br (c>p) (∃(d:List Value)(e:Nat),B<=(a.add 1).block/\(a.add 1).spot=none/\b.heap[(a.add 1).block]? =some (.cells d.toArray e (0,0))/\(a.add 1).off+1<=d.length/\hasType e []=false/\∀f,aG b f (a.add 1).block e (setCells d (a.add 1).off [.bool true])->(R (I 0) f)) (R (I c) b)))):
  ba P 67 #[(.pointer (some a)),I p] B w R:=
 pb kQ.cx func67 h hB

def aC.L4(a:ByteArray)(b:Addr)(c:Addr)(d:Addr)(e:Addr)(f:Int):=Lt 97 f97 4 [vT 1 a,(2,.v (.pointer (some b))),(4,.v (.pointer (some c))),(5,.v (.pointer (some d))),(6,.v (.pointer (some e))),vI 22 f] []
def aC.uC(a:Addr)(b:Addr)(c:Addr)(d:Addr)(e:Addr)(f:Int):=Lt 97 f97 13 [(2,.v (.pointer (some a))),(4,.v (.pointer (some b))),(5,.v (.pointer (some c))),(6,.v (.pointer (some d))),(10,.v (.pointer (some e))),vI 97 f] []
def aC.B8(a:Addr)(b:Addr)(c:Addr)(d:Int):=Lt 97 f97 21 [(2,.v (.pointer (some a))),(4,.v (.pointer (some b))),(10,.v (.pointer (some c))),vI 175 d] []
def aC.cx:Pm:=([((true,4),[1,2,4,5,6,22],[]),((true,13),[2,4,5,6,10,97],[]),((true,21),[2,4,10,175],[])],[(0,0,2),(0,1,2),(1,1,2),(2,0,2),(9,13,1),(9,22,1),(9,27,1),(9,9999,3),(11,1,2),(16,10,1),(16,19,1),(16,23,1),(16,27,1),(16,9999,3),(17,19,1),(18,2,1),(18,9,1),(23,6,1)])
theorem aC.L4.step{c d e a:Addr}
  (h:(Br (p<64) (Br (p<16) (aN .i64 ((4:Int)*p)/\((0<=((4:Int)*p)/\((4:Int)*p)<(ByteArray.size L:Int))/\(aN .u32 ((bt L ((4:Int)*p)))/\(qP .u32 (24:Int)/\(aN .i64 ((4:Int)*p)/\(aN .i64 (((4:Int)*p)+1)/\((0<=(((4:Int)*p)+1)/\(((4:Int)*p)+1)<(ByteArray.size L:Int))/\(aN .u32 ((bt L (((4:Int)*p)+1)))/\(qP .u32 (16:Int)/\(aN .i64 ((4:Int)*p)/\(aN .i64 (((4:Int)*p)+2)/\((0<=(((4:Int)*p)+2)/\(((4:Int)*p)+2)<(ByteArray.size L:Int))/\(aN .u32 ((bt L (((4:Int)*p)+2)))/\(qP .u32 (8:Int)/\(aN .i64 ((4:Int)*p)/\(aN .i64 (((4:Int)*p)+3)/\((0<=(((4:Int)*p)+3)/\(((4:Int)*p)+3)<(ByteArray.size L:Int))/\(aN .u32 ((bt L (((4:Int)*p)+3)))/\((0<=p/\p<64)/\(∀j,Ext B [] w j->(∃(l:List Value)(m:Nat),B<=(a.add ((p).toNat*1)).block/\(a.add ((p).toNat*1)).spot=none/\j.heap[(a.add ((p).toNat*1)).block]? =some (.cells l.toArray m (0,0))/\(a.add ((p).toNat*1)).off+1<=l.length/\hasType m []=false/\∀s,aG j s (a.add ((p).toNat*1)).block m (setCells l (a.add ((p).toNat*1)).off [(.int .u32 (bits .or .u32 (bits .or .u32 (bits .or .u32 (qd .u32 ((bt L ((4:Int)*p))) (24:Int)) (qd .u32 ((bt L (((4:Int)*p)+1))) (16:Int))) (qd .u32 ((bt L (((4:Int)*p)+2))) (8:Int))) ((bt L (((4:Int)*p)+3)))))])->(aN .i64 (p+1)/\(aC.L4 L c d e a (p+1) B s R))))))))))))))))))))))) (aN .i64 (p - (15:Int))/\((0<=(p - (15:Int))/\(p - (15:Int))<64)/\(∃f,aa w (a.add (((p - (15:Int))).toNat*1)) [.int .u32 f]/\(aN .i64 (p - (2:Int))/\((0<=(p - (2:Int))/\(p - (2:Int))<64)/\(∃g,aa w (a.add (((p - (2:Int))).toNat*1)) [.int .u32 g]/\(∀i,Ext B [] w i->(qP .u32 (10:Int)/\(aN .i64 (p - (7:Int))/\((0<=(p - (7:Int))/\(p - (7:Int))<64)/\(∃t,aa i (a.add (((p - (7:Int))).toNat*1)) [.int .u32 t]/\(qP .u32 (3:Int)/\(aN .i64 (p - (16:Int))/\((0<=(p - (16:Int))/\(p - (16:Int))<64)/\(∃u,aa i (a.add (((p - (16:Int))).toNat*1)) [.int .u32 u]/\(∀v,Ext B [] i v->(Pure P 121 #[.int .u32 g,I 17] v fun T U=>∃x,T= .int .u32 x/\(Pure P 121 #[.int .u32 g,I 19] U fun V X=>∃y,V= .int .u32 y/\(Pure P 121 #[.int .u32 f,I 7] X fun Y Z=>∃z,Y= .int .u32 z/\(Pure P 121 #[.int .u32 f,I 18] Z fun d0 A=>∃C,d0= .int .u32 C/\((0<=p/\p<64)/\(∃(n:List Value)(o:Nat),B<=(a.add ((p).toNat*1)).block/\(a.add ((p).toNat*1)).spot=none/\A.heap[(a.add ((p).toNat*1)).block]? =some (.cells n.toArray o (0,0))/\(a.add ((p).toNat*1)).off+1<=n.length/\hasType o []=false/\∀D,aG A D (a.add ((p).toNat*1)).block o (setCells n (a.add ((p).toNat*1)).off [(.int .u32 (IntKind.wrap .u32 ((IntKind.wrap .u32 ((IntKind.wrap .u32 ((bits .xor .u32 (bits .xor .u32 x y) (ny g (10:Int)))+t))+(bits .xor .u32 (bits .xor .u32 z C) (ny f (3:Int)))))+u)))])->(aN .i64 (p+1)/\(aC.L4 L c d e a (p+1) B D R))))))))))))))))))))))))) (∃E G H J K M N O,aa w c [.int .u32 E,.int .u32 G,.int .u32 H,.int .u32 J,.int .u32 K,.int .u32 M,.int .u32 N,.int .u32 O]/\(ae P (Instr.alloc 176 true (.tuple #[])) B [] w fun d1 Q=>∃(b:Addr),d1= .pointer (some b)/\(∃(q:List Value)(r:Nat),B<=b.block/\b.spot=none/\Q.heap[b.block]? =some (.cells q.toArray r (0,0))/\b.off+8<=q.length/\hasType r []=false/\∀S,aG Q S b.block r (setCells q b.off [.int .u32 E,.int .u32 G,.int .u32 H,.int .u32 J,.int .u32 K,.int .u32 M,.int .u32 N,.int .u32 O])->(aC.uC c d e a b (0:Int) B S R)))))):
  aC.L4 L c d e a p B w R:=
 lr aC.cx func97 h
theorem aC.uC.step{j l m n a:Addr}
  (h:(Br (p<64) ((0<=(0:Int)/\(0:Int)<8)/\(∃c,aa w (a.add (((0:Int)).toNat*1)) [.int .u32 c]/\((0<=(1:Int)/\(1:Int)<8)/\(∃e,aa w (a.add (((1:Int)).toNat*1)) [.int .u32 e]/\((0<=(2:Int)/\(2:Int)<8)/\(∃f,aa w (a.add (((2:Int)).toNat*1)) [.int .u32 f]/\((0<=(4:Int)/\(4:Int)<8)/\(∃b,aa w (a.add (((4:Int)).toNat*1)) [.int .u32 b]/\((0<=(5:Int)/\(5:Int)<8)/\(∃g,aa w (a.add (((5:Int)).toNat*1)) [.int .u32 g]/\((0<=(6:Int)/\(6:Int)<8)/\(∃i,aa w (a.add (((6:Int)).toNat*1)) [.int .u32 i]/\(∀d,Ext B [] w d->((0<=(7:Int)/\(7:Int)<8)/\(∃o,aa d (a.add (((7:Int)).toNat*1)) [.int .u32 o]/\((0<=p/\p<64)/\(∃q,aa d (m.add ((p).toNat*1)) [.int .u32 q]/\((0<=p/\p<64)/\(∃r,aa d (n.add ((p).toNat*1)) [.int .u32 r]/\(∀z,Ext B [] d z->(Pure P 121 #[.int .u32 b,I 6] z fun H J=>∃s,H= .int .u32 s/\(Pure P 121 #[.int .u32 b,I 11] J fun K L=>∃t,K= .int .u32 t/\(Pure P 121 #[.int .u32 b,I 25] L fun M N=>∃u,M= .int .u32 u/\(Pure P 121 #[.int .u32 c,I 2] N fun O Q=>∃A,O= .int .u32 A/\(Pure P 121 #[.int .u32 c,I 13] Q fun S T=>∃C,S= .int .u32 C/\(Pure P 121 #[.int .u32 c,I 22] T fun U v=>∃D,U= .int .u32 D/\((0<=(3:Int)/\(3:Int)<8)/\(∃E,aa v (a.add (((3:Int)).toNat*1)) [.int .u32 E]/\(∃(x:List Value)(y:Nat),B<=a.block/\a.spot=none/\v.heap[a.block]? =some (.cells x.toArray y (0,0))/\a.off+8<=x.length/\hasType y []=false/\∀G,aG v G a.block y (setCells x a.off [(.int .u32 (IntKind.wrap .u32 ((IntKind.wrap .u32 ((IntKind.wrap .u32 ((IntKind.wrap .u32 ((IntKind.wrap .u32 (o+(bits .xor .u32 (bits .xor .u32 s t) u)))+(bits .xor .u32 (bits .and .u32 b g) (bits .and .u32 (bits .xor .u32 (4294967295:Int) b) i))))+q))+r))+(IntKind.wrap .u32 ((bits .xor .u32 (bits .xor .u32 A C) D)+(bits .xor .u32 (bits .xor .u32 (bits .and .u32 c e) (bits .and .u32 c f)) (bits .and .u32 e f))))))),.int .u32 c,.int .u32 e,.int .u32 f,(.int .u32 (IntKind.wrap .u32 (E+(IntKind.wrap .u32 ((IntKind.wrap .u32 ((IntKind.wrap .u32 ((IntKind.wrap .u32 (o+(bits .xor .u32 (bits .xor .u32 s t) u)))+(bits .xor .u32 (bits .and .u32 b g) (bits .and .u32 (bits .xor .u32 (4294967295:Int) b) i))))+q))+r))))),.int .u32 b,.int .u32 g,.int .u32 i])->(aN .i64 (p+1)/\(aC.uC j l m n a (p+1) B G R))))))))))))))))))))))))))))))) (aC.B8 j l a (0:Int) B w R))):
  aC.uC j l m n a p B w R:=
 lr aC.cx func97 h
theorem aC.B8.step{c b a:Addr}
  (h:(Br (p<8) ((0<=p/\p<8)/\(∃l,aa w (a.add ((p).toNat*1)) [.int .u32 l]/\((0<=p/\p<8)/\(∃m,aa w (c.add ((p).toNat*1)) [.int .u32 m]/\((0<=p/\p<8)/\(∀d,Ext B [] w d->(∃(e:List Value)(f:Nat),B<=(a.add ((p).toNat*1)).block/\(a.add ((p).toNat*1)).spot=none/\d.heap[(a.add ((p).toNat*1)).block]? =some (.cells e.toArray f (0,0))/\(a.add ((p).toNat*1)).off+1<=e.length/\hasType f []=false/\∀n,aG d n (a.add ((p).toNat*1)).block f (setCells e (a.add ((p).toNat*1)).off [(.int .u32 (IntKind.wrap .u32 (l+m)))])->(aN .i64 (p+1)/\(aC.B8 c b a (p+1) B n R))))))))) (∃o q r s t u v x,aa w a [.int .u32 o,.int .u32 q,.int .u32 r,.int .u32 s,.int .u32 t,.int .u32 u,.int .u32 v,.int .u32 x]/\(∃(g:List Value)(i:Nat),B<=b.block/\b.spot=none/\w.heap[b.block]? =some (.cells g.toArray i (0,0))/\b.off+8<=g.length/\hasType i []=false/\∀j,aG w j b.block i (setCells g b.off [.int .u32 o,.int .u32 q,.int .u32 r,.int .u32 s,.int .u32 t,.int .u32 u,.int .u32 v,.int .u32 x])->(∃y z A C D E G H,aa j b [.int .u32 y,.int .u32 z,.int .u32 A,.int .u32 C,.int .u32 D,.int .u32 E,.int .u32 G,.int .u32 H]/\(R (.agg #[.int .u32 y,.int .u32 z,.int .u32 A,.int .u32 C,.int .u32 D,.int .u32 E,.int .u32 G,.int .u32 H]) j)))))):
  aC.B8 c b a p B w R:=
 lr aC.cx func97 h
theorem aC.vc
  (h:(ae P (Instr.box 176 (.agg #[.int .u32 p,.int .u32 q,.int .u32 r,.int .u32 s,.int .u32 t,.int .u32 u,.int .u32 v,.int .u32 x])) w.heap.size [] w fun j l=>∃(d:Addr),j= .pointer (some d)/\(ae P (Instr.alloc 176 true (.tuple #[])) w.heap.size [] l fun m n=>∃(e:Addr),m= .pointer (some e)/\(ae P (Instr.alloc 214 true (.tuple #[])) w.heap.size [] n fun o f=>∃(a:Addr),o= .pointer (some a)/\(∃(b:List Value)(c:Nat),w.heap.size<=a.block/\a.spot=none/\f.heap[a.block]? =some (.cells b.toArray c (0,0))/\a.off+64<=b.length/\hasType c []=false/\∀g,aG f g a.block c (setCells b a.off [(.int .u32 (1116352408:Int)),(.int .u32 (1899447441:Int)),(.int .u32 (3049323471:Int)),(.int .u32 (3921009573:Int)),(.int .u32 (961987163:Int)),(.int .u32 (1508970993:Int)),(.int .u32 (2453635748:Int)),(.int .u32 (2870763221:Int)),(.int .u32 (3624381080:Int)),(.int .u32 (310598401:Int)),(.int .u32 (607225278:Int)),(.int .u32 (1426881987:Int)),(.int .u32 (1925078388:Int)),(.int .u32 (2162078206:Int)),(.int .u32 (2614888103:Int)),(.int .u32 (3248222580:Int)),(.int .u32 (3835390401:Int)),(.int .u32 (4022224774:Int)),(.int .u32 (264347078:Int)),(.int .u32 (604807628:Int)),(.int .u32 (770255983:Int)),(.int .u32 (1249150122:Int)),(.int .u32 (1555081692:Int)),(.int .u32 (1996064986:Int)),(.int .u32 (2554220882:Int)),(.int .u32 (2821834349:Int)),(.int .u32 (2952996808:Int)),(.int .u32 (3210313671:Int)),(.int .u32 (3336571891:Int)),(.int .u32 (3584528711:Int)),(.int .u32 (113926993:Int)),(.int .u32 (338241895:Int)),(.int .u32 (666307205:Int)),(.int .u32 (773529912:Int)),(.int .u32 (1294757372:Int)),(.int .u32 (1396182291:Int)),(.int .u32 (1695183700:Int)),(.int .u32 (1986661051:Int)),(.int .u32 (2177026350:Int)),(.int .u32 (2456956037:Int)),(.int .u32 (2730485921:Int)),(.int .u32 (2820302411:Int)),(.int .u32 (3259730800:Int)),(.int .u32 (3345764771:Int)),(.int .u32 (3516065817:Int)),(.int .u32 (3600352804:Int)),(.int .u32 (4094571909:Int)),(.int .u32 (275423344:Int)),(.int .u32 (430227734:Int)),(.int .u32 (506948616:Int)),(.int .u32 (659060556:Int)),(.int .u32 (883997877:Int)),(.int .u32 (958139571:Int)),(.int .u32 (1322822218:Int)),(.int .u32 (1537002063:Int)),(.int .u32 (1747873779:Int)),(.int .u32 (1955562222:Int)),(.int .u32 (2024104815:Int)),(.int .u32 (2227730452:Int)),(.int .u32 (2361852424:Int)),(.int .u32 (2428436474:Int)),(.int .u32 (2756734187:Int)),(.int .u32 (3204031479:Int)),(.int .u32 (3329325298:Int))])->(ae P (Instr.alloc 214 true (.tuple #[])) w.heap.size [] g fun y z=>∃(i:Addr),y= .pointer (some i)/\(aC.L4 L d e a i (0:Int) w.heap.size z R))))))):
  Pure P 97 #[.agg #[.int .u32 p,.int .u32 q,.int .u32 r,.int .u32 s,.int .u32 t,.int .u32 u,.int .u32 v,.int .u32 x],vU L] w R:=
 pr aC.cx func97 h

def xY.cx:Pm:=([],[])
theorem xY.vc
  (h:(aN .i64 (-p)/\(Pure P 177 #[.int .u32 q,(I (-p))] w fun b c=>∃a,b= .int .u32 a/\(R (.int .u32 a) c)))):
  Pure P 121 #[.int .u32 q,I p] w R:=
 pr xY.cx func121 h

end Go.Proofs.YtmdphpnaipbfjaaGreatDoor.F
