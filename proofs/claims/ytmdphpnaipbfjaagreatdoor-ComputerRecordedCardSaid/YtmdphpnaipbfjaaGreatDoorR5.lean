/- Part 5 of the proofs that: The state of a record that was written and recovered is that of its events. -/
import Derived.Test.YtmdphpnaipbfjaaGreatDoorR4
import Derived.Test.YtmdphpnaipbfjaaGreatDoorProg
import Derived.MapKept
set_option linter.unusedVariables false
set_option linter.unusedSimpArgs false
set_option maxRecDepth 100000
set_option maxHeartbeats 4000000
namespace Go.Proofs.YtmdphpnaipbfjaaGreatDoor.F
open Go Go.RowKit Go.Proofs Go.Proofs.YtmdphpnaipbfjaaGreatDoor.Vc
open Tryz
variable {A C D E G H J K A0 A1 A2 A3 A4 A5 A6 A7 A8 A9 C0 C1 C2 C3 C4 C5 C6 C7 C8 C9:O} {a b c d e f g i j l m n o a0 a1 a2 a3 a4 a5 a6 a7 a8 a9 b0 b1 b2 b3 b4 b5 b6 b7 b8 b9 c0 c1 c2 c3 c4 c5 c6 c7 c8 c9:Nat} {p q r s t u v x p0 p1 p2 p3 p4 p5 p6 p7 p8 p9 q0 q1 q2 q3 q4 q5 q6 q7 q8 q9:Int} {L M N N0 N1 N2 N3 N4 N5 N6 N7 N8 N9 T0 T1 T2 T3 T4 T5 T6 T7 T8 T9:ByteArray} {Q S:Bool} {B:Nat} {w:World} {R:Kt}
def dN.cx:Pm:=([],[])
theorem dN.vc
  (h:(Pure P 101 #[vU L] w fun c d=>∃e f a,c= .tuple #[.agg #[vU e,vU f],.bool a]/\(∀b,Ext w.heap.size [] d b->(R (.bool a) b)))):
  Pure P 62 #[vU L] w R:=
 pr dN.cx func62 h

def ju.cx:Pm:=([],[])
theorem ju.vc
  (h:(∀e,Ext w.heap.size [] w e->(Pure P 122 #[vU L,(vU ⟨#[47]⟩)] e fun q f=>∃a b g,q= .tuple #[vU a,vU b,.bool g]/\(Br (g=false) (Pure P 123 #[vU a] f (Rb fun r s=>(∀i,Ext w.heap.size [184] s i->(R (.tuple #[(.agg #[vU a,(vU ⟨#[49]⟩)]),.bool r]) i)))) (Pure P 123 #[vU a] f (Rb fun t d=>(Bb t (Br (a≠(⟨#[48]⟩:ByteArray)) (Pure P 124 #[vU b] d (Rb fun u c=>(Bb u (Br (b≠(⟨#[48]⟩:ByteArray)) (Br (b≠(⟨#[49]⟩:ByteArray)) (Pure P 125 #[vU a,vU b] c (Rt fun v x=>(∀j,Ext w.heap.size [184] x j->(R (.tuple #[.agg #[vU a,vU b],(.bool (decide (v=(⟨#[49]⟩:ByteArray))))]) j)))) (∀l,Ext w.heap.size [184] c l->(R (.tuple #[.agg #[vU a,vU b],.bool false]) l))) (∀m,Ext w.heap.size [184] c m->(R (.tuple #[.agg #[vU a,vU b],.bool false]) m))) (∀n,Ext w.heap.size [184] c n->(R (.tuple #[.agg #[vU a,vU b],.bool false]) n))))) (∀o,Ext w.heap.size [184] d o->(R (.tuple #[.agg #[vU a,vU b],.bool false]) o))) (∀p,Ext w.heap.size [184] d p->(R (.tuple #[.agg #[vU a,vU b],.bool false]) p))))))))):
  Pure P 101 #[vU L] w R:=
 pr ju.cx func101 h

def gC.cx:Pm:=([],[])
theorem gC.vc
  (h:(Pure P 180 #[vU L] w (qO fun a e b=>(Pure P 181 #[vU a,vU M] b (qO fun c f d=>(R (vU c) d)))))):
  Pure P 125 #[vU L,vU M] w R:=
 pr gC.cx func125 h

def eT.cx:Pm:=([],[])
theorem eT.vc
  (h:(Pure P 273 #[vU L,vU M] w fun o d=>∃e f g i c,o= .tuple #[.agg #[vU e,vU f],.agg #[vU g,vU i],I c]/\(Br (c≠0) (∀j,Ext w.heap.size [] d j->(R (.tuple #[I 0,I c]) j)) (Br (L=M) (∀l,Ext w.heap.size [] d l->(R (.tuple #[I 0,I c]) l)) (∀m,Ext w.heap.size [] d m->(Pure P 274 #[.agg #[vU e,vU f]] m (Ri fun a p=>(Pure P 274 #[.agg #[vU g,vU i]] p (Ri fun b n=>(Br (a≠b) (aN .i64 (a - b)/\(R (.tuple #[(I (if(if(1:Int)<(a - b)then(1:Int)else(a - b))>(-1:Int)then(if(1:Int)<(a - b)then(1:Int)else(a - b))else(-1:Int))),I 0]) n)) (Pure P 275 #[vU e,vU i] n (qO fun q y r=>(Pure P 275 #[vU g,vU f] r (qO fun s z t=>(Pure P 276 #[vU q,vU s] t (Rii fun u v x=>(R (.tuple #[I u,I v]) x))))))))))))))))):
  Pure P 232 #[vU L,vU M] w R:=
 pr eT.cx func232 h

def jb.cx:Pm:=([],[])
theorem jb.vc
  (h:(Pure P 292 #[(.int .u8 (43:Int)),vU L,vU M] w (qO fun a b c=>(R (.tuple #[vU a,I b]) c)))):
  Pure P 257 #[vU L,vU M] w R:=
 pr jb.cx func257 h

def jc.cx:Pm:=([],[])
theorem jc.vc
  (h:(Pure P 292 #[(.int .u8 (42:Int)),vU L,vU M] w (qO fun a b c=>(R (.tuple #[vU a,I b]) c)))):
  Pure P 258 #[vU L,vU M] w R:=
 pr jc.cx func258 h

def kz.cx:Pm:=([],[])
theorem kz.vc
  (h:(Pure P 292 #[(.int .u8 (45:Int)),vU L,vU M] w (qO fun a b c=>(R (.tuple #[vU a,I b]) c)))):
  Pure P 259 #[vU L,vU M] w R:=
 pr kz.cx func259 h

def jw.cx:Pm:=([],[])
theorem jw.vc
  (h:(∀f,Ext w.heap.size [] w f->(Pure P 101 #[vU L] f fun p q=>∃b c g,p= .tuple #[.agg #[vU b,vU c],.bool g]/\(∀i,Ext w.heap.size [] q i->(Pure P 101 #[vU M] i fun r a=>∃d e j,r= .tuple #[.agg #[vU d,vU e],.bool j]/\(Br (g=false) (∀l,Ext w.heap.size [184] a l->(R (.tuple #[(.agg #[(vU ⟨#[]⟩),(vU ⟨#[]⟩)]),(.agg #[(vU ⟨#[]⟩),(vU ⟨#[]⟩)]),I 1]) l)) (Br (j=false) (∀m,Ext w.heap.size [184] a m->(R (.tuple #[(.agg #[(vU ⟨#[]⟩),(vU ⟨#[]⟩)]),(.agg #[(vU ⟨#[]⟩),(vU ⟨#[]⟩)]),I 1]) m)) ((∀n,Ext w.heap.size [184] a n->(R (.tuple #[.agg #[vU b,vU c],.agg #[vU d,vU e],I 0]) n))/\(∀o,Ext w.heap.size [184] a o->(R (.tuple #[.agg #[vU b,vU c],.agg #[vU d,vU e],I 0]) o)))))))))):
  Pure P 273 #[vU L,vU M] w R:=
 pr jw.cx func273 h

def lL.cx:Pm:=([],[])
theorem lL.vc
  (h:(∀a,Ext w.heap.size [] w a->(Pure P 305 #[vU L] a (Rii fun b d c=>(R (I b) c))))):
  Pure P 274 #[.agg #[vU L,vU M]] w R:=
 pr lL.cx func274 h

def gI.cx:Pm:=([],[(6,2,2),(6,5,4)])
theorem gI.vc
  (h:(Pure P 273 #[vU L,vU M] w fun k e=>∃b c a d n,k= .tuple #[.agg #[vU b,vU c],.agg #[vU a,vU d],I n]/\(Br (n≠0) (∀F,Ext w.heap.size [] e F->(R (.tuple #[(vU ⟨#[]⟩),I n]) F)) (Br (p=47) (Br (a=(⟨#[48]⟩:ByteArray)) (∀W,Ext w.heap.size [] e W->(R (.tuple #[(vU ⟨#[]⟩),I 16]) W)) ((∀d2,Ext w.heap.size [] e d2->(Pure P 313 #[] d2 fun v1 i=>∃(f:Option Nat),v1= .map f/\((ae P (Instr.lookup 376 (.map f) (.int .u8 p) false) w.heap.size [184,184] i fun v2 d3=>∃(j:Nat)(o q:Array Value),v2= .func (.func j) o q/\((av P j=true/\(Pure P j ((Array.toList o)++([.agg #[vU b,vU c],.agg #[vU a,vU d]]:List Value)++(Array.toList q)).toArray d3 fun v3 v4=>∃d4 d5,v3= .agg #[vU d4,vU d5]/\(Pure P 314 #[.agg #[vU d4,vU d5]] v4 (Rt fun v5 v6=>(R (.tuple #[vU v5,I 0]) v6)))))/\(av P j=true/\(Pure P j ((Array.toList o)++([.agg #[vU b,vU c],.agg #[vU a,vU d]]:List Value)++(Array.toList q)).toArray d3 fun v7 v8=>∃d6 d7,v7= .agg #[vU d6,vU d7]/\(Pure P 314 #[.agg #[vU d6,vU d7]] v8 (Rt fun v9 x0=>(R (.tuple #[vU v9,I 0]) x0)))))))/\(((ae P (Instr.lookup 376 (.map f) (.int .u8 p) false) w.heap.size [184,184] i fun x1 x2=>∃(r:Nat)(d8 d9:Array Value),x1= .func (.func r) d8 d9/\(av P r=true/\(Pure P r ((Array.toList d8)++([.agg #[vU b,vU c],.agg #[vU a,vU d]]:List Value)++(Array.toList d9)).toArray x2 fun x3 x4=>∃e0 e1,x3= .agg #[vU e0,vU e1]/\(Pure P 314 #[.agg #[vU e0,vU e1]] x4 (Rt fun x5 x6=>(R (.tuple #[vU x5,I 0]) x6))))))/\(ae P (Instr.lookup 376 (.map f) (.int .u8 p) false) w.heap.size [184,184] i fun x7 x8=>∃(s:Nat)(e2 e3:Array Value),x7= .func (.func s) e2 e3/\(av P s=true/\(Pure P s ((Array.toList e2)++([.agg #[vU b,vU c],.agg #[vU a,vU d]]:List Value)++(Array.toList e3)).toArray x8 fun x9 y0=>∃e4 e5,x9= .agg #[vU e4,vU e5]/\(Pure P 314 #[.agg #[vU e4,vU e5]] y0 (Rt fun y1 y2=>(R (.tuple #[vU y1,I 0]) y2)))))))/\((ae P (Instr.lookup 376 (.map f) (.int .u8 p) false) w.heap.size [184,184] i fun y3 y4=>∃(t:Nat)(e6 e7:Array Value),y3= .func (.func t) e6 e7/\(av P t=true/\(Pure P t ((Array.toList e6)++([.agg #[vU b,vU c],.agg #[vU a,vU d]]:List Value)++(Array.toList e7)).toArray y4 fun y5 y6=>∃e8 e9,y5= .agg #[vU e8,vU e9]/\(Pure P 314 #[.agg #[vU e8,vU e9]] y6 (Rt fun y7 y8=>(R (.tuple #[vU y7,I 0]) y8))))))/\(ae P (Instr.lookup 376 (.map f) (.int .u8 p) false) w.heap.size [184,184] i fun y9 z0=>∃(u:Nat)(g0 g1:Array Value),y9= .func (.func u) g0 g1/\(av P u=true/\(Pure P u ((Array.toList g0)++([.agg #[vU b,vU c],.agg #[vU a,vU d]]:List Value)++(Array.toList g1)).toArray z0 fun z1 z2=>∃g2 g3,z1= .agg #[vU g2,vU g3]/\(Pure P 314 #[.agg #[vU g2,vU g3]] z2 (Rt fun z3 z4=>(R (.tuple #[vU z3,I 0]) z4)))))))))))/\(((∀g4,Ext w.heap.size [] e g4->(Pure P 313 #[] g4 fun z5 g5=>∃(v:Option Nat),z5= .map v/\((ae P (Instr.lookup 376 (.map v) (.int .u8 p) false) w.heap.size [184,184] g5 fun z6 z7=>∃(x:Nat)(g6 g7:Array Value),z6= .func (.func x) g6 g7/\(av P x=true/\(Pure P x ((Array.toList g6)++([.agg #[vU b,vU c],.agg #[vU a,vU d]]:List Value)++(Array.toList g7)).toArray z7 fun z8 z9=>∃g8 g9,z8= .agg #[vU g8,vU g9]/\(Pure P 314 #[.agg #[vU g8,vU g9]] z9 (Rt fun D0 D1=>(R (.tuple #[vU D0,I 0]) D1))))))/\(ae P (Instr.lookup 376 (.map v) (.int .u8 p) false) w.heap.size [184,184] g5 fun D2 D3=>∃(y:Nat)(j0 j1:Array Value),D2= .func (.func y) j0 j1/\(av P y=true/\(Pure P y ((Array.toList j0)++([.agg #[vU b,vU c],.agg #[vU a,vU d]]:List Value)++(Array.toList j1)).toArray D3 fun D4 D5=>∃j2 j3,D4= .agg #[vU j2,vU j3]/\(Pure P 314 #[.agg #[vU j2,vU j3]] D5 (Rt fun D6 D7=>(R (.tuple #[vU D6,I 0]) D7)))))))))/\(∀j4,Ext w.heap.size [] e j4->(Pure P 313 #[] j4 fun D8 D9=>∃(j5:Option Nat),D8= .map j5/\(ae P (Instr.lookup 376 (.map j5) (.int .u8 p) false) w.heap.size [184,184] D9 fun E0 E1=>∃(z:Nat)(j6 j7:Array Value),E0= .func (.func z) j6 j7/\(av P z=true/\(Pure P z ((Array.toList j6)++([.agg #[vU b,vU c],.agg #[vU a,vU d]]:List Value)++(Array.toList j7)).toArray E1 fun E2 E3=>∃j8 j9,E2= .agg #[vU j8,vU j9]/\(Pure P 314 #[.agg #[vU j8,vU j9]] E3 (Rt fun E4 E5=>(R (.tuple #[vU E4,I 0]) E5)))))))))/\((∀l0,Ext w.heap.size [] e l0->(Pure P 313 #[] l0 fun E6 l1=>∃(A:Option Nat),E6= .map A/\((ae P (Instr.lookup 376 (.map A) (.int .u8 p) false) w.heap.size [184,184] l1 fun E7 E8=>∃(C:Nat)(l2 l3:Array Value),E7= .func (.func C) l2 l3/\(av P C=true/\(Pure P C ((Array.toList l2)++([.agg #[vU b,vU c],.agg #[vU a,vU d]]:List Value)++(Array.toList l3)).toArray E8 fun E9 G0=>∃l4 l5,E9= .agg #[vU l4,vU l5]/\(Pure P 314 #[.agg #[vU l4,vU l5]] G0 (Rt fun G1 G2=>(R (.tuple #[vU G1,I 0]) G2))))))/\(ae P (Instr.lookup 376 (.map A) (.int .u8 p) false) w.heap.size [184,184] l1 fun G3 G4=>∃(D:Nat)(l6 l7:Array Value),G3= .func (.func D) l6 l7/\(av P D=true/\(Pure P D ((Array.toList l6)++([.agg #[vU b,vU c],.agg #[vU a,vU d]]:List Value)++(Array.toList l7)).toArray G4 fun G5 G6=>∃l8 l9,G5= .agg #[vU l8,vU l9]/\(Pure P 314 #[.agg #[vU l8,vU l9]] G6 (Rt fun G7 G8=>(R (.tuple #[vU G7,I 0]) G8)))))))))/\(∀m0,Ext w.heap.size [] e m0->(Pure P 313 #[] m0 fun G9 H0=>∃(m1:Option Nat),G9= .map m1/\(ae P (Instr.lookup 376 (.map m1) (.int .u8 p) false) w.heap.size [184,184] H0 fun H1 H2=>∃(E:Nat)(m2 m3:Array Value),H1= .func (.func E) m2 m3/\(av P E=true/\(Pure P E ((Array.toList m2)++([.agg #[vU b,vU c],.agg #[vU a,vU d]]:List Value)++(Array.toList m3)).toArray H2 fun H3 H4=>∃m4 m5,H3= .agg #[vU m4,vU m5]/\(Pure P 314 #[.agg #[vU m4,vU m5]] H4 (Rt fun H5 H6=>(R (.tuple #[vU H5,I 0]) H6)))))))))))) ((∀m6,Ext w.heap.size [] e m6->(Pure P 313 #[] m6 fun H7 l=>∃(g:Option Nat),H7= .map g/\((ae P (Instr.lookup 376 (.map g) (.int .u8 p) false) w.heap.size [184,184] l fun H8 m7=>∃(m:Nat)(G H:Array Value),H8= .func (.func m) G H/\((av P m=true/\(Pure P m ((Array.toList G)++([.agg #[vU b,vU c],.agg #[vU a,vU d]]:List Value)++(Array.toList H)).toArray m7 fun H9 J0=>∃m8 m9,H9= .agg #[vU m8,vU m9]/\(Pure P 314 #[.agg #[vU m8,vU m9]] J0 (Rt fun J1 J2=>(R (.tuple #[vU J1,I 0]) J2)))))/\(av P m=true/\(Pure P m ((Array.toList G)++([.agg #[vU b,vU c],.agg #[vU a,vU d]]:List Value)++(Array.toList H)).toArray m7 fun J3 J4=>∃n0 n1,J3= .agg #[vU n0,vU n1]/\(Pure P 314 #[.agg #[vU n0,vU n1]] J4 (Rt fun J5 J6=>(R (.tuple #[vU J5,I 0]) J6)))))))/\(((ae P (Instr.lookup 376 (.map g) (.int .u8 p) false) w.heap.size [184,184] l fun J7 J8=>∃(J:Nat)(n2 n3:Array Value),J7= .func (.func J) n2 n3/\(av P J=true/\(Pure P J ((Array.toList n2)++([.agg #[vU b,vU c],.agg #[vU a,vU d]]:List Value)++(Array.toList n3)).toArray J8 fun J9 K0=>∃n4 n5,J9= .agg #[vU n4,vU n5]/\(Pure P 314 #[.agg #[vU n4,vU n5]] K0 (Rt fun K1 K2=>(R (.tuple #[vU K1,I 0]) K2))))))/\(ae P (Instr.lookup 376 (.map g) (.int .u8 p) false) w.heap.size [184,184] l fun K3 K4=>∃(K:Nat)(n6 n7:Array Value),K3= .func (.func K) n6 n7/\(av P K=true/\(Pure P K ((Array.toList n6)++([.agg #[vU b,vU c],.agg #[vU a,vU d]]:List Value)++(Array.toList n7)).toArray K4 fun K5 K6=>∃n8 n9,K5= .agg #[vU n8,vU n9]/\(Pure P 314 #[.agg #[vU n8,vU n9]] K6 (Rt fun K7 K8=>(R (.tuple #[vU K7,I 0]) K8)))))))/\((ae P (Instr.lookup 376 (.map g) (.int .u8 p) false) w.heap.size [184,184] l fun K9 N0=>∃(N:Nat)(o0 o1:Array Value),K9= .func (.func N) o0 o1/\(av P N=true/\(Pure P N ((Array.toList o0)++([.agg #[vU b,vU c],.agg #[vU a,vU d]]:List Value)++(Array.toList o1)).toArray N0 fun N1 N2=>∃o2 o3,N1= .agg #[vU o2,vU o3]/\(Pure P 314 #[.agg #[vU o2,vU o3]] N2 (Rt fun N3 N4=>(R (.tuple #[vU N3,I 0]) N4))))))/\(ae P (Instr.lookup 376 (.map g) (.int .u8 p) false) w.heap.size [184,184] l fun N5 N6=>∃(O:Nat)(o4 o5:Array Value),N5= .func (.func O) o4 o5/\(av P O=true/\(Pure P O ((Array.toList o4)++([.agg #[vU b,vU c],.agg #[vU a,vU d]]:List Value)++(Array.toList o5)).toArray N6 fun N7 N8=>∃o6 o7,N7= .agg #[vU o6,vU o7]/\(Pure P 314 #[.agg #[vU o6,vU o7]] N8 (Rt fun N9 O0=>(R (.tuple #[vU N9,I 0]) O0)))))))))))/\(((∀o8,Ext w.heap.size [] e o8->(Pure P 313 #[] o8 fun O1 o9=>∃(Q:Option Nat),O1= .map Q/\((ae P (Instr.lookup 376 (.map Q) (.int .u8 p) false) w.heap.size [184,184] o9 fun O2 O3=>∃(S:Nat)(r0 r1:Array Value),O2= .func (.func S) r0 r1/\(av P S=true/\(Pure P S ((Array.toList r0)++([.agg #[vU b,vU c],.agg #[vU a,vU d]]:List Value)++(Array.toList r1)).toArray O3 fun O4 O5=>∃r2 r3,O4= .agg #[vU r2,vU r3]/\(Pure P 314 #[.agg #[vU r2,vU r3]] O5 (Rt fun O6 O7=>(R (.tuple #[vU O6,I 0]) O7))))))/\(ae P (Instr.lookup 376 (.map Q) (.int .u8 p) false) w.heap.size [184,184] o9 fun O8 O9=>∃(T:Nat)(r4 r5:Array Value),O8= .func (.func T) r4 r5/\(av P T=true/\(Pure P T ((Array.toList r4)++([.agg #[vU b,vU c],.agg #[vU a,vU d]]:List Value)++(Array.toList r5)).toArray O9 fun Q0 Q1=>∃k r7,Q0= .agg #[vU k,vU r7]/\(Pure P 314 #[.agg #[vU k,vU r7]] Q1 (Rt fun Q2 Q3=>(R (.tuple #[vU Q2,I 0]) Q3)))))))))/\(∀r8,Ext w.heap.size [] e r8->(Pure P 313 #[] r8 fun Q4 Q5=>∃(r9:Option Nat),Q4= .map r9/\(ae P (Instr.lookup 376 (.map r9) (.int .u8 p) false) w.heap.size [184,184] Q5 fun Q6 Q7=>∃(U:Nat)(s0 s1:Array Value),Q6= .func (.func U) s0 s1/\(av P U=true/\(Pure P U ((Array.toList s0)++([.agg #[vU b,vU c],.agg #[vU a,vU d]]:List Value)++(Array.toList s1)).toArray Q7 fun Q8 Q9=>∃s2 s3,Q8= .agg #[vU s2,vU s3]/\(Pure P 314 #[.agg #[vU s2,vU s3]] Q9 (Rt fun S0 S1=>(R (.tuple #[vU S0,I 0]) S1)))))))))/\((∀s4,Ext w.heap.size [] e s4->(Pure P 313 #[] s4 fun S2 s5=>∃(V:Option Nat),S2= .map V/\((ae P (Instr.lookup 376 (.map V) (.int .u8 p) false) w.heap.size [184,184] s5 fun S3 S4=>∃(X:Nat)(s6 s7:Array Value),S3= .func (.func X) s6 s7/\(av P X=true/\(Pure P X ((Array.toList s6)++([.agg #[vU b,vU c],.agg #[vU a,vU d]]:List Value)++(Array.toList s7)).toArray S4 fun S5 S6=>∃s8 s9,S5= .agg #[vU s8,vU s9]/\(Pure P 314 #[.agg #[vU s8,vU s9]] S6 (Rt fun S7 S8=>(R (.tuple #[vU S7,I 0]) S8))))))/\(ae P (Instr.lookup 376 (.map V) (.int .u8 p) false) w.heap.size [184,184] s5 fun S9 T0=>∃(Y:Nat)(t0 t1:Array Value),S9= .func (.func Y) t0 t1/\(av P Y=true/\(Pure P Y ((Array.toList t0)++([.agg #[vU b,vU c],.agg #[vU a,vU d]]:List Value)++(Array.toList t1)).toArray T0 fun T1 T2=>∃t2 t3,T1= .agg #[vU t2,vU t3]/\(Pure P 314 #[.agg #[vU t2,vU t3]] T2 (Rt fun T3 T4=>(R (.tuple #[vU T3,I 0]) T4)))))))))/\(∀t4,Ext w.heap.size [] e t4->(Pure P 313 #[] t4 fun T5 T6=>∃(t5:Option Nat),T5= .map t5/\(ae P (Instr.lookup 376 (.map t5) (.int .u8 p) false) w.heap.size [184,184] T6 fun T7 T8=>∃(Z:Nat)(t6 t7:Array Value),T7= .func (.func Z) t6 t7/\(av P Z=true/\(Pure P Z ((Array.toList t6)++([.agg #[vU b,vU c],.agg #[vU a,vU d]]:List Value)++(Array.toList t7)).toArray T8 fun T9 V0=>∃t8 t9,T9= .agg #[vU t8,vU t9]/\(Pure P 314 #[.agg #[vU t8,vU t9]] V0 (Rt fun V1 V2=>(R (.tuple #[vU V1,I 0]) V2))))))))))))))):
  Pure P 292 #[.int .u8 p,vU L,vU M] w R:=
 pr gI.cx func292 h

def mN.cx:Pm:=([],[])
theorem mN.vc
  (h:(Pure P 329 #[] w fun b c=>∃(a:Option Nat),b= .map a/\(R (.map a) c))):
  Pure P 313 #[] w R:=
 pr mN.cx func313 h

def lM.cx:Pm:=([],[])
theorem lM.vc
  (h:(Br (M=(⟨#[49]⟩:ByteArray)) (∀a,Ext w.heap.size [] w a->(R (vU L) a)) (ByteArray.size L+ByteArray.size (⟨#[47]⟩:ByteArray)<=9223372036854775807/\(ByteArray.size (L++(⟨#[47]⟩:ByteArray))+ByteArray.size M<=9223372036854775807/\(∀b,Ext w.heap.size [] w b->(R (vU ((L++(⟨#[47]⟩:ByteArray))++M)) b)))))):
  Pure P 314 #[.agg #[vU L,vU M]] w R:=
 pr lM.cx func314 h

def gd.cx:Pm:=([],[(1,0,2),(1,1,2),(1,2,2),(1,3,2),(1,4,2)])
theorem gd.vc
  (h:(ae P (Instr.makeMap 376 none) w.heap.size [] w fun b c=>∃(a:Option Nat),b= .map a/\(eM P (Instr.mapUpdate 376 (.map a) (.int .u8 (43:Int)) (.func (.func 343) #[] #[])) w.heap.size [] c fun d=>(eM P (Instr.mapUpdate 376 (.map a) (.int .u8 (42:Int)) (.func (.func 344) #[] #[])) w.heap.size [] d fun e=>(eM P (Instr.mapUpdate 376 (.map a) (.int .u8 (45:Int)) (.func (.func 345) #[] #[])) w.heap.size [] e fun f=>(eM P (Instr.mapUpdate 376 (.map a) (.int .u8 (47:Int)) (.func (.func 347) #[] #[])) w.heap.size [] f fun g=>(R (.map a) g))))))):
  Pure P 329 #[] w R:=
 pr gd.cx func329 h

def jx.cx:Pm:=([],[])
theorem jx.vc
  (h:(∀f,Ext w.heap.size [] w f->(Pure P 354 #[.agg #[vU N,vU L]] f fun t u=>∃c a g,t= .tuple #[I c,I a,.bool g]/\(Pure P 354 #[.agg #[vU N0,vU M]] u fun v e=>∃d b i,v= .tuple #[I d,I b,.bool i]/\(Bb g (Bb i (aN .i64 (c*b)/\(aN .i64 (d*a)/\(aN .i64 ((c*b)+(d*a))/\(aN .i64 (a*b)/\(Pure P 355 #[(I ((c*b)+(d*a))),(I (a*b))] e fun x y=>∃j l,x= .agg #[vU j,vU l]/\(∀m,Ext w.heap.size [184] y m->(R (.agg #[vU j,vU l]) m))))))) (Pure P 275 #[vU N,vU M] e (qO fun z d2 A=>(Pure P 275 #[vU N0,vU L] A (qO fun C d3 D=>(Pure P 356 #[vU z,vU C] D (qO fun E d4 G=>(Pure P 324 #[vU L,vU M] G (qO fun H d5 J=>(Pure P 357 #[vU E,vU H] J fun K O=>∃n o,K= .agg #[vU n,vU o]/\(∀p,Ext w.heap.size [184] O p->(R (.agg #[vU n,vU o]) p)))))))))))) (Pure P 275 #[vU N,vU M] e (qO fun Q d6 S=>(Pure P 275 #[vU N0,vU L] S (qO fun T d7 U=>(Pure P 356 #[vU Q,vU T] U (qO fun V d8 X=>(Pure P 324 #[vU L,vU M] X (qO fun Y d9 Z=>(Pure P 357 #[vU V,vU Y] Z fun d0 d1=>∃q r,d0= .agg #[vU q,vU r]/\(∀s,Ext w.heap.size [184] d1 s->(R (.agg #[vU q,vU r]) s)))))))))))))))):
  Pure P 343 #[.agg #[vU N,vU L],.agg #[vU N0,vU M]] w R:=
 pr jx.cx func343 h

def jX.cx:Pm:=([],[])
theorem jX.vc
  (h:(∀f,Ext w.heap.size [] w f->(Pure P 354 #[.agg #[vU L,vU M]] f fun t u=>∃a b g,t= .tuple #[I a,I b,.bool g]/\(Pure P 354 #[.agg #[vU N,vU N0]] u fun v c=>∃d e i,v= .tuple #[I d,I e,.bool i]/\(Bb g (Bb i (aN .i64 (a*d)/\(aN .i64 (b*e)/\(Pure P 355 #[(I (a*d)),(I (b*e))] c fun x y=>∃j l,x= .agg #[vU j,vU l]/\(∀m,Ext w.heap.size [184] y m->(R (.agg #[vU j,vU l]) m))))) (Pure P 275 #[vU L,vU N] c (qO fun z T A=>(Pure P 324 #[vU M,vU N0] A (qO fun C U D=>(Pure P 357 #[vU z,vU C] D fun E G=>∃n o,E= .agg #[vU n,vU o]/\(∀p,Ext w.heap.size [184] G p->(R (.agg #[vU n,vU o]) p)))))))) (Pure P 275 #[vU L,vU N] c (qO fun H V J=>(Pure P 324 #[vU M,vU N0] J (qO fun K X O=>(Pure P 357 #[vU H,vU K] O fun Q S=>∃q r,Q= .agg #[vU q,vU r]/\(∀s,Ext w.heap.size [184] S s->(R (.agg #[vU q,vU r]) s)))))))))))):
  Pure P 344 #[.agg #[vU L,vU M],.agg #[vU N,vU N0]] w R:=
 pr jX.cx func344 h

def jd.cx:Pm:=([],[])
theorem jd.vc
  (h:(∀a,Ext w.heap.size [] w a->(Pure P 346 #[.agg #[vU N,vU N0]] a fun g i=>∃b c,g= .agg #[vU b,vU c]/\(Pure P 343 #[.agg #[vU L,vU M],.agg #[vU b,vU c]] i fun j l=>∃d e,j= .agg #[vU d,vU e]/\(∀f,Ext w.heap.size [184] l f->(R (.agg #[vU d,vU e]) f)))))):
  Pure P 345 #[.agg #[vU L,vU M],.agg #[vU N,vU N0]] w R:=
 pr jd.cx func345 h

def gX.cx:Pm:=([],[])
theorem gX.vc
  (h:(∀a,Ext w.heap.size [] w a->(Pure P 358 #[vU L] a (qO fun c e d=>(∀b,Ext w.heap.size [184] d b->(R (.agg #[vU c,vU M]) b)))))):
  Pure P 346 #[.agg #[vU L,vU M]] w R:=
 pr gX.cx func346 h

def jY.cx:Pm:=([],[])
theorem jY.vc
  (h:(Br (((ByteArray.size L:Int):Int)>9) (∀a,Ext w.heap.size [] w a->(R (.tuple #[I 0,I 0,.bool false]) a)) (Br (((ByteArray.size M:Int):Int)>9) (∀b,Ext w.heap.size [] w b->(R (.tuple #[I 0,I 0,.bool false]) b)) (∀c,Ext w.heap.size [] w c->(Pure P 360 #[vU L,I 10,I 64] c fun f g=>∃(d:Int)(i:Value),f= .tuple #[I d,i]/\(Pure P 360 #[vU M,I 10,I 64] g fun j l=>∃(e:Int)(m:Value),j= .tuple #[I e,m]/\(R (.tuple #[I d,I e,.bool true]) l))))))):
  Pure P 354 #[.agg #[vU L,vU M]] w R:=
 pr jY.cx func354 h

def dO.L2(a b c d:Int)(e f:ByteArray):=Lt 355 f355 2 [vI 0 a,vI 1 b,vL 4,vI 5 c,vI 6 d] [⟨4,false,184,[(vU e),(vU f)]⟩]
def dO.cx:Pm:=([((true,2),[0,1,4,5,6],[4])],[(3,3,1),(5,2,1)])
theorem dO.L2.step
  (h:(Br (r≠0) (r≠0/\(∀a,Ext B [] w a->(dO.L2 s q r (Int.tmod p r) L M B a R))) (aN .i64 (-p)/\((if(-p)>p then(-p)else p)≠0/\((0<=q/\0<(if(-p)>p then(-p)else p)/\aN .i64 q)/\(∀b,Ext B [] w b->(Pure P 361 #[(I (IntKind.wrap .i64 (Int.tdiv s (if(-p)>p then(-p)else p)))),I 10] b (Rt fun d e=>(Pure P 361 #[(I (q / (if(-p)>p then(-p)else p))),I 10] e (Rt fun f g=>(∀c,Ext B [184] g c->(R (.agg #[vU d,vU f]) c)))))))))))):
  dO.L2 s q p r L M B w R:=
 lr dO.cx func355 h
theorem dO.vc
  (h:(∀a,Ext w.heap.size [] w a->(dO.L2 p q p q (⟨#[]⟩:ByteArray) (⟨#[]⟩:ByteArray) w.heap.size a R))):
  Pure P 355 #[I p,I q] w R:=
 pr dO.cx func355 h

def gS.cx:Pm:=([],[])
theorem gS.vc
  (h:(∀b,Ext w.heap.size [] w b->(Pure P 125 #[vU L,vU M] b (Rt fun a c=>(Br (a≠(⟨#[49]⟩:ByteArray)) (Pure P 362 #[vU L,vU a] c fun i j=>∃d l m,i= .tuple #[vU d,vU l,I m]/\(Pure P 363 #[vU M,vU a] j fun n o=>∃e p q,n= .tuple #[vU e,vU p,I q]/\(∀f,Ext w.heap.size [184] o f->(R (.agg #[vU d,vU e]) f)))) (∀g,Ext w.heap.size [184] c g->(R (.agg #[vU L,vU M]) g))))))):
  Pure P 357 #[vU L,vU M] w R:=
 pr gS.cx func357 h

end Go.Proofs.YtmdphpnaipbfjaaGreatDoor.F

namespace Go.Proofs.YtmdphpnaipbfjaaGreatDoor.B
open Go Go.RowKit Go.Proofs Go.Proofs.YtmdphpnaipbfjaaGreatDoor.Vc

theorem AP(l:Tx):(47∈l->0<=Lib.index l [47]/\l.take (Lib.index l [47]).toNat=wA l/\l.drop ((Lib.index l [47]).toNat+1)=tQ l)/\(47∉l->Lib.index l [47]= -1):=by
 induction l with
 |nil=>simp[Lib.index]
 |cons b r ih=>
  by_cases h:b=47
  ·subst h;have e:Lib.index (47::r) [47]=0:=by simp[Lib.index]
   rw[e];simp[wA,tQ]
  ·have i:(47==b)=false:=by simpa using fun k=>h k.symm
   have e:Lib.index (b::r) [47]=if Lib.index r [47]== -1 then -1 else Lib.index r [47]+1:=by
    rw[Lib.index];simp[List.isPrefixOf,i]
   constructor
   ·intro hm;have a:47∈r:=by
     rcases cb.1 hm with k|k
     ·exact absurd k.symm h
     ·exact k
    obtain⟨n,h1,c⟩:=ih.1 a;have d:¬(Lib.index r [47]== -1)=true:=by simp;omega
    rw[e,aq d];obtain⟨m,g⟩:∃m:Nat,Lib.index r [47]=m:=⟨(Lib.index r [47]).toNat,om⟩
    rw[g]at h1 c⊢;have j:((m:Int)+1).toNat=m+1:=om;rw[j];simp only[cd]at h1 c;refine⟨om,?_,?_⟩
    ·simp[wA,h,h1]
    ·simp[tQ,h,c]
   ·intro hm;have a:47∉r:=fun k=>hm (Js _ k)
    rw[e,ih.2 a];rfl
theorem Sg{w:World}(hg:bj w)(s:ByteArray)(hs:s.size<2147483648):
  Pure Tryz.prog 122 #[.string s,.string ⟨#[47]⟩] w fun v _=>
   (47∈bJ s->v= .tuple #[.string (st (wA (bJ s))),.string (st (tQ (bJ s))),.bool true])/\(47∉bJ s->v= .tuple #[.string s,.string (st []),.bool false]):=by
 obtain⟨m,hm⟩:=hg.mx;refine Calls.mono (Tryz.strings_Cut s ⟨#[47]⟩ m w om hm) ?_;rintro e w' ⟨rfl,n,rfl⟩;refine⟨_,rfl,?_,?_,?_⟩
 ·exact⟨rfl,rfl,rfl,ga _,fun _ _=>rfl⟩
 ·intro h;obtain⟨a,h1,b⟩:=(AP (bJ s)).1 h;have e:Lib.cut s.data.toList [47]=(wA (bJ s),tQ (bJ s),true):=by
   show Lib.cut (bJ s) [47]=_;unfold Lib.cut;rw[bm a];simp only[pe];rw[h1,b]
  show Value.tuple #[.string ⟨(Lib.cut s.data.toList [47]).1.toArray⟩,.string ⟨(Lib.cut s.data.toList [47]).2.1.toArray⟩,.bool (Lib.cut s.data.toList [47]).2.2]=_;rw[e];rfl
 ·intro h;have a:=(AP (bJ s)).2 h;have e:Lib.cut s.data.toList [47]=(bJ s,[],false):=by
   show Lib.cut (bJ s) [47]=_;unfold Lib.cut;rw[a,aq om]
  show Value.tuple #[.string ⟨(Lib.cut s.data.toList [47]).1.toArray⟩,.string ⟨(Lib.cut s.data.toList [47]).2.1.toArray⟩,.bool (Lib.cut s.data.toList [47]).2.2]=_;rw[e];rfl
theorem AQ{w:World}(hg:bj w)(z:Int)(a: -9223372036854775808<=z)(h1:z<=9223372036854775807):
  Pure Tryz.prog 361 #[.int .i64 z,.int .i64 10] w fun v _=>v= .string (iS z):=by
 refine Calls.mono (Tryz.strconv_FormatInt_10 z a h1 w hg.tab) ?_;rintro e w' ⟨rfl,k,os,rfl⟩;exact⟨_,rfl,vk _ _ _,rfl⟩
theorem vn{w:World}(hg:bj w)(z:Int)(a: -9223372036854775808<=z)(h1:z<=9223372036854775807):
  Pure Tryz.prog 42 #[.int .i64 z] w fun v _=>v= .string (iS z):=by
 refine Calls.mono (Tryz.strconv_Itoa z a h1 w hg.tab) ?_;rintro e w' ⟨rfl,k,os,rfl⟩;exact⟨_,rfl,vk _ _ _,rfl⟩
theorem ON{n:Nat}(h:n<9223372036854775808):Lib.parseUintB 64 (fb n)= .ok n:=by
 have:=xm (B:=64) (l:=fb n) om (yF n) (vf n) (by rw[kV];omega);rwa [kV]at this
theorem OO{z:Int}(h:z.natAbs<9223372036854775808):Lib.parseIntB 64 (kW z)= .ok z:=by
 have hp:=ON h;rw[oK];split
 ·rename_i hz;rw[Lib.parseIntB_minus,hp];simp only[Lib.signedC];rw[aq om]
  congr 1
  omega
 ·rename_i hz;have a:=vf z.natAbs;cases b:fb z.natAbs with
  |nil=>exact absurd b (yF _)
  |cons c r=>
   rw[b]at hp a;simp only[B6,de]at a;have:=a.1;simp only[tJ,de,kl]at this;rw[Lib.parseIntB_plain 64 c r om om,hp];simp only[Lib.signlessC];rw[aq om]
   congr 1
   omega
theorem ParseInt10(z:Int)(h:z.natAbs<9223372036854775808)(w:World):
  Pure Tryz.prog 360 #[.string (iS z),.int .i64 10,.int .i64 64] w fun v _=>v= .tuple #[.int .i64 z,.nilIface]:=by
 have hl:(iS z).size<=9223372036854775806:=by
  have:=jS (z:=z) (k:=19) om om;show(kW z).length<=_;omega
 refine Calls.mono (Tryz.strconv_ParseInt_10_at64_ok (iS z) hl z (OO h) w) ?_;rintro e w' ⟨rfl,hw⟩;refine⟨_,rfl,?_,rfl⟩;rcases hw with rfl|⟨t,rfl⟩
 ·exact Below.refl _ _
 ·exact xn (.inr rfl)

abbrev fV(r:Rat):Value:= .agg #[.string (iS r.num),.string (nS r.den)]
abbrev lC(r:Rat):Prop:=Sm 100000 r
theorem Sm.I9{k:Nat}{r:Rat}(h:Sm k r)(a:k<=900000):r.num.natAbs<fR:=pv h.1 a
theorem Sm.Ja{k:Nat}{r:Rat}(h:Sm k r)(a:k<=900000):r.den<fR:=pv h.2 a

theorem gC{w:World}{z:Int}{d:Nat}(hg:bj w)(hz:z.natAbs<fR)(a:d<fR):
  Pure Tryz.prog 125 #[.string (iS z),.string (nS d)] w fun v _=>v= .string (nS (Nat.gcd z.natAbs d)):=by
 refine F.gC.vc (pm (oS hz w) ?_);rintro v b hb rfl;refine⟨_,_,rfl,pm (oN (hg.next hb) hz a) ?_⟩;rintro v c _ rfl;exact⟨_,_,rfl,rfl⟩

theorem gS{w:World}{z:Int}{d:Nat}(hg:bj w)(hz:z.natAbs<fR)(m:d<fR)(n:d≠0):
  Pure Tryz.prog 357 #[.string (iS z),.string (nS d)] w fun v _=>v=fV (mkRat z d):=by
 obtain⟨a,b⟩:=wB (p:=z) n;obtain⟨g,i⟩:∃g,g=Nat.gcd z.natAbs d:=⟨_,rfl⟩
 have c:g≠0:=by rw[i];intro k;exact n (Tr k)
 have o:g<=d:=by rw[i];exact Nat.le_of_dvd om (Nat.gcd_dvd_right _ _)
 rw[<-i]at a b;refine F.gS.vc fun w1 x1=>pm (gC (hg.next (k0 x1)) hz m) ?_
 rintro v r j rfl;have hb:=kP (k0 x1) j;rw[<-i];refine⟨_,rfl,fun h=>pm (jW (hg.next hb) hz om c) ?_,fun h q _=> ?_⟩
 ·rintro v q l rfl;refine⟨_,_,_,rfl,pm (iC (hg.next (kP hb l)) m om c) ?_⟩;rintro v x _ rfl;refine⟨_,_,_,rfl,fun y _=> ?_⟩;rw[<-a,<-b]
 ·have h1:g=1:=by
   apply bB;intro k;rw[OM]at h;exact h fun e=>k (xS e)
  rw[h1]at a b;simp only[Int.natCast_one,Int.ediv_one,Nat.div_one]at a b;show _=fV _;unfold fV;rw[a,b]

theorem ju{w:World}(hg:bj w)(s:ByteArray)(hs:s.size<=800000):
  Pure Tryz.prog 101 #[.string s] w fun v _=>∃p q,v= .tuple #[.agg #[.string p,.string q],.bool (kH (bJ s))]/\(kH (bJ s)=true->p=iS (yI (bJ s)).num/\q=nS (yI (bJ s)).den):=by
 refine F.ju.vc fun w1 x1=>pm (Sg (hg.next (k0 x1)) s om) ?_
 rintro v Q y ⟨G,z⟩;have hb:=kP (k0 x1) y;by_cases a:47∈bJ s
 ·have d:=G a;subst d;obtain⟨H,I⟩:=R7 a;have hle:(wA (bJ s)).length+(tQ (bJ s)).length+1=s.size:=by
   have:=ca List.length H;rw[lB];simp at this;omega
  have R:(st (wA (bJ s))).size=(wA (bJ s)).length:=rfl;have J:(st (tQ (bJ s))).size=(tQ (bJ s)).length:=rfl;have fin:∀(b:Bool),b=kH (bJ s)->∃p q,Value.tuple #[.agg #[.string (st (wA (bJ s))),.string (st (tQ (bJ s)))],.bool b]=Value.tuple #[.agg #[.string p,.string q],.bool (kH (bJ s))]/\(kH (bJ s)=true->p=iS (yI (bJ s)).num/\q=nS (yI (bJ s)).den):=by
   intro b K;refine⟨_,_,by rw[K],fun hi=> ?_⟩;have e:=GN hi;obtain⟨r,L⟩:∃r,r=yI (bJ s):=⟨_,rfl⟩
   rw[<-L]at e⊢;rw[<-e]at a⊢;unfold qS at a⊢;split at a
   ·exact absurd a (ku _)
   ·rename_i A;rw[aq A,GL (ku _),GM (ku _)];exact⟨rfl,rfl⟩
  have c:kH (bJ s)=(isInt (wA (bJ s))&&wA (bJ s) !=[48]&&isNat (tQ (bJ s))&&tQ (bJ s) !=[48]&&tQ (bJ s) !=[49]&&Nat.gcd (kX (wA (bJ s))).natAbs (eS (tQ (bJ s)))==1):=by
   unfold kH;rw[bm a]
  have m:∀l:Tx,st l≠(⟨#[48]⟩:ByteArray)↔l≠[48]:=fun l=>⟨fun h k=>h (by rw[k];rfl),fun h k=>h (CO (k.trans rfl:st l=st [48]))⟩
  have g:∀l:Tx,st l≠(⟨#[49]⟩:ByteArray)↔l≠[49]:=fun l=>⟨fun h k=>h (by rw[k];rfl),fun h k=>h (CO (k.trans rfl:st l=st [49]))⟩
  refine⟨_,_,_,rfl,fun h=>(by cases h),fun _=>pm (jt _ om _) ?_⟩;rintro v M i rfl;rw[oQ];refine⟨_,rfl,fun h1=>⟨fun n=>pm (bZ _ om _) ?_,fun n B _=>fin _ ?_⟩,fun h1 B _=>fin _ ?_⟩
  ·rintro v B C rfl;rw[oQ];rw[m]at n;refine⟨_,rfl,fun j=>⟨fun o=>⟨fun x=> ?_,fun x D _=>fin _ ?_⟩,fun o D _=>fin _ ?_⟩,fun j D _=>fin _ ?_⟩
   ·rw[m]at o;rw[g]at x;have N:st (wA (bJ s))=iS (kX (wA (bJ s))):=by unfold iS;rw[wz h1]
    have eq:st (tQ (bJ s))=nS (eS (tQ (bJ s))):=by unfold nS;rw[pO j]
    have lp:(kX (wA (bJ s))).natAbs<fR:=by
     have:=GK (kX (wA (bJ s)));rw[wz h1]at this;exact pv this om
    have lq:eS (tQ (bJ s))<fR:=by
     have:=BZ (eS (tQ (bJ s)));rw[pO j]at this;exact pv this om
    have E:=gC (hg.next (kP (kP hb i) C)) lp lq;rw[<-N,<-eq]at E;refine pm E ?_;rintro v D _ rfl;refine⟨_,rfl,fun S _=>fin _ ?_⟩;rw[c,h1,j,OM];have a2:(wA (bJ s) !=[48])=true:=by simpa using n
    have a4:(tQ (bJ s) !=[48])=true:=by simpa using o
    have a5:(tQ (bJ s) !=[49])=true:=by simpa using x
    rw[a2,a4,a5];simp only[zi,aaJ];rfl
   ·have:tQ (bJ s)=[49]:=by apply bB;intro k;exact x ((g _).2 k)
    rw[c,this];simp
   ·have:tQ (bJ s)=[48]:=by apply bB;intro k;exact o ((m _).2 k)
    rw[c,this];simp
   ·rw[c,j];simp
  ·have:wA (bJ s)=[48]:=by apply bB;intro k;exact n ((m _).2 k)
   rw[c,this];simp
  ·rw[c,h1];simp
 ·have d:=z a;subst d;have c:kH (bJ s)=isInt (bJ s):=by unfold kH;rw[aq a]
  refine⟨_,_,_,rfl,fun _=>pm (jt _ om _) ?_,fun h=>by simp at h⟩;rintro v M i rfl;refine⟨_,rfl,fun B _=>⟨_,_,by rw[c],fun hi=> ?_⟩⟩;have d:yI (bJ s)=(kX (bJ s):Rat):=by unfold yI;rw[aq a]
  rw[c]at hi;have O:((kX (bJ s):Rat)).num=kX (bJ s):=rfl;have P:((kX (bJ s):Rat)).den=1:=rfl;rw[d,O,P];refine⟨?_,OM⟩;unfold iS;rw[wz hi];rfl

theorem lC.size{r:Rat}(h:lC r):(rS r).size<=800000:=by
 have:=h.length om;show(qS r).length<=_;omega
theorem sN{w:World}{r:Rat}(hg:bj w)(h:lC r):Pure Tryz.prog 101 #[.string (rS r)] w fun v _=>v= .tuple #[fV r,.bool true]:=by
 refine pm (ju hg _ h.size) ?_;rintro v b _ ⟨p,q,rfl,a⟩;rw[aei,LK,yJ]at*;obtain⟨rfl,rfl⟩:=a rfl;rfl
theorem dN{w:World}(hg:bj w)(s:ByteArray)(hs:s.size<=800000):Pure Tryz.prog 62 #[.string s] w fun v _=>v= .bool (kH (bJ s)):=by
 refine F.dN.vc (pm (ju hg s hs) ?_);rintro v a _ ⟨p,q,rfl,_⟩;exact⟨_,_,_,rfl,fun b _=>rfl⟩
theorem jw{w:World}{x y:Rat}(hg:bj w)(hx:lC x)(hy:lC y):
  Pure Tryz.prog 273 #[.string (rS x),.string (rS y)] w fun v _=>v= .tuple #[fV x,fV y,.int .i64 0]:=by
 refine F.jw.vc fun w1 x1=>pm (sN (hg.next (k0 x1)) hx) ?_
 rintro v d a rfl;refine⟨_,_,_,rfl,fun e b=>pm (sN (hg.next (kE (kP (k0 x1) a) b)) hy) ?_⟩;rintro v g _ rfl;exact⟨_,_,_,rfl,fun h=>(by simp at h),fun _=>⟨fun h=>(by simp at h),fun _=>⟨fun c _=>rfl,fun c _=>rfl⟩⟩⟩

theorem ED{r:Rat}(h:Sm 300000 r)(w:World):Pure Tryz.prog 314 #[fV r] w fun v _=>v= .string (rS r):=by
 have l1:(iS r.num).size<=300001:=h.int om;have b:(nS r.den).size<=300000:=h.nat om;refine F.lM.vc ⟨fun h1 w1 _=> ?_,fun h1=>⟨?_,?_,fun w1 _=> ?_⟩⟩
 ·rw[OM]at h1;have:=xS h1;unfold rS qS;rw[bm this];rfl
 ·show _+1<=_;omega
 ·rw[eU];show _+1+_<=_;omega
 ·rw[OM]at h1;have a:r.den≠1:=fun k=>h1 (by rw[k])
  have e:rS r=st (kW r.num++47::fb r.den):=by unfold rS qS;rw[aq a]
  rw[e]
  congr 1
  apply xM;simp[bJ,st,iS,nS,TJ]

theorem xo{r:Rat}(h:lC r)(w:World):Pure Tryz.prog 274 #[fV r] w fun v _=>v= .int .i64 (gO r 0):=by
 refine F.lL.vc fun w1 _=>pm (mL (h.I9 om) _) ?_
 rintro v a _ rfl;refine⟨_,_,rfl,?_⟩;rw[Sa]
theorem gX{r:Rat}(h:lC r)(w:World):Pure Tryz.prog 346 #[fV r] w fun v _=>v=fV (-r):=by
 refine F.gX.vc fun w1 _=>pm (oU (h.I9 om) _) ?_
 rintro v a _ rfl;exact⟨_,_,rfl,fun b _=>rfl⟩

theorem gT{r:Rat}(h:lC r)(w:World):
  Pure Tryz.prog 354 #[fV r] w fun v _=>v= .tuple #[.int .i64 0,.int .i64 0,.bool false]∨(v= .tuple #[.int .i64 r.num,.int .i64 (r.den:Int),.bool true]/\r.num.natAbs<1000000000/\r.den<1000000000):=by
 refine F.jY.vc ⟨fun _ w1 _=> .inl rfl,fun h1=>⟨fun _ w1 _=> .inl rfl,fun a w1 _=> ?_⟩⟩;have l1:=GK r.num;have b:=BZ r.den;have c:(iS r.num).size=(kW r.num).length:=rfl;have d:(nS r.den).size=(fb r.den).length:=rfl;have p1:10^(kW r.num).length<=10^9:=gb om om;have p2:10^(fb r.den).length<=10^9:=gb om om;refine pm (ParseInt10 r.num om _) ?_;rintro v e _ rfl;refine⟨_,_,rfl,?_⟩;rw[<-qp];refine pm (ParseInt10 (r.den:Int) om _) ?_;rintro v g _ rfl;exact⟨_,_,rfl,.inr ⟨rfl,om,om⟩⟩

theorem aem{w0:World}(hg:bj w0){p:Int}{q:Nat}{R:Value->World->Prop}(hp:p.natAbs<9000000000000000000)(e:q≠0)(K:q<9000000000000000000)(B:∀w,R (fV (mkRat p q)) w):
  ∀(n:Nat)(b a:Int)(s t:ByteArray)(w:World),b.natAbs<=n->Below w0.heap.size w0 w->Nat.gcd a.natAbs b.natAbs=Nat.gcd p.natAbs q->a.natAbs<9000000000000000000->b.natAbs<9000000000000000000->F.dO.L2 p q a b s t w0.heap.size w R:=by
 obtain⟨z,A⟩:=wB (p:=p) e;obtain⟨g,l⟩:∃g,g=Nat.gcd p.natAbs q:=⟨_,rfl⟩
 have C:g≠0:=by rw[l];intro k;exact e (Tr k)
 have m:(g:Int)∣p:=by rw[l];exact Int.ofNat_dvd_left.2 (Yx _ _)
 rw[<-l]at z A⊢;intro n;induction n with
 |zero=>
  intro b a s t w hb c d ha o;have j:b=0:=om;subst j;rw[Int.natAbs_zero,WD]at d;refine F.dO.L2.step ⟨fun h=>absurd rfl h,fun _=> ?_⟩;have D:(if(-a)>a then(-a)else a)=(g:Int):=by split<;>omega
  rw[D];have E:(p / (g:Int)).natAbs<=p.natAbs:=Int.natAbs_ediv_le_natAbs _ _;have L:=Mz q g;have G:Int.tdiv p (g:Int)=p / (g:Int):=Int.tdiv_eq_ediv_of_dvd m;have H:IntKind.wrap .i64 (Int.tdiv p (g:Int))=p / (g:Int):=by rw[G];exact wrap64 ir
  refine⟨ir,om,⟨om,om,ir⟩,fun w1 x1=> ?_⟩;rw[H];have i:=kE c x1;refine pm (AQ (hg.next i) _ om om) ?_;rintro v M r rfl;have I:(q:Int) / (g:Int)=((q / g:Nat):Int):=by simp
  refine⟨_,rfl,?_⟩;rw[I];refine pm (AQ (hg.next (kP i r)) _ om om) ?_;rintro v N _ rfl;refine⟨_,rfl,fun J _=> ?_⟩;have:=B J;rw[qp,<-z,<-A];exact this
 |succ n ih=>
  intro b a s t w hb c d ha o;by_cases j:b=0
  ·exact ih b a s t w om c d ha o
  refine F.dO.L2.step ⟨fun _=>⟨j,fun w1 x1=> ?_⟩,fun h=>absurd j h⟩;have O:=NB a.natAbs (show 0<b.natAbs by omega);have x:(Int.tmod a b).natAbs=a.natAbs % b.natAbs:=Int.natAbs_tmod _ _;have y:Nat.gcd b.natAbs (a.natAbs % b.natAbs)=g:=by rw[SS,<-Nat.gcd_rec,SS];exact d
  exact ih (Int.tmod a b) b s t w1 om (kE c x1) (by rw[x];exact y) o om

theorem dO{w:World}(hg:bj w){p:Int}{q:Nat}(hp:p.natAbs<9000000000000000000)(a:q≠0)(b:q<9000000000000000000):
  Pure Tryz.prog 355 #[.int .i64 p,.int .i64 (q:Int)] w fun v _=>v=fV (mkRat p q):=
 F.dO.vc fun w1 x1=>aem hg hp a b (fun _=>rfl) _ (q:Int) p _ _ w1 lf (k0 x1) sm hp (by simpa using b)

theorem Sk{a b:Nat}(ha:a<1000000000)(hb:b<1000000000):a*b<1000000000000000000:=YA ha hb
theorem So{a b:Int}(ha:a.natAbs<1000000000)(hb:b.natAbs<1000000000):(a*b).natAbs<1000000000000000000:=by
 rw[EL];exact Sk ha hb

theorem jx{w:World}{x y:Rat}(hg:bj w)(hx:lC x)(hy:lC y):
  Pure Tryz.prog 343 #[fV x,fV y] w fun v _=>v=fV (x+y):=by
 have ex:=Rat.add_def' x y;have C:=tS x y;have n1:=ja hx.1 hy.2;have n2:=ja hy.1 hx.2;have I:(x.num*(y.den:Int)).natAbs=x.num.natAbs*y.den:=by rw[EL,wV]
 have a2:(y.num*(x.den:Int)).natAbs=y.num.natAbs*x.den:=by rw[EL,wV]
 have m1:(x.num*(y.den:Int)).natAbs<fR:=by rw[I];exact pv n1 om
 have m2:(y.num*(x.den:Int)).natAbs<fR:=by rw[a2];exact pv n2 om
 have m3:(x.num*(y.den:Int)+y.num*(x.den:Int)).natAbs<fR:=pv (CY hx hy) om;have m4:x.den*y.den<fR:=pv (tR hx hy) om;have long:∀w',Below w.heap.size w w'->Pure Tryz.prog 275 #[.string (iS x.num),.string (nS y.den)] w' fun r J=>∃(D:ByteArray)(i39:Int),r=(.tuple #[(.string D),(.int .i64 i39)])/\(Pure Tryz.prog 275 #[(.string (iS y.num)),(.string (nS x.den))] J fun n K=>∃(c:ByteArray)(i43:Int),n=(.tuple #[(.string c),(.int .i64 i43)])/\(Pure Tryz.prog 356 #[(.string D),(.string c)] K fun o L=>∃(d:ByteArray)(i47:Int),o=(.tuple #[(.string d),(.int .i64 i47)])/\(Pure Tryz.prog 324 #[(.string (nS x.den)),(.string (nS y.den))] L fun q z=>∃(E:ByteArray)(i51:Int),q=(.tuple #[(.string E),(.int .i64 i51)])/\(Pure Tryz.prog 357 #[(.string d),(.string E)] z fun A M=>∃(e:ByteArray)(g:ByteArray),A=(.agg #[(.string e),(.string g)])/\(∀N,Ext w.heap.size [184] M N->(Value.agg #[(.string e),(.string g)]=fV (x+y))))))):=by
  intro w1 i;rw[<-qp y.den];refine pm (gW (hg.next i) (hx.I9 om) (by rw[wV];exact hy.Ja om) m1) ?_;rintro v O B rfl;have b:=kP i B;refine⟨_,_,rfl,?_⟩;rw[<-qp x.den];refine pm (gW (hg.next b) (hy.I9 om) (by rw[wV];exact hx.Ja om) m2) ?_;rintro v j k rfl;have a:=kP b k;refine⟨_,_,rfl,pm (oT (hg.next a) m1 m2 m3) ?_⟩;rintro v P Q rfl;have l:=kP a Q;refine⟨_,_,rfl,?_⟩;rw[qp,qp];refine pm (jR (hg.next l) (hx.Ja om) (hy.Ja om)) ?_;rintro v R S rfl;have T:=kP l S;refine⟨_,_,rfl,pm (gS (hg.next T) m3 m4 C) ?_⟩;rintro v U V rfl;refine⟨_,_,rfl,fun W _=> ?_⟩;rw[<-ex]
 refine F.jx.vc fun w1 x1=>pm (gT hx _) ?_
 rintro v O B m;have b:=kP (k0 x1) B;rcases m with rfl|⟨rfl,p1,p2⟩
 ·refine⟨_,_,_,rfl,pm (gT hy _) ?_⟩;rintro v j k m;have a:=kP b k;rcases m with rfl|⟨rfl,_⟩
  ·exact⟨_,_,_,rfl,fun h=>(by cases h),fun _=>long j a⟩
  ·exact⟨_,_,_,rfl,fun h=>(by cases h),fun _=>long j a⟩
 ·refine⟨_,_,_,rfl,pm (gT hy _) ?_⟩;rintro v j k m;have a:=kP b k;rcases m with rfl|⟨rfl,q1,G⟩
  ·exact⟨_,_,_,rfl,fun _=>⟨fun h=>(by cases h),fun _=>long j a⟩,fun h=>(by cases h)⟩
  ·have X:=Sk p1 G;have Y:=Sk q1 p2;have Z:=Sk p2 G;have H:(x.den:Int)*(y.den:Int)=((x.den*y.den:Nat):Int):=by simp
   refine⟨_,_,_,rfl,fun _=>⟨fun _=>⟨ir,ir,ir,by rw[H];simp only[aN];omega,?_⟩,fun h=>(by cases h)⟩,fun h=>(by cases h)⟩;rw[H];refine pm (dO (hg.next a) om C om) ?_;rintro v P _ rfl;refine⟨_,_,rfl,fun R _=> ?_⟩;rw[<-ex]

theorem jX{w:World}{x y:Rat}(hg:bj w)(hx:lC x)(hy:lC y):
  Pure Tryz.prog 344 #[fV x,fV y] w fun v _=>v=fV (x*y):=by
 have ex:=Rat.mul_def' x y;have o:=tS x y;have B:(x.num*y.num).natAbs=x.num.natAbs*y.num.natAbs:=EL _ _;have m1:(x.num*y.num).natAbs<fR:=by rw[B];exact pv (ja hx.1 hy.1) om
 have m4:x.den*y.den<fR:=pv (tR hx hy) om;have long:∀w',Below w.heap.size w w'->Pure Tryz.prog 275 #[.string (iS x.num),.string (iS y.num)] w' fun r C=>∃(q:ByteArray)(i39:Int),r=(.tuple #[(.string q),(.int .i64 i39)])/\(Pure Tryz.prog 324 #[(.string (nS x.den)),(.string (nS y.den))] C fun k l=>∃(z:ByteArray)(i51:Int),k=(.tuple #[(.string z),(.int .i64 i51)])/\(Pure Tryz.prog 357 #[(.string q),(.string z)] l fun m D=>∃(b:ByteArray)(c:ByteArray),m=(.agg #[(.string b),(.string c)])/\(∀E,Ext w.heap.size [184] D E->(Value.agg #[(.string b),(.string c)]=fV (x*y))))):=by
  intro w1 d;refine pm (gW (hg.next d) (hx.I9 om) (hy.I9 om) m1) ?_;rintro v G H rfl;have e:=kP d H;refine⟨_,_,rfl,pm (jR (hg.next e) (hx.Ja om) (hy.Ja om)) ?_⟩;rintro v I J rfl;have K:=kP e J;refine⟨_,_,rfl,pm (gS (hg.next K) m1 m4 o) ?_⟩;rintro v N O rfl;refine⟨_,_,rfl,fun P _=> ?_⟩;rw[<-ex]
 refine F.jX.vc fun w1 x1=>pm (gT hx _) ?_
 rintro v Q L g;have i:=kP (k0 x1) L;rcases g with rfl|⟨rfl,p1,p2⟩
 ·refine⟨_,_,_,rfl,pm (gT hy _) ?_⟩;rintro v j n g;have a:=kP i n;rcases g with rfl|⟨rfl,_⟩
  ·exact⟨_,_,_,rfl,fun h=>(by cases h),fun _=>long j a⟩
  ·exact⟨_,_,_,rfl,fun h=>(by cases h),fun _=>long j a⟩
 ·refine⟨_,_,_,rfl,pm (gT hy _) ?_⟩;rintro v j n g;have a:=kP i n;rcases g with rfl|⟨rfl,q1,M⟩
  ·exact⟨_,_,_,rfl,fun _=>⟨fun h=>(by cases h),fun _=>long j a⟩,fun h=>(by cases h)⟩
  ·have R:=So p1 q1;have S:=Sk p2 M;have A:(x.den:Int)*(y.den:Int)=((x.den*y.den:Nat):Int):=by simp
   refine⟨_,_,_,rfl,fun _=>⟨fun _=>⟨ir,by rw[A];simp only[aN];omega,?_⟩,fun h=>(by cases h)⟩,fun h=>(by cases h)⟩;rw[A];refine pm (dO (hg.next a) om o om) ?_;rintro v G _ rfl;refine⟨_,_,rfl,fun I _=> ?_⟩;rw[<-ex]

theorem GU{w:World}{B r:Nat}(o:Obj)(a:B<=r):Below B w {w with heap:=w.heap.setIfInBounds r o}:=
 ⟨rfl,rfl,rfl,sm,fun k b=>by simp[Od,show r≠k by omega]⟩
theorem yM{w:World}{B r:Nat}{es:Array MapEntry}{clock:Nat}{key:Int}{val:Value}{K:World->Prop}(hb:w.heap[r]? =some (.map es clock))(hB:B<=r)
  (hf:Instr.findNow (.int .u8) (.int .u8 key) es.toList 0=some none) (b:∀w',w'.heap[r]? =some (.map (es.push {key:= .int .u8 key,val:=val,born:=clock}) (clock+1))->K w'):
  eM Tryz.prog (Instr.mapUpdate 376 (.map (some r)) (.int .u8 key) val) B [] w K:=by
 have hm:=Tryz.underlying376;have a:=Tryz.underlying5;have c:(Instr.checkKey false 10000 5 (.int .u8 key)).run Tryz.prog w= .ok () w:=MapKept.run_checkKey a (by simp[MapKept.IsKey]) false 9999;refine⟨{w with heap:=w.heap.setIfInBounds r (.map (es.push {key:= .int .u8 key,val:=val,born:=clock}) (clock+1))},?_,GU _ hB,sm,fun k ty cs h=>(by cases h),b _ ?_⟩
 ·simp[Instr.mapUpdate,run_underlying hm,MapKept.run_getObj_map hb,c,MapKept.run_findKey a hf,MapKept.run_setObj_map _ hb,Result.andThen]
 ·have:=(ax.1 hb).1;simp[Od,this]

def De:Array MapEntry:= #[{key:= .int .u8 43,val:= .func (.func 343) #[] #[],born:=0},{key:= .int .u8 42,val:= .func (.func 344) #[] #[],born:=1},
 {key:= .int .u8 45,val:= .func (.func 345) #[] #[],born:=2},{key:= .int .u8 47,val:= .func (.func 347) #[] #[],born:=3}]

theorem gd(w:World):Pure Tryz.prog 329 #[] w fun v w'=>∃r,v= .map (some r)/\w'.heap[r]? =some (.map De 4):=by
 have hg:=World.grownBy_alloc w (.map #[] 0) none;refine F.gd.vc ⟨_,_,(by simp[Instr.makeMap]:(Instr.makeMap 376 none).run Tryz.prog w= .ok (.map (some w.heap.size)) (w.alloc (.map #[] 0))),bT hg sm lf,hg.size,fun k ty cs h=>(by cases h),_,rfl,?_⟩;refine yM (World.alloc_heap_new w _) lf rfl fun e a=> ?_
 refine yM a lf rfl fun g b=> ?_
 refine yM b lf rfl fun i c=> ?_
 refine yM c lf rfl fun j d=> ?_
 exact⟨_,rfl,d⟩
theorem mN(w:World):Pure Tryz.prog 313 #[] w fun v w'=>∃r,v= .map (some r)/\w'.heap[r]? =some (.map De 4):=by
 refine F.mN.vc (pm (gd w) ?_);rintro v a _ ⟨r,rfl,h⟩;exact⟨_,rfl,r,rfl,h⟩

theorem aaL{w:World}{r:Nat}{key:Int}{f i:Nat}(h:w.heap[r]? =some (.map De 4))(hf:Instr.findNow (.int .u8) (.int .u8 key) De.toList 0=some (some (i,.func (.func f) #[] #[]))):
  (Instr.lookup 376 (.map (some r)) (.int .u8 key) false).run Tryz.prog w= .ok (.func (.func f) #[] #[]) w:=by
 have hm:=Tryz.underlying376;have a:=Tryz.underlying5;have b:(Instr.checkKey De.isEmpty 10000 5 (.int .u8 key)).run Tryz.prog w= .ok () w:=MapKept.run_checkKey a (by simp[MapKept.IsKey]) _ 9999;simp[Instr.lookup,run_underlying hm,MapKept.run_getObj_map h,b,MapKept.run_findKey a hf,Result.andThen]

theorem Df{w:World}{x y:Rat}(hg:bj w)(hx:lC x)(hy:lC y):
  Pure Tryz.prog 345 #[fV x,fV y] w fun v _=>v=fV (x - y):=by
 refine F.jd.vc fun w1 x1=>pm (gX hy _) ?_
 rintro v b a rfl;refine⟨_,_,rfl,pm (jx (hg.next (kP (k0 x1) a)) hx hy.neg) ?_⟩;rintro v c _ rfl;refine⟨_,_,rfl,fun d _=> ?_⟩;rw[Xg]

theorem gI{w:World}{x y z:Rat}{key:Int}{f i:Nat}(hg:bj w)(hx:lC x)(hy:lC y)(hz:Sm 300000 z)(m:key≠47)(hf:Instr.findNow (.int .u8) (.int .u8 key) De.toList 0=some (some (i,.func (.func f) #[] #[])))
  (n:av Tryz.prog f=true) (h:∀w,bj w->Pure Tryz.prog f #[fV x,fV y] w fun v _=>v=fV z):
  Pure Tryz.prog 292 #[.int .u8 key,.string (rS x),.string (rS y)] w fun v _=>v= .tuple #[.string (rS z),.int .i64 0]:=by
 refine F.gI.vc (pm (jw hg hx hy) ?_);rintro v D o rfl;have call:∀e,Below w.heap.size w e->av Tryz.prog f=true/\(Pure Tryz.prog f ((Array.toList (#[]:Array Value))++([(.agg #[(.string (iS x.num)),(.string (nS x.den))]),(.agg #[(.string (iS y.num)),(.string (nS y.den))])]:List Value)++(Array.toList (#[]:Array Value))).toArray e fun g q=>∃(b:ByteArray)(c:ByteArray),g=(.agg #[(.string b),(.string c)])/\(Pure Tryz.prog 314 #[(.agg #[(.string b),(.string c)])] q fun j E=>∃(l:ByteArray),j=(.string l)/\(Value.tuple #[(.string l),(.int .i64 (0:Int))]= .tuple #[.string (rS z),.int .i64 0]))):=by
  intro e hb;refine⟨n,pm (h e (hg.next hb)) ?_⟩;rintro v G _ rfl;refine⟨_,_,rfl,pm (ED hz _) ?_⟩;rintro v H _ rfl;exact⟨_,rfl,rfl⟩
 have look:∀d r,Below w.heap.size w d->d.heap[r]? =some (.map De 4)->∀tys,∀K:Value->World->Prop,K (.func (.func f) #[] #[]) d->ae Tryz.prog (Instr.lookup 376 (.map (some r)) (.int .u8 key) false) w.heap.size tys d K:=by
  intro d r hb k tys K A;exact⟨_,_,aaL k hf,Below.refl _ _,ga _,fun _ _ _ _ h=>rfl,A⟩
 refine⟨_,_,_,_,_,rfl,fun h=>absurd rfl h,fun _=>⟨fun h=>absurd h m,fun _=> ?_⟩⟩
 repeat' apply And.intro
 all_goals (intro I B;refine pm (mN _) ?_;rintro v J C ⟨r,rfl,k⟩;have a:=kP (kE o B) C;refine⟨_,rfl,?_⟩)
 all_goals repeat' apply And.intro
 all_goals (refine look _ r a k _ _ ⟨_,_,_,rfl,?_⟩)
 all_goals first|exact call _ a|exact⟨call _ a,call _ a⟩

theorem jb{w:World}{x y:Rat}(hg:bj w)(hx:lC x)(hy:lC y):
  Pure Tryz.prog 257 #[.string (rS x),.string (rS y)] w fun v _=>v= .tuple #[.string (rS (x+y)),.int .i64 0]:=by
 refine F.jb.vc (pm (gI hg hx hy ((hx.add hy).mono om) om rfl kF fun w hg=>jx hg hx hy) ?_);rintro v a _ rfl;exact⟨_,_,rfl,rfl⟩
theorem kz{w:World}{x y:Rat}(hg:bj w)(hx:lC x)(hy:lC y):
  Pure Tryz.prog 259 #[.string (rS x),.string (rS y)] w fun v _=>v= .tuple #[.string (rS (x - y)),.int .i64 0]:=by
 refine F.kz.vc (pm (gI hg hx hy ((hx.sub hy).mono om) om rfl kF fun w hg=>Df hg hx hy) ?_);rintro v a _ rfl;exact⟨_,_,rfl,rfl⟩
theorem jc{w:World}{x y:Rat}(hg:bj w)(hx:lC x)(hy:lC y):
  Pure Tryz.prog 258 #[.string (rS x),.string (rS y)] w fun v _=>v= .tuple #[.string (rS (x*y)),.int .i64 0]:=by
 refine F.jc.vc (pm (gI hg hx hy ((hx.mul hy).mono om) om rfl kF fun w hg=>jX hg hx hy) ?_);rintro v a _ rfl;exact⟨_,_,rfl,rfl⟩

theorem eT {w : World} {x y : Rat} (hg : bj w) (hx : lC x) (hy : lC y) :
    Pure Tryz.prog 232 #[.string (rS x), .string (rS y)] w fun v _ => v = .tuple #[.int .i64 (gO x y), .int .i64 0] := by
  refine F.eT.vc (pm (jw hg hx hy) ?_)
  rintro v H q rfl
  refine ⟨_, _, _, _, _, rfl, fun h => absurd rfl h, fun _ => ⟨fun h r _ => ?_, fun A r B => pm (xo hx _) ?_⟩⟩
  · have : x = y := R8 (CO h)
    subst this
    rw [B3.2 rfl]
  rintro v I C rfl
  have j := kP (kE q B) C
  refine ⟨_, rfl, pm (xo hy _) ?_⟩
  rintro v J D rfl
  have m := kP j D
  have a : ∀ z : Rat, (z < 0 ∧ gO z 0 = -1) ∨ (z = 0 ∧ gO z 0 = 0) ∨ (0 < z ∧ gO z 0 = 1) := by
    intro z
    unfold gO
    by_cases h1 : z < 0
    · rw [bm h1]; exact .inl ⟨h1, rfl⟩
    · rw [aq h1]
      by_cases d : 0 < z
      · rw [bm d]; exact .inr (.inr ⟨d, rfl⟩)
      · rw [aq d]; exact .inr (.inl ⟨Rat.le_antisymm (Xh.1 d) (Xh.1 h1), rfl⟩)
  have sgn : (x.num * (y.den : Int) - y.num * (x.den : Int)).sign = gO x y := by
    have h1 := I7 x y
    have d := I7 y x
    have K := R9 x y
    unfold gO
    rcases Int.lt_trichotomy (x.num * (y.den : Int) - y.num * (x.den : Int)) 0 with k | k | k
    · rw [bm (h1.2 k), Qw k]
    · rw [aq (fun c => by have := h1.1 c; omega), aq (fun c => by have := d.1 c; omega), k]; rfl
    · rw [aq (fun c => by have := h1.1 c; omega), bm (d.2 om), Tm k]
  refine ⟨_, rfl, fun hs => ?_, fun hs => ?_⟩
  · have e : gO x y = (if (if (1 : Int) < (gO x 0 - gO y 0) then (1 : Int) else (gO x 0 - gO y 0)) > (-1 : Int) then (if (1 : Int) < (gO x 0 - gO y 0) then (1 : Int) else (gO x 0 - gO y 0)) else (-1 : Int)) := by
      rcases a x with ⟨i, a2⟩ | ⟨i, a2⟩ | ⟨i, a2⟩ <;> rcases a y with ⟨n, g⟩ | ⟨n, g⟩ | ⟨n, g⟩ <;> rw [a2, g] at hs ⊢ <;> first | exact absurd rfl hs | skip
      all_goals first
        | (have b : x < y := by grind
           have l : gO x y = -1 := by unfold gO; rw [bm b]
           rw [l]; rfl)
        | (have b : y < x := by grind
           have l : gO x y = 1 := by unfold gO; rw [aq (Xh.2 (Rat.le_of_lt b)), bm b]
           rw [l]; rfl)
    refine ⟨?_, ?_⟩
    · rcases a x with ⟨_, a2⟩ | ⟨_, a2⟩ | ⟨_, a2⟩ <;> rcases a y with ⟨_, g⟩ | ⟨_, g⟩ | ⟨_, g⟩ <;> rw [a2, g] <;> simp only [aN] <;> omega
    · rw [← e]
  · have n1 := ja hx.1 hy.2
    have n2 := ja hy.1 hx.2
    have i : (x.num * (y.den : Int)).natAbs = x.num.natAbs * y.den := by rw [EL, wV]
    have a2 : (y.num * (x.den : Int)).natAbs = y.num.natAbs * x.den := by rw [EL, wV]
    have m1 : (x.num * (y.den : Int)).natAbs < fR := by rw [i]; exact pv n1 om
    have m2 : (y.num * (x.den : Int)).natAbs < fR := by rw [a2]; exact pv n2 om
    rw [← qp y.den, ← qp x.den]
    refine pm (gW (hg.next m) (hx.I9 om) (by rw [wV]; exact hy.Ja om) m1) ?_
    rintro v L E rfl
    have o := kP m E
    refine ⟨_, _, rfl, pm (gW (hg.next o) (hy.I9 om) (by rw [wV]; exact hx.Ja om) m2) ?_⟩
    rintro v M G rfl
    refine ⟨_, _, rfl, pm (js (hg.next (kP o G)) m1 m2) ?_⟩
    rintro v N _ rfl
    refine ⟨_, _, rfl, ?_⟩
    rw [sgn]

def bW(w:World)(A:Option Addr)(sz:Nat)(rows:List (List Value)):Prop:=
 rows=[]∨∃b off cs ty fr,A=some ⟨b,off,none⟩/\w.heap[b]? =some (.cells cs ty fr)/\∀i,(h:i<rows.length)->∀j,(hj:j<rows[i].length)->rows[i].length=sz/\cs[off+i*sz+j]? =some (rows[i][j])

theorem bW.below{w w':World}{A:Option Addr}{sz:Nat}{rows:List (List Value)}(h:bW w A sz rows)(hb:Below w.heap.size w w'):bW w' A sz rows:=by
 rcases h with h|⟨b,off,cs,ty,fr,c,a,d⟩
 ·exact .inl h
 ·exact .inr ⟨b,off,cs,ty,fr,c,(hb.block b (ax.1 a).1).trans a,d⟩
theorem bW.ar{w w':World}{A:Option Addr}{sz B:Nat}{rows:List (List Value)}(h:bW w A sz rows)(hb:Below B w w')(hB:w.heap.size<=B):bW w' A sz rows:=h.below (hb.mono hB)
theorem yN(b off i j sz:Nat):(((⟨b,off,none⟩:Addr).add (i*sz)).add j)=⟨b,off+i*sz+j,none⟩:=by
 have a:∀o k:Nat,(⟨b,o,none⟩:Addr).add k=⟨b,o+k,none⟩:=by
  intro o k;unfold Addr.add;split
  ·rename_i h;subst h;rfl
  ·rfl
 rw[a,a]

theorem bW.load{w:World}{A:Option Addr}{sz n:Nat}{rows:List (List Value)}(h:bW w A sz rows)(hl:rows.length=n){j:Int}(l:0<=j)(h1:j<n):
  (0<=j/\j<n)/\∃a,A=some a/\∀row,rows[j.toNat]? =some row->row.length=sz->aa w (a.add (j.toNat*sz)) row/\∀k v,row[k]? =some v->aa w ((a.add (j.toNat*sz)).add k) [v]:=by
 refine⟨⟨l,h1⟩,?_⟩;rcases h with h|⟨b,off,cs,ty,fr,m,o,q⟩
 ·subst h;simp at hl;omega
 ·refine⟨_,m,fun row r hlen=> ?_⟩;have hj:j.toNat<rows.length:=om;have g:rows[j.toNat]=row:=by simpa[hj]using r
  have c:∀k v,row[k]? =some v->w.cell? (((⟨b,off,none⟩:Addr).add (j.toNat*sz)).add k)=some v:=by
   intro k v d;obtain⟨e,x⟩:=ek.1 d;rw[yN];simp only[World.cell?,o];have:=(q j.toNat hj k (by rw[g];exact e)).2;rw[this];subst g;simp[x]
  refine⟨fun i hi=>c i _ (by simp[hi]),fun k v d i hi=> ?_⟩;simp at hi;subst hi;have:=c k v d;rw[show((((⟨b,off,none⟩:Addr).add (j.toNat*sz)).add k).add 0)=(((⟨b,off,none⟩:Addr).add (j.toNat*sz)).add k) by simp[Addr.add]];exact this

def ay(w:World)(B ty:Nat)(A:Option Addr)(n c sz:Nat)(rows:List (List Value)):Prop:=
 w.ownsRow B ty sz (.slice A n c) n rows.flatten/\rows.length=n/\∀r∈rows,r.length=sz
theorem ay.sl{w:World}{B ty:Nat}{A:Option Addr}{n c sz:Nat}{rows:List (List Value)}(h:ay w B ty A n c sz rows):bW w A sz rows:=by
 obtain⟨h,hl,b⟩:=h;rcases h.2 with⟨h1,l⟩|⟨g,cap,cur,h1,hb,hg,m,hm,hs,d⟩
 ·left
  exact eR om
 ·cases h1;refine .inr ⟨g,0,cur,ty,_,rfl,hg,fun i hi j hj=>⟨b _ (bx _),?_⟩⟩;have hlen:rows[i].length=sz:=b _ (bx _);have key:rows.flatten[i*sz+j]? =some (rows[i][j]):=by
   clear d h hl;induction rows generalizing i with
   |nil=>simp at hi
   |cons r rs ih=>
    have o:r.length=sz:=b r sm;cases i with
    |zero=>
     have a:j<r.length:=hj;rw[VQ,mC,wR,hN a];simp[a]
    |succ i=>
     have k:i<rs.length:=by simpa using hi
     have a:j<rs[i].length:=hj;rw[wR,iB (by rw[qh];omega)];have:=ih (fun x hx=>b x (by simp[hx])) i k a hlen;have e:(i+1)*sz+j - r.length=i*sz+j:=by rw[qh];omega
     rw[e,this];rfl
  rw[<-d,k7]at key;split at key
  ·simpa using key
  ·cases key
theorem ay.len{w:World}{B ty:Nat}{A:Option Addr}{n c sz:Nat}{rows:List (List Value)}(h:ay w B ty A n c sz rows):rows.length=n:=h.2.1
theorem ay.uN{w:World}{B ty:Nat}{A:Option Addr}{n c sz:Nat}{rows:List (List Value)}(h:ay w B ty A n c sz rows):∀a,A=some a->B<=a.block/\a.block<w.heap.size:=by
 intro a ha;subst ha;exact World.ownsRow.lt h.1 a.block rfl
theorem ay.other{w w':World}{B ty:Nat}{A:Option Addr}{n c sz:Nat}{rows:List (List Value)}(h:ay w B ty A n c sz rows)(b:∀a,A=some a->w'.heap[a.block]? =w.heap[a.block]?):ay w' B ty A n c sz rows:=by
 refine⟨⟨h.1.1,?_⟩,h.2⟩;rcases h.1.2 with h1|⟨g,cap,cur,h1,d,e,i⟩
 ·exact .inl h1
 ·cases h1;refine .inr ⟨g,_,cur,rfl,d,?_,i⟩;have:=b _ rfl;simp only at this;rw[this];exact e
theorem ay.below{w w':World}{B ty:Nat}{A:Option Addr}{n c sz:Nat}{rows:List (List Value)}(h:ay w B ty A n c sz rows)(hb:Below w.heap.size w w'):ay w' B ty A n c sz rows:=
 h.other fun a ha=>hb.block _ (h.uN a ha).2
theorem ay.nil{w:World}{B ty sz:Nat}:ay w B ty none 0 0 sz []:=⟨World.ownsRow_nil _ _ _ _,rfl,sm⟩

theorem aW{t e sz bytes:Nat}(el:El Tryz.prog t e sz bytes)(xs:List Value)(hx:∀v∈xs,v.cells.size=sz)(hn:xs.length<=1024){B:Nat}{w:World}{tys:List Nat}(hB:B<=w.heap.size){K:Option Addr->Nat->Nat->World->Prop}
  (h:∀A c b,ay b w.heap.size e A xs.length c sz (xs.map fun v=>v.cells.toList)->Below w.heap.size w b->K A xs.length c b):
  ae Tryz.prog (Instr.buildSlice t xs.length (xs.zipIdx.map fun x=>(x.2,x.1)).toArray) B tys w fun r w1=>∃A n c,r= .slice A n c/\K A n c w1:=by
 have a:=pN el xs hx hn w;have hg:=World.grownBy_alloc w (.cells (xs.flatMap fun v=>v.cells.toList).toArray e) none;have hb:Below w.heap.size w (w.alloc (.cells (xs.flatMap fun v=>v.cells.toList).toArray e)):=bT hg sm lf;have hlen:(xs.flatMap fun v=>v.cells.toList).length=xs.length*sz:=by
  clear a hg hb h;induction xs with
  |nil=>simp
  |cons x r ih=>
   have h1:=hx x sm;rw[xJ,dp,ih (fun v d=>hx v (by simp[d])) (by simp at hn;omega),ew,qh,ri,h1];omega
 refine⟨_,_,a,hb.mono hB,hg.size,fun k ty cs _ g=>hg.block k (ax.1 g).1 sm,_,_,_,rfl,h _ _ _ ⟨⟨?_,.inr ⟨w.heap.size,xs.length,_,rfl,ga _,heap_alloc_new w _,ga _,by simp only[maxLen];omega,?_,?_⟩⟩,sm,?_⟩ hb⟩
 ·rw[<-List.flatMap_def];exact hlen
 ·rw[Eu];exact hlen
 ·rw[<-List.flatMap_def];exact cc (by rw[hlen];exact ga _)
 ·intro r a;obtain⟨v,d,rfl⟩:=iu.1 a;simpa using hx v d

theorem ay.jZ{w:World}{B ty:Nat}{A:Option Addr}{n c sz:Nat}{rows:List (List Value)}(h:ay w B ty A n c sz rows):n<=c:=by
 obtain⟨_,_,h1,a⟩:=ownsRow_form h.1;cases h1;exact a
theorem ix{t ty e sz bytes:Nat}(el:El Tryz.prog t e sz bytes){B0 B:Nat}(b:B0<=B){tys:List Nat}{w:World}{A:Option Addr}{n c:Nat}{rows:List (List Value)}(ho:ay w B e A n c sz rows){x:Value}(hx:x.cells.size=sz)(h1:∀u∈x.cells.toList,bk u=true)
  (hB:B<=w.heap.size) (lz:(n+1)*(bytes+1)<=140737488355328) (d:e∉tys) {K:Option Addr->Nat->Nat->World->Prop}
  (h:∀A' c' a,ay a B e A' (n+1) c' sz (rows++[x.cells.toList])->w.grownBy a (Value.ownBlock (.slice A n c))->Below B0 w a->K A' (n+1) c' a):
  ae Tryz.prog (Instr.buildSlice t 1 #[(0,x)]) B0 tys w fun r w1=>∃A2 m c2,r= .slice A2 m c2/\
   ae Tryz.prog (Builtin.append_ #[t,t] ty #[.slice A n c,.slice A2 m c2]) B0 tys w1 fun r a=>∃A n c,r= .slice A n c/\K A n c a:=
 xj el b ho.1 hx h1 hB lz d fun A' c' a g i j=>h A' c' a ⟨by rw[u1];simpa using g,by simp[ho.len],fun r k=>by
  rcases fJ.1 k with h|h
  ·exact ho.2.2 r h
  ·simp at h;subst h;simpa using hx⟩ i j

theorem ct(b o:Nat)(k:Nat):(⟨b,o,none⟩:Addr).add k=⟨b,o+k,none⟩:=by
 unfold Addr.add;split
 ·rename_i h;subst h;rfl
 ·rfl
theorem bz{w:World}{b ty:Nat}{vs:List Value}(h:w.heap[b]? =some (.cells vs.toArray ty (0,0))){k:Nat}{v:Value}(a:vs[k]? =some v):aa w ((⟨b,0,none⟩:Addr).add k) [v]:=by
 intro i hi;simp at hi;subst hi;rw[ct,ct];simp[World.cell?,h,a]
theorem cm{w:World}{b ty:Nat}{vs:List Value}(h:w.heap[b]? =some (.cells vs.toArray ty (0,0))){v:Value}(a:vs[0]? =some v):aa w (⟨b,0,none⟩:Addr) [v]:=by
 have:=bz h a;rwa [ct]at this
theorem ai{w w':World}{b:Nat}{o:Obj}(h:w.heap[b]? =some o)(hb:Below w.heap.size w w'):w'.heap[b]? =some o:=(hb.block b (ax.1 h).1).trans h

theorem ext_nil{B:Nat}{w w':World}(x:Ext B [] w w'){k:Nat}{o:Obj}(h:w.heap[k]? =some o):w'.heap[k]? =some o:=by
 rcases x.other k (ax.1 h).1 with h1|⟨t,a,_⟩
 ·rw[h1];exact h
 ·simp at a
theorem ay.lN{B0:Nat}{w w':World}{B ty:Nat}{A:Option Addr}{n c sz:Nat}{rows:List (List Value)}(h:ay w B ty A n c sz rows)(x:Ext B0 [] w w'):ay w' B ty A n c sz rows:=
 h.other fun a ha=>by
  rcases x.other a.block (h.uN a ha).2 with h1|⟨t,b,_⟩
  ·exact h1
  ·simp at b
theorem bW.lN{B0:Nat}{w w':World}{A:Option Addr}{sz:Nat}{rows:List (List Value)}(h:bW w A sz rows)(x:Ext B0 [] w w'):bW w' A sz rows:=by
 rcases h with h|⟨b,off,cs,ty,fr,a,c,d⟩
 ·exact .inl h
 ·exact .inr ⟨b,off,cs,ty,fr,a,ext_nil x c,d⟩

theorem wE{sz:Nat}{cs:Array Value}:∀(rows:List (List Value)) (off:Nat),(∀r∈rows,r.length=sz)->(∀i,(h:i<rows.length)->∀j,(hj:j<rows[i].length)->cs[off+i*sz+j]? =some (rows[i][j]))->∀(j:Nat)(u:Value),rows.flatten[j]? =some u->cs[off+j]? =some u:=by
 intro rows;induction rows with
 |nil=>intro off _ _ j u hu;simp at hu
 |cons r rs ih=>
  intro off a b j u hu;have d:r.length=sz:=a r sm;by_cases hj:j<r.length
  ·rw[wR,hN hj]at hu;have:=b 0 sm j hj;simp only[VQ,xK,List.getElem_cons_zero]at this;rw[this];simpa[hj]using hu
  ·rw[wR,iB om]at hu;have:=ih (off+sz) (fun x hx=>a x (by simp[hx])) (fun i hi k c=>by
    have:=b (i+1) (by simp;omega) k c;rw[qh]at this;rw[show off+sz+i*sz+k=off+(i*sz+1*sz)+k by omega];exact this) (j - r.length) u hu
   rw[show off+j=off+sz+(j - r.length) by omega];exact this

theorem vo{t ty e sz bytes:Nat}(el:El Tryz.prog t e sz bytes){B0 B:Nat}(o:B0<=B){tys:List Nat}{w:World}{A:Option Addr}{n c:Nat}{rows:List (List Value)}(ho:ay w B e A n c sz rows)
  {a:Addr} {m c2:Nat} {more:List (List Value)} (g:bW w (some a) sz more) (hm:more.length=m) (k:∀r∈more,r.length=sz) (h1:∀r∈more,∀u∈r,bk u=true)
  (hB:B<=w.heap.size) (lz:(n+m)*(bytes+1)<=140737488355328) (q:e∉tys) {K:Option Addr->Nat->Nat->World->Prop}
  (h:∀A' c' d,ay d B e A' (n+m) c' sz (rows++more)->w.grownBy d (Value.ownBlock (.slice A n c))->Below B0 w d->K A' (n+m) c' d):
  ae Tryz.prog (Builtin.append_ #[t,t] ty #[.slice A n c,.slice (some a) m c2]) B0 tys w fun r d=>∃A n c,r= .slice A n c/\K A n c d:=by
 have hlen:more.flatten.length=m*sz:=by
  rw[<-hm];clear g hm h1 h lz;induction more with
  |nil=>simp
  |cons r rs ih=>rw[wR,dp,ih (fun x hx=>k x (by simp[hx])),k r sm,ew,qh];omega
 refine tL el o ho.1 (news:=more.flatten) hlen (fun j u hu=> ?_) (fun u hu=> ?_) hB lz q fun A' c' d y z C=>h A' c' d ⟨by rw[u1];exact y,by simp[ho.len,hm],fun r l=> ?_⟩ z C
 ·rcases g with g|⟨b,off,cs,ty,fr,D,E,F⟩
  ·subst g;simp at hu
  ·cases D;rw[ct];simp only[World.cell?,E];have:=wE more off k (fun i hi j hj=>(F i hi j hj).2) j u hu;simpa using this
 ·obtain⟨r,l,G⟩:=QF.1 hu;exact h1 r l u G
 ·rcases fJ.1 l with h|h
  ·exact ho.2.2 r h
  ·exact k r h

theorem bW.sO{w:World}{sz:Nat}{rows:List (List Value)}(h:bW w none sz rows):rows=[]:=by
 rcases h with h|⟨b,off,cs,ty,fr,a,_⟩
 ·exact h
 ·cases a

theorem GV(p:List Value):∀(vs l:List Value)(o:Nat),setCells (p++l) (p.length+o) vs=p++setCells l o vs:=by
 intro vs;induction vs with
 |nil=>intro l o;rfl
 |cons v r ih=>
  intro l o;rw[setCells,setCells,B4 _ _ om,show p.length+o - p.length=o by omega,ME,ih]
theorem EF(q:List Value):∀(vs l:List Value)(o:Nat),o+vs.length<=l.length->setCells (l++q) o vs=setCells l o vs++q:=by
 intro vs;induction vs with
 |nil=>intro l o _;rfl
 |cons v r ih=>
  intro l o h;simp only[ew]at h;rw[setCells,setCells,List.set_append_left _ _ om,ih _ _ (by simp;omega)]
theorem gm:∀(vs l:List Value)(o:Nat),(setCells l o vs).length=l.length:=by
 intro vs;induction vs with
 |nil=>intro l o;rfl
 |cons v r ih=>intro l o;rw[setCells,ih];simp
theorem ka{sz:Nat}:∀(rows:List (List Value)),(∀r∈rows,r.length=sz)->rows.flatten.length=rows.length*sz:=by
 intro rows;induction rows with
 |nil=>intro _;simp
 |cons r rs ih=>intro h;rw[wR,dp,ih (fun x hx=>h x (by simp[hx])),h r sm,ew,qh];omega
theorem Jc{sz:Nat}{rows:List (List Value)}(h:∀r∈rows,r.length=sz){i:Nat}{row:List Value}(a:rows[i]? =some row){k:Nat}{vs:List Value}(d:k+vs.length<=sz):
  setCells rows.flatten (i*sz+k) vs=(rows.set i (setCells row k vs)).flatten:=by
 obtain⟨hi,e⟩:=ek.1 a;have b:rows=rows.take i++row::rows.drop (i+1):=by
  rw[<-e,<-cy hi,iv]
 have hl:(rows.take i).length=i:=by simp;omega
 have hp:(rows.take i).flatten.length=i*sz:=by rw[ka _ (fun r c=>h r (oe c)),hl]
 have c:row.length=sz:=h row (gr a)
 conv=>lhs;rw[b]
 conv=>rhs;rw[b]
 rw[B4 _ _ om,hl,NW,NZ,u1,u1,wR,wR,<-hp,GV,EF _ _ _ _ om]

theorem ay.set{w:World}{B ty:Nat}{A:Option Addr}{n c sz:Nat}{rows:List (List Value)}(h:ay w B ty A n c sz rows){i:Int}(l:0<=i)(h1:i<n)(k:Nat)(vs:List Value)(row:List Value)(e:rows[i.toNat]? =some row)(m:k+vs.length<=sz):
  (0<=i/\i<n)/\∃a,A=some a/\∃cs:List Value,B<=((a.add (i.toNat*sz)).add k).block/\((a.add (i.toNat*sz)).add k).spot=none/\w.heap[((a.add (i.toNat*sz)).add k).block]? =some (.cells cs.toArray ty (0,0))/\((a.add (i.toNat*sz)).add k).off+vs.length<=cs.length/\
   ∀w1,aG w w1 ((a.add (i.toNat*sz)).add k).block ty (setCells cs ((a.add (i.toNat*sz)).add k).off vs)->ay w1 B ty A n c sz (rows.set i.toNat (setCells row k vs)):=by
 refine⟨⟨l,h1⟩,?_⟩;have hl:=h.len;have q:∃a,A=some a:=by
  rcases h.1.2 with⟨_,j⟩|⟨g,cap,cur,j,_⟩
  ·omega
  ·cases j;exact⟨_,rfl⟩
 obtain⟨a,rfl⟩:=q;have hlen:rows.flatten.length=n*sz:=by rw[ka _ h.2.2,hl]
 have hle:i.toNat*sz+k+vs.length<=rows.flatten.length:=by
  have:(i.toNat+1)*sz<=n*sz:=hJ _ om;rw[qh]at this;omega
 obtain⟨cs,c1,c2,c3,c4,c5,x⟩:=xk h.1 (off:=i.toNat*sz+k) hle;obtain⟨b,o,s⟩:=a;simp only at c1 c2 c3 c4;subst c2;subst c3;refine⟨⟨b,0,none⟩,rfl,?_⟩;rw[yN];simp only[mC];refine⟨cs,c1,trivial,c4,c5,fun w1 hw=>⟨?_,by simp[hl],fun r y=> ?_⟩⟩
 ·have:=x w1 hw;rwa [Jc h.2.2 e m]at this
 ·rcases LY y with d|d
  ·exact h.2.2 r d
  ·subst d;rw[gm];exact h.2.2 row (gr e)
theorem aer(a:Addr):a.add 0=a:=by unfold Addr.add;simp
theorem ay.OP{w:World}{B ty:Nat}{A:Option Addr}{n c sz:Nat}{rows:List (List Value)}(h:ay w B ty A n c sz rows){i:Int}(j:0<=i)(h1:i<n)(vs:List Value)(row:List Value)(d:rows[i.toNat]? =some row)(g:vs.length=sz):
  (0<=i/\i<n)/\∃a,A=some a/\∃cs:List Value,B<=(a.add (i.toNat*sz)).block/\(a.add (i.toNat*sz)).spot=none/\w.heap[(a.add (i.toNat*sz)).block]? =some (.cells cs.toArray ty (0,0))/\(a.add (i.toNat*sz)).off+vs.length<=cs.length/\
   ∀w1,aG w w1 (a.add (i.toNat*sz)).block ty (setCells cs (a.add (i.toNat*sz)).off vs)->ay w1 B ty A n c sz (rows.set i.toNat vs):=by
 obtain⟨k,a,l,cs,c1,c2,c3,c4,c5⟩:=h.set j h1 0 vs row d om;rw[aer]at c1 c2 c3 c4 c5;have e:setCells row 0 vs=vs:=by
  have b:row.length=vs.length:=by rw[g];exact h.2.2 row (gr d)
  clear d c5 g;have gen:∀(vs row p:List Value),row.length=vs.length->setCells (p++row) p.length vs=p++vs:=by
   intro vs;induction vs with
   |nil=>intro row p b;have:row=[]:=eR b;subst this;rfl
   |cons v r ih=>
    intro row p b;cases row with
    |nil=>simp at b
    |cons u t=>
     rw[setCells,B4 _ _ lf,NW,NZ];have:=ih t (p++[v]) (by simpa using b);simpa using this
  simpa using gen vs row [] b
 rw[e]at c5;exact⟨k,a,l,cs,c1,c2,c3,c4,c5⟩
theorem aG.eC{w w1:World}{B b ty:Nat}{cs:List Value}(h:aG w w1 b ty cs)(hB:B<=b):Below B w w1:=
 ⟨h.os,h.tape,h.output,by rw[h.size];exact ga _,fun k a=>h.rest k om⟩
theorem ay.base{w:World}{B b ty:Nat}{A:Option Addr}{n c sz:Nat}{rows:List (List Value)}(h:ay w b ty A n c sz rows)(hB:B<=b):ay w B ty A n c sz rows:=by
 refine⟨⟨h.1.1,?_⟩,h.2⟩;rcases h.1.2 with a|⟨g,cap,cur,a,d,e⟩
 ·exact .inl a
 ·exact .inr ⟨g,cap,cur,a,ec hB d,e⟩
theorem eG:∀(vs l:List Value)(o k:Nat),o+vs.length<=l.length->(setCells l o vs)[k]? =if o<=k/\k<o+vs.length then vs[k - o]? else l[k]? :=by
 intro vs;induction vs with
 |nil=>intro l o k h;rw[setCells,aq (by intro⟨a,b⟩;simp at b;omega)]
 |cons v r ih=>
  intro l o k h;simp only[ew]at h⊢;rw[setCells,ih _ _ _ (by simp;omega)];by_cases h1:o+1<=k/\k<o+1+r.length
  ·rw[bm h1,bm om,show k - o=(k - (o+1))+1 by omega,List.getElem?_cons_succ]
  ·rw[aq h1];by_cases c:k=o
   ·subst c;rw[bm om,B2 om];simp
   ·rw[aq om,Qu om]

theorem rB(b t:Nat):∀(vs:List Value)(o:Nat)(w:World)(cur:List Value),w.heap[b]? =some (.cells cur.toArray t (0,0))->
  (w.setCells b o vs).heap[b]? =some (.cells (setCells cur o vs).toArray t (0,0))/\(∀k,k≠b->(w.setCells b o vs).heap[k]? =w.heap[k]?)/\(w.setCells b o vs).heap.size=w.heap.size/\(w.setCells b o vs).os=w.os/\(w.setCells b o vs).tape=w.tape/\(w.setCells b o vs).output=w.output:=by
 intro vs;induction vs with
 |nil=>intro o w cur h;exact⟨h,fun _ _=>rfl,rfl,rfl,rfl,rfl⟩
 |cons v r ih=>
  intro o w cur h;have h1:(w.setCell ⟨b,o,none⟩ v).heap[b]? =some (.cells (cur.set o v).toArray t (0,0)):=by
   simp[World.setCell,TE,h]
  obtain⟨c,d,g,i,j,l⟩:=ih (o+1) (w.setCell ⟨b,o,none⟩ v) (cur.set o v) h1;rw[World.setCells];refine⟨c,fun k a=> ?_,?_,?_,?_,?_⟩
  ·rw[d k a];exact RowKit.Below.heap_setCell _ _ _ _ (fun e=>a (by first|exact e|exact e.symm))
  ·rw[g];simp[World.setCell]
  ·rw[i];rfl
  ·rw[j];rfl
  ·rw[l];rfl
theorem vq{w:World}{B b t:Nat}{cur vs:List Value}{o:Nat}(h:w.heap[b]? =some (.cells cur.toArray t (0,0)))(hB:B<=b):Below B w (w.setCells b o vs):=by
 obtain⟨g,a,i,c,d,e⟩:=rB b t vs o w cur h;exact⟨c,d,e,om,fun k j=>a k om⟩

theorem aes{b l c:Nat}(h:l<c):cT (some ⟨b,0,none⟩) l c 1=some ⟨b,l,none⟩:=by
 unfold cT;rw[aq om];simp[ct]
theorem ay.cells{w:World}{B ty:Nat}{A:Option Addr}{n c sz:Nat}{rows:List (List Value)}(h:ay w B ty A n c sz rows):∀a,A=some a->∃cs:Array Value,w.heap[a.block]? =some (.cells cs ty (0,0)):=by
 intro a ha;subst ha;rcases h.1.2 with⟨b,_⟩|⟨g,cap,cur,b,e,d,_⟩
 ·cases b
 ·cases b;exact⟨cur,d⟩
theorem wF{w:World}{a b c tb:Nat}{d g:Array Value}(ha:w.heap[a]? =some (.cells d c (0,0)))(hb:w.heap[b]? =some (.cells g tb (0,0)))(h:c≠tb):a≠b:=by
 intro e;subst e;rw[ha]at hb;cases hb;exact h rfl

theorem qa(t:Nat)(v:Value){B:Nat}{w:World}{tys:List Nat}(hB:B<=w.heap.size){K:Addr->World->Prop}
  (h:∀b,b.heap[w.heap.size]? =some (.cells v.cells t (0,0))->Below w.heap.size w b->w.heap.size<b.heap.size->K ⟨w.heap.size,0,none⟩ b):
  ae Tryz.prog (Instr.box t v) B tys w fun r w1=>∃a,r= .pointer (some a)/\K a w1:=by
 have d:(Instr.box t v).run Tryz.prog w= .ok (.pointer (some ⟨w.heap.size,0,none⟩)) (w.alloc (.cells v.cells t)):=by
  simp[Instr.box,Sem.run_bind,Sem.run,newVar,newRow,newObj]
 have hg:=World.grownBy_alloc w (.cells v.cells t) none;have hb:Below w.heap.size w (w.alloc (.cells v.cells t)):=bT hg sm lf;have c:=heap_alloc_new w (.cells v.cells t);exact⟨_,_,d,hb.mono hB,hg.size,fun k ty cs _ e=>hg.block k (ax.1 e).1 sm,_,rfl,h _ c hb (ax.1 c).1⟩
theorem cK(t:Nat){z:Value}(hz:((Tryz.prog.info? t).bind (·.zero))=some z){B:Nat}{w:World}{tys:List Nat}(hB:B<=w.heap.size){K:Addr->World->Prop}
  (h:∀b,b.heap[w.heap.size]? =some (.cells z.cells t (0,0))->Below w.heap.size w b->w.heap.size<b.heap.size->K ⟨w.heap.size,0,none⟩ b):
  ae Tryz.prog (Instr.alloc t true (.tuple #[])) B tys w fun r w1=>∃a,r= .pointer (some a)/\K a w1:=by
 obtain⟨i,hi,c⟩:=xt.1 hz;have e:(Instr.alloc t true (.tuple #[])).run Tryz.prog w= .ok (.pointer (some ⟨w.heap.size,0,none⟩)) (w.alloc (.cells z.cells t)):=by
  simp[Instr.alloc,zeroValue,typeInfo,program,Sem.run_bind,Sem.run,hi,c,newVar,newRow,newObj]
 have hg:=World.grownBy_alloc w (.cells z.cells t) none;have hb:Below w.heap.size w (w.alloc (.cells z.cells t)):=bT hg sm lf;have d:=heap_alloc_new w (.cells z.cells t);exact⟨_,_,e,hb.mono hB,hg.size,fun k ty cs _ g=>hg.block k (ax.1 g).1 sm,_,rfl,h _ d hb (ax.1 d).1⟩

def fq{α:Type}(p:α->Bool):Nat->List α->Int
 |_,[]=> -1
 |i,c::r=>if p c then(i:Int)else fq p (i+1) r
theorem Sr{α:Type}(p:α->Bool):∀(l:List α)(k:Nat),(0<=fq p k l)↔l.any p=true:=by
 intro l;induction l with
 |nil=>intro k;simp[fq]
 |cons c r ih=>
  intro k;rw[fq];by_cases h:p c=true
  ·rw[bm h];simp[h]
  ·rw[aq h,ih];simp[h]

theorem ay.OQ{B0:Nat}{ts:List Nat}{w w':World}{B ty:Nat}{A:Option Addr}{n c sz:Nat}{rows:List (List Value)}(h:ay w B ty A n c sz rows)(x:Ext B0 ts w w')(d:ty∉ts):ay w' B ty A n c sz rows:=
 h.other fun a ha=>by
  obtain⟨cs,e⟩:=h.cells a ha;rcases x.other a.block (h.uN a ha).2 with h1|⟨t,g,c1,c2,fr,b,i⟩
  ·exact h1
  ·rw[e]at b;cases b;exact absurd g d
theorem fy{w:World}{b ty:Nat}{vs:List Value}(h:w.heap[b]? =some (.cells vs.toArray ty (0,0))):aa w (⟨b,0,none⟩:Addr) vs:=by
 intro i hi;rw[ct];simp[World.cell?,h]

theorem NC{B:Nat}{w w':World}(x:Ext B [] w w'):Below w.heap.size w w':=
 ⟨x.below.os,x.below.tape,x.below.output,x.below.size,fun k a=>by
  have h:w.heap[k]? =some w.heap[k]:=Array.getElem?_eq_getElem a;rw[ext_nil x h,h]⟩

theorem bW.take{w:World}{A:Option Addr}{sz:Nat}{rows:List (List Value)}(h:bW w A sz rows)(k:Nat):bW w A sz (rows.take k):=by
 rcases h with h|⟨b,off,cs,ty,fr,c,d,g⟩
 ·subst h;exact .inl sm
 ·refine .inr ⟨b,off,cs,ty,fr,c,d,fun i hi j hj=> ?_⟩;have l:i<rows.length:=by rw[ep]at hi;omega
  have e:(rows.take k)[i]=rows[i]:=by simp
  have a:j<rows[i].length:=by rw[<-e];exact hj
  have:=g i l j a;simpa using this
theorem bW.YC{w:World}{A:Option Addr}{sz c:Nat}{rows:List (List Value)}(h:bW w A sz rows){k:Nat}(o:rows.length<=c):bW w (cT A k c sz) sz (rows.drop k):=by
 by_cases g:rows.length<=k
 ·exact .inl (dd g)
 rcases h with h|⟨b,off,cs,ty,fr,l,m,a⟩
 ·subst h;exact .inl sm
 ·refine .inr ⟨b,off+k*sz,cs,ty,fr,?_,m,fun i hi j hj=> ?_⟩
  ·unfold cT;rw[aq om,l,Zn,ct]
  ·have n:k+i<rows.length:=by rw[wo]at hi;omega
   have e:(rows.drop k)[i]=rows[k+i]:=by simp
   have d:j<rows[k+i].length:=by rw[<-e];exact hj
   have:=a (k+i) n j d;have ea:off+k*sz+i*sz+j=off+(k+i)*sz+j:=by rw[qh];omega
   rw[ea];simpa using this
theorem vt{t ty e sz bytes:Nat}(el:El Tryz.prog t e sz bytes){B0 B:Nat}(l:B0<=B){tys:List Nat}{w:World}{A:Option Addr}{n c:Nat}{rows:List (List Value)}(ho:ay w B e A n c sz rows)
  {A2:Option Addr} {m c2:Nat} {more:List (List Value)} (g:bW w A2 sz more) (hm:more.length=m) (o:∀r∈more,r.length=sz) (h1:∀r∈more,∀u∈r,bk u=true) (hz:A2=none->c2=0)
  (hB:B<=w.heap.size) (lz:(n+m)*(bytes+1)<=140737488355328) (q:e∉tys) {K:Option Addr->Nat->Nat->World->Prop}
  (h:∀A' c' b,ay b B e A' (n+m) c' sz (rows++more)->w.grownBy b (Value.ownBlock (.slice A n c))->Below B w b->K A' (n+m) c' b):
  ae Tryz.prog (Builtin.append_ #[t,t] ty #[.slice A n c,.slice A2 m c2]) B0 tys w fun r b=>∃A n c,r= .slice A n c/\K A n c b:=by
 cases A2 with
 |some a=>
  refine vo el l ho g hm o h1 hB lz q fun A' c' b x j E=>h A' c' b x j ?_
  exact bT j (fun k y=>(ho.1.lt k y).1) hB
 |none=>
  have:=g.sO;subst this;have d:m=0:=by rw[<-hm];rfl
  subst d;rw[hz rfl];obtain⟨i,z,C,F,G,H,I⟩:=el.info;have D:=run_append_owned_none (P:=Tryz.prog) (w:=w) B t ty e i sz el.IJ C _ _ _ ho.1;refine⟨_,w,D,Below.refl _ _,ga _,fun _ _ _ _ _=>rfl,A,n,c,rfl,?_⟩;exact h A c w (by rw[vB];exact ho) ⟨rfl,rfl,rfl,ga _,fun _ _ _=>rfl⟩ (Below.refl _ _)

def vR(s:ByteArray):Bool:=kH (bJ s)
def qR(s:ByteArray):Rat:=yI (bJ s)
theorem iq{s:ByteArray}(h:vR s=true):s=rS (qR s):=by
 unfold rS qR;rw[GN h];rfl
theorem mg{s:ByteArray}{k:Nat}(h:vR s=true)(hs:s.size<=k):Sm k (qR s):=by
 refine Sm.text ?_;unfold qR;rw[GN h];exact hs
theorem aet(r:Rat):qR (rS r)=r:=yJ r
abbrev mO(s:ByteArray):Prop:=s.size<=1000
theorem s0:(⟨#[48]⟩:ByteArray)=rS 0:=by
 unfold rS qS;have h1:(0:Rat).den=1:=rfl;have a:(0:Rat).num=0:=rfl;rw[bm h1,a,aej];rfl
theorem Sm.zero{k:Nat}(h:1<=k):Sm k 0:=by
 have hp:10^1<=10^k:=gb om h;have h1:(0:Rat).den=1:=rfl;have a:(0:Rat).num=0:=rfl;exact⟨by rw[a];simp;omega,om⟩

theorem Ss(z:Int):iS z=rS (z:Rat):=by
 unfold rS qS;have h1:(z:Rat).den=1:=rfl;have a:(z:Rat).num=z:=rfl;rw[bm h1,a];rfl
def Dg(x:Rat):Rat:=if x<0 then -x else x
theorem Sm.abs{k:Nat}{x:Rat}(h:Sm k x):Sm k (Dg x):=by
 unfold Dg;split
 ·exact h.neg
 ·exact h
theorem lD:El Tryz.prog 30 75 1 16:=El.of kF

theorem mO.yj{s:ByteArray}(hs:mO s)(h:vR s=true):lC (qR s):=(mg h hs).mono om

structure Pa where
 id:Int
 aU:Int
 cls:Int
 name:ByteArray
 iQ:ByteArray
 wG:ByteArray
 gy:ByteArray
structure Ho where
 id:Int
 name:ByteArray
 room:ByteArray
 nz:ByteArray
 x:ByteArray
 y:ByteArray
 z:ByteArray
structure Sw where
 hold:Int
 au:Int
 aU:Int
 deriving DecidableEq

def vP(p:Pa):Bool:=vR p.iQ&&vR p.wG&&vR p.gy
def vH(h:Ho):Bool:=vR h.room&&vR h.nz&&vR h.x&&vR h.y&&vR h.z
def pw{α:Type}(f:Option α->α->Int):Option α->List α->Int
 |_,[]=>0
 |p,x::r=>if f p x≠0 then f p x else pw f (some x) r
def px(prev:Option Pa)(p:Pa):Int:=
 if ¬((1<=p.id/\p.id<=1073741824)/\(1<=p.aU/\p.aU<=9)/\(1<=p.cls/\p.cls<=9)/\0<qR p.iQ/\0<qR p.wG/\¬qR p.gy<0)then 2
 else if ¬(1<=p.name.size/\p.name.size<=64)then 4
 else if ∃q,prev=some q/\p.id<=q.id then 5 else 0
def qq(prev:Option Ho)(h:Ho):Int:=
 if ¬((1<=h.id/\h.id<=1073741824)/\¬qR h.room<0/\¬qR h.nz<0)then 2
 else if ¬(1<=h.name.size/\h.name.size<=64)then 4
 else if ∃q,prev=some q/\h.id<=q.id then 5 else 0
def fB(ps:List Pa)(hs:List Ho):Int:=
 if ¬(ps.all vP=true/\hs.all vH=true)then 1
 else if 6<ps.length∨6<hs.length then 8
 else if pw px none ps≠0 then pw px none ps else pw qq none hs

def rC(ps:List Pa)(id:Int):Option Nat:=ps.findIdx? fun p=>decide (p.id=id)
def wT(hs:List Ho)(id:Int):Option Nat:=hs.findIdx? fun h=>decide (h.id=id)
def fT(a b:Sw):Prop:=a.hold<b.hold∨a.hold=b.hold/\a.au<b.au
instance (a b:Sw):Decidable (fT a b):=by unfold fT;exact inferInstance
def cZ(l:List Sw)(p:Int):Int:=(l.map fun s=>if s.au=p then s.aU else 0).sum
def sP(ps:List Pa)(hs:List Ho)(pre:List Sw)(s:Sw):Int:=
 match rC ps s.au,wT hs s.hold with
 |some i,some _=>
  if s.aU<1 then 2
  else if ∃q,pre.getLast? =some q/\¬fT q s then 5
  else match ps[i]? with
   |some p=>if p.aU<s.aU∨p.aU<cZ (pre++[s]) s.au then 12 else 0
   |none=>0
 |_,_=>7
def oV(ps:List Pa)(hs:List Ho):List Sw->List Sw->Int
 |_,[]=>0
 |pre,s::r=>if sP ps hs pre s≠0 then sP ps hs pre s else oV ps hs (pre++[s]) r
def iy(ps:List Pa)(hs:List Ho)(l:List Sw):Int:=if fB ps hs≠0 then 1 else oV ps hs [] l

structure zU (ps:List Pa) (hs:List Ho):Prop where
 vp:∀p∈ps,vP p=true
 vh:∀h∈hs,vH h=true
 lp:ps.length<=6
 lh:hs.length<=6
 p1:∀p∈ps,(1<=p.id/\p.id<=1073741824)/\(1<=p.aU/\p.aU<=9)/\(1<=p.cls/\p.cls<=9)/\0<qR p.iQ/\0<qR p.wG/\¬qR p.gy<0
 h1:∀h∈hs,(1<=h.id/\h.id<=1073741824)/\¬qR h.room<0/\¬qR h.nz<0
 ip:ps.Pairwise fun a b=>a.id<b.id
 ih:hs.Pairwise fun a b=>a.id<b.id
theorem AR{α:Type}{f:Option α->α->Int}{id:α->Int}{G:α->Prop}(hf:∀p x,f p x=0->G x/\∀q,p=some q->id q<id x):
  ∀(l:List α)(p:Option α),pw f p l=0->(∀x∈l,G x)/\l.Pairwise (fun a b=>id a<id b)/\(∀q,p=some q->∀x∈l,id q<id x):=by
 intro l;induction l with
 |nil=>intro p _;exact⟨sm,List.Pairwise.nil,sm⟩
 |cons x r ih=>
  intro p h;rw[pw]at h;by_cases c:f p x=0
  ·rw[aq (fun k=>k c)]at h;obtain⟨h1,e,d⟩:=ih (some x) h;obtain⟨g1,g2⟩:=hf p x c;refine⟨?_,IE.2 ⟨fun y hy=>d x rfl y hy,e⟩,fun q g y hy=> ?_⟩
   ·intro y hy;rcases cb.1 hy with rfl|hy
    ·exact g1
    ·exact h1 y hy
   ·have hx:=g2 q g;rcases cb.1 hy with rfl|hy
    ·exact hx
    ·exact Int.lt_trans hx (d x rfl y hy)
  ·rw[bm c]at h;exact absurd h c
theorem Jd(p:Option Pa)(x:Pa)(h:px p x=0):((1<=x.id/\x.id<=1073741824)/\(1<=x.aU/\x.aU<=9)/\(1<=x.cls/\x.cls<=9)/\0<qR x.iQ/\0<qR x.wG/\¬qR x.gy<0)/\∀q,p=some q->q.id<x.id:=by
 unfold px at h;split at h
 ·simp at h
 ·rename_i h1;split at h
  ·simp at h
  ·split at h
   ·simp at h
   ·rename_i a;refine⟨dT.1 h1,fun q b=> ?_⟩;apply bB;intro k;exact a ⟨q,b,om⟩
theorem Je(p:Option Ho)(x:Ho)(h:qq p x=0):((1<=x.id/\x.id<=1073741824)/\¬qR x.room<0/\¬qR x.nz<0)/\∀q,p=some q->q.id<x.id:=by
 unfold qq at h;split at h
 ·simp at h
 ·rename_i h1;split at h
  ·simp at h
  ·split at h
   ·simp at h
   ·rename_i a;refine⟨dT.1 h1,fun q b=> ?_⟩;apply bB;intro k;exact a ⟨q,b,om⟩
theorem gn{ps:List Pa}{hs:List Ho}(h:fB ps hs=0):zU ps hs:=by
 unfold fB at h;split at h
 ·simp at h
 ·rename_i h1;have h1:=dT.1 h1;split at h
  ·simp at h
  ·rename_i e;split at h
   ·rename_i a;exact absurd h a
   ·rename_i a;have a:=dT.1 a;obtain⟨b,a2,_⟩:=AR Jd ps none a;obtain⟨c,d,_⟩:=AR Je hs none h;exact⟨gu.1 h1.1,gu.1 h1.2,om,om,b,c,a2,d⟩

theorem gY{ps:List Pa}{id:Int}{i:Nat}(h:rC ps id=some i):∃p,ps[i]? =some p/\p.id=id:=by
 unfold rC at h;obtain⟨hi,hp,_⟩:=tu.1 h;exact⟨ps[i],af hi,fs hp⟩
theorem qu{hs:List Ho}{id:Int}{i:Nat}(h:wT hs id=some i):∃p,hs[i]? =some p/\p.id=id:=by
 unfold wT at h;obtain⟨hi,hp,_⟩:=tu.1 h;exact⟨hs[i],af hi,fs hp⟩
theorem B7{α:Type}{f:α->Int}{l:List α}(h:l.Pairwise fun a b=>f a<f b){i j:Nat}{a b:α}(c:i<j)(ha:l[i]? =some a)(hb:l[j]? =some b):f a<f b:=by
 obtain⟨hi,rfl⟩:=ek.1 ha;obtain⟨hj,rfl⟩:=ek.1 hb;exact List.pairwise_iff_getElem.1 h i j hi hj c
theorem qv{α:Type}{f:α->Int}{l:List α}(h:l.Pairwise fun a b=>f a<f b){i j:Nat}{a b:α}(ha:l[i]? =some a)(hb:l[j]? =some b)(e:f a=f b):i=j:=by
 rcases Nat.lt_trichotomy i j with k|k|k
 ·have:=B7 h k ha hb;omega
 ·exact k
 ·have:=B7 h k hb ha;omega
theorem aaM{ps:List Pa}(h:ps.Pairwise fun a b=>a.id<b.id){i:Nat}{p:Pa}(hp:ps[i]? =some p):rC ps p.id=some i:=by
 cases hx:rC ps p.id with
 |none=>
  unfold rC at hx;have:=Mf.1 hx p (gr hp);simp at this
 |some j=>
  obtain⟨q,c,e⟩:=gY hx;rw[qv h c hp e]
theorem aaN{hs:List Ho}(h:hs.Pairwise fun a b=>a.id<b.id){i:Nat}{p:Ho}(hp:hs[i]? =some p):wT hs p.id=some i:=by
 cases hx:wT hs p.id with
 |none=>
  unfold wT at hx;have:=Mf.1 hx p (gr hp);simp at this
 |some j=>
  obtain⟨q,c,e⟩:=qu hx;rw[qv h c hp e]

def tW(l:List Sw):Prop:=l.Pairwise fT
theorem wH{a b c:Sw}(h:fT a b)(k:fT b c):fT a c:=by unfold fT at*;omega
theorem Dh(a:Sw):¬fT a a:=by unfold fT;omega
theorem Fp{a b:Sw}(h:fT a b):¬fT b a:=by unfold fT at*;omega
theorem VO:∀{l1 c:List Sw},tW l1->tW c->(∀x,x∈l1↔x∈c)->l1=c:=by
 intro l1;induction l1 with
 |nil=>
  intro c _ _ h;cases c with
  |nil=>rfl
  |cons b r=>exact absurd ((h b).2 sm) sm
 |cons a r ih=>
  intro c h1 d h;cases c with
  |nil=>exact absurd ((h a).1 sm) sm
  |cons b s=>
   obtain⟨p1,q1⟩:=IE.1 h1;obtain⟨p2,g⟩:=IE.1 d;have e:a=b:=by
    rcases cb.1 ((h a).1 sm)with e|k
    ·exact e
    ·rcases cb.1 ((h b).2 sm)with e|i
     ·exact e.symm
     ·exact absurd (p1 b i) (Fp (p2 a k))
   subst e;rw[ih q1 g fun x=> ?_];constructor
   ·intro hx;rcases cb.1 ((h x).1 (by simp[hx]))with e|k
    ·subst e;exact absurd (p1 x hx) (Dh x)
    ·exact k
   ·intro hx;rcases cb.1 ((h x).2 (by simp[hx]))with e|k
    ·subst e;exact absurd (p2 x hx) (Dh x)
    ·exact k
theorem VP{l:List Sw}(h:tW l){a b:Sw}(ha:a∈l)(hb:b∈l)(g:a.hold=b.hold)(i:a.au=b.au):a=b:=by
 induction l with
 |nil=>cases ha
 |cons x r ih=>
  obtain⟨p,q⟩:=IE.1 h;rcases cb.1 ha with e|d
  ·rcases cb.1 hb with k|c
   ·rw[e,k]
   ·have:=p b c;rw[<-e]at this;unfold fT at this;omega
  ·rcases cb.1 hb with k|c
   ·have:=p a d;rw[<-k]at this;unfold fT at this;omega
   ·exact ih q d c

structure fc (ps:List Pa) (hs:List Ho) (l:List Sw):Prop where
 c:zU ps hs
 known:∀s∈l,∃i k,rC ps s.au=some i/\wT hs s.hold=some k
 pos:∀s∈l,1<=s.aU
 LV:tW l
 full:∀p∈ps,cZ l p.id<=p.aU
theorem gz(a b:List Sw)(p:Int):cZ (a++b) p=cZ a p+cZ b p:=by
 unfold cZ;rw[eh,List.sum_append]
theorem nM(s:Sw)(p:Int):cZ [s] p=if s.au=p then s.aU else 0:=by
 simp[cZ]
theorem jy{l:List Sw}(h:∀s∈l,1<=s.aU)(p:Int):0<=cZ l p:=by
 induction l with
 |nil=>simp[cZ]
 |cons s r ih=>
  rw[show s::r=[s]++r from rfl,gz,nM];have:=ih fun x hx=>h x (by simp[hx])
  have:=h s sm;split<;>omega
theorem AS{ps:List Pa}{hs:List Ho}(w:zU ps hs):∀(r pre:List Sw),fc ps hs pre->oV ps hs pre r=0->fc ps hs (pre++r):=by
 intro r;induction r with
 |nil=>intro pre h _;simpa using h
 |cons s r ih=>
  intro pre h d;rw[oV]at d;by_cases h1:sP ps hs pre s=0
  ·rw[aq (fun k=>k h1)]at d;have:=ih (pre++[s]) ?_ d
   ·rw[fi]at this;exact this
   ·unfold sP at h1;cases hp:rC ps s.au with
    |none=>rw[hp]at h1;simp at h1
    |some i=>
     cases l:wT hs s.hold with
     |none=>rw[hp,l]at h1;simp at h1
     |some k=>
      rw[hp,l]at h1;simp only at h1;split at h1
      ·simp at h1
      ·rename_i hu;split at h1
       ·simp at h1
       ·rename_i hb;obtain⟨p,m,hid⟩:=gY hp;rw[m]at h1;simp only at h1;split at h1
        ·simp at h1
        ·rename_i A;refine⟨w,fun x hx=> ?_,fun x hx=> ?_,?_,fun q y=> ?_⟩
         ·rcases fJ.1 hx with hx|hx
          ·exact h.known x hx
          ·rw[eb]at hx;subst hx;exact⟨i,k,hp,l⟩
         ·rcases fJ.1 hx with hx|hx
          ·exact h.pos x hx
          ·rw[eb]at hx;subst hx;omega
         ·refine Qx.2 ⟨h.LV,sm,fun a ha b g=> ?_⟩;rw[eb]at g;subst g;have c:pre≠[]:=fun e=>by subst e;cases ha
          have z:pre.getLast? =some (pre.getLast c):=MH c;have hl:fT (pre.getLast c) b:=by
           apply bB;intro k;exact hb ⟨_,z,k⟩
          have n:=CM c;have o:=h.LV;unfold tW at o;rw[<-n]at o ha;rcases fJ.1 ha with ha|ha
          ·exact wH ((Qx.1 o).2.2 a ha _ sm) hl
          ·rw[eb]at ha;rw[ha];exact hl
         ·by_cases e:q.id=s.au
          ·obtain⟨j,hj⟩:=List.getElem?_of_mem y;have:j=i:=qv w.ip hj m (by rw[hid];exact e);subst this;rw[m]at hj;cases hj;rw[e];omega
          ·rw[gz,nM,aq (fun k=>e k.symm)];have:=h.full q y;omega
  ·rw[bm h1]at d;exact absurd d h1
theorem fN{ps:List Pa}{hs:List Ho}{l:List Sw}(h:iy ps hs l=0):fc ps hs l:=by
 unfold iy at h;split at h
 ·simp at h
 ·rename_i h1;have a:=gn (dT.1 h1);have b:fc ps hs []:=⟨a,sm,sm,List.Pairwise.nil,fun p hp=>by have:=(a.p1 p hp).2.1.1;simp[cZ];omega⟩;simpa using AS a l [] b h
theorem Jf{l pre:List Sw}(h:∀s∈l,1<=s.aU){rest:List Sw}(e:l=pre++rest)(p:Int):cZ pre p<=cZ l p:=by
 subst e;rw[gz];have:=jy (l:=rest) (fun s hs=>h s (by simp[hs])) p;omega
def iG(l:List Sw)(h p:Int):Int:=l.foldl (fun n s=>if s.au=p/\s.hold=h then s.aU else n) 0
theorem wI(l:List Sw)(s:Sw)(h p:Int):iG (l++[s]) h p=if s.au=p/\s.hold=h then s.aU else iG l h p:=by
 unfold iG;rw[List.foldl_append];rfl
theorem Su(h p:Int):∀(l:List Sw)(n:Int),(l.foldl (fun n s=>if s.au=p/\s.hold=h then s.aU else n) n=n/\∀s∈l,¬(s.au=p/\s.hold=h))∨∃s∈l,s.au=p/\s.hold=h/\l.foldl (fun n s=>if s.au=p/\s.hold=h then s.aU else n) n=s.aU:=by
 intro l;induction l with
 |nil=>intro n;exact .inl ⟨rfl,sm⟩
 |cons x r ih=>
  intro n;rw[YZ];by_cases hx:x.au=p/\x.hold=h
  ·rw[bm hx];rcases ih x.aU with⟨e,_⟩|⟨s,hs,a,b,c⟩
   ·exact .inr ⟨x,sm,hx.1,hx.2,e⟩
   ·exact .inr ⟨s,by simp[hs],a,b,c⟩
  ·rw[aq hx];rcases ih n with⟨e,k⟩|⟨s,hs,a,b,c⟩
   ·refine .inl ⟨e,fun s hs=> ?_⟩;rcases cb.1 hs with rfl|hs
    ·exact hx
    ·exact k s hs
   ·exact .inr ⟨s,by simp[hs],a,b,c⟩
theorem sQ(l:List Sw)(h p:Int):(iG l h p=0/\∀s∈l,¬(s.au=p/\s.hold=h))∨∃s∈l,s.au=p/\s.hold=h/\iG l h p=s.aU:=Su h p l 0
theorem GY{l:List Sw}(hs:tW l){s:Sw}(h:s∈l):iG l s.hold s.au=s.aU:=by
 rcases sQ l s.hold s.au with⟨_,k⟩|⟨x,hx,a,b,c⟩
 ·exact absurd ⟨rfl,rfl⟩ (k s h)
 ·rw[c,VP hs hx h b a]
theorem Di{l:List Sw}{h p:Int}(k:∀s∈l,¬(s.au=p/\s.hold=h)):iG l h p=0:=by
 rcases sQ l h p with⟨e,_⟩|⟨x,hx,a,b,_⟩
 ·exact e
 ·exact absurd ⟨a,b⟩ (k x hx)
theorem Dj{l:List Sw}(hp:∀s∈l,1<=s.aU)(h p:Int):0<=iG l h p:=by
 rcases sQ l h p with⟨e,_⟩|⟨x,hx,_,_,e⟩
 ·omega
 ·have:=hp x hx;omega

def BH(f:Nat->Nat->Int)(ps:List Pa)(hs:List Ho)(k i:Nat):List Sw:=
 match hs[k]?,ps[i]? with
 |some h,some p=>if 0<f i k then[⟨h.id,p.id,f i k⟩]else[]
 |_,_=>[]
def py(f:Nat->Nat->Int)(ps:List Pa)(hs:List Ho):List Sw:=(List.range hs.length).flatMap fun k=>(List.range ps.length).flatMap fun i=>BH f ps hs k i
theorem yO{f:Nat->Nat->Int}{ps:List Pa}{hs:List Ho}{k i:Nat}{s:Sw}:s∈BH f ps hs k i↔∃h p,hs[k]? =some h/\ps[i]? =some p/\0<f i k/\s=⟨h.id,p.id,f i k⟩:=by
 unfold BH;constructor
 ·intro hm;split at hm
  ·rename_i h p a b;split at hm
   ·rename_i c;rw[eb]at hm;exact⟨h,p,a,b,c,hm⟩
   ·cases hm
  ·cases hm
 ·rintro⟨h,p,a,b,c,rfl⟩;rw[a,b];simp[c]
theorem qb{f:Nat->Nat->Int}{ps:List Pa}{hs:List Ho}{s:Sw}:s∈py f ps hs↔∃k i h p,hs[k]? =some h/\ps[i]? =some p/\0<f i k/\s=⟨h.id,p.id,f i k⟩:=by
 unfold py;simp only[Uv,JK,yO];constructor
 ·rintro⟨k,e,i,hi,h,p,a,b,c,d⟩;exact⟨k,i,h,p,a,b,c,d⟩
 ·rintro⟨k,i,h,p,a,b,c,d⟩;exact⟨k,(ek.1 a).1,i,(ek.1 b).1,h,p,a,b,c,d⟩
theorem Fq{f:Nat->Nat->Int}{ps:List Pa}{hs:List Ho}(hp:ps.Pairwise fun a b=>a.id<b.id)(m:hs.Pairwise fun a b=>a.id<b.id):tW (py f ps hs):=by
 unfold tW py;rw[List.pairwise_flatMap];refine⟨fun k _=> ?_,?_⟩
 ·rw[List.pairwise_flatMap];refine⟨fun i _=> ?_,?_⟩
  ·unfold BH;split
   ·split<;>simp
   ·simp
  ·refine List.Pairwise.imp ?_ List.pairwise_lt_range;intro i j d x hx y hy;obtain⟨h,p,e,g,_,rfl⟩:=yO.1 hx;obtain⟨n,o,c,l,_,rfl⟩:=yO.1 hy;rw[e]at c;cases c;exact .inr ⟨rfl,B7 hp d g l⟩
 ·refine List.Pairwise.imp ?_ List.pairwise_lt_range;intro i j d x hx y hy;obtain⟨a,_,hx⟩:=Uv.1 hx;obtain⟨b,_,hy⟩:=Uv.1 hy;obtain⟨h,p,e,g,_,rfl⟩:=yO.1 hx;obtain⟨n,o,c,l,_,rfl⟩:=yO.1 hy;exact .inl (B7 m d e c)
def fA(ps:List Pa)(hs:List Ho)(l:List Sw)(i k:Nat):Int:=
 match hs[k]?,ps[i]? with
 |some h,some p=>iG l h.id p.id
 |_,_=>0
theorem YE{ps:List Pa}{hs:List Ho}{l:List Sw}{i k:Nat}{h:Ho}{p:Pa}(a:hs[k]? =some h)(b:ps[i]? =some p):fA ps hs l i k=iG l h.id p.id:=by
 unfold fA;rw[a,b]
theorem LW{ps:List Pa}{hs:List Ho}{l:List Sw}(h:fc ps hs l){f:Nat->Nat->Int}(hf:∀i k,i<ps.length->k<hs.length->f i k=fA ps hs l i k):py f ps hs=l:=by
 refine VO (Fq h.c.ip h.c.ih) h.LV fun s=> ?_
 rw[qb];constructor
 ·rintro⟨k,i,d,p,a,b,j,rfl⟩;have e:=hf i k (ek.1 b).1 (ek.1 a).1;rw[YE a b]at e;rw[e]at j⊢;rcases sQ l d.id p.id with⟨r,_⟩|⟨x,hx,m,n,o⟩
  ·omega
  ·rw[o,<-m,<-n];exact hx
 ·intro g;obtain⟨i,k,hi,q⟩:=h.known s g;obtain⟨p,b,i2⟩:=gY hi;obtain⟨d,a,i1⟩:=qu q;have e:=hf i k (ek.1 b).1 (ek.1 a).1;rw[YE a b,i1,i2,GY h.LV g]at e;refine⟨k,i,d,p,a,b,?_,?_⟩
  ·rw[e];have:=h.pos s g;omega
  ·rw[e,i1,i2]

def LX(l:List Sw)(s:Sw):List Sw:=l.filter (fun x=>decide (fT x s))++(if 0<s.aU then[s]else[])++l.filter (fun x=>decide (fT s x))
def Dk(ps:List Pa)(hs:List Ho)(l:List Sw)(w:Sw):Except Int (List Sw):=
 if iy ps hs l≠0 then .error 1
 else match rC ps w.au,wT hs w.hold with
  |some i,some _=>
   if w.aU=0∨w.aU< -9∨9<w.aU then .error 2
   else if iG l w.hold w.au+w.aU<0 then .error 11
   else match ps[i]? with
    |some p=>if p.aU<cZ l w.au+w.aU then .error 12 else .ok (LX l ⟨w.hold,w.au,iG l w.hold w.au+w.aU⟩)
    |none=> .error 0
  |_,_=> .error 7
structure aeu (ps:List Pa) (hs:List Ho) (l:List Sw) (w:Sw) (m:List Sw):Prop where
 r:fc ps hs l
 c:fB ps hs=0
 at_:∃i k p h,rC ps w.au=some i/\wT hs w.hold=some k/\ps[i]? =some p/\p.id=w.au/\hs[k]? =some h/\h.id=w.hold/\cZ l w.au+w.aU<=p.aU
 u:¬(w.aU=0∨w.aU< -9∨9<w.aU)
 n:0<=iG l w.hold w.au+w.aU
 e:m=LX l ⟨w.hold,w.au,iG l w.hold w.au+w.aU⟩
theorem aaP{ps:List Pa}{hs:List Ho}{l m:List Sw}{w:Sw}(h:Dk ps hs l w= .ok m):aeu ps hs l w m:=by
 unfold Dk at h;split at h
 ·cases h
 ·rename_i h1;have h1:=dT.1 h1;have c:fB ps hs=0:=by
   unfold iy at h1;split at h1
   ·simp at h1
   ·rename_i k;exact dT.1 k
  split at h
  ·rename_i i k hi a;split at h
   ·cases h
   ·rename_i hu;split at h
    ·cases h
    ·rename_i hn;obtain⟨p,b,i2⟩:=gY hi;obtain⟨d,e,i1⟩:=qu a;rw[b]at h;simp only at h;split at h
     ·cases h
     ·rename_i hf;cases h;exact⟨fN h1,c,⟨i,k,p,d,hi,a,b,i2,e,i1,om⟩,hu,om,rfl⟩
  ·cases h
def mP(hs:List Ho)(g:Int->Int):Int:=(hs.map fun h=>g h.id).sum
theorem OR{hs:List Ho}{g c:Int->Int}{a:Int}{d:Int}(i:hs.Pairwise fun a b=>a.id<b.id)(h1:∀h∈hs,h.id≠a->c h.id=g h.id)(j:c a=g a+d)(hm:∃h∈hs,h.id=a):mP hs c=mP hs g+d:=by
 unfold mP;induction hs with
 |nil=>obtain⟨h,hx,_⟩:=hm;cases hx
 |cons x r ih=>
  obtain⟨q1,l⟩:=IE.1 i;rw[DM,DM,BC,BC];by_cases e:x.id=a
  ·have m:(r.map fun h=>c h.id)=r.map fun h=>g h.id:=List.map_congr_left fun y hy=>h1 y (by simp[hy]) (by have:=q1 y hy;omega)
   rw[m,e,j];omega
  ·obtain⟨h,hx,he⟩:=hm;rcases cb.1 hx with k|hx
   ·subst k;exact absurd he e
   ·rw[h1 x sm e,ih l (fun y hy=>h1 y (by simp[hy])) ⟨h,hx,he⟩];omega
theorem holds_zero{hs:List Ho}{g:Int->Int}(h:∀x∈hs,g x.id=0):mP hs g=0:=by
 unfold mP;induction hs with
 |nil=>rfl
 |cons x r ih=>rw[DM,BC,h x sm,ih fun y hy=>h y (by simp[hy])];rfl
theorem Jg{hs:List Ho}(i:hs.Pairwise fun a b=>a.id<b.id)(p:Int):∀{l:List Sw},tW l->(∀s∈l,∃h∈hs,h.id=s.hold)->cZ l p=mP hs fun a=>iG l a p:=by
 suffices H:∀(n:Nat)(l:List Sw),l.length=n->tW l->(∀s∈l,∃h∈hs,h.id=s.hold)->cZ l p=mP hs fun a=>iG l a p from fun {l} h1 j=>H l.length l rfl h1 j
 intro n;induction n with
 |zero=>
  intro l hl _ _;have:l=[]:=eR hl;subst this;rw[holds_zero fun x _=>rfl];rfl
 |succ n ih=>
  intro l hl d g;have c:l≠[]:=fun e=>by subst e;cases hl
  obtain⟨r,s,rfl⟩:∃r s,l=r++[s]:=⟨l.dropLast,l.getLast c,(CM c).symm⟩
  have m:tW r:=(Qx.1 d).1;rw[gz,nM,ih r (by simpa using hl) m fun x hx=>g x (by simp[hx])];by_cases e:s.au=p
  ·rw[bm e];refine(OR (a:=s.hold) i (fun h _ c=> ?_) ?_ (g s sm)).symm
   ·rw[wI,aq (fun k=>c k.2.symm)]
   ·rw[wI,bm ⟨e,rfl⟩,Di,Int.zero_add];intro x hx o;have:=(Qx.1 d).2.2 x hx s sm;unfold fT at this;omega
  ·rw[aq e,Int.add_zero];unfold mP;refine ca List.sum (List.map_congr_left fun h _=> ?_);show iG r h.id p=iG (r++[s]) h.id p;rw[wI,aq (fun k=>e k.1)]

def qT(a:List Int)(n i k:Nat):Int:=a.getD (i*n+k) 0
def dP(ps:List Pa)(hs:List Ho)(l:List Sw):List Int:=ps.flatMap fun p=>hs.map fun h=>iG l h.id p.id
theorem Jh{α β:Type}{f:α->List β}{n:Nat}:∀{l:List α},(∀x∈l,(f x).length=n)->(l.flatMap f).length=l.length*n/\∀(i k:Nat)(x:α),l[i]? =some x->k<n->(l.flatMap f)[i*n+k]? =(f x)[k]? :=by
 intro l;induction l with
 |nil=>intro _;exact⟨sm,sm⟩
 |cons y r ih=>
  intro h;have hy:=h y sm;obtain⟨h1,a⟩:=ih fun x hx=>h x (by simp[hx])
  refine⟨by rw[xJ,dp,h1,hy,ew,qh];omega,fun i k x hx b=> ?_⟩;rw[xJ];cases i with
  |zero=>
   simp at hx;subst hx;rw[VQ,mC,hN om]
  |succ i=>
   rw[iB (by rw[hy,qh];omega),hy,show(i+1)*n+k - n=i*n+k by rw[qh];omega];exact a i k x (by simpa using hx) b
theorem iX(ps:List Pa)(hs:List Ho)(l:List Sw):(dP ps hs l).length=ps.length*hs.length:=(Jh fun x _=>by simp).1
theorem rj{ps:List Pa}{hs:List Ho}{l:List Sw}{i k:Nat}{p:Pa}{h:Ho}(b:ps[i]? =some p)(a:hs[k]? =some h):(dP ps hs l)[i*hs.length+k]? =some (iG l h.id p.id):=by
 have c:=(ek.1 a).1;unfold dP;rw[(Jh (n:=hs.length) fun x _=>by simp).2 i k p b c,ow,a];rfl
theorem zV{m n:Nat}{a b:List Int}(ha:a.length=m*n)(hb:b.length=m*n)(h:∀i k,i<m->k<n->a[i*n+k]? =b[i*n+k]?):a=b:=by
 refine Es fun j=> ?_
 by_cases hj:j<m*n
 ·have hn:0<n:=by
   apply Nat.pos_of_ne_zero;intro e;subst e;simp at hj
  have e:j / n*n+j % n=j:=by rw[DS];exact KM j n
  have:=h (j / n) (j % n) ((TI hn).2 hj) (NB _ hn);rwa [e]at this
 ·rw[iw om,iw om]

def yP:Int->List Int->Bool
 |_,[]=>false
 |left,n::r=>if left<n then true else yP (left - n) r
theorem Ji:∀{r:List Int} {left:Int},(∀n∈r,0<=n)->(yP left r=false↔(r=[]∨r.sum<=left)):=by
 intro r;induction r with
 |nil=>intro left _;simp[yP]
 |cons n r ih=>
  intro left h;have c:=h n sm;have b:∀m∈r,0<=m:=fun m hm=>h m (by simp[hm])
  have hs:0<=r.sum:=by
   clear ih h;induction r with
   |nil=>simp
   |cons a s ih=>rw[BC];have:=b a sm;have:=ih fun m hm=>b m (by simp[hm]);omega
  unfold yP;by_cases hn:left<n
  ·rw[bm hn];simp;omega
  ·rw[aq hn,ih b];simp only[BC,reduceCtorEq,false_or];constructor
   ·rintro(e|e)
    ·subst e;simp;omega
    ·omega
   ·intro e;exact .inr om
def uI(a:List Int)(n i:Nat):List Int:=(a.drop (i*n)).take n
def Fs(ps:List Pa)(hs:List Ho)(a:List Int):Bool:=(List.range ps.length).any fun i=>match ps[i]? with|some p=>yP p.aU (uI a hs.length i)|none=>false
def sS(ps:List Pa)(hs:List Ho)(a:List Int):Except Int (List Sw):=
 if fB ps hs≠0 then .error 1
 else if a.length≠ps.length*hs.length then .error 10
 else if a.any (fun n=>decide (n<0))=true then .error 2
 else if Fs ps hs a=true then .error 12
 else .ok (py (qT a hs.length) ps hs)
theorem GZ{a:List Int}{m n i k:Nat}(ha:a.length=m*n)(hi:i<m)(c:k<n):(uI a n i)[k]? =some (qT a n i k):=by
 unfold uI qT;have b:i*n+k<a.length:=by
  rw[ha];have:(i+1)*n<=m*n:=hJ n hi;rw[qh]at this;omega
 rw[k7,bm c,oj,cz,af b];rfl
theorem ND{a:List Int}{m n i:Nat}(ha:a.length=m*n)(hi:i<m):(uI a n i).length=n:=by
 unfold uI;have:(i+1)*n<=m*n:=hJ n hi;rw[qh]at this;rw[ep,wo];omega
theorem OS{ps:List Pa}{hs:List Ho}{a:List Int}{i:Nat}{g:Int->Int}(ha:a.length=ps.length*hs.length)(hi:i<ps.length)(hg:∀k h,hs[k]? =some h->g h.id=qT a hs.length i k):uI a hs.length i=hs.map fun h=>g h.id:=by
 refine Es fun k=> ?_
 by_cases b:k<hs.length
 ·have e:=af b;rw[GZ ha hi b,ow,e,Zn,hg k _ e]
 ·rw[iw (by rw[ND ha hi];omega),iw (by simp;omega)]

theorem VR{ps:List Pa}{hs:List Ho}{a:List Int}{x:List Sw}(h:sS ps hs a= .ok x):fB ps hs=0/\fc ps hs x/\dP ps hs x=a:=by
 unfold sS at h;split at h
 ·cases h
 ·rename_i h1;have h1:=dT.1 h1;split at h
  ·cases h
  ·rename_i w;have w:=dT.1 w;split at h
   ·cases h
   ·rename_i E;split at h
    ·cases h
    ·rename_i z;cases h;have e:=gn h1;have F:∀n∈a,0<=n:=fun n hn=>by
      rw[UH,zI]at E;have:=E n hn;simp at this;omega
     have hg:∀i k,i<ps.length->k<hs.length->0<=qT a hs.length i k:=fun i k hi j=>by
      have:=GZ w hi j;have hm:qT a hs.length i k∈uI a hs.length i:=gr this;unfold uI at hm;exact F _ (Be (oe hm))
     have A:=Fq (f:=qT a hs.length) e.ip e.ih;have y:∀(i k:Nat)(p:Pa)(h:Ho),ps[i]? =some p->hs[k]? =some h->iG (py (qT a hs.length) ps hs) h.id p.id=qT a hs.length i k:=by
      intro i k p h c d;have H:=hg i k (ek.1 c).1 (ek.1 d).1;by_cases l:0<qT a hs.length i k
      ·exact GY A (qb.2 ⟨k,i,h,p,d,c,l,rfl⟩)
      ·rw[Di,show qT a hs.length i k=0 by omega];intro s o j;obtain⟨K,L,M,N,B,C,D,rfl⟩:=qb.1 o;simp only at j;have:=qv e.ip C c j.1;have:=qv e.ih B d j.2
       subst_vars
       exact l D
     have I:fc ps hs (py (qT a hs.length) ps hs):=by
      refine⟨e,fun s o=> ?_,fun s o=> ?_,A,fun q G=> ?_⟩
      ·obtain⟨k,i,h,p,d,c,_,rfl⟩:=qb.1 o;exact⟨i,k,aaM e.ip c,aaN e.ih d⟩
      ·obtain⟨k,i,h,p,d,c,H,rfl⟩:=qb.1 o;simp only;omega
      ·obtain⟨i,c⟩:=List.getElem?_of_mem G;have hi:=(ek.1 c).1;have hu:=Jg e.ih q.id A fun s o=>by
        obtain⟨k,i,h,p,d,c,_,rfl⟩:=qb.1 o;exact⟨h,gr d,rfl⟩
       have J:=OS (g:=fun b=>iG (py (qT a hs.length) ps hs) b q.id) w hi fun k h d=>y i k q h c d
       unfold mP at hu;rw[hu,<-J];unfold Fs at z;rw[UH,zI]at z;have m:=z i (JK.2 hi);rw[c]at m;simp only at m;rw[UH,Ji (fun n hn=>by unfold uI at hn;exact F _ (Be (oe hn)))]at m;rcases m with m|m
       ·rw[m];have:=(e.p1 q G).2.1.1;simp;omega
       ·exact m
     refine⟨h1,I,zV (iX ps hs _) w fun i k hi j=> ?_⟩;have c:ps[i]? =some ps[i]:=af hi;have d:hs[k]? =some hs[k]:=af j;rw[rj c d,y i k _ _ c d];have r:=GZ w hi j;unfold uI at r;rw[k7,bm j,oj]at r;exact r.symm

def eW(f:Sw->Rat)(l:List Sw):Rat:=(l.map f).sum
theorem AT(f:Sw->Rat)(a b:List Sw):eW f (a++b)=eW f a+eW f b:=by
 unfold eW;rw[eh];induction a.map f with
 |nil=>simp[Rat.zero_add]
 |cons x r ih=>rw[vv,BC,BC,ih,Rat.add_assoc]
theorem Jj(f:Sw->Rat)(s:Sw):eW f [s]=f s:=by simp[eW,Rat.add_zero]
theorem Sv(f:Sw->Rat):eW f []=0:=rfl
end Go.Proofs.YtmdphpnaipbfjaaGreatDoor.B

set_option maxRecDepth 100000
set_option maxHeartbeats 4000000
namespace Go.Proofs.YtmdphpnaipbfjaaGreatDoor.F
open Go Go.RowKit Go.Proofs Go.Proofs.YtmdphpnaipbfjaaGreatDoor.Vc
open Tryz
variable {A C D E G H J K A0 A1 A2 A3 A4 A5 A6 A7 A8 A9 C0 C1 C2 C3 C4 C5 C6 C7 C8 C9:O} {a b c d e f g i j l m n o a0 a1 a2 a3 a4 a5 a6 a7 a8 a9 b0 b1 b2 b3 b4 b5 b6 b7 b8 b9 c0 c1 c2 c3 c4 c5 c6 c7 c8 c9:Nat} {p q r s t u v x p0 p1 p2 p3 p4 p5 p6 p7 p8 p9 q0 q1 q2 q3 q4 q5 q6 q7 q8 q9:Int} {L M N N0 N1 N2 N3 N4 N5 N6 N7 N8 N9 T0 T1 T2 T3 T4 T5 T6 T7 T8 T9:ByteArray} {Q S:Bool} {B:Nat} {w:World} {R:Kt}
def aM.L2(a:O)(b c:Nat)(d e:Int)(f:O)(g i:Nat)(j:O)(l m:Nat):=Lt 103 f103 2 [vL 1,vS 12 a b c,vI 13 d,vI 14 e] [⟨1,false,44,[(vW f g i),(vW j l m)]⟩]
def aM.L8(a:O)(b c:Nat)(d e:Int)(f:O)(g i:Nat)(j:O)(l m:Nat):=Lt 103 f103 8 [vL 1,vS 29 a b c,vI 30 d,vI 31 e] [⟨1,false,44,[(vW f g i),(vW j l m)]⟩]
def aM.uZ(a:O)(b c:Nat)(d e:Int)(f:O)(g i:Nat)(j:O)(l m:Nat):=Lt 103 f103 16 [vL 1,vS 63 a b c,vI 64 d,vI 65 e] [⟨1,false,44,[(vW f g i),(vW j l m)]⟩]
def aM.CL(a:O)(b c:Nat)(d e:Int)(f:O)(g i:Nat)(j:O)(l m:Nat):=Lt 103 f103 26 [vL 1,vS 124 a b c,vI 125 d,vI 126 e] [⟨1,false,44,[(vW f g i),(vW j l m)]⟩]
def aM.cx:Pm:=([((true,2),[1,12,13,14],[1]),((true,8),[1,29,30,31],[1]),((true,16),[1,63,64,65],[1]),((true,26),[1,124,125,126],[1])],[(4,6,2),(10,13,2)])
theorem aM.L2.step
  (h:(Br (p<q) (Ix p c C fun n=>(∃o r s t g i j,aa w (n.add ((p).toNat*7)) [I o,I r,I s,vU t,vU g,vU i,vU j]/\(∀l,Ext B [] w l->(ae P (Instr.buildSlice 30 3 #[(0,(vU g)),(1,(vU i)),(2,(vU j))]) B [145,44] l (Rs fun u v x y=>(Pure P 126 #[vW u v x] y (Rb fun z m=>(Br (z=false) (R (I 1) m) (aN .i64 (p+1)/\(aM.L2 C c f q (p+1) D d e A a b B m R)))))))))) (aM.L8 A a b (a:Int) (0:Int) D d e A a b B w R))):
  aM.L2 C c f q p D d e A a b B w R:=
 lr aM.cx func103 h
theorem aM.L8.step
  (h:(Br (p<q) (Ix p d C fun r=>(∃s t g i j l m,aa w (r.add ((p).toNat*7)) [I s,vU t,vU g,vU i,vU j,vU l,vU m]/\(∀n,Ext B [] w n->(ae P (Instr.buildSlice 30 5 #[(0,(vU g)),(1,(vU i)),(2,(vU j)),(3,(vU l)),(4,(vU m))]) B [149,44] n (Rs fun u v x y=>(Pure P 126 #[vW u v x] y (Rb fun z o=>(Br (z=false) (R (I 1) o) (aN .i64 (p+1)/\(aM.L8 C d f q (p+1) A a b D c e B o R)))))))))) (Br ((a:Int)>6) (R (I 8) w) (Br ((c:Int)>6) (R (I 8) w) (aM.uZ A a b (a:Int) (0:Int) A a b D c e B w R))))):
  aM.L8 C d f q p A a b D c e B w R:=
 lr aM.cx func103 h
theorem aM.uZ.step
  (h:(Br (p<q) (Ix p d D fun K=>(∃i j l m n o r,aa w (K.add ((p).toNat*7)) [I i,I j,I l,vU m,vU n,vU o,vU r]/\(∀s,Ext B [] w s->(Pure P 127 #[I i,I 1073741824] s (Rb fun L t=>(Br (L=false) (R (I 2) t) (Pure P 127 #[I j,I 9] t (Rb fun M u=>(Br (M=false) (R (I 2) u) (Pure P 127 #[I l,I 9] u (Rb fun N v=>(Br (N=false) (R (I 2) v) (Pure P 128 #[vU n] v (Ri fun O x=>(Br (O<=(0:Int)) (R (I 2) x) (Pure P 128 #[vU o] x (Ri fun Q y=>(Br (Q<=(0:Int)) (R (I 2) y) (Pure P 128 #[vU r] y (Ri fun S z=>(Br (S<0) (R (I 2) z) (Pure P 129 #[vU m] z (Rb fun T g=>(Br (T=false) (R (I 4) g) (Br (p>0) (aN .i64 (p - (1:Int))/\(Ix (p - (1:Int)) b A fun U=>(∃E,aa g ((U.add (((p - (1:Int))).toNat*7)).add 0) [I E]/\(Br (E≥i) (∀G,Ext B [] g G->(R (I 5) G)) (aN .i64 (p+1)/\(∀H,Ext B [] g H->(aM.uZ D d f q (p+1) A b e C a c B H R))))))) (aN .i64 (p+1)/\(∀J,Ext B [] g J->(aM.uZ D d f q (p+1) A b e C a c B J R)))))))))))))))))))))))))))) (aM.CL C a c (a:Int) (0:Int) A b e C a c B w R))):
  aM.uZ D d f q p A b e C a c B w R:=
 lr aM.cx func103 h
theorem aM.CL.step
  (h:(Br (p<q) (Ix p a A fun y=>(∃i j l m z E G,aa w (y.add ((p).toNat*7)) [I i,vU j,vU l,vU m,vU z,vU E,vU G]/\(∀n,Ext B [] w n->(Pure P 127 #[I i,I 1073741824] n (Rb fun H o=>(Br (H=false) (R (I 2) o) (Pure P 128 #[vU l] o (Ri fun J r=>(Br (J<0) (R (I 2) r) (Pure P 128 #[vU m] r (Ri fun K s=>(Br (K<0) (R (I 2) s) (Pure P 129 #[vU j] s (Rb fun L g=>(Br (L=false) (R (I 4) g) (Br (p>0) (aN .i64 (p - (1:Int))/\(Ix (p - (1:Int)) b C fun M=>(∃t,aa g ((M.add (((p - (1:Int))).toNat*7)).add 0) [I t]/\(Br (t≥i) (∀u,Ext B [] g u->(R (I 5) u)) (aN .i64 (p+1)/\(∀v,Ext B [] g v->(aM.CL A a c q (p+1) D d e C b f B v R))))))) (aN .i64 (p+1)/\(∀x,Ext B [] g x->(aM.CL A a c q (p+1) D d e C b f B x R))))))))))))))))))) (R (I 0) w))):
  aM.CL A a c q p D d e C b f B w R:=
 lr aM.cx func103 h
theorem aM.vc
  (h:(∀e,Ext w.heap.size [] w e->(aM.L2 A a b (a:Int) (0:Int) A a b C c d w.heap.size e R))):
  Pure P 103 #[.agg #[vW A a b,vW C c d]] w R:=
 pr aM.cx func103 h

def gE.J12(a:O)(b c:Nat)(d e:Int)(f:Bool)(g:Int)(i:O)(j l:Nat)(m:O)(n o:Nat)(p q r:Int):=Jt 112 f112 12 [vS 1 a b c,vL 3,vL 5,vI 8 d,vI 9 e,(10,.v (.bool f)),vI 11 g] [⟨3,false,44,[(vW i j l),(vW m n o)]⟩,⟨5,false,123,[(I p),(I q),(I r)]⟩]
def gE.cx:Pm:=([((false,12),[1,3,5,8,9,10,11],[3,5])],[(16,2,2),(17,2,2),(18,9,2),(21,3,2),(21,4,6),(23,4,6)])
theorem gE.J12.step
  (h:(aN .i64 (r+q)/\(Br (((r+q):Int)<0) (R (.tuple #[vN,I 11]) w) (Ix u b A fun d5=>(∃z,aa w ((d5.add ((u).toNat*7)).add 1) [I z]/\(∀E,Ext B [] w E->(Pure P 146 #[vW C a c,I s] E (Ri fun G H=>(aN .i64 (G+q)/\(Br (((G+q):Int)>z) (R (.tuple #[vN,I 12]) H) (ae P (Instr.makeSlice 48 (I (a:Int)) (I (a:Int))) B [44,123] H (Rs fun l m n d6=>(ae P (Builtin.copy_ #[48,48] 3 #[vW l m n,vW C a c]) B [44,123] d6 (Ri fun e4 d7=>(aN .i64 (r+q)/\(ae P (Instr.alloc 73 true (.tuple #[])) B [44,123] d7 fun d8 J=>∃(g:Addr),d8= .pointer (some g)/\(∃(o:List Value)(v:Nat),B<=g.block/\g.spot=none/\J.heap[g.block]? =some (.cells o.toArray v (0,0))/\g.off+3<=o.length/\hasType v [⟨3,false,44,[vW A b d,vW D e f]⟩,⟨5,false,123,[I t,I s,I q]⟩]=false/\∀i,aG J i g.block v (setCells o g.off [I t,I s,(I (r+q))])->(Br (Q=false) (∃K L M,aa i g [I K,I L,I M]/\(ae P (Instr.buildSlice 48 1 #[(0,(.agg #[I K,I L,I M]))]) B [44,123] i (Rs fun d9 k F N=>(ba P 147 #[vW l m n,I p,vW d9 k F] B N fun W O=>qk [44,123] N O/\∃S T U,W=vW S T U/\(R (.tuple #[vW S T U,I 0]) O))))) (∃V,aa i (g.add 2) [I V]/\(Br (V=0) (aN .i64 (p+1)/\(ba P 148 #[vW l m n,I p,(I (p+1))] B i fun e3 X=>qk [44,123] i X/\∃Y Z d0,e3=vW Y Z d0/\(R (.tuple #[vW Y Z d0,I 0]) X))) (∃d1 d2 d3,aa i g [I d1,I d2,I d3]/\(Ix p m l fun j=>(∃(x:List Value)(y:Nat),B<=(j.add ((p).toNat*3)).block/\(j.add ((p).toNat*3)).spot=none/\i.heap[(j.add ((p).toNat*3)).block]? =some (.cells x.toArray y (0,0))/\(j.add ((p).toNat*3)).off+3<=x.length/\hasType y [⟨3,false,44,[vW A b d,vW D e f]⟩,⟨5,false,123,[I t,I s,I q]⟩]=false/\∀d4,aG i d4 (j.add ((p).toNat*3)).block y (setCells x (j.add ((p).toNat*3)).off [I d1,I d2,I d3])->(R (.tuple #[vW l m n,I 0]) d4)))))))))))))))))))))))):
  gE.J12 C a c u p Q r A b d D e f t s q B w R:=
 jr gE.cx func112 h
theorem gE.vc
  (h:(∀n,Ext w.heap.size [] w n->(Pure P 141 #[.agg #[vW A a b,vW C c d],vW D e f] n (Ri fun u o=>(Br (u≠0) (R (.tuple #[vN,I 1]) o) (Pure P 142 #[.agg #[vW A a b,vW C c d],I r] o (Ri fun l s=>(Br (l<0) (R (.tuple #[vN,I 7]) s) (Pure P 143 #[.agg #[vW A a b,vW C c d],I q] s (Ri fun v g=>(Br (v<0) (R (.tuple #[vN,I 7]) g) (Br (p=0) (R (.tuple #[vN,I 2]) g) (Br (p<(-9:Int)) (R (.tuple #[vN,I 2]) g) (Br (p>9) (R (.tuple #[vN,I 2]) g) (Pure P 144 #[vW D e f,.agg #[I q,I r,I 0],(.func (.func 145) #[] #[])] g fun x m=>∃i j,x= .tuple #[I i,.bool j]/\(Bb j (Ix i e D fun y=>(∃t,aa m ((y.add ((i).toNat*3)).add 2) [I t]/\(gE.J12 D e f l i j t A a b C c d q r p w.heap.size m R))) (gE.J12 D e f l i j (0:Int) A a b C c d q r p w.heap.size m R))))))))))))))))):
  Pure P 112 #[.agg #[vW A a b,vW C c d],vW D e f,.agg #[I q,I r,I p]] w R:=
 pr gE.cx func112 h

def mh.cx:Pm:=([],[])
theorem mh.vc
  (h:(Pure P 55 #[vW A a b,(.func (.func 182) #[] #[])] w (Rb fun c d=>(R (.bool (decide (c=false))) d)))):
  Pure P 126 #[vW A a b] w R:=
 pr mh.cx func126 h

def gZ.cx:Pm:=([],[])
theorem gZ.vc
  (h:(Br (p≥(1:Int)) (R (.bool (decide (p<=q))) w) (R (.bool false) w))):
  Pure P 127 #[I p,I q] w R:=
 pr gZ.cx func127 h

def je.cx:Pm:=([],[])
theorem je.vc
  (h:(Pure P 183 #[vU L,(vU ⟨#[48]⟩)] w (Ri fun a b=>(R (I a) b)))):
  Pure P 128 #[vU L] w R:=
 pr je.cx func128 h

def mi.cx:Pm:=([],[])
theorem mi.vc
  (h:(Br (((ByteArray.size L:Int):Int)≥(1:Int)) (R (.bool (decide (((ByteArray.size L:Int):Int)<=(64:Int)))) w) (R (.bool false) w))):
  Pure P 129 #[vU L] w R:=
 pr mi.cx func129 h

def cn.L4(a:O)(b c:Nat)(d:O)(e f:Nat)(g i:Int)(j:O)(l m:Nat)(n:O)(o p:Nat):=Lt 141 f141 4 [vS 1 a b c,vL 2,vS 11 d e f,vI 12 g,vI 13 i] [⟨2,false,44,[(vW j l m),(vW n o p)]⟩]
def cn.cx:Pm:=([((true,4),[1,2,11,12,13],[2])],[(13,9999,3)])
theorem cn.L4.step
  (h:(Br (p<q) (Ix p g E fun T=>(∃s l m,aa w (T.add ((p).toNat*3)) [I s,I l,I m]/\(∀t,Ext B [] w t->(Pure P 142 #[.agg #[vW A a c,vW D d e],I l] t (Ri fun j u=>(Br (j<0) (R (I 7) u) (Pure P 143 #[.agg #[vW A a c,vW D d e],I s] u (Ri fun U n=>(Br (U<0) (R (I 7) n) (Br (m<1) (R (I 2) n) (Br (p>0) (aN .i64 (p - (1:Int))/\(Ix (p - (1:Int)) f C fun V=>(∃v x y,aa n (V.add (((p - (1:Int))).toNat*3)) [I v,I x,I y]/\(∀z,Ext B [] n z->(Pure P 145 #[.agg #[I v,I x,I y],.agg #[I s,I l,I m]] z (Ri fun X o=>(Br (X≥(0:Int)) (R (I 5) o) (Ix j a A fun Y=>(∃G,aa o ((Y.add ((j).toNat*7)).add 1) [I G]/\(Br (m>G) (∀H,Ext B [] o H->(R (I 12) H)) (aN .i64 (p+1)/\((0<=(p+1)/\(p+1)<=(b:Int))/\(Ix j a A fun Z=>(∃J,aa o ((Z.add ((j).toNat*7)).add 1) [I J]/\(∀K,Ext B [] o K->(Pure P 146 #[(vW C (((p+1)).toNat) b),I l] K (Ri fun d0 L=>(Br (d0>J) (R (I 12) L) (aN .i64 (p+1)/\(cn.L4 C f b E g i q (p+1) A a c D d e B L R)))))))))))))))))))) (∀r,Ext B [] n r->(Ix j a A fun d1=>(∃M,aa r ((d1.add ((j).toNat*7)).add 1) [I M]/\(Br (m>M) (∀N,Ext B [] r N->(R (I 12) N)) (aN .i64 (p+1)/\((0<=(p+1)/\(p+1)<=(b:Int))/\(Ix j a A fun d2=>(∃O,aa r ((d2.add ((j).toNat*7)).add 1) [I O]/\(∀Q,Ext B [] r Q->(Pure P 146 #[(vW C (((p+1)).toNat) b),I l] Q (Ri fun d3 S=>(Br (d3>O) (R (I 12) S) (aN .i64 (p+1)/\(cn.L4 C f b E g i q (p+1) A a c D d e B S R))))))))))))))))))))))))) (R (I 0) w))):
  cn.L4 C f b E g i q p A a c D d e B w R:=
 lr cn.cx func141 h
theorem cn.vc
  (h:(∀g,Ext w.heap.size [] w g->(Pure P 103 #[.agg #[vW A b c,vW C d e]] g (Ri fun j i=>(Br (j≠0) (R (I 1) i) (cn.L4 D a f D a f (a:Int) (0:Int) A b c C d e w.heap.size i R)))))):
  Pure P 141 #[.agg #[vW A b c,vW C d e],vW D a f] w R:=
 pr cn.cx func141 h

def hO.cx:Pm:=([],[])
theorem hO.vc
  (h:(∀e,Ext w.heap.size [] w e->(Pure P 203 #[vW A a b,I p,(.func (.func 204) #[] #[])] e (Ri fun f g=>(R (I f) g))))):
  Pure P 142 #[.agg #[vW A a b,vW C c d],I p] w R:=
 pr hO.cx func142 h

def jf.cx:Pm:=([],[])
theorem jf.vc
  (h:(∀e,Ext w.heap.size [] w e->(Pure P 205 #[vW A a b,I p,(.func (.func 206) #[] #[])] e (Ri fun f g=>(R (I f) g))))):
  Pure P 143 #[.agg #[vW C c d,vW A a b],I p] w R:=
 pr jf.cx func143 h

def kb.cx:Pm:=([],[(1,10,2)])
theorem kb.vc
  (h:(∀a,Ext w.heap.size [] w a->(Pure P 208 #[I p,I r] a (Ri fun b c=>(Pure P 208 #[I q,I s] c (Ri fun d e=>(ae P (Instr.buildSlice 29 2 #[(0,(I b)),(1,(I d))]) w.heap.size [73,73] e (Rs fun f g i j=>(Pure P 207 #[vW f g i] j (Ri fun l m=>(R (I l) m))))))))))):
  Pure P 145 #[.agg #[I p,I q,I t],.agg #[I r,I s,I u]] w R:=
 pr kb.cx func145 h

def dF.L3(a b:Int)(c:O)(d e:Nat)(f g:Int):=Lt 146 f146 3 [vI 1 a,vI 5 b,vS 8 c d e,vI 9 f,vI 10 g] []
def dF.cx:Pm:=([((true,3),[1,5,8,9,10],[])],[])
theorem dF.L3.step
  (h:(Br (p<s) (Ix p a A fun g=>(∃i d c,aa w (g.add ((p).toNat*3)) [I i,I d,I c]/\(Br (d=r) (aN .i64 (q+c)/\(aN .i64 (p+1)/\(∀e,Ext B [] w e->(dF.L3 r (q+c) A a b s (p+1) B e R)))) (aN .i64 (p+1)/\(∀f,Ext B [] w f->(dF.L3 r q A a b s (p+1) B f R)))))) (R (I q) w))):
  dF.L3 r q A a b s p B w R:=
 lr dF.cx func146 h
theorem dF.vc
  (h:(dF.L3 p (0:Int) A a b (a:Int) (0:Int) w.heap.size w R)):
  Pure P 146 #[vW A a b,I p] w R:=
 pr dF.cx func146 h

def qw.cx:Pm:=([],[])
theorem qw.vc
  (h:(Pure P 62 #[vU L] w (Rb fun a b=>(R (.bool (decide (a=false))) b)))):
  Pure P 182 #[vU L] w R:=
 pr qw.cx func182 h

def ie.cx:Pm:=([],[])
theorem ie.vc
  (h:(Pure P 232 #[vU L,vU M] w (Rii fun a c b=>(R (I a) b)))):
  Pure P 183 #[vU L,vU M] w R:=
 pr ie.cx func183 h

def iH.cx:Pm:=([],[(3,2,5)])
theorem iH.vc
  (h:(∀l,Ext w.heap.size [] w l->(Pure P 141 #[.agg #[vW C c d,vW A a b],vW D e f] l (Ri fun m g=>(Br (m≠0) (R (.tuple #[I 0,I 1]) g) (∀i:Nat,w.heap.size<=i->g.heap[i]? =some (.cells [vW D e f].toArray 48 (0,0))->(∀j:Nat,w.heap.size<=j->g.heap[j]? =some (.cells [vW C c d,vW A a b].toArray 44 (0,0))->(Pure P 240 #[vW A a b,(.func (.func 241) #[] #[(.pointer (some (⟨j,0,none⟩:Addr))),(.pointer (some (⟨i,0,none⟩:Addr)))])] g (Ri fun n o=>(R (.tuple #[I n,I 0]) o)))))))))):
  Pure P 186 #[.agg #[vW C c d,vW A a b],vW D e f] w R:=
 pr iH.cx func186 h

def dr.L5(a:O)(b c:Nat)(d:O)(e f:Nat)(g i:Int)(j:O)(l m:Nat)(n:O)(o p:Nat):=Lt 200 f200 5 [vL 2,vS 6 a b c,vS 21 d e f,vI 22 g,vI 23 i] [⟨2,false,44,[(vW j l m),(vW n o p)]⟩]
def dr.cx:Pm:=([((true,5),[2,6,21,22,23],[2])],[(3,7,2)])
theorem dr.L5.step
  (h:(Br (p<q) (Ix p g E fun y=>(∃n o r,aa w (y.add ((p).toNat*3)) [I n,I o,I r]/\(∀u,Ext B [] w u->(Pure P 142 #[.agg #[vW A b c,vW C a d],I o] u (Ri fun j z=>(aN .i64 (j*(a:Int))/\(Pure P 143 #[.agg #[vW A b c,vW C a d],I n] z (Ri fun l v=>(aN .i64 ((j*(a:Int))+l)/\(Ix ((j*(a:Int))+l) e D fun m=>(∃(s:List Value)(t:Nat),B<=(m.add ((((j*(a:Int))+l)).toNat*1)).block/\(m.add ((((j*(a:Int))+l)).toNat*1)).spot=none/\v.heap[(m.add ((((j*(a:Int))+l)).toNat*1)).block]? =some (.cells s.toArray t (0,0))/\(m.add ((((j*(a:Int))+l)).toNat*1)).off+1<=s.length/\hasType t [⟨8,false,73,[I n,I o,I r]⟩,⟨2,false,44,[vW A b c,vW C a d]⟩]=false/\∀x,aG v x (m.add ((((j*(a:Int))+l)).toNat*1)).block t (setCells s (m.add ((((j*(a:Int))+l)).toNat*1)).off [I r])->(aN .i64 (p+1)/\(dr.L5 D e f E g i q (p+1) A b c C a d B x R))))))))))))) (R (.tuple #[vW D e f,I 0]) w))):
  dr.L5 D e f E g i q p A b c C a d B w R:=
 lr dr.cx func200 h
theorem dr.vc
  (h:(∀g,Ext w.heap.size [] w g->(Pure P 141 #[.agg #[vW A a d,vW C b e],vW D c f] g (Ri fun j i=>(Br (j≠0) (R (.tuple #[vN,I 1]) i) (aN .i64 ((a:Int)*(b:Int))/\(ae P (Instr.makeSlice 29 (I ((a:Int)*(b:Int))) (I ((a:Int)*(b:Int)))) w.heap.size [44] i (Rs fun l m n o=>(dr.L5 l m n D c f (c:Int) (0:Int) A a d C b e w.heap.size o R))))))))):
  Pure P 200 #[.agg #[vW A a d,vW C b e],vW D c f] w R:=
 pr dr.cx func200 h

def jE.cx:Pm:=([],[(1,1,5)])
theorem jE.vc{g i:Array Value}
  (h:(∀d,Ext w.heap.size [] w d->(∀e:Nat,w.heap.size<=e->d.heap[e]? =some (.cells [I p].toArray 3 (0,0))->(∀f:Nat,w.heap.size<=f->d.heap[f]? =some (.cells [(.func (.func c) g i)].toArray 291 (0,0))->(Pure P 249 #[vW A a b,(.func (.func 253) #[] #[(.pointer (some (⟨f,0,none⟩:Addr))),(.pointer (some (⟨e,0,none⟩:Addr)))])] d (Ri fun j l=>(R (I j) l))))))):
  Pure P 203 #[vW A a b,I p,(.func (.func c) g i)] w R:=
 pr jE.cx func203 h

def pz.cx:Pm:=([],[])
theorem pz.vc
  (h:(∀a,Ext w.heap.size [] w a->(R (I p) a))):
  Pure P 204 #[.agg #[I p,I q,I r,vU L,vU M,vU N,vU N0]] w R:=
 pr pz.cx func204 h

def kL.cx:Pm:=([],[(1,1,5)])
theorem kL.vc{g i:Array Value}
  (h:(∀d,Ext w.heap.size [] w d->(∀e:Nat,w.heap.size<=e->d.heap[e]? =some (.cells [I p].toArray 3 (0,0))->(∀f:Nat,w.heap.size<=f->d.heap[f]? =some (.cells [(.func (.func c) g i)].toArray 293 (0,0))->(Pure P 240 #[vW A a b,(.func (.func 254) #[] #[(.pointer (some (⟨f,0,none⟩:Addr))),(.pointer (some (⟨e,0,none⟩:Addr)))])] d (Ri fun j l=>(R (I j) l))))))):
  Pure P 205 #[vW A a b,I p,(.func (.func c) g i)] w R:=
 pr kL.cx func205 h

def rD.cx:Pm:=([],[])
theorem rD.vc
  (h:(∀a,Ext w.heap.size [] w a->(R (I p) a))):
  Pure P 206 #[.agg #[I p,vU L,vU M,vU N,vU N0,vU N1,vU N2]] w R:=
 pr rD.cx func206 h

def kM.cx:Pm:=([],[(1,9999,3)])
theorem kM.vc{m n:Addr}
  (h:(∀a,Ext w.heap.size [] w a->(∃b c d e f g,aa a m [vW b c d,vW e f g]/\(∃i j l,aa a n [vW i j l]/\((∀o,Ext w.heap.size [] a o->(Pure P 243 #[vW i j l,I p] o (Rs fun q r s t=>((Pure P 242 #[.agg #[vW b c d,vW e f g],vW q r s] t fun Q S=>∃u v T U V X,Q= .agg #[vU u,vU v,vU T,vU U,vU V,vU X]/\(∀x,Ext w.heap.size [] S x->(Pure P 183 #[vU u,vU M] x (Ri fun Y y=>(Br (Y>0) (R (.bool true) y) (Pure P 183 #[vU v,vU L] y (Ri fun Z d0=>(R (.bool (decide (Z>0))) d0))))))))/\(∀z,Ext w.heap.size [] t z->(Pure P 242 #[.agg #[vW b c d,vW e f g],vW q r s] z fun d1 d2=>∃A C d3 d4 d5 d6,d1= .agg #[vU A,vU C,vU d3,vU d4,vU d5,vU d6]/\(∀D,Ext w.heap.size [326] d2 D->(Pure P 183 #[vU A,vU M] D (Ri fun d7 E=>(Br (d7>0) (R (.bool true) E) (Pure P 183 #[vU C,vU L] E (Ri fun d8 d9=>(R (.bool (decide (d8>0))) d9)))))))))))))/\(∀G,Ext w.heap.size [] a G->(Pure P 243 #[vW i j l,I p] G (Rs fun k F W e3=>(Pure P 242 #[.agg #[vW b c d,vW e f g],vW k F W] e3 fun e4 e5=>∃H J e6 e7 e8 e9,e4= .agg #[vU H,vU J,vU e6,vU e7,vU e8,vU e9]/\(∀K,Ext w.heap.size [326] e5 K->(Pure P 183 #[vU H,vU M] K (Ri fun g0 O=>(Br (g0>0) (R (.bool true) O) (Pure P 183 #[vU J,vU L] O (Ri fun g1 g2=>(R (.bool (decide (g1>0))) g2)))))))))))))))):
  Pure P 241 #[.agg #[I p,vU N,vU L,vU M,vU N0,vU N1,vU N2],(.pointer (some m)),(.pointer (some n))] w R:=
 pr kM.cx func241 h

def bl.L3(a:O)(b c:Nat)(d e:Int)(f:O)(g i:Nat)(j:O)(l m:Nat)(n o p q r s t u v x y z:ByteArray):=Lt 242 f242 3 [vL 2,vL 4,vL 5,vS 14 a b c,vI 15 d,vI 16 e] [⟨2,false,44,[(vW f g i),(vW j l m)]⟩,⟨4,false,326,[(vU n),(vU o),(vU p),(vU q),(vU r),(vU s)]⟩,⟨5,false,326,[(vU t),(vU u),(vU v),(vU x),(vU y),(vU z)]⟩]
def bl.J6(a:O)(b c:Nat)(d e:Int)(f:O)(g i:Nat)(j:O)(l m:Nat)(n o p q r s t u v x y z:ByteArray)(A C D E G H:Int)(J K L M N Q S:ByteArray):=Jt 242 f242 6 [vL 2,vL 4,vL 5,vL 7,vL 8,vL 9,vS 14 a b c,vI 15 d,vI 16 e] [⟨2,false,44,[(vW f g i),(vW j l m)]⟩,⟨4,false,326,[(vU n),(vU o),(vU p),(vU q),(vU r),(vU s)]⟩,⟨5,false,326,[(vU t),(vU u),(vU v),(vU x),(vU y),(vU z)]⟩,⟨7,false,73,[(I A),(I C),(I D)]⟩,⟨8,false,145,[(I E),(I G),(I H),(vU J),(vU K),(vU L),(vU M)]⟩,⟨9,false,147,[(vU N),(vU Q),(vU S)]⟩]
def bl.cx:Pm:=([((true,3),[2,4,5,14,15,16],[2,4,5]),((false,6),[2,4,5,7,8,9,14,15,16],[2,4,5,7,8,9])],[(5,9998,8),(5,9999,3)])
theorem bl.L3.step
  (h:(Br (p<q) (Ix p e D fun a2=>(∃g i j,aa w (a2.add ((p).toNat*3)) [I g,I i,I j]/\(∀u,Ext B [] w u->((∀k,Ext B [] u k->(Pure P 142 #[.agg #[vW C b c,vW A a d],I i] k (Ri fun i8 d2=>(Ix i8 b C fun l3=>(∃l m n o r s t,aa u (l3.add ((i8).toNat*7)) [I l,I m,I n,vU o,vU r,vU s,vU t]/\((∀d3,Ext B [] d2 d3->(Pure P 143 #[.agg #[vW C b c,vW A a d],I g] d3 (Ri fun x d4=>(Ix x a A fun d5=>((∀y,Ext B [] d4 y->(∃d6 d7 d8,aa y ((d5.add ((x).toNat*7)).add 4) [vU d6,vU d7,vU d8]/\(∀d9,Ext B [145,147] y d9->(bl.J6 D e f q p C b c A a d N3 N4 N5 N6 N7 N8 L M N N0 N1 N2 g i j l m n o r s t d6 d7 d8 B d9 R))))/\(∀z,Ext B [145] d4 z->(∃F W e2,aa z ((d5.add ((x).toNat*7)).add 4) [vU F,vU W,vU e2]/\(∀e3,Ext B [147] z e3->(bl.J6 D e f q p C b c A a d N3 N4 N5 N6 N7 N8 L M N N0 N1 N2 g i j l m n o r s t F W e2 B e3 R)))))))))/\(∀e4,Ext B [] d2 e4->(Pure P 143 #[.agg #[vW C b c,vW A a d],I g] e4 (Ri fun v E=>((Ix v a A fun e5=>((∀G,Ext B [] E G->(∃e6 e7 e8,aa G ((e5.add ((v).toNat*7)).add 4) [vU e6,vU e7,vU e8]/\(∀e9,Ext B [145,147] G e9->(bl.J6 D e f q p C b c A a d N3 N4 N5 N6 N7 N8 L M N N0 N1 N2 g i j l m n o r s t e6 e7 e8 B e9 R))))/\(∀H,Ext B [145] E H->(∃g0 g1 g2,aa H ((e5.add ((v).toNat*7)).add 4) [vU g0,vU g1,vU g2]/\(∀g3,Ext B [147] H g3->(bl.J6 D e f q p C b c A a d N3 N4 N5 N6 N7 N8 L M N N0 N1 N2 g i j l m n o r s t g0 g1 g2 B g3 R))))))/\(Ix v a A fun l4=>(∀J,Ext B [145] E J->(∃g4 g5 g6,aa J ((l4.add ((v).toNat*7)).add 4) [vU g4,vU g5,vU g6]/\(∀g7,Ext B [147] J g7->(bl.J6 D e f q p C b c A a d N3 N4 N5 N6 N7 N8 L M N N0 N1 N2 g i j l m n o r s t g4 g5 g6 B g7 R)))))))))))))))/\(∀g8,Ext B [] u g8->(Pure P 142 #[.agg #[vW C b c,vW A a d],I i] g8 (Ri fun g9 l5=>(Ix g9 b C fun l6=>(∃K O Q S T U V,aa u (l6.add ((g9).toNat*7)) [I K,I O,I Q,vU S,vU T,vU U,vU V]/\(∀j0,Ext B [] l5 j0->(Pure P 143 #[.agg #[vW C b c,vW A a d],I g] j0 (Ri fun X j1=>(Ix X a A fun j2=>((∀Y,Ext B [] j1 Y->(∃j3 j4 j5,aa Y ((j2.add ((X).toNat*7)).add 4) [vU j3,vU j4,vU j5]/\(∀j6,Ext B [145,147] Y j6->(bl.J6 D e f q p C b c A a d N3 N4 N5 N6 N7 N8 L M N N0 N1 N2 g i j K O Q S T U V j3 j4 j5 B j6 R))))/\(∀Z,Ext B [145] j1 Z->(∃j7 j8 j9,aa Z ((j2.add ((X).toNat*7)).add 4) [vU j7,vU j8,vU j9]/\(∀l0,Ext B [147] Z l0->(bl.J6 D e f q p C b c A a d N3 N4 N5 N6 N7 N8 L M N N0 N1 N2 g i j K O Q S T U V j7 j8 j9 B l0 R)))))))))))))))))) (∀l1,Ext B [326] w l1->(R (.agg #[vU L,vU M,vU N,vU N0,vU N1,vU N2]) l1)))):
  bl.L3 D e f q p C b c A a d N3 N4 N5 N6 N7 N8 L M N N0 N1 N2 B w R:=
 lr bl.cx func242 h
theorem bl.J6.step
  (h:(Pure P 285 #[I r] w (Rt fun i n=>(Pure P 286 #[vU i,vU N9] n (Rt fun g o=>(∀j,Ext B [] o j->(Pure P 287 #[vU N3,vU g] j (Rt fun y z=>(Pure P 286 #[vU i,vU T0] z (Rt fun E G=>(Pure P 287 #[vU N4,vU E] G (Rt fun H J=>(Pure P 286 #[vU i,vU T1] J (Rt fun K O=>(Pure P 287 #[vU N5,vU K] O (Rt fun Q S=>(∀l,Ext B [326] S l->(Pure P 286 #[vU g,vU T2] l (Rt fun T U=>(Pure P 287 #[vU N6,vU T] U (Rt fun V X=>(Pure P 286 #[vU g,vU T3] X (Rt fun Y Z=>(Pure P 287 #[vU N7,vU Y] Z (Rt fun d0 d1=>(Pure P 286 #[vU g,vU T4] d1 (Rt fun d2 d3=>(Pure P 287 #[vU N8,vU d2] d3 (Rt fun d4 d5=>(aN .i64 (p+1)/\(∀m,Ext B [326] d5 m->(bl.L3 A a b q (p+1) C c d D e f L M N N0 N1 N2 y H Q V d0 d4 B m R)))))))))))))))))))))))))))))))):
  bl.J6 A a b q p C c d D e f L M N N0 N1 N2 N3 N4 N5 N6 N7 N8 s t r u v x T5 N9 T0 T1 T2 T3 T4 B w R:=
 jr bl.cx func242 h
theorem bl.vc
  (h:(∀g,Ext w.heap.size [] w g->(bl.L3 D a f (a:Int) (0:Int) A b c C d e (⟨#[]⟩:ByteArray) (⟨#[]⟩:ByteArray) (⟨#[]⟩:ByteArray) (⟨#[]⟩:ByteArray) (⟨#[]⟩:ByteArray) (⟨#[]⟩:ByteArray) (⟨#[48]⟩:ByteArray) (⟨#[48]⟩:ByteArray) (⟨#[48]⟩:ByteArray) (⟨#[48]⟩:ByteArray) (⟨#[48]⟩:ByteArray) (⟨#[48]⟩:ByteArray) w.heap.size g R))):
  Pure P 242 #[.agg #[vW A b c,vW C d e],vW D a f] w R:=
 pr bl.cx func242 h

def qx.cx:Pm:=([],[(1,2,5),(1,3,6)])
theorem qx.vc
  (h:(∀e,Ext w.heap.size [] w e->(Pure P 84 #[vW A a b] e (Rs fun l m n c=>(∀d:Nat,w.heap.size<=d->c.heap[d]? =some (.cells [I p].toArray 3 (0,0))->(ba P 288 #[vW l m n,(.func (.func 289) #[] #[(.pointer (some (⟨d,0,none⟩:Addr)))])] w.heap.size c fun o f=>qk [] c f/\∃g i j,o=vW g i j/\(R (vW g i j) f))))))):
  Pure P 243 #[vW A a b,I p] w R:=
 pr qx.cx func243 h

def bb.L8(a:O)(b c:Nat)(d:O)(e f:Nat)(g i:Int)(j:O)(l m:Nat)(n:O)(o p:Nat):=Lt 252 f252 8 [vS 1 a b c,vL 2,vS 33 d e f,vI 34 g,vI 35 i] [⟨2,false,44,[(vW j l m),(vW n o p)]⟩]
def bb.L12(a:O)(b c:Nat)(d:Int)(e:O)(f g:Nat)(i j:Int)(l:O)(m n:Nat)(o p:Int)(q:O)(r s:Nat)(t:O)(u v:Nat):=Lt 252 f252 12 [vS 1 a b c,vL 2,vI 8 d,vS 33 e f g,vI 34 i,vI 35 j,vS 54 l m n,vI 55 o,vI 56 p] [⟨2,false,44,[(vW q r s),(vW t u v)]⟩]
def bb.B8(a:O)(b c:Nat)(d:O)(e f:Nat)(g:O)(i j:Nat)(l m:Int)(n:O)(o p:Nat)(q:O)(r s:Nat):=Lt 252 f252 21 [vS 1 a b c,vL 2,vS 11 d e f,vS 69 g i j,vI 70 l,vI 71 m] [⟨2,false,44,[(vW n o p),(vW q r s)]⟩]
def bb.KN(a:O)(b c:Nat)(d:O)(e f:Nat)(g:Int)(i:O)(j l:Nat)(m n:Int)(o:O)(p q:Nat)(r s:Int)(t:O)(u v:Nat)(x:O)(y z:Nat)(A:Int)(C D E G H J:ByteArray):=Lt 252 f252 24 [vS 1 a b c,vL 2,vS 11 d e f,vI 12 g,vL 13,vS 69 i j l,vI 70 m,vI 71 n,vS 77 o p q,vI 78 r,vI 79 s] [⟨2,false,44,[(vW t u v),(vW x y z)]⟩,⟨13,false,149,[(I A),(vU C),(vU D),(vU E),(vU G),(vU H),(vU J)]⟩]
def bb.cx:Pm:=([((true,8),[1,2,33,34,35],[2]),((true,12),[1,2,8,33,34,35,54,55,56],[2]),((true,21),[1,2,11,69,70,71],[2]),((true,24),[1,2,11,12,13,69,70,71,77,78,79],[2,13])],[(28,7,2),(28,8,2)])
theorem bb.L8.step
  (h:(Br (p<q) (Ix p e D fun m=>(∃n j o r s t u,aa w (m.add ((p).toNat*7)) [I n,I j,I o,vU r,vU s,vU t,vU u]/\(aN .i64 (p*(a:Int))/\(aN .i64 (p+1)/\(aN .i64 ((p+1)*(a:Int))/\((0<=(p*(a:Int))/\(p*(a:Int))<=((p+1)*(a:Int))/\((p+1)*(a:Int))<=(b:Int))/\(∀l,Ext B [] w l->(bb.L12 A d b j D e i q p (cT A (((p*(a:Int))).toNat) b 1) ((((p+1)*(a:Int))).toNat - ((p*(a:Int))).toNat) (b - ((p*(a:Int))).toNat) ((((((p+1)*(a:Int))).toNat - ((p*(a:Int))).toNat):Nat):Int) (0:Int) E f g C a c B l R)))))))) (bb.B8 A d b none 0 0 C a c (a:Int) (0:Int) E f g C a c B w R))):
  bb.L8 A d b D e i q p E f g C a c B w R:=
 lr bb.cx func252 h
theorem bb.L12.step
  (h:(Br (p<t) (Ix p e D fun n=>(∃m,aa w (n.add ((p).toNat*1)) [I m]/\(Br (m>q) (R (.tuple #[vN,I 12]) w) (aN .i64 (q - m)/\(aN .i64 (p+1)/\(bb.L12 A a b (q - m) C c d s r D e l t (p+1) E f g G i j B w R)))))) (aN .i64 (r+1)/\(bb.L8 A a b C c d s (r+1) E f g G i j B w R)))):
  bb.L12 A a b q C c d s r D e l t p E f g G i j B w R:=
 lr bb.cx func252 h
theorem bb.B8.step
  (h:(Br (p<q) (Ix p d C fun x=>(∃m n o r s t u,aa w (x.add ((p).toNat*7)) [I m,vU n,vU o,vU r,vU s,vU t,vU u]/\(∀v,Ext B [] w v->(bb.KN E f g A b c p C d i q p D a e (a:Int) (0:Int) D a e G j l m n o r s t u B v R)))) (R (.tuple #[vW A b c,I 0]) w))):
  bb.B8 E f g A b c C d i q p D a e G j l B w R:=
 lr bb.cx func252 h
theorem bb.KN.step
  (h:(Br (p<t) (Ix p i E fun y=>(∃x z J K O Q S,aa w (y.add ((p).toNat*7)) [I x,I z,I J,vU K,vU O,vU Q,vU S]/\(aN .i64 (p*(a:Int))/\(aN .i64 ((p*(a:Int))+q)/\(Ix ((p*(a:Int))+q) b A fun T=>(∀o,Ext B [] w o->(∃v,aa o (T.add ((((p*(a:Int))+q)).toNat*1)) [I v]/\(Br (v>0) (ae P (Instr.buildSlice 48 1 #[(0,(.agg #[I u,I x,I v]))]) B [145,44,149] o (Rs fun U V X Y=>(ae P (Builtin.append_ #[48,48] 48 #[vW C d e,vW U V X]) B [145,44,149] Y (Rs fun Z d0 d1 d2=>(aN .i64 (p+1)/\(bb.KN A b c Z d0 d1 q D f g s r E i n t (p+1) G j l H a m u L M N N0 N1 N2 B d2 R)))))) (aN .i64 (p+1)/\(bb.KN A b c C d e q D f g s r E i n t (p+1) G j l H a m u L M N N0 N1 N2 B o R)))))))))) (aN .i64 (r+1)/\(bb.B8 A b c C d e D f g s (r+1) G j l H a m B w R)))):
  bb.KN A b c C d e q D f g s r E i n t p G j l H a m u L M N N0 N1 N2 B w R:=
 lr bb.cx func252 h
theorem bb.vc
  (h:(∀i,Ext w.heap.size [] w i->(Pure P 103 #[.agg #[vW A a c,vW C b e]] i (Ri fun l g=>(Br (l≠0) (R (.tuple #[vN,I 1]) g) (aN .i64 ((a:Int)*(b:Int))/\(Br ((d:Int)≠((a:Int)*(b:Int))) (R (.tuple #[vN,I 10]) g) (Pure P 59 #[vW D d f,(.func (.func 290) #[] #[])] g (Rb fun m j=>(Bb m (R (.tuple #[vN,I 2]) j) (bb.L8 D d f A a c (a:Int) (0:Int) A a c C b e w.heap.size j R))))))))))):
  Pure P 252 #[.agg #[vW A a c,vW C b e],vW D d f] w R:=
 pr bb.cx func252 h

def ig.cx:Pm:=([],[(1,2,4),(1,9999,3)])
theorem ig.vc{c d:Addr}
  (h:(∀a,Ext w.heap.size [] w a->(∃(b:Nat)(e f:Array Value),aa a c [(.func (.func b) e f)]/\(∃g,aa a d [I g]/\(av P b=true/\(∀i,Ext w.heap.size [] a i->(Pure P b ((Array.toList e)++([.agg #[I p,I q,I r,vU L,vU M,vU N,vU N0]]:List Value)++(Array.toList f)).toArray i (Ri fun j l=>(R (.bool (decide (j=g))) l))))))))):
  Pure P 253 #[.agg #[I p,I q,I r,vU L,vU M,vU N,vU N0],(.pointer (some c)),(.pointer (some d))] w R:=
 pr ig.cx func253 h

def jg.cx:Pm:=([],[(1,2,4),(1,9999,3)])
theorem jg.vc{c d:Addr}
  (h:(∀a,Ext w.heap.size [] w a->(∃(b:Nat)(e f:Array Value),aa a c [(.func (.func b) e f)]/\(∃g,aa a d [I g]/\(av P b=true/\(∀i,Ext w.heap.size [] a i->(Pure P b ((Array.toList e)++([.agg #[I p,vU L,vU M,vU N,vU N0,vU N1,vU N2]]:List Value)++(Array.toList f)).toArray i (Ri fun j l=>(R (.bool (decide (j=g))) l))))))))):
  Pure P 254 #[.agg #[I p,vU L,vU M,vU N,vU N0,vU N1,vU N2],(.pointer (some c)),(.pointer (some d))] w R:=
 pr jg.cx func254 h

def qy.cx:Pm:=([],[])
theorem qy.vc
  (h:(∀g,Ext w.heap.size [] w g->(Pure P 141 #[.agg #[vW A a b,vW C c d],vW D e f] g (Ri fun x i=>(Br (x≠0) (∀j,Ext w.heap.size [326] i j->(R (.tuple #[(.agg #[(vU ⟨#[]⟩),(vU ⟨#[]⟩),(vU ⟨#[]⟩),(vU ⟨#[]⟩),(vU ⟨#[]⟩),(vU ⟨#[]⟩)]),I 1]) j)) (Pure P 143 #[.agg #[vW A a b,vW C c d],I p] i (Ri fun y l=>(Br (y<0) (∀m,Ext w.heap.size [326] l m->(R (.tuple #[(.agg #[(vU ⟨#[]⟩),(vU ⟨#[]⟩),(vU ⟨#[]⟩),(vU ⟨#[]⟩),(vU ⟨#[]⟩),(vU ⟨#[]⟩)]),I 7]) m)) (∀n,Ext w.heap.size [] l n->(Pure P 243 #[vW D e f,I p] n (Rs fun z E G H=>(Pure P 242 #[.agg #[vW A a b,vW C c d],vW z E G] H fun J K=>∃o q r s t u,J= .agg #[vU o,vU q,vU r,vU s,vU t,vU u]/\(∀v,Ext w.heap.size [326] K v->(R (.tuple #[.agg #[vU o,vU q,vU r,vU s,vU t,vU u],I 0]) v)))))))))))))):
  Pure P 278 #[.agg #[vW A a b,vW C c d],vW D e f,I p] w R:=
 pr qy.cx func278 h

def mQ.cx:Pm:=([],[])
theorem mQ.vc
  (h:(Pure P 42 #[I p] w (Rt fun a b=>(R (vU a) b)))):
  Pure P 285 #[I p] w R:=
 pr mQ.cx func285 h

def jz.cx:Pm:=([],[])
theorem jz.vc
  (h:(Pure P 258 #[vU L,vU M] w (qO fun a c b=>(R (vU a) b)))):
  Pure P 286 #[vU L,vU M] w R:=
 pr jz.cx func286 h

def jA.cx:Pm:=([],[])
theorem jA.vc
  (h:(Pure P 257 #[vU L,vU M] w (qO fun a c b=>(R (vU a) b)))):
  Pure P 287 #[vU L,vU M] w R:=
 pr jA.cx func287 h

def vx.cx:Pm:=([],[])
theorem vx.vc{b:Addr}
  (h:(∀a,Ext w.heap.size [] w a->(∃c,aa a b [I c]/\(R (.bool (decide (p≠c))) a)))):
  Pure P 289 #[.agg #[I p,I q,I r],(.pointer (some b))] w R:=
 pr vx.cx func289 h

def rE.cx:Pm:=([],[])
theorem rE.vc
  (h:(R (.bool (decide (p<0))) w)):
  Pure P 290 #[I p] w R:=
 pr rE.cx func290 h

end Go.Proofs.YtmdphpnaipbfjaaGreatDoor.F
