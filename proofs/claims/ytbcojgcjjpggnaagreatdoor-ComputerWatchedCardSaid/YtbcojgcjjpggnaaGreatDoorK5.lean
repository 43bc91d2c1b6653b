/- Part 5 of the proofs that: What is stowed keeps the problem; lamps change by samples and by seeing alone. -/
import Derived.Test.YtbcojgcjjpggnaaGreatDoorK4
import Derived.Test.YtbcojgcjjpggnaaGreatDoorProg
import Derived.MapKept
set_option linter.unusedVariables false
set_option linter.unusedSimpArgs false
set_option maxRecDepth 100000
set_option maxHeartbeats 4000000
namespace Go.Proofs.YtbcojgcjjpggnaaGreatDoor.F
open Go Go.RowKit Go.Proofs Go.Proofs.YtbcojgcjjpggnaaGreatDoor.Vc
open Tryz
variable {A C D E G H J K A0 A1 A2 A3 A4 A5 A6 A7 A8 A9 C0 C1 C2 C3 C4 C5 C6 C7 C8 C9:O} {a b c d e f g i j l m n o a0 a1 a2 a3 a4 a5 a6 a7 a8 a9 b0 b1 b2 b3 b4 b5 b6 b7 b8 b9 c0 c1 c2 c3 c4 c5 c6 c7 c8 c9:Nat} {p q r s t u v x p0 p1 p2 p3 p4 p5 p6 p7 p8 p9 q0 q1 q2 q3 q4 q5 q6 q7 q8 q9:Int} {L M N N0 N1 N2 N3 N4 N5 N6 N7 N8 N9 T0 T1 T2 T3 T4 T5 T6 T7 T8 T9:ByteArray} {Q S:Bool} {B:Nat} {w:World} {R:Kt}
def dU.cx:Pm:=([],[])
theorem dU.vc
  (h:(Pure P 134 #[.string L] w fun c d=>∃e f a,c= .tuple #[.agg #[.string e,.string f],.bool a]/\(∀b,Ext w.heap.size [] d b->(R (.bool a) b)))):
  Pure P 71 #[.string L] w R:=
 pr dU.cx func71 h

def ja.cx:Pm:=([],[])
theorem ja.vc
  (h:(∀e,Ext w.heap.size [] w e->(Pure P 176 #[.string L,(.string ⟨#[47]⟩)] e fun q f=>∃a b g,q= .tuple #[.string a,.string b,.bool g]/\(Br (g=false) (Pure P 177 #[.string a] f (Rb fun r s=>(∀i,Ext w.heap.size [204] s i->(R (.tuple #[(.agg #[.string a,(.string ⟨#[49]⟩)]),.bool r]) i)))) (Pure P 177 #[.string a] f (Rb fun t d=>(Bb t (Br (a≠(⟨#[48]⟩:ByteArray)) (Pure P 178 #[.string b] d (Rb fun u c=>(Bb u (Br (b≠(⟨#[48]⟩:ByteArray)) (Br (b≠(⟨#[49]⟩:ByteArray)) (Pure P 179 #[.string a,.string b] c (Rt fun v x=>(∀j,Ext w.heap.size [204] x j->(R (.tuple #[.agg #[.string a,.string b],(.bool (decide (v=(⟨#[49]⟩:ByteArray))))]) j)))) (∀l,Ext w.heap.size [204] c l->(R (.tuple #[.agg #[.string a,.string b],.bool false]) l))) (∀m,Ext w.heap.size [204] c m->(R (.tuple #[.agg #[.string a,.string b],.bool false]) m))) (∀n,Ext w.heap.size [204] c n->(R (.tuple #[.agg #[.string a,.string b],.bool false]) n))))) (∀o,Ext w.heap.size [204] d o->(R (.tuple #[.agg #[.string a,.string b],.bool false]) o))) (∀p,Ext w.heap.size [204] d p->(R (.tuple #[.agg #[.string a,.string b],.bool false]) p))))))))):
  Pure P 134 #[.string L] w R:=
 pr ja.cx func134 h

def eC.cx:Pm:=([],[])
theorem eC.vc
  (h:(Pure P 193 #[.string L,.string M] w fun o d=>∃e f g i c,o= .tuple #[.agg #[.string e,.string f],.agg #[.string g,.string i],I c]/\(Br (c≠0) (∀j,Ext w.heap.size [] d j->(R (.tuple #[I 0,I c]) j)) (Br (L=M) (∀l,Ext w.heap.size [] d l->(R (.tuple #[I 0,I c]) l)) (∀m,Ext w.heap.size [] d m->(Pure P 194 #[.agg #[.string e,.string f]] m (Ri fun a p=>(Pure P 194 #[.agg #[.string g,.string i]] p (Ri fun b n=>(Br (a≠b) (aS .i64 (a - b)/\(R (.tuple #[(I (if(if(1:Int)<(a - b)then(1:Int)else(a - b))>(-1:Int)then(if(1:Int)<(a - b)then(1:Int)else(a - b))else(-1:Int))),I 0]) n)) (Pure P 195 #[.string e,.string i] n (rV fun q y r=>(Pure P 195 #[.string g,.string f] r (rV fun s z t=>(Pure P 196 #[.string q,.string s] t (Rii fun u v x=>(R (.tuple #[I u,I v]) x))))))))))))))))):
  Pure P 155 #[.string L,.string M] w R:=
 pr eC.cx func155 h

def fY.cx:Pm:=([],[])
theorem fY.vc
  (h:(Pure P 223 #[.string L] w (rV fun a e b=>(Pure P 224 #[.string a,.string M] b (rV fun c f d=>(R (.string c) d)))))):
  Pure P 179 #[.string L,.string M] w R:=
 pr fY.cx func179 h

def jU.cx:Pm:=([],[])
theorem jU.vc
  (h:(Pure P 233 #[(.int .u8 (45:Int)),.string L,.string M] w (rV fun a b c=>(R (.tuple #[.string a,I b]) c)))):
  Pure P 188 #[.string L,.string M] w R:=
 pr jU.cx func188 h

def iH.cx:Pm:=([],[])
theorem iH.vc
  (h:(Pure P 233 #[(.int .u8 (43:Int)),.string L,.string M] w (rV fun a b c=>(R (.tuple #[.string a,I b]) c)))):
  Pure P 189 #[.string L,.string M] w R:=
 pr iH.cx func189 h

def iI.cx:Pm:=([],[])
theorem iI.vc
  (h:(Pure P 233 #[(.int .u8 (42:Int)),.string L,.string M] w (rV fun a b c=>(R (.tuple #[.string a,I b]) c)))):
  Pure P 190 #[.string L,.string M] w R:=
 pr iI.cx func190 h

def jb.cx:Pm:=([],[])
theorem jb.vc
  (h:(∀f,Ext w.heap.size [] w f->(Pure P 134 #[.string L] f fun p q=>∃b c g,p= .tuple #[.agg #[.string b,.string c],.bool g]/\(∀i,Ext w.heap.size [] q i->(Pure P 134 #[.string M] i fun r a=>∃d e j,r= .tuple #[.agg #[.string d,.string e],.bool j]/\(Br (g=false) (∀l,Ext w.heap.size [204] a l->(R (.tuple #[(.agg #[(.string ⟨#[]⟩),(.string ⟨#[]⟩)]),(.agg #[(.string ⟨#[]⟩),(.string ⟨#[]⟩)]),I 1]) l)) (Br (j=false) (∀m,Ext w.heap.size [204] a m->(R (.tuple #[(.agg #[(.string ⟨#[]⟩),(.string ⟨#[]⟩)]),(.agg #[(.string ⟨#[]⟩),(.string ⟨#[]⟩)]),I 1]) m)) ((∀n,Ext w.heap.size [204] a n->(R (.tuple #[.agg #[.string b,.string c],.agg #[.string d,.string e],I 0]) n))/\(∀o,Ext w.heap.size [204] a o->(R (.tuple #[.agg #[.string b,.string c],.agg #[.string d,.string e],I 0]) o)))))))))):
  Pure P 193 #[.string L,.string M] w R:=
 pr jb.cx func193 h

def kO.cx:Pm:=([],[])
theorem kO.vc
  (h:(∀a,Ext w.heap.size [] w a->(Pure P 234 #[.string L] a (Rii fun b d c=>(R (I b) c))))):
  Pure P 194 #[.agg #[.string L,.string M]] w R:=
 pr kO.cx func194 h

def gh.cx:Pm:=([],[(6,2,2),(6,5,4)])
theorem gh.vc
  (h:(Pure P 193 #[.string L,.string M] w fun k e=>∃b c a d n,k= .tuple #[.agg #[.string b,.string c],.agg #[.string a,.string d],I n]/\(Br (n≠0) (∀F,Ext w.heap.size [] e F->(R (.tuple #[(.string ⟨#[]⟩),I n]) F)) (Br (p=47) (Br (a=(⟨#[48]⟩:ByteArray)) (∀W,Ext w.heap.size [] e W->(R (.tuple #[(.string ⟨#[]⟩),I 16]) W)) ((∀d2,Ext w.heap.size [] e d2->(Pure P 270 #[] d2 fun v1 i=>∃(f:Option Nat),v1= .map f/\((ae P (Instr.lookup 332 (.map f) (.int .u8 p) false) w.heap.size [204,204] i fun v2 d3=>∃(j:Nat)(o q:Array Value),v2= .func (.func j) o q/\((az P j=true/\(Pure P j ((Array.toList o)++([.agg #[.string b,.string c],.agg #[.string a,.string d]]:List Value)++(Array.toList q)).toArray d3 fun v3 v4=>∃d4 d5,v3= .agg #[.string d4,.string d5]/\(Pure P 271 #[.agg #[.string d4,.string d5]] v4 (Rt fun v5 v6=>(R (.tuple #[.string v5,I 0]) v6)))))/\(az P j=true/\(Pure P j ((Array.toList o)++([.agg #[.string b,.string c],.agg #[.string a,.string d]]:List Value)++(Array.toList q)).toArray d3 fun v7 v8=>∃d6 d7,v7= .agg #[.string d6,.string d7]/\(Pure P 271 #[.agg #[.string d6,.string d7]] v8 (Rt fun v9 x0=>(R (.tuple #[.string v9,I 0]) x0)))))))/\(((ae P (Instr.lookup 332 (.map f) (.int .u8 p) false) w.heap.size [204,204] i fun x1 x2=>∃(r:Nat)(d8 d9:Array Value),x1= .func (.func r) d8 d9/\(az P r=true/\(Pure P r ((Array.toList d8)++([.agg #[.string b,.string c],.agg #[.string a,.string d]]:List Value)++(Array.toList d9)).toArray x2 fun x3 x4=>∃e0 e1,x3= .agg #[.string e0,.string e1]/\(Pure P 271 #[.agg #[.string e0,.string e1]] x4 (Rt fun x5 x6=>(R (.tuple #[.string x5,I 0]) x6))))))/\(ae P (Instr.lookup 332 (.map f) (.int .u8 p) false) w.heap.size [204,204] i fun x7 x8=>∃(s:Nat)(e2 e3:Array Value),x7= .func (.func s) e2 e3/\(az P s=true/\(Pure P s ((Array.toList e2)++([.agg #[.string b,.string c],.agg #[.string a,.string d]]:List Value)++(Array.toList e3)).toArray x8 fun x9 y0=>∃e4 e5,x9= .agg #[.string e4,.string e5]/\(Pure P 271 #[.agg #[.string e4,.string e5]] y0 (Rt fun y1 y2=>(R (.tuple #[.string y1,I 0]) y2)))))))/\((ae P (Instr.lookup 332 (.map f) (.int .u8 p) false) w.heap.size [204,204] i fun y3 y4=>∃(t:Nat)(e6 e7:Array Value),y3= .func (.func t) e6 e7/\(az P t=true/\(Pure P t ((Array.toList e6)++([.agg #[.string b,.string c],.agg #[.string a,.string d]]:List Value)++(Array.toList e7)).toArray y4 fun y5 y6=>∃e8 e9,y5= .agg #[.string e8,.string e9]/\(Pure P 271 #[.agg #[.string e8,.string e9]] y6 (Rt fun y7 y8=>(R (.tuple #[.string y7,I 0]) y8))))))/\(ae P (Instr.lookup 332 (.map f) (.int .u8 p) false) w.heap.size [204,204] i fun y9 z0=>∃(u:Nat)(g0 g1:Array Value),y9= .func (.func u) g0 g1/\(az P u=true/\(Pure P u ((Array.toList g0)++([.agg #[.string b,.string c],.agg #[.string a,.string d]]:List Value)++(Array.toList g1)).toArray z0 fun z1 z2=>∃g2 g3,z1= .agg #[.string g2,.string g3]/\(Pure P 271 #[.agg #[.string g2,.string g3]] z2 (Rt fun z3 z4=>(R (.tuple #[.string z3,I 0]) z4)))))))))))/\(((∀g4,Ext w.heap.size [] e g4->(Pure P 270 #[] g4 fun z5 g5=>∃(v:Option Nat),z5= .map v/\((ae P (Instr.lookup 332 (.map v) (.int .u8 p) false) w.heap.size [204,204] g5 fun z6 z7=>∃(x:Nat)(g6 g7:Array Value),z6= .func (.func x) g6 g7/\(az P x=true/\(Pure P x ((Array.toList g6)++([.agg #[.string b,.string c],.agg #[.string a,.string d]]:List Value)++(Array.toList g7)).toArray z7 fun z8 z9=>∃g8 g9,z8= .agg #[.string g8,.string g9]/\(Pure P 271 #[.agg #[.string g8,.string g9]] z9 (Rt fun D0 D1=>(R (.tuple #[.string D0,I 0]) D1))))))/\(ae P (Instr.lookup 332 (.map v) (.int .u8 p) false) w.heap.size [204,204] g5 fun D2 D3=>∃(y:Nat)(j0 j1:Array Value),D2= .func (.func y) j0 j1/\(az P y=true/\(Pure P y ((Array.toList j0)++([.agg #[.string b,.string c],.agg #[.string a,.string d]]:List Value)++(Array.toList j1)).toArray D3 fun D4 D5=>∃j2 j3,D4= .agg #[.string j2,.string j3]/\(Pure P 271 #[.agg #[.string j2,.string j3]] D5 (Rt fun D6 D7=>(R (.tuple #[.string D6,I 0]) D7)))))))))/\(∀j4,Ext w.heap.size [] e j4->(Pure P 270 #[] j4 fun D8 D9=>∃(j5:Option Nat),D8= .map j5/\(ae P (Instr.lookup 332 (.map j5) (.int .u8 p) false) w.heap.size [204,204] D9 fun E0 E1=>∃(z:Nat)(j6 j7:Array Value),E0= .func (.func z) j6 j7/\(az P z=true/\(Pure P z ((Array.toList j6)++([.agg #[.string b,.string c],.agg #[.string a,.string d]]:List Value)++(Array.toList j7)).toArray E1 fun E2 E3=>∃j8 j9,E2= .agg #[.string j8,.string j9]/\(Pure P 271 #[.agg #[.string j8,.string j9]] E3 (Rt fun E4 E5=>(R (.tuple #[.string E4,I 0]) E5)))))))))/\((∀l0,Ext w.heap.size [] e l0->(Pure P 270 #[] l0 fun E6 l1=>∃(A:Option Nat),E6= .map A/\((ae P (Instr.lookup 332 (.map A) (.int .u8 p) false) w.heap.size [204,204] l1 fun E7 E8=>∃(C:Nat)(l2 l3:Array Value),E7= .func (.func C) l2 l3/\(az P C=true/\(Pure P C ((Array.toList l2)++([.agg #[.string b,.string c],.agg #[.string a,.string d]]:List Value)++(Array.toList l3)).toArray E8 fun E9 G0=>∃l4 l5,E9= .agg #[.string l4,.string l5]/\(Pure P 271 #[.agg #[.string l4,.string l5]] G0 (Rt fun G1 G2=>(R (.tuple #[.string G1,I 0]) G2))))))/\(ae P (Instr.lookup 332 (.map A) (.int .u8 p) false) w.heap.size [204,204] l1 fun G3 G4=>∃(D:Nat)(l6 l7:Array Value),G3= .func (.func D) l6 l7/\(az P D=true/\(Pure P D ((Array.toList l6)++([.agg #[.string b,.string c],.agg #[.string a,.string d]]:List Value)++(Array.toList l7)).toArray G4 fun G5 G6=>∃l8 l9,G5= .agg #[.string l8,.string l9]/\(Pure P 271 #[.agg #[.string l8,.string l9]] G6 (Rt fun G7 G8=>(R (.tuple #[.string G7,I 0]) G8)))))))))/\(∀m0,Ext w.heap.size [] e m0->(Pure P 270 #[] m0 fun G9 H0=>∃(m1:Option Nat),G9= .map m1/\(ae P (Instr.lookup 332 (.map m1) (.int .u8 p) false) w.heap.size [204,204] H0 fun H1 H2=>∃(E:Nat)(m2 m3:Array Value),H1= .func (.func E) m2 m3/\(az P E=true/\(Pure P E ((Array.toList m2)++([.agg #[.string b,.string c],.agg #[.string a,.string d]]:List Value)++(Array.toList m3)).toArray H2 fun H3 H4=>∃m4 m5,H3= .agg #[.string m4,.string m5]/\(Pure P 271 #[.agg #[.string m4,.string m5]] H4 (Rt fun H5 H6=>(R (.tuple #[.string H5,I 0]) H6)))))))))))) ((∀m6,Ext w.heap.size [] e m6->(Pure P 270 #[] m6 fun H7 l=>∃(g:Option Nat),H7= .map g/\((ae P (Instr.lookup 332 (.map g) (.int .u8 p) false) w.heap.size [204,204] l fun H8 m7=>∃(m:Nat)(G H:Array Value),H8= .func (.func m) G H/\((az P m=true/\(Pure P m ((Array.toList G)++([.agg #[.string b,.string c],.agg #[.string a,.string d]]:List Value)++(Array.toList H)).toArray m7 fun H9 J0=>∃m8 m9,H9= .agg #[.string m8,.string m9]/\(Pure P 271 #[.agg #[.string m8,.string m9]] J0 (Rt fun J1 J2=>(R (.tuple #[.string J1,I 0]) J2)))))/\(az P m=true/\(Pure P m ((Array.toList G)++([.agg #[.string b,.string c],.agg #[.string a,.string d]]:List Value)++(Array.toList H)).toArray m7 fun J3 J4=>∃n0 n1,J3= .agg #[.string n0,.string n1]/\(Pure P 271 #[.agg #[.string n0,.string n1]] J4 (Rt fun J5 J6=>(R (.tuple #[.string J5,I 0]) J6)))))))/\(((ae P (Instr.lookup 332 (.map g) (.int .u8 p) false) w.heap.size [204,204] l fun J7 J8=>∃(J:Nat)(n2 n3:Array Value),J7= .func (.func J) n2 n3/\(az P J=true/\(Pure P J ((Array.toList n2)++([.agg #[.string b,.string c],.agg #[.string a,.string d]]:List Value)++(Array.toList n3)).toArray J8 fun J9 K0=>∃n4 n5,J9= .agg #[.string n4,.string n5]/\(Pure P 271 #[.agg #[.string n4,.string n5]] K0 (Rt fun K1 K2=>(R (.tuple #[.string K1,I 0]) K2))))))/\(ae P (Instr.lookup 332 (.map g) (.int .u8 p) false) w.heap.size [204,204] l fun K3 K4=>∃(K:Nat)(n6 n7:Array Value),K3= .func (.func K) n6 n7/\(az P K=true/\(Pure P K ((Array.toList n6)++([.agg #[.string b,.string c],.agg #[.string a,.string d]]:List Value)++(Array.toList n7)).toArray K4 fun K5 K6=>∃n8 n9,K5= .agg #[.string n8,.string n9]/\(Pure P 271 #[.agg #[.string n8,.string n9]] K6 (Rt fun K7 K8=>(R (.tuple #[.string K7,I 0]) K8)))))))/\((ae P (Instr.lookup 332 (.map g) (.int .u8 p) false) w.heap.size [204,204] l fun K9 N0=>∃(N:Nat)(o0 o1:Array Value),K9= .func (.func N) o0 o1/\(az P N=true/\(Pure P N ((Array.toList o0)++([.agg #[.string b,.string c],.agg #[.string a,.string d]]:List Value)++(Array.toList o1)).toArray N0 fun N1 N2=>∃o2 o3,N1= .agg #[.string o2,.string o3]/\(Pure P 271 #[.agg #[.string o2,.string o3]] N2 (Rt fun N3 N4=>(R (.tuple #[.string N3,I 0]) N4))))))/\(ae P (Instr.lookup 332 (.map g) (.int .u8 p) false) w.heap.size [204,204] l fun N5 N6=>∃(O:Nat)(o4 o5:Array Value),N5= .func (.func O) o4 o5/\(az P O=true/\(Pure P O ((Array.toList o4)++([.agg #[.string b,.string c],.agg #[.string a,.string d]]:List Value)++(Array.toList o5)).toArray N6 fun N7 N8=>∃o6 o7,N7= .agg #[.string o6,.string o7]/\(Pure P 271 #[.agg #[.string o6,.string o7]] N8 (Rt fun N9 O0=>(R (.tuple #[.string N9,I 0]) O0)))))))))))/\(((∀o8,Ext w.heap.size [] e o8->(Pure P 270 #[] o8 fun O1 o9=>∃(Q:Option Nat),O1= .map Q/\((ae P (Instr.lookup 332 (.map Q) (.int .u8 p) false) w.heap.size [204,204] o9 fun O2 O3=>∃(S:Nat)(r0 r1:Array Value),O2= .func (.func S) r0 r1/\(az P S=true/\(Pure P S ((Array.toList r0)++([.agg #[.string b,.string c],.agg #[.string a,.string d]]:List Value)++(Array.toList r1)).toArray O3 fun O4 O5=>∃r2 r3,O4= .agg #[.string r2,.string r3]/\(Pure P 271 #[.agg #[.string r2,.string r3]] O5 (Rt fun O6 O7=>(R (.tuple #[.string O6,I 0]) O7))))))/\(ae P (Instr.lookup 332 (.map Q) (.int .u8 p) false) w.heap.size [204,204] o9 fun O8 O9=>∃(T:Nat)(r4 r5:Array Value),O8= .func (.func T) r4 r5/\(az P T=true/\(Pure P T ((Array.toList r4)++([.agg #[.string b,.string c],.agg #[.string a,.string d]]:List Value)++(Array.toList r5)).toArray O9 fun Q0 Q1=>∃k r7,Q0= .agg #[.string k,.string r7]/\(Pure P 271 #[.agg #[.string k,.string r7]] Q1 (Rt fun Q2 Q3=>(R (.tuple #[.string Q2,I 0]) Q3)))))))))/\(∀r8,Ext w.heap.size [] e r8->(Pure P 270 #[] r8 fun Q4 Q5=>∃(r9:Option Nat),Q4= .map r9/\(ae P (Instr.lookup 332 (.map r9) (.int .u8 p) false) w.heap.size [204,204] Q5 fun Q6 Q7=>∃(U:Nat)(s0 s1:Array Value),Q6= .func (.func U) s0 s1/\(az P U=true/\(Pure P U ((Array.toList s0)++([.agg #[.string b,.string c],.agg #[.string a,.string d]]:List Value)++(Array.toList s1)).toArray Q7 fun Q8 Q9=>∃s2 s3,Q8= .agg #[.string s2,.string s3]/\(Pure P 271 #[.agg #[.string s2,.string s3]] Q9 (Rt fun S0 S1=>(R (.tuple #[.string S0,I 0]) S1)))))))))/\((∀s4,Ext w.heap.size [] e s4->(Pure P 270 #[] s4 fun S2 s5=>∃(V:Option Nat),S2= .map V/\((ae P (Instr.lookup 332 (.map V) (.int .u8 p) false) w.heap.size [204,204] s5 fun S3 S4=>∃(X:Nat)(s6 s7:Array Value),S3= .func (.func X) s6 s7/\(az P X=true/\(Pure P X ((Array.toList s6)++([.agg #[.string b,.string c],.agg #[.string a,.string d]]:List Value)++(Array.toList s7)).toArray S4 fun S5 S6=>∃s8 s9,S5= .agg #[.string s8,.string s9]/\(Pure P 271 #[.agg #[.string s8,.string s9]] S6 (Rt fun S7 S8=>(R (.tuple #[.string S7,I 0]) S8))))))/\(ae P (Instr.lookup 332 (.map V) (.int .u8 p) false) w.heap.size [204,204] s5 fun S9 T0=>∃(Y:Nat)(t0 t1:Array Value),S9= .func (.func Y) t0 t1/\(az P Y=true/\(Pure P Y ((Array.toList t0)++([.agg #[.string b,.string c],.agg #[.string a,.string d]]:List Value)++(Array.toList t1)).toArray T0 fun T1 T2=>∃t2 t3,T1= .agg #[.string t2,.string t3]/\(Pure P 271 #[.agg #[.string t2,.string t3]] T2 (Rt fun T3 T4=>(R (.tuple #[.string T3,I 0]) T4)))))))))/\(∀t4,Ext w.heap.size [] e t4->(Pure P 270 #[] t4 fun T5 T6=>∃(t5:Option Nat),T5= .map t5/\(ae P (Instr.lookup 332 (.map t5) (.int .u8 p) false) w.heap.size [204,204] T6 fun T7 T8=>∃(Z:Nat)(t6 t7:Array Value),T7= .func (.func Z) t6 t7/\(az P Z=true/\(Pure P Z ((Array.toList t6)++([.agg #[.string b,.string c],.agg #[.string a,.string d]]:List Value)++(Array.toList t7)).toArray T8 fun T9 V0=>∃t8 t9,T9= .agg #[.string t8,.string t9]/\(Pure P 271 #[.agg #[.string t8,.string t9]] V0 (Rt fun V1 V2=>(R (.tuple #[.string V1,I 0]) V2))))))))))))))):
  Pure P 233 #[.int .u8 p,.string L,.string M] w R:=
 pr gh.cx func233 h

def ma.cx:Pm:=([],[])
theorem ma.vc
  (h:(Pure P 294 #[] w fun b c=>∃(a:Option Nat),b= .map a/\(R (.map a) c))):
  Pure P 270 #[] w R:=
 pr ma.cx func270 h

def kQ.cx:Pm:=([],[])
theorem kQ.vc
  (h:(Br (M=(⟨#[49]⟩:ByteArray)) (∀a,Ext w.heap.size [] w a->(R (.string L) a)) (ByteArray.size L+ByteArray.size (⟨#[47]⟩:ByteArray)<=9223372036854775807/\(ByteArray.size (L++(⟨#[47]⟩:ByteArray))+ByteArray.size M<=9223372036854775807/\(∀b,Ext w.heap.size [] w b->(R (.string ((L++(⟨#[47]⟩:ByteArray))++M)) b)))))):
  Pure P 271 #[.agg #[.string L,.string M]] w R:=
 pr kQ.cx func271 h

def fL.cx:Pm:=([],[(1,0,2),(1,1,2),(1,2,2),(1,3,2),(1,4,2)])
theorem fL.vc
  (h:(ae P (Instr.makeMap 332 none) w.heap.size [] w fun b c=>∃(a:Option Nat),b= .map a/\(dY P (Instr.mapUpdate 332 (.map a) (.int .u8 (43:Int)) (.func (.func 310) #[] #[])) w.heap.size [] c fun d=>(dY P (Instr.mapUpdate 332 (.map a) (.int .u8 (42:Int)) (.func (.func 311) #[] #[])) w.heap.size [] d fun e=>(dY P (Instr.mapUpdate 332 (.map a) (.int .u8 (45:Int)) (.func (.func 312) #[] #[])) w.heap.size [] e fun f=>(dY P (Instr.mapUpdate 332 (.map a) (.int .u8 (47:Int)) (.func (.func 314) #[] #[])) w.heap.size [] f fun g=>(R (.map a) g))))))):
  Pure P 294 #[] w R:=
 pr fL.cx func294 h

def jc.cx:Pm:=([],[])
theorem jc.vc
  (h:(∀f,Ext w.heap.size [] w f->(Pure P 327 #[.agg #[.string N,.string L]] f fun t u=>∃c a g,t= .tuple #[I c,I a,.bool g]/\(Pure P 327 #[.agg #[.string N0,.string M]] u fun v e=>∃d b i,v= .tuple #[I d,I b,.bool i]/\(Bb g (Bb i (aS .i64 (c*b)/\(aS .i64 (d*a)/\(aS .i64 ((c*b)+(d*a))/\(aS .i64 (a*b)/\(Pure P 328 #[(I ((c*b)+(d*a))),(I (a*b))] e fun x y=>∃j l,x= .agg #[.string j,.string l]/\(∀m,Ext w.heap.size [204] y m->(R (.agg #[.string j,.string l]) m))))))) (Pure P 195 #[.string N,.string M] e (rV fun z d2 A=>(Pure P 195 #[.string N0,.string L] A (rV fun C d3 D=>(Pure P 329 #[.string z,.string C] D (rV fun E d4 G=>(Pure P 273 #[.string L,.string M] G (rV fun H d5 J=>(Pure P 330 #[.string E,.string H] J fun K O=>∃n o,K= .agg #[.string n,.string o]/\(∀p,Ext w.heap.size [204] O p->(R (.agg #[.string n,.string o]) p)))))))))))) (Pure P 195 #[.string N,.string M] e (rV fun Q d6 S=>(Pure P 195 #[.string N0,.string L] S (rV fun T d7 U=>(Pure P 329 #[.string Q,.string T] U (rV fun V d8 X=>(Pure P 273 #[.string L,.string M] X (rV fun Y d9 Z=>(Pure P 330 #[.string V,.string Y] Z fun d0 d1=>∃q r,d0= .agg #[.string q,.string r]/\(∀s,Ext w.heap.size [204] d1 s->(R (.agg #[.string q,.string r]) s)))))))))))))))):
  Pure P 310 #[.agg #[.string N,.string L],.agg #[.string N0,.string M]] w R:=
 pr jc.cx func310 h

def jF.cx:Pm:=([],[])
theorem jF.vc
  (h:(∀f,Ext w.heap.size [] w f->(Pure P 327 #[.agg #[.string L,.string M]] f fun t u=>∃a b g,t= .tuple #[I a,I b,.bool g]/\(Pure P 327 #[.agg #[.string N,.string N0]] u fun v c=>∃d e i,v= .tuple #[I d,I e,.bool i]/\(Bb g (Bb i (aS .i64 (a*d)/\(aS .i64 (b*e)/\(Pure P 328 #[(I (a*d)),(I (b*e))] c fun x y=>∃j l,x= .agg #[.string j,.string l]/\(∀m,Ext w.heap.size [204] y m->(R (.agg #[.string j,.string l]) m))))) (Pure P 195 #[.string L,.string N] c (rV fun z T A=>(Pure P 273 #[.string M,.string N0] A (rV fun C U D=>(Pure P 330 #[.string z,.string C] D fun E G=>∃n o,E= .agg #[.string n,.string o]/\(∀p,Ext w.heap.size [204] G p->(R (.agg #[.string n,.string o]) p)))))))) (Pure P 195 #[.string L,.string N] c (rV fun H V J=>(Pure P 273 #[.string M,.string N0] J (rV fun K X O=>(Pure P 330 #[.string H,.string K] O fun Q S=>∃q r,Q= .agg #[.string q,.string r]/\(∀s,Ext w.heap.size [204] S s->(R (.agg #[.string q,.string r]) s)))))))))))):
  Pure P 311 #[.agg #[.string L,.string M],.agg #[.string N,.string N0]] w R:=
 pr jF.cx func311 h

def iJ.cx:Pm:=([],[])
theorem iJ.vc
  (h:(∀a,Ext w.heap.size [] w a->(Pure P 313 #[.agg #[.string N,.string N0]] a fun g i=>∃b c,g= .agg #[.string b,.string c]/\(Pure P 310 #[.agg #[.string L,.string M],.agg #[.string b,.string c]] i fun j l=>∃d e,j= .agg #[.string d,.string e]/\(∀f,Ext w.heap.size [204] l f->(R (.agg #[.string d,.string e]) f)))))):
  Pure P 312 #[.agg #[.string L,.string M],.agg #[.string N,.string N0]] w R:=
 pr iJ.cx func312 h

def gF.cx:Pm:=([],[])
theorem gF.vc
  (h:(∀a,Ext w.heap.size [] w a->(Pure P 331 #[.string L] a (rV fun c e d=>(∀b,Ext w.heap.size [204] d b->(R (.agg #[.string c,.string M]) b)))))):
  Pure P 313 #[.agg #[.string L,.string M]] w R:=
 pr gF.cx func313 h

def jG.cx:Pm:=([],[])
theorem jG.vc
  (h:(Br (((ByteArray.size L:Int):Int)>9) (∀a,Ext w.heap.size [] w a->(R (.tuple #[I 0,I 0,.bool false]) a)) (Br (((ByteArray.size M:Int):Int)>9) (∀b,Ext w.heap.size [] w b->(R (.tuple #[I 0,I 0,.bool false]) b)) (∀c,Ext w.heap.size [] w c->(Pure P 343 #[.string L,I 10,I 64] c fun f g=>∃(d:Int)(i:Value),f= .tuple #[I d,i]/\(Pure P 343 #[.string M,I 10,I 64] g fun j l=>∃(e:Int)(m:Value),j= .tuple #[I e,m]/\(R (.tuple #[I d,I e,.bool true]) l))))))):
  Pure P 327 #[.agg #[.string L,.string M]] w R:=
 pr jG.cx func327 h

def dE.L2(a b c d:Int)(e f:ByteArray):=Lt 328 f328 2 [vI 0 a,vI 1 b,vL 4,vI 5 c,vI 6 d] [⟨4,false,204,[(.string e),(.string f)]⟩]
def dE.cx:Pm:=([((true,2),[0,1,4,5,6],[4])],[(3,3,1),(5,2,1)])
theorem dE.L2.step
  (h:(Br (r≠0) (r≠0/\(∀a,Ext B [] w a->(dE.L2 s q r (Int.tmod p r) L M B a R))) (aS .i64 (-p)/\((if(-p)>p then(-p)else p)≠0/\((0<=q/\0<(if(-p)>p then(-p)else p)/\aS .i64 q)/\(∀b,Ext B [] w b->(Pure P 344 #[(I (IntKind.wrap .i64 (Int.tdiv s (if(-p)>p then(-p)else p)))),I 10] b (Rt fun d e=>(Pure P 344 #[(I (q / (if(-p)>p then(-p)else p))),I 10] e (Rt fun f g=>(∀c,Ext B [204] g c->(R (.agg #[.string d,.string f]) c)))))))))))):
  dE.L2 s q p r L M B w R:=
 lr dE.cx func328 h
theorem dE.vc
  (h:(∀a,Ext w.heap.size [] w a->(dE.L2 p q p q (⟨#[]⟩:ByteArray) (⟨#[]⟩:ByteArray) w.heap.size a R))):
  Pure P 328 #[I p,I q] w R:=
 pr dE.cx func328 h

def gx.cx:Pm:=([],[])
theorem gx.vc
  (h:(∀b,Ext w.heap.size [] w b->(Pure P 179 #[.string L,.string M] b (Rt fun a c=>(Br (a≠(⟨#[49]⟩:ByteArray)) (Pure P 345 #[.string L,.string a] c fun i j=>∃d l m,i= .tuple #[.string d,.string l,I m]/\(Pure P 346 #[.string M,.string a] j fun n o=>∃e p q,n= .tuple #[.string e,.string p,I q]/\(∀f,Ext w.heap.size [204] o f->(R (.agg #[.string d,.string e]) f)))) (∀g,Ext w.heap.size [204] c g->(R (.agg #[.string L,.string M]) g))))))):
  Pure P 330 #[.string L,.string M] w R:=
 pr gx.cx func330 h

end Go.Proofs.YtbcojgcjjpggnaaGreatDoor.F

namespace Go.Proofs.YtbcojgcjjpggnaaGreatDoor.B
open Go Go.RowKit Go.Proofs Go.Proofs.YtbcojgcjjpggnaaGreatDoor.Vc

theorem zj(l:Tx):(47∈l->0<=Lib.index l [47]/\l.take (Lib.index l [47]).toNat=uR l/\l.drop ((Lib.index l [47]).toNat+1)=sf l)/\(47∉l->Lib.index l [47]= -1):=by
 induction l with
 |nil=>simp[Lib.index]
 |cons b r ih=>
  by_cases h:b=47
  ·subst h;have e:Lib.index (47::r) [47]=0:=by simp[Lib.index]
   rw[e];simp[uR,sf]
  ·have i:(47==b)=false:=by simpa using fun k=>h k.symm
   have e:Lib.index (b::r) [47]=if Lib.index r [47]== -1 then -1 else Lib.index r [47]+1:=by
    rw[Lib.index];simp[List.isPrefixOf,i]
   constructor
   ·intro hm;have a:47∈r:=by
     rcases cy.1 hm with k|k
     ·exact absurd k.symm h
     ·exact k
    obtain⟨n,h1,c⟩:=ih.1 a;have d:¬(Lib.index r [47]== -1)=true:=by simp;omega
    rw[e,aq d];obtain⟨m,g⟩:∃m:Nat,Lib.index r [47]=m:=⟨(Lib.index r [47]).toNat,om⟩
    rw[g]at h1 c⊢;have j:((m:Int)+1).toNat=m+1:=om;rw[j];simp only[cc]at h1 c;refine⟨om,?_,?_⟩
    ·simp[uR,h,h1]
    ·simp[sf,h,c]
   ·intro hm;have a:47∉r:=fun k=>hm (List.mem_cons_of_mem _ k)
    rw[e,ih.2 a];rfl
theorem Qr{w:World}(hg:bk w)(s:ByteArray)(hs:s.size<2147483648):
  Pure Tryz.prog 176 #[.string s,.string ⟨#[47]⟩] w fun v _=>
   (47∈cM s->v= .tuple #[.string (st (uR (cM s))),.string (st (sf (cM s))),.bool true])/\(47∉cM s->v= .tuple #[.string s,.string (st []),.bool false]):=by
 obtain⟨m,hm⟩:=hg.mx;refine Calls.mono (Tryz.strings_Cut s ⟨#[47]⟩ m w om hm) ?_;rintro e w' ⟨rfl,n,rfl⟩;refine⟨_,rfl,?_,?_,?_⟩
 ·exact⟨rfl,rfl,rfl,fs _,fun _ _=>rfl⟩
 ·intro h;obtain⟨a,h1,b⟩:=(zj (cM s)).1 h;have e:Lib.cut s.data.toList [47]=(uR (cM s),sf (cM s),true):=by
   show Lib.cut (cM s) [47]=_;unfold Lib.cut;rw[bm a];simp only[wM];rw[h1,b]
  show Value.tuple #[.string ⟨(Lib.cut s.data.toList [47]).1.toArray⟩,.string ⟨(Lib.cut s.data.toList [47]).2.1.toArray⟩,.bool (Lib.cut s.data.toList [47]).2.2]=_;rw[e];rfl
 ·intro h;have a:=(zj (cM s)).2 h;have e:Lib.cut s.data.toList [47]=(cM s,[],false):=by
   show Lib.cut (cM s) [47]=_;unfold Lib.cut;rw[a,aq om]
  show Value.tuple #[.string ⟨(Lib.cut s.data.toList [47]).1.toArray⟩,.string ⟨(Lib.cut s.data.toList [47]).2.1.toArray⟩,.bool (Lib.cut s.data.toList [47]).2.2]=_;rw[e];rfl
theorem zk{w:World}(hg:bk w)(z:Int)(a: -9223372036854775808<=z)(h1:z<=9223372036854775807):
  Pure Tryz.prog 344 #[.int .i64 z,.int .i64 10] w fun v _=>v= .string (iS z):=by
 refine Calls.mono (Tryz.strconv_FormatInt_10 z a h1 w hg.tab) ?_;rintro e w' ⟨rfl,k,os,rfl⟩;exact⟨_,rfl,tZ _ _ _,rfl⟩
theorem ub{w:World}(hg:bk w)(z:Int)(a: -9223372036854775808<=z)(h1:z<=9223372036854775807):
  Pure Tryz.prog 50 #[.int .i64 z] w fun v _=>v= .string (iS z):=by
 refine Calls.mono (Tryz.strconv_Itoa z a h1 w hg.tab) ?_;rintro e w' ⟨rfl,k,os,rfl⟩;exact⟨_,rfl,tZ _ _ _,rfl⟩
theorem Nh{n:Nat}(h:n<9223372036854775808):Lib.parseUintB 64 (eI n)= .ok n:=by
 have:=vU (B:=64) (l:=eI n) om (xA n) (tW n) (by rw[ks];omega);rwa [ks]at this
theorem Ni{z:Int}(h:z.natAbs<9223372036854775808):Lib.parseIntB 64 (kt z)= .ok z:=by
 have hp:=Nh h;rw[nt];split
 ·rename_i hz;rw[Lib.parseIntB_minus,hp];simp only[Lib.signedC];rw[aq om]
  congr 1
  omega
 ·rename_i hz;have a:=tW z.natAbs;cases b:eI z.natAbs with
  |nil=>exact absurd b (xA _)
  |cons c r=>
   rw[b]at hp a;simp only[yc,cz]at a;have:=a.1;simp only[vm,cz,iv]at this;rw[Lib.parseIntB_plain 64 c r om om,hp];simp only[Lib.signlessC];rw[aq om]
   congr 1
   omega
theorem ParseInt10(z:Int)(h:z.natAbs<9223372036854775808)(w:World):
  Pure Tryz.prog 343 #[.string (iS z),.int .i64 10,.int .i64 64] w fun v _=>v= .tuple #[.int .i64 z,.nilIface]:=by
 have hl:(iS z).size<=9223372036854775806:=by
  have:=jA (z:=z) (k:=19) om om;show(kt z).length<=_;omega
 refine Calls.mono (Tryz.strconv_ParseInt_10_at64_ok (iS z) hl z (Ni h) w) ?_;rintro e w' ⟨rfl,hw⟩;refine⟨_,rfl,?_,rfl⟩;rcases hw with rfl|⟨t,rfl⟩
 ·exact Below.refl _ _
 ·exact vV (.inr rfl)

abbrev fV(r:Rat):Value:= .agg #[.string (iS r.num),.string (nS r.den)]
abbrev kG(r:Rat):Prop:=Sm 100000 r
theorem Sm.HS{k:Nat}{r:Rat}(h:Sm k r)(a:k<=900000):r.num.natAbs<fy:=od h.1 a
theorem Sm.HT{k:Nat}{r:Rat}(h:Sm k r)(a:k<=900000):r.den<fy:=od h.2 a

theorem fY{w:World}{z:Int}{d:Nat}(hg:bk w)(hz:z.natAbs<fy)(a:d<fy):
  Pure Tryz.prog 179 #[.string (iS z),.string (nS d)] w fun v _=>v= .string (nS (Nat.gcd z.natAbs d)):=by
 refine F.fY.vc (pm (nI hz w) ?_);rintro v b hb rfl;refine⟨_,_,rfl,pm (nE (hg.next hb) hz a) ?_⟩;rintro v c _ rfl;exact⟨_,_,rfl,rfl⟩

theorem gx{w:World}{z:Int}{d:Nat}(hg:bk w)(hz:z.natAbs<fy)(m:d<fy)(n:d≠0):
  Pure Tryz.prog 330 #[.string (iS z),.string (nS d)] w fun v _=>v=fV (mkRat z d):=by
 obtain⟨a,b⟩:=uS (p:=z) n;obtain⟨g,i⟩:∃g,g=Nat.gcd z.natAbs d:=⟨_,rfl⟩
 have c:g≠0:=by rw[i];intro k;exact n (OQ k)
 have q:g<=d:=by rw[i];exact Nat.le_of_dvd om (Nat.gcd_dvd_right _ _)
 rw[<-i]at a b;refine F.gx.vc fun w1 o=>pm (fY (hg.next (k0 o)) hz m) ?_
 rintro v x j rfl;have hb:=kP (k0 o) j;rw[<-i];refine⟨_,rfl,fun h=>pm (jE (hg.next hb) hz om c) ?_,fun h r _=> ?_⟩
 ·rintro v r l rfl;refine⟨_,_,_,rfl,pm (hU (hg.next (kP hb l)) m om c) ?_⟩;rintro v y _ rfl;refine⟨_,_,_,rfl,fun A _=> ?_⟩;rw[<-a,<-b]
 ·have h1:g=1:=by
   apply bx;intro k;rw[Ng]at h;exact h fun e=>k (wQ e)
  rw[h1]at a b;simp only[Int.natCast_one,Int.ediv_one,Nat.div_one]at a b;show _=fV _;unfold fV;rw[a,b]

theorem ja{w:World}(hg:bk w)(s:ByteArray)(hs:s.size<=800000):
  Pure Tryz.prog 134 #[.string s] w fun v _=>∃p q,v= .tuple #[.agg #[.string p,.string q],.bool (lX (cM s))]/\(lX (cM s)=true->p=iS (xD (cM s)).num/\q=nS (xD (cM s)).den):=by
 refine F.ja.vc fun w1 E=>pm (Qr (hg.next (k0 E)) s om) ?_
 rintro v R y ⟨H,z⟩;have hb:=kP (k0 E) y;by_cases a:47∈cM s
 ·have d:=H a;subst d;obtain⟨I,J⟩:=Qi a;have hle:(uR (cM s)).length+(sf (cM s)).length+1=s.size:=by
   have:=ca List.length I;rw[kD];simp at this;omega
  have S:(st (uR (cM s))).size=(uR (cM s)).length:=rfl;have K:(st (sf (cM s))).size=(sf (cM s)).length:=rfl;have fin:∀(b:Bool),b=lX (cM s)->∃p q,Value.tuple #[.agg #[.string (st (uR (cM s))),.string (st (sf (cM s)))],.bool b]=Value.tuple #[.agg #[.string p,.string q],.bool (lX (cM s))]/\(lX (cM s)=true->p=iS (xD (cM s)).num/\q=nS (xD (cM s)).den):=by
   intro b L;refine⟨_,_,by rw[L],fun hi=> ?_⟩;have e:=FI hi;obtain⟨r,M⟩:∃r,r=xD (cM s):=⟨_,rfl⟩
   rw[<-M]at e⊢;rw[<-e]at a⊢;unfold pT at a⊢;split at a
   ·exact absurd a (jR _)
   ·rename_i A;rw[aq A,FG (jR _),FH (jR _)];exact⟨rfl,rfl⟩
  have c:lX (cM s)=(isInt (uR (cM s))&&uR (cM s) !=[48]&&isNat (sf (cM s))&&sf (cM s) !=[48]&&sf (cM s) !=[49]&&Nat.gcd (ku (uR (cM s))).natAbs (eB (sf (cM s)))==1):=by
   unfold lX;rw[bm a]
  have m:∀l:Tx,st l≠(⟨#[48]⟩:ByteArray)↔l≠[48]:=fun l=>⟨fun h k=>h (by rw[k];rfl),fun h k=>h (Bz (k.trans rfl:st l=st [48]))⟩
  have g:∀l:Tx,st l≠(⟨#[49]⟩:ByteArray)↔l≠[49]:=fun l=>⟨fun h k=>h (by rw[k];rfl),fun h k=>h (Bz (k.trans rfl:st l=st [49]))⟩
  refine⟨_,_,_,rfl,fun h=>(by cases h),fun _=>pm (iZ _ om _) ?_⟩;rintro v N i rfl;rw[Hs];refine⟨_,rfl,fun h1=>⟨fun n=>pm (bQ _ om _) ?_,fun n B _=>fin _ ?_⟩,fun h1 B _=>fin _ ?_⟩
  ·rintro v B C rfl;rw[Hs];rw[m]at n;refine⟨_,rfl,fun j=>⟨fun o=>⟨fun x=> ?_,fun x D _=>fin _ ?_⟩,fun o D _=>fin _ ?_⟩,fun j D _=>fin _ ?_⟩
   ·rw[m]at o;rw[g]at x;have O:st (uR (cM s))=iS (ku (uR (cM s))):=by unfold iS;rw[uQ h1]
    have eq:st (sf (cM s))=nS (eB (sf (cM s))):=by unfold nS;rw[oQ j]
    have lp:(ku (uR (cM s))).natAbs<fy:=by
     have:=FF (ku (uR (cM s)));rw[uQ h1]at this;exact od this om
    have lq:eB (sf (cM s))<fy:=by
     have:=Aw (eB (sf (cM s)));rw[oQ j]at this;exact od this om
    have G:=fY (hg.next (kP (kP hb i) C)) lp lq;rw[<-O,<-eq]at G;refine pm G ?_;rintro v D _ rfl;refine⟨_,rfl,fun T _=>fin _ ?_⟩;rw[c,h1,j,Ng];have a2:(uR (cM s) !=[48])=true:=by simpa using n
    have a4:(sf (cM s) !=[48])=true:=by simpa using o
    have a5:(sf (cM s) !=[49])=true:=by simpa using x
    rw[a2,a4,a5];simp only[vd,YK];rfl
   ·have:sf (cM s)=[49]:=by apply bx;intro k;exact x ((g _).2 k)
    rw[c,this];simp
   ·have:sf (cM s)=[48]:=by apply bx;intro k;exact o ((m _).2 k)
    rw[c,this];simp
   ·rw[c,j];simp
  ·have:uR (cM s)=[48]:=by apply bx;intro k;exact n ((m _).2 k)
   rw[c,this];simp
  ·rw[c,h1];simp
 ·have d:=z a;subst d;have c:lX (cM s)=isInt (cM s):=by unfold lX;rw[aq a]
  refine⟨_,_,_,rfl,fun _=>pm (iZ _ om _) ?_,fun h=>by simp at h⟩;rintro v N i rfl;refine⟨_,rfl,fun B _=>⟨_,_,by rw[c],fun hi=> ?_⟩⟩;have d:xD (cM s)=(ku (cM s):Rat):=by unfold xD;rw[aq a]
  rw[c]at hi;have P:((ku (cM s):Rat)).num=ku (cM s):=rfl;have Q:((ku (cM s):Rat)).den=1:=rfl;rw[d,P,Q];refine⟨?_,Ng⟩;unfold iS;rw[uQ hi];rfl

theorem kG.size{r:Rat}(h:kG r):(rS r).size<=800000:=by
 have:=h.length om;show(pT r).length<=_;omega
theorem rn{w:World}{r:Rat}(hg:bk w)(h:kG r):Pure Tryz.prog 134 #[.string (rS r)] w fun v _=>v= .tuple #[fV r,.bool true]:=by
 refine pm (ja hg _ h.size) ?_;rintro v b _ ⟨p,q,rfl,a⟩;rw[acA,Kj,xE]at*;obtain⟨rfl,rfl⟩:=a rfl;rfl
theorem dU{w:World}(hg:bk w)(s:ByteArray)(hs:s.size<=800000):Pure Tryz.prog 71 #[.string s] w fun v _=>v= .bool (lX (cM s)):=by
 refine F.dU.vc (pm (ja hg s hs) ?_);rintro v a _ ⟨p,q,rfl,_⟩;exact⟨_,_,_,rfl,fun b _=>rfl⟩
theorem jb{w:World}{x y:Rat}(hg:bk w)(hx:kG x)(hy:kG y):
  Pure Tryz.prog 193 #[.string (rS x),.string (rS y)] w fun v _=>v= .tuple #[fV x,fV y,.int .i64 0]:=by
 refine F.jb.vc fun w1 b=>pm (rn (hg.next (k0 b)) hx) ?_
 rintro v e a rfl;refine⟨_,_,_,rfl,fun g c=>pm (rn (hg.next (kE (kP (k0 b) a) c)) hy) ?_⟩;rintro v i _ rfl;exact⟨_,_,_,rfl,fun h=>(by simp at h),fun _=>⟨fun h=>(by simp at h),fun _=>⟨fun d _=>rfl,fun d _=>rfl⟩⟩⟩

theorem Dh{r:Rat}(h:Sm 300000 r)(w:World):Pure Tryz.prog 271 #[fV r] w fun v _=>v= .string (rS r):=by
 have l1:(iS r.num).size<=300001:=h.int om;have b:(nS r.den).size<=300000:=h.nat om;refine F.kQ.vc ⟨fun h1 w1 _=> ?_,fun h1=>⟨?_,?_,fun w1 _=> ?_⟩⟩
 ·rw[Ng]at h1;have:=wQ h1;unfold rS pT;rw[bm this];rfl
 ·show _+1<=_;omega
 ·rw[iD];show _+1+_<=_;omega
 ·rw[Ng]at h1;have a:r.den≠1:=fun k=>h1 (by rw[k])
  have e:rS r=st (kt r.num++47::eI r.den):=by unfold rS pT;rw[aq a]
  rw[e]
  congr 1
  apply JY;simp[cM,st,iS,nS,ByteArray.data_append]

theorem vW{r:Rat}(h:kG r)(w:World):Pure Tryz.prog 194 #[fV r] w fun v _=>v= .int .i64 (gp r 0):=by
 refine F.kO.vc fun w1 _=>pm (lY (h.HS om) _) ?_
 rintro v a _ rfl;refine⟨_,_,rfl,?_⟩;rw[Ql]
theorem gF{r:Rat}(h:kG r)(w:World):Pure Tryz.prog 313 #[fV r] w fun v _=>v=fV (-r):=by
 refine F.gF.vc fun w1 _=>pm (nK (h.HS om) _) ?_
 rintro v a _ rfl;exact⟨_,_,rfl,fun b _=>rfl⟩

theorem gy{r:Rat}(h:kG r)(w:World):
  Pure Tryz.prog 327 #[fV r] w fun v _=>v= .tuple #[.int .i64 0,.int .i64 0,.bool false]∨(v= .tuple #[.int .i64 r.num,.int .i64 (r.den:Int),.bool true]/\r.num.natAbs<1000000000/\r.den<1000000000):=by
 refine F.jG.vc ⟨fun _ w1 _=> .inl rfl,fun h1=>⟨fun _ w1 _=> .inl rfl,fun a w1 _=> ?_⟩⟩;have l1:=FF r.num;have b:=Aw r.den;have c:(iS r.num).size=(kt r.num).length:=rfl;have d:(nS r.den).size=(eI r.den).length:=rfl;have p1:10^(kt r.num).length<=10^9:=ft om om;have p2:10^(eI r.den).length<=10^9:=ft om om;refine pm (ParseInt10 r.num om _) ?_;rintro v e _ rfl;refine⟨_,_,rfl,?_⟩;rw[<-pq];refine pm (ParseInt10 (r.den:Int) om _) ?_;rintro v g _ rfl;exact⟨_,_,rfl,.inr ⟨rfl,om,om⟩⟩

theorem acF{w0:World}(hg:bk w0){p:Int}{q:Nat}{R:Value->World->Prop}(hp:p.natAbs<9000000000000000000)(e:q≠0)(N:q<9000000000000000000)(C:∀w,R (fV (mkRat p q)) w):
  ∀(n:Nat)(b a:Int)(s t:ByteArray)(w:World),b.natAbs<=n->Below w0.heap.size w0 w->Nat.gcd a.natAbs b.natAbs=Nat.gcd p.natAbs q->a.natAbs<9000000000000000000->b.natAbs<9000000000000000000->F.dE.L2 p q a b s t w0.heap.size w R:=by
 obtain⟨A,B⟩:=uS (p:=p) e;obtain⟨g,l⟩:∃g,g=Nat.gcd p.natAbs q:=⟨_,rfl⟩
 have D:g≠0:=by rw[l];intro k;exact e (OQ k)
 have m:(g:Int)∣p:=by rw[l];exact Int.ofNat_dvd_left.2 (Tc _ _)
 rw[<-l]at A B⊢;intro n;induction n with
 |zero=>
  intro b a s t w hb c d ha o;have j:b=0:=om;subst j;rw[Int.natAbs_zero,RU]at d;refine F.dE.L2.step ⟨fun h=>absurd rfl h,fun _=> ?_⟩;have E:(if(-a)>a then(-a)else a)=(g:Int):=by split<;>omega
  rw[E];have G:(p / (g:Int)).natAbs<=p.natAbs:=Int.natAbs_ediv_le_natAbs _ _;have H:=F7 q g;have I:Int.tdiv p (g:Int)=p / (g:Int):=Int.tdiv_eq_ediv_of_dvd m;have J:IntKind.wrap .i64 (Int.tdiv p (g:Int))=p / (g:Int):=by rw[I];exact wrap64 ir
  refine⟨ir,om,⟨om,om,ir⟩,fun w1 r=> ?_⟩;rw[J];have i:=kE c r;refine pm (zk (hg.next i) _ om om) ?_;rintro v O x rfl;have K:(q:Int) / (g:Int)=((q / g:Nat):Int):=by simp
  refine⟨_,rfl,?_⟩;rw[K];refine pm (zk (hg.next (kP i x)) _ om om) ?_;rintro v P _ rfl;refine⟨_,rfl,fun L _=> ?_⟩;have:=C L;rw[pq,<-A,<-B];exact this
 |succ n ih=>
  intro b a s t w hb c d ha o;by_cases j:b=0
  ·exact ih b a s t w om c d ha o
  refine F.dE.L2.step ⟨fun _=>⟨j,fun w1 r=> ?_⟩,fun h=>absurd j h⟩;have M:=IQ a.natAbs (show 0<b.natAbs by omega);have y:(Int.tmod a b).natAbs=a.natAbs % b.natAbs:=Int.natAbs_tmod _ _;have z:Nat.gcd b.natAbs (a.natAbs % b.natAbs)=g:=by rw[OE,<-Nat.gcd_rec,OE];exact d
  exact ih (Int.tmod a b) b s t w1 om (kE c r) (by rw[y];exact z) o om

theorem dE{w:World}(hg:bk w){p:Int}{q:Nat}(hp:p.natAbs<9000000000000000000)(a:q≠0)(b:q<9000000000000000000):
  Pure Tryz.prog 328 #[.int .i64 p,.int .i64 (q:Int)] w fun v _=>v=fV (mkRat p q):=
 F.dE.vc fun w1 c=>acF hg hp a b (fun _=>rfl) _ (q:Int) p _ _ w1 lf (k0 c) sm hp (by simpa using b)

theorem Qu{a b:Nat}(ha:a<1000000000)(hb:b<1000000000):a*b<1000000000000000000:=Te ha hb
theorem Qv{a b:Int}(ha:a.natAbs<1000000000)(hb:b.natAbs<1000000000):(a*b).natAbs<1000000000000000000:=by
 rw[zK];exact Qu ha hb

theorem jc{w:World}{x y:Rat}(hg:bk w)(hx:kG x)(hy:kG y):
  Pure Tryz.prog 310 #[fV x,fV y] w fun v _=>v=fV (x+y):=by
 have ex:=Rat.add_def' x y;have D:=sk x y;have n1:=iG hx.1 hy.2;have n2:=iG hy.1 hx.2;have J:(x.num*(y.den:Int)).natAbs=x.num.natAbs*y.den:=by rw[zK,sZ]
 have a2:(y.num*(x.den:Int)).natAbs=y.num.natAbs*x.den:=by rw[zK,sZ]
 have m1:(x.num*(y.den:Int)).natAbs<fy:=by rw[J];exact od n1 om
 have m2:(y.num*(x.den:Int)).natAbs<fy:=by rw[a2];exact od n2 om
 have m3:(x.num*(y.den:Int)+y.num*(x.den:Int)).natAbs<fy:=od (BK hx hy) om;have m4:x.den*y.den<fy:=od (sj hx hy) om;have long:∀w',Below w.heap.size w w'->Pure Tryz.prog 195 #[.string (iS x.num),.string (nS y.den)] w' fun r K=>∃(E:ByteArray)(i39:Int),r=(.tuple #[(.string E),(.int .i64 i39)])/\(Pure Tryz.prog 195 #[(.string (iS y.num)),(.string (nS x.den))] K fun n L=>∃(c:ByteArray)(i43:Int),n=(.tuple #[(.string c),(.int .i64 i43)])/\(Pure Tryz.prog 329 #[(.string E),(.string c)] L fun o M=>∃(d:ByteArray)(i47:Int),o=(.tuple #[(.string d),(.int .i64 i47)])/\(Pure Tryz.prog 273 #[(.string (nS x.den)),(.string (nS y.den))] M fun q z=>∃(G:ByteArray)(i51:Int),q=(.tuple #[(.string G),(.int .i64 i51)])/\(Pure Tryz.prog 330 #[(.string d),(.string G)] z fun A B=>∃(e:ByteArray)(g:ByteArray),A=(.agg #[(.string e),(.string g)])/\(∀N,Ext w.heap.size [204] B N->(Value.agg #[(.string e),(.string g)]=fV (x+y))))))):=by
  intro w1 i;rw[<-pq y.den];refine pm (gE (hg.next i) (hx.HS om) (by rw[sZ];exact hy.HT om) m1) ?_;rintro v O C rfl;have b:=kP i C;refine⟨_,_,rfl,?_⟩;rw[<-pq x.den];refine pm (gE (hg.next b) (hy.HS om) (by rw[sZ];exact hx.HT om) m2) ?_;rintro v j k rfl;have a:=kP b k;refine⟨_,_,rfl,pm (nJ (hg.next a) m1 m2 m3) ?_⟩;rintro v P Q rfl;have l:=kP a Q;refine⟨_,_,rfl,?_⟩;rw[pq,pq];refine pm (jz (hg.next l) (hx.HT om) (hy.HT om)) ?_;rintro v R S rfl;have T:=kP l S;refine⟨_,_,rfl,pm (gx (hg.next T) m3 m4 D) ?_⟩;rintro v V W rfl;refine⟨_,_,rfl,fun X _=> ?_⟩;rw[<-ex]
 refine F.jc.vc fun w1 U=>pm (gy hx _) ?_
 rintro v O C m;have b:=kP (k0 U) C;rcases m with rfl|⟨rfl,p1,p2⟩
 ·refine⟨_,_,_,rfl,pm (gy hy _) ?_⟩;rintro v j k m;have a:=kP b k;rcases m with rfl|⟨rfl,_⟩
  ·exact⟨_,_,_,rfl,fun h=>(by cases h),fun _=>long j a⟩
  ·exact⟨_,_,_,rfl,fun h=>(by cases h),fun _=>long j a⟩
 ·refine⟨_,_,_,rfl,pm (gy hy _) ?_⟩;rintro v j k m;have a:=kP b k;rcases m with rfl|⟨rfl,q1,H⟩
  ·exact⟨_,_,_,rfl,fun _=>⟨fun h=>(by cases h),fun _=>long j a⟩,fun h=>(by cases h)⟩
  ·have Y:=Qu p1 H;have Z:=Qu q1 p2;have b3:=Qu p2 H;have I:(x.den:Int)*(y.den:Int)=((x.den*y.den:Nat):Int):=by simp
   refine⟨_,_,_,rfl,fun _=>⟨fun _=>⟨ir,ir,ir,by rw[I];simp only[aS];omega,?_⟩,fun h=>(by cases h)⟩,fun h=>(by cases h)⟩;rw[I];refine pm (dE (hg.next a) om D om) ?_;rintro v P _ rfl;refine⟨_,_,rfl,fun R _=> ?_⟩;rw[<-ex]

theorem jF{w:World}{x y:Rat}(hg:bk w)(hx:kG x)(hy:kG y):
  Pure Tryz.prog 311 #[fV x,fV y] w fun v _=>v=fV (x*y):=by
 have ex:=Rat.mul_def' x y;have q:=sk x y;have C:(x.num*y.num).natAbs=x.num.natAbs*y.num.natAbs:=zK _ _;have m1:(x.num*y.num).natAbs<fy:=by rw[C];exact od (iG hx.1 hy.1) om
 have m4:x.den*y.den<fy:=od (sj hx hy) om;have long:∀w',Below w.heap.size w w'->Pure Tryz.prog 195 #[.string (iS x.num),.string (iS y.num)] w' fun r D=>∃(z:ByteArray)(i39:Int),r=(.tuple #[(.string z),(.int .i64 i39)])/\(Pure Tryz.prog 273 #[(.string (nS x.den)),(.string (nS y.den))] D fun k l=>∃(A:ByteArray)(i51:Int),k=(.tuple #[(.string A),(.int .i64 i51)])/\(Pure Tryz.prog 330 #[(.string z),(.string A)] l fun m n=>∃(b:ByteArray)(c:ByteArray),m=(.agg #[(.string b),(.string c)])/\(∀E,Ext w.heap.size [204] n E->(Value.agg #[(.string b),(.string c)]=fV (x*y))))):=by
  intro w1 d;refine pm (gE (hg.next d) (hx.HS om) (hy.HS om) m1) ?_;rintro v G H rfl;have e:=kP d H;refine⟨_,_,rfl,pm (jz (hg.next e) (hx.HT om) (hy.HT om)) ?_⟩;rintro v I J rfl;have K:=kP e J;refine⟨_,_,rfl,pm (gx (hg.next K) m1 m4 q) ?_⟩;rintro v O P rfl;refine⟨_,_,rfl,fun Q _=> ?_⟩;rw[<-ex]
 refine F.jF.vc fun w1 L=>pm (gy hx _) ?_
 rintro v R M g;have i:=kP (k0 L) M;rcases g with rfl|⟨rfl,p1,p2⟩
 ·refine⟨_,_,_,rfl,pm (gy hy _) ?_⟩;rintro v j o g;have a:=kP i o;rcases g with rfl|⟨rfl,_⟩
  ·exact⟨_,_,_,rfl,fun h=>(by cases h),fun _=>long j a⟩
  ·exact⟨_,_,_,rfl,fun h=>(by cases h),fun _=>long j a⟩
 ·refine⟨_,_,_,rfl,pm (gy hy _) ?_⟩;rintro v j o g;have a:=kP i o;rcases g with rfl|⟨rfl,q1,N⟩
  ·exact⟨_,_,_,rfl,fun _=>⟨fun h=>(by cases h),fun _=>long j a⟩,fun h=>(by cases h)⟩
  ·have S:=Qv p1 q1;have T:=Qu p2 N;have B:(x.den:Int)*(y.den:Int)=((x.den*y.den:Nat):Int):=by simp
   refine⟨_,_,_,rfl,fun _=>⟨fun _=>⟨ir,by rw[B];simp only[aS];omega,?_⟩,fun h=>(by cases h)⟩,fun h=>(by cases h)⟩;rw[B];refine pm (dE (hg.next a) om q om) ?_;rintro v G _ rfl;refine⟨_,_,rfl,fun I _=> ?_⟩;rw[<-ex]

theorem FN{w:World}{B r:Nat}(o:Obj)(a:B<=r):Below B w {w with heap:=w.heap.setIfInBounds r o}:=
 ⟨rfl,rfl,rfl,sm,fun k b=>by simp[Jm,show r≠k by omega]⟩
theorem xH{w:World}{B r:Nat}{es:Array MapEntry}{clock:Nat}{key:Int}{val:Value}{K:World->Prop}(hb:w.heap[r]? =some (.map es clock))(hB:B<=r)
  (hf:Instr.findNow (.int .u8) (.int .u8 key) es.toList 0=some none) (b:∀w',w'.heap[r]? =some (.map (es.push {key:= .int .u8 key,val:=val,born:=clock}) (clock+1))->K w'):
  dY Tryz.prog (Instr.mapUpdate 332 (.map (some r)) (.int .u8 key) val) B [] w K:=by
 have hm:=Tryz.underlying332;have a:=Tryz.underlying5;have c:(Instr.checkKey false 10000 5 (.int .u8 key)).run Tryz.prog w= .ok () w:=MapKept.run_checkKey a (by simp[MapKept.IsKey]) false 9999;refine⟨{w with heap:=w.heap.setIfInBounds r (.map (es.push {key:= .int .u8 key,val:=val,born:=clock}) (clock+1))},?_,FN _ hB,sm,fun k ty cs h=>(by cases h),b _ ?_⟩
 ·simp[Instr.mapUpdate,run_underlying hm,MapKept.run_getObj_map hb,c,MapKept.run_findKey a hf,MapKept.run_setObj_map _ hb,Result.andThen]
 ·have:=(ax.1 hb).1;simp[Jm,this]

def BQ:Array MapEntry:= #[{key:= .int .u8 43,val:= .func (.func 310) #[] #[],born:=0},{key:= .int .u8 42,val:= .func (.func 311) #[] #[],born:=1},
 {key:= .int .u8 45,val:= .func (.func 312) #[] #[],born:=2},{key:= .int .u8 47,val:= .func (.func 314) #[] #[],born:=3}]

theorem fL(w:World):Pure Tryz.prog 294 #[] w fun v w'=>∃r,v= .map (some r)/\w'.heap[r]? =some (.map BQ 4):=by
 have hg:=World.grownBy_alloc w (.map #[] 0) none;refine F.fL.vc ⟨_,_,(by simp[Instr.makeMap]:(Instr.makeMap 332 none).run Tryz.prog w= .ok (.map (some w.heap.size)) (w.alloc (.map #[] 0))),bN hg sm lf,hg.size,fun k ty cs h=>(by cases h),_,rfl,?_⟩;refine xH (World.alloc_heap_new w _) lf rfl fun e a=> ?_
 refine xH a lf rfl fun g b=> ?_
 refine xH b lf rfl fun i c=> ?_
 refine xH c lf rfl fun j d=> ?_
 exact⟨_,rfl,d⟩
theorem ma(w:World):Pure Tryz.prog 270 #[] w fun v w'=>∃r,v= .map (some r)/\w'.heap[r]? =some (.map BQ 4):=by
 refine F.ma.vc (pm (fL w) ?_);rintro v a _ ⟨r,rfl,h⟩;exact⟨_,rfl,r,rfl,h⟩

theorem YL{w:World}{r:Nat}{key:Int}{f i:Nat}(h:w.heap[r]? =some (.map BQ 4))(hf:Instr.findNow (.int .u8) (.int .u8 key) BQ.toList 0=some (some (i,.func (.func f) #[] #[]))):
  (Instr.lookup 332 (.map (some r)) (.int .u8 key) false).run Tryz.prog w= .ok (.func (.func f) #[] #[]) w:=by
 have hm:=Tryz.underlying332;have a:=Tryz.underlying5;have b:(Instr.checkKey BQ.isEmpty 10000 5 (.int .u8 key)).run Tryz.prog w= .ok () w:=MapKept.run_checkKey a (by simp[MapKept.IsKey]) _ 9999;simp[Instr.lookup,run_underlying hm,MapKept.run_getObj_map h,b,MapKept.run_findKey a hf,Result.andThen]

theorem BR{w:World}{x y:Rat}(hg:bk w)(hx:kG x)(hy:kG y):
  Pure Tryz.prog 312 #[fV x,fV y] w fun v _=>v=fV (x - y):=by
 refine F.iJ.vc fun w1 a=>pm (gF hy _) ?_
 rintro v c b rfl;refine⟨_,_,rfl,pm (jc (hg.next (kP (k0 a) b)) hx hy.neg) ?_⟩;rintro v d _ rfl;refine⟨_,_,rfl,fun e _=> ?_⟩;rw[R0]

theorem gh{w:World}{x y z:Rat}{key:Int}{f i:Nat}(hg:bk w)(hx:kG x)(hy:kG y)(hz:Sm 300000 z)(m:key≠47)(hf:Instr.findNow (.int .u8) (.int .u8 key) BQ.toList 0=some (some (i,.func (.func f) #[] #[])))
  (n:az Tryz.prog f=true) (h:∀w,bk w->Pure Tryz.prog f #[fV x,fV y] w fun v _=>v=fV z):
  Pure Tryz.prog 233 #[.int .u8 key,.string (rS x),.string (rS y)] w fun v _=>v= .tuple #[.string (rS z),.int .i64 0]:=by
 refine F.gh.vc (pm (jb hg hx hy) ?_);rintro v D o rfl;have call:∀e,Below w.heap.size w e->az Tryz.prog f=true/\(Pure Tryz.prog f ((Array.toList (#[]:Array Value))++([(.agg #[(.string (iS x.num)),(.string (nS x.den))]),(.agg #[(.string (iS y.num)),(.string (nS y.den))])]:List Value)++(Array.toList (#[]:Array Value))).toArray e fun g q=>∃(b:ByteArray)(c:ByteArray),g=(.agg #[(.string b),(.string c)])/\(Pure Tryz.prog 271 #[(.agg #[(.string b),(.string c)])] q fun j E=>∃(l:ByteArray),j=(.string l)/\(Value.tuple #[(.string l),(.int .i64 (0:Int))]= .tuple #[.string (rS z),.int .i64 0]))):=by
  intro e hb;refine⟨n,pm (h e (hg.next hb)) ?_⟩;rintro v G _ rfl;refine⟨_,_,rfl,pm (Dh hz _) ?_⟩;rintro v H _ rfl;exact⟨_,rfl,rfl⟩
 have look:∀d r,Below w.heap.size w d->d.heap[r]? =some (.map BQ 4)->∀tys,∀K:Value->World->Prop,K (.func (.func f) #[] #[]) d->ae Tryz.prog (Instr.lookup 332 (.map (some r)) (.int .u8 key) false) w.heap.size tys d K:=by
  intro d r hb k tys K A;exact⟨_,_,YL k hf,Below.refl _ _,fs _,fun _ _ _ _ h=>rfl,A⟩
 refine⟨_,_,_,_,_,rfl,fun h=>absurd rfl h,fun _=>⟨fun h=>absurd h m,fun _=> ?_⟩⟩
 repeat' apply And.intro
 all_goals (intro I B;refine pm (ma _) ?_;rintro v J C ⟨r,rfl,k⟩;have a:=kP (kE o B) C;refine⟨_,rfl,?_⟩)
 all_goals repeat' apply And.intro
 all_goals (refine look _ r a k _ _ ⟨_,_,_,rfl,?_⟩)
 all_goals first|exact call _ a|exact⟨call _ a,call _ a⟩

theorem iH{w:World}{x y:Rat}(hg:bk w)(hx:kG x)(hy:kG y):
  Pure Tryz.prog 189 #[.string (rS x),.string (rS y)] w fun v _=>v= .tuple #[.string (rS (x+y)),.int .i64 0]:=by
 refine F.iH.vc (pm (gh hg hx hy ((hx.add hy).mono om) om rfl kF fun w hg=>jc hg hx hy) ?_);rintro v a _ rfl;exact⟨_,_,rfl,rfl⟩
theorem jU{w:World}{x y:Rat}(hg:bk w)(hx:kG x)(hy:kG y):
  Pure Tryz.prog 188 #[.string (rS x),.string (rS y)] w fun v _=>v= .tuple #[.string (rS (x - y)),.int .i64 0]:=by
 refine F.jU.vc (pm (gh hg hx hy ((hx.sub hy).mono om) om rfl kF fun w hg=>BR hg hx hy) ?_);rintro v a _ rfl;exact⟨_,_,rfl,rfl⟩
theorem iI{w:World}{x y:Rat}(hg:bk w)(hx:kG x)(hy:kG y):
  Pure Tryz.prog 190 #[.string (rS x),.string (rS y)] w fun v _=>v= .tuple #[.string (rS (x*y)),.int .i64 0]:=by
 refine F.iI.vc (pm (gh hg hx hy ((hx.mul hy).mono om) om rfl kF fun w hg=>jF hg hx hy) ?_);rintro v a _ rfl;exact⟨_,_,rfl,rfl⟩

theorem eC {w : World} {x y : Rat} (hg : bk w) (hx : kG x) (hy : kG y) :
    Pure Tryz.prog 155 #[.string (rS x), .string (rS y)] w fun v _ => v = .tuple #[.int .i64 (gp x y), .int .i64 0] := by
  refine F.eC.vc (pm (jb hg hx hy) ?_)
  rintro v H q rfl
  refine ⟨_, _, _, _, _, rfl, fun h => absurd rfl h, fun _ => ⟨fun h r _ => ?_, fun A r B => pm (vW hx _) ?_⟩⟩
  · have : x = y := Qj (Bz h)
    subst this
    rw [Ay.2 rfl]
  rintro v I C rfl
  have j := kP (kE q B) C
  refine ⟨_, rfl, pm (vW hy _) ?_⟩
  rintro v J D rfl
  have m := kP j D
  have a : ∀ z : Rat, (z < 0 ∧ gp z 0 = -1) ∨ (z = 0 ∧ gp z 0 = 0) ∨ (0 < z ∧ gp z 0 = 1) := by
    intro z
    unfold gp
    by_cases h1 : z < 0
    · rw [bm h1]; exact .inl ⟨h1, rfl⟩
    · rw [aq h1]
      by_cases d : 0 < z
      · rw [bm d]; exact .inr (.inr ⟨d, rfl⟩)
      · rw [aq d]; exact .inr (.inl ⟨Rat.le_antisymm (Sc.1 d) (Sc.1 h1), rfl⟩)
  have sgn : (x.num * (y.den : Int) - y.num * (x.den : Int)).sign = gp x y := by
    have h1 := HQ x y
    have d := HQ y x
    have K := Qk x y
    unfold gp
    rcases Int.lt_trichotomy (x.num * (y.den : Int) - y.num * (x.den : Int)) 0 with k | k | k
    · rw [bm (h1.2 k), LC k]
    · rw [aq (fun c => by have := h1.1 c; omega), aq (fun c => by have := d.1 c; omega), k]; rfl
    · rw [aq (fun c => by have := h1.1 c; omega), bm (d.2 om), OP k]
  refine ⟨_, rfl, fun hs => ?_, fun hs => ?_⟩
  · have e : gp x y = (if (if (1 : Int) < (gp x 0 - gp y 0) then (1 : Int) else (gp x 0 - gp y 0)) > (-1 : Int) then (if (1 : Int) < (gp x 0 - gp y 0) then (1 : Int) else (gp x 0 - gp y 0)) else (-1 : Int)) := by
      rcases a x with ⟨i, a2⟩ | ⟨i, a2⟩ | ⟨i, a2⟩ <;> rcases a y with ⟨n, g⟩ | ⟨n, g⟩ | ⟨n, g⟩ <;> rw [a2, g] at hs ⊢ <;> first | exact absurd rfl hs | skip
      all_goals first
        | (have b : x < y := by grind
           have l : gp x y = -1 := by unfold gp; rw [bm b]
           rw [l]; rfl)
        | (have b : y < x := by grind
           have l : gp x y = 1 := by unfold gp; rw [aq (Sc.2 (Rat.le_of_lt b)), bm b]
           rw [l]; rfl)
    refine ⟨?_, ?_⟩
    · rcases a x with ⟨_, a2⟩ | ⟨_, a2⟩ | ⟨_, a2⟩ <;> rcases a y with ⟨_, g⟩ | ⟨_, g⟩ | ⟨_, g⟩ <;> rw [a2, g] <;> simp only [aS] <;> omega
    · rw [← e]
  · have n1 := iG hx.1 hy.2
    have n2 := iG hy.1 hx.2
    have i : (x.num * (y.den : Int)).natAbs = x.num.natAbs * y.den := by rw [zK, sZ]
    have a2 : (y.num * (x.den : Int)).natAbs = y.num.natAbs * x.den := by rw [zK, sZ]
    have m1 : (x.num * (y.den : Int)).natAbs < fy := by rw [i]; exact od n1 om
    have m2 : (y.num * (x.den : Int)).natAbs < fy := by rw [a2]; exact od n2 om
    rw [← pq y.den, ← pq x.den]
    refine pm (gE (hg.next m) (hx.HS om) (by rw [sZ]; exact hy.HT om) m1) ?_
    rintro v L E rfl
    have o := kP m E
    refine ⟨_, _, rfl, pm (gE (hg.next o) (hy.HS om) (by rw [sZ]; exact hx.HT om) m2) ?_⟩
    rintro v M G rfl
    refine ⟨_, _, rfl, pm (iU (hg.next (kP o G)) m1 m2) ?_⟩
    rintro v N _ rfl
    refine ⟨_, _, rfl, ?_⟩
    rw [sgn]

def bR(w:World)(A:Option Addr)(sz:Nat)(rows:List (List Value)):Prop:=
 rows=[]∨∃b off cs ty fr,A=some ⟨b,off,none⟩/\w.heap[b]? =some (.cells cs ty fr)/\∀i,(h:i<rows.length)->∀j,(hj:j<rows[i].length)->rows[i].length=sz/\cs[off+i*sz+j]? =some (rows[i][j])

theorem bR.below{w w':World}{A:Option Addr}{sz:Nat}{rows:List (List Value)}(h:bR w A sz rows)(hb:Below w.heap.size w w'):bR w' A sz rows:=by
 rcases h with h|⟨b,off,cs,ty,fr,c,a,d⟩
 ·exact .inl h
 ·exact .inr ⟨b,off,cs,ty,fr,c,(hb.block b (ax.1 a).1).trans a,d⟩
theorem bR.av{w w':World}{A:Option Addr}{sz B:Nat}{rows:List (List Value)}(h:bR w A sz rows)(hb:Below B w w')(hB:w.heap.size<=B):bR w' A sz rows:=h.below (hb.mono hB)
theorem xI(b off i j sz:Nat):(((⟨b,off,none⟩:Addr).add (i*sz)).add j)=⟨b,off+i*sz+j,none⟩:=by
 have a:∀o k:Nat,(⟨b,o,none⟩:Addr).add k=⟨b,o+k,none⟩:=by
  intro o k;unfold Addr.add;split
  ·rename_i h;subst h;rfl
  ·rfl
 rw[a,a]

theorem bR.load{w:World}{A:Option Addr}{sz n:Nat}{rows:List (List Value)}(h:bR w A sz rows)(hl:rows.length=n){j:Int}(l:0<=j)(h1:j<n):
  (0<=j/\j<n)/\∃a,A=some a/\∀row,rows[j.toNat]? =some row->row.length=sz->aa w (a.add (j.toNat*sz)) row/\∀k v,row[k]? =some v->aa w ((a.add (j.toNat*sz)).add k) [v]:=by
 refine⟨⟨l,h1⟩,?_⟩;rcases h with h|⟨b,off,cs,ty,fr,m,o,q⟩
 ·subst h;simp at hl;omega
 ·refine⟨_,m,fun row r hlen=> ?_⟩;have hj:j.toNat<rows.length:=om;have g:rows[j.toNat]=row:=by simpa[hj]using r
  have c:∀k v,row[k]? =some v->w.cell? (((⟨b,off,none⟩:Addr).add (j.toNat*sz)).add k)=some v:=by
   intro k v d;obtain⟨e,x⟩:=eh.1 d;rw[xI];simp only[World.cell?,o];have:=(q j.toNat hj k (by rw[g];exact e)).2;rw[this];subst g;simp[x]
  refine⟨fun i hi=>c i _ (by simp[hi]),fun k v d i hi=> ?_⟩;simp at hi;subst hi;have:=c k v d;rw[show((((⟨b,off,none⟩:Addr).add (j.toNat*sz)).add k).add 0)=(((⟨b,off,none⟩:Addr).add (j.toNat*sz)).add k) by simp[Addr.add]];exact this

def aF(w:World)(B ty:Nat)(A:Option Addr)(n c sz:Nat)(rows:List (List Value)):Prop:=
 w.ownsRow B ty sz (.slice A n c) n rows.flatten/\rows.length=n/\∀r∈rows,r.length=sz
theorem aF.sl{w:World}{B ty:Nat}{A:Option Addr}{n c sz:Nat}{rows:List (List Value)}(h:aF w B ty A n c sz rows):bR w A sz rows:=by
 obtain⟨h,hl,b⟩:=h;rcases h.2 with⟨h1,l⟩|⟨g,cap,cur,h1,hb,hg,m,hm,hs,d⟩
 ·left
  exact ew om
 ·cases h1;refine .inr ⟨g,0,cur,ty,_,rfl,hg,fun i hi j hj=>⟨b _ (bA _),?_⟩⟩;have hlen:rows[i].length=sz:=b _ (bA _);have key:rows.flatten[i*sz+j]? =some (rows[i][j]):=by
   clear d h hl;induction rows generalizing i with
   |nil=>simp at hi
   |cons r rs ih=>
    have o:r.length=sz:=b r sm;cases i with
    |zero=>
     have a:j<r.length:=hj;rw[RN,jx,sY,gv a];simp[a]
    |succ i=>
     have k:i<rs.length:=by simpa using hi
     have a:j<rs[i].length:=hj;rw[sY,hN (by rw[nG];omega)];have:=ih (fun x hx=>b x (by simp[hx])) i k a hlen;have e:(i+1)*sz+j - r.length=i*sz+j:=by rw[nG];omega
     rw[e,this];rfl
  rw[<-d,jv]at key;split at key
  ·simpa using key
  ·cases key
theorem aF.len{w:World}{B ty:Nat}{A:Option Addr}{n c sz:Nat}{rows:List (List Value)}(h:aF w B ty A n c sz rows):rows.length=n:=h.2.1
theorem aF.uP{w:World}{B ty:Nat}{A:Option Addr}{n c sz:Nat}{rows:List (List Value)}(h:aF w B ty A n c sz rows):∀a,A=some a->B<=a.block/\a.block<w.heap.size:=by
 intro a ha;subst ha;exact World.ownsRow.lt h.1 a.block rfl
theorem aF.other{w w':World}{B ty:Nat}{A:Option Addr}{n c sz:Nat}{rows:List (List Value)}(h:aF w B ty A n c sz rows)(b:∀a,A=some a->w'.heap[a.block]? =w.heap[a.block]?):aF w' B ty A n c sz rows:=by
 refine⟨⟨h.1.1,?_⟩,h.2⟩;rcases h.1.2 with h1|⟨g,cap,cur,h1,d,e,i⟩
 ·exact .inl h1
 ·cases h1;refine .inr ⟨g,_,cur,rfl,d,?_,i⟩;have:=b _ rfl;simp only at this;rw[this];exact e
theorem aF.below{w w':World}{B ty:Nat}{A:Option Addr}{n c sz:Nat}{rows:List (List Value)}(h:aF w B ty A n c sz rows)(hb:Below w.heap.size w w'):aF w' B ty A n c sz rows:=
 h.other fun a ha=>hb.block _ (h.uP a ha).2
theorem aF.nil{w:World}{B ty sz:Nat}:aF w B ty none 0 0 sz []:=⟨World.ownsRow_nil _ _ _ _,rfl,sm⟩

theorem bc{t e sz bytes:Nat}(el:El Tryz.prog t e sz bytes)(xs:List Value)(hx:∀v∈xs,v.cells.size=sz)(hn:xs.length<=1024){B:Nat}{w:World}{tys:List Nat}(hB:B<=w.heap.size){K:Option Addr->Nat->Nat->World->Prop}
  (h:∀A c b,aF b w.heap.size e A xs.length c sz (xs.map fun v=>v.cells.toList)->Below w.heap.size w b->K A xs.length c b):
  ae Tryz.prog (Instr.buildSlice t xs.length (xs.zipIdx.map fun x=>(x.2,x.1)).toArray) B tys w fun r w1=>∃A n c,r= .slice A n c/\K A n c w1:=by
 have a:=oP el xs hx hn w;have hg:=World.grownBy_alloc w (.cells (xs.flatMap fun v=>v.cells.toList).toArray e) none;have hb:Below w.heap.size w (w.alloc (.cells (xs.flatMap fun v=>v.cells.toList).toArray e)):=bN hg sm lf;have hlen:(xs.flatMap fun v=>v.cells.toList).length=xs.length*sz:=by
  clear a hg hb h;induction xs with
  |nil=>simp
  |cons x r ih=>
   have h1:=hx x sm;rw[tJ,en,ih (fun v d=>hx v (by simp[d])) (by simp at hn;omega),eR,nG,nW,h1];omega
 refine⟨_,_,a,hb.mono hB,hg.size,fun k ty cs _ g=>hg.block k (ax.1 g).1 sm,_,_,_,rfl,h _ _ _ ⟨⟨?_,.inr ⟨w.heap.size,xs.length,_,rfl,fs _,heap_alloc_new w _,fs _,by simp only[maxLen];omega,?_,?_⟩⟩,sm,?_⟩ hb⟩
 ·rw[<-List.flatMap_def];exact hlen
 ·rw[zI];exact hlen
 ·rw[<-List.flatMap_def];exact cd (by rw[hlen];exact fs _)
 ·intro r a;obtain⟨v,d,rfl⟩:=gX.1 a;simpa using hx v d

theorem aF.ic{w:World}{B ty:Nat}{A:Option Addr}{n c sz:Nat}{rows:List (List Value)}(h:aF w B ty A n c sz rows):n<=c:=by
 obtain⟨_,_,h1,a⟩:=ownsRow_form h.1;cases h1;exact a
theorem sA{t ty e sz bytes:Nat}(el:El Tryz.prog t e sz bytes){B0 B:Nat}(b:B0<=B){tys:List Nat}{w:World}{A:Option Addr}{n c:Nat}{rows:List (List Value)}(ho:aF w B e A n c sz rows){x:Value}(hx:x.cells.size=sz)(h1:∀u∈x.cells.toList,bo u=true)
  (hB:B<=w.heap.size) (nC:(n+1)*(bytes+1)<=140737488355328) (d:e∉tys) {K:Option Addr->Nat->Nat->World->Prop}
  (h:∀A' c' a,aF a B e A' (n+1) c' sz (rows++[x.cells.toList])->w.grownBy a (Value.ownBlock (.slice A n c))->Below B0 w a->K A' (n+1) c' a):
  ae Tryz.prog (Instr.buildSlice t 1 #[(0,x)]) B0 tys w fun r w1=>∃A2 m c2,r= .slice A2 m c2/\
   ae Tryz.prog (Builtin.append_ #[t,t] ty #[.slice A n c,.slice A2 m c2]) B0 tys w1 fun r a=>∃A n c,r= .slice A n c/\K A n c a:=
 vN el b ho.1 hx h1 hB nC d fun A' c' a g i j=>h A' c' a ⟨by rw[ow];simpa using g,by simp[ho.len],fun r k=>by
  rcases ga.1 k with h|h
  ·exact ho.2.2 r h
  ·simp at h;subst h;simpa using hx⟩ i j

theorem bU(b o:Nat)(k:Nat):(⟨b,o,none⟩:Addr).add k=⟨b,o+k,none⟩:=by
 unfold Addr.add;split
 ·rename_i h;subst h;rfl
 ·rfl
theorem bz{w:World}{b ty:Nat}{vs:List Value}(h:w.heap[b]? =some (.cells vs.toArray ty (0,0))){k:Nat}{v:Value}(a:vs[k]? =some v):aa w ((⟨b,0,none⟩:Addr).add k) [v]:=by
 intro i hi;simp at hi;subst hi;rw[bU,bU];simp[World.cell?,h,a]
theorem bS{w:World}{b ty:Nat}{vs:List Value}(h:w.heap[b]? =some (.cells vs.toArray ty (0,0))){v:Value}(a:vs[0]? =some v):aa w (⟨b,0,none⟩:Addr) [v]:=by
 have:=bz h a;rwa [bU]at this
theorem ag{w w':World}{b:Nat}{o:Obj}(h:w.heap[b]? =some o)(hb:Below w.heap.size w w'):w'.heap[b]? =some o:=(hb.block b (ax.1 h).1).trans h

theorem ext_nil{B:Nat}{w w':World}(x:Ext B [] w w'){k:Nat}{o:Obj}(h:w.heap[k]? =some o):w'.heap[k]? =some o:=by
 rcases x.other k (ax.1 h).1 with h1|⟨t,a,_⟩
 ·rw[h1];exact h
 ·simp at a
theorem aF.kR{B0:Nat}{w w':World}{B ty:Nat}{A:Option Addr}{n c sz:Nat}{rows:List (List Value)}(h:aF w B ty A n c sz rows)(x:Ext B0 [] w w'):aF w' B ty A n c sz rows:=
 h.other fun a ha=>by
  rcases x.other a.block (h.uP a ha).2 with h1|⟨t,b,_⟩
  ·exact h1
  ·simp at b
theorem bR.kR{B0:Nat}{w w':World}{A:Option Addr}{sz:Nat}{rows:List (List Value)}(h:bR w A sz rows)(x:Ext B0 [] w w'):bR w' A sz rows:=by
 rcases h with h|⟨b,off,cs,ty,fr,a,c,d⟩
 ·exact .inl h
 ·exact .inr ⟨b,off,cs,ty,fr,a,ext_nil x c,d⟩

theorem uV{sz:Nat}{cs:Array Value}:∀(rows:List (List Value)) (off:Nat),(∀r∈rows,r.length=sz)->(∀i,(h:i<rows.length)->∀j,(hj:j<rows[i].length)->cs[off+i*sz+j]? =some (rows[i][j]))->∀(j:Nat)(u:Value),rows.flatten[j]? =some u->cs[off+j]? =some u:=by
 intro rows;induction rows with
 |nil=>intro off _ _ j u hu;simp at hu
 |cons r rs ih=>
  intro off a b j u hu;have d:r.length=sz:=a r sm;by_cases hj:j<r.length
  ·rw[sY,gv hj]at hu;have:=b 0 sm j hj;simp only[RN,tT,List.getElem_cons_zero]at this;rw[this];simpa[hj]using hu
  ·rw[sY,hN om]at hu;have:=ih (off+sz) (fun x hx=>a x (by simp[hx])) (fun i hi k c=>by
    have:=b (i+1) (by simp;omega) k c;rw[nG]at this;rw[show off+sz+i*sz+k=off+(i*sz+1*sz)+k by omega];exact this) (j - r.length) u hu
   rw[show off+j=off+sz+(j - r.length) by omega];exact this

theorem uc{t ty e sz bytes:Nat}(el:El Tryz.prog t e sz bytes){B0 B:Nat}(o:B0<=B){tys:List Nat}{w:World}{A:Option Addr}{n c:Nat}{rows:List (List Value)}(ho:aF w B e A n c sz rows)
  {a:Addr} {m c2:Nat} {more:List (List Value)} (g:bR w (some a) sz more) (hm:more.length=m) (k:∀r∈more,r.length=sz) (h1:∀r∈more,∀u∈r,bo u=true)
  (hB:B<=w.heap.size) (nC:(n+m)*(bytes+1)<=140737488355328) (q:e∉tys) {K:Option Addr->Nat->Nat->World->Prop}
  (h:∀A' c' d,aF d B e A' (n+m) c' sz (rows++more)->w.grownBy d (Value.ownBlock (.slice A n c))->Below B0 w d->K A' (n+m) c' d):
  ae Tryz.prog (Builtin.append_ #[t,t] ty #[.slice A n c,.slice (some a) m c2]) B0 tys w fun r d=>∃A n c,r= .slice A n c/\K A n c d:=by
 have hlen:more.flatten.length=m*sz:=by
  rw[<-hm];clear g hm h1 h nC;induction more with
  |nil=>simp
  |cons r rs ih=>rw[sY,en,ih (fun x hx=>k x (by simp[hx])),k r sm,eR,nG];omega
 refine rY el o ho.1 (news:=more.flatten) hlen (fun j u hu=> ?_) (fun u hu=> ?_) hB nC q fun A' c' d y z C=>h A' c' d ⟨by rw[ow];exact y,by simp[ho.len,hm],fun r l=> ?_⟩ z C
 ·rcases g with g|⟨b,off,cs,ty,fr,D,E,F⟩
  ·subst g;simp at hu
  ·cases D;rw[bU];simp only[World.cell?,E];have:=uV more off k (fun i hi j hj=>(F i hi j hj).2) j u hu;simpa using this
 ·obtain⟨r,l,G⟩:=LU.1 hu;exact h1 r l u G
 ·rcases ga.1 l with h|h
  ·exact ho.2.2 r h
  ·exact k r h

theorem bR.rp{w:World}{sz:Nat}{rows:List (List Value)}(h:bR w none sz rows):rows=[]:=by
 rcases h with h|⟨b,off,cs,ty,fr,a,_⟩
 ·exact h
 ·cases a

theorem FO(p:List Value):∀(vs l:List Value)(o:Nat),setCells (p++l) (p.length+o) vs=p++setCells l o vs:=by
 intro vs;induction vs with
 |nil=>intro l o;rfl
 |cons v r ih=>
  intro l o;rw[setCells,setCells,wV _ _ om,show p.length+o - p.length=o by omega,Ij,ih]
theorem Dj(q:List Value):∀(vs l:List Value)(o:Nat),o+vs.length<=l.length->setCells (l++q) o vs=setCells l o vs++q:=by
 intro vs;induction vs with
 |nil=>intro l o _;rfl
 |cons v r ih=>
  intro l o h;simp only[eR]at h;rw[setCells,setCells,List.set_append_left _ _ om,ih _ _ (by simp;omega)]
theorem fQ:∀(vs l:List Value)(o:Nat),(setCells l o vs).length=l.length:=by
 intro vs;induction vs with
 |nil=>intro l o;rfl
 |cons v r ih=>intro l o;rw[setCells,ih];simp
theorem jH{sz:Nat}:∀(rows:List (List Value)),(∀r∈rows,r.length=sz)->rows.flatten.length=rows.length*sz:=by
 intro rows;induction rows with
 |nil=>intro _;simp
 |cons r rs ih=>intro h;rw[sY,en,ih (fun x hx=>h x (by simp[hx])),h r sm,eR,nG];omega
theorem HV{sz:Nat}{rows:List (List Value)}(h:∀r∈rows,r.length=sz){i:Nat}{row:List Value}(a:rows[i]? =some row){k:Nat}{vs:List Value}(d:k+vs.length<=sz):
  setCells rows.flatten (i*sz+k) vs=(rows.set i (setCells row k vs)).flatten:=by
 obtain⟨hi,e⟩:=eh.1 a;have b:rows=rows.take i++row::rows.drop (i+1):=by
  rw[<-e,<-dp hi,kl]
 have hl:(rows.take i).length=i:=by simp;omega
 have hp:(rows.take i).flatten.length=i*sz:=by rw[jH _ (fun r c=>h r (k7 c)),hl]
 have c:row.length=sz:=h row (gb a)
 conv=>lhs;rw[b]
 conv=>rhs;rw[b]
 rw[wV _ _ om,hl,IS,IW,ow,ow,sY,sY,<-hp,FO,Dj _ _ _ _ om]

theorem aF.set{w:World}{B ty:Nat}{A:Option Addr}{n c sz:Nat}{rows:List (List Value)}(h:aF w B ty A n c sz rows){i:Int}(l:0<=i)(h1:i<n)(k:Nat)(vs:List Value)(row:List Value)(e:rows[i.toNat]? =some row)(m:k+vs.length<=sz):
  (0<=i/\i<n)/\∃a,A=some a/\∃cs:List Value,B<=((a.add (i.toNat*sz)).add k).block/\((a.add (i.toNat*sz)).add k).spot=none/\w.heap[((a.add (i.toNat*sz)).add k).block]? =some (.cells cs.toArray ty (0,0))/\((a.add (i.toNat*sz)).add k).off+vs.length<=cs.length/\
   ∀w1,aC w w1 ((a.add (i.toNat*sz)).add k).block ty (setCells cs ((a.add (i.toNat*sz)).add k).off vs)->aF w1 B ty A n c sz (rows.set i.toNat (setCells row k vs)):=by
 refine⟨⟨l,h1⟩,?_⟩;have hl:=h.len;have q:∃a,A=some a:=by
  rcases h.1.2 with⟨_,j⟩|⟨g,cap,cur,j,_⟩
  ·omega
  ·cases j;exact⟨_,rfl⟩
 obtain⟨a,rfl⟩:=q;have hlen:rows.flatten.length=n*sz:=by rw[jH _ h.2.2,hl]
 have hle:i.toNat*sz+k+vs.length<=rows.flatten.length:=by
  have:(i.toNat+1)*sz<=n*sz:=gr _ om;rw[nG]at this;omega
 obtain⟨cs,c1,c2,c3,c4,c5,x⟩:=vO h.1 (off:=i.toNat*sz+k) hle;obtain⟨b,o,s⟩:=a;simp only at c1 c2 c3 c4;subst c2;subst c3;refine⟨⟨b,0,none⟩,rfl,?_⟩;rw[xI];simp only[jx];refine⟨cs,c1,trivial,c4,c5,fun w1 hw=>⟨?_,by simp[hl],fun r y=> ?_⟩⟩
 ·have:=x w1 hw;rwa [HV h.2.2 e m]at this
 ·rcases By y with d|d
  ·exact h.2.2 r d
  ·subst d;rw[fQ];exact h.2.2 row (gb e)
theorem acK(a:Addr):a.add 0=a:=by unfold Addr.add;simp
theorem aF.Nj{w:World}{B ty:Nat}{A:Option Addr}{n c sz:Nat}{rows:List (List Value)}(h:aF w B ty A n c sz rows){i:Int}(j:0<=i)(h1:i<n)(vs:List Value)(row:List Value)(d:rows[i.toNat]? =some row)(g:vs.length=sz):
  (0<=i/\i<n)/\∃a,A=some a/\∃cs:List Value,B<=(a.add (i.toNat*sz)).block/\(a.add (i.toNat*sz)).spot=none/\w.heap[(a.add (i.toNat*sz)).block]? =some (.cells cs.toArray ty (0,0))/\(a.add (i.toNat*sz)).off+vs.length<=cs.length/\
   ∀w1,aC w w1 (a.add (i.toNat*sz)).block ty (setCells cs (a.add (i.toNat*sz)).off vs)->aF w1 B ty A n c sz (rows.set i.toNat vs):=by
 obtain⟨k,a,l,cs,c1,c2,c3,c4,c5⟩:=h.set j h1 0 vs row d om;rw[acK]at c1 c2 c3 c4 c5;have e:setCells row 0 vs=vs:=by
  have b:row.length=vs.length:=by rw[g];exact h.2.2 row (gb d)
  clear d c5 g;have gen:∀(vs row p:List Value),row.length=vs.length->setCells (p++row) p.length vs=p++vs:=by
   intro vs;induction vs with
   |nil=>intro row p b;have:row=[]:=ew b;subst this;rfl
   |cons v r ih=>
    intro row p b;cases row with
    |nil=>simp at b
    |cons u t=>
     rw[setCells,wV _ _ lf,IS,IW];have:=ih t (p++[v]) (by simpa using b);simpa using this
  simpa using gen vs row [] b
 rw[e]at c5;exact⟨k,a,l,cs,c1,c2,c3,c4,c5⟩
theorem aC.eD{w w1:World}{B b ty:Nat}{cs:List Value}(h:aC w w1 b ty cs)(hB:B<=b):Below B w w1:=
 ⟨h.os,h.tape,h.output,by rw[h.size];exact fs _,fun k a=>h.rest k om⟩
theorem aF.base{w:World}{B b ty:Nat}{A:Option Addr}{n c sz:Nat}{rows:List (List Value)}(h:aF w b ty A n c sz rows)(hB:B<=b):aF w B ty A n c sz rows:=by
 refine⟨⟨h.1.1,?_⟩,h.2⟩;rcases h.1.2 with a|⟨g,cap,cur,a,d,e⟩
 ·exact .inl a
 ·exact .inr ⟨g,cap,cur,a,dT hB d,e⟩
theorem dV:∀(vs l:List Value)(o k:Nat),o+vs.length<=l.length->(setCells l o vs)[k]? =if o<=k/\k<o+vs.length then vs[k - o]? else l[k]? :=by
 intro vs;induction vs with
 |nil=>intro l o k h;rw[setCells,aq (by intro⟨a,b⟩;simp at b;omega)]
 |cons v r ih=>
  intro l o k h;simp only[eR]at h⊢;rw[setCells,ih _ _ _ (by simp;omega)];by_cases h1:o+1<=k/\k<o+1+r.length
  ·rw[bm h1,bm om,show k - o=(k - (o+1))+1 by omega,List.getElem?_cons_succ]
  ·rw[aq h1];by_cases c:k=o
   ·subst c;rw[bm om,wI om];simp
   ·rw[aq om,KJ om]

theorem qm(b t:Nat):∀(vs:List Value)(o:Nat)(w:World)(cur:List Value),w.heap[b]? =some (.cells cur.toArray t (0,0))->
  (w.setCells b o vs).heap[b]? =some (.cells (setCells cur o vs).toArray t (0,0))/\(∀k,k≠b->(w.setCells b o vs).heap[k]? =w.heap[k]?)/\(w.setCells b o vs).heap.size=w.heap.size/\(w.setCells b o vs).os=w.os/\(w.setCells b o vs).tape=w.tape/\(w.setCells b o vs).output=w.output:=by
 intro vs;induction vs with
 |nil=>intro o w cur h;exact⟨h,fun _ _=>rfl,rfl,rfl,rfl,rfl⟩
 |cons v r ih=>
  intro o w cur h;have h1:(w.setCell ⟨b,o,none⟩ v).heap[b]? =some (.cells (cur.set o v).toArray t (0,0)):=by
   simp[World.setCell,OS,h]
  obtain⟨c,d,g,i,j,l⟩:=ih (o+1) (w.setCell ⟨b,o,none⟩ v) (cur.set o v) h1;rw[World.setCells];refine⟨c,fun k a=> ?_,?_,?_,?_,?_⟩
  ·rw[d k a];exact RowKit.Below.heap_setCell _ _ _ _ (fun e=>a (by first|exact e|exact e.symm))
  ·rw[g];simp[World.setCell]
  ·rw[i];rfl
  ·rw[j];rfl
  ·rw[l];rfl
theorem ud{w:World}{B b t:Nat}{cur vs:List Value}{o:Nat}(h:w.heap[b]? =some (.cells cur.toArray t (0,0)))(hB:B<=b):Below B w (w.setCells b o vs):=by
 obtain⟨g,a,i,c,d,e⟩:=qm b t vs o w cur h;exact⟨c,d,e,om,fun k j=>a k om⟩

theorem YN{b l c:Nat}(h:l<c):cC (some ⟨b,0,none⟩) l c 1=some ⟨b,l,none⟩:=by
 unfold cC;rw[aq om];simp[bU]
theorem aF.cells{w:World}{B ty:Nat}{A:Option Addr}{n c sz:Nat}{rows:List (List Value)}(h:aF w B ty A n c sz rows):∀a,A=some a->∃cs:Array Value,w.heap[a.block]? =some (.cells cs ty (0,0)):=by
 intro a ha;subst ha;rcases h.1.2 with⟨b,_⟩|⟨g,cap,cur,b,e,d,_⟩
 ·cases b
 ·cases b;exact⟨cur,d⟩
theorem uW{w:World}{a b c tb:Nat}{d g:Array Value}(ha:w.heap[a]? =some (.cells d c (0,0)))(hb:w.heap[b]? =some (.cells g tb (0,0)))(h:c≠tb):a≠b:=by
 intro e;subst e;rw[ha]at hb;cases hb;exact h rfl

theorem oX(t:Nat)(v:Value){B:Nat}{w:World}{tys:List Nat}(hB:B<=w.heap.size){K:Addr->World->Prop}
  (h:∀b,b.heap[w.heap.size]? =some (.cells v.cells t (0,0))->Below w.heap.size w b->w.heap.size<b.heap.size->K ⟨w.heap.size,0,none⟩ b):
  ae Tryz.prog (Instr.box t v) B tys w fun r w1=>∃a,r= .pointer (some a)/\K a w1:=by
 have d:(Instr.box t v).run Tryz.prog w= .ok (.pointer (some ⟨w.heap.size,0,none⟩)) (w.alloc (.cells v.cells t)):=by
  simp[Instr.box,Sem.run_bind,Sem.run,newVar,newRow,newObj]
 have hg:=World.grownBy_alloc w (.cells v.cells t) none;have hb:Below w.heap.size w (w.alloc (.cells v.cells t)):=bN hg sm lf;have c:=heap_alloc_new w (.cells v.cells t);exact⟨_,_,d,hb.mono hB,hg.size,fun k ty cs _ e=>hg.block k (ax.1 e).1 sm,_,rfl,h _ c hb (ax.1 c).1⟩
theorem cK(t:Nat){z:Value}(hz:((Tryz.prog.info? t).bind (·.zero))=some z){B:Nat}{w:World}{tys:List Nat}(hB:B<=w.heap.size){K:Addr->World->Prop}
  (h:∀b,b.heap[w.heap.size]? =some (.cells z.cells t (0,0))->Below w.heap.size w b->w.heap.size<b.heap.size->K ⟨w.heap.size,0,none⟩ b):
  ae Tryz.prog (Instr.alloc t true (.tuple #[])) B tys w fun r w1=>∃a,r= .pointer (some a)/\K a w1:=by
 obtain⟨i,hi,c⟩:=tm.1 hz;have e:(Instr.alloc t true (.tuple #[])).run Tryz.prog w= .ok (.pointer (some ⟨w.heap.size,0,none⟩)) (w.alloc (.cells z.cells t)):=by
  simp[Instr.alloc,zeroValue,typeInfo,program,Sem.run_bind,Sem.run,hi,c,newVar,newRow,newObj]
 have hg:=World.grownBy_alloc w (.cells z.cells t) none;have hb:Below w.heap.size w (w.alloc (.cells z.cells t)):=bN hg sm lf;have d:=heap_alloc_new w (.cells z.cells t);exact⟨_,_,e,hb.mono hB,hg.size,fun k ty cs _ g=>hg.block k (ax.1 g).1 sm,_,rfl,h _ d hb (ax.1 d).1⟩

def fD{α:Type}(p:α->Bool):Nat->List α->Int
 |_,[]=> -1
 |i,c::r=>if p c then(i:Int)else fD p (i+1) r
theorem Qx{α:Type}(p:α->Bool):∀(l:List α)(k:Nat),(0<=fD p k l)↔l.any p=true:=by
 intro l;induction l with
 |nil=>intro k;simp[fD]
 |cons c r ih=>
  intro k;rw[fD];by_cases h:p c=true
  ·rw[bm h];simp[h]
  ·rw[aq h,ih];simp[h]

theorem aF.Nk{B0:Nat}{ts:List Nat}{w w':World}{B ty:Nat}{A:Option Addr}{n c sz:Nat}{rows:List (List Value)}(h:aF w B ty A n c sz rows)(x:Ext B0 ts w w')(d:ty∉ts):aF w' B ty A n c sz rows:=
 h.other fun a ha=>by
  obtain⟨cs,e⟩:=h.cells a ha;rcases x.other a.block (h.uP a ha).2 with h1|⟨t,g,c1,c2,fr,b,i⟩
  ·exact h1
  ·rw[e]at b;cases b;exact absurd g d
theorem eY{w:World}{b ty:Nat}{vs:List Value}(h:w.heap[b]? =some (.cells vs.toArray ty (0,0))):aa w (⟨b,0,none⟩:Addr) vs:=by
 intro i hi;rw[bU];simp[World.cell?,h]

theorem Mk{B:Nat}{w w':World}(x:Ext B [] w w'):Below w.heap.size w w':=
 ⟨x.below.os,x.below.tape,x.below.output,x.below.size,fun k a=>by
  have h:w.heap[k]? =some w.heap[k]:=Array.getElem?_eq_getElem a;rw[ext_nil x h,h]⟩

theorem bR.take{w:World}{A:Option Addr}{sz:Nat}{rows:List (List Value)}(h:bR w A sz rows)(k:Nat):bR w A sz (rows.take k):=by
 rcases h with h|⟨b,off,cs,ty,fr,c,d,g⟩
 ·subst h;exact .inl sm
 ·refine .inr ⟨b,off,cs,ty,fr,c,d,fun i hi j hj=> ?_⟩;have l:i<rows.length:=by rw[eH]at hi;omega
  have e:(rows.take k)[i]=rows[i]:=by simp
  have a:j<rows[i].length:=by rw[<-e];exact hj
  have:=g i l j a;simpa using this
theorem bR.WG{w:World}{A:Option Addr}{sz c:Nat}{rows:List (List Value)}(h:bR w A sz rows){k:Nat}(o:rows.length<=c):bR w (cC A k c sz) sz (rows.drop k):=by
 by_cases g:rows.length<=k
 ·exact .inl (de g)
 rcases h with h|⟨b,off,cs,ty,fr,l,m,a⟩
 ·subst h;exact .inl sm
 ·refine .inr ⟨b,off+k*sz,cs,ty,fr,?_,m,fun i hi j hj=> ?_⟩
  ·unfold cC;rw[aq om,l,Um,bU]
  ·have n:k+i<rows.length:=by rw[sH]at hi;omega
   have e:(rows.drop k)[i]=rows[k+i]:=by simp
   have d:j<rows[k+i].length:=by rw[<-e];exact hj
   have:=a (k+i) n j d;have ea:off+k*sz+i*sz+j=off+(k+i)*sz+j:=by rw[nG];omega
   rw[ea];simpa using this
theorem xJ{t ty e sz bytes:Nat}(el:El Tryz.prog t e sz bytes){B0 B:Nat}(l:B0<=B){tys:List Nat}{w:World}{A:Option Addr}{n c:Nat}{rows:List (List Value)}(ho:aF w B e A n c sz rows)
  {A2:Option Addr} {m c2:Nat} {more:List (List Value)} (g:bR w A2 sz more) (hm:more.length=m) (o:∀r∈more,r.length=sz) (h1:∀r∈more,∀u∈r,bo u=true) (hz:A2=none->c2=0)
  (hB:B<=w.heap.size) (nC:(n+m)*(bytes+1)<=140737488355328) (q:e∉tys) {K:Option Addr->Nat->Nat->World->Prop}
  (h:∀A' c' b,aF b B e A' (n+m) c' sz (rows++more)->w.grownBy b (Value.ownBlock (.slice A n c))->Below B w b->K A' (n+m) c' b):
  ae Tryz.prog (Builtin.append_ #[t,t] ty #[.slice A n c,.slice A2 m c2]) B0 tys w fun r b=>∃A n c,r= .slice A n c/\K A n c b:=by
 cases A2 with
 |some a=>
  refine uc el l ho g hm o h1 hB nC q fun A' c' b x j E=>h A' c' b x j ?_
  exact bN j (fun k y=>(ho.1.lt k y).1) hB
 |none=>
  have:=g.rp;subst this;have d:m=0:=by rw[<-hm];rfl
  subst d;rw[hz rfl];obtain⟨i,z,C,F,G,H,I⟩:=el.info;have D:=run_append_owned_none (P:=Tryz.prog) (w:=w) B t ty e i sz el.Ht C _ _ _ ho.1;refine⟨_,w,D,Below.refl _ _,fs _,fun _ _ _ _ _=>rfl,A,n,c,rfl,?_⟩;exact h A c w (by rw[u1];exact ho) ⟨rfl,rfl,rfl,fs _,fun _ _ _=>rfl⟩ (Below.refl _ _)

def vR(s:ByteArray):Bool:=lX (cM s)
def qR(s:ByteArray):Rat:=xD (cM s)
theorem gV{s:ByteArray}(h:vR s=true):s=rS (qR s):=by
 unfold rS qR;rw[FI h];rfl
theorem lC{s:ByteArray}{k:Nat}(h:vR s=true)(hs:s.size<=k):Sm k (qR s):=by
 refine Sm.text ?_;unfold qR;rw[FI h];exact hs
theorem acL(r:Rat):qR (rS r)=r:=xE r
abbrev mc(s:ByteArray):Prop:=s.size<=1000
theorem s0:(⟨#[48]⟩:ByteArray)=rS 0:=by
 unfold rS pT;have h1:(0:Rat).den=1:=rfl;have a:(0:Rat).num=0:=rfl;rw[bm h1,a,acB];rfl
theorem Sm.zero{k:Nat}(h:1<=k):Sm k 0:=by
 have hp:10^1<=10^k:=ft om h;have h1:(0:Rat).den=1:=rfl;have a:(0:Rat).num=0:=rfl;exact⟨by rw[a];simp;omega,om⟩

theorem Qy(z:Int):iS z=rS (z:Rat):=by
 unfold rS pT;have h1:(z:Rat).den=1:=rfl;have a:(z:Rat).num=z:=rfl;rw[bm h1,a];rfl
def BS(x:Rat):Rat:=if x<0 then -x else x
theorem Sm.abs{k:Nat}{x:Rat}(h:Sm k x):Sm k (BS x):=by
 unfold BS;split
 ·exact h.neg
 ·exact h
theorem ny:El Tryz.prog 29 88 1 16:=El.of kF

theorem mc.xf{s:ByteArray}(hs:mc s)(h:vR s=true):kG (qR s):=(lC h hs).mono om

structure Pa where
 id:Int
 aV:Int
 cls:Int
 name:ByteArray
 iz:ByteArray
 uX:ByteArray
 fT:ByteArray
structure Ho where
 id:Int
 name:ByteArray
 room:ByteArray
 oh:ByteArray
 x:ByteArray
 y:ByteArray
 z:ByteArray
structure Sw where
 hold:Int
 aw:Int
 aV:Int
 deriving DecidableEq

def vP(p:Pa):Bool:=vR p.iz&&vR p.uX&&vR p.fT
def vH(h:Ho):Bool:=vR h.room&&vR h.oh&&vR h.x&&vR h.y&&vR h.z
def ot{α:Type}(f:Option α->α->Int):Option α->List α->Int
 |_,[]=>0
 |p,x::r=>if f p x≠0 then f p x else ot f (some x) r
def ou(prev:Option Pa)(p:Pa):Int:=
 if ¬((1<=p.id/\p.id<=1073741824)/\(1<=p.aV/\p.aV<=9)/\(1<=p.cls/\p.cls<=9)/\0<qR p.iz/\0<qR p.uX/\¬qR p.fT<0)then 2
 else if ¬(1<=p.name.size/\p.name.size<=64)then 4
 else if ∃q,prev=some q/\p.id<=q.id then 5 else 0
def pt(prev:Option Ho)(h:Ho):Int:=
 if ¬((1<=h.id/\h.id<=1073741824)/\¬qR h.room<0/\¬qR h.oh<0)then 2
 else if ¬(1<=h.name.size/\h.name.size<=64)then 4
 else if ∃q,prev=some q/\h.id<=q.id then 5 else 0
def eZ(ps:List Pa)(hs:List Ho):Int:=
 if ¬(ps.all vP=true/\hs.all vH=true)then 1
 else if 6<ps.length∨6<hs.length then 8
 else if ot ou none ps≠0 then ot ou none ps else ot pt none hs

def qX(ps:List Pa)(id:Int):Option Nat:=ps.findIdx? fun p=>decide (p.id=id)
def vX(hs:List Ho)(id:Int):Option Nat:=hs.findIdx? fun h=>decide (h.id=id)
def fC(a b:Sw):Prop:=a.hold<b.hold∨a.hold=b.hold/\a.aw<b.aw
instance (a b:Sw):Decidable (fC a b):=by unfold fC;exact inferInstance
def cS(l:List Sw)(p:Int):Int:=(l.map fun s=>if s.aw=p then s.aV else 0).sum
def ru(ps:List Pa)(hs:List Ho)(pre:List Sw)(s:Sw):Int:=
 match qX ps s.aw,vX hs s.hold with
 |some i,some _=>
  if s.aV<1 then 2
  else if ∃q,pre.getLast? =some q/\¬fC q s then 5
  else match ps[i]? with
   |some p=>if p.aV<s.aV∨p.aV<cS (pre++[s]) s.aw then 12 else 0
   |none=>0
 |_,_=>7
def nL(ps:List Pa)(hs:List Ho):List Sw->List Sw->Int
 |_,[]=>0
 |pre,s::r=>if ru ps hs pre s≠0 then ru ps hs pre s else nL ps hs (pre++[s]) r
def gY(ps:List Pa)(hs:List Ho)(l:List Sw):Int:=if eZ ps hs≠0 then 1 else nL ps hs [] l

structure BU (ps:List Pa) (hs:List Ho):Prop where
 vp:∀p∈ps,vP p=true
 vh:∀h∈hs,vH h=true
 lp:ps.length<=6
 lh:hs.length<=6
 p1:∀p∈ps,(1<=p.id/\p.id<=1073741824)/\(1<=p.aV/\p.aV<=9)/\(1<=p.cls/\p.cls<=9)/\0<qR p.iz/\0<qR p.uX/\¬qR p.fT<0
 h1:∀h∈hs,(1<=h.id/\h.id<=1073741824)/\¬qR h.room<0/\¬qR h.oh<0
 ip:ps.Pairwise fun a b=>a.id<b.id
 ih:hs.Pairwise fun a b=>a.id<b.id
theorem zl{α:Type}{f:Option α->α->Int}{id:α->Int}{G:α->Prop}(hf:∀p x,f p x=0->G x/\∀q,p=some q->id q<id x):
  ∀(l:List α)(p:Option α),ot f p l=0->(∀x∈l,G x)/\l.Pairwise (fun a b=>id a<id b)/\(∀q,p=some q->∀x∈l,id q<id x):=by
 intro l;induction l with
 |nil=>intro p _;exact⟨sm,List.Pairwise.nil,sm⟩
 |cons x r ih=>
  intro p h;rw[ot]at h;by_cases c:f p x=0
  ·rw[aq (fun k=>k c)]at h;obtain⟨h1,e,d⟩:=ih (some x) h;obtain⟨g1,g2⟩:=hf p x c;refine⟨?_,B6.2 ⟨fun y hy=>d x rfl y hy,e⟩,fun q g y hy=> ?_⟩
   ·intro y hy;rcases cy.1 hy with rfl|hy
    ·exact g1
    ·exact h1 y hy
   ·have hx:=g2 q g;rcases cy.1 hy with rfl|hy
    ·exact hx
    ·exact Int.lt_trans hx (d x rfl y hy)
  ·rw[bm c]at h;exact absurd h c
theorem HW(p:Option Pa)(x:Pa)(h:ou p x=0):((1<=x.id/\x.id<=1073741824)/\(1<=x.aV/\x.aV<=9)/\(1<=x.cls/\x.cls<=9)/\0<qR x.iz/\0<qR x.uX/\¬qR x.fT<0)/\∀q,p=some q->q.id<x.id:=by
 unfold ou at h;split at h
 ·simp at h
 ·rename_i h1;split at h
  ·simp at h
  ·split at h
   ·simp at h
   ·rename_i a;refine⟨ek.1 h1,fun q b=> ?_⟩;apply bx;intro k;exact a ⟨q,b,om⟩
theorem HX(p:Option Ho)(x:Ho)(h:pt p x=0):((1<=x.id/\x.id<=1073741824)/\¬qR x.room<0/\¬qR x.oh<0)/\∀q,p=some q->q.id<x.id:=by
 unfold pt at h;split at h
 ·simp at h
 ·rename_i h1;split at h
  ·simp at h
  ·split at h
   ·simp at h
   ·rename_i a;refine⟨ek.1 h1,fun q b=> ?_⟩;apply bx;intro k;exact a ⟨q,b,om⟩
theorem me{ps:List Pa}{hs:List Ho}(h:eZ ps hs=0):BU ps hs:=by
 unfold eZ at h;split at h
 ·simp at h
 ·rename_i h1;have h1:=ek.1 h1;split at h
  ·simp at h
  ·rename_i e;split at h
   ·rename_i a;exact absurd h a
   ·rename_i a;have a:=ek.1 a;obtain⟨b,a2,_⟩:=zl HW ps none a;obtain⟨c,d,_⟩:=zl HX hs none h;exact⟨gu.1 h1.1,gu.1 h1.2,om,om,b,c,a2,d⟩

theorem gG{ps:List Pa}{id:Int}{i:Nat}(h:qX ps id=some i):∃p,ps[i]? =some p/\p.id=id:=by
 unfold qX at h;obtain⟨hi,hp,_⟩:=rr.1 h;exact⟨ps[i],af hi,fk hp⟩
theorem pv{hs:List Ho}{id:Int}{i:Nat}(h:vX hs id=some i):∃p,hs[i]? =some p/\p.id=id:=by
 unfold vX at h;obtain⟨hi,hp,_⟩:=rr.1 h;exact⟨hs[i],af hi,fk hp⟩
theorem Az{α:Type}{f:α->Int}{l:List α}(h:l.Pairwise fun a b=>f a<f b){i j:Nat}{a b:α}(c:i<j)(ha:l[i]? =some a)(hb:l[j]? =some b):f a<f b:=by
 obtain⟨hi,rfl⟩:=eh.1 ha;obtain⟨hj,rfl⟩:=eh.1 hb;exact List.pairwise_iff_getElem.1 h i j hi hj c
theorem pw{α:Type}{f:α->Int}{l:List α}(h:l.Pairwise fun a b=>f a<f b){i j:Nat}{a b:α}(ha:l[i]? =some a)(hb:l[j]? =some b)(e:f a=f b):i=j:=by
 rcases Nat.lt_trichotomy i j with k|k|k
 ·have:=Az h k ha hb;omega
 ·exact k
 ·have:=Az h k hb ha;omega
theorem YO{ps:List Pa}(h:ps.Pairwise fun a b=>a.id<b.id){i:Nat}{p:Pa}(hp:ps[i]? =some p):qX ps p.id=some i:=by
 cases hx:qX ps p.id with
 |none=>
  unfold qX at hx;have:=FV.1 hx p (gb hp);simp at this
 |some j=>
  obtain⟨q,c,e⟩:=gG hx;rw[pw h c hp e]
theorem YP{hs:List Ho}(h:hs.Pairwise fun a b=>a.id<b.id){i:Nat}{p:Ho}(hp:hs[i]? =some p):vX hs p.id=some i:=by
 cases hx:vX hs p.id with
 |none=>
  unfold vX at hx;have:=FV.1 hx p (gb hp);simp at this
 |some j=>
  obtain⟨q,c,e⟩:=pv hx;rw[pw h c hp e]

def sD(l:List Sw):Prop:=l.Pairwise fC
theorem uY{a b c:Sw}(h:fC a b)(k:fC b c):fC a c:=by unfold fC at*;omega
theorem BV(a:Sw):¬fC a a:=by unfold fC;omega
theorem DN{a b:Sw}(h:fC a b):¬fC b a:=by unfold fC at*;omega
theorem Uk:∀{l1 c:List Sw},sD l1->sD c->(∀x,x∈l1↔x∈c)->l1=c:=by
 intro l1;induction l1 with
 |nil=>
  intro c _ _ h;cases c with
  |nil=>rfl
  |cons b r=>exact absurd ((h b).2 sm) sm
 |cons a r ih=>
  intro c h1 d h;cases c with
  |nil=>exact absurd ((h a).1 sm) sm
  |cons b s=>
   obtain⟨p1,q1⟩:=B6.1 h1;obtain⟨p2,g⟩:=B6.1 d;have e:a=b:=by
    rcases cy.1 ((h a).1 sm)with e|k
    ·exact e
    ·rcases cy.1 ((h b).2 sm)with e|i
     ·exact e.symm
     ·exact absurd (p1 b i) (DN (p2 a k))
   subst e;rw[ih q1 g fun x=> ?_];constructor
   ·intro hx;rcases cy.1 ((h x).1 (by simp[hx]))with e|k
    ·subst e;exact absurd (p1 x hx) (BV x)
    ·exact k
   ·intro hx;rcases cy.1 ((h x).2 (by simp[hx]))with e|k
    ·subst e;exact absurd (p2 x hx) (BV x)
    ·exact k
theorem Ul{l:List Sw}(h:sD l){a b:Sw}(ha:a∈l)(hb:b∈l)(g:a.hold=b.hold)(i:a.aw=b.aw):a=b:=by
 induction l with
 |nil=>cases ha
 |cons x r ih=>
  obtain⟨p,q⟩:=B6.1 h;rcases cy.1 ha with e|d
  ·rcases cy.1 hb with k|c
   ·rw[e,k]
   ·have:=p b c;rw[<-e]at this;unfold fC at this;omega
  ·rcases cy.1 hb with k|c
   ·have:=p a d;rw[<-k]at this;unfold fC at this;omega
   ·exact ih q d c

structure eJ (ps:List Pa) (hs:List Ho) (l:List Sw):Prop where
 c:BU ps hs
 known:∀s∈l,∃i k,qX ps s.aw=some i/\vX hs s.hold=some k
 pos:∀s∈l,1<=s.aV
 Kw:sD l
 full:∀p∈ps,cS l p.id<=p.aV
theorem fU(a b:List Sw)(p:Int):cS (a++b) p=cS a p+cS b p:=by
 unfold cS;rw[eL,List.sum_append]
theorem mH(s:Sw)(p:Int):cS [s] p=if s.aw=p then s.aV else 0:=by
 simp[cS]
theorem jd{l:List Sw}(h:∀s∈l,1<=s.aV)(p:Int):0<=cS l p:=by
 induction l with
 |nil=>simp[cS]
 |cons s r ih=>
  rw[show s::r=[s]++r from rfl,fU,mH];have:=ih fun x hx=>h x (by simp[hx])
  have:=h s sm;split<;>omega
theorem zm{ps:List Pa}{hs:List Ho}(o:BU ps hs):∀(r pre:List Sw),eJ ps hs pre->nL ps hs pre r=0->eJ ps hs (pre++r):=by
 intro r;induction r with
 |nil=>intro pre h _;simpa using h
 |cons s r ih=>
  intro pre h d;rw[nL]at d;by_cases h1:ru ps hs pre s=0
  ·rw[aq (fun k=>k h1)]at d;have:=ih (pre++[s]) ?_ d
   ·rw[ky]at this;exact this
   ·unfold ru at h1;cases hp:qX ps s.aw with
    |none=>rw[hp]at h1;simp at h1
    |some i=>
     cases l:vX hs s.hold with
     |none=>rw[hp,l]at h1;simp at h1
     |some k=>
      rw[hp,l]at h1;simp only at h1;split at h1
      ·simp at h1
      ·rename_i hu;split at h1
       ·simp at h1
       ·rename_i hb;obtain⟨p,m,hid⟩:=gG hp;rw[m]at h1;simp only at h1;split at h1
        ·simp at h1
        ·rename_i A;refine⟨o,fun x hx=> ?_,fun x hx=> ?_,?_,fun q w=> ?_⟩
         ·rcases ga.1 hx with hx|hx
          ·exact h.known x hx
          ·rw[ec]at hx;subst hx;exact⟨i,k,hp,l⟩
         ·rcases ga.1 hx with hx|hx
          ·exact h.pos x hx
          ·rw[ec]at hx;subst hx;omega
         ·refine LN.2 ⟨h.Kw,sm,fun a ha b g=> ?_⟩;rw[ec]at g;subst g;have c:pre≠[]:=fun e=>by subst e;cases ha
          have y:pre.getLast? =some (pre.getLast c):=IE c;have hl:fC (pre.getLast c) b:=by
           apply bx;intro k;exact hb ⟨_,y,k⟩
          have z:=yd c;have n:=h.Kw;unfold sD at n;rw[<-z]at n ha;rcases ga.1 ha with ha|ha
          ·exact uY ((LN.1 n).2.2 a ha _ sm) hl
          ·rw[ec]at ha;rw[ha];exact hl
         ·by_cases e:q.id=s.aw
          ·obtain⟨j,hj⟩:=List.getElem?_of_mem w;have:j=i:=pw o.ip hj m (by rw[hid];exact e);subst this;rw[m]at hj;cases hj;rw[e];omega
          ·rw[fU,mH,aq (fun k=>e k.symm)];have:=h.full q w;omega
  ·rw[bm h1]at d;exact absurd d h1
theorem fv{ps:List Pa}{hs:List Ho}{l:List Sw}(h:gY ps hs l=0):eJ ps hs l:=by
 unfold gY at h;split at h
 ·simp at h
 ·rename_i h1;have a:=me (ek.1 h1);have b:eJ ps hs []:=⟨a,sm,sm,List.Pairwise.nil,fun p hp=>by have:=(a.p1 p hp).2.1.1;simp[cS];omega⟩;simpa using zm a l [] b h
theorem HY{l pre:List Sw}(h:∀s∈l,1<=s.aV){rest:List Sw}(e:l=pre++rest)(p:Int):cS pre p<=cS l p:=by
 subst e;rw[fU];have:=jd (l:=rest) (fun s hs=>h s (by simp[hs])) p;omega
def ie(l:List Sw)(h p:Int):Int:=l.foldl (fun n s=>if s.aw=p/\s.hold=h then s.aV else n) 0
theorem uZ(l:List Sw)(s:Sw)(h p:Int):ie (l++[s]) h p=if s.aw=p/\s.hold=h then s.aV else ie l h p:=by
 unfold ie;rw[List.foldl_append];rfl
theorem Qz(h p:Int):∀(l:List Sw)(n:Int),(l.foldl (fun n s=>if s.aw=p/\s.hold=h then s.aV else n) n=n/\∀s∈l,¬(s.aw=p/\s.hold=h))∨∃s∈l,s.aw=p/\s.hold=h/\l.foldl (fun n s=>if s.aw=p/\s.hold=h then s.aV else n) n=s.aV:=by
 intro l;induction l with
 |nil=>intro n;exact .inl ⟨rfl,sm⟩
 |cons x r ih=>
  intro n;rw[Ub];by_cases hx:x.aw=p/\x.hold=h
  ·rw[bm hx];rcases ih x.aV with⟨e,_⟩|⟨s,hs,a,b,c⟩
   ·exact .inr ⟨x,sm,hx.1,hx.2,e⟩
   ·exact .inr ⟨s,by simp[hs],a,b,c⟩
  ·rw[aq hx];rcases ih n with⟨e,k⟩|⟨s,hs,a,b,c⟩
   ·refine .inl ⟨e,fun s hs=> ?_⟩;rcases cy.1 hs with rfl|hs
    ·exact hx
    ·exact k s hs
   ·exact .inr ⟨s,by simp[hs],a,b,c⟩
theorem ry(l:List Sw)(h p:Int):(ie l h p=0/\∀s∈l,¬(s.aw=p/\s.hold=h))∨∃s∈l,s.aw=p/\s.hold=h/\ie l h p=s.aV:=Qz h p l 0
theorem FQ{l:List Sw}(hs:sD l){s:Sw}(h:s∈l):ie l s.hold s.aw=s.aV:=by
 rcases ry l s.hold s.aw with⟨_,k⟩|⟨x,hx,a,b,c⟩
 ·exact absurd ⟨rfl,rfl⟩ (k s h)
 ·rw[c,Ul hs hx h b a]
theorem BW{l:List Sw}{h p:Int}(k:∀s∈l,¬(s.aw=p/\s.hold=h)):ie l h p=0:=by
 rcases ry l h p with⟨e,_⟩|⟨x,hx,a,b,_⟩
 ·exact e
 ·exact absurd ⟨a,b⟩ (k x hx)
theorem BX{l:List Sw}(hp:∀s∈l,1<=s.aV)(h p:Int):0<=ie l h p:=by
 rcases ry l h p with⟨e,_⟩|⟨x,hx,_,_,e⟩
 ·omega
 ·have:=hp x hx;omega

def zN(f:Nat->Nat->Int)(ps:List Pa)(hs:List Ho)(k i:Nat):List Sw:=
 match hs[k]?,ps[i]? with
 |some h,some p=>if 0<f i k then[⟨h.id,p.id,f i k⟩]else[]
 |_,_=>[]
def oz(f:Nat->Nat->Int)(ps:List Pa)(hs:List Ho):List Sw:=(List.range hs.length).flatMap fun k=>(List.range ps.length).flatMap fun i=>zN f ps hs k i
theorem xK{f:Nat->Nat->Int}{ps:List Pa}{hs:List Ho}{k i:Nat}{s:Sw}:s∈zN f ps hs k i↔∃h p,hs[k]? =some h/\ps[i]? =some p/\0<f i k/\s=⟨h.id,p.id,f i k⟩:=by
 unfold zN;constructor
 ·intro hm;split at hm
  ·rename_i h p a b;split at hm
   ·rename_i c;rw[ec]at hm;exact⟨h,p,a,b,c,hm⟩
   ·cases hm
  ·cases hm
 ·rintro⟨h,p,a,b,c,rfl⟩;rw[a,b];simp[c]
theorem oY{f:Nat->Nat->Int}{ps:List Pa}{hs:List Ho}{s:Sw}:s∈oz f ps hs↔∃k i h p,hs[k]? =some h/\ps[i]? =some p/\0<f i k/\s=⟨h.id,p.id,f i k⟩:=by
 unfold oz;simp only[Pf,CA,xK];constructor
 ·rintro⟨k,e,i,hi,h,p,a,b,c,d⟩;exact⟨k,i,h,p,a,b,c,d⟩
 ·rintro⟨k,i,h,p,a,b,c,d⟩;exact⟨k,(eh.1 a).1,i,(eh.1 b).1,h,p,a,b,c,d⟩
theorem DO{f:Nat->Nat->Int}{ps:List Pa}{hs:List Ho}(hp:ps.Pairwise fun a b=>a.id<b.id)(m:hs.Pairwise fun a b=>a.id<b.id):sD (oz f ps hs):=by
 unfold sD oz;rw[List.pairwise_flatMap];refine⟨fun k _=> ?_,?_⟩
 ·rw[List.pairwise_flatMap];refine⟨fun i _=> ?_,?_⟩
  ·unfold zN;split
   ·split<;>simp
   ·simp
  ·refine List.Pairwise.imp ?_ List.pairwise_lt_range;intro i j d x hx y hy;obtain⟨h,p,e,g,_,rfl⟩:=xK.1 hx;obtain⟨n,o,c,l,_,rfl⟩:=xK.1 hy;rw[e]at c;cases c;exact .inr ⟨rfl,Az hp d g l⟩
 ·refine List.Pairwise.imp ?_ List.pairwise_lt_range;intro i j d x hx y hy;obtain⟨a,_,hx⟩:=Pf.1 hx;obtain⟨b,_,hy⟩:=Pf.1 hy;obtain⟨h,p,e,g,_,rfl⟩:=xK.1 hx;obtain⟨n,o,c,l,_,rfl⟩:=xK.1 hy;exact .inl (Az m d e c)
def fA(ps:List Pa)(hs:List Ho)(l:List Sw)(i k:Nat):Int:=
 match hs[k]?,ps[i]? with
 |some h,some p=>ie l h.id p.id
 |_,_=>0
theorem WI{ps:List Pa}{hs:List Ho}{l:List Sw}{i k:Nat}{h:Ho}{p:Pa}(a:hs[k]? =some h)(b:ps[i]? =some p):fA ps hs l i k=ie l h.id p.id:=by
 unfold fA;rw[a,b]
theorem Kx{ps:List Pa}{hs:List Ho}{l:List Sw}(h:eJ ps hs l){f:Nat->Nat->Int}(hf:∀i k,i<ps.length->k<hs.length->f i k=fA ps hs l i k):oz f ps hs=l:=by
 refine Uk (DO h.c.ip h.c.ih) h.Kw fun s=> ?_
 rw[oY];constructor
 ·rintro⟨k,i,d,p,a,b,j,rfl⟩;have e:=hf i k (eh.1 b).1 (eh.1 a).1;rw[WI a b]at e;rw[e]at j⊢;rcases ry l d.id p.id with⟨r,_⟩|⟨x,hx,m,n,o⟩
  ·omega
  ·rw[o,<-m,<-n];exact hx
 ·intro g;obtain⟨i,k,hi,q⟩:=h.known s g;obtain⟨p,b,i2⟩:=gG hi;obtain⟨d,a,i1⟩:=pv q;have e:=hf i k (eh.1 b).1 (eh.1 a).1;rw[WI a b,i1,i2,FQ h.Kw g]at e;refine⟨k,i,d,p,a,b,?_,?_⟩
  ·rw[e];have:=h.pos s g;omega
  ·rw[e,i1,i2]

def Ky(l:List Sw)(s:Sw):List Sw:=l.filter (fun x=>decide (fC x s))++(if 0<s.aV then[s]else[])++l.filter (fun x=>decide (fC s x))
def zO(ps:List Pa)(hs:List Ho)(l:List Sw)(w:Sw):Except Int (List Sw):=
 if gY ps hs l≠0 then .error 1
 else match qX ps w.aw,vX hs w.hold with
  |some i,some _=>
   if w.aV=0∨w.aV< -9∨9<w.aV then .error 2
   else if ie l w.hold w.aw+w.aV<0 then .error 11
   else match ps[i]? with
    |some p=>if p.aV<cS l w.aw+w.aV then .error 12 else .ok (Ky l ⟨w.hold,w.aw,ie l w.hold w.aw+w.aV⟩)
    |none=> .error 0
  |_,_=> .error 7
structure acM (ps:List Pa) (hs:List Ho) (l:List Sw) (w:Sw) (m:List Sw):Prop where
 r:eJ ps hs l
 c:eZ ps hs=0
 at_:∃i k p h,qX ps w.aw=some i/\vX hs w.hold=some k/\ps[i]? =some p/\p.id=w.aw/\hs[k]? =some h/\h.id=w.hold/\cS l w.aw+w.aV<=p.aV
 u:¬(w.aV=0∨w.aV< -9∨9<w.aV)
 n:0<=ie l w.hold w.aw+w.aV
 e:m=Ky l ⟨w.hold,w.aw,ie l w.hold w.aw+w.aV⟩
theorem YR{ps:List Pa}{hs:List Ho}{l m:List Sw}{w:Sw}(h:zO ps hs l w= .ok m):acM ps hs l w m:=by
 unfold zO at h;split at h
 ·cases h
 ·rename_i h1;have h1:=ek.1 h1;have c:eZ ps hs=0:=by
   unfold gY at h1;split at h1
   ·simp at h1
   ·rename_i k;exact ek.1 k
  split at h
  ·rename_i i k hi a;split at h
   ·cases h
   ·rename_i hu;split at h
    ·cases h
    ·rename_i hn;obtain⟨p,b,i2⟩:=gG hi;obtain⟨d,e,i1⟩:=pv a;rw[b]at h;simp only at h;split at h
     ·cases h
     ·rename_i hf;cases h;exact⟨fv h1,c,⟨i,k,p,d,hi,a,b,i2,e,i1,om⟩,hu,om,rfl⟩
  ·cases h
def mf(hs:List Ho)(g:Int->Int):Int:=(hs.map fun h=>g h.id).sum
theorem Nl{hs:List Ho}{g c:Int->Int}{a:Int}{d:Int}(i:hs.Pairwise fun a b=>a.id<b.id)(h1:∀h∈hs,h.id≠a->c h.id=g h.id)(j:c a=g a+d)(hm:∃h∈hs,h.id=a):mf hs c=mf hs g+d:=by
 unfold mf;induction hs with
 |nil=>obtain⟨h,hx,_⟩:=hm;cases hx
 |cons x r ih=>
  obtain⟨q1,l⟩:=B6.1 i;rw[yq,yq,vv,vv];by_cases e:x.id=a
  ·have m:(r.map fun h=>c h.id)=r.map fun h=>g h.id:=List.map_congr_left fun y hy=>h1 y (by simp[hy]) (by have:=q1 y hy;omega)
   rw[m,e,j];omega
  ·obtain⟨h,hx,he⟩:=hm;rcases cy.1 hx with k|hx
   ·subst k;exact absurd he e
   ·rw[h1 x sm e,ih l (fun y hy=>h1 y (by simp[hy])) ⟨h,hx,he⟩];omega
theorem holds_zero{hs:List Ho}{g:Int->Int}(h:∀x∈hs,g x.id=0):mf hs g=0:=by
 unfold mf;induction hs with
 |nil=>rfl
 |cons x r ih=>rw[yq,vv,h x sm,ih fun y hy=>h y (by simp[hy])];rfl
theorem HZ{hs:List Ho}(i:hs.Pairwise fun a b=>a.id<b.id)(p:Int):∀{l:List Sw},sD l->(∀s∈l,∃h∈hs,h.id=s.hold)->cS l p=mf hs fun a=>ie l a p:=by
 suffices H:∀(n:Nat)(l:List Sw),l.length=n->sD l->(∀s∈l,∃h∈hs,h.id=s.hold)->cS l p=mf hs fun a=>ie l a p from fun {l} h1 j=>H l.length l rfl h1 j
 intro n;induction n with
 |zero=>
  intro l hl _ _;have:l=[]:=ew hl;subst this;rw[holds_zero fun x _=>rfl];rfl
 |succ n ih=>
  intro l hl d g;have c:l≠[]:=fun e=>by subst e;cases hl
  obtain⟨r,s,rfl⟩:∃r s,l=r++[s]:=⟨l.dropLast,l.getLast c,(yd c).symm⟩
  have m:sD r:=(LN.1 d).1;rw[fU,mH,ih r (by simpa using hl) m fun x hx=>g x (by simp[hx])];by_cases e:s.aw=p
  ·rw[bm e];refine(Nl (a:=s.hold) i (fun h _ c=> ?_) ?_ (g s sm)).symm
   ·rw[uZ,aq (fun k=>c k.2.symm)]
   ·rw[uZ,bm ⟨e,rfl⟩,BW,Int.zero_add];intro x hx o;have:=(LN.1 d).2.2 x hx s sm;unfold fC at this;omega
  ·rw[aq e,Int.add_zero];unfold mf;refine ca List.sum (List.map_congr_left fun h _=> ?_);show ie r h.id p=ie (r++[s]) h.id p;rw[uZ,aq (fun k=>e k.1)]

def pU(a:List Int)(n i k:Nat):Int:=a.getD (i*n+k) 0
def dF(ps:List Pa)(hs:List Ho)(l:List Sw):List Int:=ps.flatMap fun p=>hs.map fun h=>ie l h.id p.id
theorem Ia{α β:Type}{f:α->List β}{n:Nat}:∀{l:List α},(∀x∈l,(f x).length=n)->(l.flatMap f).length=l.length*n/\∀(i k:Nat)(x:α),l[i]? =some x->k<n->(l.flatMap f)[i*n+k]? =(f x)[k]? :=by
 intro l;induction l with
 |nil=>intro _;exact⟨sm,sm⟩
 |cons y r ih=>
  intro h;have hy:=h y sm;obtain⟨h1,a⟩:=ih fun x hx=>h x (by simp[hx])
  refine⟨by rw[tJ,en,h1,hy,eR,nG];omega,fun i k x hx b=> ?_⟩;rw[tJ];cases i with
  |zero=>
   simp at hx;subst hx;rw[RN,jx,gv om]
  |succ i=>
   rw[hN (by rw[hy,nG];omega),hy,show(i+1)*n+k - n=i*n+k by rw[nG];omega];exact a i k x (by simpa using hx) b
theorem iC(ps:List Pa)(hs:List Ho)(l:List Sw):(dF ps hs l).length=ps.length*hs.length:=(Ia fun x _=>by simp).1
theorem qe{ps:List Pa}{hs:List Ho}{l:List Sw}{i k:Nat}{p:Pa}{h:Ho}(b:ps[i]? =some p)(a:hs[k]? =some h):(dF ps hs l)[i*hs.length+k]? =some (ie l h.id p.id):=by
 have c:=(eh.1 a).1;unfold dF;rw[(Ia (n:=hs.length) fun x _=>by simp).2 i k p b c,hM,a];rfl
theorem yD{m n:Nat}{a b:List Int}(ha:a.length=m*n)(hb:b.length=m*n)(h:∀i k,i<m->k<n->a[i*n+k]? =b[i*n+k]?):a=b:=by
 refine zy fun j=> ?_
 by_cases hj:j<m*n
 ·have hn:0<n:=by
   apply Nat.pos_of_ne_zero;intro e;subst e;simp at hj
  have e:j / n*n+j % n=j:=by rw[Cb];exact Db j n
  have:=h (j / n) (j % n) ((OT hn).2 hj) (IQ _ hn);rwa [e]at this
 ·rw[hJ om,hJ om]

def xL:Int->List Int->Bool
 |_,[]=>false
 |left,n::r=>if left<n then true else xL (left - n) r
theorem Ib:∀{r:List Int} {left:Int},(∀n∈r,0<=n)->(xL left r=false↔(r=[]∨r.sum<=left)):=by
 intro r;induction r with
 |nil=>intro left _;simp[xL]
 |cons n r ih=>
  intro left h;have c:=h n sm;have b:∀m∈r,0<=m:=fun m hm=>h m (by simp[hm])
  have hs:0<=r.sum:=by
   clear ih h;induction r with
   |nil=>simp
   |cons a s ih=>rw[vv];have:=b a sm;have:=ih fun m hm=>b m (by simp[hm]);omega
  unfold xL;by_cases hn:left<n
  ·rw[bm hn];simp;omega
  ·rw[aq hn,ih b];simp only[vv,reduceCtorEq,false_or];constructor
   ·rintro(e|e)
    ·subst e;simp;omega
    ·omega
   ·intro e;exact .inr om
def tA(a:List Int)(n i:Nat):List Int:=(a.drop (i*n)).take n
def DQ(ps:List Pa)(hs:List Ho)(a:List Int):Bool:=(List.range ps.length).any fun i=>match ps[i]? with|some p=>xL p.aV (tA a hs.length i)|none=>false
def rz(ps:List Pa)(hs:List Ho)(a:List Int):Except Int (List Sw):=
 if eZ ps hs≠0 then .error 1
 else if a.length≠ps.length*hs.length then .error 10
 else if a.any (fun n=>decide (n<0))=true then .error 2
 else if DQ ps hs a=true then .error 12
 else .ok (oz (pU a hs.length) ps hs)
theorem FR{a:List Int}{m n i k:Nat}(ha:a.length=m*n)(hi:i<m)(c:k<n):(tA a n i)[k]? =some (pU a n i k):=by
 unfold tA pU;have b:i*n+k<a.length:=by
  rw[ha];have:(i+1)*n<=m*n:=gr n hi;rw[nG]at this;omega
 rw[jv,bm c,kp,cb,af b];rfl
theorem Ml{a:List Int}{m n i:Nat}(ha:a.length=m*n)(hi:i<m):(tA a n i).length=n:=by
 unfold tA;have:(i+1)*n<=m*n:=gr n hi;rw[nG]at this;rw[eH,sH];omega
theorem Nn{ps:List Pa}{hs:List Ho}{a:List Int}{i:Nat}{g:Int->Int}(ha:a.length=ps.length*hs.length)(hi:i<ps.length)(hg:∀k h,hs[k]? =some h->g h.id=pU a hs.length i k):tA a hs.length i=hs.map fun h=>g h.id:=by
 refine zy fun k=> ?_
 by_cases b:k<hs.length
 ·have e:=af b;rw[FR ha hi b,hM,e,Um,hg k _ e]
 ·rw[hJ (by rw[Ml ha hi];omega),hJ (by simp;omega)]

theorem Un{ps:List Pa}{hs:List Ho}{a:List Int}{x:List Sw}(h:rz ps hs a= .ok x):eZ ps hs=0/\eJ ps hs x/\dF ps hs x=a:=by
 unfold rz at h;split at h
 ·cases h
 ·rename_i h1;have h1:=ek.1 h1;split at h
  ·cases h
  ·rename_i r;have r:=ek.1 r;split at h
   ·cases h
   ·rename_i E;split at h
    ·cases h
    ·rename_i y;cases h;have e:=me h1;have F:∀n∈a,0<=n:=fun n hn=>by
      rw[Pg,wJ]at E;have:=E n hn;simp at this;omega
     have hg:∀i k,i<ps.length->k<hs.length->0<=pU a hs.length i k:=fun i k hi j=>by
      have:=FR r hi j;have hm:pU a hs.length i k∈tA a hs.length i:=gb this;unfold tA at hm;exact F _ (vn (k7 hm))
     have z:=DO (f:=pU a hs.length) e.ip e.ih;have w:∀(i k:Nat)(p:Pa)(h:Ho),ps[i]? =some p->hs[k]? =some h->ie (oz (pU a hs.length) ps hs) h.id p.id=pU a hs.length i k:=by
      intro i k p h c d;have H:=hg i k (eh.1 c).1 (eh.1 d).1;by_cases l:0<pU a hs.length i k
      ·exact FQ z (oY.2 ⟨k,i,h,p,d,c,l,rfl⟩)
      ·rw[BW,show pU a hs.length i k=0 by omega];intro s o j;obtain⟨K,L,M,N,A,B,C,rfl⟩:=oY.1 o;simp only at j;have:=pw e.ip B c j.1;have:=pw e.ih A d j.2
       subst_vars
       exact l C
     have I:eJ ps hs (oz (pU a hs.length) ps hs):=by
      refine⟨e,fun s o=> ?_,fun s o=> ?_,z,fun q G=> ?_⟩
      ·obtain⟨k,i,h,p,d,c,_,rfl⟩:=oY.1 o;exact⟨i,k,YO e.ip c,YP e.ih d⟩
      ·obtain⟨k,i,h,p,d,c,H,rfl⟩:=oY.1 o;simp only;omega
      ·obtain⟨i,c⟩:=List.getElem?_of_mem G;have hi:=(eh.1 c).1;have hu:=HZ e.ih q.id z fun s o=>by
        obtain⟨k,i,h,p,d,c,_,rfl⟩:=oY.1 o;exact⟨h,gb d,rfl⟩
       have J:=Nn (g:=fun b=>ie (oz (pU a hs.length) ps hs) b q.id) r hi fun k h d=>w i k q h c d
       unfold mf at hu;rw[hu,<-J];unfold DQ at y;rw[Pg,wJ]at y;have m:=y i (CA.2 hi);rw[c]at m;simp only at m;rw[Pg,Ib (fun n hn=>by unfold tA at hn;exact F _ (vn (k7 hn)))]at m;rcases m with m|m
       ·rw[m];have:=(e.p1 q G).2.1.1;simp;omega
       ·exact m
     refine⟨h1,I,yD (iC ps hs _) r fun i k hi j=> ?_⟩;have c:ps[i]? =some ps[i]:=af hi;have d:hs[k]? =some hs[k]:=af j;rw[qe c d,w i k _ _ c d];have D:=FR r hi j;unfold tA at D;rw[jv,bm j,kp]at D;exact D.symm

def eE(f:Sw->Rat)(l:List Sw):Rat:=(l.map f).sum
theorem zo(f:Sw->Rat)(a b:List Sw):eE f (a++b)=eE f a+eE f b:=by
 unfold eE;rw[eL];induction a.map f with
 |nil=>simp[Rat.zero_add]
 |cons x r ih=>rw[wo,vv,vv,ih,Rat.add_assoc]
theorem Ic(f:Sw->Rat)(s:Sw):eE f [s]=f s:=by simp[eE,Rat.add_zero]
theorem QA(f:Sw->Rat):eE f []=0:=rfl
end Go.Proofs.YtbcojgcjjpggnaaGreatDoor.B
