/- Part 5 of the proofs that: Each step that was done was approved; folding in two parts is folding at once. -/
import Derived.Test.YtbcojgcjjpggnaaGreatDoorA4
import Derived.Test.YtbcojgcjjpggnaaGreatDoorProg
import Derived.MapKept
set_option linter.unusedVariables false
set_option linter.unusedSimpArgs false
set_option maxRecDepth 100000
set_option maxHeartbeats 4000000
namespace Go.Proofs.YtbcojgcjjpggnaaGreatDoor.F
open Go Go.RowKit Go.Proofs Go.Proofs.YtbcojgcjjpggnaaGreatDoor.Vc
open Tryz
variable {A C D E G H J K A0 A1 A2 A3 A4 A5 A6 A7 A8 A9 C0 C1 C2 C3 C4 C5 C6 C7 C8 C9:O} {a b c d e f g i j l m n o a0 a1 a2 a3 a4 a5 a6 a7 a8 a9 b0 b1 b2 b3 b4 b5 b6 b7 b8 b9 c0 c1 c2 c3 c4 c5 c6 c7 c8 c9:Nat} {p q r s t u v x p0 p1 p2 p3 p4 p5 p6 p7 p8 p9 q0 q1 q2 q3 q4 q5 q6 q7 q8 q9:Int} {L M N N0 N1 N2 N3 N4 N5 N6 N7 N8 N9 T0 T1 T2 T3 T4 T5 T6 T7 T8 T9:ByteArray} {Q S:Bool} {B:Nat} {w:World} {R:Kt}
def dW.cx:Pm:=([],[])
theorem dW.vc
  (h:(Pure P 134 #[.string L] w fun c d=>∃e f a,c= .tuple #[.agg #[.string e,.string f],.bool a]/\(∀b,Ext w.heap.size [] d b->(R (.bool a) b)))):
  Pure P 71 #[.string L] w R:=
 pr dW.cx func71 h

def ja.cx:Pm:=([],[])
theorem ja.vc
  (h:(∀e,Ext w.heap.size [] w e->(Pure P 176 #[.string L,(.string ⟨#[47]⟩)] e fun q f=>∃a b g,q= .tuple #[.string a,.string b,.bool g]/\(Br (g=false) (Pure P 177 #[.string a] f (Rb fun r s=>(∀i,Ext w.heap.size [204] s i->(R (.tuple #[(.agg #[.string a,(.string ⟨#[49]⟩)]),.bool r]) i)))) (Pure P 177 #[.string a] f (Rb fun t d=>(Bb t (Br (a≠(⟨#[48]⟩:ByteArray)) (Pure P 178 #[.string b] d (Rb fun u c=>(Bb u (Br (b≠(⟨#[48]⟩:ByteArray)) (Br (b≠(⟨#[49]⟩:ByteArray)) (Pure P 179 #[.string a,.string b] c (Rt fun v x=>(∀j,Ext w.heap.size [204] x j->(R (.tuple #[.agg #[.string a,.string b],(.bool (decide (v=(⟨#[49]⟩:ByteArray))))]) j)))) (∀l,Ext w.heap.size [204] c l->(R (.tuple #[.agg #[.string a,.string b],.bool false]) l))) (∀m,Ext w.heap.size [204] c m->(R (.tuple #[.agg #[.string a,.string b],.bool false]) m))) (∀n,Ext w.heap.size [204] c n->(R (.tuple #[.agg #[.string a,.string b],.bool false]) n))))) (∀o,Ext w.heap.size [204] d o->(R (.tuple #[.agg #[.string a,.string b],.bool false]) o))) (∀p,Ext w.heap.size [204] d p->(R (.tuple #[.agg #[.string a,.string b],.bool false]) p))))))))):
  Pure P 134 #[.string L] w R:=
 pr ja.cx func134 h

def eD.cx:Pm:=([],[])
theorem eD.vc
  (h:(Pure P 193 #[.string L,.string M] w fun o d=>∃e f g i c,o= .tuple #[.agg #[.string e,.string f],.agg #[.string g,.string i],I c]/\(Br (c≠0) (∀j,Ext w.heap.size [] d j->(R (.tuple #[I 0,I c]) j)) (Br (L=M) (∀l,Ext w.heap.size [] d l->(R (.tuple #[I 0,I c]) l)) (∀m,Ext w.heap.size [] d m->(Pure P 194 #[.agg #[.string e,.string f]] m (Ri fun a p=>(Pure P 194 #[.agg #[.string g,.string i]] p (Ri fun b n=>(Br (a≠b) (aU .i64 (a - b)/\(R (.tuple #[(I (if(if(1:Int)<(a - b)then(1:Int)else(a - b))>(-1:Int)then(if(1:Int)<(a - b)then(1:Int)else(a - b))else(-1:Int))),I 0]) n)) (Pure P 195 #[.string e,.string i] n (rF fun q y r=>(Pure P 195 #[.string g,.string f] r (rF fun s z t=>(Pure P 196 #[.string q,.string s] t (Rii fun u v x=>(R (.tuple #[I u,I v]) x))))))))))))))))):
  Pure P 155 #[.string L,.string M] w R:=
 pr eD.cx func155 h

def gi.cx:Pm:=([],[])
theorem gi.vc
  (h:(Pure P 223 #[.string L] w (rF fun a e b=>(Pure P 224 #[.string a,.string M] b (rF fun c f d=>(R (.string c) d)))))):
  Pure P 179 #[.string L,.string M] w R:=
 pr gi.cx func179 h

def jR.cx:Pm:=([],[])
theorem jR.vc
  (h:(Pure P 233 #[(.int .u8 (45:Int)),.string L,.string M] w (rF fun a b c=>(R (.tuple #[.string a,I b]) c)))):
  Pure P 188 #[.string L,.string M] w R:=
 pr jR.cx func188 h

def iJ.cx:Pm:=([],[])
theorem iJ.vc
  (h:(Pure P 233 #[(.int .u8 (43:Int)),.string L,.string M] w (rF fun a b c=>(R (.tuple #[.string a,I b]) c)))):
  Pure P 189 #[.string L,.string M] w R:=
 pr iJ.cx func189 h

def iK.cx:Pm:=([],[])
theorem iK.vc
  (h:(Pure P 233 #[(.int .u8 (42:Int)),.string L,.string M] w (rF fun a b c=>(R (.tuple #[.string a,I b]) c)))):
  Pure P 190 #[.string L,.string M] w R:=
 pr iK.cx func190 h

def jb.cx:Pm:=([],[])
theorem jb.vc
  (h:(∀f,Ext w.heap.size [] w f->(Pure P 134 #[.string L] f fun p q=>∃b c g,p= .tuple #[.agg #[.string b,.string c],.bool g]/\(∀i,Ext w.heap.size [] q i->(Pure P 134 #[.string M] i fun r a=>∃d e j,r= .tuple #[.agg #[.string d,.string e],.bool j]/\(Br (g=false) (∀l,Ext w.heap.size [204] a l->(R (.tuple #[(.agg #[(.string ⟨#[]⟩),(.string ⟨#[]⟩)]),(.agg #[(.string ⟨#[]⟩),(.string ⟨#[]⟩)]),I 1]) l)) (Br (j=false) (∀m,Ext w.heap.size [204] a m->(R (.tuple #[(.agg #[(.string ⟨#[]⟩),(.string ⟨#[]⟩)]),(.agg #[(.string ⟨#[]⟩),(.string ⟨#[]⟩)]),I 1]) m)) ((∀n,Ext w.heap.size [204] a n->(R (.tuple #[.agg #[.string b,.string c],.agg #[.string d,.string e],I 0]) n))/\(∀o,Ext w.heap.size [204] a o->(R (.tuple #[.agg #[.string b,.string c],.agg #[.string d,.string e],I 0]) o)))))))))):
  Pure P 193 #[.string L,.string M] w R:=
 pr jb.cx func193 h

def kJ.cx:Pm:=([],[])
theorem kJ.vc
  (h:(∀a,Ext w.heap.size [] w a->(Pure P 234 #[.string L] a (Rii fun b d c=>(R (I b) c))))):
  Pure P 194 #[.agg #[.string L,.string M]] w R:=
 pr kJ.cx func194 h

def gp.cx:Pm:=([],[(6,2,2),(6,5,4)])
theorem gp.vc
  (h:(Pure P 193 #[.string L,.string M] w fun k e=>∃b c a d n,k= .tuple #[.agg #[.string b,.string c],.agg #[.string a,.string d],I n]/\(Br (n≠0) (∀F,Ext w.heap.size [] e F->(R (.tuple #[(.string ⟨#[]⟩),I n]) F)) (Br (p=47) (Br (a=(⟨#[48]⟩:ByteArray)) (∀W,Ext w.heap.size [] e W->(R (.tuple #[(.string ⟨#[]⟩),I 16]) W)) ((∀d2,Ext w.heap.size [] e d2->(Pure P 270 #[] d2 fun v1 i=>∃(f:Option Nat),v1= .map f/\((ae P (Instr.lookup 332 (.map f) (.int .u8 p) false) w.heap.size [204,204] i fun v2 d3=>∃(j:Nat)(o q:Array Value),v2= .func (.func j) o q/\((ay P j=true/\(Pure P j ((Array.toList o)++([.agg #[.string b,.string c],.agg #[.string a,.string d]]:List Value)++(Array.toList q)).toArray d3 fun v3 v4=>∃d4 d5,v3= .agg #[.string d4,.string d5]/\(Pure P 271 #[.agg #[.string d4,.string d5]] v4 (Rt fun v5 v6=>(R (.tuple #[.string v5,I 0]) v6)))))/\(ay P j=true/\(Pure P j ((Array.toList o)++([.agg #[.string b,.string c],.agg #[.string a,.string d]]:List Value)++(Array.toList q)).toArray d3 fun v7 v8=>∃d6 d7,v7= .agg #[.string d6,.string d7]/\(Pure P 271 #[.agg #[.string d6,.string d7]] v8 (Rt fun v9 x0=>(R (.tuple #[.string v9,I 0]) x0)))))))/\(((ae P (Instr.lookup 332 (.map f) (.int .u8 p) false) w.heap.size [204,204] i fun x1 x2=>∃(r:Nat)(d8 d9:Array Value),x1= .func (.func r) d8 d9/\(ay P r=true/\(Pure P r ((Array.toList d8)++([.agg #[.string b,.string c],.agg #[.string a,.string d]]:List Value)++(Array.toList d9)).toArray x2 fun x3 x4=>∃e0 e1,x3= .agg #[.string e0,.string e1]/\(Pure P 271 #[.agg #[.string e0,.string e1]] x4 (Rt fun x5 x6=>(R (.tuple #[.string x5,I 0]) x6))))))/\(ae P (Instr.lookup 332 (.map f) (.int .u8 p) false) w.heap.size [204,204] i fun x7 x8=>∃(s:Nat)(e2 e3:Array Value),x7= .func (.func s) e2 e3/\(ay P s=true/\(Pure P s ((Array.toList e2)++([.agg #[.string b,.string c],.agg #[.string a,.string d]]:List Value)++(Array.toList e3)).toArray x8 fun x9 y0=>∃e4 e5,x9= .agg #[.string e4,.string e5]/\(Pure P 271 #[.agg #[.string e4,.string e5]] y0 (Rt fun y1 y2=>(R (.tuple #[.string y1,I 0]) y2)))))))/\((ae P (Instr.lookup 332 (.map f) (.int .u8 p) false) w.heap.size [204,204] i fun y3 y4=>∃(t:Nat)(e6 e7:Array Value),y3= .func (.func t) e6 e7/\(ay P t=true/\(Pure P t ((Array.toList e6)++([.agg #[.string b,.string c],.agg #[.string a,.string d]]:List Value)++(Array.toList e7)).toArray y4 fun y5 y6=>∃e8 e9,y5= .agg #[.string e8,.string e9]/\(Pure P 271 #[.agg #[.string e8,.string e9]] y6 (Rt fun y7 y8=>(R (.tuple #[.string y7,I 0]) y8))))))/\(ae P (Instr.lookup 332 (.map f) (.int .u8 p) false) w.heap.size [204,204] i fun y9 z0=>∃(u:Nat)(g0 g1:Array Value),y9= .func (.func u) g0 g1/\(ay P u=true/\(Pure P u ((Array.toList g0)++([.agg #[.string b,.string c],.agg #[.string a,.string d]]:List Value)++(Array.toList g1)).toArray z0 fun z1 z2=>∃g2 g3,z1= .agg #[.string g2,.string g3]/\(Pure P 271 #[.agg #[.string g2,.string g3]] z2 (Rt fun z3 z4=>(R (.tuple #[.string z3,I 0]) z4)))))))))))/\(((∀g4,Ext w.heap.size [] e g4->(Pure P 270 #[] g4 fun z5 g5=>∃(v:Option Nat),z5= .map v/\((ae P (Instr.lookup 332 (.map v) (.int .u8 p) false) w.heap.size [204,204] g5 fun z6 z7=>∃(x:Nat)(g6 g7:Array Value),z6= .func (.func x) g6 g7/\(ay P x=true/\(Pure P x ((Array.toList g6)++([.agg #[.string b,.string c],.agg #[.string a,.string d]]:List Value)++(Array.toList g7)).toArray z7 fun z8 z9=>∃g8 g9,z8= .agg #[.string g8,.string g9]/\(Pure P 271 #[.agg #[.string g8,.string g9]] z9 (Rt fun D0 D1=>(R (.tuple #[.string D0,I 0]) D1))))))/\(ae P (Instr.lookup 332 (.map v) (.int .u8 p) false) w.heap.size [204,204] g5 fun D2 D3=>∃(y:Nat)(j0 j1:Array Value),D2= .func (.func y) j0 j1/\(ay P y=true/\(Pure P y ((Array.toList j0)++([.agg #[.string b,.string c],.agg #[.string a,.string d]]:List Value)++(Array.toList j1)).toArray D3 fun D4 D5=>∃j2 j3,D4= .agg #[.string j2,.string j3]/\(Pure P 271 #[.agg #[.string j2,.string j3]] D5 (Rt fun D6 D7=>(R (.tuple #[.string D6,I 0]) D7)))))))))/\(∀j4,Ext w.heap.size [] e j4->(Pure P 270 #[] j4 fun D8 D9=>∃(j5:Option Nat),D8= .map j5/\(ae P (Instr.lookup 332 (.map j5) (.int .u8 p) false) w.heap.size [204,204] D9 fun E0 E1=>∃(z:Nat)(j6 j7:Array Value),E0= .func (.func z) j6 j7/\(ay P z=true/\(Pure P z ((Array.toList j6)++([.agg #[.string b,.string c],.agg #[.string a,.string d]]:List Value)++(Array.toList j7)).toArray E1 fun E2 E3=>∃j8 j9,E2= .agg #[.string j8,.string j9]/\(Pure P 271 #[.agg #[.string j8,.string j9]] E3 (Rt fun E4 E5=>(R (.tuple #[.string E4,I 0]) E5)))))))))/\((∀l0,Ext w.heap.size [] e l0->(Pure P 270 #[] l0 fun E6 l1=>∃(A:Option Nat),E6= .map A/\((ae P (Instr.lookup 332 (.map A) (.int .u8 p) false) w.heap.size [204,204] l1 fun E7 E8=>∃(C:Nat)(l2 l3:Array Value),E7= .func (.func C) l2 l3/\(ay P C=true/\(Pure P C ((Array.toList l2)++([.agg #[.string b,.string c],.agg #[.string a,.string d]]:List Value)++(Array.toList l3)).toArray E8 fun E9 G0=>∃l4 l5,E9= .agg #[.string l4,.string l5]/\(Pure P 271 #[.agg #[.string l4,.string l5]] G0 (Rt fun G1 G2=>(R (.tuple #[.string G1,I 0]) G2))))))/\(ae P (Instr.lookup 332 (.map A) (.int .u8 p) false) w.heap.size [204,204] l1 fun G3 G4=>∃(D:Nat)(l6 l7:Array Value),G3= .func (.func D) l6 l7/\(ay P D=true/\(Pure P D ((Array.toList l6)++([.agg #[.string b,.string c],.agg #[.string a,.string d]]:List Value)++(Array.toList l7)).toArray G4 fun G5 G6=>∃l8 l9,G5= .agg #[.string l8,.string l9]/\(Pure P 271 #[.agg #[.string l8,.string l9]] G6 (Rt fun G7 G8=>(R (.tuple #[.string G7,I 0]) G8)))))))))/\(∀m0,Ext w.heap.size [] e m0->(Pure P 270 #[] m0 fun G9 H0=>∃(m1:Option Nat),G9= .map m1/\(ae P (Instr.lookup 332 (.map m1) (.int .u8 p) false) w.heap.size [204,204] H0 fun H1 H2=>∃(E:Nat)(m2 m3:Array Value),H1= .func (.func E) m2 m3/\(ay P E=true/\(Pure P E ((Array.toList m2)++([.agg #[.string b,.string c],.agg #[.string a,.string d]]:List Value)++(Array.toList m3)).toArray H2 fun H3 H4=>∃m4 m5,H3= .agg #[.string m4,.string m5]/\(Pure P 271 #[.agg #[.string m4,.string m5]] H4 (Rt fun H5 H6=>(R (.tuple #[.string H5,I 0]) H6)))))))))))) ((∀m6,Ext w.heap.size [] e m6->(Pure P 270 #[] m6 fun H7 l=>∃(g:Option Nat),H7= .map g/\((ae P (Instr.lookup 332 (.map g) (.int .u8 p) false) w.heap.size [204,204] l fun H8 m7=>∃(m:Nat)(G H:Array Value),H8= .func (.func m) G H/\((ay P m=true/\(Pure P m ((Array.toList G)++([.agg #[.string b,.string c],.agg #[.string a,.string d]]:List Value)++(Array.toList H)).toArray m7 fun H9 J0=>∃m8 m9,H9= .agg #[.string m8,.string m9]/\(Pure P 271 #[.agg #[.string m8,.string m9]] J0 (Rt fun J1 J2=>(R (.tuple #[.string J1,I 0]) J2)))))/\(ay P m=true/\(Pure P m ((Array.toList G)++([.agg #[.string b,.string c],.agg #[.string a,.string d]]:List Value)++(Array.toList H)).toArray m7 fun J3 J4=>∃n0 n1,J3= .agg #[.string n0,.string n1]/\(Pure P 271 #[.agg #[.string n0,.string n1]] J4 (Rt fun J5 J6=>(R (.tuple #[.string J5,I 0]) J6)))))))/\(((ae P (Instr.lookup 332 (.map g) (.int .u8 p) false) w.heap.size [204,204] l fun J7 J8=>∃(J:Nat)(n2 n3:Array Value),J7= .func (.func J) n2 n3/\(ay P J=true/\(Pure P J ((Array.toList n2)++([.agg #[.string b,.string c],.agg #[.string a,.string d]]:List Value)++(Array.toList n3)).toArray J8 fun J9 K0=>∃n4 n5,J9= .agg #[.string n4,.string n5]/\(Pure P 271 #[.agg #[.string n4,.string n5]] K0 (Rt fun K1 K2=>(R (.tuple #[.string K1,I 0]) K2))))))/\(ae P (Instr.lookup 332 (.map g) (.int .u8 p) false) w.heap.size [204,204] l fun K3 K4=>∃(K:Nat)(n6 n7:Array Value),K3= .func (.func K) n6 n7/\(ay P K=true/\(Pure P K ((Array.toList n6)++([.agg #[.string b,.string c],.agg #[.string a,.string d]]:List Value)++(Array.toList n7)).toArray K4 fun K5 K6=>∃n8 n9,K5= .agg #[.string n8,.string n9]/\(Pure P 271 #[.agg #[.string n8,.string n9]] K6 (Rt fun K7 K8=>(R (.tuple #[.string K7,I 0]) K8)))))))/\((ae P (Instr.lookup 332 (.map g) (.int .u8 p) false) w.heap.size [204,204] l fun K9 N0=>∃(N:Nat)(o0 o1:Array Value),K9= .func (.func N) o0 o1/\(ay P N=true/\(Pure P N ((Array.toList o0)++([.agg #[.string b,.string c],.agg #[.string a,.string d]]:List Value)++(Array.toList o1)).toArray N0 fun N1 N2=>∃o2 o3,N1= .agg #[.string o2,.string o3]/\(Pure P 271 #[.agg #[.string o2,.string o3]] N2 (Rt fun N3 N4=>(R (.tuple #[.string N3,I 0]) N4))))))/\(ae P (Instr.lookup 332 (.map g) (.int .u8 p) false) w.heap.size [204,204] l fun N5 N6=>∃(O:Nat)(o4 o5:Array Value),N5= .func (.func O) o4 o5/\(ay P O=true/\(Pure P O ((Array.toList o4)++([.agg #[.string b,.string c],.agg #[.string a,.string d]]:List Value)++(Array.toList o5)).toArray N6 fun N7 N8=>∃o6 o7,N7= .agg #[.string o6,.string o7]/\(Pure P 271 #[.agg #[.string o6,.string o7]] N8 (Rt fun N9 O0=>(R (.tuple #[.string N9,I 0]) O0)))))))))))/\(((∀o8,Ext w.heap.size [] e o8->(Pure P 270 #[] o8 fun O1 o9=>∃(Q:Option Nat),O1= .map Q/\((ae P (Instr.lookup 332 (.map Q) (.int .u8 p) false) w.heap.size [204,204] o9 fun O2 O3=>∃(S:Nat)(r0 r1:Array Value),O2= .func (.func S) r0 r1/\(ay P S=true/\(Pure P S ((Array.toList r0)++([.agg #[.string b,.string c],.agg #[.string a,.string d]]:List Value)++(Array.toList r1)).toArray O3 fun O4 O5=>∃r2 r3,O4= .agg #[.string r2,.string r3]/\(Pure P 271 #[.agg #[.string r2,.string r3]] O5 (Rt fun O6 O7=>(R (.tuple #[.string O6,I 0]) O7))))))/\(ae P (Instr.lookup 332 (.map Q) (.int .u8 p) false) w.heap.size [204,204] o9 fun O8 O9=>∃(T:Nat)(r4 r5:Array Value),O8= .func (.func T) r4 r5/\(ay P T=true/\(Pure P T ((Array.toList r4)++([.agg #[.string b,.string c],.agg #[.string a,.string d]]:List Value)++(Array.toList r5)).toArray O9 fun Q0 Q1=>∃k r7,Q0= .agg #[.string k,.string r7]/\(Pure P 271 #[.agg #[.string k,.string r7]] Q1 (Rt fun Q2 Q3=>(R (.tuple #[.string Q2,I 0]) Q3)))))))))/\(∀r8,Ext w.heap.size [] e r8->(Pure P 270 #[] r8 fun Q4 Q5=>∃(r9:Option Nat),Q4= .map r9/\(ae P (Instr.lookup 332 (.map r9) (.int .u8 p) false) w.heap.size [204,204] Q5 fun Q6 Q7=>∃(U:Nat)(s0 s1:Array Value),Q6= .func (.func U) s0 s1/\(ay P U=true/\(Pure P U ((Array.toList s0)++([.agg #[.string b,.string c],.agg #[.string a,.string d]]:List Value)++(Array.toList s1)).toArray Q7 fun Q8 Q9=>∃s2 s3,Q8= .agg #[.string s2,.string s3]/\(Pure P 271 #[.agg #[.string s2,.string s3]] Q9 (Rt fun S0 S1=>(R (.tuple #[.string S0,I 0]) S1)))))))))/\((∀s4,Ext w.heap.size [] e s4->(Pure P 270 #[] s4 fun S2 s5=>∃(V:Option Nat),S2= .map V/\((ae P (Instr.lookup 332 (.map V) (.int .u8 p) false) w.heap.size [204,204] s5 fun S3 S4=>∃(X:Nat)(s6 s7:Array Value),S3= .func (.func X) s6 s7/\(ay P X=true/\(Pure P X ((Array.toList s6)++([.agg #[.string b,.string c],.agg #[.string a,.string d]]:List Value)++(Array.toList s7)).toArray S4 fun S5 S6=>∃s8 s9,S5= .agg #[.string s8,.string s9]/\(Pure P 271 #[.agg #[.string s8,.string s9]] S6 (Rt fun S7 S8=>(R (.tuple #[.string S7,I 0]) S8))))))/\(ae P (Instr.lookup 332 (.map V) (.int .u8 p) false) w.heap.size [204,204] s5 fun S9 T0=>∃(Y:Nat)(t0 t1:Array Value),S9= .func (.func Y) t0 t1/\(ay P Y=true/\(Pure P Y ((Array.toList t0)++([.agg #[.string b,.string c],.agg #[.string a,.string d]]:List Value)++(Array.toList t1)).toArray T0 fun T1 T2=>∃t2 t3,T1= .agg #[.string t2,.string t3]/\(Pure P 271 #[.agg #[.string t2,.string t3]] T2 (Rt fun T3 T4=>(R (.tuple #[.string T3,I 0]) T4)))))))))/\(∀t4,Ext w.heap.size [] e t4->(Pure P 270 #[] t4 fun T5 T6=>∃(t5:Option Nat),T5= .map t5/\(ae P (Instr.lookup 332 (.map t5) (.int .u8 p) false) w.heap.size [204,204] T6 fun T7 T8=>∃(Z:Nat)(t6 t7:Array Value),T7= .func (.func Z) t6 t7/\(ay P Z=true/\(Pure P Z ((Array.toList t6)++([.agg #[.string b,.string c],.agg #[.string a,.string d]]:List Value)++(Array.toList t7)).toArray T8 fun T9 V0=>∃t8 t9,T9= .agg #[.string t8,.string t9]/\(Pure P 271 #[.agg #[.string t8,.string t9]] V0 (Rt fun V1 V2=>(R (.tuple #[.string V1,I 0]) V2))))))))))))))):
  Pure P 233 #[.int .u8 p,.string L,.string M] w R:=
 pr gp.cx func233 h

def lZ.cx:Pm:=([],[])
theorem lZ.vc
  (h:(Pure P 294 #[] w fun b c=>∃(a:Option Nat),b= .map a/\(R (.map a) c))):
  Pure P 270 #[] w R:=
 pr lZ.cx func270 h

def kK.cx:Pm:=([],[])
theorem kK.vc
  (h:(Br (M=(⟨#[49]⟩:ByteArray)) (∀a,Ext w.heap.size [] w a->(R (.string L) a)) (ByteArray.size L+ByteArray.size (⟨#[47]⟩:ByteArray)<=9223372036854775807/\(ByteArray.size (L++(⟨#[47]⟩:ByteArray))+ByteArray.size M<=9223372036854775807/\(∀b,Ext w.heap.size [] w b->(R (.string ((L++(⟨#[47]⟩:ByteArray))++M)) b)))))):
  Pure P 271 #[.agg #[.string L,.string M]] w R:=
 pr kK.cx func271 h

def fL.cx:Pm:=([],[(1,0,2),(1,1,2),(1,2,2),(1,3,2),(1,4,2)])
theorem fL.vc
  (h:(ae P (Instr.makeMap 332 none) w.heap.size [] w fun b c=>∃(a:Option Nat),b= .map a/\(dZ P (Instr.mapUpdate 332 (.map a) (.int .u8 (43:Int)) (.func (.func 310) #[] #[])) w.heap.size [] c fun d=>(dZ P (Instr.mapUpdate 332 (.map a) (.int .u8 (42:Int)) (.func (.func 311) #[] #[])) w.heap.size [] d fun e=>(dZ P (Instr.mapUpdate 332 (.map a) (.int .u8 (45:Int)) (.func (.func 312) #[] #[])) w.heap.size [] e fun f=>(dZ P (Instr.mapUpdate 332 (.map a) (.int .u8 (47:Int)) (.func (.func 314) #[] #[])) w.heap.size [] f fun g=>(R (.map a) g))))))):
  Pure P 294 #[] w R:=
 pr fL.cx func294 h

def jc.cx:Pm:=([],[])
theorem jc.vc
  (h:(∀f,Ext w.heap.size [] w f->(Pure P 327 #[.agg #[.string N,.string L]] f fun t u=>∃c a g,t= .tuple #[I c,I a,.bool g]/\(Pure P 327 #[.agg #[.string N0,.string M]] u fun v e=>∃d b i,v= .tuple #[I d,I b,.bool i]/\(Bb g (Bb i (aU .i64 (c*b)/\(aU .i64 (d*a)/\(aU .i64 ((c*b)+(d*a))/\(aU .i64 (a*b)/\(Pure P 328 #[(I ((c*b)+(d*a))),(I (a*b))] e fun x y=>∃j l,x= .agg #[.string j,.string l]/\(∀m,Ext w.heap.size [204] y m->(R (.agg #[.string j,.string l]) m))))))) (Pure P 195 #[.string N,.string M] e (rF fun z d2 A=>(Pure P 195 #[.string N0,.string L] A (rF fun C d3 D=>(Pure P 329 #[.string z,.string C] D (rF fun E d4 G=>(Pure P 273 #[.string L,.string M] G (rF fun H d5 J=>(Pure P 330 #[.string E,.string H] J fun K O=>∃n o,K= .agg #[.string n,.string o]/\(∀p,Ext w.heap.size [204] O p->(R (.agg #[.string n,.string o]) p)))))))))))) (Pure P 195 #[.string N,.string M] e (rF fun Q d6 S=>(Pure P 195 #[.string N0,.string L] S (rF fun T d7 U=>(Pure P 329 #[.string Q,.string T] U (rF fun V d8 X=>(Pure P 273 #[.string L,.string M] X (rF fun Y d9 Z=>(Pure P 330 #[.string V,.string Y] Z fun d0 d1=>∃q r,d0= .agg #[.string q,.string r]/\(∀s,Ext w.heap.size [204] d1 s->(R (.agg #[.string q,.string r]) s)))))))))))))))):
  Pure P 310 #[.agg #[.string N,.string L],.agg #[.string N0,.string M]] w R:=
 pr jc.cx func310 h

def jF.cx:Pm:=([],[])
theorem jF.vc
  (h:(∀f,Ext w.heap.size [] w f->(Pure P 327 #[.agg #[.string L,.string M]] f fun t u=>∃a b g,t= .tuple #[I a,I b,.bool g]/\(Pure P 327 #[.agg #[.string N,.string N0]] u fun v c=>∃d e i,v= .tuple #[I d,I e,.bool i]/\(Bb g (Bb i (aU .i64 (a*d)/\(aU .i64 (b*e)/\(Pure P 328 #[(I (a*d)),(I (b*e))] c fun x y=>∃j l,x= .agg #[.string j,.string l]/\(∀m,Ext w.heap.size [204] y m->(R (.agg #[.string j,.string l]) m))))) (Pure P 195 #[.string L,.string N] c (rF fun z T A=>(Pure P 273 #[.string M,.string N0] A (rF fun C U D=>(Pure P 330 #[.string z,.string C] D fun E G=>∃n o,E= .agg #[.string n,.string o]/\(∀p,Ext w.heap.size [204] G p->(R (.agg #[.string n,.string o]) p)))))))) (Pure P 195 #[.string L,.string N] c (rF fun H V J=>(Pure P 273 #[.string M,.string N0] J (rF fun K X O=>(Pure P 330 #[.string H,.string K] O fun Q S=>∃q r,Q= .agg #[.string q,.string r]/\(∀s,Ext w.heap.size [204] S s->(R (.agg #[.string q,.string r]) s)))))))))))):
  Pure P 311 #[.agg #[.string L,.string M],.agg #[.string N,.string N0]] w R:=
 pr jF.cx func311 h

def iL.cx:Pm:=([],[])
theorem iL.vc
  (h:(∀a,Ext w.heap.size [] w a->(Pure P 313 #[.agg #[.string N,.string N0]] a fun g i=>∃b c,g= .agg #[.string b,.string c]/\(Pure P 310 #[.agg #[.string L,.string M],.agg #[.string b,.string c]] i fun j l=>∃d e,j= .agg #[.string d,.string e]/\(∀f,Ext w.heap.size [204] l f->(R (.agg #[.string d,.string e]) f)))))):
  Pure P 312 #[.agg #[.string L,.string M],.agg #[.string N,.string N0]] w R:=
 pr iL.cx func312 h

def gK.cx:Pm:=([],[])
theorem gK.vc
  (h:(∀a,Ext w.heap.size [] w a->(Pure P 331 #[.string L] a (rF fun c e d=>(∀b,Ext w.heap.size [204] d b->(R (.agg #[.string c,.string M]) b)))))):
  Pure P 313 #[.agg #[.string L,.string M]] w R:=
 pr gK.cx func313 h

def jG.cx:Pm:=([],[])
theorem jG.vc
  (h:(Br (((ByteArray.size L:Int):Int)>9) (∀a,Ext w.heap.size [] w a->(R (.tuple #[I 0,I 0,.bool false]) a)) (Br (((ByteArray.size M:Int):Int)>9) (∀b,Ext w.heap.size [] w b->(R (.tuple #[I 0,I 0,.bool false]) b)) (∀c,Ext w.heap.size [] w c->(Pure P 343 #[.string L,I 10,I 64] c fun f g=>∃(d:Int)(i:Value),f= .tuple #[I d,i]/\(Pure P 343 #[.string M,I 10,I 64] g fun j l=>∃(e:Int)(m:Value),j= .tuple #[I e,m]/\(R (.tuple #[I d,I e,.bool true]) l))))))):
  Pure P 327 #[.agg #[.string L,.string M]] w R:=
 pr jG.cx func327 h

def dB.L2(a b c d:Int)(e f:ByteArray):=Lt 328 f328 2 [vI 0 a,vI 1 b,vL 4,vI 5 c,vI 6 d] [⟨4,false,204,[(.string e),(.string f)]⟩]
def dB.cx:Pm:=([((true,2),[0,1,4,5,6],[4])],[(3,3,1),(5,2,1)])
theorem dB.L2.step
  (h:(Br (r≠0) (r≠0/\(∀a,Ext B [] w a->(dB.L2 s q r (Int.tmod p r) L M B a R))) (aU .i64 (-p)/\((if(-p)>p then(-p)else p)≠0/\((0<=q/\0<(if(-p)>p then(-p)else p)/\aU .i64 q)/\(∀b,Ext B [] w b->(Pure P 344 #[(I (IntKind.wrap .i64 (Int.tdiv s (if(-p)>p then(-p)else p)))),I 10] b (Rt fun d e=>(Pure P 344 #[(I (q / (if(-p)>p then(-p)else p))),I 10] e (Rt fun f g=>(∀c,Ext B [204] g c->(R (.agg #[.string d,.string f]) c)))))))))))):
  dB.L2 s q p r L M B w R:=
 lr dB.cx func328 h
theorem dB.vc
  (h:(∀a,Ext w.heap.size [] w a->(dB.L2 p q p q (⟨#[]⟩:ByteArray) (⟨#[]⟩:ByteArray) w.heap.size a R))):
  Pure P 328 #[I p,I q] w R:=
 pr dB.cx func328 h

def gC.cx:Pm:=([],[])
theorem gC.vc
  (h:(∀b,Ext w.heap.size [] w b->(Pure P 179 #[.string L,.string M] b (Rt fun a c=>(Br (a≠(⟨#[49]⟩:ByteArray)) (Pure P 345 #[.string L,.string a] c fun i j=>∃d l m,i= .tuple #[.string d,.string l,I m]/\(Pure P 346 #[.string M,.string a] j fun n o=>∃e p q,n= .tuple #[.string e,.string p,I q]/\(∀f,Ext w.heap.size [204] o f->(R (.agg #[.string d,.string e]) f)))) (∀g,Ext w.heap.size [204] c g->(R (.agg #[.string L,.string M]) g))))))):
  Pure P 330 #[.string L,.string M] w R:=
 pr gC.cx func330 h

end Go.Proofs.YtbcojgcjjpggnaaGreatDoor.F

namespace Go.Proofs.YtbcojgcjjpggnaaGreatDoor.B
open Go Go.RowKit Go.Proofs Go.Proofs.YtbcojgcjjpggnaaGreatDoor.Vc

theorem zo(l:Tx):(47∈l->0<=Lib.index l [47]/\l.take (Lib.index l [47]).toNat=uL l/\l.drop ((Lib.index l [47]).toNat+1)=se l)/\(47∉l->Lib.index l [47]= -1):=by
 induction l with
 |nil=>simp[Lib.index]
 |cons b r ih=>
  by_cases h:b=47
  ·subst h;have e:Lib.index (47::r) [47]=0:=by simp[Lib.index]
   rw[e];simp[uL,se]
  ·have i:(47==b)=false:=by simpa using fun k=>h k.symm
   have e:Lib.index (b::r) [47]=if Lib.index r [47]== -1 then -1 else Lib.index r [47]+1:=by
    rw[Lib.index];simp[List.isPrefixOf,i]
   constructor
   ·intro hm;have a:47∈r:=by
     rcases cc.1 hm with k|k
     ·exact absurd k.symm h
     ·exact k
    obtain⟨n,h1,c⟩:=ih.1 a;have d:¬(Lib.index r [47]== -1)=true:=by simp;omega
    rw[e,aq d];obtain⟨m,g⟩:∃m:Nat,Lib.index r [47]=m:=⟨(Lib.index r [47]).toNat,om⟩
    rw[g]at h1 c⊢;have j:((m:Int)+1).toNat=m+1:=om;rw[j];simp only[ca]at h1 c;refine⟨om,?_,?_⟩
    ·simp[uL,h,h1]
    ·simp[se,h,c]
   ·intro hm;have a:47∉r:=fun k=>hm (List.mem_cons_of_mem _ k)
    rw[e,ih.2 a];rfl
theorem Qm{w:World}(hg:bj w)(s:ByteArray)(hs:s.size<2147483648):
  Pure Tryz.prog 176 #[.string s,.string ⟨#[47]⟩] w fun v _=>
   (47∈cL s->v= .tuple #[.string (st (uL (cL s))),.string (st (se (cL s))),.bool true])/\(47∉cL s->v= .tuple #[.string s,.string (st []),.bool false]):=by
 obtain⟨m,hm⟩:=hg.mx;refine Calls.mono (Tryz.strings_Cut s ⟨#[47]⟩ m w om hm) ?_;rintro e w' ⟨rfl,n,rfl⟩;refine⟨_,rfl,?_,?_,?_⟩
 ·exact⟨rfl,rfl,rfl,eU _,fun _ _=>rfl⟩
 ·intro h;obtain⟨a,h1,b⟩:=(zo (cL s)).1 h;have e:Lib.cut s.data.toList [47]=(uL (cL s),se (cL s),true):=by
   show Lib.cut (cL s) [47]=_;unfold Lib.cut;rw[bb a];simp only[xX];rw[h1,b]
  show Value.tuple #[.string ⟨(Lib.cut s.data.toList [47]).1.toArray⟩,.string ⟨(Lib.cut s.data.toList [47]).2.1.toArray⟩,.bool (Lib.cut s.data.toList [47]).2.2]=_;rw[e];rfl
 ·intro h;have a:=(zo (cL s)).2 h;have e:Lib.cut s.data.toList [47]=(cL s,[],false):=by
   show Lib.cut (cL s) [47]=_;unfold Lib.cut;rw[a,aq om]
  show Value.tuple #[.string ⟨(Lib.cut s.data.toList [47]).1.toArray⟩,.string ⟨(Lib.cut s.data.toList [47]).2.1.toArray⟩,.bool (Lib.cut s.data.toList [47]).2.2]=_;rw[e];rfl
theorem zq{w:World}(hg:bj w)(z:Int)(a: -9223372036854775808<=z)(h1:z<=9223372036854775807):
  Pure Tryz.prog 344 #[.int .i64 z,.int .i64 10] w fun v _=>v= .string (iS z):=by
 refine Calls.mono (Tryz.strconv_FormatInt_10 z a h1 w hg.tab) ?_;rintro e w' ⟨rfl,k,os,rfl⟩;exact⟨_,rfl,tX _ _ _,rfl⟩
theorem tZ{w:World}(hg:bj w)(z:Int)(a: -9223372036854775808<=z)(h1:z<=9223372036854775807):
  Pure Tryz.prog 50 #[.int .i64 z] w fun v _=>v= .string (iS z):=by
 refine Calls.mono (Tryz.strconv_Itoa z a h1 w hg.tab) ?_;rintro e w' ⟨rfl,k,os,rfl⟩;exact⟨_,rfl,tX _ _ _,rfl⟩
theorem Na{n:Nat}(h:n<9223372036854775808):Lib.parseUintB 64 (eK n)= .ok n:=by
 have:=vF (B:=64) (l:=eK n) om (xw n) (tU n) (by rw[km];omega);rwa [km]at this
theorem Nb{z:Int}(h:z.natAbs<9223372036854775808):Lib.parseIntB 64 (kr z)= .ok z:=by
 have hp:=Na h;rw[nk];split
 ·rename_i hz;rw[Lib.parseIntB_minus,hp];simp only[Lib.signedC];rw[aq om]
  congr 1
  omega
 ·rename_i hz;have a:=tU z.natAbs;cases b:eK z.natAbs with
  |nil=>exact absurd b (xw _)
  |cons c r=>
   rw[b]at hp a;simp only[zP,cy]at a;have:=a.1;simp only[uZ,cy,hJ]at this;rw[Lib.parseIntB_plain 64 c r om om,hp];simp only[Lib.signlessC];rw[aq om]
   congr 1
   omega
theorem ParseInt10(z:Int)(h:z.natAbs<9223372036854775808)(w:World):
  Pure Tryz.prog 343 #[.string (iS z),.int .i64 10,.int .i64 64] w fun v _=>v= .tuple #[.int .i64 z,.nilIface]:=by
 have hl:(iS z).size<=9223372036854775806:=by
  have:=jA (z:=z) (k:=19) om om;show(kr z).length<=_;omega
 refine Calls.mono (Tryz.strconv_ParseInt_10_at64_ok (iS z) hl z (Nb h) w) ?_;rintro e w' ⟨rfl,hw⟩;refine⟨_,rfl,?_,rfl⟩;rcases hw with rfl|⟨t,rfl⟩
 ·exact Below.refl _ _
 ·exact vG (.inr rfl)

abbrev fV(r:Rat):Value:= .agg #[.string (iS r.num),.string (nS r.den)]
abbrev kA(r:Rat):Prop:=Sm 100000 r
theorem Sm.HS{k:Nat}{r:Rat}(h:Sm k r)(a:k<=900000):r.num.natAbs<fy:=nY h.1 a
theorem Sm.HT{k:Nat}{r:Rat}(h:Sm k r)(a:k<=900000):r.den<fy:=nY h.2 a

theorem gi{w:World}{z:Int}{d:Nat}(hg:bj w)(hz:z.natAbs<fy)(a:d<fy):
  Pure Tryz.prog 179 #[.string (iS z),.string (nS d)] w fun v _=>v= .string (nS (Nat.gcd z.natAbs d)):=by
 refine F.gi.vc (pm (nH hz w) ?_);rintro v b hb rfl;refine⟨_,_,rfl,pm (nD (hg.next hb) hz a) ?_⟩;rintro v c _ rfl;exact⟨_,_,rfl,rfl⟩

theorem gC{w:World}{z:Int}{d:Nat}(hg:bj w)(hz:z.natAbs<fy)(m:d<fy)(n:d≠0):
  Pure Tryz.prog 330 #[.string (iS z),.string (nS d)] w fun v _=>v=fV (mkRat z d):=by
 obtain⟨a,b⟩:=uM (p:=z) n;obtain⟨g,i⟩:∃g,g=Nat.gcd z.natAbs d:=⟨_,rfl⟩
 have c:g≠0:=by rw[i];intro k;exact n (Pb k)
 have q:g<=d:=by rw[i];exact Nat.le_of_dvd om (Nat.gcd_dvd_right _ _)
 rw[<-i]at a b;refine F.gC.vc fun w1 o=>pm (gi (hg.next (k0 o)) hz m) ?_
 rintro v x j rfl;have hb:=kP (k0 o) j;rw[<-i];refine⟨_,rfl,fun h=>pm (jE (hg.next hb) hz om c) ?_,fun h r _=> ?_⟩
 ·rintro v r l rfl;refine⟨_,_,_,rfl,pm (ic (hg.next (kP hb l)) m om c) ?_⟩;rintro v y _ rfl;refine⟨_,_,_,rfl,fun A _=> ?_⟩;rw[<-a,<-b]
 ·have h1:g=1:=by
   apply bm;intro k;rw[M9]at h;exact h fun e=>k (wE e)
  rw[h1]at a b;simp only[Int.natCast_one,Int.ediv_one,Nat.div_one]at a b;show _=fV _;unfold fV;rw[a,b]

theorem ja{w:World}(hg:bj w)(s:ByteArray)(hs:s.size<=800000):
  Pure Tryz.prog 134 #[.string s] w fun v _=>∃p q,v= .tuple #[.agg #[.string p,.string q],.bool (lW (cL s))]/\(lW (cL s)=true->p=iS (xz (cL s)).num/\q=nS (xz (cL s)).den):=by
 refine F.ja.vc fun w1 E=>pm (Qm (hg.next (k0 E)) s om) ?_
 rintro v R y ⟨H,z⟩;have hb:=kP (k0 E) y;by_cases a:47∈cL s
 ·have d:=H a;subst d;obtain⟨I,J⟩:=Qd a;have hle:(uL (cL s)).length+(se (cL s)).length+1=s.size:=by
   have:=bx List.length I;rw[kz];simp at this;omega
  have S:(st (uL (cL s))).size=(uL (cL s)).length:=rfl;have K:(st (se (cL s))).size=(se (cL s)).length:=rfl;have fin:∀(b:Bool),b=lW (cL s)->∃p q,Value.tuple #[.agg #[.string (st (uL (cL s))),.string (st (se (cL s)))],.bool b]=Value.tuple #[.agg #[.string p,.string q],.bool (lW (cL s))]/\(lW (cL s)=true->p=iS (xz (cL s)).num/\q=nS (xz (cL s)).den):=by
   intro b L;refine⟨_,_,by rw[L],fun hi=> ?_⟩;have e:=FF hi;obtain⟨r,M⟩:∃r,r=xz (cL s):=⟨_,rfl⟩
   rw[<-M]at e⊢;rw[<-e]at a⊢;unfold pM at a⊢;split at a
   ·exact absurd a (jO _)
   ·rename_i A;rw[aq A,FD (jO _),FE (jO _)];exact⟨rfl,rfl⟩
  have c:lW (cL s)=(isInt (uL (cL s))&&uL (cL s) !=[48]&&isNat (se (cL s))&&se (cL s) !=[48]&&se (cL s) !=[49]&&Nat.gcd (ks (uL (cL s))).natAbs (eC (se (cL s)))==1):=by
   unfold lW;rw[bb a]
  have m:∀l:Tx,st l≠(⟨#[48]⟩:ByteArray)↔l≠[48]:=fun l=>⟨fun h k=>h (by rw[k];rfl),fun h k=>h (By (k.trans rfl:st l=st [48]))⟩
  have g:∀l:Tx,st l≠(⟨#[49]⟩:ByteArray)↔l≠[49]:=fun l=>⟨fun h k=>h (by rw[k];rfl),fun h k=>h (By (k.trans rfl:st l=st [49]))⟩
  refine⟨_,_,_,rfl,fun h=>(by cases h),fun _=>pm (iZ _ om _) ?_⟩;rintro v N i rfl;rw[Hs];refine⟨_,rfl,fun h1=>⟨fun n=>pm (bP _ om _) ?_,fun n B _=>fin _ ?_⟩,fun h1 B _=>fin _ ?_⟩
  ·rintro v B C rfl;rw[Hs];rw[m]at n;refine⟨_,rfl,fun j=>⟨fun o=>⟨fun x=> ?_,fun x D _=>fin _ ?_⟩,fun o D _=>fin _ ?_⟩,fun j D _=>fin _ ?_⟩
   ·rw[m]at o;rw[g]at x;have O:st (uL (cL s))=iS (ks (uL (cL s))):=by unfold iS;rw[uK h1]
    have eq:st (se (cL s))=nS (eC (se (cL s))):=by unfold nS;rw[oK j]
    have lp:(ks (uL (cL s))).natAbs<fy:=by
     have:=FC (ks (uL (cL s)));rw[uK h1]at this;exact nY this om
    have lq:eC (se (cL s))<fy:=by
     have:=Ax (eC (se (cL s)));rw[oK j]at this;exact nY this om
    have G:=gi (hg.next (kP (kP hb i) C)) lp lq;rw[<-O,<-eq]at G;refine pm G ?_;rintro v D _ rfl;refine⟨_,rfl,fun T _=>fin _ ?_⟩;rw[c,h1,j,M9];have a2:(uL (cL s) !=[48])=true:=by simpa using n
    have a4:(se (cL s) !=[48])=true:=by simpa using o
    have a5:(se (cL s) !=[49])=true:=by simpa using x
    rw[a2,a4,a5];simp only[rr,Yt];rfl
   ·have:se (cL s)=[49]:=by apply bm;intro k;exact x ((g _).2 k)
    rw[c,this];simp
   ·have:se (cL s)=[48]:=by apply bm;intro k;exact o ((m _).2 k)
    rw[c,this];simp
   ·rw[c,j];simp
  ·have:uL (cL s)=[48]:=by apply bm;intro k;exact n ((m _).2 k)
   rw[c,this];simp
  ·rw[c,h1];simp
 ·have d:=z a;subst d;have c:lW (cL s)=isInt (cL s):=by unfold lW;rw[aq a]
  refine⟨_,_,_,rfl,fun _=>pm (iZ _ om _) ?_,fun h=>by simp at h⟩;rintro v N i rfl;refine⟨_,rfl,fun B _=>⟨_,_,by rw[c],fun hi=> ?_⟩⟩;have d:xz (cL s)=(ks (cL s):Rat):=by unfold xz;rw[aq a]
  rw[c]at hi;have P:((ks (cL s):Rat)).num=ks (cL s):=rfl;have Q:((ks (cL s):Rat)).den=1:=rfl;rw[d,P,Q];refine⟨?_,M9⟩;unfold iS;rw[uK hi];rfl

theorem kA.size{r:Rat}(h:kA r):(rS r).size<=800000:=by
 have:=h.length om;show(pM r).length<=_;omega
theorem re{w:World}{r:Rat}(hg:bj w)(h:kA r):Pure Tryz.prog 134 #[.string (rS r)] w fun v _=>v= .tuple #[fV r,.bool true]:=by
 refine pm (ja hg _ h.size) ?_;rintro v b _ ⟨p,q,rfl,a⟩;rw[aci,Kj,xA]at*;obtain⟨rfl,rfl⟩:=a rfl;rfl
theorem dW{w:World}(hg:bj w)(s:ByteArray)(hs:s.size<=800000):Pure Tryz.prog 71 #[.string s] w fun v _=>v= .bool (lW (cL s)):=by
 refine F.dW.vc (pm (ja hg s hs) ?_);rintro v a _ ⟨p,q,rfl,_⟩;exact⟨_,_,_,rfl,fun b _=>rfl⟩
theorem jb{w:World}{x y:Rat}(hg:bj w)(hx:kA x)(hy:kA y):
  Pure Tryz.prog 193 #[.string (rS x),.string (rS y)] w fun v _=>v= .tuple #[fV x,fV y,.int .i64 0]:=by
 refine F.jb.vc fun w1 b=>pm (re (hg.next (k0 b)) hx) ?_
 rintro v e a rfl;refine⟨_,_,_,rfl,fun g c=>pm (re (hg.next (kE (kP (k0 b) a) c)) hy) ?_⟩;rintro v i _ rfl;exact⟨_,_,_,rfl,fun h=>(by simp at h),fun _=>⟨fun h=>(by simp at h),fun _=>⟨fun d _=>rfl,fun d _=>rfl⟩⟩⟩

theorem De{r:Rat}(h:Sm 300000 r)(w:World):Pure Tryz.prog 271 #[fV r] w fun v _=>v= .string (rS r):=by
 have l1:(iS r.num).size<=300001:=h.int om;have b:(nS r.den).size<=300000:=h.nat om;refine F.kK.vc ⟨fun h1 w1 _=> ?_,fun h1=>⟨?_,?_,fun w1 _=> ?_⟩⟩
 ·rw[M9]at h1;have:=wE h1;unfold rS pM;rw[bb this];rfl
 ·show _+1<=_;omega
 ·rw[jv];show _+1+_<=_;omega
 ·rw[M9]at h1;have a:r.den≠1:=fun k=>h1 (by rw[k])
  have e:rS r=st (kr r.num++47::eK r.den):=by unfold rS pM;rw[aq a]
  rw[e]
  congr 1
  apply JY;simp[cL,st,iS,nS,ByteArray.data_append]

theorem vJ{r:Rat}(h:kA r)(w:World):Pure Tryz.prog 194 #[fV r] w fun v _=>v= .int .i64 (gA r 0):=by
 refine F.kJ.vc fun w1 _=>pm (lX (h.HS om) _) ?_
 rintro v a _ rfl;refine⟨_,_,rfl,?_⟩;rw[Qg]
theorem gK{r:Rat}(h:kA r)(w:World):Pure Tryz.prog 313 #[fV r] w fun v _=>v=fV (-r):=by
 refine F.gK.vc fun w1 _=>pm (nJ (h.HS om) _) ?_
 rintro v a _ rfl;exact⟨_,_,rfl,fun b _=>rfl⟩

theorem gE{r:Rat}(h:kA r)(w:World):
  Pure Tryz.prog 327 #[fV r] w fun v _=>v= .tuple #[.int .i64 0,.int .i64 0,.bool false]∨(v= .tuple #[.int .i64 r.num,.int .i64 (r.den:Int),.bool true]/\r.num.natAbs<1000000000/\r.den<1000000000):=by
 refine F.jG.vc ⟨fun _ w1 _=> .inl rfl,fun h1=>⟨fun _ w1 _=> .inl rfl,fun a w1 _=> ?_⟩⟩;have l1:=FC r.num;have b:=Ax r.den;have c:(iS r.num).size=(kr r.num).length:=rfl;have d:(nS r.den).size=(eK r.den).length:=rfl;have p1:10^(kr r.num).length<=10^9:=fm om om;have p2:10^(eK r.den).length<=10^9:=fm om om;refine pm (ParseInt10 r.num om _) ?_;rintro v e _ rfl;refine⟨_,_,rfl,?_⟩;rw[<-pj];refine pm (ParseInt10 (r.den:Int) om _) ?_;rintro v g _ rfl;exact⟨_,_,rfl,.inr ⟨rfl,om,om⟩⟩

theorem acn{w0:World}(hg:bj w0){p:Int}{q:Nat}{R:Value->World->Prop}(hp:p.natAbs<9000000000000000000)(z:q≠0)(M:q<9000000000000000000)(C:∀w,R (fV (mkRat p q)) w):
  ∀(n:Nat)(b a:Int)(s t:ByteArray)(w:World),b.natAbs<=n->Below w0.heap.size w0 w->Nat.gcd a.natAbs b.natAbs=Nat.gcd p.natAbs q->a.natAbs<9000000000000000000->b.natAbs<9000000000000000000->F.dB.L2 p q a b s t w0.heap.size w R:=by
 obtain⟨A,B⟩:=uM (p:=p) z;obtain⟨g,j⟩:∃g,g=Nat.gcd p.natAbs q:=⟨_,rfl⟩
 have D:g≠0:=by rw[j];intro k;exact z (Pb k)
 have l:(g:Int)∣p:=by rw[j];exact Int.ofNat_dvd_left.2 (Ub _ _)
 rw[<-j]at A B⊢;intro n;induction n with
 |zero=>
  intro b a s t w hb c d ha m;have e:b=0:=om;subst e;rw[Int.natAbs_zero,SK]at d;refine F.dB.L2.step ⟨fun h=>absurd rfl h,fun _=> ?_⟩;have E:(if(-a)>a then(-a)else a)=(g:Int):=by split<;>omega
  rw[E];have G:(p / (g:Int)).natAbs<=p.natAbs:=Int.natAbs_ediv_le_natAbs _ _;have H:=Hu q g;have I:Int.tdiv p (g:Int)=p / (g:Int):=Int.tdiv_eq_ediv_of_dvd l;have J:IntKind.wrap .i64 (Int.tdiv p (g:Int))=p / (g:Int):=by rw[I];exact wrap64 ir
  refine⟨ir,om,⟨om,om,ir⟩,fun w1 o=> ?_⟩;rw[J];have i:=kE c o;refine pm (zq (hg.next i) _ om om) ?_;rintro v N r rfl;have K:(q:Int) / (g:Int)=((q / g:Nat):Int):=by simp
  refine⟨_,rfl,?_⟩;rw[K];refine pm (zq (hg.next (kP i r)) _ om om) ?_;rintro v O _ rfl;refine⟨_,rfl,fun L _=> ?_⟩;have:=C L;rw[pj,<-A,<-B];exact this
 |succ n ih=>
  intro b a s t w hb c d ha m;by_cases e:b=0
  ·exact ih b a s t w om c d ha m
  refine F.dB.L2.step ⟨fun _=>⟨e,fun w1 o=> ?_⟩,fun h=>absurd e h⟩;have P:=Js a.natAbs (show 0<b.natAbs by omega);have x:(Int.tmod a b).natAbs=a.natAbs % b.natAbs:=Int.natAbs_tmod _ _;have y:Nat.gcd b.natAbs (a.natAbs % b.natAbs)=g:=by rw[OU,<-Nat.gcd_rec,OU];exact d
  exact ih (Int.tmod a b) b s t w1 om (kE c o) (by rw[x];exact y) m om

theorem dB{w:World}(hg:bj w){p:Int}{q:Nat}(hp:p.natAbs<9000000000000000000)(b:q≠0)(a:q<9000000000000000000):
  Pure Tryz.prog 328 #[.int .i64 p,.int .i64 (q:Int)] w fun v _=>v=fV (mkRat p q):=
 F.dB.vc fun w1 c=>acn hg hp b a (fun _=>rfl) _ (q:Int) p _ _ w1 lf (k0 c) sm hp (by simpa using a)

theorem Qo{a b:Nat}(ha:a<1000000000)(hb:b<1000000000):a*b<1000000000000000000:=Uf ha hb
theorem Qp{a b:Int}(ha:a.natAbs<1000000000)(hb:b.natAbs<1000000000):(a*b).natAbs<1000000000000000000:=by
 rw[Bx];exact Qo ha hb

theorem jc{w:World}{x y:Rat}(hg:bj w)(hx:kA x)(hy:kA y):
  Pure Tryz.prog 310 #[fV x,fV y] w fun v _=>v=fV (x+y):=by
 have ex:=Rat.add_def' x y;have D:=sj x y;have n1:=iI hx.1 hy.2;have n2:=iI hy.1 hx.2;have J:(x.num*(y.den:Int)).natAbs=x.num.natAbs*y.den:=by rw[Bx,tR]
 have a2:(y.num*(x.den:Int)).natAbs=y.num.natAbs*x.den:=by rw[Bx,tR]
 have m1:(x.num*(y.den:Int)).natAbs<fy:=by rw[J];exact nY n1 om
 have m2:(y.num*(x.den:Int)).natAbs<fy:=by rw[a2];exact nY n2 om
 have m3:(x.num*(y.den:Int)+y.num*(x.den:Int)).natAbs<fy:=nY (BJ hx hy) om;have m4:x.den*y.den<fy:=nY (sf hx hy) om;have long:∀w',Below w.heap.size w w'->Pure Tryz.prog 195 #[.string (iS x.num),.string (nS y.den)] w' fun r K=>∃(E:ByteArray)(i39:Int),r=(.tuple #[(.string E),(.int .i64 i39)])/\(Pure Tryz.prog 195 #[(.string (iS y.num)),(.string (nS x.den))] K fun n L=>∃(c:ByteArray)(i43:Int),n=(.tuple #[(.string c),(.int .i64 i43)])/\(Pure Tryz.prog 329 #[(.string E),(.string c)] L fun o M=>∃(d:ByteArray)(i47:Int),o=(.tuple #[(.string d),(.int .i64 i47)])/\(Pure Tryz.prog 273 #[(.string (nS x.den)),(.string (nS y.den))] M fun q z=>∃(G:ByteArray)(i51:Int),q=(.tuple #[(.string G),(.int .i64 i51)])/\(Pure Tryz.prog 330 #[(.string d),(.string G)] z fun A B=>∃(e:ByteArray)(g:ByteArray),A=(.agg #[(.string e),(.string g)])/\(∀N,Ext w.heap.size [204] B N->(Value.agg #[(.string e),(.string g)]=fV (x+y))))))):=by
  intro w1 i;rw[<-pj y.den];refine pm (gJ (hg.next i) (hx.HS om) (by rw[tR];exact hy.HT om) m1) ?_;rintro v O C rfl;have b:=kP i C;refine⟨_,_,rfl,?_⟩;rw[<-pj x.den];refine pm (gJ (hg.next b) (hy.HS om) (by rw[tR];exact hx.HT om) m2) ?_;rintro v j k rfl;have a:=kP b k;refine⟨_,_,rfl,pm (nI (hg.next a) m1 m2 m3) ?_⟩;rintro v P Q rfl;have l:=kP a Q;refine⟨_,_,rfl,?_⟩;rw[pj,pj];refine pm (jz (hg.next l) (hx.HT om) (hy.HT om)) ?_;rintro v R S rfl;have T:=kP l S;refine⟨_,_,rfl,pm (gC (hg.next T) m3 m4 D) ?_⟩;rintro v V W rfl;refine⟨_,_,rfl,fun X _=> ?_⟩;rw[<-ex]
 refine F.jc.vc fun w1 U=>pm (gE hx _) ?_
 rintro v O C m;have b:=kP (k0 U) C;rcases m with rfl|⟨rfl,p1,p2⟩
 ·refine⟨_,_,_,rfl,pm (gE hy _) ?_⟩;rintro v j k m;have a:=kP b k;rcases m with rfl|⟨rfl,_⟩
  ·exact⟨_,_,_,rfl,fun h=>(by cases h),fun _=>long j a⟩
  ·exact⟨_,_,_,rfl,fun h=>(by cases h),fun _=>long j a⟩
 ·refine⟨_,_,_,rfl,pm (gE hy _) ?_⟩;rintro v j k m;have a:=kP b k;rcases m with rfl|⟨rfl,q1,H⟩
  ·exact⟨_,_,_,rfl,fun _=>⟨fun h=>(by cases h),fun _=>long j a⟩,fun h=>(by cases h)⟩
  ·have Y:=Qo p1 H;have Z:=Qo q1 p2;have b3:=Qo p2 H;have I:(x.den:Int)*(y.den:Int)=((x.den*y.den:Nat):Int):=by simp
   refine⟨_,_,_,rfl,fun _=>⟨fun _=>⟨ir,ir,ir,by rw[I];simp only[aU];omega,?_⟩,fun h=>(by cases h)⟩,fun h=>(by cases h)⟩;rw[I];refine pm (dB (hg.next a) om D om) ?_;rintro v P _ rfl;refine⟨_,_,rfl,fun R _=> ?_⟩;rw[<-ex]

theorem jF{w:World}{x y:Rat}(hg:bj w)(hx:kA x)(hy:kA y):
  Pure Tryz.prog 311 #[fV x,fV y] w fun v _=>v=fV (x*y):=by
 have ex:=Rat.mul_def' x y;have q:=sj x y;have C:(x.num*y.num).natAbs=x.num.natAbs*y.num.natAbs:=Bx _ _;have m1:(x.num*y.num).natAbs<fy:=by rw[C];exact nY (iI hx.1 hy.1) om
 have m4:x.den*y.den<fy:=nY (sf hx hy) om;have long:∀w',Below w.heap.size w w'->Pure Tryz.prog 195 #[.string (iS x.num),.string (iS y.num)] w' fun r D=>∃(z:ByteArray)(i39:Int),r=(.tuple #[(.string z),(.int .i64 i39)])/\(Pure Tryz.prog 273 #[(.string (nS x.den)),(.string (nS y.den))] D fun k l=>∃(A:ByteArray)(i51:Int),k=(.tuple #[(.string A),(.int .i64 i51)])/\(Pure Tryz.prog 330 #[(.string z),(.string A)] l fun m n=>∃(b:ByteArray)(c:ByteArray),m=(.agg #[(.string b),(.string c)])/\(∀E,Ext w.heap.size [204] n E->(Value.agg #[(.string b),(.string c)]=fV (x*y))))):=by
  intro w1 d;refine pm (gJ (hg.next d) (hx.HS om) (hy.HS om) m1) ?_;rintro v G H rfl;have e:=kP d H;refine⟨_,_,rfl,pm (jz (hg.next e) (hx.HT om) (hy.HT om)) ?_⟩;rintro v I J rfl;have K:=kP e J;refine⟨_,_,rfl,pm (gC (hg.next K) m1 m4 q) ?_⟩;rintro v O P rfl;refine⟨_,_,rfl,fun Q _=> ?_⟩;rw[<-ex]
 refine F.jF.vc fun w1 L=>pm (gE hx _) ?_
 rintro v R M g;have i:=kP (k0 L) M;rcases g with rfl|⟨rfl,p1,p2⟩
 ·refine⟨_,_,_,rfl,pm (gE hy _) ?_⟩;rintro v j o g;have a:=kP i o;rcases g with rfl|⟨rfl,_⟩
  ·exact⟨_,_,_,rfl,fun h=>(by cases h),fun _=>long j a⟩
  ·exact⟨_,_,_,rfl,fun h=>(by cases h),fun _=>long j a⟩
 ·refine⟨_,_,_,rfl,pm (gE hy _) ?_⟩;rintro v j o g;have a:=kP i o;rcases g with rfl|⟨rfl,q1,N⟩
  ·exact⟨_,_,_,rfl,fun _=>⟨fun h=>(by cases h),fun _=>long j a⟩,fun h=>(by cases h)⟩
  ·have S:=Qp p1 q1;have T:=Qo p2 N;have B:(x.den:Int)*(y.den:Int)=((x.den*y.den:Nat):Int):=by simp
   refine⟨_,_,_,rfl,fun _=>⟨fun _=>⟨ir,by rw[B];simp only[aU];omega,?_⟩,fun h=>(by cases h)⟩,fun h=>(by cases h)⟩;rw[B];refine pm (dB (hg.next a) om q om) ?_;rintro v G _ rfl;refine⟨_,_,rfl,fun I _=> ?_⟩;rw[<-ex]

theorem FJ{w:World}{B r:Nat}(o:Obj)(a:B<=r):Below B w {w with heap:=w.heap.setIfInBounds r o}:=
 ⟨rfl,rfl,rfl,sm,fun k b=>by simp[Kz,show r≠k by omega]⟩
theorem xD{w:World}{B r:Nat}{es:Array MapEntry}{clock:Nat}{key:Int}{val:Value}{K:World->Prop}(hb:w.heap[r]? =some (.map es clock))(hB:B<=r)
  (hf:Instr.findNow (.int .u8) (.int .u8 key) es.toList 0=some none) (b:∀w',w'.heap[r]? =some (.map (es.push {key:= .int .u8 key,val:=val,born:=clock}) (clock+1))->K w'):
  dZ Tryz.prog (Instr.mapUpdate 332 (.map (some r)) (.int .u8 key) val) B [] w K:=by
 have hm:=Tryz.underlying332;have a:=Tryz.underlying5;have c:(Instr.checkKey false 10000 5 (.int .u8 key)).run Tryz.prog w= .ok () w:=MapKept.run_checkKey a (by simp[MapKept.IsKey]) false 9999;refine⟨{w with heap:=w.heap.setIfInBounds r (.map (es.push {key:= .int .u8 key,val:=val,born:=clock}) (clock+1))},?_,FJ _ hB,sm,fun k ty cs h=>(by cases h),b _ ?_⟩
 ·simp[Instr.mapUpdate,run_underlying hm,MapKept.run_getObj_map hb,c,MapKept.run_findKey a hf,MapKept.run_setObj_map _ hb,Result.andThen]
 ·have:=(ax.1 hb).1;simp[Kz,this]

def BP:Array MapEntry:= #[{key:= .int .u8 43,val:= .func (.func 310) #[] #[],born:=0},{key:= .int .u8 42,val:= .func (.func 311) #[] #[],born:=1},
 {key:= .int .u8 45,val:= .func (.func 312) #[] #[],born:=2},{key:= .int .u8 47,val:= .func (.func 314) #[] #[],born:=3}]

theorem fL(w:World):Pure Tryz.prog 294 #[] w fun v w'=>∃r,v= .map (some r)/\w'.heap[r]? =some (.map BP 4):=by
 have hg:=World.grownBy_alloc w (.map #[] 0) none;refine F.fL.vc ⟨_,_,(by simp[Instr.makeMap]:(Instr.makeMap 332 none).run Tryz.prog w= .ok (.map (some w.heap.size)) (w.alloc (.map #[] 0))),bM hg sm lf,hg.size,fun k ty cs h=>(by cases h),_,rfl,?_⟩;refine xD (World.alloc_heap_new w _) lf rfl fun e a=> ?_
 refine xD a lf rfl fun g b=> ?_
 refine xD b lf rfl fun i c=> ?_
 refine xD c lf rfl fun j d=> ?_
 exact⟨_,rfl,d⟩
theorem lZ(w:World):Pure Tryz.prog 270 #[] w fun v w'=>∃r,v= .map (some r)/\w'.heap[r]? =some (.map BP 4):=by
 refine F.lZ.vc (pm (fL w) ?_);rintro v a _ ⟨r,rfl,h⟩;exact⟨_,rfl,r,rfl,h⟩

theorem Yv{w:World}{r:Nat}{key:Int}{f i:Nat}(h:w.heap[r]? =some (.map BP 4))(hf:Instr.findNow (.int .u8) (.int .u8 key) BP.toList 0=some (some (i,.func (.func f) #[] #[]))):
  (Instr.lookup 332 (.map (some r)) (.int .u8 key) false).run Tryz.prog w= .ok (.func (.func f) #[] #[]) w:=by
 have hm:=Tryz.underlying332;have a:=Tryz.underlying5;have b:(Instr.checkKey BP.isEmpty 10000 5 (.int .u8 key)).run Tryz.prog w= .ok () w:=MapKept.run_checkKey a (by simp[MapKept.IsKey]) _ 9999;simp[Instr.lookup,run_underlying hm,MapKept.run_getObj_map h,b,MapKept.run_findKey a hf,Result.andThen]

theorem BQ{w:World}{x y:Rat}(hg:bj w)(hx:kA x)(hy:kA y):
  Pure Tryz.prog 312 #[fV x,fV y] w fun v _=>v=fV (x - y):=by
 refine F.iL.vc fun w1 a=>pm (gK hy _) ?_
 rintro v c b rfl;refine⟨_,_,rfl,pm (jc (hg.next (kP (k0 a) b)) hx hy.neg) ?_⟩;rintro v d _ rfl;refine⟨_,_,rfl,fun e _=> ?_⟩;rw[SM]

theorem gp{w:World}{x y z:Rat}{key:Int}{f i:Nat}(hg:bj w)(hx:kA x)(hy:kA y)(hz:Sm 300000 z)(m:key≠47)(hf:Instr.findNow (.int .u8) (.int .u8 key) BP.toList 0=some (some (i,.func (.func f) #[] #[])))
  (n:ay Tryz.prog f=true) (h:∀w,bj w->Pure Tryz.prog f #[fV x,fV y] w fun v _=>v=fV z):
  Pure Tryz.prog 233 #[.int .u8 key,.string (rS x),.string (rS y)] w fun v _=>v= .tuple #[.string (rS z),.int .i64 0]:=by
 refine F.gp.vc (pm (jb hg hx hy) ?_);rintro v D o rfl;have call:∀e,Below w.heap.size w e->ay Tryz.prog f=true/\(Pure Tryz.prog f ((Array.toList (#[]:Array Value))++([(.agg #[(.string (iS x.num)),(.string (nS x.den))]),(.agg #[(.string (iS y.num)),(.string (nS y.den))])]:List Value)++(Array.toList (#[]:Array Value))).toArray e fun g q=>∃(b:ByteArray)(c:ByteArray),g=(.agg #[(.string b),(.string c)])/\(Pure Tryz.prog 271 #[(.agg #[(.string b),(.string c)])] q fun j E=>∃(l:ByteArray),j=(.string l)/\(Value.tuple #[(.string l),(.int .i64 (0:Int))]= .tuple #[.string (rS z),.int .i64 0]))):=by
  intro e hb;refine⟨n,pm (h e (hg.next hb)) ?_⟩;rintro v G _ rfl;refine⟨_,_,rfl,pm (De hz _) ?_⟩;rintro v H _ rfl;exact⟨_,rfl,rfl⟩
 have look:∀d r,Below w.heap.size w d->d.heap[r]? =some (.map BP 4)->∀tys,∀K:Value->World->Prop,K (.func (.func f) #[] #[]) d->ae Tryz.prog (Instr.lookup 332 (.map (some r)) (.int .u8 key) false) w.heap.size tys d K:=by
  intro d r hb k tys K A;exact⟨_,_,Yv k hf,Below.refl _ _,eU _,fun _ _ _ _ h=>rfl,A⟩
 refine⟨_,_,_,_,_,rfl,fun h=>absurd rfl h,fun _=>⟨fun h=>absurd h m,fun _=> ?_⟩⟩
 repeat' apply And.intro
 all_goals (intro I B;refine pm (lZ _) ?_;rintro v J C ⟨r,rfl,k⟩;have a:=kP (kE o B) C;refine⟨_,rfl,?_⟩)
 all_goals repeat' apply And.intro
 all_goals (refine look _ r a k _ _ ⟨_,_,_,rfl,?_⟩)
 all_goals first|exact call _ a|exact⟨call _ a,call _ a⟩

theorem iJ{w:World}{x y:Rat}(hg:bj w)(hx:kA x)(hy:kA y):
  Pure Tryz.prog 189 #[.string (rS x),.string (rS y)] w fun v _=>v= .tuple #[.string (rS (x+y)),.int .i64 0]:=by
 refine F.iJ.vc (pm (gp hg hx hy ((hx.add hy).mono om) om rfl kF fun w hg=>jc hg hx hy) ?_);rintro v a _ rfl;exact⟨_,_,rfl,rfl⟩
theorem jR{w:World}{x y:Rat}(hg:bj w)(hx:kA x)(hy:kA y):
  Pure Tryz.prog 188 #[.string (rS x),.string (rS y)] w fun v _=>v= .tuple #[.string (rS (x - y)),.int .i64 0]:=by
 refine F.jR.vc (pm (gp hg hx hy ((hx.sub hy).mono om) om rfl kF fun w hg=>BQ hg hx hy) ?_);rintro v a _ rfl;exact⟨_,_,rfl,rfl⟩
theorem iK{w:World}{x y:Rat}(hg:bj w)(hx:kA x)(hy:kA y):
  Pure Tryz.prog 190 #[.string (rS x),.string (rS y)] w fun v _=>v= .tuple #[.string (rS (x*y)),.int .i64 0]:=by
 refine F.iK.vc (pm (gp hg hx hy ((hx.mul hy).mono om) om rfl kF fun w hg=>jF hg hx hy) ?_);rintro v a _ rfl;exact⟨_,_,rfl,rfl⟩

theorem eD {w : World} {x y : Rat} (hg : bj w) (hx : kA x) (hy : kA y) :
    Pure Tryz.prog 155 #[.string (rS x), .string (rS y)] w fun v _ => v = .tuple #[.int .i64 (gA x y), .int .i64 0] := by
  refine F.eD.vc (pm (jb hg hx hy) ?_)
  rintro v H q rfl
  refine ⟨_, _, _, _, _, rfl, fun h => absurd rfl h, fun _ => ⟨fun h r _ => ?_, fun A r B => pm (vJ hx _) ?_⟩⟩
  · have : x = y := Qe (By h)
    subst this
    rw [Ay.2 rfl]
  rintro v I C rfl
  have j := kP (kE q B) C
  refine ⟨_, rfl, pm (vJ hy _) ?_⟩
  rintro v J D rfl
  have m := kP j D
  have a : ∀ z : Rat, (z < 0 ∧ gA z 0 = -1) ∨ (z = 0 ∧ gA z 0 = 0) ∨ (0 < z ∧ gA z 0 = 1) := by
    intro z
    unfold gA
    by_cases h1 : z < 0
    · rw [bb h1]; exact .inl ⟨h1, rfl⟩
    · rw [aq h1]
      by_cases d : 0 < z
      · rw [bb d]; exact .inr (.inr ⟨d, rfl⟩)
      · rw [aq d]; exact .inr (.inl ⟨Rat.le_antisymm (SU.1 d) (SU.1 h1), rfl⟩)
  have sgn : (x.num * (y.den : Int) - y.num * (x.den : Int)).sign = gA x y := by
    have h1 := HQ x y
    have d := HQ y x
    have K := Qf x y
    unfold gA
    rcases Int.lt_trichotomy (x.num * (y.den : Int) - y.num * (x.den : Int)) 0 with k | k | k
    · rw [bb (h1.2 k), LN k]
    · rw [aq (fun c => by have := h1.1 c; omega), aq (fun c => by have := d.1 c; omega), k]; rfl
    · rw [aq (fun c => by have := h1.1 c; omega), bb (d.2 om), OZ k]
  refine ⟨_, rfl, fun hs => ?_, fun hs => ?_⟩
  · have e : gA x y = (if (if (1 : Int) < (gA x 0 - gA y 0) then (1 : Int) else (gA x 0 - gA y 0)) > (-1 : Int) then (if (1 : Int) < (gA x 0 - gA y 0) then (1 : Int) else (gA x 0 - gA y 0)) else (-1 : Int)) := by
      rcases a x with ⟨i, a2⟩ | ⟨i, a2⟩ | ⟨i, a2⟩ <;> rcases a y with ⟨n, g⟩ | ⟨n, g⟩ | ⟨n, g⟩ <;> rw [a2, g] at hs ⊢ <;> first | exact absurd rfl hs | skip
      all_goals first
        | (have b : x < y := by grind
           have l : gA x y = -1 := by unfold gA; rw [bb b]
           rw [l]; rfl)
        | (have b : y < x := by grind
           have l : gA x y = 1 := by unfold gA; rw [aq (SU.2 (Rat.le_of_lt b)), bb b]
           rw [l]; rfl)
    refine ⟨?_, ?_⟩
    · rcases a x with ⟨_, a2⟩ | ⟨_, a2⟩ | ⟨_, a2⟩ <;> rcases a y with ⟨_, g⟩ | ⟨_, g⟩ | ⟨_, g⟩ <;> rw [a2, g] <;> simp only [aU] <;> omega
    · rw [← e]
  · have n1 := iI hx.1 hy.2
    have n2 := iI hy.1 hx.2
    have i : (x.num * (y.den : Int)).natAbs = x.num.natAbs * y.den := by rw [Bx, tR]
    have a2 : (y.num * (x.den : Int)).natAbs = y.num.natAbs * x.den := by rw [Bx, tR]
    have m1 : (x.num * (y.den : Int)).natAbs < fy := by rw [i]; exact nY n1 om
    have m2 : (y.num * (x.den : Int)).natAbs < fy := by rw [a2]; exact nY n2 om
    rw [← pj y.den, ← pj x.den]
    refine pm (gJ (hg.next m) (hx.HS om) (by rw [tR]; exact hy.HT om) m1) ?_
    rintro v L E rfl
    have o := kP m E
    refine ⟨_, _, rfl, pm (gJ (hg.next o) (hy.HS om) (by rw [tR]; exact hx.HT om) m2) ?_⟩
    rintro v M G rfl
    refine ⟨_, _, rfl, pm (iX (hg.next (kP o G)) m1 m2) ?_⟩
    rintro v N _ rfl
    refine ⟨_, _, rfl, ?_⟩
    rw [sgn]

def bR(w:World)(A:Option Addr)(sz:Nat)(rows:List (List Value)):Prop:=
 rows=[]∨∃b off cs ty fr,A=some ⟨b,off,none⟩/\w.heap[b]? =some (.cells cs ty fr)/\∀i,(h:i<rows.length)->∀j,(hj:j<rows[i].length)->rows[i].length=sz/\cs[off+i*sz+j]? =some (rows[i][j])

theorem bR.below{w w':World}{A:Option Addr}{sz:Nat}{rows:List (List Value)}(h:bR w A sz rows)(hb:Below w.heap.size w w'):bR w' A sz rows:=by
 rcases h with h|⟨b,off,cs,ty,fr,c,a,d⟩
 ·exact .inl h
 ·exact .inr ⟨b,off,cs,ty,fr,c,(hb.block b (ax.1 a).1).trans a,d⟩
theorem bR.au{w w':World}{A:Option Addr}{sz B:Nat}{rows:List (List Value)}(h:bR w A sz rows)(hb:Below B w w')(hB:w.heap.size<=B):bR w' A sz rows:=h.below (hb.mono hB)
theorem xF(b off i j sz:Nat):(((⟨b,off,none⟩:Addr).add (i*sz)).add j)=⟨b,off+i*sz+j,none⟩:=by
 have a:∀o k:Nat,(⟨b,o,none⟩:Addr).add k=⟨b,o+k,none⟩:=by
  intro o k;unfold Addr.add;split
  ·rename_i h;subst h;rfl
  ·rfl
 rw[a,a]

theorem bR.load{w:World}{A:Option Addr}{sz n:Nat}{rows:List (List Value)}(h:bR w A sz rows)(hl:rows.length=n){j:Int}(l:0<=j)(h1:j<n):
  (0<=j/\j<n)/\∃a,A=some a/\∀row,rows[j.toNat]? =some row->row.length=sz->aa w (a.add (j.toNat*sz)) row/\∀k v,row[k]? =some v->aa w ((a.add (j.toNat*sz)).add k) [v]:=by
 refine⟨⟨l,h1⟩,?_⟩;rcases h with h|⟨b,off,cs,ty,fr,m,o,q⟩
 ·subst h;simp at hl;omega
 ·refine⟨_,m,fun row r hlen=> ?_⟩;have hj:j.toNat<rows.length:=om;have g:rows[j.toNat]=row:=by simpa[hj]using r
  have c:∀k v,row[k]? =some v->w.cell? (((⟨b,off,none⟩:Addr).add (j.toNat*sz)).add k)=some v:=by
   intro k v d;obtain⟨e,x⟩:=eh.1 d;rw[xF];simp only[World.cell?,o];have:=(q j.toNat hj k (by rw[g];exact e)).2;rw[this];subst g;simp[x]
  refine⟨fun i hi=>c i _ (by simp[hi]),fun k v d i hi=> ?_⟩;simp at hi;subst hi;have:=c k v d;rw[show((((⟨b,off,none⟩:Addr).add (j.toNat*sz)).add k).add 0)=(((⟨b,off,none⟩:Addr).add (j.toNat*sz)).add k) by simp[Addr.add]];exact this

def aE(w:World)(B ty:Nat)(A:Option Addr)(n c sz:Nat)(rows:List (List Value)):Prop:=
 w.ownsRow B ty sz (.slice A n c) n rows.flatten/\rows.length=n/\∀r∈rows,r.length=sz
theorem aE.sl{w:World}{B ty:Nat}{A:Option Addr}{n c sz:Nat}{rows:List (List Value)}(h:aE w B ty A n c sz rows):bR w A sz rows:=by
 obtain⟨h,hl,b⟩:=h;rcases h.2 with⟨h1,l⟩|⟨g,cap,cur,h1,hb,hg,m,hm,hs,d⟩
 ·left
  exact ep om
 ·cases h1;refine .inr ⟨g,0,cur,ty,_,rfl,hg,fun i hi j hj=>⟨b _ (bw _),?_⟩⟩;have hlen:rows[i].length=sz:=b _ (bw _);have key:rows.flatten[i*sz+j]? =some (rows[i][j]):=by
   clear d h hl;induction rows generalizing i with
   |nil=>simp at hi
   |cons r rs ih=>
    have o:r.length=sz:=b r sm;cases i with
    |zero=>
     have a:j<r.length:=hj;rw[Sx,jx,tD,gv a];simp[a]
    |succ i=>
     have k:i<rs.length:=by simpa using hi
     have a:j<rs[i].length:=hj;rw[tD,hU (by rw[nU];omega)];have:=ih (fun x hx=>b x (by simp[hx])) i k a hlen;have e:(i+1)*sz+j - r.length=i*sz+j:=by rw[nU];omega
     rw[e,this];rfl
  rw[<-d,kh]at key;split at key
  ·simpa using key
  ·cases key
theorem aE.len{w:World}{B ty:Nat}{A:Option Addr}{n c sz:Nat}{rows:List (List Value)}(h:aE w B ty A n c sz rows):rows.length=n:=h.2.1
theorem aE.uJ{w:World}{B ty:Nat}{A:Option Addr}{n c sz:Nat}{rows:List (List Value)}(h:aE w B ty A n c sz rows):∀a,A=some a->B<=a.block/\a.block<w.heap.size:=by
 intro a ha;subst ha;exact World.ownsRow.lt h.1 a.block rfl
theorem aE.other{w w':World}{B ty:Nat}{A:Option Addr}{n c sz:Nat}{rows:List (List Value)}(h:aE w B ty A n c sz rows)(b:∀a,A=some a->w'.heap[a.block]? =w.heap[a.block]?):aE w' B ty A n c sz rows:=by
 refine⟨⟨h.1.1,?_⟩,h.2⟩;rcases h.1.2 with h1|⟨g,cap,cur,h1,d,e,i⟩
 ·exact .inl h1
 ·cases h1;refine .inr ⟨g,_,cur,rfl,d,?_,i⟩;have:=b _ rfl;simp only at this;rw[this];exact e
theorem aE.below{w w':World}{B ty:Nat}{A:Option Addr}{n c sz:Nat}{rows:List (List Value)}(h:aE w B ty A n c sz rows)(hb:Below w.heap.size w w'):aE w' B ty A n c sz rows:=
 h.other fun a ha=>hb.block _ (h.uJ a ha).2
theorem aE.nil{w:World}{B ty sz:Nat}:aE w B ty none 0 0 sz []:=⟨World.ownsRow_nil _ _ _ _,rfl,sm⟩

theorem bc{t e sz bytes:Nat}(el:El Tryz.prog t e sz bytes)(xs:List Value)(hx:∀v∈xs,v.cells.size=sz)(hn:xs.length<=1024){B:Nat}{w:World}{tys:List Nat}(hB:B<=w.heap.size){K:Option Addr->Nat->Nat->World->Prop}
  (h:∀A c b,aE b w.heap.size e A xs.length c sz (xs.map fun v=>v.cells.toList)->Below w.heap.size w b->K A xs.length c b):
  ae Tryz.prog (Instr.buildSlice t xs.length (xs.zipIdx.map fun x=>(x.2,x.1)).toArray) B tys w fun r w1=>∃A n c,r= .slice A n c/\K A n c w1:=by
 have a:=oJ el xs hx hn w;have hg:=World.grownBy_alloc w (.cells (xs.flatMap fun v=>v.cells.toList).toArray e) none;have hb:Below w.heap.size w (w.alloc (.cells (xs.flatMap fun v=>v.cells.toList).toArray e)):=bM hg sm lf;have hlen:(xs.flatMap fun v=>v.cells.toList).length=xs.length*sz:=by
  clear a hg hb h;induction xs with
  |nil=>simp
  |cons x r ih=>
   have h1:=hx x sm;rw[u6,ek,ih (fun v d=>hx v (by simp[d])) (by simp at hn;omega),eL,nU,ob,h1];omega
 refine⟨_,_,a,hb.mono hB,hg.size,fun k ty cs _ g=>hg.block k (ax.1 g).1 sm,_,_,_,rfl,h _ _ _ ⟨⟨?_,.inr ⟨w.heap.size,xs.length,_,rfl,eU _,heap_alloc_new w _,eU _,by simp only[maxLen];omega,?_,?_⟩⟩,sm,?_⟩ hb⟩
 ·rw[<-List.flatMap_def];exact hlen
 ·rw[Bt];exact hlen
 ·rw[<-List.flatMap_def];exact de (by rw[hlen];exact eU _)
 ·intro r a;obtain⟨v,d,rfl⟩:=hM.1 a;simpa using hx v d

theorem aE.jY{w:World}{B ty:Nat}{A:Option Addr}{n c sz:Nat}{rows:List (List Value)}(h:aE w B ty A n c sz rows):n<=c:=by
 obtain⟨_,_,h1,a⟩:=ownsRow_form h.1;cases h1;exact a
theorem so{t ty e sz bytes:Nat}(el:El Tryz.prog t e sz bytes){B0 B:Nat}(b:B0<=B){tys:List Nat}{w:World}{A:Option Addr}{n c:Nat}{rows:List (List Value)}(ho:aE w B e A n c sz rows){x:Value}(hx:x.cells.size=sz)(h1:∀u∈x.cells.toList,bl u=true)
  (hB:B<=w.heap.size) (nB:(n+1)*(bytes+1)<=140737488355328) (d:e∉tys) {K:Option Addr->Nat->Nat->World->Prop}
  (h:∀A' c' a,aE a B e A' (n+1) c' sz (rows++[x.cells.toList])->w.grownBy a (Value.ownBlock (.slice A n c))->Below B0 w a->K A' (n+1) c' a):
  ae Tryz.prog (Instr.buildSlice t 1 #[(0,x)]) B0 tys w fun r w1=>∃A2 m c2,r= .slice A2 m c2/\
   ae Tryz.prog (Builtin.append_ #[t,t] ty #[.slice A n c,.slice A2 m c2]) B0 tys w1 fun r a=>∃A n c,r= .slice A n c/\K A n c a:=
 vC el b ho.1 hx h1 hB nB d fun A' c' a g i j=>h A' c' a ⟨by rw[po];simpa using g,by simp[ho.len],fun r k=>by
  rcases fi.1 k with h|h
  ·exact ho.2.2 r h
  ·simp at h;subst h;simpa using hx⟩ i j

theorem bT(b o:Nat)(k:Nat):(⟨b,o,none⟩:Addr).add k=⟨b,o+k,none⟩:=by
 unfold Addr.add;split
 ·rename_i h;subst h;rfl
 ·rfl
theorem aZ{w:World}{b ty:Nat}{vs:List Value}(h:w.heap[b]? =some (.cells vs.toArray ty (0,0))){k:Nat}{v:Value}(a:vs[k]? =some v):aa w ((⟨b,0,none⟩:Addr).add k) [v]:=by
 intro i hi;simp at hi;subst hi;rw[bT,bT];simp[World.cell?,h,a]
theorem bE{w:World}{b ty:Nat}{vs:List Value}(h:w.heap[b]? =some (.cells vs.toArray ty (0,0))){v:Value}(a:vs[0]? =some v):aa w (⟨b,0,none⟩:Addr) [v]:=by
 have:=aZ h a;rwa [bT]at this
theorem ag{w w':World}{b:Nat}{o:Obj}(h:w.heap[b]? =some o)(hb:Below w.heap.size w w'):w'.heap[b]? =some o:=(hb.block b (ax.1 h).1).trans h

theorem ext_nil{B:Nat}{w w':World}(x:Ext B [] w w'){k:Nat}{o:Obj}(h:w.heap[k]? =some o):w'.heap[k]? =some o:=by
 rcases x.other k (ax.1 h).1 with h1|⟨t,a,_⟩
 ·rw[h1];exact h
 ·simp at a
theorem aE.kL{B0:Nat}{w w':World}{B ty:Nat}{A:Option Addr}{n c sz:Nat}{rows:List (List Value)}(h:aE w B ty A n c sz rows)(x:Ext B0 [] w w'):aE w' B ty A n c sz rows:=
 h.other fun a ha=>by
  rcases x.other a.block (h.uJ a ha).2 with h1|⟨t,b,_⟩
  ·exact h1
  ·simp at b
theorem bR.kL{B0:Nat}{w w':World}{A:Option Addr}{sz:Nat}{rows:List (List Value)}(h:bR w A sz rows)(x:Ext B0 [] w w'):bR w' A sz rows:=by
 rcases h with h|⟨b,off,cs,ty,fr,a,c,d⟩
 ·exact .inl h
 ·exact .inr ⟨b,off,cs,ty,fr,a,ext_nil x c,d⟩

theorem uP{sz:Nat}{cs:Array Value}:∀(rows:List (List Value)) (off:Nat),(∀r∈rows,r.length=sz)->(∀i,(h:i<rows.length)->∀j,(hj:j<rows[i].length)->cs[off+i*sz+j]? =some (rows[i][j]))->∀(j:Nat)(u:Value),rows.flatten[j]? =some u->cs[off+j]? =some u:=by
 intro rows;induction rows with
 |nil=>intro off _ _ j u hu;simp at hu
 |cons r rs ih=>
  intro off a b j u hu;have d:r.length=sz:=a r sm;by_cases hj:j<r.length
  ·rw[tD,gv hj]at hu;have:=b 0 sm j hj;simp only[Sx,va,List.getElem_cons_zero]at this;rw[this];simpa[hj]using hu
  ·rw[tD,hU om]at hu;have:=ih (off+sz) (fun x hx=>a x (by simp[hx])) (fun i hi k c=>by
    have:=b (i+1) (by simp;omega) k c;rw[nU]at this;rw[show off+sz+i*sz+k=off+(i*sz+1*sz)+k by omega];exact this) (j - r.length) u hu
   rw[show off+j=off+sz+(j - r.length) by omega];exact this

theorem ua{t ty e sz bytes:Nat}(el:El Tryz.prog t e sz bytes){B0 B:Nat}(o:B0<=B){tys:List Nat}{w:World}{A:Option Addr}{n c:Nat}{rows:List (List Value)}(ho:aE w B e A n c sz rows)
  {a:Addr} {m c2:Nat} {more:List (List Value)} (g:bR w (some a) sz more) (hm:more.length=m) (k:∀r∈more,r.length=sz) (h1:∀r∈more,∀u∈r,bl u=true)
  (hB:B<=w.heap.size) (nB:(n+m)*(bytes+1)<=140737488355328) (q:e∉tys) {K:Option Addr->Nat->Nat->World->Prop}
  (h:∀A' c' d,aE d B e A' (n+m) c' sz (rows++more)->w.grownBy d (Value.ownBlock (.slice A n c))->Below B0 w d->K A' (n+m) c' d):
  ae Tryz.prog (Builtin.append_ #[t,t] ty #[.slice A n c,.slice (some a) m c2]) B0 tys w fun r d=>∃A n c,r= .slice A n c/\K A n c d:=by
 have hlen:more.flatten.length=m*sz:=by
  rw[<-hm];clear g hm h1 h nB;induction more with
  |nil=>simp
  |cons r rs ih=>rw[tD,ek,ih (fun x hx=>k x (by simp[hx])),k r sm,eL,nU];omega
 refine rX el o ho.1 (news:=more.flatten) hlen (fun j u hu=> ?_) (fun u hu=> ?_) hB nB q fun A' c' d y z C=>h A' c' d ⟨by rw[po];exact y,by simp[ho.len,hm],fun r l=> ?_⟩ z C
 ·rcases g with g|⟨b,off,cs,ty,fr,D,E,F⟩
  ·subst g;simp at hu
  ·cases D;rw[bT];simp only[World.cell?,E];have:=uP more off k (fun i hi j hj=>(F i hi j hj).2) j u hu;simpa using this
 ·obtain⟨r,l,G⟩:=Mz.1 hu;exact h1 r l u G
 ·rcases fi.1 l with h|h
  ·exact ho.2.2 r h
  ·exact k r h

theorem bR.rf{w:World}{sz:Nat}{rows:List (List Value)}(h:bR w none sz rows):rows=[]:=by
 rcases h with h|⟨b,off,cs,ty,fr,a,_⟩
 ·exact h
 ·cases a

theorem FK(p:List Value):∀(vs l:List Value)(o:Nat),setCells (p++l) (p.length+o) vs=p++setCells l o vs:=by
 intro vs;induction vs with
 |nil=>intro l o;rfl
 |cons v r ih=>
  intro l o;rw[setCells,setCells,yl _ _ om,show p.length+o - p.length=o by omega,IS,ih]
theorem Dg(q:List Value):∀(vs l:List Value)(o:Nat),o+vs.length<=l.length->setCells (l++q) o vs=setCells l o vs++q:=by
 intro vs;induction vs with
 |nil=>intro l o _;rfl
 |cons v r ih=>
  intro l o h;simp only[eL]at h;rw[setCells,setCells,List.set_append_left _ _ om,ih _ _ (by simp;omega)]
theorem fT:∀(vs l:List Value)(o:Nat),(setCells l o vs).length=l.length:=by
 intro vs;induction vs with
 |nil=>intro l o;rfl
 |cons v r ih=>intro l o;rw[setCells,ih];simp
theorem jH{sz:Nat}:∀(rows:List (List Value)),(∀r∈rows,r.length=sz)->rows.flatten.length=rows.length*sz:=by
 intro rows;induction rows with
 |nil=>intro _;simp
 |cons r rs ih=>intro h;rw[tD,ek,ih (fun x hx=>h x (by simp[hx])),h r sm,eL,nU];omega
theorem HV{sz:Nat}{rows:List (List Value)}(h:∀r∈rows,r.length=sz){i:Nat}{row:List Value}(a:rows[i]? =some row){k:Nat}{vs:List Value}(d:k+vs.length<=sz):
  setCells rows.flatten (i*sz+k) vs=(rows.set i (setCells row k vs)).flatten:=by
 obtain⟨hi,e⟩:=eh.1 a;have b:rows=rows.take i++row::rows.drop (i+1):=by
  rw[<-e,<-cz hi,hN]
 have hl:(rows.take i).length=i:=by simp;omega
 have hp:(rows.take i).flatten.length=i*sz:=by rw[jH _ (fun r c=>h r (iF c)),hl]
 have c:row.length=sz:=h row (ga a)
 conv=>lhs;rw[b]
 conv=>rhs;rw[b]
 rw[yl _ _ om,hl,JN,JX,po,po,tD,tD,<-hp,FK,Dg _ _ _ _ om]

theorem aE.set{w:World}{B ty:Nat}{A:Option Addr}{n c sz:Nat}{rows:List (List Value)}(h:aE w B ty A n c sz rows){i:Int}(l:0<=i)(h1:i<n)(k:Nat)(vs:List Value)(row:List Value)(e:rows[i.toNat]? =some row)(m:k+vs.length<=sz):
  (0<=i/\i<n)/\∃a,A=some a/\∃cs:List Value,B<=((a.add (i.toNat*sz)).add k).block/\((a.add (i.toNat*sz)).add k).spot=none/\w.heap[((a.add (i.toNat*sz)).add k).block]? =some (.cells cs.toArray ty (0,0))/\((a.add (i.toNat*sz)).add k).off+vs.length<=cs.length/\
   ∀w1,aL w w1 ((a.add (i.toNat*sz)).add k).block ty (setCells cs ((a.add (i.toNat*sz)).add k).off vs)->aE w1 B ty A n c sz (rows.set i.toNat (setCells row k vs)):=by
 refine⟨⟨l,h1⟩,?_⟩;have hl:=h.len;have q:∃a,A=some a:=by
  rcases h.1.2 with⟨_,j⟩|⟨g,cap,cur,j,_⟩
  ·omega
  ·cases j;exact⟨_,rfl⟩
 obtain⟨a,rfl⟩:=q;have hlen:rows.flatten.length=n*sz:=by rw[jH _ h.2.2,hl]
 have hle:i.toNat*sz+k+vs.length<=rows.flatten.length:=by
  have:(i.toNat+1)*sz<=n*sz:=gb _ om;rw[nU]at this;omega
 obtain⟨cs,c1,c2,c3,c4,c5,x⟩:=vD h.1 (off:=i.toNat*sz+k) hle;obtain⟨b,o,s⟩:=a;simp only at c1 c2 c3 c4;subst c2;subst c3;refine⟨⟨b,0,none⟩,rfl,?_⟩;rw[xF];simp only[jx];refine⟨cs,c1,trivial,c4,c5,fun w1 hw=>⟨?_,by simp[hl],fun r y=> ?_⟩⟩
 ·have:=x w1 hw;rwa [HV h.2.2 e m]at this
 ·rcases GI y with d|d
  ·exact h.2.2 r d
  ·subst d;rw[fT];exact h.2.2 row (ga e)
theorem acu(a:Addr):a.add 0=a:=by unfold Addr.add;simp
theorem aE.Nc{w:World}{B ty:Nat}{A:Option Addr}{n c sz:Nat}{rows:List (List Value)}(h:aE w B ty A n c sz rows){i:Int}(j:0<=i)(h1:i<n)(vs:List Value)(row:List Value)(d:rows[i.toNat]? =some row)(g:vs.length=sz):
  (0<=i/\i<n)/\∃a,A=some a/\∃cs:List Value,B<=(a.add (i.toNat*sz)).block/\(a.add (i.toNat*sz)).spot=none/\w.heap[(a.add (i.toNat*sz)).block]? =some (.cells cs.toArray ty (0,0))/\(a.add (i.toNat*sz)).off+vs.length<=cs.length/\
   ∀w1,aL w w1 (a.add (i.toNat*sz)).block ty (setCells cs (a.add (i.toNat*sz)).off vs)->aE w1 B ty A n c sz (rows.set i.toNat vs):=by
 obtain⟨k,a,l,cs,c1,c2,c3,c4,c5⟩:=h.set j h1 0 vs row d om;rw[acu]at c1 c2 c3 c4 c5;have e:setCells row 0 vs=vs:=by
  have b:row.length=vs.length:=by rw[g];exact h.2.2 row (ga d)
  clear d c5 g;have gen:∀(vs row p:List Value),row.length=vs.length->setCells (p++row) p.length vs=p++vs:=by
   intro vs;induction vs with
   |nil=>intro row p b;have:row=[]:=ep b;subst this;rfl
   |cons v r ih=>
    intro row p b;cases row with
    |nil=>simp at b
    |cons u t=>
     rw[setCells,yl _ _ lf,JN,JX];have:=ih t (p++[v]) (by simpa using b);simpa using this
  simpa using gen vs row [] b
 rw[e]at c5;exact⟨k,a,l,cs,c1,c2,c3,c4,c5⟩
theorem aL.dQ{w w1:World}{B b ty:Nat}{cs:List Value}(h:aL w w1 b ty cs)(hB:B<=b):Below B w w1:=
 ⟨h.os,h.tape,h.output,by rw[h.size];exact eU _,fun k a=>h.rest k om⟩
theorem aE.base{w:World}{B B' ty:Nat}{A:Option Addr}{n c sz:Nat}{rows:List (List Value)}(h:aE w B' ty A n c sz rows)(hB:B<=B'):aE w B ty A n c sz rows:=by
 refine⟨⟨h.1.1,?_⟩,h.2⟩;rcases h.1.2 with a|⟨g,cap,cur,a,b,d⟩
 ·exact .inl a
 ·exact .inr ⟨g,cap,cur,a,dp hB b,d⟩
theorem dX:∀(vs l:List Value)(o k:Nat),o+vs.length<=l.length->(setCells l o vs)[k]? =if o<=k/\k<o+vs.length then vs[k - o]? else l[k]? :=by
 intro vs;induction vs with
 |nil=>intro l o k h;rw[setCells,aq (by intro⟨a,b⟩;simp at b;omega)]
 |cons v r ih=>
  intro l o k h;simp only[eL]at h⊢;rw[setCells,ih _ _ _ (by simp;omega)];by_cases h1:o+1<=k/\k<o+1+r.length
  ·rw[bb h1,bb om,show k - o=(k - (o+1))+1 by omega,List.getElem?_cons_succ]
  ·rw[aq h1];by_cases c:k=o
   ·subst c;rw[bb om,xt om];simp
   ·rw[aq om,LM om]

theorem qg(b t:Nat):∀(vs:List Value)(o:Nat)(w:World)(cur:List Value),w.heap[b]? =some (.cells cur.toArray t (0,0))->
  (w.setCells b o vs).heap[b]? =some (.cells (setCells cur o vs).toArray t (0,0))/\(∀k,k≠b->(w.setCells b o vs).heap[k]? =w.heap[k]?)/\(w.setCells b o vs).heap.size=w.heap.size/\(w.setCells b o vs).os=w.os/\(w.setCells b o vs).tape=w.tape/\(w.setCells b o vs).output=w.output:=by
 intro vs;induction vs with
 |nil=>intro o w cur h;exact⟨h,fun _ _=>rfl,rfl,rfl,rfl,rfl⟩
 |cons v r ih=>
  intro o w cur h;have h1:(w.setCell ⟨b,o,none⟩ v).heap[b]? =some (.cells (cur.set o v).toArray t (0,0)):=by
   simp[World.setCell,PD,h]
  obtain⟨c,d,g,i,j,l⟩:=ih (o+1) (w.setCell ⟨b,o,none⟩ v) (cur.set o v) h1;rw[World.setCells];refine⟨c,fun k a=> ?_,?_,?_,?_,?_⟩
  ·rw[d k a];exact RowKit.Below.heap_setCell _ _ _ _ (fun e=>a (by first|exact e|exact e.symm))
  ·rw[g];simp[World.setCell]
  ·rw[i];rfl
  ·rw[j];rfl
  ·rw[l];rfl
theorem ub{w:World}{B b t:Nat}{cur vs:List Value}{o:Nat}(h:w.heap[b]? =some (.cells cur.toArray t (0,0)))(hB:B<=b):Below B w (w.setCells b o vs):=by
 obtain⟨g,a,i,c,d,e⟩:=qg b t vs o w cur h;exact⟨c,d,e,om,fun k j=>a k om⟩

theorem acv{b l c:Nat}(h:l<c):cD (some ⟨b,0,none⟩) l c 1=some ⟨b,l,none⟩:=by
 unfold cD;rw[aq om];simp[bT]
theorem aE.cells{w:World}{B ty:Nat}{A:Option Addr}{n c sz:Nat}{rows:List (List Value)}(h:aE w B ty A n c sz rows):∀a,A=some a->∃cs:Array Value,w.heap[a.block]? =some (.cells cs ty (0,0)):=by
 intro a ha;subst ha;rcases h.1.2 with⟨b,_⟩|⟨g,cap,cur,b,e,d,_⟩
 ·cases b
 ·cases b;exact⟨cur,d⟩
theorem uQ{w:World}{a b c tb:Nat}{d g:Array Value}(ha:w.heap[a]? =some (.cells d c (0,0)))(hb:w.heap[b]? =some (.cells g tb (0,0)))(h:c≠tb):a≠b:=by
 intro e;subst e;rw[ha]at hb;cases hb;exact h rfl

theorem oS(t:Nat)(v:Value){B:Nat}{w:World}{tys:List Nat}(hB:B<=w.heap.size){K:Addr->World->Prop}
  (h:∀b,b.heap[w.heap.size]? =some (.cells v.cells t (0,0))->Below w.heap.size w b->w.heap.size<b.heap.size->K ⟨w.heap.size,0,none⟩ b):
  ae Tryz.prog (Instr.box t v) B tys w fun r w1=>∃a,r= .pointer (some a)/\K a w1:=by
 have d:(Instr.box t v).run Tryz.prog w= .ok (.pointer (some ⟨w.heap.size,0,none⟩)) (w.alloc (.cells v.cells t)):=by
  simp[Instr.box,Sem.run_bind,Sem.run,newVar,newRow,newObj]
 have hg:=World.grownBy_alloc w (.cells v.cells t) none;have hb:Below w.heap.size w (w.alloc (.cells v.cells t)):=bM hg sm lf;have c:=heap_alloc_new w (.cells v.cells t);exact⟨_,_,d,hb.mono hB,hg.size,fun k ty cs _ e=>hg.block k (ax.1 e).1 sm,_,rfl,h _ c hb (ax.1 c).1⟩
theorem cC(t:Nat){z:Value}(hz:((Tryz.prog.info? t).bind (·.zero))=some z){B:Nat}{w:World}{tys:List Nat}(hB:B<=w.heap.size){K:Addr->World->Prop}
  (h:∀b,b.heap[w.heap.size]? =some (.cells z.cells t (0,0))->Below w.heap.size w b->w.heap.size<b.heap.size->K ⟨w.heap.size,0,none⟩ b):
  ae Tryz.prog (Instr.alloc t true (.tuple #[])) B tys w fun r w1=>∃a,r= .pointer (some a)/\K a w1:=by
 obtain⟨i,hi,c⟩:=u0.1 hz;have e:(Instr.alloc t true (.tuple #[])).run Tryz.prog w= .ok (.pointer (some ⟨w.heap.size,0,none⟩)) (w.alloc (.cells z.cells t)):=by
  simp[Instr.alloc,zeroValue,typeInfo,program,Sem.run_bind,Sem.run,hi,c,newVar,newRow,newObj]
 have hg:=World.grownBy_alloc w (.cells z.cells t) none;have hb:Below w.heap.size w (w.alloc (.cells z.cells t)):=bM hg sm lf;have d:=heap_alloc_new w (.cells z.cells t);exact⟨_,_,e,hb.mono hB,hg.size,fun k ty cs _ g=>hg.block k (ax.1 g).1 sm,_,rfl,h _ d hb (ax.1 d).1⟩

def fF{α:Type}(p:α->Bool):Nat->List α->Int
 |_,[]=> -1
 |i,c::r=>if p c then(i:Int)else fF p (i+1) r
theorem Qr{α:Type}(p:α->Bool):∀(l:List α)(k:Nat),(0<=fF p k l)↔l.any p=true:=by
 intro l;induction l with
 |nil=>intro k;simp[fF]
 |cons c r ih=>
  intro k;rw[fF];by_cases h:p c=true
  ·rw[bb h];simp[h]
  ·rw[aq h,ih];simp[h]

theorem aE.Nd{B0:Nat}{ts:List Nat}{w w':World}{B ty:Nat}{A:Option Addr}{n c sz:Nat}{rows:List (List Value)}(h:aE w B ty A n c sz rows)(x:Ext B0 ts w w')(d:ty∉ts):aE w' B ty A n c sz rows:=
 h.other fun a ha=>by
  obtain⟨cs,e⟩:=h.cells a ha;rcases x.other a.block (h.uJ a ha).2 with h1|⟨t,g,c1,c2,fr,b,i⟩
  ·exact h1
  ·rw[e]at b;cases b;exact absurd g d
theorem eE{w:World}{b ty:Nat}{vs:List Value}(h:w.heap[b]? =some (.cells vs.toArray ty (0,0))):aa w (⟨b,0,none⟩:Addr) vs:=by
 intro i hi;rw[bT];simp[World.cell?,h]

theorem Md{B:Nat}{w w':World}(x:Ext B [] w w'):Below w.heap.size w w':=
 ⟨x.below.os,x.below.tape,x.below.output,x.below.size,fun k a=>by
  have h:w.heap[k]? =some w.heap[k]:=Array.getElem?_eq_getElem a;rw[ext_nil x h,h]⟩

theorem bR.take{w:World}{A:Option Addr}{sz:Nat}{rows:List (List Value)}(h:bR w A sz rows)(k:Nat):bR w A sz (rows.take k):=by
 rcases h with h|⟨b,off,cs,ty,fr,c,d,g⟩
 ·subst h;exact .inl sm
 ·refine .inr ⟨b,off,cs,ty,fr,c,d,fun i hi j hj=> ?_⟩;have l:i<rows.length:=by rw[ew]at hi;omega
  have e:(rows.take k)[i]=rows[i]:=by simp
  have a:j<rows[i].length:=by rw[<-e];exact hj
  have:=g i l j a;simpa using this
theorem bR.Qt{w:World}{A:Option Addr}{sz c:Nat}{rows:List (List Value)}(h:bR w A sz rows){k:Nat}(o:rows.length<=c):bR w (cD A k c sz) sz (rows.drop k):=by
 by_cases g:rows.length<=k
 ·exact .inl (cd g)
 rcases h with h|⟨b,off,cs,ty,fr,l,m,a⟩
 ·subst h;exact .inl sm
 ·refine .inr ⟨b,off+k*sz,cs,ty,fr,?_,m,fun i hi j hj=> ?_⟩
  ·unfold cD;rw[aq om,l,Vq,bT]
  ·have n:k+i<rows.length:=by rw[rT]at hi;omega
   have e:(rows.drop k)[i]=rows[k+i]:=by simp
   have d:j<rows[k+i].length:=by rw[<-e];exact hj
   have:=a (k+i) n j d;have ea:off+k*sz+i*sz+j=off+(k+i)*sz+j:=by rw[nU];omega
   rw[ea];simpa using this
theorem xG{t ty e sz bytes:Nat}(el:El Tryz.prog t e sz bytes){B0 B:Nat}(j:B0<=B){tys:List Nat}{w:World}{A:Option Addr}{n c:Nat}{rows:List (List Value)}(ho:aE w B e A n c sz rows)
  {A2:Option Addr} {m c2:Nat} {more:List (List Value)} (d:bR w A2 sz more) (hm:more.length=m) (l:∀r∈more,r.length=sz) (h1:∀r∈more,∀u∈r,bl u=true) (hz:A2=none->c2=0)
  (hB:B<=w.heap.size) (nB:(n+m)*(bytes+1)<=140737488355328) (o:e∉tys) {K:Option Addr->Nat->Nat->World->Prop}
  (h:∀A' c' b,aE b B e A' (n+m) c' sz (rows++more)->w.grownBy b (Value.ownBlock (.slice A n c))->Below B w b->K A' (n+m) c' b):
  ae Tryz.prog (Builtin.append_ #[t,t] ty #[.slice A n c,.slice A2 m c2]) B0 tys w fun r b=>∃A n c,r= .slice A n c/\K A n c b:=by
 cases A2 with
 |some a=>
  refine ua el j ho d hm l h1 hB nB o fun A' c' b q g E=>h A' c' b q g ?_
  exact bM g (fun k x=>(ho.1.lt k x).1) hB
 |none=>
  have:=d.rf;subst this;have y:m=0:=by rw[<-hm];rfl
  subst y;rw[hz rfl];obtain⟨i,z,C,F,G,H,I⟩:=el.info;have D:=run_append_owned_none (P:=Tryz.prog) (w:=w) B t ty e i sz el.Ht C _ _ _ ho.1;refine⟨_,w,D,Below.refl _ _,eU _,fun _ _ _ _ _=>rfl,A,n,c,rfl,?_⟩;exact h A c w (by rw[uf];exact ho) ⟨rfl,rfl,rfl,eU _,fun _ _ _=>rfl⟩ (Below.refl _ _)

def vR(s:ByteArray):Bool:=lW (cL s)
def qR(s:ByteArray):Rat:=xz (cL s)
theorem hO{s:ByteArray}(h:vR s=true):s=rS (qR s):=by
 unfold rS qR;rw[FF h];rfl
theorem lx{s:ByteArray}{k:Nat}(h:vR s=true)(hs:s.size<=k):Sm k (qR s):=by
 refine Sm.text ?_;unfold qR;rw[FF h];exact hs
theorem acw(r:Rat):qR (rS r)=r:=xA r
abbrev ma(s:ByteArray):Prop:=s.size<=1000
theorem s0:(⟨#[48]⟩:ByteArray)=rS 0:=by
 unfold rS pM;have h1:(0:Rat).den=1:=rfl;have a:(0:Rat).num=0:=rfl;rw[bb h1,a,acj];rfl
theorem Sm.zero{k:Nat}(h:1<=k):Sm k 0:=by
 have hp:10^1<=10^k:=fm om h;have h1:(0:Rat).den=1:=rfl;have a:(0:Rat).num=0:=rfl;exact⟨by rw[a];simp;omega,om⟩

theorem Qu(z:Int):iS z=rS (z:Rat):=by
 unfold rS pM;have h1:(z:Rat).den=1:=rfl;have a:(z:Rat).num=z:=rfl;rw[bb h1,a];rfl
def BR(x:Rat):Rat:=if x<0 then -x else x
theorem Sm.abs{k:Nat}{x:Rat}(h:Sm k x):Sm k (BR x):=by
 unfold BR;split
 ·exact h.neg
 ·exact h
theorem nm:El Tryz.prog 29 88 1 16:=El.of kF

theorem ma.wX{s:ByteArray}(hs:ma s)(h:vR s=true):kA (qR s):=(lx h hs).mono om

structure Pa where
 id:Int
 aV:Int
 cls:Int
 name:ByteArray
 iB:ByteArray
 uR:ByteArray
 fY:ByteArray
structure Ho where
 id:Int
 name:ByteArray
 room:ByteArray
 nZ:ByteArray
 x:ByteArray
 y:ByteArray
 z:ByteArray
structure Sw where
 hold:Int
 av:Int
 aV:Int
 deriving DecidableEq

def vP(p:Pa):Bool:=vR p.iB&&vR p.uR&&vR p.fY
def vH(h:Ho):Bool:=vR h.room&&vR h.nZ&&vR h.x&&vR h.y&&vR h.z
def od{α:Type}(f:Option α->α->Int):Option α->List α->Int
 |_,[]=>0
 |p,x::r=>if f p x≠0 then f p x else od f (some x) r
def oh(prev:Option Pa)(p:Pa):Int:=
 if ¬((1<=p.id/\p.id<=1073741824)/\(1<=p.aV/\p.aV<=9)/\(1<=p.cls/\p.cls<=9)/\0<qR p.iB/\0<qR p.uR/\¬qR p.fY<0)then 2
 else if ¬(1<=p.name.size/\p.name.size<=64)then 4
 else if ∃q,prev=some q/\p.id<=q.id then 5 else 0
def pk(prev:Option Ho)(h:Ho):Int:=
 if ¬((1<=h.id/\h.id<=1073741824)/\¬qR h.room<0/\¬qR h.nZ<0)then 2
 else if ¬(1<=h.name.size/\h.name.size<=64)then 4
 else if ∃q,prev=some q/\h.id<=q.id then 5 else 0
def fa(ps:List Pa)(hs:List Ho):Int:=
 if ¬(ps.all vP=true/\hs.all vH=true)then 1
 else if 6<ps.length∨6<hs.length then 8
 else if od oh none ps≠0 then od oh none ps else od pk none hs

def qN(ps:List Pa)(id:Int):Option Nat:=ps.findIdx? fun p=>decide (p.id=id)
def vK(hs:List Ho)(id:Int):Option Nat:=hs.findIdx? fun h=>decide (h.id=id)
def fC(a b:Sw):Prop:=a.hold<b.hold∨a.hold=b.hold/\a.av<b.av
instance (a b:Sw):Decidable (fC a b):=by unfold fC;exact inferInstance
def cQ(l:List Sw)(p:Int):Int:=(l.map fun s=>if s.av=p then s.aV else 0).sum
def rh(ps:List Pa)(hs:List Ho)(pre:List Sw)(s:Sw):Int:=
 match qN ps s.av,vK hs s.hold with
 |some i,some _=>
  if s.aV<1 then 2
  else if ∃q,pre.getLast? =some q/\¬fC q s then 5
  else match ps[i]? with
   |some p=>if p.aV<s.aV∨p.aV<cQ (pre++[s]) s.av then 12 else 0
   |none=>0
 |_,_=>7
def nK(ps:List Pa)(hs:List Ho):List Sw->List Sw->Int
 |_,[]=>0
 |pre,s::r=>if rh ps hs pre s≠0 then rh ps hs pre s else nK ps hs (pre++[s]) r
def hX(ps:List Pa)(hs:List Ho)(l:List Sw):Int:=if fa ps hs≠0 then 1 else nK ps hs [] l

structure BS (ps:List Pa) (hs:List Ho):Prop where
 vp:∀p∈ps,vP p=true
 vh:∀h∈hs,vH h=true
 lp:ps.length<=6
 lh:hs.length<=6
 p1:∀p∈ps,(1<=p.id/\p.id<=1073741824)/\(1<=p.aV/\p.aV<=9)/\(1<=p.cls/\p.cls<=9)/\0<qR p.iB/\0<qR p.uR/\¬qR p.fY<0
 h1:∀h∈hs,(1<=h.id/\h.id<=1073741824)/\¬qR h.room<0/\¬qR h.nZ<0
 ip:ps.Pairwise fun a b=>a.id<b.id
 ih:hs.Pairwise fun a b=>a.id<b.id
theorem zu{α:Type}{f:Option α->α->Int}{id:α->Int}{G:α->Prop}(hf:∀p x,f p x=0->G x/\∀q,p=some q->id q<id x):
  ∀(l:List α)(p:Option α),od f p l=0->(∀x∈l,G x)/\l.Pairwise (fun a b=>id a<id b)/\(∀q,p=some q->∀x∈l,id q<id x):=by
 intro l;induction l with
 |nil=>intro p _;exact⟨sm,List.Pairwise.nil,sm⟩
 |cons x r ih=>
  intro p h;rw[od]at h;by_cases c:f p x=0
  ·rw[aq (fun k=>k c)]at h;obtain⟨h1,e,d⟩:=ih (some x) h;obtain⟨g1,g2⟩:=hf p x c;refine⟨?_,wo.2 ⟨fun y hy=>d x rfl y hy,e⟩,fun q g y hy=> ?_⟩
   ·intro y hy;rcases cc.1 hy with rfl|hy
    ·exact g1
    ·exact h1 y hy
   ·have hx:=g2 q g;rcases cc.1 hy with rfl|hy
    ·exact hx
    ·exact Int.lt_trans hx (d x rfl y hy)
  ·rw[bb c]at h;exact absurd h c
theorem HW(p:Option Pa)(x:Pa)(h:oh p x=0):((1<=x.id/\x.id<=1073741824)/\(1<=x.aV/\x.aV<=9)/\(1<=x.cls/\x.cls<=9)/\0<qR x.iB/\0<qR x.uR/\¬qR x.fY<0)/\∀q,p=some q->q.id<x.id:=by
 unfold oh at h;split at h
 ·simp at h
 ·rename_i h1;split at h
  ·simp at h
  ·split at h
   ·simp at h
   ·rename_i a;refine⟨dT.1 h1,fun q b=> ?_⟩;apply bm;intro k;exact a ⟨q,b,om⟩
theorem HX(p:Option Ho)(x:Ho)(h:pk p x=0):((1<=x.id/\x.id<=1073741824)/\¬qR x.room<0/\¬qR x.nZ<0)/\∀q,p=some q->q.id<x.id:=by
 unfold pk at h;split at h
 ·simp at h
 ·rename_i h1;split at h
  ·simp at h
  ·split at h
   ·simp at h
   ·rename_i a;refine⟨dT.1 h1,fun q b=> ?_⟩;apply bm;intro k;exact a ⟨q,b,om⟩
theorem mc{ps:List Pa}{hs:List Ho}(h:fa ps hs=0):BS ps hs:=by
 unfold fa at h;split at h
 ·simp at h
 ·rename_i h1;have h1:=dT.1 h1;split at h
  ·simp at h
  ·rename_i e;split at h
   ·rename_i a;exact absurd h a
   ·rename_i a;have a:=dT.1 a;obtain⟨b,a2,_⟩:=zu HW ps none a;obtain⟨c,d,_⟩:=zu HX hs none h;exact⟨gr.1 h1.1,gr.1 h1.2,om,om,b,c,a2,d⟩

theorem gL{ps:List Pa}{id:Int}{i:Nat}(h:qN ps id=some i):∃p,ps[i]? =some p/\p.id=id:=by
 unfold qN at h;obtain⟨hi,hp,_⟩:=tf.1 h;exact⟨ps[i],af hi,eR hp⟩
theorem pn{hs:List Ho}{id:Int}{i:Nat}(h:vK hs id=some i):∃p,hs[i]? =some p/\p.id=id:=by
 unfold vK at h;obtain⟨hi,hp,_⟩:=tf.1 h;exact⟨hs[i],af hi,eR hp⟩
theorem Az{α:Type}{f:α->Int}{l:List α}(h:l.Pairwise fun a b=>f a<f b){i j:Nat}{a b:α}(c:i<j)(ha:l[i]? =some a)(hb:l[j]? =some b):f a<f b:=by
 obtain⟨hi,rfl⟩:=eh.1 ha;obtain⟨hj,rfl⟩:=eh.1 hb;exact List.pairwise_iff_getElem.1 h i j hi hj c
theorem pq{α:Type}{f:α->Int}{l:List α}(h:l.Pairwise fun a b=>f a<f b){i j:Nat}{a b:α}(ha:l[i]? =some a)(hb:l[j]? =some b)(e:f a=f b):i=j:=by
 rcases Nat.lt_trichotomy i j with k|k|k
 ·have:=Az h k ha hb;omega
 ·exact k
 ·have:=Az h k hb ha;omega
theorem Yx{ps:List Pa}(h:ps.Pairwise fun a b=>a.id<b.id){i:Nat}{p:Pa}(hp:ps[i]? =some p):qN ps p.id=some i:=by
 cases hx:qN ps p.id with
 |none=>
  unfold qN at hx;have:=Hm.1 hx p (ga hp);simp at this
 |some j=>
  obtain⟨q,c,e⟩:=gL hx;rw[pq h c hp e]
theorem Yy{hs:List Ho}(h:hs.Pairwise fun a b=>a.id<b.id){i:Nat}{p:Ho}(hp:hs[i]? =some p):vK hs p.id=some i:=by
 cases hx:vK hs p.id with
 |none=>
  unfold vK at hx;have:=Hm.1 hx p (ga hp);simp at this
 |some j=>
  obtain⟨q,c,e⟩:=pn hx;rw[pq h c hp e]

def sA(l:List Sw):Prop:=l.Pairwise fC
theorem uS{a b c:Sw}(h:fC a b)(k:fC b c):fC a c:=by unfold fC at*;omega
theorem BU(a:Sw):¬fC a a:=by unfold fC;omega
theorem DN{a b:Sw}(h:fC a b):¬fC b a:=by unfold fC at*;omega
theorem Ud:∀{l1 c:List Sw},sA l1->sA c->(∀x,x∈l1↔x∈c)->l1=c:=by
 intro l1;induction l1 with
 |nil=>
  intro c _ _ h;cases c with
  |nil=>rfl
  |cons b r=>exact absurd ((h b).2 sm) sm
 |cons a r ih=>
  intro c h1 d h;cases c with
  |nil=>exact absurd ((h a).1 sm) sm
  |cons b s=>
   obtain⟨p1,q1⟩:=wo.1 h1;obtain⟨p2,g⟩:=wo.1 d;have e:a=b:=by
    rcases cc.1 ((h a).1 sm)with e|k
    ·exact e
    ·rcases cc.1 ((h b).2 sm)with e|i
     ·exact e.symm
     ·exact absurd (p1 b i) (DN (p2 a k))
   subst e;rw[ih q1 g fun x=> ?_];constructor
   ·intro hx;rcases cc.1 ((h x).1 (by simp[hx]))with e|k
    ·subst e;exact absurd (p1 x hx) (BU x)
    ·exact k
   ·intro hx;rcases cc.1 ((h x).2 (by simp[hx]))with e|k
    ·subst e;exact absurd (p2 x hx) (BU x)
    ·exact k
theorem Ue{l:List Sw}(h:sA l){a b:Sw}(ha:a∈l)(hb:b∈l)(g:a.hold=b.hold)(i:a.av=b.av):a=b:=by
 induction l with
 |nil=>cases ha
 |cons x r ih=>
  obtain⟨p,q⟩:=wo.1 h;rcases cc.1 ha with e|d
  ·rcases cc.1 hb with k|c
   ·rw[e,k]
   ·have:=p b c;rw[<-e]at this;unfold fC at this;omega
  ·rcases cc.1 hb with k|c
   ·have:=p a d;rw[<-k]at this;unfold fC at this;omega
   ·exact ih q d c

structure eM (ps:List Pa) (hs:List Ho) (l:List Sw):Prop where
 c:BS ps hs
 known:∀s∈l,∃i k,qN ps s.av=some i/\vK hs s.hold=some k
 pos:∀s∈l,1<=s.aV
 Kw:sA l
 full:∀p∈ps,cQ l p.id<=p.aV
theorem fZ(a b:List Sw)(p:Int):cQ (a++b) p=cQ a p+cQ b p:=by
 unfold cQ;rw[eH,List.sum_append]
theorem mG(s:Sw)(p:Int):cQ [s] p=if s.av=p then s.aV else 0:=by
 simp[cQ]
theorem jd{l:List Sw}(h:∀s∈l,1<=s.aV)(p:Int):0<=cQ l p:=by
 induction l with
 |nil=>simp[cQ]
 |cons s r ih=>
  rw[show s::r=[s]++r from rfl,fZ,mG];have:=ih fun x hx=>h x (by simp[hx])
  have:=h s sm;split<;>omega
theorem zw{ps:List Pa}{hs:List Ho}(o:BS ps hs):∀(r pre:List Sw),eM ps hs pre->nK ps hs pre r=0->eM ps hs (pre++r):=by
 intro r;induction r with
 |nil=>intro pre h _;simpa using h
 |cons s r ih=>
  intro pre h d;rw[nK]at d;by_cases h1:rh ps hs pre s=0
  ·rw[aq (fun k=>k h1)]at d;have:=ih (pre++[s]) ?_ d
   ·rw[lN]at this;exact this
   ·unfold rh at h1;cases hp:qN ps s.av with
    |none=>rw[hp]at h1;simp at h1
    |some i=>
     cases l:vK hs s.hold with
     |none=>rw[hp,l]at h1;simp at h1
     |some k=>
      rw[hp,l]at h1;simp only at h1;split at h1
      ·simp at h1
      ·rename_i hu;split at h1
       ·simp at h1
       ·rename_i hb;obtain⟨p,m,hid⟩:=gL hp;rw[m]at h1;simp only at h1;split at h1
        ·simp at h1
        ·rename_i A;refine⟨o,fun x hx=> ?_,fun x hx=> ?_,?_,fun q w=> ?_⟩
         ·rcases fi.1 hx with hx|hx
          ·exact h.known x hx
          ·rw[eb]at hx;subst hx;exact⟨i,k,hp,l⟩
         ·rcases fi.1 hx with hx|hx
          ·exact h.pos x hx
          ·rw[eb]at hx;subst hx;omega
         ·refine LO.2 ⟨h.Kw,sm,fun a ha b g=> ?_⟩;rw[eb]at g;subst g;have c:pre≠[]:=fun e=>by subst e;cases ha
          have y:pre.getLast? =some (pre.getLast c):=Jj c;have hl:fC (pre.getLast c) b:=by
           apply bm;intro k;exact hb ⟨_,y,k⟩
          have z:=Ao c;have n:=h.Kw;unfold sA at n;rw[<-z]at n ha;rcases fi.1 ha with ha|ha
          ·exact uS ((LO.1 n).2.2 a ha _ sm) hl
          ·rw[eb]at ha;rw[ha];exact hl
         ·by_cases e:q.id=s.av
          ·obtain⟨j,hj⟩:=List.getElem?_of_mem w;have:j=i:=pq o.ip hj m (by rw[hid];exact e);subst this;rw[m]at hj;cases hj;rw[e];omega
          ·rw[fZ,mG,aq (fun k=>e k.symm)];have:=h.full q w;omega
  ·rw[bb h1]at d;exact absurd d h1
theorem fw{ps:List Pa}{hs:List Ho}{l:List Sw}(h:hX ps hs l=0):eM ps hs l:=by
 unfold hX at h;split at h
 ·simp at h
 ·rename_i h1;have a:=mc (dT.1 h1);have b:eM ps hs []:=⟨a,sm,sm,List.Pairwise.nil,fun p hp=>by have:=(a.p1 p hp).2.1.1;simp[cQ];omega⟩;simpa using zw a l [] b h
theorem HY{l pre:List Sw}(h:∀s∈l,1<=s.aV){rest:List Sw}(e:l=pre++rest)(p:Int):cQ pre p<=cQ l p:=by
 subst e;rw[fZ];have:=jd (l:=rest) (fun s hs=>h s (by simp[hs])) p;omega
def il(l:List Sw)(h p:Int):Int:=l.foldl (fun n s=>if s.av=p/\s.hold=h then s.aV else n) 0
theorem uT(l:List Sw)(s:Sw)(h p:Int):il (l++[s]) h p=if s.av=p/\s.hold=h then s.aV else il l h p:=by
 unfold il;rw[List.foldl_append];rfl
theorem Qv(h p:Int):∀(l:List Sw)(n:Int),(l.foldl (fun n s=>if s.av=p/\s.hold=h then s.aV else n) n=n/\∀s∈l,¬(s.av=p/\s.hold=h))∨∃s∈l,s.av=p/\s.hold=h/\l.foldl (fun n s=>if s.av=p/\s.hold=h then s.aV else n) n=s.aV:=by
 intro l;induction l with
 |nil=>intro n;exact .inl ⟨rfl,sm⟩
 |cons x r ih=>
  intro n;rw[Vk];by_cases hx:x.av=p/\x.hold=h
  ·rw[bb hx];rcases ih x.aV with⟨e,_⟩|⟨s,hs,a,b,c⟩
   ·exact .inr ⟨x,sm,hx.1,hx.2,e⟩
   ·exact .inr ⟨s,by simp[hs],a,b,c⟩
  ·rw[aq hx];rcases ih n with⟨e,k⟩|⟨s,hs,a,b,c⟩
   ·refine .inl ⟨e,fun s hs=> ?_⟩;rcases cc.1 hs with rfl|hs
    ·exact hx
    ·exact k s hs
   ·exact .inr ⟨s,by simp[hs],a,b,c⟩
theorem ri(l:List Sw)(h p:Int):(il l h p=0/\∀s∈l,¬(s.av=p/\s.hold=h))∨∃s∈l,s.av=p/\s.hold=h/\il l h p=s.aV:=Qv h p l 0
theorem FM{l:List Sw}(hs:sA l){s:Sw}(h:s∈l):il l s.hold s.av=s.aV:=by
 rcases ri l s.hold s.av with⟨_,k⟩|⟨x,hx,a,b,c⟩
 ·exact absurd ⟨rfl,rfl⟩ (k s h)
 ·rw[c,Ue hs hx h b a]
theorem BV{l:List Sw}{h p:Int}(k:∀s∈l,¬(s.av=p/\s.hold=h)):il l h p=0:=by
 rcases ri l h p with⟨e,_⟩|⟨x,hx,a,b,_⟩
 ·exact e
 ·exact absurd ⟨a,b⟩ (k x hx)
theorem BW{l:List Sw}(hp:∀s∈l,1<=s.aV)(h p:Int):0<=il l h p:=by
 rcases ri l h p with⟨e,_⟩|⟨x,hx,_,_,e⟩
 ·omega
 ·have:=hp x hx;omega

def zT(f:Nat->Nat->Int)(ps:List Pa)(hs:List Ho)(k i:Nat):List Sw:=
 match hs[k]?,ps[i]? with
 |some h,some p=>if 0<f i k then[⟨h.id,p.id,f i k⟩]else[]
 |_,_=>[]
def ot(f:Nat->Nat->Int)(ps:List Pa)(hs:List Ho):List Sw:=(List.range hs.length).flatMap fun k=>(List.range ps.length).flatMap fun i=>zT f ps hs k i
theorem xH{f:Nat->Nat->Int}{ps:List Pa}{hs:List Ho}{k i:Nat}{s:Sw}:s∈zT f ps hs k i↔∃h p,hs[k]? =some h/\ps[i]? =some p/\0<f i k/\s=⟨h.id,p.id,f i k⟩:=by
 unfold zT;constructor
 ·intro hm;split at hm
  ·rename_i h p a b;split at hm
   ·rename_i c;rw[eb]at hm;exact⟨h,p,a,b,c,hm⟩
   ·cases hm
  ·cases hm
 ·rintro⟨h,p,a,b,c,rfl⟩;rw[a,b];simp[c]
theorem oT{f:Nat->Nat->Int}{ps:List Pa}{hs:List Ho}{s:Sw}:s∈ot f ps hs↔∃k i h p,hs[k]? =some h/\ps[i]? =some p/\0<f i k/\s=⟨h.id,p.id,f i k⟩:=by
 unfold ot;simp only[QI,B2,xH];constructor
 ·rintro⟨k,e,i,hi,h,p,a,b,c,d⟩;exact⟨k,i,h,p,a,b,c,d⟩
 ·rintro⟨k,i,h,p,a,b,c,d⟩;exact⟨k,(eh.1 a).1,i,(eh.1 b).1,h,p,a,b,c,d⟩
theorem DO{f:Nat->Nat->Int}{ps:List Pa}{hs:List Ho}(hp:ps.Pairwise fun a b=>a.id<b.id)(m:hs.Pairwise fun a b=>a.id<b.id):sA (ot f ps hs):=by
 unfold sA ot;rw[List.pairwise_flatMap];refine⟨fun k _=> ?_,?_⟩
 ·rw[List.pairwise_flatMap];refine⟨fun i _=> ?_,?_⟩
  ·unfold zT;split
   ·split<;>simp
   ·simp
  ·refine List.Pairwise.imp ?_ List.pairwise_lt_range;intro i j d x hx y hy;obtain⟨h,p,e,g,_,rfl⟩:=xH.1 hx;obtain⟨n,o,c,l,_,rfl⟩:=xH.1 hy;rw[e]at c;cases c;exact .inr ⟨rfl,Az hp d g l⟩
 ·refine List.Pairwise.imp ?_ List.pairwise_lt_range;intro i j d x hx y hy;obtain⟨a,_,hx⟩:=QI.1 hx;obtain⟨b,_,hy⟩:=QI.1 hy;obtain⟨h,p,e,g,_,rfl⟩:=xH.1 hx;obtain⟨n,o,c,l,_,rfl⟩:=xH.1 hy;exact .inl (Az m d e c)
def fA(ps:List Pa)(hs:List Ho)(l:List Sw)(i k:Nat):Int:=
 match hs[k]?,ps[i]? with
 |some h,some p=>il l h.id p.id
 |_,_=>0
theorem Wt{ps:List Pa}{hs:List Ho}{l:List Sw}{i k:Nat}{h:Ho}{p:Pa}(a:hs[k]? =some h)(b:ps[i]? =some p):fA ps hs l i k=il l h.id p.id:=by
 unfold fA;rw[a,b]
theorem Kx{ps:List Pa}{hs:List Ho}{l:List Sw}(h:eM ps hs l){f:Nat->Nat->Int}(hf:∀i k,i<ps.length->k<hs.length->f i k=fA ps hs l i k):ot f ps hs=l:=by
 refine Ud (DO h.c.ip h.c.ih) h.Kw fun s=> ?_
 rw[oT];constructor
 ·rintro⟨k,i,d,p,a,b,j,rfl⟩;have e:=hf i k (eh.1 b).1 (eh.1 a).1;rw[Wt a b]at e;rw[e]at j⊢;rcases ri l d.id p.id with⟨r,_⟩|⟨x,hx,m,n,o⟩
  ·omega
  ·rw[o,<-m,<-n];exact hx
 ·intro g;obtain⟨i,k,hi,q⟩:=h.known s g;obtain⟨p,b,i2⟩:=gL hi;obtain⟨d,a,i1⟩:=pn q;have e:=hf i k (eh.1 b).1 (eh.1 a).1;rw[Wt a b,i1,i2,FM h.Kw g]at e;refine⟨k,i,d,p,a,b,?_,?_⟩
  ·rw[e];have:=h.pos s g;omega
  ·rw[e,i1,i2]

def Ky(l:List Sw)(s:Sw):List Sw:=l.filter (fun x=>decide (fC x s))++(if 0<s.aV then[s]else[])++l.filter (fun x=>decide (fC s x))
def zU(ps:List Pa)(hs:List Ho)(l:List Sw)(w:Sw):Except Int (List Sw):=
 if hX ps hs l≠0 then .error 1
 else match qN ps w.av,vK hs w.hold with
  |some i,some _=>
   if w.aV=0∨w.aV< -9∨9<w.aV then .error 2
   else if il l w.hold w.av+w.aV<0 then .error 11
   else match ps[i]? with
    |some p=>if p.aV<cQ l w.av+w.aV then .error 12 else .ok (Ky l ⟨w.hold,w.av,il l w.hold w.av+w.aV⟩)
    |none=> .error 0
  |_,_=> .error 7
structure acx (ps:List Pa) (hs:List Ho) (l:List Sw) (w:Sw) (m:List Sw):Prop where
 r:eM ps hs l
 c:fa ps hs=0
 at_:∃i k p h,qN ps w.av=some i/\vK hs w.hold=some k/\ps[i]? =some p/\p.id=w.av/\hs[k]? =some h/\h.id=w.hold/\cQ l w.av+w.aV<=p.aV
 u:¬(w.aV=0∨w.aV< -9∨9<w.aV)
 n:0<=il l w.hold w.av+w.aV
 e:m=Ky l ⟨w.hold,w.av,il l w.hold w.av+w.aV⟩
theorem YA{ps:List Pa}{hs:List Ho}{l m:List Sw}{w:Sw}(h:zU ps hs l w= .ok m):acx ps hs l w m:=by
 unfold zU at h;split at h
 ·cases h
 ·rename_i h1;have h1:=dT.1 h1;have c:fa ps hs=0:=by
   unfold hX at h1;split at h1
   ·simp at h1
   ·rename_i k;exact dT.1 k
  split at h
  ·rename_i i k hi a;split at h
   ·cases h
   ·rename_i hu;split at h
    ·cases h
    ·rename_i hn;obtain⟨p,b,i2⟩:=gL hi;obtain⟨d,e,i1⟩:=pn a;rw[b]at h;simp only at h;split at h
     ·cases h
     ·rename_i hf;cases h;exact⟨fw h1,c,⟨i,k,p,d,hi,a,b,i2,e,i1,om⟩,hu,om,rfl⟩
  ·cases h
def me(hs:List Ho)(g:Int->Int):Int:=(hs.map fun h=>g h.id).sum
theorem Nf{hs:List Ho}{g c:Int->Int}{a:Int}{d:Int}(i:hs.Pairwise fun a b=>a.id<b.id)(h1:∀h∈hs,h.id≠a->c h.id=g h.id)(j:c a=g a+d)(hm:∃h∈hs,h.id=a):me hs c=me hs g+d:=by
 unfold me;induction hs with
 |nil=>obtain⟨h,hx,_⟩:=hm;cases hx
 |cons x r ih=>
  obtain⟨q1,l⟩:=wo.1 i;rw[zQ,zQ,wx,wx];by_cases e:x.id=a
  ·have m:(r.map fun h=>c h.id)=r.map fun h=>g h.id:=List.map_congr_left fun y hy=>h1 y (by simp[hy]) (by have:=q1 y hy;omega)
   rw[m,e,j];omega
  ·obtain⟨h,hx,he⟩:=hm;rcases cc.1 hx with k|hx
   ·subst k;exact absurd he e
   ·rw[h1 x sm e,ih l (fun y hy=>h1 y (by simp[hy])) ⟨h,hx,he⟩];omega
theorem holds_zero{hs:List Ho}{g:Int->Int}(h:∀x∈hs,g x.id=0):me hs g=0:=by
 unfold me;induction hs with
 |nil=>rfl
 |cons x r ih=>rw[zQ,wx,h x sm,ih fun y hy=>h y (by simp[hy])];rfl
theorem HZ{hs:List Ho}(i:hs.Pairwise fun a b=>a.id<b.id)(p:Int):∀{l:List Sw},sA l->(∀s∈l,∃h∈hs,h.id=s.hold)->cQ l p=me hs fun a=>il l a p:=by
 suffices H:∀(n:Nat)(l:List Sw),l.length=n->sA l->(∀s∈l,∃h∈hs,h.id=s.hold)->cQ l p=me hs fun a=>il l a p from fun {l} h1 j=>H l.length l rfl h1 j
 intro n;induction n with
 |zero=>
  intro l hl _ _;have:l=[]:=ep hl;subst this;rw[holds_zero fun x _=>rfl];rfl
 |succ n ih=>
  intro l hl d g;have c:l≠[]:=fun e=>by subst e;cases hl
  obtain⟨r,s,rfl⟩:∃r s,l=r++[s]:=⟨l.dropLast,l.getLast c,(Ao c).symm⟩
  have m:sA r:=(LO.1 d).1;rw[fZ,mG,ih r (by simpa using hl) m fun x hx=>g x (by simp[hx])];by_cases e:s.av=p
  ·rw[bb e];refine(Nf (a:=s.hold) i (fun h _ c=> ?_) ?_ (g s sm)).symm
   ·rw[uT,aq (fun k=>c k.2.symm)]
   ·rw[uT,bb ⟨e,rfl⟩,BV,Int.zero_add];intro x hx o;have:=(LO.1 d).2.2 x hx s sm;unfold fC at this;omega
  ·rw[aq e,Int.add_zero];unfold me;refine bx List.sum (List.map_congr_left fun h _=> ?_);show il r h.id p=il (r++[s]) h.id p;rw[uT,aq (fun k=>e k.1)]

def pN(a:List Int)(n i k:Nat):Int:=a.getD (i*n+k) 0
def dD(ps:List Pa)(hs:List Ho)(l:List Sw):List Int:=ps.flatMap fun p=>hs.map fun h=>il l h.id p.id
theorem Ia{α β:Type}{f:α->List β}{n:Nat}:∀{l:List α},(∀x∈l,(f x).length=n)->(l.flatMap f).length=l.length*n/\∀(i k:Nat)(x:α),l[i]? =some x->k<n->(l.flatMap f)[i*n+k]? =(f x)[k]? :=by
 intro l;induction l with
 |nil=>intro _;exact⟨sm,sm⟩
 |cons y r ih=>
  intro h;have hy:=h y sm;obtain⟨h1,a⟩:=ih fun x hx=>h x (by simp[hx])
  refine⟨by rw[u6,ek,h1,hy,eL,nU];omega,fun i k x hx b=> ?_⟩;rw[u6];cases i with
  |zero=>
   simp at hx;subst hx;rw[Sx,jx,gv om]
  |succ i=>
   rw[hU (by rw[hy,nU];omega),hy,show(i+1)*n+k - n=i*n+k by rw[nU];omega];exact a i k x (by simpa using hx) b
theorem iE(ps:List Pa)(hs:List Ho)(l:List Sw):(dD ps hs l).length=ps.length*hs.length:=(Ia fun x _=>by simp).1
theorem pW{ps:List Pa}{hs:List Ho}{l:List Sw}{i k:Nat}{p:Pa}{h:Ho}(b:ps[i]? =some p)(a:hs[k]? =some h):(dD ps hs l)[i*hs.length+k]? =some (il l h.id p.id):=by
 have c:=(eh.1 a).1;unfold dD;rw[(Ia (n:=hs.length) fun x _=>by simp).2 i k p b c,kl,a];rfl
theorem yx{m n:Nat}{a b:List Int}(ha:a.length=m*n)(hb:b.length=m*n)(h:∀i k,i<m->k<n->a[i*n+k]? =b[i*n+k]?):a=b:=by
 refine AG fun j=> ?_
 by_cases hj:j<m*n
 ·have hn:0<n:=by
   apply Nat.pos_of_ne_zero;intro e;subst e;simp at hj
  have e:j / n*n+j % n=j:=by rw[Cf];exact Ek j n
  have:=h (j / n) (j % n) ((P0 hn).2 hj) (Js _ hn);rwa [e]at this
 ·rw[hP om,hP om]

def xI:Int->List Int->Bool
 |_,[]=>false
 |left,n::r=>if left<n then true else xI (left - n) r
theorem Ib:∀{r:List Int} {left:Int},(∀n∈r,0<=n)->(xI left r=false↔(r=[]∨r.sum<=left)):=by
 intro r;induction r with
 |nil=>intro left _;simp[xI]
 |cons n r ih=>
  intro left h;have c:=h n sm;have b:∀m∈r,0<=m:=fun m hm=>h m (by simp[hm])
  have hs:0<=r.sum:=by
   clear ih h;induction r with
   |nil=>simp
   |cons a s ih=>rw[wx];have:=b a sm;have:=ih fun m hm=>b m (by simp[hm]);omega
  unfold xI;by_cases hn:left<n
  ·rw[bb hn];simp;omega
  ·rw[aq hn,ih b];simp only[wx,reduceCtorEq,false_or];constructor
   ·rintro(e|e)
    ·subst e;simp;omega
    ·omega
   ·intro e;exact .inr om
def tr(a:List Int)(n i:Nat):List Int:=(a.drop (i*n)).take n
def DQ(ps:List Pa)(hs:List Ho)(a:List Int):Bool:=(List.range ps.length).any fun i=>match ps[i]? with|some p=>xI p.aV (tr a hs.length i)|none=>false
def rj(ps:List Pa)(hs:List Ho)(a:List Int):Except Int (List Sw):=
 if fa ps hs≠0 then .error 1
 else if a.length≠ps.length*hs.length then .error 10
 else if a.any (fun n=>decide (n<0))=true then .error 2
 else if DQ ps hs a=true then .error 12
 else .ok (ot (pN a hs.length) ps hs)
theorem FN{a:List Int}{m n i k:Nat}(ha:a.length=m*n)(hi:i<m)(c:k<n):(tr a n i)[k]? =some (pN a n i k):=by
 unfold tr pN;have b:i*n+k<a.length:=by
  rw[ha];have:(i+1)*n<=m*n:=gb n hi;rw[nU]at this;omega
 rw[kh,bb c,k7,cb,af b];rfl
theorem Me{a:List Int}{m n i:Nat}(ha:a.length=m*n)(hi:i<m):(tr a n i).length=n:=by
 unfold tr;have:(i+1)*n<=m*n:=gb n hi;rw[nU]at this;rw[ew,rT];omega
theorem Ng{ps:List Pa}{hs:List Ho}{a:List Int}{i:Nat}{g:Int->Int}(ha:a.length=ps.length*hs.length)(hi:i<ps.length)(hg:∀k h,hs[k]? =some h->g h.id=pN a hs.length i k):tr a hs.length i=hs.map fun h=>g h.id:=by
 refine AG fun k=> ?_
 by_cases b:k<hs.length
 ·have e:=af b;rw[FN ha hi b,kl,e,Vq,hg k _ e]
 ·rw[hP (by rw[Me ha hi];omega),hP (by simp;omega)]

theorem Ug{ps:List Pa}{hs:List Ho}{a:List Int}{x:List Sw}(h:rj ps hs a= .ok x):fa ps hs=0/\eM ps hs x/\dD ps hs x=a:=by
 unfold rj at h;split at h
 ·cases h
 ·rename_i h1;have h1:=dT.1 h1;split at h
  ·cases h
  ·rename_i r;have r:=dT.1 r;split at h
   ·cases h
   ·rename_i E;split at h
    ·cases h
    ·rename_i y;cases h;have e:=mc h1;have F:∀n∈a,0<=n:=fun n hn=>by
      rw[QJ,xW]at E;have:=E n hn;simp at this;omega
     have hg:∀i k,i<ps.length->k<hs.length->0<=pN a hs.length i k:=fun i k hi j=>by
      have:=FN r hi j;have hm:pN a hs.length i k∈tr a hs.length i:=ga this;unfold tr at hm;exact F _ (pV (iF hm))
     have z:=DO (f:=pN a hs.length) e.ip e.ih;have w:∀(i k:Nat)(p:Pa)(h:Ho),ps[i]? =some p->hs[k]? =some h->il (ot (pN a hs.length) ps hs) h.id p.id=pN a hs.length i k:=by
      intro i k p h c d;have H:=hg i k (eh.1 c).1 (eh.1 d).1;by_cases l:0<pN a hs.length i k
      ·exact FM z (oT.2 ⟨k,i,h,p,d,c,l,rfl⟩)
      ·rw[BV,show pN a hs.length i k=0 by omega];intro s o j;obtain⟨K,L,M,N,A,B,C,rfl⟩:=oT.1 o;simp only at j;have:=pq e.ip B c j.1;have:=pq e.ih A d j.2
       subst_vars
       exact l C
     have I:eM ps hs (ot (pN a hs.length) ps hs):=by
      refine⟨e,fun s o=> ?_,fun s o=> ?_,z,fun q G=> ?_⟩
      ·obtain⟨k,i,h,p,d,c,_,rfl⟩:=oT.1 o;exact⟨i,k,Yx e.ip c,Yy e.ih d⟩
      ·obtain⟨k,i,h,p,d,c,H,rfl⟩:=oT.1 o;simp only;omega
      ·obtain⟨i,c⟩:=List.getElem?_of_mem G;have hi:=(eh.1 c).1;have hu:=HZ e.ih q.id z fun s o=>by
        obtain⟨k,i,h,p,d,c,_,rfl⟩:=oT.1 o;exact⟨h,ga d,rfl⟩
       have J:=Ng (g:=fun b=>il (ot (pN a hs.length) ps hs) b q.id) r hi fun k h d=>w i k q h c d
       unfold me at hu;rw[hu,<-J];unfold DQ at y;rw[QJ,xW]at y;have m:=y i (B2.2 hi);rw[c]at m;simp only at m;rw[QJ,Ib (fun n hn=>by unfold tr at hn;exact F _ (pV (iF hn)))]at m;rcases m with m|m
       ·rw[m];have:=(e.p1 q G).2.1.1;simp;omega
       ·exact m
     refine⟨h1,I,yx (iE ps hs _) r fun i k hi j=> ?_⟩;have c:ps[i]? =some ps[i]:=af hi;have d:hs[k]? =some hs[k]:=af j;rw[pW c d,w i k _ _ c d];have D:=FN r hi j;unfold tr at D;rw[kh,bb j,k7]at D;exact D.symm

def eF(f:Sw->Rat)(l:List Sw):Rat:=(l.map f).sum
theorem zx(f:Sw->Rat)(a b:List Sw):eF f (a++b)=eF f a+eF f b:=by
 unfold eF;rw[eH];induction a.map f with
 |nil=>simp[Rat.zero_add]
 |cons x r ih=>rw[vu,wx,wx,ih,Rat.add_assoc]
theorem Ic(f:Sw->Rat)(s:Sw):eF f [s]=f s:=by simp[eF,Rat.add_zero]
theorem Qw(f:Sw->Rat):eF f []=0:=rfl
end Go.Proofs.YtbcojgcjjpggnaaGreatDoor.B
