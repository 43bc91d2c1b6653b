/- Part 6 of the proofs that: What is stowed keeps the problem; lamps change by samples and by seeing alone. -/
import Derived.Test.YtbcojgcjjpggnaaGreatDoorK5
import Derived.Test.YtbcojgcjjpggnaaGreatDoorProg
import Derived.Deep.Slices
import Derived.Lib.AppendZerosOnto
import Derived.Lib.Overlaps
import Derived.Shelf.Spec.SlicesInsertGrow
set_option linter.unusedVariables false
set_option linter.unusedSimpArgs false
set_option maxRecDepth 100000
set_option maxHeartbeats 4000000
namespace Go.Proofs.YtbcojgcjjpggnaaGreatDoor.F
open Go Go.RowKit Go.Proofs Go.Proofs.YtbcojgcjjpggnaaGreatDoor.Vc
open Tryz
variable {A C D E G H J K A0 A1 A2 A3 A4 A5 A6 A7 A8 A9 C0 C1 C2 C3 C4 C5 C6 C7 C8 C9:O} {a b c d e f g i j l m n o a0 a1 a2 a3 a4 a5 a6 a7 a8 a9 b0 b1 b2 b3 b4 b5 b6 b7 b8 b9 c0 c1 c2 c3 c4 c5 c6 c7 c8 c9:Nat} {p q r s t u v x p0 p1 p2 p3 p4 p5 p6 p7 p8 p9 q0 q1 q2 q3 q4 q5 q6 q7 q8 q9:Int} {L M N N0 N1 N2 N3 N4 N5 N6 N7 N8 N9 T0 T1 T2 T3 T4 T5 T6 T7 T8 T9:ByteArray} {Q S:Bool} {B:Nat} {w:World} {R:Kt}
def fG.J12(a:O)(b c:Nat)(d e:Int)(f:Bool)(g:Int)(i:O)(j l:Nat)(m:O)(n o:Nat)(p q r:Int):=Jt 15 f15 12 [vS 1 a b c,vL 3,vL 5,vI 8 d,vI 9 e,(10,.v (.bool f)),vI 11 g] [⟨3,false,36,[(.slice i j l),(.slice m n o)]⟩,⟨5,false,57,[(I p),(I q),(I r)]⟩]
def fG.cx:Pm:=([((false,12),[1,3,5,8,9,10,11],[3,5])],[(16,2,2),(17,2,2),(18,9,2),(21,3,2),(21,4,6),(23,4,6)])
theorem fG.J12.step
  (h:(aS .i64 (r+q)/\(Br (((r+q):Int)<0) (R (.tuple #[.slice none 0 0,I 11]) w) (Ix u b A fun d5=>(∃z,aa w ((d5.add ((u).toNat*7)).add 1) [I z]/\(∀E,Ext B [] w E->(Pure P 46 #[.slice C a c,I s] E (Ri fun G H=>(aS .i64 (G+q)/\(Br (((G+q):Int)>z) (R (.tuple #[.slice none 0 0,I 12]) H) (ae P (Instr.makeSlice 40 (I (a:Int)) (I (a:Int))) B [36,57] H (Rs fun l m n d6=>(ae P (Builtin.copy_ #[40,40] 3 #[.slice l m n,.slice C a c]) B [36,57] d6 (Ri fun e4 d7=>(aS .i64 (r+q)/\(ae P (Instr.alloc 54 true (.tuple #[])) B [36,57] d7 fun d8 J=>∃(g:Addr),d8= .pointer (some g)/\(∃(o:List Value)(v:Nat),B<=g.block/\g.spot=none/\J.heap[g.block]? =some (.cells o.toArray v (0,0))/\g.off+3<=o.length/\hasType v [⟨3,false,36,[.slice A b d,.slice D e f]⟩,⟨5,false,57,[I t,I s,I q]⟩]=false/\∀i,aC J i g.block v (setCells o g.off [I t,I s,(I (r+q))])->(Br (Q=false) (∃K L M,aa i g [I K,I L,I M]/\(ae P (Instr.buildSlice 40 1 #[(0,(.agg #[I K,I L,I M]))]) B [36,57] i (Rs fun d9 k F N=>(cI P 47 #[.slice l m n,I p,.slice d9 k F] B N fun W O=>PL [36,57] N O/\∃S T U,W= .slice S T U/\(R (.tuple #[.slice S T U,I 0]) O))))) (∃V,aa i (g.add 2) [I V]/\(Br (V=0) (aS .i64 (p+1)/\(cI P 48 #[.slice l m n,I p,(I (p+1))] B i fun e3 X=>PL [36,57] i X/\∃Y Z d0,e3= .slice Y Z d0/\(R (.tuple #[.slice Y Z d0,I 0]) X))) (∃d1 d2 d3,aa i g [I d1,I d2,I d3]/\(Ix p m l fun j=>(∃(x:List Value)(y:Nat),B<=(j.add ((p).toNat*3)).block/\(j.add ((p).toNat*3)).spot=none/\i.heap[(j.add ((p).toNat*3)).block]? =some (.cells x.toArray y (0,0))/\(j.add ((p).toNat*3)).off+3<=x.length/\hasType y [⟨3,false,36,[.slice A b d,.slice D e f]⟩,⟨5,false,57,[I t,I s,I q]⟩]=false/\∀d4,aC i d4 (j.add ((p).toNat*3)).block y (setCells x (j.add ((p).toNat*3)).off [I d1,I d2,I d3])->(R (.tuple #[.slice l m n,I 0]) d4)))))))))))))))))))))))):
  fG.J12 C a c u p Q r A b d D e f t s q B w R:=
 jr fG.cx func15 h
theorem fG.vc
  (h:(∀n,Ext w.heap.size [] w n->(Pure P 41 #[.agg #[.slice A a b,.slice C c d],.slice D e f] n (Ri fun u o=>(Br (u≠0) (R (.tuple #[.slice none 0 0,I 1]) o) (Pure P 42 #[.agg #[.slice A a b,.slice C c d],I r] o (Ri fun l s=>(Br (l<0) (R (.tuple #[.slice none 0 0,I 7]) s) (Pure P 43 #[.agg #[.slice A a b,.slice C c d],I q] s (Ri fun v g=>(Br (v<0) (R (.tuple #[.slice none 0 0,I 7]) g) (Br (p=0) (R (.tuple #[.slice none 0 0,I 2]) g) (Br (p<(-9:Int)) (R (.tuple #[.slice none 0 0,I 2]) g) (Br (p>9) (R (.tuple #[.slice none 0 0,I 2]) g) (Pure P 44 #[.slice D e f,.agg #[I q,I r,I 0],(.func (.func 45) #[] #[])] g fun x m=>∃i j,x= .tuple #[I i,.bool j]/\(Bb j (Ix i e D fun y=>(∃t,aa m ((y.add ((i).toNat*3)).add 2) [I t]/\(fG.J12 D e f l i j t A a b C c d q r p w.heap.size m R))) (fG.J12 D e f l i j (0:Int) A a b C c d q r p w.heap.size m R))))))))))))))))):
  Pure P 15 #[.agg #[.slice A a b,.slice C c d],.slice D e f,.agg #[I q,I r,I p]] w R:=
 pr fG.cx func15 h

def ig.cx:Pm:=([],[(3,2,5)])
theorem ig.vc
  (h:(∀l,Ext w.heap.size [] w l->(Pure P 41 #[.agg #[.slice C c d,.slice A a b],.slice D e f] l (Ri fun m g=>(Br (m≠0) (R (.tuple #[I 0,I 1]) g) (∀i:Nat,w.heap.size<=i->g.heap[i]? =some (.cells [.slice D e f].toArray 40 (0,0))->(∀j:Nat,w.heap.size<=j->g.heap[j]? =some (.cells [.slice C c d,.slice A a b].toArray 36 (0,0))->(Pure P 92 #[.slice A a b,(.func (.func 93) #[] #[(.pointer (some (⟨j,0,none⟩:Addr))),(.pointer (some (⟨i,0,none⟩:Addr)))])] g (Ri fun n o=>(R (.tuple #[I n,I 0]) o)))))))))):
  Pure P 40 #[.agg #[.slice C c d,.slice A a b],.slice D e f] w R:=
 pr ig.cx func40 h

def bT.L4(a:O)(b c:Nat)(d:O)(e f:Nat)(g i:Int)(j:O)(l m:Nat)(n:O)(o p:Nat):=Lt 41 f41 4 [vS 1 a b c,vL 2,vS 11 d e f,vI 12 g,vI 13 i] [⟨2,false,36,[(.slice j l m),(.slice n o p)]⟩]
def bT.cx:Pm:=([((true,4),[1,2,11,12,13],[2])],[(13,9999,3)])
theorem bT.L4.step
  (h:(Br (p<q) (Ix p g E fun T=>(∃s l m,aa w (T.add ((p).toNat*3)) [I s,I l,I m]/\(∀t,Ext B [] w t->(Pure P 42 #[.agg #[.slice A a c,.slice D d e],I l] t (Ri fun j u=>(Br (j<0) (R (I 7) u) (Pure P 43 #[.agg #[.slice A a c,.slice D d e],I s] u (Ri fun U n=>(Br (U<0) (R (I 7) n) (Br (m<1) (R (I 2) n) (Br (p>0) (aS .i64 (p - (1:Int))/\(Ix (p - (1:Int)) f C fun V=>(∃v x y,aa n (V.add (((p - (1:Int))).toNat*3)) [I v,I x,I y]/\(∀z,Ext B [] n z->(Pure P 45 #[.agg #[I v,I x,I y],.agg #[I s,I l,I m]] z (Ri fun X o=>(Br (X≥(0:Int)) (R (I 5) o) (Ix j a A fun Y=>(∃G,aa o ((Y.add ((j).toNat*7)).add 1) [I G]/\(Br (m>G) (∀H,Ext B [] o H->(R (I 12) H)) (aS .i64 (p+1)/\((0<=(p+1)/\(p+1)<=(b:Int))/\(Ix j a A fun Z=>(∃J,aa o ((Z.add ((j).toNat*7)).add 1) [I J]/\(∀K,Ext B [] o K->(Pure P 46 #[(.slice C (((p+1)).toNat) b),I l] K (Ri fun d0 L=>(Br (d0>J) (R (I 12) L) (aS .i64 (p+1)/\(bT.L4 C f b E g i q (p+1) A a c D d e B L R)))))))))))))))))))) (∀r,Ext B [] n r->(Ix j a A fun d1=>(∃M,aa r ((d1.add ((j).toNat*7)).add 1) [I M]/\(Br (m>M) (∀N,Ext B [] r N->(R (I 12) N)) (aS .i64 (p+1)/\((0<=(p+1)/\(p+1)<=(b:Int))/\(Ix j a A fun d2=>(∃O,aa r ((d2.add ((j).toNat*7)).add 1) [I O]/\(∀Q,Ext B [] r Q->(Pure P 46 #[(.slice C (((p+1)).toNat) b),I l] Q (Ri fun d3 S=>(Br (d3>O) (R (I 12) S) (aS .i64 (p+1)/\(bT.L4 C f b E g i q (p+1) A a c D d e B S R))))))))))))))))))))))))) (R (I 0) w))):
  bT.L4 C f b E g i q p A a c D d e B w R:=
 lr bT.cx func41 h
theorem bT.vc
  (h:(∀g,Ext w.heap.size [] w g->(Pure P 97 #[.agg #[.slice A b c,.slice C d e]] g (Ri fun j i=>(Br (j≠0) (R (I 1) i) (bT.L4 D a f D a f (a:Int) (0:Int) A b c C d e w.heap.size i R)))))):
  Pure P 41 #[.agg #[.slice A b c,.slice C d e],.slice D a f] w R:=
 pr bT.cx func41 h

def gI.cx:Pm:=([],[])
theorem gI.vc
  (h:(∀e,Ext w.heap.size [] w e->(Pure P 98 #[.slice A a b,I p,(.func (.func 99) #[] #[])] e (Ri fun f g=>(R (I f) g))))):
  Pure P 42 #[.agg #[.slice A a b,.slice C c d],I p] w R:=
 pr gI.cx func42 h

def iK.cx:Pm:=([],[])
theorem iK.vc
  (h:(∀e,Ext w.heap.size [] w e->(Pure P 100 #[.slice A a b,I p,(.func (.func 101) #[] #[])] e (Ri fun f g=>(R (I f) g))))):
  Pure P 43 #[.agg #[.slice C c d,.slice A a b],I p] w R:=
 pr iK.cx func43 h

def jI.cx:Pm:=([],[(1,10,2)])
theorem jI.vc
  (h:(∀a,Ext w.heap.size [] w a->(Pure P 103 #[I p,I r] a (Ri fun b c=>(Pure P 103 #[I q,I s] c (Ri fun d e=>(ae P (Instr.buildSlice 28 2 #[(0,(I b)),(1,(I d))]) w.heap.size [54,54] e (Rs fun f g i j=>(Pure P 102 #[.slice f g i] j (Ri fun l m=>(R (I l) m))))))))))):
  Pure P 45 #[.agg #[I p,I q,I t],.agg #[I r,I s,I u]] w R:=
 pr jI.cx func45 h

def dt.L3(a b:Int)(c:O)(d e:Nat)(f g:Int):=Lt 46 f46 3 [vI 1 a,vI 5 b,vS 8 c d e,vI 9 f,vI 10 g] []
def dt.cx:Pm:=([((true,3),[1,5,8,9,10],[])],[])
theorem dt.L3.step
  (h:(Br (p<s) (Ix p a A fun g=>(∃i d c,aa w (g.add ((p).toNat*3)) [I i,I d,I c]/\(Br (d=r) (aS .i64 (q+c)/\(aS .i64 (p+1)/\(∀e,Ext B [] w e->(dt.L3 r (q+c) A a b s (p+1) B e R)))) (aS .i64 (p+1)/\(∀f,Ext B [] w f->(dt.L3 r q A a b s (p+1) B f R)))))) (R (I q) w))):
  dt.L3 r q A a b s p B w R:=
 lr dt.cx func46 h
theorem dt.vc
  (h:(dt.L3 p (0:Int) A a b (a:Int) (0:Int) w.heap.size w R)):
  Pure P 46 #[.slice A a b,I p] w R:=
 pr dt.cx func46 h

def ke.cx:Pm:=([],[(1,9999,3)])
theorem ke.vc{m n:Addr}
  (h:(∀a,Ext w.heap.size [] w a->(∃b c d e f g,aa a m [.slice b c d,.slice e f g]/\(∃i j l,aa a n [.slice i j l]/\((∀o,Ext w.heap.size [] a o->(Pure P 95 #[.slice i j l,I p] o (Rs fun q r s t=>((Pure P 94 #[.agg #[.slice b c d,.slice e f g],.slice q r s] t fun Q S=>∃u v T U V X,Q= .agg #[.string u,.string v,.string T,.string U,.string V,.string X]/\(∀x,Ext w.heap.size [] S x->(Pure P 96 #[.string u,.string M] x (Ri fun Y y=>(Br (Y>0) (R (.bool true) y) (Pure P 96 #[.string v,.string L] y (Ri fun Z d0=>(R (.bool (decide (Z>0))) d0))))))))/\(∀z,Ext w.heap.size [] t z->(Pure P 94 #[.agg #[.slice b c d,.slice e f g],.slice q r s] z fun d1 d2=>∃A C d3 d4 d5 d6,d1= .agg #[.string A,.string C,.string d3,.string d4,.string d5,.string d6]/\(∀D,Ext w.heap.size [174] d2 D->(Pure P 96 #[.string A,.string M] D (Ri fun d7 E=>(Br (d7>0) (R (.bool true) E) (Pure P 96 #[.string C,.string L] E (Ri fun d8 d9=>(R (.bool (decide (d8>0))) d9)))))))))))))/\(∀G,Ext w.heap.size [] a G->(Pure P 95 #[.slice i j l,I p] G (Rs fun k F W e3=>(Pure P 94 #[.agg #[.slice b c d,.slice e f g],.slice k F W] e3 fun e4 e5=>∃H J e6 e7 e8 e9,e4= .agg #[.string H,.string J,.string e6,.string e7,.string e8,.string e9]/\(∀K,Ext w.heap.size [174] e5 K->(Pure P 96 #[.string H,.string M] K (Ri fun g0 O=>(Br (g0>0) (R (.bool true) O) (Pure P 96 #[.string J,.string L] O (Ri fun g1 g2=>(R (.bool (decide (g1>0))) g2)))))))))))))))):
  Pure P 93 #[.agg #[I p,.string N,.string L,.string M,.string N0,.string N1,.string N2],(.pointer (some m)),(.pointer (some n))] w R:=
 pr ke.cx func93 h

def bl.L3(a:O)(b c:Nat)(d e:Int)(f:O)(g i:Nat)(j:O)(l m:Nat)(n o p q r s t u v x y z:ByteArray):=Lt 94 f94 3 [vL 2,vL 4,vL 5,vS 14 a b c,vI 15 d,vI 16 e] [⟨2,false,36,[(.slice f g i),(.slice j l m)]⟩,⟨4,false,174,[(.string n),(.string o),(.string p),(.string q),(.string r),(.string s)]⟩,⟨5,false,174,[(.string t),(.string u),(.string v),(.string x),(.string y),(.string z)]⟩]
def bl.J6(a:O)(b c:Nat)(d e:Int)(f:O)(g i:Nat)(j:O)(l m:Nat)(n o p q r s t u v x y z:ByteArray)(A C D E G H:Int)(J K L M N Q S:ByteArray):=Jt 94 f94 6 [vL 2,vL 4,vL 5,vL 7,vL 8,vL 9,vS 14 a b c,vI 15 d,vI 16 e] [⟨2,false,36,[(.slice f g i),(.slice j l m)]⟩,⟨4,false,174,[(.string n),(.string o),(.string p),(.string q),(.string r),(.string s)]⟩,⟨5,false,174,[(.string t),(.string u),(.string v),(.string x),(.string y),(.string z)]⟩,⟨7,false,54,[(I A),(I C),(I D)]⟩,⟨8,false,111,[(I E),(I G),(I H),(.string J),(.string K),(.string L),(.string M)]⟩,⟨9,false,170,[(.string N),(.string Q),(.string S)]⟩]
def bl.cx:Pm:=([((true,3),[2,4,5,14,15,16],[2,4,5]),((false,6),[2,4,5,7,8,9,14,15,16],[2,4,5,7,8,9])],[(5,9998,8),(5,9999,3)])
theorem bl.L3.step
  (h:(Br (p<q) (Ix p e D fun a2=>(∃g i j,aa w (a2.add ((p).toNat*3)) [I g,I i,I j]/\(∀u,Ext B [] w u->((∀k,Ext B [] u k->(Pure P 42 #[.agg #[.slice C b c,.slice A a d],I i] k (Ri fun i8 d2=>(Ix i8 b C fun l3=>(∃l m n o r s t,aa u (l3.add ((i8).toNat*7)) [I l,I m,I n,.string o,.string r,.string s,.string t]/\((∀d3,Ext B [] d2 d3->(Pure P 43 #[.agg #[.slice C b c,.slice A a d],I g] d3 (Ri fun x d4=>(Ix x a A fun d5=>((∀y,Ext B [] d4 y->(∃d6 d7 d8,aa y ((d5.add ((x).toNat*7)).add 4) [.string d6,.string d7,.string d8]/\(∀d9,Ext B [111,170] y d9->(bl.J6 D e f q p C b c A a d N3 N4 N5 N6 N7 N8 L M N N0 N1 N2 g i j l m n o r s t d6 d7 d8 B d9 R))))/\(∀z,Ext B [111] d4 z->(∃F W e2,aa z ((d5.add ((x).toNat*7)).add 4) [.string F,.string W,.string e2]/\(∀e3,Ext B [170] z e3->(bl.J6 D e f q p C b c A a d N3 N4 N5 N6 N7 N8 L M N N0 N1 N2 g i j l m n o r s t F W e2 B e3 R)))))))))/\(∀e4,Ext B [] d2 e4->(Pure P 43 #[.agg #[.slice C b c,.slice A a d],I g] e4 (Ri fun v E=>((Ix v a A fun e5=>((∀G,Ext B [] E G->(∃e6 e7 e8,aa G ((e5.add ((v).toNat*7)).add 4) [.string e6,.string e7,.string e8]/\(∀e9,Ext B [111,170] G e9->(bl.J6 D e f q p C b c A a d N3 N4 N5 N6 N7 N8 L M N N0 N1 N2 g i j l m n o r s t e6 e7 e8 B e9 R))))/\(∀H,Ext B [111] E H->(∃g0 g1 g2,aa H ((e5.add ((v).toNat*7)).add 4) [.string g0,.string g1,.string g2]/\(∀g3,Ext B [170] H g3->(bl.J6 D e f q p C b c A a d N3 N4 N5 N6 N7 N8 L M N N0 N1 N2 g i j l m n o r s t g0 g1 g2 B g3 R))))))/\(Ix v a A fun l4=>(∀J,Ext B [111] E J->(∃g4 g5 g6,aa J ((l4.add ((v).toNat*7)).add 4) [.string g4,.string g5,.string g6]/\(∀g7,Ext B [170] J g7->(bl.J6 D e f q p C b c A a d N3 N4 N5 N6 N7 N8 L M N N0 N1 N2 g i j l m n o r s t g4 g5 g6 B g7 R)))))))))))))))/\(∀g8,Ext B [] u g8->(Pure P 42 #[.agg #[.slice C b c,.slice A a d],I i] g8 (Ri fun g9 l5=>(Ix g9 b C fun l6=>(∃K O Q S T U V,aa u (l6.add ((g9).toNat*7)) [I K,I O,I Q,.string S,.string T,.string U,.string V]/\(∀j0,Ext B [] l5 j0->(Pure P 43 #[.agg #[.slice C b c,.slice A a d],I g] j0 (Ri fun X j1=>(Ix X a A fun j2=>((∀Y,Ext B [] j1 Y->(∃j3 j4 j5,aa Y ((j2.add ((X).toNat*7)).add 4) [.string j3,.string j4,.string j5]/\(∀j6,Ext B [111,170] Y j6->(bl.J6 D e f q p C b c A a d N3 N4 N5 N6 N7 N8 L M N N0 N1 N2 g i j K O Q S T U V j3 j4 j5 B j6 R))))/\(∀Z,Ext B [111] j1 Z->(∃j7 j8 j9,aa Z ((j2.add ((X).toNat*7)).add 4) [.string j7,.string j8,.string j9]/\(∀l0,Ext B [170] Z l0->(bl.J6 D e f q p C b c A a d N3 N4 N5 N6 N7 N8 L M N N0 N1 N2 g i j K O Q S T U V j7 j8 j9 B l0 R)))))))))))))))))) (∀l1,Ext B [174] w l1->(R (.agg #[.string L,.string M,.string N,.string N0,.string N1,.string N2]) l1)))):
  bl.L3 D e f q p C b c A a d N3 N4 N5 N6 N7 N8 L M N N0 N1 N2 B w R:=
 lr bl.cx func94 h
theorem bl.J6.step
  (h:(Pure P 150 #[I r] w (Rt fun i n=>(Pure P 151 #[.string i,.string N9] n (Rt fun g o=>(∀j,Ext B [] o j->(Pure P 152 #[.string N3,.string g] j (Rt fun y z=>(Pure P 151 #[.string i,.string T0] z (Rt fun E G=>(Pure P 152 #[.string N4,.string E] G (Rt fun H J=>(Pure P 151 #[.string i,.string T1] J (Rt fun K O=>(Pure P 152 #[.string N5,.string K] O (Rt fun Q S=>(∀l,Ext B [174] S l->(Pure P 151 #[.string g,.string T2] l (Rt fun T U=>(Pure P 152 #[.string N6,.string T] U (Rt fun V X=>(Pure P 151 #[.string g,.string T3] X (Rt fun Y Z=>(Pure P 152 #[.string N7,.string Y] Z (Rt fun d0 d1=>(Pure P 151 #[.string g,.string T4] d1 (Rt fun d2 d3=>(Pure P 152 #[.string N8,.string d2] d3 (Rt fun d4 d5=>(aS .i64 (p+1)/\(∀m,Ext B [174] d5 m->(bl.L3 A a b q (p+1) C c d D e f L M N N0 N1 N2 y H Q V d0 d4 B m R)))))))))))))))))))))))))))))))):
  bl.J6 A a b q p C c d D e f L M N N0 N1 N2 N3 N4 N5 N6 N7 N8 s t r u v x T5 N9 T0 T1 T2 T3 T4 B w R:=
 jr bl.cx func94 h
theorem bl.vc
  (h:(∀g,Ext w.heap.size [] w g->(bl.L3 D a f (a:Int) (0:Int) A b c C d e (⟨#[]⟩:ByteArray) (⟨#[]⟩:ByteArray) (⟨#[]⟩:ByteArray) (⟨#[]⟩:ByteArray) (⟨#[]⟩:ByteArray) (⟨#[]⟩:ByteArray) (⟨#[48]⟩:ByteArray) (⟨#[48]⟩:ByteArray) (⟨#[48]⟩:ByteArray) (⟨#[48]⟩:ByteArray) (⟨#[48]⟩:ByteArray) (⟨#[48]⟩:ByteArray) w.heap.size g R))):
  Pure P 94 #[.agg #[.slice A b c,.slice C d e],.slice D a f] w R:=
 pr bl.cx func94 h

def px.cx:Pm:=([],[(1,2,5),(1,3,6)])
theorem px.vc
  (h:(∀e,Ext w.heap.size [] w e->(Pure P 12 #[.slice A a b] e (Rs fun l m n c=>(∀d:Nat,w.heap.size<=d->c.heap[d]? =some (.cells [I p].toArray 3 (0,0))->(cI P 153 #[.slice l m n,(.func (.func 154) #[] #[(.pointer (some (⟨d,0,none⟩:Addr)))])] w.heap.size c fun o f=>PL [] c f/\∃g i j,o= .slice g i j/\(R (.slice g i j) f))))))):
  Pure P 95 #[.slice A a b,I p] w R:=
 pr px.cx func95 h

def gQ.cx:Pm:=([],[])
theorem gQ.vc
  (h:(Pure P 155 #[.string L,.string M] w (Rii fun a c b=>(R (I a) b)))):
  Pure P 96 #[.string L,.string M] w R:=
 pr gQ.cx func96 h

def aM.L2(a:O)(b c:Nat)(d e:Int)(f:O)(g i:Nat)(j:O)(l m:Nat):=Lt 97 f97 2 [vL 1,vS 12 a b c,vI 13 d,vI 14 e] [⟨1,false,36,[(.slice f g i),(.slice j l m)]⟩]
def aM.L8(a:O)(b c:Nat)(d e:Int)(f:O)(g i:Nat)(j:O)(l m:Nat):=Lt 97 f97 8 [vL 1,vS 29 a b c,vI 30 d,vI 31 e] [⟨1,false,36,[(.slice f g i),(.slice j l m)]⟩]
def aM.yu(a:O)(b c:Nat)(d e:Int)(f:O)(g i:Nat)(j:O)(l m:Nat):=Lt 97 f97 16 [vL 1,vS 63 a b c,vI 64 d,vI 65 e] [⟨1,false,36,[(.slice f g i),(.slice j l m)]⟩]
def aM.Bt(a:O)(b c:Nat)(d e:Int)(f:O)(g i:Nat)(j:O)(l m:Nat):=Lt 97 f97 26 [vL 1,vS 124 a b c,vI 125 d,vI 126 e] [⟨1,false,36,[(.slice f g i),(.slice j l m)]⟩]
def aM.cx:Pm:=([((true,2),[1,12,13,14],[1]),((true,8),[1,29,30,31],[1]),((true,16),[1,63,64,65],[1]),((true,26),[1,124,125,126],[1])],[(4,6,2),(10,13,2)])
theorem aM.L2.step
  (h:(Br (p<q) (Ix p c C fun n=>(∃o r s t g i j,aa w (n.add ((p).toNat*7)) [I o,I r,I s,.string t,.string g,.string i,.string j]/\(∀l,Ext B [] w l->(ae P (Instr.buildSlice 29 3 #[(0,(.string g)),(1,(.string i)),(2,(.string j))]) B [111,36] l (Rs fun u v x y=>(Pure P 156 #[.slice u v x] y (Rb fun z m=>(Br (z=false) (R (I 1) m) (aS .i64 (p+1)/\(aM.L2 C c f q (p+1) D d e A a b B m R)))))))))) (aM.L8 A a b (a:Int) (0:Int) D d e A a b B w R))):
  aM.L2 C c f q p D d e A a b B w R:=
 lr aM.cx func97 h
theorem aM.L8.step
  (h:(Br (p<q) (Ix p d C fun r=>(∃s t g i j l m,aa w (r.add ((p).toNat*7)) [I s,.string t,.string g,.string i,.string j,.string l,.string m]/\(∀n,Ext B [] w n->(ae P (Instr.buildSlice 29 5 #[(0,(.string g)),(1,(.string i)),(2,(.string j)),(3,(.string l)),(4,(.string m))]) B [172,36] n (Rs fun u v x y=>(Pure P 156 #[.slice u v x] y (Rb fun z o=>(Br (z=false) (R (I 1) o) (aS .i64 (p+1)/\(aM.L8 C d f q (p+1) A a b D c e B o R)))))))))) (Br ((a:Int)>6) (R (I 8) w) (Br ((c:Int)>6) (R (I 8) w) (aM.yu A a b (a:Int) (0:Int) A a b D c e B w R))))):
  aM.L8 C d f q p A a b D c e B w R:=
 lr aM.cx func97 h
theorem aM.yu.step
  (h:(Br (p<q) (Ix p d D fun K=>(∃i j l m n o r,aa w (K.add ((p).toNat*7)) [I i,I j,I l,.string m,.string n,.string o,.string r]/\(∀s,Ext B [] w s->(Pure P 157 #[I i,I 1073741824] s (Rb fun L t=>(Br (L=false) (R (I 2) t) (Pure P 157 #[I j,I 9] t (Rb fun M u=>(Br (M=false) (R (I 2) u) (Pure P 157 #[I l,I 9] u (Rb fun N v=>(Br (N=false) (R (I 2) v) (Pure P 158 #[.string n] v (Ri fun O x=>(Br (O<=(0:Int)) (R (I 2) x) (Pure P 158 #[.string o] x (Ri fun Q y=>(Br (Q<=(0:Int)) (R (I 2) y) (Pure P 158 #[.string r] y (Ri fun S z=>(Br (S<0) (R (I 2) z) (Pure P 159 #[.string m] z (Rb fun T g=>(Br (T=false) (R (I 4) g) (Br (p>0) (aS .i64 (p - (1:Int))/\(Ix (p - (1:Int)) b A fun U=>(∃E,aa g ((U.add (((p - (1:Int))).toNat*7)).add 0) [I E]/\(Br (E≥i) (∀G,Ext B [] g G->(R (I 5) G)) (aS .i64 (p+1)/\(∀H,Ext B [] g H->(aM.yu D d f q (p+1) A b e C a c B H R))))))) (aS .i64 (p+1)/\(∀J,Ext B [] g J->(aM.yu D d f q (p+1) A b e C a c B J R)))))))))))))))))))))))))))) (aM.Bt C a c (a:Int) (0:Int) A b e C a c B w R))):
  aM.yu D d f q p A b e C a c B w R:=
 lr aM.cx func97 h
theorem aM.Bt.step
  (h:(Br (p<q) (Ix p a A fun y=>(∃i j l m z E G,aa w (y.add ((p).toNat*7)) [I i,.string j,.string l,.string m,.string z,.string E,.string G]/\(∀n,Ext B [] w n->(Pure P 157 #[I i,I 1073741824] n (Rb fun H o=>(Br (H=false) (R (I 2) o) (Pure P 158 #[.string l] o (Ri fun J r=>(Br (J<0) (R (I 2) r) (Pure P 158 #[.string m] r (Ri fun K s=>(Br (K<0) (R (I 2) s) (Pure P 159 #[.string j] s (Rb fun L g=>(Br (L=false) (R (I 4) g) (Br (p>0) (aS .i64 (p - (1:Int))/\(Ix (p - (1:Int)) b C fun M=>(∃t,aa g ((M.add (((p - (1:Int))).toNat*7)).add 0) [I t]/\(Br (t≥i) (∀u,Ext B [] g u->(R (I 5) u)) (aS .i64 (p+1)/\(∀v,Ext B [] g v->(aM.Bt A a c q (p+1) D d e C b f B v R))))))) (aS .i64 (p+1)/\(∀x,Ext B [] g x->(aM.Bt A a c q (p+1) D d e C b f B x R))))))))))))))))))) (R (I 0) w))):
  aM.Bt A a c q p D d e C b f B w R:=
 lr aM.cx func97 h
theorem aM.vc
  (h:(∀e,Ext w.heap.size [] w e->(aM.L2 A a b (a:Int) (0:Int) A a b C c d w.heap.size e R))):
  Pure P 97 #[.agg #[.slice A a b,.slice C c d]] w R:=
 pr aM.cx func97 h

def jj.cx:Pm:=([],[(1,1,5)])
theorem jj.vc{g i:Array Value}
  (h:(∀d,Ext w.heap.size [] w d->(∀e:Nat,w.heap.size<=e->d.heap[e]? =some (.cells [I p].toArray 3 (0,0))->(∀f:Nat,w.heap.size<=f->d.heap[f]? =some (.cells [(.func (.func c) g i)].toArray 181 (0,0))->(Pure P 148 #[.slice A a b,(.func (.func 160) #[] #[(.pointer (some (⟨f,0,none⟩:Addr))),(.pointer (some (⟨e,0,none⟩:Addr)))])] d (Ri fun j l=>(R (I j) l))))))):
  Pure P 98 #[.slice A a b,I p,(.func (.func c) g i)] w R:=
 pr jj.cx func98 h

def oA.cx:Pm:=([],[])
theorem oA.vc
  (h:(∀a,Ext w.heap.size [] w a->(R (I p) a))):
  Pure P 99 #[.agg #[I p,I q,I r,.string L,.string M,.string N,.string N0]] w R:=
 pr oA.cx func99 h

def kg.cx:Pm:=([],[(1,1,5)])
theorem kg.vc{g i:Array Value}
  (h:(∀d,Ext w.heap.size [] w d->(∀e:Nat,w.heap.size<=e->d.heap[e]? =some (.cells [I p].toArray 3 (0,0))->(∀f:Nat,w.heap.size<=f->d.heap[f]? =some (.cells [(.func (.func c) g i)].toArray 183 (0,0))->(Pure P 92 #[.slice A a b,(.func (.func 161) #[] #[(.pointer (some (⟨f,0,none⟩:Addr))),(.pointer (some (⟨e,0,none⟩:Addr)))])] d (Ri fun j l=>(R (I j) l))))))):
  Pure P 100 #[.slice A a b,I p,(.func (.func c) g i)] w R:=
 pr kg.cx func100 h

def qn.cx:Pm:=([],[])
theorem qn.vc
  (h:(∀a,Ext w.heap.size [] w a->(R (I p) a))):
  Pure P 101 #[.agg #[I p,.string L,.string M,.string N,.string N0,.string N1,.string N2]] w R:=
 pr qn.cx func101 h

def py.cx:Pm:=([],[])
theorem py.vc
  (h:(∀g,Ext w.heap.size [] w g->(Pure P 41 #[.agg #[.slice A a b,.slice C c d],.slice D e f] g (Ri fun x i=>(Br (x≠0) (∀j,Ext w.heap.size [174] i j->(R (.tuple #[(.agg #[(.string ⟨#[]⟩),(.string ⟨#[]⟩),(.string ⟨#[]⟩),(.string ⟨#[]⟩),(.string ⟨#[]⟩),(.string ⟨#[]⟩)]),I 1]) j)) (Pure P 43 #[.agg #[.slice A a b,.slice C c d],I p] i (Ri fun y l=>(Br (y<0) (∀m,Ext w.heap.size [174] l m->(R (.tuple #[(.agg #[(.string ⟨#[]⟩),(.string ⟨#[]⟩),(.string ⟨#[]⟩),(.string ⟨#[]⟩),(.string ⟨#[]⟩),(.string ⟨#[]⟩)]),I 7]) m)) (∀n,Ext w.heap.size [] l n->(Pure P 95 #[.slice D e f,I p] n (Rs fun z E G H=>(Pure P 94 #[.agg #[.slice A a b,.slice C c d],.slice z E G] H fun J K=>∃o q r s t u,J= .agg #[.string o,.string q,.string r,.string s,.string t,.string u]/\(∀v,Ext w.heap.size [174] K v->(R (.tuple #[.agg #[.string o,.string q,.string r,.string s,.string t,.string u],I 0]) v)))))))))))))):
  Pure P 142 #[.agg #[.slice A a b,.slice C c d],.slice D e f,I p] w R:=
 pr py.cx func142 h

def mg.cx:Pm:=([],[])
theorem mg.vc
  (h:(Pure P 50 #[I p] w (Rt fun a b=>(R (.string a) b)))):
  Pure P 150 #[I p] w R:=
 pr mg.cx func150 h

def je.cx:Pm:=([],[])
theorem je.vc
  (h:(Pure P 190 #[.string L,.string M] w (rV fun a c b=>(R (.string a) b)))):
  Pure P 151 #[.string L,.string M] w R:=
 pr je.cx func151 h

def jf.cx:Pm:=([],[])
theorem jf.vc
  (h:(Pure P 189 #[.string L,.string M] w (rV fun a c b=>(R (.string a) b)))):
  Pure P 152 #[.string L,.string M] w R:=
 pr jf.cx func152 h

def ue.cx:Pm:=([],[])
theorem ue.vc{b:Addr}
  (h:(∀a,Ext w.heap.size [] w a->(∃c,aa a b [I c]/\(R (.bool (decide (p≠c))) a)))):
  Pure P 154 #[.agg #[I p,I q,I r],(.pointer (some b))] w R:=
 pr ue.cx func154 h

def lD.cx:Pm:=([],[])
theorem lD.vc
  (h:(Pure P 183 #[.slice A a b,(.func (.func 197) #[] #[])] w (Rb fun c d=>(R (.bool (decide (c=false))) d)))):
  Pure P 156 #[.slice A a b] w R:=
 pr lD.cx func156 h

def gJ.cx:Pm:=([],[])
theorem gJ.vc
  (h:(Br (p≥(1:Int)) (R (.bool (decide (p<=q))) w) (R (.bool false) w))):
  Pure P 157 #[I p,I q] w R:=
 pr gJ.cx func157 h

def iL.cx:Pm:=([],[])
theorem iL.vc
  (h:(Pure P 96 #[.string L,(.string ⟨#[48]⟩)] w (Ri fun a b=>(R (I a) b)))):
  Pure P 158 #[.string L] w R:=
 pr iL.cx func158 h

def lE.cx:Pm:=([],[])
theorem lE.vc
  (h:(Br (((ByteArray.size L:Int):Int)≥(1:Int)) (R (.bool (decide (((ByteArray.size L:Int):Int)<=(64:Int)))) w) (R (.bool false) w))):
  Pure P 159 #[.string L] w R:=
 pr lE.cx func159 h

def gR.cx:Pm:=([],[(1,2,4),(1,9999,3)])
theorem gR.vc{c d:Addr}
  (h:(∀a,Ext w.heap.size [] w a->(∃(b:Nat)(e f:Array Value),aa a c [(.func (.func b) e f)]/\(∃g,aa a d [I g]/\(az P b=true/\(∀i,Ext w.heap.size [] a i->(Pure P b ((Array.toList e)++([.agg #[I p,I q,I r,.string L,.string M,.string N,.string N0]]:List Value)++(Array.toList f)).toArray i (Ri fun j l=>(R (.bool (decide (j=g))) l))))))))):
  Pure P 160 #[.agg #[I p,I q,I r,.string L,.string M,.string N,.string N0],(.pointer (some c)),(.pointer (some d))] w R:=
 pr gR.cx func160 h

def iM.cx:Pm:=([],[(1,2,4),(1,9999,3)])
theorem iM.vc{c d:Addr}
  (h:(∀a,Ext w.heap.size [] w a->(∃(b:Nat)(e f:Array Value),aa a c [(.func (.func b) e f)]/\(∃g,aa a d [I g]/\(az P b=true/\(∀i,Ext w.heap.size [] a i->(Pure P b ((Array.toList e)++([.agg #[I p,.string L,.string M,.string N,.string N0,.string N1,.string N2]]:List Value)++(Array.toList f)).toArray i (Ri fun j l=>(R (.bool (decide (j=g))) l))))))))):
  Pure P 161 #[.agg #[I p,.string L,.string M,.string N,.string N0,.string N1,.string N2],(.pointer (some c)),(.pointer (some d))] w R:=
 pr iM.cx func161 h

def pz.cx:Pm:=([],[])
theorem pz.vc
  (h:(Pure P 71 #[.string L] w (Rb fun a b=>(R (.bool (decide (a=false))) b)))):
  Pure P 197 #[.string L] w R:=
 pr pz.cx func197 h

def cY.L5(a:O)(b c:Nat)(d:O)(e f:Nat)(g i:Int)(j:O)(l m:Nat)(n:O)(o p:Nat):=Lt 253 f253 5 [vL 2,vS 6 a b c,vS 21 d e f,vI 22 g,vI 23 i] [⟨2,false,36,[(.slice j l m),(.slice n o p)]⟩]
def cY.cx:Pm:=([((true,5),[2,6,21,22,23],[2])],[(3,7,2)])
theorem cY.L5.step
  (h:(Br (p<q) (Ix p g E fun y=>(∃n o r,aa w (y.add ((p).toNat*3)) [I n,I o,I r]/\(∀u,Ext B [] w u->(Pure P 42 #[.agg #[.slice A b c,.slice C a d],I o] u (Ri fun j z=>(aS .i64 (j*(a:Int))/\(Pure P 43 #[.agg #[.slice A b c,.slice C a d],I n] z (Ri fun l v=>(aS .i64 ((j*(a:Int))+l)/\(Ix ((j*(a:Int))+l) e D fun m=>(∃(s:List Value)(t:Nat),B<=(m.add ((((j*(a:Int))+l)).toNat*1)).block/\(m.add ((((j*(a:Int))+l)).toNat*1)).spot=none/\v.heap[(m.add ((((j*(a:Int))+l)).toNat*1)).block]? =some (.cells s.toArray t (0,0))/\(m.add ((((j*(a:Int))+l)).toNat*1)).off+1<=s.length/\hasType t [⟨8,false,54,[I n,I o,I r]⟩,⟨2,false,36,[.slice A b c,.slice C a d]⟩]=false/\∀x,aC v x (m.add ((((j*(a:Int))+l)).toNat*1)).block t (setCells s (m.add ((((j*(a:Int))+l)).toNat*1)).off [I r])->(aS .i64 (p+1)/\(cY.L5 D e f E g i q (p+1) A b c C a d B x R))))))))))))) (R (.tuple #[.slice D e f,I 0]) w))):
  cY.L5 D e f E g i q p A b c C a d B w R:=
 lr cY.cx func253 h
theorem cY.vc
  (h:(∀g,Ext w.heap.size [] w g->(Pure P 41 #[.agg #[.slice A a d,.slice C b e],.slice D c f] g (Ri fun j i=>(Br (j≠0) (R (.tuple #[.slice none 0 0,I 1]) i) (aS .i64 ((a:Int)*(b:Int))/\(ae P (Instr.makeSlice 28 (I ((a:Int)*(b:Int))) (I ((a:Int)*(b:Int)))) w.heap.size [36] i (Rs fun l m n o=>(cY.L5 l m n D c f (c:Int) (0:Int) A a d C b e w.heap.size o R))))))))):
  Pure P 253 #[.agg #[.slice A a d,.slice C b e],.slice D c f] w R:=
 pr cY.cx func253 h

def ba.L8(a:O)(b c:Nat)(d:O)(e f:Nat)(g i:Int)(j:O)(l m:Nat)(n:O)(o p:Nat):=Lt 283 f283 8 [vS 1 a b c,vL 2,vS 33 d e f,vI 34 g,vI 35 i] [⟨2,false,36,[(.slice j l m),(.slice n o p)]⟩]
def ba.YT(a:O)(b c:Nat)(d:Int)(e:O)(f g:Nat)(i j:Int)(l:O)(m n:Nat)(o p:Int)(q:O)(r s:Nat)(t:O)(u v:Nat):=Lt 283 f283 12 [vS 1 a b c,vL 2,vI 8 d,vS 33 e f g,vI 34 i,vI 35 j,vS 54 l m n,vI 55 o,vI 56 p] [⟨2,false,36,[(.slice q r s),(.slice t u v)]⟩]
def ba.AA(a:O)(b c:Nat)(d:O)(e f:Nat)(g:O)(i j:Nat)(l m:Int)(n:O)(o p:Nat)(q:O)(r s:Nat):=Lt 283 f283 21 [vS 1 a b c,vL 2,vS 11 d e f,vS 69 g i j,vI 70 l,vI 71 m] [⟨2,false,36,[(.slice n o p),(.slice q r s)]⟩]
def ba.Jp(a:O)(b c:Nat)(d:O)(e f:Nat)(g:Int)(i:O)(j l:Nat)(m n:Int)(o:O)(p q:Nat)(r s:Int)(t:O)(u v:Nat)(x:O)(y z:Nat)(A:Int)(C D E G H J:ByteArray):=Lt 283 f283 24 [vS 1 a b c,vL 2,vS 11 d e f,vI 12 g,vL 13,vS 69 i j l,vI 70 m,vI 71 n,vS 77 o p q,vI 78 r,vI 79 s] [⟨2,false,36,[(.slice t u v),(.slice x y z)]⟩,⟨13,false,172,[(I A),(.string C),(.string D),(.string E),(.string G),(.string H),(.string J)]⟩]
def ba.cx:Pm:=([((true,8),[1,2,33,34,35],[2]),((true,12),[1,2,8,33,34,35,54,55,56],[2]),((true,21),[1,2,11,69,70,71],[2]),((true,24),[1,2,11,12,13,69,70,71,77,78,79],[2,13])],[(28,7,2),(28,8,2)])
theorem ba.L8.step
  (h:(Br (p<q) (Ix p e D fun m=>(∃n j o r s t u,aa w (m.add ((p).toNat*7)) [I n,I j,I o,.string r,.string s,.string t,.string u]/\(aS .i64 (p*(a:Int))/\(aS .i64 (p+1)/\(aS .i64 ((p+1)*(a:Int))/\((0<=(p*(a:Int))/\(p*(a:Int))<=((p+1)*(a:Int))/\((p+1)*(a:Int))<=(b:Int))/\(∀l,Ext B [] w l->(ba.YT A d b j D e i q p (cC A (((p*(a:Int))).toNat) b 1) ((((p+1)*(a:Int))).toNat - ((p*(a:Int))).toNat) (b - ((p*(a:Int))).toNat) ((((((p+1)*(a:Int))).toNat - ((p*(a:Int))).toNat):Nat):Int) (0:Int) E f g C a c B l R)))))))) (ba.AA A d b none 0 0 C a c (a:Int) (0:Int) E f g C a c B w R))):
  ba.L8 A d b D e i q p E f g C a c B w R:=
 lr ba.cx func283 h
theorem ba.YT.step
  (h:(Br (p<t) (Ix p e D fun n=>(∃m,aa w (n.add ((p).toNat*1)) [I m]/\(Br (m>q) (R (.tuple #[.slice none 0 0,I 12]) w) (aS .i64 (q - m)/\(aS .i64 (p+1)/\(ba.YT A a b (q - m) C c d s r D e l t (p+1) E f g G i j B w R)))))) (aS .i64 (r+1)/\(ba.L8 A a b C c d s (r+1) E f g G i j B w R)))):
  ba.YT A a b q C c d s r D e l t p E f g G i j B w R:=
 lr ba.cx func283 h
theorem ba.AA.step
  (h:(Br (p<q) (Ix p d C fun x=>(∃m n o r s t u,aa w (x.add ((p).toNat*7)) [I m,.string n,.string o,.string r,.string s,.string t,.string u]/\(∀v,Ext B [] w v->(ba.Jp E f g A b c p C d i q p D a e (a:Int) (0:Int) D a e G j l m n o r s t u B v R)))) (R (.tuple #[.slice A b c,I 0]) w))):
  ba.AA E f g A b c C d i q p D a e G j l B w R:=
 lr ba.cx func283 h
theorem ba.Jp.step
  (h:(Br (p<t) (Ix p i E fun y=>(∃x z J K O Q S,aa w (y.add ((p).toNat*7)) [I x,I z,I J,.string K,.string O,.string Q,.string S]/\(aS .i64 (p*(a:Int))/\(aS .i64 ((p*(a:Int))+q)/\(Ix ((p*(a:Int))+q) b A fun T=>(∀o,Ext B [] w o->(∃v,aa o (T.add ((((p*(a:Int))+q)).toNat*1)) [I v]/\(Br (v>0) (ae P (Instr.buildSlice 40 1 #[(0,(.agg #[I u,I x,I v]))]) B [111,36,172] o (Rs fun U V X Y=>(ae P (Builtin.append_ #[40,40] 40 #[.slice C d e,.slice U V X]) B [111,36,172] Y (Rs fun Z d0 d1 d2=>(aS .i64 (p+1)/\(ba.Jp A b c Z d0 d1 q D f g s r E i n t (p+1) G j l H a m u L M N N0 N1 N2 B d2 R)))))) (aS .i64 (p+1)/\(ba.Jp A b c C d e q D f g s r E i n t (p+1) G j l H a m u L M N N0 N1 N2 B o R)))))))))) (aS .i64 (r+1)/\(ba.AA A b c C d e D f g s (r+1) G j l H a m B w R)))):
  ba.Jp A b c C d e q D f g s r E i n t p G j l H a m u L M N N0 N1 N2 B w R:=
 lr ba.cx func283 h
theorem ba.vc
  (h:(∀i,Ext w.heap.size [] w i->(Pure P 97 #[.agg #[.slice A a c,.slice C b e]] i (Ri fun l g=>(Br (l≠0) (R (.tuple #[.slice none 0 0,I 1]) g) (aS .i64 ((a:Int)*(b:Int))/\(Br ((d:Int)≠((a:Int)*(b:Int))) (R (.tuple #[.slice none 0 0,I 10]) g) (Pure P 225 #[.slice D d f,(.func (.func 299) #[] #[])] g (Rb fun m j=>(Bb m (R (.tuple #[.slice none 0 0,I 2]) j) (ba.L8 D d f A a c (a:Int) (0:Int) A a c C b e w.heap.size j R))))))))))):
  Pure P 283 #[.agg #[.slice A a c,.slice C b e],.slice D d f] w R:=
 pr ba.cx func283 h

def qo.cx:Pm:=([],[])
theorem qo.vc
  (h:(R (.bool (decide (p<0))) w)):
  Pure P 299 #[I p] w R:=
 pr qo.cx func299 h

end Go.Proofs.YtbcojgcjjpggnaaGreatDoor.F

set_option maxRecDepth 100000
set_option maxHeartbeats 4000000
namespace Go.Proofs.YtbcojgcjjpggnaaGreatDoor.F
open Go Go.RowKit Go.Proofs Go.Proofs.YtbcojgcjjpggnaaGreatDoor.Vc
open Tryz
variable {A C D E G H J K A0 A1 A2 A3 A4 A5 A6 A7 A8 A9 C0 C1 C2 C3 C4 C5 C6 C7 C8 C9:O} {a b c d e f g i j l m n o a0 a1 a2 a3 a4 a5 a6 a7 a8 a9 b0 b1 b2 b3 b4 b5 b6 b7 b8 b9 c0 c1 c2 c3 c4 c5 c6 c7 c8 c9:Nat} {p q r s t u v x p0 p1 p2 p3 p4 p5 p6 p7 p8 p9 q0 q1 q2 q3 q4 q5 q6 q7 q8 q9:Int} {L M N N0 N1 N2 N3 N4 N5 N6 N7 N8 N9 T0 T1 T2 T3 T4 T5 T6 T7 T8 T9:ByteArray} {Q S:Bool} {B:Nat} {w:World} {R:Kt}
def fa.cx:Pm:=([],[(3,0,2),(3,2,2)])
theorem fa.vc
  (h:(Br (A=none) (R (.slice none 0 0) w) (ae P (Instr.buildSlice 40 0 #[]) w.heap.size [] w (Rs fun c d e f=>(ae P (Builtin.append_ #[40,40] 40 #[.slice c d e,.slice A a b]) w.heap.size [] f (Rs fun g i j l=>(R (.slice g i j) l))))))):
  Pure P 12 #[.slice A a b] w R:=
 pr fa.cx func12 h

def aX.L4(a:O)(b c:Nat)(d:O)(e f:Nat)(g i:Int):=Lt 13 f13 4 [vS 0 a b c,vS 1 d e f,vI 12 g,vI 13 i] []
def aX.cx:Pm:=([((true,4),[0,1,12,13],[])],[])
theorem aX.L4.step
  (h:(Br (p<q) (Ix p a A fun o=>(∃e f g,aa w (o.add ((p).toNat*3)) [I e,I f,I g]/\(Ix p b C fun r=>(∃i j l,aa w (r.add ((p).toNat*3)) [I i,I j,I l]/\(Br (¬(e=i/\f=j/\g=l/\True)) (∀m,Ext B [] w m->(R (.bool false) m)) (aS .i64 (p+1)/\(∀n,Ext B [] w n->(aX.L4 A a c C b d q (p+1) B n R)))))))) (R (.bool true) w))):
  aX.L4 A a c C b d q p B w R:=
 lr aX.cx func13 h
theorem aX.vc
  (h:(Br ((a:Int)≠(b:Int)) (R (.bool false) w) (aX.L4 A a c C b d (a:Int) (0:Int) w.heap.size w R))):
  Pure P 13 #[.slice A a c,.slice C b d] w R:=
 pr aX.cx func13 h

def aY.L4(a:O)(b c:Nat)(d:O)(e f:Nat)(g i:Int):=Lt 14 f14 4 [vS 0 a b c,vS 1 d e f,vI 12 g,vI 13 i] []
def aY.cx:Pm:=([((true,4),[0,1,12,13],[])],[])
theorem aY.L4.step
  (h:(Br (p<q) (Ix p a A fun o=>(∃e f g,aa w (o.add ((p).toNat*3)) [I e,I f,I g]/\(Ix p b C fun r=>(∃i j l,aa w (r.add ((p).toNat*3)) [I i,I j,I l]/\(Br (¬(e=i/\f=j/\g=l/\True)) (∀m,Ext B [] w m->(R (.bool false) m)) (aS .i64 (p+1)/\(∀n,Ext B [] w n->(aY.L4 A a c C b d q (p+1) B n R)))))))) (R (.bool true) w))):
  aY.L4 A a c C b d q p B w R:=
 lr aY.cx func14 h
theorem aY.vc
  (h:(Br ((a:Int)≠(b:Int)) (R (.bool false) w) (aY.L4 A a c C b d (a:Int) (0:Int) w.heap.size w R))):
  Pure P 14 #[.slice A a c,.slice C b d] w R:=
 pr aY.cx func14 h

def cT.cx:Pm:=([],[])
theorem cT.vc{d e:Array Value}
  (h:(Pure P 53 #[.slice A a b,(.func (.func c) d e)] w (Ri fun f g=>(R (.bool (decide (f≥(0:Int)))) g)))):
  Pure P 19 #[.slice A a b,(.func (.func c) d e)] w R:=
 pr cT.cx func19 h

def aI.L2(a:O)(b c d:Nat)(e:Array Value)(f:Array Value)(g i:Int):=Lt 21 f21 2 [vS 0 a b c,(1,.v (.func (.func d) e f)),vI 7 g,vI 8 i] []
def aI.cx:Pm:=([((true,2),[0,1,7,8],[])],[(4,5,4)])
theorem aI.L2.step{d e:Array Value}
  (h:(Br (p<q) (Ix p b A fun m=>(∃f g i j,aa w (m.add ((p).toNat*4)) [I f,I g,.string i,.string j]/\(az P a=true/\(Pure P a ((Array.toList d)++([.agg #[I f,I g,.string i,.string j]]:List Value)++(Array.toList e)).toArray w (Rb fun n l=>(Bb n (R (I p) l) (aS .i64 (p+1)/\(aI.L2 A b c a d e q (p+1) B l R)))))))) (R (I (-1:Int)) w))):
  aI.L2 A b c a d e q p B w R:=
 lr aI.cx func21 h
theorem aI.vc{d e:Array Value}
  (h:(aI.L2 A a b c d e (a:Int) (0:Int) w.heap.size w R)):
  Pure P 21 #[.slice A a b,(.func (.func c) d e)] w R:=
 pr aI.cx func21 h

def aZ.L4(a:O)(b c:Nat)(d:O)(e f:Nat)(g i:Int):=Lt 29 f29 4 [vS 0 a b c,vS 1 d e f,vI 12 g,vI 13 i] []
def aZ.cx:Pm:=([((true,4),[0,1,12,13],[])],[])
theorem aZ.L4.step
  (h:(Br (p<q) (Ix p a A fun o=>(∃e f g,aa w (o.add ((p).toNat*3)) [I e,I f,I g]/\(Ix p b C fun r=>(∃i j l,aa w (r.add ((p).toNat*3)) [I i,I j,I l]/\(Br (¬(e=i/\f=j/\g=l/\True)) (∀m,Ext B [] w m->(R (.bool false) m)) (aS .i64 (p+1)/\(∀n,Ext B [] w n->(aZ.L4 A a c C b d q (p+1) B n R)))))))) (R (.bool true) w))):
  aZ.L4 A a c C b d q p B w R:=
 lr aZ.cx func29 h
theorem aZ.vc
  (h:(Br ((a:Int)≠(b:Int)) (R (.bool false) w) (aZ.L4 A a c C b d (a:Int) (0:Int) w.heap.size w R))):
  Pure P 29 #[.slice A a c,.slice C b d] w R:=
 pr aZ.cx func29 h

def eK.cx:Pm:=([],[(3,0,2),(3,2,2)])
theorem eK.vc
  (h:(Br (A=none) (R (.slice none 0 0) w) (ae P (Instr.buildSlice 44 0 #[]) w.heap.size [] w (Rs fun c d e f=>(ae P (Builtin.append_ #[44,44] 44 #[.slice c d e,.slice A a b]) w.heap.size [] f (Rs fun g i j l=>(R (.slice g i j) l))))))):
  Pure P 31 #[.slice A a b] w R:=
 pr eK.cx func31 h

def fb.cx:Pm:=([],[(3,0,2),(3,2,2)])
theorem fb.vc
  (h:(Br (A=none) (R (.slice none 0 0) w) (ae P (Instr.buildSlice 45 0 #[]) w.heap.size [] w (Rs fun c d e f=>(ae P (Builtin.append_ #[45,45] 45 #[.slice c d e,.slice A a b]) w.heap.size [] f (Rs fun g i j l=>(R (.slice g i j) l))))))):
  Pure P 32 #[.slice A a b] w R:=
 pr fb.cx func32 h

def dy.cx:Pm:=([],[(3,0,2),(3,2,2)])
theorem dy.vc
  (h:(Br (A=none) (R (.slice none 0 0) w) (ae P (Instr.buildSlice 43 0 #[]) w.heap.size [] w (Rs fun c d e f=>(ae P (Builtin.append_ #[43,43] 43 #[.slice c d e,.slice A a b]) w.heap.size [] f (Rs fun g i j l=>(R (.slice g i j) l))))))):
  Pure P 33 #[.slice A a b] w R:=
 pr dy.cx func33 h

def ar.L3(a:O)(b c d:Nat)(e:Array Value)(f:Array Value)(g i j l m n:Int):=Lt 44 f44 3 [vS 0 a b c,(2,.v (.func (.func d) e f)),vL 4,vI 8 g,vI 9 i,vI 10 j] [⟨4,false,54,[(I l),(I m),(I n)]⟩]
def ar.cx:Pm:=([((true,3),[0,2,4,8,9,10],[4])],[(4,4,2),(5,6,4),(8,11,4)])
theorem ar.L3.step{e f:Array Value}
  (h:(Br (p<q) (aS .i64 (p+q)/\(aS .u64 ((p+q))/\(ae P (binOp .shr 184 (.int .u64 ((p+q))) (.int .u64 (1:Int))) B [54] w fun C g=>∃d,C= .int .u64 d/\(aS .i64 (d)/\(Ix (d) b A fun D=>(∃i j l,aa g (D.add (((d)).toNat*3)) [I i,I j,I l]/\(az P a=true/\(∀m,Ext B [] g m->(Pure P a ((Array.toList e)++([.agg #[I i,I j,I l],.agg #[I r,I s,I t]]:List Value)++(Array.toList f)).toArray m (Ri fun E n=>(Br (E<0) (aS .i64 ((d)+1)/\(ar.L3 A b c a e f u ((d)+1) q r s t B n R)) (ar.L3 A b c a e f u p (d) r s t B n R)))))))))))) (Br (p<u) (Ix p b A fun G=>(∃o v x,aa w (G.add ((p).toNat*3)) [I o,I v,I x]/\(az P a=true/\(∀y,Ext B [] w y->(Pure P a ((Array.toList e)++([.agg #[I o,I v,I x],.agg #[I r,I s,I t]]:List Value)++(Array.toList f)).toArray y (Ri fun H J=>(R (.tuple #[I p,(.bool (decide (H=0)))]) J))))))) (∀z,Ext B [] w z->(R (.tuple #[I p,.bool false]) z))))):
  ar.L3 A b c a e f u p q r s t B w R:=
 lr ar.cx func44 h
theorem ar.vc{d e:Array Value}
  (h:(∀f,Ext w.heap.size [] w f->(ar.L3 A a b c d e (a:Int) (0:Int) (a:Int) p q r w.heap.size f R))):
  Pure P 44 #[.slice A a b,.agg #[I p,I q,I r],(.func (.func c) d e)] w R:=
 pr ar.cx func44 h

def eW.cx:Pm:=([],[(7,2,2),(9,8,2),(10,4,2),(11,8,2),(14,6,2),(15,8,2),(16,4,2),(18,4,2),(19,4,6)])
theorem eW.vo(hB:B<=w.heap.size)
  (h:((0<=p/\p<=(b:Int)/\b<=c)/\(Br ((a:Int)=0) (R (.slice A b c) w) (Br (p=(b:Int)) (ae P (Builtin.append_ #[40,40] 40 #[.slice A b c,.slice C a d]) B [] w (Rs fun o q r s=>(R (.slice o q r) s))) (aS .i64 ((b:Int)+(a:Int))/\(Br ((((b:Int)+(a:Int)):Int)>(c:Int)) ((0<=p/\p<=(c:Int))/\(aS .i64 ((b:Int)+(a:Int))/\(aS .i64 (((b:Int)+(a:Int)) - p)/\(ae P (Builtin.append_ #[40,3] 40 #[(.slice A ((p).toNat) c),(I (((b:Int)+(a:Int)) - p))]) B [] w (Rs fun g e f t=>((0<=p/\p<=(e:Int)/\e<=f)/\(ae P (Builtin.copy_ #[40,40] 3 #[(.slice (cC g ((p).toNat) f 3) (e - (p).toNat) (f - (p).toNat)),.slice C a d]) B [] t (Ri fun E u=>(aS .i64 (p+(a:Int))/\((0<=(p+(a:Int))/\(p+(a:Int))<=(e:Int)/\e<=f)/\((0<=p/\p<=(b:Int)/\b<=c)/\(∀i,Ext B [] u i->(ae P (Builtin.copy_ #[40,40] 3 #[(.slice (cC g (((p+(a:Int))).toNat) f 3) (e - ((p+(a:Int))).toNat) (f - ((p+(a:Int))).toNat)),(.slice (cC A ((p).toNat) c 3) (b - (p).toNat) (c - (p).toNat))]) B [] i (Ri fun G v=>(R (.slice g e f) v))))))))))))))) (aS .i64 ((b:Int)+(a:Int))/\((0<=((b:Int)+(a:Int))/\((b:Int)+(a:Int))<=(c:Int))/\(aS .i64 (p+(a:Int))/\((0<=(p+(a:Int))/\(p+(a:Int))<=(((((b:Int)+(a:Int))).toNat):Int)/\((((b:Int)+(a:Int))).toNat)<=c)/\(Pn P (callFunc 104 #[.slice C a d,(.slice (cC A (((p+(a:Int))).toNat) c 3) (((((b:Int)+(a:Int))).toNat) - ((p+(a:Int))).toNat) (c - ((p+(a:Int))).toNat))]) B [] w (Rb fun x j=>(Br (x=false) (aS .i64 (p+(a:Int))/\((0<=(p+(a:Int))/\(p+(a:Int))<=(((((b:Int)+(a:Int))).toNat):Int)/\((((b:Int)+(a:Int))).toNat)<=c)/\((0<=p/\p<=(((((b:Int)+(a:Int))).toNat):Int)/\((((b:Int)+(a:Int))).toNat)<=c)/\(∀l,Ext B [] j l->(ae P (Builtin.copy_ #[40,40] 3 #[(.slice (cC A (((p+(a:Int))).toNat) c 3) (((((b:Int)+(a:Int))).toNat) - ((p+(a:Int))).toNat) (c - ((p+(a:Int))).toNat)),(.slice (cC A ((p).toNat) c 3) (((((b:Int)+(a:Int))).toNat) - (p).toNat) (c - (p).toNat))]) B [] l (Ri fun H y=>((0<=p/\p<=(((((b:Int)+(a:Int))).toNat):Int)/\((((b:Int)+(a:Int))).toNat)<=c)/\(ae P (Builtin.copy_ #[40,40] 3 #[(.slice (cC A ((p).toNat) c 3) (((((b:Int)+(a:Int))).toNat) - (p).toNat) (c - (p).toNat)),.slice C a d]) B [] y (Ri fun J z=>(R (.slice A ((((b:Int)+(a:Int))).toNat) c) z)))))))))) ((0<=(b:Int)/\(b:Int)<=(((((b:Int)+(a:Int))).toNat):Int)/\((((b:Int)+(a:Int))).toNat)<=c)/\(ae P (Builtin.copy_ #[40,40] 3 #[(.slice (cC A (((b:Int)).toNat) c 3) (((((b:Int)+(a:Int))).toNat) - ((b:Int)).toNat) (c - ((b:Int)).toNat)),.slice C a d]) B [] j (Ri fun K m=>((0<=p/\p<=(((((b:Int)+(a:Int))).toNat):Int)/\((((b:Int)+(a:Int))).toNat)<=c)/\(cI P 105 #[(.slice (cC A ((p).toNat) c 3) (((((b:Int)+(a:Int))).toNat) - (p).toNat) (c - (p).toNat)),(I (a:Int))] B m fun D n=>PL [] m n/\D= .tuple #[]/\(R (.slice A ((((b:Int)+(a:Int))).toNat) c) n))))))))))))))))))):
  cI P 47 #[.slice A b c,I p,.slice C a d] B w R:=
 pb eW.cx func47 h hB

def eX.cx:Pm:=([],[(1,5,2),(5,6,2),(6,5,2)])
theorem eX.vo(hB:B<=w.heap.size)
  (h:(ae P (Instr.sliceAt 40 (.slice A a b) (some (I q)) (some (I p)) (some (I (a:Int)))) B [] w (Rs fun m n o e=>(Br (q=p) (R (.slice A a b) e) ((0<=q/\q<=(b:Int))/\((0<=p/\p<=(a:Int)/\a<=b)/\(∀f,Ext B [] e f->(ae P (Builtin.append_ #[40,40] 40 #[(.slice A ((q).toNat) b),(.slice (cC A ((p).toNat) b 3) (a - (p).toNat) (b - (p).toNat))]) B [] f (Rs fun g c d i=>((0<=(c:Int)/\(c:Int)<=(a:Int)/\(a:Int)<=(d:Int))/\(ae P (Builtin.clear_ #[40] 0 #[(.slice (cC g (((c:Int)).toNat) d 3) (((a:Int)).toNat - ((c:Int)).toNat) (d - ((c:Int)).toNat))]) B [] i fun j l=>j= .tuple #[]/\(R (.slice g c d) l)))))))))))):
  cI P 48 #[.slice A a b,I q,I p] B w R:=
 pb eX.cx func48 h hB

def aE.L2(a:O)(b c d:Nat)(e:Array Value)(f:Array Value)(g i:Int):=Lt 53 f53 2 [vS 0 a b c,(1,.v (.func (.func d) e f)),vI 7 g,vI 8 i] []
def aE.cx:Pm:=([((true,2),[0,1,7,8],[])],[(4,5,4)])
theorem aE.L2.step{d e:Array Value}
  (h:(Br (p<q) (Ix p b A fun m=>(∃f g i j,aa w (m.add ((p).toNat*4)) [I f,I g,.string i,.string j]/\(az P a=true/\(Pure P a ((Array.toList d)++([.agg #[I f,I g,.string i,.string j]]:List Value)++(Array.toList e)).toArray w (Rb fun n l=>(Bb n (R (I p) l) (aS .i64 (p+1)/\(aE.L2 A b c a d e q (p+1) B l R)))))))) (R (I (-1:Int)) w))):
  aE.L2 A b c a d e q p B w R:=
 lr aE.cx func53 h
theorem aE.vc{d e:Array Value}
  (h:(aE.L2 A a b c d e (a:Int) (0:Int) w.heap.size w R)):
  Pure P 53 #[.slice A a b,(.func (.func c) d e)] w R:=
 pr aE.cx func53 h

def aH.L5(a:O)(b c d:Nat)(e:Array Value)(f:Array Value)(g i:Int):=Lt 56 f56 5 [vS 0 a b c,(1,.v (.func (.func d) e f)),vI 5 g,vI 6 i] []
def aH.cx:Pm:=([((true,5),[0,1,5,6],[])],[(7,4,2),(8,2,4),(11,3,2)])
theorem aH.L5.step{f g:Array Value}
  (h:(Br (q<(a:Int)) (Ix q a A fun a4=>(∃r s t u v x y z C D E G,aa w (a4.add ((q).toNat*6)) [I r,I s,I t,.slice u v x,.slice y z C,.slice D E G]/\(ae P (Instr.alloc 32 true (.tuple #[])) B [] w fun F H=>∃(d:Addr),F= .pointer (some d)/\(∃(j:List Value)(l:Nat),B<=d.block/\d.spot=none/\H.heap[d.block]? =some (.cells j.toArray l (0,0))/\d.off+6<=j.length/\hasType l []=false/\∀m,aC H m d.block l (setCells j d.off [I r,I s,I t,.slice u v x,.slice y z C,.slice D E G])->(∃J K L M N O Q S T U V X,aa m d [I J,I K,I L,.slice M N O,.slice Q S T,.slice U V X]/\(az P c=true/\(Pure P c ((Array.toList f)++([.agg #[I J,I K,I L,.slice M N O,.slice Q S T,.slice U V X]]:List Value)++(Array.toList g)).toArray m (Rb fun W i=>(Br (W=false) (∃Y Z d0 d1 d2 d3 d4 d5 d6 d7 d8 d9,aa i d [I Y,I Z,I d0,.slice d1 d2 d3,.slice d4 d5 d6,.slice d7 d8 d9]/\(Ix p a A fun e=>(∃(n:List Value)(o:Nat),B<=(e.add ((p).toNat*6)).block/\(e.add ((p).toNat*6)).spot=none/\i.heap[(e.add ((p).toNat*6)).block]? =some (.cells n.toArray o (0,0))/\(e.add ((p).toNat*6)).off+6<=n.length/\hasType o []=false/\∀k,aC i k (e.add ((p).toNat*6)).block o (setCells n (e.add ((p).toNat*6)).off [I Y,I Z,I d0,.slice d1 d2 d3,.slice d4 d5 d6,.slice d7 d8 d9])->(aS .i64 (p+1)/\(aS .i64 (q+1)/\(aH.L5 A a b c f g (p+1) (q+1) B k R)))))) (aS .i64 (q+1)/\(aH.L5 A a b c f g p (q+1) B i R))))))))))) ((0<=p/\p<=(a:Int)/\a<=b)/\(ae P (Builtin.clear_ #[22] 0 #[(.slice (cC A ((p).toNat) b 6) (a - (p).toNat) (b - (p).toNat))]) B [] w fun e4 e5=>e4= .tuple #[]/\((0<=p/\p<=(b:Int))/\(R (.slice A ((p).toNat) b) e5)))))):
  aH.L5 A a b c f g p q B w R:=
 lr aH.cx func56 h
theorem aH.vo{e f:Array Value}(hB:B<=w.heap.size)
  (h:(Pure P 110 #[.slice A a b,(.func (.func c) e f)] w (Ri fun d g=>(Br (d=(-1:Int)) (R (.slice A a b) g) (aS .i64 (d+1)/\(aH.L5 A a b c e f d (d+1) B g R)))))):
  cI P 56 #[.slice A a b,(.func (.func c) e f)] B w R:=
 pb aH.cx func56 h hB

def eM.cx:Pm:=([],[(3,0,2),(3,2,2)])
theorem eM.vc
  (h:(Br (A=none) (R (.slice none 0 0) w) (ae P (Instr.buildSlice 22 0 #[]) w.heap.size [] w (Rs fun c d e f=>(ae P (Builtin.append_ #[22,22] 22 #[.slice c d e,.slice A a b]) w.heap.size [] f (Rs fun g i j l=>(R (.slice g i j) l))))))):
  Pure P 57 #[.slice A a b] w R:=
 pr eM.cx func57 h

def dB.cx:Pm:=([],[])
theorem dB.vc{d e:Array Value}
  (h:(Pure P 133 #[.slice A a b,(.func (.func c) d e)] w (Ri fun f g=>(R (.bool (decide (f≥(0:Int)))) g)))):
  Pure P 69 #[.slice A a b,(.func (.func c) d e)] w R:=
 pr dB.cx func69 h

def dN.cx:Pm:=([],[])
theorem dN.vc{d e:Array Value}
  (h:(Pure P 135 #[.slice A a b,(.func (.func c) d e)] w (Ri fun f g=>(R (.bool (decide (f≥(0:Int)))) g)))):
  Pure P 73 #[.slice A a b,(.func (.func c) d e)] w R:=
 pr dN.cx func73 h

def aT.L2(a:O)(b c d:Nat)(e:Array Value)(f:Array Value)(g i:Int):=Lt 92 f92 2 [vS 0 a b c,(1,.v (.func (.func d) e f)),vI 7 g,vI 8 i] []
def aT.cx:Pm:=([((true,2),[0,1,7,8],[])],[(4,5,4)])
theorem aT.L2.step{d e:Array Value}
  (h:(Br (p<q) (Ix p b A fun r=>(∃f g i j l m n,aa w (r.add ((p).toNat*7)) [I f,.string g,.string i,.string j,.string l,.string m,.string n]/\(az P a=true/\(Pure P a ((Array.toList d)++([.agg #[I f,.string g,.string i,.string j,.string l,.string m,.string n]]:List Value)++(Array.toList e)).toArray w (Rb fun s o=>(Bb s (R (I p) o) (aS .i64 (p+1)/\(aT.L2 A b c a d e q (p+1) B o R)))))))) (R (I (-1:Int)) w))):
  aT.L2 A b c a d e q p B w R:=
 lr aT.cx func92 h
theorem aT.vc{d e:Array Value}
  (h:(aT.L2 A a b c d e (a:Int) (0:Int) w.heap.size w R)):
  Pure P 92 #[.slice A a b,(.func (.func c) d e)] w R:=
 pr aT.cx func92 h

def aO.L2(a:O)(b c d:Nat)(e:Array Value)(f:Array Value)(g i:Int):=Lt 110 f110 2 [vS 0 a b c,(1,.v (.func (.func d) e f)),vI 7 g,vI 8 i] []
def aO.cx:Pm:=([((true,2),[0,1,7,8],[])],[(4,5,4)])
theorem aO.L2.step{d e:Array Value}
  (h:(Br (p<q) (Ix p b A fun x=>(∃f g i j l m n o r s t u,aa w (x.add ((p).toNat*6)) [I f,I g,I i,.slice j l m,.slice n o r,.slice s t u]/\(az P a=true/\(Pure P a ((Array.toList d)++([.agg #[I f,I g,I i,.slice j l m,.slice n o r,.slice s t u]]:List Value)++(Array.toList e)).toArray w (Rb fun y v=>(Bb y (R (I p) v) (aS .i64 (p+1)/\(aO.L2 A b c a d e q (p+1) B v R)))))))) (R (I (-1:Int)) w))):
  aO.L2 A b c a d e q p B w R:=
 lr aO.cx func110 h
theorem aO.vc{d e:Array Value}
  (h:(aO.L2 A a b c d e (a:Int) (0:Int) w.heap.size w R)):
  Pure P 110 #[.slice A a b,(.func (.func c) d e)] w R:=
 pr aO.cx func110 h

def dZ.cx:Pm:=([],[(3,0,2),(3,2,2)])
theorem dZ.vc
  (h:(Br (A=none) (R (.slice none 0 0) w) (ae P (Instr.buildSlice 33 0 #[]) w.heap.size [] w (Rs fun c d e f=>(ae P (Builtin.append_ #[33,33] 33 #[.slice c d e,.slice A a b]) w.heap.size [] f (Rs fun g i j l=>(R (.slice g i j) l))))))):
  Pure P 124 #[.slice A a b] w R:=
 pr dZ.cx func124 h

def fc.cx:Pm:=([],[(3,0,2),(3,2,2)])
theorem fc.vc
  (h:(Br (A=none) (R (.slice none 0 0) w) (ae P (Instr.buildSlice 34 0 #[]) w.heap.size [] w (Rs fun c d e f=>(ae P (Builtin.append_ #[34,34] 34 #[.slice c d e,.slice A a b]) w.heap.size [] f (Rs fun g i j l=>(R (.slice g i j) l))))))):
  Pure P 125 #[.slice A a b] w R:=
 pr fc.cx func125 h

def fe.cx:Pm:=([],[(3,0,2),(3,2,2)])
theorem fe.vc
  (h:(Br (A=none) (R (.slice none 0 0) w) (ae P (Instr.buildSlice 37 0 #[]) w.heap.size [] w (Rs fun c d e f=>(ae P (Builtin.append_ #[37,37] 37 #[.slice c d e,.slice A a b]) w.heap.size [] f (Rs fun g i j l=>(R (.slice g i j) l))))))):
  Pure P 126 #[.slice A a b] w R:=
 pr fe.cx func126 h

def fJ.cx:Pm:=([],[(3,0,2),(3,2,2)])
theorem fJ.vc
  (h:(Br (A=none) (R (.slice none 0 0) w) (ae P (Instr.buildSlice 29 0 #[]) w.heap.size [] w (Rs fun c d e f=>(ae P (Builtin.append_ #[29,29] 29 #[.slice c d e,.slice A a b]) w.heap.size [] f (Rs fun g i j l=>(R (.slice g i j) l))))))):
  Pure P 127 #[.slice A a b] w R:=
 pr fJ.cx func127 h

def ff.cx:Pm:=([],[(3,0,2),(3,2,2)])
theorem ff.vc
  (h:(Br (A=none) (R (.slice none 0 0) w) (ae P (Instr.buildSlice 41 0 #[]) w.heap.size [] w (Rs fun c d e f=>(ae P (Builtin.append_ #[41,41] 41 #[.slice c d e,.slice A a b]) w.heap.size [] f (Rs fun g i j l=>(R (.slice g i j) l))))))):
  Pure P 128 #[.slice A a b] w R:=
 pr ff.cx func128 h

def dR.cx:Pm:=([],[(3,0,2),(3,2,2)])
theorem dR.vc
  (h:(Br (A=none) (R (.slice none 0 0) w) (ae P (Instr.buildSlice 42 0 #[]) w.heap.size [] w (Rs fun c d e f=>(ae P (Builtin.append_ #[42,42] 42 #[.slice c d e,.slice A a b]) w.heap.size [] f (Rs fun g i j l=>(R (.slice g i j) l))))))):
  Pure P 129 #[.slice A a b] w R:=
 pr dR.cx func129 h

def eu.cx:Pm:=([],[(3,0,2),(3,2,2)])
theorem eu.vc
  (h:(Br (A=none) (R (.slice none 0 0) w) (ae P (Instr.buildSlice 46 0 #[]) w.heap.size [] w (Rs fun c d e f=>(ae P (Builtin.append_ #[46,46] 46 #[.slice c d e,.slice A a b]) w.heap.size [] f (Rs fun g i j l=>(R (.slice g i j) l))))))):
  Pure P 130 #[.slice A a b] w R:=
 pr eu.cx func130 h

def dG.cx:Pm:=([],[(3,0,2),(3,2,2)])
theorem dG.vc
  (h:(Br (A=none) (R (.slice none 0 0) w) (ae P (Instr.buildSlice 47 0 #[]) w.heap.size [] w (Rs fun c d e f=>(ae P (Builtin.append_ #[47,47] 47 #[.slice c d e,.slice A a b]) w.heap.size [] f (Rs fun g i j l=>(R (.slice g i j) l))))))):
  Pure P 131 #[.slice A a b] w R:=
 pr dG.cx func131 h

def aP.L2(a:O)(b c d:Nat)(e:Array Value)(f:Array Value)(g i:Int):=Lt 133 f133 2 [vS 0 a b c,(1,.v (.func (.func d) e f)),vI 7 g,vI 8 i] []
def aP.cx:Pm:=([((true,2),[0,1,7,8],[])],[(4,5,4)])
theorem aP.L2.step{d e:Array Value}
  (h:(Br (p<q) (Ix p b A fun m=>(∃f g i j,aa w (m.add ((p).toNat*4)) [I f,I g,I i,.string j]/\(az P a=true/\(Pure P a ((Array.toList d)++([.agg #[I f,I g,I i,.string j]]:List Value)++(Array.toList e)).toArray w (Rb fun n l=>(Bb n (R (I p) l) (aS .i64 (p+1)/\(aP.L2 A b c a d e q (p+1) B l R)))))))) (R (I (-1:Int)) w))):
  aP.L2 A b c a d e q p B w R:=
 lr aP.cx func133 h
theorem aP.vc{d e:Array Value}
  (h:(aP.L2 A a b c d e (a:Int) (0:Int) w.heap.size w R)):
  Pure P 133 #[.slice A a b,(.func (.func c) d e)] w R:=
 pr aP.cx func133 h

def aU.L2(a:O)(b c d:Nat)(e:Array Value)(f:Array Value)(g i:Int):=Lt 135 f135 2 [vS 0 a b c,(1,.v (.func (.func d) e f)),vI 7 g,vI 8 i] []
def aU.cx:Pm:=([((true,2),[0,1,7,8],[])],[(4,5,4)])
theorem aU.L2.step{d e:Array Value}
  (h:(Br (p<q) (Ix p b A fun l=>(∃f g i,aa w (l.add ((p).toNat*3)) [I f,I g,I i]/\(az P a=true/\(Pure P a ((Array.toList d)++([.agg #[I f,I g,I i]]:List Value)++(Array.toList e)).toArray w (Rb fun m j=>(Bb m (R (I p) j) (aS .i64 (p+1)/\(aU.L2 A b c a d e q (p+1) B j R)))))))) (R (I (-1:Int)) w))):
  aU.L2 A b c a d e q p B w R:=
 lr aU.cx func135 h
theorem aU.vc{d e:Array Value}
  (h:(aU.L2 A a b c d e (a:Int) (0:Int) w.heap.size w R)):
  Pure P 135 #[.slice A a b,(.func (.func c) d e)] w R:=
 pr aU.cx func135 h

def dO.cx:Pm:=([],[])
theorem dO.vc{d e:Array Value}
  (h:(Pure P 192 #[.slice A a b,(.func (.func c) d e)] w (Ri fun f g=>(R (.bool (decide (f≥(0:Int)))) g)))):
  Pure P 146 #[.slice A a b,(.func (.func c) d e)] w R:=
 pr dO.cx func146 h

def aJ.L2(a:O)(b c d:Nat)(e:Array Value)(f:Array Value)(g i:Int):=Lt 148 f148 2 [vS 0 a b c,(1,.v (.func (.func d) e f)),vI 7 g,vI 8 i] []
def aJ.cx:Pm:=([((true,2),[0,1,7,8],[])],[(4,5,4)])
theorem aJ.L2.step{d e:Array Value}
  (h:(Br (p<q) (Ix p b A fun r=>(∃f g i j l m n,aa w (r.add ((p).toNat*7)) [I f,I g,I i,.string j,.string l,.string m,.string n]/\(az P a=true/\(Pure P a ((Array.toList d)++([.agg #[I f,I g,I i,.string j,.string l,.string m,.string n]]:List Value)++(Array.toList e)).toArray w (Rb fun s o=>(Bb s (R (I p) o) (aS .i64 (p+1)/\(aJ.L2 A b c a d e q (p+1) B o R)))))))) (R (I (-1:Int)) w))):
  aJ.L2 A b c a d e q p B w R:=
 lr aJ.cx func148 h
theorem aJ.vc{d e:Array Value}
  (h:(aJ.L2 A a b c d e (a:Int) (0:Int) w.heap.size w R)):
  Pure P 148 #[.slice A a b,(.func (.func c) d e)] w R:=
 pr aJ.cx func148 h

def aL.L5(a:O)(b c d:Nat)(e:Array Value)(f:Array Value)(g i:Int):=Lt 153 f153 5 [vS 0 a b c,(1,.v (.func (.func d) e f)),vI 5 g,vI 6 i] []
def aL.cx:Pm:=([((true,5),[0,1,5,6],[])],[(7,4,2),(8,2,4),(11,3,2)])
theorem aL.L5.step{f g:Array Value}
  (h:(Br (q<(a:Int)) (Ix q a A fun G=>(∃r s t,aa w (G.add ((q).toNat*3)) [I r,I s,I t]/\(ae P (Instr.alloc 54 true (.tuple #[])) B [] w fun H u=>∃(d:Addr),H= .pointer (some d)/\(∃(j:List Value)(l:Nat),B<=d.block/\d.spot=none/\u.heap[d.block]? =some (.cells j.toArray l (0,0))/\d.off+3<=j.length/\hasType l []=false/\∀m,aC u m d.block l (setCells j d.off [I r,I s,I t])->(∃v x y,aa m d [I v,I x,I y]/\(az P c=true/\(Pure P c ((Array.toList f)++([.agg #[I v,I x,I y]]:List Value)++(Array.toList g)).toArray m (Rb fun J i=>(Br (J=false) (∃z C D,aa i d [I z,I C,I D]/\(Ix p a A fun e=>(∃(n:List Value)(o:Nat),B<=(e.add ((p).toNat*3)).block/\(e.add ((p).toNat*3)).spot=none/\i.heap[(e.add ((p).toNat*3)).block]? =some (.cells n.toArray o (0,0))/\(e.add ((p).toNat*3)).off+3<=n.length/\hasType o []=false/\∀E,aC i E (e.add ((p).toNat*3)).block o (setCells n (e.add ((p).toNat*3)).off [I z,I C,I D])->(aS .i64 (p+1)/\(aS .i64 (q+1)/\(aL.L5 A a b c f g (p+1) (q+1) B E R)))))) (aS .i64 (q+1)/\(aL.L5 A a b c f g p (q+1) B i R))))))))))) ((0<=p/\p<=(a:Int)/\a<=b)/\(ae P (Builtin.clear_ #[40] 0 #[(.slice (cC A ((p).toNat) b 3) (a - (p).toNat) (b - (p).toNat))]) B [] w fun K L=>K= .tuple #[]/\((0<=p/\p<=(b:Int))/\(R (.slice A ((p).toNat) b) L)))))):
  aL.L5 A a b c f g p q B w R:=
 lr aL.cx func153 h
theorem aL.vo{e f:Array Value}(hB:B<=w.heap.size)
  (h:(Pure P 192 #[.slice A a b,(.func (.func c) e f)] w (Ri fun d g=>(Br (d=(-1:Int)) (R (.slice A a b) g) (aS .i64 (d+1)/\(aL.L5 A a b c e f d (d+1) B g R)))))):
  cI P 153 #[.slice A a b,(.func (.func c) e f)] B w R:=
 pb aL.cx func153 h hB

def cR.cx:Pm:=([],[])
theorem cR.vc{d e:Array Value}
  (h:(Pure P 204 #[.slice A a b,(.func (.func c) d e)] w (Ri fun f g=>(R (.bool (decide (f≥(0:Int)))) g)))):
  Pure P 168 #[.slice A a b,(.func (.func c) d e)] w R:=
 pr cR.cx func168 h

def cZ.cx:Pm:=([],[])
theorem cZ.vc{d e:Array Value}
  (h:(Pure P 227 #[.slice A a b,(.func (.func c) d e)] w (Ri fun f g=>(R (.bool (decide (f≥(0:Int)))) g)))):
  Pure P 183 #[.slice A a b,(.func (.func c) d e)] w R:=
 pr cZ.cx func183 h

def aN.L2(a:O)(b c d:Nat)(e:Array Value)(f:Array Value)(g i:Int):=Lt 192 f192 2 [vS 0 a b c,(1,.v (.func (.func d) e f)),vI 7 g,vI 8 i] []
def aN.cx:Pm:=([((true,2),[0,1,7,8],[])],[(4,5,4)])
theorem aN.L2.step{d e:Array Value}
  (h:(Br (p<q) (Ix p b A fun l=>(∃f g i,aa w (l.add ((p).toNat*3)) [I f,I g,I i]/\(az P a=true/\(Pure P a ((Array.toList d)++([.agg #[I f,I g,I i]]:List Value)++(Array.toList e)).toArray w (Rb fun m j=>(Bb m (R (I p) j) (aS .i64 (p+1)/\(aN.L2 A b c a d e q (p+1) B j R)))))))) (R (I (-1:Int)) w))):
  aN.L2 A b c a d e q p B w R:=
 lr aN.cx func192 h
theorem aN.vc{d e:Array Value}
  (h:(aN.L2 A a b c d e (a:Int) (0:Int) w.heap.size w R)):
  Pure P 192 #[.slice A a b,(.func (.func c) d e)] w R:=
 pr aN.cx func192 h

def aA.L2(a:O)(b c d:Nat)(e:Array Value)(f:Array Value)(g i:Int):=Lt 204 f204 2 [vS 0 a b c,(1,.v (.func (.func d) e f)),vI 7 g,vI 8 i] []
def aA.cx:Pm:=([((true,2),[0,1,7,8],[])],[(4,5,4)])
theorem aA.L2.step{d e:Array Value}
  (h:(Br (p<q) (Ix p b A fun t=>(∃f g i j l m n o r,aa w (t.add ((p).toNat*7)) [.string f,I g,.slice i j l,.string m,.string n,I o,I r]/\(az P a=true/\(Pure P a ((Array.toList d)++([.agg #[.string f,I g,.slice i j l,.string m,.string n,I o,I r]]:List Value)++(Array.toList e)).toArray w (Rb fun u s=>(Bb u (R (I p) s) (aS .i64 (p+1)/\(aA.L2 A b c a d e q (p+1) B s R)))))))) (R (I (-1:Int)) w))):
  aA.L2 A b c a d e q p B w R:=
 lr aA.cx func204 h
theorem aA.vc{d e:Array Value}
  (h:(aA.L2 A a b c d e (a:Int) (0:Int) w.heap.size w R)):
  Pure P 204 #[.slice A a b,(.func (.func c) d e)] w R:=
 pr aA.cx func204 h

def ij.cx:Pm:=([],[])
theorem ij.vc
  (h:(Pure P 254 #[.slice A a b,I p] w (Ri fun c d=>(R (.bool (decide (c≥(0:Int)))) d)))):
  Pure P 210 #[.slice A a b,I p] w R:=
 pr ij.cx func210 h

def aG.L2(a:O)(b c d:Nat)(e:Array Value)(f:Array Value)(g i:Int):=Lt 214 f214 2 [vS 0 a b c,(1,.v (.func (.func d) e f)),vI 7 g,vI 8 i] []
def aG.cx:Pm:=([((true,2),[0,1,7,8],[])],[(4,5,4)])
theorem aG.L2.step{d e:Array Value}
  (h:(Br (p<q) (Ix p b A fun r=>(∃f g i j l m n,aa w (r.add ((p).toNat*7)) [I f,.string g,.string i,.string j,.string l,.string m,.string n]/\(az P a=true/\(Pure P a ((Array.toList d)++([.agg #[I f,.string g,.string i,.string j,.string l,.string m,.string n]]:List Value)++(Array.toList e)).toArray w (Rb fun s o=>(Bb s (R (I p) o) (aS .i64 (p+1)/\(aG.L2 A b c a d e q (p+1) B o R)))))))) (R (I (-1:Int)) w))):
  aG.L2 A b c a d e q p B w R:=
 lr aG.cx func214 h
theorem aG.vc{d e:Array Value}
  (h:(aG.L2 A a b c d e (a:Int) (0:Int) w.heap.size w R)):
  Pure P 214 #[.slice A a b,(.func (.func c) d e)] w R:=
 pr aG.cx func214 h

def aQ.L2(a:O)(b c d:Nat)(e:Array Value)(f:Array Value)(g i:Int):=Lt 219 f219 2 [vS 0 a b c,(1,.v (.func (.func d) e f)),vI 7 g,vI 8 i] []
def aQ.cx:Pm:=([((true,2),[0,1,7,8],[])],[(4,5,4)])
theorem aQ.L2.step{d e:Array Value}
  (h:(Br (p<q) (Ix p b A fun s=>(∃f g i j l m n o,aa w (s.add ((p).toNat*8)) [I f,I g,I i,I j,.bool l,.string m,.string n,.string o]/\(az P a=true/\(Pure P a ((Array.toList d)++([.agg #[I f,I g,I i,I j,.bool l,.string m,.string n,.string o]]:List Value)++(Array.toList e)).toArray w (Rb fun t r=>(Bb t (R (I p) r) (aS .i64 (p+1)/\(aQ.L2 A b c a d e q (p+1) B r R)))))))) (R (I (-1:Int)) w))):
  aQ.L2 A b c a d e q p B w R:=
 lr aQ.cx func219 h
theorem aQ.vc{d e:Array Value}
  (h:(aQ.L2 A a b c d e (a:Int) (0:Int) w.heap.size w R)):
  Pure P 219 #[.slice A a b,(.func (.func c) d e)] w R:=
 pr aQ.cx func219 h

def fR.cx:Pm:=([],[])
theorem fR.vc{d e:Array Value}
  (h:(Pure P 269 #[.slice A a b,(.func (.func c) d e)] w (Ri fun f g=>(R (.bool (decide (f≥(0:Int)))) g)))):
  Pure P 225 #[.slice A a b,(.func (.func c) d e)] w R:=
 pr fR.cx func225 h

def aR.L2(a:O)(b c d:Nat)(e:Array Value)(f:Array Value)(g i:Int):=Lt 227 f227 2 [vS 0 a b c,(1,.v (.func (.func d) e f)),vI 7 g,vI 8 i] []
def aR.cx:Pm:=([((true,2),[0,1,7,8],[])],[(4,5,4)])
theorem aR.L2.step{d e:Array Value}
  (h:(Br (p<q) (Ix p b A fun i=>(∃f,aa w (i.add ((p).toNat*1)) [.string f]/\(az P a=true/\(Pure P a ((Array.toList d)++([.string f]:List Value)++(Array.toList e)).toArray w (Rb fun j g=>(Bb j (R (I p) g) (aS .i64 (p+1)/\(aR.L2 A b c a d e q (p+1) B g R)))))))) (R (I (-1:Int)) w))):
  aR.L2 A b c a d e q p B w R:=
 lr aR.cx func227 h
theorem aR.vc{d e:Array Value}
  (h:(aR.L2 A a b c d e (a:Int) (0:Int) w.heap.size w R)):
  Pure P 227 #[.slice A a b,(.func (.func c) d e)] w R:=
 pr aR.cx func227 h

def dP.cx:Pm:=([],[])
theorem dP.vc{d e:Array Value}
  (h:(Pure P 92 #[.slice A a b,(.func (.func c) d e)] w (Ri fun f g=>(R (.bool (decide (f≥(0:Int)))) g)))):
  Pure P 229 #[.slice A a b,(.func (.func c) d e)] w R:=
 pr dP.cx func229 h

def di.cx:Pm:=([],[])
theorem di.vc{d e:Array Value}
  (h:(Pure P 148 #[.slice A a b,(.func (.func c) d e)] w (Ri fun f g=>(R (.bool (decide (f≥(0:Int)))) g)))):
  Pure P 231 #[.slice A a b,(.func (.func c) d e)] w R:=
 pr di.cx func231 h

def bM.L2(a:O)(b c:Nat)(d e f:Int):=Lt 254 f254 2 [vS 0 a b c,vI 1 d,vI 7 e,vI 8 f] []
def bM.cx:Pm:=([((true,2),[0,1,7,8],[])],[])
theorem bM.L2.step
  (h:(Br (p<r) (Ix p a A fun d=>(∃c,aa w (d.add ((p).toNat*1)) [I c]/\(Br (q=c) (R (I p) w) (aS .i64 (p+1)/\(bM.L2 A a b q r (p+1) B w R))))) (R (I (-1:Int)) w))):
  bM.L2 A a b q r p B w R:=
 lr bM.cx func254 h
theorem bM.vc
  (h:(bM.L2 A a b p (a:Int) (0:Int) w.heap.size w R)):
  Pure P 254 #[.slice A a b,I p] w R:=
 pr bM.cx func254 h

def bu.L2(a:O)(b c d:Nat)(e:Array Value)(f:Array Value)(g i:Int):=Lt 269 f269 2 [vS 0 a b c,(1,.v (.func (.func d) e f)),vI 7 g,vI 8 i] []
def bu.cx:Pm:=([((true,2),[0,1,7,8],[])],[(4,5,4)])
theorem bu.L2.step{d e:Array Value}
  (h:(Br (p<q) (Ix p b A fun i=>(∃f,aa w (i.add ((p).toNat*1)) [I f]/\(az P a=true/\(Pure P a ((Array.toList d)++([I f]:List Value)++(Array.toList e)).toArray w (Rb fun j g=>(Bb j (R (I p) g) (aS .i64 (p+1)/\(bu.L2 A b c a d e q (p+1) B g R)))))))) (R (I (-1:Int)) w))):
  bu.L2 A b c a d e q p B w R:=
 lr bu.cx func269 h
theorem bu.vc{d e:Array Value}
  (h:(bu.L2 A a b c d e (a:Int) (0:Int) w.heap.size w R)):
  Pure P 269 #[.slice A a b,(.func (.func c) d e)] w R:=
 pr bu.cx func269 h

def jJ.cx:Pm:=([],[(3,0,2),(3,2,2)])
theorem jJ.vc
  (h:(Br (A=none) (R (.slice none 0 0) w) (ae P (Instr.buildSlice 28 0 #[]) w.heap.size [] w (Rs fun c d e f=>(ae P (Builtin.append_ #[28,28] 28 #[.slice c d e,.slice A a b]) w.heap.size [] f (Rs fun g i j l=>(R (.slice g i j) l))))))):
  Pure P 282 #[.slice A a b] w R:=
 pr jJ.cx func282 h

end Go.Proofs.YtbcojgcjjpggnaaGreatDoor.F

namespace Go.Proofs.YtbcojgcjjpggnaaGreatDoor.B
open Go Go.RowKit Go.Proofs Go.Proofs.YtbcojgcjjpggnaaGreatDoor.Vc

theorem bR.at_{α:Type}{row:α->List Value}{sz:Nat}{w:World}{A:Option Addr}{n:Nat}{v:List α}(h:bR w A sz (v.map row))(b:∀x,(row x).length=sz)(hl:v.length=n){i:Nat}(hi:i<v.length):
  (0<=(i:Int)/\(i:Int)<n)/\∃a,A=some a/\aa w (a.add ((i:Int).toNat*sz)) (row v[i])/\∀k u,(row v[i])[k]? =some u->aa w ((a.add ((i:Int).toNat*sz)).add k) [u]:=by
 obtain⟨hb,a,c,d⟩:=h.load (n:=n) (by simpa using hl) (j:=(i:Int)) om om;obtain⟨e,hf⟩:=d (row v[i]) (by rw[cc];simp[hi]) (b _);exact⟨hb,a,c,e,hf⟩
theorem wS{w:World}{a:Addr}{vs:List Value}(h:aa w a vs)(k n:Nat):aa w (a.add k) ((vs.drop k).take n):=by
 intro i hi;have b:k+i<vs.length:=by rw[eH,sH]at hi;omega
 rw[Go.Deep.add_add,h (k+i) b];simp

abbrev Pa.row(p:Pa):List Value:=[.int .i64 p.id,.int .i64 p.aV,.int .i64 p.cls,.string p.name,.string p.iz,.string p.uX,.string p.fT]
abbrev Pa.val(p:Pa):Value:= .agg #[.int .i64 p.id,.int .i64 p.aV,.int .i64 p.cls,.string p.name,.string p.iz,.string p.uX,.string p.fT]
abbrev Ho.row(h:Ho):List Value:=[.int .i64 h.id,.string h.name,.string h.room,.string h.oh,.string h.x,.string h.y,.string h.z]
abbrev Ho.val(h:Ho):Value:= .agg #[.int .i64 h.id,.string h.name,.string h.room,.string h.oh,.string h.x,.string h.y,.string h.z]
abbrev Sw.row(s:Sw):List Value:=[.int .i64 s.hold,.int .i64 s.aw,.int .i64 s.aV]
abbrev Sw.val(s:Sw):Value:= .agg #[.int .i64 s.hold,.int .i64 s.aw,.int .i64 s.aV]
structure SmP (p:Pa):Prop where
 iz:mc p.iz
 uX:mc p.uX
 fT:mc p.fT
 name:p.name.size<2147483648
structure SmH (h:Ho):Prop where
 room:mc h.room
 oh:mc h.oh
 x:mc h.x
 y:mc h.y
 z:mc h.z
 name:h.name.size<2147483648
structure gq (w:World) (A0:Option Addr) (n0:Nat) (A1:Option Addr) (n1:Nat) (ps:List Pa) (hs:List Ho):Prop where
 p:bR w A0 7 (ps.map Pa.row)
 h:bR w A1 7 (hs.map Ho.row)
 lp:ps.length=n0
 lh:hs.length=n1
 sp:∀p∈ps,SmP p
 sh:∀h∈hs,SmH h
 np:n0<=7
 nh:n1<=7
theorem gq.av{w w':World}{A0 A1:Option Addr}{n0 n1:Nat}{ps:List Pa}{hs:List Ho}(h:gq w A0 n0 A1 n1 ps hs)(hb:Below w.heap.size w w'):gq w' A0 n0 A1 n1 ps hs:=
 ⟨h.p.av hb lf,h.h.av hb lf,h.lp,h.lh,h.sp,h.sh,h.np,h.nh⟩

theorem jf{w:World}{x y:Rat}(hg:bk w)(hx:kG x)(hy:kG y):Pure Tryz.prog 152 #[.string (rS x),.string (rS y)] w fun v _=>v= .string (rS (x+y)):=by
 refine F.jf.vc (pm (iH hg hx hy) ?_);rintro v a _ rfl;exact⟨_,_,rfl,rfl⟩
theorem je{w:World}{x y:Rat}(hg:bk w)(hx:kG x)(hy:kG y):Pure Tryz.prog 151 #[.string (rS x),.string (rS y)] w fun v _=>v= .string (rS (x*y)):=by
 refine F.je.vc (pm (iI hg hx hy) ?_);rintro v a _ rfl;exact⟨_,_,rfl,rfl⟩
theorem gQ{w:World}{x y:Rat}(hg:bk w)(hx:kG x)(hy:kG y):Pure Tryz.prog 96 #[.string (rS x),.string (rS y)] w fun v _=>v= .int .i64 (gp x y):=by
 refine F.gQ.vc (pm (eC hg hx hy) ?_);rintro v a _ rfl;exact⟨_,_,rfl,rfl⟩
theorem iL{w:World}{s:ByteArray}(hg:bk w)(hs:mc s)(h:vR s=true):Pure Tryz.prog 158 #[.string s] w fun v _=>v= .int .i64 (gp (qR s) 0):=by
 refine F.iL.vc ?_;rw[s0,gV h,acL];refine pm (gQ hg (hs.xf h) (Sm.zero om)) ?_;rintro v a _ rfl;exact⟨_,rfl,rfl⟩
theorem mg{w:World}{z:Int}(hg:bk w)(a: -9223372036854775808<=z)(h1:z<=9223372036854775807):Pure Tryz.prog 150 #[.int .i64 z] w fun v _=>v= .string (rS (z:Rat)):=by
 refine F.mg.vc (pm (ub hg z a h1) ?_);rintro v b _ rfl;refine⟨_,rfl,?_⟩;rw[Qy]
theorem lE(s:ByteArray)(w:World):Pure Tryz.prog 159 #[.string s] w fun v w'=>v= .bool (decide (1<=s.size/\s.size<=64)):=by
 refine F.lE.vc ⟨fun h=> ?_,fun h=> ?_⟩
 ·refine ca Value.bool ?_;rw[kh];omega
 ·refine ca Value.bool ?_;exact(ep om).symm
theorem gJ(n m:Int)(w:World):Pure Tryz.prog 157 #[.int .i64 n,.int .i64 m] w fun v _=>v= .bool (decide (1<=n/\n<=m)):=by
 refine F.gJ.vc ⟨fun h=> ?_,fun h=> ?_⟩
 ·refine ca Value.bool ?_;rw[kh];omega
 ·refine ca Value.bool ?_;exact(ep om).symm

abbrev gi(s:ByteArray):List Value:=[.string s]
theorem BY{w0:World}{A:Option Addr}{n c:Nat}{l:List ByteArray}(hl:bR w0 A 1 (l.map gi))(hlen:l.length=n)(hn:n<2147483648){f:Nat}{a k:Array Value}(cB:az Tryz.prog f=true){p:ByteArray->Bool}
  (hf:∀w,Below w0.heap.size w0 w->∀x∈l,Pure Tryz.prog f (a.toList++([.string x]:List Value)++k.toList).toArray w fun v _=>v= .bool (p x)) {R:Value->World->Prop} {r:Int} (g:∀w,R (.int .i64 r) w):
  ∀(d i:Nat)(w:World),n - i=d->i<=n->Below w0.heap.size w0 w->r=fD p i (l.drop i)->F.aR.L2 A n c f a k n i w0.heap.size w R:=by
 intro d;induction d with
 |zero=>
  intro i w o hi hw b;rw[de om]at b;subst b;exact F.aR.L2.step ⟨fun h=>by omega,fun _=>g w⟩
 |succ d ih=>
  intro i w o hi hw b;have j:i<l.length:=om;rw[dp j,fD]at b;obtain⟨hb,q,y,e,_⟩:=(hl.av hw lf).at_ (fun _=>rfl) hlen j;refine F.aR.L2.step ⟨fun _=> ?_,fun h=>by omega⟩;refine⟨hb,q,y,_,e,cB,pm (hf w hw l[i] (bA _)) ?_⟩;rintro v m z rfl;refine⟨_,rfl,fun h=> ?_,fun h=>⟨ir,?_⟩⟩
  ·rw[bm h]at b;subst b;exact g m
  ·rw[aq (by simp[h])]at b;have B:=sc i;rw[B];exact ih (i+1) m om om (kP hw z) b
theorem sE{α:Type}(p:α->Bool)(l:List α):decide (fD p 0 l≥0)=l.any p:=by
 have:=Qx p l 0;by_cases h:l.any p=true
 ·rw[h];exact fi (this.2 h)
 ·rw[Pg _|>.mp h];exact ep fun k=>h (this.1 k)
theorem lD{w:World}(hg:bk w){A:Option Addr}{n c:Nat}{l:List ByteArray}(hl:bR w A 1 (l.map gi))(hlen:l.length=n)(hn:n<2147483648)(hs:∀s∈l,mc s):
  Pure Tryz.prog 156 #[.slice A n c] w fun v _=>v= .bool (l.all vR):=by
 refine F.lD.vc (pm (F.cZ.vc (R:=fun v _=>v= .bool (l.any fun s=> !vR s)) (pm (F.aR.vc (BY (p:=fun s=> !vR s) hl hlen hn kF (fun w' hb x hx=> ?_) (R:=fun v _=>v= .int .i64 (fD (fun s=> !vR s) 0 l)) (fun _=>rfl) n 0 w rfl om (Below.refl _ _) rfl)) ?_)) ?_)
 ·refine F.pz.vc (pm (dU (hg.next hb) x (by have:=hs x hx;unfold mc at this;omega)) ?_);rintro v a _ rfl;refine⟨_,rfl,ca Value.bool ?_⟩;unfold vR;cases lX (cM x)<;>rfl
 ·rintro v a _ rfl;exact⟨_,rfl,by dsimp only;rw[sE]⟩
 ·rintro v a _ rfl;refine⟨_,rfl,ca Value.bool ?_⟩;rw[uk];simp

theorem mI{α:Type}(p:α->Bool):∀(l:List α)(k:Nat),fD p k l=match l.findIdx? p with|some i=>((k+i:Nat):Int)|none=> -1:=by
 intro l;induction l with
 |nil=>intro k;rfl
 |cons c r ih=>
  intro k;rw[fD,List.findIdx?_cons];by_cases h:p c=true
  ·rw[bm h,bm h];rfl
  ·rw[aq h,aq h,ih];cases r.findIdx? p with
   |none=>rfl
   |some i=>simp only[Um];congr 1;omega
def u6:Option Nat->Int
 |some i=>(i:Int)
 |none=> -1

theorem QB{w0:World}{A:Option Addr}{n c:Nat}{l:List Pa}(hl:bR w0 A 7 (l.map Pa.row))(hlen:l.length=n)(hn:n<2147483648){f:Nat}{a k:Array Value}(cB:az Tryz.prog f=true){p:Pa->Bool}
  (hf:∀w,Below w0.heap.size w0 w->∀x∈l,Pure Tryz.prog f (a.toList++([x.val]:List Value)++k.toList).toArray w fun v _=>v= .bool (p x)) {R:Value->World->Prop} {r:Int} (g:∀w,Below w0.heap.size w0 w->R (.int .i64 r) w):
  ∀(d i:Nat)(w:World),n - i=d->i<=n->Below w0.heap.size w0 w->r=fD p i (l.drop i)->F.aJ.L2 A n c f a k n i w0.heap.size w R:=by
 intro d;induction d with
 |zero=>
  intro i w q hi hw b;rw[de om]at b;subst b;exact F.aJ.L2.step ⟨fun h=>by omega,fun _=>g w hw⟩
 |succ d ih=>
  intro i w q hi hw b;have j:i<l.length:=om;rw[dp j,fD]at b;obtain⟨hb,y,z,e,_⟩:=(hl.av hw lf).at_ (fun _=>rfl) hlen j;refine F.aJ.L2.step ⟨fun _=> ?_,fun h=>by omega⟩;refine⟨hb,y,z,_,_,_,_,_,_,_,e,cB,pm (hf w hw l[i] (bA _)) ?_⟩;rintro v m o rfl;refine⟨_,rfl,fun h=> ?_,fun h=>⟨ir,?_⟩⟩
  ·rw[bm h]at b;subst b;exact g m (kP hw o)
  ·rw[aq (by simp[h])]at b;have B:=sc i;rw[B];exact ih (i+1) m om om (kP hw o) b
theorem xM{w:World}{A:Option Addr}{n c:Nat}{l:List Pa}(hl:bR w A 7 (l.map Pa.row))(hlen:l.length=n)(hn:n<2147483648){f:Nat}{a k:Array Value}(cB:az Tryz.prog f=true){p:Pa->Bool}
  (hf:∀w',Below w.heap.size w w'->∀x∈l,Pure Tryz.prog f (a.toList++([x.val]:List Value)++k.toList).toArray w' fun v _=>v= .bool (p x)):
  Pure Tryz.prog 148 #[.slice A n c,.func (.func f) a k] w fun v _=>v= .int .i64 (u6 (l.findIdx? p)):=
 F.aJ.vc (QB hl hlen hn cB hf (fun _ _=>rfl) n 0 w rfl om (Below.refl _ _) (by
  have:=mI p l 0;rw[Lb,this];cases l.findIdx? p with
  |none=>rfl
  |some i=>simp only[u6,jx]))
theorem gI{w:World}{A0 A1:Option Addr}{n0 c0 n1 c1:Nat}{ps:List Pa}{hs:List Ho}(a:gq w A0 n0 A1 n1 ps hs)(id:Int):
  Pure Tryz.prog 42 #[.agg #[.slice A0 n0 c0,.slice A1 n1 c1],.int .i64 id] w fun v _=>v= .int .i64 (u6 (qX ps id)):=by
 refine F.gI.vc fun w1 d=> ?_
 have a:=a.av (k0 d);have e:=a.np;have g:=a.nh;refine pm (F.jj.vc (R:=fun v _=>v= .int .i64 (u6 (qX ps id))) fun h i p2 l g2 p3 j g3=> ?_) ?_
 ·refine pm (xM (p:=fun p=>decide (p.id=id)) (a.p.av (k0 i) lf) a.lp om kF fun k b x hx=> ?_) ?_
  ·refine F.gR.vc fun m c=>⟨_,_,_,bS (ext_nil c (ag g3 b)) rfl,_,bS (ext_nil c (ag g2 b)) rfl,kF,fun n o=> ?_⟩
   exact F.oA.vc fun q r=>⟨_,rfl,rfl⟩
  ·rintro v k _ rfl;exact⟨_,rfl,rfl⟩
 ·rintro v h _ rfl;exact⟨_,rfl,rfl⟩

theorem QC{w0:World}{A:Option Addr}{n c:Nat}{l:List Ho}(hl:bR w0 A 7 (l.map Ho.row))(hlen:l.length=n)(hn:n<2147483648){f:Nat}{a k:Array Value}(cB:az Tryz.prog f=true){p:Ho->Bool}
  (hf:∀w,Below w0.heap.size w0 w->∀x∈l,Pure Tryz.prog f (a.toList++([x.val]:List Value)++k.toList).toArray w fun v _=>v= .bool (p x)) {R:Value->World->Prop} {r:Int} (g:∀w,Below w0.heap.size w0 w->R (.int .i64 r) w):
  ∀(d i:Nat)(w:World),n - i=d->i<=n->Below w0.heap.size w0 w->r=fD p i (l.drop i)->F.aT.L2 A n c f a k n i w0.heap.size w R:=by
 intro d;induction d with
 |zero=>
  intro i w q hi hw b;rw[de om]at b;subst b;exact F.aT.L2.step ⟨fun h=>by omega,fun _=>g w hw⟩
 |succ d ih=>
  intro i w q hi hw b;have j:i<l.length:=om;rw[dp j,fD]at b;obtain⟨hb,y,z,e,_⟩:=(hl.av hw lf).at_ (fun _=>rfl) hlen j;refine F.aT.L2.step ⟨fun _=> ?_,fun h=>by omega⟩;refine⟨hb,y,z,_,_,_,_,_,_,_,e,cB,pm (hf w hw l[i] (bA _)) ?_⟩;rintro v m o rfl;refine⟨_,rfl,fun h=> ?_,fun h=>⟨ir,?_⟩⟩
  ·rw[bm h]at b;subst b;exact g m (kP hw o)
  ·rw[aq (by simp[h])]at b;have B:=sc i;rw[B];exact ih (i+1) m om om (kP hw o) b
theorem AB{w:World}{A:Option Addr}{n c:Nat}{l:List Ho}(hl:bR w A 7 (l.map Ho.row))(hlen:l.length=n)(hn:n<2147483648){f:Nat}{a k:Array Value}(cB:az Tryz.prog f=true){p:Ho->Bool}
  (hf:∀w',Below w.heap.size w w'->∀x∈l,Pure Tryz.prog f (a.toList++([x.val]:List Value)++k.toList).toArray w' fun v _=>v= .bool (p x)):
  Pure Tryz.prog 92 #[.slice A n c,.func (.func f) a k] w fun v _=>v= .int .i64 (u6 (l.findIdx? p)):=
 F.aT.vc (QC hl hlen hn cB hf (fun _ _=>rfl) n 0 w rfl om (Below.refl _ _) (by
  have:=mI p l 0;rw[Lb,this];cases l.findIdx? p with
  |none=>rfl
  |some i=>simp only[u6,jx]))
theorem iK{w:World}{A0 A1:Option Addr}{n0 c0 n1 c1:Nat}{ps:List Pa}{hs:List Ho}(a:gq w A0 n0 A1 n1 ps hs)(id:Int):
  Pure Tryz.prog 43 #[.agg #[.slice A0 n0 c0,.slice A1 n1 c1],.int .i64 id] w fun v _=>v= .int .i64 (u6 (vX hs id)):=by
 refine F.iK.vc fun w1 d=> ?_
 have a:=a.av (k0 d);have e:=a.np;have g:=a.nh;refine pm (F.kg.vc (R:=fun v _=>v= .int .i64 (u6 (vX hs id))) fun i j p2 m g2 p3 k g3=> ?_) ?_
 ·refine pm (AB (p:=fun p=>decide (p.id=id)) (a.h.av (k0 j) lf) a.lh om kF fun l b x hx=> ?_) ?_
  ·refine F.iM.vc fun n c=>⟨_,_,_,bS (ext_nil c (ag g3 b)) rfl,_,bS (ext_nil c (ag g2 b)) rfl,kF,fun o q=> ?_⟩
   exact F.qn.vc fun r y=>⟨_,rfl,rfl⟩
  ·rintro v l _ rfl;exact⟨_,rfl,rfl⟩
 ·rintro v i _ rfl;exact⟨_,rfl,rfl⟩

def fm{α:Type}(l:List α)(i:Nat):Option α:=if i=0 then none else l[i - 1]?
theorem sF{α:Type}{l:List α}{i:Nat}(h:i<l.length):fm l (i+1)=some l[i]:=by
 unfold fm;rw[aq om,Nat.add_sub_cancel,af h]
theorem DR{α:Type}{l:List α}{i:Nat}(h:i<l.length)(a:0<i):fm l i=some l[i - 1]:=by
 unfold fm;rw[aq om,af om]
theorem No{p:Prop}[Decidable p](h:decide p=false):¬p:=hP h
theorem Np{p:Prop}[Decidable p](h:¬decide p=false):p:=by
 apply bx;intro k;exact h (ep k)

theorem Nq{w0:World}(hg:bk w0){A0 A1:Option Addr}{n0 c0 n1 c1:Nat}{ps:List Pa}{hs:List Ho}(a:gq w0 A0 n0 A1 n1 ps hs){R:Value->World->Prop}{r:Int}(z:∀w,Below w0.heap.size w0 w->R (.int .i64 r) w)(D:∀h∈hs,vH h=true):
  ∀(d i:Nat)(w:World),n1 - i=d->i<=n1->Below w0.heap.size w0 w->r=ot pt (fm hs i) (hs.drop i)->F.aM.Bt A1 n1 c1 n1 i A0 n0 c0 A1 n1 c1 w0.heap.size w R:=by
 have V:=a.np;have W:=a.nh;have X:=a.lp;have Y:=a.lh;intro d;induction d with
 |zero=>
  intro i w E hi hw b;have:i=n1:=om;subst this;refine F.aM.Bt.step ⟨fun h=>by omega,fun _=> ?_⟩;rw[de om]at b;subst b;exact z w hw
 |succ d ih=>
  intro i w E hi hw b;have g:i<hs.length:=om;obtain⟨hb,G,H,c,_⟩:=(a.h.av hw lf).at_ (fun _=>rfl) a.lh g;have I:=sc i;refine F.aM.Bt.step ⟨fun _=>⟨hb,G,H,_,_,_,_,_,_,_,c,fun w1 J=> ?_⟩,fun h=>by omega⟩;have K:=kE hw J;have A:=a.sh _ (bA g);have vh:=D _ (bA g);unfold vH at vh;simp only[cz]at vh;obtain⟨⟨⟨⟨v1,v2⟩,_⟩,_⟩,_⟩:=vh;rw[dp g,ot]at b;have bad:∀(e:Int)(w:World),Below w0.heap.size w0 w->e≠0->pt (fm hs i) hs[i]=e->R (.int .i64 e) w:=fun e w hw L he=>by
   rw[he,bm L]at b;have:=z w hw;rwa [b]at this
  have f2:¬((1<=hs[i].id/\hs[i].id<=1073741824)/\¬qR hs[i].room<0/\¬qR hs[i].oh<0)->pt (fm hs i) hs[i]=2:=fun h=>by unfold pt;rw[bm h]
  refine pm (gJ _ _ _) ?_;rintro v Z M rfl;have n:=kP K M;refine⟨_,rfl,fun h=>bad 2 _ n om (f2 fun k=>No h k.1),fun h=> ?_⟩;have q1:=Np h;refine pm (iL (hg.next n) A.room v1) ?_;rintro v w3 N rfl;have o:=kP n N;refine⟨_,rfl,fun h=>bad 2 _ o om (f2 fun k=>k.2.1 (jn.1 h)),fun h=> ?_⟩;have O:¬qR hs[i].room<0:=fun k=>h (jn.2 k)
  refine pm (iL (hg.next o) A.oh v2) ?_;rintro v w4 P rfl;have B:=kP o P;refine⟨_,rfl,fun h=>bad 2 _ B om (f2 fun k=>k.2.2 (jn.1 h)),fun h=> ?_⟩;have Q:¬qR hs[i].oh<0:=fun k=>h (jn.2 k)
  have all:(1<=hs[i].id/\hs[i].id<=1073741824)/\¬qR hs[i].room<0/\¬qR hs[i].oh<0:=⟨q1,O,Q⟩;refine pm (lE _ _) ?_;rintro v w8 b8 rfl;have j:=kP B b8;refine⟨_,rfl,fun h=>bad 4 _ j om (by unfold pt;rw[aq (fun k=>k all),bm (No h)]),fun h=> ?_⟩;have S:=Np h;have rest:pt (fm hs i) hs[i]=if ∃q,fm hs i=some q/\hs[i].id<=q.id then 5 else 0:=by
   unfold pt;rw[aq (fun k=>k all),aq (fun k=>k S)]
  have go:(¬∃q,fm hs i=some q/\hs[i].id<=q.id)->∀w,Below w0.heap.size w0 w->F.aM.Bt A1 n1 c1 n1 ((i:Int)+1) A0 n0 c0 A1 n1 c1 w0.heap.size w R:=fun h w hw=>by
   rw[aq h]at rest;rw[I];refine ih (i+1) w om om hw ?_;simp only[rest,ne_eq,SB,xt]at b;rw[sF g];exact b
  refine⟨fun h=>⟨ir,?_⟩,fun h=>⟨ir,fun C l=>go ?_ _ (kE j l)⟩⟩
  ·obtain⟨x,a2,T,_,y⟩:=(a.h.av j lf).at_ (fun _=>rfl) a.lh (i:=i - 1) om;have U:(i:Int) - 1=((i - 1:Nat):Int):=om;have hp:=DR g om;rw[U];refine⟨x,a2,T,_,y 0 _ rfl,fun h=>fun C l=>bad 5 _ (kE j l) om ?_,fun h=>⟨ir,fun C l=>go ?_ _ (kE j l)⟩⟩
   ·rw[rest,bm ⟨_,hp,h⟩]
   ·rintro⟨q,m,hle⟩;rw[hp]at m;cases m;exact h hle
  ·rintro⟨q,m,_⟩;have:i=0:=om;subst this;cases m

theorem Nr{w0:World}(hg:bk w0){A0 A1:Option Addr}{n0 c0 n1 c1:Nat}{ps:List Pa}{hs:List Ho}(a:gq w0 A0 n0 A1 n1 ps hs){R:Value->World->Prop}{r:Int}(B:∀w,Below w0.heap.size w0 w->R (.int .i64 r) w)(I:∀p∈ps,vP p=true)(J:∀h∈hs,vH h=true):
  ∀(d i:Nat)(w:World),n0 - i=d->i<=n0->Below w0.heap.size w0 w->r=(if ot ou (fm ps i) (ps.drop i)≠0 then ot ou (fm ps i) (ps.drop i)else ot pt none hs)->F.aM.yu A0 n0 c0 n0 i A0 n0 c0 A1 n1 c1 w0.heap.size w R:=by
 have Ie:=a.np;have zc:=a.nh;have Ku:=a.lp;have vK:=a.lh;intro d;induction d with
 |zero=>
  intro i w K hi hw b;have:i=n0:=om;subst this;refine F.aM.yu.step ⟨fun h=>by omega,fun _=> ?_⟩;rw[de om]at b;refine Nq hg a B J n1 0 w rfl om hw ?_;rw[b];rfl
 |succ d ih=>
  intro i w K hi hw b;have g:i<ps.length:=om;obtain⟨hb,L,M,c,_⟩:=(a.p.av hw lf).at_ (fun _=>rfl) a.lp g;have N:=sc i;refine F.aM.yu.step ⟨fun _=>⟨hb,L,M,_,_,_,_,_,_,_,c,fun w1 O=> ?_⟩,fun h=>by omega⟩;have P:=kE hw O;have n:=a.sp _ (bA g);have vp:=I _ (bA g);unfold vP at vp;simp only[cz]at vp;obtain⟨⟨v1,v2⟩,v3⟩:=vp;rw[dp g,ot]at b;have bad:∀(e:Int)(w:World),Below w0.heap.size w0 w->e≠0->ou (fm ps i) ps[i]=e->R (.int .i64 e) w:=fun e w hw C he=>by
   rw[he,bm C,bm C]at b;have:=B w hw;rwa [b]at this
  have f2:¬((1<=ps[i].id/\ps[i].id<=1073741824)/\(1<=ps[i].aV/\ps[i].aV<=9)/\(1<=ps[i].cls/\ps[i].cls<=9)/\0<qR ps[i].iz/\0<qR ps[i].uX/\¬qR ps[i].fT<0)->ou (fm ps i) ps[i]=2:=fun h=>by unfold ou;rw[bm h]
  refine pm (gJ _ _ _) ?_;rintro v w2 Q rfl;have D:=kP P Q;refine⟨_,rfl,fun h=>bad 2 _ D om (f2 fun k=>No h k.1),fun h=> ?_⟩;have q1:=Np h;refine pm (gJ _ _ _) ?_;rintro v w3 S rfl;have E:=kP D S;refine⟨_,rfl,fun h=>bad 2 _ E om (f2 fun k=>No h k.2.1),fun h=> ?_⟩;have T:=Np h;refine pm (gJ _ _ _) ?_;rintro v w4 U rfl;have o:=kP E U;refine⟨_,rfl,fun h=>bad 2 _ o om (f2 fun k=>No h k.2.2.1),fun h=> ?_⟩;have V:=Np h;refine pm (iL (hg.next o) n.iz v1) ?_;rintro v w5 W rfl;have x:=kP o W;refine⟨_,rfl,fun h=>bad 2 _ x om (f2 fun k=>by have:=gk.2 k.2.2.2.1;omega),fun h=> ?_⟩;have X:0<qR ps[i].iz:=gk.1 om;refine pm (iL (hg.next x) n.uX v2) ?_;rintro v w6 Y rfl;have y:=kP x Y;refine⟨_,rfl,fun h=>bad 2 _ y om (f2 fun k=>by have:=gk.2 k.2.2.2.2.1;omega),fun h=> ?_⟩;have Z:0<qR ps[i].uX:=gk.1 om;refine pm (iL (hg.next y) n.fT v3) ?_;rintro v w7 b7 rfl;have G:=kP y b7;refine⟨_,rfl,fun h=>bad 2 _ G om (f2 fun k=>k.2.2.2.2.2 (jn.1 h)),fun h=> ?_⟩;have q6:¬qR ps[i].fT<0:=fun k=>h (jn.2 k)
  have all:(1<=ps[i].id/\ps[i].id<=1073741824)/\(1<=ps[i].aV/\ps[i].aV<=9)/\(1<=ps[i].cls/\ps[i].cls<=9)/\0<qR ps[i].iz/\0<qR ps[i].uX/\¬qR ps[i].fT<0:=⟨q1,T,V,X,Z,q6⟩;refine pm (lE _ _) ?_;rintro v w8 b8 rfl;have j:=kP G b8;refine⟨_,rfl,fun h=>bad 4 _ j om (by unfold ou;rw[aq (fun k=>k all),bm (No h)]),fun h=> ?_⟩;have q7:=Np h;have rest:ou (fm ps i) ps[i]=if ∃q,fm ps i=some q/\ps[i].id<=q.id then 5 else 0:=by
   unfold ou;rw[aq (fun k=>k all),aq (fun k=>k q7)]
  have go:(¬∃q,fm ps i=some q/\ps[i].id<=q.id)->∀w,Below w0.heap.size w0 w->F.aM.yu A0 n0 c0 n0 ((i:Int)+1) A0 n0 c0 A1 n1 c1 w0.heap.size w R:=fun h w hw=>by
   rw[aq h]at rest;rw[N];refine ih (i+1) w om om hw ?_;simp only[rest,ne_eq,SB,xt]at b;rw[sF g];exact b
  refine⟨fun h=>⟨ir,?_⟩,fun h=>⟨ir,fun H l=>go ?_ _ (kE j l)⟩⟩
  ·obtain⟨z,a2,pR,_,A⟩:=(a.p.av j lf).at_ (fun _=>rfl) a.lp (i:=i - 1) om;have e1:(i:Int) - 1=((i - 1:Nat):Int):=om;have hp:=DR g om;rw[e1];refine⟨z,a2,pR,_,A 0 _ rfl,fun h=>fun H l=>bad 5 _ (kE j l) om ?_,fun h=>⟨ir,fun H l=>go ?_ _ (kE j l)⟩⟩
   ·rw[rest,bm ⟨_,hp,h⟩]
   ·rintro⟨q,m,hle⟩;rw[hp]at m;cases m;exact h hle
  ·rintro⟨q,m,_⟩;have:i=0:=om;subst this;cases m

theorem QD{w0:World}(hg:bk w0){A0 A1:Option Addr}{n0 c0 n1 c1:Nat}{ps:List Pa}{hs:List Ho}(a:gq w0 A0 n0 A1 n1 ps hs){R:Value->World->Prop}{r:Int}(g:∀w,Below w0.heap.size w0 w->R (.int .i64 r) w)(o:∀p∈ps,vP p=true)(he:r=eZ ps hs):
  ∀(d i:Nat)(w:World),n1 - i=d->i<=n1->Below w0.heap.size w0 w->(∀h∈hs.take i,vH h=true)->F.aM.L8 A1 n1 c1 n1 i A0 n0 c0 A1 n1 c1 w0.heap.size w R:=by
 have L:=a.np;have M:=a.nh;have N:=a.lp;have O:=a.lh;intro d;induction d with
 |zero=>
  intro i w C hi hw c;have:i=n1:=om;subst this;refine F.aM.L8.step ⟨fun h=>by omega,fun _=> ?_⟩;rw[cd om]at c;have m:ps.all vP=true/\hs.all vH=true:=⟨gu.2 o,gu.2 c⟩;refine⟨fun h=> ?_,fun h=>⟨fun D=> ?_,fun D=> ?_⟩⟩
  ·have:=g w hw;rwa [he,eZ,aq (fun k=>k m),bm (.inl om)]at this
  ·have:=g w hw;rwa [he,eZ,aq (fun k=>k m),bm (.inr om)]at this
  ·refine Nr hg a g o c n0 0 w rfl om hw ?_;rw[he,eZ,aq (fun k=>k m),aq om];rfl
 |succ d ih=>
  intro i w C hi hw c;have j:i<hs.length:=om;obtain⟨hb,E,G,b,_⟩:=(a.h.av hw lf).at_ (fun _=>rfl) a.lh j;have H:=sc i;refine F.aM.L8.step ⟨fun _=>⟨hb,E,G,_,_,_,_,_,_,_,b,fun w1 I=> ?_⟩,fun h=>by omega⟩;have q:=kE hw I;have e:=a.sh _ (bA j);refine bc ny [.string hs[i].room,.string hs[i].oh,.string hs[i].x,.string hs[i].y,.string hs[i].z] (by simp[Value.cells]) sm q.size fun A2 c2 P ho J=> ?_
  have n:=kP q J;refine pm (lD (hg.next n) (l:=[hs[i].room,hs[i].oh,hs[i].x,hs[i].y,hs[i].z]) ho.sl rfl sm (fun s hs=> ?_)) ?_
  ·simp only[cy,fX,tu]at hs;rcases hs with rfl|rfl|rfl|rfl|rfl
   ·exact e.room
   ·exact e.oh
   ·exact e.x
   ·exact e.y
   ·exact e.z
  rintro v A B rfl;refine⟨_,rfl,fun h=> ?_,fun h=>⟨ir,?_⟩⟩
  ·have K:eZ ps hs=1:=by
    unfold eZ;rw[bm];intro k;have:=gu.1 k.2 _ (bA j);unfold vH at this;simp only[yc,Rw,SS]at h;simp only[Sx]at this h;rw[this]at h;cases h
   have:=g A (kP n B);rwa [he,K]at this
  ·rw[H];refine ih (i+1) A om om (kP n B) fun x hx=> ?_
   rw[eU,af j]at hx;rcases ga.1 hx with hx|hx
   ·exact c x hx
   ·simp only[FL,ec]at hx;subst hx;unfold vH;simp only[yc,Rw,SS]at h;simp only[Sx]at h⊢;simpa using h

theorem QE{w0:World}(hg:bk w0){A0 A1:Option Addr}{n0 c0 n1 c1:Nat}{ps:List Pa}{hs:List Ho}(a:gq w0 A0 n0 A1 n1 ps hs){R:Value->World->Prop}{r:Int}(m:∀w,Below w0.heap.size w0 w->R (.int .i64 r) w)(he:r=eZ ps hs):
  ∀(d i:Nat)(w:World),n0 - i=d->i<=n0->Below w0.heap.size w0 w->(∀p∈ps.take i,vP p=true)->F.aM.L2 A0 n0 c0 n0 i A0 n0 c0 A1 n1 c1 w0.heap.size w R:=by
 have G:=a.np;have H:=a.nh;have I:=a.lp;have J:=a.lh;intro d;induction d with
 |zero=>
  intro i w y hi hw c;have:i=n0:=om;subst this;refine F.aM.L2.step ⟨fun h=>by omega,fun _=> ?_⟩;rw[cd om]at c;exact QD hg a m c he n1 0 w rfl om hw sm
 |succ d ih=>
  intro i w y hi hw c;have e:i<ps.length:=om;obtain⟨hb,z,A,b,_⟩:=(a.p.av hw lf).at_ (fun _=>rfl) a.lp e;have B:=sc i;refine F.aM.L2.step ⟨fun _=>⟨hb,z,A,_,_,_,_,_,_,_,b,fun w1 C=> ?_⟩,fun h=>by omega⟩;have n:=kE hw C;have g:=a.sp _ (bA e);refine bc ny [.string ps[i].iz,.string ps[i].uX,.string ps[i].fT] (by simp[Value.cells]) sm n.size fun A2 c2 K ho D=> ?_
  have j:=kP n D;refine pm (lD (hg.next j) (l:=[ps[i].iz,ps[i].uX,ps[i].fT]) ho.sl rfl sm (fun s hs=> ?_)) ?_
  ·simp only[cy,fX,tu]at hs;rcases hs with rfl|rfl|rfl
   ·exact g.iz
   ·exact g.uX
   ·exact g.fT
  rintro v o q rfl;refine⟨_,rfl,fun h=> ?_,fun h=>⟨ir,?_⟩⟩
  ·have E:eZ ps hs=1:=by
    unfold eZ;rw[bm];intro k;have:=gu.1 k.1 _ (bA e);unfold vP at this;simp only[yc,Rw,SS]at h;simp only[Sx]at this h;rw[this]at h;cases h
   have:=m o (kP j q);rwa [he,E]at this
  ·rw[B];refine ih (i+1) o om om (kP j q) fun x hx=> ?_
   rw[eU,af e]at hx;rcases ga.1 hx with hx|hx
   ·exact c x hx
   ·simp only[FL,ec]at hx;subst hx;unfold vP;simp only[yc,Rw,SS]at h;simp only[Sx]at h⊢;simpa using h

theorem aM{w:World}(hg:bk w){A0 A1:Option Addr}{n0 c0 n1 c1:Nat}{ps:List Pa}{hs:List Ho}(a:gq w A0 n0 A1 n1 ps hs):
  Pure Tryz.prog 97 #[.agg #[.slice A0 n0 c0,.slice A1 n1 c1]] w fun v _=>v= .int .i64 (eZ ps hs):=
 F.aM.vc fun w1 b=>QE hg a (fun _ _=>rfl) rfl n0 0 w1 rfl om (k0 b) sm

theorem gK:El Tryz.prog 28 3 1 8:=El.of kF
theorem gS:El Tryz.prog 40 54 3 24:=El.of kF

theorem Mm{x y:Int}:js x y<0↔x<y:=by unfold js;split<;>(try split)<;>omega
theorem FT{x y:Int}:js x y=0↔x=y:=by unfold js;split<;>(try split)<;>omega
theorem YV{w0:World}{A:Option Addr}{n c:Nat}{l:List Int}(h:bR w0 A 1 (l.map fun x=>[.int .i64 x]))(hl:l.length=n)(hn:n<2147483648):
  Pure Tryz.prog 102 #[.slice A n c] w0 fun v _=>v= .int .i64 ((l.find? fun x=>decide (x≠0)).getD 0):=by
 have key:∀(d i:Nat)(w:World),n - i=d->i<=n->Below w0.heap.size w0 w->(l.find? fun x=>decide (x≠0))=((l.drop i).find? fun x=>decide (x≠0))->F.fI.L3 0 A n c n i w0.heap.size w fun v _=>v= .int .i64 ((l.find? fun x=>decide (x≠0)).getD 0):=by
  intro d;induction d with
  |zero=>
   intro i w g hi hw b;rw[de om]at b;exact F.fI.L3.step ⟨fun h=>by omega,fun _=>by rw[b];rfl⟩
  |succ d ih=>
   intro i w g hi hw b;have e:i<l.length:=om;rw[dp e,List.find?_cons]at b;obtain⟨hb,a,j,k,_⟩:=(h.av hw lf).at_ (fun _=>rfl) hl e;refine F.fI.L3.step ⟨fun _=>⟨hb,a,j,_,k,fun h=> ?_,fun h=>⟨ir,?_⟩⟩,fun h=>by omega⟩
   ·rw[fi h]at b;rw[b];rfl
   ·rw[ep h]at b;have m:=sc i;rw[m];exact ih (i+1) w om om hw b
 exact F.fI.vc (key n 0 w0 rfl om (Below.refl _ _) sm)
def KA(a b:Sw):Int:=if js a.hold b.hold≠0 then js a.hold b.hold else js a.aw b.aw
theorem FU{a b:Sw}:KA a b<0↔fC a b:=by
 unfold KA fC;have h1:=Mm (x:=a.hold) (y:=b.hold);have c:=FT (x:=a.hold) (y:=b.hold);have d:=Mm (x:=a.aw) (y:=b.aw);split<;>omega
theorem Uo{a b:Sw}:KA a b=0↔a.hold=b.hold/\a.aw=b.aw:=by
 unfold KA;have c:=FT (x:=a.hold) (y:=b.hold);have d:=FT (x:=a.aw) (y:=b.aw);split<;>omega
theorem jI(a b:Sw)(w:World):Pure Tryz.prog 45 #[a.val,b.val] w fun v _=>v= .int .i64 (KA a b):=by
 refine F.jI.vc fun w1 d=>pm (Fx _ _ _) ?_
 have h1:=k0 d;rintro v j e rfl;have c:=kP h1 e;refine⟨_,rfl,pm (Fx _ _ _) ?_⟩;rintro v m g rfl;have i:=kP c g;refine⟨_,rfl,bc gK [.int .i64 (js a.hold b.hold),.int .i64 (js a.aw b.aw)] (by simp[Value.cells]) sm i.size fun A2 c2 n ho o=> ?_⟩;refine pm (YV (l:=[js a.hold b.hold,js a.aw b.aw]) ho.sl rfl sm) ?_;rintro v q _ rfl;refine⟨_,rfl,?_⟩;refine ca _ ?_;unfold KA;by_cases h:js a.hold b.hold=0
 ·rw[aq (fun k=>k h)];by_cases c:js a.aw b.aw=0
  ·simp[h,c]
  ·simp[h,c]
 ·rw[bm h];simp[h]

theorem ug(l:List Sw)(s:Sw)(p:Int):cS (l++[s]) p=cS l p+(if s.aw=p then s.aV else 0):=by rw[fU,mH]
def SmU(l:List Sw)(p:Int):Prop:=∀k, -1000000<=cS (l.take k) p/\cS (l.take k) p<=1000000
theorem dt{w0:World}{A:Option Addr}{n c:Nat}{l:List Sw}(h:bR w0 A 3 (l.map Sw.row))(hl:l.length=n)(hn:n<2147483648){p:Int}(hs:SmU l p):
  Pure Tryz.prog 46 #[.slice A n c,.int .i64 p] w0 fun v _=>v= .int .i64 (cS l p):=by
 have key:∀(d i:Nat)(w:World),n - i=d->i<=n->Below w0.heap.size w0 w->F.dt.L3 p (cS (l.take i) p) A n c n i w0.heap.size w fun v _=>v= .int .i64 (cS l p):=by
  intro d;induction d with
  |zero=>
   intro i w m hi hw;exact F.dt.L3.step ⟨fun h=>by omega,fun _=>by rw[cd om]⟩
  |succ d ih=>
   intro i w m hi hw;have j:i<l.length:=om;have k:=sc i;have b:l.take (i+1)=l.take i++[l[i]]:=by rw[eU,af j];rfl
   have hu:=ug (l.take i) l[i] p;have o:=hs (i+1);rw[b]at o;obtain⟨hb,a,q,r,_⟩:=(h.av hw lf).at_ (fun _=>rfl) hl j;refine F.dt.L3.step ⟨fun _=>⟨hb,a,q,_,_,_,r,fun h=> ?_,fun h=> ?_⟩,fun h=>by omega⟩
   ·rw[bm h]at hu;refine⟨ir,ir,fun e g=> ?_⟩;rw[<-hu,<-b,k];exact ih (i+1) e om om (kE hw g)
   ·rw[aq h,Int.add_zero]at hu;refine⟨ir,fun e g=> ?_⟩;rw[<-hu,<-b,k];exact ih (i+1) e om om (kE hw g)
 exact F.dt.vc (key n 0 w0 rfl om (Below.refl _ _))

theorem yE{l:List Sw}(h:∀s∈l,1<=s.aV)(p:Int)(k:Nat):0<=cS (l.take k) p/\cS (l.take k) p<=cS l p:=by
 refine⟨jd (fun s hs=>h s (k7 hs)) p,?_⟩;exact HY h (kl k l).symm p
theorem eJ.smu{ps:List Pa}{hs:List Ho}{l:List Sw}(h:eJ ps hs l)(p:Int):SmU l p:=by
 intro k;obtain⟨h1,g⟩:=yE h.pos p k;by_cases hp:∃q∈ps,q.id=p
 ·obtain⟨q,a,rfl⟩:=hp;have:=h.full q a;have:=(h.c.p1 q a).2.1.2;omega
 ·have:cS l p=0:=by
   have gen:∀l:List Sw,(∀s∈l,s.aw≠p)->cS l p=0:=by
    intro l;induction l with
    |nil=>intro _;rfl
    |cons s r ih=>
     intro b;rw[show s::r=[s]++r from rfl,fU,mH,aq (b s sm),ih fun x hx=>b x (by simp[hx])];rfl
   refine gen l fun s hs e=>hp ?_
   obtain⟨i,_,hi,_⟩:=h.known s hs;obtain⟨q,a,d⟩:=gG hi;exact⟨q,gb a,d.trans e⟩
  omega
theorem zq{ps:List Pa}{hs:List Ho}:∀{a b pre:List Sw},nL ps hs pre (a++b)=if nL ps hs pre a≠0 then nL ps hs pre a else nL ps hs (pre++a) b:=by
 intro a;induction a with
 |nil=>intro b pre;simp[nL]
 |cons s r ih=>
  intro b pre;rw[wo,nL,nL];by_cases h:ru ps hs pre s≠0
  ·rw[bm h,bm h,bm h]
  ·rw[aq h,aq h,ih,ky];rfl
theorem Ig{w0:World}(hg:bk w0){A0 A1 A:Option Addr}{n0 c0 n1 c1 n c:Nat}{ps:List Pa}{hs:List Ho}{l:List Sw}(I:gq w0 A0 n0 A1 n1 ps hs)(h:bR w0 A 3 (l.map Sw.row))(hl:l.length=n)(oB:n<=c)(hn:n<2147483648)(YW:eZ ps hs=0){R:Value->World->Prop}(Z:∀w,R (.int .i64 (nL ps hs [] l)) w):
  ∀(d i:Nat)(w:World),n - i=d->i<=n->Below w0.heap.size w0 w->nL ps hs [] (l.take i)=0->F.bT.L4 A n c A n c n i A0 n0 c0 A1 n1 c1 w0.heap.size w R:=by
 have g:=me YW;intro d;induction d with
 |zero=>
  intro i w hd hi hw y;have:i=n:=om;subst this;rw[cd om]at y;refine F.bT.L4.step ⟨fun h=>by omega,fun _=> ?_⟩;have:=Z w;rwa [y]at this
 |succ d ih=>
  intro i w hd hi hw y;have M:i<l.length:=om;have e3:=sc i;have z:l.take (i+1)=l.take i++[l[i]]:=by rw[eU,af M];rfl
  have xu:nL ps hs [] l=if ru ps hs (l.take i) l[i]≠0 then ru ps hs (l.take i) l[i]else nL ps hs (l.take (i+1)) (l.drop (i+1)):=by
   conv=>lhs;rw[<-kl i l,zq,aq (fun k=>k y),rT,dp M,nL,<-z]
  have N:eJ ps hs (l.take i):=by
   have B:eJ ps hs []:=⟨g,sm,sm,List.Pairwise.nil,fun p hp=>by have:=(g.p1 p hp).2.1.1;simp[cS];omega⟩;simpa using zm g (l.take i) [] B y
  have bad:∀(e:Int)(w:World),e≠0->ru ps hs (l.take i) l[i]=e->R (.int .i64 e) w:=fun e w B he=>by
   rw[he,bm B]at xu;have:=Z w;rwa [xu]at this
  obtain⟨hb,a,hA,r,_⟩:=(h.av hw lf).at_ (fun _=>rfl) hl M;refine F.bT.L4.step ⟨fun _=>⟨hb,a,hA,_,_,_,r,fun w1 x1=> ?_⟩,fun h=>by omega⟩;have dM:=kE hw x1;refine pm (gI (I.av dM) l[i].aw) ?_;rintro v w2 b2 rfl;have jX:=kP dM b2;cases hp:qX ps l[i].aw with
  |none=>
   refine⟨_,rfl,fun _=>bad 7 _ om (by unfold ru;rw[hp]),fun h=>absurd (by simp[u6]) h⟩
  |some k=>
  refine⟨_,rfl,fun h=>by simp[u6]at h;omega,fun _=>pm (iK (I.av jX) l[i].hold) ?_⟩;rintro v w3 b3 rfl;have O:=kP jX b3;cases hh:vX hs l[i].hold with
  |none=>
   refine⟨_,rfl,fun _=>bad 7 _ om (by unfold ru;rw[hp,hh]),fun h=>absurd (by simp[u6]) h⟩
  |some j=>
  obtain⟨p,C,hid⟩:=gG hp;have JM:k<ps.length:=(eh.1 C).1;have P:ps[k]=p:=(eh.1 C).2;have s1:ru ps hs (l.take i) l[i]=if l[i].aV<1 then 2 else if ∃q,(l.take i).getLast? =some q/\¬fC q l[i]then 5 else if p.aV<l[i].aV∨p.aV<cS (l.take i++[l[i]]) l[i].aw then 12 else 0:=by
   unfold ru;rw[hp,hh];simp only[C]
  refine⟨_,rfl,fun h=>by simp[u6]at h;omega,fun _=>⟨fun h=>bad 2 _ om (by rw[s1,bm h]),fun hu=> ?_⟩⟩;rw[aq hu]at s1;have hpu:=(g.p1 p (gb C)).2.1.2
  -- behind YB order
  have rest:(¬∃q,(l.take i).getLast? =some q/\¬fC q l[i])->∀w,Below w0.heap.size w0 w->∀(i10:Int),i10=u6 (some k)->((0<=i10/\i10<n0)/\∃a24,A0=some a24/\(∃(i25:Int),aa w ((a24.add ((i10).toNat*7)).add 1) [(.int .i64 i25)]/\(((l[i].aV>i25)->(∀Ih,Ext w0.heap.size [] w Ih->(R (.int .i64 (12:Int)) Ih)))/\(¬(l[i].aV>i25)->(aS .i64 ((i:Int)+(1:Int))/\((0<=((i:Int)+(1:Int))/\((i:Int)+(1:Int))<=(c:Int))/\((0<=i10/\i10<n0)/\∃D,A0=some D/\(∃(i28:Int),aa w ((D.add ((i10).toNat*7)).add 1) [(.int .i64 i28)]/\(∀FC,Ext w0.heap.size [] w FC->(Pure Tryz.prog 46 #[(.slice A (((i:Int)+(1:Int)).toNat) c),(.int .i64 l[i].aw)] FC fun Q Ua=>∃(i30:Int),Q=(.int .i64 i30)/\(((i30>i28)->(R (.int .i64 (12:Int)) Ua))/\(¬(i30>i28)->(aS .i64 ((i:Int)+(1:Int))/\(F.bT.L4 A n c A n c n ((i:Int)+(1:Int)) A0 n0 c0 A1 n1 c1 w0.heap.size Ua R)))))))))))))):=by
   intro ho w hw i10 S;rw[aq ho]at s1;subst S;obtain⟨o,a2,J,_,T⟩:=(I.p.av hw lf).at_ (fun _=>rfl) I.lp JM;have x:=T 1 _ rfl;rw[P]at x;refine⟨o,a2,J,_,x,fun h=>fun E _=>bad 12 _ om (by rw[s1,bm (.inl h)]),fun h4=>⟨ir,om,o,a2,J,_,x,fun E G=> ?_⟩⟩;have K:=kE hw G;have e4:((i:Int)+1).toNat=i+1:=om;rw[e4];have U:SmU (l.take (i+1)) l[i].aw:=by
    intro m;rw[z];by_cases hm:m<=i
    ·rw[CL (by simp;omega)];exact N.smu l[i].aw m
    ·rw[cd (by simp;omega),ug,bm rfl];have h1:=jd N.pos l[i].aw;have h2:=N.full p (gb C);rw[hid]at h2;omega
   refine pm (dt (l:=l.take (i+1)) (by rw[En];exact(h.av K lf).take _) (by simp;omega) om U) ?_;rintro v V W rfl;have X:=kP K W;refine⟨_,rfl,fun h=>bad 12 _ om (by rw[s1,bm (.inr (by rw[<-z];exact h))]),fun h5=>⟨ir,?_⟩⟩;rw[e3];refine ih (i+1) V om om X ?_;have B:ru ps hs (l.take i) l[i]=0:=by
    rw[s1,aq];rintro(k|k)
    ·exact h4 k
    ·rw[<-z]at k;exact h5 k
   rw[z,zq,aq (fun k=>k y),rT,nL,B];rfl
  refine⟨fun h=>⟨ir,?_⟩,fun h=>fun E G=>rest ?_ E (kE O G) _ rfl⟩
  ·obtain⟨o,a2,J,sG,_⟩:=(‹bR w0 A 3 (l.map Sw.row)›.av O lf).at_ (fun _=>rfl) hl (i:=i - 1) om;have e1:(i:Int) - 1=((i - 1:Nat):Int):=om;have ti:(l.take i).getLast? =some l[i - 1]:=by
    rw[FP,eH,lO om,jv,bm om,af om]
   rw[e1];refine⟨o,a2,J,_,_,_,sG,fun E G=>pm (jI l[i - 1] l[i] E) ?_⟩;have K:=kE O G;rintro v V W rfl;have X:=kP K W;have H:=FU (a:=l[i - 1]) (b:=l[i]);refine⟨_,rfl,fun h=>bad 5 _ om (by rw[s1,bm ⟨_,ti,fun k=>by have:=H.2 k;omega⟩]),fun h=>rest ?_ V X _ rfl⟩;rintro⟨q,L,Y⟩;rw[ti]at L;cases L;exact Y (H.1 om)
  ·rintro⟨q,L,_⟩;have:i=0:=om;subst this;simp at L
theorem bT{w:World}(hg:bk w){A0 A1 A:Option Addr}{n0 c0 n1 c1 n c:Nat}{ps:List Pa}{hs:List Ho}{l:List Sw}(d:gq w A0 n0 A1 n1 ps hs)(h:bR w A 3 (l.map Sw.row))(hl:l.length=n)(g:n<=c)(hn:n<2147483648):
  Pure Tryz.prog 41 #[.agg #[.slice A0 n0 c0,.slice A1 n1 c1],.slice A n c] w fun v _=>v= .int .i64 (gY ps hs l):=by
 refine F.bT.vc fun w1 i=> ?_
 have a:=k0 i;refine pm (aM (hg.next a) (d.av a)) ?_;rintro v j k rfl;have m:=kP a k;refine⟨_,rfl,fun h=> ?_,fun e=> ?_⟩
 ·unfold gY;rw[bm h]
 ·have b:=ek.1 e;exact Ig hg d h hl g hn b (fun _=>by unfold gY;rw[aq e]) n 0 j rfl om m rfl

theorem Ii{P:Program}(w:World)(e sT ty elem:TypeId)(i:TypeInfo)(sz b o d h:Nat)(a:Addr)(c g:Nat)(cs:List Value)
  (hu:P.underlying e=some (.slice elem)) (hi:P.info? elem=some i) (hz:i.size=sz) (hn:cs.length=Nat.min c d*sz)
  (k:∀j v,cs[j]? =some v->w.cell? (a.add j)=some v) (l:∀j,j<cs.length->(w.cell? ⟨b,o+j,none⟩).isSome=true) (hf:∀j,j<cs.length->w.frozen? ⟨b,o+j,none⟩=false) (h1:∀v∈cs,v.oneCell'=true):
  (Builtin.copy_ #[e,sT] ty #[.slice (some ⟨b,o,none⟩) d h,.slice (some a) c g]).run P w= .ok (goInt (Nat.min c d)) (w.setCells b o cs):=by
 have hl:=run_firstCells_some (P:=P) w sz (Nat.min c d) a c g cs hn k;have m:=run_storeCells_cells (P:=P) b o cs 0 w (by simpa using l) (by simpa using hf) h1;simp[Builtin.copy_,run_underlying hu,Builtin.lenOf,sizeOf,typeInfo,hi,hz,hl,m]

theorem nM{t t2 ty e sz bytes:Nat}(el:El Tryz.prog t e sz bytes){B:Nat}{w:World}{tys:List Nat}{b o d l:Nat}{a:Addr}{g m:Nat}{cs cur:List Value}(hn:cs.length=Nat.min g d*sz)
  (x:∀j v,cs[j]? =some v->w.cell? (a.add j)=some v) (hb:w.heap[b]? =some (.cells cur.toArray e (0,0))) (hle:o+cs.length<=cur.length) (h1:∀v∈cs,bo v=true) (hB:B<=b) (y:e∉tys) {K:World->Prop}
  (A:∀w',w'.heap[b]? =some (.cells (setCells cur o cs).toArray e (0,0))->(∀k,k≠b->w'.heap[k]? =w.heap[k]?)->w'.heap.size=w.heap.size->Below B w w'->K w'):
  ae Tryz.prog (Builtin.copy_ #[t,t2] ty #[.slice (some ⟨b,o,none⟩) d l,.slice (some a) g m]) B tys w fun r w1=>∃i:Int,r= .int .i64 i/\K w1:=by
 obtain⟨i,z,C,I,D,J,L⟩:=el.info;have E:=Ii (P:=Tryz.prog) w t t2 ty e i sz b o d l a g m cs el.Ht C D hn x
  (fun j hj=>by
   simp only[World.cell?,hb];have:o+j<cur.length:=om;simp[this])
  (fun j hj=>Lib.frozen_of_heap hb _) (fun v F=>lA (h1 v F))
 obtain⟨G,n,H,M,N,O⟩:=qm b e cs o w cur hb;have c:=ud (o:=o) (vs:=cs) hb hB;refine⟨_,_,E,c,om,fun k ty cs h q=>n k fun e=> ?_,_,rfl,A _ G n H c⟩;subst e;rw[hb]at q;cases q;exact y h
theorem Ns{b l c sz:Nat}(h:l<c):cC (some ⟨b,0,none⟩) l c sz=some ⟨b,l*sz,none⟩:=by
 unfold cC;rw[aq om];simp[bU]

theorem aF.short{w:World}{B ty:Nat}{A:Option Addr}{n c sz:Nat}{rows:List (List Value)}(h:aF w B ty A n c sz rows){m:Nat}(hm:m<=n):aF w B ty A m c sz (rows.take m):=by
 have hl:=h.len;obtain⟨⟨h1,e⟩,z,i⟩:=h;have a:∀r∈rows.take m,r.length=sz:=fun r j=>i r (k7 j)
 have k:(rows.take m).flatten.length=m*sz:=by rw[jH _ a,eH,lO om]
 refine⟨⟨k,?_⟩,by simp;omega,a⟩;rcases e with⟨b,d⟩|⟨g,cap,cur,b,d,o,C,q,x,y⟩
 ·cases b;have:m=0:=om;subst this;exact .inl ⟨rfl,rfl⟩
 ·cases b;refine .inr ⟨g,_,cur,rfl,d,o,om,q,x,?_⟩;have hp:(rows.take m).flatten=rows.flatten.take (m*sz):=by
   have:rows.flatten=(rows.take m).flatten++(rows.drop m).flatten:=by rw[<-ow,kl]
   conv=>rhs;rw[this]
   rw[CL om,cd (l:=(rows.take m).flatten) om]
  rw[hp,<-y,RR,lO (gr _ hm)]
theorem KB{z:Value}{n:Nat}(hz:∀u∈z.cells.toList,bo u=true):∀u∈(Builtin.zeroCells z.cells n).toList,bo u=true:=by
 intro u hu;unfold Builtin.zeroCells at hu;simp only[Array.toList_map,Array.toList_range,gX,CA]at hu;obtain⟨i,hi,rfl⟩:=hu;by_cases b:z.cells.size=0
 ·rw[b]at hi;omega
 ·have a:i % z.cells.size<z.cells.size:=IQ _ om;rw[getElem!_pos z.cells (i % z.cells.size) a];exact hz _ sm
theorem uh{t ty e sz bytes:Nat}(el:El Tryz.prog t e sz bytes){z:Value}(hz:(Tryz.prog.info? e).bind (·.zero)=some z)(q:∀u∈z.cells.toList,bo u=true){B:Nat}{w:World}{A:Option Addr}{m n c:Nat}{rows:List (List Value)}(h:aF w B e A m c sz rows)(J:m<=n)(Z:n<=c){K:World->Prop}
  (D:∀w',aF w' B e A m c sz rows->Below B w w'->(∀k,k<w.heap.size->(∀a,A=some a->k≠a.block)->w'.heap[k]? =w.heap[k]?)->K w'):
  ae Tryz.prog (Builtin.clear_ #[t] ty #[.slice (cC A m c sz) (n - m) (c - m)]) B [] w fun r w1=>r= .tuple #[]/\K w1:=by
 have stay:∀(A':Option Addr)(c':Nat),(Builtin.clear_ #[t] ty #[.slice A' 0 c']).run Tryz.prog w= .ok (.tuple #[]) w:=fun A' c'=>by
  cases A'<;>simp[Builtin.clear_,run_underlying el.Ht]
 by_cases L:n - m=0
 ·rw[L];exact⟨_,w,stay _ _,Below.refl _ _,fs _,fun _ _ _ _ _=>rfl,rfl,D w h (Below.refl _ _) fun _ _ _=>rfl⟩
 obtain⟨i,d,E,F,h4,h5,M⟩:=el.info;have x:d=z:=by rw[E]at hz;simp[F]at hz;exact hz
 subst x;rcases h.1.2 with⟨y,C⟩|⟨g,cap,cur,y,C,N,O,Q,G,R⟩
 ·cases y;omega
 cases y;rw[Ns om];have l:w.heap[g]? =some (.cells cur.toList.toArray e (0,0)):=by simpa using N
 have S:(Builtin.zeroCells d.cells (n - m)).toList.length=(n - m)*sz:=by rw[nW,size_zeroCells,M]
 have T:m*sz+(n - m)*sz<=cur.toList.length:=by
  rw[<-nG,nW,G];exact gr _ om
 have H:=run_storeCells_cells (P:=Tryz.prog) g (m*sz) (Builtin.zeroCells d.cells (n - m)).toList 0 w (fun j hj=>by
   simp only[World.cell?,l];have:m*sz+j<cur.toList.length:=om;simp only[nW]at this;simp[this]) (fun j hj=>Lib.frozen_of_heap l _) (fun v U=>lA (KB q v U))
 obtain⟨k,I⟩:∃k,n - m=k+1:=⟨n - m - 1,om⟩
 have V:(Builtin.clear_ #[t] ty #[.slice (some ⟨g,m*sz,none⟩) (n - m) (c - m)]).run Tryz.prog w= .ok (.tuple #[]) (w.setCells g (m*sz+0) (Builtin.zeroCells d.cells (n - m)).toList):=by
  rw[I]at H⊢;simp[Builtin.clear_,run_underlying el.Ht,zeroValue,typeInfo,E,F,H]
 obtain⟨W,X,k3,k4,k5,k6⟩:=qm g e (Builtin.zeroCells d.cells (n - m)).toList (m*sz+0) w cur.toList l;have b:=ud (o:=m*sz+0) (vs:=(Builtin.zeroCells d.cells (n - m)).toList) l C;refine⟨_,_,V,b,om,fun k ty cs h=>(by cases h),rfl,D _ ⟨⟨h.1.1,.inr ⟨g,c,_,rfl,C,W,O,Q,?_,?_⟩⟩,h.2⟩ b fun k I Y=>X k (Y _ rfl)⟩
 ·simp[fQ,G]
 ·rw[<-R];apply zy;intro j;rw[jv,jv];split
  ·show(setCells cur.toList _ _)[j]? =_;rw[dV _ _ _ _ om,aq om]
  ·rfl

theorem Ik{t e sz bytes:Nat}(el:El Tryz.prog t e sz bytes){B:Nat}{tys:List Nat}{w:World}{o q:IntKind}{n:Nat}(M:n*(bytes+1)<=140737488355328)(hB:B<=w.heap.size){K:Option Addr->Nat->Nat->World->Prop}
  (h:∀d rows,aF d w.heap.size e (some ⟨w.heap.size,0,none⟩) n n sz rows->Below w.heap.size w d->K (some ⟨w.heap.size,0,none⟩) n n d):
  ae Tryz.prog (Instr.makeSlice t (.int o (n:Int)) (.int q (n:Int))) B tys w fun r d=>∃A n c,r= .slice A n c/\K A n c d:=by
 obtain⟨i,z,y,C,D,E,N⟩:=el.info;have hle:n<=n*(bytes+1):=vi _ om;have hb:n*bytes<=n*(bytes+1):=hO _ om;have j:(i.bytes:Int)*(n:Int)<=281474976710656:=by
  have h:((i.bytes*n:Nat):Int)<=281474976710656:=by
   have:i.bytes*n<=281474976710656:=by rw[E,Cb];omega
   omega
  rwa [Uc]at h
 have b:=run_make (P:=Tryz.prog) w t e i z el.Ht y C o q n n om (SI _) j om;simp only[cc,D]at b;have hg:=World.grownBy_alloc w (.cells (madeCells z.cells (n*sz)) e) none;have a:Below w.heap.size w (w.alloc (.cells (madeCells z.cells (n*sz)) e)):=bN hg sm lf;have g:(madeCells z.cells (n*sz)).toList.length=n*sz:=by simp[madeCells]
 -- O rows
 have m:∀(n:Nat)(l:List Value),l.length=n*sz->∃rows:List (List Value),rows.flatten=l/\rows.length=n/\∀r∈rows,r.length=sz:=by
  intro n;induction n with
  |zero=>intro l hl;rw[RN]at hl;exact⟨[],by rw[ew hl];rfl,rfl,sm⟩
  |succ n ih=>
   intro l hl;rw[TF]at hl;obtain⟨rows,F,G,H⟩:=ih (l.drop sz) (by rw[sH];omega);refine⟨l.take sz::rows,by rw[sY,F,kl],by simp[G],fun r b=> ?_⟩;rcases cy.1 b with rfl|b
   ·rw[eH];omega
   ·exact H r b
 obtain⟨rows,x,I,J⟩:=m n _ g;refine⟨_,_,b,a.mono hB,hg.size,fun k ty cs _ L=>hg.block k (ax.1 L).1 sm,_,_,_,rfl,h _ rows ⟨⟨by rw[x];exact g,.inr ⟨w.heap.size,n,_,rfl,fs _,heap_alloc_new w _,fs _,by simp only[maxLen];omega,by simp[madeCells],?_⟩⟩,I,J⟩ a⟩;rw[x];exact cd om

theorem Dk{t t2 ty e sz bytes:Nat}(el:El Tryz.prog t e sz bytes){B:Nat}{w:World}{tys:List Nat}{g n:Nat}{A2:Option Addr}{c2:Nat}{rows a:List (List Value)}(ho:aF w B e (some ⟨g,0,none⟩) n n sz rows)(hs:bR w A2 sz a)(hl:a.length=n)(d:∀r∈a,r.length=sz)(h1:∀r∈a,∀u∈r,bo u=true)(D:e∉tys){K:World->Prop}
  (E:∀w',aF w' B e (some ⟨g,0,none⟩) n n sz a->(∀k,k≠g->w'.heap[k]? =w.heap[k]?)->Below B w w'->K w'):
  ae Tryz.prog (Builtin.copy_ #[t,t2] ty #[.slice (some ⟨g,0,none⟩) n n,.slice A2 n c2]) B tys w fun r w1=>∃i:Int,r= .int .i64 i/\K w1:=by
 rcases ho.1.2 with⟨h,_⟩|⟨V,cap,cur,h,A,F,G,H,l,W⟩
 ·cases h
 cases h;have c:a.flatten.length=n*sz:=by rw[jH _ d,hl]
 have C:w.heap[g]? =some (.cells cur.toList.toArray e (0,0)):=by simpa using F
 have fin:∀w',w'.heap[g]? =some (.cells (setCells cur.toList 0 a.flatten).toArray e (0,0))->(∀k,k≠g->w'.heap[k]? =w.heap[k]?)->Below B w w'->K w':=fun w' m o I=>by
  refine E w' ⟨⟨c,.inr ⟨g,n,_,rfl,A,m,G,H,by simp[fQ,l],?_⟩⟩,hl,d⟩ o I;apply zy;intro j;have hle:0+a.flatten.length<=cur.toList.length:=by rw[c,nW,l];omega
  rw[jv];split
  ·show(setCells cur.toList _ _)[j]? =_;rw[dV _ _ _ _ hle,bm om,Nat.sub_zero]
  ·rw[hJ om]
 by_cases hn:n=0
 ·subst hn;obtain⟨i,z,J,X,Y,Z,h6⟩:=el.info;have L:a.flatten=[]:=ew (by rw[c];omega);have q:(Builtin.copy_ #[t,t2] ty #[.slice (some ⟨g,0,none⟩) 0 0,.slice A2 0 c2]).run Tryz.prog w= .ok (goInt 0) w:=by
   have y:∀(x:Addr),(loadCells x 0).run Tryz.prog w= .ok #[] w:=fun x=>by simpa using run_loadCells_list (P:=Tryz.prog) w x [] sm
   cases A2<;>simp[Builtin.copy_,run_underlying el.Ht,Builtin.lenOf,Builtin.firstCells,sizeOf,typeInfo,J,storeCells,y]
  refine⟨_,_,q,Below.refl _ _,fs _,fun _ _ _ _ _=>rfl,_,rfl,fin w ?_ (fun _ _=>rfl) (Below.refl _ _)⟩;rw[L];exact C
 ·rcases hs with M|⟨b,off,cs,N,fr,O,Q,R⟩
  ·subst M;simp at hl;omega
  ·subst O;refine nM el (cs:=a.flatten) (cur:=cur.toList) (by rw[c];simp) (fun j u hu=> ?_) C (by rw[c,nW,l];omega) (fun v S=> ?_) A D fun w' m o _ T=>fin w' m o T
   ·rw[bU];simp only[World.cell?,Q];have:=uV a off d (fun i hi j hj=>(R i hi j hj).2) j u hu;simpa using this
   ·obtain⟨r,q,U⟩:=LU.1 S;exact h1 r q v U

theorem vY{P:Program}{t ty e size bytes:Nat}(el:El P t e size bytes){B0 B:Nat}(l:B0<=B){tys:List Nat}{w:World}{v:Value}{n:Nat}{xs:List Value}(b:w.ownsRow B e size v n xs)
  {a:Addr} {m c:Nat} {news:List Value} (hl:news.length=m*size) (o:∀j u,news[j]? =some u->w.cell? (a.add j)=some u) (h1:∀u∈news,bo u=true)
  (hB:B<=w.heap.size) (hn:n+m<9223372036854775808) (nC:(n+m)*bytes<=140737488355328) (q:e∉tys) {K:Option Addr->Nat->Nat->World->Prop}
  (h:∀A c g,g.ownsRow B e size (.slice A (n+m) c) (n+m) (xs++news)->w.grownBy g v.ownBlock->Below B0 w g->K A (n+m) c g):
  ae P (Builtin.append_ #[t,t] ty #[v,.slice (some a) m c]) B0 tys w fun r g=>∃A n c,r= .slice A n c/\K A n c g:=by
 obtain⟨i,z,x,y,C,D,E⟩:=el.info;obtain⟨H,w',F,ho,hg,_⟩:=run_append_own (P:=P) w B t ty e i z size bytes el.Ht x y C D E el.pos v n xs b a m c news hl o (fun u hu=>lA (h1 u hu)) (by simp only[maxLen];omega) om hB;have d:Below B0 w w':=bN hg (fun k G=>dT l (b.lt k G).1) (dT l hB);obtain⟨A,c',rfl,_⟩:=ownsRow_form ho;exact⟨_,w',F,d,d.size,rX hg b q,A,_,c',rfl,h A c' w' ho hg d⟩

theorem BZ{P:Program}{t ty e size bytes:Nat}(el:El P t e size bytes){B0 B:Nat}(o:B0<=B){tys:List Nat}{w:World}{v:Value}{n:Nat}{xs:List Value}(d:w.ownsRow B e size v n xs)
  {x:Value} (hx:x.cells.size=size) (h1:∀u∈x.cells.toList,bo u=true)
  (hB:B<=w.heap.size) (hn:n+1<9223372036854775808) (nC:(n+1)*bytes<=140737488355328) (y:e∉tys) {K:Option Addr->Nat->Nat->World->Prop}
  (h:∀A c b,b.ownsRow B e size (.slice A (n+1) c) (n+1) (xs++x.cells.toList)->w.grownBy b v.ownBlock->Below B0 w b->K A (n+1) c b):
  ae P (Instr.buildSlice t 1 #[(0,x)]) B0 tys w fun r w1=>∃A m c,r= .slice A m c/\
   ae P (Builtin.append_ #[t,t] ty #[v,.slice A m c]) B0 tys w1 fun r b=>∃A n c,r= .slice A n c/\K A n c b:=by
 have q:=oP el [x] (by simpa using hx) sm w;simp only[wM,Pb,List.zipIdx_nil,yq,LR,tJ,LQ,u1]at q;have hg:=World.grownBy_alloc w (.cells x.cells.toList.toArray e) none;have a:Below B0 w (w.alloc (.cells x.cells.toList.toArray e)):=bN hg sm (dT o hB);refine⟨_,_,q,a,a.size,fun k ty cs _ i=>hg.block k (ax.1 i).1 sm,_,_,_,rfl,?_⟩;refine vY el o (d.kept hg (by cases v.ownBlock<;>simp)) (news:=x.cells.toList) (by simpa using hx) ?_ h1 (by have:=hg.size;omega) hn nC y ?_
 ·intro j u hu;rw[jw,jx];simp only[World.cell?];rw[heap_alloc_new];simpa using hu
 ·intro A c b z g C;refine h A c b z ⟨g.os.trans hg.os,g.tape.trans hg.tape,g.output.trans hg.output,dT hg.size g.size,fun k i l=> ?_⟩ (a.trans C);rw[g.block k (by have:=hg.size;omega) l];exact hg.block k i sm

theorem QG{t ty e sz bytes:Nat}(el:El Tryz.prog t e sz bytes){B0 B:Nat}(b:B0<=B){tys:List Nat}{w:World}{A:Option Addr}{n c:Nat}{rows:List (List Value)}(ho:aF w B e A n c sz rows){x:Value}(hx:x.cells.size=sz)(h1:∀u∈x.cells.toList,bo u=true)
  (hB:B<=w.heap.size) (hn:n+1<9223372036854775808) (nC:(n+1)*bytes<=140737488355328) (d:e∉tys) {K:Option Addr->Nat->Nat->World->Prop}
  (h:∀A' c' a,aF a B e A' (n+1) c' sz (rows++[x.cells.toList])->w.grownBy a (Value.ownBlock (.slice A n c))->Below B0 w a->K A' (n+1) c' a):
  ae Tryz.prog (Instr.buildSlice t 1 #[(0,x)]) B0 tys w fun r w1=>∃A2 m c2,r= .slice A2 m c2/\
   ae Tryz.prog (Builtin.append_ #[t,t] ty #[.slice A n c,.slice A2 m c2]) B0 tys w1 fun r a=>∃A n c,r= .slice A n c/\K A n c a:=
 BZ el b ho.1 hx h1 hB hn nC d fun A' c' a g i j=>h A' c' a ⟨by rw[ow];simpa using g,by simp[ho.len],fun r k=>by
  rcases ga.1 k with h|h
  ·exact ho.2.2 r h
  ·simp at h;subst h;simpa using hx⟩ i j

theorem Nt{t ty e sz bytes:Nat}(el:El Tryz.prog t e sz bytes){B0 B:Nat}(o:B0<=B){tys:List Nat}{w:World}{A:Option Addr}{n c:Nat}{rows:List (List Value)}(ho:aF w B e A n c sz rows)
  {a:Addr} {m c2:Nat} {more:List (List Value)} (g:bR w (some a) sz more) (hm:more.length=m) (k:∀r∈more,r.length=sz) (h1:∀r∈more,∀u∈r,bo u=true)
  (hB:B<=w.heap.size) (hn:n+m<9223372036854775808) (nC:(n+m)*bytes<=140737488355328) (q:e∉tys) {K:Option Addr->Nat->Nat->World->Prop}
  (h:∀A' c' d,aF d B e A' (n+m) c' sz (rows++more)->w.grownBy d (Value.ownBlock (.slice A n c))->Below B0 w d->K A' (n+m) c' d):
  ae Tryz.prog (Builtin.append_ #[t,t] ty #[.slice A n c,.slice (some a) m c2]) B0 tys w fun r d=>∃A n c,r= .slice A n c/\K A n c d:=by
 have hlen:more.flatten.length=m*sz:=by
  rw[<-hm];clear g hm h1 h nC;induction more with
  |nil=>simp
  |cons r rs ih=>rw[sY,en,ih (fun x hx=>k x (by simp[hx])),k r sm,eR,nG];omega
 refine vY el o ho.1 (news:=more.flatten) hlen (fun j u hu=> ?_) (fun u hu=> ?_) hB hn nC q fun A' c' d y z C=>h A' c' d ⟨by rw[ow];exact y,by simp[ho.len,hm],fun r l=> ?_⟩ z C
 ·rcases g with g|⟨b,off,cs,ty,fr,D,E,F⟩
  ·subst g;simp at hu
  ·cases D;rw[bU];simp only[World.cell?,E];have:=uV more off k (fun i hi j hj=>(F i hi j hj).2) j u hu;simpa using this
 ·obtain⟨r,l,G⟩:=LU.1 hu;exact h1 r l u G
 ·rcases ga.1 l with h|h
  ·exact ho.2.2 r h
  ·exact k r h

theorem yF{t ty e sz bytes:Nat}(el:El Tryz.prog t e sz bytes){B0 B:Nat}(l:B0<=B){tys:List Nat}{w:World}{A:Option Addr}{n c:Nat}{rows:List (List Value)}(ho:aF w B e A n c sz rows)
  {A2:Option Addr} {m c2:Nat} {more:List (List Value)} (g:bR w A2 sz more) (hm:more.length=m) (o:∀r∈more,r.length=sz) (h1:∀r∈more,∀u∈r,bo u=true) (hz:A2=none->c2=0)
  (hB:B<=w.heap.size) (hn:n+m<9223372036854775808) (nC:(n+m)*bytes<=140737488355328) (q:e∉tys) {K:Option Addr->Nat->Nat->World->Prop}
  (h:∀A' c' b,aF b B e A' (n+m) c' sz (rows++more)->w.grownBy b (Value.ownBlock (.slice A n c))->Below B w b->K A' (n+m) c' b):
  ae Tryz.prog (Builtin.append_ #[t,t] ty #[.slice A n c,.slice A2 m c2]) B0 tys w fun r b=>∃A n c,r= .slice A n c/\K A n c b:=by
 cases A2 with
 |some a=>
  refine Nt el l ho g hm o h1 hB hn nC q fun A' c' b x j E=>h A' c' b x j ?_
  exact bN j (fun k y=>(ho.1.lt k y).1) hB
 |none=>
  have:=g.rp;subst this;have d:m=0:=by rw[<-hm];rfl
  subst d;rw[hz rfl];obtain⟨i,z,C,F,G,H,I⟩:=el.info;have D:=run_append_owned_none (P:=Tryz.prog) (w:=w) B t ty e i sz el.Ht C _ _ _ ho.1;refine⟨_,w,D,Below.refl _ _,fs _,fun _ _ _ _ _=>rfl,A,n,c,rfl,?_⟩;exact h A c w (by rw[u1];exact ho) ⟨rfl,rfl,rfl,fs _,fun _ _ _=>rfl⟩ (Below.refl _ _)

abbrev fE(x:Int):List Value:=[.int .i64 x]
theorem El.Uq:(Tryz.prog.info? 3).bind (·.zero)=some (.int .i64 0):=kF
theorem B3(z:Value):∀n:Nat,(List.replicate n [z]).flatten=List.replicate n z:=by
 intro n;induction n with
 |zero=>rfl
 |succ n ih=>rw[MC,sY,ih,MC];rfl

theorem Ur{i k j l n:Nat}(m:k<n)(g:l<n)(h:i*n+k=j*n+l):i=j/\k=l:=by
 have key:∀{a b c d:Nat},c<n->d<n->a*n+c=b*n+d->¬a<b:=by
  intro a b c d o q h k;have:=gr n k;rw[TF]at this;omega
 have e:i=j:=by
  have h1:=key m g h;have r:=key g m h.symm;omega
 subst e;exact⟨rfl,om⟩
theorem B7{i k m n:Nat}(hi:i<m)(a:k<n):i*n+k<m*n:=by
 have:=gr n (show i+1<=m from hi);rw[TF]at this;omega
theorem Il{ps:List Pa}{hs:List Ho}(ip:ps.Pairwise fun a b=>a.id<b.id)(ih:hs.Pairwise fun a b=>a.id<b.id){s:Sw}{i k:Nat}(hi:qX ps s.aw=some i)(r:vX hs s.hold=some k)(pre:List Sw):
  (dF ps hs pre).set (i*hs.length+k) s.aV=dF ps hs (pre++[s]):=by
 obtain⟨p,hp,n⟩:=gG hi;obtain⟨h,d,o⟩:=pv r;have q:=(eh.1 d).1;have w:=(eh.1 hp).1;refine yD (by rw[va,iC]) (iC ps hs _) fun l m x c=> ?_
 have g:ps[l]? =some ps[l]:=af x;have j:hs[m]? =some hs[m]:=af c;rw[qe g j,uZ,List.getElem?_set];by_cases e:i*hs.length+k=l*hs.length+m
 ·obtain⟨rfl,rfl⟩:=Ur q c e;rw[bm rfl,bm (by rw[iC];exact B7 w q),bm];rw[g]at hp;rw[j]at d;cases hp;cases d;exact⟨n.symm,o.symm⟩
 ·rw[aq e,qe g j,aq];rintro⟨q1,y⟩;have z:=pw (f:=Pa.id) ip hp g (by rw[n,q1]);have a2:=pw (f:=Ho.id) ih d j (by rw[o,y]);exact e (by rw[z,a2])
theorem Im(ps:List Pa)(hs:List Ho):dF ps hs []=List.replicate (ps.length*hs.length) 0:=by
 refine yD (iC _ _ _) sm fun i k hi a=> ?_
 rw[qe (af hi) (af a),M0,bm (B7 hi a)];rfl
theorem FW{w0:World}{A0 A1 A A':Option Addr}{n0 c0 n1 c1 n c:Nat}{ps:List Pa}{hs:List Ho}{l:List Sw}(e:gq w0 A0 n0 A1 n1 ps hs)(h:bR w0 A 3 (l.map Sw.row))(hl:l.length=n)(hn:n<2147483648)(g:eJ ps hs l){N:Nat}(K:N=n0*n1){R:Value->World->Prop}
  (L:∀w,aF w w0.heap.size 3 A' N N 1 ((dF ps hs l).map fE)->R (.tuple #[.slice A' N N,.int .i64 0]) w):
  ∀(d i:Nat)(w:World),n - i=d->i<=n->Below w0.heap.size w0 w->aF w w0.heap.size 3 A' N N 1 ((dF ps hs (l.take i)).map fE)->F.cY.L5 A' N N A n c n i A0 n0 c0 A1 n1 c1 w0.heap.size w R:=by
 have Ie:=e.np;have zc:=e.nh;have M:=e.lp;have y:=e.lh;intro d;induction d with
 |zero=>
  intro i w O hi hw ho;rw[cd om]at ho;exact F.cY.L5.step ⟨fun h=>by omega,fun _=>L w ho⟩
 |succ d ih=>
  intro i w O hi hw ho;have j:i<l.length:=om;have P:=sc i;have Q:l.take (i+1)=l.take i++[l[i]]:=by rw[eU,af j];rfl
  obtain⟨p,k,hp,o⟩:=g.known _ (bA j);obtain⟨q,S,_⟩:=gG hp;obtain⟨q',r,_⟩:=pv o;have T:=(eh.1 S).1;have U:=(eh.1 r).1;have x:=B7 (m:=ps.length) T U;have hle:p*hs.length<=7*7:=u0 om om;obtain⟨hb,a,V,b,_⟩:=(h.av hw lf).at_ (fun _=>rfl) hl j;refine F.cY.L5.step ⟨fun _=>⟨hb,a,V,_,_,_,b,fun w1 z=> ?_⟩,fun h=>by omega⟩;have B:=kE hw z;refine pm (gI (e.av B) l[i].aw) ?_;rintro v w2 C rfl;have D:=kP B C;rw[hp];have E:u6 (some p)*(n1:Int)=((p*hs.length:Nat):Int):=by rw[<-y];simp[u6]
  refine⟨_,rfl,by rw[E];simp only[aS];omega,pm (iK (e.av D) l[i].hold) ?_⟩;rintro v w3 G rfl;have W:=kP D G;rw[o,E];have X:((p*hs.length:Nat):Int)+u6 (some k)=((p*hs.length+k:Nat):Int):=by simp[u6]
  have Y:=((ho.kR z).below C).below G;have Z:p*hs.length+k<N:=by rw[K,<-M,<-y];exact x
  have gO:((dF ps hs (l.take i)).map fE)[p*hs.length+k]? =some (fE ((dF ps hs (l.take i))[p*hs.length+k]'(by rw[iC];exact x))):=by
   rw[hM,af (by rw[iC];exact x)];rfl
  obtain⟨g1,a2,pR,cs,g2,g3,g4,g5,g6⟩:=Y.Nj (i:=((p*hs.length+k:Nat):Int)) om om (fE l[i].aV) _ (by rw[cc];exact gO) rfl;refine⟨_,rfl,?_⟩;dsimp only;rw[X];refine⟨ir,g1,a2,pR,cs,_,g2,g3,g4,g5,rfl,fun H I=>⟨ir,?_⟩⟩;have J:=g6 H I;rw[cc]at J;rw[P];refine ih (i+1) H om om (W.trans (aC.eD I g2)) ?_;have key:=Il g.c.ip g.c.ih hp o (l.take i);rw[Q,<-key,Cd];exact J
theorem cY{w:World}(hg:bk w){A0 A1 A:Option Addr}{n0 c0 n1 c1 n c:Nat}{ps:List Pa}{hs:List Ho}{l:List Sw}(b:gq w A0 n0 A1 n1 ps hs)(h:bR w A 3 (l.map Sw.row))(hl:l.length=n)(o:n<=c)(hn:n<2147483648):
  Pure Tryz.prog 253 #[.agg #[.slice A0 n0 c0,.slice A1 n1 c1],.slice A n c] w fun v w'=>(¬gY ps hs l=0->v= .tuple #[.slice none 0 0,.int .i64 1])/\
   (gY ps hs l=0->∃A' N,v= .tuple #[.slice A' N N,.int .i64 0]/\aF w' w.heap.size 3 A' N N 1 ((dF ps hs l).map fE)/\N=n0*n1):=by
 have q:=b.np;have x:=b.nh;have hle:n0*n1<=7*7:=u0 q x;refine F.cY.vc fun w1 y=> ?_
 have g:=k0 y;refine pm (bT (hg.next g) (b.av g) (h.av g lf) hl o hn) ?_;rintro v z B rfl;have i:=kP g B;refine⟨_,rfl,fun j=>⟨fun _=>rfl,fun k=>absurd k j⟩,fun j=> ?_⟩;have d:=ek.1 j;have e:=fv d;have em:(n0:Int)*(n1:Int)=((n0*n1:Nat):Int):=by simp
 rw[em];refine⟨ir,rZ gK El.Uq rfl om om i.size fun A' N m E C _ D=> ?_⟩;have a:N=n0*n1:=om;refine FW b h hl hn e a (fun w' ho=>⟨fun k=>absurd d k,fun _=>⟨A',N,rfl,ho,a⟩⟩) n 0 m rfl om (i.trans D) ?_;rw[LO,Im,b.lp,b.lh,<-a,List.map_replicate];refine⟨?_,sm,fun r e=>by rw[Cf e];rfl⟩;rw[B3];exact(show aF m z.heap.size 3 A' N N 1 (List.replicate N [.int .i64 0])from⟨by rw[B3];exact C,sm,fun r e=>by rw[Cf e];rfl⟩).base i.size|>.1|>fun h=>by rw[B3]at h;exact h

theorem KC{w0:World}{A:Option Addr}{n c:Nat}{l:List Int}(hl:bR w0 A 1 (l.map fE))(hlen:l.length=n)(hn:n<2147483648){f:Nat}{a k:Array Value}(cB:az Tryz.prog f=true){p:Int->Bool}
  (hf:∀w,Below w0.heap.size w0 w->∀x∈l,Pure Tryz.prog f (a.toList++([.int .i64 x]:List Value)++k.toList).toArray w fun v _=>v= .bool (p x)) {R:Value->World->Prop} {r:Int} (g:∀w,R (.int .i64 r) w):
  ∀(d i:Nat)(w:World),n - i=d->i<=n->Below w0.heap.size w0 w->r=fD p i (l.drop i)->F.bu.L2 A n c f a k n i w0.heap.size w R:=by
 intro d;induction d with
 |zero=>
  intro i w o hi hw b;rw[de om]at b;subst b;exact F.bu.L2.step ⟨fun h=>by omega,fun _=>g w⟩
 |succ d ih=>
  intro i w o hi hw b;have j:i<l.length:=om;rw[dp j,fD]at b;obtain⟨hb,q,y,e,_⟩:=(hl.av hw lf).at_ (fun _=>rfl) hlen j;refine F.bu.L2.step ⟨fun _=> ?_,fun h=>by omega⟩;refine⟨hb,q,y,_,e,cB,pm (hf w hw l[i] (bA _)) ?_⟩;rintro v m z rfl;refine⟨_,rfl,fun h=> ?_,fun h=>⟨ir,?_⟩⟩
  ·rw[bm h]at b;subst b;exact g m
  ·rw[aq (by simp[h])]at b;have B:=sc i;rw[B];exact ih (i+1) m om om (kP hw z) b
theorem DS{w:World}{A:Option Addr}{n c:Nat}{l:List Int}(hl:bR w A 1 (l.map fE))(hlen:l.length=n)(hn:n<2147483648){f:Nat}{a k:Array Value}(cB:az Tryz.prog f=true){p:Int->Bool}
  (hf:∀w',Below w.heap.size w w'->∀x∈l,Pure Tryz.prog f (a.toList++([.int .i64 x]:List Value)++k.toList).toArray w' fun v _=>v= .bool (p x)):
  Pure Tryz.prog 225 #[.slice A n c,.func (.func f) a k] w fun v _=>v= .bool (l.any p):=by
 refine F.fR.vc (pm (F.bu.vc (KC hl hlen hn cB hf (R:=fun v _=>v= .int .i64 (fD p 0 l)) (fun _=>rfl) n 0 w rfl om (Below.refl _ _) rfl)) ?_);rintro v b _ rfl;exact⟨_,rfl,by dsimp only;rw[sE]⟩

theorem QH{w0:World}{A0 A1 A A':Option Addr}{n0 c0 n1 c1 n c m c':Nat}{i:Nat}(o:i<=7){r:List Int}(q:bR w0 A' 1 (r.map fE))(k:r.length=m)(hm:m<2147483648)(g:∀x∈r,0<=x){b:Bool}{R:Value->World->Prop}
  (y:∀w,b=true->R (.tuple #[.slice none 0 0,.int .i64 12]) w) (gW:∀w,Below w0.heap.size w0 w->b=false->F.ba.L8 A n c A0 n0 c0 n0 ((i:Int)+1) A0 n0 c0 A1 n1 c1 w0.heap.size w R):
  ∀(d j:Nat)(left:Int)(w:World),m - j=d->j<=m->0<=left->left<=9->Below w0.heap.size w0 w->xL left (r.drop j)=b->F.ba.YT A n c left A0 n0 c0 n0 i A' m c' m j A0 n0 c0 A1 n1 c1 w0.heap.size w R:=by
 intro d;induction d with
 |zero=>
  intro j left w z hj B C hw hb;rw[de om]at hb;exact F.ba.YT.step ⟨fun h=>by omega,fun _=>⟨ir,gW w hw hb.symm⟩⟩
 |succ d ih=>
  intro j left w z hj B C hw hb;have l:j<r.length:=om;have D:=sc j;rw[dp l,xL]at hb;have hp:=g _ (bA l);obtain⟨E,a,G,e,_⟩:=(q.av hw lf).at_ (fun _=>rfl) k l;refine F.ba.YT.step ⟨fun _=>⟨E,a,G,_,e,fun h=> ?_,fun h=>⟨ir,ir,?_⟩⟩,fun h=>by omega⟩
  ·rw[bm h]at hb;exact y w hb.symm
  ·rw[aq om]at hb;rw[D];exact ih (j+1) _ w om om om om hw hb
theorem Ut{w0:World}{A0 A1 A:Option Addr}{n0 c0 n1 c1 n c:Nat}{ps:List Pa}{hs:List Ho}{a:List Int}(k:gq w0 A0 n0 A1 n1 ps hs)(r:BU ps hs)(h:bR w0 A 1 (a.map fE))(hl:a.length=n)(U:n<=c)(hn:n=n0*n1)(o:∀x∈a,0<=x){R:Value->World->Prop}
  (D:∀w,DQ ps hs a=true->R (.tuple #[.slice none 0 0,.int .i64 12]) w) (gW:∀w,Below w0.heap.size w0 w->DQ ps hs a=false->F.ba.AA A n c none 0 0 A1 n1 c1 n1 0 A0 n0 c0 A1 n1 c1 w0.heap.size w R):
  ∀(d i:Nat)(w:World),n0 - i=d->i<=n0->Below w0.heap.size w0 w->(∀(l:Nat)(p:Pa),l<i->ps[l]? =some p->xL p.aV (tA a hs.length l)=false)->F.ba.L8 A n c A0 n0 c0 n0 i A0 n0 c0 A1 n1 c1 w0.heap.size w R:=by
 have V:=k.np;have z:=k.nh;have W:=k.lp;have B:=k.lh;intro d;induction d with
 |zero=>
  intro i w E hi hw hx;refine F.ba.L8.step ⟨fun h=>by omega,fun _=>gW w hw ?_⟩;unfold DQ;rw[wJ];intro j hj;have hj:=CA.1 hj;rw[af hj];simp only;rw[hx j _ om (af hj)];simp
 |succ d ih=>
  intro i w E hi hw hx;have q:i<ps.length:=om;have C:=sc i;obtain⟨hb,G,H,g,_⟩:=(k.p.av hw lf).at_ (fun _=>rfl) k.lp q;have I:i*n1<=7*7:=u0 om z;have J:(i+1)*n1<=8*7:=u0 om z;have K:(i+1)*n1<=n0*n1:=gr _ om;have X:(i+1)*n1=i*n1+n1:=TF _ _;have L:(i:Int)*(n1:Int)=((i*n1:Nat):Int):=by simp
  have M:((i:Int)+1)*(n1:Int)=(((i+1)*n1:Nat):Int):=by rw[C];simp
  refine F.ba.L8.step ⟨fun _=>⟨hb,G,H,_,_,_,_,_,_,_,g,?_⟩,fun h=>by omega⟩;rw[L,M,cc,cc];refine⟨ir,ir,ir,om,fun w1 N=> ?_⟩;have O:=kE hw N;have em:(i+1)*n1 - i*n1=n1:=om;rw[em];have P:=(r.p1 _ (bA q)).2.1;have Q:bR w0 (cC A (i*n1) c 1) 1 ((tA a n1 i).map fE):=by
   unfold tA;rw[En,List.map_drop];exact(h.WG (by simp;omega)).take _
  have y:(tA a n1 i).length=n1:=Ml (m:=n0) om om;refine QH om Q y om (fun x hx=>o x (vn (k7 hx))) (b:=xL ps[i].aV (tA a n1 i)) (fun w hb=>D w ?_) (fun S T hb=> ?_) n1 0 ps[i].aV w1 rfl om om om O rfl
  ·unfold DQ;rw[pe];refine⟨i,CA.2 q,?_⟩;rw[af q,B];exact hb
  ·rw[C];refine ih (i+1) S om om T fun l p Y hp=> ?_
   by_cases e:l=i
   ·subst e;rw[af q]at hp;cases hp;rw[B];exact hb
   ·exact hx l p om hp

def Dl(f:Nat->Nat->Int)(ps:List Pa)(hs:List Ho)(k i:Nat):List Sw:=((List.range k).flatMap fun k=>(List.range ps.length).flatMap fun i=>zN f ps hs k i)++(List.range i).flatMap fun i=>zN f ps hs k i
theorem QI(f:Nat->Nat->Int)(ps:List Pa)(hs:List Ho)(k:Nat):Dl f ps hs k ps.length=Dl f ps hs (k+1) 0:=by
 unfold Dl;rw[AG,ME];simp
theorem DT(f:Nat->Nat->Int)(ps:List Pa)(hs:List Ho)(k i:Nat):Dl f ps hs k (i+1)=Dl f ps hs k i++zN f ps hs k i:=by
 unfold Dl;rw[AG,ME,ky];simp
theorem QJ{w0:World}{A0 A1 A:Option Addr}{n0 c0 n1 c1 n c:Nat}{ps:List Pa}{hs:List Ho}{a:List Int}(b:gq w0 A0 n0 A1 n1 ps hs)(h:bR w0 A 1 (a.map fE))(hl:a.length=n)(hn:n=n0*n1){R:Value->World->Prop}
  (P:∀A' m c' w,Below w0.heap.size w0 w->aF w w0.heap.size 54 A' m c' 3 ((oz (pU a n1) ps hs).map Sw.row)->R (.tuple #[.slice A' m c',.int .i64 0]) w):
  ∀(d k:Nat)(A':Option Addr)(m c':Nat)(w:World),n1 - k=d->k<=n1->Below w0.heap.size w0 w->aF w w0.heap.size 54 A' m c' 3 ((Dl (pU a n1) ps hs k 0).map Sw.row)->m<=7*k->F.ba.AA A n c A' m c' A1 n1 c1 n1 k A0 n0 c0 A1 n1 c1 w0.heap.size w R:=by
 have Ie:=b.np;have Q:=b.nh;have S:=b.lp;have G:=b.lh;intro d;induction d with
 |zero=>
  intro k A' m c' w T U hw ho hm;have:k=n1:=om;subst this;refine F.ba.AA.step ⟨fun h=>by omega,fun _=>P _ _ _ w hw ?_⟩;unfold Dl at ho;rw[<-G]at ho;simp only[List.range_zero,LQ,u1]at ho;unfold oz;rw[<-G];exact ho
 |succ d ih=>
  intro k A' m c' w T U hw ho hm;have H:k<hs.length:=om;have B:=sc k;obtain⟨hb,V,W,j,_⟩:=(b.h.av hw lf).at_ (fun _=>rfl) b.lh H;refine F.ba.AA.step ⟨fun _=>⟨hb,V,W,_,_,_,_,_,_,_,j,fun w1 I=> ?_⟩,fun h=>by omega⟩;have X:=kE hw I;have inner:∀(e i:Nat)(A':Option Addr)(m c':Nat)(w:World),n0 - i=e->i<=n0->Below w0.heap.size w0 w->aF w w0.heap.size 54 A' m c' 3 ((Dl (pU a n1) ps hs k i).map Sw.row)->m<=7*k+i->
    F.ba.Jp A n c A' m c' k A1 n1 c1 n1 k A0 n0 c0 n0 i A0 n0 c0 A1 n1 c1 hs[k].id hs[k].name hs[k].room hs[k].oh hs[k].x hs[k].y hs[k].z w0.heap.size w R:=by
   intro e;induction e with
   |zero=>
    intro i A' m c' w he hi hw ho hm;have:i=n0:=om;subst this;refine F.ba.Jp.step ⟨fun h=>by omega,fun _=>⟨ir,?_⟩⟩;rw[B];refine ih (k+1) A' m c' w om om hw ?_ om;rw[<-QI,S];exact ho
   |succ e J=>
    intro i A' m c' w he hi hw ho hm;have K:i<ps.length:=om;have l:=sc i;obtain⟨C,Y,Z,sG,_⟩:=(b.p.av hw lf).at_ (fun _=>rfl) b.lp K;have ahf:i*n1<=7*7:=u0 om Q;have Us:i*n1+k<n:=by rw[hn];exact B7 om om
    have e4:(i:Int)*(n1:Int)+(k:Int)=((i*n1+k:Nat):Int):=by simp
    have e5:(i:Int)*(n1:Int)=((i*n1:Nat):Int):=by simp
    have o:zN (pU a n1) ps hs k i=if 0<pU a n1 i k then[⟨hs[k].id,ps[i].id,pU a n1 i k⟩]else[]:=by
     unfold zN;rw[af H,af K]
    have q:a[i*n1+k]'om=pU a n1 i k:=by
     unfold pU;rw[cb,af om];rfl
    refine F.ba.Jp.step ⟨fun _=>⟨C,Y,Z,_,_,_,_,_,_,_,sG,?_⟩,fun h=>by omega⟩;rw[e5];have e6:((i*n1:Nat):Int)+(k:Int)=((i*n1+k:Nat):Int):=by simp
    rw[e6];obtain⟨D,E,L,_⟩:=(h.av hw lf).at_ (fun _=>rfl) hl (i:=i*n1+k) om;refine⟨ir,ir,D,E,L,fun w2 M=> ?_⟩;have r:=kE hw M;obtain⟨_,ad4,N,B8,_⟩:=(h.av r lf).at_ (fun _=>rfl) hl (i:=i*n1+k) om;rw[L]at N;cases N;have O:=ho.kR M;refine⟨_,B8,fun g=> ?_,fun Dd=>⟨ir,?_⟩⟩
    ·rw[q]at g⊢;refine sA gS lf O (x:= .agg #[.int .i64 hs[k].id,.int .i64 ps[i].id,.int .i64 (pU a n1 i k)]) rfl (by simp[Value.cells,bo]) r.size om dc fun A3 c3 w3 o3 _ b3=>⟨ir,?_⟩
     rw[l];refine J (i+1) A3 (m+1) c3 w3 om om (r.trans b3) ?_ om;rw[DT,o,bm g,eL];exact o3
    ·rw[q]at Dd;rw[l];refine J (i+1) A' m c' w2 om om r ?_ om;rw[DT,o,aq om,u1];exact O
  exact inner n0 0 A' m c' w1 rfl om X (ho.kR I) om
def Io(r:Except Int (List Sw))(B:Nat)(y:Value)(w:World):Prop:=match r with
 | .error e=>y= .tuple #[.slice none 0 0,.int .i64 e]
 | .ok l=>∃A m c,y= .tuple #[.slice A m c,.int .i64 0]/\aF w B 54 A m c 3 (l.map Sw.row)
theorem ba{w:World}(hg:bk w){A0 A1 A:Option Addr}{n0 c0 n1 c1 n c:Nat}{ps:List Pa}{hs:List Ho}{a:List Int}(b:gq w A0 n0 A1 n1 ps hs)(h:bR w A 1 (a.map fE))(hl:a.length=n)(q:n<=c)(hn:n<2147483648):
  Pure Tryz.prog 283 #[.agg #[.slice A0 n0 c0,.slice A1 n1 c1],.slice A n c] w (Io (rz ps hs a) w.heap.size):=by
 have r:=b.np;have y:=b.nh;have l:=b.lp;have i:=b.lh;have hle:n0*n1<=7*7:=u0 r y;refine F.ba.vc fun w1 z=> ?_
 have j:=k0 z;refine pm (aM (hg.next j) (b.av j)) ?_;rintro v H B rfl;have o:=kP j B;have em:(n0:Int)*(n1:Int)=((n0*n1:Nat):Int):=by simp
 rw[em];refine⟨_,rfl,fun d=> ?_,fun d=>⟨ir,fun h1=> ?_,fun h1=> ?_⟩⟩
 ·unfold rz;rw[bm d];rfl
 ·unfold rz;rw[aq d,bm (by rw[l,i];omega)];rfl
 have hlen:a.length=ps.length*hs.length:=by rw[l,i];omega
 refine pm (DS (p:=fun n=>decide (n<0)) (h.av o lf) hl hn kF fun w' hb x hx=>F.qo.vc rfl) ?_;rintro v C D rfl;have E:=kP o D;refine⟨_,rfl,fun e=> ?_,fun e=> ?_⟩
 ·unfold rz;rw[aq d,aq (fun k=>k hlen),bm e];rfl
 have g:∀x∈a,0<=x:=fun x hx=>by
  have:=wJ.1 e x hx;simp at this;omega
 refine Ut b (me (ek.1 d)) h hl q om g (fun w' hf=> ?_) (fun w' G hf=> ?_) n0 0 C rfl om E (fun I p J=>by omega)
 ·unfold rz;rw[aq d,aq (fun k=>k hlen),aq (by rw[e];simp),bm hf];rfl
 ·refine QJ b h hl om (fun A' m c' K L ho=> ?_) n1 0 none 0 0 w' rfl om G (by unfold Dl;simpa using aF.nil) om;unfold rz;rw[aq d,aq (fun k=>k hlen),aq (by rw[e];simp),aq (by rw[hf];simp),i];exact⟨A',m,c',rfl,ho⟩
end Go.Proofs.YtbcojgcjjpggnaaGreatDoor.B
