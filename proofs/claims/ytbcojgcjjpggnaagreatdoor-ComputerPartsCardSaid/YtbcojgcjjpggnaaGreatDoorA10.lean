/- Part 10 of the proofs that: Each step that was done was approved; folding in two parts is folding at once. -/
import Derived.Test.YtbcojgcjjpggnaaGreatDoorA9
import Derived.Test.YtbcojgcjjpggnaaGreatDoorProg
set_option linter.unusedVariables false
set_option linter.unusedSimpArgs false
set_option maxRecDepth 100000
set_option maxHeartbeats 4000000
namespace Go.Proofs.YtbcojgcjjpggnaaGreatDoor.F
open Go Go.RowKit Go.Proofs Go.Proofs.YtbcojgcjjpggnaaGreatDoor.Vc
open Tryz
variable {A C D E G H J K A0 A1 A2 A3 A4 A5 A6 A7 A8 A9 C0 C1 C2 C3 C4 C5 C6 C7 C8 C9:O} {a b c d e f g i j l m n o a0 a1 a2 a3 a4 a5 a6 a7 a8 a9 b0 b1 b2 b3 b4 b5 b6 b7 b8 b9 c0 c1 c2 c3 c4 c5 c6 c7 c8 c9:Nat} {p q r s t u v x p0 p1 p2 p3 p4 p5 p6 p7 p8 p9 q0 q1 q2 q3 q4 q5 q6 q7 q8 q9:Int} {L M N N0 N1 N2 N3 N4 N5 N6 N7 N8 N9 T0 T1 T2 T3 T4 T5 T6 T7 T8 T9:ByteArray} {Q S:Bool} {B:Nat} {w:World} {R:Kt}
def bK.L4(a:Addr)(b:O)(c d:Nat)(e f:Int):=Lt 17 f17 4 [(3,.v (.pointer (some a))),vS 12 b c d,vI 13 e,vI 14 f] []
def bK.cx:Pm:=([((true,4),[3,12,13,14],[])],[(1,0,2),(2,4,6),(6,14,6),(8,0,6)])
theorem bK.L4.step{d:Addr}
  (h:(Br (p<q) (Ix p a A fun s=>(∃f g i,aa w (s.add ((p).toNat*3)) [I f,I g,I i]/\(∀j,Ext B [] w j->(Pure P 50 #[I f] j (Rt fun c t=>(ByteArray.size (⟨#[59]⟩:ByteArray)+ByteArray.size c<=9223372036854775807/\(ByteArray.size ((⟨#[59]⟩:ByteArray)++c)+ByteArray.size (⟨#[32]⟩:ByteArray)<=9223372036854775807/\(Pure P 50 #[I g] t (Rt fun e u=>(ByteArray.size (((⟨#[59]⟩:ByteArray)++c)++(⟨#[32]⟩:ByteArray))+ByteArray.size e<=9223372036854775807/\(ByteArray.size ((((⟨#[59]⟩:ByteArray)++c)++(⟨#[32]⟩:ByteArray))++e)+ByteArray.size (⟨#[32]⟩:ByteArray)<=9223372036854775807/\(Pure P 50 #[I i] u (Rt fun l m=>(ByteArray.size (((((⟨#[59]⟩:ByteArray)++c)++(⟨#[32]⟩:ByteArray))++e)++(⟨#[32]⟩:ByteArray))+ByteArray.size l<=9223372036854775807/\(cI P 49 #[(.pointer (some d)),(.string ((((((⟨#[59]⟩:ByteArray)++c)++(⟨#[32]⟩:ByteArray))++e)++(⟨#[32]⟩:ByteArray))++l))] B m fun v n=>PG [57] m n/\∃(x:Int)(y:Value),v= .tuple #[I x,y]/\(aU .i64 (p+1)/\(bK.L4 d A a b q (p+1) B n R))))))))))))))))) (cI P 52 #[(.pointer (some d))] B w fun z o=>PG [] w o/\∃r,z= .string r/\(Pure P 51 #[.string r] o (Rt fun C D=>(R (.string C) D)))))):
  bK.L4 d A a b q p B w R:=
 lr bK.cx func17 h
theorem bK.vc
  (h:(∀t,Ext w.heap.size [] w t->(ae P (Instr.alloc 117 true (.tuple #[])) w.heap.size [49] t fun y z=>∃(s:Addr),y= .pointer (some s)/\(Pure P 50 #[I p] z (Rt fun u v=>(ByteArray.size (⟨#[112,108,97,110,32]⟩:ByteArray)+ByteArray.size u<=9223372036854775807/\(cI P 49 #[(.pointer (some s)),(.string ((⟨#[112,108,97,110,32]⟩:ByteArray)++u))] w.heap.size v fun L x=>PG [49] v x/\∃(M:Int)(N:Value),L= .tuple #[I M,N]/\(bK.L4 s A a b (a:Int) (0:Int) w.heap.size x R)))))))):
  Pure P 17 #[.agg #[.slice C c d,.slice D e f,.slice E g i,.slice G j l,.slice A a b,I p,.slice H m n,.slice J o a0,.slice K a1 a2,.slice A0 a3 a4,.slice A1 a5 a6,.slice A2 a7 a8,I q,I r]] w R:=
 pr bK.cx func17 h

def dH.L5(a:O)(b c:Nat)(d e:Int)(f:O)(g i:Nat)(j:O)(l m:Nat)(n:O)(o p:Nat)(q:O)(r s:Nat)(t:O)(u v:Nat)(x:Int)(y:O)(z A:Nat)(C:O)(D E:Nat)(G:O)(H J:Nat)(K:O)(L M:Nat)(N:O)(Q S:Nat)(T:O)(U V:Nat)(X Y:Int)(Z:O)(d0 d1:Nat)(d2:O)(d3 d4:Nat)(d5:O)(d6 d7:Nat)(d8:O)(d9 h:Nat)(k:O)(F P:Nat)(W:Int)(e5:O)(e6 e7:Nat)(e8:O)(e9 g0:Nat)(g1:O)(g2 g3:Nat)(g4:O)(g5 g6:Nat)(g7:O)(g8 g9:Nat)(j0:O)(j1 j2:Nat)(j3 j4:Int):=Lt 24 f24 5 [vL 2,vL 5,vS 14 a b c,vI 15 d,vI 16 e] [⟨2,false,49,[(.slice f g i),(.slice j l m),(.slice n o p),(.slice q r s),(.slice t u v),(I x),(.slice y z A),(.slice C D E),(.slice G H J),(.slice K L M),(.slice N Q S),(.slice T U V),(I X),(I Y)]⟩,⟨5,false,49,[(.slice Z d0 d1),(.slice d2 d3 d4),(.slice d5 d6 d7),(.slice d8 d9 h),(.slice k F P),(I W),(.slice e5 e6 e7),(.slice e8 e9 g0),(.slice g1 g2 g3),(.slice g4 g5 g6),(.slice g7 g8 g9),(.slice j0 j1 j2),(I j3),(I j4)]⟩]
def dH.cx:Pm:=([((true,5),[2,5,14,15,16],[2,5])],[])
theorem dH.L5.step{a X Y Z d0 d1 d2 d3 d4 d5 d6 d7 d8 d9 k F W e3 e4 e5 e6 e7 e8 e9 b c d e f g i j l m n o y z L M N O Q S T U B:Nat}
  (h:(Br (p<q) (Ix p a A fun o3=>(∃g0 g1 g2 g3 g4 g5 g6 g7 g8 g9 j0 j1,aa w (o3.add ((p).toNat*6)) [I g0,I g1,I g2,.slice g3 g4 g5,.slice g6 g7 g8,.slice g9 j0 j1]/\(∀j2,Ext B [] w j2->(Pure P 27 #[.agg #[.slice C b c,.slice D d e,.slice E f g,.slice G i j,.slice H l m,I r,.slice J n o,.slice K y z,.slice A0 L M,.slice A1 N O,.slice A2 Q S,.slice A3 T U,I s,I t],.agg #[I g0,I g1,I g2,.slice g3 g4 g5,.slice g6 g7 g8,.slice g9 j0 j1]] j2 fun o4 j3=>∃j4 j5 j6 j7 j8 j9 l0 l1 l2 l3 l4 l5 l6 l7 l8 l9 m0 m1 m2 m3 m4 m5 m6 m7 m8 m9 n0 n1 n2 n3 n4 n5 n6 n7 n8 n9 V,o4= .tuple #[.agg #[.slice j4 j5 j6,.slice j7 j8 j9,.slice l0 l1 l2,.slice l3 l4 l5,.slice l6 l7 l8,I l9,.slice m0 m1 m2,.slice m3 m4 m5,.slice m6 m7 m8,.slice m9 n0 n1,.slice n2 n3 n4,.slice n5 n6 n7,I n8,I n9],I V]/\(Br (V≠0) (∀o0,Ext B [49] j3 o0->(R (.tuple #[.agg #[.slice none 0 0,.slice none 0 0,.slice none 0 0,.slice none 0 0,.slice none 0 0,I 0,.slice none 0 0,.slice none 0 0,.slice none 0 0,.slice none 0 0,.slice none 0 0,.slice none 0 0,I 0,I 0],I p,I V]) o0)) (aU .i64 (p+1)/\(∀o1,Ext B [49] j3 o1->(dH.L5 A a X q (p+1) A4 Y Z A5 d0 d1 A6 d2 d3 A7 d4 d5 A8 d6 d7 u A9 d8 d9 C0 k F C1 W e3 C2 e4 e5 C3 e6 e7 C4 e8 e9 v x j4 j5 j6 j7 j8 j9 l0 l1 l2 l3 l4 l5 l6 l7 l8 l9 m0 m1 m2 m3 m4 m5 m6 m7 m8 m9 n0 n1 n2 n3 n4 n5 n6 n7 n8 n9 B o1 R)))))))) (∀o2,Ext B [49] w o2->(R (.tuple #[.agg #[.slice C b c,.slice D d e,.slice E f g,.slice G i j,.slice H l m,I r,.slice J n o,.slice K y z,.slice A0 L M,.slice A1 N O,.slice A2 Q S,.slice A3 T U,I s,I t],(I (-1:Int)),I 0]) o2)))):
  dH.L5 A a X q p A4 Y Z A5 d0 d1 A6 d2 d3 A7 d4 d5 A8 d6 d7 u A9 d8 d9 C0 k F C1 W e3 C2 e4 e5 C3 e6 e7 C4 e8 e9 v x C b c D d e E f g G i j H l m r J n o K y z A0 L M A1 N O A2 Q S A3 T U s t B w R:=
 lr dH.cx func24 h
theorem dH.vc
  (h:(Br ((a:Int)>1024) (∀c,Ext w.heap.size [] w c->(R (.tuple #[.agg #[.slice none 0 0,.slice none 0 0,.slice none 0 0,.slice none 0 0,.slice none 0 0,I 0,.slice none 0 0,.slice none 0 0,.slice none 0 0,.slice none 0 0,.slice none 0 0,.slice none 0 0,I 0,I 0],(I (-1:Int)),I 8]) c)) (∀d,Ext w.heap.size [] w d->(Pure P 37 #[] d fun Z d0=>∃e f g i j l m n o p q r s t u v x y z C D E G H J K L M N O Q S T U V X,Z= .agg #[.slice e f g,.slice i j l,.slice m n o,.slice p q r,.slice s t u,I v,.slice x y z,.slice C D E,.slice G H J,.slice K L M,.slice N O Q,.slice S T U,I V,I X]/\(∀Y,Ext w.heap.size [] d0 Y->(dH.L5 A a b (a:Int) (0:Int) none 0 0 none 0 0 none 0 0 none 0 0 none 0 0 (0:Int) none 0 0 none 0 0 none 0 0 none 0 0 none 0 0 none 0 0 (0:Int) (0:Int) e f g i j l m n o p q r s t u v x y z C D E G H J K L M N O Q S T U V X w.heap.size Y R)))))):
  Pure P 24 #[.slice A a b] w R:=
 pr dH.cx func24 h

def uw.cx:Pm:=([],[(3,2,5),(3,3,6)])
theorem uw.vc
  (h:(Br (p<0) (∀e,Ext w.heap.size [] w e->(R (.tuple #[.agg #[.slice none 0 0,.slice none 0 0,.slice none 0 0,.slice none 0 0,.slice none 0 0,I 0,.slice none 0 0,.slice none 0 0,.slice none 0 0,.slice none 0 0,.slice none 0 0,.slice none 0 0,I 0,I 0],I 2]) e)) (Br (p>1073741824) (∀f,Ext w.heap.size [] w f->(R (.tuple #[.agg #[.slice none 0 0,.slice none 0 0,.slice none 0 0,.slice none 0 0,.slice none 0 0,I 0,.slice none 0 0,.slice none 0 0,.slice none 0 0,.slice none 0 0,.slice none 0 0,.slice none 0 0,I 0,I 0],I 2]) f)) (∀g,Ext w.heap.size [] w g->(Pure P 57 #[.slice A a b] g (Rs fun A4 n4 c4 c=>(∀d:Nat,w.heap.size<=d->c.heap[d]? =some (.cells [I p].toArray 3 (0,0))->(cI P 56 #[.slice A4 n4 c4,(.func (.func 58) #[] #[(.pointer (some (⟨d,0,none⟩:Addr)))])] w.heap.size c fun k i=>PG [49] c i/\∃j l m,k= .slice j l m/\(Pure P 24 #[.slice j l m] i fun F W=>∃n o q r s t u v x y z C D E G H J K L M N O Q S T U V X Y Z d0 d1 d2 d3 d4 d5 e4 d6,F= .tuple #[.agg #[.slice n o q,.slice r s t,.slice u v x,.slice y z C,.slice D E G,I H,.slice J K L,.slice M N O,.slice Q S T,.slice U V X,.slice Y Z d0,.slice d1 d2 d3,I d4,I d5],I e4,I d6]/\(∀d7,Ext w.heap.size [49] W d7->(R (.tuple #[.agg #[.slice n o q,.slice r s t,.slice u v x,.slice y z C,.slice D E G,I H,.slice J K L,.slice M N O,.slice Q S T,.slice U V X,.slice Y Z d0,.slice d1 d2 d3,I d4,I d5],I d6]) d7))))))))))):
  Pure P 26 #[.slice A a b,I p] w R:=
 pr uw.cx func26 h

def bF.J4(a:Bool)(b:O)(c d:Nat)(e:O)(f g:Nat)(i:O)(j l:Nat)(m:O)(n o:Nat)(p:O)(q r:Nat)(s:Int)(t:O)(u v:Nat)(x:O)(y z:Nat)(A:O)(C D:Nat)(E:O)(G H:Nat)(J:O)(K L:Nat)(M:O)(N Q:Nat)(S T U V X:Int)(Y:O)(Z d0:Nat)(d1:O)(d2 d3:Nat)(d4:O)(d5 d6:Nat)(d7:O)(d8 d9:Nat)(h:O)(k F:Nat)(P:O)(W e5:Nat)(e6:O)(e7 e8:Nat)(e9:O)(g0 g1:Nat)(g2:Int)(g3:O)(g4 g5:Nat)(g6:O)(g7 g8:Nat)(g9:O)(j0 j1:Nat)(j2:O)(j3 j4:Nat)(j5:O)(j6 j7:Nat)(j8:O)(j9 l0:Nat)(l1 l2 l3 l4 l5:Int)(l6 l7:Bool)(l8:Value):=Jt 27 f27 4 [vL 2,vL 3,vL 4,vL 6,(7,.v (.bool a))] [⟨2,false,49,[(.slice b c d),(.slice e f g),(.slice i j l),(.slice m n o),(.slice p q r),(I s),(.slice t u v),(.slice x y z),(.slice A C D),(.slice E G H),(.slice J K L),(.slice M N Q),(I S),(I T)]⟩,⟨3,false,32,[(I U),(I V),(I X),(.slice Y Z d0),(.slice d1 d2 d3),(.slice d4 d5 d6)]⟩,⟨4,false,49,[(.slice d7 d8 d9),(.slice h k F),(.slice P W e5),(.slice e6 e7 e8),(.slice e9 g0 g1),(I g2),(.slice g3 g4 g5),(.slice g6 g7 g8),(.slice g9 j0 j1),(.slice j2 j3 j4),(.slice j5 j6 j7),(.slice j8 j9 l0),(I l1),(I l2)]⟩,⟨6,false,132,[(I l3),(I l4),(I l5),(.bool l6),(.bool l7),l8]⟩]
def bF.Jl(a:O)(b c:Nat)(d:O)(e f:Nat)(g:O)(i j:Nat)(l:O)(m n:Nat)(o:O)(p q:Nat)(r:Int)(s:O)(t u:Nat)(v:O)(x y:Nat)(z:O)(A C:Nat)(D:O)(E G:Nat)(H:O)(J K:Nat)(L:O)(M N:Nat)(Q S T U V:Int)(X:O)(Y Z:Nat)(d0:O)(d1 d2:Nat)(d3:O)(d4 d5:Nat)(d6:O)(d7 d8:Nat)(d9:O)(h k:Nat)(F:O)(P W:Nat)(e5:O)(e6 e7:Nat)(e8:O)(e9 g0:Nat)(g1:Int)(g2:O)(g3 g4:Nat)(g5:O)(g6 g7:Nat)(g8:O)(g9 j0:Nat)(j1:O)(j2 j3:Nat)(j4:O)(j5 j6:Nat)(j7:O)(j8 j9:Nat)(l0 l1 l2 l3 l4:Int)(l5 l6:Bool)(l7:Value):=Jt 27 f27 10 [vL 2,vL 3,vL 4,vL 6] [⟨2,false,49,[(.slice a b c),(.slice d e f),(.slice g i j),(.slice l m n),(.slice o p q),(I r),(.slice s t u),(.slice v x y),(.slice z A C),(.slice D E G),(.slice H J K),(.slice L M N),(I Q),(I S)]⟩,⟨3,false,32,[(I T),(I U),(I V),(.slice X Y Z),(.slice d0 d1 d2),(.slice d3 d4 d5)]⟩,⟨4,false,49,[(.slice d6 d7 d8),(.slice d9 h k),(.slice F P W),(.slice e5 e6 e7),(.slice e8 e9 g0),(I g1),(.slice g2 g3 g4),(.slice g5 g6 g7),(.slice g8 g9 j0),(.slice j1 j2 j3),(.slice j4 j5 j6),(.slice j7 j8 j9),(I l0),(I l1)]⟩,⟨6,false,132,[(I l2),(I l3),(I l4),(.bool l5),(.bool l6),l7]⟩]
def bF.cx:Pm:=([((false,4),[2,3,4,6,7],[2,3,4,6]),((false,10),[2,3,4,6],[2,3,4,6])],[(3,3,7),(3,9998,8),(10,0,12),(10,3,2),(11,4,10)])
theorem bF.J4.step{g7 d b:Bool}{n o y z L M N O c Q S T U V X Y Z d0 d1 d2 d3 d4 e f g i j l d5 d6 d7 d8 d9 k F W e3 e4 e5 e6 e7 e8 e9 g0 g1 g2 g3 g4 g5 g6 B:Nat}{m:Value}
  (h:(Br (g7=false) (∀g8,Ext B [49] w g8->(R (.tuple #[.agg #[.slice none 0 0,.slice none 0 0,.slice none 0 0,.slice none 0 0,.slice none 0 0,I 0,.slice none 0 0,.slice none 0 0,.slice none 0 0,.slice none 0 0,.slice none 0 0,.slice none 0 0,I 0,I 0],I 1]) g8)) (Pure P 60 #[.agg #[I u,I v,I x,.bool d,.bool b,m],.agg #[I p,I q,I t,.slice A e f,.slice C g i,.slice D j l]] w (Rb fun j5 a=>(Br (j5=false) (∀g9,Ext B [49] a g9->(R (.tuple #[.agg #[.slice none 0 0,.slice none 0 0,.slice none 0 0,.slice none 0 0,.slice none 0 0,I 0,.slice none 0 0,.slice none 0 0,.slice none 0 0,.slice none 0 0,.slice none 0 0,.slice none 0 0,I 0,I 0],I 1]) g9)) (Br (p<=r) (∀j0,Ext B [49] a j0->(R (.tuple #[.agg #[.slice none 0 0,.slice none 0 0,.slice none 0 0,.slice none 0 0,.slice none 0 0,I 0,.slice none 0 0,.slice none 0 0,.slice none 0 0,.slice none 0 0,.slice none 0 0,.slice none 0 0,I 0,I 0],I 5]) j0)) (Br (q<s) (∀j1,Ext B [49] a j1->(R (.tuple #[.agg #[.slice none 0 0,.slice none 0 0,.slice none 0 0,.slice none 0 0,.slice none 0 0,I 0,.slice none 0 0,.slice none 0 0,.slice none 0 0,.slice none 0 0,.slice none 0 0,.slice none 0 0,I 0,I 0],I 5]) j1)) (Bb d (Br ((c:Int)>0) (∀j2,Ext B [49] a j2->(R (.tuple #[.agg #[.slice none 0 0,.slice none 0 0,.slice none 0 0,.slice none 0 0,.slice none 0 0,I 0,.slice none 0 0,.slice none 0 0,.slice none 0 0,.slice none 0 0,.slice none 0 0,.slice none 0 0,I 0,I 0],I 11]) j2)) (Bb b (Br ((c:Int)=0) (∀j3,Ext B [49] a j3->(R (.tuple #[.agg #[.slice none 0 0,.slice none 0 0,.slice none 0 0,.slice none 0 0,.slice none 0 0,I 0,.slice none 0 0,.slice none 0 0,.slice none 0 0,.slice none 0 0,.slice none 0 0,.slice none 0 0,I 0,I 0],I 11]) j3)) (bF.Jl E n o G y z H L M J N O K c Q p0 A0 S T A1 U V A2 X Y A3 Z d0 A4 d1 d2 A5 d3 d4 r s p q t A e f C g i D j l A6 d5 d6 A7 d7 d8 A8 d9 k A9 F W C0 e3 e4 p1 C1 e5 e6 C2 e7 e8 C3 e9 g0 C4 g1 g2 C5 g3 g4 C6 g5 g6 p2 p3 u v x d b m B a R)) (bF.Jl E n o G y z H L M J N O K c Q p0 A0 S T A1 U V A2 X Y A3 Z d0 A4 d1 d2 A5 d3 d4 r s p q t A e f C g i D j l A6 d5 d6 A7 d7 d8 A8 d9 k A9 F W C0 e3 e4 p1 C1 e5 e6 C2 e7 e8 C3 e9 g0 C4 g1 g2 C5 g3 g4 C6 g5 g6 p2 p3 u v x d b m B a R))) (Bb b (Br ((c:Int)=0) (∀j4,Ext B [49] a j4->(R (.tuple #[.agg #[.slice none 0 0,.slice none 0 0,.slice none 0 0,.slice none 0 0,.slice none 0 0,I 0,.slice none 0 0,.slice none 0 0,.slice none 0 0,.slice none 0 0,.slice none 0 0,.slice none 0 0,I 0,I 0],I 11]) j4)) (bF.Jl E n o G y z H L M J N O K c Q p0 A0 S T A1 U V A2 X Y A3 Z d0 A4 d1 d2 A5 d3 d4 r s p q t A e f C g i D j l A6 d5 d6 A7 d7 d8 A8 d9 k A9 F W C0 e3 e4 p1 C1 e5 e6 C2 e7 e8 C3 e9 g0 C4 g1 g2 C5 g3 g4 C6 g5 g6 p2 p3 u v x d b m B a R)) (bF.Jl E n o G y z H L M J N O K c Q p0 A0 S T A1 U V A2 X Y A3 Z d0 A4 d1 d2 A5 d3 d4 r s p q t A e f C g i D j l A6 d5 d6 A7 d7 d8 A8 d9 k A9 F W C0 e3 e4 p1 C1 e5 e6 C2 e7 e8 C3 e9 g0 C4 g1 g2 C5 g3 g4 C6 g5 g6 p2 p3 u v x d b m B a R)))))))))):
  bF.J4 g7 E n o G y z H L M J N O K c Q p0 A0 S T A1 U V A2 X Y A3 Z d0 A4 d1 d2 A5 d3 d4 r s p q t A e f C g i D j l A6 d5 d6 A7 d7 d8 A8 d9 k A9 F W C0 e3 e4 p1 C1 e5 e6 C2 e7 e8 C3 e9 g0 C4 g1 g2 C5 g3 g4 C6 g5 g6 p2 p3 u v x d b m B w R:=
 jr bF.cx func27 h
theorem bF.Jl.step{d8 d9 k F W e3 e4 e5 e6 e7 e8 e9 g0 g1 g2 g3 g4 g5 g6 g7 g8 g9 j0 j1 j2 j3 j4 j5 j6 j7 j8 j9 l0 l1 l2 l3 l4 l5 l6 l7 l8 l9 m0 m1 m2 m3 m4 m5 m6 m7 B:Nat}{m8:Value}
  (h:(∀l:Nat,B<=l->w.heap[l]? =some (.cells [.slice A d8 d9,.slice C k F,.slice D W e3,.slice E e4 e5,.slice G e6 e7,I p,.slice H e8 e9,.slice J g0 g1,.slice K g2 g3,.slice A0 g4 g5,.slice A1 g6 g7,.slice A2 g8 g9,I q,I r].toArray 49 (0,0))->(∀c:Nat,B<=c->w.heap[c]? =some (.cells [I s,I t,I u,.slice A3 j0 j1,.slice A4 j2 j3,.slice A5 j4 j5].toArray 32 (0,0))->(∀b:Nat,B<=b->w.heap[b]? =some (.cells [.slice A6 j6 j7,.slice A7 j8 j9,.slice A8 l0 l1,.slice A9 l2 l3,.slice C0 l4 l5,I v,.slice C1 l6 l7,.slice C2 l8 l9,.slice C3 m0 m1,.slice C4 m2 m3,.slice C5 m4 m5,.slice C6 m6 m7,I x,I p0].toArray 49 (0,0))->(∀m:Nat,B<=m->w.heap[m]? =some (.cells [I p1,I p2,I p3,.bool Q,.bool S,m8].toArray 132 (0,0))->(∃m9 n0 n1 n2 n3 n4 n5 n6 n7 n8 n9 o0 o1 o2 o3 o4 o5 o6 o7 o8 o9 r0 r1 r2 r3 r4 r5 r6 r7 r8 r9 s0 s1 s2 s3 s4,aa w (⟨l,0,none⟩:Addr) [.slice m9 n0 n1,.slice n2 n3 n4,.slice n5 n6 n7,.slice n8 n9 o0,.slice o1 o2 o3,I o4,.slice o5 o6 o7,.slice o8 o9 r0,.slice r1 r2 r3,.slice r4 r5 r6,.slice r7 r8 r9,.slice s0 s1 s2,I s3,I s4]/\(Pure P 61 #[.agg #[.slice m9 n0 n1,.slice n2 n3 n4,.slice n5 n6 n7,.slice n8 n9 o0,.slice o1 o2 o3,I o4,.slice o5 o6 o7,.slice o8 o9 r0,.slice r1 r2 r3,.slice r4 r5 r6,.slice r7 r8 r9,.slice s0 s1 s2,I s3,I s4]] w fun c7 c8=>∃s5 s6 s7 s8 s9 t0 t1 t2 t3 t4 t5 t6 t7 t8 t9 v0 v1 v2 v3 v4 v5 v6 v7 v8 v9 x0 x1 x2 x3 x4 x5 x6 x7 x8 x9 y0,c7= .agg #[.slice s5 s6 s7,.slice s8 s9 t0,.slice t1 t2 t3,.slice t4 t5 t6,.slice t7 t8 t9,I v0,.slice v1 v2 v3,.slice v4 v5 v6,.slice v7 v8 v9,.slice x0 x1 x2,.slice x3 x4 x5,.slice x6 x7 x8,I x9,I y0]/\(ae P (Instr.box 139 (.agg #[.slice s5 s6 s7,.slice s8 s9 t0,.slice t1 t2 t3,.slice t4 t5 t6,.slice t7 t8 t9,I v0,.slice v1 v2 v3,.slice v4 v5 v6,.slice v7 v8 v9,.slice x0 x1 x2,.slice x3 x4 x5,.slice x6 x7 x8,I x9,I y0])) B [] c8 fun c9 e=>∃(a:Addr),c9= .pointer (some a)/\(∃(n:Nat)(y1 y2:Array Value),aa e ((⟨m,0,none⟩:Addr).add 5) [(.func (.func n) y1 y2)]/\(∃y3 y4 y5 y6 y7 y8 y9 z0 z1 z2 z3 z4,aa e (⟨c,0,none⟩:Addr) [I y3,I y4,I y5,.slice y6 y7 y8,.slice y9 z0 z1,.slice z2 z3 z4]/\(ay P n=true/\(cI P n ((Array.toList y1)++([(.pointer (some a)),.agg #[I y3,I y4,I y5,.slice y6 y7 y8,.slice y9 z0 z1,.slice z2 z3 z4]]:List Value)++(Array.toList y2)).toArray B e fun p4 d=>PG [] e d/\∃o,p4=I o/\(Br (o≠0) (∃(y:List Value)(z:Nat),B<=(⟨b,0,none⟩:Addr).block/\(⟨b,0,none⟩:Addr).spot=none/\d.heap[(⟨b,0,none⟩:Addr).block]? =some (.cells y.toArray z (0,0))/\(⟨b,0,none⟩:Addr).off+14<=y.length/\hasType z []=false/\∀L,aL d L (⟨b,0,none⟩:Addr).block z (setCells y (⟨b,0,none⟩:Addr).off [.slice none 0 0,.slice none 0 0,.slice none 0 0,.slice none 0 0,.slice none 0 0,I 0,.slice none 0 0,.slice none 0 0,.slice none 0 0,.slice none 0 0,.slice none 0 0,.slice none 0 0,I 0,I 0])->(∃z5 z6 z7 z8 z9 D0 D1 D2 D3 D4 D5 D6 D7 D8 D9 E0 E1 E2 E3 E4 E5 E6 E7 E8 E9 G0 G1 G2 G3 G4 G5 G6 G7 G8 G9 H0,aa L (⟨b,0,none⟩:Addr) [.slice z5 z6 z7,.slice z8 z9 D0,.slice D1 D2 D3,.slice D4 D5 D6,.slice D7 D8 D9,I E0,.slice E1 E2 E3,.slice E4 E5 E6,.slice E7 E8 E9,.slice G0 G1 G2,.slice G3 G4 G5,.slice G6 G7 G8,I G9,I H0]/\(R (.tuple #[.agg #[.slice z5 z6 z7,.slice z8 z9 D0,.slice D1 D2 D3,.slice D4 D5 D6,.slice D7 D8 D9,I E0,.slice E1 E2 E3,.slice E4 E5 E6,.slice E7 E8 E9,.slice G0 G1 G2,.slice G3 G4 G5,.slice G6 G7 G8,I G9,I H0],I o]) L))) (∃M,aa d ((⟨c,0,none⟩:Addr).add 0) [I M]/\((∀f,Ext B [] d f->(∃H1,aa f ((⟨c,0,none⟩:Addr).add 1) [I H1]/\(∃(N:List Value)(O:Nat),B<=((a.add 0).add 12).block/\((a.add 0).add 12).spot=none/\f.heap[((a.add 0).add 12).block]? =some (.cells N.toArray O (0,0))/\((a.add 0).add 12).off+1<=N.length/\hasType O []=false/\∀T,aL f T ((a.add 0).add 12).block O (setCells N ((a.add 0).add 12).off [I M])->(∃(U:List Value)(V:Nat),B<=((a.add 0).add 13).block/\((a.add 0).add 13).spot=none/\T.heap[((a.add 0).add 13).block]? =some (.cells U.toArray V (0,0))/\((a.add 0).add 13).off+1<=U.length/\hasType V []=false/\∀g,aL T g ((a.add 0).add 13).block V (setCells U ((a.add 0).add 13).off [I H1])->(∃H2 H3 H4 H5 H6 H7 H8 H9 J0 J1 J2 J3 J4 J5 J6 J7 J8 J9 K0 K1 K2 K3 K4 K5 K6 K7 K8 K9 N0 N1 N2 N3 N4 N5 N6 N7,aa g (a.add 0) [.slice H2 H3 H4,.slice H5 H6 H7,.slice H8 H9 J0,.slice J1 J2 J3,.slice J4 J5 J6,I J7,.slice J8 J9 K0,.slice K1 K2 K3,.slice K4 K5 K6,.slice K7 K8 K9,.slice N0 N1 N2,.slice N3 N4 N5,I N6,I N7]/\(∃(X:List Value)(Y:Nat),B<=(⟨b,0,none⟩:Addr).block/\(⟨b,0,none⟩:Addr).spot=none/\g.heap[(⟨b,0,none⟩:Addr).block]? =some (.cells X.toArray Y (0,0))/\(⟨b,0,none⟩:Addr).off+14<=X.length/\hasType Y []=false/\∀Z,aL g Z (⟨b,0,none⟩:Addr).block Y (setCells X (⟨b,0,none⟩:Addr).off [.slice H2 H3 H4,.slice H5 H6 H7,.slice H8 H9 J0,.slice J1 J2 J3,.slice J4 J5 J6,I J7,.slice J8 J9 K0,.slice K1 K2 K3,.slice K4 K5 K6,.slice K7 K8 K9,.slice N0 N1 N2,.slice N3 N4 N5,I N6,I N7])->(∃N8 N9 O0 O1 O2 O3 O4 O5 O6 O7 O8 O9 Q0 Q1 Q2 Q3 Q4 Q5 Q6 Q7 Q8 Q9 S0 S1 S2 S3 S4 S5 S6 S7 S8 S9 T0 T1 T2 T3,aa Z (⟨b,0,none⟩:Addr) [.slice N8 N9 O0,.slice O1 O2 O3,.slice O4 O5 O6,.slice O7 O8 O9,.slice Q0 Q1 Q2,I Q3,.slice Q4 Q5 Q6,.slice Q7 Q8 Q9,.slice S0 S1 S2,.slice S3 S4 S5,.slice S6 S7 S8,.slice S9 T0 T1,I T2,I T3]/\(R (.tuple #[.agg #[.slice N8 N9 O0,.slice O1 O2 O3,.slice O4 O5 O6,.slice O7 O8 O9,.slice Q0 Q1 Q2,I Q3,.slice Q4 Q5 Q6,.slice Q7 Q8 Q9,.slice S0 S1 S2,.slice S3 S4 S5,.slice S6 S7 S8,.slice S9 T0 T1,I T2,I T3],I 0]) Z))))))))/\(∀d0,Ext B [] d d0->(∃(d1:List Value)(d2:Nat),B<=((a.add 0).add 12).block/\((a.add 0).add 12).spot=none/\d0.heap[((a.add 0).add 12).block]? =some (.cells d1.toArray d2 (0,0))/\((a.add 0).add 12).off+1<=d1.length/\hasType d2 []=false/\∀i,aL d0 i ((a.add 0).add 12).block d2 (setCells d1 ((a.add 0).add 12).off [I M])->(∃T4,aa i ((⟨c,0,none⟩:Addr).add 1) [I T4]/\(∃(d3:List Value)(d4:Nat),B<=((a.add 0).add 13).block/\((a.add 0).add 13).spot=none/\i.heap[((a.add 0).add 13).block]? =some (.cells d3.toArray d4 (0,0))/\((a.add 0).add 13).off+1<=d3.length/\hasType d4 []=false/\∀j,aL i j ((a.add 0).add 13).block d4 (setCells d3 ((a.add 0).add 13).off [I T4])->(∃T5 T6 T7 T8 T9 V0 V1 V2 V3 V4 V5 V6 V7 V8 V9 X0 X1 X2 X3 X4 X5 X6 X7 X8 X9 Y0 Y1 Y2 Y3 Y4 Y5 Y6 Y7 Y8 Y9 Z0,aa j (a.add 0) [.slice T5 T6 T7,.slice T8 T9 V0,.slice V1 V2 V3,.slice V4 V5 V6,.slice V7 V8 V9,I X0,.slice X1 X2 X3,.slice X4 X5 X6,.slice X7 X8 X9,.slice Y0 Y1 Y2,.slice Y3 Y4 Y5,.slice Y6 Y7 Y8,I Y9,I Z0]/\(∃(d5:List Value)(d6:Nat),B<=(⟨b,0,none⟩:Addr).block/\(⟨b,0,none⟩:Addr).spot=none/\j.heap[(⟨b,0,none⟩:Addr).block]? =some (.cells d5.toArray d6 (0,0))/\(⟨b,0,none⟩:Addr).off+14<=d5.length/\hasType d6 []=false/\∀d7,aL j d7 (⟨b,0,none⟩:Addr).block d6 (setCells d5 (⟨b,0,none⟩:Addr).off [.slice T5 T6 T7,.slice T8 T9 V0,.slice V1 V2 V3,.slice V4 V5 V6,.slice V7 V8 V9,I X0,.slice X1 X2 X3,.slice X4 X5 X6,.slice X7 X8 X9,.slice Y0 Y1 Y2,.slice Y3 Y4 Y5,.slice Y6 Y7 Y8,I Y9,I Z0])->(∃Z1 Z2 Z3 Z4 Z5 Z6 Z7 Z8 Z9 a0 a1 a2 a3 a4 a5 a6 a7 a8 a9 b0 b1 b2 b3 b4 b5 b6 b7 b8 b9 c0 c1 c2 c3 c4 c5 c6,aa d7 (⟨b,0,none⟩:Addr) [.slice Z1 Z2 Z3,.slice Z4 Z5 Z6,.slice Z7 Z8 Z9,.slice a0 a1 a2,.slice a3 a4 a5,I a6,.slice a7 a8 a9,.slice b0 b1 b2,.slice b3 b4 b5,.slice b6 b7 b8,.slice b9 c0 c1,.slice c2 c3 c4,I c5,I c6]/\(R (.tuple #[.agg #[.slice Z1 Z2 Z3,.slice Z4 Z5 Z6,.slice Z7 Z8 Z9,.slice a0 a1 a2,.slice a3 a4 a5,I a6,.slice a7 a8 a9,.slice b0 b1 b2,.slice b3 b4 b5,.slice b6 b7 b8,.slice b9 c0 c1,.slice c2 c3 c4,I c5,I c6],I 0]) d7))))))))))))))))))))))):
  bF.Jl A d8 d9 C k F D W e3 E e4 e5 G e6 e7 p H e8 e9 J g0 g1 K g2 g3 A0 g4 g5 A1 g6 g7 A2 g8 g9 q r s t u A3 j0 j1 A4 j2 j3 A5 j4 j5 A6 j6 j7 A7 j8 j9 A8 l0 l1 A9 l2 l3 C0 l4 l5 v C1 l6 l7 C2 l8 l9 C3 m0 m1 C4 m2 m3 C5 m4 m5 C6 m6 m7 x p0 p1 p2 p3 Q S m8 B w R:=
 jr bF.cx func27 h
theorem bF.vc
  (h:(Br (p<1) (∀y,Ext w.heap.size [] w y->(R (.tuple #[.agg #[.slice none 0 0,.slice none 0 0,.slice none 0 0,.slice none 0 0,.slice none 0 0,I 0,.slice none 0 0,.slice none 0 0,.slice none 0 0,.slice none 0 0,.slice none 0 0,.slice none 0 0,I 0,I 0],I 2]) y)) (Br (p>1073741824) (∀z,Ext w.heap.size [] w z->(R (.tuple #[.agg #[.slice none 0 0,.slice none 0 0,.slice none 0 0,.slice none 0 0,.slice none 0 0,I 0,.slice none 0 0,.slice none 0 0,.slice none 0 0,.slice none 0 0,.slice none 0 0,.slice none 0 0,I 0,I 0],I 2]) z)) (Br (q<0) (∀L,Ext w.heap.size [] w L->(R (.tuple #[.agg #[.slice none 0 0,.slice none 0 0,.slice none 0 0,.slice none 0 0,.slice none 0 0,I 0,.slice none 0 0,.slice none 0 0,.slice none 0 0,.slice none 0 0,.slice none 0 0,.slice none 0 0,I 0,I 0],I 2]) L)) (Br (q>1073741824) (∀M,Ext w.heap.size [] w M->(R (.tuple #[.agg #[.slice none 0 0,.slice none 0 0,.slice none 0 0,.slice none 0 0,.slice none 0 0,I 0,.slice none 0 0,.slice none 0 0,.slice none 0 0,.slice none 0 0,.slice none 0 0,.slice none 0 0,I 0,I 0],I 2]) M)) (∀N,Ext w.heap.size [] w N->(Pure P 59 #[] N fun Z k=>∃(O:Option Nat),Z= .map O/\(∀v,Ext w.heap.size [] k v->(ae P (Instr.lookup 134 (.map O) (I r) true) v.heap.size [49,32,49] v fun d1 d2=>∃(Q S T:Int)(U V:Bool)(x:Value)(X:Bool),d1= .tuple #[.agg #[I Q,I S,I T,.bool U,.bool V,x],.bool X]/\(JG x (∀Y,Ext w.heap.size [132] d2 Y->(bF.J4 X A a b C c d D e f E g i G j l s H m n J o a0 K a1 a2 A0 a3 a4 A1 a5 a6 A2 a7 a8 t u p q r A3 a9 b0 A4 b1 b2 A5 b3 b4 none 0 0 none 0 0 none 0 0 none 0 0 none 0 0 (0:Int) none 0 0 none 0 0 none 0 0 none 0 0 none 0 0 none 0 0 (0:Int) (0:Int) Q S T U V x w.heap.size Y R)))))))))))):
  Pure P 27 #[.agg #[.slice A a b,.slice C c d,.slice D e f,.slice E g i,.slice G j l,I s,.slice H m n,.slice J o a0,.slice K a1 a2,.slice A0 a3 a4,.slice A1 a5 a6,.slice A2 a7 a8,I t,I u],.agg #[I p,I q,I r,.slice A3 a9 b0,.slice A4 b1 b2,.slice A5 b3 b4]] w R:=
 pr bF.cx func27 h

def fI.cx:Pm:=([],[(1,6,7)])
theorem fI.vc
  (h:((∀u,Ext w.heap.size [] w u->(Pure P 17 #[.agg #[.slice D e f,.slice E g i,.slice G j l,.slice H m n,.slice J o a0,I p,.slice K a1 a2,.slice A0 a3 a4,.slice A1 a5 a6,.slice A2 a7 a8,.slice A a b,.slice C c d,I q,I r]] u (Rt fun x v=>(ae P (Instr.buildSlice 28 2 #[(0,(I 2)),(1,(I 3))]) v.heap.size [49] v (Rs fun y z L M=>(Pure P 83 #[.slice A a b,.slice C c d,.string x,.agg #[.slice y z L,I 1000,I 0],I s] M (Rb fun N O=>(R (.bool N) O))))))))/\(∀t,Ext w.heap.size [] w t->(ae P (Instr.buildSlice 28 2 #[(0,(I 2)),(1,(I 3))]) t.heap.size [49] t (Rs fun Q S T U=>(Pure P 17 #[.agg #[.slice D e f,.slice E g i,.slice G j l,.slice H m n,.slice J o a0,I p,.slice K a1 a2,.slice A0 a3 a4,.slice A1 a5 a6,.slice A2 a7 a8,.slice A a b,.slice C c d,I q,I r]] U (Rt fun V X=>(Pure P 83 #[.slice A a b,.slice C c d,.string V,.agg #[.slice Q S T,I 1000,I 0],I s] X (Rb fun Y Z=>(R (.bool Y) Z)))))))))):
  Pure P 36 #[.agg #[.slice D e f,.slice E g i,.slice G j l,.slice H m n,.slice J o a0,I p,.slice K a1 a2,.slice A0 a3 a4,.slice A1 a5 a6,.slice A2 a7 a8,.slice A a b,.slice C c d,I q,I r],I s] w R:=
 pr fI.cx func36 h

def sM.cx:Pm:=([],[])
theorem sM.vc
  (h:(∀a,Ext w.heap.size [] w a->(R (.agg #[.slice none 0 0,.slice none 0 0,.slice none 0 0,.slice none 0 0,.slice none 0 0,I 0,.slice none 0 0,.slice none 0 0,.slice none 0 0,.slice none 0 0,.slice none 0 0,.slice none 0 0,I 0,I 0]) a))):
  Pure P 37 #[] w R:=
 pr sM.cx func37 h

def pH.cx:Pm:=([],[])
theorem pH.vc{i:Addr}
  (h:(∀g,Ext w.heap.size [] w g->(∃j,aa g i [I j]/\(R (.bool (decide (p>j))) g)))):
  Pure P 58 #[.agg #[I q,I p,I r,.slice A a b,.slice C c d,.slice D e f],(.pointer (some i))] w R:=
 pr pH.cx func58 h

def pI.cx:Pm:=([],[(1,0,2),(1,2,2),(1,4,2),(1,6,2),(1,8,2),(1,10,2),(1,12,2),(1,14,2),(1,16,2),(1,18,2),(1,20,2),(1,22,2),(1,24,2)])
theorem pI.vc
  (h:(ae P (Instr.makeMap 134 none) w.heap.size [] w fun b c=>∃(a:Option Nat),b= .map a/\(dZ P (Instr.mapUpdate 134 (.map a) (I 1) (.agg #[I 3,I 3,I 1,.bool true,.bool false,(.func (.func 111) #[] #[])])) w.heap.size [] c fun d=>(dZ P (Instr.mapUpdate 134 (.map a) (I 2) (.agg #[I 1,I 5,I 1,.bool true,.bool false,(.func (.func 112) #[] #[])])) w.heap.size [] d fun e=>(dZ P (Instr.mapUpdate 134 (.map a) (I 3) (.agg #[I 3,(I (-1:Int)),I 3,.bool true,.bool false,(.func (.func 113) #[] #[])])) w.heap.size [] e fun f=>(dZ P (Instr.mapUpdate 134 (.map a) (I 4) (.agg #[I 1,I 5,I 1,.bool false,.bool false,(.func (.func 114) #[] #[])])) w.heap.size [] f fun g=>(dZ P (Instr.mapUpdate 134 (.map a) (I 5) (.agg #[I 5,I 2,I 1,.bool false,.bool false,(.func (.func 115) #[] #[])])) w.heap.size [] g fun i=>(dZ P (Instr.mapUpdate 134 (.map a) (I 6) (.agg #[I 2,I 0,I 2,.bool false,.bool false,(.func (.func 116) #[] #[])])) w.heap.size [] i fun j=>(dZ P (Instr.mapUpdate 134 (.map a) (I 7) (.agg #[(I (-1:Int)),I 0,I 0,.bool true,.bool false,(.func (.func 117) #[] #[])])) w.heap.size [] j fun l=>(dZ P (Instr.mapUpdate 134 (.map a) (I 8) (.agg #[I 1,I 0,I 1,.bool false,.bool true,(.func (.func 118) #[] #[])])) w.heap.size [] l fun m=>(dZ P (Instr.mapUpdate 134 (.map a) (I 9) (.agg #[I 0,I 0,I 0,.bool false,.bool true,(.func (.func 119) #[] #[])])) w.heap.size [] m fun n=>(dZ P (Instr.mapUpdate 134 (.map a) (I 10) (.agg #[I 1,I 1,I 0,.bool false,.bool false,(.func (.func 120) #[] #[])])) w.heap.size [] n fun o=>(dZ P (Instr.mapUpdate 134 (.map a) (I 11) (.agg #[I 1,I 0,I 0,.bool false,.bool false,(.func (.func 121) #[] #[])])) w.heap.size [] o fun p=>(dZ P (Instr.mapUpdate 134 (.map a) (I 12) (.agg #[I 0,I 0,I 0,.bool false,.bool true,(.func (.func 122) #[] #[])])) w.heap.size [] p fun q=>(R (.map a) q))))))))))))))):
  Pure P 59 #[] w R:=
 pr pI.cx func59 h

def oB.cx:Pm:=([],[])
theorem oB.vc{y WL WM z F I:Int}{T U:Bool}{V k W WN X WO Y:Nat}{Z adt:Array Value}{adu adv adw:O}{w:World}{R:Kt}
  (h:(∀w1,Ext w.heap.size [] w w1->(Pure P 123 #[(.int .i64 y),(.int .i64 (k:Int))] w1 (Rb fun b2 w4=>(Bb b2 (Pure P 123 #[(.int .i64 WL),(.int .i64 (WN:Int))] w4 (Rb fun b5 w7=>(Bb b5 (Pure P 123 #[(.int .i64 WM),(.int .i64 (WO:Int))] w7 (Rb fun b8 jS=>(Bb b8 (Br ((y:Int)≥(0:Int)) (R (.bool true) jS) ((0<=(k:Int)/\0<(3:Int))/\(R (.bool (decide ((((k:Int) % (3:Int)):Int)=(0:Int)))) jS))) (R (.bool false) jS)))) (R (.bool false) w7)))) (R (.bool false) w4)))))):
  Pure P 60 #[(.agg #[(.int .i64 y),(.int .i64 WL),(.int .i64 WM),(.bool T),(.bool U),(.func (.func V) Z adt)]),(.agg #[(.int .i64 z),(.int .i64 F),(.int .i64 I),(.slice adu k W),(.slice adv WN X),(.slice adw WO Y)])] w R:=
 pr oB.cx Tryz.func60 h

def cV.L4(a b:Int)(c:O)(d e:Nat)(f:O)(g i:Nat)(j:O)(l m:Nat)(n:O)(o p:Nat)(q:O)(r s:Nat)(t:Int)(u:O)(v x:Nat)(y:O)(z A:Nat)(C:O)(D E:Nat)(G:O)(H J:Nat)(K:O)(L M:Nat)(N:O)(Q S:Nat)(T U:Int)(V:O)(X Y:Nat)(Z:O)(d0 d1:Nat)(d2:O)(d3 d4:Nat)(d5:O)(d6 d7:Nat)(d8:O)(d9 h:Nat)(k:Int)(F:O)(P W:Nat)(e5:O)(e6 e7:Nat)(e8:O)(e9 g0:Nat)(g1:O)(g2 g3:Nat)(g4:O)(g5 g6:Nat)(g7:O)(g8 g9:Nat)(j0 j1:Int):=Lt 61 f61 4 [vL 1,vL 2,(3,.loc 1 0),vI 38 a,vI 39 b] [⟨1,false,49,[(.slice c d e),(.slice f g i),(.slice j l m),(.slice n o p),(.slice q r s),(I t),(.slice u v x),(.slice y z A),(.slice C D E),(.slice G H J),(.slice K L M),(.slice N Q S),(I T),(I U)]⟩,⟨2,false,49,[(.slice V X Y),(.slice Z d0 d1),(.slice d2 d3 d4),(.slice d5 d6 d7),(.slice d8 d9 h),(I k),(.slice F P W),(.slice e5 e6 e7),(.slice e8 e9 g0),(.slice g1 g2 g3),(.slice g4 g5 g6),(.slice g7 g8 g9),(I j0),(I j1)]⟩]
def cV.cx:Pm:=([((true,4),[1,2,3,38,39],[1,2])],[])
theorem cV.L4.step{c d e f a g i j l m n o y z L M N O Q S T U V X Y Z d0 d1 d2 d3 d4 d5 d6 d7 d8 d9 k F W e3 e4 e5 e6 e7 B:Nat}
  (h:(Br (p<t) (Ix p a A fun j1=>(∃g0 g1 g2,aa w ((j1.add ((p).toNat*7)).add 2) [.slice g0 g1 g2]/\(∀g3,Ext B [] w g3->(Pure P 127 #[.slice g0 g1 g2] g3 (Rs fun j2 j3 j4 g4=>(Ix p a A fun b=>(∃(e8:List Value)(e9:Nat),B<=((b.add ((p).toNat*7)).add 2).block/\((b.add ((p).toNat*7)).add 2).spot=none/\g4.heap[((b.add ((p).toNat*7)).add 2).block]? =some (.cells e8.toArray e9 (0,0))/\((b.add ((p).toNat*7)).add 2).off+1<=e8.length/\hasType e9 [⟨1,false,49,[.slice C c d,.slice D e f,.slice A a g,.slice E i j,.slice G l m,I q,.slice H n o,.slice J y z,.slice K L M,.slice A0 N O,.slice A1 Q S,.slice A2 T U,I r,I s]⟩,⟨2,false,49,[.slice A3 V X,.slice A4 Y Z,.slice A5 d0 d1,.slice A6 d2 d3,.slice A7 d4 d5,I u,.slice A8 d6 d7,.slice A9 d8 d9,.slice C0 k F,.slice C1 W e3,.slice C2 e4 e5,.slice C3 e6 e7,I v,I x]⟩]=false/\∀g5,aL g4 g5 ((b.add ((p).toNat*7)).add 2).block e9 (setCells e8 ((b.add ((p).toNat*7)).add 2).off [.slice j2 j3 j4])->(aU .i64 (p+1)/\(cV.L4 t (p+1) C c d D e f A a g E i j G l m q H n o J y z K L M A0 N O A1 Q S A2 T U r s A3 V X A4 Y Z A5 d0 d1 A6 d2 d3 A7 d4 d5 u A8 d6 d7 A9 d8 d9 C0 k F C1 W e3 C2 e4 e5 C3 e6 e7 v x B g5 R))))))))) (∀g6,Ext B [] w g6->(Pure P 12 #[.slice E i j] g6 (Rs fun j5 j6 j7 j8=>(Pure P 128 #[.slice G l m] j8 (Rs fun j9 l0 l1 l2=>(∀g7,Ext B [49] l2 g7->(Pure P 129 #[.slice H n o] g7 (Rs fun l3 l4 l5 l6=>(Pure P 33 #[.slice J y z] l6 (Rs fun l7 l8 l9 m0=>(∀g8,Ext B [49] m0 g8->(Pure P 31 #[.slice K L M] g8 (Rs fun m1 m2 m3 m4=>(Pure P 32 #[.slice A0 N O] m4 (Rs fun m5 m6 m7 m8=>(∀g9,Ext B [49] m8 g9->(Pure P 130 #[.slice A1 Q S] g9 (Rs fun m9 n0 n1 n2=>(Pure P 131 #[.slice A2 T U] n2 (Rs fun n3 n4 n5 n6=>(∀j0,Ext B [49] n6 j0->(R (.agg #[.slice C c d,.slice D e f,.slice A a g,.slice j5 j6 j7,.slice j9 l0 l1,I q,.slice l3 l4 l5,.slice l7 l8 l9,.slice m1 m2 m3,.slice m5 m6 m7,.slice m9 n0 n1,.slice n3 n4 n5,I r,I s]) j0)))))))))))))))))))))))):
  cV.L4 t p C c d D e f A a g E i j G l m q H n o J y z K L M A0 N O A1 Q S A2 T U r s A3 V X A4 Y Z A5 d0 d1 A6 d2 d3 A7 d4 d5 u A8 d6 d7 A9 d8 d9 C0 k F C1 W e3 C2 e4 e5 C3 e6 e7 v x B w R:=
 lr cV.cx func61 h
theorem cV.vc
  (h:(∀s,Ext w.heap.size [] w s->(Pure P 124 #[.slice A a b] s (Rs fun v x y z=>(Pure P 125 #[.slice C c d] z (Rs fun L M N O=>(Pure P 126 #[.slice D e f] O (Rs fun Q t S T=>(∀u,Ext w.heap.size [49] T u->(cV.L4 (t:Int) (0:Int) v x y L M N Q t S E g i G j l p H m n J o a0 K a1 a2 A0 a3 a4 A1 a5 a6 A2 a7 a8 q r none 0 0 none 0 0 none 0 0 none 0 0 none 0 0 (0:Int) none 0 0 none 0 0 none 0 0 none 0 0 none 0 0 none 0 0 (0:Int) (0:Int) w.heap.size u R)))))))))):
  Pure P 61 #[.agg #[.slice A a b,.slice C c d,.slice D e f,.slice E g i,.slice G j l,I p,.slice H m n,.slice J o a0,.slice K a1 a2,.slice A0 a3 a4,.slice A1 a5 a6,.slice A2 a7 a8,I q,I r]] w R:=
 pr cV.cx func61 h

def oC.cx:Pm:=([],[(2,34,7),(2,35,2),(2,9999,3)])
theorem oC.u7{g:Addr}(hB:B<=w.heap.size)
  (h:(∀i,Ext B [] w i->(∃o s t,aa i ((((g.add 0).add 0).add 0).add 0) [.slice o s t]/\(Ix (0:Int) a A fun T=>(∃u,aa i (T.add (((0:Int)).toNat*1)) [I u]/\(Ix (1:Int) a A fun U=>(∃v,aa i (U.add (((1:Int)).toNat*1)) [I v]/\(Ix (2:Int) a A fun V=>(∃x,aa i (V.add (((2:Int)).toNat*1)) [I x]/\(Ix (0:Int) c D fun X=>(∃y,aa i (X.add (((0:Int)).toNat*1)) [.string y]/\(Ix (0:Int) b C fun Y=>(∃z,aa i (Y.add (((0:Int)).toNat*1)) [.string z]/\(Ix (1:Int) b C fun Z=>(∃E,aa i (Z.add (((1:Int)).toNat*1)) [.string E]/\(Ix (2:Int) b C fun d0=>(∃G,aa i (d0.add (((2:Int)).toNat*1)) [.string G]/\(∀j,Ext B [] i j->(ae P (Instr.buildSlice 33 1 #[(0,(.agg #[I u,I v,I x,.string y,.string z,.string E,.string G]))]) j.heap.size [32] j (Rs fun d1 d2 d3 d4=>(ae P (Builtin.append_ #[33,33] 33 #[.slice o s t,.slice d1 d2 d3]) B [32] d4 (Rs fun d5 d6 d7 H=>(∃(l:List Value)(m:Nat),B<=((((g.add 0).add 0).add 0).add 0).block/\((((g.add 0).add 0).add 0).add 0).spot=none/\H.heap[((((g.add 0).add 0).add 0).add 0).block]? =some (.cells l.toArray m (0,0))/\((((g.add 0).add 0).add 0).add 0).off+1<=l.length/\hasType m [⟨3,false,32,[I p,I q,I r,.slice A a d,.slice C b e,.slice D c f]⟩]=false/\∀n,aL H n ((((g.add 0).add 0).add 0).add 0).block m (setCells l ((((g.add 0).add 0).add 0).add 0).off [.slice d5 d6 d7])->(∃J K L M N O,aa n (((g.add 0).add 0).add 0) [.slice J K L,.slice M N O]/\(Pure P 97 #[.agg #[.slice J K L,.slice M N O]] n (Ri fun Q S=>(Br (Q≠0) (R (I Q) S) (Pure P 167 #[(.pointer (some g))] S (Ri fun d8 d9=>(R (I d8) d9)))))))))))))))))))))))))))))):
  cI P 111 #[(.pointer (some g)),.agg #[I p,I q,I r,.slice A a d,.slice C b e,.slice D c f]] B w R:=
 pb oC.cx func111 h hB

def qG.cx:Pm:=([],[(4,35,7),(4,36,2)])
theorem qG.u7{g:Addr}(hB:B<=w.heap.size)
  (h:(∀j,Ext B [] w j->(∃s t u,aa j (((g.add 0).add 0).add 2) [.slice s t u]/\(Pure P 168 #[.slice s t u,(.func (.func 169) #[] #[])] j (Rb fun Y i=>(Bb Y (R (I 10) i) (∃v x y,aa i ((((g.add 0).add 0).add 0).add 1) [.slice v x y]/\(Ix (0:Int) b C fun Z=>(∃z,aa i (Z.add (((0:Int)).toNat*1)) [I z]/\(Ix (0:Int) c D fun a9=>(∃E,aa i (a9.add (((0:Int)).toNat*1)) [.string E]/\(Ix (0:Int) a A fun d1=>(∃G,aa i (d1.add (((0:Int)).toNat*1)) [.string G]/\(Ix (1:Int) a A fun d2=>(∃H,aa i (d2.add (((1:Int)).toNat*1)) [.string H]/\(Ix (2:Int) a A fun d3=>(∃J,aa i (d3.add (((2:Int)).toNat*1)) [.string J]/\(Ix (3:Int) a A fun d4=>(∃K,aa i (d4.add (((3:Int)).toNat*1)) [.string K]/\(Ix (4:Int) a A fun d5=>(∃L,aa i (d5.add (((4:Int)).toNat*1)) [.string L]/\(∀l,Ext B [] i l->(ae P (Instr.buildSlice 34 1 #[(0,(.agg #[I z,.string E,.string G,.string H,.string J,.string K,.string L]))]) l.heap.size [32] l (Rs fun d6 d7 d8 d9=>(ae P (Builtin.append_ #[34,34] 34 #[.slice v x y,.slice d6 d7 d8]) B [32] d9 (Rs fun k F W M=>(∃(m:List Value)(n:Nat),B<=((((g.add 0).add 0).add 0).add 1).block/\((((g.add 0).add 0).add 0).add 1).spot=none/\M.heap[((((g.add 0).add 0).add 0).add 1).block]? =some (.cells m.toArray n (0,0))/\((((g.add 0).add 0).add 0).add 1).off+1<=m.length/\hasType n [⟨3,false,32,[I p,I q,I r,.slice C b d,.slice A a e,.slice D c f]⟩]=false/\∀o,aL M o ((((g.add 0).add 0).add 0).add 1).block n (setCells m ((((g.add 0).add 0).add 0).add 1).off [.slice k F W])->(∃N O Q S T U,aa o (((g.add 0).add 0).add 0) [.slice N O Q,.slice S T U]/\(Pure P 97 #[.agg #[.slice N O Q,.slice S T U]] o (Ri fun V X=>(Br (V≠0) (R (I V) X) (Pure P 167 #[(.pointer (some g))] X (Ri fun e3 e4=>(R (I e3) e4)))))))))))))))))))))))))))))))))):
  cI P 112 #[(.pointer (some g)),.agg #[I p,I q,I r,.slice C b d,.slice A a e,.slice D c f]] B w R:=
 pb qG.cx func112 h hB

def qH.cx:Pm:=([],[(1,35,7),(1,36,2),(1,9999,3)])
theorem qH.u7{g:Addr}(hB:B<=w.heap.size)
  (h:(∀i,Ext B [] w i->(∃n o s,aa i (((g.add 0).add 0).add 2) [.slice n o s]/\(Ix (0:Int) b C fun X=>(∃t,aa i (X.add (((0:Int)).toNat*1)) [.string t]/\(Ix (0:Int) a A fun Y=>(∃u,aa i (Y.add (((0:Int)).toNat*1)) [I u]/\(Ix (1:Int) b C fun Z=>(∃v,aa i (Z.add (((1:Int)).toNat*1)) [.string v]/\(Ix (2:Int) b C fun a9=>(∃x,aa i (a9.add (((2:Int)).toNat*1)) [.string x]/\(Ix (1:Int) a A fun d1=>(∃y,aa i (d1.add (((1:Int)).toNat*1)) [I y]/\(Ix (2:Int) a A fun d2=>(∃z,aa i (d2.add (((2:Int)).toNat*1)) [I z]/\(∀E,Ext B [] i E->(Pure P 127 #[.slice D c d] E (Rs fun d3 d4 d5 G=>(ae P (Instr.buildSlice 37 1 #[(0,(.agg #[.string t,I u,.slice d3 d4 d5,.string v,.string x,I y,I z]))]) G.heap.size [32] G (Rs fun d6 d7 d8 d9=>(ae P (Builtin.append_ #[37,37] 37 #[.slice n o s,.slice d6 d7 d8]) B [32] d9 (Rs fun k F W H=>(∃(j:List Value)(l:Nat),B<=(((g.add 0).add 0).add 2).block/\(((g.add 0).add 0).add 2).spot=none/\H.heap[(((g.add 0).add 0).add 2).block]? =some (.cells j.toArray l (0,0))/\(((g.add 0).add 0).add 2).off+1<=j.length/\hasType l [⟨3,false,32,[I p,I q,I r,.slice A a e,.slice D c d,.slice C b f]⟩]=false/\∀m,aL H m (((g.add 0).add 0).add 2).block l (setCells j (((g.add 0).add 0).add 2).off [.slice k F W])->(∃J K L M N O Q S T,aa m ((g.add 0).add 0) [.slice J K L,.slice M N O,.slice Q S T]/\(Pure P 84 #[.agg #[.slice J K L,.slice M N O,.slice Q S T]] m (Rii fun e5 U V=>(Br (U≠0) (R (I U) V) (Pure P 167 #[(.pointer (some g))] V (Ri fun e3 e4=>(R (I e3) e4)))))))))))))))))))))))))))))):
  cI P 113 #[(.pointer (some g)),.agg #[I p,I q,I r,.slice A a e,.slice D c d,.slice C b f]] B w R:=
 pb qH.cx func113 h hB

def mT.cx:Pm:=([],[(1,35,7),(1,36,2),(1,9999,3),(5,11,7),(5,12,2)])
theorem mT.u7{g:Addr}(hB:B<=w.heap.size)
  (h:(∀i,Ext B [] w i->(∃v x y,aa i ((g.add 0).add 6) [.slice v x y]/\(Ix (0:Int) b C fun a3=>(∃z,aa i (a3.add (((0:Int)).toNat*1)) [I z]/\(Ix (0:Int) c D fun a5=>(∃E,aa i (a5.add (((0:Int)).toNat*1)) [.string E]/\(Ix (0:Int) a A fun a7=>(∃G,aa i (a7.add (((0:Int)).toNat*1)) [.string G]/\(Ix (1:Int) a A fun a9=>(∃H,aa i (a9.add (((1:Int)).toNat*1)) [.string H]/\(Ix (2:Int) a A fun d4=>(∃J,aa i (d4.add (((2:Int)).toNat*1)) [.string J]/\(Ix (3:Int) a A fun d5=>(∃K,aa i (d5.add (((3:Int)).toNat*1)) [.string K]/\(Ix (4:Int) a A fun d6=>(∃L,aa i (d6.add (((4:Int)).toNat*1)) [.string L]/\(∀l,Ext B [] i l->(ae P (Instr.buildSlice 42 1 #[(0,(.agg #[I z,.string E,.string G,.string H,.string J,.string K,.string L]))]) l.heap.size [32] l (Rs fun d7 d8 d9 k=>(ae P (Builtin.append_ #[42,42] 42 #[.slice v x y,.slice d7 d8 d9]) B [32] k (Rs fun F W e3 M=>(∃(m:List Value)(n:Nat),B<=((g.add 0).add 6).block/\((g.add 0).add 6).spot=none/\M.heap[((g.add 0).add 6).block]? =some (.cells m.toArray n (0,0))/\((g.add 0).add 6).off+1<=m.length/\hasType n [⟨3,false,32,[I p,I q,I r,.slice C b d,.slice A a e,.slice D c f]⟩]=false/\∀o,aL M o ((g.add 0).add 6).block n (setCells m ((g.add 0).add 6).off [.slice F W e3])->(∃N O Q,aa o ((g.add 0).add 6) [.slice N O Q]/\(Pure P 170 #[.slice N O Q] o (Rii fun g2 S j=>(Br (S≠0) (R (I S) j) (∃T U V,aa j ((g.add 0).add 7) [.slice T U V]/\(Ix (0:Int) b C fun e4=>(∃X,aa j (e4.add (((0:Int)).toNat*1)) [I X]/\(∀s,Ext B [] j s->(ae P (Instr.buildSlice 43 1 #[(0,(.agg #[I X,I 0,I 0,(.string ⟨#[48]⟩)]))]) s.heap.size [32] s (Rs fun e5 e6 e7 e8=>(ae P (Builtin.append_ #[43,43] 43 #[.slice T U V,.slice e5 e6 e7]) B [32] e8 (Rs fun e9 g0 g1 Y=>(∃(t:List Value)(u:Nat),B<=((g.add 0).add 7).block/\((g.add 0).add 7).spot=none/\Y.heap[((g.add 0).add 7).block]? =some (.cells t.toArray u (0,0))/\((g.add 0).add 7).off+1<=t.length/\hasType u [⟨3,false,32,[I p,I q,I r,.slice C b d,.slice A a e,.slice D c f]⟩]=false/\∀Z,aL Y Z ((g.add 0).add 7).block u (setCells t ((g.add 0).add 7).off [.slice e9 g0 g1])->(R (I 0) Z))))))))))))))))))))))))))))))))))))):
  cI P 114 #[(.pointer (some g)),.agg #[I p,I q,I r,.slice C b d,.slice A a e,.slice D c f]] B w R:=
 pb mT.cx func114 h hB

def qI.cx:Pm:=([],[(3,40,7),(3,41,2),(7,13,7),(7,14,2)])
theorem qI.u7{g:Addr}(hB:B<=w.heap.size)
  (h:(Ix (4:Int) a A fun a1=>(∀i,Ext B [] w i->(∃K,aa i (a1.add (((4:Int)).toNat*1)) [I K]/\(Br (K≠0) (Ix (4:Int) a A fun a4=>(∃L,aa i (a4.add (((4:Int)).toNat*1)) [I L]/\(Br (L≠1) (R (I 1) i) (∃M N O,aa i ((g.add 0).add 8) [.slice M N O]/\(Ix (0:Int) a A fun a7=>(∃Q,aa i (a7.add (((0:Int)).toNat*1)) [I Q]/\(Ix (1:Int) a A fun a9=>(∃S,aa i (a9.add (((1:Int)).toNat*1)) [I S]/\(Ix (2:Int) a A fun j7=>(∃T,aa i (j7.add (((2:Int)).toNat*1)) [I T]/\(Ix (3:Int) a A fun j8=>(∃U,aa i (j8.add (((3:Int)).toNat*1)) [I U]/\(Ix (4:Int) a A fun j9=>(∃V,aa i (j9.add (((4:Int)).toNat*1)) [I V]/\(Ix (0:Int) b C fun l0=>(∃X,aa i (l0.add (((0:Int)).toNat*1)) [.string X]/\(Ix (1:Int) b C fun l1=>(∃Y,aa i (l1.add (((1:Int)).toNat*1)) [.string Y]/\(Ix (0:Int) c D fun l2=>(∃Z,aa i (l2.add (((0:Int)).toNat*1)) [.string Z]/\(∀m,Ext B [] i m->(ae P (Instr.buildSlice 44 1 #[(0,(.agg #[I Q,I S,I T,I U,(.bool (decide (V=1))),.string X,.string Y,.string Z]))]) m.heap.size [32] m (Rs fun l3 l4 l5 l6=>(ae P (Builtin.append_ #[44,44] 44 #[.slice M N O,.slice l3 l4 l5]) B [32] l6 (Rs fun l7 l8 l9 d0=>(∃(n:List Value)(o:Nat),B<=((g.add 0).add 8).block/\((g.add 0).add 8).spot=none/\d0.heap[((g.add 0).add 8).block]? =some (.cells n.toArray o (0,0))/\((g.add 0).add 8).off+1<=n.length/\hasType o [⟨3,false,32,[I q,I p,I r,.slice A a d,.slice C b e,.slice D c f]⟩]=false/\∀s,aL d0 s ((g.add 0).add 8).block o (setCells n ((g.add 0).add 8).off [.slice l7 l8 l9])->(∃d1 d2 d3,aa s ((g.add 0).add 8) [.slice d1 d2 d3]/\(Pure P 132 #[.slice d1 d2 d3] s (Rii fun r1 d4 j=>(Br (d4≠0) (R (I d4) j) (∃d5 d6 d7,aa j ((g.add 0).add 9) [.slice d5 d6 d7]/\(Ix (0:Int) a A fun m0=>(∃d8,aa j (m0.add (((0:Int)).toNat*1)) [I d8]/\(∀t,Ext B [] j t->(ae P (Instr.buildSlice 45 1 #[(0,(.agg #[I d8,I 0,I p]))]) t.heap.size [32] t (Rs fun m1 m2 m3 m4=>(ae P (Builtin.append_ #[45,45] 45 #[.slice d5 d6 d7,.slice m1 m2 m3]) B [32] m4 (Rs fun m5 m6 m7 d9=>(∃(u:List Value)(v:Nat),B<=((g.add 0).add 9).block/\((g.add 0).add 9).spot=none/\d9.heap[((g.add 0).add 9).block]? =some (.cells u.toArray v (0,0))/\((g.add 0).add 9).off+1<=u.length/\hasType v [⟨3,false,32,[I q,I p,I r,.slice A a d,.slice C b e,.slice D c f]⟩]=false/\∀k,aL d9 k ((g.add 0).add 9).block v (setCells u ((g.add 0).add 9).off [.slice m5 m6 m7])->(R (I 0) k)))))))))))))))))))))))))))))))))))))))) (∃F W e3,aa i ((g.add 0).add 8) [.slice F W e3]/\(Ix (0:Int) a A fun m8=>(∃e4,aa i (m8.add (((0:Int)).toNat*1)) [I e4]/\(Ix (1:Int) a A fun m9=>(∃e5,aa i (m9.add (((1:Int)).toNat*1)) [I e5]/\(Ix (2:Int) a A fun n0=>(∃e6,aa i (n0.add (((2:Int)).toNat*1)) [I e6]/\(Ix (3:Int) a A fun n1=>(∃e7,aa i (n1.add (((3:Int)).toNat*1)) [I e7]/\(Ix (4:Int) a A fun n2=>(∃e8,aa i (n2.add (((4:Int)).toNat*1)) [I e8]/\(Ix (0:Int) b C fun n3=>(∃e9,aa i (n3.add (((0:Int)).toNat*1)) [.string e9]/\(Ix (1:Int) b C fun n4=>(∃g0,aa i (n4.add (((1:Int)).toNat*1)) [.string g0]/\(Ix (0:Int) c D fun n5=>(∃g1,aa i (n5.add (((0:Int)).toNat*1)) [.string g1]/\(∀x,Ext B [] i x->(ae P (Instr.buildSlice 44 1 #[(0,(.agg #[I e4,I e5,I e6,I e7,(.bool (decide (e8=1))),.string e9,.string g0,.string g1]))]) x.heap.size [32] x (Rs fun n6 n7 n8 n9=>(ae P (Builtin.append_ #[44,44] 44 #[.slice F W e3,.slice n6 n7 n8]) B [32] n9 (Rs fun o0 o1 o2 g2=>(∃(y:List Value)(z:Nat),B<=((g.add 0).add 8).block/\((g.add 0).add 8).spot=none/\g2.heap[((g.add 0).add 8).block]? =some (.cells y.toArray z (0,0))/\((g.add 0).add 8).off+1<=y.length/\hasType z [⟨3,false,32,[I q,I p,I r,.slice A a d,.slice C b e,.slice D c f]⟩]=false/\∀E,aL g2 E ((g.add 0).add 8).block z (setCells y ((g.add 0).add 8).off [.slice o0 o1 o2])->(∃g3 g4 g5,aa E ((g.add 0).add 8) [.slice g3 g4 g5]/\(Pure P 132 #[.slice g3 g4 g5] E (Rii fun r2 g6 l=>(Br (g6≠0) (R (I g6) l) (∃g7 g8 g9,aa l ((g.add 0).add 9) [.slice g7 g8 g9]/\(Ix (0:Int) a A fun o3=>(∃j0,aa l (o3.add (((0:Int)).toNat*1)) [I j0]/\(∀G,Ext B [] l G->(ae P (Instr.buildSlice 45 1 #[(0,(.agg #[I j0,I 0,I p]))]) G.heap.size [32] G (Rs fun o4 o5 o6 o7=>(ae P (Builtin.append_ #[45,45] 45 #[.slice g7 g8 g9,.slice o4 o5 o6]) B [32] o7 (Rs fun o8 o9 r0 j1=>(∃(H:List Value)(J:Nat),B<=((g.add 0).add 9).block/\((g.add 0).add 9).spot=none/\j1.heap[((g.add 0).add 9).block]? =some (.cells H.toArray J (0,0))/\((g.add 0).add 9).off+1<=H.length/\hasType J [⟨3,false,32,[I q,I p,I r,.slice A a d,.slice C b e,.slice D c f]⟩]=false/\∀j2,aL j1 j2 ((g.add 0).add 9).block J (setCells H ((g.add 0).add 9).off [.slice o8 o9 r0])->(R (I 0) j2)))))))))))))))))))))))))))))))))))))))))):
  cI P 115 #[(.pointer (some g)),.agg #[I q,I p,I r,.slice A a d,.slice C b e,.slice D c f]] B w R:=
 pb qI.cx func115 h hB

def oD.cx:Pm:=([],[(1,23,7),(1,24,2),(1,9999,3)])
theorem oD.u7{g:Addr}(hB:B<=w.heap.size)
  (h:(∀i,Ext B [] w i->(∃o s t,aa i ((g.add 0).add 10) [.slice o s t]/\(Ix (0:Int) a A fun J=>(∃u,aa i (J.add (((0:Int)).toNat*1)) [I u]/\(Ix (1:Int) a A fun K=>(∃v,aa i (K.add (((1:Int)).toNat*1)) [I v]/\(Ix (0:Int) b C fun L=>(∃x,aa i (L.add (((0:Int)).toNat*1)) [.string x]/\(Ix (1:Int) b C fun M=>(∃y,aa i (M.add (((1:Int)).toNat*1)) [.string y]/\(∀j,Ext B [] i j->(ae P (Instr.buildSlice 46 1 #[(0,(.agg #[I u,I v,.string x,.string y]))]) j.heap.size [32] j (Rs fun N O Q S=>(ae P (Builtin.append_ #[46,46] 46 #[.slice o s t,.slice N O Q]) B [32] S (Rs fun T U V z=>(∃(l:List Value)(m:Nat),B<=((g.add 0).add 10).block/\((g.add 0).add 10).spot=none/\z.heap[((g.add 0).add 10).block]? =some (.cells l.toArray m (0,0))/\((g.add 0).add 10).off+1<=l.length/\hasType m [⟨3,false,32,[I p,I q,I r,.slice A a c,.slice D d e,.slice C b f]⟩]=false/\∀n,aL z n ((g.add 0).add 10).block m (setCells l ((g.add 0).add 10).off [.slice T U V])->(∃E G H,aa n ((g.add 0).add 10) [.slice E G H]/\(Pure P 171 #[.slice E G H,.slice none 0 0] n (Rii fun Z X Y=>(R (I X) Y))))))))))))))))))))):
  cI P 116 #[(.pointer (some g)),.agg #[I p,I q,I r,.slice A a c,.slice D d e,.slice C b f]] B w R:=
 pb oD.cx func116 h hB

def dI.L6(a:Addr)(b:O)(c d:Nat)(e:O)(f g:Nat)(i j l m:Int)(n:O)(o p:Nat)(q:O)(r s:Nat)(t:O)(u v:Nat):=Lt 117 f117 6 [(0,.v (.pointer (some a))),vL 3,vS 5 b c d,vS 6 e f g,vI 7 i] [⟨3,false,32,[(I j),(I l),(I m),(.slice n o p),(.slice q r s),(.slice t u v)]⟩]
def dI.cx:Pm:=([((true,6),[0,3,5,6,7],[3])],[(8,3,2),(8,4,2),(9,19,7),(9,20,2)])
theorem dI.L6.step{m:Addr}
  (h:(Br (p<(a:Int)) (ae P (Instr.buildSlice 28 1 #[(0,(I (b:Int)))]) B [32] w (Rs fun A3 n3 c3 F=>(ae P (Builtin.append_ #[28,28] 28 #[.slice G j l,.slice A3 n3 c3]) B [32] F (Rs fun A6 W c6 n=>(Ix p a A fun a9=>(∃Q,aa n (a9.add ((p).toNat*1)) [I Q]/\(aU .i64 (p+1)/\(Ix (p+1) a A fun e9=>(∃S,aa n (e9.add (((p+1)).toNat*1)) [I S]/\(aU .i64 (p+2)/\(Ix (p+2) a A fun g0=>(∃T,aa n (g0.add (((p+2)).toNat*1)) [I T]/\(∀o,Ext B [] n o->(ae P (Instr.buildSlice 41 1 #[(0,(.agg #[I Q,I S,I T]))]) o.heap.size [32] o (Rs fun g1 g2 g3 g4=>(ae P (Builtin.append_ #[41,41] 41 #[.slice E b i,.slice g1 g2 g3]) B [32] g4 (Rs fun g5 g6 g7 g8=>(aU .i64 (p+3)/\(dI.L6 m g5 g6 g7 A6 W c6 (p+3) q r s A a c C d e D f g B g8 R))))))))))))))))))) (∃U V X Y Z d0 d1 d2 d3,aa w ((m.add 0).add 0) [.slice U V X,.slice Y Z d0,.slice d1 d2 d3]/\(∃d4 d5 d6,aa w ((m.add 0).add 3) [.slice d4 d5 d6]/\(∀d7,Ext B [] w d7->(Pure P 172 #[.agg #[.slice U V X,.slice Y Z d0,.slice d1 d2 d3],.slice d4 d5 d6,.slice E b i,.slice G j l] d7 (Rii fun g9 d8 t=>(Br (d8≠0) (R (I d8) t) ((∀u,Ext B [] t u->(∃(v:List Value)(x:Nat),B<=((m.add 0).add 4).block/\((m.add 0).add 4).spot=none/\u.heap[((m.add 0).add 4).block]? =some (.cells v.toArray x (0,0))/\((m.add 0).add 4).off+1<=v.length/\hasType x [⟨3,false,32,[I q,I r,I s,.slice A a c,.slice C d e,.slice D f g]⟩]=false/\∀y,aL u y ((m.add 0).add 4).block x (setCells v ((m.add 0).add 4).off [.slice E b i])->(∃(z:List Value)(H:Nat),B<=((m.add 0).add 5).block/\((m.add 0).add 5).spot=none/\y.heap[((m.add 0).add 5).block]? =some (.cells z.toArray H (0,0))/\((m.add 0).add 5).off+1<=z.length/\hasType H [⟨3,false,32,[I q,I r,I s,.slice A a c,.slice C d e,.slice D f g]⟩]=false/\∀d9,aL y d9 ((m.add 0).add 5).block H (setCells z ((m.add 0).add 5).off [I q])->(R (I 0) d9))))/\(∀J,Ext B [] t J->(∃(K:List Value)(L:Nat),B<=((m.add 0).add 4).block/\((m.add 0).add 4).spot=none/\J.heap[((m.add 0).add 4).block]? =some (.cells K.toArray L (0,0))/\((m.add 0).add 4).off+1<=K.length/\hasType L [⟨3,false,32,[I q,I r,I s,.slice A a c,.slice C d e,.slice D f g]⟩]=false/\∀M,aL J M ((m.add 0).add 4).block L (setCells K ((m.add 0).add 4).off [.slice E b i])->(∃(N:List Value)(O:Nat),B<=((m.add 0).add 5).block/\((m.add 0).add 5).spot=none/\M.heap[((m.add 0).add 5).block]? =some (.cells N.toArray O (0,0))/\((m.add 0).add 5).off+1<=N.length/\hasType O [⟨3,false,32,[I q,I r,I s,.slice A a c,.slice C d e,.slice D f g]⟩]=false/\∀k,aL M k ((m.add 0).add 5).block O (setCells N ((m.add 0).add 5).off [I q])->(R (I 0) k))))))))))))):
  dI.L6 m E b i G j l p q r s A a c C d e D f g B w R:=
 lr dI.cx func117 h
theorem dI.u7{g:Addr}(hB:B<=w.heap.size)
  (h:(Br ((a:Int)=0) (∀i,Ext B [] w i->(R (I 9) i)) (∀j,Ext B [] w j->(dI.L6 g none 0 0 none 0 0 (0:Int) p q r A a b C c d D e f B j R)))):
  cI P 117 #[(.pointer (some g)),.agg #[I p,I q,I r,.slice A a b,.slice C c d,.slice D e f]] B w R:=
 pb dI.cx func117 h hB

def mU.cx:Pm:=([],[(1,22,7),(1,23,2),(1,9999,3)])
theorem mU.u7{g:Addr}(hB:B<=w.heap.size)
  (h:(∀i,Ext B [] w i->(∃n o s,aa i ((g.add 0).add 11) [.slice n o s]/\(Ix (0:Int) a A fun a3=>(∃t,aa i (a3.add (((0:Int)).toNat*1)) [I t]/\(∃u v x y z E G H J K L M N O Q S T U V X Y Z d0 d1 d2 d3 d4 d5 d6 d7 d8 d9 k F W e3,aa i (g.add 0) [.slice u v x,.slice y z E,.slice G H J,.slice K L M,.slice N O Q,I S,.slice T U V,.slice X Y Z,.slice d0 d1 d2,.slice d3 d4 d5,.slice d6 d7 d8,.slice d9 k F,I W,I e3]/\(Ix (0:Int) b C fun g6=>(∃e4,aa i (g6.add (((0:Int)).toNat*1)) [.string e4]/\(∀e5,Ext B [] i e5->(Pure P 17 #[.agg #[.slice u v x,.slice y z E,.slice G H J,.slice K L M,.slice N O Q,I S,.slice T U V,.slice X Y Z,.slice d0 d1 d2,.slice d3 d4 d5,.slice d6 d7 d8,.slice d9 k F,I W,I e3]] e5 (Rt fun g7 e6=>(ae P (Instr.buildSlice 47 1 #[(0,(.agg #[I t,I p,.string g7,.string e4]))]) e6.heap.size [32] e6 (Rs fun g8 g9 j0 j1=>(ae P (Builtin.append_ #[47,47] 47 #[.slice n o s,.slice g8 g9 j0]) B [32] j1 (Rs fun j2 j3 j4 e7=>(∃(l:List Value)(m:Nat),B<=((g.add 0).add 11).block/\((g.add 0).add 11).spot=none/\e7.heap[((g.add 0).add 11).block]? =some (.cells l.toArray m (0,0))/\((g.add 0).add 11).off+1<=l.length/\hasType m [⟨3,false,32,[I q,I p,I r,.slice A a c,.slice D d e,.slice C b f]⟩]=false/\∀j,aL e7 j ((g.add 0).add 11).block m (setCells l ((g.add 0).add 11).off [.slice j2 j3 j4])->(∃e8 e9 g0,aa j ((g.add 0).add 10) [.slice e8 e9 g0]/\(∃g1 g2 g3,aa j ((g.add 0).add 11) [.slice g1 g2 g3]/\(∀g4,Ext B [] j g4->(Pure P 171 #[.slice e8 e9 g0,.slice g1 g2 g3] g4 (Rii fun j7 j5 j6=>(R (I j5) j6)))))))))))))))))))))):
  cI P 118 #[(.pointer (some g)),.agg #[I q,I p,I r,.slice A a c,.slice D d e,.slice C b f]] B w R:=
 pb mU.cx func118 h hB

def qJ.cx:Pm:=([],[(1,9999,3)])
theorem qJ.u7{g:Addr}(hB:B<=w.heap.size)
  (h:(∀n,Ext B [] w n->(∃G H J K L M N O Q S T U V X Y Z A8 k c8 A9 F c9 d6 d7 d8 d9 W e1 e2 e3 e4 e5 e6 e7 e8 e9,aa n (g.add 0) [.slice G H J,.slice K L M,.slice N O Q,.slice S T U,.slice V X Y,I Z,.slice A8 k c8,.slice A9 F c9,.slice d6 d7 d8,.slice d9 W e1,.slice e2 e3 e4,.slice e5 e6 e7,I e8,I e9]/\(∀g0,Ext B [] n g0->(Pure P 36 #[.agg #[.slice G H J,.slice K L M,.slice N O Q,.slice S T U,.slice V X Y,I Z,.slice A8 k c8,.slice A9 F c9,.slice d6 d7 d8,.slice d9 W e1,.slice e2 e3 e4,.slice e5 e6 e7,I e8,I e9],I p] g0 (Rb fun l0 i=>(Br (l0=false) (R (I 23) i) (∃g1 g2 g3 g4 g5 g6,aa i (((g.add 0).add 0).add 0) [.slice g1 g2 g3,.slice g4 g5 g6]/\(∃g7 g8 g9,aa i ((g.add 0).add 3) [.slice g7 g8 g9]/\(∃j0 j1 l1,aa i ((g.add 0).add 4) [.slice j0 j1 l1]/\(Ix (0:Int) j1 j0 fun l2=>(∃j2 j3 j4,aa i (l2.add (((0:Int)).toNat*3)) [I j2,I j3,I j4]/\(∀j5,Ext B [] i j5->(Pure P 15 #[.agg #[.slice g1 g2 g3,.slice g4 g5 g6],.slice g7 g8 g9,.agg #[I j2,I j3,I j4]] j5 (XQ fun l3 l4 l5 j6 o=>(Br (j6≠0) (R (I j6) o) (∃j7 l m,aa o ((g.add 0).add 4) [.slice j7 l m]/\((0<=(1:Int)/\(1:Int)<=(l:Int)/\l<=m)/\(∀s,Ext B [] o s->(∃(t:List Value)(u:Nat),B<=((g.add 0).add 3).block/\((g.add 0).add 3).spot=none/\s.heap[((g.add 0).add 3).block]? =some (.cells t.toArray u (0,0))/\((g.add 0).add 3).off+1<=t.length/\hasType u [⟨3,false,32,[I q,I p,I r,.slice A a b,.slice C c d,.slice D e f]⟩]=false/\∀v,aL s v ((g.add 0).add 3).block u (setCells t ((g.add 0).add 3).off [.slice l3 l4 l5])->(∃(x:List Value)(y:Nat),B<=((g.add 0).add 4).block/\((g.add 0).add 4).spot=none/\v.heap[((g.add 0).add 4).block]? =some (.cells x.toArray y (0,0))/\((g.add 0).add 4).off+1<=x.length/\hasType y [⟨3,false,32,[I q,I p,I r,.slice A a b,.slice C c d,.slice D e f]⟩]=false/\∀j,aL v j ((g.add 0).add 4).block y (setCells x ((g.add 0).add 4).off [(.slice (cD j7 (((1:Int)).toNat) m 3) (l - ((1:Int)).toNat) (m - ((1:Int)).toNat))])->(∃l6 j8 l7,aa j ((g.add 0).add 4) [.slice l6 j8 l7]/\(Br ((j8:Int)=0) (∃(z:List Value)(E:Nat),B<=((g.add 0).add 5).block/\((g.add 0).add 5).spot=none/\j.heap[((g.add 0).add 5).block]? =some (.cells z.toArray E (0,0))/\((g.add 0).add 5).off+1<=z.length/\hasType E [⟨3,false,32,[I q,I p,I r,.slice A a b,.slice C c d,.slice D e f]⟩]=false/\∀j9,aL j j9 ((g.add 0).add 5).block E (setCells z ((g.add 0).add 5).off [I 0])->(Pure P 167 #[(.pointer (some g))] j9 (Ri fun l8 l9=>(R (I l8) l9)))) (Pure P 167 #[(.pointer (some g))] j (Ri fun m0 m1=>(R (I m0) m1)))))))))))))))))))))))))):
  cI P 119 #[(.pointer (some g)),.agg #[I q,I p,I r,.slice A a b,.slice C c d,.slice D e f]] B w R:=
 pb qJ.cx func119 h hB

def oE.cx:Pm:=([],[(1,9999,3)])
theorem oE.u7{g:Addr}(hB:B<=w.heap.size)
  (h:(∀i,Ext B [] w i->(∃u v x,aa i ((g.add 0).add 6) [.slice u v x]/\(∃y z E,aa i ((g.add 0).add 7) [.slice y z E]/\(Ix (0:Int) a A fun a4=>(∃G,aa i (a4.add (((0:Int)).toNat*1)) [I G]/\(Ix (0:Int) b C fun a6=>(∃H,aa i (a6.add (((0:Int)).toNat*1)) [.string H]/\(∀J,Ext B [] i J->(Pure P 173 #[.slice u v x,.slice y z E,.agg #[I G,I p,.string H]] J (XQ fun K L M N j=>(Br (N≠0) (R (I N) j) (∃O Q S,aa j ((g.add 0).add 8) [.slice O Q S]/\(∃T U V,aa j ((g.add 0).add 9) [.slice T U V]/\(∀X,Ext B [] j X->(Pure P 30 #[.slice O Q S,.slice T U V,.slice K L M,I p] X (XQ fun d2 d3 d4 Y l=>(Br (Y≠0) (R (I Y) l) (∃(m:List Value)(n:Nat),B<=((g.add 0).add 7).block/\((g.add 0).add 7).spot=none/\l.heap[((g.add 0).add 7).block]? =some (.cells m.toArray n (0,0))/\((g.add 0).add 7).off+1<=m.length/\hasType n [⟨3,false,32,[I q,I p,I r,.slice A a c,.slice C b d,.slice D e f]⟩]=false/\∀o,aL l o ((g.add 0).add 7).block n (setCells m ((g.add 0).add 7).off [.slice K L M])->(∃(s:List Value)(t:Nat),B<=((g.add 0).add 9).block/\((g.add 0).add 9).spot=none/\o.heap[((g.add 0).add 9).block]? =some (.cells s.toArray t (0,0))/\((g.add 0).add 9).off+1<=s.length/\hasType t [⟨3,false,32,[I q,I p,I r,.slice A a c,.slice C b d,.slice D e f]⟩]=false/\∀Z,aL o Z ((g.add 0).add 9).block t (setCells s ((g.add 0).add 9).off [.slice d2 d3 d4])->(R (I 0) Z))))))))))))))))))))):
  cI P 120 #[(.pointer (some g)),.agg #[I q,I p,I r,.slice A a c,.slice C b d,.slice D e f]] B w R:=
 pb oE.cx func120 h hB

def sN.cx:Pm:=([],[(1,9999,3)])
theorem sN.u7{g:Addr}(hB:B<=w.heap.size)
  (h:(∀i,Ext B [] w i->(∃o s t,aa i ((g.add 0).add 8) [.slice o s t]/\(∃u v x,aa i ((g.add 0).add 9) [.slice u v x]/\(Ix (0:Int) a A fun G=>(∃y,aa i (G.add (((0:Int)).toNat*1)) [I y]/\(∀z,Ext B [] i z->(Pure P 174 #[.slice o s t,.slice u v x,I y,I p] z (XQ fun H J K j l=>(Br (j=0) (∃(m:List Value)(n:Nat),B<=((g.add 0).add 9).block/\((g.add 0).add 9).spot=none/\l.heap[((g.add 0).add 9).block]? =some (.cells m.toArray n (0,0))/\((g.add 0).add 9).off+1<=m.length/\hasType n [⟨3,false,32,[I q,I p,I r,.slice A a b,.slice C c d,.slice D e f]⟩]=false/\∀E,aL l E ((g.add 0).add 9).block n (setCells m ((g.add 0).add 9).off [.slice H J K])->(R (I j) E)) (R (I j) l))))))))))):
  cI P 121 #[(.pointer (some g)),.agg #[I q,I p,I r,.slice A a b,.slice C c d,.slice D e f]] B w R:=
 pb sN.cx func121 h hB

def qK.cx:Pm:=([],[])
theorem qK.u7{g:Addr}(hB:B<=w.heap.size)
  (h:(∀i,Ext B [] w i->(∃(j:List Value)(l:Nat),B<=((g.add 0).add 4).block/\((g.add 0).add 4).spot=none/\i.heap[((g.add 0).add 4).block]? =some (.cells j.toArray l (0,0))/\((g.add 0).add 4).off+1<=j.length/\hasType l [⟨3,false,32,[I p,I q,I r,.slice A a b,.slice C c d,.slice D e f]⟩]=false/\∀m,aL i m ((g.add 0).add 4).block l (setCells j ((g.add 0).add 4).off [.slice none 0 0])->(∃(n:List Value)(o:Nat),B<=((g.add 0).add 5).block/\((g.add 0).add 5).spot=none/\m.heap[((g.add 0).add 5).block]? =some (.cells n.toArray o (0,0))/\((g.add 0).add 5).off+1<=n.length/\hasType o [⟨3,false,32,[I p,I q,I r,.slice A a b,.slice C c d,.slice D e f]⟩]=false/\∀s,aL m s ((g.add 0).add 5).block o (setCells n ((g.add 0).add 5).off [I 0])->(R (I 0) s))))):
  cI P 122 #[(.pointer (some g)),.agg #[I p,I q,I r,.slice A a b,.slice C c d,.slice D e f]] B w R:=
 pb qK.cx func122 h hB

def kS.cx:Pm:=([],[])
theorem kS.vc
  (h:(Br (p<0) (R (.bool true) w) (R (.bool (decide (p=q))) w))):
  Pure P 123 #[I p,I q] w R:=
 pr kS.cx func123 h

def kU.cx:Pm:=([],[])
theorem kU.vc{a:Addr}
  (h:(∃b c d e f g i j l,aa w ((a.add 0).add 0) [.slice b c d,.slice e f g,.slice i j l]/\(∃m n o,aa w ((a.add 0).add 3) [.slice m n o]/\(∀p,Ext w.heap.size [] w p->(Pure P 10 #[.agg #[.slice b c d,.slice e f g,.slice i j l],.slice m n o] p (Rb fun r q=>(Br (r=false) (R (I 15) q) (R (I 0) q)))))))):
  Pure P 167 #[(.pointer (some a))] w R:=
 pr kU.cx func167 h

def mV.cx:Pm:=([],[])
theorem mV.vc
  (h:(∀c,Ext w.heap.size [] w c->(R (.bool (decide (p=1))) c))):
  Pure P 169 #[.agg #[.string L,I p,.slice A a b,.string M,.string N,I q,I r]] w R:=
 pr mV.cx func169 h

end Go.Proofs.YtbcojgcjjpggnaaGreatDoor.F

namespace Go.Proofs.YtbcojgcjjpggnaaGreatDoor.B
open Go Go.RowKit Go.Proofs Go.Proofs.YtbcojgcjjpggnaaGreatDoor.Vc

def GV(w:World)(ty:Nat)(A:Option Addr)(sz:Nat)(rows:List (List Value)):Prop:=
 rows=[]∨∃b off cs fr,A=some ⟨b,off,none⟩/\w.heap[b]? =some (.cells cs ty fr)/\∀i,(h:i<rows.length)->∀j,(hj:j<rows[i].length)->rows[i].length=sz/\cs[off+i*sz+j]? =some (rows[i][j])
section
variable {w w':World} {B ty sz n c:Nat} {A:Option Addr} {rows:List (List Value)}
theorem aE.slT(h:aE w B ty A n c sz rows):GV w ty A sz rows:=by
 rcases h.sl with e|⟨b,off,cs,t,fr,a,d,i⟩
 ·exact .inl e
 ·obtain⟨j,g⟩:=h.cells _ a;rw[g]at d;cases d;exact .inr ⟨b,off,_,_,a,g,i⟩
theorem GV.sl(h:GV w ty A sz rows):bR w A sz rows:=by
 rcases h with e|⟨b,off,cs,fr,a,d,g⟩
 ·exact .inl e
 ·exact .inr ⟨b,off,cs,ty,fr,a,d,g⟩
theorem GV.below(h:GV w ty A sz rows)(hb:Below w.heap.size w w'):GV w' ty A sz rows:=by
 rcases h with e|⟨b,off,cs,fr,a,d,g⟩
 ·exact .inl e
 ·exact .inr ⟨b,off,cs,fr,a,ag d hb,g⟩
theorem GV.other(h:GV w ty A sz rows){b t:Nat}{cs:Array Value}{fr:Nat×Nat}(hb:w.heap[b]? =some (.cells cs t fr))(a:ty≠t)(j:∀k,k≠b->w'.heap[k]? =w.heap[k]?):GV w' ty A sz rows:=by
 rcases h with e|⟨g,off,l,d,m,i,o⟩
 ·exact .inl e
 ·refine .inr ⟨g,off,l,d,m,(j g fun e=> ?_).trans i,o⟩;subst e;rw[i]at hb;cases hb;exact a rfl
theorem aE.apart(h:aE w B ty A n c sz rows){b t:Nat}{cs:Array Value}{fr:Nat×Nat}(hb:w.heap[b]? =some (.cells cs t fr))(d:ty≠t)(i:∀k,k≠b->w'.heap[k]? =w.heap[k]?):aE w' B ty A n c sz rows:=
 h.other fun a ha=>i _ fun e=>by
  obtain⟨j,g⟩:=h.cells a ha;rw[e,hb]at g;cases g;exact d rfl
end
structure Sl where
 A:Option Addr
 n:Nat
 c:Nat
abbrev Sl.v(s:Sl):Value:= .slice s.A s.n s.c
abbrev Sl.nil:Sl:=⟨none,0,0⟩
structure Cm where
 ps:List Pa
 hs:List Ho
 rs:List Ru
 fN:List Sw
 dS:List Sw
 bQ:Int
 jo:List Ch
 wP:List Va
 fW:List Al
 oI:List Lp
 cU:List Si
 apps:List Ap
 last:Int
 tick:Int
def Cm.zero:Cm:=⟨[],[],[],[],[],0,[],[],[],[],[],[],0,0⟩
structure Ca where
 p:Sl
 h:Sl
 r:Sl
 s:Sl
 w:Sl
 c:Sl
 v:Sl
 a:Sl
 l:Sl
 g:Sl
 q:Sl
abbrev Ca.zero:Ca:=⟨.nil,.nil,.nil,.nil,.nil,.nil,.nil,.nil,.nil,.nil,.nil⟩
abbrev Ca.cells(k:Ca)(x:Cm):List Value:=[k.p.v,k.h.v,k.r.v,k.s.v,k.w.v,.int .i64 x.bQ,k.c.v,k.v.v,k.a.v,k.l.v,k.g.v,k.q.v,.int .i64 x.last,.int .i64 x.tick]
abbrev Ca.val(k:Ca)(x:Cm):Value:= .agg #[k.p.v,k.h.v,k.r.v,k.s.v,k.w.v,.int .i64 x.bQ,k.c.v,k.v.v,k.a.v,k.l.v,k.g.v,k.q.v,.int .i64 x.last,.int .i64 x.tick]
def SmW(y:Sw):Prop:=(-9223372036854775808<=y.hold/\y.hold<=9223372036854775807)/\(-9223372036854775808<=y.av/\y.av<=9223372036854775807)/\(-9223372036854775808<=y.aV/\y.aV<=9223372036854775807)
structure dz (x:Cm):Prop where
 au:kQ x.ps x.hs x.rs x.fN=true
 sp:∀y∈x.ps,SmP y
 sh:∀y∈x.hs,SmH y
 sr:∀y∈x.rs,Rf y
 sc:∀y∈x.jo,Jr y
 sg:∀y∈x.jo,y.pB.size<=40/\y.offset.size<=40
 sv:∀y∈x.wP,ma y.num
 sa:∀y∈x.fW,UO y
 lp:x.ps.length<=6
 lh:x.hs.length<=6
 lr:x.rs.length<=16
 ls:x.fN.length<=36
 lw:x.dS.length<=6
 lc:x.jo.length<=16
 lv:x.wP.length=x.jo.length
 la:x.fW.length<=32
 ll:x.oI.length=x.fW.length
 lg:x.cU.length<=16
 lq:x.apps.length<=1024
 sw:∀y∈x.dS,SmW y
 si: -9223372036854775808<=x.bQ/\x.bQ<=9223372036854775807
structure ux (w:World) (k:Ca) (xs:List Rm) (x:Cm):Prop where
 p:bR w k.p.A 7 (x.ps.map Pa.row)
 h:bR w k.h.A 7 (x.hs.map Ho.row)
 r:bR w k.r.A 7 (xs.map Rm.row)
 f:∀y∈xs,xO w y
 e:dK xs=x.rs
 s:bR w k.s.A 3 (x.fN.map Sw.row)
 pl:bR w k.w.A 3 (x.dS.map Sw.row)
 c:bR w k.c.A 7 (x.jo.map Ch.row)
 v:bR w k.v.A 4 (x.wP.map Va.row)
 a:bR w k.a.A 8 (x.fW.map Al.row)
 l:bR w k.l.A 3 (x.oI.map Lp.row)
 g:bR w k.g.A 4 (x.cU.map Si.row)
 q:bR w k.q.A 4 (x.apps.map Ap.row)
 np:x.ps.length=k.p.n
 nh:x.hs.length=k.h.n
 nr:x.rs.length=k.r.n
 ns:x.fN.length=k.s.n
 nw:x.dS.length=k.w.n
 nc:x.jo.length=k.c.n
 nv:x.wP.length=k.v.n
 na:x.fW.length=k.a.n
 nl:x.oI.length=k.l.n
 ng:x.cU.length=k.g.n
 nq:x.apps.length=k.q.n
 cr:k.r.n<=k.r.c
 cs:k.s.n<=k.s.c
 cw:k.w.n<=k.w.c
 cq:k.q.n<=k.q.c
structure Zz (w:World) (B:Nat) (y:Rm):Prop where
 o:aE w B 88 y.A y.n y.c 1 (y.r.pD.map gq)
structure dP (w:World) (B:Nat) (k:Ca) (xs:List Rm) (x:Cm):Prop where
 p:aE w B 111 k.p.A k.p.n k.p.c 7 (x.ps.map Pa.row)
 h:aE w B 172 k.h.A k.h.n k.h.c 7 (x.hs.map Ho.row)
 r:aE w B 103 k.r.A k.r.n k.r.c 7 (xs.map Rm.row)
 f:∀y∈xs,Zz w B y
 e:dK xs=x.rs
 s:aE w B 54 k.s.A k.s.n k.s.c 3 (x.fN.map Sw.row)
 pl:GV w 57 k.w.A 3 (x.dS.map Sw.row)
 nw:x.dS.length=k.w.n
 cw:k.w.n<=k.w.c/\(k.w.A=none->k.w.c=0)
 c:aE w B 141 k.c.A k.c.n k.c.c 7 (x.jo.map Ch.row)
 v:aE w B 94 k.v.A k.v.n k.v.c 4 (x.wP.map Va.row)
 a:aE w B 90 k.a.A k.a.n k.a.c 8 (x.fW.map Al.row)
 l:aE w B 84 k.l.A k.l.n k.l.c 3 (x.oI.map Lp.row)
 g:aE w B 69 k.g.A k.g.n k.g.c 4 (x.cU.map Si.row)
 q:aE w B 66 k.q.A k.q.n k.q.c 4 (x.apps.map Ap.row)
section
variable {w w':World} {B:Nat} {k:Ca} {xs:List Rm} {x:Cm}
theorem aE.sO{ty n c sz:Nat}{A:Option Addr}{rows:List (List Value)}(h:aE w B ty A n c sz rows)(e:A=none):c=0:=by
 subst e;rcases h.1.2 with⟨h1,_⟩|⟨_,_,_,h1,_⟩
 ·cases h1;rfl
 ·cases h1
theorem RR{A:Option Addr}{l c sz:Nat}(h:cD A l c sz=none):A=none:=by
 unfold cD at h;split at h
 ·exact h
 ·simpa using h
theorem ux.au(h:ux w k xs x)(hb:Below w.heap.size w w'):ux w' k xs x:=
 ⟨h.p.below hb,h.h.below hb,h.r.below hb,fun y hy=>(h.f y hy).au hb,h.e,h.s.below hb,h.pl.below hb,h.c.below hb,h.v.below hb,h.a.below hb,h.l.below hb,h.g.below hb,h.q.below hb,
  h.np,h.nh,h.nr,h.ns,h.nw,h.nc,h.nv,h.na,h.nl,h.ng,h.nq,h.cr,h.cs,h.cw,h.cq⟩
theorem dP.below(h:dP w B k xs x)(hb:Below w.heap.size w w'):dP w' B k xs x:=
 ⟨h.p.below hb,h.h.below hb,h.r.below hb,fun y hy=>⟨(h.f y hy).o.below hb⟩,h.e,h.s.below hb,h.pl.below hb,h.nw,h.cw,h.c.below hb,h.v.below hb,h.a.below hb,h.l.below hb,h.g.below hb,h.q.below hb⟩
theorem aE.rows{α:Type}{row:α->List Value}{ty n c sz:Nat}{A:Option Addr}{l:List α}(h:aE w B ty A n c sz (l.map row)):l.length=n:=by
 have:=h.len;rwa [ec]at this
theorem dP.uV(h:dP w B k xs x)(d:∀y∈x.rs,Rf y):ux w k xs x:=by
 refine⟨h.p.sl,h.h.sl,h.r.sl,fun y hy=>⟨(h.f y hy).o.sl,(h.f y hy).o.rows,d _ (by rw[<-h.e];exact hM.2 ⟨y,hy,rfl⟩),fun e=> ?_⟩,h.e,h.s.sl,h.pl.sl,h.c.sl,h.v.sl,h.a.sl,h.l.sl,h.g.sl,h.q.sl,
  h.p.rows,h.h.rows,?_,h.s.rows,h.nw,h.c.rows,h.v.rows,h.a.rows,h.l.rows,h.g.rows,h.q.rows,h.r.jY,h.s.jY,h.cw.1,h.q.jY⟩
 ·exact(h.f y hy).o.sO e
 ·rw[<-h.e,ec];exact h.r.rows
theorem ux.pr(h:ux w k xs x)(sp:∀y∈x.ps,SmP y)(sh:∀y∈x.hs,SmH y)(lp:x.ps.length<=7)(lh:x.hs.length<=7)(lr:x.rs.length<=17):oN w k.p.A k.p.n k.h.A k.h.n k.r.A k.r.n k.r.c x.ps x.hs xs:=by
 have h1:=h.np;have d:=h.nh;have a:=h.nr;exact⟨⟨h.p,h.h,h.np,h.nh,sp,sh,om,om⟩,h.r,by rw[<-a,<-h.e,ec],h.f,om,h.cr⟩
theorem ux.cg(h:ux w k xs x)(sp:∀y∈x.ps,SmP y)(sh:∀y∈x.hs,SmH y)(lp:x.ps.length<=7)(lh:x.hs.length<=7):gO w k.p.A k.p.n k.h.A k.h.n x.ps x.hs:=by
 have h1:=h.np;have a:=h.nh;exact⟨h.p,h.h,h.np,h.nh,sp,sh,om,om⟩
end
structure Wk (w:World) (B b:Nat) (k:Ca) (xs:List Rm) (x:Cm):Prop where
 box:w.heap[b]? =some (.cells (k.cells x).toArray 139 (0,0))
 hB:B<=b
 o:dP w B k xs x
theorem cF{w:World}{b:Nat}{a:Addr}{cs:List Value}{ty:Nat}{fr:Nat×Nat}(h:w.heap[b]? =some (.cells cs.toArray ty fr))(j m:Nat)(ha:a=⟨b,j,none⟩:=by simp only[bT]):aa w a ((cs.drop j).take m):=by
 subst ha;intro i hi;rw[bT];rw[ew,rT]at hi;simp[World.cell?,h]
section
variable {w w':World} {B b:Nat} {k:Ca} {xs:List Rm} {x:Cm}
theorem Wk.below(h:Wk w B b k xs x)(hb:Below w.heap.size w w'):Wk w' B b k xs x:=⟨ag h.box hb,h.hB,h.o.below hb⟩
theorem Wk.wrote(h:Wk w B b k xs x){cs:List Value}(hw:aL w w' b 139 cs):dP w' B k xs x:=by
 have o:=h.o;exact⟨o.p.apart h.box dc hw.rest,o.h.apart h.box dc hw.rest,o.r.apart h.box dc hw.rest,fun y hy=>⟨(o.f y hy).o.apart h.box dc hw.rest⟩,o.e,o.s.apart h.box dc hw.rest,o.pl.other h.box dc hw.rest,o.nw,o.cw,o.c.apart h.box dc hw.rest,o.v.apart h.box dc hw.rest,o.a.apart h.box dc hw.rest,o.l.apart h.box dc hw.rest,o.g.apart h.box dc hw.rest,o.q.apart h.box dc hw.rest⟩
end

structure Ev where
 id:Int
 tick:Int
 kind:Int
 nums:List Int
 gw:List ByteArray
 texts:List ByteArray
structure Ea where
 n:Sl
 r:Sl
 t:Sl
abbrev Ea.val(a:Ea)(e:Ev):Value:= .agg #[.int .i64 e.id,.int .i64 e.tick,.int .i64 e.kind,a.n.v,a.r.v,a.t.v]
structure pJ (w:World) (a:Ea) (e:Ev):Prop where
 n:bR w a.n.A 1 (e.nums.map fG)
 r:bR w a.r.A 1 (e.gw.map gq)
 t:bR w a.t.A 1 (e.texts.map gq)
 ln:e.nums.length=a.n.n
 lr:e.gw.length=a.r.n
 lt:e.texts.length=a.t.n
 mn:e.nums.length<=24
 mr:e.gw.length<=9
 mt:e.texts.length<=4
 sr:∀s∈e.gw,s.size<=40
 st:∀s∈e.texts,s.size<=70
 zr:a.r.A=none->a.r.c=0
 ik:aU .i64 e.kind
theorem pJ.au{w w':World}{a:Ea}{e:Ev}(h:pJ w a e)(hb:Below w.heap.size w w'):pJ w' a e:=⟨h.n.below hb,h.r.below hb,h.t.below hb,h.ln,h.lr,h.lt,h.mn,h.mr,h.mt,h.sr,h.st,h.zr,h.ik⟩
def bG(ty:Nat)(w w':World):Prop:=∀(q t:Nat)(cs:Array Value)(fr:Nat×Nat),t≠ty->w.heap[q]? =some (.cells cs t fr)->w'.heap[q]? =some (.cells cs t fr)
section
variable {w w':World} {B b ty t sz n c:Nat} {A:Option Addr} {rows:List (List Value)} {k:Ca} {xs:List Rm} {x:Cm}
theorem aE.bW(h:aE w B t A n c sz rows)(s:bG ty w w')(d:t≠ty):aE w' B t A n c sz rows:=
 h.other fun a ha=>by
  obtain⟨cs,g⟩:=h.cells a ha;rw[g];exact s _ _ _ _ d g
theorem GV.bW(h:GV w t A sz rows)(s:bG ty w w')(a:t≠ty):GV w' t A sz rows:=by
 rcases h with e|⟨b,off,cs,fr,d,g,i⟩
 ·exact .inl e
 ·exact .inr ⟨b,off,cs,fr,d,s _ _ _ _ a g,i⟩
theorem bG.grown(o:aE w B ty A n c sz rows)(g:w.grownBy w' (Value.ownBlock (.slice A n c))):bG ty w w':=fun q t cs fr h d=>
 (g.block q (ax.1 d).1 fun e=>by
  cases A with
  |none=>cases e
  |some a=>
   cases e;obtain⟨j,i⟩:=o.cells a rfl;rw[i]at d;cases d;exact h rfl).trans d
theorem bG.wrote{cs g:List Value}(hw:aL w w' b ty g)(hb:w.heap[b]? =some (.cells cs.toArray ty (0,0))):bG ty w w':=fun q t c fr a d=>
 (hw.rest q fun e=>by subst e;rw[hb]at d;cases d;exact a rfl).trans d
theorem dP.Lm(h:dP w B k xs x)(s:bG ty w w'):
  (111≠ty->aE w' B 111 k.p.A k.p.n k.p.c 7 (x.ps.map Pa.row))/\(172≠ty->aE w' B 172 k.h.A k.h.n k.h.c 7 (x.hs.map Ho.row))/\
  (103≠ty->aE w' B 103 k.r.A k.r.n k.r.c 7 (xs.map Rm.row))/\(88≠ty->∀y∈xs,Zz w' B y)/\
  (54≠ty->aE w' B 54 k.s.A k.s.n k.s.c 3 (x.fN.map Sw.row))/\(57≠ty->GV w' 57 k.w.A 3 (x.dS.map Sw.row))/\
  (141≠ty->aE w' B 141 k.c.A k.c.n k.c.c 7 (x.jo.map Ch.row))/\(94≠ty->aE w' B 94 k.v.A k.v.n k.v.c 4 (x.wP.map Va.row))/\
  (90≠ty->aE w' B 90 k.a.A k.a.n k.a.c 8 (x.fW.map Al.row))/\(84≠ty->aE w' B 84 k.l.A k.l.n k.l.c 3 (x.oI.map Lp.row))/\
  (69≠ty->aE w' B 69 k.g.A k.g.n k.g.c 4 (x.cU.map Si.row))/\(66≠ty->aE w' B 66 k.q.A k.q.n k.q.c 4 (x.apps.map Ap.row)):=
 ⟨h.p.bW s,h.h.bW s,h.r.bW s,fun d y hy=>⟨(h.f y hy).o.bW s d⟩,h.s.bW s,h.pl.bW s,h.c.bW s,h.v.bW s,h.a.bW s,h.l.bW s,h.g.bW s,h.q.bW s⟩
theorem dP.bW(h:dP w B k xs x)(s:bG 139 w w'):dP w' B k xs x:=by
 obtain⟨p1,p2,p3,g,i,p6,p7,p8,p9,a,d,j⟩:=h.Lm s;exact⟨p1 dc,p2 dc,p3 dc,g dc,h.e,i dc,p6 dc,h.nw,h.cw,p7 dc,p8 dc,p9 dc,a dc,d dc,j dc⟩
end
def Ln(r:Cm×Int)(B b:Nat)(v:Value)(w':World):Prop:=v= .int .i64 r.2/\(r.2=0->∃k xs,Wk w' B b k xs r.1)
def tj(x:Cm):Int:=if kQ x.ps x.hs x.rs x.fN=false then 15 else 0
def rB(x:Cm)(e:Ev):Cm×Int:=match e.nums,e.gw,e.texts with
 |[a,u,c],[m,v,d],[t]=>
  let y:Cm:={x with ps:=x.ps++[⟨a,u,c,t,m,v,d⟩]}
  if fa y.ps y.hs≠0 then(y,fa y.ps y.hs)else(y,tj y)
 |_,_,_=>(x,1)
section
variable {w0 w:World} {b:Nat} {k:Ca} {xs:List Rm} {x:Cm} {ea:Ea} {e:Ev}
theorem uW(hg:bj w){B:Nat}(h:Wk w B b k xs x)(sr:∀y∈x.rs,Rf y)(sp:∀y∈x.ps,SmP y)(sh:∀y∈x.hs,SmH y)(lp:x.ps.length<=7)(lh:x.hs.length<=7)(lr:x.rs.length<=17)(ls:x.fN.length<=40):
  Pure Tryz.prog 167 #[.pointer (some ⟨b,0,none⟩)] w fun v _=>v= .int .i64 (tj x):=by
 have hi:=h.o.uV sr;have hn:=hi.ns;refine F.kU.vc ⟨_,_,_,_,_,_,_,_,_,cF h.box 0 3,_,_,_,cF h.box 3 1,fun d a=>pm (wO (hg.next (k0 a)) ((hi.pr sp sh lp lh lr).au (k0 a)) (hi.s.below (k0 a)) hi.ns hi.cs om) ?_⟩;rintro v g _ rfl;unfold tj;rw[<-hi.e];exact⟨_,rfl,fun q=>by rw[bb q],fun q=>by rw[aq q]⟩
end

theorem jh{t ty e sz bytes:Nat}(el:El Tryz.prog t e sz bytes){B:Nat}{tys:List Nat}{w:World}{A:Option Addr}{n c:Nat}{rows:List (List Value)}(ho:aE w B e A n c sz rows){val:Value}(hx:val.cells.size=sz)(h1:∀u∈val.cells.toList,bl u=true)
  (hB:B<=w.heap.size) (nB:(n+1)*(bytes+1)<=140737488355328) (z:e∉tys) {K:Option Addr->Nat->Nat->World->Prop}
  (h:∀A' c' d,aE d B e A' (n+1) c' sz (rows++[val.cells.toList])->bG e w d->Below B w d->K A' (n+1) c' d):
  ae P (Instr.buildSlice t 1 #[(0,val)]) w.heap.size tys w (Rs fun g n18 i o=>ae P (Builtin.append_ #[t,t] ty #[.slice A n c,.slice g n18 i]) B tys o (Rs K)):=by
 refine bc el [val] (by simpa using hx) sm lf fun g i o a j=> ?_
 have y:=ho.below j;refine xG el lf y a.sl sm (fun r l=>by have:=a.2.2 r l;exact this) (fun r l u hu=>by rw[List.map_singleton,eb]at l;rw[l]at hu;exact h1 u hu) a.sO (dp hB j.size) (by simpa using nB) z fun A' c' d C g2 D=> ?_
 refine h A' c' d C (fun q t cs fr m E=>bG.grown y g2 q t cs fr m (ag E j)) ((j.mono hB).trans D)
theorem Cy{α:Type}{l:List α}(h:l.length=1):∃a,l=[a]:=by
 match l,h with
 |[a],_=>exact⟨a,rfl⟩
theorem Kp{α:Type}{l:List α}(h:l.length=2):∃a b,l=[a,b]:=by
 match l,h with
 |[a,b],_=>exact⟨a,b,rfl⟩
theorem U7{α:Type}{l:List α}(h:l.length=3):∃a b c,l=[a,b,c]:=by
 match l,h with
 |[a,b,c],_=>exact⟨a,b,c,rfl⟩
theorem ZA{α:Type}{l:List α}(h:l.length=5):∃a b c d e,l=[a,b,c,d,e]:=by
 match l,h with
 |[a,b,c,d,e],_=>exact⟨a,b,c,d,e,rfl⟩
section
variable {w0 w:World} {b:Nat} {k:Ca} {xs:List Rm} {x:Cm} {ea:Ea} {e:Ev}
theorem IQ(hg:bj w0)(hb:Below w0.heap.size w0 w)(h:Wk w w0.heap.size b k xs x)(ok:dz x)(he:pJ w0 ea e)(hn:e.nums.length=3)(O:e.gw.length=3)(P:e.texts.length=1):
  cI Tryz.prog 111 #[.pointer (some ⟨b,0,none⟩),ea.val e] w0.heap.size w (Ln (rB x e) w0.heap.size b):=by
 obtain⟨id,tick,kind,nums,gw,texts⟩:=e;obtain⟨a,u,c,rfl⟩:=U7 hn;obtain⟨m,v,g,rfl⟩:=U7 O;obtain⟨t,rfl⟩:=Cy P;have sr:=he.sr;have st:=he.st;simp only[cc,fs,u1,MA,Ut]at sr st;unfold rB;dsimp only;refine F.oC.u7 hb.size fun w1 I=> ?_
 have J:=kE hb I;have h1:=h.below (extAll I);have j:=he.au J;have B:=fun(i:Nat) (hi:i<3)=>j.n.at_ (row:=fG) (fun _=>rfl) j.ln (i:=i) hi
 have C:=fun(i:Nat) (hi:i<3)=>j.r.at_ (row:=gq) (fun _=>rfl) j.lr (i:=i) hi
 have Q:=j.t.at_ (row:=gq) (fun _=>rfl) j.lt (i:=0) sm;obtain⟨p1,R,q1,c1,_⟩:=B 0 om;obtain⟨p2,a2,S,c2,_⟩:=B 1 om;obtain⟨p3,a3,T,c3,_⟩:=B 2 om;obtain⟨U,a4,V,c4,_⟩:=Q;obtain⟨W,a5,X,c5,_⟩:=C 0 om;obtain⟨p6,Y,Z,c6,_⟩:=C 1 om;obtain⟨p7,a7,q7,c7,_⟩:=C 2 om;refine⟨_,_,_,cF h1.box 0 1,p1,R,q1,_,c1,p2,a2,S,_,c2,p3,a3,T,_,c3,U,a4,V,_,c4,W,a5,X,_,c5,p6,Y,Z,_,c6,p7,a7,q7,_,c7,fun Df K=> ?_⟩;have d:=h1.below (extAll K);have L:=kE J K;have Tj:=d.o.p.rows;have lp:=ok.lp;refine jh FU d.o.p (val:= .agg #[.int .i64 a,.int .i64 u,.int .i64 c,.string t,.string m,.string v,.string g]) rfl (by simp[Value.cells,bl]) L.size om dc fun A' c' xE D l CO=> ?_
 have M:=l _ _ _ _ dc d.box;have yL:=L.trans CO;simp only[bT];refine⟨_,_,d.hB,trivial,M,by show 0+1<=14;omega,rfl,fun Ih E=> ?_⟩;have N:=yL.trans (aL.dQ E d.hB);obtain⟨_,g2,g3,g4,g5,g6,g7,g8,g9,g10,g11,g12⟩:=d.o.Lm l;have ZB:dP xE w0.heap.size {k with p:=⟨A',k.p.n+1,c'⟩} xs {x with ps:=x.ps++[⟨a,u,c,t,m,v,g⟩]}:=
  ⟨by rw[eH];exact D,g2 dc,g3 dc,g4 dc,d.o.e,g5 dc,g6 dc,d.o.nw,d.o.cw,g7 dc,g8 dc,g9 dc,g10 dc,g11 dc,g12 dc⟩
 have A:Wk Ih w0.heap.size b {k with p:=⟨A',k.p.n+1,c'⟩} xs {x with ps:=x.ps++[⟨a,u,c,t,m,v,g⟩]}:=⟨E.at_,d.hB,ZB.bW (bG.wrote E M)⟩;have sp:∀y∈x.ps++[(⟨a,u,c,t,m,v,g⟩:Pa)],SmP y:=fun y hy=>by
  rcases fi.1 hy with hy|hy
  ·exact ok.sp y hy
  ·rw[eb.1 hy];exact⟨by show m.size<=1000;omega,by show v.size<=1000;omega,by show g.size<=1000;omega,by show t.size<_;omega⟩
 have lh:=ok.lh;have q:(x.ps++[(⟨a,u,c,t,m,v,g⟩:Pa)]).length<=7:=by rw[ek];simp;omega
 have i26:=A.o.uV ok.sr;refine⟨_,_,_,_,_,_,cF A.box 0 2,pm (aM (hg.next N) (i26.cg sp ok.sh q (by show x.hs.length<=7;omega))) ?_⟩;rintro v' WJ G rfl;refine⟨_,rfl,fun z=> ?_,fun H=> ?_⟩
 ·rw[bb z];exact⟨rfl,fun H=>absurd H z⟩
 rw[aq H];have lr:=ok.lr;have ls:=ok.ls;refine pm (uW (hg.next (kP N G)) (A.below G) ok.sr sp ok.sh q (by show x.hs.length<=7;omega) (by show x.rs.length<=17;omega) (by show x.fN.length<=40;omega)) ?_;rintro v' Is JB rfl;exact⟨_,rfl,rfl,fun _=>⟨_,_,(A.below G).below JB⟩⟩
end
theorem U9{w:World}{A:Option Addr}{n c:Nat}{l:List Rm}(hl:bR w A 7 (l.map Rm.row))(hlen:l.length=n)(hn:n<2147483648){f:Nat}{a k:Array Value}(cA:ay Tryz.prog f=true){p:Rm->Bool}
  (hf:∀w',Below w.heap.size w w'->∀x∈l,Pure Tryz.prog f (a.toList++([Rm.val x]:List Value)++k.toList).toArray w' fun v _=>v= .bool (p x)):
  Pure Tryz.prog 204 #[.slice A n c,.func (.func f) a k] w fun v _=>v= .int .i64 (fF p 0 l):=
 F.aA.vc (pC (val:=Rm.val) hlen hn hf (R:=fun v _=>v= .int .i64 (fF p 0 l)) (fun _=>rfl) (L:=fun i w'=>F.aA.L2 A n c f a k n i w.heap.size w' fun v _=>v= .int .i64 (fF p 0 l))
  (fun i w' h1 d=>F.aA.L2.step ⟨fun q=>absurd q h1,fun _=>d⟩)
  (fun i w' hi hw h=>F.aA.L2.step ⟨fun _=>by obtain⟨hb,e,g,b,_⟩:=(hl.au hw lf).at_ (fun _=>rfl) hlen hi;exact⟨hb,e,g,_,_,_,_,_,_,_,_,_,b,cA,h⟩,fun q=>by omega⟩)
  n 0 w rfl om (Below.refl _ _) rfl)
theorem Lq{w:World}{A:Option Addr}{n c:Nat}{l:List Rm}(hl:bR w A 7 (l.map Rm.row))(hlen:l.length=n)(hn:n<2147483648){f:Nat}{a k:Array Value}(cA:ay Tryz.prog f=true){p:Rm->Bool}
  (hf:∀w',Below w.heap.size w w'->∀x∈l,Pure Tryz.prog f (a.toList++([Rm.val x]:List Value)++k.toList).toArray w' fun v _=>v= .bool (p x)):
  Pure Tryz.prog 168 #[.slice A n c,.func (.func f) a k] w fun v _=>v= .bool (l.any p):=by
 refine F.cO.vc (pm (U9 hl hlen hn cA hf) ?_);rintro v b _ rfl;exact⟨_,rfl,F5 p l⟩
theorem Mx{w:World}{A:Option Addr}{n c:Nat}{l:List ByteArray}(h:bR w A 1 (l.map gq))(hlen:l.length=n)(hn:n<=1000000):
  Pure Tryz.prog 127 #[.slice A n c] w fun v w'=>∃A' c',v= .slice A' n c'/\aE w' w.heap.size 88 A' n c' 1 (l.map gq):=
 F.fK.vc (gF (R:=fun v w'=>∃A' c',v= .slice A' n c'/\aE w' w.heap.size 88 A' n c' 1 (l.map gq)) nm h (by simpa using hlen) (fj (row:=gq) (fun _=>rfl) (fun x u h=>by rw[eb.1 h];rfl)).1 (fj (row:=gq) (sz:=1) (fun _=>rfl) (fun x u h=>by rw[eb.1 h];rfl)).2 om fun A' c' w' o=>⟨A',c',rfl,o⟩)

theorem dY{w:World}{B b:Nat}{cs vs:List Value}{ty:Nat}(d:w.heap[b]? =some (.cells cs.toArray ty (0,0)))(hB:B<=b)(j n:Nat)(hj:j+n<=cs.length){boxes:List rJ}(g:hasType ty boxes=false){K:World->Prop}
  (h:∀w',aL w w' b ty (setCells cs j vs)->K w') {a:Addr} (ha:a=⟨b,j,none⟩:=by simp only[bT]):
  ∃(c:List Value)(t:Nat),B<=a.block/\a.spot=none/\w.heap[a.block]? =some (.cells c.toArray t (0,0))/\a.off+n<=c.length/\hasType t boxes=false/\∀w',aL w w' a.block t (setCells c a.off vs)->K w':=by
 subst ha;exact⟨cs,ty,hB,rfl,d,hj,g,h⟩
def Gs(x:Cm):Cm×Int:=({x with dS:=[],bQ:=0},0)
def Eo(x:Cm)(e:Ev):Cm×Int:=match e.nums with
 |[a]=>({x with oI:=(IH x.fW x.oI a e.tick).1},(IH x.fW x.oI a e.tick).2)
 |_=>(x,1)
def rC(x:Cm)(e:Ev):Cm×Int:=match e.nums,e.gw with
 |[a],[r]=>match oH x.jo x.wP a e.tick r with
  | .error c=>(x,c)
  | .ok v=>({x with wP:=v,oI:=(zF x.fW x.oI v e.tick).1},(zF x.fW x.oI v e.tick).2)
 |_,_=>(x,1)
def yM(x:Cm)(e:Ev):Cm×Int:=match e.nums,e.gw,e.texts with
 |[a],[r,m,cx,c,d],[t]=>
  if(x.rs.any fun r=>decide (r.kind=1))=true then(x,10)else
  let y:Cm:={x with hs:=x.hs++[⟨a,t,r,m,cx,c,d⟩]}
  if fa y.ps y.hs≠0 then(y,fa y.ps y.hs)else(y,tj y)
 |_,_,_=>(x,1)
noncomputable def nP(H:oG)(x:Cm)(e:Ev):Cm×Int:=match e.nums,e.texts with
 |[a,r],[n,k]=>({x with cU:=x.cU++[⟨a,r,n,k⟩]},(dO H (x.cU++[⟨a,r,n,k⟩]) []).2)
 |_,_=>(x,1)
def yN(x:Cm)(e:Ev):Cm×Int:=match e.nums,e.texts with
 |[kd,a,b],[n,lo,hi]=>
  let y:Cm:={x with rs:=x.rs++[⟨n,kd,e.gw,lo,hi,a,b⟩]}
  if(oz y.ps y.hs y.rs).2≠0 then(y,(oz y.ps y.hs y.rs).2)else(y,tj y)
 |_,_=>(x,1)
theorem zH(l:List Ch)(v:List Va)(a t:Int)(r:ByteArray):(∃d,oH l v a t r= .error d/\d≠0)∨∃i c u,l[i]? =some c/\v[i]? =some u/\vR c.pB=true/\vR c.offset=true/\vR r=true/\oH l v a t r= .ok (v.set i ⟨a,t,vO c u (gy c r) t,rS (gy c r)⟩):=by
 unfold oH;by_cases g:(iP l).2=0/\rn l v=true/\vR r=true
 ·rw[bb g];rcases Eg (fun c=>decide (c.id=a)) l 0 with⟨hi,_⟩|⟨i,c,hi,hx,_,_⟩
  ·rw[hi];exact .inl ⟨7,rfl,dc⟩
  ·rw[hi,jx];obtain⟨hl,_⟩:=Iv g.2.1;have n:i<l.length:=(eh.1 hx).1;have hu:v[i]? =some v[i]:=af om;show(∃d,(if 0<=t/\t<=1073741824 then _ else _)=Except.error d/\d≠0)∨_;by_cases h:0<=t/\t<=1073741824
   ·rw[bb h];simp only[hx,hu];by_cases j:t<v[i].tick
    ·rw[bb j];exact .inl ⟨5,rfl,dc⟩
    ·obtain⟨_,m⟩:=uj g.1;obtain⟨⟨v1,v2,_⟩,_,_⟩:=uk (m i c hx);refine .inr ⟨i,c,v[i],hx,hu,v1,v2,g.2.2,?_⟩;show(if 0<=t/\t<=1073741824 then _ else _)=_;rw[bb h,aq j]
   ·rw[aq h];exact .inl ⟨2,rfl,dc⟩
 ·rw[aq g];exact .inl ⟨1,rfl,dc⟩
theorem Ep{l:List Ch}{v:List Va}{a t:Int}{r:ByteArray}{c:Int}(h:oH l v a t r= .error c):c≠0:=by
 rcases zH l v a t r with⟨e,h1,d⟩|⟨_,_,_,_,_,_,_,_,h1⟩
 ·rw[h1]at h;cases h;exact d
 ·rw[h1]at h;cases h
theorem zI{l:List Ch}{v:List Va}{a t:Int}{r:ByteArray}{u:List Va}(h:oH l v a t r= .ok u)(d:∀x∈l,x.pB.size<=40/\x.offset.size<=40)(g:∀y∈v,ma y.num)(j:r.size<=40):(∀y∈u,ma y.num)/\u.length=v.length:=by
 rcases zH l v a t r with⟨e,h1,_⟩|⟨i,c,x,hx,_,v1,v2,v3,h1⟩
 ·rw[h1]at h;cases h
 ·rw[h1]at h;cases h;refine⟨fun y hy=> ?_,wA⟩;rcases GI hy with hy|rfl
  ·exact g y hy
  ·obtain⟨c1,c2⟩:=d c (ga hx);have s:Sm 121 (gy c r):=Sm.mono (((lx v1 c1).mul (lx v3 j)).add (lx v2 c2)) om;have:=s.length om;show(pM (gy c r)).length<=1000;omega
section
variable {w0 w:World} {b:Nat} {k:Ca} {xs:List Rm} {x:Cm} {ea:Ea} {e:Ev}
theorem NS(hb:Below w0.heap.size w0 w)(h:Wk w w0.heap.size b k xs x):
  cI Tryz.prog 122 #[.pointer (some ⟨b,0,none⟩),ea.val e] w0.heap.size w (Ln (Gs x) w0.heap.size b):=by
 refine F.qK.u7 hb.size fun w1 m=> ?_
 have h1:=h.below (extAll m);refine dY h1.box h.hB 4 1 (by show 5<=14;omega) rfl fun y i=> ?_
 have n:=h1.o.bW (bG.wrote i h1.box);refine dY i.at_ h.hB 5 1 (by show 6<=14;omega) rfl fun z j=>⟨rfl,fun _=>⟨{k with w:= .nil},xs,j.at_,h.hB,?_⟩⟩
 have d:=n.bW (bG.wrote j i.at_);exact⟨d.p,d.h,d.r,d.f,d.e,d.s,.inl rfl,rfl,⟨eU _,fun _=>rfl⟩,d.c,d.v,d.a,d.l,d.g,d.q⟩
theorem RS(hg:bj w0)(hb:Below w0.heap.size w0 w)(h:Wk w w0.heap.size b k xs x)(ok:dz x)(he:pJ w0 ea e)(hn:e.nums.length=1):
  cI Tryz.prog 121 #[.pointer (some ⟨b,0,none⟩),ea.val e] w0.heap.size w (Ln (Eo x e) w0.heap.size b):=by
 obtain⟨id,tick,kind,nums,gw,texts⟩:=e;obtain⟨a,rfl⟩:=Cy hn;unfold Eo;dsimp only;refine F.sN.u7 hb.size fun w1 y=> ?_
 have z:=kE hb y;have h1:=h.below (extAll y);have A:=he.au z;obtain⟨p1,H,q1,c1,_⟩:=A.n.at_ (row:=fG) (fun _=>rfl) A.ln (i:=0) sm;refine⟨_,_,_,cF h1.box 8 1,_,_,_,cF h1.box 9 1,p1,H,q1,_,c1,fun M C=> ?_⟩;have d:=h1.below (extAll C);have D:=kE z C;have la:=ok.la;refine pm (ry (hg.next D) d.o.a.sl d.o.a.rows (by have:=d.o.a.rows;omega) ok.sa d.o.l.sl d.o.l.rows a tick) ?_;rintro v N I ⟨J,K,L,rfl,m⟩;have j:=d.below I;have m:=m.base (B:=w0.heap.size) D.size;refine⟨_,_,_,_,rfl,fun E=>dY j.box j.hB 9 1 (by show 10<=14;omega) rfl fun O G=>⟨rfl,fun _=>⟨{k with l:=⟨J,K,L⟩},xs,G.at_,j.hB,?_⟩⟩,fun E=>⟨rfl,fun k=>absurd k E⟩⟩;have st:=bG.wrote G j.box;have o:=j.o.bW st;exact⟨o.p,o.h,o.r,o.f,o.e,o.s,o.pl,o.nw,o.cw,o.c,o.v,o.a,m.bW st dc,o.g,o.q⟩
theorem IU(hg:bj w0)(hb:Below w0.heap.size w0 w)(h:Wk w w0.heap.size b k xs x)(ok:dz x)(he:pJ w0 ea e)(hn:e.nums.length=1)(W:e.gw.length=1):
  cI Tryz.prog 120 #[.pointer (some ⟨b,0,none⟩),ea.val e] w0.heap.size w (Ln (rC x e) w0.heap.size b):=by
 obtain⟨id,tick,kind,nums,gw,texts⟩:=e;obtain⟨a,rfl⟩:=Cy hn;obtain⟨r,rfl⟩:=Cy W;have sr:=he.sr;simp only[eb,Ut]at sr;unfold rC;dsimp only;refine F.oE.u7 hb.size fun w1 R=> ?_
 have S:=kE hb R;have h1:=h.below (extAll R);have A:=he.au S;obtain⟨p1,X,q1,c1,_⟩:=A.n.at_ (row:=fG) (fun _=>rfl) A.ln (i:=0) sm;obtain⟨p2,a2,Y,c2,_⟩:=A.r.at_ (row:=gq) (fun _=>rfl) A.lr (i:=0) sm;refine⟨_,_,_,cF h1.box 6 1,_,_,_,cF h1.box 7 1,p1,X,q1,_,c1,p2,a2,Y,_,c2,fun w8 T=> ?_⟩;have d:=h1.below (extAll T);have G:=kE S T;have lc:=ok.lc;have lv:=ok.lv;have la:=ok.la;have ll:=ok.ll;have nc:=d.o.c.rows;have nv:=d.o.v.rows;have na:=d.o.a.rows;have nl:=d.o.l.rows;refine pm (nM (hg.next G) d.o.c.sl nc d.o.v.sl nv om ok.sc ok.sv (by show r.size<=1000;omega)) ?_;intro v DK U (C:WK (oH x.jo x.wP a tick r) _ _ _ _);have H:=d.below U;have Z:=kP G U;cases D:oH x.jo x.wP a tick r with
 |error er=>
  rw[D]at C;cases C;have y:er≠0:=Ep D;exact⟨_,_,_,_,rfl,fun _=>⟨rfl,fun k=>absurd k y⟩,fun k=>absurd y k⟩
 |ok vs=>
  rw[D]at C;obtain⟨A9,c9,rfl,E⟩:=C;have E:=E.base (B:=w0.heap.size) G.size;have n9:=E.rows;have I:=(zI D ok.sg ok.sv sr).1;refine⟨_,_,_,_,rfl,fun k=>absurd rfl k,fun _=>⟨_,_,_,cF H.box 8 1,_,_,_,cF H.box 9 1,fun Dj J=> ?_⟩⟩;have K:=H.below (extAll J);have L:=kE Z J;have z:=E.below (extAll J);refine pm (cW (hg.next L) K.o.a.sl na om ok.sa K.o.l.sl nl z.sl n9 om I om) ?_;rintro v AE M ⟨WQ,n16,WR,rfl,N⟩;have m:=K.below M;have ox:=kP L M;have N:=N.base (B:=w0.heap.size) L.size;have Zs:=z.below M;refine⟨_,_,_,_,rfl,fun O=>⟨rfl,fun k=>absurd k O⟩,fun O=> ?_⟩;refine dY m.box m.hB 7 1 (by show 8<=14;omega) rfl fun tx P=> ?_
  have j:=bG.wrote P m.box;refine dY P.at_ m.hB 9 1 (by show 10<=14;omega) rfl fun Uw V=>⟨(bx (Value.int .i64) (dT.1 O)).symm,fun _=>⟨{k with v:=⟨A9,k.v.n,c9⟩,l:=⟨WQ,n16,WR⟩},xs,V.at_,m.hB,?_⟩⟩
  have Q:=bG.wrote V P.at_;have o:=(m.o.bW j).bW Q;exact⟨o.p,o.h,o.r,o.f,o.e,o.s,o.pl,o.nw,o.cw,o.c,(Zs.bW j dc).bW Q dc,o.a,(N.bW j dc).bW Q dc,o.g,o.q⟩
theorem IV{H:oG}(fO:fM H)(hg:bj w0)(hb:Below w0.heap.size w0 w)(h:Wk w w0.heap.size b k xs x)(ok:dz x)(he:pJ w0 ea e)(hn:e.nums.length=2)(N:e.texts.length=2):
  cI Tryz.prog 116 #[.pointer (some ⟨b,0,none⟩),ea.val e] w0.heap.size w (Ln (nP H x e) w0.heap.size b):=by
 obtain⟨id,tick,kind,nums,gw,texts⟩:=e;obtain⟨a,r,rfl⟩:=Kp hn;obtain⟨n,q,rfl⟩:=Kp N;unfold nP;dsimp only;refine F.oD.u7 hb.size fun w1 E=> ?_
 have G:=kE hb E;have h1:=h.below (extAll E);have j:=he.au G;have I:=fun(i:Nat) (hi:i<2)=>j.n.at_ (row:=fG) (fun _=>rfl) j.ln (i:=i) hi
 have J:=fun(i:Nat) (hi:i<2)=>j.t.at_ (row:=gq) (fun _=>rfl) j.lt (i:=i) hi
 obtain⟨p1,O,q1,c1,_⟩:=I 0 om;obtain⟨p2,a2,P,c2,_⟩:=I 1 om;obtain⟨p3,a3,Q,c3,_⟩:=J 0 om;obtain⟨R,a4,S,c4,_⟩:=J 1 om;refine⟨_,_,_,cF h1.box 10 1,p1,O,q1,_,c1,p2,a2,P,_,c2,p3,a3,Q,_,c3,R,a4,S,_,c4,fun X K=> ?_⟩;have c:=h1.below (extAll K);have L:=kE G K;have lg:=ok.lg;have ng:=c.o.g.rows;refine jh KS c.o.g (val:= .agg #[.int .i64 a,.int .i64 r,.string n,.string q]) rfl (by simp[Value.cells,bl]) L.size om dc fun A' c' T y d U=> ?_
 have M:=d _ _ _ _ dc c.box;refine dY M c.hB 10 1 (by show 11<=14;omega) rfl fun V z=> ?_
 have A:=(L.trans U).trans (aL.dQ z c.hB);have B:=bG.wrote z M;obtain⟨g1,g2,g3,g4,g5,g6,g7,g8,g9,g10,_,g12⟩:=c.o.Lm d;have C:dP T w0.heap.size {k with g:=⟨A',k.g.n+1,c'⟩} xs {x with cU:=x.cU++[⟨a,r,n,q⟩]}:=
  ⟨g1 dc,g2 dc,g3 dc,g4 dc,c.o.e,g5 dc,g6 dc,c.o.nw,c.o.cw,g7 dc,g8 dc,g9 dc,g10 dc,by rw[eH];exact y,g12 dc⟩
 have m:Wk V w0.heap.size b {k with g:=⟨A',k.g.n+1,c'⟩} xs {x with cU:=x.cU++[⟨a,r,n,q⟩]}:=⟨z.at_,c.hB,C.bW B⟩;have D:=m.o.g.rows;refine⟨_,_,_,cF m.box 10 1,pm (cn fO (hg.next A) m.o.g.sl D (by show k.g.n+1<_;omega) (A1:=none) (n1:=0) (c1:=0) (l:=[]) (.inl rfl) rfl om om) ?_⟩;rintro v Y W rfl;exact⟨_,_,rfl,rfl,fun _=>⟨_,_,m.below W⟩⟩
theorem Vb(y:Rm)(w:World):Pure Tryz.prog 169 #[y.val] w fun v _=>v= .bool (decide (y.r.kind=1)):=
 F.mV.vc fun w1 _=>rfl
theorem NT(hg:bj w0)(hb:Below w0.heap.size w0 w)(h:Wk w w0.heap.size b k xs x)(ok:dz x)(he:pJ w0 ea e)(hn:e.nums.length=1)(U:e.gw.length=5)(V:e.texts.length=1):
  cI Tryz.prog 112 #[.pointer (some ⟨b,0,none⟩),ea.val e] w0.heap.size w (Ln (yM x e) w0.heap.size b):=by
 obtain⟨id,tick,kind,nums,gw,texts⟩:=e;obtain⟨a,rfl⟩:=Cy hn;obtain⟨r,m,cx,d,g,rfl⟩:=ZA U;obtain⟨t,rfl⟩:=Cy V;have sr:=he.sr;have st:=he.st;simp only[cc,fs,u1,MA,Ut]at sr st;unfold yM;dsimp only;have lr:=ok.lr;have ls:=ok.ls;have lp:=ok.lp;have lh:=ok.lh;have K:=h.o.e;have W:x.rs.any (fun r=>decide (r.kind=1))=xs.any fun y=>decide (y.r.kind=1):=by rw[<-K,List.any_map];rfl
 have nr:xs.length=x.rs.length:=by rw[<-K,ec]
 refine F.qG.u7 hb.size fun w1 L=> ?_
 have X:=kE hb L;have h1:=h.below (extAll L);refine⟨_,_,_,cF h1.box 2 1,pm (Lq h1.o.r.sl h1.o.r.rows (by have:=h1.o.r.rows;omega) (a:= #[]) (k:= #[]) (p:=fun y=>decide (y.r.kind=1)) kF fun w' _ y _=>Vb y w') ?_⟩;rintro v w5 M rfl;have N:=h1.below M;have O:=kP X M;have j:=he.au O;rw[<-W];refine⟨_,rfl,fun q=>by rw[bb q];exact⟨rfl,fun k=>absurd (show(10:Int)=0 from k) dc⟩,fun q=> ?_⟩;rw[aq (by rw[q];decide)];have l:=fun(i:Nat) (hi:i<5)=>j.r.at_ (row:=gq) (fun _=>rfl) j.lr (i:=i) hi
 obtain⟨p1,Y,q1,c1,_⟩:=j.n.at_ (row:=fG) (fun _=>rfl) j.ln (i:=0) sm;obtain⟨p2,a2,Z,c2,_⟩:=j.t.at_ (row:=gq) (fun _=>rfl) j.lt (i:=0) sm;obtain⟨p3,a3,q3,c3,_⟩:=l 0 om;obtain⟨p4,a4,q4,c4,_⟩:=l 1 om;obtain⟨p5,a5,q5,c5,_⟩:=l 2 om;obtain⟨p6,a6,q6,c6,_⟩:=l 3 om;obtain⟨p7,a7,q7,c7,_⟩:=l 4 om;refine⟨_,_,_,cF N.box 1 1,p1,Y,q1,_,c1,p2,a2,Z,_,c2,p3,a3,q3,_,c3,p4,a4,q4,_,c4,p5,a5,q5,_,c5,p6,a6,q6,_,c6,p7,a7,q7,_,c7,fun Dk P=> ?_⟩;have c:=N.below (extAll P);have Q:=kE O P;have nh:=c.o.h.rows;refine jh FV c.o.h (val:= .agg #[.int .i64 a,.string t,.string r,.string m,.string cx,.string d,.string g]) rfl (by simp[Value.cells,bl]) Q.size om dc fun A' c' CP C R La=> ?_
 have S:=R _ _ _ _ dc c.box;refine dY S c.hB 1 1 (by show 2<=14;omega) rfl fun My D=> ?_
 have T:=(Q.trans La).trans (aL.dQ D c.hB);have E:=bG.wrote D S;obtain⟨g1,_,g3,g4,g5,g6,g7,g8,g9,g10,g11,g12⟩:=c.o.Lm R;have G:dP CP w0.heap.size {k with h:=⟨A',k.h.n+1,c'⟩} xs {x with hs:=x.hs++[⟨a,t,r,m,cx,d,g⟩]}:=
  ⟨g1 dc,by rw[eH];exact C,g3 dc,g4 dc,c.o.e,g5 dc,g6 dc,c.o.nw,c.o.cw,g7 dc,g8 dc,g9 dc,g10 dc,g11 dc,g12 dc⟩
 have B:Wk My w0.heap.size b {k with h:=⟨A',k.h.n+1,c'⟩} xs {x with hs:=x.hs++[⟨a,t,r,m,cx,d,g⟩]}:=⟨D.at_,c.hB,G.bW E⟩;have sh:∀y∈x.hs++[(⟨a,t,r,m,cx,d,g⟩:Ho)],SmH y:=fun y hy=>by
  rcases fi.1 hy with hy|hy
  ·exact ok.sh y hy
  ·rw[eb.1 hy];exact⟨by show r.size<=1000;omega,by show m.size<=1000;omega,by show cx.size<=1000;omega,by show d.size<=1000;omega,by show g.size<=1000;omega,by show t.size<_;omega⟩
 have z:(x.hs++[(⟨a,t,r,m,cx,d,g⟩:Ho)]).length<=7:=by rw[ek];simp;omega
 have i30:=B.o.uV ok.sr;refine⟨_,_,_,_,_,_,cF B.box 0 2,pm (aM (hg.next T) (i30.cg ok.sp sh (by show x.ps.length<=7;omega) z)) ?_⟩;rintro v w35 H rfl;refine⟨_,rfl,fun A=> ?_,fun I=> ?_⟩
 ·rw[bb A];exact⟨rfl,fun I=>absurd I A⟩
 rw[aq I];refine pm (uW (hg.next (kP T H)) (B.below H) ok.sr ok.sp sh (by show x.ps.length<=7;omega) z (by show x.rs.length<=17;omega) (by show x.fN.length<=40;omega)) ?_;rintro v Kh J rfl;exact⟨_,rfl,rfl,fun _=>⟨_,_,(B.below H).below J⟩⟩
end

def stepT(y:Sw):ByteArray:=(((((⟨#[59]⟩:ByteArray)++iS y.hold)++Cs)++iS y.av)++Cs)++iS y.aV
def adE(id:Int)(l:List Sw):List UInt8:=((⟨#[112,108,97,110,32]⟩:ByteArray)++iS id).data.toList++l.flatMap fun y=>(stepT y).data.toList
noncomputable def lE(H:oG)(x:Cm):ByteArray:=H.sum ⟨(adE x.bQ x.dS).toArray⟩
noncomputable def Er(H:oG)(x:Cm)(t:Int):Bool:=Gl H x.cU x.apps (lE H x) [2,3] 1000 0 t
theorem wQ{T e B b:Nat}{g:List Value}{w w':World}{tys:List Nat}(h:Lib.IsBuilderF T e B b g w)(ho:Lib.OthersKept e (some b) w w')(h1:T∉tys)(i:e∉tys):PG tys w w':=by
 intro k ty cs d a;refine(ho k _ a (fun q=> ?_) fun c j q=>by cases q;exact i d).trans a.symm;cases q;rcases h with⟨_,v,hb,_⟩|⟨_,v,hb,_⟩
 all_goals
  rw[a]at hb;cases hb;exact h1 d
theorem NV{y:Sw}(h:SmW y):(stepT y).size<=63/\(iS y.hold).size<=20/\(iS y.av).size<=20/\(iS y.aV).size<=20:=by
 have l1:=yJ h.1.1 h.1.2;have a:=yJ h.2.1.1 h.2.1.2;have b:=yJ h.2.2.1 h.2.2.2;refine⟨?_,l1,a,b⟩;unfold stepT;simp only[jv];have c:(⟨#[59]⟩:ByteArray).size=1:=rfl;have d:Cs.size=1:=rfl;omega
section
variable {H:oG} {w:World} {k:Ca} {xs:List Rm} {x:Cm}
theorem NW(ok:fM H){w0:World}(hg:bj w0){b:Nat}(I:bR w0 k.w.A 3 (x.dS.map Sw.row))(hn:x.dS.length=k.w.n)(sw:∀y∈x.dS,SmW y)(lw:x.dS.length<=6):
  ∀(m i:Nat)(w:World)(pre:List UInt8),i+m=x.dS.length->Below w0.heap.size w0 w->Lib.IsBuilderF 117 5 w0.heap.size b (Lib.byteCells pre) w->pre.length+m*63<=1000->
   F.bK.L4 ⟨b,0,none⟩ k.w.A k.w.n k.w.c k.w.n i w0.heap.size w fun v _=>v= .string (H.sum ⟨(pre++(x.dS.drop i).flatMap fun y=>(stepT y).data.toList).toArray⟩):=by
 intro m;induction m with
 |zero=>
  intro i w pre hi hw g hp;refine F.bK.L4.step ⟨fun q=>by omega,fun _=> ?_⟩;rw[cd om,LQ,uf];refine Calls.mono (Tryz.Builder_String_any_k w0.heap.size b pre w g hw.size) ?_;rintro e w' ⟨rfl,J,K,L⟩;refine⟨_,rfl,K,wQ g L dc dc,_,rfl,pm (iw ok (by show pre.toArray.size<=_;rw[Bt];omega)) ?_⟩;rintro v Q _ rfl;exact⟨_,rfl,rfl⟩
 |succ m ih=>
  intro i w pre hi hw g hp;have h:i<x.dS.length:=om;have hy:=sw _ (bw h);obtain⟨s0,s1,s2,R⟩:=NV hy;obtain⟨q1,a,M,c1,_⟩:=(I.au hw lf).at_ (row:=Sw.row) (fun _=>rfl) hn h;have S:(⟨#[59]⟩:ByteArray).size=1:=rfl;have T:Cs.size=1:=rfl;refine F.bK.L4.step ⟨fun _=>⟨q1,a,M,_,_,_,c1,fun U j=>pm (tZ (hg.next (kE hw j)) _ hy.1.1 hy.1.2) ?_⟩,fun q=>by omega⟩;have N:=kE hw j;rintro v V r rfl;have z:=kP N r;refine⟨_,rfl,om,by rw[jv];show _+Cs.size<=_;omega,pm (tZ (hg.next z) _ hy.2.1.1 hy.2.1.2) ?_⟩;rintro v W B rfl;have C:=kP z B;refine⟨_,rfl,by simp only[jv];show _+_+Cs.size+_<=_;omega,by simp only[jv];show _+_+Cs.size+_+Cs.size<=_;omega,pm (tZ (hg.next C) _ hy.2.2.1 hy.2.2.2) ?_⟩;rintro v O D rfl;have E:=kP C D;have d:=fR (fR (fR (fR g (iD (extAll j)) (fun _ e=>by cases e)) (iD r) (fun _ e=>by cases e)) (iD B) (fun _ e=>by cases e)) (iD D) (fun _ e=>by cases e);refine⟨_,rfl,by simp only[jv];show _+_+Cs.size+_+Cs.size+_<=_;omega,Calls.mono (Tryz.Bz w0.heap.size b _ (stepT x.dS[i]) O d (by rw[Lib.byteCells_length];omega) E.size) ?_⟩;rintro e P ⟨rfl,l,G,o⟩;refine⟨_,rfl,G,wQ d o dc dc,_,_,rfl,ir,?_⟩;rw[show(i:Int)+1=((i+1:Nat):Int) by omega,cz h,u6,<-lN];refine ih (i+1) P (pre++(stepT x.dS[i]).data.toList) om (E.trans G) ?_ ?_
  ·rw[Lib.byteCells_append];exact .inr l
  ·rw[ek];have:(stepT x.dS[i]).data.toList.length=(stepT x.dS[i]).size:=by rw[ob];rfl
   omega
theorem bK(ok:fM H)(hg:bj w)(q:bR w k.w.A 3 (x.dS.map Sw.row))(hn:x.dS.length=k.w.n)(sw:∀y∈x.dS,SmW y)(lw:x.dS.length<=6)(hi: -9223372036854775808<=x.bQ/\x.bQ<=9223372036854775807):
  Pure Tryz.prog 17 #[k.val x] w fun v _=>v= .string (lE H x):=by
 have l1:=yJ hi.1 hi.2;have J:(⟨#[112,108,97,110,32]⟩:ByteArray).size=5:=rfl;refine F.bK.vc fun w1 i=>cC (z:= .agg #[.pointer none,.slice none 0 0]) _ kF (k0 i).size fun r B C D=> ?_
 have c:=k0 i;have j:=c.trans (C.mono c.size);refine pm (tZ (hg.next j) _ hi.1 hi.2) ?_;rintro v E l rfl;have m:=kP j l;have d:Lib.IsBuilderF 117 5 w.heap.size w1.heap.size (Lib.byteCells []) r:= .inl ⟨c.size,.slice none 0 0,B,World.ownsRowF_nil _ _ _ _,by simp[Value.ownBlock]⟩;have a:=fR d (iD l) (fun _ e=>by cases e);refine⟨_,rfl,om,Calls.mono (Tryz.Bz w.heap.size w1.heap.size _ ((⟨#[112,108,97,110,32]⟩:ByteArray)++iS x.bQ) E a (by rw[Lib.byteCells_length,jv];simp;omega) m.size) ?_⟩;rintro e G ⟨rfl,g,o,h⟩;refine⟨_,rfl,o,wQ a h dc dc,_,_,rfl,?_⟩;have I:=NW (k:=k) ok hg (b:=w1.heap.size) q hn sw lw x.dS.length 0 G (((⟨#[112,108,97,110,32]⟩:ByteArray)++iS x.bQ).data.toList) om (m.trans o) (.inr g) (by
  have:((⟨#[112,108,97,110,32]⟩:ByteArray)++iS x.bQ).data.toList.length=((⟨#[112,108,97,110,32]⟩:ByteArray)++iS x.bQ).size:=by rw[ob];rfl
  rw[this,jv];omega)
 exact I
theorem fI(ok:fM H)(hg:bj w)(h:ux w k xs x)(a:dz x)(t:Int):
  Pure Tryz.prog 36 #[k.val x,.int .i64 t] w fun v _=>v= .bool (Er H x t):=by
 have lg:=a.lg;have lq:=a.lq;have lw:=a.lw;have ng:=h.ng;have nq:=h.nq;have sub:=fun {w':World} (hw:Below w.heap.size w w')=>bK (x:=x) (k:=k) ok (hg.next hw) (h.pl.below hw) h.nw a.sw lw a.si
 have d:=fun {w':World} (hw:Below w.heap.size w w') {A0:Option Addr} {c0:Nat} (ho:bR w' A0 1 ([2,3].map fG))=>ix (subject:=lE H x) (window:=1000) (except:=0) (at_:=t) (n0:=2) (c0:=c0) (c:=k.g.c) ok (hg.next hw) (h.g.below hw) ng om (h.q.below hw) nq om h.cq ho rfl om
 refine F.fI.vc ⟨fun w1 e=>pm (sub (k0 e)) ?_,fun B l=> ?_⟩
 ·rintro v C m rfl;have n:=kP (k0 e) m;refine⟨_,rfl,bc gQ [.int .i64 2,.int .i64 3] (by simp[Value.cells]) sm lf fun A5 c5 D o r=> ?_⟩;refine pm (d (kP n r) o.sl) ?_;rintro v y _ rfl;exact⟨_,rfl,rfl⟩
 ·have z:=k0 l;refine bc gQ [.int .i64 2,.int .i64 3] (by simp[Value.cells]) sm lf fun A5 c5 E b A=> ?_
  have i:=kP z A;refine pm (sub i) ?_;rintro v G j rfl;refine⟨_,rfl,pm (d (kP i j) (b.below j).sl) ?_⟩;rintro v y _ rfl;exact⟨_,rfl,rfl⟩
end
end Go.Proofs.YtbcojgcjjpggnaaGreatDoor.B

open Go.Proofs.YtbcojgcjjpggnaaGreatDoor

namespace Go.Proofs.YtbcojgcjjpggnaaGreatDoor.B
open Go Go.RowKit Go.Proofs Go.Proofs.YtbcojgcjjpggnaaGreatDoor.Vc

theorem RU:El Tryz.prog 41 57 3 24:=El.of kF
section
variable {w0:World} {B:Nat} {A:Option Addr} {n c:Nat} {l:List Sw} {f:Nat} {a k:Array Value}
end
section
variable {w:World} {A0 A1 A A':Option Addr} {n0 c0 n1 c1 n c n' c':Nat} {ps:List Pa} {hs:List Ho} {l m:List Sw}
end

def di:List Int->List Sw
 |a::b::c::r=>⟨a,b,c⟩::di r
 |_=>[]
def iota(n:Nat):List Int:=(List.range n).map fun(i:Nat)=>(i:Int)
theorem NY(n:Nat):iota (n+1)=iota n++[(n:Int)]:=by simp[iota,B6]
theorem RV(n:Nat):(iota n).length=n:=by simp[iota]
theorem Lr:∀{l:List Int},l.length % 3=0->(di l).length*3=l.length/\∀j,(hj:j<(di l).length)->(h:3*j+2<l.length)->(di l)[j]=⟨l[3*j],l[3*j+1],l[3*j+2]⟩:=by
 intro l;induction l using di.induct with
 |case1 a b c r ih=>
  intro h;simp only[eL]at h;obtain⟨h1,d⟩:=ih om;refine⟨by simp only[di,eL];omega,fun j hj hl=> ?_⟩;cases j with
  |zero=>rfl
  |succ j=>
   simp only[di,eL]at hj hl;have:=d j om om;simp only[di,List.getElem_cons_succ];rw[this];rfl
 |case2 l hl=>
  intro h
  match l,hl with
  |[],_=>exact⟨rfl,fun j hj=>by simp[di]at hj⟩
  |[_],_=>simp at h
  |[_,_],_=>simp at h
  |a::b::c::r,hl=>exact absurd rfl (hl a b c r)
def yO(x:Cm)(e:Ev):Cm×Int:=
 if e.nums=[]then(x,9)
 else if(pX x.ps x.hs x.rs x.fN (di e.nums) (iota (di e.nums).length)).2≠0 then(x,(pX x.ps x.hs x.rs x.fN (di e.nums) (iota (di e.nums).length)).2)
 else({x with dS:=di e.nums,bQ:=e.id},0)
noncomputable def lF(H:oG)(x:Cm)(e:Ev):Cm×Int:=match e.nums,e.texts with
 |[a],[t]=>({x with apps:=x.apps++[⟨a,e.tick,lE H x,t⟩]},(dO H x.cU (x.apps++[⟨a,e.tick,lE H x,t⟩])).2)
 |_,_=>(x,1)
noncomputable def mq(H:oG)(x:Cm)(e:Ev):Cm×Int:=
 if Er H x e.tick=false then(x,23)else match x.dS with
 |[]=>(x,1)
 |t::r=>match zU x.ps x.hs x.fN t with
  | .error a=>(x,a)
  | .ok l=>({x with fN:=l,dS:=r,bQ:=if r.length=0 then 0 else x.bQ},tj {x with fN:=l,dS:=r,bQ:=if r.length=0 then 0 else x.bQ})
section
variable {w0 w:World} {b:Nat} {k:Ca} {xs:List Rm} {x:Cm} {ea:Ea} {e:Ev}
theorem NZ(hg:bj w0)(hb:Below w0.heap.size w0 w)(h:Wk w w0.heap.size b k xs x)(ok:dz x)(he:pJ w0 ea e)(hn:e.nums.length % 3=0):
  cI Tryz.prog 117 #[.pointer (some ⟨b,0,none⟩),ea.val e] w0.heap.size w (Ln (yO x e) w0.heap.size b):=by
 have ln:=he.ln;have mn:=he.mn;obtain⟨hS,DE⟩:=Lr hn;unfold yO;refine F.dI.u7 hb.size ⟨fun q w1 x1=> ?_,fun q w2 x2=> ?_⟩
 ·rw[bb (ep om)];exact⟨rfl,fun q=>absurd (show(9:Int)=0 from q) dc⟩
 rw[aq (fun q'=>q (by rw[q']at ln;simp at ln;omega))];have iY:=kE hb x2;have h2:=h.below (extAll x2);have key:∀(m j:Nat)(A5:Option Addr)(c5:Nat)(J:Option Addr)(K:Nat)(w:World),j+m=(di e.nums).length->Below w0.heap.size w0 w->
   w.heap[b]? =some (.cells (k.cells x).toArray 139 (0,0))->dP w w0.heap.size {k with w:= .nil} xs {x with dS:=[]}->
   aE w w0.heap.size 57 A5 j c5 3 (((di e.nums).take j).map Sw.row)->aE w w0.heap.size 3 J j K 1 ((iota j).map fG)->
   F.dI.L6 ⟨b,0,none⟩ A5 j c5 J j K ((3*j:Nat):Int) e.id e.tick e.kind ea.n.A ea.n.n ea.n.c ea.r.A ea.r.n ea.r.c ea.t.A ea.t.n ea.t.c w0.heap.size w (Ln (if(pX x.ps x.hs x.rs x.fN (di e.nums) (iota (di e.nums).length)).2≠0 then(x,(pX x.ps x.hs x.rs x.fN (di e.nums) (iota (di e.nums).length)).2)
    else({x with dS:=di e.nums,bQ:=e.id},0)) w0.heap.size b):=by
  intro m;induction m with
  |zero=>
   intro j A5 c5 J K w hj hw box o B L;rw[va]at hj;subst hj;rw[List.take_length]at B;refine F.dI.L6.step ⟨fun q=>by omega,fun _=> ?_⟩;have hi:=o.uV ok.sr;have lp:=ok.lp;have lh:=ok.lh;have lr:=ok.lr;have ls:=ok.ls;have ns:x.fN.length=k.s.n:=hi.ns;refine⟨_,_,_,_,_,_,_,_,_,cF box 0 3,_,_,_,cF box 3 1,fun Ih y=> ?_⟩;have zY:=kE hw y;have i26:=hi.au (extAll y);refine pm (NQ (hg.next zY) (i26.pr ok.sp ok.sh (by show x.ps.length<=7;omega) (by show x.hs.length<=7;omega) (by show x.rs.length<=17;omega)) i26.s ns i26.cs (by show k.s.n<=40;omega) (B.below (extAll y)).sl rfl (L.below (extAll y)).sl (RV _) om) ?_;rw[i26.e];rintro v My M rfl;have Dr:=kP zY M;have IW:=ag (ag box (extAll y)) M;refine⟨_,_,rfl,fun C=>by rw[bb C];exact⟨rfl,fun q=>absurd q C⟩,fun h0=> ?_⟩;rw[aq h0];refine⟨fun WJ D=> ?_,fun WJ D=> ?_⟩
   all_goals
    have N:=((o.below (extAll y)).below M).below (extAll D);have t31:=((B.below (extAll y)).below M).below (extAll D);refine dY (ag IW (extAll D)) h.hB 4 1 (by show 5<=14;omega) rfl fun Is O=> ?_
    have E:=bG.wrote O (ag IW (extAll D));refine dY O.at_ h.hB 5 1 (by show 6<=14;omega) rfl fun QO py=>⟨rfl,fun _=>⟨{k with w:=⟨A5,(di e.nums).length,c5⟩},xs,py.at_,h.hB,?_⟩⟩
    have G:=bG.wrote py O.at_;have o':=(N.bW E).bW G;have P:=(t31.bW E dc).bW G dc;exact⟨o'.p,o'.h,o'.r,o'.f,o'.e,o'.s,P.slT,rfl,⟨P.jY,P.sO⟩,o'.c,o'.v,o'.a,o'.l,o'.g,o'.q⟩
  |succ m ih=>
   intro j A5 c5 J K w hj hw box o B L;have lL:j<(di e.nums).length:=om;have h3:3*j+2<e.nums.length:=om;refine F.dI.L6.step ⟨fun _=> ?_,fun q=>by omega⟩;refine so gQ lf L (x:= .int .i64 (j:Int)) rfl (by simp[Value.cells,bl]) hw.size om dc fun Q R w8 o8 g8 b8=> ?_
   have rG:=hw.trans b8;have S:=bG.grown L g8;have H:=he.au rG;have T:=fun(i:Nat) (hi:i<e.nums.length)=>H.n.at_ (row:=fG) (fun _=>rfl) H.ln (i:=i) hi
   obtain⟨p0,a0,q0,r0,_⟩:=T (3*j) om;obtain⟨p1,a1,q1,r1,_⟩:=T (3*j+1) om;obtain⟨p2,a2,q2,r2,_⟩:=T (3*j+2) om;have e1:((3*j+1:Nat):Int)=((3*j:Nat):Int)+1:=om;have e2:((3*j+2:Nat):Int)=((3*j:Nat):Int)+2:=om;rw[e1]at p1 r1;rw[e2]at p2 r2;refine⟨p0,a0,q0,_,r0,ir,p1,a1,q1,_,r1,ir,p2,a2,q2,_,r2,fun Dj I=> ?_⟩;have uy:=kE rG I;have U:=(B.bW S dc).below (extAll I);have Rx:=ag (S _ _ _ _ dc box) (extAll I);have V:=o.Lm S;obtain⟨g1,g2,g3,g4,g5,g6,g7,z,g9,g10,g11,g12⟩:=V;have W:dP w8 w0.heap.size {k with w:= .nil} xs {x with dS:=[]}:=⟨g1 dc,g2 dc,g3 dc,g4 dc,o.e,g5 dc,g6 dc,o.nw,o.cw,g7 dc,z dc,g9 dc,g10 dc,g11 dc,g12 dc⟩;have X:=W.below (extAll I);refine jh RU U (val:= .agg #[.int .i64 (e.nums[3*j]),.int .i64 (e.nums[3*j+1]),.int .i64 (e.nums[3*j+2])]) rfl (by simp[Value.cells,bl]) uy.size om dc fun Ls OX Dk Y Z Nv=>⟨ir,?_⟩
   obtain⟨g1,g2,g3,g4,g5,_,g7,z,g9,g10,g11,g12⟩:=X.Lm Z;have ah8:dP Dk w0.heap.size {k with w:= .nil} xs {x with dS:=[]}:=⟨g1 dc,g2 dc,g3 dc,g4 dc,o.e,g5 dc,.inl rfl,o.nw,o.cw,g7 dc,z dc,g9 dc,g10 dc,g11 dc,g12 dc⟩;rw[show((3*j:Nat):Int)+3=((3*(j+1):Nat):Int) by omega];refine ih (j+1) Ls OX Q R Dk om (uy.trans Nv) (Z _ _ _ _ dc Rx) ah8 ?_ ?_
   ·rw[Pp lL,eH,DE j lL h3];exact Y
   ·rw[NY,eH];exact(o8.below (extAll I)).bW Z dc
 have d:=h2.o;exact key (di e.nums).length 0 none 0 none 0 w2 om iY h2.box ⟨d.p,d.h,d.r,d.f,d.e,d.s,.inl rfl,rfl,⟨eU _,fun _=>rfl⟩,d.c,d.v,d.a,d.l,d.g,d.q⟩ aE.nil aE.nil
theorem Gt{H:oG}(fO:fM H)(hg:bj w0)(hb:Below w0.heap.size w0 w)(h:Wk w w0.heap.size b k xs x)(ok:dz x)(he:pJ w0 ea e)(hn:e.nums.length=1)(N:e.texts.length=1):
  cI Tryz.prog 118 #[.pointer (some ⟨b,0,none⟩),ea.val e] w0.heap.size w (Ln (lF H x e) w0.heap.size b):=by
 obtain⟨id,tick,kind,nums,gw,texts⟩:=e;obtain⟨a,rfl⟩:=Cy hn;obtain⟨t,rfl⟩:=Cy N;have st:=he.st;unfold lF;dsimp only;refine F.mU.u7 hb.size fun w1 D=> ?_
 have E:=kE hb D;have h1:=h.below (extAll D);have r:=he.au E;obtain⟨p1,O,q1,c1,_⟩:=r.n.at_ (row:=fG) (fun _=>rfl) r.ln (i:=0) sm;obtain⟨p2,a2,P,c2,_⟩:=r.t.at_ (row:=gq) (fun _=>rfl) r.lt (i:=0) sm;have lw:=ok.lw;have lq:=ok.lq;have lg:=ok.lg;refine⟨_,_,_,cF h1.box 11 1,p1,O,q1,_,c1,_,_,_,_,_,_,_,_,_,_,_,_,_,_,_,_,_,_,_,_,_,_,_,_,_,_,_,_,_,_,_,_,_,_,_,_,cF h1.box 0 14,p2,a2,P,_,c2,fun V G=> ?_⟩;have I:=h1.below (extAll G);have J:=kE E G;have i21:=I.o.uV ok.sr;refine pm (bK (x:=x) (k:=k) fO (hg.next J) i21.pl i21.nw ok.sw lw ok.si) ?_;rintro v W K rfl;have c:=I.below K;have L:=kP J K;have nq:=c.o.q.rows;have ng:=c.o.g.rows;refine⟨_,rfl,jh KT c.o.q (val:= .agg #[.int .i64 a,.int .i64 tick,.string (lE H x),.string t]) rfl (by simp[Value.cells,bl]) L.size om dc fun A' c' Q y l R=> ?_⟩;have M:=l _ _ _ _ dc c.box;refine dY M c.hB 11 1 (by show 12<=14;omega) rfl fun S z=> ?_
 have A:=(L.trans R).trans (aL.dQ z c.hB);have B:=bG.wrote z M;obtain⟨g1,g2,g3,g4,g5,g6,g7,g8,g9,g10,g11,_⟩:=c.o.Lm l;have C:dP Q w0.heap.size {k with q:=⟨A',k.q.n+1,c'⟩} xs {x with apps:=x.apps++[⟨a,tick,lE H x,t⟩]}:=
  ⟨g1 dc,g2 dc,g3 dc,g4 dc,c.o.e,g5 dc,g6 dc,c.o.nw,c.o.cw,g7 dc,g8 dc,g9 dc,g10 dc,g11 dc,by rw[eH];exact y⟩
 have j:Wk S w0.heap.size b {k with q:=⟨A',k.q.n+1,c'⟩} xs {x with apps:=x.apps++[⟨a,tick,lE H x,t⟩]}:=⟨z.at_,c.hB,C.bW B⟩;refine⟨_,_,_,cF j.box 10 1,_,_,_,cF j.box 11 1,fun T m=> ?_⟩;have d:=j.below (extAll m);refine pm (cn fO (hg.next (kE A m)) d.o.g.sl ng (by show k.g.n<_;omega) d.o.q.sl d.o.q.rows (by show k.q.n+1<_;omega) d.o.q.jY) ?_;rintro v X U rfl;exact⟨_,_,rfl,rfl,fun _=>⟨_,_,d.below U⟩⟩
theorem zJ{α:Type}{p q:α->Bool}(h:∀x,¬(p x=true/\q x=true)):∀l:List α,(l.filter p).length+(l.filter q).length<=l.length
 |[]=>eU _
 |x::r=>by
  have ih:=zJ h r;have hx:=h x;rw[List.filter_cons,List.filter_cons,eL];by_cases h1:p x=true<;>by_cases a:q x=true<;>simp[h1,a]
  ·exact absurd ⟨h1,a⟩ hx
  all_goals omega
theorem Vd{ps:List Pa}{hs:List Ho}{l m:List Sw}{t:Sw}(h:zU ps hs l t= .ok m):m.length<=l.length+1:=by
 rw[(YA h).e];unfold Ky;have:=zJ (p:=fun x=>decide (fC x ⟨t.hold,t.av,il l t.hold t.av+t.aV⟩)) (q:=fun x=>decide (fC ⟨t.hold,t.av,il l t.hold t.av+t.aV⟩ x)) (fun x hx=>by
  have h1:=eR hx.1;have a:=eR hx.2;unfold fC at h1 a;dsimp only at h1 a;omega) l
 rw[ek,ek];split<;>simp<;>omega
theorem GV.acv{w:World}{ty:Nat}{A:Option Addr}{rows rest:List (List Value)}{d:List Value}{c sz:Nat}(h:GV w ty A sz rows)(he:rows=d::rest)(n:rest.length+1<=c):GV w ty (cD A 1 c sz) sz rest:=by
 subst he;rcases h with e|⟨b,off,cs,fr,g,l,m⟩
 ·cases e
 ·subst g;unfold cD;split
  ·refine .inl (ep om)
  ·refine .inr ⟨b,off+1*sz,cs,fr,by simp[Addr.add],l,fun i hi j hj=> ?_⟩;obtain⟨h1,a⟩:=m (i+1) (by simpa using hi) j (by simpa using hj);simp only[List.getElem_cons_succ]at h1 a;refine⟨h1,?_⟩;rw[show off+1*sz+i*sz+j=off+(i+1)*sz+j by rw[nU];omega];exact a
theorem Oa{H:oG}(fO:fM H)(hg:bj w0)(hb:Below w0.heap.size w0 w)(h:Wk w w0.heap.size b k xs x)(ok:dz x)(FT:x.dS≠[]):
  cI Tryz.prog 119 #[.pointer (some ⟨b,0,none⟩),ea.val e] w0.heap.size w (Ln (mq H x e) w0.heap.size b):=by
 have lp:=ok.lp;have lh:=ok.lh;have lr:=ok.lr;have ls:=ok.ls;have lw:=ok.lw;unfold mq;refine F.qJ.u7 hb.size fun w1 Z=> ?_
 have dJ:=kE hb Z;have h1:=h.below (extAll Z);refine⟨_,_,_,_,_,_,_,_,_,_,_,_,_,_,_,_,_,_,_,_,_,_,_,_,_,_,_,_,_,_,_,_,_,_,_,_,cF h1.box 0 14,fun wW F1=> ?_⟩;have xU:=kE dJ F1;have Gh:=h1.below (extAll F1);refine pm (fI fO (hg.next xU) (Gh.o.uV ok.sr) ok e.tick) ?_;rintro v AE xQ rfl;refine⟨_,rfl,fun q=>by rw[bb q];exact⟨rfl,fun q=>absurd (show(23:Int)=0 from q) dc⟩,fun q=> ?_⟩;rw[aq q];have G:=Gh.below xQ;have ox:=kP xU xQ;have i19:=G.o.uV ok.sr;obtain⟨t,r,D⟩:∃t r,x.dS=t::r:=by
  cases hx:x.dS with
  |nil=>exact absurd hx FT
  |cons t r=>exact⟨t,r,rfl⟩
 have nw:=i19.nw;have ns:=i19.ns;obtain⟨p1,a1,q1,c1,_⟩:=i19.pl.at_ (row:=Sw.row) (fun _=>rfl) nw (i:=0) (by rw[D];simp);refine⟨_,_,_,_,_,_,cF G.box 0 2,_,_,_,cF G.box 3 1,_,_,_,cF G.box 4 1,p1,a1,q1,_,_,_,c1,fun zB P=> ?_⟩;have Q:=kE ox P;have i28:=i19.au (extAll P);have R:=G.below (extAll P);have e0:x.dS[0]'(by rw[D];simp)=t:=by simp[D]
 rw[e0];refine pm (gj (c0:=k.p.c) (c1:=k.h.c) (hg.next Q) (i28.cg ok.sp ok.sh om om) i28.s ns i28.cs om t) ?_;intro v SP Te M;rw[D];dsimp only;have S:=R.below Te;have yP:=kP Q Te;cases N:zU x.ps x.hs x.fN t with
 |error er=>
  rw[N]at M;cases M;have I:er≠0:=Mm N;exact⟨_,_,_,_,rfl,fun _=>⟨rfl,fun q=>absurd q I⟩,fun q=>absurd I q⟩
 |ok l=>
  rw[N]at M;obtain⟨T,n29,U,rfl,y⟩:=M;have y:=y.base (B:=w0.heap.size) Q.size;have cw:=S.o.cw;have nw1:k.w.n=r.length+1:=by rw[<-nw,D,eL]
  refine⟨_,_,_,_,rfl,fun q=>absurd rfl q,fun _=>⟨_,_,_,cF S.box 4 1,⟨om,om,om⟩,fun Is z=> ?_⟩⟩;have j:=S.below (extAll z);have tz:=kE yP z;refine dY j.box j.hB 3 1 (by show 4<=14;omega) rfl fun QO O=> ?_
  have J:=bG.wrote O j.box;refine dY O.at_ j.hB 4 1 (by show 5<=14;omega) rfl fun Wx E=> ?_
  have K:=bG.wrote E O.at_;have WX:=(tz.trans (aL.dQ O j.hB)).trans (aL.dQ E j.hB);have d:=(j.o.bW J).bW K;have t40:=((y.below (extAll z)).bW J dc).bW K dc;have L:GV Wx 57 (cD k.w.A 1 k.w.c 3) 3 (r.map Sw.row):=d.pl.acv (by rw[D];rfl) (by rw[ec];omega);have aoF:=Vd N;have V:l.length<=40:=om;have fin:∀{w:World} {id:Int},Below w0.heap.size w0 w->Wk w w0.heap.size b {k with s:=⟨T,n29,U⟩,w:=⟨cD k.w.A 1 k.w.c 3,k.w.n - 1,k.w.c - 1⟩} xs {x with fN:=l,dS:=r,bQ:=id}->
    Pure Tryz.prog 167 #[.pointer (some ⟨b,0,none⟩)] w fun v w'=>∃i45:Int,v= .int .i64 i45/\Ln ({x with fN:=l,dS:=r,bQ:=id},tj {x with fN:=l,dS:=r,bQ:=id}) w0.heap.size b (.int .i64 i45) w':=fun hw hk=>by
   refine pm (uW (hg.next hw) hk ok.sr ok.sp ok.sh (by show x.ps.length<=7;omega) (by show x.hs.length<=7;omega) (by show x.rs.length<=17;omega) V) ?_;rintro v w47 W rfl;exact⟨_,rfl,rfl,fun _=>⟨_,_,hk.below W⟩⟩
  refine⟨_,_,_,cF E.at_ 4 1,fun q=> ?_,fun q=> ?_⟩
  ·have X:r.length=0:=om;rw[bb X];refine dY E.at_ j.hB 5 1 (by show 6<=14;omega) rfl fun w44 Y=> ?_
   have C:=bG.wrote Y E.at_;have m:=d.bW C;exact fin (WX.trans (aL.dQ Y j.hB)) ⟨Y.at_,j.hB,m.p,m.h,m.r,m.f,m.e,t40.bW C dc,L.bW C dc,by show r.length=k.w.n - 1;omega,⟨by show k.w.n - 1<=k.w.c - 1;omega,fun q=>by have:=cw.2 (RR q);show k.w.c - 1=0;omega⟩,m.c,m.v,m.a,m.l,m.g,m.q⟩
  ·have X:¬r.length=0:=om;rw[aq X];exact fin WX ⟨E.at_,j.hB,d.p,d.h,d.r,d.f,d.e,t40,L,by show r.length=k.w.n - 1;omega,⟨by show k.w.n - 1<=k.w.c - 1;omega,fun q=>by have:=cw.2 (RR q);show k.w.c - 1=0;omega⟩,d.c,d.v,d.a,d.l,d.g,d.q⟩
end

section
variable {w0 wb w:World} {A0 A1 A2 A A3 A5:Option Addr} {n0 c0 n1 c1 n2 c2 n c n3 c3 n5 c5:Nat} {ps:List Pa} {hs:List Ho} {xs:List Rm} {l aW:List Sw} {k:Tk} {o:List Int}
structure Own (wb:World) (m:Nat) (f:Int->Option Bool) (w:World):Prop where
 m:tC w wb.heap.size 3 4 m f
theorem Own.Lm{w w':World}{m b:Nat}{f:Int->Option Bool}(h:Own wb m f w)(hb:Gr b w w')(a:b<wb.heap.size):Own wb m f w':=⟨h.m.same (hb.other _ h.m.lt (by have:=h.m.1;omega))⟩
theorem Own.low{w w':World}{m:Nat}{f:Int->Option Bool}(h:Own wb m f w)(hb:Below w.heap.size w w'):Own wb m f w':=⟨h.m.below hb⟩
theorem Own.row{w w':World}{m:Nat}{f:Int->Option Bool}(h:Own wb m f w){B ty:Nat}{A:Option Addr}{n c sz:Nat}{rows:List (List Value)}(ho:aE w B ty A n c sz rows)(hg:w.grownBy w' (Value.ownBlock (.slice A n c))):Own wb m f w':=by
 refine⟨h.m.same (hg.block _ h.m.lt fun e=> ?_)⟩;obtain⟨es,cl,d⟩:=h.m.isMap;cases A with
 |none=>cases e
 |some a=>
  obtain⟨cs,b⟩:=ho.cells a rfl;cases e;rw[d]at b;cases b
theorem RX{w w':World}{B ty:Nat}{A:Option Addr}{n c sz:Nat}{rows:List (List Value)}(ho:aE w B ty A n c sz rows)(hg:w.grownBy w' (Value.ownBlock (.slice A n c)))(hB:B<=w.heap.size):Below B w w':=by
 refine bM hg (fun i e=> ?_) hB;cases A with
 |none=>cases e
 |some a=>
  cases e;exact(ho.uJ a rfl).1

end
end Go.Proofs.YtbcojgcjjpggnaaGreatDoor.B

set_option maxRecDepth 100000
set_option maxHeartbeats 4000000
namespace Go.Proofs.YtbcojgcjjpggnaaGreatDoor.F
open Go Go.RowKit Go.Proofs Go.Proofs.YtbcojgcjjpggnaaGreatDoor.Vc
open Tryz
variable {A C D E G H J K A0 A1 A2 A3 A4 A5 A6 A7 A8 A9 C0 C1 C2 C3 C4 C5 C6 C7 C8 C9:O} {a b c d e f g i j l m n o a0 a1 a2 a3 a4 a5 a6 a7 a8 a9 b0 b1 b2 b3 b4 b5 b6 b7 b8 b9 c0 c1 c2 c3 c4 c5 c6 c7 c8 c9:Nat} {p q r s t u v x p0 p1 p2 p3 p4 p5 p6 p7 p8 p9 q0 q1 q2 q3 q4 q5 q6 q7 q8 q9:Int} {L M N N0 N1 N2 N3 N4 N5 N6 N7 N8 N9 T0 T1 T2 T3 T4 T5 T6 T7 T8 T9:ByteArray} {Q S:Bool} {B:Nat} {w:World} {R:Kt}
def bY.L3(a:Int)(b:O)(c d:Nat)(e:O)(f g:Nat)(i:O)(j l:Nat)(m:O)(n o:Nat)(p:O)(q r:Nat)(s:O)(t u:Nat)(v:O)(x y:Nat)(z:O)(A C:Nat)(D:O)(E G:Nat):=Lt 11 f11 3 [vL 1,vL 2,vL 3,vI 4 a] [⟨1,false,39,[(.slice b c d),(.slice e f g),(.slice i j l)]⟩,⟨2,false,39,[(.slice m n o),(.slice p q r),(.slice s t u)]⟩,⟨3,false,39,[(.slice v x y),(.slice z A C),(.slice D E G)]⟩]
def bY.cx:Pm:=([((true,3),[1,2,3,4],[1,2,3])],[(5,5,2),(6,0,2),(6,3,2),(7,3,2),(7,4,2)])
theorem bY.L3.step
  (h:(Br (p<(a:Int)) (Ix p a A fun a7=>(∃x y z L M N O Q S,aa w (a7.add ((p).toNat*7)) [.string x,I y,.slice z L M,.string N,.string O,I Q,I S]/\(ae P (Instr.alloc 103 true (.tuple #[])) B [39,39,39] w fun W T=>∃(q:Addr),W= .pointer (some q)/\(∃(r:List Value)(s:Nat),B<=q.block/\q.spot=none/\T.heap[q.block]? =some (.cells r.toArray s (0,0))/\q.off+7<=r.length/\hasType s [⟨1,false,39,[.slice G i j,.slice H l m,.slice A a n]⟩,⟨2,false,39,[.slice J o a0,.slice K a1 a2,.slice A0 a3 a4]⟩,⟨3,false,39,[.slice C b c,.slice D d e,.slice E f g]⟩]=false/\∀U,aL T U q.block s (setCells r q.off [.string x,I y,.slice z L M,.string N,.string O,I Q,I S])->(ae P (Instr.buildSlice 29 0 #[]) B [39,39,39] U (Rs fun e4 e5 e6 V=>(∃X Y Z,aa V (q.add 2) [.slice X Y Z]/\(ae P (Builtin.append_ #[29,29] 29 #[.slice e4 e5 e6,.slice X Y Z]) B [39,39,39] V (Rs fun e7 e8 e9 d0=>(∃(t:List Value)(u:Nat),B<=(q.add 2).block/\(q.add 2).spot=none/\d0.heap[(q.add 2).block]? =some (.cells t.toArray u (0,0))/\(q.add 2).off+1<=t.length/\hasType u [⟨1,false,39,[.slice G i j,.slice H l m,.slice A a n]⟩,⟨2,false,39,[.slice J o a0,.slice K a1 a2,.slice A0 a3 a4]⟩,⟨3,false,39,[.slice C b c,.slice D d e,.slice E f g]⟩]=false/\∀v,aL d0 v (q.add 2).block u (setCells t (q.add 2).off [.slice e7 e8 e9])->(∃d1 d2 d3 d4 d5 d6 d7 d8 d9,aa v q [.string d1,I d2,.slice d3 d4 d5,.string d6,.string d7,I d8,I d9]/\(ae P (Instr.buildSlice 37 1 #[(0,(.agg #[.string d1,I d2,.slice d3 d4 d5,.string d6,.string d7,I d8,I d9]))]) B [39,39,39] v (Rs fun g0 g1 g2 g3=>(ae P (Builtin.append_ #[37,37] 37 #[.slice E f g,.slice g0 g1 g2]) B [39,39,39] g3 (Rs fun g4 g5 g6 g7=>(aU .i64 (p+1)/\(∀k,Ext B [39] g7 k->(bY.L3 (p+1) G i j H l m A a n J o a0 K a1 a2 A0 a3 a4 C b c D d e g4 g5 g6 B k R)))))))))))))))))) (∀F,Ext B [39] w F->(R (.agg #[.slice C b c,.slice D d e,.slice E f g]) F)))):
  bY.L3 p G i j H l m A a n J o a0 K a1 a2 A0 a3 a4 C b c D d e E f g B w R:=
 lr bY.cx func11 h
theorem bY.vc
  (h:(∀g,Ext w.heap.size [] w g->(Pure P 16 #[.agg #[.slice A a b,.slice C c d]] g (Rc fun j l m n o p q=>(∀i,Ext w.heap.size [] q i->(bY.L3 (0:Int) A a b C c d D e f none 0 0 none 0 0 none 0 0 j l m n o p none 0 0 w.heap.size i R)))))):
  Pure P 11 #[.agg #[.slice A a b,.slice C c d,.slice D e f]] w R:=
 pr bY.cx func11 h

def aj.L4(a:Int)(b:O)(c d:Nat)(e:O)(f g:Nat)(i:O)(j l:Nat)(m:O)(n o:Nat)(p:O)(q r:Nat)(s:O)(t u:Nat):=Lt 62 f62 4 [vL 2,vL 3,vI 5 a] [⟨2,false,39,[(.slice b c d),(.slice e f g),(.slice i j l)]⟩,⟨3,false,39,[(.slice m n o),(.slice p q r),(.slice s t u)]⟩]
def aj.L9(a:Int)(b:O)(c d:Nat)(e:O)(f g:Nat)(i:O)(j l:Nat)(m:O)(n o:Nat)(p:O)(q r:Nat)(s:O)(t u:Nat):=Lt 62 f62 9 [vL 2,vL 3,vI 6 a] [⟨2,false,39,[(.slice b c d),(.slice e f g),(.slice i j l)]⟩,⟨3,false,39,[(.slice m n o),(.slice p q r),(.slice s t u)]⟩]
def aj.tB(a:Int)(b:O)(c d:Nat)(e:O)(f g:Nat)(i:O)(j l:Nat)(m:O)(n o:Nat)(p:O)(q r:Nat)(s:O)(t u:Nat):=Lt 62 f62 14 [vL 2,vL 3,vI 7 a] [⟨2,false,39,[(.slice b c d),(.slice e f g),(.slice i j l)]⟩,⟨3,false,39,[(.slice m n o),(.slice p q r),(.slice s t u)]⟩]
def aj.Bo(a b:Int)(c:O)(d e:Nat)(f:O)(g i:Nat)(j:O)(l m:Nat)(n:O)(o p:Nat)(q:O)(r s:Nat)(t:O)(u v:Nat)(x:ByteArray)(y:Int)(z:O)(A C:Nat)(D E:ByteArray)(G H:Int)(J:ByteArray)(K:Int)(L:O)(M N:Nat)(Q S:ByteArray)(T U:Int):=Lt 62 f62 20 [vL 2,vL 3,vI 7 a,vL 8,vL 9,vI 10 b] [⟨2,false,39,[(.slice c d e),(.slice f g i),(.slice j l m)]⟩,⟨3,false,39,[(.slice n o p),(.slice q r s),(.slice t u v)]⟩,⟨8,false,103,[(.string x),(I y),(.slice z A C),(.string D),(.string E),(I G),(I H)]⟩,⟨9,false,103,[(.string J),(I K),(.slice L M N),(.string Q),(.string S),(I T),(I U)]⟩]
def aj.cx:Pm:=([((true,4),[2,3,5],[2,3]),((true,9),[2,3,6],[2,3]),((true,14),[2,3,7],[2,3]),((true,20),[2,3,7,8,9,10],[2,3,8,9])],[(16,9998,8)])
theorem aj.L4.step
  (h:(Br (p<(a:Int)) (Ix p a A fun Q=>(∃o q r s t u v,aa w (Q.add ((p).toNat*7)) [I o,I q,I r,.string s,.string t,.string u,.string v]/\(Ix p b C fun S=>(∃x y z J K L M,aa w (S.add ((p).toNat*7)) [I x,I y,I z,.string J,.string K,.string L,.string M]/\(Br (¬(o=x/\q=y/\r=z/\s=J/\t=K/\u=L/\v=M/\True)) (∀N,Ext B [] w N->(R (.bool false) N)) (aU .i64 (p+1)/\(∀O,Ext B [] w O->(aj.L4 (p+1) A a c D d e E f g C b i G j l H m n B O R)))))))) (aj.L9 (0:Int) A a c D d e E f g C b i G j l H m n B w R))):
  aj.L4 p A a c D d e E f g C b i G j l H m n B w R:=
 lr aj.cx func62 h
theorem aj.L9.step
  (h:(Br (p<(a:Int)) (Ix p a A fun Q=>(∃o q r s t u v,aa w (Q.add ((p).toNat*7)) [I o,.string q,.string r,.string s,.string t,.string u,.string v]/\(Ix p b C fun S=>(∃x y z J K L M,aa w (S.add ((p).toNat*7)) [I x,.string y,.string z,.string J,.string K,.string L,.string M]/\(Br (¬(o=x/\q=y/\r=z/\s=J/\t=K/\u=L/\v=M/\True)) (∀N,Ext B [] w N->(R (.bool false) N)) (aU .i64 (p+1)/\(∀O,Ext B [] w O->(aj.L9 (p+1) D c d A a e E f g G i j C b l H m n B O R)))))))) (aj.tB (0:Int) D c d A a e E f g G i j C b l H m n B w R))):
  aj.L9 p D c d A a e E f g G i j C b l H m n B w R:=
 lr aj.cx func62 h
theorem aj.tB.step
  (h:(Br (p<(a:Int)) (Ix p a C fun l0=>(∃s t J u K v x y z,aa w (l0.add ((p).toNat*7)) [.string s,I t,.slice J u K,.string v,.string x,I y,I z]/\((Ix p b A fun d9=>((∀o,Ext B [] w o->(∃L M k N F O Q S T,aa o (d9.add ((p).toNat*7)) [.string L,I M,.slice k N F,.string O,.string Q,I S,I T]/\(Br (s≠L) (∀P,Ext B [103] o P->(R (.bool false) P)) (Br (t≠M) (∀W,Ext B [103] o W->(R (.bool false) W)) (Br (v≠O) (∀e4,Ext B [103] o e4->(R (.bool false) e4)) (Br (x≠Q) (∀e5,Ext B [103] o e5->(R (.bool false) e5)) (Br (y≠S) (∀e6,Ext B [103] o e6->(R (.bool false) e6)) (Br (z≠T) (∀e7,Ext B [103] o e7->(R (.bool false) e7)) (Br ((u:Int)≠(N:Int)) (∀e8,Ext B [103] o e8->(R (.bool false) e8)) (∀e9,Ext B [103] o e9->(aj.Bo p (0:Int) D c d E e f C a g G i j H l m A b n s t J u K v x y z L M k N F O Q S T B e9 R)))))))))))/\(∀q,Ext B [103] w q->(∃U V g0 X g1 Y Z d0 d1,aa q (d9.add ((p).toNat*7)) [.string U,I V,.slice g0 X g1,.string Y,.string Z,I d0,I d1]/\(Br (s≠U) (∀g2,Ext B [103] q g2->(R (.bool false) g2)) (Br (t≠V) (∀g3,Ext B [103] q g3->(R (.bool false) g3)) (Br (v≠Y) (∀g4,Ext B [103] q g4->(R (.bool false) g4)) (Br (x≠Z) (∀g5,Ext B [103] q g5->(R (.bool false) g5)) (Br (y≠d0) (∀g6,Ext B [103] q g6->(R (.bool false) g6)) (Br (z≠d1) (∀g7,Ext B [103] q g7->(R (.bool false) g7)) (Br ((u:Int)≠(X:Int)) (∀g8,Ext B [103] q g8->(R (.bool false) g8)) (∀g9,Ext B [103] q g9->(aj.Bo p (0:Int) D c d E e f C a g G i j H l m A b n s t J u K v x y z U V g0 X g1 Y Z d0 d1 B g9 R)))))))))))))/\(Ix p b A fun l1=>(∀r,Ext B [103] w r->(∃d2 d3 j0 d4 j1 d5 d6 d7 d8,aa r (l1.add ((p).toNat*7)) [.string d2,I d3,.slice j0 d4 j1,.string d5,.string d6,I d7,I d8]/\(Br (s≠d2) (∀j2,Ext B [103] r j2->(R (.bool false) j2)) (Br (t≠d3) (∀j3,Ext B [103] r j3->(R (.bool false) j3)) (Br (v≠d5) (∀j4,Ext B [103] r j4->(R (.bool false) j4)) (Br (x≠d6) (∀j5,Ext B [103] r j5->(R (.bool false) j5)) (Br (y≠d7) (∀j6,Ext B [103] r j6->(R (.bool false) j6)) (Br (z≠d8) (∀j7,Ext B [103] r j7->(R (.bool false) j7)) (Br ((u:Int)≠(d4:Int)) (∀j8,Ext B [103] r j8->(R (.bool false) j8)) (∀j9,Ext B [103] r j9->(aj.Bo p (0:Int) D c d E e f C a g G i j H l m A b n s t J u K v x y z d2 d3 j0 d4 j1 d5 d6 d7 d8 B j9 R))))))))))))))) (R (.bool true) w))):
  aj.tB p D c d E e f C a g G i j H l m A b n B w R:=
 lr aj.cx func62 h
theorem aj.Bo.step
  (h:(Br (p<(a:Int)) (Ix p a J fun S=>(∃y,aa w (S.add ((p).toNat*1)) [.string y]/\(Ix p a0 K fun T=>(∃z,aa w (T.add ((p).toNat*1)) [.string z]/\(Br (y≠z) (∀O,Ext B [] w O->(R (.bool false) O)) (aU .i64 (p+1)/\(∀Q,Ext B [] w Q->(aj.Bo q (p+1) A b c C d e D f g E i j G l m H n o L r J a a1 M N s t N0 u K a0 a2 N1 N2 v x B Q R)))))))) (aU .i64 (q+1)/\(aj.tB (q+1) A b c C d e D f g E i j G l m H n o B w R)))):
  aj.Bo q p A b c C d e D f g E i j G l m H n o L r J a a1 M N s t N0 u K a0 a2 N1 N2 v x B w R:=
 lr aj.cx func62 h
theorem aj.vc
  (h:(Br ((c:Int)≠(f:Int)) (∀o,Ext w.heap.size [] w o->(R (.bool false) o)) (Br ((a:Int)≠(d:Int)) (∀p,Ext w.heap.size [] w p->(R (.bool false) p)) (Br ((b:Int)≠(e:Int)) (∀q,Ext w.heap.size [] w q->(R (.bool false) q)) (∀r,Ext w.heap.size [] w r->(aj.L4 (0:Int) A a g C b i D c j E d l G e m H f n w.heap.size r R)))))):
  Pure P 62 #[.agg #[.slice A a g,.slice C b i,.slice D c j],.agg #[.slice E d l,.slice G e m,.slice H f n]] w R:=
 pr aj.cx func62 h

end Go.Proofs.YtbcojgcjjpggnaaGreatDoor.F

namespace Go.Proofs.YtbcojgcjjpggnaaGreatDoor.B
open Go Go.RowKit Go.Proofs Go.Proofs.YtbcojgcjjpggnaaGreatDoor.Vc

structure IY (w:World) (A0:Option Addr) (n0 c0:Nat) (A1:Option Addr) (n1 c1:Nat) (A2:Option Addr) (n2 c2:Nat) (ps:List Pa) (hs:List Ho) (xs:List Rm):Prop where
 c:DU w A0 n0 A1 n1 ps hs
 z0:A0=none->c0=0
 z1:A1=none->c1=0
 r:bR w A2 7 (xs.map Rm.row)
 l:xs.length=n2
 n:n2<9223372036854775808
 k:n2<=c2
 f:∀x∈xs,bR w x.A 1 (x.r.pD.map gq)/\x.r.pD.length=x.n/\x.n<9223372036854775808/\(x.A=none->x.c=0)
def WY(r:Ru):Bool:=decide (r.name.size<=70/\r.low.size<=40/\r.high.size<=40/\r.pD.length<=8)&&r.pD.all fun s=>decide (s.size<=40)
def WZ(ps:List Pa)(hs:List Ho)(rs:List Ru):Bool:=rs.all WY&&(YH ps hs&&decide (rs.length<=17))
section
variable {w w':World} {A0 A1 A2:Option Addr} {n0 c0 n1 c1 n2 c2:Nat} {ps:List Pa} {hs:List Ho} {xs:List Rm}
theorem IY.au(h:IY w A0 n0 c0 A1 n1 c1 A2 n2 c2 ps hs xs)(hb:Below w.heap.size w w'):IY w' A0 n0 c0 A1 n1 c1 A2 n2 c2 ps hs xs:=
 ⟨h.c.au hb,h.z0,h.z1,h.r.au hb lf,h.l,h.n,h.k,fun x hx=>⟨(h.f x hx).1.au hb lf,(h.f x hx).2⟩⟩
theorem IY.YI(h:IY w A0 n0 c0 A1 n1 c1 A2 n2 c2 ps hs xs)(hf:WZ ps hs (dK xs)=true):oN w A0 n0 A1 n1 A2 n2 c2 ps hs xs:=by
 unfold WZ at hf;rw[cy,cy]at hf;obtain⟨h1,e,a⟩:=hf;have a:=eR a;refine⟨h.c.YI e,h.r,h.l,fun x hx=> ?_,by unfold dK at a;rw[ec,h.l]at a;exact a,h.k⟩;have b:=gr.1 h1 x.r (MY hx);unfold WY at b;rw[cy]at b;obtain⟨d,g⟩:=b;have d:=eR d;refine⟨(h.f x hx).1,(h.f x hx).2.1,⟨fun s i=> ?_,by unfold ma;omega,by unfold ma;omega,om,dp d.2.2.2 om⟩,(h.f x hx).2.2.2⟩;have:=eR (gr.1 g s i);unfold ma;omega
theorem Lv:El Tryz.prog 37 103 7 96:=El.of kF
theorem aE.z{w:World}{B ty:Nat}{A:Option Addr}{n c sz:Nat}{rows:List (List Value)}(h:aE w B ty A n c sz rows)(a:A=none):c=0:=by
 subst a;rcases h.1.2 with⟨h1,_⟩|⟨g,cap,cur,h1,_⟩
 ·cases h1;rfl
 ·cases h1
def Kq(w w':World):Prop:=∀(i ty:Nat)(cs:Array Value),ty≠103->ty≠39->w.heap[i]? =some (.cells cs ty (0,0))->w'.heap[i]? =some (.cells cs ty (0,0))
theorem Kq.trans{w w1 a:World}(h:Kq w w1)(k:Kq w1 a):Kq w a:=fun i ty cs h1 b e=>k i ty cs h1 b (h i ty cs h1 b e)
theorem Kq.low{w w':World}(h:Below w.heap.size w w'):Kq w w':=fun i ty cs _ _ e=>ag e h
theorem Kq.ext{B:Nat}{w w':World}(x:Ext B [39] w w'):Kq w w':=fun i ty cs _ a e=>by
 rcases x.other i (ax.1 e).1 with q|⟨t,b,c,c',fr,q,_⟩
 ·exact q.trans e
 ·rw[e]at q;cases q;exact absurd (eb.1 b) a
theorem Kq.wrote{w w':World}{b:Nat}{cs a:List Value}(hw:aL w w' b 103 cs)(d:w.heap[b]? =some (.cells a.toArray 103 (0,0))):Kq w w':=fun i ty c h1 _ e=>by
 rw[hw.rest i fun q=> ?_]
 ·exact e
 ·subst q;rw[d]at e;cases e;exact h1 rfl
theorem Kq.grown{w w':World}{B:Nat}{A:Option Addr}{n c sz:Nat}{rows:List (List Value)}(ho:aE w B 103 A n c sz rows)(hg:w.grownBy w' (Value.ownBlock (.slice A n c))):Kq w w':=fun i ty cs h1 _ e=>by
 rw[hg.block i (ax.1 e).1 fun q=> ?_]
 ·exact e
 ·cases A with
  |none=>cases q
  |some a=>
   obtain⟨d,b⟩:=ho.cells a rfl;cases q;rw[e]at b;cases b;exact h1 rfl
theorem aE.kq{w w':World}{B ty:Nat}{A:Option Addr}{n c sz:Nat}{rows:List (List Value)}(h:aE w B ty A n c sz rows)(k:Kq w w')(h1:ty≠103)(b:ty≠39):aE w' B ty A n c sz rows:=
 h.other fun a ha=>by
  obtain⟨cs,e⟩:=h.cells a ha;rw[e];exact k _ _ _ h1 b e
structure IZ (w:World) (A0:Option Addr) (n0:Nat) (A1:Option Addr) (n1:Nat) (A2:Option Addr) (n2:Nat) (ps:List Pa) (hs:List Ho) (xs:List Rm):Prop where
 c:xK w A0 n0 A1 n1 ps hs
 r:bR w A2 7 (xs.map Rm.row)
 l:xs.length=n2
 n:n2*96<=140737488355328
 f:∀x∈xs,bR w x.A 1 (x.r.pD.map gq)/\x.r.pD.length=x.n/\x.n*16<=140737488355328/\(x.A=none->x.c=0)
theorem IZ.au(h:IZ w A0 n0 A1 n1 A2 n2 ps hs xs)(hb:Below w.heap.size w w'):IZ w' A0 n0 A1 n1 A2 n2 ps hs xs:=
 ⟨h.c.au hb,h.r.au hb lf,h.l,h.n,fun x hx=>⟨(h.f x hx).1.au hb lf,(h.f x hx).2⟩⟩
theorem oN.fit(h:oN w A0 n0 A1 n1 A2 n2 c2 ps hs xs):IZ w A0 n0 A1 n1 A2 n2 ps hs xs:=
 ⟨h.c.fit,h.r,h.l,by have:=h.n;omega,fun x hx=>⟨(h.f x hx).f,(h.f x hx).l,by have:=(h.f x hx).s.len;have:=(h.f x hx).l;omega,(h.f x hx).z⟩⟩
def CpR(B:Nat)(n0 n1 n2:Nat)(ps:List Pa)(hs:List Ho)(xs:List Rm)(v:Value)(w':World):Prop:=
 ∃B0 d0 a d1 b d2 ys,v= .agg #[.slice B0 n0 d0,.slice a n1 d1,.slice b n2 d2]/\aE w' B 111 B0 n0 d0 7 (ps.map Pa.row)/\aE w' B 172 a n1 d1 7 (hs.map Ho.row)/\
  aE w' B 103 b n2 d2 7 (ys.map Rm.row)/\dK ys=dK xs/\∀y∈ys,aE w' B 88 y.A y.n y.c 1 (y.r.pD.map gq)
theorem Ob(h:IZ w A0 n0 A1 n1 A2 n2 ps hs xs)(O:A0=none->c0=0)(P:A1=none->c1=0):
  Pure Tryz.prog 11 #[.agg #[.slice A0 n0 c0,.slice A1 n1 c1,.slice A2 n2 c2]] w (CpR w.heap.size n0 n1 n2 ps hs xs):=by
 have hl:=h.l;have hn:=h.n;refine F.bY.vc fun w1 x1=> ?_
 have hw:=k0 x1;refine pm (Nq (h.au hw).c O P) ?_;rintro v w5 b5 ⟨B0,d0,B1,d1,rfl,o0,o1⟩;have sE:=kP hw b5;refine⟨_,_,_,_,_,_,rfl,fun w6 x6=> ?_⟩;have key:∀(d i:Nat)(C:Option Addr)(no co:Nat)(ys:List Rm)(w':World),n2 - i=d->i<=n2->Below w.heap.size w w'->Kq w5 w'->aE w' w.heap.size 103 C no co 7 (ys.map Rm.row)->dK ys=dK (xs.take i)->(∀y∈ys,aE w' w.heap.size 88 y.A y.n y.c 1 (y.r.pD.map gq))->
   F.bY.L3 i A0 n0 c0 A1 n1 c1 A2 n2 c2 none 0 0 none 0 0 none 0 0 B0 n0 d0 B1 n1 d1 C no co w.heap.size w' (CpR w.heap.size n0 n1 n2 ps hs xs):=by
  intro d;induction d with
  |zero=>
   intro i C no co ys w' hd hi hb M ho b hy;rw[de om]at b;refine F.bY.L3.step ⟨fun h=>by omega,fun _ CM E=> ?_⟩;have g:=Kq.ext E;have ho:=ho.Nd E dc;have G:no=n2:=by
    have h1:=ho.len;rw[ec]at h1;have:=bx List.length b;unfold dK at this;rw[ec,ec]at this;omega
   subst G;have hyl:ys.length=no:=by have:=ho.len;rwa [ec]at this
   have p0:=o0.kq (M.trans g) dc dc;have p1:=o1.kq (M.trans g) dc dc;exact⟨_,_,_,_,_,_,ys,rfl,p0.base hw.size,p1.base hw.size,ho,b,fun y j=>(hy y j).kq g dc dc⟩
  |succ d ih=>
   intro i C no co ys w' hd hi hb M ho b hy;have Q:i<xs.length:=om;have e3:=sc i;have OS:=h.f _ (bw Q);obtain⟨R,Nt,aoH,S⟩:=OS;have G:no=i:=by
    have h1:=ho.len;rw[ec]at h1;have:=bx List.length b;unfold dK at this;rw[ec,ec,ew]at this;omega
   obtain⟨Qn,a,hA,k,_⟩:=(h.au hb).r.at_ (fun _=>rfl) hl Q;refine F.bY.L3.step ⟨fun _=>⟨Qn,a,hA,_,_,_,_,_,_,_,_,_,k,?_⟩,fun h=>by omega⟩;refine cC (z:= .agg #[.string ⟨#[]⟩,.int .i64 0,.slice none 0 0,.string ⟨#[]⟩,.string ⟨#[]⟩,.int .i64 0,.int .i64 0]) _ kF hb.size fun Dj Gi T l15=> ?_
   refine⟨[.string ⟨#[]⟩,.int .i64 0,.slice none 0 0,.string ⟨#[]⟩,.string ⟨#[]⟩,.int .i64 0,.int .i64 0],_,hb.size,rfl,Gi,sm,rfl,fun e D=> ?_⟩;have U:=kP hb T;have H:Below w.heap.size w e:=U.trans (aL.dQ D hb.size);have Tg:Kq w' e:=(Kq.low T).trans (Kq.wrote D Gi);have U6:aE e w.heap.size 103 C no co 7 (ys.map Rm.row):=(ho.below T).other fun a ha=>D.rest _ fun q=>by
    have:=(ho.uJ a ha).2;have q:a.block=w'.heap.size:=q;omega
   refine bc nm [] sm sm H.size fun Af cf xE of I=> ?_
   have Lw:=kP H I;have V:=ag D.at_ I;refine⟨_,_,_,aZ V rfl,?_⟩;refine yA nm (B:=e.heap.size) H.size (by simpa using of) (R.au Lw lf) (by simpa using Nt) (fun r b=>by obtain⟨s,_,rfl⟩:=hM.1 b;rfl) (fun r b=>by obtain⟨s,_,rfl⟩:=hM.1 b;intro u hu;simp[gq]at hu;subst hu;rfl) S I.size (by simp;omega) (by simp;omega) dc fun Ag cg CP W gg bg=> ?_
   simp only[wu,jx,tu]at W⊢;have N:Below e.heap.size e CP:=I.trans (RX (B:=e.heap.size) (by simpa using of) gg I.size);have X:=kP H N;have W5:=ag D.at_ N;have Y:=U6.below N;have e2:(⟨w'.heap.size,0,none⟩:Addr).add 2=⟨w'.heap.size,2,none⟩:=by rw[bT]
   rw[e2];refine⟨_,_,hb.size,rfl,W5,by simp[setCells],rfl,fun Z J=> ?_⟩;have K:Below w.heap.size w Z:=X.trans (aL.dQ J hb.size);have ZC:Kq e Z:=(Kq.low N).trans (Kq.wrote J W5);have L:aE Z w.heap.size 103 C no co 7 (ys.map Rm.row):=Y.other fun a ha=>J.rest _ fun q=>by
    have:=(ho.uJ a ha).2;have q:a.block=w'.heap.size:=q;omega
   have aii:=W.other fun a ha=>J.rest _ fun q=>by
    have:=(W.uJ a ha).1;have q:a.block=w'.heap.size:=q;have:=D.size;omega
   refine⟨_,_,_,_,_,_,_,_,_,eE J.at_,?_⟩;refine QC Lv lf L (x:=Rm.val ⟨xs[i].r,Ag,xs[i].n,cg⟩) rfl (by simp[Value.cells,bl]) K.size om om dc fun A3 c3 w43 o43 g43 YU=>⟨ir,fun w44 m=> ?_⟩
   have k43:=Kq.grown L g43;have o:=(k43.trans (Kq.ext m));rw[e3];refine ih (i+1) A3 (no+1) c3 (ys++[⟨xs[i].r,Ag,xs[i].n,cg⟩]) w44 om om (kE (K.trans YU) m) (((M.trans Tg).trans ZC).trans o) ?_ ?_ ?_
   ·rw[eH];exact o43.Nd m dc
   ·rw[<-AH Q,<-b];unfold dK;rw[eH];rfl
   ·intro y j;rcases fi.1 j with j|j
    ·exact(hy y j).kq ((Tg.trans ZC).trans o) dc dc
    ·rw[eb.1 j];exact(aii.kq o dc dc).base H.size
 exact key n2 0 none 0 0 [] w6 rfl om (kE sE x6) (Kq.low (Md x6)) aE.nil rfl sm
end
end Go.Proofs.YtbcojgcjjpggnaaGreatDoor.B
