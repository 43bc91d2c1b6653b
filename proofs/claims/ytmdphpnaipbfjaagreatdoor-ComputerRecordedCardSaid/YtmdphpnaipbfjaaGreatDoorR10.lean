/- Part 10 of the proofs that: The state of a record that was written and recovered is that of its events. -/
import Derived.Test.YtmdphpnaipbfjaaGreatDoorR9
import Derived.Test.YtmdphpnaipbfjaaGreatDoorProg
import Derived.Laws.BytesArg
set_option linter.unusedVariables false
set_option linter.unusedSimpArgs false
set_option maxRecDepth 100000
set_option maxHeartbeats 4000000
namespace Go.Proofs.YtmdphpnaipbfjaaGreatDoor.F
open Go Go.RowKit Go.Proofs Go.Proofs.YtmdphpnaipbfjaaGreatDoor.Vc
open Tryz
variable {A C D E G H J K A0 A1 A2 A3 A4 A5 A6 A7 A8 A9 C0 C1 C2 C3 C4 C5 C6 C7 C8 C9:O} {a b c d e f g i j l m n o a0 a1 a2 a3 a4 a5 a6 a7 a8 a9 b0 b1 b2 b3 b4 b5 b6 b7 b8 b9 c0 c1 c2 c3 c4 c5 c6 c7 c8 c9:Nat} {p q r s t u v x p0 p1 p2 p3 p4 p5 p6 p7 p8 p9 q0 q1 q2 q3 q4 q5 q6 q7 q8 q9:Int} {L M N N0 N1 N2 N3 N4 N5 N6 N7 N8 N9 T0 T1 T2 T3 T4 T5 T6 T7 T8 T9:ByteArray} {Q S:Bool} {B:Nat} {w:World} {R:Kt}
def dU.L5(a:O)(b c:Nat)(d e:Int)(f:O)(g i:Nat)(j:O)(l m:Nat)(n:O)(o p:Nat)(q:O)(r s:Nat)(t:O)(u v:Nat)(x:Int)(y:O)(z A:Nat)(C:O)(D E:Nat)(G:O)(H J:Nat)(K:O)(L M:Nat)(N:O)(Q S:Nat)(T:O)(U V:Nat)(X Y:Int)(Z:O)(d0 d1:Nat)(d2:O)(d3 d4:Nat)(d5:O)(d6 d7:Nat)(d8:O)(d9 h:Nat)(k:O)(F P:Nat)(W:Int)(e5:O)(e6 e7:Nat)(e8:O)(e9 g0:Nat)(g1:O)(g2 g3:Nat)(g4:O)(g5 g6:Nat)(g7:O)(g8 g9:Nat)(j0:O)(j1 j2:Nat)(j3 j4:Int):=Lt 10 f10 5 [vL 2,vL 5,vS 14 a b c,vI 15 d,vI 16 e] [⟨2,false,57,[(vW f g i),(vW j l m),(vW n o p),(vW q r s),(vW t u v),(I x),(vW y z A),(vW C D E),(vW G H J),(vW K L M),(vW N Q S),(vW T U V),(I X),(I Y)]⟩,⟨5,false,57,[(vW Z d0 d1),(vW d2 d3 d4),(vW d5 d6 d7),(vW d8 d9 h),(vW k F P),(I W),(vW e5 e6 e7),(vW e8 e9 g0),(vW g1 g2 g3),(vW g4 g5 g6),(vW g7 g8 g9),(vW j0 j1 j2),(I j3),(I j4)]⟩]
def dU.cx:Pm:=([((true,5),[2,5,14,15,16],[2,5])],[])
theorem dU.L5.step{a X Y Z d0 d1 d2 d3 d4 d5 d6 d7 d8 d9 k F W e3 e4 e5 e6 e7 e8 e9 b c d e f g i j l m n o y z L M N O Q S T U B:Nat}
  (h:(Br (p<q) (Ix p a A fun o3=>(∃g0 g1 g2 g3 g4 g5 g6 g7 g8 g9 j0 j1,aa w (o3.add ((p).toNat*6)) [I g0,I g1,I g2,vW g3 g4 g5,vW g6 g7 g8,vW g9 j0 j1]/\(∀j2,Ext B [] w j2->(Pure P 14 #[.agg #[vW C b c,vW D d e,vW E f g,vW G i j,vW H l m,I r,vW J n o,vW K y z,vW A0 L M,vW A1 N O,vW A2 Q S,vW A3 T U,I s,I t],.agg #[I g0,I g1,I g2,vW g3 g4 g5,vW g6 g7 g8,vW g9 j0 j1]] j2 fun o4 j3=>∃j4 j5 j6 j7 j8 j9 l0 l1 l2 l3 l4 l5 l6 l7 l8 l9 m0 m1 m2 m3 m4 m5 m6 m7 m8 m9 n0 n1 n2 n3 n4 n5 n6 n7 n8 n9 V,o4= .tuple #[.agg #[vW j4 j5 j6,vW j7 j8 j9,vW l0 l1 l2,vW l3 l4 l5,vW l6 l7 l8,I l9,vW m0 m1 m2,vW m3 m4 m5,vW m6 m7 m8,vW m9 n0 n1,vW n2 n3 n4,vW n5 n6 n7,I n8,I n9],I V]/\(Br (V≠0) (∀o0,Ext B [57] j3 o0->(R (.tuple #[.agg #[vN,vN,vN,vN,vN,I 0,vN,vN,vN,vN,vN,vN,I 0,I 0],I p,I V]) o0)) (aN .i64 (p+1)/\(∀o1,Ext B [57] j3 o1->(dU.L5 A a X q (p+1) A4 Y Z A5 d0 d1 A6 d2 d3 A7 d4 d5 A8 d6 d7 u A9 d8 d9 C0 k F C1 W e3 C2 e4 e5 C3 e6 e7 C4 e8 e9 v x j4 j5 j6 j7 j8 j9 l0 l1 l2 l3 l4 l5 l6 l7 l8 l9 m0 m1 m2 m3 m4 m5 m6 m7 m8 m9 n0 n1 n2 n3 n4 n5 n6 n7 n8 n9 B o1 R)))))))) (∀o2,Ext B [57] w o2->(R (.tuple #[.agg #[vW C b c,vW D d e,vW E f g,vW G i j,vW H l m,I r,vW J n o,vW K y z,vW A0 L M,vW A1 N O,vW A2 Q S,vW A3 T U,I s,I t],(I (-1:Int)),I 0]) o2)))):
  dU.L5 A a X q p A4 Y Z A5 d0 d1 A6 d2 d3 A7 d4 d5 A8 d6 d7 u A9 d8 d9 C0 k F C1 W e3 C2 e4 e5 C3 e6 e7 C4 e8 e9 v x C b c D d e E f g G i j H l m r J n o K y z A0 L M A1 N O A2 Q S A3 T U s t B w R:=
 lr dU.cx func10 h
theorem dU.vc
  (h:(Br ((a:Int)>1024) (∀c,Ext w.heap.size [] w c->(R (.tuple #[.agg #[vN,vN,vN,vN,vN,I 0,vN,vN,vN,vN,vN,vN,I 0,I 0],(I (-1:Int)),I 8]) c)) (∀d,Ext w.heap.size [] w d->(Pure P 20 #[] d fun Z d0=>∃e f g i j l m n o p q r s t u v x y z C D E G H J K L M N O Q S T U V X,Z= .agg #[vW e f g,vW i j l,vW m n o,vW p q r,vW s t u,I v,vW x y z,vW C D E,vW G H J,vW K L M,vW N O Q,vW S T U,I V,I X]/\(∀Y,Ext w.heap.size [] d0 Y->(dU.L5 A a b (a:Int) (0:Int) none 0 0 none 0 0 none 0 0 none 0 0 none 0 0 (0:Int) none 0 0 none 0 0 none 0 0 none 0 0 none 0 0 none 0 0 (0:Int) (0:Int) e f g i j l m n o p q r s t u v x y z C D E G H J K L M N O Q S T U V X w.heap.size Y R)))))):
  Pure P 10 #[vW A a b] w R:=
 pr dU.cx func10 h

def bL.J4(a:Bool)(b:O)(c d:Nat)(e:O)(f g:Nat)(i:O)(j l:Nat)(m:O)(n o:Nat)(p:O)(q r:Nat)(s:Int)(t:O)(u v:Nat)(x:O)(y z:Nat)(A:O)(C D:Nat)(E:O)(G H:Nat)(J:O)(K L:Nat)(M:O)(N Q:Nat)(S T U V X:Int)(Y:O)(Z d0:Nat)(d1:O)(d2 d3:Nat)(d4:O)(d5 d6:Nat)(d7:O)(d8 d9:Nat)(h:O)(k F:Nat)(P:O)(W e5:Nat)(e6:O)(e7 e8:Nat)(e9:O)(g0 g1:Nat)(g2:Int)(g3:O)(g4 g5:Nat)(g6:O)(g7 g8:Nat)(g9:O)(j0 j1:Nat)(j2:O)(j3 j4:Nat)(j5:O)(j6 j7:Nat)(j8:O)(j9 l0:Nat)(l1 l2 l3 l4 l5:Int)(l6 l7:Bool)(l8:Value):=Jt 14 f14 4 [vL 2,vL 3,vL 4,vL 6,(7,.v (.bool a))] [⟨2,false,57,[(vW b c d),(vW e f g),(vW i j l),(vW m n o),(vW p q r),(I s),(vW t u v),(vW x y z),(vW A C D),(vW E G H),(vW J K L),(vW M N Q),(I S),(I T)]⟩,⟨3,false,33,[(I U),(I V),(I X),(vW Y Z d0),(vW d1 d2 d3),(vW d4 d5 d6)]⟩,⟨4,false,57,[(vW d7 d8 d9),(vW h k F),(vW P W e5),(vW e6 e7 e8),(vW e9 g0 g1),(I g2),(vW g3 g4 g5),(vW g6 g7 g8),(vW g9 j0 j1),(vW j2 j3 j4),(vW j5 j6 j7),(vW j8 j9 l0),(I l1),(I l2)]⟩,⟨6,false,114,[(I l3),(I l4),(I l5),(.bool l6),(.bool l7),l8]⟩]
def bL.KL(a:O)(b c:Nat)(d:O)(e f:Nat)(g:O)(i j:Nat)(l:O)(m n:Nat)(o:O)(p q:Nat)(r:Int)(s:O)(t u:Nat)(v:O)(x y:Nat)(z:O)(A C:Nat)(D:O)(E G:Nat)(H:O)(J K:Nat)(L:O)(M N:Nat)(Q S T U V:Int)(X:O)(Y Z:Nat)(d0:O)(d1 d2:Nat)(d3:O)(d4 d5:Nat)(d6:O)(d7 d8:Nat)(d9:O)(h k:Nat)(F:O)(P W:Nat)(e5:O)(e6 e7:Nat)(e8:O)(e9 g0:Nat)(g1:Int)(g2:O)(g3 g4:Nat)(g5:O)(g6 g7:Nat)(g8:O)(g9 j0:Nat)(j1:O)(j2 j3:Nat)(j4:O)(j5 j6:Nat)(j7:O)(j8 j9:Nat)(l0 l1 l2 l3 l4:Int)(l5 l6:Bool)(l7:Value):=Jt 14 f14 10 [vL 2,vL 3,vL 4,vL 6] [⟨2,false,57,[(vW a b c),(vW d e f),(vW g i j),(vW l m n),(vW o p q),(I r),(vW s t u),(vW v x y),(vW z A C),(vW D E G),(vW H J K),(vW L M N),(I Q),(I S)]⟩,⟨3,false,33,[(I T),(I U),(I V),(vW X Y Z),(vW d0 d1 d2),(vW d3 d4 d5)]⟩,⟨4,false,57,[(vW d6 d7 d8),(vW d9 h k),(vW F P W),(vW e5 e6 e7),(vW e8 e9 g0),(I g1),(vW g2 g3 g4),(vW g5 g6 g7),(vW g8 g9 j0),(vW j1 j2 j3),(vW j4 j5 j6),(vW j7 j8 j9),(I l0),(I l1)]⟩,⟨6,false,114,[(I l2),(I l3),(I l4),(.bool l5),(.bool l6),l7]⟩]
def bL.cx:Pm:=([((false,4),[2,3,4,6,7],[2,3,4,6]),((false,10),[2,3,4,6],[2,3,4,6])],[(3,3,7),(3,9998,8),(10,0,12),(10,3,2),(11,4,10)])
theorem bL.J4.step{g7 d b:Bool}{n o y z L M N O c Q S T U V X Y Z d0 d1 d2 d3 d4 e f g i j l d5 d6 d7 d8 d9 k F W e3 e4 e5 e6 e7 e8 e9 g0 g1 g2 g3 g4 g5 g6 B:Nat}{m:Value}
  (h:(Br (g7=false) (∀g8,Ext B [57] w g8->(R (.tuple #[.agg #[vN,vN,vN,vN,vN,I 0,vN,vN,vN,vN,vN,vN,I 0,I 0],I 1]) g8)) (Pure P 40 #[.agg #[I u,I v,I x,.bool d,.bool b,m],.agg #[I p,I q,I t,vW A e f,vW C g i,vW D j l]] w (Rb fun j5 a=>(Br (j5=false) (∀g9,Ext B [57] a g9->(R (.tuple #[.agg #[vN,vN,vN,vN,vN,I 0,vN,vN,vN,vN,vN,vN,I 0,I 0],I 1]) g9)) (Br (p<=r) (∀j0,Ext B [57] a j0->(R (.tuple #[.agg #[vN,vN,vN,vN,vN,I 0,vN,vN,vN,vN,vN,vN,I 0,I 0],I 5]) j0)) (Br (q<s) (∀j1,Ext B [57] a j1->(R (.tuple #[.agg #[vN,vN,vN,vN,vN,I 0,vN,vN,vN,vN,vN,vN,I 0,I 0],I 5]) j1)) (Bb d (Br ((c:Int)>0) (∀j2,Ext B [57] a j2->(R (.tuple #[.agg #[vN,vN,vN,vN,vN,I 0,vN,vN,vN,vN,vN,vN,I 0,I 0],I 11]) j2)) (Bb b (Br ((c:Int)=0) (∀j3,Ext B [57] a j3->(R (.tuple #[.agg #[vN,vN,vN,vN,vN,I 0,vN,vN,vN,vN,vN,vN,I 0,I 0],I 11]) j3)) (bL.KL E n o G y z H L M J N O K c Q p0 A0 S T A1 U V A2 X Y A3 Z d0 A4 d1 d2 A5 d3 d4 r s p q t A e f C g i D j l A6 d5 d6 A7 d7 d8 A8 d9 k A9 F W C0 e3 e4 p1 C1 e5 e6 C2 e7 e8 C3 e9 g0 C4 g1 g2 C5 g3 g4 C6 g5 g6 p2 p3 u v x d b m B a R)) (bL.KL E n o G y z H L M J N O K c Q p0 A0 S T A1 U V A2 X Y A3 Z d0 A4 d1 d2 A5 d3 d4 r s p q t A e f C g i D j l A6 d5 d6 A7 d7 d8 A8 d9 k A9 F W C0 e3 e4 p1 C1 e5 e6 C2 e7 e8 C3 e9 g0 C4 g1 g2 C5 g3 g4 C6 g5 g6 p2 p3 u v x d b m B a R))) (Bb b (Br ((c:Int)=0) (∀j4,Ext B [57] a j4->(R (.tuple #[.agg #[vN,vN,vN,vN,vN,I 0,vN,vN,vN,vN,vN,vN,I 0,I 0],I 11]) j4)) (bL.KL E n o G y z H L M J N O K c Q p0 A0 S T A1 U V A2 X Y A3 Z d0 A4 d1 d2 A5 d3 d4 r s p q t A e f C g i D j l A6 d5 d6 A7 d7 d8 A8 d9 k A9 F W C0 e3 e4 p1 C1 e5 e6 C2 e7 e8 C3 e9 g0 C4 g1 g2 C5 g3 g4 C6 g5 g6 p2 p3 u v x d b m B a R)) (bL.KL E n o G y z H L M J N O K c Q p0 A0 S T A1 U V A2 X Y A3 Z d0 A4 d1 d2 A5 d3 d4 r s p q t A e f C g i D j l A6 d5 d6 A7 d7 d8 A8 d9 k A9 F W C0 e3 e4 p1 C1 e5 e6 C2 e7 e8 C3 e9 g0 C4 g1 g2 C5 g3 g4 C6 g5 g6 p2 p3 u v x d b m B a R)))))))))):
  bL.J4 g7 E n o G y z H L M J N O K c Q p0 A0 S T A1 U V A2 X Y A3 Z d0 A4 d1 d2 A5 d3 d4 r s p q t A e f C g i D j l A6 d5 d6 A7 d7 d8 A8 d9 k A9 F W C0 e3 e4 p1 C1 e5 e6 C2 e7 e8 C3 e9 g0 C4 g1 g2 C5 g3 g4 C6 g5 g6 p2 p3 u v x d b m B w R:=
 jr bL.cx func14 h
theorem bL.KL.step{d8 d9 k F W e3 e4 e5 e6 e7 e8 e9 g0 g1 g2 g3 g4 g5 g6 g7 g8 g9 j0 j1 j2 j3 j4 j5 j6 j7 j8 j9 l0 l1 l2 l3 l4 l5 l6 l7 l8 l9 m0 m1 m2 m3 m4 m5 m6 m7 B:Nat}{m8:Value}
  (h:(∀l:Nat,B<=l->w.heap[l]? =some (.cells [vW A d8 d9,vW C k F,vW D W e3,vW E e4 e5,vW G e6 e7,I p,vW H e8 e9,vW J g0 g1,vW K g2 g3,vW A0 g4 g5,vW A1 g6 g7,vW A2 g8 g9,I q,I r].toArray 57 (0,0))->(∀c:Nat,B<=c->w.heap[c]? =some (.cells [I s,I t,I u,vW A3 j0 j1,vW A4 j2 j3,vW A5 j4 j5].toArray 33 (0,0))->(∀b:Nat,B<=b->w.heap[b]? =some (.cells [vW A6 j6 j7,vW A7 j8 j9,vW A8 l0 l1,vW A9 l2 l3,vW C0 l4 l5,I v,vW C1 l6 l7,vW C2 l8 l9,vW C3 m0 m1,vW C4 m2 m3,vW C5 m4 m5,vW C6 m6 m7,I x,I p0].toArray 57 (0,0))->(∀m:Nat,B<=m->w.heap[m]? =some (.cells [I p1,I p2,I p3,.bool Q,.bool S,m8].toArray 114 (0,0))->(∃m9 n0 n1 n2 n3 n4 n5 n6 n7 n8 n9 o0 o1 o2 o3 o4 o5 o6 o7 o8 o9 r0 r1 r2 r3 r4 r5 r6 r7 r8 r9 s0 s1 s2 s3 s4,aa w (⟨l,0,none⟩:Addr) [vW m9 n0 n1,vW n2 n3 n4,vW n5 n6 n7,vW n8 n9 o0,vW o1 o2 o3,I o4,vW o5 o6 o7,vW o8 o9 r0,vW r1 r2 r3,vW r4 r5 r6,vW r7 r8 r9,vW s0 s1 s2,I s3,I s4]/\(Pure P 41 #[.agg #[vW m9 n0 n1,vW n2 n3 n4,vW n5 n6 n7,vW n8 n9 o0,vW o1 o2 o3,I o4,vW o5 o6 o7,vW o8 o9 r0,vW r1 r2 r3,vW r4 r5 r6,vW r7 r8 r9,vW s0 s1 s2,I s3,I s4]] w fun c7 c8=>∃s5 s6 s7 s8 s9 t0 t1 t2 t3 t4 t5 t6 t7 t8 t9 v0 v1 v2 v3 v4 v5 v6 v7 v8 v9 x0 x1 x2 x3 x4 x5 x6 x7 x8 x9 y0,c7= .agg #[vW s5 s6 s7,vW s8 s9 t0,vW t1 t2 t3,vW t4 t5 t6,vW t7 t8 t9,I v0,vW v1 v2 v3,vW v4 v5 v6,vW v7 v8 v9,vW x0 x1 x2,vW x3 x4 x5,vW x6 x7 x8,I x9,I y0]/\(ae P (Instr.box 121 (.agg #[vW s5 s6 s7,vW s8 s9 t0,vW t1 t2 t3,vW t4 t5 t6,vW t7 t8 t9,I v0,vW v1 v2 v3,vW v4 v5 v6,vW v7 v8 v9,vW x0 x1 x2,vW x3 x4 x5,vW x6 x7 x8,I x9,I y0])) B [] c8 fun c9 e=>∃(a:Addr),c9= .pointer (some a)/\(∃(n:Nat)(y1 y2:Array Value),aa e ((⟨m,0,none⟩:Addr).add 5) [(.func (.func n) y1 y2)]/\(∃y3 y4 y5 y6 y7 y8 y9 z0 z1 z2 z3 z4,aa e (⟨c,0,none⟩:Addr) [I y3,I y4,I y5,vW y6 y7 y8,vW y9 z0 z1,vW z2 z3 z4]/\(av P n=true/\(ba P n ((Array.toList y1)++([(.pointer (some a)),.agg #[I y3,I y4,I y5,vW y6 y7 y8,vW y9 z0 z1,vW z2 z3 z4]]:List Value)++(Array.toList y2)).toArray B e fun p4 d=>qk [] e d/\∃o,p4=I o/\(Br (o≠0) (∃(y:List Value)(z:Nat),B<=(⟨b,0,none⟩:Addr).block/\(⟨b,0,none⟩:Addr).spot=none/\d.heap[(⟨b,0,none⟩:Addr).block]? =some (.cells y.toArray z (0,0))/\(⟨b,0,none⟩:Addr).off+14<=y.length/\hasType z []=false/\∀L,aG d L (⟨b,0,none⟩:Addr).block z (setCells y (⟨b,0,none⟩:Addr).off [vN,vN,vN,vN,vN,I 0,vN,vN,vN,vN,vN,vN,I 0,I 0])->(∃z5 z6 z7 z8 z9 D0 D1 D2 D3 D4 D5 D6 D7 D8 D9 E0 E1 E2 E3 E4 E5 E6 E7 E8 E9 G0 G1 G2 G3 G4 G5 G6 G7 G8 G9 H0,aa L (⟨b,0,none⟩:Addr) [vW z5 z6 z7,vW z8 z9 D0,vW D1 D2 D3,vW D4 D5 D6,vW D7 D8 D9,I E0,vW E1 E2 E3,vW E4 E5 E6,vW E7 E8 E9,vW G0 G1 G2,vW G3 G4 G5,vW G6 G7 G8,I G9,I H0]/\(R (.tuple #[.agg #[vW z5 z6 z7,vW z8 z9 D0,vW D1 D2 D3,vW D4 D5 D6,vW D7 D8 D9,I E0,vW E1 E2 E3,vW E4 E5 E6,vW E7 E8 E9,vW G0 G1 G2,vW G3 G4 G5,vW G6 G7 G8,I G9,I H0],I o]) L))) (∃M,aa d ((⟨c,0,none⟩:Addr).add 0) [I M]/\((∀f,Ext B [] d f->(∃H1,aa f ((⟨c,0,none⟩:Addr).add 1) [I H1]/\(∃(N:List Value)(O:Nat),B<=((a.add 0).add 12).block/\((a.add 0).add 12).spot=none/\f.heap[((a.add 0).add 12).block]? =some (.cells N.toArray O (0,0))/\((a.add 0).add 12).off+1<=N.length/\hasType O []=false/\∀T,aG f T ((a.add 0).add 12).block O (setCells N ((a.add 0).add 12).off [I M])->(∃(U:List Value)(V:Nat),B<=((a.add 0).add 13).block/\((a.add 0).add 13).spot=none/\T.heap[((a.add 0).add 13).block]? =some (.cells U.toArray V (0,0))/\((a.add 0).add 13).off+1<=U.length/\hasType V []=false/\∀g,aG T g ((a.add 0).add 13).block V (setCells U ((a.add 0).add 13).off [I H1])->(∃H2 H3 H4 H5 H6 H7 H8 H9 J0 J1 J2 J3 J4 J5 J6 J7 J8 J9 K0 K1 K2 K3 K4 K5 K6 K7 K8 K9 N0 N1 N2 N3 N4 N5 N6 N7,aa g (a.add 0) [vW H2 H3 H4,vW H5 H6 H7,vW H8 H9 J0,vW J1 J2 J3,vW J4 J5 J6,I J7,vW J8 J9 K0,vW K1 K2 K3,vW K4 K5 K6,vW K7 K8 K9,vW N0 N1 N2,vW N3 N4 N5,I N6,I N7]/\(∃(X:List Value)(Y:Nat),B<=(⟨b,0,none⟩:Addr).block/\(⟨b,0,none⟩:Addr).spot=none/\g.heap[(⟨b,0,none⟩:Addr).block]? =some (.cells X.toArray Y (0,0))/\(⟨b,0,none⟩:Addr).off+14<=X.length/\hasType Y []=false/\∀Z,aG g Z (⟨b,0,none⟩:Addr).block Y (setCells X (⟨b,0,none⟩:Addr).off [vW H2 H3 H4,vW H5 H6 H7,vW H8 H9 J0,vW J1 J2 J3,vW J4 J5 J6,I J7,vW J8 J9 K0,vW K1 K2 K3,vW K4 K5 K6,vW K7 K8 K9,vW N0 N1 N2,vW N3 N4 N5,I N6,I N7])->(∃N8 N9 O0 O1 O2 O3 O4 O5 O6 O7 O8 O9 Q0 Q1 Q2 Q3 Q4 Q5 Q6 Q7 Q8 Q9 S0 S1 S2 S3 S4 S5 S6 S7 S8 S9 T0 T1 T2 T3,aa Z (⟨b,0,none⟩:Addr) [vW N8 N9 O0,vW O1 O2 O3,vW O4 O5 O6,vW O7 O8 O9,vW Q0 Q1 Q2,I Q3,vW Q4 Q5 Q6,vW Q7 Q8 Q9,vW S0 S1 S2,vW S3 S4 S5,vW S6 S7 S8,vW S9 T0 T1,I T2,I T3]/\(R (.tuple #[.agg #[vW N8 N9 O0,vW O1 O2 O3,vW O4 O5 O6,vW O7 O8 O9,vW Q0 Q1 Q2,I Q3,vW Q4 Q5 Q6,vW Q7 Q8 Q9,vW S0 S1 S2,vW S3 S4 S5,vW S6 S7 S8,vW S9 T0 T1,I T2,I T3],I 0]) Z))))))))/\(∀d0,Ext B [] d d0->(∃(d1:List Value)(d2:Nat),B<=((a.add 0).add 12).block/\((a.add 0).add 12).spot=none/\d0.heap[((a.add 0).add 12).block]? =some (.cells d1.toArray d2 (0,0))/\((a.add 0).add 12).off+1<=d1.length/\hasType d2 []=false/\∀i,aG d0 i ((a.add 0).add 12).block d2 (setCells d1 ((a.add 0).add 12).off [I M])->(∃T4,aa i ((⟨c,0,none⟩:Addr).add 1) [I T4]/\(∃(d3:List Value)(d4:Nat),B<=((a.add 0).add 13).block/\((a.add 0).add 13).spot=none/\i.heap[((a.add 0).add 13).block]? =some (.cells d3.toArray d4 (0,0))/\((a.add 0).add 13).off+1<=d3.length/\hasType d4 []=false/\∀j,aG i j ((a.add 0).add 13).block d4 (setCells d3 ((a.add 0).add 13).off [I T4])->(∃T5 T6 T7 T8 T9 V0 V1 V2 V3 V4 V5 V6 V7 V8 V9 X0 X1 X2 X3 X4 X5 X6 X7 X8 X9 Y0 Y1 Y2 Y3 Y4 Y5 Y6 Y7 Y8 Y9 Z0,aa j (a.add 0) [vW T5 T6 T7,vW T8 T9 V0,vW V1 V2 V3,vW V4 V5 V6,vW V7 V8 V9,I X0,vW X1 X2 X3,vW X4 X5 X6,vW X7 X8 X9,vW Y0 Y1 Y2,vW Y3 Y4 Y5,vW Y6 Y7 Y8,I Y9,I Z0]/\(∃(d5:List Value)(d6:Nat),B<=(⟨b,0,none⟩:Addr).block/\(⟨b,0,none⟩:Addr).spot=none/\j.heap[(⟨b,0,none⟩:Addr).block]? =some (.cells d5.toArray d6 (0,0))/\(⟨b,0,none⟩:Addr).off+14<=d5.length/\hasType d6 []=false/\∀d7,aG j d7 (⟨b,0,none⟩:Addr).block d6 (setCells d5 (⟨b,0,none⟩:Addr).off [vW T5 T6 T7,vW T8 T9 V0,vW V1 V2 V3,vW V4 V5 V6,vW V7 V8 V9,I X0,vW X1 X2 X3,vW X4 X5 X6,vW X7 X8 X9,vW Y0 Y1 Y2,vW Y3 Y4 Y5,vW Y6 Y7 Y8,I Y9,I Z0])->(∃Z1 Z2 Z3 Z4 Z5 Z6 Z7 Z8 Z9 a0 a1 a2 a3 a4 a5 a6 a7 a8 a9 b0 b1 b2 b3 b4 b5 b6 b7 b8 b9 c0 c1 c2 c3 c4 c5 c6,aa d7 (⟨b,0,none⟩:Addr) [vW Z1 Z2 Z3,vW Z4 Z5 Z6,vW Z7 Z8 Z9,vW a0 a1 a2,vW a3 a4 a5,I a6,vW a7 a8 a9,vW b0 b1 b2,vW b3 b4 b5,vW b6 b7 b8,vW b9 c0 c1,vW c2 c3 c4,I c5,I c6]/\(R (.tuple #[.agg #[vW Z1 Z2 Z3,vW Z4 Z5 Z6,vW Z7 Z8 Z9,vW a0 a1 a2,vW a3 a4 a5,I a6,vW a7 a8 a9,vW b0 b1 b2,vW b3 b4 b5,vW b6 b7 b8,vW b9 c0 c1,vW c2 c3 c4,I c5,I c6],I 0]) d7))))))))))))))))))))))):
  bL.KL A d8 d9 C k F D W e3 E e4 e5 G e6 e7 p H e8 e9 J g0 g1 K g2 g3 A0 g4 g5 A1 g6 g7 A2 g8 g9 q r s t u A3 j0 j1 A4 j2 j3 A5 j4 j5 A6 j6 j7 A7 j8 j9 A8 l0 l1 A9 l2 l3 C0 l4 l5 v C1 l6 l7 C2 l8 l9 C3 m0 m1 C4 m2 m3 C5 m4 m5 C6 m6 m7 x p0 p1 p2 p3 Q S m8 B w R:=
 jr bL.cx func14 h
theorem bL.vc
  (h:(Br (p<1) (∀y,Ext w.heap.size [] w y->(R (.tuple #[.agg #[vN,vN,vN,vN,vN,I 0,vN,vN,vN,vN,vN,vN,I 0,I 0],I 2]) y)) (Br (p>1073741824) (∀z,Ext w.heap.size [] w z->(R (.tuple #[.agg #[vN,vN,vN,vN,vN,I 0,vN,vN,vN,vN,vN,vN,I 0,I 0],I 2]) z)) (Br (q<0) (∀L,Ext w.heap.size [] w L->(R (.tuple #[.agg #[vN,vN,vN,vN,vN,I 0,vN,vN,vN,vN,vN,vN,I 0,I 0],I 2]) L)) (Br (q>1073741824) (∀M,Ext w.heap.size [] w M->(R (.tuple #[.agg #[vN,vN,vN,vN,vN,I 0,vN,vN,vN,vN,vN,vN,I 0,I 0],I 2]) M)) (∀N,Ext w.heap.size [] w N->(Pure P 39 #[] N fun Z k=>∃(O:Option Nat),Z= .map O/\(∀v,Ext w.heap.size [] k v->(ae P (Instr.lookup 116 (.map O) (I r) true) v.heap.size [57,33,57] v fun d1 d2=>∃(Q S T:Int)(U V:Bool)(x:Value)(X:Bool),d1= .tuple #[.agg #[I Q,I S,I T,.bool U,.bool V,x],.bool X]/\(Lc x (∀Y,Ext w.heap.size [114] d2 Y->(bL.J4 X A a b C c d D e f E g i G j l s H m n J o a0 K a1 a2 A0 a3 a4 A1 a5 a6 A2 a7 a8 t u p q r A3 a9 b0 A4 b1 b2 A5 b3 b4 none 0 0 none 0 0 none 0 0 none 0 0 none 0 0 (0:Int) none 0 0 none 0 0 none 0 0 none 0 0 none 0 0 none 0 0 (0:Int) (0:Int) Q S T U V x w.heap.size Y R)))))))))))):
  Pure P 14 #[.agg #[vW A a b,vW C c d,vW D e f,vW E g i,vW G j l,I s,vW H m n,vW J o a0,vW K a1 a2,vW A0 a3 a4,vW A1 a5 a6,vW A2 a7 a8,I t,I u],.agg #[I p,I q,I r,vW A3 a9 b0,vW A4 b1 b2,vW A5 b3 b4]] w R:=
 pr bL.cx func14 h

def bQ.L4(a:Addr)(b:O)(c d:Nat)(e f:Int):=Lt 15 f15 4 [(3,.v (.pointer (some a))),vS 12 b c d,vI 13 e,vI 14 f] []
def bQ.cx:Pm:=([((true,4),[3,12,13,14],[])],[(1,0,2),(2,4,6),(6,14,6),(8,0,6)])
theorem bQ.L4.step{d:Addr}
  (h:(Br (p<q) (Ix p a A fun s=>(∃f g i,aa w (s.add ((p).toNat*3)) [I f,I g,I i]/\(∀j,Ext B [] w j->(Pure P 42 #[I f] j (Rt fun c t=>(ByteArray.size (⟨#[59]⟩:ByteArray)+ByteArray.size c<=9223372036854775807/\(ByteArray.size ((⟨#[59]⟩:ByteArray)++c)+ByteArray.size (⟨#[32]⟩:ByteArray)<=9223372036854775807/\(Pure P 42 #[I g] t (Rt fun e u=>(ByteArray.size (((⟨#[59]⟩:ByteArray)++c)++(⟨#[32]⟩:ByteArray))+ByteArray.size e<=9223372036854775807/\(ByteArray.size ((((⟨#[59]⟩:ByteArray)++c)++(⟨#[32]⟩:ByteArray))++e)+ByteArray.size (⟨#[32]⟩:ByteArray)<=9223372036854775807/\(Pure P 42 #[I i] u (Rt fun l m=>(ByteArray.size (((((⟨#[59]⟩:ByteArray)++c)++(⟨#[32]⟩:ByteArray))++e)++(⟨#[32]⟩:ByteArray))+ByteArray.size l<=9223372036854775807/\(ba P 28 #[(.pointer (some d)),(vU ((((((⟨#[59]⟩:ByteArray)++c)++(⟨#[32]⟩:ByteArray))++e)++(⟨#[32]⟩:ByteArray))++l))] B m fun v n=>qk [123] m n/\∃(x:Int)(y:Value),v= .tuple #[I x,y]/\(aN .i64 (p+1)/\(bQ.L4 d A a b q (p+1) B n R))))))))))))))))) (ba P 30 #[(.pointer (some d))] B w fun z o=>qk [] w o/\∃r,z=vU r/\(Pure P 43 #[vU r] o (Rt fun C D=>(R (vU C) D)))))):
  bQ.L4 d A a b q p B w R:=
 lr bQ.cx func15 h
theorem bQ.vc
  (h:(∀t,Ext w.heap.size [] w t->(ae P (Instr.alloc 88 true (.tuple #[])) w.heap.size [57] t fun y z=>∃(s:Addr),y= .pointer (some s)/\(Pure P 42 #[I p] z (Rt fun u v=>(ByteArray.size (⟨#[112,108,97,110,32]⟩:ByteArray)+ByteArray.size u<=9223372036854775807/\(ba P 28 #[(.pointer (some s)),(vU ((⟨#[112,108,97,110,32]⟩:ByteArray)++u))] w.heap.size v fun L x=>qk [57] v x/\∃(M:Int)(N:Value),L= .tuple #[I M,N]/\(bQ.L4 s A a b (a:Int) (0:Int) w.heap.size x R)))))))):
  Pure P 15 #[.agg #[vW C c d,vW D e f,vW E g i,vW G j l,vW A a b,I p,vW H m n,vW J o a0,vW K a1 a2,vW A0 a3 a4,vW A1 a5 a6,vW A2 a7 a8,I q,I r]] w R:=
 pr bQ.cx func15 h

def vV.cx:Pm:=([],[(3,2,5),(3,3,6)])
theorem vV.vc
  (h:(Br (p<0) (∀e,Ext w.heap.size [] w e->(R (.tuple #[.agg #[vN,vN,vN,vN,vN,I 0,vN,vN,vN,vN,vN,vN,I 0,I 0],I 2]) e)) (Br (p>1073741824) (∀f,Ext w.heap.size [] w f->(R (.tuple #[.agg #[vN,vN,vN,vN,vN,I 0,vN,vN,vN,vN,vN,vN,I 0,I 0],I 2]) f)) (∀g,Ext w.heap.size [] w g->(Pure P 46 #[vW A a b] g (Rs fun A4 n4 c4 c=>(∀d:Nat,w.heap.size<=d->c.heap[d]? =some (.cells [I p].toArray 3 (0,0))->(ba P 45 #[vW A4 n4 c4,(.func (.func 47) #[] #[(.pointer (some (⟨d,0,none⟩:Addr)))])] w.heap.size c fun k i=>qk [57] c i/\∃j l m,k=vW j l m/\(Pure P 10 #[vW j l m] i fun F W=>∃n o q r s t u v x y z C D E G H J K L M N O Q S T U V X Y Z d0 d1 d2 d3 d4 d5 e4 d6,F= .tuple #[.agg #[vW n o q,vW r s t,vW u v x,vW y z C,vW D E G,I H,vW J K L,vW M N O,vW Q S T,vW U V X,vW Y Z d0,vW d1 d2 d3,I d4,I d5],I e4,I d6]/\(∀d7,Ext w.heap.size [57] W d7->(R (.tuple #[.agg #[vW n o q,vW r s t,vW u v x,vW y z C,vW D E G,I H,vW J K L,vW M N O,vW Q S T,vW U V X,vW Y Z d0,vW d1 d2 d3,I d4,I d5],I d6]) d7))))))))))):
  Pure P 17 #[vW A a b,I p] w R:=
 pr vV.cx func17 h

def fX.cx:Pm:=([],[(1,6,7)])
theorem fX.vc
  (h:((∀u,Ext w.heap.size [] w u->(Pure P 15 #[.agg #[vW D e f,vW E g i,vW G j l,vW H m n,vW J o a0,I p,vW K a1 a2,vW A0 a3 a4,vW A1 a5 a6,vW A2 a7 a8,vW A a b,vW C c d,I q,I r]] u (Rt fun x v=>(ae P (Instr.buildSlice 29 2 #[(0,(I 2)),(1,(I 3))]) v.heap.size [57] v (Rs fun y z L M=>(Pure P 48 #[vW A a b,vW C c d,vU x,.agg #[vW y z L,I 1000,I 0],I s] M (Rb fun N O=>(R (.bool N) O))))))))/\(∀t,Ext w.heap.size [] w t->(ae P (Instr.buildSlice 29 2 #[(0,(I 2)),(1,(I 3))]) t.heap.size [57] t (Rs fun Q S T U=>(Pure P 15 #[.agg #[vW D e f,vW E g i,vW G j l,vW H m n,vW J o a0,I p,vW K a1 a2,vW A0 a3 a4,vW A1 a5 a6,vW A2 a7 a8,vW A a b,vW C c d,I q,I r]] U (Rt fun V X=>(Pure P 48 #[vW A a b,vW C c d,vU V,.agg #[vW Q S T,I 1000,I 0],I s] X (Rb fun Y Z=>(R (.bool Y) Z)))))))))):
  Pure P 18 #[.agg #[vW D e f,vW E g i,vW G j l,vW H m n,vW J o a0,I p,vW K a1 a2,vW A0 a3 a4,vW A1 a5 a6,vW A2 a7 a8,vW A a b,vW C c d,I q,I r],I s] w R:=
 pr fX.cx func18 h

def ui.cx:Pm:=([],[])
theorem ui.vc
  (h:(∀a,Ext w.heap.size [] w a->(R (.agg #[vN,vN,vN,vN,vN,I 0,vN,vN,vN,vN,vN,vN,I 0,I 0]) a))):
  Pure P 20 #[] w R:=
 pr ui.cx func20 h

def qG.cx:Pm:=([],[(1,0,2),(1,2,2),(1,4,2),(1,6,2),(1,8,2),(1,10,2),(1,12,2),(1,14,2),(1,16,2),(1,18,2),(1,20,2),(1,22,2),(1,24,2)])
theorem qG.vc
  (h:(ae P (Instr.makeMap 116 none) w.heap.size [] w fun b c=>∃(a:Option Nat),b= .map a/\(eM P (Instr.mapUpdate 116 (.map a) (I 1) (.agg #[I 3,I 3,I 1,.bool true,.bool false,(.func (.func 68) #[] #[])])) w.heap.size [] c fun d=>(eM P (Instr.mapUpdate 116 (.map a) (I 2) (.agg #[I 1,I 5,I 1,.bool true,.bool false,(.func (.func 69) #[] #[])])) w.heap.size [] d fun e=>(eM P (Instr.mapUpdate 116 (.map a) (I 3) (.agg #[I 3,(I (-1:Int)),I 3,.bool true,.bool false,(.func (.func 70) #[] #[])])) w.heap.size [] e fun f=>(eM P (Instr.mapUpdate 116 (.map a) (I 4) (.agg #[I 1,I 5,I 1,.bool false,.bool false,(.func (.func 71) #[] #[])])) w.heap.size [] f fun g=>(eM P (Instr.mapUpdate 116 (.map a) (I 5) (.agg #[I 5,I 2,I 1,.bool false,.bool false,(.func (.func 72) #[] #[])])) w.heap.size [] g fun i=>(eM P (Instr.mapUpdate 116 (.map a) (I 6) (.agg #[I 2,I 0,I 2,.bool false,.bool false,(.func (.func 73) #[] #[])])) w.heap.size [] i fun j=>(eM P (Instr.mapUpdate 116 (.map a) (I 7) (.agg #[(I (-1:Int)),I 0,I 0,.bool true,.bool false,(.func (.func 74) #[] #[])])) w.heap.size [] j fun l=>(eM P (Instr.mapUpdate 116 (.map a) (I 8) (.agg #[I 1,I 0,I 1,.bool false,.bool true,(.func (.func 75) #[] #[])])) w.heap.size [] l fun m=>(eM P (Instr.mapUpdate 116 (.map a) (I 9) (.agg #[I 0,I 0,I 0,.bool false,.bool true,(.func (.func 76) #[] #[])])) w.heap.size [] m fun n=>(eM P (Instr.mapUpdate 116 (.map a) (I 10) (.agg #[I 1,I 1,I 0,.bool false,.bool false,(.func (.func 77) #[] #[])])) w.heap.size [] n fun o=>(eM P (Instr.mapUpdate 116 (.map a) (I 11) (.agg #[I 1,I 0,I 0,.bool false,.bool false,(.func (.func 78) #[] #[])])) w.heap.size [] o fun p=>(eM P (Instr.mapUpdate 116 (.map a) (I 12) (.agg #[I 0,I 0,I 0,.bool false,.bool true,(.func (.func 79) #[] #[])])) w.heap.size [] p fun q=>(R (.map a) q))))))))))))))):
  Pure P 39 #[] w R:=
 pr qG.cx func39 h

def pF.cx:Pm:=([],[])
theorem pF.vc{y Zd Ze z F I:Int}{T U:Bool}{V k W Zf X Zg Y:Nat}{Z afw:Array Value}{afx afy afz:O}{w:World}{R:Kt}
  (h:(∀w1,Ext w.heap.size [] w w1->(Pure P 80 #[(.int .i64 y),(.int .i64 (k:Int))] w1 (Rb fun b2 w4=>(Bb b2 (Pure P 80 #[(.int .i64 Zd),(.int .i64 (Zf:Int))] w4 (Rb fun b5 w7=>(Bb b5 (Pure P 80 #[(.int .i64 Ze),(.int .i64 (Zg:Int))] w7 (Rb fun b8 kg=>(Bb b8 (Br ((y:Int)≥(0:Int)) (R (.bool true) kg) ((0<=(k:Int)/\0<(3:Int))/\(R (.bool (decide ((((k:Int) % (3:Int)):Int)=(0:Int)))) kg))) (R (.bool false) kg)))) (R (.bool false) w7)))) (R (.bool false) w4)))))):
  Pure P 40 #[(.agg #[(.int .i64 y),(.int .i64 Zd),(.int .i64 Ze),(.bool T),(.bool U),(.func (.func V) Z afw)]),(.agg #[(.int .i64 z),(.int .i64 F),(.int .i64 I),(.slice afx k W),(.slice afy Zf X),(.slice afz Zg Y)])] w R:=
 pr pF.cx Tryz.func40 h

def dj.L4(a b:Int)(c:O)(d e:Nat)(f:O)(g i:Nat)(j:O)(l m:Nat)(n:O)(o p:Nat)(q:O)(r s:Nat)(t:Int)(u:O)(v x:Nat)(y:O)(z A:Nat)(C:O)(D E:Nat)(G:O)(H J:Nat)(K:O)(L M:Nat)(N:O)(Q S:Nat)(T U:Int)(V:O)(X Y:Nat)(Z:O)(d0 d1:Nat)(d2:O)(d3 d4:Nat)(d5:O)(d6 d7:Nat)(d8:O)(d9 h:Nat)(k:Int)(F:O)(P W:Nat)(e5:O)(e6 e7:Nat)(e8:O)(e9 g0:Nat)(g1:O)(g2 g3:Nat)(g4:O)(g5 g6:Nat)(g7:O)(g8 g9:Nat)(j0 j1:Int):=Lt 41 f41 4 [vL 1,vL 2,(3,.loc 1 0),vI 38 a,vI 39 b] [⟨1,false,57,[(vW c d e),(vW f g i),(vW j l m),(vW n o p),(vW q r s),(I t),(vW u v x),(vW y z A),(vW C D E),(vW G H J),(vW K L M),(vW N Q S),(I T),(I U)]⟩,⟨2,false,57,[(vW V X Y),(vW Z d0 d1),(vW d2 d3 d4),(vW d5 d6 d7),(vW d8 d9 h),(I k),(vW F P W),(vW e5 e6 e7),(vW e8 e9 g0),(vW g1 g2 g3),(vW g4 g5 g6),(vW g7 g8 g9),(I j0),(I j1)]⟩]
def dj.cx:Pm:=([((true,4),[1,2,3,38,39],[1,2])],[])
theorem dj.L4.step{c d e f a g i j l m n o y z L M N O Q S T U V X Y Z d0 d1 d2 d3 d4 d5 d6 d7 d8 d9 k F W e3 e4 e5 e6 e7 B:Nat}
  (h:(Br (p<t) (Ix p a A fun j1=>(∃g0 g1 g2,aa w ((j1.add ((p).toNat*7)).add 2) [vW g0 g1 g2]/\(∀g3,Ext B [] w g3->(Pure P 52 #[vW g0 g1 g2] g3 (Rs fun j2 j3 j4 g4=>(Ix p a A fun b=>(∃(e8:List Value)(e9:Nat),B<=((b.add ((p).toNat*7)).add 2).block/\((b.add ((p).toNat*7)).add 2).spot=none/\g4.heap[((b.add ((p).toNat*7)).add 2).block]? =some (.cells e8.toArray e9 (0,0))/\((b.add ((p).toNat*7)).add 2).off+1<=e8.length/\hasType e9 [⟨1,false,57,[vW C c d,vW D e f,vW A a g,vW E i j,vW G l m,I q,vW H n o,vW J y z,vW K L M,vW A0 N O,vW A1 Q S,vW A2 T U,I r,I s]⟩,⟨2,false,57,[vW A3 V X,vW A4 Y Z,vW A5 d0 d1,vW A6 d2 d3,vW A7 d4 d5,I u,vW A8 d6 d7,vW A9 d8 d9,vW C0 k F,vW C1 W e3,vW C2 e4 e5,vW C3 e6 e7,I v,I x]⟩]=false/\∀g5,aG g4 g5 ((b.add ((p).toNat*7)).add 2).block e9 (setCells e8 ((b.add ((p).toNat*7)).add 2).off [vW j2 j3 j4])->(aN .i64 (p+1)/\(dj.L4 t (p+1) C c d D e f A a g E i j G l m q H n o J y z K L M A0 N O A1 Q S A2 T U r s A3 V X A4 Y Z A5 d0 d1 A6 d2 d3 A7 d4 d5 u A8 d6 d7 A9 d8 d9 C0 k F C1 W e3 C2 e4 e5 C3 e6 e7 v x B g5 R))))))))) (∀g6,Ext B [] w g6->(Pure P 84 #[vW E i j] g6 (Rs fun j5 j6 j7 j8=>(Pure P 85 #[vW G l m] j8 (Rs fun j9 l0 l1 l2=>(∀g7,Ext B [57] l2 g7->(Pure P 86 #[vW H n o] g7 (Rs fun l3 l4 l5 l6=>(Pure P 87 #[vW J y z] l6 (Rs fun l7 l8 l9 m0=>(∀g8,Ext B [57] m0 g8->(Pure P 88 #[vW K L M] g8 (Rs fun m1 m2 m3 m4=>(Pure P 89 #[vW A0 N O] m4 (Rs fun m5 m6 m7 m8=>(∀g9,Ext B [57] m8 g9->(Pure P 90 #[vW A1 Q S] g9 (Rs fun m9 n0 n1 n2=>(Pure P 91 #[vW A2 T U] n2 (Rs fun n3 n4 n5 n6=>(∀j0,Ext B [57] n6 j0->(R (.agg #[vW C c d,vW D e f,vW A a g,vW j5 j6 j7,vW j9 l0 l1,I q,vW l3 l4 l5,vW l7 l8 l9,vW m1 m2 m3,vW m5 m6 m7,vW m9 n0 n1,vW n3 n4 n5,I r,I s]) j0)))))))))))))))))))))))):
  dj.L4 t p C c d D e f A a g E i j G l m q H n o J y z K L M A0 N O A1 Q S A2 T U r s A3 V X A4 Y Z A5 d0 d1 A6 d2 d3 A7 d4 d5 u A8 d6 d7 A9 d8 d9 C0 k F C1 W e3 C2 e4 e5 C3 e6 e7 v x B w R:=
 lr dj.cx func41 h
theorem dj.vc
  (h:(∀s,Ext w.heap.size [] w s->(Pure P 81 #[vW A a b] s (Rs fun v x y z=>(Pure P 82 #[vW C c d] z (Rs fun L M N O=>(Pure P 83 #[vW D e f] O (Rs fun Q t S T=>(∀u,Ext w.heap.size [57] T u->(dj.L4 (t:Int) (0:Int) v x y L M N Q t S E g i G j l p H m n J o a0 K a1 a2 A0 a3 a4 A1 a5 a6 A2 a7 a8 q r none 0 0 none 0 0 none 0 0 none 0 0 none 0 0 (0:Int) none 0 0 none 0 0 none 0 0 none 0 0 none 0 0 none 0 0 (0:Int) (0:Int) w.heap.size u R)))))))))):
  Pure P 41 #[.agg #[vW A a b,vW C c d,vW D e f,vW E g i,vW G j l,I p,vW H m n,vW J o a0,vW K a1 a2,vW A0 a3 a4,vW A1 a5 a6,vW A2 a7 a8,I q,I r]] w R:=
 pr dj.cx func41 h

def qH.cx:Pm:=([],[])
theorem qH.vc{i:Addr}
  (h:(∀g,Ext w.heap.size [] w g->(∃j,aa g i [I j]/\(R (.bool (decide (p>j))) g)))):
  Pure P 47 #[.agg #[I q,I p,I r,vW A a b,vW C c d,vW D e f],(.pointer (some i))] w R:=
 pr qH.cx func47 h

def pG.cx:Pm:=([],[(2,34,7),(2,35,2),(2,9999,3)])
theorem pG.sV{g:Addr}(hB:B<=w.heap.size)
  (h:(∀i,Ext B [] w i->(∃o s t,aa i ((((g.add 0).add 0).add 0).add 0) [vW o s t]/\(Ix (0:Int) a A fun T=>(∃u,aa i (T.add (((0:Int)).toNat*1)) [I u]/\(Ix (1:Int) a A fun U=>(∃v,aa i (U.add (((1:Int)).toNat*1)) [I v]/\(Ix (2:Int) a A fun V=>(∃x,aa i (V.add (((2:Int)).toNat*1)) [I x]/\(Ix (0:Int) c D fun X=>(∃y,aa i (X.add (((0:Int)).toNat*1)) [vU y]/\(Ix (0:Int) b C fun Y=>(∃z,aa i (Y.add (((0:Int)).toNat*1)) [vU z]/\(Ix (1:Int) b C fun Z=>(∃E,aa i (Z.add (((1:Int)).toNat*1)) [vU E]/\(Ix (2:Int) b C fun d0=>(∃G,aa i (d0.add (((2:Int)).toNat*1)) [vU G]/\(∀j,Ext B [] i j->(ae P (Instr.buildSlice 41 1 #[(0,(.agg #[I u,I v,I x,vU y,vU z,vU E,vU G]))]) j.heap.size [33] j (Rs fun d1 d2 d3 d4=>(ae P (Builtin.append_ #[41,41] 41 #[vW o s t,vW d1 d2 d3]) B [33] d4 (Rs fun d5 d6 d7 H=>(∃(l:List Value)(m:Nat),B<=((((g.add 0).add 0).add 0).add 0).block/\((((g.add 0).add 0).add 0).add 0).spot=none/\H.heap[((((g.add 0).add 0).add 0).add 0).block]? =some (.cells l.toArray m (0,0))/\((((g.add 0).add 0).add 0).add 0).off+1<=l.length/\hasType m [⟨3,false,33,[I p,I q,I r,vW A a d,vW C b e,vW D c f]⟩]=false/\∀n,aG H n ((((g.add 0).add 0).add 0).add 0).block m (setCells l ((((g.add 0).add 0).add 0).add 0).off [vW d5 d6 d7])->(∃J K L M N O,aa n (((g.add 0).add 0).add 0) [vW J K L,vW M N O]/\(Pure P 103 #[.agg #[vW J K L,vW M N O]] n (Ri fun Q S=>(Br (Q≠0) (R (I Q) S) (Pure P 104 #[(.pointer (some g))] S (Ri fun d8 d9=>(R (I d8) d9)))))))))))))))))))))))))))))):
  ba P 68 #[(.pointer (some g)),.agg #[I p,I q,I r,vW A a d,vW C b e,vW D c f]] B w R:=
 pb pG.cx func68 h hB

def sf.cx:Pm:=([],[(4,35,7),(4,36,2)])
theorem sf.sV{g:Addr}(hB:B<=w.heap.size)
  (h:(∀j,Ext B [] w j->(∃s t u,aa j (((g.add 0).add 0).add 2) [vW s t u]/\(Pure P 105 #[vW s t u,(.func (.func 106) #[] #[])] j (Rb fun Y i=>(Bb Y (R (I 10) i) (∃v x y,aa i ((((g.add 0).add 0).add 0).add 1) [vW v x y]/\(Ix (0:Int) b C fun Z=>(∃z,aa i (Z.add (((0:Int)).toNat*1)) [I z]/\(Ix (0:Int) c D fun a9=>(∃E,aa i (a9.add (((0:Int)).toNat*1)) [vU E]/\(Ix (0:Int) a A fun d1=>(∃G,aa i (d1.add (((0:Int)).toNat*1)) [vU G]/\(Ix (1:Int) a A fun d2=>(∃H,aa i (d2.add (((1:Int)).toNat*1)) [vU H]/\(Ix (2:Int) a A fun d3=>(∃J,aa i (d3.add (((2:Int)).toNat*1)) [vU J]/\(Ix (3:Int) a A fun d4=>(∃K,aa i (d4.add (((3:Int)).toNat*1)) [vU K]/\(Ix (4:Int) a A fun d5=>(∃L,aa i (d5.add (((4:Int)).toNat*1)) [vU L]/\(∀l,Ext B [] i l->(ae P (Instr.buildSlice 42 1 #[(0,(.agg #[I z,vU E,vU G,vU H,vU J,vU K,vU L]))]) l.heap.size [33] l (Rs fun d6 d7 d8 d9=>(ae P (Builtin.append_ #[42,42] 42 #[vW v x y,vW d6 d7 d8]) B [33] d9 (Rs fun k F W M=>(∃(m:List Value)(n:Nat),B<=((((g.add 0).add 0).add 0).add 1).block/\((((g.add 0).add 0).add 0).add 1).spot=none/\M.heap[((((g.add 0).add 0).add 0).add 1).block]? =some (.cells m.toArray n (0,0))/\((((g.add 0).add 0).add 0).add 1).off+1<=m.length/\hasType n [⟨3,false,33,[I p,I q,I r,vW C b d,vW A a e,vW D c f]⟩]=false/\∀o,aG M o ((((g.add 0).add 0).add 0).add 1).block n (setCells m ((((g.add 0).add 0).add 0).add 1).off [vW k F W])->(∃N O Q S T U,aa o (((g.add 0).add 0).add 0) [vW N O Q,vW S T U]/\(Pure P 103 #[.agg #[vW N O Q,vW S T U]] o (Ri fun V X=>(Br (V≠0) (R (I V) X) (Pure P 104 #[(.pointer (some g))] X (Ri fun e3 e4=>(R (I e3) e4)))))))))))))))))))))))))))))))))):
  ba P 69 #[(.pointer (some g)),.agg #[I p,I q,I r,vW C b d,vW A a e,vW D c f]] B w R:=
 pb sf.cx func69 h hB

def sj.cx:Pm:=([],[(1,35,7),(1,36,2),(1,9999,3)])
theorem sj.sV{g:Addr}(hB:B<=w.heap.size)
  (h:(∀i,Ext B [] w i->(∃n o s,aa i (((g.add 0).add 0).add 2) [vW n o s]/\(Ix (0:Int) b C fun X=>(∃t,aa i (X.add (((0:Int)).toNat*1)) [vU t]/\(Ix (0:Int) a A fun Y=>(∃u,aa i (Y.add (((0:Int)).toNat*1)) [I u]/\(Ix (1:Int) b C fun Z=>(∃v,aa i (Z.add (((1:Int)).toNat*1)) [vU v]/\(Ix (2:Int) b C fun a9=>(∃x,aa i (a9.add (((2:Int)).toNat*1)) [vU x]/\(Ix (1:Int) a A fun d1=>(∃y,aa i (d1.add (((1:Int)).toNat*1)) [I y]/\(Ix (2:Int) a A fun d2=>(∃z,aa i (d2.add (((2:Int)).toNat*1)) [I z]/\(∀E,Ext B [] i E->(Pure P 52 #[vW D c d] E (Rs fun d3 d4 d5 G=>(ae P (Instr.buildSlice 45 1 #[(0,(.agg #[vU t,I u,vW d3 d4 d5,vU v,vU x,I y,I z]))]) G.heap.size [33] G (Rs fun d6 d7 d8 d9=>(ae P (Builtin.append_ #[45,45] 45 #[vW n o s,vW d6 d7 d8]) B [33] d9 (Rs fun k F W H=>(∃(j:List Value)(l:Nat),B<=(((g.add 0).add 0).add 2).block/\(((g.add 0).add 0).add 2).spot=none/\H.heap[(((g.add 0).add 0).add 2).block]? =some (.cells j.toArray l (0,0))/\(((g.add 0).add 0).add 2).off+1<=j.length/\hasType l [⟨3,false,33,[I p,I q,I r,vW A a e,vW D c d,vW C b f]⟩]=false/\∀m,aG H m (((g.add 0).add 0).add 2).block l (setCells j (((g.add 0).add 0).add 2).off [vW k F W])->(∃J K L M N O Q S T,aa m ((g.add 0).add 0) [vW J K L,vW M N O,vW Q S T]/\(Pure P 107 #[.agg #[vW J K L,vW M N O,vW Q S T]] m (Rii fun e5 U V=>(Br (U≠0) (R (I U) V) (Pure P 104 #[(.pointer (some g))] V (Ri fun e3 e4=>(R (I e3) e4)))))))))))))))))))))))))))))):
  ba P 70 #[(.pointer (some g)),.agg #[I p,I q,I r,vW A a e,vW D c d,vW C b f]] B w R:=
 pb sj.cx func70 h hB

def oC.cx:Pm:=([],[(1,35,7),(1,36,2),(1,9999,3),(5,11,7),(5,12,2)])
theorem oC.sV{g:Addr}(hB:B<=w.heap.size)
  (h:(∀i,Ext B [] w i->(∃v x y,aa i ((g.add 0).add 6) [vW v x y]/\(Ix (0:Int) b C fun a3=>(∃z,aa i (a3.add (((0:Int)).toNat*1)) [I z]/\(Ix (0:Int) c D fun a5=>(∃E,aa i (a5.add (((0:Int)).toNat*1)) [vU E]/\(Ix (0:Int) a A fun a7=>(∃G,aa i (a7.add (((0:Int)).toNat*1)) [vU G]/\(Ix (1:Int) a A fun a9=>(∃H,aa i (a9.add (((1:Int)).toNat*1)) [vU H]/\(Ix (2:Int) a A fun d4=>(∃J,aa i (d4.add (((2:Int)).toNat*1)) [vU J]/\(Ix (3:Int) a A fun d5=>(∃K,aa i (d5.add (((3:Int)).toNat*1)) [vU K]/\(Ix (4:Int) a A fun d6=>(∃L,aa i (d6.add (((4:Int)).toNat*1)) [vU L]/\(∀l,Ext B [] i l->(ae P (Instr.buildSlice 50 1 #[(0,(.agg #[I z,vU E,vU G,vU H,vU J,vU K,vU L]))]) l.heap.size [33] l (Rs fun d7 d8 d9 k=>(ae P (Builtin.append_ #[50,50] 50 #[vW v x y,vW d7 d8 d9]) B [33] k (Rs fun F W e3 M=>(∃(m:List Value)(n:Nat),B<=((g.add 0).add 6).block/\((g.add 0).add 6).spot=none/\M.heap[((g.add 0).add 6).block]? =some (.cells m.toArray n (0,0))/\((g.add 0).add 6).off+1<=m.length/\hasType n [⟨3,false,33,[I p,I q,I r,vW C b d,vW A a e,vW D c f]⟩]=false/\∀o,aG M o ((g.add 0).add 6).block n (setCells m ((g.add 0).add 6).off [vW F W e3])->(∃N O Q,aa o ((g.add 0).add 6) [vW N O Q]/\(Pure P 108 #[vW N O Q] o (Rii fun g2 S j=>(Br (S≠0) (R (I S) j) (∃T U V,aa j ((g.add 0).add 7) [vW T U V]/\(Ix (0:Int) b C fun e4=>(∃X,aa j (e4.add (((0:Int)).toNat*1)) [I X]/\(∀s,Ext B [] j s->(ae P (Instr.buildSlice 51 1 #[(0,(.agg #[I X,I 0,I 0,(vU ⟨#[48]⟩)]))]) s.heap.size [33] s (Rs fun e5 e6 e7 e8=>(ae P (Builtin.append_ #[51,51] 51 #[vW T U V,vW e5 e6 e7]) B [33] e8 (Rs fun e9 g0 g1 Y=>(∃(t:List Value)(u:Nat),B<=((g.add 0).add 7).block/\((g.add 0).add 7).spot=none/\Y.heap[((g.add 0).add 7).block]? =some (.cells t.toArray u (0,0))/\((g.add 0).add 7).off+1<=t.length/\hasType u [⟨3,false,33,[I p,I q,I r,vW C b d,vW A a e,vW D c f]⟩]=false/\∀Z,aG Y Z ((g.add 0).add 7).block u (setCells t ((g.add 0).add 7).off [vW e9 g0 g1])->(R (I 0) Z))))))))))))))))))))))))))))))))))))):
  ba P 71 #[(.pointer (some g)),.agg #[I p,I q,I r,vW C b d,vW A a e,vW D c f]] B w R:=
 pb oC.cx func71 h hB

def sk.cx:Pm:=([],[(3,40,7),(3,41,2),(7,13,7),(7,14,2)])
theorem sk.sV{g:Addr}(hB:B<=w.heap.size)
  (h:(Ix (4:Int) a A fun a1=>(∀i,Ext B [] w i->(∃K,aa i (a1.add (((4:Int)).toNat*1)) [I K]/\(Br (K≠0) (Ix (4:Int) a A fun a4=>(∃L,aa i (a4.add (((4:Int)).toNat*1)) [I L]/\(Br (L≠1) (R (I 1) i) (∃M N O,aa i ((g.add 0).add 8) [vW M N O]/\(Ix (0:Int) a A fun a7=>(∃Q,aa i (a7.add (((0:Int)).toNat*1)) [I Q]/\(Ix (1:Int) a A fun a9=>(∃S,aa i (a9.add (((1:Int)).toNat*1)) [I S]/\(Ix (2:Int) a A fun j7=>(∃T,aa i (j7.add (((2:Int)).toNat*1)) [I T]/\(Ix (3:Int) a A fun j8=>(∃U,aa i (j8.add (((3:Int)).toNat*1)) [I U]/\(Ix (4:Int) a A fun j9=>(∃V,aa i (j9.add (((4:Int)).toNat*1)) [I V]/\(Ix (0:Int) b C fun l0=>(∃X,aa i (l0.add (((0:Int)).toNat*1)) [vU X]/\(Ix (1:Int) b C fun l1=>(∃Y,aa i (l1.add (((1:Int)).toNat*1)) [vU Y]/\(Ix (0:Int) c D fun l2=>(∃Z,aa i (l2.add (((0:Int)).toNat*1)) [vU Z]/\(∀m,Ext B [] i m->(ae P (Instr.buildSlice 52 1 #[(0,(.agg #[I Q,I S,I T,I U,(.bool (decide (V=1))),vU X,vU Y,vU Z]))]) m.heap.size [33] m (Rs fun l3 l4 l5 l6=>(ae P (Builtin.append_ #[52,52] 52 #[vW M N O,vW l3 l4 l5]) B [33] l6 (Rs fun l7 l8 l9 d0=>(∃(n:List Value)(o:Nat),B<=((g.add 0).add 8).block/\((g.add 0).add 8).spot=none/\d0.heap[((g.add 0).add 8).block]? =some (.cells n.toArray o (0,0))/\((g.add 0).add 8).off+1<=n.length/\hasType o [⟨3,false,33,[I q,I p,I r,vW A a d,vW C b e,vW D c f]⟩]=false/\∀s,aG d0 s ((g.add 0).add 8).block o (setCells n ((g.add 0).add 8).off [vW l7 l8 l9])->(∃d1 d2 d3,aa s ((g.add 0).add 8) [vW d1 d2 d3]/\(Pure P 109 #[vW d1 d2 d3] s (Rii fun r1 d4 j=>(Br (d4≠0) (R (I d4) j) (∃d5 d6 d7,aa j ((g.add 0).add 9) [vW d5 d6 d7]/\(Ix (0:Int) a A fun m0=>(∃d8,aa j (m0.add (((0:Int)).toNat*1)) [I d8]/\(∀t,Ext B [] j t->(ae P (Instr.buildSlice 53 1 #[(0,(.agg #[I d8,I 0,I p]))]) t.heap.size [33] t (Rs fun m1 m2 m3 m4=>(ae P (Builtin.append_ #[53,53] 53 #[vW d5 d6 d7,vW m1 m2 m3]) B [33] m4 (Rs fun m5 m6 m7 d9=>(∃(u:List Value)(v:Nat),B<=((g.add 0).add 9).block/\((g.add 0).add 9).spot=none/\d9.heap[((g.add 0).add 9).block]? =some (.cells u.toArray v (0,0))/\((g.add 0).add 9).off+1<=u.length/\hasType v [⟨3,false,33,[I q,I p,I r,vW A a d,vW C b e,vW D c f]⟩]=false/\∀k,aG d9 k ((g.add 0).add 9).block v (setCells u ((g.add 0).add 9).off [vW m5 m6 m7])->(R (I 0) k)))))))))))))))))))))))))))))))))))))))) (∃F W e3,aa i ((g.add 0).add 8) [vW F W e3]/\(Ix (0:Int) a A fun m8=>(∃e4,aa i (m8.add (((0:Int)).toNat*1)) [I e4]/\(Ix (1:Int) a A fun m9=>(∃e5,aa i (m9.add (((1:Int)).toNat*1)) [I e5]/\(Ix (2:Int) a A fun n0=>(∃e6,aa i (n0.add (((2:Int)).toNat*1)) [I e6]/\(Ix (3:Int) a A fun n1=>(∃e7,aa i (n1.add (((3:Int)).toNat*1)) [I e7]/\(Ix (4:Int) a A fun n2=>(∃e8,aa i (n2.add (((4:Int)).toNat*1)) [I e8]/\(Ix (0:Int) b C fun n3=>(∃e9,aa i (n3.add (((0:Int)).toNat*1)) [vU e9]/\(Ix (1:Int) b C fun n4=>(∃g0,aa i (n4.add (((1:Int)).toNat*1)) [vU g0]/\(Ix (0:Int) c D fun n5=>(∃g1,aa i (n5.add (((0:Int)).toNat*1)) [vU g1]/\(∀x,Ext B [] i x->(ae P (Instr.buildSlice 52 1 #[(0,(.agg #[I e4,I e5,I e6,I e7,(.bool (decide (e8=1))),vU e9,vU g0,vU g1]))]) x.heap.size [33] x (Rs fun n6 n7 n8 n9=>(ae P (Builtin.append_ #[52,52] 52 #[vW F W e3,vW n6 n7 n8]) B [33] n9 (Rs fun o0 o1 o2 g2=>(∃(y:List Value)(z:Nat),B<=((g.add 0).add 8).block/\((g.add 0).add 8).spot=none/\g2.heap[((g.add 0).add 8).block]? =some (.cells y.toArray z (0,0))/\((g.add 0).add 8).off+1<=y.length/\hasType z [⟨3,false,33,[I q,I p,I r,vW A a d,vW C b e,vW D c f]⟩]=false/\∀E,aG g2 E ((g.add 0).add 8).block z (setCells y ((g.add 0).add 8).off [vW o0 o1 o2])->(∃g3 g4 g5,aa E ((g.add 0).add 8) [vW g3 g4 g5]/\(Pure P 109 #[vW g3 g4 g5] E (Rii fun r2 g6 l=>(Br (g6≠0) (R (I g6) l) (∃g7 g8 g9,aa l ((g.add 0).add 9) [vW g7 g8 g9]/\(Ix (0:Int) a A fun o3=>(∃j0,aa l (o3.add (((0:Int)).toNat*1)) [I j0]/\(∀G,Ext B [] l G->(ae P (Instr.buildSlice 53 1 #[(0,(.agg #[I j0,I 0,I p]))]) G.heap.size [33] G (Rs fun o4 o5 o6 o7=>(ae P (Builtin.append_ #[53,53] 53 #[vW g7 g8 g9,vW o4 o5 o6]) B [33] o7 (Rs fun o8 o9 r0 j1=>(∃(H:List Value)(J:Nat),B<=((g.add 0).add 9).block/\((g.add 0).add 9).spot=none/\j1.heap[((g.add 0).add 9).block]? =some (.cells H.toArray J (0,0))/\((g.add 0).add 9).off+1<=H.length/\hasType J [⟨3,false,33,[I q,I p,I r,vW A a d,vW C b e,vW D c f]⟩]=false/\∀j2,aG j1 j2 ((g.add 0).add 9).block J (setCells H ((g.add 0).add 9).off [vW o8 o9 r0])->(R (I 0) j2)))))))))))))))))))))))))))))))))))))))))):
  ba P 72 #[(.pointer (some g)),.agg #[I q,I p,I r,vW A a d,vW C b e,vW D c f]] B w R:=
 pb sk.cx func72 h hB

def pH.cx:Pm:=([],[(1,23,7),(1,24,2),(1,9999,3)])
theorem pH.sV{g:Addr}(hB:B<=w.heap.size)
  (h:(∀i,Ext B [] w i->(∃o s t,aa i ((g.add 0).add 10) [vW o s t]/\(Ix (0:Int) a A fun J=>(∃u,aa i (J.add (((0:Int)).toNat*1)) [I u]/\(Ix (1:Int) a A fun K=>(∃v,aa i (K.add (((1:Int)).toNat*1)) [I v]/\(Ix (0:Int) b C fun L=>(∃x,aa i (L.add (((0:Int)).toNat*1)) [vU x]/\(Ix (1:Int) b C fun M=>(∃y,aa i (M.add (((1:Int)).toNat*1)) [vU y]/\(∀j,Ext B [] i j->(ae P (Instr.buildSlice 54 1 #[(0,(.agg #[I u,I v,vU x,vU y]))]) j.heap.size [33] j (Rs fun N O Q S=>(ae P (Builtin.append_ #[54,54] 54 #[vW o s t,vW N O Q]) B [33] S (Rs fun T U V z=>(∃(l:List Value)(m:Nat),B<=((g.add 0).add 10).block/\((g.add 0).add 10).spot=none/\z.heap[((g.add 0).add 10).block]? =some (.cells l.toArray m (0,0))/\((g.add 0).add 10).off+1<=l.length/\hasType m [⟨3,false,33,[I p,I q,I r,vW A a c,vW D d e,vW C b f]⟩]=false/\∀n,aG z n ((g.add 0).add 10).block m (setCells l ((g.add 0).add 10).off [vW T U V])->(∃E G H,aa n ((g.add 0).add 10) [vW E G H]/\(Pure P 110 #[vW E G H,vN] n (Rii fun Z X Y=>(R (I X) Y))))))))))))))))))))):
  ba P 73 #[(.pointer (some g)),.agg #[I p,I q,I r,vW A a c,vW D d e,vW C b f]] B w R:=
 pb pH.cx func73 h hB

def dV.L6(a:Addr)(b:O)(c d:Nat)(e:O)(f g:Nat)(i j l m:Int)(n:O)(o p:Nat)(q:O)(r s:Nat)(t:O)(u v:Nat):=Lt 74 f74 6 [(0,.v (.pointer (some a))),vL 3,vS 5 b c d,vS 6 e f g,vI 7 i] [⟨3,false,33,[(I j),(I l),(I m),(vW n o p),(vW q r s),(vW t u v)]⟩]
def dV.cx:Pm:=([((true,6),[0,3,5,6,7],[3])],[(8,3,2),(8,4,2),(9,19,7),(9,20,2)])
theorem dV.L6.step{m:Addr}
  (h:(Br (p<(a:Int)) (ae P (Instr.buildSlice 29 1 #[(0,(I (b:Int)))]) B [33] w (Rs fun A3 n3 c3 F=>(ae P (Builtin.append_ #[29,29] 29 #[vW G j l,vW A3 n3 c3]) B [33] F (Rs fun A6 W c6 n=>(Ix p a A fun a9=>(∃Q,aa n (a9.add ((p).toNat*1)) [I Q]/\(aN .i64 (p+1)/\(Ix (p+1) a A fun e9=>(∃S,aa n (e9.add (((p+1)).toNat*1)) [I S]/\(aN .i64 (p+2)/\(Ix (p+2) a A fun g0=>(∃T,aa n (g0.add (((p+2)).toNat*1)) [I T]/\(∀o,Ext B [] n o->(ae P (Instr.buildSlice 49 1 #[(0,(.agg #[I Q,I S,I T]))]) o.heap.size [33] o (Rs fun g1 g2 g3 g4=>(ae P (Builtin.append_ #[49,49] 49 #[vW E b i,vW g1 g2 g3]) B [33] g4 (Rs fun g5 g6 g7 g8=>(aN .i64 (p+3)/\(dV.L6 m g5 g6 g7 A6 W c6 (p+3) q r s A a c C d e D f g B g8 R))))))))))))))))))) (∃U V X Y Z d0 d1 d2 d3,aa w ((m.add 0).add 0) [vW U V X,vW Y Z d0,vW d1 d2 d3]/\(∃d4 d5 d6,aa w ((m.add 0).add 3) [vW d4 d5 d6]/\(∀d7,Ext B [] w d7->(Pure P 111 #[.agg #[vW U V X,vW Y Z d0,vW d1 d2 d3],vW d4 d5 d6,vW E b i,vW G j l] d7 (Rii fun g9 d8 t=>(Br (d8≠0) (R (I d8) t) ((∀u,Ext B [] t u->(∃(v:List Value)(x:Nat),B<=((m.add 0).add 4).block/\((m.add 0).add 4).spot=none/\u.heap[((m.add 0).add 4).block]? =some (.cells v.toArray x (0,0))/\((m.add 0).add 4).off+1<=v.length/\hasType x [⟨3,false,33,[I q,I r,I s,vW A a c,vW C d e,vW D f g]⟩]=false/\∀y,aG u y ((m.add 0).add 4).block x (setCells v ((m.add 0).add 4).off [vW E b i])->(∃(z:List Value)(H:Nat),B<=((m.add 0).add 5).block/\((m.add 0).add 5).spot=none/\y.heap[((m.add 0).add 5).block]? =some (.cells z.toArray H (0,0))/\((m.add 0).add 5).off+1<=z.length/\hasType H [⟨3,false,33,[I q,I r,I s,vW A a c,vW C d e,vW D f g]⟩]=false/\∀d9,aG y d9 ((m.add 0).add 5).block H (setCells z ((m.add 0).add 5).off [I q])->(R (I 0) d9))))/\(∀J,Ext B [] t J->(∃(K:List Value)(L:Nat),B<=((m.add 0).add 4).block/\((m.add 0).add 4).spot=none/\J.heap[((m.add 0).add 4).block]? =some (.cells K.toArray L (0,0))/\((m.add 0).add 4).off+1<=K.length/\hasType L [⟨3,false,33,[I q,I r,I s,vW A a c,vW C d e,vW D f g]⟩]=false/\∀M,aG J M ((m.add 0).add 4).block L (setCells K ((m.add 0).add 4).off [vW E b i])->(∃(N:List Value)(O:Nat),B<=((m.add 0).add 5).block/\((m.add 0).add 5).spot=none/\M.heap[((m.add 0).add 5).block]? =some (.cells N.toArray O (0,0))/\((m.add 0).add 5).off+1<=N.length/\hasType O [⟨3,false,33,[I q,I r,I s,vW A a c,vW C d e,vW D f g]⟩]=false/\∀k,aG M k ((m.add 0).add 5).block O (setCells N ((m.add 0).add 5).off [I q])->(R (I 0) k))))))))))))):
  dV.L6 m E b i G j l p q r s A a c C d e D f g B w R:=
 lr dV.cx func74 h
theorem dV.sV{g:Addr}(hB:B<=w.heap.size)
  (h:(Br ((a:Int)=0) (∀i,Ext B [] w i->(R (I 9) i)) (∀j,Ext B [] w j->(dV.L6 g none 0 0 none 0 0 (0:Int) p q r A a b C c d D e f B j R)))):
  ba P 74 #[(.pointer (some g)),.agg #[I p,I q,I r,vW A a b,vW C c d,vW D e f]] B w R:=
 pb dV.cx func74 h hB

def oD.cx:Pm:=([],[(1,22,7),(1,23,2),(1,9999,3)])
theorem oD.sV{g:Addr}(hB:B<=w.heap.size)
  (h:(∀i,Ext B [] w i->(∃n o s,aa i ((g.add 0).add 11) [vW n o s]/\(Ix (0:Int) a A fun a3=>(∃t,aa i (a3.add (((0:Int)).toNat*1)) [I t]/\(∃u v x y z E G H J K L M N O Q S T U V X Y Z d0 d1 d2 d3 d4 d5 d6 d7 d8 d9 k F W e3,aa i (g.add 0) [vW u v x,vW y z E,vW G H J,vW K L M,vW N O Q,I S,vW T U V,vW X Y Z,vW d0 d1 d2,vW d3 d4 d5,vW d6 d7 d8,vW d9 k F,I W,I e3]/\(Ix (0:Int) b C fun g6=>(∃e4,aa i (g6.add (((0:Int)).toNat*1)) [vU e4]/\(∀e5,Ext B [] i e5->(Pure P 15 #[.agg #[vW u v x,vW y z E,vW G H J,vW K L M,vW N O Q,I S,vW T U V,vW X Y Z,vW d0 d1 d2,vW d3 d4 d5,vW d6 d7 d8,vW d9 k F,I W,I e3]] e5 (Rt fun g7 e6=>(ae P (Instr.buildSlice 55 1 #[(0,(.agg #[I t,I p,vU g7,vU e4]))]) e6.heap.size [33] e6 (Rs fun g8 g9 j0 j1=>(ae P (Builtin.append_ #[55,55] 55 #[vW n o s,vW g8 g9 j0]) B [33] j1 (Rs fun j2 j3 j4 e7=>(∃(l:List Value)(m:Nat),B<=((g.add 0).add 11).block/\((g.add 0).add 11).spot=none/\e7.heap[((g.add 0).add 11).block]? =some (.cells l.toArray m (0,0))/\((g.add 0).add 11).off+1<=l.length/\hasType m [⟨3,false,33,[I q,I p,I r,vW A a c,vW D d e,vW C b f]⟩]=false/\∀j,aG e7 j ((g.add 0).add 11).block m (setCells l ((g.add 0).add 11).off [vW j2 j3 j4])->(∃e8 e9 g0,aa j ((g.add 0).add 10) [vW e8 e9 g0]/\(∃g1 g2 g3,aa j ((g.add 0).add 11) [vW g1 g2 g3]/\(∀g4,Ext B [] j g4->(Pure P 110 #[vW e8 e9 g0,vW g1 g2 g3] g4 (Rii fun j7 j5 j6=>(R (I j5) j6)))))))))))))))))))))):
  ba P 75 #[(.pointer (some g)),.agg #[I q,I p,I r,vW A a c,vW D d e,vW C b f]] B w R:=
 pb oD.cx func75 h hB

def sn.cx:Pm:=([],[(1,9999,3)])
theorem sn.sV{g:Addr}(hB:B<=w.heap.size)
  (h:(∀n,Ext B [] w n->(∃G H J K L M N O Q S T U V X Y Z A8 k c8 A9 F c9 d6 d7 d8 d9 W e1 e2 e3 e4 e5 e6 e7 e8 e9,aa n (g.add 0) [vW G H J,vW K L M,vW N O Q,vW S T U,vW V X Y,I Z,vW A8 k c8,vW A9 F c9,vW d6 d7 d8,vW d9 W e1,vW e2 e3 e4,vW e5 e6 e7,I e8,I e9]/\(∀g0,Ext B [] n g0->(Pure P 18 #[.agg #[vW G H J,vW K L M,vW N O Q,vW S T U,vW V X Y,I Z,vW A8 k c8,vW A9 F c9,vW d6 d7 d8,vW d9 W e1,vW e2 e3 e4,vW e5 e6 e7,I e8,I e9],I p] g0 (Rb fun l0 i=>(Br (l0=false) (R (I 23) i) (∃g1 g2 g3 g4 g5 g6,aa i (((g.add 0).add 0).add 0) [vW g1 g2 g3,vW g4 g5 g6]/\(∃g7 g8 g9,aa i ((g.add 0).add 3) [vW g7 g8 g9]/\(∃j0 j1 l1,aa i ((g.add 0).add 4) [vW j0 j1 l1]/\(Ix (0:Int) j1 j0 fun l2=>(∃j2 j3 j4,aa i (l2.add (((0:Int)).toNat*3)) [I j2,I j3,I j4]/\(∀j5,Ext B [] i j5->(Pure P 112 #[.agg #[vW g1 g2 g3,vW g4 g5 g6],vW g7 g8 g9,.agg #[I j2,I j3,I j4]] j5 (Vh fun l3 l4 l5 j6 o=>(Br (j6≠0) (R (I j6) o) (∃j7 l m,aa o ((g.add 0).add 4) [vW j7 l m]/\((0<=(1:Int)/\(1:Int)<=(l:Int)/\l<=m)/\(∀s,Ext B [] o s->(∃(t:List Value)(u:Nat),B<=((g.add 0).add 3).block/\((g.add 0).add 3).spot=none/\s.heap[((g.add 0).add 3).block]? =some (.cells t.toArray u (0,0))/\((g.add 0).add 3).off+1<=t.length/\hasType u [⟨3,false,33,[I q,I p,I r,vW A a b,vW C c d,vW D e f]⟩]=false/\∀v,aG s v ((g.add 0).add 3).block u (setCells t ((g.add 0).add 3).off [vW l3 l4 l5])->(∃(x:List Value)(y:Nat),B<=((g.add 0).add 4).block/\((g.add 0).add 4).spot=none/\v.heap[((g.add 0).add 4).block]? =some (.cells x.toArray y (0,0))/\((g.add 0).add 4).off+1<=x.length/\hasType y [⟨3,false,33,[I q,I p,I r,vW A a b,vW C c d,vW D e f]⟩]=false/\∀j,aG v j ((g.add 0).add 4).block y (setCells x ((g.add 0).add 4).off [(.slice (cT j7 (((1:Int)).toNat) m 3) (l - ((1:Int)).toNat) (m - ((1:Int)).toNat))])->(∃l6 j8 l7,aa j ((g.add 0).add 4) [vW l6 j8 l7]/\(Br ((j8:Int)=0) (∃(z:List Value)(E:Nat),B<=((g.add 0).add 5).block/\((g.add 0).add 5).spot=none/\j.heap[((g.add 0).add 5).block]? =some (.cells z.toArray E (0,0))/\((g.add 0).add 5).off+1<=z.length/\hasType E [⟨3,false,33,[I q,I p,I r,vW A a b,vW C c d,vW D e f]⟩]=false/\∀j9,aG j j9 ((g.add 0).add 5).block E (setCells z ((g.add 0).add 5).off [I 0])->(Pure P 104 #[(.pointer (some g))] j9 (Ri fun l8 l9=>(R (I l8) l9)))) (Pure P 104 #[(.pointer (some g))] j (Ri fun m0 m1=>(R (I m0) m1)))))))))))))))))))))))))):
  ba P 76 #[(.pointer (some g)),.agg #[I q,I p,I r,vW A a b,vW C c d,vW D e f]] B w R:=
 pb sn.cx func76 h hB

def pI.cx:Pm:=([],[(1,9999,3)])
theorem pI.sV{g:Addr}(hB:B<=w.heap.size)
  (h:(∀i,Ext B [] w i->(∃u v x,aa i ((g.add 0).add 6) [vW u v x]/\(∃y z E,aa i ((g.add 0).add 7) [vW y z E]/\(Ix (0:Int) a A fun a4=>(∃G,aa i (a4.add (((0:Int)).toNat*1)) [I G]/\(Ix (0:Int) b C fun a6=>(∃H,aa i (a6.add (((0:Int)).toNat*1)) [vU H]/\(∀J,Ext B [] i J->(Pure P 113 #[vW u v x,vW y z E,.agg #[I G,I p,vU H]] J (Vh fun K L M N j=>(Br (N≠0) (R (I N) j) (∃O Q S,aa j ((g.add 0).add 8) [vW O Q S]/\(∃T U V,aa j ((g.add 0).add 9) [vW T U V]/\(∀X,Ext B [] j X->(Pure P 114 #[vW O Q S,vW T U V,vW K L M,I p] X (Vh fun d2 d3 d4 Y l=>(Br (Y≠0) (R (I Y) l) (∃(m:List Value)(n:Nat),B<=((g.add 0).add 7).block/\((g.add 0).add 7).spot=none/\l.heap[((g.add 0).add 7).block]? =some (.cells m.toArray n (0,0))/\((g.add 0).add 7).off+1<=m.length/\hasType n [⟨3,false,33,[I q,I p,I r,vW A a c,vW C b d,vW D e f]⟩]=false/\∀o,aG l o ((g.add 0).add 7).block n (setCells m ((g.add 0).add 7).off [vW K L M])->(∃(s:List Value)(t:Nat),B<=((g.add 0).add 9).block/\((g.add 0).add 9).spot=none/\o.heap[((g.add 0).add 9).block]? =some (.cells s.toArray t (0,0))/\((g.add 0).add 9).off+1<=s.length/\hasType t [⟨3,false,33,[I q,I p,I r,vW A a c,vW C b d,vW D e f]⟩]=false/\∀Z,aG o Z ((g.add 0).add 9).block t (setCells s ((g.add 0).add 9).off [vW d2 d3 d4])->(R (I 0) Z))))))))))))))))))))):
  ba P 77 #[(.pointer (some g)),.agg #[I q,I p,I r,vW A a c,vW C b d,vW D e f]] B w R:=
 pb pI.cx func77 h hB

def uj.cx:Pm:=([],[(1,9999,3)])
theorem uj.sV{g:Addr}(hB:B<=w.heap.size)
  (h:(∀i,Ext B [] w i->(∃o s t,aa i ((g.add 0).add 8) [vW o s t]/\(∃u v x,aa i ((g.add 0).add 9) [vW u v x]/\(Ix (0:Int) a A fun G=>(∃y,aa i (G.add (((0:Int)).toNat*1)) [I y]/\(∀z,Ext B [] i z->(Pure P 115 #[vW o s t,vW u v x,I y,I p] z (Vh fun H J K j l=>(Br (j=0) (∃(m:List Value)(n:Nat),B<=((g.add 0).add 9).block/\((g.add 0).add 9).spot=none/\l.heap[((g.add 0).add 9).block]? =some (.cells m.toArray n (0,0))/\((g.add 0).add 9).off+1<=m.length/\hasType n [⟨3,false,33,[I q,I p,I r,vW A a b,vW C c d,vW D e f]⟩]=false/\∀E,aG l E ((g.add 0).add 9).block n (setCells m ((g.add 0).add 9).off [vW H J K])->(R (I j) E)) (R (I j) l))))))))))):
  ba P 78 #[(.pointer (some g)),.agg #[I q,I p,I r,vW A a b,vW C c d,vW D e f]] B w R:=
 pb uj.cx func78 h hB

def so.cx:Pm:=([],[])
theorem so.sV{g:Addr}(hB:B<=w.heap.size)
  (h:(∀i,Ext B [] w i->(∃(j:List Value)(l:Nat),B<=((g.add 0).add 4).block/\((g.add 0).add 4).spot=none/\i.heap[((g.add 0).add 4).block]? =some (.cells j.toArray l (0,0))/\((g.add 0).add 4).off+1<=j.length/\hasType l [⟨3,false,33,[I p,I q,I r,vW A a b,vW C c d,vW D e f]⟩]=false/\∀m,aG i m ((g.add 0).add 4).block l (setCells j ((g.add 0).add 4).off [vN])->(∃(n:List Value)(o:Nat),B<=((g.add 0).add 5).block/\((g.add 0).add 5).spot=none/\m.heap[((g.add 0).add 5).block]? =some (.cells n.toArray o (0,0))/\((g.add 0).add 5).off+1<=n.length/\hasType o [⟨3,false,33,[I p,I q,I r,vW A a b,vW C c d,vW D e f]⟩]=false/\∀s,aG m s ((g.add 0).add 5).block o (setCells n ((g.add 0).add 5).off [I 0])->(R (I 0) s))))):
  ba P 79 #[(.pointer (some g)),.agg #[I p,I q,I r,vW A a b,vW C c d,vW D e f]] B w R:=
 pb so.cx func79 h hB

def lT.cx:Pm:=([],[])
theorem lT.vc
  (h:(Br (p<0) (R (.bool true) w) (R (.bool (decide (p=q))) w))):
  Pure P 80 #[I p,I q] w R:=
 pr lT.cx func80 h

def lU.cx:Pm:=([],[])
theorem lU.vc{a:Addr}
  (h:(∃b c d e f g i j l,aa w ((a.add 0).add 0) [vW b c d,vW e f g,vW i j l]/\(∃m n o,aa w ((a.add 0).add 3) [vW m n o]/\(∀p,Ext w.heap.size [] w p->(Pure P 130 #[.agg #[vW b c d,vW e f g,vW i j l],vW m n o] p (Rb fun r q=>(Br (r=false) (R (I 15) q) (R (I 0) q)))))))):
  Pure P 104 #[(.pointer (some a))] w R:=
 pr lU.cx func104 h

def oE.cx:Pm:=([],[])
theorem oE.vc
  (h:(∀c,Ext w.heap.size [] w c->(R (.bool (decide (p=1))) c))):
  Pure P 106 #[.agg #[vU L,I p,vW A a b,vU M,vU N,I q,I r]] w R:=
 pr oE.cx func106 h

end Go.Proofs.YtmdphpnaipbfjaaGreatDoor.F

namespace Go.Proofs.YtmdphpnaipbfjaaGreatDoor.B
open Go Go.RowKit Go.Proofs Go.Proofs.YtmdphpnaipbfjaaGreatDoor.Vc

def Il(w:World)(ty:Nat)(A:Option Addr)(sz:Nat)(rows:List (List Value)):Prop:=
 rows=[]∨∃b off cs fr,A=some ⟨b,off,none⟩/\w.heap[b]? =some (.cells cs ty fr)/\∀i,(h:i<rows.length)->∀j,(hj:j<rows[i].length)->rows[i].length=sz/\cs[off+i*sz+j]? =some (rows[i][j])
section
variable {w w':World} {B ty sz n c:Nat} {A:Option Addr} {rows:List (List Value)}
theorem ay.slT(h:ay w B ty A n c sz rows):Il w ty A sz rows:=by
 rcases h.sl with e|⟨b,off,cs,t,fr,a,d,i⟩
 ·exact .inl e
 ·obtain⟨j,g⟩:=h.cells _ a;rw[g]at d;cases d;exact .inr ⟨b,off,_,_,a,g,i⟩
theorem Il.sl(h:Il w ty A sz rows):bW w A sz rows:=by
 rcases h with e|⟨b,off,cs,fr,a,d,g⟩
 ·exact .inl e
 ·exact .inr ⟨b,off,cs,ty,fr,a,d,g⟩
theorem Il.below(h:Il w ty A sz rows)(hb:Below w.heap.size w w'):Il w' ty A sz rows:=by
 rcases h with e|⟨b,off,cs,fr,a,d,g⟩
 ·exact .inl e
 ·exact .inr ⟨b,off,cs,fr,a,ai d hb,g⟩
theorem Il.other(h:Il w ty A sz rows){b t:Nat}{cs:Array Value}{fr:Nat×Nat}(hb:w.heap[b]? =some (.cells cs t fr))(a:ty≠t)(j:∀k,k≠b->w'.heap[k]? =w.heap[k]?):Il w' ty A sz rows:=by
 rcases h with e|⟨g,off,l,d,m,i,o⟩
 ·exact .inl e
 ·refine .inr ⟨g,off,l,d,m,(j g fun e=> ?_).trans i,o⟩;subst e;rw[i]at hb;cases hb;exact a rfl
theorem ay.apart(h:ay w B ty A n c sz rows){b t:Nat}{cs:Array Value}{fr:Nat×Nat}(hb:w.heap[b]? =some (.cells cs t fr))(d:ty≠t)(i:∀k,k≠b->w'.heap[k]? =w.heap[k]?):ay w' B ty A n c sz rows:=
 h.other fun a ha=>i _ fun e=>by
  obtain⟨j,g⟩:=h.cells a ha;rw[e,hb]at g;cases g;exact d rfl
end
structure Sl where
 A:Option Addr
 n:Nat
 c:Nat
abbrev Sl.v(s:Sl):Value:= .slice s.A s.n s.c
abbrev Sl.nil:Sl:=⟨none,0,0⟩
structure Cm where
 ps:List Pa
 hs:List Ho
 rs:List Ru
 gK:List Sw
 eE:List Sw
 cO:Int
 jJ:List Ch
 ye:List Va
 gw:List Al
 pL:List Lp
 fQ:List Si
 apps:List Ap
 last:Int
 tick:Int
def Cm.zero:Cm:=⟨[],[],[],[],[],0,[],[],[],[],[],[],0,0⟩
structure Ca where
 p:Sl
 h:Sl
 r:Sl
 s:Sl
 w:Sl
 c:Sl
 v:Sl
 a:Sl
 l:Sl
 g:Sl
 q:Sl
abbrev Ca.zero:Ca:=⟨.nil,.nil,.nil,.nil,.nil,.nil,.nil,.nil,.nil,.nil,.nil⟩
abbrev Ca.cells(k:Ca)(x:Cm):List Value:=[k.p.v,k.h.v,k.r.v,k.s.v,k.w.v,.int .i64 x.cO,k.c.v,k.v.v,k.a.v,k.l.v,k.g.v,k.q.v,.int .i64 x.last,.int .i64 x.tick]
abbrev Ca.val(k:Ca)(x:Cm):Value:= .agg #[k.p.v,k.h.v,k.r.v,k.s.v,k.w.v,.int .i64 x.cO,k.c.v,k.v.v,k.a.v,k.l.v,k.g.v,k.q.v,.int .i64 x.last,.int .i64 x.tick]
def SmW(y:Sw):Prop:=(-9223372036854775808<=y.hold/\y.hold<=9223372036854775807)/\(-9223372036854775808<=y.au/\y.au<=9223372036854775807)/\(-9223372036854775808<=y.aU/\y.aU<=9223372036854775807)
structure eA (x:Cm):Prop where
 ar:lQ x.ps x.hs x.rs x.gK=true
 sp:∀y∈x.ps,SmP y
 sh:∀y∈x.hs,SmH y
 sr:∀y∈x.rs,Td y
 sc:∀y∈x.jJ,KS y
 sg:∀y∈x.jJ,y.pR.size<=40/\y.offset.size<=40
 sv:∀y∈x.ye,mO y.num
 sa:∀y∈x.gw,WC y
 lp:x.ps.length<=6
 lh:x.hs.length<=6
 lr:x.rs.length<=16
 ls:x.gK.length<=36
 lw:x.eE.length<=6
 lc:x.jJ.length<=16
 lv:x.ye.length=x.jJ.length
 la:x.gw.length<=32
 ll:x.pL.length=x.gw.length
 lg:x.fQ.length<=16
 lq:x.apps.length<=1024
 sw:∀y∈x.eE,SmW y
 si: -9223372036854775808<=x.cO/\x.cO<=9223372036854775807
structure vX (w:World) (k:Ca) (xs:List Rm) (x:Cm):Prop where
 p:bW w k.p.A 7 (x.ps.map Pa.row)
 h:bW w k.h.A 7 (x.hs.map Ho.row)
 r:bW w k.r.A 7 (xs.map Rm.row)
 f:∀y∈xs,yW w y
 e:dW xs=x.rs
 s:bW w k.s.A 3 (x.gK.map Sw.row)
 pl:bW w k.w.A 3 (x.eE.map Sw.row)
 c:bW w k.c.A 7 (x.jJ.map Ch.row)
 v:bW w k.v.A 4 (x.ye.map Va.row)
 a:bW w k.a.A 8 (x.gw.map Al.row)
 l:bW w k.l.A 3 (x.pL.map Lp.row)
 g:bW w k.g.A 4 (x.fQ.map Si.row)
 q:bW w k.q.A 4 (x.apps.map Ap.row)
 np:x.ps.length=k.p.n
 nh:x.hs.length=k.h.n
 nr:x.rs.length=k.r.n
 ns:x.gK.length=k.s.n
 nw:x.eE.length=k.w.n
 nc:x.jJ.length=k.c.n
 nv:x.ye.length=k.v.n
 na:x.gw.length=k.a.n
 nl:x.pL.length=k.l.n
 ng:x.fQ.length=k.g.n
 nq:x.apps.length=k.q.n
 cr:k.r.n<=k.r.c
 cs:k.s.n<=k.s.c
 cw:k.w.n<=k.w.c
 cq:k.q.n<=k.q.c
structure abE (w:World) (B:Nat) (y:Rm):Prop where
 o:ay w B 75 y.A y.n y.c 1 (y.r.ph.map eD)
structure fa (w:World) (B:Nat) (k:Ca) (xs:List Rm) (x:Cm):Prop where
 p:ay w B 145 k.p.A k.p.n k.p.c 7 (x.ps.map Pa.row)
 h:ay w B 149 k.h.A k.h.n k.h.c 7 (x.hs.map Ho.row)
 r:ay w B 151 k.r.A k.r.n k.r.c 7 (xs.map Rm.row)
 f:∀y∈xs,abE w B y
 e:dW xs=x.rs
 s:ay w B 73 k.s.A k.s.n k.s.c 3 (x.gK.map Sw.row)
 pl:Il w 123 k.w.A 3 (x.eE.map Sw.row)
 nw:x.eE.length=k.w.n
 cw:k.w.n<=k.w.c/\(k.w.A=none->k.w.c=0)
 c:ay w B 102 k.c.A k.c.n k.c.c 7 (x.jJ.map Ch.row)
 v:ay w B 153 k.v.A k.v.n k.v.c 4 (x.ye.map Va.row)
 a:ay w B 104 k.a.A k.a.n k.a.c 8 (x.gw.map Al.row)
 l:ay w B 155 k.l.A k.l.n k.l.c 3 (x.pL.map Lp.row)
 g:ay w B 106 k.g.A k.g.n k.g.c 4 (x.fQ.map Si.row)
 q:ay w B 68 k.q.A k.q.n k.q.c 4 (x.apps.map Ap.row)
section
variable {w w':World} {B:Nat} {k:Ca} {xs:List Rm} {x:Cm}
theorem ay.th{ty n c sz:Nat}{A:Option Addr}{rows:List (List Value)}(h:ay w B ty A n c sz rows)(e:A=none):c=0:=by
 subst e;rcases h.1.2 with⟨h1,_⟩|⟨_,_,_,h1,_⟩
 ·cases h1;rfl
 ·cases h1
theorem TK{A:Option Addr}{l c sz:Nat}(h:cT A l c sz=none):A=none:=by
 unfold cT at h;split at h
 ·exact h
 ·simpa using h
theorem vX.ar(h:vX w k xs x)(hb:Below w.heap.size w w'):vX w' k xs x:=
 ⟨h.p.below hb,h.h.below hb,h.r.below hb,fun y hy=>(h.f y hy).ar hb,h.e,h.s.below hb,h.pl.below hb,h.c.below hb,h.v.below hb,h.a.below hb,h.l.below hb,h.g.below hb,h.q.below hb,
  h.np,h.nh,h.nr,h.ns,h.nw,h.nc,h.nv,h.na,h.nl,h.ng,h.nq,h.cr,h.cs,h.cw,h.cq⟩
theorem fa.below(h:fa w B k xs x)(hb:Below w.heap.size w w'):fa w' B k xs x:=
 ⟨h.p.below hb,h.h.below hb,h.r.below hb,fun y hy=>⟨(h.f y hy).o.below hb⟩,h.e,h.s.below hb,h.pl.below hb,h.nw,h.cw,h.c.below hb,h.v.below hb,h.a.below hb,h.l.below hb,h.g.below hb,h.q.below hb⟩
theorem ay.rows{α:Type}{row:α->List Value}{ty n c sz:Nat}{A:Option Addr}{l:List α}(h:ay w B ty A n c sz (l.map row)):l.length=n:=by
 have:=h.len;rwa [en]at this
theorem fa.ze(h:fa w B k xs x)(d:∀y∈x.rs,Td y):vX w k xs x:=by
 refine⟨h.p.sl,h.h.sl,h.r.sl,fun y hy=>⟨(h.f y hy).o.sl,(h.f y hy).o.rows,d _ (by rw[<-h.e];exact iu.2 ⟨y,hy,rfl⟩),fun e=> ?_⟩,h.e,h.s.sl,h.pl.sl,h.c.sl,h.v.sl,h.a.sl,h.l.sl,h.g.sl,h.q.sl,
  h.p.rows,h.h.rows,?_,h.s.rows,h.nw,h.c.rows,h.v.rows,h.a.rows,h.l.rows,h.g.rows,h.q.rows,h.r.jZ,h.s.jZ,h.cw.1,h.q.jZ⟩
 ·exact(h.f y hy).o.th e
 ·rw[<-h.e,en];exact h.r.rows
theorem vX.pr(h:vX w k xs x)(sp:∀y∈x.ps,SmP y)(sh:∀y∈x.hs,SmH y)(lp:x.ps.length<=7)(lh:x.hs.length<=7)(lr:x.rs.length<=17):pT w k.p.A k.p.n k.h.A k.h.n k.r.A k.r.n k.r.c x.ps x.hs xs:=by
 have h1:=h.np;have d:=h.nh;have a:=h.nr;exact⟨⟨h.p,h.h,h.np,h.nh,sp,sh,om,om⟩,h.r,by rw[<-a,<-h.e,en],h.f,om,h.cr⟩
theorem vX.cg(h:vX w k xs x)(sp:∀y∈x.ps,SmP y)(sh:∀y∈x.hs,SmH y)(lp:x.ps.length<=7)(lh:x.hs.length<=7):hU w k.p.A k.p.n k.h.A k.h.n x.ps x.hs:=by
 have h1:=h.np;have a:=h.nh;exact⟨h.p,h.h,h.np,h.nh,sp,sh,om,om⟩
end
structure Wk (w:World) (B b:Nat) (k:Ca) (xs:List Rm) (x:Cm):Prop where
 box:w.heap[b]? =some (.cells (k.cells x).toArray 121 (0,0))
 hB:B<=b
 o:fa w B k xs x
theorem bD{w:World}{b:Nat}{a:Addr}{cs:List Value}{ty:Nat}{fr:Nat×Nat}(h:w.heap[b]? =some (.cells cs.toArray ty fr))(j m:Nat)(ha:a=⟨b,j,none⟩:=by simp only[ct]):aa w a ((cs.drop j).take m):=by
 subst ha;intro i hi;rw[ct];rw[ep,wo]at hi;simp[World.cell?,h]
section
variable {w w':World} {B b:Nat} {k:Ca} {xs:List Rm} {x:Cm}
theorem Wk.below(h:Wk w B b k xs x)(hb:Below w.heap.size w w'):Wk w' B b k xs x:=⟨ai h.box hb,h.hB,h.o.below hb⟩
theorem Wk.wrote(h:Wk w B b k xs x){cs:List Value}(hw:aG w w' b 121 cs):fa w' B k xs x:=by
 have o:=h.o;exact⟨o.p.apart h.box dc hw.rest,o.h.apart h.box dc hw.rest,o.r.apart h.box dc hw.rest,fun y hy=>⟨(o.f y hy).o.apart h.box dc hw.rest⟩,o.e,o.s.apart h.box dc hw.rest,o.pl.other h.box dc hw.rest,o.nw,o.cw,o.c.apart h.box dc hw.rest,o.v.apart h.box dc hw.rest,o.a.apart h.box dc hw.rest,o.l.apart h.box dc hw.rest,o.g.apart h.box dc hw.rest,o.q.apart h.box dc hw.rest⟩
end

abbrev b8(z:Int):List Value:=[.int .u8 z]
theorem wM{w:World}{B0 B n c:Nat}{tys:List Nat}{A:Option Addr}{xs:List Int}(ho:ay w B0 5 A n c 1 (xs.map b8))(a:xs≠[]){K:ByteArray->World->Prop}(g:K (strOfNums xs) w):
  ae Tryz.prog (convert 86 9 (.slice A n c)) B tys w fun r w1=>∃s,r= .string s/\K s w1:=by
 have hn:xs.length=n:=ho.rows;rcases ho.sl with e|⟨b,off,cs,ty,fr,rfl,h,j⟩
 ·exact absurd (List.map_eq_nil_iff.1 e) a
 ·have k:=run_convert_bytes_arg (P:=Tryz.prog) (w:=w) 86 5 Tryz.underlying86 Tryz.underlying5 b off n c xs hn (fun i hi=>by
   obtain⟨_,d⟩:=j i (by rw[en];omega) 0 sm;simp only[World.cell?,h];rw[Jm,xK]at d;rw[d,cz,af om];simp) 9 Tryz.underlying9
  exact⟨_,w,k,Below.refl _ _,ga _,fun _ _ _ _ _=>rfl,_,rfl,g⟩
def Zh:List Int:=[1779033703,3144134277,1013904242,2773480762,1359893119,2600822924,528734635,1541459225]
def EP(m:Int)(d:Nat):List Int:=(List.range d).map fun(k:Nat)=>IntKind.wrap .u8 (ny m (56 - 8*(k:Int)))
def FN(s:Nat):List Int:=[128]++List.replicate ((120 - (s+1) % 64) % 64) 0++EP ((s:Int)*8) 8
def HI:Nat->List Int->ByteArray->List Int
 |0,v,_=>v
 |d+1,v,p=>HI d (Ak v (p.extract 0 64)) (p.extract 64 p.size)
def Bj(z:Int):List Int:=[IntKind.wrap .u8 (ny z 24),IntKind.wrap .u8 (ny z 16),IntKind.wrap .u8 (ny z 8),IntKind.wrap .u8 z]
def abF(v:List Int):List Int:=(List.range 8).flatMap fun i=>Bj (v.getD i 0)
def PK(s:ByteArray):ByteArray:=strOfNums (abF (HI ((s++strOfNums (FN s.size)).size / 64) Zh (s++strOfNums (FN s.size))))
theorem TL(s:ByteArray):(PK s).size=32:=by
 unfold PK;rw[strOfNums_size];rfl
theorem PL{v:List Int}{p:ByteArray}(b:v.length=8):(Ak v p).length=8:=by
 unfold Ak;exact wL (P:=fun l:List Int=>l.length=8) (fun i a h=>by unfold Ps;rw[BD];exact h) 8 0 _ (wL (P:=fun l:List Int=>l.length=8) (fun i a _=>rfl) 64 0 v b)
theorem aj7{w:World}{B:Nat}{tys:List Nat}{v:List Int}(i:Nat)(hi:i<8){K:Int->World->Prop}(a:K (v.getD i 0) w):
  ae Tryz.prog (Instr.index 176 (wW v) (.int .i64 (i:Int))) B tys w fun r w1=>∃z,r= .int .u32 z/\K z w1:=by
 have h:(Instr.index 176 (wW v) (.int .i64 (i:Int))).run Tryz.prog w= .ok (.int .u32 (v.getD i 0)) w:=by
  have k0:(Instr.index 176 (wW v) (.int .i64 0)).run Tryz.prog w= .ok (.int .u32 (v.getD 0 0)) w:=kF;have b:(Instr.index 176 (wW v) (.int .i64 1)).run Tryz.prog w= .ok (.int .u32 (v.getD 1 0)) w:=kF;have c:(Instr.index 176 (wW v) (.int .i64 2)).run Tryz.prog w= .ok (.int .u32 (v.getD 2 0)) w:=kF;have d:(Instr.index 176 (wW v) (.int .i64 3)).run Tryz.prog w= .ok (.int .u32 (v.getD 3 0)) w:=kF;have e:(Instr.index 176 (wW v) (.int .i64 4)).run Tryz.prog w= .ok (.int .u32 (v.getD 4 0)) w:=kF;have g:(Instr.index 176 (wW v) (.int .i64 5)).run Tryz.prog w= .ok (.int .u32 (v.getD 5 0)) w:=kF;have j:(Instr.index 176 (wW v) (.int .i64 6)).run Tryz.prog w= .ok (.int .u32 (v.getD 6 0)) w:=kF;have k:(Instr.index 176 (wW v) (.int .i64 7)).run Tryz.prog w= .ok (.int .u32 (v.getD 7 0)) w:=kF
  match i,hi with
  |0,_=>exact k0
  |1,_=>exact b
  |2,_=>exact c
  |3,_=>exact d
  |4,_=>exact e
  |5,_=>exact g
  |6,_=>exact j
  |7,_=>exact k
 exact⟨_,w,h,Below.refl _ _,ga _,fun _ _ _ _ _=>rfl,_,rfl,a⟩
section
variable {w0:World} {s:ByteArray} {v:List Int}
theorem WX{v:List Int}:∀(d i:Nat)(w:World)(A:Option Addr)(n c:Nat)(out:List Int),8 - i=d->i<=8->Below w0.heap.size w0 w->ay w w0.heap.size 5 A n c 1 (out.map b8)->out=((List.range i).flatMap fun i=>Bj (v.getD i 0))->
  F.bf.uZ A n c (v.getD 0 0) (v.getD 1 0) (v.getD 2 0) (v.getD 3 0) (v.getD 4 0) (v.getD 5 0) (v.getD 6 0) (v.getD 7 0) (i:Int) w0.heap.size w fun r _=>r= .string (strOfNums (abF v)):=by
 intro d;induction d with
 |zero=>
  intro i w A n c out j hi hw ho he;have:i=8:=om;subst this;refine F.bf.uZ.step ⟨fun q=>by omega,fun _=>wM ho (by rw[he];simp[GX,Bj]) ?_⟩;rw[he];rfl
 |succ d ih=>
  intro i w A n c out j hi hw ho he;have hn:out.length=n:=ho.rows;have hl:out.length=4*i:=by
   rw[he,List.length_flatMap];have:∀l:List Nat,(l.map fun i=>(Bj (v.getD i 0)).length).sum=4*l.length:=fun l=>by
    induction l with
    |nil=>rfl
    |cons a r ih=>rw[DM,BC,ih,ew];simp[Bj];omega
   rw[this,List.length_range]
  refine F.bf.uZ.step ⟨fun _=>aj7 i om ⟨⟨dc,dc⟩,⟨dc,dc⟩,⟨dc,dc⟩,?_⟩,fun q=>by omega⟩;refine aW oX [.int .u8 (IntKind.wrap .u8 (ny (v.getD i 0) 24)),.int .u8 (IntKind.wrap .u8 (ny (v.getD i 0) 16)),.int .u8 (IntKind.wrap .u8 (ny (v.getD i 0) 8)),.int .u8 (IntKind.wrap .u8 (v.getD i 0))] (by simp[Value.cells]) sm hw.size fun A2 c2 k h b=> ?_
  have m:bW k A2 1 ((Bj (v.getD i 0)).map b8):=h.sl;refine vt oX lf (ho.below b) m (show((Bj (v.getD i 0)).map b8).length=4 from rfl) (fun r g=>by obtain⟨x,_,rfl⟩:=iu.1 g;rfl) (fun r g=>by obtain⟨x,_,rfl⟩:=iu.1 g;intro u hu;simp[b8]at hu;subst hu;rfl) (fun e=>h.th e) (ec hw.size b.size) om sm fun A3 c3 o y _ z=>⟨ir,?_⟩
  rw[show(i:Int)+1=((i+1:Nat):Int) by omega];refine ih (i+1) o A3 _ c3 (out++Bj (v.getD i 0)) om om ((kP hw b).trans z) (by rw[eh];exact y) ?_;rw[GX,QK,he];simp
theorem WY:∀(d:Nat)(w:World)(p:ByteArray)(v:List Int),p.size=64*d->v.length=8->Below w0.heap.size w0 w->
  F.bf.Bf p (v.getD 0 0) (v.getD 1 0) (v.getD 2 0) (v.getD 3 0) (v.getD 4 0) (v.getD 5 0) (v.getD 6 0) (v.getD 7 0) w0.heap.size w fun r _=>r= .string (strOfNums (abF (HI d v p))):=by
 intro d;induction d with
 |zero=>
  intro w p v hp a hw;refine F.bf.Bf.step ⟨fun q=>absurd (ByteArray.size_eq_zero_iff.1 om) q,fun _=> ?_⟩;exact WX 8 0 w none 0 0 [] rfl om hw ay.nil rfl
 |succ d ih=>
  intro w p v hp a hw;have b:(p.extract 0 64).size=64:=by rw[ByteArray.size_extract];omega
  have c:(p.extract 64 p.size).size=64*d:=by rw[ByteArray.size_extract];omega
  refine F.bf.Bf.step ⟨fun _=>⟨om,fun k g=> ?_⟩,fun q=>by
   exfalso;have e:=dT.1 q;rw[e]at hp;have l:(⟨#[]⟩:ByteArray).size=0:=rfl;omega⟩
  refine pm (Tn a b) ?_;rintro r m h rfl;refine⟨_,_,_,_,_,_,_,_,rfl,om,fun i j=> ?_⟩;exact ih i _ (Ak v (p.extract 0 64)) c (PL a) (kE (kP (kE hw g) h) j)
theorem PM(m:Int)(d:Nat):EP m (d+1)=EP m d++[IntKind.wrap .u8 (ny m (56 - 8*(d:Int)))]:=by
 unfold EP;rw[GX,eh];rfl
theorem abG(hs:s.size<=100000000){pre:List Int}(hp:FN s.size=pre++EP ((s.size:Int)*8) 8)(m:pre.length<=65)(b:(s.size+pre.length+8) % 64=0)(a:pre≠[]):∀(d k:Nat)(w:World)(A:Option Addr)(n c:Nat),8 - k=d->k<=8->Below w0.heap.size w0 w->ay w w0.heap.size 5 A n c 1 ((pre++EP ((s.size:Int)*8) k).map b8)->
  F.bf.L7 s ((s.size:Int)*8) A n c (56 - 8*(k:Int)) 1779033703 3144134277 1013904242 2773480762 1359893119 2600822924 528734635 1541459225 w0.heap.size w fun r _=>r= .string (PK s):=by
 intro d;induction d with
 |zero=>
  intro k w A n c g h hw ho;have:k=8:=om;subst this;rw[<-hp]at ho;have e:(strOfNums (FN s.size)).size=pre.length+8:=by
   rw[strOfNums_size,hp,dp];simp[EP]
  refine F.bf.L7.step ⟨fun q=>by omega,fun _=>wM ho (by rw[hp];simp[a]) ⟨om,?_⟩⟩;exact WY _ w (s++strOfNums (FN s.size)) Zh (by rw[eU];omega) rfl hw
 |succ d ih=>
  intro k w A n c g h hw ho;have hn:=ho.rows;rw[dp]at hn;have hl:(EP ((s.size:Int)*8) k).length=k:=by simp[EP]
  refine F.bf.L7.step ⟨fun _=>⟨⟨om,by show _<=(64:Int);omega⟩,?_⟩,fun q=>by omega⟩;refine ix oX lf ho (x:= .int .u8 (IntKind.wrap .u8 (ny ((s.size:Int)*8) (56 - 8*(k:Int))))) rfl (by simp[Value.cells,bk]) hw.size om dc fun A3 c3 i j _ l=>⟨ir,?_⟩
  rw[show(56 - 8*(k:Int)) - 8=56 - 8*((k+1:Nat):Int) by omega];refine ih (k+1) i A3 _ c3 om om (hw.trans l) ?_;rw[PM,<-fi,eh];exact j
theorem abH(hs:s.size<=100000000):∀(d k:Nat)(w:World)(A:Option Addr)(n c:Nat),(120 - (s.size+1+k) % 64) % 64=d->k+d=(120 - (s.size+1) % 64) % 64->Below w0.heap.size w0 w->ay w w0.heap.size 5 A n c 1 (([(128:Int)]++List.replicate k 0).map b8)->
  F.bf.L4 s ((s.size:Int)*8) A n c 1779033703 3144134277 1013904242 2773480762 1359893119 2600822924 528734635 1541459225 w0.heap.size w fun r _=>r= .string (PK s):=by
 intro d;induction d with
 |zero=>
  intro k w A n c b a hw ho;have hn:=ho.rows;simp only[dp,TT,pe]at hn;refine F.bf.L4.step ⟨ir,⟨om,dc⟩,fun q=>absurd q om,fun _=> ?_⟩;have:=abG (w0:=w0) hs (pre:=[(128:Int)]++List.replicate k 0) (by unfold FN;rw[<-a,xK]) (by simp;omega) (by simp;omega) sm 8 0 w A n c rfl om hw (by
   rw[show EP ((s.size:Int)*8) 0=[]from rfl,vB];exact ho)
  simpa using this
 |succ d ih=>
  intro k w A n c b a hw ho;have hn:=ho.rows;simp only[dp,TT,pe]at hn;refine F.bf.L4.step ⟨ir,⟨om,dc⟩,fun _=> ?_,fun q=>by omega⟩;refine ix oX lf ho (x:= .int .u8 0) rfl (by simp[Value.cells,bk]) hw.size om dc fun A3 c3 e g _ h=> ?_
  refine ih (k+1) e A3 _ c3 om om (hw.trans h) ?_;rw[U0,<-fi,eh];exact g
theorem bf(w:World)(s:ByteArray)(hs:s.size<=100000000):Pure Tryz.prog 54 #[.string s] w fun v _=>v= .string (PK s):=by
 refine F.bf.vc ⟨ir,ir,fun w1 x1=> ?_⟩;have hw:=k0 x1;refine aW oX [.int .u8 128] (by simp[Value.cells]) sm hw.size fun A2 c2 a b c=> ?_
 exact abH hs _ 0 a A2 1 c2 rfl om (kP hw c) (b.base hw.size)
end
def HJ(s:ByteArray)(b:Int)(i:Nat)(l:List Int):List Int:=l.set i (bits .xor .u8 ((if i<s.size then l.set i (bt s i)else l).getD i 0) b)
def afB(s:ByteArray)(b:Int):ByteArray:=strOfNums (iter (HJ s b) 64 0 (List.replicate 64 0))
theorem TM(s:ByteArray)(b:Int)(d i:Nat)(l:List Int)(h:l.length=64):(iter (HJ s b) d i l).length=64:=
 wL (P:=fun l:List Int=>l.length=64) (fun i a h=>by unfold HJ;rw[BD];exact h) d i l h
def W8(w:World)(b:Nat)(l:List Int):Prop:=w.heap[b]? =some (.cells (l.map fun z=>Value.int .u8 z).toArray 209 (0,0))
theorem W8.at_{w:World}{b:Nat}{l:List Int}(h:W8 w b l){i:Nat}(hi:i<l.length):aa w ((⟨b,0,none⟩:Addr).add (i*1)) [.int .u8 (l.getD i 0)]:=by
 rw[Jm];refine bz h ?_;rw[ow,cz,af hi];rfl
theorem W8.set{w:World}{B b:Nat}{l:List Int}(h:W8 w b l)(hB:B<=b){i:Nat}(hi:i<l.length)(v:Int){K:World->Prop}(a:∀w1,W8 w1 b (l.set i v)->Below B w w1->K w1):
  ∃(cs:List Value)(t:Nat),B<=((⟨b,0,none⟩:Addr).add (i*1)).block/\((⟨b,0,none⟩:Addr).add (i*1)).spot=none/\w.heap[((⟨b,0,none⟩:Addr).add (i*1)).block]? =some (.cells cs.toArray t (0,0))/\((⟨b,0,none⟩:Addr).add (i*1)).off+1<=cs.length/\hasType t []=false/\
   ∀w1,aG w w1 ((⟨b,0,none⟩:Addr).add (i*1)).block t (setCells cs ((⟨b,0,none⟩:Addr).add (i*1)).off [.int .u8 v])->K w1:=by
 rw[Jm,ct];refine⟨_,_,hB,rfl,h,by simp;omega,rfl,fun w1 hw=> ?_⟩;dsimp only at hw;rw[mC]at hw;refine a w1 ?_ (aG.eC hw hB);have e:setCells (l.map fun z=>Value.int .u8 z) i [.int .u8 v]=(l.set i v).map fun z=>Value.int .u8 z:=by
  simp only[setCells];rw[IK]
 rw[e]at hw;exact hw.at_
theorem abI(w0:World)(s:ByteArray)(b:Int):Pure Tryz.prog 93 #[.string s,.int .u8 b] w0 fun v _=>v= .string (afB s b):=by
 refine F.dL.vc (cK (z:= .agg (List.replicate 64 (.int .u8 0)).toArray) _ kF lf fun w1 h1 n l1=> ?_);have key:∀(d i:Nat)(l:List Int)(w:World),64 - i=d->i<=64->Below w0.heap.size w0 w->l.length=64->W8 w w0.heap.size l->
   F.dL.L3 s b ⟨w0.heap.size,0,none⟩ (i:Int) w0.heap.size w fun v _=>v= .string (strOfNums (iter (HJ s b) d i l)):=by
  intro d;induction d with
  |zero=>
   intro i l w o hi hw hl h;refine F.dL.L3.step ⟨fun q=>by omega,fun _=> ?_⟩;have r:(Instr.sliceAt 209 (.pointer (some ⟨w0.heap.size,0,none⟩)) none none none).run Tryz.prog w= .ok (.slice (some ⟨w0.heap.size,0,none⟩) 64 64) w:=kF;refine⟨_,w,r,Below.refl _ _,ga _,fun _ _ _ _ _=>rfl,_,_,_,rfl,?_⟩;have x:=run_convert_bytes_arg (P:=Tryz.prog) (w:=w) 86 5 Tryz.underlying86 Tryz.underlying5 w0.heap.size 0 64 64 l hl (fun j hj=>by
    have h:w.heap[w0.heap.size]? =_:=h;simp only[World.cell?,h];rw[mC];simp[cz,af (show j<l.length by omega)]) 9 Tryz.underlying9
   exact⟨_,w,x,Below.refl _ _,ga _,fun _ _ _ _ _=>rfl,_,rfl,rfl⟩
  |succ d ih=>
   intro i l w o hi hw hl h;have fin:∀{w1:World} {a:List Int},a.length=64->Below w0.heap.size w0 w1->W8 w1 w0.heap.size a->a.set i (bits .xor .u8 (a.getD i 0) b)=HJ s b i l->_:=fun {w1 a} c y A e=>A.set lf (i:=i) om (bits .xor .u8 (a.getD i 0) b) (K:=fun g=>aN .i64 ((i:Int)+1)/\F.dL.L3 s b ⟨w0.heap.size,0,none⟩ ((i:Int)+1) w0.heap.size g fun v _=>v= .string (strOfNums (iter (HJ s b) (d+1) i l))) fun g k B=>⟨ir,by
    rw[show(i:Int)+1=((i+1:Nat):Int) by omega];rw[e]at k;exact ih (i+1) (HJ s b i l) g om om (y.trans B) (by rw[<-e,BD];exact c) k⟩
   refine F.dL.L3.step ⟨fun _=>⟨fun q=>⟨⟨om,om⟩,⟨om,om⟩,?_⟩,fun q=>⟨⟨om,om⟩,_,h.at_ (i:=i) om,⟨om,om⟩,?_⟩⟩,fun q=>by omega⟩
   ·refine h.set lf (i:=i) om (bt s i) fun D m C=>⟨⟨om,om⟩,_,m.at_ (i:=i) (by rw[BD];omega),⟨om,om⟩,?_⟩
    refine fin (by rw[BD];exact hl) (hw.trans C) m ?_;unfold HJ;rw[bm om,List.set_set]
   ·refine fin hl hw h ?_;unfold HJ;rw[aq om]
 have z1:W8 w1 w0.heap.size (List.replicate 64 0):=h1;exact key 64 0 _ w1 rfl om n sm z1
def aj8:mw:=⟨PK,afB⟩
theorem MT:fj aj8:=⟨fun w s hs=>bf w s hs,TL,fun w s b _ _ _=>abI w s b,fun s b=>by
 show(strOfNums _).size=64;rw[strOfNums_size,TM _ _ _ _ _ sm]⟩

def MU(n:Nat):List Int:=if h:n<128 then[(n:Int)]else((n % 128+128:Nat):Int)::MU (n / 128)
termination_by n
decreasing_by omega
theorem HK{n:Nat}(h:n<128):MU n=[(n:Int)]:=by rw[MU,dif_pos h]
theorem MV{n:Nat}(h:¬n<128):MU n=((n % 128+128:Nat):Int)::MU (n / 128):=by rw[MU,dif_neg h]
def nB(n:Nat):ByteArray:=strOfNums (MU n)
theorem Zi(n:Nat):IntKind.wrap .u8 (n:Int)=((n % 256:Nat):Int):=by
 show(n:Int) % 256=_;omega
theorem PN:∀x:Fin 256,bits .or .u8 ((x.val:Nat):Int) 128=((x.val % 128+128:Nat):Int):=by decide+kernel
theorem afC(n:Nat):bits .or .u8 (IntKind.wrap .u8 (n:Int)) 128=((n % 128+128:Nat):Int):=by
 rw[Zi];have:=PN ⟨n % 256,om⟩;simp only at this;rw[this];omega
theorem aj9(n:Nat):ny (n:Int) 7=((n / 128:Nat):Int):=by
 show(n:Int) / 128=_;omega
theorem Ob:∀(k n:Nat),n<128^(k+1)->(MU n).length<=k+1:=by
 intro k;induction k with
 |zero=>
  intro n h;rw[HK (by simpa using h)];exact ga _
 |succ k ih=>
  intro n h;by_cases h1:n<128
  ·rw[HK h1,pe];omega
  ·rw[MV h1,ew];have:=ih (n / 128) (by rw[ob]at h;omega);omega
theorem TN{w0:World}{n0:Nat}(g:n0<9223372036854775808):∀(n:Nat)(w:World)(A:Option Addr)(l c:Nat)(pre:List Int),Below w0.heap.size w0 w->ay w w0.heap.size 5 A l c 1 (pre.map b8)->MU n0=pre++MU n->pre.length+(MU n).length<=10->n<=n0->
  F.cj.L2 n A l c w0.heap.size w fun v _=>v= .string (nB n0):=by
 intro n;induction n using Nat.strongRecOn with
 |_ n ih=>
  intro w A l c pre hw ho he hl hn;have h:=ho.rows;refine F.cj.L2.step ⟨fun q=> ?_,fun q=> ?_⟩
  ·rw[MV (n:=n) om]at he hl;rw[ew]at hl;rw[afC];refine ix oX lf ho (x:= .int .u8 ((n % 128+128:Nat):Int)) rfl (by simp[Value.cells,bk]) hw.size om dc fun A3 c3 a b _ e=>⟨⟨dc,dc⟩,?_⟩
   rw[aj9];refine ih (n / 128) om a A3 _ c3 (pre++[((n % 128+128:Nat):Int)]) (hw.trans e) ?_ (by rw[he];simp) (by rw[dp,pe];omega) om;rw[eh];exact b
  ·rw[HK (n:=n) om]at he hl;rw[Zi,show n % 256=n by omega];refine ix oX lf ho (x:= .int .u8 (n:Int)) rfl (by simp[Value.cells,bk]) hw.size (by simp at hl;omega) dc fun A3 c3 a b _ e=> ?_
   have d:ay a w0.heap.size 5 A3 (l+1) c3 1 ((pre++[(n:Int)]).map b8):=by
    rw[eh];exact b
   exact wM d sm (by rw[<-he];rfl)
theorem cj(w:World)(n:Nat)(hn:n<9223372036854775808):Pure Tryz.prog 63 #[.int .i64 n] w fun v _=>v= .string (nB n):=
 F.cj.vc (TN hn n w none 0 0 [] (Below.refl _ _) ay.nil rfl (by have:=Ob 8 n om;simpa using(by omega:(MU n).length<=10)) lf)
def FO(z:Int):Nat:=if z<0 then(-2*z - 1).toNat else(2*z).toNat
theorem lj(w:World)(z:Int)(hz: -4611686018427387904<z/\z<4611686018427387904):Pure Tryz.prog 64 #[.int .i64 z] w fun v _=>v= .string (nB (FO z)):=by
 unfold FO;obtain⟨h1,b⟩:=hz;refine F.lj.vc ⟨fun q=>⟨?_,?_,?_⟩,fun q=>⟨?_,?_⟩⟩
 ·simp only[aN];omega
 ·simp only[aN];omega
 ·rw[bm q,show(-2:Int)*z - 1=(((-2*z - 1).toNat:Nat):Int) by omega];refine pm (cj w _ om) ?_;rintro v w1 a rfl;exact⟨_,rfl,by rw[cd]⟩
 ·simp only[aN];omega
 ·rw[aq q,show(2:Int)*z=(((2*z).toNat:Nat):Int) by omega];refine pm (cj w _ om) ?_;rintro v w1 a rfl;exact⟨_,rfl,by rw[cd]⟩

def Bu(w:World)(B b:Nat)(t:Tx):Prop:=Lib.IsBuilderF 88 5 B b (Lib.byteCells t) w
section
variable {w w':World} {B b:Nat} {t:Tx}
theorem Bu.below(h:Bu w B b t)(hb:Below w.heap.size w w'):Bu w' B b t:=by
 have key:∀p,Lib.BuilderAtF 88 5 B b p (Lib.byteCells t) w->Lib.BuilderAtF 88 5 B b p (Lib.byteCells t) w':=by
  rintro p ⟨h1,v,a,c,d⟩;exact⟨h1,v,ai a hb,c.kept (row:=none) ⟨hb.os,hb.tape,hb.output,hb.size,fun k e _=>hb.block k e⟩ (by cases v.ownBlock<;>simp),d⟩
 exact h.elim (fun k=> .inl (key _ k)) (fun k=> .inr (key _ k))
theorem Bu.sty(h:Bu w B b t)(k:Lib.OthersKept 5 (some b) w w'){ts:List Nat}(h1:88∉ts)(a:5∉ts):qk ts w w':=by
 intro q ty cs g d;have hb:∃c,w.heap[b]? =some (.cells c 88 (0,0)):=by
  rcases h with⟨_,v,a,_⟩|⟨_,v,a,_⟩<;>exact⟨_,a⟩
 obtain⟨c,hb⟩:=hb;rw[k q _ d (fun e=>by
  cases e;rw[hb]at d;cases d;exact h1 g) (fun c i e=>by
  cases e;exact a g),d]
theorem qI(h:Bu w B b t)(s:ByteArray)(hl:t.length+s.size<=140737488355328)(hB:B<=w.heap.size){ts:List Nat}(h1:88∉ts)(d:5∉ts){K:World->Prop}(g:∀w',Below B w w'->Bu w' B b (t++bJ s)->Lib.OthersKept 5 (some b) w w'->K w'):
  ba Tryz.prog 28 #[.pointer (some ⟨b,0,none⟩),.string s] B w fun v w'=>qk ts w w'/\∃(i:Int)(u:Value),v= .tuple #[.int .i64 i,u]/\K w':=by
 refine Calls.mono (Tryz.zN B b (Lib.byteCells t) s w h (by rw[Lib.byteCells_length];exact hl) hB) ?_;rintro e w' ⟨rfl,j,a,c⟩;refine⟨_,rfl,a,h.sty c h1 d,_,_,rfl,g w' a (.inr ?_) c⟩;rw[Lib.byteCells_append];exact j
theorem Ar(h:Bu w B b t)(hB:B<=w.heap.size){ts:List Nat}(h1:88∉ts)(c:5∉ts){K:World->Prop}(d:∀w',Below B w w'->Bu w' B b t->K w'):
  ba Tryz.prog 30 #[.pointer (some ⟨b,0,none⟩)] B w fun v w'=>qk ts w w'/\∃(s:ByteArray),v= .string s/\s=st t/\K w':=by
 refine Calls.mono (Tryz.Builder_String_any_k B b t w h hB) ?_;rintro e w' ⟨rfl,g,a,i⟩;exact⟨_,rfl,a,h.sty i h1 c,_,rfl,rfl,d w' a g⟩
theorem MW(h:w.heap[b]? =some (.cells [.pointer none,.slice none 0 0].toArray 88 (0,0)))(hB:B<=b):Bu w B b []:=
 .inl ⟨hB,_,h,World.ownsRowF_nil _ _ _ _,by simp[Value.ownBlock]⟩
end
def cJ:List ByteArray->Tx
 |[]=>[]
 |s::r=>bJ (nB s.size++s)++cJ r
theorem MX:∀(l:List ByteArray)(s:ByteArray),cJ (l++[s])=cJ l++bJ (nB s.size++s):=by
 intro l s;induction l with
 |nil=>simp[cJ]
 |cons x r ih=>rw[vv,cJ,ih,cJ,fi]
theorem iO(n:Nat)(h:n<9223372036854775808):(nB n).size<=9:=by
 unfold nB;rw[strOfNums_size];exact Ob 8 n om
theorem dx(s:ByteArray):(bJ s).length=s.size:=rfl
theorem ti:∀(l:List ByteArray)(m:Nat),(∀s∈l,s.size<=m)->m<1000000000->(cJ l).length<=l.length*(m+9):=by
 intro l m;induction l with
 |nil=>simp[cJ]
 |cons x r ih=>
  intro h hm;have h1:=ih (fun s hs=>h s (Js _ hs)) hm;have a:=h x RB;have c:=iO x.size om;rw[cJ,dp,dx,eU,ew,Zx];omega
theorem dH{w:World}{A:Option Addr}{n c:Nat}{l:List ByteArray}(h:bW w A 1 (l.map eD))(hl:l.length=n)(hn:n<=100)(hs:∀s∈l,s.size<=100000):Pure Tryz.prog 29 #[.slice A n c] w fun v _=>v= .string (st (cJ l)):=by
 refine F.dH.vc ?_;refine cK (z:= .agg #[.pointer none,.slice none 0 0]) _ kF lf fun w1 h1 m l1=> ?_
 have key:∀(d i:Nat)(w':World),n - i=d->i<=n->Below w.heap.size w w'->Bu w' w.heap.size w.heap.size (cJ (l.take i))->
   F.dH.L3 ⟨w.heap.size,0,none⟩ A n c n i w.heap.size w' fun v _=>v= .string (st (cJ l)):=by
  intro d;induction d with
  |zero=>
   intro i w' o hi hw hb;rw[cc om]at hb;refine F.dH.L3.step ⟨fun q=>by omega,fun _=> ?_⟩;refine ba.mono (Ar hb hw.size (ts:=[]) sm sm (K:=fun _=>True) fun _ _ _=>trivial) ?_;rintro v r g ⟨s2,s,rfl,rfl,_⟩;exact⟨s2,_,rfl,rfl⟩
  |succ d ih=>
   intro i w' o hi hw hb;have j:i<l.length:=om;obtain⟨x,a,y,e,_⟩:=(h.below hw).at_ (row:=eD) (fun _=>rfl) hl j;have lz:=hs l[i] (bx j);refine F.dH.L3.step ⟨fun _=>⟨x,a,y,_,e,pm (cj w' l[i].size om) ?_⟩,fun q=>by omega⟩;rintro v r g rfl;have H:=iO l[i].size om;refine⟨_,rfl,om,?_⟩;have hlen:=ti (l.take i) 100000 (fun s C=>hs s (oe C)) om;have D:(l.take i).length<=100:=by rw[ep];omega
   have I:(cJ (l.take i)).length<=100*100009:=ec hlen (oi D lf);refine qI (hb.below g) (nB l[i].size++l[i]) (by rw[eU];omega) (kP hw g).size sm sm fun E G k _=>⟨ir,?_⟩
   rw[show(i:Int)+1=((i+1:Nat):Int) by omega];refine ih (i+1) E om om ((kP hw g).trans G) ?_;rw[hP j,MX];exact k
 exact key n 0 w1 rfl om m (MW h1 lf)

theorem abJ(a b:Nat)(ha:a<9223372036854775808)(hb:b<9223372036854775808):bits .or .i64 (a:Int) (b:Int)=((a|||b:Nat):Int):=by
 have hx:a|||b<2^63:=Nat.or_lt_two_pow om om
 have h1:(BitVec.ofInt 64 (a:Int)).toNat=a:=by
  rw[Vi,Xk];exact KO om
 have c:(BitVec.ofInt 64 (b:Int)).toNat=b:=by
  rw[Vi,Xk];exact KO om
 show IntKind.i64.wrap ((BitVec.ofInt 64 (a:Int)|||BitVec.ofInt 64 (b:Int)).toNat:Int)=_;rw[BitVec.toNat_or,h1,c,IntKind.wrap_i64];omega
theorem MY:∀x:Fin 256,bits .and .u8 ((x.val:Nat):Int) 127=((x.val % 128:Nat):Int):=by decide+kernel
theorem JQ{a x j:Nat}(ha:a<2^(7*j))(hx:x<128)(hj:j<=7):bits .or .i64 (a:Int) (qd .i64 (x:Int) ((7*j:Nat):Int))=((a+x*2^(7*j):Nat):Int):=by
 have hp:2^(7*j)<=2^49:=gb om om;have hm:x*2^(7*j)<=127*2^49:=oi om hp;have e:qd .i64 (x:Int) ((7*j:Nat):Int)=((x*2^(7*j):Nat):Int):=by
  unfold qd;rw[cd,show(x:Int)*2^(7*j)=((x*2^(7*j):Nat):Int) by push_cast;rfl,IntKind.wrap_i64];omega
 rw[e,abJ _ _ om om,Nat.or_comm,DS,<-Nat.two_pow_add_eq_or_of_lt ha,M9]
def Rd(w:World)(b:Nat)(s:ByteArray)(bad:Bool):Prop:=w.heap[b]? =some (.cells [.string s,.bool bad].toArray 98 (0,0))
def byT(l:List Int):Tx:=l.map fun z=>z.toNat.toUInt8
theorem TO{w0:World}{B b n:Nat}{rest:Tx}{bad:Bool}(hB:B<=b)(hn:n<2^56){K:Value->World->Prop}
  (L:∀w s,Below B w0 w->(∀k,k≠b->k<w0.heap.size->w.heap[k]? =w0.heap[k]?)->Rd w b s bad->bJ s=rest->K (.int .i64 n) w):
  ∀(m j a:Nat)(w:World)(s:ByteArray),n=a+m*2^(7*j)->a<2^(7*j)->(j≠0->m≠0)->j<=7->Below B w0 w->(∀k,k≠b->k<w0.heap.size->w.heap[k]? =w0.heap[k]?)->Rd w b s bad->bJ s=byT (MU m)++rest->
   F.bO.L3 ⟨b,0,none⟩ a ((7*j:Nat):Int) B w K:=by
 intro m;induction m using Nat.strongRecOn with
 |_ m ih=>
  intro j a w s d ha A hj hw ho M hs;have C:aa w ((⟨b,0,none⟩:Addr).add 0) [.string s]:=bD M 0 1;have x:(2:Nat)^(7*(j+1))=2^(7*j)*128:=by rw[pP,Zz]
  have D:∃(c:Nat)(t:Tx),c<256/\c % 128=m % 128/\bJ s=c.toUInt8::t/\((m<128/\c=m/\t=rest)∨(¬m<128/\128<=c/\t=byT (MU (m / 128))++rest)):=by
   by_cases h:m<128
   ·exact⟨m,rest,om,rfl,by rw[hs,HK h];rfl,.inl ⟨h,rfl,rfl⟩⟩
   ·refine⟨m % 128+128,byT (MU (m / 128))++rest,om,om,?_,.inr ⟨h,om,rfl⟩⟩;rw[hs,MV h];rfl
  obtain⟨c,t,P,E,g,y⟩:=D;have lz:s.size=t.length+1:=by rw[<-dx,g];rfl
  have G:bt s 0=(c:Int):=by
   show(((bJ s).getD 0 0).toNat:Int)=c;rw[g];show((c.toUInt8.toNat:Nat):Int)=c;rw[show c.toUInt8.toNat=c % 256 from rfl];omega
  have hand:bits .and .u8 (c:Int) 127=((m % 128:Nat):Int):=by
   have:=MY ⟨c,P⟩;simp only at this;rw[this,E]
  have H:s≠(⟨#[]⟩:ByteArray):=fun e=>by
   rw[e]at lz;have S:(⟨#[]⟩:ByteArray).size=0:=rfl;omega
  refine F.bO.L3.step ⟨fun _=>⟨s,C,fun _=>⟨s,C,⟨om,om⟩,s,C,⟨om,om⟩,_,_,hB,rfl,M,(show(0:Nat)+1<=2 from by omega),rfl,fun r I=> ?_⟩,fun q=>absurd H q⟩,fun q=>absurd (show((7*j:Nat):Int)<63 by omega) q⟩;have i:Rd r b (s.extract 1 s.size) bad:=I.at_;have l:bJ (s.extract 1 s.size)=t:=by rw[lK,g];simp[lz]
  have J:Below B w0 r:=hw.trans (aG.eC I hB);have o:∀k,k≠b->k<w0.heap.size->r.heap[k]? =w0.heap[k]? :=fun k N hl=>(I.rest k N).trans (ho k N hl)
  rw[G,hand];refine⟨ir,⟨om,by show _<=(64:Int);omega⟩,fun q=> ?_,fun q=> ?_⟩
  ·rw[JQ ha om hj];rcases y with⟨h1,O,z⟩|⟨_,O,_⟩
   ·have e:((a+m % 128*2^(7*j):Nat):Int)=(n:Int):=by rw[KO h1,d]
    rw[e];exact⟨fun q=>⟨fun T=>absurd (A om) om,fun _=>⟨fun Q=>by omega,fun _=>L r _ J o i (l.trans z)⟩⟩,fun _=>⟨fun Q=>by omega,fun _=>L r _ J o i (l.trans z)⟩⟩
   ·omega
  ·rw[JQ ha om hj];rcases y with⟨h1,O,_⟩|⟨h1,_,z⟩
   ·omega
   ·refine⟨ir,?_⟩;have R:j<7:=bB fun k=>by
     have:j=7:=om;subst this;have:(2:Nat)^(7*7)=562949953421312:=dc;rw[this]at d;have:(2:Nat)^56=72057594037927936:=dc;omega
    rw[show((7*j:Nat):Int)+7=((7*(j+1):Nat):Int) by omega];have U:m=m % 128+128*(m / 128):=om;refine ih (m / 128) om (j+1) _ r _ ?_ ?_ (fun _=>by omega) om J o i (l.trans z)
    ·rw[d,x];grind
    ·rw[x];have:m % 128*2^(7*j)<=127*2^(7*j):=oi om lf;omega
theorem kC{w:World}{B b n:Nat}{rest:Tx}{bad:Bool}{s:ByteArray}(hB:B<=b)(c:B<=w.heap.size)(hn:n<2^56)(d:Rd w b s bad)(hs:bJ s=bJ (nB n)++rest):
  ba Tryz.prog 66 #[.pointer (some ⟨b,0,none⟩)] B w fun v w'=>v= .int .i64 n/\∃a,Rd w' b a bad/\bJ a=rest/\∀k,k≠b->k<w.heap.size->w'.heap[k]? =w.heap[k]? :=
 F.bO.sV c (TO (w0:=w) hB hn (fun _ a _ e g h=>⟨rfl,a,g,h,e⟩) n 0 0 w s sm sm (fun q=>absurd rfl q) om (Below.refl _ _) (fun _ _ _=>rfl) d hs)
theorem uk{w:World}{B b n:Nat}{nz:Int}{rest:Tx}{bad:Bool}{s:ByteArray}(hB:B<=b)(a:B<=w.heap.size)(hn:n<2^56)(hm:(n:Int)<=nz)(d:Rd w b s bad)(hs:bJ s=bJ (nB n)++rest):
  ba Tryz.prog 67 #[.pointer (some ⟨b,0,none⟩),.int .i64 nz] B w fun v w'=>v= .int .i64 n/\∃c,Rd w' b c bad/\bJ c=rest/\∀k,k≠b->k<w.heap.size->w'.heap[k]? =w.heap[k]? :=by
 refine F.kQ.sV a (ba.mono (kC hB a hn d hs) ?_);rintro v w1 e ⟨rfl,h⟩;exact⟨by simp[qk],_,rfl,fun q=>by omega,fun _=>⟨rfl,h⟩⟩
theorem um{w:World}{B b:Nat}{t:ByteArray}{rest:Tx}{s:ByteArray}(hB:B<=b)(d:B<=w.heap.size)(j:t.size<2147483648)(l:Rd w b s false)(hs:bJ s=bJ (nB t.size)++(bJ t++rest)):
  ba Tryz.prog 31 #[.pointer (some ⟨b,0,none⟩)] B w fun v w'=>v= .string t/\∃g,Rd w' b g false/\bJ g=rest/\∀k,k≠b->k<w.heap.size->w'.heap[k]? =w.heap[k]? :=by
 refine F.iz.sV d (ba.mono (kC hB d (uB j dc) l hs) ?_);rintro v w1 n ⟨rfl,s1,a,e,ho⟩;have c:aa w1 ((⟨b,0,none⟩:Addr).add 0) [.string s1]:=bD a 0 1;have m:aa w1 ((⟨b,0,none⟩:Addr).add 1) [.bool false]:=bD a 1 1;have lz:s1.size=t.size+rest.length:=by rw[<-dx,e,dp,dx]
 refine⟨by simp[qk],_,rfl,_,m,sm,fun _=>⟨_,c,fun q=>by omega,fun _=>⟨_,c,⟨om,om⟩,_,c,⟨om,om⟩,_,_,hB,rfl,a,(show(0:Nat)+1<=2 from by omega),rfl,fun o h=>⟨?_,_,h.at_,?_,fun k i hl=>(h.rest k i).trans (ho k i hl)⟩⟩⟩⟩
 ·refine ca Value.string (xM ?_);rw[cd,lK,e,AY,vi (by rw[dx];omega),cc (by rw[dx];omega)]
 ·rw[cd,lK,e,cc (by rw[dp,dx];omega),Jr (by rw[dx];omega),dd (by rw[dx];omega),u0]

structure Ev where
 id:Int
 tick:Int
 kind:Int
 nums:List Int
 bS:List ByteArray
 texts:List ByteArray
structure Ea where
 n:Sl
 r:Sl
 t:Sl
abbrev Ea.val(a:Ea)(e:Ev):Value:= .agg #[.int .i64 e.id,.int .i64 e.tick,.int .i64 e.kind,a.n.v,a.r.v,a.t.v]
structure mZ (w:World) (a:Ea) (e:Ev):Prop where
 n:bW w a.n.A 1 (e.nums.map fO)
 r:bW w a.r.A 1 (e.bS.map eD)
 t:bW w a.t.A 1 (e.texts.map eD)
 ln:e.nums.length=a.n.n
 lr:e.bS.length=a.r.n
 lt:e.texts.length=a.t.n
 mn:e.nums.length<=24
 mr:e.bS.length<=9
 mt:e.texts.length<=4
 sr:∀s∈e.bS,s.size<=40
 st:∀s∈e.texts,s.size<=70
 zr:a.r.A=none->a.r.c=0
 ik:aN .i64 e.kind
theorem mZ.ar{w w':World}{a:Ea}{e:Ev}(h:mZ w a e)(hb:Below w.heap.size w w'):mZ w' a e:=⟨h.n.below hb,h.r.below hb,h.t.below hb,h.ln,h.lr,h.lt,h.mn,h.mr,h.mt,h.sr,h.st,h.zr,h.ik⟩
def bA(ty:Nat)(w w':World):Prop:=∀(q t:Nat)(cs:Array Value)(fr:Nat×Nat),t≠ty->w.heap[q]? =some (.cells cs t fr)->w'.heap[q]? =some (.cells cs t fr)
section
variable {w w':World} {B b ty t sz n c:Nat} {A:Option Addr} {rows:List (List Value)} {k:Ca} {xs:List Rm} {x:Cm}
theorem ay.bH(h:ay w B t A n c sz rows)(s:bA ty w w')(d:t≠ty):ay w' B t A n c sz rows:=
 h.other fun a ha=>by
  obtain⟨cs,g⟩:=h.cells a ha;rw[g];exact s _ _ _ _ d g
theorem Il.bH(h:Il w t A sz rows)(s:bA ty w w')(a:t≠ty):Il w' t A sz rows:=by
 rcases h with e|⟨b,off,cs,fr,d,g,i⟩
 ·exact .inl e
 ·exact .inr ⟨b,off,cs,fr,d,s _ _ _ _ a g,i⟩
theorem bA.grown(o:ay w B ty A n c sz rows)(g:w.grownBy w' (Value.ownBlock (.slice A n c))):bA ty w w':=fun q t cs fr h d=>
 (g.block q (ax.1 d).1 fun e=>by
  cases A with
  |none=>cases e
  |some a=>
   cases e;obtain⟨j,i⟩:=o.cells a rfl;rw[i]at d;cases d;exact h rfl).trans d
theorem bA.wrote{cs g:List Value}(hw:aG w w' b ty g)(hb:w.heap[b]? =some (.cells cs.toArray ty (0,0))):bA ty w w':=fun q t c fr a d=>
 (hw.rest q fun e=>by subst e;rw[hb]at d;cases d;exact a rfl).trans d
theorem fa.MZ(h:fa w B k xs x)(s:bA ty w w'):
  (145≠ty->ay w' B 145 k.p.A k.p.n k.p.c 7 (x.ps.map Pa.row))/\(149≠ty->ay w' B 149 k.h.A k.h.n k.h.c 7 (x.hs.map Ho.row))/\
  (151≠ty->ay w' B 151 k.r.A k.r.n k.r.c 7 (xs.map Rm.row))/\(75≠ty->∀y∈xs,abE w' B y)/\
  (73≠ty->ay w' B 73 k.s.A k.s.n k.s.c 3 (x.gK.map Sw.row))/\(123≠ty->Il w' 123 k.w.A 3 (x.eE.map Sw.row))/\
  (102≠ty->ay w' B 102 k.c.A k.c.n k.c.c 7 (x.jJ.map Ch.row))/\(153≠ty->ay w' B 153 k.v.A k.v.n k.v.c 4 (x.ye.map Va.row))/\
  (104≠ty->ay w' B 104 k.a.A k.a.n k.a.c 8 (x.gw.map Al.row))/\(155≠ty->ay w' B 155 k.l.A k.l.n k.l.c 3 (x.pL.map Lp.row))/\
  (106≠ty->ay w' B 106 k.g.A k.g.n k.g.c 4 (x.fQ.map Si.row))/\(68≠ty->ay w' B 68 k.q.A k.q.n k.q.c 4 (x.apps.map Ap.row)):=
 ⟨h.p.bH s,h.h.bH s,h.r.bH s,fun d y hy=>⟨(h.f y hy).o.bH s d⟩,h.s.bH s,h.pl.bH s,h.c.bH s,h.v.bH s,h.a.bH s,h.l.bH s,h.g.bH s,h.q.bH s⟩
theorem fa.bH(h:fa w B k xs x)(s:bA 121 w w'):fa w' B k xs x:=by
 obtain⟨p1,p2,p3,g,i,j,l,m,o,a,d,q⟩:=h.MZ s;exact⟨p1 dc,p2 dc,p3 dc,g dc,h.e,i dc,j dc,h.nw,h.cw,l dc,m dc,o dc,a dc,d dc,q dc⟩
end
def M0(r:Cm×Int)(B b:Nat)(v:Value)(w':World):Prop:=v= .int .i64 r.2/\(r.2=0->∃k xs,Wk w' B b k xs r.1)
def uE(x:Cm):Int:=if lQ x.ps x.hs x.rs x.gK=false then 15 else 0
def pd(x:Cm)(e:Ev):Cm×Int:=match e.nums,e.bS,e.texts with
 |[a,u,c],[m,v,d],[t]=>
  let y:Cm:={x with ps:=x.ps++[⟨a,u,c,t,m,v,d⟩]}
  if fB y.ps y.hs≠0 then(y,fB y.ps y.hs)else(y,uE y)
 |_,_,_=>(x,1)
section
variable {w0 w:World} {b:Nat} {k:Ca} {xs:List Rm} {x:Cm} {ea:Ea} {e:Ev}
theorem wN(hg:bj w){B:Nat}(h:Wk w B b k xs x)(sr:∀y∈x.rs,Td y)(sp:∀y∈x.ps,SmP y)(sh:∀y∈x.hs,SmH y)(lp:x.ps.length<=7)(lh:x.hs.length<=7)(lr:x.rs.length<=17)(ls:x.gK.length<=40):
  Pure Tryz.prog 104 #[.pointer (some ⟨b,0,none⟩)] w fun v _=>v= .int .i64 (uE x):=by
 have hi:=h.o.ze sr;have hn:=hi.ns;refine F.lU.vc ⟨_,_,_,_,_,_,_,_,_,bD h.box 0 3,_,_,_,bD h.box 3 1,fun d a=>pm (yd (hg.next (k0 a)) ((hi.pr sp sh lp lh lr).ar (k0 a)) (hi.s.below (k0 a)) hi.ns hi.cs om) ?_⟩;rintro v g _ rfl;unfold uE;rw[<-hi.e];exact⟨_,rfl,fun q=>by rw[bm q],fun q=>by rw[aq q]⟩
end

theorem jB{t ty e sz bytes:Nat}(el:El Tryz.prog t e sz bytes){B:Nat}{tys:List Nat}{w:World}{A:Option Addr}{n c:Nat}{rows:List (List Value)}(ho:ay w B e A n c sz rows){val:Value}(hx:val.cells.size=sz)(h1:∀u∈val.cells.toList,bk u=true)
  (hB:B<=w.heap.size) (lz:(n+1)*(bytes+1)<=140737488355328) (z:e∉tys) {K:Option Addr->Nat->Nat->World->Prop}
  (h:∀A' c' d,ay d B e A' (n+1) c' sz (rows++[val.cells.toList])->bA e w d->Below B w d->K A' (n+1) c' d):
  ae P (Instr.buildSlice t 1 #[(0,val)]) w.heap.size tys w (Rs fun g n18 i o=>ae P (Builtin.append_ #[t,t] ty #[.slice A n c,.slice g n18 i]) B tys o (Rs K)):=by
 refine aW el [val] (by simpa using hx) sm lf fun g i o a j=> ?_
 have y:=ho.below j;refine vt el lf y a.sl sm (fun r l=>by have:=a.2.2 r l;exact this) (fun r l u hu=>by rw[List.map_singleton,eb]at l;rw[l]at hu;exact h1 u hu) a.th (ec hB j.size) (by simpa using lz) z fun A' c' d C g2 D=> ?_
 refine h A' c' d C (fun q t cs fr m E=>bA.grown y g2 q t cs fr m (ai E j)) ((j.mono hB).trans D)
theorem DQ{α:Type}{l:List α}(h:l.length=1):∃a,l=[a]:=by
 match l,h with
 |[a],_=>exact⟨a,rfl⟩
theorem LQ{α:Type}{l:List α}(h:l.length=2):∃a b,l=[a,b]:=by
 match l,h with
 |[a,b],_=>exact⟨a,b,rfl⟩
theorem W5{α:Type}{l:List α}(h:l.length=3):∃a b c,l=[a,b,c]:=by
 match l,h with
 |[a,b,c],_=>exact⟨a,b,c,rfl⟩
theorem abL{α:Type}{l:List α}(h:l.length=5):∃a b c d e,l=[a,b,c,d,e]:=by
 match l,h with
 |[a,b,c,d,e],_=>exact⟨a,b,c,d,e,rfl⟩
section
variable {w0 w:World} {b:Nat} {k:Ca} {xs:List Rm} {x:Cm} {ea:Ea} {e:Ev}
theorem JR(hg:bj w0)(hb:Below w0.heap.size w0 w)(h:Wk w w0.heap.size b k xs x)(ok:eA x)(he:mZ w0 ea e)(hn:e.nums.length=3)(O:e.bS.length=3)(P:e.texts.length=1):
  ba Tryz.prog 68 #[.pointer (some ⟨b,0,none⟩),ea.val e] w0.heap.size w (M0 (pd x e) w0.heap.size b):=by
 obtain⟨id,tick,kind,nums,bS,texts⟩:=e;obtain⟨a,u,c,rfl⟩:=W5 hn;obtain⟨m,v,g,rfl⟩:=W5 O;obtain⟨t,rfl⟩:=DQ P;have sr:=he.sr;have st:=he.st;simp only[cb,eH,oP,vd,KI]at sr st;unfold pd;dsimp only;refine F.pG.sV hb.size fun w1 x1=> ?_
 have J:=kE hb x1;have h1:=h.below (extAll x1);have j:=he.ar J;have B:=fun(i:Nat) (hi:i<3)=>j.n.at_ (row:=fO) (fun _=>rfl) j.ln (i:=i) hi
 have C:=fun(i:Nat) (hi:i<3)=>j.r.at_ (row:=eD) (fun _=>rfl) j.lr (i:=i) hi
 have Q:=j.t.at_ (row:=eD) (fun _=>rfl) j.lt (i:=0) sm;obtain⟨p1,R,q1,c1,_⟩:=B 0 om;obtain⟨p2,a2,S,c2,_⟩:=B 1 om;obtain⟨p3,a3,T,c3,_⟩:=B 2 om;obtain⟨U,a4,V,c4,_⟩:=Q;obtain⟨W,a5,X,c5,_⟩:=C 0 om;obtain⟨Y,Z,q6,c6,_⟩:=C 1 om;obtain⟨p7,a7,q7,c7,_⟩:=C 2 om;refine⟨_,_,_,bD h1.box 0 1,p1,R,q1,_,c1,p2,a2,S,_,c2,p3,a3,T,_,c3,U,a4,V,_,c4,W,a5,X,_,c5,Y,Z,q6,_,c6,p7,a7,q7,_,c7,fun BG K=> ?_⟩;have d:=h1.below (extAll K);have L:=kE J K;have hps:=d.o.p.rows;have lp:=ok.lp;refine jB Hf d.o.p (val:= .agg #[.int .i64 a,.int .i64 u,.int .i64 c,.string t,.string m,.string v,.string g]) rfl (by simp[Value.cells,bk]) L.size om dc fun A' c' zT D l Am=> ?_
 have M:=l _ _ _ _ dc d.box;have wX:=L.trans Am;simp only[ct];refine⟨_,_,d.hB,trivial,M,by show 0+1<=14;omega,rfl,fun Fu E=> ?_⟩;have N:=wX.trans (aG.eC E d.hB);obtain⟨_,g2,g3,g4,g5,g6,g7,g8,g9,g10,g11,g12⟩:=d.o.MZ l;have G:fa zT w0.heap.size {k with p:=⟨A',k.p.n+1,c'⟩} xs {x with ps:=x.ps++[⟨a,u,c,t,m,v,g⟩]}:=
  ⟨by rw[eh];exact D,g2 dc,g3 dc,g4 dc,d.o.e,g5 dc,g6 dc,d.o.nw,d.o.cw,g7 dc,g8 dc,g9 dc,g10 dc,g11 dc,g12 dc⟩
 have A:Wk Fu w0.heap.size b {k with p:=⟨A',k.p.n+1,c'⟩} xs {x with ps:=x.ps++[⟨a,u,c,t,m,v,g⟩]}:=⟨E.at_,d.hB,G.bH (bA.wrote E M)⟩;have sp:∀y∈x.ps++[(⟨a,u,c,t,m,v,g⟩:Pa)],SmP y:=fun y hy=>by
  rcases fJ.1 hy with hy|hy
  ·exact ok.sp y hy
  ·rw[eb.1 hy];exact⟨by show m.size<=1000;omega,by show v.size<=1000;omega,by show g.size<=1000;omega,by show t.size<_;omega⟩
 have lh:=ok.lh;have q:(x.ps++[(⟨a,u,c,t,m,v,g⟩:Pa)]).length<=7:=by rw[dp];simp;omega
 have i26:=A.o.ze ok.sr;refine⟨_,_,_,_,_,_,bD A.box 0 2,pm (aM (hg.next N) (i26.cg sp ok.sh q (by show x.hs.length<=7;omega))) ?_⟩;rintro v' NQ H rfl;refine⟨_,rfl,fun z=> ?_,fun I=> ?_⟩
 ·rw[bm z];exact⟨rfl,fun I=>absurd I z⟩
 rw[aq I];have lr:=ok.lr;have ls:=ok.ls;refine pm (wN (hg.next (kP N H)) (A.below H) ok.sr sp ok.sh q (by show x.hs.length<=7;omega) (by show x.rs.length<=17;omega) (by show x.gK.length<=40;omega)) ?_;rintro v' KQ NR rfl;exact⟨_,rfl,rfl,fun _=>⟨_,_,(A.below H).below NR⟩⟩
end
theorem W7{w:World}{A:Option Addr}{n c:Nat}{l:List Rm}(hl:bW w A 7 (l.map Rm.row))(hlen:l.length=n)(hn:n<2147483648){f:Nat}{a k:Array Value}(bU:av Tryz.prog f=true){p:Rm->Bool}
  (hf:∀w',Below w.heap.size w w'->∀x∈l,Pure Tryz.prog f (a.toList++([Rm.val x]:List Value)++k.toList).toArray w' fun v _=>v= .bool (p x)):
  Pure Tryz.prog 131 #[.slice A n c,.func (.func f) a k] w fun v _=>v= .int .i64 (fq p 0 l):=
 F.az.vc (mU (val:=Rm.val) hlen hn hf (R:=fun v _=>v= .int .i64 (fq p 0 l)) (fun _=>rfl) (L:=fun i w'=>F.az.L2 A n c f a k n i w.heap.size w' fun v _=>v= .int .i64 (fq p 0 l))
  (fun i w' h1 d=>F.az.L2.step ⟨fun q=>absurd q h1,fun _=>d⟩)
  (fun i w' hi hw h=>F.az.L2.step ⟨fun _=>by obtain⟨hb,e,g,b,_⟩:=(hl.ar hw lf).at_ (fun _=>rfl) hlen hi;exact⟨hb,e,g,_,_,_,_,_,_,_,_,_,b,bU,h⟩,fun q=>by omega⟩)
  n 0 w rfl om (Below.refl _ _) rfl)
theorem M1{w:World}{A:Option Addr}{n c:Nat}{l:List Rm}(hl:bW w A 7 (l.map Rm.row))(hlen:l.length=n)(hn:n<2147483648){f:Nat}{a k:Array Value}(bU:av Tryz.prog f=true){p:Rm->Bool}
  (hf:∀w',Below w.heap.size w w'->∀x∈l,Pure Tryz.prog f (a.toList++([Rm.val x]:List Value)++k.toList).toArray w' fun v _=>v= .bool (p x)):
  Pure Tryz.prog 105 #[.slice A n c,.func (.func f) a k] w fun v _=>v= .bool (l.any p):=by
 refine F.cY.vc (pm (W7 hl hlen hn bU hf) ?_);rintro v b _ rfl;exact⟨_,rfl,Ad p l⟩
theorem Oc{w:World}{A:Option Addr}{n c:Nat}{l:List ByteArray}(h:bW w A 1 (l.map eD))(hlen:l.length=n)(hn:n<=1000000):
  Pure Tryz.prog 52 #[.slice A n c] w fun v w'=>∃A' c',v= .slice A' n c'/\ay w' w.heap.size 75 A' n c' 1 (l.map eD):=
 F.eI.vc (fW (R:=fun v w'=>∃A' c',v= .slice A' n c'/\ay w' w.heap.size 75 A' n c' 1 (l.map eD)) lD h (by simpa using hlen) (fH (row:=eD) (fun _=>rfl) (fun x u h=>by rw[eb.1 h];rfl)).1 (fH (row:=eD) (sz:=1) (fun _=>rfl) (fun x u h=>by rw[eb.1 h];rfl)).2 om fun A' c' w' o=>⟨A',c',rfl,o⟩)

theorem eK{w:World}{B b:Nat}{cs vs:List Value}{ty:Nat}(d:w.heap[b]? =some (.cells cs.toArray ty (0,0)))(hB:B<=b)(j n:Nat)(hj:j+n<=cs.length){boxes:List tt}(g:hasType ty boxes=false){K:World->Prop}
  (h:∀w',aG w w' b ty (setCells cs j vs)->K w') {a:Addr} (ha:a=⟨b,j,none⟩:=by simp only[ct]):
  ∃(c:List Value)(t:Nat),B<=a.block/\a.spot=none/\w.heap[a.block]? =some (.cells c.toArray t (0,0))/\a.off+n<=c.length/\hasType t boxes=false/\∀w',aG w w' a.block t (setCells c a.off vs)->K w':=by
 subst ha;exact⟨cs,ty,hB,rfl,d,hj,g,h⟩
def HL(x:Cm):Cm×Int:=({x with eE:=[],cO:=0},0)
def Bk(x:Cm)(e:Ev):Cm×Int:=match e.nums with
 |[a]=>({x with pL:=(EM x.gw x.pL a e.tick).1},(EM x.gw x.pL a e.tick).2)
 |_=>(x,1)
def pg(x:Cm)(e:Ev):Cm×Int:=match e.nums,e.bS with
 |[a],[r]=>match nE x.jJ x.ye a e.tick r with
  | .error c=>(x,c)
  | .ok v=>({x with ye:=v,pL:=(Bh x.gw x.pL v e.tick).1},(Bh x.gw x.pL v e.tick).2)
 |_,_=>(x,1)
def vY(x:Cm)(e:Ev):Cm×Int:=match e.nums,e.bS,e.texts with
 |[a],[r,m,cx,c,d],[t]=>
  if(x.rs.any fun r=>decide (r.kind=1))=true then(x,10)else
  let y:Cm:={x with hs:=x.hs++[⟨a,t,r,m,cx,c,d⟩]}
  if fB y.ps y.hs≠0 then(y,fB y.ps y.hs)else(y,uE y)
 |_,_,_=>(x,1)
noncomputable def lk(H:mw)(x:Cm)(e:Ev):Cm×Int:=match e.nums,e.texts with
 |[a,r],[n,k]=>({x with fQ:=x.fQ++[⟨a,r,n,k⟩]},(eJ H (x.fQ++[⟨a,r,n,k⟩]) []).2)
 |_,_=>(x,1)
def vZ(x:Cm)(e:Ev):Cm×Int:=match e.nums,e.texts with
 |[kd,a,b],[n,lo,hi]=>
  let y:Cm:={x with rs:=x.rs++[⟨n,kd,e.bS,lo,hi,a,b⟩]}
  if(nQ y.ps y.hs y.rs).2≠0 then(y,(nQ y.ps y.hs y.rs).2)else(y,uE y)
 |_,_=>(x,1)
theorem Bm(l:List Ch)(v:List Va)(a t:Int)(r:ByteArray):(∃d,nE l v a t r= .error d/\d≠0)∨∃i c u,l[i]? =some c/\v[i]? =some u/\vR c.pR=true/\vR c.offset=true/\vR r=true/\nE l v a t r= .ok (v.set i ⟨a,t,xu c u (gN c r) t,rS (gN c r)⟩):=by
 unfold nE;by_cases g:(iK l).2=0/\sY l v=true/\vR r=true
 ·rw[bm g];rcases Ac (fun c=>decide (c.id=a)) l 0 with⟨hi,_⟩|⟨i,c,hi,hx,_,_⟩
  ·rw[hi];exact .inl ⟨7,rfl,dc⟩
  ·rw[hi,mC];obtain⟨hl,_⟩:=Jy g.2.1;have n:i<l.length:=(ek.1 hx).1;have hu:v[i]? =some v[i]:=af om;show(∃d,(if 0<=t/\t<=1073741824 then _ else _)=Except.error d/\d≠0)∨_;by_cases h:0<=t/\t<=1073741824
   ·rw[bm h];simp only[hx,hu];by_cases m:t<v[i].tick
    ·rw[bm m];exact .inl ⟨5,rfl,dc⟩
    ·obtain⟨_,j⟩:=rk g.1;obtain⟨⟨v1,v2,_⟩,_,_⟩:=rm (j i c hx);refine .inr ⟨i,c,v[i],hx,hu,v1,v2,g.2.2,?_⟩;show(if 0<=t/\t<=1073741824 then _ else _)=_;rw[bm h,aq m]
   ·rw[aq h];exact .inl ⟨2,rfl,dc⟩
 ·rw[aq g];exact .inl ⟨1,rfl,dc⟩
theorem As{l:List Ch}{v:List Va}{a t:Int}{r:ByteArray}{c:Int}(h:nE l v a t r= .error c):c≠0:=by
 rcases Bm l v a t r with⟨e,h1,d⟩|⟨_,_,_,_,_,_,_,_,h1⟩
 ·rw[h1]at h;cases h;exact d
 ·rw[h1]at h;cases h
theorem Bn{l:List Ch}{v:List Va}{a t:Int}{r:ByteArray}{u:List Va}(h:nE l v a t r= .ok u)(d:∀x∈l,x.pR.size<=40/\x.offset.size<=40)(g:∀y∈v,mO y.num)(j:r.size<=40):(∀y∈u,mO y.num)/\u.length=v.length:=by
 rcases Bm l v a t r with⟨e,h1,_⟩|⟨i,c,x,hx,_,v1,v2,v3,h1⟩
 ·rw[h1]at h;cases h
 ·rw[h1]at h;cases h;refine⟨fun y hy=> ?_,BD⟩;rcases LY hy with hy|rfl
  ·exact g y hy
  ·obtain⟨c1,c2⟩:=d c (gr hx);have s:Sm 121 (gN c r):=Sm.mono (((mg v1 c1).mul (mg v3 j)).add (mg v2 c2)) om;have:=s.length om;show(qS (gN c r)).length<=1000;omega
section
variable {w0 w:World} {b:Nat} {k:Ca} {xs:List Rm} {x:Cm} {ea:Ea} {e:Ev}
theorem PO(hb:Below w0.heap.size w0 w)(h:Wk w w0.heap.size b k xs x):
  ba Tryz.prog 79 #[.pointer (some ⟨b,0,none⟩),ea.val e] w0.heap.size w (M0 (HL x) w0.heap.size b):=by
 refine F.so.sV hb.size fun w1 x1=> ?_
 have h1:=h.below (extAll x1);refine eK h1.box h.hB 4 1 (by show 5<=14;omega) rfl fun n i=> ?_
 have m:=h1.o.bH (bA.wrote i h1.box);refine eK i.at_ h.hB 5 1 (by show 6<=14;omega) rfl fun y j=>⟨rfl,fun _=>⟨{k with w:= .nil},xs,j.at_,h.hB,?_⟩⟩
 have d:=m.bH (bA.wrote j i.at_);exact⟨d.p,d.h,d.r,d.f,d.e,d.s,.inl rfl,rfl,⟨ga _,fun _=>rfl⟩,d.c,d.v,d.a,d.l,d.g,d.q⟩
theorem TP(hg:bj w0)(hb:Below w0.heap.size w0 w)(h:Wk w w0.heap.size b k xs x)(ok:eA x)(he:mZ w0 ea e)(hn:e.nums.length=1):
  ba Tryz.prog 78 #[.pointer (some ⟨b,0,none⟩),ea.val e] w0.heap.size w (M0 (Bk x e) w0.heap.size b):=by
 obtain⟨id,tick,kind,nums,bS,texts⟩:=e;obtain⟨a,rfl⟩:=DQ hn;unfold Bk;dsimp only;refine F.uj.sV hb.size fun w1 x1=> ?_
 have y:=kE hb x1;have h1:=h.below (extAll x1);have z:=he.ar y;obtain⟨p1,G,q1,c1,_⟩:=z.n.at_ (row:=fO) (fun _=>rfl) z.ln (i:=0) sm;refine⟨_,_,_,bD h1.box 8 1,_,_,_,bD h1.box 9 1,p1,G,q1,_,c1,fun L A=> ?_⟩;have d:=h1.below (extAll A);have C:=kE y A;have la:=ok.la;refine pm (tf (hg.next C) d.o.a.sl d.o.a.rows (by have:=d.o.a.rows;omega) ok.sa d.o.l.sl d.o.l.rows a tick) ?_;rintro v M H ⟨I,J,K,rfl,m⟩;have j:=d.below H;have m:=m.base (B:=w0.heap.size) C.size;refine⟨_,_,_,_,rfl,fun D=>eK j.box j.hB 9 1 (by show 10<=14;omega) rfl fun N E=>⟨rfl,fun _=>⟨{k with l:=⟨I,J,K⟩},xs,E.at_,j.hB,?_⟩⟩,fun D=>⟨rfl,fun k=>absurd k D⟩⟩;have st:=bA.wrote E j.box;have o:=j.o.bH st;exact⟨o.p,o.h,o.r,o.f,o.e,o.s,o.pl,o.nw,o.cw,o.c,o.v,o.a,m.bH st dc,o.g,o.q⟩
theorem JU(hg:bj w0)(hb:Below w0.heap.size w0 w)(h:Wk w w0.heap.size b k xs x)(ok:eA x)(he:mZ w0 ea e)(hn:e.nums.length=1)(W:e.bS.length=1):
  ba Tryz.prog 77 #[.pointer (some ⟨b,0,none⟩),ea.val e] w0.heap.size w (M0 (pg x e) w0.heap.size b):=by
 obtain⟨id,tick,kind,nums,bS,texts⟩:=e;obtain⟨a,rfl⟩:=DQ hn;obtain⟨r,rfl⟩:=DQ W;have sr:=he.sr;simp only[eb,KI]at sr;unfold pg;dsimp only;refine F.pI.sV hb.size fun w1 x1=> ?_
 have R:=kE hb x1;have h1:=h.below (extAll x1);have z:=he.ar R;obtain⟨p1,X,q1,c1,_⟩:=z.n.at_ (row:=fO) (fun _=>rfl) z.ln (i:=0) sm;obtain⟨p2,a2,Y,c2,_⟩:=z.r.at_ (row:=eD) (fun _=>rfl) z.lr (i:=0) sm;refine⟨_,_,_,bD h1.box 6 1,_,_,_,bD h1.box 7 1,p1,X,q1,_,c1,p2,a2,Y,_,c2,fun w8 S=> ?_⟩;have d:=h1.below (extAll S);have E:=kE R S;have lc:=ok.lc;have lv:=ok.lv;have la:=ok.la;have ll:=ok.ll;have nc:=d.o.c.rows;have nv:=d.o.v.rows;have na:=d.o.a.rows;have nl:=d.o.l.rows;refine pm (oY (hg.next E) d.o.c.sl nc d.o.v.sl nv om ok.sc ok.sv (by show r.size<=1000;omega)) ?_;intro v Ez T (A:Zc (nE x.jJ x.ye a tick r) _ _ _ _);have G:=d.below T;have Z:=kP E T;cases C:nE x.jJ x.ye a tick r with
 |error er=>
  rw[C]at A;cases A;have y:er≠0:=As C;exact⟨_,_,_,_,rfl,fun _=>⟨rfl,fun k=>absurd k y⟩,fun k=>absurd y k⟩
 |ok vs=>
  rw[C]at A;obtain⟨A9,c9,rfl,D⟩:=A;have D:=D.base (B:=w0.heap.size) E.size;have n9:=D.rows;have H:=(Bn C ok.sg ok.sv sr).1;refine⟨_,_,_,_,rfl,fun k=>absurd rfl k,fun _=>⟨_,_,_,bD G.box 8 1,_,_,_,bD G.box 9 1,fun Du I=> ?_⟩⟩;have J:=G.below (extAll I);have K:=kE Z I;have U:=D.below (extAll I);refine pm (dm (hg.next K) J.o.a.sl na om ok.sa J.o.l.sl nl U.sl n9 om H om) ?_;rintro v Cb L ⟨Zk,n16,Zl,rfl,M⟩;have m:=J.below L;have pC:=kP K L;have M:=M.base (B:=w0.heap.size) K.size;have N:=U.below L;refine⟨_,_,_,_,rfl,fun O=>⟨rfl,fun k=>absurd k O⟩,fun O=> ?_⟩;refine eK m.box m.hB 7 1 (by show 8<=14;omega) rfl fun uA P=> ?_
  have j:=bA.wrote P m.box;refine eK P.at_ m.hB 9 1 (by show 10<=14;omega) rfl fun Wg V=>⟨(ca (Value.int .i64) (dT.1 O)).symm,fun _=>⟨{k with v:=⟨A9,k.v.n,c9⟩,l:=⟨Zk,n16,Zl⟩},xs,V.at_,m.hB,?_⟩⟩
  have Q:=bA.wrote V P.at_;have o:=(m.o.bH j).bH Q;exact⟨o.p,o.h,o.r,o.f,o.e,o.s,o.pl,o.nw,o.cw,o.c,(N.bH j dc).bH Q dc,o.a,(M.bH j dc).bH Q dc,o.g,o.q⟩
theorem JV{H:mw}(fk:fj H)(hg:bj w0)(hb:Below w0.heap.size w0 w)(h:Wk w w0.heap.size b k xs x)(ok:eA x)(he:mZ w0 ea e)(hn:e.nums.length=2)(M:e.texts.length=2):
  ba Tryz.prog 73 #[.pointer (some ⟨b,0,none⟩),ea.val e] w0.heap.size w (M0 (lk H x e) w0.heap.size b):=by
 obtain⟨id,tick,kind,nums,bS,texts⟩:=e;obtain⟨a,r,rfl⟩:=LQ hn;obtain⟨n,q,rfl⟩:=LQ M;unfold lk;dsimp only;refine F.pH.sV hb.size fun w1 x1=> ?_
 have E:=kE hb x1;have h1:=h.below (extAll x1);have j:=he.ar E;have G:=fun(i:Nat) (hi:i<2)=>j.n.at_ (row:=fO) (fun _=>rfl) j.ln (i:=i) hi
 have I:=fun(i:Nat) (hi:i<2)=>j.t.at_ (row:=eD) (fun _=>rfl) j.lt (i:=i) hi
 obtain⟨p1,N,q1,c1,_⟩:=G 0 om;obtain⟨p2,a2,O,c2,_⟩:=G 1 om;obtain⟨p3,a3,P,c3,_⟩:=I 0 om;obtain⟨Q,a4,R,c4,_⟩:=I 1 om;refine⟨_,_,_,bD h1.box 10 1,p1,N,q1,_,c1,p2,a2,O,_,c2,p3,a3,P,_,c3,Q,a4,R,_,c4,fun W J=> ?_⟩;have c:=h1.below (extAll J);have K:=kE E J;have lg:=ok.lg;have ng:=c.o.g.rows;refine jB Mr c.o.g (val:= .agg #[.int .i64 a,.int .i64 r,.string n,.string q]) rfl (by simp[Value.cells,bk]) K.size om dc fun A' c' S y d T=> ?_
 have L:=d _ _ _ _ dc c.box;refine eK L c.hB 10 1 (by show 11<=14;omega) rfl fun U z=> ?_
 have A:=(K.trans T).trans (aG.eC z c.hB);have B:=bA.wrote z L;obtain⟨g1,g2,g3,g4,g5,g6,g7,g8,g9,g10,_,g12⟩:=c.o.MZ d;have C:fa S w0.heap.size {k with g:=⟨A',k.g.n+1,c'⟩} xs {x with fQ:=x.fQ++[⟨a,r,n,q⟩]}:=
  ⟨g1 dc,g2 dc,g3 dc,g4 dc,c.o.e,g5 dc,g6 dc,c.o.nw,c.o.cw,g7 dc,g8 dc,g9 dc,g10 dc,by rw[eh];exact y,g12 dc⟩
 have m:Wk U w0.heap.size b {k with g:=⟨A',k.g.n+1,c'⟩} xs {x with fQ:=x.fQ++[⟨a,r,n,q⟩]}:=⟨z.at_,c.hB,C.bH B⟩;have D:=m.o.g.rows;refine⟨_,_,_,bD m.box 10 1,pm (cG fk (hg.next A) m.o.g.sl D (by show k.g.n+1<_;omega) (A1:=none) (n1:=0) (c1:=0) (l:=[]) (.inl rfl) rfl om om) ?_⟩;rintro v X V rfl;exact⟨_,_,rfl,rfl,fun _=>⟨_,_,m.below V⟩⟩
theorem W9(y:Rm)(w:World):Pure Tryz.prog 106 #[y.val] w fun v _=>v= .bool (decide (y.r.kind=1)):=
 F.oE.vc fun w1 _=>rfl
theorem PQ(hg:bj w0)(hb:Below w0.heap.size w0 w)(h:Wk w w0.heap.size b k xs x)(ok:eA x)(he:mZ w0 ea e)(hn:e.nums.length=1)(T:e.bS.length=5)(U:e.texts.length=1):
  ba Tryz.prog 69 #[.pointer (some ⟨b,0,none⟩),ea.val e] w0.heap.size w (M0 (vY x e) w0.heap.size b):=by
 obtain⟨id,tick,kind,nums,bS,texts⟩:=e;obtain⟨a,rfl⟩:=DQ hn;obtain⟨r,m,cx,g,j,rfl⟩:=abL T;obtain⟨t,rfl⟩:=DQ U;have sr:=he.sr;have st:=he.st;simp only[cb,eH,oP,vd,KI]at sr st;unfold vY;dsimp only;have lr:=ok.lr;have ls:=ok.ls;have lp:=ok.lp;have lh:=ok.lh;have K:=h.o.e;have V:x.rs.any (fun r=>decide (r.kind=1))=xs.any fun y=>decide (y.r.kind=1):=by rw[<-K,List.any_map];rfl
 have nr:xs.length=x.rs.length:=by rw[<-K,en]
 refine F.sf.sV hb.size fun w1 x1=> ?_
 have W:=kE hb x1;have h1:=h.below (extAll x1);refine⟨_,_,_,bD h1.box 2 1,pm (M1 h1.o.r.sl h1.o.r.rows (by have:=h1.o.r.rows;omega) (a:= #[]) (k:= #[]) (p:=fun y=>decide (y.r.kind=1)) kF fun w' _ y _=>W9 y w') ?_⟩;rintro v w5 L rfl;have M:=h1.below L;have N:=kP W L;have l:=he.ar N;rw[<-V];refine⟨_,rfl,fun q=>by rw[bm q];exact⟨rfl,fun k=>absurd (show(10:Int)=0 from k) dc⟩,fun q=> ?_⟩;rw[aq (by rw[q];decide)];have z:=fun(i:Nat) (hi:i<5)=>l.r.at_ (row:=eD) (fun _=>rfl) l.lr (i:=i) hi
 obtain⟨p1,X,q1,c1,_⟩:=l.n.at_ (row:=fO) (fun _=>rfl) l.ln (i:=0) sm;obtain⟨p2,a2,Y,c2,_⟩:=l.t.at_ (row:=eD) (fun _=>rfl) l.lt (i:=0) sm;obtain⟨p3,a3,Z,c3,_⟩:=z 0 om;obtain⟨p4,a4,q4,c4,_⟩:=z 1 om;obtain⟨p5,a5,q5,c5,_⟩:=z 2 om;obtain⟨p6,a6,q6,c6,_⟩:=z 3 om;obtain⟨p7,a7,q7,c7,_⟩:=z 4 om;refine⟨_,_,_,bD M.box 1 1,p1,X,q1,_,c1,p2,a2,Y,_,c2,p3,a3,Z,_,c3,p4,a4,q4,_,c4,p5,a5,q5,_,c5,p6,a6,q6,_,c6,p7,a7,q7,_,c7,fun EI O=> ?_⟩;have c:=M.below (extAll O);have P:=kE N O;have nh:=c.o.h.rows;refine jB Hg c.o.h (val:= .agg #[.int .i64 a,.string t,.string r,.string m,.string cx,.string g,.string j]) rfl (by simp[Value.cells,bk]) P.size om dc fun A' c' BN C Q FK=> ?_
 have R:=Q _ _ _ _ dc c.box;refine eK R c.hB 1 1 (by show 2<=14;omega) rfl fun Im D=> ?_
 have S:=(P.trans FK).trans (aG.eC D c.hB);have E:=bA.wrote D R;obtain⟨g1,_,g3,g4,g5,g6,g7,g8,g9,g10,g11,g12⟩:=c.o.MZ Q;have G:fa BN w0.heap.size {k with h:=⟨A',k.h.n+1,c'⟩} xs {x with hs:=x.hs++[⟨a,t,r,m,cx,g,j⟩]}:=
  ⟨g1 dc,by rw[eh];exact C,g3 dc,g4 dc,c.o.e,g5 dc,g6 dc,c.o.nw,c.o.cw,g7 dc,g8 dc,g9 dc,g10 dc,g11 dc,g12 dc⟩
 have d:Wk Im w0.heap.size b {k with h:=⟨A',k.h.n+1,c'⟩} xs {x with hs:=x.hs++[⟨a,t,r,m,cx,g,j⟩]}:=⟨D.at_,c.hB,G.bH E⟩;have sh:∀y∈x.hs++[(⟨a,t,r,m,cx,g,j⟩:Ho)],SmH y:=fun y hy=>by
  rcases fJ.1 hy with hy|hy
  ·exact ok.sh y hy
  ·rw[eb.1 hy];exact⟨by show r.size<=1000;omega,by show m.size<=1000;omega,by show cx.size<=1000;omega,by show g.size<=1000;omega,by show j.size<=1000;omega,by show t.size<_;omega⟩
 have A:(x.hs++[(⟨a,t,r,m,cx,g,j⟩:Ho)]).length<=7:=by rw[dp];simp;omega
 have i30:=d.o.ze ok.sr;refine⟨_,_,_,_,_,_,bD d.box 0 2,pm (aM (hg.next S) (i30.cg ok.sp sh (by show x.ps.length<=7;omega) A)) ?_⟩;rintro v w35 H rfl;refine⟨_,rfl,fun B=> ?_,fun I=> ?_⟩
 ·rw[bm B];exact⟨rfl,fun I=>absurd I B⟩
 rw[aq I];refine pm (wN (hg.next (kP S H)) (d.below H) ok.sr ok.sp sh (by show x.ps.length<=7;omega) A (by show x.rs.length<=17;omega) (by show x.gK.length<=40;omega)) ?_;rintro v LI J rfl;exact⟨_,rfl,rfl,fun _=>⟨_,_,(d.below H).below J⟩⟩
end

def stepT(y:Sw):ByteArray:=(((((⟨#[59]⟩:ByteArray)++iS y.hold)++DF)++iS y.au)++DF)++iS y.aU
def afM(id:Int)(l:List Sw):List UInt8:=((⟨#[112,108,97,110,32]⟩:ByteArray)++iS id).data.toList++l.flatMap fun y=>(stepT y).data.toList
noncomputable def ni(H:mw)(x:Cm):ByteArray:=H.sum ⟨(afM x.cO x.eE).toArray⟩
noncomputable def JX(H:mw)(x:Cm)(t:Int):Bool:=MK H x.fQ x.apps (ni H x) [2,3] 1000 0 t
theorem yf{T e B b:Nat}{g:List Value}{w w':World}{tys:List Nat}(h:Lib.IsBuilderF T e B b g w)(ho:Lib.OthersKept e (some b) w w')(h1:T∉tys)(i:e∉tys):qk tys w w':=by
 intro k ty cs d a;refine(ho k _ a (fun q=> ?_) fun c j q=>by cases q;exact i d).trans a.symm;cases q;rcases h with⟨_,v,hb,_⟩|⟨_,v,hb,_⟩
 all_goals
  rw[a]at hb;cases hb;exact h1 d
theorem PS{y:Sw}(h:SmW y):(stepT y).size<=63/\(iS y.hold).size<=20/\(iS y.au).size<=20/\(iS y.aU).size<=20:=by
 have l1:=Aj h.1.1 h.1.2;have a:=Aj h.2.1.1 h.2.1.2;have b:=Aj h.2.2.1 h.2.2.2;refine⟨?_,l1,a,b⟩;unfold stepT;simp only[eU];have c:(⟨#[59]⟩:ByteArray).size=1:=rfl;have d:DF.size=1:=rfl;omega
section
variable {H:mw} {w:World} {k:Ca} {xs:List Rm} {x:Cm}
theorem PT(ok:fj H){w0:World}(hg:bj w0){b:Nat}(I:bW w0 k.w.A 3 (x.eE.map Sw.row))(hn:x.eE.length=k.w.n)(sw:∀y∈x.eE,SmW y)(lw:x.eE.length<=6):
  ∀(m i:Nat)(w:World)(pre:List UInt8),i+m=x.eE.length->Below w0.heap.size w0 w->Lib.IsBuilderF 88 5 w0.heap.size b (Lib.byteCells pre) w->pre.length+m*63<=1000->
   F.bQ.L4 ⟨b,0,none⟩ k.w.A k.w.n k.w.c k.w.n i w0.heap.size w fun v _=>v= .string (H.sum ⟨(pre++(x.eE.drop i).flatMap fun y=>(stepT y).data.toList).toArray⟩):=by
 intro m;induction m with
 |zero=>
  intro i w pre hi hw g hp;refine F.bQ.L4.step ⟨fun q=>by omega,fun _=> ?_⟩;rw[dd om,Qy,vB];refine Calls.mono (Tryz.Builder_String_any_k w0.heap.size b pre w g hw.size) ?_;rintro e w' ⟨rfl,J,K,L⟩;refine⟨_,rfl,K,yf g L dc dc,_,rfl,pm (iL ok (by show pre.toArray.size<=_;rw[Eu];omega)) ?_⟩;rintro v Q _ rfl;exact⟨_,rfl,rfl⟩
 |succ m ih=>
  intro i w pre hi hw g hp;have h:i<x.eE.length:=om;have hy:=sw _ (bx h);obtain⟨s0,s1,s2,R⟩:=PS hy;obtain⟨q1,a,M,c1,_⟩:=(I.ar hw lf).at_ (row:=Sw.row) (fun _=>rfl) hn h;have S:(⟨#[59]⟩:ByteArray).size=1:=rfl;have T:DF.size=1:=rfl;refine F.bQ.L4.step ⟨fun _=>⟨q1,a,M,_,_,_,c1,fun U j=>pm (vn (hg.next (kE hw j)) _ hy.1.1 hy.1.2) ?_⟩,fun q=>by omega⟩;have N:=kE hw j;rintro v V r rfl;have z:=kP N r;refine⟨_,rfl,om,by rw[eU];show _+DF.size<=_;omega,pm (vn (hg.next z) _ hy.2.1.1 hy.2.1.2) ?_⟩;rintro v W B rfl;have C:=kP z B;refine⟨_,rfl,by simp only[eU];show _+_+DF.size+_<=_;omega,by simp only[eU];show _+_+DF.size+_+DF.size<=_;omega,pm (vn (hg.next C) _ hy.2.2.1 hy.2.2.2) ?_⟩;rintro v O D rfl;have E:=kP C D;have d:=gj (gj (gj (gj g (iW (extAll j)) (fun _ e=>by cases e)) (iW r) (fun _ e=>by cases e)) (iW B) (fun _ e=>by cases e)) (iW D) (fun _ e=>by cases e);refine⟨_,rfl,by simp only[eU];show _+_+DF.size+_+DF.size+_<=_;omega,Calls.mono (Tryz.zN w0.heap.size b _ (stepT x.eE[i]) O d (by rw[Lib.byteCells_length];omega) E.size) ?_⟩;rintro e P ⟨rfl,l,G,o⟩;refine⟨_,rfl,G,yf d o dc dc,_,_,rfl,ir,?_⟩;rw[show(i:Int)+1=((i+1:Nat):Int) by omega,cy h,xJ,<-fi];refine ih (i+1) P (pre++(stepT x.eE[i]).data.toList) om (E.trans G) ?_ ?_
  ·rw[Lib.byteCells_append];exact .inr l
  ·rw[dp];have:(stepT x.eE[i]).data.toList.length=(stepT x.eE[i]).size:=by rw[ri];rfl
   omega
theorem bQ(ok:fj H)(hg:bj w)(o:bW w k.w.A 3 (x.eE.map Sw.row))(hn:x.eE.length=k.w.n)(sw:∀y∈x.eE,SmW y)(lw:x.eE.length<=6)(hi: -9223372036854775808<=x.cO/\x.cO<=9223372036854775807):
  Pure Tryz.prog 15 #[k.val x] w fun v _=>v= .string (ni H x):=by
 have l1:=Aj hi.1 hi.2;have I:(⟨#[112,108,97,110,32]⟩:ByteArray).size=5:=rfl;refine F.bQ.vc fun w1 x1=>cK (z:= .agg #[.pointer none,.slice none 0 0]) _ kF (k0 x1).size fun q r B C=> ?_
 have c:=k0 x1;have i:=c.trans (B.mono c.size);refine pm (vn (hg.next i) _ hi.1 hi.2) ?_;rintro v D j rfl;have l:=kP i j;have d:Lib.IsBuilderF 88 5 w.heap.size w1.heap.size (Lib.byteCells []) q:= .inl ⟨c.size,.slice none 0 0,r,World.ownsRowF_nil _ _ _ _,by simp[Value.ownBlock]⟩;have a:=gj d (iW j) (fun _ e=>by cases e);refine⟨_,rfl,om,Calls.mono (Tryz.zN w.heap.size w1.heap.size _ ((⟨#[112,108,97,110,32]⟩:ByteArray)++iS x.cO) D a (by rw[Lib.byteCells_length,eU];simp;omega) l.size) ?_⟩;rintro e E ⟨rfl,g,m,h⟩;refine⟨_,rfl,m,yf a h dc dc,_,_,rfl,?_⟩;have G:=PT (k:=k) ok hg (b:=w1.heap.size) o hn sw lw x.eE.length 0 E (((⟨#[112,108,97,110,32]⟩:ByteArray)++iS x.cO).data.toList) om (l.trans m) (.inr g) (by
  have:((⟨#[112,108,97,110,32]⟩:ByteArray)++iS x.cO).data.toList.length=((⟨#[112,108,97,110,32]⟩:ByteArray)++iS x.cO).size:=by rw[ri];rfl
  rw[this,eU];omega)
 exact G
theorem fX(ok:fj H)(hg:bj w)(h:vX w k xs x)(a:eA x)(t:Int):
  Pure Tryz.prog 18 #[k.val x,.int .i64 t] w fun v _=>v= .bool (JX H x t):=by
 have lg:=a.lg;have lq:=a.lq;have lw:=a.lw;have ng:=h.ng;have nq:=h.nq;have sub:=fun {w':World} (hw:Below w.heap.size w w')=>bQ (x:=x) (k:=k) ok (hg.next hw) (h.pl.below hw) h.nw a.sw lw a.si
 have d:=fun {w':World} (hw:Below w.heap.size w w') {A0:Option Addr} {c0:Nat} (ho:bW w' A0 1 ([2,3].map fO))=>iM (subject:=ni H x) (window:=1000) (except:=0) (at_:=t) (n0:=2) (c0:=c0) (c:=k.g.c) ok (hg.next hw) (h.g.below hw) ng om (h.q.below hw) nq om h.cq ho rfl om
 refine F.fX.vc ⟨fun w1 x1=>pm (sub (k0 x1)) ?_,fun A j=> ?_⟩
 ·rintro v B l rfl;have m:=kP (k0 x1) l;refine⟨_,rfl,aW gM [.int .i64 2,.int .i64 3] (by simp[Value.cells]) sm lf fun A5 c5 C n o=> ?_⟩;refine pm (d (kP m o) n.sl) ?_;rintro v r _ rfl;exact⟨_,rfl,rfl⟩
 ·have y:=k0 j;refine aW gM [.int .i64 2,.int .i64 3] (by simp[Value.cells]) sm lf fun A5 c5 D b z=> ?_
  have e:=kP y z;refine pm (sub e) ?_;rintro v E i rfl;refine⟨_,rfl,pm (d (kP e i) (b.below i).sl) ?_⟩;rintro v r _ rfl;exact⟨_,rfl,rfl⟩
end
end Go.Proofs.YtmdphpnaipbfjaaGreatDoor.B

open Go.Proofs.YtmdphpnaipbfjaaGreatDoor

namespace Go.Proofs.YtmdphpnaipbfjaaGreatDoor.B
open Go Go.RowKit Go.Proofs Go.Proofs.YtmdphpnaipbfjaaGreatDoor.Vc

theorem TR:El Tryz.prog 49 123 3 24:=El.of kF
section
variable {w0:World} {B:Nat} {A:Option Addr} {n c:Nat} {l:List Sw} {f:Nat} {a k:Array Value}
end
section
variable {w:World} {A0 A1 A A':Option Addr} {n0 c0 n1 c1 n c n' c':Nat} {ps:List Pa} {hs:List Ho} {l m:List Sw}
end
end Go.Proofs.YtmdphpnaipbfjaaGreatDoor.B
