/- Part 12 of the proofs that: Each step that was done was approved; folding in two parts is folding at once. -/
import Derived.Test.YtbcojgcjjpggnaaGreatDoorA11
import Derived.Test.YtbcojgcjjpggnaaGreatDoorProg
import Derived.Laws.BytesArg
import Derived.Maps.AppendAt
set_option linter.unusedVariables false
set_option linter.unusedSimpArgs false
set_option maxRecDepth 100000
set_option maxHeartbeats 4000000
namespace Go.Proofs.YtbcojgcjjpggnaaGreatDoor.F
open Go Go.RowKit Go.Proofs Go.Proofs.YtbcojgcjjpggnaaGreatDoor.Vc
open Tryz
variable {A C D E G H J K A0 A1 A2 A3 A4 A5 A6 A7 A8 A9 C0 C1 C2 C3 C4 C5 C6 C7 C8 C9:O} {a b c d e f g i j l m n o a0 a1 a2 a3 a4 a5 a6 a7 a8 a9 b0 b1 b2 b3 b4 b5 b6 b7 b8 b9 c0 c1 c2 c3 c4 c5 c6 c7 c8 c9:Nat} {p q r s t u v x p0 p1 p2 p3 p4 p5 p6 p7 p8 p9 q0 q1 q2 q3 q4 q5 q6 q7 q8 q9:Int} {L M N N0 N1 N2 N3 N4 N5 N6 N7 N8 N9 T0 T1 T2 T3 T4 T5 T6 T7 T8 T9:ByteArray} {Q S:Bool} {B:Nat} {w:World} {R:Kt}
def ar.L7(a:O)(b c:Nat)(d:O)(e f:Nat)(g i:Int):=Lt 4 f4 7 [vS 3 a b c,vS 21 d e f,vI 22 g,vI 23 i] []
def ar.pL(a:O)(b c:Nat)(d:Addr)(e:Addr)(f:Addr)(g:Addr)(i:O)(j l:Nat)(m n:Int):=Lt 4 f4 13 [vS 3 a b c,(6,.v (.pointer (some d))),(7,.v (.pointer (some e))),(8,.v (.pointer (some f))),(9,.v (.pointer (some g))),vS 21 i j l,vI 22 m,vI 23 n] []
def ar.cx:Pm:=([((true,7),[3,21,22,23],[]),((true,13),[3,6,7,8,9,21,22,23],[])],[(8,3,2),(10,4,2),(11,3,2),(12,0,2),(19,0,2)])
theorem ar.L7.step
  (h:(Br (p<q) (Ix p b C fun t6=>(∃x y z D E G H J K L M N,aa w (t6.add ((p).toNat*6)) [I x,I y,I z,.slice D E G,.slice H J K,.slice L M N]/\(ae P (Instr.alloc 32 true (.tuple #[])) B [] w fun t7 O=>∃(e:Addr),t7= .pointer (some e)/\(∃(l:List Value)(m:Nat),B<=e.block/\e.spot=none/\O.heap[e.block]? =some (.cells l.toArray m (0,0))/\e.off+6<=l.length/\hasType m []=false/\∀j,aL O j e.block m (setCells l e.off [I x,I y,I z,.slice D E G,.slice H J K,.slice L M N])->(∃Q,aa j (e.add 2) [I Q]/\(Br (Q≠9) (aU .i64 (p+1)/\(ar.L7 A a c C b d q (p+1) B j R)) (Ix p a A fun t8=>(∃S T U V X Y Z d0 d1 d2 d3 d4 d5 d6 d7 d8 d9 k F W e3 e4 e5 e6 e7 e8 e9 g0 g1 g2 g3 g4 g5 g6 g7 g8,aa j (t8.add ((p).toNat*14)) [.slice S T U,.slice V X Y,.slice Z d0 d1,.slice d2 d3 d4,.slice d5 d6 d7,I d8,.slice d9 k F,.slice W e3 e4,.slice e5 e6 e7,.slice e8 e9 g0,.slice g1 g2 g3,.slice g4 g5 g6,I g7,I g8]/\(ae P (Instr.alloc 49 true (.tuple #[])) B [] j fun t9 g9=>∃(f:Addr),t9= .pointer (some f)/\(∃(n:List Value)(o:Nat),B<=f.block/\f.spot=none/\g9.heap[f.block]? =some (.cells n.toArray o (0,0))/\f.off+14<=n.length/\hasType o []=false/\∀r,aL g9 r f.block o (setCells n f.off [.slice S T U,.slice V X Y,.slice Z d0 d1,.slice d2 d3 d4,.slice d5 d6 d7,I d8,.slice d9 k F,.slice W e3 e4,.slice e5 e6 e7,.slice e8 e9 g0,.slice g1 g2 g3,.slice g4 g5 g6,I g7,I g8])->(∃j0 j1 j2 j3 j4 j5 j6 j7 j8 j9 l0 l1 l2 l3 l4 l5 l6 l7 l8 l9 m0 m1 m2 m3 m4 m5 m6 m7 m8 m9 n0 n1 n2 n3 n4 n5,aa r f [.slice j0 j1 j2,.slice j3 j4 j5,.slice j6 j7 j8,.slice j9 l0 l1,.slice l2 l3 l4,I l5,.slice l6 l7 l8,.slice l9 m0 m1,.slice m2 m3 m4,.slice m5 m6 m7,.slice m8 m9 n0,.slice n1 n2 n3,I n4,I n5]/\(Pure P 18 #[.agg #[.slice j0 j1 j2,.slice j3 j4 j5,.slice j6 j7 j8,.slice j9 l0 l1,.slice l2 l3 l4,I l5,.slice l6 l7 l8,.slice l9 m0 m1,.slice m2 m3 m4,.slice m5 m6 m7,.slice m8 m9 n0,.slice n1 n2 n3,I n4,I n5]] r fun v0 v1=>∃n6 n7 n8 n9 o0 o1 o2 o3 o4 o5 o6 o7 o8 o9 r0 r1 r2 r3 r4 r5 r6 r7 r8 r9 s0 s1 s2 s3 s4 s5 s6 s7 s8 s9 t0 t1,v0= .agg #[.slice n6 n7 n8,.slice n9 o0 o1,.slice o2 o3 o4,.slice o5 o6 o7,.slice o8 o9 r0,I r1,.slice r2 r3 r4,.slice r5 r6 r7,.slice r8 r9 s0,.slice s1 s2 s3,.slice s4 s5 s6,.slice s7 s8 s9,I t0,I t1]/\(Pure P 17 #[.agg #[.slice n6 n7 n8,.slice n9 o0 o1,.slice o2 o3 o4,.slice o5 o6 o7,.slice o8 o9 r0,I r1,.slice r2 r3 r4,.slice r5 r6 r7,.slice r8 r9 s0,.slice s1 s2 s3,.slice s4 s5 s6,.slice s7 s8 s9,I t0,I t1]] v1 (Rt fun v2 v3=>(ae P (Instr.alloc 9 true (.tuple #[])) B [] v3 fun v4 t2=>∃(g:Addr),v4= .pointer (some g)/\(∃(s:List Value)(t:Nat),B<=g.block/\g.spot=none/\t2.heap[g.block]? =some (.cells s.toArray t (0,0))/\g.off+1<=s.length/\hasType t []=false/\∀t3,aL t2 t3 g.block t (setCells s g.off [.string v2])->(ae P (Instr.alloc 3 true (.tuple #[])) B [] t3 fun v5 t4=>∃(i:Addr),v5= .pointer (some i)/\(∃(u:List Value)(v:Nat),B<=i.block/\i.spot=none/\t4.heap[i.block]? =some (.cells u.toArray v (0,0))/\i.off+1<=u.length/\hasType v []=false/\∀t5,aL t4 t5 i.block v (setCells u i.off [I 2])->(ar.pL A a c e f g i C b d q p B t5 R))))))))))))))))))) (R (.bool true) w))):
  ar.L7 A a c C b d q p B w R:=
 lr ar.cx func4 h
theorem ar.pL.step{j f l g:Addr}
  (h:(∃u,aa w g [I u]/\(Br (u<=(3:Int)) (∃v x y,aa w (f.add 11) [.slice v x y]/\(Pure P 19 #[.slice v x y,(.func (.func 20) #[] #[(.pointer (some f)),(.pointer (some g)),(.pointer (some l)),(.pointer (some j))])] w (Rb fun G m=>(Br (G=false) (R (.bool false) m) (∃z,aa m g [I z]/\(ae P (Instr.alloc 3 true (.tuple #[])) B [] m fun H D=>∃(e:Addr),H= .pointer (some e)/\(∃(n:List Value)(o:Nat),B<=e.block/\e.spot=none/\D.heap[e.block]? =some (.cells n.toArray o (0,0))/\e.off+1<=n.length/\hasType o []=false/\∀i,aL D i e.block o (setCells n e.off [I z])->(∃r,aa i e [I r]/\(aU .i64 (r+1)/\(∃(s:List Value)(t:Nat),B<=e.block/\e.spot=none/\i.heap[e.block]? =some (.cells s.toArray t (0,0))/\e.off+1<=s.length/\hasType t []=false/\∀E,aL i E e.block t (setCells s e.off [(I (r+1))])->(ar.pL A a b j f l e C c d q p B E R))))))))))) (aU .i64 (p+1)/\(ar.L7 A a b C c d q (p+1) B w R))))):
  ar.pL A a b j f l g C c d q p B w R:=
 lr ar.cx func4 h
theorem ar.vc
  (h:(Pure P 7 #[] w (Rb fun m d=>(Br (m=false) (R (.bool false) d) (Pure P 8 #[.slice A a b] d (Rb fun n e=>(Br (n=false) (R (.bool true) e) (Pure P 9 #[.slice A a b] e fun o p=>∃f g i j c l,o= .tuple #[.slice f g i,.slice j c l]/\(ar.L7 f g i j c l (c:Int) (0:Int) w.heap.size p R))))))))):
  Pure P 4 #[.slice A a b] w R:=
 pr ar.cx func4 h

def az.tB(a:O)(b c:Nat)(d e f:Int)(g:O)(i j:Nat)(l:O)(m n:Nat)(o:O)(p q:Nat)(r:O)(s t:Nat)(u:O)(v x:Nat)(y:Int)(z:O)(A C:Nat)(D:O)(E G:Nat)(H:O)(J K:Nat)(L:O)(M N:Nat)(Q:O)(S T:Nat)(U:O)(V X:Nat)(Y Z:Int)(d0:O)(d1 d2:Nat)(d3:O)(d4 d5:Nat)(d6:O)(d7 d8:Nat)(d9:O)(h k:Nat)(F:O)(P W:Nat)(e5:Int)(e6:O)(e7 e8:Nat)(e9:O)(g0 g1:Nat)(g2:O)(g3 g4:Nat)(g5:O)(g6 g7:Nat)(g8:O)(g9 j0:Nat)(j1:O)(j2 j3:Nat)(j4 j5:Int)(j6:O)(j7 j8:Nat)(j9:O)(l0 l1:Nat)(l2:O)(l3 l4:Nat)(l5:O)(l6 l7:Nat)(l8:O)(l9 m0:Nat)(m1:Int)(m2:O)(m3 m4:Nat)(m5:O)(m6 m7:Nat)(m8:O)(m9 n0:Nat)(n1:O)(n2 n3:Nat)(n4:O)(n5 n6:Nat)(n7:O)(n8 n9:Nat)(o0 o1:Int):=Lt 5 f5 14 [vS 0 a b c,vL 5,vI 8 d,vL 9,vL 12,vI 13 e,vI 14 f] [⟨5,false,49,[(.slice g i j),(.slice l m n),(.slice o p q),(.slice r s t),(.slice u v x),(I y),(.slice z A C),(.slice D E G),(.slice H J K),(.slice L M N),(.slice Q S T),(.slice U V X),(I Y),(I Z)]⟩,⟨9,false,49,[(.slice d0 d1 d2),(.slice d3 d4 d5),(.slice d6 d7 d8),(.slice d9 h k),(.slice F P W),(I e5),(.slice e6 e7 e8),(.slice e9 g0 g1),(.slice g2 g3 g4),(.slice g5 g6 g7),(.slice g8 g9 j0),(.slice j1 j2 j3),(I j4),(I j5)]⟩,⟨12,false,49,[(.slice j6 j7 j8),(.slice j9 l0 l1),(.slice l2 l3 l4),(.slice l5 l6 l7),(.slice l8 l9 m0),(I m1),(.slice m2 m3 m4),(.slice m5 m6 m7),(.slice m8 m9 n0),(.slice n1 n2 n3),(.slice n4 n5 n6),(.slice n7 n8 n9),(I o0),(I o1)]⟩]
def az.Xm(a b:Int)(c:O)(d e:Nat)(f g:Int)(i:O)(j l:Nat)(m:O)(n o:Nat)(p:O)(q r:Nat)(s:O)(t u:Nat)(v:O)(x y:Nat)(z:Int)(A:O)(C D:Nat)(E:O)(G H:Nat)(J:O)(K L:Nat)(M:O)(N Q:Nat)(S:O)(T U:Nat)(V:O)(X Y:Nat)(Z d0:Int)(d1:O)(d2 d3:Nat)(d4:O)(d5 d6:Nat)(d7:O)(d8 d9:Nat)(h:O)(k F:Nat)(P:O)(W e5:Nat)(e6:Int)(e7:O)(e8 e9:Nat)(g0:O)(g1 g2:Nat)(g3:O)(g4 g5:Nat)(g6:O)(g7 g8:Nat)(g9:O)(j0 j1:Nat)(j2:O)(j3 j4:Nat)(j5 j6:Int)(j7:O)(j8 j9:Nat)(l0:O)(l1 l2:Nat)(l3:O)(l4 l5:Nat)(l6:O)(l7 l8:Nat)(l9:O)(m0 m1:Nat)(m2:Int)(m3:O)(m4 m5:Nat)(m6:O)(m7 m8:Nat)(m9:O)(n0 n1:Nat)(n2:O)(n3 n4:Nat)(n5:O)(n6 n7:Nat)(n8:O)(n9 o0:Nat)(o1 o2:Int)(o3:O)(o4 o5:Nat)(o6:O)(o7 o8:Nat)(o9:O)(r0 r1:Nat)(r2:O)(r3 r4:Nat)(r5:O)(r6 r7:Nat)(r8:Int)(r9:O)(s0 s1:Nat)(s2:O)(s3 s4:Nat)(s5:O)(s6 s7:Nat)(s8:O)(s9 t0:Nat)(t1:O)(t2 t3:Nat)(t4:O)(t5 t6:Nat)(t7 t8:Int):=Lt 5 f5 18 [vL 5,vL 9,vL 12,vI 13 a,vL 15,vI 17 b,vS 97 c d e,vI 98 f,vI 99 g] [⟨5,false,49,[(.slice i j l),(.slice m n o),(.slice p q r),(.slice s t u),(.slice v x y),(I z),(.slice A C D),(.slice E G H),(.slice J K L),(.slice M N Q),(.slice S T U),(.slice V X Y),(I Z),(I d0)]⟩,⟨9,false,49,[(.slice d1 d2 d3),(.slice d4 d5 d6),(.slice d7 d8 d9),(.slice h k F),(.slice P W e5),(I e6),(.slice e7 e8 e9),(.slice g0 g1 g2),(.slice g3 g4 g5),(.slice g6 g7 g8),(.slice g9 j0 j1),(.slice j2 j3 j4),(I j5),(I j6)]⟩,⟨12,false,49,[(.slice j7 j8 j9),(.slice l0 l1 l2),(.slice l3 l4 l5),(.slice l6 l7 l8),(.slice l9 m0 m1),(I m2),(.slice m3 m4 m5),(.slice m6 m7 m8),(.slice m9 n0 n1),(.slice n2 n3 n4),(.slice n5 n6 n7),(.slice n8 n9 o0),(I o1),(I o2)]⟩,⟨15,false,49,[(.slice o3 o4 o5),(.slice o6 o7 o8),(.slice o9 r0 r1),(.slice r2 r3 r4),(.slice r5 r6 r7),(I r8),(.slice r9 s0 s1),(.slice s2 s3 s4),(.slice s5 s6 s7),(.slice s8 s9 t0),(.slice t1 t2 t3),(.slice t4 t5 t6),(I t7),(I t8)]⟩]
def az.cx:Pm:=([((true,14),[0,5,8,9,12,13,14],[5,9,12]),((true,18),[5,9,12,13,15,17,97,98,99],[5,9,12,15])],[(12,9998,8),(20,9998,8)])
theorem az.tB.step{c d e f g i j l m n o y z A C D E G H J K L M N Q S T U V X Y Z d0 d1:O}{b a d2 d3 d4 d5 d6 d7 d8 d9 k F W e3 e4 e5 e6 e7 e8 e9 g0 g1 g2 g3 g4 g5 g6 g7 g8 g9 j0 j1 j2 j3 j4 j5 j6 j7 j8 j9 l0 l1 l2 l3 l4 l5 l6 l7 l8 l9 m0 m1 m2 m3 m4 m5 m6 m7 m8 m9 n0 n1 n2 n3 n4 n5 n6 n7 B:Nat}
  (h:(Br (q<(b:Int)) (Ix q b c fun D0=>(∃n8,aa w ((D0.add ((q).toNat*6)).add 1) [I n8]/\(Br (n8<=r) (aU .i64 (q+1)/\(∀n9,Ext B [] w n9->(az.tB c b a p s (q+1) d d2 d3 e d4 d5 f d6 d7 g d8 d9 i k F t j W e3 l e4 e5 m e6 e7 n e8 e9 o g0 g1 y g2 g3 u v z g4 g5 A g6 g7 C g8 g9 D j0 j1 E j2 j3 x G j4 j5 H j6 j7 J j8 j9 K l0 l1 L l2 l3 M l4 l5 p0 r N l6 l7 Q l8 l9 S m0 m1 T m2 m3 U m4 m5 p1 V m6 m7 X m8 m9 Y n0 n1 Z n2 n3 d0 n4 n5 d1 n6 n7 p2 p3 B n9 R))) ((0<=q/\q<=(a:Int))/\(∀o0,Ext B [] w o0->(Pure P 25 #[(.slice c ((q).toNat) a)] o0 (Rs fun D1 D2 D3 D4=>(Pure P 24 #[.slice D1 D2 D3] D4 fun D5 D6=>∃o1 o2 o3 o4 o5 o6 o7 o8 o9 r0 r1 r2 r3 r4 r5 r6 r7 r8 r9 s0 s1 s2 s3 s4 s5 s6 s7 s8 s9 t0 t1 t2 t3 t4 t5 t6 D7 t7,D5= .tuple #[.agg #[.slice o1 o2 o3,.slice o4 o5 o6,.slice o7 o8 o9,.slice r0 r1 r2,.slice r3 r4 r5,I r6,.slice r7 r8 r9,.slice s0 s1 s2,.slice s3 s4 s5,.slice s6 s7 s8,.slice s9 t0 t1,.slice t2 t3 t4,I t5,I t6],I D7,I t7]/\((0<=p/\p<=(b:Int)/\b<=a)/\(∀t8,Ext B [] D6 t8->(Pure P 25 #[(.slice (cD c ((p).toNat) a 6) (b - (p).toNat) (a - (p).toNat))] t8 (Rs fun D8 t9 D9 E0=>(az.Xm s t7 D8 t9 D9 (t9:Int) (0:Int) d d2 d3 e d4 d5 f d6 d7 g d8 d9 i k F t j W e3 l e4 e5 m e6 e7 n e8 e9 o g0 g1 y g2 g3 u v z g4 g5 A g6 g7 C g8 g9 D j0 j1 E j2 j3 x G j4 j5 H j6 j7 J j8 j9 K l0 l1 L l2 l3 M l4 l5 p0 r N l6 l7 Q l8 l9 S m0 m1 T m2 m3 U m4 m5 p1 V m6 m7 X m8 m9 Y n0 n1 Z n2 n3 d0 n4 n5 d1 n6 n7 p2 p3 o1 o2 o3 o4 o5 o6 o7 o8 o9 r0 r1 r2 r3 r4 r5 r6 r7 r8 r9 s0 s1 s2 s3 s4 s5 s6 s7 s8 s9 t0 t1 t2 t3 t4 t5 t6 B E0 R))))))))))))) ((0<=q/\q<=(a:Int))/\(∀v0,Ext B [] w v0->(Pure P 25 #[(.slice c ((q).toNat) a)] v0 (Rs fun E1 E2 E3 E4=>(Pure P 24 #[.slice E1 E2 E3] E4 fun E5 E6=>∃v1 v2 v3 v4 v5 v6 v7 v8 v9 x0 x1 x2 x3 x4 x5 x6 x7 x8 x9 y0 y1 y2 y3 y4 y5 y6 y7 y8 y9 z0 z1 z2 z3 z4 z5 z6 E7 z7,E5= .tuple #[.agg #[.slice v1 v2 v3,.slice v4 v5 v6,.slice v7 v8 v9,.slice x0 x1 x2,.slice x3 x4 x5,I x6,.slice x7 x8 x9,.slice y0 y1 y2,.slice y3 y4 y5,.slice y6 y7 y8,.slice y9 z0 z1,.slice z2 z3 z4,I z5,I z6],I E7,I z7]/\((0<=p/\p<=(b:Int)/\b<=a)/\(∀z8,Ext B [] E6 z8->(Pure P 25 #[(.slice (cD c ((p).toNat) a 6) (b - (p).toNat) (a - (p).toNat))] z8 (Rs fun E8 z9 E9 G0=>(az.Xm s z7 E8 z9 E9 (z9:Int) (0:Int) d d2 d3 e d4 d5 f d6 d7 g d8 d9 i k F t j W e3 l e4 e5 m e6 e7 n e8 e9 o g0 g1 y g2 g3 u v z g4 g5 A g6 g7 C g8 g9 D j0 j1 E j2 j3 x G j4 j5 H j6 j7 J j8 j9 K l0 l1 L l2 l3 M l4 l5 p0 r N l6 l7 Q l8 l9 S m0 m1 T m2 m3 U m4 m5 p1 V m6 m7 X m8 m9 Y n0 n1 Z n2 n3 d0 n4 n5 d1 n6 n7 p2 p3 v1 v2 v3 v4 v5 v6 v7 v8 v9 x0 x1 x2 x3 x4 x5 x6 x7 x8 x9 y0 y1 y2 y3 y4 y5 y6 y7 y8 y9 z0 z1 z2 z3 z4 z5 z6 B G0 R)))))))))))):
  az.tB c b a p s q d d2 d3 e d4 d5 f d6 d7 g d8 d9 i k F t j W e3 l e4 e5 m e6 e7 n e8 e9 o g0 g1 y g2 g3 u v z g4 g5 A g6 g7 C g8 g9 D j0 j1 E j2 j3 x G j4 j5 H j6 j7 J j8 j9 K l0 l1 L l2 l3 M l4 l5 p0 r N l6 l7 Q l8 l9 S m0 m1 T m2 m3 U m4 m5 p1 V m6 m7 X m8 m9 Y n0 n1 Z n2 n3 d0 n4 n5 d1 n6 n7 p2 p3 B w R:=
 lr az.cx func5 h
theorem az.Xm.step{a b c d e f g i j l m n o y z A C D E G H J K L M N Q S T U V X Y Z d0 d1 d2 d3 d4 d5 d6 d7 d8 d9 k:O}{F t0 W e3 e4 e5 e6 e7 e8 e9 g0 g1 g2 g3 g4 g5 g6 g7 g8 g9 j0 j1 j2 j3 j4 j5 j6 j7 j8 j9 l0 l1 l2 l3 l4 l5 l6 l7 l8 l9 m0 m1 m2 m3 m4 m5 m6 m7 m8 m9 n0 n1 n2 n3 n4 n5 n6 n7 n8 n9 o0 o1 o2 o3 o4 o5 o6 o7 o8 o9 r0 r1 r2 r3 r4 r5 r6 r7 r8 r9 s0 s1 s2 s3 s4 s5 s6 s7 s8 s9 B:Nat}
  (h:(Br (p<s) (Ix p F a fun J2=>(∃t1 t2 t3 t4 t5 t6 t7 t8 t9 v0 v1 v2,aa w (J2.add ((p).toNat*6)) [I t1,I t2,I t3,.slice t4 t5 t6,.slice t7 t8 t9,.slice v0 v1 v2]/\(∀v3,Ext B [] w v3->(Pure P 18 #[.agg #[.slice o j4 j5,.slice y j6 j7,.slice z j8 j9,.slice A l0 l1,.slice C l2 l3,I x,.slice D l4 l5,.slice E l6 l7,.slice G l8 l9,.slice H m0 m1,.slice J m2 m3,.slice K m4 m5,I p0,I p1]] v3 fun J3 J4=>∃v4 v5 v6 v7 v8 v9 x0 x1 x2 x3 x4 x5 x6 x7 x8 x9 y0 y1 y2 y3 y4 y5 y6 y7 y8 y9 z0 z1 z2 z3 z4 z5 z6 z7 z8 z9,J3= .agg #[.slice v4 v5 v6,.slice v7 v8 v9,.slice x0 x1 x2,.slice x3 x4 x5,.slice x6 x7 x8,I x9,.slice y0 y1 y2,.slice y3 y4 y5,.slice y6 y7 y8,.slice y9 z0 z1,.slice z2 z3 z4,.slice z5 z6 z7,I z8,I z9]/\(∀D0,Ext B [] J4 D0->(Pure P 27 #[.agg #[.slice v4 v5 v6,.slice v7 v8 v9,.slice x0 x1 x2,.slice x3 x4 x5,.slice x6 x7 x8,I x9,.slice y0 y1 y2,.slice y3 y4 y5,.slice y6 y7 y8,.slice y9 z0 z1,.slice z2 z3 z4,.slice z5 z6 z7,I z8,I z9],.agg #[I t1,I t2,I t3,.slice t4 t5 t6,.slice t7 t8 t9,.slice v0 v1 v2]] D0 fun J5 D1=>∃D2 D3 D4 D5 D6 D7 D8 D9 E0 E1 E2 E3 E4 E5 E6 E7 E8 E9 G0 G1 G2 G3 G4 G5 G6 G7 G8 G9 H0 H1 H2 H3 H4 H5 H6 H7 H8,J5= .tuple #[.agg #[.slice D2 D3 D4,.slice D5 D6 D7,.slice D8 D9 E0,.slice E1 E2 E3,.slice E4 E5 E6,I E7,.slice E8 E9 G0,.slice G1 G2 G3,.slice G4 G5 G6,.slice G7 G8 G9,.slice H0 H1 H2,.slice H3 H4 H5,I H6,I H7],I H8]/\(Br (H8≠0) (∀H9,Ext B [49] D1 H9->(R (.bool false) H9)) (aU .i64 (p+1)/\(∀J0,Ext B [49] D1 J0->(az.Xm q r a F t0 s (p+1) b W e3 c e4 e5 d e6 e7 e e8 e9 f g0 g1 t g g2 g3 i g4 g5 j g6 g7 l g8 g9 m j0 j1 n j2 j3 u v D2 D3 D4 D5 D6 D7 D8 D9 E0 E1 E2 E3 E4 E5 E6 E7 E8 E9 G0 G1 G2 G3 G4 G5 G6 G7 G8 G9 H0 H1 H2 H3 H4 H5 H6 H7 L m6 m7 M m8 m9 N n0 n1 Q n2 n3 S n4 n5 p2 T n6 n7 U n8 n9 V o0 o1 X o2 o3 Y o4 o5 Z o6 o7 p3 p4 d0 o8 o9 d1 r0 r1 d2 r2 r3 d3 r4 r5 d4 r6 r7 p5 d5 r8 r9 d6 s0 s1 d7 s2 s3 d8 s4 s5 d9 s6 s7 k s8 s9 p6 p7 B J0 R)))))))))) (Br (q=0) (Br (r=0) (Pure P 28 #[.agg #[.slice L m6 m7,.slice M m8 m9,.slice N n0 n1,.slice Q n2 n3,.slice S n4 n5,I p2,.slice T n6 n7,.slice U n8 n9,.slice V o0 o1,.slice X o2 o3,.slice Y o4 o5,.slice Z o6 o7,I p3,I p4],.agg #[.slice d0 o8 o9,.slice d1 r0 r1,.slice d2 r2 r3,.slice d3 r4 r5,.slice d4 r6 r7,I p5,.slice d5 r8 r9,.slice d6 s0 s1,.slice d7 s2 s3,.slice d8 s4 s5,.slice d9 s6 s7,.slice k s8 s9,I p6,I p7]] w (Rb fun J6 J1=>(Bb J6 (Pure P 28 #[.agg #[.slice o j4 j5,.slice y j6 j7,.slice z j8 j9,.slice A l0 l1,.slice C l2 l3,I x,.slice D l4 l5,.slice E l6 l7,.slice G l8 l9,.slice H m0 m1,.slice J m2 m3,.slice K m4 m5,I p0,I p1],.agg #[.slice b W e3,.slice c e4 e5,.slice d e6 e7,.slice e e8 e9,.slice f g0 g1,I t,.slice g g2 g3,.slice i g4 g5,.slice j g6 g7,.slice l g8 g9,.slice m j0 j1,.slice n j2 j3,I u,I v]] J1 (Rb fun J7 J8=>(R (.bool J7) J8))) (R (.bool false) J1)))) (R (.bool false) w)) (R (.bool false) w)))):
  az.Xm q r a F t0 s p b W e3 c e4 e5 d e6 e7 e e8 e9 f g0 g1 t g g2 g3 i g4 g5 j g6 g7 l g8 g9 m j0 j1 n j2 j3 u v o j4 j5 y j6 j7 z j8 j9 A l0 l1 C l2 l3 x D l4 l5 E l6 l7 G l8 l9 H m0 m1 J m2 m3 K m4 m5 p0 p1 L m6 m7 M m8 m9 N n0 n1 Q n2 n3 S n4 n5 p2 T n6 n7 U n8 n9 V o0 o1 X o2 o3 Y o4 o5 Z o6 o7 p3 p4 d0 o8 o9 d1 r0 r1 d2 r2 r3 d3 r4 r5 d4 r6 r7 p5 d5 r8 r9 d6 s0 s1 d7 s2 s3 d8 s4 s5 d9 s6 s7 k s8 s9 p6 p7 B w R:=
 lr az.cx func5 h
theorem az.vc
  (h:(Pure P 7 #[] w (Rb fun b1 f=>(Br (b1=false) (R (.bool false) f) (Pure P 8 #[.slice A a b] f (Rb fun b4 g=>(Br (b4=false) (R (.bool true) g) (Pure P 25 #[.slice A a b] g (Rs fun A7 k c7 w9=>(Pure P 24 #[.slice A7 k c7] w9 fun s0 i=>∃j l m n o q r s t u v x y z C D E G H J K L M N O Q S T U V X Y Z d0 c d1 s1 d2,s0= .tuple #[.agg #[.slice j l m,.slice n o q,.slice r s t,.slice u v x,.slice y z C,I D,.slice E G H,.slice J K L,.slice M N O,.slice Q S T,.slice U V X,.slice Y Z d0,I c,I d1],I s1,I d2]/\(Br (d2≠0) (∀d3,Ext w.heap.size [] i d3->(R (.bool (decide (c=0))) d3)) (aU .i64 (p)/\(aU .i64 ((a:Int)+1)/\((0<=(p)/\0<((a:Int)+1))/\((0<=((p) % ((a:Int)+1))/\((p) % ((a:Int)+1))<=(b:Int))/\(∀d4,Ext w.heap.size [] i d4->(Pure P 25 #[(.slice A ((((p) % ((a:Int)+1))).toNat) b)] d4 (Rs fun s2 s3 s4 s5=>(Pure P 24 #[.slice s2 s3 s4] s5 fun s6 d=>∃d5 d6 d7 d8 d9 F W e2 e3 e4 e5 e6 e7 e8 e9 g0 g1 g2 g3 g4 g5 g6 g7 g8 g9 j0 j1 j2 j3 j4 j5 j6 j7 j8 j9 e l0 l1,s6= .tuple #[.agg #[.slice d5 d6 d7,.slice d8 d9 F,.slice W e2 e3,.slice e4 e5 e6,.slice e7 e8 e9,I g0,.slice g1 g2 g3,.slice g4 g5 g6,.slice g7 g8 g9,.slice j0 j1 j2,.slice j3 j4 j5,.slice j6 j7 j8,I j9,I e],I l0,I l1]/\(Br (l1≠0) (∀l2,Ext w.heap.size [] d l2->(R (.bool false) l2)) (Br (l0≠(-1:Int)) (∀l3,Ext w.heap.size [] d l3->(R (.bool false) l3)) (∀l4,Ext w.heap.size [] d l4->(Pure P 25 #[.slice A a b] l4 (Rs fun s7 s8 s9 t0=>(∀l5,Ext w.heap.size [] t0 l5->(Pure P 26 #[.slice s7 s8 s9,I e] l5 fun t1 t2=>∃l6 l7 l8 l9 m0 m1 m2 m3 m4 m5 m6 m7 m8 m9 n0 n1 n2 n3 n4 n5 n6 k n8 n9 o0 o1 o2 o3 o4 o5 o6 o7 o8 o9 r0 r1 r2,t1= .tuple #[.agg #[.slice l6 l7 l8,.slice l9 m0 m1,.slice m2 m3 m4,.slice m5 m6 m7,.slice m8 m9 n0,I n1,.slice n2 n3 n4,.slice n5 n6 k,.slice n8 n9 o0,.slice o1 o2 o3,.slice o4 o5 o6,.slice o7 o8 o9,I r0,I r1],I r2]/\(∀r3,Ext w.heap.size [49] t2 r3->(az.tB A a b ((p) % ((a:Int)+1)) r2 ((p) % ((a:Int)+1)) j l m n o q r s t u v x y z C D E G H J K L M N O Q S T U V X Y Z d0 c d1 d5 d6 d7 d8 d9 F W e2 e3 e4 e5 e6 e7 e8 e9 g0 g1 g2 g3 g4 g5 g6 g7 g8 g9 j0 j1 j2 j3 j4 j5 j6 j7 j8 j9 e l6 l7 l8 l9 m0 m1 m2 m3 m4 m5 m6 m7 m8 m9 n0 n1 n2 n3 n4 n5 n6 k n8 n9 o0 o1 o2 o3 o4 o5 o6 o7 o8 o9 r0 r1 w.heap.size r3 R)))))))))))))))))))))))))))):
  Pure P 5 #[.slice A a b,.int .u8 p] w R:=
 pr az.cx func5 h

def bD.L5(a b c:Int)(d:ByteArray)(e:O)(f g:Nat)(i j:Int)(l:O)(m n:Nat)(o:O)(p q:Nat)(r:O)(s t:Nat)(u:O)(v x:Nat)(y:O)(z A:Nat)(C:Int)(D:O)(E G:Nat)(H:O)(J K:Nat)(L:O)(M N:Nat)(Q:O)(S T:Nat)(U:O)(V X:Nat)(Y:O)(Z d0:Nat)(d1 d2:Int):=Lt 7 f7 5 [vL 1,vI 2 a,vI 3 b,vI 5 c,vT 6 d,vS 31 e f g,vI 32 i,vI 33 j] [⟨1,false,49,[(.slice l m n),(.slice o p q),(.slice r s t),(.slice u v x),(.slice y z A),(I C),(.slice D E G),(.slice H J K),(.slice L M N),(.slice Q S T),(.slice U V X),(.slice Y Z d0),(I d1),(I d2)]⟩]
def bD.cx:Pm:=([((true,5),[1,2,3,5,6,31,32,33],[1])],[(4,0,2),(8,5,2),(8,7,2),(15,31,2)])
theorem bD.L5.step
  (h:(Br (p<x) (Ix p a9 A3 fun r1=>(∃O,aa w (r1.add ((p).toNat*1)) [.string O]/\(aU .i64 (p+1)/\(Pure P 23 #[.string O,(.agg #[(I (p+1)),I 4,.string L,(.string ⟨#[]⟩)])] w (rF fun r2 r3 r4=>(aU .i64 ((7:Int)+p)/\(aU .i64 (p+1)/\(ae P (Instr.buildSlice 28 1 #[(0,(I (p+1)))]) B [49] r4 (Rs fun r5 r6 r7 r8=>(ae P (Instr.buildSlice 30 1 #[(0,(.string r2))]) B [49] r8 (Rs fun r9 s0 s1 s2=>(Pure P 27 #[.agg #[.slice A a b,.slice C c d,.slice D e f,.slice E g i,.slice G j l,I q,.slice H m n,.slice J o a0,.slice K a1 a2,.slice A0 a3 a4,.slice A1 a5 a6,.slice A2 a7 a8,I r,I s],(.agg #[(I ((7:Int)+p)),I 4,I 8,.slice r5 r6 r7,.slice none 0 0,.slice r9 s0 s1])] s2 fun s3 N=>∃Q S T U V X Y Z d0 d1 d2 d3 d4 d5 d6 d7 d8 d9 k F W e3 e4 e5 e6 e7 e8 e9 g0 g1 g2 g3 g4 g5 g6 g7 g8,s3= .tuple #[.agg #[.slice Q S T,.slice U V X,.slice Y Z d0,.slice d1 d2 d3,.slice d4 d5 d6,I d7,.slice d8 d9 k,.slice F W e3,.slice e4 e5 e6,.slice e7 e8 e9,.slice g0 g1 g2,.slice g3 g4 g5,I g6,I g7],I g8]/\(Br (r3≠0) (∀g9,Ext B [] N g9->(R (.bool false) g9)) (Br (g8≠0) (∀j0,Ext B [] N j0->(R (.bool false) j0)) (aU .i64 (p+1)/\(∀j1,Ext B [49] N j1->(bD.L5 t u v L A3 a9 b0 x (p+1) Q S T U V X Y Z d0 d1 d2 d3 d4 d5 d6 d7 d8 d9 k F W e3 e4 e5 e6 e7 e8 e9 g0 g1 g2 g3 g4 g5 g6 g7 B j1 R))))))))))))))))) (Pure P 27 #[.agg #[.slice A a b,.slice C c d,.slice D e f,.slice E g i,.slice G j l,I q,.slice H m n,.slice J o a0,.slice K a1 a2,.slice A0 a3 a4,.slice A1 a5 a6,.slice A2 a7 a8,I r,I s],.agg #[I 9,I 5,I 9,.slice none 0 0,.slice none 0 0,.slice none 0 0]] w fun s4 s5=>∃s6 s7 s8 s9 t0 t1 t2 t3 t4 j2 j3 j4 t5 j5 t6 t7 t8 t9 v0 v1 v2 v3 v4 v5 v6 v7 v8 v9 x0 x1 x2 x3 x4 x5 x6 x7 j6,s4= .tuple #[.agg #[.slice s6 s7 s8,.slice s9 t0 t1,.slice t2 t3 t4,.slice j2 j3 j4,.slice t5 j5 t6,I t7,.slice t8 t9 v0,.slice v1 v2 v3,.slice v4 v5 v6,.slice v7 v8 v9,.slice x0 x1 x2,.slice x3 x4 x5,I x6,I x7],I j6]/\(∀j7,Ext B [] s5 j7->(Pure P 35 #[] j7 (Rs fun x8 x9 y0 y1=>(Pure P 26 #[.slice x8 x9 y0,I 2] y1 fun y2 y=>∃y3 y4 y5 y6 y7 y8 y9 z0 z1 z2 z3 z4 z5 z6 z7 z8 z9 D0 D1 D2 D3 D4 D5 D6 D7 D8 D9 E0 E1 E2 E3 E4 E5 E6 j8 E7 j9,y2= .tuple #[.agg #[.slice y3 y4 y5,.slice y6 y7 y8,.slice y9 z0 z1,.slice z2 z3 z4,.slice z5 z6 z7,I z8,.slice z9 D0 D1,.slice D2 D3 D4,.slice D5 D6 D7,.slice D8 D9 E0,.slice E1 E2 E3,.slice E4 E5 E6,I j8,I E7],I j9]/\(Br (u=0) (Br (t=(-1:Int)) (Br (v=23) (Br (((ByteArray.size L:Int):Int)=32) (∀l0,Ext B [] y l0->(Pure P 36 #[.agg #[.slice A a b,.slice C c d,.slice D e f,.slice E g i,.slice G j l,I q,.slice H m n,.slice J o a0,.slice K a1 a2,.slice A0 a3 a4,.slice A1 a5 a6,.slice A2 a7 a8,I r,I s],I 5] l0 (Rb fun E8 z=>(Bb E8 (Br (j6=0) (Br (j9=0) (ae P (Instr.buildSlice 40 1 #[(0,(.agg #[I 1,I 1,I 2]))]) B [49,49,49] z (Rs fun E9 G0 G1 G2=>(Pure P 13 #[.slice j2 j3 j4,.slice E9 G0 G1] G2 (Rb fun G3 M=>(Bb G3 (Br ((j5:Int)=0) (Br (j8=5) (Pure P 37 #[] M fun G4 G5=>∃l1 l2 l3 l4 l5 l6 l7 l8 l9 m0 m1 m2 m3 m4 m5 m6 m7 m8 m9 n0 n1 n2 n3 n4 n5 n6 n7 n8 n9 o0 o1 o2 o3 o4 o5 o6,G4= .agg #[.slice l1 l2 l3,.slice l4 l5 l6,.slice l7 l8 l9,.slice m0 m1 m2,.slice m3 m4 m5,I m6,.slice m7 m8 m9,.slice n0 n1 n2,.slice n3 n4 n5,.slice n6 n7 n8,.slice n9 o0 o1,.slice o2 o3 o4,I o5,I o6]/\(Pure P 28 #[.agg #[.slice l1 l2 l3,.slice l4 l5 l6,.slice l7 l8 l9,.slice m0 m1 m2,.slice m3 m4 m5,I m6,.slice m7 m8 m9,.slice n0 n1 n2,.slice n3 n4 n5,.slice n6 n7 n8,.slice n9 o0 o1,.slice o2 o3 o4,I o5,I o6],.agg #[.slice none 0 0,.slice none 0 0,.slice none 0 0,.slice none 0 0,.slice none 0 0,I 0,.slice none 0 0,.slice none 0 0,.slice none 0 0,.slice none 0 0,.slice none 0 0,.slice none 0 0,I 0,I 0]] G5 (Rb fun G6 G7=>(R (.bool G6) G7)))) (R (.bool false) M)) (R (.bool false) M)) (R (.bool false) M)))))) (R (.bool false) z)) (R (.bool false) z)) (R (.bool false) z))))) (∀o7,Ext B [] y o7->(R (.bool false) o7))) (∀o8,Ext B [] y o8->(R (.bool false) o8))) (∀o9,Ext B [] y o9->(R (.bool false) o9))) (∀r0,Ext B [] y r0->(R (.bool false) r0)))))))))):
  bD.L5 t u v L A3 a9 b0 x p A a b C c d D e f E g i G j l q H m n J o a0 K a1 a2 A0 a3 a4 A1 a5 a6 A2 a7 a8 r s B w R:=
 lr bD.cx func7 h
theorem bD.vc
  (h:(Pure P 35 #[] w (Rs fun Z n1 c1 k=>(Pure P 24 #[.slice Z n1 c1] k fun d3 d4=>∃a b c d e f g i j l m n o p q r s t u v x y z A C D E G H J K L M N O Q S T,d3= .tuple #[.agg #[.slice a b c,.slice d e f,.slice g i j,.slice l m n,.slice o p q,I r,.slice s t u,.slice v x y,.slice z A C,.slice D E G,.slice H J K,.slice L M N,I O,I Q],I S,I T]/\(∀U,Ext w.heap.size [] d4 U->(Pure P 27 #[.agg #[.slice a b c,.slice d e f,.slice g i j,.slice l m n,.slice o p q,I r,.slice s t u,.slice v x y,.slice z A C,.slice D E G,.slice H J K,.slice L M N,I O,I Q],.agg #[I 7,I 4,I 9,.slice none 0 0,.slice none 0 0,.slice none 0 0]] U fun d5 d6=>∃d7 d8 d9 F W e2 e3 e4 e5 e6 e7 e8 e9 g0 g1 g2 g3 g4 g5 g6 g7 g8 g9 j0 j1 j2 j3 j4 j5 j6 j7 j8 j9 l0 l1 l2 V,d5= .tuple #[.agg #[.slice d7 d8 d9,.slice F W e2,.slice e3 e4 e5,.slice e6 e7 e8,.slice e9 g0 g1,I g2,.slice g3 g4 g5,.slice g6 g7 g8,.slice g9 j0 j1,.slice j2 j3 j4,.slice j5 j6 j7,.slice j8 j9 l0,I l1,I l2],I V]/\(∀X,Ext w.heap.size [] d6 X->(Pure P 17 #[.agg #[.slice a b c,.slice d e f,.slice g i j,.slice l m n,.slice o p q,I r,.slice s t u,.slice v x y,.slice z A C,.slice D E G,.slice H J K,.slice L M N,I O,I Q]] X (Rt fun l3 l4=>(ae P (Instr.buildSlice 30 2 #[(0,(.string ⟨#[107]⟩)),(1,(.string ⟨#[113]⟩))]) w.heap.size [49,49] l4 (Rs fun l5 Y l6 l7=>(bD.L5 S T V l3 l5 Y l6 (Y:Int) (0:Int) a b c d e f g i j l m n o p q r s t u v x y z A C D E G H J K L M N O Q w.heap.size l7 R)))))))))))):
  Pure P 7 #[] w R:=
 pr bD.cx func7 h

def an.L3(a:O)(b c:Nat)(d:O)(e f:Nat)(g:O)(i j:Nat)(l m:Int):=Lt 9 f9 3 [vS 4 a b c,vS 5 d e f,vS 14 g i j,vI 15 l,vI 16 m] []
def an.J6(a:O)(b c:Nat)(d:O)(e f:Nat)(g:Addr)(i:Addr)(j:Int)(l:O)(m n:Nat)(o p:Int):=Jt 9 f9 6 [vS 4 a b c,vS 5 d e f,(7,.v (.pointer (some g))),(8,.v (.pointer (some i))),vI 9 j,vS 14 l m n,vI 15 o,vI 16 p] []
def an.cx:Pm:=([((true,3),[4,5,14,15,16],[]),((false,6),[4,5,7,8,9,14,15,16],[])],[(1,1,2),(1,2,2),(4,2,2),(5,12,7),(7,2,7),(7,3,2),(7,6,7),(7,7,2)])
theorem an.L3.step
  (h:(Br (p<q) (Ix p e D fun Q5=>(∃n7 n8 n9 o0 o1 o2 o3 o4 o5 o6 o7 o8,aa w (Q5.add ((p).toNat*6)) [I n7,I n8,I n9,.slice o0 o1 o2,.slice o3 o4 o5,.slice o6 o7 o8]/\(ae P (Instr.alloc 32 true (.tuple #[])) B [] w fun Q6 o9=>∃(g:Addr),Q6= .pointer (some g)/\(∃(H:List Value)(J:Nat),B<=g.block/\g.spot=none/\o9.heap[g.block]? =some (.cells H.toArray J (0,0))/\g.off+6<=H.length/\hasType J []=false/\∀m,aL o9 m g.block J (setCells H g.off [I n7,I n8,I n9,.slice o0 o1 o2,.slice o3 o4 o5,.slice o6 o7 o8])->(aU .i64 ((a:Int) - (1:Int))/\(Ix ((a:Int) - (1:Int)) a A fun Q7=>(∃K L M N O Q S T U V X Y Z d0 d1 d2 d3 d4 d5 d6 d7 d8 d9 k F W e3 e4 e5 e6 e7 e8 e9 g0 g1 g2,aa m (Q7.add ((((a:Int) - (1:Int))).toNat*14)) [.slice K L M,.slice N O Q,.slice S T U,.slice V X Y,.slice Z d0 d1,I d2,.slice d3 d4 d5,.slice d6 d7 d8,.slice d9 k F,.slice W e3 e4,.slice e5 e6 e7,.slice e8 e9 g0,I g1,I g2]/\(∃n o r s t u v x y z E G,aa m g [I n,I o,I r,.slice s t u,.slice v x y,.slice z E G]/\((∀r0,Ext B [] m r0->(Pure P 18 #[.agg #[.slice K L M,.slice N O Q,.slice S T U,.slice V X Y,.slice Z d0 d1,I d2,.slice d3 d4 d5,.slice d6 d7 d8,.slice d9 k F,.slice W e3 e4,.slice e5 e6 e7,.slice e8 e9 g0,I g1,I g2]] r0 fun Q8 g3=>∃g4 g5 g6 g7 g8 g9 j0 j1 j2 j3 j4 j5 j6 j7 j8 j9 l0 l1 l2 l3 l4 l5 l6 l7 l8 l9 m0 m1 m2 m3 m4 m5 m6 m7 m8 m9,Q8= .agg #[.slice g4 g5 g6,.slice g7 g8 g9,.slice j0 j1 j2,.slice j3 j4 j5,.slice j6 j7 j8,I j9,.slice l0 l1 l2,.slice l3 l4 l5,.slice l6 l7 l8,.slice l9 m0 m1,.slice m2 m3 m4,.slice m5 m6 m7,I m8,I m9]/\((Pure P 27 #[.agg #[.slice g4 g5 g6,.slice g7 g8 g9,.slice j0 j1 j2,.slice j3 j4 j5,.slice j6 j7 j8,I j9,.slice l0 l1 l2,.slice l3 l4 l5,.slice l6 l7 l8,.slice l9 m0 m1,.slice m2 m3 m4,.slice m5 m6 m7,I m8,I m9],.agg #[I n,I o,I r,.slice s t u,.slice v x y,.slice z E G]] g3 fun Q9 r1=>∃r2 r3 r4 r5 r6 r7 r8 r9 s0 s1 s2 s3 s4 s5 s6 s7 s8 s9 t0 t1 t2 t3 t4 t5 t6 t7 t8 t9 v0 v1 v2 v3 v4 v5 v6 v7 v8,Q9= .tuple #[.agg #[.slice r2 r3 r4,.slice r5 r6 r7,.slice r8 r9 s0,.slice s1 s2 s3,.slice s4 s5 s6,I s7,.slice s8 s9 t0,.slice t1 t2 t3,.slice t4 t5 t6,.slice t7 t8 t9,.slice v0 v1 v2,.slice v3 v4 v5,I v6,I v7],I v8]/\(ae P (Instr.alloc 49 true (.tuple #[])) r1.heap.size [] r1 fun S0 v9=>∃(i:Addr),S0= .pointer (some i)/\(∃(n0:List Value)(n1:Nat),B<=i.block/\i.spot=none/\v9.heap[i.block]? =some (.cells n0.toArray n1 (0,0))/\i.off+14<=n0.length/\hasType n1 []=false/\∀x0,aL v9 x0 i.block n1 (setCells n0 i.off [.slice r2 r3 r4,.slice r5 r6 r7,.slice r8 r9 s0,.slice s1 s2 s3,.slice s4 s5 s6,I s7,.slice s8 s9 t0,.slice t1 t2 t3,.slice t4 t5 t6,.slice t7 t8 t9,.slice v0 v1 v2,.slice v3 v4 v5,I v6,I v7])->(an.J6 A a b C c d g i v8 D e f q p B x0 R))))/\(ae P (Instr.alloc 49 true (.tuple #[])) g3.heap.size [] g3 fun S1 S2=>∃(j:Addr),S1= .pointer (some j)/\(Pure P 27 #[.agg #[.slice g4 g5 g6,.slice g7 g8 g9,.slice j0 j1 j2,.slice j3 j4 j5,.slice j6 j7 j8,I j9,.slice l0 l1 l2,.slice l3 l4 l5,.slice l6 l7 l8,.slice l9 m0 m1,.slice m2 m3 m4,.slice m5 m6 m7,I m8,I m9],.agg #[I n,I o,I r,.slice s t u,.slice v x y,.slice z E G]] S2 fun S3 x1=>∃x2 x3 x4 x5 x6 x7 x8 x9 y0 y1 y2 y3 y4 y5 y6 y7 y8 y9 z0 z1 z2 z3 z4 z5 z6 z7 z8 z9 D0 D1 D2 D3 D4 D5 D6 D7 D8,S3= .tuple #[.agg #[.slice x2 x3 x4,.slice x5 x6 x7,.slice x8 x9 y0,.slice y1 y2 y3,.slice y4 y5 y6,I y7,.slice y8 y9 z0,.slice z1 z2 z3,.slice z4 z5 z6,.slice z7 z8 z9,.slice D0 D1 D2,.slice D3 D4 D5,I D6,I D7],I D8]/\(∃(n2:List Value)(n3:Nat),B<=j.block/\j.spot=none/\x1.heap[j.block]? =some (.cells n2.toArray n3 (0,0))/\j.off+14<=n2.length/\hasType n3 []=false/\∀D9,aL x1 D9 j.block n3 (setCells n2 j.off [.slice x2 x3 x4,.slice x5 x6 x7,.slice x8 x9 y0,.slice y1 y2 y3,.slice y4 y5 y6,I y7,.slice y8 y9 z0,.slice z1 z2 z3,.slice z4 z5 z6,.slice z7 z8 z9,.slice D0 D1 D2,.slice D3 D4 D5,I D6,I D7])->(an.J6 A a b C c d g j D8 D e f q p B D9 R)))))))/\(∀n4,Ext B [] m n4->(ae P (Instr.alloc 49 true (.tuple #[])) n4.heap.size [] n4 fun S4 S5=>∃(l:Addr),S4= .pointer (some l)/\(Pure P 18 #[.agg #[.slice K L M,.slice N O Q,.slice S T U,.slice V X Y,.slice Z d0 d1,I d2,.slice d3 d4 d5,.slice d6 d7 d8,.slice d9 k F,.slice W e3 e4,.slice e5 e6 e7,.slice e8 e9 g0,I g1,I g2]] S5 fun S6 S7=>∃E0 E1 E2 E3 E4 E5 E6 E7 E8 E9 G0 G1 G2 G3 G4 G5 G6 G7 G8 G9 H0 H1 H2 H3 H4 H5 H6 H7 H8 H9 J0 J1 J2 J3 J4 J5,S6= .agg #[.slice E0 E1 E2,.slice E3 E4 E5,.slice E6 E7 E8,.slice E9 G0 G1,.slice G2 G3 G4,I G5,.slice G6 G7 G8,.slice G9 H0 H1,.slice H2 H3 H4,.slice H5 H6 H7,.slice H8 H9 J0,.slice J1 J2 J3,I J4,I J5]/\(Pure P 27 #[.agg #[.slice E0 E1 E2,.slice E3 E4 E5,.slice E6 E7 E8,.slice E9 G0 G1,.slice G2 G3 G4,I G5,.slice G6 G7 G8,.slice G9 H0 H1,.slice H2 H3 H4,.slice H5 H6 H7,.slice H8 H9 J0,.slice J1 J2 J3,I J4,I J5],.agg #[I n,I o,I r,.slice s t u,.slice v x y,.slice z E G]] S7 fun S8 J6=>∃J7 J8 J9 K0 K1 K2 K3 K4 K5 K6 K7 K8 K9 N0 N1 N2 N3 N4 N5 N6 N7 N8 N9 O0 O1 O2 O3 O4 O5 O6 O7 O8 O9 Q0 Q1 Q2 Q3,S8= .tuple #[.agg #[.slice J7 J8 J9,.slice K0 K1 K2,.slice K3 K4 K5,.slice K6 K7 K8,.slice K9 N0 N1,I N2,.slice N3 N4 N5,.slice N6 N7 N8,.slice N9 O0 O1,.slice O2 O3 O4,.slice O5 O6 O7,.slice O8 O9 Q0,I Q1,I Q2],I Q3]/\(∃(n5:List Value)(n6:Nat),B<=l.block/\l.spot=none/\J6.heap[l.block]? =some (.cells n5.toArray n6 (0,0))/\l.off+14<=n5.length/\hasType n6 []=false/\∀Q4,aL J6 Q4 l.block n6 (setCells n5 l.off [.slice J7 J8 J9,.slice K0 K1 K2,.slice K3 K4 K5,.slice K6 K7 K8,.slice K9 N0 N1,I N2,.slice N3 N4 N5,.slice N6 N7 N8,.slice N9 O0 O1,.slice O2 O3 O4,.slice O5 O6 O7,.slice O8 O9 Q0,I Q1,I Q2])->(an.J6 A a b C c d g l Q3 D e f q p B Q4 R))))))))))))))) (R (.tuple #[.slice A a b,.slice C c d]) w))):
  an.L3 A a b C c d D e f q p B w R:=
 lr an.cx func9 h
theorem an.J6.step{j j8:Addr}
  (h:(Br (r=0) (∃l m n o s t u v x y z E G H J K L M N O Q S T U V X Y Z d0 d1 d2 d3 d4 d5 d6 d7,aa w j8 [.slice l m n,.slice o s t,.slice u v x,.slice y z E,.slice G H J,I K,.slice L M N,.slice O Q S,.slice T U V,.slice X Y Z,.slice d0 d1 d2,.slice d3 d4 d5,I d6,I d7]/\((∀g0,Ext B [] w g0->(ae P (Instr.buildSlice 25 1 #[(0,(.agg #[.slice l m n,.slice o s t,.slice u v x,.slice y z E,.slice G H J,I K,.slice L M N,.slice O Q S,.slice T U V,.slice X Y Z,.slice d0 d1 d2,.slice d3 d4 d5,I d6,I d7]))]) g0.heap.size [] g0 (Rs fun g1 g2 g3 i=>((ae P (Builtin.append_ #[25,25] 25 #[.slice A a b,.slice g1 g2 g3]) B [] i (Rs fun m7 m8 m9 g4=>(∃j9 l0 l1 l2 l3 l4 l5 l6 l7 l8 l9 m0,aa g4 j [I j9,I l0,I l1,.slice l2 l3 l4,.slice l5 l6 l7,.slice l8 l9 m0]/\(ae P (Instr.buildSlice 22 1 #[(0,(.agg #[I j9,I l0,I l1,.slice l2 l3 l4,.slice l5 l6 l7,.slice l8 l9 m0]))]) g4.heap.size [] g4 (Rs fun n0 n1 n2 n3=>(ae P (Builtin.append_ #[22,22] 22 #[.slice C c d,.slice n0 n1 n2]) B [] n3 (Rs fun n4 n5 n6 n7=>(aU .i64 (p+1)/\(an.L3 m7 m8 m9 n4 n5 n6 D e f q (p+1) B n7 R)))))))))/\(∃g5 g6 g7 g8 g9 j0 j1 j2 j3 j4 j5 j6,aa i j [I g5,I g6,I g7,.slice g8 g9 j0,.slice j1 j2 j3,.slice j4 j5 j6]/\((ae P (Builtin.append_ #[25,25] 25 #[.slice A a b,.slice g1 g2 g3]) B [] i (Rs fun n8 n9 o0 m1=>(ae P (Instr.buildSlice 22 1 #[(0,(.agg #[I g5,I g6,I g7,.slice g8 g9 j0,.slice j1 j2 j3,.slice j4 j5 j6]))]) m1.heap.size [] m1 (Rs fun o1 o2 o3 o4=>(ae P (Builtin.append_ #[22,22] 22 #[.slice C c d,.slice o1 o2 o3]) B [] o4 (Rs fun o5 o6 o7 o8=>(aU .i64 (p+1)/\(an.L3 n8 n9 o0 o5 o6 o7 D e f q (p+1) B o8 R))))))))/\(ae P (Instr.buildSlice 22 1 #[(0,(.agg #[I g5,I g6,I g7,.slice g8 g9 j0,.slice j1 j2 j3,.slice j4 j5 j6]))]) i.heap.size [] i (Rs fun o9 r0 r1 r2=>(ae P (Builtin.append_ #[25,25] 25 #[.slice A a b,.slice g1 g2 g3]) B [] r2 (Rs fun r3 r4 r5 r6=>(ae P (Builtin.append_ #[22,22] 22 #[.slice C c d,.slice o9 r0 r1]) B [] r6 (Rs fun r7 r8 r9 s0=>(aU .i64 (p+1)/\(an.L3 r3 r4 r5 r7 r8 r9 D e f q (p+1) B s0 R))))))))))))))/\(∀g,Ext B [] w g->(∃d8 d9 k F W e3 e4 e5 e6 e7 e8 e9,aa g j [I d8,I d9,I k,.slice F W e3,.slice e4 e5 e6,.slice e7 e8 e9]/\((ae P (Instr.buildSlice 25 1 #[(0,(.agg #[.slice l m n,.slice o s t,.slice u v x,.slice y z E,.slice G H J,I K,.slice L M N,.slice O Q S,.slice T U V,.slice X Y Z,.slice d0 d1 d2,.slice d3 d4 d5,I d6,I d7]))]) g.heap.size [] g (Rs fun m2 m3 m4 j7=>((ae P (Builtin.append_ #[25,25] 25 #[.slice A a b,.slice m2 m3 m4]) B [] j7 (Rs fun s1 s2 s3 m5=>(ae P (Instr.buildSlice 22 1 #[(0,(.agg #[I d8,I d9,I k,.slice F W e3,.slice e4 e5 e6,.slice e7 e8 e9]))]) m5.heap.size [] m5 (Rs fun s4 s5 s6 s7=>(ae P (Builtin.append_ #[22,22] 22 #[.slice C c d,.slice s4 s5 s6]) B [] s7 (Rs fun s8 s9 t0 t1=>(aU .i64 (p+1)/\(an.L3 s1 s2 s3 s8 s9 t0 D e f q (p+1) B t1 R))))))))/\(ae P (Instr.buildSlice 22 1 #[(0,(.agg #[I d8,I d9,I k,.slice F W e3,.slice e4 e5 e6,.slice e7 e8 e9]))]) j7.heap.size [] j7 (Rs fun t2 t3 t4 t5=>(ae P (Builtin.append_ #[25,25] 25 #[.slice A a b,.slice m2 m3 m4]) B [] t5 (Rs fun t6 t7 t8 t9=>(ae P (Builtin.append_ #[22,22] 22 #[.slice C c d,.slice t2 t3 t4]) B [] t9 (Rs fun v0 v1 v2 v3=>(aU .i64 (p+1)/\(an.L3 t6 t7 t8 v0 v1 v2 D e f q (p+1) B v3 R)))))))))))/\(ae P (Instr.buildSlice 22 1 #[(0,(.agg #[I d8,I d9,I k,.slice F W e3,.slice e4 e5 e6,.slice e7 e8 e9]))]) g.heap.size [] g (Rs fun v4 v5 v6 m6=>(ae P (Instr.buildSlice 25 1 #[(0,(.agg #[.slice l m n,.slice o s t,.slice u v x,.slice y z E,.slice G H J,I K,.slice L M N,.slice O Q S,.slice T U V,.slice X Y Z,.slice d0 d1 d2,.slice d3 d4 d5,I d6,I d7]))]) m6.heap.size [] m6 (Rs fun v7 v8 v9 x0=>(ae P (Builtin.append_ #[25,25] 25 #[.slice A a b,.slice v7 v8 v9]) B [] x0 (Rs fun x1 x2 x3 x4=>(ae P (Builtin.append_ #[22,22] 22 #[.slice C c d,.slice v4 v5 v6]) B [] x4 (Rs fun x5 x6 x7 x8=>(aU .i64 (p+1)/\(an.L3 x1 x2 x3 x5 x6 x7 D e f q (p+1) B x8 R))))))))))))))) (aU .i64 (p+1)/\(an.L3 A a b C c d D e f q (p+1) B w R)))):
  an.J6 A a b C c d j j8 r D e f q p B w R:=
 jr an.cx func9 h
theorem an.vc
  (h:(Pure P 37 #[] w fun X Y=>∃c d e f g i j l m n o p q r s t u v x y z C D E G H J K L M N O Q S T U,X= .agg #[.slice c d e,.slice f g i,.slice j l m,.slice n o p,.slice q r s,I t,.slice u v x,.slice y z C,.slice D E G,.slice H J K,.slice L M N,.slice O Q S,I T,I U]/\(ae P (Instr.buildSlice 25 1 #[(0,(.agg #[.slice c d e,.slice f g i,.slice j l m,.slice n o p,.slice q r s,I t,.slice u v x,.slice y z C,.slice D E G,.slice H J K,.slice L M N,.slice O Q S,I T,I U]))]) w.heap.size [] Y (Rs fun Z d0 d1 d2=>(ae P (Instr.buildSlice 22 0 #[]) w.heap.size [] d2 (Rs fun d3 d4 d5 d6=>(Pure P 25 #[.slice A a b] d6 (Rs fun d7 V d8 d9=>(an.L3 Z d0 d1 d3 d4 d5 d7 V d8 (V:Int) (0:Int) w.heap.size d9 R))))))))):
  Pure P 9 #[.slice A a b] w R:=
 pr an.cx func9 h

def eG.cx:Pm:=([],[(1,2,5),(4,9999,3)])
theorem eG.vc{e l m g:Addr}
  (h:(∀f,Ext w.heap.size [] w f->(∃n o r,aa f (e.add 10) [.slice n o r]/\(∀b:Nat,w.heap.size<=b->f.heap[b]? =some (.cells [I p,I q,.string L,.string M].toArray 66 (0,0))->(Pure P 21 #[.slice n o r,(.func (.func 22) #[] #[(.pointer (some (⟨b,0,none⟩:Addr)))])] f (Ri fun c a=>(Br (c<0) (∀s,Ext w.heap.size [] a s->(R (.bool false) s)) (∃t u Y,aa a (e.add 10) [.slice t u Y]/\(Ix c u t fun Z=>(∃v,aa a ((Z.add ((c).toNat*4)).add 1) [I v]/\(∃x,aa a l [I x]/\(Br (v≠x) (∀y,Ext w.heap.size [] a y->(R (.bool false) y)) (∃z,aa a ((⟨b,0,none⟩:Addr).add 2) [.string z]/\(∃A,aa a m [.string A]/\(Br (z≠A) (∀C,Ext w.heap.size [] a C->(R (.bool false) C)) (∃D,aa a ((⟨b,0,none⟩:Addr).add 1) [I D]/\(∃E,aa a (g.add 1) [I E]/\(Br (D>E) (∀G,Ext w.heap.size [] a G->(R (.bool false) G)) (∃H,aa a ((⟨b,0,none⟩:Addr).add 1) [I H]/\(∃i,aa a (g.add 1) [I i]/\(aU .i64 (i - (1000:Int))/\(Br (H<(i - (1000:Int))) (∀J,Ext w.heap.size [] a J->(R (.bool false) J)) (∀d,Ext w.heap.size [] a d->(∃K N d0,aa d (e.add 10) [.slice K N d0]/\(Ix c N K fun d1=>(∃O,aa d ((d1.add ((c).toNat*4)).add 3) [.string O]/\(∃Q S T U,aa d (⟨b,0,none⟩:Addr) [I Q,I S,.string T,.string U]/\(∀V,Ext w.heap.size [] d V->(Pure P 23 #[.string O,.agg #[I Q,I S,.string T,.string U]] V (rF fun d2 d3 j=>(Br (d3=0) (∃X,aa j ((⟨b,0,none⟩:Addr).add 3) [.string X]/\(R (.bool (decide (d2=X))) j)) (R (.bool false) j)))))))))))))))))))))))))))))))):
  Pure P 20 #[.agg #[I p,I q,.string L,.string M],(.pointer (some e)),(.pointer (some l)),(.pointer (some m)),(.pointer (some g))] w R:=
 pr eG.cx func20 h

def dU.cx:Pm:=([],[])
theorem dU.vc{b:Addr}
  (h:(∀a,Ext w.heap.size [] w a->(∃c,aa a (b.add 0) [I c]/\(R (.bool (decide (p=c))) a)))):
  Pure P 22 #[.agg #[I p,I q,.string L,.string M],(.pointer (some b))] w R:=
 pr dU.cx func22 h

def kX.cx:Pm:=([],[(1,0,2),(1,1,2),(1,2,2),(1,4,2),(1,5,2),(1,6,2),(1,8,2),(1,9,2),(1,10,2),(1,12,2),(1,13,2),(1,15,2),(1,16,2),(1,18,2),(1,20,2)])
theorem kX.vc
  (h:(ae P (Instr.buildSlice 28 3 #[(0,(I 1)),(1,(I 3)),(2,(I 1))]) w.heap.size [] w (Rs fun a b c d=>(ae P (Instr.buildSlice 29 3 #[(0,(.string ⟨#[50]⟩)),(1,(.string ⟨#[49]⟩)),(2,(.string ⟨#[53]⟩))]) w.heap.size [] d (Rs fun e f g i=>(ae P (Instr.buildSlice 30 1 #[(0,(.string ⟨#[97]⟩))]) w.heap.size [] i (Rs fun j l m n=>(ae P (Instr.buildSlice 28 1 #[(0,(I 1))]) w.heap.size [] n (Rs fun o p q r=>(ae P (Instr.buildSlice 29 5 #[(0,(.string ⟨#[57]⟩)),(1,(.string ⟨#[57]⟩)),(2,(.string ⟨#[49]⟩)),(3,(.string ⟨#[48]⟩)),(4,(.string ⟨#[48]⟩))]) w.heap.size [] r (Rs fun s t u v=>(ae P (Instr.buildSlice 30 1 #[(0,(.string ⟨#[65]⟩))]) w.heap.size [] v (Rs fun x y z A=>(ae P (Instr.buildSlice 28 3 #[(0,(I 1)),(1,(I 0)),(2,(I 0))]) w.heap.size [] A (Rs fun C D E G=>(ae P (Instr.buildSlice 29 1 #[(0,(.string ⟨#[49]⟩))]) w.heap.size [] G (Rs fun H J K L=>(ae P (Instr.buildSlice 30 3 #[(0,(.string ⟨#[109,111,115,116]⟩)),(1,(.string ⟨#[]⟩)),(2,(.string ⟨#[53]⟩))]) w.heap.size [] L (Rs fun M N O Q=>(ae P (Instr.buildSlice 28 2 #[(0,(I 1)),(1,(I 2))]) w.heap.size [] Q (Rs fun S T U V=>(ae P (Instr.buildSlice 30 2 #[(0,(.string ⟨#[65,110,110,97]⟩)),(1,(.string ⟨#[107]⟩))]) w.heap.size [] V (Rs fun X Y Z d0=>(ae P (Instr.buildSlice 28 2 #[(0,(I 2)),(1,(I 3))]) w.heap.size [] d0 (Rs fun d1 d2 d3 d4=>(ae P (Instr.buildSlice 30 2 #[(0,(.string ⟨#[66,111,98]⟩)),(1,(.string ⟨#[113]⟩))]) w.heap.size [] d4 (Rs fun d5 d6 d7 d8=>(ae P (Instr.buildSlice 28 3 #[(0,(I 1)),(1,(I 1)),(2,(I 2))]) w.heap.size [] d8 (Rs fun d9 k F W=>(ae P (Instr.buildSlice 22 6 #[(0,(.agg #[I 1,I 0,I 1,.slice a b c,.slice e f g,.slice j l m])),(1,(.agg #[I 2,I 0,I 2,.slice o p q,.slice s t u,.slice x y z])),(2,(.agg #[I 3,I 0,I 3,.slice C D E,.slice H J K,.slice M N O])),(3,(.agg #[I 4,I 0,I 6,.slice S T U,.slice none 0 0,.slice X Y Z])),(4,(.agg #[I 5,I 0,I 6,.slice d1 d2 d3,.slice none 0 0,.slice d5 d6 d7])),(5,(.agg #[I 6,I 3,I 7,.slice d9 k F,.slice none 0 0,.slice none 0 0]))]) w.heap.size [] W (Rs fun e3 e4 e5 e6=>(R (.slice e3 e4 e5) e6)))))))))))))))))))))))))))))))):
  Pure P 35 #[] w R:=
 pr kX.cx func35 h

end Go.Proofs.YtbcojgcjjpggnaaGreatDoor.F

namespace Go.Proofs.YtbcojgcjjpggnaaGreatDoor.B
open Go Go.RowKit Go.Proofs Go.Proofs.YtbcojgcjjpggnaaGreatDoor.Vc

theorem aek:kV VE/\kV VF/\kV VG/\kV Tl/\kV Tm/\kV tn6:=
 ⟨⟨dc,dc,dc,dc,dc,dc⟩,⟨dc,dc,dc,dc,dc,dc⟩,⟨dc,dc,dc,dc,dc,dc⟩,⟨dc,dc,dc,dc,dc,dc⟩,⟨dc,dc,dc,dc,dc,dc⟩,⟨dc,dc,dc,dc,dc,dc⟩⟩
theorem CA(w:World):Pure Tryz.prog 35 #[] w fun v w'=>∃A c ys,v= .slice A 6 c/\iA w' w.heap.size A 6 c ys/\gk ys=ZR:=by
 refine F.kX.vc ?_;refine bc gQ [.int .i64 1,.int .i64 3,.int .i64 1] (by simp[Value.cells]) sm lf fun A1 c1 P o1 b1=> ?_
 have Q:Below w.heap.size w P:=b1;refine bc nm [.string ⟨#[50]⟩,.string ⟨#[49]⟩,.string ⟨#[53]⟩] (by simp[Value.cells]) sm Q.size fun A4 c4 R o4 b4=> ?_
 have S:Below w.heap.size w R:=kP Q b4;refine bc qa [.string ⟨#[97]⟩] (by simp[Value.cells]) sm S.size fun A7 c7 T o7 b7=> ?_
 have U:Below w.heap.size w T:=kP S b7;refine bc gQ [.int .i64 1] (by simp[Value.cells]) sm U.size fun g h V W yE=> ?_
 have X:Below w.heap.size w V:=kP U yE;refine bc nm [.string ⟨#[57]⟩,.string ⟨#[57]⟩,.string ⟨#[49]⟩,.string ⟨#[48]⟩,.string ⟨#[48]⟩] (by simp[Value.cells]) sm X.size fun i j Y Z uh=> ?_
 have rA:Below w.heap.size w Y:=kP X uh;refine bc qa [.string ⟨#[65]⟩] (by simp[Value.cells]) sm rA.size fun WQ WR Kv Mq F2=> ?_
 have xU:Below w.heap.size w Kv:=kP rA F2;refine bc gQ [.int .i64 1,.int .i64 0,.int .i64 0] (by simp[Value.cells]) sm xU.size fun k l Dk Zs xQ=> ?_
 have ox:Below w.heap.size w Dk:=kP xU xQ;refine bc nm [.string ⟨#[49]⟩] (by simp[Value.cells]) sm ox.size fun m n Ce Zh Ee=> ?_
 have kt:Below w.heap.size w Ce:=kP ox Ee;refine bc qa [.string ⟨#[109,111,115,116]⟩,.string ⟨#[]⟩,.string ⟨#[53]⟩] (by simp[Value.cells]) sm kt.size fun o q CP o25 Jq=> ?_
 have rm:Below w.heap.size w CP:=kP kt Jq;refine bc gQ [.int .i64 1,.int .i64 2] (by simp[Value.cells]) sm rm.size fun r c28 My o28 OR=> ?_
 have tA:Below w.heap.size w My:=kP rm OR;refine bc qa [.string ⟨#[65,110,110,97]⟩,.string ⟨#[107]⟩] (by simp[Value.cells]) sm tA.size fun x c31 ZE o31 OW=> ?_
 have Oe:Below w.heap.size w ZE:=kP tA OW;refine bc gQ [.int .i64 2,.int .i64 3] (by simp[Value.cells]) sm Oe.size fun z c34 b Wy JB=> ?_
 have tz:Below w.heap.size w b:=kP Oe JB;refine bc qa [.string ⟨#[66,111,98]⟩,.string ⟨#[113]⟩] (by simp[Value.cells]) sm tz.size fun B c37 d o37 ND=> ?_
 have py:Below w.heap.size w d:=kP tz ND;refine bc gQ [.int .i64 1,.int .i64 1,.int .i64 2] (by simp[Value.cells]) sm py.size fun C c40 e Ef Td=> ?_
 have Ae:Below w.heap.size w e:=kP py Td;refine bc sQ ((([⟨VE,⟨⟨A1,3,c1⟩,⟨A4,3,c4⟩,⟨A7,1,c7⟩⟩⟩,⟨VF,⟨⟨g,1,h⟩,⟨i,5,j⟩,⟨WQ,1,WR⟩⟩⟩,⟨VG,⟨⟨k,3,l⟩,⟨m,1,n⟩,⟨o,3,q⟩⟩⟩,⟨Tl,⟨⟨r,2,c28⟩,.nil,⟨x,2,c31⟩⟩⟩,⟨Tm,⟨⟨z,2,c34⟩,.nil,⟨B,2,c37⟩⟩⟩,⟨tn6,⟨⟨C,3,c40⟩,.nil,.nil⟩⟩]:List Em)).map Em.val) (by simp[Value.cells]) sm Ae.size fun A43 c43 a o43 YU=> ?_
 have D:Below e.heap.size e a:=YU;have E:Below d.heap.size d a:=kP Td D;have G:Below b.heap.size b a:=kP ND E;have H:Below ZE.heap.size ZE a:=kP JB G;have I:Below My.heap.size My a:=kP OW H;have J:Below CP.heap.size CP a:=kP OR I;have K:Below Ce.heap.size Ce a:=kP Jq J;have L:Below Dk.heap.size Dk a:=kP Ee K;have M:Below Kv.heap.size Kv a:=kP xQ L;have N:Below Y.heap.size Y a:=kP F2 M;have O:Below V.heap.size V a:=kP uh N;have e7:Below T.heap.size T a:=kP yE O;have e4:Below R.heap.size R a:=kP b7 e7;have e1:Below P.heap.size P a:=kP b4 e4;obtain⟨k1,k2,k3,k4,k5,k6⟩:=aek;refine⟨A43,c43,[⟨VE,⟨⟨A1,3,c1⟩,⟨A4,3,c4⟩,⟨A7,1,c7⟩⟩⟩,⟨VF,⟨⟨g,1,h⟩,⟨i,5,j⟩,⟨WQ,1,WR⟩⟩⟩,⟨VG,⟨⟨k,3,l⟩,⟨m,1,n⟩,⟨o,3,q⟩⟩⟩,⟨Tl,⟨⟨r,2,c28⟩,.nil,⟨x,2,c31⟩⟩⟩,⟨Tm,⟨⟨z,2,c34⟩,.nil,⟨B,2,c37⟩⟩⟩,⟨tn6,⟨⟨C,3,c40⟩,.nil,.nil⟩⟩],rfl,⟨o43.base Ae.size,?_,?_⟩,rfl⟩
 ·intro y hy;simp only[cc,fs,u1]at hy;rcases hy with rfl|rfl|rfl|rfl|rfl|rfl
  ·exact⟨(o1.below e1),((o4.below e4).base Q.size),((o7.below e7).base S.size)⟩
  ·exact⟨((W.below O).base U.size),((Z.below N).base X.size),((Mq.below M).base rA.size)⟩
  ·exact⟨((Zs.below L).base xU.size),((Zh.below K).base ox.size),((o25.below J).base kt.size)⟩
  ·exact⟨((o28.below I).base rm.size),aE.nil,((o31.below H).base tA.size)⟩
  ·exact⟨((Wy.below G).base Oe.size),aE.nil,((o37.below E).base tz.size)⟩
  ·exact⟨((Ef.below D).base py.size),aE.nil,aE.nil⟩
 ·intro y hy;simp only[cc,fs,u1]at hy;rcases hy with rfl|rfl|rfl|rfl|rfl|rfl
  ·exact⟨k1,by show aU .i64 1;simp only[aU];omega⟩
  ·exact⟨k2,by show aU .i64 2;simp only[aU];omega⟩
  ·exact⟨k3,by show aU .i64 3;simp only[aU];omega⟩
  ·exact⟨k4,by show aU .i64 6;simp only[aU];omega⟩
  ·exact⟨k5,by show aU .i64 6;simp only[aU];omega⟩
  ·exact⟨k6,by show aU .i64 7;simp only[aU];omega⟩
end Go.Proofs.YtbcojgcjjpggnaaGreatDoor.B

set_option maxRecDepth 100000
set_option maxHeartbeats 4000000
namespace Go.Proofs.YtbcojgcjjpggnaaGreatDoor.F
open Go Go.RowKit Go.Proofs Go.Proofs.YtbcojgcjjpggnaaGreatDoor.Vc
open Tryz
variable {A C D E G H J K A0 A1 A2 A3 A4 A5 A6 A7 A8 A9 C0 C1 C2 C3 C4 C5 C6 C7 C8 C9:O} {a b c d e f g i j l m n o a0 a1 a2 a3 a4 a5 a6 a7 a8 a9 b0 b1 b2 b3 b4 b5 b6 b7 b8 b9 c0 c1 c2 c3 c4 c5 c6 c7 c8 c9:Nat} {p q r s t u v x p0 p1 p2 p3 p4 p5 p6 p7 p8 p9 q0 q1 q2 q3 q4 q5 q6 q7 q8 q9:Int} {L M N N0 N1 N2 N3 N4 N5 N6 N7 N8 N9 T0 T1 T2 T3 T4 T5 T6 T7 T8 T9:ByteArray} {Q S:Bool} {B:Nat} {w:World} {R:Kt}
def bZ.L4(a:O)(b c:Nat)(d:O)(e f:Nat)(g:Int):=Lt 64 f64 4 [vS 0 a b c,vS 1 d e f,vI 5 g] []
def bZ.cx:Pm:=([((true,4),[0,1,5],[])],[])
theorem bZ.L4.step
  (h:(Br (p<(a:Int)) (Ix p a A fun o=>(∃e f g,aa w (o.add ((p).toNat*3)) [I e,I f,I g]/\(Ix p b C fun q=>(∃i j l,aa w (q.add ((p).toNat*3)) [I i,I j,I l]/\(Br (¬(e=i/\f=j/\g=l/\True)) (∀m,Ext B [] w m->(R (.bool false) m)) (aU .i64 (p+1)/\(∀n,Ext B [] w n->(bZ.L4 A a c C b d (p+1) B n R)))))))) (R (.bool true) w))):
  bZ.L4 A a c C b d p B w R:=
 lr bZ.cx func64 h
theorem bZ.vc
  (h:(Br ((a:Int)≠(b:Int)) (R (.bool false) w) (bZ.L4 A a c C b d (0:Int) w.heap.size w R))):
  Pure P 64 #[.slice A a c,.slice C b d] w R:=
 pr bZ.cx func64 h

end Go.Proofs.YtbcojgcjjpggnaaGreatDoor.F

set_option maxRecDepth 100000
set_option maxHeartbeats 4000000
namespace Go.Proofs.YtbcojgcjjpggnaaGreatDoor.F
open Go Go.RowKit Go.Proofs Go.Proofs.YtbcojgcjjpggnaaGreatDoor.Vc
open Tryz
variable {A C D E G H J K A0 A1 A2 A3 A4 A5 A6 A7 A8 A9 C0 C1 C2 C3 C4 C5 C6 C7 C8 C9:O} {a b c d e f g i j l m n o a0 a1 a2 a3 a4 a5 a6 a7 a8 a9 b0 b1 b2 b3 b4 b5 b6 b7 b8 b9 c0 c1 c2 c3 c4 c5 c6 c7 c8 c9:Nat} {p q r s t u v x p0 p1 p2 p3 p4 p5 p6 p7 p8 p9 q0 q1 q2 q3 q4 q5 q6 q7 q8 q9:Int} {L M N N0 N1 N2 N3 N4 N5 N6 N7 N8 N9 T0 T1 T2 T3 T4 T5 T6 T7 T8 T9:ByteArray} {Q S:Bool} {B:Nat} {w:World} {R:Kt}
def cj.L4(a:O)(b c:Nat)(d:O)(e f:Nat)(g:Int):=Lt 65 f65 4 [vS 0 a b c,vS 1 d e f,vI 5 g] []
def cj.cx:Pm:=([((true,4),[0,1,5],[])],[])
theorem cj.L4.step
  (h:(Br (p<(a:Int)) (Ix p a A fun r=>(∃e f g i,aa w (r.add ((p).toNat*4)) [I e,I f,I g,.string i]/\(Ix p b C fun s=>(∃j l m n,aa w (s.add ((p).toNat*4)) [I j,I l,I m,.string n]/\(Br (¬(e=j/\f=l/\g=m/\i=n/\True)) (∀o,Ext B [] w o->(R (.bool false) o)) (aU .i64 (p+1)/\(∀q,Ext B [] w q->(cj.L4 A a c C b d (p+1) B q R)))))))) (R (.bool true) w))):
  cj.L4 A a c C b d p B w R:=
 lr cj.cx func65 h
theorem cj.vc
  (h:(Br ((a:Int)≠(b:Int)) (R (.bool false) w) (cj.L4 A a c C b d (0:Int) w.heap.size w R))):
  Pure P 65 #[.slice A a c,.slice C b d] w R:=
 pr cj.cx func65 h

end Go.Proofs.YtbcojgcjjpggnaaGreatDoor.F

set_option maxRecDepth 100000
set_option maxHeartbeats 4000000
namespace Go.Proofs.YtbcojgcjjpggnaaGreatDoor.F
open Go Go.RowKit Go.Proofs Go.Proofs.YtbcojgcjjpggnaaGreatDoor.Vc
open Tryz
variable {A C D E G H J K A0 A1 A2 A3 A4 A5 A6 A7 A8 A9 C0 C1 C2 C3 C4 C5 C6 C7 C8 C9:O} {a b c d e f g i j l m n o a0 a1 a2 a3 a4 a5 a6 a7 a8 a9 b0 b1 b2 b3 b4 b5 b6 b7 b8 b9 c0 c1 c2 c3 c4 c5 c6 c7 c8 c9:Nat} {p q r s t u v x p0 p1 p2 p3 p4 p5 p6 p7 p8 p9 q0 q1 q2 q3 q4 q5 q6 q7 q8 q9:Int} {L M N N0 N1 N2 N3 N4 N5 N6 N7 N8 N9 T0 T1 T2 T3 T4 T5 T6 T7 T8 T9:ByteArray} {Q S:Bool} {B:Nat} {w:World} {R:Kt}
def ck.L4(a:O)(b c:Nat)(d:O)(e f:Nat)(g:Int):=Lt 66 f66 4 [vS 0 a b c,vS 1 d e f,vI 5 g] []
def ck.cx:Pm:=([((true,4),[0,1,5],[])],[])
theorem ck.L4.step
  (h:(Br (p<(a:Int)) (Ix p a A fun o=>(∃e f g,aa w (o.add ((p).toNat*3)) [I e,I f,I g]/\(Ix p b C fun q=>(∃i j l,aa w (q.add ((p).toNat*3)) [I i,I j,I l]/\(Br (¬(e=i/\f=j/\g=l/\True)) (∀m,Ext B [] w m->(R (.bool false) m)) (aU .i64 (p+1)/\(∀n,Ext B [] w n->(ck.L4 A a c C b d (p+1) B n R)))))))) (R (.bool true) w))):
  ck.L4 A a c C b d p B w R:=
 lr ck.cx func66 h
theorem ck.vc
  (h:(Br ((a:Int)≠(b:Int)) (R (.bool false) w) (ck.L4 A a c C b d (0:Int) w.heap.size w R))):
  Pure P 66 #[.slice A a c,.slice C b d] w R:=
 pr ck.cx func66 h

end Go.Proofs.YtbcojgcjjpggnaaGreatDoor.F

set_option maxRecDepth 100000
set_option maxHeartbeats 4000000
namespace Go.Proofs.YtbcojgcjjpggnaaGreatDoor.F
open Go Go.RowKit Go.Proofs Go.Proofs.YtbcojgcjjpggnaaGreatDoor.Vc
open Tryz
variable {A C D E G H J K A0 A1 A2 A3 A4 A5 A6 A7 A8 A9 C0 C1 C2 C3 C4 C5 C6 C7 C8 C9:O} {a b c d e f g i j l m n o a0 a1 a2 a3 a4 a5 a6 a7 a8 a9 b0 b1 b2 b3 b4 b5 b6 b7 b8 b9 c0 c1 c2 c3 c4 c5 c6 c7 c8 c9:Nat} {p q r s t u v x p0 p1 p2 p3 p4 p5 p6 p7 p8 p9 q0 q1 q2 q3 q4 q5 q6 q7 q8 q9:Int} {L M N N0 N1 N2 N3 N4 N5 N6 N7 N8 N9 T0 T1 T2 T3 T4 T5 T6 T7 T8 T9:ByteArray} {Q S:Bool} {B:Nat} {w:World} {R:Kt}
def cm.L4(a:O)(b c:Nat)(d:O)(e f:Nat)(g:Int):=Lt 67 f67 4 [vS 0 a b c,vS 1 d e f,vI 5 g] []
def cm.cx:Pm:=([((true,4),[0,1,5],[])],[])
theorem cm.L4.step
  (h:(Br (p<(a:Int)) (Ix p a A fun r=>(∃e f g i,aa w (r.add ((p).toNat*4)) [I e,I f,.string g,.string i]/\(Ix p b C fun s=>(∃j l m n,aa w (s.add ((p).toNat*4)) [I j,I l,.string m,.string n]/\(Br (¬(e=j/\f=l/\g=m/\i=n/\True)) (∀o,Ext B [] w o->(R (.bool false) o)) (aU .i64 (p+1)/\(∀q,Ext B [] w q->(cm.L4 A a c C b d (p+1) B q R)))))))) (R (.bool true) w))):
  cm.L4 A a c C b d p B w R:=
 lr cm.cx func67 h
theorem cm.vc
  (h:(Br ((a:Int)≠(b:Int)) (R (.bool false) w) (cm.L4 A a c C b d (0:Int) w.heap.size w R))):
  Pure P 67 #[.slice A a c,.slice C b d] w R:=
 pr cm.cx func67 h

end Go.Proofs.YtbcojgcjjpggnaaGreatDoor.F

namespace Go.Proofs.YtbcojgcjjpggnaaGreatDoor.B
open Go Go.RowKit Go.Proofs Go.Proofs.YtbcojgcjjpggnaaGreatDoor.Vc

theorem kC{w0:World}{n:Nat}{L:Int->World->Prop}(he:∀w,Below w0.heap.size w0 w->L (n:Int) w)(hs:∀(i:Nat)(w:World),i<n->Below w0.heap.size w0 w->(∀w',Below w0.heap.size w0 w'->L ((i:Int)+1) w')->L (i:Int) w):∀w,Below w0.heap.size w0 w->L 0 w:=by
 have key:∀(d i:Nat)(w:World),n - i=d->i<=n->Below w0.heap.size w0 w->L (i:Int) w:=by
  intro d;induction d with
  |zero=>
   intro i w a hi hw;have:i=n:=om;subst this;exact he w hw
  |succ d ih=>
   intro i w a hi hw;refine hs i w om hw fun w' b=> ?_
   rw[show(i:Int)+1=((i+1:Nat):Int) by omega];exact ih (i+1) w' om om b
 exact fun w hw=>key n 0 w rfl om hw
section
variable {w0:World} {A A1:Option Addr} {n n1 c c1:Nat}
theorem ZU{l:List Sw}(h:bR w0 A 3 (l.map Sw.row))(h1:bR w0 A1 3 (l.map Sw.row))(e:l.length=n)(B:l.length=n1)(hn:n<2147483648):Pure Tryz.prog 63 #[.slice A n c,.slice A1 n1 c1] w0 fun v _=>v= .bool true:=by
 obtain rfl:n=n1:=om;refine F.bU.vc ⟨fun q=>absurd rfl q,fun _=>kC (n:=n) (L:=fun i w=>F.bU.L4 A n c A1 n c1 i w0.heap.size w fun v _=>v= .bool true) (fun w _=>F.bU.L4.step ⟨fun q=>by omega,fun _=>rfl⟩) (fun i w hi hw d=> ?_) w0 (Below.refl _ _)⟩;obtain⟨hb,a,g,j,_⟩:=(h.below hw).at_ (row:=Sw.row) (fun _=>rfl) e (i:=i) om;obtain⟨b,m,o,r,_⟩:=(h1.below hw).at_ (row:=Sw.row) (fun _=>rfl) e (i:=i) om;exact F.bU.L4.step ⟨fun _=>⟨hb,a,g,_,_,_,j,b,m,o,_,_,_,r,fun q=>absurd ⟨rfl,rfl,rfl,trivial⟩ q,fun _=>⟨ir,fun y z=>d y (kE hw z)⟩⟩,fun q=>by omega⟩
theorem ZV{l:List Sw}(h:bR w0 A 3 (l.map Sw.row))(h1:bR w0 A1 3 (l.map Sw.row))(e:l.length=n)(B:l.length=n1)(hn:n<2147483648):Pure Tryz.prog 64 #[.slice A n c,.slice A1 n1 c1] w0 fun v _=>v= .bool true:=by
 obtain rfl:n=n1:=om;refine F.bZ.vc ⟨fun q=>absurd rfl q,fun _=>kC (n:=n) (L:=fun i w=>F.bZ.L4 A n c A1 n c1 i w0.heap.size w fun v _=>v= .bool true) (fun w _=>F.bZ.L4.step ⟨fun q=>by omega,fun _=>rfl⟩) (fun i w hi hw d=> ?_) w0 (Below.refl _ _)⟩;obtain⟨hb,a,g,j,_⟩:=(h.below hw).at_ (row:=Sw.row) (fun _=>rfl) e (i:=i) om;obtain⟨b,m,o,r,_⟩:=(h1.below hw).at_ (row:=Sw.row) (fun _=>rfl) e (i:=i) om;exact F.bZ.L4.step ⟨fun _=>⟨hb,a,g,_,_,_,j,b,m,o,_,_,_,r,fun q=>absurd ⟨rfl,rfl,rfl,trivial⟩ q,fun _=>⟨ir,fun y z=>d y (kE hw z)⟩⟩,fun q=>by omega⟩
theorem ZW{l:List Va}(h:bR w0 A 4 (l.map Va.row))(h1:bR w0 A1 4 (l.map Va.row))(e:l.length=n)(B:l.length=n1)(hn:n<2147483648):Pure Tryz.prog 65 #[.slice A n c,.slice A1 n1 c1] w0 fun v _=>v= .bool true:=by
 obtain rfl:n=n1:=om;refine F.cj.vc ⟨fun q=>absurd rfl q,fun _=>kC (n:=n) (L:=fun i w=>F.cj.L4 A n c A1 n c1 i w0.heap.size w fun v _=>v= .bool true) (fun w _=>F.cj.L4.step ⟨fun q=>by omega,fun _=>rfl⟩) (fun i w hi hw d=> ?_) w0 (Below.refl _ _)⟩;obtain⟨hb,a,g,j,_⟩:=(h.below hw).at_ (row:=Va.row) (fun _=>rfl) e (i:=i) om;obtain⟨b,m,o,r,_⟩:=(h1.below hw).at_ (row:=Va.row) (fun _=>rfl) e (i:=i) om;exact F.cj.L4.step ⟨fun _=>⟨hb,a,g,_,_,_,_,j,b,m,o,_,_,_,_,r,fun q=>absurd ⟨rfl,rfl,rfl,rfl,trivial⟩ q,fun _=>⟨ir,fun y z=>d y (kE hw z)⟩⟩,fun q=>by omega⟩
theorem ZX{l:List Lp}(h:bR w0 A 3 (l.map Lp.row))(h1:bR w0 A1 3 (l.map Lp.row))(e:l.length=n)(B:l.length=n1)(hn:n<2147483648):Pure Tryz.prog 66 #[.slice A n c,.slice A1 n1 c1] w0 fun v _=>v= .bool true:=by
 obtain rfl:n=n1:=om;refine F.ck.vc ⟨fun q=>absurd rfl q,fun _=>kC (n:=n) (L:=fun i w=>F.ck.L4 A n c A1 n c1 i w0.heap.size w fun v _=>v= .bool true) (fun w _=>F.ck.L4.step ⟨fun q=>by omega,fun _=>rfl⟩) (fun i w hi hw d=> ?_) w0 (Below.refl _ _)⟩;obtain⟨hb,a,g,j,_⟩:=(h.below hw).at_ (row:=Lp.row) (fun _=>rfl) e (i:=i) om;obtain⟨b,m,o,r,_⟩:=(h1.below hw).at_ (row:=Lp.row) (fun _=>rfl) e (i:=i) om;exact F.ck.L4.step ⟨fun _=>⟨hb,a,g,_,_,_,j,b,m,o,_,_,_,r,fun q=>absurd ⟨rfl,rfl,rfl,trivial⟩ q,fun _=>⟨ir,fun y z=>d y (kE hw z)⟩⟩,fun q=>by omega⟩
theorem ZY{l:List Ap}(h:bR w0 A 4 (l.map Ap.row))(h1:bR w0 A1 4 (l.map Ap.row))(e:l.length=n)(B:l.length=n1)(hn:n<2147483648):Pure Tryz.prog 67 #[.slice A n c,.slice A1 n1 c1] w0 fun v _=>v= .bool true:=by
 obtain rfl:n=n1:=om;refine F.cm.vc ⟨fun q=>absurd rfl q,fun _=>kC (n:=n) (L:=fun i w=>F.cm.L4 A n c A1 n c1 i w0.heap.size w fun v _=>v= .bool true) (fun w _=>F.cm.L4.step ⟨fun q=>by omega,fun _=>rfl⟩) (fun i w hi hw d=> ?_) w0 (Below.refl _ _)⟩;obtain⟨hb,a,g,j,_⟩:=(h.below hw).at_ (row:=Ap.row) (fun _=>rfl) e (i:=i) om;obtain⟨b,m,o,r,_⟩:=(h1.below hw).at_ (row:=Ap.row) (fun _=>rfl) e (i:=i) om;exact F.cm.L4.step ⟨fun _=>⟨hb,a,g,_,_,_,_,j,b,m,o,_,_,_,_,r,fun q=>absurd ⟨rfl,rfl,rfl,rfl,trivial⟩ q,fun _=>⟨ir,fun y z=>d y (kE hw z)⟩⟩,fun q=>by omega⟩
end
section
variable {w0:World} {k k1:Ca} {xs nQ:List Rm} {x:Cm}
theorem ZZ(h:ux w0 k xs x)(h1:ux w0 k1 nQ x)(lp:x.ps.length<=6)(lh:x.hs.length<=6)(lr:x.rs.length<=16):Pure Tryz.prog 62 #[.agg #[k.p.v,k.h.v,k.r.v],.agg #[k1.p.v,k1.h.v,k1.r.v]] w0 fun v _=>v= .bool true:=by
 have np:=h.np;have nh:=h.nh;have nr:=h.nr;have P:=h1.np;have Q:=h1.nh;have R:=h1.nr;have nx:xs.length=k.r.n:=by rw[<-nr,<-h.e,ec]
 have S:nQ.length=k1.r.n:=by rw[<-R,<-h1.e,ec]
 have er:∀i,(hi:i<xs.length)->(WA:i<nQ.length)->xs[i].r=nQ[i].r:=fun i hi WA=>by
  have e:dK xs=dK nQ:=h.e.trans h1.e.symm;have:=bx (fun l:List Ru=>l[i]?) e;simpa[dK,af hi,af WA]using this
 have tB:∀w,Below w0.heap.size w0 w->F.aj.tB 0 k.p.A k.p.n k.p.c k.h.A k.h.n k.h.c k.r.A k.r.n k.r.c k1.p.A k1.p.n k1.p.c k1.h.A k1.h.n k1.h.c k1.r.A k1.r.n k1.r.c w0.heap.size w fun v _=>v= .bool true:=
  kC (n:=k.r.n) (L:=fun i w=>F.aj.tB i k.p.A k.p.n k.p.c k.h.A k.h.n k.h.c k.r.A k.r.n k.r.c k1.p.A k1.p.n k1.p.c k1.h.A k1.h.n k1.h.c k1.r.A k1.r.n k1.r.c w0.heap.size w fun v _=>v= .bool true) (fun w _=>F.aj.tB.step ⟨fun q=>by omega,fun _=>rfl⟩) (fun i w hi hw E=>by
   have i1:i<xs.length:=om;have i2:i<nQ.length:=om;have e:=er i i1 i2;have y:=h.f _ (bw i1);have y1:=h1.f _ (bw i2);have sy:=y.s.len;have ly:=y.l;have G:=y1.l;have cells:=fun w' (z:Below w0.heap.size w0 w')=>(h.r.below z).at_ (row:=Rm.row) (fun _=>rfl) nx i1
   have Sc:=fun w' (z:Below w0.heap.size w0 w')=>(h1.r.below z).at_ (row:=Rm.row) (fun _=>rfl) S i2
   have Bo:∀w,Below w0.heap.size w0 w->F.aj.Bo i 0 k.p.A k.p.n k.p.c k.h.A k.h.n k.h.c k.r.A k.r.n k.r.c k1.p.A k1.p.n k1.p.c k1.h.A k1.h.n k1.h.c k1.r.A k1.r.n k1.r.c xs[i].r.name xs[i].r.kind xs[i].A xs[i].n xs[i].c xs[i].r.low xs[i].r.high xs[i].r.a xs[i].r.b nQ[i].r.name nQ[i].r.kind nQ[i].A nQ[i].n nQ[i].c nQ[i].r.low nQ[i].r.high nQ[i].r.a nQ[i].r.b w0.heap.size w fun v _=>v= .bool true:=
    kC (n:=xs[i].n) (L:=fun j w=>F.aj.Bo i j k.p.A k.p.n k.p.c k.h.A k.h.n k.h.c k.r.A k.r.n k.r.c k1.p.A k1.p.n k1.p.c k1.h.A k1.h.n k1.h.c k1.r.A k1.r.n k1.r.c xs[i].r.name xs[i].r.kind xs[i].A xs[i].n xs[i].c xs[i].r.low xs[i].r.high xs[i].r.a xs[i].r.b nQ[i].r.name nQ[i].r.kind nQ[i].A nQ[i].n nQ[i].c nQ[i].r.low nQ[i].r.high nQ[i].r.a nQ[i].r.b w0.heap.size w fun v _=>v= .bool true)
     (fun w hw=>F.aj.Bo.step ⟨fun q=>by omega,fun _=>⟨ir,E w hw⟩⟩) (fun j w hj hw nj=>by
      have T:j<xs[i].r.pD.length:=om;have j2:j<nQ[i].r.pD.length:=by rw[<-e];exact T
      have ej:xs[i].r.pD[j]=nQ[i].r.pD[j]:=by
       have:=bx (fun r:Ru=>r.pD[j]?) e;simpa[af T,af j2]using this
      obtain⟨hb,a,B,C,_⟩:=(y.f.below hw).at_ (row:=gq) (fun _=>rfl) ly T;obtain⟨d,g,m,D,_⟩:=(y1.f.below hw).at_ (row:=gq) (fun _=>rfl) G j2;exact F.aj.Bo.step ⟨fun _=>⟨hb,a,B,_,C,d,g,m,_,D,fun q=>absurd ej q,fun _=>⟨ir,fun H I=>nj H (kE hw I)⟩⟩,fun q=>by omega⟩)
   have fin:∀{tys:List Nat} (w w':World),Below w0.heap.size w0 w->Ext w0.heap.size tys w w'->F.aj.Bo i 0 k.p.A k.p.n k.p.c k.h.A k.h.n k.h.c k.r.A k.r.n k.r.c k1.p.A k1.p.n k1.p.c k1.h.A k1.h.n k1.h.c k1.r.A k1.r.n k1.r.c xs[i].r.name xs[i].r.kind xs[i].A xs[i].n xs[i].c xs[i].r.low xs[i].r.high xs[i].r.a xs[i].r.b nQ[i].r.name nQ[i].r.kind nQ[i].A nQ[i].n nQ[i].c nQ[i].r.low nQ[i].r.high nQ[i].r.a nQ[i].r.b w0.heap.size w' fun v _=>v= .bool true:=fun w w' hw x=>Bo w' (kE hw x)
   obtain⟨hb,a,B,C,_⟩:=cells w hw;refine F.aj.tB.step ⟨fun _=>⟨hb,a,B,_,_,_,_,_,_,_,_,_,C,?_⟩,fun q=>by omega⟩;have U:∀(w':World),Below w0.heap.size w0 w'->∃g,k1.r.A=some g/\aa w' (g.add ((i:Int).toNat*7)) (Rm.row nQ[i]):=fun w' z=>by
    obtain⟨_,g,m,D,_⟩:=Sc w' z;exact⟨g,m,D⟩
   obtain⟨d,g,m,_⟩:=Sc w hw;have c1:∀w',Below w0.heap.size w0 w'->aa w' (g.add ((i:Int).toNat*7)) (Rm.row nQ[i]):=fun w' z=>by
    obtain⟨a2,qO,Zc⟩:=U w' z;rw[m]at qO;cases qO;exact Zc
   have V:xs[i].r.name=nQ[i].r.name:=by rw[e]
   have W:xs[i].r.kind=nQ[i].r.kind:=by rw[e]
   have el:xs[i].r.low=nQ[i].r.low:=by rw[e]
   have X:xs[i].r.high=nQ[i].r.high:=by rw[e]
   have ea:xs[i].r.a=nQ[i].r.a:=by rw[e]
   have Y:xs[i].r.b=nQ[i].r.b:=by rw[e]
   have Z:xs[i].n=nQ[i].n:=by rw[<-ly,<-G,e]
   refine⟨⟨d,g,m,fun J K=>⟨_,_,_,_,_,_,_,_,_,c1 J (kE hw K),fun q=>absurd V q,fun _=>⟨fun q=>absurd W q,fun _=>⟨fun q=>absurd el q,fun _=>⟨fun q=>absurd X q,fun _=>⟨fun q=>absurd ea q,fun _=>⟨fun q=>absurd Y q,fun _=>⟨fun q=>absurd Z om,fun _ o M=>fin J o (kE hw K) M⟩⟩⟩⟩⟩⟩⟩,fun N O=>⟨_,_,_,_,_,_,_,_,_,c1 N (kE hw O),fun q=>absurd V q,fun _=>⟨fun q=>absurd W q,fun _=>⟨fun q=>absurd el q,fun _=>⟨fun q=>absurd X q,fun _=>⟨fun q=>absurd ea q,fun _=>⟨fun q=>absurd Y q,fun _=>⟨fun q=>absurd Z om,fun _ o M=>fin N o (kE hw O) M⟩⟩⟩⟩⟩⟩⟩⟩,d,g,m,fun J K=>⟨_,_,_,_,_,_,_,_,_,c1 J (kE hw K),fun q=>absurd V q,fun _=>⟨fun q=>absurd W q,fun _=>⟨fun q=>absurd el q,fun _=>⟨fun q=>absurd X q,fun _=>⟨fun q=>absurd ea q,fun _=>⟨fun q=>absurd Y q,fun _=>⟨fun q=>absurd Z om,fun _ o M=>fin J o (kE hw K) M⟩⟩⟩⟩⟩⟩⟩⟩)
 have L9:∀w,Below w0.heap.size w0 w->F.aj.L9 0 k.p.A k.p.n k.p.c k.h.A k.h.n k.h.c k.r.A k.r.n k.r.c k1.p.A k1.p.n k1.p.c k1.h.A k1.h.n k1.h.c k1.r.A k1.r.n k1.r.c w0.heap.size w fun v _=>v= .bool true:=
  kC (n:=k.h.n) (L:=fun i w=>F.aj.L9 i k.p.A k.p.n k.p.c k.h.A k.h.n k.h.c k.r.A k.r.n k.r.c k1.p.A k1.p.n k1.p.c k1.h.A k1.h.n k1.h.c k1.r.A k1.r.n k1.r.c w0.heap.size w fun v _=>v= .bool true) (fun w hw=>F.aj.L9.step ⟨fun q=>by omega,fun _=>tB w hw⟩) (fun i w hi hw E=>by
   obtain⟨hb,a,B,C,_⟩:=(h.h.below hw).at_ (row:=Ho.row) (fun _=>rfl) nh (i:=i) om;obtain⟨d,g,m,D,_⟩:=(h1.h.below hw).at_ (row:=Ho.row) (fun _=>rfl) Q (i:=i) om;exact F.aj.L9.step ⟨fun _=>⟨hb,a,B,_,_,_,_,_,_,_,C,d,g,m,_,_,_,_,_,_,_,D,fun q=>absurd ⟨rfl,rfl,rfl,rfl,rfl,rfl,rfl,trivial⟩ q,fun _=>⟨ir,fun H I=>E H (kE hw I)⟩⟩,fun q=>by omega⟩)
 have L4:∀w,Below w0.heap.size w0 w->F.aj.L4 0 k.p.A k.p.n k.p.c k.h.A k.h.n k.h.c k.r.A k.r.n k.r.c k1.p.A k1.p.n k1.p.c k1.h.A k1.h.n k1.h.c k1.r.A k1.r.n k1.r.c w0.heap.size w fun v _=>v= .bool true:=
  kC (n:=k.p.n) (L:=fun i w=>F.aj.L4 i k.p.A k.p.n k.p.c k.h.A k.h.n k.h.c k.r.A k.r.n k.r.c k1.p.A k1.p.n k1.p.c k1.h.A k1.h.n k1.h.c k1.r.A k1.r.n k1.r.c w0.heap.size w fun v _=>v= .bool true) (fun w hw=>F.aj.L4.step ⟨fun q=>by omega,fun _=>L9 w hw⟩) (fun i w hi hw E=>by
   obtain⟨hb,a,B,C,_⟩:=(h.p.below hw).at_ (row:=Pa.row) (fun _=>rfl) np (i:=i) om;obtain⟨d,g,m,D,_⟩:=(h1.p.below hw).at_ (row:=Pa.row) (fun _=>rfl) P (i:=i) om;exact F.aj.L4.step ⟨fun _=>⟨hb,a,B,_,_,_,_,_,_,_,C,d,g,m,_,_,_,_,_,_,_,D,fun q=>absurd ⟨rfl,rfl,rfl,rfl,rfl,rfl,rfl,trivial⟩ q,fun _=>⟨ir,fun H I=>E H (kE hw I)⟩⟩,fun q=>by omega⟩)
 exact F.aj.vc ⟨fun q=>by omega,fun _=>⟨fun q=>by omega,fun _=>⟨fun q=>by omega,fun _ w4 x4=>L4 w4 (k0 x4)⟩⟩⟩
theorem CB(h:ux w0 k xs x)(h1:ux w0 k1 nQ x)(ok:dz x):Pure Tryz.prog 28 #[k.val x,k1.val x] w0 fun v _=>v= .bool true:=by
 have lp:=ok.lp;have lh:=ok.lh;have lr:=ok.lr;have ls:=ok.ls;have lw:=ok.lw;have lc:=ok.lc;have lv:=ok.lv;have la:=ok.la;have ll:=ok.ll;have lg:=ok.lg;have lq:=ok.lq;have ns:=h.ns;have G:=h1.ns;have nw:=h.nw;have H:=h1.nw;have nc:=h.nc;have I:=h1.nc;have nv:=h.nv;have J:=h1.nv;have na:=h.na;have K:=h1.na;have nl:=h.nl;have U:=h1.nl;have ng:=h.ng;have M:=h1.ng;have nq:=h.nq;have N:=h1.nq;have tB:∀w,Below w0.heap.size w0 w->F.aB.tB 0 k.p.A k.p.n k.p.c k.h.A k.h.n k.h.c k.r.A k.r.n k.r.c k.s.A k.s.n k.s.c k.w.A k.w.n k.w.c x.bQ k.c.A k.c.n k.c.c k.v.A k.v.n k.v.c k.a.A k.a.n k.a.c k.l.A k.l.n k.l.c k.g.A k.g.n k.g.c k.q.A k.q.n k.q.c x.last x.tick k1.p.A k1.p.n k1.p.c k1.h.A k1.h.n k1.h.c k1.r.A k1.r.n k1.r.c k1.s.A k1.s.n k1.s.c k1.w.A k1.w.n k1.w.c x.bQ k1.c.A k1.c.n k1.c.c k1.v.A k1.v.n k1.v.c k1.a.A k1.a.n k1.a.c k1.l.A k1.l.n k1.l.c k1.g.A k1.g.n k1.g.c k1.q.A k1.q.n k1.q.c x.last x.tick w0.heap.size w fun v _=>v= .bool true:=
  kC (n:=k.g.n) (L:=fun i w=>F.aB.tB i k.p.A k.p.n k.p.c k.h.A k.h.n k.h.c k.r.A k.r.n k.r.c k.s.A k.s.n k.s.c k.w.A k.w.n k.w.c x.bQ k.c.A k.c.n k.c.c k.v.A k.v.n k.v.c k.a.A k.a.n k.a.c k.l.A k.l.n k.l.c k.g.A k.g.n k.g.c k.q.A k.q.n k.q.c x.last x.tick k1.p.A k1.p.n k1.p.c k1.h.A k1.h.n k1.h.c k1.r.A k1.r.n k1.r.c k1.s.A k1.s.n k1.s.c k1.w.A k1.w.n k1.w.c x.bQ k1.c.A k1.c.n k1.c.c k1.v.A k1.v.n k1.v.c k1.a.A k1.a.n k1.a.c k1.l.A k1.l.n k1.l.c k1.g.A k1.g.n k1.g.c k1.q.A k1.q.n k1.q.c x.last x.tick w0.heap.size w fun v _=>v= .bool true) (fun w hw=>F.aB.tB.step ⟨fun q=>by omega,fun _=> ?_⟩) (fun i w hi hw j=> ?_)
 rotate_left
 ·have hi:=h.au hw;have T:=h1.au hw;refine pm (ZZ hi T lp lh lr) ?_;rintro v V d rfl;refine⟨_,rfl,fun _=>pm (ZU ((hi.au d).s) ((T.au d).s) ns G om) ?_,fun q=>by cases q⟩;rintro v W O rfl;have P:=kP (kP hw d) O;refine⟨_,rfl,fun _=>pm (ZV ((h.au P).pl) ((h1.au P).pl) nw H om) ?_,fun q=>by cases q⟩;rintro v I2 X rfl;have Q:=kP P X;refine⟨_,rfl,fun _=>⟨fun _=>pm (ZW ((h.au Q).v) ((h1.au Q).v) nv J om) ?_,fun q=>absurd rfl q⟩,fun q=>by cases q⟩;rintro v Y R rfl;have e:=kP Q R;refine⟨_,rfl,fun _=>pm (ZX ((h.au e).l) ((h1.au e).l) nl U om) ?_,fun q=>by cases q⟩;rintro v Z S rfl;have m:=kP e S;refine⟨_,rfl,fun _=>pm (ZY ((h.au m).q) ((h1.au m).q) nq N om) ?_,fun q=>by cases q⟩;rintro v w72 b72 rfl;exact⟨_,rfl,fun _=>⟨fun _=>by rw[gu rfl],fun q=>absurd rfl q⟩,fun q=>by cases q⟩
 ·obtain⟨hb,a,o,y,_⟩:=(h.g.below hw).at_ (row:=Si.row) (fun _=>rfl) ng (i:=i) om;obtain⟨b,z,B,C,_⟩:=(h1.g.below hw).at_ (row:=Si.row) (fun _=>rfl) M (i:=i) om;exact F.aB.tB.step ⟨fun _=>⟨hb,a,o,_,_,_,_,y,b,z,B,_,_,_,_,C,fun q=>absurd ⟨rfl,rfl,rfl,rfl,trivial⟩ q,fun _=>⟨ir,fun D E=>j D (kE hw E)⟩⟩,fun q=>by omega⟩
 have L9:∀w,Below w0.heap.size w0 w->F.aB.L9 0 k.p.A k.p.n k.p.c k.h.A k.h.n k.h.c k.r.A k.r.n k.r.c k.s.A k.s.n k.s.c k.w.A k.w.n k.w.c x.bQ k.c.A k.c.n k.c.c k.v.A k.v.n k.v.c k.a.A k.a.n k.a.c k.l.A k.l.n k.l.c k.g.A k.g.n k.g.c k.q.A k.q.n k.q.c x.last x.tick k1.p.A k1.p.n k1.p.c k1.h.A k1.h.n k1.h.c k1.r.A k1.r.n k1.r.c k1.s.A k1.s.n k1.s.c k1.w.A k1.w.n k1.w.c x.bQ k1.c.A k1.c.n k1.c.c k1.v.A k1.v.n k1.v.c k1.a.A k1.a.n k1.a.c k1.l.A k1.l.n k1.l.c k1.g.A k1.g.n k1.g.c k1.q.A k1.q.n k1.q.c x.last x.tick w0.heap.size w fun v _=>v= .bool true:=
  kC (n:=k.a.n) (L:=fun i w=>F.aB.L9 i k.p.A k.p.n k.p.c k.h.A k.h.n k.h.c k.r.A k.r.n k.r.c k.s.A k.s.n k.s.c k.w.A k.w.n k.w.c x.bQ k.c.A k.c.n k.c.c k.v.A k.v.n k.v.c k.a.A k.a.n k.a.c k.l.A k.l.n k.l.c k.g.A k.g.n k.g.c k.q.A k.q.n k.q.c x.last x.tick k1.p.A k1.p.n k1.p.c k1.h.A k1.h.n k1.h.c k1.r.A k1.r.n k1.r.c k1.s.A k1.s.n k1.s.c k1.w.A k1.w.n k1.w.c x.bQ k1.c.A k1.c.n k1.c.c k1.v.A k1.v.n k1.v.c k1.a.A k1.a.n k1.a.c k1.l.A k1.l.n k1.l.c k1.g.A k1.g.n k1.g.c k1.q.A k1.q.n k1.q.c x.last x.tick w0.heap.size w fun v _=>v= .bool true) (fun w hw=>F.aB.L9.step ⟨fun q=>by omega,fun _=>tB w hw⟩) (fun i w hi hw j=>by
   obtain⟨hb,a,o,y,_⟩:=(h.a.below hw).at_ (row:=Al.row) (fun _=>rfl) na (i:=i) om;obtain⟨b,z,B,C,_⟩:=(h1.a.below hw).at_ (row:=Al.row) (fun _=>rfl) K (i:=i) om;exact F.aB.L9.step ⟨fun _=>⟨hb,a,o,_,_,_,_,_,_,_,_,y,b,z,B,_,_,_,_,_,_,_,_,C,fun q=>absurd ⟨rfl,rfl,rfl,rfl,rfl,rfl,rfl,rfl,trivial⟩ q,fun _=>⟨ir,fun D E=>j D (kE hw E)⟩⟩,fun q=>by omega⟩)
 have L4:∀w,Below w0.heap.size w0 w->F.aB.L4 0 k.p.A k.p.n k.p.c k.h.A k.h.n k.h.c k.r.A k.r.n k.r.c k.s.A k.s.n k.s.c k.w.A k.w.n k.w.c x.bQ k.c.A k.c.n k.c.c k.v.A k.v.n k.v.c k.a.A k.a.n k.a.c k.l.A k.l.n k.l.c k.g.A k.g.n k.g.c k.q.A k.q.n k.q.c x.last x.tick k1.p.A k1.p.n k1.p.c k1.h.A k1.h.n k1.h.c k1.r.A k1.r.n k1.r.c k1.s.A k1.s.n k1.s.c k1.w.A k1.w.n k1.w.c x.bQ k1.c.A k1.c.n k1.c.c k1.v.A k1.v.n k1.v.c k1.a.A k1.a.n k1.a.c k1.l.A k1.l.n k1.l.c k1.g.A k1.g.n k1.g.c k1.q.A k1.q.n k1.q.c x.last x.tick w0.heap.size w fun v _=>v= .bool true:=
  kC (n:=k.c.n) (L:=fun i w=>F.aB.L4 i k.p.A k.p.n k.p.c k.h.A k.h.n k.h.c k.r.A k.r.n k.r.c k.s.A k.s.n k.s.c k.w.A k.w.n k.w.c x.bQ k.c.A k.c.n k.c.c k.v.A k.v.n k.v.c k.a.A k.a.n k.a.c k.l.A k.l.n k.l.c k.g.A k.g.n k.g.c k.q.A k.q.n k.q.c x.last x.tick k1.p.A k1.p.n k1.p.c k1.h.A k1.h.n k1.h.c k1.r.A k1.r.n k1.r.c k1.s.A k1.s.n k1.s.c k1.w.A k1.w.n k1.w.c x.bQ k1.c.A k1.c.n k1.c.c k1.v.A k1.v.n k1.v.c k1.a.A k1.a.n k1.a.c k1.l.A k1.l.n k1.l.c k1.g.A k1.g.n k1.g.c k1.q.A k1.q.n k1.q.c x.last x.tick w0.heap.size w fun v _=>v= .bool true) (fun w hw=>F.aB.L4.step ⟨fun q=>by omega,fun _=>L9 w hw⟩) (fun i w hi hw j=>by
   obtain⟨hb,a,o,y,_⟩:=(h.c.below hw).at_ (row:=Ch.row) (fun _=>rfl) nc (i:=i) om;obtain⟨b,z,B,C,_⟩:=(h1.c.below hw).at_ (row:=Ch.row) (fun _=>rfl) I (i:=i) om;exact F.aB.L4.step ⟨fun _=>⟨hb,a,o,_,_,_,_,_,_,_,y,b,z,B,_,_,_,_,_,_,_,C,fun q=>absurd ⟨rfl,rfl,rfl,rfl,rfl,rfl,rfl,trivial⟩ q,fun _=>⟨ir,fun D E=>j D (kE hw E)⟩⟩,fun q=>by omega⟩)
 exact F.aB.vc ⟨fun q=>by omega,fun _=>⟨fun q=>by omega,fun _=>⟨fun q=>by omega,fun _ w4 x4=>L4 w4 (k0 x4)⟩⟩⟩
end
end Go.Proofs.YtbcojgcjjpggnaaGreatDoor.B

set_option maxRecDepth 100000
set_option maxHeartbeats 4000000
namespace Go.Proofs.YtbcojgcjjpggnaaGreatDoor.F
open Go Go.RowKit Go.Proofs Go.Proofs.YtbcojgcjjpggnaaGreatDoor.Vc
open Tryz
variable {A C D E G H J K A0 A1 A2 A3 A4 A5 A6 A7 A8 A9 C0 C1 C2 C3 C4 C5 C6 C7 C8 C9:O} {a b c d e f g i j l m n o a0 a1 a2 a3 a4 a5 a6 a7 a8 a9 b0 b1 b2 b3 b4 b5 b6 b7 b8 b9 c0 c1 c2 c3 c4 c5 c6 c7 c8 c9:Nat} {p q r s t u v x p0 p1 p2 p3 p4 p5 p6 p7 p8 p9 q0 q1 q2 q3 q4 q5 q6 q7 q8 q9:Int} {L M N N0 N1 N2 N3 N4 N5 N6 N7 N8 N9 T0 T1 T2 T3 T4 T5 T6 T7 T8 T9:ByteArray} {Q S:Bool} {B:Nat} {w:World} {R:Kt}
def bf.L4(a:ByteArray)(b:Int)(c:O)(d e:Nat)(f g i j l m n o:Int):=Lt 108 f108 4 [vT 0 a,vL 3,(4,.v (.int .u64 b)),vS 5 c d e] [⟨3,false,229,[(.int .u32 f),(.int .u32 g),(.int .u32 i),(.int .u32 j),(.int .u32 l),(.int .u32 m),(.int .u32 n),(.int .u32 o)]⟩]
def bf.L7(a:ByteArray)(b:Int)(c:O)(d e:Nat)(f g i j l m n o p:Int):=Lt 108 f108 7 [vT 0 a,vL 3,(4,.v (.int .u64 b)),vS 5 c d e,vI 6 f] [⟨3,false,229,[(.int .u32 g),(.int .u32 i),(.int .u32 j),(.int .u32 l),(.int .u32 m),(.int .u32 n),(.int .u32 o),(.int .u32 p)]⟩]
def bf.L11(a:ByteArray)(b c d e f g i j:Int):=Lt 108 f108 11 [vT 0 a,vL 3] [⟨3,false,229,[(.int .u32 b),(.int .u32 c),(.int .u32 d),(.int .u32 e),(.int .u32 f),(.int .u32 g),(.int .u32 i),(.int .u32 j)]⟩]
def bf.yn(a:O)(b c:Nat)(d e f g i j l m n:Int):=Lt 108 f108 16 [vS 7 a b c,(49,.v (.agg #[(.int .u32 d),(.int .u32 e),(.int .u32 f),(.int .u32 g),(.int .u32 i),(.int .u32 j),(.int .u32 l),(.int .u32 m)])),vI 50 n] []
def bf.cx:Pm:=([((true,4),[0,3,4,5],[3]),((true,7),[0,3,4,5,6],[3]),((true,11),[0,3],[3]),((true,16),[7,49,50],[])],[(3,0,2),(5,1,2),(5,2,2),(9,3,0),(9,4,1),(9,5,2),(9,6,2),(10,2,2),(17,0,2),(18,3,1),(18,6,1),(18,9,1),(18,11,1),(18,12,2),(18,13,2),(20,1,2)])
theorem bf.L4.step{k:ByteArray}{y F I T U V W X Y:Int}{Z:O}{z XW B:Nat}{w:World}{R:Kt}
  (h:(aU .i64 ((ByteArray.size k:Int)+(z:Int))/\((0<=((ByteArray.size k:Int)+(z:Int))/\0<(64:Int))/\(Br (((((ByteArray.size k:Int)+(z:Int)) % (64:Int)):Int)≠(56:Int)) (ae P (Instr.buildSlice 115 1 #[(0,(.int .u8 (0:Int)))]) B [229] w (Rs fun A5 n5 c5 w7=>(ae P (Builtin.append_ #[115,115] 115 #[(.slice Z z XW),(.slice A5 n5 c5)]) B [229] w7 (Rs fun A8 n8 c8 jS=>(bf.L4 k y A8 n8 c8 F I T U V W X Y B jS R))))) (bf.L7 k y Z z XW (56:Int) F I T U V W X Y B w R))))):
  bf.L4 k y Z z XW F I T U V W X Y B w R:=
 lr bf.cx Tryz.func108 h
theorem bf.L7.step
  (h:(Br (p≥(0:Int)) (qP .u64 p/\(ae P (Instr.buildSlice 115 1 #[(0,(.int .u8 (IntKind.wrap .u8 ((nA q p)))))]) B [229] w (Rs fun d e f g=>(ae P (Builtin.append_ #[115,115] 115 #[.slice A a b,.slice d e f]) B [229] g (Rs fun i j l m=>(aU .i64 (p - (8:Int))/\(bf.L7 L q i j l (p - (8:Int)) r s t u v x p0 p1 B m R))))))) (ae P (convert 115 9 (.slice A a b)) B [229] w (Rt fun c n=>(ByteArray.size L+ByteArray.size c<=9223372036854775807/\(bf.L11 (L++c) r s t u v x p0 p1 B n R)))))):
  bf.L7 L q A a b p r s t u v x p0 p1 B w R:=
 lr bf.cx func108 h
theorem bf.L11.step
  (h:(Br (L≠(⟨#[]⟩:ByteArray)) ((0<=(64:Int)/\(64:Int)<=(ByteArray.size L:Int))/\(∀a,Ext B [] w a->(Pure P 166 #[.agg #[.int .u32 p,.int .u32 q,.int .u32 r,.int .u32 s,.int .u32 t,.int .u32 u,.int .u32 v,.int .u32 x],(.string (ByteArray.extract L 0 ((64:Int)).toNat))] a fun m n=>∃b c d e f g i j,m= .agg #[.int .u32 b,.int .u32 c,.int .u32 d,.int .u32 e,.int .u32 f,.int .u32 g,.int .u32 i,.int .u32 j]/\((0<=(64:Int)/\(64:Int)<=(ByteArray.size L:Int))/\(∀l,Ext B [229] n l->(bf.L11 (ByteArray.extract L ((64:Int)).toNat (ByteArray.size L)) b c d e f g i j B l R)))))) (bf.yn none 0 0 p q r s t u v x (0:Int) B w R))):
  bf.L11 L p q r s t u v x B w R:=
 lr bf.cx func108 h
theorem bf.yn.step
  (h:(Br (p<8) (ae P (Instr.index 229 (.agg #[.int .u32 q,.int .u32 r,.int .u32 s,.int .u32 t,.int .u32 u,.int .u32 v,.int .u32 x,.int .u32 p0]) (I p)) B [] w fun d e=>∃c,d= .int .u32 c/\(qP .u32 (24:Int)/\(qP .u32 (16:Int)/\(qP .u32 (8:Int)/\(ae P (Instr.buildSlice 115 4 #[(0,(.int .u8 (IntKind.wrap .u8 ((nA c (24:Int)))))),(1,(.int .u8 (IntKind.wrap .u8 ((nA c (16:Int)))))),(2,(.int .u8 (IntKind.wrap .u8 ((nA c (8:Int)))))),(3,(.int .u8 (IntKind.wrap .u8 (c))))]) B [] e (Rs fun f g i j=>(ae P (Builtin.append_ #[115,115] 115 #[.slice A a b,.slice f g i]) B [] j (Rs fun l m n o=>(aU .i64 (p+1)/\(bf.yn l m n q r s t u v x p0 (p+1) B o R)))))))))) (ae P (convert 115 9 (.slice A a b)) B [] w (Rt fun y z=>(R (.string y) z))))):
  bf.yn A a b q r s t u v x p0 p B w R:=
 lr bf.cx func108 h
theorem bf.vc
  (h:(aU .u64 ((ByteArray.size L:Int))/\(aU .u64 (((ByteArray.size L:Int))*(8:Int))/\(∀a,Ext w.heap.size [] w a->(ae P (Instr.buildSlice 115 1 #[(0,(.int .u8 (128:Int)))]) w.heap.size [229] a (Rs fun b c d e=>(bf.L4 L (((ByteArray.size L:Int))*(8:Int)) b c d (1779033703:Int) (3144134277:Int) (1013904242:Int) (2773480762:Int) (1359893119:Int) (2600822924:Int) (528734635:Int) (1541459225:Int) w.heap.size e R))))))):
  Pure P 108 #[.string L] w R:=
 pr bf.cx func108 h

def aC.L4(a:ByteArray)(b:Addr)(c:Addr)(d:Addr)(e:Addr)(f:Int):=Lt 166 f166 4 [vT 1 a,(2,.v (.pointer (some b))),(4,.v (.pointer (some c))),(5,.v (.pointer (some d))),(6,.v (.pointer (some e))),vI 22 f] []
def aC.pL(a:Addr)(b:Addr)(c:Addr)(d:Addr)(e:Addr)(f:Int):=Lt 166 f166 13 [(2,.v (.pointer (some a))),(4,.v (.pointer (some b))),(5,.v (.pointer (some c))),(6,.v (.pointer (some d))),(10,.v (.pointer (some e))),vI 97 f] []
def aC.AA(a:Addr)(b:Addr)(c:Addr)(d:Int):=Lt 166 f166 21 [(2,.v (.pointer (some a))),(4,.v (.pointer (some b))),(10,.v (.pointer (some c))),vI 175 d] []
def aC.cx:Pm:=([((true,4),[1,2,4,5,6,22],[]),((true,13),[2,4,5,6,10,97],[]),((true,21),[2,4,10,175],[])],[(0,0,2),(0,1,2),(1,1,2),(2,0,2),(9,13,1),(9,22,1),(9,27,1),(9,9999,3),(11,1,2),(16,10,1),(16,19,1),(16,23,1),(16,27,1),(16,9999,3),(17,19,1),(18,2,1),(18,9,1),(23,6,1)])
theorem aC.L4.step{c d e a:Addr}
  (h:(Br (p<64) (Br (p<16) (aU .i64 ((4:Int)*p)/\((0<=((4:Int)*p)/\((4:Int)*p)<(ByteArray.size L:Int))/\(aU .u32 ((bt L ((4:Int)*p)))/\(qP .u32 (24:Int)/\(aU .i64 ((4:Int)*p)/\(aU .i64 (((4:Int)*p)+1)/\((0<=(((4:Int)*p)+1)/\(((4:Int)*p)+1)<(ByteArray.size L:Int))/\(aU .u32 ((bt L (((4:Int)*p)+1)))/\(qP .u32 (16:Int)/\(aU .i64 ((4:Int)*p)/\(aU .i64 (((4:Int)*p)+2)/\((0<=(((4:Int)*p)+2)/\(((4:Int)*p)+2)<(ByteArray.size L:Int))/\(aU .u32 ((bt L (((4:Int)*p)+2)))/\(qP .u32 (8:Int)/\(aU .i64 ((4:Int)*p)/\(aU .i64 (((4:Int)*p)+3)/\((0<=(((4:Int)*p)+3)/\(((4:Int)*p)+3)<(ByteArray.size L:Int))/\(aU .u32 ((bt L (((4:Int)*p)+3)))/\((0<=p/\p<64)/\(∀j,Ext B [] w j->(∃(l:List Value)(m:Nat),B<=(a.add ((p).toNat*1)).block/\(a.add ((p).toNat*1)).spot=none/\j.heap[(a.add ((p).toNat*1)).block]? =some (.cells l.toArray m (0,0))/\(a.add ((p).toNat*1)).off+1<=l.length/\hasType m []=false/\∀s,aL j s (a.add ((p).toNat*1)).block m (setCells l (a.add ((p).toNat*1)).off [(.int .u32 (bits .or .u32 (bits .or .u32 (bits .or .u32 (we .u32 ((bt L ((4:Int)*p))) (24:Int)) (we .u32 ((bt L (((4:Int)*p)+1))) (16:Int))) (we .u32 ((bt L (((4:Int)*p)+2))) (8:Int))) ((bt L (((4:Int)*p)+3)))))])->(aU .i64 (p+1)/\(aC.L4 L c d e a (p+1) B s R))))))))))))))))))))))) (aU .i64 (p - (15:Int))/\((0<=(p - (15:Int))/\(p - (15:Int))<64)/\(∃f,aa w (a.add (((p - (15:Int))).toNat*1)) [.int .u32 f]/\(aU .i64 (p - (2:Int))/\((0<=(p - (2:Int))/\(p - (2:Int))<64)/\(∃g,aa w (a.add (((p - (2:Int))).toNat*1)) [.int .u32 g]/\(∀i,Ext B [] w i->(qP .u32 (10:Int)/\(aU .i64 (p - (7:Int))/\((0<=(p - (7:Int))/\(p - (7:Int))<64)/\(∃t,aa i (a.add (((p - (7:Int))).toNat*1)) [.int .u32 t]/\(qP .u32 (3:Int)/\(aU .i64 (p - (16:Int))/\((0<=(p - (16:Int))/\(p - (16:Int))<64)/\(∃u,aa i (a.add (((p - (16:Int))).toNat*1)) [.int .u32 u]/\(∀v,Ext B [] i v->(Pure P 203 #[.int .u32 g,I 17] v fun T U=>∃x,T= .int .u32 x/\(Pure P 203 #[.int .u32 g,I 19] U fun V X=>∃y,V= .int .u32 y/\(Pure P 203 #[.int .u32 f,I 7] X fun Y Z=>∃z,Y= .int .u32 z/\(Pure P 203 #[.int .u32 f,I 18] Z fun d0 A=>∃C,d0= .int .u32 C/\((0<=p/\p<64)/\(∃(n:List Value)(o:Nat),B<=(a.add ((p).toNat*1)).block/\(a.add ((p).toNat*1)).spot=none/\A.heap[(a.add ((p).toNat*1)).block]? =some (.cells n.toArray o (0,0))/\(a.add ((p).toNat*1)).off+1<=n.length/\hasType o []=false/\∀D,aL A D (a.add ((p).toNat*1)).block o (setCells n (a.add ((p).toNat*1)).off [(.int .u32 (IntKind.wrap .u32 ((IntKind.wrap .u32 ((IntKind.wrap .u32 ((bits .xor .u32 (bits .xor .u32 x y) (nA g (10:Int)))+t))+(bits .xor .u32 (bits .xor .u32 z C) (nA f (3:Int)))))+u)))])->(aU .i64 (p+1)/\(aC.L4 L c d e a (p+1) B D R))))))))))))))))))))))))) (∃E G H J K M N O,aa w c [.int .u32 E,.int .u32 G,.int .u32 H,.int .u32 J,.int .u32 K,.int .u32 M,.int .u32 N,.int .u32 O]/\(ae P (Instr.alloc 229 true (.tuple #[])) B [] w fun d1 Q=>∃(b:Addr),d1= .pointer (some b)/\(∃(q:List Value)(r:Nat),B<=b.block/\b.spot=none/\Q.heap[b.block]? =some (.cells q.toArray r (0,0))/\b.off+8<=q.length/\hasType r []=false/\∀S,aL Q S b.block r (setCells q b.off [.int .u32 E,.int .u32 G,.int .u32 H,.int .u32 J,.int .u32 K,.int .u32 M,.int .u32 N,.int .u32 O])->(aC.pL c d e a b (0:Int) B S R)))))):
  aC.L4 L c d e a p B w R:=
 lr aC.cx func166 h
theorem aC.pL.step{j l m n a:Addr}
  (h:(Br (p<64) ((0<=(0:Int)/\(0:Int)<8)/\(∃c,aa w (a.add (((0:Int)).toNat*1)) [.int .u32 c]/\((0<=(1:Int)/\(1:Int)<8)/\(∃e,aa w (a.add (((1:Int)).toNat*1)) [.int .u32 e]/\((0<=(2:Int)/\(2:Int)<8)/\(∃f,aa w (a.add (((2:Int)).toNat*1)) [.int .u32 f]/\((0<=(4:Int)/\(4:Int)<8)/\(∃b,aa w (a.add (((4:Int)).toNat*1)) [.int .u32 b]/\((0<=(5:Int)/\(5:Int)<8)/\(∃g,aa w (a.add (((5:Int)).toNat*1)) [.int .u32 g]/\((0<=(6:Int)/\(6:Int)<8)/\(∃i,aa w (a.add (((6:Int)).toNat*1)) [.int .u32 i]/\(∀d,Ext B [] w d->((0<=(7:Int)/\(7:Int)<8)/\(∃o,aa d (a.add (((7:Int)).toNat*1)) [.int .u32 o]/\((0<=p/\p<64)/\(∃q,aa d (m.add ((p).toNat*1)) [.int .u32 q]/\((0<=p/\p<64)/\(∃r,aa d (n.add ((p).toNat*1)) [.int .u32 r]/\(∀z,Ext B [] d z->(Pure P 203 #[.int .u32 b,I 6] z fun H J=>∃s,H= .int .u32 s/\(Pure P 203 #[.int .u32 b,I 11] J fun K L=>∃t,K= .int .u32 t/\(Pure P 203 #[.int .u32 b,I 25] L fun M N=>∃u,M= .int .u32 u/\(Pure P 203 #[.int .u32 c,I 2] N fun O Q=>∃A,O= .int .u32 A/\(Pure P 203 #[.int .u32 c,I 13] Q fun S T=>∃C,S= .int .u32 C/\(Pure P 203 #[.int .u32 c,I 22] T fun U v=>∃D,U= .int .u32 D/\((0<=(3:Int)/\(3:Int)<8)/\(∃E,aa v (a.add (((3:Int)).toNat*1)) [.int .u32 E]/\(∃(x:List Value)(y:Nat),B<=a.block/\a.spot=none/\v.heap[a.block]? =some (.cells x.toArray y (0,0))/\a.off+8<=x.length/\hasType y []=false/\∀G,aL v G a.block y (setCells x a.off [(.int .u32 (IntKind.wrap .u32 ((IntKind.wrap .u32 ((IntKind.wrap .u32 ((IntKind.wrap .u32 ((IntKind.wrap .u32 (o+(bits .xor .u32 (bits .xor .u32 s t) u)))+(bits .xor .u32 (bits .and .u32 b g) (bits .and .u32 (bits .xor .u32 (4294967295:Int) b) i))))+q))+r))+(IntKind.wrap .u32 ((bits .xor .u32 (bits .xor .u32 A C) D)+(bits .xor .u32 (bits .xor .u32 (bits .and .u32 c e) (bits .and .u32 c f)) (bits .and .u32 e f))))))),.int .u32 c,.int .u32 e,.int .u32 f,(.int .u32 (IntKind.wrap .u32 (E+(IntKind.wrap .u32 ((IntKind.wrap .u32 ((IntKind.wrap .u32 ((IntKind.wrap .u32 (o+(bits .xor .u32 (bits .xor .u32 s t) u)))+(bits .xor .u32 (bits .and .u32 b g) (bits .and .u32 (bits .xor .u32 (4294967295:Int) b) i))))+q))+r))))),.int .u32 b,.int .u32 g,.int .u32 i])->(aU .i64 (p+1)/\(aC.pL j l m n a (p+1) B G R))))))))))))))))))))))))))))))) (aC.AA j l a (0:Int) B w R))):
  aC.pL j l m n a p B w R:=
 lr aC.cx func166 h
theorem aC.AA.step{c b a:Addr}
  (h:(Br (p<8) ((0<=p/\p<8)/\(∃l,aa w (a.add ((p).toNat*1)) [.int .u32 l]/\((0<=p/\p<8)/\(∃m,aa w (c.add ((p).toNat*1)) [.int .u32 m]/\((0<=p/\p<8)/\(∀d,Ext B [] w d->(∃(e:List Value)(f:Nat),B<=(a.add ((p).toNat*1)).block/\(a.add ((p).toNat*1)).spot=none/\d.heap[(a.add ((p).toNat*1)).block]? =some (.cells e.toArray f (0,0))/\(a.add ((p).toNat*1)).off+1<=e.length/\hasType f []=false/\∀n,aL d n (a.add ((p).toNat*1)).block f (setCells e (a.add ((p).toNat*1)).off [(.int .u32 (IntKind.wrap .u32 (l+m)))])->(aU .i64 (p+1)/\(aC.AA c b a (p+1) B n R))))))))) (∃o q r s t u v x,aa w a [.int .u32 o,.int .u32 q,.int .u32 r,.int .u32 s,.int .u32 t,.int .u32 u,.int .u32 v,.int .u32 x]/\(∃(g:List Value)(i:Nat),B<=b.block/\b.spot=none/\w.heap[b.block]? =some (.cells g.toArray i (0,0))/\b.off+8<=g.length/\hasType i []=false/\∀j,aL w j b.block i (setCells g b.off [.int .u32 o,.int .u32 q,.int .u32 r,.int .u32 s,.int .u32 t,.int .u32 u,.int .u32 v,.int .u32 x])->(∃y z A C D E G H,aa j b [.int .u32 y,.int .u32 z,.int .u32 A,.int .u32 C,.int .u32 D,.int .u32 E,.int .u32 G,.int .u32 H]/\(R (.agg #[.int .u32 y,.int .u32 z,.int .u32 A,.int .u32 C,.int .u32 D,.int .u32 E,.int .u32 G,.int .u32 H]) j)))))):
  aC.AA c b a p B w R:=
 lr aC.cx func166 h
theorem aC.vc
  (h:(ae P (Instr.box 229 (.agg #[.int .u32 p,.int .u32 q,.int .u32 r,.int .u32 s,.int .u32 t,.int .u32 u,.int .u32 v,.int .u32 x])) w.heap.size [] w fun j l=>∃(d:Addr),j= .pointer (some d)/\(ae P (Instr.alloc 229 true (.tuple #[])) w.heap.size [] l fun m n=>∃(e:Addr),m= .pointer (some e)/\(ae P (Instr.alloc 267 true (.tuple #[])) w.heap.size [] n fun o f=>∃(a:Addr),o= .pointer (some a)/\(∃(b:List Value)(c:Nat),w.heap.size<=a.block/\a.spot=none/\f.heap[a.block]? =some (.cells b.toArray c (0,0))/\a.off+64<=b.length/\hasType c []=false/\∀g,aL f g a.block c (setCells b a.off [(.int .u32 (1116352408:Int)),(.int .u32 (1899447441:Int)),(.int .u32 (3049323471:Int)),(.int .u32 (3921009573:Int)),(.int .u32 (961987163:Int)),(.int .u32 (1508970993:Int)),(.int .u32 (2453635748:Int)),(.int .u32 (2870763221:Int)),(.int .u32 (3624381080:Int)),(.int .u32 (310598401:Int)),(.int .u32 (607225278:Int)),(.int .u32 (1426881987:Int)),(.int .u32 (1925078388:Int)),(.int .u32 (2162078206:Int)),(.int .u32 (2614888103:Int)),(.int .u32 (3248222580:Int)),(.int .u32 (3835390401:Int)),(.int .u32 (4022224774:Int)),(.int .u32 (264347078:Int)),(.int .u32 (604807628:Int)),(.int .u32 (770255983:Int)),(.int .u32 (1249150122:Int)),(.int .u32 (1555081692:Int)),(.int .u32 (1996064986:Int)),(.int .u32 (2554220882:Int)),(.int .u32 (2821834349:Int)),(.int .u32 (2952996808:Int)),(.int .u32 (3210313671:Int)),(.int .u32 (3336571891:Int)),(.int .u32 (3584528711:Int)),(.int .u32 (113926993:Int)),(.int .u32 (338241895:Int)),(.int .u32 (666307205:Int)),(.int .u32 (773529912:Int)),(.int .u32 (1294757372:Int)),(.int .u32 (1396182291:Int)),(.int .u32 (1695183700:Int)),(.int .u32 (1986661051:Int)),(.int .u32 (2177026350:Int)),(.int .u32 (2456956037:Int)),(.int .u32 (2730485921:Int)),(.int .u32 (2820302411:Int)),(.int .u32 (3259730800:Int)),(.int .u32 (3345764771:Int)),(.int .u32 (3516065817:Int)),(.int .u32 (3600352804:Int)),(.int .u32 (4094571909:Int)),(.int .u32 (275423344:Int)),(.int .u32 (430227734:Int)),(.int .u32 (506948616:Int)),(.int .u32 (659060556:Int)),(.int .u32 (883997877:Int)),(.int .u32 (958139571:Int)),(.int .u32 (1322822218:Int)),(.int .u32 (1537002063:Int)),(.int .u32 (1747873779:Int)),(.int .u32 (1955562222:Int)),(.int .u32 (2024104815:Int)),(.int .u32 (2227730452:Int)),(.int .u32 (2361852424:Int)),(.int .u32 (2428436474:Int)),(.int .u32 (2756734187:Int)),(.int .u32 (3204031479:Int)),(.int .u32 (3329325298:Int))])->(ae P (Instr.alloc 267 true (.tuple #[])) w.heap.size [] g fun y z=>∃(i:Addr),y= .pointer (some i)/\(aC.L4 L d e a i (0:Int) w.heap.size z R))))))):
  Pure P 166 #[.agg #[.int .u32 p,.int .u32 q,.int .u32 r,.int .u32 s,.int .u32 t,.int .u32 u,.int .u32 v,.int .u32 x],.string L] w R:=
 pr aC.cx func166 h

def wT.cx:Pm:=([],[])
theorem wT.vc
  (h:(aU .i64 (-p)/\(Pure P 246 #[.int .u32 q,(I (-p))] w fun b c=>∃a,b= .int .u32 a/\(R (.int .u32 a) c)))):
  Pure P 203 #[.int .u32 q,I p] w R:=
 pr wT.cx func203 h

end Go.Proofs.YtbcojgcjjpggnaaGreatDoor.F

namespace Go.Proofs.YtbcojgcjjpggnaaGreatDoor.B
open Go Go.RowKit Go.Proofs Go.Proofs.YtbcojgcjjpggnaaGreatDoor.Vc

def iter{α:Type}(f:Nat->α->α):Nat->Nat->α->α
 |0,_,a=>a
 |d+1,i,a=>iter f d (i+1) (f i a)
abbrev u3(z:Int):Value:= .int .u32 z
def Wd(w:World)(b ty:Nat)(l:List Int):Prop:=w.heap[b]? =some (.cells (l.map u3).toArray ty (0,0))
section
variable {w w':World} {B b ty:Nat} {l:List Int}
theorem Wd.below(h:Wd w b ty l)(hb:Below w.heap.size w w'):Wd w' b ty l:=ag h hb
theorem Wd.rest{c t:Nat}{cs:List Value}(h:Wd w b ty l)(hw:aL w w' c t cs)(a:b≠c):Wd w' b ty l:=(hw.rest b a).trans h
theorem Wd.at_(h:Wd w b ty l){i:Nat}(hi:i<l.length):aa w ((⟨b,0,none⟩:Addr).add (i*1)) [u3 (l.getD i 0)]:=by
 rw[CX];refine aZ h ?_;rw[kl,cb,af hi];rfl
theorem VJ{v:Int}{i:Nat}(hi:i<l.length):setCells (l.map u3) i [u3 v]=(l.set i v).map u3:=by
 simp only[setCells];rw[Cv]
theorem Wd.set(h:Wd w b ty l)(hB:B<=b){i:Nat}(hi:i<l.length)(v:Int){K:World->Prop}(a:∀w1,Wd w1 b ty (l.set i v)->aL w w1 b ty ((l.set i v).map u3)->K w1):
  ∃(cs:List Value)(t:Nat),B<=((⟨b,0,none⟩:Addr).add (i*1)).block/\((⟨b,0,none⟩:Addr).add (i*1)).spot=none/\w.heap[((⟨b,0,none⟩:Addr).add (i*1)).block]? =some (.cells cs.toArray t (0,0))/\((⟨b,0,none⟩:Addr).add (i*1)).off+1<=cs.length/\hasType t []=false/\
   ∀w1,aL w w1 ((⟨b,0,none⟩:Addr).add (i*1)).block t (setCells cs ((⟨b,0,none⟩:Addr).add (i*1)).off [u3 v])->K w1:=by
 rw[CX,bT];refine⟨l.map u3,ty,hB,rfl,h,by simp;omega,rfl,fun w1 hw=> ?_⟩;dsimp only at hw;rw[jx,VJ hi]at hw;exact a w1 hw.at_ hw
end
def CC(x n:Int):Int:=bits .or .u32 (we .u32 x (bits .and .u64 (IntKind.wrap .u64 (-n)) 31)) (nA x (32 - bits .and .u64 (IntKind.wrap .u64 (-n)) 31))
theorem qL{w:World}(x:Int){n:Int}(hn:n=17∨n=19∨n=7∨n=18∨n=6∨n=11∨n=25∨n=2∨n=13∨n=22):Pure Tryz.prog 203 #[.int .u32 x,.int .i64 n] w fun v _=>v= .int .u32 (CC x n):=by
 have h:0<=bits .and .u64 (IntKind.wrap .u64 (-n)) 31/\bits .and .u64 (IntKind.wrap .u64 (-n)) 31<=31:=by
  rcases hn with rfl|rfl|rfl|rfl|rfl|rfl|rfl|rfl|rfl|rfl<;>decide
 refine F.wT.vc ⟨ir,?_⟩;have e:qP .u32 (bits .and .u64 (IntKind.wrap .u64 (-n)) 31):=⟨h.1,by show _<=(32:Int);omega⟩;have a:qP .u32 (32 - bits .and .u64 (IntKind.wrap .u64 (-n)) 31):=⟨om,by show _<=(32:Int);omega⟩;exact F.lT.vc ⟨e,ir,a,_,rfl,rfl⟩
def kT:List Int:=[1116352408,1899447441,3049323471,3921009573,961987163,1508970993,2453635748,2870763221,3624381080,310598401,607225278,1426881987,1925078388,2162078206,2614888103,3248222580,3835390401,4022224774,264347078,604807628,770255983,1249150122,1555081692,1996064986,2554220882,2821834349,2952996808,3210313671,3336571891,3584528711,113926993,338241895,666307205,773529912,1294757372,1396182291,1695183700,1986661051,2177026350,2456956037,2730485921,2820302411,3259730800,3345764771,3516065817,3600352804,4094571909,275423344,430227734,506948616,659060556,883997877,958139571,1322822218,1537002063,1747873779,1955562222,2024104815,2227730452,2361852424,2428436474,2756734187,3204031479,3329325298]
def aen(p:ByteArray)(i:Nat):Int:=bits .or .u32 (bits .or .u32 (bits .or .u32 (we .u32 (bt p (4*(i:Int))) 24) (we .u32 (bt p (4*(i:Int)+1)) 16)) (we .u32 (bt p (4*(i:Int)+2)) 8)) (bt p (4*(i:Int)+3))
def aeo(W:List Int)(i:Nat):Int:=
 IntKind.wrap .u32 (IntKind.wrap .u32 (IntKind.wrap .u32 (bits .xor .u32 (bits .xor .u32 (CC (W.getD (i - 2) 0) 17) (CC (W.getD (i - 2) 0) 19)) (nA (W.getD (i - 2) 0) 10)+W.getD (i - 7) 0)+bits .xor .u32 (bits .xor .u32 (CC (W.getD (i - 15) 0) 7) (CC (W.getD (i - 15) 0) 18)) (nA (W.getD (i - 15) 0) 3))+W.getD (i - 16) 0)
def wU(p:ByteArray)(i:Nat)(W:List Int):List Int:=W.set i (if i<16 then aen p i else aeo W i)
def tF(W:List Int)(i:Nat)(e f g h:Int):Int:=
 IntKind.wrap .u32 (IntKind.wrap .u32 (IntKind.wrap .u32 (IntKind.wrap .u32 (h+bits .xor .u32 (bits .xor .u32 (CC e 6) (CC e 11)) (CC e 25))+bits .xor .u32 (bits .and .u32 e f) (bits .and .u32 (bits .xor .u32 4294967295 e) g))+kT.getD i 0)+W.getD i 0)
def uF(a b c:Int):Int:=IntKind.wrap .u32 (bits .xor .u32 (bits .xor .u32 (CC a 2) (CC a 13)) (CC a 22)+bits .xor .u32 (bits .xor .u32 (bits .and .u32 a b) (bits .and .u32 a c)) (bits .and .u32 b c))
def CD(W:List Int)(i:Nat)(v:List Int):List Int:=
 [IntKind.wrap .u32 (tF W i (v.getD 4 0) (v.getD 5 0) (v.getD 6 0) (v.getD 7 0)+uF (v.getD 0 0) (v.getD 1 0) (v.getD 2 0)),v.getD 0 0,v.getD 1 0,v.getD 2 0,IntKind.wrap .u32 (v.getD 3 0+tF W i (v.getD 4 0) (v.getD 5 0) (v.getD 6 0) (v.getD 7 0)),v.getD 4 0,v.getD 5 0,v.getD 6 0]
def Ox(s:List Int)(i:Nat)(v:List Int):List Int:=v.set i (IntKind.wrap .u32 (v.getD i 0+s.getD i 0))
def Se(p:ByteArray):List Int:=iter (wU p) 64 0 (List.replicate 64 0)
def yR(v:List Int)(p:ByteArray):List Int:=iter (Ox v) 8 0 (iter (CD (Se p)) 64 0 v)
theorem uY{α:Type}{f:Nat->α->α}{P:α->Prop}(h:∀i a,P a->P (f i a)):∀(d i:Nat)(a:α),P a->P (iter f d i a)
 |0,_,_,ha=>ha
 |d+1,i,a,ha=>uY h d (i+1) (f i a) (h i a ha)
theorem len8{l:List Int}(h:l.length=8):l=[l.getD 0 0,l.getD 1 0,l.getD 2 0,l.getD 3 0,l.getD 4 0,l.getD 5 0,l.getD 6 0,l.getD 7 0]:=by
 match l,h with
 |[a,b,c,d,e,f,g,h],_=>rfl
theorem Wd.aad{w:World}{b ty:Nat}{l:List Int}(h:Wd w b ty l)(hl:l.length=8):aa w (⟨b,0,none⟩:Addr) [u3 (l.getD 0 0),u3 (l.getD 1 0),u3 (l.getD 2 0),u3 (l.getD 3 0),u3 (l.getD 4 0),u3 (l.getD 5 0),u3 (l.getD 6 0),u3 (l.getD 7 0)]:=by
 have:=eE h;rw[len8 hl]at this;exact this
theorem Wd.aae{w:World}{B b ty:Nat}{l m:List Int}(h:Wd w b ty l)(hl:l.length=8)(hm:m.length=8)(hB:B<=b){K:World->Prop}(a:∀w1,Wd w1 b ty m->aL w w1 b ty (m.map u3)->K w1):
  ∃(cs:List Value)(t:Nat),B<=(⟨b,0,none⟩:Addr).block/\(⟨b,0,none⟩:Addr).spot=none/\w.heap[(⟨b,0,none⟩:Addr).block]? =some (.cells cs.toArray t (0,0))/\(⟨b,0,none⟩:Addr).off+8<=cs.length/\hasType t []=false/\
   ∀w1,aL w w1 (⟨b,0,none⟩:Addr).block t (setCells cs (⟨b,0,none⟩:Addr).off [u3 (m.getD 0 0),u3 (m.getD 1 0),u3 (m.getD 2 0),u3 (m.getD 3 0),u3 (m.getD 4 0),u3 (m.getD 5 0),u3 (m.getD 6 0),u3 (m.getD 7 0)])->K w1:=by
 refine⟨l.map u3,ty,hB,rfl,h,by simp[hl],rfl,fun w1 hw=> ?_⟩;have e:setCells (l.map u3) 0 [u3 (m.getD 0 0),u3 (m.getD 1 0),u3 (m.getD 2 0),u3 (m.getD 3 0),u3 (m.getD 4 0),u3 (m.getD 5 0),u3 (m.getD 6 0),u3 (m.getD 7 0)]=m.map u3:=by
  conv=>rhs;rw[len8 hm]
  rw[len8 hl];rfl
 dsimp only at hw;rw[e]at hw;exact a w1 hw.at_ hw
abbrev vm(l:List Int):Value:= .agg #[u3 (l.getD 0 0),u3 (l.getD 1 0),u3 (l.getD 2 0),u3 (l.getD 3 0),u3 (l.getD 4 0),u3 (l.getD 5 0),u3 (l.getD 6 0),u3 (l.getD 7 0)]
theorem VK{w0:World}{j g c:Nat}{s:List Int}(hs:s.length=8)(o:w0.heap.size<=g)(l10:w0.heap.size<=c)(n1:j≠c)(n2:g≠c):
  ∀(d i:Nat)(v:List Int)(w:World),8 - i=d->i<=8->Below w0.heap.size w0 w->v.length=8->Wd w j 229 s->Wd w g 229 (List.replicate 8 0)->Wd w c 229 v->
   F.aC.AA ⟨j,0,none⟩ ⟨g,0,none⟩ ⟨c,0,none⟩ i w0.heap.size w fun r _=>r=vm (iter (Ox s) d i v):=by
 intro d;induction d with
 |zero=>
  intro i v w x hi hw e k m h;exact F.aC.AA.step ⟨fun q=>by omega,fun _=>⟨_,_,_,_,_,_,_,_,h.aad e,m.aae sm e o fun w1 h1 _=>⟨_,_,_,_,_,_,_,_,h1.aad e,rfl⟩⟩⟩
 |succ d ih=>
  intro i v w x hi hw e k m h;refine F.aC.AA.step ⟨fun _=>⟨⟨om,om⟩,_,h.at_ (i:=i) om,⟨om,om⟩,_,k.at_ (i:=i) om,⟨om,om⟩,fun y a=> ?_⟩,fun q=>by omega⟩;have z:=kE hw a;refine(h.below (extAll a)).set (i:=i) l10 om _ fun w1 h1 n=>⟨ir,?_⟩
  rw[show(i:Int)+1=((i+1:Nat):Int) by omega];exact ih (i+1) _ w1 om om (z.trans (aL.dQ n l10)) (wA.trans e) ((k.below (extAll a)).rest n n1) ((m.below (extAll a)).rest n n2) h1
theorem VM{w0:World}{C A D E g:Nat}{s W:List Int}(hs:s.length=8)(hW:W.length=64)(Q:w0.heap.size<=A)(l10:w0.heap.size<=g)(n1:C≠g)(n2:A≠g)(n3:D≠g)(n4:E≠g):
  ∀(d i:Nat)(v:List Int)(w:World),64 - i=d->i<=64->Below w0.heap.size w0 w->v.length=8->Wd w C 229 s->Wd w A 229 (List.replicate 8 0)->Wd w D 267 kT->Wd w E 267 W->Wd w g 229 v->
   F.aC.pL ⟨C,0,none⟩ ⟨A,0,none⟩ ⟨D,0,none⟩ ⟨E,0,none⟩ ⟨g,0,none⟩ i w0.heap.size w fun r _=>r=vm (iter (Ox s) 8 0 (iter (CD W) d i v)):=by
 intro d;induction d with
 |zero=>
  intro i v w R hi hw G H I N O e;exact F.aC.pL.step ⟨fun q=>by omega,fun _=>VK hs Q l10 n1 n2 8 0 v w rfl om hw G H I e⟩
 |succ d ih=>
  intro i v w R hi hw G H I N O e;have c0:=e.at_ (i:=0) om;have c1:=e.at_ (i:=1) om;have c2:=e.at_ (i:=2) om;have c4:=e.at_ (i:=4) om;have c5:=e.at_ (i:=5) om;have S:=e.at_ (i:=6) om;refine F.aC.pL.step ⟨fun _=>⟨⟨om,om⟩,_,c0,⟨om,om⟩,_,c1,⟨om,om⟩,_,c2,⟨om,om⟩,_,c4,⟨om,om⟩,_,c5,⟨om,om⟩,_,S,fun J a=> ?_⟩,fun q=>by omega⟩;have K:=kE hw a;have g10:=e.below (extAll a);have g5:=N.below (extAll a);have g6:=O.below (extAll a);refine⟨⟨om,om⟩,_,g10.at_ (i:=7) om,⟨om,om⟩,_,g5.at_ (i:=i) (by show i<64;omega),⟨om,om⟩,_,g6.at_ (i:=i) om,fun T P=> ?_⟩;have L:=kE K P;refine pm (qL _ om) ?_;rintro r U j rfl;refine⟨_,rfl,pm (qL _ om) ?_⟩;rintro r V k rfl;refine⟨_,rfl,pm (qL _ om) ?_⟩;rintro r Tf n rfl;refine⟨_,rfl,pm (qL _ om) ?_⟩;rintro r X o rfl;refine⟨_,rfl,pm (qL _ om) ?_⟩;rintro r Y x rfl;refine⟨_,rfl,pm (qL _ om) ?_⟩;rintro r Z y rfl;have c:=fun {b ty:Nat} {l:List Int} (h:Wd J b ty l)=>(((((((h.below (extAll P)).below j).below k).below n).below o).below x).below y)
  have M:=kP (kP (kP (kP (kP (kP L j) k) n) o) x) y;refine⟨_,rfl,⟨om,om⟩,_,(c g10).at_ (i:=3) om,(c g10).aae (m:=CD W i v) G rfl l10 fun w1 h1 z=>⟨ir,?_⟩⟩;rw[show(i:Int)+1=((i+1:Nat):Int) by omega];exact ih (i+1) _ w1 om om (M.trans (aL.dQ z l10)) rfl ((c (H.below (extAll a))).rest z n1) ((c (I.below (extAll a))).rest z n2) ((c g5).rest z n3) ((c g6).rest z n4) h1
theorem aaf{w0:World}{y x A j:Nat}{p:ByteArray}{s:List Int}(hp:p.size=64)(hs:s.length=8)(l2:y<j)(U:w0.heap.size<=x)(J:w0.heap.size<=j)(n2:x<j)(n3:A<j):
  ∀(d i:Nat)(W:List Int)(w:World),64 - i=d->i<=64->Below w0.heap.size w0 w->W.length=64->Wd w y 229 s->Wd w x 229 (List.replicate 8 0)->Wd w A 267 kT->Wd w j 267 W->
   F.aC.L4 p ⟨y,0,none⟩ ⟨x,0,none⟩ ⟨A,0,none⟩ ⟨j,0,none⟩ i w0.heap.size w fun r _=>r=vm (iter (Ox s) 8 0 (iter (CD (iter (wU p) d i W)) 64 0 s)):=by
 have k:∀i:Int,0<=bt p i/\bt p i<=255:=fun i=>by
  have:=(p.data.toList.getD i.toNat 0).toNat_lt;unfold bt;omega
 intro d;induction d with
 |zero=>
  intro i W w V hi hw M C K L o;refine F.aC.L4.step ⟨fun q=>by omega,fun _=>⟨_,_,_,_,_,_,_,_,C.aad hs,cC (z:= .agg (List.replicate 8 (.int .u32 0)).toArray) _ kF hw.size fun X N D Y=> ?_⟩⟩;have Z:=kP hw D;have z49:Wd X w.heap.size 229 (List.replicate 8 0):=N;have lt6:j<w.heap.size:=(ax.1 o).1;refine z49.aae (m:=s) sm hs hw.size fun w1 h1 g=> ?_
  exact VM hs M U hw.size om om om om 64 0 s w1 rfl om (Z.trans (aL.dQ g hw.size)) hs ((C.below D).rest g om) ((K.below D).rest g om) ((L.below D).rest g om) ((o.below D).rest g om) h1
 |succ d ih=>
  intro i W w V hi hw M C K L o;have E:∀{w':World},Below w0.heap.size w0 w'->Wd w' y 229 s->Wd w' x 229 (List.replicate 8 0)->Wd w' A 267 kT->Wd w' j 267 (wU p i W)->
    F.aC.L4 p ⟨y,0,none⟩ ⟨x,0,none⟩ ⟨A,0,none⟩ ⟨j,0,none⟩ ((i:Int)+1) w0.heap.size w' fun r _=>r=vm (iter (Ox s) 8 0 (iter (CD (iter (wU p) (d+1) i W)) 64 0 s)):=fun a b c e f=>by
   rw[show(i:Int)+1=((i+1:Nat):Int) by omega];exact ih (i+1) _ _ om om a (by unfold wU;rw[wA];exact M) b c e f
  have t0:=k (4*(i:Int));have t1:=k (4*(i:Int)+1);have t2:=k (4*(i:Int)+2);have t3:=k (4*(i:Int)+3);refine F.aC.L4.step ⟨fun _=>⟨fun q=> ?_,fun q=> ?_⟩,fun q=>by omega⟩
  ·refine⟨ir,⟨om,om⟩,ir,⟨dc,dc⟩,ir,ir,⟨om,om⟩,ir,⟨dc,dc⟩,ir,ir,⟨om,om⟩,ir,⟨dc,dc⟩,ir,ir,⟨om,om⟩,ir,⟨om,om⟩,fun wW G=> ?_⟩;have xU:=kE hw G;refine(o.below (extAll G)).set (i:=i) J om _ fun w1 h1 g=>⟨ir,?_⟩
   refine E (xU.trans (aL.dQ g J)) ((C.below (extAll G)).rest g om) ((K.below (extAll G)).rest g om) ((L.below (extAll G)).rest g om) ?_;unfold wU;rw[bb om];exact h1
  ·have O:(i:Int) - 15=((i - 15:Nat):Int):=om;have e2:(i:Int) - 2=((i - 2:Nat):Int):=om;have e7:(i:Int) - 7=((i - 7:Nat):Int):=om;have P:(i:Int) - 16=((i - 16:Nat):Int):=om;rw[O,e2,e7,P];refine⟨ir,⟨om,om⟩,_,o.at_ (i:=i - 15) om,ir,⟨om,om⟩,_,o.at_ (i:=i - 2) om,fun tx H=> ?_⟩;have kt:=kE hw H;have g6:=o.below (extAll H);refine⟨⟨dc,dc⟩,ir,⟨om,om⟩,_,g6.at_ (i:=i - 7) om,⟨dc,dc⟩,ir,⟨om,om⟩,_,g6.at_ (i:=i - 16) om,fun Uw I=> ?_⟩;have rm:=kE kt I;refine pm (qL _ om) ?_;rintro r zB Q rfl;refine⟨_,rfl,pm (qL _ om) ?_⟩;rintro r WJ R rfl;refine⟨_,rfl,pm (qL _ om) ?_⟩;rintro r Is S rfl;refine⟨_,rfl,pm (qL _ om) ?_⟩;rintro r QO T rfl;have n:=fun {b ty:Nat} {l:List Int} (h:Wd tx b ty l)=>(((((h.below (extAll I)).below Q).below R).below S).below T)
   have py:=kP (kP (kP (kP rm Q) R) S) T;refine⟨_,rfl,⟨om,om⟩,(n g6).set (i:=i) J om _ fun w1 h1 g=>⟨ir,?_⟩⟩;refine E (py.trans (aL.dQ g J)) ((n (C.below (extAll H))).rest g om) ((n (K.below (extAll H))).rest g om) ((n (L.below (extAll H))).rest g om) ?_;unfold wU;rw[aq om];exact h1
theorem aiR:setCells (List.replicate 64 (u3 0)) 0 (kT.map u3)=kT.map u3:=kF
theorem Sf{w0:World}{v:List Int}{p:ByteArray}(m:v.length=8)(hp:p.size=64):
  Pure Tryz.prog 166 #[vm v,.string p] w0 fun r _=>r=vm (yR v p):=by
 unfold yR Se;refine F.aC.vc (oS _ _ lf fun w1 h1 C l1=> ?_);have n:Below w0.heap.size w0 w1:=C;refine cC (z:= .agg (List.replicate 8 (.int .u32 0)).toArray) _ kF n.size fun a D o M=> ?_
 have d:=kP n o;refine cC (z:= .agg (List.replicate 64 (.int .u32 0)).toArray) _ kF d.size fun E q g N=> ?_
 have G:=kP d g;have s1:Wd w1 w0.heap.size 229 v:=by
  show w1.heap[w0.heap.size]? =_;rw[h1,len8 m];rfl
 have H:Wd a w1.heap.size 229 (List.replicate 8 0):=D;have O:E.heap[a.heap.size]? =some (.cells (List.replicate 64 (Value.int .u32 0)).toArray 267 (0,0)):=q;refine⟨List.replicate 64 (.int .u32 0),_,d.size,rfl,q,sm,rfl,fun x c=> ?_⟩;have h:Wd x a.heap.size 267 kT:=c.at_.trans (bx (fun l:List Value=>some (Obj.cells l.toArray 267 (0,0))) aiR);have y:=G.trans (aL.dQ c d.size);refine cC (z:= .agg (List.replicate 64 (.int .u32 0)).toArray) _ kF y.size fun A I e J=> ?_
 have K:=kP y e;have m13:Wd A x.heap.size 267 (List.replicate 64 0):=I;have L:=c.size;have i:=(((s1.below o).below g).rest c (show w0.heap.size≠a.heap.size by omega)).below e;have j:=((H.below g).rest c (show w1.heap.size≠a.heap.size by omega)).below e;have k:=h.below e;exact aaf hp m om om om om om 64 0 _ A rfl om K sm i j k m13

abbrev b8(z:Int):List Value:=[.int .u8 z]
theorem Eu{w:World}{B0 B n c:Nat}{tys:List Nat}{A:Option Addr}{xs:List Int}(ho:aE w B0 5 A n c 1 (xs.map b8))(a:xs≠[]){K:ByteArray->World->Prop}(g:K (strOfNums xs) w):
  ae Tryz.prog (convert 115 9 (.slice A n c)) B tys w fun r w1=>∃s,r= .string s/\K s w1:=by
 have hn:xs.length=n:=ho.rows;rcases ho.sl with e|⟨b,off,cs,ty,fr,rfl,h,j⟩
 ·exact absurd (List.map_eq_nil_iff.1 e) a
 ·have k:=run_convert_bytes_arg (P:=Tryz.prog) (w:=w) 115 5 Tryz.underlying115 Tryz.underlying5 b off n c xs hn (fun i hi=>by
   obtain⟨_,d⟩:=j i (by rw[ec];omega) 0 sm;simp only[World.cell?,h];rw[CX,va]at d;rw[d,cb,af om];simp) 9 Tryz.underlying9
  exact⟨_,w,k,Below.refl _ _,eU _,fun _ _ _ _ _=>rfl,_,rfl,g⟩
def Xp:List Int:=[1779033703,3144134277,1013904242,2773480762,1359893119,2600822924,528734635,1541459225]
def Du(m:Int)(d:Nat):List Int:=(List.range d).map fun(k:Nat)=>IntKind.wrap .u8 (nA m (56 - 8*(k:Int)))
def Ew(s:Nat):List Int:=[128]++List.replicate ((120 - (s+1) % 64) % 64) 0++Du ((s:Int)*8) 8
def GD:Nat->List Int->ByteArray->List Int
 |0,v,_=>v
 |d+1,v,p=>GD d (yR v (p.extract 0 64)) (p.extract 64 p.size)
def zN(z:Int):List Int:=[IntKind.wrap .u8 (nA z 24),IntKind.wrap .u8 (nA z 16),IntKind.wrap .u8 (nA z 8),IntKind.wrap .u8 z]
def aag(v:List Int):List Int:=(List.range 8).flatMap fun i=>zN (v.getD i 0)
def Oz(s:ByteArray):ByteArray:=strOfNums (aag (GD ((s++strOfNums (Ew s.size)).size / 64) Xp (s++strOfNums (Ew s.size))))
theorem Sg(s:ByteArray):(Oz s).size=32:=by
 unfold Oz;rw[strOfNums_size];rfl
theorem OA{v:List Int}{p:ByteArray}(b:v.length=8):(yR v p).length=8:=by
 unfold yR;exact uY (P:=fun l:List Int=>l.length=8) (fun i a h=>by unfold Ox;rw[wA];exact h) 8 0 _ (uY (P:=fun l:List Int=>l.length=8) (fun i a _=>rfl) 64 0 v b)
theorem aiS{w:World}{B:Nat}{tys:List Nat}{v:List Int}(i:Nat)(hi:i<8){K:Int->World->Prop}(a:K (v.getD i 0) w):
  ae Tryz.prog (Instr.index 229 (vm v) (.int .i64 (i:Int))) B tys w fun r w1=>∃z,r= .int .u32 z/\K z w1:=by
 have h:(Instr.index 229 (vm v) (.int .i64 (i:Int))).run Tryz.prog w= .ok (.int .u32 (v.getD i 0)) w:=by
  have k0:(Instr.index 229 (vm v) (.int .i64 0)).run Tryz.prog w= .ok (.int .u32 (v.getD 0 0)) w:=kF;have b:(Instr.index 229 (vm v) (.int .i64 1)).run Tryz.prog w= .ok (.int .u32 (v.getD 1 0)) w:=kF;have c:(Instr.index 229 (vm v) (.int .i64 2)).run Tryz.prog w= .ok (.int .u32 (v.getD 2 0)) w:=kF;have d:(Instr.index 229 (vm v) (.int .i64 3)).run Tryz.prog w= .ok (.int .u32 (v.getD 3 0)) w:=kF;have e:(Instr.index 229 (vm v) (.int .i64 4)).run Tryz.prog w= .ok (.int .u32 (v.getD 4 0)) w:=kF;have g:(Instr.index 229 (vm v) (.int .i64 5)).run Tryz.prog w= .ok (.int .u32 (v.getD 5 0)) w:=kF;have j:(Instr.index 229 (vm v) (.int .i64 6)).run Tryz.prog w= .ok (.int .u32 (v.getD 6 0)) w:=kF;have k:(Instr.index 229 (vm v) (.int .i64 7)).run Tryz.prog w= .ok (.int .u32 (v.getD 7 0)) w:=kF
  match i,hi with
  |0,_=>exact k0
  |1,_=>exact b
  |2,_=>exact c
  |3,_=>exact d
  |4,_=>exact e
  |5,_=>exact g
  |6,_=>exact j
  |7,_=>exact k
 exact⟨_,w,h,Below.refl _ _,eU _,fun _ _ _ _ _=>rfl,_,rfl,a⟩
section
variable {w0:World} {s:ByteArray} {v:List Int}
theorem VN{v:List Int}:∀(d i:Nat)(w:World)(A:Option Addr)(n c:Nat)(out:List Int),8 - i=d->i<=8->Below w0.heap.size w0 w->aE w w0.heap.size 5 A n c 1 (out.map b8)->out=((List.range i).flatMap fun i=>zN (v.getD i 0))->
  F.bf.yn A n c (v.getD 0 0) (v.getD 1 0) (v.getD 2 0) (v.getD 3 0) (v.getD 4 0) (v.getD 5 0) (v.getD 6 0) (v.getD 7 0) (i:Int) w0.heap.size w fun r _=>r= .string (strOfNums (aag v)):=by
 intro d;induction d with
 |zero=>
  intro i w A n c out j hi hw ho he;have:i=8:=om;subst this;refine F.bf.yn.step ⟨fun q=>by omega,fun _=>Eu ho (by rw[he];simp[B6,zN]) ?_⟩;rw[he];rfl
 |succ d ih=>
  intro i w A n c out j hi hw ho he;have hn:out.length=n:=ho.rows;have hl:out.length=4*i:=by
   rw[he,List.length_flatMap];have:∀l:List Nat,(l.map fun i=>(zN (v.getD i 0)).length).sum=4*l.length:=fun l=>by
    induction l with
    |nil=>rfl
    |cons a r ih=>rw[zQ,wx,ih,eL];simp[zN];omega
   rw[this,List.length_range]
  refine F.bf.yn.step ⟨fun _=>aiS i om ⟨⟨dc,dc⟩,⟨dc,dc⟩,⟨dc,dc⟩,?_⟩,fun q=>by omega⟩;refine bc ug [.int .u8 (IntKind.wrap .u8 (nA (v.getD i 0) 24)),.int .u8 (IntKind.wrap .u8 (nA (v.getD i 0) 16)),.int .u8 (IntKind.wrap .u8 (nA (v.getD i 0) 8)),.int .u8 (IntKind.wrap .u8 (v.getD i 0))] (by simp[Value.cells]) sm hw.size fun A2 c2 k h b=> ?_
  have m:bR k A2 1 ((zN (v.getD i 0)).map b8):=h.sl;refine xG ug lf (ho.below b) m (show((zN (v.getD i 0)).map b8).length=4 from rfl) (fun r g=>by obtain⟨x,_,rfl⟩:=hM.1 g;rfl) (fun r g=>by obtain⟨x,_,rfl⟩:=hM.1 g;intro u hu;simp[b8]at hu;subst hu;rfl) (fun e=>h.sO e) (dp hw.size b.size) om sm fun A3 c3 o y _ z=>⟨ir,?_⟩
  rw[show(i:Int)+1=((i+1:Nat):Int) by omega];refine ih (i+1) o A3 _ c3 (out++zN (v.getD i 0)) om om ((kP hw b).trans z) (by rw[eH];exact y) ?_;rw[B6,MU,he];simp
theorem VO:∀(d:Nat)(w:World)(p:ByteArray)(v:List Int),p.size=64*d->v.length=8->Below w0.heap.size w0 w->
  F.bf.L11 p (v.getD 0 0) (v.getD 1 0) (v.getD 2 0) (v.getD 3 0) (v.getD 4 0) (v.getD 5 0) (v.getD 6 0) (v.getD 7 0) w0.heap.size w fun r _=>r= .string (strOfNums (aag (GD d v p))):=by
 intro d;induction d with
 |zero=>
  intro w p v hp a hw;refine F.bf.L11.step ⟨fun q=>absurd (ByteArray.size_eq_zero_iff.1 om) q,fun _=> ?_⟩;exact VN 8 0 w none 0 0 [] rfl om hw aE.nil rfl
 |succ d ih=>
  intro w p v hp a hw;have b:(p.extract 0 64).size=64:=by rw[ByteArray.size_extract];omega
  have g:(p.extract 64 p.size).size=64*d:=by rw[ByteArray.size_extract];omega
  refine F.bf.L11.step ⟨fun _=>⟨om,fun k c=> ?_⟩,fun q=>by
   exfalso;have e:=dT.1 q;rw[e]at hp;have l:(⟨#[]⟩:ByteArray).size=0:=rfl;omega⟩
  refine pm (Sf a b) ?_;rintro r m h rfl;refine⟨_,_,_,_,_,_,_,_,rfl,om,fun i j=> ?_⟩;exact ih i _ (yR v (p.extract 0 64)) g (OA a) (kE (kP (kE hw c) h) j)
theorem OB(m:Int)(d:Nat):Du m (d+1)=Du m d++[IntKind.wrap .u8 (nA m (56 - 8*(d:Int)))]:=by
 unfold Du;rw[B6,eH];rfl
theorem aah(hs:s.size<=100000000){pre:List Int}(hp:Ew s.size=pre++Du ((s.size:Int)*8) 8)(m:pre.length<=65)(b:(s.size+pre.length+8) % 64=0)(a:pre≠[]):∀(d k:Nat)(w:World)(A:Option Addr)(n c:Nat),8 - k=d->k<=8->Below w0.heap.size w0 w->aE w w0.heap.size 5 A n c 1 ((pre++Du ((s.size:Int)*8) k).map b8)->
  F.bf.L7 s ((s.size:Int)*8) A n c (56 - 8*(k:Int)) 1779033703 3144134277 1013904242 2773480762 1359893119 2600822924 528734635 1541459225 w0.heap.size w fun r _=>r= .string (Oz s):=by
 intro d;induction d with
 |zero=>
  intro k w A n c g h hw ho;have:k=8:=om;subst this;rw[<-hp]at ho;have e:(strOfNums (Ew s.size)).size=pre.length+8:=by
   rw[strOfNums_size,hp,ek];simp[Du]
  refine F.bf.L7.step ⟨fun q=>by omega,fun _=>Eu ho (by rw[hp];simp[a]) ⟨om,?_⟩⟩;exact VO _ w (s++strOfNums (Ew s.size)) Xp (by rw[jv];omega) rfl hw
 |succ d ih=>
  intro k w A n c g h hw ho;have hn:=ho.rows;rw[ek]at hn;have hl:(Du ((s.size:Int)*8) k).length=k:=by simp[Du]
  refine F.bf.L7.step ⟨fun _=>⟨⟨om,by show _<=(64:Int);omega⟩,?_⟩,fun q=>by omega⟩;refine so ug lf ho (x:= .int .u8 (IntKind.wrap .u8 (nA ((s.size:Int)*8) (56 - 8*(k:Int))))) rfl (by simp[Value.cells,bl]) hw.size om dc fun A3 c3 i j _ l=>⟨ir,?_⟩
  rw[show(56 - 8*(k:Int)) - 8=56 - 8*((k+1:Nat):Int) by omega];refine ih (k+1) i A3 _ c3 om om (hw.trans l) ?_;rw[OB,<-lN,eH];exact j
theorem aai(hs:s.size<=100000000):∀(d k:Nat)(w:World)(A:Option Addr)(n c:Nat),(120 - (s.size+1+k) % 64) % 64=d->k+d=(120 - (s.size+1) % 64) % 64->Below w0.heap.size w0 w->aE w w0.heap.size 5 A n c 1 (([(128:Int)]++List.replicate k 0).map b8)->
  F.bf.L4 s ((s.size:Int)*8) A n c 1779033703 3144134277 1013904242 2773480762 1359893119 2600822924 528734635 1541459225 w0.heap.size w fun r _=>r= .string (Oz s):=by
 intro d;induction d with
 |zero=>
  intro k w A n c b a hw ho;have hn:=ho.rows;simp only[ek,List.length_replicate,xX]at hn;refine F.bf.L4.step ⟨ir,⟨om,dc⟩,fun q=>absurd q om,fun _=> ?_⟩;have:=aah (w0:=w0) hs (pre:=[(128:Int)]++List.replicate k 0) (by unfold Ew;rw[<-a,va]) (by simp;omega) (by simp;omega) sm 8 0 w A n c rfl om hw (by
   rw[show Du ((s.size:Int)*8) 0=[]from rfl,uf];exact ho)
  simpa using this
 |succ d ih=>
  intro k w A n c b a hw ho;have hn:=ho.rows;simp only[ek,List.length_replicate,xX]at hn;refine F.bf.L4.step ⟨ir,⟨om,dc⟩,fun _=> ?_,fun q=>by omega⟩;refine so ug lf ho (x:= .int .u8 0) rfl (by simp[Value.cells,bl]) hw.size om dc fun A3 c3 e g _ h=> ?_
  refine ih (k+1) e A3 _ c3 om om (hw.trans h) ?_;rw[RP,<-lN,eH];exact g
theorem bf(w:World)(s:ByteArray)(hs:s.size<=100000000):Pure Tryz.prog 108 #[.string s] w fun v _=>v= .string (Oz s):=by
 refine F.bf.vc ⟨ir,ir,fun w1 a=> ?_⟩;have hw:=k0 a;refine bc ug [.int .u8 128] (by simp[Value.cells]) sm hw.size fun A2 c2 b c d=> ?_
 exact aai hs _ 0 b A2 1 c2 rfl om (kP hw d) (c.base hw.size)
end
def GF(s:ByteArray)(b:Int)(i:Nat)(l:List Int):List Int:=l.set i (bits .xor .u8 ((if i<s.size then l.set i (bt s i)else l).getD i 0) b)
def aep(s:ByteArray)(b:Int):ByteArray:=strOfNums (iter (GF s b) 64 0 (List.replicate 64 0))
theorem Sj(s:ByteArray)(b:Int)(d i:Nat)(l:List Int)(h:l.length=64):(iter (GF s b) d i l).length=64:=
 uY (P:=fun l:List Int=>l.length=64) (fun i a h=>by unfold GF;rw[wA];exact h) d i l h
def W8(w:World)(b:Nat)(l:List Int):Prop:=w.heap[b]? =some (.cells (l.map fun z=>Value.int .u8 z).toArray 232 (0,0))
theorem W8.at_{w:World}{b:Nat}{l:List Int}(h:W8 w b l){i:Nat}(hi:i<l.length):aa w ((⟨b,0,none⟩:Addr).add (i*1)) [.int .u8 (l.getD i 0)]:=by
 rw[CX];refine aZ h ?_;rw[kl,cb,af hi];rfl
theorem W8.set{w:World}{B b:Nat}{l:List Int}(h:W8 w b l)(hB:B<=b){i:Nat}(hi:i<l.length)(v:Int){K:World->Prop}(a:∀w1,W8 w1 b (l.set i v)->Below B w w1->K w1):
  ∃(cs:List Value)(t:Nat),B<=((⟨b,0,none⟩:Addr).add (i*1)).block/\((⟨b,0,none⟩:Addr).add (i*1)).spot=none/\w.heap[((⟨b,0,none⟩:Addr).add (i*1)).block]? =some (.cells cs.toArray t (0,0))/\((⟨b,0,none⟩:Addr).add (i*1)).off+1<=cs.length/\hasType t []=false/\
   ∀w1,aL w w1 ((⟨b,0,none⟩:Addr).add (i*1)).block t (setCells cs ((⟨b,0,none⟩:Addr).add (i*1)).off [.int .u8 v])->K w1:=by
 rw[CX,bT];refine⟨_,_,hB,rfl,h,by simp;omega,rfl,fun w1 hw=> ?_⟩;dsimp only at hw;rw[jx]at hw;refine a w1 ?_ (aL.dQ hw hB);have e:setCells (l.map fun z=>Value.int .u8 z) i [.int .u8 v]=(l.set i v).map fun z=>Value.int .u8 z:=by
  simp only[setCells];rw[Cv]
 rw[e]at hw;exact hw.at_
theorem aaj(w0:World)(s:ByteArray)(b:Int):Pure Tryz.prog 109 #[.string s,.int .u8 b] w0 fun v _=>v= .string (aep s b):=by
 refine F.dy.vc (cC (z:= .agg (List.replicate 64 (.int .u8 0)).toArray) _ kF lf fun w1 h1 n l1=> ?_);have key:∀(d i:Nat)(l:List Int)(w:World),64 - i=d->i<=64->Below w0.heap.size w0 w->l.length=64->W8 w w0.heap.size l->
   F.dy.L3 s b ⟨w0.heap.size,0,none⟩ (i:Int) w0.heap.size w fun v _=>v= .string (strOfNums (iter (GF s b) d i l)):=by
  intro d;induction d with
  |zero=>
   intro i l w o hi hw hl h;refine F.dy.L3.step ⟨fun q=>by omega,fun _=> ?_⟩;have r:(Instr.sliceAt 232 (.pointer (some ⟨w0.heap.size,0,none⟩)) none none none).run Tryz.prog w= .ok (.slice (some ⟨w0.heap.size,0,none⟩) 64 64) w:=kF;refine⟨_,w,r,Below.refl _ _,eU _,fun _ _ _ _ _=>rfl,_,_,_,rfl,?_⟩;have x:=run_convert_bytes_arg (P:=Tryz.prog) (w:=w) 115 5 Tryz.underlying115 Tryz.underlying5 w0.heap.size 0 64 64 l hl (fun j hj=>by
    have h:w.heap[w0.heap.size]? =_:=h;simp only[World.cell?,h];rw[jx];simp[cb,af (show j<l.length by omega)]) 9 Tryz.underlying9
   exact⟨_,w,x,Below.refl _ _,eU _,fun _ _ _ _ _=>rfl,_,rfl,rfl⟩
  |succ d ih=>
   intro i l w o hi hw hl h;have fin:∀{w1:World} {a:List Int},a.length=64->Below w0.heap.size w0 w1->W8 w1 w0.heap.size a->a.set i (bits .xor .u8 (a.getD i 0) b)=GF s b i l->_:=fun {w1 a} c y A e=>A.set lf (i:=i) om (bits .xor .u8 (a.getD i 0) b) (K:=fun g=>aU .i64 ((i:Int)+1)/\F.dy.L3 s b ⟨w0.heap.size,0,none⟩ ((i:Int)+1) w0.heap.size g fun v _=>v= .string (strOfNums (iter (GF s b) (d+1) i l))) fun g k B=>⟨ir,by
    rw[show(i:Int)+1=((i+1:Nat):Int) by omega];rw[e]at k;exact ih (i+1) (GF s b i l) g om om (y.trans B) (by rw[<-e,wA];exact c) k⟩
   refine F.dy.L3.step ⟨fun _=>⟨fun q=>⟨⟨om,om⟩,⟨om,om⟩,?_⟩,fun q=>⟨⟨om,om⟩,_,h.at_ (i:=i) om,⟨om,om⟩,?_⟩⟩,fun q=>by omega⟩
   ·refine h.set lf (i:=i) om (bt s i) fun D m C=>⟨⟨om,om⟩,_,m.at_ (i:=i) (by rw[wA];omega),⟨om,om⟩,?_⟩
    refine fin (by rw[wA];exact hl) (hw.trans C) m ?_;unfold GF;rw[bb om,List.set_set]
   ·refine fin hl hw h ?_;unfold GF;rw[aq om]
 have z1:W8 w1 w0.heap.size (List.replicate 64 0):=h1;exact key 64 0 _ w1 rfl om n sm z1
def aeq:oG:=⟨Oz,aep⟩
theorem wV:fM aeq:=⟨fun w s hs=>bf w s hs,Sg,fun w s b _ _ _=>aaj w s b,fun s b=>by
 show(strOfNums _).size=64;rw[strOfNums_size,Sj _ _ _ _ _ sm]⟩

theorem aak{w0:World}{A A1:Option Addr}{n n1 c c1:Nat}{l l1:List Sw}(h:bR w0 A 3 (l.map Sw.row))(h1:bR w0 A1 3 (l1.map Sw.row))(hlen:l.length=n)(x:l1.length=n1)(hn:n<2147483648):
  Pure Tryz.prog 13 #[.slice A n c,.slice A1 n1 c1] w0 fun y _=>y= .bool (decide (l=l1)):=by
 have key:n=n1->∀(d i:Nat)(w:World),n - i=d->i<=n->Below w0.heap.size w0 w->l.take i=l1.take i->F.aX.L4 A n c A1 n1 c1 n i w0.heap.size w fun y _=>y= .bool (decide (l=l1)):=by
  intro e d;induction d with
  |zero=>
   intro i w z hi hw hx;refine F.aX.L4.step ⟨fun h=>by omega,fun _=> ?_⟩;rw[de om,de om]at hx;rw[gu hx]
  |succ d ih=>
   intro i w z hi hw hx;have q:i<l.length:=om;have j:i<l1.length:=om;have B:=sc i;obtain⟨hb,a,C,g,_⟩:=(h.au hw lf).at_ (fun _=>rfl) hlen q;obtain⟨m,D,E,b,_⟩:=(h1.au hw lf).at_ (fun _=>rfl) x j;refine F.aX.L4.step ⟨fun _=>⟨hb,a,C,_,_,_,g,m,D,E,_,_,_,b,fun k r _=> ?_,fun k=>⟨ir,fun r G=> ?_⟩⟩,fun h=>by omega⟩
   ·rw[en fun e=>k (by subst e;exact⟨rfl,rfl,rfl,trivial⟩)]
   ·rw[B];refine ih (i+1) r om om (kE hw G) ?_;have k:=dT.1 k;have e:l[i]=l1[i]:=by
     cases H:l[i];cases o:l1[i];rw[H,o]at k;simp only at k;rw[k.1,k.2.1,k.2.2.1]
    rw[ft,ft,hx,af q,af j,e]
 refine F.aX.vc ⟨fun k=> ?_,fun k=>key om n 0 w0 rfl om (Below.refl _ _) sm⟩;rw[en fun e=>k (by subst e;omega)]

theorem Sk(w:World){i t k:Int}(a:aU .i64 k):pJ w ⟨.nil,.nil,.nil⟩ ⟨i,t,k,[],[],[]⟩:=⟨.inl rfl,.inl rfl,.inl rfl,rfl,rfl,rfl,sm,sm,sm,nofun,nofun,fun _=>rfl,a⟩
section
variable {H:oG} (fO:fM H)
include fO
theorem Ex{w:World}(hg:bj w){k:Ca}{xs:List Rm}{x:Cm}(h:ux w k xs x)(ok:dz x):Pure Tryz.prog 17 #[k.val x] w fun v _=>v= .string (lE H x):=bK fO hg h.pl h.nw ok.sw ok.lw ok.si
theorem So{w0:World}(hg:bj w0){i:Nat}{key:ByteArray}{A:Option Addr}{c:Nat}{xs:List Rm}{k:Ca}{x y:Cm}{w:World}(hi:i<2)(R:([⟨#[107]⟩,⟨#[113]⟩]:List ByteArray)[i]? =some key)(h1:key.size=1)(hs:aE w w0.heap.size 9 A 2 c 1 ((([⟨#[107]⟩,⟨#[113]⟩]:List ByteArray)).map gq))(hw:Below w0.heap.size w0 w)(ho:dP w w0.heap.size k xs x)(ok:dz x)
  (ha:dh H x ⟨7+(i:Int),4,8,[(i:Int)+1],[],[Xk H ((i:Int)+1) key]⟩= .ok y)
  (S:∀w' d C,Below w0.heap.size w0 w'->aE w' w0.heap.size 9 A 2 c 1 ((([⟨#[107]⟩,⟨#[113]⟩]:List ByteArray)).map gq)->dP w' w0.heap.size d C y->dz y->F.bD.L5 (-1) 0 23 (Tn H) A 2 c 2 ((i:Int)+1) d.p.A d.p.n d.p.c d.h.A d.h.n d.h.c d.r.A d.r.n d.r.c d.s.A d.s.n d.s.c d.w.A d.w.n d.w.c y.bQ d.c.A d.c.n d.c.c d.v.A d.v.n d.v.c d.a.A d.a.n d.a.c d.l.A d.l.n d.l.c d.g.A d.g.n d.g.c d.q.A d.q.n d.q.c y.last y.tick w0.heap.size w' fun v _=>v= .bool true):
  F.bD.L5 (-1) 0 23 (Tn H) A 2 c 2 (i:Int) k.p.A k.p.n k.p.c k.h.A k.h.n k.h.c k.r.A k.r.n k.r.c k.s.A k.s.n k.s.c k.w.A k.w.n k.w.c x.bQ k.c.A k.c.n k.c.c k.v.A k.v.n k.v.c k.a.A k.a.n k.a.c k.l.A k.l.n k.l.c k.g.A k.g.n k.g.c k.q.A k.q.n k.q.c x.last x.tick w0.heap.size w fun v _=>v= .bool true:=by
 obtain⟨T,U⟩:=eh.1 R;obtain⟨hb,a,V,O,_⟩:=hs.sl.at_ (row:=gq) (fun _=>rfl) rfl (i:=i) T;rw[U]at O;refine F.bD.L5.step ⟨fun _=>⟨hb,a,V,_,O,ir,pm (jg (a:=⟨(i:Int)+1,4,Tn H,⟨#[]⟩⟩) fO (hg.next hw) om om ir ir (by show(lE H wS).size<=_;unfold lE;rw[fO.len];omega)) ?_⟩,fun q=>by omega⟩;rintro v W j rfl;have m:=kP hw j;refine⟨_,_,rfl,ir,ir,?_⟩;refine bc gQ [.int .i64 ((i:Int)+1)] (by simp[Value.cells]) sm m.size fun D c53 X E o=> ?_
 have P:=kP m o;refine bc qa [.string (Xk H ((i:Int)+1) key)] (by simp[Value.cells]) sm P.size fun G I Q J K=> ?_
 have L:=kP P K;have sz:(Xk H ((i:Int)+1) key).size=32:=fO.len _;have b:Below w.heap.size w Q:=kP (kP j o) K;have ev:pJ Q ⟨⟨D,1,c53⟩,.nil,⟨G,1,I⟩⟩ ⟨7+(i:Int),4,8,[(i:Int)+1],[],[Xk H ((i:Int)+1) key]⟩:=
  ⟨(E.below K).sl,.inl rfl,J.sl,rfl,rfl,rfl,sm,sm,sm,nofun,fun s hs=>by rw[eb.1 hs,sz];omega,fun _=>rfl,ir⟩
 have Y:kV ⟨7+(i:Int),4,8,[(i:Int)+1],[],[Xk H ((i:Int)+1) key]⟩:=⟨sm,sm,sm,nofun,fun s hs=>by rw[eb.1 hs,sz];omega,fun z hz=>by rw[eb.1 hz];omega⟩;have M:=mW fO (hg.next L) ((ho.below b).uV ok.sr) ok ev;rw[ha]at M;refine pm M ?_;clear M;rintro v Z B ⟨d,C,rfl,zg⟩;have N:=kP L B;refine⟨_,_,_,_,_,_,_,_,_,_,_,_,_,_,_,_,_,_,_,_,_,_,_,_,_,_,_,_,_,_,_,_,_,_,_,_,_,rfl,fun q=>absurd rfl q,fun _=>⟨fun q=>absurd rfl q,fun _=>⟨ir,fun Rr e=> ?_⟩⟩⟩;have lo:=((hs.below b).below B).bW (bG.ext e) dc;exact S Rr d C (kE N e) lo ((zg.gh (bG.ext e)).base L.size) (pZ ok Y ha)
theorem aam{w0:World}(hg:bj w0){A:Option Addr}{c:Nat}{xs:List Rm}{k:Ca}{w:World}(hw:Below w0.heap.size w0 w)(ho:dP w w0.heap.size k xs (ME H))(ok:dz (ME H)):
  F.bD.L5 (-1) 0 23 (Tn H) A 2 c 2 2 k.p.A k.p.n k.p.c k.h.A k.h.n k.h.c k.r.A k.r.n k.r.c k.s.A k.s.n k.s.c k.w.A k.w.n k.w.c (ME H).bQ k.c.A k.c.n k.c.c k.v.A k.v.n k.v.c k.a.A k.a.n k.a.c k.l.A k.l.n k.l.c k.g.A k.g.n k.g.c k.q.A k.q.n k.q.c (ME H).last (ME H).tick w0.heap.size w fun v _=>v= .bool true:=by
 have C:=mW (e:=tn9) fO (hg.next hw) (ho.uV ok.sr) ok (Sk w ir);rw[aej fO]at C;refine F.bD.L5.step ⟨fun q=>by omega,fun _=>pm C ?_⟩;clear C;rintro v Xh o ⟨k9,U,rfl,b⟩;have V:=kP hw o;refine⟨_,_,_,_,_,_,_,_,_,_,_,_,_,_,_,_,_,_,_,_,_,_,_,_,_,_,_,_,_,_,_,_,_,_,_,_,_,rfl,fun D d=> ?_⟩;have E:=kE V d;have b:=b.below (extAll d);have G:=(ho.below o).below (extAll d);refine pm (CA D) ?_;rintro v W i ⟨X,Y,ys,rfl,es,Z⟩;have Q:=kP E i;refine⟨_,_,_,rfl,pm (MD fO (hg.next Q) (es.uV om) 2) ?_⟩;have eo:VD H (gk ys) 2= .ok cm5:=by
  rw[Z];unfold VD;rw[aq dc];exact Xj
 rw[eo];rintro v apM j ⟨ko,xso,rfl,oo,oko⟩;have I:=kP Q j;refine⟨_,_,_,_,_,_,_,_,_,_,_,_,_,_,_,_,_,_,_,_,_,_,_,_,_,_,_,_,_,_,_,_,_,_,_,_,_,rfl,fun _=>⟨fun _=>⟨fun _=>⟨fun _ apN m=> ?_,fun q=>absurd (by rw[show(Tn H).size=32 from fO.len _];rfl) q⟩,fun q=>absurd rfl q⟩,fun q=>absurd rfl q⟩,fun q=>absurd rfl q⟩;have R:=kE I m;have J:=((G.below i).below j).below (extAll m);have b:=((b.below i).below j).below (extAll m);refine pm (fI fO (hg.next R) (J.uV ok.sr) ok 5) ?_;rw[Sa fO];rintro v apO y rfl;have S:=kP R y;refine⟨_,rfl,fun _=>⟨fun _=>⟨fun _=> ?_,fun q=>absurd rfl q⟩,fun q=>absurd rfl q⟩,fun q=>by cases q⟩;refine bc gW [Sw.val ⟨1,1,2⟩] (by simp[Value.cells]) sm S.size fun K apP L M B=> ?_
 have I5:=kP S B;have b:=(b.below y).below B;have T:=b.s.rows;have p9:=b.nw;have h1:bR L K 3 (([⟨1,1,2⟩]:List Sw).map Sw.row):=M.sl;refine pm (aak (l1:=[⟨1,1,2⟩]) b.s.sl h1 T rfl (by rw[<-T];show(1:Nat)<_;omega)) ?_;rintro v N O rfl;have alU:=kP I5 O;refine⟨_,rfl,fun _=>⟨fun _=>⟨fun _=>pm (Cz N) ?_,fun q=>absurd rfl q⟩,fun q=>absurd (by rw[<-p9];rfl) q⟩,fun q=>absurd (gu (rfl:([⟨1,1,2⟩]:List Sw)=[⟨1,1,2⟩])) (by intro k;exact absurd (k.symm.trans q) dc)⟩;rintro v P Sp rfl;have z:=(dP.zero P 0).uV (x:=Cm.zero) nofun;have hz:=CB z z dz.zero;refine⟨_,_,_,_,_,_,_,_,_,_,_,_,_,_,_,_,_,_,_,_,_,_,_,_,_,_,_,_,_,_,_,_,_,_,_,_,rfl,pm hz ?_⟩;rintro v apQ _ rfl;exact⟨_,rfl,rfl⟩
theorem Sq{w:World}(hg:bj w):Pure Tryz.prog 7 #[] w fun v _=>v= .bool true:=by
 refine F.bD.vc (pm (CA w) ?_);rintro v T d ⟨A1,c1,ys,rfl,es,C⟩;refine⟨_,_,_,rfl,pm (oV fO (hg.next d) (es.uV om)) ?_⟩;rw[C,aee];rintro v U D ⟨k,xs,rfl,o,ok⟩;have E:=kP d D;refine⟨_,_,_,_,_,_,_,_,_,_,_,_,_,_,_,_,_,_,_,_,_,_,_,_,_,_,_,_,_,_,_,_,_,_,_,_,_,_,rfl,fun G x=> ?_⟩;have z:=kE E x;have o:=(o.below (extAll x)).base d.size;have e:=mW fO (hg.next z) (o.uV ok.sr) ok (Sk (i:=7) (t:=4) (k:=9) G ir);rw[ZS fO]at e;refine pm e ?_;clear e;intro v I a g;have g:v=_:=g;subst g;have J:=kP z a;refine⟨_,_,_,_,_,_,_,_,_,_,_,_,_,_,_,_,_,_,_,_,_,_,_,_,_,_,_,_,_,_,_,_,_,_,_,_,_,rfl,fun V b=> ?_⟩;have A:=kE J b;have o:=(o.below a).below (extAll b);refine pm (Ex fO (hg.next A) (o.uV ok.sr) ok) ?_;rintro v K B rfl;have h:=kP A B;refine⟨_,rfl,?_⟩;refine bc qa [.string ⟨#[107]⟩,.string ⟨#[113]⟩] (by simp[Value.cells]) sm h.size fun j l m L c=> ?_
 have M:=kP h c;have o:=(o.below B).below c;have hs:aE m w.heap.size 9 j 2 l 1 ((([⟨#[107]⟩,⟨#[113]⟩]:List ByteArray)).map gq):=L.base h.size;refine So fO hg (i:=0) (key:=⟨#[107]⟩) (y:=cm7 H) om rfl rfl hs M o ok (aeg fO) fun w1 W X N n O q=> ?_
 refine So fO hg (i:=1) (key:=⟨#[113]⟩) (y:=ME H) om rfl rfl n N O q (aeh fO) fun Y Z P Q R S r=> ?_
 exact aam fO hg Q S r
end
theorem zO{w:World}(hg:bj w):Pure Tryz.prog 7 #[] w fun v _=>v= .bool true:=Sq wV hg

theorem Dv{P:Program}{t ty e size bytes:Nat}(el:El P t e size bytes){B0 B:Nat}(l:B0<=B){tys:List Nat}{w:World}{v:Value}{n:Nat}{xs:List Value}(b:w.ownsRow B e size v n xs)
  {a:Addr} {m c:Nat} {news:List Value} (hl:news.length=m*size) (o:∀j u,news[j]? =some u->w.cell? (a.add j)=some u) (h1:∀u∈news,bl u=true)
  (hB:B<=w.heap.size) (hn:n+m<9223372036854775808) (nB:(n+m)*bytes<=140737488355328) (q:e∉tys) {K:Option Addr->Nat->Nat->World->Prop}
  (h:∀A c g,g.ownsRow B e size (.slice A (n+m) c) (n+m) (xs++news)->w.grownBy g v.ownBlock->Below B0 w g->((Value.slice A (n+m) c).ownBlock=v.ownBlock∨(Value.slice A (n+m) c).ownBlock=some w.heap.size)->K A (n+m) c g):
  ae P (Builtin.append_ #[t,t] ty #[v,.slice (some a) m c]) B0 tys w fun r g=>∃A n c,r= .slice A n c/\K A n c g:=by
 obtain⟨i,z,x,y,C,D,E⟩:=el.info;obtain⟨I,w',F,ho,hg,_,G⟩:=run_append_own_at (P:=P) w B t ty e i z size bytes el.Ht x y C D E el.pos v n xs b a m c news hl o (fun u hu=>lk (h1 u hu)) (by simp only[maxLen];omega) om hB;have d:Below B0 w w':=bM hg (fun k H=>dp l (b.lt k H).1) (dp l hB);obtain⟨A,c',rfl,_⟩:=ownsRow_form ho;exact⟨_,w',F,d,d.size,rV hg b q,A,_,c',rfl,h A c' w' ho hg d G⟩

structure Cw where
 k:Ca
 xs:List Rm
 x:Cm
abbrev Cw.row(y:Cw):List Value:=y.k.cells y.x
theorem CE:El Tryz.prog 25 49 14 288:=El.of kF
theorem CF:(Tryz.prog.info? 49).bind (·.zero)=some (Ca.zero.val Cm.zero):=kF
structure oQ (w:World) (B:Nat) (A:Option Addr) (n c:Nat) (ys:List Cw):Prop where
 s:aE w B 49 A n c 14 (ys.map Cw.row)
 f:∀y∈ys,dP w B y.k y.xs y.x
 o:∀y∈ys,dz y.x
theorem dP.MG{w w':World}{B:Nat}{k:Ca}{xs:List Rm}{x:Cm}(h:dP w B k xs x)(s:bG 32 w w'):dP w' B k xs x:=by
 obtain⟨p1,p2,p3,d,g,p6,p7,p8,p9,a,b,j⟩:=h.Lm s;exact⟨p1 dc,p2 dc,p3 dc,d dc,h.e,g dc,p6 dc,h.nw,h.cw,p7 dc,p8 dc,p9 dc,a dc,b dc,j dc⟩
theorem vk.gh{w w':World}{B:Nat}{a:Ea}{e:Ev}(h:vk w B a e)(s:bG 49 w w'):vk w' B a e:=⟨h.n.bW s dc,h.r.bW s dc,h.t.bW s dc⟩
section
variable {w w':World} {B n c:Nat} {A:Option Addr} {ys:List Cw} {zs:List Em}
theorem oQ.below(h:oQ w B A n c ys)(hb:Below w.heap.size w w'):oQ w' B A n c ys:=⟨h.s.below hb,fun y hy=>(h.f y hy).below hb,h.o⟩
theorem oQ.MG(h:oQ w B A n c ys)(s:bG 32 w w'):oQ w' B A n c ys:=⟨h.s.bW s dc,fun y hy=>(h.f y hy).MG s,h.o⟩
theorem iA.gh(h:iA w B A n c zs)(s:bG 49 w w'):iA w' B A n c zs:=⟨h.s.bW s dc,fun y hy=>(h.f y hy).gh s,h.o⟩
theorem iA.fresh(h:iA w B A n c zs){w1:World}{p:Nat}{cs b:List Value}(hb:Below w.heap.size w w1)(hp:w.heap.size<=p)(h1:w1.heap[p]? =some (.cells cs.toArray 32 (0,0)))(hw:aL w1 w' p 32 b):iA w' B A n c zs:=
 ⟨(h.s.below hb).other fun a ha=>hw.rest _ (by have:=(h.s.uJ a ha).2;omega),fun y hy=>((h.f y hy).below hb).bW (bG.wrote hw h1),h.o⟩
theorem oQ.fresh(h:oQ w B A n c ys){w1:World}{p:Nat}{cs b:List Value}(hb:Below w.heap.size w w1)(hp:w.heap.size<=p)(h1:w1.heap[p]? =some (.cells cs.toArray 49 (0,0)))(hw:aL w1 w' p 49 b):oQ w' B A n c ys:=
 ⟨(h.s.below hb).other fun a ha=>hw.rest _ (by have:=(h.s.uJ a ha).2;omega),fun y hy=>((h.f y hy).below hb).gh (bG.wrote hw h1),h.o⟩
end
def yS(H:oG)(nz:List Cm)(es:List Ev):Prop:=nz.length=es.length+1/\nz[0]? =some Cm.zero/\∀i x y e,nz[i]? =some x->nz[i+1]? =some y->es[i]? =some e->dh H x e= .ok y
theorem yS.snoc{H:oG}{nz:List Cm}{es:List Ev}{x y:Cm}{e:Ev}(h:yS H nz es)(hl:nz[es.length]? =some x)(ha:dh H x e= .ok y):yS H (nz++[y]) (es++[e]):=by
 obtain⟨h1,a,b⟩:=h;refine⟨by simp[h1],by rw[gv om];exact a,fun i d g j g1 g2 g3=> ?_⟩;have hi:i<(es++[e]).length:=(eh.1 g3).1;rw[ek,xX]at hi;by_cases q:i<es.length
 ·rw[gv om]at g1;rw[gv om]at g2;rw[gv q]at g3;exact b i d g j g1 g2 g3
 ·have:i=es.length:=om;subst this;rw[gv om,hl]at g1;rw[hU om,h1,JN]at g2;rw[hU om,JN]at g3;cases g1;cases g2;cases g3;exact ha
abbrev GG(A5 rI:Option Addr):Prop:=∀a b,A5=some a->rI=some b->a.block≠b.block
section
variable {w0 W:World} {A4 A5 rI:Option Addr} {n4 c4 n5 c5 n xZ i:Nat} {nz:List Cw} {qM zs:List Em} {z:Em} {y:Cw} {L:Option Addr->Nat->Nat->Option Addr->Nat->Nat->World->Prop}
theorem GH(st:oQ W w0.heap.size A4 n4 c4 nz)(hy:dP W w0.heap.size y.k y.xs y.x)(ok:dz y.x){A2:Option Addr}{c2 lo:Nat}(o:aE W lo 49 A2 1 c2 14 [y.row])(hw:Below w0.heap.size w0 W)(hn:n4<=50){K:Option Addr->Nat->Nat->World->Prop}
  (d:∀A' c' a,Below w0.heap.size W a->oQ a w0.heap.size A' (n4+1) c' (nz++[y])->bG 49 W a->K A' (n4+1) c' a):
  ae Tryz.prog (Builtin.append_ #[25,25] 25 #[.slice A4 n4 c4,.slice A2 1 c2]) w0.heap.size [] W fun r w1=>∃A n c,r= .slice A n c/\K A n c w1:=by
 refine xG CE lf st.s o.sl (show([y.row]:List (List Value)).length=1 from rfl) (fun r b=>by rw[eb.1 b];rfl) (fun r b=>by
  rw[eb.1 b];intro u hu;simp only[Cw.row,Ca.cells,cc,fs,u1]at hu;rcases hu with rfl|rfl|rfl|rfl|rfl|rfl|rfl|rfl|rfl|rfl|rfl|rfl|rfl|rfl<;>rfl) (fun e=>o.sO e) hw.size om sm fun A' c' a g g2 h=> ?_
 have s:=bG.grown st.s g2;refine d A' c' a h ⟨by rw[eH];exact g,fun x hx=> ?_,fun x hx=> ?_⟩ s
 ·rcases fi.1 hx with hx|hx
  ·exact(st.f x hx).gh s
  ·rw[eb.1 hx];exact hy.gh s
 ·rcases fi.1 hx with hx|hx
  ·exact st.o x hx
  ·rw[eb.1 hx];exact ok
variable (nx:∀W I6 I7 Ls OX,Below w0.heap.size w0 W->oQ W w0.heap.size I6 (n4+1) I7 (nz++[y])->iA W w0.heap.size Ls (n5+1) OX (qM++[z])->iA W w0.heap.size rI n xZ zs->GG Ls rI->L I6 (n4+1) I7 Ls (n5+1) OX W) (hi:i<1000) (RM:n5<=50) (RI:n4<=50) (hz:z∈zs)
include nx hi RM hz
theorem LR{I6:Option Addr}{I7:Nat}(st:oQ W w0.heap.size I6 (n4+1) I7 (nz++[y]))(ev:iA W w0.heap.size A5 n5 c5 qM)(d:iA W w0.heap.size rI n xZ zs)(sep:GG A5 rI)(hw:Below w0.heap.size w0 W){A2:Option Addr}{c2 lo:Nat}(o:aE W lo 32 A2 1 c2 6 [z.row]):
  ae Tryz.prog (Builtin.append_ #[22,22] 22 #[.slice A5 n5 c5,.slice A2 1 c2]) w0.heap.size [] W fun r w1=>∃A n c,r= .slice A n c/\(aU .i64 ((i:Int)+1)/\L I6 (n4+1) I7 A n c w1):=by
 rcases o.sl with e|⟨b,off,cs,ty,fr,rfl,C,D⟩
 ·cases e
 refine Dv sQ lf ev.s.1 (m:=1) (news:=z.row) rfl (fun j u hu=> ?_) (fun u hu=> ?_) hw.size om om sm fun A' c' h E g2 F loc=>⟨ir,?_⟩
 ·have hj:j<z.row.length:=(eh.1 hu).1;obtain⟨_,k⟩:=D 0 sm j (by simpa using hj);rw[bT] ;simp only[World.cell?,C];rw[Sx,va]at k;rw[k,<-hu];exact(af hj).symm
 ·simp only[Em.row,cc,fs,u1]at hu;rcases hu with rfl|rfl|rfl|rfl|rfl|rfl<;>rfl
 ·have s:=bG.grown ev.s g2;have on:aE h w0.heap.size 32 A' (n5+1) c' 6 ((qM++[z]).map Em.row):=⟨by rw[eH,po];simpa using E,by simp[ev.s.rows],fun r G=>by obtain⟨x,_,rfl⟩:=hM.1 G;rfl⟩;refine nx h I6 I7 A' c' (hw.trans F) (st.MG s) ⟨on,fun x hx=> ?_,fun x hx=> ?_⟩ ⟨d.s.other fun a ha=>g2.block _ (d.s.uJ a ha).2 fun q=> ?_,fun x hx=>(d.f x hx).bW s,d.o⟩ fun a b ha hb q=> ?_
  ·rcases fi.1 hx with hx|hx
   ·exact(ev.f x hx).bW s
   ·rw[eb.1 hx];exact(d.f z hz).bW s
  ·rcases fi.1 hx with hx|hx
   ·exact ev.o x hx
   ·rw[eb.1 hx];exact d.o z hz
  ·cases g:A5 with
   |none=>rw[g]at q;cases q
   |some a5=>
    rw[g]at q;have q:some a.block=some a5.block:=q;exact sep a5 a g ha (HU q).symm
  ·subst ha;have H:=(d.s.uJ b hb).2;have loc:(some a.block=Value.ownBlock (.slice A5 n5 c5))∨some a.block=some W.heap.size:=loc;rcases loc with l|l
   ·cases g:A5 with
    |none=>rw[g]at l;cases l
    |some a5=>
     rw[g]at l;have l:some a.block=some a5.block:=l;have:=HU l;exact sep a5 b g hb (by rw[<-this];exact q)
   ·have:=HU l;omega
theorem Sr{I6:Option Addr}{I7:Nat}(st:oQ W w0.heap.size I6 (n4+1) I7 (nz++[y]))(ev:iA W w0.heap.size A5 n5 c5 qM)(a:iA W w0.heap.size rI n xZ zs)(sep:GG A5 rI)(hw:Below w0.heap.size w0 W):
  ae Tryz.prog (Instr.buildSlice 22 1 #[(0,z.val)]) W.heap.size [] W fun r w1=>∃A m c,r= .slice A m c/\
   ae Tryz.prog (Builtin.append_ #[22,22] 22 #[.slice A5 n5 c5,.slice A m c]) w0.heap.size [] w1 fun r w1=>∃A n c,r= .slice A n c/\(aU .i64 ((i:Int)+1)/\L I6 (n4+1) I7 A n c w1):=
 bc sQ [z.val] (by simp[Value.cells]) sm lf fun A c d o b=>LR nx hi RM hz (st.below b) (ev.below b) (a.below b) sep (kP hw b) (show aE d _ _ A 1 c 6 [z.row]from o)
include RI
theorem Ss(st:oQ W w0.heap.size A4 n4 c4 nz)(ev:iA W w0.heap.size A5 n5 c5 qM)(e:iA W w0.heap.size rI n xZ zs)(sep:GG A5 rI)(hw:Below w0.heap.size w0 W)(hy:dP W w0.heap.size y.k y.xs y.x)(ok:dz y.x){A2:Option Addr}{c2 lo:Nat}(o:aE W lo 49 A2 1 c2 14 [y.row]):
  (ae Tryz.prog (Builtin.append_ #[25,25] 25 #[.slice A4 n4 c4,.slice A2 1 c2]) w0.heap.size [] W fun r w1=>∃A' n' c',r= .slice A' n' c'/\
   ae Tryz.prog (Instr.buildSlice 22 1 #[(0,z.val)]) w1.heap.size [] w1 fun r w1=>∃A m c,r= .slice A m c/\
    ae Tryz.prog (Builtin.append_ #[22,22] 22 #[.slice A5 n5 c5,.slice A m c]) w0.heap.size [] w1 fun r w1=>∃A n c,r= .slice A n c/\(aU .i64 ((i:Int)+1)/\L A' n' c' A n c w1))/\
  ae Tryz.prog (Instr.buildSlice 22 1 #[(0,z.val)]) W.heap.size [] W fun r w1=>∃A m c,r= .slice A m c/\
   ae Tryz.prog (Builtin.append_ #[25,25] 25 #[.slice A4 n4 c4,.slice A2 1 c2]) w0.heap.size [] w1 fun r w1=>∃A' n' c',r= .slice A' n' c'/\
    ae Tryz.prog (Builtin.append_ #[22,22] 22 #[.slice A5 n5 c5,.slice A m c]) w0.heap.size [] w1 fun r w1=>∃A n c,r= .slice A n c/\(aU .i64 ((i:Int)+1)/\L A' n' c' A n c w1):=by
 constructor
 ·exact GH st hy ok o hw RI fun A' c' g b d s2=>Sr nx hi RM hz d (ev.gh s2) (e.gh s2) sep (hw.trans b)
 ·refine bc sQ [z.val] (by simp[Value.cells]) sm lf fun A c w1 h a=> ?_
  exact GH (st.below a) (hy.below a) ok (o.below a) (kP hw a) RI fun A' c' g b d s2=>LR nx hi RM hz d ((ev.below a).gh s2) ((e.below a).gh s2) sep ((kP hw a).trans b) ((show aE w1 _ _ A 1 c 6 [z.row]from h).bW s2 dc)
end
end Go.Proofs.YtbcojgcjjpggnaaGreatDoor.B
