/- Part 11 of the proofs that: without rules, and with holds that can take everything, any order of steps that only put in is one -/
import Derived.Test.YtgfkeadgjkfomaaGreatDoorH10
import Derived.Test.YtgfkeadgjkfomaaGreatDoorProg
import Derived.Test.YtgfkeadgjkfomaaGreatDoorCards
import Derived.Test.YtgfkeadgjkfomaaGreatDoorTie
import Derived.WalkKit
import Derived.ProofKit
import Derived.OpenShut
import Derived.Carry
import Derived.Deep.DeepHandedRow
import Derived.Deep.DeepWitnessRowRef
import Derived.Deep.Slices
import Derived.Deep.Fields
import Derived.Lib.SmallJoins
import Derived.Lib.LaidIn
import Derived.Lib.LaidTab
import Derived.Stop.LaidErr
import Derived.Shelf.Vars
import Derived.Laws.IdiomArrays
set_option linter.unusedVariables false
set_option linter.unusedSimpArgs false
set_option maxRecDepth 100000
set_option maxHeartbeats 4000000
namespace Go.Proofs.YtgfkeadgjkfomaaGreatDoor.F
open Go Go.RowKit Go.Proofs Go.Proofs.YtgfkeadgjkfomaaGreatDoor.Vc
def garboardlaw51_SequenceFree.L6(a:Option Addr)(b c:Nat)(d:Option Addr)(e f:Nat)(g i:Int)(j:Option Addr)(l m:Nat)(n:Option Addr)(o p:Nat)(q:Option Addr)(r s:Nat)(t:Option Addr)(u v:Nat)(x:Option Addr)(y z:Nat)(A:Option Addr)(C D B:Nat)(w:World)(R:Value->World->Prop):Prop:=At Tryz.prog 7 122 (loopAt Tryz.f7 6) [(1,.v (.slice a b c)),(2,.v (.slice d e f)),(3,.loc 3 0),(7,.loc 7 0),(25,.v (.int .i64 g)),(26,.v (.int .i64 i))] [⟨3,false,28,[(.slice j l m),(.slice n o p),(.slice q r s)]⟩,⟨7,false,28,[(.slice t u v),(.slice x y z),(.slice A C D)]⟩] B w R
def garboardlaw51_SequenceFree.L13(a:Option Addr)(b c:Nat)(d:Option Addr)(e f:Nat)(g:Option Addr)(i j:Nat)(l m:Int)(n:Option Addr)(o p:Nat)(q:Option Addr)(r s:Nat)(t:Option Addr)(u v B:Nat)(w:World)(R:Value->World->Prop):Prop:=At Tryz.prog 7 122 (loopAt Tryz.f7 13) [(1,.v (.slice a b c)),(2,.v (.slice d e f)),(7,.loc 7 0),(57,.v (.slice g i j)),(58,.v (.int .i64 l)),(59,.v (.int .i64 m))] [⟨7,false,28,[(.slice n o p),(.slice q r s),(.slice t u v)]⟩] B w R
def garboardlaw51_SequenceFree.L23(a b:Int)(c:Option Addr)(d e:Nat)(f g:Int)(B:Nat)(w:World)(R:Value->World->Prop):Prop:=At Tryz.prog 7 122 (loopAt Tryz.f7 23) [(13,.v (.int .i64 a)),(14,.v (.int .i64 b)),(101,.v (.slice c d e)),(102,.v (.int .i64 f)),(103,.v (.int .i64 g))] [] B w R
noncomputable def garboardlaw51_SequenceFree.cx(w:World)(B:Nat)(R:Value->World->Prop):Cx:=⟨Tryz.prog,7,122,Tryz.f7.results.toList,[((true,6),[1,2,3,7,25,26],[3,7]),((true,13),[1,2,7,57,58,59],[7]),((true,23),[13,14,101,102,103],[])],[],w,B,R⟩
theorem garboardlaw51_SequenceFree.L6.step(z:Option Addr)(A C:Nat)(G:Option Addr)(D H:Nat)(E a:Int)(i:Option Addr)(j l:Nat)(m:Option Addr)(n o:Nat)(p:Option Addr)(q r:Nat)(f:Option Addr)(e g:Nat)(c:Option Addr)(d s:Nat)(t:Option Addr)(u v B:Nat)(w:World)(R:Value->World->Prop)
  (h:(((a<E)->((0<=a/\a<d)/\∃b,c=some b/\((∀I,Ext B [] w I->(∃(J:List Value)(K:Nat),B<=((b.add ((a).toNat*7)).add 2).block/\((b.add ((a).toNat*7)).add 2).spot=none/\I.heap[((b.add ((a).toNat*7)).add 2).block]? =some (.cells J.toArray K (0,0))/\((b.add ((a).toNat*7)).add 2).off+1<=J.length/\hasType K [⟨3,false,28,[.slice i j l,.slice m n o,.slice p q r]⟩,⟨7,false,28,[.slice f e g,.slice c d s,.slice t u v]⟩]=false/\∀L,Wrote I L ((b.add ((a).toNat*7)).add 2).block K (setCells J ((b.add ((a).toNat*7)).add 2).off [(.string ⟨#[49,48,48,48,48,48,48]⟩)])->((0<=a/\a<d)/\∃x,c=some x/\(∃(M:List Value)(N:Nat),B<=((x.add ((a).toNat*7)).add 3).block/\((x.add ((a).toNat*7)).add 3).spot=none/\L.heap[((x.add ((a).toNat*7)).add 3).block]? =some (.cells M.toArray N (0,0))/\((x.add ((a).toNat*7)).add 3).off+1<=M.length/\hasType N [⟨3,false,28,[.slice i j l,.slice m n o,.slice p q r]⟩,⟨7,false,28,[.slice f e g,.slice c d s,.slice t u v]⟩]=false/\∀a0,Wrote L a0 ((x.add ((a).toNat*7)).add 3).block N (setCells M ((x.add ((a).toNat*7)).add 3).off [(.string ⟨#[49,48,48,48,48,48,48]⟩)])->(inR .i64 (a+1)/\(garboardlaw51_SequenceFree.L6 z A C G D H E (a+1) i j l m n o p q r f e g c d s t u v B a0 R))))))/\(∀O,Ext B [] w O->(∃(Q:List Value)(S:Nat),B<=((b.add ((a).toNat*7)).add 2).block/\((b.add ((a).toNat*7)).add 2).spot=none/\O.heap[((b.add ((a).toNat*7)).add 2).block]? =some (.cells Q.toArray S (0,0))/\((b.add ((a).toNat*7)).add 2).off+1<=Q.length/\hasType S [⟨3,false,28,[.slice i j l,.slice m n o,.slice p q r]⟩,⟨7,false,28,[.slice f e g,.slice c d s,.slice t u v]⟩]=false/\∀T,Wrote O T ((b.add ((a).toNat*7)).add 2).block S (setCells Q ((b.add ((a).toNat*7)).add 2).off [(.string ⟨#[49,48,48,48,48,48,48]⟩)])->((0<=a/\a<d)/\∃y,c=some y/\(∃(U:List Value)(V:Nat),B<=((y.add ((a).toNat*7)).add 3).block/\((y.add ((a).toNat*7)).add 3).spot=none/\T.heap[((y.add ((a).toNat*7)).add 3).block]? =some (.cells U.toArray V (0,0))/\((y.add ((a).toNat*7)).add 3).off+1<=U.length/\hasType V [⟨3,false,28,[.slice i j l,.slice m n o,.slice p q r]⟩,⟨7,false,28,[.slice f e g,.slice c d s,.slice t u v]⟩]=false/\∀a1,Wrote T a1 ((y.add ((a).toNat*7)).add 3).block V (setCells U ((y.add ((a).toNat*7)).add 3).off [(.string ⟨#[49,48,48,48,48,48,48]⟩)])->(inR .i64 (a+1)/\(garboardlaw51_SequenceFree.L6 z A C G D H E (a+1) i j l m n o p q r f e g c d s t u v B a1 R)))))))))/\(¬(a<E)->(Pure P 11 #[.agg #[.slice i j l,.slice m n o,.slice p q r],.slice none 0 0,.slice z A C] w fun a3 X=>∃Y,a3= .bool Y/\(((Y=false)->(R (.bool true) X))/\(¬(Y=false)->((((D:Int)>70)->(R (.bool true) X))/\(¬((D:Int)>70)->(Pure P 32 #[.slice z A C,(.func (.func 33) #[] #[])] X fun a4 a2=>∃Z,a4= .bool Z/\((Z=true->(R (.bool true) a2))/\(Z=false->(garboardlaw51_SequenceFree.L13 z A C G D H f e g (e:Int) (0:Int) f e g c d s t u v B a2 R)))))))))))):
  garboardlaw51_SequenceFree.L6 z A C G D H E a i j l m n o p q r f e g c d s t u v B w R:=
 loop_of_run (garboardlaw51_SequenceFree.cx w B R) 100000 (loopAt Tryz.f7 6) _ _ follows Tryz.func7 rfl rfl rfl (Eq.mp (by kernel_rfl) h)
theorem garboardlaw51_SequenceFree.L13.step(c:Option Addr)(d e:Nat)(r:Option Addr)(s t:Nat)(u:Option Addr)(v D:Nat)(f a:Int)(g:Option Addr)(i j:Nat)(l:Option Addr)(m n:Nat)(o:Option Addr)(p q B:Nat)(w:World)(R:Value->World->Prop)
  (h:(((a<f)->((0<=a/\a<v)/\∃E,u=some E/\(∃b6 b7 b8 b9 x y c0,CellsAt w (E.add ((a).toNat*7)) [.int .i64 b6,.int .i64 b7,.int .i64 b8,.string b9,.string x,.string y,.string c0]/\(((((ByteArray.size x:Int):Int)>4)->(∀G,Ext B [] w G->(R (.bool true) G)))/\(¬(((ByteArray.size x:Int):Int)>4)->(((((ByteArray.size y:Int):Int)>4)->(∀H,Ext B [] w H->(R (.bool true) H)))/\(¬(((ByteArray.size y:Int):Int)>4)->(inR .i64 (a+1)/\(∀I,Ext B [] w I->(garboardlaw51_SequenceFree.L13 c d e r s t u v D f (a+1) g i j l m n o p q B I R))))))))))/\(¬(a<f)->(Pure P 17 #[.agg #[.slice g i j,.slice l m n,.slice o p q]] w fun c1 c2=>∃J K L M N O Q S T,c1= .agg #[.slice J K L,.slice M N O,.slice Q S T]/\(Pure P 18 #[.slice c d e] c2 fun c3 c4=>∃U V X,c3= .slice U V X/\(Pure P 22 #[.agg #[.slice J K L,.slice M N O,.slice Q S T],.slice none 0 0,.slice U V X] c4 fun c5 c6=>∃Y b Z z,c5= .tuple #[.slice Y b Z,.int .i64 z]/\(Pure P 17 #[.agg #[.slice g i j,.slice l m n,.slice o p q]] c6 fun c7 c8=>∃a0 a1 a2 a3 a4 a5 a6 a7 a8,c7= .agg #[.slice a0 a1 a2,.slice a3 a4 a5,.slice a6 a7 a8]/\(Pure P 18 #[.slice c d e] c8 fun c9 d0=>∃a9 b0 b1,c9= .slice a9 b0 b1/\(Pure P 28 #[.slice r s t] d0 fun d1 d2=>∃b2 b3 b4,d1= .slice b2 b3 b4/\(Pure P 27 #[.agg #[.slice a0 a1 a2,.slice a3 a4 a5,.slice a6 a7 a8],.slice none 0 0,.slice a9 b0 b1,.slice b2 b3 b4] d2 fun d3 A=>∃b5 C,d3= .tuple #[.int .i64 b5,.int .i64 C]/\(((z≠0)->((((b:Int)=0)->(R (.bool (decide (C≠0))) A))/\(¬((b:Int)=0)->(R (.bool false) A))))/\(¬(z≠0)->(garboardlaw51_SequenceFree.L23 b5 C Y b Z (b:Int) (0:Int) B A R))))))))))))):
  garboardlaw51_SequenceFree.L13 c d e r s t u v D f a g i j l m n o p q B w R:=
 loop_of_run (garboardlaw51_SequenceFree.cx w B R) 100000 (loopAt Tryz.f7 13) _ _ follows Tryz.func7 rfl rfl rfl (Eq.mp (by kernel_rfl) h)
theorem garboardlaw51_SequenceFree.L23.step(c b:Int)(e:Option Addr)(f i:Nat)(d a:Int)(B:Nat)(w:World)(R:Value->World->Prop)
  (h:(((a<d)->((0<=a/\a<f)/\∃j,e=some j/\(∃g,CellsAt w (j.add ((a).toNat*1)) [.int .i64 g]/\(((g≠a)->(R (.bool false) w))/\(¬(g≠a)->(inR .i64 (a+1)/\(garboardlaw51_SequenceFree.L23 c b e f i d (a+1) B w R)))))))/\(¬(a<d)->(((b=0)->(((c=(-1:Int))->(R (.bool true) w))/\(¬(c=(-1:Int))->(R (.bool (decide (b=10))) w))))/\(¬(b=0)->(R (.bool (decide (b=10))) w)))))):
  garboardlaw51_SequenceFree.L23 c b e f i d a B w R:=
 loop_of_run (garboardlaw51_SequenceFree.cx w B R) 100000 (loopAt Tryz.f7 23) _ _ follows Tryz.func7 rfl rfl rfl (Eq.mp (by kernel_rfl) h)
theorem garboardlaw51_SequenceFree.vc(a:Option Addr)(b c:Nat)(d:Option Addr)(e f:Nat)(g:Option Addr)(i j:Nat)(n:Option Addr)(o p:Nat)(q:Option Addr)(r s:Nat)(w:World)(R:Value->World->Prop)
  (h:(∀t,Ext w.heap.size [] w t->(Pure P 10 #[] t fun D u=>∃l,D= .bool l/\(((l=false)->(R (.bool false) u))/\(¬(l=false)->(Pure P 17 #[.agg #[.slice a b c,.slice d e f,.slice g i j]] u fun E G=>∃v x y z m A H I J,E= .agg #[.slice v x y,.slice z m A,.slice H I J]/\(∀C,Ext w.heap.size [] G C->(garboardlaw51_SequenceFree.L6 n o p q r s (m:Int) (0:Int) a b c d e f g i j v x y z m A none 0 0 w.heap.size C R)))))))):
  Pure P 7 #[.agg #[.slice a b c,.slice d e f,.slice g i j],.slice n o p,.slice q r s] w R:=
 pure_of_run (garboardlaw51_SequenceFree.cx w w.heap.size R) 100000 follows Tryz.func7 rfl rfl rfl rfl rfl rfl rfl (Eq.mp (by kernel_rfl) h)

noncomputable def garboardlaw51_awake.cx(w:World)(B:Nat)(R:Value->World->Prop):Cx:=⟨Tryz.prog,10,103,Tryz.f10.results.toList,[],[(1,2,2),(6,2,2),(7,16,2),(7,21,2),(7,37,2),(7,52,2)],w,B,R⟩
theorem garboardlaw51_awake.vc  (w:World)(R:Value->World->Prop)
  (h:(RunOk P (Instr.buildSlice 30 2 #[(0,(.agg #[.int .i64 2,.int .i64 1,.int .i64 1])),(1,(.agg #[.int .i64 1,.int .i64 1,.int .i64 1]))]) w.heap.size [] w fun r2 w3=>∃c g d,r2= .slice c g d/\(Pure P 38 #[] w3 fun r7 w8=>∃C D E G H I J K L,r7= .agg #[.slice C D E,.slice G H I,.slice J K L]/\(Pure P 22 #[.agg #[.slice C D E,.slice G H I,.slice J K L],.slice none 0 0,.slice c g d] w8 fun q0 q1=>∃M N O n,q0= .tuple #[.slice M N O,.int .i64 n]/\(Pure P 38 #[] q1 fun q2 q3=>∃Q S T U V X Y Z a0,q2= .agg #[.slice Q S T,.slice U V X,.slice Y Z a0]/\(Pure P 24 #[.agg #[.slice Q S T,.slice U V X,.slice Y Z a0],.slice none 0 0,.slice c g d] q3 fun q4 q5=>∃a1 a2 a3 o,q4= .tuple #[.slice a1 a2 a3,.int .i64 o]/\(Pure P 38 #[] q5 fun q6 q7=>∃a4 a5 a6 a7 a8 a9 b0 b1 b2,q6= .agg #[.slice a4 a5 a6,.slice a7 a8 a9,.slice b0 b1 b2]/\(Pure P 16 #[.agg #[.slice a4 a5 a6,.slice a7 a8 a9,.slice b0 b1 b2],.slice none 0 0,.slice c g d,.int .i64 3] q7 fun q8 q9=>∃b3 m b4 p,q8= .tuple #[.slice b3 m b4,.int .i64 p]/\(Pure P 38 #[] q9 fun r0 r1=>∃b5 b6 b7 b8 b9 c0 r2 r3 r4,r0= .agg #[.slice b5 b6 b7,.slice b8 b9 c0,.slice r2 r3 r4]/\(Pure P 12 #[.agg #[.slice b5 b6 b7,.slice b8 b9 c0],.slice none 0 0,.slice b3 m b4] r1 fun r5 r6=>∃q r s t,r5= .tuple #[.slice q r s,.int .i64 t]/\(Pure P 38 #[] r6 fun r7 r8=>∃c1 c2 c3 c4 c5 c6 c7 c8 c9,r7= .agg #[.slice c1 c2 c3,.slice c4 c5 c6,.slice c7 c8 c9]/\(RunOk P (Instr.buildSlice 48 2 #[(0,(.int .i64 0)),(1,(.int .i64 1))]) w.heap.size [] r8 fun r9 s0=>∃d0 d1 d2,r9= .slice d0 d1 d2/\(Pure P 27 #[.agg #[.slice c1 c2 c3,.slice c4 c5 c6,.slice c7 c8 c9],.slice none 0 0,.slice c g d,.slice d0 d1 d2] s0 fun s1 a=>∃i j,s1= .tuple #[.int .i64 i,.int .i64 j]/\(((n=0)->(((o=0)->(((p=0)->(((t=0)->(∀d3,Ext w.heap.size [] a d3->(RunOk P (Instr.buildSlice 48 2 #[(0,(.int .i64 1)),(1,(.int .i64 0))]) w.heap.size [] d3 fun s2 s3=>∃d4 d5 d6,s2= .slice d4 d5 d6/\(Pure P 26 #[.slice M N O,.slice d4 d5 d6] s3 fun s4 l=>∃u,s4= .bool u/\((u=true->(RunOk P (Instr.buildSlice 48 3 #[(0,(.int .i64 0)),(1,(.int .i64 2)),(2,(.int .i64 3))]) w.heap.size [] l fun s5 s6=>∃d7 d8 d9,s5= .slice d7 d8 d9/\(Pure P 26 #[.slice a1 a2 a3,.slice d7 d8 d9] s6 fun s7 b=>∃v,s7= .bool v/\((v=true->((((m:Int)=2)->((0<=(1:Int)/\(1:Int)<g)/\∃x,c=some x/\((0<=(0:Int)/\(0:Int)<g)/\∃y,c=some y/\((∃e0 e1 e2,CellsAt b (x.add (((1:Int)).toNat*3)) [.int .i64 e0,.int .i64 e1,.int .i64 e2]/\(∃e3 e4 e5,CellsAt b (y.add (((0:Int)).toNat*3)) [.int .i64 e3,.int .i64 e4,.int .i64 e5]/\(RunOk P (Instr.buildSlice 30 2 #[(0,(.agg #[.int .i64 e0,.int .i64 e1,.int .i64 e2])),(1,(.agg #[.int .i64 e3,.int .i64 e4,.int .i64 e5]))]) w.heap.size [] b fun s8 s9=>∃e6 e7 e8,s8= .slice e6 e7 e8/\(Pure P 39 #[.slice q r s,.slice e6 e7 e8] s9 fun t0 e=>∃z,t0= .bool z/\((z=true->(((i=0)->(((j=15)->((0<=(1:Int)/\(1:Int)<=(d:Int))/\((Pure P 38 #[] e fun t1 t2=>∃e9 f0 f1 f2 f3 f4 f5 f6 f7,t1= .agg #[.slice e9 f0 f1,.slice f2 f3 f4,.slice f5 f6 f7]/\(RunOk P (Instr.buildSlice 48 1 #[(0,(.int .i64 0))]) w.heap.size [] t2 fun t3 t4=>∃f8 f9 g0,t3= .slice f8 f9 g0/\(Pure P 30 #[.agg #[.slice e9 f0 f1,.slice f2 f3 f4,.slice f5 f6 f7],.slice none 0 0,(.slice c (((1:Int)).toNat) d),.slice f8 f9 g0] t4 fun t5 t6=>∃g1,t5= .int .i64 g1/\(R (.bool (decide (g1=0))) t6))))/\(RunOk P (Instr.buildSlice 48 1 #[(0,(.int .i64 0))]) w.heap.size [] e fun t7 t8=>∃g2 g3 g4,t7= .slice g2 g3 g4/\(Pure P 38 #[] t8 fun t9 v0=>∃g5 g6 g7 g8 g9 j0 j1 j2 j3,t9= .agg #[.slice g5 g6 g7,.slice g8 g9 j0,.slice j1 j2 j3]/\(Pure P 30 #[.agg #[.slice g5 g6 g7,.slice g8 g9 j0,.slice j1 j2 j3],.slice none 0 0,(.slice c (((1:Int)).toNat) d),.slice g2 g3 g4] v0 fun v1 v2=>∃j4,v1= .int .i64 j4/\(R (.bool (decide (j4=0))) v2)))))))/\(¬(j=15)->((R (.bool false) e)/\(R (.bool false) e)))))/\(¬(i=0)->((R (.bool false) e)/\(R (.bool false) e)))))/\(z=false->((R (.bool false) e)/\(R (.bool false) e))))))))/\(∃j5 j6 j7,CellsAt b (y.add (((0:Int)).toNat*3)) [.int .i64 j5,.int .i64 j6,.int .i64 j7]/\(∃j8 j9 l0,CellsAt b (x.add (((1:Int)).toNat*3)) [.int .i64 j8,.int .i64 j9,.int .i64 l0]/\(RunOk P (Instr.buildSlice 30 2 #[(0,(.agg #[.int .i64 j8,.int .i64 j9,.int .i64 l0])),(1,(.agg #[.int .i64 j5,.int .i64 j6,.int .i64 j7]))]) w.heap.size [] b fun v3 v4=>∃l1 l2 l3,v3= .slice l1 l2 l3/\(Pure P 39 #[.slice q r s,.slice l1 l2 l3] v4 fun v5 f=>∃A,v5= .bool A/\((A=true->(((i=0)->(((j=15)->((0<=(1:Int)/\(1:Int)<=(d:Int))/\((Pure P 38 #[] f fun v6 v7=>∃l4 l5 l6 l7 l8 l9 m0 m1 m2,v6= .agg #[.slice l4 l5 l6,.slice l7 l8 l9,.slice m0 m1 m2]/\(RunOk P (Instr.buildSlice 48 1 #[(0,(.int .i64 0))]) w.heap.size [] v7 fun v8 v9=>∃m3 m4 m5,v8= .slice m3 m4 m5/\(Pure P 30 #[.agg #[.slice l4 l5 l6,.slice l7 l8 l9,.slice m0 m1 m2],.slice none 0 0,(.slice c (((1:Int)).toNat) d),.slice m3 m4 m5] v9 fun x0 x1=>∃m6,x0= .int .i64 m6/\(R (.bool (decide (m6=0))) x1))))/\(RunOk P (Instr.buildSlice 48 1 #[(0,(.int .i64 0))]) w.heap.size [] f fun x2 x3=>∃m7 m8 m9,x2= .slice m7 m8 m9/\(Pure P 38 #[] x3 fun x4 x5=>∃n0 n1 n2 n3 n4 n5 n6 n7 n8,x4= .agg #[.slice n0 n1 n2,.slice n3 n4 n5,.slice n6 n7 n8]/\(Pure P 30 #[.agg #[.slice n0 n1 n2,.slice n3 n4 n5,.slice n6 n7 n8],.slice none 0 0,(.slice c (((1:Int)).toNat) d),.slice m7 m8 m9] x5 fun x6 x7=>∃n9,x6= .int .i64 n9/\(R (.bool (decide (n9=0))) x7)))))))/\(¬(j=15)->((R (.bool false) f)/\(R (.bool false) f)))))/\(¬(i=0)->((R (.bool false) f)/\(R (.bool false) f)))))/\(A=false->((R (.bool false) f)/\(R (.bool false) f))))))))))))/\(¬((m:Int)=2)->(((R (.bool false) b)/\(R (.bool false) b))/\((R (.bool false) b)/\(R (.bool false) b))))))/\(v=false->(((R (.bool false) b)/\(R (.bool false) b))/\((R (.bool false) b)/\(R (.bool false) b))))))))/\(u=false->(((R (.bool false) l)/\(R (.bool false) l))/\((R (.bool false) l)/\(R (.bool false) l)))))))))/\(¬(t=0)->(((∀o0,Ext w.heap.size [] a o0->(R (.bool false) o0))/\(∀o1,Ext w.heap.size [] a o1->(R (.bool false) o1)))/\((∀o2,Ext w.heap.size [] a o2->(R (.bool false) o2))/\(∀o3,Ext w.heap.size [] a o3->(R (.bool false) o3)))))))/\(¬(p=0)->(((∀o4,Ext w.heap.size [] a o4->(R (.bool false) o4))/\(∀o5,Ext w.heap.size [] a o5->(R (.bool false) o5)))/\((∀o6,Ext w.heap.size [] a o6->(R (.bool false) o6))/\(∀o7,Ext w.heap.size [] a o7->(R (.bool false) o7)))))))/\(¬(o=0)->(((∀o8,Ext w.heap.size [] a o8->(R (.bool false) o8))/\(∀o9,Ext w.heap.size [] a o9->(R (.bool false) o9)))/\((∀p0,Ext w.heap.size [] a p0->(R (.bool false) p0))/\(∀p1,Ext w.heap.size [] a p1->(R (.bool false) p1)))))))/\(¬(n=0)->(((∀p2,Ext w.heap.size [] a p2->(R (.bool false) p2))/\(∀p3,Ext w.heap.size [] a p3->(R (.bool false) p3)))/\((∀p4,Ext w.heap.size [] a p4->(R (.bool false) p4))/\(∀p5,Ext w.heap.size [] a p5->(R (.bool false) p5))))))))))))))))))):
  Pure P 10 #[] w R:=
 pure_of_run (garboardlaw51_awake.cx w w.heap.size R) 100000 follows Tryz.func10 rfl rfl rfl rfl rfl rfl rfl (Eq.mp (by kernel_rfl) h)

noncomputable def garboardlaw51_few.cx(w:World)(B:Nat)(R:Value->World->Prop):Cx:=⟨Tryz.prog,11,19,Tryz.f11.results.toList,[],[],w,B,R⟩
theorem garboardlaw51_few.vc(d:Option Addr)(e f:Nat)(g:Option Addr)(i j:Nat)(l:Option Addr)(m n:Nat)(q:Option Addr)(a r:Nat)(s:Option Addr)(o t:Nat)(w:World)(R:Value->World->Prop)
  (h:(∀p,Ext w.heap.size [] w p->(Pure P 40 #[.agg #[.slice d e f,.slice g i j,.slice l m n]] p fun u b=>∃c,u= .bool c/\((c=true->((((a:Int)<=(40:Int))->(R (.bool (decide ((o:Int)<=(7:Int)))) b))/\(¬((a:Int)<=(40:Int))->(R (.bool false) b))))/\(c=false->(R (.bool false) b)))))):
  Pure P 11 #[.agg #[.slice d e f,.slice g i j,.slice l m n],.slice q a r,.slice s o t] w R:=
 pure_of_run (garboardlaw51_few.cx w w.heap.size R) 100000 follows Tryz.func11 rfl rfl rfl rfl rfl rfl rfl (Eq.mp (by kernel_rfl) h)

noncomputable def garboardlaw51_SequenceFree_c1.cx(w:World)(B:Nat)(R:Value->World->Prop):Cx:=⟨Tryz.prog,33,6,Tryz.f33.results.toList,[],[],w,B,R⟩
theorem garboardlaw51_SequenceFree_c1.vc(c d a:Int)(w:World)(R:Value->World->Prop)
  (h:(∀b,Ext w.heap.size [] w b->(R (.bool (decide (a<0))) b))):
  Pure P 33 #[.agg #[.int .i64 c,.int .i64 d,.int .i64 a]] w R:=
 pure_of_run (garboardlaw51_SequenceFree_c1.cx w w.heap.size R) 100000 follows Tryz.func33 rfl rfl rfl rfl rfl rfl rfl (Eq.mp (by kernel_rfl) h)

noncomputable def garboardlaw51_Two.cx(w:World)(B:Nat)(R:Value->World->Prop):Cx:=⟨Tryz.prog,38,15,Tryz.f38.results.toList,[],[(1,2,2),(1,7,2),(1,9,2),(1,12,2)],w,B,R⟩
theorem garboardlaw51_Two.vc  (w:World)(R:Value->World->Prop)
  (h:(∀a,Ext w.heap.size [] w a->(RunOk P (Instr.buildSlice 22 2 #[(0,(.agg #[.int .i64 1,.int .i64 3,.int .i64 1,(.string ⟨#[97]⟩),(.string ⟨#[50]⟩),(.string ⟨#[49]⟩),(.string ⟨#[53]⟩)])),(1,(.agg #[.int .i64 2,.int .i64 1,.int .i64 2,(.string ⟨#[98]⟩),(.string ⟨#[49,47,50]⟩),(.string ⟨#[52]⟩),(.string ⟨#[49]⟩)]))]) w.heap.size [28] a fun q r=>∃b c d,q= .slice b c d/\(RunOk P (Instr.buildSlice 23 2 #[(0,(.agg #[.int .i64 1,(.string ⟨#[65]⟩),(.string ⟨#[52]⟩),(.string ⟨#[55]⟩),(.string ⟨#[49,48]⟩),(.string ⟨#[48]⟩),(.string ⟨#[49]⟩)])),(1,(.agg #[.int .i64 2,(.string ⟨#[66]⟩),(.string ⟨#[57]⟩),(.string ⟨#[51]⟩),(.string ⟨#[45,53]⟩),(.string ⟨#[48]⟩),(.string ⟨#[49]⟩)]))]) w.heap.size [28] r fun s t=>∃e f g,s= .slice e f g/\(RunOk P (Instr.buildSlice 85 2 #[(0,(.string ⟨#[49,48]⟩)),(1,(.string ⟨#[45,53]⟩))]) w.heap.size [28] t fun u v=>∃i j l,u= .slice i j l/\(RunOk P (Instr.buildSlice 26 2 #[(0,(.agg #[(.string ⟨#[108,105,115,116]⟩),.int .i64 1,.slice i j l,(.string ⟨#[48]⟩),(.string ⟨#[51,48]⟩),.int .i64 0,.int .i64 0])),(1,(.agg #[(.string ⟨#[97,112,97,114,116]⟩),.int .i64 2,.slice none 0 0,(.string ⟨#[]⟩),(.string ⟨#[]⟩),.int .i64 1,.int .i64 2]))]) w.heap.size [28] v fun x y=>∃m n o,x= .slice m n o/\(∀p,Ext w.heap.size [28] y p->(R (.agg #[.slice b c d,.slice e f g,.slice m n o]) p)))))))):
  Pure P 38 #[] w R:=
 pure_of_run (garboardlaw51_Two.cx w w.heap.size R) 100000 follows Tryz.func38 rfl rfl rfl rfl rfl rfl rfl (Eq.mp (by kernel_rfl) h)

end Go.Proofs.YtgfkeadgjkfomaaGreatDoor.F

namespace Go.Proofs.YtgfkeadgjkfomaaGreatDoor.B
open Go Go.RowKit Go.Proofs Go.Proofs.YtgfkeadgjkfomaaGreatDoor.Vc

theorem CloneW{w:World}{A:Option Addr}{n c:Nat}{l:List Sw}(h:SlR w A 3 (l.map Sw.row))(hlen:l.length=n)(hn:n<=1000000):
  Pure Tryz.prog 18 #[.slice A n c] w fun v w'=>∃A' c',v= .slice A' n c'/\OwnR w' w.heap.size 44 A' n c' 3 (l.map Sw.row):=by
 refine F.slices_Clone_api_Work_api_Work.vc _ _ _ _ _ ⟨fun hA=> ?_,fun hA=> ?_⟩
 ·subst hA
  have:=h.none_nil
  simp at this
  subst this
  simp at hlen
  subst hlen
  exact⟨none,0,rfl,OwnR.nil⟩
 ·obtain⟨a,rfl⟩:=Option.ne_none_iff_exists'.1 hA
  refine runOk_lit el_Ws [] (by simp) (by simp) (Nat.le_refl _) fun A2 c2 w2 ho b2=> ?_
  refine app_rows el_Ws (Nat.le_refl _) (by simpa using ho) (h.below b2) (by simpa using hlen) rowS_len rowS_cell b2.size (by simp;omega) (by simp) fun A' c' w3 o3 _ b3=> ?_
  simp only[List.length_nil,Nat.zero_add,List.nil_append]at o3⊢
  exact⟨A',c',rfl,o3⟩
theorem EqualW{w0:World}{A A1:Option Addr}{n n1 c c1:Nat}{l l1:List Sw}(h:SlR w0 A 3 (l.map Sw.row))(h1:SlR w0 A1 3 (l1.map Sw.row))(hlen:l.length=n)(hlen1:l1.length=n1)(hn:n<2147483648):
  Pure Tryz.prog 39 #[.slice A n c,.slice A1 n1 c1] w0 fun y _=>y= .bool (decide (l=l1)):=by
 have key:n=n1->∀(d i:Nat)(w:World),n - i=d->i<=n->Below w0.heap.size w0 w->l.take i=l1.take i->F.slices_Equal_api_Work_api_Work.L4 A n c A1 n1 c1 n i w0.heap.size w fun y _=>y= .bool (decide (l=l1)):=by
  intro e d
  induction d with
  |zero=>
   intro i w hd hi hw hx
   refine F.slices_Equal_api_Work_api_Work.L4.step _ _ _ _ _ _ _ _ _ _ _ ⟨fun h=>by omega,fun _=> ?_⟩
   rw[List.take_of_length_le (by omega),List.take_of_length_le (by omega)]at hx
   rw[decide_eq_true hx]
  |succ d ih=>
   intro i w hd hi hw hx
   have hil:i<l.length:=by omega
   have hil1:i<l1.length:=by omega
   have e3:(i:Int)+1=((i+1:Nat):Int):=by omega
   obtain⟨hb,a,hA,hcell,_⟩:=(h.keep hw (Nat.le_refl _)).at_ (fun _=>rfl) hlen hil
   obtain⟨hb1,a1,hA1,hcell1,_⟩:=(h1.keep hw (Nat.le_refl _)).at_ (fun _=>rfl) hlen1 hil1
   refine F.slices_Equal_api_Work_api_Work.L4.step _ _ _ _ _ _ _ _ _ _ _ ⟨fun _=>⟨hb,a,hA,_,_,_,hcell,hb1,a1,hA1,_,_,_,hcell1,fun k w2 _=> ?_,fun k=>⟨by simp only[inR];omega,fun w2 x2=> ?_⟩⟩,fun h=>by omega⟩
   ·rw[decide_eq_false fun e=>k (by subst e;exact⟨rfl,rfl,rfl,trivial⟩)]
   ·rw[e3]
    refine ih (i+1) w2 (by omega) (by omega) (kE hw x2) ?_
    have k:=Decidable.not_not.1 k
    have e:l[i]=l1[i]:=by
     cases hx1:l[i]
     cases hx2:l1[i]
     rw[hx1,hx2]at k
     simp only at k
     rw[k.1,k.2.1,k.2.2.1]
    rw[List.take_add_one,List.take_add_one,hx,List.getElem?_eq_getElem hil,List.getElem?_eq_getElem hil1,e]
 refine F.slices_Equal_api_Work_api_Work.vc _ _ _ _ _ _ _ _ ⟨fun k=> ?_,fun k=>key (by omega) n 0 w0 rfl (by omega) (Below.refl _ _) (by simp)⟩
 rw[decide_eq_false fun e=>k (by subst e;omega)]

def rsT:List Ru:=[⟨⟨#[108,105,115,116]⟩,1,[⟨#[49,48]⟩,⟨#[45,53]⟩],⟨#[48]⟩,⟨#[51,48]⟩,0,0⟩,⟨⟨#[97,112,97,114,116]⟩,2,[],⟨#[]⟩,⟨#[]⟩,1,2⟩]
def wT:List Sw:=[⟨2,1,1⟩,⟨1,1,1⟩]
def sT:List Sw:=[⟨1,1,1⟩,⟨2,1,1⟩]
theorem rsT_sm:∀r∈rsT,SmRu r:=by
 intro r hr
 simp only[rsT,List.mem_cons,List.not_mem_nil,or_false]at hr
 rcases hr with rfl|rfl
 ·refine⟨fun s hs'=> ?_,by decide,by decide,by decide,by decide⟩
  simp only[List.mem_cons,List.not_mem_nil,or_false]at hs'
  rcases hs' with rfl|rfl<;>decide
 ·exact⟨fun s hs'=>(by cases hs'),by decide,by decide,by decide,by decide⟩
theorem t_order:orderF psT hsT rsT [] wT=([1,0],0):=by kernel_rfl
theorem t_reach:reachF psT hsT rsT [] wT=([0,2,3],0):=by kernel_rfl
theorem t_state:statesF psT hsT rsT [] wT 3=(sT,0):=by kernel_rfl
theorem t_between:betweenF psT hsT [] sT=([⟨1,1,1⟩,⟨2,1,1⟩],0):=by kernel_rfl
theorem t_orders:ordersF psT hsT rsT [] wT [0,1]=(0,15):=by kernel_rfl
theorem t_closed:closedF psT hsT rsT [] [⟨2,1,1⟩] [0]=0:=by kernel_rfl
theorem law51_Two(w:World):Pure Tryz.prog 38 #[] w fun v w'=>∃A c A' c' A2 c2 xs,v= .agg #[.slice A 2 c,.slice A' 2 c',.slice A2 2 c2]/\PrIn w' A 2 A' 2 A2 2 c2 psT hsT xs/\rsOf xs=rsT:=by
 refine F.garboardlaw51_Two.vc _ _ fun w1 x1=> ?_
 have hw:=k0 x1
 refine runOk_lit el_Pas (psT.map Pa.val) (by simp[psT,Value.cells]) (by simp[psT]) hw.size fun A c w2 o2 b2=> ?_
 have hw:=kP hw b2
 refine runOk_lit el_Hos (hsT.map Ho.val) (by simp[hsT,Value.cells]) (by simp[hsT]) hw.size fun A' c' w3 o3 b3=> ?_
 have hw:=kP hw b3
 refine runOk_lit el_Rats [.string ⟨#[49,48]⟩,.string ⟨#[45,53]⟩] (by simp[Value.cells]) (by simp) hw.size fun A8 c8 w4 o4 b4=> ?_
 have hw:=kP hw b4
 refine runOk_lit el_Rus [Rm.val ⟨⟨⟨#[108,105,115,116]⟩,1,[⟨#[49,48]⟩,⟨#[45,53]⟩],⟨#[48]⟩,⟨#[51,48]⟩,0,0⟩,A8,2,c8⟩,Rm.val ⟨⟨⟨#[97,112,97,114,116]⟩,2,[],⟨#[]⟩,⟨#[]⟩,1,2⟩,none,0,0⟩] (by simp[Value.cells]) (by simp) hw.size fun A2 c2 w5 o5 b5 w6 x6=> ?_
 have hk:=Kq.ext x6
 have p2:=(((o2.below b3).below b4).below b5).kq hk (by decide) (by decide)
 have p3:=((o3.below b4).below b5).kq hk (by decide) (by decide)
 have p4:=(o4.below b5).kq hk (by decide) (by decide)
 have p5:=o5.extT x6 (by decide)
 have s2:SlR w6 A 7 (psT.map Pa.row):=p2.sl
 have s3:SlR w6 A' 7 (hsT.map Ho.row):=p3.sl
 refine⟨A,c,A',c',A2,c2,[⟨⟨⟨#[108,105,115,116]⟩,1,[⟨#[49,48]⟩,⟨#[45,53]⟩],⟨#[48]⟩,⟨#[51,48]⟩,0,0⟩,A8,2,c8⟩,⟨⟨⟨#[97,112,97,114,116]⟩,2,[],⟨#[]⟩,⟨#[]⟩,1,2⟩,none,0,0⟩],rfl,⟨⟨s2,s3,rfl,rfl,fun p hp=> ?_,fun h hh=> ?_,by omega,by omega⟩,p5.sl,rfl,fun x hx=> ?_,by omega,p5.len_le⟩,rfl⟩
 ·simp only[psT,List.mem_cons,List.not_mem_nil,or_false]at hp
  rcases hp with rfl|rfl<;>exact⟨by decide,by decide,by decide,by decide⟩
 ·simp only[hsT,List.mem_cons,List.not_mem_nil,or_false]at hh
  rcases hh with rfl|rfl<;>exact⟨by decide,by decide,by decide,by decide,by decide,by decide⟩
 ·simp only[List.mem_cons,List.not_mem_nil,or_false]at hx
  rcases hx with rfl|rfl
  ·exact⟨p4.sl,rfl,rsT_sm _ (by simp[rsT]),p4.z⟩
  ·exact⟨.inl rfl,rfl,rsT_sm _ (by simp[rsT]),fun _=>rfl⟩
theorem law51_awake{w:World}(hg:Glob w):Pure Tryz.prog 10 #[] w fun v _=>v= .bool true:=by
 refine F.garboardlaw51_awake.vc _ _ ?_
 refine runOk_lit el_Ws (wT.map Sw.val) (by simp[wT,Value.cells]) (by simp[wT]) (Nat.le_refl _) fun A1 c1 w3 o3 b3=> ?_
 have h1:SlR w3 A1 3 (wT.map Sw.row):=o3.sl
 have hc1:2<=c1:=o3.len_le
 have hw:=b3
 refine Pure.mono (law51_Two w3) ?_
 rintro v w8 b8 ⟨A4,c4,A5,c5,A6,c6,xs,rfl,hp,hxs⟩
 have hw:=kP hw b8
 have h1:=h1.below b8
 refine⟨_,_,_,_,_,_,_,_,_,rfl,Pure.mono (seq_Order (l:=[]) (n:=0) (hg.next hw) hp (.inl rfl) rfl (Nat.le_refl _) (by omega) h1 rfl) ?_⟩
 rw[hxs,t_order]
 rintro v w12 b12 ⟨A9,n9,c9,rfl,s9,l9,_⟩
 have hw:=kP hw b12
 have h1:=h1.below b12
 refine⟨_,_,_,_,rfl,Pure.mono (law51_Two w12) ?_⟩
 rintro v w17 b17 ⟨A4,c4,A5,c5,A6,c6,xs,rfl,hp,hxs⟩
 have hw:=kP hw b17
 have h1:=h1.below b17
 have s9:=s9.below b17
 refine⟨_,_,_,_,_,_,_,_,_,rfl,Pure.mono (seq_Reached (l:=[]) (n:=0) (hg.next hw) hp (.inl rfl) rfl (Nat.le_refl _) (by omega) h1 rfl) ?_⟩
 rw[hxs,t_reach]
 rintro v w21 b21 ⟨A18,n18,c18,rfl,s18,l18,_⟩
 have hw:=kP hw b21
 have h1:=h1.below b21
 have s9:=s9.below b21
 refine⟨_,_,_,_,rfl,Pure.mono (law51_Two w21) ?_⟩
 rintro v w26 b26 ⟨A4,c4,A5,c5,A6,c6,xs,rfl,hp,hxs⟩
 have hw:=kP hw b26
 have h1:=h1.below b26
 have s9:=s9.below b26
 have s18:=s18.below b26
 refine⟨_,_,_,_,_,_,_,_,_,rfl,Pure.mono (seq_State (l:=[]) (n:=0) (hg.next hw) hp (.inl rfl) rfl (Nat.le_refl _) (by omega) h1 rfl 3) ?_⟩
 rw[hxs,t_state]
 rintro v w30 b30 ⟨A27,n27,c27,rfl,s27,l27,k27,_⟩
 have hw:=kP hw b30
 have h1:=h1.below b30
 have s9:=s9.below b30
 have s18:=s18.below b30
 have n27:2=n27:=l27
 subst n27
 refine⟨_,_,_,_,rfl,Pure.mono (law51_Two w30) ?_⟩
 rintro v w35 b35 ⟨A4,c4,A5,c5,A6,c6,xs,rfl,hp,hxs⟩
 have hw:=kP hw b35
 have h1:=h1.below b35
 have s9:=s9.below b35
 have s18:=s18.below b35
 have s27:=s27.below b35
 refine⟨_,_,_,_,_,_,_,_,_,rfl,Pure.mono (seq_Between (l:=[]) (n:=0) (m:=sT) (hg.next hw) hp.c (.inl rfl) rfl (Nat.le_refl _) (by omega) s27 rfl k27 (by omega)) ?_⟩
 rw[t_between]
 rintro v w39 b39 ⟨A36,n36,c36,rfl,s36,l36,_⟩
 have hw:=kP hw b39
 have h1:=h1.below b39
 have s9:=s9.below b39
 have s18:=s18.below b39
 refine⟨_,_,_,_,rfl,Pure.mono (law51_Two w39) ?_⟩
 rintro v w44 b44 ⟨A4,c4,A5,c5,A6,c6,xs,rfl,hp,hxs⟩
 have hw:=kP hw b44
 have h1:=h1.below b44
 have s9:=s9.below b44
 have s18:=s18.below b44
 have s36:=s36.below b44
 refine⟨_,_,_,_,_,_,_,_,_,rfl,runOk_lit el_Ints [.int .i64 0,.int .i64 1] (by simp[Value.cells]) (by simp) hw.size fun A45 c45 w47 o47 b47=> ?_⟩
 have hw:=kP hw b47
 have h1:=h1.below b47
 have s9:=s9.below b47
 have s18:=s18.below b47
 have s36:=s36.below b47
 have s45:SlR w47 A45 1 (([0,1]:List Int).map iRow):=o47.sl
 refine Pure.mono (seq_Check (l:=[]) (n:=0) (o:=[0,1]) (hg.next hw) (hp.keep b47) (.inl rfl) rfl (Nat.le_refl _) (by omega) h1 rfl s45 rfl (by decide)) ?_
 rw[hxs,t_orders]
 rintro v w51 b51 rfl
 have hw:=kP hw b51
 have h1:=h1.below b51
 have s9:=s9.below b51
 have s18:=s18.below b51
 have s36:=s36.below b51
 refine⟨_,_,rfl,fun _=>⟨fun _=>⟨fun _=>⟨fun _ w52 x52=> ?_,fun k=>absurd rfl k⟩,fun k=>absurd rfl k⟩,fun k=>absurd rfl k⟩,fun k=>absurd rfl k⟩
 have hw:=kE hw x52
 have h1:=h1.extNil x52
 have s9:=s9.extNil x52
 have s18:=s18.extNil x52
 have s36:=s36.extNil x52
 refine runOk_lit el_Ints [.int .i64 1,.int .i64 0] (by simp[Value.cells]) (by simp) hw.size fun A53 c53 w55 o55 b55=> ?_
 have hw:=kP hw b55
 have h1:=h1.below b55
 have s9:=s9.below b55
 have s18:=s18.below b55
 have s36:=s36.below b55
 have s53:SlR w55 A53 1 (([1,0]:List Int).map iRow):=o55.sl
 refine Pure.mono (EqualI s9 s53 l9 rfl (by subst l9;decide)) ?_
 rintro v w58 b58 rfl
 have hw:=kP hw b58
 have h1:=h1.below b58
 have s18:=s18.below b58
 have s36:=s36.below b58
 refine⟨_,rfl,fun _=> ?_,fun k=>by simp at k⟩
 refine runOk_lit el_Ints [.int .i64 0,.int .i64 2,.int .i64 3] (by simp[Value.cells]) (by simp) hw.size fun A59 c59 w61 o61 b61=> ?_
 have hw:=kP hw b61
 have h1:=h1.below b61
 have s18:=s18.below b61
 have s36:=s36.below b61
 have s59:SlR w61 A59 1 (([0,2,3]:List Int).map iRow):=o61.sl
 refine Pure.mono (EqualI s18 s59 l18 rfl (by subst l18;decide)) ?_
 rintro v w64 b64 rfl
 have hw:=kP hw b64
 have h1:=h1.below b64
 have s36:=s36.below b64
 refine⟨_,rfl,fun _=>⟨fun _=> ?_,fun k=>absurd rfl k⟩,fun k=>by simp at k⟩
 obtain⟨c1a,a65,hA65,hc65,_⟩:=h1.at_ (fun _=>rfl) (n:=2) rfl (i:=1) (by decide)
 obtain⟨c0a,a66,hA66,hc66,_⟩:=h1.at_ (fun _=>rfl) (n:=2) rfl (i:=0) (by decide)
 have fin:∀(A:Option Addr)(c:Nat)(w109:World),Below w64.heap.size w64 w109->SlR w109 A 3 (([⟨1,1,1⟩,⟨2,1,1⟩]:List Sw).map Sw.row)->Pure Tryz.prog 39 #[.slice A36 n36 c36,.slice A 2 c] w109 fun v w112=>v= .bool true/\Below w.heap.size w w112/\SlR w112 A1 3 (([⟨2,1,1⟩]:List Sw).map Sw.row):=by
  intro A c w109 hb hA
  refine Pure.mono (EqualW (l:=[⟨1,1,1⟩,⟨2,1,1⟩]) (s36.below hb) hA l36 rfl (by subst l36;decide)) ?_
  rintro v w112 b112 rfl
  exact⟨by rw[decide_eq_true rfl],kP (kP hw hb) b112,((h1.below hb).below b112).take 1⟩
 have last:∀(w112:World),Below w.heap.size w w112->SlR w112 A1 3 (([⟨2,1,1⟩]:List Sw).map Sw.row)->∀(A118:Option Addr) (c118:Nat) (w120:World) (A c A' c' A2 c2) (xs:List Rm),Below w112.heap.size w112 w120->PrIn w120 A 2 A' 2 A2 2 c2 psT hsT xs->rsOf xs=rsT->SlR w120 A118 1 (([0]:List Int).map iRow)->Pure Tryz.prog 30 #[.agg #[.slice A 2 c,.slice A' 2 c',.slice A2 2 c2],.slice none 0 0,.slice A1 1 c1,.slice A118 1 c118] w120 fun r _=>∃i:Int,r= .int .i64 i/\Value.bool (decide (i=0))= .bool true:=by
  intro w112 hw112 h112 A118 c118 w120 A c A' c' A2 c2 xs hb hp hxs hs'
  refine Pure.mono (seq_Closed (l:=[]) (n:=0) (works:=[⟨2,1,1⟩]) (S:=[0]) (hg.next (kP hw112 hb)) hp (.inl rfl) rfl (Nat.le_refl _) (by omega) (h112.below hb) rfl hs' rfl (by decide)) ?_
  rw[hxs,t_closed]
  rintro v w123 _ rfl
  exact⟨_,rfl,rfl⟩
 refine⟨c1a,a65,hA65,c0a,a66,hA66,⟨_,_,_,hc65,_,_,_,hc66,?_⟩,⟨_,_,_,hc66,_,_,_,hc65,?_⟩⟩
 all_goals
  refine runOk_lit el_Ws [Sw.val ⟨1,1,1⟩,Sw.val ⟨2,1,1⟩] (by simp[Value.cells]) (by simp) hw.size fun A73 c73 w75 o75 b75=> ?_
  refine Pure.mono (fin A73 c73 w75 b75 o75.sl) ?_
  rintro v w78 _ ⟨rfl,hw78,h78⟩
  refine⟨_,rfl,fun _=>⟨fun _=>⟨fun _=>⟨by omega,?_,?_⟩,fun k=>absurd rfl k⟩,fun k=>absurd rfl k⟩,fun k=>by cases k⟩
  ·refine Pure.mono (law51_Two w78) ?_
   rintro v w83 b83 ⟨A4,c4,A5,c5,A6,c6,xs,rfl,hp,hxs⟩
   refine⟨_,_,_,_,_,_,_,_,_,rfl,runOk_lit el_Ints [.int .i64 0] (by simp[Value.cells]) (by simp) (kP hw78 b83).size fun A84 c84 w86 o86 b86=> ?_⟩
   exact last w78 hw78 h78 A84 c84 w86 _ _ _ _ _ _ xs (kP b83 b86) (hp.keep b86) hxs o86.sl
  ·refine runOk_lit el_Ints [.int .i64 0] (by simp[Value.cells]) (by simp) hw78.size fun A84 c84 w86 o86 b86=> ?_
   refine Pure.mono (law51_Two w86) ?_
   rintro v w83 b83 ⟨A4,c4,A5,c5,A6,c6,xs,rfl,hp,hxs⟩
   refine⟨_,_,_,_,_,_,_,_,_,rfl,?_⟩
   exact last w78 hw78 h78 A84 c84 w83 _ _ _ _ _ _ xs (kP b86 b83) hp hxs (o86.sl.below b83)
def few51(ps:List Pa)(hs:List Ho)(rs:List Ru)(n n3:Nat):Bool:=fewPr ps hs rs&&(decide (n<=40)&&decide (n3<=7))
section
variable {w:World} {A0 A1 A2 A A3:Option Addr} {n0 c0 n1 c1 n2 c2 n c n3 c3:Nat} {ps:List Pa} {hs:List Ho} {xs:List Rm}
theorem law51_few(h:PrRaw w A0 n0 c0 A1 n1 c1 A2 n2 c2 ps hs xs):
  Pure Tryz.prog 11 #[.agg #[.slice A0 n0 c0,.slice A1 n1 c1,.slice A2 n2 c2],.slice A n c,.slice A3 n3 c3] w fun v _=>v= .bool (few51 ps hs (rsOf xs) n n3):=by
 refine F.garboardlaw51_few.vc _ _ _ _ _ _ _ _ _ _ _ _ _ _ _ _ _ fun w1 x1=>Pure.mono (r48_Few (h.keep (k0 x1))) ?_
 rintro v w4 _ rfl
 unfold few51
 refine⟨_,rfl,fun k=>⟨fun k2=> ?_,fun k2=> ?_⟩,fun k=> ?_⟩
 ·rw[k,Bool.true_and,decide_eq_true (show n<=40 by omega),Bool.true_and]
  refine congrArg Value.bool ?_
  rw[decide_eq_decide]
  omega
 ·rw[k,Bool.true_and,decide_eq_false (show ¬n<=40 by omega),Bool.false_and]
 ·rw[k,Bool.false_and]
end

structure Ar (w:World) (A0:Option Addr) (n0 c0:Nat) (A1:Option Addr) (n1 c1:Nat) (A2:Option Addr) (n2 c2:Nat) (A:Option Addr) (n:Nat) (A3:Option Addr) (n3:Nat) (ps:List Pa) (hs:List Ho) (xs:List Rm) (l works:List Sw):Prop where
 p:PrIn w A0 n0 A1 n1 A2 n2 c2 ps hs xs
 z0:A0=none->c0=0
 z1:A1=none->c1=0
 s:SlR w A 3 (l.map Sw.row)
 ls:l.length=n
 n:n<=40
 wk:SlR w A3 3 (works.map Sw.row)
 lw:works.length=n3
 n7:n3<=7
section
variable {w w':World} {A0 A1 A2 A A3:Option Addr} {n0 c0 n1 c1 n2 c2 n c n3 c3:Nat} {ps:List Pa} {hs:List Ho} {xs:List Rm} {l works:List Sw}
theorem Ar.keep(h:Ar w A0 n0 c0 A1 n1 c1 A2 n2 c2 A n A3 n3 ps hs xs l works)(hb:Below w.heap.size w w'):Ar w' A0 n0 c0 A1 n1 c1 A2 n2 c2 A n A3 n3 ps hs xs l works:=
 ⟨h.p.keep hb,h.z0,h.z1,h.s.keep hb (Nat.le_refl _),h.ls,h.n,h.wk.keep hb (Nat.le_refl _),h.lw,h.n7⟩
theorem cp3(h:Ar w A0 n0 c0 A1 n1 c1 A2 n2 c2 A n A3 n3 ps hs xs l works){K:Option Addr->Nat->Nat->Option Addr->Nat->Nat->Option Addr->Nat->Nat->Option Addr->Nat->Nat->Option Addr->Nat->Nat->World->Prop}
  (hK:∀B0 d0 B1 d1 B2 d2 As cs Aw cw w3 ys,Below w.heap.size w w3->PrIn w3 B0 n0 B1 n1 B2 n2 d2 ps hs ys->rsOf ys=rsOf xs->SlR w3 As 3 (l.map Sw.row)->n<=cs->SlR w3 Aw 3 (works.map Sw.row)->K B0 n0 d0 B1 n1 d1 B2 n2 d2 As n cs Aw n3 cw w3):
  Pure Tryz.prog 17 #[.agg #[.slice A0 n0 c0,.slice A1 n1 c1,.slice A2 n2 c2]] w fun r w1=>∃B0 m0 d0 B1 m1 d1 B2 m2 d2,r= .agg #[.slice B0 m0 d0,.slice B1 m1 d1,.slice B2 m2 d2]/\
   (Pure Tryz.prog 14 #[.slice A n c] w1 fun r w2=>∃As ms cs,r= .slice As ms cs/\
    (Pure Tryz.prog 18 #[.slice A3 n3 c3] w2 fun r w3=>∃Aw mw cw,r= .slice Aw mw cw/\K B0 m0 d0 B1 m1 d1 B2 m2 d2 As ms cs Aw mw cw w3)):=by
 have hn:=h.n
 have h7:=h.n7
 refine Pure.mono (r48_Copy h.p h.z0 h.z1) ?_
 rintro v w1 b1 ⟨B0,d0,B1,d1,B2,d2,ys,rfl,hp,hys,_⟩
 refine⟨_,_,_,_,_,_,_,_,_,rfl,Pure.mono (CloneS (h.s.keep b1 (Nat.le_refl _)) h.ls (by omega)) ?_⟩
 rintro v w2 b2 ⟨As,cs,rfl,os⟩
 refine⟨_,_,_,rfl,Pure.mono (CloneW ((h.wk.keep b1 (Nat.le_refl _)).keep b2 (Nat.le_refl _)) h.lw (by omega)) ?_⟩
 rintro v w3 b3 ⟨Aw,cw,rfl,ow⟩
 exact⟨_,_,_,rfl,hK _ _ _ _ _ _ _ _ _ _ _ ys (kP (kP b1 b2) b3) ((hp.keep b2).keep b3) hys (os.below b3).sl os.len_le ow.sl⟩
theorem few_ar(hr:PrRaw w A0 n0 c0 A1 n1 c1 A2 n2 c2 ps hs xs)(hs':SlR w A 3 (l.map Sw.row))(hl:l.length=n)(hw:SlR w A3 3 (works.map Sw.row))(hlw:works.length=n3)(hf:few51 ps hs (rsOf xs) n n3=true):Ar w A0 n0 c0 A1 n1 c1 A2 n2 c2 A n A3 n3 ps hs xs l works:=by
 unfold few51 at hf
 rw[Bool.and_eq_true,Bool.and_eq_true]at hf
 exact⟨hr.few hf.1,hr.z0,hr.z1,hs',hl,of_decide_eq_true hf.2.1,hw,hlw,of_decide_eq_true hf.2.2⟩
end

abbrev mio:ByteArray:=⟨#[49,48,48,48,48,48,48]⟩
theorem mio_q:qR mio=1000000:=by decide+kernel
def bigH(h:Ho):Ho:={h with room:=mio,most:=mio}
theorem full_al{al:Nat->Bool}{n:Nat}{o:List Nat}(h:restF al n n 0=some o)(h0:al 0=true):al (fullN n)=true:=by
 have hp:Pth al n 0:=(rest_iff (left_le n 0) (Nat.two_pow_pos n)).1 ⟨o,h⟩
 have hr:=full_iff.2 hp
 generalize hf:fullN n=k at hr
 cases hr with
 |zero=>exact h0
 |step _ _ _ ha=>exact ha

theorem index_wf{w0:World}{A:Option Addr}{n c:Nat}{l:List Sw}(hl:SlR w0 A 3 (l.map Sw.row))(hlen:l.length=n)(hn:n<2147483648){f:Nat}{a k:Array Value}(hcall:callable Tryz.prog f=true){p:Sw->Bool}
  (hf:∀w,∀x∈l,Pure Tryz.prog f (a.toList++([x.val]:List Value)++k.toList).toArray w fun v _=>v= .bool (p x)) {R:Value->World->Prop} {r:Int} (hR:∀w,R (.int .i64 r) w):
  ∀(d i:Nat)(w:World),n - i=d->i<=n->Below w0.heap.size w0 w->r=idxG p i (l.drop i)->F.slices_IndexFunc_api_Work_api_Work.L2 A n c f a k n i w0.heap.size w R:=by
 intro d
 induction d with
 |zero=>
  intro i w hd hi hw hr
  rw[List.drop_eq_nil_of_le (by omega)]at hr
  subst hr
  exact F.slices_IndexFunc_api_Work_api_Work.L2.step _ _ _ _ _ _ _ _ _ _ _ ⟨fun h=>by omega,fun _=>hR w⟩
 |succ d ih=>
  intro i w hd hi hw hr
  have hil:i<l.length:=by omega
  rw[List.drop_eq_getElem_cons hil,idxG]at hr
  obtain⟨hb,ad,hA,hcell,_⟩:=(hl.keep hw (Nat.le_refl _)).at_ (fun _=>rfl) hlen hil
  refine F.slices_IndexFunc_api_Work_api_Work.L2.step _ _ _ _ _ _ _ _ _ _ _ ⟨fun _=> ?_,fun h=>by omega⟩
  refine⟨hb,ad,hA,_,_,_,hcell,hcall,Pure.mono (hf w l[i] (List.getElem_mem _)) ?_⟩
  rintro v w2 b2 rfl
  refine⟨_,rfl,fun h=> ?_,fun h=>⟨by simp only[inR];omega,?_⟩⟩
  ·rw[if_pos h]at hr
   subst hr
   exact hR w2
  ·rw[if_neg (by simp[h])]at hr
   have e3:(i:Int)+1=((i+1:Nat):Int):=by omega
   rw[e3]
   exact ih (i+1) w2 (by omega) (by omega) (kP hw b2) hr
theorem neg_c1(w:World)(x:Sw):Pure Tryz.prog 33 #[x.val] w fun v _=>v= .bool (decide (x.units<0)):=
 F.garboardlaw51_SequenceFree_c1.vc _ _ _ _ _ fun w1 _=>rfl
theorem free_neg{w:World}{A:Option Addr}{n c:Nat}{l:List Sw}(hl:SlR w A 3 (l.map Sw.row))(hlen:l.length=n)(hn:n<2147483648):
  Pure Tryz.prog 32 #[.slice A n c,.func (.func 33) #[] #[]] w fun v _=>v= .bool (l.any fun x=>decide (x.units<0)):=by
 refine F.slices_ContainsFunc_api_Work_api_Work.vc _ _ _ _ _ _ _ _ (Pure.mono (F.slices_IndexFunc_api_Work_api_Work.vc _ _ _ _ _ _ _ _ (index_wf hl hlen hn (f:=33) (a:= #[]) (k:= #[]) (by kernel_rfl) (p:=fun x=>decide (x.units<0)) (fun w x _=>neg_c1 w x) (R:=fun v _=>v= .int .i64 (idxG (fun x=>decide (x.units<0)) 0 l)) (fun _=>rfl) n 0 w rfl (by omega) (Below.refl _ _) rfl)) ?_)
 rintro v w2 _ rfl
 exact⟨_,rfl,by rw[any_idx]⟩

structure Fr (w0:World) (A5:Option Addr) (n0 c5:Nat) (A6:Option Addr) (n1 c6:Nat) (ps:List Pa) (gs:List Ho) (w:World):Prop where
 b:Below w0.heap.size w0 w
 p:OwnR w w0.heap.size 65 A5 n0 c5 7 (ps.map Pa.row)
 h:OwnR w w0.heap.size 61 A6 n1 c6 7 (gs.map Ho.row)
section
variable {w0 w w':World} {A5 A6:Option Addr} {n0 c5 n1 c6:Nat} {ps:List Pa} {gs:List Ho}
theorem Fr.next(s:Fr w0 A5 n0 c5 A6 n1 c6 ps gs w)(hb:Below w.heap.size w w'):Fr w0 A5 n0 c5 A6 n1 c6 ps gs w':=⟨kP s.b hb,s.p.below hb,s.h.below hb⟩
theorem Fr.put(s:Fr w0 A5 n0 c5 A6 n1 c6 ps gs w){i:Nat}(hi:i<gs.length)(k:Nat)(f:Ho->Ho)(hk:k+1<=7)(hf:∀h:Ho,setCells h.row k [.string mio]=(f h).row){X:World->Prop}{bx:List Box}(hbx:hasType 61 bx=false)
  (hX:∀w',Fr w0 A5 n0 c5 A6 n1 c6 ps (gs.set i (f gs[i])) w'->X w') {a:Addr} (hA:A6=some a):
  ∃(cs:List Value)(t:Nat),w0.heap.size<=((a.add ((i:Int).toNat*7)).add k).block/\((a.add ((i:Int).toNat*7)).add k).spot=none/\w.heap[((a.add ((i:Int).toNat*7)).add k).block]? =some (.cells cs.toArray t (0,0))/\((a.add ((i:Int).toNat*7)).add k).off+1<=cs.length/\hasType t bx=false/\
   ∀w',Wrote w w' ((a.add ((i:Int).toNat*7)).add k).block t (setCells cs ((a.add ((i:Int).toNat*7)).add k).off [.string mio])->X w':=by
 have hn:gs.length=n1:=by have:=s.h.len;rwa [List.length_map]at this
 obtain⟨_,a',hA',cs,q1,q2,q3,q4,q5⟩:=s.h.set (i:=(i:Int)) (by omega) (by omega) k [.string mio] (gs[i].row) (by rw[Int.toNat_natCast,List.getElem?_map,List.getElem?_eq_getElem hi];rfl) hk
 rw[hA]at hA'
 cases hA'
 refine⟨cs,_,q1,q2,q3,q4,hbx,fun w' hw=>hX w' ⟨s.b.trans (B.Wrote.belowR hw q1),s.p.other fun a2 h2=>hw.rest _ ?_,?_⟩⟩
 ·obtain⟨c2,e2⟩:=s.p.cells a2 h2
  exact two_types e2 q3 (by decide)
 ·have:=q5 w' hw
  rwa [Int.toNat_natCast,hf,<-List.map_set]at this
end
theorem set_step{hs:List Ho}{i:Nat}(hi:i<hs.length):
  (((hs.take i).map bigH++hs.drop i).set i (bigH hs[i]))=(hs.take (i+1)).map bigH++hs.drop (i+1):=by
 rw[List.drop_eq_getElem_cons hi,List.set_append_right _ _ (by simp;omega)]
 rw[show i - ((hs.take i).map bigH).length=0 by simp;omega,List.set_cons_zero,List.take_add_one,List.getElem?_eq_getElem hi,List.map_append]
 simp

section
variable {w:World} {A0 A1 A2 A3 A4:Option Addr} {n0 c0 n1 c1 n2 c2 n3 c3 n4 c4:Nat} {ps:List Pa} {hs:List Ho} {xs:List Rm} {works:List Sw} {o:List Int}
theorem law51_Free(hg:Glob w)(hr:PrRaw w A0 n0 c0 A1 n1 c1 A2 n2 c2 ps hs xs)(hfit:PrFit w A0 n0 A1 n1 A2 n2 ps hs xs)(hwk:SlR w A3 3 (works.map Sw.row))(hlw:works.length=n3)(ho:SlR w A4 1 (o.map iRow))(hlo:o.length=n4):
  Pure Tryz.prog 7 #[.agg #[.slice A0 n0 c0,.slice A1 n1 c1,.slice A2 n2 c2],.slice A3 n3 c3,.slice A4 n4 c4] w fun v _=>v= .bool true:=by
 refine F.garboardlaw51_SequenceFree.vc _ _ _ _ _ _ _ _ _ _ _ _ _ _ _ _ _ fun w1 x1=> ?_
 have hw:=k0 x1
 refine Pure.mono (law51_awake (hg.next hw)) ?_
 rintro v w4 b4 rfl
 have hw4:=kP hw b4
 refine⟨_,rfl,fun k=>(by cases k),fun _=>Pure.mono (r48_CopyF (hfit.keep hw4) hr.z0 hr.z1) ?_⟩
 rintro v w9 b9 ⟨A5,c5,A6,c6,A7,c7,ys,rfl,o5,o6,_,_,_⟩
 have hw9:=kP hw4 b9
 refine⟨_,_,_,_,_,_,_,_,_,rfl,fun w10 x10=> ?_⟩
 have s10:Fr w A5 n0 c5 A6 n1 c6 ps hs w10:=(Fr.mk hw9 (o5.base hw4.size) (o6.base hw4.size)).next (ext_low x10)
 -- behind the loop
 have rest:∀w',Fr w A5 n0 c5 A6 n1 c6 ps (hs.map bigH) w'->Pure Tryz.prog 11 #[.agg #[.slice A0 n0 c0,.slice A1 n1 c1,.slice A2 n2 c2],.slice none 0 0,.slice A3 n3 c3] w' fun r29 w30=>∃b28:Bool,r29= .bool b28/\((b28=false->Value.bool true= .bool true)/\(¬b28=false->(((((n4:Int):Int)>(70:Int))->Value.bool true= .bool true)/\(¬(((n4:Int):Int)>(70:Int))->
   Pure Tryz.prog 32 #[.slice A3 n3 c3,.func (.func 33) #[] #[]] w30 fun r32 w33=>∃b31:Bool,r32= .bool b31/\((b31=true->Value.bool true= .bool true)/\(b31=false->
    F.garboardlaw51_SequenceFree.L13 A3 n3 c3 A4 n4 c4 A5 n0 c5 n0 0 A5 n0 c5 A6 n1 c6 none 0 0 w.heap.size w33 fun v _=>v= .bool true)))))):=by
  intro w' s
  refine Pure.mono (law51_few (hr.keep s.b)) ?_
  rintro v w30 b30 rfl
  refine⟨_,rfl,fun _=>rfl,fun hf=>⟨fun _=>rfl,fun h70=> ?_⟩⟩
  have ar:=few_ar (A:=none) (n:=0) (l:=[]) (hr.keep (kP s.b b30)) (.inl rfl) rfl (hwk.keep (kP s.b b30) (Nat.le_refl _)) hlw (Bool.not_eq_false _|>.mp hf)
  have s30:=s.next b30
  have h7:=ar.n7
  refine Pure.mono (free_neg ar.wk hlw (by omega)) ?_
  rintro v w33 b33 rfl
  refine⟨_,rfl,fun _=>rfl,fun hneg=> ?_⟩
  have s33:=s30.next b33
  have hlp:=ar.p.c.lp
  have hnp:=ar.p.c.np
  have loop:∀(d i:Nat)(w':World),n0 - i=d->i<=n0->Fr w A5 n0 c5 A6 n1 c6 ps (hs.map bigH) w'->(∀p∈ps.take i,p.mass.size<=4/\p.vol.size<=4)->
    F.garboardlaw51_SequenceFree.L13 A3 n3 c3 A4 n4 c4 A5 n0 c5 n0 i A5 n0 c5 A6 n1 c6 none 0 0 w.heap.size w' fun v _=>v= .bool true:=by
   intro d
   induction d with
   |succ d ih=>
    intro i w' hd hi s hm
    have hil:i<ps.length:=by omega
    have e3:(i:Int)+1=((i+1:Nat):Int):=by omega
    obtain⟨hb,a,hA,hcell,_⟩:=s.p.sl.at_ (fun _=>rfl) hlp hil
    refine F.garboardlaw51_SequenceFree.L13.step _ _ _ _ _ _ _ _ _ _ _ _ _ _ _ _ _ _ _ _ _ _ _ ⟨fun _=>⟨hb,a,hA,_,_,_,_,_,_,_,hcell,fun _ _ _=>rfl,fun h1=>⟨fun _ _ _=>rfl,fun h2=>⟨by simp only[inR];omega,fun w44 x44=> ?_⟩⟩⟩,fun k=>by omega⟩
    rw[e3]
    refine ih (i+1) w44 (by omega) (by omega) (s.next (ext_low x44)) fun p hp=> ?_
    rw[List.take_add_one,List.getElem?_eq_getElem hil]at hp
    rcases List.mem_append.1 hp with hp|hp
    ·exact hm p hp
    ·simp only[Option.toList_some,List.mem_singleton]at hp
     subst hp
     omega
   |zero=>
    intro i w' hd hi s hm
    rw[List.take_of_length_le (by omega)]at hm
    have hs':PrIn w' A5 n0 A6 n1 none 0 0 ps (hs.map bigH) []:=by
     refine⟨⟨s.p.sl,s.h.sl,hlp,by rw[List.length_map];exact ar.p.c.lh,ar.p.c.sp,fun h hh=> ?_,hnp,ar.p.c.nh⟩,.inl rfl,rfl,fun x hx=>(by cases hx),by omega,Nat.le_refl _⟩
     obtain⟨h',k1,rfl⟩:=List.mem_map.1 hh
     have q:=ar.p.c.sh h' k1
     have e7:mio.size=7:=rfl
     exact⟨by show SmS mio;unfold SmS;omega,by show SmS mio;unfold SmS;omega,q.x,q.y,q.z,q.name⟩
    have ar':Ar w' A5 n0 c5 A6 n1 c6 none 0 0 none 0 A3 n3 ps (hs.map bigH) [] [] works:=⟨hs',s.p.z,s.h.z,.inl rfl,rfl,by omega,hwk.keep s.b (Nat.le_refl _),hlw,h7⟩
    refine F.garboardlaw51_SequenceFree.L13.step _ _ _ _ _ _ _ _ _ _ _ _ _ _ _ _ _ _ _ _ _ _ _ ⟨fun k=>by omega,fun _=> ?_⟩
    refine Pure.mono (r48_Copy ar'.p ar'.z0 ar'.z1) ?_
    rintro v w49 b49 ⟨B0,d0,B1,d1,B2,d2,zs,rfl,hp,hzs,_⟩
    refine⟨_,_,_,_,_,_,_,_,_,rfl,Pure.mono (CloneW ((ar'.keep b49).wk) hlw (by omega)) ?_⟩
    rintro v w52 b52 ⟨Aw,cw,rfl,ow⟩
    have hw52:=kP (kP s.b b49) b52
    refine⟨_,_,_,rfl,Pure.mono (seq_Order (A:=none) (c:=0) (l:=[]) (hg.next hw52) (hp.keep b52) (.inl rfl) rfl (Nat.le_refl _) (by omega) ow.sl hlw) ?_⟩
    rw[hzs]
    rintro v w56 b56 ⟨A53,n53,c53,rfl,s53,l53,_⟩
    have hw56:=kP hw52 b56
    have ar56:=ar'.keep (kP (kP b49 b52) b56)
    refine⟨_,_,_,_,rfl,Pure.mono (r48_Copy ar56.p ar56.z0 ar56.z1) ?_⟩
    rintro v w61 b61 ⟨B0,d0,B1,d1,B2,d2,zs,rfl,hp,hzs,_⟩
    refine⟨_,_,_,_,_,_,_,_,_,rfl,Pure.mono (CloneW ((ar56.keep b61).wk) hlw (by omega)) ?_⟩
    rintro v w64 b64 ⟨Aw,cw,rfl,ow⟩
    have hw64:=kP (kP hw56 b61) b64
    refine⟨_,_,_,rfl,Pure.mono (CloneI (ho.keep hw64 (Nat.le_refl _)) hlo (by omega)) ?_⟩
    rintro v w67 b67 ⟨Ao,co,rfl,oo⟩
    have hw67:=kP hw64 b67
    refine⟨_,_,_,rfl,Pure.mono (seq_Check (A:=none) (c:=0) (l:=[]) (hg.next hw67) ((hp.keep b64).keep b67) (.inl rfl) rfl (Nat.le_refl _) (by omega) (ow.below b67).sl hlw oo.sl hlo (by omega)) ?_⟩
    rw[hzs]
    rintro v w71 b71 rfl
    have hbig:∀h∈hs.map bigH,qR h.most=1000000/\qR h.room=1000000:=fun h hh=>by
     obtain⟨h',_,rfl⟩:=List.mem_map.1 hh
     exact⟨mio_q,mio_q⟩
    have hpos:∀u∈works,0<=u.units:=fun u hu=>by
     have:=List.any_eq_false.1 hneg u hu
     simp at this
     exact this
    have bad:=seq_either ps (hs.map bigH) (rsOf []) [] works o []
    refine⟨_,_,rfl,fun he=> ?_,fun he=> ?_⟩
    ·have hnil:(orderF ps (hs.map bigH) (rsOf []) [] works).1=[]/\(ordersF ps (hs.map bigH) (rsOf []) [] works o).2≠0:=by
      by_cases ht:taskF ps (hs.map bigH) (rsOf []) [] works=0
      ·have h19:(orderF ps (hs.map bigH) (rsOf []) [] works).2=19:=by
        unfold orderF at he⊢
        rw[if_neg (by simpa using ht)]at he⊢
        split at he
        ·exact absurd rfl he
        ·rfl
       refine⟨?_,(bad.2.1 h19 ht).2.2⟩
       unfold orderF at h19⊢
       rw[if_neg (by simpa using ht)]at h19⊢
       split at h19
       ·cases h19
       ·rfl
      ·unfold orderF ordersF
       rw[if_pos ht,if_pos ht]
       exact⟨rfl,ht⟩
     refine⟨fun _=>congrArg Value.bool (decide_eq_true hnil.2),fun k=> ?_⟩
     rw[hnil.1]at l53
     simp at l53
     omega
    ·obtain⟨oo',ht,hrest,hfst⟩:∃q,taskF ps (hs.map bigH) (rsOf []) [] works=0/\restF (allowF ps (hs.map bigH) (rsOf []) [] works) works.length works.length 0=some q/\(orderF ps (hs.map bigH) (rsOf []) [] works).1=q.map fun(i:Nat)=>(i:Int):=by
      unfold orderF at he⊢
      split at he
      ·rename_i k
       exact absurd (Decidable.not_not.1 he) k
      ·rename_i k
       rw[if_neg k]
       split at he
       ·rename_i q e
        exact⟨q,Decidable.not_not.1 k,e,rfl⟩
       ·exact absurd he (by decide)
     have htk:=task_ok ht
     have hkr:=keeps_right htk.keeps
     have h0:allowF ps (hs.map bigH) (rsOf []) [] works 0=true:=by
      unfold allowF
      rw[state_zero hkr.1 hkr.2.2]
      exact htk.keeps
     have hfull:=full_al hrest h0
     obtain⟨m,hm'⟩:∃m,stateF ps (hs.map bigH) [] works (fullN works.length)=some m:=by
      unfold allowF at hfull
      split at hfull
      ·exact⟨_,by assumption⟩
      ·cases hfull
     have hall:=free_allowed htk hm hbig hpos hm'
     have hord:=order_all hall
     have hq:oo'=List.range works.length:=by
      have:=hrest.symm.trans hord
      exact Option.some.inj this
     subst hq
     rw[hfst]at s53 l53
     have hl53:n53=works.length:=by simp at l53;omega
     have hck:ordersF ps (hs.map bigH) (rsOf []) [] works o=(-1,0)∨ordersF ps (hs.map bigH) (rsOf []) [] works o=(-1,10):=by
      unfold ordersF
      rw[if_neg (by simpa using ht)]
      exact check_all hall o
     have fin:∀(d i:Nat)(w':World),n53 - i=d->i<=n53->SlR w' A53 1 (((List.range works.length).map fun(i:Nat)=>(i:Int)).map iRow)->F.garboardlaw51_SequenceFree.L23 (ordersF ps (hs.map bigH) (rsOf []) [] works o).1 (ordersF ps (hs.map bigH) (rsOf []) [] works o).2 A53 n53 c53 n53 i w.heap.size w' fun v _=>v= .bool true:=by
      intro d
      induction d with
      |zero=>
       intro i w' hd hi _
       refine F.garboardlaw51_SequenceFree.L23.step _ _ _ _ _ _ _ _ _ _ ⟨fun k=>by omega,fun _=> ?_⟩
       rcases hck with e|e
       ·rw[e]
        exact⟨fun _=>⟨fun _=>rfl,fun k=>absurd rfl k⟩,fun k=>absurd rfl k⟩
       ·rw[e]
        exact⟨fun k=>absurd k (by decide),fun _=>rfl⟩
      |succ d ih=>
       intro i w' hd hi hsl
       have e3:(i:Int)+1=((i+1:Nat):Int):=by omega
       obtain⟨hb,a,hA,hcell,_⟩:=hsl.at_ (fun _=>rfl) l53 (i:=i) (by simp;omega)
       have hcell:CellsAt w' (a.add ((i:Int).toNat*1)) [.int .i64 (i:Int)]:=by
        have:=hcell
        rw[List.getElem_map,List.getElem_range]at this
        exact this
       refine F.garboardlaw51_SequenceFree.L23.step _ _ _ _ _ _ _ _ _ _ ⟨fun _=>⟨hb,a,hA,_,hcell,fun k=>absurd rfl k,fun _=>⟨by simp only[inR];omega,?_⟩⟩,fun k=>by omega⟩
       rw[e3]
       exact ih (i+1) w' (by omega) (by omega) hsl
     exact fin n53 0 w71 rfl (by omega) (s53.below (kP (kP (kP b61 b64) b67) b71))
  exact loop n0 0 w33 rfl (by omega) s33 (by simp)
 have key:∀(d i:Nat)(w':World),n1 - i=d->i<=n1->Fr w A5 n0 c5 A6 n1 c6 ps ((hs.take i).map bigH++hs.drop i) w'->
   F.garboardlaw51_SequenceFree.L6 A3 n3 c3 A4 n4 c4 n1 i A0 n0 c0 A1 n1 c1 A2 n2 c2 A5 n0 c5 A6 n1 c6 none 0 0 w.heap.size w' fun v _=>v= .bool true:=by
  have hlh:=hr.c.lh
  have hnh:=hr.c.nh
  intro d
  induction d with
  |zero=>
   intro i w' hd hi s
   rw[List.take_of_length_le (by omega),List.drop_eq_nil_of_le (by omega),List.append_nil]at s
   refine F.garboardlaw51_SequenceFree.L6.step _ _ _ _ _ _ _ _ _ _ _ _ _ _ _ _ _ _ _ _ _ _ _ _ _ _ _ _ _ ⟨fun k=>by omega,fun _=>rest w' s⟩
  |succ d ih=>
   intro i w' hd hi s
   have hil:i<hs.length:=by omega
   have e3:(i:Int)+1=((i+1:Nat):Int):=by omega
   have hA:∃a,A6=some a:=by
    cases A6 with
    |some a=>exact⟨a,rfl⟩
    |none=>
     have h1:=s.h.z rfl
     have h2:=s.h.len_le
     omega
   obtain⟨a,rfl⟩:=hA
   have hgl:i<((hs.take i).map bigH++hs.drop i).length:=by simp;omega
   have hgi:((hs.take i).map bigH++hs.drop i)[i]=hs[i]:=by
    rw[List.getElem_append_right (by simp;omega)]
    simp
    congr 1
    omega
   have body:∀w12,Ext w.heap.size [] w' w12->∃(cs13:List Value)(t14:Nat),w.heap.size<=((a.add ((i:Int).toNat*7)).add 2).block/\((a.add ((i:Int).toNat*7)).add 2).spot=none/\w12.heap[((a.add ((i:Int).toNat*7)).add 2).block]? =some (.cells cs13.toArray t14 (0,0))/\((a.add ((i:Int).toNat*7)).add 2).off+1<=cs13.length/\hasType t14 [⟨3,false,28,[.slice A0 n0 c0,.slice A1 n1 c1,.slice A2 n2 c2]⟩,⟨7,false,28,[.slice A5 n0 c5,.slice (some a) n1 c6,.slice none 0 0]⟩]=false/\
     ∀w15,Wrote w12 w15 ((a.add ((i:Int).toNat*7)).add 2).block t14 (setCells cs13 ((a.add ((i:Int).toNat*7)).add 2).off [.string mio])->((0<=(i:Int)/\(i:Int)<n1)/\∃a16,some a=some a16/\∃(cs17:List Value)(t18:Nat),w.heap.size<=((a16.add ((i:Int).toNat*7)).add 3).block/\((a16.add ((i:Int).toNat*7)).add 3).spot=none/\w15.heap[((a16.add ((i:Int).toNat*7)).add 3).block]? =some (.cells cs17.toArray t18 (0,0))/\((a16.add ((i:Int).toNat*7)).add 3).off+1<=cs17.length/\hasType t18 [⟨3,false,28,[.slice A0 n0 c0,.slice A1 n1 c1,.slice A2 n2 c2]⟩,⟨7,false,28,[.slice A5 n0 c5,.slice (some a) n1 c6,.slice none 0 0]⟩]=false/\
      ∀w19,Wrote w15 w19 ((a16.add ((i:Int).toNat*7)).add 3).block t18 (setCells cs17 ((a16.add ((i:Int).toNat*7)).add 3).off [.string mio])->(inR .i64 ((i:Int)+1)/\F.garboardlaw51_SequenceFree.L6 A3 n3 c3 A4 n4 c4 n1 ((i:Int)+1) A0 n0 c0 A1 n1 c1 A2 n2 c2 A5 n0 c5 (some a) n1 c6 none 0 0 w.heap.size w19 fun v _=>v= .bool true)):=by
    intro w12 x12
    refine(s.next (ext_low x12)).put hgl 2 (fun h=>{h with room:=mio}) (by decide) (fun h=>rfl) rfl (fun w15 s15=>⟨by omega,a,rfl,?_⟩) rfl
    refine s15.put (i:=i) (by simp;omega) 3 (fun h=>{h with most:=mio}) (by decide) (fun h=>rfl) rfl (fun w19 s19=>⟨by simp only[inR];omega,?_⟩) rfl
    rw[e3]
    refine ih (i+1) w19 (by omega) (by omega) ?_
    rw[List.getElem_set_self,List.set_set,hgi]at s19
    have e4:({{hs[i]with room:=mio}with most:=mio}:Ho)=bigH hs[i]:=rfl
    rw[<-set_step hil,<-e4]
    exact s19
   refine F.garboardlaw51_SequenceFree.L6.step _ _ _ _ _ _ _ _ _ _ _ _ _ _ _ _ _ _ _ _ _ _ _ _ _ _ _ _ _ ⟨fun _=>⟨by omega,a,rfl,body,body⟩,fun k=>by omega⟩
 exact key n1 0 w10 rfl (by omega) (by simpa using s10)
end
set_option maxRecDepth 100000
open Go Go.RowKit Go.Proofs Go.Proofs.YtgfkeadgjkfomaaGreatDoor.Vc Go.ChangeShapes Go.WideShapes Go.Deep

theorem own:ownKnob Tryz.prog.godebug=none:=by kernel_rfl
theorem laidOut:laidOutB Tryz.prog=true:=by kernel_rfl

section
variable {H:Type} {enc:TypeId×Value->H} {P:Program}

theorem below_trodAll(hl:laidOutB P=true){W W':World}(hb:Below W.heap.size W W'):∀{ts:List TypeId} {vs:List Value} {ds:List (DataW H)} {ps:List MemPlace},
  (∀t∈ts,P.readableRec t=true/\t<P.types.size)->DataW.TrodAll enc P W 0 (fun _=>true) true ts vs ds ps->(∀x∈ps,x.block<W.heap.size)->DataW.TrodAll enc P W' 0 (fun b=>decide (b<W.heap.size)) true ts vs ds ps
 |[],_,_,_,_,h,_=>by
  obtain⟨rfl,rfl,rfl⟩:=trodAll_nil h
  exact trodAll_mk0
 |t::ts,_,_,_,ht,h,hlt=>by
  obtain⟨v,vs1,d,ds1,a,b,rfl,rfl,rfl,h1,h2⟩:=trodAll_cons h
  exact trodAll_cons_mk (Below.trod hl (ht t (by simp)).1 (ht t (by simp)).2 h1 hb (fun x hx=>hlt x (by simp[hx])))
   (below_trodAll hl hb (fun u hu=>ht u (by simp[hu])) h2 (fun x hx=>hlt x (by simp[hx])))

theorem law_post{f:Func}{fid:FuncId}{s:ChangeSpec}{W:World}{args:Array Value}{ds gs:List (DataW H)}{before:List MemPlace}(hl:laidOutB P=true)(hW:DataW.Whole enc P f.params.toList s.vars false W args.toList ds gs before)
  (hvars:s.vars=[]) {tb:TypeId} (hres:f.resultTypes= #[tb]) (htb:P.underlying tb=some .bool) (hrec:∀t∈f.params.toList,P.readableRec t=true/\t<P.types.size)
  (hs:s.fn H (ds++gs)={results:=[.lit (.bool true)],args:=ds}) (key:Pure P fid args W fun y _=>y= .bool true):
  Calls P fid args W fun e W'=>∃v,e= .returned v/\s.post enc P f false true false false W args v W':=by
 refine Calls.mono key fun e W' ⟨v,he,hb,hy⟩=>⟨v,he,?_⟩
 subst hy
 have hlt:=hW.lt
 have hW':=hW
 obtain⟨p,q,hA,hV,rfl,_,_⟩:=hW
 rw[hvars]at hV
 obtain⟨rfl,rfl⟩:=trodVars_none hV
 simp only[List.append_nil]at hlt hW'
 refine⟨ds,_,_,[],p,[],hW',?_,?_,?_,hb.frame _,fun h=>by cases h⟩
 ·rw[hs,hres]
  exact trodAll_cons_mk (shut_bool htb _) trodAll_mk0
 ·rw[hs]
  exact below_trodAll hl hb hrec hA hlt
 ·rw[hs,hvars]
  rfl

end

theorem slR_of_cells{w:World}{a:Addr}{sz:Nat}(hsz:0<sz){rows:List (List Value)}(hl:∀r∈rows,r.length=sz)(h:∀i,(hi:i<rows.length)->∀j,(hj:j<rows[i].length)->w.cell? (a.add (i*sz+j))=some (rows[i][j])):SlR w (some a) sz rows:=by
 by_cases h0:rows=[]
 ·exact .inl h0
 right
 have hp:0<rows.length:=List.length_pos_iff.2 h0
 have hl0:rows[0].length=sz:=hl _ (List.getElem_mem _)
 have c0:=h 0 hp 0 (by omega)
 have hspot:a.spot=none:=by simpa[Addr.add]using World.cell?_spot c0
 obtain⟨b,off,spot⟩:=a
 simp only at hspot
 subst hspot
 have hadd:∀k,(⟨b,off,none⟩:Addr).add k=⟨b,off+k,none⟩:=fun k=>add_plain0 b off k
 rw[hadd]at c0
 cases hh:w.heap[b]? with
 |none=>simp[World.cell?,hh]at c0
 |some o=>
  cases o with
  |cells cs ty fr=>
   refine⟨b,off,cs,ty,fr,rfl,hh,fun i hi j hj=>⟨hl _ (List.getElem_mem _),?_⟩⟩
   have:=h i hi j hj
   rw[hadd]at this
   simpa[World.cell?,hh,Nat.add_assoc]using this
  |_=>simp[World.cell?,hh]at c0

theorem u_Rat:Tryz.prog.underlying 57=some .string:=by kernel_rfl
theorem u_int:Tryz.prog.underlying 3=some (.int .i64):=by kernel_rfl
theorem u_str:Tryz.prog.underlying 9=some .string:=by kernel_rfl

open Go Go.RowKit Go.Proofs

abbrev aLaid:=Rows.sequenceEitherRow.laid
open Go Go.RowKit Go.Proofs Go.Proofs.YtgfkeadgjkfomaaGreatDoor.Vc Go.ChangeShapes Go.WideShapes Go.Deep Go.ChangeAt

noncomputable def laidWorld(os:Os):World:=
 let N:=(World.settled Tryz.prog os).heap.size
 let w0:=World.holding Tryz.prog os ⟨#[.cells #[.string ⟨#[118,97,108,117,101,32,111,117,116,32,111,102,32,114,97,110,103,101]⟩] 340,.cells #[.string ⟨#[105,110,118,97,108,105,100,32,115,121,110,116,97,120]⟩] 340],#[],[]⟩
 let put (h:Array Obj) (g:Nat) (cs:Array Value):Array Obj:=h.modify g fun
  | .cells _ t frozen=> .cells cs t frozen
  |o=>o
 let h0:=put (put w0.heap 5 #[.iface 338 (.pointer (some ⟨N,0,none⟩))]) 4 #[.iface 338 (.pointer (some ⟨N+1,0,none⟩))]
 let h1:=put h0 2 #[.int .u8 0,.int .u8 1,.int .u8 28,.int .u8 2,.int .u8 29,.int .u8 14,.int .u8 24,.int .u8 3,.int .u8 30,.int .u8 22,.int .u8 20,.int .u8 15,.int .u8 25,.int .u8 17,.int .u8 4,.int .u8 8,.int .u8 31,.int .u8 27,.int .u8 13,.int .u8 23,.int .u8 21,.int .u8 19,.int .u8 16,.int .u8 7,.int .u8 26,.int .u8 12,.int .u8 18,.int .u8 6,.int .u8 11,.int .u8 5,.int .u8 10,.int .u8 9]
 let h2:=put h1 3 #[.int .u8 0,.int .u8 1,.int .u8 56,.int .u8 2,.int .u8 57,.int .u8 49,.int .u8 28,.int .u8 3,.int .u8 61,.int .u8 58,.int .u8 42,.int .u8 50,.int .u8 38,.int .u8 29,.int .u8 17,.int .u8 4,.int .u8 62,.int .u8 47,.int .u8 59,.int .u8 36,.int .u8 45,.int .u8 43,.int .u8 51,.int .u8 22,.int .u8 53,.int .u8 39,.int .u8 33,.int .u8 30,.int .u8 24,.int .u8 18,.int .u8 12,.int .u8 5,.int .u8 63,.int .u8 55,.int .u8 48,.int .u8 27,.int .u8 60,.int .u8 41,.int .u8 37,.int .u8 16,.int .u8 46,.int .u8 35,.int .u8 44,.int .u8 21,.int .u8 52,.int .u8 32,.int .u8 23,.int .u8 11,.int .u8 54,.int .u8 26,.int .u8 40,.int .u8 15,.int .u8 34,.int .u8 20,.int .u8 31,.int .u8 10,.int .u8 25,.int .u8 14,.int .u8 19,.int .u8 9,.int .u8 13,.int .u8 8,.int .u8 7,.int .u8 6]
 let h3:=put h2 0 (Lib.pow10Tab.map fun z=>Value.int .u64 z).toArray
 {w0 with heap:=h3}

noncomputable abbrev N0:Nat:=(World.settled Tryz.prog default).heap.size
theorem laid_met(os:Os)(args:Array Value):laidMet Tryz.prog aLaid ((laidWorld os).forCall (fun _ _=>0) ⟨#[],args,[]⟩).memory:=
 (LaidIn.of_run (l:=aLaid) [2,3,0,5,4,N0,N0+1] 8 (by kernel_rfl) (by kernel_rfl) (by kernel_rfl) (by kernel_rfl)).met

theorem world_vars(os:Os)(args:Array Value):((laidWorld os).forCall (fun _ _=>0) ⟨#[],args,[]⟩).variablesRefB Tryz.prog=true:=by kernel_rfl
theorem world_rest (os : Os) (args : Array Value) : (((laidWorld os).forCall (fun _ _ => 0) ⟨#[], args, []⟩).heap.toList.drop Tryz.prog.globals.size).take ((begin Tryz.prog (fun _ _ => 0) default).world.heap.size - Tryz.prog.globals.size) =
      (begin Tryz.prog (fun _ _ => 0) default).world.heap.toList.drop Tryz.prog.globals.size := by kernel_rfl

theorem glob_of {W : World} (hL : laidMet Tryz.prog aLaid W) (hS : W.ShapedOpen Tryz.prog) : Glob W :=
  ⟨Lib.tabIs_of_head (zs := Lib.pow10Tab) (g := 0) (t := 271) (e := 244) (n := 20) g_pow10 (by kernel_rfl) (by kernel_rfl) (by kernel_rfl) (by kernel_rfl) (by kernel_rfl) hL.tail.tail,
   cell_of_shapedOpen_int (g := 1) (t := 3) (zero := #[.int .i64 0]) hS (of_decide_eq_true (by kernel_rfl)) (by kernel_rfl) rfl (by kernel_rfl) (by kernel_rfl) (by kernel_rfl)⟩

theorem and_t{a b:Bool}(h:a=true)(k:b=true):(a&&b)=true:=by rw[h,k];rfl
theorem tied_laid:laidOutB Tryz.pinned.checked.prog=true:=by kernel_rfl
theorem tied_maps:mapsRowed Tryz.pinned.checked.prog=true:=by kernel_rfl

instance:Inhabited Pa:=⟨⟨0,0,0,⟨#[]⟩,⟨#[]⟩,⟨#[]⟩,⟨#[]⟩⟩⟩
instance:Inhabited Ho:=⟨⟨0,⟨#[]⟩,⟨#[]⟩,⟨#[]⟩,⟨#[]⟩,⟨#[]⟩,⟨#[]⟩⟩⟩
instance:Inhabited Sw:=⟨⟨0,0,0⟩⟩

section
variable {H:Type} {enc:TypeId×Value->H} {w:World} {base b0:Nat} {spare:Nat->Bool} {held:Bool}
theorem open_rowsP{α:Type}[Inhabited α]{row:α->List Value}{P:α->Prop}{sz:Nat}(hsz:0<sz)(hrow:∀x,(row x).length=sz){t e:TypeId}(ht:Tryz.prog.underlying t=some (.slice e))(hC:Tryz.prog.cellsOf e=sz)
  (hx:∀(n:Nat)(cs:List Value)(y:DataW H×List MemPlace),DataW.trod enc Tryz.prog w base spare held n e cs=some y->∃x:α,cs=row x/\P x)
  {v:Value} {fuel:Nat} {y:DataW H×List MemPlace} (h:DataW.trod enc Tryz.prog w base spare held fuel t [v]=some y):
  ∃(A:Option Addr)(n c:Nat)(l:List α),v= .slice A n c/\SlR w A sz (l.map row)/\l.length=n/\n<9223372036854775808/\(A=none->c=0)/\n<=c/\∀x∈l,P x:=by
 rcases open_slice ht h with⟨hcs,_⟩|⟨a,len,cap,m,n,D,Pl,hcs,hb,hl,hm,hmm,_,hi⟩
 ·cases hcs
  exact⟨none,0,0,[],rfl,.inl rfl,rfl,by omega,fun _=>rfl,Nat.le_refl _,by simp⟩
 ·cases hcs
  rw[hC]at hi
  obtain⟨g,hg⟩:=choose_lt (α:=α) (n:=len) (p:=fun i x=>P x/\∀j,(hj:j<(row x).length)->w.cell? (a.add (i*sz+j))=some ((row x)[j])) fun i hilt=>by
   have him:i<m:=by
    rw[hmm]
    split<;>omega
   obtain⟨cs',hc,ht'⟩:=hi i him
   obtain⟨_,hcl,hat⟩:=World.cells?_some hc
   obtain⟨x,rfl,hP⟩:=hx _ _ _ ht'
   refine⟨x,hP,fun j hj=> ?_⟩
   rw[<-Go.Deep.add_add,hat j (by rw[hrow]at hj;omega),List.getElem?_eq_getElem hj]
  refine⟨some a,len,cap,(List.range len).map g,rfl,slR_of_cells hsz (fun r hr=> ?_) (fun i hi2 j hj=> ?_),by simp,by unfold maxLen at hm;omega,fun k=>(by cases k),hl,fun x hx'=> ?_⟩
  ·obtain⟨x,_,rfl⟩:=List.mem_map.1 hr
   exact hrow x
  ·simp at hi2
   simp only[List.getElem_map,List.getElem_range]at hj⊢
   exact(hg i hi2).2 j hj
  ·obtain⟨i,hi2,rfl⟩:=List.mem_map.1 hx'
   exact(hg i (List.mem_range.1 hi2)).1
theorem open_rows{α:Type}[Inhabited α]{row:α->List Value}{sz:Nat}(hsz:0<sz)(hrow:∀x,(row x).length=sz){t e:TypeId}(ht:Tryz.prog.underlying t=some (.slice e))(hC:Tryz.prog.cellsOf e=sz)
  (hx:∀(n:Nat)(cs:List Value)(y:DataW H×List MemPlace),DataW.trod enc Tryz.prog w base spare held n e cs=some y->∃x:α,cs=row x)
  {v:Value} {fuel:Nat} {y:DataW H×List MemPlace} (h:DataW.trod enc Tryz.prog w base spare held fuel t [v]=some y):
  ∃(A:Option Addr)(n c:Nat)(l:List α),v= .slice A n c/\SlR w A sz (l.map row)/\l.length=n/\n<9223372036854775808/\(A=none->c=0):=by
 obtain⟨A,n,c,l,h1,h2,h3,h4,h5,_⟩:=open_rowsP (P:=fun _=>True) hsz hrow ht hC (fun n cs y h=>by obtain⟨x,e⟩:=hx n cs y h;exact⟨x,e,trivial⟩) h
 exact⟨A,n,c,l,h1,h2,h3,h4,h5⟩

theorem k_int:Tryz.prog.cellsOf 3=1:=by kernel_rfl
theorem k_str:Tryz.prog.cellsOf 9=1:=by kernel_rfl
theorem k_Rat:Tryz.prog.cellsOf 57=1:=by kernel_rfl
theorem k_Vec:Tryz.prog.cellsOf 59=3:=by kernel_rfl
theorem k_Par:Tryz.prog.cellsOf 65=7:=by kernel_rfl
theorem k_Hol:Tryz.prog.cellsOf 61=7:=by kernel_rfl
theorem k_Wor:Tryz.prog.cellsOf 44=3:=by kernel_rfl
theorem int_of(n:Nat)(cs:List Value)(y:DataW H×List MemPlace)(h:DataW.trod enc Tryz.prog w base spare held n 3 cs=some y):∃x:Int,cs=iRow x:=by
 obtain⟨z,hz,_⟩:=DataW.trod_int u_int h
 exact⟨z,hz⟩
theorem rat_of{n:Nat}{cs:List Value}{y:DataW H×List MemPlace}(h:DataW.trod enc Tryz.prog w base spare held n 57 cs=some y):∃x,cs=[.string x]:=by
 obtain⟨z,hz,_⟩:=DataW.trod_string u_Rat h
 exact⟨z,hz⟩
theorem str_of{n:Nat}{cs:List Value}{y:DataW H×List MemPlace}(h:DataW.trod enc Tryz.prog w base spare held n 9 cs=some y):∃x,cs=[.string x]:=by
 obtain⟨z,hz,_⟩:=DataW.trod_string u_str h
 exact⟨z,hz⟩
theorem work_of(n:Nat)(cs:List Value)(y:DataW H×List MemPlace)(h:DataW.trod enc Tryz.prog w base spare held n 44 cs=some y):∃x:Sw,cs=x.row:=by
 obtain⟨ys,m,_,rfl,hl,hlen,hf⟩:=DataW.trod_struct Tryz.underlying44 h
 rw[k_Wor]at hl
 match cs,hl with
 |[v0,v1,v2],_=>
  match ys,hlen with
  |[y0,y1,y2],_=>
   obtain⟨z0,e0⟩:=int_of m [v0] y0 (by simpa[k_int]using hf 0 _ rfl)
   obtain⟨z1,e1⟩:=int_of m [v1] y1 (by simpa[k_int]using hf 1 _ rfl)
   obtain⟨z2,e2⟩:=int_of m [v2] y2 (by simpa[k_int]using hf 2 _ rfl)
   cases e0;cases e1;cases e2
   exact⟨⟨z0,z1,z2⟩,rfl⟩
theorem vec_of{n:Nat}{cs:List Value}{y:DataW H×List MemPlace}(h:DataW.trod enc Tryz.prog w base spare held n 59 cs=some y):∃a b c,cs=[.string a,.string b,.string c]:=by
 obtain⟨ys,m,_,rfl,hl,hlen,hf⟩:=DataW.trod_struct Tryz.underlying59 h
 rw[k_Vec]at hl
 match cs,hl with
 |[v0,v1,v2],_=>
  match ys,hlen with
  |[y0,y1,y2],_=>
   obtain⟨z0,e0⟩:=rat_of (n:=m) (cs:=[v0]) (y:=y0) (by simpa[k_Rat]using hf 0 _ rfl)
   obtain⟨z1,e1⟩:=rat_of (n:=m) (cs:=[v1]) (y:=y1) (by simpa[k_Rat]using hf 1 _ rfl)
   obtain⟨z2,e2⟩:=rat_of (n:=m) (cs:=[v2]) (y:=y2) (by simpa[k_Rat]using hf 2 _ rfl)
   cases e0;cases e1;cases e2
   exact⟨z0,z1,z2,rfl⟩
theorem par_of(n:Nat)(cs:List Value)(y:DataW H×List MemPlace)(h:DataW.trod enc Tryz.prog w base spare held n 65 cs=some y):∃x:Pa,cs=x.row:=by
 obtain⟨ys,m,_,rfl,hl,hlen,hf⟩:=DataW.trod_struct Tryz.underlying65 h
 rw[k_Par]at hl
 match cs,hl with
 |[v0,v1,v2,v3,v4,v5,v6],_=>
  match ys,hlen with
  |[y0,y1,y2,y3,y4,y5,y6],_=>
   obtain⟨z0,e0⟩:=int_of m [v0] y0 (by simpa[k_int]using hf 0 _ rfl)
   obtain⟨z1,e1⟩:=int_of m [v1] y1 (by simpa[k_int]using hf 1 _ rfl)
   obtain⟨z2,e2⟩:=int_of m [v2] y2 (by simpa[k_int]using hf 2 _ rfl)
   obtain⟨z3,e3⟩:=str_of (n:=m) (cs:=[v3]) (y:=y3) (by simpa[k_str]using hf 3 _ rfl)
   obtain⟨z4,e4⟩:=rat_of (n:=m) (cs:=[v4]) (y:=y4) (by simpa[k_Rat]using hf 4 _ rfl)
   obtain⟨z5,e5⟩:=rat_of (n:=m) (cs:=[v5]) (y:=y5) (by simpa[k_Rat]using hf 5 _ rfl)
   obtain⟨z6,e6⟩:=rat_of (n:=m) (cs:=[v6]) (y:=y6) (by simpa[k_Rat]using hf 6 _ rfl)
   cases e0;cases e1;cases e2;cases e3;cases e4;cases e5;cases e6
   exact⟨⟨z0,z1,z2,z3,z4,z5,z6⟩,rfl⟩
theorem hold_of(n:Nat)(cs:List Value)(y:DataW H×List MemPlace)(h:DataW.trod enc Tryz.prog w base spare held n 61 cs=some y):∃x:Ho,cs=x.row:=by
 obtain⟨ys,m,_,rfl,hl,hlen,hf⟩:=DataW.trod_struct Tryz.underlying61 h
 rw[k_Hol]at hl
 match cs,hl with
 |[v0,v1,v2,v3,v4,v5,v6],_=>
  match ys,hlen with
  |[y0,y1,y2,y3,y4],_=>
   obtain⟨z0,e0⟩:=int_of m [v0] y0 (by simpa[k_int]using hf 0 _ rfl)
   obtain⟨z1,e1⟩:=str_of (n:=m) (cs:=[v1]) (y:=y1) (by simpa[k_str]using hf 1 _ rfl)
   obtain⟨z2,e2⟩:=rat_of (n:=m) (cs:=[v2]) (y:=y2) (by simpa[k_Rat]using hf 2 _ rfl)
   obtain⟨z3,e3⟩:=rat_of (n:=m) (cs:=[v3]) (y:=y3) (by simpa[k_Rat]using hf 3 _ rfl)
   obtain⟨a,b,c,e4⟩:=vec_of (n:=m) (cs:=[v4,v5,v6]) (y:=y4) (by simpa[k_Vec]using hf 4 _ rfl)
   cases e0;cases e1;cases e2;cases e3;cases e4
   exact⟨⟨z0,z1,z2,z3,a,b,c⟩,rfl⟩

theorem trod_one{t e:TypeId}(ht:Tryz.prog.underlying t=some (.slice e)){r:Reach}{v:Value}{d:DataW H}{p:List MemPlace}(hv:Value.okWide Tryz.prog w r b0 t v)(h:DataW.Trod enc Tryz.prog w base spare held t v d p):∃fuel,DataW.trod enc Tryz.prog w base spare held fuel t [v]=some (d,p):=by
 obtain⟨a0,len,cap,rfl⟩:=okWide_slice ht hv
 obtain⟨fuel,hf⟩:=h
 exact⟨fuel,by simpa[Value.cells]using hf⟩
theorem open_works{v:Value}{d:DataW H}{p:List MemPlace}(hv:Value.okWide Tryz.prog w .any b0 30 v)(h:DataW.Trod enc Tryz.prog w base spare held 30 v d p):
  ∃(A:Option Addr)(n c:Nat)(l:List Sw),v= .slice A n c/\SlR w A 3 (l.map Sw.row)/\l.length=n:=by
 obtain⟨fuel,hf⟩:=trod_one Tryz.underlying30 hv h
 obtain⟨A,n,c,l,h1,h2,h3,_⟩:=open_rows (row:=Sw.row) (by decide) (fun _=>rfl) Tryz.underlying30 k_Wor work_of hf
 exact⟨A,n,c,l,h1,h2,h3⟩
theorem open_ints{v:Value}{d:DataW H}{p:List MemPlace}(hv:Value.okWide Tryz.prog w .any b0 48 v)(h:DataW.Trod enc Tryz.prog w base spare held 48 v d p):
  ∃(A:Option Addr)(n c:Nat)(l:List Int),v= .slice A n c/\SlR w A 1 (l.map iRow)/\l.length=n:=by
 obtain⟨fuel,hf⟩:=trod_one Tryz.underlying48 hv h
 obtain⟨A,n,c,l,h1,h2,h3,_⟩:=open_rows (row:=iRow) (by decide) (fun _=>rfl) Tryz.underlying48 k_int int_of hf
 exact⟨A,n,c,l,h1,h2,h3⟩
end

instance:Inhabited Rm:=⟨⟨⟨⟨#[]⟩,0,[],⟨#[]⟩,⟨#[]⟩,0,0⟩,none,0,0⟩⟩
section
variable {H:Type} {enc:TypeId×Value->H} {w:World} {base b0:Nat} {spare:Nat->Bool} {held:Bool}
theorem k_Rul:Tryz.prog.cellsOf 87=7:=by kernel_rfl
theorem k_Car:Tryz.prog.cellsOf 25=2:=by kernel_rfl
theorem k_Pro:Tryz.prog.cellsOf 28=3:=by kernel_rfl
theorem k_Rats:Tryz.prog.cellsOf 85=1:=by kernel_rfl
theorem k_Rules:Tryz.prog.cellsOf 26=1:=by kernel_rfl
theorem k_Pars:Tryz.prog.cellsOf 22=1:=by kernel_rfl
theorem k_Hols:Tryz.prog.cellsOf 23=1:=by kernel_rfl
end

section
variable {H:Type} {P:Program}
theorem mem_weightsAll{e k:Nat}:∀{l:List (DataW H)} {d:DataW H},d∈l->k∈d.weights P e->k∈DataW.weightsAll P e l
 |x::r,d,hd,hk=>by
  rw[DataW.weightsAll]
  rcases List.mem_cons.1 hd with rfl|hd
  ·exact List.mem_append_left _ hk
  ·exact List.mem_append_right _ (mem_weightsAll hd hk)
theorem mem_weightsEach{k t:Nat}:∀{ts:List TypeId} {l:List (DataW H)} {i:Nat} {d:DataW H},ts[i]? =some t->l[i]? =some d->k∈d.weights P t->k∈DataW.weightsEach P ts l
 |[],_,i,_,h,_,_=>by simp at h
 |_::_,[],i,_,_,h,_=>by simp at h
 |t'::ts,x::r,0,d,h,h',hk=>by
  simp only[List.getElem?_cons_zero,Option.some.injEq]at h h'
  subst h;subst h'
  rw[DataW.weightsEach]
  exact List.mem_append_left _ hk
 |t'::ts,x::r,i+1,d,h,h',hk=>by
  rw[List.getElem?_cons_succ]at h h'
  rw[DataW.weightsEach]
  exact List.mem_append_right _ (mem_weightsEach h h' hk)
def Lt(P:Program)(t:TypeId)(d:DataW H):Prop:=∀k∈d.weights P t,k<=140737488351232
theorem Lt.part{t u i:Nat}{fs:Array Field}{ds:List (DataW H)}{d:DataW H}(hs:P.underlying t=some (.struct fs))(h:Lt P t (.agg ds))(h1:(fs.toList.map (·.type))[i]? =some u)(h2:ds[i]? =some d):Lt P u d:=fun k hk=>by
 refine h k ?_
 rw[DataW.weights,hs]
 exact mem_weightsEach h1 h2 hk
end
section
variable {H:Type} {enc:TypeId×Value->H} {w:World} {base b0:Nat} {spare:Nat->Bool} {held:Bool}
theorem open_rowsW{α:Type}[Inhabited α]{row:α->List Value}{P:α->Prop}{sz bytes:Nat}(hsz:0<sz)(hrow:∀x,(row x).length=sz){t e:TypeId}(ht:Tryz.prog.underlying t=some (.slice e))(hC:Tryz.prog.cellsOf e=sz)(hby:Tryz.prog.bytesOf e=bytes)
  (hx:∀(n:Nat)(cs:List Value)(y:DataW H×List MemPlace),DataW.trod enc Tryz.prog w base spare held n e cs=some y->Lt Tryz.prog e y.1->∃x:α,cs=row x/\P x)
  {v:Value} {fuel:Nat} {y:DataW H×List MemPlace} (h:DataW.trod enc Tryz.prog w base spare held fuel t [v]=some y) (hl:Lt Tryz.prog t y.1):
  ∃(A:Option Addr)(n c:Nat)(l:List α),v= .slice A n c/\SlR w A sz (l.map row)/\l.length=n/\n<9223372036854775808/\(A=none->c=0)/\n<=c/\(∀x∈l,P x)/\n*bytes<=140737488355328:=by
 rcases open_slice ht h with⟨hcs,_⟩|⟨a,len,cap,m,n,D,Pl,hcs,hb,hl',hm,hmm,hy,hi⟩
 ·cases hcs
  exact⟨none,0,0,[],rfl,.inl rfl,rfl,by omega,fun _=>rfl,Nat.le_refl _,by simp,by omega⟩
 ·cases hcs
  rw[hC]at hi
  have hlm:len<=m:=by rw[hmm];split<;>omega
  rw[hy]at hl
  have hwt:len*bytes<=140737488355328:=by
   have:=hl ((((List.range len).map D).length+((List.range (m - len)).map fun j=>D (len+j)).length)*Tryz.prog.bytesOf e) (by rw[DataW.weights,ht];exact List.mem_cons_self ..)
   rw[hby,List.length_map,List.length_range,Nat.add_mul]at this
   exact Nat.le_trans (Nat.le_add_right _ _) (Nat.le_trans this (by decide))
  have hD:∀i,i<len->Lt Tryz.prog e (D i):=fun i hi k hk=>by
   refine hl k ?_
   rw[DataW.weights,ht]
   exact List.mem_cons_of_mem _ (List.mem_append_left _ (mem_weightsAll (List.mem_map_of_mem (List.mem_range.2 hi)) hk))
  obtain⟨g,hg⟩:=choose_lt (α:=α) (n:=len) (p:=fun i x=>P x/\∀j,(hj:j<(row x).length)->w.cell? (a.add (i*sz+j))=some ((row x)[j])) fun i hilt=>by
   obtain⟨cs',hc,ht'⟩:=hi i (by omega)
   obtain⟨_,hcl,hat⟩:=World.cells?_some hc
   obtain⟨x,rfl,hP⟩:=hx _ _ _ ht' (hD i hilt)
   refine⟨x,hP,fun j hj=> ?_⟩
   rw[<-Go.Deep.add_add,hat j (by rw[hrow]at hj;omega),List.getElem?_eq_getElem hj]
  refine⟨some a,len,cap,(List.range len).map g,rfl,slR_of_cells hsz (fun r hr=> ?_) (fun i hi2 j hj=> ?_),by simp,by unfold maxLen at hm;omega,fun k=>(by cases k),hl',fun x hx'=> ?_,hwt⟩
  ·obtain⟨x,_,rfl⟩:=List.mem_map.1 hr
   exact hrow x
  ·simp at hi2
   simp only[List.getElem_map,List.getElem_range]at hj⊢
   exact(hg i hi2).2 j hj
  ·obtain⟨i,hi2,rfl⟩:=List.mem_map.1 hx'
   exact(hg i (List.mem_range.1 hi2)).1
theorem by_Rat:Tryz.prog.bytesOf 57=16:=by kernel_rfl
theorem by_Par:Tryz.prog.bytesOf 65=88:=by kernel_rfl
theorem by_Hol:Tryz.prog.bytesOf 61=104:=by kernel_rfl
theorem by_Rul:Tryz.prog.bytesOf 87=96:=by kernel_rfl
theorem rule_ofW(n:Nat)(cs:List Value)(y:DataW H×List MemPlace)(h:DataW.trod enc Tryz.prog w base spare held n 87 cs=some y)(hlt:Lt Tryz.prog 87 y.1):
  ∃x:Rm,cs=x.row/\(SlR w x.A 1 (x.r.fac.map sRow)/\x.r.fac.length=x.n/\x.n<9223372036854775808/\(x.A=none->x.c=0))/\x.n*16<=140737488355328:=by
 obtain⟨ys,m,_,rfl,hl,hlen,hf⟩:=DataW.trod_struct Tryz.underlying87 h
 rw[k_Rul]at hl
 match cs,hl with
 |[v0,v1,v2,v3,v4,v5,v6],_=>
  match ys,hlen with
  |[y0,y1,y2,y3,y4,y5,y6],_=>
   obtain⟨z0,e0⟩:=str_of (n:=m) (cs:=[v0]) (y:=y0) (by simpa[k_str]using hf 0 _ rfl)
   obtain⟨z1,e1⟩:=int_of m [v1] y1 (by simpa[k_int]using hf 1 _ rfl)
   obtain⟨A,k,c,l,rfl,q1,q2,q3,q4,_,_,q5⟩:=open_rowsW (row:=sRow) (P:=fun _=>True) (by decide) (fun _=>rfl) Tryz.underlying85 k_Rat by_Rat (fun n cs y h _=>by obtain⟨x,e⟩:=rat_of h;exact⟨x,e,trivial⟩) (v:=v2) (fuel:=m) (y:=y2) (by simpa[k_Rats]using hf 2 _ rfl) (Lt.part (i:=2) Tryz.underlying87 hlt rfl rfl)
   obtain⟨z3,e3⟩:=rat_of (n:=m) (cs:=[v3]) (y:=y3) (by simpa[k_Rat]using hf 3 _ rfl)
   obtain⟨z4,e4⟩:=rat_of (n:=m) (cs:=[v4]) (y:=y4) (by simpa[k_Rat]using hf 4 _ rfl)
   obtain⟨z5,e5⟩:=int_of m [v5] y5 (by simpa[k_int]using hf 5 _ rfl)
   obtain⟨z6,e6⟩:=int_of m [v6] y6 (by simpa[k_int]using hf 6 _ rfl)
   cases e0;cases e1;cases e3;cases e4;cases e5;cases e6
   exact⟨⟨⟨z0,z1,l,z3,z4,z5,z6⟩,A,k,c⟩,rfl,⟨q1,q2,q3,q4⟩,q5⟩
theorem open_problemW{v:Value}{d:DataW H}{p:List MemPlace}(hv:Value.okWide Tryz.prog w .any b0 28 v)(h:DataW.Trod enc Tryz.prog w base spare held 28 v d p)(hlt:Lt Tryz.prog 28 d):
  ∃(A0:Option Addr)(n0 c0:Nat)(A1:Option Addr)(n1 c1:Nat)(A2:Option Addr)(n2 c2:Nat)(ps:List Pa)(hs:List Ho)(xs:List Rm),v= .agg #[.slice A0 n0 c0,.slice A1 n1 c1,.slice A2 n2 c2]/\PrRaw w A0 n0 c0 A1 n1 c1 A2 n2 c2 ps hs xs/\PrFit w A0 n0 A1 n1 A2 n2 ps hs xs:=by
 obtain⟨cs,rfl,hsz⟩:=okWide_struct Tryz.underlying28 hv
 rw[k_Pro]at hsz
 obtain⟨v0,v1,v2,rfl⟩:∃v0 v1 v2,cs= #[v0,v1,v2]:=by
  obtain⟨l⟩:=cs
  match l,hsz with
  |[a,b,c],_=>exact⟨a,b,c,rfl⟩
 obtain⟨fuel,hf⟩:=h
 obtain⟨ys,m,_,ey,_,hlen,hf⟩:=DataW.trod_struct Tryz.underlying28 hf
 match ys,hlen with
 |[y0,y1],_=>
  have ed:d= .agg [y0.1,y1.1]:=(Prod.mk.inj ey).1
  rw[ed]at hlt
  have l0:Lt Tryz.prog 25 y0.1:=Lt.part (i:=0) Tryz.underlying28 hlt rfl rfl
  have l1:Lt Tryz.prog 26 y1.1:=Lt.part (i:=1) Tryz.underlying28 hlt rfl rfl
  have g0:DataW.trod enc Tryz.prog w base spare held m 25 [v0,v1]=some y0:=by simpa[Value.cells,k_Car]using hf 0 _ rfl
  have g1:DataW.trod enc Tryz.prog w base spare held m 26 [v2]=some y1:=by simpa[Value.cells,k_Rules]using hf 1 _ rfl
  obtain⟨zs,m',_,ez,_,hzl,hz⟩:=DataW.trod_struct Tryz.underlying25 g0
  match zs,hzl with
  |[z0,z1],_=>
   have ez1:y0.1= .agg [z0.1,z1.1]:=congrArg Prod.fst ez
   rw[ez1]at l0
   have k0:DataW.trod enc Tryz.prog w base spare held m' 22 [v0]=some z0:=by simpa[k_Pars]using hz 0 _ rfl
   have k1:DataW.trod enc Tryz.prog w base spare held m' 23 [v1]=some z1:=by simpa[k_Hols]using hz 1 _ rfl
   obtain⟨A0,n0,c0,ps,rfl,p1,p2,p3,p4,_,_,p7⟩:=open_rowsW (row:=Pa.row) (P:=fun _=>True) (by decide) (fun _=>rfl) Tryz.underlying22 k_Par by_Par (fun n cs y h _=>by obtain⟨x,e⟩:=par_of n cs y h;exact⟨x,e,trivial⟩) k0 (Lt.part (i:=0) Tryz.underlying25 l0 rfl rfl)
   obtain⟨A1,n1,c1,hs,rfl,q1,q2,q3,q4,_,_,q7⟩:=open_rowsW (row:=Ho.row) (P:=fun _=>True) (by decide) (fun _=>rfl) Tryz.underlying23 k_Hol by_Hol (fun n cs y h _=>by obtain⟨x,e⟩:=hold_of n cs y h;exact⟨x,e,trivial⟩) k1 (Lt.part (i:=1) Tryz.underlying25 l0 rfl rfl)
   obtain⟨A2,n2,c2,xs,rfl,r1,r2,r3,r4,r5,r6,r7⟩:=open_rowsW (row:=Rm.row) (by decide) (fun _=>rfl) Tryz.underlying26 k_Rul by_Rul rule_ofW g1 l1
   exact⟨A0,n0,c0,A1,n1,c1,A2,n2,c2,ps,hs,xs,rfl,⟨⟨p1,q1,p2,q2,p3,q3⟩,p4,q4,r1,r2,r3,r5,fun x hx=>(r6 x hx).1⟩,⟨⟨p1,q1,p2,q2,p7,q7⟩,r1,r2,r7,fun x hx=>⟨(r6 x hx).1.1,(r6 x hx).1.2.1,(r6 x hx).2,(r6 x hx).1.2.2.2⟩⟩⟩
end
end Go.Proofs.YtgfkeadgjkfomaaGreatDoor.B
