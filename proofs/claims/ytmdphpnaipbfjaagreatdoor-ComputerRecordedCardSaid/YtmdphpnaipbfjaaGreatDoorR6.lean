/- Part 6 of the proofs that: The state of a record that was written and recovered is that of its events. -/
import Derived.Test.YtmdphpnaipbfjaaGreatDoorR5
import Derived.Test.YtmdphpnaipbfjaaGreatDoorProg
import Derived.Deep.Slices
import Derived.Lib.AppendZerosOnto
import Derived.Lib.Overlaps
import Derived.Shelf.Spec.SlicesInsertGrow
set_option linter.unusedVariables false
set_option linter.unusedSimpArgs false
set_option maxRecDepth 100000
set_option maxHeartbeats 4000000
namespace Go.Proofs.YtmdphpnaipbfjaaGreatDoor.F
open Go Go.RowKit Go.Proofs Go.Proofs.YtmdphpnaipbfjaaGreatDoor.Vc
open Tryz
variable {A C D E G H J K A0 A1 A2 A3 A4 A5 A6 A7 A8 A9 C0 C1 C2 C3 C4 C5 C6 C7 C8 C9:O} {a b c d e f g i j l m n o a0 a1 a2 a3 a4 a5 a6 a7 a8 a9 b0 b1 b2 b3 b4 b5 b6 b7 b8 b9 c0 c1 c2 c3 c4 c5 c6 c7 c8 c9:Nat} {p q r s t u v x p0 p1 p2 p3 p4 p5 p6 p7 p8 p9 q0 q1 q2 q3 q4 q5 q6 q7 q8 q9:Int} {L M N N0 N1 N2 N3 N4 N5 N6 N7 N8 N9 T0 T1 T2 T3 T4 T5 T6 T7 T8 T9:ByteArray} {Q S:Bool} {B:Nat} {w:World} {R:Kt}
def aX.L4(a:O)(b c:Nat)(d:O)(e f:Nat)(g i:Int):=Lt 19 f19 4 [vS 0 a b c,vS 1 d e f,vI 12 g,vI 13 i] []
def aX.cx:Pm:=([((true,4),[0,1,12,13],[])],[])
theorem aX.L4.step
  (h:(Br (p<q) (Ix p a A fun o=>(∃e f g,aa w (o.add ((p).toNat*3)) [I e,I f,I g]/\(Ix p b C fun r=>(∃i j l,aa w (r.add ((p).toNat*3)) [I i,I j,I l]/\(Br (¬(e=i/\f=j/\g=l/\True)) (∀m,Ext B [] w m->(R (.bool false) m)) (aN .i64 (p+1)/\(∀n,Ext B [] w n->(aX.L4 A a c C b d q (p+1) B n R)))))))) (R (.bool true) w))):
  aX.L4 A a c C b d q p B w R:=
 lr aX.cx func19 h
theorem aX.vc
  (h:(Br ((a:Int)≠(b:Int)) (R (.bool false) w) (aX.L4 A a c C b d (a:Int) (0:Int) w.heap.size w R))):
  Pure P 19 #[vW A a c,vW C b d] w R:=
 pr aX.cx func19 h

def aF.L5(a:O)(b c d:Nat)(e:Array Value)(f:Array Value)(g i:Int):=Lt 45 f45 5 [vS 0 a b c,(1,.v (.func (.func d) e f)),vI 5 g,vI 6 i] []
def aF.cx:Pm:=([((true,5),[0,1,5,6],[])],[(7,4,2),(8,2,4),(11,3,2)])
theorem aF.L5.step{f g:Array Value}
  (h:(Br (q<(a:Int)) (Ix q a A fun a4=>(∃r s t u v x y z C D E G,aa w (a4.add ((q).toNat*6)) [I r,I s,I t,vW u v x,vW y z C,vW D E G]/\(ae P (Instr.alloc 33 true (.tuple #[])) B [] w fun F H=>∃(d:Addr),F= .pointer (some d)/\(∃(j:List Value)(l:Nat),B<=d.block/\d.spot=none/\H.heap[d.block]? =some (.cells j.toArray l (0,0))/\d.off+6<=j.length/\hasType l []=false/\∀m,aG H m d.block l (setCells j d.off [I r,I s,I t,vW u v x,vW y z C,vW D E G])->(∃J K L M N O Q S T U V X,aa m d [I J,I K,I L,vW M N O,vW Q S T,vW U V X]/\(av P c=true/\(Pure P c ((Array.toList f)++([.agg #[I J,I K,I L,vW M N O,vW Q S T,vW U V X]]:List Value)++(Array.toList g)).toArray m (Rb fun W i=>(Br (W=false) (∃Y Z d0 d1 d2 d3 d4 d5 d6 d7 d8 d9,aa i d [I Y,I Z,I d0,vW d1 d2 d3,vW d4 d5 d6,vW d7 d8 d9]/\(Ix p a A fun e=>(∃(n:List Value)(o:Nat),B<=(e.add ((p).toNat*6)).block/\(e.add ((p).toNat*6)).spot=none/\i.heap[(e.add ((p).toNat*6)).block]? =some (.cells n.toArray o (0,0))/\(e.add ((p).toNat*6)).off+6<=n.length/\hasType o []=false/\∀k,aG i k (e.add ((p).toNat*6)).block o (setCells n (e.add ((p).toNat*6)).off [I Y,I Z,I d0,vW d1 d2 d3,vW d4 d5 d6,vW d7 d8 d9])->(aN .i64 (p+1)/\(aN .i64 (q+1)/\(aF.L5 A a b c f g (p+1) (q+1) B k R)))))) (aN .i64 (q+1)/\(aF.L5 A a b c f g p (q+1) B i R))))))))))) ((0<=p/\p<=(a:Int)/\a<=b)/\(ae P (Builtin.clear_ #[22] 0 #[(.slice (cT A ((p).toNat) b 6) (a - (p).toNat) (b - (p).toNat))]) B [] w fun e4 e5=>e4= .tuple #[]/\((0<=p/\p<=(b:Int))/\(R (vW A ((p).toNat) b) e5)))))):
  aF.L5 A a b c f g p q B w R:=
 lr aF.cx func45 h
theorem aF.sV{e f:Array Value}(hB:B<=w.heap.size)
  (h:(Pure P 94 #[vW A a b,(.func (.func c) e f)] w (Ri fun d g=>(Br (d=(-1:Int)) (R (vW A a b) g) (aN .i64 (d+1)/\(aF.L5 A a b c e f d (d+1) B g R)))))):
  ba P 45 #[vW A a b,(.func (.func c) e f)] B w R:=
 pb aF.cx func45 h hB

def fe.cx:Pm:=([],[(3,0,2),(3,2,2)])
theorem fe.vc
  (h:(Br (A=none) (R (vN) w) (ae P (Instr.buildSlice 22 0 #[]) w.heap.size [] w (Rs fun c d e f=>(ae P (Builtin.append_ #[22,22] 22 #[vW c d e,vW A a b]) w.heap.size [] f (Rs fun g i j l=>(R (vW g i j) l))))))):
  Pure P 46 #[vW A a b] w R:=
 pr fe.cx func46 h

def ke.cx:Pm:=([],[(3,0,2),(3,2,2)])
theorem ke.vc
  (h:(Br (A=none) (R (vN) w) (ae P (Instr.buildSlice 29 0 #[]) w.heap.size [] w (Rs fun c d e f=>(ae P (Builtin.append_ #[29,29] 29 #[vW c d e,vW A a b]) w.heap.size [] f (Rs fun g i j l=>(R (vW g i j) l))))))):
  Pure P 51 #[vW A a b] w R:=
 pr ke.cx func51 h

def eI.cx:Pm:=([],[(3,0,2),(3,2,2)])
theorem eI.vc
  (h:(Br (A=none) (R (vN) w) (ae P (Instr.buildSlice 30 0 #[]) w.heap.size [] w (Rs fun c d e f=>(ae P (Builtin.append_ #[30,30] 30 #[vW c d e,vW A a b]) w.heap.size [] f (Rs fun g i j l=>(R (vW g i j) l))))))):
  Pure P 52 #[vW A a b] w R:=
 pr eI.cx func52 h

def gJ.cx:Pm:=([],[(3,0,2),(3,2,2)])
theorem gJ.vc
  (h:(Br (A=none) (R (vN) w) (ae P (Instr.buildSlice 31 0 #[]) w.heap.size [] w (Rs fun c d e f=>(ae P (Builtin.append_ #[31,31] 31 #[vW c d e,vW A a b]) w.heap.size [] f (Rs fun g i j l=>(R (vW g i j) l))))))):
  Pure P 53 #[vW A a b] w R:=
 pr gJ.cx func53 h

def cL.cx:Pm:=([],[])
theorem cL.vc{d e:Array Value}
  (h:(Pure P 98 #[vW A a b,(.func (.func c) d e)] w (Ri fun f g=>(R (.bool (decide (f≥(0:Int)))) g)))):
  Pure P 55 #[vW A a b,(.func (.func c) d e)] w R:=
 pr cL.cx func55 h

def eX.cx:Pm:=([],[])
theorem eX.vc{d e:Array Value}
  (h:(Pure P 99 #[vW A a b,(.func (.func c) d e)] w (Ri fun f g=>(R (.bool (decide (f≥(0:Int)))) g)))):
  Pure P 57 #[vW A a b,(.func (.func c) d e)] w R:=
 pr eX.cx func57 h

def gp.cx:Pm:=([],[])
theorem gp.vc{d e:Array Value}
  (h:(Pure P 100 #[vW A a b,(.func (.func c) d e)] w (Ri fun f g=>(R (.bool (decide (f≥(0:Int)))) g)))):
  Pure P 59 #[vW A a b,(.func (.func c) d e)] w R:=
 pr gp.cx func59 h

def eO.cx:Pm:=([],[(3,0,2),(3,2,2)])
theorem eO.vc
  (h:(Br (A=none) (R (vN) w) (ae P (Instr.buildSlice 41 0 #[]) w.heap.size [] w (Rs fun c d e f=>(ae P (Builtin.append_ #[41,41] 41 #[vW c d e,vW A a b]) w.heap.size [] f (Rs fun g i j l=>(R (vW g i j) l))))))):
  Pure P 81 #[vW A a b] w R:=
 pr eO.cx func81 h

def fC.cx:Pm:=([],[(3,0,2),(3,2,2)])
theorem fC.vc
  (h:(Br (A=none) (R (vN) w) (ae P (Instr.buildSlice 42 0 #[]) w.heap.size [] w (Rs fun c d e f=>(ae P (Builtin.append_ #[42,42] 42 #[vW c d e,vW A a b]) w.heap.size [] f (Rs fun g i j l=>(R (vW g i j) l))))))):
  Pure P 82 #[vW A a b] w R:=
 pr fC.cx func82 h

def fD.cx:Pm:=([],[(3,0,2),(3,2,2)])
theorem fD.vc
  (h:(Br (A=none) (R (vN) w) (ae P (Instr.buildSlice 45 0 #[]) w.heap.size [] w (Rs fun c d e f=>(ae P (Builtin.append_ #[45,45] 45 #[vW c d e,vW A a b]) w.heap.size [] f (Rs fun g i j l=>(R (vW g i j) l))))))):
  Pure P 83 #[vW A a b] w R:=
 pr fD.cx func83 h

def fE.cx:Pm:=([],[(3,0,2),(3,2,2)])
theorem fE.vc
  (h:(Br (A=none) (R (vN) w) (ae P (Instr.buildSlice 48 0 #[]) w.heap.size [] w (Rs fun c d e f=>(ae P (Builtin.append_ #[48,48] 48 #[vW c d e,vW A a b]) w.heap.size [] f (Rs fun g i j l=>(R (vW g i j) l))))))):
  Pure P 84 #[vW A a b] w R:=
 pr fE.cx func84 h

def fF.cx:Pm:=([],[(3,0,2),(3,2,2)])
theorem fF.vc
  (h:(Br (A=none) (R (vN) w) (ae P (Instr.buildSlice 49 0 #[]) w.heap.size [] w (Rs fun c d e f=>(ae P (Builtin.append_ #[49,49] 49 #[vW c d e,vW A a b]) w.heap.size [] f (Rs fun g i j l=>(R (vW g i j) l))))))):
  Pure P 85 #[vW A a b] w R:=
 pr fF.cx func85 h

def eu.cx:Pm:=([],[(3,0,2),(3,2,2)])
theorem eu.vc
  (h:(Br (A=none) (R (vN) w) (ae P (Instr.buildSlice 50 0 #[]) w.heap.size [] w (Rs fun c d e f=>(ae P (Builtin.append_ #[50,50] 50 #[vW c d e,vW A a b]) w.heap.size [] f (Rs fun g i j l=>(R (vW g i j) l))))))):
  Pure P 86 #[vW A a b] w R:=
 pr eu.cx func86 h

def dJ.cx:Pm:=([],[(3,0,2),(3,2,2)])
theorem dJ.vc
  (h:(Br (A=none) (R (vN) w) (ae P (Instr.buildSlice 51 0 #[]) w.heap.size [] w (Rs fun c d e f=>(ae P (Builtin.append_ #[51,51] 51 #[vW c d e,vW A a b]) w.heap.size [] f (Rs fun g i j l=>(R (vW g i j) l))))))):
  Pure P 87 #[vW A a b] w R:=
 pr dJ.cx func87 h

def ff.cx:Pm:=([],[(3,0,2),(3,2,2)])
theorem ff.vc
  (h:(Br (A=none) (R (vN) w) (ae P (Instr.buildSlice 52 0 #[]) w.heap.size [] w (Rs fun c d e f=>(ae P (Builtin.append_ #[52,52] 52 #[vW c d e,vW A a b]) w.heap.size [] f (Rs fun g i j l=>(R (vW g i j) l))))))):
  Pure P 88 #[vW A a b] w R:=
 pr ff.cx func88 h

def fG.cx:Pm:=([],[(3,0,2),(3,2,2)])
theorem fG.vc
  (h:(Br (A=none) (R (vN) w) (ae P (Instr.buildSlice 53 0 #[]) w.heap.size [] w (Rs fun c d e f=>(ae P (Builtin.append_ #[53,53] 53 #[vW c d e,vW A a b]) w.heap.size [] f (Rs fun g i j l=>(R (vW g i j) l))))))):
  Pure P 89 #[vW A a b] w R:=
 pr fG.cx func89 h

def eP.cx:Pm:=([],[(3,0,2),(3,2,2)])
theorem eP.vc
  (h:(Br (A=none) (R (vN) w) (ae P (Instr.buildSlice 54 0 #[]) w.heap.size [] w (Rs fun c d e f=>(ae P (Builtin.append_ #[54,54] 54 #[vW c d e,vW A a b]) w.heap.size [] f (Rs fun g i j l=>(R (vW g i j) l))))))):
  Pure P 90 #[vW A a b] w R:=
 pr eP.cx func90 h

def dQ.cx:Pm:=([],[(3,0,2),(3,2,2)])
theorem dQ.vc
  (h:(Br (A=none) (R (vN) w) (ae P (Instr.buildSlice 55 0 #[]) w.heap.size [] w (Rs fun c d e f=>(ae P (Builtin.append_ #[55,55] 55 #[vW c d e,vW A a b]) w.heap.size [] f (Rs fun g i j l=>(R (vW g i j) l))))))):
  Pure P 91 #[vW A a b] w R:=
 pr dQ.cx func91 h

def aP.L2(a:O)(b c d:Nat)(e:Array Value)(f:Array Value)(g i:Int):=Lt 94 f94 2 [vS 0 a b c,(1,.v (.func (.func d) e f)),vI 7 g,vI 8 i] []
def aP.cx:Pm:=([((true,2),[0,1,7,8],[])],[(4,5,4)])
theorem aP.L2.step{d e:Array Value}
  (h:(Br (p<q) (Ix p b A fun x=>(∃f g i j l m n o r s t u,aa w (x.add ((p).toNat*6)) [I f,I g,I i,vW j l m,vW n o r,vW s t u]/\(av P a=true/\(Pure P a ((Array.toList d)++([.agg #[I f,I g,I i,vW j l m,vW n o r,vW s t u]]:List Value)++(Array.toList e)).toArray w (Rb fun y v=>(Bb y (R (I p) v) (aN .i64 (p+1)/\(aP.L2 A b c a d e q (p+1) B v R)))))))) (R (I (-1:Int)) w))):
  aP.L2 A b c a d e q p B w R:=
 lr aP.cx func94 h
theorem aP.vc{d e:Array Value}
  (h:(aP.L2 A a b c d e (a:Int) (0:Int) w.heap.size w R)):
  Pure P 94 #[vW A a b,(.func (.func c) d e)] w R:=
 pr aP.cx func94 h

def aB.L2(a:O)(b c d:Nat)(e:Array Value)(f:Array Value)(g i:Int):=Lt 98 f98 2 [vS 0 a b c,(1,.v (.func (.func d) e f)),vI 7 g,vI 8 i] []
def aB.cx:Pm:=([((true,2),[0,1,7,8],[])],[(4,5,4)])
theorem aB.L2.step{d e:Array Value}
  (h:(Br (p<q) (Ix p b A fun i=>(∃f,aa w (i.add ((p).toNat*1)) [vU f]/\(av P a=true/\(Pure P a ((Array.toList d)++([vU f]:List Value)++(Array.toList e)).toArray w (Rb fun j g=>(Bb j (R (I p) g) (aN .i64 (p+1)/\(aB.L2 A b c a d e q (p+1) B g R)))))))) (R (I (-1:Int)) w))):
  aB.L2 A b c a d e q p B w R:=
 lr aB.cx func98 h
theorem aB.vc{d e:Array Value}
  (h:(aB.L2 A a b c d e (a:Int) (0:Int) w.heap.size w R)):
  Pure P 98 #[vW A a b,(.func (.func c) d e)] w R:=
 pr aB.cx func98 h

def aY.L2(a:O)(b c d:Nat)(e:Array Value)(f:Array Value)(g i:Int):=Lt 99 f99 2 [vS 0 a b c,(1,.v (.func (.func d) e f)),vI 7 g,vI 8 i] []
def aY.cx:Pm:=([((true,2),[0,1,7,8],[])],[(4,5,4)])
theorem aY.L2.step{d e:Array Value}
  (h:(Br (p<q) (Ix p b A fun i=>(∃f,aa w (i.add ((p).toNat*1)) [vU f]/\(av P a=true/\(Pure P a ((Array.toList d)++([vU f]:List Value)++(Array.toList e)).toArray w (Rb fun j g=>(Bb j (R (I p) g) (aN .i64 (p+1)/\(aY.L2 A b c a d e q (p+1) B g R)))))))) (R (I (-1:Int)) w))):
  aY.L2 A b c a d e q p B w R:=
 lr aY.cx func99 h
theorem aY.vc{d e:Array Value}
  (h:(aY.L2 A a b c d e (a:Int) (0:Int) w.heap.size w R)):
  Pure P 99 #[vW A a b,(.func (.func c) d e)] w R:=
 pr aY.cx func99 h

def bq.L2(a:O)(b c d:Nat)(e:Array Value)(f:Array Value)(g i:Int):=Lt 100 f100 2 [vS 0 a b c,(1,.v (.func (.func d) e f)),vI 7 g,vI 8 i] []
def bq.cx:Pm:=([((true,2),[0,1,7,8],[])],[(4,5,4)])
theorem bq.L2.step{d e:Array Value}
  (h:(Br (p<q) (Ix p b A fun i=>(∃f,aa w (i.add ((p).toNat*1)) [I f]/\(av P a=true/\(Pure P a ((Array.toList d)++([I f]:List Value)++(Array.toList e)).toArray w (Rb fun j g=>(Bb j (R (I p) g) (aN .i64 (p+1)/\(bq.L2 A b c a d e q (p+1) B g R)))))))) (R (I (-1:Int)) w))):
  bq.L2 A b c a d e q p B w R:=
 lr bq.cx func100 h
theorem bq.vc{d e:Array Value}
  (h:(bq.L2 A a b c d e (a:Int) (0:Int) w.heap.size w R)):
  Pure P 100 #[vW A a b,(.func (.func c) d e)] w R:=
 pr bq.cx func100 h

def cY.cx:Pm:=([],[])
theorem cY.vc{d e:Array Value}
  (h:(Pure P 131 #[vW A a b,(.func (.func c) d e)] w (Ri fun f g=>(R (.bool (decide (f≥(0:Int)))) g)))):
  Pure P 105 #[vW A a b,(.func (.func c) d e)] w R:=
 pr cY.cx func105 h

def db.cx:Pm:=([],[])
theorem db.vc{d e:Array Value}
  (h:(Pure P 176 #[vW A a b,(.func (.func c) d e)] w (Ri fun f g=>(R (.bool (decide (f≥(0:Int)))) g)))):
  Pure P 120 #[vW A a b,(.func (.func c) d e)] w R:=
 pr db.cx func120 h

def az.L2(a:O)(b c d:Nat)(e:Array Value)(f:Array Value)(g i:Int):=Lt 131 f131 2 [vS 0 a b c,(1,.v (.func (.func d) e f)),vI 7 g,vI 8 i] []
def az.cx:Pm:=([((true,2),[0,1,7,8],[])],[(4,5,4)])
theorem az.L2.step{d e:Array Value}
  (h:(Br (p<q) (Ix p b A fun t=>(∃f g i j l m n o r,aa w (t.add ((p).toNat*7)) [vU f,I g,vW i j l,vU m,vU n,I o,I r]/\(av P a=true/\(Pure P a ((Array.toList d)++([.agg #[vU f,I g,vW i j l,vU m,vU n,I o,I r]]:List Value)++(Array.toList e)).toArray w (Rb fun u s=>(Bb u (R (I p) s) (aN .i64 (p+1)/\(az.L2 A b c a d e q (p+1) B s R)))))))) (R (I (-1:Int)) w))):
  az.L2 A b c a d e q p B w R:=
 lr az.cx func131 h
theorem az.vc{d e:Array Value}
  (h:(az.L2 A a b c d e (a:Int) (0:Int) w.heap.size w R)):
  Pure P 131 #[vW A a b,(.func (.func c) d e)] w R:=
 pr az.cx func131 h

def iI.cx:Pm:=([],[])
theorem iI.vc
  (h:(Pure P 201 #[vW A a b,I p] w (Ri fun c d=>(R (.bool (decide (c≥(0:Int)))) d)))):
  Pure P 139 #[vW A a b,I p] w R:=
 pr iI.cx func139 h

def ak.L3(a:O)(b c d:Nat)(e:Array Value)(f:Array Value)(g i j l m n:Int):=Lt 144 f144 3 [vS 0 a b c,(2,.v (.func (.func d) e f)),vL 4,vI 8 g,vI 9 i,vI 10 j] [⟨4,false,73,[(I l),(I m),(I n)]⟩]
def ak.cx:Pm:=([((true,3),[0,2,4,8,9,10],[4])],[(4,4,2),(5,6,4),(8,11,4)])
theorem ak.L3.step{e f:Array Value}
  (h:(Br (p<q) (aN .i64 (p+q)/\(aN .u64 ((p+q))/\(ae P (binOp .shr 179 (.int .u64 ((p+q))) (.int .u64 (1:Int))) B [73] w fun C g=>∃d,C= .int .u64 d/\(aN .i64 (d)/\(Ix (d) b A fun D=>(∃i j l,aa g (D.add (((d)).toNat*3)) [I i,I j,I l]/\(av P a=true/\(∀m,Ext B [] g m->(Pure P a ((Array.toList e)++([.agg #[I i,I j,I l],.agg #[I r,I s,I t]]:List Value)++(Array.toList f)).toArray m (Ri fun E n=>(Br (E<0) (aN .i64 ((d)+1)/\(ak.L3 A b c a e f u ((d)+1) q r s t B n R)) (ak.L3 A b c a e f u p (d) r s t B n R)))))))))))) (Br (p<u) (Ix p b A fun G=>(∃o v x,aa w (G.add ((p).toNat*3)) [I o,I v,I x]/\(av P a=true/\(∀y,Ext B [] w y->(Pure P a ((Array.toList e)++([.agg #[I o,I v,I x],.agg #[I r,I s,I t]]:List Value)++(Array.toList f)).toArray y (Ri fun H J=>(R (.tuple #[I p,(.bool (decide (H=0)))]) J))))))) (∀z,Ext B [] w z->(R (.tuple #[I p,.bool false]) z))))):
  ak.L3 A b c a e f u p q r s t B w R:=
 lr ak.cx func144 h
theorem ak.vc{d e:Array Value}
  (h:(∀f,Ext w.heap.size [] w f->(ak.L3 A a b c d e (a:Int) (0:Int) (a:Int) p q r w.heap.size f R))):
  Pure P 144 #[vW A a b,.agg #[I p,I q,I r],(.func (.func c) d e)] w R:=
 pr ak.cx func144 h

def fw.cx:Pm:=([],[(7,2,2),(9,8,2),(10,4,2),(11,8,2),(14,6,2),(15,8,2),(16,4,2),(18,4,2),(19,4,6)])
theorem fw.sV(hB:B<=w.heap.size)
  (h:((0<=p/\p<=(b:Int)/\b<=c)/\(Br ((a:Int)=0) (R (vW A b c) w) (Br (p=(b:Int)) (ae P (Builtin.append_ #[48,48] 48 #[vW A b c,vW C a d]) B [] w (Rs fun o q r s=>(R (vW o q r) s))) (aN .i64 ((b:Int)+(a:Int))/\(Br ((((b:Int)+(a:Int)):Int)>(c:Int)) ((0<=p/\p<=(c:Int))/\(aN .i64 ((b:Int)+(a:Int))/\(aN .i64 (((b:Int)+(a:Int)) - p)/\(ae P (Builtin.append_ #[48,3] 48 #[(vW A ((p).toNat) c),(I (((b:Int)+(a:Int)) - p))]) B [] w (Rs fun g e f t=>((0<=p/\p<=(e:Int)/\e<=f)/\(ae P (Builtin.copy_ #[48,48] 3 #[(.slice (cT g ((p).toNat) f 3) (e - (p).toNat) (f - (p).toNat)),vW C a d]) B [] t (Ri fun E u=>(aN .i64 (p+(a:Int))/\((0<=(p+(a:Int))/\(p+(a:Int))<=(e:Int)/\e<=f)/\((0<=p/\p<=(b:Int)/\b<=c)/\(∀i,Ext B [] u i->(ae P (Builtin.copy_ #[48,48] 3 #[(.slice (cT g (((p+(a:Int))).toNat) f 3) (e - ((p+(a:Int))).toNat) (f - ((p+(a:Int))).toNat)),(.slice (cT A ((p).toNat) c 3) (b - (p).toNat) (c - (p).toNat))]) B [] i (Ri fun G v=>(R (vW g e f) v))))))))))))))) (aN .i64 ((b:Int)+(a:Int))/\((0<=((b:Int)+(a:Int))/\((b:Int)+(a:Int))<=(c:Int))/\(aN .i64 (p+(a:Int))/\((0<=(p+(a:Int))/\(p+(a:Int))<=(((((b:Int)+(a:Int))).toNat):Int)/\((((b:Int)+(a:Int))).toNat)<=c)/\(QP P (callFunc 209 #[vW C a d,(.slice (cT A (((p+(a:Int))).toNat) c 3) (((((b:Int)+(a:Int))).toNat) - ((p+(a:Int))).toNat) (c - ((p+(a:Int))).toNat))]) B [] w (Rb fun x j=>(Br (x=false) (aN .i64 (p+(a:Int))/\((0<=(p+(a:Int))/\(p+(a:Int))<=(((((b:Int)+(a:Int))).toNat):Int)/\((((b:Int)+(a:Int))).toNat)<=c)/\((0<=p/\p<=(((((b:Int)+(a:Int))).toNat):Int)/\((((b:Int)+(a:Int))).toNat)<=c)/\(∀l,Ext B [] j l->(ae P (Builtin.copy_ #[48,48] 3 #[(.slice (cT A (((p+(a:Int))).toNat) c 3) (((((b:Int)+(a:Int))).toNat) - ((p+(a:Int))).toNat) (c - ((p+(a:Int))).toNat)),(.slice (cT A ((p).toNat) c 3) (((((b:Int)+(a:Int))).toNat) - (p).toNat) (c - (p).toNat))]) B [] l (Ri fun H y=>((0<=p/\p<=(((((b:Int)+(a:Int))).toNat):Int)/\((((b:Int)+(a:Int))).toNat)<=c)/\(ae P (Builtin.copy_ #[48,48] 3 #[(.slice (cT A ((p).toNat) c 3) (((((b:Int)+(a:Int))).toNat) - (p).toNat) (c - (p).toNat)),vW C a d]) B [] y (Ri fun J z=>(R (vW A ((((b:Int)+(a:Int))).toNat) c) z)))))))))) ((0<=(b:Int)/\(b:Int)<=(((((b:Int)+(a:Int))).toNat):Int)/\((((b:Int)+(a:Int))).toNat)<=c)/\(ae P (Builtin.copy_ #[48,48] 3 #[(.slice (cT A (((b:Int)).toNat) c 3) (((((b:Int)+(a:Int))).toNat) - ((b:Int)).toNat) (c - ((b:Int)).toNat)),vW C a d]) B [] j (Ri fun K m=>((0<=p/\p<=(((((b:Int)+(a:Int))).toNat):Int)/\((((b:Int)+(a:Int))).toNat)<=c)/\(ba P 210 #[(.slice (cT A ((p).toNat) c 3) (((((b:Int)+(a:Int))).toNat) - (p).toNat) (c - (p).toNat)),(I (a:Int))] B m fun D n=>qk [] m n/\D= .tuple #[]/\(R (vW A ((((b:Int)+(a:Int))).toNat) c) n))))))))))))))))))):
  ba P 147 #[vW A b c,I p,vW C a d] B w R:=
 pb fw.cx func147 h hB

def fx.cx:Pm:=([],[(1,5,2),(5,6,2),(6,5,2)])
theorem fx.sV(hB:B<=w.heap.size)
  (h:(ae P (Instr.sliceAt 48 (vW A a b) (some (I q)) (some (I p)) (some (I (a:Int)))) B [] w (Rs fun m n o e=>(Br (q=p) (R (vW A a b) e) ((0<=q/\q<=(b:Int))/\((0<=p/\p<=(a:Int)/\a<=b)/\(∀f,Ext B [] e f->(ae P (Builtin.append_ #[48,48] 48 #[(vW A ((q).toNat) b),(.slice (cT A ((p).toNat) b 3) (a - (p).toNat) (b - (p).toNat))]) B [] f (Rs fun g c d i=>((0<=(c:Int)/\(c:Int)<=(a:Int)/\(a:Int)<=(d:Int))/\(ae P (Builtin.clear_ #[48] 0 #[(.slice (cT g (((c:Int)).toNat) d 3) (((a:Int)).toNat - ((c:Int)).toNat) (d - ((c:Int)).toNat))]) B [] i fun j l=>j= .tuple #[]/\(R (vW g c d) l)))))))))))):
  ba P 148 #[vW A a b,I q,I p] B w R:=
 pb fx.cx func148 h hB

def aE.L2(a:O)(b c d:Nat)(e:Array Value)(f:Array Value)(g i:Int):=Lt 151 f151 2 [vS 0 a b c,(1,.v (.func (.func d) e f)),vI 7 g,vI 8 i] []
def aE.cx:Pm:=([((true,2),[0,1,7,8],[])],[(4,5,4)])
theorem aE.L2.step{d e:Array Value}
  (h:(Br (p<q) (Ix p b A fun r=>(∃f g i j l m n,aa w (r.add ((p).toNat*7)) [I f,vU g,vU i,vU j,vU l,vU m,vU n]/\(av P a=true/\(Pure P a ((Array.toList d)++([.agg #[I f,vU g,vU i,vU j,vU l,vU m,vU n]]:List Value)++(Array.toList e)).toArray w (Rb fun s o=>(Bb s (R (I p) o) (aN .i64 (p+1)/\(aE.L2 A b c a d e q (p+1) B o R)))))))) (R (I (-1:Int)) w))):
  aE.L2 A b c a d e q p B w R:=
 lr aE.cx func151 h
theorem aE.vc{d e:Array Value}
  (h:(aE.L2 A a b c d e (a:Int) (0:Int) w.heap.size w R)):
  Pure P 151 #[vW A a b,(.func (.func c) d e)] w R:=
 pr aE.cx func151 h

def dM.cx:Pm:=([],[])
theorem dM.vc{d e:Array Value}
  (h:(Pure P 218 #[vW A a b,(.func (.func c) d e)] w (Ri fun f g=>(R (.bool (decide (f≥(0:Int)))) g)))):
  Pure P 157 #[vW A a b,(.func (.func c) d e)] w R:=
 pr dM.cx func157 h

def dX.cx:Pm:=([],[])
theorem dX.vc{d e:Array Value}
  (h:(Pure P 219 #[vW A a b,(.func (.func c) d e)] w (Ri fun f g=>(R (.bool (decide (f≥(0:Int)))) g)))):
  Pure P 160 #[vW A a b,(.func (.func c) d e)] w R:=
 pr dX.cx func160 h

def aQ.L2(a:O)(b c d:Nat)(e:Array Value)(f:Array Value)(g i:Int):=Lt 169 f169 2 [vS 0 a b c,(1,.v (.func (.func d) e f)),vI 7 g,vI 8 i] []
def aQ.cx:Pm:=([((true,2),[0,1,7,8],[])],[(4,5,4)])
theorem aQ.L2.step{d e:Array Value}
  (h:(Br (p<q) (Ix p b A fun s=>(∃f g i j l m n o,aa w (s.add ((p).toNat*8)) [I f,I g,I i,I j,.bool l,vU m,vU n,vU o]/\(av P a=true/\(Pure P a ((Array.toList d)++([.agg #[I f,I g,I i,I j,.bool l,vU m,vU n,vU o]]:List Value)++(Array.toList e)).toArray w (Rb fun t r=>(Bb t (R (I p) r) (aN .i64 (p+1)/\(aQ.L2 A b c a d e q (p+1) B r R)))))))) (R (I (-1:Int)) w))):
  aQ.L2 A b c a d e q p B w R:=
 lr aQ.cx func169 h
theorem aQ.vc{d e:Array Value}
  (h:(aQ.L2 A a b c d e (a:Int) (0:Int) w.heap.size w R)):
  Pure P 169 #[vW A a b,(.func (.func c) d e)] w R:=
 pr aQ.cx func169 h

def aD.L2(a:O)(b c d:Nat)(e:Array Value)(f:Array Value)(g i:Int):=Lt 176 f176 2 [vS 0 a b c,(1,.v (.func (.func d) e f)),vI 7 g,vI 8 i] []
def aD.cx:Pm:=([((true,2),[0,1,7,8],[])],[(4,5,4)])
theorem aD.L2.step{d e:Array Value}
  (h:(Br (p<q) (Ix p b A fun m=>(∃f g i j,aa w (m.add ((p).toNat*4)) [I f,I g,vU i,vU j]/\(av P a=true/\(Pure P a ((Array.toList d)++([.agg #[I f,I g,vU i,vU j]]:List Value)++(Array.toList e)).toArray w (Rb fun n l=>(Bb n (R (I p) l) (aN .i64 (p+1)/\(aD.L2 A b c a d e q (p+1) B l R)))))))) (R (I (-1:Int)) w))):
  aD.L2 A b c a d e q p B w R:=
 lr aD.cx func176 h
theorem aD.vc{d e:Array Value}
  (h:(aD.L2 A a b c d e (a:Int) (0:Int) w.heap.size w R)):
  Pure P 176 #[vW A a b,(.func (.func c) d e)] w R:=
 pr aD.cx func176 h

def aH.L2(a:O)(b c d:Nat)(e:Array Value)(f:Array Value)(g i:Int):=Lt 197 f197 2 [vS 0 a b c,(1,.v (.func (.func d) e f)),vI 7 g,vI 8 i] []
def aH.cx:Pm:=([((true,2),[0,1,7,8],[])],[(4,5,4)])
theorem aH.L2.step{d e:Array Value}
  (h:(Br (p<q) (Ix p b A fun m=>(∃f g i j,aa w (m.add ((p).toNat*4)) [I f,I g,vU i,vU j]/\(av P a=true/\(Pure P a ((Array.toList d)++([.agg #[I f,I g,vU i,vU j]]:List Value)++(Array.toList e)).toArray w (Rb fun n l=>(Bb n (R (I p) l) (aN .i64 (p+1)/\(aH.L2 A b c a d e q (p+1) B l R)))))))) (R (I (-1:Int)) w))):
  aH.L2 A b c a d e q p B w R:=
 lr aH.cx func197 h
theorem aH.vc{d e:Array Value}
  (h:(aH.L2 A a b c d e (a:Int) (0:Int) w.heap.size w R)):
  Pure P 197 #[vW A a b,(.func (.func c) d e)] w R:=
 pr aH.cx func197 h

def bR.L2(a:O)(b c:Nat)(d e f:Int):=Lt 201 f201 2 [vS 0 a b c,vI 1 d,vI 7 e,vI 8 f] []
def bR.cx:Pm:=([((true,2),[0,1,7,8],[])],[])
theorem bR.L2.step
  (h:(Br (p<r) (Ix p a A fun d=>(∃c,aa w (d.add ((p).toNat*1)) [I c]/\(Br (q=c) (R (I p) w) (aN .i64 (p+1)/\(bR.L2 A a b q r (p+1) B w R))))) (R (I (-1:Int)) w))):
  bR.L2 A a b q r p B w R:=
 lr bR.cx func201 h
theorem bR.vc
  (h:(bR.L2 A a b p (a:Int) (0:Int) w.heap.size w R)):
  Pure P 201 #[vW A a b,I p] w R:=
 pr bR.cx func201 h

def aR.L2(a:O)(b c d:Nat)(e:Array Value)(f:Array Value)(g i:Int):=Lt 218 f218 2 [vS 0 a b c,(1,.v (.func (.func d) e f)),vI 7 g,vI 8 i] []
def aR.cx:Pm:=([((true,2),[0,1,7,8],[])],[(4,5,4)])
theorem aR.L2.step{d e:Array Value}
  (h:(Br (p<q) (Ix p b A fun m=>(∃f g i j,aa w (m.add ((p).toNat*4)) [I f,I g,I i,vU j]/\(av P a=true/\(Pure P a ((Array.toList d)++([.agg #[I f,I g,I i,vU j]]:List Value)++(Array.toList e)).toArray w (Rb fun n l=>(Bb n (R (I p) l) (aN .i64 (p+1)/\(aR.L2 A b c a d e q (p+1) B l R)))))))) (R (I (-1:Int)) w))):
  aR.L2 A b c a d e q p B w R:=
 lr aR.cx func218 h
theorem aR.vc{d e:Array Value}
  (h:(aR.L2 A a b c d e (a:Int) (0:Int) w.heap.size w R)):
  Pure P 218 #[vW A a b,(.func (.func c) d e)] w R:=
 pr aR.cx func218 h

def aS.L2(a:O)(b c d:Nat)(e:Array Value)(f:Array Value)(g i:Int):=Lt 219 f219 2 [vS 0 a b c,(1,.v (.func (.func d) e f)),vI 7 g,vI 8 i] []
def aS.cx:Pm:=([((true,2),[0,1,7,8],[])],[(4,5,4)])
theorem aS.L2.step{d e:Array Value}
  (h:(Br (p<q) (Ix p b A fun l=>(∃f g i,aa w (l.add ((p).toNat*3)) [I f,I g,I i]/\(av P a=true/\(Pure P a ((Array.toList d)++([.agg #[I f,I g,I i]]:List Value)++(Array.toList e)).toArray w (Rb fun m j=>(Bb m (R (I p) j) (aN .i64 (p+1)/\(aS.L2 A b c a d e q (p+1) B j R)))))))) (R (I (-1:Int)) w))):
  aS.L2 A b c a d e q p B w R:=
 lr aS.cx func219 h
theorem aS.vc{d e:Array Value}
  (h:(aS.L2 A a b c d e (a:Int) (0:Int) w.heap.size w R)):
  Pure P 219 #[vW A a b,(.func (.func c) d e)] w R:=
 pr aS.cx func219 h

def aT.L2(a:O)(b c d:Nat)(e:Array Value)(f:Array Value)(g i:Int):=Lt 240 f240 2 [vS 0 a b c,(1,.v (.func (.func d) e f)),vI 7 g,vI 8 i] []
def aT.cx:Pm:=([((true,2),[0,1,7,8],[])],[(4,5,4)])
theorem aT.L2.step{d e:Array Value}
  (h:(Br (p<q) (Ix p b A fun r=>(∃f g i j l m n,aa w (r.add ((p).toNat*7)) [I f,vU g,vU i,vU j,vU l,vU m,vU n]/\(av P a=true/\(Pure P a ((Array.toList d)++([.agg #[I f,vU g,vU i,vU j,vU l,vU m,vU n]]:List Value)++(Array.toList e)).toArray w (Rb fun s o=>(Bb s (R (I p) o) (aN .i64 (p+1)/\(aT.L2 A b c a d e q (p+1) B o R)))))))) (R (I (-1:Int)) w))):
  aT.L2 A b c a d e q p B w R:=
 lr aT.cx func240 h
theorem aT.vc{d e:Array Value}
  (h:(aT.L2 A a b c d e (a:Int) (0:Int) w.heap.size w R)):
  Pure P 240 #[vW A a b,(.func (.func c) d e)] w R:=
 pr aT.cx func240 h

def dY.cx:Pm:=([],[])
theorem dY.vc{d e:Array Value}
  (h:(Pure P 240 #[vW A a b,(.func (.func c) d e)] w (Ri fun f g=>(R (.bool (decide (f≥(0:Int)))) g)))):
  Pure P 245 #[vW A a b,(.func (.func c) d e)] w R:=
 pr dY.cx func245 h

def dB.cx:Pm:=([],[])
theorem dB.vc{d e:Array Value}
  (h:(Pure P 249 #[vW A a b,(.func (.func c) d e)] w (Ri fun f g=>(R (.bool (decide (f≥(0:Int)))) g)))):
  Pure P 247 #[vW A a b,(.func (.func c) d e)] w R:=
 pr dB.cx func247 h

def aI.L2(a:O)(b c d:Nat)(e:Array Value)(f:Array Value)(g i:Int):=Lt 249 f249 2 [vS 0 a b c,(1,.v (.func (.func d) e f)),vI 7 g,vI 8 i] []
def aI.cx:Pm:=([((true,2),[0,1,7,8],[])],[(4,5,4)])
theorem aI.L2.step{d e:Array Value}
  (h:(Br (p<q) (Ix p b A fun r=>(∃f g i j l m n,aa w (r.add ((p).toNat*7)) [I f,I g,I i,vU j,vU l,vU m,vU n]/\(av P a=true/\(Pure P a ((Array.toList d)++([.agg #[I f,I g,I i,vU j,vU l,vU m,vU n]]:List Value)++(Array.toList e)).toArray w (Rb fun s o=>(Bb s (R (I p) o) (aN .i64 (p+1)/\(aI.L2 A b c a d e q (p+1) B o R)))))))) (R (I (-1:Int)) w))):
  aI.L2 A b c a d e q p B w R:=
 lr aI.cx func249 h
theorem aI.vc{d e:Array Value}
  (h:(aI.L2 A a b c d e (a:Int) (0:Int) w.heap.size w R)):
  Pure P 249 #[vW A a b,(.func (.func c) d e)] w R:=
 pr aI.cx func249 h

def dZ.cx:Pm:=([],[])
theorem dZ.vc{d e:Array Value}
  (h:(Pure P 312 #[vW A a b,(.func (.func c) d e)] w (Ri fun f g=>(R (.bool (decide (f≥(0:Int)))) g)))):
  Pure P 282 #[vW A a b,(.func (.func c) d e)] w R:=
 pr dZ.cx func282 h

def aK.L5(a:O)(b c d:Nat)(e:Array Value)(f:Array Value)(g i:Int):=Lt 288 f288 5 [vS 0 a b c,(1,.v (.func (.func d) e f)),vI 5 g,vI 6 i] []
def aK.cx:Pm:=([((true,5),[0,1,5,6],[])],[(7,4,2),(8,2,4),(11,3,2)])
theorem aK.L5.step{f g:Array Value}
  (h:(Br (q<(a:Int)) (Ix q a A fun G=>(∃r s t,aa w (G.add ((q).toNat*3)) [I r,I s,I t]/\(ae P (Instr.alloc 73 true (.tuple #[])) B [] w fun H u=>∃(d:Addr),H= .pointer (some d)/\(∃(j:List Value)(l:Nat),B<=d.block/\d.spot=none/\u.heap[d.block]? =some (.cells j.toArray l (0,0))/\d.off+3<=j.length/\hasType l []=false/\∀m,aG u m d.block l (setCells j d.off [I r,I s,I t])->(∃v x y,aa m d [I v,I x,I y]/\(av P c=true/\(Pure P c ((Array.toList f)++([.agg #[I v,I x,I y]]:List Value)++(Array.toList g)).toArray m (Rb fun J i=>(Br (J=false) (∃z C D,aa i d [I z,I C,I D]/\(Ix p a A fun e=>(∃(n:List Value)(o:Nat),B<=(e.add ((p).toNat*3)).block/\(e.add ((p).toNat*3)).spot=none/\i.heap[(e.add ((p).toNat*3)).block]? =some (.cells n.toArray o (0,0))/\(e.add ((p).toNat*3)).off+3<=n.length/\hasType o []=false/\∀E,aG i E (e.add ((p).toNat*3)).block o (setCells n (e.add ((p).toNat*3)).off [I z,I C,I D])->(aN .i64 (p+1)/\(aN .i64 (q+1)/\(aK.L5 A a b c f g (p+1) (q+1) B E R)))))) (aN .i64 (q+1)/\(aK.L5 A a b c f g p (q+1) B i R))))))))))) ((0<=p/\p<=(a:Int)/\a<=b)/\(ae P (Builtin.clear_ #[48] 0 #[(.slice (cT A ((p).toNat) b 3) (a - (p).toNat) (b - (p).toNat))]) B [] w fun K L=>K= .tuple #[]/\((0<=p/\p<=(b:Int))/\(R (vW A ((p).toNat) b) L)))))):
  aK.L5 A a b c f g p q B w R:=
 lr aK.cx func288 h
theorem aK.sV{e f:Array Value}(hB:B<=w.heap.size)
  (h:(Pure P 312 #[vW A a b,(.func (.func c) e f)] w (Ri fun d g=>(Br (d=(-1:Int)) (R (vW A a b) g) (aN .i64 (d+1)/\(aK.L5 A a b c e f d (d+1) B g R)))))):
  ba P 288 #[vW A a b,(.func (.func c) e f)] B w R:=
 pb aK.cx func288 h hB

def aO.L2(a:O)(b c d:Nat)(e:Array Value)(f:Array Value)(g i:Int):=Lt 312 f312 2 [vS 0 a b c,(1,.v (.func (.func d) e f)),vI 7 g,vI 8 i] []
def aO.cx:Pm:=([((true,2),[0,1,7,8],[])],[(4,5,4)])
theorem aO.L2.step{d e:Array Value}
  (h:(Br (p<q) (Ix p b A fun l=>(∃f g i,aa w (l.add ((p).toNat*3)) [I f,I g,I i]/\(av P a=true/\(Pure P a ((Array.toList d)++([.agg #[I f,I g,I i]]:List Value)++(Array.toList e)).toArray w (Rb fun m j=>(Bb m (R (I p) j) (aN .i64 (p+1)/\(aO.L2 A b c a d e q (p+1) B j R)))))))) (R (I (-1:Int)) w))):
  aO.L2 A b c a d e q p B w R:=
 lr aO.cx func312 h
theorem aO.vc{d e:Array Value}
  (h:(aO.L2 A a b c d e (a:Int) (0:Int) w.heap.size w R)):
  Pure P 312 #[vW A a b,(.func (.func c) d e)] w R:=
 pr aO.cx func312 h

end Go.Proofs.YtmdphpnaipbfjaaGreatDoor.F

namespace Go.Proofs.YtmdphpnaipbfjaaGreatDoor.B
open Go Go.RowKit Go.Proofs Go.Proofs.YtmdphpnaipbfjaaGreatDoor.Vc

theorem bW.at_{α:Type}{row:α->List Value}{sz:Nat}{w:World}{A:Option Addr}{n:Nat}{v:List α}(h:bW w A sz (v.map row))(b:∀x,(row x).length=sz)(hl:v.length=n){i:Nat}(hi:i<v.length):
  (0<=(i:Int)/\(i:Int)<n)/\∃a,A=some a/\aa w (a.add ((i:Int).toNat*sz)) (row v[i])/\∀k u,(row v[i])[k]? =some u->aa w ((a.add ((i:Int).toNat*sz)).add k) [u]:=by
 obtain⟨hb,a,c,d⟩:=h.load (n:=n) (by simpa using hl) (j:=(i:Int)) om om;obtain⟨e,hf⟩:=d (row v[i]) (by rw[cd];simp[hi]) (b _);exact⟨hb,a,c,e,hf⟩
theorem tX{w:World}{a:Addr}{vs:List Value}(h:aa w a vs)(k n:Nat):aa w (a.add k) ((vs.drop k).take n):=by
 intro i hi;have b:k+i<vs.length:=by rw[ep,wo]at hi;omega
 rw[Go.Deep.add_add,h (k+i) b];simp

abbrev Pa.row(p:Pa):List Value:=[.int .i64 p.id,.int .i64 p.aU,.int .i64 p.cls,.string p.name,.string p.iQ,.string p.wG,.string p.gy]
abbrev Pa.val(p:Pa):Value:= .agg #[.int .i64 p.id,.int .i64 p.aU,.int .i64 p.cls,.string p.name,.string p.iQ,.string p.wG,.string p.gy]
abbrev Ho.row(h:Ho):List Value:=[.int .i64 h.id,.string h.name,.string h.room,.string h.nz,.string h.x,.string h.y,.string h.z]
abbrev Ho.val(h:Ho):Value:= .agg #[.int .i64 h.id,.string h.name,.string h.room,.string h.nz,.string h.x,.string h.y,.string h.z]
abbrev Sw.row(s:Sw):List Value:=[.int .i64 s.hold,.int .i64 s.au,.int .i64 s.aU]
abbrev Sw.val(s:Sw):Value:= .agg #[.int .i64 s.hold,.int .i64 s.au,.int .i64 s.aU]
structure SmP (p:Pa):Prop where
 iQ:mO p.iQ
 wG:mO p.wG
 gy:mO p.gy
 name:p.name.size<2147483648
structure SmH (h:Ho):Prop where
 room:mO h.room
 nz:mO h.nz
 x:mO h.x
 y:mO h.y
 z:mO h.z
 name:h.name.size<2147483648
structure hU (w:World) (A0:Option Addr) (n0:Nat) (A1:Option Addr) (n1:Nat) (ps:List Pa) (hs:List Ho):Prop where
 p:bW w A0 7 (ps.map Pa.row)
 h:bW w A1 7 (hs.map Ho.row)
 lp:ps.length=n0
 lh:hs.length=n1
 sp:∀p∈ps,SmP p
 sh:∀h∈hs,SmH h
 np:n0<=7
 nh:n1<=7
theorem hU.ar{w w':World}{A0 A1:Option Addr}{n0 n1:Nat}{ps:List Pa}{hs:List Ho}(h:hU w A0 n0 A1 n1 ps hs)(hb:Below w.heap.size w w'):hU w' A0 n0 A1 n1 ps hs:=
 ⟨h.p.ar hb lf,h.h.ar hb lf,h.lp,h.lh,h.sp,h.sh,h.np,h.nh⟩

theorem jA{w:World}{x y:Rat}(hg:bj w)(hx:lC x)(hy:lC y):Pure Tryz.prog 287 #[.string (rS x),.string (rS y)] w fun v _=>v= .string (rS (x+y)):=by
 refine F.jA.vc (pm (jb hg hx hy) ?_);rintro v a _ rfl;exact⟨_,_,rfl,rfl⟩
theorem jz{w:World}{x y:Rat}(hg:bj w)(hx:lC x)(hy:lC y):Pure Tryz.prog 286 #[.string (rS x),.string (rS y)] w fun v _=>v= .string (rS (x*y)):=by
 refine F.jz.vc (pm (jc hg hx hy) ?_);rintro v a _ rfl;exact⟨_,_,rfl,rfl⟩
theorem ie{w:World}{x y:Rat}(hg:bj w)(hx:lC x)(hy:lC y):Pure Tryz.prog 183 #[.string (rS x),.string (rS y)] w fun v _=>v= .int .i64 (gO x y):=by
 refine F.ie.vc (pm (eT hg hx hy) ?_);rintro v a _ rfl;exact⟨_,_,rfl,rfl⟩
theorem je{w:World}{s:ByteArray}(hg:bj w)(hs:mO s)(h:vR s=true):Pure Tryz.prog 128 #[.string s] w fun v _=>v= .int .i64 (gO (qR s) 0):=by
 refine F.je.vc ?_;rw[s0,iq h,aet];refine pm (ie hg (hs.yj h) (Sm.zero om)) ?_;rintro v a _ rfl;exact⟨_,rfl,rfl⟩
theorem mQ{w:World}{z:Int}(hg:bj w)(a: -9223372036854775808<=z)(h1:z<=9223372036854775807):Pure Tryz.prog 285 #[.int .i64 z] w fun v _=>v= .string (rS (z:Rat)):=by
 refine F.mQ.vc (pm (vn hg z a h1) ?_);rintro v b _ rfl;refine⟨_,rfl,?_⟩;rw[Ss]
theorem mi(s:ByteArray)(w:World):Pure Tryz.prog 129 #[.string s] w fun v w'=>v= .bool (decide (1<=s.size/\s.size<=64)):=by
 refine F.mi.vc ⟨fun h=> ?_,fun h=> ?_⟩
 ·refine ca Value.bool ?_;rw[ky];omega
 ·refine ca Value.bool ?_;exact(eL om).symm
theorem gZ(n m:Int)(w:World):Pure Tryz.prog 127 #[.int .i64 n,.int .i64 m] w fun v _=>v= .bool (decide (1<=n/\n<=m)):=by
 refine F.gZ.vc ⟨fun h=> ?_,fun h=> ?_⟩
 ·refine ca Value.bool ?_;rw[ky];omega
 ·refine ca Value.bool ?_;exact(eL om).symm

abbrev eD(s:ByteArray):List Value:=[.string s]
theorem Dl{w0:World}{A:Option Addr}{n c:Nat}{l:List ByteArray}(hl:bW w0 A 1 (l.map eD))(hlen:l.length=n)(hn:n<2147483648){f:Nat}{a k:Array Value}(bU:av Tryz.prog f=true){p:ByteArray->Bool}
  (hf:∀w,Below w0.heap.size w0 w->∀x∈l,Pure Tryz.prog f (a.toList++([.string x]:List Value)++k.toList).toArray w fun v _=>v= .bool (p x)) {R:Value->World->Prop} {r:Int} (g:∀w,R (.int .i64 r) w):
  ∀(d i:Nat)(w:World),n - i=d->i<=n->Below w0.heap.size w0 w->r=fq p i (l.drop i)->F.aB.L2 A n c f a k n i w0.heap.size w R:=by
 intro d;induction d with
 |zero=>
  intro i w o hi hw b;rw[dd om]at b;subst b;exact F.aB.L2.step ⟨fun h=>by omega,fun _=>g w⟩
 |succ d ih=>
  intro i w o hi hw b;have j:i<l.length:=om;rw[cy j,fq]at b;obtain⟨hb,q,y,e,_⟩:=(hl.ar hw lf).at_ (fun _=>rfl) hlen j;refine F.aB.L2.step ⟨fun _=> ?_,fun h=>by omega⟩;refine⟨hb,q,y,_,e,bU,pm (hf w hw l[i] (bx _)) ?_⟩;rintro v m z rfl;refine⟨_,rfl,fun h=> ?_,fun h=>⟨ir,?_⟩⟩
  ·rw[bm h]at b;subst b;exact g m
  ·rw[aq (by simp[h])]at b;have B:=sc i;rw[B];exact ih (i+1) m om om (kP hw z) b
theorem tY{α:Type}(p:α->Bool)(l:List α):decide (fq p 0 l≥0)=l.any p:=by
 have:=Sr p l 0;by_cases h:l.any p=true
 ·rw[h];exact hM (this.2 h)
 ·rw[UH _|>.mp h];exact eL fun k=>h (this.1 k)
theorem mh{w:World}(hg:bj w){A:Option Addr}{n c:Nat}{l:List ByteArray}(hl:bW w A 1 (l.map eD))(hlen:l.length=n)(hn:n<2147483648)(hs:∀s∈l,mO s):
  Pure Tryz.prog 126 #[.slice A n c] w fun v _=>v= .bool (l.all vR):=by
 refine F.mh.vc (pm (F.cL.vc (R:=fun v _=>v= .bool (l.any fun s=> !vR s)) (pm (F.aB.vc (Dl (p:=fun s=> !vR s) hl hlen hn kF (fun w' hb x hx=> ?_) (R:=fun v _=>v= .int .i64 (fq (fun s=> !vR s) 0 l)) (fun _=>rfl) n 0 w rfl om (Below.refl _ _) rfl)) ?_)) ?_)
 ·refine F.qw.vc (pm (dN (hg.next hb) x (by have:=hs x hx;unfold mO at this;omega)) ?_);rintro v a _ rfl;refine⟨_,rfl,ca Value.bool ?_⟩;unfold vR;cases kH (bJ x)<;>rfl
 ·rintro v a _ rfl;exact⟨_,rfl,by dsimp only;rw[tY]⟩
 ·rintro v a _ rfl;refine⟨_,rfl,ca Value.bool ?_⟩;rw[ya];simp

theorem nN{α:Type}(p:α->Bool):∀(l:List α)(k:Nat),fq p k l=match l.findIdx? p with|some i=>((k+i:Nat):Int)|none=> -1:=by
 intro l;induction l with
 |nil=>intro k;rfl
 |cons c r ih=>
  intro k;rw[fq,List.findIdx?_cons];by_cases h:p c=true
  ·rw[bm h,bm h];rfl
  ·rw[aq h,aq h,ih];cases r.findIdx? p with
   |none=>rfl
   |some i=>simp only[Zn];congr 1;omega
def wJ:Option Nat->Int
 |some i=>(i:Int)
 |none=> -1

theorem Sx{w0:World}{A:Option Addr}{n c:Nat}{l:List Pa}(hl:bW w0 A 7 (l.map Pa.row))(hlen:l.length=n)(hn:n<2147483648){f:Nat}{a k:Array Value}(bU:av Tryz.prog f=true){p:Pa->Bool}
  (hf:∀w,Below w0.heap.size w0 w->∀x∈l,Pure Tryz.prog f (a.toList++([x.val]:List Value)++k.toList).toArray w fun v _=>v= .bool (p x)) {R:Value->World->Prop} {r:Int} (g:∀w,Below w0.heap.size w0 w->R (.int .i64 r) w):
  ∀(d i:Nat)(w:World),n - i=d->i<=n->Below w0.heap.size w0 w->r=fq p i (l.drop i)->F.aI.L2 A n c f a k n i w0.heap.size w R:=by
 intro d;induction d with
 |zero=>
  intro i w q hi hw b;rw[dd om]at b;subst b;exact F.aI.L2.step ⟨fun h=>by omega,fun _=>g w hw⟩
 |succ d ih=>
  intro i w q hi hw b;have j:i<l.length:=om;rw[cy j,fq]at b;obtain⟨hb,y,z,e,_⟩:=(hl.ar hw lf).at_ (fun _=>rfl) hlen j;refine F.aI.L2.step ⟨fun _=> ?_,fun h=>by omega⟩;refine⟨hb,y,z,_,_,_,_,_,_,_,e,bU,pm (hf w hw l[i] (bx _)) ?_⟩;rintro v m o rfl;refine⟨_,rfl,fun h=> ?_,fun h=>⟨ir,?_⟩⟩
  ·rw[bm h]at b;subst b;exact g m (kP hw o)
  ·rw[aq (by simp[h])]at b;have B:=sc i;rw[B];exact ih (i+1) m om om (kP hw o) b
theorem yQ{w:World}{A:Option Addr}{n c:Nat}{l:List Pa}(hl:bW w A 7 (l.map Pa.row))(hlen:l.length=n)(hn:n<2147483648){f:Nat}{a k:Array Value}(bU:av Tryz.prog f=true){p:Pa->Bool}
  (hf:∀w',Below w.heap.size w w'->∀x∈l,Pure Tryz.prog f (a.toList++([x.val]:List Value)++k.toList).toArray w' fun v _=>v= .bool (p x)):
  Pure Tryz.prog 249 #[.slice A n c,.func (.func f) a k] w fun v _=>v= .int .i64 (wJ (l.findIdx? p)):=
 F.aI.vc (Sx hl hlen hn bU hf (fun _ _=>rfl) n 0 w rfl om (Below.refl _ _) (by
  have:=nN p l 0;rw[AY,this];cases l.findIdx? p with
  |none=>rfl
  |some i=>simp only[wJ,mC]))
theorem hO{w:World}{A0 A1:Option Addr}{n0 c0 n1 c1:Nat}{ps:List Pa}{hs:List Ho}(a:hU w A0 n0 A1 n1 ps hs)(id:Int):
  Pure Tryz.prog 142 #[.agg #[.slice A0 n0 c0,.slice A1 n1 c1],.int .i64 id] w fun v _=>v= .int .i64 (wJ (rC ps id)):=by
 refine F.hO.vc fun w1 x1=> ?_
 have a:=a.ar (k0 x1);have d:=a.np;have e:=a.nh;refine pm (F.jE.vc (R:=fun v _=>v= .int .i64 (wJ (rC ps id))) fun g x2 p2 h g2 p3 i g3=> ?_) ?_
 ·refine pm (yQ (p:=fun p=>decide (p.id=id)) (a.p.ar (k0 x2) lf) a.lp om kF fun j b x hx=> ?_) ?_
  ·refine F.ig.vc fun k c=>⟨_,_,_,cm (ext_nil c (ai g3 b)) rfl,_,cm (ext_nil c (ai g2 b)) rfl,kF,fun l m=> ?_⟩
   exact F.pz.vc fun n o=>⟨_,rfl,rfl⟩
  ·rintro v j _ rfl;exact⟨_,rfl,rfl⟩
 ·rintro v g _ rfl;exact⟨_,rfl,rfl⟩

theorem Sy{w0:World}{A:Option Addr}{n c:Nat}{l:List Ho}(hl:bW w0 A 7 (l.map Ho.row))(hlen:l.length=n)(hn:n<2147483648){f:Nat}{a k:Array Value}(bU:av Tryz.prog f=true){p:Ho->Bool}
  (hf:∀w,Below w0.heap.size w0 w->∀x∈l,Pure Tryz.prog f (a.toList++([x.val]:List Value)++k.toList).toArray w fun v _=>v= .bool (p x)) {R:Value->World->Prop} {r:Int} (g:∀w,Below w0.heap.size w0 w->R (.int .i64 r) w):
  ∀(d i:Nat)(w:World),n - i=d->i<=n->Below w0.heap.size w0 w->r=fq p i (l.drop i)->F.aT.L2 A n c f a k n i w0.heap.size w R:=by
 intro d;induction d with
 |zero=>
  intro i w q hi hw b;rw[dd om]at b;subst b;exact F.aT.L2.step ⟨fun h=>by omega,fun _=>g w hw⟩
 |succ d ih=>
  intro i w q hi hw b;have j:i<l.length:=om;rw[cy j,fq]at b;obtain⟨hb,y,z,e,_⟩:=(hl.ar hw lf).at_ (fun _=>rfl) hlen j;refine F.aT.L2.step ⟨fun _=> ?_,fun h=>by omega⟩;refine⟨hb,y,z,_,_,_,_,_,_,_,e,bU,pm (hf w hw l[i] (bx _)) ?_⟩;rintro v m o rfl;refine⟨_,rfl,fun h=> ?_,fun h=>⟨ir,?_⟩⟩
  ·rw[bm h]at b;subst b;exact g m (kP hw o)
  ·rw[aq (by simp[h])]at b;have B:=sc i;rw[B];exact ih (i+1) m om om (kP hw o) b
theorem B9{w:World}{A:Option Addr}{n c:Nat}{l:List Ho}(hl:bW w A 7 (l.map Ho.row))(hlen:l.length=n)(hn:n<2147483648){f:Nat}{a k:Array Value}(bU:av Tryz.prog f=true){p:Ho->Bool}
  (hf:∀w',Below w.heap.size w w'->∀x∈l,Pure Tryz.prog f (a.toList++([x.val]:List Value)++k.toList).toArray w' fun v _=>v= .bool (p x)):
  Pure Tryz.prog 240 #[.slice A n c,.func (.func f) a k] w fun v _=>v= .int .i64 (wJ (l.findIdx? p)):=
 F.aT.vc (Sy hl hlen hn bU hf (fun _ _=>rfl) n 0 w rfl om (Below.refl _ _) (by
  have:=nN p l 0;rw[AY,this];cases l.findIdx? p with
  |none=>rfl
  |some i=>simp only[wJ,mC]))
theorem jf{w:World}{A0 A1:Option Addr}{n0 c0 n1 c1:Nat}{ps:List Pa}{hs:List Ho}(a:hU w A0 n0 A1 n1 ps hs)(id:Int):
  Pure Tryz.prog 143 #[.agg #[.slice A0 n0 c0,.slice A1 n1 c1],.int .i64 id] w fun v _=>v= .int .i64 (wJ (wT hs id)):=by
 refine F.jf.vc fun w1 x1=> ?_
 have a:=a.ar (k0 x1);have d:=a.np;have e:=a.nh;refine pm (F.kL.vc (R:=fun v _=>v= .int .i64 (wJ (wT hs id))) fun g x2 p2 i g2 p3 j g3=> ?_) ?_
 ·refine pm (B9 (p:=fun p=>decide (p.id=id)) (a.h.ar (k0 x2) lf) a.lh om kF fun k b x hx=> ?_) ?_
  ·refine F.jg.vc fun l c=>⟨_,_,_,cm (ext_nil c (ai g3 b)) rfl,_,cm (ext_nil c (ai g2 b)) rfl,kF,fun m n=> ?_⟩
   exact F.rD.vc fun o q=>⟨_,rfl,rfl⟩
  ·rintro v k _ rfl;exact⟨_,rfl,rfl⟩
 ·rintro v g _ rfl;exact⟨_,rfl,rfl⟩

def fK{α:Type}(l:List α)(i:Nat):Option α:=if i=0 then none else l[i - 1]?
theorem tZ{α:Type}{l:List α}{i:Nat}(h:i<l.length):fK l (i+1)=some l[i]:=by
 unfold fK;rw[aq om,Wh,af h]
theorem Ft{α:Type}{l:List α}{i:Nat}(h:i<l.length)(a:0<i):fK l i=some l[i - 1]:=by
 unfold fK;rw[aq om,af om]
theorem OT{p:Prop}[Decidable p](h:decide p=false):¬p:=kh h
theorem OU{p:Prop}[Decidable p](h:¬decide p=false):p:=by
 apply bB;intro k;exact h (eL k)

theorem OV{w0:World}(hg:bj w0){A0 A1:Option Addr}{n0 c0 n1 c1:Nat}{ps:List Pa}{hs:List Ho}(a:hU w0 A0 n0 A1 n1 ps hs){R:Value->World->Prop}{r:Int}(z:∀w,Below w0.heap.size w0 w->R (.int .i64 r) w)(D:∀h∈hs,vH h=true):
  ∀(d i:Nat)(w:World),n1 - i=d->i<=n1->Below w0.heap.size w0 w->r=pw qq (fK hs i) (hs.drop i)->F.aM.CL A1 n1 c1 n1 i A0 n0 c0 A1 n1 c1 w0.heap.size w R:=by
 have U:=a.np;have V:=a.nh;have W:=a.lp;have X:=a.lh;intro d;induction d with
 |zero=>
  intro i w E hi hw b;have:i=n1:=om;subst this;refine F.aM.CL.step ⟨fun h=>by omega,fun _=> ?_⟩;rw[dd om]at b;subst b;exact z w hw
 |succ d ih=>
  intro i w E hi hw b;have g:i<hs.length:=om;obtain⟨hb,G,H,c,_⟩:=(a.h.ar hw lf).at_ (fun _=>rfl) a.lh g;have I:=sc i;refine F.aM.CL.step ⟨fun _=>⟨hb,G,H,_,_,_,_,_,_,_,c,fun w1 x1=> ?_⟩,fun h=>by omega⟩;have J:=kE hw x1;have A:=a.sh _ (bx g);have vh:=D _ (bx g);unfold vH at vh;simp only[de]at vh;obtain⟨⟨⟨⟨v1,v2⟩,_⟩,_⟩,_⟩:=vh;rw[cy g,pw]at b;have bad:∀(e:Int)(w:World),Below w0.heap.size w0 w->e≠0->qq (fK hs i) hs[i]=e->R (.int .i64 e) w:=fun e w hw K he=>by
   rw[he,bm K]at b;have:=z w hw;rwa [b]at this
  have f2:¬((1<=hs[i].id/\hs[i].id<=1073741824)/\¬qR hs[i].room<0/\¬qR hs[i].nz<0)->qq (fK hs i) hs[i]=2:=fun h=>by unfold qq;rw[bm h]
  refine pm (gZ _ _ _) ?_;rintro v Y L rfl;have n:=kP J L;refine⟨_,rfl,fun h=>bad 2 _ n om (f2 fun k=>OT h k.1),fun h=> ?_⟩;have q1:=OU h;refine pm (je (hg.next n) A.room v1) ?_;rintro v Z M rfl;have o:=kP n M;refine⟨_,rfl,fun h=>bad 2 _ o om (f2 fun k=>k.2.1 (jI.1 h)),fun h=> ?_⟩;have N:¬qR hs[i].room<0:=fun k=>h (jI.2 k)
  refine pm (je (hg.next o) A.nz v2) ?_;rintro v w4 O rfl;have B:=kP o O;refine⟨_,rfl,fun h=>bad 2 _ B om (f2 fun k=>k.2.2 (jI.1 h)),fun h=> ?_⟩;have P:¬qR hs[i].nz<0:=fun k=>h (jI.2 k)
  have all:(1<=hs[i].id/\hs[i].id<=1073741824)/\¬qR hs[i].room<0/\¬qR hs[i].nz<0:=⟨q1,N,P⟩;refine pm (mi _ _) ?_;rintro v w8 b8 rfl;have j:=kP B b8;refine⟨_,rfl,fun h=>bad 4 _ j om (by unfold qq;rw[aq (fun k=>k all),bm (OT h)]),fun h=> ?_⟩;have Q:=OU h;have rest:qq (fK hs i) hs[i]=if ∃q,fK hs i=some q/\hs[i].id<=q.id then 5 else 0:=by
   unfold qq;rw[aq (fun k=>k all),aq (fun k=>k Q)]
  have go:(¬∃q,fK hs i=some q/\hs[i].id<=q.id)->∀w,Below w0.heap.size w0 w->F.aM.CL A1 n1 c1 n1 ((i:Int)+1) A0 n0 c0 A1 n1 c1 w0.heap.size w R:=fun h w hw=>by
   rw[aq h]at rest;rw[I];refine ih (i+1) w om om hw ?_;simp only[rest,ne_eq,Xn,B5]at b;rw[tZ g];exact b
  refine⟨fun h=>⟨ir,?_⟩,fun h=>⟨ir,fun C l=>go ?_ _ (kE j l)⟩⟩
  ·obtain⟨x,a2,S,_,y⟩:=(a.h.ar j lf).at_ (fun _=>rfl) a.lh (i:=i - 1) om;have T:(i:Int) - 1=((i - 1:Nat):Int):=om;have hp:=Ft g om;rw[T];refine⟨x,a2,S,_,y 0 _ rfl,fun h=>fun C l=>bad 5 _ (kE j l) om ?_,fun h=>⟨ir,fun C l=>go ?_ _ (kE j l)⟩⟩
   ·rw[rest,bm ⟨_,hp,h⟩]
   ·rintro⟨q,m,hle⟩;rw[hp]at m;cases m;exact h hle
  ·rintro⟨q,m,_⟩;have:i=0:=om;subst this;cases m

theorem OW{w0:World}(hg:bj w0){A0 A1:Option Addr}{n0 c0 n1 c1:Nat}{ps:List Pa}{hs:List Ho}(a:hU w0 A0 n0 A1 n1 ps hs){R:Value->World->Prop}{r:Int}(B:∀w,Below w0.heap.size w0 w->R (.int .i64 r) w)(I:∀p∈ps,vP p=true)(J:∀h∈hs,vH h=true):
  ∀(d i:Nat)(w:World),n0 - i=d->i<=n0->Below w0.heap.size w0 w->r=(if pw px (fK ps i) (ps.drop i)≠0 then pw px (fK ps i) (ps.drop i)else pw qq none hs)->F.aM.uZ A0 n0 c0 n0 i A0 n0 c0 A1 n1 c1 w0.heap.size w R:=by
 have Ih:=a.np;have yz:=a.nh;have LU:=a.lp;have xg:=a.lh;intro d;induction d with
 |zero=>
  intro i w K hi hw b;have:i=n0:=om;subst this;refine F.aM.uZ.step ⟨fun h=>by omega,fun _=> ?_⟩;rw[dd om]at b;refine OV hg a B J n1 0 w rfl om hw ?_;rw[b];rfl
 |succ d ih=>
  intro i w K hi hw b;have g:i<ps.length:=om;obtain⟨hb,L,M,c,_⟩:=(a.p.ar hw lf).at_ (fun _=>rfl) a.lp g;have N:=sc i;refine F.aM.uZ.step ⟨fun _=>⟨hb,L,M,_,_,_,_,_,_,_,c,fun w1 x1=> ?_⟩,fun h=>by omega⟩;have O:=kE hw x1;have n:=a.sp _ (bx g);have vp:=I _ (bx g);unfold vP at vp;simp only[de]at vp;obtain⟨⟨v1,v2⟩,v3⟩:=vp;rw[cy g,pw]at b;have bad:∀(e:Int)(w:World),Below w0.heap.size w0 w->e≠0->px (fK ps i) ps[i]=e->R (.int .i64 e) w:=fun e w hw C he=>by
   rw[he,bm C,bm C]at b;have:=B w hw;rwa [b]at this
  have f2:¬((1<=ps[i].id/\ps[i].id<=1073741824)/\(1<=ps[i].aU/\ps[i].aU<=9)/\(1<=ps[i].cls/\ps[i].cls<=9)/\0<qR ps[i].iQ/\0<qR ps[i].wG/\¬qR ps[i].gy<0)->px (fK ps i) ps[i]=2:=fun h=>by unfold px;rw[bm h]
  refine pm (gZ _ _ _) ?_;rintro v w2 P rfl;have D:=kP O P;refine⟨_,rfl,fun h=>bad 2 _ D om (f2 fun k=>OT h k.1),fun h=> ?_⟩;have q1:=OU h;refine pm (gZ _ _ _) ?_;rintro v w3 Q rfl;have E:=kP D Q;refine⟨_,rfl,fun h=>bad 2 _ E om (f2 fun k=>OT h k.2.1),fun h=> ?_⟩;have S:=OU h;refine pm (gZ _ _ _) ?_;rintro v w4 T rfl;have o:=kP E T;refine⟨_,rfl,fun h=>bad 2 _ o om (f2 fun k=>OT h k.2.2.1),fun h=> ?_⟩;have U:=OU h;refine pm (je (hg.next o) n.iQ v1) ?_;rintro v w5 V rfl;have x:=kP o V;refine⟨_,rfl,fun h=>bad 2 _ x om (f2 fun k=>by have:=gL.2 k.2.2.2.1;omega),fun h=> ?_⟩;have W:0<qR ps[i].iQ:=gL.1 om;refine pm (je (hg.next x) n.wG v2) ?_;rintro v w6 X rfl;have y:=kP x X;refine⟨_,rfl,fun h=>bad 2 _ y om (f2 fun k=>by have:=gL.2 k.2.2.2.2.1;omega),fun h=> ?_⟩;have Y:0<qR ps[i].wG:=gL.1 om;refine pm (je (hg.next y) n.gy v3) ?_;rintro v w7 Z rfl;have G:=kP y Z;refine⟨_,rfl,fun h=>bad 2 _ G om (f2 fun k=>k.2.2.2.2.2 (jI.1 h)),fun h=> ?_⟩;have q6:¬qR ps[i].gy<0:=fun k=>h (jI.2 k)
  have all:(1<=ps[i].id/\ps[i].id<=1073741824)/\(1<=ps[i].aU/\ps[i].aU<=9)/\(1<=ps[i].cls/\ps[i].cls<=9)/\0<qR ps[i].iQ/\0<qR ps[i].wG/\¬qR ps[i].gy<0:=⟨q1,S,U,W,Y,q6⟩;refine pm (mi _ _) ?_;rintro v w8 b8 rfl;have j:=kP G b8;refine⟨_,rfl,fun h=>bad 4 _ j om (by unfold px;rw[aq (fun k=>k all),bm (OT h)]),fun h=> ?_⟩;have q7:=OU h;have rest:px (fK ps i) ps[i]=if ∃q,fK ps i=some q/\ps[i].id<=q.id then 5 else 0:=by
   unfold px;rw[aq (fun k=>k all),aq (fun k=>k q7)]
  have go:(¬∃q,fK ps i=some q/\ps[i].id<=q.id)->∀w,Below w0.heap.size w0 w->F.aM.uZ A0 n0 c0 n0 ((i:Int)+1) A0 n0 c0 A1 n1 c1 w0.heap.size w R:=fun h w hw=>by
   rw[aq h]at rest;rw[N];refine ih (i+1) w om om hw ?_;simp only[rest,ne_eq,Xn,B5]at b;rw[tZ g];exact b
  refine⟨fun h=>⟨ir,?_⟩,fun h=>⟨ir,fun H l=>go ?_ _ (kE j l)⟩⟩
  ·obtain⟨z,a2,tp,_,A⟩:=(a.p.ar j lf).at_ (fun _=>rfl) a.lp (i:=i - 1) om;have e1:(i:Int) - 1=((i - 1:Nat):Int):=om;have hp:=Ft g om;rw[e1];refine⟨z,a2,tp,_,A 0 _ rfl,fun h=>fun H l=>bad 5 _ (kE j l) om ?_,fun h=>⟨ir,fun H l=>go ?_ _ (kE j l)⟩⟩
   ·rw[rest,bm ⟨_,hp,h⟩]
   ·rintro⟨q,m,hle⟩;rw[hp]at m;cases m;exact h hle
  ·rintro⟨q,m,_⟩;have:i=0:=om;subst this;cases m

theorem Sz{w0:World}(hg:bj w0){A0 A1:Option Addr}{n0 c0 n1 c1:Nat}{ps:List Pa}{hs:List Ho}(a:hU w0 A0 n0 A1 n1 ps hs){R:Value->World->Prop}{r:Int}(g:∀w,Below w0.heap.size w0 w->R (.int .i64 r) w)(o:∀p∈ps,vP p=true)(he:r=fB ps hs):
  ∀(d i:Nat)(w:World),n1 - i=d->i<=n1->Below w0.heap.size w0 w->(∀h∈hs.take i,vH h=true)->F.aM.L8 A1 n1 c1 n1 i A0 n0 c0 A1 n1 c1 w0.heap.size w R:=by
 have K:=a.np;have L:=a.nh;have M:=a.lp;have N:=a.lh;intro d;induction d with
 |zero=>
  intro i w C hi hw c;have:i=n1:=om;subst this;refine F.aM.L8.step ⟨fun h=>by omega,fun _=> ?_⟩;rw[cc om]at c;have m:ps.all vP=true/\hs.all vH=true:=⟨gu.2 o,gu.2 c⟩;refine⟨fun h=> ?_,fun h=>⟨fun D=> ?_,fun D=> ?_⟩⟩
  ·have:=g w hw;rwa [he,fB,aq (fun k=>k m),bm (.inl om)]at this
  ·have:=g w hw;rwa [he,fB,aq (fun k=>k m),bm (.inr om)]at this
  ·refine OW hg a g o c n0 0 w rfl om hw ?_;rw[he,fB,aq (fun k=>k m),aq om];rfl
 |succ d ih=>
  intro i w C hi hw c;have j:i<hs.length:=om;obtain⟨hb,E,G,b,_⟩:=(a.h.ar hw lf).at_ (fun _=>rfl) a.lh j;have H:=sc i;refine F.aM.L8.step ⟨fun _=>⟨hb,E,G,_,_,_,_,_,_,_,b,fun w1 x1=> ?_⟩,fun h=>by omega⟩;have q:=kE hw x1;have e:=a.sh _ (bx j);refine aW lD [.string hs[i].room,.string hs[i].nz,.string hs[i].x,.string hs[i].y,.string hs[i].z] (by simp[Value.cells]) sm q.size fun A2 c2 O ho I=> ?_
  have n:=kP q I;refine pm (mh (hg.next n) (l:=[hs[i].room,hs[i].nz,hs[i].x,hs[i].y,hs[i].z]) ho.sl rfl sm (fun s hs=> ?_)) ?_
  ·simp only[cb,eH,oP]at hs;rcases hs with rfl|rfl|rfl|rfl|rfl
   ·exact e.room
   ·exact e.nz
   ·exact e.x
   ·exact e.y
   ·exact e.z
  rintro v A B rfl;refine⟨_,rfl,fun h=> ?_,fun h=>⟨ir,?_⟩⟩
  ·have J:fB ps hs=1:=by
    unfold fB;rw[bm];intro k;have:=gu.1 k.2 _ (bx j);unfold vH at this;simp only[B6,VM,Yq]at h;simp only[Xj]at this h;rw[this]at h;cases h
   have:=g A (kP n B);rwa [he,J]at this
  ·rw[H];refine ih (i+1) A om om (kP n B) fun x hx=> ?_
   rw[gv,af j]at hx;rcases fJ.1 hx with hx|hx
   ·exact c x hx
   ·simp only[Lx,eb]at hx;subst hx;unfold vH;simp only[B6,VM,Yq]at h;simp only[Xj]at h⊢;simpa using h

theorem SA{w0:World}(hg:bj w0){A0 A1:Option Addr}{n0 c0 n1 c1:Nat}{ps:List Pa}{hs:List Ho}(a:hU w0 A0 n0 A1 n1 ps hs){R:Value->World->Prop}{r:Int}(m:∀w,Below w0.heap.size w0 w->R (.int .i64 r) w)(he:r=fB ps hs):
  ∀(d i:Nat)(w:World),n0 - i=d->i<=n0->Below w0.heap.size w0 w->(∀p∈ps.take i,vP p=true)->F.aM.L2 A0 n0 c0 n0 i A0 n0 c0 A1 n1 c1 w0.heap.size w R:=by
 have E:=a.np;have G:=a.nh;have H:=a.lp;have I:=a.lh;intro d;induction d with
 |zero=>
  intro i w y hi hw c;have:i=n0:=om;subst this;refine F.aM.L2.step ⟨fun h=>by omega,fun _=> ?_⟩;rw[cc om]at c;exact Sz hg a m c he n1 0 w rfl om hw sm
 |succ d ih=>
  intro i w y hi hw c;have e:i<ps.length:=om;obtain⟨hb,z,A,b,_⟩:=(a.p.ar hw lf).at_ (fun _=>rfl) a.lp e;have B:=sc i;refine F.aM.L2.step ⟨fun _=>⟨hb,z,A,_,_,_,_,_,_,_,b,fun w1 x1=> ?_⟩,fun h=>by omega⟩;have n:=kE hw x1;have g:=a.sp _ (bx e);refine aW lD [.string ps[i].iQ,.string ps[i].wG,.string ps[i].gy] (by simp[Value.cells]) sm n.size fun A2 c2 J ho C=> ?_
  have j:=kP n C;refine pm (mh (hg.next j) (l:=[ps[i].iQ,ps[i].wG,ps[i].gy]) ho.sl rfl sm (fun s hs=> ?_)) ?_
  ·simp only[cb,eH,oP]at hs;rcases hs with rfl|rfl|rfl
   ·exact g.iQ
   ·exact g.wG
   ·exact g.gy
  rintro v o q rfl;refine⟨_,rfl,fun h=> ?_,fun h=>⟨ir,?_⟩⟩
  ·have D:fB ps hs=1:=by
    unfold fB;rw[bm];intro k;have:=gu.1 k.1 _ (bx e);unfold vP at this;simp only[B6,VM,Yq]at h;simp only[Xj]at this h;rw[this]at h;cases h
   have:=m o (kP j q);rwa [he,D]at this
  ·rw[B];refine ih (i+1) o om om (kP j q) fun x hx=> ?_
   rw[gv,af e]at hx;rcases fJ.1 hx with hx|hx
   ·exact c x hx
   ·simp only[Lx,eb]at hx;subst hx;unfold vP;simp only[B6,VM,Yq]at h;simp only[Xj]at h⊢;simpa using h

theorem aM{w:World}(hg:bj w){A0 A1:Option Addr}{n0 c0 n1 c1:Nat}{ps:List Pa}{hs:List Ho}(a:hU w A0 n0 A1 n1 ps hs):
  Pure Tryz.prog 103 #[.agg #[.slice A0 n0 c0,.slice A1 n1 c1]] w fun v _=>v= .int .i64 (fB ps hs):=
 F.aM.vc fun w1 x1=>SA hg a (fun _ _=>rfl) rfl n0 0 w1 rfl om (k0 x1) sm

theorem gM:El Tryz.prog 29 3 1 8:=El.of kF
theorem ij:El Tryz.prog 48 73 3 24:=El.of kF

theorem NF{x y:Int}:jL x y<0↔x<y:=by unfold jL;split<;>(try split)<;>omega
theorem Ha{x y:Int}:jL x y=0↔x=y:=by unfold jL;split<;>(try split)<;>omega
theorem aaT{w0:World}{A:Option Addr}{n c:Nat}{l:List Int}(h:bW w0 A 1 (l.map fun x=>[.int .i64 x]))(hl:l.length=n)(hn:n<2147483648):
  Pure Tryz.prog 207 #[.slice A n c] w0 fun v _=>v= .int .i64 ((l.find? fun x=>decide (x≠0)).getD 0):=by
 have key:∀(d i:Nat)(w:World),n - i=d->i<=n->Below w0.heap.size w0 w->(l.find? fun x=>decide (x≠0))=((l.drop i).find? fun x=>decide (x≠0))->F.fY.L3 0 A n c n i w0.heap.size w fun v _=>v= .int .i64 ((l.find? fun x=>decide (x≠0)).getD 0):=by
  intro d;induction d with
  |zero=>
   intro i w g hi hw b;rw[dd om]at b;exact F.fY.L3.step ⟨fun h=>by omega,fun _=>by rw[b];rfl⟩
  |succ d ih=>
   intro i w g hi hw b;have e:i<l.length:=om;rw[cy e,List.find?_cons]at b;obtain⟨hb,a,j,k,_⟩:=(h.ar hw lf).at_ (fun _=>rfl) hl e;refine F.fY.L3.step ⟨fun _=>⟨hb,a,j,_,k,fun h=> ?_,fun h=>⟨ir,?_⟩⟩,fun h=>by omega⟩
   ·rw[hM h]at b;rw[b];rfl
   ·rw[eL h]at b;have m:=sc i;rw[m];exact ih (i+1) w om om hw b
 exact F.fY.vc (key n 0 w0 rfl om (Below.refl _ _) sm)
def LZ(a b:Sw):Int:=if jL a.hold b.hold≠0 then jL a.hold b.hold else jL a.au b.au
theorem Hb{a b:Sw}:LZ a b<0↔fT a b:=by
 unfold LZ fT;have h1:=NF (x:=a.hold) (y:=b.hold);have c:=Ha (x:=a.hold) (y:=b.hold);have d:=NF (x:=a.au) (y:=b.au);split<;>omega
theorem VS{a b:Sw}:LZ a b=0↔a.hold=b.hold/\a.au=b.au:=by
 unfold LZ;have c:=Ha (x:=a.hold) (y:=b.hold);have d:=Ha (x:=a.au) (y:=b.au);split<;>omega
theorem kb(a b:Sw)(w:World):Pure Tryz.prog 145 #[a.val,b.val] w fun v _=>v= .int .i64 (LZ a b):=by
 refine F.kb.vc fun w1 x1=>pm (GD _ _ _) ?_
 have h1:=k0 x1;rintro v i d rfl;have c:=kP h1 d;refine⟨_,rfl,pm (GD _ _ _) ?_⟩;rintro v j e rfl;have g:=kP c e;refine⟨_,rfl,aW gM [.int .i64 (jL a.hold b.hold),.int .i64 (jL a.au b.au)] (by simp[Value.cells]) sm g.size fun A2 c2 m ho n=> ?_⟩;refine pm (aaT (l:=[jL a.hold b.hold,jL a.au b.au]) ho.sl rfl sm) ?_;rintro v o _ rfl;refine⟨_,rfl,?_⟩;refine ca _ ?_;unfold LZ;by_cases h:jL a.hold b.hold=0
 ·rw[aq (fun k=>k h)];by_cases c:jL a.au b.au=0
  ·simp[h,c]
  ·simp[h,c]
 ·rw[bm h];simp[h]

theorem vz(l:List Sw)(s:Sw)(p:Int):cZ (l++[s]) p=cZ l p+(if s.au=p then s.aU else 0):=by rw[gz,nM]
def SmU(l:List Sw)(p:Int):Prop:=∀k, -1000000<=cZ (l.take k) p/\cZ (l.take k) p<=1000000
theorem dF{w0:World}{A:Option Addr}{n c:Nat}{l:List Sw}(h:bW w0 A 3 (l.map Sw.row))(hl:l.length=n)(hn:n<2147483648){p:Int}(hs:SmU l p):
  Pure Tryz.prog 146 #[.slice A n c,.int .i64 p] w0 fun v _=>v= .int .i64 (cZ l p):=by
 have key:∀(d i:Nat)(w:World),n - i=d->i<=n->Below w0.heap.size w0 w->F.dF.L3 p (cZ (l.take i) p) A n c n i w0.heap.size w fun v _=>v= .int .i64 (cZ l p):=by
  intro d;induction d with
  |zero=>
   intro i w k hi hw;exact F.dF.L3.step ⟨fun h=>by omega,fun _=>by rw[cc om]⟩
  |succ d ih=>
   intro i w k hi hw;have g:i<l.length:=om;have j:=sc i;have b:l.take (i+1)=l.take i++[l[i]]:=by rw[gv,af g];rfl
   have hu:=vz (l.take i) l[i] p;have m:=hs (i+1);rw[b]at m;obtain⟨hb,a,o,q,_⟩:=(h.ar hw lf).at_ (fun _=>rfl) hl g;refine F.dF.L3.step ⟨fun _=>⟨hb,a,o,_,_,_,q,fun h=> ?_,fun h=> ?_⟩,fun h=>by omega⟩
   ·rw[bm h]at hu;refine⟨ir,ir,fun e x2=> ?_⟩;rw[<-hu,<-b,j];exact ih (i+1) e om om (kE hw x2)
   ·rw[aq h,Int.add_zero]at hu;refine⟨ir,fun e x2=> ?_⟩;rw[<-hu,<-b,j];exact ih (i+1) e om om (kE hw x2)
 exact F.dF.vc (key n 0 w0 rfl om (Below.refl _ _))

theorem zW{l:List Sw}(h:∀s∈l,1<=s.aU)(p:Int)(k:Nat):0<=cZ (l.take k) p/\cZ (l.take k) p<=cZ l p:=by
 refine⟨jy (fun s hs=>h s (oe hs)) p,?_⟩;exact Jf h (iv k l).symm p
theorem fc.smu{ps:List Pa}{hs:List Ho}{l:List Sw}(h:fc ps hs l)(p:Int):SmU l p:=by
 intro k;obtain⟨h1,g⟩:=zW h.pos p k;by_cases hp:∃q∈ps,q.id=p
 ·obtain⟨q,a,rfl⟩:=hp;have:=h.full q a;have:=(h.c.p1 q a).2.1.2;omega
 ·have:cZ l p=0:=by
   have gen:∀l:List Sw,(∀s∈l,s.au≠p)->cZ l p=0:=by
    intro l;induction l with
    |nil=>intro _;rfl
    |cons s r ih=>
     intro b;rw[show s::r=[s]++r from rfl,gz,nM,aq (b s sm),ih fun x hx=>b x (by simp[hx])];rfl
   refine gen l fun s hs e=>hp ?_
   obtain⟨i,_,hi,_⟩:=h.known s hs;obtain⟨q,a,d⟩:=gY hi;exact⟨q,gr a,d.trans e⟩
  omega
theorem AU{ps:List Pa}{hs:List Ho}:∀{a b pre:List Sw},oV ps hs pre (a++b)=if oV ps hs pre a≠0 then oV ps hs pre a else oV ps hs (pre++a) b:=by
 intro a;induction a with
 |nil=>intro b pre;simp[oV]
 |cons s r ih=>
  intro b pre;rw[vv,oV,oV];by_cases h:sP ps hs pre s≠0
  ·rw[bm h,bm h,bm h]
  ·rw[aq h,aq h,ih,fi];rfl
theorem Jk{w0:World}(hg:bj w0){A0 A1 A:Option Addr}{n0 c0 n1 c1 n c:Nat}{ps:List Pa}{hs:List Ho}{l:List Sw}(I:hU w0 A0 n0 A1 n1 ps hs)(h:bW w0 A 3 (l.map Sw.row))(hl:l.length=n)(pB:n<=c)(hn:n<2147483648)(M:fB ps hs=0){R:Value->World->Prop}(hR:∀w,R (.int .i64 (oV ps hs [] l)) w):
  ∀(d i:Nat)(w:World),n - i=d->i<=n->Below w0.heap.size w0 w->oV ps hs [] (l.take i)=0->F.cn.L4 A n c A n c n i A0 n0 c0 A1 n1 c1 w0.heap.size w R:=by
 have g:=gn M;intro d;induction d with
 |zero=>
  intro i w hd hi hw y;have:i=n:=om;subst this;rw[cc om]at y;refine F.cn.L4.step ⟨fun h=>by omega,fun _=> ?_⟩;have:=hR w;rwa [y]at this
 |succ d ih=>
  intro i w hd hi hw y;have N:i<l.length:=om;have e3:=sc i;have z:l.take (i+1)=l.take i++[l[i]]:=by rw[gv,af N];rfl
  have yA:oV ps hs [] l=if sP ps hs (l.take i) l[i]≠0 then sP ps hs (l.take i) l[i]else oV ps hs (l.take (i+1)) (l.drop (i+1)):=by
   conv=>lhs;rw[<-iv i l,AU,aq (fun k=>k y),u0,cy N,oV,<-z]
  have O:fc ps hs (l.take i):=by
   have B:fc ps hs []:=⟨g,sm,sm,List.Pairwise.nil,fun p hp=>by have:=(g.p1 p hp).2.1.1;simp[cZ];omega⟩;simpa using AS g (l.take i) [] B y
  have bad:∀(e:Int)(w:World),e≠0->sP ps hs (l.take i) l[i]=e->R (.int .i64 e) w:=fun e w B he=>by
   rw[he,bm B]at yA;have:=hR w;rwa [yA]at this
  obtain⟨hb,a,hA,r,_⟩:=(h.ar hw lf).at_ (fun _=>rfl) hl N;refine F.cn.L4.step ⟨fun _=>⟨hb,a,hA,_,_,_,r,fun w1 x1=> ?_⟩,fun h=>by omega⟩;have dn:=kE hw x1;refine pm (hO (I.ar dn) l[i].au) ?_;rintro v w2 b2 rfl;have jn:=kP dn b2;cases hp:rC ps l[i].au with
  |none=>
   refine⟨_,rfl,fun _=>bad 7 _ om (by unfold sP;rw[hp]),fun h=>absurd (by simp[wJ]) h⟩
  |some k=>
  refine⟨_,rfl,fun h=>by simp[wJ]at h;omega,fun _=>pm (jf (I.ar jn) l[i].hold) ?_⟩;rintro v w3 b3 rfl;have P:=kP jn b3;cases hh:wT hs l[i].hold with
  |none=>
   refine⟨_,rfl,fun _=>bad 7 _ om (by unfold sP;rw[hp,hh]),fun h=>absurd (by simp[wJ]) h⟩
  |some j=>
  obtain⟨p,C,hid⟩:=gY hp;have Lk:k<ps.length:=(ek.1 C).1;have Q:ps[k]=p:=(ek.1 C).2;have s1:sP ps hs (l.take i) l[i]=if l[i].aU<1 then 2 else if ∃q,(l.take i).getLast? =some q/\¬fT q l[i]then 5 else if p.aU<l[i].aU∨p.aU<cZ (l.take i++[l[i]]) l[i].au then 12 else 0:=by
   unfold sP;rw[hp,hh];simp only[C]
  refine⟨_,rfl,fun h=>by simp[wJ]at h;omega,fun _=>⟨fun h=>bad 2 _ om (by rw[s1,bm h]),fun hu=> ?_⟩⟩;rw[aq hu]at s1;have hpu:=(g.p1 p (gr C)).2.1.2
  -- behind the order
  have rest:(¬∃q,(l.take i).getLast? =some q/\¬fT q l[i])->∀w,Below w0.heap.size w0 w->∀(i10:Int),i10=wJ (some k)->((0<=i10/\i10<n0)/\∃a24,A0=some a24/\(∃(i25:Int),aa w ((a24.add ((i10).toNat*7)).add 1) [(.int .i64 i25)]/\(((l[i].aU>i25)->(∀Fu,Ext w0.heap.size [] w Fu->(R (.int .i64 (12:Int)) Fu)))/\(¬(l[i].aU>i25)->(aN .i64 ((i:Int)+(1:Int))/\((0<=((i:Int)+(1:Int))/\((i:Int)+(1:Int))<=(c:Int))/\((0<=i10/\i10<n0)/\∃D,A0=some D/\(∃(i28:Int),aa w ((D.add ((i10).toNat*7)).add 1) [(.int .i64 i28)]/\(∀Ey,Ext w0.heap.size [] w Ey->(Pure Tryz.prog 146 #[(.slice A (((i:Int)+(1:Int)).toNat) c),(.int .i64 l[i].au)] Ey fun S UK=>∃(i30:Int),S=(.int .i64 i30)/\(((i30>i28)->(R (.int .i64 (12:Int)) UK))/\(¬(i30>i28)->(aN .i64 ((i:Int)+(1:Int))/\(F.cn.L4 A n c A n c n ((i:Int)+(1:Int)) A0 n0 c0 A1 n1 c1 w0.heap.size UK R)))))))))))))):=by
   intro ho w hw i10 T;rw[aq ho]at s1;subst T;obtain⟨o,a2,J,_,U⟩:=(I.p.ar hw lf).at_ (fun _=>rfl) I.lp Lk;have x:=U 1 _ rfl;rw[Q]at x;refine⟨o,a2,J,_,x,fun h=>fun E _=>bad 12 _ om (by rw[s1,bm (.inl h)]),fun h4=>⟨ir,om,o,a2,J,_,x,fun E G=> ?_⟩⟩;have K:=kE hw G;have e4:((i:Int)+1).toNat=i+1:=om;rw[e4];have V:SmU (l.take (i+1)) l[i].au:=by
    intro m;rw[z];by_cases hm:m<=i
    ·rw[vi (by simp;omega)];exact O.smu l[i].au m
    ·rw[cc (by simp;omega),vz,bm rfl];have h1:=jy O.pos l[i].au;have h2:=O.full p (gr C);rw[hid]at h2;omega
   refine pm (dF (l:=l.take (i+1)) (by rw[DO];exact(h.ar K lf).take _) (by simp;omega) om V) ?_;rintro v W X rfl;have Y:=kP K X;refine⟨_,rfl,fun h=>bad 12 _ om (by rw[s1,bm (.inr (by rw[<-z];exact h))]),fun h5=>⟨ir,?_⟩⟩;rw[e3];refine ih (i+1) W om om Y ?_;have B:sP ps hs (l.take i) l[i]=0:=by
    rw[s1,aq];rintro(k|k)
    ·exact h4 k
    ·rw[<-z]at k;exact h5 k
   rw[z,AU,aq (fun k=>k y),u0,oV,B];rfl
  refine⟨fun h=>⟨ir,?_⟩,fun h=>fun E G=>rest ?_ E (kE P G) _ rfl⟩
  ·obtain⟨o,a2,J,ua,_⟩:=(‹bW w0 A 3 (l.map Sw.row)›.ar P lf).at_ (fun _=>rfl) hl (i:=i - 1) om;have e1:(i:Int) - 1=((i - 1:Nat):Int):=om;have uy:(l.take i).getLast? =some l[i - 1]:=by
    rw[vu,ep,jv om,k7,bm om,af om]
   rw[e1];refine⟨o,a2,J,_,_,_,ua,fun E G=>pm (kb l[i - 1] l[i] E) ?_⟩;have K:=kE P G;rintro v W X rfl;have Y:=kP K X;have H:=Hb (a:=l[i - 1]) (b:=l[i]);refine⟨_,rfl,fun h=>bad 5 _ om (by rw[s1,bm ⟨_,uy,fun k=>by have:=H.2 k;omega⟩]),fun h=>rest ?_ W Y _ rfl⟩;rintro⟨q,L,Z⟩;rw[uy]at L;cases L;exact Z (H.1 om)
  ·rintro⟨q,L,_⟩;have:i=0:=om;subst this;simp at L
theorem cn{w:World}(hg:bj w){A0 A1 A:Option Addr}{n0 c0 n1 c1 n c:Nat}{ps:List Pa}{hs:List Ho}{l:List Sw}(d:hU w A0 n0 A1 n1 ps hs)(h:bW w A 3 (l.map Sw.row))(hl:l.length=n)(g:n<=c)(hn:n<2147483648):
  Pure Tryz.prog 141 #[.agg #[.slice A0 n0 c0,.slice A1 n1 c1],.slice A n c] w fun v _=>v= .int .i64 (iy ps hs l):=by
 refine F.cn.vc fun w1 x1=> ?_
 have a:=k0 x1;refine pm (aM (hg.next a) (d.ar a)) ?_;rintro v i j rfl;have k:=kP a j;refine⟨_,rfl,fun h=> ?_,fun e=> ?_⟩
 ·unfold iy;rw[bm h]
 ·have b:=dT.1 e;exact Jk hg d h hl g hn b (fun _=>by unfold iy;rw[aq e]) n 0 i rfl om k rfl

theorem Jl{P:Program}(w:World)(e sT ty elem:TypeId)(i:TypeInfo)(sz b o d h:Nat)(a:Addr)(c g:Nat)(cs:List Value)
  (hu:P.underlying e=some (.slice elem)) (hi:P.info? elem=some i) (hz:i.size=sz) (hn:cs.length=Nat.min c d*sz)
  (k:∀j v,cs[j]? =some v->w.cell? (a.add j)=some v) (l:∀j,j<cs.length->(w.cell? ⟨b,o+j,none⟩).isSome=true) (hf:∀j,j<cs.length->w.frozen? ⟨b,o+j,none⟩=false) (h1:∀v∈cs,v.oneCell'=true):
  (Builtin.copy_ #[e,sT] ty #[.slice (some ⟨b,o,none⟩) d h,.slice (some a) c g]).run P w= .ok (goInt (Nat.min c d)) (w.setCells b o cs):=by
 have hl:=run_firstCells_some (P:=P) w sz (Nat.min c d) a c g cs hn k;have m:=run_storeCells_cells (P:=P) b o cs 0 w (by simpa using l) (by simpa using hf) h1;simp[Builtin.copy_,run_underlying hu,Builtin.lenOf,sizeOf,typeInfo,hi,hz,hl,m]

theorem oW{t t2 ty e sz bytes:Nat}(el:El Tryz.prog t e sz bytes){B:Nat}{w:World}{tys:List Nat}{b o d l:Nat}{a:Addr}{g m:Nat}{cs cur:List Value}(hn:cs.length=Nat.min g d*sz)
  (x:∀j v,cs[j]? =some v->w.cell? (a.add j)=some v) (hb:w.heap[b]? =some (.cells cur.toArray e (0,0))) (hle:o+cs.length<=cur.length) (h1:∀v∈cs,bk v=true) (hB:B<=b) (y:e∉tys) {K:World->Prop}
  (A:∀w',w'.heap[b]? =some (.cells (setCells cur o cs).toArray e (0,0))->(∀k,k≠b->w'.heap[k]? =w.heap[k]?)->w'.heap.size=w.heap.size->Below B w w'->K w'):
  ae Tryz.prog (Builtin.copy_ #[t,t2] ty #[.slice (some ⟨b,o,none⟩) d l,.slice (some a) g m]) B tys w fun r w1=>∃i:Int,r= .int .i64 i/\K w1:=by
 obtain⟨i,z,C,I,D,J,L⟩:=el.info;have E:=Jl (P:=Tryz.prog) w t t2 ty e i sz b o d l a g m cs el.IJ C D hn x
  (fun j hj=>by
   simp only[World.cell?,hb];have:o+j<cur.length:=om;simp[this])
  (fun j hj=>Lib.frozen_of_heap hb _) (fun v F=>me (h1 v F))
 obtain⟨G,n,H,M,N,O⟩:=rB b e cs o w cur hb;have c:=vq (o:=o) (vs:=cs) hb hB;refine⟨_,_,E,c,om,fun k ty cs h q=>n k fun e=> ?_,_,rfl,A _ G n H c⟩;subst e;rw[hb]at q;cases q;exact y h
theorem OX{b l c sz:Nat}(h:l<c):cT (some ⟨b,0,none⟩) l c sz=some ⟨b,l*sz,none⟩:=by
 unfold cT;rw[aq om];simp[ct]

theorem ay.short{w:World}{B ty:Nat}{A:Option Addr}{n c sz:Nat}{rows:List (List Value)}(h:ay w B ty A n c sz rows){m:Nat}(hm:m<=n):ay w B ty A m c sz (rows.take m):=by
 have hl:=h.len;obtain⟨⟨h1,e⟩,z,i⟩:=h;have a:∀r∈rows.take m,r.length=sz:=fun r j=>i r (oe j)
 have k:(rows.take m).flatten.length=m*sz:=by rw[ka _ a,ep,jv om]
 refine⟨⟨k,?_⟩,by simp;omega,a⟩;rcases e with⟨b,d⟩|⟨g,cap,cur,b,d,o,C,q,x,y⟩
 ·cases b;have:m=0:=om;subst this;exact .inl ⟨rfl,rfl⟩
 ·cases b;refine .inr ⟨g,_,cur,rfl,d,o,om,q,x,?_⟩;have hp:(rows.take m).flatten=rows.flatten.take (m*sz):=by
   have:rows.flatten=(rows.take m).flatten++(rows.drop m).flatten:=by rw[<-u1,iv]
   conv=>rhs;rw[this]
   rw[vi om,cc (l:=(rows.take m).flatten) om]
  rw[hp,<-y,SJ,jv (hJ _ hm)]
theorem L0{z:Value}{n:Nat}(hz:∀u∈z.cells.toList,bk u=true):∀u∈(Builtin.zeroCells z.cells n).toList,bk u=true:=by
 intro u hu;unfold Builtin.zeroCells at hu;simp only[Array.toList_map,Array.toList_range,iu,JK]at hu;obtain⟨i,hi,rfl⟩:=hu;by_cases b:z.cells.size=0
 ·rw[b]at hi;omega
 ·have a:i % z.cells.size<z.cells.size:=NB _ om;rw[getElem!_pos z.cells (i % z.cells.size) a];exact hz _ sm
theorem vA{t ty e sz bytes:Nat}(el:El Tryz.prog t e sz bytes){z:Value}(hz:(Tryz.prog.info? e).bind (·.zero)=some z)(q:∀u∈z.cells.toList,bk u=true){B:Nat}{w:World}{A:Option Addr}{m n c:Nat}{rows:List (List Value)}(h:ay w B e A m c sz rows)(J:m<=n)(Z:n<=c){K:World->Prop}
  (D:∀w',ay w' B e A m c sz rows->Below B w w'->(∀k,k<w.heap.size->(∀a,A=some a->k≠a.block)->w'.heap[k]? =w.heap[k]?)->K w'):
  ae Tryz.prog (Builtin.clear_ #[t] ty #[.slice (cT A m c sz) (n - m) (c - m)]) B [] w fun r w1=>r= .tuple #[]/\K w1:=by
 have stay:∀(A':Option Addr)(c':Nat),(Builtin.clear_ #[t] ty #[.slice A' 0 c']).run Tryz.prog w= .ok (.tuple #[]) w:=fun A' c'=>by
  cases A'<;>simp[Builtin.clear_,run_underlying el.IJ]
 by_cases L:n - m=0
 ·rw[L];exact⟨_,w,stay _ _,Below.refl _ _,ga _,fun _ _ _ _ _=>rfl,rfl,D w h (Below.refl _ _) fun _ _ _=>rfl⟩
 obtain⟨i,d,E,F,h4,h5,M⟩:=el.info;have x:d=z:=by rw[E]at hz;simp[F]at hz;exact hz
 subst x;rcases h.1.2 with⟨y,C⟩|⟨g,cap,cur,y,C,N,O,Q,G,R⟩
 ·cases y;omega
 cases y;rw[OX om];have l:w.heap[g]? =some (.cells cur.toList.toArray e (0,0)):=by simpa using N
 have S:(Builtin.zeroCells d.cells (n - m)).toList.length=(n - m)*sz:=by rw[ri,size_zeroCells,M]
 have T:m*sz+(n - m)*sz<=cur.toList.length:=by
  rw[<-qh,ri,G];exact hJ _ om
 have H:=run_storeCells_cells (P:=Tryz.prog) g (m*sz) (Builtin.zeroCells d.cells (n - m)).toList 0 w (fun j hj=>by
   simp only[World.cell?,l];have:m*sz+j<cur.toList.length:=om;simp only[ri]at this;simp[this]) (fun j hj=>Lib.frozen_of_heap l _) (fun v U=>me (L0 q v U))
 obtain⟨k,I⟩:∃k,n - m=k+1:=⟨n - m - 1,om⟩
 have V:(Builtin.clear_ #[t] ty #[.slice (some ⟨g,m*sz,none⟩) (n - m) (c - m)]).run Tryz.prog w= .ok (.tuple #[]) (w.setCells g (m*sz+0) (Builtin.zeroCells d.cells (n - m)).toList):=by
  rw[I]at H⊢;simp[Builtin.clear_,run_underlying el.IJ,zeroValue,typeInfo,E,F,H]
 obtain⟨W,X,k3,k4,k5,k6⟩:=rB g e (Builtin.zeroCells d.cells (n - m)).toList (m*sz+0) w cur.toList l;have b:=vq (o:=m*sz+0) (vs:=(Builtin.zeroCells d.cells (n - m)).toList) l C;refine⟨_,_,V,b,om,fun k ty cs h=>(by cases h),rfl,D _ ⟨⟨h.1.1,.inr ⟨g,c,_,rfl,C,W,O,Q,?_,?_⟩⟩,h.2⟩ b fun k I Y=>X k (Y _ rfl)⟩
 ·simp[gm,G]
 ·rw[<-R];apply Es;intro j;rw[k7,k7];split
  ·show(setCells cur.toList _ _)[j]? =_;rw[eG _ _ _ _ om,aq om]
  ·rfl

theorem Jn{t e sz bytes:Nat}(el:El Tryz.prog t e sz bytes){B:Nat}{tys:List Nat}{w:World}{m o:IntKind}{n:Nat}(N:n*(bytes+1)<=140737488355328)(hB:B<=w.heap.size){K:Option Addr->Nat->Nat->World->Prop}
  (h:∀d rows,ay d w.heap.size e (some ⟨w.heap.size,0,none⟩) n n sz rows->Below w.heap.size w d->K (some ⟨w.heap.size,0,none⟩) n n d):
  ae Tryz.prog (Instr.makeSlice t (.int m (n:Int)) (.int o (n:Int))) B tys w fun r d=>∃A n c,r= .slice A n c/\K A n c d:=by
 obtain⟨i,z,y,C,D,E,O⟩:=el.info;have hle:n<=n*(bytes+1):=Ao _ om;have hb:n*bytes<=n*(bytes+1):=kc _ om;have g:(i.bytes:Int)*(n:Int)<=281474976710656:=by
  have h:((i.bytes*n:Nat):Int)<=281474976710656:=by
   have:i.bytes*n<=281474976710656:=by rw[E,DS];omega
   omega
  rwa [Zb]at h
 have b:=run_make (P:=Tryz.prog) w t e i z el.IJ y C m o n n om (Xo _) g om;simp only[cd,D]at b;have hg:=World.grownBy_alloc w (.cells (madeCells z.cells (n*sz)) e) none;have a:Below w.heap.size w (w.alloc (.cells (madeCells z.cells (n*sz)) e)):=bT hg sm lf;have q:(madeCells z.cells (n*sz)).toList.length=n*sz:=by simp[madeCells]
 -- F rows
 have j:∀(n:Nat)(l:List Value),l.length=n*sz->∃rows:List (List Value),rows.flatten=l/\rows.length=n/\∀r∈rows,r.length=sz:=by
  intro n;induction n with
  |zero=>intro l hl;rw[VQ]at hl;exact⟨[],by rw[eR hl];rfl,rfl,sm⟩
  |succ n ih=>
   intro l hl;rw[YV]at hl;obtain⟨rows,G,H,I⟩:=ih (l.drop sz) (by rw[wo];omega);refine⟨l.take sz::rows,by rw[wR,G,iv],by simp[H],fun r b=> ?_⟩;rcases cb.1 b with rfl|b
   ·rw[ep];omega
   ·exact I r b
 obtain⟨rows,x,J,L⟩:=j n _ q;refine⟨_,_,b,a.mono hB,hg.size,fun k ty cs _ M=>hg.block k (ax.1 M).1 sm,_,_,_,rfl,h _ rows ⟨⟨by rw[x];exact q,.inr ⟨w.heap.size,n,_,rfl,ga _,heap_alloc_new w _,ga _,by simp only[maxLen];omega,by simp[madeCells],?_⟩⟩,J,L⟩ a⟩;rw[x];exact cc om

theorem EG{t t2 ty e sz bytes:Nat}(el:El Tryz.prog t e sz bytes){B:Nat}{w:World}{tys:List Nat}{g n:Nat}{A2:Option Addr}{c2:Nat}{rows a:List (List Value)}(ho:ay w B e (some ⟨g,0,none⟩) n n sz rows)(hs:bW w A2 sz a)(hl:a.length=n)(c:∀r∈a,r.length=sz)(h1:∀r∈a,∀u∈r,bk u=true)(D:e∉tys){K:World->Prop}
  (E:∀w',ay w' B e (some ⟨g,0,none⟩) n n sz a->(∀k,k≠g->w'.heap[k]? =w.heap[k]?)->Below B w w'->K w'):
  ae Tryz.prog (Builtin.copy_ #[t,t2] ty #[.slice (some ⟨g,0,none⟩) n n,.slice A2 n c2]) B tys w fun r w1=>∃i:Int,r= .int .i64 i/\K w1:=by
 rcases ho.1.2 with⟨h,_⟩|⟨V,cap,cur,h,A,F,G,H,l,W⟩
 ·cases h
 cases h;have d:a.flatten.length=n*sz:=by rw[ka _ c,hl]
 have C:w.heap[g]? =some (.cells cur.toList.toArray e (0,0)):=by simpa using F
 have fin:∀w',w'.heap[g]? =some (.cells (setCells cur.toList 0 a.flatten).toArray e (0,0))->(∀k,k≠g->w'.heap[k]? =w.heap[k]?)->Below B w w'->K w':=fun w' m o I=>by
  refine E w' ⟨⟨d,.inr ⟨g,n,_,rfl,A,m,G,H,by simp[gm,l],?_⟩⟩,hl,c⟩ o I;apply Es;intro j;have hle:0+a.flatten.length<=cur.toList.length:=by rw[d,ri,l];omega
  rw[k7];split
  ·show(setCells cur.toList _ _)[j]? =_;rw[eG _ _ _ _ hle,bm om,Nat.sub_zero]
  ·rw[iw om]
 by_cases hn:n=0
 ·subst hn;obtain⟨i,z,J,X,Y,Z,h6⟩:=el.info;have L:a.flatten=[]:=eR (by rw[d];omega);have q:(Builtin.copy_ #[t,t2] ty #[.slice (some ⟨g,0,none⟩) 0 0,.slice A2 0 c2]).run Tryz.prog w= .ok (goInt 0) w:=by
   have y:∀(x:Addr),(loadCells x 0).run Tryz.prog w= .ok #[] w:=fun x=>by simpa using run_loadCells_list (P:=Tryz.prog) w x [] sm
   cases A2<;>simp[Builtin.copy_,run_underlying el.IJ,Builtin.lenOf,Builtin.firstCells,sizeOf,typeInfo,J,storeCells,y]
  refine⟨_,_,q,Below.refl _ _,ga _,fun _ _ _ _ _=>rfl,_,rfl,fin w ?_ (fun _ _=>rfl) (Below.refl _ _)⟩;rw[L];exact C
 ·rcases hs with M|⟨b,off,cs,N,fr,O,Q,R⟩
  ·subst M;simp at hl;omega
  ·subst O;refine oW el (cs:=a.flatten) (cur:=cur.toList) (by rw[d];simp) (fun j u hu=> ?_) C (by rw[d,ri,l];omega) (fun v S=> ?_) A D fun w' m o _ T=>fin w' m o T
   ·rw[ct];simp only[World.cell?,Q];have:=wE a off c (fun i hi j hj=>(R i hi j hj).2) j u hu;simpa using this
   ·obtain⟨r,q,U⟩:=QF.1 S;exact h1 r q v U

theorem xp{P:Program}{t ty e size bytes:Nat}(el:El P t e size bytes){B0 B:Nat}(l:B0<=B){tys:List Nat}{w:World}{v:Value}{n:Nat}{xs:List Value}(b:w.ownsRow B e size v n xs)
  {a:Addr} {m c:Nat} {news:List Value} (hl:news.length=m*size) (o:∀j u,news[j]? =some u->w.cell? (a.add j)=some u) (h1:∀u∈news,bk u=true)
  (hB:B<=w.heap.size) (hn:n+m<9223372036854775808) (lz:(n+m)*bytes<=140737488355328) (q:e∉tys) {K:Option Addr->Nat->Nat->World->Prop}
  (h:∀A c g,g.ownsRow B e size (.slice A (n+m) c) (n+m) (xs++news)->w.grownBy g v.ownBlock->Below B0 w g->K A (n+m) c g):
  ae P (Builtin.append_ #[t,t] ty #[v,.slice (some a) m c]) B0 tys w fun r g=>∃A n c,r= .slice A n c/\K A n c g:=by
 obtain⟨i,z,x,y,C,D,E⟩:=el.info;obtain⟨H,w',F,ho,hg,_⟩:=run_append_own (P:=P) w B t ty e i z size bytes el.IJ x y C D E el.pos v n xs b a m c news hl o (fun u hu=>me (h1 u hu)) (by simp only[maxLen];omega) om hB;have d:Below B0 w w':=bT hg (fun k G=>ec l (b.lt k G).1) (ec l hB);obtain⟨A,c',rfl,_⟩:=ownsRow_form ho;exact⟨_,w',F,d,d.size,tK hg b q,A,_,c',rfl,h A c' w' ho hg d⟩

theorem Dm{P:Program}{t ty e size bytes:Nat}(el:El P t e size bytes){B0 B:Nat}(o:B0<=B){tys:List Nat}{w:World}{v:Value}{n:Nat}{xs:List Value}(d:w.ownsRow B e size v n xs)
  {x:Value} (hx:x.cells.size=size) (h1:∀u∈x.cells.toList,bk u=true)
  (hB:B<=w.heap.size) (hn:n+1<9223372036854775808) (lz:(n+1)*bytes<=140737488355328) (y:e∉tys) {K:Option Addr->Nat->Nat->World->Prop}
  (h:∀A c b,b.ownsRow B e size (.slice A (n+1) c) (n+1) (xs++x.cells.toList)->w.grownBy b v.ownBlock->Below B0 w b->K A (n+1) c b):
  ae P (Instr.buildSlice t 1 #[(0,x)]) B0 tys w fun r w1=>∃A m c,r= .slice A m c/\
   ae P (Builtin.append_ #[t,t] ty #[v,.slice A m c]) B0 tys w1 fun r b=>∃A n c,r= .slice A n c/\K A n c b:=by
 have q:=pN el [x] (by simpa using hx) sm w;simp only[pe,Uu,List.zipIdx_nil,DM,QB,xJ,Qy,vB]at q;have hg:=World.grownBy_alloc w (.cells x.cells.toList.toArray e) none;have a:Below B0 w (w.alloc (.cells x.cells.toList.toArray e)):=bT hg sm (ec o hB);refine⟨_,_,q,a,a.size,fun k ty cs _ i=>hg.block k (ax.1 i).1 sm,_,_,_,rfl,?_⟩;refine xp el o (d.kept hg (by cases v.ownBlock<;>simp)) (news:=x.cells.toList) (by simpa using hx) ?_ h1 (by have:=hg.size;omega) hn lz y ?_
 ·intro j u hu;rw[jO,mC];simp only[World.cell?];rw[heap_alloc_new];simpa using hu
 ·intro A c b z g C;refine h A c b z ⟨g.os.trans hg.os,g.tape.trans hg.tape,g.output.trans hg.output,ec hg.size g.size,fun k i l=> ?_⟩ (a.trans C);rw[g.block k (by have:=hg.size;omega) l];exact hg.block k i sm

theorem SC{t ty e sz bytes:Nat}(el:El Tryz.prog t e sz bytes){B0 B:Nat}(b:B0<=B){tys:List Nat}{w:World}{A:Option Addr}{n c:Nat}{rows:List (List Value)}(ho:ay w B e A n c sz rows){x:Value}(hx:x.cells.size=sz)(h1:∀u∈x.cells.toList,bk u=true)
  (hB:B<=w.heap.size) (hn:n+1<9223372036854775808) (lz:(n+1)*bytes<=140737488355328) (d:e∉tys) {K:Option Addr->Nat->Nat->World->Prop}
  (h:∀A' c' a,ay a B e A' (n+1) c' sz (rows++[x.cells.toList])->w.grownBy a (Value.ownBlock (.slice A n c))->Below B0 w a->K A' (n+1) c' a):
  ae Tryz.prog (Instr.buildSlice t 1 #[(0,x)]) B0 tys w fun r w1=>∃A2 m c2,r= .slice A2 m c2/\
   ae Tryz.prog (Builtin.append_ #[t,t] ty #[.slice A n c,.slice A2 m c2]) B0 tys w1 fun r a=>∃A n c,r= .slice A n c/\K A n c a:=
 Dm el b ho.1 hx h1 hB hn lz d fun A' c' a g i j=>h A' c' a ⟨by rw[u1];simpa using g,by simp[ho.len],fun r k=>by
  rcases fJ.1 k with h|h
  ·exact ho.2.2 r h
  ·simp at h;subst h;simpa using hx⟩ i j

theorem OY{t ty e sz bytes:Nat}(el:El Tryz.prog t e sz bytes){B0 B:Nat}(o:B0<=B){tys:List Nat}{w:World}{A:Option Addr}{n c:Nat}{rows:List (List Value)}(ho:ay w B e A n c sz rows)
  {a:Addr} {m c2:Nat} {more:List (List Value)} (g:bW w (some a) sz more) (hm:more.length=m) (k:∀r∈more,r.length=sz) (h1:∀r∈more,∀u∈r,bk u=true)
  (hB:B<=w.heap.size) (hn:n+m<9223372036854775808) (lz:(n+m)*bytes<=140737488355328) (q:e∉tys) {K:Option Addr->Nat->Nat->World->Prop}
  (h:∀A' c' d,ay d B e A' (n+m) c' sz (rows++more)->w.grownBy d (Value.ownBlock (.slice A n c))->Below B0 w d->K A' (n+m) c' d):
  ae Tryz.prog (Builtin.append_ #[t,t] ty #[.slice A n c,.slice (some a) m c2]) B0 tys w fun r d=>∃A n c,r= .slice A n c/\K A n c d:=by
 have hlen:more.flatten.length=m*sz:=by
  rw[<-hm];clear g hm h1 h lz;induction more with
  |nil=>simp
  |cons r rs ih=>rw[wR,dp,ih (fun x hx=>k x (by simp[hx])),k r sm,ew,qh];omega
 refine xp el o ho.1 (news:=more.flatten) hlen (fun j u hu=> ?_) (fun u hu=> ?_) hB hn lz q fun A' c' d y z C=>h A' c' d ⟨by rw[u1];exact y,by simp[ho.len,hm],fun r l=> ?_⟩ z C
 ·rcases g with g|⟨b,off,cs,ty,fr,D,E,F⟩
  ·subst g;simp at hu
  ·cases D;rw[ct];simp only[World.cell?,E];have:=wE more off k (fun i hi j hj=>(F i hi j hj).2) j u hu;simpa using this
 ·obtain⟨r,l,G⟩:=QF.1 hu;exact h1 r l u G
 ·rcases fJ.1 l with h|h
  ·exact ho.2.2 r h
  ·exact k r h

theorem zX{t ty e sz bytes:Nat}(el:El Tryz.prog t e sz bytes){B0 B:Nat}(l:B0<=B){tys:List Nat}{w:World}{A:Option Addr}{n c:Nat}{rows:List (List Value)}(ho:ay w B e A n c sz rows)
  {A2:Option Addr} {m c2:Nat} {more:List (List Value)} (g:bW w A2 sz more) (hm:more.length=m) (o:∀r∈more,r.length=sz) (h1:∀r∈more,∀u∈r,bk u=true) (hz:A2=none->c2=0)
  (hB:B<=w.heap.size) (hn:n+m<9223372036854775808) (lz:(n+m)*bytes<=140737488355328) (q:e∉tys) {K:Option Addr->Nat->Nat->World->Prop}
  (h:∀A' c' b,ay b B e A' (n+m) c' sz (rows++more)->w.grownBy b (Value.ownBlock (.slice A n c))->Below B w b->K A' (n+m) c' b):
  ae Tryz.prog (Builtin.append_ #[t,t] ty #[.slice A n c,.slice A2 m c2]) B0 tys w fun r b=>∃A n c,r= .slice A n c/\K A n c b:=by
 cases A2 with
 |some a=>
  refine OY el l ho g hm o h1 hB hn lz q fun A' c' b x j E=>h A' c' b x j ?_
  exact bT j (fun k y=>(ho.1.lt k y).1) hB
 |none=>
  have:=g.sO;subst this;have d:m=0:=by rw[<-hm];rfl
  subst d;rw[hz rfl];obtain⟨i,z,C,F,G,H,I⟩:=el.info;have D:=run_append_owned_none (P:=Tryz.prog) (w:=w) B t ty e i sz el.IJ C _ _ _ ho.1;refine⟨_,w,D,Below.refl _ _,ga _,fun _ _ _ _ _=>rfl,A,n,c,rfl,?_⟩;exact h A c w (by rw[vB];exact ho) ⟨rfl,rfl,rfl,ga _,fun _ _ _=>rfl⟩ (Below.refl _ _)

abbrev fO(x:Int):List Value:=[.int .i64 x]
theorem El.VU:(Tryz.prog.info? 3).bind (·.zero)=some (.int .i64 0):=kF
theorem Dn(z:Value):∀n:Nat,(List.replicate n [z]).flatten=List.replicate n z:=by
 intro n;induction n with
 |zero=>rfl
 |succ n ih=>rw[QH,wR,ih,QH];rfl

theorem VV{i k j l n:Nat}(m:k<n)(g:l<n)(h:i*n+k=j*n+l):i=j/\k=l:=by
 have key:∀{a b c d:Nat},c<n->d<n->a*n+c=b*n+d->¬a<b:=by
  intro a b c d o q h k;have:=hJ n k;rw[YV]at this;omega
 have e:i=j:=by
  have h1:=key m g h;have r:=key g m h.symm;omega
 subst e;exact⟨rfl,om⟩
theorem Dp{i k m n:Nat}(hi:i<m)(a:k<n):i*n+k<m*n:=by
 have:=hJ n (show i+1<=m from hi);rw[YV]at this;omega
theorem Jo{ps:List Pa}{hs:List Ho}(ip:ps.Pairwise fun a b=>a.id<b.id)(ih:hs.Pairwise fun a b=>a.id<b.id){s:Sw}{i k:Nat}(hi:rC ps s.au=some i)(r:wT hs s.hold=some k)(pre:List Sw):
  (dP ps hs pre).set (i*hs.length+k) s.aU=dP ps hs (pre++[s]):=by
 obtain⟨p,hp,n⟩:=gY hi;obtain⟨h,d,o⟩:=qu r;have q:=(ek.1 d).1;have w:=(ek.1 hp).1;refine zV (by rw[BD,iX]) (iX ps hs _) fun l m x c=> ?_
 have g:ps[l]? =some ps[l]:=af x;have j:hs[m]? =some hs[m]:=af c;rw[rj g j,wI,List.getElem?_set];by_cases e:i*hs.length+k=l*hs.length+m
 ·obtain⟨rfl,rfl⟩:=VV q c e;rw[bm rfl,bm (by rw[iX];exact Dp w q),bm];rw[g]at hp;rw[j]at d;cases hp;cases d;exact⟨n.symm,o.symm⟩
 ·rw[aq e,rj g j,aq];rintro⟨q1,y⟩;have z:=qv (f:=Pa.id) ip hp g (by rw[n,q1]);have a2:=qv (f:=Ho.id) ih d j (by rw[o,y]);exact e (by rw[z,a2])
theorem Jp(ps:List Pa)(hs:List Ho):dP ps hs []=List.replicate (ps.length*hs.length) 0:=by
 refine zV (iX _ _ _) sm fun i k hi a=> ?_
 rw[rj (af hi) (af a),R0,bm (Dp hi a)];rfl
theorem Hd{w0:World}{A0 A1 A A':Option Addr}{n0 c0 n1 c1 n c:Nat}{ps:List Pa}{hs:List Ho}{l:List Sw}(e:hU w0 A0 n0 A1 n1 ps hs)(h:bW w0 A 3 (l.map Sw.row))(hl:l.length=n)(hn:n<2147483648)(g:fc ps hs l){N:Nat}(J:N=n0*n1){R:Value->World->Prop}
  (K:∀w,ay w w0.heap.size 3 A' N N 1 ((dP ps hs l).map fO)->R (.tuple #[.slice A' N N,.int .i64 0]) w):
  ∀(d i:Nat)(w:World),n - i=d->i<=n->Below w0.heap.size w0 w->ay w w0.heap.size 3 A' N N 1 ((dP ps hs (l.take i)).map fO)->F.dr.L5 A' N N A n c n i A0 n0 c0 A1 n1 c1 w0.heap.size w R:=by
 have Ih:=e.np;have yz:=e.nh;have L:=e.lp;have y:=e.lh;intro d;induction d with
 |zero=>
  intro i w M hi hw ho;rw[cc om]at ho;exact F.dr.L5.step ⟨fun h=>by omega,fun _=>K w ho⟩
 |succ d ih=>
  intro i w M hi hw ho;have j:i<l.length:=om;have O:=sc i;have P:l.take (i+1)=l.take i++[l[i]]:=by rw[gv,af j];rfl
  obtain⟨p,k,hp,o⟩:=g.known _ (bx j);obtain⟨q,Q,_⟩:=gY hp;obtain⟨q',r,_⟩:=qu o;have S:=(ek.1 Q).1;have T:=(ek.1 r).1;have x:=Dp (m:=ps.length) S T;have hle:p*hs.length<=7*7:=oi om om;obtain⟨hb,a,U,b,_⟩:=(h.ar hw lf).at_ (fun _=>rfl) hl j;refine F.dr.L5.step ⟨fun _=>⟨hb,a,U,_,_,_,b,fun w1 x1=> ?_⟩,fun h=>by omega⟩;have z:=kE hw x1;refine pm (hO (e.ar z) l[i].au) ?_;rintro v w2 B rfl;have C:=kP z B;rw[hp];have D:wJ (some p)*(n1:Int)=((p*hs.length:Nat):Int):=by rw[<-y];simp[wJ]
  refine⟨_,rfl,by rw[D];simp only[aN];omega,pm (jf (e.ar C) l[i].hold) ?_⟩;rintro v w3 E rfl;have V:=kP C E;rw[o,D];have W:((p*hs.length:Nat):Int)+wJ (some k)=((p*hs.length+k:Nat):Int):=by simp[wJ]
  have X:=((ho.lN x1).below B).below E;have Y:p*hs.length+k<N:=by rw[J,<-L,<-y];exact x
  have Z:((dP ps hs (l.take i)).map fO)[p*hs.length+k]? =some (fO ((dP ps hs (l.take i))[p*hs.length+k]'(by rw[iX];exact x))):=by
   rw[ow,af (by rw[iX];exact x)];rfl
  obtain⟨g1,a2,tp,cs,g2,g3,g4,g5,g6⟩:=X.OP (i:=((p*hs.length+k:Nat):Int)) om om (fO l[i].aU) _ (by rw[cd];exact Z) rfl;refine⟨_,rfl,?_⟩;dsimp only;rw[W];refine⟨ir,g1,a2,tp,cs,_,g2,g3,g4,g5,rfl,fun G H=>⟨ir,?_⟩⟩;have I:=g6 G H;rw[cd]at I;rw[O];refine ih (i+1) G om om (V.trans (aG.eC H g2)) ?_;have key:=Jo g.c.ip g.c.ih hp o (l.take i);rw[P,<-key,IK];exact I
theorem dr{w:World}(hg:bj w){A0 A1 A:Option Addr}{n0 c0 n1 c1 n c:Nat}{ps:List Pa}{hs:List Ho}{l:List Sw}(b:hU w A0 n0 A1 n1 ps hs)(h:bW w A 3 (l.map Sw.row))(hl:l.length=n)(o:n<=c)(hn:n<2147483648):
  Pure Tryz.prog 200 #[.agg #[.slice A0 n0 c0,.slice A1 n1 c1],.slice A n c] w fun v w'=>(¬iy ps hs l=0->v= .tuple #[.slice none 0 0,.int .i64 1])/\
   (iy ps hs l=0->∃A' N,v= .tuple #[.slice A' N N,.int .i64 0]/\ay w' w.heap.size 3 A' N N 1 ((dP ps hs l).map fO)/\N=n0*n1):=by
 have q:=b.np;have x:=b.nh;have hle:n0*n1<=7*7:=oi q x;refine F.dr.vc fun w1 x1=> ?_
 have g:=k0 x1;refine pm (cn (hg.next g) (b.ar g) (h.ar g lf) hl o hn) ?_;rintro v y z rfl;have i:=kP g z;refine⟨_,rfl,fun j=>⟨fun _=>rfl,fun k=>absurd k j⟩,fun j=> ?_⟩;have d:=dT.1 j;have e:=fN d;have em:(n0:Int)*(n1:Int)=((n0*n1:Nat):Int):=by simp
 rw[em];refine⟨ir,qm gM El.VU rfl om om i.size fun A' N m D B _ C=> ?_⟩;have a:N=n0*n1:=om;refine Hd b h hl hn e a (fun w' ho=>⟨fun k=>absurd d k,fun _=>⟨A',N,rfl,ho,a⟩⟩) n 0 m rfl om (i.trans C) ?_;rw[FI,Jp,b.lp,b.lh,<-a,List.map_replicate];refine⟨?_,sm,fun r e=>by rw[Jb e];rfl⟩;rw[Dn];exact(show ay m y.heap.size 3 A' N N 1 (List.replicate N [.int .i64 0])from⟨by rw[Dn];exact B,sm,fun r e=>by rw[Jb e];rfl⟩).base i.size|>.1|>fun h=>by rw[Dn]at h;exact h

theorem Ma{w0:World}{A:Option Addr}{n c:Nat}{l:List Int}(hl:bW w0 A 1 (l.map fO))(hlen:l.length=n)(hn:n<2147483648){f:Nat}{a k:Array Value}(bU:av Tryz.prog f=true){p:Int->Bool}
  (hf:∀w,Below w0.heap.size w0 w->∀x∈l,Pure Tryz.prog f (a.toList++([.int .i64 x]:List Value)++k.toList).toArray w fun v _=>v= .bool (p x)) {R:Value->World->Prop} {r:Int} (g:∀w,R (.int .i64 r) w):
  ∀(d i:Nat)(w:World),n - i=d->i<=n->Below w0.heap.size w0 w->r=fq p i (l.drop i)->F.bq.L2 A n c f a k n i w0.heap.size w R:=by
 intro d;induction d with
 |zero=>
  intro i w o hi hw b;rw[dd om]at b;subst b;exact F.bq.L2.step ⟨fun h=>by omega,fun _=>g w⟩
 |succ d ih=>
  intro i w o hi hw b;have j:i<l.length:=om;rw[cy j,fq]at b;obtain⟨hb,q,y,e,_⟩:=(hl.ar hw lf).at_ (fun _=>rfl) hlen j;refine F.bq.L2.step ⟨fun _=> ?_,fun h=>by omega⟩;refine⟨hb,q,y,_,e,bU,pm (hf w hw l[i] (bx _)) ?_⟩;rintro v m z rfl;refine⟨_,rfl,fun h=> ?_,fun h=>⟨ir,?_⟩⟩
  ·rw[bm h]at b;subst b;exact g m
  ·rw[aq (by simp[h])]at b;have B:=sc i;rw[B];exact ih (i+1) m om om (kP hw z) b
theorem zY{w:World}{A:Option Addr}{n c:Nat}{l:List Int}(hl:bW w A 1 (l.map fO))(hlen:l.length=n)(hn:n<2147483648){f:Nat}{a k:Array Value}(bU:av Tryz.prog f=true){p:Int->Bool}
  (hf:∀w',Below w.heap.size w w'->∀x∈l,Pure Tryz.prog f (a.toList++([.int .i64 x]:List Value)++k.toList).toArray w' fun v _=>v= .bool (p x)):
  Pure Tryz.prog 59 #[.slice A n c,.func (.func f) a k] w fun v _=>v= .bool (l.any p):=by
 refine F.gp.vc (pm (F.bq.vc (Ma hl hlen hn bU hf (R:=fun v _=>v= .int .i64 (fq p 0 l)) (fun _=>rfl) n 0 w rfl om (Below.refl _ _) rfl)) ?_);rintro v b _ rfl;exact⟨_,rfl,by dsimp only;rw[tY]⟩

theorem SD{w0:World}{A0 A1 A A':Option Addr}{n0 c0 n1 c1 n c m c':Nat}{i:Nat}(o:i<=7){r:List Int}(q:bW w0 A' 1 (r.map fO))(k:r.length=m)(hm:m<2147483648)(g:∀x∈r,0<=x){b:Bool}{R:Value->World->Prop}
  (y:∀w,b=true->R (.tuple #[.slice none 0 0,.int .i64 12]) w) (fk:∀w,Below w0.heap.size w0 w->b=false->F.bb.L8 A n c A0 n0 c0 n0 ((i:Int)+1) A0 n0 c0 A1 n1 c1 w0.heap.size w R):
  ∀(d j:Nat)(left:Int)(w:World),m - j=d->j<=m->0<=left->left<=9->Below w0.heap.size w0 w->yP left (r.drop j)=b->F.bb.L12 A n c left A0 n0 c0 n0 i A' m c' m j A0 n0 c0 A1 n1 c1 w0.heap.size w R:=by
 intro d;induction d with
 |zero=>
  intro j left w z hj B C hw hb;rw[dd om]at hb;exact F.bb.L12.step ⟨fun h=>by omega,fun _=>⟨ir,fk w hw hb.symm⟩⟩
 |succ d ih=>
  intro j left w z hj B C hw hb;have l:j<r.length:=om;have D:=sc j;rw[cy l,yP]at hb;have hp:=g _ (bx l);obtain⟨E,a,G,e,_⟩:=(q.ar hw lf).at_ (fun _=>rfl) k l;refine F.bb.L12.step ⟨fun _=>⟨E,a,G,_,e,fun h=> ?_,fun h=>⟨ir,ir,?_⟩⟩,fun h=>by omega⟩
  ·rw[bm h]at hb;exact y w hb.symm
  ·rw[aq om]at hb;rw[D];exact ih (j+1) _ w om om om om hw hb
theorem VX{w0:World}{A0 A1 A:Option Addr}{n0 c0 n1 c1 n c:Nat}{ps:List Pa}{hs:List Ho}{a:List Int}(k:hU w0 A0 n0 A1 n1 ps hs)(r:zU ps hs)(h:bW w0 A 1 (a.map fO))(hl:a.length=n)(T:n<=c)(hn:n=n0*n1)(o:∀x∈a,0<=x){R:Value->World->Prop}
  (D:∀w,Fs ps hs a=true->R (.tuple #[.slice none 0 0,.int .i64 12]) w) (fk:∀w,Below w0.heap.size w0 w->Fs ps hs a=false->F.bb.B8 A n c none 0 0 A1 n1 c1 n1 0 A0 n0 c0 A1 n1 c1 w0.heap.size w R):
  ∀(d i:Nat)(w:World),n0 - i=d->i<=n0->Below w0.heap.size w0 w->(∀(l:Nat)(p:Pa),l<i->ps[l]? =some p->yP p.aU (uI a hs.length l)=false)->F.bb.L8 A n c A0 n0 c0 n0 i A0 n0 c0 A1 n1 c1 w0.heap.size w R:=by
 have U:=k.np;have z:=k.nh;have V:=k.lp;have B:=k.lh;intro d;induction d with
 |zero=>
  intro i w E hi hw hx;refine F.bb.L8.step ⟨fun h=>by omega,fun _=>fk w hw ?_⟩;unfold Fs;rw[zI];intro j hj;have hj:=JK.1 hj;rw[af hj];simp only;rw[hx j _ om (af hj)];simp
 |succ d ih=>
  intro i w E hi hw hx;have q:i<ps.length:=om;have C:=sc i;obtain⟨hb,G,H,g,_⟩:=(k.p.ar hw lf).at_ (fun _=>rfl) k.lp q;have I:i*n1<=7*7:=oi om z;have J:(i+1)*n1<=8*7:=oi om z;have K:(i+1)*n1<=n0*n1:=hJ _ om;have W:(i+1)*n1=i*n1+n1:=YV _ _;have L:(i:Int)*(n1:Int)=((i*n1:Nat):Int):=by simp
  have M:((i:Int)+1)*(n1:Int)=(((i+1)*n1:Nat):Int):=by rw[C];simp
  refine F.bb.L8.step ⟨fun _=>⟨hb,G,H,_,_,_,_,_,_,_,g,?_⟩,fun h=>by omega⟩;rw[L,M,cd,cd];refine⟨ir,ir,ir,om,fun w1 x1=> ?_⟩;have N:=kE hw x1;have em:(i+1)*n1 - i*n1=n1:=om;rw[em];have O:=(r.p1 _ (bx q)).2.1;have P:bW w0 (cT A (i*n1) c 1) 1 ((uI a n1 i).map fO):=by
   unfold uI;rw[DO,List.map_drop];exact(h.YC (by simp;omega)).take _
  have y:(uI a n1 i).length=n1:=ND (m:=n0) om om;refine SD om P y om (fun x hx=>o x (Be (oe hx))) (b:=yP ps[i].aU (uI a n1 i)) (fun w hb=>D w ?_) (fun Q S hb=> ?_) n1 0 ps[i].aU w1 rfl om om om N rfl
  ·unfold Fs;rw[uv];refine⟨i,JK.2 q,?_⟩;rw[af q,B];exact hb
  ·rw[C];refine ih (i+1) Q om om S fun l p X hp=> ?_
   by_cases e:l=i
   ·subst e;rw[af q]at hp;cases hp;rw[B];exact hb
   ·exact hx l p om hp

def EH(f:Nat->Nat->Int)(ps:List Pa)(hs:List Ho)(k i:Nat):List Sw:=((List.range k).flatMap fun k=>(List.range ps.length).flatMap fun i=>BH f ps hs k i)++(List.range i).flatMap fun i=>BH f ps hs k i
theorem SE(f:Nat->Nat->Int)(ps:List Pa)(hs:List Ho)(k:Nat):EH f ps hs k ps.length=EH f ps hs (k+1) 0:=by
 unfold EH;rw[GX,QK];simp
theorem Fv(f:Nat->Nat->Int)(ps:List Pa)(hs:List Ho)(k i:Nat):EH f ps hs k (i+1)=EH f ps hs k i++BH f ps hs k i:=by
 unfold EH;rw[GX,QK,fi];simp
theorem SF{w0:World}{A0 A1 A:Option Addr}{n0 c0 n1 c1 n c:Nat}{ps:List Pa}{hs:List Ho}{a:List Int}(b:hU w0 A0 n0 A1 n1 ps hs)(h:bW w0 A 1 (a.map fO))(hl:a.length=n)(hn:n=n0*n1){R:Value->World->Prop}
  (O:∀A' m c' w,Below w0.heap.size w0 w->ay w w0.heap.size 73 A' m c' 3 ((py (qT a n1) ps hs).map Sw.row)->R (.tuple #[.slice A' m c',.int .i64 0]) w):
  ∀(d k:Nat)(A':Option Addr)(m c':Nat)(w:World),n1 - k=d->k<=n1->Below w0.heap.size w0 w->ay w w0.heap.size 73 A' m c' 3 ((EH (qT a n1) ps hs k 0).map Sw.row)->m<=7*k->F.bb.B8 A n c A' m c' A1 n1 c1 n1 k A0 n0 c0 A1 n1 c1 w0.heap.size w R:=by
 have Ih:=b.np;have P:=b.nh;have Q:=b.lp;have H:=b.lh;intro d;induction d with
 |zero=>
  intro k A' m c' w S T hw ho hm;have:k=n1:=om;subst this;refine F.bb.B8.step ⟨fun h=>by omega,fun _=>O _ _ _ w hw ?_⟩;unfold EH at ho;rw[<-H]at ho;simp only[List.range_zero,Qy,vB]at ho;unfold py;rw[<-H];exact ho
 |succ d ih=>
  intro k A' m c' w S T hw ho hm;have I:k<hs.length:=om;have B:=sc k;obtain⟨hb,U,V,j,_⟩:=(b.h.ar hw lf).at_ (fun _=>rfl) b.lh I;refine F.bb.B8.step ⟨fun _=>⟨hb,U,V,_,_,_,_,_,_,_,j,fun w1 x1=> ?_⟩,fun h=>by omega⟩;have W:=kE hw x1;have inner:∀(e i:Nat)(A':Option Addr)(m c':Nat)(w:World),n0 - i=e->i<=n0->Below w0.heap.size w0 w->ay w w0.heap.size 73 A' m c' 3 ((EH (qT a n1) ps hs k i).map Sw.row)->m<=7*k+i->
    F.bb.KN A n c A' m c' k A1 n1 c1 n1 k A0 n0 c0 n0 i A0 n0 c0 A1 n1 c1 hs[k].id hs[k].name hs[k].room hs[k].nz hs[k].x hs[k].y hs[k].z w0.heap.size w R:=by
   intro e;induction e with
   |zero=>
    intro i A' m c' w he hi hw ho hm;have:i=n0:=om;subst this;refine F.bb.KN.step ⟨fun h=>by omega,fun _=>⟨ir,?_⟩⟩;rw[B];refine ih (k+1) A' m c' w om om hw ?_ om;rw[<-SE,Q];exact ho
   |succ e J=>
    intro i A' m c' w he hi hw ho hm;have K:i<ps.length:=om;have l:=sc i;obtain⟨C,D,X,Y,_⟩:=(b.p.ar hw lf).at_ (fun _=>rfl) b.lp K;have Z:i*n1<=7*7:=oi om P;have VW:i*n1+k<n:=by rw[hn];exact Dp om om
    have e4:(i:Int)*(n1:Int)+(k:Int)=((i*n1+k:Nat):Int):=by simp
    have e5:(i:Int)*(n1:Int)=((i*n1:Nat):Int):=by simp
    have o:BH (qT a n1) ps hs k i=if 0<qT a n1 i k then[⟨hs[k].id,ps[i].id,qT a n1 i k⟩]else[]:=by
     unfold BH;rw[af I,af K]
    have q:a[i*n1+k]'om=qT a n1 i k:=by
     unfold qT;rw[cz,af om];rfl
    refine F.bb.KN.step ⟨fun _=>⟨C,D,X,_,_,_,_,_,_,_,Y,?_⟩,fun h=>by omega⟩;rw[e5];have e6:((i*n1:Nat):Int)+(k:Int)=((i*n1+k:Nat):Int):=by simp
    rw[e6];obtain⟨E,G,L,_⟩:=(h.ar hw lf).at_ (fun _=>rfl) hl (i:=i*n1+k) om;refine⟨ir,ir,E,G,L,fun w2 x2=> ?_⟩;have r:=kE hw x2;obtain⟨_,ad4,M,Dq,_⟩:=(h.ar r lf).at_ (fun _=>rfl) hl (i:=i*n1+k) om;rw[L]at M;cases M;have N:=ho.lN x2;refine⟨_,Dq,fun g=> ?_,fun Ex=>⟨ir,?_⟩⟩
    ·rw[q]at g⊢;refine ix ij lf N (x:= .agg #[.int .i64 hs[k].id,.int .i64 ps[i].id,.int .i64 (qT a n1 i k)]) rfl (by simp[Value.cells,bk]) r.size om dc fun A3 c3 w3 o3 _ b3=>⟨ir,?_⟩
     rw[l];refine J (i+1) A3 (m+1) c3 w3 om om (r.trans b3) ?_ om;rw[Fv,o,bm g,eh];exact o3
    ·rw[q]at Ex;rw[l];refine J (i+1) A' m c' w2 om om r ?_ om;rw[Fv,o,aq om,vB];exact N
  exact inner n0 0 A' m c' w1 rfl om W (ho.lN x1) om
def Jq(r:Except Int (List Sw))(B:Nat)(y:Value)(w:World):Prop:=match r with
 | .error e=>y= .tuple #[.slice none 0 0,.int .i64 e]
 | .ok l=>∃A m c,y= .tuple #[.slice A m c,.int .i64 0]/\ay w B 73 A m c 3 (l.map Sw.row)
theorem bb{w:World}(hg:bj w){A0 A1 A:Option Addr}{n0 c0 n1 c1 n c:Nat}{ps:List Pa}{hs:List Ho}{a:List Int}(b:hU w A0 n0 A1 n1 ps hs)(h:bW w A 1 (a.map fO))(hl:a.length=n)(q:n<=c)(hn:n<2147483648):
  Pure Tryz.prog 252 #[.agg #[.slice A0 n0 c0,.slice A1 n1 c1],.slice A n c] w (Jq (sS ps hs a) w.heap.size):=by
 have r:=b.np;have y:=b.nh;have l:=b.lp;have i:=b.lh;have hle:n0*n1<=7*7:=oi r y;refine F.bb.vc fun w1 x1=> ?_
 have j:=k0 x1;refine pm (aM (hg.next j) (b.ar j)) ?_;rintro v G z rfl;have o:=kP j z;have em:(n0:Int)*(n1:Int)=((n0*n1:Nat):Int):=by simp
 rw[em];refine⟨_,rfl,fun d=> ?_,fun d=>⟨ir,fun h1=> ?_,fun h1=> ?_⟩⟩
 ·unfold sS;rw[bm d];rfl
 ·unfold sS;rw[aq d,bm (by rw[l,i];omega)];rfl
 have hlen:a.length=ps.length*hs.length:=by rw[l,i];omega
 refine pm (zY (p:=fun n=>decide (n<0)) (h.ar o lf) hl hn kF fun w' hb x hx=>F.rE.vc rfl) ?_;rintro v B C rfl;have D:=kP o C;refine⟨_,rfl,fun e=> ?_,fun e=> ?_⟩
 ·unfold sS;rw[aq d,aq (fun k=>k hlen),bm e];rfl
 have g:∀x∈a,0<=x:=fun x hx=>by
  have:=zI.1 e x hx;simp at this;omega
 refine VX b (gn (dT.1 d)) h hl q om g (fun w' hf=> ?_) (fun w' E hf=> ?_) n0 0 B rfl om D (fun H p I=>by omega)
 ·unfold sS;rw[aq d,aq (fun k=>k hlen),aq (by rw[e];simp),bm hf];rfl
 ·refine SF b h hl om (fun A' m c' J K ho=> ?_) n1 0 none 0 0 w' rfl om E (by unfold EH;simpa using ay.nil) om;unfold sS;rw[aq d,aq (fun k=>k hlen),aq (by rw[e];simp),aq (by rw[hf];simp),i];exact⟨A',m,c',rfl,ho⟩
end Go.Proofs.YtmdphpnaipbfjaaGreatDoor.B

set_option maxRecDepth 100000
set_option maxHeartbeats 4000000
namespace Go.Proofs.YtmdphpnaipbfjaaGreatDoor.F
open Go Go.RowKit Go.Proofs Go.Proofs.YtmdphpnaipbfjaaGreatDoor.Vc
open Tryz
variable {A C D E G H J K A0 A1 A2 A3 A4 A5 A6 A7 A8 A9 C0 C1 C2 C3 C4 C5 C6 C7 C8 C9:O} {a b c d e f g i j l m n o a0 a1 a2 a3 a4 a5 a6 a7 a8 a9 b0 b1 b2 b3 b4 b5 b6 b7 b8 b9 c0 c1 c2 c3 c4 c5 c6 c7 c8 c9:Nat} {p q r s t u v x p0 p1 p2 p3 p4 p5 p6 p7 p8 p9 q0 q1 q2 q3 q4 q5 q6 q7 q8 q9:Int} {L M N N0 N1 N2 N3 N4 N5 N6 N7 N8 N9 T0 T1 T2 T3 T4 T5 T6 T7 T8 T9:ByteArray} {Q S:Bool} {B:Nat} {w:World} {R:Kt}
def cA.L4(a:O)(b c:Nat)(d:O)(e f:Nat)(g:Int):=Lt 34 f34 4 [vS 0 a b c,vS 1 d e f,vI 5 g] []
def cA.cx:Pm:=([((true,4),[0,1,5],[])],[])
theorem cA.L4.step
  (h:(Br (p<(a:Int)) (Ix p a A fun o=>(∃e f g,aa w (o.add ((p).toNat*3)) [I e,I f,I g]/\(Ix p b C fun q=>(∃i j l,aa w (q.add ((p).toNat*3)) [I i,I j,I l]/\(Br (¬(e=i/\f=j/\g=l/\True)) (∀m,Ext B [] w m->(R (.bool false) m)) (aN .i64 (p+1)/\(∀n,Ext B [] w n->(cA.L4 A a c C b d (p+1) B n R)))))))) (R (.bool true) w))):
  cA.L4 A a c C b d p B w R:=
 lr cA.cx func34 h
theorem cA.vc
  (h:(Br ((a:Int)≠(b:Int)) (R (.bool false) w) (cA.L4 A a c C b d (0:Int) w.heap.size w R))):
  Pure P 34 #[vW A a c,vW C b d] w R:=
 pr cA.cx func34 h

def lO.cx:Pm:=([],[(1,0,7),(1,3,2),(1,4,7),(1,7,2),(1,9999,3)])
theorem lO.vc
  (h:(∀f,Ext w.heap.size [] w f->((∀n,Ext w.heap.size [] f n->(ae P (Instr.buildSlice 41 0 #[]) n.heap.size [44,44] n (Rs fun g i j e=>((ae P (Builtin.append_ #[41,41] 41 #[vW g i j,vW C c d]) w.heap.size [44,44] e (Rs fun v x y l=>((ae P (Instr.buildSlice 42 0 #[]) l.heap.size [44,44] l (Rs fun A9 k c9 F=>(ae P (Builtin.append_ #[42,42] 42 #[vW A9 k c9,vW A a b]) w.heap.size [44,44] F (Rs fun I W e3 e4=>(∀z,Ext w.heap.size [44] e4 z->(R (.agg #[vW v x y,vW I W e3]) z))))))/\(ae P (Instr.buildSlice 42 0 #[]) l.heap.size [44,44] l (Rs fun e5 e6 e7 e8=>(ae P (Builtin.append_ #[42,42] 42 #[vW e5 e6 e7,vW A a b]) w.heap.size [44,44] e8 (Rs fun e9 g0 g1 g2=>(∀D,Ext w.heap.size [44] g2 D->(R (.agg #[vW v x y,vW e9 g0 g1]) D)))))))))/\((ae P (Instr.buildSlice 42 0 #[]) e.heap.size [44,44] e (Rs fun E G H J=>((ae P (Builtin.append_ #[41,41] 41 #[vW g i j,vW C c d]) w.heap.size [44,44] J (Rs fun g3 g4 g5 g6=>(ae P (Builtin.append_ #[42,42] 42 #[vW E G H,vW A a b]) w.heap.size [44,44] g6 (Rs fun g7 g8 g9 j0=>(∀K,Ext w.heap.size [44] j0 K->(R (.agg #[vW g3 g4 g5,vW g7 g8 g9]) K))))))/\(ae P (Builtin.append_ #[41,41] 41 #[vW g i j,vW C c d]) w.heap.size [44,44] J (Rs fun j1 j2 j3 j4=>(ae P (Builtin.append_ #[42,42] 42 #[vW E G H,vW A a b]) w.heap.size [44,44] j4 (Rs fun j5 j6 j7 j8=>(∀L,Ext w.heap.size [44] j8 L->(R (.agg #[vW j1 j2 j3,vW j5 j6 j7]) L)))))))))/\((ae P (Builtin.append_ #[41,41] 41 #[vW g i j,vW C c d]) w.heap.size [44,44] e (Rs fun j9 l0 l1 M=>(ae P (Instr.buildSlice 42 0 #[]) M.heap.size [44,44] M (Rs fun l2 l3 l4 l5=>(ae P (Builtin.append_ #[42,42] 42 #[vW l2 l3 l4,vW A a b]) w.heap.size [44,44] l5 (Rs fun l6 l7 l8 l9=>(∀N,Ext w.heap.size [44] l9 N->(R (.agg #[vW j9 l0 l1,vW l6 l7 l8]) N))))))))/\(ae P (Instr.buildSlice 42 0 #[]) e.heap.size [44,44] e (Rs fun m0 m1 m2 m3=>(ae P (Builtin.append_ #[41,41] 41 #[vW g i j,vW C c d]) w.heap.size [44,44] m3 (Rs fun m4 m5 m6 m7=>(ae P (Builtin.append_ #[42,42] 42 #[vW m0 m1 m2,vW A a b]) w.heap.size [44,44] m7 (Rs fun m8 m9 n0 n1=>(∀O,Ext w.heap.size [44] n1 O->(R (.agg #[vW m4 m5 m6,vW m8 m9 n0]) O))))))))))))))/\((∀o,Ext w.heap.size [] f o->(ae P (Instr.buildSlice 42 0 #[]) o.heap.size [44,44] o (Rs fun p q r m=>((ae P (Instr.buildSlice 41 0 #[]) m.heap.size [44,44] m (Rs fun Q S T U=>((ae P (Builtin.append_ #[41,41] 41 #[vW Q S T,vW C c d]) w.heap.size [44,44] U (Rs fun n2 n3 n4 n5=>(ae P (Builtin.append_ #[42,42] 42 #[vW p q r,vW A a b]) w.heap.size [44,44] n5 (Rs fun n6 n7 n8 k=>(∀V,Ext w.heap.size [44] k V->(R (.agg #[vW n2 n3 n4,vW n6 n7 n8]) V))))))/\(ae P (Builtin.append_ #[41,41] 41 #[vW Q S T,vW C c d]) w.heap.size [44,44] U (Rs fun o0 o1 o2 o3=>(ae P (Builtin.append_ #[42,42] 42 #[vW p q r,vW A a b]) w.heap.size [44,44] o3 (Rs fun o4 o5 o6 o7=>(∀X,Ext w.heap.size [44] o7 X->(R (.agg #[vW o0 o1 o2,vW o4 o5 o6]) X)))))))))/\(ae P (Instr.buildSlice 41 0 #[]) m.heap.size [44,44] m (Rs fun o8 o9 r0 r1=>(ae P (Builtin.append_ #[41,41] 41 #[vW o8 o9 r0,vW C c d]) w.heap.size [44,44] r1 (Rs fun r2 r3 r4 r5=>(ae P (Builtin.append_ #[42,42] 42 #[vW p q r,vW A a b]) w.heap.size [44,44] r5 (Rs fun r6 r7 r8 r9=>(∀Y,Ext w.heap.size [44] r9 Y->(R (.agg #[vW r2 r3 r4,vW r6 r7 r8]) Y))))))))))))/\((∀s,Ext w.heap.size [] f s->(ae P (Instr.buildSlice 41 0 #[]) s.heap.size [44,44] s (Rs fun Z d0 d1 t=>((ae P (Builtin.append_ #[41,41] 41 #[vW Z d0 d1,vW C c d]) w.heap.size [44,44] t (Rs fun s0 s1 s2 d2=>(ae P (Instr.buildSlice 42 0 #[]) d2.heap.size [44,44] d2 (Rs fun s3 s4 s5 s6=>(ae P (Builtin.append_ #[42,42] 42 #[vW s3 s4 s5,vW A a b]) w.heap.size [44,44] s6 (Rs fun s7 s8 s9 t0=>(∀d3,Ext w.heap.size [44] t0 d3->(R (.agg #[vW s0 s1 s2,vW s7 s8 s9]) d3))))))))/\(ae P (Instr.buildSlice 42 0 #[]) t.heap.size [44,44] t (Rs fun t1 t2 t3 t4=>(ae P (Builtin.append_ #[41,41] 41 #[vW Z d0 d1,vW C c d]) w.heap.size [44,44] t4 (Rs fun t5 t6 t7 t8=>(ae P (Builtin.append_ #[42,42] 42 #[vW t1 t2 t3,vW A a b]) w.heap.size [44,44] t8 (Rs fun t9 v0 v1 v2=>(∀d4,Ext w.heap.size [44] v2 d4->(R (.agg #[vW t5 t6 t7,vW t9 v0 v1]) d4))))))))))))/\(∀u,Ext w.heap.size [] f u->(ae P (Instr.buildSlice 42 0 #[]) u.heap.size [44,44] u (Rs fun v3 v4 v5 d5=>(ae P (Instr.buildSlice 41 0 #[]) d5.heap.size [44,44] d5 (Rs fun v6 v7 v8 v9=>(ae P (Builtin.append_ #[41,41] 41 #[vW v6 v7 v8,vW C c d]) w.heap.size [44,44] v9 (Rs fun x0 x1 x2 x3=>(ae P (Builtin.append_ #[42,42] 42 #[vW v3 v4 v5,vW A a b]) w.heap.size [44,44] x3 (Rs fun x4 x5 x6 x7=>(∀d6,Ext w.heap.size [44] x7 d6->(R (.agg #[vW x0 x1 x2,vW x4 x5 x6]) d6)))))))))))))))):
  Pure P 96 #[.agg #[vW C c d,vW A a b]] w R:=
 pr lO.cx func96 h

end Go.Proofs.YtmdphpnaipbfjaaGreatDoor.F

open Go.Proofs.YtmdphpnaipbfjaaGreatDoor

namespace Go.Proofs.YtmdphpnaipbfjaaGreatDoor.B
open Go Go.RowKit Go.Proofs Go.Proofs.YtmdphpnaipbfjaaGreatDoor.Vc

theorem fo.ext{w d:World}{B:Nat}{A:Option Addr}{n c:Nat}{ws:List Nat}(h:fo w B A n c ws)(e:Ext B [] w d):fo d B A n c ws:=
 h.other fun b hb=>by
  rcases e.other b (h.uN b hb).2 with h1|⟨t,g,_⟩
  ·exact h1
  ·cases g

section
variable {w0:World} {A1 A0:Option Addr} {n1 c1 n0 c0:Nat} {a b:List Nat} {R:Value->World->Prop}

end

theorem iZ.nil(w:World):iZ w none 0 0 0:=⟨[],.inl rfl,rfl,om,om,Small.nil,by simp[Norm],rfl⟩
theorem RI.nil(w:World)(B:Nat):RI w B none 0 0 0:=⟨[],World.ownsRow_nil w _ _ _,Small.nil,by simp[Norm],rfl⟩
theorem iZ.zero{w:World}{A:Option Addr}{n c x:Nat}(h:iZ w A n c x)(hn:n=0):x=0:=by
 have:=h.Nx;apply bB;intro k;have:=this.2 k;omega

end Go.Proofs.YtmdphpnaipbfjaaGreatDoor.B

open Go.Proofs.YtmdphpnaipbfjaaGreatDoor

namespace Go.Proofs.YtmdphpnaipbfjaaGreatDoor.B
open Go Go.RowKit Go.Proofs Go.Proofs.YtmdphpnaipbfjaaGreatDoor.Vc

theorem iZ.one{w:World}{A:Option Addr}{n c x:Nat}(h:iZ w A n c x)(b:0<x)(hx:x<1000000000):n=1/\oI w A [x]:=by
 obtain⟨ws,h1,d,i,j,l,g,rfl⟩:=h;have a:ws≠[]:=fun e=>by subst e;simp[wv]at b
 have hp:=po g a;have hl:ws.length=1:=by
  have:=zk.2 a;apply bB;intro k;have:1000000000^1<=1000000000^(ws.length - 1):=gb om om;omega
 obtain⟨z,rfl⟩:=u6.1 hl;refine⟨by simpa using d.symm,?_⟩;have e:wv [z]=z:=by simp[wv]
 rw[e];exact h1

section
variable {w1:World} {B:Nat} {Af Au Av Aq:Option Addr} {nf cf nu cu nv cv nq cq:Nat} {vs:List Nat} {R:Value->World->Prop}

end

theorem iZ.jZ{w:World}{A:Option Addr}{n c z k:Nat}(h:iZ w A n c z)(hz:z<1000000000^k):n<=k:=by
 obtain⟨ws,_,hl,_,_,_,hn,rfl⟩:=h;by_cases b:ws=[]
 ·subst b;simp at hl;omega
 ·have h1:=po hn b;have:=(QY (a:=1000000000) om).1 (uQ h1 hz);omega
theorem fo.some{w:World}{B:Nat}{A:Option Addr}{n c:Nat}{ws:List Nat}(h:fo w B A n c ws)(a:n≠0):A≠none:=by
 rintro rfl;rcases h.2 with⟨e,_⟩|⟨g,cap,cur,e,_⟩
 ·cases e;exact a rfl
 ·cases e

def IsZ(w:World)(b:Bool)(A:Option Addr)(n c:Nat)(z:Int):Prop:=b=decide (z<0)/\iZ w A n c z.natAbs
theorem IsZ.below{w w':World}{b:Bool}{A:Option Addr}{n c:Nat}{z:Int}(h:IsZ w b A n c z)(hb:Below w.heap.size w w'):IsZ w' b A n c z:=⟨h.1,h.2.below hb⟩
theorem IsZ.ext{w w':World}{B:Nat}{ts:List Nat}{b:Bool}{A:Option Addr}{n c:Nat}{z:Int}(h:IsZ w b A n c z)(e:Ext B ts w w')(a:174∉ts):IsZ w' b A n c z:=⟨h.1,h.2.ext e a⟩
def sgn(z:Int):Int:=if z<0 then -1 else if 0<z then 1 else 0

def US(w:World)(b:Bool)(A:Option Addr)(n c:Nat)(A':Option Addr)(n' c':Nat)(r:Rat):Prop:=IsZ w b A n c r.num/\iZ w A' n' c' r.den
theorem US.below{w w':World}{b:Bool}{A A':Option Addr}{n c n' c':Nat}{r:Rat}(h:US w b A n c A' n' c' r)(hb:Below w.heap.size w w'):US w' b A n c A' n' c' r:=⟨h.1.below hb,h.2.below hb⟩
theorem US.ext{w w':World}{B:Nat}{ts:List Nat}{b:Bool}{A A':Option Addr}{n c n' c':Nat}{r:Rat}(h:US w b A n c A' n' c' r)(e:Ext B ts w w')(a:174∉ts):US w' b A n c A' n' c' r:=⟨h.1.ext e a,h.2.ext e a⟩
abbrev QR(r:Rat)(v:Value)(w:World):Prop:=∃b A n c A' n' c',v= .agg #[.bool b,.slice A n c,.slice A' n' c']/\US w b A n c A' n' c' r

end Go.Proofs.YtmdphpnaipbfjaaGreatDoor.B

open Go.Proofs.YtmdphpnaipbfjaaGreatDoor

namespace Go.Proofs.YtmdphpnaipbfjaaGreatDoor.B
open Go Go.RowKit Go.Proofs Go.Proofs.YtmdphpnaipbfjaaGreatDoor.Vc

theorem oX:El Tryz.prog 86 5 1 1:=El.of kF
section
variable {w0:World} {A0:Option Addr} {n0 c0:Nat} {ws:List Nat} {R:Value->World->Prop}

end

def ajg(p:Pa):Bool:=decide (p.iQ.size<=40/\p.wG.size<=40/\p.gy.size<=40/\p.name.size<=70)
def ajh(h:Ho):Bool:=decide (h.room.size<=40/\h.nz.size<=40/\h.x.size<=40/\h.y.size<=40/\h.z.size<=40/\h.name.size<=70)
def aaX(ps:List Pa)(hs:List Ho):Bool:=ps.all ajg&&hs.all ajh&&decide (ps.length<=7/\hs.length<=7)
structure Fw (w:World) (A0:Option Addr) (n0:Nat) (A1:Option Addr) (n1:Nat) (ps:List Pa) (hs:List Ho):Prop where
 p:bW w A0 7 (ps.map Pa.row)
 h:bW w A1 7 (hs.map Ho.row)
 lp:ps.length=n0
 lh:hs.length=n1
 np:n0<9223372036854775808
 nh:n1<9223372036854775808
theorem Fw.ar{w w':World}{A0 A1:Option Addr}{n0 n1:Nat}{ps:List Pa}{hs:List Ho}(h:Fw w A0 n0 A1 n1 ps hs)(hb:Below w.heap.size w w'):Fw w' A0 n0 A1 n1 ps hs:=
 ⟨h.p.ar hb lf,h.h.ar hb lf,h.lp,h.lh,h.np,h.nh⟩
theorem Fw.uO{w:World}{A0 A1:Option Addr}{n0 n1:Nat}{ps:List Pa}{hs:List Ho}(h:Fw w A0 n0 A1 n1 ps hs)(hf:aaX ps hs=true):hU w A0 n0 A1 n1 ps hs:=by
 unfold aaX at hf;rw[de,de]at hf;obtain⟨⟨h1,b⟩,a⟩:=hf;have a:=fs a;refine⟨h.p,h.h,h.lp,h.lh,fun p hp=> ?_,fun x hx=> ?_,by have:=h.lp;omega,by have:=h.lh;omega⟩
 ·have:=fs (gu.1 h1 p hp);exact⟨by unfold mO;omega,by unfold mO;omega,by unfold mO;omega,om⟩
 ·have:=fs (gu.1 b x hx);exact⟨by unfold mO;omega,by unfold mO;omega,by unfold mO;omega,by unfold mO;omega,by unfold mO;omega,om⟩
theorem all_false{α:Type}{p:α->Bool}{l:List α}{x:α}(hx:x∈l)(h:p x=false):l.all p=false:=by
 rw[MC];intro k;rw[gu.1 k x hx]at h;cases h
theorem Hf:El Tryz.prog 41 145 7 88:=El.of kF
theorem Hg:El Tryz.prog 42 149 7 104:=El.of kF
theorem SG{v:List Pa}:∀r∈v.map Pa.row,r.length=7:=by
 intro r a;obtain⟨x,_,rfl⟩:=iu.1 a;rfl
theorem OZ{v:List Pa}:∀r∈v.map Pa.row,∀u∈r,bk u=true:=by
 intro r a u hu;obtain⟨x,_,rfl⟩:=iu.1 a;simp only[Pa.row,cb,eH,oP]at hu;rcases hu with rfl|rfl|rfl|rfl|rfl|rfl|rfl<;>rfl
theorem SH{v:List Ho}:∀r∈v.map Ho.row,r.length=7:=by
 intro r a;obtain⟨x,_,rfl⟩:=iu.1 a;rfl
theorem Pb{v:List Ho}:∀r∈v.map Ho.row,∀u∈r,bk u=true:=by
 intro r a u hu;obtain⟨x,_,rfl⟩:=iu.1 a;simp only[Ho.row,cb,eH,oP]at hu;rcases hu with rfl|rfl|rfl|rfl|rfl|rfl|rfl<;>rfl
theorem Dr{v:List Sw}:∀r∈v.map Sw.row,r.length=3:=by
 intro r a;obtain⟨x,_,rfl⟩:=iu.1 a;rfl
theorem Fx{v:List Sw}:∀r∈v.map Sw.row,∀u∈r,bk u=true:=by
 intro r a u hu;obtain⟨x,_,rfl⟩:=iu.1 a;simp only[Sw.row,cb,eH,oP]at hu;rcases hu with rfl|rfl|rfl<;>rfl

structure yR (w:World) (A0:Option Addr) (n0:Nat) (A1:Option Addr) (n1:Nat) (ps:List Pa) (hs:List Ho):Prop where
 p:bW w A0 7 (ps.map Pa.row)
 h:bW w A1 7 (hs.map Ho.row)
 lp:ps.length=n0
 lh:hs.length=n1
 np:n0*88<=140737488355328
 nh:n1*104<=140737488355328
theorem yR.ar{w w':World}{A0 A1:Option Addr}{n0 n1:Nat}{ps:List Pa}{hs:List Ho}(h:yR w A0 n0 A1 n1 ps hs)(hb:Below w.heap.size w w'):yR w' A0 n0 A1 n1 ps hs:=
 ⟨h.p.ar hb lf,h.h.ar hb lf,h.lp,h.lh,h.np,h.nh⟩
theorem hU.fit{w:World}{A0 A1:Option Addr}{n0 n1:Nat}{ps:List Pa}{hs:List Ho}(h:hU w A0 n0 A1 n1 ps hs):yR w A0 n0 A1 n1 ps hs:=
 ⟨h.p,h.h,h.lp,h.lh,by have:=h.np;omega,by have:=h.nh;omega⟩
structure BJ (w0:World) (A0:Option Addr) (n0:Nat) (A1:Option Addr) (n1:Nat) (ps:List Pa) (hs:List Ho) (p h:Option (Option Addr×Nat×Nat)) (fp fh:Bool) (w:World):Prop where
 cg:yR w A0 n0 A1 n1 ps hs
 b:Below w0.heap.size w0 w
 p:∀x,p=some x->ay w w0.heap.size 145 x.1 x.2.1 x.2.2 7 (if fp then ps.map Pa.row else[])
 h:∀x,h=some x->ay w w0.heap.size 149 x.1 x.2.1 x.2.2 7 (if fh then hs.map Ho.row else[])
section
variable {w0:World} {A0 A1:Option Addr} {n0 c0 n1 c1:Nat} {ps:List Pa} {hs:List Ho} {p h:Option (Option Addr×Nat×Nat)} {fp fh:Bool} {w:World}
theorem BJ.next{w':World}(k:BJ w0 A0 n0 A1 n1 ps hs p h fp fh w)(hb:Below w.heap.size w w'):BJ w0 A0 n0 A1 n1 ps hs p h fp fh w':=
 ⟨k.cg.ar hb,kP k.b hb,fun x hx=>(k.p x hx).below hb,fun x hx=>(k.h x hx).below hb⟩
theorem BJ.ext{ts:List Nat}{G:World->Prop}(k:BJ w0 A0 n0 A1 n1 ps hs p h fp fh w)(a:ts=[])(b:∀w',BJ w0 A0 n0 A1 n1 ps hs p h fp fh w'->G w'):∀w',Ext w0.heap.size ts w w'->G w':=by
 intro w' x;subst a;exact b w' (k.next (NC x))
theorem BJ.bp{tys:List Nat}{K:Option Addr->Nat->Nat->World->Prop}(k:BJ w0 A0 n0 A1 n1 ps hs none h fp fh w)(a:∀A c w',BJ w0 A0 n0 A1 n1 ps hs (some (A,0,c)) h false fh w'->K A 0 c w'):
  ae Tryz.prog (Instr.buildSlice 41 0 #[]) w.heap.size tys w fun r w1=>∃A n c,r= .slice A n c/\K A n c w1:=
 aW Hf [] sm sm lf fun A c w' ho hb=>a A c w' ⟨k.cg.ar hb,kP k.b hb,fun x hx=>(by cases hx;exact ho.base k.b.size),fun x hx=>(k.h x hx).below hb⟩
theorem BJ.bh{tys:List Nat}{K:Option Addr->Nat->Nat->World->Prop}(k:BJ w0 A0 n0 A1 n1 ps hs p none fp fh w)(a:∀A c w',BJ w0 A0 n0 A1 n1 ps hs p (some (A,0,c)) fp false w'->K A 0 c w'):
  ae Tryz.prog (Instr.buildSlice 42 0 #[]) w.heap.size tys w fun r w1=>∃A n c,r= .slice A n c/\K A n c w1:=
 aW Hg [] sm sm lf fun A c w' ho hb=>a A c w' ⟨k.cg.ar hb,kP k.b hb,fun x hx=>(k.p x hx).below hb,fun x hx=>(by cases hx;exact ho.base k.b.size)⟩
theorem BJ.ap{tys:List Nat}{ty:Nat}{A:Option Addr}{n c:Nat}{K:Option Addr->Nat->Nat->World->Prop}(d:yR w0 A0 n0 A1 n1 ps hs)(hz:A0=none->c0=0)(i:145∉tys)(k:BJ w0 A0 n0 A1 n1 ps hs (some (A,n,c)) h false fh w)(j:∀A' n' c' w',BJ w0 A0 n0 A1 n1 ps hs (some (A',n',c')) h true fh w'->K A' n' c' w'):
  ae Tryz.prog (Builtin.append_ #[41,41] ty #[.slice A n c,.slice A0 n0 c0]) w0.heap.size tys w fun r w1=>∃A n c,r= .slice A n c/\K A n c w1:=by
 have hl:=k.cg.lp;have l:=k.cg.np;have ho:ay w w0.heap.size 145 A n c 7 []:=by simpa using k.p _ rfl
 have hn:n=0:=by have:=ho.len;simpa using this.symm
 subst hn;refine zX Hf lf ho k.cg.p (by simpa using hl) SG OZ hz k.b.size om om i fun A' c' w' o hg hb=>j _ _ _ _ ⟨d.ar (k.b.trans hb),k.b.trans hb,fun x hx=> ?_,fun x hx=> ?_⟩
 ·cases hx;simpa using o
 ·refine(k.h x hx).other fun a ha=> ?_
  obtain⟨cs,m⟩:=(k.h x hx).cells a ha;refine hg.block _ ((k.h x hx).uN a ha).2 fun e=> ?_
  cases A with
  |none=>simp[Value.ownBlock]at e
  |some a2=>
   simp[Value.ownBlock]at e;obtain⟨q,g⟩:=ho.cells a2 rfl;exact wF m g dc (by first|exact e|exact e.symm)
theorem BJ.ah{tys:List Nat}{ty:Nat}{A:Option Addr}{n c:Nat}{K:Option Addr->Nat->Nat->World->Prop}(d:yR w0 A0 n0 A1 n1 ps hs)(hz:A1=none->c1=0)(i:149∉tys)(k:BJ w0 A0 n0 A1 n1 ps hs p (some (A,n,c)) fp false w)(j:∀A' n' c' w',BJ w0 A0 n0 A1 n1 ps hs p (some (A',n',c')) fp true w'->K A' n' c' w'):
  ae Tryz.prog (Builtin.append_ #[42,42] ty #[.slice A n c,.slice A1 n1 c1]) w0.heap.size tys w fun r w1=>∃A n c,r= .slice A n c/\K A n c w1:=by
 have hl:=k.cg.lh;have l:=k.cg.nh;have ho:ay w w0.heap.size 149 A n c 7 []:=by simpa using k.h _ rfl
 have hn:n=0:=by have:=ho.len;simpa using this.symm
 subst hn;refine zX Hg lf ho k.cg.h (by simpa using hl) SH Pb hz k.b.size om om i fun A' c' w' o hg hb=>j _ _ _ _ ⟨d.ar (k.b.trans hb),k.b.trans hb,fun x hx=> ?_,fun x hx=> ?_⟩
 ·refine(k.p x hx).other fun a ha=> ?_
  obtain⟨cs,m⟩:=(k.p x hx).cells a ha;refine hg.block _ ((k.p x hx).uN a ha).2 fun e=> ?_
  cases A with
  |none=>simp[Value.ownBlock]at e
  |some a2=>
   simp[Value.ownBlock]at e;obtain⟨q,g⟩:=ho.cells a2 rfl;exact wF m g dc (by first|exact e|exact e.symm)
 ·cases hx;simpa using o
end
set_option maxRecDepth 20000 in
theorem Pc{w:World}{A0 A1:Option Addr}{n0 c0 n1 c1:Nat}{ps:List Pa}{hs:List Ho}(a:yR w A0 n0 A1 n1 ps hs)(g:A0=none->c0=0)(i:A1=none->c1=0):
  Pure Tryz.prog 96 #[.agg #[.slice A0 n0 c0,.slice A1 n1 c1]] w fun v w'=>∃B0 d0 b d1,v= .agg #[.slice B0 n0 d0,.slice b n1 d1]/\ay w' w.heap.size 145 B0 n0 d0 7 (ps.map Pa.row)/\ay w' w.heap.size 149 b n1 d1 7 (hs.map Ho.row):=by
 refine F.lO.vc fun w1 x1=> ?_
 have s1:BJ w A0 n0 A1 n1 ps hs none none false false w1:=⟨a.ar (k0 x1),k0 x1,fun x hx=>(by cases hx),fun x hx=>(by cases hx)⟩;have fin:∀{P H:Option Addr} {np nh d ch:Nat} {c:World},BJ w A0 n0 A1 n1 ps hs (some (P,np,d)) (some (H,nh,ch)) true true c->∀e,Ext w.heap.size [44] c e->
   ∃B0 d0 b d1,Value.agg #[.slice P np d,.slice H nh ch]= .agg #[.slice B0 n0 d0,.slice b n1 d1]/\ay e w.heap.size 145 B0 n0 d0 7 (ps.map Pa.row)/\ay e w.heap.size 149 b n1 d1 7 (hs.map Ho.row):=by
  intro P H np nh d ch c k e j;have hp:ay c w.heap.size 145 P np d 7 (ps.map Pa.row):=k.p _ rfl;have l:ay c w.heap.size 149 H nh ch 7 (hs.map Ho.row):=k.h _ rfl;have lp:=hp.len;have lh:=l.len;simp only[en]at lp lh;rw[a.lp]at lp;rw[a.lh]at lh;subst lp;subst lh;exact⟨_,_,_,_,rfl,hp.OQ j dc,l.OQ j dc⟩
 repeat' first
  |(with_reducible refine And.intro ?_ ?_)
  |exact fin (by assumption)
  |(with_reducible refine BJ.ext (by assumption) rfl fun _ _=> ?_)
  |(with_reducible refine BJ.bp (by assumption) fun _ _ _ _=> ?_)
  |(with_reducible refine BJ.bh (by assumption) fun _ _ _ _=> ?_)
  |(with_reducible refine BJ.ap a g ?_ (by assumption) fun _ _ _ _ _=> ?_; · decide)
  |(with_reducible refine BJ.ah a i ?_ (by assumption) fun _ _ _ _ _=> ?_; · decide)

theorem Wa(s:Nat)(hs:s<18446744073709551616)(w:World):(binOp .shr 179 (.int .u64 (s:Int)) (.int .u64 1)).run Tryz.prog w= .ok (.int .u64 ((s / 2:Nat):Int)) w:=by
 have e:binOp .shr 179 (.int .u64 (s:Int)) (.int .u64 1)=Op.shift .shr .u64 (s:Int) .u64 1:=rfl;rw[e,shift_shr .u64 .u64 _ _ dc dc];rfl

def xq(t:Sw)(l:List Sw):Nat:=(l.takeWhile fun x=>decide (fT x t)).length
theorem aaZ(t:Sw)(l:List Sw):xq t l<=l.length:=(List.takeWhile_sublist _).length_le
theorem aa0{t:Sw}{l:List Sw}{i:Nat}(hi:i<=l.length)(h1:∀k a,k<i->l[k]? =some a->fT a t)(c:∀a,l[i]? =some a->¬fT a t):xq t l=i:=by
 induction l generalizing i with
 |nil=>simp at hi;subst hi;rfl
 |cons a r ih=>
  cases i with
  |zero=>
   have:=c a rfl;simp[xq,this]
  |succ i=>
   have ha:=h1 0 a om rfl;have:=ih (i:=i) (by simpa using hi) (fun k b d hb=>h1 (k+1) b om (by simpa using hb)) (fun b hb=>c b (by simpa using hb));unfold xq at*;simp[ha,this]
theorem NG{l:List Sw}(h:tW l){i j:Nat}{a b t:Sw}(d:i<=j)(ha:l[i]? =some a)(hb:l[j]? =some b)(c:fT b t):fT a t:=by
 by_cases e:i=j
 ·subst e;rw[ha]at hb;cases hb;exact c
 ·obtain⟨hi,rfl⟩:=ek.1 ha;obtain⟨hj,rfl⟩:=ek.1 hb;exact wH (List.pairwise_iff_getElem.1 h i j hi hj om) c
def iJ(t:Sw)(l:List Sw):Bool:=match l[xq t l]? with
 |some x=>decide (x.hold=t.hold/\x.au=t.au)
 |none=>false
theorem Hh{w0:World}{A:Option Addr}{n c:Nat}{l:List Sw}(hl:bW w0 A 3 (l.map Sw.row))(hlen:l.length=n)(hn:n<1000000)(hs:tW l)(t:Sw):
  Pure Tryz.prog 144 #[.slice A n c,t.val,.func (.func 145) #[] #[]] w0 fun v _=>v= .tuple #[.int .i64 (xq t l:Nat),.bool (iJ t l)]:=by
 have fin:∀(i:Nat)(w:World),i<=n->Below w0.heap.size w0 w->(∀k a,k<i->l[k]? =some a->fT a t)->(∀k a,i<=k->l[k]? =some a->¬fT a t)->
   F.ak.L3 A n c 145 #[] #[] n i i t.hold t.au t.aU w0.heap.size w fun v _=>v= .tuple #[.int .i64 (xq t l:Nat),.bool (iJ t l)]:=by
  intro i w hi hw h1 b;have m:xq t l=i:=aa0 om h1 fun a ha=>b i a lf ha
  refine F.ak.L3.step ⟨fun h=>by omega,fun _=>⟨fun h=> ?_,fun h o _=> ?_⟩⟩
  ·have g:i<l.length:=om;obtain⟨hb,a,q,r,_⟩:=(hl.ar hw lf).at_ (fun _=>rfl) hlen g;refine⟨hb,a,q,_,_,_,r,kF,fun o x2=>pm (kb l[i] t o) ?_⟩;rintro v x _ rfl;refine⟨_,rfl,?_⟩;unfold iJ;rw[m,af g];have e:decide (LZ l[i] t=0)=decide (l[i].hold=t.hold/\l[i].au=t.au):=by rw[ky];exact VS
   dsimp only;rw[e]
  ·unfold iJ;rw[m,iw om]
 have key:∀(d i j:Nat)(w:World),j - i<=d->i<=j->j<=n->Below w0.heap.size w0 w->(∀k a,k<i->l[k]? =some a->fT a t)->(∀k a,j<=k->l[k]? =some a->¬fT a t)->
   F.ak.L3 A n c 145 #[] #[] n i j t.hold t.au t.aU w0.heap.size w fun v _=>v= .tuple #[.int .i64 (xq t l:Nat),.bool (iJ t l)]:=by
  intro d;induction d with
  |zero=>
   intro i j w D E hj hw h1 b;have:i=j:=om;subst this;exact fin i w hj hw h1 b
  |succ d ih=>
   intro i j w D E hj hw h1 b;by_cases he:i=j
   ·subst he;exact fin i w hj hw h1 b
   obtain⟨h,G⟩:∃h,h=(i+j) / 2:=⟨_,rfl⟩
   have g:h<l.length:=om;refine F.ak.L3.step ⟨fun _=>⟨ir,ir,?_⟩,fun h=>by omega⟩;have es:(i:Int)+(j:Int)=((i+j:Nat):Int):=om;rw[es];refine⟨_,_,Wa (i+j) om w,Below.refl _ _,ga _,fun _ _ _ _ _=>rfl,_,rfl,?_⟩;rw[<-G];obtain⟨hb,a,q,r,_⟩:=(hl.ar hw lf).at_ (fun _=>rfl) hlen g;refine⟨ir,hb,a,q,_,_,_,r,kF,fun o x2=>pm (kb l[h] t o) ?_⟩;have B:=kE hw x2;rintro v x C rfl;refine⟨_,rfl,fun y=>⟨ir,?_⟩,fun y=> ?_⟩
   ·have H:=sc h;rw[H];exact ih (h+1) j x om om hj (kP B C) (fun k a z ha=>NG hs om ha (af g) (Hb.1 y)) b
   ·refine ih i h x om om om (kP B C) h1 fun k a z ha hb=>y (Hb.2 ?_)
    exact NG hs z (af g) ha hb
 refine F.ak.vc fun w1 x1=> ?_
 refine key n 0 n w1 om om om (k0 x1) (fun k a h=>by omega) fun k a z ha=> ?_
 rw[iw om]at ha;cases ha

def rF(A:Option Addr)(w w':World):Prop:=w.heap.size<=w'.heap.size/\∀k,k<w.heap.size->(∀a,A=some a->k≠a.block)->w'.heap[k]? =w.heap[k]?
theorem rF.refl{A:Option Addr}{w:World}:rF A w w:=⟨ga _,fun _ _ _=>rfl⟩
theorem rF.trans{A:Option Addr}{w w1 a:World}(h:rF A w w1)(k:rF A w1 a):rF A w a:=
 ⟨ec h.1 k.1,fun j hj ha=>(k.2 j (uB hj h.1) ha).trans (h.2 j hj ha)⟩
theorem rF.low{A:Option Addr}{w w1:World}(h:Below w.heap.size w w1):rF A w w1:=⟨h.size,fun k a _=>h.block k a⟩
theorem rF.wrote{A:Option Addr}{w w1:World}{b ty:Nat}{cs:List Value}(h:aG w w1 b ty cs)(ha:∃a,A=some a/\a.block=b):rF A w w1:=
 ⟨by rw[h.size];exact ga _,fun k g c=>h.rest k fun e=>by obtain⟨a,h1,d⟩:=ha;exact c a h1 (e.trans d.symm)⟩
theorem rF.fresh{A:Option Addr}{w0 w w1:World}{b ty:Nat}{cs:List Value}(h:aG w w1 b ty cs)(k:rF A w0 w)(hb:w0.heap.size<=b):rF A w0 w1:=
 ⟨by rw[h.size];exact k.1,fun j hj ha=>(h.rest j om).trans (k.2 j hj ha)⟩

theorem AV{w0:World}{A:Option Addr}{n c:Nat}{l:List Sw}(hl:bW w0 A 3 (l.map Sw.row))(hlen:l.length=n)(hn:n<2147483648){f:Nat}{a k:Array Value}(bU:av Tryz.prog f=true){p:Sw->Bool}
  (hf:∀w,Below w0.heap.size w0 w->∀x∈l,Pure Tryz.prog f (a.toList++([x.val]:List Value)++k.toList).toArray w fun v _=>v= .bool (p x)) {R:Value->World->Prop} {r:Int} (j:∀w,R (.int .i64 r) w):
  ∀(d i:Nat)(w:World),n - i=d->i<=n->Below w0.heap.size w0 w->r=fq p i (l.drop i)->F.aO.L2 A n c f a k n i w0.heap.size w R:=by
 intro d;induction d with
 |zero=>
  intro i w o hi hw b;rw[dd om]at b;subst b;exact F.aO.L2.step ⟨fun h=>by omega,fun _=>j w⟩
 |succ d ih=>
  intro i w o hi hw b;have g:i<l.length:=om;rw[cy g,fq]at b;obtain⟨hb,q,y,e,_⟩:=(hl.ar hw lf).at_ (fun _=>rfl) hlen g;refine F.aO.L2.step ⟨fun _=> ?_,fun h=>by omega⟩;refine⟨hb,q,y,_,_,_,e,bU,pm (hf w hw l[i] (bx g)) ?_⟩;rintro v m z rfl;refine⟨_,rfl,fun h=> ?_,fun h=>⟨ir,?_⟩⟩
  ·rw[bm h]at b;subst b;exact j m
  ·rw[aq (by simp[h])]at b;have B:=sc i;rw[B];exact ih (i+1) m om om (kP hw z) b
theorem Fy{α:Type}{p:α->Bool}{l:List α}(h:l.findIdx? p=none):l.filter (fun x=> !p x)=l:=by
 rw[VF];intro x hx;have:=Mf.1 h x hx;simp[this]
theorem Fz{α:Type}{p:α->Bool}{l:List α}{i:Nat}(h:l.findIdx? p=some i):i<l.length/\(l.take (i+1)).filter (fun x=> !p x)=l.take i:=by
 obtain⟨hi,hp,a⟩:=tu.1 h;refine⟨hi,?_⟩;rw[gv,af hi,Oa];have b:(l.take i).filter (fun x=> !p x)=l.take i:=by
  rw[VF];intro x hx;obtain⟨j,hj,rfl⟩:=List.mem_take_iff_getElem.1 hx;have:=a j om;simpa using this
 rw[b];simp[hp]
theorem Hi:(Tryz.prog.info? 73).bind (·.zero)=some (.agg #[.int .i64 0,.int .i64 0,.int .i64 0]):=kF

theorem Pd{w0:World}{B:Nat}{A:Option Addr}{n c:Nat}{l:List Sw}(hlen:l.length=n)(hn:n<2147483648)(pB:n<=c){f:Nat}{a k:Array Value}(bU:av Tryz.prog f=true){p:Sw->Bool}
  (hf:∀w,rF A w0 w->∀x:Sw,Pure Tryz.prog f (a.toList++([x.val]:List Value)++k.toList).toArray w fun v _=>v= .bool (p x)) {R:Value->World->Prop}
  (hR:∀m w,rF A w0 w->ay w B 73 A m c 3 ((l.filter fun x=> !p x).map Sw.row)->R (.slice A m c) w):
  ∀(d i j:Nat)(cur:List Sw)(w:World),n - j=d->j<=n->i<=j->cur.length=n->ay w B 73 A n c 3 (cur.map Sw.row)->cur.take i=(l.take j).filter (fun x=> !p x)->cur.drop j=l.drop j->rF A w0 w->B<=w.heap.size->
   F.aK.L5 A n c f a k i j B w R:=by
 intro d;induction d with
 |zero=>
  intro i j cur w hd hj N z ho o I C b;have:j=n:=om;subst this;rw[cc (l:=l) om]at o;refine F.aK.L5.step ⟨fun h=>by omega,fun _=>⟨om,?_⟩⟩;have os:=ho.short (m:=i) om;rw[<-DO,o]at os;rw[cd];refine vA ij Hi (by simp[Value.cells,bk]) os N pB fun O o2 D k2=>⟨om,hR i O (C.trans ⟨D.size,k2⟩) o2⟩
 |succ d ih=>
  intro i j cur w hd hj N z ho o I C b;have P:j<l.length:=om;have q:j<cur.length:=om;have J:cur[j]=l[j]:=by
   have h1:(cur.drop j)[0]? =(l.drop j)[0]? :=by rw[I]
   rw[oj,oj]at h1;simpa[P,q]using h1
  have Q:=sc j;have e4:=sc i;have S:cur.drop (j+1)=l.drop (j+1):=by
   have:=ca (List.drop 1) I;simpa[SI]using this
  have r:l.take (j+1)=l.take j++[l[j]]:=by rw[gv,af P];rfl
  obtain⟨hb,ad,hA,e,_⟩:=ho.sl.at_ (fun _=>rfl) z q;refine F.aK.L5.step ⟨fun _=>⟨hb,ad,hA,_,_,_,e,?_⟩,fun h=>by omega⟩;refine cK 73 Hi b fun O fS D hlt=> ?_
  refine⟨_,_,b,rfl,fS,by simp[Value.cells],rfl,fun E G=> ?_⟩;have T:E.heap[w.heap.size]? =some (.cells (cur[j].row).toArray 73 (0,0)):=by
   have:=G.at_;simpa[setCells,Value.cells]using this
  have U:rF A w0 E:=rF.fresh G (C.trans (rF.low D)) C.1;have K:∀x,A=some x->x.block<w.heap.size:=fun x hx=>(ho.uN x hx).2
  have o3:ay E B 73 A n c 3 (cur.map Sw.row):=(ho.below D).other fun x hx=>G.rest _ (by have:=K x hx;show x.block≠w.heap.size;omega)
  refine⟨_,_,_,fy T,bU,pm (hf E U cur[j]) ?_⟩;rintro v V H rfl;have W:=U.trans (rF.low (A:=A) H);have X:=o3.below H;have y:B<=V.heap.size:=by have:=H.size;have:=G.size;omega
  refine⟨_,rfl,fun gV=> ?_,fun L=>⟨ir,?_⟩⟩
  ·have g:p l[j]=false:=by rw[<-J];exact gV
   obtain⟨g1,a2,Y,cs,g2,g3,g4,g5,g6⟩:=X.OP (i:=(i:Int)) om om (cur[j].row) ((cur[i]'om).row) (by rw[cd,ow,af om];rfl) rfl;refine⟨_,_,_,fy (ai T H),g1,a2,Y,cs,_,g2,g3,g4,g5,rfl,fun Z M=>⟨ir,ir,?_⟩⟩;have o5:=g6 Z M;rw[cd]at o5;have Pe:(a2.add ((i:Int).toNat*3)).block=a2.block:=by unfold Addr.add;split<;>rfl
   rw[Q,e4];refine ih (i+1) (j+1) (cur.set i cur[j]) Z om om om (by simp[z]) (by rw[IK];exact o5) ?_ ?_ (W.trans (rF.wrote M ⟨a2,Y,Pe.symm⟩)) (by rw[M.size];exact y)
   ·rw[gv,B2 om,List.take_set_of_le om,o,r,Oa,J];simp[g]
   ·rw[List.drop_set_of_lt om];exact S
  ·have g:p l[j]=true:=by rw[<-J];simpa using L
   rw[Q];refine ih i (j+1) cur V om om om z X ?_ S W y;rw[o,r,Oa];simp[g]
theorem Ju{w:World}{B:Nat}(hB:B<=w.heap.size){A:Option Addr}{n c:Nat}{l:List Sw}(ho:ay w B 73 A n c 3 (l.map Sw.row))(hn:n<2147483648){f:Nat}{a k:Array Value}(bU:av Tryz.prog f=true){p:Sw->Bool}
  (hf:∀w',rF A w w'->∀x:Sw,Pure Tryz.prog f (a.toList++([x.val]:List Value)++k.toList).toArray w' fun v _=>v= .bool (p x)):
  ba Tryz.prog 288 #[.slice A n c,.func (.func f) a k] B w fun v w'=>∃m,v= .slice A m c/\ay w' B 73 A m c 3 ((l.filter fun x=> !p x).map Sw.row)/\rF A w w':=by
 have hlen:l.length=n:=by have:=ho.len;simpa using this
 have e:=ho.jZ;refine F.aK.sV hB ?_;refine pm (F.aO.vc (AV ho.sl hlen hn bU (fun w' hb x _=>hf w' (rF.low hb) x) (R:=fun v _=>v= .int .i64 (fq p 0 l)) (fun _=>rfl) n 0 w rfl om (Below.refl _ _) rfl)) ?_;rintro v g b rfl;have key:=nN p l 0;cases hx:l.findIdx? p with
 |none=>
  rw[hx]at key;simp only at key;rw[key];refine⟨_,rfl,fun _=>⟨n,rfl,?_,rF.low b⟩,fun h=>absurd rfl h⟩;rw[Fy hx];exact ho.below b
 |some i=>
  rw[hx]at key;simp only[mC]at key;rw[key];obtain⟨r,d⟩:=Fz hx;have j:=sc i;refine⟨_,rfl,fun h=>by omega,fun _=>⟨ir,?_⟩⟩;rw[j];exact Pd (w0:=w) hlen hn e bU hf (fun m w' q o=>⟨m,rfl,o,q⟩) (n - (i+1)) i (i+1) l g rfl om om hlen (ho.below b) d.symm rfl (rF.low b) (ec hB b.size)
end Go.Proofs.YtmdphpnaipbfjaaGreatDoor.B
