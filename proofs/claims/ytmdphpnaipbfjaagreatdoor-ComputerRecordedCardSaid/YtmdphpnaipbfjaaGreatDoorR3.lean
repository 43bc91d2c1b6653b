/- Part 3 of the proofs that: The state of a record that was written and recovered is that of its events. -/
import Derived.Test.YtmdphpnaipbfjaaGreatDoorR2
import Derived.Test.YtmdphpnaipbfjaaGreatDoorProg
import Derived.Laws.MakeOwn
import Derived.RangeFuncNested
import Derived.RangeFuncBound
import Derived.RangeFuncCalls
import Derived.RangeFuncLeaves
import Derived.Shelf.Abstract
import Derived.Shelf.RegionOpen
import Derived.WalkKit
import Derived.OwnWalkIn
import Derived.TacticsInMore
import Derived.LoopNIn
import Derived.LoopIn
import Derived.Shelf.Strings.Builder1
import Derived.Shelf.Strings.Builder2
import Derived.Shelf.Small.Wraps
import Derived.Shelf.Strings.BuilderF
import Derived.Shelf.Strings.BuilderK
import Derived.Shelf.Strconv.Itoa0
import Derived.Shelf.Strconv.Itoa1
import Derived.Shelf.LaysM
import Derived.Shelf.Strconv.Itoa2
import Derived.Shelf.Strconv.Itoa3
import Derived.Shelf.Strconv.Itoa4
import Derived.Shelf.Strconv.ParseIntEmpty
import Derived.Shelf.Strconv.Clone
import Derived.Shelf.Strconv.SyntaxError
import Derived.Shelf.LaysC
import Derived.Shelf.Strconv.ToError
import Derived.Shelf.Strconv.Lower
import Derived.Shelf.Strconv.ParseUint10
import Derived.Shelf.Strconv.ParseUint10Empty
import Derived.Shelf.Strconv.ParseUint10Any
import Derived.Shelf.Strconv.ParseInt10
import Derived.Shelf.Strconv.RangeError
import Derived.Shelf.Strconv.ToErrorRange
import Derived.Shelf.Strconv.ParseUintEmpty
import Derived.Shelf.Strconv.ParseUint10b64
import Derived.Shelf.Strconv.ParseUint10b32
import Derived.Shelf.Strconv.ParseUint10b16
import Derived.Shelf.Strconv.ParseUint10b8
import Derived.Shelf.Strconv.ParseUint10At
import Derived.Shelf.Strconv.ParseInt10At64
import Derived.Shelf.Strconv.ParseInt10At32
import Derived.Shelf.Strconv.ParseInt10At16
import Derived.Shelf.Strconv.ParseInt10At8
import Derived.Shelf.Strconv.ParseInt10All
import Derived.Shelf.Strconv.ParseIntPublic10
import Derived.Ground.MpProg
import Derived.Shelf.Pu.ParseUintPublic10
import Derived.Shelf.Strings.Search1
import Derived.Shelf.Strings.Search2
import Derived.Shelf.Strings.Cut
import Derived.Shelf.Strings.Shaped
import Derived.Shelf.Strings.Prefix
import Derived.Shelf.Bits.Mul64
import Derived.Shelf.Strings.Repeat
set_option linter.unusedVariables false
set_option linter.unusedSimpArgs false
set_option maxRecDepth 100000
set_option maxHeartbeats 4000000
namespace Go.Proofs.YtmdphpnaipbfjaaGreatDoor.F
open Go Go.RowKit Go.Proofs Go.Proofs.YtmdphpnaipbfjaaGreatDoor.Vc
open Tryz
variable {A C D E G H J K A0 A1 A2 A3 A4 A5 A6 A7 A8 A9 C0 C1 C2 C3 C4 C5 C6 C7 C8 C9:O} {a b c d e f g i j l m n o a0 a1 a2 a3 a4 a5 a6 a7 a8 a9 b0 b1 b2 b3 b4 b5 b6 b7 b8 b9 c0 c1 c2 c3 c4 c5 c6 c7 c8 c9:Nat} {p q r s t u v x p0 p1 p2 p3 p4 p5 p6 p7 p8 p9 q0 q1 q2 q3 q4 q5 q6 q7 q8 q9:Int} {L M N N0 N1 N2 N3 N4 N5 N6 N7 N8 N9 T0 T1 T2 T3 T4 T5 T6 T7 T8 T9:ByteArray} {Q S:Bool} {B:Nat} {w:World} {R:Kt}
def bZ.L4(a:ByteArray)(b c:Int):=Lt 124 f124 4 [vT 0 a,vI 17 b,vI 18 c] []
def bZ.cx:Pm:=([((true,4),[0,17,18],[])],[])
theorem bZ.L4.step
  (h:(Br (p<q) ((0<=p/\p<(ByteArray.size L:Int))/\(Br (((bt L p):Int)<48) (R (.bool false) w) ((0<=p/\p<(ByteArray.size L:Int))/\(Br (((bt L p):Int)>57) (R (.bool false) w) (aN .i64 (p+1)/\(bZ.L4 L q (p+1) B w R)))))) (R (.bool true) w))):
  bZ.L4 L q p B w R:=
 lr bZ.cx func124 h
theorem bZ.vc
  (h:(Br (L=(⟨#[]⟩:ByteArray)) (R (.bool false) w) (Br (((ByteArray.size L:Int):Int)>1) ((0<=(0:Int)/\(0:Int)<(ByteArray.size L:Int))/\(Br (((bt L (0:Int)):Int)=48) (R (.bool false) w) (bZ.L4 L (ByteArray.size L:Int) (0:Int) w.heap.size w R))) (bZ.L4 L (ByteArray.size L:Int) (0:Int) w.heap.size w R)))):
  Pure P 124 #[vU L] w R:=
 pr bZ.cx func124 h

def oN.cx:Pm:=([],[])
theorem oN.vc
  (h:(Pure P 229 #[vU L,vU M] w fun j b=>∃c d e f g i a,j= .tuple #[vW c d e,vW f g i,I a]/\(Br (a≠0) (R (.tuple #[(vU ⟨#[]⟩),I a]) b) (Pure P 230 #[(.func (.func 231) #[vW c d e] #[]),vW f g i] b (qO fun l m n=>(R (.tuple #[vU l,I m]) n)))))):
  Pure P 181 #[vU L,vU M] w R:=
 pr oN.cx func181 h

def mE.cx:Pm:=([],[])
theorem mE.vc
  (h:(Pure P 124 #[vU L] w (Rb fun c a=>(Br (c=false) (R (.tuple #[vN,vN,I 1]) a) (Pure P 124 #[vU M] a (Rb fun d b=>(Br (d=false) (R (.tuple #[vN,vN,I 1]) b) (Pure P 268 #[vU L] b (Rs fun e f g i=>(Pure P 268 #[vU M] i (Rs fun j l m n=>(R (.tuple #[vW e f g,vW j l m,I 0]) n)))))))))))):
  Pure P 229 #[vU L,vU M] w R:=
 pr mE.cx func229 h

def gx.cx:Pm:=([],[(1,2,4)])
theorem gx.vc{d e:Array Value}
  (h:(av P a=true/\(Pure P a ((Array.toList d)++([vW A b c]:List Value)++(Array.toList e)).toArray w (Rs fun f g i j=>(Pure P 269 #[vW f g i] j (Rt fun l m=>(R (.tuple #[vU l,I 0]) m))))))):
  Pure P 230 #[(.func (.func a) d e),vW A b c] w R:=
 pr gx.cx func230 h

def bo.L1(a:O)(b c:Nat)(d:O)(e f:Nat):=Lt 231 f231 1 [vS 0 a b c,vS 1 d e f] []
def bo.L5(a b:Int):=Lt 231 f231 5 [(5,.v (.int .u64 a)),(7,.v (.int .u64 b))] []
def bo.cx:Pm:=([((true,1),[0,1],[]),((true,5),[5,7],[])],[])
theorem bo.L1.step
  (h:(Br ((a:Int)>0) (Pure P 270 #[vW C c d] w fun r s=>∃f g,r= .tuple #[.int .u64 f,.bool g]/\(Pure P 270 #[vW A a b] s fun t e=>∃i j,t= .tuple #[.int .u64 i,.bool j]/\(Bb g (Bb j (bo.L5 f i B e R) (Pure P 272 #[vW C c d,vW A a b] e fun u v=>∃x y z l m n,u= .tuple #[vW x y z,vW l m n]/\(bo.L1 A a b l m n B v R))) (Pure P 272 #[vW C c d,vW A a b] e fun D E=>∃G H J o p q,D= .tuple #[vW G H J,vW o p q]/\(bo.L1 A a b o p q B E R))))) (R (vW C c d) w))):
  bo.L1 C c d A a b B w R:=
 lr bo.cx func231 h
theorem bo.L5.step
  (h:(Br (p>0) ((0<=q/\0<p)/\(∀a,Ext B [] w a->(bo.L5 p (q % p) B a R))) (Pure P 271 #[.int .u64 q] w (Rs fun b c d e=>(R (vW b c d) e))))):
  bo.L5 q p B w R:=
 lr bo.cx func231 h
theorem bo.vc
  (h:(bo.L1 A a b C c d w.heap.size w R)):
  Pure P 231 #[vW A a b,vW C c d] w R:=
 pr bo.cx func231 h

def dy.L2(a:ByteArray)(b:O)(c d:Nat):=Lt 268 f268 2 [vT 0 a,vS 3 b c d] []
def dy.cx:Pm:=([((true,2),[0,3],[])],[(5,3,2),(5,4,2)])
theorem dy.L2.step
  (h:(Br (((ByteArray.size L:Int):Int)>0) (aN .i64 ((ByteArray.size L:Int) - (9:Int))/\((0<=(if(0:Int)>((ByteArray.size L:Int) - (9:Int))then(0:Int)else((ByteArray.size L:Int) - (9:Int)))/\(if(0:Int)>((ByteArray.size L:Int) - (9:Int))then(0:Int)else((ByteArray.size L:Int) - (9:Int)))<=(ByteArray.size L:Int))/\(Pure P 297 #[(vU (ByteArray.extract L ((if(0:Int)>((ByteArray.size L:Int) - (9:Int))then(0:Int)else((ByteArray.size L:Int) - (9:Int)))).toNat (ByteArray.size L))),I 10,I 32] w fun d e=>∃(c:Int)(f:Value),d= .tuple #[.int .u64 c,f]/\(aN .u32 (c)/\(ae P (Instr.buildSlice 314 1 #[(0,(.int .u32 (c)))]) B [] e (Rs fun g i j l=>(ae P (Builtin.append_ #[314,314] 314 #[vW A a b,vW g i j]) B [] l (Rs fun m n o p=>((0<=(if(0:Int)>((ByteArray.size L:Int) - (9:Int))then(0:Int)else((ByteArray.size L:Int) - (9:Int)))/\(if(0:Int)>((ByteArray.size L:Int) - (9:Int))then(0:Int)else((ByteArray.size L:Int) - (9:Int)))<=(ByteArray.size L:Int))/\(dy.L2 (ByteArray.extract L 0 ((if(0:Int)>((ByteArray.size L:Int) - (9:Int))then(0:Int)else((ByteArray.size L:Int) - (9:Int)))).toNat) m n o B p R)))))))))) (Pure P 298 #[vW A a b] w (Rs fun q r s t=>(R (vW q r s) t))))):
  dy.L2 L A a b B w R:=
 lr dy.cx func268 h
theorem dy.vc
  (h:(dy.L2 L none 0 0 w.heap.size w R)):
  Pure P 268 #[vU L] w R:=
 pr dy.cx func268 h

def mF.cx:Pm:=([],[])
theorem mF.vc
  (h:(Br ((a:Int)=0) (R (.tuple #[(.int .u64 (0:Int)),.bool true]) w) (Br ((a:Int)=1) (Ix (0:Int) a A fun g=>(∃e,aa w (g.add (((0:Int)).toNat*1)) [.int .u32 e]/\(aN .u64 (e)/\(R (.tuple #[(.int .u64 (e)),.bool true]) w)))) (Br ((a:Int)=2) (Ix (0:Int) a A fun i=>(∃d,aa w (i.add (((0:Int)).toNat*1)) [.int .u32 d]/\(aN .u64 (d)/\(Ix (1:Int) a A fun j=>(∃c,aa w (j.add (((1:Int)).toNat*1)) [.int .u32 c]/\(aN .u64 (c)/\(aN .u64 ((1000000000:Int)*(c))/\(aN .u64 ((d)+((1000000000:Int)*(c)))/\(∀f,Ext w.heap.size [] w f->(R (.tuple #[(.int .u64 ((d)+((1000000000:Int)*(c)))),.bool true]) f)))))))))) (R (.tuple #[(.int .u64 (0:Int)),.bool false]) w))))):
  Pure P 270 #[vW A a b] w R:=
 pr mF.cx func270 h

def iY.cx:Pm:=([],[(1,6,2)])
theorem iY.vc{k:Int}{w:World}{R:Kt}
  (h:((0<=k/\0<(1000000000:Int))/\(aN .u32 ((k % (1000000000:Int)))/\((0<=k/\0<(1000000000:Int)/\aN .u64 k)/\(aN .u32 ((k / (1000000000:Int)))/\(ae P (Instr.buildSlice 314 2 #[(0,(.int .u32 ((k % (1000000000:Int))))),(1,(.int .u32 ((k / (1000000000:Int)))))]) w.heap.size [] w (Rs fun A1 n1 c1 y=>(Pure P 298 #[(.slice A1 n1 c1)] y (Rs fun A4 n4 c4 z=>(R (.slice A4 n4 c4) z)))))))))):
  Pure P 271 #[(.int .u64 k)] w R:=
 pr iY.cx Tryz.func271 h

def ab.J7(a:O)(b c:Nat)(d:O)(e f:Nat):=Jt 272 f272 7 [vS 0 a b c,vS 1 d e f] []
def ab.J13(a:O)(b c:Nat)(d:O)(e f:Nat)(g:O)(i j:Nat):=Jt 272 f272 13 [vS 10 a b c,vS 11 d e f,vS 12 g i j] []
def ab.uZ(a:O)(b c:Nat)(d:O)(e f:Nat)(g:O)(i j:Nat)(l:Int)(m:O)(n o:Nat)(p:Int):=Lt 272 f272 16 [vS 10 a b c,vS 11 d e f,vS 12 g i j,vI 13 l,vS 14 m n o,vI 15 p] []
def ab.CJ(a:O)(b c:Nat)(d:O)(e f:Nat)(g:O)(i j:Nat)(l:Int)(m:O)(n o:Nat)(p q r:Int):=Lt 272 f272 20 [vS 10 a b c,vS 11 d e f,vS 12 g i j,vI 13 l,vS 14 m n o,vI 15 p,(17,.v (.int .u64 q)),(18,.v (.int .u64 r))] []
def ab.CL(a:O)(b c:Nat)(d:O)(e f:Nat)(g:O)(i j:Nat)(l:Int)(m:O)(n o:Nat)(p q r s t u:Int):=Lt 272 f272 26 [vS 10 a b c,vS 11 d e f,vS 12 g i j,vI 13 l,vS 14 m n o,vI 15 p,(17,.v (.int .u64 q)),vI 19 r,vI 20 s,vI 180 t,vI 181 u] []
def ab.UF(a:O)(b c:Nat)(d:O)(e f:Nat)(g:O)(i j:Nat)(l:Int)(m:O)(n o:Nat)(p q r s t u:Int):=Lt 272 f272 42 [vS 10 a b c,vS 11 d e f,vS 12 g i j,vI 13 l,vS 14 m n o,vI 15 p,(17,.v (.int .u64 q)),vI 24 r,(25,.v (.int .u64 s)),vI 235 t,vI 236 u] []
def ab.Yr(a:O)(b c:Nat)(d:O)(e f:Nat)(g:O)(i j:Nat)(l:Int)(m:O)(n o:Nat)(p q r:Int):=Jt 272 f272 49 [vS 10 a b c,vS 11 d e f,vS 12 g i j,vI 13 l,vS 14 m n o,vI 15 p,(17,.v (.int .u64 q)),vI 24 r] []
def ab.cx:Pm:=([((true,16),[10,11,12,13,14,15],[]),((true,20),[10,11,12,13,14,15,17,18],[]),((true,26),[10,11,12,13,14,15,17,19,20,180,181],[]),((true,42),[10,11,12,13,14,15,17,24,25,235,236],[]),((false,7),[0,1],[]),((false,13),[10,11,12],[]),((false,49),[10,11,12,13,14,15,17,24],[])],[(10,3,2),(10,4,2),(12,1,2),(12,2,2),(14,4,2),(19,9999,3)])
theorem ab.J7.step
  (h:(Br ((a:Int)=1) (Ix (0:Int) a A fun z=>(∃j,aa w (z.add (((0:Int)).toNat*1)) [.int .u32 j]/\(aN .u64 (j)/\(Pure P 303 #[vW C b c,(.int .u64 (j))] w fun D E=>∃m n o p q r,D= .tuple #[vW m n o,vW p q r]/\(R (.tuple #[vW m n o,vW p q r]) E))))) (aN .i64 ((a:Int) - (1:Int))/\(Ix ((a:Int) - (1:Int)) a A fun G=>(∃e,aa w (G.add ((((a:Int) - (1:Int))).toNat*1)) [.int .u32 e]/\(aN .u64 (e)/\(aN .u64 ((e)+1)/\((0<=(1000000000:Int)/\0<((e)+1)/\aN .u64 (1000000000:Int))/\(Pure P 271 #[(.int .u64 ((1000000000:Int) / ((e)+1)))] w (Rs fun f g i H=>(Pure P 304 #[vW C b c,vW f g i] H (Rs fun J K L M=>(ae P (Instr.buildSlice 314 1 #[(0,(.int .u32 (0:Int)))]) B [] M (Rs fun N O Q S=>(ae P (Builtin.append_ #[314,314] 314 #[vW J K L,vW N O Q]) B [] S (Rs fun s l t T=>(Pure P 304 #[vW A a d,vW f g i] T (Rs fun u v x y=>(Br ((l:Int)=(b:Int)) (ae P (Instr.buildSlice 314 1 #[(0,(.int .u32 (0:Int)))]) B [] y (Rs fun U V X Y=>(ae P (Builtin.append_ #[314,314] 314 #[vW s l t,vW U V X]) B [] Y (Rs fun Z d0 d1 d2=>(ab.J13 f g i Z d0 d1 u v x B d2 R))))) (ab.J13 f g i s l t u v x B y R)))))))))))))))))))):
  ab.J7 C b c A a d B w R:=
 jr ab.cx func272 h
theorem ab.J13.step
  (h:(aN .i64 ((b:Int) - (a:Int))/\(ae P (Instr.makeSlice 314 (I ((b:Int) - (a:Int))) (I ((b:Int) - (a:Int)))) B [] w (Rs fun i g j l=>(aN .i64 ((g:Int) - (1:Int))/\(ab.uZ A c d C b e D a f (a:Int) i g j ((g:Int) - (1:Int)) B l R)))))):
  ab.J13 A c d C b e D a f B w R:=
 jr ab.cx func272 h
theorem ab.uZ.step
  (h:(Br (q≥(0:Int)) (aN .i64 (q+p)/\(Ix (q+p) a A fun x=>(∃j,aa w (x.add (((q+p)).toNat*1)) [.int .u32 j]/\(aN .u64 (j)/\(aN .u64 ((j)*(1000000000:Int))/\(aN .i64 (q+p)/\(aN .i64 ((q+p) - (1:Int))/\(Ix ((q+p) - (1:Int)) a A fun y=>(∃l,aa w (y.add ((((q+p) - (1:Int))).toNat*1)) [.int .u32 l]/\(aN .u64 (l)/\(aN .u64 (((j)*(1000000000:Int))+(l))/\(∀m,Ext B [] w m->(aN .i64 (p - (1:Int))/\(Ix (p - (1:Int)) c C fun z=>(∃n,aa m (z.add (((p - (1:Int))).toNat*1)) [.int .u32 n]/\(aN .u64 (n)/\((0<=(((j)*(1000000000:Int))+(l))/\0<(n)/\aN .u64 (((j)*(1000000000:Int))+(l)))/\(aN .i64 (p - (1:Int))/\(Ix (p - (1:Int)) c C fun G=>(∃o,aa m (G.add (((p - (1:Int))).toNat*1)) [.int .u32 o]/\(aN .u64 (o)/\((0<=(((j)*(1000000000:Int))+(l))/\0<(o))/\(∀r,Ext B [] m r->(ab.CJ D d e A a b C c i p E f g q ((((j)*(1000000000:Int))+(l)) / (n)) ((((j)*(1000000000:Int))+(l)) % (o)) B r R)))))))))))))))))))))))) (Pure P 270 #[vW D d e] w fun H J=>∃s K,H= .tuple #[.int .u64 s,.bool K]/\((0<=p/\p<=(b:Int))/\(Pure P 298 #[(vW A ((p).toNat) b)] J (Rs fun L M N O=>(Pure P 303 #[vW L M N,.int .u64 s] O fun Q S=>∃t u v T U V,Q= .tuple #[vW t u v,vW T U V]/\(Pure P 298 #[vW E f g] S (Rs fun X Y Z d0=>(R (.tuple #[vW X Y Z,vW t u v]) d0)))))))))):
  ab.uZ D d e A a b C c i p E f g q B w R:=
 lr ab.cx func272 h
theorem ab.CJ.step
  (h:(Br (q≥(1000000000:Int)) (aN .u64 (q - (1:Int))/\(aN .i64 (p - (1:Int))/\(Ix (p - (1:Int)) a A fun v=>(∀m,Ext B [] w m->(∃j,aa m (v.add (((p - (1:Int))).toNat*1)) [.int .u32 j]/\(aN .u64 (j)/\(aN .u64 (s+(j))/\(Br (((s+(j)):Int)≥(1000000000:Int)) (ab.CL D c d C b e A a f p E g i r (q - (1:Int)) (0:Int) (0:Int) p (0:Int) B m R) (ab.CJ D c d C b e A a f p E g i r (q - (1:Int)) (s+(j)) B m R))))))))) (aN .i64 (p - (2:Int))/\(Ix (p - (2:Int)) a A fun x=>(∃n,aa w (x.add (((p - (2:Int))).toNat*1)) [.int .u32 n]/\(aN .u64 (n)/\(aN .u64 (q*(n))/\(aN .u64 (s*(1000000000:Int))/\(aN .i64 (r+p)/\(aN .i64 ((r+p) - (2:Int))/\(Ix ((r+p) - (2:Int)) b C fun y=>(∃o,aa w (y.add ((((r+p) - (2:Int))).toNat*1)) [.int .u32 o]/\(aN .u64 (o)/\(aN .u64 ((s*(1000000000:Int))+(o))/\(Br (((q*(n)):Int)>((s*(1000000000:Int))+(o))) (aN .u64 (q - (1:Int))/\(aN .i64 (p - (1:Int))/\(Ix (p - (1:Int)) a A fun z=>(∀t,Ext B [] w t->(∃l,aa t (z.add (((p - (1:Int))).toNat*1)) [.int .u32 l]/\(aN .u64 (l)/\(aN .u64 (s+(l))/\(Br (((s+(l)):Int)≥(1000000000:Int)) (ab.CL D c d C b e A a f p E g i r (q - (1:Int)) (0:Int) (0:Int) p (0:Int) B t R) (ab.CJ D c d C b e A a f p E g i r (q - (1:Int)) (s+(l)) B t R))))))))) (∀u,Ext B [] w u->(ab.CL D c d C b e A a f p E g i r q (0:Int) (0:Int) p (0:Int) B u R))))))))))))))))):
  ab.CJ D c d C b e A a f p E g i r q s B w R:=
 lr ab.cx func272 h
theorem ab.CL.step{Gi U Z Gj:O}{Gk Gl V Gm CN Gn Gp Gq B:Nat}{W k z F T Nu y:Int}{w:World}{R:Kt}
  (h:(Br ((y:Int)<Nu) (aN .i64 (z)/\(Ix y CN Z fun a86=>(∃(i87:Int),aa w (a86.add ((y).toNat*1)) [(.int .u32 i87)]/\(aN .i64 (i87)/\(aN .i64 ((z)*(i87))/\(aN .i64 (((z)*(i87))+F)/\((0<=(((z)*(i87))+F)/\0<(1000000000:Int)/\aN .i64 (((z)*(i87))+F))/\(aN .i64 (y+k)/\(Ix (y+k) V U fun a88=>(∃(i89:Int),aa w (a88.add (((y+k)).toNat*1)) [(.int .u32 i89)]/\(aN .i64 (i89)/\((0<=(((z)*(i87))+F)/\0<(1000000000:Int))/\(aN .i64 ((i89) - ((((z)*(i87))+F) % (1000000000:Int)))/\(aN .i64 (((i89) - ((((z)*(i87))+F) % (1000000000:Int))) - T)/\(Br (((((i89) - ((((z)*(i87))+F) % (1000000000:Int))) - T):Int)<(0:Int)) (aN .i64 ((((i89) - ((((z)*(i87))+F) % (1000000000:Int))) - T)+(1000000000:Int))/\(aN .i64 (y+k)/\(aN .u32 (((((i89) - ((((z)*(i87))+F) % (1000000000:Int))) - T)+(1000000000:Int)))/\(Ix (y+k) V U fun I=>(∃(X:List Value)(t92:Nat),B<=(I.add (((y+k)).toNat*1)).block/\(I.add (((y+k)).toNat*1)).spot=none/\w.heap[(I.add (((y+k)).toNat*1)).block]? =some (.cells X.toArray t92 (0,0))/\(I.add (((y+k)).toNat*1)).off+1<=X.length/\hasType t92 []=false/\∀w93,aG w w93 (I.add (((y+k)).toNat*1)).block t92 (setCells X (I.add (((y+k)).toNat*1)).off [(.int .u32 (((((i89) - ((((z)*(i87))+F) % (1000000000:Int))) - T)+(1000000000:Int))))])->(aN .i64 (y+(1:Int))/\(ab.CL Gi Gk Gl U V Gm Z CN Gn W Gj Gp Gq k z ((((z)*(i87))+F) / (1000000000:Int)) (1:Int) Nu (y+(1:Int)) B w93 R))))))) (aN .i64 (y+k)/\(aN .u32 ((((i89) - ((((z)*(i87))+F) % (1000000000:Int))) - T))/\(Ix (y+k) V U fun P=>(∃(Y:List Value)(t96:Nat),B<=(P.add (((y+k)).toNat*1)).block/\(P.add (((y+k)).toNat*1)).spot=none/\w.heap[(P.add (((y+k)).toNat*1)).block]? =some (.cells Y.toArray t96 (0,0))/\(P.add (((y+k)).toNat*1)).off+1<=Y.length/\hasType t96 []=false/\∀w97,aG w w97 (P.add (((y+k)).toNat*1)).block t96 (setCells Y (P.add (((y+k)).toNat*1)).off [(.int .u32 ((((i89) - ((((z)*(i87))+F) % (1000000000:Int))) - T)))])->(aN .i64 (y+(1:Int))/\(ab.CL Gi Gk Gl U V Gm Z CN Gn W Gj Gp Gq k z ((((z)*(i87))+F) / (1000000000:Int)) (0:Int) Nu (y+(1:Int)) B w97 R))))))))))))))))))))) (aN .i64 (k+W)/\(Ix (k+W) V U fun a98=>(∃(i99:Int),aa w (a98.add (((k+W)).toNat*1)) [(.int .u32 i99)]/\(aN .i64 (i99)/\(aN .i64 ((i99) - F)/\(aN .i64 (((i99) - F) - T)/\(Br (((((i99) - F) - T):Int)<(0:Int)) (aN .u64 (z - (1:Int))/\(ab.UF Gi Gk Gl U V Gm Z CN Gn W Gj Gp Gq k (z - (1:Int)) (((i99) - F) - T) (0:Int) W (0:Int) B w R)) (ab.Yr Gi Gk Gl U V Gm Z CN Gn W Gj Gp Gq k z (((i99) - F) - T) B w R)))))))))):
  ab.CL Gi Gk Gl U V Gm Z CN Gn W Gj Gp Gq k z F T Nu y B w R:=
 lr ab.cx Tryz.func272 h
theorem ab.UF.step{Y P V Z:O}{Gk Gl T Gm W Gn Gp Gq B:Nat}{zK y oO X z Rw k:Int}{w:World}{R:Kt}
  (h:(Br ((k:Int)<Rw) (aN .i64 (k+y)/\(Ix (k+y) T P fun aiG=>(∃(i101:Int),aa w (aiG.add (((k+y)).toNat*1)) [(.int .u32 i101)]/\(aN .u64 (i101)/\(Ix k W V fun aiH=>(∃(i103:Int),aa w (aiH.add ((k).toNat*1)) [(.int .u32 i103)]/\(aN .u64 (i103)/\(aN .u64 ((i101)+(i103))/\(aN .u64 (z+((i101)+(i103)))/\(aN .i64 (k+y)/\((0<=(z+((i101)+(i103)))/\0<(1000000000:Int))/\(aN .u32 (((z+((i101)+(i103))) % (1000000000:Int)))/\(Ix (k+y) T P fun I=>(∀F,Ext B [] w F->(∃(Rx:List Value)(t107:Nat),B<=(I.add (((k+y)).toNat*1)).block/\(I.add (((k+y)).toNat*1)).spot=none/\F.heap[(I.add (((k+y)).toNat*1)).block]? =some (.cells Rx.toArray t107 (0,0))/\(I.add (((k+y)).toNat*1)).off+1<=Rx.length/\hasType t107 []=false/\∀U,aG F U (I.add (((k+y)).toNat*1)).block t107 (setCells Rx (I.add (((k+y)).toNat*1)).off [(.int .u32 (((z+((i101)+(i103))) % (1000000000:Int))))])->((0<=(z+((i101)+(i103)))/\0<(1000000000:Int)/\aN .u64 (z+((i101)+(i103))))/\(aN .i64 (k+(1:Int))/\(ab.UF Y Gk Gl P T Gm V W Gn zK Z Gp Gq y oO X ((z+((i101)+(i103))) / (1000000000:Int)) Rw (k+(1:Int)) B U R)))))))))))))))))) (aN .i64 (z)/\(aN .i64 (X+(z))/\(ab.Yr Y Gk Gl P T Gm V W Gn zK Z Gp Gq y oO (X+(z)) B w R))))):
  ab.UF Y Gk Gl P T Gm V W Gn zK Z Gp Gq y oO X z Rw k B w R:=
 lr ab.cx Tryz.func272 h
theorem ab.Yr.step
  (h:(aN .i64 (p+q)/\(aN .u32 ((if(0:Int)>r then(0:Int)else r))/\(Ix (p+q) a A fun j=>(∃(m:List Value)(n:Nat),B<=(j.add (((p+q)).toNat*1)).block/\(j.add (((p+q)).toNat*1)).spot=none/\w.heap[(j.add (((p+q)).toNat*1)).block]? =some (.cells m.toArray n (0,0))/\(j.add (((p+q)).toNat*1)).off+1<=m.length/\hasType n []=false/\∀o,aG w o (j.add (((p+q)).toNat*1)).block n (setCells m (j.add (((p+q)).toNat*1)).off [(.int .u32 ((if(0:Int)>r then(0:Int)else r)))])->(aN .u32 (s)/\(Ix p b C fun l=>(∃(t:List Value)(u:Nat),B<=(l.add ((p).toNat*1)).block/\(l.add ((p).toNat*1)).spot=none/\o.heap[(l.add ((p).toNat*1)).block]? =some (.cells t.toArray u (0,0))/\(l.add ((p).toNat*1)).off+1<=t.length/\hasType u []=false/\∀v,aG o v (l.add ((p).toNat*1)).block u (setCells t (l.add ((p).toNat*1)).off [(.int .u32 (s))])->(aN .i64 (p - (1:Int))/\(ab.uZ D c d A a e E f g q C b i (p - (1:Int)) B v R)))))))))):
  ab.Yr D c d A a e E f g q C b i p s r B w R:=
 jr ab.cx func272 h
theorem ab.vc
  (h:(Pure P 302 #[vW A a b,vW C c d] w (Ri fun n i=>(Br (n<0) (R (.tuple #[vN,vW A a b]) i) (Pure P 270 #[vW A a b] i fun o p=>∃e j,o= .tuple #[.int .u64 e,.bool j]/\(Pure P 270 #[vW C c d] p fun q g=>∃f l,q= .tuple #[.int .u64 f,.bool l]/\(Bb j (Bb l ((0<=e/\0<f/\aN .u64 e)/\((0<=e/\0<f)/\(∀m,Ext w.heap.size [] g m->(Pure P 271 #[(.int .u64 (e / f))] m (Rs fun r s t u=>(Pure P 271 #[(.int .u64 (e % f))] u (Rs fun v x y z=>(R (.tuple #[vW r s t,vW v x y]) z)))))))) (ab.J7 A a b C c d w.heap.size g R)) (ab.J7 A a b C c d w.heap.size g R)))))))):
  Pure P 272 #[vW A a b,vW C c d] w R:=
 pr ab.cx func272 h

def cS.L1(a:O)(b c:Nat):=Lt 298 f298 1 [vS 0 a b c] []
def cS.cx:Pm:=([((true,1),[0],[])],[])
theorem cS.L1.step
  (h:(Br ((a:Int)>0) (aN .i64 ((a:Int) - (1:Int))/\(Ix ((a:Int) - (1:Int)) a A fun d=>(∃c,aa w (d.add ((((a:Int) - (1:Int))).toNat*1)) [.int .u32 c]/\(Br (c=0) (aN .i64 ((a:Int) - (1:Int))/\((0<=((a:Int) - (1:Int))/\((a:Int) - (1:Int))<=(b:Int))/\(cS.L1 A ((((a:Int) - (1:Int))).toNat) b B w R))) (R (vW A a b) w))))) (R (vW A a b) w))):
  cS.L1 A a b B w R:=
 lr cS.cx func298 h
theorem cS.vc
  (h:(cS.L1 A a b w.heap.size w R)):
  Pure P 298 #[vW A a b] w R:=
 pr cS.cx func298 h

def bV.L4(a:O)(b c:Nat)(d:O)(e f:Nat)(g:Int):=Lt 302 f302 4 [vS 0 a b c,vS 1 d e f,vI 5 g] []
def bV.cx:Pm:=([((true,4),[0,1,5],[])],[(7,9999,3)])
theorem bV.L4.step
  (h:(Br (p≥(0:Int)) (Ix p a A fun n=>(∃f,aa w (n.add ((p).toNat*1)) [.int .u32 f]/\(Ix p b C fun o=>(∃g,aa w (o.add ((p).toNat*1)) [.int .u32 g]/\(Br (f≠g) (∀e,Ext B [] w e->(Ix p a A fun q=>(∃i,aa e (q.add ((p).toNat*1)) [.int .u32 i]/\(Ix p b C fun r=>(∃j,aa e (r.add ((p).toNat*1)) [.int .u32 j]/\(∀l,Ext B [] e l->(Pure P 323 #[.int .u32 i,.int .u32 j] l (Ri fun s t=>(R (I s) t))))))))) (aN .i64 (p - (1:Int))/\(∀m,Ext B [] w m->(bV.L4 A a c C b d (p - (1:Int)) B m R)))))))) (R (I 0) w))):
  bV.L4 A a c C b d p B w R:=
 lr bV.cx func302 h
theorem bV.vc
  (h:(Br ((a:Int)≠(b:Int)) (Pure P 208 #[(I (a:Int)),(I (b:Int))] w (Ri fun e f=>(R (I e) f))) (aN .i64 ((a:Int) - (1:Int))/\(bV.L4 A a c C b d ((a:Int) - (1:Int)) w.heap.size w R)))):
  Pure P 302 #[vW A a c,vW C b d] w R:=
 pr bV.cx func302 h

def dA.L4(a:O)(b c:Nat)(d:Int)(e:O)(f g:Nat)(i j:Int):=Lt 303 f303 4 [vS 0 a b c,(1,.v (.int .u64 d)),vS 6 e f g,(7,.v (.int .u64 i)),vI 8 j] []
def dA.cx:Pm:=([((true,4),[0,1,6,7,8],[])],[(1,2,2)])
theorem dA.L4.step
  (h:(Br (p≥(0:Int)) (aN .u64 (q*(1000000000:Int))/\(Ix p b C fun l=>(∃e,aa w (l.add ((p).toNat*1)) [.int .u32 e]/\(aN .u64 (e)/\(aN .u64 ((q*(1000000000:Int))+(e))/\((0<=((q*(1000000000:Int))+(e))/\0<r/\aN .u64 ((q*(1000000000:Int))+(e)))/\(aN .u32 ((((q*(1000000000:Int))+(e)) / r))/\(Ix p a A fun f=>(∃(g:List Value)(i:Nat),B<=(f.add ((p).toNat*1)).block/\(f.add ((p).toNat*1)).spot=none/\w.heap[(f.add ((p).toNat*1)).block]? =some (.cells g.toArray i (0,0))/\(f.add ((p).toNat*1)).off+1<=g.length/\hasType i []=false/\∀j,aG w j (f.add ((p).toNat*1)).block i (setCells g (f.add ((p).toNat*1)).off [(.int .u32 ((((q*(1000000000:Int))+(e)) / r)))])->((0<=((q*(1000000000:Int))+(e))/\0<r)/\(aN .i64 (p - (1:Int))/\(dA.L4 C b d r A a c (((q*(1000000000:Int))+(e)) % r) (p - (1:Int)) B j R)))))))))))) (Pure P 298 #[vW A a c] w (Rs fun m n o s=>(Pure P 271 #[.int .u64 q] s (Rs fun t u v x=>(R (.tuple #[vW m n o,vW t u v]) x))))))):
  dA.L4 C b d r A a c q p B w R:=
 lr dA.cx func303 h
theorem dA.vc
  (h:(ae P (Instr.makeSlice 314 (I (a:Int)) (I (a:Int))) w.heap.size [] w (Rs fun c d e f=>(aN .i64 ((a:Int) - (1:Int))/\(dA.L4 A a b p c d e (0:Int) ((a:Int) - (1:Int)) w.heap.size f R))))):
  Pure P 303 #[vW A a b,.int .u64 p] w R:=
 pr dA.cx func303 h

def bc.L3(a:O)(b c:Nat)(d:O)(e f:Nat)(g:O)(i j:Nat)(l m:Int):=Lt 304 f304 3 [vS 1 a b c,vS 5 d e f,vS 17 g i j,vI 18 l,vI 19 m] []
def bc.L7(a:O)(b c:Nat)(d:O)(e f:Nat)(g i j:Int)(l:O)(m n:Nat)(o p:Int)(q:O)(r s:Nat)(t u:Int):=Lt 304 f304 7 [vS 1 a b c,vS 5 d e f,vI 6 g,(7,.v (.int .u32 i)),(8,.v (.int .u64 j)),vS 17 l m n,vI 18 o,vI 19 p,vS 24 q r s,vI 25 t,vI 26 u] []
def bc.cx:Pm:=([((true,3),[1,5,17,18,19],[]),((true,7),[1,5,6,7,8,17,18,19,24,25,26],[])],[(1,5,2)])
theorem bc.L3.step
  (h:(Br (p<q) (Ix p e D fun i=>(∃g,aa w (i.add ((p).toNat*1)) [.int .u32 g]/\(bc.L7 A a b C c d p g (0:Int) D e f q p A a b (a:Int) (0:Int) B w R))) (Pure P 298 #[vW C c d] w (Rs fun j l m n=>(R (vW j l m) n))))):
  bc.L3 A a b C c d D e f q p B w R:=
 lr bc.cx func304 h
theorem bc.L7.step{U UG V W:O}{P X Oy Y Z aam aan adV B:Nat}{k I T aao pn xL y:Int}{w:World}{R:Kt}
  (h:(Br ((y:Int)<xL) (Ix y aan W fun a9=>(∃(i10:Int),aa w (a9.add ((y).toNat*1)) [(.int .u32 i10)]/\(aN .u64 (I)/\(aN .u64 (i10)/\(aN .u64 ((I)*(i10))/\(aN .i64 (k+y)/\(Ix (k+y) Oy UG fun a11=>(∃(i12:Int),aa w (a11.add (((k+y)).toNat*1)) [(.int .u32 i12)]/\(aN .u64 (i12)/\(aN .u64 (((I)*(i10))+(i12))/\(aN .u64 (T+(((I)*(i10))+(i12)))/\(aN .i64 (k+y)/\((0<=(T+(((I)*(i10))+(i12)))/\0<(1000000000:Int))/\(aN .u32 (((T+(((I)*(i10))+(i12))) % (1000000000:Int)))/\(Ix (k+y) Oy UG fun z=>(∃(aap:List Value)(t15:Nat),B<=(z.add (((k+y)).toNat*1)).block/\(z.add (((k+y)).toNat*1)).spot=none/\w.heap[(z.add (((k+y)).toNat*1)).block]? =some (.cells aap.toArray t15 (0,0))/\(z.add (((k+y)).toNat*1)).off+1<=aap.length/\hasType t15 []=false/\∀xi,aG w xi (z.add (((k+y)).toNat*1)).block t15 (setCells aap (z.add (((k+y)).toNat*1)).off [(.int .u32 (((T+(((I)*(i10))+(i12))) % (1000000000:Int))))])->((0<=(T+(((I)*(i10))+(i12)))/\0<(1000000000:Int)/\aN .u64 (T+(((I)*(i10))+(i12))))/\(aN .i64 (y+(1:Int))/\(bc.L7 U P X UG Oy Y k I ((T+(((I)*(i10))+(i12))) / (1000000000:Int)) V Z aam aao pn W aan adV xL (y+(1:Int)) B xi R))))))))))))))))))) (aN .i64 (k+(P:Int))/\(aN .u32 (T)/\(Ix (k+(P:Int)) Oy UG fun F=>(∃(aaq:List Value)(t19:Nat),B<=(F.add (((k+(P:Int))).toNat*1)).block/\(F.add (((k+(P:Int))).toNat*1)).spot=none/\w.heap[(F.add (((k+(P:Int))).toNat*1)).block]? =some (.cells aaq.toArray t19 (0,0))/\(F.add (((k+(P:Int))).toNat*1)).off+1<=aaq.length/\hasType t19 []=false/\∀zL,aG w zL (F.add (((k+(P:Int))).toNat*1)).block t19 (setCells aaq (F.add (((k+(P:Int))).toNat*1)).off [(.int .u32 (T))])->(aN .i64 (pn+(1:Int))/\(bc.L3 U P X UG Oy Y V Z aam aao (pn+(1:Int)) B zL R)))))))):
  bc.L7 U P X UG Oy Y k I T V Z aam aao pn W aan adV xL y B w R:=
 lr bc.cx Tryz.func304 h
theorem bc.vc
  (h:(aN .i64 ((a:Int)+(b:Int))/\(ae P (Instr.makeSlice 314 (I ((a:Int)+(b:Int))) (I ((a:Int)+(b:Int)))) w.heap.size [] w (Rs fun e f g i=>(bc.L3 C b d e f g A a c (a:Int) (0:Int) w.heap.size i R))))):
  Pure P 304 #[vW A a c,vW C b d] w R:=
 pr bc.cx func304 h

def jR.cx:Pm:=([],[])
theorem jR.vc
  (h:(Pure P 229 #[vU L,vU M] w fun j b=>∃c d e f g i a,j= .tuple #[vW c d e,vW f g i,I a]/\(Br (a≠0) (R (.tuple #[(vU ⟨#[]⟩),I a]) b) (Pure P 230 #[(.func (.func 304) #[vW c d e] #[]),vW f g i] b (qO fun l m n=>(R (.tuple #[vU l,I m]) n)))))):
  Pure P 324 #[vU L,vU M] w R:=
 pr jR.cx func324 h

def ma.cx:Pm:=([],[])
theorem ma.vc
  (h:(Pure P 229 #[vU L,vU M] w fun j b=>∃c d e f g i a,j= .tuple #[vW c d e,vW f g i,I a]/\(Br (a≠0) (R (.tuple #[(vU ⟨#[]⟩),I a]) b) (Pure P 230 #[(.func (.func 352) #[vW c d e] #[]),vW f g i] b (qO fun l m n=>(R (.tuple #[vU l,I m]) n)))))):
  Pure P 340 #[vU L,vU M] w R:=
 pr ma.cx func340 h

def jq.cx:Pm:=([],[])
theorem jq.vc
  (h:(Pure P 229 #[vU L,vU M] w fun j b=>∃c d e f g i a,j= .tuple #[vW c d e,vW f g i,I a]/\(Br (a≠0) (R (.tuple #[I 0,I a]) b) (Pure P 302 #[vW c d e,vW f g i] b (Ri fun l m=>(R (.tuple #[I l,I 0]) m)))))):
  Pure P 341 #[vU L,vU M] w R:=
 pr jq.cx func341 h

def mc.cx:Pm:=([],[])
theorem mc.vc
  (h:(Pure P 229 #[vU L,vU M] w fun l i=>∃a b c d e f g,l= .tuple #[vW a b c,vW d e f,I g]/\(Br (g≠0) (R (.tuple #[(vU ⟨#[]⟩),I g]) i) (Pure P 302 #[vW a b c,vW d e f] i (Ri fun m j=>(Br (m<0) (R (.tuple #[(vU ⟨#[]⟩),I 2]) j) (Pure P 230 #[(.func (.func 353) #[vW a b c] #[]),vW d e f] j (qO fun n o p=>(R (.tuple #[vU n,I o]) p))))))))):
  Pure P 342 #[vU L,vU M] w R:=
 pr mc.cx func342 h

def nJ.cx:Pm:=([],[])
theorem nJ.vc
  (h:(Pure P 359 #[vW A a b,vW C c d,I 1] w (Rs fun e f g i=>(R (vW e f g) i)))):
  Pure P 352 #[vW A a b,vW C c d] w R:=
 pr nJ.cx func352 h

def mG.cx:Pm:=([],[])
theorem mG.vc
  (h:(Pure P 359 #[vW A a b,vW C c d,(I (-1:Int))] w (Rs fun e f g i=>(Pure P 298 #[vW e f g] i (Rs fun j l m n=>(R (vW j l m) n)))))):
  Pure P 353 #[vW A a b,vW C c d] w R:=
 pr mG.cx func353 h

def ag.L4(a:O)(b c:Nat)(d:O)(e f:Nat)(g:Int)(i:O)(j l:Nat)(m n o:Int):=Lt 359 f359 4 [vS 0 a b c,vS 1 d e f,vI 2 g,vS 7 i j l,vI 8 m,vI 19 n,vI 20 o] []
def ag.J8(a:O)(b c:Nat)(d:O)(e f:Nat)(g:Int)(i:O)(j l:Nat)(m n o p:Int):=Jt 359 f359 8 [vS 0 a b c,vS 1 d e f,vI 2 g,vS 7 i j l,vI 8 m,vI 9 n,vI 19 o,vI 20 p] []
def ag.KL(a:O)(b c:Nat)(d:O)(e f:Nat)(g:Int)(i:O)(j l:Nat)(m n o:Int):=Jt 359 f359 10 [vS 0 a b c,vS 1 d e f,vI 2 g,vS 7 i j l,vI 8 m,vI 19 n,vI 20 o] []
def ag.cx:Pm:=([((true,4),[0,1,2,7,8,19,20],[]),((false,8),[0,1,2,7,8,9,19,20],[]),((false,10),[0,1,2,7,8,19,20],[])],[(1,3,2),(10,1,1),(11,1,1),(15,3,2),(15,4,2),(18,3,2),(18,4,2)])
theorem ag.L4.step
  (h:(Br (p<r) (Br (p<(a:Int)) (Ix p a C fun i=>(∃g,aa w (i.add ((p).toNat*1)) [.int .u32 g]/\(aN .i64 (g)/\(aN .i64 (q+(g))/\(ag.J8 C a d D e f s A b c (q+(g)) p r p B w R))))) (ag.J8 C a d D e f s A b c q p r p B w R)) (Br (q>0) (aN .u32 (q)/\(ae P (Instr.buildSlice 314 1 #[(0,(.int .u32 (q)))]) B [] w (Rs fun j l m n=>(ae P (Builtin.append_ #[314,314] 314 #[vW A b c,vW j l m]) B [] n (Rs fun o t u v=>(R (vW o t u) v)))))) (R (vW A b c) w)))):
  ag.L4 C a d D e f s A b c q r p B w R:=
 lr ag.cx func359 h
theorem ag.J8.step
  (h:(Br (r<(a:Int)) (Ix r a A fun i=>(∃g,aa w (i.add ((r).toNat*1)) [.int .u32 g]/\(aN .i64 (g)/\(aN .i64 (p*(g))/\(aN .i64 (q+(p*(g)))/\(ag.KL C b c A a d p D e f (q+(p*(g))) s t B w R)))))) (ag.KL C b c A a d p D e f q s t B w R))):
  ag.J8 C b c A a d p D e f q r s t B w R:=
 jr ag.cx func359 h
theorem ag.KL.step
  (h:((1000000000:Int)≠0/\((1000000000:Int)≠0/\(Br (((Int.tmod p (1000000000:Int)):Int)<0) (aN .i64 ((Int.tmod p (1000000000:Int))+1000000000)/\(aN .i64 ((IntKind.wrap .i64 (Int.tdiv p (1000000000:Int))) - (1:Int))/\(aN .u32 (((Int.tmod p (1000000000:Int))+1000000000))/\(ae P (Instr.buildSlice 314 1 #[(0,(.int .u32 (((Int.tmod p (1000000000:Int))+1000000000))))]) B [] w (Rs fun g i j l=>(ae P (Builtin.append_ #[314,314] 314 #[vW D e f,vW g i j]) B [] l (Rs fun m n o t=>(aN .i64 (q+1)/\(ag.L4 A a b C c d r m n o ((IntKind.wrap .i64 (Int.tdiv p (1000000000:Int))) - (1:Int)) s (q+1) B t R))))))))) (aN .u32 ((Int.tmod p (1000000000:Int)))/\(ae P (Instr.buildSlice 314 1 #[(0,(.int .u32 ((Int.tmod p (1000000000:Int)))))]) B [] w (Rs fun u v x y=>(ae P (Builtin.append_ #[314,314] 314 #[vW D e f,vW u v x]) B [] y (Rs fun z E G H=>(aN .i64 (q+1)/\(ag.L4 A a b C c d r z E G (IntKind.wrap .i64 (Int.tdiv p (1000000000:Int))) s (q+1) B H R))))))))))):
  ag.KL A a b C c d r D e f p s q B w R:=
 jr ag.cx func359 h
theorem ag.vc
  (h:(aN .i64 ((a:Int)+1)/\(ae P (Instr.makeSlice 314 (I 0) (I ((a:Int)+1))) w.heap.size [] w (Rs fun e f g i=>(ag.L4 A a c C b d p e f g (0:Int) (if(b:Int)>(a:Int)then(b:Int)else(a:Int)) (0:Int) w.heap.size i R))))):
  Pure P 359 #[vW A a c,vW C b d,I p] w R:=
 pr ag.cx func359 h

def iC.cx:Pm:=([],[])
theorem iC.vc
  (h:(Pure P 229 #[vU L,vU M] w fun q a=>∃d e f g b i c,q= .tuple #[vW d e f,vW g b i,I c]/\(Br (c≠0) (R (.tuple #[(vU ⟨#[]⟩),(vU ⟨#[]⟩),I c]) a) (Br ((b:Int)=0) (R (.tuple #[(vU ⟨#[]⟩),(vU ⟨#[]⟩),I 16]) a) (Pure P 272 #[vW d e f,vW g b i] a fun r s=>∃j l m n o p,r= .tuple #[vW j l m,vW n o p]/\(Pure P 269 #[vW j l m] s (Rt fun t u=>(Pure P 269 #[vW n o p] u (Rt fun v x=>(R (.tuple #[vU t,vU v,I 0]) x)))))))))):
  Pure P 363 #[vU L,vU M] w R:=
 pr iC.cx func363 h

end Go.Proofs.YtmdphpnaipbfjaaGreatDoor.F

namespace Go.Proofs.YtmdphpnaipbfjaaGreatDoor.B
open Go Go.RowKit Go.Proofs Go.Proofs.YtmdphpnaipbfjaaGreatDoor.Vc

abbrev Tx:=List UInt8
def bJ(s:ByteArray):Tx:=s.data.toList
def st(l:Tx):ByteArray:=⟨l.toArray⟩
theorem oQ(l:Tx):bJ (st l)=l:=rfl
theorem Ry(s:ByteArray):st (bJ s)=s:=rfl
theorem lB(s:ByteArray):s.size=(bJ s).length:=by rfl
theorem CO{a b:Tx}(h:st a=st b):a=b:=by have:=ca bJ h;exact this
theorem xM{a b:ByteArray}(h:bJ a=bJ b):a=b:=by rw[<-Ry a,<-Ry b,h]

def tJ(c:UInt8):Bool:=48<=c.toNat&&c.toNat<=57
def dv(c:UInt8):Nat:=c.toNat - 48
def isNat(l:Tx):Bool:= !l.isEmpty&&(l.length==1||l.head? !=some 48)&&l.all tJ
def eS(l:Tx):Nat:=l.foldl (fun a c=>10*a+dv c) 0

theorem Ly{s:ByteArray}{i:Int}(a:0<=i)(h:i<s.size):∃c,(bJ s)[i.toNat]? =some c/\bt s i=(c.toNat:Int)/\(bJ s).drop i.toNat=c::(bJ s).drop (i.toNat+1):=by
 have hl:i.toNat<(bJ s).length:=by rw[<-lB];omega
 refine⟨(bJ s)[i.toNat],by simp[hl],?_,cy hl⟩;have e:bt s i=(((bJ s).getD i.toNat 0).toNat:Int):=rfl;rw[e,cz,af hl];rfl

theorem xN(s:ByteArray)(hs:s.size<2147483648)(B:Nat)(w:World)(R:Value->World->Prop):∀(d:Nat)(i:Int),0<=i->i<=s.size->s.size - i=d->
  R (.bool (((bJ s).drop i.toNat).all tJ)) w->F.bZ.L4 s s.size i B w R:=by
 intro d;induction d with
 |zero=>
  intro i b h1 g a;refine F.bZ.L4.step ⟨fun h=>by omega,fun h=> ?_⟩;rw[dd (by rw[<-lB];omega)]at a;exact a
 |succ d ih=>
  intro i b h1 g a;obtain⟨c,e,hb,j⟩:=Ly b (show i<s.size by omega);rw[j,B6]at a;refine F.bZ.L4.step ⟨fun h=>⟨om,⟨fun k=> ?_,fun k=>⟨om,⟨fun l=> ?_,fun l=>⟨ir,?_⟩⟩⟩⟩⟩,fun h=>by omega⟩
  ·have:tJ c=false:=by simp[tJ];omega
   simpa[this]using a
  ·have:tJ c=false:=by simp[tJ];omega
   simpa[this]using a
  ·have e:tJ c=true:=by simp[tJ];omega
   refine ih (i+1) om om om ?_;rw[show(i+1).toNat=i.toNat+1 by omega];simpa[e]using a

theorem bZ(s:ByteArray)(hs:s.size<2147483648)(w:World):Pure Tryz.prog 124 #[.string s] w fun v _=>v= .bool (isNat (bJ s)):=by
 have go:∀R:Value->World->Prop,R (.bool ((bJ s).all tJ)) w->F.bZ.L4 s s.size 0 w.heap.size w R:=fun R j=>
  xN s hs _ _ _ s.size 0 om om om j
 refine F.bZ.vc ⟨fun h=> ?_,fun h=>⟨fun h1=>⟨om,⟨fun g=> ?_,fun g=>go _ ?_⟩⟩,fun h1=>go _ ?_⟩⟩
 ·subst h;rfl
 ·obtain⟨c,b,hb,d⟩:=Ly (s:=s) (i:=0) om om;have e:bJ s=c::(bJ s).drop 1:=by simpa using d
  have a:c=48:=by
   have:c.toNat=48:=om;exact UInt8.toNat_inj.1 this
  have hl:(bJ s).length≠1:=by rw[<-lB];omega
  have:isNat (bJ s)=false:=by
   unfold isNat;simp only[MF,(by simpa using hl:((bJ s).length==1)=false)];rw[e,a];simp
  rw[this]
 ·obtain⟨c,b,hb,d⟩:=Ly (s:=s) (i:=0) om om;have e:bJ s=c::(bJ s).drop 1:=by simpa using d
  have a:c≠48:=fun k=>by subst k;exact g hb
  congr 1
  unfold isNat;rw[e];simp[a]
 ·have hl:(bJ s).length=1:=by
   rw[<-lB];have:s.size≠0:=fun k=>h (by apply xM;exact eR k)
   omega
  obtain⟨c,b⟩:=u6.1 hl;rw[b];simp[isNat]

def wv:List Nat->Nat
 |[]=>0
 |x::r=>x+1000000000*wv r
def Small(l:List Nat):Prop:=∀x∈l,x<1000000000
def Norm(l:List Nat):Prop:=l.getLast?≠some 0

theorem gR(a b:List Nat):wv (a++b)=wv a+1000000000^a.length*wv b:=by
 induction a with
 |nil=>simp[wv]
 |cons x r ih=>simp only[vv,wv,ih,ew,ob];rw[pP,<-Nat.mul_assoc,DS 1000000000 (1000000000^_)];omega
theorem ql{l:List Nat}(h:Small l):wv l<1000000000^l.length:=by
 induction l with
 |nil=>simp[wv]
 |cons x r ih=>
  have h1:=h x sm;have a:=ih fun y hy=>h y (by simp[hy])
  simp only[wv,ew,ob];omega
theorem Small.take{l:List Nat}(h:Small l)(n:Nat):Small (l.take n):=fun x hx=>h x (oe hx)
theorem Small.append{a b:List Nat}(ha:Small a)(hb:Small b):Small (a++b):=fun x hx=>(fJ.1 hx).elim (ha x) (hb x)
theorem Small.cons{x:Nat}{l:List Nat}(hx:x<1000000000)(h:Small l):Small (x::l):=fun y hy=>by
 rcases cb.1 hy with rfl|hy
 ·exact hx
 ·exact h y hy
theorem Small.nil:Small []:=fun x hx=>by cases hx

theorem po{l:List Nat}(h:Norm l)(hn:l≠[]):1000000000^(l.length - 1)<=wv l:=by
 have e:l=l.dropLast++[l.getLast hn]:=(CM hn).symm;have a:l.getLast hn≠0:=fun k=>h (by rw[MH hn,k])
 have hw:wv l=wv l.dropLast+1000000000^l.dropLast.length*wv [l.getLast hn]:=by rw[<-gR,<-e]
 rw[hw,List.length_dropLast];simp only[wv,YN,xK];have h1:1<=l.getLast hn:=om;have:=kc (1000000000^(l.length - 1)) h1;omega

def oI(w:World)(A:Option Addr)(ws:List Nat):Prop:=
 ws=[]∨∃b off all fr,A=some ⟨b,off,none⟩/\w.heap[b]? =some (.cells all 174 fr)/\∀i,(h:i<ws.length)->all[off+i]? =some (.int .u32 (ws[i]:Nat))

theorem oI.cell{w:World}{A:Option Addr}{ws:List Nat}(h:oI w A ws){j:Int}(e:0<=j)(h1:j<ws.length):
  ∃a,A=some a/\∃x:Nat,ws[j.toNat]? =some x/\aa w (a.add (j.toNat*1)) [.int .u32 (x:Int)]:=by
 rcases h with h|⟨b,off,all,fr,c,hb,d⟩
 ·subst h;simp at h1;omega
 ·have hj:j.toNat<ws.length:=om;refine⟨_,c,ws[j.toNat],by simp[hj],fun i hi=> ?_⟩;have hi:i=0:=by simp at hi;exact hi
  subst hi;rw[Jm,jO,jO];simp only[World.cell?,hb];simpa using d j.toNat hj

theorem oI.heap{w w':World}{A:Option Addr}{ws:List Nat}(h:oI w A ws)(a:∀(b:Nat)(all:Array Value)(fr:Nat×Nat),w.heap[b]? =some (.cells all 174 fr)->w'.heap[b]? =w.heap[b]?):oI w' A ws:=by
 rcases h with h|⟨b,off,all,fr,c,hb,d⟩
 ·exact .inl h
 ·exact .inr ⟨b,off,all,fr,c,by rw[a b all fr hb];exact hb,d⟩
theorem oI.below{w w':World}{A:Option Addr}{ws:List Nat}(h:oI w A ws)(hb:Below w.heap.size w w'):oI w' A ws:=
 oI.heap h fun b _ _ e=>hb.block b (ax.1 e).1
theorem oI.ext{w w':World}{B:Nat}{ts:List Nat}{A:Option Addr}{ws:List Nat}(h:oI w A ws)(he:Ext B ts w w')(hn:174∉ts):oI w' A ws:=
 oI.heap h fun b all fr e=>by
  rcases he.other b (ax.1 e).1 with h1|⟨t,a,c,c',d,h1,_⟩
  ·exact h1
  ·rw[e]at h1;cases h1;exact absurd a hn
theorem oI.take{w:World}{A:Option Addr}{ws:List Nat}(h:oI w A ws)(k:Nat):oI w A (ws.take k):=by
 rcases h with h|⟨b,off,all,fr,a,hb,c⟩
 ·exact .inl (by simp[h])
 ·exact .inr ⟨b,off,all,fr,a,hb,fun i hi=>by
   have h1:i<ws.length:=by simp at hi;omega
   simpa using c i h1⟩

def iZ(w:World)(A:Option Addr)(n c:Nat)(x:Nat):Prop:=∃ws,oI w A ws/\ws.length=n/\n<=c/\n<2147483648/\Small ws/\Norm ws/\wv ws=x
theorem iZ.below{w w':World}{A:Option Addr}{n c x:Nat}(h:iZ w A n c x)(hb:Below w.heap.size w w'):iZ w' A n c x:=by
 obtain⟨ws,h1,a⟩:=h;exact⟨ws,h1.below hb,a⟩
theorem iZ.ext{w w':World}{B:Nat}{ts:List Nat}{A:Option Addr}{n c x:Nat}(h:iZ w A n c x)(he:Ext B ts w w')(hn:174∉ts):iZ w' A n c x:=by
 obtain⟨ws,h1,a⟩:=h;exact⟨ws,h1.ext he hn,a⟩

theorem Gr{ws:List Nat}{n:Nat}(hn:ws.length=n+1)(a:ws[n]? =some 0):wv (ws.take n)=wv ws:=by
 have e:ws=ws.take n++[0]:=by
  apply Es;intro i;by_cases h:i<n
  ·rw[hN (by simp;omega)];simp[h]
  ·rw[iB (by simp;omega)];by_cases b:i=n
   ·subst b;rw[a];simp[hn]
   ·rw[iw om,iw (by simp;omega)]
 conv=>rhs;rw[e]
 rw[gR];simp[wv]

theorem yB(B:Nat)(w:World)(A:Option Addr)(c:Nat)(R:Value->World->Prop):∀(n:Nat)(ws:List Nat),oI w A ws->ws.length=n->n<2147483648->n<=c->Small ws->
  (∀m,m<=n->Norm (ws.take m)->wv (ws.take m)=wv ws->R (.slice A m c) w)->F.cS.L1 A n c B w R:=by
 intro n;induction n with
 |zero=>
  intro ws h hl o hn hs d;refine F.cS.L1.step ⟨fun h=>by omega,fun _=>d 0 om (by simp[Norm]) (by have:=eR hl;subst this;rfl)⟩
 |succ n ih=>
  intro ws h hl o hn hs d;obtain⟨a,q,x,hx,b⟩:=h.cell (j:=((n+1:Nat):Int) - 1) om om;have e:(((n+1:Nat):Int) - 1).toNat=n:=om;refine F.cS.L1.step ⟨fun _=>⟨ir,om,a,q,_,b,fun g=>⟨ir,om,?_⟩,fun g=> ?_⟩,fun h=>by omega⟩
  ·rw[e]at hx⊢;have r:x=0:=om;subst r;have y:=Gr hl hx;refine ih (ws.take n) (h.take n) (by simp;omega) om om (hs.take n) fun m hm h1 i=>d m om ?_ ?_
   ·rw[SJ,jv hm]at h1;exact h1
   ·rw[SJ,jv hm]at i;rw[i,y]
  ·rw[e]at hx;have l:ws.take (n+1)=ws:=cc om;refine d (n+1) lf ?_ (by rw[l]);rw[l];unfold Norm;rw[vu,hl,Wh,hx];intro k;cases k;exact g rfl

theorem mH{w:World}{A:Option Addr}{n c:Nat}{ws:List Nat}(h:oI w A ws)(hl:ws.length=n)(hn:n<=c)(b:n<2147483648)(hs:Small ws):
  Pure Tryz.prog 298 #[.slice A n c] w fun v w'=>w'=w/\∃m,v= .slice A m c/\iZ w A m c (wv ws)/\m<=n/\Norm (ws.take m)/\wv (ws.take m)=wv ws:=
 F.cS.vc (yB _ _ _ _ _ n ws h hl b hn hs fun m hm h1 a=>⟨rfl,m,rfl,⟨ws.take m,h.take m,by simp;omega,om,om,hs.take m,h1,a⟩,hm,h1,a⟩)

structure El (P:Program) (t e:TypeId) (size bytes:Nat):Prop where
 IJ:P.underlying t=some (.slice e)
 info:∃i z,P.info? e=some i/\i.zero=some z/\i.size=size/\i.bytes=bytes/\z.cells.size=size
 pos:0<size
 small:size<=1024

theorem me{v:Value}(h:bk v=true):v.oneCell'=true:=by cases v<;>first|rfl|(simp[bk]at h)

theorem Rz(off:Nat):∀(v:List Value)(k:Nat)(cs:Array Value)(i:Nat),
  ((v.zipIdx k).foldl (fun cs (x:Value×Nat)=>cs.setIfInBounds (off+x.2) x.1) cs)[i]? =if off+k<=i/\i<off+k+v.length/\i<cs.size then v[i - off - k]? else cs[i]? :=by
 intro v;induction v with
 |nil=>intro k cs i;simp;intro h1 a;omega
 |cons x r ih=>
  intro k cs i;rw[Uu,YZ,ih];simp only[Array.size_setIfInBounds,ew];by_cases h1:off+(k+1)<=i/\i<off+(k+1)+r.length/\i<cs.size
  ·rw[bm h1,bm ⟨om,om,h1.2.2⟩,show i - off - k=(i - off - (k+1))+1 by omega,List.getElem?_cons_succ]
  ·rw[aq h1,Od];by_cases a:off+k=i
   ·rw[bm a];by_cases b:i<cs.size
    ·rw[bm om,bm ⟨om,om,b⟩,show i - off - k=0 by omega];rfl
    ·rw[aq om,aq om,xO om]
   ·rw[aq a,aq om]

theorem RA(size:Nat):∀(vs:List Value)(k:Nat)(pre rest:List Value),pre.length=k*size->rest.length=vs.length*size->(∀v∈vs,v.cells.size=size)->
  Instr.fill (fun i=>some (i*size,size)) (pre++rest).toArray ((vs.zipIdx k).map fun x=>(x.2,x.1))=some (pre++vs.flatMap fun v=>v.cells.toList).toArray:=by
 intro vs;induction vs with
 |nil=>
  intro k pre rest hp a _;have:rest=[]:=eR (by simpa using a);simp[Instr.fill,this]
 |cons v r ih=>
  intro k pre rest hp a b;have h1:=b v sm;have hl:v.cells.toList.length=size:=by simpa using h1
  have c:rest.length=r.length*size+size:=by rw[a,ew,qh,Nat.one_mul]
  rw[Uu,DM,Instr.fill];simp only[h1,ne_eq,Xn,decide_false,MF,Eu,dp];rw[aq (by simp;omega)];have e:(v.cells.zipIdx.foldl (fun cs x=>cs.setIfInBounds (k*size+x.2) x.1) (pre++rest).toArray)=((pre++v.cells.toList)++rest.drop size).toArray:=by
   rw[<-Array.foldl_toList,Array.toList_zipIdx];apply Rq;apply Es;intro i;rw[Array.getElem?_toList,Rz];simp only[xK,List.getElem?_toArray,Eu,dp,hl,hp];by_cases h:k*size<=i/\i<k*size+size/\i<k*size+rest.length
   ·rw[bm h,hN (by simp;omega),iB om,hp];simp
   ·rw[aq h];by_cases d:i<k*size
    ·rw[hN om,hN (by simp;omega),hN om]
    ·rw[iB om,iB (by simp;omega),oj]
     congr 1
     simp;omega
  rw[e,ih (k+1) (pre++v.cells.toList) (rest.drop size) (by simp[hp,h1,qh]) (by simp;omega) (fun y hy=>b y (by simp[hy]))];simp[xJ,fi]

theorem pN{P:Program}{t e size bytes:Nat}(el:El P t e size bytes)(vs:List Value)(c:∀v∈vs,v.cells.size=size)(hn:vs.length<=1024)(w:World):
  (Instr.buildSlice t vs.length (vs.zipIdx.map fun x=>(x.2,x.1)).toArray).run P w= .ok (.slice (some ⟨w.heap.size,0,none⟩) vs.length vs.length) (w.alloc (.cells (vs.flatMap fun v=>v.cells.toList).toArray e)):=by
 obtain⟨i,z,h1,d,g,l,m⟩:=el.info;have hs:=el.small;have hp:=el.pos;have hle:vs.length*size<=1024*1024:=oi hn hs;have h:(sizeOf e).run P w= .ok size w:=by simp[sizeOf,typeInfo,program,Sem.run_bind,Sem.run,h1,g]
 have j:(zeroValue e).run P w= .ok z w:=by simp[zeroValue,typeInfo,program,Sem.run_bind,Sem.run,h1,d]
 have a:∀c0:Array Value,c0.size=vs.length*size->Instr.fill (fun i=>some (i*size,size)) c0 (vs.zipIdx.map fun x=>(x.2,x.1))=some (vs.flatMap fun v=>v.cells.toList).toArray:=by
  intro c0 k;have:=RA size vs 0 [] c0.toList sm (by simpa using k) c;simpa using this
 simp only[Instr.buildSlice,Sem.run_bind,run_underlying el.IJ,Result.andThen_ok,h];rw[aq om];by_cases b:vs.length*size=0
 ·rw[bm b];simp only[Sem.run_bind,Result.andThen_ok,Sem.run_pure];rw[a _ sm];simp[newRow,newObj,Sem.run]
 ·rw[aq b];simp only[Sem.run_bind,j,Result.andThen_ok,Sem.run_pure];rw[a _ sm];simp[newRow,newObj,Sem.run]

theorem ownsRow_form{w:World}{B e size n:Nat}{v:Value}{xs:List Value}(h:w.ownsRow B e size v n xs):∃A c,v= .slice A n c/\n<=c:=by
 rcases h.2 with⟨rfl,rfl⟩|⟨g,cap,cur,rfl,_,_,a,_⟩
 ·exact⟨none,0,rfl,ga _⟩
 ·exact⟨_,cap,rfl,a⟩

theorem bT{w w':World}{B:Nat}{row:Option Nat}(h:w.grownBy w' row)(a:∀k,row=some k->B<=k)(hB:B<=w.heap.size):Below B w w':=
 ⟨h.os,h.tape,h.output,h.size,fun k b=>h.block k om fun e=>by have:=a k e.symm;omega⟩

theorem tK{w w':World}{B e size n:Nat}{v:Value}{xs:List Value}{tys:List Nat}(h:w.grownBy w' v.ownBlock)(a:w.ownsRow B e size v n xs)(i:e∉tys):
  ∀(k ty:Nat)(cs:Array Value),ty∈tys->w.heap[k]? =some (.cells cs ty (0,0))->w'.heap[k]? =w.heap[k]? :=by
 intro k ty cs b c;refine h.block k (ax.1 c).1 fun d=> ?_
 rcases a.2 with⟨rfl,_⟩|⟨g,cap,cur,rfl,_,hg,_⟩
 ·simp[Value.ownBlock]at d
 ·simp[Value.ownBlock]at d;subst d;rw[hg]at c;cases c;exact i b

theorem tL{P:Program}{t ty e size bytes:Nat}(el:El P t e size bytes){B0 B:Nat}(l:B0<=B){tys:List Nat}{w:World}{v:Value}{n:Nat}{xs:List Value}(b:w.ownsRow B e size v n xs)
  {a:Addr} {m c:Nat} {news:List Value} (hl:news.length=m*size) (o:∀j u,news[j]? =some u->w.cell? (a.add j)=some u) (h1:∀u∈news,bk u=true)
  (hB:B<=w.heap.size) (lz:(n+m)*(bytes+1)<=140737488355328) (q:e∉tys) {K:Option Addr->Nat->Nat->World->Prop}
  (h:∀A c g,g.ownsRow B e size (.slice A (n+m) c) (n+m) (xs++news)->w.grownBy g v.ownBlock->Below B0 w g->K A (n+m) c g):
  ae P (Builtin.append_ #[t,t] ty #[v,.slice (some a) m c]) B0 tys w fun r g=>∃A n c,r= .slice A n c/\K A n c g:=by
 obtain⟨i,z,x,y,C,D,E⟩:=el.info;have hle:n+m<=(n+m)*(bytes+1):=Ao _ om;have hb:(n+m)*bytes<=(n+m)*(bytes+1):=kc _ om;obtain⟨H,w',F,ho,hg,_⟩:=run_append_own (P:=P) w B t ty e i z size bytes el.IJ x y C D E el.pos v n xs b a m c news hl o (fun u hu=>me (h1 u hu)) (by simp only[maxLen];omega) om hB;have d:Below B0 w w':=bT hg (fun k G=>ec l (b.lt k G).1) (ec l hB);obtain⟨A,c',rfl,_⟩:=ownsRow_form ho;exact⟨_,w',F,d,d.size,tK hg b q,A,_,c',rfl,h A c' w' ho hg d⟩

theorem xj{P:Program}{t ty e size bytes:Nat}(el:El P t e size bytes){B0 B:Nat}(o:B0<=B){tys:List Nat}{w:World}{v:Value}{n:Nat}{xs:List Value}(d:w.ownsRow B e size v n xs)
  {x:Value} (hx:x.cells.size=size) (h1:∀u∈x.cells.toList,bk u=true)
  (hB:B<=w.heap.size) (lz:(n+1)*(bytes+1)<=140737488355328) (y:e∉tys) {K:Option Addr->Nat->Nat->World->Prop}
  (h:∀A c b,b.ownsRow B e size (.slice A (n+1) c) (n+1) (xs++x.cells.toList)->w.grownBy b v.ownBlock->Below B0 w b->K A (n+1) c b):
  ae P (Instr.buildSlice t 1 #[(0,x)]) B0 tys w fun r w1=>∃A m c,r= .slice A m c/\
   ae P (Builtin.append_ #[t,t] ty #[v,.slice A m c]) B0 tys w1 fun r b=>∃A n c,r= .slice A n c/\K A n c b:=by
 have q:=pN el [x] (by simpa using hx) sm w;simp only[pe,Uu,List.zipIdx_nil,DM,QB,xJ,Qy,vB]at q;have hg:=World.grownBy_alloc w (.cells x.cells.toList.toArray e) none;have a:Below B0 w (w.alloc (.cells x.cells.toList.toArray e)):=bT hg sm (ec o hB);refine⟨_,_,q,a,a.size,fun k ty cs _ i=>hg.block k (ax.1 i).1 sm,_,_,_,rfl,?_⟩;refine tL el o (d.kept hg (by cases v.ownBlock<;>simp)) (news:=x.cells.toList) (by simpa using hx) ?_ h1 (by have:=hg.size;omega) lz y ?_
 ·intro j u hu;rw[jO,mC];simp only[World.cell?];rw[heap_alloc_new];simpa using hu
 ·intro A c b z g C;refine h A c b z ⟨g.os.trans hg.os,g.tape.trans hg.tape,g.output.trans hg.output,ec hg.size g.size,fun k i l=> ?_⟩ (a.trans C);rw[g.block k (by have:=hg.size;omega) l];exact hg.block k i sm

theorem IL{P:Program}{t e size bytes:Nat}(el:El P t e size bytes){B:Nat}{tys:List Nat}{w:World}{d g:IntKind}{c:Int}(j:0<=c)(l:c.toNat*(bytes+1)<=140737488355328)(hB:B<=w.heap.size){K:Option Addr->Nat->Nat->World->Prop}
  (h:∀A c b,b.ownsRow B e size (.slice A 0 c) 0 []->w.grownBy b none->Below B w b->K A 0 c b):
  ae P (Instr.makeSlice t (.int d 0) (.int g c)) B tys w fun r b=>∃A n c,r= .slice A n c/\K A n c b:=by
 obtain⟨i,z,m,o,q,x,D⟩:=el.info;obtain⟨c,rfl⟩:=RQ j;have E:c*(bytes+1)<=140737488355328:=by simpa only[cd]using l
 have hle:c<=c*(bytes+1):=Ao _ om;have hb:c*bytes<=c*(bytes+1):=kc _ om;obtain⟨w',y,ho,hg⟩:=run_make_own (P:=P) w B t e i z size el.IJ m o q d g c (by rw[x,DS];omega) (by simp only[maxLen];omega) hB;have a:Below B w w':=bT hg sm hB;exact⟨_,w',y,a,a.size,fun k ty cs _ C=>hg.block k (ax.1 C).1 sm,_,_,_,rfl,h _ _ w' ho hg a⟩

theorem qm{P:Program}{t e bytes:Nat}(el:El P t e 1 bytes){B:Nat}{tys:List Nat}{w:World}{x y:IntKind}{c:Int}{z:Value}(hz:(P.info? e).bind (·.zero)=some z)(g:bk z=true)(E:0<=c)(F:c.toNat*(bytes+1)<=140737488355328)(hB:B<=w.heap.size)
  {K:Option Addr->Nat->Nat->World->Prop}
  (h:∀A (n:Nat) d,(n:Int)=c->d.ownsRow w.heap.size e 1 (.slice A n n) n (List.replicate n z)->w.grownBy d none->Below B w d->K A n n d):
  ae P (Instr.makeSlice t (.int x c) (.int y c)) B tys w fun r d=>∃A n c,r= .slice A n c/\K A n c d:=by
 obtain⟨i,b,C,D,G,H,J⟩:=el.info;obtain⟨c,rfl⟩:=RQ E;have l:b=z:=by rw[C]at hz;simp[D]at hz;exact hz
 subst l;have L:c*(bytes+1)<=140737488355328:=by simpa only[cd]using F
 have hle:c<=c*(bytes+1):=Ao _ om;have hb:c*bytes<=c*(bytes+1):=kc _ om;have m:(i.bytes:Int)*(c:Int)<=281474976710656:=by
  have h:((i.bytes*c:Nat):Int)<=281474976710656:=by
   have:i.bytes*c<=281474976710656:=by rw[H,DS];omega
   omega
  rwa [Zb]at h
 have o:=run_make (P:=P) w t e i b el.IJ C D x y c c om (Xo _) m om;simp only[cd,G,Jm]at o;have q:b.cells= #[b]:=by cases b<;>first|rfl|simp[bk]at g
 have hm:madeCells b.cells c=(List.replicate c b).toArray:=by
  apply Rq;rw[q];apply Es;intro j;simp only[madeCells,Array.toList_map,Array.toList_range,ow,R0];by_cases hj:j<c
  ·simp[hj,Nat.mod_one]
  ·simp[hj]
 rw[hm]at o;have hg:=World.grownBy_alloc w (.cells (List.replicate c b).toArray e) none;have a:Below B w (w.alloc (.cells (List.replicate c b).toArray e)):=bT hg sm hB;refine⟨_,_,o,a,a.size,fun k ty cs _ I=>hg.block k (ax.1 I).1 sm,_,_,_,rfl,h _ _ _ rfl ?_ hg a⟩;exact⟨sm,.inr ⟨w.heap.size,c,_,rfl,ga _,heap_alloc_new w _,ga _,by simp only[maxLen];omega,sm,sm⟩⟩

theorem xk{w:World}{B e size n c:Nat}{A:Addr}{xs:List Value}(h:w.ownsRow B e size (.slice (some A) n c) n xs){off:Nat}{vs:List Value}(hle:off+vs.length<=xs.length):
  ∃cs:List Value,B<=A.block/\A.spot=none/\A.off=0/\w.heap[A.block]? =some (.cells cs.toArray e (0,0))/\off+vs.length<=cs.length/\
   ∀w1,aG w w1 A.block e (setCells cs off vs)->w1.ownsRow B e size (.slice (some A) n c) n (setCells xs off vs):=by
 rcases h.2 with⟨h1,_⟩|⟨g,cap,cur,h1,hb,hg,i,hm,hs,b⟩
 ·cases h1
 ·cases h1;have d:∀(vs:List Value)(l:List Value)(off:Nat),(setCells l off vs).length=l.length:=by
   intro vs;induction vs with
   |nil=>intro l off;rfl
   |cons v r ih=>intro l off;rw[setCells,ih];simp
  have a:∀(vs:List Value)(l:List Value)(off k:Nat),(setCells l off vs).take k=setCells (l.take k) off vs:=by
   intro vs;induction vs with
   |nil=>intro l off k;rfl
   |cons v r ih=>intro l off k;rw[setCells,ih,setCells,List.take_set]
  refine⟨cur.toList,hb,rfl,rfl,by simpa using hg,?_,fun w1 hw=>⟨by rw[d];exact h.1,.inr ⟨g,c,(setCells cur.toList off vs).toArray,rfl,hb,by simpa using hw.at_,i,hm,by simp[d,hs],?_⟩⟩⟩
  ·have:xs.length<=cur.toList.length:=by rw[<-b];simp;omega
   omega
  ·rw[<-b];simp[a]

def adX(P:Program)(t e:TypeId)(size bytes:Nat):Bool:=match P.underlying t,P.info? e with
 |some (.slice a),some i=>match i.zero with
  |some z=>Nat.beq a e&&Nat.beq i.size size&&Nat.beq i.bytes bytes&&Nat.beq z.cells.size size&&Nat.blt 0 size&&Nat.ble size 1024
  |none=>false
 |_,_=>false
theorem El.of{P:Program}{t e size bytes:Nat}(h:adX P t e size bytes=true):El P t e size bytes:=by
 unfold adX at h;split at h
 ·rename_i k i h1 a;split at h
  ·rename_i z hz;simp only[de,Nat.beq_eq,Nat.ble_eq,YG]at h;obtain⟨⟨⟨⟨⟨rfl,b⟩,c⟩,d⟩,g⟩,j⟩:=h;exact⟨h1,⟨i,z,a,hz,b,c,d⟩,g,j⟩
  ·cases h
 ·cases h
theorem ry:El Tryz.prog 314 174 1 4:=El.of kF

@[irreducible] def tM : Nat := 100000
theorem IM:tM=100000:=by unfold tM;rfl
@[irreducible] def fR : Nat := 1000000000 ^ tM

theorem iZ.len{w:World}{A:Option Addr}{n c x:Nat}(h:iZ w A n c x)(hx:x<fR):n<=100000:=by
 obtain⟨ws,_,hl,_,_,_,hn,rfl⟩:=h;unfold fR at hx;by_cases b:ws=[]
 ·subst b;simp at hl;omega
 ·have h1:=po hn b;have d:=(QY (a:=1000000000) om).1 (uQ h1 hx);have:=IM;omega

def pq(ws:List Nat):List Value:=ws.map fun(x:Nat)=> .int .u32 (x:Int)
def fo(w:World)(B:Nat)(A:Option Addr)(n c:Nat)(ws:List Nat):Prop:=w.ownsRow B 174 1 (.slice A n c) n (pq ws)
theorem fo.len{w:World}{B:Nat}{A:Option Addr}{n c:Nat}{ws:List Nat}(h:fo w B A n c ws):ws.length=n:=by have:=h.1;simpa[pq]using this
theorem fo.sl{w:World}{B:Nat}{A:Option Addr}{n c:Nat}{ws:List Nat}(h:fo w B A n c ws):oI w A ws:=by
 have hl:=h.len;rcases h.2 with⟨h1,b⟩|⟨g,cap,cur,h1,hb,hg,d,hm,hs,a⟩
 ·exact .inl (eR om)
 ·cases h1;refine .inr ⟨g,0,cur,_,rfl,hg,fun i hi=> ?_⟩;have:(pq ws)[i]? =some (.int .u32 (ws[i]:Nat)):=by simp[pq,hi]
  rw[<-a,k7]at this;split at this
  ·simpa using this
  ·cases this
theorem fo.cap{w:World}{B:Nat}{A:Option Addr}{n c:Nat}{ws:List Nat}(h:fo w B A n c ws):n<=c:=by
 obtain⟨_,_,h1,a⟩:=ownsRow_form h;cases h1;exact a

theorem IN(a b:List Nat):pq (a++b)=pq a++pq b:=by simp[pq]

theorem yC{t ty:Nat}(el:El Tryz.prog t 174 1 4){B0 B:Nat}(a:B0<=B){tys:List Nat}{w:World}{A:Option Addr}{n c:Nat}{ws:List Nat}(ho:fo w B A n c ws)(hn:n<=1000000)(hB:B<=w.heap.size)(b:174∉tys)
  {x:Int} (hx:0<=x) {K:Option Addr->Nat->Nat->World->Prop}
  (h:∀A' c' w',fo w' B A' (n+1) c' (ws++[x.toNat])->w.grownBy w' (Value.ownBlock (.slice A n c))->Below B0 w w'->K A' (n+1) c' w'):
  ae Tryz.prog (Instr.buildSlice t 1 #[(0,.int .u32 x)]) B0 tys w fun r w1=>∃A2 m2 c2,r= .slice A2 m2 c2/\
   ae Tryz.prog (Builtin.append_ #[t,t] ty #[.slice A n c,.slice A2 m2 c2]) B0 tys w1 fun r d=>∃A n c,r= .slice A n c/\K A n c d:=
 xj el a ho rfl (by intro u hu;simp[Value.cells]at hu;subst hu;rfl) hB om b fun A' c' w' h1 g i=>h A' c' w' (by
  unfold fo;rw[IN];have e:(x.toNat:Int)=x:=om;simp only[pq,DM,QB,e];exact h1) g i

theorem fM(l:List Nat)(i:Nat):wv (l.take (i+1))=wv (l.take i)+1000000000^i*l.getD i 0:=by
 by_cases h:i<l.length
 ·rw[gv,gR,ep,jv om];simp[h,wv]
 ·rw[cc om,cc om];simp[cz,iw (by omega:l.length<=i)]

theorem Vk(s:Int):(0<=s->Int.tmod s 1000000000=s % 1000000000/\Int.tdiv s 1000000000=s / 1000000000)/\
  (s<0->Int.tmod s 1000000000= - ((-s) % 1000000000)/\Int.tdiv s 1000000000= - ((-s) / 1000000000)):=by
 refine⟨fun h=>⟨Pl h,OC h⟩,fun h=> ?_⟩;have e:s= - (-s):=om;constructor
 ·conv=>lhs;rw[e]
  rw[Int.neg_tmod,Pl om]
 ·conv=>lhs;rw[e]
  rw[Int.neg_tdiv,OC om]
theorem wrap64{n:Int}(h:aN .i64 n):IntKind.wrap .i64 n=n:=by
 rw[IntKind.wrap_i64];simp only[aN]at h;omega

section
variable {B:Nat} {A0 A1:Option Addr} {n0 c0 n1 c1:Nat} {sg:Int} {R:Value->World->Prop} {mx:Int}

theorem OA{w:World}{A:Option Addr}{n c:Nat}{ws:List Nat}{s i:Int}(ho:fo w B A n c ws)(hn:n<=1000000)(hB:B<=w.heap.size)(hs: -1000000000<=s/\s<=1999999999)(hi:0<=i/\i<=1000000)
  (h:∀A' c' w',fo w' B A' (n+1) c' (ws++[(s % 1000000000).toNat])->Below B w w'->F.ag.L4 A0 n0 c0 A1 n1 c1 sg A' (n+1) c' (s / 1000000000) mx (i+1) B w' R):
  F.ag.KL A0 n0 c0 A1 n1 c1 sg A n c s mx i B w R:=by
 obtain⟨t1,t2⟩:=Vk s;have w1:IntKind.wrap .i64 (Int.tdiv s 1000000000)=Int.tdiv s 1000000000:=wrap64 ir;refine F.ag.KL.step ⟨om,om,fun e=>⟨ir,by rw[w1];simp only[aN];omega,ir,?_⟩,fun e=>⟨ir,?_⟩⟩
 ·refine yC ry lf ho hn hB sm om fun A' c' w' h1 _ a=>⟨ir,?_⟩
  rw[w1];have b:Int.tmod s 1000000000+1000000000=s % 1000000000:=om;have d:Int.tdiv s 1000000000 - 1=s / 1000000000:=om;rw[b]at h1;rw[d];exact h A' c' w' h1 a
 ·refine yC ry lf ho hn hB sm om fun A' c' w' h1 _ a=>⟨ir,?_⟩
  rw[w1];have b:Int.tmod s 1000000000=s % 1000000000:=om;have d:Int.tdiv s 1000000000=s / 1000000000:=om;rw[b]at h1;rw[d];exact h A' c' w' h1 a

theorem oI.getD{w:World}{A:Option Addr}{ws:List Nat}(h:oI w A ws)(hs:Small ws){j:Int}(b:0<=j)(h1:j<ws.length):
  ∃a,A=some a/\∃x:Nat,ws.getD j.toNat 0=x/\x<1000000000/\aa w (a.add (j.toNat*1)) [.int .u32 (x:Int)]:=by
 obtain⟨a,c,x,hx,d⟩:=h.cell b h1;exact⟨a,c,x,by rw[cz,hx];rfl,hs x (gr hx),d⟩

theorem Small.getD{l:List Nat}(h:Small l)(i:Nat):l.getD i 0<1000000000:=by
 rw[cz];cases e:l[i]? with
 |none=>simp
 |some x=>exact h x (gr e)

theorem LB{w0:World}{a b:List Nat}(ha:oI w0 A0 a)(E:a.length=n0)(y:Small a)(hb:oI w0 A1 b)(Q:b.length=n1)(z:Small b)
  (g:sg=1∨sg= -1) (C:0<=(wv a:Int)+sg*wv b) (G:mx=(max n0 n1:Nat)) (S:n0<=500000) (h1:n1<=500000)
  (D:∀A n c w' ws,fo w' w0.heap.size A n c ws->Small ws->(wv ws:Int)=wv a+sg*wv b->n<=mx+1/\(n<=mx∨Norm ws)->Below w0.heap.size w0 w'->R (.slice A n c) w'):
  ∀(d:Nat)(n:Nat)(A:Option Addr)(c:Nat)(w:World)(ws:List Nat)(s:Int),mx - n=d->n<=mx->fo w w0.heap.size A n c ws->Small ws->Below w0.heap.size w0 w-> -1<=s/\s<=1->
   (wv ws:Int)+(1000000000^n:Nat)*s=wv (a.take n)+sg*wv (b.take n)->
   F.ag.L4 A0 n0 c0 A1 n1 c1 sg A n c s mx n w0.heap.size w R:=by
 intro d;induction d with
 |zero=>
  intro n A c w ws s H hn ho hs hw l inv;have hlen:=ho.len;have ea:a.take n=a:=cc om;have I:b.take n=b:=cc om;rw[ea,I]at inv;have m:=ql hs;rw[hlen]at m;refine F.ag.L4.step ⟨fun h=>by omega,fun h=>⟨fun J=>⟨ir,?_⟩,fun J=> ?_⟩⟩
  ·have K:s=1:=om;subst K;refine yC ry lf ho om hw.size sm om fun A' c' w' o _ q=>D A' _ c' w' _ o (hs.append (Small.cons dc Small.nil)) ?_ ⟨om,.inr (by simp[Norm])⟩ (hw.trans q)
   rw[gR,hlen,<-inv];simp[wv]
  ·refine D A n c w ws ho hs ?_ ⟨om,.inl om⟩ hw;have:s=0:=by
    rcases(by omega:s=0∨s= -1)with h|h
    ·exact h
    ·subst h;omega
   subst this;simpa using inv
 |succ d ih=>
  intro n A c w ws s H hn ho hs hw l inv;have hlen:=ho.len;have L:=y.getD n;have M:=z.getD n;have i:F.ag.KL A0 n0 c0 A1 n1 c1 sg A n c (s+(a.getD n 0:Nat)+sg*(b.getD n 0:Nat)) mx n w0.heap.size w R:=by
   refine OA ho om hw.size (by rcases g with h|h<;>subst h<;>omega) om fun A' c' w' o q=> ?_
   have e:((n:Int)+1)=((n+1:Nat):Int):=om;rw[e];refine ih (n+1) A' c' w' _ _ om om o (hs.append (Small.cons om Small.nil)) (hw.trans q) (by rcases g with h|h<;>subst h<;>omega) ?_;rw[gR,fM,fM,hlen];simp only[wv,YN,xK,Int.natCast_add,Zb,ob];obtain⟨t,N⟩:∃t,t=s+(a.getD n 0:Nat)+sg*(b.getD n 0:Nat):=⟨_,rfl⟩
   rw[<-N];have hx:((t % 1000000000).toNat:Int)=t - 1000000000*(t / 1000000000):=om;rw[hx];generalize ((1000000000^n:Nat):Int)=P at inv⊢;grind
  refine F.ag.L4.step ⟨fun h=> ?_,fun h=>by omega⟩;have k:F.ag.J8 A0 n0 c0 A1 n1 c1 sg A n c (s+(a.getD n 0:Nat)) n mx n w0.heap.size w R:=by
   refine F.ag.J8.step ⟨fun h=> ?_,fun h=> ?_⟩
   ·obtain⟨p,hp,x,hx,O,r⟩:=(hb.below hw).getD z (j:=(n:Int)) om om;rw[cd]at hx;rw[hx]at i M;exact⟨om,p,hp,_,r,ir,by simp only[aN];rcases g with h|h<;>subst h<;>omega,by simp only[aN];rcases g with h|h<;>subst h<;>omega,i⟩
   ·have e:b.getD n 0=0:=by rw[cz,iw om];rfl
    rw[e]at i;simpa using i
  refine⟨fun h=> ?_,fun h=> ?_⟩
  ·obtain⟨p,hp,x,hx,O,r⟩:=(ha.below hw).getD y (j:=(n:Int)) om om;rw[cd]at hx;rw[hx]at k L;exact⟨om,p,hp,_,r,ir,ir,k⟩
  ·have e:a.getD n 0=0:=by rw[cz,iw om];rfl
   rw[e]at k;simpa using k
end

theorem fo.norm{w:World}{B:Nat}{A:Option Addr}{n c:Nat}{ws:List Nat}(h:fo w B A n c ws)(hs:Small ws)(hn:Norm ws)(hl:n<2147483648):iZ w A n c (wv ws):=⟨ws,h.sl,h.len,h.cap,hl,hs,hn,rfl⟩

theorem LD{l:List Nat}(hs:Small l)(h:l=[]∨1000000000^(l.length - 1)<=wv l):Norm l:=by
 rcases h with h|h
 ·subst h;simp[Norm]
 ·intro k;have hn:l≠[]:=fun e=>by subst e;simp at k
  rw[MH hn]at k;have e:l=l.dropLast++[l.getLast hn]:=(CM hn).symm;have a:l.getLast hn=0:=by simpa using k
  rw[e,gR,a]at h;simp only[wv,YN,xK]at h;have b:=ql (l:=l.dropLast) fun x hx=>hs x (List.dropLast_subset _ hx)
  simp at h b;omega

theorem xl{w:World}{A0 A1:Option Addr}{n0 c0 n1 c1:Nat}{a b:List Nat}{sg:Int}(ha:oI w A0 a)(e:a.length=n0)(i:Small a)(hb:oI w A1 b)(j:b.length=n1)(k:Small b)
  (g:sg=1∨sg= -1) (d:0<=(wv a:Int)+sg*wv b) (l:n0<=500000) (h1:n1<=500000):
  Pure Tryz.prog 359 #[.slice A0 n0 c0,.slice A1 n1 c1,.int .i64 sg] w fun v w'=>∃A n c ws,v= .slice A n c/\fo w' w.heap.size A n c ws/\Small ws/\(wv ws:Int)=wv a+sg*wv b/\n<=max n0 n1+1/\(n<=max n0 n1∨Norm ws):=by
 refine F.ag.vc ⟨ir,?_⟩;refine IL ry om om lf fun A c m o _ q=> ?_
 have em:(if(n1:Int)>(n0:Int)then(n1:Int)else(n0:Int))=((max n0 n1:Nat):Int):=by split<;>omega
 rw[em];refine LB (mx:=((max n0 n1:Nat):Int)) ha e i hb j k g d rfl l h1 (fun A n c w' ws r x y z C=>⟨A,n,c,ws,rfl,r,x,y,om,z.2.imp (fun h=>by omega) id⟩) (max n0 n1) 0 A c m [] 0 om om o Small.nil q om (by simp[wv])

theorem Gs{w:World}{A0 A1:Option Addr}{n0 c0 n1 c1 x y:Nat}(ha:iZ w A0 n0 c0 x)(hb:iZ w A1 n1 c1 y)(hx:x<fR)(hy:y<fR):
  Pure Tryz.prog 352 #[.slice A0 n0 c0,.slice A1 n1 c1] w fun v w'=>∃A n c,v= .slice A n c/\iZ w' A n c (x+y):=by
 have o:=ha.len hx;have l1:=hb.len hy;obtain⟨a,h,a2,a3,a4,a5,i,rfl⟩:=ha;obtain⟨b,j,g,q,r,l,m,rfl⟩:=hb;refine F.nJ.vc (pm (xl h a2 a5 j g l (.inl rfl) om om om) ?_);rintro v w' hb ⟨A,n,c,ws,rfl,ho,hs,z,hn,d⟩;refine⟨A,n,c,rfl,A,n,c,rfl,?_⟩;have e:wv ws=wv a+wv b:=om;rw[<-e];refine ho.norm hs (d.elim (fun C=>LD hs ?_) id) om;by_cases hw:ws=[]
 ·exact .inl hw
 ·right
  have hl:=ho.len;have hp:0<ws.length:=zk.2 hw;rw[e];by_cases D:n1<=n0
  ·have h1:=po i (fun k=>by subst k;simp at a2;omega);exact ec (gb om om) (ec h1 om)
  ·have h1:=po m (fun k=>by subst k;simp at g;omega);exact ec (gb om om) (ec h1 om)

theorem Ew{w:World}{A0 A1:Option Addr}{n0 c0 n1 c1 x y:Nat}(ha:iZ w A0 n0 c0 x)(hb:iZ w A1 n1 c1 y)(hx:x<fR)(hy:y<=x):
  Pure Tryz.prog 353 #[.slice A0 n0 c0,.slice A1 n1 c1] w fun v w'=>∃A n c,v= .slice A n c/\iZ w' A n c (x - y):=by
 have o:=ha.len hx;have l1:=hb.len (uQ hy hx);obtain⟨a,d,a2,a3,a4,a5,q,rfl⟩:=ha;obtain⟨b,g,i,r,z,j,C,rfl⟩:=hb;refine F.mG.vc (pm (xl d a2 a5 g i j (.inr rfl) om om om) ?_);rintro v w' hb ⟨A,n,c,ws,rfl,ho,hs,D,hn,k⟩;refine⟨A,n,c,rfl,pm (mH ho.sl ho.len ho.cap om hs) ?_⟩;rintro v E l ⟨rfl,m,rfl,h,_⟩;have e:wv a - wv b=wv ws:=om;rw[e];exact⟨A,m,c,rfl,A,m,c,rfl,h⟩
open Go Go.RowKit Go.Shelf Go.Proofs Go.Proofs.YtmdphpnaipbfjaaGreatDoor.Vc
attribute [local go_sem] Oper.semAt_some

def CK(b:Nat)(W W':World):Prop:=∀(k:Nat)(cs:Array Value)(ty:Nat)(fz:Nat×Nat),W.heap[k]? =some (.cells cs ty fz)->k≠b->ty≠5->W'.heap[k]? =some (.cells cs ty fz)
theorem CK.refl(b:Nat)(W:World):CK b W W:=fun _ _ _ _ h _ _=>h
theorem CK.trans{b:Nat}{W1 W2 W3:World}(h:CK b W1 W2)(k:CK b W2 W3):CK b W1 W3:=fun i cs ty fz h0 h1 h2=>k i cs ty fz (h i cs ty fz h0 h1 h2) h1 h2
theorem CK.putObj{b:Nat}(W:World)(l:Nat)(o o':Obj)(h:W.heap[l]? =some o)(hc:o.isCells=false):CK b W (W.putObj l o'):=by
 intro k cs ty fz h0 _ _;rw[World.putObj_heap_other]
 ·exact h0
 ·intro e;subst e;rw[h]at h0;cases h0;simp[Obj.isCells]at hc

abbrev PW:=Nat×{x:Nat // x<1000000000}
abbrev RC(p:PW):Array Value:= #[.int .i64 (p.1:Int),.int .u32 (p.2.1:Int)]
def Yt(ws:List Nat)(hs:Small ws)(j:Nat):PW:=(j,⟨ws.getD j 0,hs.getD j⟩)
def sJ(ws:List Nat)(hs:Small ws)(m:Nat):List PW:=(List.range (ws.length - m)).map fun t=>Yt ws hs (ws.length - 1 - t)
theorem xP(ws:List Nat)(hs:Small ws){j:Nat}(h:j<ws.length):sJ ws hs j=sJ ws hs (j+1)++[Yt ws hs j]:=by
 unfold sJ;rw[show ws.length - j=(ws.length - (j+1))+1 by omega,GX,eh];simp
 congr 1
 omega
theorem Fj(ws:List Nat)(hs:Small ws):sJ ws hs ws.length=[]:=by simp[sJ]
theorem Gt(ws:List Nat)(hs:Small ws)(m:Nat):(sJ ws hs m).length=ws.length - m:=by simp[sJ]

set_option maxRecDepth 100000 in
set_option maxHeartbeats 2000000 in
theorem Vl(F:Fence)(n:Nat)(h9:F.fn 317)(hro:F.round=none)(hn:1<=n)(l Bs b wb off cap:Nat)(hBs:Bs≠b)(hwb:wb≠b)(ws:List Nat)(hs:Small ws)(hlen:ws.length<=1000000)(J Jx:List PW->World->Prop)
  (hY:∀pre x W,J pre W->pre.length<ws.length->YieldAt F (n - 1) Tryz.prog l (RC x) W fun e W'=>
   (e= .returned (.bool true)/\J (pre++[x]) W'/\CK b W W')∨(e= .returned (.bool false)/\Jx (pre++[x]) W'))
  (W:World) (A:Option Addr) (hA:A=some ⟨wb,off,none⟩) (hBc:W.heap[Bs]? =some (.cells #[.slice A ws.length cap] 314 (0,0))) (all:Array Value) (fr:Nat×Nat) (hw:W.heap[wb]? =some (.cells all 174 fr))
  (hc:∀j,j<ws.length->all[off+j]? =some (.int .u32 (ws.getD j 0:Nat))) (h0:J [] W):
  CallsIn F n Tryz.prog 317 #[.func (.yield l) #[] #[],.pointer (some ⟨Bs,0,none⟩)] W fun e W'=>(∃v,e= .returned v)/\
   ((∃ys,ys=sJ ws hs 0/\J ys W')∨(∃pre,True/\Jx pre W')):=by
 refine callsIn_of_wp Tryz.func317 rfl h9 ?_ hro;simp only[Tryz.ntmps317,Eu,ew,za,Nat.reduceAdd,Nat.reduceSub,UQ,UT,Yc,Vx,u0,vv];subst hA;have cellBs:∀wr,CK b W wr->wr.cell? ⟨Bs,0,none⟩=some (.slice (some ⟨wb,off,none⟩) ws.length cap):=fun wr hk=>by
  have:=hk _ _ _ _ hBc hBs dc;simp[World.cell?,this]
 have hcx0:=cellBs W (CK.refl _ _)
 gi_wp2
 gi_loopw [3] (fun i wr=>∃m:Nat,m<=ws.length/\i= .int .i64 ((m:Int) - 1)/\J (sJ ws hs m) wr/\CK b W wr)
  (fun i _=>(intOf i+1).toNat)
 case atStart=>exact⟨ws.length,ga _,rfl,by rw[Fj];exact h0,CK.refl _ _⟩
 case round=>
  obtain⟨m,hm,rfl,hJs,hnx⟩:=hrel;have hcx:=cellBs wr hnx;cases m with
  |zero=>
   gi_wp2
   go_end0
   exact⟨⟨_,rfl⟩,.inl ⟨_,rfl,hJs⟩⟩
  |succ j=>
   have e1:((j+1:Nat):Int) - 1=(j:Int):=om;have hcw:wr.cell? ⟨wb,off+j,none⟩=some (.int .u32 (ws.getD j 0:Nat)):=by
    have:=hnx _ _ _ _ hw hwb dc;simp only[World.cell?,this];exact hc j om
   obtain⟨fn,tmps,assign,body,hy,hR⟩:=hY _ (Yt ws hs j) wr hJs (by rw[Gt];omega);dsimp only[Yt,RC]at hy;simp only[cz]at hy;rw[e1]
   gi_wp2
   refine hR.mono ?_;rintro e W3 (⟨rfl,hJ3,hk3⟩|⟨rfl,hJx3⟩)
   ·gi_wp2
    go_roundw
    case rel=>exact⟨j,om,rfl,by rw[xP ws hs om];exact hJ3,hnx.trans hk3⟩
    case measure=>simp[intOf]
   ·gi_wp2
    refine bodyPost_ret (results_none rfl _ _ _) rfl ?_;exact⟨⟨_,rfl⟩,.inr ⟨_,trivial,hJx3⟩⟩
end Go.Proofs.YtmdphpnaipbfjaaGreatDoor.B

open Go.Proofs.YtmdphpnaipbfjaaGreatDoor
namespace Go.Proofs
open Go.Shelf
def Tryz.AL:Go.Shelf.Ren:=⟨fun|169=>30|n=>n,fun|70=>85|9=>9|0=>0|72=>88|37=>86|127=>141|3=>3|5=>5|n=>n,fun|n=>n⟩
theorem Tryz.Vm:Go.Proofs.Lays.n169 Tryz.prog Tryz.AL:={
 mixed:=kF
 f169:=Tryz.func30.trans (ca some kF)
 t0:=Tryz.underlying0
 a0:=Tryz.isAgg0
 z0:=Tryz.sizeOf0
 v0:=Tryz.zeroValue0
 t3:=Tryz.underlying3
 a3:=Tryz.isAgg3
 z3:=Tryz.sizeOf3
 v3:=Tryz.zeroValue3
 t9:=Tryz.underlying9
 a9:=Tryz.isAgg9
 z9:=Tryz.sizeOf9
 v9:=Tryz.zeroValue9
 t37:=Tryz.underlying86
 a37:=Tryz.isAgg86
 z37:=Tryz.sizeOf86
 v37:=Tryz.zeroValue86
 t70:=Tryz.underlying85
 a70:=Tryz.isAgg85
 z70:=Tryz.sizeOf85
 v70:=Tryz.zeroValue85
 t72:=Tryz.underlying88
 a72:=Tryz.isAgg88
 z72:=Tryz.sizeOf88
 v72:=Tryz.zeroValue88
 t127:=Tryz.underlying141
 a127:=Tryz.isAgg141
 z127:=Tryz.sizeOf141
 v127:=Tryz.zeroValue141}
theorem Tryz.yD:Builder.Extra Tryz.prog Tryz.AL:={
 sizeBuilder:=kF
 liesBuilder:=kF
 t5:=Tryz.underlying5
 a5:=Tryz.isAgg5
 z5:=Tryz.sizeOf5
 v5:=Tryz.zeroValue5
 infoByte:=kF
 cellsByte:=kF
 sizeByte:=kF
 neB5:=by decide}
def Tryz.IP:Go.Shelf.Ren:=⟨fun|103=>227|210=>266|206=>295|n=>n,fun|9=>9|4=>4|24=>309|3=>3|n=>n,fun|n=>n⟩
theorem Tryz.Vn:Go.Proofs.Lays.n103 Tryz.prog Tryz.IP:={
 mixed:=kF
 f103:=Tryz.func227.trans (ca some kF)
 f206:=Tryz.func295.trans (ca some kF)
 f210:=Tryz.func266.trans (ca some kF)
 t3:=Tryz.underlying3
 a3:=Tryz.isAgg3
 z3:=Tryz.sizeOf3
 v3:=Tryz.zeroValue3
 t4:=Tryz.underlying4
 a4:=Tryz.isAgg4
 z4:=Tryz.sizeOf4
 v4:=Tryz.zeroValue4
 t9:=Tryz.underlying9
 a9:=Tryz.isAgg9
 z9:=Tryz.sizeOf9
 v9:=Tryz.zeroValue9
 t24:=Tryz.underlying309
 a24:=Tryz.isAgg309
 z24:=Tryz.sizeOf309
 v24:=Tryz.zeroValue309}
open Go.RowKit in
theorem Tryz.strings_CutPrefix(s p:ByteArray)(w:World):
  Calls Tryz.prog 227 #[.string s,.string p] w fun e w'=>e= .returned (.tuple #[.string ⟨(Lib.trimPrefix s.data.toList p.data.toList).toArray⟩,.bool (Lib.hasPrefix s.data.toList p.data.toList)])/\w'=w:=Any.strings_CutPrefix Tryz.Vn s p w
def Tryz.IQ:Go.Shelf.Ren:=⟨fun|215=>255|n=>n,fun|3=>3|4=>4|n=>n,fun|n=>n⟩
theorem Tryz.Vo:Go.Proofs.Lays.n215 Tryz.prog Tryz.IQ:={
 mixed:=kF
 f215:=Tryz.func255.trans (ca some kF)
 t3:=Tryz.underlying3
 a3:=Tryz.isAgg3
 z3:=Tryz.sizeOf3
 v3:=Tryz.zeroValue3
 t4:=Tryz.underlying4
 a4:=Tryz.isAgg4
 z4:=Tryz.sizeOf4
 v4:=Tryz.zeroValue4}
open Go.RowKit in
theorem Tryz.cmp_isNaN_int(x:Int)(w:World):
  Calls Tryz.prog 255 #[.int .i64 x] w fun e w'=>e= .returned (.bool false)/\w'=w:=Any.cmp_isNaN_int Tryz.Vo x w
def Tryz.IS:Go.Shelf.Ren:=⟨fun|122=>208|215=>255|n=>n,fun|3=>3|4=>4|n=>n,fun|n=>n⟩
theorem Tryz.Vp:Go.Proofs.Lays.n122 Tryz.prog Tryz.IS:={
 mixed:=kF
 f122:=Tryz.func208.trans (ca some kF)
 f215:=Tryz.func255.trans (ca some kF)
 t3:=Tryz.underlying3
 a3:=Tryz.isAgg3
 z3:=Tryz.sizeOf3
 v3:=Tryz.zeroValue3
 t4:=Tryz.underlying4
 a4:=Tryz.isAgg4
 z4:=Tryz.sizeOf4
 v4:=Tryz.zeroValue4}
open Go.RowKit in
theorem Tryz.cmp_Compare_int(x y:Int)(w:World):
  Calls Tryz.prog 208 #[.int .i64 x,.int .i64 y] w fun e w'=>e= .returned (.int .i64 (Lib.compareInt x y))/\w'=w:=Any.cmp_Compare_int Tryz.Vp x y w
open Go.RowKit in
theorem Tryz.Builder_String_any_k(B b:Nat)(l:List UInt8)(w:World)(h:Lib.IsBuilderF 88 5 B b (Lib.byteCells l) w)(a:B<=w.heap.size):
  Calls Tryz.prog 30 #[.pointer (some ⟨b,0,none⟩)] w fun e w'=>e= .returned (.string ⟨l.toArray⟩)/\(Lib.IsBuilderF 88 5 B b (Lib.byteCells l) w'/\Below B w w'/\Lib.OthersKept 5 (some b) w w'):=Any.Builder_String_any_k Tryz.Vm Tryz.yD B b l w h a
def Tryz.IT:Go.Shelf.Ren:=⟨fun|283=>171|n=>n,fun|3=>3|9=>9|4=>4|n=>n,fun|n=>n⟩
theorem Tryz.Vq:Go.Proofs.Lays.n283 Tryz.prog Tryz.IT:={
 mixed:=kF
 f283:=Tryz.func171.trans (ca some kF)
 t3:=Tryz.underlying3
 a3:=Tryz.isAgg3
 z3:=Tryz.sizeOf3
 v3:=Tryz.zeroValue3
 t4:=Tryz.underlying4
 a4:=Tryz.isAgg4
 z4:=Tryz.sizeOf4
 v4:=Tryz.zeroValue4
 t9:=Tryz.underlying9
 a9:=Tryz.isAgg9
 z9:=Tryz.sizeOf9
 v9:=Tryz.zeroValue9}
open Go.Lib in
theorem Tryz.internal_strconv_small(i:Nat)(h:i<100)(w:World):
  Calls Tryz.prog 171 #[.int .i64 i] w fun e w'=>e= .returned (.string ⟨(Lib.decDigits i).toArray⟩)/\w'=w:=Any.internal_strconv_small Tryz.Vq i h w
def Tryz.Gu:Go.Shelf.Ren:=⟨fun|284=>172|129=>222|317=>221|318=>223|n=>n,fun|53=>177|3=>3|212=>305|0=>0|4=>4|46=>179|5=>5|9=>9|n=>n,fun|17=>0|n=>n⟩
theorem Tryz.RD:Go.Proofs.LaysM.n284 Tryz.prog Tryz.Gu:={
 mixed:=kF
 f129:=Tryz.func222.trans (ca some kF)
 f284:=Tryz.func172.trans (ca some kF)
 f317:=Tryz.func221.trans (ca some kF)
 f318:=Tryz.func223.trans (ca some kF)
 t0:=Tryz.underlying0
 a0:=Tryz.isAgg0
 z0:=Tryz.sizeOf0
 v0:=Tryz.zeroValue0
 t3:=Tryz.underlying3
 a3:=Tryz.isAgg3
 z3:=Tryz.sizeOf3
 v3:=Tryz.zeroValue3
 t4:=Tryz.underlying4
 a4:=Tryz.isAgg4
 z4:=Tryz.sizeOf4
 v4:=Tryz.zeroValue4
 t5:=Tryz.underlying5
 a5:=Tryz.isAgg5
 z5:=Tryz.sizeOf5
 v5:=Tryz.zeroValue5
 t9:=Tryz.underlying9
 a9:=Tryz.isAgg9
 z9:=Tryz.sizeOf9
 v9:=Tryz.zeroValue9
 t46:=Tryz.underlying179
 a46:=Tryz.isAgg179
 z46:=Tryz.sizeOf179
 v46:=Tryz.zeroValue179
 t53:=Tryz.underlying177
 a53:=Tryz.isAgg177
 z53:=Tryz.sizeOf177
 v53:=Tryz.zeroValue177
 t212:=Tryz.underlying305
 a212:=Tryz.isAgg305
 z212:=Tryz.sizeOf305
 v212:=Tryz.zeroValue305
 g17:=kF
 i0:=kF
 i3:=kF
 i4:=kF
 i5:=kF
 i9:=kF
 i46:=kF
 i53:=kF
 i212:=kF
 m17:=by kernel_rfl}
open Go.Lib in
theorem Tryz.internal_strconv_numDigits (u : Nat) (h1 : 1 ≤ u) (b : u < 18446744073709551616) (w : World) (a : Lib.TabIs Tryz.prog w "internal/strconv.uint64pow10" .u64 Lib.pow10Tab) :
  Calls Tryz.prog 172 #[.int .u64 u] w fun e w'=>e= .returned (.int .i64 (Lib.nDigits u))/\w'=w:=Any.internal_strconv_numDigits Tryz.RD u h1 b w a
def Tryz.IU:Go.Shelf.Ren:=⟨fun|285=>173|n=>n,fun|37=>86|53=>177|3=>3|4=>4|51=>174|9=>9|5=>5|0=>0|n=>n,fun|n=>n⟩
theorem Tryz.Vr:Go.Proofs.Lays.n285 Tryz.prog Tryz.IU:={
 mixed:=kF
 f285:=Tryz.func173.trans (ca some kF)
 t0:=Tryz.underlying0
 a0:=Tryz.isAgg0
 z0:=Tryz.sizeOf0
 v0:=Tryz.zeroValue0
 t3:=Tryz.underlying3
 a3:=Tryz.isAgg3
 z3:=Tryz.sizeOf3
 v3:=Tryz.zeroValue3
 t4:=Tryz.underlying4
 a4:=Tryz.isAgg4
 z4:=Tryz.sizeOf4
 v4:=Tryz.zeroValue4
 t5:=Tryz.underlying5
 a5:=Tryz.isAgg5
 z5:=Tryz.sizeOf5
 v5:=Tryz.zeroValue5
 t9:=Tryz.underlying9
 a9:=Tryz.isAgg9
 z9:=Tryz.sizeOf9
 v9:=Tryz.zeroValue9
 t37:=Tryz.underlying86
 a37:=Tryz.isAgg86
 z37:=Tryz.sizeOf86
 v37:=Tryz.zeroValue86
 t51:=Tryz.underlying174
 a51:=Tryz.isAgg174
 z51:=Tryz.sizeOf174
 v51:=Tryz.zeroValue174
 t53:=Tryz.underlying177
 a53:=Tryz.isAgg177
 z53:=Tryz.sizeOf177
 v53:=Tryz.zeroValue177}
open Go.RowKit Go.Sort Go.Lib in
theorem Tryz.internal_strconv_formatBase10(uN off cap:Nat)(u:Nat)(d:Array UInt8)(w:World)(f:Holds (fun(b:UInt8)=>Value.int .u8 (b.toNat:Int)) w uN off d)(hu:u<10^d.size)(a:u<18446744073709551616)(lz:d.size<4611686018427387904):
  Calls Tryz.prog 173 #[.slice (some ⟨uN,off,none⟩) d.size cap,.int .u64 u] w fun e w'=>
   e= .returned (.tuple #[])/\∃(n g:Nat)(c:Array UInt8),w'=(putRow (fun(b:UInt8)=>Value.int .u8 (b.toNat:Int)) w uN off c).drewN n/\FmtInv d.size u 0 g c:=Any.internal_strconv_formatBase10 Tryz.Vr uN off cap u d w f hu a lz
def Tryz.Gv:Go.Shelf.Ren:=⟨fun|171=>42|243=>92|246=>116|283=>171|284=>172|285=>173|286=>174|129=>222|317=>221|318=>223|319=>224|320=>225|337=>260|338=>261|n=>n,fun|3=>3|9=>9|2=>2|4=>4|171=>262|0=>0|53=>177|37=>86|5=>5|173=>265|212=>305|51=>174|20=>20|213=>306|46=>179|232=>357|233=>209|n=>n,fun|17=>0|18=>2|19=>3|n=>n⟩
theorem Tryz.RE:Go.Proofs.LaysM.n171 Tryz.prog Tryz.Gv:={
 mixed:=kF
 f129:=Tryz.func222.trans (ca some kF)
 f171:=Tryz.func42.trans (ca some kF)
 f243:=Tryz.func92.trans (ca some kF)
 f246:=Tryz.func116.trans (ca some kF)
 f283:=Tryz.func171.trans (ca some kF)
 f284:=Tryz.func172.trans (ca some kF)
 f285:=Tryz.func173.trans (ca some kF)
 f286:=Tryz.func174.trans (ca some kF)
 f317:=Tryz.func221.trans (ca some kF)
 f318:=Tryz.func223.trans (ca some kF)
 f319:=Tryz.func224.trans (ca some kF)
 f320:=Tryz.func225.trans (ca some kF)
 f337:=Tryz.func260.trans (ca some kF)
 f338:=Tryz.func261.trans (ca some kF)
 t0:=Tryz.underlying0
 a0:=Tryz.isAgg0
 z0:=Tryz.sizeOf0
 v0:=Tryz.zeroValue0
 t2:=Tryz.underlying2
 a2:=Tryz.isAgg2
 z2:=Tryz.sizeOf2
 v2:=Tryz.zeroValue2
 t3:=Tryz.underlying3
 a3:=Tryz.isAgg3
 z3:=Tryz.sizeOf3
 v3:=Tryz.zeroValue3
 t4:=Tryz.underlying4
 a4:=Tryz.isAgg4
 z4:=Tryz.sizeOf4
 v4:=Tryz.zeroValue4
 t5:=Tryz.underlying5
 a5:=Tryz.isAgg5
 z5:=Tryz.sizeOf5
 v5:=Tryz.zeroValue5
 t9:=Tryz.underlying9
 a9:=Tryz.isAgg9
 z9:=Tryz.sizeOf9
 v9:=Tryz.zeroValue9
 t20:=Tryz.underlying20
 a20:=Tryz.isAgg20
 z20:=Tryz.sizeOf20
 v20:=Tryz.zeroValue20
 t37:=Tryz.underlying86
 a37:=Tryz.isAgg86
 z37:=Tryz.sizeOf86
 v37:=Tryz.zeroValue86
 t46:=Tryz.underlying179
 a46:=Tryz.isAgg179
 z46:=Tryz.sizeOf179
 v46:=Tryz.zeroValue179
 t51:=Tryz.underlying174
 a51:=Tryz.isAgg174
 z51:=Tryz.sizeOf174
 v51:=Tryz.zeroValue174
 t53:=Tryz.underlying177
 a53:=Tryz.isAgg177
 z53:=Tryz.sizeOf177
 v53:=Tryz.zeroValue177
 t171:=Tryz.underlying262
 a171:=Tryz.isAgg262
 z171:=Tryz.sizeOf262
 v171:=Tryz.zeroValue262
 t173:=Tryz.underlying265
 a173:=Tryz.isAgg265
 z173:=Tryz.sizeOf265
 v173:=Tryz.zeroValue265
 t212:=Tryz.underlying305
 a212:=Tryz.isAgg305
 z212:=Tryz.sizeOf305
 v212:=Tryz.zeroValue305
 t213:=Tryz.underlying306
 a213:=Tryz.isAgg306
 z213:=Tryz.sizeOf306
 t232:=Tryz.underlying357
 a232:=Tryz.isAgg357
 z232:=Tryz.sizeOf357
 v232:=Tryz.zeroValue357
 t233:=Tryz.underlying209
 a233:=Tryz.isAgg209
 z233:=Tryz.sizeOf209
 v233:=Tryz.zeroValue209
 g17:=kF
 g18:=kF
 g19:=kF
 i0:=kF
 i2:=kF
 i3:=kF
 i4:=kF
 i5:=kF
 i9:=kF
 i20:=kF
 i37:=kF
 i46:=kF
 i51:=kF
 i53:=kF
 i171:=kF
 i173:=kF
 i212:=kF
 i232:=kF
 i233:=kF
 m17:=kF
 m18:=kF
 m19:=by kernel_rfl}
open Go.RowKit Go.Sort Go.Lib in
theorem Tryz.strconv_Itoa (n : Int) (b : -9223372036854775808 ≤ n) (h1 : n ≤ 9223372036854775807) (w : World) (a : Lib.TabIs Tryz.prog w "internal/strconv.uint64pow10" .u64 Lib.pow10Tab) :
  Calls Tryz.prog 42 #[.int .i64 n] w fun e w'=>e= .returned (.string ⟨(Lib.itoa n).toArray⟩)/\∃k os,w'=grow (w.drewN k) os:=Any.strconv_Itoa Tryz.RE n b h1 w a
def Tryz.Gw:Go.Shelf.Ren:=⟨fun|173=>361|246=>116|283=>171|284=>172|285=>173|286=>174|129=>222|317=>221|318=>223|319=>224|320=>225|337=>260|338=>261|n=>n,fun|2=>2|3=>3|9=>9|4=>4|171=>262|0=>0|53=>177|37=>86|5=>5|173=>265|212=>305|51=>174|20=>20|213=>306|46=>179|232=>357|233=>209|n=>n,fun|17=>0|18=>2|19=>3|n=>n⟩
theorem Tryz.RF:Go.Proofs.LaysM.n173 Tryz.prog Tryz.Gw:={
 mixed:=kF
 f129:=Tryz.func222.trans (ca some kF)
 f173:=Tryz.func361.trans (ca some kF)
 f246:=Tryz.func116.trans (ca some kF)
 f283:=Tryz.func171.trans (ca some kF)
 f284:=Tryz.func172.trans (ca some kF)
 f285:=Tryz.func173.trans (ca some kF)
 f286:=Tryz.func174.trans (ca some kF)
 f317:=Tryz.func221.trans (ca some kF)
 f318:=Tryz.func223.trans (ca some kF)
 f319:=Tryz.func224.trans (ca some kF)
 f320:=Tryz.func225.trans (ca some kF)
 f337:=Tryz.func260.trans (ca some kF)
 f338:=Tryz.func261.trans (ca some kF)
 t0:=Tryz.underlying0
 a0:=Tryz.isAgg0
 z0:=Tryz.sizeOf0
 v0:=Tryz.zeroValue0
 t2:=Tryz.underlying2
 a2:=Tryz.isAgg2
 z2:=Tryz.sizeOf2
 v2:=Tryz.zeroValue2
 t3:=Tryz.underlying3
 a3:=Tryz.isAgg3
 z3:=Tryz.sizeOf3
 v3:=Tryz.zeroValue3
 t4:=Tryz.underlying4
 a4:=Tryz.isAgg4
 z4:=Tryz.sizeOf4
 v4:=Tryz.zeroValue4
 t5:=Tryz.underlying5
 a5:=Tryz.isAgg5
 z5:=Tryz.sizeOf5
 v5:=Tryz.zeroValue5
 t9:=Tryz.underlying9
 a9:=Tryz.isAgg9
 z9:=Tryz.sizeOf9
 v9:=Tryz.zeroValue9
 t20:=Tryz.underlying20
 a20:=Tryz.isAgg20
 z20:=Tryz.sizeOf20
 v20:=Tryz.zeroValue20
 t37:=Tryz.underlying86
 a37:=Tryz.isAgg86
 z37:=Tryz.sizeOf86
 v37:=Tryz.zeroValue86
 t46:=Tryz.underlying179
 a46:=Tryz.isAgg179
 z46:=Tryz.sizeOf179
 v46:=Tryz.zeroValue179
 t51:=Tryz.underlying174
 a51:=Tryz.isAgg174
 z51:=Tryz.sizeOf174
 v51:=Tryz.zeroValue174
 t53:=Tryz.underlying177
 a53:=Tryz.isAgg177
 z53:=Tryz.sizeOf177
 v53:=Tryz.zeroValue177
 t171:=Tryz.underlying262
 a171:=Tryz.isAgg262
 z171:=Tryz.sizeOf262
 v171:=Tryz.zeroValue262
 t173:=Tryz.underlying265
 a173:=Tryz.isAgg265
 z173:=Tryz.sizeOf265
 v173:=Tryz.zeroValue265
 t212:=Tryz.underlying305
 a212:=Tryz.isAgg305
 z212:=Tryz.sizeOf305
 v212:=Tryz.zeroValue305
 t213:=Tryz.underlying306
 a213:=Tryz.isAgg306
 z213:=Tryz.sizeOf306
 t232:=Tryz.underlying357
 a232:=Tryz.isAgg357
 z232:=Tryz.sizeOf357
 v232:=Tryz.zeroValue357
 t233:=Tryz.underlying209
 a233:=Tryz.isAgg209
 z233:=Tryz.sizeOf209
 v233:=Tryz.zeroValue209
 g17:=kF
 g18:=kF
 g19:=kF
 i0:=kF
 i2:=kF
 i3:=kF
 i4:=kF
 i5:=kF
 i9:=kF
 i20:=kF
 i37:=kF
 i46:=kF
 i51:=kF
 i53:=kF
 i171:=kF
 i173:=kF
 i212:=kF
 i232:=kF
 i233:=kF
 m17:=kF
 m18:=kF
 m19:=by kernel_rfl}
open Go.RowKit Go.Sort Go.Lib in
theorem Tryz.strconv_FormatInt_10 (n : Int) (b : -9223372036854775808 ≤ n) (h1 : n ≤ 9223372036854775807) (w : World) (a : Lib.TabIs Tryz.prog w "internal/strconv.uint64pow10" .u64 Lib.pow10Tab) :
  Calls Tryz.prog 361 #[.int .i64 n,.int .i64 10] w fun e w'=>e= .returned (.string ⟨(Lib.itoa n).toArray⟩)/\∃k os,w'=grow (w.drewN k) os:=Any.strconv_FormatInt_10 Tryz.RF n b h1 w a
def Tryz.Gx:Go.Shelf.Ren:=⟨fun|174=>360|247=>364|245=>316|287=>315|279=>332|280=>333|281=>334|282=>335|321=>330|322=>331|316=>349|171=>42|205=>350|243=>92|246=>116|283=>171|284=>172|285=>173|286=>174|129=>222|317=>221|318=>223|319=>224|320=>225|337=>260|338=>261|n=>n,fun|9=>9|3=>3|2=>2|75=>91|85=>411|4=>4|167=>389|5=>5|53=>177|175=>362|46=>179|168=>391|37=>86|0=>0|210=>400|21=>21|127=>141|145=>409|143=>407|171=>262|173=>265|212=>305|51=>174|20=>20|213=>306|232=>357|233=>209|80=>95|n=>n,fun|15=>4|16=>5|17=>0|18=>2|19=>3|n=>n⟩
theorem Tryz.RG:Go.Proofs.LaysC.n174 Tryz.prog Tryz.Gx:={
 mixed:=kF
 f129:=Tryz.func222.trans (ca some kF)
 f171:=Tryz.func42.trans (ca some kF)
 f174:=Tryz.func360.trans (ca some kF)
 f205:=Tryz.func350.trans (ca some kF)
 f243:=Tryz.func92.trans (ca some kF)
 f245:=Tryz.func316.trans (ca some kF)
 f246:=Tryz.func116.trans (ca some kF)
 f247:=Tryz.func364.trans (ca some kF)
 f279:=Tryz.func332.trans (ca some kF)
 f280:=Tryz.func333.trans (ca some kF)
 f281:=Tryz.func334.trans (ca some kF)
 f282:=Tryz.func335.trans (ca some kF)
 f283:=Tryz.func171.trans (ca some kF)
 f284:=Tryz.func172.trans (ca some kF)
 f285:=Tryz.func173.trans (ca some kF)
 f286:=Tryz.func174.trans (ca some kF)
 f287:=Tryz.func315.trans (ca some kF)
 f316:=Tryz.func349.trans (ca some kF)
 f317:=Tryz.func221.trans (ca some kF)
 f318:=Tryz.func223.trans (ca some kF)
 f319:=Tryz.func224.trans (ca some kF)
 f320:=Tryz.func225.trans (ca some kF)
 f321:=Tryz.func330.trans (ca some kF)
 f322:=Tryz.func331.trans (ca some kF)
 f337:=Tryz.func260.trans (ca some kF)
 f338:=Tryz.func261.trans (ca some kF)
 t0:=Tryz.underlying0
 a0:=Tryz.isAgg0
 z0:=Tryz.sizeOf0
 v0:=Tryz.zeroValue0
 t2:=Tryz.underlying2
 a2:=Tryz.isAgg2
 z2:=Tryz.sizeOf2
 v2:=Tryz.zeroValue2
 t3:=Tryz.underlying3
 a3:=Tryz.isAgg3
 z3:=Tryz.sizeOf3
 v3:=Tryz.zeroValue3
 t4:=Tryz.underlying4
 a4:=Tryz.isAgg4
 z4:=Tryz.sizeOf4
 v4:=Tryz.zeroValue4
 t5:=Tryz.underlying5
 a5:=Tryz.isAgg5
 z5:=Tryz.sizeOf5
 v5:=Tryz.zeroValue5
 t9:=Tryz.underlying9
 a9:=Tryz.isAgg9
 z9:=Tryz.sizeOf9
 v9:=Tryz.zeroValue9
 t20:=Tryz.underlying20
 a20:=Tryz.isAgg20
 z20:=Tryz.sizeOf20
 v20:=Tryz.zeroValue20
 t21:=Tryz.underlying21
 a21:=Tryz.isAgg21
 z21:=Tryz.sizeOf21
 v21:=Tryz.zeroValue21
 t37:=Tryz.underlying86
 a37:=Tryz.isAgg86
 z37:=Tryz.sizeOf86
 v37:=Tryz.zeroValue86
 t46:=Tryz.underlying179
 a46:=Tryz.isAgg179
 z46:=Tryz.sizeOf179
 v46:=Tryz.zeroValue179
 t51:=Tryz.underlying174
 a51:=Tryz.isAgg174
 z51:=Tryz.sizeOf174
 v51:=Tryz.zeroValue174
 t53:=Tryz.underlying177
 a53:=Tryz.isAgg177
 z53:=Tryz.sizeOf177
 v53:=Tryz.zeroValue177
 t75:=Tryz.underlying91
 a75:=Tryz.isAgg91
 z75:=Tryz.sizeOf91
 v75:=Tryz.zeroValue91
 t85:=Tryz.underlying411
 a85:=Tryz.isAgg411
 z85:=Tryz.sizeOf411
 v85:=Tryz.zeroValue411
 t127:=Tryz.underlying141
 a127:=Tryz.isAgg141
 z127:=Tryz.sizeOf141
 v127:=Tryz.zeroValue141
 t143:=Tryz.underlying407
 a143:=Tryz.isAgg407
 z143:=Tryz.sizeOf407
 v143:=Tryz.zeroValue407
 t145:=Tryz.underlying409
 a145:=Tryz.isAgg409
 z145:=Tryz.sizeOf409
 v145:=Tryz.zeroValue409
 t167:=Tryz.underlying389
 a167:=Tryz.isAgg389
 z167:=Tryz.sizeOf389
 v167:=Tryz.zeroValue389
 t168:=Tryz.underlying391
 a168:=Tryz.isAgg391
 z168:=Tryz.sizeOf391
 v168:=Tryz.zeroValue391
 t171:=Tryz.underlying262
 a171:=Tryz.isAgg262
 z171:=Tryz.sizeOf262
 v171:=Tryz.zeroValue262
 t173:=Tryz.underlying265
 a173:=Tryz.isAgg265
 z173:=Tryz.sizeOf265
 v173:=Tryz.zeroValue265
 t175:=Tryz.underlying362
 a175:=Tryz.isAgg362
 z175:=Tryz.sizeOf362
 v175:=Tryz.zeroValue362
 t210:=Tryz.underlying400
 a210:=Tryz.isAgg400
 z210:=Tryz.sizeOf400
 v210:=Tryz.zeroValue400
 t212:=Tryz.underlying305
 a212:=Tryz.isAgg305
 z212:=Tryz.sizeOf305
 v212:=Tryz.zeroValue305
 t213:=Tryz.underlying306
 a213:=Tryz.isAgg306
 z213:=Tryz.sizeOf306
 t232:=Tryz.underlying357
 a232:=Tryz.isAgg357
 z232:=Tryz.sizeOf357
 v232:=Tryz.zeroValue357
 t233:=Tryz.underlying209
 a233:=Tryz.isAgg209
 z233:=Tryz.sizeOf209
 v233:=Tryz.zeroValue209
 g15:=kF
 g16:=kF
 g17:=kF
 g18:=kF
 g19:=kF
 t80:=Tryz.underlying95
 a80:=Tryz.isAgg95
 z80:=Tryz.sizeOf95
 v80:=Tryz.zeroValue95
 i0:=kF
 i2:=kF
 i3:=kF
 i4:=kF
 i5:=kF
 i9:=kF
 i20:=kF
 i21:=kF
 i37:=kF
 i46:=kF
 i51:=kF
 i53:=kF
 i75:=kF
 i80:=kF
 i85:=kF
 i127:=kF
 i143:=kF
 i145:=kF
 i167:=kF
 i168:=kF
 i171:=kF
 i173:=kF
 i175:=kF
 i210:=kF
 i212:=kF
 i232:=kF
 i233:=kF
 m15:=kF
 m16:=kF
 m17:=kF
 m18:=kF
 m19:=kF
 c0:=kF
 c2:=kF
 c3:=kF
 c4:=kF
 c5:=kF
 c9:=kF
 c20:=kF
 c21:=kF
 c37:=kF
 c46:=kF
 c51:=kF
 c53:=kF
 c75:=kF
 c80:=kF
 c85:=kF
 c127:=kF
 c143:=kF
 c145:=kF
 c167:=kF
 c168:=kF
 c171:=kF
 c173:=kF
 c175:=kF
 c210:=kF
 c212:=kF
 c213:=kF
 c232:=kF
 c233:=by kernel_rfl}
open Go.RowKit in
theorem Tryz.strconv_ParseInt_10_at64_ok(s:ByteArray)(a:s.size<=9223372036854775806)(v:Int)(h:Lib.parseIntB 64 s.data.toList= .ok v)(w:World):
  Calls Tryz.prog 360 #[.string s,.int .i64 10,.int .i64 64] w fun e w'=>e= .returned (.tuple #[.int .i64 v,.nilIface])/\(w'=w∨∃t,w'=Lib.bytesWorld w 5 t):=Any.strconv_ParseInt_10_at64_ok Tryz.RG s a v h w
def Tryz.Gy:Go.Shelf.Ren:=⟨fun|14=>297|16=>315|17=>316|19=>330|20=>331|21=>332|22=>333|23=>334|24=>335|25=>349|27=>42|26=>350|28=>92|29=>116|30=>171|31=>172|32=>173|33=>174|35=>222|34=>221|36=>223|37=>224|38=>225|39=>260|40=>261|n=>n,fun|9=>9|3=>3|22=>177|24=>91|25=>362|4=>4|34=>389|5=>5|36=>179|37=>86|0=>0|39=>391|21=>21|44=>400|47=>141|50=>409|48=>407|2=>2|52=>262|55=>265|59=>305|60=>174|20=>20|61=>306|65=>357|66=>209|67=>95|n=>n,fun|0=>4|1=>5|2=>0|3=>2|4=>3|n=>n⟩
theorem Tryz.RH:Go.Proofs.LaysPu.n14 Tryz.prog Tryz.Gy:={
 mixed:=kF
 f14:=Tryz.func297.trans (ca some kF)
 f16:=Tryz.func315.trans (ca some kF)
 f17:=Tryz.func316.trans (ca some kF)
 f19:=Tryz.func330.trans (ca some kF)
 f20:=Tryz.func331.trans (ca some kF)
 f21:=Tryz.func332.trans (ca some kF)
 f22:=Tryz.func333.trans (ca some kF)
 f23:=Tryz.func334.trans (ca some kF)
 f24:=Tryz.func335.trans (ca some kF)
 f25:=Tryz.func349.trans (ca some kF)
 f26:=Tryz.func350.trans (ca some kF)
 f27:=Tryz.func42.trans (ca some kF)
 f28:=Tryz.func92.trans (ca some kF)
 f29:=Tryz.func116.trans (ca some kF)
 f30:=Tryz.func171.trans (ca some kF)
 f31:=Tryz.func172.trans (ca some kF)
 f32:=Tryz.func173.trans (ca some kF)
 f33:=Tryz.func174.trans (ca some kF)
 f34:=Tryz.func221.trans (ca some kF)
 f35:=Tryz.func222.trans (ca some kF)
 f36:=Tryz.func223.trans (ca some kF)
 f37:=Tryz.func224.trans (ca some kF)
 f38:=Tryz.func225.trans (ca some kF)
 f39:=Tryz.func260.trans (ca some kF)
 f40:=Tryz.func261.trans (ca some kF)
 t0:=Tryz.underlying0
 a0:=Tryz.isAgg0
 z0:=Tryz.sizeOf0
 v0:=Tryz.zeroValue0
 i0:=kF
 t2:=Tryz.underlying2
 a2:=Tryz.isAgg2
 z2:=Tryz.sizeOf2
 v2:=Tryz.zeroValue2
 i2:=kF
 t3:=Tryz.underlying3
 a3:=Tryz.isAgg3
 z3:=Tryz.sizeOf3
 v3:=Tryz.zeroValue3
 i3:=kF
 t4:=Tryz.underlying4
 a4:=Tryz.isAgg4
 z4:=Tryz.sizeOf4
 v4:=Tryz.zeroValue4
 i4:=kF
 t5:=Tryz.underlying5
 a5:=Tryz.isAgg5
 z5:=Tryz.sizeOf5
 v5:=Tryz.zeroValue5
 i5:=kF
 t9:=Tryz.underlying9
 a9:=Tryz.isAgg9
 z9:=Tryz.sizeOf9
 v9:=Tryz.zeroValue9
 i9:=kF
 t20:=Tryz.underlying20
 a20:=Tryz.isAgg20
 z20:=Tryz.sizeOf20
 v20:=Tryz.zeroValue20
 i20:=kF
 t21:=Tryz.underlying21
 a21:=Tryz.isAgg21
 z21:=Tryz.sizeOf21
 v21:=Tryz.zeroValue21
 i21:=kF
 t22:=Tryz.underlying177
 a22:=Tryz.isAgg177
 z22:=Tryz.sizeOf177
 v22:=Tryz.zeroValue177
 i22:=kF
 t24:=Tryz.underlying91
 a24:=Tryz.isAgg91
 z24:=Tryz.sizeOf91
 v24:=Tryz.zeroValue91
 i24:=kF
 t25:=Tryz.underlying362
 a25:=Tryz.isAgg362
 z25:=Tryz.sizeOf362
 v25:=Tryz.zeroValue362
 i25:=kF
 t34:=Tryz.underlying389
 a34:=Tryz.isAgg389
 z34:=Tryz.sizeOf389
 v34:=Tryz.zeroValue389
 i34:=kF
 c34:=kF
 t36:=Tryz.underlying179
 a36:=Tryz.isAgg179
 z36:=Tryz.sizeOf179
 v36:=Tryz.zeroValue179
 i36:=kF
 t37:=Tryz.underlying86
 a37:=Tryz.isAgg86
 z37:=Tryz.sizeOf86
 v37:=Tryz.zeroValue86
 i37:=kF
 t39:=Tryz.underlying391
 a39:=Tryz.isAgg391
 z39:=Tryz.sizeOf391
 v39:=Tryz.zeroValue391
 i39:=kF
 t44:=Tryz.underlying400
 a44:=Tryz.isAgg400
 z44:=Tryz.sizeOf400
 v44:=Tryz.zeroValue400
 i44:=kF
 t47:=Tryz.underlying141
 a47:=Tryz.isAgg141
 z47:=Tryz.sizeOf141
 v47:=Tryz.zeroValue141
 i47:=kF
 t48:=Tryz.underlying407
 a48:=Tryz.isAgg407
 z48:=Tryz.sizeOf407
 v48:=Tryz.zeroValue407
 i48:=kF
 t50:=Tryz.underlying409
 a50:=Tryz.isAgg409
 z50:=Tryz.sizeOf409
 v50:=Tryz.zeroValue409
 i50:=kF
 t52:=Tryz.underlying262
 a52:=Tryz.isAgg262
 z52:=Tryz.sizeOf262
 v52:=Tryz.zeroValue262
 i52:=kF
 t55:=Tryz.underlying265
 a55:=Tryz.isAgg265
 z55:=Tryz.sizeOf265
 v55:=Tryz.zeroValue265
 i55:=kF
 t59:=Tryz.underlying305
 a59:=Tryz.isAgg305
 z59:=Tryz.sizeOf305
 v59:=Tryz.zeroValue305
 i59:=kF
 t60:=Tryz.underlying174
 a60:=Tryz.isAgg174
 z60:=Tryz.sizeOf174
 v60:=Tryz.zeroValue174
 i60:=kF
 t61:=Tryz.underlying306
 a61:=Tryz.isAgg306
 z61:=Tryz.sizeOf306
 t65:=Tryz.underlying357
 a65:=Tryz.isAgg357
 z65:=Tryz.sizeOf357
 v65:=Tryz.zeroValue357
 i65:=kF
 t66:=Tryz.underlying209
 a66:=Tryz.isAgg209
 z66:=Tryz.sizeOf209
 v66:=Tryz.zeroValue209
 i66:=kF
 t67:=Tryz.underlying95
 a67:=Tryz.isAgg95
 z67:=Tryz.sizeOf95
 v67:=Tryz.zeroValue95
 i67:=kF
 g0:=kF
 m0:=kF
 g1:=kF
 m1:=kF
 g2:=kF
 m2:=kF
 g3:=kF
 m3:=kF
 g4:=kF
 m4:=by kernel_rfl}
open Go.RowKit in
theorem Tryz.strconv_ParseUint_10_at32_ok(s:ByteArray)(a:s.size<=9223372036854775806)(u:Nat)(h:Lib.parseUintB 32 s.data.toList= .ok u)(w:World):
  Calls Tryz.prog 297 #[.string s,.int .i64 10,.int .i64 32] w fun e w'=>e= .returned (.tuple #[.int .u64 u,.nilIface])/\(w'=w∨w'=Lib.bytesWorld w 5 s):=Any.strconv_ParseUint_10_at32_ok Tryz.RH s a u h w
def Tryz.IV:Go.Shelf.Ren:=⟨fun|145=>122|220=>178|219=>226|217=>262|225=>263|224=>264|267=>265|266=>293|314=>294|n=>n,fun|9=>9|4=>4|59=>216|3=>3|5=>5|46=>179|146=>358|51=>174|n=>n,fun|1=>1|n=>n⟩
theorem Tryz.Vs:Go.Proofs.Lays.n145 Tryz.prog Tryz.IV:={
 mixed:=kF
 f145:=Tryz.func122.trans (ca some kF)
 f217:=Tryz.func262.trans (ca some kF)
 f219:=Tryz.func226.trans (ca some kF)
 f220:=Tryz.func178.trans (ca some kF)
 f224:=Tryz.func264.trans (ca some kF)
 f225:=Tryz.func263.trans (ca some kF)
 f266:=Tryz.func293.trans (ca some kF)
 f267:=Tryz.func265.trans (ca some kF)
 f314:=Tryz.func294.trans (ca some kF)
 t3:=Tryz.underlying3
 a3:=Tryz.isAgg3
 z3:=Tryz.sizeOf3
 v3:=Tryz.zeroValue3
 t4:=Tryz.underlying4
 a4:=Tryz.isAgg4
 z4:=Tryz.sizeOf4
 v4:=Tryz.zeroValue4
 t5:=Tryz.underlying5
 a5:=Tryz.isAgg5
 z5:=Tryz.sizeOf5
 v5:=Tryz.zeroValue5
 t9:=Tryz.underlying9
 a9:=Tryz.isAgg9
 z9:=Tryz.sizeOf9
 v9:=Tryz.zeroValue9
 t46:=Tryz.underlying179
 a46:=Tryz.isAgg179
 z46:=Tryz.sizeOf179
 v46:=Tryz.zeroValue179
 t51:=Tryz.underlying174
 a51:=Tryz.isAgg174
 z51:=Tryz.sizeOf174
 v51:=Tryz.zeroValue174
 t59:=Tryz.underlying216
 a59:=Tryz.isAgg216
 z59:=Tryz.sizeOf216
 v59:=Tryz.zeroValue216
 t146:=Tryz.underlying358
 a146:=Tryz.isAgg358
 z146:=Tryz.sizeOf358
 v146:=Tryz.zeroValue358
 g1:=by kernel_rfl}
open Go.RowKit Go.Lib in
theorem Tryz.strings_Cut(s sep:ByteArray)(m:Int)(w:World)(hs:s.size<4294967281)(hm:w.cell? ⟨1,0,none⟩=some (.int .i64 m)):
  Calls Tryz.prog 122 #[.string s,.string sep] w fun e w'=>e= .returned (.tuple #[.string ⟨(Lib.cut s.data.toList sep.data.toList).1.toArray⟩,.string ⟨(Lib.cut s.data.toList sep.data.toList).2.1.toArray⟩,.bool (Lib.cut s.data.toList sep.data.toList).2.2])/\∃n,w'=w.drewN n:=Any.strings_Cut Tryz.Vs s sep m w hs hm
def Tryz.AM:Go.Shelf.Ren:=⟨fun|105=>301|212=>319|99=>320|165=>321|166=>28|170=>322|169=>30|263=>336|264=>337|206=>295|240=>65|241=>338|276=>102|277=>351|n=>n,fun|9=>9|3=>3|4=>4|20=>20|0=>0|46=>179|109=>381|5=>5|72=>88|76=>92|51=>174|146=>358|53=>177|148=>395|70=>85|37=>86|75=>91|127=>141|164=>187|80=>95|n=>n,fun|n=>n⟩
theorem Tryz.Vt:Go.Proofs.Lays.n105 Tryz.prog Tryz.AM:={
 mixed:=kF
 f99:=Tryz.func320.trans (ca some kF)
 f105:=Tryz.func301.trans (ca some kF)
 f165:=Tryz.func321.trans (ca some kF)
 f166:=Tryz.func28.trans (ca some kF)
 f169:=Tryz.func30.trans (ca some kF)
 f170:=Tryz.func322.trans (ca some kF)
 f206:=Tryz.func295.trans (ca some kF)
 f212:=Tryz.func319.trans (ca some kF)
 f240:=Tryz.func65.trans (ca some kF)
 f241:=Tryz.func338.trans (ca some kF)
 f263:=Tryz.func336.trans (ca some kF)
 f264:=Tryz.func337.trans (ca some kF)
 f276:=Tryz.func102.trans (ca some kF)
 f277:=Tryz.func351.trans (ca some kF)
 t0:=Tryz.underlying0
 a0:=Tryz.isAgg0
 z0:=Tryz.sizeOf0
 v0:=Tryz.zeroValue0
 t3:=Tryz.underlying3
 a3:=Tryz.isAgg3
 z3:=Tryz.sizeOf3
 v3:=Tryz.zeroValue3
 t4:=Tryz.underlying4
 a4:=Tryz.isAgg4
 z4:=Tryz.sizeOf4
 v4:=Tryz.zeroValue4
 t5:=Tryz.underlying5
 a5:=Tryz.isAgg5
 z5:=Tryz.sizeOf5
 v5:=Tryz.zeroValue5
 t9:=Tryz.underlying9
 a9:=Tryz.isAgg9
 z9:=Tryz.sizeOf9
 v9:=Tryz.zeroValue9
 t20:=Tryz.underlying20
 a20:=Tryz.isAgg20
 z20:=Tryz.sizeOf20
 v20:=Tryz.zeroValue20
 t37:=Tryz.underlying86
 a37:=Tryz.isAgg86
 z37:=Tryz.sizeOf86
 v37:=Tryz.zeroValue86
 t46:=Tryz.underlying179
 a46:=Tryz.isAgg179
 z46:=Tryz.sizeOf179
 v46:=Tryz.zeroValue179
 t51:=Tryz.underlying174
 a51:=Tryz.isAgg174
 z51:=Tryz.sizeOf174
 v51:=Tryz.zeroValue174
 t53:=Tryz.underlying177
 a53:=Tryz.isAgg177
 z53:=Tryz.sizeOf177
 v53:=Tryz.zeroValue177
 t70:=Tryz.underlying85
 a70:=Tryz.isAgg85
 z70:=Tryz.sizeOf85
 v70:=Tryz.zeroValue85
 t72:=Tryz.underlying88
 a72:=Tryz.isAgg88
 z72:=Tryz.sizeOf88
 v72:=Tryz.zeroValue88
 t75:=Tryz.underlying91
 a75:=Tryz.isAgg91
 z75:=Tryz.sizeOf91
 v75:=Tryz.zeroValue91
 t76:=Tryz.underlying92
 a76:=Tryz.isAgg92
 z76:=Tryz.sizeOf92
 v76:=Tryz.zeroValue92
 t109:=Tryz.underlying381
 a109:=Tryz.isAgg381
 z109:=Tryz.sizeOf381
 v109:=Tryz.zeroValue381
 t127:=Tryz.underlying141
 a127:=Tryz.isAgg141
 z127:=Tryz.sizeOf141
 v127:=Tryz.zeroValue141
 t146:=Tryz.underlying358
 a146:=Tryz.isAgg358
 z146:=Tryz.sizeOf358
 v146:=Tryz.zeroValue358
 t148:=Tryz.underlying395
 a148:=Tryz.isAgg395
 z148:=Tryz.sizeOf395
 v148:=Tryz.zeroValue395
 t164:=Tryz.underlying187
 a164:=Tryz.isAgg187
 z164:=Tryz.sizeOf187
 v164:=Tryz.zeroValue187}
theorem Tryz.yE:Builder.Extra Tryz.prog Tryz.AM:={
 sizeBuilder:=kF
 liesBuilder:=kF
 t5:=Tryz.underlying5
 a5:=Tryz.isAgg5
 z5:=Tryz.sizeOf5
 v5:=Tryz.zeroValue5
 infoByte:=kF
 cellsByte:=kF
 sizeByte:=kF
 neB5:=by decide}
open Go.RowKit Go.Lib in
theorem Tryz.strings_Repeat(s:ByteArray)(c:Nat)(w:World)(a:c<=9223372036854775807)(hlen:s.size*c<=140737488355328):
  Calls Tryz.prog 301 #[.string s,.int .i64 c] w fun e w'=>e= .returned (.string ⟨(Lib.repeatL s.data.toList c).toArray⟩)/\Below w.heap.size w w':=Any.strings_Repeat Tryz.Vt Tryz.yE s c w a hlen
end Go.Proofs

open Go.Proofs.YtmdphpnaipbfjaaGreatDoor
namespace Go.Proofs
open Go.Shelf Go.RowKit

theorem Tryz.bX:(Tryz.prog.info? 88).map (·.size)=some 2:=kF
theorem Tryz.adY:liesAt Tryz.prog Tryz.prog.depth 88 (2 / Tryz.prog.cellsOf 88) 0 88 1=true:=kF
theorem Tryz.bInfo:(Tryz.prog.info? 5).map (fun i=>(i.zero,i.size,i.bytes))=some (some (.int .u8 0),1,1):=kF
theorem Tryz.LF:Tryz.prog.follows .mixedOrders=true:=kF

set_option maxHeartbeats 1000000 in
set_option maxRecDepth 100000 in
theorem Tryz.LG(b:Nat)(w:World)(h0:w.cell? ⟨b,0,none⟩=some (.pointer (some ⟨b,0,none⟩))):
  Calls Tryz.prog 65 #[.pointer (some ⟨b,0,none⟩)] w fun e w'=>e= .returned (.tuple #[])/\w'=w:=by
 obtain⟨j,hj,_⟩:=va.1 Tryz.bX;have mixed:=Tryz.LF;have t72:=Tryz.underlying88;have a72:=Tryz.isAgg88;have z72:=Tryz.sizeOf88;have v72:=Tryz.zeroValue88;have u72:=run_underlying t72;have t70:=Tryz.underlying85;have a70:=Tryz.isAgg85;have z70:=Tryz.sizeOf85;have v70:=Tryz.zeroValue85;have u70:=run_underlying t70;have t4:=Tryz.underlying4;have a4:=Tryz.isAgg4;have z4:=Tryz.sizeOf4;have v4:=Tryz.zeroValue4;have u4:=run_underlying t4;have t164:=Tryz.underlying187;have a164:=Tryz.isAgg187;have z164:=Tryz.sizeOf187;have v164:=Tryz.zeroValue187;have u164:=run_underlying t164
 go_enter Tryz.func65,Tryz.ntmps65
 go_wp2
 rw[Lib.run_neq_ptr_same w _ t70 hj]
 go_wp2
 go_end0
 exact⟨rfl,rfl⟩

set_option maxHeartbeats 1000000 in
set_option maxRecDepth 100000 in
theorem Tryz.IW(b:Nat)(w:World)(h0:w.cell? ⟨b,0,none⟩=some (.pointer none))(hsh:w.shape? b=some (88,2))(hfz:w.frozen? ⟨b,0,none⟩=false):
  Calls Tryz.prog 65 #[.pointer (some ⟨b,0,none⟩)] w fun e w'=>e= .returned (.tuple #[])/\w'=w.setCell ⟨b,0,none⟩ (.pointer (some ⟨b,0,none⟩)):=by
 obtain⟨j,hj,hjs⟩:=va.1 Tryz.bX;have mixed:=Tryz.LF;have t72:=Tryz.underlying88;have a72:=Tryz.isAgg88;have z72:=Tryz.sizeOf88;have v72:=Tryz.zeroValue88;have u72:=run_underlying t72;have t70:=Tryz.underlying85;have a70:=Tryz.isAgg85;have z70:=Tryz.sizeOf85;have v70:=Tryz.zeroValue85;have u70:=run_underlying t70;have t4:=Tryz.underlying4;have a4:=Tryz.isAgg4;have z4:=Tryz.sizeOf4;have v4:=Tryz.zeroValue4;have u4:=run_underlying t4;have t164:=Tryz.underlying187;have a164:=Tryz.isAgg187;have z164:=Tryz.sizeOf187;have v164:=Tryz.zeroValue187;have u164:=run_underlying t164
 go_enter Tryz.func65,Tryz.ntmps65
 go_wp2
 rw[Lib.run_to_unsafe w ⟨b,0,none⟩ t70 t164 hj (by rw[hjs];decide) hsh (Nat.zero_lt_succ 1)];simp only[Result.andThen];rw[Oper.upon_value]
 go_wp2
 rw[run_callFunc_extern Tryz.func102 kF kF kF (e:=Extern.AbiNoEscape.same) kF];rw[Lib.run_noEscape];simp only[Result.andThen];rw[Oper.upon_value]
 go_wp2
 rw[Lib.run_from_unsafe w ⟨b,0,none⟩ t164 t70 hj hsh Tryz.adY];simp only[Result.andThen];rw[Oper.upon_value]
 go_wp2
 go_end0
 exact⟨rfl,rfl⟩

theorem Tryz.aau(B b:Nat)(bs:List Value)(w:World)(h:Lib.IsBuilderF 88 5 B b bs w):
  Calls Tryz.prog 65 #[.pointer (some ⟨b,0,none⟩)] w fun e w'=>e= .returned (.tuple #[])/\(Lib.BuilderAtF 88 5 B b (.pointer (some ⟨b,0,none⟩)) bs w'/\Below B w w'/\Lib.OthersKept 5 (some b) w w'):=by
 rcases h with h|h
 ·refine(Tryz.IW b w h.cell0 h.shape h.frozen0).mono ?_;rintro e w' ⟨rfl,rfl⟩;exact⟨rfl,h.used _,(Below.refl B w).setCell (p:=⟨b,0,none⟩) h.1 _,(Lib.OthersKept.refl _ _ w).setCell ⟨b,0,none⟩ rfl _⟩
 ·refine(Tryz.LG b w h.cell0).mono ?_;rintro e w' ⟨rfl,rfl⟩;exact⟨rfl,h,Below.refl B _,Lib.OthersKept.refl _ _ _⟩

set_option maxHeartbeats 2000000 in
set_option maxRecDepth 100000 in
theorem Tryz.zN(B b:Nat)(bs:List Value)(s:ByteArray)(w:World)(h:Lib.IsBuilderF 88 5 B b bs w)(hlen:bs.length+s.size<=140737488355328)(hBw:B<=w.heap.size):
  Calls Tryz.prog 28 #[.pointer (some ⟨b,0,none⟩),.string s] w fun e w'=>e= .returned (.tuple #[.int .i64 s.size,.nilIface])/\(Lib.BuilderAtF 88 5 B b (.pointer (some ⟨b,0,none⟩)) (bs++Lib.strCells s) w'/\Below B w w'/\Lib.OthersKept 5 (some b) w w'):=by
 obtain⟨i0,hi,hz0,hz1,hz2⟩:=info_parts Tryz.bInfo;have mixed:=Tryz.LF;have t72:=Tryz.underlying88;have a72:=Tryz.isAgg88;have z72:=Tryz.sizeOf88;have v72:=Tryz.zeroValue88;have u72:=run_underlying t72;have t70:=Tryz.underlying85;have a70:=Tryz.isAgg85;have z70:=Tryz.sizeOf85;have v70:=Tryz.zeroValue85;have u70:=run_underlying t70;have t37:=Tryz.underlying86;have a37:=Tryz.isAgg86;have z37:=Tryz.sizeOf86;have v37:=Tryz.zeroValue86;have u37:=run_underlying t37;have t3:=Tryz.underlying3;have a3:=Tryz.isAgg3;have z3:=Tryz.sizeOf3;have v3:=Tryz.zeroValue3;have u3:=run_underlying t3;have t9:=Tryz.underlying9;have a9:=Tryz.isAgg9;have z9:=Tryz.sizeOf9;have v9:=Tryz.zeroValue9;have u9:=run_underlying t9;have t4:=Tryz.underlying4;have a4:=Tryz.isAgg4;have z4:=Tryz.sizeOf4;have v4:=Tryz.zeroValue4;have u4:=run_underlying t4;have t5:=Tryz.underlying5;have a5:=Tryz.isAgg5;have z5:=Tryz.sizeOf5;have v5:=Tryz.zeroValue5;have u5:=run_underlying t5;have e240:∀args w,(callFunc 65 args).run Tryz.prog w= .ok (.enter 65 args) w:=enters_of Tryz.func65 kF rfl
 go_enter Tryz.func28,Tryz.ntmps28
 go_wp2_with (go_at_fn 65;refine(Tryz.aau B b bs _ h).mono ?_)
 rintro e w1 ⟨rfl,h1,hb1,hk1⟩;obtain⟨hB,v,hbk,hown,hne⟩:=h1;have c0:w1.cell? ⟨b,0,none⟩=some (.pointer (some ⟨b,0,none⟩)):=by rw[Lib.cell_of_heap hbk];rfl
 have c1:w1.cell? ⟨b,1,none⟩=some v:=by rw[Lib.cell_of_heap hbk];rfl
 go_wp2_with (at_builtin;refine Lib.wpList_append_own_stringF _ rfl _ _ 86 9 rfl B 5 i0 t37 t9 hi hz0 hz1 hz2 _ _ _ rfl hown s rfl ?c3 ?c4 ?c5 ?_)
 case c3=>unfold maxLen;omega
 case c4=>omega
 case c5=>have:=hb1.size;omega
 intro v' w2 hown' hgrow _;have hlt:b<w1.heap.size:=by
  rcases MB b w1.heap.size with h'|h'
  ·exact h'
  ·simp[xO h']at hbk
 have hb2:w2.heap[b]? =some (.cells #[.pointer (some ⟨b,0,none⟩),v] 88 (0,0)):=by
  rw[hgrow.block b hlt (fun e=>hne e.symm)];exact hbk
 have d0:w2.cell? ⟨b,0,none⟩=some (.pointer (some ⟨b,0,none⟩)):=by rw[Lib.cell_of_heap hb2];rfl
 have d1:w2.cell? ⟨b,1,none⟩=some v:=by rw[Lib.cell_of_heap hb2];rfl
 have f1:w2.frozen? ⟨b,1,none⟩=false:=Lib.frozen_of_heap hb2 1;obtain⟨ao,n',cap,rfl⟩:∃ao n' cap,v'= .slice ao n' cap:=by
  rcases hown'.2 with⟨hv,_⟩|⟨g,cap,cur,fz,hv,_⟩
  ·exact⟨_,_,_,hv⟩
  ·exact⟨_,_,_,hv⟩
 go_wp2
 go_ret2
 refine⟨rfl,?_,?_,(hk1.grown hgrow (Lib.ownsRowF_kind hown)).setCell ⟨b,1,none⟩ rfl _⟩
 ·exact Lib.BuilderAtF.put (T:=88) (e:=5) hB hb2 (bs':=bs++Lib.strCells s) (by simpa[Lib.strCells_length]using hown') dc
 ·exact(hb1.grown hgrow (by have:=hb1.size;omega) (fun k hk=>(hown.lt k hk).1)).setCell (p:=⟨b,1,none⟩) hB _
end Go.Proofs

open Go.Proofs.YtmdphpnaipbfjaaGreatDoor
namespace Go.Proofs
open Go.Shelf Go.RowKit Go.Sort Go.Lib

theorem Tryz.aav(w:World)(T:TypeId)(nd:Nat)(hs:nd<=24):Holds (fun(b:UInt8)=>Value.int .u8 (b.toNat:Int)) (w.alloc (.cells zeros24 T)) w.heap.size 0 (Array.replicate nd (0:UInt8)):=fun j hj=>by
 have hj':j<nd:=by simpa using hj
 refine⟨?_,World.frozen?_alloc_new _ _ _ _⟩;rw[World.cell?_alloc_new,zeros24_at _ om,getElem!_pos _ j hj];simp
theorem Tryz.Vu(w:World)(o:Obj)(dk:Array UInt8)(k:Nat):∃os,(putRow (fun(b:UInt8)=>Value.int .u8 (b.toNat:Int)) (w.alloc o) w.heap.size 0 dk).drewN k=grow (w.drewN k) os:=by
 rw[alloc_eq_grow];obtain⟨os',_,e⟩:=putRow_grow_new (fun(b:UInt8)=>Value.int .u8 (b.toNat:Int)) w #[o] w.heap.size 0 dk lf;exact⟨os',by rw[e];rfl⟩

set_option maxHeartbeats 6400000 in
set_option maxRecDepth 100000 in
theorem Tryz.aiM(u:Nat)(hu64:u<18446744073709551616)(w:World)
  (htab : Lib.TabIs Tryz.prog w "internal/strconv.uint64pow10" .u64 Lib.pow10Tab) :
  Calls Tryz.prog 318 #[.int .u64 u,.int .i64 10] w fun e w'=>e= .returned (.string ⟨(Lib.decDigits u).toArray⟩)/\∃k os,w'=grow (w.drewN k) os:=by
 have mixed:Tryz.prog.follows .mixedOrders=true:=kF;have t3:=Tryz.underlying3;have a3:=Tryz.isAgg3;have z3:=Tryz.sizeOf3;have v3:=Tryz.zeroValue3;have t9:=Tryz.underlying9;have a9:=Tryz.isAgg9;have z9:=Tryz.sizeOf9;have v9:=Tryz.zeroValue9;have t4:=Tryz.underlying4;have a4:=Tryz.isAgg4;have z4:=Tryz.sizeOf4;have v4:=Tryz.zeroValue4;have t171:=Tryz.underlying262;have a171:=Tryz.isAgg262;have z171:=Tryz.sizeOf262;have v171:=Tryz.zeroValue262;have t53:=Tryz.underlying177;have a53:=Tryz.isAgg177;have z53:=Tryz.sizeOf177;have v53:=Tryz.zeroValue177;have t37:=Tryz.underlying86;have a37:=Tryz.isAgg86;have z37:=Tryz.sizeOf86;have v37:=Tryz.zeroValue86;have t5:=Tryz.underlying5;have a5:=Tryz.isAgg5;have z5:=Tryz.sizeOf5;have v5:=Tryz.zeroValue5;have e1:∀args w,(callFunc 171 args).run Tryz.prog w= .ok (.enter 171 args) w:=enters_of Tryz.func171 kF rfl
 have e2:∀args w,(callFunc 172 args).run Tryz.prog w= .ok (.enter 172 args) w:=enters_of Tryz.func172 kF rfl
 have e3:∀args w,(callFunc 173 args).run Tryz.prog w= .ok (.enter 173 args) w:=enters_of Tryz.func173 kF rfl
 by_cases hs:u<100
 ·go_enter Tryz.func318,Tryz.ntmps318
  go_wp2_with (go_at_fn 171;refine(Tryz.internal_strconv_small u hs _).mono ?_;rintro e w' ⟨rfl,rfl⟩)
  go_ret
  exact⟨rfl,0,#[],by simp[World.drewN_zero]⟩
 ·have hu1:1<=u:=om;have hnd20:Lib.nDigits u<=20:=by have:=Lib.numDigits_eq u hu1 hu64;split at this<;>omega
  have hal:Tryz.prog.arrayLen 262=24:=kF;have hsl1:∀W,(Instr.sliceAt 262 (.pointer (some ⟨w.heap.size,0,none⟩)) none (some (.int .i64 (Lib.nDigits u:Int))) none).run Tryz.prog W= .ok (.slice (some ⟨w.heap.size,0,none⟩) (Lib.nDigits u) 24) W:=fun W=>by
   rw[run_sliceAt_array_h W 262 ⟨w.heap.size,0,none⟩ (by rw[hal];exact t171) .i64 (Lib.nDigits u:Int) om (by rw[hal];omega)];rw[hal]
   go_simp
  have hH0:=Tryz.aav w 262 (Lib.nDigits u) om;have hfmt:=Tryz.internal_strconv_formatBase10 w.heap.size 0 24 u (Array.replicate (Lib.nDigits u) 0) (w.alloc (.cells Lib.zeros24 262)) hH0 (by rw[PR];exact Lib.lt_pow_nDigits u) hu64 (by rw[PR];omega);rw[PR]at hfmt;have HH0:=Lib.hid hH0;clear hH0 hal
  go_enter Tryz.func318,Tryz.ntmps318
  go_wp2_with (first
   |(go_at_fn 172;refine(Tryz.internal_strconv_numDigits u hu1 hu64 _ (Lib.tabIs_alloc htab _)).mono ?_;rintro e w' ⟨rfl,rfl⟩))
  go_at_fn 173
  refine hfmt.mono ?_;rintro e w' ⟨rfl,k,v',dk,rfl,hF⟩;have hcv:(convert 86 9 (.slice (some ⟨w.heap.size,0,none⟩) (Lib.nDigits u) 24)).run Tryz.prog ((putRow (fun(b:UInt8)=>Value.int .u8 (b.toNat:Int)) (w.alloc (.cells Lib.zeros24 262)) w.heap.size 0 dk).drewN k)= .ok (.string ⟨(Lib.decDigits u).toArray⟩) ((putRow (fun(b:UInt8)=>Value.int .u8 (b.toNat:Int)) (w.alloc (.cells Lib.zeros24 262)) w.heap.size 0 dk).drewN k):=by
   have h:=run_convert_bytes_back (P:=Tryz.prog) ((putRow (fun(b:UInt8)=>Value.int .u8 (b.toNat:Int)) (w.alloc (.cells Lib.zeros24 262)) w.heap.size 0 dk).drewN k) 86 9 5 ⟨w.heap.size,0,none⟩ 24 (Lib.decDigits u) t37 t5 t9 (fun j hj=>by
    rw[Lib.row_is_numeral hF j hj,Lib.add_plain,World.cell?_drewN];exact cell?_putRow (fun(b:UInt8)=>Value.int .u8 (b.toNat:Int)) _ w.heap.size 0 _ dk HH0.out (by rw[hF.size,PR]) j (by rw[hF.size];rw[Lib.decDigits_length]at hj;exact hj))
   rw[Lib.decDigits_length]at h;exact h
  go_wp2
  go_ret
  obtain⟨os,eo⟩:=Tryz.Vu w (.cells Lib.zeros24 262) dk k;exact⟨rfl,k,os,eo⟩

set_option maxRecDepth 100000 in
theorem Tryz.LH(u:Nat)(hu64:u<18446744073709551616)(w:World)
  (htab : Lib.TabIs Tryz.prog w "internal/strconv.uint64pow10" .u64 Lib.pow10Tab) :
  Calls Tryz.prog 300 #[.int .u64 u,.int .i64 10] w fun e w'=>e= .returned (.string ⟨(Lib.decDigits u).toArray⟩)/\∃k os,w'=grow (w.drewN k) os:=by
 have mixed:Tryz.prog.follows .mixedOrders=true:=kF;have t3:=Tryz.underlying3;have a3:=Tryz.isAgg3;have z3:=Tryz.sizeOf3;have v3:=Tryz.zeroValue3;have t9:=Tryz.underlying9;have a9:=Tryz.isAgg9;have z9:=Tryz.sizeOf9;have v9:=Tryz.zeroValue9;have t53:=Tryz.underlying177;have a53:=Tryz.isAgg177;have z53:=Tryz.sizeOf177;have v53:=Tryz.zeroValue177;have e246:∀args w,(callFunc 318 args).run Tryz.prog w= .ok (.enter 318 args) w:=enters_of Tryz.func318 kF rfl
 go_enter Tryz.func300,Tryz.ntmps300
 go_wp2_with (go_at_fn 318;refine(Tryz.aiM u hu64 _ htab).mono ?_;rintro e w' ⟨rfl,k,os,rfl⟩)
 go_ret
 exact⟨rfl,k,os,rfl⟩
end Go.Proofs

set_option maxRecDepth 100000
set_option maxHeartbeats 4000000
namespace Go.Proofs.YtmdphpnaipbfjaaGreatDoor.F
open Go Go.RowKit Go.Proofs Go.Proofs.YtmdphpnaipbfjaaGreatDoor.Vc
open Tryz
variable {A C D E G H J K A0 A1 A2 A3 A4 A5 A6 A7 A8 A9 C0 C1 C2 C3 C4 C5 C6 C7 C8 C9:O} {a b c d e f g i j l m n o a0 a1 a2 a3 a4 a5 a6 a7 a8 a9 b0 b1 b2 b3 b4 b5 b6 b7 b8 b9 c0 c1 c2 c3 c4 c5 c6 c7 c8 c9:Nat} {p q r s t u v x p0 p1 p2 p3 p4 p5 p6 p7 p8 p9 q0 q1 q2 q3 q4 q5 q6 q7 q8 q9:Int} {L M N N0 N1 N2 N3 N4 N5 N6 N7 N8 N9 T0 T1 T2 T3 T4 T5 T6 T7 T8 T9:ByteArray} {Q S:Bool} {B:Nat} {w:World} {R:Kt}
def strconv_Itoa.cx:Pm:=([],[])
theorem strconv_Itoa.vc
  (h:(Pure P 92 #[I p] w (Rt fun a b=>(R (vU a) b)))):
  Pure P 42 #[I p] w R:=
 pr strconv_Itoa.cx func42 h

def strings_Cut.cx:Pm:=([],[])
theorem strings_Cut.vc
  (h:(Pure P 178 #[vU L,vU M] w fun d e=>∃a b c,d= .tuple #[vU a,vU b,.bool c]/\(R (.tuple #[vU a,vU b,.bool c]) e))):
  Pure P 122 #[vU L,vU M] w R:=
 pr strings_Cut.cx func122 h

def mI.cx:Pm:=([],[(1,1,1)])
theorem mI.vc
  (h:(qP .u32 (bits .and .u64 (IntKind.wrap .u64 (p)) (31:Int))/\(aN .u64 ((32:Int) - (bits .and .u64 (IntKind.wrap .u64 (p)) (31:Int)))/\(qP .u32 ((32:Int) - (bits .and .u64 (IntKind.wrap .u64 (p)) (31:Int)))/\(R (.int .u32 (bits .or .u32 (qd .u32 q (bits .and .u64 (IntKind.wrap .u64 (p)) (31:Int))) (ny q ((32:Int) - (bits .and .u64 (IntKind.wrap .u64 (p)) (31:Int)))))) w))))):
  Pure P 177 #[.int .u32 q,I p] w R:=
 pr mI.cx func177 h

def fY.L3(a:Int)(b:O)(c d:Nat)(e f:Int):=Lt 207 f207 3 [vI 3 a,vS 6 b c d,vI 7 e,vI 8 f] []
def fY.cx:Pm:=([((true,3),[3,6,7,8],[])],[])
theorem fY.L3.step
  (h:(Br (p<r) (Ix p a A fun d=>(∃c,aa w (d.add ((p).toNat*1)) [I c]/\(Br (c≠q) (R (I c) w) (aN .i64 (p+1)/\(fY.L3 q A a b r (p+1) B w R))))) (R (I q) w))):
  fY.L3 q A a b r p B w R:=
 lr fY.cx func207 h
theorem fY.vc
  (h:(fY.L3 (0:Int) A a b (a:Int) (0:Int) w.heap.size w R)):
  Pure P 207 #[vW A a b] w R:=
 pr fY.cx func207 h

def cmp_Compare_int.cx:Pm:=([],[])
theorem cmp_Compare_int.vc
  (h:(Pure P 255 #[I p] w (Rb fun c d=>(Pure P 255 #[I q] d (Rb fun b a=>(Bb c (Bb b (R (I 0) a) (R (I (-1:Int)) a)) (Bb b (R (I 1) a) (Br (p<q) (R (I (-1:Int)) a) (Br (p>q) (R (I 1) a) (R (I 0) a)))))))))):
  Pure P 208 #[I p,I q] w R:=
 pr cmp_Compare_int.cx func208 h

def strings_CutPrefix.cx:Pm:=([],[])
theorem strings_CutPrefix.vc
  (h:(Pure P 266 #[vU L,vU M] w fun c d=>∃a b,c= .tuple #[vU a,.bool b]/\(R (.tuple #[vU a,.bool b]) d))):
  Pure P 227 #[vU L,vU M] w R:=
 pr strings_CutPrefix.cx func227 h

def cmp_isNaN_int.cx:Pm:=([],[])
theorem cmp_isNaN_int.vc
  (h:(R (.bool (decide (p≠p))) w)):
  Pure P 255 #[I p] w R:=
 pr cmp_isNaN_int.cx func255 h

def lJ.cx:Pm:=([],[])
theorem lJ.vc
  (h:(Pure P 339 #[.int .u32 p] w (Rb fun c d=>(Pure P 339 #[.int .u32 q] d (Rb fun b a=>(Bb c (Bb b (R (I 0) a) (R (I (-1:Int)) a)) (Bb b (R (I 1) a) (Br (p<q) (R (I (-1:Int)) a) (Br (p>q) (R (I 1) a) (R (I 0) a)))))))))):
  Pure P 323 #[.int .u32 p,.int .u32 q] w R:=
 pr lJ.cx func323 h

def nK.cx:Pm:=([],[])
theorem nK.vc
  (h:(R (.bool (decide (p≠p))) w)):
  Pure P 339 #[.int .u32 p] w R:=
 pr nK.cx func339 h

end Go.Proofs.YtmdphpnaipbfjaaGreatDoor.F

namespace Go.Proofs.YtmdphpnaipbfjaaGreatDoor.B
open Go Go.RowKit Go.Proofs Go.Proofs.YtmdphpnaipbfjaaGreatDoor.Vc

theorem oI.load{w:World}{A:Option Addr}{ws:List Nat}{n:Nat}(h:oI w A ws)(hl:ws.length=n){j:Int}(c:0<=j)(h1:j<n){K:Int->Prop}(k:K (ws.getD j.toNat 0:Nat)):
  (0<=j/\j<n)/\∃a,A=some a/\∃i:Int,aa w (a.add (j.toNat*1)) [.int .u32 i]/\K i:=by
 obtain⟨a,d,x,hx,e⟩:=h.cell c om;refine⟨⟨c,h1⟩,a,d,_,e,?_⟩;rw[cz,hx]at k;exact k

theorem fo.store{w:World}{B:Nat}{A:Option Addr}{n c:Nat}{ws:List Nat}(ho:fo w B A n c ws){j x:Int}(y:0<=j)(h1:j<n)(hx:0<=x){d:List tt}(hb:hasType 174 d=false){K:World->Prop}
  (h:∀w1,fo w1 B A n c (ws.set j.toNat x.toNat)->Below B w w1->(∀k,some k≠Value.ownBlock (.slice A n c)->w1.heap[k]? =w.heap[k]?)->K w1):
  (0<=j/\j<n)/\∃a,A=some a/\∃(cs:List Value)(t:Nat),B<=(a.add (j.toNat*1)).block/\(a.add (j.toNat*1)).spot=none/\w.heap[(a.add (j.toNat*1)).block]? =some (.cells cs.toArray t (0,0))/\
   (a.add (j.toNat*1)).off+1<=cs.length/\hasType t d=false/\∀w1,aG w w1 (a.add (j.toNat*1)).block t (setCells cs (a.add (j.toNat*1)).off [.int .u32 x])->K w1:=by
 have hl:=ho.len;refine⟨⟨y,h1⟩,?_⟩;have z:∃a,A=some a:=by
  rcases ho.2 with⟨e,i⟩|⟨g,cap,cur,e,_⟩
  ·omega
  ·cases e;exact⟨_,rfl⟩
 obtain⟨a,rfl⟩:=z;obtain⟨cs,l,m,o,q,C,D⟩:=xk ho (off:=j.toNat) (vs:=[.int .u32 x]) (by simp[pq];omega);obtain⟨b,off,sp⟩:=a;simp only at l m o q;subst m o;refine⟨_,rfl,cs,174,?_⟩;rw[jO];simp only[Jm,mC];refine⟨l,trivial,q,by simpa using C,hb,fun w1 hw=> ?_⟩;refine h w1 ?_ ⟨hw.os,hw.tape,hw.output,by rw[hw.size];exact ga _,fun k r=>hw.rest k om⟩ fun k r=>hw.rest k fun e=>r (by simp[Value.ownBlock,e])
 have:=D w1 hw;unfold fo;have e:(x.toNat:Int)=x:=om;have i:pq (ws.set j.toNat x.toNat)=setCells (pq ws) j.toNat [.int .u32 x]:=by simp[pq,setCells,IK,e]
 rw[i];exact this

theorem zO:∀(l:List Nat)(j x:Nat),j<l.length->wv (l.set j x)+1000000000^j*l.getD j 0=wv l+1000000000^j*x:=by
 intro l;induction l with
 |nil=>intro j x h;simp at h
 |cons y r ih=>
  intro j x h;cases j with
  |zero=>simp[wv];omega
  |succ j=>
   have:=ih j x (by simpa using h);simp only[List.set_cons_succ,wv,List.getD_cons_succ,ob];grind
theorem Small.set{l:List Nat}(h:Small l){j x:Nat}(hx:x<1000000000):Small (l.set j x):=fun y hy=>by
 rcases LY hy with h1|rfl
 ·exact h y h1
 ·exact hx
theorem Gz(n:Nat):wv (List.replicate n 0)=0:=by
 induction n with
 |zero=>rfl
 |succ n ih=>simp[QH,wv,ih]

def RI(w:World)(B:Nat)(A:Option Addr)(n c x:Nat):Prop:=∃ws,fo w B A n c ws/\Small ws/\Norm ws/\wv ws=x
theorem fo.take{w:World}{B:Nat}{A:Option Addr}{n c:Nat}{ws:List Nat}(h:fo w B A n c ws){m:Nat}(hm:m<=n)(hn:A≠none∨m=n):fo w B A m c (ws.take m):=by
 have hl:=h.len;refine⟨by simp[pq];omega,?_⟩;rcases h.2 with⟨e,o⟩|⟨g,cap,cur,e,h1,d,q,i,j,k⟩
 ·cases e;have l:m=0:=om;subst l;exact .inl ⟨rfl,rfl⟩
 ·cases e;refine .inr ⟨g,c,cur,rfl,h1,d,om,i,j,?_⟩;have:(pq ws).take m=pq (ws.take m):=by simp[pq,DO]
  rw[<-this,<-k,SJ,Jm,Jm,jv hm]

theorem nL{w:World}{B:Nat}{A:Option Addr}{n c:Nat}{ws:List Nat}(h:fo w B A n c ws)(hn:n<2147483648)(hs:Small ws):
  Pure Tryz.prog 298 #[.slice A n c] w fun v w'=>w'=w/\∃m,v= .slice A m c/\RI w B A m c (wv ws)/\iZ w A m c (wv ws):=
 pm (mH h.sl h.len h.cap hn hs) fun v w' _ ⟨e,m,d,i,j,k,l⟩=>⟨e,m,d,⟨ws.take m,h.take j (by
  rcases h.2 with⟨e,d⟩|⟨g,cap,cur,e,_⟩
  ·right;omega
  ·cases e;exact .inl sm),hs.take m,k,l⟩,i⟩

theorem oI.ar{w w':World}{A:Option Addr}{ws:List Nat}{B:Nat}(h:oI w A ws)(hb:Below B w w')(hB:w.heap.size<=B):oI w' A ws:=h.below (hb.mono hB)

theorem El.GC:(Tryz.prog.info? 174).bind (·.zero)=some (.int .u32 0):=kF

section
variable {w0:World} {A1 A0:Option Addr} {n1 c1 n0 c0:Nat} {a b:List Nat} {R:Value->World->Prop}

structure CP (w:World) (B:Nat) (A:Option Addr) (n c:Nat) (ws:List Nat) (k:Nat):Prop where
 own:fo w B A n c ws
 small:Small ws
 zero:∀j,k<=j->ws.getD j 0=0

theorem IX(hb:oI w0 A1 b)(J:b.length=n1)(K:Small b){i x:Nat}(hx:x<1000000000){n:Nat}(hn:i+n1<n)(U:n<=1000000){A:Option Addr}{c:Nat}{m:Int}{base:Nat}
  (L:∀w ws,CP w w0.heap.size A n c ws (i+1+n1)->Below w0.heap.size w0 w->wv ws=base+1000000000^i*x*wv b->
   F.bc.L3 A1 n1 c1 A n c A0 n0 c0 m ((i:Int)+1) w0.heap.size w R):
  ∀(d k:Nat)(w:World)(ws:List Nat)(s:Nat),n1 - k=d->k<=n1->CP w w0.heap.size A n c ws (i+n1)->Below w0.heap.size w0 w->s<1000000000->
   wv ws+1000000000^(i+k)*s=base+1000000000^i*x*wv (b.take k)->
   F.bc.L7 A1 n1 c1 A n c i x s A0 n0 c0 m i A1 n1 c1 n1 k w0.heap.size w R:=by
 intro d;induction d with
 |zero=>
  intro k w ws s M N inv hw hs he;have B:k=n1:=om;subst B;have O:b.take k=b:=cc om;rw[O]at he;refine F.bc.L7.step ⟨fun h=>by omega,fun _=>⟨ir,ir,?_⟩⟩;refine inv.own.store om om om rfl fun w1 g C _=>⟨ir,?_⟩
  have e:((i:Int)+(k:Int)).toNat=i+k:=om;rw[e,cd]at g;have hl:=inv.own.len;have o:=zO ws (i+k) s om;rw[inv.zero (i+k) lf]at o;refine L w1 _ ⟨g,inv.small.set hs,fun j hj=> ?_⟩ (hw.trans C) om;rw[cz,Qu om,<-cz];exact inv.zero j om
 |succ d ih=>
  intro k w ws s M N inv hw hs he;have hl:=inv.own.len;have S:=K.getD k;have go:=inv.small.getD (i+k);have e:((i:Int)+(k:Int)).toNat=i+k:=om;obtain⟨y,hy⟩:∃y,y=b.getD k 0:=⟨_,rfl⟩
  obtain⟨z,hz⟩:∃z,z=ws.getD (i+k) 0:=⟨_,rfl⟩
  rw[<-hy]at S;rw[<-hz]at go;have D:x*y<=999999999*999999999:=oi om om;have l:(x:Int)*(y:Int)=((x*y:Nat):Int):=by simp
  refine F.bc.L7.step ⟨fun _=> ?_,fun h=>by omega⟩;refine(hb.ar hw lf).load J om om ?_;rw[cd,<-hy,l];refine⟨ir,ir,ir,ir,?_⟩;refine inv.own.sl.load hl om om ?_;rw[e,<-hz];refine⟨ir,ir,ir,ir,om,ir,?_⟩;rw[<-e];refine inv.own.store om om om rfl fun w1 g C _=>⟨⟨om,om,ir⟩,ir,?_⟩
  obtain⟨t,T⟩:∃t:Nat,t=s+(x*y+z):=⟨_,rfl⟩
  have E:(s:Int)+(((x*y:Nat):Int)+(z:Int))=((t:Nat):Int):=om;rw[E]at g⊢;have G:((t:Int) % 1000000000).toNat=t % 1000000000:=om;have H:(t:Int) / 1000000000=((t / 1000000000:Nat):Int):=om;have I:=sc k;rw[e,G]at g;rw[H,I];have o:=zO ws (i+k) (t % 1000000000) om;rw[<-hz]at o;refine ih (k+1) w1 _ (t / 1000000000) om om ⟨g,inv.small.set om,fun j hj=> ?_⟩ (hw.trans C) om ?_
  ·rw[cz,Qu om,<-cz];exact inv.zero j om
  ·rw[fM,<-hy];have hm:t % 1000000000+1000000000*(t / 1000000000)=s+(x*y+z):=om;rw[show i+(k+1)=(i+k)+1 from rfl,ob];have hp:1000000000^(i+k)=1000000000^i*1000000000^k:=Zz _ _ _;generalize t % 1000000000=r at*;generalize t / 1000000000=q at*;generalize wv (ws.set (i+k) r)=X at*;generalize wv ws=W at*;generalize wv (List.take k b)=V at*;rw[hp]at o he⊢;generalize 1000000000^i=P at*;generalize 1000000000^k=Q at*;clear D l E G H I g hz hy T;grind

theorem IY(ha:oI w0 A0 a)(e:a.length=n0)(k:Small a)(hb:oI w0 A1 b)(l:b.length=n1)(o:Small b){A:Option Addr}{n c:Nat}(hn:n=n0+n1)(q:n<=1000000)
  (r:∀m w,iZ w A m c (wv a*wv b)->RI w w0.heap.size A m c (wv a*wv b)->Below w0.heap.size w0 w->R (.slice A m c) w):
  ∀(d i:Nat)(w:World)(ws:List Nat),n0 - i=d->i<=n0->CP w w0.heap.size A n c ws (i+n1)->Below w0.heap.size w0 w->wv ws=wv (a.take i)*wv b->
   F.bc.L3 A1 n1 c1 A n c A0 n0 c0 n0 i w0.heap.size w R:=by
 intro d;induction d with
 |zero=>
  intro i w ws x hi inv hw he;have ea:a.take i=a:=cc om;rw[ea]at he;refine F.bc.L3.step ⟨fun h=>by omega,fun _=> ?_⟩;refine pm (nL inv.own om inv.small) ?_;rintro v y z ⟨rfl,m,rfl,h,j⟩;rw[he]at h j;exact⟨A,m,c,rfl,r m y j h hw⟩
 |succ d ih=>
  intro i w ws x hi inv hw he;refine F.bc.L3.step ⟨fun _=> ?_,fun h=>by omega⟩;refine(ha.ar hw lf).load e om om ?_;rw[cd];refine IX hb l o (k.getD i) om q (base:=wv ws) (fun w1 g B C D=> ?_) n1 0 w ws 0 om om inv hw om (by simp[wv]);have E:=sc i;rw[E];refine ih (i+1) w1 g om om B C ?_;rw[D,he,fM,qh]
end

theorem rz{w:World}{A0 A1:Option Addr}{n0 c0 n1 c1 x y:Nat}(ha:iZ w A0 n0 c0 x)(hb:iZ w A1 n1 c1 y)(hx:x<fR)(hy:y<fR):
  Pure Tryz.prog 304 #[.slice A0 n0 c0,.slice A1 n1 c1] w fun v w'=>∃A n c,v= .slice A n c/\iZ w' A n c (x*y)/\RI w' w.heap.size A n c (x*y):=by
 have r:=ha.len hx;have l1:=hb.len hy;obtain⟨a,g,a2,a3,a4,a5,z,rfl⟩:=ha;obtain⟨b,h,i,B,C,k,D,rfl⟩:=hb;refine F.bc.vc ⟨ir,?_⟩;refine qm ry El.GC rfl om om lf fun A n e hn l _ o=> ?_
 have d:fo e w.heap.size A n n (List.replicate n 0):=by
  unfold fo;have:pq (List.replicate n 0)=List.replicate n (.int .u32 0):=by simp[pq]
  rw[this];exact l
 refine IY g a2 a5 h i k om om (fun m E h1 q G=>⟨A,m,n,rfl,h1,q⟩) n0 0 e _ rfl om ⟨d,fun x hx=>by rw[Jb hx];omega,fun j _=> ?_⟩ o ?_
 ·rw[cz,R0];split<;>rfl
 ·rw[Gz];simp[wv]

def jL(a b:Int):Int:=if a<b then -1 else if a>b then 1 else 0

theorem GD(a b:Int)(w:World):Pure Tryz.prog 208 #[.int .i64 a,.int .i64 b] w fun v _=>v= .int .i64 (jL a b):=by
 have nan:∀(a:Int)(w:World),Pure Tryz.prog 255 #[.int .i64 a] w fun v _=>v= .bool false:=fun a w=>F.cmp_isNaN_int.vc sm
 refine F.cmp_Compare_int.vc (pm (nan _ _) ?_);rintro v d _ rfl;refine⟨false,rfl,pm (nan _ _) ?_⟩;rintro v e _ rfl;refine⟨false,rfl,fun h=>(by cases h),fun _=>⟨fun h=>(by cases h),fun _=>⟨fun h=>by simp[jL,h],fun h=>⟨fun c=>by simp[jL,h,c],fun c=>by simp[jL,h,c]⟩⟩⟩⟩
theorem Vv(a b:Int)(w:World):Pure Tryz.prog 323 #[.int .u32 a,.int .u32 b] w fun v _=>v= .int .i64 (jL a b):=by
 have nan:∀(a:Int)(w:World),Pure Tryz.prog 339 #[.int .u32 a] w fun v _=>v= .bool false:=fun a w=>F.nK.vc sm
 refine F.lJ.vc (pm (nan _ _) ?_);rintro v d _ rfl;refine⟨false,rfl,pm (nan _ _) ?_⟩;rintro v e _ rfl;refine⟨false,rfl,fun h=>(by cases h),fun _=>⟨fun h=>(by cases h),fun _=>⟨fun h=>by simp[jL,h],fun h=>⟨fun c=>by simp[jL,h,c],fun c=>by simp[jL,h,c]⟩⟩⟩⟩

theorem mJ(l:List Nat)(j:Nat):wv (l.drop j)=l.getD j 0+1000000000*wv (l.drop (j+1)):=by
 by_cases h:j<l.length
 ·rw[cy h,wv,cz,af h];rfl
 ·rw[dd om,dd om,cz,iw om];rfl
theorem mK(l:List Nat)(j:Nat)(h:j<=l.length):wv l=wv (l.take j)+1000000000^j*wv (l.drop j):=by
 conv=>lhs;rw[<-iv j l]
 rw[gR,ep,jv h]

theorem IZ{a b:List Nat}(c:Small a){j:Nat}(ha:j<a.length)(hb:j<b.length)(d:a.drop (j+1)=b.drop (j+1))(h:a.getD j 0<b.getD j 0):wv a<wv b:=by
 rw[mK a j om,mK b j om,mJ a,mJ b,d];have h1:=ql (c.take j);rw[ep,jv om]at h1;have e:1000000000^j*(a.getD j 0+1+1000000000*wv (b.drop (j+1)))<=1000000000^j*(b.getD j 0+1000000000*wv (b.drop (j+1))):=kc _ om;have g:1000000000^j*(a.getD j 0+1+1000000000*wv (b.drop (j+1)))=1000000000^j+1000000000^j*(a.getD j 0+1000000000*wv (b.drop (j+1))):=by
  rw[show a.getD j 0+1+1000000000*wv (b.drop (j+1))=1+(a.getD j 0+1000000000*wv (b.drop (j+1))) by omega,pP,Jm]
 omega
theorem zP{a b:List Nat}(d:Small a)(c:Norm b)(h:a.length<b.length):wv a<wv b:=by
 have h1:=ql d;have e:=po c (fun k=>by subst k;simp at h);have g:1000000000^a.length<=1000000000^(b.length - 1):=gb om om;omega

theorem Ext.ad1{w w':World}{B:Nat}{A:Option Addr}{ws:List Nat}(h:oI w A ws)(he:Ext B [] w w'):oI w' A ws:=h.ext he sm

theorem GF{w0:World}{A0 A1:Option Addr}{n0 c0 n1 c1:Nat}{a b:List Nat}{R:Value->World->Prop}(ha:oI w0 A0 a)(c:a.length=n0)(n:Small a)(hb:oI w0 A1 b)(j:b.length=n1)(o:Small b)(q:n0=n1)(hn:n0<=1000000)
  (k:∀w,R (.int .i64 (jL (wv a) (wv b))) w):
  ∀(i:Nat)(w:World),i<=n0->Below w0.heap.size w0 w->a.drop i=b.drop i->F.bV.L4 A0 n0 c0 A1 n1 c1 ((i:Int) - 1) w0.heap.size w R:=by
 intro i;induction i with
 |zero=>
  intro w hi hw d;refine F.bV.L4.step ⟨fun h=>by omega,fun _=> ?_⟩;have:=k w;have e:a=b:=by simpa using d
  subst e;simpa[jL]using this
 |succ i ih=>
  intro w hi hw d;have e:((i+1:Nat):Int) - 1=i:=om;rw[e];refine F.bV.L4.step ⟨fun _=> ?_,fun h=>by omega⟩;refine(ha.ar hw lf).load c om om ?_;refine(hb.ar hw lf).load j om om ?_;rw[cd];refine⟨fun h l g=> ?_,fun h=>⟨ir,fun l g=> ?_⟩⟩
  ·have m:=hw.trans g.below;refine(ha.ar m lf).load c om om ?_;refine(hb.ar m lf).load j om om fun z A=> ?_
   rw[cd];refine pm (Vv _ _ _) ?_;rintro v r _ rfl;refine⟨_,rfl,?_⟩;have:=k r;have x:jL (a.getD i 0:Nat) (b.getD i 0:Nat)=jL (wv a) (wv b):=by
    rcases(by omega:a.getD i 0<b.getD i 0∨b.getD i 0<a.getD i 0)with h1|h1
    ·have y:=IZ n om om d h1;simp only[jL];rw[bm om,bm om]
    ·have y:=IZ o om om d.symm h1;simp only[jL];rw[aq om,bm om,aq om,bm om]
   rw[x];exact this
  ·refine ih l om (hw.trans g.below) ?_;have h1:a.getD i 0=b.getD i 0:=om;rw[cy (by omega:i<a.length),cy (by omega:i<b.length),d]
   congr 1
   rw[cz,cz,af om,af om]at h1;exact h1

theorem pt{w:World}{A0 A1:Option Addr}{n0 c0 n1 c1 x y:Nat}(ha:iZ w A0 n0 c0 x)(hb:iZ w A1 n1 c1 y)(hx:x<fR)(hy:y<fR):
  Pure Tryz.prog 302 #[.slice A0 n0 c0,.slice A1 n1 c1] w fun v _=>v= .int .i64 (jL x y):=by
 have l:=ha.len hx;have l1:=hb.len hy;obtain⟨a,d,a2,a3,a4,a5,e,rfl⟩:=ha;obtain⟨b,g,i,m,n,c,j,rfl⟩:=hb;refine F.bV.vc ⟨fun h=>pm (GD _ _ _) ?_,fun h=>⟨ir,?_⟩⟩
 ·rintro v o _ rfl;refine⟨_,rfl,?_⟩
  congr 1
  rcases(by omega:n0<n1∨n1<n0)with h1|h1
  ·have k:=zP a5 j om;simp only[jL];rw[bm om,bm om]
  ·have k:=zP c e om;simp only[jL];rw[aq om,bm om,aq om,bm om]
 ·refine GF d a2 a5 g i c om om (fun w=>rfl) n0 w lf (Below.refl _ _) ?_;rw[dd om,dd om]

theorem OB{ws:List Nat}(hs:Small ws)(hn:Norm ws):ws.length<=2↔wv ws<1000000000000000000:=by
 constructor
 ·intro h;have h1:=ql hs;have a:1000000000^ws.length<=1000000000^2:=gb om h;omega
 ·intro h;apply bB;intro h1;have a:=po hn (fun k=>by subst k;simp at h1);have b:1000000000^2<=1000000000^(ws.length - 1):=gb om om;omega

theorem kU{w:World}{A0:Option Addr}{n0 c0 x:Nat}(ha:iZ w A0 n0 c0 x):
  Pure Tryz.prog 270 #[.slice A0 n0 c0] w fun v _=>v= .tuple #[.int .u64 (if x<1000000000000000000 then x else 0:Nat),.bool (decide (x<1000000000000000000))]:=by
 obtain⟨a,b,a2,a3,a4,a5,d,rfl⟩:=ha;have c:=OB a5 d;refine F.mF.vc ⟨fun h=> ?_,fun h=>⟨fun h1=> ?_,fun h1=>⟨fun e=> ?_,fun e=> ?_⟩⟩⟩
 ·have:a=[]:=eR om;subst this;simp[wv]
 ·have g:a.getD (Int.toNat 0) 0<1000000000:=a5.getD 0;refine b.load a2 om om ⟨ir,?_⟩;obtain⟨x,rfl⟩:=u6.1 (by omega:a.length=1);have:x<1000000000000000000:=by simp at g;omega
  simp[wv,this]
 ·have g:a.getD (Int.toNat 0) 0<1000000000:=a5.getD 0;have g1:a.getD (Int.toNat 1) 0<1000000000:=a5.getD 1;refine b.load a2 om om ⟨ir,b.load a2 om om ⟨ir,ir,ir,fun i j=> ?_⟩⟩
  match a,(by omega:a.length=2)with
  |[x,y],_=>
   have:x+1000000000*y<1000000000000000000:=by simp at g g1;omega
   simp[wv,this]
 ·have:¬wv a<1000000000000000000:=fun k=>by have:=c.2 k;omega
  simp[this]

theorem iY{w:World}{x:Nat}(hx:x<1000000000000000000):
  Pure Tryz.prog 271 #[.int .u64 (x:Int)] w fun v w'=>∃A n c,v= .slice A n c/\iZ w' A n c x:=by
 refine F.iY.vc ⟨om,ir,⟨om,om,ir⟩,ir,?_⟩;have g:=pN ry [.int .u32 ((x:Int) % 1000000000),.int .u32 ((x:Int) / 1000000000)] (by simp[Value.cells]) sm w;have hg:=World.grownBy_alloc w (.cells #[.int .u32 ((x:Int) % 1000000000),.int .u32 ((x:Int) / 1000000000)] 174) none;have a:=bT hg (B:=w.heap.size) sm lf;refine⟨_,_,g,a,a.size,fun k ty cs _ i=>hg.block k (ax.1 i).1 sm,_,_,_,rfl,?_⟩;have b:fo (w.alloc (.cells #[.int .u32 ((x:Int) % 1000000000),.int .u32 ((x:Int) / 1000000000)] 174)) w.heap.size (some ⟨w.heap.size,0,none⟩) 2 2 [x % 1000000000,x / 1000000000]:=by
  refine⟨by simp[pq],.inr ⟨w.heap.size,2,_,rfl,ga _,heap_alloc_new w _,ga _,by simp[maxLen],sm,by simp[pq]⟩⟩
 refine pm (nL b sm (Small.cons om (Small.cons om Small.nil))) ?_;rintro v l j ⟨rfl,m,rfl,h,d⟩;refine⟨_,_,_,rfl,_,_,_,rfl,?_⟩;have e:wv [x % 1000000000,x / 1000000000]=x:=by simp only[wv];omega
 rw[e]at d;exact d

theorem Vw{w0:World}{A0:Option Addr}{n0 c0:Nat}{a:List Nat}{R:Value->World->Prop}(ha:oI w0 A0 a)(b:a.length=n0)(B:Small a)(hn:n0<=1000000){d:Nat}(j:0<d)(C:d<=1000000000){A:Option Addr}{c:Nat}
  (D:∀A n c A' n' c' w,iZ w A n c (wv a / d)->iZ w A' n' c' (wv a % d)->R (.tuple #[.slice A n c,.slice A' n' c']) w):
  ∀(i:Nat)(w:World)(ws:List Nat)(r:Nat),i<=n0->Below w0.heap.size w0 w->fo w w0.heap.size A n0 c ws->Small ws->r<d->wv (ws.drop i)*d+r=wv (a.drop i)->
   F.dA.L4 A0 n0 c0 d A n0 c r ((i:Int) - 1) w0.heap.size w R:=by
 intro i;induction i with
 |zero=>
  intro w ws r hi hw ho hs k he;refine F.dA.L4.step ⟨fun h=>by omega,fun _=> ?_⟩;refine pm (nL ho om hs) ?_;rintro v L E ⟨rfl,m,rfl,h,G⟩;refine⟨_,_,_,rfl,pm (iY om) ?_⟩;rintro v M l ⟨A3,n3,c3,rfl,H⟩;refine⟨_,_,_,rfl,?_⟩;simp only[AY]at he;have I:wv a / d=wv ws:=by rw[<-he,DS,Nat.mul_add_div j,Ys k,xK]
  have J:wv a % d=r:=by rw[<-he,DS,Nat.mul_add_mod,KO k]
  exact D _ _ _ _ _ _ _ (by rw[I];exact G.below l) (by rw[J];exact H)
 |succ i ih=>
  intro w ws r hi hw ho hs k he;have e:((i+1:Nat):Int) - 1=i:=om;have g:=B.getD i;rw[e];refine F.dA.L4.step ⟨fun _=>⟨ir,?_⟩,fun h=>by omega⟩;refine(ha.ar hw lf).load b om om ?_;rw[cd];obtain⟨t,N⟩:∃t:Nat,t=r*1000000000+a.getD i 0:=⟨_,rfl⟩
  have x:(r:Int)*1000000000+((a.getD i 0:Nat):Int)=(t:Int):=om;have y:t / d<1000000000:=by
   rw[TI j];have:(r+1)*1000000000<=d*1000000000:=hJ _ om;omega
  have eq:(t:Int) / (d:Int)=((t / d:Nat):Int):=by simp
  have em:(t:Int) % (d:Int)=((t % d:Nat):Int):=by simp
  have O:=KM t d;have z:=NB t j;rw[x,eq,em];clear eq em;generalize t / d=q at*;generalize t % d=P at*;refine⟨ir,ir,⟨om,om,ir⟩,ir,?_⟩;refine ho.store om om om rfl fun w1 o K _=>⟨⟨om,om⟩,ir,?_⟩
  rw[cd,cd]at o;have hl:=ho.len;refine ih w1 _ _ om (hw.trans K) o (hs.set y) z ?_;rw[mJ,mJ a,<-he,Yi,bm om];rw[cz,B2 om];simp only[Option.getD_some];generalize wv (List.drop (i+1) ws)=V;clear x o y he z;grind

theorem CQ{w:World}{A0:Option Addr}{n0 c0 x d:Nat}(ha:iZ w A0 n0 c0 x)(o:n0<=1000000)(h:0<d)(e:d<=1000000000):
  Pure Tryz.prog 303 #[.slice A0 n0 c0,.int .u64 (d:Int)] w fun v w'=>∃A n c A' n' c',v= .tuple #[.slice A n c,.slice A' n' c']/\iZ w' A n c (x / d)/\iZ w' A' n' c' (x % d):=by
 obtain⟨a,j,a2,a3,a4,a5,q,rfl⟩:=ha;refine F.dA.vc ?_;refine qm ry El.GC rfl om om lf fun A n i hn k _ l=>⟨ir,?_⟩
 have g:n=n0:=om;subst g;have b:fo i w.heap.size A n n (List.replicate n 0):=by
  unfold fo;have:pq (List.replicate n 0)=List.replicate n (.int .u32 0):=by simp[pq]
  rw[this];exact k
 refine Vw j a2 a5 om h e (fun A n c A' n' c' w h1 m=>⟨A,n,c,A',n',c',rfl,h1,m⟩) n i _ 0 lf l b (fun x hx=>by rw[Jb hx];omega) h ?_;rw[dd sm,dd om];simp[wv]
end Go.Proofs.YtmdphpnaipbfjaaGreatDoor.B
