/- Part 3 of the proofs that: What is stowed keeps the problem; lamps change by samples and by seeing alone. -/
import Derived.Test.YtbcojgcjjpggnaaGreatDoorK2
import Derived.Test.YtbcojgcjjpggnaaGreatDoorProg
import Derived.Laws.MakeOwn
import Derived.RangeFuncNested
import Derived.RangeFuncBound
import Derived.RangeFuncCalls
import Derived.RangeFuncLeaves
import Derived.Shelf.Abstract
import Derived.Shelf.RegionOpen
import Derived.WalkKit
import Derived.OwnWalkIn
import Derived.TacticsInMore
import Derived.LoopNIn
import Derived.LoopIn
import Derived.Shelf.Strings.Builder1
import Derived.Shelf.Strings.Builder2
import Derived.Shelf.Small.Wraps
import Derived.Shelf.Strings.BuilderF
import Derived.Shelf.Strings.BuilderK
import Derived.Shelf.Strings.Builder2Cap
import Derived.Shelf.Strconv.Itoa0
import Derived.Shelf.Strconv.Itoa1
import Derived.Shelf.LaysM
import Derived.Shelf.Strconv.Itoa2
import Derived.Shelf.Strconv.Itoa3
import Derived.Shelf.Strconv.Itoa4
import Derived.Shelf.Strconv.ParseIntEmpty
import Derived.Shelf.Strconv.Clone
import Derived.Shelf.Strconv.SyntaxError
import Derived.Shelf.LaysC
import Derived.Shelf.Strconv.ToError
import Derived.Shelf.Strconv.Lower
import Derived.Shelf.Strconv.ParseUint10
import Derived.Shelf.Strconv.ParseUint10Empty
import Derived.Shelf.Strconv.ParseUint10Any
import Derived.Shelf.Strconv.ParseInt10
import Derived.Shelf.Strconv.RangeError
import Derived.Shelf.Strconv.ToErrorRange
import Derived.Shelf.Strconv.ParseUintEmpty
import Derived.Shelf.Strconv.ParseUint10b64
import Derived.Shelf.Strconv.ParseUint10b32
import Derived.Shelf.Strconv.ParseUint10b16
import Derived.Shelf.Strconv.ParseUint10b8
import Derived.Shelf.Strconv.ParseUint10At
import Derived.Shelf.Strconv.ParseInt10At64
import Derived.Shelf.Strconv.ParseInt10At32
import Derived.Shelf.Strconv.ParseInt10At16
import Derived.Shelf.Strconv.ParseInt10At8
import Derived.Shelf.Strconv.ParseInt10All
import Derived.Shelf.Strconv.ParseIntPublic10
import Derived.Ground.MpProg
import Derived.Shelf.Pu.ParseUintPublic10
import Derived.Shelf.Strings.Search1
import Derived.Shelf.Strings.Search2
import Derived.Shelf.Strings.Cut
import Derived.Shelf.Strings.Shaped
import Derived.Shelf.Strings.Prefix
import Derived.Shelf.Bits.Mul64
import Derived.Shelf.Strings.Repeat
import Derived.Shelf.Slices.Turned
import Derived.Ground.Names2Prog
import Derived.Shelf.Slices.Clone
import Derived.Shelf.Slices.SearchI
import Derived.Ground.SlgnProg
import Derived.Shelf.SlicesE.Clone
set_option linter.unusedVariables false
set_option linter.unusedSimpArgs false
set_option maxRecDepth 100000
set_option maxHeartbeats 4000000
namespace Go.Proofs.YtbcojgcjjpggnaaGreatDoor.F
open Go Go.RowKit Go.Proofs Go.Proofs.YtbcojgcjjpggnaaGreatDoor.Vc
open Tryz
variable {A C D E G H J K A0 A1 A2 A3 A4 A5 A6 A7 A8 A9 C0 C1 C2 C3 C4 C5 C6 C7 C8 C9:O} {a b c d e f g i j l m n o a0 a1 a2 a3 a4 a5 a6 a7 a8 a9 b0 b1 b2 b3 b4 b5 b6 b7 b8 b9 c0 c1 c2 c3 c4 c5 c6 c7 c8 c9:Nat} {p q r s t u v x p0 p1 p2 p3 p4 p5 p6 p7 p8 p9 q0 q1 q2 q3 q4 q5 q6 q7 q8 q9:Int} {L M N N0 N1 N2 N3 N4 N5 N6 N7 N8 N9 T0 T1 T2 T3 T4 T5 T6 T7 T8 T9:ByteArray} {Q S:Bool} {B:Nat} {w:World} {R:Kt}
def bQ.L4(a:ByteArray)(b c:Int):=Lt 178 f178 4 [vT 0 a,vI 17 b,vI 18 c] []
def bQ.cx:Pm:=([((true,4),[0,17,18],[])],[])
theorem bQ.L4.step
  (h:(Br (p<q) ((0<=p/\p<(ByteArray.size L:Int))/\(Br (((bt L p):Int)<48) (R (.bool false) w) ((0<=p/\p<(ByteArray.size L:Int))/\(Br (((bt L p):Int)>57) (R (.bool false) w) (aS .i64 (p+1)/\(bQ.L4 L q (p+1) B w R)))))) (R (.bool true) w))):
  bQ.L4 L q p B w R:=
 lr bQ.cx func178 h
theorem bQ.vc
  (h:(Br (L=(⟨#[]⟩:ByteArray)) (R (.bool false) w) (Br (((ByteArray.size L:Int):Int)>1) ((0<=(0:Int)/\(0:Int)<(ByteArray.size L:Int))/\(Br (((bt L (0:Int)):Int)=48) (R (.bool false) w) (bQ.L4 L (ByteArray.size L:Int) (0:Int) w.heap.size w R))) (bQ.L4 L (ByteArray.size L:Int) (0:Int) w.heap.size w R)))):
  Pure P 178 #[.string L] w R:=
 pr bQ.cx func178 h

def nE.cx:Pm:=([],[])
theorem nE.vc
  (h:(Pure P 266 #[.string L,.string M] w fun j b=>∃c d e f g i a,j= .tuple #[.slice c d e,.slice f g i,I a]/\(Br (a≠0) (R (.tuple #[(.string ⟨#[]⟩),I a]) b) (Pure P 267 #[(.func (.func 268) #[.slice c d e] #[]),.slice f g i] b (rV fun l m n=>(R (.tuple #[.string l,I m]) n)))))):
  Pure P 224 #[.string L,.string M] w R:=
 pr nE.cx func224 h

def lQ.cx:Pm:=([],[])
theorem lQ.vc
  (h:(Pure P 178 #[.string L] w (Rb fun c a=>(Br (c=false) (R (.tuple #[.slice none 0 0,.slice none 0 0,I 1]) a) (Pure P 178 #[.string M] a (Rb fun d b=>(Br (d=false) (R (.tuple #[.slice none 0 0,.slice none 0 0,I 1]) b) (Pure P 289 #[.string L] b (Rs fun e f g i=>(Pure P 289 #[.string M] i (Rs fun j l m n=>(R (.tuple #[.slice e f g,.slice j l m,I 0]) n)))))))))))):
  Pure P 266 #[.string L,.string M] w R:=
 pr lQ.cx func266 h

def fS.cx:Pm:=([],[(1,2,4)])
theorem fS.vc{d e:Array Value}
  (h:(az P a=true/\(Pure P a ((Array.toList d)++([.slice A b c]:List Value)++(Array.toList e)).toArray w (Rs fun f g i j=>(Pure P 290 #[.slice f g i] j (Rt fun l m=>(R (.tuple #[.string l,I 0]) m))))))):
  Pure P 267 #[(.func (.func a) d e),.slice A b c] w R:=
 pr fS.cx func267 h

def bq.L1(a:O)(b c:Nat)(d:O)(e f:Nat):=Lt 268 f268 1 [vS 0 a b c,vS 1 d e f] []
def bq.L5(a b:Int):=Lt 268 f268 5 [(5,.v (.int .u64 a)),(7,.v (.int .u64 b))] []
def bq.cx:Pm:=([((true,1),[0,1],[]),((true,5),[5,7],[])],[])
theorem bq.L1.step
  (h:(Br ((a:Int)>0) (Pure P 291 #[.slice C c d] w fun r s=>∃f g,r= .tuple #[.int .u64 f,.bool g]/\(Pure P 291 #[.slice A a b] s fun t e=>∃i j,t= .tuple #[.int .u64 i,.bool j]/\(Bb g (Bb j (bq.L5 f i B e R) (Pure P 293 #[.slice C c d,.slice A a b] e fun u v=>∃x y z l m n,u= .tuple #[.slice x y z,.slice l m n]/\(bq.L1 A a b l m n B v R))) (Pure P 293 #[.slice C c d,.slice A a b] e fun D E=>∃G H J o p q,D= .tuple #[.slice G H J,.slice o p q]/\(bq.L1 A a b o p q B E R))))) (R (.slice C c d) w))):
  bq.L1 C c d A a b B w R:=
 lr bq.cx func268 h
theorem bq.L5.step
  (h:(Br (p>0) ((0<=q/\0<p)/\(∀a,Ext B [] w a->(bq.L5 p (q % p) B a R))) (Pure P 292 #[.int .u64 q] w (Rs fun b c d e=>(R (.slice b c d) e))))):
  bq.L5 q p B w R:=
 lr bq.cx func268 h
theorem bq.vc
  (h:(bq.L1 A a b C c d w.heap.size w R)):
  Pure P 268 #[.slice A a b,.slice C c d] w R:=
 pr bq.cx func268 h

def jz.cx:Pm:=([],[])
theorem jz.vc
  (h:(Pure P 266 #[.string L,.string M] w fun j b=>∃c d e f g i a,j= .tuple #[.slice c d e,.slice f g i,I a]/\(Br (a≠0) (R (.tuple #[(.string ⟨#[]⟩),I a]) b) (Pure P 267 #[(.func (.func 295) #[.slice c d e] #[]),.slice f g i] b (rV fun l m n=>(R (.tuple #[.string l,I m]) n)))))):
  Pure P 273 #[.string L,.string M] w R:=
 pr jz.cx func273 h

def dd.L2(a:ByteArray)(b:O)(c d:Nat):=Lt 289 f289 2 [vT 0 a,vS 3 b c d] []
def dd.cx:Pm:=([((true,2),[0,3],[])],[(5,3,2),(5,4,2)])
theorem dd.L2.step
  (h:(Br (((ByteArray.size L:Int):Int)>0) (aS .i64 ((ByteArray.size L:Int) - (9:Int))/\((0<=(if(0:Int)>((ByteArray.size L:Int) - (9:Int))then(0:Int)else((ByteArray.size L:Int) - (9:Int)))/\(if(0:Int)>((ByteArray.size L:Int) - (9:Int))then(0:Int)else((ByteArray.size L:Int) - (9:Int)))<=(ByteArray.size L:Int))/\(Pure P 303 #[(.string (ByteArray.extract L ((if(0:Int)>((ByteArray.size L:Int) - (9:Int))then(0:Int)else((ByteArray.size L:Int) - (9:Int)))).toNat (ByteArray.size L))),I 10,I 32] w fun d e=>∃(c:Int)(f:Value),d= .tuple #[.int .u64 c,f]/\(aS .u32 (c)/\(ae P (Instr.buildSlice 325 1 #[(0,(.int .u32 (c)))]) B [] e (Rs fun g i j l=>(ae P (Builtin.append_ #[325,325] 325 #[.slice A a b,.slice g i j]) B [] l (Rs fun m n o p=>((0<=(if(0:Int)>((ByteArray.size L:Int) - (9:Int))then(0:Int)else((ByteArray.size L:Int) - (9:Int)))/\(if(0:Int)>((ByteArray.size L:Int) - (9:Int))then(0:Int)else((ByteArray.size L:Int) - (9:Int)))<=(ByteArray.size L:Int))/\(dd.L2 (ByteArray.extract L 0 ((if(0:Int)>((ByteArray.size L:Int) - (9:Int))then(0:Int)else((ByteArray.size L:Int) - (9:Int)))).toNat) m n o B p R)))))))))) (Pure P 304 #[.slice A a b] w (Rs fun q r s t=>(R (.slice q r s) t))))):
  dd.L2 L A a b B w R:=
 lr dd.cx func289 h
theorem dd.vc
  (h:(dd.L2 L none 0 0 w.heap.size w R)):
  Pure P 289 #[.string L] w R:=
 pr dd.cx func289 h

def lR.cx:Pm:=([],[])
theorem lR.vc
  (h:(Br ((a:Int)=0) (R (.tuple #[(.int .u64 (0:Int)),.bool true]) w) (Br ((a:Int)=1) (Ix (0:Int) a A fun g=>(∃e,aa w (g.add (((0:Int)).toNat*1)) [.int .u32 e]/\(aS .u64 (e)/\(R (.tuple #[(.int .u64 (e)),.bool true]) w)))) (Br ((a:Int)=2) (Ix (0:Int) a A fun i=>(∃d,aa w (i.add (((0:Int)).toNat*1)) [.int .u32 d]/\(aS .u64 (d)/\(Ix (1:Int) a A fun j=>(∃c,aa w (j.add (((1:Int)).toNat*1)) [.int .u32 c]/\(aS .u64 (c)/\(aS .u64 ((1000000000:Int)*(c))/\(aS .u64 ((d)+((1000000000:Int)*(c)))/\(∀f,Ext w.heap.size [] w f->(R (.tuple #[(.int .u64 ((d)+((1000000000:Int)*(c)))),.bool true]) f)))))))))) (R (.tuple #[(.int .u64 (0:Int)),.bool false]) w))))):
  Pure P 291 #[.slice A a b] w R:=
 pr lR.cx func291 h

def iE.cx:Pm:=([],[(1,6,2)])
theorem iE.vc{k:Int}{w:World}{R:Kt}
  (h:((0<=k/\0<(1000000000:Int))/\(aS .u32 ((k % (1000000000:Int)))/\((0<=k/\0<(1000000000:Int)/\aS .u64 k)/\(aS .u32 ((k / (1000000000:Int)))/\(ae P (Instr.buildSlice 325 2 #[(0,(.int .u32 ((k % (1000000000:Int))))),(1,(.int .u32 ((k / (1000000000:Int)))))]) w.heap.size [] w (Rs fun A1 n1 c1 y=>(Pure P 304 #[(.slice A1 n1 c1)] y (Rs fun A4 n4 c4 z=>(R (.slice A4 n4 c4) z)))))))))):
  Pure P 292 #[(.int .u64 k)] w R:=
 pr iE.cx Tryz.func292 h

def ab.J7(a:O)(b c:Nat)(d:O)(e f:Nat):=Jt 293 f293 7 [vS 0 a b c,vS 1 d e f] []
def ab.J13(a:O)(b c:Nat)(d:O)(e f:Nat)(g:O)(i j:Nat):=Jt 293 f293 13 [vS 10 a b c,vS 11 d e f,vS 12 g i j] []
def ab.yu(a:O)(b c:Nat)(d:O)(e f:Nat)(g:O)(i j:Nat)(l:Int)(m:O)(n o:Nat)(p:Int):=Lt 293 f293 16 [vS 10 a b c,vS 11 d e f,vS 12 g i j,vI 13 l,vS 14 m n o,vI 15 p] []
def ab.Bp(a:O)(b c:Nat)(d:O)(e f:Nat)(g:O)(i j:Nat)(l:Int)(m:O)(n o:Nat)(p q r:Int):=Lt 293 f293 20 [vS 10 a b c,vS 11 d e f,vS 12 g i j,vI 13 l,vS 14 m n o,vI 15 p,(17,.v (.int .u64 q)),(18,.v (.int .u64 r))] []
def ab.Bt(a:O)(b c:Nat)(d:O)(e f:Nat)(g:O)(i j:Nat)(l:Int)(m:O)(n o:Nat)(p q r s t u:Int):=Lt 293 f293 26 [vS 10 a b c,vS 11 d e f,vS 12 g i j,vI 13 l,vS 14 m n o,vI 15 p,(17,.v (.int .u64 q)),vI 19 r,vI 20 s,vI 180 t,vI 181 u] []
def ab.SR(a:O)(b c:Nat)(d:O)(e f:Nat)(g:O)(i j:Nat)(l:Int)(m:O)(n o:Nat)(p q r s t u:Int):=Lt 293 f293 42 [vS 10 a b c,vS 11 d e f,vS 12 g i j,vI 13 l,vS 14 m n o,vI 15 p,(17,.v (.int .u64 q)),vI 24 r,(25,.v (.int .u64 s)),vI 235 t,vI 236 u] []
def ab.Wv(a:O)(b c:Nat)(d:O)(e f:Nat)(g:O)(i j:Nat)(l:Int)(m:O)(n o:Nat)(p q r:Int):=Jt 293 f293 49 [vS 10 a b c,vS 11 d e f,vS 12 g i j,vI 13 l,vS 14 m n o,vI 15 p,(17,.v (.int .u64 q)),vI 24 r] []
def ab.cx:Pm:=([((true,16),[10,11,12,13,14,15],[]),((true,20),[10,11,12,13,14,15,17,18],[]),((true,26),[10,11,12,13,14,15,17,19,20,180,181],[]),((true,42),[10,11,12,13,14,15,17,24,25,235,236],[]),((false,7),[0,1],[]),((false,13),[10,11,12],[]),((false,49),[10,11,12,13,14,15,17,24],[])],[(10,3,2),(10,4,2),(12,1,2),(12,2,2),(14,4,2),(19,9999,3)])
theorem ab.J7.step
  (h:(Br ((a:Int)=1) (Ix (0:Int) a A fun z=>(∃j,aa w (z.add (((0:Int)).toNat*1)) [.int .u32 j]/\(aS .u64 (j)/\(Pure P 309 #[.slice C b c,(.int .u64 (j))] w fun D E=>∃m n o p q r,D= .tuple #[.slice m n o,.slice p q r]/\(R (.tuple #[.slice m n o,.slice p q r]) E))))) (aS .i64 ((a:Int) - (1:Int))/\(Ix ((a:Int) - (1:Int)) a A fun G=>(∃e,aa w (G.add ((((a:Int) - (1:Int))).toNat*1)) [.int .u32 e]/\(aS .u64 (e)/\(aS .u64 ((e)+1)/\((0<=(1000000000:Int)/\0<((e)+1)/\aS .u64 (1000000000:Int))/\(Pure P 292 #[(.int .u64 ((1000000000:Int) / ((e)+1)))] w (Rs fun f g i H=>(Pure P 295 #[.slice C b c,.slice f g i] H (Rs fun J K L M=>(ae P (Instr.buildSlice 325 1 #[(0,(.int .u32 (0:Int)))]) B [] M (Rs fun N O Q S=>(ae P (Builtin.append_ #[325,325] 325 #[.slice J K L,.slice N O Q]) B [] S (Rs fun s l t T=>(Pure P 295 #[.slice A a d,.slice f g i] T (Rs fun u v x y=>(Br ((l:Int)=(b:Int)) (ae P (Instr.buildSlice 325 1 #[(0,(.int .u32 (0:Int)))]) B [] y (Rs fun U V X Y=>(ae P (Builtin.append_ #[325,325] 325 #[.slice s l t,.slice U V X]) B [] Y (Rs fun Z d0 d1 d2=>(ab.J13 f g i Z d0 d1 u v x B d2 R))))) (ab.J13 f g i s l t u v x B y R)))))))))))))))))))):
  ab.J7 C b c A a d B w R:=
 jr ab.cx func293 h
theorem ab.J13.step
  (h:(aS .i64 ((b:Int) - (a:Int))/\(ae P (Instr.makeSlice 325 (I ((b:Int) - (a:Int))) (I ((b:Int) - (a:Int)))) B [] w (Rs fun i g j l=>(aS .i64 ((g:Int) - (1:Int))/\(ab.yu A c d C b e D a f (a:Int) i g j ((g:Int) - (1:Int)) B l R)))))):
  ab.J13 A c d C b e D a f B w R:=
 jr ab.cx func293 h
theorem ab.yu.step
  (h:(Br (q≥(0:Int)) (aS .i64 (q+p)/\(Ix (q+p) a A fun x=>(∃j,aa w (x.add (((q+p)).toNat*1)) [.int .u32 j]/\(aS .u64 (j)/\(aS .u64 ((j)*(1000000000:Int))/\(aS .i64 (q+p)/\(aS .i64 ((q+p) - (1:Int))/\(Ix ((q+p) - (1:Int)) a A fun y=>(∃l,aa w (y.add ((((q+p) - (1:Int))).toNat*1)) [.int .u32 l]/\(aS .u64 (l)/\(aS .u64 (((j)*(1000000000:Int))+(l))/\(∀m,Ext B [] w m->(aS .i64 (p - (1:Int))/\(Ix (p - (1:Int)) c C fun z=>(∃n,aa m (z.add (((p - (1:Int))).toNat*1)) [.int .u32 n]/\(aS .u64 (n)/\((0<=(((j)*(1000000000:Int))+(l))/\0<(n)/\aS .u64 (((j)*(1000000000:Int))+(l)))/\(aS .i64 (p - (1:Int))/\(Ix (p - (1:Int)) c C fun G=>(∃o,aa m (G.add (((p - (1:Int))).toNat*1)) [.int .u32 o]/\(aS .u64 (o)/\((0<=(((j)*(1000000000:Int))+(l))/\0<(o))/\(∀r,Ext B [] m r->(ab.Bp D d e A a b C c i p E f g q ((((j)*(1000000000:Int))+(l)) / (n)) ((((j)*(1000000000:Int))+(l)) % (o)) B r R)))))))))))))))))))))))) (Pure P 291 #[.slice D d e] w fun H J=>∃s K,H= .tuple #[.int .u64 s,.bool K]/\((0<=p/\p<=(b:Int))/\(Pure P 304 #[(.slice A ((p).toNat) b)] J (Rs fun L M N O=>(Pure P 309 #[.slice L M N,.int .u64 s] O fun Q S=>∃t u v T U V,Q= .tuple #[.slice t u v,.slice T U V]/\(Pure P 304 #[.slice E f g] S (Rs fun X Y Z d0=>(R (.tuple #[.slice X Y Z,.slice t u v]) d0)))))))))):
  ab.yu D d e A a b C c i p E f g q B w R:=
 lr ab.cx func293 h
theorem ab.Bp.step
  (h:(Br (q≥(1000000000:Int)) (aS .u64 (q - (1:Int))/\(aS .i64 (p - (1:Int))/\(Ix (p - (1:Int)) a A fun v=>(∀m,Ext B [] w m->(∃j,aa m (v.add (((p - (1:Int))).toNat*1)) [.int .u32 j]/\(aS .u64 (j)/\(aS .u64 (s+(j))/\(Br (((s+(j)):Int)≥(1000000000:Int)) (ab.Bt D c d C b e A a f p E g i r (q - (1:Int)) (0:Int) (0:Int) p (0:Int) B m R) (ab.Bp D c d C b e A a f p E g i r (q - (1:Int)) (s+(j)) B m R))))))))) (aS .i64 (p - (2:Int))/\(Ix (p - (2:Int)) a A fun x=>(∃n,aa w (x.add (((p - (2:Int))).toNat*1)) [.int .u32 n]/\(aS .u64 (n)/\(aS .u64 (q*(n))/\(aS .u64 (s*(1000000000:Int))/\(aS .i64 (r+p)/\(aS .i64 ((r+p) - (2:Int))/\(Ix ((r+p) - (2:Int)) b C fun y=>(∃o,aa w (y.add ((((r+p) - (2:Int))).toNat*1)) [.int .u32 o]/\(aS .u64 (o)/\(aS .u64 ((s*(1000000000:Int))+(o))/\(Br (((q*(n)):Int)>((s*(1000000000:Int))+(o))) (aS .u64 (q - (1:Int))/\(aS .i64 (p - (1:Int))/\(Ix (p - (1:Int)) a A fun z=>(∀t,Ext B [] w t->(∃l,aa t (z.add (((p - (1:Int))).toNat*1)) [.int .u32 l]/\(aS .u64 (l)/\(aS .u64 (s+(l))/\(Br (((s+(l)):Int)≥(1000000000:Int)) (ab.Bt D c d C b e A a f p E g i r (q - (1:Int)) (0:Int) (0:Int) p (0:Int) B t R) (ab.Bp D c d C b e A a f p E g i r (q - (1:Int)) (s+(l)) B t R))))))))) (∀u,Ext B [] w u->(ab.Bt D c d C b e A a f p E g i r q (0:Int) (0:Int) p (0:Int) B u R))))))))))))))))):
  ab.Bp D c d C b e A a f p E g i r q s B w R:=
 lr ab.cx func293 h
theorem ab.Bt.step{Z U X Fe:O}{Ff Fg V Fh Y Fi Fj Fk B:Nat}{W k z F T Md y:Int}{w:World}{R:Kt}
  (h:(Br ((y:Int)<Md) (aS .i64 (z)/\(Ix y Y X fun a86=>(∃(i87:Int),aa w (a86.add ((y).toNat*1)) [(.int .u32 i87)]/\(aS .i64 (i87)/\(aS .i64 ((z)*(i87))/\(aS .i64 (((z)*(i87))+F)/\((0<=(((z)*(i87))+F)/\0<(1000000000:Int)/\aS .i64 (((z)*(i87))+F))/\(aS .i64 (y+k)/\(Ix (y+k) V U fun a88=>(∃(i89:Int),aa w (a88.add (((y+k)).toNat*1)) [(.int .u32 i89)]/\(aS .i64 (i89)/\((0<=(((z)*(i87))+F)/\0<(1000000000:Int))/\(aS .i64 ((i89) - ((((z)*(i87))+F) % (1000000000:Int)))/\(aS .i64 (((i89) - ((((z)*(i87))+F) % (1000000000:Int))) - T)/\(Br (((((i89) - ((((z)*(i87))+F) % (1000000000:Int))) - T):Int)<(0:Int)) (aS .i64 ((((i89) - ((((z)*(i87))+F) % (1000000000:Int))) - T)+(1000000000:Int))/\(aS .i64 (y+k)/\(aS .u32 (((((i89) - ((((z)*(i87))+F) % (1000000000:Int))) - T)+(1000000000:Int)))/\(Ix (y+k) V U fun I=>(∃(Yg:List Value)(t92:Nat),B<=(I.add (((y+k)).toNat*1)).block/\(I.add (((y+k)).toNat*1)).spot=none/\w.heap[(I.add (((y+k)).toNat*1)).block]? =some (.cells Yg.toArray t92 (0,0))/\(I.add (((y+k)).toNat*1)).off+1<=Yg.length/\hasType t92 []=false/\∀w93,aC w w93 (I.add (((y+k)).toNat*1)).block t92 (setCells Yg (I.add (((y+k)).toNat*1)).off [(.int .u32 (((((i89) - ((((z)*(i87))+F) % (1000000000:Int))) - T)+(1000000000:Int))))])->(aS .i64 (y+(1:Int))/\(ab.Bt Z Ff Fg U V Fh X Y Fi W Fe Fj Fk k z ((((z)*(i87))+F) / (1000000000:Int)) (1:Int) Md (y+(1:Int)) B w93 R))))))) (aS .i64 (y+k)/\(aS .u32 ((((i89) - ((((z)*(i87))+F) % (1000000000:Int))) - T))/\(Ix (y+k) V U fun P=>(∃(Yh:List Value)(t96:Nat),B<=(P.add (((y+k)).toNat*1)).block/\(P.add (((y+k)).toNat*1)).spot=none/\w.heap[(P.add (((y+k)).toNat*1)).block]? =some (.cells Yh.toArray t96 (0,0))/\(P.add (((y+k)).toNat*1)).off+1<=Yh.length/\hasType t96 []=false/\∀w97,aC w w97 (P.add (((y+k)).toNat*1)).block t96 (setCells Yh (P.add (((y+k)).toNat*1)).off [(.int .u32 ((((i89) - ((((z)*(i87))+F) % (1000000000:Int))) - T)))])->(aS .i64 (y+(1:Int))/\(ab.Bt Z Ff Fg U V Fh X Y Fi W Fe Fj Fk k z ((((z)*(i87))+F) / (1000000000:Int)) (0:Int) Md (y+(1:Int)) B w97 R))))))))))))))))))))) (aS .i64 (k+W)/\(Ix (k+W) V U fun a98=>(∃(i99:Int),aa w (a98.add (((k+W)).toNat*1)) [(.int .u32 i99)]/\(aS .i64 (i99)/\(aS .i64 ((i99) - F)/\(aS .i64 (((i99) - F) - T)/\(Br (((((i99) - F) - T):Int)<(0:Int)) (aS .u64 (z - (1:Int))/\(ab.SR Z Ff Fg U V Fh X Y Fi W Fe Fj Fk k (z - (1:Int)) (((i99) - F) - T) (0:Int) W (0:Int) B w R)) (ab.Wv Z Ff Fg U V Fh X Y Fi W Fe Fj Fk k z (((i99) - F) - T) B w R)))))))))):
  ab.Bt Z Ff Fg U V Fh X Y Fi W Fe Fj Fk k z F T Md y B w R:=
 lr ab.cx Tryz.func293 h
theorem ab.SR.step{X I U Y:O}{Z Fg P Fh V Fi Fj Fk B:Nat}{yv y nF W z PM k:Int}{w:World}{R:Kt}
  (h:(Br ((k:Int)<PM) (aS .i64 (k+y)/\(Ix (k+y) P I fun agE=>(∃(i101:Int),aa w (agE.add (((k+y)).toNat*1)) [(.int .u32 i101)]/\(aS .u64 (i101)/\(Ix k V U fun agF=>(∃(i103:Int),aa w (agF.add ((k).toNat*1)) [(.int .u32 i103)]/\(aS .u64 (i103)/\(aS .u64 ((i101)+(i103))/\(aS .u64 (z+((i101)+(i103)))/\(aS .i64 (k+y)/\((0<=(z+((i101)+(i103)))/\0<(1000000000:Int))/\(aS .u32 (((z+((i101)+(i103))) % (1000000000:Int)))/\(Ix (k+y) P I fun F=>(∀Yi,Ext B [] w Yi->(∃(PN:List Value)(t107:Nat),B<=(F.add (((k+y)).toNat*1)).block/\(F.add (((k+y)).toNat*1)).spot=none/\Yi.heap[(F.add (((k+y)).toNat*1)).block]? =some (.cells PN.toArray t107 (0,0))/\(F.add (((k+y)).toNat*1)).off+1<=PN.length/\hasType t107 []=false/\∀T,aC Yi T (F.add (((k+y)).toNat*1)).block t107 (setCells PN (F.add (((k+y)).toNat*1)).off [(.int .u32 (((z+((i101)+(i103))) % (1000000000:Int))))])->((0<=(z+((i101)+(i103)))/\0<(1000000000:Int)/\aS .u64 (z+((i101)+(i103))))/\(aS .i64 (k+(1:Int))/\(ab.SR X Z Fg I P Fh U V Fi yv Y Fj Fk y nF W ((z+((i101)+(i103))) / (1000000000:Int)) PM (k+(1:Int)) B T R)))))))))))))))))) (aS .i64 (z)/\(aS .i64 (W+(z))/\(ab.Wv X Z Fg I P Fh U V Fi yv Y Fj Fk y nF (W+(z)) B w R))))):
  ab.SR X Z Fg I P Fh U V Fi yv Y Fj Fk y nF W z PM k B w R:=
 lr ab.cx Tryz.func293 h
theorem ab.Wv.step
  (h:(aS .i64 (p+q)/\(aS .u32 ((if(0:Int)>r then(0:Int)else r))/\(Ix (p+q) a A fun j=>(∃(m:List Value)(n:Nat),B<=(j.add (((p+q)).toNat*1)).block/\(j.add (((p+q)).toNat*1)).spot=none/\w.heap[(j.add (((p+q)).toNat*1)).block]? =some (.cells m.toArray n (0,0))/\(j.add (((p+q)).toNat*1)).off+1<=m.length/\hasType n []=false/\∀o,aC w o (j.add (((p+q)).toNat*1)).block n (setCells m (j.add (((p+q)).toNat*1)).off [(.int .u32 ((if(0:Int)>r then(0:Int)else r)))])->(aS .u32 (s)/\(Ix p b C fun l=>(∃(t:List Value)(u:Nat),B<=(l.add ((p).toNat*1)).block/\(l.add ((p).toNat*1)).spot=none/\o.heap[(l.add ((p).toNat*1)).block]? =some (.cells t.toArray u (0,0))/\(l.add ((p).toNat*1)).off+1<=t.length/\hasType u []=false/\∀v,aC o v (l.add ((p).toNat*1)).block u (setCells t (l.add ((p).toNat*1)).off [(.int .u32 (s))])->(aS .i64 (p - (1:Int))/\(ab.yu D c d A a e E f g q C b i (p - (1:Int)) B v R)))))))))):
  ab.Wv D c d A a e E f g q C b i p s r B w R:=
 jr ab.cx func293 h
theorem ab.vc
  (h:(Pure P 308 #[.slice A a b,.slice C c d] w (Ri fun n i=>(Br (n<0) (R (.tuple #[.slice none 0 0,.slice A a b]) i) (Pure P 291 #[.slice A a b] i fun o p=>∃e j,o= .tuple #[.int .u64 e,.bool j]/\(Pure P 291 #[.slice C c d] p fun q g=>∃f l,q= .tuple #[.int .u64 f,.bool l]/\(Bb j (Bb l ((0<=e/\0<f/\aS .u64 e)/\((0<=e/\0<f)/\(∀m,Ext w.heap.size [] g m->(Pure P 292 #[(.int .u64 (e / f))] m (Rs fun r s t u=>(Pure P 292 #[(.int .u64 (e % f))] u (Rs fun v x y z=>(R (.tuple #[.slice r s t,.slice v x y]) z)))))))) (ab.J7 A a b C c d w.heap.size g R)) (ab.J7 A a b C c d w.heap.size g R)))))))):
  Pure P 293 #[.slice A a b,.slice C c d] w R:=
 pr ab.cx func293 h

def bb.L3(a:O)(b c:Nat)(d:O)(e f:Nat)(g:O)(i j:Nat)(l m:Int):=Lt 295 f295 3 [vS 1 a b c,vS 5 d e f,vS 17 g i j,vI 18 l,vI 19 m] []
def bb.L7(a:O)(b c:Nat)(d:O)(e f:Nat)(g i j:Int)(l:O)(m n:Nat)(o p:Int)(q:O)(r s:Nat)(t u:Int):=Lt 295 f295 7 [vS 1 a b c,vS 5 d e f,vI 6 g,(7,.v (.int .u32 i)),(8,.v (.int .u64 j)),vS 17 l m n,vI 18 o,vI 19 p,vS 24 q r s,vI 25 t,vI 26 u] []
def bb.cx:Pm:=([((true,3),[1,5,17,18,19],[]),((true,7),[1,5,6,7,8,17,18,19,24,25,26],[])],[(1,5,2)])
theorem bb.L3.step
  (h:(Br (p<q) (Ix p e D fun i=>(∃g,aa w (i.add ((p).toNat*1)) [.int .u32 g]/\(bb.L7 A a b C c d p g (0:Int) D e f q p A a b (a:Int) (0:Int) B w R))) (Pure P 304 #[.slice C c d] w (Rs fun j l m n=>(R (.slice j l m) n))))):
  bb.L3 A a b C c d D e f q p B w R:=
 lr bb.cx func295 h
theorem bb.L7.step{U W Yj Yk:O}{P V X Yl Ym Yn Yo Y B:Nat}{k I T Yp Z wK y:Int}{w:World}{R:Kt}
  (h:(Br ((y:Int)<wK) (Ix y Yo Yk fun a9=>(∃(i10:Int),aa w (a9.add ((y).toNat*1)) [(.int .u32 i10)]/\(aS .u64 (I)/\(aS .u64 (i10)/\(aS .u64 ((I)*(i10))/\(aS .i64 (k+y)/\(Ix (k+y) X W fun a11=>(∃(i12:Int),aa w (a11.add (((k+y)).toNat*1)) [(.int .u32 i12)]/\(aS .u64 (i12)/\(aS .u64 (((I)*(i10))+(i12))/\(aS .u64 (T+(((I)*(i10))+(i12)))/\(aS .i64 (k+y)/\((0<=(T+(((I)*(i10))+(i12)))/\0<(1000000000:Int))/\(aS .u32 (((T+(((I)*(i10))+(i12))) % (1000000000:Int)))/\(Ix (k+y) X W fun z=>(∃(Yq:List Value)(t15:Nat),B<=(z.add (((k+y)).toNat*1)).block/\(z.add (((k+y)).toNat*1)).spot=none/\w.heap[(z.add (((k+y)).toNat*1)).block]? =some (.cells Yq.toArray t15 (0,0))/\(z.add (((k+y)).toNat*1)).off+1<=Yq.length/\hasType t15 []=false/\∀xe,aC w xe (z.add (((k+y)).toNat*1)).block t15 (setCells Yq (z.add (((k+y)).toNat*1)).off [(.int .u32 (((T+(((I)*(i10))+(i12))) % (1000000000:Int))))])->((0<=(T+(((I)*(i10))+(i12)))/\0<(1000000000:Int)/\aS .u64 (T+(((I)*(i10))+(i12))))/\(aS .i64 (y+(1:Int))/\(bb.L7 U P V W X Yl k I ((T+(((I)*(i10))+(i12))) / (1000000000:Int)) Yj Ym Yn Yp Z Yk Yo Y wK (y+(1:Int)) B xe R))))))))))))))))))) (aS .i64 (k+(P:Int))/\(aS .u32 (T)/\(Ix (k+(P:Int)) X W fun F=>(∃(Yr:List Value)(t19:Nat),B<=(F.add (((k+(P:Int))).toNat*1)).block/\(F.add (((k+(P:Int))).toNat*1)).spot=none/\w.heap[(F.add (((k+(P:Int))).toNat*1)).block]? =some (.cells Yr.toArray t19 (0,0))/\(F.add (((k+(P:Int))).toNat*1)).off+1<=Yr.length/\hasType t19 []=false/\∀Ar,aC w Ar (F.add (((k+(P:Int))).toNat*1)).block t19 (setCells Yr (F.add (((k+(P:Int))).toNat*1)).off [(.int .u32 (T))])->(aS .i64 (Z+(1:Int))/\(bb.L3 U P V W X Yl Yj Ym Yn Yp (Z+(1:Int)) B Ar R)))))))):
  bb.L7 U P V W X Yl k I T Yj Ym Yn Yp Z Yk Yo Y wK y B w R:=
 lr bb.cx Tryz.func295 h
theorem bb.vc
  (h:(aS .i64 ((a:Int)+(b:Int))/\(ae P (Instr.makeSlice 325 (I ((a:Int)+(b:Int))) (I ((a:Int)+(b:Int)))) w.heap.size [] w (Rs fun e f g i=>(bb.L3 C b d e f g A a c (a:Int) (0:Int) w.heap.size i R))))):
  Pure P 295 #[.slice A a c,.slice C b d] w R:=
 pr bb.cx func295 h

def lx.cx:Pm:=([],[])
theorem lx.vc
  (h:(Pure P 266 #[.string L,.string M] w fun j b=>∃c d e f g i a,j= .tuple #[.slice c d e,.slice f g i,I a]/\(Br (a≠0) (R (.tuple #[(.string ⟨#[]⟩),I a]) b) (Pure P 267 #[(.func (.func 316) #[.slice c d e] #[]),.slice f g i] b (rV fun l m n=>(R (.tuple #[.string l,I m]) n)))))):
  Pure P 296 #[.string L,.string M] w R:=
 pr lx.cx func296 h

def iT.cx:Pm:=([],[])
theorem iT.vc
  (h:(Pure P 266 #[.string L,.string M] w fun j b=>∃c d e f g i a,j= .tuple #[.slice c d e,.slice f g i,I a]/\(Br (a≠0) (R (.tuple #[I 0,I a]) b) (Pure P 308 #[.slice c d e,.slice f g i] b (Ri fun l m=>(R (.tuple #[I l,I 0]) m)))))):
  Pure P 297 #[.string L,.string M] w R:=
 pr iT.cx func297 h

def lz.cx:Pm:=([],[])
theorem lz.vc
  (h:(Pure P 266 #[.string L,.string M] w fun l i=>∃a b c d e f g,l= .tuple #[.slice a b c,.slice d e f,I g]/\(Br (g≠0) (R (.tuple #[(.string ⟨#[]⟩),I g]) i) (Pure P 308 #[.slice a b c,.slice d e f] i (Ri fun m j=>(Br (m<0) (R (.tuple #[(.string ⟨#[]⟩),I 2]) j) (Pure P 267 #[(.func (.func 317) #[.slice a b c] #[]),.slice d e f] j (rV fun n o p=>(R (.tuple #[.string n,I o]) p))))))))):
  Pure P 298 #[.string L,.string M] w R:=
 pr lz.cx func298 h

def cJ.L1(a:O)(b c:Nat):=Lt 304 f304 1 [vS 0 a b c] []
def cJ.cx:Pm:=([((true,1),[0],[])],[])
theorem cJ.L1.step
  (h:(Br ((a:Int)>0) (aS .i64 ((a:Int) - (1:Int))/\(Ix ((a:Int) - (1:Int)) a A fun d=>(∃c,aa w (d.add ((((a:Int) - (1:Int))).toNat*1)) [.int .u32 c]/\(Br (c=0) (aS .i64 ((a:Int) - (1:Int))/\((0<=((a:Int) - (1:Int))/\((a:Int) - (1:Int))<=(b:Int))/\(cJ.L1 A ((((a:Int) - (1:Int))).toNat) b B w R))) (R (.slice A a b) w))))) (R (.slice A a b) w))):
  cJ.L1 A a b B w R:=
 lr cJ.cx func304 h
theorem cJ.vc
  (h:(cJ.L1 A a b w.heap.size w R)):
  Pure P 304 #[.slice A a b] w R:=
 pr cJ.cx func304 h

def bO.L4(a:O)(b c:Nat)(d:O)(e f:Nat)(g:Int):=Lt 308 f308 4 [vS 0 a b c,vS 1 d e f,vI 5 g] []
def bO.cx:Pm:=([((true,4),[0,1,5],[])],[(7,9999,3)])
theorem bO.L4.step
  (h:(Br (p≥(0:Int)) (Ix p a A fun n=>(∃f,aa w (n.add ((p).toNat*1)) [.int .u32 f]/\(Ix p b C fun o=>(∃g,aa w (o.add ((p).toNat*1)) [.int .u32 g]/\(Br (f≠g) (∀e,Ext B [] w e->(Ix p a A fun q=>(∃i,aa e (q.add ((p).toNat*1)) [.int .u32 i]/\(Ix p b C fun r=>(∃j,aa e (r.add ((p).toNat*1)) [.int .u32 j]/\(∀l,Ext B [] e l->(Pure P 326 #[.int .u32 i,.int .u32 j] l (Ri fun s t=>(R (I s) t))))))))) (aS .i64 (p - (1:Int))/\(∀m,Ext B [] w m->(bO.L4 A a c C b d (p - (1:Int)) B m R)))))))) (R (I 0) w))):
  bO.L4 A a c C b d p B w R:=
 lr bO.cx func308 h
theorem bO.vc
  (h:(Br ((a:Int)≠(b:Int)) (Pure P 103 #[(I (a:Int)),(I (b:Int))] w (Ri fun e f=>(R (I e) f))) (aS .i64 ((a:Int) - (1:Int))/\(bO.L4 A a c C b d ((a:Int) - (1:Int)) w.heap.size w R)))):
  Pure P 308 #[.slice A a c,.slice C b d] w R:=
 pr bO.cx func308 h

def dh.L4(a:O)(b c:Nat)(d:Int)(e:O)(f g:Nat)(i j:Int):=Lt 309 f309 4 [vS 0 a b c,(1,.v (.int .u64 d)),vS 6 e f g,(7,.v (.int .u64 i)),vI 8 j] []
def dh.cx:Pm:=([((true,4),[0,1,6,7,8],[])],[(1,2,2)])
theorem dh.L4.step
  (h:(Br (p≥(0:Int)) (aS .u64 (q*(1000000000:Int))/\(Ix p b C fun l=>(∃e,aa w (l.add ((p).toNat*1)) [.int .u32 e]/\(aS .u64 (e)/\(aS .u64 ((q*(1000000000:Int))+(e))/\((0<=((q*(1000000000:Int))+(e))/\0<r/\aS .u64 ((q*(1000000000:Int))+(e)))/\(aS .u32 ((((q*(1000000000:Int))+(e)) / r))/\(Ix p a A fun f=>(∃(g:List Value)(i:Nat),B<=(f.add ((p).toNat*1)).block/\(f.add ((p).toNat*1)).spot=none/\w.heap[(f.add ((p).toNat*1)).block]? =some (.cells g.toArray i (0,0))/\(f.add ((p).toNat*1)).off+1<=g.length/\hasType i []=false/\∀j,aC w j (f.add ((p).toNat*1)).block i (setCells g (f.add ((p).toNat*1)).off [(.int .u32 ((((q*(1000000000:Int))+(e)) / r)))])->((0<=((q*(1000000000:Int))+(e))/\0<r)/\(aS .i64 (p - (1:Int))/\(dh.L4 C b d r A a c (((q*(1000000000:Int))+(e)) % r) (p - (1:Int)) B j R)))))))))))) (Pure P 304 #[.slice A a c] w (Rs fun m n o s=>(Pure P 292 #[.int .u64 q] s (Rs fun t u v x=>(R (.tuple #[.slice m n o,.slice t u v]) x))))))):
  dh.L4 C b d r A a c q p B w R:=
 lr dh.cx func309 h
theorem dh.vc
  (h:(ae P (Instr.makeSlice 325 (I (a:Int)) (I (a:Int))) w.heap.size [] w (Rs fun c d e f=>(aS .i64 ((a:Int) - (1:Int))/\(dh.L4 A a b p c d e (0:Int) ((a:Int) - (1:Int)) w.heap.size f R))))):
  Pure P 309 #[.slice A a b,.int .u64 p] w R:=
 pr dh.cx func309 h

def mE.cx:Pm:=([],[])
theorem mE.vc
  (h:(Pure P 332 #[.slice A a b,.slice C c d,I 1] w (Rs fun e f g i=>(R (.slice e f g) i)))):
  Pure P 316 #[.slice A a b,.slice C c d] w R:=
 pr mE.cx func316 h

def lS.cx:Pm:=([],[])
theorem lS.vc
  (h:(Pure P 332 #[.slice A a b,.slice C c d,(I (-1:Int))] w (Rs fun e f g i=>(Pure P 304 #[.slice e f g] i (Rs fun j l m n=>(R (.slice j l m) n)))))):
  Pure P 317 #[.slice A a b,.slice C c d] w R:=
 pr lS.cx func317 h

def ai.L4(a:O)(b c:Nat)(d:O)(e f:Nat)(g:Int)(i:O)(j l:Nat)(m n o:Int):=Lt 332 f332 4 [vS 0 a b c,vS 1 d e f,vI 2 g,vS 7 i j l,vI 8 m,vI 19 n,vI 20 o] []
def ai.J8(a:O)(b c:Nat)(d:O)(e f:Nat)(g:Int)(i:O)(j l:Nat)(m n o p:Int):=Jt 332 f332 8 [vS 0 a b c,vS 1 d e f,vI 2 g,vS 7 i j l,vI 8 m,vI 9 n,vI 19 o,vI 20 p] []
def ai.qd(a:O)(b c:Nat)(d:O)(e f:Nat)(g:Int)(i:O)(j l:Nat)(m n o:Int):=Jt 332 f332 10 [vS 0 a b c,vS 1 d e f,vI 2 g,vS 7 i j l,vI 8 m,vI 19 n,vI 20 o] []
def ai.cx:Pm:=([((true,4),[0,1,2,7,8,19,20],[]),((false,8),[0,1,2,7,8,9,19,20],[]),((false,10),[0,1,2,7,8,19,20],[])],[(1,3,2),(10,1,1),(11,1,1),(15,3,2),(15,4,2),(18,3,2),(18,4,2)])
theorem ai.L4.step
  (h:(Br (p<r) (Br (p<(a:Int)) (Ix p a C fun i=>(∃g,aa w (i.add ((p).toNat*1)) [.int .u32 g]/\(aS .i64 (g)/\(aS .i64 (q+(g))/\(ai.J8 C a d D e f s A b c (q+(g)) p r p B w R))))) (ai.J8 C a d D e f s A b c q p r p B w R)) (Br (q>0) (aS .u32 (q)/\(ae P (Instr.buildSlice 325 1 #[(0,(.int .u32 (q)))]) B [] w (Rs fun j l m n=>(ae P (Builtin.append_ #[325,325] 325 #[.slice A b c,.slice j l m]) B [] n (Rs fun o t u v=>(R (.slice o t u) v)))))) (R (.slice A b c) w)))):
  ai.L4 C a d D e f s A b c q r p B w R:=
 lr ai.cx func332 h
theorem ai.J8.step
  (h:(Br (r<(a:Int)) (Ix r a A fun i=>(∃g,aa w (i.add ((r).toNat*1)) [.int .u32 g]/\(aS .i64 (g)/\(aS .i64 (p*(g))/\(aS .i64 (q+(p*(g)))/\(ai.qd C b c A a d p D e f (q+(p*(g))) s t B w R)))))) (ai.qd C b c A a d p D e f q s t B w R))):
  ai.J8 C b c A a d p D e f q r s t B w R:=
 jr ai.cx func332 h
theorem ai.qd.step
  (h:((1000000000:Int)≠0/\((1000000000:Int)≠0/\(Br (((Int.tmod p (1000000000:Int)):Int)<0) (aS .i64 ((Int.tmod p (1000000000:Int))+1000000000)/\(aS .i64 ((IntKind.wrap .i64 (Int.tdiv p (1000000000:Int))) - (1:Int))/\(aS .u32 (((Int.tmod p (1000000000:Int))+1000000000))/\(ae P (Instr.buildSlice 325 1 #[(0,(.int .u32 (((Int.tmod p (1000000000:Int))+1000000000))))]) B [] w (Rs fun g i j l=>(ae P (Builtin.append_ #[325,325] 325 #[.slice D e f,.slice g i j]) B [] l (Rs fun m n o t=>(aS .i64 (q+1)/\(ai.L4 A a b C c d r m n o ((IntKind.wrap .i64 (Int.tdiv p (1000000000:Int))) - (1:Int)) s (q+1) B t R))))))))) (aS .u32 ((Int.tmod p (1000000000:Int)))/\(ae P (Instr.buildSlice 325 1 #[(0,(.int .u32 ((Int.tmod p (1000000000:Int)))))]) B [] w (Rs fun u v x y=>(ae P (Builtin.append_ #[325,325] 325 #[.slice D e f,.slice u v x]) B [] y (Rs fun z E G H=>(aS .i64 (q+1)/\(ai.L4 A a b C c d r z E G (IntKind.wrap .i64 (Int.tdiv p (1000000000:Int))) s (q+1) B H R))))))))))):
  ai.qd A a b C c d r D e f p s q B w R:=
 jr ai.cx func332 h
theorem ai.vc
  (h:(aS .i64 ((a:Int)+1)/\(ae P (Instr.makeSlice 325 (I 0) (I ((a:Int)+1))) w.heap.size [] w (Rs fun e f g i=>(ai.L4 A a c C b d p e f g (0:Int) (if(b:Int)>(a:Int)then(b:Int)else(a:Int)) (0:Int) w.heap.size i R))))):
  Pure P 332 #[.slice A a c,.slice C b d,I p] w R:=
 pr ai.cx func332 h

def hU.cx:Pm:=([],[])
theorem hU.vc
  (h:(Pure P 266 #[.string L,.string M] w fun q a=>∃d e f g b i c,q= .tuple #[.slice d e f,.slice g b i,I c]/\(Br (c≠0) (R (.tuple #[(.string ⟨#[]⟩),(.string ⟨#[]⟩),I c]) a) (Br ((b:Int)=0) (R (.tuple #[(.string ⟨#[]⟩),(.string ⟨#[]⟩),I 16]) a) (Pure P 293 #[.slice d e f,.slice g b i] a fun r s=>∃j l m n o p,r= .tuple #[.slice j l m,.slice n o p]/\(Pure P 290 #[.slice j l m] s (Rt fun t u=>(Pure P 290 #[.slice n o p] u (Rt fun v x=>(R (.tuple #[.string t,.string v,I 0]) x)))))))))):
  Pure P 346 #[.string L,.string M] w R:=
 pr hU.cx func346 h

end Go.Proofs.YtbcojgcjjpggnaaGreatDoor.F

namespace Go.Proofs.YtbcojgcjjpggnaaGreatDoor.B
open Go Go.RowKit Go.Proofs Go.Proofs.YtbcojgcjjpggnaaGreatDoor.Vc

abbrev Tx:=List UInt8
def cM(s:ByteArray):Tx:=s.data.toList
def st(l:Tx):ByteArray:=⟨l.toArray⟩
theorem Hs(l:Tx):cM (st l)=l:=rfl
theorem PO(s:ByteArray):st (cM s)=s:=rfl
theorem kD(s:ByteArray):s.size=(cM s).length:=by rfl
theorem Bz{a b:Tx}(h:st a=st b):a=b:=by have:=ca cM h;exact this
theorem JY{a b:ByteArray}(h:cM a=cM b):a=b:=by rw[<-PO a,<-PO b,h]

def vm(c:UInt8):Bool:=48<=c.toNat&&c.toNat<=57
def dv(c:UInt8):Nat:=c.toNat - 48
def isNat(l:Tx):Bool:= !l.isEmpty&&(l.length==1||l.head? !=some 48)&&l.all vm
def eB(l:Tx):Nat:=l.foldl (fun a c=>10*a+dv c) 0

theorem JZ{s:ByteArray}{i:Int}(a:0<=i)(h:i<s.size):∃c,(cM s)[i.toNat]? =some c/\bt s i=(c.toNat:Int)/\(cM s).drop i.toNat=c::(cM s).drop (i.toNat+1):=by
 have hl:i.toNat<(cM s).length:=by rw[<-kD];omega
 refine⟨(cM s)[i.toNat],by simp[hl],?_,dp hl⟩;have e:bt s i=(((cM s).getD i.toNat 0).toNat:Int):=rfl;rw[e,cb,af hl];rfl

theorem wL(s:ByteArray)(hs:s.size<2147483648)(B:Nat)(w:World)(R:Value->World->Prop):∀(d:Nat)(i:Int),0<=i->i<=s.size->s.size - i=d->
  R (.bool (((cM s).drop i.toNat).all vm)) w->F.bQ.L4 s s.size i B w R:=by
 intro d;induction d with
 |zero=>
  intro i b h1 g a;refine F.bQ.L4.step ⟨fun h=>by omega,fun h=> ?_⟩;rw[de (by rw[<-kD];omega)]at a;exact a
 |succ d ih=>
  intro i b h1 g a;obtain⟨c,e,hb,j⟩:=JZ b (show i<s.size by omega);rw[j,yc]at a;refine F.bQ.L4.step ⟨fun h=>⟨om,⟨fun k=> ?_,fun k=>⟨om,⟨fun l=> ?_,fun l=>⟨ir,?_⟩⟩⟩⟩⟩,fun h=>by omega⟩
  ·have:vm c=false:=by simp[vm];omega
   simpa[this]using a
  ·have:vm c=false:=by simp[vm];omega
   simpa[this]using a
  ·have e:vm c=true:=by simp[vm];omega
   refine ih (i+1) om om om ?_;rw[show(i+1).toNat=i.toNat+1 by omega];simpa[e]using a

theorem bQ(s:ByteArray)(hs:s.size<2147483648)(w:World):Pure Tryz.prog 178 #[.string s] w fun v _=>v= .bool (isNat (cM s)):=by
 have go:∀R:Value->World->Prop,R (.bool ((cM s).all vm)) w->F.bQ.L4 s s.size 0 w.heap.size w R:=fun R j=>
  wL s hs _ _ _ s.size 0 om om om j
 refine F.bQ.vc ⟨fun h=> ?_,fun h=>⟨fun h1=>⟨om,⟨fun g=> ?_,fun g=>go _ ?_⟩⟩,fun h1=>go _ ?_⟩⟩
 ·subst h;rfl
 ·obtain⟨c,a,hb,b⟩:=JZ (s:=s) (i:=0) om om;have e:cM s=c::(cM s).drop 1:=by simpa using b
  have d:c=48:=by
   have:c.toNat=48:=om;exact UInt8.toNat_inj.1 this
  have hl:(cM s).length≠1:=by rw[<-kD];omega
  have:isNat (cM s)=false:=by
   unfold isNat;simp only[Ip,(by simpa using hl:((cM s).length==1)=false)];rw[e,d];simp
  rw[this]
 ·obtain⟨c,a,hb,b⟩:=JZ (s:=s) (i:=0) om om;have e:cM s=c::(cM s).drop 1:=by simpa using b
  have d:c≠48:=fun k=>by subst k;exact g hb
  congr 1
  unfold isNat;rw[e];simp[d]
 ·have hl:(cM s).length=1:=by
   rw[<-kD];have:s.size≠0:=fun k=>h (by apply JY;exact ew k)
   omega
  obtain⟨c,a⟩:=ox.1 hl;rw[a];simp[isNat]

def wv:List Nat->Nat
 |[]=>0
 |x::r=>x+1000000000*wv r
def Small(l:List Nat):Prop:=∀x∈l,x<1000000000
def Norm(l:List Nat):Prop:=l.getLast?≠some 0

theorem gw(a b:List Nat):wv (a++b)=wv a+1000000000^a.length*wv b:=by
 induction a with
 |nil=>simp[wv]
 |cons x r ih=>simp only[wo,wv,ih,eR,kc];rw[oe,<-Nat.mul_assoc,Cb 1000000000 (1000000000^_)];omega
theorem pn{l:List Nat}(h:Small l):wv l<1000000000^l.length:=by
 induction l with
 |nil=>simp[wv]
 |cons x r ih=>
  have h1:=h x sm;have a:=ih fun y hy=>h y (by simp[hy])
  simp only[wv,eR,kc];omega
theorem Small.take{l:List Nat}(h:Small l)(n:Nat):Small (l.take n):=fun x hx=>h x (k7 hx)
theorem Small.append{a b:List Nat}(ha:Small a)(hb:Small b):Small (a++b):=fun x hx=>(ga.1 hx).elim (ha x) (hb x)
theorem Small.cons{x:Nat}{l:List Nat}(hx:x<1000000000)(h:Small l):Small (x::l):=fun y hy=>by
 rcases cy.1 hy with rfl|hy
 ·exact hx
 ·exact h y hy
theorem Small.nil:Small []:=fun x hx=>by cases hx

theorem nX{l:List Nat}(h:Norm l)(hn:l≠[]):1000000000^(l.length - 1)<=wv l:=by
 have e:l=l.dropLast++[l.getLast hn]:=(yd hn).symm;have a:l.getLast hn≠0:=fun k=>h (by rw[IE hn,k])
 have hw:wv l=wv l.dropLast+1000000000^l.dropLast.length*wv [l.getLast hn]:=by rw[<-gw,<-e]
 rw[hw,List.length_dropLast];simp only[wv,TA,tT];have h1:1<=l.getLast hn:=om;have:=hO (1000000000^(l.length - 1)) h1;omega

def nk(w:World)(A:Option Addr)(ws:List Nat):Prop:=
 ws=[]∨∃b off all fr,A=some ⟨b,off,none⟩/\w.heap[b]? =some (.cells all 227 fr)/\∀i,(h:i<ws.length)->all[off+i]? =some (.int .u32 (ws[i]:Nat))

theorem nk.cell{w:World}{A:Option Addr}{ws:List Nat}(h:nk w A ws){j:Int}(e:0<=j)(h1:j<ws.length):
  ∃a,A=some a/\∃x:Nat,ws[j.toNat]? =some x/\aa w (a.add (j.toNat*1)) [.int .u32 (x:Int)]:=by
 rcases h with h|⟨b,off,all,fr,c,hb,d⟩
 ·subst h;simp at h1;omega
 ·have hj:j.toNat<ws.length:=om;refine⟨_,c,ws[j.toNat],by simp[hj],fun i hi=> ?_⟩;have hi:i=0:=by simp at hi;exact hi
  subst hi;rw[Cy,jw,jw];simp only[World.cell?,hb];simpa using d j.toNat hj

theorem nk.heap{w w':World}{A:Option Addr}{ws:List Nat}(h:nk w A ws)(a:∀(b:Nat)(all:Array Value)(fr:Nat×Nat),w.heap[b]? =some (.cells all 227 fr)->w'.heap[b]? =w.heap[b]?):nk w' A ws:=by
 rcases h with h|⟨b,off,all,fr,c,hb,d⟩
 ·exact .inl h
 ·exact .inr ⟨b,off,all,fr,c,by rw[a b all fr hb];exact hb,d⟩
theorem nk.below{w w':World}{A:Option Addr}{ws:List Nat}(h:nk w A ws)(hb:Below w.heap.size w w'):nk w' A ws:=
 nk.heap h fun b _ _ e=>hb.block b (ax.1 e).1
theorem nk.ext{w w':World}{B:Nat}{ts:List Nat}{A:Option Addr}{ws:List Nat}(h:nk w A ws)(he:Ext B ts w w')(hn:227∉ts):nk w' A ws:=
 nk.heap h fun b all fr e=>by
  rcases he.other b (ax.1 e).1 with h1|⟨t,a,c,c',d,h1,_⟩
  ·exact h1
  ·rw[e]at h1;cases h1;exact absurd a hn
theorem nk.take{w:World}{A:Option Addr}{ws:List Nat}(h:nk w A ws)(k:Nat):nk w A (ws.take k):=by
 rcases h with h|⟨b,off,all,fr,a,hb,c⟩
 ·exact .inl (by simp[h])
 ·exact .inr ⟨b,off,all,fr,a,hb,fun i hi=>by
   have h1:i<ws.length:=by simp at hi;omega
   simpa using c i h1⟩

def iF(w:World)(A:Option Addr)(n c:Nat)(x:Nat):Prop:=∃ws,nk w A ws/\ws.length=n/\n<=c/\n<2147483648/\Small ws/\Norm ws/\wv ws=x
theorem iF.below{w w':World}{A:Option Addr}{n c x:Nat}(h:iF w A n c x)(hb:Below w.heap.size w w'):iF w' A n c x:=by
 obtain⟨ws,h1,a⟩:=h;exact⟨ws,h1.below hb,a⟩
theorem iF.ext{w w':World}{B:Nat}{ts:List Nat}{A:Option Addr}{n c x:Nat}(h:iF w A n c x)(he:Ext B ts w w')(hn:227∉ts):iF w' A n c x:=by
 obtain⟨ws,h1,a⟩:=h;exact⟨ws,h1.ext he hn,a⟩

theorem Fl{ws:List Nat}{n:Nat}(hn:ws.length=n+1)(a:ws[n]? =some 0):wv (ws.take n)=wv ws:=by
 have e:ws=ws.take n++[0]:=by
  apply zy;intro i;by_cases h:i<n
  ·rw[gv (by simp;omega)];simp[h]
  ·rw[hN (by simp;omega)];by_cases b:i=n
   ·subst b;rw[a];simp[hn]
   ·rw[hJ om,hJ (by simp;omega)]
 conv=>rhs;rw[e]
 rw[gw];simp[wv]

theorem xv(B:Nat)(w:World)(A:Option Addr)(c:Nat)(R:Value->World->Prop):∀(n:Nat)(ws:List Nat),nk w A ws->ws.length=n->n<2147483648->n<=c->Small ws->
  (∀m,m<=n->Norm (ws.take m)->wv (ws.take m)=wv ws->R (.slice A m c) w)->F.cJ.L1 A n c B w R:=by
 intro n;induction n with
 |zero=>
  intro ws h hl o hn hs d;refine F.cJ.L1.step ⟨fun h=>by omega,fun _=>d 0 om (by simp[Norm]) (by have:=ew hl;subst this;rfl)⟩
 |succ n ih=>
  intro ws h hl o hn hs d;obtain⟨a,q,x,hx,b⟩:=h.cell (j:=((n+1:Nat):Int) - 1) om om;have e:(((n+1:Nat):Int) - 1).toNat=n:=om;refine F.cJ.L1.step ⟨fun _=>⟨ir,om,a,q,_,b,fun g=>⟨ir,om,?_⟩,fun g=> ?_⟩,fun h=>by omega⟩
  ·rw[e]at hx⊢;have r:x=0:=om;subst r;have y:=Fl hl hx;refine ih (ws.take n) (h.take n) (by simp;omega) om om (hs.take n) fun m hm h1 i=>d m om ?_ ?_
   ·rw[RR,lO hm]at h1;exact h1
   ·rw[RR,lO hm]at i;rw[i,y]
  ·rw[e]at hx;have l:ws.take (n+1)=ws:=cd om;refine d (n+1) lf ?_ (by rw[l]);rw[l];unfold Norm;rw[FP,hl,Nat.add_sub_cancel,hx];intro k;cases k;exact g rfl

theorem lT{w:World}{A:Option Addr}{n c:Nat}{ws:List Nat}(h:nk w A ws)(hl:ws.length=n)(hn:n<=c)(b:n<2147483648)(hs:Small ws):
  Pure Tryz.prog 304 #[.slice A n c] w fun v w'=>w'=w/\∃m,v= .slice A m c/\iF w A m c (wv ws)/\m<=n/\Norm (ws.take m)/\wv (ws.take m)=wv ws:=
 F.cJ.vc (xv _ _ _ _ _ n ws h hl b hn hs fun m hm h1 a=>⟨rfl,m,rfl,⟨ws.take m,h.take m,by simp;omega,om,om,hs.take m,h1,a⟩,hm,h1,a⟩)

structure El (P:Program) (t e:TypeId) (size bytes:Nat):Prop where
 Ht:P.underlying t=some (.slice e)
 info:∃i z,P.info? e=some i/\i.zero=some z/\i.size=size/\i.bytes=bytes/\z.cells.size=size
 pos:0<size
 small:size<=1024

theorem lA{v:Value}(h:bo v=true):v.oneCell'=true:=by cases v<;>first|rfl|(simp[bo]at h)

theorem PQ(off:Nat):∀(v:List Value)(k:Nat)(cs:Array Value)(i:Nat),
  ((v.zipIdx k).foldl (fun cs (x:Value×Nat)=>cs.setIfInBounds (off+x.2) x.1) cs)[i]? =if off+k<=i/\i<off+k+v.length/\i<cs.size then v[i - off - k]? else cs[i]? :=by
 intro v;induction v with
 |nil=>intro k cs i;simp;intro h1 a;omega
 |cons x r ih=>
  intro k cs i;rw[Pb,Ub,ih];simp only[Array.size_setIfInBounds,eR];by_cases h1:off+(k+1)<=i/\i<off+(k+1)+r.length/\i<cs.size
  ·rw[bm h1,bm ⟨om,om,h1.2.2⟩,show i - off - k=(i - off - (k+1))+1 by omega,List.getElem?_cons_succ]
  ·rw[aq h1,Jm];by_cases a:off+k=i
   ·rw[bm a];by_cases b:i<cs.size
    ·rw[bm om,bm ⟨om,om,b⟩,show i - off - k=0 by omega];rfl
    ·rw[aq om,aq om,ui om]
   ·rw[aq a,aq om]

theorem PR(size:Nat):∀(vs:List Value)(k:Nat)(pre rest:List Value),pre.length=k*size->rest.length=vs.length*size->(∀v∈vs,v.cells.size=size)->
  Instr.fill (fun i=>some (i*size,size)) (pre++rest).toArray ((vs.zipIdx k).map fun x=>(x.2,x.1))=some (pre++vs.flatMap fun v=>v.cells.toList).toArray:=by
 intro vs;induction vs with
 |nil=>
  intro k pre rest hp a _;have:rest=[]:=ew (by simpa using a);simp[Instr.fill,this]
 |cons v r ih=>
  intro k pre rest hp a b;have h1:=b v sm;have hl:v.cells.toList.length=size:=by simpa using h1
  have c:rest.length=r.length*size+size:=by rw[a,eR,nG,Nat.one_mul]
  rw[Pb,yq,Instr.fill];simp only[h1,ne_eq,SB,decide_false,Ip,zI,en];rw[aq (by simp;omega)];have e:(v.cells.zipIdx.foldl (fun cs x=>cs.setIfInBounds (k*size+x.2) x.1) (pre++rest).toArray)=((pre++v.cells.toList)++rest.drop size).toArray:=by
   rw[<-Array.foldl_toList,Array.toList_zipIdx];apply MY;apply zy;intro i;rw[Array.getElem?_toList,PQ];simp only[tT,List.getElem?_toArray,zI,en,hl,hp];by_cases h:k*size<=i/\i<k*size+size/\i<k*size+rest.length
   ·rw[bm h,gv (by simp;omega),hN om,hp];simp
   ·rw[aq h];by_cases d:i<k*size
    ·rw[gv om,gv (by simp;omega),gv om]
    ·rw[hN om,hN (by simp;omega),kp]
     congr 1
     simp;omega
  rw[e,ih (k+1) (pre++v.cells.toList) (rest.drop size) (by simp[hp,h1,nG]) (by simp;omega) (fun y hy=>b y (by simp[hy]))];simp[tJ,ky]

theorem oP{P:Program}{t e size bytes:Nat}(el:El P t e size bytes)(vs:List Value)(c:∀v∈vs,v.cells.size=size)(hn:vs.length<=1024)(w:World):
  (Instr.buildSlice t vs.length (vs.zipIdx.map fun x=>(x.2,x.1)).toArray).run P w= .ok (.slice (some ⟨w.heap.size,0,none⟩) vs.length vs.length) (w.alloc (.cells (vs.flatMap fun v=>v.cells.toList).toArray e)):=by
 obtain⟨i,z,h1,d,g,l,m⟩:=el.info;have hs:=el.small;have hp:=el.pos;have hle:vs.length*size<=1024*1024:=u0 hn hs;have h:(sizeOf e).run P w= .ok size w:=by simp[sizeOf,typeInfo,program,Sem.run_bind,Sem.run,h1,g]
 have j:(zeroValue e).run P w= .ok z w:=by simp[zeroValue,typeInfo,program,Sem.run_bind,Sem.run,h1,d]
 have a:∀c0:Array Value,c0.size=vs.length*size->Instr.fill (fun i=>some (i*size,size)) c0 (vs.zipIdx.map fun x=>(x.2,x.1))=some (vs.flatMap fun v=>v.cells.toList).toArray:=by
  intro c0 k;have:=PR size vs 0 [] c0.toList sm (by simpa using k) c;simpa using this
 simp only[Instr.buildSlice,Sem.run_bind,run_underlying el.Ht,Result.andThen_ok,h];rw[aq om];by_cases b:vs.length*size=0
 ·rw[bm b];simp only[Sem.run_bind,Result.andThen_ok,Sem.run_pure];rw[a _ sm];simp[newRow,newObj,Sem.run]
 ·rw[aq b];simp only[Sem.run_bind,j,Result.andThen_ok,Sem.run_pure];rw[a _ sm];simp[newRow,newObj,Sem.run]

theorem ownsRow_form{w:World}{B e size n:Nat}{v:Value}{xs:List Value}(h:w.ownsRow B e size v n xs):∃A c,v= .slice A n c/\n<=c:=by
 rcases h.2 with⟨rfl,rfl⟩|⟨g,cap,cur,rfl,_,_,a,_⟩
 ·exact⟨none,0,rfl,fs _⟩
 ·exact⟨_,cap,rfl,a⟩

theorem bN{w w':World}{B:Nat}{row:Option Nat}(h:w.grownBy w' row)(a:∀k,row=some k->B<=k)(hB:B<=w.heap.size):Below B w w':=
 ⟨h.os,h.tape,h.output,h.size,fun k b=>h.block k om fun e=>by have:=a k e.symm;omega⟩

theorem rX{w w':World}{B e size n:Nat}{v:Value}{xs:List Value}{tys:List Nat}(h:w.grownBy w' v.ownBlock)(a:w.ownsRow B e size v n xs)(i:e∉tys):
  ∀(k ty:Nat)(cs:Array Value),ty∈tys->w.heap[k]? =some (.cells cs ty (0,0))->w'.heap[k]? =w.heap[k]? :=by
 intro k ty cs b c;refine h.block k (ax.1 c).1 fun d=> ?_
 rcases a.2 with⟨rfl,_⟩|⟨g,cap,cur,rfl,_,hg,_⟩
 ·simp[Value.ownBlock]at d
 ·simp[Value.ownBlock]at d;subst d;rw[hg]at c;cases c;exact i b

theorem rY{P:Program}{t ty e size bytes:Nat}(el:El P t e size bytes){B0 B:Nat}(l:B0<=B){tys:List Nat}{w:World}{v:Value}{n:Nat}{xs:List Value}(b:w.ownsRow B e size v n xs)
  {a:Addr} {m c:Nat} {news:List Value} (hl:news.length=m*size) (o:∀j u,news[j]? =some u->w.cell? (a.add j)=some u) (h1:∀u∈news,bo u=true)
  (hB:B<=w.heap.size) (nC:(n+m)*(bytes+1)<=140737488355328) (q:e∉tys) {K:Option Addr->Nat->Nat->World->Prop}
  (h:∀A c g,g.ownsRow B e size (.slice A (n+m) c) (n+m) (xs++news)->w.grownBy g v.ownBlock->Below B0 w g->K A (n+m) c g):
  ae P (Builtin.append_ #[t,t] ty #[v,.slice (some a) m c]) B0 tys w fun r g=>∃A n c,r= .slice A n c/\K A n c g:=by
 obtain⟨i,z,x,y,C,D,E⟩:=el.info;have hle:n+m<=(n+m)*(bytes+1):=vi _ om;have hb:(n+m)*bytes<=(n+m)*(bytes+1):=hO _ om;obtain⟨H,w',F,ho,hg,_⟩:=run_append_own (P:=P) w B t ty e i z size bytes el.Ht x y C D E el.pos v n xs b a m c news hl o (fun u hu=>lA (h1 u hu)) (by simp only[maxLen];omega) om hB;have d:Below B0 w w':=bN hg (fun k G=>dT l (b.lt k G).1) (dT l hB);obtain⟨A,c',rfl,_⟩:=ownsRow_form ho;exact⟨_,w',F,d,d.size,rX hg b q,A,_,c',rfl,h A c' w' ho hg d⟩

theorem vN{P:Program}{t ty e size bytes:Nat}(el:El P t e size bytes){B0 B:Nat}(o:B0<=B){tys:List Nat}{w:World}{v:Value}{n:Nat}{xs:List Value}(d:w.ownsRow B e size v n xs)
  {x:Value} (hx:x.cells.size=size) (h1:∀u∈x.cells.toList,bo u=true)
  (hB:B<=w.heap.size) (nC:(n+1)*(bytes+1)<=140737488355328) (y:e∉tys) {K:Option Addr->Nat->Nat->World->Prop}
  (h:∀A c b,b.ownsRow B e size (.slice A (n+1) c) (n+1) (xs++x.cells.toList)->w.grownBy b v.ownBlock->Below B0 w b->K A (n+1) c b):
  ae P (Instr.buildSlice t 1 #[(0,x)]) B0 tys w fun r w1=>∃A m c,r= .slice A m c/\
   ae P (Builtin.append_ #[t,t] ty #[v,.slice A m c]) B0 tys w1 fun r b=>∃A n c,r= .slice A n c/\K A n c b:=by
 have q:=oP el [x] (by simpa using hx) sm w;simp only[wM,Pb,List.zipIdx_nil,yq,LR,tJ,LQ,u1]at q;have hg:=World.grownBy_alloc w (.cells x.cells.toList.toArray e) none;have a:Below B0 w (w.alloc (.cells x.cells.toList.toArray e)):=bN hg sm (dT o hB);refine⟨_,_,q,a,a.size,fun k ty cs _ i=>hg.block k (ax.1 i).1 sm,_,_,_,rfl,?_⟩;refine rY el o (d.kept hg (by cases v.ownBlock<;>simp)) (news:=x.cells.toList) (by simpa using hx) ?_ h1 (by have:=hg.size;omega) nC y ?_
 ·intro j u hu;rw[jw,jx];simp only[World.cell?];rw[heap_alloc_new];simpa using hu
 ·intro A c b z g C;refine h A c b z ⟨g.os.trans hg.os,g.tape.trans hg.tape,g.output.trans hg.output,dT hg.size g.size,fun k i l=> ?_⟩ (a.trans C);rw[g.block k (by have:=hg.size;omega) l];exact hg.block k i sm

theorem Hv{P:Program}{t e size bytes:Nat}(el:El P t e size bytes){B:Nat}{tys:List Nat}{w:World}{d g:IntKind}{c:Int}(j:0<=c)(l:c.toNat*(bytes+1)<=140737488355328)(hB:B<=w.heap.size){K:Option Addr->Nat->Nat->World->Prop}
  (h:∀A c b,b.ownsRow B e size (.slice A 0 c) 0 []->w.grownBy b none->Below B w b->K A 0 c b):
  ae P (Instr.makeSlice t (.int d 0) (.int g c)) B tys w fun r b=>∃A n c,r= .slice A n c/\K A n c b:=by
 obtain⟨i,z,m,o,q,x,D⟩:=el.info;obtain⟨c,rfl⟩:=MZ j;have E:c*(bytes+1)<=140737488355328:=by simpa only[cc]using l
 have hle:c<=c*(bytes+1):=vi _ om;have hb:c*bytes<=c*(bytes+1):=hO _ om;obtain⟨w',y,ho,hg⟩:=run_make_own (P:=P) w B t e i z size el.Ht m o q d g c (by rw[x,Cb];omega) (by simp only[maxLen];omega) hB;have a:Below B w w':=bN hg sm hB;exact⟨_,w',y,a,a.size,fun k ty cs _ C=>hg.block k (ax.1 C).1 sm,_,_,_,rfl,h _ _ w' ho hg a⟩

theorem rZ{P:Program}{t e bytes:Nat}(el:El P t e 1 bytes){B:Nat}{tys:List Nat}{w:World}{x y:IntKind}{c:Int}{z:Value}(hz:(P.info? e).bind (·.zero)=some z)(g:bo z=true)(E:0<=c)(F:c.toNat*(bytes+1)<=140737488355328)(hB:B<=w.heap.size)
  {K:Option Addr->Nat->Nat->World->Prop}
  (h:∀A (n:Nat) d,(n:Int)=c->d.ownsRow w.heap.size e 1 (.slice A n n) n (List.replicate n z)->w.grownBy d none->Below B w d->K A n n d):
  ae P (Instr.makeSlice t (.int x c) (.int y c)) B tys w fun r d=>∃A n c,r= .slice A n c/\K A n c d:=by
 obtain⟨i,b,C,D,G,H,J⟩:=el.info;obtain⟨c,rfl⟩:=MZ E;have l:b=z:=by rw[C]at hz;simp[D]at hz;exact hz
 subst l;have L:c*(bytes+1)<=140737488355328:=by simpa only[cc]using F
 have hle:c<=c*(bytes+1):=vi _ om;have hb:c*bytes<=c*(bytes+1):=hO _ om;have m:(i.bytes:Int)*(c:Int)<=281474976710656:=by
  have h:((i.bytes*c:Nat):Int)<=281474976710656:=by
   have:i.bytes*c<=281474976710656:=by rw[H,Cb];omega
   omega
  rwa [Uc]at h
 have o:=run_make (P:=P) w t e i b el.Ht C D x y c c om (SI _) m om;simp only[cc,G,Cy]at o;have q:b.cells= #[b]:=by cases b<;>first|rfl|simp[bo]at g
 have hm:madeCells b.cells c=(List.replicate c b).toArray:=by
  apply MY;rw[q];apply zy;intro j;simp only[madeCells,Array.toList_map,Array.toList_range,hM,M0];by_cases hj:j<c
  ·simp[hj,Nat.mod_one]
  ·simp[hj]
 rw[hm]at o;have hg:=World.grownBy_alloc w (.cells (List.replicate c b).toArray e) none;have a:Below B w (w.alloc (.cells (List.replicate c b).toArray e)):=bN hg sm hB;refine⟨_,_,o,a,a.size,fun k ty cs _ I=>hg.block k (ax.1 I).1 sm,_,_,_,rfl,h _ _ _ rfl ?_ hg a⟩;exact⟨sm,.inr ⟨w.heap.size,c,_,rfl,fs _,heap_alloc_new w _,fs _,by simp only[maxLen];omega,sm,sm⟩⟩

theorem vO{w:World}{B e size n c:Nat}{A:Addr}{xs:List Value}(h:w.ownsRow B e size (.slice (some A) n c) n xs){off:Nat}{vs:List Value}(hle:off+vs.length<=xs.length):
  ∃cs:List Value,B<=A.block/\A.spot=none/\A.off=0/\w.heap[A.block]? =some (.cells cs.toArray e (0,0))/\off+vs.length<=cs.length/\
   ∀w1,aC w w1 A.block e (setCells cs off vs)->w1.ownsRow B e size (.slice (some A) n c) n (setCells xs off vs):=by
 rcases h.2 with⟨h1,_⟩|⟨g,cap,cur,h1,hb,hg,i,hm,hs,b⟩
 ·cases h1
 ·cases h1;have d:∀(vs:List Value)(l:List Value)(off:Nat),(setCells l off vs).length=l.length:=by
   intro vs;induction vs with
   |nil=>intro l off;rfl
   |cons v r ih=>intro l off;rw[setCells,ih];simp
  have a:∀(vs:List Value)(l:List Value)(off k:Nat),(setCells l off vs).take k=setCells (l.take k) off vs:=by
   intro vs;induction vs with
   |nil=>intro l off k;rfl
   |cons v r ih=>intro l off k;rw[setCells,ih,setCells,List.take_set]
  refine⟨cur.toList,hb,rfl,rfl,by simpa using hg,?_,fun w1 hw=>⟨by rw[d];exact h.1,.inr ⟨g,c,(setCells cur.toList off vs).toArray,rfl,hb,by simpa using hw.at_,i,hm,by simp[d,hs],?_⟩⟩⟩
  ·have:xs.length<=cur.toList.length:=by rw[<-b];simp;omega
   omega
  ·rw[<-b];simp[a]

def ach(P:Program)(t e:TypeId)(size bytes:Nat):Bool:=match P.underlying t,P.info? e with
 |some (.slice a),some i=>match i.zero with
  |some z=>Nat.beq a e&&Nat.beq i.size size&&Nat.beq i.bytes bytes&&Nat.beq z.cells.size size&&Nat.blt 0 size&&Nat.ble size 1024
  |none=>false
 |_,_=>false
theorem El.of{P:Program}{t e size bytes:Nat}(h:ach P t e size bytes=true):El P t e size bytes:=by
 unfold ach at h;split at h
 ·rename_i k i h1 a;split at h
  ·rename_i z hz;simp only[cz,Nat.beq_eq,Nat.ble_eq,Tz]at h;obtain⟨⟨⟨⟨⟨rfl,b⟩,c⟩,d⟩,g⟩,j⟩:=h;exact⟨h1,⟨i,z,a,hz,b,c,d⟩,g,j⟩
  ·cases h
 ·cases h
theorem qk:El Tryz.prog 325 227 1 4:=El.of kF

@[irreducible] def sb : Nat := 100000
theorem Hw:sb=100000:=by unfold sb;rfl
@[irreducible] def fy : Nat := 1000000000 ^ sb

theorem iF.len{w:World}{A:Option Addr}{n c x:Nat}(h:iF w A n c x)(hx:x<fy):n<=100000:=by
 obtain⟨ws,_,hl,_,_,_,hn,rfl⟩:=h;unfold fy at hx;by_cases b:ws=[]
 ·subst b;simp at hl;omega
 ·have h1:=nX hn b;have d:=(MH (a:=1000000000) om).1 (oj h1 hx);have:=Hw;omega

def nY(ws:List Nat):List Value:=ws.map fun(x:Nat)=> .int .u32 (x:Int)
def eS(w:World)(B:Nat)(A:Option Addr)(n c:Nat)(ws:List Nat):Prop:=w.ownsRow B 227 1 (.slice A n c) n (nY ws)
theorem eS.len{w:World}{B:Nat}{A:Option Addr}{n c:Nat}{ws:List Nat}(h:eS w B A n c ws):ws.length=n:=by have:=h.1;simpa[nY]using this
theorem eS.sl{w:World}{B:Nat}{A:Option Addr}{n c:Nat}{ws:List Nat}(h:eS w B A n c ws):nk w A ws:=by
 have hl:=h.len;rcases h.2 with⟨h1,b⟩|⟨g,cap,cur,h1,hb,hg,d,hm,hs,a⟩
 ·exact .inl (ew om)
 ·cases h1;refine .inr ⟨g,0,cur,_,rfl,hg,fun i hi=> ?_⟩;have:(nY ws)[i]? =some (.int .u32 (ws[i]:Nat)):=by simp[nY,hi]
  rw[<-a,jv]at this;split at this
  ·simpa using this
  ·cases this
theorem eS.cap{w:World}{B:Nat}{A:Option Addr}{n c:Nat}{ws:List Nat}(h:eS w B A n c ws):n<=c:=by
 obtain⟨_,_,h1,a⟩:=ownsRow_form h;cases h1;exact a

theorem Hy(a b:List Nat):nY (a++b)=nY a++nY b:=by simp[nY]

theorem xw{t ty:Nat}(el:El Tryz.prog t 227 1 4){B0 B:Nat}(a:B0<=B){tys:List Nat}{w:World}{A:Option Addr}{n c:Nat}{ws:List Nat}(ho:eS w B A n c ws)(hn:n<=1000000)(hB:B<=w.heap.size)(b:227∉tys)
  {x:Int} (hx:0<=x) {K:Option Addr->Nat->Nat->World->Prop}
  (h:∀A' c' w',eS w' B A' (n+1) c' (ws++[x.toNat])->w.grownBy w' (Value.ownBlock (.slice A n c))->Below B0 w w'->K A' (n+1) c' w'):
  ae Tryz.prog (Instr.buildSlice t 1 #[(0,.int .u32 x)]) B0 tys w fun r w1=>∃A2 m2 c2,r= .slice A2 m2 c2/\
   ae Tryz.prog (Builtin.append_ #[t,t] ty #[.slice A n c,.slice A2 m2 c2]) B0 tys w1 fun r d=>∃A n c,r= .slice A n c/\K A n c d:=
 vN el a ho rfl (by intro u hu;simp[Value.cells]at hu;subst hu;rfl) hB om b fun A' c' w' h1 g i=>h A' c' w' (by
  unfold eS;rw[Hy];have e:(x.toNat:Int)=x:=om;simp only[nY,yq,LR,e];exact h1) g i

theorem fq(l:List Nat)(i:Nat):wv (l.take (i+1))=wv (l.take i)+1000000000^i*l.getD i 0:=by
 by_cases h:i<l.length
 ·rw[eU,gw,eH,lO om];simp[h,wv]
 ·rw[cd om,cd om];simp[cb,hJ (by omega:l.length<=i)]

theorem TE(s:Int):(0<=s->Int.tmod s 1000000000=s % 1000000000/\Int.tdiv s 1000000000=s / 1000000000)/\
  (s<0->Int.tmod s 1000000000= - ((-s) % 1000000000)/\Int.tdiv s 1000000000= - ((-s) / 1000000000)):=by
 refine⟨fun h=>⟨JX h,JN h⟩,fun h=> ?_⟩;have e:s= - (-s):=om;constructor
 ·conv=>lhs;rw[e]
  rw[Int.neg_tmod,JX om]
 ·conv=>lhs;rw[e]
  rw[Int.neg_tdiv,JN om]
theorem wrap64{n:Int}(h:aS .i64 n):IntKind.wrap .i64 n=n:=by
 rw[IntKind.wrap_i64];simp only[aS]at h;omega

section
variable {B:Nat} {A0 A1:Option Addr} {n0 c0 n1 c1:Nat} {sg:Int} {R:Value->World->Prop} {mx:Int}

theorem M3{w:World}{A:Option Addr}{n c:Nat}{ws:List Nat}{s i:Int}(ho:eS w B A n c ws)(hn:n<=1000000)(hB:B<=w.heap.size)(hs: -1000000000<=s/\s<=1999999999)(hi:0<=i/\i<=1000000)
  (h:∀A' c' w',eS w' B A' (n+1) c' (ws++[(s % 1000000000).toNat])->Below B w w'->F.ai.L4 A0 n0 c0 A1 n1 c1 sg A' (n+1) c' (s / 1000000000) mx (i+1) B w' R):
  F.ai.qd A0 n0 c0 A1 n1 c1 sg A n c s mx i B w R:=by
 obtain⟨t1,t2⟩:=TE s;have w1:IntKind.wrap .i64 (Int.tdiv s 1000000000)=Int.tdiv s 1000000000:=wrap64 ir;refine F.ai.qd.step ⟨om,om,fun e=>⟨ir,by rw[w1];simp only[aS];omega,ir,?_⟩,fun e=>⟨ir,?_⟩⟩
 ·refine xw qk lf ho hn hB sm om fun A' c' w' h1 _ a=>⟨ir,?_⟩
  rw[w1];have b:Int.tmod s 1000000000+1000000000=s % 1000000000:=om;have d:Int.tdiv s 1000000000 - 1=s / 1000000000:=om;rw[b]at h1;rw[d];exact h A' c' w' h1 a
 ·refine xw qk lf ho hn hB sm om fun A' c' w' h1 _ a=>⟨ir,?_⟩
  rw[w1];have b:Int.tmod s 1000000000=s % 1000000000:=om;have d:Int.tdiv s 1000000000=s / 1000000000:=om;rw[b]at h1;rw[d];exact h A' c' w' h1 a

theorem nk.getD{w:World}{A:Option Addr}{ws:List Nat}(h:nk w A ws)(hs:Small ws){j:Int}(b:0<=j)(h1:j<ws.length):
  ∃a,A=some a/\∃x:Nat,ws.getD j.toNat 0=x/\x<1000000000/\aa w (a.add (j.toNat*1)) [.int .u32 (x:Int)]:=by
 obtain⟨a,c,x,hx,d⟩:=h.cell b h1;exact⟨a,c,x,by rw[cb,hx];rfl,hs x (gb hx),d⟩

theorem Small.getD{l:List Nat}(h:Small l)(i:Nat):l.getD i 0<1000000000:=by
 rw[cb];cases e:l[i]? with
 |none=>simp
 |some x=>exact h x (gb e)

theorem Kb{w0:World}{a b:List Nat}(ha:nk w0 A0 a)(E:a.length=n0)(y:Small a)(hb:nk w0 A1 b)(Q:b.length=n1)(z:Small b)
  (g:sg=1∨sg= -1) (C:0<=(wv a:Int)+sg*wv b) (G:mx=(max n0 n1:Nat)) (S:n0<=500000) (h1:n1<=500000)
  (D:∀A n c w' ws,eS w' w0.heap.size A n c ws->Small ws->(wv ws:Int)=wv a+sg*wv b->n<=mx+1/\(n<=mx∨Norm ws)->Below w0.heap.size w0 w'->R (.slice A n c) w'):
  ∀(d:Nat)(n:Nat)(A:Option Addr)(c:Nat)(w:World)(ws:List Nat)(s:Int),mx - n=d->n<=mx->eS w w0.heap.size A n c ws->Small ws->Below w0.heap.size w0 w-> -1<=s/\s<=1->
   (wv ws:Int)+(1000000000^n:Nat)*s=wv (a.take n)+sg*wv (b.take n)->
   F.ai.L4 A0 n0 c0 A1 n1 c1 sg A n c s mx n w0.heap.size w R:=by
 intro d;induction d with
 |zero=>
  intro n A c w ws s H hn ho hs hw l inv;have hlen:=ho.len;have ea:a.take n=a:=cd om;have I:b.take n=b:=cd om;rw[ea,I]at inv;have m:=pn hs;rw[hlen]at m;refine F.ai.L4.step ⟨fun h=>by omega,fun h=>⟨fun J=>⟨ir,?_⟩,fun J=> ?_⟩⟩
  ·have K:s=1:=om;subst K;refine xw qk lf ho om hw.size sm om fun A' c' w' o _ q=>D A' _ c' w' _ o (hs.append (Small.cons dc Small.nil)) ?_ ⟨om,.inr (by simp[Norm])⟩ (hw.trans q)
   rw[gw,hlen,<-inv];simp[wv]
  ·refine D A n c w ws ho hs ?_ ⟨om,.inl om⟩ hw;have:s=0:=by
    rcases(by omega:s=0∨s= -1)with h|h
    ·exact h
    ·subst h;omega
   subst this;simpa using inv
 |succ d ih=>
  intro n A c w ws s H hn ho hs hw l inv;have hlen:=ho.len;have L:=y.getD n;have M:=z.getD n;have i:F.ai.qd A0 n0 c0 A1 n1 c1 sg A n c (s+(a.getD n 0:Nat)+sg*(b.getD n 0:Nat)) mx n w0.heap.size w R:=by
   refine M3 ho om hw.size (by rcases g with h|h<;>subst h<;>omega) om fun A' c' w' o q=> ?_
   have e:((n:Int)+1)=((n+1:Nat):Int):=om;rw[e];refine ih (n+1) A' c' w' _ _ om om o (hs.append (Small.cons om Small.nil)) (hw.trans q) (by rcases g with h|h<;>subst h<;>omega) ?_;rw[gw,fq,fq,hlen];simp only[wv,TA,tT,Int.natCast_add,Uc,kc];obtain⟨t,N⟩:∃t,t=s+(a.getD n 0:Nat)+sg*(b.getD n 0:Nat):=⟨_,rfl⟩
   rw[<-N];have hx:((t % 1000000000).toNat:Int)=t - 1000000000*(t / 1000000000):=om;rw[hx];generalize ((1000000000^n:Nat):Int)=P at inv⊢;grind
  refine F.ai.L4.step ⟨fun h=> ?_,fun h=>by omega⟩;have k:F.ai.J8 A0 n0 c0 A1 n1 c1 sg A n c (s+(a.getD n 0:Nat)) n mx n w0.heap.size w R:=by
   refine F.ai.J8.step ⟨fun h=> ?_,fun h=> ?_⟩
   ·obtain⟨p,hp,x,hx,O,r⟩:=(hb.below hw).getD z (j:=(n:Int)) om om;rw[cc]at hx;rw[hx]at i M;exact⟨om,p,hp,_,r,ir,by simp only[aS];rcases g with h|h<;>subst h<;>omega,by simp only[aS];rcases g with h|h<;>subst h<;>omega,i⟩
   ·have e:b.getD n 0=0:=by rw[cb,hJ om];rfl
    rw[e]at i;simpa using i
  refine⟨fun h=> ?_,fun h=> ?_⟩
  ·obtain⟨p,hp,x,hx,O,r⟩:=(ha.below hw).getD y (j:=(n:Int)) om om;rw[cc]at hx;rw[hx]at k L;exact⟨om,p,hp,_,r,ir,ir,k⟩
  ·have e:a.getD n 0=0:=by rw[cb,hJ om];rfl
   rw[e]at k;simpa using k
end

theorem eS.norm{w:World}{B:Nat}{A:Option Addr}{n c:Nat}{ws:List Nat}(h:eS w B A n c ws)(hs:Small ws)(hn:Norm ws)(hl:n<2147483648):iF w A n c (wv ws):=⟨ws,h.sl,h.len,h.cap,hl,hs,hn,rfl⟩

theorem Kc{l:List Nat}(hs:Small l)(h:l=[]∨1000000000^(l.length - 1)<=wv l):Norm l:=by
 rcases h with h|h
 ·subst h;simp[Norm]
 ·intro k;have hn:l≠[]:=fun e=>by subst e;simp at k
  rw[IE hn]at k;have e:l=l.dropLast++[l.getLast hn]:=(yd hn).symm;have a:l.getLast hn=0:=by simpa using k
  rw[e,gw,a]at h;simp only[wv,TA,tT]at h;have b:=pn (l:=l.dropLast) fun x hx=>hs x (List.dropLast_subset _ hx)
  simp at h b;omega

theorem vQ{w:World}{A0 A1:Option Addr}{n0 c0 n1 c1:Nat}{a b:List Nat}{sg:Int}(ha:nk w A0 a)(e:a.length=n0)(i:Small a)(hb:nk w A1 b)(j:b.length=n1)(k:Small b)
  (g:sg=1∨sg= -1) (d:0<=(wv a:Int)+sg*wv b) (l:n0<=500000) (h1:n1<=500000):
  Pure Tryz.prog 332 #[.slice A0 n0 c0,.slice A1 n1 c1,.int .i64 sg] w fun v w'=>∃A n c ws,v= .slice A n c/\eS w' w.heap.size A n c ws/\Small ws/\(wv ws:Int)=wv a+sg*wv b/\n<=max n0 n1+1/\(n<=max n0 n1∨Norm ws):=by
 refine F.ai.vc ⟨ir,?_⟩;refine Hv qk om om lf fun A c m o _ q=> ?_
 have em:(if(n1:Int)>(n0:Int)then(n1:Int)else(n0:Int))=((max n0 n1:Nat):Int):=by split<;>omega
 rw[em];refine Kb (mx:=((max n0 n1:Nat):Int)) ha e i hb j k g d rfl l h1 (fun A n c w' ws r x y z C=>⟨A,n,c,ws,rfl,r,x,y,om,z.2.imp (fun h=>by omega) id⟩) (max n0 n1) 0 A c m [] 0 om om o Small.nil q om (by simp[wv])

theorem Fm{w:World}{A0 A1:Option Addr}{n0 c0 n1 c1 x y:Nat}(ha:iF w A0 n0 c0 x)(hb:iF w A1 n1 c1 y)(hx:x<fy)(hy:y<fy):
  Pure Tryz.prog 316 #[.slice A0 n0 c0,.slice A1 n1 c1] w fun v w'=>∃A n c,v= .slice A n c/\iF w' A n c (x+y):=by
 have o:=ha.len hx;have l1:=hb.len hy;obtain⟨a,h,a2,a3,a4,a5,i,rfl⟩:=ha;obtain⟨b,j,g,q,r,l,m,rfl⟩:=hb;refine F.mE.vc (pm (vQ h a2 a5 j g l (.inl rfl) om om om) ?_);rintro v w' hb ⟨A,n,c,ws,rfl,ho,hs,z,hn,d⟩;refine⟨A,n,c,rfl,A,n,c,rfl,?_⟩;have e:wv ws=wv a+wv b:=om;rw[<-e];refine ho.norm hs (d.elim (fun C=>Kc hs ?_) id) om;by_cases hw:ws=[]
 ·exact .inl hw
 ·right
  have hl:=ho.len;have hp:0<ws.length:=ve.2 hw;rw[e];by_cases D:n1<=n0
  ·have h1:=nX i (fun k=>by subst k;simp at a2;omega);exact dT (ft om om) (dT h1 om)
  ·have h1:=nX m (fun k=>by subst k;simp at g;omega);exact dT (ft om om) (dT h1 om)

theorem Dc{w:World}{A0 A1:Option Addr}{n0 c0 n1 c1 x y:Nat}(ha:iF w A0 n0 c0 x)(hb:iF w A1 n1 c1 y)(hx:x<fy)(hy:y<=x):
  Pure Tryz.prog 317 #[.slice A0 n0 c0,.slice A1 n1 c1] w fun v w'=>∃A n c,v= .slice A n c/\iF w' A n c (x - y):=by
 have o:=ha.len hx;have l1:=hb.len (oj hy hx);obtain⟨a,d,a2,a3,a4,a5,q,rfl⟩:=ha;obtain⟨b,g,i,r,z,j,C,rfl⟩:=hb;refine F.lS.vc (pm (vQ d a2 a5 g i j (.inr rfl) om om om) ?_);rintro v w' hb ⟨A,n,c,ws,rfl,ho,hs,D,hn,k⟩;refine⟨A,n,c,rfl,pm (lT ho.sl ho.len ho.cap om hs) ?_⟩;rintro v E l ⟨rfl,m,rfl,h,_⟩;have e:wv a - wv b=wv ws:=om;rw[e];exact⟨A,m,c,rfl,A,m,c,rfl,h⟩
open Go Go.RowKit Go.Shelf Go.Proofs Go.Proofs.YtbcojgcjjpggnaaGreatDoor.Vc
attribute [local go_sem] Oper.semAt_some

def CK(b:Nat)(W W':World):Prop:=∀(k:Nat)(cs:Array Value)(ty:Nat)(fz:Nat×Nat),W.heap[k]? =some (.cells cs ty fz)->k≠b->ty≠5->W'.heap[k]? =some (.cells cs ty fz)
theorem CK.refl(b:Nat)(W:World):CK b W W:=fun _ _ _ _ h _ _=>h
theorem CK.trans{b:Nat}{W1 W2 W3:World}(h:CK b W1 W2)(k:CK b W2 W3):CK b W1 W3:=fun i cs ty fz h0 h1 h2=>k i cs ty fz (h i cs ty fz h0 h1 h2) h1 h2
theorem CK.putObj{b:Nat}(W:World)(l:Nat)(o o':Obj)(h:W.heap[l]? =some o)(hc:o.isCells=false):CK b W (W.putObj l o'):=by
 intro k cs ty fz h0 _ _;rw[World.putObj_heap_other]
 ·exact h0
 ·intro e;subst e;rw[h]at h0;cases h0;simp[Obj.isCells]at hc

abbrev PW:=Nat×{x:Nat // x<1000000000}
abbrev PS(p:PW):Array Value:= #[.int .i64 (p.1:Int),.int .u32 (p.2.1:Int)]
def Wx(ws:List Nat)(hs:Small ws)(j:Nat):PW:=(j,⟨ws.getD j 0,hs.getD j⟩)
def ri(ws:List Nat)(hs:Small ws)(m:Nat):List PW:=(List.range (ws.length - m)).map fun t=>Wx ws hs (ws.length - 1 - t)
theorem wN(ws:List Nat)(hs:Small ws){j:Nat}(h:j<ws.length):ri ws hs j=ri ws hs (j+1)++[Wx ws hs j]:=by
 unfold ri;rw[show ws.length - j=(ws.length - (j+1))+1 by omega,AG,eL];simp
 congr 1
 omega
theorem DI(ws:List Nat)(hs:Small ws):ri ws hs ws.length=[]:=by simp[ri]
theorem Fo(ws:List Nat)(hs:Small ws)(m:Nat):(ri ws hs m).length=ws.length - m:=by simp[ri]

set_option maxRecDepth 100000 in
set_option maxHeartbeats 2000000 in
theorem TG(F:Fence)(n:Nat)(h9:F.fn 320)(hro:F.round=none)(hn:1<=n)(l Bs b wb off cap:Nat)(hBs:Bs≠b)(hwb:wb≠b)(ws:List Nat)(hs:Small ws)(hlen:ws.length<=1000000)(J Jx:List PW->World->Prop)
  (hY:∀pre x W,J pre W->pre.length<ws.length->YieldAt F (n - 1) Tryz.prog l (PS x) W fun e W'=>
   (e= .returned (.bool true)/\J (pre++[x]) W'/\CK b W W')∨(e= .returned (.bool false)/\Jx (pre++[x]) W'))
  (W:World) (A:Option Addr) (hA:A=some ⟨wb,off,none⟩) (hBc:W.heap[Bs]? =some (.cells #[.slice A ws.length cap] 325 (0,0))) (all:Array Value) (fr:Nat×Nat) (hw:W.heap[wb]? =some (.cells all 227 fr))
  (hc:∀j,j<ws.length->all[off+j]? =some (.int .u32 (ws.getD j 0:Nat))) (h0:J [] W):
  CallsIn F n Tryz.prog 320 #[.func (.yield l) #[] #[],.pointer (some ⟨Bs,0,none⟩)] W fun e W'=>(∃v,e= .returned v)/\
   ((∃ys,ys=ri ws hs 0/\J ys W')∨(∃pre,True/\Jx pre W')):=by
 refine callsIn_of_wp Tryz.func320 rfl h9 ?_ hro;simp only[Tryz.ntmps320,zI,eR,vu,Nat.reduceAdd,Nat.reduceSub,Pl,Pw,SJ,QM,rT,wo];subst hA;have cellBs:∀wr,CK b W wr->wr.cell? ⟨Bs,0,none⟩=some (.slice (some ⟨wb,off,none⟩) ws.length cap):=fun wr hk=>by
  have:=hk _ _ _ _ hBc hBs dc;simp[World.cell?,this]
 have hcx0:=cellBs W (CK.refl _ _)
 gi_wp2
 gi_loopw [3] (fun i wr=>∃m:Nat,m<=ws.length/\i= .int .i64 ((m:Int) - 1)/\J (ri ws hs m) wr/\CK b W wr)
  (fun i _=>(intOf i+1).toNat)
 case atStart=>exact⟨ws.length,fs _,rfl,by rw[DI];exact h0,CK.refl _ _⟩
 case round=>
  obtain⟨m,hm,rfl,hJs,hnx⟩:=hrel;have hcx:=cellBs wr hnx;cases m with
  |zero=>
   gi_wp2
   go_end0
   exact⟨⟨_,rfl⟩,.inl ⟨_,rfl,hJs⟩⟩
  |succ j=>
   have e1:((j+1:Nat):Int) - 1=(j:Int):=om;have hcw:wr.cell? ⟨wb,off+j,none⟩=some (.int .u32 (ws.getD j 0:Nat)):=by
    have:=hnx _ _ _ _ hw hwb dc;simp only[World.cell?,this];exact hc j om
   obtain⟨fn,tmps,assign,body,hy,hR⟩:=hY _ (Wx ws hs j) wr hJs (by rw[Fo];omega);dsimp only[Wx,PS]at hy;simp only[cb]at hy;rw[e1]
   gi_wp2
   refine hR.mono ?_;rintro e W3 (⟨rfl,hJ3,hk3⟩|⟨rfl,hJx3⟩)
   ·gi_wp2
    go_roundw
    case rel=>exact⟨j,om,rfl,by rw[wN ws hs om];exact hJ3,hnx.trans hk3⟩
    case measure=>simp[intOf]
   ·gi_wp2
    refine bodyPost_ret (results_none rfl _ _ _) rfl ?_;exact⟨⟨_,rfl⟩,.inr ⟨_,trivial,hJx3⟩⟩
end Go.Proofs.YtbcojgcjjpggnaaGreatDoor.B

open Go.Proofs.YtbcojgcjjpggnaaGreatDoor
namespace Go.Proofs
open Go.Shelf
def Tryz.zf:Go.Shelf.Ren:=⟨fun|169=>52|n=>n,fun|70=>114|9=>9|0=>0|72=>117|37=>115|127=>188|3=>3|5=>5|n=>n,fun|n=>n⟩
theorem Tryz.TH:Go.Proofs.Lays.n169 Tryz.prog Tryz.zf:={
 mixed:=kF
 f169:=Tryz.func52.trans (ca some kF)
 t0:=Tryz.underlying0
 a0:=Tryz.isAgg0
 z0:=Tryz.sizeOf0
 v0:=Tryz.zeroValue0
 t3:=Tryz.underlying3
 a3:=Tryz.isAgg3
 z3:=Tryz.sizeOf3
 v3:=Tryz.zeroValue3
 t9:=Tryz.underlying9
 a9:=Tryz.isAgg9
 z9:=Tryz.sizeOf9
 v9:=Tryz.zeroValue9
 t37:=Tryz.underlying115
 a37:=Tryz.isAgg115
 z37:=Tryz.sizeOf115
 v37:=Tryz.zeroValue115
 t70:=Tryz.underlying114
 a70:=Tryz.isAgg114
 z70:=Tryz.sizeOf114
 v70:=Tryz.zeroValue114
 t72:=Tryz.underlying117
 a72:=Tryz.isAgg117
 z72:=Tryz.sizeOf117
 v72:=Tryz.zeroValue117
 t127:=Tryz.underlying188
 a127:=Tryz.isAgg188
 z127:=Tryz.sizeOf188
 v127:=Tryz.zeroValue188}
theorem Tryz.xx:Builder.Extra Tryz.prog Tryz.zf:={
 sizeBuilder:=kF
 liesBuilder:=kF
 t5:=Tryz.underlying5
 a5:=Tryz.isAgg5
 z5:=Tryz.sizeOf5
 v5:=Tryz.zeroValue5
 infoByte:=kF
 cellsByte:=kF
 sizeByte:=kF
 neB5:=by decide}
def Tryz.Hz:Go.Shelf.Ren:=⟨fun|103=>264|210=>288|206=>302|n=>n,fun|9=>9|4=>4|24=>320|3=>3|n=>n,fun|n=>n⟩
theorem Tryz.TI:Go.Proofs.Lays.n103 Tryz.prog Tryz.Hz:={
 mixed:=kF
 f103:=Tryz.func264.trans (ca some kF)
 f206:=Tryz.func302.trans (ca some kF)
 f210:=Tryz.func288.trans (ca some kF)
 t3:=Tryz.underlying3
 a3:=Tryz.isAgg3
 z3:=Tryz.sizeOf3
 v3:=Tryz.zeroValue3
 t4:=Tryz.underlying4
 a4:=Tryz.isAgg4
 z4:=Tryz.sizeOf4
 v4:=Tryz.zeroValue4
 t9:=Tryz.underlying9
 a9:=Tryz.isAgg9
 z9:=Tryz.sizeOf9
 v9:=Tryz.zeroValue9
 t24:=Tryz.underlying320
 a24:=Tryz.isAgg320
 z24:=Tryz.sizeOf320
 v24:=Tryz.zeroValue320}
open Go.RowKit in
theorem Tryz.strings_CutPrefix(s p:ByteArray)(w:World):
  Calls Tryz.prog 264 #[.string s,.string p] w fun e w'=>e= .returned (.tuple #[.string ⟨(Lib.trimPrefix s.data.toList p.data.toList).toArray⟩,.bool (Lib.hasPrefix s.data.toList p.data.toList)])/\w'=w:=Any.strings_CutPrefix Tryz.TI s p w
def Tryz.HA:Go.Shelf.Ren:=⟨fun|215=>162|n=>n,fun|3=>3|4=>4|n=>n,fun|n=>n⟩
theorem Tryz.TJ:Go.Proofs.Lays.n215 Tryz.prog Tryz.HA:={
 mixed:=kF
 f215:=Tryz.func162.trans (ca some kF)
 t3:=Tryz.underlying3
 a3:=Tryz.isAgg3
 z3:=Tryz.sizeOf3
 v3:=Tryz.zeroValue3
 t4:=Tryz.underlying4
 a4:=Tryz.isAgg4
 z4:=Tryz.sizeOf4
 v4:=Tryz.zeroValue4}
open Go.RowKit in
theorem Tryz.cmp_isNaN_int(x:Int)(w:World):
  Calls Tryz.prog 162 #[.int .i64 x] w fun e w'=>e= .returned (.bool false)/\w'=w:=Any.cmp_isNaN_int Tryz.TJ x w
def Tryz.HB:Go.Shelf.Ren:=⟨fun|122=>103|215=>162|n=>n,fun|3=>3|4=>4|n=>n,fun|n=>n⟩
theorem Tryz.TK:Go.Proofs.Lays.n122 Tryz.prog Tryz.HB:={
 mixed:=kF
 f122:=Tryz.func103.trans (ca some kF)
 f215:=Tryz.func162.trans (ca some kF)
 t3:=Tryz.underlying3
 a3:=Tryz.isAgg3
 z3:=Tryz.sizeOf3
 v3:=Tryz.zeroValue3
 t4:=Tryz.underlying4
 a4:=Tryz.isAgg4
 z4:=Tryz.sizeOf4
 v4:=Tryz.zeroValue4}
open Go.RowKit in
theorem Tryz.cmp_Compare_int(x y:Int)(w:World):
  Calls Tryz.prog 103 #[.int .i64 x,.int .i64 y] w fun e w'=>e= .returned (.int .i64 (Lib.compareInt x y))/\w'=w:=Any.cmp_Compare_int Tryz.TK x y w
open Go.RowKit in
theorem Tryz.Builder_String_any_k(B b:Nat)(l:List UInt8)(w:World)(h:Lib.IsBuilderF 117 5 B b (Lib.byteCells l) w)(a:B<=w.heap.size):
  Calls Tryz.prog 52 #[.pointer (some ⟨b,0,none⟩)] w fun e w'=>e= .returned (.string ⟨l.toArray⟩)/\(Lib.IsBuilderF 117 5 B b (Lib.byteCells l) w'/\Below B w w'/\Lib.OthersKept 5 (some b) w w'):=Any.Builder_String_any_k Tryz.TH Tryz.xx B b l w h a
def Tryz.HC:Go.Shelf.Ren:=⟨fun|283=>199|n=>n,fun|3=>3|9=>9|4=>4|n=>n,fun|n=>n⟩
theorem Tryz.TL:Go.Proofs.Lays.n283 Tryz.prog Tryz.HC:={
 mixed:=kF
 f283:=Tryz.func199.trans (ca some kF)
 t3:=Tryz.underlying3
 a3:=Tryz.isAgg3
 z3:=Tryz.sizeOf3
 v3:=Tryz.zeroValue3
 t4:=Tryz.underlying4
 a4:=Tryz.isAgg4
 z4:=Tryz.sizeOf4
 v4:=Tryz.zeroValue4
 t9:=Tryz.underlying9
 a9:=Tryz.isAgg9
 z9:=Tryz.sizeOf9
 v9:=Tryz.zeroValue9}
open Go.Lib in
theorem Tryz.internal_strconv_small(i:Nat)(h:i<100)(w:World):
  Calls Tryz.prog 199 #[.int .i64 i] w fun e w'=>e= .returned (.string ⟨(Lib.decDigits i).toArray⟩)/\w'=w:=Any.internal_strconv_small Tryz.TL i h w
def Tryz.Fp:Go.Shelf.Ren:=⟨fun|284=>200|129=>242|317=>241|318=>243|n=>n,fun|53=>230|3=>3|212=>303|0=>0|4=>4|46=>184|5=>5|9=>9|n=>n,fun|17=>0|n=>n⟩
theorem Tryz.PT:Go.Proofs.LaysM.n284 Tryz.prog Tryz.Fp:={
 mixed:=kF
 f129:=Tryz.func242.trans (ca some kF)
 f284:=Tryz.func200.trans (ca some kF)
 f317:=Tryz.func241.trans (ca some kF)
 f318:=Tryz.func243.trans (ca some kF)
 t0:=Tryz.underlying0
 a0:=Tryz.isAgg0
 z0:=Tryz.sizeOf0
 v0:=Tryz.zeroValue0
 t3:=Tryz.underlying3
 a3:=Tryz.isAgg3
 z3:=Tryz.sizeOf3
 v3:=Tryz.zeroValue3
 t4:=Tryz.underlying4
 a4:=Tryz.isAgg4
 z4:=Tryz.sizeOf4
 v4:=Tryz.zeroValue4
 t5:=Tryz.underlying5
 a5:=Tryz.isAgg5
 z5:=Tryz.sizeOf5
 v5:=Tryz.zeroValue5
 t9:=Tryz.underlying9
 a9:=Tryz.isAgg9
 z9:=Tryz.sizeOf9
 v9:=Tryz.zeroValue9
 t46:=Tryz.underlying184
 a46:=Tryz.isAgg184
 z46:=Tryz.sizeOf184
 v46:=Tryz.zeroValue184
 t53:=Tryz.underlying230
 a53:=Tryz.isAgg230
 z53:=Tryz.sizeOf230
 v53:=Tryz.zeroValue230
 t212:=Tryz.underlying303
 a212:=Tryz.isAgg303
 z212:=Tryz.sizeOf303
 v212:=Tryz.zeroValue303
 g17:=kF
 i0:=kF
 i3:=kF
 i4:=kF
 i5:=kF
 i9:=kF
 i46:=kF
 i53:=kF
 i212:=kF
 m17:=by kernel_rfl}
open Go.Lib in
theorem Tryz.internal_strconv_numDigits (u : Nat) (h1 : 1 ≤ u) (b : u < 18446744073709551616) (w : World) (a : Lib.TabIs Tryz.prog w "internal/strconv.uint64pow10" .u64 Lib.pow10Tab) :
  Calls Tryz.prog 200 #[.int .u64 u] w fun e w'=>e= .returned (.int .i64 (Lib.nDigits u))/\w'=w:=Any.internal_strconv_numDigits Tryz.PT u h1 b w a
def Tryz.HD:Go.Shelf.Ren:=⟨fun|285=>201|n=>n,fun|37=>115|53=>230|3=>3|4=>4|51=>227|9=>9|5=>5|0=>0|n=>n,fun|n=>n⟩
theorem Tryz.TM:Go.Proofs.Lays.n285 Tryz.prog Tryz.HD:={
 mixed:=kF
 f285:=Tryz.func201.trans (ca some kF)
 t0:=Tryz.underlying0
 a0:=Tryz.isAgg0
 z0:=Tryz.sizeOf0
 v0:=Tryz.zeroValue0
 t3:=Tryz.underlying3
 a3:=Tryz.isAgg3
 z3:=Tryz.sizeOf3
 v3:=Tryz.zeroValue3
 t4:=Tryz.underlying4
 a4:=Tryz.isAgg4
 z4:=Tryz.sizeOf4
 v4:=Tryz.zeroValue4
 t5:=Tryz.underlying5
 a5:=Tryz.isAgg5
 z5:=Tryz.sizeOf5
 v5:=Tryz.zeroValue5
 t9:=Tryz.underlying9
 a9:=Tryz.isAgg9
 z9:=Tryz.sizeOf9
 v9:=Tryz.zeroValue9
 t37:=Tryz.underlying115
 a37:=Tryz.isAgg115
 z37:=Tryz.sizeOf115
 v37:=Tryz.zeroValue115
 t51:=Tryz.underlying227
 a51:=Tryz.isAgg227
 z51:=Tryz.sizeOf227
 v51:=Tryz.zeroValue227
 t53:=Tryz.underlying230
 a53:=Tryz.isAgg230
 z53:=Tryz.sizeOf230
 v53:=Tryz.zeroValue230}
open Go.RowKit Go.Sort Go.Lib in
theorem Tryz.internal_strconv_formatBase10(uP off cap:Nat)(u:Nat)(d:Array UInt8)(w:World)(f:Holds (fun(b:UInt8)=>Value.int .u8 (b.toNat:Int)) w uP off d)(hu:u<10^d.size)(a:u<18446744073709551616)(nC:d.size<4611686018427387904):
  Calls Tryz.prog 201 #[.slice (some ⟨uP,off,none⟩) d.size cap,.int .u64 u] w fun e w'=>
   e= .returned (.tuple #[])/\∃(n g:Nat)(c:Array UInt8),w'=(putRow (fun(b:UInt8)=>Value.int .u8 (b.toNat:Int)) w uP off c).drewN n/\FmtInv d.size u 0 g c:=Any.internal_strconv_formatBase10 Tryz.TM uP off cap u d w f hu a nC
def Tryz.Fq:Go.Shelf.Ren:=⟨fun|171=>50|243=>107|246=>165|283=>199|284=>200|285=>201|286=>202|129=>242|317=>241|318=>243|319=>244|320=>245|337=>278|338=>279|n=>n,fun|3=>3|9=>9|2=>2|4=>4|171=>262|0=>0|53=>230|37=>115|5=>5|173=>265|212=>303|51=>227|20=>20|213=>304|46=>184|232=>349|233=>232|n=>n,fun|17=>0|18=>2|19=>3|n=>n⟩
theorem Tryz.PU:Go.Proofs.LaysM.n171 Tryz.prog Tryz.Fq:={
 mixed:=kF
 f129:=Tryz.func242.trans (ca some kF)
 f171:=Tryz.func50.trans (ca some kF)
 f243:=Tryz.func107.trans (ca some kF)
 f246:=Tryz.func165.trans (ca some kF)
 f283:=Tryz.func199.trans (ca some kF)
 f284:=Tryz.func200.trans (ca some kF)
 f285:=Tryz.func201.trans (ca some kF)
 f286:=Tryz.func202.trans (ca some kF)
 f317:=Tryz.func241.trans (ca some kF)
 f318:=Tryz.func243.trans (ca some kF)
 f319:=Tryz.func244.trans (ca some kF)
 f320:=Tryz.func245.trans (ca some kF)
 f337:=Tryz.func278.trans (ca some kF)
 f338:=Tryz.func279.trans (ca some kF)
 t0:=Tryz.underlying0
 a0:=Tryz.isAgg0
 z0:=Tryz.sizeOf0
 v0:=Tryz.zeroValue0
 t2:=Tryz.underlying2
 a2:=Tryz.isAgg2
 z2:=Tryz.sizeOf2
 v2:=Tryz.zeroValue2
 t3:=Tryz.underlying3
 a3:=Tryz.isAgg3
 z3:=Tryz.sizeOf3
 v3:=Tryz.zeroValue3
 t4:=Tryz.underlying4
 a4:=Tryz.isAgg4
 z4:=Tryz.sizeOf4
 v4:=Tryz.zeroValue4
 t5:=Tryz.underlying5
 a5:=Tryz.isAgg5
 z5:=Tryz.sizeOf5
 v5:=Tryz.zeroValue5
 t9:=Tryz.underlying9
 a9:=Tryz.isAgg9
 z9:=Tryz.sizeOf9
 v9:=Tryz.zeroValue9
 t20:=Tryz.underlying20
 a20:=Tryz.isAgg20
 z20:=Tryz.sizeOf20
 v20:=Tryz.zeroValue20
 t37:=Tryz.underlying115
 a37:=Tryz.isAgg115
 z37:=Tryz.sizeOf115
 v37:=Tryz.zeroValue115
 t46:=Tryz.underlying184
 a46:=Tryz.isAgg184
 z46:=Tryz.sizeOf184
 v46:=Tryz.zeroValue184
 t51:=Tryz.underlying227
 a51:=Tryz.isAgg227
 z51:=Tryz.sizeOf227
 v51:=Tryz.zeroValue227
 t53:=Tryz.underlying230
 a53:=Tryz.isAgg230
 z53:=Tryz.sizeOf230
 v53:=Tryz.zeroValue230
 t171:=Tryz.underlying262
 a171:=Tryz.isAgg262
 z171:=Tryz.sizeOf262
 v171:=Tryz.zeroValue262
 t173:=Tryz.underlying265
 a173:=Tryz.isAgg265
 z173:=Tryz.sizeOf265
 v173:=Tryz.zeroValue265
 t212:=Tryz.underlying303
 a212:=Tryz.isAgg303
 z212:=Tryz.sizeOf303
 v212:=Tryz.zeroValue303
 t213:=Tryz.underlying304
 a213:=Tryz.isAgg304
 z213:=Tryz.sizeOf304
 t232:=Tryz.underlying349
 a232:=Tryz.isAgg349
 z232:=Tryz.sizeOf349
 v232:=Tryz.zeroValue349
 t233:=Tryz.underlying232
 a233:=Tryz.isAgg232
 z233:=Tryz.sizeOf232
 v233:=Tryz.zeroValue232
 g17:=kF
 g18:=kF
 g19:=kF
 i0:=kF
 i2:=kF
 i3:=kF
 i4:=kF
 i5:=kF
 i9:=kF
 i20:=kF
 i37:=kF
 i46:=kF
 i51:=kF
 i53:=kF
 i171:=kF
 i173:=kF
 i212:=kF
 i232:=kF
 i233:=kF
 m17:=kF
 m18:=kF
 m19:=by kernel_rfl}
open Go.RowKit Go.Sort Go.Lib in
theorem Tryz.strconv_Itoa (n : Int) (b : -9223372036854775808 ≤ n) (h1 : n ≤ 9223372036854775807) (w : World) (a : Lib.TabIs Tryz.prog w "internal/strconv.uint64pow10" .u64 Lib.pow10Tab) :
  Calls Tryz.prog 50 #[.int .i64 n] w fun e w'=>e= .returned (.string ⟨(Lib.itoa n).toArray⟩)/\∃k os,w'=grow (w.drewN k) os:=Any.strconv_Itoa Tryz.PU n b h1 w a
def Tryz.Fs:Go.Shelf.Ren:=⟨fun|173=>344|246=>165|283=>199|284=>200|285=>201|286=>202|129=>242|317=>241|318=>243|319=>244|320=>245|337=>278|338=>279|n=>n,fun|2=>2|3=>3|9=>9|4=>4|171=>262|0=>0|53=>230|37=>115|5=>5|173=>265|212=>303|51=>227|20=>20|213=>304|46=>184|232=>349|233=>232|n=>n,fun|17=>0|18=>2|19=>3|n=>n⟩
theorem Tryz.PV:Go.Proofs.LaysM.n173 Tryz.prog Tryz.Fs:={
 mixed:=kF
 f129:=Tryz.func242.trans (ca some kF)
 f173:=Tryz.func344.trans (ca some kF)
 f246:=Tryz.func165.trans (ca some kF)
 f283:=Tryz.func199.trans (ca some kF)
 f284:=Tryz.func200.trans (ca some kF)
 f285:=Tryz.func201.trans (ca some kF)
 f286:=Tryz.func202.trans (ca some kF)
 f317:=Tryz.func241.trans (ca some kF)
 f318:=Tryz.func243.trans (ca some kF)
 f319:=Tryz.func244.trans (ca some kF)
 f320:=Tryz.func245.trans (ca some kF)
 f337:=Tryz.func278.trans (ca some kF)
 f338:=Tryz.func279.trans (ca some kF)
 t0:=Tryz.underlying0
 a0:=Tryz.isAgg0
 z0:=Tryz.sizeOf0
 v0:=Tryz.zeroValue0
 t2:=Tryz.underlying2
 a2:=Tryz.isAgg2
 z2:=Tryz.sizeOf2
 v2:=Tryz.zeroValue2
 t3:=Tryz.underlying3
 a3:=Tryz.isAgg3
 z3:=Tryz.sizeOf3
 v3:=Tryz.zeroValue3
 t4:=Tryz.underlying4
 a4:=Tryz.isAgg4
 z4:=Tryz.sizeOf4
 v4:=Tryz.zeroValue4
 t5:=Tryz.underlying5
 a5:=Tryz.isAgg5
 z5:=Tryz.sizeOf5
 v5:=Tryz.zeroValue5
 t9:=Tryz.underlying9
 a9:=Tryz.isAgg9
 z9:=Tryz.sizeOf9
 v9:=Tryz.zeroValue9
 t20:=Tryz.underlying20
 a20:=Tryz.isAgg20
 z20:=Tryz.sizeOf20
 v20:=Tryz.zeroValue20
 t37:=Tryz.underlying115
 a37:=Tryz.isAgg115
 z37:=Tryz.sizeOf115
 v37:=Tryz.zeroValue115
 t46:=Tryz.underlying184
 a46:=Tryz.isAgg184
 z46:=Tryz.sizeOf184
 v46:=Tryz.zeroValue184
 t51:=Tryz.underlying227
 a51:=Tryz.isAgg227
 z51:=Tryz.sizeOf227
 v51:=Tryz.zeroValue227
 t53:=Tryz.underlying230
 a53:=Tryz.isAgg230
 z53:=Tryz.sizeOf230
 v53:=Tryz.zeroValue230
 t171:=Tryz.underlying262
 a171:=Tryz.isAgg262
 z171:=Tryz.sizeOf262
 v171:=Tryz.zeroValue262
 t173:=Tryz.underlying265
 a173:=Tryz.isAgg265
 z173:=Tryz.sizeOf265
 v173:=Tryz.zeroValue265
 t212:=Tryz.underlying303
 a212:=Tryz.isAgg303
 z212:=Tryz.sizeOf303
 v212:=Tryz.zeroValue303
 t213:=Tryz.underlying304
 a213:=Tryz.isAgg304
 z213:=Tryz.sizeOf304
 t232:=Tryz.underlying349
 a232:=Tryz.isAgg349
 z232:=Tryz.sizeOf349
 v232:=Tryz.zeroValue349
 t233:=Tryz.underlying232
 a233:=Tryz.isAgg232
 z233:=Tryz.sizeOf232
 v233:=Tryz.zeroValue232
 g17:=kF
 g18:=kF
 g19:=kF
 i0:=kF
 i2:=kF
 i3:=kF
 i4:=kF
 i5:=kF
 i9:=kF
 i20:=kF
 i37:=kF
 i46:=kF
 i51:=kF
 i53:=kF
 i171:=kF
 i173:=kF
 i212:=kF
 i232:=kF
 i233:=kF
 m17:=kF
 m18:=kF
 m19:=by kernel_rfl}
open Go.RowKit Go.Sort Go.Lib in
theorem Tryz.strconv_FormatInt_10 (n : Int) (b : -9223372036854775808 ≤ n) (h1 : n ≤ 9223372036854775807) (w : World) (a : Lib.TabIs Tryz.prog w "internal/strconv.uint64pow10" .u64 Lib.pow10Tab) :
  Calls Tryz.prog 344 #[.int .i64 n,.int .i64 10] w fun e w'=>e= .returned (.string ⟨(Lib.itoa n).toArray⟩)/\∃k os,w'=grow (w.drewN k) os:=Any.strconv_FormatInt_10 Tryz.PV n b h1 w a
def Tryz.Ft:Go.Shelf.Ren:=⟨fun|174=>343|247=>350|245=>319|287=>318|279=>335|280=>336|281=>337|282=>338|321=>333|322=>334|316=>347|171=>50|205=>348|243=>107|246=>165|283=>199|284=>200|285=>201|286=>202|129=>242|317=>241|318=>243|319=>244|320=>245|337=>278|338=>279|n=>n,fun|9=>9|3=>3|2=>2|75=>119|85=>384|4=>4|167=>375|5=>5|53=>230|175=>353|46=>184|168=>377|37=>115|0=>0|210=>389|21=>21|127=>188|145=>396|143=>394|171=>262|173=>265|212=>303|51=>227|20=>20|213=>304|232=>349|233=>232|80=>124|n=>n,fun|15=>4|16=>5|17=>0|18=>2|19=>3|n=>n⟩
theorem Tryz.PX:Go.Proofs.LaysC.n174 Tryz.prog Tryz.Ft:={
 mixed:=kF
 f129:=Tryz.func242.trans (ca some kF)
 f171:=Tryz.func50.trans (ca some kF)
 f174:=Tryz.func343.trans (ca some kF)
 f205:=Tryz.func348.trans (ca some kF)
 f243:=Tryz.func107.trans (ca some kF)
 f245:=Tryz.func319.trans (ca some kF)
 f246:=Tryz.func165.trans (ca some kF)
 f247:=Tryz.func350.trans (ca some kF)
 f279:=Tryz.func335.trans (ca some kF)
 f280:=Tryz.func336.trans (ca some kF)
 f281:=Tryz.func337.trans (ca some kF)
 f282:=Tryz.func338.trans (ca some kF)
 f283:=Tryz.func199.trans (ca some kF)
 f284:=Tryz.func200.trans (ca some kF)
 f285:=Tryz.func201.trans (ca some kF)
 f286:=Tryz.func202.trans (ca some kF)
 f287:=Tryz.func318.trans (ca some kF)
 f316:=Tryz.func347.trans (ca some kF)
 f317:=Tryz.func241.trans (ca some kF)
 f318:=Tryz.func243.trans (ca some kF)
 f319:=Tryz.func244.trans (ca some kF)
 f320:=Tryz.func245.trans (ca some kF)
 f321:=Tryz.func333.trans (ca some kF)
 f322:=Tryz.func334.trans (ca some kF)
 f337:=Tryz.func278.trans (ca some kF)
 f338:=Tryz.func279.trans (ca some kF)
 t0:=Tryz.underlying0
 a0:=Tryz.isAgg0
 z0:=Tryz.sizeOf0
 v0:=Tryz.zeroValue0
 t2:=Tryz.underlying2
 a2:=Tryz.isAgg2
 z2:=Tryz.sizeOf2
 v2:=Tryz.zeroValue2
 t3:=Tryz.underlying3
 a3:=Tryz.isAgg3
 z3:=Tryz.sizeOf3
 v3:=Tryz.zeroValue3
 t4:=Tryz.underlying4
 a4:=Tryz.isAgg4
 z4:=Tryz.sizeOf4
 v4:=Tryz.zeroValue4
 t5:=Tryz.underlying5
 a5:=Tryz.isAgg5
 z5:=Tryz.sizeOf5
 v5:=Tryz.zeroValue5
 t9:=Tryz.underlying9
 a9:=Tryz.isAgg9
 z9:=Tryz.sizeOf9
 v9:=Tryz.zeroValue9
 t20:=Tryz.underlying20
 a20:=Tryz.isAgg20
 z20:=Tryz.sizeOf20
 v20:=Tryz.zeroValue20
 t21:=Tryz.underlying21
 a21:=Tryz.isAgg21
 z21:=Tryz.sizeOf21
 v21:=Tryz.zeroValue21
 t37:=Tryz.underlying115
 a37:=Tryz.isAgg115
 z37:=Tryz.sizeOf115
 v37:=Tryz.zeroValue115
 t46:=Tryz.underlying184
 a46:=Tryz.isAgg184
 z46:=Tryz.sizeOf184
 v46:=Tryz.zeroValue184
 t51:=Tryz.underlying227
 a51:=Tryz.isAgg227
 z51:=Tryz.sizeOf227
 v51:=Tryz.zeroValue227
 t53:=Tryz.underlying230
 a53:=Tryz.isAgg230
 z53:=Tryz.sizeOf230
 v53:=Tryz.zeroValue230
 t75:=Tryz.underlying119
 a75:=Tryz.isAgg119
 z75:=Tryz.sizeOf119
 v75:=Tryz.zeroValue119
 t85:=Tryz.underlying384
 a85:=Tryz.isAgg384
 z85:=Tryz.sizeOf384
 v85:=Tryz.zeroValue384
 t127:=Tryz.underlying188
 a127:=Tryz.isAgg188
 z127:=Tryz.sizeOf188
 v127:=Tryz.zeroValue188
 t143:=Tryz.underlying394
 a143:=Tryz.isAgg394
 z143:=Tryz.sizeOf394
 v143:=Tryz.zeroValue394
 t145:=Tryz.underlying396
 a145:=Tryz.isAgg396
 z145:=Tryz.sizeOf396
 v145:=Tryz.zeroValue396
 t167:=Tryz.underlying375
 a167:=Tryz.isAgg375
 z167:=Tryz.sizeOf375
 v167:=Tryz.zeroValue375
 t168:=Tryz.underlying377
 a168:=Tryz.isAgg377
 z168:=Tryz.sizeOf377
 v168:=Tryz.zeroValue377
 t171:=Tryz.underlying262
 a171:=Tryz.isAgg262
 z171:=Tryz.sizeOf262
 v171:=Tryz.zeroValue262
 t173:=Tryz.underlying265
 a173:=Tryz.isAgg265
 z173:=Tryz.sizeOf265
 v173:=Tryz.zeroValue265
 t175:=Tryz.underlying353
 a175:=Tryz.isAgg353
 z175:=Tryz.sizeOf353
 v175:=Tryz.zeroValue353
 t210:=Tryz.underlying389
 a210:=Tryz.isAgg389
 z210:=Tryz.sizeOf389
 v210:=Tryz.zeroValue389
 t212:=Tryz.underlying303
 a212:=Tryz.isAgg303
 z212:=Tryz.sizeOf303
 v212:=Tryz.zeroValue303
 t213:=Tryz.underlying304
 a213:=Tryz.isAgg304
 z213:=Tryz.sizeOf304
 t232:=Tryz.underlying349
 a232:=Tryz.isAgg349
 z232:=Tryz.sizeOf349
 v232:=Tryz.zeroValue349
 t233:=Tryz.underlying232
 a233:=Tryz.isAgg232
 z233:=Tryz.sizeOf232
 v233:=Tryz.zeroValue232
 g15:=kF
 g16:=kF
 g17:=kF
 g18:=kF
 g19:=kF
 t80:=Tryz.underlying124
 a80:=Tryz.isAgg124
 z80:=Tryz.sizeOf124
 v80:=Tryz.zeroValue124
 i0:=kF
 i2:=kF
 i3:=kF
 i4:=kF
 i5:=kF
 i9:=kF
 i20:=kF
 i21:=kF
 i37:=kF
 i46:=kF
 i51:=kF
 i53:=kF
 i75:=kF
 i80:=kF
 i85:=kF
 i127:=kF
 i143:=kF
 i145:=kF
 i167:=kF
 i168:=kF
 i171:=kF
 i173:=kF
 i175:=kF
 i210:=kF
 i212:=kF
 i232:=kF
 i233:=kF
 m15:=kF
 m16:=kF
 m17:=kF
 m18:=kF
 m19:=kF
 c0:=kF
 c2:=kF
 c3:=kF
 c4:=kF
 c5:=kF
 c9:=kF
 c20:=kF
 c21:=kF
 c37:=kF
 c46:=kF
 c51:=kF
 c53:=kF
 c75:=kF
 c80:=kF
 c85:=kF
 c127:=kF
 c143:=kF
 c145:=kF
 c167:=kF
 c168:=kF
 c171:=kF
 c173:=kF
 c175:=kF
 c210:=kF
 c212:=kF
 c213:=kF
 c232:=kF
 c233:=by kernel_rfl}
open Go.RowKit in
theorem Tryz.strconv_ParseInt_10_at64_ok(s:ByteArray)(a:s.size<=9223372036854775806)(v:Int)(h:Lib.parseIntB 64 s.data.toList= .ok v)(w:World):
  Calls Tryz.prog 343 #[.string s,.int .i64 10,.int .i64 64] w fun e w'=>e= .returned (.tuple #[.int .i64 v,.nilIface])/\(w'=w∨∃t,w'=Lib.bytesWorld w 5 t):=Any.strconv_ParseInt_10_at64_ok Tryz.PX s a v h w
def Tryz.Fu:Go.Shelf.Ren:=⟨fun|14=>303|16=>318|17=>319|19=>333|20=>334|21=>335|22=>336|23=>337|24=>338|25=>347|27=>50|26=>348|28=>107|29=>165|30=>199|31=>200|32=>201|33=>202|35=>242|34=>241|36=>243|37=>244|38=>245|39=>278|40=>279|n=>n,fun|9=>9|3=>3|22=>230|24=>119|25=>353|4=>4|34=>375|5=>5|36=>184|37=>115|0=>0|39=>377|21=>21|44=>389|47=>188|50=>396|48=>394|2=>2|52=>262|55=>265|59=>303|60=>227|20=>20|61=>304|65=>349|66=>232|67=>124|n=>n,fun|0=>4|1=>5|2=>0|3=>2|4=>3|n=>n⟩
theorem Tryz.PY:Go.Proofs.LaysPu.n14 Tryz.prog Tryz.Fu:={
 mixed:=kF
 f14:=Tryz.func303.trans (ca some kF)
 f16:=Tryz.func318.trans (ca some kF)
 f17:=Tryz.func319.trans (ca some kF)
 f19:=Tryz.func333.trans (ca some kF)
 f20:=Tryz.func334.trans (ca some kF)
 f21:=Tryz.func335.trans (ca some kF)
 f22:=Tryz.func336.trans (ca some kF)
 f23:=Tryz.func337.trans (ca some kF)
 f24:=Tryz.func338.trans (ca some kF)
 f25:=Tryz.func347.trans (ca some kF)
 f26:=Tryz.func348.trans (ca some kF)
 f27:=Tryz.func50.trans (ca some kF)
 f28:=Tryz.func107.trans (ca some kF)
 f29:=Tryz.func165.trans (ca some kF)
 f30:=Tryz.func199.trans (ca some kF)
 f31:=Tryz.func200.trans (ca some kF)
 f32:=Tryz.func201.trans (ca some kF)
 f33:=Tryz.func202.trans (ca some kF)
 f34:=Tryz.func241.trans (ca some kF)
 f35:=Tryz.func242.trans (ca some kF)
 f36:=Tryz.func243.trans (ca some kF)
 f37:=Tryz.func244.trans (ca some kF)
 f38:=Tryz.func245.trans (ca some kF)
 f39:=Tryz.func278.trans (ca some kF)
 f40:=Tryz.func279.trans (ca some kF)
 t0:=Tryz.underlying0
 a0:=Tryz.isAgg0
 z0:=Tryz.sizeOf0
 v0:=Tryz.zeroValue0
 i0:=kF
 t2:=Tryz.underlying2
 a2:=Tryz.isAgg2
 z2:=Tryz.sizeOf2
 v2:=Tryz.zeroValue2
 i2:=kF
 t3:=Tryz.underlying3
 a3:=Tryz.isAgg3
 z3:=Tryz.sizeOf3
 v3:=Tryz.zeroValue3
 i3:=kF
 t4:=Tryz.underlying4
 a4:=Tryz.isAgg4
 z4:=Tryz.sizeOf4
 v4:=Tryz.zeroValue4
 i4:=kF
 t5:=Tryz.underlying5
 a5:=Tryz.isAgg5
 z5:=Tryz.sizeOf5
 v5:=Tryz.zeroValue5
 i5:=kF
 t9:=Tryz.underlying9
 a9:=Tryz.isAgg9
 z9:=Tryz.sizeOf9
 v9:=Tryz.zeroValue9
 i9:=kF
 t20:=Tryz.underlying20
 a20:=Tryz.isAgg20
 z20:=Tryz.sizeOf20
 v20:=Tryz.zeroValue20
 i20:=kF
 t21:=Tryz.underlying21
 a21:=Tryz.isAgg21
 z21:=Tryz.sizeOf21
 v21:=Tryz.zeroValue21
 i21:=kF
 t22:=Tryz.underlying230
 a22:=Tryz.isAgg230
 z22:=Tryz.sizeOf230
 v22:=Tryz.zeroValue230
 i22:=kF
 t24:=Tryz.underlying119
 a24:=Tryz.isAgg119
 z24:=Tryz.sizeOf119
 v24:=Tryz.zeroValue119
 i24:=kF
 t25:=Tryz.underlying353
 a25:=Tryz.isAgg353
 z25:=Tryz.sizeOf353
 v25:=Tryz.zeroValue353
 i25:=kF
 t34:=Tryz.underlying375
 a34:=Tryz.isAgg375
 z34:=Tryz.sizeOf375
 v34:=Tryz.zeroValue375
 i34:=kF
 c34:=kF
 t36:=Tryz.underlying184
 a36:=Tryz.isAgg184
 z36:=Tryz.sizeOf184
 v36:=Tryz.zeroValue184
 i36:=kF
 t37:=Tryz.underlying115
 a37:=Tryz.isAgg115
 z37:=Tryz.sizeOf115
 v37:=Tryz.zeroValue115
 i37:=kF
 t39:=Tryz.underlying377
 a39:=Tryz.isAgg377
 z39:=Tryz.sizeOf377
 v39:=Tryz.zeroValue377
 i39:=kF
 t44:=Tryz.underlying389
 a44:=Tryz.isAgg389
 z44:=Tryz.sizeOf389
 v44:=Tryz.zeroValue389
 i44:=kF
 t47:=Tryz.underlying188
 a47:=Tryz.isAgg188
 z47:=Tryz.sizeOf188
 v47:=Tryz.zeroValue188
 i47:=kF
 t48:=Tryz.underlying394
 a48:=Tryz.isAgg394
 z48:=Tryz.sizeOf394
 v48:=Tryz.zeroValue394
 i48:=kF
 t50:=Tryz.underlying396
 a50:=Tryz.isAgg396
 z50:=Tryz.sizeOf396
 v50:=Tryz.zeroValue396
 i50:=kF
 t52:=Tryz.underlying262
 a52:=Tryz.isAgg262
 z52:=Tryz.sizeOf262
 v52:=Tryz.zeroValue262
 i52:=kF
 t55:=Tryz.underlying265
 a55:=Tryz.isAgg265
 z55:=Tryz.sizeOf265
 v55:=Tryz.zeroValue265
 i55:=kF
 t59:=Tryz.underlying303
 a59:=Tryz.isAgg303
 z59:=Tryz.sizeOf303
 v59:=Tryz.zeroValue303
 i59:=kF
 t60:=Tryz.underlying227
 a60:=Tryz.isAgg227
 z60:=Tryz.sizeOf227
 v60:=Tryz.zeroValue227
 i60:=kF
 t61:=Tryz.underlying304
 a61:=Tryz.isAgg304
 z61:=Tryz.sizeOf304
 t65:=Tryz.underlying349
 a65:=Tryz.isAgg349
 z65:=Tryz.sizeOf349
 v65:=Tryz.zeroValue349
 i65:=kF
 t66:=Tryz.underlying232
 a66:=Tryz.isAgg232
 z66:=Tryz.sizeOf232
 v66:=Tryz.zeroValue232
 i66:=kF
 t67:=Tryz.underlying124
 a67:=Tryz.isAgg124
 z67:=Tryz.sizeOf124
 v67:=Tryz.zeroValue124
 i67:=kF
 g0:=kF
 m0:=kF
 g1:=kF
 m1:=kF
 g2:=kF
 m2:=kF
 g3:=kF
 m3:=kF
 g4:=kF
 m4:=by kernel_rfl}
open Go.RowKit in
theorem Tryz.strconv_ParseUint_10_at32_ok(s:ByteArray)(a:s.size<=9223372036854775806)(u:Nat)(h:Lib.parseUintB 32 s.data.toList= .ok u)(w:World):
  Calls Tryz.prog 303 #[.string s,.int .i64 10,.int .i64 32] w fun e w'=>e= .returned (.tuple #[.int .u64 u,.nilIface])/\(w'=w∨w'=Lib.bytesWorld w 5 s):=Any.strconv_ParseUint_10_at32_ok Tryz.PY s a u h w
def Tryz.HE:Go.Shelf.Ren:=⟨fun|145=>176|220=>221|219=>263|217=>284|225=>285|224=>286|267=>287|266=>300|314=>301|n=>n,fun|9=>9|4=>4|59=>246|3=>3|5=>5|46=>184|146=>350|51=>227|n=>n,fun|1=>1|n=>n⟩
theorem Tryz.TN:Go.Proofs.Lays.n145 Tryz.prog Tryz.HE:={
 mixed:=kF
 f145:=Tryz.func176.trans (ca some kF)
 f217:=Tryz.func284.trans (ca some kF)
 f219:=Tryz.func263.trans (ca some kF)
 f220:=Tryz.func221.trans (ca some kF)
 f224:=Tryz.func286.trans (ca some kF)
 f225:=Tryz.func285.trans (ca some kF)
 f266:=Tryz.func300.trans (ca some kF)
 f267:=Tryz.func287.trans (ca some kF)
 f314:=Tryz.func301.trans (ca some kF)
 t3:=Tryz.underlying3
 a3:=Tryz.isAgg3
 z3:=Tryz.sizeOf3
 v3:=Tryz.zeroValue3
 t4:=Tryz.underlying4
 a4:=Tryz.isAgg4
 z4:=Tryz.sizeOf4
 v4:=Tryz.zeroValue4
 t5:=Tryz.underlying5
 a5:=Tryz.isAgg5
 z5:=Tryz.sizeOf5
 v5:=Tryz.zeroValue5
 t9:=Tryz.underlying9
 a9:=Tryz.isAgg9
 z9:=Tryz.sizeOf9
 v9:=Tryz.zeroValue9
 t46:=Tryz.underlying184
 a46:=Tryz.isAgg184
 z46:=Tryz.sizeOf184
 v46:=Tryz.zeroValue184
 t51:=Tryz.underlying227
 a51:=Tryz.isAgg227
 z51:=Tryz.sizeOf227
 v51:=Tryz.zeroValue227
 t59:=Tryz.underlying246
 a59:=Tryz.isAgg246
 z59:=Tryz.sizeOf246
 v59:=Tryz.zeroValue246
 t146:=Tryz.underlying350
 a146:=Tryz.isAgg350
 z146:=Tryz.sizeOf350
 v146:=Tryz.zeroValue350
 g1:=by kernel_rfl}
open Go.RowKit Go.Lib in
theorem Tryz.strings_Cut(s sep:ByteArray)(m:Int)(w:World)(hs:s.size<4294967281)(hm:w.cell? ⟨1,0,none⟩=some (.int .i64 m)):
  Calls Tryz.prog 176 #[.string s,.string sep] w fun e w'=>e= .returned (.tuple #[.string ⟨(Lib.cut s.data.toList sep.data.toList).1.toArray⟩,.string ⟨(Lib.cut s.data.toList sep.data.toList).2.1.toArray⟩,.bool (Lib.cut s.data.toList sep.data.toList).2.2])/\∃n,w'=w.drewN n:=Any.strings_Cut Tryz.TN s sep m w hs hm
def Tryz.zg:Go.Shelf.Ren:=⟨fun|105=>307|212=>322|99=>323|165=>324|166=>49|170=>325|169=>52|263=>339|264=>340|206=>302|240=>106|241=>341|276=>164|277=>349|n=>n,fun|9=>9|3=>3|4=>4|20=>20|0=>0|46=>184|109=>366|5=>5|72=>117|76=>120|51=>227|146=>350|53=>230|148=>381|70=>114|37=>115|75=>119|127=>188|164=>224|80=>124|n=>n,fun|n=>n⟩
theorem Tryz.TO:Go.Proofs.Lays.n105 Tryz.prog Tryz.zg:={
 mixed:=kF
 f99:=Tryz.func323.trans (ca some kF)
 f105:=Tryz.func307.trans (ca some kF)
 f165:=Tryz.func324.trans (ca some kF)
 f166:=Tryz.func49.trans (ca some kF)
 f169:=Tryz.func52.trans (ca some kF)
 f170:=Tryz.func325.trans (ca some kF)
 f206:=Tryz.func302.trans (ca some kF)
 f212:=Tryz.func322.trans (ca some kF)
 f240:=Tryz.func106.trans (ca some kF)
 f241:=Tryz.func341.trans (ca some kF)
 f263:=Tryz.func339.trans (ca some kF)
 f264:=Tryz.func340.trans (ca some kF)
 f276:=Tryz.func164.trans (ca some kF)
 f277:=Tryz.func349.trans (ca some kF)
 t0:=Tryz.underlying0
 a0:=Tryz.isAgg0
 z0:=Tryz.sizeOf0
 v0:=Tryz.zeroValue0
 t3:=Tryz.underlying3
 a3:=Tryz.isAgg3
 z3:=Tryz.sizeOf3
 v3:=Tryz.zeroValue3
 t4:=Tryz.underlying4
 a4:=Tryz.isAgg4
 z4:=Tryz.sizeOf4
 v4:=Tryz.zeroValue4
 t5:=Tryz.underlying5
 a5:=Tryz.isAgg5
 z5:=Tryz.sizeOf5
 v5:=Tryz.zeroValue5
 t9:=Tryz.underlying9
 a9:=Tryz.isAgg9
 z9:=Tryz.sizeOf9
 v9:=Tryz.zeroValue9
 t20:=Tryz.underlying20
 a20:=Tryz.isAgg20
 z20:=Tryz.sizeOf20
 v20:=Tryz.zeroValue20
 t37:=Tryz.underlying115
 a37:=Tryz.isAgg115
 z37:=Tryz.sizeOf115
 v37:=Tryz.zeroValue115
 t46:=Tryz.underlying184
 a46:=Tryz.isAgg184
 z46:=Tryz.sizeOf184
 v46:=Tryz.zeroValue184
 t51:=Tryz.underlying227
 a51:=Tryz.isAgg227
 z51:=Tryz.sizeOf227
 v51:=Tryz.zeroValue227
 t53:=Tryz.underlying230
 a53:=Tryz.isAgg230
 z53:=Tryz.sizeOf230
 v53:=Tryz.zeroValue230
 t70:=Tryz.underlying114
 a70:=Tryz.isAgg114
 z70:=Tryz.sizeOf114
 v70:=Tryz.zeroValue114
 t72:=Tryz.underlying117
 a72:=Tryz.isAgg117
 z72:=Tryz.sizeOf117
 v72:=Tryz.zeroValue117
 t75:=Tryz.underlying119
 a75:=Tryz.isAgg119
 z75:=Tryz.sizeOf119
 v75:=Tryz.zeroValue119
 t76:=Tryz.underlying120
 a76:=Tryz.isAgg120
 z76:=Tryz.sizeOf120
 v76:=Tryz.zeroValue120
 t109:=Tryz.underlying366
 a109:=Tryz.isAgg366
 z109:=Tryz.sizeOf366
 v109:=Tryz.zeroValue366
 t127:=Tryz.underlying188
 a127:=Tryz.isAgg188
 z127:=Tryz.sizeOf188
 v127:=Tryz.zeroValue188
 t146:=Tryz.underlying350
 a146:=Tryz.isAgg350
 z146:=Tryz.sizeOf350
 v146:=Tryz.zeroValue350
 t148:=Tryz.underlying381
 a148:=Tryz.isAgg381
 z148:=Tryz.sizeOf381
 v148:=Tryz.zeroValue381
 t164:=Tryz.underlying224
 a164:=Tryz.isAgg224
 z164:=Tryz.sizeOf224
 v164:=Tryz.zeroValue224}
theorem Tryz.xy:Builder.Extra Tryz.prog Tryz.zg:={
 sizeBuilder:=kF
 liesBuilder:=kF
 t5:=Tryz.underlying5
 a5:=Tryz.isAgg5
 z5:=Tryz.sizeOf5
 v5:=Tryz.zeroValue5
 infoByte:=kF
 cellsByte:=kF
 sizeByte:=kF
 neB5:=by decide}
open Go.RowKit Go.Lib in
theorem Tryz.strings_Repeat(s:ByteArray)(c:Nat)(w:World)(a:c<=9223372036854775807)(hlen:s.size*c<=140737488355328):
  Calls Tryz.prog 307 #[.string s,.int .i64 c] w fun e w'=>e= .returned (.string ⟨(Lib.repeatL s.data.toList c).toArray⟩)/\Below w.heap.size w w':=Any.strings_Repeat Tryz.TO Tryz.xy s c w a hlen
end Go.Proofs

open Go.Proofs.YtbcojgcjjpggnaaGreatDoor
namespace Go.Proofs
open Go.Shelf Go.RowKit

theorem Tryz.bX:(Tryz.prog.info? 117).map (·.size)=some 2:=kF
theorem Tryz.aci:liesAt Tryz.prog Tryz.prog.depth 117 (2 / Tryz.prog.cellsOf 117) 0 117 1=true:=kF
theorem Tryz.bInfo:(Tryz.prog.info? 5).map (fun i=>(i.zero,i.size,i.bytes))=some (some (.int .u8 0),1,1):=kF
theorem Tryz.Ke:Tryz.prog.follows .mixedOrders=true:=kF

set_option maxHeartbeats 1000000 in
set_option maxRecDepth 100000 in
theorem Tryz.Kf(b:Nat)(w:World)(h0:w.cell? ⟨b,0,none⟩=some (.pointer (some ⟨b,0,none⟩))):
  Calls Tryz.prog 106 #[.pointer (some ⟨b,0,none⟩)] w fun e w'=>e= .returned (.tuple #[])/\w'=w:=by
 obtain⟨j,hj,_⟩:=ob.1 Tryz.bX;have mixed:=Tryz.Ke;have t72:=Tryz.underlying117;have a72:=Tryz.isAgg117;have z72:=Tryz.sizeOf117;have v72:=Tryz.zeroValue117;have u72:=run_underlying t72;have t70:=Tryz.underlying114;have a70:=Tryz.isAgg114;have z70:=Tryz.sizeOf114;have v70:=Tryz.zeroValue114;have u70:=run_underlying t70;have t4:=Tryz.underlying4;have a4:=Tryz.isAgg4;have z4:=Tryz.sizeOf4;have v4:=Tryz.zeroValue4;have u4:=run_underlying t4;have t164:=Tryz.underlying224;have a164:=Tryz.isAgg224;have z164:=Tryz.sizeOf224;have v164:=Tryz.zeroValue224;have u164:=run_underlying t164
 go_enter Tryz.func106,Tryz.ntmps106
 go_wp2
 rw[Lib.run_neq_ptr_same w _ t70 hj]
 go_wp2
 go_end0
 exact⟨rfl,rfl⟩

set_option maxHeartbeats 1000000 in
set_option maxRecDepth 100000 in
theorem Tryz.HF(b:Nat)(w:World)(h0:w.cell? ⟨b,0,none⟩=some (.pointer none))(hsh:w.shape? b=some (117,2))(hfz:w.frozen? ⟨b,0,none⟩=false):
  Calls Tryz.prog 106 #[.pointer (some ⟨b,0,none⟩)] w fun e w'=>e= .returned (.tuple #[])/\w'=w.setCell ⟨b,0,none⟩ (.pointer (some ⟨b,0,none⟩)):=by
 obtain⟨j,hj,hjs⟩:=ob.1 Tryz.bX;have mixed:=Tryz.Ke;have t72:=Tryz.underlying117;have a72:=Tryz.isAgg117;have z72:=Tryz.sizeOf117;have v72:=Tryz.zeroValue117;have u72:=run_underlying t72;have t70:=Tryz.underlying114;have a70:=Tryz.isAgg114;have z70:=Tryz.sizeOf114;have v70:=Tryz.zeroValue114;have u70:=run_underlying t70;have t4:=Tryz.underlying4;have a4:=Tryz.isAgg4;have z4:=Tryz.sizeOf4;have v4:=Tryz.zeroValue4;have u4:=run_underlying t4;have t164:=Tryz.underlying224;have a164:=Tryz.isAgg224;have z164:=Tryz.sizeOf224;have v164:=Tryz.zeroValue224;have u164:=run_underlying t164
 go_enter Tryz.func106,Tryz.ntmps106
 go_wp2
 rw[Lib.run_to_unsafe w ⟨b,0,none⟩ t70 t164 hj (by rw[hjs];decide) hsh (Nat.zero_lt_succ 1)];simp only[Result.andThen];rw[Oper.upon_value]
 go_wp2
 rw[run_callFunc_extern Tryz.func164 kF kF kF (e:=Extern.AbiNoEscape.same) kF];rw[Lib.run_noEscape];simp only[Result.andThen];rw[Oper.upon_value]
 go_wp2
 rw[Lib.run_from_unsafe w ⟨b,0,none⟩ t164 t70 hj hsh Tryz.aci];simp only[Result.andThen];rw[Oper.upon_value]
 go_wp2
 go_end0
 exact⟨rfl,rfl⟩

theorem Tryz.Yu(B b:Nat)(bs:List Value)(w:World)(h:Lib.IsBuilderF 117 5 B b bs w):
  Calls Tryz.prog 106 #[.pointer (some ⟨b,0,none⟩)] w fun e w'=>e= .returned (.tuple #[])/\(Lib.BuilderAtF 117 5 B b (.pointer (some ⟨b,0,none⟩)) bs w'/\Below B w w'/\Lib.OthersKept 5 (some b) w w'):=by
 rcases h with h|h
 ·refine(Tryz.HF b w h.cell0 h.shape h.frozen0).mono ?_;rintro e w' ⟨rfl,rfl⟩;exact⟨rfl,h.used _,(Below.refl B w).setCell (p:=⟨b,0,none⟩) h.1 _,(Lib.OthersKept.refl _ _ w).setCell ⟨b,0,none⟩ rfl _⟩
 ·refine(Tryz.Kf b w h.cell0).mono ?_;rintro e w' ⟨rfl,rfl⟩;exact⟨rfl,h,Below.refl B _,Lib.OthersKept.refl _ _ _⟩

set_option maxHeartbeats 2000000 in
set_option maxRecDepth 100000 in
theorem Tryz.BA(B b:Nat)(bs:List Value)(s:ByteArray)(w:World)(h:Lib.IsBuilderF 117 5 B b bs w)(hlen:bs.length+s.size<=140737488355328)(hBw:B<=w.heap.size):
  Calls Tryz.prog 49 #[.pointer (some ⟨b,0,none⟩),.string s] w fun e w'=>e= .returned (.tuple #[.int .i64 s.size,.nilIface])/\(Lib.BuilderAtF 117 5 B b (.pointer (some ⟨b,0,none⟩)) (bs++Lib.strCells s) w'/\Below B w w'/\Lib.OthersKept 5 (some b) w w'):=by
 obtain⟨i0,hi,hz0,hz1,hz2⟩:=info_parts Tryz.bInfo;have mixed:=Tryz.Ke;have t72:=Tryz.underlying117;have a72:=Tryz.isAgg117;have z72:=Tryz.sizeOf117;have v72:=Tryz.zeroValue117;have u72:=run_underlying t72;have t70:=Tryz.underlying114;have a70:=Tryz.isAgg114;have z70:=Tryz.sizeOf114;have v70:=Tryz.zeroValue114;have u70:=run_underlying t70;have t37:=Tryz.underlying115;have a37:=Tryz.isAgg115;have z37:=Tryz.sizeOf115;have v37:=Tryz.zeroValue115;have u37:=run_underlying t37;have t3:=Tryz.underlying3;have a3:=Tryz.isAgg3;have z3:=Tryz.sizeOf3;have v3:=Tryz.zeroValue3;have u3:=run_underlying t3;have t9:=Tryz.underlying9;have a9:=Tryz.isAgg9;have z9:=Tryz.sizeOf9;have v9:=Tryz.zeroValue9;have u9:=run_underlying t9;have t4:=Tryz.underlying4;have a4:=Tryz.isAgg4;have z4:=Tryz.sizeOf4;have v4:=Tryz.zeroValue4;have u4:=run_underlying t4;have t5:=Tryz.underlying5;have a5:=Tryz.isAgg5;have z5:=Tryz.sizeOf5;have v5:=Tryz.zeroValue5;have u5:=run_underlying t5;have e240:∀args w,(callFunc 106 args).run Tryz.prog w= .ok (.enter 106 args) w:=enters_of Tryz.func106 kF rfl
 go_enter Tryz.func49,Tryz.ntmps49
 go_wp2_with (go_at_fn 106;refine(Tryz.Yu B b bs _ h).mono ?_)
 rintro e w1 ⟨rfl,h1,hb1,hk1⟩;obtain⟨hB,v,hbk,hown,hne⟩:=h1;have c0:w1.cell? ⟨b,0,none⟩=some (.pointer (some ⟨b,0,none⟩)):=by rw[Lib.cell_of_heap hbk];rfl
 have c1:w1.cell? ⟨b,1,none⟩=some v:=by rw[Lib.cell_of_heap hbk];rfl
 go_wp2_with (at_builtin;refine Lib.wpList_append_own_stringF _ rfl _ _ 115 9 rfl B 5 i0 t37 t9 hi hz0 hz1 hz2 _ _ _ rfl hown s rfl ?c3 ?c4 ?c5 ?_)
 case c3=>unfold maxLen;omega
 case c4=>omega
 case c5=>have:=hb1.size;omega
 intro v' w2 hown' hgrow _;have hlt:b<w1.heap.size:=by
  rcases Hm b w1.heap.size with h'|h'
  ·exact h'
  ·simp[ui h']at hbk
 have hb2:w2.heap[b]? =some (.cells #[.pointer (some ⟨b,0,none⟩),v] 117 (0,0)):=by
  rw[hgrow.block b hlt (fun e=>hne e.symm)];exact hbk
 have d0:w2.cell? ⟨b,0,none⟩=some (.pointer (some ⟨b,0,none⟩)):=by rw[Lib.cell_of_heap hb2];rfl
 have d1:w2.cell? ⟨b,1,none⟩=some v:=by rw[Lib.cell_of_heap hb2];rfl
 have f1:w2.frozen? ⟨b,1,none⟩=false:=Lib.frozen_of_heap hb2 1;obtain⟨ao,n',cap,rfl⟩:∃ao n' cap,v'= .slice ao n' cap:=by
  rcases hown'.2 with⟨hv,_⟩|⟨g,cap,cur,fz,hv,_⟩
  ·exact⟨_,_,_,hv⟩
  ·exact⟨_,_,_,hv⟩
 go_wp2
 go_ret2
 refine⟨rfl,?_,?_,(hk1.grown hgrow (Lib.ownsRowF_kind hown)).setCell ⟨b,1,none⟩ rfl _⟩
 ·exact Lib.BuilderAtF.put (T:=117) (e:=5) hB hb2 (bs':=bs++Lib.strCells s) (by simpa[Lib.strCells_length]using hown') dc
 ·exact(hb1.grown hgrow (by have:=hb1.size;omega) (fun k hk=>(hown.lt k hk).1)).setCell (p:=⟨b,1,none⟩) hB _
end Go.Proofs

open Go.Proofs.YtbcojgcjjpggnaaGreatDoor
namespace Go.Proofs
open Go.Shelf Go.RowKit Go.Sort Go.Lib

theorem Tryz.Yv(w:World)(T:TypeId)(nd:Nat)(hs:nd<=24):Holds (fun(b:UInt8)=>Value.int .u8 (b.toNat:Int)) (w.alloc (.cells zeros24 T)) w.heap.size 0 (Array.replicate nd (0:UInt8)):=fun j hj=>by
 have hj':j<nd:=by simpa using hj
 refine⟨?_,World.frozen?_alloc_new _ _ _ _⟩;rw[World.cell?_alloc_new,zeros24_at _ om,getElem!_pos _ j hj];simp
theorem Tryz.TP(w:World)(o:Obj)(dk:Array UInt8)(k:Nat):∃os,(putRow (fun(b:UInt8)=>Value.int .u8 (b.toNat:Int)) (w.alloc o) w.heap.size 0 dk).drewN k=grow (w.drewN k) os:=by
 rw[alloc_eq_grow];obtain⟨os',_,e⟩:=putRow_grow_new (fun(b:UInt8)=>Value.int .u8 (b.toNat:Int)) w #[o] w.heap.size 0 dk lf;exact⟨os',by rw[e];rfl⟩

set_option maxHeartbeats 6400000 in
set_option maxRecDepth 100000 in
theorem Tryz.agK(u:Nat)(hu64:u<18446744073709551616)(w:World)
  (htab : Lib.TabIs Tryz.prog w "internal/strconv.uint64pow10" .u64 Lib.pow10Tab) :
  Calls Tryz.prog 321 #[.int .u64 u,.int .i64 10] w fun e w'=>e= .returned (.string ⟨(Lib.decDigits u).toArray⟩)/\∃k os,w'=grow (w.drewN k) os:=by
 have mixed:Tryz.prog.follows .mixedOrders=true:=kF;have t3:=Tryz.underlying3;have a3:=Tryz.isAgg3;have z3:=Tryz.sizeOf3;have v3:=Tryz.zeroValue3;have t9:=Tryz.underlying9;have a9:=Tryz.isAgg9;have z9:=Tryz.sizeOf9;have v9:=Tryz.zeroValue9;have t4:=Tryz.underlying4;have a4:=Tryz.isAgg4;have z4:=Tryz.sizeOf4;have v4:=Tryz.zeroValue4;have t171:=Tryz.underlying262;have a171:=Tryz.isAgg262;have z171:=Tryz.sizeOf262;have v171:=Tryz.zeroValue262;have t53:=Tryz.underlying230;have a53:=Tryz.isAgg230;have z53:=Tryz.sizeOf230;have v53:=Tryz.zeroValue230;have t37:=Tryz.underlying115;have a37:=Tryz.isAgg115;have z37:=Tryz.sizeOf115;have v37:=Tryz.zeroValue115;have t5:=Tryz.underlying5;have a5:=Tryz.isAgg5;have z5:=Tryz.sizeOf5;have v5:=Tryz.zeroValue5;have e1:∀args w,(callFunc 199 args).run Tryz.prog w= .ok (.enter 199 args) w:=enters_of Tryz.func199 kF rfl
 have e2:∀args w,(callFunc 200 args).run Tryz.prog w= .ok (.enter 200 args) w:=enters_of Tryz.func200 kF rfl
 have e3:∀args w,(callFunc 201 args).run Tryz.prog w= .ok (.enter 201 args) w:=enters_of Tryz.func201 kF rfl
 by_cases hs:u<100
 ·go_enter Tryz.func321,Tryz.ntmps321
  go_wp2_with (go_at_fn 199;refine(Tryz.internal_strconv_small u hs _).mono ?_;rintro e w' ⟨rfl,rfl⟩)
  go_ret
  exact⟨rfl,0,#[],by simp[World.drewN_zero]⟩
 ·have hu1:1<=u:=om;have hnd20:Lib.nDigits u<=20:=by have:=Lib.numDigits_eq u hu1 hu64;split at this<;>omega
  have hal:Tryz.prog.arrayLen 262=24:=kF;have hsl1:∀W,(Instr.sliceAt 262 (.pointer (some ⟨w.heap.size,0,none⟩)) none (some (.int .i64 (Lib.nDigits u:Int))) none).run Tryz.prog W= .ok (.slice (some ⟨w.heap.size,0,none⟩) (Lib.nDigits u) 24) W:=fun W=>by
   rw[run_sliceAt_array_h W 262 ⟨w.heap.size,0,none⟩ (by rw[hal];exact t171) .i64 (Lib.nDigits u:Int) om (by rw[hal];omega)];rw[hal]
   go_simp
  have hH0:=Tryz.Yv w 262 (Lib.nDigits u) om;have hfmt:=Tryz.internal_strconv_formatBase10 w.heap.size 0 24 u (Array.replicate (Lib.nDigits u) 0) (w.alloc (.cells Lib.zeros24 262)) hH0 (by rw[Kz];exact Lib.lt_pow_nDigits u) hu64 (by rw[Kz];omega);rw[Kz]at hfmt;have HH0:=Lib.hid hH0;clear hH0 hal
  go_enter Tryz.func321,Tryz.ntmps321
  go_wp2_with (first
   |(go_at_fn 200;refine(Tryz.internal_strconv_numDigits u hu1 hu64 _ (Lib.tabIs_alloc htab _)).mono ?_;rintro e w' ⟨rfl,rfl⟩))
  go_at_fn 201
  refine hfmt.mono ?_;rintro e w' ⟨rfl,k,v',dk,rfl,hF⟩;have hcv:(convert 115 9 (.slice (some ⟨w.heap.size,0,none⟩) (Lib.nDigits u) 24)).run Tryz.prog ((putRow (fun(b:UInt8)=>Value.int .u8 (b.toNat:Int)) (w.alloc (.cells Lib.zeros24 262)) w.heap.size 0 dk).drewN k)= .ok (.string ⟨(Lib.decDigits u).toArray⟩) ((putRow (fun(b:UInt8)=>Value.int .u8 (b.toNat:Int)) (w.alloc (.cells Lib.zeros24 262)) w.heap.size 0 dk).drewN k):=by
   have h:=run_convert_bytes_back (P:=Tryz.prog) ((putRow (fun(b:UInt8)=>Value.int .u8 (b.toNat:Int)) (w.alloc (.cells Lib.zeros24 262)) w.heap.size 0 dk).drewN k) 115 9 5 ⟨w.heap.size,0,none⟩ 24 (Lib.decDigits u) t37 t5 t9 (fun j hj=>by
    rw[Lib.row_is_numeral hF j hj,Lib.add_plain,World.cell?_drewN];exact cell?_putRow (fun(b:UInt8)=>Value.int .u8 (b.toNat:Int)) _ w.heap.size 0 _ dk HH0.out (by rw[hF.size,Kz]) j (by rw[hF.size];rw[Lib.decDigits_length]at hj;exact hj))
   rw[Lib.decDigits_length]at h;exact h
  go_wp2
  go_ret
  obtain⟨os,eo⟩:=Tryz.TP w (.cells Lib.zeros24 262) dk k;exact⟨rfl,k,os,eo⟩

set_option maxRecDepth 100000 in
theorem Tryz.Kg(u:Nat)(hu64:u<18446744073709551616)(w:World)
  (htab : Lib.TabIs Tryz.prog w "internal/strconv.uint64pow10" .u64 Lib.pow10Tab) :
  Calls Tryz.prog 306 #[.int .u64 u,.int .i64 10] w fun e w'=>e= .returned (.string ⟨(Lib.decDigits u).toArray⟩)/\∃k os,w'=grow (w.drewN k) os:=by
 have mixed:Tryz.prog.follows .mixedOrders=true:=kF;have t3:=Tryz.underlying3;have a3:=Tryz.isAgg3;have z3:=Tryz.sizeOf3;have v3:=Tryz.zeroValue3;have t9:=Tryz.underlying9;have a9:=Tryz.isAgg9;have z9:=Tryz.sizeOf9;have v9:=Tryz.zeroValue9;have t53:=Tryz.underlying230;have a53:=Tryz.isAgg230;have z53:=Tryz.sizeOf230;have v53:=Tryz.zeroValue230;have e246:∀args w,(callFunc 321 args).run Tryz.prog w= .ok (.enter 321 args) w:=enters_of Tryz.func321 kF rfl
 go_enter Tryz.func306,Tryz.ntmps306
 go_wp2_with (go_at_fn 321;refine(Tryz.agK u hu64 _ htab).mono ?_;rintro e w' ⟨rfl,k,os,rfl⟩)
 go_ret
 exact⟨rfl,k,os,rfl⟩
end Go.Proofs

set_option maxRecDepth 100000
set_option maxHeartbeats 4000000
namespace Go.Proofs.YtbcojgcjjpggnaaGreatDoor.F
open Go Go.RowKit Go.Proofs Go.Proofs.YtbcojgcjjpggnaaGreatDoor.Vc
open Tryz
variable {A C D E G H J K A0 A1 A2 A3 A4 A5 A6 A7 A8 A9 C0 C1 C2 C3 C4 C5 C6 C7 C8 C9:O} {a b c d e f g i j l m n o a0 a1 a2 a3 a4 a5 a6 a7 a8 a9 b0 b1 b2 b3 b4 b5 b6 b7 b8 b9 c0 c1 c2 c3 c4 c5 c6 c7 c8 c9:Nat} {p q r s t u v x p0 p1 p2 p3 p4 p5 p6 p7 p8 p9 q0 q1 q2 q3 q4 q5 q6 q7 q8 q9:Int} {L M N N0 N1 N2 N3 N4 N5 N6 N7 N8 N9 T0 T1 T2 T3 T4 T5 T6 T7 T8 T9:ByteArray} {Q S:Bool} {B:Nat} {w:World} {R:Kt}
def strconv_Itoa.cx:Pm:=([],[])
theorem strconv_Itoa.vc
  (h:(Pure P 107 #[I p] w (Rt fun a b=>(R (.string a) b)))):
  Pure P 50 #[I p] w R:=
 pr strconv_Itoa.cx func50 h

def fI.L3(a:Int)(b:O)(c d:Nat)(e f:Int):=Lt 102 f102 3 [vI 3 a,vS 6 b c d,vI 7 e,vI 8 f] []
def fI.cx:Pm:=([((true,3),[3,6,7,8],[])],[])
theorem fI.L3.step
  (h:(Br (p<r) (Ix p a A fun d=>(∃c,aa w (d.add ((p).toNat*1)) [I c]/\(Br (c≠q) (R (I c) w) (aS .i64 (p+1)/\(fI.L3 q A a b r (p+1) B w R))))) (R (I q) w))):
  fI.L3 q A a b r p B w R:=
 lr fI.cx func102 h
theorem fI.vc
  (h:(fI.L3 (0:Int) A a b (a:Int) (0:Int) w.heap.size w R)):
  Pure P 102 #[.slice A a b] w R:=
 pr fI.cx func102 h

def cmp_Compare_int.cx:Pm:=([],[])
theorem cmp_Compare_int.vc
  (h:(Pure P 162 #[I p] w (Rb fun c d=>(Pure P 162 #[I q] d (Rb fun b a=>(Bb c (Bb b (R (I 0) a) (R (I (-1:Int)) a)) (Bb b (R (I 1) a) (Br (p<q) (R (I (-1:Int)) a) (Br (p>q) (R (I 1) a) (R (I 0) a)))))))))):
  Pure P 103 #[I p,I q] w R:=
 pr cmp_Compare_int.cx func103 h

def cmp_isNaN_int.cx:Pm:=([],[])
theorem cmp_isNaN_int.vc
  (h:(R (.bool (decide (p≠p))) w)):
  Pure P 162 #[I p] w R:=
 pr cmp_isNaN_int.cx func162 h

def strings_Cut.cx:Pm:=([],[])
theorem strings_Cut.vc
  (h:(Pure P 221 #[.string L,.string M] w fun d e=>∃a b c,d= .tuple #[.string a,.string b,.bool c]/\(R (.tuple #[.string a,.string b,.bool c]) e))):
  Pure P 176 #[.string L,.string M] w R:=
 pr strings_Cut.cx func176 h

def lU.cx:Pm:=([],[(1,1,1)])
theorem lU.vc
  (h:(qY .u32 (bits .and .u64 (IntKind.wrap .u64 (p)) (31:Int))/\(aS .u64 ((32:Int) - (bits .and .u64 (IntKind.wrap .u64 (p)) (31:Int)))/\(qY .u32 ((32:Int) - (bits .and .u64 (IntKind.wrap .u64 (p)) (31:Int)))/\(R (.int .u32 (bits .or .u32 (wA .u32 q (bits .and .u64 (IntKind.wrap .u64 (p)) (31:Int))) (nB q ((32:Int) - (bits .and .u64 (IntKind.wrap .u64 (p)) (31:Int)))))) w))))):
  Pure P 246 #[.int .u32 q,I p] w R:=
 pr lU.cx func246 h

def strings_CutPrefix.cx:Pm:=([],[])
theorem strings_CutPrefix.vc
  (h:(Pure P 288 #[.string L,.string M] w fun c d=>∃a b,c= .tuple #[.string a,.bool b]/\(R (.tuple #[.string a,.bool b]) d))):
  Pure P 264 #[.string L,.string M] w R:=
 pr strings_CutPrefix.cx func264 h

def kM.cx:Pm:=([],[])
theorem kM.vc
  (h:(Pure P 342 #[.int .u32 p] w (Rb fun c d=>(Pure P 342 #[.int .u32 q] d (Rb fun b a=>(Bb c (Bb b (R (I 0) a) (R (I (-1:Int)) a)) (Bb b (R (I 1) a) (Br (p<q) (R (I (-1:Int)) a) (Br (p>q) (R (I 1) a) (R (I 0) a)))))))))):
  Pure P 326 #[.int .u32 p,.int .u32 q] w R:=
 pr kM.cx func326 h

def mF.cx:Pm:=([],[])
theorem mF.vc
  (h:(R (.bool (decide (p≠p))) w)):
  Pure P 342 #[.int .u32 p] w R:=
 pr mF.cx func342 h

end Go.Proofs.YtbcojgcjjpggnaaGreatDoor.F

namespace Go.Proofs.YtbcojgcjjpggnaaGreatDoor.B
open Go Go.RowKit Go.Proofs Go.Proofs.YtbcojgcjjpggnaaGreatDoor.Vc

theorem nk.load{w:World}{A:Option Addr}{ws:List Nat}{n:Nat}(h:nk w A ws)(hl:ws.length=n){j:Int}(c:0<=j)(h1:j<n){K:Int->Prop}(k:K (ws.getD j.toNat 0:Nat)):
  (0<=j/\j<n)/\∃a,A=some a/\∃i:Int,aa w (a.add (j.toNat*1)) [.int .u32 i]/\K i:=by
 obtain⟨a,d,x,hx,e⟩:=h.cell c om;refine⟨⟨c,h1⟩,a,d,_,e,?_⟩;rw[cb,hx]at k;exact k

theorem eS.store{w:World}{B:Nat}{A:Option Addr}{n c:Nat}{ws:List Nat}(ho:eS w B A n c ws){j x:Int}(y:0<=j)(h1:j<n)(hx:0<=x){d:List rJ}(hb:hasType 227 d=false){K:World->Prop}
  (h:∀w1,eS w1 B A n c (ws.set j.toNat x.toNat)->Below B w w1->(∀k,some k≠Value.ownBlock (.slice A n c)->w1.heap[k]? =w.heap[k]?)->K w1):
  (0<=j/\j<n)/\∃a,A=some a/\∃(cs:List Value)(t:Nat),B<=(a.add (j.toNat*1)).block/\(a.add (j.toNat*1)).spot=none/\w.heap[(a.add (j.toNat*1)).block]? =some (.cells cs.toArray t (0,0))/\
   (a.add (j.toNat*1)).off+1<=cs.length/\hasType t d=false/\∀w1,aC w w1 (a.add (j.toNat*1)).block t (setCells cs (a.add (j.toNat*1)).off [.int .u32 x])->K w1:=by
 have hl:=ho.len;refine⟨⟨y,h1⟩,?_⟩;have z:∃a,A=some a:=by
  rcases ho.2 with⟨e,i⟩|⟨g,cap,cur,e,_⟩
  ·omega
  ·cases e;exact⟨_,rfl⟩
 obtain⟨a,rfl⟩:=z;obtain⟨cs,l,m,o,q,C,D⟩:=vO ho (off:=j.toNat) (vs:=[.int .u32 x]) (by simp[nY];omega);obtain⟨b,off,sp⟩:=a;simp only at l m o q;subst m o;refine⟨_,rfl,cs,227,?_⟩;rw[jw];simp only[Cy,jx];refine⟨l,trivial,q,by simpa using C,hb,fun w1 hw=> ?_⟩;refine h w1 ?_ ⟨hw.os,hw.tape,hw.output,by rw[hw.size];exact fs _,fun k r=>hw.rest k om⟩ fun k r=>hw.rest k fun e=>r (by simp[Value.ownBlock,e])
 have:=D w1 hw;unfold eS;have e:(x.toNat:Int)=x:=om;have i:nY (ws.set j.toNat x.toNat)=setCells (nY ws) j.toNat [.int .u32 x]:=by simp[nY,setCells,Cd,e]
 rw[i];exact this

theorem yx:∀(l:List Nat)(j x:Nat),j<l.length->wv (l.set j x)+1000000000^j*l.getD j 0=wv l+1000000000^j*x:=by
 intro l;induction l with
 |nil=>intro j x h;simp at h
 |cons y r ih=>
  intro j x h;cases j with
  |zero=>simp[wv];omega
  |succ j=>
   have:=ih j x (by simpa using h);simp only[List.set_cons_succ,wv,List.getD_cons_succ,kc];grind
theorem Small.set{l:List Nat}(h:Small l){j x:Nat}(hx:x<1000000000):Small (l.set j x):=fun y hy=>by
 rcases By hy with h1|rfl
 ·exact h y h1
 ·exact hx
theorem Fv(n:Nat):wv (List.replicate n 0)=0:=by
 induction n with
 |zero=>rfl
 |succ n ih=>simp[MC,wv,ih]

def PZ(w:World)(B:Nat)(A:Option Addr)(n c x:Nat):Prop:=∃ws,eS w B A n c ws/\Small ws/\Norm ws/\wv ws=x
theorem eS.take{w:World}{B:Nat}{A:Option Addr}{n c:Nat}{ws:List Nat}(h:eS w B A n c ws){m:Nat}(hm:m<=n)(hn:A≠none∨m=n):eS w B A m c (ws.take m):=by
 have hl:=h.len;refine⟨by simp[nY];omega,?_⟩;rcases h.2 with⟨e,o⟩|⟨g,cap,cur,e,h1,d,q,i,j,k⟩
 ·cases e;have l:m=0:=om;subst l;exact .inl ⟨rfl,rfl⟩
 ·cases e;refine .inr ⟨g,c,cur,rfl,h1,d,om,i,j,?_⟩;have:(nY ws).take m=nY (ws.take m):=by simp[nY,En]
  rw[<-this,<-k,RR,Cy,Cy,lO hm]

theorem mG{w:World}{B:Nat}{A:Option Addr}{n c:Nat}{ws:List Nat}(h:eS w B A n c ws)(hn:n<2147483648)(hs:Small ws):
  Pure Tryz.prog 304 #[.slice A n c] w fun v w'=>w'=w/\∃m,v= .slice A m c/\PZ w B A m c (wv ws)/\iF w A m c (wv ws):=
 pm (lT h.sl h.len h.cap hn hs) fun v w' _ ⟨e,m,d,i,j,k,l⟩=>⟨e,m,d,⟨ws.take m,h.take j (by
  rcases h.2 with⟨e,d⟩|⟨g,cap,cur,e,_⟩
  ·right;omega
  ·cases e;exact .inl sm),hs.take m,k,l⟩,i⟩

theorem nk.av{w w':World}{A:Option Addr}{ws:List Nat}{B:Nat}(h:nk w A ws)(hb:Below B w w')(hB:w.heap.size<=B):nk w' A ws:=h.below (hb.mono hB)

theorem El.Fw:(Tryz.prog.info? 227).bind (·.zero)=some (.int .u32 0):=kF

section
variable {w0:World} {A1 A0:Option Addr} {n1 c1 n0 c0:Nat} {a b:List Nat} {R:Value->World->Prop}

structure BB (w:World) (B:Nat) (A:Option Addr) (n c:Nat) (ws:List Nat) (k:Nat):Prop where
 own:eS w B A n c ws
 small:Small ws
 zero:∀j,k<=j->ws.getD j 0=0

theorem HG(hb:nk w0 A1 b)(J:b.length=n1)(K:Small b){i x:Nat}(hx:x<1000000000){n:Nat}(hn:i+n1<n)(U:n<=1000000){A:Option Addr}{c:Nat}{m:Int}{base:Nat}
  (L:∀w ws,BB w w0.heap.size A n c ws (i+1+n1)->Below w0.heap.size w0 w->wv ws=base+1000000000^i*x*wv b->
   F.bb.L3 A1 n1 c1 A n c A0 n0 c0 m ((i:Int)+1) w0.heap.size w R):
  ∀(d k:Nat)(w:World)(ws:List Nat)(s:Nat),n1 - k=d->k<=n1->BB w w0.heap.size A n c ws (i+n1)->Below w0.heap.size w0 w->s<1000000000->
   wv ws+1000000000^(i+k)*s=base+1000000000^i*x*wv (b.take k)->
   F.bb.L7 A1 n1 c1 A n c i x s A0 n0 c0 m i A1 n1 c1 n1 k w0.heap.size w R:=by
 intro d;induction d with
 |zero=>
  intro k w ws s M N inv hw hs he;have B:k=n1:=om;subst B;have O:b.take k=b:=cd om;rw[O]at he;refine F.bb.L7.step ⟨fun h=>by omega,fun _=>⟨ir,ir,?_⟩⟩;refine inv.own.store om om om rfl fun w1 g C _=>⟨ir,?_⟩
  have e:((i:Int)+(k:Int)).toNat=i+k:=om;rw[e,cc]at g;have hl:=inv.own.len;have o:=yx ws (i+k) s om;rw[inv.zero (i+k) lf]at o;refine L w1 _ ⟨g,inv.small.set hs,fun j hj=> ?_⟩ (hw.trans C) om;rw[cb,KJ om,<-cb];exact inv.zero j om
 |succ d ih=>
  intro k w ws s M N inv hw hs he;have hl:=inv.own.len;have S:=K.getD k;have go:=inv.small.getD (i+k);have e:((i:Int)+(k:Int)).toNat=i+k:=om;obtain⟨y,hy⟩:∃y,y=b.getD k 0:=⟨_,rfl⟩
  obtain⟨z,hz⟩:∃z,z=ws.getD (i+k) 0:=⟨_,rfl⟩
  rw[<-hy]at S;rw[<-hz]at go;have D:x*y<=999999999*999999999:=u0 om om;have l:(x:Int)*(y:Int)=((x*y:Nat):Int):=by simp
  refine F.bb.L7.step ⟨fun _=> ?_,fun h=>by omega⟩;refine(hb.av hw lf).load J om om ?_;rw[cc,<-hy,l];refine⟨ir,ir,ir,ir,?_⟩;refine inv.own.sl.load hl om om ?_;rw[e,<-hz];refine⟨ir,ir,ir,ir,om,ir,?_⟩;rw[<-e];refine inv.own.store om om om rfl fun w1 g C _=>⟨⟨om,om,ir⟩,ir,?_⟩
  obtain⟨t,T⟩:∃t:Nat,t=s+(x*y+z):=⟨_,rfl⟩
  have E:(s:Int)+(((x*y:Nat):Int)+(z:Int))=((t:Nat):Int):=om;rw[E]at g⊢;have G:((t:Int) % 1000000000).toNat=t % 1000000000:=om;have H:(t:Int) / 1000000000=((t / 1000000000:Nat):Int):=om;have I:=sc k;rw[e,G]at g;rw[H,I];have o:=yx ws (i+k) (t % 1000000000) om;rw[<-hz]at o;refine ih (k+1) w1 _ (t / 1000000000) om om ⟨g,inv.small.set om,fun j hj=> ?_⟩ (hw.trans C) om ?_
  ·rw[cb,KJ om,<-cb];exact inv.zero j om
  ·rw[fq,<-hy];have hm:t % 1000000000+1000000000*(t / 1000000000)=s+(x*y+z):=om;rw[show i+(k+1)=(i+k)+1 from rfl,kc];have hp:1000000000^(i+k)=1000000000^i*1000000000^k:=Nat.pow_add _ _ _;generalize t % 1000000000=r at*;generalize t / 1000000000=q at*;generalize wv (ws.set (i+k) r)=X at*;generalize wv ws=W at*;generalize wv (List.take k b)=V at*;rw[hp]at o he⊢;generalize 1000000000^i=P at*;generalize 1000000000^k=Q at*;clear D l E G H I g hz hy T;grind

theorem HH(ha:nk w0 A0 a)(e:a.length=n0)(k:Small a)(hb:nk w0 A1 b)(l:b.length=n1)(o:Small b){A:Option Addr}{n c:Nat}(hn:n=n0+n1)(q:n<=1000000)
  (r:∀m w,iF w A m c (wv a*wv b)->PZ w w0.heap.size A m c (wv a*wv b)->Below w0.heap.size w0 w->R (.slice A m c) w):
  ∀(d i:Nat)(w:World)(ws:List Nat),n0 - i=d->i<=n0->BB w w0.heap.size A n c ws (i+n1)->Below w0.heap.size w0 w->wv ws=wv (a.take i)*wv b->
   F.bb.L3 A1 n1 c1 A n c A0 n0 c0 n0 i w0.heap.size w R:=by
 intro d;induction d with
 |zero=>
  intro i w ws x hi inv hw he;have ea:a.take i=a:=cd om;rw[ea]at he;refine F.bb.L3.step ⟨fun h=>by omega,fun _=> ?_⟩;refine pm (mG inv.own om inv.small) ?_;rintro v y z ⟨rfl,m,rfl,h,j⟩;rw[he]at h j;exact⟨A,m,c,rfl,r m y j h hw⟩
 |succ d ih=>
  intro i w ws x hi inv hw he;refine F.bb.L3.step ⟨fun _=> ?_,fun h=>by omega⟩;refine(ha.av hw lf).load e om om ?_;rw[cc];refine HG hb l o (k.getD i) om q (base:=wv ws) (fun w1 g B C D=> ?_) n1 0 w ws 0 om om inv hw om (by simp[wv]);have E:=sc i;rw[E];refine ih (i+1) w1 g om om B C ?_;rw[D,he,fq,nG]
end

theorem ql{w:World}{A0 A1:Option Addr}{n0 c0 n1 c1 x y:Nat}(ha:iF w A0 n0 c0 x)(hb:iF w A1 n1 c1 y)(hx:x<fy)(hy:y<fy):
  Pure Tryz.prog 295 #[.slice A0 n0 c0,.slice A1 n1 c1] w fun v w'=>∃A n c,v= .slice A n c/\iF w' A n c (x*y)/\PZ w' w.heap.size A n c (x*y):=by
 have r:=ha.len hx;have l1:=hb.len hy;obtain⟨a,g,a2,a3,a4,a5,z,rfl⟩:=ha;obtain⟨b,h,i,B,C,k,D,rfl⟩:=hb;refine F.bb.vc ⟨ir,?_⟩;refine rZ qk El.Fw rfl om om lf fun A n e hn l _ o=> ?_
 have d:eS e w.heap.size A n n (List.replicate n 0):=by
  unfold eS;have:nY (List.replicate n 0)=List.replicate n (.int .u32 0):=by simp[nY]
  rw[this];exact l
 refine HH g a2 a5 h i k om om (fun m E h1 q G=>⟨A,m,n,rfl,h1,q⟩) n0 0 e _ rfl om ⟨d,fun x hx=>by rw[Cf hx];omega,fun j _=> ?_⟩ o ?_
 ·rw[cb,M0];split<;>rfl
 ·rw[Fv];simp[wv]

def js(a b:Int):Int:=if a<b then -1 else if a>b then 1 else 0

theorem Fx(a b:Int)(w:World):Pure Tryz.prog 103 #[.int .i64 a,.int .i64 b] w fun v _=>v= .int .i64 (js a b):=by
 have nan:∀(a:Int)(w:World),Pure Tryz.prog 162 #[.int .i64 a] w fun v _=>v= .bool false:=fun a w=>F.cmp_isNaN_int.vc sm
 refine F.cmp_Compare_int.vc (pm (nan _ _) ?_);rintro v d _ rfl;refine⟨false,rfl,pm (nan _ _) ?_⟩;rintro v e _ rfl;refine⟨false,rfl,fun h=>(by cases h),fun _=>⟨fun h=>(by cases h),fun _=>⟨fun h=>by simp[js,h],fun h=>⟨fun c=>by simp[js,h,c],fun c=>by simp[js,h,c]⟩⟩⟩⟩
theorem TQ(a b:Int)(w:World):Pure Tryz.prog 326 #[.int .u32 a,.int .u32 b] w fun v _=>v= .int .i64 (js a b):=by
 have nan:∀(a:Int)(w:World),Pure Tryz.prog 342 #[.int .u32 a] w fun v _=>v= .bool false:=fun a w=>F.mF.vc sm
 refine F.kM.vc (pm (nan _ _) ?_);rintro v d _ rfl;refine⟨false,rfl,pm (nan _ _) ?_⟩;rintro v e _ rfl;refine⟨false,rfl,fun h=>(by cases h),fun _=>⟨fun h=>(by cases h),fun _=>⟨fun h=>by simp[js,h],fun h=>⟨fun c=>by simp[js,h,c],fun c=>by simp[js,h,c]⟩⟩⟩⟩

theorem lV(l:List Nat)(j:Nat):wv (l.drop j)=l.getD j 0+1000000000*wv (l.drop (j+1)):=by
 by_cases h:j<l.length
 ·rw[dp h,wv,cb,af h];rfl
 ·rw[de om,de om,cb,hJ om];rfl
theorem lW(l:List Nat)(j:Nat)(h:j<=l.length):wv l=wv (l.take j)+1000000000^j*wv (l.drop j):=by
 conv=>lhs;rw[<-kl j l]
 rw[gw,eH,lO h]

theorem HI{a b:List Nat}(c:Small a){j:Nat}(ha:j<a.length)(hb:j<b.length)(d:a.drop (j+1)=b.drop (j+1))(h:a.getD j 0<b.getD j 0):wv a<wv b:=by
 rw[lW a j om,lW b j om,lV a,lV b,d];have h1:=pn (c.take j);rw[eH,lO om]at h1;have e:1000000000^j*(a.getD j 0+1+1000000000*wv (b.drop (j+1)))<=1000000000^j*(b.getD j 0+1000000000*wv (b.drop (j+1))):=hO _ om;have g:1000000000^j*(a.getD j 0+1+1000000000*wv (b.drop (j+1)))=1000000000^j+1000000000^j*(a.getD j 0+1000000000*wv (b.drop (j+1))):=by
  rw[show a.getD j 0+1+1000000000*wv (b.drop (j+1))=1+(a.getD j 0+1000000000*wv (b.drop (j+1))) by omega,oe,Cy]
 omega
theorem yz{a b:List Nat}(d:Small a)(c:Norm b)(h:a.length<b.length):wv a<wv b:=by
 have h1:=pn d;have e:=nX c (fun k=>by subst k;simp at h);have g:1000000000^a.length<=1000000000^(b.length - 1):=ft om om;omega

theorem Ext.acm{w w':World}{B:Nat}{A:Option Addr}{ws:List Nat}(h:nk w A ws)(he:Ext B [] w w'):nk w' A ws:=h.ext he sm

theorem Fy{w0:World}{A0 A1:Option Addr}{n0 c0 n1 c1:Nat}{a b:List Nat}{R:Value->World->Prop}(ha:nk w0 A0 a)(c:a.length=n0)(n:Small a)(hb:nk w0 A1 b)(j:b.length=n1)(o:Small b)(q:n0=n1)(hn:n0<=1000000)
  (k:∀w,R (.int .i64 (js (wv a) (wv b))) w):
  ∀(i:Nat)(w:World),i<=n0->Below w0.heap.size w0 w->a.drop i=b.drop i->F.bO.L4 A0 n0 c0 A1 n1 c1 ((i:Int) - 1) w0.heap.size w R:=by
 intro i;induction i with
 |zero=>
  intro w hi hw d;refine F.bO.L4.step ⟨fun h=>by omega,fun _=> ?_⟩;have:=k w;have e:a=b:=by simpa using d
  subst e;simpa[js]using this
 |succ i ih=>
  intro w hi hw d;have e:((i+1:Nat):Int) - 1=i:=om;rw[e];refine F.bO.L4.step ⟨fun _=> ?_,fun h=>by omega⟩;refine(ha.av hw lf).load c om om ?_;refine(hb.av hw lf).load j om om ?_;rw[cc];refine⟨fun h l g=> ?_,fun h=>⟨ir,fun l g=> ?_⟩⟩
  ·have m:=hw.trans g.below;refine(ha.av m lf).load c om om ?_;refine(hb.av m lf).load j om om fun z A=> ?_
   rw[cc];refine pm (TQ _ _ _) ?_;rintro v r _ rfl;refine⟨_,rfl,?_⟩;have:=k r;have x:js (a.getD i 0:Nat) (b.getD i 0:Nat)=js (wv a) (wv b):=by
    rcases(by omega:a.getD i 0<b.getD i 0∨b.getD i 0<a.getD i 0)with h1|h1
    ·have y:=HI n om om d h1;simp only[js];rw[bm om,bm om]
    ·have y:=HI o om om d.symm h1;simp only[js];rw[aq om,bm om,aq om,bm om]
   rw[x];exact this
  ·refine ih l om (hw.trans g.below) ?_;have h1:a.getD i 0=b.getD i 0:=om;rw[dp (by omega:i<a.length),dp (by omega:i<b.length),d]
   congr 1
   rw[cb,cb,af om,af om]at h1;exact h1

theorem nZ{w:World}{A0 A1:Option Addr}{n0 c0 n1 c1 x y:Nat}(ha:iF w A0 n0 c0 x)(hb:iF w A1 n1 c1 y)(hx:x<fy)(hy:y<fy):
  Pure Tryz.prog 308 #[.slice A0 n0 c0,.slice A1 n1 c1] w fun v _=>v= .int .i64 (js x y):=by
 have l:=ha.len hx;have l1:=hb.len hy;obtain⟨a,d,a2,a3,a4,a5,e,rfl⟩:=ha;obtain⟨b,g,i,m,n,c,j,rfl⟩:=hb;refine F.bO.vc ⟨fun h=>pm (Fx _ _ _) ?_,fun h=>⟨ir,?_⟩⟩
 ·rintro v o _ rfl;refine⟨_,rfl,?_⟩
  congr 1
  rcases(by omega:n0<n1∨n1<n0)with h1|h1
  ·have k:=yz a5 j om;simp only[js];rw[bm om,bm om]
  ·have k:=yz c e om;simp only[js];rw[aq om,bm om,aq om,bm om]
 ·refine Fy d a2 a5 g i c om om (fun w=>rfl) n0 w lf (Below.refl _ _) ?_;rw[de om,de om]

theorem M4{ws:List Nat}(hs:Small ws)(hn:Norm ws):ws.length<=2↔wv ws<1000000000000000000:=by
 constructor
 ·intro h;have h1:=pn hs;have a:1000000000^ws.length<=1000000000^2:=ft om h;omega
 ·intro h;apply bx;intro h1;have a:=nX hn (fun k=>by subst k;simp at h1);have b:1000000000^2<=1000000000^(ws.length - 1):=ft om om;omega

theorem kr{w:World}{A0:Option Addr}{n0 c0 x:Nat}(ha:iF w A0 n0 c0 x):
  Pure Tryz.prog 291 #[.slice A0 n0 c0] w fun v _=>v= .tuple #[.int .u64 (if x<1000000000000000000 then x else 0:Nat),.bool (decide (x<1000000000000000000))]:=by
 obtain⟨a,b,a2,a3,a4,a5,d,rfl⟩:=ha;have c:=M4 a5 d;refine F.lR.vc ⟨fun h=> ?_,fun h=>⟨fun h1=> ?_,fun h1=>⟨fun e=> ?_,fun e=> ?_⟩⟩⟩
 ·have:a=[]:=ew om;subst this;simp[wv]
 ·have g:a.getD (Int.toNat 0) 0<1000000000:=a5.getD 0;refine b.load a2 om om ⟨ir,?_⟩;obtain⟨x,rfl⟩:=ox.1 (by omega:a.length=1);have:x<1000000000000000000:=by simp at g;omega
  simp[wv,this]
 ·have g:a.getD (Int.toNat 0) 0<1000000000:=a5.getD 0;have g1:a.getD (Int.toNat 1) 0<1000000000:=a5.getD 1;refine b.load a2 om om ⟨ir,b.load a2 om om ⟨ir,ir,ir,fun i j=> ?_⟩⟩
  match a,(by omega:a.length=2)with
  |[x,y],_=>
   have:x+1000000000*y<1000000000000000000:=by simp at g g1;omega
   simp[wv,this]
 ·have:¬wv a<1000000000000000000:=fun k=>by have:=c.2 k;omega
  simp[this]

theorem iE{w:World}{x:Nat}(hx:x<1000000000000000000):
  Pure Tryz.prog 292 #[.int .u64 (x:Int)] w fun v w'=>∃A n c,v= .slice A n c/\iF w' A n c x:=by
 refine F.iE.vc ⟨om,ir,⟨om,om,ir⟩,ir,?_⟩;have g:=oP qk [.int .u32 ((x:Int) % 1000000000),.int .u32 ((x:Int) / 1000000000)] (by simp[Value.cells]) sm w;have hg:=World.grownBy_alloc w (.cells #[.int .u32 ((x:Int) % 1000000000),.int .u32 ((x:Int) / 1000000000)] 227) none;have a:=bN hg (B:=w.heap.size) sm lf;refine⟨_,_,g,a,a.size,fun k ty cs _ i=>hg.block k (ax.1 i).1 sm,_,_,_,rfl,?_⟩;have b:eS (w.alloc (.cells #[.int .u32 ((x:Int) % 1000000000),.int .u32 ((x:Int) / 1000000000)] 227)) w.heap.size (some ⟨w.heap.size,0,none⟩) 2 2 [x % 1000000000,x / 1000000000]:=by
  refine⟨by simp[nY],.inr ⟨w.heap.size,2,_,rfl,fs _,heap_alloc_new w _,fs _,by simp[maxLen],sm,by simp[nY]⟩⟩
 refine pm (mG b sm (Small.cons om (Small.cons om Small.nil))) ?_;rintro v l j ⟨rfl,m,rfl,h,d⟩;refine⟨_,_,_,rfl,_,_,_,rfl,?_⟩;have e:wv [x % 1000000000,x / 1000000000]=x:=by simp only[wv];omega
 rw[e]at d;exact d

theorem TR{w0:World}{A0:Option Addr}{n0 c0:Nat}{a:List Nat}{R:Value->World->Prop}(ha:nk w0 A0 a)(j:a.length=n0)(B:Small a)(hn:n0<=1000000){d:Nat}(k:0<d)(C:d<=1000000000){A:Option Addr}{c:Nat}
  (D:∀A n c A' n' c' w,iF w A n c (wv a / d)->iF w A' n' c' (wv a % d)->R (.tuple #[.slice A n c,.slice A' n' c']) w):
  ∀(i:Nat)(w:World)(ws:List Nat)(r:Nat),i<=n0->Below w0.heap.size w0 w->eS w w0.heap.size A n0 c ws->Small ws->r<d->wv (ws.drop i)*d+r=wv (a.drop i)->
   F.dh.L4 A0 n0 c0 d A n0 c r ((i:Int) - 1) w0.heap.size w R:=by
 intro i;induction i with
 |zero=>
  intro w ws r hi hw ho hs l he;refine F.dh.L4.step ⟨fun h=>by omega,fun _=> ?_⟩;refine pm (mG ho om hs) ?_;rintro v L E ⟨rfl,m,rfl,h,G⟩;refine⟨_,_,_,rfl,pm (iE om) ?_⟩;rintro v M o ⟨A3,n3,c3,rfl,H⟩;refine⟨_,_,_,rfl,?_⟩;simp only[Lb]at he;have I:wv a / d=wv ws:=by rw[<-he,Cb,Nat.mul_add_div k,SW l,tT]
  have J:wv a % d=r:=by rw[<-he,Cb,Nat.mul_add_mod,SX l]
  exact D _ _ _ _ _ _ _ (by rw[I];exact G.below o) (by rw[J];exact H)
 |succ i ih=>
  intro w ws r hi hw ho hs l he;have e:((i+1:Nat):Int) - 1=i:=om;have g:=B.getD i;rw[e];refine F.dh.L4.step ⟨fun _=>⟨ir,?_⟩,fun h=>by omega⟩;refine(ha.av hw lf).load j om om ?_;rw[cc];obtain⟨t,N⟩:∃t:Nat,t=r*1000000000+a.getD i 0:=⟨_,rfl⟩
  have y:(r:Int)*1000000000+((a.getD i 0:Nat):Int)=(t:Int):=om;have z:t / d<1000000000:=by
   rw[OT k];have:(r+1)*1000000000<=d*1000000000:=gr _ om;omega
  have eq:(t:Int) / (d:Int)=((t / d:Nat):Int):=by simp
  have em:(t:Int) % (d:Int)=((t % d:Nat):Int):=by simp
  have O:=Db t d;have b:=IQ t k;rw[y,eq,em];clear eq em;generalize t / d=q at*;generalize t % d=P at*;refine⟨ir,ir,⟨om,om,ir⟩,ir,?_⟩;refine ho.store om om om rfl fun w1 x K _=>⟨⟨om,om⟩,ir,?_⟩
  rw[cc,cc]at x;have hl:=ho.len;refine ih w1 _ _ om (hw.trans K) x (hs.set z) b ?_;rw[lV,lV a,<-he,SK,bm om];rw[cb,wI om];simp only[Option.getD_some];generalize wv (List.drop (i+1) ws)=V;clear y x z he b;grind

theorem BC{w:World}{A0:Option Addr}{n0 c0 x d:Nat}(ha:iF w A0 n0 c0 x)(o:n0<=1000000)(h:0<d)(e:d<=1000000000):
  Pure Tryz.prog 309 #[.slice A0 n0 c0,.int .u64 (d:Int)] w fun v w'=>∃A n c A' n' c',v= .tuple #[.slice A n c,.slice A' n' c']/\iF w' A n c (x / d)/\iF w' A' n' c' (x % d):=by
 obtain⟨a,j,a2,a3,a4,a5,q,rfl⟩:=ha;refine F.dh.vc ?_;refine rZ qk El.Fw rfl om om lf fun A n i hn k _ l=>⟨ir,?_⟩
 have g:n=n0:=om;subst g;have b:eS i w.heap.size A n n (List.replicate n 0):=by
  unfold eS;have:nY (List.replicate n 0)=List.replicate n (.int .u32 0):=by simp[nY]
  rw[this];exact k
 refine TR j a2 a5 om h e (fun A n c A' n' c' w h1 m=>⟨A,n,c,A',n',c',rfl,h1,m⟩) n i _ 0 lf l b (fun x hx=>by rw[Cf hx];omega) h ?_;rw[de sm,de om];simp[wv]
end Go.Proofs.YtbcojgcjjpggnaaGreatDoor.B
