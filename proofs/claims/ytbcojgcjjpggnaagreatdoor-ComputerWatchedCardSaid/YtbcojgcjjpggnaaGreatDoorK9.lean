/- Part 9 of the proofs that: What is stowed keeps the problem; lamps change by samples and by seeing alone. -/
import Derived.Test.YtbcojgcjjpggnaaGreatDoorK8
import Derived.Test.YtbcojgcjjpggnaaGreatDoorProg
set_option linter.unusedVariables false
set_option linter.unusedSimpArgs false
set_option maxRecDepth 100000
set_option maxHeartbeats 4000000
namespace Go.Proofs.YtbcojgcjjpggnaaGreatDoor.F
open Go Go.RowKit Go.Proofs Go.Proofs.YtbcojgcjjpggnaaGreatDoor.Vc
open Tryz
variable {A C D E G H J K A0 A1 A2 A3 A4 A5 A6 A7 A8 A9 C0 C1 C2 C3 C4 C5 C6 C7 C8 C9:O} {a b c d e f g i j l m n o a0 a1 a2 a3 a4 a5 a6 a7 a8 a9 b0 b1 b2 b3 b4 b5 b6 b7 b8 b9 c0 c1 c2 c3 c4 c5 c6 c7 c8 c9:Nat} {p q r s t u v x p0 p1 p2 p3 p4 p5 p6 p7 p8 p9 q0 q1 q2 q3 q4 q5 q6 q7 q8 q9:Int} {L M N N0 N1 N2 N3 N4 N5 N6 N7 N8 N9 T0 T1 T2 T3 T4 T5 T6 T7 T8 T9:ByteArray} {Q S:Bool} {B:Nat} {w:World} {R:Kt}
def kA.cx:Pm:=([],[])
theorem kA.vc
  (h:(Br (((ByteArray.size L:Int):Int)<1) (∀a,Ext w.heap.size [] w a->(R (.tuple #[(.string ⟨#[]⟩),I 1]) a)) (Br (((ByteArray.size L:Int):Int)>64) (∀b,Ext w.heap.size [] w b->(R (.tuple #[(.string ⟨#[]⟩),I 1]) b)) (∀c,Ext w.heap.size [] w c->(Pure P 54 #[.string L,.agg #[I p,I q,.string M,.string N]] c (Rt fun d e=>(R (.tuple #[.string d,I 0]) e))))))):
  Pure P 23 #[.string L,.agg #[I p,I q,.string M,.string N]] w R:=
 pr kA.cx func23 h

def im.cx:Pm:=([],[])
theorem im.vc
  (h:(Pure P 108 #[.string L] w (Rt fun a b=>(R (.string a) b)))):
  Pure P 51 #[.string L] w R:=
 pr im.cx func51 h

def qL.cx:Pm:=([],[])
theorem qL.vc
  (h:(∀c,Ext w.heap.size [] w c->(Pure P 50 #[I p] c (Rt fun a g=>(ByteArray.size a+ByteArray.size (⟨#[32]⟩:ByteArray)<=9223372036854775807/\(Pure P 50 #[I q] g (Rt fun b i=>(ByteArray.size (a++(⟨#[32]⟩:ByteArray))+ByteArray.size b<=9223372036854775807/\(ByteArray.size ((a++(⟨#[32]⟩:ByteArray))++b)+ByteArray.size (⟨#[32]⟩:ByteArray)<=9223372036854775807/\(ByteArray.size (((a++(⟨#[32]⟩:ByteArray))++b)++(⟨#[32]⟩:ByteArray))+ByteArray.size L<=9223372036854775807/\(Pure P 109 #[.string M,(.int .u8 (92:Int))] i (Rt fun d j=>(Pure P 109 #[.string M,(.int .u8 (54:Int))] j (Rt fun e l=>(ByteArray.size e+ByteArray.size ((((a++(⟨#[32]⟩:ByteArray))++b)++(⟨#[32]⟩:ByteArray))++L)<=9223372036854775807/\(Pure P 108 #[(.string (e++((((a++(⟨#[32]⟩:ByteArray))++b)++(⟨#[32]⟩:ByteArray))++L)))] l (Rt fun f m=>(ByteArray.size d+ByteArray.size f<=9223372036854775807/\(Pure P 108 #[(.string (d++f))] m (Rt fun n o=>(R (.string n) o))))))))))))))))))))):
  Pure P 54 #[.string M,.agg #[I p,I q,.string L,.string N]] w R:=
 pr qL.cx func54 h

def iq.cx:Pm:=([],[])
theorem iq.vc
  (h:(∀g,Ext w.heap.size [] w g->(Pure P 138 #[.slice A a b,.slice C c d,.string L,.agg #[.slice D e f,I p,I q],I r] g (TB fun m j n l i=>(Br (l=0) (R (.bool (decide ((j:Int)=0))) i) (R (.bool false) i)))))):
  Pure P 83 #[.slice A a b,.slice C c d,.string L,.agg #[.slice D e f,I p,I q],I r] w R:=
 pr iq.cx func83 h

def dA.L3(a:ByteArray)(b:Int)(c:Addr)(d:Int):=Lt 109 f109 3 [vT 0 a,(1,.v (.int .u8 b)),(5,.v (.pointer (some c))),vI 7 d] []
def dA.cx:Pm:=([((true,3),[0,1,5,7],[])],[(1,0,2),(9,0,2),(9,1,2)])
theorem dA.L3.step{a:Addr}
  (h:(Br (p<64) (Br (p<(ByteArray.size L:Int)) ((0<=p/\p<(ByteArray.size L:Int))/\((0<=p/\p<64)/\(∃(c:List Value)(d:Nat),B<=(a.add ((p).toNat*1)).block/\(a.add ((p).toNat*1)).spot=none/\w.heap[(a.add ((p).toNat*1)).block]? =some (.cells c.toArray d (0,0))/\(a.add ((p).toNat*1)).off+1<=c.length/\hasType d []=false/\∀b,aC w b (a.add ((p).toNat*1)).block d (setCells c (a.add ((p).toNat*1)).off [(.int .u8 (bt L p))])->((0<=p/\p<64)/\(∃j,aa b (a.add ((p).toNat*1)) [.int .u8 j]/\((0<=p/\p<64)/\(∃(e:List Value)(f:Nat),B<=(a.add ((p).toNat*1)).block/\(a.add ((p).toNat*1)).spot=none/\b.heap[(a.add ((p).toNat*1)).block]? =some (.cells e.toArray f (0,0))/\(a.add ((p).toNat*1)).off+1<=e.length/\hasType f []=false/\∀l,aC b l (a.add ((p).toNat*1)).block f (setCells e (a.add ((p).toNat*1)).off [(.int .u8 (bits .xor .u8 j q))])->(aS .i64 (p+1)/\(dA.L3 L q a (p+1) B l R))))))))) ((0<=p/\p<64)/\(∃m,aa w (a.add ((p).toNat*1)) [.int .u8 m]/\((0<=p/\p<64)/\(∃(g:List Value)(i:Nat),B<=(a.add ((p).toNat*1)).block/\(a.add ((p).toNat*1)).spot=none/\w.heap[(a.add ((p).toNat*1)).block]? =some (.cells g.toArray i (0,0))/\(a.add ((p).toNat*1)).off+1<=g.length/\hasType i []=false/\∀n,aC w n (a.add ((p).toNat*1)).block i (setCells g (a.add ((p).toNat*1)).off [(.int .u8 (bits .xor .u8 m q))])->(aS .i64 (p+1)/\(dA.L3 L q a (p+1) B n R))))))) (ae P (Instr.sliceAt 232 (.pointer (some a)) none none none) B [] w (Rs fun o r s t=>(ae P (convert 115 9 (.slice o r s)) B [] t (Rt fun u v=>(R (.string u) v))))))):
  dA.L3 L q a p B w R:=
 lr dA.cx func109 h
theorem dA.vc
  (h:(ae P (Instr.alloc 232 true (.tuple #[])) w.heap.size [] w fun b c=>∃(a:Addr),b= .pointer (some a)/\(dA.L3 L p a (0:Int) w.heap.size c R))):
  Pure P 109 #[.string L,.int .u8 p] w R:=
 pr dA.cx func109 h

def ay.L8(a:O)(b c:Nat)(d:O)(e f:Nat)(g:Addr)(i:Addr)(j:Addr)(l:Option Nat)(m:O)(n o:Nat)(p q:Int):=Lt 138 f138 8 [vS 0 a b c,vS 1 d e f,(7,.v (.pointer (some g))),(8,.v (.pointer (some i))),(9,.v (.pointer (some j))),(14,.v (.map l)),vS 45 m n o,vI 46 p,vI 47 q] []
def ay.tn(a:O)(b c:Nat)(d:Addr)(e:Addr)(f:Addr)(g:Option Nat)(i:O)(j l:Nat)(m n:Int):=Lt 138 f138 13 [vS 1 a b c,(7,.v (.pointer (some d))),(8,.v (.pointer (some e))),(9,.v (.pointer (some f))),(14,.v (.map g)),vS 56 i j l,vI 57 m,vI 58 n] []
def ay.AA(a:Option Nat)(b:O)(c d:Nat)(e:Int):=Lt 138 f138 21 [(14,.v (.map a)),vS 20 b c d,vI 21 e] []
def ay.Jp(a:Option Nat)(b:O)(c d:Nat)(e f g:Int):=Lt 138 f138 24 [(14,.v (.map a)),vS 20 b c d,vI 21 e,vI 79 f,vI 80 g] []
def ay.cx:Pm:=([((true,8),[0,1,7,8,9,14,45,46,47],[]),((true,13),[1,7,8,9,14,56,57,58],[]),((true,21),[14,20,21],[]),((true,24),[14,20,21,79,80],[])],[(0,0,2),(0,1,2),(0,2,2),(6,0,2),(10,2,2),(10,4,2),(15,0,5),(17,3,2),(17,5,2),(23,2,2),(25,2,2),(25,3,2)])
theorem ay.L8.step{i j l:Addr}{g:Option Nat}
  (h:(Br (p<q) (Ix p e D fun o=>(∃m,aa w (o.add ((p).toNat*1)) [I m]/\(ae P (Instr.lookup 250 (.map g) (I m) false) B [] w (Ri fun n r=>(aS .i64 (n+1)/\(dY P (Instr.mapUpdate 250 (.map g) (I m) (I (n+1))) B [] r fun s=>(aS .i64 (p+1)/\(ay.L8 A a b C c d i j l g D e f q (p+1) B s R)))))))) (ay.tn C c d i j l g A a b (a:Int) (0:Int) B w R))):
  ay.L8 A a b C c d i j l g D e f q p B w R:=
 lr ay.cx func138 h
theorem ay.tn.step{f g i:Addr}{e:Option Nat}
  (h:(Br (p<q) (Ix p c C fun v=>(∃o r s t,aa w (v.add ((p).toNat*4)) [I o,I r,.string s,.string t]/\(∀l,Ext B [] w l->(∀j:Nat,B<=j->l.heap[j]? =some (.cells [I o,I r,.string s,.string t].toArray 69 (0,0))->(Pure P 19 #[.slice A a b,(.func (.func 182) #[] #[(.pointer (some (⟨j,0,none⟩:Addr))),(.pointer (some f)),(.pointer (some i)),(.pointer (some g))])] l (Rb fun x m=>(Bb x (∃n,aa m ((⟨j,0,none⟩:Addr).add 1) [I n]/\(ae P (Instr.lookup 250 (.map e) (I n) false) B [] m (Ri fun u y=>(aS .i64 (u - (1:Int))/\(dY P (Instr.mapUpdate 250 (.map e) (I n) (I (u - (1:Int)))) B [] y fun z=>(aS .i64 (p+1)/\(ay.tn A a b f g i e C c d q (p+1) B z R))))))) (aS .i64 (p+1)/\(ay.tn A a b f g i e C c d q (p+1) B m R))))))))) (ay.AA e none 0 0 (1:Int) B w R))):
  ay.tn A a b f g i e C c d q p B w R:=
 lr ay.cx func138 h
theorem ay.AA.step{c:Option Nat}
  (h:(Br (p<=(9:Int)) (ae P (Instr.lookup 250 (.map c) (I p) false) B [] w (Ri fun d e=>(ay.Jp c A a b p (if(0:Int)>d then(0:Int)else d) (0:Int) B e R))) (R (.tuple #[.slice A a b,I 0]) w))):
  ay.AA c A a b p B w R:=
 lr ay.cx func138 h
theorem ay.Jp.step{c:Option Nat}
  (h:(Br (q<r) (ae P (Instr.buildSlice 28 1 #[(0,(I p))]) B [] w (Rs fun d e f g=>(ae P (Builtin.append_ #[28,28] 28 #[.slice A a b,.slice d e f]) B [] g (Rs fun i j l m=>(aS .i64 (q+1)/\(ay.Jp c i j l p r (q+1) B m R)))))) (aS .i64 (p+1)/\(ay.AA c A a b (p+1) B w R)))):
  ay.Jp c A a b p r q B w R:=
 lr ay.cx func138 h
theorem ay.vc
  (h:(ae P (Instr.box 9 (.string L)) w.heap.size [] w fun K M=>∃(j:Addr),K= .pointer (some j)/\(ae P (Instr.box 161 (.agg #[.slice D e f,I p,I q])) w.heap.size [] M fun N O=>∃(i:Addr),N= .pointer (some i)/\(ae P (Instr.box 3 (I r)) w.heap.size [] O fun Q S=>∃(l:Addr),Q= .pointer (some l)/\(Pure P 171 #[.slice A a b,.slice C c d] S (Rii fun Y T m=>(Br (T≠0) (R (.tuple #[.slice none 0 0,I 1]) m) (∃o s t u v,aa m i [.slice o s t,I u,I v]/\(Pure P 180 #[.agg #[.slice o s t,I u,I v]] m (Rb fun U g=>(Br (U=false) (R (.tuple #[.slice none 0 0,I 1]) g) (∃x,aa g j [.string x]/\(Br (((ByteArray.size x:Int):Int)≠32) (R (.tuple #[.slice none 0 0,I 2]) g) (∃y,aa g l [I y]/\(Pure P 181 #[I y] g (Rb fun V z=>(Br (V=false) (R (.tuple #[.slice none 0 0,I 2]) z) (ae P (Instr.makeMap 250 none) w.heap.size [] z fun X E=>∃(G:Option Nat),X= .map G/\(∃H n J,aa E (i.add 0) [.slice H n J]/\(ay.L8 A a b C c d j i l G H n J (n:Int) (0:Int) w.heap.size E R)))))))))))))))))))):
  Pure P 138 #[.slice A a b,.slice C c d,.string L,.agg #[.slice D e f,I p,I q],I r] w R:=
 pr ay.cx func138 h

def ct.L6(a:O)(b c:Nat)(d:O)(e f:Nat)(g:O)(i j:Nat)(l m:Int):=Lt 171 f171 6 [vS 0 a b c,vS 1 d e f,vS 15 g i j,vI 16 l,vI 17 m] []
def ct.cx:Pm:=([((true,6),[0,1,15,16,17],[])],[])
theorem ct.L6.step
  (h:(Br (p<q) (Ix p d D fun v=>(∃g j l i,aa w (v.add ((p).toNat*4)) [I g,I j,.string l,.string i]/\((0<=p/\p<=(c:Int))/\(∀n,Ext B [] w n->(Pure P 207 #[.slice A a b,(.slice C ((p).toNat) c),.agg #[I g,I j,.string l,.string i]] n (Ri fun o m=>(Br (o≠0) (R (.tuple #[I p,I o]) m) (∀r,Ext B [] m r->(Pure P 208 #[.slice A a b,I g] r (Ri fun s x=>(Ix s a A fun y=>(∃t,aa m ((y.add ((s).toNat*4)).add 3) [.string t]/\(Pure P 54 #[.string t,.agg #[I g,I j,.string l,.string i]] x (Rt fun z u=>(Br (i≠z) (R (.tuple #[I p,I 14]) u) (aS .i64 (p+1)/\(ct.L6 A a b C e c D d f q (p+1) B u R))))))))))))))))) (R (.tuple #[(I (-1:Int)),I 0]) w))):
  ct.L6 A a b C e c D d f q p B w R:=
 lr ct.cx func171 h
theorem ct.vc
  (h:(Pure P 206 #[.slice A b c] w (Rb fun f e=>(Br (f=false) (R (.tuple #[(I (-1:Int)),I 1]) e) (Br ((a:Int)>1024) (R (.tuple #[(I (-1:Int)),I 8]) e) (ct.L6 A b c C a d C a d (a:Int) (0:Int) w.heap.size e R)))))):
  Pure P 171 #[.slice A b c,.slice C a d] w R:=
 pr ct.cx func171 h

def jN.cx:Pm:=([],[])
theorem jN.vc
  (h:(Br ((a:Int)≥(1:Int)) (Br ((a:Int)<=(9:Int)) (∀c,Ext w.heap.size [] w c->(Pure P 225 #[.slice A a b,(.func (.func 226) #[] #[])] c (Rb fun i d=>(Br (i=false) (Pure P 181 #[I p] d (Rb fun j e=>(Bb j (Pure P 181 #[I q] e (Rb fun l m=>(R (.bool l) m))) (R (.bool false) e)))) (R (.bool false) d))))) (∀f,Ext w.heap.size [] w f->(R (.bool false) f))) (∀g,Ext w.heap.size [] w g->(R (.bool false) g)))):
  Pure P 180 #[.agg #[.slice A a b,I p,I q]] w R:=
 pr jN.cx func180 h

def fW.cx:Pm:=([],[])
theorem fW.vc
  (h:(Br (p≥(0:Int)) (R (.bool (decide (p<=(1073741824:Int)))) w) (R (.bool false) w))):
  Pure P 181 #[I p] w R:=
 pr fW.cx func181 h

def ki.cx:Pm:=([],[])
theorem ki.vc{b g c d:Addr}
  (h:(∀a,Ext w.heap.size [] w a->(∃i,aa a (b.add 0) [I i]/\(Br (q=i) (∃j,aa a g [.string j]/\(Br (L=j) (∃l,aa a c [I l]/\(Br (p<=l) (∃e,aa a c [I e]/\(∃f,aa a (d.add 1) [I f]/\(aS .i64 (e - f)/\(Br (p≥(e - f)) (∃m,aa a (b.add 0) [I m]/\(∃n,aa a (d.add 2) [I n]/\(R (.bool (decide (m≠n))) a))) (R (.bool false) a))))) (R (.bool false) a))) (R (.bool false) a))) (R (.bool false) a))))):
  Pure P 182 #[.agg #[I q,I p,.string L,.string M],(.pointer (some b)),(.pointer (some g)),(.pointer (some c)),(.pointer (some d))] w R:=
 pr ki.cx func182 h

def cA.L2(a:O)(b c:Nat)(d:O)(e f:Nat)(g i:Int):=Lt 206 f206 2 [vS 0 a b c,vS 5 d e f,vI 6 g,vI 7 i] []
def cA.cx:Pm:=([((true,2),[0,5,6,7],[])],[(4,9999,3)])
theorem cA.L2.step
  (h:(Br (p<q) (Ix p b C fun v=>(∃f i j l,aa w (v.add ((p).toNat*4)) [I f,I i,.string j,.string l]/\(∀e,Ext B [] w e->(Br (f<1) (∀m,Ext B [] e m->(R (.bool false) m)) (Br (f>1073741824) (∀n,Ext B [] e n->(R (.bool false) n)) (Br (i<1) (∀o,Ext B [] e o->(R (.bool false) o)) (Br (i>9) (∀r,Ext B [] e r->(R (.bool false) r)) (∀s,Ext B [] e s->(Pure P 249 #[.string j] s (Rb fun x t=>(Br (x=false) (R (.bool false) t) (Pure P 249 #[.string l] t (Rb fun y g=>(Br (y=false) (R (.bool false) g) (Br (p>0) (aS .i64 (p - (1:Int))/\(Ix (p - (1:Int)) a A fun z=>(∃u,aa e ((z.add (((p - (1:Int))).toNat*4)).add 0) [I u]/\(Br (u≥f) (R (.bool false) g) (aS .i64 (p+1)/\(cA.L2 A a c C b d q (p+1) B g R)))))) (aS .i64 (p+1)/\(cA.L2 A a c C b d q (p+1) B g R))))))))))))))))) (R (.bool (decide ((a:Int)<=(16:Int)))) w))):
  cA.L2 A a c C b d q p B w R:=
 lr cA.cx func206 h
theorem cA.vc
  (h:(cA.L2 A a b A a b (a:Int) (0:Int) w.heap.size w R)):
  Pure P 206 #[.slice A a b] w R:=
 pr cA.cx func206 h

def jO.cx:Pm:=([],[(7,1,5)])
theorem jO.vc
  (h:(∀l,Ext w.heap.size [] w l->(Pure P 208 #[.slice C c d,I q] l (Ri fun t m=>(Br (t<0) (R (I 7) m) (Pure P 181 #[I p] m (Rb fun u e=>(Br (u=false) (R (I 2) e) (Br (((ByteArray.size L:Int):Int)≠32) (R (I 2) e) (Br ((a:Int)>0) (aS .i64 ((a:Int) - (1:Int))/\(Ix ((a:Int) - (1:Int)) a A fun v=>(∃n,aa e ((v.add ((((a:Int) - (1:Int))).toNat*4)).add 1) [I n]/\(Br (n>p) (∀o,Ext w.heap.size [] e o->(R (I 5) o)) (∀f,Ext w.heap.size [] e f->(∀g:Nat,w.heap.size<=g->f.heap[g]? =some (.cells [I q,I p,.string L,.string M].toArray 66 (0,0))->(Pure P 19 #[.slice A a b,(.func (.func 250) #[] #[(.pointer (some (⟨g,0,none⟩:Addr)))])] f (Rb fun x r=>(Bb x (R (I 6) r) (R (I 0) r)))))))))) (∀i,Ext w.heap.size [] e i->(∀j:Nat,w.heap.size<=j->i.heap[j]? =some (.cells [I q,I p,.string L,.string M].toArray 66 (0,0))->(Pure P 19 #[.slice A a b,(.func (.func 250) #[] #[(.pointer (some (⟨j,0,none⟩:Addr)))])] i (Rb fun y s=>(Bb y (R (I 6) s) (R (I 0) s)))))))))))))))):
  Pure P 207 #[.slice C c d,.slice A a b,.agg #[I q,I p,.string L,.string M]] w R:=
 pr jO.cx func207 h

def gA.cx:Pm:=([],[(1,1,5)])
theorem gA.vc
  (h:(∀c,Ext w.heap.size [] w c->(∀d:Nat,w.heap.size<=d->c.heap[d]? =some (.cells [I p].toArray 3 (0,0))->(Pure P 21 #[.slice A a b,(.func (.func 251) #[] #[(.pointer (some (⟨d,0,none⟩:Addr)))])] c (Ri fun e f=>(R (I e) f)))))):
  Pure P 208 #[.slice A a b,I p] w R:=
 pr gA.cx func208 h

def mo.cx:Pm:=([],[])
theorem mo.vc
  (h:(Br (p<1) (R (.bool true) w) (R (.bool (decide (p>9))) w))):
  Pure P 226 #[I p] w R:=
 pr mo.cx func226 h

def iu.cx:Pm:=([],[])
theorem iu.vc
  (h:(Br (((ByteArray.size L:Int):Int)≥(1:Int)) (R (.bool (decide (((ByteArray.size L:Int):Int)<=(64:Int)))) w) (R (.bool false) w))):
  Pure P 249 #[.string L] w R:=
 pr iu.cx func249 h

def mq.cx:Pm:=([],[])
theorem mq.vc{b:Addr}
  (h:(∀a,Ext w.heap.size [] w a->(∃c,aa a (b.add 0) [I c]/\(Br (p=c) (∃d,aa a (b.add 2) [.string d]/\(Br (L=d) (∃e,aa a (b.add 1) [I e]/\(R (.bool (decide (q=e))) a)) (R (.bool false) a))) (R (.bool false) a))))):
  Pure P 250 #[.agg #[I p,I q,.string L,.string M],(.pointer (some b))] w R:=
 pr mq.cx func250 h

def kW.cx:Pm:=([],[])
theorem kW.vc{b:Addr}
  (h:(∀a,Ext w.heap.size [] w a->(∃c,aa a b [I c]/\(R (.bool (decide (p=c))) a)))):
  Pure P 251 #[.agg #[I p,I q,.string L,.string M],(.pointer (some b))] w R:=
 pr kW.cx func251 h

end Go.Proofs.YtbcojgcjjpggnaaGreatDoor.F

namespace Go.Proofs.YtbcojgcjjpggnaaGreatDoor.B
open Go Go.RowKit Go.Proofs Go.Proofs.YtbcojgcjjpggnaaGreatDoor.Vc

structure pS where
 sum:ByteArray->ByteArray
 pad:ByteArray->Int->ByteArray
structure gL (H:pS):Prop where
 sum:∀(w:World)(s:ByteArray),s.size<=100000000->Pure Tryz.prog 108 #[.string s] w fun v _=>v= .string (H.sum s)
 len:∀s:ByteArray,(H.sum s).size=32
 pad:∀(w:World)(s:ByteArray)(b:Int),s.size<=64->0<=b->b<256->Pure Tryz.prog 109 #[.string s,.int .u8 b] w fun v _=>v= .string (H.pad s b)
 adp:∀(s:ByteArray)(b:Int),(H.pad s b).size=64
abbrev Cu:ByteArray:=⟨#[32]⟩
def wh(a:Ap):ByteArray:=(((iS a.cU++Cu)++iS a.tick)++Cu)++a.subject
def codeF(H:pS)(key:ByteArray)(a:Ap):ByteArray:=H.sum (H.pad key 92++H.sum (H.pad key 54++wh a))
theorem yN{z:Int}(a: -9223372036854775808<=z)(h1:z<=9223372036854775807):(iS z).size<=20:=by
 show(kt z).length<=20;exact jA (k:=19) om om
section
variable {H:pS} {w:World}
theorem MA(ok:gL H)(hg:bk w){key:ByteArray}{a:Ap}(c:key.size<=64)(h1:aS .i64 a.cU)(b:aS .i64 a.tick)(hs:a.subject.size<=1000000):
  Pure Tryz.prog 54 #[.string key,a.val] w fun v _=>v= .string (codeF H key a):=by
 simp only[aS]at h1 b;have l1:=yN h1.1 h1.2;have n:=yN b.1 b.2;have s1:Cu.size=1:=rfl;refine F.qL.vc fun w1 g=> ?_
 have d:=k0 g;refine pm (ub (hg.next d) _ h1.1 h1.2) ?_;rintro v o h rfl;have e:=kP d h;refine⟨_,rfl,by show _+Cu.size<=_;omega,pm (ub (hg.next e) _ b.1 b.2) ?_⟩;rintro v i j rfl;have q:=kP e j;have z1:(iS a.cU++Cu).size=(iS a.cU).size+1:=by rw[iD];rfl
 have z2:((iS a.cU++Cu)++iS a.tick).size=(iS a.cU).size+1+(iS a.tick).size:=by rw[iD,z1]
 have z3:(((iS a.cU++Cu)++iS a.tick)++Cu).size=(iS a.cU).size+1+(iS a.tick).size+1:=by rw[iD,z2];rfl
 have z4:(wh a).size=(iS a.cU).size+1+(iS a.tick).size+1+a.subject.size:=by unfold wh;rw[iD,z3]
 refine⟨_,rfl,by show(iS a.cU++Cu).size+_<=_;omega,by show((iS a.cU++Cu)++iS a.tick).size+Cu.size<=_;omega,by show(((iS a.cU++Cu)++iS a.tick)++Cu).size+_<=_;omega,pm (ok.pad i key 92 c om om) ?_⟩;rintro v k r rfl;refine⟨_,rfl,pm (ok.pad k key 54 c om om) ?_⟩;rintro v l x rfl;have p1:=ok.adp key 54;have p2:=ok.adp key 92;have p3:=ok.len (H.pad key 54++wh a);have z5:(H.pad key 54++wh a).size=64+(wh a).size:=by rw[iD,p1]
 have y:(H.pad key 92++H.sum (H.pad key 54++wh a)).size=96:=by rw[iD,p2,p3]
 refine⟨_,rfl,by show _+(wh a).size<=_;omega,pm (ok.sum l (H.pad key 54++wh a) om) ?_⟩;rintro v m z rfl;refine⟨_,rfl,om,pm (ok.sum m (H.pad key 92++H.sum (H.pad key 54++wh a)) om) ?_⟩;rintro v A _ rfl;exact⟨_,rfl,rfl⟩
theorem kA(ok:gL H)(hg:bk w){key:ByteArray}{a:Ap}(b:1<=key.size)(c:key.size<=64)(h1:aS .i64 a.cU)(d:aS .i64 a.tick)(hs:a.subject.size<=1000000):
  Pure Tryz.prog 23 #[.string key,a.val] w fun v _=>v= .tuple #[.string (codeF H key a),.int .i64 0]:=by
 refine F.kA.vc ⟨fun h=>by omega,fun _=>⟨fun h=>by omega,fun _ g e=>pm (MA ok (hg.next (k0 e)) c h1 d hs) ?_⟩⟩;rintro v i _ rfl;exact⟨_,rfl,rfl⟩
theorem im(ok:gL H){s:ByteArray}(hs:s.size<=100000000):Pure Tryz.prog 51 #[.string s] w fun v _=>v= .string (H.sum s):=by
 refine F.im.vc (pm (ok.sum w s hs) ?_);rintro v a _ rfl;exact⟨_,rfl,rfl⟩
theorem fW(n:Int)(w:World):Pure Tryz.prog 181 #[.int .i64 n] w fun v _=>v= .bool (decide (0<=n/\n<=1073741824)):=by
 refine F.fW.vc ⟨fun h=> ?_,fun h=> ?_⟩
 ·congr 1
  simp;omega
 ·congr 1
  simp;omega
theorem iu(s:ByteArray)(w:World):Pure Tryz.prog 249 #[.string s] w fun v _=>v= .bool (decide (1<=s.size/\s.size<=64)):=by
 refine F.iu.vc ⟨fun h=>ca Value.bool ?_,fun h=>ca Value.bool (TS (ep om))⟩;rw[kh];omega
def okS(p:Option Si)(s:Si):Prop:=(1<=s.id/\s.id<=1073741824)/\(1<=s.role/\s.role<=9)/\(1<=s.name.size/\s.name.size<=64)/\(1<=s.key.size/\s.key.size<=64)/\∀q,p=some q->q.id<s.id
def IG:Option Si->List Si->Prop
 |_,[]=>True
 |p,s::r=>okS p s/\IG (some s) r
noncomputable def pJ(l:List Si):Bool:=by
 classical
 exact decide (IG none l/\l.length<=16)
theorem jP{l:List Si}:pJ l=true↔IG none l/\l.length<=16:=by
 unfold pJ;simp
theorem IH:∀{l:List Si} {p:Option Si},IG p l->∀s∈l,∃q,okS q s:=by
 intro l;induction l with
 |nil=>intro p _ s hs;cases hs
 |cons c r ih=>
  intro p h s hs;rcases cy.1 hs with rfl|hs
  ·exact⟨p,h.1⟩
  ·exact ih h.2 s hs
theorem cA{A:Option Addr}{n c:Nat}{l:List Si}(hl:bR w A 4 (l.map Si.row))(hlen:l.length=n)(hn:n<2147483648):
  Pure Tryz.prog 206 #[.slice A n c] w fun v _=>v= .bool (pJ l):=by
 have key:∀(d i:Nat)(w':World),n - i=d->i<=n->Below w.heap.size w w'->(IG (fm l i) (l.drop i)↔IG none l)->F.cA.L2 A n c A n c n i w.heap.size w' fun v _=>v= .bool (pJ l):=by
  intro d;induction d with
  |zero=>
   intro i w' C hi hw b;rw[de om]at b;refine F.cA.L2.step ⟨fun h=>by omega,fun _=>ca Value.bool ?_⟩;have ha:IG none l:=b.1 trivial;rw[uk,iv,jP];exact⟨fun h=>⟨ha,om⟩,fun h=>by omega⟩
  |succ d ih=>
   intro i w' C hi hw b;have j:i<l.length:=om;have D:=sc i;rw[dp j,IG,<-sF j]at b;have bad:¬okS (fm l i) l[i]->Value.bool false= .bool (pJ l):=fun h=>by
    refine ca Value.bool (TS (Hu.2 fun k=> ?_));exact h (b.2 (jP.1 k).1).1
   obtain⟨hb,E,G,g,_⟩:=(hl.av hw lf).at_ (fun _=>rfl) hlen j;refine F.cA.L2.step ⟨fun _=>⟨hb,E,G,_,_,_,_,g,fun S I=>⟨fun q w' _=>bad fun k=>by have:=k.1;omega,fun q1=>⟨fun q w' _=>bad fun k=>by have:=k.1;omega,fun T=>⟨fun q w' _=>bad fun k=>by have:=k.2.1;omega,fun U=>⟨fun q w' _=>bad fun k=>by have:=k.2.1;omega,fun V J K=>pm (iu _ J) ?_⟩⟩⟩⟩⟩,fun h=>by omega⟩;have x:=kE hw I;have L:=kE x K;rintro v M N rfl;have m:=kP L N;refine⟨_,rfl,fun q=>bad fun k=>hP q k.2.2.1,fun o=>pm (iu _ M) ?_⟩;rintro v y O rfl;have P:=kP m O;have o:1<=l[i].name.size/\l[i].name.size<=64:=by simpa using o
   refine⟨_,rfl,fun q=>bad fun k=>hP q k.2.2.2.1,fun r=> ?_⟩;have r:1<=l[i].key.size/\l[i].key.size<=64:=by simpa using r
   have go:(∀q,fm l i=some q->q.id<l[i].id)->aS .i64 ((i:Int)+1)/\F.cA.L2 A n c A n c n ((i:Int)+1) w.heap.size y fun v _=>v= .bool (pJ l):=fun h=>by
    refine⟨ir,?_⟩;rw[D];refine ih (i+1) y om om P ⟨fun k=>b.1 ⟨⟨om,om,o,r,h⟩,k⟩,fun k=>(b.2 k).2⟩
   refine⟨fun Q=>⟨ir,?_⟩,fun Q=>go fun q e=> ?_⟩
   ·have z:i - 1<l.length:=om;have B:fm l i=some l[i - 1]:=by
     unfold fm;rw[aq om,af z]
    obtain⟨p1,a,p2,_,p3⟩:=(hl.av x lf).at_ (fun _=>rfl) hlen z;have e:((i - 1:Nat):Int)=(i:Int) - 1:=om;rw[e]at p1 p3;refine⟨p1,a,p2,_,p3 0 _ rfl,fun k=>bad fun R=> ?_,fun k=>go fun q e=> ?_⟩
    ·have:=R.2.2.2.2 _ B;omega
    ·rw[B]at e;cases e;omega
   ·unfold fm at e;rw[bm om]at e;cases e
 exact F.cA.vc (key n 0 w rfl om (Below.refl _ _) Iff.rfl)
theorem NJ{p:Nat}{id:Int}(h:w.heap[p]? =some (.cells [Value.int .i64 id].toArray 3 (0,0)))(s:Si):
  Pure Tryz.prog 251 #[s.val,.pointer (some ⟨p,0,none⟩)] w fun v _=>v= .bool (decide (s.id=id)):=
 F.kW.vc fun w1 a=>⟨_,bS (ext_nil a h) rfl,rfl⟩
def NK(l:List Si)(id:Int):Option Nat:=l.findIdx? fun s=>decide (s.id=id)
def ixO:Option Nat->Int
 |some i=>i
 |none=> -1
theorem gA{A:Option Addr}{n c:Nat}{l:List Si}(hl:bR w A 4 (l.map Si.row))(hlen:l.length=n)(hn:n<2147483648)(id:Int):
  Pure Tryz.prog 208 #[.slice A n c,.int .i64 id] w fun v _=>v= .int .i64 (ixO (NK l id)):=by
 refine F.gA.vc fun w1 b p2 _ d=> ?_
 have h1:=k0 b;refine pm (UJ (hl.av h1 lf) hlen hn (a:= #[]) (k:= #[.pointer (some ⟨p2,0,none⟩)]) kF fun w' hb s _=>NJ (ag d hb) s) ?_;rintro v e _ rfl;refine⟨_,rfl,?_⟩;rw[mI];unfold NK ixO;cases l.findIdx? fun s=>decide (s.id=id)with
 |none=>rfl
 |some i=>simp
def nA(ss:List Si)(l:List Ap)(a:Ap):Int:=
 if NK ss a.cU=none then 7 else if ¬(0<=a.tick/\a.tick<=1073741824)∨a.subject.size≠32 then 2
 else if ∃q,l.getLast? =some q/\q.tick>a.tick then 5
 else if(l.any fun b=>decide (b.cU=a.cU/\b.subject=a.subject/\b.tick=a.tick))=true then 6 else 0
theorem RB{p:Nat}{a:Ap}(h:w.heap[p]? =some (.cells (Ap.row a).toArray 66 (0,0)))(b:Ap):
  Pure Tryz.prog 250 #[b.val,.pointer (some ⟨p,0,none⟩)] w fun v _=>v= .bool (decide (b.cU=a.cU/\b.subject=a.subject/\b.tick=a.tick)):=by
 refine F.mq.vc fun w1 d=> ?_
 have hb:=ext_nil d h;refine⟨_,bz hb rfl,fun k=>⟨_,bz hb rfl,fun c=>⟨_,bz hb rfl,ca Value.bool ?_⟩,fun c=>ca Value.bool (TS (ep fun q=>c q.2.1))⟩,fun k=>ca Value.bool (TS (ep fun q=>k q.1))⟩;rw[kh];exact⟨fun q=>⟨k,c,q⟩,fun q=>q.2.2⟩
theorem jO{A A1:Option Addr}{n c n1 c1:Nat}{ss:List Si}{l:List Ap}(hs:bR w A 4 (ss.map Si.row))(y:ss.length=n)(hn:n<2147483648)(hl:bR w A1 4 (l.map Ap.row))(j:l.length=n1)(z:n1<2147483648)(a:Ap):
  Pure Tryz.prog 207 #[.slice A n c,.slice A1 n1 c1,a.val] w fun v _=>v= .int .i64 (nA ss l a):=by
 refine F.jO.vc fun w1 B=> ?_
 have h1:=k0 B;refine pm (gA (hs.av h1 lf) y hn a.cU) ?_;rintro v C D rfl;have E:=kP h1 D;unfold nA;have neg:ixO (NK ss a.cU)<0↔NK ss a.cU=none:=by
  unfold ixO;cases NK ss a.cU with
  |none=>simp
  |some i=>simp
 refine⟨_,rfl,fun q=>by rw[bm (neg.1 q)],fun q=>pm (fW _ C) ?_⟩;rw[aq (fun k=>q (neg.2 k))];rintro v Q G rfl;have m:=kP E G;refine⟨_,rfl,fun q=>by rw[bm (.inl (hP q))],fun q1=> ?_⟩;have q1:0<=a.tick/\a.tick<=1073741824:=by simpa using q1
 refine⟨fun q=>by rw[bm (.inr om)],fun R=> ?_⟩;rw[aq (by rintro(k|k);exact k q1;omega)];have fin:∀(d:World),Below w.heap.size w d->∀g:Nat,d.heap[g]? =some (.cells (Ap.row a).toArray 66 (0,0))->Pure Tryz.prog 19 #[.slice A1 n1 c1,.func (.func 250) #[] #[.pointer (some ⟨g,0,none⟩)]] d
   (Rb fun I J=>Bb I (Value.int .i64 6= .int .i64 (if(l.any fun b=>decide (b.cU=a.cU/\b.subject=a.subject/\b.tick=a.tick))=true then 6 else 0)) (Value.int .i64 0= .int .i64 (if(l.any fun b=>decide (b.cU=a.cU/\b.subject=a.subject/\b.tick=a.tick))=true then 6 else 0))):=by
  intro d K g h;refine pm (Ck (hl.av K lf) j z (a:= #[]) (k:= #[.pointer (some ⟨g,0,none⟩)]) (p:=fun b=>decide (b.cU=a.cU/\b.subject=a.subject/\b.tick=a.tick)) kF fun w' hb b _=>RB (ag h hb) b) ?_;rintro v J _ rfl;exact⟨_,rfl,fun k=>by rw[bm k],fun k=>by rw[aq (by rw[k];decide)]⟩
 refine⟨fun L=>⟨ir,?_⟩,fun L M N o _ h=> ?_⟩
 ·have r:n1 - 1<l.length:=om;have el:l.getLast? =some l[n1 - 1]:=by rw[FP,<-af r,j]
  obtain⟨p1,O,p2,_,p3⟩:=(hl.av m lf).at_ (fun _=>rfl) j r;have e:((n1 - 1:Nat):Int)=(n1:Int) - 1:=om;rw[e]at p1 p3;refine⟨p1,O,p2,_,p3 1 _ rfl,fun k S _=>by rw[bm ⟨_,el,k⟩],fun k d P g _ h=> ?_⟩;rw[aq (by rintro⟨q,e,x⟩;rw[el]at e;cases e;exact k x)];exact fin d (kE m P) g h
 ·have:l=[]:=ew om;rw[aq (by rintro⟨q,e,x⟩;rw[this]at e;cases e)];exact fin M (kE m N) o h
end

theorem bR.pre{α:Type}{row:α->List Value}{w:World}{A:Option Addr}{sz:Nat}{l:List α}(h:bR w A sz (l.map row))(i:Nat):bR w A sz ((l.take i).map row):=by
 rw[En];exact h.take i
def RD(ss:List Si)(id:Int):ByteArray:=match NK ss id with
 |some k=>match ss[k]? with
  |some s=>s.key
  |none=>⟨#[]⟩
 |none=>⟨#[]⟩
def wi(H:pS)(ss:List Si):List Ap->List Ap->Int×Int
 |_,[]=>(-1,0)
 |pre,a::r=>if nA ss pre a≠0 then((pre.length:Int),nA ss pre a)else if a.code≠codeF H (RD ss a.cU) a then((pre.length:Int),14)else wi H ss (pre++[a]) r
noncomputable def eP(H:pS)(ss:List Si)(l:List Ap):Int×Int:=if pJ ss=false then(-1,1)else if 1024<l.length then(-1,8)else wi H ss [] l
theorem II{ss:List Si}{l:List Ap}{a:Ap}(h:nA ss l a=0):(∃k,NK ss a.cU=some k)/\(0<=a.tick/\a.tick<=1073741824)/\a.subject.size=32:=by
 unfold nA at h;split at h
 ·cases h
 ·rename_i h1;split at h
  ·cases h
  ·rename_i b;refine⟨zY.1 h1,?_⟩;constructor
   ·apply bx;exact fun k=>b (.inl k)
   ·apply bx;exact fun k=>b (.inr k)
theorem ZH{ss:List Si}{id:Int}{k:Nat}(h:NK ss id=some k):∃a:k<ss.length,ss[k].id=id:=by
 obtain⟨a,h1,_⟩:=rr.1 h;exact⟨a,fk h1⟩
section
variable {H:pS} {w:World} {A A1:Option Addr} {n c n1 c1:Nat} {ss:List Si} {l:List Ap}
theorem ct(ok:gL H)(hg:bk w)(hs:bR w A 4 (ss.map Si.row))(g:ss.length=n)(hn:n<2147483648)(hl:bR w A1 4 (l.map Ap.row))(E:l.length=n1)(T:n1<2147483648)(U:n1<=c1):
  Pure Tryz.prog 171 #[.slice A n c,.slice A1 n1 c1] w fun v _=>v= .tuple #[.int .i64 (eP H ss l).1,.int .i64 (eP H ss l).2]:=by
 refine F.ct.vc (pm (cA hs g hn) ?_);rintro v G I rfl;unfold eP;refine⟨_,rfl,fun q=>by rw[bm q],fun q=> ?_⟩;rw[aq q];obtain⟨J,j⟩:=jP.1 (by simpa using q);refine⟨fun k=>by rw[bm om],fun k=> ?_⟩;rw[aq om];have key:∀(d i:Nat)(w':World),n1 - i=d->i<=n1->Below w.heap.size w w'->wi H ss (l.take i) (l.drop i)=wi H ss [] l->F.ct.L6 A n c A1 n1 c1 A1 n1 c1 n1 i w.heap.size w' fun v _=>v= .tuple #[.int .i64 (wi H ss [] l).1,.int .i64 (wi H ss [] l).2]:=by
  intro d;induction d with
  |zero=>
   intro i w' K hi hw b;rw[de om]at b;rw[<-b];exact F.ct.L6.step ⟨fun h=>by omega,fun _=>rfl⟩
  |succ d ih=>
   intro i w' K hi hw b;have m:i<l.length:=om;have L:=sc i;have B:(l.take i).length=i:=by rw[eH];omega
   rw[dp m,wi,B]at b;obtain⟨hb,M,N,e,_⟩:=(hl.av hw lf).at_ (fun _=>rfl) E m;refine F.ct.L6.step ⟨fun _=>⟨hb,M,N,_,_,_,_,e,om,fun V O=> ?_⟩,fun h=>by omega⟩;have o:=kE hw O;rw[cc];refine pm (jO (hs.av o lf) g hn ((hl.av o lf).pre i) B om l[i]) ?_;rintro v W P rfl;have C:=kP o P;refine⟨_,rfl,fun h=> ?_,fun h X r=> ?_⟩
   ·rw[bm h]at b;rw[<-b]
   rw[aq h]at b;have D:=kE C r;obtain⟨⟨k,x⟩,Y,nC⟩:=II (ek.1 h);obtain⟨y,hid⟩:=ZH x;obtain⟨_,ho⟩:=IH J _ (bA y);have z:RD ss l[i].cU=ss[k].key:=by
    unfold RD;rw[x];simp only;rw[af y]
   refine pm (gA (hs.av D lf) g hn l[i].cU) ?_;rintro v Z Q rfl;have j:=kP D Q;rw[x];obtain⟨p1,a2,p2,_,p3⟩:=(hs.av C lf).at_ (fun _=>rfl) g y;refine⟨_,rfl,p1,a2,p2,_,p3 3 _ rfl,pm (MA ok (hg.next j) (a:=l[i]) ho.2.2.2.1.2 (by simp only[aS];have:=ho.1;omega) ir om) ?_⟩;rintro v R S rfl;rw[z]at b;refine⟨_,rfl,fun q=> ?_,fun q=>⟨ir,?_⟩⟩
   ·rw[bm q]at b;rw[<-b]
   ·rw[aq q]at b;rw[L];refine ih (i+1) R om om (kP j S) ?_;rw[eU,af m];exact b
 exact key n1 0 G rfl om I rfl
def yO(a:List Int)(window except:Int):Bool:=decide ((1<=a.length/\a.length<=9)/\(∀r∈a,1<=r/\r<=9)/\(0<=window/\window<=1073741824)/\(0<=except/\except<=1073741824))
theorem RE(r:Int)(w:World):Pure Tryz.prog 226 #[.int .i64 r] w fun v _=>v= .bool (decide (¬(1<=r/\r<=9))):=by
 refine F.mo.vc ⟨fun h=>ca Value.bool (TS (fi om)),fun h=>ca Value.bool ?_⟩;rw[kh];omega
theorem jN{A0:Option Addr}{n0 c0:Nat}{b:List Int}(d:bR w A0 1 (b.map fE))(e:b.length=n0)(j:n0<2147483648)(window except:Int):
  Pure Tryz.prog 180 #[.agg #[.slice A0 n0 c0,.int .i64 window,.int .i64 except]] w fun v _=>v= .bool (yO b window except):=by
 have no:¬((1<=b.length/\b.length<=9)/\(∀r∈b,1<=r/\r<=9)/\(0<=window/\window<=1073741824)/\(0<=except/\except<=1073741824))->Value.bool false= .bool (yO b window except):=fun h=>by
  unfold yO;rw[ep h]
 refine F.jN.vc ⟨fun q1=>⟨fun m w1 o=> ?_,fun m y _=>no fun k=>by have:=k.1;omega⟩,fun q1 z _=>no fun k=>by have:=k.1;omega⟩;have h1:=k0 o;refine pm (DS (d.av h1 lf) e j (a:= #[]) (k:= #[]) (p:=fun r=>decide (¬(1<=r/\r<=9))) kF fun w' _ r _=>RE r w') ?_;rintro v q B rfl;refine⟨_,rfl,fun g=>pm (fW _ q) ?_,fun g=>no fun k=>g (Hu.2 fun h=> ?_)⟩
 ·have all:∀r∈b,1<=r/\r<=9:=fun r d=>by
   have:=wJ.1 g r d;simpa using this
  rintro v x C rfl;refine⟨_,rfl,fun i=>pm (fW _ x) ?_,fun i=>no fun k=>hP i k.2.2.1⟩;rintro v D _ rfl;refine⟨_,rfl,ca Value.bool ?_⟩;unfold yO;rw[kh];exact⟨fun k=>⟨om,all,fk i,k⟩,fun k=>k.2.2.2⟩
 ·obtain⟨r,d,hx⟩:=pe.1 h;exact fk hx (k.2.1 r d)
end

theorem mpI:Zz 250 3 3 (.int .i64 0):=⟨kF,kF,fun w=>by kernel_rfl⟩
def Lc(s:Si)(subject:ByteArray)(window except at_:Int)(a:Ap):Bool:=decide (a.cU=s.id/\a.subject=subject/\a.tick<=at_/\a.tick≥at_ - window/\s.id≠except)
def Gm(l:List Ap)(subject:ByteArray)(window except at_:Int)(s:Si):Bool:=l.any (Lc s subject window except at_)
def uA(ss:List Si)(l:List Ap)(subject:ByteArray)(eG:List Int)(window except at_ r:Int):Int:=(eG.count r:Int) - (ss.countP fun s=>decide (s.role=r)&&Gm l subject window except at_ s:Nat)
def xX(g:Int->Int)(k:Nat):List Int:=(List.range k).flatMap fun(j:Nat)=>List.replicate (g ((j:Int)+1)).toNat ((j:Int)+1)
theorem NL(g:Int->Int)(k:Nat):xX g (k+1)=xX g k++List.replicate (g ((k:Int)+1)).toNat ((k:Int)+1):=by
 unfold xX;rw[AG,ME];simp
noncomputable def wj(H:pS)(ss:List Si)(l:List Ap)(subject:ByteArray)(eG:List Int)(window except at_:Int):List Int×Int:=
 if(eP H ss l).2≠0 then([],1)else if yO eG window except=false then([],1)else if subject.size≠32 then([],2)else if ¬(0<=at_/\at_<=1073741824)then([],2)
 else(xX (uA ss l subject eG window except at_) 9,0)
noncomputable def Ld(H:pS)(ss:List Si)(l:List Ap)(subject:ByteArray)(eG:List Int)(window except at_:Int):Bool:=
 decide ((wj H ss l subject eG window except at_).2=0/\(wj H ss l subject eG window except at_).1=[])
structure Pc (w0 w:World) (p1 p2 p3 mb:Nat) (subject:ByteArray) (A:Option Addr) (n c:Nat) (window except at_:Int) (g:Int->Int) (k:Nat):Prop where
 b:Below w0.heap.size w0 w
 s:w.heap[p1]? =some (.cells [Value.string subject].toArray 9 (0,0))
 n:w.heap[p2]? =some (.cells [Value.slice A n c,.int .i64 window,.int .i64 except].toArray 161 (0,0))
 t:w.heap[p3]? =some (.cells [Value.int .i64 at_].toArray 3 (0,0))
 m:∃f,xg w w0.heap.size 3 (.int .i64 0) mb k f/\∀z,(f z).getD (.int .i64 0)= .int .i64 (g z)
section
variable {w0 w w':World} {p1 p2 p3 mb:Nat} {subject:ByteArray} {A0:Option Addr} {n0 c0:Nat} {window except at_:Int} {g:Int->Int} {k:Nat}
theorem Pc.below(h:Pc w0 w p1 p2 p3 mb subject A0 n0 c0 window except at_ g k)(hb:Below w.heap.size w w'):Pc w0 w' p1 p2 p3 mb subject A0 n0 c0 window except at_ g k:=by
 obtain⟨f,h1,a⟩:=h.m;exact⟨kP h.b hb,ag h.s hb,ag h.n hb,ag h.t hb,f,h1.below hb,a⟩
theorem Pc.look(h:Pc w0 w p1 p2 p3 mb subject A0 n0 c0 window except at_ g k){z:Int}(hz:1<=z/\z<=9){K:Int->World->Prop}(a:K (g z) w):
  ae Tryz.prog (Instr.lookup 250 (.map (some mb)) (.int .i64 z) false) w0.heap.size [] w (Ri K):=by
 obtain⟨f,h1,b⟩:=h.m;exact yL h1 mpI ir ⟨_,b z,a⟩
theorem Pc.put(h:Pc w0 w p1 p2 p3 mb subject A0 n0 c0 window except at_ g k){z:Int}(hz:1<=z/\z<=9)(x:Int)(q:k<1000){K:World->Prop}
  (d:∀w',Pc w0 w' p1 p2 p3 mb subject A0 n0 c0 window except at_ (fun y=>if y=z then x else g y) (k+1)->K w'):
  dY Tryz.prog (Instr.mapUpdate 250 (.map (some mb)) (.int .i64 z) (.int .i64 x)) w0.heap.size [] w K:=by
 obtain⟨f,h1,i⟩:=h.m;refine cV h1 mpI ir _ om lf h.b.size fun w' j o a=>d w' ⟨h.b.trans o,(oU h1 a h.s).trans h.s,(oU h1 a h.n).trans h.n,(oU h1 a h.t).trans h.t,_,j,fun y=> ?_⟩
 unfold zW;by_cases e:y=z
 ·rw[bm e,bm e];rfl
 ·rw[aq e,aq e];exact i y
theorem U7(h:Pc w0 w p1 p2 p3 mb subject A0 n0 c0 window except at_ g k)(y:(0<=window/\window<=1073741824)/\(0<=at_/\at_<=1073741824)){p:Nat}{s:Si}(hs:w.heap[p]? =some (.cells (Si.row s).toArray 69 (0,0)))(a:Ap):
  Pure Tryz.prog 182 #[a.val,.pointer (some ⟨p,0,none⟩),.pointer (some ⟨p1,0,none⟩),.pointer (some ⟨p3,0,none⟩),.pointer (some ⟨p2,0,none⟩)] w fun v _=>v= .bool (Lc s subject window except at_ a):=by
 have no:∀{q:Prop},¬q->(Lc s subject window except at_ a=true->q)->Value.bool false= .bool (Lc s subject window except at_ a):=fun h1 r=>ca Value.bool (TS (Hu.2 fun k=>h1 (r k)))
 have un:Lc s subject window except at_ a=true->a.cU=s.id/\a.subject=subject/\a.tick<=at_/\a.tick≥at_ - window/\s.id≠except:=fun k=>fk k
 refine F.ki.vc fun w1 b=> ?_
 have j:=ext_nil b hs;have x:=ext_nil b h.s;have m:=ext_nil b h.t;have o:=ext_nil b h.n;refine⟨_,bz j rfl,fun q1=>⟨_,bS x rfl,fun d=>⟨_,bS m rfl,fun e=>⟨_,bS m rfl,_,bz o rfl,ir,fun i=>⟨_,bz j rfl,_,bz o rfl,ca Value.bool ?_⟩,fun i=>no i fun k=>(un k).2.2.2.1⟩,fun e=>no e fun k=>(un k).2.2.1⟩,fun d=>no d fun k=>(un k).2.1⟩,fun q1=>no q1 fun k=>(un k).1⟩;unfold Lc;rw[kh];exact⟨fun k=>⟨q1,d,e,i,k⟩,fun k=>k.2.2.2.2⟩
end
section
variable {H:pS} {w0 w:World} {A A1 A0:Option Addr} {n c n1 c1 n0 c0:Nat} {ss:List Si} {l:List Ap} {eG:List Int} {subject:ByteArray} {window except at_:Int} {p1 p2 p3 mb:Nat}
def MsR(r:List Int×Int)(v:Value)(w':World):Prop:=∃A n c,v= .tuple #[.slice A n c,.int .i64 r.2]/\aF w' 0 3 A n c 1 (r.1.map fE)
theorem RF{g:Int->Int}(b:∀z,g z<=9){f:Int->Option Value}(hf:∀z,(f z).getD (.int .i64 0)= .int .i64 (g z)){k:Nat}:∀(d j:Nat)(w:World)(A:Option Addr)(n c:Nat),9 - j=d->j<=9->Below w0.heap.size w0 w->xg w w0.heap.size 3 (.int .i64 0) mb k f->aF w w0.heap.size 3 A n c 1 ((xX g j).map fE)->n<=9*j->
  F.ay.AA (some mb) A n c ((j:Int)+1) w0.heap.size w (MsR (xX g 9,0)):=by
 intro d;induction d with
 |zero=>
  intro j w A n c o hj hb hm ho hn;have:j=9:=om;subst this;exact F.ay.AA.step ⟨fun h=>by omega,fun _=>⟨_,_,_,rfl,ho.base (Sy _)⟩⟩
 |succ d ih=>
  intro j w A n c o hj hb hm ho hn;refine F.ay.AA.step ⟨fun _=>yL hm mpI ir ⟨_,hf _,?_⟩,fun h=>by omega⟩;have G:=b ((j:Int)+1);have em:(if(0:Int)>g ((j:Int)+1)then(0:Int)else g ((j:Int)+1))=((g ((j:Int)+1)).toNat:Int):=by split<;>omega
  dsimp only;rw[em];have inner:∀(e i:Nat)(w:World)(A:Option Addr)(n c:Nat),(g ((j:Int)+1)).toNat - i=e->i<=(g ((j:Int)+1)).toNat->Below w0.heap.size w0 w->xg w w0.heap.size 3 (.int .i64 0) mb k f->aF w w0.heap.size 3 A n c 1 ((xX g j++List.replicate i ((j:Int)+1)).map fE)->n<=9*j+i->
    F.ay.Jp (some mb) A n c ((j:Int)+1) ((g ((j:Int)+1)).toNat:Int) i w0.heap.size w (MsR (xX g 9,0)):=by
   intro e;induction e with
   |zero=>
    intro i w A n c he hi hb hm ho hn;have:i=(g ((j:Int)+1)).toNat:=om;subst this;rw[<-NL]at ho;refine F.ay.Jp.step ⟨fun h=>by omega,fun _=>⟨ir,?_⟩⟩;have q:(j:Int)+1+1=((j+1:Nat):Int)+1:=om;rw[q];exact ih (j+1) w A n c om om hb hm ho om
   |succ e r=>
    intro i w A n c he hi hb hm ho hn;refine F.ay.Jp.step ⟨fun _=> ?_,fun h=>by omega⟩;refine sA gK lf ho (x:= .int .i64 ((j:Int)+1)) rfl (by simp[Value.cells,bo]) hb.size om dc fun A' c' y B g2 C=>⟨ir,?_⟩
    have D:=sc i;rw[D];refine r (i+1) y A' (n+1) c' om om (hb.trans C) (hm.same (g2.block mb hm.lt fun e=> ?_)) ?_ om
    ·cases A with
     |none=>cases e
     |some a=>
      cases e;obtain⟨I,E⟩:=ho.cells a rfl;obtain⟨es,clock,m⟩:=hm.isMap;rw[E]at m;cases m
    ·rw[P5,<-ky,eL];exact B
  exact inner _ 0 w A n c rfl om hb hm (by simpa using ho) om
theorem ay(ok:gL H)(hg:bk w)(hs:bR w A 4 (ss.map Si.row))(RC:ss.length=n)(hn:n<1000000)(hl:bR w A1 4 (l.map Ap.row))(OV:l.length=n1)(zc:n1<1000000)(oB:n1<=c1)(hr:bR w A0 1 (eG.map fE))(I:eG.length=n0)(Ie:n0<1000000):
  Pure Tryz.prog 138 #[.slice A n c,.slice A1 n1 c1,.string subject,.agg #[.slice A0 n0 c0,.int .i64 window,.int .i64 except],.int .i64 at_] w (MsR (wj H ss l subject eG window except at_)):=by
 have none_:∀(e:Int)(w':World),MsR ([],e) (.tuple #[.slice none 0 0,.int .i64 e]) w':=fun e w'=>⟨_,_,_,rfl,aF.nil⟩
 refine F.ay.vc (oX _ _ lf fun w1 h1 S l1=>oX _ _ S.size fun G h4 T l4=>oX _ _ (dT S.size T.size) fun w7 h7 U l7=> ?_);have pQ:=kP S T;have J:=kP pQ U;have x1:=ag (ag h1 T) U;have x4:=ag h4 U;refine pm (ct ok (hg.next J) (hs.av J lf) RC om (hl.av J lf) OV om oB) ?_;rintro v xz y rfl;have V:=kP J y;unfold wj;refine⟨_,_,rfl,fun q=>by rw[bm q];exact none_ _ _,fun q=>⟨_,_,_,_,_,eY (ag x4 y),pm (jN (hr.av V lf) I om window except) ?_⟩⟩;rw[aq q];rintro v AD B rfl;have oD:=kP V B;refine⟨_,rfl,fun q1=>by rw[bm q1];exact none_ _ _,fun q1=>⟨_,bS (ag (ag x1 y) B) rfl,fun q2=>by rw[aq q1,bm om];exact none_ _ _,fun q2=>⟨_,bS (ag (ag h7 y) B) rfl,pm (fW _ AD) ?_⟩⟩⟩;rw[aq q1,aq om];rintro v K L rfl;have Q:=kP oD L;refine⟨_,rfl,fun W=>by rw[bm (hP W)];exact none_ _ _,fun W=> ?_⟩;have GM:0<=at_/\at_<=1073741824:=by simpa using W
 rw[aq (fun k=>k GM)];obtain⟨⟨_,v9⟩,vr,vw,_⟩:=fk (show yO eG window except=true by simpa using q1);refine yM (tk:=3) (zv:= .int .i64 0) Q.size fun Eo X M=> ?_
 have zX:=kP Q M;have N:Pc w Eo w.heap.size w1.heap.size G.heap.size K.heap.size subject A0 n0 c0 window except at_ (fun _=>0) 0:=by
  have kk:=((y.mono J.size).trans ((B.mono V.size).trans ((L.mono oD.size).trans (M.mono Q.size))));refine⟨zX,ag (ag (ag (ag x1 y) B) L) M,ag (ag (ag (ag x4 y) B) L) M,ag (ag (ag (ag h7 y) B) L) M,_,X.le Q.size,fun z=>rfl⟩
 refine⟨_,_,_,bz N.n rfl,?_⟩;have Y:∀(d i:Nat)(w':World)(g:Int->Int)(k:Nat),n - i=d->i<=n->k<=100+i->Pc w w' w.heap.size w1.heap.size G.heap.size K.heap.size subject A0 n0 c0 window except at_ g k->n<=16->(∀z,g z=(eG.count z:Int) - ((ss.take i).countP fun s=>decide (s.role=z)&&Gm l subject window except at_ s:Nat))->
   F.ay.tn A1 n1 c1 ⟨w.heap.size,0,none⟩ ⟨w1.heap.size,0,none⟩ ⟨G.heap.size,0,none⟩ (some K.heap.size) A n c n i w.heap.size w' (MsR (xX (uA ss l subject eG window except at_) 9,0)):=by
  intro d;induction d with
  |zero=>
   intro i w' g k Z hi hk hm O o;rw[cd om]at o;have eg:g=uA ss l subject eG window except at_:=funext o;obtain⟨f,f1,f2⟩:=hm.m;rw[eg]at f2;refine F.ay.tn.step ⟨fun h=>by omega,fun _=>RF (fun z=> ?_) f2 9 0 w' none 0 0 rfl om hm.b f1 aF.nil om⟩;have:=QF (a:=z) (l:=eG);unfold uA;omega
  |succ d ih=>
   intro i w' g k Z hi hk hm O o;have C:i<ss.length:=om;have R:=sc i;obtain⟨hb,ad,hA,j,_⟩:=(hs.av hm.b lf).at_ (fun _=>rfl) RC C;have r:1<=ss[i].role/\ss[i].role<=9:=by
    have x:(eP H ss l).2=0:=ek.1 q;unfold eP at x;split at x
    ·cases x
    ·rename_i hq;obtain⟨_,ho⟩:=IH (jP.1 (by simpa using hq)).1 _ (bA C);exact ho.2.1
   have et:∀z,(ss.take (i+1)).countP (fun s=>decide (s.role=z)&&Gm l subject window except at_ s)=(ss.take i).countP (fun s=>decide (s.role=z)&&Gm l subject window except at_ s)+if(decide (ss[i].role=z)&&Gm l subject window except at_ ss[i])=true then 1 else 0:=fun z=>by
    rw[eU,af C,List.countP_append];simp[Th]
   refine F.ay.tn.step ⟨fun _=>⟨hb,ad,hA,_,_,_,_,j,fun UB Tl p41 aoa jy=> ?_⟩,fun h=>by omega⟩;have D:=hm.below (extAll Tl);refine pm (Ck (hl.av D.b lf) OV om (a:= #[]) (k:= #[.pointer (some ⟨p41,0,none⟩),.pointer (some ⟨w.heap.size,0,none⟩),.pointer (some ⟨G.heap.size,0,none⟩),.pointer (some ⟨w1.heap.size,0,none⟩)]) (p:=Lc ss[i] subject window except at_) kF fun w' hb a _=>U7 (D.below hb) ⟨vw,GM⟩ (ag jy hb) a) ?_;rintro v w44 P rfl;have E:=D.below P;refine⟨_,rfl,fun x=>⟨_,bz (ag jy P) rfl,E.look r ⟨?_,E.put r _ om fun WE j49=>⟨ir,?_⟩⟩⟩,fun x=>⟨ir,?_⟩⟩
   ·have h1:=o ss[i].role;have h2:=QF (a:=ss[i].role) (l:=eG);have h3:=OU (p:=fun s=>decide (s.role=ss[i].role)&&Gm l subject window except at_ s) (l:=ss.take i);rw[eH]at h3;simp only[aS];omega
   ·rw[R];refine ih (i+1) WE _ (k+1) om om om j49 O fun z=> ?_
    rw[et];by_cases e:z=ss[i].role
    ·subst e;rw[bm rfl,o,bm (by rw[fi rfl];exact x)];omega
    ·rw[aq e,o,aq (by rw[ep (fun k=>e k.symm)];simp)];omega
   ·rw[R];refine ih (i+1) w44 g k om om om E O fun z=> ?_
    rw[et,o,aq (by unfold Gm;rw[x];simp)];omega
 have l8:∀(d i:Nat)(w':World)(g:Int->Int)(k:Nat),n0 - i=d->i<=n0->k<=i->Pc w w' w.heap.size w1.heap.size G.heap.size K.heap.size subject A0 n0 c0 window except at_ g k->(∀z,g z=((eG.take i).count z:Int))->
   F.ay.L8 A n c A1 n1 c1 ⟨w.heap.size,0,none⟩ ⟨w1.heap.size,0,none⟩ ⟨G.heap.size,0,none⟩ (some K.heap.size) A0 n0 c0 n0 i w.heap.size w' (MsR (xX (uA ss l subject eG window except at_) 9,0)):=by
  have O:n<=16:=by
   have x:(eP H ss l).2=0:=ek.1 q;unfold eP at x;split at x
   ·cases x
   ·rename_i hq;have:=(jP.1 (show pJ ss=true by simpa using hq)).2;omega
  intro d;induction d with
  |zero=>
   intro i w' g k Z hi hk hm o;rw[cd om]at o;exact F.ay.L8.step ⟨fun h=>by omega,fun _=>Y n 0 w' g k rfl om om hm O (fun z=>by rw[o];simp)⟩
  |succ d ih=>
   intro i w' g k Z hi hk hm o;have C:i<eG.length:=om;have R:=sc i;obtain⟨hb,ad,hA,j,_⟩:=(hr.av hm.b lf).at_ (fun _=>rfl) I C;have r:=vr _ (bA C);refine F.ay.L8.step ⟨fun _=>⟨hb,ad,hA,_,j,hm.look r ⟨?_,hm.put r _ om fun Js j34=>⟨ir,?_⟩⟩⟩,fun h=>by omega⟩
   ·have h1:=o eG[i];have h2:=QF (a:=eG[i]) (l:=eG.take i);rw[eH]at h2;simp only[aS];omega
   ·rw[R];refine ih (i+1) Js _ (k+1) om om om j34 fun z=> ?_
    rw[eU,af C,List.count_append,FL,List.count_singleton];by_cases e:z=eG[i]
    ·subst e;rw[bm rfl,o];simp
    ·rw[aq e,o,aq (by simpa using fun k=>e k.symm)];omega
 exact l8 n0 0 Eo _ 0 rfl om om N (fun z=>by simp)
theorem iq(ok:gL H)(hg:bk w)(hs:bR w A 4 (ss.map Si.row))(b:ss.length=n)(hn:n<1000000)(hl:bR w A1 4 (l.map Ap.row))(d:l.length=n1)(e:n1<1000000)(h:n1<=c1)(i:bR w A0 1 (eG.map fE))(a:eG.length=n0)(j:n0<1000000):
  Pure Tryz.prog 83 #[.slice A n c,.slice A1 n1 c1,.string subject,.agg #[.slice A0 n0 c0,.int .i64 window,.int .i64 except],.int .i64 at_] w fun v _=>v= .bool (Ld H ss l subject eG window except at_):=by
 refine F.iq.vc fun w1 m=> ?_
 have h1:=k0 m;refine pm (ay ok (hg.next h1) (hs.av h1 lf) b hn (hl.av h1 lf) d e h (i.av h1 lf) a j) ?_;rintro v o r ⟨A2,n2,c2,rfl,ho⟩;have hlen:=ho.len;rw[eb]at hlen;unfold Ld;refine⟨_,_,_,_,rfl,fun q=>ca Value.bool ?_,fun q=>ca Value.bool (TS (ep fun k=>q k.1))⟩;rw[kh];exact⟨fun k=>⟨q,ew om⟩,fun k=>by rw[k.2]at hlen;simp at hlen;omega⟩
end

theorem ahS{α:Type}{row:α->List Value}{sz:Nat}{w:World}{A:Option Addr}{n:Nat}{v:List α}{a:Addr}(h:bR w A sz (v.map row))(c:∀x,(row x).length=sz)(hl:v.length=n){i:Nat}(hi:i<v.length)(d:A=some a):
  aa w (a.add ((i:Int).toNat*sz)) (row v[i])/\∀k u,(row v[i])[k]? =some u->aa w ((a.add ((i:Int).toNat*sz)).add k) [u]:=by
 obtain⟨_,g,b,h1,e⟩:=h.at_ c hl hi;rw[d]at b;cases b;exact⟨h1,e⟩
theorem Gn{o:Option Nat}:(u6 o≥0)↔o≠none:=by cases o<;>simp[u6]<;>omega
theorem Gp(n:Int)(w:World):Pure Tryz.prog 228 #[.int .i64 n] w fun v _=>v= .bool (decide (1<=n/\n<=9)):=by
 refine F.mR.vc ⟨fun h=> ?_,fun h=> ?_⟩
 ·refine ca Value.bool ?_;rw[kh];omega
 ·refine ca Value.bool ?_;exact(ep om).symm

section
variable {w:World} {A0 A1 A2:Option Addr} {n0 c0 n1 c1 n2 c2:Nat} {ps:List Pa} {hs:List Ho} {xs:List Rm}
theorem Le(hp:nP w A0 n0 A1 n1 A2 n2 c2 ps hs xs)(x:Rm):
  Pure Tryz.prog 187 #[.agg #[.slice A0 n0 c0,.slice A1 n1 c1,.slice A2 n2 c2],x.val] w fun v _=>v= .int .i64
   (if x.r.kind=2 then(if ¬(x.r.a<x.r.b/\(1<=x.r.a/\x.r.a<=9)/\(1<=x.r.b/\x.r.b<=9))then 2 else 0)
   else if x.r.kind=3 then(if ¬(1<=x.r.a/\x.r.a<=9)then 2 else if vX hs x.r.b=none then 7 else 0)
   else if x.r.b≠0 then 2 else if qX ps x.r.a=none then 7 else 0):=by
 have o:=hp.c.nh;have q:=hp.c.np;refine F.qA.vc ⟨fun e=> ?_,fun e=>⟨fun g=> ?_,fun g=> ?_⟩⟩
 ·rw[bm e];refine⟨fun h w1 _=> ?_,fun h n _=> ?_⟩
  ·rw[bm (fun k=>absurd k.1 om)]
  refine pm (Gp _ _) ?_;rintro v H _ rfl;refine⟨_,rfl,fun h1=> ?_,fun h1=> ?_⟩
  ·have h1:=hP h1;rw[bm (fun k=>h1 k.2.1)]
  have h1:=fk (ph _|>.mp h1);refine pm (Gp _ _) ?_;rintro v I _ rfl;refine⟨_,rfl,fun d=> ?_,fun d=> ?_⟩
  ·have d:=hP d;rw[bm (fun k=>d k.2.2)]
  have d:=fk (ph _|>.mp d);rw[aq (fun k=>k ⟨om,h1,d⟩)]
 ·rw[aq e,bm g];intro J z;have hw:=k0 z;refine pm (Gp _ _) ?_;rintro v K A rfl;have hw:=kP hw A;refine⟨_,rfl,fun h1=> ?_,fun h1 B C i=> ?_⟩
  ·rw[bm (hP h1)]
  have h1:=fk (ph _|>.mp h1);refine pm (F.dP.vc (R:=fun v _=>v= .bool (decide (u6 (vX hs x.r.b)≥0))) (pm (AB (p:=fun h=>decide (h.id=x.r.b)) (hp.c.av hw).h hp.c.lh om kF fun w' hb y hy=> ?_) ?_)) ?_
  ·exact F.mS.vc fun w1 j=>⟨_,bz (ag (ag i hb) (k0 j)) rfl,rfl⟩
  ·rintro v n _ rfl;exact⟨_,rfl,rfl⟩
  ·rintro v D _ rfl;refine⟨_,rfl,fun d=> ?_,fun d=> ?_⟩
   ·have d:=hP d;rw[aq (fun k=>k h1),bm (ek.1 fun k=>d (Gn.2 k))]
   ·have d:=fk (ph _|>.mp d);rw[aq (fun k=>k h1),aq (Gn.1 d)]
 ·rw[aq e,aq g];refine⟨fun h w1 _=>by rw[bm h],fun h L l E G m=> ?_⟩;have hw:=k0 l;rw[aq h];refine pm (F.di.vc (R:=fun v _=>v= .bool (decide (u6 (qX ps x.r.a)≥0))) (pm (xM (p:=fun h=>decide (h.id=x.r.a)) (hp.c.av hw).p hp.c.lp om kF fun w' hb y hy=> ?_) ?_)) ?_
  ·exact F.mT.vc fun w1 j=>⟨_,bz (ag (ag m hb) (k0 j)) rfl,rfl⟩
  ·rintro v n _ rfl;exact⟨_,rfl,rfl⟩
  ·rintro v D _ rfl;refine⟨_,rfl,fun d=> ?_,fun d=> ?_⟩
   ·have d:=hP d;rw[bm (ek.1 fun k=>d (Gn.2 k))]
   ·have d:=fk (ph _|>.mp d);rw[aq (Gn.1 d)]
theorem ne_nil{s:ByteArray}:s≠⟨#[]⟩↔s.size≠0:=not_congr pI
theorem Lg(hg:bk w)(hp:nP w A0 n0 A1 n1 A2 n2 c2 ps hs xs){i:Nat}(hi:i<xs.length):
  Pure Tryz.prog 139 #[.agg #[.slice A0 n0 c0,.slice A1 n1 c1,.slice A2 n2 c2],.int .i64 (i:Int)] w fun v _=>v= .int .i64 (yJ ps hs (dD (xs.take i)) xs[i].r):=by
 have hl:=hp.l;have hn:=hp.n;have Y:=hp.k;have Z:=hp.c.lh;have d:=hp.f _ (bA hi);have hlen:=d.s.len;have Ny:=d.l;obtain⟨hb,a,E,_,_⟩:=hp.at_ hi;unfold yJ;refine F.qx.vc ⟨hb,a,E,fun K L=> ?_⟩;have hw:=k0 L;refine⟨_,_,_,_,_,_,_,_,_,(ahS (hp.av hw).r (fun _=>rfl) hl hi E).1,fun jK M=> ?_⟩;have hw:=kE hw M;refine pm (US (p:=fun s=> !vR s) (d.av hw).f d.l om kF fun w' hb s hs=> ?_) ?_
 ·refine F.mO.vc (pm (rD (hg.next (kP hw hb)) (d.s.pF s hs)) ?_);rintro v K _ rfl;exact⟨_,rfl,by cases vR s<;>rfl⟩
 rintro v xz N rfl;have hw:=kP hw N;refine⟨_,rfl,fun h=> ?_,fun h=> ?_⟩
 ·rw[bm];rintro⟨k,_⟩;obtain⟨s,hs,G⟩:=pe.1 h;rw[gu.1 k s hs]at G;cases G
 have O:xs[i].r.pF.all vR=true:=gu.2 fun s hs=>by
  have:=wJ.1 h s hs;simpa using this
 refine pm (Cr (hg.next hw) d.s.low) ?_;rintro v xe P rfl;have hw:=kP hw P;refine⟨_,rfl,fun h=> ?_,fun h=> ?_⟩
 ·rw[bm (fun k=>by rw[k.2.1]at h;cases h)]
 have H:=ph _|>.mp h
 refine pm (Cr (hg.next hw) d.s.high) ?_;rintro v Q R rfl;have hw:=kP hw R;refine⟨_,rfl,fun h=> ?_,fun h=> ?_⟩
 ·rw[bm (fun k=>by rw[k.2.2]at h;cases h)]
 have I:=ph _|>.mp h
 rw[aq (fun k=>k ⟨O,H,I⟩)];refine⟨fun h=> ?_,fun h1=>⟨fun h=> ?_,fun J=>⟨om,fun z S A=> ?_⟩⟩⟩
 ·rw[bm (fun k=>by omega)]
 ·rw[bm (fun k=>by omega)]
 rw[aq (fun k=>k ⟨om,om⟩)];have T:(i:Int).toNat=i:=om;rw[T];have U:bR Q A2 7 ((xs.take i).map Rm.row):=by
  have:=(hp.av hw).r.take i;rwa [<-En]at this
 refine pm (Ro (n:=i) (c:=c2) (p:=fun y=>decide (y.r.name=xs[i].r.name)) U (by rw[eH];omega) om kF fun w' hb y hy=> ?_) ?_
 ·exact F.mP.vc fun w1 V=>⟨_,bz (ag (ag A hb) (k0 V)) rfl,rfl⟩
 rintro v W B rfl;have hw:=kP hw B;have X:((dD (xs.take i)).any fun x=>decide (x.name=xs[i].r.name))=(xs.take i).any fun y=>decide (y.r.name=xs[i].r.name):=by
  unfold dD;rw[List.any_map];rfl
 rw[X];have cell:∀k u,(xs[i].row)[k]? =some u->aa W ((⟨z,0,none⟩:Addr).add k) [u]:=fun k u hu=>bz (ag A B) hu
 refine⟨_,rfl,fun h=> ?_,fun h=>⟨_,cell 1 _ rfl,fun h1=> ?_,fun h1=>⟨_,cell 1 _ rfl,fun J=> ?_,fun J=>⟨_,cell 1 _ rfl,fun C=> ?_,fun C=> ?_⟩⟩⟩⟩
 ·rw[bm h]
 ·rw[aq (by rw[h];decide),bm (.inl om)]
 ·rw[aq (by rw[h];decide),bm (.inr om)]
 ·rw[aq (by rw[h];decide),aq om,bm C];refine⟨_,_,_,cell 2 _ rfl,fun D=> ?_,fun D=>⟨_,cell 5 _ rfl,fun e=> ?_,fun e=>⟨_,cell 6 _ rfl,fun g=> ?_,fun g=>⟨_,cell 3 _ rfl,fun m=>⟨_,cell 4 _ rfl,fun o=> ?_,fun o=>⟨_,cell 3 _ rfl,fun b=>absurd m b,fun b=> ?_⟩⟩,fun m=>⟨_,cell 3 _ rfl,fun b=>⟨_,cell 4 _ rfl,fun j=>⟨_,cell 3 _ rfl,_,cell 4 _ rfl,?_⟩,fun j=> ?_⟩,fun b=>absurd m b⟩⟩⟩⟩⟩
  ·rw[bm (.inl om)]
  ·rw[bm (.inr (.inl e))]
  ·rw[bm (.inr (.inr g))]
  ·rw[aq (by rintro(k|k|k)<;>omega),bm (.inl ⟨pI.1 m,pI.1 o⟩)]
  ·have o:¬xs[i].r.high.size=0:=fun k=>o (pI.2 k)
   have m:=pI.1 m;rw[aq (by rintro(k|k|k)<;>omega),aq (by rintro(k|k)<;>omega)]
  ·have b:=ne_nil.1 b;have j:=ne_nil.1 j;have v1:=Ek H b;have v2:=Ek I j;rw[aq (by rintro(k|k|k)<;>omega)];have cmp:=oT (hg.next hw) (d.s.low.xf v1) (d.s.high.xf v2);rw[<-gV v1,<-gV v2]at cmp;refine pm cmp ?_;rintro v FM _ rfl;refine⟨_,rfl,fun k=> ?_,fun k=> ?_⟩
   ·rw[bm (.inr ⟨b,j,gk.1 k⟩)]
   ·rw[aq];rintro(q|q)
    ·exact b q.1
    ·exact k (gk.2 q.2.2)
  ·have b:=ne_nil.1 b;have j:xs[i].r.high.size=0:=ek.1 fun k=>j (ne_nil.2 k)
   rw[aq (by rintro(k|k|k)<;>omega),aq (by rintro(k|k)<;>omega)]
 ·rw[aq (by rw[h];decide),aq om,aq C];refine⟨_,_,_,cell 2 _ rfl,fun D=> ?_,fun D=>⟨_,cell 3 _ rfl,fun e=> ?_,fun e=>⟨_,cell 4 _ rfl,fun g=> ?_,fun g=>⟨_,_,_,_,_,_,_,_,_,eY (ag A B),?_⟩⟩⟩⟩
  ·rw[bm (.inl om)]
  ·rw[bm (.inr (.inl (ne_nil.1 e)))]
  ·rw[bm (.inr (.inr (ne_nil.1 g)))]
  ·have e:xs[i].r.low.size=0:=ek.1 fun k=>e (ne_nil.2 k)
   have g:xs[i].r.high.size=0:=ek.1 fun k=>g (ne_nil.2 k)
   rw[aq (by rintro(k|k|k)<;>omega)];refine pm (Le (hp.av hw) xs[i]) ?_;rintro v Uj _ rfl;exact⟨_,rfl,rfl⟩
theorem AH{i:Nat}(hi:i<xs.length):dD (xs.take i)++[xs[i].r]=dD (xs.take (i+1)):=by
 unfold dD;rw[eU,af hi,eL];rfl
theorem wW(hg:bk w)(hp:nP w A0 n0 A1 n1 A2 n2 c2 ps hs xs):
  Pure Tryz.prog 84 #[.agg #[.slice A0 n0 c0,.slice A1 n1 c1,.slice A2 n2 c2]] w fun v _=>v= .tuple #[.int .i64 (oE ps hs (dD xs)).1,.int .i64 (oE ps hs (dD xs)).2]:=by
 have hl:=hp.l;have hn:=hp.n;unfold oE;refine F.dJ.vc fun w1 e=> ?_
 have hw:=k0 e;refine pm (aM (hg.next hw) (hp.c.av hw)) ?_;rintro v g j rfl;have hw:=kP hw j;refine⟨_,rfl,fun h=> ?_,fun h=>⟨fun h1=> ?_,fun h1=> ?_⟩⟩
 ·rw[bm h]
 ·rw[aq h,bm (by simp[dD];omega)]
 ·rw[aq h,aq (by simp[dD];omega)];have key:∀(d i:Nat)(w':World),n2 - i=d->i<=n2->Below w.heap.size w w'->F.dJ.L7 n2 i A0 n0 c0 A1 n1 c1 A2 n2 c2 w.heap.size w' fun v _=>v= .tuple #[.int .i64 (Zr ps hs i (dD (xs.take i)) (dD (xs.drop i))).1,.int .i64 (Zr ps hs i (dD (xs.take i)) (dD (xs.drop i))).2]:=by
   intro d;induction d with
   |zero=>
    intro i w' k hi hw;rw[de om];exact F.dJ.L7.step ⟨fun h=>by omega,fun _=>rfl⟩
   |succ d ih=>
    intro i w' k hi hw;have a:i<xs.length:=om;refine F.dJ.L7.step ⟨fun _=> ?_,fun h=>by omega⟩;refine pm (Lg (hg.next hw) (hp.av hw) a) ?_;rintro v m o rfl;have q:=sc i;have b:dD (xs.drop i)=xs[i].r::dD (xs.drop (i+1)):=by
     unfold dD;rw[dp a];rfl
    rw[b,Zr];refine⟨_,rfl,fun h=> ?_,fun h=>⟨ir,?_⟩⟩
    ·rw[bm h]
    ·rw[aq h,AH a,q];exact ih (i+1) m om om (kP hw o)
  exact key n2 0 g rfl om hw
end

theorem NM(l:List Rat)(x:Rat):(l++[x]).sum=l.sum+x:=by
 induction l with
 |nil=>simp[Rat.add_zero,Rat.zero_add]
 |cons a r ih=>rw[wo,vv,vv,ih,Rat.add_assoc]
theorem U8{k:Nat}:∀{l:List Rat},(∀x∈l,Sm k x)->Sm ((k+1)*l.length+1) l.sum:=by
 intro l;induction l with
 |nil=>intro _;exact Sm.zero om
 |cons a r ih=>
  intro h;rw[vv];refine((h a sm).add (ih fun x hx=>h x (by simp[hx]))).mono ?_;rw[eR,oe];omega
def NN(ps:List Pa)(l:List Sw)(x:Ho×ByteArray):Rat:=qR x.2*eE (tP ps Pa.iz) (GQ l x.1.id)
section
variable {w:World} {A0 A1 A2 A:Option Addr} {n0 c0 n1 c1 n2 c2 n c:Nat} {ps:List Pa} {hs:List Ho} {xs:List Rm} {l:List Sw}
theorem MD(b:gq w A0 n0 A1 n1 ps hs)(a:eJ ps hs l)(hn:l.length<=40)(id:Int):Sm 12013 (eE (tP ps Pa.iz) (GQ l id)):=by
 have gW:=(a.ld hn).filter fun s=>decide (s.hold=id)
 refine(wT fun s d=>(gW.WK b d).1.1).mono ?_;have:=UR a id;have:=a.c.lp;unfold GQ at*;omega
theorem RG(a:gq w A0 n0 A1 n1 ps hs)(b:eJ ps hs l)(hn:l.length<=40){x:Ho×ByteArray}(d:vR x.2=true)(e:mc x.2):Sm 13013 (NN ps l x):=
 ((lC d e).mul (MD a b hn x.1.id)).mono om
theorem U9{x:Rm}(hx:xS w x)(hf:x.r.pF.all vR=true){y:Ho×ByteArray}(hy:y∈hs.zip x.r.pF):vR y.2=true/\mc y.2:=by
 obtain⟨a,b⟩:=y;have:=(List.of_mem_zip hy).2;exact⟨gu.1 hf _ this,hx.s.pF _ this⟩
theorem IJ(b:gq w A0 n0 A1 n1 ps hs)(a:eJ ps hs l)(hn:l.length<=40){x:Rm}(hx:xS w x)(hf:x.r.pF.all vR=true)(k:Nat):Sm 90000 (((hs.zip x.r.pF).take k).map (NN ps l)).sum:=by
 refine(U8 (k:=13013) fun y hy=> ?_).mono ?_
 ·obtain⟨z,hz,rfl⟩:=gX.1 hy;obtain⟨h1,d⟩:=U9 hx hf (k7 hz);exact RG b a hn h1 d
 ·have e:=a.c.lh;rw[eb,eH,Jo];have:min k (min hs.length x.r.pF.length)<=6:=om;have:=hO 13014 this;omega
theorem ZI(ih:hs.Pairwise fun a b=>a.id<b.id){i:Nat}(hi:i<hs.length):vX hs hs[i].id≠none:=by
 intro h;unfold vX at h;rw[FV]at h;have:=h _ (bA hi);simp at this
theorem RH(hg:bk w)(hp:nP w A0 n0 A1 n1 A2 n2 c2 ps hs xs)(h:bR w A 3 (l.map Sw.row))(hl:l.length=n)(I:n<=c)(hn:n<=40)(G:gY ps hs l=0){x:Rm}(hx:xS w x)(hf:x.r.pF.all vR=true)(X:x.r.pF.length=hs.length):
  Pure Tryz.prog 88 #[.agg #[.slice A0 n0 c0,.slice A1 n1 c1,.slice A2 n2 c2],x.val,.slice A n c] w fun v _=>v= .string (rS (Mx ps hs x.r l)):=by
 have j:=fv G;have J:=hp.c.lh;have K:=hp.c.nh;have L:=hx.l;refine F.eT.vc fun w1 M=> ?_
 have key:∀(d i:Nat)(w':World),n1 - i=d->i<=n1->Below w.heap.size w w'->F.eT.L3 A n c (rS (((hs.zip x.r.pF).take i).map (NN ps l)).sum) A1 n1 c1 n1 i A0 n0 c0 A1 n1 c1 A2 n2 c2 x.r.name x.r.kind x.A x.n x.c x.r.low x.r.high x.r.a x.r.b w.heap.size w' fun v _=>v= .string (rS (Mx ps hs x.r l)):=by
  intro d;induction d with
  |zero=>
   intro i w' N hi hw;refine F.eT.L3.step ⟨fun h=>by omega,fun _=> ?_⟩;rw[cd (by rw[Jo];omega)];rfl
  |succ d ih=>
   intro i w' N hi hw;have H:i<hs.length:=om;have o:i<x.r.pF.length:=om;have q:i<(hs.zip x.r.pF).length:=by rw[Jo];omega
   have O:=sc i;have P:((hs.zip x.r.pF).take (i+1)).map (NN ps l)=((hs.zip x.r.pF).take i).map (NN ps l)++[NN ps l (hs[i],x.r.pF[i])]:=by
    rw[eU,af q,eL,List.getElem_zip];rfl
   obtain⟨hb,a,Q,e,_⟩:=((hp.av hw).c.h).at_ (fun _=>rfl) J H;refine F.eT.L3.step ⟨fun _=>⟨hb,a,Q,_,_,_,_,_,_,_,e,fun Y R=> ?_⟩,fun h=>by omega⟩;have hw:=kE hw R;refine pm (py (hg.next hw) (hp.av hw).c (h.av hw lf) hl I hn hs[i].id) ?_;rintro v Z S rfl;have hw:=kP hw S;unfold QV;rw[aq (fun k=>k G),aq (ZI j.c.ih H)];refine⟨_,_,_,_,_,_,_,rfl,fun Ar y=> ?_⟩;have hw:=kE hw y;obtain⟨z,T,B,C,_⟩:=((hx.av hw).f).at_ (fun _=>rfl) L o;refine⟨z,T,B,_,C,fun CR U=> ?_⟩;have hw:=kE hw U;have D:=gu.1 hf _ (bA o);have g:=hx.s.pF _ (bA o);have m:=Rn (hg.next hw) (g.xf D) ((MD hp.c j om hs[i].id).mono om);rw[<-gV D]at m;refine pm m ?_;rintro v Ih E rfl;have hw:=kP hw E;refine⟨_,rfl,pm (Rl (hg.next hw) ((IJ hp.c j om hx hf i).mono om) ((RG (x:=(hs[i],x.r.pF[i])) hp.c j om D g).mono om)) ?_⟩;rintro v V W rfl;refine⟨_,rfl,ir,?_⟩;have:=ih (i+1) V om om (kP hw W);rw[P,NM]at this;rw[O];exact this
 have:=key n1 0 w1 rfl om (k0 M);simp only[LO,LR,List.sum_nil,<-s0]at this;exact this
theorem IK(hg:bk w){x:Rm}(hx:xS w x)(o:eV x.r.low=true)(y:eV x.r.high=true){s:Rat}(z:Sm 90000 s):
  Pure Tryz.prog 87 #[x.val,.string (rS s)] w fun v _=>v= .string (rS (nz x.r s)):=by
 have g:kG s:=z.mono om;have low:∀w',Below w.heap.size w w'->x.r.low≠⟨#[]⟩->¬(x.r.high.size≠0/\qR x.r.high<s)->Pure Tryz.prog 140 #[.string (rS s),.string x.r.low] w' fun B j=>∃(i8:Int),B=(.int .i64 i8)/\((((i8:Int)<(0:Int))->(Pure Tryz.prog 141 #[(.string (rS s)),(.string x.r.low)] j fun i C=>∃(b:ByteArray),i=(.string b)/\(Value.string b= .string (rS (nz x.r s)))))/\(¬((i8:Int)<(0:Int))->(Value.string (⟨#[48]⟩:ByteArray)= .string (rS (nz x.r s))))):=by
  intro w' hw a D;have a:=ne_nil.1 a;have v1:=Ek o a;have d:=hx.s.low.xf v1;have c1:=oT (hg.next hw) g d;rw[<-gV v1]at c1;unfold nz;rw[aq D];refine pm c1 ?_;rintro v j E rfl;refine⟨_,rfl,fun k=> ?_,fun k=> ?_⟩
  ·have c2:=IA (hg.next (kP hw E)) g d;rw[<-gV v1]at c2;refine pm c2 ?_;rintro v C _ rfl;exact⟨_,rfl,by rw[bm ⟨a,jn.1 k⟩]⟩
  ·rw[aq (fun q=>k (jn.2 q.2)),<-s0]
 have none_:¬(x.r.high.size≠0/\qR x.r.high<s)->¬(x.r.low≠⟨#[]⟩)->Value.string (⟨#[48]⟩:ByteArray)= .string (rS (nz x.r s)):=by
  intro h1 e;unfold nz;rw[aq h1,aq (fun k=>e (ne_nil.2 k.1)),<-s0]
 refine F.pH.vc ⟨fun h w1 G=> ?_,fun h=>⟨fun h1 H I=> ?_,fun h1 L _=> ?_⟩⟩
 ·have hw:=k0 G;have a:=ne_nil.1 h;have v1:=Ek y a;have d:=hx.s.high.xf v1;have m:=oT (hg.next hw) g d;rw[<-gV v1]at m;refine pm m ?_;rintro v J K rfl;have hw:=kP hw K;refine⟨_,rfl,fun k=> ?_,fun k=> ?_⟩
  ·have cs:=IA (hg.next hw) g d;rw[<-gV v1]at cs;refine pm cs ?_;rintro v M _ rfl;refine⟨_,rfl,?_⟩;unfold nz;rw[bm ⟨a,gk.1 k⟩]
  ·have hn:¬(x.r.high.size≠0/\qR x.r.high<s):=fun q=>k (gk.2 q.2)
   exact⟨fun e=>low J hw e hn,fun e=>none_ hn e⟩
 ·exact low H (k0 I) h1 fun q=>h (ne_nil.2 q.1)
 ·exact none_ (fun q=>h (ne_nil.2 q.1)) h1
theorem NO{w:World}{x:Rm}(hx:xS w x)(b:eV x.r.low=true)(d:eV x.r.high=true){s:Rat}(a:Sm 90000 s):kG (nz x.r s):=by
 unfold nz;split
 ·rename_i h;exact(a.sub (lC (Ek d h.1) hx.s.high)).mono om
 ·split
  ·rename_i h;exact(a.sub (lC (Ek b h.1) hx.s.low)).mono om
  ·exact Sm.zero om
theorem Gr(hg:bk w)(hp:nP w A0 n0 A1 n1 A2 n2 c2 ps hs xs)(h:bR w A 3 (l.map Sw.row))(hl:l.length=n)(g:n<=c)(hn:n<=40)(b:gY ps hs l=0){x:Rm}(hx:xS w x)(a:Gg ps hs x.r)(d:x.r.kind=1):
  Pure Tryz.prog 85 #[.agg #[.slice A0 n0 c0,.slice A1 n1 c1,.slice A2 n2 c2],x.val,.slice A n c] w fun v _=>v= .bool (iO ps hs l x.r):=by
 have e:Sm 90000 (Mx ps hs x.r l):=by
  have:=IJ hp.c (fv b) om hx a.pF (hs.zip x.r.pF).length;rwa [List.take_length]at this
 refine F.mm.vc fun w1 i=> ?_
 have hw:=k0 i;refine pm (RH (hg.next hw) (hp.av hw) (h.av hw lf) hl g hn b (hx.av hw) a.pF (a.sum d)) ?_;rintro v m j rfl;have hw:=kP hw j;refine⟨_,rfl,pm (IK (hg.next hw) (hx.av hw) a.low a.high e) ?_⟩;rintro v o k rfl;have hw:=kP hw k;refine⟨_,rfl,pm (NG (hg.next hw) (NO hx a.low a.high e)) ?_⟩;rintro v q _ rfl;refine⟨_,rfl,?_⟩;unfold iO;rw[bm d];refine ca Value.bool ?_;rw[kh];exact not_congr Ay

theorem wX(d:gq w A0 n0 A1 n1 ps hs){id:Int}{i:Nat}(hi:qX ps id=some i):
  Pure Tryz.prog 145 #[.agg #[.slice A0 n0 c0,.slice A1 n1 c1,.slice A2 n2 c2],.int .i64 id] w fun v _=>v= .int .i64 (wU ps id):=by
 have j:=d.np;obtain⟨h,hid⟩:=Cc hi;refine F.qy.vc fun w1 e p2 o g=> ?_
 have hw:=k0 e;refine pm (xM (p:=fun p=>decide (p.id=id)) (d.av hw).p d.lp om kF fun w' hb y hy=> ?_) ?_
 ·exact F.mQ.vc fun w1 e=>⟨_,bS (ag (ag g hb) (k0 e)) rfl,rfl⟩
 ·rintro v q k rfl;have hw:=kP hw k;show ∃i3:Int,Value.int .i64 (u6 (qX ps id))=_/\_
  rw[hi];obtain⟨hb,a,m,_,b⟩:=((d.av hw).p).at_ (fun _=>rfl) d.lp h;refine⟨_,rfl,hb,a,m,_,b 2 _ rfl,?_⟩;unfold wU;rw[hi,LS,af h]
theorem Lh(E:gq w A0 n0 A1 n1 ps hs)(h:bR w A 3 (l.map Sw.row))(hl:l.length=n)(hn:n<=40)(G:∀s∈l,∃i,qX ps s.aw=some i)(x:Rm):
  Pure Tryz.prog 89 #[.agg #[.slice A0 n0 c0,.slice A1 n1 c1,.slice A2 n2 c2],x.val,.slice A n c] w fun v _=>v= .bool (l.any fun s=>l.any fun t=>decide (s.hold=t.hold)&&(decide (wU ps s.aw=x.r.a)&&decide (wU ps t.aw=x.r.b))):=by
 have outer:∀(d i:Nat)(w':World),n - i=d->i<=n->Below w.heap.size w w'->F.bC.L2 A n c A n c n i A0 n0 c0 A1 n1 c1 A2 n2 c2 x.r.name x.r.kind x.A x.n x.c x.r.low x.r.high x.r.a x.r.b w.heap.size w' fun v _=>v= .bool ((l.drop i).any fun s=>l.any fun t=>decide (s.hold=t.hold)&&(decide (wU ps s.aw=x.r.a)&&decide (wU ps t.aw=x.r.b))):=by
  intro d;induction d with
  |zero=>
   intro i w' H hi hw;rw[de om];exact F.bC.L2.step ⟨fun h=>by omega,fun _=>rfl⟩
  |succ d ih=>
   intro i w' H hi hw;have m:i<l.length:=om;have I:=sc i;obtain⟨ip,J⟩:=G _ (bA m);obtain⟨hb,a,o,g,_⟩:=(h.av hw lf).at_ (fun _=>rfl) hl m;refine F.bC.L2.step ⟨fun _=>⟨hb,a,o,_,_,_,g,fun K L=> ?_⟩,fun h=>by omega⟩;have hw:=kE hw L;rw[dp m,List.any_cons];have inner:∀(e j:Nat)(w':World),n - j=e->j<=n->Below w.heap.size w w'->F.bC.L5 A n c A n c n i A n c n j A0 n0 c0 A1 n1 c1 A2 n2 c2 x.r.name x.r.kind x.A x.n x.c x.r.low x.r.high x.r.a x.r.b l[i].hold l[i].aw l[i].aV w.heap.size w' fun v _=>v= .bool (((l.drop j).any fun t=>decide (l[i].hold=t.hold)&&(decide (wU ps l[i].aw=x.r.a)&&decide (wU ps t.aw=x.r.b)))||
     ((l.drop (i+1)).any fun s=>l.any fun t=>decide (s.hold=t.hold)&&(decide (wU ps s.aw=x.r.a)&&decide (wU ps t.aw=x.r.b)))):=by
    intro e;induction e with
    |zero=>
     intro j w' he hj hw;rw[de (i:=j) om,List.any_nil,Ip];refine F.bC.L5.step ⟨fun h=>by omega,fun _=>⟨ir,?_⟩⟩;rw[I];exact ih (i+1) w' om om hw
    |succ e q=>
     intro j w' he hj hw;have y:j<l.length:=om;have z:=sc j;obtain⟨jp,B⟩:=G _ (bA y);obtain⟨hb,a,o,g,_⟩:=(h.av hw lf).at_ (fun _=>rfl) hl y;rw[dp y,List.any_cons];refine F.bC.L5.step ⟨fun _=>⟨hb,a,o,_,_,_,g,fun h1 T M=> ?_,fun h1=>⟨ir,fun N C=> ?_⟩⟩,fun h=>by omega⟩
     ·have hw:=kE hw M;refine pm (wX (E.av hw) J) ?_;rintro v O P rfl;have hw:=kP hw P;rw[fi h1,vd];refine⟨_,rfl,fun k=> ?_,fun k=>⟨ir,?_⟩⟩
      ·refine pm (wX (E.av hw) B) ?_;rintro v Q R rfl;rw[fi k,vd];refine⟨_,rfl,fun D=> ?_,fun D=>⟨ir,?_⟩⟩
       ·rw[fi D];rfl
       ·rw[ep D,Ip,z];have:=q (j+1) Q om om (kP hw R);rw[fi k]at this;simp only[vd]at this;exact this
      ·rw[ep k,Fc,Ip,z];have:=q (j+1) O om om hw;rw[ep k]at this;exact this
     ·rw[ep h1,Fc,Ip,z];exact q (j+1) N om om (kE hw C)
   have:=inner n 0 K rfl om hw;rwa [Lb]at this
 exact F.bC.vc fun w1 S=>outer n 0 w1 rfl om (k0 S)
theorem Li(j:gq w A0 n0 A1 n1 ps hs)(h:bR w A 3 (l.map Sw.row))(hl:l.length=n)(hn:n<=40)(k:∀s∈l,∃i,qX ps s.aw=some i)(x:Rm):
  Pure Tryz.prog 90 #[.agg #[.slice A0 n0 c0,.slice A1 n1 c1,.slice A2 n2 c2],x.val,.slice A n c] w fun v _=>v= .bool (uv ps l x.r.b x.r.a):=by
 refine F.qw.vc fun w1 m p2 B e p3 o g=> ?_
 have hw:=k0 m;refine pm (F.dO.vc (R:=fun v _=>v= .bool (uv ps l x.r.b x.r.a)) (pm (F.aN.vc (zu (h.av hw lf) hl om kF (p:=fun s=>decide (s.hold=x.r.b)&&decide (wU ps s.aw=x.r.a)) (fun w' hb s q=> ?_) (R:=fun v _=>v= .int .i64 (fD (fun s=>decide (s.hold=x.r.b)&&decide (wU ps s.aw=x.r.a)) 0 l)) (fun _=>rfl) n 0 w1 rfl om (Below.refl _ _) rfl)) ?_)) ?_
 ·obtain⟨i,hi⟩:=k s q;have g2:=ag e hb;have g3:=ag g hb;refine F.mM.vc fun C d=>⟨_,bz (ag g3 (k0 d)) rfl,fun h1=>⟨_,_,_,_,_,_,_,_,_,eY (ag g2 (k0 d)),_,bz (ag g3 (k0 d)) rfl,fun D y=> ?_⟩,fun h1 E _=> ?_⟩
  ·refine pm (wX (j.av (kP (kP hw hb) (kE (k0 d) y))) hi) ?_;rintro v G _ rfl;exact⟨_,rfl,by rw[fi h1,vd]⟩
  ·rw[ep h1,Fc]
 ·rintro v z _ rfl;exact⟨_,rfl,by dsimp only;rw[sE];rfl⟩
 ·rintro v z _ rfl;exact⟨_,rfl,rfl⟩
theorem Lj(e:gq w A0 n0 A1 n1 ps hs)(h:bR w A 3 (l.map Sw.row))(hl:l.length=n)(hn:n<=40)(g:eJ ps hs l){x:Rm}{i:Nat}(hi:qX ps x.r.a=some i):
  Pure Tryz.prog 91 #[.agg #[.slice A0 n0 c0,.slice A1 n1 c1,.slice A2 n2 c2],x.val,.slice A n c] w fun v _=>v= .bool (match (qX ps x.r.a).bind fun i=>ps[i]? with|some p=>decide (cS l x.r.a<p.aV)|none=>false):=by
 have L:=e.np;obtain⟨o,hid⟩:=Cc hi;have M:=(g.c.p1 _ (bA o)).2.1;rw[hi,LS,af o];refine F.dn.vc fun w1 z p2 Q k=> ?_
 have hw:=k0 z;refine pm (xM (p:=fun p=>decide (p.id=x.r.a)) (e.av hw).p e.lp om kF fun w' hb y hy=> ?_) ?_
 ·exact F.mN.vc fun w1 z=>⟨_,bz (ag (ag k hb) (k0 z)) rfl,rfl⟩
 ·rintro v B E rfl;show ∃i3:Int,Value.int .i64 (u6 (qX ps x.r.a))=_/\_
  rw[hi];have N:=ag k E;have G:=kP hw E;obtain⟨hb,a,C,_,b⟩:=((e.av G).p).at_ (fun _=>rfl) e.lp o;refine⟨_,rfl,hb,a,C,_,b 1 _ rfl,?_⟩;have key:∀(d j:Nat)(w':World),n - j=d->j<=n->Below B.heap.size B w'->F.dn.L4 ⟨p2,0,none⟩ (ps[i].aV - cS (l.take j) x.r.a) A n c n j w.heap.size w' fun v _=>v= .bool (decide (cS l x.r.a<ps[i].aV)):=by
   intro d;induction d with
   |zero=>
    intro j w' O hj q;rw[cd om];refine F.dn.L4.step ⟨fun h=>by omega,fun _=> ?_⟩;refine ca Value.bool ?_;rw[kh];omega
   |succ d ih=>
    intro j w' O hj q;have D:j<l.length:=om;have H:=sc j;have P:l.take (j+1)=l.take j++[l[j]]:=by rw[eU,af D];rfl
    have es:=ug (l.take j) l[j] x.r.a;rw[<-P]at es;have f1:=yE g.pos x.r.a j;have f2:=yE g.pos x.r.a (j+1);have f3:=g.full _ (bA o);rw[hid]at f3;obtain⟨hb,a,C,b,_⟩:=(h.av (kP G q) lf).at_ (fun _=>rfl) hl D;refine F.dn.L4.step ⟨fun _=>⟨hb,a,C,_,_,_,b,fun I m=> ?_⟩,fun h=>by omega⟩;have J:=kP q (extAll m);have K:=g.pos _ (bA D);refine⟨_,bz (ext_nil m (ag N q)) rfl,fun h1=> ?_,fun h1=>⟨ir,?_⟩⟩
    ·rw[bm h1]at es;refine⟨ir,ir,?_⟩;have:=ih (j+1) I om om J;rw[es]at this;rw[H,show ps[i].aV - cS (l.take j) x.r.a - l[j].aV=ps[i].aV - (cS (l.take j) x.r.a+l[j].aV) by omega];exact this
    ·rw[aq h1,Int.add_zero]at es;have:=ih (j+1) I om om J;rw[es]at this;rw[H];exact this
  have:=key n 0 B rfl om (Below.refl _ _);rw[LO]at this;simp only[cS,LR,List.sum_nil,Int.sub_zero]at this;exact this
end

section
variable {w:World} {A0 A1 A2 A:Option Addr} {n0 c0 n1 c1 n2 c2 n c:Nat} {ps:List Pa} {hs:List Ho} {xs:List Rm} {l:List Sw}
theorem Lk(hg:bk w)(hp:nP w A0 n0 A1 n1 A2 n2 c2 ps hs xs)(h:bR w A 3 (l.map Sw.row))(hl:l.length=n)(a:n<=c)(hn:n<=40):
  Pure Tryz.prog 38 #[.agg #[.slice A0 n0 c0,.slice A1 n1 c1,.slice A2 n2 c2],.slice A n c] w fun v _=>v= .bool (yK ps hs (dD xs) l):=by
 refine F.qv.vc fun w1 b=> ?_
 have hw:=k0 b;refine pm (wW (hg.next hw) (hp.av hw)) ?_;rintro v e d rfl;have hw:=kP hw d;unfold yK;refine⟨_,_,rfl,fun h1=> ?_,fun h1=> ?_⟩
 ·refine pm (bT (hg.next hw) (hp.av hw).c (h.av hw lf) hl a om) ?_;rintro v g _ rfl;exact⟨_,rfl,by rw[fi h1,vd]⟩
 ·rw[ep h1,Fc]
theorem Cv(a:eJ ps hs l):∀s∈l,∃i,qX ps s.aw=some i:=fun s b=>by
 obtain⟨i,k,hi,_⟩:=a.known s b;exact⟨i,hi⟩
theorem Ll(a:eJ ps hs l):∀s∈l,∃h∈hs,h.id=s.hold:=fun s b=>by
 obtain⟨i,k,_,d⟩:=a.known s b;obtain⟨hl,e⟩:=KF d;exact⟨_,bA hl,e⟩
theorem IL(hg:bk w)(hp:nP w A0 n0 A1 n1 A2 n2 c2 ps hs xs)(h:bR w A 3 (l.map Sw.row))(hl:l.length=n)(M:n<=c)(hn:n<=40)(N:(oE ps hs (dD xs)).2=0)(I:gY ps hs l=0):
  Pure Tryz.prog 39 #[.agg #[.slice A0 n0 c0,.slice A1 n1 c1,.slice A2 n2 c2],.slice A n c] w fun v _=>∃A' m c',v= .slice A' m c'/\m=(dD xs).countP (iO ps hs l):=by
 have z:=fv I;have Z:=hp.l;have WJ:=hp.n;have C:=(uu N).2.2;refine F.bJ.vc fun w1 O=> ?_
 have key:∀(d i:Nat)(A':Option Addr)(m c':Nat)(w':World)(o:List Int),n2 - i=d->i<=n2->Below w.heap.size w w'->aF w' w.heap.size 3 A' m c' 1 (o.map fE)->m=(dD (xs.take i)).countP (iO ps hs l)->
   F.bJ.L4 A n c A' m c' A2 n2 c2 n2 i A0 n0 c0 A1 n1 c1 A2 n2 c2 w.heap.size w' fun v _=>∃A' m c',v= .slice A' m c'/\m=(dD xs).countP (iO ps hs l):=by
  intro d;induction d with
  |zero=>
   intro i A' m c' w' o P hi hw ho hm;rw[cd om]at hm;exact F.bJ.L4.step ⟨fun h=>by omega,fun _=>⟨A',m,c',rfl,hm⟩⟩
  |succ d ih=>
   intro i A' m c' w' o P hi hw ho hm;have D:i<xs.length:=om;have J:=sc i;have K:=bA D;have e:=C xs[i].r (Iq K);have Q:=hp.f _ K;have R:m<=i:=by
    rw[hm];refine dT OU ?_;unfold dD;rw[eb,eH];omega
   have q:(dD (xs.take (i+1))).countP (iO ps hs l)=m+if iO ps hs l xs[i].r then 1 else 0:=by
    rw[<-AH D,List.countP_append,<-hm,List.countP_singleton]
   obtain⟨hb,a,S,g,_⟩:=(hp.av hw).at_ D;have T:=e.kind;refine F.bJ.L4.step ⟨fun _=>⟨hb,a,S,_,_,_,_,_,_,_,_,_,g,om,⟨⟨⟨⟨trivial,fun k=>by omega⟩,fun k E y=> ?_⟩,fun k E y=> ?_⟩,fun k E y=> ?_⟩,fun k E y=> ?_⟩,fun h=>by omega⟩
   all_goals
    have hw:=kE hw y;have ho:=ho.kR y;have b:=hp.av hw;have B:=h.av hw lf
   refine pm (Gr (hg.next hw) b B hl M hn I (Q.av hw) e k) ?_
   rotate_left
   refine pm (pm (Lh b.c B hl hn (Cv z) xs[i]) (R':=fun v _=>v= .bool (iO ps hs l xs[i].r)) ?_) ?_
   ·rintro v L _ rfl;refine ca Value.bool ?_;unfold iO;rw[aq om,bm k,<-Iu (Ll z)]
   rotate_left
   refine pm (pm (Li b.c B hl hn (Cv z) xs[i]) (R':=fun v _=>v= .bool (iO ps hs l xs[i].r)) ?_) ?_
   ·rintro v L _ rfl;refine ca Value.bool ?_;unfold iO;rw[aq om,aq om,bm k]
   rotate_left
   obtain⟨ip,U⟩:=e.four k;refine pm (pm (Lj b.c B hl hn z U) (R':=fun v _=>v= .bool (iO ps hs l xs[i].r)) ?_) ?_
   ·rintro v L _ rfl;refine ca Value.bool ?_;unfold iO;rw[aq om,aq om,aq om];cases (qX ps xs[i].r.a).bind fun i=>ps[i]? <;>rfl
   rotate_left
   all_goals
    rintro v V G rfl;have H:=kP hw G;refine⟨_,rfl,fun j=> ?_,fun j=>⟨ir,?_⟩⟩
    ·refine sA gK lf (ho.below G) (x:= .int .i64 (i:Int)) rfl (by simp[Value.cells,bo]) H.size om dc fun A3 c3 W X _ Y=>⟨ir,?_⟩
     rw[J];refine ih (i+1) A3 (m+1) c3 W (o++[(i:Int)]) om om (H.trans Y) (by rw[eL];exact X) ?_;rw[q,bm j]
    ·rw[J];refine ih (i+1) A' m c' V o om om H (ho.below G) ?_;rw[q,aq (by simp[j])];rfl
 have:=key n2 0 none 0 0 w1 [] rfl om (k0 O) aF.nil rfl;exact this
theorem sO(hg:bk w)(hp:nP w A0 n0 A1 n1 A2 n2 c2 ps hs xs)(h:bR w A 3 (l.map Sw.row))(hl:l.length=n)(a:n<=c)(hn:n<=40):
  Pure Tryz.prog 10 #[.agg #[.slice A0 n0 c0,.slice A1 n1 c1,.slice A2 n2 c2],.slice A n c] w fun v _=>v= .bool (kV ps hs (dD xs) l):=by
 refine F.qu.vc fun w1 d=> ?_
 have hw:=k0 d;refine pm (Lk (hg.next hw) (hp.av hw) (h.av hw lf) hl a hn) ?_;rintro v j e rfl;have hw:=kP hw e;unfold kV;refine⟨_,rfl,fun h1=>by rw[h1];rfl,fun h1=> ?_⟩;have h1:=ph _|>.mp h1
 rw[h1,vd];unfold yK at h1;simp only[cz,iv]at h1;refine pm (IL (hg.next hw) (hp.av hw) (h.av hw lf) hl a hn h1.1 h1.2) ?_;rintro v o g ⟨A',m,c',rfl,hm⟩;have hw:=kP hw g;have b:(dD xs).any (iO ps hs l)=decide (0<m):=by
  rw[hm,uk,iv,List.countP_pos_iff,pe]
 rw[b];refine⟨_,_,_,rfl,fun i=> ?_,fun i=> ?_⟩
 ·rw[fi (show 0<m by omega)];rfl
 ·rw[ep (show ¬0<m by omega),RQ,vd];refine pm (ig (hg.next hw) (hp.av hw).c (h.av hw lf) hl a hn) ?_;rintro v q _ rfl;unfold QW;rw[aq (fun k=>k h1.2)];refine⟨_,_,rfl,?_⟩;refine ca Value.bool ?_;rw[kh];exact oS
end

theorem WW{n:Nat}(h:n<=64):qY .i64 (n:Int):=⟨om,by simp only[IntKind.bits];omega⟩
theorem Vb:∀n:Nat,n<8->wA .i64 1 (n:Int)=((2^n:Nat):Int):=by decide+kernel
theorem Vd:∀s:Nat,s<128->∀n:Nat,n<8->bits .and .i64 (nB (s:Int) (n:Int)) 1=if s.testBit n then 1 else 0:=by decide+kernel
theorem ZK:∀s:Nat,s<128->∀n:Nat,n<8->bits .or .i64 (s:Int) ((2^n:Nat):Int)=((KX s n:Nat):Int):=by decide+kernel
theorem RI{s n:Nat}(hs:s<128)(hn:n<8):bits .and .i64 (nB (s:Int) (n:Int)) 1=1↔s.testBit n=true:=by
 rw[Vd s hs n hn];cases s.testBit n<;>simp
end Go.Proofs.YtbcojgcjjpggnaaGreatDoor.B

set_option maxRecDepth 100000
set_option maxHeartbeats 4000000
namespace Go.Proofs.YtbcojgcjjpggnaaGreatDoor.F
open Go Go.RowKit Go.Proofs Go.Proofs.YtbcojgcjjpggnaaGreatDoor.Vc
open Tryz
variable {A C D E G H J K A0 A1 A2 A3 A4 A5 A6 A7 A8 A9 C0 C1 C2 C3 C4 C5 C6 C7 C8 C9:O} {a b c d e f g i j l m n o a0 a1 a2 a3 a4 a5 a6 a7 a8 a9 b0 b1 b2 b3 b4 b5 b6 b7 b8 b9 c0 c1 c2 c3 c4 c5 c6 c7 c8 c9:Nat} {p q r s t u v x p0 p1 p2 p3 p4 p5 p6 p7 p8 p9 q0 q1 q2 q3 q4 q5 q6 q7 q8 q9:Int} {L M N N0 N1 N2 N3 N4 N5 N6 N7 N8 N9 T0 T1 T2 T3 T4 T5 T6 T7 T8 T9:ByteArray} {Q S:Bool} {B:Nat} {w:World} {R:Kt}
def bD.L7(a:O)(b c:Nat)(h:O)(d e:Int):=Lt 172 f172 7 [vS 3 a b c,vP 10 h,vI 32 d,vI 33 e] []
def bD.xY(h:O)(a:Int)(b:O)(c d:Nat)(e f:Int):=Lt 172 f172 14 [vP 10 h,vI 13 a,vS 41 b c d,vI 42 e,vI 43 f] []
def bD.cx:Pm:=([((true,7),[3,10,32,33],[]),((true,14),[10,13,41,42,43],[])],[(17,2,6)])
theorem bD.L7.step{c k:O}
  (h:(Br (p<q) (Pure P 210 #[.slice c a b,I p] w (Rb fun e d=>(Br (e=false) (R (.tuple #[(I (-1:Int)),I 10]) d) (aS .i64 (p+1)/\(bD.L7 c a b k q (p+1) B d R))))) (bD.xY k (0:Int) c a b (a:Int) (0:Int) B w R))):
  bD.L7 c a b k q p B w R:=
 lr bD.cx func172 h
theorem bD.xY.step{k d:O}
  (h:(Br (p<r) (Ix p a d fun g=>(∃c,aa w (g.add ((p).toNat*1)) [I c]/\(qY .i64 c/\(cI P 211 #[.pointer k,(I (bits .or .i64 q (wA .i64 1 c)))] B w fun i e=>PL [] w e/\∃f,i= .bool f/\(Br (f=false) (R (.tuple #[I p,I 15]) e) (aS .i64 (p+1)/\(bD.xY k (bits .or .i64 q (wA .i64 1 c)) d a b r (p+1) B e R))))))) (R (.tuple #[(I (-1:Int)),I 0]) w))):
  bD.xY k q d a b r p B w R:=
 lr bD.cx func172 h
theorem bD.vc
  (h:(∀q,Ext w.heap.size [] w q->(Pure P 209 #[.agg #[.slice A c d,.slice C e f,.slice D g i],.slice E j l,.slice G a m] q fun r o=>∃k p,r= .tuple #[.pointer k,I p]/\(Br (p≠0) (R (.tuple #[(I (-1:Int)),I p]) o) (Br ((b:Int)≠(a:Int)) (R (.tuple #[(I (-1:Int)),I 10]) o) (bD.L7 H b n k (a:Int) (0:Int) w.heap.size o R)))))):
  Pure P 172 #[.agg #[.slice A c d,.slice C e f,.slice D g i],.slice E j l,.slice G a m,.slice H b n] w R:=
 pr bD.cx func172 h

def bE.ZL(a:O)(b c:Nat)(d:O)(e f:Nat)(g:Addr)(i:O)(j l:Nat)(m n:Int)(o:O)(p q:Nat)(r:O)(s t:Nat)(u:O)(v x:Nat):=Lt 209 f209 10 [vS 1 a b c,vS 2 d e f,vL 3,(10,.v (.pointer (some g))),vS 36 i j l,vI 37 m,vI 38 n] [⟨3,false,39,[(.slice o p q),(.slice r s t),(.slice u v x)]⟩]
def bE.ZM(a:O)(b c:Nat)(d:Addr)(e:O)(f g:Nat)(i j:Int)(l:O)(m n:Nat)(o:O)(p q:Nat)(r:O)(s t:Nat):=Lt 209 f209 17 [vS 1 a b c,vL 3,(10,.v (.pointer (some d))),vS 55 e f g,vI 56 i,vI 57 j] [⟨3,false,39,[(.slice l m n),(.slice o p q),(.slice r s t)]⟩]
def bE.cx:Pm:=([((true,10),[1,2,3,10,36,37,38],[3]),((true,17),[1,3,10,55,56,57],[3])],[(8,2,2),(8,4,2)])
theorem bE.ZL.step{o:Addr}
  (h:(Br (p<q) (Ix p e D fun x=>(∃s t u,aa w (x.add ((p).toNat*3)) [I s,I t,I u]/\(∀v,Ext B [] w v->(Pure P 252 #[(.pointer (some o)),.agg #[I s,I t,I u]] v (Rii fun y z r=>(Br (y<0) (R (.tuple #[.pointer none,I 7]) r) (Br (z<0) (R (.tuple #[.pointer none,I 7]) r) (aS .i64 (p+1)/\(bE.ZL A b c C a d o D e n q (p+1) E f g G i j H l m B r R))))))))) (bE.ZM A b c o C a d (a:Int) (0:Int) E f g G i j H l m B w R))):
  bE.ZL A b c C a d o D e n q p E f g G i j H l m B w R:=
 lr bE.cx func209 h
theorem bE.ZM.step{m:Addr}
  (h:(Br (p<q) (Ix p g E fun z=>(∃H J n,aa w (z.add ((p).toNat*3)) [I H,I J,I n]/\(Br (n=0) (∀s,Ext B [] w s->(R (.tuple #[.pointer none,I 2]) s)) (Br (n<(-9:Int)) (∀t,Ext B [] w t->(R (.tuple #[.pointer none,I 2]) t)) (Br (n>9) (∀u,Ext B [] w u->(R (.tuple #[.pointer none,I 2]) u)) (aS .i64 (p+1)/\(∀v,Ext B [] w v->(bE.ZM D e f m E g l q (p+1) A a b C c d G i j B v R)))))))) (Pure P 253 #[.agg #[.slice A a b,.slice C c d],.slice D e f] w (TB fun K L M N x=>(∃(o:List Value)(r:Nat),B<=(m.add 4).block/\(m.add 4).spot=none/\x.heap[(m.add 4).block]? =some (.cells o.toArray r (0,0))/\(m.add 4).off+1<=o.length/\hasType r [⟨3,false,39,[.slice A a b,.slice C c d,.slice G i j]⟩]=false/\∀y,aC x y (m.add 4).block r (setCells o (m.add 4).off [.slice K L M])->(R (.tuple #[(.pointer (some m)),I 0]) y)))))):
  bE.ZM D e f m E g l q p A a b C c d G i j B w R:=
 lr bE.cx func209 h
theorem bE.vc
  (h:(∀n,Ext w.heap.size [] w n->(Pure P 84 #[.agg #[.slice A b c,.slice C d e,.slice D f g]] n (Rii fun y r o=>(Br (r≠0) (R (.tuple #[.pointer none,I 1]) o) (Pure P 10 #[.agg #[.slice A b c,.slice C d e,.slice D f g],.slice G j l] o (Rb fun s m=>(Br (s=false) (R (.tuple #[.pointer none,I 11]) m) (Br ((a:Int)>6) (R (.tuple #[.pointer none,I 8]) m) (ae P (Instr.makeMap 306 none) w.heap.size [39] m fun t u=>∃(p:Option Nat),t= .map p/\(ae P (Instr.box 308 (.agg #[.slice A b c,.slice C d e,.slice D f g,.slice E a i,.slice none 0 0,(.map p)])) w.heap.size [39] u fun v x=>∃(q:Addr),v= .pointer (some q)/\(bE.ZL G j l E a i q E a i (a:Int) (0:Int) A b c C d e D f g w.heap.size x R)))))))))))):
  Pure P 209 #[.agg #[.slice A b c,.slice C d e,.slice D f g],.slice G j l,.slice E a i] w R:=
 pr bE.cx func209 h

def jk.cx:Pm:=([],[(1,5,2),(5,6,2)])
theorem jk.vo{a:Addr}(hB:B<=w.heap.size)
  (h:(∃(c:Option Nat),aa w (a.add 5) [(.map c)]/\(ae P (Instr.lookup 306 (.map c) (I p) true) B [] w fun x d=>∃e f,x= .tuple #[.bool e,.bool f]/\(Br (f=false) (Pure P 255 #[(.pointer (some a)),I p] d (Rsb fun y z A C b=>(Bb C (∃g i j l m n o q r,aa b (a.add 0) [.slice g i j,.slice l m n,.slice o q r]/\(Pure P 10 #[.agg #[.slice g i j,.slice l m n,.slice o q r],.slice y z A] b (Rb fun s t=>(∃(u:Option Nat),aa t (a.add 5) [(.map u)]/\(dY P (Instr.mapUpdate 306 (.map u) (I p) (.bool s)) B [] t fun D=>(R (.bool s) D)))))) (∃(v:Option Nat),aa b (a.add 5) [(.map v)]/\(dY P (Instr.mapUpdate 306 (.map v) (I p) (.bool false)) B [] b fun E=>(R (.bool false) E)))))) (R (.bool e) d))))):
  cI P 211 #[(.pointer (some a)),I p] B w R:=
 pb jk.cx func211 h hB

def kj.cx:Pm:=([],[(1,6,5)])
theorem kj.vc{c:Addr}
  (h:(∀a,Ext w.heap.size [] w a->(∃d e f,aa a (((c.add 0).add 0).add 0) [.slice d e f]/\(∀b:Nat,w.heap.size<=b->a.heap[b]? =some (.cells [I p,I q,I r].toArray 57 (0,0))->(Pure P 148 #[.slice d e f,(.func (.func 280) #[] #[(.pointer (some (⟨b,0,none⟩:Addr)))])] a (Ri fun m g=>(∃i j l,aa g (((c.add 0).add 0).add 1) [.slice i j l]/\(Pure P 92 #[.slice i j l,(.func (.func 281) #[] #[(.pointer (some (⟨b,0,none⟩:Addr)))])] g (Ri fun n o=>(R (.tuple #[I m,I n]) o)))))))))):
  Pure P 252 #[(.pointer (some c)),.agg #[I p,I q,I r]] w R:=
 pr kj.cx func252 h

def bK.L3(a:Addr)(b:Int)(c:O)(d e:Nat)(f:O)(g i:Nat)(j l:Int):=Lt 255 f255 3 [(0,.v (.pointer (some a))),vI 1 b,vS 6 c d e,vS 21 f g i,vI 22 j,vI 23 l] []
def bK.cx:Pm:=([((true,3),[0,1,6,21,22,23],[])],[])
theorem bK.L3.step{i:Addr}
  (h:(Br (p<r) (Ix p c C fun L=>(∃m n l,aa w (L.add ((p).toNat*3)) [I m,I n,I l]/\(qY .i64 p/\(Br (((bits .and .i64 (nB q p) (1:Int)):Int)=1) (∀x,Ext B [] w x->(Pure P 252 #[(.pointer (some i)),.agg #[I m,I n,I l]] x (Rii fun f g o=>(∃M e N,aa o (((i.add 0).add 0).add 1) [.slice M e N]/\(aS .i64 (f*(e:Int))/\(aS .i64 ((f*(e:Int))+g)/\(Ix ((f*(e:Int))+g) a A fun O=>(∃s,aa o (O.add ((((f*(e:Int))+g)).toNat*1)) [I s]/\(aS .i64 (s+l)/\(Ix ((f*(e:Int))+g) a A fun j=>(∀t,Ext B [] o t->(∃(u:List Value)(v:Nat),B<=(j.add ((((f*(e:Int))+g)).toNat*1)).block/\(j.add ((((f*(e:Int))+g)).toNat*1)).spot=none/\t.heap[(j.add ((((f*(e:Int))+g)).toNat*1)).block]? =some (.cells u.toArray v (0,0))/\(j.add ((((f*(e:Int))+g)).toNat*1)).off+1<=u.length/\hasType v [⟨8,false,57,[I m,I n,I l]⟩]=false/\∀y,aC t y (j.add ((((f*(e:Int))+g)).toNat*1)).block v (setCells u (j.add ((((f*(e:Int))+g)).toNat*1)).off [(I (s+l))])->(aS .i64 (p+1)/\(bK.L3 i q A a b C c d r (p+1) B y R)))))))))))))) (aS .i64 (p+1)/\(∀z,Ext B [] w z->(bK.L3 i q A a b C c d r (p+1) B z R))))))) (∃D E G H J K,aa w ((i.add 0).add 0) [.slice D E G,.slice H J K]/\(Pure P 283 #[.agg #[.slice D E G,.slice H J K],.slice A a b] w (TB fun Q S T U V=>(R (.tuple #[.slice Q S T,(.bool (decide (U=0)))]) V)))))):
  bK.L3 i q A a b C c d r p B w R:=
 lr bK.cx func255 h
theorem bK.vc{a:Addr}
  (h:(∃c d e,aa w (a.add 4) [.slice c d e]/\(Pure P 282 #[.slice c d e] w (Rs fun j l m f=>(∃g b i,aa f (a.add 3) [.slice g b i]/\(bK.L3 a p j l m g b i (b:Int) (0:Int) w.heap.size f R)))))):
  Pure P 255 #[(.pointer (some a)),I p] w R:=
 pr bK.cx func255 h

def iP.cx:Pm:=([],[])
theorem iP.vc{b:Addr}
  (h:(∀a,Ext w.heap.size [] w a->(∃c,aa a (b.add 1) [I c]/\(R (.bool (decide (p=c))) a)))):
  Pure P 280 #[.agg #[I p,I q,I r,.string L,.string M,.string N,.string N0],(.pointer (some b))] w R:=
 pr iP.cx func280 h

def iQ.cx:Pm:=([],[])
theorem iQ.vc{b:Addr}
  (h:(∀a,Ext w.heap.size [] w a->(∃c,aa a (b.add 0) [I c]/\(R (.bool (decide (p=c))) a)))):
  Pure P 281 #[.agg #[I p,.string L,.string M,.string N,.string N0,.string N1,.string N2],(.pointer (some b))] w R:=
 pr iQ.cx func281 h

end Go.Proofs.YtbcojgcjjpggnaaGreatDoor.F

namespace Go.Proofs.YtbcojgcjjpggnaaGreatDoor.B
open Go Go.RowKit Go.Proofs Go.Proofs.YtbcojgcjjpggnaaGreatDoor.Vc

structure Tk where
 b:Nat
 m:Nat
 A0:Option Addr
 n0:Nat
 c0:Nat
 A1:Option Addr
 n1:Nat
 c1:Nat
 A2:Option Addr
 n2:Nat
 c2:Nat
 A3:Option Addr
 n3:Nat
 c3:Nat
 A4:Option Addr
 n4:Nat
 c4:Nat
abbrev Tk.cs(k:Tk):List Value:=[.slice k.A0 k.n0 k.c0,.slice k.A1 k.n1 k.c1,.slice k.A2 k.n2 k.c2,.slice k.A3 k.n3 k.c3,.slice k.A4 k.n4 k.c4,.map (some k.m)]
abbrev Tk.p(k:Tk):Addr:=⟨k.b,0,none⟩
def JA(w:World)(k:Tk):Prop:=w.heap[k.b]? =some (.cells k.cs.toArray 308 (0,0))
theorem JA.av{w w':World}{k:Tk}(h:JA w k)(hb:Below w.heap.size w w'):JA w' k:=ag h hb
theorem JA.cl{w w':World}{k:Tk}(h:JA w k)(c:Cl w w'):JA w' k:=c.cells _ _ _ _ h
theorem JA.cell{w:World}{k:Tk}(h:JA w k)(i:Nat){v:Value}(a:k.cs[i]? =some v):aa w (k.p.add i) [v]:=bz h a
theorem JA.part{w:World}{k:Tk}(h:JA w k)(i n:Nat):aa w (k.p.add i) ((k.cs.drop i).take n):=wS (eY h) i n
structure zZ (w:World) (k:Tk) (ps:List Pa) (hs:List Ho) (xs:List Rm) (l aW:List Sw):Prop where
 t:JA w k
 p:nP w k.A0 k.n0 k.A1 k.n1 k.A2 k.n2 k.c2 ps hs xs
 wk:bR w k.A3 3 (aW.map Sw.row)
 lw:aW.length=k.n3
 st:bR w k.A4 1 ((dF ps hs l).map fE)
 ok:Rk ps hs (dD xs) l aW
 n4:k.n4=k.n0*k.n1
theorem zZ.av{w w':World}{k:Tk}{ps:List Pa}{hs:List Ho}{xs:List Rm}{l aW:List Sw}(h:zZ w k ps hs xs l aW)(hb:Below w.heap.size w w'):zZ w' k ps hs xs l aW:=
 ⟨h.t.av hb,h.p.av hb,h.wk.av hb lf,h.lw,h.st.av hb lf,h.ok,h.n4⟩
theorem zZ.cl{w w':World}{k:Tk}{ps:List Pa}{hs:List Ho}{xs:List Rm}{l aW:List Sw}(h:zZ w k ps hs xs l aW)(c:Cl w w'):zZ w' k ps hs xs l aW:=
 ⟨h.t.cl c,h.p.cl c,h.wk.cl c,h.lw,h.st.cl c,h.ok,h.n4⟩

section
variable {w:World} {k:Tk} {ps:List Pa} {hs:List Ho} {xs:List Rm} {l aW:List Sw}
theorem Er(d:JA w k)(a:gq w k.A0 k.n0 k.A1 k.n1 ps hs)(x:Sw):
  Pure Tryz.prog 252 #[.pointer (some k.p),x.val] w fun v _=>v= .tuple #[.int .i64 (u6 (qX ps x.aw)),.int .i64 (u6 (vX hs x.hold))]:=by
 have i:=a.np;have j:=a.nh;refine F.kj.vc fun w1 b=> ?_
 have hw:=k0 b;refine⟨_,_,_,by rw[Go.Deep.add_add,Go.Deep.add_add];exact(d.av hw).cell 0 rfl,fun p3 m c=> ?_⟩;refine pm (xM (p:=fun p=>decide (p.id=x.aw)) (a.av hw).p a.lp om kF fun w' hb y hy=> ?_) ?_
 ·exact F.iP.vc fun w1 b=>⟨_,bz (ag (ag c hb) (k0 b)) rfl,rfl⟩
 ·rintro v n e rfl;have g:=kP hw e;refine⟨_,rfl,_,_,_,by rw[Go.Deep.add_add,Go.Deep.add_add];exact(d.av g).cell 1 rfl,?_⟩;refine pm (AB (p:=fun p=>decide (p.id=x.hold)) (a.av g).h a.lh om kF fun w' hb y hy=> ?_) ?_
  ·exact F.iQ.vc fun w1 b=>⟨_,bS (ag (ag (ag c e) hb) (k0 b)) rfl,rfl⟩
  ·rintro v o _ rfl;exact⟨_,rfl,rfl⟩
theorem Dp(a:eJ ps hs l):∀x∈dF ps hs l,0<=x/\x<=9:=by
 intro x hx;unfold dF at hx;obtain⟨p,_,hx⟩:=Pf.1 hx;obtain⟨h,_,rfl⟩:=gX.1 hx;exact⟨BX a.pos _ _,Zn a _ _⟩
theorem RJ{x:Sw}{j:Nat}(h:mL ps hs x=some j):∃i k,qX ps x.aw=some i/\vX hs x.hold=some k/\j=i*hs.length+k/\j<ps.length*hs.length:=by
 unfold mL at h;cases a:qX ps x.aw with
 |none=>rw[a]at h;cases h
 |some i=>
  cases b:vX hs x.hold with
  |none=>rw[a,b]at h;cases h
  |some k=>
   rw[a,b]at h;cases h;exact⟨i,k,rfl,rfl,rfl,B7 (Cc a).1 (KF b).1⟩
theorem NP{s:Nat}{m:List Sw}(e:qq ps hs l aW s=some m):m.length<=36:=(Iy e).2.1.len
theorem NQ(hg:bk w)(h:zZ w k ps hs xs l aW){s:Nat}(M:s<128):
  Pure Tryz.prog 255 #[.pointer (some k.p),.int .i64 (s:Int)] w fun v w'=>(qq ps hs l aW s=none->v= .tuple #[.slice none 0 0,.bool false])/\
   ∀m,qq ps hs l aW s=some m->∃A n c,v= .tuple #[.slice A n c,.bool true]/\aF w' w.heap.size 54 A n c 3 (m.map Sw.row):=by
 obtain⟨YW,wE,hr⟩:=zA h.ok.keeps;have N:=h.p.c.lp;have B:=h.p.c.lh;have Ie:=h.p.c.np;have zc:=h.p.c.nh;have hle:k.n0*k.n1<=7*7:=u0 Ie zc;have tE:=h.ok.n;have Ve:=h.lw;have O:=h.n4;have C:(dF ps hs l).length=k.n4:=by rw[iC,N,B,O]
 refine F.bK.vc ⟨_,_,_,h.t.cell 4 rfl,pm (Zo h.st C om) ?_⟩;rintro v w4 P ⟨A',c',rfl,ho⟩;refine⟨_,_,_,rfl,_,_,_,(h.t.av P).cell 3 rfl,?_⟩;have key:∀(d j:Nat)(a:List Int)(w':World),k.n3 - j=d->j<=k.n3->Below w.heap.size w w'->aF w' w.heap.size 3 A' k.n4 c' 1 (a.map fE)->(∀x∈a, -(9*(j:Int))<=x/\x<=9+9*(j:Int))->pG ps hs s j a (aW.drop j)=pG ps hs s 0 (dF ps hs l) aW->
   F.bK.L3 k.p s A' k.n4 c' k.A3 k.n3 k.c3 k.n3 j w.heap.size w' fun v w'=>(qq ps hs l aW s=none->v= .tuple #[.slice none 0 0,.bool false])/\
    ∀m,qq ps hs l aW s=some m->∃A n c,v= .tuple #[.slice A n c,.bool true]/\aF w' w.heap.size 54 A n c 3 (m.map Sw.row):=by
  intro d;induction d with
  |zero=>
   intro j a w' hd hj hw ho hb he;have o:=ho.len;rw[eb]at o;rw[de om]at he;have D:a=pG ps hs s 0 (dF ps hs l) aW:=he;refine F.bK.L3.step ⟨fun h=>by omega,fun _=>⟨_,_,_,_,_,_,by rw[Go.Deep.add_add];exact(h.t.av hw).part 0 2,?_⟩⟩;refine pm (ba (hg.next hw) (h.p.av hw).c ho.sl o ho.ic om) ?_;intro v FC Zl hf;unfold qq;rw[<-D];cases e:rz ps hs a with
   |error er=>
    rw[e]at hf;have E:=Re e;cases hf;refine⟨_,_,_,_,rfl,fun _=> ?_,fun m hm=>by cases hm⟩;rw[ep E]
   |ok m=>
    rw[e]at hf;obtain⟨A,n,c,rfl,hm⟩:=hf;refine⟨_,_,_,_,rfl,fun hm=>(by cases hm),fun m' G=> ?_⟩;cases G;exact⟨A,n,c,rfl,hm.base hw.size⟩
  |succ d ih=>
   intro j a w' hd hj hw ho hb he;have H:j<aW.length:=om;have Q:=sc j;have o:=ho.len;rw[eb]at o;have R:=bA H;obtain⟨q,S⟩:=h.ok.place _ R;obtain⟨ip,ik,F3,I,J,K⟩:=RJ S;have hu:=h.ok.u _ R;rw[dp H,Iw,S]at he;obtain⟨Qt,ad,hA,b,_⟩:=(h.wk.av hw lf).at_ (fun _=>rfl) Ve H;refine F.bK.L3.step ⟨fun _=>⟨Qt,ad,hA,_,_,_,b,WW om,fun h1 jK T=> ?_,fun h1=>⟨ir,fun CR U=> ?_⟩⟩,fun h=>by omega⟩
   ·rw[bm ((RI M om).1 h1)]at he;have hw:=kE hw T;refine pm (Er (h.t.av hw) (h.p.av hw).c aW[j]) ?_;rintro v GO V rfl;have hw:=kP hw V;rw[F3,I];have ei:u6 (some ip)*(k.n1:Int)=((ip*hs.length:Nat):Int):=by rw[<-B];simp[u6]
    have eq:((ip*hs.length:Nat):Int)+u6 (some ik)=(q:Int):=by rw[J];simp[u6]
    have r:=(ho.kR T).below V;have Yd:q<k.n4:=by rw[O,<-N,<-B];exact K
    have z:q<a.length:=om;have gO:(a.map fE)[q]? =some (fE a[q]):=by rw[hM,af z];rfl
    have haq:=hb _ (bA z);have Tb:a.getD q 0=a[q]:=by rw[cb,af z];rfl
    have hlq:ip*hs.length<=q:=om;obtain⟨y,W,g,L,_⟩:=r.sl.at_ (fun _=>rfl) o z;refine⟨_,_,rfl,_,_,_,by rw[Go.Deep.add_add,Go.Deep.add_add];exact(h.t.av hw).cell 1 rfl,?_⟩;rw[ei,eq];refine⟨ir,ir,y,W,g,_,L,ir,y,W,g,fun AD X=> ?_⟩;have hw:=kE hw X;have ZN:=r.kR X;obtain⟨g1,a2,Y,cs,g2,g3,g4,g5,g6⟩:=ZN.Nj (i:=(q:Int)) om om (fE (a[q]+aW[j].aV)) _ (by rw[cc];exact gO) rfl;rw[g]at Y;cases Y;refine⟨cs,_,g2,g3,g4,g5,rfl,fun Z kv=>⟨ir,?_⟩⟩;have Zy:=g6 Z kv;rw[cc,<-Cd]at Zy;rw[Q];refine ih (j+1) (a.set q (a[q]+aW[j].aV)) Z om om (hw.trans (aC.eD kv g2)) Zy (fun x hx=> ?_) ?_
    ·rcases By hx with hx|rfl
     ·have:=hb x hx;omega
     ·omega
    ·rw[<-he];show _=pG ps hs s (j+1) (wg a q aW[j].aV) _;unfold wg;rw[Tb]
   ·rw[aq (fun k=>h1 ((RI M om).2 k))]at he;rw[Q];exact ih (j+1) a CR om om (kE hw U) (ho.kR U) (fun x hx=>by have:=hb x hx;omega) he
 refine key k.n3 0 (dF ps hs l) w4 rfl om P ho (fun x hx=> ?_) rfl;have:=Dp hr x hx;omega

theorem mpB:WT 306 3 4:=⟨kF,kF,kF,fun w=>Tryz.zeroValue4 w⟩
def xZ(w:World)(B:Nat)(k:Tk)(al:Nat->Bool):Prop:=∃f,tI w B 3 4 k.m f/\∀(s:Nat)(x:Bool),f (s:Int)=some x->x=al s
theorem xZ.below{w w':World}{B:Nat}{k:Tk}{al:Nat->Bool}(h:xZ w B k al)(hb:Below w.heap.size w w'):xZ w' B k al:=by
 obtain⟨f,h1,a⟩:=h;exact⟨f,h1.below hb,a⟩
theorem xZ.le{w:World}{B a:Nat}{k:Tk}{al:Nat->Bool}(h:xZ w B k al)(hB:a<=B):xZ w a k al:=by
 obtain⟨f,h1,b⟩:=h;exact⟨f,h1.le hB,b⟩
structure Gs (b:Nat) (w w':World):Prop where
 size:w.heap.size<=w'.heap.size
 other:∀k,k<w.heap.size->k≠b->w'.heap[k]? =w.heap[k]?
theorem Gs.refl(b:Nat)(w:World):Gs b w w:=⟨fs _,fun _ _ _=>rfl⟩
theorem Gs.trans{b:Nat}{w w1 c:World}(h:Gs b w w1)(k:Gs b w1 c):Gs b w c:=
 ⟨dT h.size k.size,fun i hi a=>(k.other i (qc hi h.size) a).trans (h.other i hi a)⟩
theorem Gs.low{b:Nat}{w w':World}(h:Below w.heap.size w w'):Gs b w w':=⟨h.size,fun k a _=>h.block k a⟩
theorem Gs.grown{b:Nat}{w w':World}(h:w.grownBy w' (some b)):Gs b w w':=⟨h.size,fun k c a=>h.block k c fun e=>a (by cases e;rfl)⟩
theorem Gs.cl{b:Nat}{w w':World}(h:Gs b w w')(hm:∃es clock,w.heap[b]? =some (.map es clock)):Cl w w':=⟨h.size,fun k cs ty fr e=>by
 obtain⟨es,clock,hm⟩:=hm;rw[h.other k (ax.1 e).1 fun k=>by subst k;rw[hm]at e;cases e];exact e⟩
theorem xZ.map{w:World}{B:Nat}{k:Tk}{al:Nat->Bool}(h:xZ w B k al):∃es clock,w.heap[k.m]? =some (.map es clock):=by
 obtain⟨f,h1,_⟩:=h;exact h1.isMap
theorem IM(hg:bk w)(h:zZ w k ps hs xs l aW){B:Nat}(hB:B<=w.heap.size)(g:xZ w B k (jL ps hs (dD xs) l aW)){s:Nat}(o:s<128):
  cI Tryz.prog 211 #[.pointer (some k.p),.int .i64 (s:Int)] B w fun v w'=>v= .bool (jL ps hs (dD xs) l aW s)/\xZ w' B k (jL ps hs (dD xs) l aW)/\Gs k.m w w':=by
 obtain⟨f,hm,hf⟩:=id g;have fin:∀(w':World)(x:Bool),Below w.heap.size w w'->x=jL ps hs (dD xs) l aW s->∃m1:Option Nat,aa w' (k.p.add 5) [.map m1]/\dY Tryz.prog (Instr.mapUpdate 306 (.map m1) (.int .i64 (s:Int)) (.bool x)) B [] w' fun d=>Value.bool x= .bool (jL ps hs (dD xs) l aW s)/\xZ d B k (jL ps hs (dD xs) l aW)/\Gs k.m w d:=by
  intro w' x hw hx;refine⟨_,(h.t.av hw).cell 5 rfl,Gi (hm.below hw) mpB om om x lf (dT hB hw.size) fun d m17 _ g17=>⟨by rw[hx],⟨_,m17,fun z y hz=> ?_⟩,(Gs.low hw).trans (Gs.grown g17)⟩⟩;unfold Cp at hz;split at hz
  ·rename_i e;have:z=s:=om;subst this;cases hz;exact hx
  ·exact hf z y hz
 refine F.jk.vo hB ⟨_,h.t.cell 5 rfl,Gh hm mpB om om ⟨fun i=> ?_,fun i=> ?_⟩⟩
 ·refine pm (NQ hg h o) ?_;intro v q b a;cases e:qq ps hs l aW s with
  |none=>
   have a:=a.1 e;subst a;refine⟨_,_,_,_,rfl,fun k=>(by cases k),fun _=>fin q false b ?_⟩;unfold jL;rw[e]
  |some m=>
   obtain⟨A,n,c,a,ho⟩:=a.2 m e;subst a;have j:=ho.len;rw[eb]at j;have r:=NP e;refine⟨_,_,_,_,rfl,fun _=>⟨_,_,_,_,_,_,_,_,_,(h.t.av b).part 0 3,?_⟩,fun k=>by cases k⟩;refine pm (sO (hg.next b) (h.p.av b) ho.sl j ho.ic om) ?_;rintro v C D rfl;refine⟨_,rfl,fin C _ (kP b D) ?_⟩;unfold jL;rw[e]
 ·obtain⟨x,hx⟩:=HU.1 (ph _|>.mp i);rw[hx];exact⟨by rw[<-hf s x hx];rfl,g,Gs.refl _ _⟩
end

theorem IN{α:Type}{p:α->Bool}{l:List α}{j:Nat}(hj:j<l.length)(h:(l.take j).any p=false)(h1:p l[j]=false):(l.take (j+1)).any p=false:=by
 rw[eU,af hj,List.any_append,h];simp[h1]
theorem RM{α:Type}{p:α->Bool}{l:List α}{j:Nat}(hj:j<l.length)(h1:p l[j]=true):l.any p=true:=pe.2 ⟨_,bA hj,h1⟩
section
variable {w:World} {A0 A1 A2 A A3:Option Addr} {n0 c0 n1 c1 n2 c2 n c n3 c3:Nat} {ps:List Pa} {hs:List Ho} {xs:List Rm} {l aW:List Sw}
def BeR(w0:World)(ps:List Pa)(hs:List Ho)(xs:List Rm)(l aW:List Sw)(v:Value)(w':World):Prop:=
 (mj ps hs (dD xs) l aW≠0->v= .tuple #[.pointer none,.int .i64 (mj ps hs (dD xs) l aW)])/\
 (mj ps hs (dD xs) l aW=0->∃k:Tk,v= .tuple #[.pointer (some k.p),.int .i64 0]/\zZ w' k ps hs xs l aW/\xZ w' w0.heap.size k (jL ps hs (dD xs) l aW))
theorem NR(hg:bk w)(hp:nP w A0 n0 A1 n1 A2 n2 c2 ps hs xs)(h:bR w A 3 (l.map Sw.row))(hl:l.length=n)(M:n<=c)(hn:n<=40)(E:bR w A3 3 (aW.map Sw.row))(G:aW.length=n3){b m:Nat}(hb:w.heap.size<=b)
  (H:(oE ps hs (dD xs)).2=0) (y:kV ps hs (dD xs) l=true) (h6:n3<=6) (I:(aW.any fun w=>decide (mL ps hs w=none))=false):
  ∀(d j:Nat)(w':World),n3 - j=d->j<=n3->Below w.heap.size w w'->JA w' ⟨b,m,A0,n0,c0,A1,n1,c1,A2,n2,c2,A3,n3,c3,none,0,0⟩->tI w' w.heap.size 3 4 m (fun _=>none)->((aW.take j).any fun w=>decide (w.aV=0∨w.aV< -9∨9<w.aV))=false->
   F.bE.ZM A n c ⟨b,0,none⟩ A3 n3 c3 n3 j A0 n0 c0 A1 n1 c1 A2 n2 c2 w.heap.size w' (BeR w ps hs xs l aW):=by
 obtain⟨_,O,hr⟩:=zA y;intro d;induction d with
 |zero=>
  intro j w' P hj hw q hm ha;rw[cd om]at ha;have J:mj ps hs (dD xs) l aW=0:=by
   unfold mj;rw[aq (fun k=>k H),aq (by rw[y];decide),aq om,aq (by rw[I];decide),aq (by rw[ha];decide)]
  refine F.bE.ZM.step ⟨fun h=>by omega,fun _=> ?_⟩;refine pm (cY (hg.next hw) (hp.av hw).c (h.av hw lf) hl M om) ?_;intro v Q z R;obtain⟨A',N,rfl,ho,S⟩:=R.2 O;have T:=kP hw z;have i:=q.av z;have o:=hm.below z;have e:(⟨b,0,none⟩:Addr).add 4=⟨b,4,none⟩:=by rw[bU]
  have U:b<w'.heap.size:=(ax.1 q).1;refine⟨_,_,_,_,rfl,Tk.cs ⟨b,m,A0,n0,c0,A1,n1,c1,A2,n2,c2,A3,n3,c3,none,0,0⟩,308,?_⟩;rw[e];refine⟨hb,rfl,i,sm,rfl,fun V r=> ?_⟩;have K:Below w.heap.size w V:=T.trans (aC.eD r hb);have B:m≠b:=by
   obtain⟨es,cl,W⟩:=o.isMap;intro k;subst k;have:=i;unfold JA at this;simp only at this;rw[W]at this;cases this
  refine⟨fun k=>absurd J k,fun _=>⟨⟨b,m,A0,n0,c0,A1,n1,c1,A2,n2,c2,A3,n3,c3,A',N,N⟩,rfl,⟨?_,hp.av K,E.av K lf,G,?_,UQ J,S⟩,_,o.same (r.rest m B),fun s x k=>by cases k⟩⟩
  ·exact r.at_
  ·refine(ho.other fun a ha=>r.rest _ fun k=> ?_).sl;have:=(ho.uP a ha).1;have k:a.block=b:=k;omega
 |succ d ih=>
  intro j w' P hj hw q hm ha;have C:j<aW.length:=om;have X:=sc j;obtain⟨Y,Z,hA,g,_⟩:=(E.av hw lf).at_ (fun _=>rfl) G C;have bad:(aW[j].aV=0∨aW[j].aV< -9∨9<aW[j].aV)->∀w1,BeR w ps hs xs l aW (.tuple #[.pointer none,.int .i64 2]) w1:=by
   intro k w1;have L:mj ps hs (dD xs) l aW=2:=by
    unfold mj;rw[aq (fun k=>k H),aq (by rw[y];decide),aq om,aq (by rw[I];decide),bm (RM C (fi k))]
   exact⟨fun _=>by rw[L],fun k=>by rw[L]at k;cases k⟩
  refine F.bE.ZM.step ⟨fun _=>⟨Y,Z,hA,_,_,_,g,fun k w1 _=>bad (.inl k) w1,fun k1=>⟨fun k w1 _=>bad (.inr (.inl k)) w1,fun k2=>⟨fun k w1 _=>bad (.inr (.inr k)) w1,fun k3=>⟨ir,fun WY D=> ?_⟩⟩⟩⟩,fun h=>by omega⟩;rw[X];exact ih (j+1) WY om om (kE hw D) (ext_nil D q) (hm.ext D) (IN C ha (ep om))
theorem NS(hg:bk w)(hp:nP w A0 n0 A1 n1 A2 n2 c2 ps hs xs)(h:bR w A 3 (l.map Sw.row))(hl:l.length=n)(G:n<=c)(hn:n<=40)(H:bR w A3 3 (aW.map Sw.row))(I:aW.length=n3):
  Pure Tryz.prog 209 #[.agg #[.slice A0 n0 c0,.slice A1 n1 c1,.slice A2 n2 c2],.slice A n c,.slice A3 n3 c3] w (BeR w ps hs xs l aW):=by
 have out:∀(e:Int)(w':World),mj ps hs (dD xs) l aW=e->e≠0->BeR w ps hs xs l aW (.tuple #[.pointer none,.int .i64 e]) w':=fun e w' h1 a=>⟨fun _=>by rw[h1],fun k=>absurd (h1.symm.trans k) a⟩
 refine F.bE.vc fun w1 N=> ?_
 have hw:=k0 N;refine pm (wW (hg.next hw) (hp.av hw)) ?_;rintro v Z O rfl;have hw:=kP hw O;refine⟨_,_,rfl,fun h1=>out 1 _ (by unfold mj;rw[bm h1]) dc,fun h1=> ?_⟩;refine pm (sO (hg.next hw) (hp.av hw) (h.av hw lf) hl G hn) ?_;rintro v r b8 rfl;have hw:=kP hw b8;refine⟨_,rfl,fun a=>out 11 _ (by unfold mj;rw[aq h1,bm a]) dc,fun a=>⟨fun P=>out 8 _ (by unfold mj;rw[aq h1,aq a,bm om]) dc,fun P=> ?_⟩⟩;have Q:=ph _|>.mp a
 have x:=ek.1 h1;refine Dm (tk:=3) (te:=4) hw.size fun y m11 z=> ?_
 have B:=kP hw z;refine oX _ _ B.size fun R C J _=> ?_
 have S:=kP B J;have key:∀(d j:Nat)(w':World),n3 - j=d->j<=n3->Below w.heap.size w w'->JA w' ⟨y.heap.size,r.heap.size,A0,n0,c0,A1,n1,c1,A2,n2,c2,A3,n3,c3,none,0,0⟩->tI w' w.heap.size 3 4 r.heap.size (fun _=>none)->((aW.take j).any fun w=>decide (mL ps hs w=none))=false->
   F.bE.ZL A n c A3 n3 c3 ⟨y.heap.size,0,none⟩ A3 n3 c3 n3 j A0 n0 c0 A1 n1 c1 A2 n2 c2 w.heap.size w' (BeR w ps hs xs l aW):=by
  intro d;induction d with
  |zero=>
   intro j w' T hj hw g hm ha;rw[cd om]at ha;exact F.bE.ZL.step ⟨fun h=>by omega,fun _=>NR hg hp h hl G hn H I B.size x Q om ha n3 0 w' rfl om hw g hm rfl⟩
  |succ d ih=>
   intro j w' T hj hw g hm ha;have D:j<aW.length:=om;have U:=sc j;obtain⟨V,W,X,b,_⟩:=(H.av hw lf).at_ (fun _=>rfl) I D;have bad:mL ps hs aW[j]=none->∀w1,BeR w ps hs xs l aW (.tuple #[.pointer none,.int .i64 7]) w1:=by
    intro k w1;exact out 7 _ (by unfold mj;rw[aq h1,aq a,aq om,bm (RM D (fi k))]) dc
   refine F.bE.ZL.step ⟨fun _=>⟨V,W,X,_,_,_,b,fun AD m=> ?_⟩,fun h=>by omega⟩;have K:=kE hw m;refine pm (Er (k:=⟨y.heap.size,r.heap.size,A0,n0,c0,A1,n1,c1,A2,n2,c2,A3,n3,c3,none,0,0⟩) (ext_nil m g) (hp.av K).c aW[j]) ?_;rintro v Y E rfl;refine⟨_,_,rfl,fun o=>bad (by unfold mL;rw[oS.1 o]) _,fun o=>⟨fun q=>bad ?_ _,fun q=>⟨ir,?_⟩⟩⟩
   ·unfold mL;rw[oS.1 q];cases qX ps aW[j].aw<;>rfl
   ·rw[U];refine ih (j+1) Y om om (kP K E) (JA.av (ext_nil m g) E) ((hm.ext m).below E) (IN D ha (ep fun k=> ?_));unfold mL at k;cases L:qX ps aW[j].aw with
    |none=>rw[L]at o;exact o (by simp[u6])
    |some i=>
     cases M:vX hs aW[j].hold with
     |none=>rw[M]at q;exact q (by simp[u6])
     |some i'=>rw[L,M]at k;cases k
 exact key n3 0 R rfl om S C ((m11.below J).le hw.size) rfl

end

theorem NT{w0:World}{A:Option Addr}{n c:Nat}{l:List Int}(hl:bR w0 A 1 (l.map fE))(hlen:l.length=n)(hn:n<2147483648)(z:Int){R:Value->World->Prop}{r:Int}(e:∀w,R (.int .i64 r) w):
  ∀(d i:Nat)(w:World),n - i=d->i<=n->Below w0.heap.size w0 w->r=fD (fun x=>decide (x=z)) i (l.drop i)->F.bM.L2 A n c z n i w0.heap.size w R:=by
 intro d;induction d with
 |zero=>
  intro i w j hi hw a;rw[de om]at a;subst a;exact F.bM.L2.step ⟨fun h=>by omega,fun _=>e w⟩
 |succ d ih=>
  intro i w j hi hw a;have g:i<l.length:=om;rw[dp g,fD]at a;obtain⟨hb,m,q,b,_⟩:=(hl.av hw lf).at_ (fun _=>rfl) hlen g;refine F.bM.L2.step ⟨fun _=>⟨hb,m,q,_,b,fun h=> ?_,fun h=>⟨ir,?_⟩⟩,fun h=>by omega⟩
  ·rw[bm (fi h.symm)]at a;subst a;exact e w
  ·rw[aq (by simpa using fun k=>h k.symm)]at a;have y:=sc i;rw[y];exact ih (i+1) w om om hw a
theorem ZQ{w0:World}{A:Option Addr}{n c:Nat}{l:List Int}(hl:bR w0 A 1 (l.map fE))(hlen:l.length=n)(hn:n<2147483648)(z:Int):
  Pure Tryz.prog 210 #[.slice A n c,.int .i64 z] w0 fun v _=>v= .bool (decide (z∈l)):=by
 refine F.ij.vc (pm (F.bM.vc (NT hl hlen hn z (R:=fun v _=>v= .int .i64 (fD (fun x=>decide (x=z)) 0 l)) (fun _=>rfl) n 0 w0 rfl om (Below.refl _ _) rfl)) ?_);rintro v a _ rfl;refine⟨_,rfl,?_⟩;dsimp only;rw[sE];refine ca Value.bool ?_;rw[uk,pe,iv];simp

structure JB (w0 wb:World) (k:Tk) (ps:List Pa) (hs:List Ho) (xs:List Rm) (l aW:List Sw) (w:World):Prop where
 b:Below w0.heap.size w0 w
 lo:w0.heap.size<=wb.heap.size
 tb:zZ wb k ps hs xs l aW
 c:Cl wb w
 kn:xZ w w0.heap.size k (jL ps hs (dD xs) l aW)
 m:k.m<wb.heap.size
section
variable {w0 wb w:World} {A0 A1 A2 A A3 A5:Option Addr} {n0 c0 n1 c1 n2 c2 n c n3 c3 n5 c5:Nat} {ps:List Pa} {hs:List Ho} {xs:List Rm} {l aW:List Sw} {k:Tk} {o:List Int}
theorem JB.t(h:JB w0 wb k ps hs xs l aW w):zZ w k ps hs xs l aW:=h.tb.cl h.c
theorem JB.hi{w w':World}(h:JB w0 wb k ps hs xs l aW w)(hb:Below wb.heap.size w w'):JB w0 wb k ps hs xs l aW w':=by
 obtain⟨f,f1,f2⟩:=h.kn;refine⟨h.b.trans (hb.mono h.lo),h.lo,h.tb,⟨dT h.c.size hb.size,fun i cs ty fr e=> ?_⟩,⟨f,f1.same (hb.block _ h.m),f2⟩,h.m⟩;rw[hb.block i (ax.1 e).1];exact h.c.cells i cs ty fr e
theorem JB.av{w w':World}(h:JB w0 wb k ps hs xs l aW w)(hb:Below w.heap.size w w'):JB w0 wb k ps hs xs l aW w':=h.hi (hb.mono h.c.size)
theorem JB.new(hb:Below w0.heap.size w0 wb)(b:zZ wb k ps hs xs l aW)(a:xZ wb w0.heap.size k (jL ps hs (dD xs) l aW)):JB w0 wb k ps hs xs l aW wb:=
 ⟨hb,hb.size,b,Cl.refl _,a,by obtain⟨f,f1,_⟩:=a;exact f1.lt⟩
theorem JB.allowed(hg:bk w0)(h:JB w0 wb k ps hs xs l aW w){s:Nat}(d:s<128){R:Value->World->Prop}(e:∀w',JB w0 wb k ps hs xs l aW w'->Gs k.m w w'->Cl w w'->R (.bool (jL ps hs (dD xs) l aW s)) w'):
  cI Tryz.prog 211 #[.pointer (some k.p),.int .i64 (s:Int)] w0.heap.size w R:=by
 refine cI.mono (IM (hg.next h.b) h.t h.b.size h.kn d) ?_;rintro v w' g ⟨rfl,kn,bt⟩;have a:=bt.cl h.kn.map;exact e w' ⟨h.b.trans g,h.lo,h.tb,h.c.trans a,kn,h.m⟩ bt a
theorem NU(hg:bk w)(hp:nP w A0 n0 A1 n1 A2 n2 c2 ps hs xs)(h:bR w A 3 (l.map Sw.row))(hl:l.length=n)(N:n<=c)(hn:n<=40)(O:bR w A3 3 (aW.map Sw.row))(P:aW.length=n3)(ho:bR w A5 1 (o.map fE))(K:o.length=n5)(Q:n5<2147483648):
  Pure Tryz.prog 172 #[.agg #[.slice A0 n0 c0,.slice A1 n1 c1,.slice A2 n2 c2],.slice A n c,.slice A3 n3 c3,.slice A5 n5 c5] w fun v _=>v= .tuple #[.int .i64 (qf ps hs (dD xs) l aW o).1,.int .i64 (qf ps hs (dD xs) l aW o).2]:=by
 refine F.bD.vc fun w1 R=> ?_
 have hw:=k0 R;refine pm (NS (hg.next hw) (hp.av hw) (h.av hw lf) hl N hn (O.av hw lf) P) ?_;intro v y S r;have T:=kP hw S;unfold qf;by_cases z:mj ps hs (dD xs) l aW≠0
 ·rw[bm z];have r:=r.1 z;subst r;exact⟨_,_,rfl,fun _=>rfl,fun k=>absurd z k⟩
 rw[aq z];obtain⟨k,r,L,C⟩:=r.2 (ek.1 z);subst r;have U:=L.ok.n;have run:JB w y k ps hs xs l aW y:= .new T L (C.le hw.size);unfold Rf;refine⟨_,_,rfl,fun q=>absurd rfl q,fun _=>⟨fun h1=> ?_,fun h1=> ?_⟩⟩
 ·rw[bm (fun q=>by have:=q.1;omega)]
 have h1:n5=n3:=om;have walk:(o.length=aW.length/\∀i∈List.range aW.length,((i:Nat):Int)∈o)->∀(d j s:Nat)(w':World),n5 - j=d->j<=n5->s<2^6->JB w y k ps hs xs l aW w'->
   F.bD.xY (some k.p) s A5 n5 c5 n5 j w.heap.size w' fun v _=>v= .tuple #[.int .i64 (Co (jL ps hs (dD xs) l aW) s j (o.drop j)).1,.int .i64 (Co (jL ps hs (dD xs) l aW) s j (o.drop j)).2]:=by
  intro B d;induction d with
  |zero=>
   intro j s w' D hj M g;rw[de om];exact F.bD.xY.step ⟨fun h=>by omega,fun _=>rfl⟩
  |succ d ih=>
   intro j s w' D hj M g;have E:j<o.length:=om;have G:=sc j;obtain⟨x,hx⟩:∃x:Nat,o[j]=(x:Int)/\x<aW.length:=by
    have:=(KY B).mem_iff.1 (bA E);obtain⟨x,hx,e⟩:=gX.1 this;exact⟨x,e.symm,CA.1 hx⟩
   obtain⟨V,W,X,a,_⟩:=(ho.av g.b lf).at_ (fun _=>rfl) K E;rw[dp E,Co,hx.1,cc];rw[hx.1]at a;have H:=Mw (i:=x) M om;refine F.bD.xY.step ⟨fun _=>⟨V,W,X,_,a,WW om,?_⟩,fun h=>by omega⟩;rw[Vb _ om,ZK _ om _ om];refine g.allowed hg om fun Y I _ _=>⟨fun _ _ _ h=>(by cases h),_,rfl,fun m=> ?_,fun m=>⟨ir,?_⟩⟩
   ·rw[aq (by rw[m];decide)]
   ·rw[bm (ph _|>.mp m),G];exact ih (j+1) (KX s x) Y om om H I
 have key:∀(d j:Nat)(w':World),n3 - j=d->j<=n3->JB w y k ps hs xs l aW w'->(∀i∈List.range j,((i:Nat):Int)∈o)->
   F.bD.L7 A5 n5 c5 (some k.p) n3 j w.heap.size w' fun v _=>v= .tuple #[.int .i64 (if ¬(o.length=aW.length/\∀i∈List.range aW.length,((i:Nat):Int)∈o)then((-1,10):Int×Int)else Co (jL ps hs (dD xs) l aW) 0 0 o).1,.int .i64 (if ¬(o.length=aW.length/\∀i∈List.range aW.length,((i:Nat):Int)∈o)then((-1,10):Int×Int)else Co (jL ps hs (dD xs) l aW) 0 0 o).2]:=by
  intro d;induction d with
  |zero=>
   intro j w' D hj g J;have B:o.length=aW.length/\∀i∈List.range aW.length,((i:Nat):Int)∈o:=⟨om,by rw[show aW.length=j by omega];exact J⟩
   rw[aq (fun q=>q B)];refine F.bD.L7.step ⟨fun h=>by omega,fun _=> ?_⟩;exact walk B n5 0 0 w' rfl om dc g
  |succ d ih=>
   intro j w' D hj g J;have G:=sc j;refine F.bD.L7.step ⟨fun _=> ?_,fun h=>by omega⟩;refine pm (ZQ (ho.av g.b lf) K Q j) ?_;rintro v Z b8 rfl;refine⟨_,rfl,fun m=> ?_,fun m=>⟨ir,?_⟩⟩
   ·rw[bm (fun q=>hP m (q.2 j (CA.2 om)))]
   ·rw[G];refine ih (j+1) Z om om (g.av b8) fun i hi=> ?_
    rw[AG]at hi;rcases ga.1 hi with hi|hi
    ·exact J i hi
    ·rw[ec.1 hi];exact fk (ph _|>.mp m)
 exact key n3 0 y rfl om run sm
end

theorem ZR{w:World}{A:Option Addr}{n c:Nat}{rows:List (List Value)}(h:bR w A 4 rows)(hlen:rows.length=n)(g:∀r∈rows,r.length=4)(h1:∀r∈rows,∀u∈r,bo u=true)(hn:n<=1000000):
  Pure Tryz.prog 33 #[.slice A n c] w fun v w'=>∃A' c',v= .slice A' n c'/\aF w' w.heap.size 94 A' n c' 4 rows:=by
 refine F.dy.vc ⟨fun b=> ?_,fun b=> ?_⟩
 ·subst b;have:=h.rp;subst this;simp at hlen;subst hlen;exact⟨none,0,rfl,aF.nil⟩
 ·obtain⟨a,rfl⟩:=zY.1 b;refine bc QZ [] sm sm lf fun A2 c2 i ho d=> ?_
  refine uc QZ lf (by simpa using ho) (h.below d) hlen g h1 d.size (by simp;omega) sm fun A' c' j e _ k=> ?_
  simp only[vu,jx,LR,rT]at e⊢;exact⟨A',c',rfl,e⟩
theorem RP{v:List Va}:∀r∈v.map Va.row,r.length=4:=by
 intro r a;obtain⟨x,_,rfl⟩:=gX.1 a;rfl
theorem NV{v:List Va}:∀r∈v.map Va.row,∀u∈r,bo u=true:=by
 intro r a u hu;obtain⟨x,_,rfl⟩:=gX.1 a;simp only[Va.row,cy,fX,tu]at hu;rcases hu with rfl|rfl|rfl|rfl<;>rfl

theorem Lm{p:Option Ch}{c:Ch}(h:fw p c=0):fw none c=0:=by
 unfold fw at*;split at h
 ·exact absurd h om
 ·rename_i h1;rw[aq h1];split at h
  ·exact absurd h om
  ·rename_i a;rw[aq a];split at h
   ·exact absurd h om
   ·rename_i b;rw[aq b,aq];rintro⟨q,d,_⟩;cases d

def oN(l:List Ch)(v:List Va)(chan tick:Int)(raw:ByteArray):Except Int (List Va):=
 if(iN l).2=0/\rB l v=true/\vR raw=true then
  match F8 (fun c=>decide (c.id=chan)) 0 l with
  | .negSucc _=> .error 7
  | .ofNat i=>
   if 0<=tick/\tick<=1073741824 then
    match l[i]?,v[i]? with
    |some c,some u=>if tick<u.tick then .error 5 else .ok (v.set i ⟨chan,tick,wc c u (gm c raw) tick,rS (gm c raw)⟩)
    |_,_=> .error 0
   else .error 2
 else .error 1

theorem Vg{w:World}{c:Ch}{p:Nat}{chan tick:Int}{raw:ByteArray}(h:w.heap[p]? =some (.cells [.int .i64 chan,.int .i64 tick,.string raw].toArray 243 (0,0))):
  Pure Tryz.prog 215 #[c.val,.pointer (some ⟨p,0,none⟩)] w fun v _=>v= .bool (decide (c.id=chan)):=
 F.pB.vc fun w1 a=>⟨_,bz (ext_nil a h) rfl,rfl⟩

def WZ(r:Except Int (List Va))(n:Nat)(B:Nat)(y:Value)(w:World):Prop:=match r with
 | .error e=>y= .tuple #[.slice none 0 0,.int .i64 e]
 | .ok v=>∃A c,y= .tuple #[.slice A n c,.int .i64 0]/\aF w B 94 A n c 4 (v.map Va.row)

theorem nN{w:World}(hg:bk w){A A1:Option Addr}{n n1 c c1:Nat}{l:List Ch}{v:List Va}{chan tick:Int}{raw:ByteArray}(hl:bR w A 7 (l.map Ch.row))(hlen:l.length=n)(L:bR w A1 4 (v.map Va.row))(M:v.length=n1)(hn:n<2147483648)
  (z:∀x∈l,Jv x) (mv:∀x∈v,Zq x) (hr:mc raw):
  Pure Tryz.prog 173 #[.slice A n c,.slice A1 n1 c1,.agg #[.int .i64 chan,.int .i64 tick,.string raw]] w (WZ (oN l v chan tick raw) n1 w.heap.size):=by
 refine F.nN.vc fun w1 x1=> ?_
 have d:=k0 x1;refine pm (jV (hg.next d) (hl.av d lf) hlen z) ?_;rintro y w2 b2 rfl;have b:=kP d b2;refine⟨_,rfl,fun h=> ?_,fun h=> ?_⟩
 ·have q:¬(iN l).2=0:=hP h;unfold oN;rw[aq (fun k=>q k.1)];rfl
 have O:(iN l).2=0:=by
  apply bx;intro k;exact h (ep k)
 refine pm (du (hg.next b) (hl.av b lf) hlen (L.av b lf) M hn mv) ?_;rintro y w3 b3 rfl;have B:=kP b b3;refine⟨_,rfl,fun h=> ?_,fun h=> ?_⟩
 ·unfold oN;rw[aq (fun k=>by rw[k.2.1]at h;cases h)];rfl
 have P:rB l v=true:=by simpa using h
 refine pm (dU (hg.next B) raw om) ?_;rintro y w4 b4 rfl;have C:=kP B b4;refine⟨_,rfl,fun h=> ?_,fun h p hp jy=> ?_⟩
 ·have q:vR raw=false:=h;unfold oN;rw[aq (fun k=>by rw[k.2.2]at q;cases q)];rfl
 have N:vR raw=true:=by simpa[vR]using h
 refine pm (KP (hl.av C lf) hlen hn (p:=fun c=>decide (c.id=chan)) kF fun w' Yy x=> ?_) ?_
 ·exact Vg (ag jy Yy)
 rintro y w5 b5 rfl;have CQ:=kP C b5;have NH:=ag jy b5;obtain⟨GN,Q⟩:=It P;rcases Ei (fun c=>decide (c.id=chan)) l 0 with⟨hi,_⟩|⟨i,x,hi,hx,hpx,_⟩
 ·rw[hi];refine⟨_,rfl,fun _=> ?_,fun h=>absurd om h⟩;have e:oN l v chan tick raw= .error 7:=by
   unfold oN;rw[bm ⟨O,P,N⟩,hi];rfl
  rw[e];rfl
 rw[jx]at hi;have cn:i<l.length:=(eh.1 hx).1;have R:i<v.length:=om;obtain⟨u,hu⟩:∃u,v[i]? =some u:=⟨v[i],by simp[R]⟩
 have fu:=Q i x u hx hu;obtain⟨aot,D⟩:=uq O;obtain⟨⟨v1,v2,v3,v4,v5⟩,_,_⟩:=ur (D i x hx);have g:Jv x:=z x (gb hx);have smu:Zq u:=mv u (gb hu);have E:(0<=u.tick/\u.tick<=1073741824)/\vR u.num=true:=by
  unfold xR at fu;simp only[cz,iv]at fu;exact⟨fu.1.1.2,fu.1.2⟩
 have hT:oN l v chan tick raw=if 0<=tick/\tick<=1073741824 then(if tick<u.tick then .error 5 else .ok (v.set i ⟨chan,tick,wc x u (gm x raw) tick,rS (gm x raw)⟩))else .error 2:=by
  have Hj:F8 (fun c=>decide (c.id=chan)) 0 l=Int.ofNat i:=hi;unfold oN;rw[bm ⟨O,P,N⟩,Hj];simp only[hx,hu]
 rw[hi,hT];refine⟨_,rfl,fun h=>absurd h om,fun _=>⟨_,bz NH rfl,pm (lF _ _) ?_⟩⟩;rintro y w6 b6 rfl;have YM:=kP CQ b6;have G:=ag NH b6;refine⟨_,rfl,fun h=> ?_,fun h=> ?_⟩
 ·have q:¬(0<=tick/\tick<=1073741824):=hP h;rw[aq q];rfl
 have k4:0<=tick/\tick<=1073741824:=by
  apply bx;intro k;exact h (ep k)
 rw[bm k4];have r:((i:Int)).toNat=i:=cc i;obtain⟨q1,a,hA,gO⟩:=(L.av YM lf).load (n:=n1) (by simpa using M) (j:=(i:Int)) om om;obtain⟨_,m⟩:=gO u.row (by rw[r];simp[hu]) rfl;refine⟨_,bz G rfl,q1,a,hA,_,m 1 _ rfl,fun h w7 _=> ?_,fun h w7 x7=> ?_⟩
 ·rw[bm h];rfl
 rw[aq h];have H:=kE YM x7;have I:=ext_nil x7 G;obtain⟨q2,a2,pR,Ra⟩:=(hl.av H lf).load (n:=n) (by simpa using hlen) (j:=(i:Int)) om om;obtain⟨sG,_⟩:=Ra x.row (by rw[r];simp[hx]) rfl;refine⟨q2,a2,pR,_,_,_,_,_,_,_,sG,_,bz I rfl,fun w8 x8=> ?_⟩;have J:=kE H x8;have S:=ext_nil x8 I;refine pm (kx (hg.next J) g hr) ?_;rintro y w9 b9 rfl;have o:=kP J b9;have T:=ag S b9;refine⟨_,_,rfl,pm (ZR (L.av o lf) (by simpa using M) RP NV om) ?_⟩;rintro y jK xP ⟨A3,c3,rfl,o3⟩;have U:=kP o xP;have V:=ag T xP;obtain⟨q3,a3,Uu,W⟩:=(hl.av U lf).load (n:=n) (by simpa using hlen) (j:=(i:Int)) om om;obtain⟨ZT,_⟩:=W x.row (by rw[r];simp[hx]) rfl;obtain⟨q4,a4,Uv,X⟩:=(L.av U lf).load (n:=n1) (by simpa using M) (j:=(i:Int)) om om;obtain⟨B8,_⟩:=X u.row (by rw[r];simp[hu]) rfl;refine⟨_,_,_,rfl,_,bz V rfl,_,bz V rfl,q3,a3,Uu,_,_,_,_,_,_,_,ZT,q4,a4,Uv,_,_,_,_,B8,_,bz V rfl,fun wO GV=> ?_⟩;have M9:=kE U GV;have Y:(iN [x]).2=0:=by
  have h0:=Lm (D i x hx);unfold iN;rw[aq sm,WS,aq (fun k=>k h0)];rfl
 have Z:(sJ x raw).1=rS (gm x raw):=by unfold sJ;rw[bm ⟨Y,N⟩]
 rw[Z];have sx:Sm 10000 (gm x raw):=(KN g v1 v2 hr N).mono om;refine pm (cL (hg.next M9) g ⟨v3,v4,v5⟩ smu E.2 E.1 sx k4) ?_;rintro y FD MB rfl;have o4:=(o3.kR GV).below MB;obtain⟨q5,a5,hA5,cs,d1,d2,d3,d4,d5⟩:=o4.Nj (i:=(i:Int)) om om [.int .i64 chan,.int .i64 tick,.int .i64 (wc x u (gm x raw) tick),.string (rS (gm x raw))] u.row (by rw[r];simp[hu]) rfl;have K:w.heap.size<=w9.heap.size:=o.size;refine⟨_,rfl,q5,a5,hA5,cs,_,dT K d1,d2,d3,d4,rfl,fun xz rF=> ?_⟩;refine⟨A3,c3,rfl,?_⟩;have o5:=d5 xz rF;rw[r]at o5;have ady:(List.map Va.row (v.set i ⟨chan,tick,wc x u (gm x raw) tick,rS (gm x raw)⟩))=(List.map Va.row v).set i [.int .i64 chan,.int .i64 tick,.int .i64 (wc x u (gm x raw) tick),.string (rS (gm x raw))]:=by
  rw[Cd]
 rw[ady];exact o5.base K
end Go.Proofs.YtbcojgcjjpggnaaGreatDoor.B
