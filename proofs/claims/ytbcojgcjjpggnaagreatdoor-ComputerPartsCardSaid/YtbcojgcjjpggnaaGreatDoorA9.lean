/- Part 9 of the proofs that: Each step that was done was approved; folding in two parts is folding at once. -/
import Derived.Test.YtbcojgcjjpggnaaGreatDoorA8
import Derived.Test.YtbcojgcjjpggnaaGreatDoorProg
set_option linter.unusedVariables false
set_option linter.unusedSimpArgs false
set_option maxRecDepth 100000
set_option maxHeartbeats 4000000
namespace Go.Proofs.YtbcojgcjjpggnaaGreatDoor.F
open Go Go.RowKit Go.Proofs Go.Proofs.YtbcojgcjjpggnaaGreatDoor.Vc
open Tryz
variable {A C D E G H J K A0 A1 A2 A3 A4 A5 A6 A7 A8 A9 C0 C1 C2 C3 C4 C5 C6 C7 C8 C9:O} {a b c d e f g i j l m n o a0 a1 a2 a3 a4 a5 a6 a7 a8 a9 b0 b1 b2 b3 b4 b5 b6 b7 b8 b9 c0 c1 c2 c3 c4 c5 c6 c7 c8 c9:Nat} {p q r s t u v x p0 p1 p2 p3 p4 p5 p6 p7 p8 p9 q0 q1 q2 q3 q4 q5 q6 q7 q8 q9:Int} {L M N N0 N1 N2 N3 N4 N5 N6 N7 N8 N9 T0 T1 T2 T3 T4 T5 T6 T7 T8 T9:ByteArray} {Q S:Bool} {B:Nat} {w:World} {R:Kt}
def jg.cx:Pm:=([],[])
theorem jg.vc
  (h:(Br (((ByteArray.size L:Int):Int)<1) (∀a,Ext w.heap.size [] w a->(R (.tuple #[(.string ⟨#[]⟩),I 1]) a)) (Br (((ByteArray.size L:Int):Int)>64) (∀b,Ext w.heap.size [] w b->(R (.tuple #[(.string ⟨#[]⟩),I 1]) b)) (∀c,Ext w.heap.size [] w c->(Pure P 54 #[.string L,.agg #[I p,I q,.string M,.string N]] c (Rt fun d e=>(R (.tuple #[.string d,I 0]) e))))))):
  Pure P 23 #[.string L,.agg #[I p,I q,.string M,.string N]] w R:=
 pr jg.cx func23 h

def iw.cx:Pm:=([],[])
theorem iw.vc
  (h:(Pure P 108 #[.string L] w (Rt fun a b=>(R (.string a) b)))):
  Pure P 51 #[.string L] w R:=
 pr iw.cx func51 h

def qF.cx:Pm:=([],[])
theorem qF.vc
  (h:(∀c,Ext w.heap.size [] w c->(Pure P 50 #[I p] c (Rt fun a g=>(ByteArray.size a+ByteArray.size (⟨#[32]⟩:ByteArray)<=9223372036854775807/\(Pure P 50 #[I q] g (Rt fun b i=>(ByteArray.size (a++(⟨#[32]⟩:ByteArray))+ByteArray.size b<=9223372036854775807/\(ByteArray.size ((a++(⟨#[32]⟩:ByteArray))++b)+ByteArray.size (⟨#[32]⟩:ByteArray)<=9223372036854775807/\(ByteArray.size (((a++(⟨#[32]⟩:ByteArray))++b)++(⟨#[32]⟩:ByteArray))+ByteArray.size L<=9223372036854775807/\(Pure P 109 #[.string M,(.int .u8 (92:Int))] i (Rt fun d j=>(Pure P 109 #[.string M,(.int .u8 (54:Int))] j (Rt fun e l=>(ByteArray.size e+ByteArray.size ((((a++(⟨#[32]⟩:ByteArray))++b)++(⟨#[32]⟩:ByteArray))++L)<=9223372036854775807/\(Pure P 108 #[(.string (e++((((a++(⟨#[32]⟩:ByteArray))++b)++(⟨#[32]⟩:ByteArray))++L)))] l (Rt fun f m=>(ByteArray.size d+ByteArray.size f<=9223372036854775807/\(Pure P 108 #[(.string (d++f))] m (Rt fun n o=>(R (.string n) o))))))))))))))))))))):
  Pure P 54 #[.string M,.agg #[I p,I q,.string L,.string N]] w R:=
 pr qF.cx func54 h

def ix.cx:Pm:=([],[])
theorem ix.vc
  (h:(∀g,Ext w.heap.size [] w g->(Pure P 138 #[.slice A a b,.slice C c d,.string L,.agg #[.slice D e f,I p,I q],I r] g (XQ fun m j n l i=>(Br (l=0) (R (.bool (decide ((j:Int)=0))) i) (R (.bool false) i)))))):
  Pure P 83 #[.slice A a b,.slice C c d,.string L,.agg #[.slice D e f,I p,I q],I r] w R:=
 pr ix.cx func83 h

def dy.L3(a:ByteArray)(b:Int)(c:Addr)(d:Int):=Lt 109 f109 3 [vT 0 a,(1,.v (.int .u8 b)),(5,.v (.pointer (some c))),vI 7 d] []
def dy.cx:Pm:=([((true,3),[0,1,5,7],[])],[(1,0,2),(9,0,2),(9,1,2)])
theorem dy.L3.step{a:Addr}
  (h:(Br (p<64) (Br (p<(ByteArray.size L:Int)) ((0<=p/\p<(ByteArray.size L:Int))/\((0<=p/\p<64)/\(∃(c:List Value)(d:Nat),B<=(a.add ((p).toNat*1)).block/\(a.add ((p).toNat*1)).spot=none/\w.heap[(a.add ((p).toNat*1)).block]? =some (.cells c.toArray d (0,0))/\(a.add ((p).toNat*1)).off+1<=c.length/\hasType d []=false/\∀b,aL w b (a.add ((p).toNat*1)).block d (setCells c (a.add ((p).toNat*1)).off [(.int .u8 (bt L p))])->((0<=p/\p<64)/\(∃j,aa b (a.add ((p).toNat*1)) [.int .u8 j]/\((0<=p/\p<64)/\(∃(e:List Value)(f:Nat),B<=(a.add ((p).toNat*1)).block/\(a.add ((p).toNat*1)).spot=none/\b.heap[(a.add ((p).toNat*1)).block]? =some (.cells e.toArray f (0,0))/\(a.add ((p).toNat*1)).off+1<=e.length/\hasType f []=false/\∀l,aL b l (a.add ((p).toNat*1)).block f (setCells e (a.add ((p).toNat*1)).off [(.int .u8 (bits .xor .u8 j q))])->(aU .i64 (p+1)/\(dy.L3 L q a (p+1) B l R))))))))) ((0<=p/\p<64)/\(∃m,aa w (a.add ((p).toNat*1)) [.int .u8 m]/\((0<=p/\p<64)/\(∃(g:List Value)(i:Nat),B<=(a.add ((p).toNat*1)).block/\(a.add ((p).toNat*1)).spot=none/\w.heap[(a.add ((p).toNat*1)).block]? =some (.cells g.toArray i (0,0))/\(a.add ((p).toNat*1)).off+1<=g.length/\hasType i []=false/\∀n,aL w n (a.add ((p).toNat*1)).block i (setCells g (a.add ((p).toNat*1)).off [(.int .u8 (bits .xor .u8 m q))])->(aU .i64 (p+1)/\(dy.L3 L q a (p+1) B n R))))))) (ae P (Instr.sliceAt 232 (.pointer (some a)) none none none) B [] w (Rs fun o r s t=>(ae P (convert 115 9 (.slice o r s)) B [] t (Rt fun u v=>(R (.string u) v))))))):
  dy.L3 L q a p B w R:=
 lr dy.cx func109 h
theorem dy.vc
  (h:(ae P (Instr.alloc 232 true (.tuple #[])) w.heap.size [] w fun b c=>∃(a:Addr),b= .pointer (some a)/\(dy.L3 L p a (0:Int) w.heap.size c R))):
  Pure P 109 #[.string L,.int .u8 p] w R:=
 pr dy.cx func109 h

def aw.L8(a:O)(b c:Nat)(d:O)(e f:Nat)(g:Addr)(i:Addr)(j:Addr)(l:Option Nat)(m:O)(n o:Nat)(p q:Int):=Lt 138 f138 8 [vS 0 a b c,vS 1 d e f,(7,.v (.pointer (some g))),(8,.v (.pointer (some i))),(9,.v (.pointer (some j))),(14,.v (.map l)),vS 45 m n o,vI 46 p,vI 47 q] []
def aw.pL(a:O)(b c:Nat)(d:Addr)(e:Addr)(f:Addr)(g:Option Nat)(i:O)(j l:Nat)(m n:Int):=Lt 138 f138 13 [vS 1 a b c,(7,.v (.pointer (some d))),(8,.v (.pointer (some e))),(9,.v (.pointer (some f))),(14,.v (.map g)),vS 56 i j l,vI 57 m,vI 58 n] []
def aw.AA(a:Option Nat)(b:O)(c d:Nat)(e:Int):=Lt 138 f138 21 [(14,.v (.map a)),vS 20 b c d,vI 21 e] []
def aw.Jn(a:Option Nat)(b:O)(c d:Nat)(e f g:Int):=Lt 138 f138 24 [(14,.v (.map a)),vS 20 b c d,vI 21 e,vI 79 f,vI 80 g] []
def aw.cx:Pm:=([((true,8),[0,1,7,8,9,14,45,46,47],[]),((true,13),[1,7,8,9,14,56,57,58],[]),((true,21),[14,20,21],[]),((true,24),[14,20,21,79,80],[])],[(0,0,2),(0,1,2),(0,2,2),(6,0,2),(10,2,2),(10,4,2),(15,0,5),(17,3,2),(17,5,2),(23,2,2),(25,2,2),(25,3,2)])
theorem aw.L8.step{i j l:Addr}{g:Option Nat}
  (h:(Br (p<q) (Ix p e D fun o=>(∃m,aa w (o.add ((p).toNat*1)) [I m]/\(ae P (Instr.lookup 250 (.map g) (I m) false) B [] w (Ri fun n r=>(aU .i64 (n+1)/\(dZ P (Instr.mapUpdate 250 (.map g) (I m) (I (n+1))) B [] r fun s=>(aU .i64 (p+1)/\(aw.L8 A a b C c d i j l g D e f q (p+1) B s R)))))))) (aw.pL C c d i j l g A a b (a:Int) (0:Int) B w R))):
  aw.L8 A a b C c d i j l g D e f q p B w R:=
 lr aw.cx func138 h
theorem aw.pL.step{f g i:Addr}{e:Option Nat}
  (h:(Br (p<q) (Ix p c C fun v=>(∃o r s t,aa w (v.add ((p).toNat*4)) [I o,I r,.string s,.string t]/\(∀l,Ext B [] w l->(∀j:Nat,B<=j->l.heap[j]? =some (.cells [I o,I r,.string s,.string t].toArray 69 (0,0))->(Pure P 19 #[.slice A a b,(.func (.func 182) #[] #[(.pointer (some (⟨j,0,none⟩:Addr))),(.pointer (some f)),(.pointer (some i)),(.pointer (some g))])] l (Rb fun x m=>(Bb x (∃n,aa m ((⟨j,0,none⟩:Addr).add 1) [I n]/\(ae P (Instr.lookup 250 (.map e) (I n) false) B [] m (Ri fun u y=>(aU .i64 (u - (1:Int))/\(dZ P (Instr.mapUpdate 250 (.map e) (I n) (I (u - (1:Int)))) B [] y fun z=>(aU .i64 (p+1)/\(aw.pL A a b f g i e C c d q (p+1) B z R))))))) (aU .i64 (p+1)/\(aw.pL A a b f g i e C c d q (p+1) B m R))))))))) (aw.AA e none 0 0 (1:Int) B w R))):
  aw.pL A a b f g i e C c d q p B w R:=
 lr aw.cx func138 h
theorem aw.AA.step{c:Option Nat}
  (h:(Br (p<=(9:Int)) (ae P (Instr.lookup 250 (.map c) (I p) false) B [] w (Ri fun d e=>(aw.Jn c A a b p (if(0:Int)>d then(0:Int)else d) (0:Int) B e R))) (R (.tuple #[.slice A a b,I 0]) w))):
  aw.AA c A a b p B w R:=
 lr aw.cx func138 h
theorem aw.Jn.step{c:Option Nat}
  (h:(Br (q<r) (ae P (Instr.buildSlice 28 1 #[(0,(I p))]) B [] w (Rs fun d e f g=>(ae P (Builtin.append_ #[28,28] 28 #[.slice A a b,.slice d e f]) B [] g (Rs fun i j l m=>(aU .i64 (q+1)/\(aw.Jn c i j l p r (q+1) B m R)))))) (aU .i64 (p+1)/\(aw.AA c A a b (p+1) B w R)))):
  aw.Jn c A a b p r q B w R:=
 lr aw.cx func138 h
theorem aw.vc
  (h:(ae P (Instr.box 9 (.string L)) w.heap.size [] w fun K M=>∃(j:Addr),K= .pointer (some j)/\(ae P (Instr.box 161 (.agg #[.slice D e f,I p,I q])) w.heap.size [] M fun N O=>∃(i:Addr),N= .pointer (some i)/\(ae P (Instr.box 3 (I r)) w.heap.size [] O fun Q S=>∃(l:Addr),Q= .pointer (some l)/\(Pure P 171 #[.slice A a b,.slice C c d] S (Rii fun Y T m=>(Br (T≠0) (R (.tuple #[.slice none 0 0,I 1]) m) (∃o s t u v,aa m i [.slice o s t,I u,I v]/\(Pure P 180 #[.agg #[.slice o s t,I u,I v]] m (Rb fun U g=>(Br (U=false) (R (.tuple #[.slice none 0 0,I 1]) g) (∃x,aa g j [.string x]/\(Br (((ByteArray.size x:Int):Int)≠32) (R (.tuple #[.slice none 0 0,I 2]) g) (∃y,aa g l [I y]/\(Pure P 181 #[I y] g (Rb fun V z=>(Br (V=false) (R (.tuple #[.slice none 0 0,I 2]) z) (ae P (Instr.makeMap 250 none) w.heap.size [] z fun X E=>∃(G:Option Nat),X= .map G/\(∃H n J,aa E (i.add 0) [.slice H n J]/\(aw.L8 A a b C c d j i l G H n J (n:Int) (0:Int) w.heap.size E R)))))))))))))))))))):
  Pure P 138 #[.slice A a b,.slice C c d,.string L,.agg #[.slice D e f,I p,I q],I r] w R:=
 pr aw.cx func138 h

def cn.L6(a:O)(b c:Nat)(d:O)(e f:Nat)(g:O)(i j:Nat)(l m:Int):=Lt 171 f171 6 [vS 0 a b c,vS 1 d e f,vS 15 g i j,vI 16 l,vI 17 m] []
def cn.cx:Pm:=([((true,6),[0,1,15,16,17],[])],[])
theorem cn.L6.step
  (h:(Br (p<q) (Ix p d D fun v=>(∃g j l i,aa w (v.add ((p).toNat*4)) [I g,I j,.string l,.string i]/\((0<=p/\p<=(c:Int))/\(∀n,Ext B [] w n->(Pure P 207 #[.slice A a b,(.slice C ((p).toNat) c),.agg #[I g,I j,.string l,.string i]] n (Ri fun o m=>(Br (o≠0) (R (.tuple #[I p,I o]) m) (∀r,Ext B [] m r->(Pure P 208 #[.slice A a b,I g] r (Ri fun s x=>(Ix s a A fun y=>(∃t,aa m ((y.add ((s).toNat*4)).add 3) [.string t]/\(Pure P 54 #[.string t,.agg #[I g,I j,.string l,.string i]] x (Rt fun z u=>(Br (i≠z) (R (.tuple #[I p,I 14]) u) (aU .i64 (p+1)/\(cn.L6 A a b C e c D d f q (p+1) B u R))))))))))))))))) (R (.tuple #[(I (-1:Int)),I 0]) w))):
  cn.L6 A a b C e c D d f q p B w R:=
 lr cn.cx func171 h
theorem cn.vc
  (h:(Pure P 206 #[.slice A b c] w (Rb fun f e=>(Br (f=false) (R (.tuple #[(I (-1:Int)),I 1]) e) (Br ((a:Int)>1024) (R (.tuple #[(I (-1:Int)),I 8]) e) (cn.L6 A b c C a d C a d (a:Int) (0:Int) w.heap.size e R)))))):
  Pure P 171 #[.slice A b c,.slice C a d] w R:=
 pr cn.cx func171 h

def jM.cx:Pm:=([],[])
theorem jM.vc
  (h:(Br ((a:Int)≥(1:Int)) (Br ((a:Int)<=(9:Int)) (∀c,Ext w.heap.size [] w c->(Pure P 225 #[.slice A a b,(.func (.func 226) #[] #[])] c (Rb fun i d=>(Br (i=false) (Pure P 181 #[I p] d (Rb fun j e=>(Bb j (Pure P 181 #[I q] e (Rb fun l m=>(R (.bool l) m))) (R (.bool false) e)))) (R (.bool false) d))))) (∀f,Ext w.heap.size [] w f->(R (.bool false) f))) (∀g,Ext w.heap.size [] w g->(R (.bool false) g)))):
  Pure P 180 #[.agg #[.slice A a b,I p,I q]] w R:=
 pr jM.cx func180 h

def gd.cx:Pm:=([],[])
theorem gd.vc
  (h:(Br (p≥(0:Int)) (R (.bool (decide (p<=(1073741824:Int)))) w) (R (.bool false) w))):
  Pure P 181 #[I p] w R:=
 pr gd.cx func181 h

def kg.cx:Pm:=([],[])
theorem kg.vc{b g c d:Addr}
  (h:(∀a,Ext w.heap.size [] w a->(∃i,aa a (b.add 0) [I i]/\(Br (q=i) (∃j,aa a g [.string j]/\(Br (L=j) (∃l,aa a c [I l]/\(Br (p<=l) (∃e,aa a c [I e]/\(∃f,aa a (d.add 1) [I f]/\(aU .i64 (e - f)/\(Br (p≥(e - f)) (∃m,aa a (b.add 0) [I m]/\(∃n,aa a (d.add 2) [I n]/\(R (.bool (decide (m≠n))) a))) (R (.bool false) a))))) (R (.bool false) a))) (R (.bool false) a))) (R (.bool false) a))))):
  Pure P 182 #[.agg #[I q,I p,.string L,.string M],(.pointer (some b)),(.pointer (some g)),(.pointer (some c)),(.pointer (some d))] w R:=
 pr kg.cx func182 h

def ct.L2(a:O)(b c:Nat)(d:O)(e f:Nat)(g i:Int):=Lt 206 f206 2 [vS 0 a b c,vS 5 d e f,vI 6 g,vI 7 i] []
def ct.cx:Pm:=([((true,2),[0,5,6,7],[])],[(4,9999,3)])
theorem ct.L2.step
  (h:(Br (p<q) (Ix p b C fun v=>(∃f i j l,aa w (v.add ((p).toNat*4)) [I f,I i,.string j,.string l]/\(∀e,Ext B [] w e->(Br (f<1) (∀m,Ext B [] e m->(R (.bool false) m)) (Br (f>1073741824) (∀n,Ext B [] e n->(R (.bool false) n)) (Br (i<1) (∀o,Ext B [] e o->(R (.bool false) o)) (Br (i>9) (∀r,Ext B [] e r->(R (.bool false) r)) (∀s,Ext B [] e s->(Pure P 249 #[.string j] s (Rb fun x t=>(Br (x=false) (R (.bool false) t) (Pure P 249 #[.string l] t (Rb fun y g=>(Br (y=false) (R (.bool false) g) (Br (p>0) (aU .i64 (p - (1:Int))/\(Ix (p - (1:Int)) a A fun z=>(∃u,aa e ((z.add (((p - (1:Int))).toNat*4)).add 0) [I u]/\(Br (u≥f) (R (.bool false) g) (aU .i64 (p+1)/\(ct.L2 A a c C b d q (p+1) B g R)))))) (aU .i64 (p+1)/\(ct.L2 A a c C b d q (p+1) B g R))))))))))))))))) (R (.bool (decide ((a:Int)<=(16:Int)))) w))):
  ct.L2 A a c C b d q p B w R:=
 lr ct.cx func206 h
theorem ct.vc
  (h:(ct.L2 A a b A a b (a:Int) (0:Int) w.heap.size w R)):
  Pure P 206 #[.slice A a b] w R:=
 pr ct.cx func206 h

def jN.cx:Pm:=([],[(7,1,5)])
theorem jN.vc
  (h:(∀l,Ext w.heap.size [] w l->(Pure P 208 #[.slice C c d,I q] l (Ri fun t m=>(Br (t<0) (R (I 7) m) (Pure P 181 #[I p] m (Rb fun u e=>(Br (u=false) (R (I 2) e) (Br (((ByteArray.size L:Int):Int)≠32) (R (I 2) e) (Br ((a:Int)>0) (aU .i64 ((a:Int) - (1:Int))/\(Ix ((a:Int) - (1:Int)) a A fun v=>(∃n,aa e ((v.add ((((a:Int) - (1:Int))).toNat*4)).add 1) [I n]/\(Br (n>p) (∀o,Ext w.heap.size [] e o->(R (I 5) o)) (∀f,Ext w.heap.size [] e f->(∀g:Nat,w.heap.size<=g->f.heap[g]? =some (.cells [I q,I p,.string L,.string M].toArray 66 (0,0))->(Pure P 19 #[.slice A a b,(.func (.func 250) #[] #[(.pointer (some (⟨g,0,none⟩:Addr)))])] f (Rb fun x r=>(Bb x (R (I 6) r) (R (I 0) r)))))))))) (∀i,Ext w.heap.size [] e i->(∀j:Nat,w.heap.size<=j->i.heap[j]? =some (.cells [I q,I p,.string L,.string M].toArray 66 (0,0))->(Pure P 19 #[.slice A a b,(.func (.func 250) #[] #[(.pointer (some (⟨j,0,none⟩:Addr)))])] i (Rb fun y s=>(Bb y (R (I 6) s) (R (I 0) s)))))))))))))))):
  Pure P 207 #[.slice C c d,.slice A a b,.agg #[I q,I p,.string L,.string M]] w R:=
 pr jN.cx func207 h

def gG.cx:Pm:=([],[(1,1,5)])
theorem gG.vc
  (h:(∀c,Ext w.heap.size [] w c->(∀d:Nat,w.heap.size<=d->c.heap[d]? =some (.cells [I p].toArray 3 (0,0))->(Pure P 21 #[.slice A a b,(.func (.func 251) #[] #[(.pointer (some (⟨d,0,none⟩:Addr)))])] c (Ri fun e f=>(R (I e) f)))))):
  Pure P 208 #[.slice A a b,I p] w R:=
 pr gG.cx func208 h

def ml.cx:Pm:=([],[])
theorem ml.vc
  (h:(Br (p<1) (R (.bool true) w) (R (.bool (decide (p>9))) w))):
  Pure P 226 #[I p] w R:=
 pr ml.cx func226 h

def iy.cx:Pm:=([],[])
theorem iy.vc
  (h:(Br (((ByteArray.size L:Int):Int)≥(1:Int)) (R (.bool (decide (((ByteArray.size L:Int):Int)<=(64:Int)))) w) (R (.bool false) w))):
  Pure P 249 #[.string L] w R:=
 pr iy.cx func249 h

def mm.cx:Pm:=([],[])
theorem mm.vc{b:Addr}
  (h:(∀a,Ext w.heap.size [] w a->(∃c,aa a (b.add 0) [I c]/\(Br (p=c) (∃d,aa a (b.add 2) [.string d]/\(Br (L=d) (∃e,aa a (b.add 1) [I e]/\(R (.bool (decide (q=e))) a)) (R (.bool false) a))) (R (.bool false) a))))):
  Pure P 250 #[.agg #[I p,I q,.string L,.string M],(.pointer (some b))] w R:=
 pr mm.cx func250 h

def kR.cx:Pm:=([],[])
theorem kR.vc{b:Addr}
  (h:(∀a,Ext w.heap.size [] w a->(∃c,aa a b [I c]/\(R (.bool (decide (p=c))) a)))):
  Pure P 251 #[.agg #[I p,I q,.string L,.string M],(.pointer (some b))] w R:=
 pr kR.cx func251 h

end Go.Proofs.YtbcojgcjjpggnaaGreatDoor.F

namespace Go.Proofs.YtbcojgcjjpggnaaGreatDoor.B
open Go Go.RowKit Go.Proofs Go.Proofs.YtbcojgcjjpggnaaGreatDoor.Vc

structure oG where
 sum:ByteArray->ByteArray
 pad:ByteArray->Int->ByteArray
structure fM (H:oG):Prop where
 sum:∀(w:World)(s:ByteArray),s.size<=100000000->Pure Tryz.prog 108 #[.string s] w fun v _=>v= .string (H.sum s)
 len:∀s:ByteArray,(H.sum s).size=32
 pad:∀(w:World)(s:ByteArray)(b:Int),s.size<=64->0<=b->b<256->Pure Tryz.prog 109 #[.string s,.int .u8 b] w fun v _=>v= .string (H.pad s b)
 ac7:∀(s:ByteArray)(b:Int),(H.pad s b).size=64
abbrev Cs:ByteArray:=⟨#[32]⟩
def vU(a:Ap):ByteArray:=(((iS a.bV++Cs)++iS a.tick)++Cs)++a.subject
def codeF(H:oG)(key:ByteArray)(a:Ap):ByteArray:=H.sum (H.pad key 92++H.sum (H.pad key 54++vU a))
theorem yJ{z:Int}(a: -9223372036854775808<=z)(h1:z<=9223372036854775807):(iS z).size<=20:=by
 show(kr z).length<=20;exact jA (k:=19) om om
section
variable {H:oG} {w:World}
theorem Ms(ok:fM H)(hg:bj w){key:ByteArray}{a:Ap}(c:key.size<=64)(h1:aU .i64 a.bV)(b:aU .i64 a.tick)(hs:a.subject.size<=1000000):
  Pure Tryz.prog 54 #[.string key,a.val] w fun v _=>v= .string (codeF H key a):=by
 simp only[aU]at h1 b;have l1:=yJ h1.1 h1.2;have n:=yJ b.1 b.2;have s1:Cs.size=1:=rfl;refine F.qF.vc fun w1 g=> ?_
 have d:=k0 g;refine pm (tZ (hg.next d) _ h1.1 h1.2) ?_;rintro v o h rfl;have e:=kP d h;refine⟨_,rfl,by show _+Cs.size<=_;omega,pm (tZ (hg.next e) _ b.1 b.2) ?_⟩;rintro v i j rfl;have q:=kP e j;have z1:(iS a.bV++Cs).size=(iS a.bV).size+1:=by rw[jv];rfl
 have z2:((iS a.bV++Cs)++iS a.tick).size=(iS a.bV).size+1+(iS a.tick).size:=by rw[jv,z1]
 have z3:(((iS a.bV++Cs)++iS a.tick)++Cs).size=(iS a.bV).size+1+(iS a.tick).size+1:=by rw[jv,z2];rfl
 have z4:(vU a).size=(iS a.bV).size+1+(iS a.tick).size+1+a.subject.size:=by unfold vU;rw[jv,z3]
 refine⟨_,rfl,by show(iS a.bV++Cs).size+_<=_;omega,by show((iS a.bV++Cs)++iS a.tick).size+Cs.size<=_;omega,by show(((iS a.bV++Cs)++iS a.tick)++Cs).size+_<=_;omega,pm (ok.pad i key 92 c om om) ?_⟩;rintro v k r rfl;refine⟨_,rfl,pm (ok.pad k key 54 c om om) ?_⟩;rintro v l x rfl;have p1:=ok.ac7 key 54;have p2:=ok.ac7 key 92;have p3:=ok.len (H.pad key 54++vU a);have z5:(H.pad key 54++vU a).size=64+(vU a).size:=by rw[jv,p1]
 have y:(H.pad key 92++H.sum (H.pad key 54++vU a)).size=96:=by rw[jv,p2,p3]
 refine⟨_,rfl,by show _+(vU a).size<=_;omega,pm (ok.sum l (H.pad key 54++vU a) om) ?_⟩;rintro v m z rfl;refine⟨_,rfl,om,pm (ok.sum m (H.pad key 92++H.sum (H.pad key 54++vU a)) om) ?_⟩;rintro v A _ rfl;exact⟨_,rfl,rfl⟩
theorem jg(ok:fM H)(hg:bj w){key:ByteArray}{a:Ap}(b:1<=key.size)(c:key.size<=64)(h1:aU .i64 a.bV)(d:aU .i64 a.tick)(hs:a.subject.size<=1000000):
  Pure Tryz.prog 23 #[.string key,a.val] w fun v _=>v= .tuple #[.string (codeF H key a),.int .i64 0]:=by
 refine F.jg.vc ⟨fun h=>by omega,fun _=>⟨fun h=>by omega,fun _ g e=>pm (Ms ok (hg.next (k0 e)) c h1 d hs) ?_⟩⟩;rintro v i _ rfl;exact⟨_,rfl,rfl⟩
theorem iw(ok:fM H){s:ByteArray}(hs:s.size<=100000000):Pure Tryz.prog 51 #[.string s] w fun v _=>v= .string (H.sum s):=by
 refine F.iw.vc (pm (ok.sum w s hs) ?_);rintro v a _ rfl;exact⟨_,rfl,rfl⟩
theorem gd(n:Int)(w:World):Pure Tryz.prog 181 #[.int .i64 n] w fun v _=>v= .bool (decide (0<=n/\n<=1073741824)):=by
 refine F.gd.vc ⟨fun h=> ?_,fun h=> ?_⟩
 ·congr 1
  simp;omega
 ·congr 1
  simp;omega
theorem iy(s:ByteArray)(w:World):Pure Tryz.prog 249 #[.string s] w fun v _=>v= .bool (decide (1<=s.size/\s.size<=64)):=by
 refine F.iy.vc ⟨fun h=>bx Value.bool ?_,fun h=>bx Value.bool (U8 (en om))⟩;rw[nb];omega
def okS(p:Option Si)(s:Si):Prop:=(1<=s.id/\s.id<=1073741824)/\(1<=s.role/\s.role<=9)/\(1<=s.name.size/\s.name.size<=64)/\(1<=s.key.size/\s.key.size<=64)/\∀q,p=some q->q.id<s.id
def Gk:Option Si->List Si->Prop
 |_,[]=>True
 |p,s::r=>okS p s/\Gk (some s) r
noncomputable def mS(l:List Si):Bool:=by
 classical
 exact decide (Gk none l/\l.length<=16)
theorem gY{l:List Si}:mS l=true↔Gk none l/\l.length<=16:=by
 unfold mS;simp
theorem Ct:∀{l:List Si} {p:Option Si},Gk p l->∀s∈l,∃q,okS q s:=by
 intro l;induction l with
 |nil=>intro p _ s hs;cases hs
 |cons c r ih=>
  intro p h s hs;rcases cc.1 hs with rfl|hs
  ·exact⟨p,h.1⟩
  ·exact ih h.2 s hs
theorem ct{A:Option Addr}{n c:Nat}{l:List Si}(hl:bR w A 4 (l.map Si.row))(hlen:l.length=n)(hn:n<2147483648):
  Pure Tryz.prog 206 #[.slice A n c] w fun v _=>v= .bool (mS l):=by
 have key:∀(d i:Nat)(w':World),n - i=d->i<=n->Below w.heap.size w w'->(Gk (fo l i) (l.drop i)↔Gk none l)->F.ct.L2 A n c A n c n i w.heap.size w' fun v _=>v= .bool (mS l):=by
  intro d;induction d with
  |zero=>
   intro i w' C hi hw b;rw[cd om]at b;refine F.ct.L2.step ⟨fun h=>by omega,fun _=>bx Value.bool ?_⟩;have ha:Gk none l:=b.1 trivial;rw[ve,hJ,gY];exact⟨fun h=>⟨ha,om⟩,fun h=>by omega⟩
  |succ d ih=>
   intro i w' C hi hw b;have j:i<l.length:=om;have D:=sc i;rw[cz j,Gk,<-sD j]at b;have bad:¬okS (fo l i) l[i]->Value.bool false= .bool (mS l):=fun h=>by
    refine bx Value.bool (U8 (Iq.2 fun k=> ?_));exact h (b.2 (gY.1 k).1).1
   obtain⟨hb,E,G,g,_⟩:=(hl.au hw lf).at_ (fun _=>rfl) hlen j;refine F.ct.L2.step ⟨fun _=>⟨hb,E,G,_,_,_,_,g,fun S I=>⟨fun q w' _=>bad fun k=>by have:=k.1;omega,fun q1=>⟨fun q w' _=>bad fun k=>by have:=k.1;omega,fun T=>⟨fun q w' _=>bad fun k=>by have:=k.2.1;omega,fun U=>⟨fun q w' _=>bad fun k=>by have:=k.2.1;omega,fun V J K=>pm (iy _ J) ?_⟩⟩⟩⟩⟩,fun h=>by omega⟩;have x:=kE hw I;have L:=kE x K;rintro v M N rfl;have m:=kP L N;refine⟨_,rfl,fun q=>bad fun k=>iv q k.2.2.1,fun o=>pm (iy _ M) ?_⟩;rintro v y O rfl;have P:=kP m O;have o:1<=l[i].name.size/\l[i].name.size<=64:=by simpa using o
   refine⟨_,rfl,fun q=>bad fun k=>iv q k.2.2.2.1,fun r=> ?_⟩;have r:1<=l[i].key.size/\l[i].key.size<=64:=by simpa using r
   have go:(∀q,fo l i=some q->q.id<l[i].id)->aU .i64 ((i:Int)+1)/\F.ct.L2 A n c A n c n ((i:Int)+1) w.heap.size y fun v _=>v= .bool (mS l):=fun h=>by
    refine⟨ir,?_⟩;rw[D];refine ih (i+1) y om om P ⟨fun k=>b.1 ⟨⟨om,om,o,r,h⟩,k⟩,fun k=>(b.2 k).2⟩
   refine⟨fun Q=>⟨ir,?_⟩,fun Q=>go fun q e=> ?_⟩
   ·have z:i - 1<l.length:=om;have B:fo l i=some l[i - 1]:=by
     unfold fo;rw[aq om,af z]
    obtain⟨p1,a,p2,_,p3⟩:=(hl.au x lf).at_ (fun _=>rfl) hlen z;have e:((i - 1:Nat):Int)=(i:Int) - 1:=om;rw[e]at p1 p3;refine⟨p1,a,p2,_,p3 0 _ rfl,fun k=>bad fun R=> ?_,fun k=>go fun q e=> ?_⟩
    ·have:=R.2.2.2.2 _ B;omega
    ·rw[B]at e;cases e;omega
   ·unfold fo at e;rw[bb om]at e;cases e
 exact F.ct.vc (key n 0 w rfl om (Below.refl _ _) Iff.rfl)
theorem NG{p:Nat}{id:Int}(h:w.heap[p]? =some (.cells [Value.int .i64 id].toArray 3 (0,0)))(s:Si):
  Pure Tryz.prog 251 #[s.val,.pointer (some ⟨p,0,none⟩)] w fun v _=>v= .bool (decide (s.id=id)):=
 F.kR.vc fun w1 a=>⟨_,bE (ext_nil a h) rfl,rfl⟩
def Jy(l:List Si)(id:Int):Option Nat:=l.findIdx? fun s=>decide (s.id=id)
def ixO:Option Nat->Int
 |some i=>i
 |none=> -1
theorem gG{A:Option Addr}{n c:Nat}{l:List Si}(hl:bR w A 4 (l.map Si.row))(hlen:l.length=n)(hn:n<2147483648)(id:Int):
  Pure Tryz.prog 208 #[.slice A n c,.int .i64 id] w fun v _=>v= .int .i64 (ixO (Jy l id)):=by
 refine F.gG.vc fun w1 b p2 _ d=> ?_
 have h1:=k0 b;refine pm (Mk (hl.au h1 lf) hlen hn (a:= #[]) (k:= #[.pointer (some ⟨p2,0,none⟩)]) kF fun w' hb s _=>NG (ag d hb) s) ?_;rintro v e _ rfl;refine⟨_,rfl,?_⟩;rw[lB];unfold Jy ixO;cases l.findIdx? fun s=>decide (s.id=id)with
 |none=>rfl
 |some i=>simp
def mo(ss:List Si)(l:List Ap)(a:Ap):Int:=
 if Jy ss a.bV=none then 7 else if ¬(0<=a.tick/\a.tick<=1073741824)∨a.subject.size≠32 then 2
 else if ∃q,l.getLast? =some q/\q.tick>a.tick then 5
 else if(l.any fun b=>decide (b.bV=a.bV/\b.subject=a.subject/\b.tick=a.tick))=true then 6 else 0
theorem Rz{p:Nat}{a:Ap}(h:w.heap[p]? =some (.cells (Ap.row a).toArray 66 (0,0)))(b:Ap):
  Pure Tryz.prog 250 #[b.val,.pointer (some ⟨p,0,none⟩)] w fun v _=>v= .bool (decide (b.bV=a.bV/\b.subject=a.subject/\b.tick=a.tick)):=by
 refine F.mm.vc fun w1 d=> ?_
 have hb:=ext_nil d h;refine⟨_,aZ hb rfl,fun k=>⟨_,aZ hb rfl,fun c=>⟨_,aZ hb rfl,bx Value.bool ?_⟩,fun c=>bx Value.bool (U8 (en fun q=>c q.2.1))⟩,fun k=>bx Value.bool (U8 (en fun q=>k q.1))⟩;rw[nb];exact⟨fun q=>⟨k,c,q⟩,fun q=>q.2.2⟩
theorem jN{A A1:Option Addr}{n c n1 c1:Nat}{ss:List Si}{l:List Ap}(hs:bR w A 4 (ss.map Si.row))(y:ss.length=n)(hn:n<2147483648)(hl:bR w A1 4 (l.map Ap.row))(j:l.length=n1)(z:n1<2147483648)(a:Ap):
  Pure Tryz.prog 207 #[.slice A n c,.slice A1 n1 c1,a.val] w fun v _=>v= .int .i64 (mo ss l a):=by
 refine F.jN.vc fun w1 B=> ?_
 have h1:=k0 B;refine pm (gG (hs.au h1 lf) y hn a.bV) ?_;rintro v C D rfl;have E:=kP h1 D;unfold mo;have neg:ixO (Jy ss a.bV)<0↔Jy ss a.bV=none:=by
  unfold ixO;cases Jy ss a.bV with
  |none=>simp
  |some i=>simp
 refine⟨_,rfl,fun q=>by rw[bb (neg.1 q)],fun q=>pm (gd _ C) ?_⟩;rw[aq (fun k=>q (neg.2 k))];rintro v Q G rfl;have m:=kP E G;refine⟨_,rfl,fun q=>by rw[bb (.inl (iv q))],fun q1=> ?_⟩;have q1:0<=a.tick/\a.tick<=1073741824:=by simpa using q1
 refine⟨fun q=>by rw[bb (.inr om)],fun R=> ?_⟩;rw[aq (by rintro(k|k);exact k q1;omega)];have fin:∀(d:World),Below w.heap.size w d->∀g:Nat,d.heap[g]? =some (.cells (Ap.row a).toArray 66 (0,0))->Pure Tryz.prog 19 #[.slice A1 n1 c1,.func (.func 250) #[] #[.pointer (some ⟨g,0,none⟩)]] d
   (Rb fun I J=>Bb I (Value.int .i64 6= .int .i64 (if(l.any fun b=>decide (b.bV=a.bV/\b.subject=a.subject/\b.tick=a.tick))=true then 6 else 0)) (Value.int .i64 0= .int .i64 (if(l.any fun b=>decide (b.bV=a.bV/\b.subject=a.subject/\b.tick=a.tick))=true then 6 else 0))):=by
  intro d K g h;refine pm (wJ (hl.au K lf) j z (a:= #[]) (k:= #[.pointer (some ⟨g,0,none⟩)]) (p:=fun b=>decide (b.bV=a.bV/\b.subject=a.subject/\b.tick=a.tick)) kF fun w' hb b _=>Rz (ag h hb) b) ?_;rintro v J _ rfl;exact⟨_,rfl,fun k=>by rw[bb k],fun k=>by rw[aq (by rw[k];decide)]⟩
 refine⟨fun L=>⟨ir,?_⟩,fun L M N o _ h=> ?_⟩
 ·have r:n1 - 1<l.length:=om;have el:l.getLast? =some l[n1 - 1]:=by rw[Gp,<-af r,j]
  obtain⟨p1,O,p2,_,p3⟩:=(hl.au m lf).at_ (fun _=>rfl) j r;have e:((n1 - 1:Nat):Int)=(n1:Int) - 1:=om;rw[e]at p1 p3;refine⟨p1,O,p2,_,p3 1 _ rfl,fun k S _=>by rw[bb ⟨_,el,k⟩],fun k d P g _ h=> ?_⟩;rw[aq (by rintro⟨q,e,x⟩;rw[el]at e;cases e;exact k x)];exact fin d (kE m P) g h
 ·have:l=[]:=ep om;rw[aq (by rintro⟨q,e,x⟩;rw[this]at e;cases e)];exact fin M (kE m N) o h
end

theorem bR.pre{α:Type}{row:α->List Value}{w:World}{A:Option Addr}{sz:Nat}{l:List α}(h:bR w A sz (l.map row))(i:Nat):bR w A sz ((l.take i).map row):=by
 rw[Aa];exact h.take i
def IJ(ss:List Si)(id:Int):ByteArray:=match Jy ss id with
 |some k=>match ss[k]? with
  |some s=>s.key
  |none=>⟨#[]⟩
 |none=>⟨#[]⟩
def th(H:oG)(ss:List Si):List Ap->List Ap->Int×Int
 |_,[]=>(-1,0)
 |pre,a::r=>if mo ss pre a≠0 then((pre.length:Int),mo ss pre a)else if a.code≠codeF H (IJ ss a.bV) a then((pre.length:Int),14)else th H ss (pre++[a]) r
noncomputable def dO(H:oG)(ss:List Si)(l:List Ap):Int×Int:=if mS ss=false then(-1,1)else if 1024<l.length then(-1,8)else th H ss [] l
theorem zG{ss:List Si}{l:List Ap}{a:Ap}(h:mo ss l a=0):(∃k,Jy ss a.bV=some k)/\(0<=a.tick/\a.tick<=1073741824)/\a.subject.size=32:=by
 unfold mo at h;split at h
 ·cases h
 ·rename_i h1;split at h
  ·cases h
  ·rename_i b;refine⟨B4.1 h1,?_⟩;constructor
   ·apply bm;exact fun k=>b (.inl k)
   ·apply bm;exact fun k=>b (.inr k)
theorem Lb{ss:List Si}{id:Int}{k:Nat}(h:Jy ss id=some k):∃a:k<ss.length,ss[k].id=id:=by
 obtain⟨a,h1,_⟩:=tf.1 h;exact⟨a,eR h1⟩
section
variable {H:oG} {w:World} {A A1:Option Addr} {n c n1 c1:Nat} {ss:List Si} {l:List Ap}
theorem cn(ok:fM H)(hg:bj w)(hs:bR w A 4 (ss.map Si.row))(g:ss.length=n)(hn:n<2147483648)(hl:bR w A1 4 (l.map Ap.row))(E:l.length=n1)(T:n1<2147483648)(mv:n1<=c1):
  Pure Tryz.prog 171 #[.slice A n c,.slice A1 n1 c1] w fun v _=>v= .tuple #[.int .i64 (dO H ss l).1,.int .i64 (dO H ss l).2]:=by
 refine F.cn.vc (pm (ct hs g hn) ?_);rintro v G I rfl;unfold dO;refine⟨_,rfl,fun q=>by rw[bb q],fun q=> ?_⟩;rw[aq q];obtain⟨J,j⟩:=gY.1 (by simpa using q);refine⟨fun k=>by rw[bb om],fun k=> ?_⟩;rw[aq om];have key:∀(d i:Nat)(w':World),n1 - i=d->i<=n1->Below w.heap.size w w'->th H ss (l.take i) (l.drop i)=th H ss [] l->F.cn.L6 A n c A1 n1 c1 A1 n1 c1 n1 i w.heap.size w' fun v _=>v= .tuple #[.int .i64 (th H ss [] l).1,.int .i64 (th H ss [] l).2]:=by
  intro d;induction d with
  |zero=>
   intro i w' K hi hw b;rw[cd om]at b;rw[<-b];exact F.cn.L6.step ⟨fun h=>by omega,fun _=>rfl⟩
  |succ d ih=>
   intro i w' K hi hw b;have m:i<l.length:=om;have L:=sc i;have B:(l.take i).length=i:=by rw[ew];omega
   rw[cz m,th,B]at b;obtain⟨hb,M,N,e,_⟩:=(hl.au hw lf).at_ (fun _=>rfl) E m;refine F.cn.L6.step ⟨fun _=>⟨hb,M,N,_,_,_,_,e,om,fun U O=> ?_⟩,fun h=>by omega⟩;have o:=kE hw O;rw[ca];refine pm (jN (hs.au o lf) g hn ((hl.au o lf).pre i) B om l[i]) ?_;rintro v V P rfl;have C:=kP o P;refine⟨_,rfl,fun h=> ?_,fun h W r=> ?_⟩
   ·rw[bb h]at b;rw[<-b]
   rw[aq h]at b;have D:=kE C r;obtain⟨⟨k,x⟩,X,nB⟩:=zG (dT.1 h);obtain⟨y,hid⟩:=Lb x;obtain⟨_,ho⟩:=Ct J _ (bw y);have z:IJ ss l[i].bV=ss[k].key:=by
    unfold IJ;rw[x];simp only;rw[af y]
   refine pm (gG (hs.au D lf) g hn l[i].bV) ?_;rintro v Y Q rfl;have j:=kP D Q;rw[x];obtain⟨p1,a2,p2,_,p3⟩:=(hs.au C lf).at_ (fun _=>rfl) g y;refine⟨_,rfl,p1,a2,p2,_,p3 3 _ rfl,pm (Ms ok (hg.next j) (a:=l[i]) ho.2.2.2.1.2 (by simp only[aU];have:=ho.1;omega) ir om) ?_⟩;rintro v R S rfl;rw[z]at b;refine⟨_,rfl,fun q=> ?_,fun q=>⟨ir,?_⟩⟩
   ·rw[bb q]at b;rw[<-b]
   ·rw[aq q]at b;rw[L];refine ih (i+1) R om om (kP j S) ?_;rw[ft,af m];exact b
 exact key n1 0 G rfl om I rfl
def yK(a:List Int)(window except:Int):Bool:=decide ((1<=a.length/\a.length<=9)/\(∀r∈a,1<=r/\r<=9)/\(0<=window/\window<=1073741824)/\(0<=except/\except<=1073741824))
theorem RB(r:Int)(w:World):Pure Tryz.prog 226 #[.int .i64 r] w fun v _=>v= .bool (decide (¬(1<=r/\r<=9))):=by
 refine F.ml.vc ⟨fun h=>bx Value.bool (U8 (gu om)),fun h=>bx Value.bool ?_⟩;rw[nb];omega
theorem jM{A0:Option Addr}{n0 c0:Nat}{b:List Int}(d:bR w A0 1 (b.map fG))(e:b.length=n0)(j:n0<2147483648)(window except:Int):
  Pure Tryz.prog 180 #[.agg #[.slice A0 n0 c0,.int .i64 window,.int .i64 except]] w fun v _=>v= .bool (yK b window except):=by
 have no:¬((1<=b.length/\b.length<=9)/\(∀r∈b,1<=r/\r<=9)/\(0<=window/\window<=1073741824)/\(0<=except/\except<=1073741824))->Value.bool false= .bool (yK b window except):=fun h=>by
  unfold yK;rw[en h]
 refine F.jM.vc ⟨fun q1=>⟨fun m w1 o=> ?_,fun m y _=>no fun k=>by have:=k.1;omega⟩,fun q1 z _=>no fun k=>by have:=k.1;omega⟩;have h1:=k0 o;refine pm (DS (d.au h1 lf) e j (a:= #[]) (k:= #[]) (p:=fun r=>decide (¬(1<=r/\r<=9))) kF fun w' _ r _=>RB r w') ?_;rintro v q B rfl;refine⟨_,rfl,fun g=>pm (gd _ q) ?_,fun g=>no fun k=>g (Iq.2 fun h=> ?_)⟩
 ·have all:∀r∈b,1<=r/\r<=9:=fun r d=>by
   have:=xW.1 g r d;simpa using this
  rintro v x C rfl;refine⟨_,rfl,fun i=>pm (gd _ x) ?_,fun i=>no fun k=>iv i k.2.2.1⟩;rintro v D _ rfl;refine⟨_,rfl,bx Value.bool ?_⟩;unfold yK;rw[nb];exact⟨fun k=>⟨om,all,eR i,k⟩,fun k=>k.2.2.2⟩
 ·obtain⟨r,d,hx⟩:=oZ.1 h;exact eR hx (k.2.1 r d)
end

theorem mpI:Zi 250 3 3 (.int .i64 0):=⟨kF,kF,fun w=>by kernel_rfl⟩
def Lc(s:Si)(subject:ByteArray)(window except at_:Int)(a:Ap):Bool:=decide (a.bV=s.id/\a.subject=subject/\a.tick<=at_/\a.tick≥at_ - window/\s.id≠except)
def Dn(l:List Ap)(subject:ByteArray)(window except at_:Int)(s:Si):Bool:=l.any (Lc s subject window except at_)
def rz(ss:List Si)(l:List Ap)(subject:ByteArray)(eJ:List Int)(window except at_ r:Int):Int:=(eJ.count r:Int) - (ss.countP fun s=>decide (s.role=r)&&Dn l subject window except at_ s:Nat)
def wL(g:Int->Int)(k:Nat):List Int:=(List.range k).flatMap fun(j:Nat)=>List.replicate (g ((j:Int)+1)).toNat ((j:Int)+1)
theorem NH(g:Int->Int)(k:Nat):wL g (k+1)=wL g k++List.replicate (g ((k:Int)+1)).toNat ((k:Int)+1):=by
 unfold wL;rw[B6,MU];simp
noncomputable def ti(H:oG)(ss:List Si)(l:List Ap)(subject:ByteArray)(eJ:List Int)(window except at_:Int):List Int×Int:=
 if(dO H ss l).2≠0 then([],1)else if yK eJ window except=false then([],1)else if subject.size≠32 then([],2)else if ¬(0<=at_/\at_<=1073741824)then([],2)
 else(wL (rz ss l subject eJ window except at_) 9,0)
noncomputable def Gl(H:oG)(ss:List Si)(l:List Ap)(subject:ByteArray)(eJ:List Int)(window except at_:Int):Bool:=
 decide ((ti H ss l subject eJ window except at_).2=0/\(ti H ss l subject eJ window except at_).1=[])
structure OV (w0 w:World) (p1 p2 p3 mb:Nat) (subject:ByteArray) (A:Option Addr) (n c:Nat) (window except at_:Int) (g:Int->Int) (k:Nat):Prop where
 b:Below w0.heap.size w0 w
 s:w.heap[p1]? =some (.cells [Value.string subject].toArray 9 (0,0))
 n:w.heap[p2]? =some (.cells [Value.slice A n c,.int .i64 window,.int .i64 except].toArray 161 (0,0))
 t:w.heap[p3]? =some (.cells [Value.int .i64 at_].toArray 3 (0,0))
 m:∃f,wY w w0.heap.size 3 (.int .i64 0) mb k f/\∀z,(f z).getD (.int .i64 0)= .int .i64 (g z)
section
variable {w0 w w':World} {p1 p2 p3 mb:Nat} {subject:ByteArray} {A0:Option Addr} {n0 c0:Nat} {window except at_:Int} {g:Int->Int} {k:Nat}
theorem OV.below(h:OV w0 w p1 p2 p3 mb subject A0 n0 c0 window except at_ g k)(hb:Below w.heap.size w w'):OV w0 w' p1 p2 p3 mb subject A0 n0 c0 window except at_ g k:=by
 obtain⟨f,h1,a⟩:=h.m;exact⟨kP h.b hb,ag h.s hb,ag h.n hb,ag h.t hb,f,h1.below hb,a⟩
theorem OV.look(h:OV w0 w p1 p2 p3 mb subject A0 n0 c0 window except at_ g k){z:Int}(hz:1<=z/\z<=9){K:Int->World->Prop}(a:K (g z) w):
  ae Tryz.prog (Instr.lookup 250 (.map (some mb)) (.int .i64 z) false) w0.heap.size [] w (Ri K):=by
 obtain⟨f,h1,b⟩:=h.m;exact yH h1 mpI ir ⟨_,b z,a⟩
theorem OV.put(h:OV w0 w p1 p2 p3 mb subject A0 n0 c0 window except at_ g k){z:Int}(hz:1<=z/\z<=9)(x:Int)(q:k<1000){K:World->Prop}
  (d:∀w',OV w0 w' p1 p2 p3 mb subject A0 n0 c0 window except at_ (fun y=>if y=z then x else g y) (k+1)->K w'):
  dZ Tryz.prog (Instr.mapUpdate 250 (.map (some mb)) (.int .i64 z) (.int .i64 x)) w0.heap.size [] w K:=by
 obtain⟨f,h1,i⟩:=h.m;refine cS h1 mpI ir _ om lf h.b.size fun w' j o a=>d w' ⟨h.b.trans o,(oP h1 a h.s).trans h.s,(oP h1 a h.n).trans h.n,(oP h1 a h.t).trans h.t,_,j,fun y=> ?_⟩
 unfold zZ;by_cases e:y=z
 ·rw[bb e,bb e];rfl
 ·rw[aq e,aq e];exact i y
theorem UX(h:OV w0 w p1 p2 p3 mb subject A0 n0 c0 window except at_ g k)(y:(0<=window/\window<=1073741824)/\(0<=at_/\at_<=1073741824)){p:Nat}{s:Si}(hs:w.heap[p]? =some (.cells (Si.row s).toArray 69 (0,0)))(a:Ap):
  Pure Tryz.prog 182 #[a.val,.pointer (some ⟨p,0,none⟩),.pointer (some ⟨p1,0,none⟩),.pointer (some ⟨p3,0,none⟩),.pointer (some ⟨p2,0,none⟩)] w fun v _=>v= .bool (Lc s subject window except at_ a):=by
 have no:∀{q:Prop},¬q->(Lc s subject window except at_ a=true->q)->Value.bool false= .bool (Lc s subject window except at_ a):=fun h1 r=>bx Value.bool (U8 (Iq.2 fun k=>h1 (r k)))
 have un:Lc s subject window except at_ a=true->a.bV=s.id/\a.subject=subject/\a.tick<=at_/\a.tick≥at_ - window/\s.id≠except:=fun k=>eR k
 refine F.kg.vc fun w1 b=> ?_
 have j:=ext_nil b hs;have x:=ext_nil b h.s;have m:=ext_nil b h.t;have o:=ext_nil b h.n;refine⟨_,aZ j rfl,fun q1=>⟨_,bE x rfl,fun d=>⟨_,bE m rfl,fun e=>⟨_,bE m rfl,_,aZ o rfl,ir,fun i=>⟨_,aZ j rfl,_,aZ o rfl,bx Value.bool ?_⟩,fun i=>no i fun k=>(un k).2.2.2.1⟩,fun e=>no e fun k=>(un k).2.2.1⟩,fun d=>no d fun k=>(un k).2.1⟩,fun q1=>no q1 fun k=>(un k).1⟩;unfold Lc;rw[nb];exact⟨fun k=>⟨q1,d,e,i,k⟩,fun k=>k.2.2.2.2⟩
end
section
variable {H:oG} {w0 w:World} {A A1 A0:Option Addr} {n c n1 c1 n0 c0:Nat} {ss:List Si} {l:List Ap} {eJ:List Int} {subject:ByteArray} {window except at_:Int} {p1 p2 p3 mb:Nat}
def MsR(r:List Int×Int)(v:Value)(w':World):Prop:=∃A n c,v= .tuple #[.slice A n c,.int .i64 r.2]/\aE w' 0 3 A n c 1 (r.1.map fG)
theorem RC{g:Int->Int}(b:∀z,g z<=9){f:Int->Option Value}(hf:∀z,(f z).getD (.int .i64 0)= .int .i64 (g z)){k:Nat}:∀(d j:Nat)(w:World)(A:Option Addr)(n c:Nat),9 - j=d->j<=9->Below w0.heap.size w0 w->wY w w0.heap.size 3 (.int .i64 0) mb k f->aE w w0.heap.size 3 A n c 1 ((wL g j).map fG)->n<=9*j->
  F.aw.AA (some mb) A n c ((j:Int)+1) w0.heap.size w (MsR (wL g 9,0)):=by
 intro d;induction d with
 |zero=>
  intro j w A n c o hj hb hm ho hn;have:j=9:=om;subst this;exact F.aw.AA.step ⟨fun h=>by omega,fun _=>⟨_,_,_,rfl,ho.base (Ta _)⟩⟩
 |succ d ih=>
  intro j w A n c o hj hb hm ho hn;refine F.aw.AA.step ⟨fun _=>yH hm mpI ir ⟨_,hf _,?_⟩,fun h=>by omega⟩;have G:=b ((j:Int)+1);have em:(if(0:Int)>g ((j:Int)+1)then(0:Int)else g ((j:Int)+1))=((g ((j:Int)+1)).toNat:Int):=by split<;>omega
  dsimp only;rw[em];have inner:∀(e i:Nat)(w:World)(A:Option Addr)(n c:Nat),(g ((j:Int)+1)).toNat - i=e->i<=(g ((j:Int)+1)).toNat->Below w0.heap.size w0 w->wY w w0.heap.size 3 (.int .i64 0) mb k f->aE w w0.heap.size 3 A n c 1 ((wL g j++List.replicate i ((j:Int)+1)).map fG)->n<=9*j+i->
    F.aw.Jn (some mb) A n c ((j:Int)+1) ((g ((j:Int)+1)).toNat:Int) i w0.heap.size w (MsR (wL g 9,0)):=by
   intro e;induction e with
   |zero=>
    intro i w A n c he hi hb hm ho hn;have:i=(g ((j:Int)+1)).toNat:=om;subst this;rw[<-NH]at ho;refine F.aw.Jn.step ⟨fun h=>by omega,fun _=>⟨ir,?_⟩⟩;have q:(j:Int)+1+1=((j+1:Nat):Int)+1:=om;rw[q];exact ih (j+1) w A n c om om hb hm ho om
   |succ e r=>
    intro i w A n c he hi hb hm ho hn;refine F.aw.Jn.step ⟨fun _=> ?_,fun h=>by omega⟩;refine so gQ lf ho (x:= .int .i64 ((j:Int)+1)) rfl (by simp[Value.cells,bl]) hb.size om dc fun A' c' y B g2 C=>⟨ir,?_⟩
    have D:=sc i;rw[D];refine r (i+1) y A' (n+1) c' om om (hb.trans C) (hm.same (g2.block mb hm.lt fun e=> ?_)) ?_ om
    ·cases A with
     |none=>cases e
     |some a=>
      cases e;obtain⟨I,E⟩:=ho.cells a rfl;obtain⟨es,clock,m⟩:=hm.isMap;rw[E]at m;cases m
    ·rw[RP,<-lN,eH];exact B
  exact inner _ 0 w A n c rfl om hb hm (by simpa using ho) om
theorem aw(ok:fM H)(hg:bj w)(hs:bR w A 4 (ss.map Si.row))(RA:ss.length=n)(hn:n<1000000)(hl:bR w A1 4 (l.map Ap.row))(QK:l.length=n1)(zh:n1<1000000)(mv:n1<=c1)(hr:bR w A0 1 (eJ.map fG))(I:eJ.length=n0)(Ie:n0<1000000):
  Pure Tryz.prog 138 #[.slice A n c,.slice A1 n1 c1,.string subject,.agg #[.slice A0 n0 c0,.int .i64 window,.int .i64 except],.int .i64 at_] w (MsR (ti H ss l subject eJ window except at_)):=by
 have none_:∀(e:Int)(w':World),MsR ([],e) (.tuple #[.slice none 0 0,.int .i64 e]) w':=fun e w'=>⟨_,_,_,rfl,aE.nil⟩
 refine F.aw.vc (oS _ _ lf fun w1 h1 S l1=>oS _ _ S.size fun G h4 T l4=>oS _ _ (dp S.size T.size) fun w7 h7 U l7=> ?_);have nt:=kP S T;have J:=kP nt U;have x1:=ag (ag h1 T) U;have x4:=ag h4 U;refine pm (cn ok (hg.next J) (hs.au J lf) RA om (hl.au J lf) QK om mv) ?_;rintro v xv y rfl;have V:=kP J y;unfold ti;refine⟨_,_,rfl,fun q=>by rw[bb q];exact none_ _ _,fun q=>⟨_,_,_,_,_,eE (ag x4 y),pm (jM (hr.au V lf) I om window except) ?_⟩⟩;rw[aq q];rintro v AE B rfl;have ox:=kP V B;refine⟨_,rfl,fun q1=>by rw[bb q1];exact none_ _ _,fun q1=>⟨_,bE (ag (ag x1 y) B) rfl,fun q2=>by rw[aq q1,bb om];exact none_ _ _,fun q2=>⟨_,bE (ag (ag h7 y) B) rfl,pm (gd _ AE) ?_⟩⟩⟩;rw[aq q1,aq om];rintro v K L rfl;have Q:=kP ox L;refine⟨_,rfl,fun W=>by rw[bb (iv W)];exact none_ _ _,fun W=> ?_⟩;have DE:0<=at_/\at_<=1073741824:=by simpa using W
 rw[aq (fun k=>k DE)];obtain⟨⟨_,v9⟩,vr,vw,_⟩:=eR (show yK eJ window except=true by simpa using q1);refine yI (tk:=3) (zv:= .int .i64 0) Q.size fun CP X M=> ?_
 have xS:=kP Q M;have N:OV w CP w.heap.size w1.heap.size G.heap.size K.heap.size subject A0 n0 c0 window except at_ (fun _=>0) 0:=by
  have kk:=((y.mono J.size).trans ((B.mono V.size).trans ((L.mono ox.size).trans (M.mono Q.size))));refine⟨xS,ag (ag (ag (ag x1 y) B) L) M,ag (ag (ag (ag x4 y) B) L) M,ag (ag (ag (ag h7 y) B) L) M,_,X.le Q.size,fun z=>rfl⟩
 refine⟨_,_,_,aZ N.n rfl,?_⟩;have Y:∀(d i:Nat)(w':World)(g:Int->Int)(k:Nat),n - i=d->i<=n->k<=100+i->OV w w' w.heap.size w1.heap.size G.heap.size K.heap.size subject A0 n0 c0 window except at_ g k->n<=16->(∀z,g z=(eJ.count z:Int) - ((ss.take i).countP fun s=>decide (s.role=z)&&Dn l subject window except at_ s:Nat))->
   F.aw.pL A1 n1 c1 ⟨w.heap.size,0,none⟩ ⟨w1.heap.size,0,none⟩ ⟨G.heap.size,0,none⟩ (some K.heap.size) A n c n i w.heap.size w' (MsR (wL (rz ss l subject eJ window except at_) 9,0)):=by
  intro d;induction d with
  |zero=>
   intro i w' g k Z hi hk hm O o;rw[de om]at o;have eg:g=rz ss l subject eJ window except at_:=funext o;obtain⟨f,f1,f2⟩:=hm.m;rw[eg]at f2;refine F.aw.pL.step ⟨fun h=>by omega,fun _=>RC (fun z=> ?_) f2 9 0 w' none 0 0 rfl om hm.b f1 aE.nil om⟩;have:=RT (a:=z) (l:=eJ);unfold rz;omega
  |succ d ih=>
   intro i w' g k Z hi hk hm O o;have C:i<ss.length:=om;have R:=sc i;obtain⟨hb,ad,hA,j,_⟩:=(hs.au hm.b lf).at_ (fun _=>rfl) RA C;have r:1<=ss[i].role/\ss[i].role<=9:=by
    have x:(dO H ss l).2=0:=dT.1 q;unfold dO at x;split at x
    ·cases x
    ·rename_i hq;obtain⟨_,ho⟩:=Ct (gY.1 (by simpa using hq)).1 _ (bw C);exact ho.2.1
   have et:∀z,(ss.take (i+1)).countP (fun s=>decide (s.role=z)&&Dn l subject window except at_ s)=(ss.take i).countP (fun s=>decide (s.role=z)&&Dn l subject window except at_ s)+if(decide (ss[i].role=z)&&Dn l subject window except at_ ss[i])=true then 1 else 0:=fun z=>by
    rw[ft,af C,List.countP_append];simp[Ui]
   refine F.aw.pL.step ⟨fun _=>⟨hb,ad,hA,_,_,_,_,j,fun Wx x40 p41 an7 jy=> ?_⟩,fun h=>by omega⟩;have D:=hm.below (extAll x40);refine pm (wJ (hl.au D.b lf) QK om (a:= #[]) (k:= #[.pointer (some ⟨p41,0,none⟩),.pointer (some ⟨w.heap.size,0,none⟩),.pointer (some ⟨G.heap.size,0,none⟩),.pointer (some ⟨w1.heap.size,0,none⟩)]) (p:=Lc ss[i] subject window except at_) kF fun w' hb a _=>UX (D.below hb) ⟨vw,DE⟩ (ag jy hb) a) ?_;rintro v w44 P rfl;have E:=D.below P;refine⟨_,rfl,fun x=>⟨_,aZ (ag jy P) rfl,E.look r ⟨?_,E.put r _ om fun Wr j49=>⟨ir,?_⟩⟩⟩,fun x=>⟨ir,?_⟩⟩
   ·have h1:=o ss[i].role;have h2:=RT (a:=ss[i].role) (l:=eJ);have h3:=Qq (p:=fun s=>decide (s.role=ss[i].role)&&Dn l subject window except at_ s) (l:=ss.take i);rw[ew]at h3;simp only[aU];omega
   ·rw[R];refine ih (i+1) Wr _ (k+1) om om om j49 O fun z=> ?_
    rw[et];by_cases e:z=ss[i].role
    ·subst e;rw[bb rfl,o,bb (by rw[gu rfl];exact x)];omega
    ·rw[aq e,o,aq (by rw[en (fun k=>e k.symm)];simp)];omega
   ·rw[R];refine ih (i+1) w44 g k om om om E O fun z=> ?_
    rw[et,o,aq (by unfold Dn;rw[x];simp)];omega
 have l8:∀(d i:Nat)(w':World)(g:Int->Int)(k:Nat),n0 - i=d->i<=n0->k<=i->OV w w' w.heap.size w1.heap.size G.heap.size K.heap.size subject A0 n0 c0 window except at_ g k->(∀z,g z=((eJ.take i).count z:Int))->
   F.aw.L8 A n c A1 n1 c1 ⟨w.heap.size,0,none⟩ ⟨w1.heap.size,0,none⟩ ⟨G.heap.size,0,none⟩ (some K.heap.size) A0 n0 c0 n0 i w.heap.size w' (MsR (wL (rz ss l subject eJ window except at_) 9,0)):=by
  have O:n<=16:=by
   have x:(dO H ss l).2=0:=dT.1 q;unfold dO at x;split at x
   ·cases x
   ·rename_i hq;have:=(gY.1 (show mS ss=true by simpa using hq)).2;omega
  intro d;induction d with
  |zero=>
   intro i w' g k Z hi hk hm o;rw[de om]at o;exact F.aw.L8.step ⟨fun h=>by omega,fun _=>Y n 0 w' g k rfl om om hm O (fun z=>by rw[o];simp)⟩
  |succ d ih=>
   intro i w' g k Z hi hk hm o;have C:i<eJ.length:=om;have R:=sc i;obtain⟨hb,ad,hA,j,_⟩:=(hr.au hm.b lf).at_ (fun _=>rfl) I C;have r:=vr _ (bw C);refine F.aw.L8.step ⟨fun _=>⟨hb,ad,hA,_,j,hm.look r ⟨?_,hm.put r _ om fun Is j34=>⟨ir,?_⟩⟩⟩,fun h=>by omega⟩
   ·have h1:=o eJ[i];have h2:=RT (a:=eJ[i]) (l:=eJ.take i);rw[ew]at h2;simp only[aU];omega
   ·rw[R];refine ih (i+1) Is _ (k+1) om om om j34 fun z=> ?_
    rw[ft,af C,List.count_append,FQ,List.count_singleton];by_cases e:z=eJ[i]
    ·subst e;rw[bb rfl,o];simp
    ·rw[aq e,o,aq (by simpa using fun k=>e k.symm)];omega
 exact l8 n0 0 CP _ 0 rfl om om N (fun z=>by simp)
theorem ix(ok:fM H)(hg:bj w)(hs:bR w A 4 (ss.map Si.row))(b:ss.length=n)(hn:n<1000000)(hl:bR w A1 4 (l.map Ap.row))(d:l.length=n1)(e:n1<1000000)(mv:n1<=c1)(h:bR w A0 1 (eJ.map fG))(a:eJ.length=n0)(i:n0<1000000):
  Pure Tryz.prog 83 #[.slice A n c,.slice A1 n1 c1,.string subject,.agg #[.slice A0 n0 c0,.int .i64 window,.int .i64 except],.int .i64 at_] w fun v _=>v= .bool (Gl H ss l subject eJ window except at_):=by
 refine F.ix.vc fun w1 j=> ?_
 have h1:=k0 j;refine pm (aw ok (hg.next h1) (hs.au h1 lf) b hn (hl.au h1 lf) d e mv (h.au h1 lf) a i) ?_;rintro v m o ⟨A2,n2,c2,rfl,ho⟩;have hlen:=ho.len;rw[ec]at hlen;unfold Gl;refine⟨_,_,_,_,rfl,fun q=>bx Value.bool ?_,fun q=>bx Value.bool (U8 (en fun k=>q k.1))⟩;rw[nb];exact⟨fun k=>⟨q,ep om⟩,fun k=>by rw[k.2]at hlen;simp at hlen;omega⟩
end

theorem ahK{α:Type}{row:α->List Value}{sz:Nat}{w:World}{A:Option Addr}{n:Nat}{v:List α}{a:Addr}(h:bR w A sz (v.map row))(c:∀x,(row x).length=sz)(hl:v.length=n){i:Nat}(hi:i<v.length)(d:A=some a):
  aa w (a.add ((i:Int).toNat*sz)) (row v[i])/\∀k u,(row v[i])[k]? =some u->aa w ((a.add ((i:Int).toNat*sz)).add k) [u]:=by
 obtain⟨_,g,b,h1,e⟩:=h.at_ c hl hi;rw[d]at b;cases b;exact⟨h1,e⟩
theorem Gm{o:Option Nat}:(uU o≥0)↔o≠none:=by cases o<;>simp[uU]<;>omega
theorem Gn(n:Int)(w:World):Pure Tryz.prog 228 #[.int .i64 n] w fun v _=>v= .bool (decide (1<=n/\n<=9)):=by
 refine F.mP.vc ⟨fun h=> ?_,fun h=> ?_⟩
 ·refine bx Value.bool ?_;rw[nb];omega
 ·refine bx Value.bool ?_;exact(en om).symm

section
variable {w:World} {A0 A1 A2:Option Addr} {n0 c0 n1 c1 n2 c2:Nat} {ps:List Pa} {hs:List Ho} {xs:List Rm}
theorem Ld(hp:oN w A0 n0 A1 n1 A2 n2 c2 ps hs xs)(x:Rm):
  Pure Tryz.prog 187 #[.agg #[.slice A0 n0 c0,.slice A1 n1 c1,.slice A2 n2 c2],x.val] w fun v _=>v= .int .i64
   (if x.r.kind=2 then(if ¬(x.r.a<x.r.b/\(1<=x.r.a/\x.r.a<=9)/\(1<=x.r.b/\x.r.b<=9))then 2 else 0)
   else if x.r.kind=3 then(if ¬(1<=x.r.a/\x.r.a<=9)then 2 else if vK hs x.r.b=none then 7 else 0)
   else if x.r.b≠0 then 2 else if qN ps x.r.a=none then 7 else 0):=by
 have o:=hp.c.nh;have q:=hp.c.np;refine F.qv.vc ⟨fun e=> ?_,fun e=>⟨fun g=> ?_,fun g=> ?_⟩⟩
 ·rw[bb e];refine⟨fun h w1 _=> ?_,fun h n _=> ?_⟩
  ·rw[bb (fun k=>absurd k.1 om)]
  refine pm (Gn _ _) ?_;rintro v H _ rfl;refine⟨_,rfl,fun h1=> ?_,fun h1=> ?_⟩
  ·have h1:=iv h1;rw[bb (fun k=>h1 k.2.1)]
  have h1:=eR (sG _|>.mp h1);refine pm (Gn _ _) ?_;rintro v I _ rfl;refine⟨_,rfl,fun d=> ?_,fun d=> ?_⟩
  ·have d:=iv d;rw[bb (fun k=>d k.2.2)]
  have d:=eR (sG _|>.mp d);rw[aq (fun k=>k ⟨om,h1,d⟩)]
 ·rw[aq e,bb g];intro J z;have hw:=k0 z;refine pm (Gn _ _) ?_;rintro v K A rfl;have hw:=kP hw A;refine⟨_,rfl,fun h1=> ?_,fun h1 B C i=> ?_⟩
  ·rw[bb (iv h1)]
  have h1:=eR (sG _|>.mp h1);refine pm (F.dN.vc (R:=fun v _=>v= .bool (decide (uU (vK hs x.r.b)≥0))) (pm (AB (p:=fun h=>decide (h.id=x.r.b)) (hp.c.au hw).h hp.c.lh om kF fun w' hb y hy=> ?_) ?_)) ?_
  ·exact F.mQ.vc fun w1 j=>⟨_,aZ (ag (ag i hb) (k0 j)) rfl,rfl⟩
  ·rintro v n _ rfl;exact⟨_,rfl,rfl⟩
  ·rintro v D _ rfl;refine⟨_,rfl,fun d=> ?_,fun d=> ?_⟩
   ·have d:=iv d;rw[aq (fun k=>k h1),bb (dT.1 fun k=>d (Gm.2 k))]
   ·have d:=eR (sG _|>.mp d);rw[aq (fun k=>k h1),aq (Gm.1 d)]
 ·rw[aq e,aq g];refine⟨fun h w1 _=>by rw[bb h],fun h L l E G m=> ?_⟩;have hw:=k0 l;rw[aq h];refine pm (F.df.vc (R:=fun v _=>v= .bool (decide (uU (qN ps x.r.a)≥0))) (pm (xJ (p:=fun h=>decide (h.id=x.r.a)) (hp.c.au hw).p hp.c.lp om kF fun w' hb y hy=> ?_) ?_)) ?_
  ·exact F.mR.vc fun w1 j=>⟨_,aZ (ag (ag m hb) (k0 j)) rfl,rfl⟩
  ·rintro v n _ rfl;exact⟨_,rfl,rfl⟩
  ·rintro v D _ rfl;refine⟨_,rfl,fun d=> ?_,fun d=> ?_⟩
   ·have d:=iv d;rw[bb (dT.1 fun k=>d (Gm.2 k))]
   ·have d:=eR (sG _|>.mp d);rw[aq (Gm.1 d)]
theorem ne_nil{s:ByteArray}:s≠⟨#[]⟩↔s.size≠0:=not_congr pG
theorem Le(hg:bj w)(hp:oN w A0 n0 A1 n1 A2 n2 c2 ps hs xs){i:Nat}(hi:i<xs.length):
  Pure Tryz.prog 139 #[.agg #[.slice A0 n0 c0,.slice A1 n1 c1,.slice A2 n2 c2],.int .i64 (i:Int)] w fun v _=>v= .int .i64 (yF ps hs (dK (xs.take i)) xs[i].r):=by
 have hl:=hp.l;have hn:=hp.n;have Y:=hp.k;have Z:=hp.c.lh;have d:=hp.f _ (bw hi);have hlen:=d.s.len;have Nt:=d.l;obtain⟨hb,a,E,_,_⟩:=hp.at_ hi;unfold yF;refine F.qp.vc ⟨hb,a,E,fun K L=> ?_⟩;have hw:=k0 L;refine⟨_,_,_,_,_,_,_,_,_,(ahK (hp.au hw).r (fun _=>rfl) hl hi E).1,fun jS M=> ?_⟩;have hw:=kE hw M;refine pm (UN (p:=fun s=> !vR s) (d.au hw).f d.l om kF fun w' hb s hs=> ?_) ?_
 ·refine F.mM.vc (pm (ru (hg.next (kP hw hb)) (d.s.pD s hs)) ?_);rintro v K _ rfl;exact⟨_,rfl,by cases vR s<;>rfl⟩
 rintro v xv N rfl;have hw:=kP hw N;refine⟨_,rfl,fun h=> ?_,fun h=> ?_⟩
 ·rw[bb];rintro⟨k,_⟩;obtain⟨s,hs,G⟩:=oZ.1 h;rw[gr.1 k s hs]at G;cases G
 have O:xs[i].r.pD.all vR=true:=gr.2 fun s hs=>by
  have:=xW.1 h s hs;simpa using this
 refine pm (Cp (hg.next hw) d.s.low) ?_;rintro v wW P rfl;have hw:=kP hw P;refine⟨_,rfl,fun h=> ?_,fun h=> ?_⟩
 ·rw[bb (fun k=>by rw[k.2.1]at h;cases h)]
 have H:=sG _|>.mp h
 refine pm (Cp (hg.next hw) d.s.high) ?_;rintro v Q R rfl;have hw:=kP hw R;refine⟨_,rfl,fun h=> ?_,fun h=> ?_⟩
 ·rw[bb (fun k=>by rw[k.2.2]at h;cases h)]
 have I:=sG _|>.mp h
 rw[aq (fun k=>k ⟨O,H,I⟩)];refine⟨fun h=> ?_,fun h1=>⟨fun h=> ?_,fun J=>⟨om,fun z S A=> ?_⟩⟩⟩
 ·rw[bb (fun k=>by omega)]
 ·rw[bb (fun k=>by omega)]
 rw[aq (fun k=>k ⟨om,om⟩)];have T:(i:Int).toNat=i:=om;rw[T];have U:bR Q A2 7 ((xs.take i).map Rm.row):=by
  have:=(hp.au hw).r.take i;rwa [<-Aa]at this
 refine pm (Rk (n:=i) (c:=c2) (p:=fun y=>decide (y.r.name=xs[i].r.name)) U (by rw[ew];omega) om kF fun w' hb y hy=> ?_) ?_
 ·exact F.mN.vc fun w1 V=>⟨_,aZ (ag (ag A hb) (k0 V)) rfl,rfl⟩
 rintro v W B rfl;have hw:=kP hw B;have X:((dK (xs.take i)).any fun x=>decide (x.name=xs[i].r.name))=(xs.take i).any fun y=>decide (y.r.name=xs[i].r.name):=by
  unfold dK;rw[List.any_map];rfl
 rw[X];have cell:∀k u,(xs[i].row)[k]? =some u->aa W ((⟨z,0,none⟩:Addr).add k) [u]:=fun k u hu=>aZ (ag A B) hu
 refine⟨_,rfl,fun h=> ?_,fun h=>⟨_,cell 1 _ rfl,fun h1=> ?_,fun h1=>⟨_,cell 1 _ rfl,fun J=> ?_,fun J=>⟨_,cell 1 _ rfl,fun C=> ?_,fun C=> ?_⟩⟩⟩⟩
 ·rw[bb h]
 ·rw[aq (by rw[h];decide),bb (.inl om)]
 ·rw[aq (by rw[h];decide),bb (.inr om)]
 ·rw[aq (by rw[h];decide),aq om,bb C];refine⟨_,_,_,cell 2 _ rfl,fun D=> ?_,fun D=>⟨_,cell 5 _ rfl,fun e=> ?_,fun e=>⟨_,cell 6 _ rfl,fun g=> ?_,fun g=>⟨_,cell 3 _ rfl,fun m=>⟨_,cell 4 _ rfl,fun o=> ?_,fun o=>⟨_,cell 3 _ rfl,fun b=>absurd m b,fun b=> ?_⟩⟩,fun m=>⟨_,cell 3 _ rfl,fun b=>⟨_,cell 4 _ rfl,fun j=>⟨_,cell 3 _ rfl,_,cell 4 _ rfl,?_⟩,fun j=> ?_⟩,fun b=>absurd m b⟩⟩⟩⟩⟩
  ·rw[bb (.inl om)]
  ·rw[bb (.inr (.inl e))]
  ·rw[bb (.inr (.inr g))]
  ·rw[aq (by rintro(k|k|k)<;>omega),bb (.inl ⟨pG.1 m,pG.1 o⟩)]
  ·have o:¬xs[i].r.high.size=0:=fun k=>o (pG.2 k)
   have m:=pG.1 m;rw[aq (by rintro(k|k|k)<;>omega),aq (by rintro(k|k)<;>omega)]
  ·have b:=ne_nil.1 b;have j:=ne_nil.1 j;have v1:=Ei H b;have v2:=Ei I j;rw[aq (by rintro(k|k|k)<;>omega)];have cmp:=oO (hg.next hw) (d.s.low.wX v1) (d.s.high.wX v2);rw[<-hO v1,<-hO v2]at cmp;refine pm cmp ?_;rintro v CM _ rfl;refine⟨_,rfl,fun k=> ?_,fun k=> ?_⟩
   ·rw[bb (.inr ⟨b,j,gx.1 k⟩)]
   ·rw[aq];rintro(q|q)
    ·exact b q.1
    ·exact k (gx.2 q.2.2)
  ·have b:=ne_nil.1 b;have j:xs[i].r.high.size=0:=dT.1 fun k=>j (ne_nil.2 k)
   rw[aq (by rintro(k|k|k)<;>omega),aq (by rintro(k|k)<;>omega)]
 ·rw[aq (by rw[h];decide),aq om,aq C];refine⟨_,_,_,cell 2 _ rfl,fun D=> ?_,fun D=>⟨_,cell 3 _ rfl,fun e=> ?_,fun e=>⟨_,cell 4 _ rfl,fun g=> ?_,fun g=>⟨_,_,_,_,_,_,_,_,_,eE (ag A B),?_⟩⟩⟩⟩
  ·rw[bb (.inl om)]
  ·rw[bb (.inr (.inl (ne_nil.1 e)))]
  ·rw[bb (.inr (.inr (ne_nil.1 g)))]
  ·have e:xs[i].r.low.size=0:=dT.1 fun k=>e (ne_nil.2 k)
   have g:xs[i].r.high.size=0:=dT.1 fun k=>g (ne_nil.2 k)
   rw[aq (by rintro(k|k|k)<;>omega)];refine pm (Ld (hp.au hw) xs[i]) ?_;rintro v Uc _ rfl;exact⟨_,rfl,rfl⟩
theorem AH{i:Nat}(hi:i<xs.length):dK (xs.take i)++[xs[i].r]=dK (xs.take (i+1)):=by
 unfold dK;rw[ft,af hi,eH];rfl
theorem wM(hg:bj w)(hp:oN w A0 n0 A1 n1 A2 n2 c2 ps hs xs):
  Pure Tryz.prog 84 #[.agg #[.slice A0 n0 c0,.slice A1 n1 c1,.slice A2 n2 c2]] w fun v _=>v= .tuple #[.int .i64 (oz ps hs (dK xs)).1,.int .i64 (oz ps hs (dK xs)).2]:=by
 have hl:=hp.l;have hn:=hp.n;unfold oz;refine F.dG.vc fun w1 e=> ?_
 have hw:=k0 e;refine pm (aM (hg.next hw) (hp.c.au hw)) ?_;rintro v g j rfl;have hw:=kP hw j;refine⟨_,rfl,fun h=> ?_,fun h=>⟨fun h1=> ?_,fun h1=> ?_⟩⟩
 ·rw[bb h]
 ·rw[aq h,bb (by simp[dK];omega)]
 ·rw[aq h,aq (by simp[dK];omega)];have key:∀(d i:Nat)(w':World),n2 - i=d->i<=n2->Below w.heap.size w w'->F.dG.L7 n2 i A0 n0 c0 A1 n1 c1 A2 n2 c2 w.heap.size w' fun v _=>v= .tuple #[.int .i64 (YZ ps hs i (dK (xs.take i)) (dK (xs.drop i))).1,.int .i64 (YZ ps hs i (dK (xs.take i)) (dK (xs.drop i))).2]:=by
   intro d;induction d with
   |zero=>
    intro i w' k hi hw;rw[cd om];exact F.dG.L7.step ⟨fun h=>by omega,fun _=>rfl⟩
   |succ d ih=>
    intro i w' k hi hw;have a:i<xs.length:=om;refine F.dG.L7.step ⟨fun _=> ?_,fun h=>by omega⟩;refine pm (Le (hg.next hw) (hp.au hw) a) ?_;rintro v m o rfl;have q:=sc i;have b:dK (xs.drop i)=xs[i].r::dK (xs.drop (i+1)):=by
     unfold dK;rw[cz a];rfl
    rw[b,YZ];refine⟨_,rfl,fun h=> ?_,fun h=>⟨ir,?_⟩⟩
    ·rw[bb h]
    ·rw[aq h,AH a,q];exact ih (i+1) m om om (kP hw o)
  exact key n2 0 g rfl om hw
end

theorem NI(l:List Rat)(x:Rat):(l++[x]).sum=l.sum+x:=by
 induction l with
 |nil=>simp[Rat.add_zero,Rat.zero_add]
 |cons a r ih=>rw[vu,wx,wx,ih,Rat.add_assoc]
theorem UY{k:Nat}:∀{l:List Rat},(∀x∈l,Sm k x)->Sm ((k+1)*l.length+1) l.sum:=by
 intro l;induction l with
 |nil=>intro _;exact Sm.zero om
 |cons a r ih=>
  intro h;rw[wx];refine((h a sm).add (ih fun x hx=>h x (by simp[hx]))).mono ?_;rw[eL,oj];omega
def NJ(ps:List Pa)(l:List Sw)(x:Ho×ByteArray):Rat:=qR x.2*eF (tP ps Pa.iB) (GQ l x.1.id)
section
variable {w:World} {A0 A1 A2 A:Option Addr} {n0 c0 n1 c1 n2 c2 n c:Nat} {ps:List Pa} {hs:List Ho} {xs:List Rm} {l:List Sw}
theorem Mv(b:gO w A0 n0 A1 n1 ps hs)(a:eM ps hs l)(hn:l.length<=40)(id:Int):Sm 12013 (eF (tP ps Pa.iB) (GQ l id)):=by
 have fO:=(a.ld hn).filter fun s=>decide (s.hold=id)
 refine(wI fun s d=>(fO.Wv b d).1.1).mono ?_;have:=UM a id;have:=a.c.lp;unfold GQ at*;omega
theorem RD(a:gO w A0 n0 A1 n1 ps hs)(b:eM ps hs l)(hn:l.length<=40){x:Ho×ByteArray}(d:vR x.2=true)(e:ma x.2):Sm 13013 (NJ ps l x):=
 ((lx d e).mul (Mv a b hn x.1.id)).mono om
theorem UZ{x:Rm}(hx:xO w x)(hf:x.r.pD.all vR=true){y:Ho×ByteArray}(hy:y∈hs.zip x.r.pD):vR y.2=true/\ma y.2:=by
 obtain⟨a,b⟩:=y;have:=(List.of_mem_zip hy).2;exact⟨gr.1 hf _ this,hx.s.pD _ this⟩
theorem IK(b:gO w A0 n0 A1 n1 ps hs)(a:eM ps hs l)(hn:l.length<=40){x:Rm}(hx:xO w x)(hf:x.r.pD.all vR=true)(k:Nat):Sm 90000 (((hs.zip x.r.pD).take k).map (NJ ps l)).sum:=by
 refine(UY (k:=13013) fun y hy=> ?_).mono ?_
 ·obtain⟨z,hz,rfl⟩:=hM.1 hy;obtain⟨h1,d⟩:=UZ hx hf (iF hz);exact RD b a hn h1 d
 ·have e:=a.c.lh;rw[ec,ew,KH];have:min k (min hs.length x.r.pD.length)<=6:=om;have:=ib 13014 this;omega
theorem Zn(ih:hs.Pairwise fun a b=>a.id<b.id){i:Nat}(hi:i<hs.length):vK hs hs[i].id≠none:=by
 intro h;unfold vK at h;rw[Hm]at h;have:=h _ (bw hi);simp at this
theorem RE(hg:bj w)(hp:oN w A0 n0 A1 n1 A2 n2 c2 ps hs xs)(h:bR w A 3 (l.map Sw.row))(hl:l.length=n)(mv:n<=c)(hn:n<=40)(G:hX ps hs l=0){x:Rm}(hx:xO w x)(hf:x.r.pD.all vR=true)(W:x.r.pD.length=hs.length):
  Pure Tryz.prog 88 #[.agg #[.slice A0 n0 c0,.slice A1 n1 c1,.slice A2 n2 c2],x.val,.slice A n c] w fun v _=>v= .string (rS (Mo ps hs x.r l)):=by
 have j:=fw G;have I:=hp.c.lh;have J:=hp.c.nh;have K:=hx.l;refine F.eX.vc fun w1 L=> ?_
 have key:∀(d i:Nat)(w':World),n1 - i=d->i<=n1->Below w.heap.size w w'->F.eX.L3 A n c (rS (((hs.zip x.r.pD).take i).map (NJ ps l)).sum) A1 n1 c1 n1 i A0 n0 c0 A1 n1 c1 A2 n2 c2 x.r.name x.r.kind x.A x.n x.c x.r.low x.r.high x.r.a x.r.b w.heap.size w' fun v _=>v= .string (rS (Mo ps hs x.r l)):=by
  intro d;induction d with
  |zero=>
   intro i w' M hi hw;refine F.eX.L3.step ⟨fun h=>by omega,fun _=> ?_⟩;rw[de (by rw[KH];omega)];rfl
  |succ d ih=>
   intro i w' M hi hw;have H:i<hs.length:=om;have o:i<x.r.pD.length:=om;have q:i<(hs.zip x.r.pD).length:=by rw[KH];omega
   have N:=sc i;have O:((hs.zip x.r.pD).take (i+1)).map (NJ ps l)=((hs.zip x.r.pD).take i).map (NJ ps l)++[NJ ps l (hs[i],x.r.pD[i])]:=by
    rw[ft,af q,eH,List.getElem_zip];rfl
   obtain⟨hb,a,P,e,_⟩:=((hp.au hw).c.h).at_ (fun _=>rfl) I H;refine F.eX.L3.step ⟨fun _=>⟨hb,a,P,_,_,_,_,_,_,_,e,fun X Q=> ?_⟩,fun h=>by omega⟩;have hw:=kE hw Q;refine pm (pw (hg.next hw) (hp.au hw).c (h.au hw lf) hl mv hn hs[i].id) ?_;rintro v Y R rfl;have hw:=kP hw R;unfold QS;rw[aq (fun k=>k G),aq (Zn j.c.ih H)];refine⟨_,_,_,_,_,_,_,rfl,fun Z y=> ?_⟩;have hw:=kE hw y;obtain⟨z,S,B,C,_⟩:=((hx.au hw).f).at_ (fun _=>rfl) K o;refine⟨z,S,B,_,C,fun xE T=> ?_⟩;have hw:=kE hw T;have D:=gr.1 hf _ (bw o);have g:=hx.s.pD _ (bw o);have m:=Rj (hg.next hw) (g.wX D) ((Mv hp.c j om hs[i].id).mono om);rw[<-hO D]at m;refine pm m ?_;rintro v Ih E rfl;have hw:=kP hw E;refine⟨_,rfl,pm (Rh (hg.next hw) ((IK hp.c j om hx hf i).mono om) ((RD (x:=(hs[i],x.r.pD[i])) hp.c j om D g).mono om)) ?_⟩;rintro v U V rfl;refine⟨_,rfl,ir,?_⟩;have:=ih (i+1) U om om (kP hw V);rw[O,NI]at this;rw[N];exact this
 have:=key n1 0 w1 rfl om (k0 L);simp only[Ji,Mu,List.sum_nil,<-s0]at this;exact this
theorem IL(hg:bj w){x:Rm}(hx:xO w x)(o:eV x.r.low=true)(y:eV x.r.high=true){s:Rat}(z:Sm 90000 s):
  Pure Tryz.prog 87 #[x.val,.string (rS s)] w fun v _=>v= .string (rS (ny x.r s)):=by
 have g:kA s:=z.mono om;have low:∀w',Below w.heap.size w w'->x.r.low≠⟨#[]⟩->¬(x.r.high.size≠0/\qR x.r.high<s)->Pure Tryz.prog 140 #[.string (rS s),.string x.r.low] w' fun B j=>∃(i8:Int),B=(.int .i64 i8)/\((((i8:Int)<(0:Int))->(Pure Tryz.prog 141 #[(.string (rS s)),(.string x.r.low)] j fun i C=>∃(b:ByteArray),i=(.string b)/\(Value.string b= .string (rS (ny x.r s)))))/\(¬((i8:Int)<(0:Int))->(Value.string (⟨#[48]⟩:ByteArray)= .string (rS (ny x.r s))))):=by
  intro w' hw a D;have a:=ne_nil.1 a;have v1:=Ei o a;have d:=hx.s.low.wX v1;have c1:=oO (hg.next hw) g d;rw[<-hO v1]at c1;unfold ny;rw[aq D];refine pm c1 ?_;rintro v j E rfl;refine⟨_,rfl,fun k=> ?_,fun k=> ?_⟩
  ·have c2:=IC (hg.next (kP hw E)) g d;rw[<-hO v1]at c2;refine pm c2 ?_;rintro v C _ rfl;exact⟨_,rfl,by rw[bb ⟨a,jn.1 k⟩]⟩
  ·rw[aq (fun q=>k (jn.2 q.2)),<-s0]
 have none_:¬(x.r.high.size≠0/\qR x.r.high<s)->¬(x.r.low≠⟨#[]⟩)->Value.string (⟨#[48]⟩:ByteArray)= .string (rS (ny x.r s)):=by
  intro h1 e;unfold ny;rw[aq h1,aq (fun k=>e (ne_nil.2 k.1)),<-s0]
 refine F.pF.vc ⟨fun h w1 G=> ?_,fun h=>⟨fun h1 H I=> ?_,fun h1 L _=> ?_⟩⟩
 ·have hw:=k0 G;have a:=ne_nil.1 h;have v1:=Ei y a;have d:=hx.s.high.wX v1;have m:=oO (hg.next hw) g d;rw[<-hO v1]at m;refine pm m ?_;rintro v J K rfl;have hw:=kP hw K;refine⟨_,rfl,fun k=> ?_,fun k=> ?_⟩
  ·have cs:=IC (hg.next hw) g d;rw[<-hO v1]at cs;refine pm cs ?_;rintro v M _ rfl;refine⟨_,rfl,?_⟩;unfold ny;rw[bb ⟨a,gx.1 k⟩]
  ·have hn:¬(x.r.high.size≠0/\qR x.r.high<s):=fun q=>k (gx.2 q.2)
   exact⟨fun e=>low J hw e hn,fun e=>none_ hn e⟩
 ·exact low H (k0 I) h1 fun q=>h (ne_nil.2 q.1)
 ·exact none_ (fun q=>h (ne_nil.2 q.1)) h1
theorem NK{w:World}{x:Rm}(hx:xO w x)(b:eV x.r.low=true)(d:eV x.r.high=true){s:Rat}(a:Sm 90000 s):kA (ny x.r s):=by
 unfold ny;split
 ·rename_i h;exact(a.sub (lx (Ei d h.1) hx.s.high)).mono om
 ·split
  ·rename_i h;exact(a.sub (lx (Ei b h.1) hx.s.low)).mono om
  ·exact Sm.zero om
theorem Gq(hg:bj w)(hp:oN w A0 n0 A1 n1 A2 n2 c2 ps hs xs)(h:bR w A 3 (l.map Sw.row))(hl:l.length=n)(mv:n<=c)(hn:n<=40)(b:hX ps hs l=0){x:Rm}(hx:xO w x)(a:Gd ps hs x.r)(d:x.r.kind=1):
  Pure Tryz.prog 85 #[.agg #[.slice A0 n0 c0,.slice A1 n1 c1,.slice A2 n2 c2],x.val,.slice A n c] w fun v _=>v= .bool (iQ ps hs l x.r):=by
 have e:Sm 90000 (Mo ps hs x.r l):=by
  have:=IK hp.c (fw b) om hx a.pD (hs.zip x.r.pD).length;rwa [List.take_length]at this
 refine F.mj.vc fun w1 g=> ?_
 have hw:=k0 g;refine pm (RE (hg.next hw) (hp.au hw) (h.au hw lf) hl mv hn b (hx.au hw) a.pD (a.sum d)) ?_;rintro v k i rfl;have hw:=kP hw i;refine⟨_,rfl,pm (IL (hg.next hw) (hx.au hw) a.low a.high e) ?_⟩;rintro v m j rfl;have hw:=kP hw j;refine⟨_,rfl,pm (NA (hg.next hw) (NK hx a.low a.high e)) ?_⟩;rintro v o _ rfl;refine⟨_,rfl,?_⟩;unfold iQ;rw[bb d];refine bx Value.bool ?_;rw[nb];exact not_congr Ay

theorem wN(d:gO w A0 n0 A1 n1 ps hs){id:Int}{i:Nat}(hi:qN ps id=some i):
  Pure Tryz.prog 145 #[.agg #[.slice A0 n0 c0,.slice A1 n1 c1,.slice A2 n2 c2],.int .i64 id] w fun v _=>v= .int .i64 (wK ps id):=by
 have j:=d.np;obtain⟨h,hid⟩:=Cc hi;refine F.qq.vc fun w1 e p2 o g=> ?_
 have hw:=k0 e;refine pm (xJ (p:=fun p=>decide (p.id=id)) (d.au hw).p d.lp om kF fun w' hb y hy=> ?_) ?_
 ·exact F.mO.vc fun w1 e=>⟨_,bE (ag (ag g hb) (k0 e)) rfl,rfl⟩
 ·rintro v q k rfl;have hw:=kP hw k;show ∃i3:Int,Value.int .i64 (uU (qN ps id))=_/\_
  rw[hi];obtain⟨hb,a,m,_,b⟩:=((d.au hw).p).at_ (fun _=>rfl) d.lp h;refine⟨_,rfl,hb,a,m,_,b 2 _ rfl,?_⟩;unfold wK;rw[hi,Mw,af h]
theorem Lg(E:gO w A0 n0 A1 n1 ps hs)(h:bR w A 3 (l.map Sw.row))(hl:l.length=n)(hn:n<=40)(G:∀s∈l,∃i,qN ps s.av=some i)(x:Rm):
  Pure Tryz.prog 89 #[.agg #[.slice A0 n0 c0,.slice A1 n1 c1,.slice A2 n2 c2],x.val,.slice A n c] w fun v _=>v= .bool (l.any fun s=>l.any fun t=>decide (s.hold=t.hold)&&(decide (wK ps s.av=x.r.a)&&decide (wK ps t.av=x.r.b))):=by
 have outer:∀(d i:Nat)(w':World),n - i=d->i<=n->Below w.heap.size w w'->F.bA.L2 A n c A n c n i A0 n0 c0 A1 n1 c1 A2 n2 c2 x.r.name x.r.kind x.A x.n x.c x.r.low x.r.high x.r.a x.r.b w.heap.size w' fun v _=>v= .bool ((l.drop i).any fun s=>l.any fun t=>decide (s.hold=t.hold)&&(decide (wK ps s.av=x.r.a)&&decide (wK ps t.av=x.r.b))):=by
  intro d;induction d with
  |zero=>
   intro i w' H hi hw;rw[cd om];exact F.bA.L2.step ⟨fun h=>by omega,fun _=>rfl⟩
  |succ d ih=>
   intro i w' H hi hw;have m:i<l.length:=om;have I:=sc i;obtain⟨ip,J⟩:=G _ (bw m);obtain⟨hb,a,o,g,_⟩:=(h.au hw lf).at_ (fun _=>rfl) hl m;refine F.bA.L2.step ⟨fun _=>⟨hb,a,o,_,_,_,g,fun K L=> ?_⟩,fun h=>by omega⟩;have hw:=kE hw L;rw[cz m,List.any_cons];have inner:∀(e j:Nat)(w':World),n - j=e->j<=n->Below w.heap.size w w'->F.bA.L5 A n c A n c n i A n c n j A0 n0 c0 A1 n1 c1 A2 n2 c2 x.r.name x.r.kind x.A x.n x.c x.r.low x.r.high x.r.a x.r.b l[i].hold l[i].av l[i].aV w.heap.size w' fun v _=>v= .bool (((l.drop j).any fun t=>decide (l[i].hold=t.hold)&&(decide (wK ps l[i].av=x.r.a)&&decide (wK ps t.av=x.r.b)))||
     ((l.drop (i+1)).any fun s=>l.any fun t=>decide (s.hold=t.hold)&&(decide (wK ps s.av=x.r.a)&&decide (wK ps t.av=x.r.b)))):=by
    intro e;induction e with
    |zero=>
     intro j w' he hj hw;rw[cd (i:=j) om,List.any_nil,IT];refine F.bA.L5.step ⟨fun h=>by omega,fun _=>⟨ir,?_⟩⟩;rw[I];exact ih (i+1) w' om om hw
    |succ e q=>
     intro j w' he hj hw;have y:j<l.length:=om;have z:=sc j;obtain⟨jp,B⟩:=G _ (bw y);obtain⟨hb,a,o,g,_⟩:=(h.au hw lf).at_ (fun _=>rfl) hl y;rw[cz y,List.any_cons];refine F.bA.L5.step ⟨fun _=>⟨hb,a,o,_,_,_,g,fun h1 T M=> ?_,fun h1=>⟨ir,fun N C=> ?_⟩⟩,fun h=>by omega⟩
     ·have hw:=kE hw M;refine pm (wN (E.au hw) J) ?_;rintro v O P rfl;have hw:=kP hw P;rw[gu h1,rr];refine⟨_,rfl,fun k=> ?_,fun k=>⟨ir,?_⟩⟩
      ·refine pm (wN (E.au hw) B) ?_;rintro v Q R rfl;rw[gu k,rr];refine⟨_,rfl,fun D=> ?_,fun D=>⟨ir,?_⟩⟩
       ·rw[gu D];rfl
       ·rw[en D,IT,z];have:=q (j+1) Q om om (kP hw R);rw[gu k]at this;simp only[rr]at this;exact this
      ·rw[en k,FL,IT,z];have:=q (j+1) O om om hw;rw[en k]at this;exact this
     ·rw[en h1,FL,IT,z];exact q (j+1) N om om (kE hw C)
   have:=inner n 0 K rfl om hw;rwa [FI]at this
 exact F.bA.vc fun w1 S=>outer n 0 w1 rfl om (k0 S)
theorem Lh(j:gO w A0 n0 A1 n1 ps hs)(h:bR w A 3 (l.map Sw.row))(hl:l.length=n)(hn:n<=40)(k:∀s∈l,∃i,qN ps s.av=some i)(x:Rm):
  Pure Tryz.prog 90 #[.agg #[.slice A0 n0 c0,.slice A1 n1 c1,.slice A2 n2 c2],x.val,.slice A n c] w fun v _=>v= .bool (uo ps l x.r.b x.r.a):=by
 refine F.qo.vc fun w1 m p2 B e p3 o g=> ?_
 have hw:=k0 m;refine pm (F.dM.vc (R:=fun v _=>v= .bool (uo ps l x.r.b x.r.a)) (pm (F.aN.vc (zA (h.au hw lf) hl om kF (p:=fun s=>decide (s.hold=x.r.b)&&decide (wK ps s.av=x.r.a)) (fun w' hb s q=> ?_) (R:=fun v _=>v= .int .i64 (fF (fun s=>decide (s.hold=x.r.b)&&decide (wK ps s.av=x.r.a)) 0 l)) (fun _=>rfl) n 0 w1 rfl om (Below.refl _ _) rfl)) ?_)) ?_
 ·obtain⟨i,hi⟩:=k s q;have g2:=ag e hb;have g3:=ag g hb;refine F.mK.vc fun C d=>⟨_,aZ (ag g3 (k0 d)) rfl,fun h1=>⟨_,_,_,_,_,_,_,_,_,eE (ag g2 (k0 d)),_,aZ (ag g3 (k0 d)) rfl,fun D y=> ?_⟩,fun h1 E _=> ?_⟩
  ·refine pm (wN (j.au (kP (kP hw hb) (kE (k0 d) y))) hi) ?_;rintro v G _ rfl;exact⟨_,rfl,by rw[gu h1,rr]⟩
  ·rw[en h1,FL]
 ·rintro v z _ rfl;exact⟨_,rfl,by dsimp only;rw[sB];rfl⟩
 ·rintro v z _ rfl;exact⟨_,rfl,rfl⟩
theorem Li(e:gO w A0 n0 A1 n1 ps hs)(h:bR w A 3 (l.map Sw.row))(hl:l.length=n)(hn:n<=40)(g:eM ps hs l){x:Rm}{i:Nat}(hi:qN ps x.r.a=some i):
  Pure Tryz.prog 91 #[.agg #[.slice A0 n0 c0,.slice A1 n1 c1,.slice A2 n2 c2],x.val,.slice A n c] w fun v _=>v= .bool (match (qN ps x.r.a).bind fun i=>ps[i]? with|some p=>decide (cQ l x.r.a<p.aV)|none=>false):=by
 have L:=e.np;obtain⟨o,hid⟩:=Cc hi;have M:=(g.c.p1 _ (bw o)).2.1;rw[hi,Mw,af o];refine F.dj.vc fun w1 z p2 Q k=> ?_
 have hw:=k0 z;refine pm (xJ (p:=fun p=>decide (p.id=x.r.a)) (e.au hw).p e.lp om kF fun w' hb y hy=> ?_) ?_
 ·exact F.mL.vc fun w1 z=>⟨_,aZ (ag (ag k hb) (k0 z)) rfl,rfl⟩
 ·rintro v B E rfl;show ∃i3:Int,Value.int .i64 (uU (qN ps x.r.a))=_/\_
  rw[hi];have N:=ag k E;have G:=kP hw E;obtain⟨hb,a,C,_,b⟩:=((e.au G).p).at_ (fun _=>rfl) e.lp o;refine⟨_,rfl,hb,a,C,_,b 1 _ rfl,?_⟩;have key:∀(d j:Nat)(w':World),n - j=d->j<=n->Below B.heap.size B w'->F.dj.L4 ⟨p2,0,none⟩ (ps[i].aV - cQ (l.take j) x.r.a) A n c n j w.heap.size w' fun v _=>v= .bool (decide (cQ l x.r.a<ps[i].aV)):=by
   intro d;induction d with
   |zero=>
    intro j w' O hj q;rw[de om];refine F.dj.L4.step ⟨fun h=>by omega,fun _=> ?_⟩;refine bx Value.bool ?_;rw[nb];omega
   |succ d ih=>
    intro j w' O hj q;have D:j<l.length:=om;have H:=sc j;have P:l.take (j+1)=l.take j++[l[j]]:=by rw[ft,af D];rfl
    have es:=ud (l.take j) l[j] x.r.a;rw[<-P]at es;have f1:=yz g.pos x.r.a j;have f2:=yz g.pos x.r.a (j+1);have f3:=g.full _ (bw o);rw[hid]at f3;obtain⟨hb,a,C,b,_⟩:=(h.au (kP G q) lf).at_ (fun _=>rfl) hl D;refine F.dj.L4.step ⟨fun _=>⟨hb,a,C,_,_,_,b,fun I m=> ?_⟩,fun h=>by omega⟩;have J:=kP q (extAll m);have K:=g.pos _ (bw D);refine⟨_,aZ (ext_nil m (ag N q)) rfl,fun h1=> ?_,fun h1=>⟨ir,?_⟩⟩
    ·rw[bb h1]at es;refine⟨ir,ir,?_⟩;have:=ih (j+1) I om om J;rw[es]at this;rw[H,show ps[i].aV - cQ (l.take j) x.r.a - l[j].aV=ps[i].aV - (cQ (l.take j) x.r.a+l[j].aV) by omega];exact this
    ·rw[aq h1,Int.add_zero]at es;have:=ih (j+1) I om om J;rw[es]at this;rw[H];exact this
  have:=key n 0 B rfl om (Below.refl _ _);rw[Ji]at this;simp only[cQ,Mu,List.sum_nil,Int.sub_zero]at this;exact this
end

section
variable {w:World} {A0 A1 A2 A:Option Addr} {n0 c0 n1 c1 n2 c2 n c:Nat} {ps:List Pa} {hs:List Ho} {xs:List Rm} {l:List Sw}
theorem Lj(hg:bj w)(hp:oN w A0 n0 A1 n1 A2 n2 c2 ps hs xs)(h:bR w A 3 (l.map Sw.row))(hl:l.length=n)(mv:n<=c)(hn:n<=40):
  Pure Tryz.prog 38 #[.agg #[.slice A0 n0 c0,.slice A1 n1 c1,.slice A2 n2 c2],.slice A n c] w fun v _=>v= .bool (yG ps hs (dK xs) l):=by
 refine F.qn.vc fun w1 a=> ?_
 have hw:=k0 a;refine pm (wM (hg.next hw) (hp.au hw)) ?_;rintro v d b rfl;have hw:=kP hw b;unfold yG;refine⟨_,_,rfl,fun h1=> ?_,fun h1=> ?_⟩
 ·refine pm (bS (hg.next hw) (hp.au hw).c (h.au hw lf) hl mv om) ?_;rintro v e _ rfl;exact⟨_,rfl,by rw[gu h1,rr]⟩
 ·rw[en h1,FL]
theorem Cu(a:eM ps hs l):∀s∈l,∃i,qN ps s.av=some i:=fun s b=>by
 obtain⟨i,k,hi,_⟩:=a.known s b;exact⟨i,hi⟩
theorem Lk(a:eM ps hs l):∀s∈l,∃h∈hs,h.id=s.hold:=fun s b=>by
 obtain⟨i,k,_,d⟩:=a.known s b;obtain⟨hl,e⟩:=KE d;exact⟨_,bw hl,e⟩
theorem IM(hg:bj w)(hp:oN w A0 n0 A1 n1 A2 n2 c2 ps hs xs)(h:bR w A 3 (l.map Sw.row))(hl:l.length=n)(mv:n<=c)(hn:n<=40)(M:(oz ps hs (dK xs)).2=0)(I:hX ps hs l=0):
  Pure Tryz.prog 39 #[.agg #[.slice A0 n0 c0,.slice A1 n1 c1,.slice A2 n2 c2],.slice A n c] w fun v _=>∃A' m c',v= .slice A' m c'/\m=(dK xs).countP (iQ ps hs l):=by
 have z:=fw I;have Y:=hp.l;have Z:=hp.n;have C:=(um M).2.2;refine F.bI.vc fun w1 N=> ?_
 have key:∀(d i:Nat)(A':Option Addr)(m c':Nat)(w':World)(o:List Int),n2 - i=d->i<=n2->Below w.heap.size w w'->aE w' w.heap.size 3 A' m c' 1 (o.map fG)->m=(dK (xs.take i)).countP (iQ ps hs l)->
   F.bI.L4 A n c A' m c' A2 n2 c2 n2 i A0 n0 c0 A1 n1 c1 A2 n2 c2 w.heap.size w' fun v _=>∃A' m c',v= .slice A' m c'/\m=(dK xs).countP (iQ ps hs l):=by
  intro d;induction d with
  |zero=>
   intro i A' m c' w' o O hi hw ho hm;rw[de om]at hm;exact F.bI.L4.step ⟨fun h=>by omega,fun _=>⟨A',m,c',rfl,hm⟩⟩
  |succ d ih=>
   intro i A' m c' w' o O hi hw ho hm;have D:i<xs.length:=om;have J:=sc i;have K:=bw D;have e:=C xs[i].r (MY K);have P:=hp.f _ K;have Q:m<=i:=by
    rw[hm];refine dp Qq ?_;unfold dK;rw[ec,ew];omega
   have q:(dK (xs.take (i+1))).countP (iQ ps hs l)=m+if iQ ps hs l xs[i].r then 1 else 0:=by
    rw[<-AH D,List.countP_append,<-hm,List.countP_singleton]
   obtain⟨hb,a,R,g,_⟩:=(hp.au hw).at_ D;have S:=e.kind;refine F.bI.L4.step ⟨fun _=>⟨hb,a,R,_,_,_,_,_,_,_,_,_,g,om,⟨⟨⟨⟨trivial,fun k=>by omega⟩,fun k E y=> ?_⟩,fun k E y=> ?_⟩,fun k E y=> ?_⟩,fun k E y=> ?_⟩,fun h=>by omega⟩
   all_goals
    have hw:=kE hw y;have ho:=ho.kL y;have b:=hp.au hw;have B:=h.au hw lf
   refine pm (Gq (hg.next hw) b B hl mv hn I (P.au hw) e k) ?_
   rotate_left
   refine pm (pm (Lg b.c B hl hn (Cu z) xs[i]) (R':=fun v _=>v= .bool (iQ ps hs l xs[i].r)) ?_) ?_
   ·rintro v L _ rfl;refine bx Value.bool ?_;unfold iQ;rw[aq om,bb k,<-Iw (Lk z)]
   rotate_left
   refine pm (pm (Lh b.c B hl hn (Cu z) xs[i]) (R':=fun v _=>v= .bool (iQ ps hs l xs[i].r)) ?_) ?_
   ·rintro v L _ rfl;refine bx Value.bool ?_;unfold iQ;rw[aq om,aq om,bb k]
   rotate_left
   obtain⟨ip,T⟩:=e.four k;refine pm (pm (Li b.c B hl hn z T) (R':=fun v _=>v= .bool (iQ ps hs l xs[i].r)) ?_) ?_
   ·rintro v L _ rfl;refine bx Value.bool ?_;unfold iQ;rw[aq om,aq om,aq om];cases (qN ps xs[i].r.a).bind fun i=>ps[i]? <;>rfl
   rotate_left
   all_goals
    rintro v U G rfl;have H:=kP hw G;refine⟨_,rfl,fun j=> ?_,fun j=>⟨ir,?_⟩⟩
    ·refine so gQ lf (ho.below G) (x:= .int .i64 (i:Int)) rfl (by simp[Value.cells,bl]) H.size om dc fun A3 c3 V W _ X=>⟨ir,?_⟩
     rw[J];refine ih (i+1) A3 (m+1) c3 V (o++[(i:Int)]) om om (H.trans X) (by rw[eH];exact W) ?_;rw[q,bb j]
    ·rw[J];refine ih (i+1) A' m c' U o om om H (ho.below G) ?_;rw[q,aq (by simp[j])];rfl
 have:=key n2 0 none 0 0 w1 [] rfl om (k0 N) aE.nil rfl;exact this
theorem wO(hg:bj w)(hp:oN w A0 n0 A1 n1 A2 n2 c2 ps hs xs)(h:bR w A 3 (l.map Sw.row))(hl:l.length=n)(mv:n<=c)(hn:n<=40):
  Pure Tryz.prog 10 #[.agg #[.slice A0 n0 c0,.slice A1 n1 c1,.slice A2 n2 c2],.slice A n c] w fun v _=>v= .bool (kQ ps hs (dK xs) l):=by
 refine F.qm.vc fun w1 a=> ?_
 have hw:=k0 a;refine pm (Lj (hg.next hw) (hp.au hw) (h.au hw lf) hl mv hn) ?_;rintro v i b rfl;have hw:=kP hw b;unfold kQ;refine⟨_,rfl,fun h1=>by rw[h1];rfl,fun h1=> ?_⟩;have h1:=sG _|>.mp h1
 rw[h1,rr];unfold yG at h1;simp only[cy,hJ]at h1;refine pm (IM (hg.next hw) (hp.au hw) (h.au hw lf) hl mv hn h1.1 h1.2) ?_;rintro v j d ⟨A',m,c',rfl,hm⟩;have hw:=kP hw d;have e:(dK xs).any (iQ ps hs l)=decide (0<m):=by
  rw[hm,ve,hJ,R0,oZ]
 rw[e];refine⟨_,_,_,rfl,fun g=> ?_,fun g=> ?_⟩
 ·rw[gu (show 0<m by omega)];rfl
 ·rw[en (show ¬0<m by omega),SD,rr];refine pm (im (hg.next hw) (hp.au hw).c (h.au hw lf) hl mv hn) ?_;rintro v o _ rfl;unfold QU;rw[aq (fun k=>k h1.2)];refine⟨_,_,rfl,?_⟩;refine bx Value.bool ?_;rw[nb];exact oM
end

theorem WH{n:Nat}(h:n<=64):qP .i64 (n:Int):=⟨om,by simp only[IntKind.bits];omega⟩
theorem U1:∀n:Nat,n<8->we .i64 1 (n:Int)=((2^n:Nat):Int):=by decide+kernel
theorem U2:∀s:Nat,s<128->∀n:Nat,n<8->bits .and .i64 (nA (s:Int) (n:Int)) 1=if s.testBit n then 1 else 0:=by decide+kernel
theorem Zp:∀s:Nat,s<128->∀n:Nat,n<8->bits .or .i64 (s:Int) ((2^n:Nat):Int)=((KW s n:Nat):Int):=by decide+kernel
theorem RG{s n:Nat}(hs:s<128)(hn:n<8):bits .and .i64 (nA (s:Int) (n:Int)) 1=1↔s.testBit n=true:=by
 rw[U2 s hs n hn];cases s.testBit n<;>simp
end Go.Proofs.YtbcojgcjjpggnaaGreatDoor.B

set_option maxRecDepth 100000
set_option maxHeartbeats 4000000
namespace Go.Proofs.YtbcojgcjjpggnaaGreatDoor.F
open Go Go.RowKit Go.Proofs Go.Proofs.YtbcojgcjjpggnaaGreatDoor.Vc
open Tryz
variable {A C D E G H J K A0 A1 A2 A3 A4 A5 A6 A7 A8 A9 C0 C1 C2 C3 C4 C5 C6 C7 C8 C9:O} {a b c d e f g i j l m n o a0 a1 a2 a3 a4 a5 a6 a7 a8 a9 b0 b1 b2 b3 b4 b5 b6 b7 b8 b9 c0 c1 c2 c3 c4 c5 c6 c7 c8 c9:Nat} {p q r s t u v x p0 p1 p2 p3 p4 p5 p6 p7 p8 p9 q0 q1 q2 q3 q4 q5 q6 q7 q8 q9:Int} {L M N N0 N1 N2 N3 N4 N5 N6 N7 N8 N9 T0 T1 T2 T3 T4 T5 T6 T7 T8 T9:ByteArray} {Q S:Bool} {B:Nat} {w:World} {R:Kt}
def bB.L7(a:O)(b c:Nat)(h:O)(d e:Int):=Lt 172 f172 7 [vS 3 a b c,vP 10 h,vI 32 d,vI 33 e] []
def bB.tB(h:O)(a:Int)(b:O)(c d:Nat)(e f:Int):=Lt 172 f172 14 [vP 10 h,vI 13 a,vS 41 b c d,vI 42 e,vI 43 f] []
def bB.cx:Pm:=([((true,7),[3,10,32,33],[]),((true,14),[10,13,41,42,43],[])],[(17,2,6)])
theorem bB.L7.step{c k:O}
  (h:(Br (p<q) (Pure P 210 #[.slice c a b,I p] w (Rb fun e d=>(Br (e=false) (R (.tuple #[(I (-1:Int)),I 10]) d) (aU .i64 (p+1)/\(bB.L7 c a b k q (p+1) B d R))))) (bB.tB k (0:Int) c a b (a:Int) (0:Int) B w R))):
  bB.L7 c a b k q p B w R:=
 lr bB.cx func172 h
theorem bB.tB.step{k d:O}
  (h:(Br (p<r) (Ix p a d fun g=>(∃c,aa w (g.add ((p).toNat*1)) [I c]/\(qP .i64 c/\(cI P 211 #[.pointer k,(I (bits .or .i64 q (we .i64 1 c)))] B w fun i e=>PG [] w e/\∃f,i= .bool f/\(Br (f=false) (R (.tuple #[I p,I 15]) e) (aU .i64 (p+1)/\(bB.tB k (bits .or .i64 q (we .i64 1 c)) d a b r (p+1) B e R))))))) (R (.tuple #[(I (-1:Int)),I 0]) w))):
  bB.tB k q d a b r p B w R:=
 lr bB.cx func172 h
theorem bB.vc
  (h:(∀q,Ext w.heap.size [] w q->(Pure P 209 #[.agg #[.slice A c d,.slice C e f,.slice D g i],.slice E j l,.slice G a m] q fun r o=>∃k p,r= .tuple #[.pointer k,I p]/\(Br (p≠0) (R (.tuple #[(I (-1:Int)),I p]) o) (Br ((b:Int)≠(a:Int)) (R (.tuple #[(I (-1:Int)),I 10]) o) (bB.L7 H b n k (a:Int) (0:Int) w.heap.size o R)))))):
  Pure P 172 #[.agg #[.slice A c d,.slice C e f,.slice D g i],.slice E j l,.slice G a m,.slice H b n] w R:=
 pr bB.cx func172 h

def bC.Zq(a:O)(b c:Nat)(d:O)(e f:Nat)(g:Addr)(i:O)(j l:Nat)(m n:Int)(o:O)(p q:Nat)(r:O)(s t:Nat)(u:O)(v x:Nat):=Lt 209 f209 10 [vS 1 a b c,vS 2 d e f,vL 3,(10,.v (.pointer (some g))),vS 36 i j l,vI 37 m,vI 38 n] [⟨3,false,39,[(.slice o p q),(.slice r s t),(.slice u v x)]⟩]
def bC.Zr(a:O)(b c:Nat)(d:Addr)(e:O)(f g:Nat)(i j:Int)(l:O)(m n:Nat)(o:O)(p q:Nat)(r:O)(s t:Nat):=Lt 209 f209 17 [vS 1 a b c,vL 3,(10,.v (.pointer (some d))),vS 55 e f g,vI 56 i,vI 57 j] [⟨3,false,39,[(.slice l m n),(.slice o p q),(.slice r s t)]⟩]
def bC.cx:Pm:=([((true,10),[1,2,3,10,36,37,38],[3]),((true,17),[1,3,10,55,56,57],[3])],[(8,2,2),(8,4,2)])
theorem bC.Zq.step{o:Addr}
  (h:(Br (p<q) (Ix p e D fun x=>(∃s t u,aa w (x.add ((p).toNat*3)) [I s,I t,I u]/\(∀v,Ext B [] w v->(Pure P 252 #[(.pointer (some o)),.agg #[I s,I t,I u]] v (Rii fun y z r=>(Br (y<0) (R (.tuple #[.pointer none,I 7]) r) (Br (z<0) (R (.tuple #[.pointer none,I 7]) r) (aU .i64 (p+1)/\(bC.Zq A b c C a d o D e n q (p+1) E f g G i j H l m B r R))))))))) (bC.Zr A b c o C a d (a:Int) (0:Int) E f g G i j H l m B w R))):
  bC.Zq A b c C a d o D e n q p E f g G i j H l m B w R:=
 lr bC.cx func209 h
theorem bC.Zr.step{m:Addr}
  (h:(Br (p<q) (Ix p g E fun z=>(∃H J n,aa w (z.add ((p).toNat*3)) [I H,I J,I n]/\(Br (n=0) (∀s,Ext B [] w s->(R (.tuple #[.pointer none,I 2]) s)) (Br (n<(-9:Int)) (∀t,Ext B [] w t->(R (.tuple #[.pointer none,I 2]) t)) (Br (n>9) (∀u,Ext B [] w u->(R (.tuple #[.pointer none,I 2]) u)) (aU .i64 (p+1)/\(∀v,Ext B [] w v->(bC.Zr D e f m E g l q (p+1) A a b C c d G i j B v R)))))))) (Pure P 253 #[.agg #[.slice A a b,.slice C c d],.slice D e f] w (XQ fun K L M N x=>(∃(o:List Value)(r:Nat),B<=(m.add 4).block/\(m.add 4).spot=none/\x.heap[(m.add 4).block]? =some (.cells o.toArray r (0,0))/\(m.add 4).off+1<=o.length/\hasType r [⟨3,false,39,[.slice A a b,.slice C c d,.slice G i j]⟩]=false/\∀y,aL x y (m.add 4).block r (setCells o (m.add 4).off [.slice K L M])->(R (.tuple #[(.pointer (some m)),I 0]) y)))))):
  bC.Zr D e f m E g l q p A a b C c d G i j B w R:=
 lr bC.cx func209 h
theorem bC.vc
  (h:(∀n,Ext w.heap.size [] w n->(Pure P 84 #[.agg #[.slice A b c,.slice C d e,.slice D f g]] n (Rii fun y r o=>(Br (r≠0) (R (.tuple #[.pointer none,I 1]) o) (Pure P 10 #[.agg #[.slice A b c,.slice C d e,.slice D f g],.slice G j l] o (Rb fun s m=>(Br (s=false) (R (.tuple #[.pointer none,I 11]) m) (Br ((a:Int)>6) (R (.tuple #[.pointer none,I 8]) m) (ae P (Instr.makeMap 306 none) w.heap.size [39] m fun t u=>∃(p:Option Nat),t= .map p/\(ae P (Instr.box 308 (.agg #[.slice A b c,.slice C d e,.slice D f g,.slice E a i,.slice none 0 0,(.map p)])) w.heap.size [39] u fun v x=>∃(q:Addr),v= .pointer (some q)/\(bC.Zq G j l E a i q E a i (a:Int) (0:Int) A b c C d e D f g w.heap.size x R)))))))))))):
  Pure P 209 #[.agg #[.slice A b c,.slice C d e,.slice D f g],.slice G j l,.slice E a i] w R:=
 pr bC.cx func209 h

def jk.cx:Pm:=([],[(1,5,2),(5,6,2)])
theorem jk.u7{a:Addr}(hB:B<=w.heap.size)
  (h:(∃(c:Option Nat),aa w (a.add 5) [(.map c)]/\(ae P (Instr.lookup 306 (.map c) (I p) true) B [] w fun x d=>∃e f,x= .tuple #[.bool e,.bool f]/\(Br (f=false) (Pure P 255 #[(.pointer (some a)),I p] d (Rsb fun y z A C b=>(Bb C (∃g i j l m n o q r,aa b (a.add 0) [.slice g i j,.slice l m n,.slice o q r]/\(Pure P 10 #[.agg #[.slice g i j,.slice l m n,.slice o q r],.slice y z A] b (Rb fun s t=>(∃(u:Option Nat),aa t (a.add 5) [(.map u)]/\(dZ P (Instr.mapUpdate 306 (.map u) (I p) (.bool s)) B [] t fun D=>(R (.bool s) D)))))) (∃(v:Option Nat),aa b (a.add 5) [(.map v)]/\(dZ P (Instr.mapUpdate 306 (.map v) (I p) (.bool false)) B [] b fun E=>(R (.bool false) E)))))) (R (.bool e) d))))):
  cI P 211 #[(.pointer (some a)),I p] B w R:=
 pb jk.cx func211 h hB

def ki.cx:Pm:=([],[(1,6,5)])
theorem ki.vc{c:Addr}
  (h:(∀a,Ext w.heap.size [] w a->(∃d e f,aa a (((c.add 0).add 0).add 0) [.slice d e f]/\(∀b:Nat,w.heap.size<=b->a.heap[b]? =some (.cells [I p,I q,I r].toArray 57 (0,0))->(Pure P 148 #[.slice d e f,(.func (.func 280) #[] #[(.pointer (some (⟨b,0,none⟩:Addr)))])] a (Ri fun m g=>(∃i j l,aa g (((c.add 0).add 0).add 1) [.slice i j l]/\(Pure P 92 #[.slice i j l,(.func (.func 281) #[] #[(.pointer (some (⟨b,0,none⟩:Addr)))])] g (Ri fun n o=>(R (.tuple #[I m,I n]) o)))))))))):
  Pure P 252 #[(.pointer (some c)),.agg #[I p,I q,I r]] w R:=
 pr ki.cx func252 h

def bJ.L3(a:Addr)(b:Int)(c:O)(d e:Nat)(f:O)(g i:Nat)(j l:Int):=Lt 255 f255 3 [(0,.v (.pointer (some a))),vI 1 b,vS 6 c d e,vS 21 f g i,vI 22 j,vI 23 l] []
def bJ.cx:Pm:=([((true,3),[0,1,6,21,22,23],[])],[])
theorem bJ.L3.step{i:Addr}
  (h:(Br (p<r) (Ix p c C fun L=>(∃m n l,aa w (L.add ((p).toNat*3)) [I m,I n,I l]/\(qP .i64 p/\(Br (((bits .and .i64 (nA q p) (1:Int)):Int)=1) (∀x,Ext B [] w x->(Pure P 252 #[(.pointer (some i)),.agg #[I m,I n,I l]] x (Rii fun f g o=>(∃M e N,aa o (((i.add 0).add 0).add 1) [.slice M e N]/\(aU .i64 (f*(e:Int))/\(aU .i64 ((f*(e:Int))+g)/\(Ix ((f*(e:Int))+g) a A fun O=>(∃s,aa o (O.add ((((f*(e:Int))+g)).toNat*1)) [I s]/\(aU .i64 (s+l)/\(Ix ((f*(e:Int))+g) a A fun j=>(∀t,Ext B [] o t->(∃(u:List Value)(v:Nat),B<=(j.add ((((f*(e:Int))+g)).toNat*1)).block/\(j.add ((((f*(e:Int))+g)).toNat*1)).spot=none/\t.heap[(j.add ((((f*(e:Int))+g)).toNat*1)).block]? =some (.cells u.toArray v (0,0))/\(j.add ((((f*(e:Int))+g)).toNat*1)).off+1<=u.length/\hasType v [⟨8,false,57,[I m,I n,I l]⟩]=false/\∀y,aL t y (j.add ((((f*(e:Int))+g)).toNat*1)).block v (setCells u (j.add ((((f*(e:Int))+g)).toNat*1)).off [(I (s+l))])->(aU .i64 (p+1)/\(bJ.L3 i q A a b C c d r (p+1) B y R)))))))))))))) (aU .i64 (p+1)/\(∀z,Ext B [] w z->(bJ.L3 i q A a b C c d r (p+1) B z R))))))) (∃D E G H J K,aa w ((i.add 0).add 0) [.slice D E G,.slice H J K]/\(Pure P 283 #[.agg #[.slice D E G,.slice H J K],.slice A a b] w (XQ fun Q S T U V=>(R (.tuple #[.slice Q S T,(.bool (decide (U=0)))]) V)))))):
  bJ.L3 i q A a b C c d r p B w R:=
 lr bJ.cx func255 h
theorem bJ.vc{a:Addr}
  (h:(∃c d e,aa w (a.add 4) [.slice c d e]/\(Pure P 282 #[.slice c d e] w (Rs fun j l m f=>(∃g b i,aa f (a.add 3) [.slice g b i]/\(bJ.L3 a p j l m g b i (b:Int) (0:Int) w.heap.size f R)))))):
  Pure P 255 #[(.pointer (some a)),I p] w R:=
 pr bJ.cx func255 h

def iR.cx:Pm:=([],[])
theorem iR.vc{b:Addr}
  (h:(∀a,Ext w.heap.size [] w a->(∃c,aa a (b.add 1) [I c]/\(R (.bool (decide (p=c))) a)))):
  Pure P 280 #[.agg #[I p,I q,I r,.string L,.string M,.string N,.string N0],(.pointer (some b))] w R:=
 pr iR.cx func280 h

def iT.cx:Pm:=([],[])
theorem iT.vc{b:Addr}
  (h:(∀a,Ext w.heap.size [] w a->(∃c,aa a (b.add 0) [I c]/\(R (.bool (decide (p=c))) a)))):
  Pure P 281 #[.agg #[I p,.string L,.string M,.string N,.string N0,.string N1,.string N2],(.pointer (some b))] w R:=
 pr iT.cx func281 h

end Go.Proofs.YtbcojgcjjpggnaaGreatDoor.F

namespace Go.Proofs.YtbcojgcjjpggnaaGreatDoor.B
open Go Go.RowKit Go.Proofs Go.Proofs.YtbcojgcjjpggnaaGreatDoor.Vc

structure Tk where
 b:Nat
 m:Nat
 A0:Option Addr
 n0:Nat
 c0:Nat
 A1:Option Addr
 n1:Nat
 c1:Nat
 A2:Option Addr
 n2:Nat
 c2:Nat
 A3:Option Addr
 n3:Nat
 c3:Nat
 A4:Option Addr
 n4:Nat
 c4:Nat
abbrev Tk.cs(k:Tk):List Value:=[.slice k.A0 k.n0 k.c0,.slice k.A1 k.n1 k.c1,.slice k.A2 k.n2 k.c2,.slice k.A3 k.n3 k.c3,.slice k.A4 k.n4 k.c4,.map (some k.m)]
abbrev Tk.p(k:Tk):Addr:=⟨k.b,0,none⟩
def Jz(w:World)(k:Tk):Prop:=w.heap[k.b]? =some (.cells k.cs.toArray 308 (0,0))
theorem Jz.au{w w':World}{k:Tk}(h:Jz w k)(hb:Below w.heap.size w w'):Jz w' k:=ag h hb
theorem Jz.cl{w w':World}{k:Tk}(h:Jz w k)(c:Cl w w'):Jz w' k:=c.cells _ _ _ _ h
theorem Jz.cell{w:World}{k:Tk}(h:Jz w k)(i:Nat){v:Value}(a:k.cs[i]? =some v):aa w (k.p.add i) [v]:=aZ h a
theorem Jz.part{w:World}{k:Tk}(h:Jz w k)(i n:Nat):aa w (k.p.add i) ((k.cs.drop i).take n):=wG (eE h) i n
structure Ab (w:World) (k:Tk) (ps:List Pa) (hs:List Ho) (xs:List Rm) (l aW:List Sw):Prop where
 t:Jz w k
 p:oN w k.A0 k.n0 k.A1 k.n1 k.A2 k.n2 k.c2 ps hs xs
 wk:bR w k.A3 3 (aW.map Sw.row)
 lw:aW.length=k.n3
 st:bR w k.A4 1 ((dD ps hs l).map fG)
 ok:Rg ps hs (dK xs) l aW
 n4:k.n4=k.n0*k.n1
theorem Ab.au{w w':World}{k:Tk}{ps:List Pa}{hs:List Ho}{xs:List Rm}{l aW:List Sw}(h:Ab w k ps hs xs l aW)(hb:Below w.heap.size w w'):Ab w' k ps hs xs l aW:=
 ⟨h.t.au hb,h.p.au hb,h.wk.au hb lf,h.lw,h.st.au hb lf,h.ok,h.n4⟩
theorem Ab.cl{w w':World}{k:Tk}{ps:List Pa}{hs:List Ho}{xs:List Rm}{l aW:List Sw}(h:Ab w k ps hs xs l aW)(c:Cl w w'):Ab w' k ps hs xs l aW:=
 ⟨h.t.cl c,h.p.cl c,h.wk.cl c,h.lw,h.st.cl c,h.ok,h.n4⟩

section
variable {w:World} {k:Tk} {ps:List Pa} {hs:List Ho} {xs:List Rm} {l aW:List Sw}
theorem En(d:Jz w k)(a:gO w k.A0 k.n0 k.A1 k.n1 ps hs)(x:Sw):
  Pure Tryz.prog 252 #[.pointer (some k.p),x.val] w fun v _=>v= .tuple #[.int .i64 (uU (qN ps x.av)),.int .i64 (uU (vK hs x.hold))]:=by
 have i:=a.np;have j:=a.nh;refine F.ki.vc fun w1 b=> ?_
 have hw:=k0 b;refine⟨_,_,_,by rw[Go.Deep.add_add,Go.Deep.add_add];exact(d.au hw).cell 0 rfl,fun p3 m c=> ?_⟩;refine pm (xJ (p:=fun p=>decide (p.id=x.av)) (a.au hw).p a.lp om kF fun w' hb y hy=> ?_) ?_
 ·exact F.iR.vc fun w1 b=>⟨_,aZ (ag (ag c hb) (k0 b)) rfl,rfl⟩
 ·rintro v n e rfl;have g:=kP hw e;refine⟨_,rfl,_,_,_,by rw[Go.Deep.add_add,Go.Deep.add_add];exact(d.au g).cell 1 rfl,?_⟩;refine pm (AB (p:=fun p=>decide (p.id=x.hold)) (a.au g).h a.lh om kF fun w' hb y hy=> ?_) ?_
  ·exact F.iT.vc fun w1 b=>⟨_,bE (ag (ag (ag c e) hb) (k0 b)) rfl,rfl⟩
  ·rintro v o _ rfl;exact⟨_,rfl,rfl⟩
theorem Dp(a:eM ps hs l):∀x∈dD ps hs l,0<=x/\x<=9:=by
 intro x hx;unfold dD at hx;obtain⟨p,_,hx⟩:=QI.1 hx;obtain⟨h,_,rfl⟩:=hM.1 hx;exact⟨BW a.pos _ _,YV a _ _⟩
theorem RH{x:Sw}{j:Nat}(h:mJ ps hs x=some j):∃i k,qN ps x.av=some i/\vK hs x.hold=some k/\j=i*hs.length+k/\j<ps.length*hs.length:=by
 unfold mJ at h;cases a:qN ps x.av with
 |none=>rw[a]at h;cases h
 |some i=>
  cases b:vK hs x.hold with
  |none=>rw[a,b]at h;cases h
  |some k=>
   rw[a,b]at h;cases h;exact⟨i,k,rfl,rfl,rfl,B3 (Cc a).1 (KE b).1⟩
theorem NL{s:Nat}{m:List Sw}(e:ql ps hs l aW s=some m):m.length<=36:=(IA e).2.1.len
theorem NM(hg:bj w)(h:Ab w k ps hs xs l aW){s:Nat}(M:s<128):
  Pure Tryz.prog 255 #[.pointer (some k.p),.int .i64 (s:Int)] w fun v w'=>(ql ps hs l aW s=none->v= .tuple #[.slice none 0 0,.bool false])/\
   ∀m,ql ps hs l aW s=some m->∃A n c,v= .tuple #[.slice A n c,.bool true]/\aE w' w.heap.size 54 A n c 3 (m.map Sw.row):=by
 obtain⟨YF,xk,hr⟩:=zE h.ok.keeps;have N:=h.p.c.lp;have B:=h.p.c.lh;have Ie:=h.p.c.np;have zh:=h.p.c.nh;have hle:k.n0*k.n1<=7*7:=vi Ie zh;have vf:=h.ok.n;have U3:=h.lw;have O:=h.n4;have C:(dD ps hs l).length=k.n4:=by rw[iE,N,B,O]
 refine F.bJ.vc ⟨_,_,_,h.t.cell 4 rfl,pm (YW h.st C om) ?_⟩;rintro v w4 P ⟨A',c',rfl,ho⟩;refine⟨_,_,_,rfl,_,_,_,(h.t.au P).cell 3 rfl,?_⟩;have key:∀(d j:Nat)(a:List Int)(w':World),k.n3 - j=d->j<=k.n3->Below w.heap.size w w'->aE w' w.heap.size 3 A' k.n4 c' 1 (a.map fG)->(∀x∈a, -(9*(j:Int))<=x/\x<=9+9*(j:Int))->pE ps hs s j a (aW.drop j)=pE ps hs s 0 (dD ps hs l) aW->
   F.bJ.L3 k.p s A' k.n4 c' k.A3 k.n3 k.c3 k.n3 j w.heap.size w' fun v w'=>(ql ps hs l aW s=none->v= .tuple #[.slice none 0 0,.bool false])/\
    ∀m,ql ps hs l aW s=some m->∃A n c,v= .tuple #[.slice A n c,.bool true]/\aE w' w.heap.size 54 A n c 3 (m.map Sw.row):=by
  intro d;induction d with
  |zero=>
   intro j a w' hd hj hw ho hb he;have o:=ho.len;rw[ec]at o;rw[cd om]at he;have D:a=pE ps hs s 0 (dD ps hs l) aW:=he;refine F.bJ.L3.step ⟨fun h=>by omega,fun _=>⟨_,_,_,_,_,_,by rw[Go.Deep.add_add];exact(h.t.au hw).part 0 2,?_⟩⟩;refine pm (aY (hg.next hw) (h.p.au hw).c ho.sl o ho.jY om) ?_;intro v DJ Ux hf;unfold ql;rw[<-D];cases e:rj ps hs a with
   |error er=>
    rw[e]at hf;have E:=QZ e;cases hf;refine⟨_,_,_,_,rfl,fun _=> ?_,fun m hm=>by cases hm⟩;rw[en E]
   |ok m=>
    rw[e]at hf;obtain⟨A,n,c,rfl,hm⟩:=hf;refine⟨_,_,_,_,rfl,fun hm=>(by cases hm),fun m' G=> ?_⟩;cases G;exact⟨A,n,c,rfl,hm.base hw.size⟩
  |succ d ih=>
   intro j a w' hd hj hw ho hb he;have H:j<aW.length:=om;have Q:=sc j;have o:=ho.len;rw[ec]at o;have R:=bw H;obtain⟨q,S⟩:=h.ok.place _ R;obtain⟨ip,ik,F0,I,J,K⟩:=RH S;have hu:=h.ok.u _ R;rw[cz H,Iz,S]at he;obtain⟨Qn,ad,hA,b,_⟩:=(h.wk.au hw lf).at_ (fun _=>rfl) U3 H;refine F.bJ.L3.step ⟨fun _=>⟨Qn,ad,hA,_,_,_,b,WH om,fun h1 jS T=> ?_,fun h1=>⟨ir,fun xE U=> ?_⟩⟩,fun h=>by omega⟩
   ·rw[bb ((RG M om).1 h1)]at he;have hw:=kE hw T;refine pm (En (h.t.au hw) (h.p.au hw).c aW[j]) ?_;rintro v GO V rfl;have hw:=kP hw V;rw[F0,I];have ei:uU (some ip)*(k.n1:Int)=((ip*hs.length:Nat):Int):=by rw[<-B];simp[uU]
    have eq:((ip*hs.length:Nat):Int)+uU (some ik)=(q:Int):=by rw[J];simp[uU]
    have r:=(ho.kL T).below V;have XN:q<k.n4:=by rw[O,<-N,<-B];exact K
    have z:q<a.length:=om;have gT:(a.map fG)[q]? =some (fG a[q]):=by rw[kl,af z];rfl
    have haq:=hb _ (bw z);have SS:a.getD q 0=a[q]:=by rw[cb,af z];rfl
    have hlq:ip*hs.length<=q:=om;obtain⟨y,W,g,L,_⟩:=r.sl.at_ (fun _=>rfl) o z;refine⟨_,_,rfl,_,_,_,by rw[Go.Deep.add_add,Go.Deep.add_add];exact(h.t.au hw).cell 1 rfl,?_⟩;rw[ei,eq];refine⟨ir,ir,y,W,g,_,L,ir,y,W,g,fun AE X=> ?_⟩;have hw:=kE hw X;have Zs:=r.kL X;obtain⟨g1,a2,Y,cs,g2,g3,g4,g5,g6⟩:=Zs.Nc (i:=(q:Int)) om om (fG (a[q]+aW[j].aV)) _ (by rw[ca];exact gT) rfl;rw[g]at Y;cases Y;refine⟨cs,_,g2,g3,g4,g5,rfl,fun Z kt=>⟨ir,?_⟩⟩;have Zh:=g6 Z kt;rw[ca,<-Cv]at Zh;rw[Q];refine ih (j+1) (a.set q (a[q]+aW[j].aV)) Z om om (hw.trans (aL.dQ kt g2)) Zh (fun x hx=> ?_) ?_
    ·rcases GI hx with hx|rfl
     ·have:=hb x hx;omega
     ·omega
    ·rw[<-he];show _=pE ps hs s (j+1) (vQ a q aW[j].aV) _;unfold vQ;rw[SS]
   ·rw[aq (fun k=>h1 ((RG M om).2 k))]at he;rw[Q];exact ih (j+1) a xE om om (kE hw U) (ho.kL U) (fun x hx=>by have:=hb x hx;omega) he
 refine key k.n3 0 (dD ps hs l) w4 rfl om P ho (fun x hx=> ?_) rfl;have:=Dp hr x hx;omega

theorem mpB:WD 306 3 4:=⟨kF,kF,kF,fun w=>Tryz.zeroValue4 w⟩
def xT(w:World)(B:Nat)(k:Tk)(al:Nat->Bool):Prop:=∃f,tC w B 3 4 k.m f/\∀(s:Nat)(x:Bool),f (s:Int)=some x->x=al s
theorem xT.below{w w':World}{B:Nat}{k:Tk}{al:Nat->Bool}(h:xT w B k al)(hb:Below w.heap.size w w'):xT w' B k al:=by
 obtain⟨f,h1,a⟩:=h;exact⟨f,h1.below hb,a⟩
theorem xT.le{w:World}{B B':Nat}{k:Tk}{al:Nat->Bool}(h:xT w B k al)(hB:B'<=B):xT w B' k al:=by
 obtain⟨f,h1,a⟩:=h;exact⟨f,h1.le hB,a⟩
structure Gr (b:Nat) (w w':World):Prop where
 size:w.heap.size<=w'.heap.size
 other:∀k,k<w.heap.size->k≠b->w'.heap[k]? =w.heap[k]?
theorem Gr.refl(b:Nat)(w:World):Gr b w w:=⟨eU _,fun _ _ _=>rfl⟩
theorem Gr.trans{b:Nat}{w w1 c:World}(h:Gr b w w1)(k:Gr b w1 c):Gr b w c:=
 ⟨dp h.size k.size,fun i hi a=>(k.other i (sS hi h.size) a).trans (h.other i hi a)⟩
theorem Gr.low{b:Nat}{w w':World}(h:Below w.heap.size w w'):Gr b w w':=⟨h.size,fun k a _=>h.block k a⟩
theorem Gr.grown{b:Nat}{w w':World}(h:w.grownBy w' (some b)):Gr b w w':=⟨h.size,fun k c a=>h.block k c fun e=>a (by cases e;rfl)⟩
theorem Gr.cl{b:Nat}{w w':World}(h:Gr b w w')(hm:∃es clock,w.heap[b]? =some (.map es clock)):Cl w w':=⟨h.size,fun k cs ty fr e=>by
 obtain⟨es,clock,hm⟩:=hm;rw[h.other k (ax.1 e).1 fun k=>by subst k;rw[hm]at e;cases e];exact e⟩
theorem xT.map{w:World}{B:Nat}{k:Tk}{al:Nat->Bool}(h:xT w B k al):∃es clock,w.heap[k.m]? =some (.map es clock):=by
 obtain⟨f,h1,_⟩:=h;exact h1.isMap
theorem IN(hg:bj w)(h:Ab w k ps hs xs l aW){B:Nat}(hB:B<=w.heap.size)(g:xT w B k (jK ps hs (dK xs) l aW)){s:Nat}(o:s<128):
  cI Tryz.prog 211 #[.pointer (some k.p),.int .i64 (s:Int)] B w fun v w'=>v= .bool (jK ps hs (dK xs) l aW s)/\xT w' B k (jK ps hs (dK xs) l aW)/\Gr k.m w w':=by
 obtain⟨f,hm,hf⟩:=id g;have fin:∀(w':World)(x:Bool),Below w.heap.size w w'->x=jK ps hs (dK xs) l aW s->∃m1:Option Nat,aa w' (k.p.add 5) [.map m1]/\dZ Tryz.prog (Instr.mapUpdate 306 (.map m1) (.int .i64 (s:Int)) (.bool x)) B [] w' fun d=>Value.bool x= .bool (jK ps hs (dK xs) l aW s)/\xT d B k (jK ps hs (dK xs) l aW)/\Gr k.m w d:=by
  intro w' x hw hx;refine⟨_,(h.t.au hw).cell 5 rfl,Gf (hm.below hw) mpB om om x lf (dp hB hw.size) fun d m17 _ g17=>⟨by rw[hx],⟨_,m17,fun z y hz=> ?_⟩,(Gr.low hw).trans (Gr.grown g17)⟩⟩;unfold Cn at hz;split at hz
  ·rename_i e;have:z=s:=om;subst this;cases hz;exact hx
  ·exact hf z y hz
 refine F.jk.u7 hB ⟨_,h.t.cell 5 rfl,Ge hm mpB om om ⟨fun i=> ?_,fun i=> ?_⟩⟩
 ·refine pm (NM hg h o) ?_;intro v q b a;cases e:ql ps hs l aW s with
  |none=>
   have a:=a.1 e;subst a;refine⟨_,_,_,_,rfl,fun k=>(by cases k),fun _=>fin q false b ?_⟩;unfold jK;rw[e]
  |some m=>
   obtain⟨A,n,c,a,ho⟩:=a.2 m e;subst a;have j:=ho.len;rw[ec]at j;have r:=NL e;refine⟨_,_,_,_,rfl,fun _=>⟨_,_,_,_,_,_,_,_,_,(h.t.au b).part 0 3,?_⟩,fun k=>by cases k⟩;refine pm (wO (hg.next b) (h.p.au b) ho.sl j ho.jY om) ?_;rintro v C D rfl;refine⟨_,rfl,fin C _ (kP b D) ?_⟩;unfold jK;rw[e]
 ·obtain⟨x,hx⟩:=IG.1 (sG _|>.mp i);rw[hx];exact⟨by rw[<-hf s x hx];rfl,g,Gr.refl _ _⟩
end

theorem IP{α:Type}{p:α->Bool}{l:List α}{j:Nat}(hj:j<l.length)(h:(l.take j).any p=false)(h1:p l[j]=false):(l.take (j+1)).any p=false:=by
 rw[ft,af hj,List.any_append,h];simp[h1]
theorem RJ{α:Type}{p:α->Bool}{l:List α}{j:Nat}(hj:j<l.length)(h1:p l[j]=true):l.any p=true:=oZ.2 ⟨_,bw hj,h1⟩
section
variable {w:World} {A0 A1 A2 A A3:Option Addr} {n0 c0 n1 c1 n2 c2 n c n3 c3:Nat} {ps:List Pa} {hs:List Ho} {xs:List Rm} {l aW:List Sw}
def BeR(w0:World)(ps:List Pa)(hs:List Ho)(xs:List Rm)(l aW:List Sw)(v:Value)(w':World):Prop:=
 (mi ps hs (dK xs) l aW≠0->v= .tuple #[.pointer none,.int .i64 (mi ps hs (dK xs) l aW)])/\
 (mi ps hs (dK xs) l aW=0->∃k:Tk,v= .tuple #[.pointer (some k.p),.int .i64 0]/\Ab w' k ps hs xs l aW/\xT w' w0.heap.size k (jK ps hs (dK xs) l aW))
theorem NN(hg:bj w)(hp:oN w A0 n0 A1 n1 A2 n2 c2 ps hs xs)(h:bR w A 3 (l.map Sw.row))(hl:l.length=n)(mv:n<=c)(hn:n<=40)(E:bR w A3 3 (aW.map Sw.row))(G:aW.length=n3){b m:Nat}(hb:w.heap.size<=b)
  (H:(oz ps hs (dK xs)).2=0) (y:kQ ps hs (dK xs) l=true) (h6:n3<=6) (I:(aW.any fun w=>decide (mJ ps hs w=none))=false):
  ∀(d j:Nat)(w':World),n3 - j=d->j<=n3->Below w.heap.size w w'->Jz w' ⟨b,m,A0,n0,c0,A1,n1,c1,A2,n2,c2,A3,n3,c3,none,0,0⟩->tC w' w.heap.size 3 4 m (fun _=>none)->((aW.take j).any fun w=>decide (w.aV=0∨w.aV< -9∨9<w.aV))=false->
   F.bC.Zr A n c ⟨b,0,none⟩ A3 n3 c3 n3 j A0 n0 c0 A1 n1 c1 A2 n2 c2 w.heap.size w' (BeR w ps hs xs l aW):=by
 obtain⟨_,M,hr⟩:=zE y;intro d;induction d with
 |zero=>
  intro j w' O hj hw q hm ha;rw[de om]at ha;have J:mi ps hs (dK xs) l aW=0:=by
   unfold mi;rw[aq (fun k=>k H),aq (by rw[y];decide),aq om,aq (by rw[I];decide),aq (by rw[ha];decide)]
  refine F.bC.Zr.step ⟨fun h=>by omega,fun _=> ?_⟩;refine pm (cX (hg.next hw) (hp.au hw).c (h.au hw lf) hl mv om) ?_;intro v P z Q;obtain⟨A',N,rfl,ho,R⟩:=Q.2 M;have S:=kP hw z;have i:=q.au z;have o:=hm.below z;have e:(⟨b,0,none⟩:Addr).add 4=⟨b,4,none⟩:=by rw[bT]
  have T:b<w'.heap.size:=(ax.1 q).1;refine⟨_,_,_,_,rfl,Tk.cs ⟨b,m,A0,n0,c0,A1,n1,c1,A2,n2,c2,A3,n3,c3,none,0,0⟩,308,?_⟩;rw[e];refine⟨hb,rfl,i,sm,rfl,fun U r=> ?_⟩;have K:Below w.heap.size w U:=S.trans (aL.dQ r hb);have B:m≠b:=by
   obtain⟨es,cl,V⟩:=o.isMap;intro k;subst k;have:=i;unfold Jz at this;simp only at this;rw[V]at this;cases this
  refine⟨fun k=>absurd J k,fun _=>⟨⟨b,m,A0,n0,c0,A1,n1,c1,A2,n2,c2,A3,n3,c3,A',N,N⟩,rfl,⟨?_,hp.au K,E.au K lf,G,?_,UL J,R⟩,_,o.same (r.rest m B),fun s x k=>by cases k⟩⟩
  ·exact r.at_
  ·refine(ho.other fun a ha=>r.rest _ fun k=> ?_).sl;have:=(ho.uJ a ha).1;have k:a.block=b:=k;omega
 |succ d ih=>
  intro j w' O hj hw q hm ha;have C:j<aW.length:=om;have W:=sc j;obtain⟨X,Y,Z,g,_⟩:=(E.au hw lf).at_ (fun _=>rfl) G C;have bad:(aW[j].aV=0∨aW[j].aV< -9∨9<aW[j].aV)->∀w1,BeR w ps hs xs l aW (.tuple #[.pointer none,.int .i64 2]) w1:=by
   intro k w1;have L:mi ps hs (dK xs) l aW=2:=by
    unfold mi;rw[aq (fun k=>k H),aq (by rw[y];decide),aq om,aq (by rw[I];decide),bb (RJ C (gu k))]
   exact⟨fun _=>by rw[L],fun k=>by rw[L]at k;cases k⟩
  refine F.bC.Zr.step ⟨fun _=>⟨X,Y,Z,_,_,_,g,fun k w1 _=>bad (.inl k) w1,fun k1=>⟨fun k w1 _=>bad (.inr (.inl k)) w1,fun k2=>⟨fun k w1 _=>bad (.inr (.inr k)) w1,fun k3=>⟨ir,fun WJ D=> ?_⟩⟩⟩⟩,fun h=>by omega⟩;rw[W];exact ih (j+1) WJ om om (kE hw D) (ext_nil D q) (hm.ext D) (IP C ha (en om))
theorem NO(hg:bj w)(hp:oN w A0 n0 A1 n1 A2 n2 c2 ps hs xs)(h:bR w A 3 (l.map Sw.row))(hl:l.length=n)(mv:n<=c)(hn:n<=40)(G:bR w A3 3 (aW.map Sw.row))(H:aW.length=n3):
  Pure Tryz.prog 209 #[.agg #[.slice A0 n0 c0,.slice A1 n1 c1,.slice A2 n2 c2],.slice A n c,.slice A3 n3 c3] w (BeR w ps hs xs l aW):=by
 have out:∀(e:Int)(w':World),mi ps hs (dK xs) l aW=e->e≠0->BeR w ps hs xs l aW (.tuple #[.pointer none,.int .i64 e]) w':=fun e w' h1 a=>⟨fun _=>by rw[h1],fun k=>absurd (h1.symm.trans k) a⟩
 refine F.bC.vc fun w1 M=> ?_
 have hw:=k0 M;refine pm (wM (hg.next hw) (hp.au hw)) ?_;rintro v Y N rfl;have hw:=kP hw N;refine⟨_,_,rfl,fun h1=>out 1 _ (by unfold mi;rw[bb h1]) dc,fun h1=> ?_⟩;refine pm (wO (hg.next hw) (hp.au hw) (h.au hw lf) hl mv hn) ?_;rintro v r b8 rfl;have hw:=kP hw b8;refine⟨_,rfl,fun a=>out 11 _ (by unfold mi;rw[aq h1,bb a]) dc,fun a=>⟨fun O=>out 8 _ (by unfold mi;rw[aq h1,aq a,bb om]) dc,fun O=> ?_⟩⟩;have P:=sG _|>.mp a
 have x:=dT.1 h1;refine Dl (tk:=3) (te:=4) hw.size fun y m11 z=> ?_
 have B:=kP hw z;refine oS _ _ B.size fun Q C I _=> ?_
 have R:=kP B I;have key:∀(d j:Nat)(w':World),n3 - j=d->j<=n3->Below w.heap.size w w'->Jz w' ⟨y.heap.size,r.heap.size,A0,n0,c0,A1,n1,c1,A2,n2,c2,A3,n3,c3,none,0,0⟩->tC w' w.heap.size 3 4 r.heap.size (fun _=>none)->((aW.take j).any fun w=>decide (mJ ps hs w=none))=false->
   F.bC.Zq A n c A3 n3 c3 ⟨y.heap.size,0,none⟩ A3 n3 c3 n3 j A0 n0 c0 A1 n1 c1 A2 n2 c2 w.heap.size w' (BeR w ps hs xs l aW):=by
  intro d;induction d with
  |zero=>
   intro j w' S hj hw g hm ha;rw[de om]at ha;exact F.bC.Zq.step ⟨fun h=>by omega,fun _=>NN hg hp h hl mv hn G H B.size x P om ha n3 0 w' rfl om hw g hm rfl⟩
  |succ d ih=>
   intro j w' S hj hw g hm ha;have D:j<aW.length:=om;have T:=sc j;obtain⟨U,V,W,b,_⟩:=(G.au hw lf).at_ (fun _=>rfl) H D;have bad:mJ ps hs aW[j]=none->∀w1,BeR w ps hs xs l aW (.tuple #[.pointer none,.int .i64 7]) w1:=by
    intro k w1;exact out 7 _ (by unfold mi;rw[aq h1,aq a,aq om,bb (RJ D (gu k))]) dc
   refine F.bC.Zq.step ⟨fun _=>⟨U,V,W,_,_,_,b,fun Z m=> ?_⟩,fun h=>by omega⟩;have J:=kE hw m;refine pm (En (k:=⟨y.heap.size,r.heap.size,A0,n0,c0,A1,n1,c1,A2,n2,c2,A3,n3,c3,none,0,0⟩) (ext_nil m g) (hp.au J).c aW[j]) ?_;rintro v X E rfl;refine⟨_,_,rfl,fun o=>bad (by unfold mJ;rw[oM.1 o]) _,fun o=>⟨fun q=>bad ?_ _,fun q=>⟨ir,?_⟩⟩⟩
   ·unfold mJ;rw[oM.1 q];cases qN ps aW[j].av<;>rfl
   ·rw[T];refine ih (j+1) X om om (kP J E) (Jz.au (ext_nil m g) E) ((hm.ext m).below E) (IP D ha (en fun k=> ?_));unfold mJ at k;cases K:qN ps aW[j].av with
    |none=>rw[K]at o;exact o (by simp[uU])
    |some i=>
     cases L:vK hs aW[j].hold with
     |none=>rw[L]at q;exact q (by simp[uU])
     |some i'=>rw[K,L]at k;cases k
 exact key n3 0 Q rfl om R C ((m11.below I).le hw.size) rfl

end

theorem NP{w0:World}{A:Option Addr}{n c:Nat}{l:List Int}(hl:bR w0 A 1 (l.map fG))(hlen:l.length=n)(hn:n<2147483648)(z:Int){R:Value->World->Prop}{r:Int}(e:∀w,R (.int .i64 r) w):
  ∀(d i:Nat)(w:World),n - i=d->i<=n->Below w0.heap.size w0 w->r=fF (fun x=>decide (x=z)) i (l.drop i)->F.bL.L2 A n c z n i w0.heap.size w R:=by
 intro d;induction d with
 |zero=>
  intro i w j hi hw a;rw[cd om]at a;subst a;exact F.bL.L2.step ⟨fun h=>by omega,fun _=>e w⟩
 |succ d ih=>
  intro i w j hi hw a;have g:i<l.length:=om;rw[cz g,fF]at a;obtain⟨hb,m,q,b,_⟩:=(hl.au hw lf).at_ (fun _=>rfl) hlen g;refine F.bL.L2.step ⟨fun _=>⟨hb,m,q,_,b,fun h=> ?_,fun h=>⟨ir,?_⟩⟩,fun h=>by omega⟩
  ·rw[bb (gu h.symm)]at a;subst a;exact e w
  ·rw[aq (by simpa using fun k=>h k.symm)]at a;have y:=sc i;rw[y];exact ih (i+1) w om om hw a
theorem Zv{w0:World}{A:Option Addr}{n c:Nat}{l:List Int}(hl:bR w0 A 1 (l.map fG))(hlen:l.length=n)(hn:n<2147483648)(z:Int):
  Pure Tryz.prog 210 #[.slice A n c,.int .i64 z] w0 fun v _=>v= .bool (decide (z∈l)):=by
 refine F.iq.vc (pm (F.bL.vc (NP hl hlen hn z (R:=fun v _=>v= .int .i64 (fF (fun x=>decide (x=z)) 0 l)) (fun _=>rfl) n 0 w0 rfl om (Below.refl _ _) rfl)) ?_);rintro v a _ rfl;refine⟨_,rfl,?_⟩;dsimp only;rw[sB];refine bx Value.bool ?_;rw[ve,oZ,hJ];simp

structure JA (w0 wb:World) (k:Tk) (ps:List Pa) (hs:List Ho) (xs:List Rm) (l aW:List Sw) (w:World):Prop where
 b:Below w0.heap.size w0 w
 lo:w0.heap.size<=wb.heap.size
 tb:Ab wb k ps hs xs l aW
 c:Cl wb w
 kn:xT w w0.heap.size k (jK ps hs (dK xs) l aW)
 m:k.m<wb.heap.size
section
variable {w0 wb w:World} {A0 A1 A2 A A3 A5:Option Addr} {n0 c0 n1 c1 n2 c2 n c n3 c3 n5 c5:Nat} {ps:List Pa} {hs:List Ho} {xs:List Rm} {l aW:List Sw} {k:Tk} {o:List Int}
theorem JA.t(h:JA w0 wb k ps hs xs l aW w):Ab w k ps hs xs l aW:=h.tb.cl h.c
theorem JA.hi{w w':World}(h:JA w0 wb k ps hs xs l aW w)(hb:Below wb.heap.size w w'):JA w0 wb k ps hs xs l aW w':=by
 obtain⟨f,f1,f2⟩:=h.kn;refine⟨h.b.trans (hb.mono h.lo),h.lo,h.tb,⟨dp h.c.size hb.size,fun i cs ty fr e=> ?_⟩,⟨f,f1.same (hb.block _ h.m),f2⟩,h.m⟩;rw[hb.block i (ax.1 e).1];exact h.c.cells i cs ty fr e
theorem JA.au{w w':World}(h:JA w0 wb k ps hs xs l aW w)(hb:Below w.heap.size w w'):JA w0 wb k ps hs xs l aW w':=h.hi (hb.mono h.c.size)
theorem JA.new(hb:Below w0.heap.size w0 wb)(b:Ab wb k ps hs xs l aW)(a:xT wb w0.heap.size k (jK ps hs (dK xs) l aW)):JA w0 wb k ps hs xs l aW wb:=
 ⟨hb,hb.size,b,Cl.refl _,a,by obtain⟨f,f1,_⟩:=a;exact f1.lt⟩
theorem JA.allowed(hg:bj w0)(h:JA w0 wb k ps hs xs l aW w){s:Nat}(d:s<128){R:Value->World->Prop}(e:∀w',JA w0 wb k ps hs xs l aW w'->Gr k.m w w'->Cl w w'->R (.bool (jK ps hs (dK xs) l aW s)) w'):
  cI Tryz.prog 211 #[.pointer (some k.p),.int .i64 (s:Int)] w0.heap.size w R:=by
 refine cI.mono (IN (hg.next h.b) h.t h.b.size h.kn d) ?_;rintro v w' g ⟨rfl,kn,bt⟩;have a:=bt.cl h.kn.map;exact e w' ⟨h.b.trans g,h.lo,h.tb,h.c.trans a,kn,h.m⟩ bt a
theorem NQ(hg:bj w)(hp:oN w A0 n0 A1 n1 A2 n2 c2 ps hs xs)(h:bR w A 3 (l.map Sw.row))(hl:l.length=n)(mv:n<=c)(hn:n<=40)(N:bR w A3 3 (aW.map Sw.row))(O:aW.length=n3)(ho:bR w A5 1 (o.map fG))(K:o.length=n5)(P:n5<2147483648):
  Pure Tryz.prog 172 #[.agg #[.slice A0 n0 c0,.slice A1 n1 c1,.slice A2 n2 c2],.slice A n c,.slice A3 n3 c3,.slice A5 n5 c5] w fun v _=>v= .tuple #[.int .i64 (pX ps hs (dK xs) l aW o).1,.int .i64 (pX ps hs (dK xs) l aW o).2]:=by
 refine F.bB.vc fun w1 Q=> ?_
 have hw:=k0 Q;refine pm (NO (hg.next hw) (hp.au hw) (h.au hw lf) hl mv hn (N.au hw lf) O) ?_;intro v y R r;have S:=kP hw R;unfold pX;by_cases z:mi ps hs (dK xs) l aW≠0
 ·rw[bb z];have r:=r.1 z;subst r;exact⟨_,_,rfl,fun _=>rfl,fun k=>absurd z k⟩
 rw[aq z];obtain⟨k,r,L,C⟩:=r.2 (dT.1 z);subst r;have T:=L.ok.n;have run:JA w y k ps hs xs l aW y:= .new S L (C.le hw.size);unfold Ra;refine⟨_,_,rfl,fun q=>absurd rfl q,fun _=>⟨fun h1=> ?_,fun h1=> ?_⟩⟩
 ·rw[bb (fun q=>by have:=q.1;omega)]
 have h1:n5=n3:=om;have walk:(o.length=aW.length/\∀i∈List.range aW.length,((i:Nat):Int)∈o)->∀(d j s:Nat)(w':World),n5 - j=d->j<=n5->s<2^6->JA w y k ps hs xs l aW w'->
   F.bB.tB (some k.p) s A5 n5 c5 n5 j w.heap.size w' fun v _=>v= .tuple #[.int .i64 (Ck (jK ps hs (dK xs) l aW) s j (o.drop j)).1,.int .i64 (Ck (jK ps hs (dK xs) l aW) s j (o.drop j)).2]:=by
  intro B d;induction d with
  |zero=>
   intro j s w' D hj M g;rw[cd om];exact F.bB.tB.step ⟨fun h=>by omega,fun _=>rfl⟩
  |succ d ih=>
   intro j s w' D hj M g;have E:j<o.length:=om;have G:=sc j;obtain⟨x,hx⟩:∃x:Nat,o[j]=(x:Int)/\x<aW.length:=by
    have:=(KX B).mem_iff.1 (bw E);obtain⟨x,hx,e⟩:=hM.1 this;exact⟨x,e.symm,B2.1 hx⟩
   obtain⟨U,V,W,a,_⟩:=(ho.au g.b lf).at_ (fun _=>rfl) K E;rw[cz E,Ck,hx.1,ca];rw[hx.1]at a;have H:=Mn (i:=x) M om;refine F.bB.tB.step ⟨fun _=>⟨U,V,W,_,a,WH om,?_⟩,fun h=>by omega⟩;rw[U1 _ om,Zp _ om _ om];refine g.allowed hg om fun X I _ _=>⟨fun _ _ _ h=>(by cases h),_,rfl,fun m=> ?_,fun m=>⟨ir,?_⟩⟩
   ·rw[aq (by rw[m];decide)]
   ·rw[bb (sG _|>.mp m),G];exact ih (j+1) (KW s x) X om om H I
 have key:∀(d j:Nat)(w':World),n3 - j=d->j<=n3->JA w y k ps hs xs l aW w'->(∀i∈List.range j,((i:Nat):Int)∈o)->
   F.bB.L7 A5 n5 c5 (some k.p) n3 j w.heap.size w' fun v _=>v= .tuple #[.int .i64 (if ¬(o.length=aW.length/\∀i∈List.range aW.length,((i:Nat):Int)∈o)then((-1,10):Int×Int)else Ck (jK ps hs (dK xs) l aW) 0 0 o).1,.int .i64 (if ¬(o.length=aW.length/\∀i∈List.range aW.length,((i:Nat):Int)∈o)then((-1,10):Int×Int)else Ck (jK ps hs (dK xs) l aW) 0 0 o).2]:=by
  intro d;induction d with
  |zero=>
   intro j w' D hj g J;have B:o.length=aW.length/\∀i∈List.range aW.length,((i:Nat):Int)∈o:=⟨om,by rw[show aW.length=j by omega];exact J⟩
   rw[aq (fun q=>q B)];refine F.bB.L7.step ⟨fun h=>by omega,fun _=> ?_⟩;exact walk B n5 0 0 w' rfl om dc g
  |succ d ih=>
   intro j w' D hj g J;have G:=sc j;refine F.bB.L7.step ⟨fun _=> ?_,fun h=>by omega⟩;refine pm (Zv (ho.au g.b lf) K P j) ?_;rintro v Y b8 rfl;refine⟨_,rfl,fun m=> ?_,fun m=>⟨ir,?_⟩⟩
   ·rw[bb (fun q=>iv m (q.2 j (B2.2 om)))]
   ·rw[G];refine ih (j+1) Y om om (g.au b8) fun i hi=> ?_
    rw[B6]at hi;rcases fi.1 hi with hi|hi
    ·exact J i hi
    ·rw[eb.1 hi];exact eR (sG _|>.mp m)
 exact key n3 0 y rfl om run sm
end

theorem Zw{w:World}{A:Option Addr}{n c:Nat}{rows:List (List Value)}(h:bR w A 4 rows)(hlen:rows.length=n)(g:∀r∈rows,r.length=4)(h1:∀r∈rows,∀u∈r,bl u=true)(hn:n<=1000000):
  Pure Tryz.prog 33 #[.slice A n c] w fun v w'=>∃A' c',v= .slice A' n c'/\aE w' w.heap.size 94 A' n c' 4 rows:=by
 refine F.du.vc ⟨fun b=> ?_,fun b=> ?_⟩
 ·subst b;have:=h.rf;subst this;simp at hlen;subst hlen;exact⟨none,0,rfl,aE.nil⟩
 ·obtain⟨a,rfl⟩:=B4.1 b;refine bc QW [] sm sm lf fun A2 c2 i ho d=> ?_
  refine ua QW lf (by simpa using ho) (h.below d) hlen g h1 d.size (by simp;omega) sm fun A' c' j e _ k=> ?_
  simp only[wu,jx,Mu,tu]at e⊢;exact⟨A',c',rfl,e⟩
theorem RN{v:List Va}:∀r∈v.map Va.row,r.length=4:=by
 intro r a;obtain⟨x,_,rfl⟩:=hM.1 a;rfl
theorem NR{v:List Va}:∀r∈v.map Va.row,∀u∈r,bl u=true:=by
 intro r a u hu;obtain⟨x,_,rfl⟩:=hM.1 a;simp only[Va.row,cc,fs,u1]at hu;rcases hu with rfl|rfl|rfl|rfl<;>rfl

theorem Ll{p:Option Ch}{c:Ch}(h:fx p c=0):fx none c=0:=by
 unfold fx at*;split at h
 ·exact absurd h om
 ·rename_i h1;rw[aq h1];split at h
  ·exact absurd h om
  ·rename_i a;rw[aq a];split at h
   ·exact absurd h om
   ·rename_i b;rw[aq b,aq];rintro⟨q,d,_⟩;cases d

def oH(l:List Ch)(v:List Va)(chan tick:Int)(raw:ByteArray):Except Int (List Va):=
 if(iP l).2=0/\rn l v=true/\vR raw=true then
  match F4 (fun c=>decide (c.id=chan)) 0 l with
  | .negSucc _=> .error 7
  | .ofNat i=>
   if 0<=tick/\tick<=1073741824 then
    match l[i]?,v[i]? with
    |some c,some u=>if tick<u.tick then .error 5 else .ok (v.set i ⟨chan,tick,vO c u (gy c raw) tick,rS (gy c raw)⟩)
    |_,_=> .error 0
   else .error 2
 else .error 1

theorem U5{w:World}{c:Ch}{p:Nat}{chan tick:Int}{raw:ByteArray}(h:w.heap[p]? =some (.cells [.int .i64 chan,.int .i64 tick,.string raw].toArray 243 (0,0))):
  Pure Tryz.prog 215 #[c.val,.pointer (some ⟨p,0,none⟩)] w fun v _=>v= .bool (decide (c.id=chan)):=
 F.pz.vc fun w1 a=>⟨_,aZ (ext_nil a h) rfl,rfl⟩

def WK(r:Except Int (List Va))(n:Nat)(B:Nat)(y:Value)(w:World):Prop:=match r with
 | .error e=>y= .tuple #[.slice none 0 0,.int .i64 e]
 | .ok v=>∃A c,y= .tuple #[.slice A n c,.int .i64 0]/\aE w B 94 A n c 4 (v.map Va.row)

theorem nM{w:World}(hg:bj w){A A1:Option Addr}{n n1 c c1:Nat}{l:List Ch}{v:List Va}{chan tick:Int}{raw:ByteArray}(hl:bR w A 7 (l.map Ch.row))(hlen:l.length=n)(K:bR w A1 4 (v.map Va.row))(L:v.length=n1)(hn:n<2147483648)
  (z:∀x∈l,Jr x) (lH:∀x∈v,YY x) (hr:ma raw):
  Pure Tryz.prog 173 #[.slice A n c,.slice A1 n1 c1,.agg #[.int .i64 chan,.int .i64 tick,.string raw]] w (WK (oH l v chan tick raw) n1 w.heap.size):=by
 refine F.nM.vc fun w1 x1=> ?_
 have d:=k0 x1;refine pm (jT (hg.next d) (hl.au d lf) hlen z) ?_;rintro y w2 b2 rfl;have b:=kP d b2;refine⟨_,rfl,fun h=> ?_,fun h=> ?_⟩
 ·have q:¬(iP l).2=0:=iv h;unfold oH;rw[aq (fun k=>q k.1)];rfl
 have N:(iP l).2=0:=by
  apply bm;intro k;exact h (en k)
 refine pm (dr (hg.next b) (hl.au b lf) hlen (K.au b lf) L hn lH) ?_;rintro y w3 b3 rfl;have B:=kP b b3;refine⟨_,rfl,fun h=> ?_,fun h=> ?_⟩
 ·unfold oH;rw[aq (fun k=>by rw[k.2.1]at h;cases h)];rfl
 have O:rn l v=true:=by simpa using h
 refine pm (dW (hg.next B) raw om) ?_;rintro y w4 b4 rfl;have C:=kP B b4;refine⟨_,rfl,fun h=> ?_,fun h p hp jy=> ?_⟩
 ·have q:vR raw=false:=h;unfold oH;rw[aq (fun k=>by rw[k.2.2]at q;cases q)];rfl
 have M:vR raw=true:=by simpa[vR]using h
 refine pm (KN (hl.au C lf) hlen hn (p:=fun c=>decide (c.id=chan)) kF fun w' SN x=> ?_) ?_
 ·exact U5 (ag jy SN)
 rintro y w5 b5 rfl;have CL:=kP C b5;have NC:=ag jy b5;obtain⟨GN,P⟩:=Iv O;rcases Eg (fun c=>decide (c.id=chan)) l 0 with⟨hi,_⟩|⟨i,x,hi,hx,hpx,_⟩
 ·rw[hi];refine⟨_,rfl,fun _=> ?_,fun h=>absurd om h⟩;have e:oH l v chan tick raw= .error 7:=by
   unfold oH;rw[bb ⟨N,O,M⟩,hi];rfl
  rw[e];rfl
 rw[jx]at hi;have cB:i<l.length:=(eh.1 hx).1;have Q:i<v.length:=om;obtain⟨u,hu⟩:∃u,v[i]? =some u:=⟨v[i],by simp[Q]⟩
 have fu:=P i x u hx hu;obtain⟨aor,RO⟩:=uj N;obtain⟨⟨v1,v2,v3,v4,v5⟩,_,_⟩:=uk (RO i x hx);have g:Jr x:=z x (ga hx);have smu:YY u:=lH u (ga hu);have D:(0<=u.tick/\u.tick<=1073741824)/\vR u.num=true:=by
  unfold xM at fu;simp only[cy,hJ]at fu;exact⟨fu.1.1.2,fu.1.2⟩
 have hT:oH l v chan tick raw=if 0<=tick/\tick<=1073741824 then(if tick<u.tick then .error 5 else .ok (v.set i ⟨chan,tick,vO x u (gy x raw) tick,rS (gy x raw)⟩))else .error 2:=by
  have Hj:F4 (fun c=>decide (c.id=chan)) 0 l=Int.ofNat i:=hi;unfold oH;rw[bb ⟨N,O,M⟩,Hj];simp only[hx,hu]
 rw[hi,hT];refine⟨_,rfl,fun h=>absurd h om,fun _=>⟨_,aZ NC rfl,pm (lC _ _) ?_⟩⟩;rintro y w6 b6 rfl;have Yw:=kP CL b6;have E:=ag NC b6;refine⟨_,rfl,fun h=> ?_,fun h=> ?_⟩
 ·have q:¬(0<=tick/\tick<=1073741824):=iv h;rw[aq q];rfl
 have k4:0<=tick/\tick<=1073741824:=by
  apply bm;intro k;exact h (en k)
 rw[bb k4];have r:((i:Int)).toNat=i:=ca i;obtain⟨q1,a,hA,gT⟩:=(K.au Yw lf).load (n:=n1) (by simpa using L) (j:=(i:Int)) om om;obtain⟨_,m⟩:=gT u.row (by rw[r];simp[hu]) rfl;refine⟨_,aZ E rfl,q1,a,hA,_,m 1 _ rfl,fun h w7 _=> ?_,fun h w7 x7=> ?_⟩
 ·rw[bb h];rfl
 rw[aq h];have G:=kE Yw x7;have H:=ext_nil x7 E;obtain⟨q2,a2,qO,QX⟩:=(hl.au G lf).load (n:=n) (by simpa using hlen) (j:=(i:Int)) om om;obtain⟨sF,_⟩:=QX x.row (by rw[r];simp[hx]) rfl;refine⟨q2,a2,qO,_,_,_,_,_,_,_,sF,_,aZ H rfl,fun w8 x8=> ?_⟩;have I:=kE G x8;have R:=ext_nil x8 H;refine pm (ku (hg.next I) g hr) ?_;rintro y w9 b9 rfl;have o:=kP I b9;have S:=ag R b9;refine⟨_,_,rfl,pm (Zw (K.au o lf) (by simpa using L) RN NR om) ?_⟩;rintro y jS yE ⟨A3,c3,rfl,o3⟩;have T:=kP o yE;have U:=ag S yE;obtain⟨q3,a3,Uo,V⟩:=(hl.au T lf).load (n:=n) (by simpa using hlen) (j:=(i:Int)) om om;obtain⟨Zy,_⟩:=V x.row (by rw[r];simp[hx]) rfl;obtain⟨q4,a4,Up,W⟩:=(K.au T lf).load (n:=n1) (by simpa using L) (j:=(i:Int)) om om;obtain⟨B7,_⟩:=W u.row (by rw[r];simp[hu]) rfl;refine⟨_,_,_,rfl,_,aZ U rfl,_,aZ U rfl,q3,a3,Uo,_,_,_,_,_,_,_,Zy,q4,a4,Up,_,_,_,_,B7,_,aZ U rfl,fun wC GU=> ?_⟩;have M3:=kE T GU;have X:(iP [x]).2=0:=by
  have h0:=Ll (RO i x hx);unfold iP;rw[aq sm,WC,aq (fun k=>k h0)];rfl
 have Y:(sH x raw).1=rS (gy x raw):=by unfold sH;rw[bb ⟨X,M⟩]
 rw[Y];have sx:Sm 10000 (gy x raw):=(KL g v1 v2 hr M).mono om;refine pm (cK (hg.next M3) g ⟨v3,v4,v5⟩ smu D.2 D.1 sx k4) ?_;rintro y DK Mt rfl;have o4:=(o3.kL GU).below Mt;obtain⟨q5,a5,Z,cs,d1,d2,d3,d4,d5⟩:=o4.Nc (i:=(i:Int)) om om [.int .i64 chan,.int .i64 tick,.int .i64 (vO x u (gy x raw) tick),.string (rS (gy x raw))] u.row (by rw[r];simp[hu]) rfl;have J:w.heap.size<=w9.heap.size:=o.size;refine⟨_,rfl,q5,a5,Z,cs,_,dp J d1,d2,d3,d4,rfl,fun xv rA=> ?_⟩;refine⟨A3,c3,rfl,?_⟩;have o5:=d5 xv rA;rw[r]at o5;have adi:(List.map Va.row (v.set i ⟨chan,tick,vO x u (gy x raw) tick,rS (gy x raw)⟩))=(List.map Va.row v).set i [.int .i64 chan,.int .i64 tick,.int .i64 (vO x u (gy x raw) tick),.string (rS (gy x raw))]:=by
  rw[Cv]
 rw[adi];exact o5.base J
end Go.Proofs.YtbcojgcjjpggnaaGreatDoor.B
