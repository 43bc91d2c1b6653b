/- Part 3 of the proofs that: SequenceStates, SequenceOrders and SequenceChecks hold for every input: the program's functions return what the reference functions return -/
import Derived.Test.YtgfkeadgjkfomaaGreatDoorS2
import Derived.Laws.MakeOwn
import Derived.RangeFuncNested
import Derived.RangeFuncBound
import Derived.RangeFuncCalls
import Derived.RangeFuncLeaves
import Derived.Shelf.Abstract
import Derived.Shelf.RegionOpen
import Derived.WalkKit
import Derived.OwnWalkIn
import Derived.TacticsInMore
import Derived.LoopNIn
import Derived.LoopIn
import Derived.Shelf.Strings.Builder1
import Derived.Shelf.Strings.Builder2
import Derived.Shelf.Small.Wraps
import Derived.Shelf.Strings.BuilderF
import Derived.Shelf.Strings.BuilderK
import Derived.Shelf.Strconv.Itoa0
import Derived.Shelf.Strconv.Itoa1
import Derived.Shelf.LaysM
import Derived.Shelf.Strconv.Itoa2
import Derived.Shelf.Strconv.Itoa3
import Derived.Shelf.Strconv.Itoa4
import Derived.Shelf.Strconv.ParseIntEmpty
import Derived.Shelf.Strconv.Clone
import Derived.Shelf.Strconv.SyntaxError
import Derived.Shelf.LaysC
import Derived.Shelf.Strconv.ToError
import Derived.Shelf.Strconv.Lower
import Derived.Shelf.Strconv.ParseUint10
import Derived.Shelf.Strconv.ParseUint10Empty
import Derived.Shelf.Strconv.ParseUint10Any
import Derived.Shelf.Strconv.ParseInt10
import Derived.Shelf.Strconv.RangeError
import Derived.Shelf.Strconv.ToErrorRange
import Derived.Shelf.Strconv.ParseUintEmpty
import Derived.Shelf.Strconv.ParseUint10b64
import Derived.Shelf.Strconv.ParseUint10b32
import Derived.Shelf.Strconv.ParseUint10b16
import Derived.Shelf.Strconv.ParseUint10b8
import Derived.Shelf.Strconv.ParseUint10At
import Derived.Shelf.Strconv.ParseInt10At64
import Derived.Shelf.Strconv.ParseInt10At32
import Derived.Shelf.Strconv.ParseInt10At16
import Derived.Shelf.Strconv.ParseInt10At8
import Derived.Shelf.Strconv.ParseInt10All
import Derived.Shelf.Strconv.ParseIntPublic10
import Derived.Ground.MpProg
import Derived.Shelf.Pu.ParseUintPublic10
import Derived.Shelf.Strings.Search1
import Derived.Shelf.Strings.Search2
import Derived.Shelf.Strings.Cut
import Derived.Shelf.Strings.Shaped
import Derived.Shelf.Strings.Prefix
import Derived.Shelf.Bits.Mul64
import Derived.Shelf.Strings.Repeat
import Derived.Test.YtgfkeadgjkfomaaGreatDoorProg
set_option linter.unusedVariables false
set_option linter.unusedSimpArgs false
namespace Go.Proofs.YtgfkeadgjkfomaaGreatDoor.B
open Go Go.RowKit Go.Proofs Go.Proofs.YtgfkeadgjkfomaaGreatDoor.Vc

structure El (P:Program) (t e:TypeId) (size bytes:Nat):Prop where
 Ov:P.underlying t=some (.slice e)
 info:∃i z,P.info? e=some i/\i.zero=some z/\i.size=size/\i.bytes=bytes/\z.cells.size=size
 pos:0<size
 small:size<=1024

theorem py{v:Value}(h:dA v=true):v.oneCell'=true:=by cases v<;>first|rfl|(simp[dA]at h)

theorem LV(off:Nat):∀(v:List Value)(k:Nat)(cs:Array Value)(i:Nat),
  ((v.zipIdx k).foldl (fun cs (x:Value×Nat)=>cs.setIfInBounds (off+x.2) x.1) cs)[i]? =if off+k<=i/\i<off+k+v.length/\i<cs.size then v[i - off - k]? else cs[i]? :=by
 intro v;induction v with
 |nil=>intro k cs i;simp;intro h1 h2;omega
 |cons x r ih=>
  intro k cs i;rw[K9,LS,ih];simp only[Array.size_setIfInBounds,gw];by_cases h1:off+(k+1)<=i/\i<off+(k+1)+r.length/\i<cs.size
  ·rw[cc h1,cc ⟨om,om,h1.2.2⟩,show i - off - k=(i - off - (k+1))+1 by omega,List.getElem?_cons_succ]
  ·rw[ar h1,HV];by_cases h2:off+k=i
   ·rw[cc h2];by_cases h3:i<cs.size
    ·rw[cc om,cc ⟨om,om,h3⟩,show i - off - k=0 by omega];rfl
    ·rw[ar om,ar om,rm om]
   ·rw[ar h2,ar om]

theorem LW(size:Nat):∀(vs:List Value)(k:Nat)(pre rest:List Value),pre.length=k*size->rest.length=vs.length*size->(∀v∈vs,v.cells.size=size)->
  Instr.fill (fun i=>some (i*size,size)) (pre++rest).toArray ((vs.zipIdx k).map fun x=>(x.2,x.1))=some (pre++vs.flatMap fun v=>v.cells.toList).toArray:=by
 intro vs;induction vs with
 |nil=>
  intro k pre rest hp a _;have:rest=[]:=gz (by simpa using a);simp[Instr.fill,this]
 |cons v r ih=>
  intro k pre rest hp a hv;have h1:=hv v sm;have hl:v.cells.toList.length=size:=by simpa using h1
  have b:rest.length=r.length*size+size:=by rw[a,gw,mw,Ry]
  rw[K9,Dx,Instr.fill];simp only[h1,RS,I1,decide_false,vx,DY,fx];rw[ar (by simp;omega)];have e:(v.cells.zipIdx.foldl (fun cs x=>cs.setIfInBounds (k*size+x.2) x.1) (pre++rest).toArray)=((pre++v.cells.toList)++rest.drop size).toArray:=by
   rw[<-Array.foldl_toList,Array.toList_zipIdx];apply Md;apply AP;intro i;rw[Array.getElem?_toList,LV];simp only[ob,List.getElem?_toArray,DY,fx,hl,hp];by_cases h:k*size<=i/\i<k*size+size/\i<k*size+rest.length
   ·rw[cc h,oj (by simp;omega),mP om,hp];simp
   ·rw[ar h];by_cases h2:i<k*size
    ·rw[oj om,oj (by simp;omega),oj om]
    ·rw[mP om,mP (by simp;omega),xk]
     congr 1
     simp;omega
  rw[e,ih (k+1) (pre++v.cells.toList) (rest.drop size) (by simp[hp,h1,mw]) (by simp;omega) (fun y hy=>hv y (by simp[hy]))];simp[ow,qo]

theorem jk{P:Program}{t e size bytes:Nat}(el:El P t e size bytes)(vs:List Value)(hv:∀v∈vs,v.cells.size=size)(hn:vs.length<=1024)(w:World):
  (Instr.buildSlice t vs.length (vs.zipIdx.map fun x=>(x.2,x.1)).toArray).run P w= .ok (.slice (some ⟨w.heap.size,0,none⟩) vs.length vs.length) (w.alloc (.cells (vs.flatMap fun v=>v.cells.toList).toArray e)):=by
 obtain⟨i,z,h1,h2,h3,h4,g⟩:=el.info;have hs:=el.small;have hp:=el.pos;have hle:vs.length*size<=1024*1024:=lq hn hs;have b:(sizeOf e).run P w= .ok size w:=by simp[sizeOf,typeInfo,program,Sem.run_bind,Sem.run,h1,h3]
 have c:(zeroValue e).run P w= .ok z w:=by simp[zeroValue,typeInfo,program,Sem.run_bind,Sem.run,h1,h2]
 have a:∀c0:Array Value,c0.size=vs.length*size->Instr.fill (fun i=>some (i*size,size)) c0 (vs.zipIdx.map fun x=>(x.2,x.1))=some (vs.flatMap fun v=>v.cells.toList).toArray:=by
  intro c0 d;have:=LW size vs 0 [] c0.toList sm (by simpa using d) hv;simpa using this
 simp only[Instr.buildSlice,Sem.run_bind,run_underlying el.Ov,Result.andThen_ok,b];rw[ar om];by_cases h0:vs.length*size=0
 ·rw[cc h0];simp only[Sem.run_bind,Result.andThen_ok,Sem.run_pure];rw[a _ sm];simp[newRow,newObj,Sem.run]
 ·rw[ar h0];simp only[Sem.run_bind,c,Result.andThen_ok,Sem.run_pure];rw[a _ sm];simp[newRow,newObj,Sem.run]

theorem ownsRow_form{w:World}{B e size n:Nat}{v:Value}{xs:List Value}(h:w.ownsRow B e size v n xs):∃A c,v= .slice A n c/\n<=c:=by
 rcases h.2 with⟨rfl,rfl⟩|⟨g,cap,cur,rfl,_,_,a,_⟩
 ·exact⟨none,0,rfl,hM _⟩
 ·exact⟨_,cap,rfl,a⟩

theorem bS{w w':World}{B:Nat}{row:Option Nat}(h:w.grownBy w' row)(a:∀k,row=some k->B<=k)(hB:B<=w.heap.size):Below B w w':=
 ⟨h.os,h.tape,h.output,h.size,fun k b=>h.block k om fun e=>by have:=a k e.symm;omega⟩

theorem uV{w w':World}{B e size n:Nat}{v:Value}{xs:List Value}{fB:List Nat}(h:w.grownBy w' v.ownBlock)(a:w.ownsRow B e size v n xs)(i:e∉fB):
  ∀(k ty:Nat)(cs:Array Value),ty∈fB->w.heap[k]? =some (.cells cs ty (0,0))->w'.heap[k]? =w.heap[k]? :=by
 intro k ty cs b c;refine h.block k (bU.1 c).1 fun d=> ?_
 rcases a.2 with⟨rfl,_⟩|⟨g,cap,cur,rfl,_,j,_⟩
 ·simp[Value.ownBlock]at d
 ·simp[Value.ownBlock]at d;subst d;rw[j]at c;cases c;exact i b

theorem rh{P:Program}{t ty e size bytes:Nat}(el:El P t e size bytes){B0 B:Nat}(o:B0<=B){fB:List Nat}{w:World}{v:Value}{n:Nat}{xs:List Value}(b:w.ownsRow B e size v n xs)
  {a:Addr} {m c:Nat} {news:List Value} (hl:news.length=m*size) (q:∀j u,news[j]? =some u->w.cell? (a.add j)=some u) (h1:∀u∈news,dA u=true)
  (hB:B<=w.heap.size) (k9:(n+m)*(bytes+1)<=140737488355328) (x:e∉fB) {K:Option Addr->Nat->Nat->World->Prop}
  (h:∀A c g,g.ownsRow B e size (.slice A (n+m) c) (n+m) (xs++news)->w.grownBy g v.ownBlock->Below B0 w g->K A (n+m) c g):
  au P (Builtin.append_ #[t,t] ty #[v,.slice (some a) m c]) B0 fB w fun r g=>∃A n c,r= .slice A n c/\K A n c g:=by
 obtain⟨i,z,h2,h3,h4,y,C⟩:=el.info;have hle:n+m<=(n+m)*(bytes+1):=qn _ om;have hb:(n+m)*bytes<=(n+m)*(bytes+1):=gO _ om;obtain⟨F,w',D,ho,l,_⟩:=run_append_own (P:=P) w B t ty e i z size bytes el.Ov h2 h3 h4 y C el.pos v n xs b a m c news hl q (fun u hu=>py (h1 u hu)) (by simp only[maxLen];omega) om hB;have d:Below B0 w w':=bS l (fun k E=>ga o (b.lt k E).1) (ga o hB);obtain⟨A,c',rfl,_⟩:=ownsRow_form ho;exact⟨_,w',D,d,d.size,uV l b x,A,_,c',rfl,h A c' w' ho l d⟩

theorem uh{P:Program}{t ty e size bytes:Nat}(el:El P t e size bytes){B0 B:Nat}(o:B0<=B){fB:List Nat}{w:World}{v:Value}{n:Nat}{xs:List Value}(g:w.ownsRow B e size v n xs)
  {x:Value} (hx:x.cells.size=size) (h1:∀u∈x.cells.toList,dA u=true)
  (hB:B<=w.heap.size) (k9:(n+1)*(bytes+1)<=140737488355328) (y:e∉fB) {K:Option Addr->Nat->Nat->World->Prop}
  (h:∀A c d,d.ownsRow B e size (.slice A (n+1) c) (n+1) (xs++x.cells.toList)->w.grownBy d v.ownBlock->Below B0 w d->K A (n+1) c d):
  au P (Instr.buildSlice t 1 #[(0,x)]) B0 fB w fun r w1=>∃A m c,r= .slice A m c/\
   au P (Builtin.append_ #[t,t] ty #[v,.slice A m c]) B0 fB w1 fun r d=>∃A n c,r= .slice A n c/\K A n c d:=by
 have q:=jk el [x] (by simpa using hx) sm w;simp only[vi,K9,Rj,Dx,HD,ow,GD,ns]at q;have b:=World.grownBy_alloc w (.cells x.cells.toList.toArray e) none;have a:Below B0 w (w.alloc (.cells x.cells.toList.toArray e)):=bS b sm (ga o hB);refine⟨_,_,q,a,a.size,fun k ty cs _ i=>b.block k (bU.1 i).1 sm,_,_,_,rfl,?_⟩;refine rh el o (g.kept b (by cases v.ownBlock<;>simp)) (news:=x.cells.toList) (by simpa using hx) ?_ h1 (by have:=b.size;omega) k9 y ?_
 ·intro j u hu;rw[ib,oi];simp only[World.cell?];rw[heap_alloc_new];simpa using hu
 ·intro A c d h2 h3 h4;refine h A c d h2 ⟨h3.os.trans b.os,h3.tape.trans b.tape,h3.output.trans b.output,ga b.size h3.size,fun k i l=> ?_⟩ (a.trans h4);rw[h3.block k (by have:=b.size;omega) l];exact b.block k i sm

theorem Fi{P:Program}{t e size bytes:Nat}(el:El P t e size bytes){B:Nat}{fB:List Nat}{w:World}{g j:IntKind}{c:Int}(h0:0<=c)(l:c.toNat*(bytes+1)<=140737488355328)(hB:B<=w.heap.size){K:Option Addr->Nat->Nat->World->Prop}
  (h:∀A c b,b.ownsRow B e size (.slice A 0 c) 0 []->w.grownBy b none->Below B w b->K A 0 c b):
  au P (Instr.makeSlice t (.int g 0) (.int j c)) B fB w fun r b=>∃A n c,r= .slice A n c/\K A n c b:=by
 obtain⟨i,z,h2,h3,h4,m,x⟩:=el.info;obtain⟨c,rfl⟩:=pj h0;have y:c*(bytes+1)<=140737488355328:=by simpa only[dq]using l
 have hle:c<=c*(bytes+1):=qn _ om;have hb:c*bytes<=c*(bytes+1):=gO _ om;obtain⟨w',o,ho,d⟩:=run_make_own (P:=P) w B t e i z size el.Ov h2 h3 h4 g j c (by rw[m,ru];omega) (by simp only[maxLen];omega) hB;have a:Below B w w':=bS d sm hB;exact⟨_,w',o,a,a.size,fun k ty cs _ q=>d.block k (bU.1 q).1 sm,_,_,_,rfl,h _ _ w' ho d a⟩

theorem kH{P:Program}{t e bytes:Nat}(el:El P t e 1 bytes){B:Nat}{fB:List Nat}{w:World}{q x:IntKind}{c:Int}{z:Value}(g:(P.info? e).bind (·.zero)=some z)(y:dA z=true)(h0:0<=c)(C:c.toNat*(bytes+1)<=140737488355328)(hB:B<=w.heap.size)
  {K:Option Addr->Nat->Nat->World->Prop}
  (h:∀A (n:Nat) d,(n:Int)=c->d.ownsRow w.heap.size e 1 (.slice A n n) n (List.replicate n z)->w.grownBy d none->Below B w d->K A n n d):
  au P (Instr.makeSlice t (.int q c) (.int x c)) B fB w fun r d=>∃A n c,r= .slice A n c/\K A n c d:=by
 obtain⟨i,b,h2,h3,h4,D,H⟩:=el.info;obtain⟨c,rfl⟩:=pj h0;have E:b=z:=by rw[h2]at g;simp[h3]at g;exact g
 subst E;have I:c*(bytes+1)<=140737488355328:=by simpa only[dq]using C
 have hle:c<=c*(bytes+1):=qn _ om;have hb:c*bytes<=c*(bytes+1):=gO _ om;have l:(i.bytes:Int)*(c:Int)<=281474976710656:=by
  have h:((i.bytes*c:Nat):Int)<=281474976710656:=by
   have:i.bytes*c<=281474976710656:=by rw[D,ru];omega
   omega
  rwa [Rl]at h
 have m:=run_make (P:=P) w t e i b el.Ov h2 h3 q x c c om (PL _) l om;simp only[dq,h4,JA]at m;have F:b.cells= #[b]:=by cases b<;>first|rfl|simp[dA]at y
 have hm:madeCells b.cells c=(List.replicate c b).toArray:=by
  apply Md;rw[F];apply AP;intro j;simp only[madeCells,Array.toList_map,Array.toList_range,tX,GM];by_cases hj:j<c
  ·simp[hj,Nat.mod_one]
  ·simp[hj]
 rw[hm]at m;have o:=World.grownBy_alloc w (.cells (List.replicate c b).toArray e) none;have a:Below B w (w.alloc (.cells (List.replicate c b).toArray e)):=bS o sm hB;refine⟨_,_,m,a,a.size,fun k ty cs _ G=>o.block k (bU.1 G).1 sm,_,_,_,rfl,h _ _ _ rfl ?_ o a⟩;exact⟨sm,.inr ⟨w.heap.size,c,_,rfl,hM _,heap_alloc_new w _,hM _,by simp only[maxLen];omega,sm,sm⟩⟩

theorem ui{w:World}{B e size n c:Nat}{A:Addr}{xs:List Value}(h:w.ownsRow B e size (.slice (some A) n c) n xs){off:Nat}{vs:List Value}(hle:off+vs.length<=xs.length):
  ∃cs:List Value,B<=A.block/\A.spot=none/\A.off=0/\w.heap[A.block]? =some (.cells cs.toArray e (0,0))/\off+vs.length<=cs.length/\
   ∀w1,dd w w1 A.block e (setCells cs off vs)->w1.ownsRow B e size (.slice (some A) n c) n (setCells xs off vs):=by
 rcases h.2 with⟨h1,_⟩|⟨g,cap,cur,h1,hb,d,i,hm,hs,a⟩
 ·cases h1
 ·cases h1;have b:∀(vs:List Value)(l:List Value)(off:Nat),(setCells l off vs).length=l.length:=by
   intro vs;induction vs with
   |nil=>intro l off;rfl
   |cons v r ih=>intro l off;rw[setCells,ih];simp
  have j:∀(vs:List Value)(l:List Value)(off k:Nat),(setCells l off vs).take k=setCells (l.take k) off vs:=by
   intro vs;induction vs with
   |nil=>intro l off k;rfl
   |cons v r ih=>intro l off k;rw[setCells,ih,setCells,List.take_set]
  refine⟨cur.toList,hb,rfl,rfl,by simpa using d,?_,fun w1 hw=>⟨by rw[b];exact h.1,.inr ⟨g,c,(setCells cur.toList off vs).toArray,rfl,hb,by simpa using hw.at_,i,hm,by simp[b,hs],?_⟩⟩⟩
  ·have:xs.length<=cur.toList.length:=by rw[<-a];simp;omega
   omega
  ·rw[<-a];simp[j]

def Vb(P:Program)(t e:TypeId)(size bytes:Nat):Bool:=match P.underlying t,P.info? e with
 |some (.slice a),some i=>match i.zero with
  |some z=>Nat.beq a e&&Nat.beq i.size size&&Nat.beq i.bytes bytes&&Nat.beq z.cells.size size&&Nat.blt 0 size&&Nat.ble size 1024
  |none=>false
 |_,_=>false
theorem El.of{P:Program}{t e size bytes:Nat}(h:Vb P t e size bytes=true):El P t e size bytes:=by
 unfold Vb at h;split at h
 ·rename_i g i h1 h2;split at h
  ·rename_i z a;simp only[eb,Nat.beq_eq,Nat.ble_eq,QH]at h;obtain⟨⟨⟨⟨⟨rfl,h3⟩,h4⟩,b⟩,c⟩,d⟩:=h;exact⟨h1,⟨i,z,h2,a,h3,h4,b⟩,c,d⟩
  ·cases h
 ·cases h
theorem pN:El Tryz.prog 259 217 1 4:=El.of kF

@[irreducible] def ri : Nat := 100000
theorem DG:ri=100000:=by unfold ri;rfl
@[irreducible] def dL : Nat := 1000000000 ^ ri

theorem ee.len{w:World}{A:Option Addr}{n c x:Nat}(h:ee w A n c x)(hx:x<dL):n<=100000:=by
 obtain⟨ws,_,hl,_,_,_,hn,rfl⟩:=h;unfold dL at hx;by_cases h0:ws=[]
 ·subst h0;simp at hl;omega
 ·have h1:=lM hn h0;have h2:=(Fg (a:=1000000000) om).1 (kx h1 hx);have:=DG;omega

def gj(ws:List Nat):List Value:=ws.map fun(x:Nat)=> .int .u32 (x:Int)
def du(w:World)(B:Nat)(A:Option Addr)(n c:Nat)(ws:List Nat):Prop:=w.ownsRow B 217 1 (.slice A n c) n (gj ws)
theorem du.len{w:World}{B:Nat}{A:Option Addr}{n c:Nat}{ws:List Nat}(h:du w B A n c ws):ws.length=n:=by have:=h.1;simpa[gj]using this
theorem du.sl{w:World}{B:Nat}{A:Option Addr}{n c:Nat}{ws:List Nat}(h:du w B A n c ws):gM w A ws:=by
 have hl:=h.len;rcases h.2 with⟨h1,h2⟩|⟨g,cap,cur,h1,hb,a,d,hm,hs,b⟩
 ·exact .inl (gz om)
 ·cases h1;refine .inr ⟨g,0,cur,_,rfl,a,fun i hi=> ?_⟩;have:(gj ws)[i]? =some (.int .u32 (ws[i]:Nat)):=by simp[gj,hi]
  rw[<-b,rP]at this;split at this
  ·simpa using this
  ·cases this
theorem du.cap{w:World}{B:Nat}{A:Option Addr}{n c:Nat}{ws:List Nat}(h:du w B A n c ws):n<=c:=by
 obtain⟨_,_,h1,h2⟩:=ownsRow_form h;cases h1;exact h2

theorem xS(a b:List Nat):gj (a++b)=gj a++gj b:=by simp[gj]

theorem nt{t ty:Nat}(el:El Tryz.prog t 217 1 4){B0 B:Nat}(a:B0<=B){fB:List Nat}{w:World}{A:Option Addr}{n c:Nat}{ws:List Nat}(ho:du w B A n c ws)(hn:n<=1000000)(hB:B<=w.heap.size)(b:217∉fB)
  {x:Int} (hx:0<=x) {K:Option Addr->Nat->Nat->World->Prop}
  (h:∀A' c' w',du w' B A' (n+1) c' (ws++[x.toNat])->w.grownBy w' (Value.ownBlock (.slice A n c))->Below B0 w w'->K A' (n+1) c' w'):
  au Tryz.prog (Instr.buildSlice t 1 #[(0,.int .u32 x)]) B0 fB w fun r w1=>∃A2 m2 c2,r= .slice A2 m2 c2/\
   au Tryz.prog (Builtin.append_ #[t,t] ty #[.slice A n c,.slice A2 m2 c2]) B0 fB w1 fun r d=>∃A n c,r= .slice A n c/\K A n c d:=
 uh el a ho rfl (by intro u hu;simp[Value.cells]at hu;subst hu;rfl) hB om b fun A' c' w' h1 h2 h3=>h A' c' w' (by
  unfold du;rw[xS];have e:(x.toNat:Int)=x:=om;simp only[gj,Dx,HD,e];exact h1) h2 h3

theorem cY(l:List Nat)(i:Nat):wv (l.take (i+1))=wv (l.take i)+1000000000^i*l.getD i 0:=by
 by_cases h:i<l.length
 ·rw[eN,dT,fs,iv om];simp[h,wv]
 ·rw[bx om,bx om];simp[cN,kl (by omega:l.length<=i)]

theorem OZ(s:Int):(0<=s->Int.tmod s 1000000000=s % 1000000000/\Int.tdiv s 1000000000=s / 1000000000)/\
  (s<0->Int.tmod s 1000000000= - ((-s) % 1000000000)/\Int.tdiv s 1000000000= - ((-s) / 1000000000)):=by
 refine⟨fun h=>⟨Jv h,Jo h⟩,fun h=> ?_⟩;have e:s= - (-s):=om;constructor
 ·conv=>lhs;rw[e]
  rw[Int.neg_tmod,Jv om]
 ·conv=>lhs;rw[e]
  rw[Int.neg_tdiv,Jo om]
theorem wrap64{n:Int}(h:az .i64 n):IntKind.wrap .i64 n=n:=by
 rw[IntKind.wrap_i64];simp only[az]at h;omega

section
variable {B:Nat} {A0 A1:Option Addr} {n0 c0 n1 c1:Nat} {sg:Int} {R:Value->World->Prop} {mx:Int}

theorem JN{w:World}{A:Option Addr}{n c:Nat}{ws:List Nat}{s i:Int}(ho:du w B A n c ws)(hn:n<=1000000)(hB:B<=w.heap.size)(hs: -1000000000<=s/\s<=1999999999)(hi:0<=i/\i<=1000000)
  (h:∀A' c' w',du w' B A' (n+1) c' (ws++[(s % 1000000000).toNat])->Below B w w'->F.ai.L4 A0 n0 c0 A1 n1 c1 sg A' (n+1) c' (s / 1000000000) mx (i+1) B w' R):
  F.ai.Sa A0 n0 c0 A1 n1 c1 sg A n c s mx i B w R:=by
 obtain⟨t1,t2⟩:=OZ s;have w1:IntKind.wrap .i64 (Int.tdiv s 1000000000)=Int.tdiv s 1000000000:=wrap64 ir;refine F.ai.Sa.step ⟨om,om,fun h0=>⟨ir,by rw[w1];simp only[az];omega,ir,?_⟩,fun h0=>⟨ir,?_⟩⟩
 ·refine nt pN lf ho hn hB sm om fun A' c' w' h1 _ h2=>⟨ir,?_⟩
  rw[w1];have a:Int.tmod s 1000000000+1000000000=s % 1000000000:=om;have b:Int.tdiv s 1000000000 - 1=s / 1000000000:=om;rw[a]at h1;rw[b];exact h A' c' w' h1 h2
 ·refine nt pN lf ho hn hB sm om fun A' c' w' h1 _ h2=>⟨ir,?_⟩
  rw[w1];have a:Int.tmod s 1000000000=s % 1000000000:=om;have b:Int.tdiv s 1000000000=s / 1000000000:=om;rw[a]at h1;rw[b];exact h A' c' w' h1 h2

theorem gM.getD{w:World}{A:Option Addr}{ws:List Nat}(h:gM w A ws)(hs:Small ws){j:Int}(h0:0<=j)(h1:j<ws.length):
  ∃a,A=some a/\∃x:Nat,ws.getD j.toNat 0=x/\x<1000000000/\ae w (a.add (j.toNat*1)) [.int .u32 (x:Int)]:=by
 obtain⟨a,b,x,hx,c⟩:=h.cell h0 h1;exact⟨a,b,x,by rw[cN,hx];rfl,hs x (hJ hx),c⟩

theorem Small.getD{l:List Nat}(h:Small l)(i:Nat):l.getD i 0<1000000000:=by
 rw[cN];cases e:l[i]? with
 |none=>simp
 |some x=>exact h x (hJ e)

theorem HG{w0:World}{a b:List Nat}(ha:gM w0 A0 a)(D:a.length=n0)(r:Small a)(hb:gM w0 A1 b)(Q:b.length=n1)(y:Small b)
  (g:sg=1∨sg= -1) (z:0<=(wv a:Int)+sg*wv b) (E:mx=(max n0 n1:Nat)) (h0:n0<=500000) (h1:n1<=500000)
  (C:∀A n c w' ws,du w' w0.heap.size A n c ws->Small ws->(wv ws:Int)=wv a+sg*wv b->n<=mx+1/\(n<=mx∨Norm ws)->Below w0.heap.size w0 w'->R (.slice A n c) w'):
  ∀(d:Nat)(n:Nat)(A:Option Addr)(c:Nat)(w:World)(ws:List Nat)(s:Int),mx - n=d->n<=mx->du w w0.heap.size A n c ws->Small ws->Below w0.heap.size w0 w-> -1<=s/\s<=1->
   (wv ws:Int)+(1000000000^n:Nat)*s=wv (a.take n)+sg*wv (b.take n)->
   F.ai.L4 A0 n0 c0 A1 n1 c1 sg A n c s mx n w0.heap.size w R:=by
 intro d;induction d with
 |zero=>
  intro n A c w ws s G hn ho hs hw H inv;have hlen:=ho.len;have I:a.take n=a:=bx om;have J:b.take n=b:=bx om;rw[I,J]at inv;have l:=ig hs;rw[hlen]at l;refine F.ai.L4.step ⟨fun h=>by omega,fun h=>⟨fun h2=>⟨ir,?_⟩,fun h2=> ?_⟩⟩
  ·have K:s=1:=om;subst K;refine nt pN lf ho om hw.size sm om fun A' c' w' m _ o=>C A' _ c' w' _ m (hs.append (Small.cons dc Small.nil)) ?_ ⟨om,.inr (by simp[Norm])⟩ (hw.trans o)
   rw[dT,hlen,<-inv];simp[wv]
  ·refine C A n c w ws ho hs ?_ ⟨om,.inl om⟩ hw;have:s=0:=by
    rcases(by omega:s=0∨s= -1)with h|h
    ·exact h
    ·subst h;omega
   subst this;simpa using inv
 |succ d ih=>
  intro n A c w ws s G hn ho hs hw H inv;have hlen:=ho.len;have L:=r.getD n;have M:=y.getD n;have i:F.ai.Sa A0 n0 c0 A1 n1 c1 sg A n c (s+(a.getD n 0:Nat)+sg*(b.getD n 0:Nat)) mx n w0.heap.size w R:=by
   refine JN ho om hw.size (by rcases g with h|h<;>subst h<;>omega) om fun A' c' w' m o=> ?_
   have e:((n:Int)+1)=((n+1:Nat):Int):=om;rw[e];refine ih (n+1) A' c' w' _ _ om om m (hs.append (Small.cons om Small.nil)) (hw.trans o) (by rcases g with h|h<;>subst h<;>omega) ?_;rw[dT,cY,cY,hlen];simp only[wv,CO,ob,Int.natCast_add,Rl,hL];obtain⟨t,N⟩:∃t,t=s+(a.getD n 0:Nat)+sg*(b.getD n 0:Nat):=⟨_,rfl⟩
   rw[<-N];have hx:((t % 1000000000).toNat:Int)=t - 1000000000*(t / 1000000000):=om;rw[hx];generalize ((1000000000^n:Nat):Int)=P at inv⊢;grind
  refine F.ai.L4.step ⟨fun h=> ?_,fun h=>by omega⟩;have k:F.ai.J8 A0 n0 c0 A1 n1 c1 sg A n c (s+(a.getD n 0:Nat)) n mx n w0.heap.size w R:=by
   refine F.ai.J8.step ⟨fun h=> ?_,fun h=> ?_⟩
   ·obtain⟨p,hp,x,hx,O,q⟩:=(hb.below hw).getD y (j:=(n:Int)) om om;rw[dq]at hx;rw[hx]at i M;exact⟨om,p,hp,_,q,ir,by simp only[az];rcases g with h|h<;>subst h<;>omega,by simp only[az];rcases g with h|h<;>subst h<;>omega,i⟩
   ·have e:b.getD n 0=0:=by rw[cN,kl om];rfl
    rw[e]at i;simpa using i
  refine⟨fun h=> ?_,fun h=> ?_⟩
  ·obtain⟨p,hp,x,hx,O,q⟩:=(ha.below hw).getD r (j:=(n:Int)) om om;rw[dq]at hx;rw[hx]at k L;exact⟨om,p,hp,_,q,ir,ir,k⟩
  ·have e:a.getD n 0=0:=by rw[cN,kl om];rfl
   rw[e]at k;simpa using k
end

theorem du.norm{w:World}{B:Nat}{A:Option Addr}{n c:Nat}{ws:List Nat}(h:du w B A n c ws)(hs:Small ws)(hn:Norm ws)(hl:n<2147483648):ee w A n c (wv ws):=⟨ws,h.sl,h.len,h.cap,hl,hs,hn,rfl⟩

theorem HH{l:List Nat}(hs:Small l)(h:l=[]∨1000000000^(l.length - 1)<=wv l):Norm l:=by
 rcases h with h|h
 ·subst h;simp[Norm]
 ·intro k;have hn:l≠[]:=fun e=>by subst e;simp at k
  rw[He hn]at k;have e:l=l.dropLast++[l.getLast hn]:=(wY hn).symm;have a:l.getLast hn=0:=by simpa using k
  rw[e,dT,a]at h;simp only[wv,CO,ob]at h;have h2:=ig (l:=l.dropLast) fun x hx=>hs x (List.dropLast_subset _ hx)
  simp at h h2;omega

theorem uj{w:World}{A0 A1:Option Addr}{n0 c0 n1 c1:Nat}{a b:List Nat}{sg:Int}(ha:gM w A0 a)(e:a.length=n0)(g:Small a)(hb:gM w A1 b)(i:b.length=n1)(j:Small b)
  (k:sg=1∨sg= -1) (d:0<=(wv a:Int)+sg*wv b) (h0:n0<=500000) (h1:n1<=500000):
  Pure Tryz.prog 305 #[.slice A0 n0 c0,.slice A1 n1 c1,.int .i64 sg] w fun v w'=>∃A n c ws,v= .slice A n c/\du w' w.heap.size A n c ws/\Small ws/\(wv ws:Int)=wv a+sg*wv b/\n<=max n0 n1+1/\(n<=max n0 n1∨Norm ws):=by
 refine F.ai.vc ⟨ir,?_⟩;refine Fi pN om om lf fun A c l m _ o=> ?_
 have em:(if(n1:Int)>(n0:Int)then(n1:Int)else(n0:Int))=((max n0 n1:Nat):Int):=by split<;>omega
 rw[em];refine HG (mx:=((max n0 n1:Nat):Int)) ha e g hb i j k d rfl h0 h1 (fun A n c w' ws q r x y z=>⟨A,n,c,ws,rfl,q,r,x,om,y.2.imp (fun h=>by omega) id⟩) (max n0 n1) 0 A c l [] 0 om om m Small.nil o om (by simp[wv])

theorem DH{w:World}{A0 A1:Option Addr}{n0 c0 n1 c1 x y:Nat}(ha:ee w A0 n0 c0 x)(hb:ee w A1 n1 c1 y)(hx:x<dL)(hy:y<dL):
  Pure Tryz.prog 281 #[.slice A0 n0 c0,.slice A1 n1 c1] w fun v w'=>∃A n c,v= .slice A n c/\ee w' A n c (x+y):=by
 have m:=ha.len hx;have o:=hb.len hy;obtain⟨a,h,a2,a3,a4,a5,i,rfl⟩:=ha;obtain⟨b,b1,g,q,r,j,l,rfl⟩:=hb;refine F.mE.vc (pm (uj h a2 a5 b1 g j (.inl rfl) om om om) ?_);rintro v w' hb ⟨A,n,c,ws,rfl,ho,hs,hv,hn,d⟩;refine⟨A,n,c,rfl,A,n,c,rfl,?_⟩;have e:wv ws=wv a+wv b:=om;rw[<-e];refine ho.norm hs (d.elim (fun z=>HH hs ?_) id) om;by_cases hw:ws=[]
 ·exact .inl hw
 ·right
  have hl:=ho.len;have hp:0<ws.length:=nQ.2 hw;rw[e];by_cases C:n1<=n0
  ·have h1:=lM i (fun k=>by subst k;simp at a2;omega);exact ga (fy om om) (ga h1 om)
  ·have h1:=lM l (fun k=>by subst k;simp at g;omega);exact ga (fy om om) (ga h1 om)

theorem BE{w:World}{A0 A1:Option Addr}{n0 c0 n1 c1 x y:Nat}(ha:ee w A0 n0 c0 x)(hb:ee w A1 n1 c1 y)(hx:x<dL)(hy:y<=x):
  Pure Tryz.prog 283 #[.slice A0 n0 c0,.slice A1 n1 c1] w fun v w'=>∃A n c,v= .slice A n c/\ee w' A n c (x - y):=by
 have l:=ha.len hx;have o:=hb.len (kx hy hx);obtain⟨a,d,a2,a3,a4,a5,q,rfl⟩:=ha;obtain⟨b,b1,g,r,z,i,C,rfl⟩:=hb;refine F.lK.vc (pm (uj d a2 a5 b1 g i (.inr rfl) om om om) ?_);rintro v w' hb ⟨A,n,c,ws,rfl,ho,hs,hv,hn,j⟩;refine⟨A,n,c,rfl,pm (lN ho.sl ho.len ho.cap om hs) ?_⟩;rintro v D k ⟨rfl,m,rfl,h,_⟩;have e:wv a - wv b=wv ws:=om;rw[e];exact⟨A,m,c,rfl,A,m,c,rfl,h⟩
open Go Go.RowKit Go.Shelf Go.Proofs Go.Proofs.YtgfkeadgjkfomaaGreatDoor.Vc
attribute [local go_sem] Oper.semAt_some

def CK(b:Nat)(W W':World):Prop:=∀(k:Nat)(cs:Array Value)(ty:Nat)(fz:Nat×Nat),W.heap[k]? =some (.cells cs ty fz)->k≠b->ty≠5->W'.heap[k]? =some (.cells cs ty fz)
theorem CK.refl(b:Nat)(W:World):CK b W W:=fun _ _ _ _ h _ _=>h
theorem CK.trans{b:Nat}{W1 W2 W3:World}(h:CK b W1 W2)(k:CK b W2 W3):CK b W1 W3:=fun i cs ty fz h0 h1 h2=>k i cs ty fz (h i cs ty fz h0 h1 h2) h1 h2
theorem CK.putObj{b:Nat}(W:World)(l:Nat)(o o':Obj)(h:W.heap[l]? =some o)(hc:o.isCells=false):CK b W (W.putObj l o'):=by
 intro k cs ty fz h0 _ _;rw[World.putObj_heap_other]
 ·exact h0
 ·intro e;subst e;rw[h]at h0;cases h0;simp[Obj.isCells]at hc

abbrev PW:=Nat×{x:Nat // x<1000000000}
abbrev LY(p:PW):Array Value:= #[.int .i64 (p.1:Int),.int .u32 (p.2.1:Int)]
def Q3(ws:List Nat)(hs:Small ws)(j:Nat):PW:=(j,⟨ws.getD j 0,hs.getD j⟩)
def qq(ws:List Nat)(hs:Small ws)(m:Nat):List PW:=(List.range (ws.length - m)).map fun t=>Q3 ws hs (ws.length - 1 - t)
theorem uX(ws:List Nat)(hs:Small ws){j:Nat}(h:j<ws.length):qq ws hs j=qq ws hs (j+1)++[Q3 ws hs j]:=by
 unfold qq;rw[show ws.length - j=(ws.length - (j+1))+1 by omega,pg,lx];simp
 congr 1
 omega
theorem Cm(ws:List Nat)(hs:Small ws):qq ws hs ws.length=[]:=by simp[qq]
theorem DI(ws:List Nat)(hs:Small ws)(m:Nat):(qq ws hs m).length=ws.length - m:=by simp[qq]

set_option maxRecDepth 100000 in
set_option maxHeartbeats 2000000 in
theorem O0(F:Fence)(n:Nat)(h9:F.fn 316)(hro:F.round=none)(hn:1<=n)(l Bs b wb off cap:Nat)(hBs:Bs≠b)(hwb:wb≠b)(ws:List Nat)(hs:Small ws)(hlen:ws.length<=1000000)(J Jx:List PW->World->Prop)
  (hY:∀pre x W,J pre W->pre.length<ws.length->YieldAt F (n - 1) Tryz.prog l (LY x) W fun e W'=>
   (e= .returned (.bool true)/\J (pre++[x]) W'/\CK b W W')∨(e= .returned (.bool false)/\Jx (pre++[x]) W'))
  (W:World) (A:Option Addr) (hA:A=some ⟨wb,off,none⟩) (hBc:W.heap[Bs]? =some (.cells #[.slice A ws.length cap] 259 (0,0))) (all:Array Value) (fr:Nat×Nat) (hw:W.heap[wb]? =some (.cells all 217 fr))
  (hc:∀j,j<ws.length->all[off+j]? =some (.int .u32 (ws.getD j 0:Nat))) (h0:J [] W):
  CallsIn F n Tryz.prog 316 #[.func (.yield l) #[] #[],.pointer (some ⟨Bs,0,none⟩)] W fun e W'=>(∃v,e= .returned v)/\
   ((∃ys,ys=qq ws hs 0/\J ys W')∨(∃pre,True/\Jx pre W')):=by
 refine callsIn_of_wp Tryz.func316 rfl h9 ?_ hro;simp only[Tryz.ntmps316,DY,gw,ot,Nat.reduceAdd,Nat.reduceSub,Oz,OD,PM,OR,nN,xm];subst hA;have cellBs:∀wr,CK b W wr->wr.cell? ⟨Bs,0,none⟩=some (.slice (some ⟨wb,off,none⟩) ws.length cap):=fun wr hk=>by
  have:=hk _ _ _ _ hBc hBs dc;simp[World.cell?,this]
 have hcx0:=cellBs W (CK.refl _ _)
 gi_wp2
 gi_loopw [3] (fun i wr=>∃m:Nat,m<=ws.length/\i= .int .i64 ((m:Int) - 1)/\J (qq ws hs m) wr/\CK b W wr)
  (fun i _=>(intOf i+1).toNat)
 case atStart=>exact⟨ws.length,hM _,rfl,by rw[Cm];exact h0,CK.refl _ _⟩
 case round=>
  obtain⟨m,hm,rfl,hJs,hnx⟩:=hrel;have hcx:=cellBs wr hnx;cases m with
  |zero=>
   gi_wp2
   go_end0
   exact⟨⟨_,rfl⟩,.inl ⟨_,rfl,hJs⟩⟩
  |succ j=>
   have e1:((j+1:Nat):Int) - 1=(j:Int):=om;have hcw:wr.cell? ⟨wb,off+j,none⟩=some (.int .u32 (ws.getD j 0:Nat)):=by
    have:=hnx _ _ _ _ hw hwb dc;simp only[World.cell?,this];exact hc j om
   obtain⟨fn,tmps,assign,body,hy,hR⟩:=hY _ (Q3 ws hs j) wr hJs (by rw[DI];omega);dsimp only[Q3,LY]at hy;simp only[cN]at hy;rw[e1]
   gi_wp2
   refine hR.mono ?_;rintro e W3 (⟨rfl,hJ3,hk3⟩|⟨rfl,hJx3⟩)
   ·gi_wp2
    go_roundw
    case rel=>exact⟨j,om,rfl,by rw[uX ws hs om];exact hJ3,hnx.trans hk3⟩
    case measure=>simp[intOf]
   ·gi_wp2
    refine bodyPost_ret (results_none rfl _ _ _) rfl ?_;exact⟨⟨_,rfl⟩,.inr ⟨_,trivial,hJx3⟩⟩
end Go.Proofs.YtgfkeadgjkfomaaGreatDoor.B

open Go.Proofs.YtgfkeadgjkfomaaGreatDoor
namespace Go.Proofs
open Go.Shelf
def Tryz.xT:Go.Shelf.Ren:=⟨fun|169=>304|n=>n,fun|70=>293|9=>9|0=>0|72=>295|37=>251|127=>319|3=>3|5=>5|n=>n,fun|n=>n⟩
theorem Tryz.O1:Go.Proofs.Lays.n169 Tryz.prog Tryz.xT:={
 mixed:=kF
 f169:=Tryz.func304.trans (dB some kF)
 t0:=Tryz.underlying0
 a0:=Tryz.isAgg0
 z0:=Tryz.sizeOf0
 v0:=Tryz.zeroValue0
 t3:=Tryz.underlying3
 a3:=Tryz.isAgg3
 z3:=Tryz.sizeOf3
 v3:=Tryz.zeroValue3
 t9:=Tryz.underlying9
 a9:=Tryz.isAgg9
 z9:=Tryz.sizeOf9
 v9:=Tryz.zeroValue9
 t37:=Tryz.underlying251
 a37:=Tryz.isAgg251
 z37:=Tryz.sizeOf251
 v37:=Tryz.zeroValue251
 t70:=Tryz.underlying293
 a70:=Tryz.isAgg293
 z70:=Tryz.sizeOf293
 v70:=Tryz.zeroValue293
 t72:=Tryz.underlying295
 a72:=Tryz.isAgg295
 z72:=Tryz.sizeOf295
 v72:=Tryz.zeroValue295
 t127:=Tryz.underlying319
 a127:=Tryz.isAgg319
 z127:=Tryz.sizeOf319
 v127:=Tryz.zeroValue319}
theorem Tryz.vW:Builder.Extra Tryz.prog Tryz.xT:={
 sizeBuilder:=kF
 liesBuilder:=kF
 t5:=Tryz.underlying5
 a5:=Tryz.isAgg5
 z5:=Tryz.sizeOf5
 v5:=Tryz.zeroValue5
 infoByte:=kF
 cellsByte:=kF
 sizeByte:=kF
 neB5:=by decide}
def Tryz.Fj:Go.Shelf.Ren:=⟨fun|103=>254|210=>277|206=>298|n=>n,fun|9=>9|4=>4|24=>257|3=>3|n=>n,fun|n=>n⟩
theorem Tryz.O2:Go.Proofs.Lays.n103 Tryz.prog Tryz.Fj:={
 mixed:=kF
 f103:=Tryz.func254.trans (dB some kF)
 f206:=Tryz.func298.trans (dB some kF)
 f210:=Tryz.func277.trans (dB some kF)
 t3:=Tryz.underlying3
 a3:=Tryz.isAgg3
 z3:=Tryz.sizeOf3
 v3:=Tryz.zeroValue3
 t4:=Tryz.underlying4
 a4:=Tryz.isAgg4
 z4:=Tryz.sizeOf4
 v4:=Tryz.zeroValue4
 t9:=Tryz.underlying9
 a9:=Tryz.isAgg9
 z9:=Tryz.sizeOf9
 v9:=Tryz.zeroValue9
 t24:=Tryz.underlying257
 a24:=Tryz.isAgg257
 z24:=Tryz.sizeOf257
 v24:=Tryz.zeroValue257}
open Go.RowKit in
theorem Tryz.strings_CutPrefix(s p:ByteArray)(w:World):
  Calls Tryz.prog 254 #[.string s,.string p] w fun e w'=>e= .returned (.tuple #[.string ⟨(Lib.trimPrefix s.data.toList p.data.toList).toArray⟩,.bool (Lib.hasPrefix s.data.toList p.data.toList)])/\w'=w:=Any.strings_CutPrefix Tryz.O2 s p w
def Tryz.Fk:Go.Shelf.Ren:=⟨fun|215=>74|n=>n,fun|3=>3|4=>4|n=>n,fun|n=>n⟩
theorem Tryz.O3:Go.Proofs.Lays.n215 Tryz.prog Tryz.Fk:={
 mixed:=kF
 f215:=Tryz.func74.trans (dB some kF)
 t3:=Tryz.underlying3
 a3:=Tryz.isAgg3
 z3:=Tryz.sizeOf3
 v3:=Tryz.zeroValue3
 t4:=Tryz.underlying4
 a4:=Tryz.isAgg4
 z4:=Tryz.sizeOf4
 v4:=Tryz.zeroValue4}
open Go.RowKit in
theorem Tryz.cmp_isNaN_int(x:Int)(w:World):
  Calls Tryz.prog 74 #[.int .i64 x] w fun e w'=>e= .returned (.bool false)/\w'=w:=Any.cmp_isNaN_int Tryz.O3 x w
def Tryz.Fl:Go.Shelf.Ren:=⟨fun|122=>45|215=>74|n=>n,fun|3=>3|4=>4|n=>n,fun|n=>n⟩
theorem Tryz.O4:Go.Proofs.Lays.n122 Tryz.prog Tryz.Fl:={
 mixed:=kF
 f122:=Tryz.func45.trans (dB some kF)
 f215:=Tryz.func74.trans (dB some kF)
 t3:=Tryz.underlying3
 a3:=Tryz.isAgg3
 z3:=Tryz.sizeOf3
 v3:=Tryz.zeroValue3
 t4:=Tryz.underlying4
 a4:=Tryz.isAgg4
 z4:=Tryz.sizeOf4
 v4:=Tryz.zeroValue4}
open Go.RowKit in
theorem Tryz.cmp_Compare_int(x y:Int)(w:World):
  Calls Tryz.prog 45 #[.int .i64 x,.int .i64 y] w fun e w'=>e= .returned (.int .i64 (Lib.compareInt x y))/\w'=w:=Any.cmp_Compare_int Tryz.O4 x y w
open Go.RowKit in
theorem Tryz.Builder_String_any_k(B b:Nat)(l:List UInt8)(w:World)(h:Lib.IsBuilderF 295 5 B b (Lib.byteCells l) w)(a:B<=w.heap.size):
  Calls Tryz.prog 304 #[.pointer (some ⟨b,0,none⟩)] w fun e w'=>e= .returned (.string ⟨l.toArray⟩)/\(Lib.IsBuilderF 295 5 B b (Lib.byteCells l) w'/\Below B w w'/\Lib.OthersKept 5 (some b) w w'):=Any.Builder_String_any_k Tryz.O1 Tryz.vW B b l w h a
def Tryz.Fm:Go.Shelf.Ren:=⟨fun|283=>250|n=>n,fun|3=>3|9=>9|4=>4|n=>n,fun|n=>n⟩
theorem Tryz.O5:Go.Proofs.Lays.n283 Tryz.prog Tryz.Fm:={
 mixed:=kF
 f283:=Tryz.func250.trans (dB some kF)
 t3:=Tryz.underlying3
 a3:=Tryz.isAgg3
 z3:=Tryz.sizeOf3
 v3:=Tryz.zeroValue3
 t4:=Tryz.underlying4
 a4:=Tryz.isAgg4
 z4:=Tryz.sizeOf4
 v4:=Tryz.zeroValue4
 t9:=Tryz.underlying9
 a9:=Tryz.isAgg9
 z9:=Tryz.sizeOf9
 v9:=Tryz.zeroValue9}
open Go.Lib in
theorem Tryz.internal_strconv_small(i:Nat)(h:i<100)(w:World):
  Calls Tryz.prog 250 #[.int .i64 i] w fun e w'=>e= .returned (.string ⟨(Lib.decDigits i).toArray⟩)/\w'=w:=Any.internal_strconv_small Tryz.O5 i h w
def Tryz.DJ:Go.Shelf.Ren:=⟨fun|284=>251|129=>273|317=>272|318=>274|n=>n,fun|53=>244|3=>3|212=>271|0=>0|4=>4|46=>125|5=>5|9=>9|n=>n,fun|17=>0|n=>n⟩
theorem Tryz.LZ:Go.Proofs.LaysM.n284 Tryz.prog Tryz.DJ:={
 mixed:=kF
 f129:=Tryz.func273.trans (dB some kF)
 f284:=Tryz.func251.trans (dB some kF)
 f317:=Tryz.func272.trans (dB some kF)
 f318:=Tryz.func274.trans (dB some kF)
 t0:=Tryz.underlying0
 a0:=Tryz.isAgg0
 z0:=Tryz.sizeOf0
 v0:=Tryz.zeroValue0
 t3:=Tryz.underlying3
 a3:=Tryz.isAgg3
 z3:=Tryz.sizeOf3
 v3:=Tryz.zeroValue3
 t4:=Tryz.underlying4
 a4:=Tryz.isAgg4
 z4:=Tryz.sizeOf4
 v4:=Tryz.zeroValue4
 t5:=Tryz.underlying5
 a5:=Tryz.isAgg5
 z5:=Tryz.sizeOf5
 v5:=Tryz.zeroValue5
 t9:=Tryz.underlying9
 a9:=Tryz.isAgg9
 z9:=Tryz.sizeOf9
 v9:=Tryz.zeroValue9
 t46:=Tryz.underlying125
 a46:=Tryz.isAgg125
 z46:=Tryz.sizeOf125
 v46:=Tryz.zeroValue125
 t53:=Tryz.underlying244
 a53:=Tryz.isAgg244
 z53:=Tryz.sizeOf244
 v53:=Tryz.zeroValue244
 t212:=Tryz.underlying271
 a212:=Tryz.isAgg271
 z212:=Tryz.sizeOf271
 v212:=Tryz.zeroValue271
 g17:=kF
 i0:=kF
 i3:=kF
 i4:=kF
 i5:=kF
 i9:=kF
 i46:=kF
 i53:=kF
 i212:=kF
 m17:=by kernel_rfl}
open Go.Lib in
theorem Tryz.internal_strconv_numDigits (u : Nat) (h1 : 1 ≤ u) (h2 : u < 18446744073709551616) (w : World) (a : Lib.TabIs Tryz.prog w "internal/strconv.uint64pow10" .u64 Lib.pow10Tab) :
  Calls Tryz.prog 251 #[.int .u64 u] w fun e w'=>e= .returned (.int .i64 (Lib.nDigits u))/\w'=w:=Any.internal_strconv_numDigits Tryz.LZ u h1 h2 w a
def Tryz.Fo:Go.Shelf.Ren:=⟨fun|285=>252|n=>n,fun|37=>251|53=>244|3=>3|4=>4|51=>217|9=>9|5=>5|0=>0|n=>n,fun|n=>n⟩
theorem Tryz.O6:Go.Proofs.Lays.n285 Tryz.prog Tryz.Fo:={
 mixed:=kF
 f285:=Tryz.func252.trans (dB some kF)
 t0:=Tryz.underlying0
 a0:=Tryz.isAgg0
 z0:=Tryz.sizeOf0
 v0:=Tryz.zeroValue0
 t3:=Tryz.underlying3
 a3:=Tryz.isAgg3
 z3:=Tryz.sizeOf3
 v3:=Tryz.zeroValue3
 t4:=Tryz.underlying4
 a4:=Tryz.isAgg4
 z4:=Tryz.sizeOf4
 v4:=Tryz.zeroValue4
 t5:=Tryz.underlying5
 a5:=Tryz.isAgg5
 z5:=Tryz.sizeOf5
 v5:=Tryz.zeroValue5
 t9:=Tryz.underlying9
 a9:=Tryz.isAgg9
 z9:=Tryz.sizeOf9
 v9:=Tryz.zeroValue9
 t37:=Tryz.underlying251
 a37:=Tryz.isAgg251
 z37:=Tryz.sizeOf251
 v37:=Tryz.zeroValue251
 t51:=Tryz.underlying217
 a51:=Tryz.isAgg217
 z51:=Tryz.sizeOf217
 v51:=Tryz.zeroValue217
 t53:=Tryz.underlying244
 a53:=Tryz.isAgg244
 z53:=Tryz.sizeOf244
 v53:=Tryz.zeroValue244}
open Go.RowKit Go.Sort Go.Lib in
theorem Tryz.internal_strconv_formatBase10(sA off cap:Nat)(u:Nat)(d:Array UInt8)(w:World)(f:Holds (fun(b:UInt8)=>Value.int .u8 (b.toNat:Int)) w sA off d)(hu:u<10^d.size)(a:u<18446744073709551616)(k9:d.size<4611686018427387904):
  Calls Tryz.prog 252 #[.slice (some ⟨sA,off,none⟩) d.size cap,.int .u64 u] w fun e w'=>
   e= .returned (.tuple #[])/\∃(n g:Nat)(c:Array UInt8),w'=(putRow (fun(b:UInt8)=>Value.int .u8 (b.toNat:Int)) w sA off c).drewN n/\FmtInv d.size u 0 g c:=Any.internal_strconv_formatBase10 Tryz.O6 sA off cap u d w f hu a k9
def Tryz.DK:Go.Shelf.Ren:=⟨fun|171=>169|243=>195|246=>228|283=>250|284=>251|285=>252|286=>253|129=>273|317=>272|318=>274|319=>275|320=>276|337=>296|338=>297|n=>n,fun|3=>3|9=>9|2=>2|4=>4|171=>252|0=>0|53=>244|37=>251|5=>5|173=>255|212=>271|51=>217|20=>20|213=>272|46=>125|232=>312|233=>313|n=>n,fun|17=>0|18=>2|19=>3|n=>n⟩
theorem Tryz.L0:Go.Proofs.LaysM.n171 Tryz.prog Tryz.DK:={
 mixed:=kF
 f129:=Tryz.func273.trans (dB some kF)
 f171:=Tryz.func169.trans (dB some kF)
 f243:=Tryz.func195.trans (dB some kF)
 f246:=Tryz.func228.trans (dB some kF)
 f283:=Tryz.func250.trans (dB some kF)
 f284:=Tryz.func251.trans (dB some kF)
 f285:=Tryz.func252.trans (dB some kF)
 f286:=Tryz.func253.trans (dB some kF)
 f317:=Tryz.func272.trans (dB some kF)
 f318:=Tryz.func274.trans (dB some kF)
 f319:=Tryz.func275.trans (dB some kF)
 f320:=Tryz.func276.trans (dB some kF)
 f337:=Tryz.func296.trans (dB some kF)
 f338:=Tryz.func297.trans (dB some kF)
 t0:=Tryz.underlying0
 a0:=Tryz.isAgg0
 z0:=Tryz.sizeOf0
 v0:=Tryz.zeroValue0
 t2:=Tryz.underlying2
 a2:=Tryz.isAgg2
 z2:=Tryz.sizeOf2
 v2:=Tryz.zeroValue2
 t3:=Tryz.underlying3
 a3:=Tryz.isAgg3
 z3:=Tryz.sizeOf3
 v3:=Tryz.zeroValue3
 t4:=Tryz.underlying4
 a4:=Tryz.isAgg4
 z4:=Tryz.sizeOf4
 v4:=Tryz.zeroValue4
 t5:=Tryz.underlying5
 a5:=Tryz.isAgg5
 z5:=Tryz.sizeOf5
 v5:=Tryz.zeroValue5
 t9:=Tryz.underlying9
 a9:=Tryz.isAgg9
 z9:=Tryz.sizeOf9
 v9:=Tryz.zeroValue9
 t20:=Tryz.underlying20
 a20:=Tryz.isAgg20
 z20:=Tryz.sizeOf20
 v20:=Tryz.zeroValue20
 t37:=Tryz.underlying251
 a37:=Tryz.isAgg251
 z37:=Tryz.sizeOf251
 v37:=Tryz.zeroValue251
 t46:=Tryz.underlying125
 a46:=Tryz.isAgg125
 z46:=Tryz.sizeOf125
 v46:=Tryz.zeroValue125
 t51:=Tryz.underlying217
 a51:=Tryz.isAgg217
 z51:=Tryz.sizeOf217
 v51:=Tryz.zeroValue217
 t53:=Tryz.underlying244
 a53:=Tryz.isAgg244
 z53:=Tryz.sizeOf244
 v53:=Tryz.zeroValue244
 t171:=Tryz.underlying252
 a171:=Tryz.isAgg252
 z171:=Tryz.sizeOf252
 v171:=Tryz.zeroValue252
 t173:=Tryz.underlying255
 a173:=Tryz.isAgg255
 z173:=Tryz.sizeOf255
 v173:=Tryz.zeroValue255
 t212:=Tryz.underlying271
 a212:=Tryz.isAgg271
 z212:=Tryz.sizeOf271
 v212:=Tryz.zeroValue271
 t213:=Tryz.underlying272
 a213:=Tryz.isAgg272
 z213:=Tryz.sizeOf272
 t232:=Tryz.underlying312
 a232:=Tryz.isAgg312
 z232:=Tryz.sizeOf312
 v232:=Tryz.zeroValue312
 t233:=Tryz.underlying313
 a233:=Tryz.isAgg313
 z233:=Tryz.sizeOf313
 v233:=Tryz.zeroValue313
 g17:=kF
 g18:=kF
 g19:=kF
 i0:=kF
 i2:=kF
 i3:=kF
 i4:=kF
 i5:=kF
 i9:=kF
 i20:=kF
 i37:=kF
 i46:=kF
 i51:=kF
 i53:=kF
 i171:=kF
 i173:=kF
 i212:=kF
 i232:=kF
 i233:=kF
 m17:=kF
 m18:=kF
 m19:=by kernel_rfl}
open Go.RowKit Go.Sort Go.Lib in
theorem Tryz.strconv_Itoa (n : Int) (h0 : -9223372036854775808 ≤ n) (h1 : n ≤ 9223372036854775807) (w : World) (a : Lib.TabIs Tryz.prog w "internal/strconv.uint64pow10" .u64 Lib.pow10Tab) :
  Calls Tryz.prog 169 #[.int .i64 n] w fun e w'=>e= .returned (.string ⟨(Lib.itoa n).toArray⟩)/\∃k os,w'=grow (w.drewN k) os:=Any.strconv_Itoa Tryz.L0 n h0 h1 w a
def Tryz.DL:Go.Shelf.Ren:=⟨fun|173=>311|246=>228|283=>250|284=>251|285=>252|286=>253|129=>273|317=>272|318=>274|319=>275|320=>276|337=>296|338=>297|n=>n,fun|2=>2|3=>3|9=>9|4=>4|171=>252|0=>0|53=>244|37=>251|5=>5|173=>255|212=>271|51=>217|20=>20|213=>272|46=>125|232=>312|233=>313|n=>n,fun|17=>0|18=>2|19=>3|n=>n⟩
theorem Tryz.Ma:Go.Proofs.LaysM.n173 Tryz.prog Tryz.DL:={
 mixed:=kF
 f129:=Tryz.func273.trans (dB some kF)
 f173:=Tryz.func311.trans (dB some kF)
 f246:=Tryz.func228.trans (dB some kF)
 f283:=Tryz.func250.trans (dB some kF)
 f284:=Tryz.func251.trans (dB some kF)
 f285:=Tryz.func252.trans (dB some kF)
 f286:=Tryz.func253.trans (dB some kF)
 f317:=Tryz.func272.trans (dB some kF)
 f318:=Tryz.func274.trans (dB some kF)
 f319:=Tryz.func275.trans (dB some kF)
 f320:=Tryz.func276.trans (dB some kF)
 f337:=Tryz.func296.trans (dB some kF)
 f338:=Tryz.func297.trans (dB some kF)
 t0:=Tryz.underlying0
 a0:=Tryz.isAgg0
 z0:=Tryz.sizeOf0
 v0:=Tryz.zeroValue0
 t2:=Tryz.underlying2
 a2:=Tryz.isAgg2
 z2:=Tryz.sizeOf2
 v2:=Tryz.zeroValue2
 t3:=Tryz.underlying3
 a3:=Tryz.isAgg3
 z3:=Tryz.sizeOf3
 v3:=Tryz.zeroValue3
 t4:=Tryz.underlying4
 a4:=Tryz.isAgg4
 z4:=Tryz.sizeOf4
 v4:=Tryz.zeroValue4
 t5:=Tryz.underlying5
 a5:=Tryz.isAgg5
 z5:=Tryz.sizeOf5
 v5:=Tryz.zeroValue5
 t9:=Tryz.underlying9
 a9:=Tryz.isAgg9
 z9:=Tryz.sizeOf9
 v9:=Tryz.zeroValue9
 t20:=Tryz.underlying20
 a20:=Tryz.isAgg20
 z20:=Tryz.sizeOf20
 v20:=Tryz.zeroValue20
 t37:=Tryz.underlying251
 a37:=Tryz.isAgg251
 z37:=Tryz.sizeOf251
 v37:=Tryz.zeroValue251
 t46:=Tryz.underlying125
 a46:=Tryz.isAgg125
 z46:=Tryz.sizeOf125
 v46:=Tryz.zeroValue125
 t51:=Tryz.underlying217
 a51:=Tryz.isAgg217
 z51:=Tryz.sizeOf217
 v51:=Tryz.zeroValue217
 t53:=Tryz.underlying244
 a53:=Tryz.isAgg244
 z53:=Tryz.sizeOf244
 v53:=Tryz.zeroValue244
 t171:=Tryz.underlying252
 a171:=Tryz.isAgg252
 z171:=Tryz.sizeOf252
 v171:=Tryz.zeroValue252
 t173:=Tryz.underlying255
 a173:=Tryz.isAgg255
 z173:=Tryz.sizeOf255
 v173:=Tryz.zeroValue255
 t212:=Tryz.underlying271
 a212:=Tryz.isAgg271
 z212:=Tryz.sizeOf271
 v212:=Tryz.zeroValue271
 t213:=Tryz.underlying272
 a213:=Tryz.isAgg272
 z213:=Tryz.sizeOf272
 t232:=Tryz.underlying312
 a232:=Tryz.isAgg312
 z232:=Tryz.sizeOf312
 v232:=Tryz.zeroValue312
 t233:=Tryz.underlying313
 a233:=Tryz.isAgg313
 z233:=Tryz.sizeOf313
 v233:=Tryz.zeroValue313
 g17:=kF
 g18:=kF
 g19:=kF
 i0:=kF
 i2:=kF
 i3:=kF
 i4:=kF
 i5:=kF
 i9:=kF
 i20:=kF
 i37:=kF
 i46:=kF
 i51:=kF
 i53:=kF
 i171:=kF
 i173:=kF
 i212:=kF
 i232:=kF
 i233:=kF
 m17:=kF
 m18:=kF
 m19:=by kernel_rfl}
open Go.RowKit Go.Sort Go.Lib in
theorem Tryz.strconv_FormatInt_10 (n : Int) (h0 : -9223372036854775808 ≤ n) (h1 : n ≤ 9223372036854775807) (w : World) (a : Lib.TabIs Tryz.prog w "internal/strconv.uint64pow10" .u64 Lib.pow10Tab) :
  Calls Tryz.prog 311 #[.int .i64 n,.int .i64 10] w fun e w'=>e= .returned (.string ⟨(Lib.itoa n).toArray⟩)/\∃k os,w'=grow (w.drewN k) os:=Any.strconv_FormatInt_10 Tryz.Ma n h0 h1 w a
def Tryz.DM:Go.Shelf.Ren:=⟨fun|174=>310|247=>324|245=>315|287=>314|279=>328|280=>329|281=>330|282=>331|321=>326|322=>327|316=>336|171=>169|205=>337|243=>195|246=>228|283=>250|284=>251|285=>252|286=>253|129=>273|317=>272|318=>274|319=>275|320=>276|337=>296|338=>297|n=>n,fun|9=>9|3=>3|2=>2|75=>290|85=>308|4=>4|167=>323|5=>5|53=>244|175=>291|46=>125|168=>325|37=>251|0=>0|210=>335|21=>21|127=>319|145=>340|143=>338|171=>252|173=>255|212=>271|51=>217|20=>20|213=>272|232=>312|233=>313|80=>210|n=>n,fun|15=>4|16=>5|17=>0|18=>2|19=>3|n=>n⟩
theorem Tryz.Mb:Go.Proofs.LaysC.n174 Tryz.prog Tryz.DM:={
 mixed:=kF
 f129:=Tryz.func273.trans (dB some kF)
 f171:=Tryz.func169.trans (dB some kF)
 f174:=Tryz.func310.trans (dB some kF)
 f205:=Tryz.func337.trans (dB some kF)
 f243:=Tryz.func195.trans (dB some kF)
 f245:=Tryz.func315.trans (dB some kF)
 f246:=Tryz.func228.trans (dB some kF)
 f247:=Tryz.func324.trans (dB some kF)
 f279:=Tryz.func328.trans (dB some kF)
 f280:=Tryz.func329.trans (dB some kF)
 f281:=Tryz.func330.trans (dB some kF)
 f282:=Tryz.func331.trans (dB some kF)
 f283:=Tryz.func250.trans (dB some kF)
 f284:=Tryz.func251.trans (dB some kF)
 f285:=Tryz.func252.trans (dB some kF)
 f286:=Tryz.func253.trans (dB some kF)
 f287:=Tryz.func314.trans (dB some kF)
 f316:=Tryz.func336.trans (dB some kF)
 f317:=Tryz.func272.trans (dB some kF)
 f318:=Tryz.func274.trans (dB some kF)
 f319:=Tryz.func275.trans (dB some kF)
 f320:=Tryz.func276.trans (dB some kF)
 f321:=Tryz.func326.trans (dB some kF)
 f322:=Tryz.func327.trans (dB some kF)
 f337:=Tryz.func296.trans (dB some kF)
 f338:=Tryz.func297.trans (dB some kF)
 t0:=Tryz.underlying0
 a0:=Tryz.isAgg0
 z0:=Tryz.sizeOf0
 v0:=Tryz.zeroValue0
 t2:=Tryz.underlying2
 a2:=Tryz.isAgg2
 z2:=Tryz.sizeOf2
 v2:=Tryz.zeroValue2
 t3:=Tryz.underlying3
 a3:=Tryz.isAgg3
 z3:=Tryz.sizeOf3
 v3:=Tryz.zeroValue3
 t4:=Tryz.underlying4
 a4:=Tryz.isAgg4
 z4:=Tryz.sizeOf4
 v4:=Tryz.zeroValue4
 t5:=Tryz.underlying5
 a5:=Tryz.isAgg5
 z5:=Tryz.sizeOf5
 v5:=Tryz.zeroValue5
 t9:=Tryz.underlying9
 a9:=Tryz.isAgg9
 z9:=Tryz.sizeOf9
 v9:=Tryz.zeroValue9
 t20:=Tryz.underlying20
 a20:=Tryz.isAgg20
 z20:=Tryz.sizeOf20
 v20:=Tryz.zeroValue20
 t21:=Tryz.underlying21
 a21:=Tryz.isAgg21
 z21:=Tryz.sizeOf21
 v21:=Tryz.zeroValue21
 t37:=Tryz.underlying251
 a37:=Tryz.isAgg251
 z37:=Tryz.sizeOf251
 v37:=Tryz.zeroValue251
 t46:=Tryz.underlying125
 a46:=Tryz.isAgg125
 z46:=Tryz.sizeOf125
 v46:=Tryz.zeroValue125
 t51:=Tryz.underlying217
 a51:=Tryz.isAgg217
 z51:=Tryz.sizeOf217
 v51:=Tryz.zeroValue217
 t53:=Tryz.underlying244
 a53:=Tryz.isAgg244
 z53:=Tryz.sizeOf244
 v53:=Tryz.zeroValue244
 t75:=Tryz.underlying290
 a75:=Tryz.isAgg290
 z75:=Tryz.sizeOf290
 v75:=Tryz.zeroValue290
 t85:=Tryz.underlying308
 a85:=Tryz.isAgg308
 z85:=Tryz.sizeOf308
 v85:=Tryz.zeroValue308
 t127:=Tryz.underlying319
 a127:=Tryz.isAgg319
 z127:=Tryz.sizeOf319
 v127:=Tryz.zeroValue319
 t143:=Tryz.underlying338
 a143:=Tryz.isAgg338
 z143:=Tryz.sizeOf338
 v143:=Tryz.zeroValue338
 t145:=Tryz.underlying340
 a145:=Tryz.isAgg340
 z145:=Tryz.sizeOf340
 v145:=Tryz.zeroValue340
 t167:=Tryz.underlying323
 a167:=Tryz.isAgg323
 z167:=Tryz.sizeOf323
 v167:=Tryz.zeroValue323
 t168:=Tryz.underlying325
 a168:=Tryz.isAgg325
 z168:=Tryz.sizeOf325
 v168:=Tryz.zeroValue325
 t171:=Tryz.underlying252
 a171:=Tryz.isAgg252
 z171:=Tryz.sizeOf252
 v171:=Tryz.zeroValue252
 t173:=Tryz.underlying255
 a173:=Tryz.isAgg255
 z173:=Tryz.sizeOf255
 v173:=Tryz.zeroValue255
 t175:=Tryz.underlying291
 a175:=Tryz.isAgg291
 z175:=Tryz.sizeOf291
 v175:=Tryz.zeroValue291
 t210:=Tryz.underlying335
 a210:=Tryz.isAgg335
 z210:=Tryz.sizeOf335
 v210:=Tryz.zeroValue335
 t212:=Tryz.underlying271
 a212:=Tryz.isAgg271
 z212:=Tryz.sizeOf271
 v212:=Tryz.zeroValue271
 t213:=Tryz.underlying272
 a213:=Tryz.isAgg272
 z213:=Tryz.sizeOf272
 t232:=Tryz.underlying312
 a232:=Tryz.isAgg312
 z232:=Tryz.sizeOf312
 v232:=Tryz.zeroValue312
 t233:=Tryz.underlying313
 a233:=Tryz.isAgg313
 z233:=Tryz.sizeOf313
 v233:=Tryz.zeroValue313
 g15:=kF
 g16:=kF
 g17:=kF
 g18:=kF
 g19:=kF
 t80:=Tryz.underlying210
 a80:=Tryz.isAgg210
 z80:=Tryz.sizeOf210
 v80:=Tryz.zeroValue210
 i0:=kF
 i2:=kF
 i3:=kF
 i4:=kF
 i5:=kF
 i9:=kF
 i20:=kF
 i21:=kF
 i37:=kF
 i46:=kF
 i51:=kF
 i53:=kF
 i75:=kF
 i80:=kF
 i85:=kF
 i127:=kF
 i143:=kF
 i145:=kF
 i167:=kF
 i168:=kF
 i171:=kF
 i173:=kF
 i175:=kF
 i210:=kF
 i212:=kF
 i232:=kF
 i233:=kF
 m15:=kF
 m16:=kF
 m17:=kF
 m18:=kF
 m19:=kF
 c0:=kF
 c2:=kF
 c3:=kF
 c4:=kF
 c5:=kF
 c9:=kF
 c20:=kF
 c21:=kF
 c37:=kF
 c46:=kF
 c51:=kF
 c53:=kF
 c75:=kF
 c80:=kF
 c85:=kF
 c127:=kF
 c143:=kF
 c145:=kF
 c167:=kF
 c168:=kF
 c171:=kF
 c173:=kF
 c175:=kF
 c210:=kF
 c212:=kF
 c213:=kF
 c232:=kF
 c233:=by kernel_rfl}
open Go.RowKit in
theorem Tryz.strconv_ParseInt_10_at64_ok(s:ByteArray)(a:s.size<=9223372036854775806)(v:Int)(h:Lib.parseIntB 64 s.data.toList= .ok v)(w:World):
  Calls Tryz.prog 310 #[.string s,.int .i64 10,.int .i64 64] w fun e w'=>e= .returned (.tuple #[.int .i64 v,.nilIface])/\(w'=w∨∃t,w'=Lib.bytesWorld w 5 t):=Any.strconv_ParseInt_10_at64_ok Tryz.Mb s a v h w
def Tryz.DN:Go.Shelf.Ren:=⟨fun|14=>299|16=>314|17=>315|19=>326|20=>327|21=>328|22=>329|23=>330|24=>331|25=>336|27=>169|26=>337|28=>195|29=>228|30=>250|31=>251|32=>252|33=>253|35=>273|34=>272|36=>274|37=>275|38=>276|39=>296|40=>297|n=>n,fun|9=>9|3=>3|22=>244|24=>290|25=>291|4=>4|34=>323|5=>5|36=>125|37=>251|0=>0|39=>325|21=>21|44=>335|47=>319|50=>340|48=>338|2=>2|52=>252|55=>255|59=>271|60=>217|20=>20|61=>272|65=>312|66=>313|67=>210|n=>n,fun|0=>4|1=>5|2=>0|3=>2|4=>3|n=>n⟩
theorem Tryz.Mc:Go.Proofs.LaysPu.n14 Tryz.prog Tryz.DN:={
 mixed:=kF
 f14:=Tryz.func299.trans (dB some kF)
 f16:=Tryz.func314.trans (dB some kF)
 f17:=Tryz.func315.trans (dB some kF)
 f19:=Tryz.func326.trans (dB some kF)
 f20:=Tryz.func327.trans (dB some kF)
 f21:=Tryz.func328.trans (dB some kF)
 f22:=Tryz.func329.trans (dB some kF)
 f23:=Tryz.func330.trans (dB some kF)
 f24:=Tryz.func331.trans (dB some kF)
 f25:=Tryz.func336.trans (dB some kF)
 f26:=Tryz.func337.trans (dB some kF)
 f27:=Tryz.func169.trans (dB some kF)
 f28:=Tryz.func195.trans (dB some kF)
 f29:=Tryz.func228.trans (dB some kF)
 f30:=Tryz.func250.trans (dB some kF)
 f31:=Tryz.func251.trans (dB some kF)
 f32:=Tryz.func252.trans (dB some kF)
 f33:=Tryz.func253.trans (dB some kF)
 f34:=Tryz.func272.trans (dB some kF)
 f35:=Tryz.func273.trans (dB some kF)
 f36:=Tryz.func274.trans (dB some kF)
 f37:=Tryz.func275.trans (dB some kF)
 f38:=Tryz.func276.trans (dB some kF)
 f39:=Tryz.func296.trans (dB some kF)
 f40:=Tryz.func297.trans (dB some kF)
 t0:=Tryz.underlying0
 a0:=Tryz.isAgg0
 z0:=Tryz.sizeOf0
 v0:=Tryz.zeroValue0
 i0:=kF
 t2:=Tryz.underlying2
 a2:=Tryz.isAgg2
 z2:=Tryz.sizeOf2
 v2:=Tryz.zeroValue2
 i2:=kF
 t3:=Tryz.underlying3
 a3:=Tryz.isAgg3
 z3:=Tryz.sizeOf3
 v3:=Tryz.zeroValue3
 i3:=kF
 t4:=Tryz.underlying4
 a4:=Tryz.isAgg4
 z4:=Tryz.sizeOf4
 v4:=Tryz.zeroValue4
 i4:=kF
 t5:=Tryz.underlying5
 a5:=Tryz.isAgg5
 z5:=Tryz.sizeOf5
 v5:=Tryz.zeroValue5
 i5:=kF
 t9:=Tryz.underlying9
 a9:=Tryz.isAgg9
 z9:=Tryz.sizeOf9
 v9:=Tryz.zeroValue9
 i9:=kF
 t20:=Tryz.underlying20
 a20:=Tryz.isAgg20
 z20:=Tryz.sizeOf20
 v20:=Tryz.zeroValue20
 i20:=kF
 t21:=Tryz.underlying21
 a21:=Tryz.isAgg21
 z21:=Tryz.sizeOf21
 v21:=Tryz.zeroValue21
 i21:=kF
 t22:=Tryz.underlying244
 a22:=Tryz.isAgg244
 z22:=Tryz.sizeOf244
 v22:=Tryz.zeroValue244
 i22:=kF
 t24:=Tryz.underlying290
 a24:=Tryz.isAgg290
 z24:=Tryz.sizeOf290
 v24:=Tryz.zeroValue290
 i24:=kF
 t25:=Tryz.underlying291
 a25:=Tryz.isAgg291
 z25:=Tryz.sizeOf291
 v25:=Tryz.zeroValue291
 i25:=kF
 t34:=Tryz.underlying323
 a34:=Tryz.isAgg323
 z34:=Tryz.sizeOf323
 v34:=Tryz.zeroValue323
 i34:=kF
 c34:=kF
 t36:=Tryz.underlying125
 a36:=Tryz.isAgg125
 z36:=Tryz.sizeOf125
 v36:=Tryz.zeroValue125
 i36:=kF
 t37:=Tryz.underlying251
 a37:=Tryz.isAgg251
 z37:=Tryz.sizeOf251
 v37:=Tryz.zeroValue251
 i37:=kF
 t39:=Tryz.underlying325
 a39:=Tryz.isAgg325
 z39:=Tryz.sizeOf325
 v39:=Tryz.zeroValue325
 i39:=kF
 t44:=Tryz.underlying335
 a44:=Tryz.isAgg335
 z44:=Tryz.sizeOf335
 v44:=Tryz.zeroValue335
 i44:=kF
 t47:=Tryz.underlying319
 a47:=Tryz.isAgg319
 z47:=Tryz.sizeOf319
 v47:=Tryz.zeroValue319
 i47:=kF
 t48:=Tryz.underlying338
 a48:=Tryz.isAgg338
 z48:=Tryz.sizeOf338
 v48:=Tryz.zeroValue338
 i48:=kF
 t50:=Tryz.underlying340
 a50:=Tryz.isAgg340
 z50:=Tryz.sizeOf340
 v50:=Tryz.zeroValue340
 i50:=kF
 t52:=Tryz.underlying252
 a52:=Tryz.isAgg252
 z52:=Tryz.sizeOf252
 v52:=Tryz.zeroValue252
 i52:=kF
 t55:=Tryz.underlying255
 a55:=Tryz.isAgg255
 z55:=Tryz.sizeOf255
 v55:=Tryz.zeroValue255
 i55:=kF
 t59:=Tryz.underlying271
 a59:=Tryz.isAgg271
 z59:=Tryz.sizeOf271
 v59:=Tryz.zeroValue271
 i59:=kF
 t60:=Tryz.underlying217
 a60:=Tryz.isAgg217
 z60:=Tryz.sizeOf217
 v60:=Tryz.zeroValue217
 i60:=kF
 t61:=Tryz.underlying272
 a61:=Tryz.isAgg272
 z61:=Tryz.sizeOf272
 t65:=Tryz.underlying312
 a65:=Tryz.isAgg312
 z65:=Tryz.sizeOf312
 v65:=Tryz.zeroValue312
 i65:=kF
 t66:=Tryz.underlying313
 a66:=Tryz.isAgg313
 z66:=Tryz.sizeOf313
 v66:=Tryz.zeroValue313
 i66:=kF
 t67:=Tryz.underlying210
 a67:=Tryz.isAgg210
 z67:=Tryz.sizeOf210
 v67:=Tryz.zeroValue210
 i67:=kF
 g0:=kF
 m0:=kF
 g1:=kF
 m1:=kF
 g2:=kF
 m2:=kF
 g3:=kF
 m3:=kF
 g4:=kF
 m4:=by kernel_rfl}
open Go.RowKit in
theorem Tryz.strconv_ParseUint_10_at32_ok(s:ByteArray)(a:s.size<=9223372036854775806)(u:Nat)(h:Lib.parseUintB 32 s.data.toList= .ok u)(w:World):
  Calls Tryz.prog 299 #[.string s,.int .i64 10,.int .i64 32] w fun e w'=>e= .returned (.tuple #[.int .u64 u,.nilIface])/\(w'=w∨w'=Lib.bytesWorld w 5 s):=Any.strconv_ParseUint_10_at32_ok Tryz.Mc s a u h w
def Tryz.Fp:Go.Shelf.Ren:=⟨fun|145=>211|220=>241|219=>263|217=>284|225=>285|224=>286|267=>287|266=>307|314=>308|n=>n,fun|9=>9|4=>4|59=>212|3=>3|5=>5|46=>125|146=>305|51=>217|n=>n,fun|1=>1|n=>n⟩
theorem Tryz.O7:Go.Proofs.Lays.n145 Tryz.prog Tryz.Fp:={
 mixed:=kF
 f145:=Tryz.func211.trans (dB some kF)
 f217:=Tryz.func284.trans (dB some kF)
 f219:=Tryz.func263.trans (dB some kF)
 f220:=Tryz.func241.trans (dB some kF)
 f224:=Tryz.func286.trans (dB some kF)
 f225:=Tryz.func285.trans (dB some kF)
 f266:=Tryz.func307.trans (dB some kF)
 f267:=Tryz.func287.trans (dB some kF)
 f314:=Tryz.func308.trans (dB some kF)
 t3:=Tryz.underlying3
 a3:=Tryz.isAgg3
 z3:=Tryz.sizeOf3
 v3:=Tryz.zeroValue3
 t4:=Tryz.underlying4
 a4:=Tryz.isAgg4
 z4:=Tryz.sizeOf4
 v4:=Tryz.zeroValue4
 t5:=Tryz.underlying5
 a5:=Tryz.isAgg5
 z5:=Tryz.sizeOf5
 v5:=Tryz.zeroValue5
 t9:=Tryz.underlying9
 a9:=Tryz.isAgg9
 z9:=Tryz.sizeOf9
 v9:=Tryz.zeroValue9
 t46:=Tryz.underlying125
 a46:=Tryz.isAgg125
 z46:=Tryz.sizeOf125
 v46:=Tryz.zeroValue125
 t51:=Tryz.underlying217
 a51:=Tryz.isAgg217
 z51:=Tryz.sizeOf217
 v51:=Tryz.zeroValue217
 t59:=Tryz.underlying212
 a59:=Tryz.isAgg212
 z59:=Tryz.sizeOf212
 v59:=Tryz.zeroValue212
 t146:=Tryz.underlying305
 a146:=Tryz.isAgg305
 z146:=Tryz.sizeOf305
 v146:=Tryz.zeroValue305
 g1:=by kernel_rfl}
open Go.RowKit Go.Lib in
theorem Tryz.strings_Cut(s sep:ByteArray)(m:Int)(w:World)(hs:s.size<4294967281)(hm:w.cell? ⟨1,0,none⟩=some (.int .i64 m)):
  Calls Tryz.prog 211 #[.string s,.string sep] w fun e w'=>e= .returned (.tuple #[.string ⟨(Lib.cut s.data.toList sep.data.toList).1.toArray⟩,.string ⟨(Lib.cut s.data.toList sep.data.toList).2.1.toArray⟩,.bool (Lib.cut s.data.toList sep.data.toList).2.2])/\∃n,w'=w.drewN n:=Any.strings_Cut Tryz.O7 s sep m w hs hm
def Tryz.xU:Go.Shelf.Ren:=⟨fun|105=>303|212=>319|99=>320|165=>321|166=>302|170=>322|169=>304|263=>333|264=>334|206=>298|240=>318|241=>335|276=>332|277=>338|n=>n,fun|9=>9|3=>3|4=>4|20=>20|0=>0|46=>125|109=>316|5=>5|72=>295|76=>300|51=>217|146=>305|53=>244|148=>331|70=>293|37=>251|75=>290|127=>319|164=>328|80=>210|n=>n,fun|n=>n⟩
theorem Tryz.O8:Go.Proofs.Lays.n105 Tryz.prog Tryz.xU:={
 mixed:=kF
 f99:=Tryz.func320.trans (dB some kF)
 f105:=Tryz.func303.trans (dB some kF)
 f165:=Tryz.func321.trans (dB some kF)
 f166:=Tryz.func302.trans (dB some kF)
 f169:=Tryz.func304.trans (dB some kF)
 f170:=Tryz.func322.trans (dB some kF)
 f206:=Tryz.func298.trans (dB some kF)
 f212:=Tryz.func319.trans (dB some kF)
 f240:=Tryz.func318.trans (dB some kF)
 f241:=Tryz.func335.trans (dB some kF)
 f263:=Tryz.func333.trans (dB some kF)
 f264:=Tryz.func334.trans (dB some kF)
 f276:=Tryz.func332.trans (dB some kF)
 f277:=Tryz.func338.trans (dB some kF)
 t0:=Tryz.underlying0
 a0:=Tryz.isAgg0
 z0:=Tryz.sizeOf0
 v0:=Tryz.zeroValue0
 t3:=Tryz.underlying3
 a3:=Tryz.isAgg3
 z3:=Tryz.sizeOf3
 v3:=Tryz.zeroValue3
 t4:=Tryz.underlying4
 a4:=Tryz.isAgg4
 z4:=Tryz.sizeOf4
 v4:=Tryz.zeroValue4
 t5:=Tryz.underlying5
 a5:=Tryz.isAgg5
 z5:=Tryz.sizeOf5
 v5:=Tryz.zeroValue5
 t9:=Tryz.underlying9
 a9:=Tryz.isAgg9
 z9:=Tryz.sizeOf9
 v9:=Tryz.zeroValue9
 t20:=Tryz.underlying20
 a20:=Tryz.isAgg20
 z20:=Tryz.sizeOf20
 v20:=Tryz.zeroValue20
 t37:=Tryz.underlying251
 a37:=Tryz.isAgg251
 z37:=Tryz.sizeOf251
 v37:=Tryz.zeroValue251
 t46:=Tryz.underlying125
 a46:=Tryz.isAgg125
 z46:=Tryz.sizeOf125
 v46:=Tryz.zeroValue125
 t51:=Tryz.underlying217
 a51:=Tryz.isAgg217
 z51:=Tryz.sizeOf217
 v51:=Tryz.zeroValue217
 t53:=Tryz.underlying244
 a53:=Tryz.isAgg244
 z53:=Tryz.sizeOf244
 v53:=Tryz.zeroValue244
 t70:=Tryz.underlying293
 a70:=Tryz.isAgg293
 z70:=Tryz.sizeOf293
 v70:=Tryz.zeroValue293
 t72:=Tryz.underlying295
 a72:=Tryz.isAgg295
 z72:=Tryz.sizeOf295
 v72:=Tryz.zeroValue295
 t75:=Tryz.underlying290
 a75:=Tryz.isAgg290
 z75:=Tryz.sizeOf290
 v75:=Tryz.zeroValue290
 t76:=Tryz.underlying300
 a76:=Tryz.isAgg300
 z76:=Tryz.sizeOf300
 v76:=Tryz.zeroValue300
 t109:=Tryz.underlying316
 a109:=Tryz.isAgg316
 z109:=Tryz.sizeOf316
 v109:=Tryz.zeroValue316
 t127:=Tryz.underlying319
 a127:=Tryz.isAgg319
 z127:=Tryz.sizeOf319
 v127:=Tryz.zeroValue319
 t146:=Tryz.underlying305
 a146:=Tryz.isAgg305
 z146:=Tryz.sizeOf305
 v146:=Tryz.zeroValue305
 t148:=Tryz.underlying331
 a148:=Tryz.isAgg331
 z148:=Tryz.sizeOf331
 v148:=Tryz.zeroValue331
 t164:=Tryz.underlying328
 a164:=Tryz.isAgg328
 z164:=Tryz.sizeOf328
 v164:=Tryz.zeroValue328}
theorem Tryz.vX:Builder.Extra Tryz.prog Tryz.xU:={
 sizeBuilder:=kF
 liesBuilder:=kF
 t5:=Tryz.underlying5
 a5:=Tryz.isAgg5
 z5:=Tryz.sizeOf5
 v5:=Tryz.zeroValue5
 infoByte:=kF
 cellsByte:=kF
 sizeByte:=kF
 neB5:=by decide}
open Go.RowKit Go.Lib in
theorem Tryz.strings_Repeat(s:ByteArray)(c:Nat)(w:World)(a:c<=9223372036854775807)(hlen:s.size*c<=140737488355328):
  Calls Tryz.prog 303 #[.string s,.int .i64 c] w fun e w'=>e= .returned (.string ⟨(Lib.repeatL s.data.toList c).toArray⟩)/\Below w.heap.size w w':=Any.strings_Repeat Tryz.O8 Tryz.vX s c w a hlen
end Go.Proofs

open Go.Proofs.YtgfkeadgjkfomaaGreatDoor
namespace Go.Proofs
open Go.Shelf Go.RowKit

theorem Tryz.bX:(Tryz.prog.info? 295).map (·.size)=some 2:=kF
theorem Tryz.Ve:liesAt Tryz.prog Tryz.prog.depth 295 (2 / Tryz.prog.cellsOf 295) 0 295 1=true:=kF
theorem Tryz.bInfo:(Tryz.prog.info? 5).map (fun i=>(i.zero,i.size,i.bytes))=some (some (.int .u8 0),1,1):=kF
theorem Tryz.HI:Tryz.prog.follows .mixedOrders=true:=kF

set_option maxHeartbeats 1000000 in
set_option maxRecDepth 100000 in
theorem Tryz.HJ(b:Nat)(w:World)(h0:w.cell? ⟨b,0,none⟩=some (.pointer (some ⟨b,0,none⟩))):
  Calls Tryz.prog 318 #[.pointer (some ⟨b,0,none⟩)] w fun e w'=>e= .returned (.tuple #[])/\w'=w:=by
 obtain⟨j,hj,_⟩:=k7.1 Tryz.bX;have mixed:=Tryz.HI;have t72:=Tryz.underlying295;have a72:=Tryz.isAgg295;have z72:=Tryz.sizeOf295;have v72:=Tryz.zeroValue295;have u72:=run_underlying t72;have t70:=Tryz.underlying293;have a70:=Tryz.isAgg293;have z70:=Tryz.sizeOf293;have v70:=Tryz.zeroValue293;have u70:=run_underlying t70;have t4:=Tryz.underlying4;have a4:=Tryz.isAgg4;have z4:=Tryz.sizeOf4;have v4:=Tryz.zeroValue4;have u4:=run_underlying t4;have t164:=Tryz.underlying328;have a164:=Tryz.isAgg328;have z164:=Tryz.sizeOf328;have v164:=Tryz.zeroValue328;have u164:=run_underlying t164
 go_enter Tryz.func318,Tryz.ntmps318
 go_wp2
 rw[Lib.run_neq_ptr_same w _ t70 hj]
 go_wp2
 go_end0
 exact⟨rfl,rfl⟩

set_option maxHeartbeats 1000000 in
set_option maxRecDepth 100000 in
theorem Tryz.Fq(b:Nat)(w:World)(h0:w.cell? ⟨b,0,none⟩=some (.pointer none))(hsh:w.shape? b=some (295,2))(hfz:w.frozen? ⟨b,0,none⟩=false):
  Calls Tryz.prog 318 #[.pointer (some ⟨b,0,none⟩)] w fun e w'=>e= .returned (.tuple #[])/\w'=w.setCell ⟨b,0,none⟩ (.pointer (some ⟨b,0,none⟩)):=by
 obtain⟨j,hj,hjs⟩:=k7.1 Tryz.bX;have mixed:=Tryz.HI;have t72:=Tryz.underlying295;have a72:=Tryz.isAgg295;have z72:=Tryz.sizeOf295;have v72:=Tryz.zeroValue295;have u72:=run_underlying t72;have t70:=Tryz.underlying293;have a70:=Tryz.isAgg293;have z70:=Tryz.sizeOf293;have v70:=Tryz.zeroValue293;have u70:=run_underlying t70;have t4:=Tryz.underlying4;have a4:=Tryz.isAgg4;have z4:=Tryz.sizeOf4;have v4:=Tryz.zeroValue4;have u4:=run_underlying t4;have t164:=Tryz.underlying328;have a164:=Tryz.isAgg328;have z164:=Tryz.sizeOf328;have v164:=Tryz.zeroValue328;have u164:=run_underlying t164
 go_enter Tryz.func318,Tryz.ntmps318
 go_wp2
 rw[Lib.run_to_unsafe w ⟨b,0,none⟩ t70 t164 hj (by rw[hjs];decide) hsh (Nat.zero_lt_succ 1)];simp only[Result.andThen];rw[Oper.upon_value]
 go_wp2
 rw[run_callFunc_extern Tryz.func332 kF kF kF (e:=Extern.AbiNoEscape.same) kF];rw[Lib.run_noEscape];simp only[Result.andThen];rw[Oper.upon_value]
 go_wp2
 rw[Lib.run_from_unsafe w ⟨b,0,none⟩ t164 t70 hj hsh Tryz.Ve];simp only[Result.andThen];rw[Oper.upon_value]
 go_wp2
 go_end0
 exact⟨rfl,rfl⟩

theorem Tryz.Sd(B b:Nat)(bs:List Value)(w:World)(h:Lib.IsBuilderF 295 5 B b bs w):
  Calls Tryz.prog 318 #[.pointer (some ⟨b,0,none⟩)] w fun e w'=>e= .returned (.tuple #[])/\(Lib.BuilderAtF 295 5 B b (.pointer (some ⟨b,0,none⟩)) bs w'/\Below B w w'/\Lib.OthersKept 5 (some b) w w'):=by
 rcases h with h|h
 ·refine(Tryz.Fq b w h.cell0 h.shape h.frozen0).mono ?_;rintro e w' ⟨rfl,rfl⟩;exact⟨rfl,h.used _,(Below.refl B w).setCell (p:=⟨b,0,none⟩) h.1 _,(Lib.OthersKept.refl _ _ w).setCell ⟨b,0,none⟩ rfl _⟩
 ·refine(Tryz.HJ b w h.cell0).mono ?_;rintro e w' ⟨rfl,rfl⟩;exact⟨rfl,h,Below.refl B _,Lib.OthersKept.refl _ _ _⟩

set_option maxHeartbeats 2000000 in
set_option maxRecDepth 100000 in
theorem Tryz.HK(B b:Nat)(bs:List Value)(s:ByteArray)(w:World)(h:Lib.IsBuilderF 295 5 B b bs w)(hlen:bs.length+s.size<=140737488355328)(hBw:B<=w.heap.size):
  Calls Tryz.prog 302 #[.pointer (some ⟨b,0,none⟩),.string s] w fun e w'=>e= .returned (.tuple #[.int .i64 s.size,.nilIface])/\(Lib.BuilderAtF 295 5 B b (.pointer (some ⟨b,0,none⟩)) (bs++Lib.strCells s) w'/\Below B w w'/\Lib.OthersKept 5 (some b) w w'):=by
 obtain⟨i0,hi,hz0,hz1,hz2⟩:=info_parts Tryz.bInfo;have mixed:=Tryz.HI;have t72:=Tryz.underlying295;have a72:=Tryz.isAgg295;have z72:=Tryz.sizeOf295;have v72:=Tryz.zeroValue295;have u72:=run_underlying t72;have t70:=Tryz.underlying293;have a70:=Tryz.isAgg293;have z70:=Tryz.sizeOf293;have v70:=Tryz.zeroValue293;have u70:=run_underlying t70;have t37:=Tryz.underlying251;have a37:=Tryz.isAgg251;have z37:=Tryz.sizeOf251;have v37:=Tryz.zeroValue251;have u37:=run_underlying t37;have t3:=Tryz.underlying3;have a3:=Tryz.isAgg3;have z3:=Tryz.sizeOf3;have v3:=Tryz.zeroValue3;have u3:=run_underlying t3;have t9:=Tryz.underlying9;have a9:=Tryz.isAgg9;have z9:=Tryz.sizeOf9;have v9:=Tryz.zeroValue9;have u9:=run_underlying t9;have t4:=Tryz.underlying4;have a4:=Tryz.isAgg4;have z4:=Tryz.sizeOf4;have v4:=Tryz.zeroValue4;have u4:=run_underlying t4;have t5:=Tryz.underlying5;have a5:=Tryz.isAgg5;have z5:=Tryz.sizeOf5;have v5:=Tryz.zeroValue5;have u5:=run_underlying t5;have e240:∀args w,(callFunc 318 args).run Tryz.prog w= .ok (.enter 318 args) w:=enters_of Tryz.func318 kF rfl
 go_enter Tryz.func302,Tryz.ntmps302
 go_wp2_with (go_at_fn 318;refine(Tryz.Sd B b bs _ h).mono ?_)
 rintro e w1 ⟨rfl,h1,hb1,hk1⟩;obtain⟨hB,v,hbk,hown,hne⟩:=h1;have c0:w1.cell? ⟨b,0,none⟩=some (.pointer (some ⟨b,0,none⟩)):=by rw[Lib.cell_of_heap hbk];rfl
 have c1:w1.cell? ⟨b,1,none⟩=some v:=by rw[Lib.cell_of_heap hbk];rfl
 go_wp2_with (at_builtin;refine Lib.wpList_append_own_stringF _ rfl _ _ 251 9 rfl B 5 i0 t37 t9 hi hz0 hz1 hz2 _ _ _ rfl hown s rfl ?c3 ?c4 ?c5 ?_)
 case c3=>unfold maxLen;omega
 case c4=>omega
 case c5=>have:=hb1.size;omega
 intro v' w2 hown' hgrow _;have hlt:b<w1.heap.size:=by
  rcases B7 b w1.heap.size with h'|h'
  ·exact h'
  ·simp[rm h']at hbk
 have hb2:w2.heap[b]? =some (.cells #[.pointer (some ⟨b,0,none⟩),v] 295 (0,0)):=by
  rw[hgrow.block b hlt (fun e=>hne e.symm)];exact hbk
 have d0:w2.cell? ⟨b,0,none⟩=some (.pointer (some ⟨b,0,none⟩)):=by rw[Lib.cell_of_heap hb2];rfl
 have d1:w2.cell? ⟨b,1,none⟩=some v:=by rw[Lib.cell_of_heap hb2];rfl
 have f1:w2.frozen? ⟨b,1,none⟩=false:=Lib.frozen_of_heap hb2 1;obtain⟨ao,n',cap,rfl⟩:∃ao n' cap,v'= .slice ao n' cap:=by
  rcases hown'.2 with⟨hv,_⟩|⟨g,cap,cur,fz,hv,_⟩
  ·exact⟨_,_,_,hv⟩
  ·exact⟨_,_,_,hv⟩
 go_wp2
 go_ret2
 refine⟨rfl,?_,?_,(hk1.grown hgrow (Lib.ownsRowF_kind hown)).setCell ⟨b,1,none⟩ rfl _⟩
 ·exact Lib.BuilderAtF.put (T:=295) (e:=5) hB hb2 (bs':=bs++Lib.strCells s) (by simpa[Lib.strCells_length]using hown') dc
 ·exact(hb1.grown hgrow (by have:=hb1.size;omega) (fun k hk=>(hown.lt k hk).1)).setCell (p:=⟨b,1,none⟩) hB _
end Go.Proofs

open Go.Proofs.YtgfkeadgjkfomaaGreatDoor
namespace Go.Proofs
open Go.Shelf Go.RowKit Go.Sort Go.Lib

theorem Tryz.Se(w:World)(T:TypeId)(nd:Nat)(hs:nd<=24):Holds (fun(b:UInt8)=>Value.int .u8 (b.toNat:Int)) (w.alloc (.cells zeros24 T)) w.heap.size 0 (Array.replicate nd (0:UInt8)):=fun j hj=>by
 have hj':j<nd:=by simpa using hj
 refine⟨?_,World.frozen?_alloc_new _ _ _ _⟩;rw[World.cell?_alloc_new,zeros24_at _ om,getElem!_pos _ j hj];simp
theorem Tryz.Zi(w:World)(o:Obj)(dk:Array UInt8)(k:Nat):∃os,(putRow (fun(b:UInt8)=>Value.int .u8 (b.toNat:Int)) (w.alloc o) w.heap.size 0 dk).drewN k=grow (w.drewN k) os:=by
 rw[alloc_eq_grow];obtain⟨os',_,e⟩:=putRow_grow_new (fun(b:UInt8)=>Value.int .u8 (b.toNat:Int)) w #[o] w.heap.size 0 dk lf;exact⟨os',by rw[e];rfl⟩

set_option maxHeartbeats 6400000 in
set_option maxRecDepth 100000 in
theorem Tryz.Zj(u:Nat)(hu64:u<18446744073709551616)(w:World)
  (htab : Lib.TabIs Tryz.prog w "internal/strconv.uint64pow10" .u64 Lib.pow10Tab) :
  Calls Tryz.prog 317 #[.int .u64 u,.int .i64 10] w fun e w'=>e= .returned (.string ⟨(Lib.decDigits u).toArray⟩)/\∃k os,w'=grow (w.drewN k) os:=by
 have mixed:Tryz.prog.follows .mixedOrders=true:=kF;have t3:=Tryz.underlying3;have a3:=Tryz.isAgg3;have z3:=Tryz.sizeOf3;have v3:=Tryz.zeroValue3;have t9:=Tryz.underlying9;have a9:=Tryz.isAgg9;have z9:=Tryz.sizeOf9;have v9:=Tryz.zeroValue9;have t4:=Tryz.underlying4;have a4:=Tryz.isAgg4;have z4:=Tryz.sizeOf4;have v4:=Tryz.zeroValue4;have t171:=Tryz.underlying252;have a171:=Tryz.isAgg252;have z171:=Tryz.sizeOf252;have v171:=Tryz.zeroValue252;have t53:=Tryz.underlying244;have a53:=Tryz.isAgg244;have z53:=Tryz.sizeOf244;have v53:=Tryz.zeroValue244;have t37:=Tryz.underlying251;have a37:=Tryz.isAgg251;have z37:=Tryz.sizeOf251;have v37:=Tryz.zeroValue251;have t5:=Tryz.underlying5;have a5:=Tryz.isAgg5;have z5:=Tryz.sizeOf5;have v5:=Tryz.zeroValue5;have e1:∀args w,(callFunc 250 args).run Tryz.prog w= .ok (.enter 250 args) w:=enters_of Tryz.func250 kF rfl
 have e2:∀args w,(callFunc 251 args).run Tryz.prog w= .ok (.enter 251 args) w:=enters_of Tryz.func251 kF rfl
 have e3:∀args w,(callFunc 252 args).run Tryz.prog w= .ok (.enter 252 args) w:=enters_of Tryz.func252 kF rfl
 by_cases hs:u<100
 ·go_enter Tryz.func317,Tryz.ntmps317
  go_wp2_with (go_at_fn 250;refine(Tryz.internal_strconv_small u hs _).mono ?_;rintro e w' ⟨rfl,rfl⟩)
  go_ret
  exact⟨rfl,0,#[],by simp[World.drewN_zero]⟩
 ·have hu1:1<=u:=om;have hnd20:Lib.nDigits u<=20:=by have:=Lib.numDigits_eq u hu1 hu64;split at this<;>omega
  have hal:Tryz.prog.arrayLen 252=24:=kF;have hsl1:∀W,(Instr.sliceAt 252 (.pointer (some ⟨w.heap.size,0,none⟩)) none (some (.int .i64 (Lib.nDigits u:Int))) none).run Tryz.prog W= .ok (.slice (some ⟨w.heap.size,0,none⟩) (Lib.nDigits u) 24) W:=fun W=>by
   rw[run_sliceAt_array_h W 252 ⟨w.heap.size,0,none⟩ (by rw[hal];exact t171) .i64 (Lib.nDigits u:Int) om (by rw[hal];omega)];rw[hal]
   go_simp
  have hH0:=Tryz.Se w 252 (Lib.nDigits u) om;have hfmt:=Tryz.internal_strconv_formatBase10 w.heap.size 0 24 u (Array.replicate (Lib.nDigits u) 0) (w.alloc (.cells Lib.zeros24 252)) hH0 (by rw[JM];exact Lib.lt_pow_nDigits u) hu64 (by rw[JM];omega);rw[JM]at hfmt;have HH0:=Lib.hid hH0;clear hH0 hal
  go_enter Tryz.func317,Tryz.ntmps317
  go_wp2_with (first
   |(go_at_fn 251;refine(Tryz.internal_strconv_numDigits u hu1 hu64 _ (Lib.tabIs_alloc htab _)).mono ?_;rintro e w' ⟨rfl,rfl⟩))
  go_at_fn 252
  refine hfmt.mono ?_;rintro e w' ⟨rfl,k,v',dk,rfl,hF⟩;have hcv:(convert 251 9 (.slice (some ⟨w.heap.size,0,none⟩) (Lib.nDigits u) 24)).run Tryz.prog ((putRow (fun(b:UInt8)=>Value.int .u8 (b.toNat:Int)) (w.alloc (.cells Lib.zeros24 252)) w.heap.size 0 dk).drewN k)= .ok (.string ⟨(Lib.decDigits u).toArray⟩) ((putRow (fun(b:UInt8)=>Value.int .u8 (b.toNat:Int)) (w.alloc (.cells Lib.zeros24 252)) w.heap.size 0 dk).drewN k):=by
   have h:=run_convert_bytes_back (P:=Tryz.prog) ((putRow (fun(b:UInt8)=>Value.int .u8 (b.toNat:Int)) (w.alloc (.cells Lib.zeros24 252)) w.heap.size 0 dk).drewN k) 251 9 5 ⟨w.heap.size,0,none⟩ 24 (Lib.decDigits u) t37 t5 t9 (fun j hj=>by
    rw[Lib.row_is_numeral hF j hj,Lib.add_plain,World.cell?_drewN];exact cell?_putRow (fun(b:UInt8)=>Value.int .u8 (b.toNat:Int)) _ w.heap.size 0 _ dk HH0.out (by rw[hF.size,JM]) j (by rw[hF.size];rw[Lib.decDigits_length]at hj;exact hj))
   rw[Lib.decDigits_length]at h;exact h
  go_wp2
  go_ret
  obtain⟨os,eo⟩:=Tryz.Zi w (.cells Lib.zeros24 252) dk k;exact⟨rfl,k,os,eo⟩

set_option maxRecDepth 100000 in
theorem Tryz.HL(u:Nat)(hu64:u<18446744073709551616)(w:World)
  (htab : Lib.TabIs Tryz.prog w "internal/strconv.uint64pow10" .u64 Lib.pow10Tab) :
  Calls Tryz.prog 301 #[.int .u64 u,.int .i64 10] w fun e w'=>e= .returned (.string ⟨(Lib.decDigits u).toArray⟩)/\∃k os,w'=grow (w.drewN k) os:=by
 have mixed:Tryz.prog.follows .mixedOrders=true:=kF;have t3:=Tryz.underlying3;have a3:=Tryz.isAgg3;have z3:=Tryz.sizeOf3;have v3:=Tryz.zeroValue3;have t9:=Tryz.underlying9;have a9:=Tryz.isAgg9;have z9:=Tryz.sizeOf9;have v9:=Tryz.zeroValue9;have t53:=Tryz.underlying244;have a53:=Tryz.isAgg244;have z53:=Tryz.sizeOf244;have v53:=Tryz.zeroValue244;have e246:∀args w,(callFunc 317 args).run Tryz.prog w= .ok (.enter 317 args) w:=enters_of Tryz.func317 kF rfl
 go_enter Tryz.func301,Tryz.ntmps301
 go_wp2_with (go_at_fn 317;refine(Tryz.Zj u hu64 _ htab).mono ?_;rintro e w' ⟨rfl,k,os,rfl⟩)
 go_ret
 exact⟨rfl,k,os,rfl⟩
end Go.Proofs

set_option maxRecDepth 100000
set_option maxHeartbeats 4000000
namespace Go.Proofs.YtgfkeadgjkfomaaGreatDoor.F
open Go Go.RowKit Go.Proofs Go.Proofs.YtgfkeadgjkfomaaGreatDoor.Vc
def cmp_Compare_int.cx:Pm:=([],[])
theorem cmp_Compare_int.vc{b c:Int}{w:World}{R:Kt}
  (h:(Pure P 74 #[.int .i64 b] w (Rb fun e f=>(Pure P 74 #[.int .i64 c] f (Rb fun d a=>(Bb e (Bb d (R (.int .i64 0) a) (R (.int .i64 (-1:Int)) a)) (Bb d (R (.int .i64 1) a) (Br (b<c) (R (.int .i64 (-1:Int)) a) (Br (b>c) (R (.int .i64 1) a) (R (.int .i64 0) a)))))))))):
  Pure P 45 #[.int .i64 b,.int .i64 c] w R:=
 pr cmp_Compare_int.cx Tryz.func45 h

def cmp_isNaN_int.cx:Pm:=([],[])
theorem cmp_isNaN_int.vc{a:Int}{w:World}{R:Kt}
  (h:(R (.bool (decide (a≠a))) w)):
  Pure P 74 #[.int .i64 a] w R:=
 pr cmp_isNaN_int.cx Tryz.func74 h

def eU.L3(a:Int)(b:O)(c d:Nat)(e f:Int):=Lt 91 Tryz.f91 3 [(3,.v (.int .i64 a)),(6,.v (.slice b c d)),(7,.v (.int .i64 e)),(8,.v (.int .i64 f))] []
def eU.cx:Pm:=([((true,3),[3,6,7,8],[])],[])
theorem eU.L3.step{b c a:Int}{d:O}{e g B:Nat}{w:World}{R:Kt}
  (h:(Br (a<c) (Ix a e d fun i=>(∃f,ae w (i.add ((a).toNat*1)) [.int .i64 f]/\(Br (f≠b) (R (.int .i64 f) w) (az .i64 (a+1)/\(eU.L3 b d e g c (a+1) B w R))))) (R (.int .i64 b) w))):
  eU.L3 b d e g c a B w R:=
 lr eU.cx Tryz.func91 h
theorem eU.vc{b:O}{a c:Nat}{w:World}{R:Kt}
  (h:(eU.L3 (0:Int) b a c (a:Int) (0:Int) w.heap.size w R)):
  Pure P 91 #[.slice b a c] w R:=
 pr eU.cx Tryz.func91 h

def strconv_Itoa.cx:Pm:=([],[])
theorem strconv_Itoa.vc{a:Int}{w:World}{R:Kt}
  (h:(Pure P 195 #[.int .i64 a] w (Rt fun b c=>(R (.string b) c)))):
  Pure P 169 #[.int .i64 a] w R:=
 pr strconv_Itoa.cx Tryz.func169 h

def strings_Cut.cx:Pm:=([],[])
theorem strings_Cut.vc{a b:ByteArray}{w:World}{R:Kt}
  (h:(Pure P 241 #[.string a,.string b] w fun f g=>∃c d e,f= .tuple #[.string c,.string d,.bool e]/\(R (.tuple #[.string c,.string d,.bool e]) g))):
  Pure P 211 #[.string a,.string b] w R:=
 pr strings_Cut.cx Tryz.func211 h

def strings_CutPrefix.cx:Pm:=([],[])
theorem strings_CutPrefix.vc{a b:ByteArray}{w:World}{R:Kt}
  (h:(Pure P 277 #[.string a,.string b] w fun e f=>∃c d,e= .tuple #[.string c,.bool d]/\(R (.tuple #[.string c,.bool d]) f))):
  Pure P 254 #[.string a,.string b] w R:=
 pr strings_CutPrefix.cx Tryz.func254 h

def kI.cx:Pm:=([],[])
theorem kI.vc{b c:Int}{w:World}{R:Kt}
  (h:(Pure P 323 #[.int .u32 b] w (Rb fun e f=>(Pure P 323 #[.int .u32 c] f (Rb fun d a=>(Bb e (Bb d (R (.int .i64 0) a) (R (.int .i64 (-1:Int)) a)) (Bb d (R (.int .i64 1) a) (Br (b<c) (R (.int .i64 (-1:Int)) a) (Br (b>c) (R (.int .i64 1) a) (R (.int .i64 0) a)))))))))):
  Pure P 306 #[.int .u32 b,.int .u32 c] w R:=
 pr kI.cx Tryz.func306 h

def mF.cx:Pm:=([],[])
theorem mF.vc{a:Int}{w:World}{R:Kt}
  (h:(R (.bool (decide (a≠a))) w)):
  Pure P 323 #[.int .u32 a] w R:=
 pr mF.cx Tryz.func323 h

end Go.Proofs.YtgfkeadgjkfomaaGreatDoor.F

namespace Go.Proofs.YtgfkeadgjkfomaaGreatDoor.B
open Go Go.RowKit Go.Proofs Go.Proofs.YtgfkeadgjkfomaaGreatDoor.Vc

theorem gM.load{w:World}{A:Option Addr}{ws:List Nat}{n:Nat}(h:gM w A ws)(hl:ws.length=n){j:Int}(h0:0<=j)(h1:j<n){K:Int->Prop}(k:K (ws.getD j.toNat 0:Nat)):
  (0<=j/\j<n)/\∃a,A=some a/\∃i:Int,ae w (a.add (j.toNat*1)) [.int .u32 i]/\K i:=by
 obtain⟨a,c,x,hx,d⟩:=h.cell h0 om;refine⟨⟨h0,h1⟩,a,c,_,d,?_⟩;rw[cN,hx]at k;exact k

theorem du.store{w:World}{B:Nat}{A:Option Addr}{n c:Nat}{ws:List Nat}(ho:du w B A n c ws){j x:Int}(h0:0<=j)(h1:j<n)(hx:0<=x){d:List qO}(hb:hasType 217 d=false){K:World->Prop}
  (h:∀w1,du w1 B A n c (ws.set j.toNat x.toNat)->Below B w w1->(∀k,some k≠Value.ownBlock (.slice A n c)->w1.heap[k]? =w.heap[k]?)->K w1):
  (0<=j/\j<n)/\∃a,A=some a/\∃(cs:List Value)(t:Nat),B<=(a.add (j.toNat*1)).block/\(a.add (j.toNat*1)).spot=none/\w.heap[(a.add (j.toNat*1)).block]? =some (.cells cs.toArray t (0,0))/\
   (a.add (j.toNat*1)).off+1<=cs.length/\hasType t d=false/\∀w1,dd w w1 (a.add (j.toNat*1)).block t (setCells cs (a.add (j.toNat*1)).off [.int .u32 x])->K w1:=by
 have hl:=ho.len;refine⟨⟨h0,h1⟩,?_⟩;have y:∃a,A=some a:=by
  rcases ho.2 with⟨e,i⟩|⟨g,cap,cur,e,_⟩
  ·omega
  ·cases e;exact⟨_,rfl⟩
 obtain⟨a,rfl⟩:=y;obtain⟨cs,l,m,o,q,z,C⟩:=ui ho (off:=j.toNat) (vs:=[.int .u32 x]) (by simp[gj];omega);obtain⟨b,off,sp⟩:=a;simp only at l m o q;subst m o;refine⟨_,rfl,cs,217,?_⟩;rw[ib];simp only[JA,oi];refine⟨l,trivial,q,by simpa using z,hb,fun w1 hw=> ?_⟩;refine h w1 ?_ ⟨hw.os,hw.tape,hw.output,by rw[hw.size];exact hM _,fun k r=>hw.rest k om⟩ fun k r=>hw.rest k fun e=>r (by simp[Value.ownBlock,e])
 have:=C w1 hw;unfold du;have e:(x.toNat:Int)=x:=om;have i:gj (ws.set j.toNat x.toNat)=setCells (gj ws) j.toNat [.int .u32 x]:=by simp[gj,setCells,EF,e]
 rw[i];exact this

theorem mG:∀(l:List Nat)(j x:Nat),j<l.length->wv (l.set j x)+1000000000^j*l.getD j 0=wv l+1000000000^j*x:=by
 intro l;induction l with
 |nil=>intro j x h;simp at h
 |cons y r ih=>
  intro j x h;cases j with
  |zero=>simp[wv];omega
  |succ j=>
   have:=ih j x (by simpa using h);simp only[List.set_cons_succ,wv,List.getD_cons_succ,hL];grind
theorem Small.set{l:List Nat}(h:Small l){j x:Nat}(hx:x<1000000000):Small (l.set j x):=fun y hy=>by
 rcases DD hy with h1|rfl
 ·exact h y h1
 ·exact hx
theorem vY(n:Nat):wv (List.replicate n 0)=0:=by
 induction n with
 |zero=>rfl
 |succ n ih=>simp[FM,wv,ih]

def BF(w:World)(B:Nat)(A:Option Addr)(n c x:Nat):Prop:=∃ws,du w B A n c ws/\Small ws/\Norm ws/\wv ws=x
theorem du.take{w:World}{B:Nat}{A:Option Addr}{n c:Nat}{ws:List Nat}(h:du w B A n c ws){m:Nat}(hm:m<=n)(hn:A≠none∨m=n):du w B A m c (ws.take m):=by
 have hl:=h.len;refine⟨by simp[gj];omega,?_⟩;rcases h.2 with⟨e,j⟩|⟨g,cap,cur,e,h1,h2,h3,h4,d,i⟩
 ·cases e;have h0:m=0:=om;subst h0;exact .inl ⟨rfl,rfl⟩
 ·cases e;refine .inr ⟨g,c,cur,rfl,h1,h2,om,h4,d,?_⟩;have:(gj ws).take m=gj (ws.take m):=by simp[gj,LN]
  rw[<-this,<-i,AD,JA,JA,iv hm]

theorem mH{w:World}{B:Nat}{A:Option Addr}{n c:Nat}{ws:List Nat}(h:du w B A n c ws)(hn:n<2147483648)(hs:Small ws):
  Pure Tryz.prog 280 #[.slice A n c] w fun v w'=>w'=w/\∃m,v= .slice A m c/\BF w B A m c (wv ws)/\ee w A m c (wv ws):=
 pm (lN h.sl h.len h.cap hn hs) fun v w' _ ⟨e,m,d,h2,h3,h4,i⟩=>⟨e,m,d,⟨ws.take m,h.take h3 (by
  rcases h.2 with⟨e,d⟩|⟨g,cap,cur,e,_⟩
  ·right;omega
  ·cases e;exact .inl sm),hs.take m,h4,i⟩,h2⟩

theorem gM.aj{w w':World}{A:Option Addr}{ws:List Nat}{B:Nat}(h:gM w A ws)(hb:Below B w w')(hB:w.heap.size<=B):gM w' A ws:=h.below (hb.mono hB)

theorem El.tw:(Tryz.prog.info? 217).bind (·.zero)=some (.int .u32 0):=kF

section
variable {w0:World} {A1 A0:Option Addr} {n1 c1 n0 c0:Nat} {a b:List Nat} {R:Value->World->Prop}

structure qu (w:World) (B:Nat) (A:Option Addr) (n c:Nat) (ws:List Nat) (k:Nat):Prop where
 own:du w B A n c ws
 small:Small ws
 zero:∀j,k<=j->ws.getD j 0=0

theorem Fs(hb:gM w0 A1 b)(G:b.length=n1)(H:Small b){i x:Nat}(hx:x<1000000000){n:Nat}(hn:i+n1<n)(T:n<=1000000){A:Option Addr}{c:Nat}{m:Int}{base:Nat}
  (I:∀w ws,qu w w0.heap.size A n c ws (i+1+n1)->Below w0.heap.size w0 w->wv ws=base+1000000000^i*x*wv b->
   F.bA.L3 A1 n1 c1 A n c A0 n0 c0 m ((i:Int)+1) w0.heap.size w R):
  ∀(d k:Nat)(w:World)(ws:List Nat)(s:Nat),n1 - k=d->k<=n1->qu w w0.heap.size A n c ws (i+n1)->Below w0.heap.size w0 w->s<1000000000->
   wv ws+1000000000^(i+k)*s=base+1000000000^i*x*wv (b.take k)->
   F.bA.L7 A1 n1 c1 A n c i x s A0 n0 c0 m i A1 n1 c1 n1 k w0.heap.size w R:=by
 intro d;induction d with
 |zero=>
  intro k w ws s J K inv hw hs he;have L:k=n1:=om;subst L;have M:b.take k=b:=bx om;rw[M]at he;refine F.bA.L7.step ⟨fun h=>by omega,fun _=>⟨ir,ir,?_⟩⟩;refine inv.own.store om om om rfl fun w1 o1 b1 _=>⟨ir,?_⟩
  have e:((i:Int)+(k:Int)).toNat=i+k:=om;rw[e,dq]at o1;have hl:=inv.own.len;have g:=mG ws (i+k) s om;rw[inv.zero (i+k) lf]at g;refine I w1 _ ⟨o1,inv.small.set hs,fun j hj=> ?_⟩ (hw.trans b1) om;rw[cN,qH om,<-cN];exact inv.zero j om
 |succ d ih=>
  intro k w ws s J K inv hw hs he;have hl:=inv.own.len;have N:=H.getD k;have go:=inv.small.getD (i+k);have e:((i:Int)+(k:Int)).toNat=i+k:=om;obtain⟨y,hy⟩:∃y,y=b.getD k 0:=⟨_,rfl⟩
  obtain⟨z,l⟩:∃z,z=ws.getD (i+k) 0:=⟨_,rfl⟩
  rw[<-hy]at N;rw[<-l]at go;have O:x*y<=999999999*999999999:=lq om om;have o:(x:Int)*(y:Int)=((x*y:Nat):Int):=by simp
  refine F.bA.L7.step ⟨fun _=> ?_,fun h=>by omega⟩;refine(hb.aj hw lf).load G om om ?_;rw[dq,<-hy,o];refine⟨ir,ir,ir,ir,?_⟩;refine inv.own.sl.load hl om om ?_;rw[e,<-l];refine⟨ir,ir,ir,ir,om,ir,?_⟩;rw[<-e];refine inv.own.store om om om rfl fun w1 o1 b1 _=>⟨⟨om,om,ir⟩,ir,?_⟩
  obtain⟨t,S⟩:∃t:Nat,t=s+(x*y+z):=⟨_,rfl⟩
  have B:(s:Int)+(((x*y:Nat):Int)+(z:Int))=((t:Nat):Int):=om;rw[B]at o1⊢;have C:((t:Int) % 1000000000).toNat=t % 1000000000:=om;have D:(t:Int) / 1000000000=((t / 1000000000:Nat):Int):=om;have E:=sc k;rw[e,C]at o1;rw[D,E];have g:=mG ws (i+k) (t % 1000000000) om;rw[<-l]at g;refine ih (k+1) w1 _ (t / 1000000000) om om ⟨o1,inv.small.set om,fun j hj=> ?_⟩ (hw.trans b1) om ?_
  ·rw[cN,qH om,<-cN];exact inv.zero j om
  ·rw[cY,<-hy];have hm:t % 1000000000+1000000000*(t / 1000000000)=s+(x*y+z):=om;rw[show i+(k+1)=(i+k)+1 from rfl,hL];have hp:1000000000^(i+k)=1000000000^i*1000000000^k:=PS _ _ _;generalize t % 1000000000=r at*;generalize t / 1000000000=q at*;generalize wv (ws.set (i+k) r)=U at*;generalize wv ws=W at*;generalize wv (List.take k b)=V at*;rw[hp]at g he⊢;generalize 1000000000^i=P at*;generalize 1000000000^k=Q at*;clear O o B C D E o1 l hy S;grind

theorem Ft(ha:gM w0 A0 a)(e:a.length=n0)(g:Small a)(hb:gM w0 A1 b)(j:b.length=n1)(k:Small b){A:Option Addr}{n c:Nat}(hn:n=n0+n1)(l:n<=1000000)
  (o:∀m w,ee w A m c (wv a*wv b)->BF w w0.heap.size A m c (wv a*wv b)->Below w0.heap.size w0 w->R (.slice A m c) w):
  ∀(d i:Nat)(w:World)(ws:List Nat),n0 - i=d->i<=n0->qu w w0.heap.size A n c ws (i+n1)->Below w0.heap.size w0 w->wv ws=wv (a.take i)*wv b->
   F.bA.L3 A1 n1 c1 A n c A0 n0 c0 n0 i w0.heap.size w R:=by
 intro d;induction d with
 |zero=>
  intro i w ws q hi inv hw he;have r:a.take i=a:=bx om;rw[r]at he;refine F.bA.L3.step ⟨fun h=>by omega,fun _=> ?_⟩;refine pm (mH inv.own om inv.small) ?_;rintro v x y ⟨rfl,m,rfl,h,h2⟩;rw[he]at h h2;exact⟨A,m,c,rfl,o m x h2 h hw⟩
 |succ d ih=>
  intro i w ws q hi inv hw he;refine F.bA.L3.step ⟨fun _=> ?_,fun h=>by omega⟩;refine(ha.aj hw lf).load e om om ?_;rw[dq];refine Fs hb j k (g.getD i) om l (base:=wv ws) (fun w1 z B C D=> ?_) n1 0 w ws 0 om om inv hw om (by simp[wv]);have E:=sc i;rw[E];refine ih (i+1) w1 z om om B C ?_;rw[D,he,cY,mw]
end

theorem pO{w:World}{A0 A1:Option Addr}{n0 c0 n1 c1 x y:Nat}(ha:ee w A0 n0 c0 x)(hb:ee w A1 n1 c1 y)(hx:x<dL)(hy:y<dL):
  Pure Tryz.prog 257 #[.slice A0 n0 c0,.slice A1 n1 c1] w fun v w'=>∃A n c,v= .slice A n c/\ee w' A n c (x*y)/\BF w' w.heap.size A n c (x*y):=by
 have o:=ha.len hx;have q:=hb.len hy;obtain⟨a,g,a2,a3,a4,a5,r,rfl⟩:=ha;obtain⟨b,b1,h,z,B,i,C,rfl⟩:=hb;refine F.bA.vc ⟨ir,?_⟩;refine kH pN El.tw rfl om om lf fun A n e hn k _ l=> ?_
 have d:du e w.heap.size A n n (List.replicate n 0):=by
  unfold du;have:gj (List.replicate n 0)=List.replicate n (.int .u32 0):=by simp[gj]
  rw[this];exact k
 refine Ft g a2 a5 b1 h i om om (fun m D h1 h2 h3=>⟨A,m,n,rfl,h1,h2⟩) n0 0 e _ rfl om ⟨d,fun x hx=>by rw[Ao hx];omega,fun j _=> ?_⟩ l ?_
 ·rw[cN,GM];split<;>rfl
 ·rw[vY];simp[wv]

def eW(a b:Int):Int:=if a<b then -1 else if a>b then 1 else 0

theorem yD(a b:Int)(w:World):Pure Tryz.prog 45 #[.int .i64 a,.int .i64 b] w fun v _=>v= .int .i64 (eW a b):=by
 have nan:∀(a:Int)(w:World),Pure Tryz.prog 74 #[.int .i64 a] w fun v _=>v= .bool false:=fun a w=>F.cmp_isNaN_int.vc sm
 refine F.cmp_Compare_int.vc (pm (nan _ _) ?_);rintro v c _ rfl;refine⟨false,rfl,pm (nan _ _) ?_⟩;rintro v d _ rfl;refine⟨false,rfl,fun h=>(by cases h),fun _=>⟨fun h=>(by cases h),fun _=>⟨fun h=>by simp[eW,h],fun h=>⟨fun h2=>by simp[eW,h,h2],fun h2=>by simp[eW,h,h2]⟩⟩⟩⟩
theorem O9(a b:Int)(w:World):Pure Tryz.prog 306 #[.int .u32 a,.int .u32 b] w fun v _=>v= .int .i64 (eW a b):=by
 have nan:∀(a:Int)(w:World),Pure Tryz.prog 323 #[.int .u32 a] w fun v _=>v= .bool false:=fun a w=>F.mF.vc sm
 refine F.kI.vc (pm (nan _ _) ?_);rintro v c _ rfl;refine⟨false,rfl,pm (nan _ _) ?_⟩;rintro v d _ rfl;refine⟨false,rfl,fun h=>(by cases h),fun _=>⟨fun h=>(by cases h),fun _=>⟨fun h=>by simp[eW,h],fun h=>⟨fun h2=>by simp[eW,h,h2],fun h2=>by simp[eW,h,h2]⟩⟩⟩⟩

theorem eS(l:List Nat)(j:Nat):wv (l.drop j)=l.getD j 0+1000000000*wv (l.drop (j+1)):=by
 by_cases h:j<l.length
 ·rw[ec h,wv,cN,af h];rfl
 ·rw[dp om,dp om,cN,kl om];rfl
theorem fe(l:List Nat)(j:Nat)(h:j<=l.length):wv l=wv (l.take j)+1000000000^j*wv (l.drop j):=by
 conv=>lhs;rw[<-ly j l]
 rw[dT,fs,iv h]

theorem vZ{a b:List Nat}(c:Small a){j:Nat}(ha:j<a.length)(hb:j<b.length)(d:a.drop (j+1)=b.drop (j+1))(h:a.getD j 0<b.getD j 0):wv a<wv b:=by
 rw[fe a j om,fe b j om,eS a,eS b,d];have h1:=ig (c.take j);rw[fs,iv om]at h1;have h2:1000000000^j*(a.getD j 0+1+1000000000*wv (b.drop (j+1)))<=1000000000^j*(b.getD j 0+1000000000*wv (b.drop (j+1))):=gO _ om;have h3:1000000000^j*(a.getD j 0+1+1000000000*wv (b.drop (j+1)))=1000000000^j+1000000000^j*(a.getD j 0+1000000000*wv (b.drop (j+1))):=by
  rw[show a.getD j 0+1+1000000000*wv (b.drop (j+1))=1+(a.getD j 0+1000000000*wv (b.drop (j+1))) by omega,jv,JA]
 omega
theorem oy{a b:List Nat}(c:Small a)(d:Norm b)(h:a.length<b.length):wv a<wv b:=by
 have h1:=ig c;have h2:=lM d (fun k=>by subst k;simp at h);have h3:1000000000^a.length<=1000000000^(b.length - 1):=fy om om;omega

theorem Ext.Vf{w w':World}{B:Nat}{A:Option Addr}{ws:List Nat}(h:gM w A ws)(he:Ext B [] w w'):gM w' A ws:=h.ext he sm

theorem DO{w0:World}{A0 A1:Option Addr}{n0 c0 n1 c1:Nat}{a b:List Nat}{R:Value->World->Prop}(ha:gM w0 A0 a)(c:a.length=n0)(n:Small a)(hb:gM w0 A1 b)(j:b.length=n1)(o:Small b)(q:n0=n1)(hn:n0<=1000000)
  (k:∀w,R (.int .i64 (eW (wv a) (wv b))) w):
  ∀(i:Nat)(w:World),i<=n0->Below w0.heap.size w0 w->a.drop i=b.drop i->F.cz.L4 A0 n0 c0 A1 n1 c1 ((i:Int) - 1) w0.heap.size w R:=by
 intro i;induction i with
 |zero=>
  intro w hi hw d;refine F.cz.L4.step ⟨fun h=>by omega,fun _=> ?_⟩;have:=k w;have e:a=b:=by simpa using d
  subst e;simpa[eW]using this
 |succ i ih=>
  intro w hi hw d;have e:((i+1:Nat):Int) - 1=i:=om;rw[e];refine F.cz.L4.step ⟨fun _=> ?_,fun h=>by omega⟩;refine(ha.aj hw lf).load c om om ?_;refine(hb.aj hw lf).load j om om ?_;rw[dq];refine⟨fun h l g=> ?_,fun h=>⟨ir,fun l g=> ?_⟩⟩
  ·have m:=hw.trans g.below;refine(ha.aj m lf).load c om om ?_;refine(hb.aj m lf).load j om om fun y z=> ?_
   rw[dq];refine pm (O9 _ _ _) ?_;rintro v r _ rfl;refine⟨_,rfl,?_⟩;have:=k r;have x:eW (a.getD i 0:Nat) (b.getD i 0:Nat)=eW (wv a) (wv b):=by
    rcases(by omega:a.getD i 0<b.getD i 0∨b.getD i 0<a.getD i 0)with h1|h1
    ·have h2:=vZ n om om d h1;simp only[eW];rw[cc om,cc om]
    ·have h2:=vZ o om om d.symm h1;simp only[eW];rw[ar om,cc om,ar om,cc om]
   rw[x];exact this
  ·refine ih l om (hw.trans g.below) ?_;have h1:a.getD i 0=b.getD i 0:=om;rw[ec (by omega:i<a.length),ec (by omega:i<b.length),d]
   congr 1
   rw[cN,cN,af om,af om]at h1;exact h1

theorem nO{w:World}{A0 A1:Option Addr}{n0 c0 n1 c1 x y:Nat}(ha:ee w A0 n0 c0 x)(hb:ee w A1 n1 c1 y)(hx:x<dL)(hy:y<dL):
  Pure Tryz.prog 282 #[.slice A0 n0 c0,.slice A1 n1 c1] w fun v _=>v= .int .i64 (eW x y):=by
 have j:=ha.len hx;have k:=hb.len hy;obtain⟨a,d,a2,a3,a4,a5,e,rfl⟩:=ha;obtain⟨b,b1,g,l,m,c,i,rfl⟩:=hb;refine F.cz.vc ⟨fun h=>pm (yD _ _ _) ?_,fun h=>⟨ir,?_⟩⟩
 ·rintro v n _ rfl;refine⟨_,rfl,?_⟩
  congr 1
  rcases(by omega:n0<n1∨n1<n0)with h1|h1
  ·have h2:=oy a5 i om;simp only[eW];rw[cc om,cc om]
  ·have h2:=oy c e om;simp only[eW];rw[ar om,cc om,ar om,cc om]
 ·refine DO d a2 a5 b1 g c om om (fun w=>rfl) n0 w lf (Below.refl _ _) ?_;rw[dp om,dp om]

theorem JO{ws:List Nat}(hs:Small ws)(hn:Norm ws):ws.length<=2↔wv ws<1000000000000000000:=by
 constructor
 ·intro h;have h1:=ig hs;have h2:1000000000^ws.length<=1000000000^2:=fy om h;omega
 ·intro h;apply ea;intro h1;have h2:=lM hn (fun k=>by subst k;simp at h1);have h3:1000000000^2<=1000000000^(ws.length - 1):=fy om om;omega

theorem jZ{w:World}{A0:Option Addr}{n0 c0 x:Nat}(ha:ee w A0 n0 c0 x):
  Pure Tryz.prog 288 #[.slice A0 n0 c0] w fun v _=>v= .tuple #[.int .u64 (if x<1000000000000000000 then x else 0:Nat),.bool (decide (x<1000000000000000000))]:=by
 obtain⟨a,b,a2,a3,a4,a5,c,rfl⟩:=ha;have d:=JO a5 c;refine F.lL.vc ⟨fun h=> ?_,fun h=>⟨fun h1=> ?_,fun h1=>⟨fun h2=> ?_,fun h2=> ?_⟩⟩⟩
 ·have:a=[]:=gz om;subst this;simp[wv]
 ·have g:a.getD (Int.toNat 0) 0<1000000000:=a5.getD 0;refine b.load a2 om om ⟨ir,?_⟩;obtain⟨x,rfl⟩:=ni.1 (by omega:a.length=1);have:x<1000000000000000000:=by simp at g;omega
  simp[wv,this]
 ·have g:a.getD (Int.toNat 0) 0<1000000000:=a5.getD 0;have g1:a.getD (Int.toNat 1) 0<1000000000:=a5.getD 1;refine b.load a2 om om ⟨ir,b.load a2 om om ⟨ir,ir,ir,fun e i=> ?_⟩⟩
  match a,(by omega:a.length=2)with
  |[x,y],_=>
   have:x+1000000000*y<1000000000000000000:=by simp at g g1;omega
   simp[wv,this]
 ·have:¬wv a<1000000000000000000:=fun k=>by have:=d.2 k;omega
  simp[this]

theorem gQ{w:World}{x:Nat}(hx:x<1000000000000000000):
  Pure Tryz.prog 289 #[.int .u64 (x:Int)] w fun v w'=>∃A n c,v= .slice A n c/\ee w' A n c x:=by
 refine F.gQ.vc ⟨om,ir,⟨om,om,ir⟩,ir,?_⟩;have g:=jk pN [.int .u32 ((x:Int) % 1000000000),.int .u32 ((x:Int) / 1000000000)] (by simp[Value.cells]) sm w;have d:=World.grownBy_alloc w (.cells #[.int .u32 ((x:Int) % 1000000000),.int .u32 ((x:Int) / 1000000000)] 217) none;have a:=bS d (B:=w.heap.size) sm lf;refine⟨_,_,g,a,a.size,fun k ty cs _ i=>d.block k (bU.1 i).1 sm,_,_,_,rfl,?_⟩;have b:du (w.alloc (.cells #[.int .u32 ((x:Int) % 1000000000),.int .u32 ((x:Int) / 1000000000)] 217)) w.heap.size (some ⟨w.heap.size,0,none⟩) 2 2 [x % 1000000000,x / 1000000000]:=by
  refine⟨by simp[gj],.inr ⟨w.heap.size,2,_,rfl,hM _,heap_alloc_new w _,hM _,by simp[maxLen],sm,by simp[gj]⟩⟩
 refine pm (mH b sm (Small.cons om (Small.cons om Small.nil))) ?_;rintro v l j ⟨rfl,m,rfl,h,h2⟩;refine⟨_,_,_,rfl,_,_,_,rfl,?_⟩;have e:wv [x % 1000000000,x / 1000000000]=x:=by simp only[wv];omega
 rw[e]at h2;exact h2

theorem Pb{w0:World}{A0:Option Addr}{n0 c0:Nat}{a:List Nat}{R:Value->World->Prop}(ha:gM w0 A0 a)(b:a.length=n0)(z:Small a)(hn:n0<=1000000){d:Nat}(j:0<d)(G:d<=1000000000){A:Option Addr}{c:Nat}
  (B:∀A n c A' n' c' w,ee w A n c (wv a / d)->ee w A' n' c' (wv a % d)->R (.tuple #[.slice A n c,.slice A' n' c']) w):
  ∀(i:Nat)(w:World)(ws:List Nat)(r:Nat),i<=n0->Below w0.heap.size w0 w->du w w0.heap.size A n0 c ws->Small ws->r<d->wv (ws.drop i)*d+r=wv (a.drop i)->
   F.dD.L4 A0 n0 c0 d A n0 c r ((i:Int) - 1) w0.heap.size w R:=by
 intro i;induction i with
 |zero=>
  intro w ws r hi hw ho hs k he;refine F.dD.L4.step ⟨fun h=>by omega,fun _=> ?_⟩;refine pm (mH ho om hs) ?_;rintro v H C ⟨rfl,m,rfl,h,h2⟩;refine⟨_,_,_,rfl,pm (gQ om) ?_⟩;rintro v I l ⟨A3,n3,c3,rfl,h3⟩;refine⟨_,_,_,rfl,?_⟩;simp only[uQ]at he;have D:wv a / d=wv ws:=by rw[<-he,ru,OI j,GO k,ob]
  have E:wv a % d=r:=by rw[<-he,ru,OL,Dz k]
  exact B _ _ _ _ _ _ _ (by rw[D];exact h2.below l) (by rw[E];exact h3)
 |succ i ih=>
  intro w ws r hi hw ho hs k he;have e:((i+1:Nat):Int) - 1=i:=om;have g:=z.getD i;rw[e];refine F.dD.L4.step ⟨fun _=>⟨ir,?_⟩,fun h=>by omega⟩;refine(ha.aj hw lf).load b om om ?_;rw[dq];obtain⟨t,J⟩:∃t:Nat,t=r*1000000000+a.getD i 0:=⟨_,rfl⟩
  have o:(r:Int)*1000000000+((a.getD i 0:Nat):Int)=(t:Int):=om;have x:t / d<1000000000:=by
   rw[zb j];have:(r+1)*1000000000<=d*1000000000:=fT _ om;omega
  have eq:(t:Int) / (d:Int)=((t / d:Nat):Int):=by simp
  have em:(t:Int) % (d:Int)=((t % d:Nat):Int):=by simp
  have K:=ta t d;have y:=u0 t j;rw[o,eq,em];clear eq em;generalize t / d=q at*;generalize t % d=L at*;refine⟨ir,ir,⟨om,om,ir⟩,ir,?_⟩;refine ho.store om om om rfl fun w1 o1 b1 _=>⟨⟨om,om⟩,ir,?_⟩
  rw[dq,dq]at o1;have hl:=ho.len;refine ih w1 _ _ om (hw.trans b1) o1 (hs.set x) y ?_;rw[eS,eS a,<-he,Dy,cc om];rw[cN,oK om];simp only[Option.getD_some];generalize wv (List.drop (i+1) ws)=V;clear o o1 x he y;grind

theorem zD{w:World}{A0:Option Addr}{n0 c0 x d:Nat}(ha:ee w A0 n0 c0 x)(m:n0<=1000000)(e:0<d)(h:d<=1000000000):
  Pure Tryz.prog 309 #[.slice A0 n0 c0,.int .u64 (d:Int)] w fun v w'=>∃A n c A' n' c',v= .tuple #[.slice A n c,.slice A' n' c']/\ee w' A n c (x / d)/\ee w' A' n' c' (x % d):=by
 obtain⟨a,i,a2,a3,a4,a5,o,rfl⟩:=ha;refine F.dD.vc ?_;refine kH pN El.tw rfl om om lf fun A n g hn j _ k=>⟨ir,?_⟩
 have l:n=n0:=om;subst l;have b:du g w.heap.size A n n (List.replicate n 0):=by
  unfold du;have:gj (List.replicate n 0)=List.replicate n (.int .u32 0):=by simp[gj]
  rw[this];exact j
 refine Pb i a2 a5 om e h (fun A n c A' n' c' w h1 h2=>⟨A,n,c,A',n',c',rfl,h1,h2⟩) n g _ 0 lf k b (fun x hx=>by rw[Ao hx];omega) e ?_;rw[dp sm,dp om];simp[wv]

theorem Fu{top b low M v1 v2 vl q:Nat}(hu:b<1000000000)(hl:low<M)(h:q*((v1*1000000000+v2)*M+vl)<=(top*1000000000+b)*M+low):q*v1<=top:=by
 apply ea;intro hn;have h1:(top+1)*(1000000000*M)<=q*v1*(1000000000*M):=fT _ om;have h2:q*v1*(1000000000*M)<=q*((v1*1000000000+v2)*M+vl):=by
  have:q*((v1*1000000000+v2)*M+vl)=q*v1*(1000000000*M)+q*(v2*M+vl):=gD;omega
 have h3:(top*1000000000+b)*M+M<=(top+1)*(1000000000*M):=by
  have a:(top*1000000000+b+1)*M<=((top+1)*1000000000)*M:=fT _ om;grind
 omega

theorem Fv{top a low M v1 v2 vl q g rest:Nat}(hl:low<M)(h:q*((v1*1000000000+v2)*M+vl)<=(top*1000000000+a)*M+low)(b:g*v1+rest=top)(c:q<=g)
  (d:g*v2>rest*1000000000+a):q<g:=by
 rcases B7 q g with h1|h1
 ·exact h1
 ·have e:q=g:=om;subst e;have h2:(top*1000000000+a+1)*M<=(q*(v1*1000000000+v2))*M:=fT _ gD;have h3:q*((v1*1000000000+v2)*M+vl)=(q*(v1*1000000000+v2))*M+q*vl:=gD;have h4:(top*1000000000+a+1)*M=(top*1000000000+a)*M+M:=gD;omega

theorem qv{top a low M v1 v2 vl g rest:Nat}(hl:vl<M)(hv:1<=v1)(b:g*v1+rest=top)(hb:g<=1000000000)(c:g*v2<=rest*1000000000+a):
  g*((v1*1000000000+v2)*M+vl)<((top*1000000000+a)*M+low)+((v1*1000000000+v2)*M+vl):=by
 have h1:(g*(v1*1000000000+v2))*M<=(top*1000000000+a)*M:=fT _ gD;have h2:g*((v1*1000000000+v2)*M+vl)=(g*(v1*1000000000+v2))*M+g*vl:=gD;have h3:g*vl<=1000000000*vl:=fT _ hb;have h4:1*(1000000000*M)<=v1*(1000000000*M):=fT _ hv;have d:(v1*1000000000+v2)*M=v1*(1000000000*M)+v2*M:=gD;omega

theorem xV{top a low M v1 v2 vl g:Nat}(b:0<M)(h2:v2<1000000000)(hl:vl<M)(hn:1000000000<=2*v1)(c:(top*1000000000+a)*M+low<1000000000*((v1*1000000000+v2)*M+vl))(d:g*v1<=top):g<=1000000001:=by
 have h1:top*M<(v1*1000000000+v2+1)*M:=gD;have h3:top<v1*1000000000+v2+1:=Nat.lt_of_mul_lt_mul_right h1;apply ea;intro h4;have e:1000000002*v1<=g*v1:=fT _ om;omega

theorem xW{v f:Nat}(hv:1<=v)(c:v<1000000000)(hf:f=1000000000 / (v+1)):1<=f/\(v+1)*f<=1000000000/\1000000000<=2*(v*f):=by
 have h0:=ta 1000000000 (v+1);have h1:=u0 1000000000 (show 0<v+1 by omega);rw[<-hf]at h0;have d:1<=f:=by
  rw[hf];exact(Nat.one_le_div_iff om).2 om
 refine⟨d,om,?_⟩;obtain⟨a,rfl⟩:∃a,v=a+1:=⟨v - 1,om⟩
 obtain⟨b,rfl⟩:∃b,f=b+1:=⟨f - 1,om⟩
 have e:(a+1+1)*(b+1)=(a+1)*(b+1)+(b+1):=gD;have g:(a+1)*(b+1)=a*b+a+b+1:=gD;omega

theorem Fw{P Q W i V g a c b D x c' d:Nat}(h:i+g*V=Q+P*(c+b))(k:W+P*D=i+P*x)(hx:x+(g*a+c) % 1000000000+b=D+1000000000*d)(j:c'=(g*a+c) / 1000000000):
  W+g*(V+P*a)=Q+(P*1000000000)*(c'+d):=by
 have f:=ta (g*a+c) 1000000000;rw[<-j]at f;generalize (g*a+c) % 1000000000=m at*;have e:P*x+P*m+P*b=P*D+P*(1000000000*d):=by rw[<-jv,<-jv,hx,jv]
 have l:P*(1000000000*c')+P*m=P*(g*a)+P*c:=by rw[<-jv,f,jv]
 clear hx f j;grind

theorem Fx{P Q W d V a c D x c':Nat}(h:d+P*c=Q+V)(f:W+P*D=d+P*x)(hx:x=(c+(D+a)) % 1000000000)(e:c'=(c+(D+a)) / 1000000000):
  W+(P*1000000000)*c'=Q+(V+P*a):=by
 have b:=ta (c+(D+a)) 1000000000;rw[<-e,<-hx]at b;have g:P*(1000000000*c')+P*x=P*c+(P*D+P*a):=by rw[<-jv,b,jv,jv]
 clear hx b e;grind

theorem HN{D:List Nat}{k:Nat}(a:k<=D.length)(hs:Small D)(h:wv D<1000000000^(k+1)):wv D=wv (D.take k)+1000000000^k*D.getD k 0/\wv (D.take k)<1000000000^k:=by
 have h1:=fe D k a;rw[eS]at h1;have h2:=ig (hs.take k);rw[fs,iv a]at h2;have h3:wv (D.drop (k+1))=0:=by
  apply ea;intro h3;have h4:1000000000^k*(1000000000*1)<=1000000000^k*(1000000000*wv (D.drop (k+1))):=gO _ (gO _ om);rw[jv]at h1;rw[hL]at h;omega
 rw[h3]at h1;exact⟨by simpa using h1,h2⟩

theorem du.other{w w':World}{B:Nat}{A:Option Addr}{n c:Nat}{ws:List Nat}(h:du w B A n c ws)(a:∀b,Value.ownBlock (.slice A n c)=some b->w'.heap[b]? =w.heap[b]?):du w' B A n c ws:=by
 refine⟨h.1,?_⟩;rcases h.2 with h1|⟨g,cap,cur,h1,h2,h3,h4⟩
 ·exact .inl h1
 ·refine .inr ⟨g,cap,cur,h1,h2,?_,h4⟩;rw[a g (by rw[h1];rfl)];exact h3
theorem du.sA{w:World}{B:Nat}{A:Option Addr}{n c:Nat}{ws:List Nat}(h:du w B A n c ws):∀b,Value.ownBlock (.slice A n c)=some b->B<=b/\b<w.heap.size:=World.ownsRow.lt h

theorem dw{pre D:List Nat}{j i:Nat}(h:pre.length=j):(pre++D).getD (i+j) 0=D.getD i 0:=by
 rw[cN,mP om,cN]
 congr 2;omega
theorem pz{pre D:List Nat}{j i x:Nat}(h:pre.length=j):(pre++D).set (i+j) x=pre++D.set i x:=by
 rw[Iq _ _ om]
 congr 2;omega
theorem getD_set_ne{D:List Nat}{i t x:Nat}(h:i≠t):(D.set i x).getD t 0=D.getD t 0:=by
 rw[cN,qH h,<-cN]

theorem gR{D a:List Nat}{k:Nat}(h:D.drop k=a.drop k):D.getD k 0=a.getD k 0:=by
 have e:∀l:List Nat,l.getD k 0=(l.drop k).getD 0 0:=fun l=>by rw[cN,cN,xk,ob]
 rw[e D,e a,h]

structure Div (w1 w:World) (B:Nat) (Au:Option Addr) (nu cu:Nat) (us:List Nat) (Aq:Option Addr) (nq cq:Nat) (qs:List Nat):Prop where
 u:du w B Au nu cu us
 q:du w B Aq nq cq qs
 su:Small us
 sq:Small qs
 fr:∀k,k<w1.heap.size->some k≠Value.ownBlock (.slice Au nu cu)->some k≠Value.ownBlock (.slice Aq nq cq)->w.heap[k]? =w1.heap[k]?
 below:Below B w1 w

section
variable {w1 w:World} {B:Nat} {Au:Option Addr} {nu cu:Nat} {us:List Nat} {Aq:Option Addr} {nq cq:Nat} {qs:List Nat}

def Sep(A Au Aq:Option Addr)(nu cu nq cq:Nat):Prop:=∀a,A=some a->some a.block≠Value.ownBlock (.slice Au nu cu)/\some a.block≠Value.ownBlock (.slice Aq nq cq)
def sB(Au Aq:Option Addr):Prop:=∀a b,Au=some a->Aq=some b->a.block≠b.block

theorem Div.sl(h:Div w1 w B Au nu cu us Aq nq cq qs){A:Option Addr}{ws:List Nat}(hs:gM w1 A ws)(c:Sep A Au Aq nu cu nq cq):gM w A ws:=by
 rcases hs with h1|⟨b,off,all,fr,a,hb,d⟩
 ·exact .inl h1
 ·refine .inr ⟨b,off,all,fr,a,?_,d⟩;have h2:=c _ a;rw[h.fr b (bU.1 hb).1 h2.1 h2.2];exact hb

theorem Div.ext(h:Div w1 w B Au nu cu us Aq nq cq qs){c:World}(e:Ext B [] w c):Div w1 c B Au nu cu us Aq nq cq qs:=by
 have same:∀k,k<w.heap.size->c.heap[k]? =w.heap[k]? :=fun k a=>by
  rcases e.other k a with h1|⟨t,d,_⟩
  ·exact h1
  ·cases d
 exact⟨h.u.other fun b hb=>same b (h.u.sA b hb).2,h.q.other fun b hb=>same b (h.q.sA b hb).2,h.su,h.sq,
  fun k a h1 h2=>by rw[same k (jK a h.below.size)];exact h.fr k a h1 h2,h.below.trans e.below⟩

theorem Div.pP(h:Div w1 w B Au nu cu us Aq nq cq qs)(ha:sB Au Aq){j x:Int}(h0:0<=j)(h1:j<nu)(hx:0<=x)(g:x<1000000000){K:World->Prop}
  (k:∀c,Div w1 c B Au nu cu (us.set j.toNat x.toNat) Aq nq cq qs->K c):
  (0<=j/\j<nu)/\∃a,Au=some a/\∃(cs:List Value)(t:Nat),B<=(a.add (j.toNat*1)).block/\(a.add (j.toNat*1)).spot=none/\w.heap[(a.add (j.toNat*1)).block]? =some (.cells cs.toArray t (0,0))/\
   (a.add (j.toNat*1)).off+1<=cs.length/\hasType t []=false/\∀w1,dd w w1 (a.add (j.toNat*1)).block t (setCells cs (a.add (j.toNat*1)).off [.int .u32 x])->K w1:=by
 refine h.u.store h0 h1 hx rfl fun c o1 b1 f1=>k c ⟨o1,h.q.other fun b hb=>f1 b ?_,h.su.set om,h.sq,fun k d h1 h2=>by rw[f1 k h1];exact h.fr k d h1 h2,h.below.trans b1⟩
 intro e;cases Au with
 |none=>simp[Value.ownBlock]at e
 |some a=>cases Aq with
  |none=>simp[Value.ownBlock]at hb
  |some a'=>
   simp[Value.ownBlock]at e hb;exact ha _ _ rfl rfl om

theorem Div.Mf(h:Div w1 w B Au nu cu us Aq nq cq qs)(ha:sB Au Aq){j x:Int}(h0:0<=j)(h1:j<nq)(hx:0<=x)(g:x<1000000000){K:World->Prop}
  (k:∀c,Div w1 c B Au nu cu us Aq nq cq (qs.set j.toNat x.toNat)->K c):
  (0<=j/\j<nq)/\∃a,Aq=some a/\∃(cs:List Value)(t:Nat),B<=(a.add (j.toNat*1)).block/\(a.add (j.toNat*1)).spot=none/\w.heap[(a.add (j.toNat*1)).block]? =some (.cells cs.toArray t (0,0))/\
   (a.add (j.toNat*1)).off+1<=cs.length/\hasType t []=false/\∀w1,dd w w1 (a.add (j.toNat*1)).block t (setCells cs (a.add (j.toNat*1)).off [.int .u32 x])->K w1:=by
 refine h.q.store h0 h1 hx rfl fun c o1 b1 f1=>k c ⟨h.u.other fun b hb=>f1 b ?_,o1,h.su,h.sq.set om,fun k d h1 h2=>by rw[f1 k h2];exact h.fr k d h1 h2,h.below.trans b1⟩
 intro e;cases Aq with
 |none=>simp[Value.ownBlock]at e
 |some a=>cases Au with
  |none=>simp[Value.ownBlock]at hb
  |some a'=>
   simp[Value.ownBlock]at e hb;exact ha _ _ rfl rfl om
end

section
variable {w1:World} {B:Nat} {Af Au Av Aq:Option Addr} {nf cf nu cu nv cv nq cq:Nat} {vs:List Nat} {R:Value->World->Prop}

theorem Jd(ha:sB Au Aq)(hn:nu<=1000000){w:World}{pre D qs:List Nat}{g j:Nat}{last:Int}(h:Div w1 w B Au nu cu (pre++D) Aq nq cq qs)(hj:pre.length=j)(k:nv<D.length)(l:g<1000000000)(m:j<nq)(hl:last<1000000000)
  (b:∀a,Div w1 a B Au nu cu (pre++D.set nv last.toNat) Aq nq cq (qs.set j g)->F.ag.vT Af nf cf Au nu cu Av nv cv nv Aq nq cq ((j:Int) - 1) B a R):
  F.ag.Q0 Af nf cf Au nu cu Av nv cv nv Aq nq cq j g last B w R:=by
 have c:=h.u.len;simp only[fx]at c;have e:(if(0:Int)>last then(0:Int)else last)=(last.toNat:Int):=by split<;>omega
 refine F.ag.Q0.step ⟨ir,by rw[e];simp only[az];omega,?_⟩;rw[e];refine h.pP ha om om om om fun a h2=>⟨ir,?_⟩
 have d:((j:Int)+(nv:Int)).toNat=nv+j:=om;rw[d,dq,pz hj]at h2;refine h2.Mf ha om om om om fun i h3=>⟨ir,?_⟩
 rw[dq,dq]at h3;exact b i h3

theorem Pc(ha:sB Au Aq)(hn:nu<=1000000)(hv:gM w1 Av vs)(qf:vs.length=nv)(tS:Small vs)(y:Sep Av Au Aq nu cu nq cq){pre c qs:List Nat}{g j:Nat}{last:Int}(hj:pre.length=j)(N:nv<c.length)(O: -2000000000<=last/\last<0)
  (z:∀w D (up:Nat),Div w1 w B Au nu cu (pre++D) Aq nq cq qs->D.length=c.length->up<=1->D.drop nv=c.drop nv->wv D+1000000000^nv*up=wv c+wv vs->
   F.ag.Q0 Af nf cf Au nu cu Av nv cv nv Aq nq cq j g (last+up) B w R):
  ∀(d i:Nat)(w:World)(D:List Nat)(up:Nat),nv - i=d->i<=nv->Div w1 w B Au nu cu (pre++D) Aq nq cq qs->D.length=c.length->up<=1->D.drop nv=c.drop nv->wv D+1000000000^i*up=wv c+wv (vs.take i)->
   F.ag.Ou Af nf cf Au nu cu Av nv cv nv Aq nq cq j g last up nv i B w R:=by
 intro d;induction d with
 |zero=>
  intro i w D up A hi h hl hu m he;have C:i=nv:=om;subst C;rw[bx om]at he;refine F.ag.Ou.step ⟨fun h=>by omega,fun _=>⟨ir,ir,?_⟩⟩;exact z w D up h hl hu m he
 |succ d ih=>
  intro i w D up A hi h hl hu m he;have n:=h.u.len;have E:=n;simp only[fx]at n;have P:=tS.getD i;have G:=h.su.getD (i+j);have l:((i:Int)+(j:Int)).toNat=i+j:=om;rw[dw hj]at G;refine F.ag.Ou.step ⟨fun _=>⟨ir,?_⟩,fun h=>by omega⟩;refine h.u.sl.load E om om ⟨by rw[l,dw hj];simp only[az];omega,?_⟩;refine(h.sl hv y).load qf om om ?_;rw[l,dq,dw hj];refine⟨ir,ir,ir,ir,om,ir,?_⟩;have k:∃a,Au=some a:=by
   obtain⟨a,H,_⟩:=h.u.sl.cell (j:=(i:Int)+j) om om;exact⟨a,H⟩
  obtain⟨a,rfl⟩:=k;have step:∀b,Div w1 b B (some a) nu cu ((pre++D).set ((i:Int)+(j:Int)).toNat ((((up:Int)+((D.getD i 0:Nat)+(vs.getD i 0:Nat))) % 1000000000)).toNat) Aq nq cq qs->
    F.ag.Ou Af nf cf (some a) nu cu Av nv cv nv Aq nq cq j g last (((up:Int)+((D.getD i 0:Nat)+(vs.getD i 0:Nat))) / 1000000000) nv ((i:Int)+1) B b R:=by
   intro b h3;obtain⟨t,o⟩:∃t,t=up+(D.getD i 0+vs.getD i 0):=⟨_,rfl⟩
   have q:(up:Int)+((D.getD i 0:Nat)+(vs.getD i 0:Nat))=(t:Int):=om;have I:=sc i;have J:((t:Int) % 1000000000).toNat=t % 1000000000:=om;have L:(t:Int) / 1000000000=((t / 1000000000:Nat):Int):=om;rw[q,l,J,pz hj]at h3;rw[q,I,L];refine ih (i+1) b _ _ om om h3 (by simpa using hl) om (by rw[Dy,cc om];exact m) ?_;rw[cY,hL];exact Fx he (mG D i _ om) (by rw[o]) (by rw[o])
  refine⟨⟨om,om⟩,a,rfl,fun Q e=> ?_⟩;obtain⟨_,a',M,r⟩:=(h.ext e).pP ha (j:=(i:Int)+(j:Int)) (x:=((up:Int)+((D.getD i 0:Nat)+(vs.getD i 0:Nat))) % 1000000000) om om om om (K:=fun b=>(0<=((up:Int)+((D.getD i 0:Nat)+(vs.getD i 0:Nat)))/\0<(1000000000:Int)/\az .u64 ((up:Int)+((D.getD i 0:Nat)+(vs.getD i 0:Nat))))/\az .i64 ((i:Int)+1)/\
   F.ag.Ou Af nf cf (some a) nu cu Av nv cv nv Aq nq cq j g last (((up:Int)+((D.getD i 0:Nat)+(vs.getD i 0:Nat))) / 1000000000) nv ((i:Int)+1) B b R) (fun b h3=>⟨⟨om,om,ir⟩,ir,step b h3⟩)
  cases M;rw[l]at r;exact r

theorem Pd(ha:sB Au Aq)(hn:nu<=1000000)(hv:gM w1 Av vs)(qf:vs.length=nv)(tS:Small vs)(z:Sep Av Au Aq nu cu nq cq){pre b qs:List Nat}{g j:Nat}(hj:pre.length=j)(M:nv<b.length)(A:g<=1000000000)
  (C:∀w D (c a:Nat),Div w1 w B Au nu cu (pre++D) Aq nq cq qs->D.length=b.length->c<1000000000->a<=1->D.drop nv=b.drop nv->wv D+g*wv vs=wv b+1000000000^nv*(c+a)->
   ((b.getD nv 0:Nat) - (c:Int) - (a:Int)<0->1<=g/\F.ag.Ou Af nf cf Au nu cu Av nv cv nv Aq nq cq j ((g:Int) - 1) ((b.getD nv 0:Nat) - (c:Int) - (a:Int)) 0 nv 0 B w R)/\
   (¬((b.getD nv 0:Nat) - (c:Int) - (a:Int)<0)->F.ag.Q0 Af nf cf Au nu cu Av nv cv nv Aq nq cq j g ((b.getD nv 0:Nat) - (c:Int) - (a:Int)) B w R)):
  ∀(d i:Nat)(w:World)(D:List Nat)(c a:Nat),nv - i=d->i<=nv->Div w1 w B Au nu cu (pre++D) Aq nq cq qs->D.length=b.length->c<1000000000->a<=1->D.drop nv=b.drop nv->wv D+g*wv (vs.take i)=wv b+1000000000^i*(c+a)->
   F.ag.zx Af nf cf Au nu cu Av nv cv nv Aq nq cq j g c a nv i B w R:=by
 intro d;induction d with
 |zero=>
  intro i w D c a E hi h hl y hb n he;have G:i=nv:=om;subst G;have l:=h.u.len;have q:=l;simp only[fx]at l;have r:=h.su.getD (i+j);rw[dw hj]at r;rw[bx om]at he;have k:((j:Int)+(i:Int)).toNat=i+j:=om;have o:=C w D c a h hl y hb n he;rw[<-gR n]at o;refine F.ag.zx.step ⟨fun h=>by omega,fun _=>⟨ir,?_⟩⟩;refine h.u.sl.load q om om ?_;rw[k,dw hj];exact⟨ir,ir,ir,fun h=>⟨by have:=(o.1 h).1;simp only[az];omega,(o.1 h).2⟩,fun h=>o.2 h⟩
 |succ d ih=>
  intro i w D c a E hi h hl y hb n he;have l:=h.u.len;have q:=l;simp only[fx]at l;have N:=tS.getD i;have r:=h.su.getD (i+j);have k:((i:Int)+(j:Int)).toNat=i+j:=om;rw[dw hj]at r;have H:=sc i;have O:g*vs.getD i 0<=1000000000*999999999:=lq A om;obtain⟨p,hp⟩:∃p,p=g*vs.getD i 0+c:=⟨_,rfl⟩
  have I:(g:Int)*(vs.getD i 0:Nat)=((g*vs.getD i 0:Nat):Int):=by simp
  have J:((g*vs.getD i 0:Nat):Int)+(c:Int)=(p:Int):=om;have K:(p:Int) / 1000000000=((p / 1000000000:Nat):Int):=om;have next:∀(m x:Nat) e,m<=1->x+p % 1000000000+a=D.getD i 0+1000000000*m->Div w1 e B Au nu cu ((pre++D).set (i+j) x) Aq nq cq qs->
    F.ag.zx Af nf cf Au nu cu Av nv cv nv Aq nq cq j g ((p / 1000000000:Nat):Int) m nv ((i:Int)+1) B e R:=by
   intro m x e L hx h2;rw[pz hj]at h2;rw[H];refine ih (i+1) e _ _ m om om h2 (by simpa using hl) om L (by rw[Dy,cc om];exact n) ?_;rw[cY,hL];exact Fw he (mG D i x om) (by rw[<-hp];exact hx) (by rw[<-hp])
  refine F.ag.zx.step ⟨fun _=>⟨ir,?_⟩,fun h=>by omega⟩;refine(h.sl hv z).load qf om om ?_;rw[dq,I,J];refine⟨ir,ir,ir,⟨om,om,ir⟩,ir,?_⟩;refine h.u.sl.load q om om ?_;rw[k,dw hj,K];refine⟨ir,om,ir,ir,fun h0=>⟨ir,ir,ir,?_⟩,fun h0=>⟨ir,ir,?_⟩⟩
  ·rw[<-k];refine h.pP ha om om om om fun e h2=>⟨ir,?_⟩
   rw[k]at h2;exact next 1 _ e om om h2
  ·rw[<-k];refine h.pP ha om om om om fun e h2=>⟨ir,?_⟩
   rw[k]at h2;exact next 0 _ e om om h2

theorem gM.Je{w:World}{A:Option Addr}{ws:List Nat}{n:Nat}(h:gM w A ws)(hl:ws.length=n){j:Int}(h0:0<=j)(h1:j<n){K:World->Int->Prop}(k:∀b,Ext B [] w b->K b (ws.getD j.toNat 0:Nat)):
  (0<=j/\j<n)/\∃a,A=some a/\∀b,Ext B [] w b->∃i:Int,ae b (a.add (j.toNat*1)) [.int .u32 i]/\K b i:=by
 obtain⟨_,a,c,_,_⟩:=h.load hl h0 h1 (K:=fun _=>True) trivial;refine⟨⟨h0,h1⟩,a,c,fun b e=> ?_⟩;obtain⟨_,a',d,i,g,l⟩:=(Ext.Vf h e).load hl h0 h1 (K:=K b) (k b e);rw[c]at d;cases d;exact⟨i,g,l⟩

theorem Pe(hn:nu<=1000000)(hv:gM w1 Av vs)(qf:vs.length=nv)(tS:Small vs)(d:Sep Av Au Aq nu cu nq cq)(N:2<=nv){pre D qs:List Nat}{j:Nat}(hj:pre.length=j)(O:nv<D.length)
  {top low M vl q T V:Nat} (I:low<M) (m:vl<M) (n:1<=vs.getD (nv - 1) 0) (i:V=(vs.getD (nv - 1) 0*1000000000+vs.getD (nv - 2) 0)*M+vl) (k:T=(top*1000000000+D.getD (nv - 2) 0)*M+low)
  (y:q*V<=T) (P:q<1000000000)
  (o:∀w (g:Nat),Div w1 w B Au nu cu (pre++D) Aq nq cq qs->g<=1000000000->q<=g->g*V<T+V->F.ag.zx Af nf cf Au nu cu Av nv cv nv Aq nq cq j g 0 0 nv 0 B w R):
  ∀(g rest:Nat)(w:World),Div w1 w B Au nu cu (pre++D) Aq nq cq qs->g*vs.getD (nv - 1) 0+rest=top->q<=g->g<=1000000001->rest<1000000000->
   F.ag.OX Af nf cf Au nu cu Av nv cv nv Aq nq cq j g rest B w R:=by
 have g1:=tS.getD (nv - 1);have g2:=tS.getD (nv - 2);have z:((nv:Int) - 1).toNat=nv - 1:=om;have A:((nv:Int) - 2).toNat=nv - 2:=om;have C:((j:Int)+(nv:Int) - 2).toNat=(nv - 2)+j:=om;intro g;induction g with
 |zero=>
  intro rest w h b l J K;have c:=h.u.len;have r:=c;simp only[fx]at c;have x:=h.su.getD (nv - 2+j);rw[dw hj]at x;refine F.ag.OX.step ⟨fun h=>by omega,fun _=>⟨ir,?_⟩⟩;refine(h.sl hv d).load qf om om ?_;rw[A];refine⟨ir,ir,ir,ir,ir,?_⟩;refine h.u.sl.load r om om ?_;rw[C,dw hj];refine⟨ir,ir,fun h0=>by omega,fun h0 a e=>o a 0 (h.ext e) om l ?_⟩;rw[k,i];exact qv m n b om om
 |succ g ih=>
  intro rest w h b l J K;have c:=h.u.len;have r:=c;simp only[fx]at c;have x:=h.su.getD (nv - 2+j);rw[dw hj]at x;have E:((g+1:Nat):Int) - 1=(g:Int):=om;have next:q<=g->∀a,Ext B [] w a->az .u64 ((vs.getD (nv - 1) 0:Nat):Int)/\az .u64 ((rest:Int)+(vs.getD (nv - 1) 0:Nat))/\
    (((rest:Int)+(vs.getD (nv - 1) 0:Nat)≥(1000000000:Int)->F.ag.zx Af nf cf Au nu cu Av nv cv nv Aq nq cq j g 0 0 nv 0 B a R)/\
    (¬((rest:Int)+(vs.getD (nv - 1) 0:Nat)≥(1000000000:Int))->F.ag.OX Af nf cf Au nu cu Av nv cv nv Aq nq cq j g ((rest:Int)+(vs.getD (nv - 1) 0:Nat)) B a R)):=by
   intro G a e;have H:g*vs.getD (nv - 1) 0+(rest+vs.getD (nv - 1) 0)=top:=by rw[mw]at b;omega
   refine⟨ir,ir,fun h0=>o a g (h.ext e) om G ?_,fun h0=> ?_⟩
   ·rw[k,i];refine qv m n H om ?_;have h4:g*vs.getD (nv - 2) 0<=1000000000*1000000000:=lq om om;omega
   ·exact ih (rest+vs.getD (nv - 1) 0) a (h.ext e) H G om om
  refine F.ag.OX.step ⟨fun h0=>⟨ir,ir,?_⟩,fun h0=>⟨ir,?_⟩⟩
  ·rw[E];refine(h.sl hv d).Je qf om om fun a e=> ?_
   rw[z];exact next om a e
  ·have Q:(g+1)*vs.getD (nv - 2) 0<=1000000000*1000000000:=lq om om;have L:((g+1:Nat):Int)*(vs.getD (nv - 2) 0:Nat)=(((g+1)*vs.getD (nv - 2) 0:Nat):Int):=by simp
   refine(h.sl hv d).load qf om om ?_;rw[A,L];refine⟨ir,ir,ir,ir,ir,?_⟩;refine h.u.sl.load r om om ?_;rw[C,dw hj,E];refine⟨ir,ir,fun h1=>⟨ir,ir,?_⟩,fun h1 a e=>o a (g+1) (h.ext e) om l ?_⟩
   ·refine(h.sl hv d).Je qf om om fun a e=> ?_
    rw[z];refine next ?_ a e
    rw[k,i]at y;have:=Fv I y b l om;omega
   ·rw[k,i];exact qv m n b om om
end

theorem du.base{w:World}{B a:Nat}{A:Option Addr}{n c:Nat}{ws:List Nat}(h:du w a A n c ws)(hB:B<=a):du w B A n c ws:=by
 refine⟨h.1,?_⟩;rcases h.2 with h1|⟨g,cap,cur,h1,h2,h3⟩
 ·exact .inl h1
 ·exact .inr ⟨g,cap,cur,h1,ga hB h2,h3⟩

theorem Mg{D:List Nat}{a:Nat}(b:a+2<D.length)(hs:Small D)(h:wv D<1000000000^(a+2+1)):
  wv D=((D.getD (a+2) 0*1000000000+D.getD (a+1) 0)*1000000000+D.getD a 0)*1000000000^a+wv (D.take a)/\wv (D.take a)<1000000000^a:=by
 have h1:=(HN om hs h).1;have h2:=ig (hs.take a);rw[fs,iv om]at h2;refine⟨?_,h2⟩;rw[h1,cY,cY,hL,hL];grind
theorem Mh{vs:List Nat}{a:Nat}(b:vs.length=a+2)(hs:Small vs):
  wv vs=(vs.getD (a+1) 0*1000000000+vs.getD a 0)*1000000000^a+wv (vs.take a)/\wv (vs.take a)<1000000000^a:=by
 have h2:=ig (hs.take a);rw[fs,iv om]at h2;refine⟨?_,h2⟩;have e:vs=vs.take (a+1+1):=(bx om).symm;have h1:wv vs=wv (vs.take (a+1+1)):=by rw[<-e]
 rw[h1,cY,cY,hL];grind

theorem Sep.of{A Au Aq:Option Addr}{nu cu nq cq:Nat}(h1:∀a b,A=some a->Au=some b->a.block≠b.block)(h2:∀a b,A=some a->Aq=some b->a.block≠b.block):Sep A Au Aq nu cu nq cq:=by
 intro a ha;constructor
 ·cases Au with
  |none=>simp[Value.ownBlock]
  |some b=>simp[Value.ownBlock];exact h1 a b ha rfl
 ·cases Aq with
  |none=>simp[Value.ownBlock]
  |some b=>simp[Value.ownBlock];exact h2 a b ha rfl

section
variable {w1:World} {B:Nat} {Af Au Av Aq:Option Addr} {nf cf nu cu nv cv nq cq:Nat} {vs:List Nat} {R:Value->World->Prop}

set_option maxHeartbeats 2000000 in
theorem Ph(ha:sB Au Aq)(hn:nu<=1000000)(hB:B<=w1.heap.size)(hv:gM w1 Av vs)(qf:vs.length=nv)(tS:Small vs)(C:Sep Av Au Aq nu cu nq cq)(Pf:2<=nv)(Ua:nu=nq+nv)(G:1000000000<=2*vs.getD (nv - 1) 0)
  {f:Nat} (hf:ee w1 Af nf cf f) (Mi:Sep Af Au Aq nu cu nq cq) (Jg:0<f) (JP:f<=1000000000) {U0:Nat}
  (hR:∀A n c A' n' c' w,ee w A n c (U0 / wv vs)->ee w A' n' c' (U0 % wv vs / f)->R (.tuple #[.slice A n c,.slice A' n' c']) w):
  ∀(i:Nat)(w:World)(us qs:List Nat),i<=nq->Div w1 w B Au nu cu us Aq nq cq qs->wv (us.drop i)<wv vs->wv (qs.drop i)*wv vs*1000000000^i+wv us=U0->
   F.ag.vT Af nf cf Au nu cu Av nv cv nv Aq nq cq ((i:Int) - 1) B w R:=by
 obtain⟨a,rfl⟩:∃a,nv=a+2:=⟨nv - 2,om⟩
 have Sg:wv vs<1000000000^(a+2):=by have:=ig tS;rwa [qf]at this
 obtain⟨Q,qw⟩:=Mh qf tS;have H:a+2 - 1=a+1:=om;have g1:=tS.getD (a+1);have g2:=tS.getD a;rw[H]at G;intro i;induction i with
 |zero=>
  intro w us qs hi h d he;have nY:=h.u.len;have Si:=h.u.cap;simp only[uQ,Nat.pow_zero,JA]at d he;have ediv:U0 / wv vs=wv qs:=by rw[<-he,ru,OI om,GO d,ob]
  have emod:U0 % wv vs=wv us:=by rw[<-he,ru,OL,Dz d]
  rw[ediv,emod]at hR;have Mj:wv (us.take (a+2))=wv us:=by
   have h1:=fe us (a+2) om;have h2:wv (us.drop (a+2))=0:=by
    apply ea;intro h3;have h4:1000000000^(a+2)*1<=1000000000^(a+2)*wv (us.drop (a+2)):=gO _ om;omega
   rw[h2]at h1;omega
  have S:ee w Af nf cf f:=by
   obtain⟨ws,e,k2⟩:=hf;exact⟨ws,h.sl e Mi,k2⟩
  refine F.ag.vT.step ⟨fun h=>by omega,fun _=> ?_⟩;refine pm (jZ S) ?_;rintro v o E rfl;refine⟨_,_,rfl,⟨om,om⟩,?_⟩;have U:(((a+2:Nat):Int)).toNat=a+2:=om;rw[U,cc om];refine pm (lN ((h.u.sl.below E).take (a+2)) (by simp;omega) om om (h.su.take _)) ?_;rintro v w3 hb3 ⟨rfl,m,rfl,hm,Zp,_⟩;rw[Mj]at hm;refine⟨_,_,_,rfl,pm (zD hm om Jg JP) ?_⟩;rintro v W X ⟨A1,n1,c1,A2,n2,c2,rfl,e,k2⟩;refine⟨_,_,_,_,_,_,rfl,?_⟩;have Zq:gM W Aq qs:=(h.q.sl.below E).below X;refine pm (lN Zq h.q.len h.q.cap (by have:=h.q.cap;omega) h.sq) ?_;rintro v w5 Jh ⟨rfl,m',rfl,Y,_⟩;exact⟨_,_,_,rfl,hR _ _ _ _ _ _ _ Y e⟩
 |succ j ih=>
  intro w us qs hi h d he;have nY:=h.u.len;have Sj:=h.q.len;have e0:((j+1:Nat):Int) - 1=(j:Int):=om;rw[e0];obtain⟨pre,wc⟩:∃pre,pre=us.take j:=⟨_,rfl⟩
  obtain⟨D,I⟩:∃D,D=us.drop j:=⟨_,rfl⟩
  have Vk:us=pre++D:=by rw[wc,I,ly]
  have hj:pre.length=j:=by rw[wc];simp;omega
  have hDl:D.length=nu - j:=by rw[I];simp[nY]
  have r:Small D:=by rw[I];exact fun x hx=>h.su x (uR hx)
  have Mk:us.drop (j+1)=D.drop 1:=by rw[I,GI]
  rw[Mk]at d;have Zr:wv D=D.getD 0 0+1000000000*wv (D.drop 1):=by have:=eS D 0;simpa using this
  have gD0:=r.getD 0;have hT:wv D<1000000000*wv vs:=om;have Vl:wv D<1000000000^(a+2+1):=by rw[hL];omega
  obtain⟨J,rQ⟩:=Mg om r Vl;have XT:=r.getD (a+2);have gt1:=r.getD (a+1);have Zs:=r.getD a;have Zt:wv us=wv pre+1000000000^j*wv D:=by rw[Vk,dT,hj]
  obtain⟨q,Z⟩:∃q,q=wv D / wv vs:=⟨_,rfl⟩
  have Cn:0<wv vs:=om;have Jf:q*wv vs<=wv D:=by rw[Z];exact Ly _ _
  have Vm:wv D<q*wv vs+wv vs:=by
   have h1:=ta (wv D) (wv vs);have h2:=u0 (wv D) Cn;rw[<-Z,ru]at h1;omega
  have Fy:q<1000000000:=by
   rw[Z,zb Cn];exact hT
  rw[Vk]at h
  -- XU next round
  have next:∀o K,Div w1 o B Au nu cu (pre++K) Aq nq cq (qs.set j q)->wv K=wv D - q*wv vs->
    F.ag.vT Af nf cf Au nu cu Av (a+2) cv (a+2:Nat) Aq nq cq ((j:Int) - 1) B o R:=by
   intro o K h2 fF;refine ih o _ _ om h2 ?_ ?_
   ·rw[<-hj,RA,fF];omega
   ·have Pn:wv ((qs.set j q).drop j)=q+1000000000*wv (qs.drop (j+1)):=by
     rw[eS,Dy,cc om,cN,oK om];rfl
    have e5:wv K+q*wv vs=wv D:=om;rw[Pn,dT,hj];rw[Zt,<-e5,hL]at he;rw[<-he];grind
  obtain⟨top,Ml⟩:∃top,top=D.getD (a+2) 0*1000000000+D.getD (a+1) 0:=⟨_,rfl⟩
  rw[<-Ml]at J;have Sk:((D.getD (a+2) 0:Nat):Int)*1000000000+((D.getD (a+1) 0:Nat):Int)=(top:Int):=om;obtain⟨v1,l⟩:∃v1,v1=vs.getD (a+1) 0:=⟨_,rfl⟩
  have Zu:((j:Int)+((a+2:Nat):Int)).toNat=(a+2)+j:=om;have Zv:((j:Int)+((a+2:Nat):Int) - 1).toNat=(a+1)+j:=om;have Fz:(((a+2:Nat):Int) - 1).toNat=a+1:=om;have mI:=h.u.len;refine F.ag.vT.step ⟨fun _=>⟨ir,?_⟩,fun h=>by omega⟩;refine h.u.sl.load mI om om ?_;rw[Zu,dw hj];refine⟨ir,ir,ir,ir,?_⟩;refine h.u.sl.load mI om om ?_;rw[Zv,dw hj,Sk];refine⟨ir,ir,fun o U=>⟨ir,?_⟩⟩;have h2:=h.ext U;refine(h2.sl hv C).load qf om om ?_;have gK:vs.getD (((a+2:Nat):Int) - 1).toNat 0=v1:=by rw[Fz,l]
  rw[gK];rw[<-l]at G g1;refine⟨ir,⟨om,om,ir⟩,ir,?_⟩;refine(h2.sl hv C).load qf om om ?_;rw[gK];refine⟨ir,⟨om,om⟩,fun w3 e3=> ?_⟩;have h3:=h2.ext e3;have ed:(top:Int) / (v1:Int)=((top / v1:Nat):Int):=by simp
  have em:(top:Int) % (v1:Int)=((top % v1:Nat):Int):=by simp
  rw[ed,em];have Zw:q<=top / v1:=by
   rw[Nat.le_div_iff_mul_le om];rw[J,Q,<-l]at Jf;exact Fu Zs rQ Jf
  have JQ:top / v1<=1000000001:=by
   refine xV om g2 qw (by rw[l]at G;exact G) (by rw[<-J,<-Q];exact hT) ?_;rw[<-l];exact Ly _ _
  refine Pe hn hv qf tS C om hj om (top:=top) (low:=wv (D.take a)) (M:=1000000000^a) (vl:=wv (vs.take a)) (q:=q) (T:=wv D) (V:=wv vs) rQ qw (by rw[H,<-l];omega) (by rw[H];exact Q) J Jf Fy
   (fun W g h4 Q6 XV Ow=> ?_) (top / v1) (top % v1) w3 h3 (by rw[H,<-l];have:=ta top v1;rw[ru]at this;exact this) Zw JQ (by have:=u0 top (show 0<v1 by omega);omega)
  refine Pd ha hn hv qf tS C hj om Q6 (fun w5 L c b h5 Zx hc Zy Sl Vn=> ?_) (a+2) 0 W D 0 0 om om h4 rfl om om rfl (by simp[wv]);have t5:=fe L (a+2) om;have t0:=HN (k:=a+2) om r Vl;have Ub:Small L:=fun x hx=>h5.su x (by simp[hx])
  have l5:=ig (Ub.take (a+2));rw[fs,iv om]at l5;have td:wv (D.drop (a+2))=D.getD (a+2) 0:=by
   have h1:=fe D (a+2) om;have hp:0<1000000000^(a+2):=EG om;have h2:1000000000^(a+2)*wv (D.drop (a+2))=1000000000^(a+2)*D.getD (a+2) 0:=om;exact Nat.eq_of_mul_eq_mul_left hp h2
  rw[Sl,td]at t5;have JR:=gR Sl;obtain⟨P,y⟩:∃P,P=1000000000^(a+2):=⟨_,rfl⟩
  rw[<-y]at t5 l5 Vn Sg;obtain⟨z,hz⟩:∃z,z=D.getD (a+2) 0:=⟨_,rfl⟩
  rw[<-hz]at t5 JR XT⊢;rw[jv]at Vn;refine⟨fun sC=> ?_,fun hpos=> ?_⟩
  ·have Zz:wv D<g*wv vs:=by
    have e:P*(z+1)<=P*(c+b):=gO _ om;rw[jv,jv]at e;omega
   have XW:1<=g:=by
    apply ea;intro k;have:g=0:=om;subst this;omega
   have Pg:q+1=g:=by
    have e:q<g:=by
     apply ea;intro k;have:=fT (wv vs) (show g<=q by omega);omega
    apply ea;intro k;have:=fT (wv vs) (show q+2<=g by omega);rw[mw]at this;omega
   refine⟨XW,?_⟩;have eg:(g:Int) - 1=(q:Int):=om;rw[eg];refine Pc ha hn hv qf tS C hj om ⟨om,sC⟩ (fun w6 N up h6 Uc hup Mm ZA=> ?_) (a+2) 0 w5 L 0 om om h5 rfl om rfl (by simp[wv]);refine Jd ha hn h6 hj om Fy om om fun w7 O=> ?_
   have XX:=gR Mm;have t6:=fe N (a+2) om;have hs6:Small N:=fun x hx=>h6.su x (by simp[hx])
   have l6:=ig (hs6.take (a+2));rw[fs,iv om,<-y]at l6;rw[Mm,Sl,td,<-y,<-hz]at t6;rw[<-y]at ZA;have hgV:g*wv vs=q*wv vs+wv vs:=by rw[<-Pg,mw,Ry]
   -- low + P * (z + up) = (T - qV) + P * (c + b)
   have key:wv (N.take (a+2))+P*(z+up)=(wv D - q*wv vs)+P*(c+b):=by rw[jv,jv];omega
   have Q2:z+up=c+b:=by
    rcases Na (z+up) (c+b)with k|k|k
    ·have:=gO P (show z+up+1<=c+b by omega);rw[jv]at this;omega
    ·exact k
    ·have:=gO P (show c+b+1<=z+up by omega);rw[jv]at this;omega
   have e7:((z:Int) - (c:Int) - (b:Int)+(up:Int)).toNat=0:=om;rw[e7]at O;refine next w7 _ O ?_
   have pf:=mG N (a+2) 0 om;rw[XX,JR,<-y]at pf;rw[Q2]at key;omega
  ·have ZB:g*wv vs<=wv D:=by
    have e:P*(c+b)<=P*z:=gO _ om;rw[jv]at e;omega
   have Pg:q=g:=by
    rcases B7 q g with k|k
    ·have:=fT (wv vs) (show q+1<=g by omega);rw[mw]at this;omega
    ·omega
   subst Pg;refine Jd ha hn h5 hj om Fy om om fun w7 O=>next w7 _ O ?_
   have pf:=mG L (a+2) (((z:Int) - (c:Int) - (b:Int)).toNat) om;rw[JR,<-y]at pf;have e8:P*(((z:Int) - (c:Int) - (b:Int)).toNat)+(P*c+P*b)=P*z:=by
    rw[<-jv,<-jv]
    congr 1
    omega
   omega
end

theorem gM.zE{w:World}{A:Option Addr}{ws:List Nat}(h:gM w A ws)(hn:ws≠[]):∀a,A=some a->a.block<w.heap.size:=by
 intro a ha;rcases h with h|⟨b,off,all,fr,c,hb,_⟩
 ·exact absurd h hn
 ·rw[c]at ha;cases ha;exact(bU.1 hb).1

theorem du.xn{w:World}{B:Nat}{A:Option Addr}{n c:Nat}{ws:List Nat}(h:du w B A n c ws):∀a,A=some a->B<=a.block/\a.block<w.heap.size:=by
 intro a ha;subst ha;exact h.sA a.block rfl

theorem du.replicate{w:World}{B:Nat}{A:Option Addr}{n:Nat}(k:w.ownsRow B 217 1 (.slice A n n) n (List.replicate n (.int .u32 0))):du w B A n n (List.replicate n 0):=by
 unfold du;have:gj (List.replicate n 0)=List.replicate n (.int .u32 0):=by simp[gj]
 rw[this];exact k
theorem Small.replicate(n:Nat):Small (List.replicate n 0):=fun x hx=>by rw[Ao hx];omega

theorem Po{w:World}{B Bu:Nat}{Af Au Av:Option Addr}{nf cf nu cu nv cv:Nat}{us vs:List Nat}{R:Value->World->Prop}(hB:B<=w.heap.size)(g:B<=Bu)(hu:du w Bu Au nu cu us)(XY:Small us)(hv:gM w Av vs)(qf:vs.length=nv)(tS:Small vs)
  (k:∀a b,Av=some a->Au=some b->a.block≠b.block) (l:∀a,Av=some a->a.block<w.heap.size) (m:2<=nv) (o:nv<=nu) (hn:nu<=1000000) (q:1000000000<=2*vs.getD (nv - 1) 0)
  {f:Nat} (hf:ee w Af nf cf f) (h:∀a b,Af=some a->Au=some b->a.block≠b.block) (r:∀a,Af=some a->a.block<w.heap.size) (x:0<f) (y:f<=1000000000) (z:wv (us.drop (nu - nv))<wv vs)
  (C:∀A n c A' n' c' w,ee w A n c (wv us / wv vs)->ee w A' n' c' (wv us % wv vs / f)->R (.tuple #[.slice A n c,.slice A' n' c']) w):
  F.ag.LQ Af nf cf Au nu cu Av nv cv B w R:=by
 refine F.ag.LQ.step ⟨ir,?_⟩;refine kH pN El.tw rfl om om hB fun Aq nq d I D g2 J=>⟨ir,?_⟩
 have E:nq=nu - nv:=om;have j:=du.replicate D;have i:∀a,Aq=some a->w.heap.size<=a.block:=fun a ha=>(j.xn a ha).1
 have e:Below w.heap.size w d:=bS g2 sm lf;have G:du d B Au nu cu us:=(hu.base g).other fun b hb=>e.block b (hu.sA b hb).2
 have H:sB Au Aq:=fun a b ha hb=>by
  have h1:=hu.xn a ha;have h2:=i b hb;omega
 refine Ph (w1:=d) H hn (ga hB e.size) (hv.below e) qf tS (Sep.of k fun a b ha hb=>by have h1:=l a ha;have h2:=i b hb;omega) m om q (hf.below e)
  (Sep.of h fun a b ha hb=>by have h1:=r a ha;have h2:=i b hb;omega) x y C nq d us (List.replicate nq 0) lf
  ⟨G,j.base hB,XY,Small.replicate _,fun _ _ _ _=>rfl,Below.refl _ _⟩ (by rw[E];exact z) ?_
 rw[dp sm];simp[wv]

theorem tx{a b:List Nat}(c:Small a)(d:Norm b)(h:wv b<=wv a):b.length<=a.length:=by
 apply ea;intro k;have:=oy c d om;omega

theorem FA{l:List Nat}(hn:Norm l)(h:l≠[]):1<=l.getD (l.length - 1) 0:=by
 have hp:=nQ.2 h;have e:l.getLast? =some (l.getD (l.length - 1) 0):=by
  rw[yn,cN,af om];rfl
 apply ea;intro k;have h0:l.getD (l.length - 1) 0=0:=om;rw[h0]at e;exact hn e

theorem Mn{w:World}{B:Nat}{A0 A1:Option Addr}{n0 c0 n1 c1 x y:Nat}{R:Value->World->Prop}(hB:B<=w.heap.size)(ha:ee w A0 n0 c0 x)(hb:ee w A1 n1 c1 y)(hx:x<dL)(C:y<=x)(BG:y≠0)
  (hR:∀A n c A' n' c' w,ee w A n c (x / y)->ee w A' n' c' (x % y)->R (.tuple #[.slice A n c,.slice A' n' c']) w):
  F.ag.J7 A0 n0 c0 A1 n1 c1 B w R:=by
 have l0:=ha.len hx;have l1:=hb.len (kx C hx);have Sp:=ha;have Vq:=hb;obtain⟨a,a1,a2,a3,a4,a5,a6,D⟩:=ha;obtain⟨b,b1,E,b3,b4,G,H,d⟩:=hb;have Vr:b≠[]:=fun k=>by subst k;simp[wv]at d;omega
 have wW:=nQ.2 Vr;refine F.ag.J7.step ⟨fun h=> ?_,fun h=>⟨ir,?_⟩⟩
 ·have g:=G.getD (Int.toNat 0);refine b1.load E om om ⟨ir,?_⟩;have e:b.getD (Int.toNat 0) 0=y:=by
   obtain⟨z,rfl⟩:=ni.1 (by omega:b.length=1);simpa[wv]using d
  rw[e]at g⊢;refine pm (zD Sp om om om) ?_;rintro v w2 hb2 ⟨A,n,c,A',n',c',rfl,i,o⟩;exact⟨_,_,_,_,_,_,rfl,hR _ _ _ _ _ _ _ i o⟩
 ·have g:=G.getD (n1 - 1);have e1:((n1:Int) - 1).toNat=n1 - 1:=om;refine b1.load E om om ?_;rw[e1];obtain⟨mt,I⟩:∃mt,mt=b.getD (n1 - 1) 0:=⟨_,rfl⟩
  have Pp:1<=mt:=by rw[I,<-E];exact FA H Vr
  rw[<-I]at g⊢;obtain⟨f,hf⟩:∃f,f=1000000000 / (mt+1):=⟨_,rfl⟩
  obtain⟨Jg,JP,EE⟩:=xW Pp g hf;have Vo:f<=1000000000:=by rw[hf];exact DF _ _
  have ef:(1000000000:Int) / ((mt:Int)+1)=(f:Int):=by rw[hf];simp
  rw[ef];refine⟨ir,ir,⟨om,om,ir⟩,?_⟩;refine pm (gQ om) ?_;rintro v q J ⟨Af,nf,cf,rfl,K⟩;refine⟨_,_,_,rfl,?_⟩;have Vs:f<dL:=by
   unfold dL;exact kx (show f<=1000000000^1 by omega) (OE om (by have:=DG;omega))
  refine pm (pO (Sp.below J) K hx Vs) ?_;rintro v BH L ⟨Au,nu,cu,rfl,_,us,j,M,u3,N⟩;refine⟨_,_,_,rfl,?_⟩;have Vt:x<=x*f:=qn _ om;have hnu:n0<=nu:=by
   have:=tx M a6 (by rw[D,N];exact Vt);have:=j.len;omega
  have aew:nu<=n0+1:=by
   apply ea;intro k;have hl:=j.len;have h1:=lM u3 (fun e=>by subst e;simp at hl;omega);have h2:=ig a5;have h3:1000000000^(a.length+1)<=1000000000^(us.length - 1):=fy om om;have h4:wv a*f<=wv a*1000000000:=gO _ Vo;rw[hL]at h3;rw[N,<-D]at h1;omega
  have ZC:=J.size;have ZD:=L.size;refine nt (B0:=B) pN om j om ZD sm (x:=0) om fun O Q S T U ZE=> ?_
  have V:Below q.heap.size BH S:=bS U (fun k W=>(j.sA k W).1) ZD;have Q8:=V.size;have JT:Below w.heap.size w S:=(J.trans (L.mono ZC)).trans (V.mono ZC);have Vu:ee S Af nf cf f:=K.below (L.trans V);refine pm (pO (Vq.below JT) Vu (kx C hx) Vs) ?_;rintro v GU X ⟨Av,nv,cv,rfl,_,vs,v1,v2,v3,v4⟩;have s41:=X.size;refine⟨_,_,_,rfl,fun h=>by omega,fun _=> ?_⟩;have Y:y<=y*f:=qn _ om;have r:=fe b (n1 - 1) om;have OW:wv (b.drop (n1 - 1))=mt:=by
   rw[eS,<-I,dp om];simp[wv]
  rw[OW]at r;have Ox:=ig (G.take (n1 - 1));rw[fs,iv om]at Ox;obtain⟨P,m⟩:∃P,P=1000000000^(n1 - 1):=⟨_,rfl⟩
  rw[<-m]at r Ox;have Vv:y*f<P*1000000000:=by
   have i:y+1<=P*(mt+1):=by rw[<-d,r,jv];omega
   have o:(y+1)*f<=P*(mt+1)*f:=fT _ i;have k3:P*((mt+1)*f)<=P*1000000000:=gO _ JP;rw[LG]at o;rw[mw]at o;omega
  have ZF:P*(mt*f)<=y*f:=by
   have i:P*mt<=y:=by rw[<-d,r];omega
   have:=fT f i;rwa [LG]at this
  have Pf:nv=n1:=by
   have h1:=tx v2 H (by rw[d,v4];exact Y);have h2:=v1.len;apply ea;intro k;have h3:=lM v3 (fun e=>by rw[e,ot]at h1;omega);have h4:1000000000^(n1 - 1+1)<=1000000000^(vs.length - 1):=fy om om;rw[hL,<-m]at h4;omega
  subst Pf;have qf:=v1.len;have oM:1000000000<=2*vs.getD (nv - 1) 0:=by
   have h1:=fe vs (nv - 1) om;have h2:=ig (v2.take (nv - 1));rw[fs,iv om,<-m]at h2;have h3:wv (vs.drop (nv - 1))=vs.getD (nv - 1) 0:=by
    rw[eS,dp om];simp[wv]
   rw[h3,<-m,v4]at h1;apply ea;intro k;have h4:P*(vs.getD (nv - 1) 0+1)<=P*(mt*f):=gO _ om;rw[jv]at h4;omega
  have qe:nv<=n0:=by
   have:=tx a5 H (by rw[D,d];exact C);omega
  have nY:=j.len;have Ud:=T.xn;have Sn:=v1.xn;have OT:∀a,Af=some a->a.block<q.heap.size:=by
   obtain⟨ws,q1,q2,_,_,_,_,q3⟩:=K;refine q1.zE fun e=> ?_
   subst e;simp[wv]at q3;omega
  have e0:wv (us++[(0:Int).toNat])=x*f:=by rw[dT,N];simp[wv]
  have Z:du GU q.heap.size O (nu+1) Q (us++[(0:Int).toNat]):=T.other fun k W=>X.block k (T.sA k W).2
  refine Po (Bu:=q.heap.size) om om Z (M.append (Small.cons sm Small.nil)) v1.sl qf v2 (fun a b ha hb=> ?_) (fun a ha=>(Sn a ha).2) om om om oM
   (Vu.below X) (fun a b ha hb=> ?_) (fun a ha=>by have:=OT a ha;omega) om Vo ?_ ?_
  ·have h1:=Sn a ha;have h2:=Ud b hb;omega
  ·have h1:=OT a ha;have h2:=Ud b hb;omega
  ·have e2:(us++[(0:Int).toNat]).drop (nu+1 - nv)=us.drop (nu+1 - nv)++[0]:=by rw[Hg om];rfl
   rw[e2,dT];have h1:=ig (l:=us.drop (nu+1 - nv)) fun x hx=>M x (uR hx)
   rw[zB,show us.length - (nu+1 - nv)=nv - 1 by omega,<-m]at h1;have h2:P*1<=P*(mt*f):=gO _ (Nat.mul_pos om om);simp only[wv,CO,ob];omega
  ·rw[e0,v4,Nat.mul_div_mul_right _ _ om,Nat.mul_mod_mul_right,Nat.mul_div_cancel _ om];exact hR

theorem sD{w:World}{A0 A1:Option Addr}{n0 c0 n1 c1 x y:Nat}(ha:ee w A0 n0 c0 x)(hb:ee w A1 n1 c1 y)(hx:x<dL)(hy:y<dL)(k:y≠0):
  Pure Tryz.prog 290 #[.slice A0 n0 c0,.slice A1 n1 c1] w fun v w'=>∃A n c A' n' c',v= .tuple #[.slice A n c,.slice A' n' c']/\ee w' A n c (x / y)/\ee w' A' n' c' (x % y):=by
 refine F.ag.vc (pm (nO ha hb hx hy) ?_);rintro v E a rfl;refine⟨_,rfl,fun h=> ?_,fun h=> ?_⟩
 ·have d:x<y:=by
   simp only[eW]at h;split at h
   ·omega
   ·split at h<;>omega
  rw[GO d,Dz d];exact⟨_,_,_,_,_,_,rfl,⟨[],.inl rfl,rfl,om,om,Small.nil,by simp[Norm],rfl⟩,ha.below a⟩
 ·have hle:y<=x:=by
   simp only[eW]at h;split at h<;>omega
  refine pm (jZ (ha.below a)) ?_;rintro v l e rfl;refine⟨_,_,rfl,?_⟩;have g:Below w.heap.size w l:=a.trans (e.mono a.size);refine pm (jZ (hb.below g)) ?_;rintro v m o rfl;have b:Below w.heap.size w m:=g.trans (o.mono g.size);have done:∀A n c A' n' c' w',ee w' A n c (x / y)->ee w' A' n' c' (x % y)->∃A1 n1 c1 A2 n2 c2,Value.tuple #[.slice A n c,.slice A' n' c']= .tuple #[.slice A1 n1 c1,.slice A2 n2 c2]/\ee w' A1 n1 c1 (x / y)/\ee w' A2 n2 c2 (x % y):=
   fun A n c A' n' c' w' i j=>⟨_,_,_,_,_,_,rfl,i,j⟩
  refine⟨_,_,rfl,fun hs=>⟨fun q=> ?_,fun _=> ?_⟩,fun _=> ?_⟩
  ·have r:x<1000000000000000000:=by simpa using hs
   have z:y<1000000000000000000:=by simpa using q
   rw[cc r,cc z];have B:(x:Int) / (y:Int)=((x / y:Nat):Int):=by simp
   have em:(x:Int) % (y:Int)=((x % y:Nat):Int):=by simp
   have G:=DF x y;have hm:=Nat.mod_le x y;rw[B,em];refine⟨⟨om,om,ir⟩,⟨om,om⟩,fun H C=> ?_⟩;refine pm (gQ om) ?_;rintro v I J ⟨A,n,c,rfl,i⟩;refine⟨_,_,_,rfl,pm (gQ om) ?_⟩;rintro v K D ⟨A',n',c',rfl,j⟩;exact⟨_,_,_,rfl,done _ _ _ _ _ _ _ (i.below D) j⟩
  ·exact Mn b.size (ha.below b) (hb.below b) hx hle k done
  ·exact Mn b.size (ha.below b) (hb.below b) hx hle k done
end Go.Proofs.YtgfkeadgjkfomaaGreatDoor.B
