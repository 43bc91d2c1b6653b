/- Part 7 of the proofs that: The state of a record that was written and recovered is that of its events. -/
import Derived.Test.YtmdphpnaipbfjaaGreatDoorR6
import Derived.Test.YtmdphpnaipbfjaaGreatDoorProg
import Derived.Maps.OwnSet
import Derived.Maps.Views
import Derived.Maps.Keyed
import Derived.Carry
set_option linter.unusedVariables false
set_option linter.unusedSimpArgs false
namespace Go.Proofs.YtmdphpnaipbfjaaGreatDoor.B
open Go Go.RowKit Go.Proofs Go.Proofs.YtmdphpnaipbfjaaGreatDoor.Vc

theorem Hj{sz:Nat}{rows:List (List Value)}(h:∀r∈rows,r.length=sz){m:Nat}(hm:m<=rows.length):(rows.take m).flatten=rows.flatten.take (m*sz):=by
 have b:(rows.take m).flatten.length=m*sz:=by rw[ka _ fun r a=>h r (oe a),ep,jv hm]
 have:rows.flatten=(rows.take m).flatten++(rows.drop m).flatten:=by rw[<-u1,iv]
 conv=>rhs;rw[this]
 rw[vi om,cc (l:=(rows.take m).flatten) om]
theorem Hk{sz:Nat}{rows:List (List Value)}(h:∀r∈rows,r.length=sz){m:Nat}(hm:m<=rows.length):(rows.drop m).flatten=rows.flatten.drop (m*sz):=by
 have c:(rows.take m).flatten.length=m*sz:=by rw[ka _ fun r a=>h r (oe a),ep,jv hm]
 have:rows.flatten=(rows.take m).flatten++(rows.drop m).flatten:=by rw[<-u1,iv]
 conv=>rhs;rw[this]
 have b:(rows.take m).flatten.drop (m*sz)=[]:=dd om;rw[Jr om,b,u0]

theorem zZ{t ty e sz bytes:Nat}(el:El Tryz.prog t e sz bytes){B0 B:Nat}(D:B0<=B){tys:List Nat}{w:World}{g n c:Nat}{rows:List (List Value)}(ho:ay w B e (some ⟨g,0,none⟩) n c sz rows)
  {a:Addr} {m c2:Nat} {more:List (List Value)} (x:bW w (some a) sz more) (hm:more.length=m) (y:∀r∈more,r.length=sz) (h1:∀r∈more,∀u∈r,bk u=true) (C:n+m<=c) (E:e∉tys) (hB:B<=w.heap.size) {K:Option Addr->Nat->Nat->World->Prop}
  (h:∀l,ay l B e (some ⟨g,0,none⟩) (n+m) c sz (rows++more)->w.grownBy l (some g)->Below B0 w l->K (some ⟨g,0,none⟩) (n+m) c l):
  ae Tryz.prog (Builtin.append_ #[t,t] ty #[.slice (some ⟨g,0,none⟩) n c,.slice (some a) m c2]) B0 tys w fun r l=>∃A n c,r= .slice A n c/\K A n c l:=by
 obtain⟨i,z,F,N,G,O,Q⟩:=el.info;have hlen:more.flatten.length=m*sz:=by rw[ka _ y,hm]
 obtain⟨w',o,q,hg⟩:=run_append_fits (P:=Tryz.prog) w B t ty e i sz el.IJ F G g n c rows.flatten ho.1 a m c2 more.flatten hlen (fun j u hu=>by
  rcases x with x|⟨b,off,cs,ty,fr,H,I,J⟩
  ·subst x;simp at hu
  ·cases H;rw[ct];simp only[World.cell?,I];have:=wE more off y (fun i hi j hj=>(J i hi j hj).2) j u hu;simpa using this) (fun u hu=>by
  obtain⟨r,o,L⟩:=QF.1 hu;exact me (h1 r o u L)) C
 have d:Below B0 w w':=bT hg (fun k M=>by cases M;exact ec D (World.ownsRow.lt ho.1 g rfl).1) (ec D hB);refine⟨_,w',o,d,d.size,tK (v:= .slice (some ⟨g,0,none⟩) n c) hg ho.1 E,_,_,_,rfl,h w' ⟨by rw[u1];exact q,by simp[ho.len,hm],fun r o=> ?_⟩ hg d⟩;rcases fJ.1 o with h|h
 ·exact ho.2.2 r h
 ·exact y r h
theorem Mb(A:Option Addr)(n c i j:Nat)(h:i<=j)(a:j<=n)(k:n<=c)(w:World):∃v,(Instr.sliceAt 48 (.slice A n c) (some (.int .i64 (i:Int))) (some (.int .i64 (j:Int))) (some (.int .i64 (n:Int)))).run Tryz.prog w= .ok v w/\∃A' n' c',v= .slice A' n' c':=by
 obtain⟨q,z,b,l,m,o,r⟩:=ij.info;have d:∀{code:BoundsCode},(Instr.sliceBound (.int .i64 (n:Int)) c code).run Tryz.prog w= .ok n w:=fun {code}=>by
  have:=Go.run_sliceBound (P:=Tryz.prog) w .i64 (n:Int) c code om om;simpa using this
 have e:∀{code:BoundsCode},(Instr.sliceBound (.int .i64 (j:Int)) n code).run Tryz.prog w= .ok j w:=fun {code}=>by
  have:=Go.run_sliceBound (P:=Tryz.prog) w .i64 (j:Int) n code om om;simpa using this
 have g:∀{code:BoundsCode},(Instr.sliceBound (.int .i64 (i:Int)) j code).run Tryz.prog w= .ok i w:=fun {code}=>by
  have:=Go.run_sliceBound (P:=Tryz.prog) w .i64 (i:Int) j code om om;simpa using this
 refine⟨.slice (if n=i then A else A.map (·.add (i*q.size))) (j - i) (n - i),?_,_,_,_,rfl⟩;simp[Instr.sliceAt,Instr.slice,Instr.sliceBounds,run_underlying ij.IJ,d,e,g,sizeOf,typeInfo,b]
theorem Wb{w:World}{B:Nat}(hB:B<=w.heap.size){A:Option Addr}{n c:Nat}{l:List Sw}(ho:ay w B 73 A n c 3 (l.map Sw.row))(hn:n<2147483648){i:Nat}(hi:i<n):
  ba Tryz.prog 148 #[.slice A n c,.int .i64 (i:Int),.int .i64 ((i+1:Nat):Int)] B w fun v w'=>∃m,v= .slice A m c/\ay w' B 73 A m c 3 ((l.take i++l.drop (i+1)).map Sw.row)/\rF A w w':=by
 have hlen:l.length=n:=by have:=ho.len;simpa using this
 have j:=ho.jZ;have y:∃g,A=some ⟨g,0,none⟩:=by
  rcases ho.1.2 with⟨K,o⟩|⟨g,cap,cur,o,_⟩
  ·omega
  ·cases o;exact⟨g,rfl⟩
 obtain⟨g,rfl⟩:=y;obtain⟨v,z,A',n',c',rfl⟩:=Mb (some ⟨g,0,none⟩) n c i (i+1) om om j w;refine F.fx.sV hB ⟨_,w,z,Below.refl _ _,ga _,fun _ _ _ _ _=>rfl,_,_,_,rfl,fun h=>by omega,fun _=>⟨om,om,fun q x2=> ?_⟩⟩;rw[cd,cd];have r:=ho.lN x2;have os:=r.short (m:=i) om;rw[<-DO]at os;have C:∃a,cT (some (⟨g,0,none⟩:Addr)) (i+1) c 3=some a:=by
  unfold cT;split
  ·exact⟨_,rfl⟩
  ·exact⟨_,rfl⟩
 obtain⟨a,ha⟩:=C;have b:=r.sl.YC (k:=i+1) (c:=c) (by simp;omega);rw[ha]at b⊢;rw[<-List.map_drop]at b;refine zZ ij lf os b (by simp;omega) Dr Fx om sm (ec hB x2.below.size) fun D x g3 L=>⟨om,?_⟩
 have em:i+(n - (i+1))=n - 1:=om;rw[<-eh]at x;rw[cd,cd];refine vA ij Hi (by simp[Value.cells,bk]) x om j fun M E G H=>⟨_,rfl,E,?_⟩
 have t2:rF (some ⟨g,0,none⟩) w q:=⟨x2.below.size,fun k d _=>by
  rcases x2.other k d with h|⟨t,I,_⟩
  ·exact h
  ·simp at I⟩
 have t3:rF (some ⟨g,0,none⟩) q D:=⟨g3.size,fun k d J=>g3.block k d fun e=>by cases e;exact J _ rfl rfl⟩;exact(t2.trans t3).trans ⟨G.size,H⟩

theorem FA{xs L x:List Value}{p q N:Nat}(e:xs.length=N)(hx:x.length=q)(hp:p<=N)(h1:∀k,k<p->L[k]? =xs[k]?)(c:∀k,k<q->L[p+k]? =x[k]?)(d:∀k,p<=k->k<N->L[k+q]? =xs[k]?):L.take (N+q)=xs.take p++x++xs.drop p:=by
 apply Es;intro k;rw[k7,fi];have hl:(xs.take p).length=p:=by simp;omega
 by_cases b:k<p
 ·rw[bm om,hN om,k7,bm b,h1 k b]
 ·rw[iB om,hl];by_cases g:k<p+q
  ·rw[bm om,hN om];have:=c (k - p) om;rwa [show p+(k - p)=k by omega]at this
  ·rw[iB om,hx,oj];by_cases a:k<N+q
   ·rw[bm a];have:=d (k - q) om om;rw[show k - q+q=k by omega]at this;rw[this]
    congr 1
    omega
   ·rw[aq a,iw om]
theorem Wc{w:World}{B:Nat}(hB:B<=w.heap.size){A:Option Addr}{n c:Nat}{l:List Sw}(IA:ay w B 73 A n c 3 (l.map Sw.row))(hn:n<=1000){i:Nat}(hi:i<=n)
  {o J:Nat} {s:Sw} (U:ay w B 73 (some ⟨o,0,none⟩) 1 J 3 [s.row]) (hne:∀a,A=some a->a.block≠o):
  ba Tryz.prog 147 #[.slice A n c,.int .i64 (i:Int),.slice (some ⟨o,0,none⟩) 1 J] B w fun v w'=>∃A' c',v= .slice A' (n+1) c'/\ay w' B 73 A' (n+1) c' 3 ((l.take i++s::l.drop i).map Sw.row)/\rF A w w':=by
 have hlen:l.length=n:=by have:=IA.len;simpa using this
 have pB:=IA.jZ;have V:∀r∈l.map Sw.row,r.length=3:=Dr
 have SK:(l.map Sw.row).length=n:=by simp[hlen]
 obtain⟨xs,K⟩:∃xs,xs=(l.map Sw.row).flatten:=⟨_,rfl⟩
 have ho:=IA.1;rw[<-K]at ho;obtain⟨x,hx⟩:∃x:List Value,x=s.row:=⟨_,rfl⟩
 have M:x.length=3:=by rw[hx];rfl
 have YH:∀v∈x,bk v=true:=by
  rw[hx];intro v y;simp only[Sw.row,cb,eH,oP]at y;rcases y with rfl|rfl|rfl<;>rfl
 have h1:∀v∈xs,bk v=true:=by
  intro v y;rw[K]at y;obtain⟨r,hr,RT⟩:=QF.1 y;exact Fx r hr v RT
 have S:xs.length=n*3:=ho.1
 -- W result, out of W cells
 have fin:∀(A':Option Addr)(c':Nat)(w':World),w'.ownsRow B 73 3 (.slice A' (n+1) c') (n+1) (xs.take (i*3)++x++xs.drop (i*3))->ay w' B 73 A' (n+1) c' 3 ((l.take i++s::l.drop i).map Sw.row):=fun A' c' w' h=>by
  have e:((l.take i++s::l.drop i).map Sw.row).flatten=xs.take (i*3)++x++xs.drop (i*3):=by
   rw[eh,DM,u1,wR,DO,List.map_drop,Hj V om,Hk V om,<-K,<-hx,fi]
  exact⟨by rw[e];exact h,by simp;omega,Dr⟩
 obtain⟨cv,hBv,y,hvt,ZX⟩:∃cv:Array Value,B<=o/\w.heap[o]? =some (.cells cv 73 (0,0))/\cv.toList.take 3=x/\cv.size=J*3:=by
  rcases U.1.2 with⟨e1,_⟩|⟨g,cap,cur,e1,e2,e3,e4,e5,e6,e7⟩
  ·cases e1
  ·cases e1;exact⟨cur,e2,e3,by rw[hx];simpa using e7,e6⟩
 have hcc:1<=J:=U.jZ;have SL:∀{w':World},w'.heap[o]? =some (.cells cv 73 (0,0))->∀j v,x[j]? =some v->w'.cell? ((⟨o,0,none⟩:Addr).add j)=some v:=by
  intro w' hv' j v hj;rw[ct];simp only[World.cell?,hv',mC];rw[<-hvt,k7]at hj;split at hj
  ·simpa using hj
  ·cases hj
 refine F.fw.sV (w:=w) hB ⟨om,fun h=>by omega,fun _=>⟨fun h=> ?_,fun h=>⟨ir,fun h2=> ?_,fun h2=> ?_⟩⟩⟩
 ·-- at W end
  have lA:i=n:=om;subst lA;refine tL (P:=Tryz.prog) (ty:=48) ij (ga B) (tys:=[]) ho (a:=⟨o,0,none⟩) (m:=1) (c:=J) (news:=x) (by rw[M]) (SL y) YH hB om sm fun A' c' w2 k1 k2 k3=>⟨A',c',rfl,fin _ _ _ ?_,k2.size,fun k d UR=>k2.block k d fun e=> ?_⟩
  ·rw[cc om,dd om,vB];exact k1
  ·cases A with
   |none=>simp[Value.ownBlock]at e
   |some a=>simp[Value.ownBlock]at e;exact UR a rfl e
 ·-- no room: a new row
  have hA:∃g,A=some ⟨g,0,none⟩/\∃cur:Array Value,B<=g/\w.heap[g]? =some (.cells cur 73 (0,0))/\cur.toList.take (n*3)=xs:=by
   rcases ho.2 with⟨h0,X⟩|⟨g,cap,cur,X,h4,h5,h6,T,h8,h9⟩
   ·omega
   ·cases X;exact⟨g,rfl,cur,h4,h5,h9⟩
  obtain⟨g,rfl,cur,E,hg,BI⟩:=hA;have lA:i<n:=om;obtain⟨i0,z,e2,e3,e4,e5,e6⟩:=ij.info;have C:∀{w':World},w'.heap[g]? =some (.cells cur 73 (0,0))->∀j v,xs[j]? =some v->w'.cell? ((⟨g,0,none⟩:Addr).add j)=some v:=fun {w'} Gb j v hj=>by
   rw[ct];simp only[World.cell?,Gb,mC];rw[<-BI,k7]at hj;split at hj
   ·simpa using hj
   ·cases hj
  have hold:(Builtin.firstCells i0.size i (.slice (some ⟨g,0,none⟩) i c)).run Tryz.prog w.drew= .ok (xs.take (i*3)).toArray w.drew:=by
   rw[e4];exact run_firstCells_some w.drew 3 i ⟨g,0,none⟩ i c (xs.take (i*3)) (by rw[ep];omega) (fun j v hj=>by
    rw[k7]at hj;split at hj
    ·exact C (w':=w.drew) hg j v hj
    ·cases hj)
  have Y:i+(n+1 - i)=n+1:=om;have ajl:(n+1)*24<=140737488355328:=om;have D:=Lib.run_append_grow_zeros w 48 3 48 73 i0 z .i64 .i64 ij.IJ Tryz.underlying3 e2 e3 (some ⟨g,0,none⟩) i c (xs.take (i*3)) hold (n+1 - i) om om om om (by rw[e5];omega) (by rw[e5,Y];exact growslice_fits om ajl);rw[Y]at D;obtain⟨G,hG⟩:∃G,G=grownCap w (n+1) c 73:=⟨_,rfl⟩
  have hGn:n+1<=G:=by rw[hG];exact grownCap_ge w _ _ _
  have hGm:G<=maxLen:=by rw[hG];exact grownCap_le_maxLen w (n+1) c _ (by unfold maxLen;omega)
  rw[<-hG]at D;obtain⟨q,N⟩:∃q:List Value,q=((xs.take (i*3)).toArray++Builtin.zeroCells z.cells (n+1 - i)++Builtin.zeroCells z.cells (G - (n+1))).toList:=⟨_,rfl⟩
  have ajn:((xs.take (i*3)).toArray++Builtin.zeroCells z.cells (n+1 - i)++Builtin.zeroCells z.cells (G - (n+1)))=q.toArray:=by rw[N]
  have ajo:q.length=G*3:=by
   rw[N];simp only[ri,Array.size_append,Eu,ep,size_zeroCells,e6];omega
  have ajp:∀k,k<i*3->q[k]? =xs[k]? :=fun k d=>by
   rw[N];simp only[Array.toList_append,fi];rw[hN (by simp;omega),k7,bm d]
  rw[ajn]at D;have ekk:((n:Int)+((1:Nat):Int)) - (i:Int)=((n+1 - i:Nat):Int):=om;have eN:((i:Int)).toNat=i:=cd i;have b:w.grownBy (w.drew.alloc (.cells q.toArray 73)) none:=⟨rfl,rfl,rfl,sm,fun k d _=>RowKit.Below.heap_alloc w.drew _ k d⟩;have Z:=bT (B:=B) b sm hB;have fS:(w.drew.alloc (.cells q.toArray 73)).heap[w.heap.size]? =some (.cells q.toArray 73 (0,0)):=heap_alloc_new w.drew _;obtain⟨W1,hW1⟩:∃W1,W1=w.drew.alloc (.cells q.toArray 73):=⟨_,rfl⟩
  rw[<-hW1]at D b Z fS;have gl:=(ax.1 hg).1;have vl:=(ax.1 y).1;have O:((i:Int)+((1:Nat):Int)).toNat=i+1:=om;rw[eN,ekk];refine⟨om,ir,ir,_,W1,D,Z,b.size,fun k ty cs h=>(by cases h),_,_,_,rfl,om,?_⟩;rw[OX om];refine oW ij (cs:=x) (cur:=q) (by rw[M];simp only[ZB];split<;>omega) (SL (by rw[b.block o vl sm];exact y)) fS om YH hB sm fun w2 c1 c2 c3 c4=>⟨ir,om,om,fun w3 x3=> ?_⟩
  rw[O,OX om,OX om];have d1:=ext_nil x3 c1;have RR:w3.heap[g]? =some (.cells cur 73 (0,0)):=ext_nil x3 (by rw[c2 g om,b.block g gl sm];exact hg);have H:(xs.drop (i*3)).length=(n - i)*3:=by rw[wo,S];omega
  refine oW ij (cs:=xs.drop (i*3)) (cur:=setCells q (i*3) x) (by rw[H];simp only[ZB];split<;>omega) (fun j v hj=> ?_) d1 (by rw[gm,H];omega) (fun v Q=>h1 v (Be Q)) hB sm fun w4 f1 f2 f3 f4=> ?_
  ·rw[oj]at hj;have:=C RR (i*3+j) v hj;rw[ct]at this⊢;simpa using this
  refine⟨_,_,rfl,fin _ _ _ ⟨by simp[S,M];omega,.inr ⟨w.heap.size,G,_,rfl,hB,f1,hGn,hGm,by simp[gm,ajo],?_⟩⟩,?_,fun k d UR=> ?_⟩
  ·have Ds:i*3+x.length<=q.length:=om;have R:(i+1)*3+(xs.drop (i*3)).length<=(setCells q (i*3) x).length:=by rw[gm,H];omega
   have:=FA (L:=setCells (setCells q (i*3) x) ((i+1)*3) (xs.drop (i*3))) (x:=x) (p:=i*3) S M om (fun k d=>by
     rw[eG _ _ _ _ R,aq om,eG _ _ _ _ Ds,aq om];exact ajp k d)
    (fun k d=>by
     rw[eG _ _ _ _ R,aq om,eG _ _ _ _ Ds,bm om];rw[show i*3+k - i*3=k by omega])
    (fun k d Ie=>by
     rw[eG _ _ _ _ R,bm (by rw[H];omega),oj];rw[show i*3+(k+3 - (i+1)*3)=k by omega])
   rw[show(n+1)*3=n*3+3 by omega];simpa using this
  ·have:=x3.below.size;have:=b.size;omega
  ·rw[f2 k om];rcases x3.other k (by rw[c3];have:=b.size;omega)with T|⟨t,ht,_⟩
   ·rw[T,c2 k om,b.block k d sm]
   ·simp at ht
 ·-- there is room
  have lA:i<n:=om;have hA:∃g,A=some ⟨g,0,none⟩/\∃cur:Array Value,B<=g/\w.heap[g]? =some (.cells cur 73 (0,0))/\cur.toList.take (n*3)=xs/\cur.size=c*3/\c<=maxLen:=by
   rcases ho.2 with⟨h0,X⟩|⟨g,cap,cur,X,h4,h5,h6,T,h8,h9⟩
   ·omega
   ·cases X;exact⟨g,rfl,cur,h4,h5,h9,h8,T⟩
  obtain⟨g,rfl,cur,E,hg,BI,tV,hcm⟩:=hA;have hgv:g≠o:=hne _ rfl;have eN:((i:Int)).toNat=i:=cd i;have O:((i:Int)+((1:Nat):Int)).toNat=i+1:=om;have enN:((n:Int)+((1:Nat):Int)).toNat=n+1:=om;obtain⟨L,hL⟩:∃L:List Value,L=cur.toList:=⟨_,rfl⟩
  have hLa:cur=L.toArray:=by rw[hL]
  rw[<-hL]at BI;have hLl:L.length=c*3:=by rw[hL];simpa using tV
  rw[hLa]at hg;have C:∀j v,xs[j]? =some v->L[j]? =some v:=fun j v hj=>by
   rw[<-BI,k7]at hj;split at hj
   ·exact hj
   ·cases hj
  have hov:=Lib.run_overlaps_apart w 48 4 73 ij.IJ 3 Tryz.sizeOf73 ⟨o,0,none⟩ ⟨g,(i+1)*3,none⟩ 1 J (n+1 - (i+1)) (c - (i+1)) (fun e=>hgv e.symm) 73 73 (J*3) (c*3) (by simp[World.shape?,y,ZX]) (by simp[World.shape?,hg,hLl]) om (Lib.frozen_of_heap y _) (Lib.frozen_of_heap y _);have hco:(callFunc 209 #[.slice (some ⟨o,0,none⟩) 1 J,.slice (some ⟨g,(i+1)*3,none⟩) (n+1 - (i+1)) (c - (i+1))]).run Tryz.prog w= .ok (.value (.bool false)) w:=by
   rw[run_callFunc_extern Tryz.func209 kF kF kF (e:=Extern.SlicesOverlaps.overlaps #[48,48] #[4]) kF,hov];rfl
  rw[O,enN,eN];have zo:n+1<=c:=om;rw[OX om,OX om];have I:(xs.drop (i*3)).length=(n - i)*3:=by rw[wo,S];omega
  refine⟨ir,om,ir,om,_,w,hco,Below.refl _ _,ga _,fun k ty cs h=>(by cases h),_,rfl,fun _=>⟨ir,om,om,fun w1 x1=> ?_⟩,fun h=>absurd rfl h⟩;have g1:w1.heap[g]? =some (.cells L.toArray 73 (0,0)):=ext_nil x1 hg;have v1:w1.heap[o]? =some (.cells cv 73 (0,0)):=ext_nil x1 y;refine oW ij (cs:=xs.drop (i*3)) (cur:=L) (by rw[I];simp only[ZB];split<;>omega) (fun j v hj=> ?_) g1 (by rw[I];omega) (fun v Q=>h1 v (Be Q)) E sm fun w2 c1 c2 c3 c4=>⟨om,?_⟩
  ·rw[oj]at hj;have:=C (i*3+j) v hj;rw[ct];simp only[World.cell?,g1];simpa using this
  refine oW ij (cs:=x) (cur:=setCells L ((i+1)*3) (xs.drop (i*3))) (by rw[M];simp only[ZB];split<;>omega) (SL (by rw[c2 o (fun e=>hgv e.symm)];exact v1)) c1 (by rw[gm];omega) YH E sm fun w3 d1 d2 d3 d4=> ?_
  refine⟨_,_,rfl,fin _ _ _ ⟨by simp[S,M];omega,.inr ⟨g,c,_,rfl,E,d1,om,hcm,by simp[gm,hLl],?_⟩⟩,?_,fun k d UR=> ?_⟩
  ·have Ds:(i+1)*3+(xs.drop (i*3)).length<=L.length:=by rw[I];omega
   have R:i*3+x.length<=(setCells L ((i+1)*3) (xs.drop (i*3))).length:=by rw[gm];omega
   have:=FA (L:=setCells (setCells L ((i+1)*3) (xs.drop (i*3))) (i*3) x) (x:=x) (p:=i*3) S M om (fun k d=>by
     rw[eG _ _ _ _ R,aq om,eG _ _ _ _ Ds,aq om];obtain⟨v,hv3⟩:∃v,xs[k]? =some v:=⟨xs[k]'om,af _⟩
     rw[hv3,C k v hv3])
    (fun k d=>by
     rw[eG _ _ _ _ R,bm om];rw[show i*3+k - i*3=k by omega])
    (fun k d Ie=>by
     rw[eG _ _ _ _ R,aq om,eG _ _ _ _ Ds,bm (by rw[I];omega),oj];rw[show i*3+(k+3 - (i+1)*3)=k by omega])
   rw[show(n+1)*3=n*3+3 by omega];simpa using this
  ·have:=x1.below.size;omega
  ·have hkg:k≠g:=UR _ rfl;rw[d2 k hkg,c2 k hkg];rcases x1.other k d with T|⟨t,ht,_⟩
   ·exact T
   ·simp at ht

def gP(ps:List Pa)(f:Pa->ByteArray)(id:Int):Rat:=match (rC ps id).bind fun i=>ps[i]? with|some p=>qR (f p)|none=>0
def gH(hs:List Ho)(f:Ho->ByteArray)(id:Int):Rat:=match (wT hs id).bind fun i=>hs[i]? with|some h=>qR (f h)|none=>0
def tP(ps:List Pa)(f:Pa->ByteArray)(s:Sw):Rat:=(s.aU:Rat)*gP ps f s.au
def tH(ps:List Pa)(hs:List Ho)(f:Ho->ByteArray)(s:Sw):Rat:=(s.aU:Rat)*gP ps Pa.iQ s.au*gH hs f s.hold
abbrev ldV(a b c x y z:Rat):Value:= .agg #[.string (rS a),.string (rS b),.string (rS c),.string (rS x),.string (rS y),.string (rS z)]
def ldF(ps:List Pa)(hs:List Ho)(l:List Sw):Value:=ldV (eW (tP ps Pa.iQ) l) (eW (tP ps Pa.wG) l) (eW (tP ps Pa.gy) l) (eW (tH ps hs Ho.x) l) (eW (tH ps hs Ho.y) l) (eW (tH ps hs Ho.z) l)
theorem FB{ps:List Pa}{id:Int}{i:Nat}{p:Pa}(h:rC ps id=some i)(e:ps[i]? =some p)(f:Pa->ByteArray):gP ps f id=qR (f p):=by
 unfold gP;rw[h,QE,e]
theorem FC{hs:List Ho}{id:Int}{i:Nat}{p:Ho}(h:wT hs id=some i)(e:hs[i]? =some p)(f:Ho->ByteArray):gH hs f id=qR (f p):=by
 unfold gH;rw[h,QE,e]
theorem Pg(f:Sw->Rat)(l:List Sw)(s:Sw):eW f (l++[s])=eW f l+f s:=by rw[AT,Jj]
theorem xV{ps:List Pa}{id:Int}{i:Nat}(h:rC ps id=some i):∃hi:i<ps.length,ps[i].id=id:=by
 obtain⟨p,e,k⟩:=gY h;obtain⟨hi,rfl⟩:=ek.1 e;exact⟨hi,k⟩
theorem Dt{hs:List Ho}{id:Int}{i:Nat}(h:wT hs id=some i):∃hi:i<hs.length,hs[i].id=id:=by
 obtain⟨p,e,k⟩:=qu h;obtain⟨hi,rfl⟩:=ek.1 e;exact⟨hi,k⟩
structure uJ (ps:List Pa) (hs:List Ho) (l:List Sw):Prop where
 c:zU ps hs
 known:∀s∈l,∃i k,rC ps s.au=some i/\wT hs s.hold=some k
 u:∀s∈l,1<=s.aU/\s.aU<=9
 n:l.length<=40
theorem uJ.filter{ps:List Pa}{hs:List Ho}{l:List Sw}(h:uJ ps hs l)(q:Sw->Bool):uJ ps hs (l.filter q):=
 ⟨h.c,fun s a=>h.known s (GR.1 a).1,fun s a=>h.u s (GR.1 a).1,ec (List.length_filter_le _ _) h.n⟩
theorem Aa{l:List Sw}(h:∀s∈l,1<=s.aU){s:Sw}(hs:s∈l):s.aU<=cZ l s.au:=by
 obtain⟨a,b,rfl⟩:=List.append_of_mem hs;rw[show a++s::b=a++([s]++b)from rfl,gz,gz,nM,bm rfl];have h1:=jy (l:=a) (fun x hx=>h x (by simp[hx])) s.au;have d:=jy (l:=b) (fun x hx=>h x (by simp[hx])) s.au;omega
theorem fc.ld{ps:List Pa}{hs:List Ho}{l:List Sw}(h:fc ps hs l)(hn:l.length<=40):uJ ps hs l:=by
 refine⟨h.c,h.known,fun s a=>⟨h.pos s a,?_⟩,hn⟩;obtain⟨i,k,hi,_⟩:=h.known s a;obtain⟨p,e,hid⟩:=gY hi;have hm:=gr e;have h1:=h.full p hm;have b:=Aa h.pos a;have d:=(h.c.p1 p hm).2.1.2;rw[hid]at h1;omega
theorem aeJ{z:Int}(h1:1<=z)(a:z<=9):Sm 1 (z:Rat):=Sm.ofInt om om
theorem xW{f:Sw->Rat}{l:List Sw}(h:∀s∈l,Sm 2001 (f s)):Sm (2002*l.length+1) (eW f l):=by
 induction l with
 |nil=>exact Sm.zero om
 |cons s r ih=>
  rw[show s::r=[s]++r from rfl,AT,Jj];refine((h s sm).add (ih fun x hx=>h x (by simp[hx]))).mono ?_;simp;omega

section
variable {w0:World} {A0 A1 A:Option Addr} {n0 c0 n1 c1 n c:Nat} {ps:List Pa} {hs:List Ho} {l:List Sw} {R:Value->World->Prop}
theorem uJ.smP(h:uJ ps hs l)(d:hU w0 A0 n0 A1 n1 ps hs){s:Sw}(g:s∈l):Sm 1000 (gP ps Pa.iQ s.au)/\Sm 1000 (gP ps Pa.wG s.au)/\Sm 1000 (gP ps Pa.gy s.au):=by
 obtain⟨i,k,hi,_⟩:=h.known s g;obtain⟨p,e,_⟩:=gY hi;have hm:=gr e;have a:=h.c.vp p hm;have b:=d.sp p hm;unfold vP at a;simp only[de]at a;rw[FB hi e,FB hi e,FB hi e];exact⟨mg a.1.1 b.iQ,mg a.1.2 b.wG,mg a.2 b.gy⟩
theorem uJ.smH(h:uJ ps hs l)(d:hU w0 A0 n0 A1 n1 ps hs){s:Sw}(g:s∈l):Sm 1000 (gH hs Ho.x s.hold)/\Sm 1000 (gH hs Ho.y s.hold)/\Sm 1000 (gH hs Ho.z s.hold):=by
 obtain⟨_,i,_,hi⟩:=h.known s g;obtain⟨p,e,_⟩:=qu hi;have hm:=gr e;have a:=h.c.vh p hm;have b:=d.sh p hm;unfold vH at a;simp only[de]at a;rw[FC hi e,FC hi e,FC hi e];exact⟨mg a.1.1.2 b.x,mg a.1.2 b.y,mg a.2 b.z⟩
theorem uJ.YI(h:uJ ps hs l)(g:hU w0 A0 n0 A1 n1 ps hs){s:Sw}(e:s∈l):
  (Sm 2001 (tP ps Pa.iQ s)/\Sm 2001 (tP ps Pa.wG s)/\Sm 2001 (tP ps Pa.gy s))/\(Sm 2001 (tH ps hs Ho.x s)/\Sm 2001 (tH ps hs Ho.y s)/\Sm 2001 (tH ps hs Ho.z s)):=by
 obtain⟨a,b,d⟩:=h.smP g e;obtain⟨x,y,z⟩:=h.smH g e;have hn:=aeJ (h.u s e).1 (h.u s e).2;exact⟨⟨(hn.mul a).mono om,(hn.mul b).mono om,(hn.mul d).mono om⟩,((hn.mul a).mul x).mono om,((hn.mul a).mul y).mono om,((hn.mul a).mul z).mono om⟩
theorem uJ.smL(h:uJ ps hs l)(b:hU w0 A0 n0 A1 n1 ps hs):
  (lC (eW (tP ps Pa.iQ) l)/\lC (eW (tP ps Pa.wG) l)/\lC (eW (tP ps Pa.gy) l))/\(lC (eW (tH ps hs Ho.x) l)/\lC (eW (tH ps hs Ho.y) l)/\lC (eW (tH ps hs Ho.z) l)):=by
 have hn:=h.n;exact⟨⟨(xW fun s a=>(h.YI b a).1.1).mono om,(xW fun s a=>(h.YI b a).1.2.1).mono om,(xW fun s a=>(h.YI b a).1.2.2).mono om⟩,
  (xW fun s a=>(h.YI b a).2.1).mono om,(xW fun s a=>(h.YI b a).2.2.1).mono om,(xW fun s a=>(h.YI b a).2.2.2).mono om⟩
theorem uJ.take(h:uJ ps hs l)(i:Nat):uJ ps hs (l.take i):=
 ⟨h.c,fun s a=>h.known s (oe a),fun s a=>h.u s (oe a),by have:=h.n;rw[ep];omega⟩

theorem SM (hg : bj w0) (g : hU w0 A0 n0 A1 n1 ps hs) (h : bW w0 A 3 (l.map Sw.row)) (hl : l.length = n) (fk : uJ ps hs l) (t0 t1 t2 t3 t4 t5 : ByteArray) :
    ∀ (d i : Nat) (w : World), n - i = d → i ≤ n → Below w0.heap.size w0 w →
      F.bl.L3 A n c n i A0 n0 c0 A1 n1 c1 t0 t1 t2 t3 t4 t5 (rS (eW (tP ps Pa.iQ) (l.take i))) (rS (eW (tP ps Pa.wG) (l.take i))) (rS (eW (tP ps Pa.gy) (l.take i))) (rS (eW (tH ps hs Ho.x) (l.take i))) (rS (eW (tH ps hs Ho.y) (l.take i))) (rS (eW (tH ps hs Ho.z) (l.take i))) w0.heap.size w fun v _ => v = ldF ps hs l := by
  intro d
  induction d with
  | zero =>
    intro i w hd hi hw
    refine F.bl.L3.step ⟨fun h => by omega, fun _ w2 _ => ?_⟩
    rw [cc om]
    rfl
  | succ d ih =>
    intro i w hd hi hw
    have Z : i < l.length := om
    have apD := fk.n
    have e3 := sc i
    have et : l.take (i + 1) = l.take i ++ [l[i]] := by rw [gv, af Z]; rfl
    have K : l[i] ∈ l := bx Z
    obtain ⟨ip, j, L, M⟩ := fk.known l[i] K
    obtain ⟨I, aeK⟩ := xV L
    obtain ⟨k, apE⟩ := Dt M
    obtain ⟨⟨b1, b2, b3⟩, b4, b5, b6⟩ := (fk.take i).smL g
    obtain ⟨m1, m2, m3⟩ := fk.smP g K
    obtain ⟨m4, m5, m6⟩ := fk.smH g K
    obtain ⟨⟨X, k2, k3⟩, k4, k5, k6⟩ := fk.YI g K
    have hu := fk.u l[i] K
    have KH := aeJ hu.1 hu.2
    have B : lC ((l[i].aU : Int) : Rat) := KH.mono om
    have N := fk.c.vp _ (bx I)
    have O := fk.c.vh _ (bx k)
    unfold vP at N
    unfold vH at O
    simp only [de] at N O
    have p1 : ps[ip].iQ = rS (gP ps Pa.iQ l[i].au) := by rw [FB L (af I)]; exact iq N.1.1
    have p2 : ps[ip].wG = rS (gP ps Pa.wG l[i].au) := by rw [FB L (af I)]; exact iq N.1.2
    have p3 : ps[ip].gy = rS (gP ps Pa.gy l[i].au) := by rw [FB L (af I)]; exact iq N.2
    have p4 : hs[j].x = rS (gH hs Ho.x l[i].hold) := by rw [FC M (af k)]; exact iq O.1.1.2
    have p5 : hs[j].y = rS (gH hs Ho.y l[i].hold) := by rw [FC M (af k)]; exact iq O.1.2
    have p6 : hs[j].z = rS (gH hs Ho.z l[i].hold) := by rw [FC M (af k)]; exact iq O.2
    have yj : ∀ {x : Rat}, Sm 2001 x → lC x := fun h => h.mono om
    have J : ∀ {x : Rat}, Sm 1000 x → lC x := fun h => h.mono om
    have fin : ∀ (w : World) (a b : Int), Below w0.heap.size w0 w →
        F.bl.J6 A n c n i A0 n0 c0 A1 n1 c1 t0 t1 t2 t3 t4 t5 (rS (eW (tP ps Pa.iQ) (l.take i))) (rS (eW (tP ps Pa.wG) (l.take i))) (rS (eW (tP ps Pa.gy) (l.take i))) (rS (eW (tH ps hs Ho.x) (l.take i))) (rS (eW (tH ps hs Ho.y) (l.take i))) (rS (eW (tH ps hs Ho.z) (l.take i)))
          l[i].hold l[i].au l[i].aU ps[ip].id a b ps[ip].name ps[ip].iQ ps[ip].wG ps[ip].gy hs[j].x hs[j].y hs[j].z w0.heap.size w fun v _ => v = ldF ps hs l := by
      intro w a b hw
      rw [p1, p2, p3, p4, p5, p6]
      have next : ∀ w', Below w0.heap.size w0 w' → F.bl.L3 A n c n ((i : Int) + 1) A0 n0 c0 A1 n1 c1 t0 t1 t2 t3 t4 t5 (rS (eW (tP ps Pa.iQ) (l.take i) + tP ps Pa.iQ l[i])) (rS (eW (tP ps Pa.wG) (l.take i) + tP ps Pa.wG l[i])) (rS (eW (tP ps Pa.gy) (l.take i) + tP ps Pa.gy l[i])) (rS (eW (tH ps hs Ho.x) (l.take i) + tH ps hs Ho.x l[i])) (rS (eW (tH ps hs Ho.y) (l.take i) + tH ps hs Ho.y l[i])) (rS (eW (tH ps hs Ho.z) (l.take i) + tH ps hs Ho.z l[i])) w0.heap.size w' fun v _ => v = ldF ps hs l := by
        intro w' xU
        have := ih (i + 1) w' om om xU
        rw [et] at this
        simp only [Pg] at this
        rw [e3]
        exact this
      unfold tP tH at *
      refine F.bl.J6.step (pm (mQ (hg.next hw) om om) ?_)
      rintro v w1 h1 rfl
      have hw := kP hw h1; clear h1
      refine ⟨_, rfl, pm (jz (hg.next hw) B (J m1)) ?_⟩
      rintro v w2 h1 rfl
      have hw := kP hw h1; clear h1
      refine ⟨_, rfl, fun w3 x3 => ?_⟩
      have hw := kE hw x3; clear x3
      refine pm (jA (hg.next hw) b1 (yj X)) ?_
      rintro v w4 h1 rfl
      have hw := kP hw h1; clear h1
      refine ⟨_, rfl, pm (jz (hg.next hw) B (J m2)) ?_⟩
      rintro v w5 h1 rfl
      have hw := kP hw h1; clear h1
      refine ⟨_, rfl, pm (jA (hg.next hw) b2 (yj k2)) ?_⟩
      rintro v w6 h1 rfl
      have hw := kP hw h1; clear h1
      refine ⟨_, rfl, pm (jz (hg.next hw) B (J m3)) ?_⟩
      rintro v w7 h1 rfl
      have hw := kP hw h1; clear h1
      refine ⟨_, rfl, pm (jA (hg.next hw) b3 (yj k3)) ?_⟩
      rintro v w8 h1 rfl
      have hw := kP hw h1; clear h1
      refine ⟨_, rfl, fun w9 x9 => ?_⟩
      have hw := kE hw x9; clear x9
      refine pm (jz (hg.next hw) (yj X) (J m4)) ?_
      rintro v kg h1 rfl
      have hw := kP hw h1; clear h1
      refine ⟨_, rfl, pm (jA (hg.next hw) b4 (yj k4)) ?_⟩
      rintro v wS h1 rfl
      have hw := kP hw h1; clear h1
      refine ⟨_, rfl, pm (jz (hg.next hw) (yj X) (J m5)) ?_⟩
      rintro v Ez h1 rfl
      have hw := kP hw h1; clear h1
      refine ⟨_, rfl, pm (jA (hg.next hw) b5 (yj k5)) ?_⟩
      rintro v xQ h1 rfl
      have hw := kP hw h1; clear h1
      refine ⟨_, rfl, pm (jz (hg.next hw) (yj X) (J m6)) ?_⟩
      rintro v CV h1 rfl
      have hw := kP hw h1; clear h1
      refine ⟨_, rfl, pm (jA (hg.next hw) b6 (yj k6)) ?_⟩
      rintro v Du h1 rfl
      have hw := kP hw h1; clear h1
      refine ⟨_, rfl, ir, fun xi Ei => ?_⟩
      exact next xi (kE hw Ei)
    clear ih
    obtain ⟨hb, a, hA, C, _⟩ := (h.ar hw lf).at_ (fun _ => rfl) hl Z
    obtain ⟨P, ap, D, _⟩ := g.p.at_ (fun _ => rfl) g.lp I
    obtain ⟨q, ah, m, _⟩ := g.h.at_ (fun _ => rfl) g.lh k
    have cP : ∀ w, Below w0.heap.size w0 w → aa w (ap.add ((ip : Int).toNat * 7)) (ps[ip].row) := fun w hw => by
      obtain ⟨_, a', Q, Vj, _⟩ := (g.p.ar hw lf).at_ (fun _ => rfl) g.lp I
      rw [D] at Q
      cases Q
      exact Vj
    have cH : ∀ w, Below w0.heap.size w0 w → aa w ((ah.add ((j : Int).toNat * 7)).add 4) [.string hs[j].x, .string hs[j].y, .string hs[j].z] := fun w hw => by
      obtain ⟨_, a', Q, Vj, _⟩ := (g.h.ar hw lf).at_ (fun _ => rfl) g.lh k
      rw [m] at Q
      cases Q
      exact tX Vj 4 3
    refine F.bl.L3.step ⟨fun _ => ⟨hb, a, hA, _, _, _, C, fun w6 x6 => ?_⟩, fun h => by omega⟩
    have Y := kE hw x6
    have par : ∀ w, Below w0.heap.size w0 w → Pure Tryz.prog 142 #[.agg #[.slice A0 n0 c0, .slice A1 n1 c1], .int .i64 l[i].au] w fun v _ => v = .int .i64 (ip : Int) := fun w hw => by
      have := hO (c0 := c0) (c1 := c1) (g.ar hw) l[i].au
      rw [L] at this
      exact this
    have E : ∀ w, Below w0.heap.size w0 w → Pure Tryz.prog 143 #[.agg #[.slice A0 n0 c0, .slice A1 n1 c1], .int .i64 l[i].hold] w fun v _ => v = .int .i64 (j : Int) := fun w hw => by
      have := jf (c0 := c0) (c1 := c1) (g.ar hw) l[i].hold
      rw [M] at this
      exact this
    have aeN : ∀ (w : World), Below w0.heap.size w0 w → ∃ S o T : ByteArray, aa w ((ah.add ((j : Int).toNat * 7)).add 4) [.string S, .string o, .string T] ∧ ∀ (ts : List Nat) r, Ext w0.heap.size ts w r → F.bl.J6 A n c n i A0 n0 c0 A1 n1 c1 t0 t1 t2 t3 t4 t5 (rS (eW (tP ps Pa.iQ) (l.take i))) (rS (eW (tP ps Pa.wG) (l.take i))) (rS (eW (tP ps Pa.gy) (l.take i))) (rS (eW (tH ps hs Ho.x) (l.take i))) (rS (eW (tH ps hs Ho.y) (l.take i))) (rS (eW (tH ps hs Ho.z) (l.take i)))
          l[i].hold l[i].au l[i].aU ps[ip].id ps[ip].aU ps[ip].cls ps[ip].name ps[ip].iQ ps[ip].wG ps[ip].gy S o T w0.heap.size r fun v _ => v = ldF ps hs l :=
      fun w hw => ⟨_, _, _, cH w hw, fun ts r x => fin r _ _ (kE hw x)⟩
    have G : ∀ (ts H : List Nat) (w : World), Below w0.heap.size w0 w → ∀ U, Ext w0.heap.size ts w U → ∃ S o T : ByteArray, aa U ((ah.add ((j : Int).toNat * 7)).add 4) [.string S, .string o, .string T] ∧ ∀ r, Ext w0.heap.size H U r → F.bl.J6 A n c n i A0 n0 c0 A1 n1 c1 t0 t1 t2 t3 t4 t5 (rS (eW (tP ps Pa.iQ) (l.take i))) (rS (eW (tP ps Pa.wG) (l.take i))) (rS (eW (tP ps Pa.gy) (l.take i))) (rS (eW (tH ps hs Ho.x) (l.take i))) (rS (eW (tH ps hs Ho.y) (l.take i))) (rS (eW (tH ps hs Ho.z) (l.take i)))
          l[i].hold l[i].au l[i].aU ps[ip].id ps[ip].aU ps[ip].cls ps[ip].name ps[ip].iQ ps[ip].wG ps[ip].gy S o T w0.heap.size r fun v _ => v = ldF ps hs l :=
      fun ts H w hw U x => by
        obtain ⟨s1, s2, s3, e, f⟩ := aeN U (kE hw x)
        exact ⟨s1, s2, s3, e, fun r YJ => f H r YJ⟩
    clear fin
    refine ⟨fun w7 x7 => ?_, fun w55 x55 => ?_⟩
    · have qn := kE Y x7
      refine pm (par w7 qn) ?_
      rintro v kg sW rfl
      have uc := kP qn sW
      refine ⟨_, rfl, P, ap, D, _, _, _, _, _, _, _, cP w6 Y, fun Cb KP => ?_, fun KQ x34 => ?_⟩
      · have pC := kE uc KP
        refine pm (E Cb pC) ?_
        rintro v uA h22 rfl
        have kA := kP pC h22
        exact ⟨_, rfl, q, ah, m, G _ _ uA kA, G _ _ uA kA⟩
      · have uK := kE uc x34
        refine pm (E KQ uK) ?_
        rintro v SN h37 rfl
        have qz := kP uK h37
        exact ⟨_, rfl, ⟨q, ah, m, G _ _ SN qz, G _ _ SN qz⟩, q, ah, m, G _ _ SN qz⟩
    · have Mc := kE Y x55
      refine pm (par w55 Mc) ?_
      rintro v VN h58 rfl
      have SO := kP Mc h58
      refine ⟨_, rfl, P, ap, D, _, _, _, _, _, _, _, cP w6 Y, fun w67 x67 => ?_⟩
      have V := kE SO x67
      refine pm (E w67 V) ?_
      rintro v UW h70 rfl
      have W := kP V h70
      exact ⟨_, rfl, q, ah, m, G _ _ UW W, G _ _ UW W⟩
theorem bl(hg:bj w0)(a:hU w0 A0 n0 A1 n1 ps hs)(h:bW w0 A 3 (l.map Sw.row))(hl:l.length=n)(fk:uJ ps hs l):
  Pure Tryz.prog 242 #[.agg #[.slice A0 n0 c0,.slice A1 n1 c1],.slice A n c] w0 fun v _=>v=ldF ps hs l:=by
 refine F.bl.vc fun w1 x1=> ?_
 have:=SM (c:=c) (c0:=c0) (c1:=c1) hg a h hl fk (⟨#[]⟩) (⟨#[]⟩) (⟨#[]⟩) (⟨#[]⟩) (⟨#[]⟩) (⟨#[]⟩) n 0 w1 rfl om (k0 x1);simp only[FI,Sv,<-s0]at this;exact this
end

theorem SP{w:World}{A:Option Addr}{n c:Nat}{l:List Sw}(h:bW w A 3 (l.map Sw.row))(hlen:l.length=n)(hn:n<=1000000):
  Pure Tryz.prog 84 #[.slice A n c] w fun v w'=>∃A' c',v= .slice A' n c'/\ay w' w.heap.size 73 A' n c' 3 (l.map Sw.row):=by
 refine F.fE.vc ⟨fun b=> ?_,fun b=> ?_⟩
 ·subst b;have:=h.sO;simp at this;subst this;simp at hlen;subst hlen;exact⟨none,0,rfl,ay.nil⟩
 ·obtain⟨a,rfl⟩:=FL.1 b;refine aW ij [] sm sm lf fun A2 c2 i ho e=> ?_
  refine vo ij lf (by simpa using ho) (h.below e) (by simpa using hlen) (fun r d=>by obtain⟨s,_,rfl⟩:=iu.1 d;rfl) (fun r d=>by obtain⟨s,_,rfl⟩:=iu.1 d;intro u hu;simp[Sw.row]at hu;rcases hu with rfl|rfl|rfl<;>rfl) e.size (by simp;omega) sm fun A' c' j g _ k=> ?_
  simp only[za,mC,u0]at g⊢;exact⟨A',c',rfl,g⟩
def Ii(l:List Sw)(id:Int):List Sw:=l.filter fun s=>decide (s.hold=id)
theorem qx{w:World}{A:Option Addr}{n c:Nat}{l:List Sw}(h:bW w A 3 (l.map Sw.row))(hlen:l.length=n)(hn:n<=1000000)(id:Int):
  Pure Tryz.prog 243 #[.slice A n c,.int .i64 id] w fun v w'=>∃A' m c',v= .slice A' m c'/\bW w' A' 3 ((Ii l id).map Sw.row)/\(Ii l id).length=m:=by
 refine F.qx.vc fun w1 x1=> ?_
 have g:=k0 x1;refine pm (SP (h.ar g lf) hlen hn) ?_;rintro v r y ⟨A',c',rfl,ho⟩;refine⟨_,_,_,rfl,fun d z i=> ?_⟩;have B:=kP g y;have j:∀a,A'=some a->d≠a.block:=fun a ha e=>by
  obtain⟨cs,o⟩:=ho.cells a ha;rw[<-e,i]at o;simp at o
 have b:d<r.heap.size:=(ax.1 i).1;refine ba.mono (Ju (p:=fun s=>decide (s.hold≠id)) B.size (ho.base g.size) om kF fun w' q x=> ?_) ?_
 ·refine F.vx.vc fun E C=>⟨_,fy (ty:=3) ?_,rfl⟩
  exact(k0 C).block d (uB b q.1)|>.trans ((q.2 d b j).trans i)
 ·rintro v G b8 ⟨m,rfl,k,_⟩;refine⟨fun _ _ _ D=>(by cases D),_,_,_,rfl,_,_,_,rfl,?_⟩;have e:(l.filter fun x=> !(decide (x.hold≠id)))=Ii l id:=by
   unfold Ii;refine List.filter_congr fun s _=> ?_
   by_cases h:s.hold=id<;>simp[h]
  rw[e]at k;exact⟨k.sl,by simpa using k.len⟩

abbrev ld0:Value:= .agg #[.string ⟨#[]⟩,.string ⟨#[]⟩,.string ⟨#[]⟩,.string ⟨#[]⟩,.string ⟨#[]⟩,.string ⟨#[]⟩]
def SQ(ps:List Pa)(hs:List Ho)(l:List Sw)(id:Int):Value:=
 if iy ps hs l≠0 then .tuple #[ld0,.int .i64 1]else if wT hs id=none then .tuple #[ld0,.int .i64 7]else .tuple #[ldF ps hs (Ii l id),.int .i64 0]
def AW(ps:List Pa)(_:List Ho)(l:List Sw)(h:Ho):Bool:=
 decide (qR h.nz<eW (tP ps Pa.iQ) (Ii l h.id))||decide (qR h.room<eW (tP ps Pa.wG) (Ii l h.id))
def SR(ps:List Pa)(hs:List Ho)(l:List Sw):Value:=
 if iy ps hs l≠0 then .tuple #[.int .i64 0,.int .i64 1]else .tuple #[.int .i64 (wJ (hs.findIdx? (AW ps hs l))),.int .i64 0]
theorem pQ{o:Option Nat}:wJ o<0↔o=none:=by cases o<;>simp[wJ]

section
variable {w:World} {A0 A1 A:Option Addr} {n0 c0 n1 c1 n c:Nat} {ps:List Pa} {hs:List Ho} {l:List Sw}
theorem qy(hg:bj w)(b:hU w A0 n0 A1 n1 ps hs)(h:bW w A 3 (l.map Sw.row))(hl:l.length=n)(d:n<=c)(hn:n<=40)(id:Int):
  Pure Tryz.prog 278 #[.agg #[.slice A0 n0 c0,.slice A1 n1 c1],.slice A n c,.int .i64 id] w fun v _=>v=SQ ps hs l id:=by
 refine F.qy.vc fun w1 x1=> ?_
 have hw:=k0 x1;refine pm (cn (hg.next hw) (b.ar hw) (h.ar hw lf) hl d om) ?_;rintro v o e rfl;have hw:=kP hw e;unfold SQ;refine⟨_,rfl,fun a q _=>by rw[bm a],fun a=> ?_⟩;rw[aq a];have fk:=(fN (dT.1 a)).ld om;refine pm (jf (b.ar hw) id) ?_;rintro v r b8 rfl;have hw:=kP hw b8;refine⟨_,rfl,fun h1 x _=>by rw[bm (pQ.1 h1)],fun h1 y g=> ?_⟩;rw[aq (fun k=>h1 (pQ.2 k))];have hw:=kE hw g;refine pm (qx (h.ar hw lf) hl om id) ?_;rintro v z i ⟨A',m,c',rfl,hi,j⟩;have hw:=kP hw i;refine⟨_,_,_,rfl,pm (bl (hg.next hw) (b.ar hw) hi j (fk.filter _)) ?_⟩;rintro v B C rfl;exact⟨_,_,_,_,_,_,rfl,fun D _=>rfl⟩
theorem We(hg:bj w)(d:hU w A0 n0 A1 n1 ps hs)(h:bW w A 3 (l.map Sw.row))(hl:l.length=n)(fk:uJ ps hs l){H q1:Addr}(B:∀w',Below w.heap.size w w'->aa w' H [.slice A0 n0 c0,.slice A1 n1 c1])(C:∀w',Below w.heap.size w w'->aa w' q1 [.slice A n c]){x:Ho}(hx:x∈hs):
  Pure Tryz.prog 241 #[x.val,.pointer (some H),.pointer (some q1)] w fun v _=>v= .bool (AW ps hs l x):=by
 have hn:=fk.n;have b:=fk.c.vh x hx;unfold vH at b;simp only[de]at b;have I:=d.sh x hx;have L:lC (qR x.nz):=I.nz.yj b.1.1.1.2;have br:lC (qR x.room):=I.room.yj b.1.1.1.1;have em:x.nz=rS (qR x.nz):=iq b.1.1.1.2;have M:x.room=rS (qR x.room):=iq b.1.1.1.1;obtain⟨⟨N,O,S⟩,T,U,V⟩:=(fk.filter fun s=>decide (s.hold=x.id)).smL d;have cmp:∀w',Below w.heap.size w w'->Pure Tryz.prog 183 #[.string (rS (eW (tP ps Pa.iQ) (Ii l x.id))),.string x.nz] w' fun r D=>∃i:Int,r= .int .i64 i/\((i>0->(fun(v:Value) (_:World)=>v= .bool (AW ps hs l x)) (.bool true) D)/\(¬i>0->
   Pure Tryz.prog 183 #[.string (rS (eW (tP ps Pa.wG) (Ii l x.id))),.string x.room] D fun r J=>∃i:Int,r= .int .i64 i/\(fun(v:Value) (_:World)=>v= .bool (AW ps hs l x)) (.bool (decide (i>0))) J)):=by
  intro w' hw;have c1:=ie (hg.next hw) N L;rw[<-em]at c1;refine pm c1 ?_;rintro v D P rfl;have hw:=kP hw P;refine⟨_,rfl,fun k=> ?_,fun k=> ?_⟩
  ·have:=gL.1 k;show Value.bool true=_;unfold AW;rw[show(decide (qR x.nz<eW (tP ps Pa.iQ) (Ii l x.id)))=true from hM this];rfl
  ·have c2:=ie (hg.next hw) O br;rw[<-M]at c2;refine pm c2 ?_;rintro v J W rfl;refine⟨_,rfl,?_⟩;show Value.bool _=_;unfold AW;rw[show(decide (qR x.nz<eW (tP ps Pa.iQ) (Ii l x.id)))=false from eL fun h=>k (gL.2 h),MF];refine ca Value.bool ?_;rw[ky];exact gL
 refine F.kM.vc fun w1 x1=> ?_
 have y:=k0 x1;refine⟨_,_,_,_,_,_,B w1 y,_,_,_,C w1 y,fun X Q=> ?_,fun Y E=> ?_⟩
 ·have e:=kE y Q;refine pm (qx (h.ar e lf) hl om x.id) ?_;rintro v R b8 ⟨A',m,c',rfl,hi,z⟩;have a:=kP e b8;refine⟨_,_,_,rfl,pm (bl (hg.next a) (d.ar a) hi z (fk.filter _)) ?_,fun Z g=> ?_⟩
  ·rintro v K j rfl;exact⟨_,_,_,_,_,_,rfl,fun o q=>cmp o (kE (kP a j) q)⟩
  ·have G:=kE a g;refine pm (bl (hg.next G) (d.ar G) (hi.lN g) z (fk.filter _)) ?_;rintro v K j rfl;exact⟨_,_,_,_,_,_,rfl,fun o q=>cmp o (kE (kP G j) q)⟩
 ·have e:=kE y E;refine pm (qx (h.ar e lf) hl om x.id) ?_;rintro v R b8 ⟨A',m,c',rfl,hi,z⟩;have a:=kP e b8;refine⟨_,_,_,rfl,pm (bl (hg.next a) (d.ar a) hi z (fk.filter _)) ?_⟩;rintro v K j rfl;exact⟨_,_,_,_,_,_,rfl,fun o q=>cmp o (kE (kP a j) q)⟩
theorem iH(hg:bj w)(a:hU w A0 n0 A1 n1 ps hs)(h:bW w A 3 (l.map Sw.row))(hl:l.length=n)(e:n<=c)(hn:n<=40):
  Pure Tryz.prog 186 #[.agg #[.slice A0 n0 c0,.slice A1 n1 c1],.slice A n c] w fun v _=>v=SR ps hs l:=by
 have g:=a.nh;refine F.iH.vc fun w1 x1=> ?_
 have hw:=k0 x1;refine pm (cn (hg.next hw) (a.ar hw) (h.ar hw lf) hl e om) ?_;rintro v r i rfl;have hw:=kP hw i;unfold SR;refine⟨_,rfl,fun b=>by rw[bm b],fun b y j k z m o=> ?_⟩;rw[aq b];have fk:=(fN (dT.1 b)).ld om;refine pm (B9 (p:=AW ps hs l) ((a.ar hw).h) a.lh om kF fun w' hb x hx=> ?_) ?_
 ·exact We (hg.next (kP hw hb)) (a.ar (kP hw hb)) (h.ar (kP hw hb) lf) hl fk (fun q d=>fy (ai (ai o hb) d)) (fun q d=>fy (ai (ai k hb) d)) hx
 ·rintro v B C rfl;exact⟨_,rfl,rfl⟩
end

theorem Dw(t a:Sw)(r:List Sw):xq t (a::r)=if fT a t then xq t r+1 else 0:=by
 unfold xq;rw[List.takeWhile_cons];by_cases h:fT a t
 ·simp[h]
 ·simp[h]
theorem Jv(t a:Sw)(r:List Sw):iJ t (a::r)=if fT a t then iJ t r else decide (a.hold=t.hold/\a.au=t.au):=by
 unfold iJ;rw[Dw];by_cases h:fT a t
 ·rw[bm h,bm h];rfl
 ·rw[aq h,aq h];rfl
theorem NH{a t:Sw}(h:¬fT a t):(a.hold=t.hold/\a.au=t.au)∨fT t a:=by unfold fT at*;omega
theorem FD{t:Sw}:∀{l:List Sw},tW l->l.filter (fun x=>decide (fT x t))=l.take (xq t l):=by
 intro l;induction l with
 |nil=>intro _;rfl
 |cons a r ih=>
  intro h;obtain⟨p,q⟩:=IE.1 h;rw[Dw];by_cases e:fT a t
  ·rw[bm e,List.filter_cons_of_pos (by simpa using e),ih q];rfl
  ·rw[aq e,SB (by simpa using e)];rw[FI,List.filter_eq_nil_iff];intro x hx k;exact e (wH (p x hx) (by simpa using k))
theorem FE{t:Sw}:∀{l:List Sw},tW l->l.filter (fun x=>decide (fT t x))=l.drop (xq t l+if iJ t l=true then 1 else 0):=by
 intro l;induction l with
 |nil=>intro _;simp
 |cons a r ih=>
  intro h;obtain⟨p,q⟩:=IE.1 h;rw[Dw,Jv];by_cases e:fT a t
  ·rw[bm e,bm e,SB (by simpa using Fp e),ih q,show xq t r+1+(if iJ t r=true then 1 else 0)=(xq t r+if iJ t r=true then 1 else 0)+1 by omega];rfl
  ·rw[aq e,aq e];have all:∀x∈r,fT t x:=fun x hx=>by
    rcases NH e with k|k
    ·have:=p x hx;unfold fT at*;omega
    ·exact wH k (p x hx)
   have b:r.filter (fun x=>decide (fT t x))=r:=VF.2 fun x hx=>by simpa using all x hx
   by_cases k:a.hold=t.hold/\a.au=t.au
   ·rw[hM k,bm rfl,SB (by simp;unfold fT;omega),b];rfl
   ·rw[eL k,aq sm,List.filter_cons_of_pos (by simpa using(NH e).resolve_left k),b];rfl
theorem Dx{t:Sw}{l:List Sw}(h:iJ t l=true):∃hi:xq t l<l.length,l[xq t l].hold=t.hold/\l[xq t l].au=t.au:=by
 unfold iJ at h;by_cases hi:xq t l<l.length
 ·rw[af hi]at h;exact⟨hi,by simpa using h⟩
 ·rw[iw om]at h;cases h
theorem Ab{t:Sw}{l:List Sw}(hs:tW l)(h:iJ t l=true)(hi:xq t l<l.length):iG l t.hold t.au=l[xq t l].aU:=by
 obtain⟨_,a,b⟩:=Dx h;rw[<-GY hs (bx hi),a,b]
theorem vC{t:Sw}{l:List Sw}(hs:tW l)(h:iJ t l=false):iG l t.hold t.au=0:=by
 refine Di fun s a k=> ?_
 have d:=FD (t:=t) hs;have b:=FE (t:=t) hs;rw[h,aq sm,xK]at b;rw[<-iv (xq t l) l,<-d,<-b]at a;rcases fJ.1 a with m|m
 ·have:=(GR.1 m).2;simp at this;unfold fT at this;omega
 ·have:=(GR.1 m).2;simp at this;unfold fT at this;omega
theorem Md{t:Sw}{l:List Sw}(hs:tW l){n:Int}:LX l ⟨t.hold,t.au,n⟩=l.take (xq t l)++(if 0<n then[⟨t.hold,t.au,n⟩]else[])++l.drop (xq t l+if iJ t l=true then 1 else 0):=by
 unfold LX;rw[<-FD hs,<-FE hs];rfl
theorem aa7{l:List Sw}{i:Nat}(hi:i<l.length)(s:Sw):l.set i s=l.take i++[s]++l.drop (i+1):=by
 rw[List.set_eq_take_append_cons_drop,bm hi];simp

section
variable {w0:World} {A0 A1 A:Option Addr} {n0 c0 n1 c1 n c:Nat} {ps:List Pa} {hs:List Ho} {l:List Sw}
theorem Wf(hc:hU w0 A0 n0 A1 n1 ps hs)(h:bW w0 A 3 (l.map Sw.row))(hl:l.length=n)(hn:n<=40)(b:fc ps hs l)(t:Sw)(hu: -9<=t.aU/\t.aU<=9/\t.aU≠0){ip:Nat}(Hl:rC ps t.au=some ip){R:Value->World->Prop}
  (Ex:∀w,iG l t.hold t.au+t.aU<0->R (.tuple #[.slice none 0 0,.int .i64 11]) w)
  (YD:∀w p,¬iG l t.hold t.au+t.aU<0->ps[ip]? =some p->p.aU<cZ l t.au+t.aU->R (.tuple #[.slice none 0 0,.int .i64 12]) w)
  (fk:∀w p A m c,¬iG l t.hold t.au+t.aU<0->ps[ip]? =some p->¬p.aU<cZ l t.au+t.aU->ay w w0.heap.size 73 A m c 3 ((LX l ⟨t.hold,t.au,iG l t.hold t.au+t.aU⟩).map Sw.row)->R (.tuple #[.slice A m c,.int .i64 0]) w)
  {w:World} (hw:Below w0.heap.size w0 w):F.gE.J12 A n c ip (xq t l) (iJ t l) (iG l t.hold t.au) A0 n0 c0 A1 n1 c1 t.hold t.au t.aU w0.heap.size w R:=by
 obtain⟨E,J⟩:=xV Hl;have o:=bx E;have hpu:=(b.c.p1 _ o).2.1;have K:=b.full _ o;rw[J]at K;have KH:=jy b.pos t.au;have ham:=Dj b.pos t.hold t.au;have hlb:=aaZ t l;have hle:iG l t.hold t.au<=9:=by
  rcases sQ l t.hold t.au with⟨e,_⟩|⟨x,hx,e1,e2,e3⟩
  ·omega
  ·have:=Aa b.pos hx;rw[e1]at this;omega
 refine F.gE.J12.step ⟨ir,fun k=>Ex w k,fun k=> ?_⟩;obtain⟨L,ap,M,_,N⟩:=(hc.p.ar hw lf).at_ (fun _=>rfl) hc.lp E;refine⟨L,ap,M,_,N 1 _ rfl,fun Cb KP=> ?_⟩;have hw:=kE hw KP;refine pm (dF (h.ar hw lf) hl om (b.smu t.au)) ?_;rintro v G Jw rfl;have hw:=kP hw Jw;refine⟨_,rfl,ir,fun O=>YD G _ k (af E) O,fun O=> ?_⟩;have fin:=fun w A m c ho=>fk w _ A m c k (af E) O ho
 refine Jn ij om hw.size fun Wg amy P KR=> ?_
 have sX:=kP hw KR;have hB:=hw.size;have Q:=h.ar sX lf;refine EG ij (P.base hw.size) Q (by simpa using hl) (fun r b=>by obtain⟨s,_,rfl⟩:=iu.1 b;rfl) (fun r b=>by obtain⟨s,_,rfl⟩:=iu.1 b;intro u hu;simp[Sw.row]at hu;rcases hu with rfl|rfl|rfl<;>rfl) dc fun H q k28 Qz=> ?_
 have S:=sX.trans Qz;refine⟨ir,cK 73 Hi S.size fun Ey fS UX hlt=> ?_⟩;have Me:=kP S UX;refine⟨_,_,S.size,rfl,fS,by simp[Value.cells],rfl,fun y T=> ?_⟩;have U:y.heap[H.heap.size]? =some (.cells ([.int .i64 t.hold,.int .i64 t.au,.int .i64 (iG l t.hold t.au+t.aU)]:List Value).toArray 73 (0,0)):=by
  have:=T.at_;simpa[setCells,Value.cells]using this
 have I:w0.heap.size<=y.heap.size:=by rw[T.size];exact Me.size
 have apL:G.heap.size<H.heap.size:=by
  have:=(q.uN _ rfl).2;simpa using this
 have j:ay y w0.heap.size 73 (some ⟨G.heap.size,0,none⟩) n n 3 (l.map Sw.row):=(q.below UX).other fun x hx=>T.rest _ (by cases hx;show G.heap.size≠H.heap.size;omega)
 refine⟨fun hf=> ?_,fun hf=> ?_⟩
 ·have ha0:=vC b.LV hf;have z:0<iG l t.hold t.au+t.aU:=om;refine⟨_,_,_,fy U,?_⟩;refine aW ij [.agg #[.int .i64 t.hold,.int .i64 t.au,.int .i64 (iG l t.hold t.au+t.aU)]] (by simp[Value.cells]) sm I fun A2 c2 YK FF V=> ?_
  have W:∃g,A2=some ⟨g,0,none⟩/\y.heap.size<=g:=by
   rcases FF.1.2 with⟨_,X⟩|⟨g,cap,cur,X,h4,_⟩
   ·simp at X
   ·cases X;exact⟨g,rfl,h4⟩
  obtain⟨vb,rfl,hvb⟩:=W;have Y:ay YK w0.heap.size 73 (some ⟨vb,0,none⟩) 1 c2 3 [(⟨t.hold,t.au,iG l t.hold t.au+t.aU⟩:Sw).row]:=FF.base I;refine ba.mono (Wc (ec I V.size) (j.below V) om om Y fun a ha e=> ?_) ?_
  ·cases ha;have:=(j.uN _ rfl).2;simp only at e this;omega
  ·rintro v w43 QA ⟨A',c',rfl,YM,Z⟩;refine⟨fun i ty cs B C=>Z.2 i (ax.1 C).1 fun a ha e=> ?_,_,_,_,rfl,fin _ _ _ _ ?_⟩
   ·cases ha;have:=((j.below V).cells _ rfl);obtain⟨AX,d⟩:=this;rw[<-e,C]at d;simp only[JT,Obj.cells.injEq]at d;rw[d.2.1]at B
    revert B
    decide
   ·rw[Md b.LV,hf,bm z];simpa using YM
 ·have hf:iJ t l=true:=by simpa using hf
  obtain⟨hi,e1,e2⟩:=Dx hf;have ha:=Ab b.LV hf hi;have e3:((xq t l:Nat):Int)+1=((xq t l+1:Nat):Int):=om;refine⟨_,(show aa y ((⟨H.heap.size,0,none⟩:Addr).add 2) [.int .i64 (iG l t.hold t.au+t.aU)]from tX (fy U) 2 1),fun hz=> ?_,fun hz=> ?_⟩
  ·refine⟨ir,?_⟩;rw[e3];refine ba.mono (Wb I j om om) ?_;rintro v w47 b47 ⟨m,rfl,o47,Z⟩;refine⟨fun i ty cs B C=>Z.2 i (ax.1 C).1 fun a ha e=> ?_,_,_,_,rfl,fin _ _ _ _ ?_⟩
   ·cases ha;obtain⟨AX,d⟩:=j.cells _ rfl;rw[<-e,C]at d;simp only[JT,Obj.cells.injEq]at d;rw[d.2.1]at B
    revert B
    decide
   ·rw[Md b.LV,hf,aq om];simpa using o47
  ·refine⟨_,_,_,fy U,?_⟩;obtain⟨g1,a2,W,cs,g2,g3,g4,g5,g6⟩:=j.OP (i:=((xq t l:Nat):Int)) om om [.int .i64 t.hold,.int .i64 t.au,.int .i64 (iG l t.hold t.au+t.aU)] ((l[xq t l]'om).row) (by rw[cd,ow,af om];rfl) rfl;refine⟨g1,a2,W,cs,_,g2,g3,g4,g5,rfl,fun w54 Wi=>fin _ _ _ _ ?_⟩;have D:=g6 w54 Wi;rw[cd]at D;rw[Md b.LV,hf,bm om,bm rfl,<-aa7 hi,IK];exact D
theorem gE{w:World}(hg:bj w)(g:hU w A0 n0 A1 n1 ps hs)(h:bW w A 3 (l.map Sw.row))(hl:l.length=n)(B:n<=c)(hn:n<=40)(t:Sw):
  Pure Tryz.prog 112 #[.agg #[.slice A0 n0 c0,.slice A1 n1 c1],.slice A n c,t.val] w (Jq (Dk ps hs l t) w.heap.size):=by
 refine F.gE.vc fun w1 x1=> ?_
 have hw:=k0 x1;refine pm (cn (hg.next hw) (g.ar hw) (h.ar hw lf) hl B om) ?_;rintro v O C rfl;have hw:=kP hw C;unfold Dk;refine⟨_,rfl,fun i=>by rw[bm i];rfl,fun i=> ?_⟩;rw[aq i];have d:=fN (dT.1 i);refine pm (hO (g.ar hw) t.au) ?_;rintro v P D rfl;have hw:=kP hw D;refine⟨_,rfl,fun h1=>by rw[pQ.1 h1];rfl,fun h1=> ?_⟩;refine pm (jf (g.ar hw) t.hold) ?_;rintro v Q E rfl;have hw:=kP hw E;cases r:rC ps t.au with
 |none=>exact absurd (pQ.2 r) h1
 |some ip=>
 refine⟨_,rfl,fun j=>by rw[pQ.1 j];rfl,fun j=> ?_⟩;cases G:wT hs t.hold with
 |none=>exact absurd (pQ.2 G) j
 |some ih=>
 refine⟨fun o=>by simp only;rw[bm (.inl o)];rfl,fun o=>⟨fun x=>by simp only;rw[bm (.inr (.inl x))];rfl,fun x=>⟨fun H=>by simp only;rw[bm (.inr (.inr om))];rfl,fun H=> ?_⟩⟩⟩;simp only;rw[aq om];refine pm (Hh (h.ar hw lf) hl om d.LV ⟨t.hold,t.au,0⟩) ?_;rintro v y I rfl;have hw:=kP hw I;have K:∀u:Int,xq ⟨t.hold,t.au,u⟩ l=xq t l:=fun u=>rfl
 have L:∀u:Int,iJ ⟨t.hold,t.au,u⟩ l=iJ t l:=fun u=>rfl
 rw[K,L];have J:=fun(w':World) M=>Wf (c:=c) (c0:=c0) (c1:=c1) g h hl hn d t ⟨om,om,o⟩ r (R:=Jq (if iG l t.hold t.au+t.aU<0 then .error 11 else match ps[ip]? with
   |some p=>if p.aU<cZ l t.au+t.aU then .error 12 else .ok (LX l ⟨t.hold,t.au,iG l t.hold t.au+t.aU⟩)
   |none=> .error 0) w.heap.size)
  (fun z k=>by rw[bm k];rfl) (fun z p k e q=>by rw[aq k,e];simp only;rw[bm q];rfl)
  (fun z p A m c k e q ho=>by rw[aq k,e];simp only;rw[aq q];exact⟨A,m,c,rfl,ho⟩) (w:=w') M
 refine⟨_,_,rfl,fun hf=> ?_,fun hf=> ?_⟩
 ·obtain⟨hi,S,T⟩:=Dx hf;obtain⟨hb,a,N,_,b⟩:=(h.ar hw lf).at_ (fun _=>rfl) hl hi;refine⟨hb,a,N,_,b 2 _ rfl,?_⟩;have:=J y hw;rw[Ab d.LV hf hi]at this;rw[Ab d.LV hf hi];exact this
 ·have:=J y hw;rw[vC d.LV hf]at this;rw[vC d.LV hf];exact this
end
end Go.Proofs.YtmdphpnaipbfjaaGreatDoor.B

open Go.Proofs.YtmdphpnaipbfjaaGreatDoor

namespace Go.Proofs.YtmdphpnaipbfjaaGreatDoor.B
open Go Go.RowKit Go.Proofs Go.Proofs.YtmdphpnaipbfjaaGreatDoor.Vc

structure QT where
 b:Bool
 A:Option Addr
 n:Nat
 c:Nat
 A':Option Addr
 n':Nat
 c':Nat
 r:Rat
def QT.is(x:QT)(w:World):Prop:=US w x.b x.A x.n x.c x.A' x.n' x.c' x.r
def Qs(w:World)(L:List QT):Prop:=∀x∈L,x.is w
theorem Qs.below{w w':World}{L:List QT}(h:Qs w L)(hb:Below w.heap.size w w'):Qs w' L:=fun x hx=>US.below (h x hx) hb
theorem Qs.ext{w w':World}{B:Nat}{ts:List Nat}{L:List QT}(h:Qs w L)(e:Ext B ts w w')(a:174∉ts):Qs w' L:=fun x hx=>US.ext (h x hx) e a
theorem Qs.add{w:World}{L:List QT}(h:Qs w L){x:QT}(k:x.is w):Qs w (x::L):=fun y hy=>by
 rcases cb.1 hy with rfl|hy
 ·exact k
 ·exact h y hy
theorem Qs.nil{w:World}:Qs w []:=fun x hx=>by cases hx
theorem QR.qt{r:Rat}{v:Value}{w:World}(h:QR r v w):∃x:QT,x.r=r/\v= .agg #[.bool x.b,.slice x.A x.n x.c,.slice x.A' x.n' x.c']/\x.is w:=by
 obtain⟨b,A,n,c,A',n',c',rfl,k⟩:=h;exact⟨⟨b,A,n,c,A',n',c',r⟩,rfl,rfl,k⟩
section
variable {w0:World} {A0 A1 A:Option Addr} {n0 c0 n1 c1 n c:Nat} {ps:List Pa} {hs:List Ho} {l:List Sw}

end
end Go.Proofs.YtmdphpnaipbfjaaGreatDoor.B

open Go.Proofs.YtmdphpnaipbfjaaGreatDoor

namespace Go.Proofs.YtmdphpnaipbfjaaGreatDoor.B
open Go Go.RowKit Go.Proofs Go.Proofs.YtmdphpnaipbfjaaGreatDoor.Vc

theorem aa8{ps:List Pa}{hs:List Ho}{l:List Sw}(a:fc ps hs l)(h p:Int):iG l h p<=9:=by
 rcases sQ l h p with⟨e,_⟩|⟨x,hx,b,d,g⟩
 ·omega
 ·have:=((a.known x hx));obtain⟨i,_,hi,_⟩:=this;obtain⟨q,e,hid⟩:=gY hi;have hm:=gr e;have h1:=a.full q hm;have j:=Aa a.pos hx;have k:=(a.c.p1 q hm).2.1.2;rw[hid]at h1;omega
section
variable {w0:World} {A0 A1 A:Option Addr} {n0 c0 n1 c1 n c:Nat} {ps:List Pa} {hs:List Ho} {l:List Sw}
end

theorem extAll{B:Nat}{w w':World}(x:Ext B [] w w'):Below w.heap.size w w':=⟨x.below.os,x.below.tape,x.below.output,x.below.size,fun k a=>by
 rcases x.other k a with e|⟨t,b,_⟩
 ·exact e
 ·simp at b⟩
theorem SU{w:World}{A:Option Addr}{n c:Nat}{l:List Int}(h:bW w A 1 (l.map fO))(hlen:l.length=n)(hn:n<=1000000):
  Pure Tryz.prog 51 #[.slice A n c] w fun v w'=>∃A' c',v= .slice A' n c'/\ay w' w.heap.size 3 A' n c' 1 (l.map fO):=by
 refine F.ke.vc ⟨fun b=> ?_,fun b=> ?_⟩
 ·subst b;have:=h.sO;simp at this;subst this;simp at hlen;subst hlen;exact⟨none,0,rfl,ay.nil⟩
 ·obtain⟨a,rfl⟩:=FL.1 b;refine aW gM [] sm sm lf fun A2 c2 i ho e=> ?_
  refine vo gM lf (by simpa using ho) (h.below e) (by simpa using hlen) (fun r d=>by obtain⟨s,_,rfl⟩:=iu.1 d;rfl) (fun r d=>by obtain⟨s,_,rfl⟩:=iu.1 d;intro u hu;simp[fO]at hu;subst hu;rfl) e.size (by simp;omega) sm fun A' c' j g _ k=> ?_
  simp only[za,mC,u0]at g⊢;exact⟨A',c',rfl,g⟩
end Go.Proofs.YtmdphpnaipbfjaaGreatDoor.B

set_option maxRecDepth 100000
set_option maxHeartbeats 4000000
namespace Go.Proofs.YtmdphpnaipbfjaaGreatDoor.F
open Go Go.RowKit Go.Proofs Go.Proofs.YtmdphpnaipbfjaaGreatDoor.Vc
open Tryz
variable {A C D E G H J K A0 A1 A2 A3 A4 A5 A6 A7 A8 A9 C0 C1 C2 C3 C4 C5 C6 C7 C8 C9:O} {a b c d e f g i j l m n o a0 a1 a2 a3 a4 a5 a6 a7 a8 a9 b0 b1 b2 b3 b4 b5 b6 b7 b8 b9 c0 c1 c2 c3 c4 c5 c6 c7 c8 c9:Nat} {p q r s t u v x p0 p1 p2 p3 p4 p5 p6 p7 p8 p9 q0 q1 q2 q3 q4 q5 q6 q7 q8 q9:Int} {L M N N0 N1 N2 N3 N4 N5 N6 N7 N8 N9 T0 T1 T2 T3 T4 T5 T6 T7 T8 T9:ByteArray} {Q S:Bool} {B:Nat} {w:World} {R:Kt}
def dz.L4(a:O)(b c:Nat)(d e:Int):=Lt 108 f108 4 [vS 0 a b c,vI 10 d,vI 11 e] []
def dz.cx:Pm:=([((true,4),[0,10,11],[])],[])
theorem dz.L4.step
  (h:(Br (p<q) (Pure P 133 #[vW A a b,I p] w (Ri fun c d=>(Br (c≠0) (R (.tuple #[I p,I c]) d) (aN .i64 (p+1)/\(dz.L4 A a b q (p+1) B d R))))) (R (.tuple #[(I (-1:Int)),I 0]) w))):
  dz.L4 A a b q p B w R:=
 lr dz.cx func108 h
theorem dz.vc
  (h:(Br ((a:Int)>16) (R (.tuple #[(I (-1:Int)),I 8]) w) (dz.L4 A a b (a:Int) (0:Int) w.heap.size w R))):
  Pure P 108 #[vW A a b] w R:=
 pr dz.cx func108 h

def oY.cx:Pm:=([],[(3,1,5),(10,9999,3)])
theorem oY.vc
  (h:(∀s,Ext w.heap.size [] w s->(Pure P 149 #[vW A a c] s (Rb fun b2 t=>(Br (b2=false) (R (.tuple #[vN,I 1]) t) (Pure P 150 #[vW A a c,vW C b d] t (Rb fun b5 u=>(Br (b5=false) (R (.tuple #[vN,I 1]) u) (Pure P 62 #[vU L] u (Rb fun b8 m=>(Br (b8=false) (R (.tuple #[vN,I 1]) m) (∀f:Nat,w.heap.size<=f->m.heap[f]? =some (.cells [I p,I q,vU L].toArray 204 (0,0))->(Pure P 151 #[vW A a c,(.func (.func 152) #[] #[(.pointer (some (⟨f,0,none⟩:Addr)))])] m (Ri fun e n=>(Br (e<0) (R (.tuple #[vN,I 7]) n) (∃v,aa n ((⟨f,0,none⟩:Addr).add 1) [I v]/\(Pure P 153 #[I v] n (Rb fun W j=>(Br (W=false) (R (.tuple #[vN,I 2]) j) (∃x,aa j ((⟨f,0,none⟩:Addr).add 1) [I x]/\(Ix e b C fun e6=>(∃y,aa j ((e6.add ((e).toNat*4)).add 1) [I y]/\(Br (x<y) (∀z,Ext w.heap.size [] j z->(R (.tuple #[vN,I 5]) z)) (∀l,Ext w.heap.size [] j l->(Ix e a A fun e7=>(∃D E G H J K M,aa l (e7.add ((e).toNat*7)) [I D,vU E,vU G,vU H,vU J,vU K,vU M]/\(∃N,aa l ((⟨f,0,none⟩:Addr).add 2) [vU N]/\(∀O,Ext w.heap.size [] l O->(Pure P 154 #[.agg #[I D,vU E,vU G,vU H,vU J,vU K,vU M],vU N] O (qO fun Q g3 e8=>(Pure P 87 #[vW C b d] e8 (Rs fun S T e9 g=>(∃U,aa g ((⟨f,0,none⟩:Addr).add 0) [I U]/\(∃V,aa g ((⟨f,0,none⟩:Addr).add 1) [I V]/\(Ix e a A fun g0=>(∃X Y Z d0 d1 d2 d3,aa g (g0.add ((e).toNat*7)) [I X,vU Y,vU Z,vU d0,vU d1,vU d2,vU d3]/\(Ix e b C fun g1=>(∃d4 d5 d6 d7,aa g (g1.add ((e).toNat*4)) [I d4,I d5,I d6,vU d7]/\(∃d8,aa g ((⟨f,0,none⟩:Addr).add 1) [I d8]/\(∀d9,Ext w.heap.size [] g d9->(Pure P 155 #[.agg #[I X,vU Y,vU Z,vU d0,vU d1,vU d2,vU d3],.agg #[I d4,I d5,I d6,vU d7],vU Q,I d8] d9 (Ri fun g2 k=>(Ix e T S fun i=>(∃(o:List Value)(r:Nat),w.heap.size<=(i.add ((e).toNat*4)).block/\(i.add ((e).toNat*4)).spot=none/\k.heap[(i.add ((e).toNat*4)).block]? =some (.cells o.toArray r (0,0))/\(i.add ((e).toNat*4)).off+4<=o.length/\hasType r []=false/\∀F,aG k F (i.add ((e).toNat*4)).block r (setCells o (i.add ((e).toNat*4)).off [I U,I V,I g2,vU Q])->(R (.tuple #[vW S T e9,I 0]) F))))))))))))))))))))))))))))))))))))))))))))):
  Pure P 113 #[vW A a c,vW C b d,.agg #[I p,I q,vU L]] w R:=
 pr oY.cx func113 h

def dK.L3(a:O)(b c:Nat)(d:Int)(e:O)(f g:Nat)(i j l:Int)(m n o p q r:ByteArray):=Lt 133 f133 3 [vS 0 a b c,vI 1 d,vL 5,vS 22 e f g,vI 23 i,vI 24 j] [⟨5,false,102,[(I l),(vU m),(vU n),(vU o),(vU p),(vU q),(vU r)]⟩]
def dK.cx:Pm:=([((true,3),[0,1,5,22,23,24],[5])],[(2,10,2)])
theorem dK.L3.step
  (h:(Br (q<s) (Ix q b C fun t=>(∃f,aa w (t.add ((q).toNat*1)) [vU f]/\(Pure P 62 #[vU f] w (Rb fun u g=>(Br (u=false) (R (I 1) g) (aN .i64 (q+1)/\(dK.L3 A a c p C b d s (q+1) r L M N2 N N0 N1 B g R))))))) (Br (((ByteArray.size L:Int):Int)<1) (R (I 4) w) (Br (((ByteArray.size L:Int):Int)>64) (R (I 4) w) (Br (r<1) (R (I 2) w) (Br (r>1073741824) (R (I 2) w) (Pure P 192 #[vU M] w (Ri fun v i=>(Br (v=0) (R (I 2) i) (Pure P 193 #[vU N,vU N0] i (Ri fun x j=>(Br (x>0) (R (I 2) j) (Pure P 192 #[vU N1] j (Ri fun y e=>(Br (y<=(0:Int)) (R (I 2) e) (Br (p>0) (aN .i64 (p - (1:Int))/\(Ix (p - (1:Int)) a A fun z=>(∃l,aa e ((z.add (((p - (1:Int))).toNat*7)).add 0) [I l]/\(Br (l≥r) (∀m,Ext B [] e m->(R (I 5) m)) (∀n,Ext B [] e n->(R (I 0) n)))))) (∀o,Ext B [] e o->(R (I 0) o)))))))))))))))))):
  dK.L3 A a c p C b d s q r L M N2 N N0 N1 B w R:=
 lr dK.cx func133 h
theorem dK.vc
  (h:(Ix p a A fun n=>(∃i j c d e f g,aa w (n.add ((p).toNat*7)) [I i,vU j,vU c,vU d,vU e,vU f,vU g]/\(∀l,Ext w.heap.size [] w l->(ae P (Instr.buildSlice 30 5 #[(0,(vU c)),(1,(vU d)),(2,(vU e)),(3,(vU f)),(4,(vU g))]) w.heap.size [102] l (Rs fun o m q r=>(dK.L3 A a b p o m q (m:Int) (0:Int) i j c d e f g w.heap.size r R))))))):
  Pure P 133 #[vW A a b,I p] w R:=
 pr dK.cx func133 h

def kB.cx:Pm:=([],[])
theorem kB.vc
  (h:(Pure P 108 #[vW A a b] w (Rii fun e c d=>(R (.bool (decide (c=0))) d)))):
  Pure P 149 #[vW A a b] w R:=
 pr kB.cx func149 h

def dG.L4(a:O)(b c:Nat)(d:O)(e f:Nat)(g i:Int):=Lt 150 f150 4 [vS 0 a b c,vS 12 d e f,vI 13 g,vI 14 i] []
def dG.cx:Pm:=([((true,4),[0,12,13,14],[])],[(6,9999,3)])
theorem dG.L4.step
  (h:(Br (p<q) (Ix p b C fun u=>(∃l i g j,aa w (u.add ((p).toNat*4)) [I l,I i,I g,vU j]/\(∀e,Ext B [] w e->(Ix p a A fun v=>(∃m,aa e ((v.add ((p).toNat*7)).add 0) [I m]/\(Br (l≠m) (∀n,Ext B [] e n->(R (.bool false) n)) (Br (g<0) (∀o,Ext B [] e o->(R (.bool false) o)) (Br (g>3) (∀r,Ext B [] e r->(R (.bool false) r)) (∀s,Ext B [] e s->(Pure P 153 #[I i] s (Rb fun x t=>(Br (x=false) (R (.bool false) t) (Pure P 62 #[vU j] t (Rb fun y f=>(Br (y=false) (R (.bool false) f) (Br (g=0) (Br (i≠0) (R (.bool false) f) (Br (j≠(⟨#[48]⟩:ByteArray)) (R (.bool false) f) (aN .i64 (p+1)/\(dG.L4 A a c C b d q (p+1) B f R)))) (aN .i64 (p+1)/\(dG.L4 A a c C b d q (p+1) B f R)))))))))))))))))) (R (.bool true) w))):
  dG.L4 A a c C b d q p B w R:=
 lr dG.cx func150 h
theorem dG.vc
  (h:(Br ((b:Int)≠(a:Int)) (R (.bool false) w) (dG.L4 A b c C a d (a:Int) (0:Int) w.heap.size w R))):
  Pure P 150 #[vW A b c,vW C a d] w R:=
 pr dG.cx func150 h

def qA.cx:Pm:=([],[])
theorem qA.vc{b:Addr}
  (h:(∀a,Ext w.heap.size [] w a->(∃c,aa a (b.add 0) [I c]/\(R (.bool (decide (p=c))) a)))):
  Pure P 152 #[.agg #[I p,vU L,vU M,vU N,vU N0,vU N1,vU N2],(.pointer (some b))] w R:=
 pr qA.cx func152 h

def mj.cx:Pm:=([],[])
theorem mj.vc
  (h:(Br (p≥(0:Int)) (R (.bool (decide (p<=(1073741824:Int)))) w) (R (.bool false) w))):
  Pure P 153 #[I p] w R:=
 pr mj.cx func153 h

def kY.cx:Pm:=([],[(1,1,2)])
theorem kY.vc
  (h:(∀a,Ext w.heap.size [] w a->(ae P (Instr.buildSlice 50 1 #[(0,(.agg #[I p,vU N0,vU L,vU M,vU N1,vU N2,vU N3]))]) w.heap.size [102] a (Rs fun e f g i=>(Pure P 149 #[vW e f g] i (Rb fun j b=>(Br (j=false) (R (.tuple #[(vU ⟨#[]⟩),I 1]) b) (Pure P 62 #[vU N] b (Rb fun l c=>(Br (l=false) (R (.tuple #[(vU ⟨#[]⟩),I 1]) c) (∀d,Ext w.heap.size [] c d->(Pure P 212 #[vU L,vU N] d (Rt fun m n=>(Pure P 211 #[vU m,vU M] n (Rt fun o q=>(R (.tuple #[vU o,I 0]) q)))))))))))))))):
  Pure P 154 #[.agg #[I p,vU N0,vU L,vU M,vU N1,vU N2,vU N3],vU N] w R:=
 pr kY.cx func154 h

def cU.L3(a:O)(b c:Nat)(d e:Int):=Lt 155 f155 3 [vS 17 a b c,vI 18 d,vI 19 e] []
def cU.cx:Pm:=([((true,3),[17,18,19],[])],[(1,0,5),(1,2,5),(1,4,2),(5,2,4)])
theorem cU.L3.step
  (h:(Br (p<q) (Ix p a A fun j=>(∃(d:Int)(c:Nat)(e f:Array Value),aa w (j.add ((p).toNat*2)) [I d,(.func (.func c) e f)]/\(av P c=true/\(∀g,Ext B [] w g->(Pure P c ((Array.toList e)++([]:List Value)++(Array.toList f)).toArray g (Rb fun l i=>(Bb l (R (I d) i) (aN .i64 (p+1)/\(cU.L3 A a b q (p+1) B i R))))))))) (R (I 1) w))):
  cU.L3 A a b q p B w R:=
 lr cU.cx func155 h
theorem cU.vc
  (h:(∀a,Ext w.heap.size [] w a->(∀b:Nat,w.heap.size<=b->a.heap[b]? =some (.cells [I p,vU L,vU M,vU N,vU N0,vU N1,vU N2].toArray 102 (0,0))->(∀c:Nat,w.heap.size<=c->a.heap[c]? =some (.cells [vU N4].toArray 75 (0,0))->(∀d:Nat,w.heap.size<=d->a.heap[d]? =some (.cells [I t].toArray 3 (0,0))->(∀e:Nat,w.heap.size<=e->a.heap[e]? =some (.cells [I q,I r,I s,vU N3].toArray 153 (0,0))->(ae P (Instr.buildSlice 301 2 #[(0,(.agg #[I 2,(.func (.func 213) #[] #[(.pointer (some (⟨c,0,none⟩:Addr))),(.pointer (some (⟨b,0,none⟩:Addr)))])])),(1,(.agg #[I 3,(.func (.func 214) #[] #[(.pointer (some (⟨e,0,none⟩:Addr))),(.pointer (some (⟨c,0,none⟩:Addr))),(.pointer (some (⟨b,0,none⟩:Addr))),(.pointer (some (⟨d,0,none⟩:Addr)))])]))]) w.heap.size [] a (Rs fun g f i j=>(cU.L3 g f i (f:Int) (0:Int) w.heap.size j R))))))))):
  Pure P 155 #[.agg #[I p,vU L,vU M,vU N,vU N0,vU N1,vU N2],.agg #[I q,I r,I s,vU N3],vU N4,I t] w R:=
 pr cU.cx func155 h

def ml.cx:Pm:=([],[])
theorem ml.vc
  (h:(Pure P 193 #[vU L,(vU ⟨#[48]⟩)] w (Ri fun a b=>(R (I a) b)))):
  Pure P 192 #[vU L] w R:=
 pr ml.cx func192 h

def fg.cx:Pm:=([],[])
theorem fg.vc
  (h:(Pure P 232 #[vU L,vU M] w (Rii fun a c b=>(R (I a) b)))):
  Pure P 193 #[vU L,vU M] w R:=
 pr fg.cx func193 h

def qB.cx:Pm:=([],[])
theorem qB.vc
  (h:(Pure P 257 #[vU L,vU M] w (qO fun a c b=>(R (vU a) b)))):
  Pure P 211 #[vU L,vU M] w R:=
 pr qB.cx func211 h

def nO.cx:Pm:=([],[])
theorem nO.vc
  (h:(Pure P 258 #[vU L,vU M] w (qO fun a c b=>(R (vU a) b)))):
  Pure P 212 #[vU L,vU M] w R:=
 pr nO.cx func212 h

def mR.cx:Pm:=([],[])
theorem mR.vc{b c:Addr}
  (h:(∃d,aa w b [vU d]/\(∃e,aa w (c.add 4) [vU e]/\(Pure P 193 #[vU d,vU e] w (Ri fun i a=>(Br (i<0) (R (.bool true) a) (∃f,aa a b [vU f]/\(∃g,aa a (c.add 5) [vU g]/\(Pure P 193 #[vU f,vU g] a (Ri fun j l=>(R (.bool (decide (j>0))) l))))))))))):
  Pure P 213 #[(.pointer (some b)),(.pointer (some c))] w R:=
 pr mR.cx func213 h

def mS.cx:Pm:=([],[])
theorem mS.vc{a d e f:Addr}
  (h:(∃g,aa w (a.add 2) [I g]/\(Br (g=1) (∃i,aa w d [vU i]/\(∃j,aa w (a.add 3) [vU j]/\(∃l,aa w (e.add 6) [vU l]/\(∃b,aa w f [I b]/\(∃c,aa w (a.add 1) [I c]/\(aN .i64 (b - c)/\(∀m,Ext w.heap.size [] w m->(Pure P 216 #[vU i,vU j] m (Rt fun o p=>(Pure P 215 #[vU o] p (Rt fun q r=>(Pure P 217 #[(I (b - c))] r (Rt fun s t=>(Pure P 212 #[vU l,vU s] t (Rt fun u v=>(Pure P 193 #[vU q,vU u] v (Ri fun x y=>(R (.bool (decide (x>0))) y)))))))))))))))))) (∀n,Ext w.heap.size [] w n->(R (.bool false) n))))):
  Pure P 214 #[(.pointer (some a)),(.pointer (some d)),(.pointer (some e)),(.pointer (some f))] w R:=
 pr mS.cx func214 h

def oZ.cx:Pm:=([],[])
theorem oZ.vc
  (h:(Pure P 192 #[vU L] w (Ri fun b a=>(Br (b<0) (Pure P 216 #[(vU ⟨#[48]⟩),vU L] a (Rt fun c d=>(R (vU c) d))) (R (vU L) a))))):
  Pure P 215 #[vU L] w R:=
 pr oZ.cx func215 h

def nP.cx:Pm:=([],[])
theorem nP.vc
  (h:(Pure P 259 #[vU L,vU M] w (qO fun a c b=>(R (vU a) b)))):
  Pure P 216 #[vU L,vU M] w R:=
 pr nP.cx func216 h

def kZ.cx:Pm:=([],[])
theorem kZ.vc
  (h:(Pure P 42 #[I p] w (Rt fun a b=>(R (vU a) b)))):
  Pure P 217 #[I p] w R:=
 pr kZ.cx func217 h

end Go.Proofs.YtmdphpnaipbfjaaGreatDoor.F

namespace Go.Proofs.YtmdphpnaipbfjaaGreatDoor.B
open Go Go.RowKit Go.Proofs Go.Proofs.YtmdphpnaipbfjaaGreatDoor.Vc

structure Ch where
 id:Int
 name:ByteArray
 pR:ByteArray
 offset:ByteArray
 low:ByteArray
 high:ByteArray
 mT:ByteArray
structure Va where
 chan:Int
 tick:Int
 yT:Int
 num:ByteArray
abbrev Ch.row(c:Ch):List Value:=[.int .i64 c.id,.string c.name,.string c.pR,.string c.offset,.string c.low,.string c.high,.string c.mT]
abbrev Ch.val(c:Ch):Value:= .agg #[.int .i64 c.id,.string c.name,.string c.pR,.string c.offset,.string c.low,.string c.high,.string c.mT]
abbrev Va.row(v:Va):List Value:=[.int .i64 v.chan,.int .i64 v.tick,.int .i64 v.yT,.string v.num]
abbrev Va.val(v:Va):Value:= .agg #[.int .i64 v.chan,.int .i64 v.tick,.int .i64 v.yT,.string v.num]
structure KS (c:Ch):Prop where
 name:c.name.size<2147483648
 pR:mO c.pR
 offset:mO c.offset
 low:mO c.low
 high:mO c.high
 mT:mO c.mT

def fP(p:Option Ch)(c:Ch):Int:=
 if ¬(vR c.pR=true/\vR c.offset=true/\vR c.low=true/\vR c.high=true/\vR c.mT=true)then 1
 else if c.name.size<1∨64<c.name.size then 4
 else if c.id<1∨1073741824<c.id∨qR c.pR=0∨qR c.high<qR c.low∨¬0<qR c.mT then 2
 else if ∃q,p=some q/\c.id<=q.id then 5
 else 0

theorem qB{w:World}{x y:Rat}(hg:bj w)(hx:lC x)(hy:lC y):Pure Tryz.prog 211 #[.string (rS x),.string (rS y)] w fun v _=>v= .string (rS (x+y)):=by
 refine F.qB.vc (pm (jb hg hx hy) ?_);rintro v a _ rfl;exact⟨_,_,rfl,rfl⟩
theorem nP{w:World}{x y:Rat}(hg:bj w)(hx:lC x)(hy:lC y):Pure Tryz.prog 216 #[.string (rS x),.string (rS y)] w fun v _=>v= .string (rS (x - y)):=by
 refine F.nP.vc (pm (kz hg hx hy) ?_);rintro v a _ rfl;exact⟨_,_,rfl,rfl⟩
theorem nO{w:World}{x y:Rat}(hg:bj w)(hx:lC x)(hy:lC y):Pure Tryz.prog 212 #[.string (rS x),.string (rS y)] w fun v _=>v= .string (rS (x*y)):=by
 refine F.nO.vc (pm (jc hg hx hy) ?_);rintro v a _ rfl;exact⟨_,_,rfl,rfl⟩
theorem fg{w:World}{x y:Rat}(hg:bj w)(hx:lC x)(hy:lC y):Pure Tryz.prog 193 #[.string (rS x),.string (rS y)] w fun v _=>v= .int .i64 (gO x y):=by
 refine F.fg.vc (pm (eT hg hx hy) ?_);rintro v a _ rfl;exact⟨_,_,rfl,rfl⟩
theorem ml{w:World}{x:Rat}(hg:bj w)(hx:lC x):Pure Tryz.prog 192 #[.string (rS x)] w fun v _=>v= .int .i64 (gO x 0):=by
 refine F.ml.vc ?_;rw[s0];refine pm (fg hg hx (Sm.zero om)) ?_;rintro v a _ rfl;exact⟨_,rfl,rfl⟩
theorem kZ{w:World}{z:Int}(hg:bj w)(a: -9223372036854775808<=z)(h1:z<=9223372036854775807):Pure Tryz.prog 217 #[.int .i64 z] w fun v _=>v= .string (rS (z:Rat)):=by
 refine F.kZ.vc (pm (vn hg z a h1) ?_);rintro v b _ rfl;refine⟨_,rfl,?_⟩;rw[Ss]
theorem oZ{w:World}{x:Rat}(hg:bj w)(hx:lC x):Pure Tryz.prog 215 #[.string (rS x)] w fun v _=>v= .string (rS (Dg x)):=by
 refine F.oZ.vc (pm (ml hg hx) ?_);rintro v b a rfl;refine⟨_,rfl,fun h=> ?_,fun h=> ?_⟩
 ·rw[jI]at h;rw[s0];refine pm (nP (hg.next a) (Sm.zero om) hx) ?_;rintro v c _ rfl;refine⟨_,rfl,?_⟩;have e:(0:Rat) - x= -x:=by rw[Xg,Rat.zero_add]
  rw[e];unfold Dg;rw[bm h]
 ·rw[jI]at h;unfold Dg;rw[aq h]
theorem mj(n:Int)(w:World):Pure Tryz.prog 153 #[.int .i64 n] w fun v _=>v= .bool (decide (0<=n/\n<=1073741824)):=by
 refine F.mj.vc ⟨fun h=> ?_,fun h=> ?_⟩
 ·congr 1
  simp;omega
 ·congr 1
  simp;omega

abbrev Ch.BL(c:Ch):List ByteArray:=[c.pR,c.offset,c.low,c.high,c.mT]
theorem Ch.NJ(c:Ch):(∀s∈c.BL,vR s=true)↔(vR c.pR=true/\vR c.offset=true/\vR c.low=true/\vR c.high=true/\vR c.mT=true):=by simp[Ch.BL]
theorem KS.all{c:Ch}(h:KS c):∀s∈c.BL,mO s:=by
 intro s hs;simp only[Ch.BL,cb,eH,oP]at hs;rcases hs with rfl|rfl|rfl|rfl|rfl
 ·exact h.pR
 ·exact h.offset
 ·exact h.low
 ·exact h.high
 ·exact h.mT
theorem NK{w:World}{s:ByteArray}(hg:bj w)(hs:mO s)(h:vR s=true):Pure Tryz.prog 192 #[.string s] w fun v _=>v= .int .i64 (gO (qR s) 0):=by
 have:=ml hg (hs.yj h);rwa [<-iq h]at this
theorem Mg{w:World}{s t:ByteArray}(hg:bj w)(hs:mO s)(h:vR s=true)(a:mO t)(k:vR t=true):Pure Tryz.prog 193 #[.string s,.string t] w fun v _=>v= .int .i64 (gO (qR s) (qR t)):=by
 have:=fg hg (hs.yj h) (a.yj k);rwa [<-iq h,<-iq k]at this

def lP(l:List Ch)(i:Nat):Option Ch:=if i=0 then none else l[i - 1]?

theorem Mh{w0:World}(hg:bj w0){A:Option Addr}{n c:Nat}{l:List Ch}(hl:bW w0 A 7 (l.map Ch.row))(hlen:l.length=n)(hn:n<2147483648){i:Nat}(hi:i<n){x:Ch}(hx:l[i]? =some x)(o:KS x)
  {A2:Option Addr} {c2:Nat} {R:Value->World->Prop} (e:∀w,R (.int .i64 (fP (lP l i) x)) w):
  ∀(d k:Nat)(w:World),5 - k=d->k<=5->Below w0.heap.size w0 w->ay w w0.heap.size 75 A2 5 c2 1 (x.BL.map fun s=>[.string s])->(∀j,j<k->∀s,x.BL[j]? =some s->vR s=true)->
   F.dK.L3 A n c i A2 5 c2 ((5:Nat):Int) k x.id x.name x.pR x.offset x.low x.high x.mT w0.heap.size w R:=by
 intro d;induction d with
 |zero=>
  intro k w T U hw ho C;have g:k=5:=om;subst g;have V:∀s∈x.BL,vR s=true:=by
   intro s hs;obtain⟨j,hj,rfl⟩:=BA.1 hs;exact C j (by simpa[Ch.BL]using hj) _ (by simp[hj])
  have D:=(Ch.NJ x).1 V;obtain⟨v1,v2,v3,v4,v5⟩:=D;have ns:=o.name;refine F.dK.L3.step ⟨fun h=>by omega,fun _=> ?_⟩;have f4:(x.name.size<1∨64<x.name.size)->fP (lP l i) x=4:=fun h=>by
   unfold fP;rw[aq (fun k=>k ⟨v1,v2,v3,v4,v5⟩),bm h]
  have f2:¬(x.name.size<1∨64<x.name.size)->(x.id<1∨1073741824<x.id∨qR x.pR=0∨qR x.high<qR x.low∨¬0<qR x.mT)->fP (lP l i) x=2:=fun h m=>by
   unfold fP;rw[aq (fun k=>k ⟨v1,v2,v3,v4,v5⟩),aq h,bm m]
  refine⟨fun h1=> ?_,fun h1=>⟨fun m=> ?_,fun m=>⟨fun W=> ?_,fun W=>⟨fun X=> ?_,fun X=> ?_⟩⟩⟩⟩
  ·have:=e w;rwa [f4 om]at this
  ·have:=e w;rwa [f4 om]at this
  ·have:=e w;rwa [f2 om (.inl om)]at this
  ·have:=e w;rwa [f2 om (.inr (.inl om))]at this
  refine pm (NK (hg.next hw) o.pR v1) ?_;rintro v y z rfl;have N:=kP hw z;refine⟨_,rfl,fun E=> ?_,fun E=> ?_⟩
  ·have:=e y;rwa [f2 om (.inr (.inr (.inl (B3.1 E))))]at this
  refine pm (Mg (hg.next N) o.low v3 o.high v4) ?_;rintro v Y Z rfl;have O:=kP N Z;refine⟨_,rfl,fun G=> ?_,fun G=> ?_⟩
  ·have:=e Y;rwa [f2 om (.inr (.inr (.inr (.inl (gL.1 G)))))]at this
  refine pm (NK (hg.next O) o.mT v5) ?_;rintro v w4 b4 rfl;have nA:=kP O b4;have P:gO (qR x.mT) 0<=0↔¬0<qR x.mT:=by rw[<-gL];omega
  refine⟨_,rfl,fun H=> ?_,fun H=> ?_⟩
  ·have:=e w4;rwa [f2 om (.inr (.inr (.inr (.inr (P.1 H)))))]at this
  have rest:fP (lP l i) x=if ∃q,lP l i=some q/\x.id<=q.id then 5 else 0:=by
   unfold fP;rw[aq (fun k=>k ⟨v1,v2,v3,v4,v5⟩),aq om,aq];rintro(k|k|k|k|k)
   ·omega
   ·omega
   ·exact E (B3.2 k)
   ·exact G (gL.2 k)
   ·exact H (P.2 k)
  rw[rest]at e;refine⟨fun h8=>⟨ir,?_⟩,fun h8 r _=> ?_⟩
  ·obtain⟨hb,a,I,J⟩:=(hl.ar nA lf).load (n:=n) (by simpa using hlen) (j:=(i:Int) - 1) om om;have Q:i - 1<l.length:=om;have S:lP l i=some l[i - 1]:=by
    unfold lP;rw[aq om];simp[Q]
   obtain⟨_,b⟩:=J l[i - 1].row (by rw[show((i:Int) - 1).toNat=i - 1 by omega];simp[Q]) rfl;refine⟨hb,a,I,_,b 0 _ rfl,fun K r _=> ?_,fun K r _=> ?_⟩
   ·have:=e r;rwa [bm ⟨_,S,K⟩]at this
   ·have:=e r;rwa [aq (fun⟨q,B,hle⟩=>by rw[S]at B;cases B;exact K hle)]at this
  ·have L:i=0:=om;have:=e r;rwa [aq (fun⟨q,B,_⟩=>by simp[lP,L]at B)]at this
 |succ d ih=>
  intro k w T U hw ho C;have g:k<x.BL.length:=by simp[Ch.BL];omega
  obtain⟨s,hs⟩:∃s,x.BL[k]? =some s:=⟨x.BL[k],by simp[g]⟩
  have hss:mO s:=o.all s (gr hs);refine F.dK.L3.step ⟨fun _=> ?_,fun h=>by omega⟩;obtain⟨hb,a,I,J⟩:=ho.sl.load (n:=5) ho.len (j:=(k:Int)) om om;obtain⟨b,_⟩:=J [.string s] (by rw[cd,ow,hs];rfl) rfl;refine⟨hb,a,I,_,b,pm (dN (hg.next hw) s om) ?_⟩;rintro v y z rfl;refine⟨_,rfl,fun h1=> ?_,fun h1=>⟨ir,?_⟩⟩
  ·have hf:fP (lP l i) x=1:=by
    unfold fP;rw[bm];intro hc;have m:=(Ch.NJ x).2 hc s (gr hs);unfold vR at m;rw[h1]at m;cases m
   have:=e y;rwa [hf]at this
  ·have e3:=sc k;rw[e3];refine ih (k+1) y om om (kP hw z) (ho.below z) fun j hj t M=> ?_
   by_cases Yj:j=k
   ·subst Yj;rw[hs]at M;cases M;simpa[vR]using h1
   ·exact C j om t M

theorem dK{w:World}(hg:bj w){A:Option Addr}{n c:Nat}{l:List Ch}(hl:bW w A 7 (l.map Ch.row))(hlen:l.length=n)(hn:n<2147483648){i:Nat}(hi:i<n){x:Ch}(hx:l[i]? =some x)(h:KS x):
  Pure Tryz.prog 133 #[.slice A n c,.int .i64 (i:Int)] w fun v _=>v= .int .i64 (fP (lP l i) x):=by
 obtain⟨hb,a,k,m⟩:=hl.load (n:=n) (by simpa using hlen) (j:=(i:Int)) om om;obtain⟨b,_⟩:=m x.row (by rw[cd];simp[hx]) rfl;refine F.dK.vc ⟨hb,a,k,_,_,_,_,_,_,_,b,fun w1 x1=> ?_⟩;have d:=k0 x1;refine aW lD [.string x.pR,.string x.offset,.string x.low,.string x.high,.string x.mT] (by simp[Value.cells]) sm d.size fun A2 c2 o ho q=> ?_
 refine Mh hg hl hlen hn hi hx h (fun _=>rfl) 5 0 o rfl om (kP d q) ⟨?_,ho.2⟩ (fun j hj=>by omega);have h1:=ho.1;refine⟨h1.1,?_⟩;rcases h1.2 with e|⟨g,cap,cur,e,r,y⟩
 ·exact .inl e
 ·exact .inr ⟨g,cap,cur,e,ec d.size r,y⟩

def YQ:Option Ch->Nat->List Ch->Int×Int
 |_,_,[]=>(-1,0)
 |p,i,c::r=>if fP p c≠0 then((i:Int),fP p c)else YQ (some c) (i+1) r
def iK(l:List Ch):Int×Int:=if 16<l.length then(-1,8)else YQ none 0 l

theorem Mi{w0:World}(hg:bj w0){A:Option Addr}{n c:Nat}{l:List Ch}(hl:bW w0 A 7 (l.map Ch.row))(hlen:l.length=n)(hn:n<2147483648)(j:∀x∈l,KS x){R:Value->World->Prop}{r:Int×Int}(e:∀w,R (.tuple #[.int .i64 r.1,.int .i64 r.2]) w):
  ∀(d i:Nat)(w:World),n - i=d->i<=n->Below w0.heap.size w0 w->r=YQ (lP l i) i (l.drop i)->F.dz.L4 A n c n i w0.heap.size w R:=by
 intro d;induction d with
 |zero=>
  intro i w m hi hw a;rw[dd om]at a;subst a;exact F.dz.L4.step ⟨fun h=>by omega,fun _=>e w⟩
 |succ d ih=>
  intro i w m hi hw a;have b:i<l.length:=om;have hx:l[i]? =some l[i]:=by simp[b]
  rw[cy b]at a;refine F.dz.L4.step ⟨fun _=> ?_,fun h=>by omega⟩;refine pm (dK (hg.next hw) (hl.ar hw lf) hlen hn om hx (j _ (bx _))) ?_;rintro v g o rfl;refine⟨_,rfl,fun h=> ?_,fun h=>⟨ir,?_⟩⟩
  ·rw[YQ,bm h]at a;subst a;exact e g
  ·have q:fP (lP l i) l[i]=0:=by
    apply bB;intro k;exact h k
   rw[YQ,aq (fun k=>k q)]at a;have y:=sc i;rw[y];refine ih (i+1) g om om (kP hw o) ?_;have hp:lP l (i+1)=some l[i]:=by simp[lP,b]
   rw[hp];exact a

theorem dz{w:World}(hg:bj w){A:Option Addr}{n c:Nat}{l:List Ch}(hl:bW w A 7 (l.map Ch.row))(hlen:l.length=n)(a:∀x∈l,KS x):
  Pure Tryz.prog 108 #[.slice A n c] w fun v _=>v= .tuple #[.int .i64 (iK l).1,.int .i64 (iK l).2]:=by
 refine F.dz.vc ⟨fun h=> ?_,fun h=> ?_⟩
 ·unfold iK;rw[bm om]
 ·refine Mi (r:=iK l) hg hl hlen om a (fun _=>rfl) n 0 w rfl om (Below.refl _ _) ?_;unfold iK;rw[aq om];rfl
theorem kB{w:World}(hg:bj w){A:Option Addr}{n c:Nat}{l:List Ch}(hl:bW w A 7 (l.map Ch.row))(hlen:l.length=n)(a:∀x∈l,KS x):
  Pure Tryz.prog 149 #[.slice A n c] w fun v _=>v= .bool (decide ((iK l).2=0)):=by
 refine F.kB.vc (pm (dz hg hl hlen a) ?_);rintro v b _ rfl;exact⟨_,_,rfl,rfl⟩

theorem aa9:El Tryz.prog 50 102 7 104:=El.of kF
theorem SW:El Tryz.prog 51 153 4 40:=El.of kF

def gN(c:Ch)(raw:ByteArray):Rat:=qR c.pR*qR raw+qR c.offset
def ue(c:Ch)(raw:ByteArray):ByteArray×Int:=if(iK [c]).2=0/\vR raw=true then(rS (gN c raw),0)else(⟨#[]⟩,1)

theorem rk{l:List Ch}(h:(iK l).2=0):l.length<=16/\∀i x,l[i]? =some x->fP (lP l i) x=0:=by
 unfold iK at h;split at h
 ·simp at h
 ·refine⟨om,?_⟩;have gen:∀(r:List Ch)(p:Option Ch)(k:Nat),(YQ p k r).2=0->∀i x,r[i]? =some x->fP (if i=0 then p else r[i - 1]?) x=0:=by
   intro r;induction r with
   |nil=>intro p k _ i x hx;simp at hx
   |cons c r ih=>
    intro p k h i x hx;rw[YQ]at h;split at h
    ·rename_i a;exact absurd h a
    ·rename_i a;have a:fP p c=0:=by
      apply bB;intro k;exact a k
     cases i with
     |zero=>simp at hx;subst hx;simpa using a
     |succ i=>
      have:=ih (some c) (k+1) h i x (by simpa using hx);rw[aq om];cases i with
      |zero=>simpa using this
      |succ i=>simpa using this
  intro i x hx;exact gen l none 0 h i x hx
theorem rm{p:Option Ch}{c:Ch}(h:fP p c=0):(vR c.pR=true/\vR c.offset=true/\vR c.low=true/\vR c.high=true/\vR c.mT=true)/\¬(c.id<1∨1073741824<c.id∨qR c.pR=0∨qR c.high<qR c.low∨¬0<qR c.mT)/\∀q,p=some q->q.id<c.id:=by
 unfold fP at h;split at h
 ·simp at h
 ·rename_i h1;have h1:=dT.1 h1;split at h
  ·simp at h
  ·split at h
   ·simp at h
   ·rename_i a;split at h
    ·simp at h
    ·rename_i b;exact⟨h1,a,fun q d=>by
      apply bB;intro k;exact b ⟨q,d,om⟩⟩

theorem Mj{c:Ch}{raw:ByteArray}(a:KS c)(v1:vR c.pR=true)(v2:vR c.offset=true)(b:mO raw)(v3:vR raw=true):Sm 3001 (gN c raw):=
 Sm.mono (((mg v1 a.pR).mul (mg v3 b)).add (mg v2 a.offset)) om

theorem kY{w:World}(hg:bj w){c:Ch}(g:KS c){raw:ByteArray}(n:mO raw):
  Pure Tryz.prog 154 #[c.val,.string raw] w fun v _=>v= .tuple #[.string (ue c raw).1,.int .i64 (ue c raw).2]:=by
 refine F.kY.vc fun w1 x1=> ?_
 have a:=k0 x1;refine aW aa9 [c.val] (by simp[Value.cells]) sm a.size fun A2 c2 A ho q=> ?_
 have b:=kP a q;refine pm (kB (hg.next b) (l:=[c]) ho.sl rfl (by simpa using g)) ?_;rintro v B r rfl;have d:=kP b r;refine⟨_,rfl,fun h=> ?_,fun h=>pm (dN (hg.next d) raw om) ?_⟩
 ·unfold ue;rw[aq (fun k=>by have:=k.1;simp at h;exact h this)]
 rintro v C x rfl;have m:=kP d x;have e:(iK [c]).2=0:=by
  apply bB;intro k;simp[k]at h
 refine⟨_,rfl,fun i=> ?_,fun i D y=> ?_⟩
 ·unfold ue vR;rw[aq (fun k=>by rw[k.2]at i;cases i)]
 have j:vR raw=true:=by simpa[vR]using i
 obtain⟨⟨v1,v2,_⟩,_⟩:=rm ((rk e).2 0 c rfl);have o:=kE m y;have m1:=nO (hg.next o) (g.pR.yj v1) (n.yj j);rw[<-iq v1,<-iq j]at m1;refine pm m1 ?_;rintro v E z rfl;have m2:=qB (hg.next (kP o z)) (((mg v1 g.pR).mul (mg j n)).mono om) (g.offset.yj v2);rw[<-iq v2]at m2;refine⟨_,rfl,pm m2 ?_⟩;rintro v G _ rfl;refine⟨_,rfl,?_⟩;unfold ue;rw[bm ⟨e,j⟩];rfl

def yU(c:Ch)(x:Va):Bool:=x.chan==c.id&&decide (0<=x.yT/\x.yT<=3)&&decide (0<=x.tick/\x.tick<=1073741824)&&vR x.num&&(x.yT !=0||(x.tick==0&&decide (x.num=⟨#[48]⟩)))
def sY:List Ch->List Va->Bool
 |[],[]=>true
 |c::r,x::s=>yU c x&&sY r s
 |_,_=>false

abbrev SmV(x:Va):Prop:=mO x.num

theorem Pj{w0:World}(hg:bj w0){A A1:Option Addr}{n c c1:Nat}{l:List Ch}{v:List Va}(hl:bW w0 A 7 (l.map Ch.row))(hlen:l.length=n)(S:bW w0 A1 4 (v.map Va.row))(T:v.length=n)(hn:n<2147483648)(U:∀x∈v,SmV x){R:Value->World->Prop}{r:Bool}(b:∀w,R (.bool r) w):
  ∀(d i:Nat)(w:World),n - i=d->i<=n->Below w0.heap.size w0 w->r=sY (l.drop i) (v.drop i)->F.dG.L4 A n c A1 n c1 n i w0.heap.size w R:=by
 intro d;induction d with
 |zero=>
  intro i w V hi hw g;rw[dd om,dd om]at g;subst g;exact F.dG.L4.step ⟨fun h=>by omega,fun _=>b w⟩
 |succ d ih=>
  intro i w V hi hw g;have K:i<l.length:=om;have o:i<v.length:=om;rw[cy K,cy o,sY]at g;obtain⟨hb,a,W,X⟩:=(S.ar hw lf).load (n:=n) (by simpa using T) (j:=(i:Int)) om om;obtain⟨e,_⟩:=X v[i].row (by rw[cd];simp[o]) rfl;refine F.dG.L4.step ⟨fun _=> ?_,fun h=>by omega⟩;refine⟨hb,a,W,_,_,_,_,e,fun w2 x2=> ?_⟩;have L:=kE hw x2;obtain⟨B,a2,Y,Z⟩:=(hl.ar L lf).load (n:=n) (by simpa using hlen) (j:=(i:Int)) om om;obtain⟨_,ua⟩:=Z l[i].row (by rw[cd];simp[K]) rfl;have bad:yU l[i] v[i]=false->r=false:=fun h=>by rw[g,h,Lu]
  have sv:SmV v[i]:=U _ (bx _);refine⟨B,a2,Y,_,ua 0 _ rfl,fun h1 m _=> ?_,fun h1=>⟨fun h2 m _=> ?_,fun h2=>⟨fun h3 m _=> ?_,fun h3 m x3=> ?_⟩⟩⟩
  ·have:=b m;rwa [bad (by simp[yU];intro k;omega)]at this
  ·have:=b m;rwa [bad (by simp[yU];intros;omega)]at this
  ·have:=b m;rwa [bad (by simp[yU];intros;omega)]at this
  have wU:=kE L x3;refine pm (mj _ _) ?_;rintro y w4 b4 rfl;have M:=kP wU b4;refine⟨_,rfl,fun C=> ?_,fun C=>pm (dN (hg.next M) v[i].num om) ?_⟩
  ·have:=b w4;rwa [bad (by
    have D:decide (0<=v[i].tick/\v[i].tick<=1073741824)=false:=C;unfold yU;rw[D];simp)]at this
  rintro y q b5 rfl;have pA:=kP M b5;refine⟨_,rfl,fun E=> ?_,fun E=> ?_⟩
  ·have:=b q;rwa [bad (by
    have D:vR v[i].num=false:=E;unfold yU;rw[D];simp)]at this
  have N:v[i].chan=l[i].id:=by
   apply bB;intro k;exact h1 k
  have O:decide (0<=v[i].tick/\v[i].tick<=1073741824)=true:=by simpa using C
  have P:vR v[i].num=true:=by simpa[vR]using E
  have Q:decide (0<=v[i].yT/\v[i].yT<=3)=true:=by simp;omega
  have e3:=sc i;have go:yU l[i] v[i]=true->F.dG.L4 A n c A1 n c1 n ((i:Int)+1) w0.heap.size q R:=fun h=>by
   rw[e3];exact ih (i+1) q om om pA (by rw[g,h,zi])
  refine⟨fun z=>⟨fun G=> ?_,fun G=>⟨fun H=> ?_,fun H=>⟨ir,go ?_⟩⟩⟩,fun z=>⟨ir,go ?_⟩⟩
  ·have:=b q;rwa [bad (by simp[yU];intros;exact⟨z,fun k=>absurd k G⟩)]at this
  ·have:=b q;rwa [bad (by simp[yU];intros;exact⟨z,fun _ k=>H k⟩)]at this
  ·have I:v[i].tick=0:=by apply bB;intro k;exact G k
   have J:v[i].num=⟨#[48]⟩:=by apply bB;intro k;exact H k
   unfold yU;rw[O,P,Q];simp[N,I,J]
  ·unfold yU;rw[O,P,Q];simp[N,z]

theorem Pk:∀(l:List Ch)(v:List Va),l.length≠v.length->sY l v=false:=by
 intro l;induction l with
 |nil=>intro v h;cases v with
  |nil=>simp at h
  |cons x s=>rfl
 |cons c r ih=>intro v h;cases v with
  |nil=>rfl
  |cons x s=>rw[sY,ih s (by simpa using h),Bool.and_false]
theorem Jy:∀{l:List Ch} {v:List Va},sY l v=true->l.length=v.length/\∀(i:Nat)(c:Ch)(x:Va),l[i]? =some c->v[i]? =some x->yU c x=true:=by
 intro l;induction l with
 |nil=>intro v h;cases v with
  |nil=>exact⟨rfl,fun i c x a=>by simp at a⟩
  |cons x s=>simp[sY]at h
 |cons c r ih=>intro v h;cases v with
  |nil=>simp[sY]at h
  |cons x s=>
   rw[sY,de]at h;obtain⟨h1,b⟩:=ih h.2;refine⟨by simp[h1],fun i c' d a hx=> ?_⟩;cases i with
   |zero=>simp at a hx;subst a;subst hx;exact h.1
   |succ i=>exact b i c' d (by simpa using a) (by simpa using hx)

theorem dG{w:World}(hg:bj w){A A1:Option Addr}{n n1 c c1:Nat}{l:List Ch}{v:List Va}(hl:bW w A 7 (l.map Ch.row))(hlen:l.length=n)(a:bW w A1 4 (v.map Va.row))(b:v.length=n1)(hn:n<2147483648)(d:∀x∈v,SmV x):
  Pure Tryz.prog 150 #[.slice A n c,.slice A1 n1 c1] w fun y _=>y= .bool (sY l v):=by
 refine F.dG.vc ⟨fun h=> ?_,fun h=> ?_⟩
 ·rw[Pk _ _ om]
 ·have e:n1=n:=om;subst e;exact Pj hg hl hlen a b hn d (fun _=>rfl) n1 0 w rfl om (Below.refl _ _) rfl

def xu(c:Ch)(a:Va)(x:Rat)(at_:Int):Int:=
 if x<qR c.low∨qR c.high<x then 2
 else if a.yT=1/\qR c.mT*((at_ - a.tick:Int):Rat)<Dg (x - qR a.num)then 3
 else 1

theorem Wj{w:World}(hg:bj w){c:Ch}(b:KS c)(v3:vR c.low=true)(v4:vR c.high=true){x:Rat}(hx:lC x){p2 p3:Nat}(d:w.heap[p2]? =some (.cells (c.row).toArray 102 (0,0)))(e:w.heap[p3]? =some (.cells [.string (rS x)].toArray 75 (0,0))):
  Pure Tryz.prog 213 #[.pointer (some ⟨p3,0,none⟩),.pointer (some ⟨p2,0,none⟩)] w fun v _=>v= .bool (decide (x<qR c.low∨qR c.high<x)):=by
 have g:=iq v3;have i:=iq v4;refine F.mR.vc ⟨_,cm e rfl,_,bz d rfl,?_⟩;have m1:=fg hg hx (b.low.yj v3);rw[<-g]at m1;refine pm m1 ?_;rintro v j a rfl;refine⟨_,rfl,fun h=> ?_,fun h=> ?_⟩
 ·rw[jI]at h;simp[h]
 ·rw[jI]at h;refine⟨_,cm (ai e a) rfl,_,bz (ai d a) rfl,?_⟩;have m2:=fg (hg.next a) hx (b.high.yj v4);rw[<-i]at m2;refine pm m2 ?_;rintro v k _ rfl;refine⟨_,rfl,?_⟩;have:gO x (qR c.high)>0↔qR c.high<x:=gL;simp[h,this]

theorem Wl{w:World}(hg:bj w){c:Ch}(l:KS c)(v5:vR c.mT=true){u:Va}(hu:SmV u)(i:vR u.num=true)(I:0<=u.tick/\u.tick<=1073741824){x:Rat}(hx:Sm 10000 x){at_:Int}(J:0<=at_/\at_<=1073741824){p2 p3 m n:Nat}(q:w.heap[p2]? =some (.cells (c.row).toArray 102 (0,0)))(r:w.heap[p3]? =some (.cells [.string (rS x)].toArray 75 (0,0)))
  (y:w.heap[m]? =some (.cells [.int .i64 at_].toArray 3 (0,0))) (j:w.heap[n]? =some (.cells (u.row).toArray 153 (0,0))):
  Pure Tryz.prog 214 #[.pointer (some ⟨n,0,none⟩),.pointer (some ⟨p3,0,none⟩),.pointer (some ⟨p2,0,none⟩),.pointer (some ⟨m,0,none⟩)] w fun v _=>v= .bool (decide (u.yT=1/\qR c.mT*((at_ - u.tick:Int):Rat)<Dg (x - qR u.num))):=by
 have z:=iq i;have A:=iq v5;refine F.mS.vc ⟨_,bz j rfl,fun k=>⟨_,cm r rfl,_,bz j rfl,_,bz q rfl,_,cm y rfl,_,bz j rfl,ir,fun w1 x1=> ?_⟩,fun k w1 _=> ?_⟩
 ·have b:=k0 x1;have su:=mg i hu;have m1:=nP (hg.next b) (hx.mono om) (hu.yj i);rw[<-z]at m1;refine pm m1 ?_;rintro v K B rfl;have d:=kP b B;have s2:Sm 20000 (x - qR u.num):=(hx.sub su).mono om;refine⟨_,rfl,pm (oZ (hg.next d) (s2.mono om)) ?_⟩;rintro v L C rfl;have e:=kP d C;refine⟨_,rfl,pm (kZ (hg.next e) om om) ?_⟩;rintro v M D rfl;have g:=kP e D;have o:Sm 10 ((at_ - u.tick:Int):Rat):=Sm.ofInt om om;have m2:=nO (hg.next g) (l.mT.yj v5) (o.mono om);rw[<-A]at m2;refine⟨_,rfl,pm m2 ?_⟩;rintro v N E rfl;have G:=kP g E;have H:Sm 2000 (qR c.mT*((at_ - u.tick:Int):Rat)):=((mg v5 l.mT).mul o).mono om;refine⟨_,rfl,pm (fg (hg.next G) (s2.abs.mono om) (H.mono om)) ?_⟩;rintro v O _ rfl;refine⟨_,rfl,?_⟩;have:gO (Dg (x - qR u.num)) (qR c.mT*((at_ - u.tick:Int):Rat))>0↔qR c.mT*((at_ - u.tick:Int):Rat)<Dg (x - qR u.num):=gL;have a:u.yT=1:=k;refine ca Value.bool ?_;rw[ky,this];exact⟨fun h=>⟨a,h⟩,fun h=>h.2⟩
 ·have a:¬u.yT=1:=k;simp[a]

theorem SY:El Tryz.prog 301 298 2 16:=El.of kF
set_option maxRecDepth 4000 in
theorem cU{w:World}(hg:bj w){c:Ch}(D:KS c)(hf:vR c.low=true/\vR c.high=true/\vR c.mT=true){u:Va}(hu:SmV u)(E:vR u.num=true)(G:0<=u.tick/\u.tick<=1073741824){x:Rat}(hx:Sm 10000 x){at_:Int}(H:0<=at_/\at_<=1073741824):
  Pure Tryz.prog 155 #[c.val,u.val,.string (rS x),.int .i64 at_] w fun v _=>v= .int .i64 (xu c u x at_):=by
 obtain⟨v3,v4,v5⟩:=hf;refine F.cU.vc fun w1 x1 p2 I i p3 J K L M N O P Q=> ?_
 have k:=k0 x1;refine aW SY [.agg #[.int .i64 2,.func (.func 213) #[] #[.pointer (some ⟨p3,0,none⟩),.pointer (some ⟨p2,0,none⟩)]],.agg #[.int .i64 3,.func (.func 214) #[] #[.pointer (some ⟨O,0,none⟩),.pointer (some ⟨p3,0,none⟩),.pointer (some ⟨p2,0,none⟩),.pointer (some ⟨L,0,none⟩)]]]
  (by simp[Value.cells]) sm k.size fun A2 c2 S ho l=> ?_
 have r:=kP k l;obtain⟨y,a,z,A⟩:=ho.sl.load (n:=2) rfl (j:=0) om om;obtain⟨b,_⟩:=A _ rfl rfl;refine F.cU.L3.step ⟨fun _=>⟨y,a,z,_,_,_,_,b,kF,fun T e=> ?_⟩,fun h=>by simp at h⟩;have m:=kE r e;have g2:=ext_nil e (ai i l);have g3:=ext_nil e (ai K l);have g4:=ext_nil e (ai N l);have g5:=ext_nil e (ai Q l);have B:=ho.lN e;refine pm (Wj (hg.next m) D v3 v4 (hx.mono om) g2 g3) ?_;rintro v U g rfl;have C:=kP m g;refine⟨_,rfl,fun h=> ?_,fun h=>⟨ir,?_⟩⟩
 ·have q:x<qR c.low∨qR c.high<x:=by simpa using h
  unfold xu;rw[bm q]
 have q:¬(x<qR c.low∨qR c.high<x):=by simpa using h
 obtain⟨y,a,z,A⟩:=(B.below g).sl.load (n:=2) rfl (j:=1) om om;obtain⟨b,_⟩:=A _ rfl rfl;refine F.cU.L3.step ⟨fun _=>⟨y,a,z,_,_,_,_,b,kF,fun V o=> ?_⟩,fun h=>by simp at h⟩;have R:=kE C o;refine pm (Wl (hg.next R) D v5 hu E G hx H (ext_nil o (ai g2 g)) (ext_nil o (ai g3 g)) (ext_nil o (ai g4 g)) (ext_nil o (ai g5 g))) ?_;rintro v W X rfl;refine⟨_,rfl,fun i=> ?_,fun i=>⟨ir,?_⟩⟩
 ·have d:u.yT=1/\qR c.mT*((at_ - u.tick:Int):Rat)<Dg (x - qR u.num):=fs i;unfold xu;rw[aq q,bm d]
 ·have d:¬(u.yT=1/\qR c.mT*((at_ - u.tick:Int):Rat)<Dg (x - qR u.num)):=kh i;refine F.cU.L3.step ⟨fun h=>by simp at h,fun _=> ?_⟩;unfold xu;rw[aq q,aq d]

def Hn(p:Ch->Bool):Nat->List Ch->Int
 |_,[]=> -1
 |i,c::r=>if p c then(i:Int)else Hn p (i+1) r

theorem Mk{w0:World}{A:Option Addr}{n c:Nat}{l:List Ch}(hl:bW w0 A 7 (l.map Ch.row))(hlen:l.length=n)(hn:n<2147483648){f:Nat}{a k:Array Value}(bU:av Tryz.prog f=true){p:Ch->Bool}
  (hf:∀w,Below w0.heap.size w0 w->∀x:Ch,Pure Tryz.prog f (a.toList++([x.val]:List Value)++k.toList).toArray w fun v _=>v= .bool (p x)) {R:Value->World->Prop} {r:Int} (g:∀w,R (.int .i64 r) w):
  ∀(d i:Nat)(w:World),n - i=d->i<=n->Below w0.heap.size w0 w->r=Hn p i (l.drop i)->F.aE.L2 A n c f a k n i w0.heap.size w R:=by
 intro d;induction d with
 |zero=>
  intro i w q hi hw b;rw[dd om]at b;subst b;exact F.aE.L2.step ⟨fun h=>by omega,fun _=>g w⟩
 |succ d ih=>
  intro i w q hi hw b;have m:i<l.length:=om;rw[cy m,Hn]at b;obtain⟨hb,y,z,B⟩:=(hl.ar hw lf).load (n:=n) (by simpa using hlen) (j:=(i:Int)) om om;obtain⟨e,_⟩:=B l[i].row (by rw[cd];simp[m]) rfl;refine F.aE.L2.step ⟨fun _=> ?_,fun h=>by omega⟩;refine⟨hb,y,z,_,_,_,_,_,_,_,e,bU,pm (hf w hw l[i]) ?_⟩;rintro v o C rfl;refine⟨_,rfl,fun h=> ?_,fun h=>⟨ir,?_⟩⟩
  ·rw[bm h]at b;subst b;exact g o
  ·rw[aq (by simp[h])]at b;have D:=sc i;rw[D];exact ih (i+1) o om om (kP hw C) b
theorem Ml{w:World}{A:Option Addr}{n c:Nat}{l:List Ch}(hl:bW w A 7 (l.map Ch.row))(hlen:l.length=n)(hn:n<2147483648){f:Nat}{a k:Array Value}(bU:av Tryz.prog f=true){p:Ch->Bool}
  (hf:∀w',Below w.heap.size w w'->∀x:Ch,Pure Tryz.prog f (a.toList++([x.val]:List Value)++k.toList).toArray w' fun v _=>v= .bool (p x)):
  Pure Tryz.prog 151 #[.slice A n c,.func (.func f) a k] w fun v _=>v= .int .i64 (Hn p 0 l):=
 F.aE.vc (Mk hl hlen hn bU hf (fun _=>rfl) n 0 w rfl om (Below.refl _ _) rfl)
theorem Ac(p:Ch->Bool):∀(l:List Ch)(k:Nat),(Hn p k l= -1/\∀c∈l,p c=false)∨∃(i:Nat)(c:Ch),Hn p k l=((k+i:Nat):Int)/\l[i]? =some c/\p c=true/\∀(j:Nat)(d:Ch),j<i->l[j]? =some d->p d=false:=by
 intro l;induction l with
 |nil=>intro k;exact .inl ⟨rfl,sm⟩
 |cons c r ih=>
  intro k;rw[Hn];by_cases h:p c=true
  ·rw[bm h];exact .inr ⟨0,c,rfl,rfl,h,fun j d hj=>by omega⟩
  ·rw[aq h];rcases ih (k+1)with⟨h1,a⟩|⟨i,d,h1,a,b,g⟩
   ·exact .inl ⟨h1,fun x hx=>by
     rcases cb.1 hx with rfl|hx
     ·simpa using h
     ·exact a x hx⟩
   ·refine .inr ⟨i+1,d,by rw[h1];congr 1;omega,by simpa using a,b,fun j e hj he=> ?_⟩;cases j with
    |zero=>simp at he;subst he;simpa using h
    |succ j=>exact g j e om (by simpa using he)

structure Al where
 id:Int
 chan:Int
 prio:Int
 qC:Int
 nD:Bool
 set:ByteArray
 reset:ByteArray
 text:ByteArray
structure Lp where
 yV:Int
 state:Int
 since:Int
 deriving DecidableEq
structure Si where
 id:Int
 role:Int
 name:ByteArray
 key:ByteArray
structure Ap where
 cR:Int
 tick:Int
 subject:ByteArray
 code:ByteArray
 deriving DecidableEq
abbrev Al.row(x:Al):List Value:=[.int .i64 x.id,.int .i64 x.chan,.int .i64 x.prio,.int .i64 x.qC,.bool x.nD,.string x.set,.string x.reset,.string x.text]
abbrev Al.val(x:Al):Value:= .agg #[.int .i64 x.id,.int .i64 x.chan,.int .i64 x.prio,.int .i64 x.qC,.bool x.nD,.string x.set,.string x.reset,.string x.text]
abbrev Lp.row(x:Lp):List Value:=[.int .i64 x.yV,.int .i64 x.state,.int .i64 x.since]
abbrev Lp.val(x:Lp):Value:= .agg #[.int .i64 x.yV,.int .i64 x.state,.int .i64 x.since]
abbrev Si.row(x:Si):List Value:=[.int .i64 x.id,.int .i64 x.role,.string x.name,.string x.key]
abbrev Si.val(x:Si):Value:= .agg #[.int .i64 x.id,.int .i64 x.role,.string x.name,.string x.key]
abbrev Ap.row(x:Ap):List Value:=[.int .i64 x.cR,.int .i64 x.tick,.string x.subject,.string x.code]
abbrev Ap.val(x:Ap):Value:= .agg #[.int .i64 x.cR,.int .i64 x.tick,.string x.subject,.string x.code]
section
variable {w0:World} {A:Option Addr} {n c:Nat} {f:Nat} {a k:Array Value} {R:Value->World->Prop}
theorem mU{α:Type}{val:α->Value}{l:List α}(hlen:l.length=n)(hn:n<2147483648){p:α->Bool}
  (hf:∀w,Below w0.heap.size w0 w->∀x∈l,Pure Tryz.prog f (a.toList++([val x]:List Value)++k.toList).toArray w fun v _=>v= .bool (p x)) {r:Int} (j:∀w,R (.int .i64 r) w) {L:Int->World->Prop}
  (he:∀(i:Nat)(w:World),¬(i:Int)<n->R (.int .i64 (-1)) w->L i w)
  (hs:∀(i:Nat)(w:World)(hi:i<l.length),Below w0.heap.size w0 w->Pure Tryz.prog f (a.toList++([val l[i]]:List Value)++k.toList).toArray w (Rb fun b g=>Bb b (R (.int .i64 i) g) (aN .i64 ((i:Int)+1)/\L ((i:Int)+1) g))->L i w):
  ∀(d i:Nat)(w:World),n - i=d->i<=n->Below w0.heap.size w0 w->r=fq p i (l.drop i)->L i w:=by
 intro d;induction d with
 |zero=>
  intro i w o hi hw e;rw[dd om]at e;subst e;exact he i w om (j w)
 |succ d ih=>
  intro i w o hi hw e;have m:i<l.length:=om;rw[cy m,fq]at e;refine hs i w m hw (pm (hf w hw l[i] (bx _)) ?_);rintro v g q rfl;refine⟨_,rfl,fun h=> ?_,fun h=>⟨ir,?_⟩⟩
  ·rw[bm h]at e;subst e;exact j g
  ·rw[aq (by simp[h])]at e;have y:=sc i;rw[y];exact ih (i+1) g om om (kP hw q) e
theorem Ad{α:Type}(p:α->Bool)(l:List α):Value.bool (decide (fq p 0 l≥0))= .bool (l.any p):=by
 rw[tY]
theorem fW{t ty e sz bytes:Nat}(el:El Tryz.prog t e sz bytes){rows:List (List Value)}(h:bW w0 A sz rows)(hlen:rows.length=n)(l:∀r∈rows,r.length=sz)(h1:∀r∈rows,∀u∈r,bk u=true)(hn:n*(bytes+1)<=140737488355328)
  (g:∀A' c' w',ay w' w0.heap.size e A' n c' sz rows->R (.slice A' n c') w'):
  Br (A=none) (R (.slice none 0 0) w0) (ae P (Instr.buildSlice t 0 #[]) w0.heap.size [] w0 (Rs fun A1 n1 c1 b=>(ae P (Builtin.append_ #[t,t] ty #[(.slice A1 n1 c1),(.slice A n c)]) w0.heap.size [] b (Rs fun A4 n4 c4 m=>(R (.slice A4 n4 c4) m))))):=by
 refine⟨fun d=> ?_,fun d=> ?_⟩
 ·subst d;have:=h.sO;subst this;simp at hlen;subst hlen;exact g none 0 w0 ay.nil
 ·obtain⟨a,rfl⟩:=FL.1 d;refine aW el [] sm sm lf fun A2 c2 o ho i=> ?_
  refine vo el lf (by simpa using ho) (h.below i) hlen l h1 i.size (by simpa using hn) sm fun A' c' b j _ q=> ?_
  simp only[za,mC,QB,u0]at j⊢;exact g A' c' b j
theorem fH{α:Type}{row:α->List Value}{l:List α}{sz:Nat}(b:∀x,(row x).length=sz)(h1:∀x,∀u∈row x,bk u=true):(∀r∈l.map row,r.length=sz)/\∀r∈l.map row,∀u∈r,bk u=true:=
 ⟨fun r h=>by obtain⟨x,_,rfl⟩:=iu.1 h;exact b x,fun r h=>by obtain⟨x,_,rfl⟩:=iu.1 h;exact h1 x⟩
end
theorem Wm{w:World}{A:Option Addr}{n c:Nat}{l:List Al}(hl:bW w A 8 (l.map Al.row))(hlen:l.length=n)(hn:n<2147483648){f:Nat}{a k:Array Value}(bU:av Tryz.prog f=true){p:Al->Bool}
  (hf:∀w',Below w.heap.size w w'->∀x∈l,Pure Tryz.prog f (a.toList++([Al.val x]:List Value)++k.toList).toArray w' fun v _=>v= .bool (p x)):
  Pure Tryz.prog 169 #[.slice A n c,.func (.func f) a k] w fun v _=>v= .int .i64 (fq p 0 l):=
 F.aQ.vc (mU (val:=Al.val) hlen hn hf (R:=fun v _=>v= .int .i64 (fq p 0 l)) (fun _=>rfl) (L:=fun i w'=>F.aQ.L2 A n c f a k n i w.heap.size w' fun v _=>v= .int .i64 (fq p 0 l))
  (fun i w' h1 d=>F.aQ.L2.step ⟨fun q=>absurd q h1,fun _=>d⟩)
  (fun i w' hi hw h=>F.aQ.L2.step ⟨fun _=>by obtain⟨hb,e,g,b,_⟩:=(hl.ar hw lf).at_ (fun _=>rfl) hlen hi;exact⟨hb,e,g,_,_,_,_,_,_,_,_,b,bU,h⟩,fun q=>by omega⟩)
  n 0 w rfl om (Below.refl _ _) rfl)
theorem Wn{w:World}{A:Option Addr}{n c:Nat}{l:List Lp}(hl:bW w A 3 (l.map Lp.row))(hlen:l.length=n)(hn:n<2147483648){f:Nat}{a k:Array Value}(bU:av Tryz.prog f=true){p:Lp->Bool}
  (hf:∀w',Below w.heap.size w w'->∀x∈l,Pure Tryz.prog f (a.toList++([Lp.val x]:List Value)++k.toList).toArray w' fun v _=>v= .bool (p x)):
  Pure Tryz.prog 219 #[.slice A n c,.func (.func f) a k] w fun v _=>v= .int .i64 (fq p 0 l):=
 F.aS.vc (mU (val:=Lp.val) hlen hn hf (R:=fun v _=>v= .int .i64 (fq p 0 l)) (fun _=>rfl) (L:=fun i w'=>F.aS.L2 A n c f a k n i w.heap.size w' fun v _=>v= .int .i64 (fq p 0 l))
  (fun i w' h1 d=>F.aS.L2.step ⟨fun q=>absurd q h1,fun _=>d⟩)
  (fun i w' hi hw h=>F.aS.L2.step ⟨fun _=>by obtain⟨hb,e,g,b,_⟩:=(hl.ar hw lf).at_ (fun _=>rfl) hlen hi;exact⟨hb,e,g,_,_,_,b,bU,h⟩,fun q=>by omega⟩)
  n 0 w rfl om (Below.refl _ _) rfl)
theorem Wo{w:World}{A:Option Addr}{n c:Nat}{l:List Si}(hl:bW w A 4 (l.map Si.row))(hlen:l.length=n)(hn:n<2147483648){f:Nat}{a k:Array Value}(bU:av Tryz.prog f=true){p:Si->Bool}
  (hf:∀w',Below w.heap.size w w'->∀x∈l,Pure Tryz.prog f (a.toList++([Si.val x]:List Value)++k.toList).toArray w' fun v _=>v= .bool (p x)):
  Pure Tryz.prog 197 #[.slice A n c,.func (.func f) a k] w fun v _=>v= .int .i64 (fq p 0 l):=
 F.aH.vc (mU (val:=Si.val) hlen hn hf (R:=fun v _=>v= .int .i64 (fq p 0 l)) (fun _=>rfl) (L:=fun i w'=>F.aH.L2 A n c f a k n i w.heap.size w' fun v _=>v= .int .i64 (fq p 0 l))
  (fun i w' h1 d=>F.aH.L2.step ⟨fun q=>absurd q h1,fun _=>d⟩)
  (fun i w' hi hw h=>F.aH.L2.step ⟨fun _=>by obtain⟨hb,e,g,b,_⟩:=(hl.ar hw lf).at_ (fun _=>rfl) hlen hi;exact⟨hb,e,g,_,_,_,_,b,bU,h⟩,fun q=>by omega⟩)
  n 0 w rfl om (Below.refl _ _) rfl)
theorem Wp{w:World}{A:Option Addr}{n c:Nat}{l:List Ap}(hl:bW w A 4 (l.map Ap.row))(hlen:l.length=n)(hn:n<2147483648){f:Nat}{a k:Array Value}(bU:av Tryz.prog f=true){p:Ap->Bool}
  (hf:∀w',Below w.heap.size w w'->∀x∈l,Pure Tryz.prog f (a.toList++([Ap.val x]:List Value)++k.toList).toArray w' fun v _=>v= .bool (p x)):
  Pure Tryz.prog 176 #[.slice A n c,.func (.func f) a k] w fun v _=>v= .int .i64 (fq p 0 l):=
 F.aD.vc (mU (val:=Ap.val) hlen hn hf (R:=fun v _=>v= .int .i64 (fq p 0 l)) (fun _=>rfl) (L:=fun i w'=>F.aD.L2 A n c f a k n i w.heap.size w' fun v _=>v= .int .i64 (fq p 0 l))
  (fun i w' h1 d=>F.aD.L2.step ⟨fun q=>absurd q h1,fun _=>d⟩)
  (fun i w' hi hw h=>F.aD.L2.step ⟨fun _=>by obtain⟨hb,e,g,b,_⟩:=(hl.ar hw lf).at_ (fun _=>rfl) hlen hi;exact⟨hb,e,g,_,_,_,_,b,bU,h⟩,fun q=>by omega⟩)
  n 0 w rfl om (Below.refl _ _) rfl)
theorem NL{w:World}{A:Option Addr}{n c:Nat}{l:List Va}(hl:bW w A 4 (l.map Va.row))(hlen:l.length=n)(hn:n<2147483648){f:Nat}{a k:Array Value}(bU:av Tryz.prog f=true){p:Va->Bool}
  (hf:∀w',Below w.heap.size w w'->∀x∈l,Pure Tryz.prog f (a.toList++([Va.val x]:List Value)++k.toList).toArray w' fun v _=>v= .bool (p x)):
  Pure Tryz.prog 218 #[.slice A n c,.func (.func f) a k] w fun v _=>v= .int .i64 (fq p 0 l):=
 F.aR.vc (mU (val:=Va.val) hlen hn hf (R:=fun v _=>v= .int .i64 (fq p 0 l)) (fun _=>rfl) (L:=fun i w'=>F.aR.L2 A n c f a k n i w.heap.size w' fun v _=>v= .int .i64 (fq p 0 l))
  (fun i w' h1 d=>F.aR.L2.step ⟨fun q=>absurd q h1,fun _=>d⟩)
  (fun i w' hi hw h=>F.aR.L2.step ⟨fun _=>by obtain⟨hb,e,g,b,_⟩:=(hl.ar hw lf).at_ (fun _=>rfl) hlen hi;exact⟨hb,e,g,_,_,_,_,b,bU,h⟩,fun q=>by omega⟩)
  n 0 w rfl om (Below.refl _ _) rfl)
theorem Mm{w:World}{A:Option Addr}{n c:Nat}{l:List Lp}(hl:bW w A 3 (l.map Lp.row))(hlen:l.length=n)(hn:n<2147483648){f:Nat}{a k:Array Value}(bU:av Tryz.prog f=true){p:Lp->Bool}
  (hf:∀w',Below w.heap.size w w'->∀x∈l,Pure Tryz.prog f (a.toList++([Lp.val x]:List Value)++k.toList).toArray w' fun v _=>v= .bool (p x)):
  Pure Tryz.prog 160 #[.slice A n c,.func (.func f) a k] w fun v _=>v= .bool (l.any p):=by
 refine F.dX.vc (pm (Wn hl hlen hn bU hf) ?_);rintro v b _ rfl;exact⟨_,rfl,Ad p l⟩
theorem Dy{w:World}{A:Option Addr}{n c:Nat}{l:List Ap}(hl:bW w A 4 (l.map Ap.row))(hlen:l.length=n)(hn:n<2147483648){f:Nat}{a k:Array Value}(bU:av Tryz.prog f=true){p:Ap->Bool}
  (hf:∀w',Below w.heap.size w w'->∀x∈l,Pure Tryz.prog f (a.toList++([Ap.val x]:List Value)++k.toList).toArray w' fun v _=>v= .bool (p x)):
  Pure Tryz.prog 120 #[.slice A n c,.func (.func f) a k] w fun v _=>v= .bool (l.any p):=by
 refine F.db.vc (pm (Wp hl hlen hn bU hf) ?_);rintro v b _ rfl;exact⟨_,rfl,Ad p l⟩
theorem Mn{w:World}{A:Option Addr}{n c:Nat}{l:List Va}(hl:bW w A 4 (l.map Va.row))(hlen:l.length=n)(hn:n<2147483648){f:Nat}{a k:Array Value}(bU:av Tryz.prog f=true){p:Va->Bool}
  (hf:∀w',Below w.heap.size w w'->∀x∈l,Pure Tryz.prog f (a.toList++([Va.val x]:List Value)++k.toList).toArray w' fun v _=>v= .bool (p x)):
  Pure Tryz.prog 157 #[.slice A n c,.func (.func f) a k] w fun v _=>v= .bool (l.any p):=by
 refine F.dM.vc (pm (NL hl hlen hn bU hf) ?_);rintro v b _ rfl;exact⟨_,rfl,Ad p l⟩
theorem Mo:El Tryz.prog 52 104 8 88:=El.of kF
theorem Hp(l:List Al):(∀r∈l.map Al.row,r.length=8)/\∀r∈l.map Al.row,∀u∈r,bk u=true:=fH (fun _=>rfl) (fun x u h=>by simp only[Al.row,cb,eH,oP]at h;rcases h with rfl|rfl|rfl|rfl|rfl|rfl|rfl|rfl<;>rfl)
theorem Wq{w:World}{A:Option Addr}{n c:Nat}{l:List Al}(h:bW w A 8 (l.map Al.row))(hlen:l.length=n)(hn:n<=1000000):
  Pure Tryz.prog 88 #[.slice A n c] w fun v w'=>∃A' c',v= .slice A' n c'/\ay w' w.heap.size 104 A' n c' 8 (l.map Al.row):=
 F.ff.vc (fW (R:=fun v w'=>∃A' c',v= .slice A' n c'/\ay w' w.heap.size 104 A' n c' 8 (l.map Al.row)) Mo h (by simpa using hlen) (Hp l).1 (Hp l).2 om fun A' c' w' o=>⟨A',c',rfl,o⟩)
theorem Mq:El Tryz.prog 53 155 3 24:=El.of kF
theorem Hq(l:List Lp):(∀r∈l.map Lp.row,r.length=3)/\∀r∈l.map Lp.row,∀u∈r,bk u=true:=fH (fun _=>rfl) (fun x u h=>by simp only[Lp.row,cb,eH,oP]at h;rcases h with rfl|rfl|rfl<;>rfl)
theorem Hr{w:World}{A:Option Addr}{n c:Nat}{l:List Lp}(h:bW w A 3 (l.map Lp.row))(hlen:l.length=n)(hn:n<=1000000):
  Pure Tryz.prog 89 #[.slice A n c] w fun v w'=>∃A' c',v= .slice A' n c'/\ay w' w.heap.size 155 A' n c' 3 (l.map Lp.row):=
 F.fG.vc (fW (R:=fun v w'=>∃A' c',v= .slice A' n c'/\ay w' w.heap.size 155 A' n c' 3 (l.map Lp.row)) Mq h (by simpa using hlen) (Hq l).1 (Hq l).2 om fun A' c' w' o=>⟨A',c',rfl,o⟩)
theorem Mr:El Tryz.prog 54 106 4 48:=El.of kF
theorem Hs(l:List Si):(∀r∈l.map Si.row,r.length=4)/\∀r∈l.map Si.row,∀u∈r,bk u=true:=fH (fun _=>rfl) (fun x u h=>by simp only[Si.row,cb,eH,oP]at h;rcases h with rfl|rfl|rfl|rfl<;>rfl)
theorem Wr{w:World}{A:Option Addr}{n c:Nat}{l:List Si}(h:bW w A 4 (l.map Si.row))(hlen:l.length=n)(hn:n<=1000000):
  Pure Tryz.prog 90 #[.slice A n c] w fun v w'=>∃A' c',v= .slice A' n c'/\ay w' w.heap.size 106 A' n c' 4 (l.map Si.row):=
 F.eP.vc (fW (R:=fun v w'=>∃A' c',v= .slice A' n c'/\ay w' w.heap.size 106 A' n c' 4 (l.map Si.row)) Mr h (by simpa using hlen) (Hs l).1 (Hs l).2 om fun A' c' w' o=>⟨A',c',rfl,o⟩)
theorem Ms:El Tryz.prog 55 68 4 48:=El.of kF
theorem Ht(l:List Ap):(∀r∈l.map Ap.row,r.length=4)/\∀r∈l.map Ap.row,∀u∈r,bk u=true:=fH (fun _=>rfl) (fun x u h=>by simp only[Ap.row,cb,eH,oP]at h;rcases h with rfl|rfl|rfl|rfl<;>rfl)
theorem Ws{w:World}{A:Option Addr}{n c:Nat}{l:List Ap}(h:bW w A 4 (l.map Ap.row))(hlen:l.length=n)(hn:n<=1000000):
  Pure Tryz.prog 91 #[.slice A n c] w fun v w'=>∃A' c',v= .slice A' n c'/\ay w' w.heap.size 68 A' n c' 4 (l.map Ap.row):=
 F.dQ.vc (fW (R:=fun v w'=>∃A' c',v= .slice A' n c'/\ay w' w.heap.size 68 A' n c' 4 (l.map Ap.row)) Ms h (by simpa using hlen) (Ht l).1 (Ht l).2 om fun A' c' w' o=>⟨A',c',rfl,o⟩)
theorem Mt:El Tryz.prog 51 153 4 40:=El.of kF
theorem Hu(l:List Va):(∀r∈l.map Va.row,r.length=4)/\∀r∈l.map Va.row,∀u∈r,bk u=true:=fH (fun _=>rfl) (fun x u h=>by simp only[Va.row,cb,eH,oP]at h;rcases h with rfl|rfl|rfl|rfl<;>rfl)
theorem Wt{w:World}{A:Option Addr}{n c:Nat}{l:List Va}(h:bW w A 4 (l.map Va.row))(hlen:l.length=n)(hn:n<=1000000):
  Pure Tryz.prog 87 #[.slice A n c] w fun v w'=>∃A' c',v= .slice A' n c'/\ay w' w.heap.size 153 A' n c' 4 (l.map Va.row):=
 F.dJ.vc (fW (R:=fun v w'=>∃A' c',v= .slice A' n c'/\ay w' w.heap.size 153 A' n c' 4 (l.map Va.row)) Mt h (by simpa using hlen) (Hu l).1 (Hu l).2 om fun A' c' w' o=>⟨A',c',rfl,o⟩)
theorem Mu:El Tryz.prog 50 102 7 104:=El.of kF
theorem Hv(l:List Ch):(∀r∈l.map Ch.row,r.length=7)/\∀r∈l.map Ch.row,∀u∈r,bk u=true:=fH (fun _=>rfl) (fun x u h=>by simp only[Ch.row,cb,eH,oP]at h;rcases h with rfl|rfl|rfl|rfl|rfl|rfl|rfl<;>rfl)
theorem Wu{w:World}{A:Option Addr}{n c:Nat}{l:List Ch}(h:bW w A 7 (l.map Ch.row))(hlen:l.length=n)(hn:n<=1000000):
  Pure Tryz.prog 86 #[.slice A n c] w fun v w'=>∃A' c',v= .slice A' n c'/\ay w' w.heap.size 102 A' n c' 7 (l.map Ch.row):=
 F.eu.vc (fW (R:=fun v w'=>∃A' c',v= .slice A' n c'/\ay w' w.heap.size 102 A' n c' 7 (l.map Ch.row)) Mu h (by simpa using hlen) (Hv l).1 (Hv l).2 om fun A' c' w' o=>⟨A',c',rfl,o⟩)

theorem Dz{α β:Type}{f:α->List β}{k:Nat}:∀{l:List α},(∀x∈l,(f x).length<=k)->(l.flatMap f).length<=l.length*k:=by
 intro l;induction l with
 |nil=>intro _;simp
 |cons x r ih=>
  intro h;rw[xJ,dp,ew,qh,Nat.one_mul];have:=h x sm;have:=ih fun y hy=>h y (by simp[hy])
  omega
theorem fc.len{ps:List Pa}{hs:List Ho}{l:List Sw}(h:fc ps hs l):l.length<=36:=by
 have e:=LW h (f:=fA ps hs l) fun _ _ _ _=>rfl
 rw[<-e];unfold py;have h1:∀k∈List.range hs.length,((List.range ps.length).flatMap fun i=>BH (fA ps hs l) ps hs k i).length<=ps.length:=fun k _=>by
  have:=Dz (f:=fun i=>BH (fA ps hs l) ps hs k i) (k:=1) (l:=List.range ps.length) fun i _=>by
   unfold BH;split
   ·split<;>simp
   ·simp
  simpa using this
 have b:=Dz h1;rw[List.length_range]at b;have:=oi h.c.lh h.c.lp;omega

def Wv(r:Except Int (List Sw)):List Sw×Int:=match r with| .error e=>([],e)| .ok l=>(l,0)
theorem Jq.get{r:Except Int (List Sw)}{B:Nat}{y:Value}{w:World}(h:Jq r B y w):∃A m c,y= .tuple #[.slice A m c,.int .i64 (Wv r).2]/\bW w A 3 ((Wv r).1.map Sw.row)/\(Wv r).1.length=m/\m<=c:=by
 cases r with
 |error e=>exact⟨none,0,0,h,.inl rfl,rfl,ga _⟩
 |ok l=>
  obtain⟨A,m,c,rfl,ho⟩:=h;exact⟨A,m,c,rfl,ho.sl,by simpa[Wv]using ho.len,ho.jZ⟩
section
variable {w:World} {A0 A1 A A2:Option Addr} {n0 c0 n1 c1 n c n2 c2:Nat} {ps:List Pa} {hs:List Ho} {l:List Sw} {a:List Int}
theorem Ww{t:Sw}{e:Int}(h:Dk ps hs l t= .error e):e≠0:=by
 unfold Dk at h;split at h
 ·cases h;decide
 ·split at h
  ·rename_i i k b g;split at h
   ·cases h;decide
   ·split at h
    ·cases h;decide
    ·obtain⟨p,d,_⟩:=gY b;rw[d]at h;simp only at h;split at h
     ·cases h;decide
     ·cases h
  ·cases h;decide
theorem SZ{e:Int}(h:sS ps hs a= .error e):e≠0:=by
 unfold sS at h;split at h
 ·cases h;decide
 ·split at h
  ·cases h;decide
  ·split at h
   ·cases h;decide
   ·split at h
    ·cases h;decide
    ·cases h
end

def Mv(s i:Nat):Nat:=s|||2^i
theorem NM{s i n:Nat}(hs:s<2^n)(hi:i<n):Mv s i<2^n:=Nat.or_lt_two_pow hs (Nat.pow_lt_pow_right dc hi)
inductive Rch (al:Nat->Bool) (n:Nat):Nat->Prop
 |zero:Rch al n 0
 |step {s i:Nat}:Rch al n s->i<n->s.testBit i=false->al (Mv s i)=true->Rch al n (Mv s i)
theorem Rch.lt{al:Nat->Bool}{n s:Nat}(h:Rch al n s):s<2^n:=by
 induction h with
 |zero=>exact Nat.two_pow_pos n
 |step _ hi _ _ ih=>exact NM ih hi

theorem Wx{α:Type}[DecidableEq α]:∀{l o:List α},l.Nodup->(∀x∈l,x∈o)->o.length<=l.length->o.Perm l:=by
 intro l;induction l with
 |nil=>
  intro o _ _ h;have:o=[]:=Dv.1 (by simpa using h);subst this;exact List.Perm.refl _
 |cons a r ih=>
  intro o hn hm hl;obtain⟨h1,b⟩:=KJ.1 hn;have ha:a∈o:=hm a sm;refine(List.perm_cons_erase ha).trans (List.Perm.cons a (ih b (fun x hx=> ?_) ?_))
  ·rw[List.mem_erase_of_ne (fun e=>h1 (by rw[<-e];exact hx))];exact hm x (by simp[hx])
  ·rw[List.length_erase_of_mem ha];simp at hl;omega
def DA(al:Nat->Bool):Nat->Nat->List Int->Int×Int
 |_,_,[]=>(-1,0)
 |s,k,x::r=>if al (Mv s x.toNat)then DA al (Mv s x.toNat) (k+1) r else((k:Int),15)
def Ta(al:Nat->Bool)(n:Nat)(o:List Int):Int×Int:=
 if ¬(o.length=n/\∀i∈List.range n,((i:Nat):Int)∈o)then(-1,10)else DA al 0 0 o
theorem Mw{n:Nat}{o:List Int}(h:o.length=n/\∀i∈List.range n,((i:Nat):Int)∈o):o.Perm ((List.range n).map fun(i:Nat)=>(i:Int)):=by
 refine Wx ?_ (fun x hx=> ?_) (by simp;omega)
 ·exact List.pairwise_map.2 (List.nodup_range.imp fun h=>by omega)
 ·obtain⟨i,hi,rfl⟩:=iu.1 hx;exact h.2 i hi

structure Ru where
 name:ByteArray
 kind:Int
 ph:List ByteArray
 low:ByteArray
 high:ByteArray
 a:Int
 b:Int
def eV(s:ByteArray):Bool:=decide (s.size=0)||vR s
def rG(ps:List Pa)(hs:List Ho)(pre:List Ru)(r:Ru):Int:=
 if ¬(r.ph.all vR=true/\eV r.low=true/\eV r.high=true)then 1
 else if ¬(1<=r.name.size/\r.name.size<=64)then 4
 else if(pre.any fun x=>decide (x.name=r.name))=true then 6
 else if r.kind<1∨4<r.kind then 2
 else if r.kind=1 then
  if r.ph.length≠hs.length∨r.a≠0∨r.b≠0 then 10
  else if(r.low.size=0/\r.high.size=0)∨(r.low.size≠0/\r.high.size≠0/\qR r.high<qR r.low)then 2 else 0
 else if r.ph.length≠0∨r.low.size≠0∨r.high.size≠0 then 10
 else if r.kind=2 then(if ¬(r.a<r.b/\(1<=r.a/\r.a<=9)/\(1<=r.b/\r.b<=9))then 2 else 0)
 else if r.kind=3 then(if ¬(1<=r.a/\r.a<=9)then 2 else if wT hs r.b=none then 7 else 0)
 else if r.b≠0 then 2 else if rC ps r.a=none then 7 else 0
def Wy(ps:List Pa)(hs:List Ho):Nat->List Ru->List Ru->Int×Int
 |_,_,[]=>(-1,0)
 |i,pre,r::t=>if rG ps hs pre r≠0 then((i:Int),rG ps hs pre r)else Wy ps hs (i+1) (pre++[r]) t
def nQ(ps:List Pa)(hs:List Ho)(rs:List Ru):Int×Int:=
 if fB ps hs≠0 then(-1,fB ps hs)else if 16<rs.length then(-1,8)else Wy ps hs 0 [] rs
structure Hw (ps:List Pa) (hs:List Ho) (r:Ru):Prop where
 ph:r.ph.all vR=true
 low:eV r.low=true
 high:eV r.high=true
 kind:1<=r.kind/\r.kind<=4
 sum:r.kind=1->r.ph.length=hs.length
 two:r.kind=2->r.a<r.b
 three:r.kind=3->∃k,wT hs r.b=some k
 four:r.kind=4->∃i,rC ps r.a=some i
theorem DB{ps:List Pa}{hs:List Ho}{pre:List Ru}{r:Ru}(h:rG ps hs pre r=0):Hw ps hs r:=by
 unfold rG at h;split at h
 ·simp at h
 ·rename_i h1;have h1:=dT.1 h1;split at h
  ·simp at h
  ·split at h
   ·simp at h
   ·split at h
    ·simp at h
    ·rename_i m;split at h
     ·rename_i g;split at h
      ·simp at h
      ·rename_i i;exact⟨h1.1,h1.2.1,h1.2.2,om,fun _=>bB fun k=>i (.inl k),fun k=>by omega,fun k=>by omega,fun k=>by omega⟩
     ·rename_i g;split at h
      ·simp at h
      ·split at h
       ·rename_i j;split at h
        ·simp at h
        ·rename_i c;exact⟨h1.1,h1.2.1,h1.2.2,om,fun k=>by omega,fun _=>(dT.1 c).1,fun k=>by omega,fun k=>by omega⟩
       ·rename_i j;split at h
        ·rename_i c;split at h
         ·simp at h
         ·split at h
          ·simp at h
          ·rename_i d;refine⟨h1.1,h1.2.1,h1.2.2,om,fun k=>by omega,fun k=>by omega,fun _=> ?_,fun k=>by omega⟩;cases e:wT hs r.b with
           |none=>exact absurd e d
           |some k=>exact⟨k,rfl⟩
        ·rename_i c;split at h
         ·simp at h
         ·split at h
          ·simp at h
          ·rename_i d;refine⟨h1.1,h1.2.1,h1.2.2,om,fun k=>by omega,fun k=>by omega,fun k=>by omega,fun _=> ?_⟩;cases e:rC ps r.a with
           |none=>exact absurd e d
           |some k=>exact⟨k,rfl⟩
theorem Tb{ps:List Pa}{hs:List Ho}:∀(rs:List Ru)(i:Nat)(pre:List Ru),(Wy ps hs i pre rs).2=0->∀r∈rs,Hw ps hs r:=by
 intro rs;induction rs with
 |nil=>intro _ _ _ r a;cases a
 |cons x t ih=>
  intro i pre h r a;rw[Wy]at h;split at h
  ·rename_i k;exact absurd h k
  ·rename_i k;rcases cb.1 a with rfl|a
   ·exact DB (dT.1 k)
   ·exact ih _ _ h r a
theorem mm{ps:List Pa}{hs:List Ho}{rs:List Ru}(h:(nQ ps hs rs).2=0):fB ps hs=0/\rs.length<=16/\∀r∈rs,Hw ps hs r:=by
 unfold nQ at h;split at h
 ·rename_i k;exact absurd h k
 ·rename_i k;split at h
  ·simp at h
  ·exact⟨dT.1 k,om,Tb _ _ _ h⟩

def xX(ps:List Pa)(id:Int):Int:=match (rC ps id).bind fun i=>ps[i]? with|some p=>p.cls|none=>0
def NN(ps:List Pa)(hs:List Ho)(r:Ru)(l:List Sw):Rat:=((hs.zip r.ph).map fun x=>qR x.2*eW (tP ps Pa.iQ) (Ii l x.1.id)).sum
def oL(r:Ru)(s:Rat):Rat:=
 if r.high.size≠0/\qR r.high<s then s - qR r.high else if r.low.size≠0/\s<qR r.low then s - qR r.low else 0
def vD(ps:List Pa)(l:List Sw)(hold cls:Int):Bool:=l.any fun s=>decide (s.hold=hold)&&decide (xX ps s.au=cls)
def jh(ps:List Pa)(hs:List Ho)(l:List Sw)(r:Ru):Bool:=
 if r.kind=1 then decide (oL r (NN ps hs r l)≠0)
 else if r.kind=2 then hs.any fun h=>vD ps l h.id r.a&&vD ps l h.id r.b
 else if r.kind=3 then vD ps l r.b r.a
 else match (rC ps r.a).bind fun i=>ps[i]? with|some p=>decide (cZ l r.a<p.aU)|none=>false
def Ae(ps:List Pa)(hs:List Ho)(rs:List Ru)(l:List Sw):Bool:=decide ((nQ ps hs rs).2=0)&&decide (iy ps hs l=0)
def lQ(ps:List Pa)(hs:List Ho)(rs:List Ru)(l:List Sw):Bool:=
 Ae ps hs rs l&& !(rs.any (jh ps hs l))&&decide (hs.findIdx? (AW ps hs l)=none)
theorem Jz{ps:List Pa}{hs:List Ho}{l:List Sw}(i:∀s∈l,∃h∈hs,h.id=s.hold)(a b:Int):
  (l.any fun x=>l.any fun y=>decide (x.hold=y.hold)&&(decide (xX ps x.au=a)&&decide (xX ps y.au=b)))=hs.any fun h=>vD ps l h.id a&&vD ps l h.id b:=by
 rw[ya];simp only[vD,uv,de,kl];constructor
 ·rintro⟨x,hx,y,hy,e,c,d⟩;obtain⟨h,j,g⟩:=i x hx;exact⟨h,j,⟨x,hx,g.symm,c⟩,y,hy,by rw[<-e,g],d⟩
 ·rintro⟨h,_,⟨x,hx,ex,c⟩,y,hy,k,d⟩;exact⟨x,hx,y,hy,ex.trans k.symm,c,d⟩

def lR(ps:List Pa)(hs:List Ho)(w:Sw):Option Nat:=match rC ps w.au,wT hs w.hold with|some i,some k=>some (i*hs.length+k)|_,_=>none
def qD(ps:List Pa)(hs:List Ho)(set:Nat):Nat->List Int->List Sw->List Int
 |_,a,[]=>a
 |n,a,w::r=>qD ps hs set (n+1) (if set.testBit n then(match lR ps hs w with|some j=>a.set j (a.getD j 0+w.aU)|none=>a)else a) r
def rH(ps:List Pa)(hs:List Ho)(l:List Sw)(aV:List Sw)(set:Nat):Option (List Sw):=(sS ps hs (qD ps hs set 0 (dP ps hs l) aV)).toOption
def ki(ps:List Pa)(hs:List Ho)(rs:List Ru)(l:List Sw)(aV:List Sw)(set:Nat):Bool:=match rH ps hs l aV set with|some m=>lQ ps hs rs m|none=>false
def mo(ps:List Pa)(hs:List Ho)(rs:List Ru)(l:List Sw)(aV:List Sw):Int:=
 if(nQ ps hs rs).2≠0 then 1 else if lQ ps hs rs l=false then 11 else if 6<aV.length then 8
 else if(aV.any fun w=>decide (lR ps hs w=none))=true then 7 else if(aV.any fun w=>decide (w.aU=0∨w.aU< -9∨9<w.aU))=true then 2 else 0
section
variable (ps:List Pa) (hs:List Ho) (rs:List Ru) (l aV:List Sw)
def pS(o:List Int):Int×Int:=
 if mo ps hs rs l aV≠0 then(-1,mo ps hs rs l aV)else Ta (ki ps hs rs l aV) aV.length o
end
open Go Go.RowKit Go.Proofs Go.Proofs.YtmdphpnaipbfjaaGreatDoor.Vc Go.Maps

structure YR (t tk te:Nat):Prop where
 t:Tryz.prog.underlying t=some (.map tk te)
 k:Tryz.prog.underlying tk=some (.int .i64)
 e:Tryz.prog.underlying te=some .bool
 z:∀w,(zeroValue te).run Tryz.prog w= .ok (.bool false) w
def kN(f:Int->Option Bool):Nat:=(List.range 128).countP fun z:Nat=>(f (z:Int)).isSome
theorem aeX(f:Int->Option Bool):kN f<=128:=ec TQ sm
abbrev DC(f:Int->Option Bool)(z:Int)(x:Bool):Int->Option Bool:=fun y=>if y=z then some x else f y
theorem abb{f:Int->Option Bool}{z:Int}(c:0<=z)(h1:z<128)(x:Bool):kN f+(if(f z).isSome then 0 else 1)=kN (DC f z x):=by
 have key:∀l:List Nat,l.Nodup->(l.countP fun y:Nat=>(f (y:Int)).isSome)+(if z.toNat∈l/\(f z).isSome=false then 1 else 0)=l.countP fun y:Nat=>(DC f z x (y:Int)).isSome:=by
  intro l;induction l with
  |nil=>intro _;simp
  |cons a r ih=>
   intro hn;obtain⟨n1,n2⟩:=KJ.1 hn;have ih:=ih n2;rw[YF,YF];by_cases e:(a:Int)=z
   ·have ea:z.toNat=a:=om;rw[aq (fun k=>n1 (ea▸k.1))]at ih;subst e;simp only[DC,↓reduceIte,Option.isSome_some,cd,cb,true_or,true_and]at ih⊢;rw[<-ih];cases f (a:Int)<;>simp
   ·have ea:z.toNat≠a:=om;simp only[DC,aq e,cb,ea,false_or]at ih⊢;omega
 have:=key (List.range 128) List.nodup_range;rw[<-show _=kN (DC f z x)from this];unfold kN;have hm:z.toNat∈List.range 128:=JK.2 om;cases hf:(f z).isSome<;>simp[hm]
def uP(w:World)(B tk te b:Nat)(f:Int->Option Bool):Prop:=
 B<=b/\∃D:DataW Unit,w.ownsMap Tryz.prog tk (plainElem Tryz.prog te) b (Maps.size D) D/\Maps.size D<=kN f/\∀z,has D (.int .i64 z)=(f z).isSome/\D.atKey (.int .i64 z) (.lit (.bool false))= .lit (.bool ((f z).getD false))
section
variable {w:World} {B t tk te b:Nat} {f:Int->Option Bool}
theorem Cc(T:YR t tk te){z:Int}(hz:(Lit.int .i64 z).wf=true):keyOf Tryz.prog tk (.int .i64 z)=some (.int .i64 z):=by simp[keyOf,mapKey,T.k,hz]
theorem uP.made(w:World)(tk te:Nat){B:Nat}(hB:B<=w.heap.size):uP (w.alloc (.map #[] 0)) B tk te w.heap.size fun _=>none:=
 ⟨hB,.map [],World.ownsMap_made w _ _ _,Xl _,fun _=>⟨rfl,rfl⟩⟩
theorem uP.lt(h:uP w B tk te b f):b<w.heap.size:=by obtain⟨_,D,h,_⟩:=h;exact h.lt
theorem uP.le{a:Nat}(h:uP w B tk te b f)(hB:a<=B):uP w a tk te b f:=⟨ec hB h.1,h.2⟩
theorem uP.same{w':World}(h:uP w B tk te b f)(hb:w'.heap[b]? =w.heap[b]?):uP w' B tk te b f:=by
 obtain⟨h1,D,a,c⟩:=h;refine⟨h1,D,?_,c⟩;obtain⟨es,clock,d,F,e,g⟩:=a;exact⟨es,clock,hb.trans d,F,e,g⟩
theorem uP.below{w':World}(h:uP w B tk te b f)(hb:Below w.heap.size w w'):uP w' B tk te b f:=h.same (hb.block b h.lt)
theorem uP.isMap(h:uP w B tk te b f):∃es clock,w.heap[b]? =some (.map es clock):=by
 obtain⟨h1,D,⟨es,clock,a,_⟩,c⟩:=h;exact⟨es,clock,a⟩
theorem uP.ext{B0:Nat}{ts:List Nat}{w':World}(h:uP w B tk te b f)(x:Ext B0 ts w w'):uP w' B tk te b f:=by
 refine h.same ?_;obtain⟨es,clock,a⟩:=h.isMap;rcases x.other b h.lt with q|⟨_,_,c,c',fr,q,_⟩
 ·exact q
 ·rw[a]at q;cases q
theorem vE(T:YR t tk te){v:Value}{z:DataW Unit×List MemPlace}(h:plainElem Tryz.prog te v=some z):∃x,v= .bool x/\z=(.lit (.bool x),[]):=by
 unfold plainElem at h;rw[T.e]at h;cases v<;>simp at h;rename_i x;exact⟨x,rfl,h.symm⟩
theorem uP.look(h:uP w B tk te b f)(T:YR t tk te){z:Int}(hz:(Lit.int .i64 z).wf=true):(Instr.lookup t (.map (some b)) (.int .i64 z) false).run Tryz.prog w= .ok (.bool ((f z).getD false)) w:=by
 obtain⟨_,D,a,_,c⟩:=h;obtain⟨v,ps,d,g⟩:=a.lookup (int_keyed T.k) T.t (T.z w) (plainElem_bool T.e false) (Cc T hz);obtain⟨x,rfl,hx⟩:=vE T g;simp only[Prod.mk.injEq]at hx;rw[(c z).2]at hx;cases hx.1;exact d
theorem uP.look_ok(h:uP w B tk te b f)(T:YR t tk te){z:Int}(hz:(Lit.int .i64 z).wf=true):(Instr.lookup t (.map (some b)) (.int .i64 z) true).run Tryz.prog w= .ok (.tuple #[.bool ((f z).getD false),.bool (f z).isSome]) w:=by
 obtain⟨_,D,d,_,a⟩:=h;obtain⟨v,ps,c,g⟩:=d.look_ok (int_keyed T.k) T.t (T.z w) (plainElem_bool T.e false) (Cc T hz);obtain⟨x,rfl,hx⟩:=vE T g;simp only[Prod.mk.injEq]at hx;rw[(a z).2]at hx;cases hx.1;rw[(a z).1]at c;exact c
theorem uP.update(h:uP w B tk te b f)(T:YR t tk te){z:Int}(m:0<=z)(d:z<128)(x:Bool):∃w',(Instr.mapUpdate t (.map (some b)) (.int .i64 z) (.bool x)).run Tryz.prog w= .ok () w'/\uP w' B tk te b (DC f z x)/\w.grownBy w' (some b):=by
 have hz:(Lit.int .i64 z).wf=true:=by simp[Lit.wf,IntKind.min,IntKind.max,IntKind.signed,IntKind.bits];omega
 obtain⟨h1,D,g,hs,i⟩:=h;have K:Keyed Tryz.prog tk:=int_keyed T.k;have n:=aeX f;obtain⟨w',o,a,hg⟩:=g.update K T.t (by unfold maxLen;omega) (Cc T hz) (plainElem_bool T.e x);have hm:=g.isMap;have j:=K.key (Cc T hz);have lz:=size_put (k:= .int .i64 z) (g.tidy K) (.lit (.bool x));refine⟨w',o,⟨h1,D.put (.int .i64 z) (.lit (.bool x)),?_,?_,fun y=> ?_⟩,hg⟩
 ·obtain⟨es,clock,p,F,q,l⟩:=a;exact⟨es,clock,p,F,by rw[l];simp[Maps.size,length_sorted],l⟩
 ·rw[lz,(i z).1,<-abb m d x];split<;>simp_all
 ·show has _ _=(DC f z x y).isSome/\_=DataW.lit (Lit.bool ((DC f z x y).getD false));unfold DC;by_cases e:y=z
  ·subst e;rw[bm rfl,has_put_same hm j,atKey_put_same hm j];exact⟨rfl,rfl⟩
  ·have c:(Lit.int .i64 y)≠ .int .i64 z:=fun k=>by cases k;exact e rfl
   rw[aq e,has_put_other c,atKey_put_other c];exact i y
theorem JA{w':World}(h:uP w B tk te b f)(hg:w.grownBy w' (some b)){k ty:Nat}{cs:Array Value}{fr:Nat×Nat}(a:w.heap[k]? =some (.cells cs ty fr)):w'.heap[k]? =w.heap[k]? :=by
 obtain⟨es,clock,c⟩:=h.isMap;refine hg.block k (ax.1 a).1 fun e=> ?_
 cases e;rw[c]at a;cases a
theorem Tc{z:Int}(a:0<=z)(h1:z<128):(Lit.int .i64 z).wf=true:=by simp[Lit.wf,IntKind.min,IntKind.max,IntKind.signed,IntKind.bits];omega
theorem Hy(h:uP w B tk te b f)(T:YR t tk te){z:Int}(a:0<=z)(h1:z<128){B0:Nat}{tys:List Nat}{K:Bool->Bool->World->Prop}(c:K ((f z).getD false) (f z).isSome w):
  ae Tryz.prog (Instr.lookup t (.map (some b)) (.int .i64 z) true) B0 tys w fun r w1=>∃x y,r= .tuple #[.bool x,.bool y]/\K x y w1:=
 ⟨_,w,h.look_ok T (Tc a h1),Below.refl _ _,ga _,fun _ _ _ _ _=>rfl,_,_,rfl,c⟩
theorem Hz(h:uP w B tk te b f)(T:YR t tk te){z:Int}(e:0<=z)(h1:z<128)(x:Bool){B0:Nat}(a:B0<=B)(c:B0<=w.heap.size){tys:List Nat}{K:World->Prop}
  (g:∀w',uP w' B tk te b (DC f z x)->Below B0 w w'->w.grownBy w' (some b)->K w'):
  eM Tryz.prog (Instr.mapUpdate t (.map (some b)) (.int .i64 z) (.bool x)) B0 tys w K:=by
 obtain⟨w',i,hm,hg⟩:=h.update T e h1 x;have hb:Below B0 w w':=bT hg (fun k d=>by cases d;exact ec a h.1) c;exact⟨w',i,hb,hb.size,fun k ty cs _ d=>JA h hg d,g w' hm hb hg⟩
theorem EK{w:World}{t tk te:Nat}{B:Nat}{tys:List Nat}(hB:B<=w.heap.size){K:Option Nat->World->Prop}
  (a:∀w',uP w' w.heap.size tk te w.heap.size (fun _=>none)->Below w.heap.size w w'->K (some w.heap.size) w'):
  ae Tryz.prog (Instr.makeMap t none) B tys w fun r w1=>∃m:Option Nat,r= .map m/\K m w1:=by
 have hg:=World.grownBy_alloc w (.map #[] 0) none;have hb:Below w.heap.size w (w.alloc (.map #[] 0)):=bT hg sm lf;exact⟨_,_,run_makeMap t w,hb.mono hB,hb.size,fun k ty cs _ c=>hb.block k (ax.1 c).1,_,rfl,a _ (uP.made w tk te lf) hb⟩
end
structure Cl (w w':World):Prop where
 size:w.heap.size<=w'.heap.size
 cells:∀(k:Nat)(cs:Array Value)(ty:Nat)(fr:Nat×Nat),w.heap[k]? =some (Obj.cells cs ty fr)->w'.heap[k]? =some (Obj.cells cs ty fr)
theorem Cl.refl(w:World):Cl w w:=⟨ga _,fun _ _ _ _ h=>h⟩
theorem Cl.trans{w w1 a:World}(h:Cl w w1)(k:Cl w1 a):Cl w a:=⟨ec h.size k.size,fun b cs ty fr e=>k.cells b cs ty fr (h.cells b cs ty fr e)⟩
theorem Cl.low{w w':World}(h:Below w.heap.size w w'):Cl w w':=⟨h.size,fun k cs ty fr e=>(h.block k (ax.1 e).1).trans e⟩
theorem Cl.map{w w':World}{B tk te b:Nat}{f:Int->Option Bool}(h:uP w B tk te b f)(hg:w.grownBy w' (some b)):Cl w w':=⟨hg.size,fun k cs ty fr e=>(JA h hg e).trans e⟩
theorem bW.cl{w w':World}{A:Option Addr}{sz:Nat}{rows:List (List Value)}(h:bW w A sz rows)(c:Cl w w'):bW w' A sz rows:=by
 rcases h with h|⟨b,off,cs,ty,fr,a,d,e⟩
 ·exact .inl h
 ·exact .inr ⟨b,off,cs,ty,fr,a,c.cells _ _ _ _ d,e⟩
theorem ay.cl{w w':World}{B ty:Nat}{A:Option Addr}{n c sz:Nat}{rows:List (List Value)}(h:ay w B ty A n c sz rows)(k:Cl w w'):ay w' B ty A n c sz rows:=by
 refine⟨⟨h.1.1,?_⟩,h.2⟩;rcases h.1.2 with h1|⟨g,cap,cur,h1,a,d,e⟩
 ·exact .inl h1
 ·exact .inr ⟨g,cap,cur,h1,a,k.cells _ _ _ _ d,e⟩

structure Rm where
 r:Ru
 A:Option Addr
 n:Nat
 c:Nat
abbrev Rm.row(x:Rm):List Value:=[.string x.r.name,.int .i64 x.r.kind,.slice x.A x.n x.c,.string x.r.low,.string x.r.high,.int .i64 x.r.a,.int .i64 x.r.b]
abbrev Rm.val(x:Rm):Value:= .agg #[.string x.r.name,.int .i64 x.r.kind,.slice x.A x.n x.c,.string x.r.low,.string x.r.high,.int .i64 x.r.a,.int .i64 x.r.b]
structure Td (r:Ru):Prop where
 ph:∀s∈r.ph,mO s
 low:mO r.low
 high:mO r.high
 name:r.name.size<2147483648
 len:r.ph.length<=9
structure yW (w:World) (x:Rm):Prop where
 f:bW w x.A 1 (x.r.ph.map eD)
 l:x.r.ph.length=x.n
 s:Td x.r
 z:x.A=none->x.c=0
theorem yW.ar{w w':World}{x:Rm}(h:yW w x)(hb:Below w.heap.size w w'):yW w' x:=⟨h.f.ar hb lf,h.l,h.s,h.z⟩
theorem yW.cl{w w':World}{x:Rm}(h:yW w x)(c:Cl w w'):yW w' x:=⟨h.f.cl c,h.l,h.s,h.z⟩
structure pT (w:World) (A0:Option Addr) (n0:Nat) (A1:Option Addr) (n1:Nat) (A2:Option Addr) (n2 c2:Nat) (ps:List Pa) (hs:List Ho) (xs:List Rm):Prop where
 c:hU w A0 n0 A1 n1 ps hs
 r:bW w A2 7 (xs.map Rm.row)
 l:xs.length=n2
 f:∀x∈xs,yW w x
 n:n2<=17
 k:n2<=c2
abbrev dW(xs:List Rm):List Ru:=xs.map Rm.r
section
variable {w w':World} {A0 A1 A2:Option Addr} {n0 n1 n2 c2:Nat} {ps:List Pa} {hs:List Ho} {xs:List Rm}
theorem pT.ar(h:pT w A0 n0 A1 n1 A2 n2 c2 ps hs xs)(hb:Below w.heap.size w w'):pT w' A0 n0 A1 n1 A2 n2 c2 ps hs xs:=
 ⟨h.c.ar hb,h.r.ar hb lf,h.l,fun x hx=>(h.f x hx).ar hb,h.n,h.k⟩
theorem hU.cl(h:hU w A0 n0 A1 n1 ps hs)(c:Cl w w'):hU w' A0 n0 A1 n1 ps hs:=⟨h.p.cl c,h.h.cl c,h.lp,h.lh,h.sp,h.sh,h.np,h.nh⟩
theorem pT.cl(h:pT w A0 n0 A1 n1 A2 n2 c2 ps hs xs)(c:Cl w w'):pT w' A0 n0 A1 n1 A2 n2 c2 ps hs xs:=
 ⟨h.c.cl c,h.r.cl c,h.l,fun x hx=>(h.f x hx).cl c,h.n,h.k⟩
theorem pT.at_(h:pT w A0 n0 A1 n1 A2 n2 c2 ps hs xs){i:Nat}(hi:i<xs.length):
  (0<=(i:Int)/\(i:Int)<n2)/\∃a,A2=some a/\aa w (a.add ((i:Int).toNat*7)) (xs[i].row)/\∀k u,(xs[i].row)[k]? =some u->aa w ((a.add ((i:Int).toNat*7)).add k) [u]:=
 h.r.at_ (fun _=>rfl) h.l hi
end

def xv(a:List Int)(j:Nat)(u:Int):List Int:=a.set j (a.getD j 0+u)
theorem FG(a:List Int)(j:Nat)(u:Int):(xv a j u).length=a.length:=by unfold xv;simp
theorem Pn{a:List Int}{j:Nat}{u:Int}{i:Nat}:(xv a j u)[i]? =if j=i/\i<a.length then some (a.getD i 0+u)else a[i]? :=by
 unfold xv;rw[List.getElem?_set];by_cases e:j=i
 ·subst e;by_cases h:j<a.length
  ·simp[h]
  ·simp[h]
 ·simp[e]
theorem JB(ps:List Pa)(hs:List Ho)(set n:Nat)(a:List Int)(w:Sw)(r:List Sw):qD ps hs set n a (w::r)=qD ps hs set (n+1) (if set.testBit n then(match lR ps hs w with|some j=>xv a j w.aU|none=>a)else a) r:=by
 rw[qD];rfl
end Go.Proofs.YtmdphpnaipbfjaaGreatDoor.B

open Go.Proofs.YtmdphpnaipbfjaaGreatDoor

namespace Go.Proofs.YtmdphpnaipbfjaaGreatDoor.B
open Go Go.RowKit Go.Proofs Go.Proofs.YtmdphpnaipbfjaaGreatDoor.Vc

structure Te (ps:List Pa) (hs:List Ho) (rs:List Ru) (l aV:List Sw):Prop where
 rules:(nQ ps hs rs).2=0
 keeps:lQ ps hs rs l=true
 n:aV.length<=6
 place:∀w∈aV,∃j,lR ps hs w=some j
 u:∀w∈aV,¬(w.aU=0∨w.aU< -9∨9<w.aU)
theorem Wz{ps:List Pa}{hs:List Ho}{rs:List Ru}{l aV:List Sw}(h:mo ps hs rs l aV=0):Te ps hs rs l aV:=by
 unfold mo at h;split at h
 ·simp at h
 ·rename_i h1;split at h
  ·simp at h
  ·rename_i a;split at h
   ·simp at h
   ·rename_i d;split at h
    ·simp at h
    ·rename_i b;split at h
     ·simp at h
     ·rename_i c;refine⟨dT.1 h1,by simpa using a,om,fun w hw=> ?_,fun w hw k=> ?_⟩
      ·cases e:lR ps hs w with
       |some j=>exact⟨j,rfl⟩
       |none=>exact absurd (uv.2 ⟨w,hw,by simpa using e⟩) b
      ·exact c (uv.2 ⟨w,hw,by simpa using k⟩)
theorem AZ{ps:List Pa}{hs:List Ho}{rs:List Ru}{l:List Sw}(h:lQ ps hs rs l=true):fB ps hs=0/\iy ps hs l=0/\fc ps hs l:=by
 unfold lQ Ae at h;simp only[de,kl]at h;exact⟨(mm h.1.1.1).1,h.1.1.2,fN h.1.1.2⟩
theorem JC{ps:List Pa}{hs:List Ho}{l aV c:List Sw}{s:Nat}(h:rH ps hs l aV s=some c):fB ps hs=0/\fc ps hs c/\dP ps hs c=qD ps hs s 0 (dP ps hs l) aV:=by
 unfold rH at h;cases e:sS ps hs (qD ps hs s 0 (dP ps hs l) aV)with
 |error x=>rw[e]at h;cases h
 |ok y=>
  rw[e]at h;cases h;exact VR e

def JD(a b:List Int):Prop:=a.length=b.length/\∀i,a.getD i 0<=b.getD i 0
theorem JD.refl(a:List Int):JD a a:=⟨rfl,fun _=>Xo _⟩
theorem DD(a:List Int)(j:Nat)(u:Int)(i:Nat):(xv a j u).getD i 0=if j=i/\i<a.length then a.getD i 0+u else a.getD i 0:=by
 rw[cz,Pn];split
 ·rfl
 ·rw[cz]
theorem JD.add{a b:List Int}(h:JD a b)(j:Nat)(u:Int):JD (xv a j u) (xv b j u):=by
 refine⟨by rw[FG,FG,h.1],fun i=> ?_⟩;rw[DD,DD,h.1];have:=h.2 i;split<;>omega
theorem Po{A:List Int}:∀{B:List Int},A.Nodup->(∀x∈A,x∈B)->A.length<=B.length:=by
 induction A with
 |nil=>intro B _ _;simp
 |cons x r ih=>
  intro B hn hs;obtain⟨n1,n2⟩:=KJ.1 hn;have hx:=hs x sm;have:=ih (B:=B.erase x) n2 fun y hy=>by
   rw[List.mem_erase_of_ne (fun e=>n1 (by rw[<-e];exact hy))];exact hs y (by simp[hy])
  rw[List.length_erase_of_mem hx]at this;have:=List.length_pos_of_mem hx;simp;omega
theorem WA{ps:List Pa}{hs:List Ho}{l:List Sw}(h:fc ps hs l)(id:Int):(Ii l id).length<=ps.length:=by
 have hn:((Ii l id).map fun s=>s.au).Nodup:=by
  have a:tW (Ii l id):=List.Pairwise.filter _ h.LV;refine List.pairwise_map.2 (List.Pairwise.imp_of_mem ?_ a);intro x y hx hy hb;have hx:=(GR.1 hx).2;have hy:=(GR.1 hy).2;simp at hx hy;unfold fT at hb;omega
 have:=Po hn (B:=ps.map fun p=>p.id) fun x hx=>by
  obtain⟨s,b,rfl⟩:=iu.1 hx;obtain⟨i,_,hi,_⟩:=h.known s (GR.1 b).1;obtain⟨p,e,c⟩:=gY hi;exact iu.2 ⟨p,gr e,c⟩
 simpa using this
theorem JD.drop{a b:List Int}(h:JD a b)(k:Nat):JD (a.drop k) (b.drop k):=by
 refine⟨by rw[wo,wo,h.1],fun i=> ?_⟩;have:=h.2 (k+i);rw[cz,cz]at*;rwa [oj,oj]
theorem JD.take{a b:List Int}(h:JD a b)(k:Nat):JD (a.take k) (b.take k):=by
 refine⟨by rw[ep,ep,h.1],fun i=> ?_⟩;have:=h.2 i;rw[cz,cz]at*;rw[k7,k7];by_cases c:i<k
 ·rwa [bm c,bm c]
 ·rw[aq c,aq c];exact Xo _
theorem JD.sum:∀{a b:List Int},JD a b->a.sum<=b.sum:=by
 intro a;induction a with
 |nil=>
  intro b h;have:b=[]:=Dv.1 h.1.symm;subst this;exact Xo _
 |cons x r ih=>
  intro b h;cases b with
  |nil=>exact absurd h.1 sm
  |cons y t=>
   rw[BC,BC];have c:=h.2 0;have d:JD r t:=⟨by have:=h.1;simpa using this,fun i=>by have:=h.2 (i+1);simpa using this⟩;have:=ih d;simp at c;omega
theorem JD.row{a b:List Int}(h:JD a b)(n i:Nat):JD (uI a n i) (uI b n i):=by
 unfold uI;exact(h.drop _).take _
end Go.Proofs.YtmdphpnaipbfjaaGreatDoor.B
