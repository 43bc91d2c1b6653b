/- Part 6 of the proofs that: SequenceStates, SequenceOrders and SequenceChecks hold for every input: the program's functions return what the reference functions return -/
import Derived.Test.YtgfkeadgjkfomaaGreatDoorS5
import Derived.Lib.AppendZerosOnto
import Derived.Lib.Overlaps
import Derived.Shelf.Spec.SlicesInsertGrow
import Derived.Test.YtgfkeadgjkfomaaGreatDoorProg
set_option linter.unusedVariables false
set_option linter.unusedSimpArgs false
namespace Go.Proofs.YtgfkeadgjkfomaaGreatDoor.B
open Go Go.RowKit Go.Proofs Go.Proofs.YtgfkeadgjkfomaaGreatDoor.Vc

theorem ft:El Tryz.prog 48 3 1 8:=El.of kF
theorem zY:El Tryz.prog 29 39 3 24:=El.of kF

theorem Eb{x y:Int}:eW x y<0↔x<y:=by unfold eW;split<;>(try split)<;>omega
theorem PI{x y:Int}:eW x y=0↔x=y:=by unfold eW;split<;>(try split)<;>omega
theorem SI{w0:World}{A:Option Addr}{n c:Nat}{l:List Int}(h:cK w0 A 1 (l.map fun x=>[.int .i64 x]))(hl:l.length=n)(hn:n<2147483648):
  Pure Tryz.prog 91 #[.slice A n c] w0 fun v _=>v= .int .i64 ((l.find? fun x=>decide (x≠0)).getD 0):=by
 have key:∀(d i:Nat)(w:World),n - i=d->i<=n->Below w0.heap.size w0 w->(l.find? fun x=>decide (x≠0))=((l.drop i).find? fun x=>decide (x≠0))->F.eU.L3 0 A n c n i w0.heap.size w fun v _=>v= .int .i64 ((l.find? fun x=>decide (x≠0)).getD 0):=by
  intro d;induction d with
  |zero=>
   intro i w g hi hw b;rw[dp om]at b;exact F.eU.L3.step ⟨fun h=>by omega,fun _=>by rw[b];rfl⟩
  |succ d ih=>
   intro i w g hi hw b;have e:i<l.length:=om;rw[ec e,List.find?_cons]at b;obtain⟨hb,a,j,k,_⟩:=(h.aj hw lf).at_ (fun _=>rfl) hl e;refine F.eU.L3.step ⟨fun _=>⟨hb,a,j,_,k,fun h=> ?_,fun h=>⟨ir,?_⟩⟩,fun h=>by omega⟩
   ·rw[fc h]at b;rw[b];rfl
   ·rw[eh h]at b;have m:=sc i;rw[m];exact ih (i+1) w om om hw b
 exact F.eU.vc (key n 0 w0 rfl om (Below.refl _ _) sm)
def PJ(a b:Sw):Int:=if eW a.hold b.hold≠0 then eW a.hold b.hold else eW a.aG b.aG
theorem PK{a b:Sw}:PJ a b<0↔mN a b:=by
 unfold PJ mN;have h1:=Eb (x:=a.hold) (y:=b.hold);have h2:=PI (x:=a.hold) (y:=b.hold);have h3:=Eb (x:=a.aG) (y:=b.aG);split<;>omega
theorem nG(a b:Sw)(w:World):Pure Tryz.prog 65 #[a.val,b.val] w fun v _=>v= .int .i64 (PJ a b):=by
 refine F.nG.vc fun w1 c=>pm (yD _ _ _) ?_
 have h1:=k0 c;rintro v g d rfl;have h2:=kP h1 d;refine⟨_,rfl,pm (yD _ _ _) ?_⟩;rintro v i e rfl;have h3:=kP h2 e;refine⟨_,rfl,dx ft [.int .i64 (eW a.hold b.hold),.int .i64 (eW a.aG b.aG)] (by simp[Value.cells]) sm h3.size fun A2 c2 j ho m=> ?_⟩;refine pm (SI (l:=[eW a.hold b.hold,eW a.aG b.aG]) ho.sl rfl sm) ?_;rintro v n _ rfl;refine⟨_,rfl,?_⟩;refine dB _ ?_;unfold PJ;by_cases h:eW a.hold b.hold=0
 ·rw[ar (fun k=>k h)];by_cases h2:eW a.aG b.aG=0
  ·simp[h,h2]
  ·simp[h,h2]
 ·rw[cc h];simp[h]

theorem lB(l:List Sw)(s:Sw)(p:Int):cG (l++[s]) p=cG l p+(if s.aG=p then s.aO else 0):=by rw[fw,mO]
def ZZ(l:List Sw)(p:Int):Prop:=∀k, -1000000<=cG (l.take k) p/\cG (l.take k) p<=1000000
theorem dQ{w0:World}{A:Option Addr}{n c:Nat}{l:List Sw}(h:cK w0 A 3 (l.map Sw.row))(hl:l.length=n)(hn:n<2147483648){p:Int}(hs:ZZ l p):
  Pure Tryz.prog 66 #[.slice A n c,.int .i64 p] w0 fun v _=>v= .int .i64 (cG l p):=by
 have key:∀(d i:Nat)(w:World),n - i=d->i<=n->Below w0.heap.size w0 w->F.dQ.L3 p (cG (l.take i) p) A n c n i w0.heap.size w fun v _=>v= .int .i64 (cG l p):=by
  intro d;induction d with
  |zero=>
   intro i w m hi hw;exact F.dQ.L3.step ⟨fun h=>by omega,fun _=>by rw[bx om]⟩
  |succ d ih=>
   intro i w m hi hw;have j:i<l.length:=om;have k:=sc i;have b:l.take (i+1)=l.take i++[l[i]]:=by rw[eN,af j];rfl
   have hu:=lB (l.take i) l[i] p;have h2:=hs (i+1);rw[b]at h2;obtain⟨hb,a,o,q,_⟩:=(h.aj hw lf).at_ (fun _=>rfl) hl j;refine F.dQ.L3.step ⟨fun _=>⟨hb,a,o,_,_,_,q,fun h=> ?_,fun h=> ?_⟩,fun h=>by omega⟩
   ·rw[cc h]at hu;refine⟨ir,ir,fun e g=> ?_⟩;rw[<-hu,<-b,k];exact ih (i+1) e om om (kE hw g)
   ·rw[ar h,Pl]at hu;refine⟨ir,fun e g=> ?_⟩;rw[<-hu,<-b,k];exact ih (i+1) e om om (kE hw g)
 exact F.dQ.vc (key n 0 w0 rfl om (Below.refl _ _))

theorem oC{l:List Sw}(h:∀s∈l,1<=s.aO)(p:Int)(k:Nat):0<=cG (l.take k) p/\cG (l.take k) p<=cG l p:=by
 refine⟨gl (fun s hs=>h s (mr hs)) p,?_⟩;exact FT h (ly k l).symm p
theorem ek.smu{ps:List Pa}{hs:List Ho}{l:List Sw}(h:ek ps hs l)(p:Int):ZZ l p:=by
 intro k;obtain⟨h1,h2⟩:=oC h.pos p k;by_cases hp:∃q∈ps,q.id=p
 ·obtain⟨q,a,rfl⟩:=hp;have:=h.full q a;have:=(h.c.p1 q a).2.1.2;omega
 ·have:cG l p=0:=by
   have gen:∀l:List Sw,(∀s∈l,s.aG≠p)->cG l p=0:=by
    intro l;induction l with
    |nil=>intro _;rfl
    |cons s r ih=>
     intro b;rw[show s::r=[s]++r from rfl,fw,mO,ar (b s sm),ih fun x hx=>b x (by simp[hx])];rfl
   refine gen l fun s hs e=>hp ?_
   obtain⟨i,_,hi,_⟩:=h.known s hs;obtain⟨q,a,d⟩:=gG hi;exact⟨q,hJ a,d.trans e⟩
  omega
theorem pD{ps:List Pa}{hs:List Ho}:∀{a b pre:List Sw},jc ps hs pre (a++b)=if jc ps hs pre a≠0 then jc ps hs pre a else jc ps hs (pre++a) b:=by
 intro a;induction a with
 |nil=>intro b pre;simp[jc]
 |cons s r ih=>
  intro b pre;rw[xm,jc,jc];by_cases h:ko ps hs pre s≠0
  ·rw[cc h,cc h,cc h]
  ·rw[ar h,ar h,ih,qo];rfl
theorem FZ{w0:World}(hg:cT w0){A0 A1 A:Option Addr}{n0 c0 n1 c1 n c:Nat}{ps:List Pa}{hs:List Ho}{l:List Sw}(C:dF w0 A0 n0 A1 n1 ps hs)(h:cK w0 A 3 (l.map Sw.row))(hl:l.length=n)(ph:n<=c)(hn:n<2147483648)(OA:eI ps hs=0){R:Value->World->Prop}(Q:∀w,R (.int .i64 (jc ps hs [] l)) w):
  ∀(d i:Nat)(w:World),n - i=d->i<=n->Below w0.heap.size w0 w->jc ps hs [] (l.take i)=0->F.cS.L4 A n c A n c n i A0 n0 c0 A1 n1 c1 w0.heap.size w R:=by
 have D:=jt OA;intro d;induction d with
 |zero=>
  intro i w hd hi hw r;have:i=n:=om;subst this;rw[bx om]at r;refine F.cS.L4.step ⟨fun h=>by omega,fun _=> ?_⟩;have:=Q w;rwa [r]at this
 |succ d ih=>
  intro i w hd hi hw r;have I:i<l.length:=om;have e3:=sc i;have x:l.take (i+1)=l.take i++[l[i]]:=by rw[eN,af I];rfl
  have S:jc ps hs [] l=if ko ps hs (l.take i) l[i]≠0 then ko ps hs (l.take i) l[i]else jc ps hs (l.take (i+1)) (l.drop (i+1)):=by
   conv=>lhs;rw[<-ly i l,pD,ar (fun k=>k r),nN,ec I,jc,<-x]
  have J:ek ps hs (l.take i):=by
   have h0:ek ps hs []:=⟨D,sm,sm,List.Pairwise.nil,fun p hp=>by have:=(D.p1 p hp).2.1.1;simp[cG];omega⟩;simpa using sR D (l.take i) [] h0 r
  have bad:∀(e:Int)(w:World),e≠0->ko ps hs (l.take i) l[i]=e->R (.int .i64 e) w:=fun e w h0 he=>by
   rw[he,cc h0]at S;have:=Q w;rwa [S]at this
  obtain⟨hb,a,hA,o,_⟩:=(h.aj hw lf).at_ (fun _=>rfl) hl I;refine F.cS.L4.step ⟨fun _=>⟨hb,a,hA,_,_,_,o,fun w1 x1=> ?_⟩,fun h=>by omega⟩;have T:=kE hw x1;refine pm (gX (C.aj T) l[i].aG) ?_;rintro v w2 b2 rfl;have U:=kP T b2;cases hp:nW ps l[i].aG with
  |none=>
   refine⟨_,rfl,fun _=>bad 7 _ om (by unfold ko;rw[hp]),fun h=>absurd (by simp[nK]) h⟩
  |some k=>
  refine⟨_,rfl,fun h=>by simp[nK]at h;omega,fun _=>pm (jd (C.aj U) l[i].hold) ?_⟩;rintro v w3 b3 rfl;have K:=kP U b3;cases V:pc hs l[i].hold with
  |none=>
   refine⟨_,rfl,fun _=>bad 7 _ om (by unfold ko;rw[hp,V]),fun h=>absurd (by simp[nK]) h⟩
  |some j=>
  obtain⟨p,y,hid⟩:=gG hp;have uL:k<ps.length:=(ew.1 y).1;have Z0:ps[k]=p:=(ew.1 y).2;have s1:ko ps hs (l.take i) l[i]=if l[i].aO<1 then 2 else if ∃q,(l.take i).getLast? =some q/\¬mN q l[i]then 5 else if p.aO<l[i].aO∨p.aO<cG (l.take i++[l[i]]) l[i].aG then 12 else 0:=by
   unfold ko;rw[hp,V];simp only[y]
  refine⟨_,rfl,fun h=>by simp[nK]at h;omega,fun _=>⟨fun h=>bad 2 _ om (by rw[s1,cc h]),fun hu=> ?_⟩⟩;rw[ar hu]at s1;have VM:=(D.p1 p (hJ y)).2.1.2
  -- behind XU order
  have rest:(¬∃q,(l.take i).getLast? =some q/\¬mN q l[i])->∀w,Below w0.heap.size w0 w->∀(i10:Int),i10=nK (some k)->((0<=i10/\i10<n0)/\∃a24,A0=some a24/\(∃(i25:Int),ae w ((a24.add ((i10).toNat*7)).add 1) [(.int .i64 i25)]/\(((l[i].aO>i25)->(∀W,Ext w0.heap.size [] w W->(R (.int .i64 (12:Int)) W)))/\(¬(l[i].aO>i25)->(az .i64 ((i:Int)+(1:Int))/\((0<=((i:Int)+(1:Int))/\((i:Int)+(1:Int))<=(c:Int))/\((0<=i10/\i10<n0)/\∃X,A0=some X/\(∃(i28:Int),ae w ((X.add ((i10).toNat*7)).add 1) [(.int .i64 i28)]/\(∀Y,Ext w0.heap.size [] w Y->(Pure Tryz.prog 66 #[(.slice A (((i:Int)+(1:Int)).toNat) c),(.int .i64 l[i].aG)] Y fun L Z=>∃(i30:Int),L=(.int .i64 i30)/\(((i30>i28)->(R (.int .i64 (12:Int)) Z))/\(¬(i30>i28)->(az .i64 ((i:Int)+(1:Int))/\(F.cS.L4 A n c A n c n ((i:Int)+(1:Int)) A0 n0 c0 A1 n1 c1 w0.heap.size Z R)))))))))))))):=by
   intro ho w hw i10 Z1;rw[ar ho]at s1;subst Z1;obtain⟨g,a2,E,_,EE⟩:=(C.p.aj hw lf).at_ (fun _=>rfl) C.lp uL;have M:=EE 1 _ rfl;rw[Z0]at M;refine⟨g,a2,E,_,M,fun h=>fun z _=>bad 12 _ om (by rw[s1,cc (.inl h)]),fun h4=>⟨ir,om,g,a2,E,_,M,fun z B=> ?_⟩⟩;have G:=kE hw B;have e4:((i:Int)+1).toNat=i+1:=om;rw[e4];have Z3:ZZ (l.take (i+1)) l[i].aG:=by
    intro m;rw[x];by_cases hm:m<=i
    ·rw[Hs (by simp;omega)];exact J.smu l[i].aG m
    ·rw[bx (by simp;omega),lB,cc rfl];have h1:=gl J.pos l[i].aG;have h2:=J.full p (hJ y);rw[hid]at h2;omega
   refine pm (dQ (l:=l.take (i+1)) (by rw[LN];exact(h.aj G lf).take _) (by simp;omega) om Z3) ?_;rintro v N O rfl;have P:=kP G O;refine⟨_,rfl,fun h=>bad 12 _ om (by rw[s1,cc (.inr (by rw[<-x];exact h))]),fun h5=>⟨ir,?_⟩⟩;rw[e3];refine ih (i+1) N om om P ?_;have h0:ko ps hs (l.take i) l[i]=0:=by
    rw[s1,ar];rintro(k|k)
    ·exact h4 k
    ·rw[<-x]at k;exact h5 k
   rw[x,pD,ar (fun k=>k r),nN,jc,h0];rfl
  refine⟨fun h=>⟨ir,?_⟩,fun h=>fun z B=>rest ?_ z (kE K B) _ rfl⟩
  ·obtain⟨g,a2,E,rq,_⟩:=(‹cK w0 A 3 (l.map Sw.row)›.aj K lf).at_ (fun _=>rfl) hl (i:=i - 1) om;have e1:(i:Int) - 1=((i - 1:Nat):Int):=om;have uk:(l.take i).getLast? =some l[i - 1]:=by
    rw[yn,fs,iv om,rP,cc om,af om]
   rw[e1];refine⟨g,a2,E,_,_,_,rq,fun z B=>pm (nG l[i - 1] l[i] z) ?_⟩;have G:=kE K B;rintro v N O rfl;have P:=kP G O;have VN:=PK (a:=l[i - 1]) (b:=l[i]);refine⟨_,rfl,fun h=>bad 5 _ om (by rw[s1,cc ⟨_,uk,fun k=>by have:=VN.2 k;omega⟩]),fun h=>rest ?_ N P _ rfl⟩;rintro⟨q,H,Q4⟩;rw[uk]at H;cases H;exact Q4 (VN.1 om)
  ·rintro⟨q,H,_⟩;have:i=0:=om;subst this;simp at H
theorem cS{w:World}(b:cT w){A0 A1 A:Option Addr}{n0 c0 n1 c1 n c:Nat}{ps:List Pa}{hs:List Ho}{l:List Sw}(d:dF w A0 n0 A1 n1 ps hs)(h:cK w A 3 (l.map Sw.row))(hl:l.length=n)(e:n<=c)(hn:n<2147483648):
  Pure Tryz.prog 61 #[.agg #[.slice A0 n0 c0,.slice A1 n1 c1],.slice A n c] w fun v _=>v= .int .i64 (cZ ps hs l):=by
 refine F.cS.vc fun w1 g=> ?_
 have a:=k0 g;refine pm (aR (b.next a) (d.aj a)) ?_;rintro v i j rfl;have k:=kP a j;refine⟨_,rfl,fun h=> ?_,fun h0=> ?_⟩
 ·unfold cZ;rw[cc h]
 ·have m:=ep.1 h0;exact FZ b d h hl e hn m (fun _=>by unfold cZ;rw[ar h0]) n 0 i rfl om k rfl

theorem Z4{b l c sz:Nat}(h:l<c):kA (some ⟨b,0,none⟩) l c sz=some ⟨b,l*sz,none⟩:=by
 unfold kA;rw[ar om];simp[eX]

theorem bF.short{w:World}{B ty:Nat}{A:Option Addr}{n c sz:Nat}{rows:List (List Value)}(h:bF w B ty A n c sz rows){m:Nat}(hm:m<=n):bF w B ty A m c sz (rows.take m):=by
 have hl:=h.len;obtain⟨⟨h1,h2⟩,h3,h4⟩:=h;have a:∀r∈rows.take m,r.length=sz:=fun r e=>h4 r (mr e)
 have i:(rows.take m).flatten.length=m*sz:=by rw[sO _ a,fs,iv om]
 refine⟨⟨i,?_⟩,by simp;omega,a⟩;rcases h2 with⟨b,d⟩|⟨g,cap,cur,b,d,j,x,k,o,q⟩
 ·cases b;have:m=0:=om;subst this;exact .inl ⟨rfl,rfl⟩
 ·cases b;refine .inr ⟨g,_,cur,rfl,d,j,om,k,o,?_⟩;have hp:(rows.take m).flatten=rows.flatten.take (m*sz):=by
   have:rows.flatten=(rows.take m).flatten++(rows.drop m).flatten:=by rw[<-va,ly]
   conv=>rhs;rw[this]
   rw[Hs om,bx (l:=(rows.take m).flatten) om]
  rw[hp,<-q,AD,iv (fT _ hm)]
theorem H4{z:Value}{n:Nat}(b:∀u∈z.cells.toList,dA u=true):∀u∈(Builtin.zeroCells z.cells n).toList,dA u=true:=by
 intro u hu;unfold Builtin.zeroCells at hu;simp only[Array.toList_map,Array.toList_range,kc,jA]at hu;obtain⟨i,hi,rfl⟩:=hu;by_cases h0:z.cells.size=0
 ·rw[h0]at hi;omega
 ·have a:i % z.cells.size<z.cells.size:=u0 _ om;rw[getElem!_pos z.cells (i % z.cells.size) a];exact b _ sm
theorem F0{t ty e sz bytes:Nat}(el:El Tryz.prog t e sz bytes){z:Value}(q:(Tryz.prog.info? e).bind (·.zero)=some z)(G:∀u∈z.cells.toList,dA u=true){B:Nat}{w:World}{A:Option Addr}{m n c:Nat}{rows:List (List Value)}(h:bF w B e A m c sz rows)(H:m<=n)(V:n<=c){K:World->Prop}
  (C:∀w',bF w' B e A m c sz rows->Below B w w'->(∀k,k<w.heap.size->(∀a,A=some a->k≠a.block)->w'.heap[k]? =w.heap[k]?)->K w'):
  au Tryz.prog (Builtin.clear_ #[t] ty #[.slice (kA A m c sz) (n - m) (c - m)]) B [] w fun r w1=>r= .tuple #[]/\K w1:=by
 have stay:∀(A':Option Addr)(c':Nat),(Builtin.clear_ #[t] ty #[.slice A' 0 c']).run Tryz.prog w= .ok (.tuple #[]) w:=fun A' c'=>by
  cases A'<;>simp[Builtin.clear_,run_underlying el.Ov]
 by_cases h0:n - m=0
 ·rw[h0];exact⟨_,w,stay _ _,Below.refl _ _,hM _,fun _ _ _ _ _=>rfl,rfl,C w h (Below.refl _ _) fun _ _ _=>rfl⟩
 obtain⟨i,d,h2,h3,h4,W,I⟩:=el.info;have J:d=z:=by rw[h2]at q;simp[h3]at q;exact q
 subst J;rcases h.1.2 with⟨x,y⟩|⟨g,cap,cur,x,y,L,M,N,D,O⟩
 ·cases x;omega
 cases x;rw[Z4 om];have l:w.heap[g]? =some (.cells cur.toList.toArray e (0,0)):=by simpa using L
 have X:(Builtin.zeroCells d.cells (n - m)).toList.length=(n - m)*sz:=by rw[uW,size_zeroCells,I]
 have Q:m*sz+(n - m)*sz<=cur.toList.length:=by
  rw[<-mw,uW,D];exact fT _ om
 have E:=run_storeCells_cells (P:=Tryz.prog) g (m*sz) (Builtin.zeroCells d.cells (n - m)).toList 0 w (fun j hj=>by
   simp only[World.cell?,l];have:m*sz+j<cur.toList.length:=om;simp only[uW]at this;simp[this]) (fun j hj=>Lib.frozen_of_heap l _) (fun v hv=>py (H4 G v hv))
 obtain⟨k,F⟩:∃k,n - m=k+1:=⟨n - m - 1,om⟩
 have R:(Builtin.clear_ #[t] ty #[.slice (some ⟨g,m*sz,none⟩) (n - m) (c - m)]).run Tryz.prog w= .ok (.tuple #[]) (w.setCells g (m*sz+0) (Builtin.zeroCells d.cells (n - m)).toList):=by
  rw[F]at E⊢;simp[Builtin.clear_,run_underlying el.Ov,zeroValue,typeInfo,h2,h3,E]
 obtain⟨S,T,Y,Z,k5,k6⟩:=uu g e (Builtin.zeroCells d.cells (n - m)).toList (m*sz+0) w cur.toList l;have b:=zR (o:=m*sz+0) (vs:=(Builtin.zeroCells d.cells (n - m)).toList) l y;refine⟨_,_,R,b,om,fun k ty cs h=>(by cases h),rfl,C _ ⟨⟨h.1.1,.inr ⟨g,c,_,rfl,y,S,M,N,?_,?_⟩⟩,h.2⟩ b fun k F U=>T k (U _ rfl)⟩
 ·simp[wx,D]
 ·rw[<-O];apply AP;intro j;rw[rP,rP];split
  ·show(setCells cur.toList _ _)[j]? =_;rw[DX _ _ _ _ om,ar om]
  ·rfl

theorem uy{P:Program}{t ty e size bytes:Nat}(el:El P t e size bytes){B0 B:Nat}(o:B0<=B){fB:List Nat}{w:World}{v:Value}{n:Nat}{xs:List Value}(b:w.ownsRow B e size v n xs)
  {a:Addr} {m c:Nat} {news:List Value} (hl:news.length=m*size) (q:∀j u,news[j]? =some u->w.cell? (a.add j)=some u) (h1:∀u∈news,dA u=true)
  (hB:B<=w.heap.size) (hn:n+m<9223372036854775808) (k9:(n+m)*bytes<=140737488355328) (x:e∉fB) {K:Option Addr->Nat->Nat->World->Prop}
  (h:∀A c g,g.ownsRow B e size (.slice A (n+m) c) (n+m) (xs++news)->w.grownBy g v.ownBlock->Below B0 w g->K A (n+m) c g):
  au P (Builtin.append_ #[t,t] ty #[v,.slice (some a) m c]) B0 fB w fun r g=>∃A n c,r= .slice A n c/\K A n c g:=by
 obtain⟨i,z,h2,h3,h4,y,C⟩:=el.info;obtain⟨F,w',D,ho,l,_⟩:=run_append_own (P:=P) w B t ty e i z size bytes el.Ov h2 h3 h4 y C el.pos v n xs b a m c news hl q (fun u hu=>py (h1 u hu)) (by simp only[maxLen];omega) om hB;have d:Below B0 w w':=bS l (fun k E=>ga o (b.lt k E).1) (ga o hB);obtain⟨A,c',rfl,_⟩:=ownsRow_form ho;exact⟨_,w',D,d,d.size,uV l b x,A,_,c',rfl,h A c' w' ho l d⟩

theorem zZ{P:Program}{t ty e size bytes:Nat}(el:El P t e size bytes){B0 B:Nat}(o:B0<=B){fB:List Nat}{w:World}{v:Value}{n:Nat}{xs:List Value}(g:w.ownsRow B e size v n xs)
  {x:Value} (hx:x.cells.size=size) (h1:∀u∈x.cells.toList,dA u=true)
  (hB:B<=w.heap.size) (hn:n+1<9223372036854775808) (k9:(n+1)*bytes<=140737488355328) (y:e∉fB) {K:Option Addr->Nat->Nat->World->Prop}
  (h:∀A c d,d.ownsRow B e size (.slice A (n+1) c) (n+1) (xs++x.cells.toList)->w.grownBy d v.ownBlock->Below B0 w d->K A (n+1) c d):
  au P (Instr.buildSlice t 1 #[(0,x)]) B0 fB w fun r w1=>∃A m c,r= .slice A m c/\
   au P (Builtin.append_ #[t,t] ty #[v,.slice A m c]) B0 fB w1 fun r d=>∃A n c,r= .slice A n c/\K A n c d:=by
 have q:=jk el [x] (by simpa using hx) sm w;simp only[vi,K9,Rj,Dx,HD,ow,GD,ns]at q;have b:=World.grownBy_alloc w (.cells x.cells.toList.toArray e) none;have a:Below B0 w (w.alloc (.cells x.cells.toList.toArray e)):=bS b sm (ga o hB);refine⟨_,_,q,a,a.size,fun k ty cs _ i=>b.block k (bU.1 i).1 sm,_,_,_,rfl,?_⟩;refine uy el o (g.kept b (by cases v.ownBlock<;>simp)) (news:=x.cells.toList) (by simpa using hx) ?_ h1 (by have:=b.size;omega) hn k9 y ?_
 ·intro j u hu;rw[ib,oi];simp only[World.cell?];rw[heap_alloc_new];simpa using hu
 ·intro A c d h2 h3 h4;refine h A c d h2 ⟨h3.os.trans b.os,h3.tape.trans b.tape,h3.output.trans b.output,ga b.size h3.size,fun k i l=> ?_⟩ (a.trans h4);rw[h3.block k (by have:=b.size;omega) l];exact b.block k i sm

theorem MU{t ty e sz bytes:Nat}(el:El Tryz.prog t e sz bytes){B0 B:Nat}(b:B0<=B){fB:List Nat}{w:World}{A:Option Addr}{n c:Nat}{rows:List (List Value)}(ho:bF w B e A n c sz rows){x:Value}(hx:x.cells.size=sz)(h1:∀u∈x.cells.toList,dA u=true)
  (hB:B<=w.heap.size) (hn:n+1<9223372036854775808) (k9:(n+1)*bytes<=140737488355328) (d:e∉fB) {K:Option Addr->Nat->Nat->World->Prop}
  (h:∀A' c' a,bF a B e A' (n+1) c' sz (rows++[x.cells.toList])->w.grownBy a (Value.ownBlock (.slice A n c))->Below B0 w a->K A' (n+1) c' a):
  au Tryz.prog (Instr.buildSlice t 1 #[(0,x)]) B0 fB w fun r w1=>∃A2 m c2,r= .slice A2 m c2/\
   au Tryz.prog (Builtin.append_ #[t,t] ty #[.slice A n c,.slice A2 m c2]) B0 fB w1 fun r a=>∃A n c,r= .slice A n c/\K A n c a:=
 zZ el b ho.1 hx h1 hB hn k9 d fun A' c' a g i j=>h A' c' a ⟨by rw[va];simpa using g,by simp[ho.len],fun r k=>by
  rcases h8.1 k with h|h
  ·exact ho.2.2 r h
  ·simp at h;subst h;simpa using hx⟩ i j

theorem Kh{t ty e sz bytes:Nat}(el:El Tryz.prog t e sz bytes){B0 B:Nat}(o:B0<=B){fB:List Nat}{w:World}{A:Option Addr}{n c:Nat}{rows:List (List Value)}(ho:bF w B e A n c sz rows)
  {a:Addr} {m c2:Nat} {more:List (List Value)} (g:cK w (some a) sz more) (hm:more.length=m) (k:∀r∈more,r.length=sz) (h1:∀r∈more,∀u∈r,dA u=true)
  (hB:B<=w.heap.size) (hn:n+m<9223372036854775808) (k9:(n+m)*bytes<=140737488355328) (q:e∉fB) {K:Option Addr->Nat->Nat->World->Prop}
  (h:∀A' c' d,bF d B e A' (n+m) c' sz (rows++more)->w.grownBy d (Value.ownBlock (.slice A n c))->Below B0 w d->K A' (n+m) c' d):
  au Tryz.prog (Builtin.append_ #[t,t] ty #[.slice A n c,.slice (some a) m c2]) B0 fB w fun r d=>∃A n c,r= .slice A n c/\K A n c d:=by
 have hlen:more.flatten.length=m*sz:=by
  rw[<-hm];clear g hm h1 h k9;induction more with
  |nil=>simp
  |cons r rs ih=>rw[ug,fx,ih (fun x hx=>k x (by simp[hx])),k r sm,gw,mw];omega
 refine uy el o ho.1 (news:=more.flatten) hlen (fun j u hu=> ?_) (fun u hu=> ?_) hB hn k9 q fun A' c' d y z C=>h A' c' d ⟨by rw[va];exact y,by simp[ho.len,hm],fun r l=> ?_⟩ z C
 ·rcases g with g|⟨b,off,cs,ty,fr,D,E,F⟩
  ·subst g;simp at hu
  ·cases D;rw[eX];simp only[World.cell?,E];have:=Cr more off k (fun i hi j hj=>(F i hi j hj).2) j u hu;simpa using this
 ·obtain⟨r,l,G⟩:=List.mem_flatten.1 hu;exact h1 r l u G
 ·rcases h8.1 l with h|h
  ·exact ho.2.2 r h
  ·exact k r h

theorem tG{t ty e sz bytes:Nat}(el:El Tryz.prog t e sz bytes){B0 B:Nat}(j:B0<=B){fB:List Nat}{w:World}{A:Option Addr}{n c:Nat}{rows:List (List Value)}(ho:bF w B e A n c sz rows)
  {A2:Option Addr} {m c2:Nat} {more:List (List Value)} (d:cK w A2 sz more) (hm:more.length=m) (l:∀r∈more,r.length=sz) (h1:∀r∈more,∀u∈r,dA u=true) (o:A2=none->c2=0)
  (hB:B<=w.heap.size) (hn:n+m<9223372036854775808) (k9:(n+m)*bytes<=140737488355328) (q:e∉fB) {K:Option Addr->Nat->Nat->World->Prop}
  (h:∀A' c' b,bF b B e A' (n+m) c' sz (rows++more)->w.grownBy b (Value.ownBlock (.slice A n c))->Below B w b->K A' (n+m) c' b):
  au Tryz.prog (Builtin.append_ #[t,t] ty #[.slice A n c,.slice A2 m c2]) B0 fB w fun r b=>∃A n c,r= .slice A n c/\K A n c b:=by
 cases A2 with
 |some a=>
  refine Kh el j ho d hm l h1 hB hn k9 q fun A' c' b x g E=>h A' c' b x g ?_
  exact bS g (fun k y=>(ho.1.lt k y).1) hB
 |none=>
  have:=d.sN;subst this;have C:m=0:=by rw[<-hm];rfl
  subst C;rw[o rfl];obtain⟨i,z,h2,h3,h4,F,G⟩:=el.info;have D:=run_append_owned_none (P:=Tryz.prog) (w:=w) B t ty e i sz el.Ov h2 _ _ _ ho.1;refine⟨_,w,D,Below.refl _ _,hM _,fun _ _ _ _ _=>rfl,A,n,c,rfl,?_⟩;exact h A c w (by rw[ns];exact ho) ⟨rfl,rfl,rfl,hM _,fun _ _ _=>rfl⟩ (Below.refl _ _)

abbrev dy(x:Int):List Value:=[.int .i64 x]
theorem El.PN:(Tryz.prog.info? 3).bind (·.zero)=some (.int .i64 0):=kF
theorem Aa(z:Value):∀n:Nat,(List.replicate n [z]).flatten=List.replicate n z:=by
 intro n;induction n with
 |zero=>rfl
 |succ n ih=>rw[FM,ug,ih,FM];rfl

theorem PO{i k g j n:Nat}(l:k<n)(m:j<n)(h:i*n+k=g*n+j):i=g/\k=j:=by
 have key:∀{a b c d:Nat},c<n->d<n->a*n+c=b*n+d->¬a<b:=by
  intro a b c d o q h k;have:=fT n k;rw[Nat.succ_mul]at this;omega
 have e:i=g:=by
  have h1:=key l m h;have h2:=key m l h.symm;omega
 subst e;exact⟨rfl,om⟩
theorem rr{i k m n:Nat}(hi:i<m)(a:k<n):i*n+k<m*n:=by
 have:=fT n (show i+1<=m from hi);rw[Nat.succ_mul]at this;omega
theorem F1{ps:List Pa}{hs:List Ho}(ip:ps.Pairwise fun a b=>a.id<b.id)(ih:hs.Pairwise fun a b=>a.id<b.id){s:Sw}{i k:Nat}(hi:nW ps s.aG=some i)(r:pc hs s.hold=some k)(pre:List Sw):
  (bH ps hs pre).set (i*hs.length+k) s.aO=bH ps hs (pre++[s]):=by
 obtain⟨p,hp,m⟩:=gG hi;obtain⟨h,c,n⟩:=oQ r;have o:=(ew.1 c).1;have w:=(ew.1 hp).1;refine xq (by rw[Rr,eu]) (eu ps hs _) fun j l x q=> ?_
 have d:ps[j]? =some ps[j]:=af x;have g:hs[l]? =some hs[l]:=af q;rw[gN d g,qB,List.getElem?_set];by_cases e:i*hs.length+k=j*hs.length+l
 ·obtain⟨rfl,rfl⟩:=PO o q e;rw[cc rfl,cc (by rw[eu];exact rr w o),cc];rw[d]at hp;rw[g]at c;cases hp;cases c;exact⟨m.symm,n.symm⟩
 ·rw[ar e,gN d g,ar];rintro⟨q1,q2⟩;have y:=oR (f:=Pa.id) ip hp d (by rw[m,q1]);have a2:=oR (f:=Ho.id) ih c g (by rw[n,q2]);exact e (by rw[y,a2])
theorem F2(ps:List Pa)(hs:List Ho):bH ps hs []=List.replicate (ps.length*hs.length) 0:=by
 refine xq (eu _ _ _) sm fun i k hi a=> ?_
 rw[gN (af hi) (af a),GM,cc (rr hi a)];rfl
theorem Ec{w0:World}{A0 A1 A A':Option Addr}{n0 c0 n1 c1 n c:Nat}{ps:List Pa}{hs:List Ho}{l:List Sw}(e:dF w0 A0 n0 A1 n1 ps hs)(h:cK w0 A 3 (l.map Sw.row))(hl:l.length=n)(hn:n<2147483648)(g:ek ps hs l){N:Nat}(J:N=n0*n1){R:Value->World->Prop}
  (K:∀w,bF w w0.heap.size 3 A' N N 1 ((bH ps hs l).map dy)->R (.tuple #[.slice A' N N,.int .i64 0]) w):
  ∀(d i:Nat)(w:World),n - i=d->i<=n->Below w0.heap.size w0 w->bF w w0.heap.size 3 A' N N 1 ((bH ps hs (l.take i)).map dy)->F.db.L5 A' N N A n c n i A0 n0 c0 A1 n1 c1 w0.heap.size w R:=by
 have uw:=e.np;have qe:=e.nh;have L:=e.lp;have x:=e.lh;intro d;induction d with
 |zero=>
  intro i w M hi hw ho;rw[bx om]at ho;exact F.db.L5.step ⟨fun h=>by omega,fun _=>K w ho⟩
 |succ d ih=>
  intro i w M hi hw ho;have j:i<l.length:=om;have O:=sc i;have P:l.take (i+1)=l.take i++[l[i]]:=by rw[eN,af j];rfl
  obtain⟨p,k,hp,o⟩:=g.known _ (cd j);obtain⟨q,Q,_⟩:=gG hp;obtain⟨q',S,_⟩:=oQ o;have T:=(ew.1 Q).1;have U:=(ew.1 S).1;have r:=rr (m:=ps.length) T U;have hle:p*hs.length<=7*7:=lq om om;obtain⟨hb,a,V,b,_⟩:=(h.aj hw lf).at_ (fun _=>rfl) hl j;refine F.db.L5.step ⟨fun _=>⟨hb,a,V,_,_,_,b,fun w1 y=> ?_⟩,fun h=>by omega⟩;have z:=kE hw y;refine pm (gX (e.aj z) l[i].aG) ?_;rintro v w2 B rfl;have C:=kP z B;rw[hp];have D:nK (some p)*(n1:Int)=((p*hs.length:Nat):Int):=by rw[<-x];simp[nK]
  refine⟨_,rfl,by rw[D];simp only[az];omega,pm (jd (e.aj C) l[i].hold) ?_⟩;rintro v w3 E rfl;have W:=kP C E;rw[o,D];have X:((p*hs.length:Nat):Int)+nK (some k)=((p*hs.length+k:Nat):Int):=by simp[nK]
  have Y:=((ho.eA y).below B).below E;have X6:p*hs.length+k<N:=by rw[J,<-L,<-x];exact r
  have Z:((bH ps hs (l.take i)).map dy)[p*hs.length+k]? =some (dy ((bH ps hs (l.take i))[p*hs.length+k]'(by rw[eu];exact r))):=by
   rw[tX,af (by rw[eu];exact r)];rfl
  obtain⟨g1,a2,rp,cs,g2,g3,g4,g5,g6⟩:=Y.FP (i:=((p*hs.length+k:Nat):Int)) om om (dy l[i].aO) _ (by rw[dq];exact Z) rfl;refine⟨_,rfl,?_⟩;dsimp only;rw[X];refine⟨ir,g1,a2,rp,cs,_,g2,g3,g4,g5,rfl,fun G H=>⟨ir,?_⟩⟩;have I:=g6 G H;rw[dq]at I;rw[O];refine ih (i+1) G om om (W.trans (dd.sP H g2)) ?_;have key:=F1 g.c.ip g.c.ih hp o (l.take i);rw[P,<-key,EF];exact I
theorem db{w:World}(m:cT w){A0 A1 A:Option Addr}{n0 c0 n1 c1 n c:Nat}{ps:List Pa}{hs:List Ho}{l:List Sw}(a:dF w A0 n0 A1 n1 ps hs)(h:cK w A 3 (l.map Sw.row))(hl:l.length=n)(o:n<=c)(hn:n<2147483648):
  Pure Tryz.prog 41 #[.agg #[.slice A0 n0 c0,.slice A1 n1 c1],.slice A n c] w fun v w'=>(¬cZ ps hs l=0->v= .tuple #[.slice none 0 0,.int .i64 1])/\
   (cZ ps hs l=0->∃A' N,v= .tuple #[.slice A' N N,.int .i64 0]/\bF w' w.heap.size 3 A' N N 1 ((bH ps hs l).map dy)/\N=n0*n1):=by
 have q:=a.np;have x:=a.nh;have hle:n0*n1<=7*7:=lq q x;refine F.db.vc fun w1 y=> ?_
 have d:=k0 y;refine pm (cS (m.next d) (a.aj d) (h.aj d lf) hl o hn) ?_;rintro v z B rfl;have e:=kP d B;refine⟨_,rfl,fun h0=>⟨fun _=>rfl,fun k=>absurd k h0⟩,fun h0=> ?_⟩;have i:=ep.1 h0;have b:=dt i;have em:(n0:Int)*(n1:Int)=((n0*n1:Nat):Int):=by simp
 rw[em];refine⟨ir,kH ft El.PN rfl om om e.size fun A' N j E C _ D=> ?_⟩;have g:N=n0*n1:=om;refine Ec a h hl hn b g (fun w' ho=>⟨fun k=>absurd i k,fun _=>⟨A',N,rfl,ho,g⟩⟩) n 0 j rfl om (e.trans D) ?_;rw[Kv,F2,a.lp,a.lh,<-g,List.map_replicate];refine⟨?_,sm,fun r b=>by rw[Ao b];rfl⟩;rw[Aa];exact(show bF j z.heap.size 3 A' N N 1 (List.replicate N [.int .i64 0])from⟨by rw[Aa];exact C,sm,fun r b=>by rw[Ao b];rfl⟩).base e.size|>.1|>fun h=>by rw[Aa]at h;exact h

theorem H5{w0:World}{A:Option Addr}{n c:Nat}{l:List Int}(hl:cK w0 A 1 (l.map dy))(hlen:l.length=n)(hn:n<2147483648){f:Nat}{a k:Array Value}(eR:bc Tryz.prog f=true){p:Int->Bool}
  (hf:∀w,Below w0.heap.size w0 w->∀x∈l,Pure Tryz.prog f (a.toList++([.int .i64 x]:List Value)++k.toList).toArray w fun v _=>v= .bool (p x)) {R:Value->World->Prop} {r:Int} (g:∀w,R (.int .i64 r) w):
  ∀(d i:Nat)(w:World),n - i=d->i<=n->Below w0.heap.size w0 w->r=js p i (l.drop i)->F.bJ.L2 A n c f a k n i w0.heap.size w R:=by
 intro d;induction d with
 |zero=>
  intro i w o hi hw b;rw[dp om]at b;subst b;exact F.bJ.L2.step ⟨fun h=>by omega,fun _=>g w⟩
 |succ d ih=>
  intro i w o hi hw b;have j:i<l.length:=om;rw[ec j,js]at b;obtain⟨hb,q,y,e,_⟩:=(hl.aj hw lf).at_ (fun _=>rfl) hlen j;refine F.bJ.L2.step ⟨fun _=> ?_,fun h=>by omega⟩;refine⟨hb,q,y,_,e,eR,pm (hf w hw l[i] (cd _)) ?_⟩;rintro v m z rfl;refine⟨_,rfl,fun h=> ?_,fun h=>⟨ir,?_⟩⟩
  ·rw[cc h]at b;subst b;exact g m
  ·rw[ar (by simp[h])]at b;have B:=sc i;rw[B];exact ih (i+1) m om om (kP hw z) b
theorem Ki{w:World}{A:Option Addr}{n c:Nat}{l:List Int}(hl:cK w A 1 (l.map dy))(hlen:l.length=n)(hn:n<2147483648){f:Nat}{a k:Array Value}(eR:bc Tryz.prog f=true){p:Int->Bool}
  (hf:∀w',Below w.heap.size w w'->∀x∈l,Pure Tryz.prog f (a.toList++([.int .i64 x]:List Value)++k.toList).toArray w' fun v _=>v= .bool (p x)):
  Pure Tryz.prog 114 #[.slice A n c,.func (.func f) a k] w fun v _=>v= .bool (l.any p):=by
 refine F.fq.vc (pm (F.bJ.vc (H5 hl hlen hn eR hf (R:=fun v _=>v= .int .i64 (js p 0 l)) (fun _=>rfl) n 0 w rfl om (Below.refl _ _) rfl)) ?_);rintro v b _ rfl;exact⟨_,rfl,by dsimp only;rw[tE]⟩

theorem MV{w0:World}{A0 A1 A A':Option Addr}{n0 c0 n1 c1 n c m c':Nat}{i:Nat}(l:i<=7){r:List Int}(o:cK w0 A' 1 (r.map dy))(q:r.length=m)(hm:m<2147483648)(g:∀x∈r,0<=x){b:Bool}{R:Value->World->Prop}
  (y:∀w,b=true->R (.tuple #[.slice none 0 0,.int .i64 12]) w) (z:∀w,Below w0.heap.size w0 w->b=false->F.bu.L8 A n c A0 n0 c0 n0 ((i:Int)+1) A0 n0 c0 A1 n1 c1 w0.heap.size w R):
  ∀(d j:Nat)(left:Int)(w:World),m - j=d->j<=m->0<=left->left<=9->Below w0.heap.size w0 w->qC left (r.drop j)=b->F.bu.SG A n c left A0 n0 c0 n0 i A' m c' m j A0 n0 c0 A1 n1 c1 w0.heap.size w R:=by
 intro d;induction d with
 |zero=>
  intro j left w B hj h0 C hw hb;rw[dp om]at hb;exact F.bu.SG.step ⟨fun h=>by omega,fun _=>⟨ir,z w hw hb.symm⟩⟩
 |succ d ih=>
  intro j left w B hj h0 C hw hb;have k:j<r.length:=om;have D:=sc j;rw[ec k,qC]at hb;have hp:=g _ (cd k);obtain⟨E,a,G,e,_⟩:=(o.aj hw lf).at_ (fun _=>rfl) q k;refine F.bu.SG.step ⟨fun _=>⟨E,a,G,_,e,fun h=> ?_,fun h=>⟨ir,ir,?_⟩⟩,fun h=>by omega⟩
  ·rw[cc h]at hb;exact y w hb.symm
  ·rw[ar om]at hb;rw[D];exact ih (j+1) _ w om om om om hw hb
theorem PR{w0:World}{A0 A1 A:Option Addr}{n0 c0 n1 c1 n c:Nat}{ps:List Pa}{hs:List Ho}{a:List Int}(k:dF w0 A0 n0 A1 n1 ps hs)(B:xp ps hs)(h:cK w0 A 1 (a.map dy))(hl:a.length=n)(T:n<=c)(hn:n=n0*n1)(o:∀x∈a,0<=x){R:Value->World->Prop}
  (C:∀w,uv ps hs a=true->R (.tuple #[.slice none 0 0,.int .i64 12]) w) (D:∀w,Below w0.heap.size w0 w->uv ps hs a=false->F.bu.Ea A n c none 0 0 A1 n1 c1 n1 0 A0 n0 c0 A1 n1 c1 w0.heap.size w R):
  ∀(d i:Nat)(w:World),n0 - i=d->i<=n0->Below w0.heap.size w0 w->(∀(l:Nat)(p:Pa),l<i->ps[l]? =some p->qC p.aO (oh a hs.length l)=false)->F.bu.L8 A n c A0 n0 c0 n0 i A0 n0 c0 A1 n1 c1 w0.heap.size w R:=by
 have U:=k.np;have r:=k.nh;have V:=k.lp;have y:=k.lh;intro d;induction d with
 |zero=>
  intro i w E hi hw hx;refine F.bu.L8.step ⟨fun h=>by omega,fun _=>D w hw ?_⟩;unfold uv;rw[vd];intro j hj;have hj:=jA.1 hj;rw[af hj];simp only;rw[hx j _ om (af hj)];simp
 |succ d ih=>
  intro i w E hi hw hx;have q:i<ps.length:=om;have z:=sc i;obtain⟨hb,G,H,g,_⟩:=(k.p.aj hw lf).at_ (fun _=>rfl) k.lp q;have W:i*n1<=7*7:=lq om r;have I:(i+1)*n1<=8*7:=lq om r;have J:(i+1)*n1<=n0*n1:=fT _ om;have X:(i+1)*n1=i*n1+n1:=Nat.succ_mul _ _;have K:(i:Int)*(n1:Int)=((i*n1:Nat):Int):=by simp
  have L:((i:Int)+1)*(n1:Int)=(((i+1)*n1:Nat):Int):=by rw[z];simp
  refine F.bu.L8.step ⟨fun _=>⟨hb,G,H,_,_,_,_,_,_,_,g,?_⟩,fun h=>by omega⟩;rw[K,L,dq,dq];refine⟨ir,ir,ir,om,fun w1 M=> ?_⟩;have N:=kE hw M;have em:(i+1)*n1 - i*n1=n1:=om;rw[em];have Y:=(B.p1 _ (cd q)).2.1;have O:cK w0 (kA A (i*n1) c 1) 1 ((oh a n1 i).map dy):=by
   unfold oh;rw[LN,List.map_drop];exact(h.VI (by simp;omega)).take _
  have P:(oh a n1 i).length=n1:=DZ (m:=n0) om om;refine MV om O P om (fun x hx=>o x (uR (mr hx))) (b:=qC ps[i].aO (oh a n1 i)) (fun w hb=>C w ?_) (fun Q S hb=> ?_) n1 0 ps[i].aO w1 rfl om om om N rfl
  ·unfold uv;rw[kh];refine⟨i,jA.2 q,?_⟩;rw[af q,y];exact hb
  ·rw[z];refine ih (i+1) Q om om S fun l p Z hp=> ?_
   by_cases e:l=i
   ·subst e;rw[af q]at hp;cases hp;rw[y];exact hb
   ·exact hx l p om hp

def wC(f:Nat->Nat->Int)(ps:List Pa)(hs:List Ho)(k i:Nat):List Sw:=((List.range k).flatMap fun k=>(List.range ps.length).flatMap fun i=>wz f ps hs k i)++(List.range i).flatMap fun i=>wz f ps hs k i
theorem F4(f:Nat->Nat->Int)(ps:List Pa)(hs:List Ho)(k:Nat):wC f ps hs k ps.length=wC f ps hs (k+1) 0:=by
 unfold wC;rw[pg,FN];simp
theorem tI(f:Nat->Nat->Int)(ps:List Pa)(hs:List Ho)(k i:Nat):wC f ps hs k (i+1)=wC f ps hs k i++wz f ps hs k i:=by
 unfold wC;rw[pg,FN,qo];simp
theorem MW{w0:World}{A0 A1 A:Option Addr}{n0 c0 n1 c1 n c:Nat}{ps:List Pa}{hs:List Ho}{a:List Int}(b:dF w0 A0 n0 A1 n1 ps hs)(h:cK w0 A 1 (a.map dy))(hl:a.length=n)(hn:n=n0*n1){R:Value->World->Prop}
  (O:∀A' m c' w,Below w0.heap.size w0 w->bF w w0.heap.size 39 A' m c' 3 ((jF (ju a n1) ps hs).map Sw.row)->R (.tuple #[.slice A' m c',.int .i64 0]) w):
  ∀(d k:Nat)(A':Option Addr)(m c':Nat)(w:World),n1 - k=d->k<=n1->Below w0.heap.size w0 w->bF w w0.heap.size 39 A' m c' 3 ((wC (ju a n1) ps hs k 0).map Sw.row)->m<=7*k->F.bu.Ea A n c A' m c' A1 n1 c1 n1 k A0 n0 c0 A1 n1 c1 w0.heap.size w R:=by
 have uw:=b.np;have P:=b.nh;have Q:=b.lp;have B:=b.lh;intro d;induction d with
 |zero=>
  intro k A' m c' w S T hw ho hm;have:k=n1:=om;subst this;refine F.bu.Ea.step ⟨fun h=>by omega,fun _=>O _ _ _ w hw ?_⟩;unfold wC at ho;rw[<-B]at ho;simp only[List.range_zero,GD,ns]at ho;unfold jF;rw[<-B];exact ho
 |succ d ih=>
  intro k A' m c' w S T hw ho hm;have C:k<hs.length:=om;have U:=sc k;obtain⟨hb,V,W,j,_⟩:=(b.h.aj hw lf).at_ (fun _=>rfl) b.lh C;refine F.bu.Ea.step ⟨fun _=>⟨hb,V,W,_,_,_,_,_,_,_,j,fun w1 D=> ?_⟩,fun h=>by omega⟩;have X:=kE hw D;have inner:∀(e i:Nat)(A':Option Addr)(m c':Nat)(w:World),n0 - i=e->i<=n0->Below w0.heap.size w0 w->bF w w0.heap.size 39 A' m c' 3 ((wC (ju a n1) ps hs k i).map Sw.row)->m<=7*k+i->
    F.bu.Rf A n c A' m c' k A1 n1 c1 n1 k A0 n0 c0 n0 i A0 n0 c0 A1 n1 c1 hs[k].id hs[k].name hs[k].room hs[k].il hs[k].x hs[k].y hs[k].z w0.heap.size w R:=by
   intro e;induction e with
   |zero=>
    intro i A' m c' w he hi hw ho hm;have:i=n0:=om;subst this;refine F.bu.Rf.step ⟨fun h=>by omega,fun _=>⟨ir,?_⟩⟩;rw[U];refine ih (k+1) A' m c' w om om hw ?_ om;rw[<-F4,Q];exact ho
   |succ e E=>
    intro i A' m c' w he hi hw ho hm;have G:i<ps.length:=om;have H:=sc i;obtain⟨o,q,Y,Z,_⟩:=(b.p.aj hw lf).at_ (fun _=>rfl) b.lp G;have SJ:i*n1<=7*7:=lq om P;have F3:i*n1+k<n:=by rw[hn];exact rr om om
    have e4:(i:Int)*(n1:Int)+(k:Int)=((i*n1+k:Nat):Int):=by simp
    have e5:(i:Int)*(n1:Int)=((i*n1:Nat):Int):=by simp
    have I:wz (ju a n1) ps hs k i=if 0<ju a n1 i k then[⟨hs[k].id,ps[i].id,ju a n1 i k⟩]else[]:=by
     unfold wz;rw[af C,af G]
    have J:a[i*n1+k]'om=ju a n1 i k:=by
     unfold ju;rw[cN,af om];rfl
    refine F.bu.Rf.step ⟨fun _=>⟨o,q,Y,_,_,_,_,_,_,_,Z,?_⟩,fun h=>by omega⟩;rw[e5];have e6:((i*n1:Nat):Int)+(k:Int)=((i*n1+k:Nat):Int):=by simp
    rw[e6];obtain⟨r,VQ,K,_⟩:=(h.aj hw lf).at_ (fun _=>rfl) hl (i:=i*n1+k) om;refine⟨ir,ir,r,VQ,K,fun w2 L=> ?_⟩;have l:=kE hw L;obtain⟨_,ad4,M,SL,_⟩:=(h.aj l lf).at_ (fun _=>rfl) hl (i:=i*n1+k) om;rw[K]at M;cases M;have N:=ho.eA L;refine⟨_,SL,fun g=> ?_,fun sC=>⟨ir,?_⟩⟩
    ·rw[J]at g⊢;refine ny zY lf N (x:= .agg #[.int .i64 hs[k].id,.int .i64 ps[i].id,.int .i64 (ju a n1 i k)]) rfl (by simp[Value.cells,dA]) l.size om dc fun A3 c3 w3 o3 _ b3=>⟨ir,?_⟩
     rw[H];refine E (i+1) A3 (m+1) c3 w3 om om (l.trans b3) ?_ om;rw[tI,I,cc g,lx];exact o3
    ·rw[J]at sC;rw[H];refine E (i+1) A' m c' w2 om om l ?_ om;rw[tI,I,ar om,ns];exact N
  exact inner n0 0 A' m c' w1 rfl om X (ho.eA D) om
def F5(r:Except Int (List Sw))(B:Nat)(y:Value)(w:World):Prop:=match r with
 | .error e=>y= .tuple #[.slice none 0 0,.int .i64 e]
 | .ok l=>∃A m c,y= .tuple #[.slice A m c,.int .i64 0]/\bF w B 39 A m c 3 (l.map Sw.row)
theorem bu{w:World}(l:cT w){A0 A1 A:Option Addr}{n0 c0 n1 c1 n c:Nat}{ps:List Pa}{hs:List Ho}{a:List Int}(b:dF w A0 n0 A1 n1 ps hs)(h:cK w A 1 (a.map dy))(hl:a.length=n)(o:n<=c)(hn:n<2147483648):
  Pure Tryz.prog 79 #[.agg #[.slice A0 n0 c0,.slice A1 n1 c1],.slice A n c] w (F5 (kr ps hs a) w.heap.size):=by
 have q:=b.np;have r:=b.nh;have i:=b.lp;have e:=b.lh;have hle:n0*n1<=7*7:=lq q r;refine F.bu.vc fun w1 y=> ?_
 have g:=k0 y;refine pm (aR (l.next g) (b.aj g)) ?_;rintro v G z rfl;have j:=kP g z;have em:(n0:Int)*(n1:Int)=((n0*n1:Nat):Int):=by simp
 rw[em];refine⟨_,rfl,fun h0=> ?_,fun h0=>⟨ir,fun h1=> ?_,fun h1=> ?_⟩⟩
 ·unfold kr;rw[cc h0];rfl
 ·unfold kr;rw[ar h0,cc (by rw[i,e];omega)];rfl
 have hlen:a.length=ps.length*hs.length:=by rw[i,e];omega
 refine pm (Ki (p:=fun n=>decide (n<0)) (h.aj j lf) hl hn kF fun w' hb x hx=>F.pR.vc rfl) ?_;rintro v B C rfl;have D:=kP j C;refine⟨_,rfl,fun h2=> ?_,fun h2=> ?_⟩
 ·unfold kr;rw[ar h0,ar (fun k=>k hlen),cc h2];rfl
 have d:∀x∈a,0<=x:=fun x hx=>by
  have:=vd.1 h2 x hx;simp at this;omega
 refine PR b (jt (ep.1 h0)) h hl o om d (fun w' hf=> ?_) (fun w' E hf=> ?_) n0 0 B rfl om D (fun H p I=>by omega)
 ·unfold kr;rw[ar h0,ar (fun k=>k hlen),ar (by rw[h2];simp),cc hf];rfl
 ·refine MW b h hl om (fun A' m c' J K ho=> ?_) n1 0 none 0 0 w' rfl om E (by unfold wC;simpa using bF.nil) om;unfold kr;rw[ar h0,ar (fun k=>k hlen),ar (by rw[h2];simp),ar (by rw[hf];simp),e];exact⟨A',m,c',rfl,ho⟩
end Go.Proofs.YtgfkeadgjkfomaaGreatDoor.B

set_option maxRecDepth 100000
set_option maxHeartbeats 4000000
namespace Go.Proofs.YtgfkeadgjkfomaaGreatDoor.F
open Go Go.RowKit Go.Proofs Go.Proofs.YtgfkeadgjkfomaaGreatDoor.Vc
def kL.cx:Pm:=([],[(1,0,7),(1,3,2),(1,4,7),(1,7,2),(1,9999,3)])
theorem kL.vc{d a:O}{e f b c:Nat}{w:World}{R:Kt}
  (h:(∀i,Ext w.heap.size [] w i->((∀p,Ext w.heap.size [] i p->(au P (Instr.buildSlice 22 0 #[]) p.heap.size [25,25] p (Rs fun j l m g=>((au P (Builtin.append_ #[22,22] 22 #[.slice j l m,.slice d e f]) w.heap.size [25,25] g (Rs fun y z A n=>((au P (Instr.buildSlice 23 0 #[]) n.heap.size [25,25] n (Rs fun W k c9 b0=>(au P (Builtin.append_ #[23,23] 23 #[.slice W k c9,.slice a b c]) w.heap.size [25,25] b0 (Rs fun b1 b2 b3 b4=>(∀C,Ext w.heap.size [25] b4 C->(R (.agg #[.slice y z A,.slice b1 b2 b3]) C))))))/\(au P (Instr.buildSlice 23 0 #[]) n.heap.size [25,25] n (Rs fun b5 b6 b7 b8=>(au P (Builtin.append_ #[23,23] 23 #[.slice b5 b6 b7,.slice a b c]) w.heap.size [25,25] b8 (Rs fun b9 c0 c1 c2=>(∀D,Ext w.heap.size [25] c2 D->(R (.agg #[.slice y z A,.slice b9 c0 c1]) D)))))))))/\((au P (Instr.buildSlice 23 0 #[]) g.heap.size [25,25] g (Rs fun E G H I=>((au P (Builtin.append_ #[22,22] 22 #[.slice j l m,.slice d e f]) w.heap.size [25,25] I (Rs fun c3 c4 c5 c6=>(au P (Builtin.append_ #[23,23] 23 #[.slice E G H,.slice a b c]) w.heap.size [25,25] c6 (Rs fun c7 c8 c9 d0=>(∀J,Ext w.heap.size [25] d0 J->(R (.agg #[.slice c3 c4 c5,.slice c7 c8 c9]) J))))))/\(au P (Builtin.append_ #[22,22] 22 #[.slice j l m,.slice d e f]) w.heap.size [25,25] I (Rs fun d1 d2 d3 d4=>(au P (Builtin.append_ #[23,23] 23 #[.slice E G H,.slice a b c]) w.heap.size [25,25] d4 (Rs fun d5 d6 d7 d8=>(∀K,Ext w.heap.size [25] d8 K->(R (.agg #[.slice d1 d2 d3,.slice d5 d6 d7]) K)))))))))/\((au P (Builtin.append_ #[22,22] 22 #[.slice j l m,.slice d e f]) w.heap.size [25,25] g (Rs fun d9 e0 e1 L=>(au P (Instr.buildSlice 23 0 #[]) L.heap.size [25,25] L (Rs fun e2 e3 e4 e5=>(au P (Builtin.append_ #[23,23] 23 #[.slice e2 e3 e4,.slice a b c]) w.heap.size [25,25] e5 (Rs fun e6 e7 e8 e9=>(∀M,Ext w.heap.size [25] e9 M->(R (.agg #[.slice d9 e0 e1,.slice e6 e7 e8]) M))))))))/\(au P (Instr.buildSlice 23 0 #[]) g.heap.size [25,25] g (Rs fun f0 f1 f2 f3=>(au P (Builtin.append_ #[22,22] 22 #[.slice j l m,.slice d e f]) w.heap.size [25,25] f3 (Rs fun f4 f5 f6 f7=>(au P (Builtin.append_ #[23,23] 23 #[.slice f0 f1 f2,.slice a b c]) w.heap.size [25,25] f7 (Rs fun f8 f9 g0 g1=>(∀N,Ext w.heap.size [25] g1 N->(R (.agg #[.slice f4 f5 f6,.slice f8 f9 g0]) N))))))))))))))/\((∀q,Ext w.heap.size [] i q->(au P (Instr.buildSlice 23 0 #[]) q.heap.size [25,25] q (Rs fun r s t o=>((au P (Instr.buildSlice 22 0 #[]) o.heap.size [25,25] o (Rs fun Q S T U=>((au P (Builtin.append_ #[22,22] 22 #[.slice Q S T,.slice d e f]) w.heap.size [25,25] U (Rs fun g2 g3 g4 g5=>(au P (Builtin.append_ #[23,23] 23 #[.slice r s t,.slice a b c]) w.heap.size [25,25] g5 (Rs fun g6 g7 g8 g9=>(∀V,Ext w.heap.size [25] g9 V->(R (.agg #[.slice g2 g3 g4,.slice g6 g7 g8]) V))))))/\(au P (Builtin.append_ #[22,22] 22 #[.slice Q S T,.slice d e f]) w.heap.size [25,25] U (Rs fun j0 j1 j2 j3=>(au P (Builtin.append_ #[23,23] 23 #[.slice r s t,.slice a b c]) w.heap.size [25,25] j3 (Rs fun j4 j5 j6 j7=>(∀X,Ext w.heap.size [25] j7 X->(R (.agg #[.slice j0 j1 j2,.slice j4 j5 j6]) X)))))))))/\(au P (Instr.buildSlice 22 0 #[]) o.heap.size [25,25] o (Rs fun j8 j9 l0 l1=>(au P (Builtin.append_ #[22,22] 22 #[.slice j8 j9 l0,.slice d e f]) w.heap.size [25,25] l1 (Rs fun l2 l3 l4 l5=>(au P (Builtin.append_ #[23,23] 23 #[.slice r s t,.slice a b c]) w.heap.size [25,25] l5 (Rs fun l6 l7 l8 l9=>(∀Y,Ext w.heap.size [25] l9 Y->(R (.agg #[.slice l2 l3 l4,.slice l6 l7 l8]) Y))))))))))))/\((∀u,Ext w.heap.size [] i u->(au P (Instr.buildSlice 22 0 #[]) u.heap.size [25,25] u (Rs fun Z a0 B v=>((au P (Builtin.append_ #[22,22] 22 #[.slice Z a0 B,.slice d e f]) w.heap.size [25,25] v (Rs fun m0 m1 m2 a2=>(au P (Instr.buildSlice 23 0 #[]) a2.heap.size [25,25] a2 (Rs fun m3 m4 m5 m6=>(au P (Builtin.append_ #[23,23] 23 #[.slice m3 m4 m5,.slice a b c]) w.heap.size [25,25] m6 (Rs fun m7 m8 m9 n0=>(∀a3,Ext w.heap.size [25] n0 a3->(R (.agg #[.slice m0 m1 m2,.slice m7 m8 m9]) a3))))))))/\(au P (Instr.buildSlice 23 0 #[]) v.heap.size [25,25] v (Rs fun n1 n2 n3 n4=>(au P (Builtin.append_ #[22,22] 22 #[.slice Z a0 B,.slice d e f]) w.heap.size [25,25] n4 (Rs fun n5 n6 n7 n8=>(au P (Builtin.append_ #[23,23] 23 #[.slice n1 n2 n3,.slice a b c]) w.heap.size [25,25] n8 (Rs fun k o0 o1 o2=>(∀a4,Ext w.heap.size [25] o2 a4->(R (.agg #[.slice n5 n6 n7,.slice k o0 o1]) a4))))))))))))/\(∀x,Ext w.heap.size [] i x->(au P (Instr.buildSlice 23 0 #[]) x.heap.size [25,25] x (Rs fun o3 o4 o5 a5=>(au P (Instr.buildSlice 22 0 #[]) a5.heap.size [25,25] a5 (Rs fun o6 o7 o8 o9=>(au P (Builtin.append_ #[22,22] 22 #[.slice o6 o7 o8,.slice d e f]) w.heap.size [25,25] o9 (Rs fun p0 p1 p2 p3=>(au P (Builtin.append_ #[23,23] 23 #[.slice o3 o4 o5,.slice a b c]) w.heap.size [25,25] p3 (Rs fun p4 p5 p6 p7=>(∀F,Ext w.heap.size [25] p7 F->(R (.agg #[.slice p0 p1 p2,.slice p4 p5 p6]) F)))))))))))))))):
  Pure P 13 #[.agg #[.slice d e f,.slice a b c]] w R:=
 pr kL.cx Tryz.func13 h

def bD.L2(a:Int)(b:O)(c d:Nat)(e:O)(f g:Nat):=Lt 36 Tryz.f36 2 [(1,.loc 1 0),(3,.v (.int .i64 a))] [⟨1,false,25,[(.slice b c d),(.slice e f g)]⟩]
def bD.L8(a:Int)(b:O)(c d:Nat)(e:O)(f g:Nat):=Lt 36 Tryz.f36 8 [(1,.loc 1 0),(5,.v (.int .i64 a))] [⟨1,false,25,[(.slice b c d),(.slice e f g)]⟩]
def bD.cx:Pm:=([((true,2),[1,3],[1]),((true,8),[1,5],[1])],[])
theorem bD.L2.step{a:Int}{c d:O}{b e f g B:Nat}{w:World}{R:Kt}
  (h:(Br (a<(b:Int)) (Ix a b c fun s=>(∃t u v i j l m,ae w (s.add ((a).toNat*7)) [.int .i64 t,.int .i64 u,.int .i64 v,.string i,.string j,.string l,.string m]/\(Br (((ByteArray.size j:Int):Int)>40) (∀n,Ext B [] w n->(R (.bool false) n)) (Br (((ByteArray.size l:Int):Int)>40) (∀o,Ext B [] w o->(R (.bool false) o)) (Br (((ByteArray.size m:Int):Int)>40) (∀p,Ext B [] w p->(R (.bool false) p)) (Br (((ByteArray.size i:Int):Int)>70) (∀q,Ext B [] w q->(R (.bool false) q)) (az .i64 (a+1)/\(∀r,Ext B [] w r->(bD.L2 (a+1) c b e d f g B r R))))))))) (bD.L8 (0:Int) c b e d f g B w R))):
  bD.L2 a c b e d f g B w R:=
 lr bD.cx Tryz.func36 h
theorem bD.L8.step{a:Int}{e c:O}{d f b g B:Nat}{w:World}{R:Kt}
  (h:(Br (a<(b:Int)) (Ix a b c fun x=>(∃y i j l m n o,ae w (x.add ((a).toNat*7)) [.int .i64 y,.string i,.string j,.string l,.string m,.string n,.string o]/\(Br (((ByteArray.size j:Int):Int)>40) (∀p,Ext B [] w p->(R (.bool false) p)) (Br (((ByteArray.size l:Int):Int)>40) (∀q,Ext B [] w q->(R (.bool false) q)) (Br (((ByteArray.size m:Int):Int)>40) (∀r,Ext B [] w r->(R (.bool false) r)) (Br (((ByteArray.size n:Int):Int)>40) (∀s,Ext B [] w s->(R (.bool false) s)) (Br (((ByteArray.size o:Int):Int)>40) (∀t,Ext B [] w t->(R (.bool false) t)) (Br (((ByteArray.size i:Int):Int)>70) (∀u,Ext B [] w u->(R (.bool false) u)) (az .i64 (a+1)/\(∀v,Ext B [] w v->(bD.L8 (a+1) e d f c b g B v R))))))))))) (Br ((d:Int)<=(7:Int)) (R (.bool (decide ((b:Int)<=(7:Int)))) w) (R (.bool false) w)))):
  bD.L8 a e d f c b g B w R:=
 lr bD.cx Tryz.func36 h
theorem bD.vc{a b:O}{c d e f:Nat}{w:World}{R:Kt}
  (h:(∀g,Ext w.heap.size [] w g->(bD.L2 (0:Int) a c d b e f w.heap.size g R))):
  Pure P 36 #[.agg #[.slice a c d,.slice b e f]] w R:=
 pr bD.cx Tryz.func36 h

def iE.cx:Pm:=([],[])
theorem iE.vc{a b c:O}{d e f g i j:Nat}{w:World}{R:Kt}
  (h:(∀l,Ext w.heap.size [] w l->(Pure P 75 #[.agg #[.slice a d e,.slice b f g],.slice c i j] l (Ri fun n m=>(Br (n≠0) (R (.tuple #[.slice none 0 0,.int .i64 1]) m) (Pure P 76 #[.agg #[.slice a d e,.slice b f g],.slice c i j] m (Rs fun o p q r=>(R (.tuple #[.slice o p q,.int .i64 0]) r)))))))):
  Pure P 46 #[.agg #[.slice a d e,.slice b f g],.slice c i j] w R:=
 pr iE.cx Tryz.func46 h

def aI.L4(a:O)(b c:Nat)(d:Int)(e:O)(f g:Nat)(i:O)(j l:Nat):=Lt 75 Tryz.f75 4 [(1,.v (.slice a b c)),(2,.loc 2 0),(5,.v (.int .i64 d))] [⟨2,false,25,[(.slice e f g),(.slice i j l)]⟩]
def aI.tJ(a:O)(b c:Nat)(d e f:Int)(g:O)(i j:Nat)(l:O)(m n:Nat):=Lt 75 Tryz.f75 15 [(1,.v (.slice a b c)),(2,.loc 2 0),(5,.v (.int .i64 d)),(7,.v (.int .i64 e)),(8,.v (.int .i64 f))] [⟨2,false,25,[(.slice g i j),(.slice l m n)]⟩]
def aI.cx:Pm:=([((true,4),[1,2,5],[2]),((true,15),[1,2,5,7,8],[2])],[])
theorem aI.L4.step{c d g:O}{b n e i j l B:Nat}{a:Int}{w:World}{R:Kt}
  (h:(Br (a<(b:Int)) (Ix a b c fun J=>(∃r,ae w ((J.add ((a).toNat*3)).add 1) [.int .i64 r]/\(∀s,Ext B [] w s->(Pure P 83 #[.agg #[.slice d e i,.slice g j l],.int .i64 r] s (Ri fun m o=>(Br (m<0) (∀t,Ext B [] o t->(R (.int .i64 7) t)) (Ix a b c fun K=>(∃u,ae o ((K.add ((a).toNat*3)).add 0) [.int .i64 u]/\(∀v,Ext B [] o v->(Pure P 82 #[.agg #[.slice d e i,.slice g j l],.int .i64 u] v (Ri fun L f=>(Br (L<0) (R (.int .i64 7) f) (Ix a b c fun M=>(∃x,ae f ((M.add ((a).toNat*3)).add 2) [.int .i64 x]/\(Br (x<1) (R (.int .i64 2) f) (Br (a>0) (az .i64 (a - (1:Int))/\(Ix (a - (1:Int)) b c fun N=>(∃y z A,ae f (N.add (((a - (1:Int))).toNat*3)) [.int .i64 y,.int .i64 z,.int .i64 A]/\(Ix a b c fun Q=>(∃C D E,ae f (Q.add ((a).toNat*3)) [.int .i64 C,.int .i64 D,.int .i64 E]/\(∀G,Ext B [] f G->(Pure P 109 #[.agg #[.int .i64 y,.int .i64 z,.int .i64 A],.agg #[.int .i64 C,.int .i64 D,.int .i64 E]] G (Rb fun S p=>(Br (S=false) (R (.int .i64 5) p) (Ix m e d fun T=>(∃H,ae p ((T.add ((m).toNat*7)).add 1) [.int .i64 H]/\(aI.tJ c b n a H (0:Int) d e i g j l B p R)))))))))))) (Ix m e d fun U=>(∀q,Ext B [] f q->(∃I,ae q ((U.add ((m).toNat*7)).add 1) [.int .i64 I]/\(aI.tJ c b n a I (0:Int) d e i g j l B q R)))))))))))))))))))) (R (.int .i64 0) w))):
  aI.L4 c b n a d e i g j l B w R:=
 lr aI.cx Tryz.func75 h
theorem aI.tJ.step{b g i:O}{c j l m n o B:Nat}{d e a:Int}{w:World}{R:Kt}
  (h:(Br (a<=d) (Ix a c b fun u=>(∃q,ae w ((u.add ((a).toNat*3)).add 1) [.int .i64 q]/\(Ix d c b fun v=>(∃r,ae w ((v.add ((d).toNat*3)).add 1) [.int .i64 r]/\(Br (q=r) (Ix a c b fun x=>(∀f,Ext B [] w f->(∃s,ae f ((x.add ((a).toNat*3)).add 2) [.int .i64 s]/\(Br (s>e) (R (.int .i64 12) f) (Ix a c b fun y=>(∃p,ae f ((y.add ((a).toNat*3)).add 2) [.int .i64 p]/\(az .i64 (e - p)/\(az .i64 (a+1)/\(aI.tJ b c j d (e - p) (a+1) g l m i n o B f R))))))))) (az .i64 (a+1)/\(∀t,Ext B [] w t->(aI.tJ b c j d e (a+1) g l m i n o B t R)))))))) (az .i64 (d+1)/\(aI.L4 b c j (d+1) g l m i n o B w R)))):
  aI.tJ b c j d e a g l m i n o B w R:=
 lr aI.cx Tryz.func75 h
theorem aI.vc{a b g:O}{c d e f i j:Nat}{w:World}{R:Kt}
  (h:(∀l,Ext w.heap.size [] w l->(Pure P 108 #[.agg #[.slice a c d,.slice b e f]] l (Ri fun n m=>(Br (n≠0) (R (.int .i64 1) m) (aI.L4 g i j (0:Int) a c d b e f w.heap.size m R)))))):
  Pure P 75 #[.agg #[.slice a c d,.slice b e f],.slice g i j] w R:=
 pr aI.cx Tryz.func75 h

def av.L3(a:O)(b c:Nat)(d:O)(e f:Nat)(g:Int)(i:O)(j l:Nat)(m:O)(n o:Nat):=Lt 76 Tryz.f76 3 [(1,.v (.slice a b c)),(2,.loc 2 0),(5,.v (.slice d e f)),(6,.v (.int .i64 g))] [⟨2,false,25,[(.slice i j l),(.slice m n o)]⟩]
def av.L6(a:O)(b c:Nat)(d:O)(e f:Nat)(g i:Int)(j:O)(l m:Nat)(n:O)(o p:Nat):=Lt 76 Tryz.f76 6 [(1,.v (.slice a b c)),(2,.loc 2 0),(5,.v (.slice d e f)),(6,.v (.int .i64 g)),(7,.v (.int .i64 i))] [⟨2,false,25,[(.slice j l m),(.slice n o p)]⟩]
def av.pd(a:O)(b c:Nat)(d:O)(e f:Nat)(g i j l:Int)(m:O)(n o:Nat)(p:O)(q r:Nat):=Lt 76 Tryz.f76 10 [(1,.v (.slice a b c)),(2,.loc 2 0),(5,.v (.slice d e f)),(6,.v (.int .i64 g)),(7,.v (.int .i64 i)),(8,.v (.int .i64 j)),(9,.v (.int .i64 l))] [⟨2,false,25,[(.slice m n o),(.slice p q r)]⟩]
def av.cx:Pm:=([((true,3),[1,2,5,6],[2]),((true,6),[1,2,5,6,7],[2]),((true,10),[1,2,5,6,7,8,9],[2])],[(14,2,2),(14,3,2)])
theorem av.L3.step{f a g i:O}{j l b c d m n o B:Nat}{e:Int}{w:World}{R:Kt}
  (h:(Br (e<(d:Int)) (av.L6 f j l a b c e (0:Int) g d m i n o B w R) (R (.slice a b c) w))):
  av.L3 f j l a b c e g d m i n o B w R:=
 lr av.cx Tryz.func76 h
theorem av.L6.step{c d e f:O}{g i j l m n a o B:Nat}{b p:Int}{w:World}{R:Kt}
  (h:(Br (p<(a:Int)) (av.pd c g i d j l b p (0:Int) (0:Int) e m n f a o B w R) (az .i64 (b+1)/\(av.L3 c g i d j l (b+1) e m n f a o B w R)))):
  av.L6 c g i d j l b p e m n f a o B w R:=
 lr av.cx Tryz.func76 h
theorem av.pd.step{c l f g:O}{b m n o i p j q B:Nat}{e d r a:Int}{w:World}{R:Kt}
  (h:(Br (a<(b:Int)) (Ix a b c fun C=>(∃t,ae w ((C.add ((a).toNat*3)).add 1) [.int .i64 t]/\(Ix e i f fun D=>(∃u,ae w ((D.add ((e).toNat*7)).add 0) [.int .i64 u]/\(Br (t=u) (Ix a b c fun E=>(∃v,ae w ((E.add ((a).toNat*3)).add 0) [.int .i64 v]/\(Ix d j g fun G=>(∃x,ae w ((G.add ((d).toNat*7)).add 0) [.int .i64 x]/\(Br (v=x) (Ix a b c fun H=>(∀s,Ext B [] w s->(∃y,ae s ((H.add ((a).toNat*3)).add 2) [.int .i64 y]/\(az .i64 (a+1)/\(av.pd c b m l n o e d y (a+1) f i p g j q B s R))))) (az .i64 (a+1)/\(∀z,Ext B [] w z->(av.pd c b m l n o e d r (a+1) f i p g j q B z R)))))))) (az .i64 (a+1)/\(∀A,Ext B [] w A->(av.pd c b m l n o e d r (a+1) f i p g j q B A R)))))))) (au P (Instr.buildSlice 48 1 #[(0,(.int .i64 r))]) B [25] w (Rs fun I J K L=>(au P (Builtin.append_ #[48,48] 48 #[.slice l n o,.slice I J K]) B [25] L (Rs fun M N Q S=>(az .i64 (d+1)/\(av.L6 c b m M N Q e (d+1) f i p g j q B S R)))))))):
  av.pd c b m l n o e d r a f i p g j q B w R:=
 lr av.cx Tryz.func76 h
theorem av.vc{a b c:O}{d e f g i j:Nat}{w:World}{R:Kt}
  (h:(∀l,Ext w.heap.size [] w l->(av.L3 c i j none 0 0 (0:Int) a d e b f g w.heap.size l R))):
  Pure P 76 #[.agg #[.slice a d e,.slice b f g],.slice c i j] w R:=
 pr av.cx Tryz.func76 h

def cL.L2(a b:Int)(c:O)(d e:Nat)(f:O)(g i:Nat):=Lt 82 Tryz.f82 2 [(1,.v (.int .i64 a)),(2,.loc 2 0),(5,.v (.int .i64 b))] [⟨2,false,25,[(.slice c d e),(.slice f g i)]⟩]
def cL.cx:Pm:=([((true,2),[1,2,5],[2])],[])
theorem cL.L2.step{c a:Int}{e d:O}{f g b i B:Nat}{w:World}{R:Kt}
  (h:(Br (a<(b:Int)) (Ix a b d fun l=>(∃j,ae w ((l.add ((a).toNat*7)).add 0) [.int .i64 j]/\(Br (j=c) (R (.int .i64 a) w) (az .i64 (a+1)/\(cL.L2 c (a+1) e f g d b i B w R))))) (R (.int .i64 (-1:Int)) w))):
  cL.L2 c a e f g d b i B w R:=
 lr cL.cx Tryz.func82 h
theorem cL.vc{a b:O}{c d e f:Nat}{g:Int}{w:World}{R:Kt}
  (h:(∀i,Ext w.heap.size [] w i->(cL.L2 g (0:Int) a c d b e f w.heap.size i R))):
  Pure P 82 #[.agg #[.slice a c d,.slice b e f],.int .i64 g] w R:=
 pr cL.cx Tryz.func82 h

def cy.L2(a b:Int)(c:O)(d e:Nat)(f:O)(g i:Nat):=Lt 83 Tryz.f83 2 [(1,.v (.int .i64 a)),(2,.loc 2 0),(5,.v (.int .i64 b))] [⟨2,false,25,[(.slice c d e),(.slice f g i)]⟩]
def cy.cx:Pm:=([((true,2),[1,2,5],[2])],[])
theorem cy.L2.step{c a:Int}{d e:O}{b f g i B:Nat}{w:World}{R:Kt}
  (h:(Br (a<(b:Int)) (Ix a b d fun l=>(∃j,ae w ((l.add ((a).toNat*7)).add 0) [.int .i64 j]/\(Br (j=c) (R (.int .i64 a) w) (az .i64 (a+1)/\(cy.L2 c (a+1) d b f e g i B w R))))) (R (.int .i64 (-1:Int)) w))):
  cy.L2 c a d b f e g i B w R:=
 lr cy.cx Tryz.func83 h
theorem cy.vc{a b:O}{c d e f:Nat}{g:Int}{w:World}{R:Kt}
  (h:(∀i,Ext w.heap.size [] w i->(cy.L2 g (0:Int) a c d b e f w.heap.size i R))):
  Pure P 83 #[.agg #[.slice a c d,.slice b e f],.int .i64 g] w R:=
 pr cy.cx Tryz.func83 h

def aB.L6(a:O)(b c:Nat)(d:Int)(e:O)(f g:Nat)(i:O)(j l:Nat):=Lt 84 Tryz.f84 6 [(1,.v (.slice a b c)),(2,.loc 2 0),(6,.v (.int .i64 d))] [⟨2,false,25,[(.slice e f g),(.slice i j l)]⟩]
def aB.Rg(a:O)(b c:Nat)(d:Int)(e:O)(f g:Nat)(i:O)(j l:Nat):=Lt 84 Tryz.f84 11 [(1,.v (.slice a b c)),(2,.loc 2 0),(7,.v (.int .i64 d))] [⟨2,false,25,[(.slice e f g),(.slice i j l)]⟩]
def aB.tJ(a:O)(b c:Nat)(d e f:Int)(g:O)(i j:Nat)(l:O)(m n:Nat):=Lt 84 Tryz.f84 15 [(1,.v (.slice a b c)),(2,.loc 2 0),(7,.v (.int .i64 d)),(8,.v (.int .i64 e)),(9,.v (.int .i64 f))] [⟨2,false,25,[(.slice g i j),(.slice l m n)]⟩]
def aB.cx:Pm:=([((true,6),[1,2,6],[2]),((true,11),[1,2,7],[2]),((true,15),[1,2,7,8,9],[2])],[])
theorem aB.L6.step{c d e:O}{b f g i j l B:Nat}{a:Int}{w:World}{R:Kt}
  (h:(Br (a<(b:Int)) (Ix a b c fun n=>(∃m,ae w (n.add ((a).toNat*1)) [.int .i64 m]/\(Br (m<0) (R (.tuple #[.slice none 0 0,.int .i64 2]) w) (az .i64 (a+1)/\(aB.L6 c b f (a+1) d g i e j l B w R))))) (aB.Rg c b f (0:Int) d g i e j l B w R))):
  aB.L6 c b f a d g i e j l B w R:=
 lr aB.cx Tryz.func84 h
theorem aB.Rg.step{d c e:O}{f g a i j l B:Nat}{b:Int}{w:World}{R:Kt}
  (h:(Br (b<(a:Int)) (Ix b a c fun n=>(∃m,ae w ((n.add ((b).toNat*7)).add 1) [.int .i64 m]/\(aB.tJ d f g b m (0:Int) c a i e j l B w R))) (Pure P 119 #[.agg #[.slice c a i,.slice e j l],.slice d f g] w (Rs fun o p q r=>(R (.tuple #[.slice o p q,.int .i64 0]) r))))):
  aB.Rg d f g b c a i e j l B w R:=
 lr aB.cx Tryz.func84 h
theorem aB.tJ.step{d i j:O}{e l m n a o B:Nat}{b f c:Int}{w:World}{R:Kt}
  (h:(Br (c<(a:Int)) (az .i64 (b*(a:Int))/\(az .i64 ((b*(a:Int))+c)/\(Ix ((b*(a:Int))+c) e d fun p=>(∃g,ae w (p.add ((((b*(a:Int))+c)).toNat*1)) [.int .i64 g]/\(Br (g>f) (R (.tuple #[.slice none 0 0,.int .i64 12]) w) (az .i64 (f - g)/\(az .i64 (c+1)/\(aB.tJ d e l b (f - g) (c+1) i m n j a o B w R)))))))) (az .i64 (b+1)/\(aB.Rg d e l (b+1) i m n j a o B w R)))):
  aB.tJ d e l b f c i m n j a o B w R:=
 lr aB.cx Tryz.func84 h
theorem aB.vc{c d j:O}{a e b f g l:Nat}{w:World}{R:Kt}
  (h:(∀m,Ext w.heap.size [] w m->(Pure P 108 #[.agg #[.slice c a e,.slice d b f]] m (Ri fun n i=>(Br (n≠0) (R (.tuple #[.slice none 0 0,.int .i64 1]) i) (az .i64 ((a:Int)*(b:Int))/\(Br ((g:Int)≠((a:Int)*(b:Int))) (R (.tuple #[.slice none 0 0,.int .i64 10]) i) (aB.L6 j g l (0:Int) c a e d b f w.heap.size i R)))))))):
  Pure P 84 #[.agg #[.slice c a e,.slice d b f],.slice j g l] w R:=
 pr aB.cx Tryz.func84 h

def aQ.L6(a:Int)(b:O)(c d:Nat)(e:O)(f g:Nat):=Lt 108 Tryz.f108 6 [(1,.loc 1 0),(3,.v (.int .i64 a))] [⟨1,false,25,[(.slice b c d),(.slice e f g)]⟩]
def aQ.vT(a:Int)(b:O)(c d:Nat)(e:O)(f g:Nat):=Lt 108 Tryz.f108 16 [(1,.loc 1 0),(5,.v (.int .i64 a))] [⟨1,false,25,[(.slice b c d),(.slice e f g)]⟩]
def aQ.cx:Pm:=([((true,6),[1,3],[1]),((true,16),[1,5],[1])],[])
theorem aQ.L6.step{a:Int}{c f:O}{b g i j B:Nat}{w:World}{R:Kt}
  (h:(Br (a<(b:Int)) (Ix a b c fun C=>(∃l m n o p q r,ae w (C.add ((a).toNat*7)) [.int .i64 l,.int .i64 m,.int .i64 n,.string o,.string p,.string q,.string r]/\(∀s,Ext B [] w s->(Pure P 144 #[.int .i64 l] s (Rb fun D d=>(Br (D=false) (R (.int .i64 2) d) (Br (m<1) (R (.int .i64 2) d) (Br (m>9) (R (.int .i64 2) d) (Br (n<1) (R (.int .i64 2) d) (Br (n>9) (R (.int .i64 2) d) (Pure P 146 #[.string p] d (Rq fun E G H I J K L M=>(Pure P 145 #[.agg #[.bool E,.slice G H I,.slice J K L]] M (Ri fun N t=>(Br (N<=(0:Int)) (R (.int .i64 2) t) (Pure P 146 #[.string q] t (Rq fun Q S T U V X Y Z=>(Pure P 145 #[.agg #[.bool Q,.slice S T U,.slice V X Y]] Z (Ri fun a0 u=>(Br (a0<=(0:Int)) (R (.int .i64 2) u) (Pure P 146 #[.string r] u (Rq fun k a2 a3 a4 a5 F W a8=>(Pure P 145 #[.agg #[.bool k,.slice a2 a3 a4,.slice a5 F W]] a8 (Ri fun a9 v=>(Br (a9<0) (R (.int .i64 2) v) (Pure P 147 #[.string o] v (Rb fun b0 e=>(Br (b0=false) (R (.int .i64 4) e) (Br (a>0) (az .i64 (a - (1:Int))/\(Ix (a - (1:Int)) b c fun b1=>(∃x,ae e ((b1.add (((a - (1:Int))).toNat*7)).add 0) [.int .i64 x]/\(Br (x≥l) (∀y,Ext B [] e y->(R (.int .i64 5) y)) (az .i64 (a+1)/\(∀z,Ext B [] e z->(aQ.L6 (a+1) c b g f i j B z R))))))) (az .i64 (a+1)/\(∀A,Ext B [] e A->(aQ.L6 (a+1) c b g f i j B A R)))))))))))))))))))))))))))))))) (aQ.vT (0:Int) c b g f i j B w R))):
  aQ.L6 a c b g f i j B w R:=
 lr aQ.cx Tryz.func108 h
theorem aQ.vT.step{a:Int}{e c:O}{f g b i B:Nat}{w:World}{R:Kt}
  (h:(Br (a<(b:Int)) (Ix a b c fun x=>(∃j l m n y z A,ae w (x.add ((a).toNat*7)) [.int .i64 j,.string l,.string m,.string n,.string y,.string z,.string A]/\(∀o,Ext B [] w o->(Pure P 144 #[.int .i64 j] o (Rb fun C p=>(Br (C=false) (R (.int .i64 2) p) (Pure P 146 #[.string m] p (Rq fun D E G H I J K L=>(Pure P 145 #[.agg #[.bool D,.slice E G H,.slice I J K]] L (Ri fun M q=>(Br (M<0) (R (.int .i64 2) q) (Pure P 146 #[.string n] q (Rq fun N Q S T U V X Y=>(Pure P 145 #[.agg #[.bool N,.slice Q S T,.slice U V X]] Y (Ri fun Z r=>(Br (Z<0) (R (.int .i64 2) r) (Pure P 147 #[.string l] r (Rb fun a0 d=>(Br (a0=false) (R (.int .i64 4) d) (Br (a>0) (az .i64 (a - (1:Int))/\(Ix (a - (1:Int)) b c fun k=>(∃s,ae d ((k.add (((a - (1:Int))).toNat*7)).add 0) [.int .i64 s]/\(Br (s≥j) (∀t,Ext B [] d t->(R (.int .i64 5) t)) (az .i64 (a+1)/\(∀u,Ext B [] d u->(aQ.vT (a+1) e f g c b i B u R))))))) (az .i64 (a+1)/\(∀v,Ext B [] d v->(aQ.vT (a+1) e f g c b i B v R))))))))))))))))))))))) (R (.int .i64 0) w))):
  aQ.vT a e f g c b i B w R:=
 lr aQ.cx Tryz.func108 h
theorem aQ.vc{d e:O}{a f b g:Nat}{w:World}{R:Kt}
  (h:(∀i,Ext w.heap.size [] w i->(Pure P 143 #[.agg #[.slice d a f,.slice e b g]] i (Rb fun j c=>(Br (j=false) (R (.int .i64 1) c) (Br ((a:Int)>6) (R (.int .i64 8) c) (Br ((b:Int)>6) (R (.int .i64 8) c) (aQ.L6 (0:Int) d a f e b g w.heap.size c R)))))))):
  Pure P 108 #[.agg #[.slice d a f,.slice e b g]] w R:=
 pr aQ.cx Tryz.func108 h

def jf.cx:Pm:=([],[])
theorem jf.vc{a c i b d j:Int}{w:World}{R:Kt}
  (h:(Br (a<b) (∀e,Ext w.heap.size [] w e->(R (.bool true) e)) (Br (a=b) (∀f,Ext w.heap.size [] w f->(R (.bool (decide (c<d))) f)) (∀g,Ext w.heap.size [] w g->(R (.bool false) g))))):
  Pure P 109 #[.agg #[.int .i64 a,.int .i64 c,.int .i64 i],.agg #[.int .i64 b,.int .i64 d,.int .i64 j]] w R:=
 pr jf.cx Tryz.func109 h

def bw.L4(a:O)(b c:Nat)(d:Int)(e:O)(f g:Nat)(i:O)(j l:Nat):=Lt 118 Tryz.f118 4 [(1,.v (.slice a b c)),(2,.loc 2 0),(6,.v (.int .i64 d))] [⟨2,false,25,[(.slice e f g),(.slice i j l)]⟩]
def bw.cx:Pm:=([((true,4),[1,2,6],[2])],[(7,9999,3)])
theorem bw.L4.step{d e c:O}{f g i j b l B:Nat}{a:Int}{w:World}{R:Kt}
  (h:(Br (a<(b:Int)) (Ix a b c fun I=>(∃o,ae w ((I.add ((a).toNat*7)).add 0) [.int .i64 o]/\((∀p,Ext B [] w p->(Pure P 160 #[.agg #[.slice e i j,.slice c b l],.slice d f g,.int .i64 o] p fun J K=>∃q r L M N Q,J= .agg #[.string q,.string r,.string L,.string M,.string N,.string Q]/\(∀m,Ext B [] K m->(Ix a b c fun S=>(∃s,ae m ((S.add ((a).toNat*7)).add 3) [.string s]/\(∀t,Ext B [] m t->(Pure P 146 #[.string s] t (Rq fun T U V X Y Z a0 k=>(Pure P 146 #[.string q] k (Rq fun a2 a3 a4 a5 F W a8 a9=>(Pure P 161 #[.agg #[.bool T,.slice U V X,.slice Y Z a0],.agg #[.bool a2,.slice a3 a4 a5,.slice F W a8]] a9 (Rb fun b0 u=>(Bb b0 (R (.tuple #[.int .i64 a,.int .i64 0]) u) (Ix a b c fun b1=>(∃v,ae m ((b1.add ((a).toNat*7)).add 2) [.string v]/\(Pure P 146 #[.string v] u (Rq fun b2 b3 b4 b5 b6 b7 b8 b9=>(Pure P 146 #[.string r] b9 (Rq fun c0 c1 c2 c3 c4 c5 c6 c7=>(Pure P 161 #[.agg #[.bool b2,.slice b3 b4 b5,.slice b6 b7 b8],.agg #[.bool c0,.slice c1 c2 c3,.slice c4 c5 c6]] c7 (Rb fun c8 x=>(Bb c8 (R (.tuple #[.int .i64 a,.int .i64 0]) x) (az .i64 (a+1)/\(bw.L4 d f g (a+1) e i j c b l B x R))))))))))))))))))))))))/\(∀y,Ext B [] w y->(Pure P 160 #[.agg #[.slice e i j,.slice c b l],.slice d f g,.int .i64 o] y fun c9 d0=>∃z A d1 d2 d3 d4,c9= .agg #[.string z,.string A,.string d1,.string d2,.string d3,.string d4]/\(∀n,Ext B [135] d0 n->(Ix a b c fun d5=>(∃C,ae n ((d5.add ((a).toNat*7)).add 3) [.string C]/\(∀D,Ext B [] n D->(Pure P 146 #[.string C] D (Rq fun d6 d7 d8 d9 e0 e1 e2 e3=>(Pure P 146 #[.string z] e3 (Rq fun e4 e5 e6 e7 e8 e9 f0 f1=>(Pure P 161 #[.agg #[.bool d6,.slice d7 d8 d9,.slice e0 e1 e2],.agg #[.bool e4,.slice e5 e6 e7,.slice e8 e9 f0]] f1 (Rb fun f2 E=>(Bb f2 (R (.tuple #[.int .i64 a,.int .i64 0]) E) (Ix a b c fun f3=>(∃G,ae n ((f3.add ((a).toNat*7)).add 2) [.string G]/\(Pure P 146 #[.string G] E (Rq fun f4 f5 f6 f7 f8 f9 g0 g1=>(Pure P 146 #[.string A] g1 (Rq fun g2 g3 g4 g5 g6 g7 g8 g9=>(Pure P 161 #[.agg #[.bool f4,.slice f5 f6 f7,.slice f8 f9 g0],.agg #[.bool g2,.slice g3 g4 g5,.slice g6 g7 g8]] g9 (Rb fun j0 H=>(Bb j0 (R (.tuple #[.int .i64 a,.int .i64 0]) H) (az .i64 (a+1)/\(bw.L4 d f g (a+1) e i j c b l B H R))))))))))))))))))))))))))) (R (.tuple #[(.int .i64 (-1:Int)),.int .i64 0]) w))):
  bw.L4 d f g a e i j c b l B w R:=
 lr bw.cx Tryz.func118 h
theorem bw.vc{a b c:O}{d e f g i j:Nat}{w:World}{R:Kt}
  (h:(∀l,Ext w.heap.size [] w l->(Pure P 75 #[.agg #[.slice a d e,.slice b f g],.slice c i j] l (Ri fun n m=>(Br (n≠0) (R (.tuple #[.int .i64 0,.int .i64 1]) m) (bw.L4 c i j (0:Int) a d e b f g w.heap.size m R)))))):
  Pure P 118 #[.agg #[.slice a d e,.slice b f g],.slice c i j] w R:=
 pr bw.cx Tryz.func118 h

def bj.L3(a:O)(b c:Nat)(d:O)(e f:Nat)(g:Int)(i:O)(j l:Nat)(m:O)(n o:Nat):=Lt 119 Tryz.f119 3 [(1,.v (.slice a b c)),(2,.loc 2 0),(5,.v (.slice d e f)),(6,.v (.int .i64 g))] [⟨2,false,25,[(.slice i j l),(.slice m n o)]⟩]
def bj.L6(a:O)(b c:Nat)(d:O)(e f:Nat)(g i:Int)(j:O)(l m:Nat)(n:O)(o p:Nat):=Lt 119 Tryz.f119 6 [(1,.v (.slice a b c)),(2,.loc 2 0),(5,.v (.slice d e f)),(6,.v (.int .i64 g)),(7,.v (.int .i64 i))] [⟨2,false,25,[(.slice j l m),(.slice n o p)]⟩]
def bj.cx:Pm:=([((true,3),[1,2,5,6],[2]),((true,6),[1,2,5,6,7],[2])],[(10,15,2),(10,16,2)])
theorem bj.L3.step{f a g i:O}{j l b c m n d o B:Nat}{e:Int}{w:World}{R:Kt}
  (h:(Br (e<(d:Int)) (bj.L6 f j l a b c e (0:Int) g m n i d o B w R) (R (.slice a b c) w))):
  bj.L3 f j l a b c e g m n i d o B w R:=
 lr bj.cx Tryz.func119 h
theorem bj.L6.step{e j f g:O}{i l m n d o c p B:Nat}{b a:Int}{w:World}{R:Kt}
  (h:(Br (a<(d:Int)) (az .i64 (a*(c:Int))/\(az .i64 ((a*(c:Int))+b)/\(Ix ((a*(c:Int))+b) i e fun u=>(∃q,ae w (u.add ((((a*(c:Int))+b)).toNat*1)) [.int .i64 q]/\(Br (q>0) (Ix b c g fun v=>(∃r,ae w ((v.add ((b).toNat*7)).add 0) [.int .i64 r]/\(Ix a d f fun x=>(∃s,ae w ((x.add ((a).toNat*7)).add 0) [.int .i64 s]/\(∀t,Ext B [] w t->(au P (Instr.buildSlice 29 1 #[(0,(.agg #[.int .i64 r,.int .i64 s,.int .i64 q]))]) B [25] t (Rs fun y z A C=>(au P (Builtin.append_ #[29,29] 29 #[.slice j m n,.slice y z A]) B [25] C (Rs fun D E G H=>(az .i64 (a+1)/\(bj.L6 e i l D E G b (a+1) f d o g c p B H R))))))))))) (az .i64 (a+1)/\(bj.L6 e i l j m n b (a+1) f d o g c p B w R))))))) (az .i64 (b+1)/\(bj.L3 e i l j m n (b+1) f d o g c p B w R)))):
  bj.L6 e i l j m n b a f d o g c p B w R:=
 lr bj.cx Tryz.func119 h
theorem bj.vc{a b c:O}{d e f g i j:Nat}{w:World}{R:Kt}
  (h:(∀l,Ext w.heap.size [] w l->(bj.L3 c i j none 0 0 (0:Int) a d e b f g w.heap.size l R))):
  Pure P 119 #[.agg #[.slice a d e,.slice b f g],.slice c i j] w R:=
 pr bj.cx Tryz.func119 h

def aV.L2(a:Int)(b:O)(c d:Nat)(e:O)(f g:Nat):=Lt 143 Tryz.f143 2 [(1,.loc 1 0),(3,.v (.int .i64 a))] [⟨1,false,25,[(.slice b c d),(.slice e f g)]⟩]
def aV.L8(a:Int)(b:O)(c d:Nat)(e:O)(f g:Nat):=Lt 143 Tryz.f143 8 [(1,.loc 1 0),(5,.v (.int .i64 a))] [⟨1,false,25,[(.slice b c d),(.slice e f g)]⟩]
def aV.cx:Pm:=([((true,2),[1,3],[1]),((true,8),[1,5],[1])],[])
theorem aV.L2.step{a:Int}{c d:O}{b e f g B:Nat}{w:World}{R:Kt}
  (h:(Br (a<(b:Int)) (Ix a b c fun q=>(∃r s t u i j l,ae w (q.add ((a).toNat*7)) [.int .i64 r,.int .i64 s,.int .i64 t,.string u,.string i,.string j,.string l]/\(∀m,Ext B [] w m->(Pure P 175 #[.string i] m (Rb fun v n=>(Br (v=false) (R (.bool false) n) (Pure P 175 #[.string j] n (Rb fun x o=>(Br (x=false) (R (.bool false) o) (Pure P 175 #[.string l] o (Rb fun y p=>(Br (y=false) (R (.bool false) p) (az .i64 (a+1)/\(aV.L2 (a+1) c b e d f g B p R)))))))))))))) (aV.L8 (0:Int) c b e d f g B w R))):
  aV.L2 a c b e d f g B w R:=
 lr aV.cx Tryz.func143 h
theorem aV.L8.step{a:Int}{d c:O}{e f b g B:Nat}{w:World}{R:Kt}
  (h:(Br (a<(b:Int)) (Ix a b c fun u=>(∃v x i j l m n,ae w (u.add ((a).toNat*7)) [.int .i64 v,.string x,.string i,.string j,.string l,.string m,.string n]/\(∀o,Ext B [] w o->(Pure P 175 #[.string i] o (Rb fun y p=>(Br (y=false) (R (.bool false) p) (Pure P 175 #[.string j] p (Rb fun z q=>(Br (z=false) (R (.bool false) q) (Pure P 175 #[.string l] q (Rb fun A r=>(Br (A=false) (R (.bool false) r) (Pure P 175 #[.string m] r (Rb fun C s=>(Br (C=false) (R (.bool false) s) (Pure P 175 #[.string n] s (Rb fun D t=>(Br (D=false) (R (.bool false) t) (az .i64 (a+1)/\(aV.L8 (a+1) d e f c b g B t R)))))))))))))))))))) (R (.bool true) w))):
  aV.L8 a d e f c b g B w R:=
 lr aV.cx Tryz.func143 h
theorem aV.vc{a b:O}{c d e f:Nat}{w:World}{R:Kt}
  (h:(∀g,Ext w.heap.size [] w g->(aV.L2 (0:Int) a c d b e f w.heap.size g R))):
  Pure P 143 #[.agg #[.slice a c d,.slice b e f]] w R:=
 pr aV.cx Tryz.func143 h

def kM.cx:Pm:=([],[])
theorem kM.vc{a:Int}{w:World}{R:Kt}
  (h:(Br (a≥(1:Int)) (R (.bool (decide (a<=(1073741824:Int)))) w) (R (.bool false) w))):
  Pure P 144 #[.int .i64 a] w R:=
 pr kM.cx Tryz.func144 h

def lY.cx:Pm:=([],[])
theorem lY.vc{a:ByteArray}{w:World}{R:Kt}
  (h:(∀b,Ext w.heap.size [] w b->(Pure P 177 #[.string a] b fun m n=>∃c d e f g i j o,m= .tuple #[.agg #[.bool c,.slice d e f,.slice g i j],.bool o]/\(∀l,Ext w.heap.size [166] n l->(R (.agg #[.bool c,.slice d e f,.slice g i j]) l))))):
  Pure P 146 #[.string a] w R:=
 pr lY.cx Tryz.func146 h

def jI.cx:Pm:=([],[])
theorem jI.vc{a:ByteArray}{w:World}{R:Kt}
  (h:(Br (((ByteArray.size a:Int):Int)≥(1:Int)) (R (.bool (decide (((ByteArray.size a:Int):Int)<=(64:Int)))) w) (R (.bool false) w))):
  Pure P 147 #[.string a] w R:=
 pr jI.cx Tryz.func147 h

def ay.L3(a:O)(b c:Nat)(d e:Int)(f:O)(g i:Nat)(j:O)(l m:Nat)(n o p q r s:ByteArray)(t:Bool)(u:O)(v x:Nat)(y:O)(z A:Nat)(C:Bool)(D:O)(E G:Nat)(H:O)(I J:Nat)(K:Bool)(L:O)(M N:Nat)(Q:O)(S T:Nat)(U:Bool)(V:O)(X Y:Nat)(Z:O)(a0 h:Nat)(a2:Bool)(a3:O)(a4 a5:Nat)(k:O)(w B:Nat)(a9:Bool)(b0:O)(b1 F:Nat)(P:O)(R W:Nat):=Lt 160 Tryz.f160 3 [(1,.v (.slice a b c)),(2,.v (.int .i64 d)),(3,.loc 3 0),(6,.loc 6 0),(7,.loc 7 0),(8,.loc 8 0),(9,.loc 9 0),(10,.loc 10 0),(11,.loc 11 0),(12,.loc 12 0),(13,.v (.int .i64 e))] [⟨3,false,25,[(.slice f g i),(.slice j l m)]⟩,⟨6,false,135,[(.string n),(.string o),(.string p),(.string q),(.string r),(.string s)]⟩,⟨7,false,166,[(.bool t),(.slice u v x),(.slice y z A)]⟩,⟨8,false,166,[(.bool C),(.slice D E G),(.slice H I J)]⟩,⟨9,false,166,[(.bool K),(.slice L M N),(.slice Q S T)]⟩,⟨10,false,166,[(.bool U),(.slice V X Y),(.slice Z a0 h)]⟩,⟨11,false,166,[(.bool a2),(.slice a3 a4 a5),(.slice k w B)]⟩,⟨12,false,166,[(.bool a9),(.slice b0 b1 F),(.slice P R W)]⟩]
def ay.J6(a:O)(b c:Nat)(d e:Int)(f:O)(g i:Nat)(j:O)(l m:Nat)(n o p q r s:ByteArray)(t:Bool)(u:O)(v x:Nat)(y:O)(z A:Nat)(C:Bool)(D:O)(E G:Nat)(H:O)(I J:Nat)(K:Bool)(L:O)(M N:Nat)(Q:O)(S T:Nat)(U:Bool)(V:O)(X Y:Nat)(Z:O)(a0 h:Nat)(a2:Bool)(a3:O)(a4 a5:Nat)(k:O)(w B:Nat)(a9:Bool)(b0:O)(b1 F:Nat)(P:O)(R W:Nat):=Jt 160 Tryz.f160 6 [(1,.v (.slice a b c)),(2,.v (.int .i64 d)),(3,.loc 3 0),(6,.loc 6 0),(7,.loc 7 0),(8,.loc 8 0),(9,.loc 9 0),(10,.loc 10 0),(11,.loc 11 0),(12,.loc 12 0),(13,.v (.int .i64 e))] [⟨3,false,25,[(.slice f g i),(.slice j l m)]⟩,⟨6,false,135,[(.string n),(.string o),(.string p),(.string q),(.string r),(.string s)]⟩,⟨7,false,166,[(.bool t),(.slice u v x),(.slice y z A)]⟩,⟨8,false,166,[(.bool C),(.slice D E G),(.slice H I J)]⟩,⟨9,false,166,[(.bool K),(.slice L M N),(.slice Q S T)]⟩,⟨10,false,166,[(.bool U),(.slice V X Y),(.slice Z a0 h)]⟩,⟨11,false,166,[(.bool a2),(.slice a3 a4 a5),(.slice k w B)]⟩,⟨12,false,166,[(.bool a9),(.slice b0 b1 F),(.slice P R W)]⟩]
def ay.J7(a:O)(b c:Nat)(d e:Int)(f:O)(g i:Nat)(j:O)(l m:Nat)(n o p q r s:ByteArray)(t:Bool)(u:O)(v x:Nat)(y:O)(z A:Nat)(C:Bool)(D:O)(E G:Nat)(H:O)(I J:Nat)(K:Bool)(L:O)(M N:Nat)(Q:O)(S T:Nat)(U:Bool)(V:O)(X Y:Nat)(Z:O)(a0 h:Nat)(a2:Bool)(a3:O)(a4 a5:Nat)(k:O)(w B:Nat)(a9:Bool)(b0:O)(b1 F:Nat)(P:O)(R W:Nat)(b6 b7 b8:Int)(b9 c0 c1 c2:ByteArray)(c3:Int)(c4 c5 c6 c7 c8 c9:ByteArray):=Jt 160 Tryz.f160 7 [(1,.v (.slice a b c)),(2,.v (.int .i64 d)),(3,.loc 3 0),(6,.loc 6 0),(7,.loc 7 0),(8,.loc 8 0),(9,.loc 9 0),(10,.loc 10 0),(11,.loc 11 0),(12,.loc 12 0),(13,.v (.int .i64 e)),(14,.loc 14 0),(15,.loc 15 0)] [⟨3,false,25,[(.slice f g i),(.slice j l m)]⟩,⟨6,false,135,[(.string n),(.string o),(.string p),(.string q),(.string r),(.string s)]⟩,⟨7,false,166,[(.bool t),(.slice u v x),(.slice y z A)]⟩,⟨8,false,166,[(.bool C),(.slice D E G),(.slice H I J)]⟩,⟨9,false,166,[(.bool K),(.slice L M N),(.slice Q S T)]⟩,⟨10,false,166,[(.bool U),(.slice V X Y),(.slice Z a0 h)]⟩,⟨11,false,166,[(.bool a2),(.slice a3 a4 a5),(.slice k w B)]⟩,⟨12,false,166,[(.bool a9),(.slice b0 b1 F),(.slice P R W)]⟩,⟨14,false,65,[(.int .i64 b6),(.int .i64 b7),(.int .i64 b8),(.string b9),(.string c0),(.string c1),(.string c2)]⟩,⟨15,false,61,[(.int .i64 c3),(.string c4),(.string c5),(.string c6),(.string c7),(.string c8),(.string c9)]⟩]
def ay.cx:Pm:=([((true,3),[1,2,3,6,7,8,9,10,11,12,13],[3,6,7,8,9,10,11,12]),((false,6),[1,2,3,6,7,8,9,10,11,12,13],[3,6,7,8,9,10,11,12]),((false,7),[1,2,3,6,7,8,9,10,11,12,13,14,15],[3,6,7,8,9,10,11,12,14,15])],[(6,9998,8),(8,9998,8)])
theorem ay.L3.step{d a3 a4 e f g i j l m n o p q r:O}{b a5 F W a8 a9 s t u v x y z A C D E G H I J K L M N Q S T U V B:Nat}{c a:Int}{b0 b1 b2 b3 b4 b5:ByteArray}{X Y Z a0 k a2:Bool}{w:World}{R:Kt}
  (h:(Br (a<(b:Int)) (Br (c≠0) (Ix a b d fun b9=>(∃b6,ae w ((b9.add ((a).toNat*3)).add 0) [.int .i64 b6]/\(Br (b6≠c) (az .i64 (a+1)/\(ay.L3 d b a5 c (a+1) a3 F W a4 a8 a9 b0 b1 b2 b3 b4 b5 X e s t f u v Y g x y i z A Z j C D l E G a0 m H I n J K k o L M p N Q a2 q S T r U V B w R)) (ay.J6 d b a5 c a a3 F W a4 a8 a9 b0 b1 b2 b3 b4 b5 X e s t f u v Y g x y i z A Z j C D l E G a0 m H I n J K k o L M p N Q a2 q S T r U V B w R)))) (ay.J6 d b a5 c a a3 F W a4 a8 a9 b0 b1 b2 b3 b4 b5 X e s t f u v Y g x y i z A Z j C D l E G a0 m H I n J K k o L M p N Q a2 q S T r U V B w R)) (∀b7,Ext B [] w b7->(Pure P 192 #[.agg #[.bool X,.slice e s t,.slice f u v]] b7 (Rt fun c0 c1=>(Pure P 192 #[.agg #[.bool Y,.slice g x y,.slice i z A]] c1 (Rt fun c2 c3=>(Pure P 192 #[.agg #[.bool Z,.slice j C D,.slice l E G]] c3 (Rt fun c4 c5=>(Pure P 192 #[.agg #[.bool a0,.slice m H I,.slice n J K]] c5 (Rt fun c6 c7=>(Pure P 192 #[.agg #[.bool k,.slice o L M,.slice p N Q]] c7 (Rt fun c8 c9=>(Pure P 192 #[.agg #[.bool a2,.slice q S T,.slice r U V]] c9 (Rt fun d0 d1=>(∀b8,Ext B [135] d1 b8->(R (.agg #[.string c0,.string c2,.string c4,.string c6,.string c8,.string d0]) b8))))))))))))))))):
  ay.L3 d b a5 c a a3 F W a4 a8 a9 b0 b1 b2 b3 b4 b5 X e s t f u v Y g x y i z A Z j C D l E G a0 m H I n J K k o L M p N Q a2 q S T r U V B w R:=
 lr ay.cx Tryz.func160 h
theorem ay.J6.step{i c a l m n o p q r s t u v x:O}{j y d e b f z A C D E G H I J K L M N Q S T U V X Y Z a0 k a2 B:Nat}{a3 g:Int}{a4 a5 F W a8 a9:ByteArray}{b0 b1 b2 b3 b4 b5:Bool}{w:World}{R:Kt}
  (h:(Ix g j i fun o2=>(∃c5,ae w ((o2.add ((g).toNat*3)).add 1) [.int .i64 c5]/\(Ix g j i fun o3=>(∃c4,ae w ((o3.add ((g).toNat*3)).add 0) [.int .i64 c4]/\((∀e3,Ext B [] w e3->(Pure P 83 #[.agg #[.slice c d e,.slice a b f],.int .i64 c5] e3 (Ri fun e4 e5=>(Ix e4 d c fun o4=>(∃b6 b7 b8 b9 c0 c1 c2,ae w (o4.add ((e4).toNat*7)) [.int .i64 b6,.int .i64 b7,.int .i64 b8,.string b9,.string c0,.string c1,.string c2]/\((∀e6,Ext B [] e5 e6->(Pure P 82 #[.agg #[.slice c d e,.slice a b f],.int .i64 c4] e6 (Ri fun c6 e7=>(Ix c6 b a fun e8=>((∀c7,Ext B [] e7 c7->(∃e9 f0 f1 f2 f3 f4 f5,ae c7 (e8.add ((c6).toNat*7)) [.int .i64 e9,.string f0,.string f1,.string f2,.string f3,.string f4,.string f5]/\(∀f6,Ext B [65,61] c7 f6->(ay.J7 i j y a3 g c d e a b f a4 a5 F W a8 a9 b0 l z A m C D b1 n E G o H I b2 p J K q L M b3 r N Q s S T b4 t U V u X Y b5 v Z a0 x k a2 b6 b7 b8 b9 c0 c1 c2 e9 f0 f1 f2 f3 f4 f5 B f6 R))))/\(∀c8,Ext B [65] e7 c8->(∃f7 f8 f9 g0 g1 g2 g3,ae c8 (e8.add ((c6).toNat*7)) [.int .i64 f7,.string f8,.string f9,.string g0,.string g1,.string g2,.string g3]/\(∀g4,Ext B [61] c8 g4->(ay.J7 i j y a3 g c d e a b f a4 a5 F W a8 a9 b0 l z A m C D b1 n E G o H I b2 p J K q L M b3 r N Q s S T b4 t U V u X Y b5 v Z a0 x k a2 b6 b7 b8 b9 c0 c1 c2 f7 f8 f9 g0 g1 g2 g3 B g4 R)))))))))/\(∀g5,Ext B [] e5 g5->(Pure P 82 #[.agg #[.slice c d e,.slice a b f],.int .i64 c4] g5 (Ri fun c3 c9=>((Ix c3 b a fun g6=>((∀d0,Ext B [] c9 d0->(∃g7 g8 g9 j0 j1 j2 j3,ae d0 (g6.add ((c3).toNat*7)) [.int .i64 g7,.string g8,.string g9,.string j0,.string j1,.string j2,.string j3]/\(∀j4,Ext B [65,61] d0 j4->(ay.J7 i j y a3 g c d e a b f a4 a5 F W a8 a9 b0 l z A m C D b1 n E G o H I b2 p J K q L M b3 r N Q s S T b4 t U V u X Y b5 v Z a0 x k a2 b6 b7 b8 b9 c0 c1 c2 g7 g8 g9 j0 j1 j2 j3 B j4 R))))/\(∀d1,Ext B [65] c9 d1->(∃j5 j6 j7 j8 j9 l0 l1,ae d1 (g6.add ((c3).toNat*7)) [.int .i64 j5,.string j6,.string j7,.string j8,.string j9,.string l0,.string l1]/\(∀l2,Ext B [61] d1 l2->(ay.J7 i j y a3 g c d e a b f a4 a5 F W a8 a9 b0 l z A m C D b1 n E G o H I b2 p J K q L M b3 r N Q s S T b4 t U V u X Y b5 v Z a0 x k a2 b6 b7 b8 b9 c0 c1 c2 j5 j6 j7 j8 j9 l0 l1 B l2 R))))))/\(Ix c3 b a fun o5=>(∀d2,Ext B [65] c9 d2->(∃l3 l4 l5 l6 l7 l8 l9,ae d2 (o5.add ((c3).toNat*7)) [.int .i64 l3,.string l4,.string l5,.string l6,.string l7,.string l8,.string l9]/\(∀m0,Ext B [61] d2 m0->(ay.J7 i j y a3 g c d e a b f a4 a5 F W a8 a9 b0 l z A m C D b1 n E G o H I b2 p J K q L M b3 r N Q s S T b4 t U V u X Y b5 v Z a0 x k a2 b6 b7 b8 b9 c0 c1 c2 l3 l4 l5 l6 l7 l8 l9 B m0 R)))))))))))))))/\(∀m1,Ext B [] w m1->(Pure P 83 #[.agg #[.slice c d e,.slice a b f],.int .i64 c5] m1 (Ri fun m2 o6=>(Ix m2 d c fun o7=>(∃d3 d4 d5 d6 d7 d8 d9,ae w (o7.add ((m2).toNat*7)) [.int .i64 d3,.int .i64 d4,.int .i64 d5,.string d6,.string d7,.string d8,.string d9]/\(∀m3,Ext B [] o6 m3->(Pure P 82 #[.agg #[.slice c d e,.slice a b f],.int .i64 c4] m3 (Ri fun e0 m4=>(Ix e0 b a fun m5=>((∀e1,Ext B [] m4 e1->(∃m6 m7 m8 m9 n0 n1 n2,ae e1 (m5.add ((e0).toNat*7)) [.int .i64 m6,.string m7,.string m8,.string m9,.string n0,.string n1,.string n2]/\(∀n3,Ext B [65,61] e1 n3->(ay.J7 i j y a3 g c d e a b f a4 a5 F W a8 a9 b0 l z A m C D b1 n E G o H I b2 p J K q L M b3 r N Q s S T b4 t U V u X Y b5 v Z a0 x k a2 d3 d4 d5 d6 d7 d8 d9 m6 m7 m8 m9 n0 n1 n2 B n3 R))))/\(∀e2,Ext B [65] m4 e2->(∃n4 n5 n6 n7 n8 n9 o0,ae e2 (m5.add ((e0).toNat*7)) [.int .i64 n4,.string n5,.string n6,.string n7,.string n8,.string n9,.string o0]/\(∀o1,Ext B [61] e2 o1->(ay.J7 i j y a3 g c d e a b f a4 a5 F W a8 a9 b0 l z A m C D b1 n E G o H I b2 p J K q L M b3 r N Q s S T b4 t U V u X Y b5 v Z a0 x k a2 d3 d4 d5 d6 d7 d8 d9 n4 n5 n6 n7 n8 n9 o0 B o1 R)))))))))))))))))))):
  ay.J6 i j y a3 g c d e a b f a4 a5 F W a8 a9 b0 l z A m C D b1 n E G o H I b2 p J K q L M b3 r N Q s S T b4 t U V u X Y b5 v Z a0 x k a2 B w R:=
 jr ay.cx Tryz.func160 h
theorem ay.J7.step{j t u v x y z A C D E G H I J:O}{l K L M N Q S T U V X Y Z a0 k a2 a3 a4 a5 F W a8 a9 b0 b1 b2 b3 b4 b5 b6 B:Nat}{b7 a e6 e7 e8 e9:Int}{b8 b9 c0 c1 c2 c3 f0 c4 c5 c6 f1 f2 f3 c7 c8 c9:ByteArray}{d0 d1 d2 d3 d4 d5:Bool}{w:World}{R:Kt}
  (h:(Ix a l j fun f4=>(∃d6,ae w ((f4.add ((a).toNat*3)).add 2) [.int .i64 d6]/\(Pure P 189 #[.int .i64 d6] w (Rq fun m n o p q r s f5=>(∀d7,Ext B [] f5 d7->(Pure P 146 #[.string c4] d7 (Rq fun f6 f7 f8 f9 g0 g1 g2 g3=>(∀d8,Ext B [] g3 d8->(Pure P 190 #[.agg #[.bool m,.slice n o p,.slice q r s],.agg #[.bool f6,.slice f7 f8 f9,.slice g0 g1 g2]] d8 (Rq fun b c d e f g i g4=>(∀d9,Ext B [166] g4 d9->(Pure P 191 #[.agg #[.bool d0,.slice v S T,.slice x U V],.agg #[.bool b,.slice c d e,.slice f g i]] d9 (Rq fun g5 g6 g7 g8 g9 j0 j1 j2=>(∀e0,Ext B [166] j2 e0->(Pure P 146 #[.string c5] e0 (Rq fun j3 j4 j5 j6 j7 j8 j9 l0=>(Pure P 190 #[.agg #[.bool m,.slice n o p,.slice q r s],.agg #[.bool j3,.slice j4 j5 j6,.slice j7 j8 j9]] l0 (Rq fun l1 l2 l3 l4 l5 l6 l7 l8=>(Pure P 191 #[.agg #[.bool d1,.slice y X Y,.slice z Z a0],.agg #[.bool l1,.slice l2 l3 l4,.slice l5 l6 l7]] l8 (Rq fun l9 m0 m1 m2 m3 m4 m5 m6=>(∀e1,Ext B [166] m6 e1->(Pure P 146 #[.string c6] e1 (Rq fun m7 m8 m9 n0 n1 n2 n3 n4=>(Pure P 190 #[.agg #[.bool m,.slice n o p,.slice q r s],.agg #[.bool m7,.slice m8 m9 n0,.slice n1 n2 n3]] n4 (Rq fun n5 n6 n7 n8 n9 o0 o1 o2=>(Pure P 191 #[.agg #[.bool d2,.slice A k a2,.slice C a3 a4],.agg #[.bool n5,.slice n6 n7 n8,.slice n9 o0 o1]] o2 (Rq fun o3 o4 o5 o6 o7 o8 o9 p0=>(∀e2,Ext B [166] p0 e2->(Pure P 146 #[.string c7] e2 (Rq fun p1 p2 p3 p4 p5 p6 p7 p8=>(Pure P 190 #[.agg #[.bool b,.slice c d e,.slice f g i],.agg #[.bool p1,.slice p2 p3 p4,.slice p5 p6 p7]] p8 (Rq fun p9 q0 q1 q2 q3 q4 q5 q6=>(Pure P 191 #[.agg #[.bool d3,.slice D a5 F,.slice E W a8],.agg #[.bool p9,.slice q0 q1 q2,.slice q3 q4 q5]] q6 (Rq fun q7 q8 q9 r0 r1 r2 r3 r4=>(∀e3,Ext B [166] r4 e3->(Pure P 146 #[.string c8] e3 (Rq fun r5 r6 r7 r8 r9 s0 s1 s2=>(Pure P 190 #[.agg #[.bool b,.slice c d e,.slice f g i],.agg #[.bool r5,.slice r6 r7 r8,.slice r9 s0 s1]] s2 (Rq fun s3 s4 s5 s6 s7 s8 s9 t0=>(Pure P 191 #[.agg #[.bool d4,.slice G a9 b0,.slice H b1 b2],.agg #[.bool s3,.slice s4 s5 s6,.slice s7 s8 s9]] t0 (Rq fun t1 t2 t3 t4 t5 t6 t7 t8=>(∀e4,Ext B [166] t8 e4->(Pure P 146 #[.string c9] e4 (Rq fun t9 v0 v1 v2 v3 v4 v5 v6=>(Pure P 190 #[.agg #[.bool b,.slice c d e,.slice f g i],.agg #[.bool t9,.slice v0 v1 v2,.slice v3 v4 v5]] v6 (Rq fun v7 v8 v9 x0 x1 x2 x3 x4=>(Pure P 191 #[.agg #[.bool d5,.slice I b3 b4,.slice J b5 b6],.agg #[.bool v7,.slice v8 v9 x0,.slice x1 x2 x3]] x4 (Rq fun x5 x6 x7 x8 x9 y0 y1 y2=>(az .i64 (a+1)/\(∀e5,Ext B [166] y2 e5->(ay.L3 j l K b7 (a+1) t L M u N Q b8 b9 c0 c1 c2 c3 g5 g6 g7 g8 g9 j0 j1 l9 m0 m1 m2 m3 m4 m5 o3 o4 o5 o6 o7 o8 o9 q7 q8 q9 r0 r1 r2 r3 t1 t2 t3 t4 t5 t6 t7 x5 x6 x7 x8 x9 y0 y1 B e5 R)))))))))))))))))))))))))))))))))))))))))))))))))))):
  ay.J7 j l K b7 a t L M u N Q b8 b9 c0 c1 c2 c3 d0 v S T x U V d1 y X Y z Z a0 d2 A k a2 C a3 a4 d3 D a5 F E W a8 d4 G a9 b0 H b1 b2 d5 I b3 b4 J b5 b6 e6 e7 e8 f0 c4 c5 c6 e9 f1 f2 f3 c7 c8 c9 B w R:=
 jr ay.cx Tryz.func160 h
theorem ay.vc{a b c:O}{d e f g i j:Nat}{l:Int}{w:World}{R:Kt}
  (h:(∀m,Ext w.heap.size [] w m->(Pure P 189 #[.int .i64 0] m (Rq fun o p q r s t u v=>(Pure P 189 #[.int .i64 0] v (Rq fun x y z A C D E G=>(Pure P 189 #[.int .i64 0] G (Rq fun H I J K L M N Q=>(Pure P 189 #[.int .i64 0] Q (Rq fun S T U V X Y Z a0=>(Pure P 189 #[.int .i64 0] a0 (Rq fun k a2 a3 a4 a5 B F W=>(Pure P 189 #[.int .i64 0] W (Rq fun a9 b0 b1 b2 b3 b4 b5 b6=>(∀n,Ext w.heap.size [] b6 n->(ay.L3 c i j l (0:Int) a d e b f g (⟨#[]⟩:ByteArray) (⟨#[]⟩:ByteArray) (⟨#[]⟩:ByteArray) (⟨#[]⟩:ByteArray) (⟨#[]⟩:ByteArray) (⟨#[]⟩:ByteArray) o p q r s t u x y z A C D E H I J K L M N S T U V X Y Z k a2 a3 a4 a5 B F a9 b0 b1 b2 b3 b4 b5 w.heap.size n R)))))))))))))))):
  Pure P 160 #[.agg #[.slice a d e,.slice b f g],.slice c i j,.int .i64 l] w R:=
 pr ay.cx Tryz.func160 h

def kO.cx:Pm:=([],[])
theorem kO.vc{a b g:O}{c d e f i j:Nat}{l:Int}{w:World}{R:Kt}
  (h:(∀m,Ext w.heap.size [] w m->(Pure P 75 #[.agg #[.slice a c d,.slice b e f],.slice g i j] m (Ri fun z n=>(Br (z≠0) (∀o,Ext w.heap.size [135] n o->(R (.tuple #[(.agg #[(.string ⟨#[]⟩),(.string ⟨#[]⟩),(.string ⟨#[]⟩),(.string ⟨#[]⟩),(.string ⟨#[]⟩),(.string ⟨#[]⟩)]),.int .i64 1]) o)) (Pure P 82 #[.agg #[.slice a c d,.slice b e f],.int .i64 l] n (Ri fun A p=>(Br (A<0) (∀q,Ext w.heap.size [135] p q->(R (.tuple #[(.agg #[(.string ⟨#[]⟩),(.string ⟨#[]⟩),(.string ⟨#[]⟩),(.string ⟨#[]⟩),(.string ⟨#[]⟩),(.string ⟨#[]⟩)]),.int .i64 7]) q)) (Pure P 160 #[.agg #[.slice a c d,.slice b e f],.slice g i j,.int .i64 l] p fun C D=>∃r s t u v x,C= .agg #[.string r,.string s,.string t,.string u,.string v,.string x]/\(∀y,Ext w.heap.size [135] D y->(R (.tuple #[.agg #[.string r,.string s,.string t,.string u,.string v,.string x],.int .i64 0]) y))))))))))):
  Pure P 244 #[.agg #[.slice a c d,.slice b e f],.slice g i j,.int .i64 l] w R:=
 pr kO.cx Tryz.func244 h

end Go.Proofs.YtgfkeadgjkfomaaGreatDoor.F

set_option maxRecDepth 100000
set_option maxHeartbeats 4000000
namespace Go.Proofs.YtgfkeadgjkfomaaGreatDoor.F
open Go Go.RowKit Go.Proofs Go.Proofs.YtgfkeadgjkfomaaGreatDoor.Vc
def cA.L2(a:ByteArray)(b:Int):=Lt 205 Tryz.f205 2 [(0,.v (.string a)),(3,.v (.int .i64 b))] []
def cA.cx:Pm:=([((true,2),[0,3],[])],[])
theorem cA.L2.step{a:ByteArray}{b:Int}{B:Nat}{w:World}{R:Kt}
  (h:(Br (b<(ByteArray.size a:Int)) ((0<=b/\b<(ByteArray.size a:Int))/\(Br (((bt a b):Int)<48) (R (.bool false) w) ((0<=b/\b<(ByteArray.size a:Int))/\(Br (((bt a b):Int)>57) (R (.bool false) w) (az .i64 (b+1)/\(cA.L2 a (b+1) B w R)))))) (Br (((ByteArray.size a:Int):Int)=1) (R (.bool true) w) (Br (((ByteArray.size a:Int):Int)>1) ((0<=(0:Int)/\(0:Int)<(ByteArray.size a:Int))/\(R (.bool (decide (((bt a (0:Int)):Int)≠48))) w)) (R (.bool false) w))))):
  cA.L2 a b B w R:=
 lr cA.cx Tryz.func205 h
theorem cA.vc{a:ByteArray}{w:World}{R:Kt}
  (h:(cA.L2 a (0:Int) w.heap.size w R)):
  Pure P 205 #[.string a] w R:=
 pr cA.cx Tryz.func205 h

def aZ.L3(a:ByteArray)(b:O)(c d:Nat)(e:Int):=Lt 207 Tryz.f207 3 [(0,.v (.string a)),(3,.v (.slice b c d)),(4,.v (.int .i64 e))] []
def aZ.L7(a:ByteArray)(b:O)(c d:Nat)(e f g:Int):=Lt 207 Tryz.f207 7 [(0,.v (.string a)),(3,.v (.slice b c d)),(4,.v (.int .i64 e)),(5,.v (.int .u32 f)),(6,.v (.int .i64 g))] []
def aZ.cx:Pm:=([((true,3),[0,3,4],[]),((true,7),[0,3,4,5,6],[])],[(10,2,2),(10,3,2)])
theorem aZ.L3.step{e:ByteArray}{b:O}{c d B:Nat}{a:Int}{w:World}{R:Kt}
  (h:(Br (a>0) (az .i64 (a - (9:Int))/\(aZ.L7 e b c d a (0:Int) (if(a - (9:Int))>(0:Int)then(a - (9:Int))else(0:Int)) B w R)) (Pure P 237 #[.slice b c d] w (Rs fun f g i j=>(R (.slice f g i) j))))):
  aZ.L3 e b c d a B w R:=
 lr aZ.cx Tryz.func207 h
theorem aZ.L7.step{b:ByteArray}{e:O}{f g B:Nat}{c d a:Int}{w:World}{R:Kt}
  (h:(Br (a<c) (az .u32 ((10:Int)*d)/\((0<=a/\a<(ByteArray.size b:Int))/\(az .u8 ((bt b a) - (48:Int))/\(az .u32 (((bt b a) - (48:Int)))/\(az .u32 (((10:Int)*d)+(((bt b a) - (48:Int))))/\(az .i64 (a+1)/\(aZ.L7 b e f g c (((10:Int)*d)+(((bt b a) - (48:Int)))) (a+1) B w R))))))) (au P (Instr.buildSlice 162 1 #[(0,(.int .u32 d))]) B [] w (Rs fun i j l m=>(au P (Builtin.append_ #[162,162] 162 #[.slice e f g,.slice i j l]) B [] m (Rs fun n o p q=>(az .i64 (c - (9:Int))/\(aZ.L3 b n o p (c - (9:Int)) B q R)))))))):
  aZ.L7 b e f g c d a B w R:=
 lr aZ.cx Tryz.func207 h
theorem aZ.vc{a:ByteArray}{w:World}{R:Kt}
  (h:(aZ.L3 a none 0 0 (ByteArray.size a:Int) w.heap.size w R)):
  Pure P 207 #[.string a] w R:=
 pr aZ.cx Tryz.func207 h

def jJ.cx:Pm:=([],[(1,4,2)])
theorem jJ.vc{a:Int}{w:World}{R:Kt}
  (h:((0<=a/\0<(1000000000:Int))/\((0<=a/\0<(1000000000:Int)/\az .u32 a)/\(au P (Instr.buildSlice 162 2 #[(0,(.int .u32 (a % (1000000000:Int)))),(1,(.int .u32 (a / (1000000000:Int))))]) w.heap.size [] w (Rs fun A1 n1 c1 b=>(Pure P 237 #[(.slice A1 n1 c1)] b (Rs fun A4 n4 c4 c=>(R (.slice A4 n4 c4) c)))))))):
  Pure P 208 #[(.int .u32 a)] w R:=
 pr jJ.cx Tryz.func208 h

def cU.L6(a:O)(b c:Nat)(d:O)(e f:Nat)(g:Int):=Lt 209 Tryz.f209 6 [(0,.v (.slice a b c)),(1,.v (.slice d e f)),(5,.v (.int .i64 g))] []
def cU.cx:Pm:=([((true,6),[0,1,5],[])],[(10,9999,3)])
theorem cU.L6.step{c d:O}{e g f i B:Nat}{a:Int}{w:World}{R:Kt}
  (h:(Br (a≥(0:Int)) (Ix a e c fun r=>(∃j,ae w (r.add ((a).toNat*1)) [.int .u32 j]/\(Ix a f d fun s=>(∃l,ae w (s.add ((a).toNat*1)) [.int .u32 l]/\(Br (j<l) (∀m,Ext B [] w m->(R (.int .i64 (-1:Int)) m)) (∀b,Ext B [] w b->(Ix a e c fun t=>(∃n,ae b (t.add ((a).toNat*1)) [.int .u32 n]/\(Ix a f d fun u=>(∃o,ae b (u.add ((a).toNat*1)) [.int .u32 o]/\(Br (n>o) (∀p,Ext B [] b p->(R (.int .i64 1) p)) (az .i64 (a - (1:Int))/\(∀q,Ext B [] b q->(cU.L6 c e g d f i (a - (1:Int)) B q R)))))))))))))) (R (.int .i64 0) w))):
  cU.L6 c e g d f i a B w R:=
 lr cU.cx Tryz.func209 h
theorem cU.vc{c d:O}{a e b f:Nat}{w:World}{R:Kt}
  (h:(Br ((a:Int)≠(b:Int)) (Br ((a:Int)<(b:Int)) (R (.int .i64 (-1:Int)) w) (R (.int .i64 1) w)) (az .i64 ((a:Int) - (1:Int))/\(cU.L6 c a e d b f ((a:Int) - (1:Int)) w.heap.size w R)))):
  Pure P 209 #[.slice c a e,.slice d b f] w R:=
 pr cU.cx Tryz.func209 h

def bf.L1(a:O)(b c:Nat)(d:O)(e f:Nat):=Lt 210 Tryz.f210 1 [(0,.v (.slice a b c)),(1,.v (.slice d e f))] []
def bf.L4(a b:Int):=Lt 210 Tryz.f210 4 [(5,.v (.int .u64 a)),(6,.v (.int .u64 b))] []
def bf.cx:Pm:=([((true,1),[0,1],[]),((true,4),[5,6],[])],[])
theorem bf.L1.step{e b:O}{c f a d B:Nat}{w:World}{R:Kt}
  (h:(Br ((a:Int)>0) (Br ((c:Int)<=(2:Int)) (Br ((a:Int)<=(2:Int)) (Pure P 238 #[.slice e c f] w fun q r=>∃g,q= .int .u64 g/\(Pure P 238 #[.slice b a d] r fun s t=>∃i,s= .int .u64 i/\(bf.L4 g i B t R))) (Pure P 240 #[.slice e c f,.slice b a d] w fun u v=>∃x y z j l m,u= .tuple #[.slice x y z,.slice j l m]/\(bf.L1 b a d j l m B v R))) (Pure P 240 #[.slice e c f,.slice b a d] w fun A C=>∃D E G n o p,A= .tuple #[.slice D E G,.slice n o p]/\(bf.L1 b a d n o p B C R))) (R (.slice e c f) w))):
  bf.L1 e c f b a d B w R:=
 lr bf.cx Tryz.func210 h
theorem bf.L4.step{b a:Int}{B:Nat}{w:World}{R:Kt}
  (h:(Br (a≠0) ((0<=b/\0<a)/\(∀c,Ext B [] w c->(bf.L4 a (b % a) B c R))) (Pure P 239 #[.int .u64 b] w (Rs fun d e f g=>(R (.slice d e f) g))))):
  bf.L4 b a B w R:=
 lr bf.cx Tryz.func210 h
theorem bf.vc{a b:O}{c d e f:Nat}{w:World}{R:Kt}
  (h:(bf.L1 a c d b e f w.heap.size w R)):
  Pure P 210 #[.slice a c d,.slice b e f] w R:=
 pr bf.cx Tryz.func210 h

def bk.L5(a:O)(b c:Nat)(d:O)(e f:Nat)(g:O)(i j:Nat)(l:Int):=Lt 220 Tryz.f220 5 [(0,.v (.slice a b c)),(1,.v (.slice d e f)),(5,.v (.slice g i j)),(6,.v (.int .i64 l))] []
def bk.L9(a:O)(b c:Nat)(d:O)(e f:Nat)(g:O)(i j:Nat)(l m n:Int):=Lt 220 Tryz.f220 9 [(0,.v (.slice a b c)),(1,.v (.slice d e f)),(5,.v (.slice g i j)),(6,.v (.int .i64 l)),(7,.v (.int .u64 m)),(8,.v (.int .i64 n))] []
def bk.cx:Pm:=([((true,5),[0,1,5,6],[]),((true,9),[0,1,5,6,7,8],[])],[(3,5,2)])
theorem bk.L5.step{f g a:O}{b i j l c d B:Nat}{e:Int}{w:World}{R:Kt}
  (h:(Br (e<(b:Int)) (bk.L9 f b i g j l a c d e (0:Int) (0:Int) B w R) (Pure P 237 #[.slice a c d] w (Rs fun m n o p=>(R (.slice m n o) p))))):
  bk.L5 f b i g j l a c d e B w R:=
 lr bk.cx Tryz.func220 h
theorem bk.L9.step{k l e:O}{m n c o g q B:Nat}{a d b:Int}{w:World}{R:Kt}
  (h:(Br ((b:Int)<(c:Int)) (az .i64 (a+b)/\(Ix (a+b) g e fun C=>(∃(i8:Int),ae w (C.add (((a+b)).toNat*1)) [(.int .u32 i8)]/\(az .u64 (i8)/\(Ix a m k fun a9=>(∃(i10:Int),ae w (a9.add ((a).toNat*1)) [(.int .u32 i10)]/\(az .u64 (i10)/\(Ix b c l fun D=>(∃(i12:Int),ae w (D.add ((b).toNat*1)) [(.int .u32 i12)]/\(az .u64 (i12)/\(az .u64 ((i10)*(i12))/\(az .u64 ((i8)+((i10)*(i12)))/\(az .u64 (((i8)+((i10)*(i12)))+d)/\(az .i64 (a+b)/\((0<=(((i8)+((i10)*(i12)))+d)/\0<(1000000000:Int))/\(az .u32 (((((i8)+((i10)*(i12)))+d) % (1000000000:Int)))/\(Ix (a+b) g e fun i=>(∀r,Ext B [] w r->(∃(x:List Value)(t16:Nat),B<=(i.add (((a+b)).toNat*1)).block/\(i.add (((a+b)).toNat*1)).spot=none/\r.heap[(i.add (((a+b)).toNat*1)).block]? =some (.cells x.toArray t16 (0,0))/\(i.add (((a+b)).toNat*1)).off+1<=x.length/\hasType t16 []=false/\∀z,dd r z (i.add (((a+b)).toNat*1)).block t16 (setCells x (i.add (((a+b)).toNat*1)).off [(.int .u32 (((((i8)+((i10)*(i12)))+d) % (1000000000:Int))))])->((0<=(((i8)+((i10)*(i12)))+d)/\0<(1000000000:Int)/\az .u64 (((i8)+((i10)*(i12)))+d))/\(az .i64 (b+(1:Int))/\(bk.L9 k m n l c o e g q a ((((i8)+((i10)*(i12)))+d) / (1000000000:Int)) (b+(1:Int)) B z R)))))))))))))))))))))) (az .i64 (a+(c:Int))/\(az .u32 (d)/\(Ix (a+(c:Int)) g e fun j=>(∃(y:List Value)(t20:Nat),B<=(j.add (((a+(c:Int))).toNat*1)).block/\(j.add (((a+(c:Int))).toNat*1)).spot=none/\w.heap[(j.add (((a+(c:Int))).toNat*1)).block]? =some (.cells y.toArray t20 (0,0))/\(j.add (((a+(c:Int))).toNat*1)).off+1<=y.length/\hasType t20 []=false/\∀A,dd w A (j.add (((a+(c:Int))).toNat*1)).block t20 (setCells y (j.add (((a+(c:Int))).toNat*1)).off [(.int .u32 (d))])->(az .i64 (a+(1:Int))/\(bk.L5 k m n l c o e g q (a+(1:Int)) B A R)))))))):
  bk.L9 k m n l c o e g q a d b B w R:=
 lr bk.cx Tryz.func220 h
theorem bk.vc{c d:O}{a e b f:Nat}{w:World}{R:Kt}
  (h:(Br ((a:Int)=0) (R (.slice none 0 0) w) (Br ((b:Int)=0) (R (.slice none 0 0) w) (az .i64 ((a:Int)+(b:Int))/\(au P (Instr.makeSlice 162 (.int .i64 ((a:Int)+(b:Int))) (.int .i64 ((a:Int)+(b:Int)))) w.heap.size [] w (Rs fun g i j l=>(bk.L5 c a e d b f g i j (0:Int) w.heap.size l R))))))):
  Pure P 220 #[.slice c a e,.slice d b f] w R:=
 pr bk.cx Tryz.func220 h

def aD.L5(a:O)(b c:Nat)(d:O)(e f:Nat)(g:Int):=Lt 224 Tryz.f224 5 [(0,.v (.slice a b c)),(3,.v (.slice d e f)),(4,.v (.int .i64 g))] []
def aD.L9(a:O)(b c:Nat)(d:O)(e f:Nat)(g i j:Int):=Lt 224 Tryz.f224 9 [(0,.v (.slice a b c)),(3,.v (.slice d e f)),(4,.v (.int .i64 g)),(5,.v (.int .u32 i)),(6,.v (.int .i64 j))] []
def aD.uA(a:O)(b c:Nat)(d e:Int):=Lt 224 Tryz.f224 14 [(3,.v (.slice a b c)),(7,.v (.int .i64 d)),(8,.v (.int .i64 e))] []
def aD.cx:Pm:=([((true,5),[0,3,4],[]),((true,9),[0,3,4,5,6],[]),((true,14),[3,7,8],[])],[(11,5,2),(11,6,2),(17,1,2)])
theorem aD.L5.step{d e:O}{c g a f B:Nat}{b:Int}{w:World}{R:Kt}
  (h:(Br (b<(c:Int)) (Ix b c d fun j=>(∃i,ae w (j.add ((b).toNat*1)) [.int .u32 i]/\(aD.L9 d c g e a f b i (0:Int) B w R))) (az .i64 ((a:Int) - (1:Int))/\(aD.uA e a f (0:Int) ((a:Int) - (1:Int)) B w R)))):
  aD.L5 d c g e a f b B w R:=
 lr aD.cx Tryz.func224 h
theorem aD.L9.step{e g:O}{c i j k B:Nat}{b a d:Int}{w:World}{R:Kt}
  (h:(Br ((d:Int)<(9:Int)) (az .i64 (b+(1:Int))/\(Br (((b+(1:Int)):Int)<(c:Int)) ((0<=a/\0<(10:Int))/\(az .u32 ((48:Int)+(a % (10:Int)))/\(az .u8 (((48:Int)+(a % (10:Int))))/\(au P (Instr.buildSlice 251 1 #[(0,(.int .u8 (((48:Int)+(a % (10:Int))))))]) B [] w (Rs fun A3 n3 c3 l=>(au P (Builtin.append_ #[251,251] 251 #[(.slice g j k),(.slice A3 n3 c3)]) B [] l (Rs fun m n o q=>((0<=a/\0<(10:Int)/\az .u32 a)/\(az .i64 (d+(1:Int))/\(aD.L9 e c i m n o b (a / (10:Int)) (d+(1:Int)) B q R)))))))))) (Br ((a:Int)>(0:Int)) ((0<=a/\0<(10:Int))/\(az .u32 ((48:Int)+(a % (10:Int)))/\(az .u8 (((48:Int)+(a % (10:Int))))/\(au P (Instr.buildSlice 251 1 #[(0,(.int .u8 (((48:Int)+(a % (10:Int))))))]) B [] w (Rs fun r x c9 y=>(au P (Builtin.append_ #[251,251] 251 #[(.slice g j k),(.slice r x c9)]) B [] y (Rs fun z A c12 C=>((0<=a/\0<(10:Int)/\az .u32 a)/\(az .i64 (d+(1:Int))/\(aD.L9 e c i z A c12 b (a / (10:Int)) (d+(1:Int)) B C R)))))))))) (az .i64 (b+(1:Int))/\(aD.L5 e c i g j k (b+(1:Int)) B w R))))) (az .i64 (b+(1:Int))/\(aD.L5 e c i g j k (b+(1:Int)) B w R)))):
  aD.L9 e c i g j k b a d B w R:=
 lr aD.cx Tryz.func224 h
theorem aD.uA.step{c:O}{d g B:Nat}{a b:Int}{w:World}{R:Kt}
  (h:(Br (a<b) (Ix b d c fun s=>(∃p,ae w (s.add ((b).toNat*1)) [.int .u8 p]/\(Ix a d c fun t=>(∃q,ae w (t.add ((a).toNat*1)) [.int .u8 q]/\(Ix a d c fun e=>(∀i,Ext B [] w i->(∃(j:List Value)(l:Nat),B<=(e.add ((a).toNat*1)).block/\(e.add ((a).toNat*1)).spot=none/\i.heap[(e.add ((a).toNat*1)).block]? =some (.cells j.toArray l (0,0))/\(e.add ((a).toNat*1)).off+1<=j.length/\hasType l []=false/\∀m,dd i m (e.add ((a).toNat*1)).block l (setCells j (e.add ((a).toNat*1)).off [.int .u8 p])->(Ix b d c fun f=>(∃(n:List Value)(o:Nat),B<=(f.add ((b).toNat*1)).block/\(f.add ((b).toNat*1)).spot=none/\m.heap[(f.add ((b).toNat*1)).block]? =some (.cells n.toArray o (0,0))/\(f.add ((b).toNat*1)).off+1<=n.length/\hasType o []=false/\∀r,dd m r (f.add ((b).toNat*1)).block o (setCells n (f.add ((b).toNat*1)).off [.int .u8 q])->(az .i64 (a+1)/\(az .i64 (b - (1:Int))/\(aD.uA c d g (a+1) (b - (1:Int)) B r R)))))))))))) (au P (convert 251 9 (.slice c d g)) B [] w (Rt fun u v=>(R (.string u) v))))):
  aD.uA c d g a b B w R:=
 lr aD.cx Tryz.func224 h
theorem aD.vc{b:O}{a c:Nat}{w:World}{R:Kt}
  (h:(Br ((a:Int)=0) (R (.string ⟨#[48]⟩) w) (aD.L5 b a c none 0 0 (0:Int) w.heap.size w R))):
  Pure P 224 #[.slice b a c] w R:=
 pr aD.cx Tryz.func224 h

def cM.L1(a:O)(b c:Nat):=Lt 237 Tryz.f237 1 [(0,.v (.slice a b c))] []
def cM.cx:Pm:=([((true,1),[0],[])],[])
theorem cM.L1.step{b:O}{a c B:Nat}{w:World}{R:Kt}
  (h:(Br ((a:Int)>0) (az .i64 ((a:Int) - (1:Int))/\(Ix ((a:Int) - (1:Int)) a b fun e=>(∃d,ae w (e.add ((((a:Int) - (1:Int))).toNat*1)) [.int .u32 d]/\(Br (d=0) (az .i64 ((a:Int) - (1:Int))/\((0<=((a:Int) - (1:Int))/\((a:Int) - (1:Int))<=(c:Int))/\(cM.L1 b ((((a:Int) - (1:Int))).toNat) c B w R))) (R (.slice b a c) w))))) (R (.slice b a c) w))):
  cM.L1 b a c B w R:=
 lr cM.cx Tryz.func237 h
theorem cM.vc{a:O}{b c:Nat}{w:World}{R:Kt}
  (h:(cM.L1 a b c w.heap.size w R)):
  Pure P 237 #[.slice a b c] w R:=
 pr cM.cx Tryz.func237 h

def cO.L3(a:O)(b c:Nat)(d e:Int):=Lt 238 Tryz.f238 3 [(0,.v (.slice a b c)),(3,.v (.int .u64 d)),(4,.v (.int .i64 e))] []
def cO.cx:Pm:=([((true,3),[0,3,4],[])],[])
theorem cO.L3.step{d:O}{e f B:Nat}{b a:Int}{w:World}{R:Kt}
  (h:(Br (a≥(0:Int)) (az .u64 (b*(1000000000:Int))/\(Ix a e d fun g=>(∃c,ae w (g.add ((a).toNat*1)) [.int .u32 c]/\(az .u64 (c)/\(az .u64 ((b*(1000000000:Int))+(c))/\(az .i64 (a - (1:Int))/\(cO.L3 d e f ((b*(1000000000:Int))+(c)) (a - (1:Int)) B w R))))))) (R (.int .u64 b) w))):
  cO.L3 d e f b a B w R:=
 lr cO.cx Tryz.func238 h
theorem cO.vc{b:O}{a c:Nat}{w:World}{R:Kt}
  (h:(az .i64 ((a:Int) - (1:Int))/\(cO.L3 b a c (0:Int) ((a:Int) - (1:Int)) w.heap.size w R))):
  Pure P 238 #[.slice b a c] w R:=
 pr cO.cx Tryz.func238 h

def kQ.cx:Pm:=([],[(1,11,2)])
theorem kQ.vc{a:Int}{w:World}{R:Kt}
  (h:((0<=a/\0<(1000000000:Int))/\(az .u32 ((a % (1000000000:Int)))/\((0<=a/\0<(1000000000:Int)/\az .u64 a)/\((0<=(a / (1000000000:Int))/\0<(1000000000:Int))/\(az .u32 (((a / (1000000000:Int)) % (1000000000:Int)))/\((0<=a/\0<(1000000000:Int)/\az .u64 a)/\((0<=(a / (1000000000:Int))/\0<(1000000000:Int)/\az .u64 (a / (1000000000:Int)))/\(az .u32 (((a / (1000000000:Int)) / (1000000000:Int)))/\(au P (Instr.buildSlice 162 3 #[(0,(.int .u32 ((a % (1000000000:Int))))),(1,(.int .u32 (((a / (1000000000:Int)) % (1000000000:Int))))),(2,(.int .u32 (((a / (1000000000:Int)) / (1000000000:Int)))))]) w.heap.size [] w (Rs fun A1 n1 c1 b=>(Pure P 237 #[(.slice A1 n1 c1)] b (Rs fun A4 n4 c4 c=>(R (.slice A4 n4 c4) c)))))))))))))):
  Pure P 239 #[(.int .u64 a)] w R:=
 pr kQ.cx Tryz.func239 h

def aS.Bp(a:Int)(b:O)(c d:Nat)(e:O)(f g:Nat)(i:O)(j l:Nat)(m:O)(n o:Nat)(p:Int):=Lt 240 Tryz.f240 13 [(8,.v (.int .i64 a)),(9,.v (.slice b c d)),(10,.v (.slice e f g)),(11,.v (.slice i j l)),(12,.v (.slice m n o)),(13,.v (.int .i64 p))] []
def aS.F6(a:Int)(b:O)(c d:Nat)(e:O)(f g:Nat)(i:O)(j l:Nat)(m:O)(n o:Nat)(p q r:Int):=Lt 240 Tryz.f240 17 [(8,.v (.int .i64 a)),(9,.v (.slice b c d)),(10,.v (.slice e f g)),(11,.v (.slice i j l)),(12,.v (.slice m n o)),(13,.v (.int .i64 p)),(15,.v (.int .u64 q)),(16,.v (.int .u64 r))] []
def aS.cx:Pm:=([((true,13),[8,9,10,11,12,13],[]),((true,17),[8,9,10,11,12,13,15,16],[])],[(9,0,2),(9,4,2),(9,5,2),(9,6,2),(11,4,2),(16,9999,3),(20,6,6)])
theorem aS.Bp.step{a b:Int}{o f e p:O}{q t g u i j r s B:Nat}{w:World}{R:Kt}
  (h:(Br (b≥(0:Int)) (az .i64 (b+a)/\(Ix (b+a) i e fun D=>(∃c,ae w (D.add (((b+a)).toNat*1)) [.int .u32 c]/\(az .u64 (c)/\(az .u64 ((c)*(1000000000:Int))/\(az .i64 (b+a)/\(az .i64 ((b+a) - (1:Int))/\(Ix ((b+a) - (1:Int)) i e fun E=>(∃d,ae w (E.add ((((b+a) - (1:Int))).toNat*1)) [.int .u32 d]/\(az .u64 (d)/\(az .u64 (((c)*(1000000000:Int))+(d))/\(∀l,Ext B [] w l->(az .i64 (a - (1:Int))/\(Ix (a - (1:Int)) g f fun G=>(∃m,ae l (G.add (((a - (1:Int))).toNat*1)) [.int .u32 m]/\(az .u64 (m)/\((0<=(((c)*(1000000000:Int))+(d))/\0<(m)/\az .u64 (((c)*(1000000000:Int))+(d)))/\(az .i64 (a - (1:Int))/\(Ix (a - (1:Int)) g f fun H=>(∃n,ae l (H.add (((a - (1:Int))).toNat*1)) [.int .u32 n]/\(az .u64 (n)/\((0<=(((c)*(1000000000:Int))+(d))/\0<(n))/\(∀v,Ext B [] l v->(aS.F6 a o q t f g u e i j p r s b ((((c)*(1000000000:Int))+(d)) / (m)) ((((c)*(1000000000:Int))+(d)) % (n)) B v R)))))))))))))))))))))))) ((0<=a/\a<=(j:Int))/\(Ix (0:Int) q o fun I=>(∃x,ae w (I.add (((0:Int)).toNat*1)) [.int .u32 x]/\(∀y,Ext B [] w y->(Pure P 237 #[(.slice e ((a).toNat) j)] y (Rs fun J K L M=>(Pure P 261 #[.slice J K L,.int .u32 x] M fun N Q=>∃z A C S,N= .tuple #[.slice z A C,.int .u32 S]/\(Pure P 237 #[.slice p r s] Q (Rs fun T U V X=>(R (.tuple #[.slice T U V,.slice z A C]) X)))))))))))):
  aS.Bp a o q t f g u e i j p r s b B w R:=
 lr aS.cx Tryz.func240 h
theorem aS.F6.step{b a c f:Int}{q d g j:O}{r s e l i m n t B:Nat}{w:World}{R:Kt}
  (h:(Br (f<1000000000) (Br (c≥(1000000000:Int)) (az .u64 (c - (1:Int))/\(az .i64 (b - (1:Int))/\(Ix (b - (1:Int)) e d fun S=>(∀z,Ext B [] w z->(∃u,ae z (S.add (((b - (1:Int))).toNat*1)) [.int .u32 u]/\(az .u64 (u)/\(az .u64 (f+(u))/\(aS.F6 b q r s d e l g i m j n t a (c - (1:Int)) (f+(u)) B z R)))))))) (az .i64 (b - (2:Int))/\(Ix (b - (2:Int)) e d fun T=>(∃v,ae w (T.add (((b - (2:Int))).toNat*1)) [.int .u32 v]/\(az .u64 (v)/\(az .u64 (c*(v))/\(az .u64 (f*(1000000000:Int))/\(az .i64 (a+b)/\(az .i64 ((a+b) - (2:Int))/\(Ix ((a+b) - (2:Int)) i g fun U=>(∃x,ae w (U.add ((((a+b) - (2:Int))).toNat*1)) [.int .u32 x]/\(az .u64 (x)/\(az .u64 ((f*(1000000000:Int))+(x))/\(Br (((c*(v)):Int)>((f*(1000000000:Int))+(x))) (az .u64 (c - (1:Int))/\(az .i64 (b - (1:Int))/\(Ix (b - (1:Int)) e d fun V=>(∀A,Ext B [] w A->(∃y,ae A (V.add (((b - (1:Int))).toNat*1)) [.int .u32 y]/\(az .u64 (y)/\(az .u64 (f+(y))/\(aS.F6 b q r s d e l g i m j n t a (c - (1:Int)) (f+(y)) B A R)))))))) (∀C,Ext B [] w C->(dZ P 262 #[.slice g i m,.slice d e l,.int .i64 a,.int .u64 c] B C fun X D=>HE [] C D/\∃L,X= .int .u32 L/\(Ix a n j fun o=>(∃(E:List Value)(G:Nat),B<=(o.add ((a).toNat*1)).block/\(o.add ((a).toNat*1)).spot=none/\D.heap[(o.add ((a).toNat*1)).block]? =some (.cells E.toArray G (0,0))/\(o.add ((a).toNat*1)).off+1<=E.length/\hasType G []=false/\∀M,dd D M (o.add ((a).toNat*1)).block G (setCells E (o.add ((a).toNat*1)).off [.int .u32 L])->(az .i64 (a - (1:Int))/\(aS.Bp b q r s d e l g i m j n t (a - (1:Int)) B M R)))))))))))))))))))) (∀H,Ext B [] w H->(dZ P 262 #[.slice g i m,.slice d e l,.int .i64 a,.int .u64 c] B H fun Y I=>HE [] H I/\∃N,Y= .int .u32 N/\(Ix a n j fun p=>(∃(J:List Value)(K:Nat),B<=(p.add ((a).toNat*1)).block/\(p.add ((a).toNat*1)).spot=none/\I.heap[(p.add ((a).toNat*1)).block]? =some (.cells J.toArray K (0,0))/\(p.add ((a).toNat*1)).off+1<=J.length/\hasType K []=false/\∀Q,dd I Q (p.add ((a).toNat*1)).block K (setCells J (p.add ((a).toNat*1)).off [.int .u32 N])->(az .i64 (a - (1:Int))/\(aS.Bp b q r s d e l g i m j n t (a - (1:Int)) B Q R)))))))):
  aS.F6 b q r s d e l g i m j n t a c f B w R:=
 lr aS.cx Tryz.func240 h
theorem aS.vc{e f:O}{a g c j:Nat}{w:World}{R:Kt}
  (h:(Pure P 209 #[.slice e a g,.slice f c j] w (Ri fun v i=>(Br (v<0) (R (.tuple #[.slice none 0 0,.slice e a g]) i) (Br ((c:Int)=1) (Ix (0:Int) c f fun x=>(∃p,ae i (x.add (((0:Int)).toNat*1)) [.int .u32 p]/\(Pure P 261 #[.slice e a g,.int .u32 p] i fun y z=>∃q r s t,y= .tuple #[.slice q r s,.int .u32 t]/\(Pure P 208 #[.int .u32 t] z (Rs fun A C D E=>(R (.tuple #[.slice q r s,.slice A C D]) E)))))) (az .i64 ((c:Int) - (1:Int))/\(Ix ((c:Int) - (1:Int)) c f fun G=>(∃d,ae i (G.add ((((c:Int) - (1:Int))).toNat*1)) [.int .u32 d]/\(az .i64 (d)/\(az .i64 ((d)+1)/\((0<=(1000000000:Int)/\0<((d)+1)/\az .i64 1000000000)/\(az .u32 (((1000000000:Int) / ((d)+1)))/\(Pure P 208 #[(.int .u32 (((1000000000:Int) / ((d)+1))))] i (Rs fun l m n H=>(Pure P 220 #[.slice f c j,.slice l m n] H (Rs fun I J K L=>(au P (Instr.buildSlice 162 0 #[]) w.heap.size [] L (Rs fun M N Q S=>(Pure P 220 #[.slice e a g,.slice l m n] S (Rs fun T U V X=>(au P (Builtin.append_ #[162,162] 162 #[.slice M N Q,.slice T U V]) w.heap.size [] X (Rs fun Y Z a0 k=>(au P (Instr.buildSlice 162 2 #[(0,(.int .u32 (0:Int))),(1,(.int .u32 (0:Int)))]) w.heap.size [] k (Rs fun a2 a3 a4 a5=>(au P (Builtin.append_ #[162,162] 162 #[.slice Y Z a0,.slice a2 a3 a4]) w.heap.size [] a5 (Rs fun u B o F=>(az .i64 ((a:Int)+1)/\(Pure P 237 #[.slice u B o] F (Rs fun b3 b b4 W=>((0<=(if(b:Int)>((a:Int)+1)then(b:Int)else((a:Int)+1))/\(if(b:Int)>((a:Int)+1)then(b:Int)else((a:Int)+1))<=(o:Int))/\(az .i64 (((((if(b:Int)>((a:Int)+1)then(b:Int)else((a:Int)+1))).toNat:Nat):Int) - (c:Int))/\(au P (Instr.makeSlice 162 (.int .i64 (((((if(b:Int)>((a:Int)+1)then(b:Int)else((a:Int)+1))).toNat:Nat):Int) - (c:Int))) (.int .i64 (((((if(b:Int)>((a:Int)+1)then(b:Int)else((a:Int)+1))).toNat:Nat):Int) - (c:Int)))) w.heap.size [] W (Rs fun a9 b0 b1 b2=>(az .i64 (((((if(b:Int)>((a:Int)+1)then(b:Int)else((a:Int)+1))).toNat:Nat):Int) - (c:Int))/\(az .i64 ((((((if(b:Int)>((a:Int)+1)then(b:Int)else((a:Int)+1))).toNat:Nat):Int) - (c:Int)) - (1:Int))/\(aS.Bp (c:Int) l m n I J K u (((if(b:Int)>((a:Int)+1)then(b:Int)else((a:Int)+1))).toNat) o a9 b0 b1 ((((((if(b:Int)>((a:Int)+1)then(b:Int)else((a:Int)+1))).toNat:Nat):Int) - (c:Int)) - (1:Int)) w.heap.size b2 R)))))))))))))))))))))))))))))))))))):
  Pure P 240 #[.slice e a g,.slice f c j] w R:=
 pr aS.cx Tryz.func240 h

def aF.L4(a:O)(b c:Nat)(d:O)(e f:Nat)(g:O)(i j:Nat)(l m:Int):=Lt 246 Tryz.f246 4 [(0,.v (.slice a b c)),(1,.v (.slice d e f)),(5,.v (.slice g i j)),(6,.v (.int .u32 l)),(7,.v (.int .i64 m))] []
def aF.J9(a:O)(b c:Nat)(d:O)(e f:Nat)(g:O)(i j:Nat)(l m:Int):=Jt 246 Tryz.f246 9 [(0,.v (.slice a b c)),(1,.v (.slice d e f)),(5,.v (.slice g i j)),(7,.v (.int .i64 l)),(8,.v (.int .u32 m))] []
def aF.cx:Pm:=([((true,4),[0,1,5,6,7],[]),((false,9),[0,1,5,7,8],[])],[(11,3,2),(11,4,2)])
theorem aF.L4.step{d j e:O}{b l f m g i B:Nat}{c a:Int}{w:World}{R:Kt}
  (h:(Br (a<(b:Int)) (Br (a<(b:Int)) (Ix a b d fun q=>(∃n,ae w (q.add ((a).toNat*1)) [.int .u32 n]/\(az .u32 (c+n)/\(aF.J9 d b l j f m e g i a (c+n) B w R)))) (aF.J9 d b l j f m e g i a c B w R)) (Br (a<(f:Int)) (Br (a<(b:Int)) (Ix a b d fun r=>(∃o,ae w (r.add ((a).toNat*1)) [.int .u32 o]/\(az .u32 (c+o)/\(aF.J9 d b l j f m e g i a (c+o) B w R)))) (aF.J9 d b l j f m e g i a c B w R)) (Br (c>0) (Br (a<(b:Int)) (Ix a b d fun s=>(∃p,ae w (s.add ((a).toNat*1)) [.int .u32 p]/\(az .u32 (c+p)/\(aF.J9 d b l j f m e g i a (c+p) B w R)))) (aF.J9 d b l j f m e g i a c B w R)) (Pure P 237 #[.slice e g i] w (Rs fun t u v x=>(R (.slice t u v) x))))))):
  aF.L4 d b l j f m e g i c a B w R:=
 lr aF.cx Tryz.func246 h
theorem aF.J9.step{e d g:O}{i j c k l m B:Nat}{b a:Int}{w:World}{R:Kt}
  (h:(Br ((b:Int)<(c:Int)) (Ix b c d fun n=>(∃(i11:Int),ae w (n.add ((b).toNat*1)) [(.int .u32 i11)]/\(az .u32 (a+i11)/\((0<=(a+i11)/\0<(1000000000:Int))/\(au P (Instr.buildSlice 162 1 #[(0,(.int .u32 ((a+i11) % (1000000000:Int))))]) B [] w (Rs fun o q c12 r=>(au P (Builtin.append_ #[162,162] 162 #[(.slice g l m),(.slice o q c12)]) B [] r (Rs fun x n15 y z=>((0<=(a+i11)/\0<(1000000000:Int)/\az .u32 (a+i11))/\(az .i64 (b+(1:Int))/\(aF.L4 e i j d c k x n15 y ((a+i11) / (1000000000:Int)) (b+(1:Int)) B z R))))))))))) ((0<=a/\0<(1000000000:Int))/\(au P (Instr.buildSlice 162 1 #[(0,(.int .u32 (a % (1000000000:Int))))]) B [] w (Rs fun A n18 C D=>(au P (Builtin.append_ #[162,162] 162 #[(.slice g l m),(.slice A n18 C)]) B [] D (Rs fun E n21 c21 F=>((0<=a/\0<(1000000000:Int)/\az .u32 a)/\(az .i64 (b+(1:Int))/\(aF.L4 e i j d c k E n21 c21 (a / (1000000000:Int)) (b+(1:Int)) B F R)))))))))):
  aF.J9 e i j d c k g l m b a B w R:=
 jr aF.cx Tryz.func246 h
theorem aF.vc{a b:O}{c d e f:Nat}{w:World}{R:Kt}
  (h:(aF.L4 a c d b e f none 0 0 (0:Int) (0:Int) w.heap.size w R)):
  Pure P 246 #[.slice a c d,.slice b e f] w R:=
 pr aF.cx Tryz.func246 h

def aY.L4(a:O)(b c:Nat)(d:O)(e f:Nat)(g:O)(i j:Nat)(l m:Int):=Lt 247 Tryz.f247 4 [(0,.v (.slice a b c)),(1,.v (.slice d e f)),(5,.v (.slice g i j)),(6,.v (.int .i64 l)),(7,.v (.int .i64 m))] []
def aY.J9(a:O)(b c:Nat)(d:O)(e f:Nat)(g:O)(i j:Nat)(l m:Int):=Jt 247 Tryz.f247 9 [(0,.v (.slice a b c)),(1,.v (.slice d e f)),(5,.v (.slice g i j)),(7,.v (.int .i64 l)),(8,.v (.int .i64 m))] []
def aY.cx:Pm:=([((true,4),[0,1,5,6,7],[]),((false,9),[0,1,5,7,8],[])],[(12,3,2),(12,4,2)])
theorem aY.L4.step{f g i:O}{c n d o j l B:Nat}{e a:Int}{w:World}{R:Kt}
  (h:(Br (a<(c:Int)) (Ix a c f fun p=>(∃b,ae w (p.add ((a).toNat*1)) [.int .u32 b]/\(az .i64 (b)/\(az .i64 ((b) - e)/\(Br (a<(d:Int)) (Ix a d g fun q=>(∃m,ae w (q.add ((a).toNat*1)) [.int .u32 m]/\(az .i64 (m)/\(az .i64 (((b) - e) - (m))/\(aY.J9 f c n g d o i j l a (((b) - e) - (m)) B w R))))) (aY.J9 f c n g d o i j l a ((b) - e) B w R)))))) (Pure P 237 #[.slice i j l] w (Rs fun r s t u=>(R (.slice r s t) u))))):
  aY.L4 f c n g d o i j l e a B w R:=
 lr aY.cx Tryz.func247 h
theorem aY.J9.step{c d e:O}{f g i j l m B:Nat}{b a:Int}{w:World}{R:Kt}
  (h:(Br (a<0) (az .i64 (a+1000000000)/\(az .u32 ((a+1000000000))/\(au P (Instr.buildSlice 162 1 #[(0,(.int .u32 ((a+1000000000))))]) B [] w (Rs fun n o p q=>(au P (Builtin.append_ #[162,162] 162 #[.slice e l m,.slice n o p]) B [] q (Rs fun r s t u=>(az .i64 (b+1)/\(aY.L4 c f g d i j r s t (1:Int) (b+1) B u R)))))))) (az .u32 (a)/\(au P (Instr.buildSlice 162 1 #[(0,(.int .u32 (a)))]) B [] w (Rs fun v x y z=>(au P (Builtin.append_ #[162,162] 162 #[.slice e l m,.slice v x y]) B [] z (Rs fun A C D E=>(az .i64 (b+1)/\(aY.L4 c f g d i j A C D (0:Int) (b+1) B E R))))))))):
  aY.J9 c f g d i j e l m b a B w R:=
 jr aY.cx Tryz.func247 h
theorem aY.vc{a b:O}{c d e f:Nat}{w:World}{R:Kt}
  (h:(aY.L4 a c d b e f none 0 0 (0:Int) (0:Int) w.heap.size w R)):
  Pure P 247 #[.slice a c d,.slice b e f] w R:=
 pr aY.cx Tryz.func247 h

def cB.L4(a:O)(b c:Nat)(d:Int)(e:O)(f g:Nat)(i j:Int):=Lt 261 Tryz.f261 4 [(0,.v (.slice a b c)),(1,.v (.int .u32 d)),(6,.v (.slice e f g)),(7,.v (.int .u64 i)),(8,.v (.int .i64 j))] []
def cB.cx:Pm:=([((true,4),[0,1,6,7,8],[])],[(1,2,2)])
theorem cB.L4.step{i f:O}{j o g l B:Nat}{c b a:Int}{w:World}{R:Kt}
  (h:(Br (a≥(0:Int)) (az .u64 (b*(1000000000:Int))/\(Ix a j i fun q=>(∃d,ae w (q.add ((a).toNat*1)) [.int .u32 d]/\(az .u64 (d)/\(az .u64 ((b*(1000000000:Int))+(d))/\(az .u64 (c)/\((0<=((b*(1000000000:Int))+(d))/\0<(c)/\az .u64 ((b*(1000000000:Int))+(d)))/\(az .u32 ((((b*(1000000000:Int))+(d)) / (c)))/\(Ix a g f fun e=>(∃(m:List Value)(n:Nat),B<=(e.add ((a).toNat*1)).block/\(e.add ((a).toNat*1)).spot=none/\w.heap[(e.add ((a).toNat*1)).block]? =some (.cells m.toArray n (0,0))/\(e.add ((a).toNat*1)).off+1<=m.length/\hasType n []=false/\∀p,dd w p (e.add ((a).toNat*1)).block n (setCells m (e.add ((a).toNat*1)).off [(.int .u32 ((((b*(1000000000:Int))+(d)) / (c))))])->(az .u64 (c)/\((0<=((b*(1000000000:Int))+(d))/\0<(c))/\(az .i64 (a - (1:Int))/\(cB.L4 i j o c f g l (((b*(1000000000:Int))+(d)) % (c)) (a - (1:Int)) B p R)))))))))))))) (Pure P 237 #[.slice f g l] w (Rs fun r s t u=>(az .u32 (b)/\(R (.tuple #[.slice r s t,(.int .u32 (b))]) u)))))):
  cB.L4 i j o c f g l b a B w R:=
 lr cB.cx Tryz.func261 h
theorem cB.vc{b:O}{a c:Nat}{d:Int}{w:World}{R:Kt}
  (h:(au P (Instr.makeSlice 162 (.int .i64 (a:Int)) (.int .i64 (a:Int))) w.heap.size [] w (Rs fun e f g i=>(az .i64 ((a:Int) - (1:Int))/\(cB.L4 b a c d e f g (0:Int) ((a:Int) - (1:Int)) w.heap.size i R))))):
  Pure P 261 #[.slice b a c,.int .u32 d] w R:=
 pr cB.cx Tryz.func261 h

def aE.L5(a:O)(b c:Nat)(d:O)(e f:Nat)(g i j l m n:Int):=Lt 262 Tryz.f262 5 [(0,.v (.slice a b c)),(1,.v (.slice d e f)),(2,.v (.int .i64 g)),(3,.v (.int .u64 i)),(9,.v (.int .i64 j)),(10,.v (.int .i64 l)),(11,.v (.int .u64 m)),(12,.v (.int .i64 n))] []
def aE.Ea(a:O)(b c:Nat)(d:O)(e f:Nat)(g i j l m:Int):=Lt 262 Tryz.f262 21 [(0,.v (.slice a b c)),(1,.v (.slice d e f)),(2,.v (.int .i64 g)),(3,.v (.int .u64 i)),(9,.v (.int .i64 j)),(16,.v (.int .u32 l)),(17,.v (.int .i64 m))] []
def aE.cx:Pm:=([((true,5),[0,1,2,3,9,10,11,12],[]),((true,21),[0,1,2,3,9,16,17],[])],[])
theorem aE.L5.step{i m:O}{j o n q B:Nat}{a e d g c b:Int}{w:World}{R:Kt}
  (h:(Br ((b:Int)<d) (Ix b n m fun F=>(∃(i2:Int),ae w (F.add ((b).toNat*1)) [(.int .u32 i2)]/\(az .u64 (i2)/\(az .u64 (e*(i2))/\(az .u64 ((e*(i2))+c)/\((0<=((e*(i2))+c)/\0<(1000000000:Int)/\az .u64 ((e*(i2))+c))/\(az .i64 (a+b)/\(Ix (a+b) j i fun a3=>(∃(i4:Int),ae w (a3.add (((a+b)).toNat*1)) [(.int .u32 i4)]/\(az .i64 (i4)/\((0<=((e*(i2))+c)/\0<(1000000000:Int))/\(az .i64 ((((e*(i2))+c) % (1000000000:Int)))/\(az .i64 ((i4) - ((((e*(i2))+c) % (1000000000:Int))))/\(az .i64 (((i4) - ((((e*(i2))+c) % (1000000000:Int)))) - g)/\(Br (((((i4) - ((((e*(i2))+c) % (1000000000:Int)))) - g):Int)<(0:Int)) (az .i64 ((((i4) - ((((e*(i2))+c) % (1000000000:Int)))) - g)+(1000000000:Int))/\(az .i64 (a+b)/\(az .u32 (((((i4) - ((((e*(i2))+c) % (1000000000:Int)))) - g)+(1000000000:Int)))/\(Ix (a+b) j i fun a5=>(∃(r:List Value)(t7:Nat),B<=(a5.add (((a+b)).toNat*1)).block/\(a5.add (((a+b)).toNat*1)).spot=none/\w.heap[(a5.add (((a+b)).toNat*1)).block]? =some (.cells r.toArray t7 (0,0))/\(a5.add (((a+b)).toNat*1)).off+1<=r.length/\hasType t7 []=false/\∀A,dd w A (a5.add (((a+b)).toNat*1)).block t7 (setCells r (a5.add (((a+b)).toNat*1)).off [(.int .u32 (((((i4) - ((((e*(i2))+c) % (1000000000:Int)))) - g)+(1000000000:Int))))])->(az .i64 (b+(1:Int))/\(aE.L5 i j o m n q a e d (1:Int) (((e*(i2))+c) / (1000000000:Int)) (b+(1:Int)) B A R))))))) (az .i64 (a+b)/\(az .u32 ((((i4) - ((((e*(i2))+c) % (1000000000:Int)))) - g))/\(Ix (a+b) j i fun a9=>(∃(x:List Value)(t11:Nat),B<=(a9.add (((a+b)).toNat*1)).block/\(a9.add (((a+b)).toNat*1)).spot=none/\w.heap[(a9.add (((a+b)).toNat*1)).block]? =some (.cells x.toArray t11 (0,0))/\(a9.add (((a+b)).toNat*1)).off+1<=x.length/\hasType t11 []=false/\∀C,dd w C (a9.add (((a+b)).toNat*1)).block t11 (setCells x (a9.add (((a+b)).toNat*1)).off [(.int .u32 ((((i4) - ((((e*(i2))+c) % (1000000000:Int)))) - g)))])->(az .i64 (b+(1:Int))/\(aE.L5 i j o m n q a e d (0:Int) (((e*(i2))+c) / (1000000000:Int)) (b+(1:Int)) B C R))))))))))))))))))))) (az .i64 (a+d)/\(Ix (a+d) j i fun G=>(∃(i14:Int),ae w (G.add (((a+d)).toNat*1)) [(.int .u32 i14)]/\(az .i64 (i14)/\(az .i64 (c)/\(az .i64 ((i14) - (c))/\(az .i64 (((i14) - (c)) - g)/\(Br (((((i14) - (c)) - g):Int)≥(0:Int)) (az .i64 (a+d)/\(az .u32 ((((i14) - (c)) - g))/\(Ix (a+d) j i fun k=>(∃(y:List Value)(t17:Nat),B<=(k.add (((a+d)).toNat*1)).block/\(k.add (((a+d)).toNat*1)).spot=none/\w.heap[(k.add (((a+d)).toNat*1)).block]? =some (.cells y.toArray t17 (0,0))/\(k.add (((a+d)).toNat*1)).off+1<=y.length/\hasType t17 []=false/\∀D,dd w D (k.add (((a+d)).toNat*1)).block t17 (setCells y (k.add (((a+d)).toNat*1)).off [(.int .u32 ((((i14) - (c)) - g)))])->(az .u32 (e)/\(R (.int .u32 (e)) D)))))) (az .i64 (a+d)/\(az .i64 ((((i14) - (c)) - g)+(1000000000:Int))/\(az .u32 (((((i14) - (c)) - g)+(1000000000:Int)))/\(Ix (a+d) j i fun l=>(∃(z:List Value)(t21:Nat),B<=(l.add (((a+d)).toNat*1)).block/\(l.add (((a+d)).toNat*1)).spot=none/\w.heap[(l.add (((a+d)).toNat*1)).block]? =some (.cells z.toArray t21 (0,0))/\(l.add (((a+d)).toNat*1)).off+1<=z.length/\hasType t21 []=false/\∀E,dd w E (l.add (((a+d)).toNat*1)).block t21 (setCells z (l.add (((a+d)).toNat*1)).off [(.int .u32 (((((i14) - (c)) - g)+(1000000000:Int))))])->(aE.Ea i j o m n q a e d (0:Int) (0:Int) B E R)))))))))))))))):
  aE.L5 i j o m n q a e d g c b B w R:=
 lr aE.cx Tryz.func262 h
theorem aE.Ea.step{e k:O}{g x l y B:Nat}{a j c d b:Int}{w:World}{R:Kt}
  (h:(Br ((b:Int)<c) (az .i64 (a+b)/\(Ix (a+b) g e fun m=>(∃(i24:Int),ae w (m.add (((a+b)).toNat*1)) [(.int .u32 i24)]/\(Ix b l k fun a25=>(∃(i26:Int),ae w (a25.add ((b).toNat*1)) [(.int .u32 i26)]/\(az .u32 (i24+i26)/\(az .u32 ((i24+i26)+d)/\(az .i64 (a+b)/\((0<=((i24+i26)+d)/\0<(1000000000:Int))/\(Ix (a+b) g e fun i=>(∀n,Ext B [] w n->(∃(o:List Value)(t30:Nat),B<=(i.add (((a+b)).toNat*1)).block/\(i.add (((a+b)).toNat*1)).spot=none/\n.heap[(i.add (((a+b)).toNat*1)).block]? =some (.cells o.toArray t30 (0,0))/\(i.add (((a+b)).toNat*1)).off+1<=o.length/\hasType t30 []=false/\∀z,dd n z (i.add (((a+b)).toNat*1)).block t30 (setCells o (i.add (((a+b)).toNat*1)).off [(.int .u32 (((i24+i26)+d) % (1000000000:Int)))])->((0<=((i24+i26)+d)/\0<(1000000000:Int)/\az .u32 ((i24+i26)+d))/\(az .i64 (b+(1:Int))/\(aE.Ea e g x k l y a j c (((i24+i26)+d) / (1000000000:Int)) (b+(1:Int)) B z R))))))))))))))) (az .i64 (a+c)/\(az .i64 (a+c)/\(Ix (a+c) g e fun q=>(∃(i33:Int),ae w (q.add (((a+c)).toNat*1)) [(.int .u32 i33)]/\(az .u32 (i33+d)/\((0<=(i33+d)/\0<(1000000000:Int))/\(Ix (a+c) g e fun a34=>(∃(r:List Value)(t36:Nat),B<=(a34.add (((a+c)).toNat*1)).block/\(a34.add (((a+c)).toNat*1)).spot=none/\w.heap[(a34.add (((a+c)).toNat*1)).block]? =some (.cells r.toArray t36 (0,0))/\(a34.add (((a+c)).toNat*1)).off+1<=r.length/\hasType t36 []=false/\∀A,dd w A (a34.add (((a+c)).toNat*1)).block t36 (setCells r (a34.add (((a+c)).toNat*1)).off [(.int .u32 ((i33+d) % (1000000000:Int)))])->(az .u64 (j - (1:Int))/\(az .u32 ((j - (1:Int)))/\(R (.int .u32 ((j - (1:Int)))) A))))))))))))):
  aE.Ea e g x k l y a j c d b B w R:=
 lr aE.cx Tryz.func262 h
theorem aE.Jm{b c:O}{d e a f B:Nat}{g i:Int}{w:World}{R:Kt}(hB:B<=w.heap.size)
  (h:(aE.L5 b d e c a f g i (a:Int) (0:Int) (0:Int) (0:Int) B w R)):
  dZ P 262 #[.slice b d e,.slice c a f,.int .i64 g,.int .u64 i] B w R:=
 pb aE.cx Tryz.func262 h hB

end Go.Proofs.YtgfkeadgjkfomaaGreatDoor.F

namespace Go.Proofs.YtgfkeadgjkfomaaGreatDoor.B
open Go Go.RowKit Go.Proofs Go.Proofs.YtgfkeadgjkfomaaGreatDoor.Vc

theorem wD:El Tryz.prog 162 217 1 4:=El.of kF

theorem PT{s:ByteArray}{c:UInt8}{r:Tx}(h:bM s=c::r):bt s 0=(c.toNat:Int):=by
 have:bt s 0=(((bM s).getD 0 0).toNat:Int):=rfl;rw[this,h];rfl

theorem Ac(s:ByteArray)(hs:s.size<2147483648)(B:Nat)(w:World)(R:Value->World->Prop)(a:R (.bool (isNat (bM s))) w):∀(d:Nat)(i:Int),0<=i->i<=s.size->s.size - i=d->
  ((bM s).take i.toNat).all px=true->F.cA.L2 s i B w R:=by
 intro d;induction d with
 |zero=>
  intro i h0 h1 j hp;have k9:=dn s;rw[bx om]at hp;refine F.cA.L2.step ⟨fun h=>by omega,fun h=>⟨fun h1=> ?_,fun h1=>⟨fun h2=>⟨om,?_⟩,fun h2=> ?_⟩⟩⟩
  ·obtain⟨c,b⟩:=ni.1 (by omega:(bM s).length=1);rw[b]at a hp;have:isNat [c]=true:=by simp[isNat]at hp⊢;exact hp
   rwa [this]at a
  ·cases hl:bM s with
   |nil=>rw[hl,ot]at k9;omega
   |cons c r=>
    rw[PT hl];rw[hl]at a hp k9;have l:r≠[]:=fun k=>by subst k;simp at k9;omega
    have:isNat (c::r)=decide ((c.toNat:Int)≠48):=by
     unfold isNat;rw[hp];have e:(c==48)=decide (c.toNat=48):=by
      by_cases k:c=48
      ·subst k;rfl
      ·have:c.toNat≠48:=fun g=>k (HP.1 g)
       simp[k,this]
     have h2:((c::r).length==1)=false:=by simp[l]
     have o:((c.toNat:Int)≠48)↔¬c.toNat=48:=om;simp only[h2,List.isEmpty_cons,GK,lI,vx,Fh,List.head?_cons];by_cases k:c.toNat=48
     ·have:c=48:=HP.1 k;subst this;simp
     ·have:c≠48:=fun g=>k (by rw[g];rfl)
      rw[fc (show(c.toNat:Int)≠48 by omega)];simp[this]
    rwa [this]at a
  ·have:bM s=[]:=gz om;rw[this]at a;exact a
 |succ d ih=>
  intro i h0 h1 j hp;have k9:=dn s;obtain⟨c,b,hb,q⟩:=uT h0 (show i<s.size by omega);have bad:px c=false->isNat (bM s)=false:=by
   intro m;unfold isNat;have:(bM s).all px=false:=by
    rw[List.all_eq_false];exact⟨c,hJ b,by simp[m]⟩
   rw[this];simp
  refine F.cA.L2.step ⟨fun h=>⟨om,fun h2=> ?_,fun h2=>⟨om,fun h3=> ?_,fun h3=>⟨ir,?_⟩⟩⟩,fun h=>by omega⟩
  ·rw[bad (by simp[px];omega)]at a;exact a
  ·rw[bad (by simp[px];omega)]at a;exact a
  ·have n:px c=true:=by simp[px];omega
   refine ih (i+1) om om om ?_;rw[show(i+1).toNat=i.toNat+1 by omega,eN,b];simp[hp,n]

theorem tK(s:ByteArray)(hs:s.size<2147483648)(w:World):Pure Tryz.prog 205 #[.string s] w fun v _=>v= .bool (isNat (bM s)):=
 F.cA.vc (Ac s hs _ _ _ rfl s.size 0 om om om sm)

theorem BP(B:Nat)(w:World)(A:Option Addr)(c:Nat)(R:Value->World->Prop):∀(n:Nat)(ws:List Nat),gM w A ws->ws.length=n->n<2147483648->n<=c->Small ws->
  (∀m,m<=n->Norm (ws.take m)->wv (ws.take m)=wv ws->R (.slice A m c) w)->F.cM.L1 A n c B w R:=by
 intro n;induction n with
 |zero=>
  intro ws h hl i hn hs d;refine F.cM.L1.step ⟨fun h=>by omega,fun _=>d 0 om (by simp[Norm]) (by have:=gz hl;subst this;rfl)⟩
 |succ n ih=>
  intro ws h hl i hn hs d;obtain⟨a,l,x,hx,b⟩:=h.cell (j:=((n+1:Nat):Int) - 1) om om;have e:(((n+1:Nat):Int) - 1).toNat=n:=om;refine F.cM.L1.step ⟨fun _=>⟨ir,om,a,l,_,b,fun h0=>⟨ir,om,?_⟩,fun h0=> ?_⟩,fun h=>by omega⟩
  ·rw[e]at hx⊢;have o:x=0:=om;subst o;have q:=vU hl hx;refine ih (ws.take n) (h.take n) (by simp;omega) om om (hs.take n) fun m hm h1 h2=>d m om ?_ ?_
   ·rw[AD,iv hm]at h1;exact h1
   ·rw[AD,iv hm]at h2;rw[h2,q]
  ·rw[e]at hx;have g:ws.take (n+1)=ws:=bx om;refine d (n+1) lf ?_ (by rw[g]);rw[g];unfold Norm;rw[yn,hl,uP,hx];intro k;cases k;exact h0 rfl

theorem wE{w:World}{A:Option Addr}{n c:Nat}{ws:List Nat}(h:gM w A ws)(hl:ws.length=n)(hn:n<=c)(a:n<2147483648)(hs:Small ws):
  Pure Tryz.prog 237 #[.slice A n c] w fun v w'=>w'=w/\∃m,v= .slice A m c/\ee w A m c (wv ws)/\m<=n/\Norm (ws.take m)/\wv (ws.take m)=wv ws:=
 F.cM.vc (BP _ _ _ _ _ n ws h hl a hn hs fun m hm h1 h2=>⟨rfl,m,rfl,⟨ws.take m,h.take m,by simp;omega,om,om,hs.take m,h1,h2⟩,hm,h1,h2⟩)
theorem fZ{w:World}{B:Nat}{A:Option Addr}{n c:Nat}{ws:List Nat}(h:du w B A n c ws)(hn:n<2147483648)(hs:Small ws):
  Pure Tryz.prog 237 #[.slice A n c] w fun v w'=>w'=w/\∃m,v= .slice A m c/\BF w B A m c (wv ws)/\ee w A m c (wv ws):=
 pm (wE h.sl h.len h.cap hn hs) fun v w' _ ⟨e,m,a,h2,h3,h4,b⟩=>⟨e,m,a,⟨ws.take m,h.take h3 (by
  rcases h.2 with⟨e,a⟩|⟨g,cap,cur,e,_⟩
  ·right;omega
  ·cases e;exact .inl sm),hs.take m,h4,b⟩,h2⟩

theorem Ed{w0:World}{A0 A1:Option Addr}{n0 c0 n1 c1:Nat}{a b:List Nat}{R:Value->World->Prop}(ha:gM w0 A0 a)(c:a.length=n0)(q:Small a)(hb:gM w0 A1 b)(l:b.length=n1)(r:Small b)(x:n0=n1)(hn:n0<=1000000)
  (g:∀w,R (.int .i64 (eW (wv a) (wv b))) w):
  ∀(i:Nat)(w:World),i<=n0->Below w0.heap.size w0 w->a.drop i=b.drop i->F.cU.L6 A0 n0 c0 A1 n1 c1 ((i:Int) - 1) w0.heap.size w R:=by
 intro i;induction i with
 |zero=>
  intro w hi hw d;refine F.cU.L6.step ⟨fun h=>by omega,fun _=> ?_⟩;have:=g w;have e:a=b:=by simpa using d
  subst e;simpa[eW]using this
 |succ i ih=>
  intro w hi hw d;have e:((i+1:Nat):Int) - 1=i:=om;rw[e];refine F.cU.L6.step ⟨fun _=> ?_,fun h=>by omega⟩;refine(ha.aj hw lf).load c om om ?_;refine(hb.aj hw lf).load l om om ?_;rw[dq];refine⟨fun h m n=> ?_,fun h m n=> ?_⟩
  ·have:=g m;have h2:=vZ q om om d (show a.getD i 0<b.getD i 0 by omega);simp only[eW]at this;rwa [cc om]at this
  ·have j:=hw.trans n.below;refine(ha.aj j lf).load c om om ?_;refine(hb.aj j lf).load l om om ?_;rw[dq];refine⟨fun h3 k o=> ?_,fun h3=>⟨ir,fun k o=> ?_⟩⟩
   ·have:=g k;have h2:=vZ r om om d.symm (show b.getD i 0<a.getD i 0 by omega);simp only[eW]at this;rwa [ar om,cc om]at this
   ·refine ih k om (j.trans o.below) ?_;have h1:a.getD i 0=b.getD i 0:=om;rw[ec (by omega:i<a.length),ec (by omega:i<b.length),d]
    congr 1
    rw[cN,cN,af om,af om]at h1;exact h1

theorem wF{w:World}{A0 A1:Option Addr}{n0 c0 n1 c1 x y:Nat}(ha:ee w A0 n0 c0 x)(hb:ee w A1 n1 c1 y)(hx:x<dL)(hy:y<dL):
  Pure Tryz.prog 209 #[.slice A0 n0 c0,.slice A1 n1 c1] w fun v _=>v= .int .i64 (eW x y):=by
 have j:=ha.len hx;have k:=hb.len hy;obtain⟨a,d,a2,a3,a4,a5,e,rfl⟩:=ha;obtain⟨b,b1,g,l,m,c,i,rfl⟩:=hb;refine F.cU.vc ⟨fun h=>⟨fun h1=> ?_,fun h1=> ?_⟩,fun h=>⟨ir,?_⟩⟩
 ·have h2:=oy a5 i om;simp only[eW];rw[cc om]
 ·have h2:=oy c e om;simp only[eW];rw[ar om,cc om]
 ·refine Ed d a2 a5 b1 g c om om (fun w=>rfl) n0 w lf (Below.refl _ _) ?_;rw[dp om,dp om]

theorem qD{l:List Nat}{n:Nat}(h:l.length<=n):l.getD n 0=0:=by rw[cN,kl h];rfl

section
variable {w0:World} {A0 A1:Option Addr} {n0 c0 n1 c1:Nat} {a b:List Nat} {R:Value->World->Prop}

theorem PU(hb:gM w0 A1 b)(m:b.length=n1)(o:Small b){w:World}{A:Option Addr}{n c s:Nat}{ws:List Nat}(hn:n<=1000000)(hw:Below w0.heap.size w0 w)(ho:du w w0.heap.size A n c ws)(hs:s<=1000000000)
  (h:∀A' c' w',du w' w0.heap.size A' (n+1) c' (ws++[(s+b.getD n 0) % 1000000000])->Below w0.heap.size w0 w'->F.aF.L4 A0 n0 c0 A1 n1 c1 A' (n+1) c' ((s+b.getD n 0) / 1000000000:Nat) (n+1:Nat) w0.heap.size w' R):
  F.aF.J9 A0 n0 c0 A1 n1 c1 A n c n s w0.heap.size w R:=by
 have g:=o.getD n;have k:=sc n;refine F.aF.J9.step ⟨fun h1=> ?_,fun h1=>⟨⟨om,om⟩,?_⟩⟩
 ·refine(hb.aj hw lf).load m om om ?_;rw[dq];have q:(s:Int)+((b.getD n 0:Nat):Int)=((s+b.getD n 0:Nat):Int):=om;rw[q];refine⟨ir,⟨om,om⟩,?_⟩;refine nt (B0:=w0.heap.size) wD lf ho hn hw.size sm om fun A' c' w' d _ e=>⟨⟨om,om,ir⟩,ir,?_⟩
  have i:(((s+b.getD n 0:Nat):Int) % 1000000000).toNat=(s+b.getD n 0) % 1000000000:=om;have j:((s+b.getD n 0:Nat):Int) / 1000000000=(((s+b.getD n 0) / 1000000000:Nat):Int):=om;rw[i]at d;rw[j,k];exact h A' c' w' d (hw.trans e)
 ·have r:=qD (l:=b) (n:=n) om;rw[r,ob]at h;refine nt (B0:=w0.heap.size) wD lf ho hn hw.size sm om fun A' c' w' d _ e=>⟨⟨om,om,ir⟩,ir,?_⟩
  have i:((s:Int) % 1000000000).toNat=s % 1000000000:=om;have j:(s:Int) / 1000000000=((s / 1000000000:Nat):Int):=om;rw[i]at d;rw[j,k];exact h A' c' w' d (hw.trans e)

theorem Kk(ha:gM w0 A0 a)(e:a.length=n0)(y:Small a)(hb:gM w0 A1 b)(z:b.length=n1)(l:Small b)(h0:n0<=500000)(h1:n1<=500000)
  (o:∀A n c w',ee w' A n c (wv a+wv b)->R (.slice A n c) w'):
  ∀(d:Nat)(n:Nat)(A:Option Addr)(c:Nat)(w:World)(ws:List Nat)(s:Nat),max n0 n1+1 - n=d->n<=max n0 n1+1->du w w0.heap.size A n c ws->Small ws->Below w0.heap.size w0 w->s<=1->(max n0 n1<n->s=0)->
   wv ws+1000000000^n*s=wv (a.take n)+wv (b.take n)->
   F.aF.L4 A0 n0 c0 A1 n1 c1 A n c s n w0.heap.size w R:=by
 intro d;induction d with
 |zero=>
  intro n A c w ws s B hn ho hs hw C g inv;have i:=g om;subst i;rw[bx om,bx om]at inv;refine F.aF.L4.step ⟨fun h=>by omega,fun _=>⟨fun h=>by omega,fun _=>⟨fun h=>by omega,fun _=> ?_⟩⟩⟩;refine pm (fZ ho om hs) ?_;rintro v D _ ⟨rfl,m,rfl,_,h⟩;rw[show wv ws=wv a+wv b by omega]at h;exact⟨_,_,_,rfl,o _ _ _ _ h⟩
 |succ d ih=>
  intro n A c w ws s B hn ho hs hw C g inv;have E:=y.getD n;have G:=l.getD n;have j:F.aF.J9 A0 n0 c0 A1 n1 c1 A n c n ((s+a.getD n 0:Nat):Int) w0.heap.size w R:=by
   refine PU hb z l om hw ho om fun A' c' w' H I=> ?_
   refine ih (n+1) A' c' w' _ _ om om H (hs.append (Small.cons om Small.nil)) I om (fun hm=> ?_) ?_
   ·rw[qD om,qD om];omega
   ·rw[dT,cY,cY,ho.len,hL];simp only[wv,CO,ob];have hm:=ta (s+a.getD n 0+b.getD n 0) 1000000000;generalize (s+a.getD n 0+b.getD n 0) % 1000000000=r at*;generalize (s+a.getD n 0+b.getD n 0) / 1000000000=q at*;generalize 1000000000^n=P at*;clear E G g;grind
  have k:(((n:Int)<(n0:Int))->((0<=(n:Int)/\(n:Int)<n0)/\∃x,A0=some x/\(∃(i2:Int),ae w (x.add (((n:Int)).toNat*1)) [(.int .u32 i2)]/\(az .u32 ((s:Int)+i2)/\(F.aF.J9 A0 n0 c0 A1 n1 c1 A n c n ((s:Int)+i2) w0.heap.size w R)))))/\(¬((n:Int)<(n0:Int))->(F.aF.J9 A0 n0 c0 A1 n1 c1 A n c n s w0.heap.size w R)):=by
   refine⟨fun h=> ?_,fun h=> ?_⟩
   ·refine(ha.aj hw lf).load e om om ?_;rw[dq];exact⟨ir,by simpa using j⟩
   ·rw[qD om,ob]at j;exact j
  refine F.aF.L4.step ⟨fun _=>k,fun K=>⟨fun _=>k,fun L=>⟨fun _=>k,fun J=> ?_⟩⟩⟩;have:s=0:=om;subst this;rw[bx om,bx om]at inv;refine pm (fZ ho om hs) ?_;rintro v D _ ⟨rfl,m,rfl,_,h⟩;rw[show wv ws=wv a+wv b by omega]at h;exact⟨_,_,_,rfl,o _ _ _ _ h⟩

theorem MZ{w:World}{A:Option Addr}{n c:Nat}{s:Int}{ws:List Nat}(hn:n<=1000000)(hw:Below w0.heap.size w0 w)(ho:du w w0.heap.size A n c ws)(hs: -1000000000<=s/\s<1000000000)
  (h:∀A' c' w' (x d:Nat),x<1000000000->d<=1->(x:Int)=s+1000000000*d->du w' w0.heap.size A' (n+1) c' (ws++[x])->Below w0.heap.size w0 w'->F.aY.L4 A0 n0 c0 A1 n1 c1 A' (n+1) c' d (n+1:Nat) w0.heap.size w' R):
  F.aY.J9 A0 n0 c0 A1 n1 c1 A n c n s w0.heap.size w R:=by
 have i:=sc n;refine F.aY.J9.step ⟨fun h1=>⟨ir,ir,?_⟩,fun h1=>⟨ir,?_⟩⟩
 ·refine nt (B0:=w0.heap.size) wD lf ho hn hw.size sm om fun A' c' w' e _ g=>⟨ir,?_⟩
  rw[i];exact h A' c' w' _ 1 om om om e (hw.trans g)
 ·refine nt (B0:=w0.heap.size) wD lf ho hn hw.size sm om fun A' c' w' e _ g=>⟨ir,?_⟩
  rw[i];exact h A' c' w' _ 0 om om om e (hw.trans g)

theorem H6(ha:gM w0 A0 a)(e:a.length=n0)(k:Small a)(hb:gM w0 A1 b)(o:b.length=n1)(q:Small b)(h0:n0<=500000)(h1:n1<=n0)(hle:wv b<=wv a)
  (r:∀A n c w',ee w' A n c (wv a - wv b)->R (.slice A n c) w'):
  ∀(d:Nat)(n:Nat)(A:Option Addr)(c:Nat)(w:World)(ws:List Nat)(s:Nat),n0 - n=d->n<=n0->du w w0.heap.size A n c ws->Small ws->Below w0.heap.size w0 w->s<=1->
   wv ws+wv (b.take n)=wv (a.take n)+1000000000^n*s->
   F.aY.L4 A0 n0 c0 A1 n1 c1 A n c s n w0.heap.size w R:=by
 intro d;induction d with
 |zero=>
  intro n A c w ws s y hn ho hs hw z inv;rw[bx om,bx om]at inv;refine F.aY.L4.step ⟨fun h=>by omega,fun _=> ?_⟩;have g:=ig hs;rw[ho.len]at g;have i:s=0:=by
   rcases(by omega:s=0∨s=1)with h|h
   ·exact h
   ·subst h;omega
  subst i;refine pm (fZ ho om hs) ?_;rintro v J _ ⟨rfl,m,rfl,_,h⟩;rw[show wv ws=wv a - wv b by omega]at h;exact⟨_,_,_,rfl,r _ _ _ _ h⟩
 |succ d ih=>
  intro n A c w ws s y hn ho hs hw z inv;have B:=k.getD n;have C:=q.getD n;have j:F.aY.J9 A0 n0 c0 A1 n1 c1 A n c n ((a.getD n 0:Nat) - (s:Int) - (b.getD n 0:Nat)) w0.heap.size w R:=by
   refine MZ om hw ho om fun A' c' w' x D hx E he G H=> ?_
   refine ih (n+1) A' c' w' _ _ om om G (hs.append (Small.cons hx Small.nil)) H E ?_;rw[dT,cY,cY,ho.len,hL];simp only[wv,CO,ob];have I:x+s+b.getD n 0=a.getD n 0+1000000000*D:=om;generalize 1000000000^n=P at*;clear B C he;grind
  refine F.aY.L4.step ⟨fun _=> ?_,fun h=>by omega⟩;refine(ha.aj hw lf).load e om om ?_;rw[dq];refine⟨ir,ir,fun h=> ?_,fun h=> ?_⟩
  ·refine(hb.aj hw lf).load o om om ?_;rw[dq];exact⟨ir,ir,j⟩
  ·rw[qD (l:=b) om]at j;simpa using j
end

theorem M0{w:World}{A0 A1:Option Addr}{n0 c0 n1 c1 x y:Nat}(ha:ee w A0 n0 c0 x)(hb:ee w A1 n1 c1 y)(hx:x<dL)(hy:y<dL):
  Pure Tryz.prog 246 #[.slice A0 n0 c0,.slice A1 n1 c1] w fun v w'=>∃A n c,v= .slice A n c/\ee w' A n c (x+y):=by
 have h:=ha.len hx;have i:=hb.len hy;obtain⟨a,d,a2,a3,a4,a5,j,rfl⟩:=ha;obtain⟨b,b1,e,l,m,g,o,rfl⟩:=hb;refine F.aF.vc ?_;exact Kk d a2 a5 b1 e g om om (fun A n c w' k=>⟨A,n,c,rfl,k⟩) _ 0 none 0 w [] 0 rfl om (World.ownsRow_nil w _ _ _) Small.nil (Below.refl _ _) om om (by simp[wv])

theorem Cv{w:World}{A0 A1:Option Addr}{n0 c0 n1 c1 x y:Nat}(ha:ee w A0 n0 c0 x)(hb:ee w A1 n1 c1 y)(hx:x<dL)(d:y<=x):
  Pure Tryz.prog 247 #[.slice A0 n0 c0,.slice A1 n1 c1] w fun v w'=>∃A n c,v= .slice A n c/\ee w' A n c (x - y):=by
 have j:=ha.len hx;have l:=hb.len (kx d hx);obtain⟨a,e,a2,a3,a4,a5,m,rfl⟩:=ha;obtain⟨b,b1,g,o,q,h,i,rfl⟩:=hb;have hlen:n1<=n0:=by
  apply ea;intro k;have:=oy a5 i om;omega
 refine F.aY.vc ?_;exact H6 e a2 a5 b1 g h om om d (fun A n c w' k=>⟨A,n,c,rfl,k⟩) _ 0 none 0 w [] 0 rfl om (World.ownsRow_nil w _ _ _) Small.nil (Below.refl _ _) om (by simp[wv])
end Go.Proofs.YtgfkeadgjkfomaaGreatDoor.B
