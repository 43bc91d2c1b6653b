/- Part 7 of the proofs that: SequenceStates, SequenceOrders and SequenceChecks hold for every input: the program's functions return what the reference functions return -/
import Derived.Test.YtgfkeadgjkfomaaGreatDoorS6
import Derived.Test.YtgfkeadgjkfomaaGreatDoorProg
set_option linter.unusedVariables false
set_option linter.unusedSimpArgs false
namespace Go.Proofs.YtgfkeadgjkfomaaGreatDoor.B
open Go Go.RowKit Go.Proofs Go.Proofs.YtgfkeadgjkfomaaGreatDoor.Vc

theorem du.ext{w d:World}{B:Nat}{A:Option Addr}{n c:Nat}{ws:List Nat}(h:du w B A n c ws)(e:Ext B [] w d):du d B A n c ws:=
 h.other fun b hb=>by
  rcases e.other b (h.sA b hb).2 with h1|⟨t,g,_⟩
  ·exact h1
  ·cases g

theorem du.SX{w:World}{B:Nat}{A:Option Addr}{n c:Nat}{ws:List Nat}(ho:du w B A n c ws){j x:Int}(h0:0<=j)(h1:j<n)(hx:0<=x){i:List qO}(hb:hasType 217 i=false){K:World->Prop}
  (h:∀d g,Ext B [] w d->du g B A n c (ws.set j.toNat x.toNat)->Below B d g->(∀k,some k≠Value.ownBlock (.slice A n c)->g.heap[k]? =d.heap[k]?)->K g):
  (0<=j/\j<n)/\∃a,A=some a/\∀d,Ext B [] w d->∃(cs:List Value)(t:Nat),B<=(a.add (j.toNat*1)).block/\(a.add (j.toNat*1)).spot=none/\d.heap[(a.add (j.toNat*1)).block]? =some (.cells cs.toArray t (0,0))/\
   (a.add (j.toNat*1)).off+1<=cs.length/\hasType t i=false/\∀w1,dd d w1 (a.add (j.toNat*1)).block t (setCells cs (a.add (j.toNat*1)).off [.int .u32 x])->K w1:=by
 obtain⟨_,a,l,_⟩:=ho.store h0 h1 hx hb (K:=fun _=>True) (fun _ _ _ _=>trivial);refine⟨⟨h0,h1⟩,a,l,fun d e=> ?_⟩;obtain⟨_,a',m,k⟩:=(ho.ext e).store h0 h1 hx hb (K:=K) (fun g o q r=>h d g e o q r);rw[l]at m;cases m;exact k

section
variable {w0:World} {A1 A0:Option Addr} {n1 c1 n0 c0:Nat} {a b:List Nat} {R:Value->World->Prop}

theorem yp(ha:gM w0 A0 a)(B:a.length=n0)(J:Small a)(hb:gM w0 A1 b)(K:b.length=n1)(L:Small b){i:Nat}(M:i<n0){n:Nat}(hn:i+n1<n)(QU:n<=1000000){A:Option Addr}{c:Nat}{base:Nat}
  (C:∀w ws,qu w w0.heap.size A n c ws (i+1+n1)->Below w0.heap.size w0 w->wv ws=base+1000000000^i*a.getD i 0*wv b->
   F.bk.L5 A0 n0 c0 A1 n1 c1 A n c ((i:Int)+1) w0.heap.size w R):
  ∀(d k:Nat)(w:World)(ws:List Nat)(s:Nat),n1 - k=d->k<=n1->qu w w0.heap.size A n c ws (i+n1)->Below w0.heap.size w0 w->s<1000000000->
   wv ws+1000000000^(i+k)*s=base+1000000000^i*a.getD i 0*wv (b.take k)->
   F.bk.L9 A0 n0 c0 A1 n1 c1 A n c i s k w0.heap.size w R:=by
 have hx:=J.getD i;obtain⟨x,l⟩:∃x,x=a.getD i 0:=⟨_,rfl⟩
 rw[<-l]at hx C;rw[<-l];intro d;induction d with
 |zero=>
  intro k w ws s N O inv hw hs he;have S:k=n1:=om;subst S;have T:b.take k=b:=bx om;rw[T]at he;refine F.bk.L9.step ⟨fun h=>by omega,fun _=>⟨ir,ir,?_⟩⟩;refine inv.own.store om om om rfl fun w1 o1 b1 _=>⟨ir,?_⟩
  have e:((i:Int)+(k:Int)).toNat=i+k:=om;rw[e,dq]at o1;have hl:=inv.own.len;have m:=mG ws (i+k) s om;rw[inv.zero (i+k) lf]at m;refine C w1 _ ⟨o1,inv.small.set hs,fun j hj=> ?_⟩ (hw.trans b1) om;rw[cN,qH om,<-cN];exact inv.zero j om
 |succ d ih=>
  intro k w ws s N O inv hw hs he;have hl:=inv.own.len;have U:=L.getD k;have go:=inv.small.getD (i+k);have e:((i:Int)+(k:Int)).toNat=i+k:=om;obtain⟨y,hy⟩:∃y,y=b.getD k 0:=⟨_,rfl⟩
  obtain⟨z,o⟩:∃z,z=ws.getD (i+k) 0:=⟨_,rfl⟩
  rw[<-hy]at U;rw[<-o]at go;have g:ws.getD ((i:Int)+(k:Int)).toNat 0=z:=by rw[e,o]
  have X:x*y<=999999999*999999999:=lq om om;have D:(x:Int)*(y:Int)=((x*y:Nat):Int):=by simp
  refine F.bk.L9.step ⟨fun _=>⟨ir,?_⟩,fun h=>by omega⟩;refine inv.own.sl.load hl om om ?_;rw[g];refine⟨ir,?_⟩;refine(ha.aj hw lf).load B om om ?_;rw[dq,<-l];refine⟨ir,?_⟩;refine(hb.aj hw lf).load K om om ?_;rw[dq,<-hy,D];obtain⟨t,Y⟩:∃t:Nat,t=s+(x*y+z):=⟨_,rfl⟩
  have E:(z:Int)+((x*y:Nat):Int)+(s:Int)=((t:Nat):Int):=om;rw[E];refine⟨ir,ir,ir,ir,ir,om,ir,?_⟩;refine inv.own.SX om om om rfl fun w2 w1 Z o1 b1 _=>⟨⟨om,om,ir⟩,ir,?_⟩
  have G:((t:Int) % 1000000000).toNat=t % 1000000000:=om;have H:(t:Int) / 1000000000=((t / 1000000000:Nat):Int):=om;have I:=sc k;rw[e,G]at o1;rw[H,I];have m:=mG ws (i+k) (t % 1000000000) om;rw[<-o]at m;refine ih (k+1) w1 _ (t / 1000000000) om om ⟨o1,inv.small.set om,fun j hj=> ?_⟩ ((hw.trans Z.below).trans b1) om ?_
  ·rw[cN,qH om,<-cN];exact inv.zero j om
  ·rw[cY,<-hy];have hm:t % 1000000000+1000000000*(t / 1000000000)=s+(x*y+z):=om;rw[show i+(k+1)=(i+k)+1 from rfl,hL];have hp:1000000000^(i+k)=1000000000^i*1000000000^k:=PS _ _ _;generalize t % 1000000000=r at*;generalize t / 1000000000=q at*;generalize wv (ws.set (i+k) r)=W' at*;generalize wv ws=W at*;generalize wv (List.take k b)=V at*;rw[hp]at m he⊢;generalize 1000000000^i=P at*;generalize 1000000000^k=Q at*;clear X D E G H I o1 o hy Y l g;grind

theorem yq(ha:gM w0 A0 a)(e:a.length=n0)(g:Small a)(hb:gM w0 A1 b)(j:b.length=n1)(k:Small b){A:Option Addr}{n c:Nat}(hn:n=n0+n1)(l:n<=1000000)
  (o:∀m w,ee w A m c (wv a*wv b)->BF w w0.heap.size A m c (wv a*wv b)->Below w0.heap.size w0 w->R (.slice A m c) w):
  ∀(d i:Nat)(w:World)(ws:List Nat),n0 - i=d->i<=n0->qu w w0.heap.size A n c ws (i+n1)->Below w0.heap.size w0 w->wv ws=wv (a.take i)*wv b->
   F.bk.L5 A0 n0 c0 A1 n1 c1 A n c i w0.heap.size w R:=by
 intro d;induction d with
 |zero=>
  intro i w ws q hi inv hw he;have r:a.take i=a:=bx om;rw[r]at he;refine F.bk.L5.step ⟨fun h=>by omega,fun _=> ?_⟩;refine pm (fZ inv.own om inv.small) ?_;rintro v x y ⟨rfl,m,rfl,h,h2⟩;rw[he]at h h2;exact⟨A,m,c,rfl,o m x h2 h hw⟩
 |succ d ih=>
  intro i w ws q hi inv hw he;refine F.bk.L5.step ⟨fun _=> ?_,fun h=>by omega⟩;refine yp ha e g hb j k om om l (base:=wv ws) (fun w1 z B C D=> ?_) n1 0 w ws 0 om om inv hw om (by simp[wv]);have E:=sc i;rw[E];refine ih (i+1) w1 z om om B C ?_;rw[D,he,cY,mw]
end

theorem ee.nil(w:World):ee w none 0 0 0:=⟨[],.inl rfl,rfl,om,om,Small.nil,by simp[Norm],rfl⟩
theorem BF.nil(w:World)(B:Nat):BF w B none 0 0 0:=⟨[],World.ownsRow_nil w _ _ _,Small.nil,by simp[Norm],rfl⟩
theorem ee.zero{w:World}{A:Option Addr}{n c x:Nat}(h:ee w A n c x)(hn:n=0):x=0:=by
 have:=h.tA;apply ea;intro k;have:=this.2 k;omega

theorem jw{w:World}{A0 A1:Option Addr}{n0 c0 n1 c1 x y:Nat}(ha:ee w A0 n0 c0 x)(hb:ee w A1 n1 c1 y)(hx:x<dL)(hy:y<dL):
  Pure Tryz.prog 220 #[.slice A0 n0 c0,.slice A1 n1 c1] w fun v w'=>∃A n c,v= .slice A n c/\ee w' A n c (x*y)/\BF w' w.heap.size A n c (x*y):=by
 have r:=ha.len hx;have z:=hb.len hy;have d:=fun h=>ha.zero h
 have e:=fun h=>hb.zero h
 obtain⟨a,g,a2,a3,a4,a5,B,rfl⟩:=ha;obtain⟨b,b1,i,C,D,k,E,rfl⟩:=hb;refine F.bk.vc ⟨fun h=> ?_,fun h=>⟨fun h1=> ?_,fun h1=>⟨ir,?_⟩⟩⟩
 ·rw[d om,Pk];exact⟨_,_,_,rfl,ee.nil w,BF.nil w _⟩
 ·rw[e om,CO];exact⟨_,_,_,rfl,ee.nil w,BF.nil w _⟩
 ·refine kH wD El.tw rfl om om lf fun A n l hn o _ q=> ?_
  refine yq g a2 a5 b1 i k om om (fun m G h1 h2 h3=>⟨A,m,n,rfl,h1,h2⟩) n0 0 l _ rfl om ⟨du.replicate o,Small.replicate _,fun j _=> ?_⟩ q ?_
  ·rw[cN,GM];split<;>rfl
  ·rw[vY];simp[wv]

theorem Ee{t:Nat}(el:El Tryz.prog t 217 1 4)(w:World)(xs:List Nat)(hl:xs.length<=1024):
  ∃w',(Instr.buildSlice t xs.length ((gj xs).zipIdx.map fun x=>(x.2,x.1)).toArray).run Tryz.prog w= .ok (.slice (some ⟨w.heap.size,0,none⟩) xs.length xs.length) w'/\Below w.heap.size w w'/\w.heap.size<=w'.heap.size/\
   du w' w.heap.size (some ⟨w.heap.size,0,none⟩) xs.length xs.length xs:=by
 have a:∀v∈gj xs,v.cells= #[v]:=by
  intro v hv;simp only[gj,kc]at hv;obtain⟨x,_,rfl⟩:=hv;rfl
 have d:∀l:List Value,(∀v∈l,v.cells= #[v])->l.flatMap (fun v=>v.cells.toList)=l:=by
  intro l;induction l with
  |nil=>intro _;rfl
  |cons v r ih=>intro h;rw[ow,ih fun y hy=>h y (by simp[hy]),h v sm];rfl
 have b:=jk el (gj xs) (fun v hv=>by rw[a v hv];rfl) (by simpa[gj]using hl) w;rw[d _ a]at b;have hlen:(gj xs).length=xs.length:=by simp[gj]
 rw[hlen]at b;have c:=World.grownBy_alloc w (.cells (gj xs).toArray 217) none;refine⟨_,b,bS c sm lf,c.size,?_⟩;exact⟨by simp[gj],.inr ⟨w.heap.size,xs.length,_,rfl,hM _,heap_alloc_new w _,hM _,by simp only[maxLen];omega,by simp[gj],bx (by simp[gj])⟩⟩

theorem M1{w:World}{x:Nat}(hx:x<1000000000000000000):
  Pure Tryz.prog 239 #[.int .u64 (x:Int)] w fun v w'=>∃A n c,v= .slice A n c/\ee w' A n c x:=by
 have b:(x:Int) % 1000000000=((x % 1000000000:Nat):Int):=om;have d:(x:Int) / 1000000000 % 1000000000=((x / 1000000000 % 1000000000:Nat):Int):=om;have g:(x:Int) / 1000000000 / 1000000000=((x / 1000000000 / 1000000000:Nat):Int):=om;refine F.kQ.vc ⟨om,ir,⟨om,om,ir⟩,om,ir,⟨om,om,ir⟩,⟨om,om,ir⟩,ir,?_⟩;rw[b,d,g];obtain⟨w',i,hb,hs,ho⟩:=Ee wD w [x % 1000000000,x / 1000000000 % 1000000000,x / 1000000000 / 1000000000] sm;refine⟨_,w',i,hb,hs,fun k ty cs a=>(by cases a),_,_,_,rfl,?_⟩;refine pm (fZ ho sm (Small.cons om (Small.cons om (Small.cons om Small.nil)))) ?_;rintro v l j ⟨rfl,m,rfl,h,h2⟩;have e:wv [x % 1000000000,x / 1000000000 % 1000000000,x / 1000000000 / 1000000000]=x:=by simp only[wv];omega
 rw[e]at h2;exact⟨_,_,_,rfl,_,_,_,rfl,h2⟩

theorem oD{w:World}{x:Nat}(hx:x<4294967296):
  Pure Tryz.prog 208 #[.int .u32 (x:Int)] w fun v w'=>∃A n c,v= .slice A n c/\ee w' A n c x:=by
 have b:(x:Int) % 1000000000=((x % 1000000000:Nat):Int):=om;have d:(x:Int) / 1000000000=((x / 1000000000:Nat):Int):=om;refine F.jJ.vc ⟨om,⟨om,om,ir⟩,?_⟩;rw[b,d];obtain⟨w',g,hb,hs,ho⟩:=Ee wD w [x % 1000000000,x / 1000000000] sm;refine⟨_,w',g,hb,hs,fun k ty cs a=>(by cases a),_,_,_,rfl,?_⟩;refine pm (fZ ho sm (Small.cons om (Small.cons om Small.nil))) ?_;rintro v j i ⟨rfl,m,rfl,h,h2⟩;have e:wv [x % 1000000000,x / 1000000000]=x:=by simp only[wv];omega
 rw[e]at h2;exact⟨_,_,_,rfl,_,_,_,rfl,h2⟩

theorem Kl{w0:World}{A0:Option Addr}{n0 c0:Nat}{a:List Nat}{R:Value->World->Prop}(ha:gM w0 A0 a)(b:a.length=n0)(c:Small a)(hn:n0<=2)(w:World)(hw:Below w0.heap.size w0 w)(d:R (.int .u64 (wv a:Nat)) w):
  ∀(i:Nat)(s:Nat),i<=n0->s=wv (a.drop i)->F.cO.L3 A0 n0 c0 s ((i:Int) - 1) w0.heap.size w R:=by
 intro i;induction i with
 |zero=>
  intro s hi he;refine F.cO.L3.step ⟨fun h=>by omega,fun _=> ?_⟩;rw[he];exact d
 |succ i ih=>
  intro s hi he;have e:((i+1:Nat):Int) - 1=i:=om;have g:=c.getD i;have j:=ig (l:=a.drop (i+1)) fun x hx=>c x (uR hx)
  have hp:1000000000^(a.drop (i+1)).length<=1000000000^1:=fy om (by simp;omega);rw[<-he]at j;rw[e];refine F.cO.L3.step ⟨fun _=>⟨ir,?_⟩,fun h=>by omega⟩;refine(ha.aj hw lf).load b om om ?_;rw[dq];have k:(s:Int)*1000000000+((a.getD i 0:Nat):Int)=((s*1000000000+a.getD i 0:Nat):Int):=om;rw[k];refine⟨ir,ir,ir,ih _ om ?_⟩;rw[eS a i,<-he];omega

theorem F7{w:World}{A0:Option Addr}{n0 c0 x:Nat}(ha:ee w A0 n0 c0 x)(hn:n0<=2):
  Pure Tryz.prog 238 #[.slice A0 n0 c0] w fun v _=>v= .int .u64 (x:Nat):=by
 obtain⟨a,b,a2,a3,a4,a5,c,rfl⟩:=ha;refine F.cO.vc ⟨ir,?_⟩;exact Kl b a2 a5 hn w (Below.refl _ _) rfl n0 0 lf (by rw[dp om];rfl)

theorem Ad{w0:World}{A0:Option Addr}{n0 c0:Nat}{a:List Nat}{R:Value->World->Prop}(ha:gM w0 A0 a)(b:a.length=n0)(z:Small a)(hn:n0<=1000000){d:Nat}(j:0<d)(E:d<=1000000000){A:Option Addr}{c:Nat}
  (l:∀A n c w,ee w A n c (wv a / d)->R (.tuple #[.slice A n c,.int .u32 (wv a % d:Nat)]) w):
  ∀(i:Nat)(w:World)(ws:List Nat)(r:Nat),i<=n0->Below w0.heap.size w0 w->du w w0.heap.size A n0 c ws->Small ws->r<d->wv (ws.drop i)*d+r=wv (a.drop i)->
   F.cB.L4 A0 n0 c0 d A n0 c r ((i:Int) - 1) w0.heap.size w R:=by
 intro i;induction i with
 |zero=>
  intro w ws r hi hw ho hs k he;refine F.cB.L4.step ⟨fun h=>by omega,fun _=> ?_⟩;refine pm (fZ ho om hs) ?_;rintro v G B ⟨rfl,m,rfl,h,h2⟩;simp only[uQ]at he;have C:wv a / d=wv ws:=by rw[<-he,ru,OI j,GO k,ob]
  have D:wv a % d=r:=by rw[<-he,ru,OL,Dz k]
  rw[C,D]at l;exact⟨_,_,_,rfl,ir,l _ _ _ _ h2⟩
 |succ i ih=>
  intro w ws r hi hw ho hs k he;have e:((i+1:Nat):Int) - 1=i:=om;have g:=z.getD i;rw[e];refine F.cB.L4.step ⟨fun _=>⟨ir,?_⟩,fun h=>by omega⟩;refine(ha.aj hw lf).load b om om ?_;rw[dq];obtain⟨t,H⟩:∃t:Nat,t=r*1000000000+a.getD i 0:=⟨_,rfl⟩
  have o:(r:Int)*1000000000+((a.getD i 0:Nat):Int)=(t:Int):=om;have x:t / d<1000000000:=by
   rw[zb j];have:(r+1)*1000000000<=d*1000000000:=fT _ om;omega
  have eq:(t:Int) / (d:Int)=((t / d:Nat):Int):=by simp
  have em:(t:Int) % (d:Int)=((t % d:Nat):Int):=by simp
  have I:=ta t d;have y:=u0 t j;rw[o,eq,em];clear eq em;generalize t / d=q at*;generalize t % d=J at*;refine⟨ir,ir,ir,⟨om,om,ir⟩,ir,?_⟩;refine ho.store om om om rfl fun w1 o1 b1 _=>⟨ir,⟨om,om⟩,ir,?_⟩
  rw[dq,dq]at o1;have hl:=ho.len;refine ih w1 _ _ om (hw.trans b1) o1 (hs.set x) y ?_;rw[eS,eS a,<-he,Dy,cc om];rw[cN,oK om];simp only[Option.getD_some];generalize wv (List.drop (i+1) ws)=V;clear o o1 x he y;grind

theorem Cw{w:World}{A0:Option Addr}{n0 c0 x d:Nat}(ha:ee w A0 n0 c0 x)(l:n0<=1000000)(b:0<d)(e:d<=1000000000):
  Pure Tryz.prog 261 #[.slice A0 n0 c0,.int .u32 (d:Int)] w fun v w'=>∃A n c,v= .tuple #[.slice A n c,.int .u32 (x % d:Nat)]/\ee w' A n c (x / d):=by
 obtain⟨a,g,a2,a3,a4,a5,m,rfl⟩:=ha;refine F.cB.vc ?_;refine kH wD El.tw rfl om om lf fun A n h hn i _ j=>⟨ir,?_⟩
 have k:n=n0:=om;subst k;refine Ad g a2 a5 om b e (fun A n c w h1=>⟨A,n,c,rfl,h1⟩) n h _ 0 lf j (du.replicate i) (Small.replicate _) b ?_;rw[dp sm,dp om];simp[wv]

theorem VV(l:Tx):∀a:Nat,l.foldl (fun a c=>10*a+dv c) a=a*10^l.length+cX l:=by
 induction l with
 |nil=>intro a;simp[cX]
 |cons c r ih=>
  intro a;have h1:=ih (10*a+dv c);have h2:=ih (10*0+dv c);simp only[cX,LS,gw,hL]at*;rw[h1,h2];grind
theorem yd(a b:Tx):cX (a++b)=cX a*10^b.length+cX b:=by
 have:=VV b (cX a);rw[<-this];simp[cX,AY]

theorem H7{B:Nat}{R:Value->World->Prop}{s:ByteArray}(hs:s.size<=900000)(m:(bM s).all px=true){A:Option Addr}{n c:Nat}{e b:Nat}(he:e<=s.size)(o:b<=e)(q:e - b<=9){w:World}
  (r:∀x:Nat,x=cX (((bM s).take e).drop b)->x<1000000000->
   F.aZ.L7 s A n c e x e B w R):
  ∀(d i x:Nat),e - i=d->b<=i->i<=e->x=cX (((bM s).take i).drop b)->x<10^(i - b)->F.aZ.L7 s A n c e x i B w R:=by
 intro d;induction d with
 |zero=>
  intro i x hi g j hx k;have:i=e:=om;subst this;have hp:10^(i - b)<=10^9:=fy om q;exact r x hx om
 |succ d ih=>
  intro i x hi g j hx k;obtain⟨a,l,y,_⟩:=uT (s:=s) (i:=(i:Int)) om om;rw[dq]at l;have z:48<=a.toNat/\a.toNat<=57:=by
   rw[gu]at m;have:=m a (hJ l);simpa[px]using this
  have hp:10^(i - b)<=10^8:=fy om om;refine F.aZ.L7.step ⟨fun _=> ?_,fun h=>by omega⟩;rw[y];have ev:(10:Int)*(x:Int)+((a.toNat:Int) - 48)=((10*x+dv a:Nat):Int):=by simp only[dv];omega
  have C:=sc i;rw[ev,C];have D:dv a<=9:=by simp only[dv];omega
  refine⟨ir,⟨om,om⟩,ir,ir,ir,ir,ih (i+1) _ om om om ?_ ?_⟩
  ·rw[eN,l,Hg (by rw[fs,<-dn];omega)];have E:(some a).toList=[a]:=rfl;rw[E,yd,<-hx];simp[cX];omega
  ·rw[show i+1 - b=(i - b)+1 by omega,hL];omega

theorem Km{w0:World}{R:Value->World->Prop}{s:ByteArray}(hs:s.size<=900000)(r:(bM s).all px=true)(y:∀A n c w,ee w A n c (cX (bM s))->R (.slice A n c) w):
  ∀(d:Nat)(e:Nat)(w:World)(A:Option Addr)(n c:Nat)(ws:List Nat),e<=d->e<=s.size->n+e<=900000->du w w0.heap.size A n c ws->Small ws->w0.heap.size<=w.heap.size->
   wv ws+1000000000^n*cX ((bM s).take e)=cX (bM s)->F.aZ.L3 s A n c e w0.heap.size w R/\(∀k:Int,k<=0->e=0->F.aZ.L3 s A n c k w0.heap.size w R):=by
 intro d;induction d with
 |zero=>
  intro e w A n c ws i a hn ho g hw he;have h0:e=0:=om;subst h0;have fin:∀k:Int,k<=0->F.aZ.L3 s A n c k w0.heap.size w R:=by
   intro k j;refine F.aZ.L3.step ⟨fun h=>by omega,fun _=> ?_⟩;refine pm (fZ ho om g) ?_;rintro v J _ ⟨rfl,m,rfl,_,h⟩;have e:wv ws=cX (bM s):=by rw[<-he];simp[cX]
   rw[e]at h;exact⟨_,_,_,rfl,y _ _ _ _ h⟩
  exact⟨fin ((0:Nat):Int) om,fun k j _=>fin k j⟩
 |succ d ih=>
  intro e w A n c ws i a hn ho g hw he;by_cases h0:e=0
  ·exact ih e w A n c ws om a hn ho g hw he
  refine⟨?_,fun k j h=>absurd h h0⟩;obtain⟨b,hb⟩:∃b:Nat,b=e - 9:=⟨_,rfl⟩
  have z:(if((e:Int) - 9)>(0:Int)then((e:Int) - 9)else(0:Int))=(b:Int):=by split<;>omega
  refine F.aZ.L3.step ⟨fun _=>⟨ir,?_⟩,fun h=>by omega⟩;rw[z];refine H7 hs r a om om (fun x hx B=> ?_) (e - b) b 0 rfl lf om ?_ (EG om)
  ·refine F.aZ.L7.step ⟨fun h=>by omega,fun _=> ?_⟩;refine nt (B0:=w0.heap.size) wD lf ho om om sm om fun A' c' C o _ D=>⟨ir,?_⟩
   rw[dq]at o;have K:=D.size;have ev:cX ((bM s).take e)=cX ((bM s).take b)*10^(e - b)+x:=by
    have E:(bM s).take e=(bM s).take b++((bM s).take e).drop b:=by
     conv=>lhs;rw[<-ly b ((bM s).take e)]
     rw[AD,iv om]
    rw[E,yd,<-hx,zB,fs,<-dn,iv a]
   have q:=ih b C A' (n+1) c' (ws++[x]) om om om o (g.append (Small.cons B Small.nil)) om (by
    rw[dT,ho.len,hL];rw[ev]at he;rw[<-he];simp only[wv];by_cases l:b=0
    ·rw[l,Kv];have G:cX []=0:=rfl;rw[G,Pk,oi,CO,ob,CO,ob]
    ·have H:10^(e - b)=1000000000:=by rw[show e - b=9 by omega]
     rw[H];generalize cX ((bM s).take b)=V;generalize 1000000000^n=P;grind)
   by_cases l:b=0
   ·exact q.2 _ om l
   ·have I:(e:Int) - 9=(b:Int):=om;rw[I];exact q.1
  ·rw[dp (by rw[fs];omega)];simp[cX]

theorem wG{w:World}{s:ByteArray}(hs:s.size<=900000)(h:isNat (bM s)=true):
  Pure Tryz.prog 207 #[.string s] w fun v w'=>∃A n c,v= .slice A n c/\ee w' A n c (cX (bM s)):=by
 have a:(bM s).all px=true:=by simp[isNat]at h;simpa using h.2
 refine F.aZ.vc ?_;exact(Km (w0:=w) hs a (fun A n c w k=>⟨A,n,c,rfl,k⟩) s.size s.size w none 0 0 [] lf lf om (World.ownsRow_nil w _ _ _) Small.nil lf (by
  rw[bx (by rw[<-dn];exact hM _)];simp[wv])).1

section
variable {w1:World} {B:Nat} {Au Av:Option Addr} {nu cu nv cv:Nat} {vs:List Nat} {R:Value->World->Prop}

theorem mQ:sB Au none:=fun _ _ _ h=>by cases h

theorem PV(hn:nu<=1000000)(hv:gM w1 Av vs)(qf:vs.length=nv)(tS:Small vs)(E:Sep Av Au none nu cu 0 0){pre b:List Nat}{g j:Nat}(hj:pre.length=j)(Q:nv<b.length)(S:1<=g)(T:g<=1000000000)
  (G:∀w D (up:Nat),up<=1->D.length=b.length->D.drop nv=b.drop nv->wv D+1000000000^nv*up=wv b+wv vs->
   Div w1 w B Au nu cu (pre++D.set nv ((b.getD nv 0+up) % 1000000000)) none 0 0 []->R (.int .u32 ((g:Int) - 1)) w):
  ∀(d i:Nat)(w:World)(D:List Nat)(up:Nat),nv - i=d->i<=nv->Div w1 w B Au nu cu (pre++D) none 0 0 []->D.length=b.length->up<=1->D.drop nv=b.drop nv->wv D+1000000000^i*up=wv b+wv (vs.take i)->
   F.aE.Ea Au nu cu Av nv cv j g nv up i B w R:=by
 intro d;induction d with
 |zero=>
  intro i w D up H hi h hl hu n he;have I:i=nv:=om;subst I;have k:=h.u.len;have q:=k;simp only[fx]at k;have o:=h.su.getD (i+j);rw[dw hj]at o;rw[bx om]at he;have l:((j:Int)+(i:Int)).toNat=i+j:=om;have z:=gR n;have r:(pre++D).getD ((j:Int)+(i:Int)).toNat 0=b.getD i 0:=by rw[l,dw hj,z]
  rw[z]at o;refine F.aE.Ea.step ⟨fun h=>by omega,fun _=>⟨ir,ir,?_⟩⟩;refine h.u.sl.load q om om ?_;rw[r];refine⟨ir,om,?_⟩;refine h.pP mQ om om om om fun A h2=>⟨ir,ir,?_⟩
  have y:(((b.getD i 0:Nat):Int)+(up:Int)) % 1000000000=(((b.getD i 0+up) % 1000000000:Nat):Int):=om;rw[y,l,dq,pz hj]at h2;exact G A D up hu hl n he h2
 |succ d ih=>
  intro i w D up H hi h hl hu n he;have k:=h.u.len;have q:=k;simp only[fx]at k;have U:=tS.getD i;have o:=h.su.getD (i+j);have l:((j:Int)+(i:Int)).toNat=i+j:=om;rw[dw hj]at o;have r:(pre++D).getD ((j:Int)+(i:Int)).toNat 0=D.getD i 0:=by rw[l,dw hj]
  obtain⟨t,C⟩:∃t,t=up+(D.getD i 0+vs.getD i 0):=⟨_,rfl⟩
  have J:((D.getD i 0:Nat):Int)+((vs.getD i 0:Nat):Int)+(up:Int)=(t:Int):=om;refine F.aE.Ea.step ⟨fun _=>⟨ir,?_⟩,fun h=>by omega⟩;refine h.u.sl.load q om om ?_;rw[r];refine(h.sl hv E).load qf om om ?_;rw[dq,J];refine⟨ir,ir,ir,om,?_⟩;have m:∃a,Au=some a:=by
   obtain⟨a,L,_⟩:=h.u.sl.cell (j:=(j:Int)+i) om om;exact⟨a,L⟩
  obtain⟨a,rfl⟩:=m;have step:∀c,Div w1 c B (some a) nu cu ((pre++D).set ((j:Int)+(i:Int)).toNat ((t:Int) % 1000000000).toNat) none 0 0 []->
    F.aE.Ea (some a) nu cu Av nv cv j g nv ((t:Int) / 1000000000) ((i:Int)+1) B c R:=by
   intro c h3;have M:=sc i;have y:((t:Int) % 1000000000).toNat=t % 1000000000:=om;have N:(t:Int) / 1000000000=((t / 1000000000:Nat):Int):=om;rw[l,y,pz hj]at h3;rw[M,N];refine ih (i+1) c _ _ om om h3 (by simpa using hl) om (by rw[Dy,cc om];exact n) ?_;rw[cY,hL];exact Fx he (mG D i _ om) (by rw[C]) (by rw[C])
  refine⟨⟨om,om⟩,a,rfl,fun A e=> ?_⟩;obtain⟨_,a',O,P⟩:=(h.ext e).pP mQ (j:=(j:Int)+(i:Int)) (x:=(t:Int) % 1000000000) om om om om (K:=fun c=>(0<=(t:Int)/\0<(1000000000:Int)/\az .u32 (t:Int))/\az .i64 ((i:Int)+1)/\
   F.aE.Ea (some a) nu cu Av nv cv j g nv ((t:Int) / 1000000000) ((i:Int)+1) B c R) (fun c h3=>⟨⟨om,om,ir⟩,ir,step c h3⟩)
  cases O;exact P

theorem SY(hn:nu<=1000000)(hv:gM w1 Av vs)(qf:vs.length=nv)(tS:Small vs)(C:Sep Av Au none nu cu 0 0){pre e:List Nat}{g j:Nat}(hj:pre.length=j)(O:nv<e.length)(E:g<=1000000000)
  (G:∀w D (c b:Nat),Div w1 w B Au nu cu (pre++D) none 0 0 []->D.length=e.length->c<1000000000->b<=1->D.drop nv=e.drop nv->wv D+g*wv vs=wv e+1000000000^nv*(c+b)->
   ((e.getD nv 0:Nat) - (c:Int) - (b:Int)≥0->∀a,Div w1 a B Au nu cu (pre++D.set nv ((e.getD nv 0:Nat) - (c:Int) - (b:Int)).toNat) none 0 0 []->R (.int .u32 (g:Int)) a)/\
   (¬((e.getD nv 0:Nat) - (c:Int) - (b:Int)≥0)->∀a,Div w1 a B Au nu cu (pre++D.set nv ((e.getD nv 0:Nat) - (c:Int) - (b:Int)+1000000000).toNat) none 0 0 []->F.aE.Ea Au nu cu Av nv cv j g nv 0 0 B a R)):
  ∀(d i:Nat)(w:World)(D:List Nat)(c b:Nat),nv - i=d->i<=nv->Div w1 w B Au nu cu (pre++D) none 0 0 []->D.length=e.length->c<1000000000->b<=1->D.drop nv=e.drop nv->wv D+g*wv (vs.take i)=wv e+1000000000^i*(c+b)->
   F.aE.L5 Au nu cu Av nv cv j g nv b c i B w R:=by
 intro d;induction d with
 |zero=>
  intro i w D c b H hi h hl y hb n he;have I:i=nv:=om;subst I;have l:=h.u.len;have q:=l;simp only[fx]at l;have o:=h.su.getD (i+j);rw[dw hj]at o;rw[bx om]at he;have k:((j:Int)+(i:Int)).toNat=i+j:=om;have z:=G w D c b h hl y hb n he;have A:=gR n;rw[A]at o;have r:(pre++D).getD ((j:Int)+(i:Int)).toNat 0=e.getD i 0:=by rw[k,dw hj,A]
  refine F.aE.L5.step ⟨fun h=>by omega,fun _=>⟨ir,?_⟩⟩;refine h.u.sl.load q om om ?_;rw[r];refine⟨ir,ir,ir,ir,fun h0=>⟨ir,ir,?_⟩,fun h0=>⟨ir,ir,ir,?_⟩⟩
  ·refine h.pP mQ om om om om fun a h2=>⟨ir,?_⟩
   rw[k,pz hj]at h2;exact z.1 h0 a h2
  ·refine h.pP mQ om om om om fun a h2=> ?_
   rw[k,pz hj]at h2;exact z.2 h0 a h2
 |succ d ih=>
  intro i w D c b H hi h hl y hb n he;have l:=h.u.len;have q:=l;simp only[fx]at l;have P:=tS.getD i;have o:=h.su.getD (i+j);have k:((j:Int)+(i:Int)).toNat=i+j:=om;rw[dw hj]at o;have r:(pre++D).getD ((j:Int)+(i:Int)).toNat 0=D.getD i 0:=by rw[k,dw hj]
  have J:=sc i;have Q:g*vs.getD i 0<=1000000000*999999999:=lq E om;obtain⟨p,hp⟩:∃p,p=g*vs.getD i 0+c:=⟨_,rfl⟩
  have K:(g:Int)*(vs.getD i 0:Nat)=((g*vs.getD i 0:Nat):Int):=by simp
  have L:((g*vs.getD i 0:Nat):Int)+(c:Int)=(p:Int):=om;have M:(p:Int) / 1000000000=((p / 1000000000:Nat):Int):=om;have next:∀(m x:Nat) a,m<=1->x+p % 1000000000+b=D.getD i 0+1000000000*m->Div w1 a B Au nu cu ((pre++D).set (i+j) x) none 0 0 []->
    F.aE.L5 Au nu cu Av nv cv j g nv m ((p / 1000000000:Nat):Int) ((i:Int)+1) B a R:=by
   intro m x a N hx h2;rw[pz hj]at h2;rw[J];refine ih (i+1) a _ _ m om om h2 (by simpa using hl) om N (by rw[Dy,cc om];exact n) ?_;rw[cY,hL];exact Fw he (mG D i x om) (by rw[<-hp];exact hx) (by rw[<-hp])
  refine F.aE.L5.step ⟨fun _=> ?_,fun h=>by omega⟩;refine(h.sl hv C).load qf om om ?_;rw[dq,K,L,M];refine⟨ir,ir,ir,⟨om,om,ir⟩,ir,?_⟩;refine h.u.sl.load q om om ?_;rw[r];refine⟨ir,om,ir,ir,ir,fun h0=>⟨ir,ir,ir,?_⟩,fun h0=>⟨ir,ir,?_⟩⟩
  ·refine h.pP mQ om om om om fun a h2=>⟨ir,?_⟩
   rw[k]at h2;exact next 1 _ a om om h2
  ·refine h.pP mQ om om om om fun a h2=>⟨ir,?_⟩
   rw[k]at h2;exact next 0 _ a om om h2
end

theorem H8{w:World}{B:Nat}{Au Av:Option Addr}{nu cu nv cv:Nat}{vs pre D:List Nat}{g j q:Nat}(hB:B<=w.heap.size)(hn:nu<=1000000)(hu:du w B Au nu cu (pre++D))(XY:Small (pre++D))(hv:gM w Av vs)(qf:vs.length=nv)(tS:Small vs)
  (X:∀a b,Av=some a->Au=some b->a.block≠b.block) (hj:pre.length=j) (Y:nv<D.length) (K:g<=1000000000) (Pg:q<=g) (ZP:q*wv vs<=wv D) (ZQ:wv D<q*wv vs+wv vs) (Z:g*wv vs<wv D+wv vs) (hT:wv D<1000000000^(nv+1)) (hV:wv vs<1000000000^nv) (Fy:q<1000000000):
  dZ Tryz.prog 262 #[.slice Au nu cu,.slice Av nv cv,.int .i64 (j:Int),.int .u64 (g:Int)] B w fun v w'=>v= .int .u32 (q:Int)/\∃C,C.length=D.length/\wv C=wv D - q*wv vs/\Div w w' B Au nu cu (pre++C) none 0 0 []:=by
 have L:Sep Av Au none nu cu 0 0:=Sep.of X fun _ _ _ h=>by cases h
 have Cn:0<wv vs:=om;have M:Small D:=fun x hx=>XY x (by simp[hx])
 have XT:=M.getD nv;have t0:=HN (k:=nv) om M hT;have td:wv (D.drop nv)=D.getD nv 0:=by
  have h1:=fe D nv om;have hp:0<1000000000^nv:=EG om;exact Nat.eq_of_mul_eq_mul_left hp om
 refine F.aE.Jm (B:=B) (w:=w) hB ?_;refine SY (w1:=w) hn hv qf tS L hj Y K (fun w5 l c m h5 N hc Zy E O=> ?_) nv 0 w D 0 0 om om ⟨hu,World.ownsRow_nil w _ _ _,XY,Small.nil,fun _ _ _ _=>rfl,Below.refl _ _⟩ rfl om om rfl (by simp[wv]);have t5:=fe l nv om;have Ub:Small l:=fun x hx=>h5.su x (by simp[hx])
 have Q:=ig (Ub.take nv);rw[fs,iv om]at Q;rw[E,td]at t5;have G:=gR E;obtain⟨P,n⟩:∃P,P=1000000000^nv:=⟨_,rfl⟩
 rw[<-n]at t5 Q O hV;obtain⟨z,hz⟩:∃z,z=D.getD nv 0:=⟨_,rfl⟩
 rw[<-hz]at t5 G XT⊢;rw[jv]at O;refine⟨fun S w7 h7=> ?_,fun sC w6 T=> ?_⟩
 ·have ZB:g*wv vs<=wv D:=by
   have y:P*(c+m)<=P*z:=gO _ om;rw[jv]at y;omega
  have hq:q=g:=by
   rcases B7 q g with k|k
   ·have:=fT (wv vs) (show q+1<=g by omega);rw[mw]at this;omega
   ·omega
  subst hq;refine⟨rfl,_,by simpa using N,?_,h7⟩;have H:=mG l nv (((z:Int) - (c:Int) - (m:Int)).toNat) om;rw[G,<-n]at H;have e8:P*(((z:Int) - (c:Int) - (m:Int)).toNat)+(P*c+P*m)=P*z:=by
   rw[<-jv,<-jv]
   congr 1
   omega
  omega
 ·have Zz:wv D<g*wv vs:=by
   have y:P*(z+1)<=P*(c+m):=gO _ om;rw[jv,jv]at y;omega
  have Z9:q+1=g:=by
   have y:q<g:=by
    apply ea;intro k;have:=fT (wv vs) (show g<=q by omega);omega
   apply ea;intro k;have:=fT (wv vs) (show q+2<=g by omega);rw[mw]at this;omega
  obtain⟨d,XJ⟩:∃d,d=((z:Int) - (c:Int) - (m:Int)+1000000000).toNat:=⟨_,rfl⟩
  rw[<-XJ]at T;have eg:(g:Int) - 1=(q:Int):=om;have H:=mG l nv d om;rw[G,<-n]at H;have I:(l.set nv d).getD nv 0=d:=by rw[cN,oK om];rfl
  refine PV hn hv qf tS L hj (by simpa using(show nv<l.length by omega)) om K (fun w8 o up hup r U ZA A=> ?_) nv 0 w6 _ 0 om om T rfl om rfl (by simp[wv]);rw[eg];rw[I]at A;refine⟨rfl,_,by simp at r;simp[r,N],?_,A⟩;have V:=gR U;rw[I]at V;have ae0:g*wv vs=q*wv vs+wv vs:=by rw[<-Z9,mw,Ry]
  have z1:wv (D.drop (nv+1))=0:=by
   have:=eS D nv;omega
  have dr:l.drop (nv+1)=D.drop (nv+1):=by
   have:=dB (List.drop 1) E;rwa [GI,GI]at this
  have J:wv (o.drop nv)=d:=by
   have:=eS (l.set nv d) nv;rw[I,Dy (i:=nv+1),cc om,dr,z1]at this;rw[U];omega
  have t6:=fe o nv (by simp at r;omega);have s6:Small (o.take nv):=by
   have e:(o.set nv ((d+up) % 1000000000)).take nv=o.take nv:=by
    rw[List.take_set_of_le om]
   rw[<-e];exact fun x hx=>A.su x (by simp[mr hx])
  have l6:=ig s6;rw[fs,iv (by simp at r;omega),<-n]at l6;rw[J,<-n]at t6;rw[<-n]at ZA;have e9:P*d+(P*c+P*m)=P*z+P*1000000000:=by
   rw[<-jv,<-jv,<-jv]
   congr 1
   omega
  have key:wv (o.take nv)+P*(d+up)=(wv D - q*wv vs)+P*1000000000:=by rw[jv];omega
  have W:d+up=1000000000:=by
   rcases Na (d+up) 1000000000 with k|k|k
   ·have:=gO P (show d+up+1<=1000000000 by omega);rw[jv]at this;omega
   ·exact k
   ·have:=gO P (show 1000000000+1<=d+up by omega);rw[jv]at this;omega
  have VW:=mG o nv 0 (by simp at r;omega);rw[V,<-n]at VW;have US:(d+up) % 1000000000=0:=by rw[W]
  rw[US]at A⊢;rw[W]at key;omega

theorem ee.one{w:World}{A:Option Addr}{n c x:Nat}(h:ee w A n c x)(h0:0<x)(hx:x<1000000000):n=1/\gM w A [x]:=by
 obtain⟨ws,h1,h2,h3,h4,d,b,rfl⟩:=h;have a:ws≠[]:=fun e=>by subst e;simp[wv]at h0
 have hp:=lM b a;have hl:ws.length=1:=by
  have:=nQ.2 a;apply ea;intro k;have:1000000000^1<=1000000000^(ws.length - 1):=fy om om;omega
 obtain⟨z,rfl⟩:=ni.1 hl;refine⟨by simpa using h2.symm,?_⟩;have e:wv [z]=z:=by simp[wv]
 rw[e];exact h1

theorem Div.join{w1 w w':World}{B:Nat}{Au:Option Addr}{nu cu:Nat}{us c:List Nat}{Aq:Option Addr}{nq cq:Nat}{qs:List Nat}(h:Div w1 w B Au nu cu us Aq nq cq qs)(ha:sB Au Aq)(k:Div w w' B Au nu cu c none 0 0 []):Div w1 w' B Au nu cu c Aq nq cq qs:=by
 have no:∀i:Nat,some i≠Value.ownBlock (.slice none 0 0):=fun i=>by simp[Value.ownBlock]
 refine⟨k.u,h.q.other fun b hb=>k.fr b (h.q.sA b hb).2 (fun e=> ?_) (no b),k.su,h.sq,fun i hi h1 h2=>(k.fr i (jK hi h.below.size) h1 (no i)).trans (h.fr i hi h1 h2),h.below.trans k.below⟩;cases Au with
 |none=>simp[Value.ownBlock]at e
 |some a=>
  cases Aq with
  |none=>simp[Value.ownBlock]at hb
  |some a'=>
   simp[Value.ownBlock]at e hb;exact ha a a' rfl rfl om

section
variable {w1:World} {B:Nat} {Af Au Av Aq:Option Addr} {nf cf nu cu nv cv nq cq:Nat} {vs:List Nat} {R:Value->World->Prop}

theorem M4(hn:nu<=1000000)(hv:gM w1 Av vs)(qf:vs.length=nv)(tS:Small vs)(n:Sep Av Au Aq nu cu nq cq)(Z:2<=nv){pre D qs:List Nat}{j:Nat}(hj:pre.length=j)(hk:nv<D.length)
  {top low M vl q T V:Nat} (P:low<M) (z:vl<M) (A:1<=vs.getD (nv - 1) 0) (o:V=(vs.getD (nv - 1) 0*1000000000+vs.getD (nv - 2) 0)*M+vl) (x:T=(top*1000000000+D.getD (nv - 2) 0)*M+low)
  (J:q*V<=T) (Fy:q<1000000000)
  (y:∀w (g:Nat),Div w1 w B Au nu cu (pre++D) Aq nq cq qs->g<=1000000000->q<=g->g*V<T+V->dZ Tryz.prog 262 #[.slice Au nu cu,.slice Av nv cv,.int .i64 (j:Int),.int .u64 (g:Int)] B w fun r C=>(∀(k ty:Nat)(cs:Array Value),ty∈([]:List Nat)->w.heap[k]? =some (.cells cs ty (0,0))->C.heap[k]? =w.heap[k]?)/\∃(i76:Int),r=(.int .u32 i76)/\((0<=(j:Int)/\(j:Int)<nq)/\∃b,Aq=some b/\(∃(E:List Value)(t81:Nat),B<=(b.add (((j:Int)).toNat*1)).block/\(b.add (((j:Int)).toNat*1)).spot=none/\C.heap[(b.add (((j:Int)).toNat*1)).block]? =some (.cells E.toArray t81 (0,0))/\(b.add (((j:Int)).toNat*1)).off+1<=E.length/\hasType t81 []=false/\∀i,dd C i (b.add (((j:Int)).toNat*1)).block t81 (setCells E (b.add (((j:Int)).toNat*1)).off [(.int .u32 i76)])->(az .i64 ((j:Int) - (1:Int))/\(F.aS.Bp nv Af nf cf Av nv cv Au nu cu Aq nq cq ((j:Int) - (1:Int)) B i R))))):
  ∀(g rest:Nat)(w:World),Div w1 w B Au nu cu (pre++D) Aq nq cq qs->g*vs.getD (nv - 1) 0+rest=top->q<=g->g<=1000000001->rest<2000000000->(rest<1000000000∨g<=1000000000)->
   F.aS.F6 nv Af nf cf Av nv cv Au nu cu Aq nq cq j g rest B w R:=by
 have g1:=tS.getD (nv - 1);have g2:=tS.getD (nv - 2);have K:((nv:Int) - 1).toNat=nv - 1:=om;have L:((nv:Int) - 2).toNat=nv - 2:=om;have N:((j:Int)+(nv:Int) - 2).toNat=(nv - 2)+j:=om;intro g;induction g with
 |zero=>
  intro rest w h c d Q S ho;have l:=h.u.len;have G:=l;simp only[fx]at l;have H:=h.su.getD (nv - 2+j);rw[dw hj]at H;have m:0*V<T+V:=by
   rw[x,o];exact qv z A c om om
  refine F.aS.F6.step ⟨fun I=>⟨fun U=>by omega,fun _=>⟨ir,?_⟩⟩,fun _ a e=>y a 0 (h.ext e) om d m⟩;refine(h.sl hv n).load qf om om ?_;rw[L];refine⟨ir,ir,ir,ir,ir,?_⟩;refine h.u.sl.load G om om ?_;rw[N,dw hj];exact⟨ir,ir,fun h0=>by omega,fun h0 a e=>y a 0 (h.ext e) om d m⟩
 |succ g ih=>
  intro rest w h c d Q S ho;have l:=h.u.len;have G:=l;simp only[fx]at l;have H:=h.su.getD (nv - 2+j);rw[dw hj]at H;have O:((g+1:Nat):Int) - 1=(g:Int):=om;have Zm:(g+1)*vs.getD (nv - 2) 0<=1000000001*1000000000:=lq om om;have W:((g+1:Nat):Int)*(vs.getD (nv - 2) 0:Nat)=(((g+1)*vs.getD (nv - 2) 0:Nat):Int):=by simp
  have next:q<=g->rest<1000000000->∀a,Ext B [] w a->az .u64 ((vs.getD (nv - 1) 0:Nat):Int)/\az .u64 ((rest:Int)+(vs.getD (nv - 1) 0:Nat))/\
    F.aS.F6 nv Af nf cf Av nv cv Au nu cu Aq nq cq j g ((rest:Int)+(vs.getD (nv - 1) 0:Nat)) B a R:=by
   intro X PQ a e;have Y:g*vs.getD (nv - 1) 0+(rest+vs.getD (nv - 1) 0)=top:=by rw[mw]at c;omega
   exact⟨ir,ir,ih (rest+vs.getD (nv - 1) 0) a (h.ext e) Y X om om om⟩
  refine F.aS.F6.step ⟨fun I=>⟨fun U=>⟨ir,ir,?_⟩,fun XV=>⟨ir,?_⟩⟩,fun RR a e=>y a (g+1) (h.ext e) om d ?_⟩
  ·rw[O];refine(h.sl hv n).Je qf om om fun a e=> ?_
   rw[K];exact next om om a e
  ·refine(h.sl hv n).load qf om om ?_;rw[L,W];refine⟨ir,ir,ir,ir,ir,?_⟩;refine h.u.sl.load G om om ?_;rw[N,dw hj,O];refine⟨ir,ir,fun h1=>⟨ir,ir,?_⟩,fun h1 a e=>y a (g+1) (h.ext e) om d ?_⟩
   ·refine(h.sl hv n).Je qf om om fun a e=> ?_
    rw[K];refine next ?_ om a e
    rw[x,o]at J;have:=Fv P J c d om;omega
   ·rw[x,o];exact qv z A c om om
  ·rw[x,o];have h4:(g+1)*vs.getD (nv - 2) 0<=1000000000*1000000000:=lq om om;exact qv z A c om om

set_option maxHeartbeats 2000000 in
theorem M5(ha:sB Au Aq)(hn:nu<=1000000)(hB:B<=w1.heap.size)(hv:gM w1 Av vs)(qf:vs.length=nv)(tS:Small vs)(C:Sep Av Au Aq nu cu nq cq)(Q7:∀a b,Av=some a->Au=some b->a.block≠b.block)(Pf:2<=nv)(Ua:nu=nq+nv)(E:1000000000<=2*vs.getD (nv - 1) 0)
  {f:Nat} (hf:gM w1 Af [f]) (K:nf=1) (Mi:Sep Af Au Aq nu cu nq cq) (Jg:0<f) (JP:f<1000000000) {U0:Nat}
  (U:∀A n c A' n' c' w,ee w A n c (U0 / wv vs)->ee w A' n' c' (U0 % wv vs / f)->R (.tuple #[.slice A n c,.slice A' n' c']) w):
  ∀(i:Nat)(w:World)(us qs:List Nat),i<=nq->Div w1 w B Au nu cu us Aq nq cq qs->wv (us.drop i)<wv vs->wv (qs.drop i)*wv vs*1000000000^i+wv us=U0->
   F.aS.Bp nv Af nf cf Av nv cv Au nu cu Aq nq cq ((i:Int) - 1) B w R:=by
 obtain⟨e,rfl⟩:∃e,nv=e+2:=⟨nv - 2,om⟩
 have Sg:wv vs<1000000000^(e+2):=by have:=ig tS;rwa [qf]at this
 obtain⟨L,W⟩:=Mh qf tS;have G:e+2 - 1=e+1:=om;have g1:=tS.getD (e+1);have g2:=tS.getD e;rw[G]at E;intro i;induction i with
 |zero=>
  intro w us qs hi h l he;have X:=h.u.len;have Si:=h.u.cap;simp only[uQ,Nat.pow_zero,JA]at l he;have ediv:U0 / wv vs=wv qs:=by rw[<-he,ru,OI om,GO l,ob]
  have emod:U0 % wv vs=wv us:=by rw[<-he,ru,OL,Dz l]
  rw[ediv,emod]at U;have Mj:wv (us.take (e+2))=wv us:=by
   have h1:=fe us (e+2) om;have h2:wv (us.drop (e+2))=0:=by
    apply ea;intro h3;have h4:1000000000^(e+2)*1<=1000000000^(e+2)*wv (us.drop (e+2)):=gO _ om;omega
   rw[h2]at h1;omega
  refine F.aS.Bp.step ⟨fun h=>by omega,fun _=>⟨⟨om,om⟩,?_⟩⟩;refine(h.sl hf Mi).load (n:=nf) (by rw[K];rfl) om om fun r N=> ?_
  have h2:=h.ext N;have O:(((e+2:Nat):Int)).toNat=e+2:=om;rw[O];refine pm (wE (h2.u.sl.take (e+2)) (by simp;omega) om om (h2.su.take _)) ?_;rintro v Y hb3 ⟨rfl,m,rfl,hm,Zp,_⟩;rw[Mj]at hm;refine⟨_,_,_,rfl,pm (Cw (d:=f) hm om Jg om) ?_⟩;rintro v Z P ⟨A1,n1,c1,rfl,k1⟩;refine⟨_,_,_,_,rfl,?_⟩;have Zq:gM Z Aq qs:=h2.q.sl.below P;refine pm (wE Zq h2.q.len h2.q.cap (by have:=h2.q.cap;omega) h2.sq) ?_;rintro v w5 Jh ⟨rfl,m',rfl,Q,_⟩;exact⟨_,_,_,rfl,U _ _ _ _ _ _ _ Q k1⟩
 |succ j ih=>
  intro w us qs hi h l he;have X:=h.u.len;have Sj:=h.q.len;have e0:((j+1:Nat):Int) - 1=(j:Int):=om;rw[e0];obtain⟨pre,wc⟩:∃pre,pre=us.take j:=⟨_,rfl⟩
  obtain⟨D,H⟩:∃D,D=us.drop j:=⟨_,rfl⟩
  have Vk:us=pre++D:=by rw[wc,H,ly]
  have hj:pre.length=j:=by rw[wc];simp;omega
  have hDl:D.length=nu - j:=by rw[H];simp[X]
  have z:Small D:=by rw[H];exact fun x hx=>h.su x (uR hx)
  have Mk:us.drop (j+1)=D.drop 1:=by rw[H,GI]
  rw[Mk]at l;have Zr:wv D=D.getD 0 0+1000000000*wv (D.drop 1):=by have:=eS D 0;simpa using this
  have gD0:=z.getD 0;have hT:wv D<1000000000*wv vs:=om;have Vl:wv D<1000000000^(e+2+1):=by rw[hL];omega
  obtain⟨I,rQ⟩:=Mg om z Vl;have XT:=z.getD (e+2);have gt1:=z.getD (e+1);have Zs:=z.getD e;have Zt:wv us=wv pre+1000000000^j*wv D:=by rw[Vk,dT,hj]
  obtain⟨q,S⟩:∃q,q=wv D / wv vs:=⟨_,rfl⟩
  have Cn:0<wv vs:=om;have J:q*wv vs<=wv D:=by rw[S];exact Ly _ _
  have Vm:wv D<q*wv vs+wv vs:=by
   have h1:=ta (wv D) (wv vs);have h2:=u0 (wv D) Cn;rw[<-S,ru]at h1;omega
  have Fy:q<1000000000:=by
   rw[S,zb Cn];exact hT
  rw[Vk]at h
  -- XU next round
  have next:∀r y,Div w1 r B Au nu cu (pre++y) Aq nq cq (qs.set j q)->wv y=wv D - q*wv vs->
    F.aS.Bp (e+2:Nat) Af nf cf Av (e+2) cv Au nu cu Aq nq cq ((j:Int) - 1) B r R:=by
   intro r y h2 fF;refine ih r _ _ om h2 ?_ ?_
   ·rw[<-hj,RA,fF];omega
   ·have Pn:wv ((qs.set j q).drop j)=q+1000000000*wv (qs.drop (j+1)):=by
     rw[eS,Dy,cc om,cN,oK om];rfl
    have e5:wv y+q*wv vs=wv D:=om;rw[Pn,dT,hj];rw[Zt,<-e5,hL]at he;rw[<-he];grind
  obtain⟨top,Ml⟩:∃top,top=D.getD (e+2) 0*1000000000+D.getD (e+1) 0:=⟨_,rfl⟩
  rw[<-Ml]at I;have Sk:((D.getD (e+2) 0:Nat):Int)*1000000000+((D.getD (e+1) 0:Nat):Int)=(top:Int):=om;obtain⟨v1,o⟩:∃v1,v1=vs.getD (e+1) 0:=⟨_,rfl⟩
  have Zu:((j:Int)+((e+2:Nat):Int)).toNat=(e+2)+j:=om;have Zv:((j:Int)+((e+2:Nat):Int) - 1).toNat=(e+1)+j:=om;have Fz:(((e+2:Nat):Int) - 1).toNat=e+1:=om;have mI:=h.u.len;refine F.aS.Bp.step ⟨fun _=>⟨ir,?_⟩,fun h=>by omega⟩;refine h.u.sl.load mI om om ?_;rw[Zu,dw hj];refine⟨ir,ir,ir,ir,?_⟩;refine h.u.sl.load mI om om ?_;rw[Zv,dw hj,Sk];refine⟨ir,ir,fun r N=>⟨ir,?_⟩⟩;have h2:=h.ext N;refine(h2.sl hv C).load qf om om ?_;have gK:vs.getD (((e+2:Nat):Int) - 1).toNat 0=v1:=by rw[Fz,o]
  rw[gK];rw[<-o]at E g1;refine⟨ir,⟨om,om,ir⟩,ir,?_⟩;refine(h2.sl hv C).load qf om om ?_;rw[gK];refine⟨ir,⟨om,om⟩,fun Y O=> ?_⟩;have h3:=h2.ext O;have ed:(top:Int) / (v1:Int)=((top / v1:Nat):Int):=by simp
  have em:(top:Int) % (v1:Int)=((top % v1:Nat):Int):=by simp
  rw[ed,em];have Zw:q<=top / v1:=by
   rw[Nat.le_div_iff_mul_le om];rw[I,L,<-o]at J;exact Fu Zs rQ J
  have JQ:top / v1<=1000000001:=by
   refine xV om g2 W (by rw[o]at E;exact E) (by rw[<-I,<-L];exact hT) ?_;rw[<-o];exact Ly _ _
  have Q5:=u0 top (show 0<v1 by omega);refine M4 hn hv qf tS C om hj om (top:=top) (low:=wv (D.take e)) (M:=1000000000^e) (vl:=wv (vs.take e)) (q:=q) (T:=wv D) (V:=wv vs) rQ W (by rw[G,<-o];omega) (by rw[G];exact L) I J Fy
   (fun Z g h4 Q6 XV Ow=> ?_) (top / v1) (top % v1) Y h3 (by rw[G,<-o];have:=ta top v1;rw[ru]at this;exact this) Zw JQ om (.inl om)
  refine dZ.mono (H8 (q:=q) (ga hB h4.below.size) hn h4.u h4.su (h4.sl hv C) qf tS Q7 hj om Q6 XV J Vm Ow Vl Sg Fy) ?_;rintro v w5 b5 ⟨rfl,y,hl3,rI,k3⟩;refine⟨fun k ty cs h=>(by cases h),_,rfl,?_⟩;refine(h4.join ha k3).Mf ha (j:=(j:Int)) om om om om fun w6 h6=>⟨ir,?_⟩
  rw[dq,dq]at h6;exact next w6 y h6 rI
end

theorem M6{t:Nat}(el:El Tryz.prog t 217 1 4){B:Nat}{w:World}{fB:List Nat}(hB:B<=w.heap.size)(xs:List Nat)(hl:xs.length<=1024){K:Option Addr->Nat->Nat->World->Prop}
  (h:∀A c a,du a w.heap.size A xs.length c xs->Below w.heap.size w a->K A xs.length c a):
  au Tryz.prog (Instr.buildSlice t xs.length ((gj xs).zipIdx.map fun x=>(x.2,x.1)).toArray) B fB w fun r w1=>∃A n c,r= .slice A n c/\K A n c w1:=by
 obtain⟨w',b,hb,hs,ho⟩:=Ee el w xs hl;exact⟨_,w',b,hb.mono hB,hs,fun k ty cs _ d=>hb.block k (bU.1 d).1,_,_,_,rfl,h _ _ _ ho hb⟩
theorem Cy{t ty:Nat}(el:El Tryz.prog t 217 1 4){B0 B:Nat}(g:B0<=B){fB:List Nat}{w:World}{A A1:Option Addr}{n c n1 c1:Nat}{ws vs:List Nat}(ho:du w B A n c ws)(hv:gM w A1 vs)(qf:vs.length=n1)(hB:B<=w.heap.size)(hn:n<=1000000)(D:n1<=1000000)(i:217∉fB)(h0:n1≠0)
  {K:Option Addr->Nat->Nat->World->Prop} (h:∀A' c' w',du w' B A' (n+n1) c' (ws++vs)->Below B w w'->K A' (n+n1) c' w'):
  au Tryz.prog (Builtin.append_ #[t,t] ty #[.slice A n c,.slice A1 n1 c1]) B0 fB w fun r l=>∃A n c,r= .slice A n c/\K A n c l:=by
 rcases hv with hv|⟨b,off,all,fr,rfl,hb,o⟩
 ·subst hv;simp at qf;omega
 ·refine rh el g ho (a:=⟨b,off,none⟩) (m:=n1) (c:=c1) (news:=gj vs) (by simp[gj,qf]) (fun j u hj=> ?_) (fun u hu=> ?_) hB om i fun A' c' w' q y E=>h A' c' w' ?_ (bS y (fun k z=>(ho.sA k z).1) hB)
  ·have d:j<vs.length:=by
    have:=(ew.1 hj).1;simpa[gj]using this
   have e:u= .int .u32 (vs[j]:Nat):=by
    have:(gj vs)[j]? =some (.int .u32 (vs[j]:Nat)):=by simp[gj,d]
    rw[this]at hj;exact(BM hj).symm
   subst e;have C:(⟨b,off,none⟩:Addr).add j=⟨b,off+j,none⟩:=by
    unfold Addr.add;split
    ·rename_i h;subst h;rfl
    ·rfl
   rw[C];simp only[World.cell?,hb];exact o j d
  ·simp only[gj,kc]at hu;obtain⟨x,_,rfl⟩:=hu;rfl
  ·unfold du;rw[xS];exact q

theorem ee.gV{w:World}{A:Option Addr}{n c z k:Nat}(h:ee w A n c z)(b:z<1000000000^k):n<=k:=by
 obtain⟨ws,_,hl,_,_,_,hn,rfl⟩:=h;by_cases h0:ws=[]
 ·subst h0;simp at hl;omega
 ·have h1:=lM hn h0;have:=(Fg (a:=1000000000) om).1 (kx h1 b);omega
theorem ee.M7{w:World}{A:Option Addr}{n c z k:Nat}(h:ee w A n c z)(b:1000000000^k<=z):k<n:=by
 obtain⟨ws,_,hl,_,_,hs,_,rfl⟩:=h;have h1:=ig hs;have:=(Fg (a:=1000000000) om).1 (kx b h1);omega
theorem du.some{w:World}{B:Nat}{A:Option Addr}{n c:Nat}{ws:List Nat}(h:du w B A n c ws)(h0:n≠0):A≠none:=by
 rintro rfl;rcases h.2 with⟨e,_⟩|⟨g,cap,cur,e,_⟩
 ·cases e;exact h0 rfl
 ·cases e
theorem M8:∀n:Nat,wv (List.replicate n 0)=0:=by
 intro n;induction n with
 |zero=>rfl
 |succ n ih=>rw[FM,wv,ih]

set_option maxHeartbeats 1000000 in
theorem Ae{w:World}{A0 A1:Option Addr}{n0 c0 n1 c1 x y:Nat}(ha:ee w A0 n0 c0 x)(hb:ee w A1 n1 c1 y)(hx:x<dL)(hy:y<dL)(BG:y≠0):
  Pure Tryz.prog 240 #[.slice A0 n0 c0,.slice A1 n1 c1] w fun v w'=>∃A n c A' n' c',v= .tuple #[.slice A n c,.slice A' n' c']/\ee w' A n c (x / y)/\ee w' A' n' c' (x % y):=by
 refine F.aS.vc (pm (wF ha hb hx hy) ?_);rintro v w3 d rfl;refine⟨_,rfl,fun h=> ?_,fun h=> ?_⟩
 ·have E:x<y:=by
   simp only[eW]at h;split at h
   ·omega
   ·split at h<;>omega
  rw[GO E,Dz E];exact⟨_,_,_,_,_,_,rfl,ee.nil _,ha.below d⟩
 have JS:y<=x:=by
  simp only[eW]at h;split at h<;>omega
 have l0:=ha.len hx;have l1:=hb.len hy;have R:=ha.below d;have Z:=hb.below d;obtain⟨a,a1,a2,a3,a4,a5,a6,ax⟩:=R;obtain⟨b,b1,b2,b3,b4,b5,b6,G⟩:=Z;have R:=ha.below d;have Z:=hb.below d;have Vr:b≠[]:=fun k=>by subst k;simp[wv]at G;omega
 have wW:=nQ.2 Vr;refine⟨fun h1=> ?_,fun h1=>⟨ir,?_⟩⟩
 ·have g:=b5.getD (Int.toNat 0);refine b1.load b2 om om ?_;have e:b.getD (Int.toNat 0) 0=y:=by
   obtain⟨z,rfl⟩:=ni.1 (by omega:b.length=1);simpa[wv]using G
  rw[e]at g⊢;refine pm (Cw R om om om) ?_;rintro v w9 ZI ⟨A,n,c,rfl,H⟩;have Q5:=u0 x (show 0<y by omega);refine⟨_,_,_,_,rfl,pm (oD (x:=x % y) om) ?_⟩;rintro v tz S2 ⟨A',n',c',rfl,I⟩;exact⟨_,_,_,rfl,_,_,_,_,_,_,rfl,H.below S2,I⟩
 have g:=b5.getD (n1 - 1);have e1:((n1:Int) - 1).toNat=n1 - 1:=om;refine b1.load b2 om om ?_;rw[e1];obtain⟨mt,Sq⟩:∃mt,mt=b.getD (n1 - 1) 0:=⟨_,rfl⟩
 have Pp:1<=mt:=by rw[Sq,<-b2];exact FA b6 Vr
 rw[<-Sq]at g⊢;obtain⟨f,hf⟩:∃f,f=1000000000 / (mt+1):=⟨_,rfl⟩
 obtain⟨Jg,JP,EE⟩:=xW Pp g hf;have Vo:2*f<=1000000000:=by
  have:=fT f (show 2<=mt+1 by omega);omega
 have ef:(1000000000:Int) / ((mt:Int)+1)=(f:Int):=by rw[hf];simp
 rw[ef];refine⟨ir,ir,⟨om,om,ir⟩,ir,?_⟩;refine pm (oD (x:=f) om) ?_;rintro v wX S3 ⟨Af,nf,cf,rfl,kf⟩;have H9:Below w.heap.size w wX:=d.trans (S3.mono d.size);have Vs:f<dL:=by
  unfold dL;exact kx (show f<=1000000000^1 by omega) (OE om (by have:=DG;omega))
 refine⟨_,_,_,rfl,pm (jw (Z.below S3) kf hy Vs) ?_⟩;rintro v i o ⟨Av,nv,cv,rfl,kv,_⟩;have j:Below w.heap.size w i:=H9.trans (o.mono H9.size);refine⟨_,_,_,rfl,?_⟩;refine M6 wD (xs:=[]) j.size sm fun Kj c21 tV J K=> ?_
 have BR:Below w.heap.size w tV:=j.trans (K.mono j.size);have s23:=K.size;refine pm (jw ((R.below S3).below (o.trans (K.mono o.size))) ((kf.below o).below K) hx Vs) ?_;rintro v Kg S ⟨A24,m,c24,rfl,ku,_⟩;have S4:Below w.heap.size w Kg:=BR.trans (S.mono BR.size);refine⟨_,_,_,rfl,?_⟩;have aac:x<1000000000^n0:=by have:=ig a5;rwa [ax,a2]at this
 have Vt:x<=x*f:=qn _ om;have VX:x*f<1000000000^(n0+1):=by
  have h2:x*f<=x*1000000000:=gO _ om;rw[hL];omega
 have uw:n1<=n0:=by
  have:=tx a5 b6 (by rw[ax,G];exact JS);omega
 have aad:1000000000^(n0 - 1)<=x:=by
  have:=lM a6 (fun e=>by subst e;simp at a2;omega);rwa [ax,a2]at this
 have Zp:m<=n0+1:=ku.gV VX;have Ue:n0 - 1<m:=ku.M7 (ga aad Vt);obtain⟨us,u1,u2,u3,u4,u5,u6,ux⟩:=ku;have Uk:=S.size;have o26:du Kg i.heap.size Kj 0 c21 []:=J.other fun k L=>S.block k (J.sA k L).2
 refine Cy wD j.size o26 u1 u2 om om om sm om fun Yc Yd Co Ul OB=> ?_
 have F8:Below w.heap.size w Co:=S4.trans (OB.mono (by have:=j.size;omega));have ZC:=OB.size;have VY:Below i.heap.size i Co:=(K.trans (S.mono s23)).trans OB;refine M6 wD (xs:=[0,0]) F8.size sm fun A30 c30 BH o32 T=> ?_
 have Ko:Below w.heap.size w BH:=F8.trans (T.mono F8.size);have ZD:=T.size;have aae:du BH i.heap.size Yc (0+m) Yd ([]++us):=Ul.other fun k L=>T.block k (Ul.sA k L).2
 refine Cy wD j.size aae o32.sl rfl om om sm sm sm fun V M q r Kr=> ?_
 have M9:Below w.heap.size w q:=Ko.trans (Kr.mono j.size);have s35:=Kr.size;have Rh:Below i.heap.size i q:=(VY.trans (T.mono om)).trans Kr;have su:Small ([]++us++[0,0]):=by
  rw[nN];exact u5.append (Small.cons om (Small.cons om Small.nil))
 have wvu:wv ([]++us++[0,0])=x*f:=by
  rw[nN,dT,ux];simp[wv]
 have Si:=r.cap;simp only[gw,ot]at Si;refine⟨ir,pm (wE r.sl r.len r.cap (by simp;omega) su) ?_⟩;rintro v Mo FB ⟨PZ,l,rfl,N,_⟩;rw[PZ];clear FB PZ;rw[wvu]at N;have ae6:l<=n0+1:=N.gV VX;refine⟨_,_,_,rfl,?_⟩;have eif:(if(l:Int)>((n0:Int)+1)then(l:Int)else((n0:Int)+1))=((n0+1:Nat):Int):=by rw[ar om];omega
 dsimp only;rw[eif,dq];have enq:((n0+1:Nat):Int) - (n1:Int)=((n0+1 - n1:Nat):Int):=om;rw[enq];refine⟨⟨om,om⟩,ir,?_⟩;refine kH wD El.tw rfl om om M9.size fun Aq nq C Ua H g2 I=>⟨ir,ir,?_⟩
 have So:nq=n0+1 - n1:=om;have hq:=du.replicate H;have Fy:∀a,Aq=some a->q.heap.size<=a.block:=fun a ha=>(hq.xn a ha).1
 have W:Below q.heap.size q C:=bS g2 sm lf
 -- XU Un words
 obtain⟨P,D⟩:∃P,P=1000000000^(n1 - 1):=⟨_,rfl⟩
 have X:=fe b (n1 - 1) om;have OW:wv (b.drop (n1 - 1))=mt:=by
  rw[eS,<-Sq,dp om];simp[wv]
 rw[OW]at X;have Ox:=ig (b5.take (n1 - 1));rw[fs,iv om]at Ox;rw[<-D]at X Ox;have hyf:y<=y*f:=qn _ om;have Vv:y*f<P*1000000000:=by
  have H:y+1<=P*(mt+1):=by rw[<-G,X,jv];omega
  have I:(y+1)*f<=P*(mt+1)*f:=fT _ H;have k3:P*((mt+1)*f)<=P*1000000000:=gO _ JP;rw[LG]at I;rw[mw]at I;omega
 have hPy:P*mt<=y:=by rw[<-G,X];omega
 have ZF:P*(mt*f)<=y*f:=by
  have:=fT f hPy;rwa [LG]at this
 have hP1:P*1<=P*mt:=gO _ Pp;have aah:P*1000000000=1000000000^n1:=by
  rw[D,<-hL,show(n1 - 1).succ=n1 by omega]
 have Pf:nv=n1:=by
  have h1:nv<=n1:=kv.gV (by rw[<-aah];exact Vv);have h2:n1 - 1<nv:=kv.M7 (by rw[<-D];omega);omega
 subst Pf;obtain⟨vs,v1,v2,v3,v4,v5,v6,Y⟩:=kv;have oM:1000000000<=2*vs.getD (nv - 1) 0:=by
  have h1:=fe vs (nv - 1) om;have h2:=ig (v5.take (nv - 1));rw[fs,iv om,<-D]at h2;have h3:wv (vs.drop (nv - 1))=vs.getD (nv - 1) 0:=by
   rw[eS,dp om];simp[wv]
  rw[h3,<-D,Y]at h1;apply ea;intro k;have h4:P*(vs.getD (nv - 1) 0+1)<=P*(mt*f):=gO _ om;rw[jv]at h4;omega
 have aai:vs≠[]:=fun e=>by subst e;simp at v2;omega
 have Sn:=v1.zE aai;obtain⟨hnf,O⟩:=kf.one om om;have V0:=O.zE sm
 -- XU S5 words
 have Q:du q i.heap.size V (n0+1) M (([]++us++[0,0]).take (n0+1)):=r.take (by simp;omega) (.inl (r.some sm));obtain⟨U,hU⟩:∃U,U=([]++us++[0,0]).take (n0+1):=⟨_,rfl⟩
 rw[<-hU]at Q;have hsU:Small U:=by rw[hU];exact su.take _
 have wU:wv U=x*f:=by
  rw[hU,nN,List.take_append,bx om,dT,ux,u2];have e:([0,0]:List Nat).take (n0+1 - m)=List.replicate (n0+1 - m) 0:=by
   rcases(by omega:n0+1 - m=0∨n0+1 - m=1)with e|e<;>rw[e]<;>rfl
  rw[e,M8,CO,ob]
 have lU:=Q.len;have Ud:=Q.xn;have aaj:du C i.heap.size V (n0+1) M U:=Q.other fun k L=>W.block k (Q.sA k L).2
 have UU:sB V Aq:=fun a b ha hb=>by
  have h1:=Ud a ha;have h2:=Fy b hb;omega
 have s20:=o.size;have aak:=j.size;have v41:gM C Av vs:=(v1.below Rh).below W;have f41:gM C Af [f]:=((O.below o).below Rh).below W;have Q7:∀a b,Av=some a->V=some b->a.block≠b.block:=fun a b ha hb=>by
  have h1:=Sn a ha;have h2:=Ud b hb;omega
 rw[<-So];have aal:1000000000^nq*P=1000000000^n0:=by
  rw[D,<-PS,show nq+(nv - 1)=n0 by omega]
 refine M5 (w1:=C) (B:=w.heap.size) UU om (by have:=W.size;have:=M9.size;omega) v41 v2 v5 (Sep.of Q7 fun a b ha hb=>by have h1:=Sn a ha;have h2:=Fy b hb;omega) Q7 om om oM
  f41 hnf (Sep.of (fun a b ha hb=>by have h1:=V0 a ha;have h2:=Ud b hb;omega) fun a b ha hb=>by have h1:=V0 a ha;have h2:=Fy b hb;omega) om om (U0:=x*f) (fun A n c A' n' c' w' q1 q2=> ?_)
  nq C U (List.replicate nq 0) lf ⟨aaj.base aak,hq.base M9.size,hsU,Small.replicate _,fun _ _ _ _=>rfl,Below.refl _ _⟩ ?_ ?_
 ·rw[Y,Nat.mul_div_mul_right _ _ om]at q1;rw[Y,Nat.mul_mod_mul_right,Nat.mul_div_cancel _ om]at q2;exact⟨_,_,_,_,_,_,rfl,q1,q2⟩
 ·have h1:=fe U nq om;rw[wU]at h1;have h2:x*f<1000000000^n0*f:=(Nat.mul_lt_mul_right om).2 aac;rw[<-aal,LG]at h2;have h3:wv (U.drop nq)<P*f:=by
   apply ea;intro k;have:=gO (1000000000^nq) (show P*f<=wv (U.drop nq) by omega);omega
  rw[Y];have h4:P*f<=y*f:=fT _ om;omega
 ·rw[dp sm];simp[wv,wU]
end Go.Proofs.YtgfkeadgjkfomaaGreatDoor.B

set_option maxRecDepth 100000
set_option maxHeartbeats 4000000
namespace Go.Proofs.YtgfkeadgjkfomaaGreatDoor.F
open Go Go.RowKit Go.Proofs Go.Proofs.YtgfkeadgjkfomaaGreatDoor.Vc
def jg.cx:Pm:=([],[])
theorem jg.vc{a:Bool}{f:O}{b g:Nat}{w:World}{R:Kt}
  (h:(Bb a (∀c,Ext w.heap.size [] w c->(R (.int .i64 (-1:Int)) c)) (Br ((b:Int)>0) (∀d,Ext w.heap.size [] w d->(R (.int .i64 1) d)) (∀e,Ext w.heap.size [] w e->(R (.int .i64 0) e))))):
  Pure P 176 #[.agg #[.bool a,.slice f b g]] w R:=
 pr jg.cx Tryz.func176 h

def jL.cx:Pm:=([],[])
theorem jL.vc{a:ByteArray}{w:World}{R:Kt}
  (h:(Br (((ByteArray.size a:Int):Int)>1) ((0<=(0:Int)/\(0:Int)<(ByteArray.size a:Int))/\(Br (((bt a (0:Int)):Int)=45) (Br (a≠(⟨#[45,48]⟩:ByteArray)) ((0<=(1:Int)/\(1:Int)<=(ByteArray.size a:Int))/\(Pure P 205 #[(.string (ByteArray.extract a ((1:Int)).toNat (ByteArray.size a)))] w (Rb fun b c=>(R (.bool b) c)))) (R (.bool false) w)) (Pure P 205 #[.string a] w (Rb fun d e=>(R (.bool d) e))))) (Pure P 205 #[.string a] w (Rb fun f g=>(R (.bool f) g))))):
  Pure P 204 #[.string a] w R:=
 pr jL.cx Tryz.func204 h

def kR.cx:Pm:=([],[])
theorem kR.vc{a:ByteArray}{w:World}{R:Kt}
  (h:((0<=(0:Int)/\(0:Int)<(ByteArray.size a:Int))/\(Br (((bt a (0:Int)):Int)=45) ((0<=(1:Int)/\(1:Int)<=(ByteArray.size a:Int))/\(∀b,Ext w.heap.size [] w b->(Pure P 207 #[(.string (ByteArray.extract a ((1:Int)).toNat (ByteArray.size a)))] b (Rs fun f g i j=>(∀c,Ext w.heap.size [164] j c->(R (.agg #[.bool true,.slice f g i]) c)))))) (∀d,Ext w.heap.size [] w d->(Pure P 207 #[.string a] d (Rs fun l m n o=>(∀e,Ext w.heap.size [164] o e->(R (.agg #[.bool false,.slice l m n]) e)))))))):
  Pure P 206 #[.string a] w R:=
 pr kR.cx Tryz.func206 h

def jM.cx:Pm:=([],[])
theorem jM.vc{a:Int}{w:World}{R:Kt}
  (h:(Br (a<0) (az .i64 (-a)/\(az .u32 ((-a))/\(∀b,Ext w.heap.size [] w b->(Pure P 208 #[(.int .u32 ((-a)))] b (Rs fun f g i j=>(Pure P 222 #[.bool true,.slice f g i] j (Rz fun l m n o p=>(∀c,Ext w.heap.size [164] p c->(R (.agg #[.bool l,.slice m n o]) c))))))))) (az .u32 (a)/\(∀d,Ext w.heap.size [] w d->(Pure P 208 #[(.int .u32 (a))] d (Rs fun q r s t=>(Pure P 222 #[.bool false,.slice q r s] t (Rz fun u v x y z=>(∀e,Ext w.heap.size [164] z e->(R (.agg #[.bool u,.slice v x y]) e)))))))))):
  Pure P 217 #[.int .i64 a] w R:=
 pr jM.cx Tryz.func217 h

def jN.cx:Pm:=([],[])
theorem jN.vc{a b:Bool}{c d:O}{e f g i:Nat}{w:World}{R:Kt}
  (h:(∀j,Ext w.heap.size [] w j->(Pure P 220 #[.slice c e f,.slice d g i] j (Rs fun m n o p=>(Pure P 222 #[(.bool (decide (¬((a:Bool)=b)))),.slice m n o] p (Rz fun q r s t u=>(∀l,Ext w.heap.size [164] u l->(R (.agg #[.bool q,.slice r s t]) l)))))))):
  Pure P 219 #[.agg #[.bool a,.slice c e f],.agg #[.bool b,.slice d g i]] w R:=
 pr jN.cx Tryz.func219 h

def kS.cx:Pm:=([],[])
theorem kS.vc{g i:Bool}{a b:O}{c d e f:Nat}{w:World}{R:Kt}
  (h:(Br ((g:Bool)=i) (∀j,Ext w.heap.size [] w j->(Pure P 246 #[.slice a c d,.slice b e f] j (Rs fun s t u v=>(Pure P 222 #[.bool g,.slice s t u] v (Rz fun x y z A C=>(∀l,Ext w.heap.size [164] C l->(R (.agg #[.bool x,.slice y z A]) l))))))) (∀m,Ext w.heap.size [] w m->(Pure P 209 #[.slice a c d,.slice b e f] m (Ri fun D n=>(Br (D≥(0:Int)) (∀o,Ext w.heap.size [] n o->(Pure P 247 #[.slice a c d,.slice b e f] o (Rs fun E G H I=>(Pure P 222 #[.bool g,.slice E G H] I (Rz fun J K L M N=>(∀p,Ext w.heap.size [164] N p->(R (.agg #[.bool J,.slice K L M]) p))))))) (∀q,Ext w.heap.size [] n q->(Pure P 247 #[.slice b e f,.slice a c d] q (Rs fun Q S T U=>(Pure P 222 #[.bool i,.slice Q S T] U (Rz fun V X Y Z a0=>(∀r,Ext w.heap.size [164] a0 r->(R (.agg #[.bool V,.slice X Y Z]) r))))))))))))):
  Pure P 221 #[.agg #[.bool g,.slice a c d],.agg #[.bool i,.slice b e f]] w R:=
 pr kS.cx Tryz.func221 h

def kT.cx:Pm:=([],[])
theorem kT.vc{d:Bool}{b:O}{a c:Nat}{w:World}{R:Kt}
  (h:(Bb d (∀e,Ext w.heap.size [] w e->(R (.agg #[(.bool (decide ((a:Int)>0))),.slice b a c]) e)) (∀f,Ext w.heap.size [] w f->(R (.agg #[.bool false,.slice b a c]) f)))):
  Pure P 222 #[.bool d,.slice b a c] w R:=
 pr kT.cx Tryz.func222 h

def mR.cx:Pm:=([],[])
theorem mR.vc{d:Bool}{a:O}{b c:Nat}{w:World}{R:Kt}
  (h:(Bb d (∀e,Ext w.heap.size [] w e->(Pure P 224 #[.slice a b c] e (Rt fun f i=>(ByteArray.size (⟨#[45]⟩:ByteArray)+ByteArray.size f<=9223372036854775807/\(R (.string ((⟨#[45]⟩:ByteArray)++f)) i))))) (∀g,Ext w.heap.size [] w g->(Pure P 224 #[.slice a b c] g (Rt fun j l=>(R (.string j) l)))))):
  Pure P 223 #[.agg #[.bool d,.slice a b c]] w R:=
 pr mR.cx Tryz.func223 h

def lZ.cx:Pm:=([],[])
theorem lZ.vc{a b:Bool}{c d:O}{e f g i:Nat}{w:World}{R:Kt}
  (h:(∀j,Ext w.heap.size [] w j->(Pure P 248 #[.agg #[.bool a,.slice c e f],.agg #[.bool b,.slice d g i]] j (Rz fun l m n o p=>(Pure P 176 #[.agg #[.bool l,.slice m n o]] p (Ri fun q r=>(R (.int .i64 q) r))))))):
  Pure P 225 #[.agg #[.bool a,.slice c e f],.agg #[.bool b,.slice d g i]] w R:=
 pr lZ.cx Tryz.func225 h

def jO.cx:Pm:=([],[])
theorem jO.vc{a b:Bool}{c d:O}{e f g i:Nat}{w:World}{R:Kt}
  (h:(∀j,Ext w.heap.size [] w j->(Pure P 265 #[.agg #[.bool b,.slice d g i]] j (Rz fun m n o p q=>(Pure P 221 #[.agg #[.bool a,.slice c e f],.agg #[.bool m,.slice n o p]] q (Rz fun r s t u v=>(∀l,Ext w.heap.size [164] v l->(R (.agg #[.bool r,.slice s t u]) l)))))))):
  Pure P 248 #[.agg #[.bool a,.slice c e f],.agg #[.bool b,.slice d g i]] w R:=
 pr jO.cx Tryz.func248 h

def hE.cx:Pm:=([],[])
theorem hE.vc{a:Bool}{b:O}{c d:Nat}{w:World}{R:Kt}
  (h:(∀e,Ext w.heap.size [] w e->(Pure P 222 #[(.bool (decide (a=false))),.slice b c d] e (Rz fun g i j l m=>(∀f,Ext w.heap.size [164] m f->(R (.agg #[.bool g,.slice i j l]) f)))))):
  Pure P 265 #[.agg #[.bool a,.slice b c d]] w R:=
 pr hE.cx Tryz.func265 h

end Go.Proofs.YtgfkeadgjkfomaaGreatDoor.F

namespace Go.Proofs.YtgfkeadgjkfomaaGreatDoor.B
open Go Go.RowKit Go.Proofs Go.Proofs.YtgfkeadgjkfomaaGreatDoor.Vc

theorem ee.lt2{w:World}{A:Option Addr}{n c x:Nat}(h:ee w A n c x)(hn:n<=2):x<1000000000000000000:=by
 obtain⟨ws,_,hl,_,_,hs,_,rfl⟩:=h;have h1:=ig hs;have h2:1000000000^ws.length<=1000000000^2:=fy om om;omega
theorem Ks{B g:Nat}{R:Value->World->Prop}(d:∀A n c w,ee w A n c g->R (.slice A n c) w):
  ∀(y x:Nat)(w:World),x<1000000000000000000->y<1000000000000000000->Nat.gcd x y=g->F.bf.L4 x y B w R:=by
 intro y;induction y using Nat.strongRecOn with
 |_ y ih=>
  intro x w hx hy a;refine F.bf.L4.step ⟨fun h=>⟨⟨om,om⟩,fun i _=> ?_⟩,fun h=> ?_⟩
  ·have b:0<y:=om;have hm:=u0 x b;have e:(x:Int) % (y:Int)=((x % y:Nat):Int):=by simp
   rw[e];refine ih (x % y) hm y i hy om ?_;rw[<-a,CQ x y,Nat.gcd_rec y x,CQ]
  ·have b:y=0:=om;subst b;rw[HF]at a;subst a;refine pm (M1 hx) ?_;rintro v j _ ⟨A,n,c,rfl,k⟩;exact⟨_,_,_,rfl,d _ _ _ _ k⟩
theorem Ku{B g:Nat}{R:Value->World->Prop}(e:∀A n c w,ee w A n c g->R (.slice A n c) w):
  ∀(y x:Nat)(w:World)(A0 A1:Option Addr)(n0 c0 n1 c1:Nat),ee w A0 n0 c0 x->ee w A1 n1 c1 y->x<dL->y<dL->Nat.gcd x y=g->F.bf.L1 A0 n0 c0 A1 n1 c1 B w R:=by
 intro y;induction y using Nat.strongRecOn with
 |_ y ih=>
  intro x w A0 A1 n0 c0 n1 c1 ha hb hx hy a;have hp:=hb.tA;have over:0<n1->Pure Tryz.prog 240 #[.slice A0 n0 c0,.slice A1 n1 c1] w fun o q=>∃(r:Option Addr)(n7 z:Nat)(i:Option Addr)(j l:Nat),o=(.tuple #[(.slice r n7 z),(.slice i j l)])/\(F.bf.L1 A1 n1 c1 i j l B q R):=fun h=>by
   have b:y≠0:=hp.1 h;have hm:=u0 x (show 0<y by omega);refine pm (Ae ha hb hx hy b) ?_;rintro v m d ⟨A,n,c,A',n',c',rfl,_,k⟩;refine⟨_,_,_,_,_,_,rfl,ih (x % y) hm y m _ _ _ _ _ _ (hb.below d) k hy om ?_⟩;rw[<-a,CQ x y,Nat.gcd_rec y x,CQ]
  refine F.bf.L1.step ⟨fun h=>⟨fun h0=>⟨fun h1=> ?_,fun _=>over om⟩,fun _=>over om⟩,fun h=> ?_⟩
  ·refine pm (F7 ha om) ?_;rintro v m d rfl;refine⟨_,rfl,pm (F7 (hb.below d) om) ?_⟩;rintro v C D rfl;exact⟨_,rfl,Ks e y x C (ha.lt2 om) (hb.lt2 om) a⟩
  ·have b:y=0:=by
    apply ea;intro k;have:=hp.2 k;omega
   subst b;rw[HF]at a;subst a;exact e _ _ _ _ ha
theorem Ah{w:World}{A0 A1:Option Addr}{n0 c0 n1 c1 x y:Nat}(ha:ee w A0 n0 c0 x)(hb:ee w A1 n1 c1 y)(hx:x<dL)(hy:y<dL):
  Pure Tryz.prog 210 #[.slice A0 n0 c0,.slice A1 n1 c1] w fun v w'=>∃A n c,v= .slice A n c/\ee w' A n c (Nat.gcd x y):=
 F.bf.vc (Ku (fun A n c w k=>⟨A,n,c,rfl,k⟩) y x w _ _ _ _ _ _ ha hb hx hy rfl)

def yO(w:World)(b:Bool)(A:Option Addr)(n c:Nat)(z:Int):Prop:=b=decide (z<0)/\ee w A n c z.natAbs
theorem yO.below{w w':World}{b:Bool}{A:Option Addr}{n c:Nat}{z:Int}(h:yO w b A n c z)(hb:Below w.heap.size w w'):yO w' b A n c z:=⟨h.1,h.2.below hb⟩
theorem yO.ext{w w':World}{B:Nat}{ts:List Nat}{b:Bool}{A:Option Addr}{n c:Nat}{z:Int}(h:yO w b A n c z)(e:Ext B ts w w')(a:217∉ts):yO w' b A n c z:=⟨h.1,h.2.ext e a⟩
abbrev ZR(z:Int)(v:Value)(w:World):Prop:=∃b A n c,v= .agg #[.bool b,.slice A n c]/\yO w b A n c z

theorem mS{w:World}(b:Bool){A:Option Addr}{n c x:Nat}(h:ee w A n c x):Pure Tryz.prog 222 #[.bool b,.slice A n c] w (ZR (if b then -(x:Int)else x)):=by
 have hp:=h.tA;refine F.kT.vc ⟨fun hb d a=>⟨_,_,_,_,rfl,?_,?_⟩,fun hb d a=>⟨_,_,_,_,rfl,?_,?_⟩⟩
 ·rw[hb,cc rfl,jB];omega
 ·rw[hb,cc rfl,Kf,ky];exact h.ext a dc
 ·rw[hb,ar dc]
  symm
  exact eh om
 ·rw[hb,ar dc,ky];exact h.ext a dc
theorem uB{w:World}{b:Bool}{A:Option Addr}{n c:Nat}{z:Int}(h:yO w b A n c z):Pure Tryz.prog 265 #[.agg #[.bool b,.slice A n c]] w (ZR (-z)):=by
 obtain⟨rfl,k⟩:=h;refine F.hE.vc fun w1 d=>pm (mS _ (k.ext d dc)) ?_
 rintro v i j ⟨b,A,n,c,rfl,q⟩;refine⟨_,_,_,_,rfl,fun l g=>⟨_,_,_,_,rfl,?_⟩⟩;have e:(if decide (decide (z<0)=false)=true then -(z.natAbs:Int)else(z.natAbs:Int))= -z:=by
  by_cases a:z<0
  ·rw[ar (by simp[a])];omega
  ·rw[cc (by simp[a])];omega
 rw[e]at q;exact q.ext g dc
def PD(z:Int):Int:=if z<0 then -1 else if 0<z then 1 else 0
theorem sV{w:World}{b:Bool}{A:Option Addr}{n c:Nat}{z:Int}(h:yO w b A n c z):Pure Tryz.prog 176 #[.agg #[.bool b,.slice A n c]] w fun v _=>v= .int .i64 (PD z):=by
 obtain⟨rfl,k⟩:=h;have hp:=k.tA;unfold PD;refine F.jg.vc ⟨fun hb d _=> ?_,fun hb=>⟨fun h d _=> ?_,fun h d _=> ?_⟩⟩
 ·rw[cc (hG hb)]
 ·have a:¬z<0:=kd hb;rw[ar a,cc om]
 ·have a:¬z<0:=kd hb;rw[ar a,ar om]
theorem xv{w:World}{b0 b1:Bool}{A0 A1:Option Addr}{n0 c0 n1 c1:Nat}{x y:Int}(hx:yO w b0 A0 n0 c0 x)(hy:yO w b1 A1 n1 c1 y)(o:x.natAbs<dL)(r:y.natAbs<dL):
  Pure Tryz.prog 221 #[.agg #[.bool b0,.slice A0 n0 c0],.agg #[.bool b1,.slice A1 n1 c1]] w (ZR (x+y)):=by
 obtain⟨rfl,z⟩:=hx;obtain⟨rfl,B⟩:=hy;have made:∀(b:Bool)(t:Nat)(w1:World)(A:Option Addr)(n c:Nat),ee w1 A n c t->(if b then -(t:Int)else(t:Int))=x+y->Pure Tryz.prog 222 #[.bool b,.slice A n c] w1 fun K L=>∃(C:Bool)(D:Option Addr)(E G:Nat),K=(.agg #[(.bool C),(.slice D E G)])/\(∀H,Ext w.heap.size [164] L H->ZR (x+y) (.agg #[(.bool C),(.slice D E G)]) H):=by
  intro b t w1 A n c k e;refine pm (mS b k) ?_;rintro v I m ⟨P,A',n',c',rfl,q⟩;rw[e]at q;exact⟨_,_,_,_,rfl,fun J d=>⟨_,_,_,_,rfl,q.ext d dc⟩⟩
 refine F.kS.vc ⟨fun h w1 g=> ?_,fun h w1 g=> ?_⟩
 ·refine pm (M0 (z.ext g dc) (B.ext g dc) o r) ?_;rintro v I m ⟨A,n,c,rfl,k⟩;refine⟨_,_,_,rfl,made _ _ _ _ _ _ k ?_⟩;have M:(x<0↔y<0):=by simpa using h
  by_cases a:x<0
  ·rw[cc (fc a)];omega
  ·rw[ar (by simp[a])];omega
 have M:¬(x<0↔y<0):=by simpa using h
 refine pm (wF (z.ext g dc) (B.ext g dc) o r) ?_;rintro v I m rfl;have j:=(z.ext g dc).below m;have l:=(B.ext g dc).below m;refine⟨_,rfl,fun i J d=> ?_,fun i J d=> ?_⟩
 ·have hle:y.natAbs<=x.natAbs:=by
   simp only[eW]at i;split at i<;>omega
  refine pm (Cv (j.ext d dc) (l.ext d dc) o hle) ?_;rintro v N O ⟨A,n,c,rfl,k⟩;refine⟨_,_,_,rfl,made _ _ _ _ _ _ k ?_⟩;by_cases a:x<0
  ·rw[cc (fc a)];omega
  ·rw[ar (by simp[a])];omega
 ·have hle:x.natAbs<=y.natAbs:=by
   simp only[eW]at i;split at i
   ·omega
   ·split at i<;>omega
  refine pm (Cv (l.ext d dc) (j.ext d dc) r hle) ?_;rintro v N O ⟨A,n,c,rfl,k⟩;refine⟨_,_,_,rfl,made _ _ _ _ _ _ k ?_⟩;by_cases a:y<0
  ·rw[cc (fc a)];omega
  ·rw[ar (by simp[a])];omega
theorem Ia{w:World}{b0 b1:Bool}{A0 A1:Option Addr}{n0 c0 n1 c1:Nat}{x y:Int}(hx:yO w b0 A0 n0 c0 x)(hy:yO w b1 A1 n1 c1 y)(d:x.natAbs<dL)(g:y.natAbs<dL):
  Pure Tryz.prog 248 #[.agg #[.bool b0,.slice A0 n0 c0],.agg #[.bool b1,.slice A1 n1 c1]] w (ZR (x - y)):=by
 refine F.jO.vc fun w1 a=>pm (uB (hy.ext a dc)) ?_
 rintro v j h ⟨b,A,n,c,rfl,k⟩;refine⟨_,_,_,_,rfl,pm (xv ((hx.ext a dc).below h) k d (by rw[Kf];exact g)) ?_⟩;rintro v l m ⟨b,A,n,c,rfl,k⟩;refine⟨_,_,_,_,rfl,fun o i=>⟨_,_,_,_,rfl,?_⟩⟩;have e:x+ -y=x - y:=om;rw[e]at k;exact k.ext i dc
theorem Ib{w:World}{b0 b1:Bool}{A0 A1:Option Addr}{n0 c0 n1 c1:Nat}{x y:Int}(hx:yO w b0 A0 n0 c0 x)(hy:yO w b1 A1 n1 c1 y)(d:x.natAbs<dL)(g:y.natAbs<dL):
  Pure Tryz.prog 219 #[.agg #[.bool b0,.slice A0 n0 c0],.agg #[.bool b1,.slice A1 n1 c1]] w (ZR (x*y)):=by
 obtain⟨rfl,h⟩:=hx;obtain⟨rfl,i⟩:=hy;refine F.jN.vc fun w1 a=>pm (jw (h.ext a dc) (i.ext a dc) d g) ?_
 rintro v l m ⟨A,n,c,rfl,k,_⟩;refine⟨_,_,_,rfl,pm (mS _ k) ?_⟩;rintro v o q ⟨b,A,n,c,rfl,k⟩;refine⟨_,_,_,_,rfl,fun r j=>⟨_,_,_,_,rfl,?_⟩⟩;have e:(if decide (¬(decide (x<0)=decide (y<0)))=true then -((x.natAbs*y.natAbs:Nat):Int)else((x.natAbs*y.natAbs:Nat):Int))=x*y:=by
  rw[<-og];by_cases h1:x<0<;>by_cases h2:y<0
  ·rw[ar (by simp[h1,h2])];have:=RB (show 0<= -x by omega) (show 0<= -y by omega);rw[Int.neg_mul_neg]at this;omega
  ·rw[cc (by simp[h1,h2])];have:x*y<=0:=MG om om;omega
  ·rw[cc (by simp[h1,h2])];have:x*y<=0:=MX om om;omega
  ·rw[ar (by simp[h1,h2])];have:0<=x*y:=RB om om;omega
 rw[e]at k;exact k.ext j dc
theorem Nb{w:World}{b0 b1:Bool}{A0 A1:Option Addr}{n0 c0 n1 c1:Nat}{x y:Int}(hx:yO w b0 A0 n0 c0 x)(hy:yO w b1 A1 n1 c1 y)(d:x.natAbs<dL)(e:y.natAbs<dL):
  Pure Tryz.prog 225 #[.agg #[.bool b0,.slice A0 n0 c0],.agg #[.bool b1,.slice A1 n1 c1]] w fun v _=>v= .int .i64 (PD (x - y)):=by
 refine F.lZ.vc fun w1 a=>pm (Ia (hx.ext a dc) (hy.ext a dc) d e) ?_
 rintro v g h ⟨b,A,n,c,rfl,k⟩;refine⟨_,_,_,_,rfl,pm (sV k) ?_⟩;rintro v i _ rfl;exact⟨_,rfl,rfl⟩
theorem Ic{w:World}{z:Int}(h:z.natAbs<4294967296):Pure Tryz.prog 217 #[.int .i64 z] w (ZR z):=by
 have fin:∀(b:Bool)(t:Nat)(w1:World)(A:Option Addr)(n c:Nat),ee w1 A n c t->(if b then -(t:Int)else(t:Int))=z->Pure Tryz.prog 222 #[.bool b,.slice A n c] w1 fun o r=>∃(a:Bool)(d:Option Addr)(g i:Nat),o=(.agg #[(.bool a),(.slice d g i)])/\(∀j,Ext w.heap.size [164] r j->ZR z (.agg #[(.bool a),(.slice d g i)]) j):=by
  intro b t w1 A n c k e;refine pm (mS b k) ?_;rintro v l m ⟨C,A',n',c',rfl,q⟩;rw[e]at q;exact⟨_,_,_,_,rfl,fun D y=>⟨_,_,_,_,rfl,q.ext y dc⟩⟩
 refine F.jM.vc ⟨fun h0=>⟨ir,ir,fun w1 B=> ?_⟩,fun h0=>⟨ir,fun w1 B=> ?_⟩⟩
 ·have e: -z=(z.natAbs:Int):=om;rw[e];refine pm (oD (x:=z.natAbs) h) ?_;rintro v l m ⟨A,n,c,rfl,k⟩;exact⟨_,_,_,rfl,fin true _ _ _ _ _ k (by rw[cc rfl];omega)⟩
 ·have e:z=(z.natAbs:Int):=om;rw[e];refine pm (oD (x:=z.natAbs) h) ?_;rintro v l m ⟨A,n,c,rfl,k⟩;rw[<-e];exact⟨_,_,_,rfl,fin false _ _ _ _ _ k (by rw[ar dc];omega)⟩
end Go.Proofs.YtgfkeadgjkfomaaGreatDoor.B

set_option maxRecDepth 100000
set_option maxHeartbeats 4000000
namespace Go.Proofs.YtgfkeadgjkfomaaGreatDoor.F
open Go Go.RowKit Go.Proofs Go.Proofs.YtgfkeadgjkfomaaGreatDoor.Vc
def kU.cx:Pm:=([],[])
theorem kU.vc{a:Bool}{b f:O}{c d g i:Nat}{w:World}{R:Kt}
  (h:(∀e,Ext w.heap.size [] w e->(Pure P 176 #[.agg #[.bool a,.slice b c d]] e (Ri fun j l=>(R (.int .i64 j) l))))):
  Pure P 145 #[.agg #[.bool a,.slice b c d,.slice f g i]] w R:=
 pr kU.cx Tryz.func145 h

def kV.cx:Pm:=([],[])
theorem kV.vc{a b:Bool}{c d e f:O}{g i j l m n o p:Nat}{w:World}{R:Kt}
  (h:(∀q,Ext w.heap.size [] w q->(Pure P 193 #[.agg #[.bool a,.slice c g i,.slice d j l],.agg #[.bool b,.slice e m n,.slice f o p]] q (Ri fun r s=>(R (.bool (decide (r<0))) s))))):
  Pure P 161 #[.agg #[.bool a,.slice c g i,.slice d j l],.agg #[.bool b,.slice e m n,.slice f o p]] w R:=
 pr kV.cx Tryz.func161 h

def jP.cx:Pm:=([],[])
theorem jP.vc{a:ByteArray}{w:World}{R:Kt}
  (h:(Pure P 177 #[.string a] w fun d e=>∃f g i j l m n b,d= .tuple #[.agg #[.bool f,.slice g i j,.slice l m n],.bool b]/\(∀c,Ext w.heap.size [] e c->(R (.bool b) c)))):
  Pure P 175 #[.string a] w R:=
 pr jP.cx Tryz.func175 h

def kW.cx:Pm:=([],[])
theorem kW.vc{l:ByteArray}{w:World}{R:Kt}
  (h:(∀m,Ext w.heap.size [] w m->(Pure P 203 #[.string l] m fun I J=>∃g i n,I= .tuple #[.string g,.string i,.bool n]/\(Pure P 204 #[.string g] J (Rb fun K o=>(Br (K=false) (Pure P 189 #[.int .i64 0] o (Rq fun L M N O Q S T U=>(∀p,Ext w.heap.size [166] U p->(R (.tuple #[.agg #[.bool L,.slice M N O,.slice Q S T],.bool false]) p)))) (Pure P 205 #[.string i] o (Rb fun V q=>(Br (V=false) (Pure P 189 #[.int .i64 0] q (Rq fun X Y Z a0 k a2 a3 a4=>(∀r,Ext w.heap.size [166] a4 r->(R (.tuple #[.agg #[.bool X,.slice Y Z a0,.slice k a2 a3],.bool false]) r)))) (Pure P 206 #[.string g] q (Rz fun j a b c a5=>(Pure P 207 #[.string i] a5 (Rs fun d e f s=>(Br (n=false) (∀t,Ext w.heap.size [166] s t->(R (.tuple #[.agg #[.bool j,.slice a b c,.slice d e f],.bool true]) t)) (∀u,Ext w.heap.size [] s u->(Pure P 208 #[(.int .u32 (1:Int))] u (Rs fun v x y B=>(Pure P 209 #[.slice d e f,.slice v x y] B (Ri fun F z=>(Br (F>0) (Pure P 176 #[.agg #[.bool j,.slice a b c]] z (Ri fun W A=>(Br (W≠0) (Pure P 210 #[.slice a b c,.slice d e f] A (Rs fun a9 b0 b1 b2=>(Pure P 209 #[.slice a9 b0 b1,.slice v x y] b2 (Ri fun b3 C=>(Br (¬(b3=0)) (Pure P 189 #[.int .i64 0] C (Rq fun b4 b5 b6 b7 b8 b9 c0 c1=>(∀D,Ext w.heap.size [166] c1 D->(R (.tuple #[.agg #[.bool b4,.slice b5 b6 b7,.slice b8 b9 c0],.bool false]) D)))) (∀E,Ext w.heap.size [166] C E->(R (.tuple #[.agg #[.bool j,.slice a b c,.slice d e f],.bool true]) E))))))) (Pure P 189 #[.int .i64 0] A (Rq fun c2 c3 c4 c5 c6 c7 c8 c9=>(∀G,Ext w.heap.size [166] c9 G->(R (.tuple #[.agg #[.bool c2,.slice c3 c4 c5,.slice c6 c7 c8],.bool false]) G))))))) (Pure P 189 #[.int .i64 0] z (Rq fun d0 d1 d2 d3 d4 d5 d6 d7=>(∀H,Ext w.heap.size [166] d7 H->(R (.tuple #[.agg #[.bool d0,.slice d1 d2 d3,.slice d4 d5 d6],.bool false]) H)))))))))))))))))))))))):
  Pure P 177 #[.string l] w R:=
 pr kW.cx Tryz.func177 h

def ma.cx:Pm:=([],[])
theorem ma.vc{a:Int}{w:World}{R:Kt}
  (h:(∀b,Ext w.heap.size [] w b->(Pure P 217 #[.int .i64 a] b (Rz fun d e f g i=>(Pure P 208 #[(.int .u32 (1:Int))] i (Rs fun j l m n=>(∀c,Ext w.heap.size [166] n c->(R (.agg #[.bool d,.slice e f g,.slice j l m]) c)))))))):
  Pure P 189 #[.int .i64 a] w R:=
 pr ma.cx Tryz.func189 h

def mb.cx:Pm:=([],[])
theorem mb.vc{a b:Bool}{c d e f:O}{g i j l m n o p:Nat}{w:World}{R:Kt}
  (h:(∀q,Ext w.heap.size [] w q->(Pure P 219 #[.agg #[.bool a,.slice c g i],.agg #[.bool b,.slice e m n]] q (Rz fun s t u v x=>(Pure P 220 #[.slice d j l,.slice f o p] x (Rs fun y z A C=>(Pure P 218 #[.agg #[.bool s,.slice t u v],.slice y z A] C (Rq fun D E G H I J K L=>(∀r,Ext w.heap.size [166] L r->(R (.agg #[.bool D,.slice E G H,.slice I J K]) r)))))))))):
  Pure P 190 #[.agg #[.bool a,.slice c g i,.slice d j l],.agg #[.bool b,.slice e m n,.slice f o p]] w R:=
 pr mb.cx Tryz.func190 h

def mc.cx:Pm:=([],[])
theorem mc.vc{m g:Bool}{n a i d:O}{o p b c j l e f:Nat}{w:World}{R:Kt}
  (h:(∀G,Ext w.heap.size [] w G->(Pure P 209 #[.slice a b c,.slice d e f] G (Ri fun i2 q=>(Br (i2=0) (∀H,Ext w.heap.size [] q H->(Pure P 221 #[.agg #[.bool m,.slice n o p],.agg #[.bool g,.slice i j l]] H (Rz fun k F n7 B w9=>(Pure P 218 #[.agg #[.bool k,.slice F n7 B],.slice a b c] w9 (Rq fun e2 e3 e4 e5 e6 e7 e8 e9=>(∀I,Ext w.heap.size [166] e9 I->(R (.agg #[.bool e2,.slice e3 e4 e5,.slice e6 e7 e8]) I))))))) ((∀J,Ext w.heap.size [] q J->(Pure P 220 #[.slice n o p,.slice d e f] J (Rs fun K L M N=>((Pure P 222 #[.bool m,.slice K L M] N (Rz fun r s t u Q=>((∀S,Ext w.heap.size [] Q S->(Pure P 220 #[.slice i j l,.slice a b c] S (Rs fun T U V X=>((Pure P 222 #[.bool g,.slice T U V] X (Rz fun f0 f1 f2 f3 f4=>(∀Y,Ext w.heap.size [] f4 Y->(Pure P 221 #[.agg #[.bool r,.slice s t u],.agg #[.bool f0,.slice f1 f2 f3]] Y (Rz fun f5 f6 f7 f8 f9=>(Pure P 220 #[.slice a b c,.slice d e f] f9 (Rs fun g0 g1 g2 g3=>(Pure P 218 #[.agg #[.bool f5,.slice f6 f7 f8],.slice g0 g1 g2] g3 (Rq fun g4 g5 g6 g7 g8 g9 j0 j1=>(∀Z,Ext w.heap.size [166] j1 Z->(R (.agg #[.bool g4,.slice g5 g6 g7,.slice g8 g9 j0]) Z)))))))))))/\(∀a0,Ext w.heap.size [] X a0->(Pure P 222 #[.bool g,.slice T U V] a0 (Rz fun j2 j3 j4 j5 j6=>(∀W,Ext w.heap.size [164] j6 W->(Pure P 221 #[.agg #[.bool r,.slice s t u],.agg #[.bool j2,.slice j3 j4 j5]] W (Rz fun j7 j8 j9 l0 l1=>(Pure P 220 #[.slice a b c,.slice d e f] l1 (Rs fun l2 l3 l4 l5=>(Pure P 218 #[.agg #[.bool j7,.slice j8 j9 l0],.slice l2 l3 l4] l5 (Rq fun l6 l7 l8 l9 m0 m1 m2 m3=>(∀a2,Ext w.heap.size [166] m3 a2->(R (.agg #[.bool l6,.slice l7 l8 l9,.slice m0 m1 m2]) a2))))))))))))))))/\(∀a3,Ext w.heap.size [] Q a3->(Pure P 220 #[.slice i j l,.slice a b c] a3 (Rs fun m4 m5 m6 m7=>(Pure P 222 #[.bool g,.slice m4 m5 m6] m7 (Rz fun m8 m9 n0 n1 n2=>(∀a4,Ext w.heap.size [164] n2 a4->(Pure P 221 #[.agg #[.bool r,.slice s t u],.agg #[.bool m8,.slice m9 n0 n1]] a4 (Rz fun n3 n4 n5 n6 n7=>(Pure P 220 #[.slice a b c,.slice d e f] n7 (Rs fun n8 n9 o0 o1=>(Pure P 218 #[.agg #[.bool n3,.slice n4 n5 n6],.slice n8 n9 o0] o1 (Rq fun o2 o3 o4 o5 o6 o7 o8 o9=>(∀a5,Ext w.heap.size [166] o9 a5->(R (.agg #[.bool o2,.slice o3 o4 o5,.slice o6 o7 o8]) a5)))))))))))))))))/\(∀a6,Ext w.heap.size [] N a6->(Pure P 222 #[.bool m,.slice K L M] a6 (Rz fun v x y z a7=>((∀a8,Ext w.heap.size [164] a7 a8->(Pure P 220 #[.slice i j l,.slice a b c] a8 (Rs fun a9 b0 b1 b2=>((Pure P 222 #[.bool g,.slice a9 b0 b1] b2 (Rz fun p0 p1 p2 p3 p4=>(∀b3,Ext w.heap.size [] p4 b3->(Pure P 221 #[.agg #[.bool v,.slice x y z],.agg #[.bool p0,.slice p1 p2 p3]] b3 (Rz fun p5 p6 p7 p8 p9=>(Pure P 220 #[.slice a b c,.slice d e f] p9 (Rs fun q0 q1 q2 q3=>(Pure P 218 #[.agg #[.bool p5,.slice p6 p7 p8],.slice q0 q1 q2] q3 (Rq fun q4 q5 q6 q7 q8 q9 r0 r1=>(∀b4,Ext w.heap.size [166] r1 b4->(R (.agg #[.bool q4,.slice q5 q6 q7,.slice q8 q9 r0]) b4)))))))))))/\(∀b5,Ext w.heap.size [] b2 b5->(Pure P 222 #[.bool g,.slice a9 b0 b1] b5 (Rz fun r2 r3 r4 r5 r6=>(∀k,Ext w.heap.size [164] r6 k->(Pure P 221 #[.agg #[.bool v,.slice x y z],.agg #[.bool r2,.slice r3 r4 r5]] k (Rz fun r7 r8 r9 s0 s1=>(Pure P 220 #[.slice a b c,.slice d e f] s1 (Rs fun s2 s3 s4 s5=>(Pure P 218 #[.agg #[.bool r7,.slice r8 r9 s0],.slice s2 s3 s4] s5 (Rq fun s6 s7 s8 s9 t0 t1 t2 t3=>(∀b7,Ext w.heap.size [166] t3 b7->(R (.agg #[.bool s6,.slice s7 s8 s9,.slice t0 t1 t2]) b7))))))))))))))))/\(∀b8,Ext w.heap.size [164] a7 b8->(Pure P 220 #[.slice i j l,.slice a b c] b8 (Rs fun t4 t5 t6 t7=>(Pure P 222 #[.bool g,.slice t4 t5 t6] t7 (Rz fun t8 t9 v0 v1 v2=>(∀b9,Ext w.heap.size [164] v2 b9->(Pure P 221 #[.agg #[.bool v,.slice x y z],.agg #[.bool t8,.slice t9 v0 v1]] b9 (Rz fun v3 v4 v5 v6 v7=>(Pure P 220 #[.slice a b c,.slice d e f] v7 (Rs fun v8 v9 x0 x1=>(Pure P 218 #[.agg #[.bool v3,.slice v4 v5 v6],.slice v8 v9 x0] x1 (Rq fun x2 x3 x4 x5 x6 x7 x8 x9=>(∀c0,Ext w.heap.size [166] x9 c0->(R (.agg #[.bool x2,.slice x3 x4 x5,.slice x6 x7 x8]) c0))))))))))))))))))))))/\(∀c1,Ext w.heap.size [] q c1->(Pure P 220 #[.slice n o p,.slice d e f] c1 (Rs fun y0 y1 y2 y3=>(Pure P 222 #[.bool m,.slice y0 y1 y2] y3 (Rz fun A C D E c2=>((∀c3,Ext w.heap.size [164] c2 c3->(Pure P 220 #[.slice i j l,.slice a b c] c3 (Rs fun c4 c5 c6 B=>((Pure P 222 #[.bool g,.slice c4 c5 c6] B (Rz fun y4 y5 y6 y7 y8=>(∀c8,Ext w.heap.size [] y8 c8->(Pure P 221 #[.agg #[.bool A,.slice C D E],.agg #[.bool y4,.slice y5 y6 y7]] c8 (Rz fun y9 z0 z1 z2 z3=>(Pure P 220 #[.slice a b c,.slice d e f] z3 (Rs fun z4 z5 z6 z7=>(Pure P 218 #[.agg #[.bool y9,.slice z0 z1 z2],.slice z4 z5 z6] z7 (Rq fun z8 z9 A0 A1 A2 A3 A4 A5=>(∀c9,Ext w.heap.size [166] A5 c9->(R (.agg #[.bool z8,.slice z9 A0 A1,.slice A2 A3 A4]) c9)))))))))))/\(∀d0,Ext w.heap.size [] B d0->(Pure P 222 #[.bool g,.slice c4 c5 c6] d0 (Rz fun A6 F A8 A9 C0=>(∀d1,Ext w.heap.size [164] C0 d1->(Pure P 221 #[.agg #[.bool A,.slice C D E],.agg #[.bool A6,.slice F A8 A9]] d1 (Rz fun C1 C2 C3 C4 C5=>(Pure P 220 #[.slice a b c,.slice d e f] C5 (Rs fun C6 C7 C8 C9=>(Pure P 218 #[.agg #[.bool C1,.slice C2 C3 C4],.slice C6 C7 C8] C9 (Rq fun D0 D1 D2 D3 D4 D5 D6 D7=>(∀d2,Ext w.heap.size [166] D7 d2->(R (.agg #[.bool D0,.slice D1 D2 D3,.slice D4 D5 D6]) d2))))))))))))))))/\(∀d3,Ext w.heap.size [164] c2 d3->(Pure P 220 #[.slice i j l,.slice a b c] d3 (Rs fun D8 D9 E0 E1=>(Pure P 222 #[.bool g,.slice D8 D9 E0] E1 (Rz fun E2 E3 E4 E5 E6=>(∀d4,Ext w.heap.size [164] E6 d4->(Pure P 221 #[.agg #[.bool A,.slice C D E],.agg #[.bool E2,.slice E3 E4 E5]] d4 (Rz fun E7 E8 E9 G0 G1=>(Pure P 220 #[.slice a b c,.slice d e f] G1 (Rs fun G2 G3 G4 G5=>(Pure P 218 #[.agg #[.bool E7,.slice E8 E9 G0],.slice G2 G3 G4] G5 (Rq fun G6 G7 G8 G9 H0 H1 H2 H3=>(∀d5,Ext w.heap.size [166] H3 d5->(R (.agg #[.bool G6,.slice G7 G8 G9,.slice H0 H1 H2]) d5)))))))))))))))))))))))))):
  Pure P 191 #[.agg #[.bool m,.slice n o p,.slice a b c],.agg #[.bool g,.slice i j l,.slice d e f]] w R:=
 pr mc.cx Tryz.func191 h

def mT.cx:Pm:=([],[])
theorem mT.vc{c:Bool}{d e:O}{f g i j:Nat}{w:World}{R:Kt}
  (h:(∀l,Ext w.heap.size [] w l->(Pure P 223 #[.agg #[.bool c,.slice d f g]] l (Rt fun b n=>(Pure P 224 #[.slice e i j] n (Rt fun a m=>(Br (a≠(⟨#[49]⟩:ByteArray)) (ByteArray.size (⟨#[47]⟩:ByteArray)+ByteArray.size a<=9223372036854775807/\(ByteArray.size b+ByteArray.size ((⟨#[47]⟩:ByteArray)++a)<=9223372036854775807/\(R (.string (b++((⟨#[47]⟩:ByteArray)++a))) m))) (R (.string b) m)))))))):
  Pure P 192 #[.agg #[.bool c,.slice d f g,.slice e i j]] w R:=
 pr mT.cx Tryz.func192 h

def me.cx:Pm:=([],[])
theorem me.vc{i a:Bool}{j b c l:O}{m n d e f g o p:Nat}{w:World}{R:Kt}
  (h:(∀G,Ext w.heap.size [] w G->(Pure P 145 #[.agg #[.bool i,.slice j m n,.slice b d e]] G (Ri fun H w4=>(Pure P 145 #[.agg #[.bool a,.slice c f g,.slice l o p]] w4 (Ri fun I q=>(Br (H≠I) (Br (H<I) (R (.int .i64 (-1:Int)) q) (R (.int .i64 1) q)) ((∀J,Ext w.heap.size [] q J->(Pure P 220 #[.slice j m n,.slice l o p] J (Rs fun K L M N=>((Pure P 222 #[.bool i,.slice K L M] N (Rz fun r s t u Q=>((∀S,Ext w.heap.size [] Q S->(Pure P 220 #[.slice c f g,.slice b d e] S (Rs fun T U V X=>((Pure P 222 #[.bool a,.slice T U V] X (Rz fun c8 c9 d0 d1 d2=>(∀Y,Ext w.heap.size [] d2 Y->(Pure P 225 #[.agg #[.bool r,.slice s t u],.agg #[.bool c8,.slice c9 d0 d1]] Y (Ri fun d3 d4=>(R (.int .i64 d3) d4))))))/\(∀Z,Ext w.heap.size [] X Z->(Pure P 222 #[.bool a,.slice T U V] Z (Rz fun d5 d6 d7 d8 d9=>(∀a0,Ext w.heap.size [164] d9 a0->(Pure P 225 #[.agg #[.bool r,.slice s t u],.agg #[.bool d5,.slice d6 d7 d8]] a0 (Ri fun e0 e1=>(R (.int .i64 e0) e1)))))))))))/\(∀k,Ext w.heap.size [] Q k->(Pure P 220 #[.slice c f g,.slice b d e] k (Rs fun e2 e3 e4 e5=>(Pure P 222 #[.bool a,.slice e2 e3 e4] e5 (Rz fun e6 e7 e8 e9 f0=>(∀a2,Ext w.heap.size [164] f0 a2->(Pure P 225 #[.agg #[.bool r,.slice s t u],.agg #[.bool e6,.slice e7 e8 e9]] a2 (Ri fun f1 f2=>(R (.int .i64 f1) f2))))))))))))/\(∀a3,Ext w.heap.size [] N a3->(Pure P 222 #[.bool i,.slice K L M] a3 (Rz fun v x y z a4=>((∀a5,Ext w.heap.size [164] a4 a5->(Pure P 220 #[.slice c f g,.slice b d e] a5 (Rs fun B F W a9=>((Pure P 222 #[.bool a,.slice B F W] a9 (Rz fun f3 f4 f5 f6 f7=>(∀b0,Ext w.heap.size [] f7 b0->(Pure P 225 #[.agg #[.bool v,.slice x y z],.agg #[.bool f3,.slice f4 f5 f6]] b0 (Ri fun f8 f9=>(R (.int .i64 f8) f9))))))/\(∀b1,Ext w.heap.size [] a9 b1->(Pure P 222 #[.bool a,.slice B F W] b1 (Rz fun g0 g1 g2 g3 g4=>(∀b2,Ext w.heap.size [164] g4 b2->(Pure P 225 #[.agg #[.bool v,.slice x y z],.agg #[.bool g0,.slice g1 g2 g3]] b2 (Ri fun g5 g6=>(R (.int .i64 g5) g6)))))))))))/\(∀b3,Ext w.heap.size [164] a4 b3->(Pure P 220 #[.slice c f g,.slice b d e] b3 (Rs fun g7 g8 g9 j0=>(Pure P 222 #[.bool a,.slice g7 g8 g9] j0 (Rz fun j1 j2 j3 j4 j5=>(∀b4,Ext w.heap.size [164] j5 b4->(Pure P 225 #[.agg #[.bool v,.slice x y z],.agg #[.bool j1,.slice j2 j3 j4]] b4 (Ri fun j6 j7=>(R (.int .i64 j6) j7)))))))))))))))))/\(∀b5,Ext w.heap.size [] q b5->(Pure P 220 #[.slice j m n,.slice l o p] b5 (Rs fun j8 j9 l0 l1=>(Pure P 222 #[.bool i,.slice j8 j9 l0] l1 (Rz fun A C D E b6=>((∀b7,Ext w.heap.size [164] b6 b7->(Pure P 220 #[.slice c f g,.slice b d e] b7 (Rs fun b8 b9 c0 c1=>((Pure P 222 #[.bool a,.slice b8 b9 c0] c1 (Rz fun l2 l3 l4 l5 l6=>(∀c2,Ext w.heap.size [] l6 c2->(Pure P 225 #[.agg #[.bool A,.slice C D E],.agg #[.bool l2,.slice l3 l4 l5]] c2 (Ri fun l7 l8=>(R (.int .i64 l7) l8))))))/\(∀c3,Ext w.heap.size [] c1 c3->(Pure P 222 #[.bool a,.slice b8 b9 c0] c3 (Rz fun l9 m0 m1 m2 m3=>(∀c4,Ext w.heap.size [164] m3 c4->(Pure P 225 #[.agg #[.bool A,.slice C D E],.agg #[.bool l9,.slice m0 m1 m2]] c4 (Ri fun m4 m5=>(R (.int .i64 m4) m5)))))))))))/\(∀c5,Ext w.heap.size [164] b6 c5->(Pure P 220 #[.slice c f g,.slice b d e] c5 (Rs fun m6 m7 m8 m9=>(Pure P 222 #[.bool a,.slice m6 m7 m8] m9 (Rz fun n0 n1 n2 n3 n4=>(∀c6,Ext w.heap.size [164] n4 c6->(Pure P 225 #[.agg #[.bool A,.slice C D E],.agg #[.bool n0,.slice n1 n2 n3]] c6 (Ri fun n5 n6=>(R (.int .i64 n5) n6))))))))))))))))))))))):
  Pure P 193 #[.agg #[.bool i,.slice j m n,.slice b d e],.agg #[.bool a,.slice c f g,.slice l o p]] w R:=
 pr me.cx Tryz.func193 h

def cC.L2(a:ByteArray)(b:Int):=Lt 203 Tryz.f203 2 [(0,.v (.string a)),(5,.v (.int .i64 b))] []
def cC.cx:Pm:=([((true,2),[0,5],[])],[])
theorem cC.L2.step{b:ByteArray}{a:Int}{B:Nat}{w:World}{R:Kt}
  (h:(Br (a<(ByteArray.size b:Int)) ((0<=a/\a<(ByteArray.size b:Int))/\(Br (((bt b a):Int)=47) ((0<=a/\a<=(ByteArray.size b:Int))/\(az .i64 (a+1)/\((0<=(a+1)/\(a+1)<=(ByteArray.size b:Int))/\(∀c,Ext B [] w c->(R (.tuple #[(.string (ByteArray.extract b 0 (a).toNat)),(.string (ByteArray.extract b ((a+1)).toNat (ByteArray.size b))),.bool true]) c))))) (az .i64 (a+1)/\(cC.L2 b (a+1) B w R)))) (R (.tuple #[.string b,(.string ⟨#[49]⟩),.bool false]) w))):
  cC.L2 b a B w R:=
 lr cC.cx Tryz.func203 h
theorem cC.vc{a:ByteArray}{w:World}{R:Kt}
  (h:(cC.L2 a (0:Int) w.heap.size w R)):
  Pure P 203 #[.string a] w R:=
 pr cC.cx Tryz.func203 h

def mf.cx:Pm:=([],[])
theorem mf.vc{a b:Bool}{c d e f:O}{g i j l m n o p:Nat}{w:World}{R:Kt}
  (h:(∀q,Ext w.heap.size [] w q->(Pure P 245 #[.agg #[.bool b,.slice e m n,.slice f o p]] q (Rq fun s t u v x y z A=>(Pure P 191 #[.agg #[.bool a,.slice c g i,.slice d j l],.agg #[.bool s,.slice t u v,.slice x y z]] A (Rq fun C D E G H I J K=>(∀r,Ext w.heap.size [166] K r->(R (.agg #[.bool C,.slice D E G,.slice H I J]) r)))))))):
  Pure P 216 #[.agg #[.bool a,.slice c g i,.slice d j l],.agg #[.bool b,.slice e m n,.slice f o p]] w R:=
 pr mf.cx Tryz.func216 h

def jh.cx:Pm:=([],[])
theorem jh.vc{j:Bool}{b c:O}{d e f g:Nat}{w:World}{R:Kt}
  (h:(∀n,Ext w.heap.size [] w n->(Pure P 210 #[.slice b d e,.slice c f g] n (Rs fun i a l m=>(Br ((a:Int)=1) (Ix (0:Int) a i fun H=>(∃o,ae m (H.add (((0:Int)).toNat*1)) [.int .u32 o]/\(Br (o=1) (∀p,Ext w.heap.size [166] m p->(R (.agg #[.bool j,.slice b d e,.slice c f g]) p)) (Pure P 240 #[.slice b d e,.slice i a l] m fun I J=>∃q r s K L M,I= .tuple #[.slice q r s,.slice K L M]/\(Pure P 240 #[.slice c f g,.slice i a l] J fun N Q=>∃t u v S T U,N= .tuple #[.slice t u v,.slice S T U]/\(Pure P 222 #[.bool j,.slice q r s] Q (Rz fun V X Y Z a0=>(∀x,Ext w.heap.size [166] a0 x->(R (.agg #[.bool V,.slice X Y Z,.slice t u v]) x))))))))) (Pure P 240 #[.slice b d e,.slice i a l] m fun k a2=>∃y z A a3 a4 a5,k= .tuple #[.slice y z A,.slice a3 a4 a5]/\(Pure P 240 #[.slice c f g,.slice i a l] a2 fun B F=>∃C D E W a9 b0,B= .tuple #[.slice C D E,.slice W a9 b0]/\(Pure P 222 #[.bool j,.slice y z A] F (Rz fun b1 b2 b3 b4 b5=>(∀G,Ext w.heap.size [166] b5 G->(R (.agg #[.bool b1,.slice b2 b3 b4,.slice C D E]) G))))))))))):
  Pure P 218 #[.agg #[.bool j,.slice b d e],.slice c f g] w R:=
 pr jh.cx Tryz.func218 h

def mg.cx:Pm:=([],[])
theorem mg.vc{a:Bool}{b c:O}{d e f g:Nat}{w:World}{R:Kt}
  (h:(∀i,Ext w.heap.size [] w i->(Pure P 265 #[.agg #[.bool a,.slice b d e]] i (Rz fun l m n o p=>(∀j,Ext w.heap.size [166] p j->(R (.agg #[.bool l,.slice m n o,.slice c f g]) j)))))):
  Pure P 245 #[.agg #[.bool a,.slice b d e,.slice c f g]] w R:=
 pr mg.cx Tryz.func245 h

end Go.Proofs.YtgfkeadgjkfomaaGreatDoor.F

namespace Go.Proofs.YtgfkeadgjkfomaaGreatDoor.B
open Go Go.RowKit Go.Proofs Go.Proofs.YtgfkeadgjkfomaaGreatDoor.Vc

theorem yP{s:ByteArray}(h:0<s.size):bt s 0=45↔(bM s).head? =some 45:=by
 obtain⟨c,a,hb,_⟩:=uT (s:=s) (i:=0) om om;have e:(bM s).head? =some c:=by rw[List.head?_eq_getElem?];exact a
 rw[hb,e];constructor
 ·intro h;have h2:c.toNat=45:=om;exact dB some (HP.1 h2)
 ·intro h;cases h;rfl
theorem wH{s:ByteArray}:bM (s.extract ((1:Int)).toNat s.size)=(bM s).tail:=by
 rw[oN,bx (by rw[dn];omega)];cases bM s<;>rfl
theorem pT{t:Tx}(h:t.head? =some 45):isInt t=(isNat t.tail&&t.tail !=[48]):=by unfold isInt;rw[cc h]
theorem rv{t:Tx}(h:¬t.head? =some 45):isInt t=isNat t:=by unfold isInt;rw[ar h]

theorem Aj(s:ByteArray)(hs:s.size<2147483648)(w:World):Pure Tryz.prog 204 #[.string s] w fun v _=>v= .bool (isInt (bM s)):=by
 have d:∀w1,Pure Tryz.prog 205 #[.string s] w1 fun v _=>v= .bool (isNat (bM s)):=fun w1=>tK s hs w1
 refine F.jL.vc ⟨fun h1=>⟨⟨om,om⟩,fun h2=>⟨fun h3=>⟨⟨om,om⟩,?_⟩,fun h3=> ?_⟩,fun h2=> ?_⟩,fun h1=> ?_⟩
 ·have a:=(yP om).1 h2;refine pm (tK _ (by rw[dn,wH];have:=dn s;simp;omega) w) ?_;rintro v g _ rfl;refine⟨_,rfl,?_⟩;rw[wH,pT a];have b:((bM s).tail !=[48])=true:=by
   rw[RC];intro k;refine h3 (ss ?_);show bM s=[45,48];cases hb:bM s with
   |nil=>rw[hb]at a;cases a
   |cons c r=>rw[hb]at a k;simp at a k;rw[a,k]
  rw[b,Fh]
 ·have e:s=⟨#[45,48]⟩:=ep.1 h3;subst e;refine dB Value.bool ?_;decide
 ·have a:¬(bM s).head? =some 45:=fun k=>h2 ((yP om).2 k)
  refine pm (d w) ?_;rintro v g _ rfl;exact⟨_,rfl,by rw[rv a]⟩
 ·refine pm (d w) ?_;rintro v g _ rfl;refine⟨_,rfl,?_⟩;by_cases a:(bM s).head? =some 45
  ·rw[pT a];have hl:(bM s).length<=1:=by rw[<-dn];omega
   cases hb:bM s with
   |nil=>rw[hb]at a;cases a
   |cons c r=>
    rw[hb]at a hl;simp at a hl;subst a;subst hl;rfl
  ·rw[rv a]
theorem Cz{s:ByteArray}(hs:s.size<=900000)(h:isInt (bM s)=true)(w:World):Pure Tryz.prog 206 #[.string s] w (ZR (gk (bM s))):=by
 have d:bM s≠[]:=fun e=>by rw[e]at h;cases h
 have a:0<s.size:=by rw[dn];exact nQ.2 d
 refine F.kR.vc ⟨⟨om,om⟩,fun h2=>⟨⟨om,om⟩,fun w1 i=> ?_⟩,fun h2 w1 i=> ?_⟩
 ·have b:=(yP a).1 h2;rw[pT b,eb]at h;have hv:gk (bM s)= -(cX (bM s).tail:Int):=by unfold gk;rw[cc b]
  refine pm (wG (by rw[dn,wH];have:=dn s;simp;omega) (by rw[wH];exact h.1)) ?_;rintro v j l ⟨A,n,c,rfl,k⟩;rw[wH]at k;refine⟨_,_,_,rfl,fun m g=>⟨_,_,_,_,rfl,?_,?_⟩⟩
  ·have h0:cX (bM s).tail≠0:=fun e=>by
    have:=kB h.1;rw[e,sF]at this;rw[<-this]at h;exact absurd h.2 dc
   symm
   exact fc om
  ·rw[hv,Kf,ky];exact k.ext g dc
 ·have b:¬(bM s).head? =some 45:=fun k=>h2 ((yP a).2 k)
  rw[rv b]at h;have hv:gk (bM s)=(cX (bM s):Int):=by unfold gk;rw[ar b]
  refine pm (wG hs h) ?_;rintro v j l ⟨A,n,c,rfl,k⟩;refine⟨_,_,_,rfl,fun m g=>⟨_,_,_,_,rfl,?_,?_⟩⟩
  ·symm
   exact eh om
  ·rw[hv,ky];exact k.ext g dc

def qE(w:World)(b:Bool)(A:Option Addr)(n c:Nat)(A':Option Addr)(n' c':Nat)(r:Rat):Prop:=yO w b A n c r.num/\ee w A' n' c' r.den
theorem qE.below{w w':World}{b:Bool}{A A':Option Addr}{n c n' c':Nat}{r:Rat}(h:qE w b A n c A' n' c' r)(hb:Below w.heap.size w w'):qE w' b A n c A' n' c' r:=⟨h.1.below hb,h.2.below hb⟩
theorem qE.ext{w w':World}{B:Nat}{ts:List Nat}{b:Bool}{A A':Option Addr}{n c n' c':Nat}{r:Rat}(h:qE w b A n c A' n' c' r)(e:Ext B ts w w')(a:217∉ts):qE w' b A n c A' n' c' r:=⟨h.1.ext e a,h.2.ext e a⟩
abbrev QR(r:Rat)(v:Value)(w:World):Prop:=∃b A n c A' n' c',v= .agg #[.bool b,.slice A n c,.slice A' n' c']/\qE w b A n c A' n' c' r

theorem Ie(z:Int)(g:Nat)(h:g∣z.natAbs):(if decide (z<0)=true then -((z.natAbs / g:Nat):Int)else((z.natAbs / g:Nat):Int))=z / (g:Int):=by
 obtain⟨k,a⟩:=h;by_cases c:g=0
 ·subst c;simp
 have d:z.natAbs / g=k:=by rw[a,Nat.mul_div_cancel_left _ om]
 rw[d];by_cases b:z<0
 ·rw[cc (fc b)];have e:z=(g:Int)*(-(k:Int)):=by
   have:(z.natAbs:Int)=(g:Int)*(k:Int):=by rw[a];simp
   rw[Int.mul_neg];omega
  rw[e,Int.mul_ediv_cancel_left _ om]
 ·rw[ar (by simp[b])];have e:z=(g:Int)*(k:Int):=by
   have:(z.natAbs:Int)=(g:Int)*(k:Int):=by rw[a];simp
   omega
  rw[e,Int.mul_ediv_cancel_left _ om]

theorem sW{w:World}{b:Bool}{A A1:Option Addr}{n c n1 c1:Nat}{p:Int}{d:Nat}(hp:yO w b A n c p)(J:ee w A1 n1 c1 d)(K:d≠0)(lp:p.natAbs<dL)(ld:d<dL):
  Pure Tryz.prog 218 #[.agg #[.bool b,.slice A n c],.slice A1 n1 c1] w (QR (mkRat p d)):=by
 obtain⟨j,l⟩:=oz (p:=p) K;have Z:=hp;obtain⟨rfl,kp⟩:=Z;refine F.jh.vc fun w1 a=>pm (Ah (kp.ext a dc) (J.ext a dc) lp ld) ?_
 rintro v w2 o ⟨A2,n2,c2,rfl,m⟩;obtain⟨g,h⟩:∃g,g=Nat.gcd p.natAbs d:=⟨_,rfl⟩
 rw[<-h]at m j l;have L:g≠0:=fun e=>by
  rw[e]at h;exact K (EI h.symm)
 have gp:g∣p.natAbs:=by rw[h];exact NP _ _
 have gd:g∣d:=by rw[h];exact P1 _ _
 have M:g<dL:=kx (Qu om gd) ld;have q:=(kp.ext a dc).below o;have i:=(J.ext a dc).below o;have rest:Pure Tryz.prog 240 #[.slice A n c,.slice A2 n2 c2] w2 fun r yE=>∃(x:Option Addr)(y B:Nat)(N:Option Addr)(O c9:Nat),r=(.tuple #[(.slice x y B),(.slice N O c9)])/\(Pure Tryz.prog 240 #[(.slice A1 n1 c1),(.slice A2 n2 c2)] yE fun C Al=>∃(D:Option Addr)(E c12:Nat)(P:Option Addr)(Q R:Nat),C=(.tuple #[(.slice D E c12),(.slice P Q R)])/\(Pure Tryz.prog 222 #[(.bool (decide (p<0))),(.slice x y B)] Al fun G Am=>∃(S:Bool)(T:Option Addr)(n17 U:Nat),G=(.agg #[(.bool S),(.slice T n17 U)])/\(∀V,Ext w.heap.size [166] Am V->(QR (mkRat p d) (.agg #[(.bool S),(.slice T n17 U),(.slice D E c12)]) V)))):=by
  refine pm (Ae q m lp M L) ?_;rintro v w3 W ⟨x,y,B,N,O,c9,rfl,k8,_⟩;refine⟨_,_,_,_,_,_,rfl,pm (Ae (i.below W) (m.below W) ld M L) ?_⟩;rintro v w4 b4 ⟨D,E,c12,P,Q,R,rfl,H,_⟩;refine⟨_,_,_,_,_,_,rfl,pm (mS _ (k8.below b4)) ?_⟩;rintro v w5 b5 ⟨b,A,n,c,rfl,k⟩;refine⟨_,_,_,_,rfl,fun w6 X=>⟨_,_,_,_,_,_,_,rfl,?_,?_⟩⟩
  ·rw[Ie p g gp,<-j]at k;exact k.ext X dc
  ·rw[l];exact(H.below b5).ext X dc
 refine⟨_,_,_,rfl,fun h1=> ?_,fun _=>rest⟩;obtain⟨ws,q1,q2,q3,q4,q5,q6,q7⟩:=m;refine q1.load q2 om om ?_;have e:ws.getD (Int.toNat 0) 0=g:=by
  obtain⟨z,rfl⟩:=ni.1 (by omega:ws.length=1);simpa[wv]using q7
 rw[e];refine⟨fun RP w3 Y=> ?_,fun _=>rest⟩;have Q6:g=1:=om;rw[Q6]at j l;refine⟨_,_,_,_,_,_,_,rfl,?_,?_⟩
 ·have I:(mkRat p d).num=p:=by rw[j];simp
  rw[I];exact((hp.ext a dc).below o).ext Y dc
 ·have I:(mkRat p d).den=d:=by rw[l];simp
  rw[I];exact i.ext Y dc

theorem eP{k x:Nat}(h:x<10^k)(a:k<=900000):x<dL:=mL h a
theorem F9{w:World}{b0 b1:Bool}{A0 A1 rJ ye:Option Addr}{n0 c0 n1 c1 rK qN yf yg:Nat}{x y:Rat}(hx:qE w b0 A0 n0 c0 rJ rK qN x)(hy:qE w b1 A1 n1 c1 ye yf yg y)(sx:Sm 100000 x)(sy:Sm 100000 y):
  Pure Tryz.prog 190 #[.agg #[.bool b0,.slice A0 n0 c0,.slice rJ rK qN],.agg #[.bool b1,.slice A1 n1 c1,.slice ye yf yg]] w (QR (x*y)):=by
 have e:=eP sx.1 om;have g:=eP sy.1 om;have h:=eP sx.2 om;have i:=eP sy.2 om;refine F.mb.vc fun w1 a=>pm (Ib (hx.1.ext a dc) (hy.1.ext a dc) e g) ?_
 rintro v o d ⟨b,A,n,c,rfl,k⟩;refine⟨_,_,_,_,rfl,pm (jw ((hx.2.ext a dc).below d) ((hy.2.ext a dc).below d) h i) ?_⟩;rintro v r j ⟨A',n',c',rfl,l,_⟩;refine⟨_,_,_,rfl,pm (sW (k.below j) l (mK x y) (by rw[og];exact eP (eC sx.1 sy.1) om) (eP (mJ sx sy) om)) ?_⟩;rintro v z B ⟨b,A,n,c,A',n',c',rfl,q⟩;refine⟨_,_,_,_,_,_,_,rfl,fun C m=>⟨_,_,_,_,_,_,_,rfl,?_⟩⟩;rw[Rat.mul_def'];exact q.ext m dc
theorem Nc{w:World}{b0:Bool}{A0 rJ:Option Addr}{n0 c0 rK qN:Nat}{x:Rat}(hx:qE w b0 A0 n0 c0 rJ rK qN x):
  Pure Tryz.prog 245 #[.agg #[.bool b0,.slice A0 n0 c0,.slice rJ rK qN]] w (QR (-x)):=by
 refine F.mg.vc fun w1 a=>pm (uB (hx.1.ext a dc)) ?_
 rintro v h g ⟨b,A,n,c,rfl,k⟩;refine⟨_,_,_,_,rfl,fun i d=>⟨_,_,_,_,_,_,_,rfl,?_,?_⟩⟩
 ·rw[Rat.neg_num];exact k.ext d dc
 ·have e:(-x).den=x.den:=rfl;rw[e];exact((hx.2.ext a dc).below g).ext d dc
theorem P0(r:Rat):PD r.num=fm r 0:=by
 rw[<-FH];unfold PD;rcases PX r.num 0 with h|h|h
 ·rw[cc h,DB h]
 ·rw[h];rfl
 ·rw[ar om,cc h,HM h]
theorem tL{w:World}{b0:Bool}{A0 rJ:Option Addr}{n0 c0 rK qN:Nat}{x:Rat}(hx:qE w b0 A0 n0 c0 rJ rK qN x):
  Pure Tryz.prog 145 #[.agg #[.bool b0,.slice A0 n0 c0,.slice rJ rK qN]] w fun v _=>v= .int .i64 (fm x 0):=by
 refine F.kU.vc fun w1 a=>pm (sV (hx.1.ext a dc)) ?_
 rintro v b _ rfl;exact⟨_,rfl,by rw[P0]⟩
theorem ks{w:World}{z:Int}(h:z.natAbs<4294967296):Pure Tryz.prog 189 #[.int .i64 z] w (QR (z:Rat)):=by
 refine F.ma.vc fun w1 g=>pm (Ic h) ?_
 rintro v i j ⟨b,A,n,c,rfl,k⟩;refine⟨_,_,_,_,rfl,pm (oD (x:=1) om) ?_⟩;rintro v l d ⟨A',n',c',rfl,e⟩;exact⟨_,_,_,rfl,fun m a=>⟨_,_,_,_,_,_,_,rfl,(k.below d).ext a dc,e.ext a dc⟩⟩

def Ef(B:Nat)(b1:Bool)(L:Bool->Option Addr->Nat->Nat->World->Prop)(ts:List Nat)(A:Option Addr)(n c:Nat)(w:World):Prop:=
 Pure Tryz.prog 222 #[.bool b1,.slice A n c] w fun r g=>∃(a:Bool)(b:Option Addr)(n29 d:Nat),r= .agg #[.bool a,.slice b n29 d]/\∀e,Ext B ts g e->L a b n29 d e
def An(B:Nat)(b1:Bool)(A1:Option Addr)(n1 c1:Nat)(rJ:Option Addr)(rK qN:Nat)(L:Bool->Option Addr->Nat->Nat->World->Prop)(ts:List Nat)(w:World):Prop:=
 (∀j,Ext B ts w j->Pure Tryz.prog 220 #[.slice A1 n1 c1,.slice rJ rK qN] j fun r k=>∃(a:Option Addr)(n25 b:Nat),r= .slice a n25 b/\(Ef B b1 L [] a n25 b k/\∀c,Ext B [] k c->Ef B b1 L [164] a n25 b c))/\
 (∀d,Ext B ts w d->Pure Tryz.prog 220 #[.slice A1 n1 c1,.slice rJ rK qN] d fun r i=>∃(e:Option Addr)(g h:Nat),r= .slice e g h/\Ef B b1 L [164] e g h i)
def S6(B:Nat)(b0:Bool)(A0:Option Addr)(n0 c0:Nat)(rJ:Option Addr)(rK qN:Nat)(b1:Bool)(A1:Option Addr)(n1 c1:Nat)(ye:Option Addr)(yf yg:Nat)(L:Bool->Option Addr->Nat->Nat->Bool->Option Addr->Nat->Nat->World->Prop)(w:World):Prop:=
 (∀l,Ext B [] w l->Pure Tryz.prog 220 #[.slice A0 n0 c0,.slice ye yf yg] l fun r m=>∃(g:Option Addr)(n17 h:Nat),r= .slice g n17 h/\
  ((Pure Tryz.prog 222 #[.bool b0,.slice g n17 h] m fun r D=>∃(n:Bool)(o:Option Addr)(n21 c21:Nat),r= .agg #[.bool n,.slice o n21 c21]/\An B b1 A1 n1 c1 rJ rK qN (L n o n21 c21) [] D)/\
  ∀a,Ext B [] m a->Pure Tryz.prog 222 #[.bool b0,.slice g n17 h] a fun r i=>∃(b:Bool)(c:Option Addr)(d e:Nat),r= .agg #[.bool b,.slice c d e]/\An B b1 A1 n1 c1 rJ rK qN (L b c d e) [164] i))/\
 (∀q,Ext B [] w q->Pure Tryz.prog 220 #[.slice A0 n0 c0,.slice ye yf yg] q fun r j=>∃(z:Option Addr)(n156 c156:Nat),r= .slice z n156 c156/\
  (Pure Tryz.prog 222 #[.bool b0,.slice z n156 c156] j fun r k=>∃(A:Bool)(C:Option Addr)(n160 c160:Nat),r= .agg #[.bool A,.slice C n160 c160]/\An B b1 A1 n1 c1 rJ rK qN (L A C n160 c160) [164] k))

theorem Ig{a b j:Nat}(ha:a<10^j)(hb:b<10^j):a+b<10^(j+j+1):=by
 have h4:10^j<=10^(j+j):=fy om om;rw[hL];omega
theorem sign_mul(p:Int)(d:Nat):(if decide (p<0)=true then -((p.natAbs*d:Nat):Int)else((p.natAbs*d:Nat):Int))=p*(d:Int):=by
 by_cases hp:p<0
 ·rw[cc (fc hp)];have e:p= -(p.natAbs:Int):=om
  conv=>rhs;rw[e]
  rw[Rl,Int.neg_mul]
 ·rw[ar (by simp[hp])];have e:p=(p.natAbs:Int):=om
  conv=>rhs;rw[e]
  simp
section
variable {B:Nat} {b0 b1:Bool} {A0 A1 rJ ye:Option Addr} {n0 c0 n1 c1 rK qN yf yg:Nat} {x y:Rat}
theorem zn:217∉[164]:=dc
theorem Kw{w:World}{L:Bool->Option Addr->Nat->Nat->World->Prop}{K:World->Prop}{ts:List Nat}(a:217∉ts)(j:∀w w',K w->Below w.heap.size w w'->K w')(h:∀ts w w',217∉ts->K w->Ext B ts w w'->K w')
  (hx:qE w b0 A0 n0 c0 rJ rK qN x) (hy:qE w b1 A1 n1 c1 ye yf yg y) (l:x.den<dL) (m:y.num.natAbs<dL) (i:K w)
  (D:∀b A n c w',yO w' b A n c (y.num*(x.den:Int))->qE w' b0 A0 n0 c0 rJ rK qN x->qE w' b1 A1 n1 c1 ye yf yg y->K w'->L b A n c w'):An B b1 A1 n1 c1 rJ rK qN L ts w:=by
 have make:∀(ts:List Nat)(w1:World)(A:Option Addr)(n c:Nat),217∉ts->ee w1 A n c (y.num.natAbs*x.den)->qE w1 b0 A0 n0 c0 rJ rK qN x->qE w1 b1 A1 n1 c1 ye yf yg y->K w1->Ef B b1 L ts A n c w1:=by
  intro ts w1 A n c a k hx hy i;refine pm (mS b1 k) ?_;rintro v o d ⟨b,A,n,c,rfl,q⟩;refine⟨_,_,_,_,rfl,fun E g=>D _ _ _ _ _ ?_ ((hx.below d).ext g a) ((hy.below d).ext g a) (h _ _ _ a (j _ _ i d) g)⟩;rw[hy.1.1,sign_mul]at q;exact q.ext g a
 refine⟨fun w1 e=> ?_,fun w1 e=> ?_⟩
 ·refine pm (jw ((hy.ext e a).1.2) ((hx.ext e a).2) m l) ?_;rintro v o d ⟨A,n,c,rfl,k,_⟩;have r:=(hx.ext e a).below d;have z:=(hy.ext e a).below d;have C:=j _ _ (h _ _ _ a i e) d;exact⟨_,_,_,rfl,make _ _ _ _ _ sm k r z C,fun E g=>make _ _ _ _ _ zn (k.ext g sm) (r.ext g sm) (z.ext g sm) (h _ _ _ sm C g)⟩
 ·refine pm (jw ((hy.ext e a).1.2) ((hx.ext e a).2) m l) ?_;rintro v o d ⟨A,n,c,rfl,k,_⟩;exact⟨_,_,_,rfl,make _ _ _ _ _ zn k ((hx.ext e a).below d) ((hy.ext e a).below d) (j _ _ (h _ _ _ a i e) d)⟩
theorem CA{w:World}{L:Bool->Option Addr->Nat->Nat->Bool->Option Addr->Nat->Nat->World->Prop}
  (hx:qE w b0 A0 n0 c0 rJ rK qN x) (hy:qE w b1 A1 n1 c1 ye yf yg y) (F:x.den<dL) (G:y.num.natAbs<dL) (g:x.num.natAbs<dL) (i:y.den<dL)
  (H:∀b A n c j A' n' c' w',yO w' b A n c (x.num*(y.den:Int))->yO w' j A' n' c' (y.num*(x.den:Int))->qE w' b0 A0 n0 c0 rJ rK qN x->qE w' b1 A1 n1 c1 ye yf yg y->L b A n c j A' n' c' w'):S6 B b0 A0 n0 c0 rJ rK qN b1 A1 n1 c1 ye yf yg L w:=by
 have make:∀(ts:List Nat)(w1:World)(A:Option Addr)(n c:Nat),217∉ts->ee w1 A n c (x.num.natAbs*y.den)->qE w1 b0 A0 n0 c0 rJ rK qN x->qE w1 b1 A1 n1 c1 ye yf yg y->
   Pure Tryz.prog 222 #[.bool b0,.slice A n c] w1 fun r I=>∃(o:Bool)(z:Option Addr)(n21 c21:Nat),r= .agg #[.bool o,.slice z n21 c21]/\An B b1 A1 n1 c1 rJ rK qN (L o z n21 c21) ts I:=by
  intro ts w1 A n c l k hx hy;refine pm (mS b0 k) ?_;rintro v C d ⟨b,A,n,c,rfl,q⟩;rw[hx.1.1,sign_mul]at q;exact⟨_,_,_,_,rfl,Kw (K:=fun w'=>yO w' b A n c (x.num*(y.den:Int))) l (fun _ _ h hb=>h.below hb) (fun _ _ _ l h e=>h.ext e l) (hx.below d) (hy.below d) F G q fun j A' n' c' w' J M N O=>H _ _ _ _ _ _ _ _ _ O J M N⟩
 refine⟨fun w1 a=> ?_,fun w1 a=> ?_⟩
 ·refine pm (jw ((hx.ext a sm).1.2) ((hy.ext a sm).2) g i) ?_;rintro v C d ⟨A,n,c,rfl,k,_⟩;have D:=(hx.ext a sm).below d;have E:=(hy.ext a sm).below d;exact⟨_,_,_,rfl,make _ _ _ _ _ sm k D E,fun P m=>make _ _ _ _ _ zn (k.ext m sm) (D.ext m sm) (E.ext m sm)⟩
 ·refine pm (jw ((hx.ext a sm).1.2) ((hy.ext a sm).2) g i) ?_;rintro v C d ⟨A,n,c,rfl,k,_⟩;exact⟨_,_,_,rfl,make _ _ _ _ _ zn k ((hx.ext a sm).below d) ((hy.ext a sm).below d)⟩
end

theorem Nd{w:World}{b0 b1:Bool}{A0 A1 rJ ye:Option Addr}{n0 c0 n1 c1 rK qN yf yg:Nat}{x y:Rat}(hx:qE w b0 A0 n0 c0 rJ rK qN x)(hy:qE w b1 A1 n1 c1 ye yf yg y)(sx:Sm 100000 x)(sy:Sm 100000 y):
  Pure Tryz.prog 193 #[.agg #[.bool b0,.slice A0 n0 c0,.slice rJ rK qN],.agg #[.bool b1,.slice A1 n1 c1,.slice ye yf yg]] w fun v _=>v= .int .i64 (fm x y):=by
 refine F.me.vc fun w1 e=>pm (tL (hx.ext e dc)) ?_
 rintro v O i rfl;refine⟨_,rfl,pm (tL ((hy.ext e dc).below i)) ?_⟩;rintro v P m rfl;have o:(fm x 0= -1/\x<0)∨(fm x 0=0/\x=0)∨(fm x 0=1/\0<x):=by
  unfold fm;split
  ·rename_i h;exact .inl ⟨rfl,h⟩
  ·split
   ·rename_i h;exact .inr (.inr ⟨rfl,h⟩)
   ·exact .inr (.inl ⟨rfl,by grind⟩)
 have q:(fm y 0= -1/\y<0)∨(fm y 0=0/\y=0)∨(fm y 0=1/\0<y):=by
  unfold fm;split
  ·rename_i h;exact .inl ⟨rfl,h⟩
  ·split
   ·rename_i h;exact .inr (.inr ⟨rfl,h⟩)
   ·exact .inr (.inl ⟨rfl,by grind⟩)
 refine⟨_,rfl,fun r=>⟨fun z=> ?_,fun Q=> ?_⟩,fun heq=> ?_⟩
 ·have h:x<y:=by
   rcases o with⟨a,h1⟩|⟨a,h1⟩|⟨a,h1⟩<;>rcases q with⟨d,h2⟩|⟨d,h2⟩|⟨d,h2⟩<;>first|(exfalso;omega)|grind
  unfold fm;rw[cc h]
 ·have h:y<x:=by
   rcases o with⟨a,h1⟩|⟨a,h1⟩|⟨a,h1⟩<;>rcases q with⟨d,h2⟩|⟨d,h2⟩|⟨d,h2⟩<;>first|(exfalso;omega)|grind
  unfold fm;rw[ar gD,cc h]
 ·have C:=((hx.ext e dc).below i).below m;have j:=((hy.ext e dc).below i).below m;refine CA (L:=fun D E G H I J n21 c21 K=>Pure Tryz.prog 225 #[.agg #[.bool D,.slice E G H],.agg #[.bool I,.slice J n21 c21]] K fun l R=>∃(i25:Int),l=(.int .i64 i25)/\(.int .i64 i25:Value)= .int .i64 (fm x y)) C j (eP sx.2 om) (eP sy.1 om) (eP sx.1 om) (eP sy.2 om) fun b A n c S A' n' c' w' M N _ _=> ?_
  refine pm (Nb M N (by rw[og,ky];exact eP (eC sx.1 sy.2) om) (by rw[og,ky];exact eP (eC sy.1 sx.2) om)) ?_;rintro v T _ rfl;refine⟨_,rfl,dB (Value.int .i64) ?_⟩;have h1:=wi x y;have h2:=wi y x;unfold PD fm;by_cases h:x<y
  ·rw[cc (h1.1 h),cc h]
  ·rw[ar (fun k=>h (h1.2 k)),ar h];by_cases g:y<x
   ·have:=h2.1 g;rw[cc om,cc g]
   ·rw[ar (fun k=>g (h2.2 om)),ar g]
theorem xw{w:World}{b0 b1:Bool}{A0 A1 rJ ye:Option Addr}{n0 c0 n1 c1 rK qN yf yg:Nat}{x y:Rat}(hx:qE w b0 A0 n0 c0 rJ rK qN x)(hy:qE w b1 A1 n1 c1 ye yf yg y)(sx:Sm 100000 x)(sy:Sm 100000 y):
  Pure Tryz.prog 161 #[.agg #[.bool b0,.slice A0 n0 c0,.slice rJ rK qN],.agg #[.bool b1,.slice A1 n1 c1,.slice ye yf yg]] w fun v _=>v= .bool (decide (x<y)):=by
 refine F.kV.vc fun w1 a=>pm (Nd (hx.ext a dc) (hy.ext a dc) sx sy) ?_
 rintro v b _ rfl;refine⟨_,rfl,dB Value.bool ?_⟩;rw[jB,gS]
theorem Ap{w:World}{b0 b1:Bool}{A0 A1 rJ ye:Option Addr}{n0 c0 n1 c1 rK qN yf yg:Nat}{x y:Rat}(hx:qE w b0 A0 n0 c0 rJ rK qN x)(hy:qE w b1 A1 n1 c1 ye yf yg y)(sx:Sm 100000 x)(sy:Sm 100000 y):
  Pure Tryz.prog 191 #[.agg #[.bool b0,.slice A0 n0 c0,.slice rJ rK qN],.agg #[.bool b1,.slice A1 n1 c1,.slice ye yf yg]] w (QR (x+y)):=by
 have C:=eP sx.1 om;have D:=eP sy.1 om;have e:=eP sx.2 om;have j:=eP sy.2 om;refine F.mc.vc fun w1 g=>pm (wF (hx.ext g dc).2 (hy.ext g dc).2 e j) ?_
 rintro v w2 E rfl;have l:=(hx.ext g dc).below E;have G:=(hy.ext g dc).below E;refine⟨_,rfl,fun h w3 m=> ?_,fun h=> ?_⟩
 ·have S:x.den=y.den:=by
   simp only[eW]at h;split at h
   ·omega
   ·split at h<;>omega
  have hs:(x.num+y.num).natAbs<dL:=eP (kx (Int.natAbs_add_le x.num y.num) (Ig sx.1 sy.1)) om;refine pm (xv (l.ext m dc).1 (G.ext m dc).1 C D) ?_;rintro v T i ⟨b,A,n,c,rfl,k⟩;refine⟨_,_,_,_,rfl,pm (sW k ((l.ext m dc).below i).2 x.den_nz hs e) ?_⟩;rintro v U H ⟨b,A,n,c,A',n',c',rfl,q⟩;refine⟨_,_,_,_,_,_,_,rfl,fun V W=>⟨_,_,_,_,_,_,_,rfl,?_⟩⟩;rw[add_same S];exact q.ext W dc
 ·refine CA (L:=fun X Y n21 c21 Z Ye n29 Yf BH=>Pure Tryz.prog 221 #[.agg #[.bool X,.slice Y n21 c21],.agg #[.bool Z,.slice Ye n29 Yf]] BH fun o Rk=>∃(I:Bool)(a:Option Addr)(n34 c34:Nat),o=(.agg #[(.bool I),(.slice a n34 c34)])/\
   (Pure Tryz.prog 220 #[(.slice rJ rK qN),(.slice ye yf yg)] Rk fun r V6=>∃(d:Option Addr)(n37 c37:Nat),r=(.slice d n37 c37)/\(Pure Tryz.prog 218 #[(.agg #[(.bool I),(.slice a n34 c34)]),(.slice d n37 c37)] V6 fun z Nf=>∃(J:Bool)(K:Option Addr)(M N:Nat)(O:Option Addr)(P Q:Nat),z=(.agg #[(.bool J),(.slice K M N),(.slice O P Q)])/\(∀R,Ext w.heap.size [166] Nf R->(QR (x+y) (.agg #[(.bool J),(.slice K M N),(.slice O P Q)]) R))))) l G e D C j fun b A n c b' A' n' c' w' k1 k2 k3 k4=> ?_
  refine pm (xv k1 k2 (by rw[og,ky];exact eP (eC sx.1 sy.2) om) (by rw[og,ky];exact eP (eC sy.1 sx.2) om)) ?_;rintro v T i ⟨b,A,n,c,rfl,k⟩;refine⟨_,_,_,_,rfl,pm (jw (k3.below i).2 (k4.below i).2 e j) ?_⟩;rintro v U H ⟨A',n',c',rfl,k',_⟩;refine⟨_,_,_,rfl,pm (sW (k.below H) k' (mK x y) (eP (u7 sx sy) om) (eP (mJ sx sy) om)) ?_⟩;rintro v V b6 ⟨b,A,n,c,A',n',c',rfl,q⟩;refine⟨_,_,_,_,_,_,_,rfl,fun w7 x7=>⟨_,_,_,_,_,_,_,rfl,?_⟩⟩;rw[QQ];exact q.ext x7 dc
theorem Ng{w:World}{b0 b1:Bool}{A0 A1 rJ ye:Option Addr}{n0 c0 n1 c1 rK qN yf yg:Nat}{x y:Rat}(hx:qE w b0 A0 n0 c0 rJ rK qN x)(hy:qE w b1 A1 n1 c1 ye yf yg y)(sx:Sm 100000 x)(sy:Sm 100000 y):
  Pure Tryz.prog 216 #[.agg #[.bool b0,.slice A0 n0 c0,.slice rJ rK qN],.agg #[.bool b1,.slice A1 n1 c1,.slice ye yf yg]] w (QR (x - y)):=by
 refine F.mf.vc fun w1 a=>pm (Nc (hy.ext a dc)) ?_
 rintro v g d ⟨b,A,n,c,A',n',c',rfl,q⟩;refine⟨_,_,_,_,_,_,_,rfl,pm (Ap ((hx.ext a dc).below d) q sx sy.neg) ?_⟩;rintro v h i ⟨b,A,n,c,A',n',c',rfl,q⟩;refine⟨_,_,_,_,_,_,_,rfl,fun j e=>⟨_,_,_,_,_,_,_,rfl,?_⟩⟩;rw[Pr];exact q.ext e dc

theorem Nh{l:Tx}{i:Nat}(h:l[i]? =some 47)(hn:47∉l.take i):oc l=l.take i/\lE l=l.drop (i+1):=by
 obtain⟨hi,e⟩:=ew.1 h;have a:l=l.take i++47::l.drop (i+1):=by rw[<-e,<-ec hi,ly]
 constructor
 ·conv=>lhs;rw[a]
  exact yH hn
 ·conv=>lhs;rw[a]
  exact yI hn
theorem Ih{B:Nat}{w:World}(s:ByteArray)(hs:s.size<2147483648){R:Value->World->Prop}(h1:47∈bM s->∀w1,Ext B [] w w1->R (.tuple #[.string (st (oc (bM s))),.string (st (lE (bM s))),.bool true]) w1)(h2:47∉bM s->R (.tuple #[.string s,.string ⟨#[49]⟩,.bool false]) w):
  ∀(d i:Nat),s.size - i=d->i<=s.size->47∉(bM s).take i->F.cC.L2 s i B w R:=by
 intro d;induction d with
 |zero=>
  intro i g hi hn;rw[bx (by rw[<-dn];omega)]at hn;exact F.cC.L2.step ⟨fun h=>by omega,fun _=>h2 hn⟩
 |succ d ih=>
  intro i g hi hn;obtain⟨c,a,hb,n⟩:=uT (s:=s) (i:=(i:Int)) om om;rw[dq]at a;have o:i<(bM s).length:=by rw[<-dn];omega
  refine F.cC.L2.step ⟨fun _=>⟨⟨om,om⟩,fun h=>⟨⟨om,om⟩,ir,⟨om,om⟩,fun w1 j=> ?_⟩,fun h=>⟨ir,?_⟩⟩,fun h=>by omega⟩
  ·rw[hb]at h;have b:c=47:=HP.1 (show c.toNat=47 by omega);subst b;obtain⟨q1,q2⟩:=Nh a hn;have k:ByteArray.extract s 0 ((i:Int)).toNat=st (oc (bM s)):=by
    apply ss;rw[oN,nU,q1,dq];rfl
   have l:ByteArray.extract s ((i:Int)+1).toNat s.size=st (lE (bM s)):=by
    apply ss;rw[oN,nU,q2,bx (by rw[dn];omega),show((i:Int)+1).toNat=i+1 by omega]
   rw[k,l];exact h1 (hJ a) w1 j
  ·have m:=sc i;rw[m];refine ih (i+1) om om ?_;rw[eN,a];simp only[rT,h8,gb,not_or];refine⟨hn,fun e=>h ?_⟩;rw[hb,<-e];rfl
theorem Ii(s:ByteArray)(hs:s.size<2147483648)(w:World):Pure Tryz.prog 203 #[.string s] w fun v _=>(47∈bM s->v= .tuple #[.string (st (oc (bM s))),.string (st (lE (bM s))),.bool true])/\(47∉bM s->v= .tuple #[.string s,.string ⟨#[49]⟩,.bool false]):=
 F.cC.vc (Ih s hs (fun h _ _=>⟨fun _=>rfl,fun k=>absurd h k⟩) (fun h=>⟨fun k=>absurd k h,fun _=>rfl⟩) s.size 0 om om sm)

theorem P2(t:Tx):(oc t).length<=t.length:=(List.takeWhile_sublist _).length_le
theorem P3(t:Tx):(lE t).length<=t.length:=by
 unfold lE;have:=(List.dropWhile_sublist (p:=(· !=47)) (l:=t)).length_le;rw[List.length_tail];omega
theorem P4{t:Tx}(h:isNat t=true):cX t<10^t.length:=by
 have:=we (cX t);rwa [kB h]at this
theorem P5{t:Tx}(h:isInt t=true):(gk t).natAbs<10^t.length:=by
 have:=yG (gk t);rwa [pA h]at this

theorem Ax(s:ByteArray)(dX:s.size<=300000)(w:World):Pure Tryz.prog 177 #[.string s] w fun v w'=>∃b A n c A' n' c',v= .tuple #[.agg #[.bool b,.slice A n c,.slice A' n' c'],.bool (vR s)]/\(vR s=true->qE w' b A n c A' n' c' (qR s)):=by
 have Ck:=dn s;have inv:vR s=false->∀w1,Pure Tryz.prog 189 #[.int .i64 (0:Int)] w1 fun Ij yF=>∃(g:Bool)(P:Option Addr)(Q R:Nat)(S:Option Addr)(T c12:Nat),Ij=(.agg #[(.bool g),(.slice P Q R),(.slice S T c12)])/\(∀U,Ext w.heap.size [166] yF U->
   (∃b A n c A' n' c',(.tuple #[(.agg #[(.bool g),(.slice P Q R),(.slice S T c12)]),(.bool false)]:Value)= .tuple #[.agg #[.bool b,.slice A n c,.slice A' n' c'],.bool (vR s)]/\(vR s=true->qE U b A n c A' n' c' (qR s)))):=by
  intro hv w1;refine pm (ks (z:=0) dc) ?_;rintro v J _ ⟨b,A,n,c,A',n',c',rfl,_⟩;exact⟨_,_,_,_,_,_,_,rfl,fun m _=>⟨_,_,_,_,_,_,_,by rw[hv],fun k=>by rw[hv]at k;cases k⟩⟩
 refine F.kW.vc fun w1 x1=>pm (Ii s om w1) ?_
 rintro v J b2 ⟨r,K⟩;by_cases o:47∈bM s
 ·have hv:=r o;subst hv;have lb:=P2 (bM s);have la:=P3 (bM s);have a:vR s=(isInt (oc (bM s))&&oc (bM s) !=[48]&&isNat (lE (bM s))&&lE (bM s) !=[48]&&lE (bM s) !=[49]&&Nat.gcd (gk (oc (bM s))).natAbs (cX (lE (bM s)))==1):=by
   unfold vR km;rw[cc o]
  refine⟨_,_,_,rfl,pm (Aj (st (oc (bM s))) (by rw[dn,nU];omega) J) ?_⟩;rintro v m b3 rfl;rw[nU];refine⟨_,rfl,fun h1=>inv (by rw[a,h1];rfl) m,fun h1=> ?_⟩;have h1:isInt (oc (bM s))=true:=by simpa using h1
  refine pm (tK (st (lE (bM s))) (by rw[dn,nU];omega) m) ?_;rintro v D b4 rfl;rw[nU];refine⟨_,rfl,fun h2=>inv (by rw[a,h2];simp) D,fun h2=> ?_⟩;have h2:isNat (lE (bM s))=true:=by simpa using h2
  refine pm (Cz (s:=st (oc (bM s))) (by rw[dn,nU];omega) h1 D) ?_;rintro v w5 b5 ⟨b,A,n,c,rfl,kp⟩;rw[nU]at kp;refine⟨_,_,_,_,rfl,pm (wG (s:=st (lE (bM s))) (by rw[dn,nU];omega) h2) ?_⟩;rintro v w6 L ⟨A',n',c',rfl,y⟩;rw[nU]at y;have E:=kp.below L;obtain⟨p,hp⟩:∃p,p=gk (oc (bM s)):=⟨_,rfl⟩
  obtain⟨d,G⟩:∃d,d=cX (lE (bM s)):=⟨_,rfl⟩
  have lp:p.natAbs<dL:=by rw[hp];exact eP (P5 h1) om
  have ld:d<dL:=by rw[G];exact eP (P4 h2) om
  have V:1<dL:=eP (k:=1) dc om;rw[<-hp]at E a;rw[<-G]at y a;rw[h1,h2]at a;have np:(oc (bM s) !=[48])=decide (p≠0):=by
   rw[hp];have e:=pA h1;by_cases h0:gk (oc (bM s))=0
   ·rw[h0]at e⊢;rw[<-e];decide+kernel
   ·have:oc (bM s)≠[48]:=fun k=>h0 (uq.1 (by rw[e];exact k))
    rw[fc h0];simpa using this
  have nd:(lE (bM s) !=[48]&&lE (bM s) !=[49])=decide (1<d):=by
   rw[G];have e:=kB h2;by_cases h0:1<cX (lE (bM s))
   ·rw[fc h0];have k0:lE (bM s)≠[48]:=fun k=>by
     have:=ki.1 (e.trans k);omega
    have H:lE (bM s)≠[49]:=fun k=>by
     have:=rj.1 (e.trans k);omega
    simp[k0,H]
   ·rw[eh h0];rcases(by omega:cX (lE (bM s))=0∨cX (lE (bM s))=1)with k|k
    ·rw[k,sF]at e;rw[<-e];rfl
    ·rw[k,DR]at e;rw[<-e];rfl
  have I:vR s=(decide (p≠0)&&decide (1<d)&&(Nat.gcd p.natAbs d==1)):=by
   rw[a,np,<-nd];simp[Np]
  refine⟨_,_,_,rfl,fun h=>absurd h dc,fun _ w7 B=>pm (oD (x:=1) om) ?_⟩;rintro v w8 W ⟨A1,n1,c1,rfl,H⟩;have i:=(E.ext B dc).below W;have j:=(y.ext B dc).below W;refine⟨_,_,_,rfl,pm (wF j H ld V) ?_⟩;rintro v w9 q rfl;refine⟨_,rfl,fun C=> ?_,fun C=>inv ?_ w9⟩
  ·have XL:1<d:=by
    simp only[eW]at C;split at C
    ·omega
    ·split at C<;>omega
   refine pm (sV (i.below q)) ?_;rintro v vg g rfl;refine⟨_,rfl,fun l=> ?_,fun l=>inv ?_ vg⟩
   ·have M:p≠0:=fun k=>l (by rw[k];rfl)
    refine pm (Ah ((i.below q).below g).2 ((j.below q).below g) lp ld) ?_;rintro v yE N ⟨A2,n2,c2,rfl,kg⟩;have lg:Nat.gcd p.natAbs d<dL:=kx (Qu om (P1 _ _)) ld;refine⟨_,_,_,rfl,pm (wF kg (((H.below q).below g).below N) lg V) ?_⟩;rintro v tz X rfl;refine⟨_,rfl,fun O=>inv ?_ tz,fun he uY Y=> ?_⟩
    ·have:Nat.gcd p.natAbs d≠1:=fun k=>O (by rw[k];rfl)
     rw[I];have:(Nat.gcd p.natAbs d==1)=false:=by simpa using this
     rw[this,AG]
    ·have Z:Nat.gcd p.natAbs d=1:=by
      have he:=ep.1 he;simp only[eW]at he;split at he
      ·omega
      ·split at he<;>omega
     have hT:vR s=true:=by rw[I,fc M,fc XL,Z];rfl
     refine⟨_,_,_,_,_,_,_,by rw[hT],fun _=> ?_⟩;have eq:qR s=mkRat p d:=by
      unfold qR tT;rw[cc o,hp,G]
     obtain⟨en,ed⟩:=oz (p:=p) (show d≠0 by omega);rw[Z]at en ed;rw[eq];refine⟨?_,?_⟩
     ·rw[show(mkRat p d).num=p by rw[en];simp];exact((((i.below q).below g).below N).below X).ext Y dc
     ·rw[show(mkRat p d).den=d by rw[ed];simp];exact((((j.below q).below g).below N).below X).ext Y dc
   ·have:p=0:=by
     have l:=ep.1 l;unfold PD at l;split at l
     ·omega
     ·split at l<;>omega
    rw[I,this];rfl
  ·have:¬1<d:=by
    intro k;apply C;simp only[eW];rw[ar om,cc om];decide
   rw[I,eh this,AG,nZ]
 ·have hv:=K o;subst hv;have a:vR s=isInt (bM s):=by
   unfold vR km;rw[ar o]
  refine⟨_,_,_,rfl,pm (Aj s om J) ?_⟩;rintro v m b3 rfl;refine⟨_,rfl,fun h1=>inv (by rw[a,h1]) m,fun h1=> ?_⟩;have h1:isInt (bM s)=true:=by simpa using h1
  refine pm (tK ⟨#[49]⟩ dc m) ?_;rintro v D b4 rfl;refine⟨_,rfl,fun h=>absurd h dc,fun _=> ?_⟩;refine pm (Cz (s:=s) om h1 D) ?_;rintro v w5 b5 ⟨b,A,n,c,rfl,kp⟩;refine⟨_,_,_,_,rfl,pm (wG (s:=⟨#[49]⟩) dc dc) ?_⟩;rintro v w6 L ⟨A',n',c',rfl,y⟩;have E:=kp.below L;refine⟨_,_,_,rfl,fun _ w7 B=>⟨_,_,_,_,_,_,_,by rw[a,h1],fun _=> ?_⟩,fun h=>absurd rfl h⟩;have eq:qR s=(gk (bM s):Rat):=by
   unfold qR tT;rw[ar o]
  rw[eq];exact⟨E.ext B dc,y.ext B dc⟩
theorem Kx(s:ByteArray)(hs:rW s)(w:World):Pure Tryz.prog 177 #[.string s] w fun v w'=>∃b A n c A' n' c',v= .tuple #[.agg #[.bool b,.slice A n c,.slice A' n' c'],.bool (vR s)]/\(vR s=true->qE w' b A n c A' n' c' (qR s)):=Ax s (ga hs dc) w
theorem fI(s:ByteArray)(hs:rW s)(w:World):Pure Tryz.prog 175 #[.string s] w fun v _=>v= .bool (vR s):=by
 refine F.jP.vc (pm (Kx s hs w) ?_);rintro v a _ ⟨b,A,n,c,A',n',c',rfl,_⟩;exact⟨_,_,_,_,_,_,_,_,rfl,fun d _=>rfl⟩
theorem Ay{s:ByteArray}(hs:s.size<=300000)(hv:vR s=true)(w:World):Pure Tryz.prog 146 #[.string s] w (QR (qR s)):=by
 refine F.lY.vc fun w1 d=>pm (Ax s hs w1) ?_
 rintro v e _ ⟨b,A,n,c,A',n',c',rfl,k⟩;exact⟨_,_,_,_,_,_,_,_,rfl,fun g a=>⟨_,_,_,_,_,_,_,rfl,(k hv).ext a dc⟩⟩
theorem eM{s:ByteArray}(hs:rW s)(hv:vR s=true)(w:World):Pure Tryz.prog 146 #[.string s] w (QR (qR s)):=Ay (ga hs dc) hv w

def BS(x:Nat):Tx:=if x=0 then[]else(dY x).reverse
theorem Ky{x:Nat}(h:x≠0):BS x=UInt8.ofNat (48+x % 10)::BS (x / 10):=by
 unfold BS;rw[ar h];by_cases a:x<10
 ·rw[fG a,cc om,Dz a];rfl
 ·rw[lO a,ar om,OS];rfl
def Az:List Nat->Tx
 |[]=>[]
 |[x]=>BS x
 |x::y::r=>(sH 9 x).reverse++Az (y::r)
theorem P6:∀(ws:List Nat),Small ws->Norm ws->ws≠[]->Az ws=(dY (wv ws)).reverse:=by
 intro ws;induction ws with
 |nil=>intro _ _ h;exact absurd rfl h
 |cons x r ih=>
  intro hs hn _;cases r with
  |nil=>
   have hx:x≠0:=fun e=>by subst e;exact hn rfl
   rw[Az,BS,ar hx];simp[wv]
  |cons y r=>
   have b:Small (y::r):=fun z c=>hs z (by simp[c])
   have a:Norm (y::r):=by
    intro e;apply hn;rw[List.getLast?_cons_cons];exact e
   have hx:x<1000000000:=hs x sm;have hp:=lM a sm;have d:0<wv (y::r):=jK (EG om) hp;have e:wv (x::y::r)=wv (y::r)*10^9+x:=by have:wv (x::y::r)=x+1000000000*wv (y::r):=rfl;omega
   rw[Az,ih b a sm,e,zI _ d 9 x om,OS]
theorem Ni(k x:Nat):(sH (k+1) x).reverse=UInt8.ofNat (48+x % 10)::(sH k (x / 10)).reverse:=by
 rw[sH,OS];rfl

abbrev uC(d:UInt8):List Value:=[.int .u8 (d.toNat:Int)]
theorem Nj:El Tryz.prog 251 5 1 1:=El.of kF
theorem P7(x:Nat):(48:Int)+(x:Int) % 10=((UInt8.ofNat (48+x % 10)).toNat:Int):=by
 have:(UInt8.ofNat (48+x % 10)).toNat=48+x % 10:=by
  rw[Me];omega
 omega

section
variable {w0:World} {A0:Option Addr} {n0 c0:Nat} {ws:List Nat} {R:Value->World->Prop}

theorem Wc{i:Nat}(hi:i<n0)(hn:n0<=100000){T:Tx}(j:T.length<=1000000)(l:∀w A n c,Below w0.heap.size w0 w->bF w w0.heap.size 5 A n c 1 (T.map uC)->F.aD.L5 A0 n0 c0 A n c ((i:Int)+1) w0.heap.size w R):
  ∀(d k x:Nat)(w:World)(A:Option Addr)(n c:Nat)(out:Tx),9 - k=d->k<=9->x<10^(9 - k)->Below w0.heap.size w0 w->bF w w0.heap.size 5 A n c 1 (out.map uC)->out++(if i+1<n0 then(sH (9 - k) x).reverse else BS x)=T->
   F.aD.L9 A0 n0 c0 A n c i x k w0.heap.size w R:=by
 intro d;induction d with
 |zero=>
  intro k x w A n c out r y hx hw ho he;have a:k=9:=om;subst a;have b:x=0:=by simpa using hx
  subst b;have e:out=T:=by
   rw[<-he];split<;>simp[sH,BS]
  rw[e]at ho;exact F.aD.L9.step ⟨fun h=>by omega,fun _=>⟨ir,l w A n c hw ho⟩⟩
 |succ d ih=>
  intro k x w A n c out r y hx hw ho he;have M:out.length=n:=by have:=ho.len;simpa using this
  have hle:out.length<=1000000:=by
   have:=dB List.length he;rw[fx]at this;omega
  have z:x<10^9:=jK hx (fy om om);have hm:=u0 x (show 0<10 by omega);have B:=sc k;have C:(x:Int) / 10=((x / 10:Nat):Int):=om;have D:x / 10<10^(9 - (k+1)):=by
   rw[zb om,<-hL,show(9 - (k+1)).succ=9 - k by omega];exact hx
  have push:(out++[UInt8.ofNat (48+x % 10)])++(if i+1<n0 then(sH (9 - (k+1)) (x / 10)).reverse else BS (x / 10))=T-> 
    au Tryz.prog (Instr.buildSlice 251 1 #[(0,(.int .u8 (((48:Int)+((x:Int) % (10:Int))))))]) w0.heap.size [] w fun E G=>∃(A3:Option Addr)(n3 c3:Nat),E=(.slice A3 n3 c3)/\au Tryz.prog (Builtin.append_ #[251,251] 251 #[(.slice A n c),(.slice A3 n3 c3)]) w0.heap.size [] G fun H I=>∃(m:Option Addr)(o q:Nat),H=(.slice m o q)/\
     ((0<=(x:Int)/\0<(10:Int)/\az .u32 (x:Int))/\(az .i64 ((k:Int)+(1:Int))/\(F.aD.L9 A0 n0 c0 m o q i ((x:Int) / (10:Int)) ((k:Int)+(1:Int)) w0.heap.size I R))):=by
   intro j;rw[P7 x];refine ny Nj lf ho (x:= .int .u8 ((UInt8.ofNat (48+x % 10)).toNat:Int)) (by simp[Value.cells]) (by simp[Value.cells,dA]) hw.size om sm fun A' c' J K _ L=>⟨⟨om,om,ir⟩,ir,?_⟩
   rw[C,B];refine ih (k+1) (x / 10) J _ _ _ (out++[UInt8.ofNat (48+x % 10)]) om om D (hw.trans L) ?_ j;rw[lx];exact K
  have g:9 - k=(9 - (k+1))+1:=om;refine F.aD.L9.step ⟨fun _=>⟨ir,fun h1=>⟨⟨om,om⟩,ir,ir,push ?_⟩,fun h1=>⟨fun h2=>⟨⟨om,om⟩,ir,ir,push ?_⟩,fun h2=>⟨ir,l w A n c hw ?_⟩⟩⟩,fun h=>by omega⟩
  ·rw[<-he,cc om,cc om,g,Ni,qo];rfl
  ·rw[<-he,ar om,ar om,Ky (x:=x) om,qo];rfl
  ·have b:x=0:=om;rw[ar om,b]at he;have:out=T:=by rw[<-he];simp[BS]
   rw[<-this];exact ho

theorem S8{B:Nat}{A:Option Addr}{n c:Nat}{T:Tx}(hlen:T.length=n)(hn:n<=1000000)(h0:n≠0)(O:∀w,R (.string (st T.reverse)) w):
  ∀(d i:Nat)(w:World)(u:Tx),n - 2*i=d->2*i<=n+1->bF w B 5 A n c 1 (u.map uC)->(∀k,k<n->u[k]? =if k<i∨n<=k+i then T[n - 1 - k]? else T[k]?)->
   F.aD.uA A n c i ((n:Int) - 1 - i) B w R:=by
 intro d;induction d using Nat.strongRecOn with
 |_ d ih=>
  intro i w u hd hi ho hu;have x:u.length=n:=by have:=ho.len;simpa using this
  by_cases h:(i:Int)<(n:Int) - 1 - i
  ·have y:i<u.length:=om;have o:n - 1 - i<u.length:=om;have z:((n:Int) - 1 - i).toNat=n - 1 - i:=om;obtain⟨hb,a,Q,S⟩:=ho.sl.load (n:=n) ho.len (j:=(n:Int) - 1 - i) om om;obtain⟨g,_⟩:=S (uC u[n - 1 - i]) (by rw[z];simp[o]) rfl;obtain⟨q,a2,C,U⟩:=ho.sl.load (n:=n) ho.len (j:=(i:Int)) om om;obtain⟨V,_⟩:=U (uC u[i]) (by rw[dq];simp[y]) rfl;refine F.aD.uA.step ⟨fun _=>⟨hb,a,Q,_,g,q,a2,C,_,V,q,a2,C,fun w2 W=> ?_⟩,fun k=>absurd h k⟩;have X:=ho.eA W;obtain⟨_,a3,J,cs,d1,d2,d3,d4,d5⟩:=X.FP (i:=(i:Int)) om om (uC u[n - 1 - i]) (uC u[i]) (by rw[dq];simp[y]) rfl;have Y:a2=a3:=by rw[C]at J;cases J;rfl
   subst Y;refine⟨cs,_,d1,d2,d3,d4,rfl,fun Z rI=> ?_⟩;have K:=d5 Z rI;rw[dq,<-EF]at K;have D:n - 1 - i<(u.set i u[n - 1 - i]).length:=by rw[Rr];omega
   obtain⟨E,a4,X7,G,e1,e2,e3,e4,e5⟩:=K.FP (i:=(n:Int) - 1 - i) om om (uC u[i]) (uC ((u.set i u[n - 1 - i])[n - 1 - i])) (by rw[z,tX,af D];rfl) rfl;refine⟨E,a4,X7,G,_,e1,e2,e3,e4,rfl,fun L pS=>⟨ir,ir,?_⟩⟩;have M:=e5 L pS;rw[z,<-EF]at M;have ei:=sc i;have H:(n:Int) - 1 - (i:Int) - 1=(n:Int) - 1 - ((i+1:Nat):Int):=om;rw[H,ei];refine ih (n - 2*(i+1)) om (i+1) L _ rfl om M fun k I=> ?_
   have l:=hu i om;have m:=hu (n - 1 - i) om;rw[ar om]at l m;rw[af y]at l;rw[af o]at m;by_cases k1:k=n - 1 - i
   ·subst k1;rw[oK (by rw[Rr];omega),cc om,l]
    congr 1
    omega
   ·rw[qH om];by_cases k2:k=i
    ·subst k2;rw[oK om,cc om,m]
    ·rw[qH om,hu k I];by_cases r:k<i∨n<=k+i
     ·rw[cc r,cc om]
     ·rw[ar r,ar om]
  ·have e:u=T.reverse:=by
    refine AP fun k=> ?_
    by_cases I:k<n
    ·rw[hu k I,List.getElem?_reverse om,hlen];by_cases r:k<i∨n<=k+i
     ·rw[cc r]
     ·rw[ar r]
      congr 1
      omega
    ·rw[kl om,kl (by rw[List.length_reverse];omega)]
   have hs:=ho.sl;rcases hs with hs|⟨b,off,cs,ty,fr,rfl,hh,hc⟩
   ·have:u=[]:=by simpa using hs
    rw[this]at x;simp at x;omega
   refine F.aD.uA.step ⟨fun k=>absurd k h,fun _=> ?_⟩;have N:=run_convert_bytes_back (P:=Tryz.prog) w 251 9 5 ⟨b,off,none⟩ c u Tryz.underlying251 Tryz.underlying5 Tryz.underlying9 fun j hj=>by
    obtain⟨_,h2⟩:=hc j (by simpa using hj) 0 sm;rw[eX];simp only[World.cell?,hh];simpa using h2
   rw[x]at N;refine⟨_,w,N,Below.refl _ _,hM _,fun _ _ _ _ _=>rfl,_,rfl,?_⟩;have:=O w;rw[<-e]at this;exact this

theorem We(ha:gM w0 A0 ws)(a:ws.length=n0)(hs:Small ws)(hn:n0<=100000){T:Tx}(I:T.length<=1000000)(m:T≠[])(o:∀w,R (.string (st T.reverse)) w):
  ∀(d i:Nat)(w:World)(A:Option Addr)(n c:Nat)(out:Tx),n0 - i=d->i<=n0->Below w0.heap.size w0 w->bF w w0.heap.size 5 A n c 1 (out.map uC)->out++Az (ws.drop i)=T->
   F.aD.L5 A0 n0 c0 A n c i w0.heap.size w R:=by
 intro d;induction d with
 |zero=>
  intro i w A n c out q hi hw ho he;have x:i=n0:=om;subst x;rw[dp om,Az,ns]at he;subst he;have z:out.length=n:=by have:=ho.len;simpa using this
  have g:=nQ.2 m;refine F.aD.L5.step ⟨fun h=>by omega,fun _=>⟨ir,?_⟩⟩;have:=S8 (B:=w0.heap.size) (A:=A) (c:=c) (T:=out) z om om o n 0 w out om om ho fun k J=>by rw[ar om]
  simpa using this
 |succ d ih=>
  intro i w A n c out q hi hw ho he;have j:i<ws.length:=om;have hx:=hs ws[i] (cd _);have C:=sc i;refine F.aD.L5.step ⟨fun _=> ?_,fun h=>by omega⟩;refine(ha.below hw).load a om om ?_;have D:ws.getD ((i:Int)).toNat 0=ws[i]:=by rw[dq,cN,af j];rfl
  rw[D];obtain⟨part,l⟩:∃part,part=if i+1<n0 then(sH 9 ws[i]).reverse else BS ws[i]:=⟨_,rfl⟩
  have E:Az (ws.drop i)=part++Az (ws.drop (i+1)):=by
   rw[ec j,l];cases b:ws.drop (i+1)with
   |nil=>
    have:ws.length<=i+1:=List.drop_eq_nil_iff.1 b;rw[ar om,Az,Az,ns]
   |cons y r=>
    have:i+1<ws.length:=by
     apply ea;intro k;rw[dp om]at b;cases b
    rw[cc om,Az]
  rw[E,<-qo]at he;refine Wc (i:=i) om hn (T:=out++part) (by have:=dB List.length he;rw[fx]at this;omega) (fun G A2 n2 c2 H e=> ?_) 9 0 ws[i] w A n c out rfl om (by simpa using hx) hw ho (by rw[<-l]);rw[C];exact ih (i+1) G A2 n2 c2 (out++part) om om H e he
end

theorem Ik{w:World}{A:Option Addr}{n c x:Nat}(h:ee w A n c x)(hx:x<dL):Pure Tryz.prog 224 #[.slice A n c] w fun v _=>v= .string (nS x):=by
 have b:=h.len hx;have hp:=h.tA;obtain⟨ws,d,a2,a3,a4,a5,g,rfl⟩:=h;refine F.aD.vc ⟨fun h0=> ?_,fun h0=> ?_⟩
 ·have:wv ws=0:=by
   apply ea;intro k;have:=hp.2 k;omega
  rw[this,<-JZ]
 ·have a:ws≠[]:=fun e=>by subst e;simp at a2;omega
  have e:=P6 ws a5 g a;have hlen:(dY (wv ws)).length<=1000000:=by
   have:=mM hx;rw[Px]at this;omega
  refine We d a2 a5 b (T:=(dY (wv ws)).reverse) (by rw[List.length_reverse];exact hlen) (by rw[Ne,List.reverse_eq_nil_iff];exact tB _) (fun w'=> ?_) n 0 w none 0 0 [] rfl om (Below.refl _ _) (by simpa using bF.nil) (by rw[uQ,e];rfl);rw[List.reverse_reverse];rfl
theorem P8{w:World}{b:Bool}{A:Option Addr}{n c:Nat}{z:Int}(h:yO w b A n c z)(a:z.natAbs<dL):Pure Tryz.prog 223 #[.agg #[.bool b,.slice A n c]] w fun v _=>v= .string (iS z):=by
 obtain⟨rfl,k⟩:=h;have k9:=mM a;refine F.mR.vc ⟨fun hb w1 d=> ?_,fun hb w1 d=> ?_⟩
 ·refine pm (Ik (k.ext d dc) a) ?_;rintro v i _ rfl;refine⟨_,rfl,?_,dB Value.string ?_⟩
  ·show 1+_<=_;omega
  ·apply ss;have g:z<0:=hG hb;have e:iS z=st (45::dY z.natAbs):=by
    unfold iS;rw[kC,cc g]
   rw[e];show _=45::dY z.natAbs;simp[bM,nS,st,IJ]
 ·refine pm (Ik (k.ext d dc) a) ?_;rintro v i _ rfl;refine⟨_,rfl,dB Value.string ?_⟩;have g:¬z<0:=kd hb;unfold iS nS;rw[kC,ar g]
theorem P9{w:World}{b:Bool}{A A':Option Addr}{n c n' c':Nat}{r:Rat}(h:qE w b A n c A' n' c' r)(g:Sm 100000 r):Pure Tryz.prog 192 #[.agg #[.bool b,.slice A n c,.slice A' n' c']] w fun v _=>v= .string (rS r):=by
 have i:=eP g.1 om;have j:=eP g.2 om;refine F.mT.vc fun w1 k=>pm (P8 (h.ext k dc).1 i) ?_
 rintro v m l rfl;refine⟨_,rfl,pm (Ik ((h.ext k dc).2.below l) j) ?_⟩;rintro v o q rfl;have s1:=zM i;have s2:=mM j;refine⟨_,rfl,fun a=>⟨?_,?_,dB Value.string ?_⟩,fun a=>dB Value.string ?_⟩
 ·show 1+_<=_;omega
 ·rw[ByteArray.size_append];show _+(1+_)<=_;omega
 ·have d:r.den≠1:=fun e=>a (by rw[e,FJ])
  apply ss;have e:bM (rS r)=kj r.num++47::dY r.den:=by
   rw[Ra];unfold oa;rw[ar d]
  rw[e];simp[bM,iS,nS,st,IJ]
 ·have d:r.den=1:=by
   have a:=ep.1 a;rw[FJ]at a;exact sL a
  unfold rS iS oa;rw[cc d]
end Go.Proofs.YtgfkeadgjkfomaaGreatDoor.B
