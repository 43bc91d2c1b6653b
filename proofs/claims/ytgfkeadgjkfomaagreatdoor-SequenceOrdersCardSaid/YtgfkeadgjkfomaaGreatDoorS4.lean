/- Part 4 of the proofs that: SequenceStates, SequenceOrders and SequenceChecks hold for every input: the program's functions return what the reference functions return -/
import Derived.Test.YtgfkeadgjkfomaaGreatDoorS3
import Derived.Lib.ItoaNum
import Derived.Lib.LaidTab
import Derived.Test.YtgfkeadgjkfomaaGreatDoorProg
import Derived.MapKept
set_option linter.unusedVariables false
set_option linter.unusedSimpArgs false
namespace Go.Proofs.YtgfkeadgjkfomaaGreatDoor.B
open Go Go.RowKit Go.Proofs Go.Proofs.YtgfkeadgjkfomaaGreatDoor.Vc

theorem ee.tA{w:World}{A:Option Addr}{n c x:Nat}(h:ee w A n c x):0<n↔x≠0:=by
 obtain⟨ws,_,hl,_,_,_,hn,rfl⟩:=h;constructor
 ·intro h0 hx;have h1:=lM hn (fun e=>by subst e;simp at hl;omega);have h2:0<1000000000^(ws.length - 1):=EG om;omega
 ·intro hx;apply ea;intro k;have:ws=[]:=gz om;subst this;exact hx rfl

theorem Sv{B:Nat}{R:Value->World->Prop}:∀(y x:Nat)(w:World),x<1000000000000000000->y<1000000000000000000->B<=w.heap.size->(∀A n c w',ee w' A n c (Nat.gcd x y)->R (.slice A n c) w')->F.bI.L5 x y B w R:=by
 intro y;induction y using Nat.strongRecOn with
 |ind y ih=>
  intro x w hx hy hB b;refine F.bI.L5.step ⟨fun h=>⟨⟨om,om⟩,fun a e=> ?_⟩,fun h=> ?_⟩
  ·have em:(x:Int) % (y:Int)=((x % y:Nat):Int):=by simp
   rw[em];have hm:=u0 x (show 0<y by omega);refine ih _ hm y a hy om (ga hB e.below.size) fun A n c w' k=>b A n c w' ?_
   rwa [CQ y,<-Nat.gcd_rec,CQ]at k
  ·have h0:y=0:=om;subst h0;refine pm (gQ hx) ?_;rintro v a _ ⟨A,n,c,rfl,k⟩;exact⟨_,_,_,rfl,b A n c a (by rwa [HF])⟩

theorem Sx{B:Nat}{R:Value->World->Prop}:∀(y x:Nat)(w:World)(A0 A1:Option Addr)(n0 c0 n1 c1:Nat),ee w A0 n0 c0 x->ee w A1 n1 c1 y->x<dL->y<dL->B<=w.heap.size->(∀A n c w',ee w' A n c (Nat.gcd x y)->R (.slice A n c) w')->
  F.bI.L1 A0 n0 c0 A1 n1 c1 B w R:=by
 intro y;induction y using Nat.strongRecOn with
 |ind y ih=>
  intro x w A0 A1 n0 c0 n1 c1 ha hb hx hy hB d;have hp:=hb.tA;refine F.bI.L1.step ⟨fun h=> ?_,fun h=> ?_⟩
  ·have m:y≠0:=hp.1 om;have hm:=u0 x (show 0<y by omega);refine pm (jZ ha) ?_;rintro v z a rfl;refine⟨_,_,rfl,pm (jZ (hb.below a)) ?_⟩;rintro v e g rfl;have b:Below w.heap.size w e:=a.trans (g.mono a.size);have C:=b.size;have rest:Pure Tryz.prog 290 #[.slice A0 n0 c0,.slice A1 n1 c1] e fun v w'=>∃A n c A' n' c',v= .tuple #[.slice A n c,.slice A' n' c']/\F.bI.L1 A1 n1 c1 A' n' c' B w' R:=by
    refine pm (sD (ha.below b) (hb.below b) hx hy m) ?_;rintro v o i ⟨A,n,c,A',n',c',rfl,D,q⟩;refine⟨_,_,_,_,_,_,rfl,ih _ hm y o _ _ _ _ _ _ ((hb.below b).below i) q hy om (by have:=i.size;omega) fun A n c w' k=>d A n c w' ?_⟩;rwa [CQ y,<-Nat.gcd_rec,CQ]at k
   refine⟨_,_,rfl,fun hs=>⟨fun r=> ?_,fun _=>rest⟩,fun _=>rest⟩;have j:x<1000000000000000000:=by simpa using hs
   have l:y<1000000000000000000:=by simpa using r
   rw[cc j,cc l];exact Sv y x e j l om d
  ·have h0:y=0:=by
    apply ea;intro k;have:=hp.2 k;omega
   subst h0;exact d _ _ _ _ (by rwa [HF])

theorem FC{w:World}{A0 A1:Option Addr}{n0 c0 n1 c1 x y:Nat}(ha:ee w A0 n0 c0 x)(hb:ee w A1 n1 c1 y)(hx:x<dL)(hy:y<dL):
  Pure Tryz.prog 264 #[.slice A0 n0 c0,.slice A1 n1 c1] w fun v w'=>∃A n c,v= .slice A n c/\ee w' A n c (Nat.gcd x y):=
 F.bI.vc (Sx y x w _ _ _ _ _ _ ha hb hx hy lf fun A n c w' k=>⟨A,n,c,rfl,k⟩)

theorem Mq(l:Tx):∀a:Nat,l.foldl (fun a c=>10*a+dv c) a=a*10^l.length+cX l:=by
 induction l with
 |nil=>intro a;simp[cX]
 |cons c r ih=>
  intro a;have h1:=ih (10*a+dv c);have h2:=ih (10*0+dv c);simp only[cX,LS,gw,hL]at*;rw[h1,h2];grind
theorem FD(a b:Tx):cX (a++b)=cX a*10^b.length+cX b:=by
 have:=Mq b (cX a);rw[<-this];simp[cX,AY]
theorem Cp(c:UInt8)(r:Tx):cX (c::r)=dv c*10^r.length+cX r:=by
 have h1:=Mq r (10*0+dv c);have h2:cX (c::r)=r.foldl (fun a c=>10*a+dv c) (10*0+dv c):=rfl;rw[h2,h1];simp
theorem DQ{l:Tx}(h:l.all px=true):cX l<10^l.length:=by
 induction l with
 |nil=>simp[cX]
 |cons c r ih=>
  simp only[vv,eb]at h;have h1:=ih h.2;have h2:dv c<=9:=by have:=h.1;simp[px]at this;simp only[dv];omega
  have h3:dv c*10^r.length<=9*10^r.length:=fT _ h2;rw[Cp,gw,hL];omega

theorem BI(M:Nat)(g:M<18446744073709551616):∀(l:Tx)(acc:Nat),l.all px=true->acc*10^l.length+cX l<=M->Lib.parseUintM M acc l= .ok (acc*10^l.length+cX l):=by
 intro l;induction l with
 |nil=>intro acc _ _;simp[Lib.parseUintM,cX]
 |cons c r ih=>
  intro acc b hle;simp only[vv,eb]at b;have d:48<=c.toNat/\c.toNat<=57:=by have:=b.1;simpa[px]using this
  have e:acc*10^(c::r).length+cX (c::r)=(acc*10+(c.toNat - 48))*10^r.length+cX r:=by
   have h1:=Mq r (10*0+dv c);have h2:cX (c::r)=r.foldl (fun a c=>10*a+dv c) (10*0+dv c):=rfl;rw[h2,h1,gw,hL];simp only[dv];grind
  have hp:0<10^r.length:=EG om;have h3:acc*10+(c.toNat - 48)<=(acc*10+(c.toNat - 48))*10^r.length:=qn _ hp;rw[e]at hle⊢;rw[Lib.parseUintM,cc d,ar om,ar om];exact ih _ b.2 hle
theorem um{B:Nat}{l:Tx}(hB:2^B - 1<18446744073709551616)(h0:l≠[])(a:l.all px=true)(hle:cX l<=2^B - 1):Lib.parseUintB B l= .ok (cX l):=by
 rw[Lib.parseUintB,ar h0,BI _ hB l 0 a (by simpa using hle)];simp

theorem oN(s:ByteArray)(i j:Nat):bM (s.extract i j)=((bM s).take j).drop i:=by
 unfold bM;rw[ByteArray.data_extract,Array.toList_extract,List.extract_eq_take_drop,List.drop_take]

theorem uo{w w':World}{e:Nat}{s:ByteArray}(h:w'=w∨w'=Lib.bytesWorld w e s):Below w.heap.size w w':=by
 rcases h with rfl|rfl
 ·exact Below.refl _ _
 ·exact⟨rfl,rfl,rfl,by rw[Lib.bytesWorld_size];omega,fun k a=>Lib.bytesWorld_at_old w e s k a⟩

theorem FE(s:ByteArray)(h0:bM s≠[])(a:(bM s).all px=true)(hl:s.size<=9)(w:World):
  Pure Tryz.prog 299 #[.string s,.int .i64 10,.int .i64 32] w fun v _=>v= .tuple #[.int .u64 (cX (bM s):Nat),.nilIface]:=by
 have hv:=DQ a;have hp:10^(bM s).length<=10^9:=fy om (by rw[<-dn];exact hl);have b:=um (B:=32) om h0 a om;exact Calls.mono (Tryz.strconv_ParseUint_10_at32_ok s om _ b w) fun e w' ⟨he,hw⟩=>⟨_,he,uo hw,rfl⟩

theorem JU{w0:World}{R:Value->World->Prop}{x:Nat}(E:∀A n c w,ee w A n c x->R (.slice A n c) w):
  ∀(d:Nat)(s:ByteArray)(w:World)(A:Option Addr)(n c:Nat)(ws:List Nat),s.size<=d->n+s.size<=900000->(bM s).all px=true->du w w0.heap.size A n c ws->Small ws->w0.heap.size<=w.heap.size->
   wv ws+1000000000^n*cX (bM s)=x->F.dC.L2 s A n c w0.heap.size w R:=by
 intro d;induction d with
 |zero=>
  intro s w A n c ws hs hn a ho l hw he;have h0:bM s=[]:=gz (by rw[<-dn];omega);rw[h0]at he;refine F.dC.L2.step ⟨fun h=>by omega,fun _=> ?_⟩;refine pm (lN ho.sl ho.len ho.cap om l) ?_;rintro v K _ ⟨rfl,m,rfl,h,_⟩;have e:wv ws=x:=by rw[<-he];simp[cX]
  rw[e]at h;exact⟨_,_,_,rfl,E _ _ _ _ h⟩
 |succ d ih=>
  intro s w A n c ws hs hn a ho l hw he;have k9:=dn s;by_cases h0:s.size=0
  ·exact ih s w A n c ws om hn a ho l hw he
  obtain⟨at_,L⟩:∃at_:Nat,at_=s.size - 9:=⟨_,rfl⟩
  have r:(if(0:Int)>((s.size:Int) - 9)then(0:Int)else((s.size:Int) - 9))=(at_:Int):=by split<;>omega
  refine F.dC.L2.step ⟨fun _=> ?_,fun h=>by omega⟩;rw[r,dq];refine⟨ir,⟨om,om⟩,?_⟩;have o:bM (s.extract at_ s.size)=(bM s).drop at_:=by rw[oN,bx om]
  have q:bM (s.extract 0 at_)=(bM s).take at_:=by rw[oN];rfl
  have g:((bM s).drop at_).all px=true:=by
   rw[gu]at a⊢;exact fun y hy=>a y (uR hy)
  have z:((bM s).take at_).all px=true:=by
   rw[gu]at a⊢;exact fun y hy=>a y (mr hy)
  have i:((bM s).drop at_).length=s.size - at_:=by rw[zB,<-k9]
  have C:((bM s).take at_).length=at_:=by rw[fs,<-k9];omega
  have hu:=DQ g;have hp:10^((bM s).drop at_).length<=10^9:=fy om om;refine pm (FE _ (by rw[o];exact fun k=>by rw[k]at i;simp at i;omega) (by rw[o];exact g) (by rw[dn,o];omega) w) ?_;rintro v G j rfl;rw[o];refine⟨_,_,rfl,ir,?_⟩;have B:du G w0.heap.size A n c ws:=ho.other fun b hb=>j.block b (ho.sA b hb).2
  have M:=j.size;refine nt (B0:=w0.heap.size) pN lf B om om sm om fun A' c' H D _ I=>⟨⟨om,om⟩,?_⟩
  have N:=I.size;rw[dq]at D;refine ih _ H A' (n+1) c' _ (by rw[dn,q,C];omega) (by rw[dn,q,C];omega) (by rw[q];exact z) D (l.append (Small.cons om Small.nil)) om ?_;rw[q,dT,ho.len,hL];have ev:cX (bM s)=cX ((bM s).take at_)*1000000000+cX ((bM s).drop at_):=by
   have h1:=FD ((bM s).take at_) ((bM s).drop at_);rw[ly]at h1;by_cases J:at_=0
   ·rw[h1,J];simp[cX]
   ·rw[h1,show((bM s).drop at_).length=9 by omega]
  rw[ev]at he;rw[<-he];simp only[wv];grind

theorem dC{w:World}{s:ByteArray}(hs:s.size<=900000)(h:isNat (bM s)=true):
  Pure Tryz.prog 278 #[.string s] w fun v w'=>∃A n c,v= .slice A n c/\ee w' A n c (cX (bM s)):=by
 have a:(bM s).all px=true:=by simp[isNat]at h;simpa using h.2
 exact F.dC.vc (JU (w0:=w) (x:=cX (bM s)) (fun A n c w k=>⟨A,n,c,rfl,k⟩) s.size s w none 0 0 [] lf om a (World.ownsRow_nil w _ _ _) Small.nil lf (by simp[wv]))

abbrev dY(n:Nat):Tx:=Lib.decDigits n

theorem Cq(l:Tx)(c:UInt8):cX (l++[c])=10*cX l+dv c:=by simp[cX]
theorem fG{n:Nat}(h:n<10):dY n=[UInt8.ofNat (48+n)]:=Lib.decDigits_one h
theorem lO{n:Nat}(h:¬n<10):dY n=dY (n / 10)++[UInt8.ofNat (48+n % 10)]:=by rw[dY,Lib.decDigits,dif_neg h]
theorem Mr{n:Nat}(h:n<10):dv (UInt8.ofNat (48+n))=n:=by
 simp only[dv,Me];omega
theorem Ms{n:Nat}(h:n<10):px (UInt8.ofNat (48+n))=true:=by
 simp only[px,Me];simp;omega
theorem Mt{c:UInt8}(h:px c=true):UInt8.ofNat (48+dv c)=c:=by
 apply HP.1;simp only[px,eb,nC]at h;simp only[dv,Me];have:=c.toNat_lt;omega
theorem Q9{c:UInt8}(h:px c=true):dv c<10:=by
 simp only[px,eb,nC]at h;simp only[dv];omega

theorem ke(n:Nat):cX (dY n)=n:=by
 induction n using Nat.strongRecOn with
 |_ n ih=>
  by_cases h:n<10
  ·have e:∀c,cX [c]=dv c:=fun c=>by simp[cX]
   rw[fG h,e,Mr h]
  ·rw[lO h,Cq,ih (n / 10) om,Mr om];omega
theorem sE(n:Nat):(dY n).all px=true:=by
 induction n using Nat.strongRecOn with
 |_ n ih=>
  by_cases h:n<10
  ·rw[fG h,vv,Ms h];rfl
  ·rw[lO h,List.all_append,ih (n / 10) om,vv,Ms (show n % 10<10 by omega)];rfl
theorem tB(n:Nat):dY n≠[]:=by
 by_cases h:n<10
 ·rw[fG h];simp
 ·rw[lO h];simp
theorem FF{a b:Tx}(h:a≠[]):(a++b).head? =a.head? :=by
 cases a with
 |nil=>exact absurd rfl h
 |cons c r=>rfl
theorem JV(n:Nat)(h0:0<n):(dY n).head?≠some 48:=by
 induction n using Nat.strongRecOn with
 |_ n ih=>
  by_cases h:n<10
  ·rw[fG h];intro k;have a:UInt8.ofNat (48+n)=48:=by simpa using k
   have:=dB dv a;rw[Mr h]at this;simp[dv]at this;omega
  ·rw[lO h,FF (tB _)];exact ih (n / 10) om om
theorem oO(n:Nat):isNat (dY n)=true:=by
 have h1:=sE n;have h2:=tB n;unfold isNat;rw[h1];by_cases h:n=0
 ·subst h;rw[fG om];simp
 ·have h3:=JV n om;have h4:((dY n).head? !=some 48)=true:=by simpa using h3
  have a:(dY n).isEmpty=false:=by simpa using h2
  rw[h4,a];simp
theorem zF{a b:Nat}(h:dY a=dY b):a=b:=by
 have:=dB cX h;rwa [ke,ke]at this

theorem Mu{l:Tx}(a:l.all px=true)(h:l≠[])(b:l.head?≠some 48):0<cX l:=by
 cases l with
 |nil=>exact absurd rfl h
 |cons c r=>
  rw[Cp];simp only[vv,eb]at a;have h1:c≠48:=fun k=>by subst k;simp at b
  have h2:dv c≠0:=fun k=>by
   have:=Mt a.1;rw[k]at this;exact h1 this.symm
  have h3:0<dv c*10^r.length:=Nat.mul_pos om (EG om);omega
theorem xX{t:Tx}(h:isNat t=true):t≠[]/\(t.length=1∨t.head?≠some 48)/\t.all px=true:=by
 unfold isNat at h;simp only[eb,xt,tW,beq_iff_eq,RC,RS]at h;refine⟨fun k=> ?_,h.1.2,h.2⟩;subst k;simp at h
theorem JW:∀(k:Nat)(t:Tx),t.length=k->isNat t=true->dY (cX t)=t:=by
 intro k;induction k with
 |zero=>intro t hl h;exact absurd (gz hl) (xX h).1
 |succ k ih=>
  intro t hl h;obtain⟨h1,h2,h3⟩:=xX h;obtain⟨l,c,rfl⟩:∃l c,t=l++[c]:=⟨t.dropLast,t.getLast h1,(wY h1).symm⟩
  rw[List.all_append]at h3;simp only[eb,vv,Pj,and_true]at h3;rw[Cq];by_cases hn:l=[]
  ·subst hn;have:10*cX []+dv c=dv c:=by simp[cX]
   rw[this,fG (Q9 h3.2),Mt h3.2];rfl
  ·have b:l.head?≠some 48:=by
    rcases h2 with h2|h2
    ·have:=nQ.2 hn;rw[fx,vi]at h2;omega
    ·rwa [FF hn]at h2
   have hp:=Mu h3.1 hn b;have a:isNat l=true:=by
    unfold isNat;have h4:(l.head? !=some 48)=true:=by simpa using b
    have d:l.isEmpty=false:=by simpa using hn
    rw[h3.1,h4,d];simp
   have e:=Q9 h3.2;rw[lO om,show(10*cX l+dv c) / 10=cX l by omega,show(10*cX l+dv c) % 10=dv c by omega,ih l (by simp at hl;omega) a,Mt h3.2]
theorem kB{t:Tx}(h:isNat t=true):dY (cX t)=t:=JW _ t rfl h

theorem sF:dY 0=[48]:=by rw[fG om];rfl
theorem DR:dY 1=[49]:=by rw[fG om];rfl
theorem ki{n:Nat}:dY n=[48]↔n=0:=by
 constructor
 ·intro h;exact zF (h.trans sF.symm)
 ·intro h;subst h;exact sF
theorem rj{n:Nat}:dY n=[49]↔n=1:=by
 constructor
 ·intro h;exact zF (h.trans DR.symm)
 ·intro h;subst h;exact DR
theorem we(n:Nat):n<10^(dY n).length:=by
 have:=DQ (sE n);rwa [ke]at this
theorem gB{n k:Nat}(h:n<10^k)(b:1<=k):(dY n).length<=k:=by
 induction k generalizing n with
 |zero=>omega
 |succ k ih=>
  by_cases hn:n<10
  ·rw[fG hn];simp
  ·rw[lO hn,fx];have a:1<=k:=by
    apply ea;intro k0;have:k=0:=om;subst this;omega
   have:=ih (n:=n / 10) (by rw[hL]at h;omega) a;simp;omega
theorem zG{n:Nat}{c:UInt8}(h:c∈dY n):px c=true:=by
 have:=sE n;rw[gu]at this;exact this c h

abbrev kj(z:Int):Tx:=Lib.itoa z
def isInt(t:Tx):Bool:=if t.head? =some 45 then isNat t.tail&&t.tail !=[48]else isNat t
def gk(t:Tx):Int:=if t.head? =some 45 then -(cX t.tail:Int)else cX t

theorem wg(n:Nat):kj (n:Int)=dY n:=by
 rw[kj,Lib.itoa,ar om];rfl
theorem Mv{n:Nat}(h:0<n):kj (-(n:Int))=45::dY n:=by
 rw[kj,Lib.itoa,cc om];simp
theorem kC(z:Int):kj z=if z<0 then 45::dY z.natAbs else dY z.natAbs:=by
 rw[kj,Lib.itoa];split
 ·rfl
 ·congr 1;omega
theorem sG(n:Nat):(dY n).head?≠some 45:=by
 intro h;have:=zG (List.mem_of_head? h);simp[px]at this
theorem uZ(z:Int):isInt (kj z)=true:=by
 rw[kC,isInt];split
 ·have h1:=oO z.natAbs;have h2:dY z.natAbs≠[48]:=fun k=>by have:=ki.1 k;omega
  simp[h1,h2]
 ·rw[ar (sG _)];exact oO _
theorem qx(z:Int):gk (kj z)=z:=by
 rw[kC,gk];split
 ·simp[ke];omega
 ·rw[ar (sG _),ke];omega
theorem pA{t:Tx}(h:isInt t=true):kj (gk t)=t:=by
 unfold isInt at h;unfold gk;split at h
 ·rename_i k;simp only[eb,RC,RS]at h;rw[cc k];have h0:0<cX t.tail:=by
   apply Nat.pos_of_ne_zero;intro k0;have:=kB h.1;rw[k0]at this;exact h.2 (this▸ki.2 rfl)
  rw[Mv h0,kB h.1];cases t with
  |nil=>simp at k
  |cons c r=>simp at k;subst k;rfl
 ·rename_i k;rw[ar k,wg,kB h]
theorem Mw{a b:Int}(h:kj a=kj b):a=b:=by
 have:=dB gk h;rwa [qx,qx]at this
theorem uq{z:Int}:kj z=[48]↔z=0:=by
 constructor
 ·intro h;exact Mw (h.trans ((wg 0).trans sF).symm)
 ·intro h;subst h;exact(wg 0).trans sF
theorem Mx{z:Int}{c:UInt8}(h:c∈kj z):px c=true∨c=45:=by
 rw[kC]at h;split at h
 ·rcases fi.1 h with h|h
  ·exact .inr h
  ·exact .inl (zG h)
 ·exact .inl (zG h)
theorem Pv(z:Int):kj z≠[]:=by
 rw[kC];split
 ·simp
 ·exact tB _
theorem lP{z:Int}{k:Nat}(h:z.natAbs<10^k)(a:1<=k):(kj z).length<=k+1:=by
 rw[kC];have:=gB h a;split
 ·simp;omega
 ·omega
theorem yG(z:Int):z.natAbs<10^(kj z).length:=by
 rw[kC];have h1:=we z.natAbs;split
 ·rw[gw,hL];omega
 ·exact h1

def oa(r:Rat):Tx:=if r.den=1 then kj r.num else kj r.num++47::dY r.den
def oc(t:Tx):Tx:=t.takeWhile (· !=47)
def lE(t:Tx):Tx:=(t.dropWhile (· !=47)).tail
def km(t:Tx):Bool:=if 47∈t then isInt (oc t)&&oc t !=[48]&&isNat (lE t)&&lE t !=[48]&&lE t !=[49]&&Nat.gcd (gk (oc t)).natAbs (cX (lE t))==1 else isInt t
def tT(t:Tx):Rat:=if 47∈t then mkRat (gk (oc t)) (cX (lE t))else(gk t:Rat)

theorem jl(z:Int):47∉kj z:=by
 intro h;rcases Mx h with h|h
 ·simp[px]at h
 ·simp at h
theorem yH{a b:Tx}(h:47∉a):oc (a++47::b)=a:=by
 unfold oc;rw[List.takeWhile_append_of_pos (fun x hx=>by simp;intro k;subst k;exact h hx)];simp
theorem yI{a b:Tx}(h:47∉a):lE (a++47::b)=b:=by
 unfold lE;rw[List.dropWhile_append_of_pos (fun x hx=>by simp;intro k;subst k;exact h hx)];simp
theorem My{t:Tx}(h:47∈t):t=oc t++47::lE t/\47∉oc t:=by
 induction t with
 |nil=>simp at h
 |cons c r ih=>
  by_cases a:c=47
  ·subst a;simp[oc,lE]
  ·have b:47∈r:=by
    rcases fi.1 h with k|k
    ·exact absurd k.symm a
    ·exact k
   obtain⟨e,hn⟩:=ih b;have d:oc (c::r)=c::oc r:=by simp[oc,a]
   have g:lE (c::r)=lE r:=by simp[lE,a]
   rw[d,g];constructor
   ·rw[xm,<-e]
   ·intro k;rcases fi.1 k with k|k
    ·exact a k.symm
    ·exact hn k

theorem wh(r:Rat):tT (oa r)=r:=by
 unfold oa tT;split
 ·rename_i h;rw[ar (jl _),qx];apply Rat.ext
  ·rfl
  ·rw[h];rfl
 ·rw[cc sm,yH (jl _),yI (jl _),qx,ke,Rat.mkRat_self]
theorem zH(r:Rat):km (oa r)=true:=by
 unfold oa km;split
 ·rw[ar (jl _)];exact uZ _
 ·rename_i h;rw[cc sm,yH (jl _),yI (jl _),uZ,oO,qx,ke];have h1:kj r.num≠[48]:=by
   intro k;have a:=uq.1 k;have:=r.reduced;rw[a]at this;have h2:Nat.gcd 0 r.den=1:=this;simp at h2;exact h h2
  have h2:dY r.den≠[48]:=fun k=>r.den_nz (ki.1 k)
  have h3:dY r.den≠[49]:=fun k=>h (rj.1 k)
  have h4:Nat.gcd r.num.natAbs r.den=1:=r.reduced;simp[h1,h2,h3,h4]
theorem FG{t:Tx}(h:km t=true)(k:47∈t):isInt (oc t)=true/\oc t≠[48]/\isNat (lE t)=true/\lE t≠[48]/\lE t≠[49]/\Nat.gcd (gk (oc t)).natAbs (cX (lE t))=1:=by
 unfold km at h;rw[cc k]at h;simp only[eb,RC,RS,beq_iff_eq]at h;obtain⟨⟨⟨⟨⟨h1,h2⟩,h3⟩,h4⟩,a⟩,b⟩:=h;exact⟨h1,h2,h3,h4,a,b⟩
theorem oz{p:Int}{d:Nat}(a:d≠0):(mkRat p d).num=p / (p.natAbs.gcd d:Nat)/\(mkRat p d).den=d / p.natAbs.gcd d:=by
 rw[<-Rat.normalize_eq_mkRat a];exact⟨Rat.num_normalize a,Rat.den_normalize a⟩
theorem DS{t:Tx}(h:km t=true):oa (tT t)=t:=by
 by_cases k:47∈t
 ·obtain⟨h1,h2,h3,h4,c,d⟩:=FG h k;have e:=(My k).1;have g:cX (lE t)≠0:=fun k0=>by
   have:=kB h3;rw[k0]at this;exact h4 (this▸ki.2 rfl)
  have i:cX (lE t)≠1:=fun k0=>by
   have:=kB h3;rw[k0]at this;exact c (this▸rj.2 rfl)
  obtain⟨a,b⟩:=oz (p:=gk (oc t)) g;rw[d]at a b;unfold tT oa;rw[cc k,a,b];simp only[Nat.div_one,Int.natCast_one,Int.ediv_one];rw[ar i,pA h1,kB h3,<-e]
 ·unfold km at h;rw[ar k]at h;unfold tT oa;rw[ar k];have j:((gk t:Rat)).den=1:=rfl;have l:((gk t:Rat)).num=gk t:=rfl;rw[cc j,l,pA h]
theorem Mz{a b:Rat}(h:oa a=oa b):a=b:=by
 have:=dB tT h;rwa [wh,wh]at this

def Sm(k:Nat)(r:Rat):Prop:=r.num.natAbs<10^k/\r.den<10^k
theorem Sm.mono{j k:Nat}{r:Rat}(h:Sm j r)(a:j<=k):Sm k r:=
 have hp:10^j<=10^k:=fy om a
 ⟨jK h.1 hp,jK h.2 hp⟩
theorem Sm.neg{k:Nat}{r:Rat}(h:Sm k r):Sm k (-r):=by
 refine⟨?_,h.2⟩;rw[Rat.neg_num,Kf];exact h.1
theorem Sm.mkRat{k:Nat}{p:Int}{d:Nat}(h1:p.natAbs<10^k)(h2:d<10^k)(a:d≠0):Sm k (mkRat p d):=by
 obtain⟨b,c⟩:=oz (p:=p) a;constructor
 ·rw[b,Int.natAbs_ediv_of_dvd (Int.ofNat_dvd_left.2 (NP _ _)),ky];exact kx (DF _ _) h1
 ·rw[c];exact kx (DF _ _) h2
theorem eC{a b j k:Nat}(ha:a<10^j)(hb:b<10^k):a*b<10^(j+k):=by
 rw[PS];exact Qz ha hb
theorem u7{j k:Nat}{a b:Rat}(ha:Sm j a)(hb:Sm k b):(a.num*b.den+b.num*a.den).natAbs<10^(j+k+1):=by
 have h1:=eC ha.1 hb.2;have h2:=eC hb.1 ha.2;rw[M3 k j]at h2;have c:(a.num*b.den).natAbs=a.num.natAbs*b.den:=by rw[og,ky]
 have d:(b.num*a.den).natAbs=b.num.natAbs*a.den:=by rw[og,ky]
 have h3:=Int.natAbs_add_le (a.num*b.den) (b.num*a.den);rw[hL];omega
theorem mJ{j k:Nat}{a b:Rat}(ha:Sm j a)(hb:Sm k b):a.den*b.den<10^(j+k):=eC ha.2 hb.2
theorem mK(a b:Rat):a.den*b.den≠0:=Nat.mul_ne_zero a.den_nz b.den_nz
theorem Sm.add{j k:Nat}{a b:Rat}(ha:Sm j a)(hb:Sm k b):Sm (j+k+1) (a+b):=by
 rw[QQ];refine Sm.mkRat (u7 ha hb) ?_ (mK a b);have:=mJ ha hb;rw[hL];omega
theorem Sm.sub{j k:Nat}{a b:Rat}(ha:Sm j a)(hb:Sm k b):Sm (j+k+1) (a - b):=by
 rw[Pr];exact ha.add hb.neg
theorem Sm.mul{j k:Nat}{a b:Rat}(ha:Sm j a)(hb:Sm k b):Sm (j+k) (a*b):=by
 rw[Rat.mul_def'];refine Sm.mkRat ?_ (mJ ha hb) (mK a b);rw[og];exact eC ha.1 hb.1
theorem Sm.ofInt{k:Nat}{z:Int}(h:z.natAbs<10^k)(a:1<=k):Sm k (z:Rat):=by
 have hp:10^1<=10^k:=fy om a;refine⟨h,?_⟩;have:(z:Rat).den=1:=rfl;omega
theorem Sm.text{k:Nat}{r:Rat}(h:(oa r).length<=k):Sm k r:=by
 have h1:=yG r.num;have h2:=we r.den;have h3:=nQ.2 (Pv r.num);unfold oa at h;split at h
 ·rename_i e;have hp:10^(kj r.num).length<=10^k:=fy om h;have a:10^1<=10^k:=fy om om;exact⟨om,om⟩
 ·simp only[fx,gw]at h;have hp:10^(kj r.num).length<=10^k:=fy om om;have a:10^(dY r.den).length<=10^k:=fy om om;exact⟨om,om⟩
theorem Sm.length{k:Nat}{r:Rat}(h:Sm k r)(a:1<=k):(oa r).length<=2*k+2:=by
 have h1:=lP h.1 a;have h2:=gB h.2 a;unfold oa;split
 ·omega
 ·simp only[fx,gw];omega
theorem Sm.int{k:Nat}{r:Rat}(h:Sm k r)(a:1<=k):(kj r.num).length<=k+1:=lP h.1 a
theorem Sm.nat{k:Nat}{r:Rat}(h:Sm k r)(a:1<=k):(dY r.den).length<=k:=gB h.2 a

theorem add_same{a b:Rat}(h:a.den=b.den):a+b=mkRat (a.num+b.num) a.den:=by
 rw[QQ,<-h,<-Int.add_mul,Rat.mkRat_mul_right a.den_nz]
theorem wi(a b:Rat):a<b↔a.num*b.den - b.num*a.den<0:=by
 rw[Rat.lt_iff];omega
theorem MA(a b:Rat):a=b↔a.num*b.den - b.num*a.den=0:=by
 rw[Rat.eq_iff_mul_eq_mul];omega
def fm(a b:Rat):Int:=if a<b then -1 else if b<a then 1 else 0
theorem gS{a b:Rat}:fm a b<0↔a<b:=by
 unfold fm;split
 ·simp[*]
 ·split<;>simp[*]
theorem gT{a b:Rat}:fm a b>0↔b<a:=by
 unfold fm;split
 ·rename_i h;have:¬b<a:=Ps.2 (Rat.le_of_lt h);simp[this]
 ·split<;>simp[*]
theorem DT{a b:Rat}:fm a b=0↔a=b:=by
 unfold fm;split
 ·rename_i h;have:=Rat.ne_of_lt h;simp[this]
 ·rename_i h;split
  ·rename_i h2;have:=Rat.ne_of_gt h2;simp[this]
  ·rename_i h2;simp;exact Rat.le_antisymm (Ps.1 h2) (Ps.1 h)
theorem FH(r:Rat):r.num.sign=fm r 0:=by
 have h1:r<0↔r.num<0:=by rw[Rat.lt_iff];simp
 have h2:0<r↔0<r.num:=by rw[Rat.lt_iff];simp
 unfold fm;rcases PX r.num 0 with h|h|h
 ·rw[cc (h1.2 h),DB h]
 ·rw[ar (fun k=>by have:=h1.1 k;omega),ar (fun k=>by have:=h2.1 k;omega),h];rfl
 ·rw[ar (fun k=>by have:=h1.1 k;omega),cc (h2.2 h),HM h]

theorem Ji : Tryz.prog.globalNamed "internal/strconv.uint64pow10" = some 0 := kF

structure cT (w:World):Prop where
 tab : Lib.TabIs Tryz.prog w "internal/strconv.uint64pow10" .u64 Lib.pow10Tab
 mx:∃m:Int,w.cell? ⟨1,0,none⟩=some (.int .i64 m)

theorem Jj{w:World}{a:Addr}{v:Value}(h:w.cell? a=some v):a.block<w.heap.size:=by
 apply ea;intro k;have:w.heap[a.block]? =none:=rm om;simp[World.cell?,this]at h
theorem FI {w w' : World} {B : Nat} (h : Lib.TabIs Tryz.prog w "internal/strconv.uint64pow10" .u64 Lib.pow10Tab) (hb : Below B w w') (hB : w.heap.size ≤ B) : Lib.TabIs Tryz.prog w' "internal/strconv.uint64pow10" .u64 Lib.pow10Tab := by
 unfold Lib.TabIs World.var? at*;rw[Ji]at*;simp only[DA]at*;have a:0<w.heap.size:=by
  apply ea;intro k;have:w.heap[0]? =none:=rm om;rw[this]at h;cases h
 rw[hb.block _ om];exact h
theorem cT.below{w w':World}{B:Nat}(h:cT w)(hb:Below B w w')(hB:w.heap.size<=B):cT w':=by
 refine⟨FI h.tab hb hB,?_⟩;obtain⟨m,hm⟩:=h.mx;refine⟨m,?_⟩;have:=Jj hm;simp only at this;simp only[World.cell?]at hm⊢;rw[hb.block _ om];exact hm
theorem cT.next{w w':World}(h:cT w)(hb:Below w.heap.size w w'):cT w':=h.below hb lf
open Go Go.RowKit Go.Shelf Go.Proofs Go.Proofs.YtgfkeadgjkfomaaGreatDoor.Vc
attribute [local go_sem] Oper.semAt_some

def sH:Nat->Nat->Tx
 |0,_=>[]
 |k+1,r=>sH k (r / 10)++[UInt8.ofNat (48+r % 10)]
theorem zI(q:Nat)(hq:0<q):∀(k r:Nat),r<10^k->dY (q*10^k+r)=dY q++sH k r:=by
 intro k;induction k with
 |zero=>intro r hr;simp at hr;simp[hr,sH]
 |succ k ih=>
  intro r hr;rw[hL]at hr⊢;have hp:0<10^k:=EG om;have h1:1<=q*10^k:=Nat.mul_pos hq hp;have e:q*(10^k*10)+r=10*(q*10^k)+r:=gD;rw[e,lO om,show(10*(q*10^k)+r) / 10=q*10^k+r / 10 by omega,show(10*(q*10^k)+r) % 10=r % 10 by omega,ih (r / 10) om,sH,qo]
theorem JX(k:Nat):sH k 0=List.replicate k 48:=by
 induction k with
 |zero=>rfl
 |succ k ih=>rw[sH,Nat.zero_div,ih,List.replicate_succ'];rfl
theorem MB:∀(k r:Nat),r<10^k->1<=k->sH k r=List.replicate (k - (dY r).length) 48++dY r:=by
 intro k;induction k with
 |zero=>intro r _ h;omega
 |succ k ih=>
  intro r hr _;rw[hL]at hr;by_cases h:r<10
  ·rw[sH,show r / 10=0 by omega,JX,fG h,show r % 10=r by omega];simp
  ·have hk:1<=k:=by
    apply ea;intro k0;have:k=0:=om;subst this;omega
   rw[sH,ih (r / 10) om hk,lO h,fx,qo]
   congr 2
   simp

def sI(n:Nat)(p:PW):Tx:=if(p.1:Int)<(n:Int) - 1 then List.replicate (9 - (dY p.2.1).length) 48++dY p.2.1 else dY p.2.1
def Oy(n:Nat)(l:List PW):Tx:=l.flatMap (sI n)
theorem zJ(n:Nat)(l:List PW)(p:PW):Oy n (l++[p])=Oy n l++sI n p:=by simp[Oy]
theorem MC(ws:List Nat)(hs:Small ws)(hn:Norm ws):∀d m,ws.length - 1 - m=d->m<ws.length->Oy ws.length (qq ws hs m)=dY (wv (ws.drop m)):=by
 intro d;induction d with
 |zero=>
  intro m hd hm;have hm':m=ws.length - 1:=om;have e:qq ws hs m=[Q3 ws hs m]:=by
   rw[uX ws hs hm,show m+1=ws.length by omega,Cm];rfl
  rw[e,eS,dp om];have h1:¬((m:Int)<(ws.length:Int) - 1):=om;simp[Oy,sI,Q3,h1,wv]
 |succ d ih=>
  intro m hd hm;rw[uX ws hs hm,zJ,ih (m+1) om om,eS ws m];have h1:((m:Int)<(ws.length:Int) - 1):=om;have hx:=hs.getD m;have hpos:0<wv (ws.drop (m+1)):=by
   have hne:ws.drop (m+1)≠[]:=by
    intro k;have:=dB List.length k;simp at this;omega
   have hnn:Norm (ws.drop (m+1)):=by
    unfold Norm at*;rw[List.getLast?_drop,ar om];exact hn
   have:=lM hnn hne;have hp:0<1000000000^((ws.drop (m+1)).length - 1):=EG om;omega
  have e:ws.getD m 0+1000000000*wv (ws.drop (m+1))=wv (ws.drop (m+1))*10^9+ws.getD m 0:=om;rw[e,zI _ hpos 9 _ om,MB 9 _ om om];have e2:sI ws.length (Q3 ws hs m)=List.replicate (9 - (dY (ws.getD m 0)).length) 48++dY (ws.getD m 0):=by
   simp[sI,Q3,h1]
  rw[e2]
theorem Pw(ws:List Nat)(hs:Small ws)(hn:Norm ws)(h:ws≠[]):Oy ws.length (qq ws hs 0)=dY (wv ws):=by
 have:=MC ws hs hn _ 0 rfl (nQ.2 h);simpa using this
theorem DU(n:Nat)(p:PW):(sI n p).length<=9:=by
 have h:=gB (n:=p.2.1) (k:=9) p.2.2 om;unfold sI;split
 ·simp;omega
 ·exact h
theorem HQ(n:Nat)(l:List PW):(Oy n l).length<=9*l.length:=by
 induction l with
 |nil=>simp[Oy]
 |cons p r ih=>
  have:=DU n p;simp only[Oy,ow,fx,gw]at*;omega

theorem sJ{w w':World}(h:Below w.heap.size w w'):w.grownBy w' none:=⟨h.os,h.tape,h.output,h.size,fun k hk _=>h.block k hk⟩
theorem od{T e B b:Nat}{bs:List Value}{w w':World}{row:Option Nat}(h:Lib.IsBuilderF T e B b bs w)(hg:w.grownBy w' row)(hr:∀r,row=some r->∃o:Obj,w.heap[r]? =some o/\o.isCells=false):Lib.IsBuilderF T e B b bs w':=by
 have one:∀p,Lib.BuilderAtF T e B b p bs w->Lib.BuilderAtF T e B b p bs w':=by
  rintro p ⟨hB,v,hb,hown,hne⟩;refine⟨hB,v,?_,hown.kept hg ?_,hne⟩
  ·rw[hg.block b (bU.1 hb).1]
   ·exact hb
   ·intro k;obtain⟨o,ho,hc⟩:=hr b k.symm;rw[hb]at ho;cases ho;simp[Obj.isCells]at hc
  ·rcases hown.2 with⟨hv,_⟩|⟨g,cap,cur,fz,hv,_,hgg,_⟩
   ·left;rw[hv];rfl
   ·right
    rw[hv];intro k;simp only[Value.ownBlock]at k;obtain⟨o,ho,hc⟩:=hr g k.symm;rw[hgg]at ho;cases ho;simp[Obj.isCells]at hc
 exact h.imp (one _) (one _)
theorem CK.tC{b:Nat}{W W':World}(h:Lib.OthersKept 5 (some b) W W'):CK b W W':=fun k cs ty fz hk hne hty=>h k _ hk (fun e=>hne (by cases e;rfl)) fun c f e=>by cases e;exact hty rfl
theorem rk{b:Nat}{W W':World}(h:Below W.heap.size W W'):Lib.OthersKept 5 (some b) W W':=fun k o hk _ _=>by
 rw[h.block k (bU.1 hk).1];exact hk
theorem qy{b B:Nat}{W W':World}(h:Lib.OthersKept 5 (some b) W W')(hs:W.heap.size<=W'.heap.size)(hb:∀o,W.heap[b]? =some o->o.isCells=true):KeepsFrom B W W':=
 ⟨hs,fun k o _ hk hc=>h k o hk (fun e=>by cases e;rw[hb o hk]at hc;cases hc) fun c f e=>by subst e;simp[Obj.isCells]at hc⟩
theorem zK{T e B b:Nat}{bs:List Value}{w:World}(h:Lib.IsBuilderF T e B b bs w):∀o,w.heap[b]? =some o->o.isCells=true:=by
 intro o ho;rcases h with h|h<;>(obtain⟨_,v,hb,_⟩:=h;rw[hb]at ho;cases ho;rfl)
theorem sK(w:World)(k:Nat)(os:Array Obj):Below w.heap.size w (Sort.grow (w.drewN k) os):=
 ⟨rfl,rfl,rfl,by simp[Sort.grow,World.drewN],fun i hi=>by simp[Sort.grow,World.drewN,Jw hi]⟩
theorem JY (u : Nat) (hu : u < 18446744073709551616) (w : World) (htab : Lib.TabIs Tryz.prog w "internal/strconv.uint64pow10" .u64 Lib.pow10Tab) :
  Calls Tryz.prog 301 #[.int .u64 u,.int .i64 10] w fun e w'=>e= .returned (.string ⟨(dY u).toArray⟩)/\Below w.heap.size w w':=
 (Tryz.HL u hu w htab).mono (by
  rintro e w' ⟨rfl,k,os,rfl⟩;exact⟨rfl,sK _ _ _⟩)
theorem zL{w w':World}{a:Addr}{v:Value}(h:w.cell? a=some v)(hb:Below w.heap.size w w'):w'.cell? a=some v:=(hb.cell (Jj h)).trans h

theorem HR(F:Fence)(n:Nat)(h5:F.fn 300)(hro:F.round=none)(A:Option Addr)(len cap:Nat)(w:World):
  CallsIn F n Tryz.prog 300 #[.slice A len cap] w fun e w'=>e= .returned (.func (.func 316) #[] #[.pointer (some ⟨w.heap.size,0,none⟩)])/\w'=w.alloc (.cells #[.slice A len cap] 259):=by
 refine callsIn_of_wp Tryz.func300 rfl h5 ?_ hro;simp only[Tryz.ntmps300,DY,gw,ot,Nat.reduceAdd,Nat.reduceSub,Oz,OD,PM,OR,nN,xm]
 gi_wp2
 go_ret
 exact⟨rfl,rfl⟩

theorem HS(b Bs:Nat)(A:Option Addr)(cap:Nat)(ws:List Nat)(hs:Small ws)(hlen:ws.length<=1000000)(w:World)(ha:gM w A ws)(h0:ws≠[])(hb:∀o,w.heap[b]? =some o->∀c fz,o≠ .cells c 217 fz/\o≠ .cells c 259 fz)(hBs:w.heap[Bs]? =some (.cells #[.slice A ws.length cap] 259 (0,0)))(n:Nat)(hn:1<=n):
  SeqStopsK Fence.wide n Tryz.prog 316 #[.pointer (some ⟨Bs,0,none⟩)] LY (CK b) (fun ys=>ys=qq ws hs 0) (fun _=>True) ws.length w:=fun l J Jx W hW _ _ hY h1=>by
 rcases ha with ha|⟨wb,off,all,fr,rfl,hw,hc⟩
 ·exact absurd ha h0
 ·have hwl:=(bU.1 hw).1;have hBl:=(bU.1 hBs).1;refine O0 Fence.wide n trivial rfl hn l Bs b wb off cap (fun e=> ?_) (fun e=> ?_) ws hs hlen J Jx hY W _ rfl ((hW.block Bs hBl).trans hBs) all fr ((hW.block wb hwl).trans hw) (fun j hj=> ?_) h1
  ·subst e;exact(hb _ hBs _ _).2 rfl
  ·subst e;exact(hb _ hw _ _).1 rfl
  ·have:=hc j hj;rw[cN,af hj];exact this

set_option maxRecDepth 100000 in
set_option maxHeartbeats 4000000 in
theorem HT{w:World}{A:Option Addr}{cap:Nat}{ws:List Nat}(hg:cT w)(ha:gM w A ws)(hs:Small ws)(hnn:Norm ws)(hle:ws.length<=1000000)(h0:ws≠[]):
  Calls Tryz.prog 279 #[.slice A ws.length cap] w fun e w'=>e= .returned (.string ⟨(dY (wv ws)).toArray⟩)/\Below w.heap.size w w':=by
 have hne:¬((ws.length:Int)=0):=by
  have:=nQ.2 h0;omega
 refine(callsIn_wide (n:=5)).1 ?_;refine callsIn_of_wp_marks Tryz.func279 rfl trivial ?_ rfl;simp only[Tryz.ntmps279,DY,gw,ot,Nat.reduceAdd,Nat.reduceSub,Oz,OD,PM,OR,nN,xm]
 gi_wp2_with (refine⟨trivial,?_⟩;gi_at_call 300;refine(HR Fence.wide _ trivial rfl _ _ _ _).mono ?_;rintro e w' ⟨rfl,rfl⟩)
 obtain⟨W0,hW0⟩:∃W0,((w.alloc (.cells #[.slice A ws.length cap] 259)).alloc (.cells #[.pointer none,.slice none 0 0] 295)).alloc (.cells #[.slice A ws.length cap] 259)=W0:=⟨_,rfl⟩
 have hs0:W0.heap.size=w.heap.size+3:=by rw[<-hW0];simp
 have hB0:W0.heap[w.heap.size]? =some (.cells #[.slice A ws.length cap] 259 (0,0)):=by
  rw[<-hW0];exact((Below.heap_alloc _ _ _ (by simp;omega)).trans (Below.heap_alloc _ _ _ sm)).trans (World.alloc_heap_new w _)
 have hB1:W0.heap[w.heap.size+1]? =some (.cells #[.pointer none,.slice none 0 0] 295 (0,0)):=by
  rw[<-hW0];refine(Below.heap_alloc _ _ _ sm).trans ?_;have:=World.alloc_heap_new (w.alloc (.cells #[.slice A ws.length cap] 259)) (.cells #[.pointer none,.slice none 0 0] 295);rwa [World.size_alloc]at this
 have hB2:W0.heap[w.heap.size+1+1]? =some (.cells #[.slice A ws.length cap] 259 (0,0)):=by
  rw[<-hW0];have:=World.alloc_heap_new ((w.alloc (.cells #[.slice A ws.length cap] 259)).alloc (.cells #[.pointer none,.slice none 0 0] 295)) (.cells #[.slice A ws.length cap] 259);rwa [World.size_alloc,World.size_alloc]at this
 have hbel:Below w.heap.size w W0:=by
  rw[<-hW0];exact(((Below.refl _ w).alloc lf _).alloc sm _).alloc (by simp;omega) _
 rw[hW0];refine wpIn_rangeFunc_ownG rfl om (gf:=316) (lb:= #[.pointer (some ⟨w.heap.size+1+1,0,none⟩)]) rfl trivial (enters_of Tryz.func316 kF rfl)
  (HS (w.heap.size+1) (w.heap.size+1+1) A cap ws hs hle W0 (ha.aj hbel lf) h0 (fun o ho c fz=>by rw[hB1]at ho;cases ho;exact⟨sm,sm⟩) hB2 _ om)
  (fun h k=>CK.trans h k) (fun W l o o' _ h hc _=>CK.putObj W l o o' h hc) (Below.refl _ _) (fun _=>rfl)
  (fun pre W=>Lib.IsBuilderF 295 5 w.heap.size (w.heap.size+1) (Lib.byteCells (Oy ws.length pre)) W/\Below w.heap.size w W/\W.heap[w.heap.size]? =some (.cells #[.slice A ws.length cap] 259 (0,0)))
  (fun _ _ _=>False)
  (fun s W1 W2 row hI hgr hr=>⟨od hI.1 hgr (fun r e=>(hr r e).2),hI.2.1.grown hgr hI.2.1.size (fun r e=>by have:=(hr r e).1;omega),?_⟩)
  (fun _ _ _ _ _ hs _ _=>hs)
  ⟨?_,hbel,hB0⟩ (fun x=>{tmps:= #[.slice A ws.length cap,.pointer (some ⟨w.heap.size,0,none⟩),.string ⟨#[]⟩,.pointer (some ⟨w.heap.size+1,0,none⟩),.int .i64 (x.1:Int),.int .u32 (x.2.1:Int),undef,.slice A ws.length cap,.int .i64 ws.length,.bool false,.slice A ws.length cap,.func (.func 316) #[] #[.pointer (some ⟨w.heap.size+1+1,0,none⟩)],.int .i64 (x.1:Int),.int .u32 (x.2.1:Int),undef,undef,undef,undef,undef,undef,undef,undef,undef,undef,undef,undef,undef,undef,undef,undef],defers:=[]}) ?assign ?body ?done ?stop
 case assign=>
  intro l x W K hK
  gi_wp2
  exact hK
 case body=>
  rintro l pre x W ⟨hI,hbw,hc0⟩ hlen;have hx:=x.2.2;have hcell:W.cell? ⟨w.heap.size,0,none⟩=some (.slice A ws.length cap):=by simp[World.cell?,hc0]
  have htab:=FI hg.tab hbw lf;have hwr:IntKind.wrap .u64 (x.2.1:Int)=(x.2.1:Int):=by rw[IntKind.wrap_u64];omega
  obtain⟨t,ht⟩:∃t,t=dY x.2.1:=⟨_,rfl⟩
  have hl9:t.length<=9:=by rw[ht];exact gB (n:=x.2.1) (k:=9) hx om
  obtain⟨c,hc⟩:∃c,c=9 - t.length:=⟨_,rfl⟩
  have hfmt : ∀ w', Lib.TabIs Tryz.prog w' "internal/strconv.uint64pow10" .u64 Lib.pow10Tab → Calls Tryz.prog 301 #[.int .u64 (x.2.1 : Int), .int .i64 10] w' fun e w'' => e = .returned (.string ⟨t.toArray⟩) ∧ Below w'.heap.size w' w'' := fun w' h => by rw [ht]; exact JY x.2.1 om _ h
  have hrep:∀w',Calls Tryz.prog 303 #[.string ⟨#[48]⟩,.int .i64 (9 - (t.length:Int))] w' fun e w''=>e= .returned (.string ⟨(List.replicate c (48:UInt8)).toArray⟩)/\Below w'.heap.size w' w'':=fun w'=>by
   rw[show 9 - (t.length:Int)=(c:Int) by omega];refine(Tryz.strings_Repeat ⟨#[48]⟩ c w' om (by simp[ByteArray.size];omega)).mono ?_;rintro e w'' ⟨rfl,h⟩;refine⟨?_,h⟩;have e1:Lib.repeatL [48] c=List.replicate c (48:UInt8):=by
    clear hc;induction c with
    |zero=>rfl
    |succ c ih=>simp[Lib.repeatL,ih,FM]
   show Ending.returned (.string ⟨(Lib.repeatL [48] c).toArray⟩)=_;rw[e1]
  have hc9:c<=9:=om;have hlx:=HQ ws.length pre;have hWs:=hbw.size;by_cases hlt:(x.1:Int)<(ws.length:Int) - 1
  ·have ho:sI ws.length x=List.replicate c 48++t:=by simp[sI,hlt,hc,ht]
   clear hc ht
   gi_wp2_with (refine⟨trivial,?_⟩;gi_at_call 301;refine(CallsIn.inRound l (callsIn_wide.2 (hfmt _ htab))).mono ?_;clear hfmt;rintro e W1 ⟨rfl,hb1⟩;have hcell1:=zL hcell hb1)
   refine⟨trivial,?_⟩
   gi_at_call 303
   refine(CallsIn.inRound l (callsIn_wide.2 (hrep _))).mono ?_;rintro e W2 ⟨rfl,hb2⟩;have hI2:=od (od hI (sJ hb1) (fun _ e=>by cases e)) (sJ hb2) (fun _ e=>by cases e);have s1:=hb1.size;have s2:=hb2.size
   gi_wp2
   refine⟨trivial,?_⟩
   gi_at_call 302
   refine(CallsIn.inRound l (callsIn_wide.2 (Tryz.HK w.heap.size (w.heap.size+1) _ ⟨(List.replicate c (48:UInt8)).toArray⟩ W2 hI2 (by rw[Lib.byteCells_length];simp[ByteArray.size];omega) om))).mono ?_;rintro e W3 ⟨rfl,hI3,hb3,ho3⟩;have s3:=hb3.size
   gi_wp2
   refine⟨trivial,?_⟩
   gi_at_call 302
   refine(CallsIn.inRound l (callsIn_wide.2 (Tryz.HK w.heap.size (w.heap.size+1) _ ⟨t.toArray⟩ W3 (.inr hI3) (by rw[fx,Lib.byteCells_length,Lib.strCells_length];simp[ByteArray.size];omega) om))).mono ?_;rintro e W4 ⟨rfl,hI4,hb4,ho4⟩;have s4:=hb4.size
   gi_wp2
   have ho4':=((rk (b:=w.heap.size+1) hb1).trans (rk hb2)).trans (ho3.trans ho4);refine⟨qy ho4' om (zK hI),CK.tC ho4',.inr ?_,hbw.trans ((hb1.mono hWs).trans ((hb2.mono om).trans (hb3.trans hb4))),CK.tC ho4' _ _ _ _ hc0 om dc⟩;rw[zJ,ho,Lib.byteCells_append,Lib.byteCells_append,<-qo];exact hI4
  ·have ho:sI ws.length x=t:=by simp[sI,hlt,ht]
   clear hc ht
   gi_wp2_with (refine⟨trivial,?_⟩;gi_at_call 301;refine(CallsIn.inRound l (callsIn_wide.2 (hfmt _ htab))).mono ?_;clear hfmt;rintro e W1 ⟨rfl,hb1⟩;have hcell1:=zL hcell hb1)
   have hI1:=od hI (sJ hb1) (fun _ e=>by cases e);have s1:=hb1.size;refine⟨trivial,?_⟩
   gi_at_call 302
   refine(CallsIn.inRound l (callsIn_wide.2 (Tryz.HK w.heap.size (w.heap.size+1) _ ⟨t.toArray⟩ W1 hI1 (by rw[Lib.byteCells_length];simp[ByteArray.size];omega) om))).mono ?_;rintro e W4 ⟨rfl,hI4,hb4,ho4⟩;have s4:=hb4.size
   gi_wp2
   have ho4':=(rk (b:=w.heap.size+1) hb1).trans ho4;refine⟨qy ho4' om (zK hI),CK.tC ho4',.inr ?_,hbw.trans ((hb1.mono hWs).trans hb4),CK.tC ho4' _ _ _ _ hc0 om dc⟩;rw[zJ,ho,Lib.byteCells_append];exact hI4
 case done=>
  rintro D ys W hD rfl ⟨hI,hbw,hc0⟩ hK;rw[Pw ws hs hnn h0]at hI;have hWs:=hbw.size
  gi_wp2
  refine⟨trivial,?_⟩
  gi_at_call 304
  refine(callsIn_wide.2 (Tryz.Builder_String_any_k w.heap.size (w.heap.size+1) _ W hI om)).mono ?_;rintro e W1 ⟨rfl,hI1,hb1,ho1⟩;have s1:=hb1.size;have hK1:=ho1 D _ hK (fun e=>by cases e;omega) (fun c f e=>by cases e)
  gi_wp2
  refine⟨sm,.inl ⟨_,_,rfl,run_takeDeferred hK1,?_⟩⟩;refine⟨_,results_tmp rfl _ _ _,rfl,?_⟩;exact hbw.trans (hb1.trans (belowK_b (w:=w) lf W1 D _ _ om hK1 rfl rfl))
 case stop=>
  rintro D c pre W _ _ h _;exact h.elim
 ·have hb:=hI.2.2;rw[hgr.block _ (bU.1 hb).1 (fun e=> ?_)]
  ·exact hb
  ·obtain⟨_,o,ho,hc⟩:=hr _ e.symm;rw[hb]at ho;cases ho;simp[Obj.isCells]at hc
 ·exact .inl ⟨om,.slice none 0 0,hB1,World.ownsRowF_nil _ _ _ _,by simp[Value.ownBlock]⟩

theorem rl{w:World}{A:Option Addr}{n c x:Nat}(hg:cT w)(ha:ee w A n c x)(hn:n<=1000000):
  Pure Tryz.prog 279 #[.slice A n c] w fun v _=>v= .string (st (dY x)):=by
 obtain⟨ws,a1,a2,a3,a4,a5,a6,rfl⟩:=ha;by_cases h0:ws=[]
 ·subst h0;simp at a2;subst a2;refine(?_:Calls Tryz.prog 279 #[.slice A 0 c] w fun e w'=>e= .returned (.string ⟨#[48]⟩)/\Below w.heap.size w w').mono ?_
  ·go_enter Tryz.func279,Tryz.ntmps279
   go_wp2
   go_ret
   exact⟨rfl,(Below.refl _ w).alloc lf _⟩
  ·rintro e w' ⟨rfl,hb⟩;refine⟨_,rfl,hb,?_⟩;have:dY (wv [])=[48]:=by simp only[wv];exact sF
   rw[this];rfl
 ·subst a2;refine(HT hg a1 a5 a6 hn h0).mono ?_;rintro e w' ⟨rfl,hb⟩;exact⟨_,rfl,hb,rfl⟩

theorem lJ{w:World}{s t:ByteArray}(hs:s.size<=900000)(d:t.size<=900000):
  Pure Tryz.prog 255 #[.string s,.string t] w fun v w'=>
   (¬(isNat (bM s)=true/\isNat (bM t)=true)/\v= .tuple #[.slice none 0 0,.slice none 0 0,.int .i64 1])∨
   ((isNat (bM s)=true/\isNat (bM t)=true)/\∃A n c A' n' c',v= .tuple #[.slice A n c,.slice A' n' c',.int .i64 0]/\ee w' A n c (cX (bM s))/\ee w' A' n' c' (cX (bM t))):=by
 refine F.lJ.vc (pm (cF s om w) ?_);rintro v e _ rfl;refine⟨_,rfl,fun h=> .inl ⟨by simp[h],rfl⟩,fun h=> ?_⟩;refine pm (cF t om e) ?_;rintro v k _ rfl;refine⟨_,rfl,fun h2=> .inl ⟨by simp[h2],rfl⟩,fun h2=> ?_⟩;have a:isNat (bM s)=true:=by simpa using h
 have b:isNat (bM t)=true:=by simpa using h2
 refine pm (dC hs a) ?_;rintro v l _ ⟨A,n,c,rfl,g⟩;refine⟨_,_,_,rfl,pm (dC d b) ?_⟩;rintro v m i ⟨A',n',c',rfl,j⟩;exact⟨_,_,_,rfl,.inr ⟨⟨a,b⟩,_,_,_,_,_,_,rfl,g.below i,j⟩⟩

def nS(n:Nat):ByteArray:=st (dY n)
def iS(z:Int):ByteArray:=st (kj z)
def rS(r:Rat):ByteArray:=st (oa r)
theorem Vx(n:Nat):bM (nS n)=dY n:=rfl
theorem Vy(z:Int):bM (iS z)=kj z:=rfl
theorem Ra(r:Rat):bM (rS r)=oa r:=rfl
theorem Px(n:Nat):(nS n).size=(dY n).length:=rfl
theorem sL{a b:Nat}(h:nS a=nS b):a=b:=zF (zA h)
theorem oP(n:Nat):iS (n:Int)=nS n:=by unfold iS nS;rw[wg]
theorem Sy{a b:Nat}:nS a=nS b↔a=b:=⟨sL,fun h=>by rw[h]⟩
theorem JZ:(⟨#[48]⟩:ByteArray)=nS 0:=by unfold nS;rw[sF];rfl
theorem FJ:(⟨#[49]⟩:ByteArray)=nS 1:=by unfold nS;rw[DR];rfl
theorem Vz:(⟨#[48]⟩:ByteArray)=iS 0:=by rw[JZ,<-oP];rfl

theorem xo:dL=10^(9*ri):=by
 unfold dL;have e:(1000000000:Nat)=10^9:=rfl;rw[e,<-Nat.pow_mul]
theorem mL{x k:Nat}(h:x<10^k)(a:k<=900000):x<dL:=by
 rw[xo];exact jK h (fy om (by have:=DG;omega))
theorem mM{x:Nat}(h:x<dL):(nS x).size<=900000:=by
 rw[xo]at h;have k:=DG;have:=gB h om;show(dY x).length<=_;omega
theorem ee.Sz{w:World}{A:Option Addr}{n c x:Nat}(h:ee w A n c x)(hx:x<dL*dL+dL):n<=1000000:=by
 obtain⟨ws,_,hl,_,_,_,hn,rfl⟩:=h;unfold dL at hx;by_cases h0:ws=[]
 ·subst h0;simp at hl;omega
 ·have h1:=lM hn h0;rw[<-PS]at hx;have k:=DG;have h3:1000000000^ri<=1000000000^(ri+ri):=fy om om;have h4:1000000000^(ri+ri)+1000000000^ri<=1000000000^(ri+ri+1):=by
   rw[hL (n:=1000000000) (m:=ri+ri)];generalize 1000000000^(ri+ri)=a at*;generalize 1000000000^ri=b at*;omega
  have h2:=(Fg (a:=1000000000) om).1 (kx h1 (jK hx h4));omega
theorem Jk{x y:Nat}(hx:x<dL)(hy:y<dL):x+y<dL*dL+dL:=by
 have h2:2<=dL:=by rw[xo];exact ga om (fy (n:=10) om (show 1<=9*ri by have:=DG;omega))
 have:dL<=dL*dL:=Nat.le_mul_of_pos_left _ om;omega
theorem Py{x y:Nat}(hx:x<dL)(hy:y<dL):x*y<dL*dL+dL:=by
 have:=Qz hx hy;omega
theorem HU{x y:Nat}(hx:x<dL)(h:y<=x):y<dL*dL+dL:=om

theorem fv{w:World}{f:Nat}{a k:Array Value}{A:Option Addr}{n c x:Nat}(d:cT w)(e:bc Tryz.prog f=true)(hx:x<dL*dL+dL)
  (h:Pure Tryz.prog f (a.toList++([.slice A n c]:List Value)++k.toList).toArray w fun v w'=>∃A n c,v= .slice A n c/\ee w' A n c x):
  Pure Tryz.prog 256 #[.func (.func f) a k,.slice A n c] w fun v _=>v= .tuple #[.string (nS x),.int .i64 0]:=by
 refine F.fv.vc ⟨e,pm h ?_⟩;rintro v g hb ⟨A,n,c,rfl,b⟩;refine⟨_,_,_,rfl,pm (rl (d.next hb) b (b.Sz hx)) ?_⟩;rintro v i _ rfl;exact⟨_,rfl,rfl⟩

theorem tD{w:World}{x y:Nat}(hx:x<dL)(hy:y<dL):
  Pure Tryz.prog 255 #[.string (nS x),.string (nS y)] w fun v w'=>
   ∃A n c A' n' c',v= .tuple #[.slice A n c,.slice A' n' c',.int .i64 0]/\ee w' A n c x/\ee w' A' n' c' y:=by
 refine pm (lJ (mM hx) (mM hy)) ?_;rintro v w' _ (⟨h,_⟩|⟨_,A,n,c,A',n',c',rfl,h1,h2⟩)
 ·exact absurd ⟨oO _,oO _⟩ h
 ·rw[Vx,ke]at h1 h2;exact⟨_,_,_,_,_,_,rfl,h1,h2⟩

theorem lk{w:World}{x y:Nat}(a:cT w)(hx:x<dL)(hy:y<dL):
  Pure Tryz.prog 258 #[.string (nS x),.string (nS y)] w fun v _=>v= .tuple #[.string (nS (x+y)),.int .i64 0]:=by
 refine F.lk.vc (pm (tD hx hy) ?_);rintro v b hb ⟨A,n,c,A',n',c',rfl,h1,h2⟩;refine⟨_,_,_,_,_,_,_,rfl,fun h=>absurd rfl h,fun _=> ?_⟩;refine pm (fv (a.next hb) kF (Jk hx hy) (DH h1 h2 hx hy)) ?_;rintro v d _ rfl;exact⟨_,_,rfl,rfl⟩

theorem iU{w:World}{x y:Nat}(a:cT w)(hx:x<dL)(hy:y<dL):
  Pure Tryz.prog 232 #[.string (nS x),.string (nS y)] w fun v _=>v= .tuple #[.string (nS (x*y)),.int .i64 0]:=by
 refine F.iU.vc (pm (tD hx hy) ?_);rintro v d hb ⟨A,n,c,A',n',c',rfl,h1,h2⟩;refine⟨_,_,_,_,_,_,_,rfl,fun h=>absurd rfl h,fun _=> ?_⟩;refine pm (fv (a.next hb) kF (Py hx hy) (pm (pO h1 h2 hx hy) ?_)) ?_
 ·rintro v b _ ⟨A,n,c,rfl,k,_⟩;exact⟨_,_,_,rfl,k⟩
 ·rintro v b _ rfl;exact⟨_,_,rfl,rfl⟩

theorem nB{w:World}{x y:Nat}(a:cT w)(hx:x<dL)(hy:y<dL):
  Pure Tryz.prog 243 #[.string (nS x),.string (nS y)] w fun v _=>v= .tuple #[.string (nS (Nat.gcd x y)),.int .i64 0]:=by
 refine F.nB.vc (pm (tD hx hy) ?_);rintro v b hb ⟨A,n,c,A',n',c',rfl,h1,h2⟩;refine⟨_,_,_,_,_,_,_,rfl,fun h=>absurd rfl h,fun _=> ?_⟩;have hle:Nat.gcd x y<=x+y:=by
  rcases Nat.eq_zero_or_pos x with h0|h0
  ·subst h0;simp
  ·have:=Qu h0 (NP x y);omega
 refine pm (fv (a.next hb) kF (kx hle (Jk hx hy)) (FC h1 h2 hx hy)) ?_;rintro v d _ rfl;exact⟨_,_,rfl,rfl⟩

theorem ie{w:World}{x y:Nat}(hx:x<dL)(hy:y<dL):
  Pure Tryz.prog 259 #[.string (nS x),.string (nS y)] w fun v _=>v= .tuple #[.int .i64 (eW x y),.int .i64 0]:=by
 refine F.ie.vc (pm (tD hx hy) ?_);rintro v a hb ⟨A,n,c,A',n',c',rfl,h1,h2⟩;refine⟨_,_,_,_,_,_,_,rfl,fun h=>absurd rfl h,fun _=> ?_⟩;refine pm (nO h1 h2 hx hy) ?_;rintro v b _ rfl;exact⟨_,rfl,rfl⟩

theorem ll{w:World}{x y:Nat}(d:cT w)(hx:x<dL)(b:y<=x):
  Pure Tryz.prog 260 #[.string (nS x),.string (nS y)] w fun v _=>v= .tuple #[.string (nS (x - y)),.int .i64 0]:=by
 have hy:y<dL:=kx b hx;refine F.ll.vc (pm (tD hx hy) ?_);rintro v e hb ⟨A,n,c,A',n',c',rfl,h1,h2⟩;refine⟨_,_,_,_,_,_,_,rfl,fun h=>absurd rfl h,fun _=> ?_⟩;refine pm (nO h1 h2 hx hy) ?_;rintro v g a rfl;refine⟨_,rfl,fun h=> ?_,fun _=> ?_⟩
 ·simp only[eW]at h;split at h
  ·omega
  ·split at h<;>omega
 ·refine pm (fv ((d.next hb).next a) kF (HU hx (Nat.sub_le x y)) (BE (h1.below a) (h2.below a) hx b)) ?_;rintro v i _ rfl;exact⟨_,_,rfl,rfl⟩

theorem gA{w:World}{x y:Nat}(k:cT w)(hx:x<dL)(hy:y<dL)(e:y≠0):
  Pure Tryz.prog 313 #[.string (nS x),.string (nS y)] w fun v _=>v= .tuple #[.string (nS (x / y)),.string (nS (x % y)),.int .i64 0]:=by
 refine F.gA.vc (pm (tD hx hy) ?_);rintro v l hb ⟨A,n,c,A',n',c',rfl,h1,h2⟩;refine⟨_,_,_,_,_,_,_,rfl,fun h=>absurd rfl h,fun _=>⟨fun h=> ?_,fun _=> ?_⟩⟩
 ·obtain⟨ws,_,a2,_,_,_,_,rfl⟩:=h2;have:ws=[]:=gz om;subst this;exact absurd rfl e
 ·refine pm (sD h1 h2 hx hy e) ?_;rintro v o b ⟨B,m,d,q,r,z,rfl,g,i⟩;have j:=(k.next hb).next b;refine⟨_,_,_,_,_,_,rfl,pm (rl j g (g.Sz (HU hx (DF x y)))) ?_⟩;rintro v C a rfl;refine⟨_,rfl,pm (rl (j.next a) (i.below a) (i.Sz (HU hx (Nat.mod_le x y)))) ?_⟩;rintro v D _ rfl;exact⟨_,rfl,rfl⟩
end Go.Proofs.YtgfkeadgjkfomaaGreatDoor.B

set_option maxRecDepth 100000
set_option maxHeartbeats 4000000
namespace Go.Proofs.YtgfkeadgjkfomaaGreatDoor.F
open Go Go.RowKit Go.Proofs Go.Proofs.YtgfkeadgjkfomaaGreatDoor.Vc
def fU.cx:Pm:=([],[])
theorem fU.vc{b c:ByteArray}{w:World}{R:Kt}
  (h:(Pure P 197 #[.string b,.string c] w fun o d=>∃e f g i a,o= .tuple #[.agg #[.bool e,.string f],.agg #[.bool g,.string i],.int .i64 a]/\(Br (a≠0) (∀j,Ext w.heap.size [] d j->(R (.tuple #[(.string ⟨#[]⟩),.int .i64 a]) j)) (∀l,Ext w.heap.size [] d l->(Pure P 198 #[.agg #[.bool e,.string f],.agg #[.bool g,.string i]] l fun p q=>∃m n,p= .agg #[.bool m,.string n]/\(Pure P 199 #[.agg #[.bool m,.string n]] q (Rt fun r s=>(R (.tuple #[.string r,.int .i64 0]) s)))))))):
  Pure P 172 #[.string b,.string c] w R:=
 pr fU.cx Tryz.func172 h

def ij.cx:Pm:=([],[])
theorem ij.vc{a b:ByteArray}{w:World}{R:Kt}
  (h:(Pure P 197 #[.string a,.string b] w fun o p=>∃c d e f g,o= .tuple #[.agg #[.bool c,.string d],.agg #[.bool e,.string f],.int .i64 g]/\(∀i,Ext w.heap.size [] p i->(Pure P 201 #[.agg #[.bool e,.string f]] i fun q r=>∃j l,q= .agg #[.bool j,.string l]/\(Pure P 200 #[.agg #[.bool c,.string d],.agg #[.bool j,.string l]] r fun s t=>∃m n,s= .agg #[.bool m,.string n]/\(Pure P 202 #[.agg #[.bool m,.string n]] t (Ri fun u v=>(R (.tuple #[.int .i64 u,.int .i64 g]) v)))))))):
  Pure P 173 #[.string a,.string b] w R:=
 pr ij.cx Tryz.func173 h

def lQ.cx:Pm:=([],[])
theorem lQ.vc{a:ByteArray}{w:World}{R:Kt}
  (h:(Pure P 229 #[.string a] w fun f g=>∃b c d,f= .tuple #[.agg #[.bool b,.string c],.int .i64 d]/\(∀e,Ext w.heap.size [] g e->(Pure P 202 #[.agg #[.bool b,.string c]] e (Ri fun i j=>(R (.tuple #[.int .i64 i,.int .i64 d]) j)))))):
  Pure P 196 #[.string a] w R:=
 pr lQ.cx Tryz.func196 h

def fo.cx:Pm:=([],[])
theorem fo.vc{f g:ByteArray}{w:World}{R:Kt}
  (h:(∀i,Ext w.heap.size [] w i->(Pure P 230 #[.string f] i fun D E=>∃b c j,D= .tuple #[.agg #[.bool b,.string c],.bool j]/\(∀l,Ext w.heap.size [] E l->(Pure P 230 #[.string g] l fun G a=>∃d e m,G= .tuple #[.agg #[.bool d,.string e],.bool m]/\(Br (j=false) (∀n,Ext w.heap.size [] a n->(Pure P 231 #[] n fun H I=>∃o p,H= .agg #[.bool o,.string p]/\(Pure P 231 #[] I fun J K=>∃q r,J= .agg #[.bool q,.string r]/\(∀s,Ext w.heap.size [206] K s->(R (.tuple #[.agg #[.bool o,.string p],.agg #[.bool q,.string r],.int .i64 1]) s))))) (Br (m=false) (∀t,Ext w.heap.size [] a t->(Pure P 231 #[] t fun L M=>∃u v,L= .agg #[.bool u,.string v]/\(Pure P 231 #[] M fun N O=>∃x y,N= .agg #[.bool x,.string y]/\(∀z,Ext w.heap.size [206] O z->(R (.tuple #[.agg #[.bool u,.string v],.agg #[.bool x,.string y],.int .i64 1]) z))))) ((∀A,Ext w.heap.size [206] a A->(R (.tuple #[.agg #[.bool b,.string c],.agg #[.bool d,.string e],.int .i64 0]) A))/\(∀C,Ext w.heap.size [206] a C->(R (.tuple #[.agg #[.bool b,.string c],.agg #[.bool d,.string e],.int .i64 0]) C)))))))))):
  Pure P 197 #[.string f,.string g] w R:=
 pr fo.cx Tryz.func197 h

def iW.cx:Pm:=([],[])
theorem iW.vc{a b:Bool}{c d:ByteArray}{w:World}{R:Kt}
  (h:(∀e,Ext w.heap.size [] w e->(Pure P 232 #[.string c,.string d] e (tv fun j o l=>(Pure P 233 #[(.bool (decide (¬((a:Bool)=b)))),.string j] l fun m n=>∃f g,m= .agg #[.bool f,.string g]/\(∀i,Ext w.heap.size [206] n i->(R (.agg #[.bool f,.string g]) i))))))):
  Pure P 198 #[.agg #[.bool a,.string c],.agg #[.bool b,.string d]] w R:=
 pr iW.cx Tryz.func198 h

def jC.cx:Pm:=([],[])
theorem jC.vc{b:Bool}{a:ByteArray}{w:World}{R:Kt}
  (h:(Bb b (ByteArray.size (⟨#[45]⟩:ByteArray)+ByteArray.size a<=9223372036854775807/\(∀c,Ext w.heap.size [] w c->(R (.string ((⟨#[45]⟩:ByteArray)++a)) c))) (∀d,Ext w.heap.size [] w d->(R (.string a) d)))):
  Pure P 199 #[.agg #[.bool b,.string a]] w R:=
 pr jC.cx Tryz.func199 h

def jD.cx:Pm:=([],[(2,6,1),(2,7,1)])
theorem jD.vc{b a:Bool}{c d:ByteArray}{w:World}{R:Kt}
  (h:(∀i,Ext w.heap.size [] w i->(Pure P 236 #[.bool b] i (Ri fun e j=>((0<=e/\e<2)/\((True/\(e=(0:Int)->(Pure P 236 #[.bool a] j (Ri fun f l=>((0<=f/\f<2)/\((True/\(f=(0:Int)->(Pure P 234 #[.agg #[.bool b,.string c],.agg #[.bool a,.string d]] l fun A C=>∃m n,A= .agg #[.bool m,.string n]/\(∀o,Ext w.heap.size [206] C o->(R (.agg #[.bool m,.string n]) o)))))/\(f=(1:Int)->(Pure P 235 #[.agg #[.bool b,.string c],.agg #[.bool a,.string d]] l fun D E=>∃p q,D= .agg #[.bool p,.string q]/\(∀r,Ext w.heap.size [206] E r->(R (.agg #[.bool p,.string q]) r))))))))))/\(e=(1:Int)->(Pure P 236 #[.bool a] j (Ri fun g s=>((0<=g/\g<2)/\((True/\(g=(0:Int)->(Pure P 235 #[.agg #[.bool b,.string c],.agg #[.bool a,.string d]] s fun G H=>∃t u,G= .agg #[.bool t,.string u]/\(∀v,Ext w.heap.size [206] H v->(R (.agg #[.bool t,.string u]) v)))))/\(g=(1:Int)->(Pure P 234 #[.agg #[.bool b,.string c],.agg #[.bool a,.string d]] s fun I J=>∃x y,I= .agg #[.bool x,.string y]/\(∀z,Ext w.heap.size [206] J z->(R (.agg #[.bool x,.string y]) z))))))))))))))):
  Pure P 200 #[.agg #[.bool b,.string c],.agg #[.bool a,.string d]] w R:=
 pr jD.cx Tryz.func200 h

def gC.cx:Pm:=([],[])
theorem gC.vc{a:Bool}{b:ByteArray}{w:World}{R:Kt}
  (h:(∀c,Ext w.heap.size [] w c->(Pure P 233 #[(.bool (decide (a=false))),.string b] c fun g i=>∃d e,g= .agg #[.bool d,.string e]/\(∀f,Ext w.heap.size [206] i f->(R (.agg #[.bool d,.string e]) f))))):
  Pure P 201 #[.agg #[.bool a,.string b]] w R:=
 pr gC.cx Tryz.func201 h

def jE.cx:Pm:=([],[])
theorem jE.vc{a:Bool}{c:ByteArray}{w:World}{R:Kt}
  (h:(∀d,Ext w.heap.size [] w d->(Pure P 231 #[] d fun g b=>∃e f,g= .agg #[.bool e,.string f]/\(Br (a=e/\c=f/\True) (R (.int .i64 0) b) (Bb a (R (.int .i64 (-1:Int)) b) (R (.int .i64 1) b)))))):
  Pure P 202 #[.agg #[.bool a,.string c]] w R:=
 pr jE.cx Tryz.func202 h

def im.cx:Pm:=([],[])
theorem im.vc{a:ByteArray}{w:World}{R:Kt}
  (h:(Pure P 230 #[.string a] w fun d e=>∃f g b,d= .tuple #[.agg #[.bool f,.string g],.bool b]/\(∀c,Ext w.heap.size [] e c->(R (.bool b) c)))):
  Pure P 212 #[.string a] w R:=
 pr im.cx Tryz.func212 h

def iX.cx:Pm:=([],[])
theorem iX.vc{a:ByteArray}{w:World}{R:Kt}
  (h:(∀b,Ext w.heap.size [] w b->(Pure P 197 #[.string a,(.string ⟨#[48]⟩)] b fun g i=>∃c d j l e,g= .tuple #[.agg #[.bool c,.string d],.agg #[.bool j,.string l],.int .i64 e]/\(∀f,Ext w.heap.size [206] i f->(R (.tuple #[.agg #[.bool c,.string d],.int .i64 e]) f))))):
  Pure P 229 #[.string a] w R:=
 pr iX.cx Tryz.func229 h

def jm.cx:Pm:=([],[])
theorem jm.vc{d:ByteArray}{w:World}{R:Kt}
  (h:(∀e,Ext w.heap.size [] w e->(Pure P 254 #[.string d,(.string ⟨#[45]⟩)] e fun m n=>∃a b,m= .tuple #[.string a,.bool b]/\(∀f,Ext w.heap.size [] n f->(Pure P 213 #[.string a] f (Rb fun o c=>(Bb o ((∀g,Ext w.heap.size [206] c g->(R (.tuple #[.agg #[.bool b,.string a],(.bool (decide (¬(b=true/\a=(⟨#[48]⟩:ByteArray)/\True))))]) g))/\(∀i,Ext w.heap.size [206] c i->(R (.tuple #[.agg #[.bool b,.string a],(.bool (decide (¬(b=true/\a=(⟨#[48]⟩:ByteArray)/\True))))]) i))) ((∀j,Ext w.heap.size [206] c j->(R (.tuple #[.agg #[.bool b,.string a],.bool false]) j))/\(∀l,Ext w.heap.size [206] c l->(R (.tuple #[.agg #[.bool b,.string a],.bool false]) l)))))))))):
  Pure P 230 #[.string d] w R:=
 pr jm.cx Tryz.func230 h

def jn.cx:Pm:=([],[])
theorem jn.vc{w:World}{R:Kt}
  (h:(∀a,Ext w.heap.size [] w a->(R (.agg #[.bool false,(.string ⟨#[48]⟩)]) a))):
  Pure P 231 #[] w R:=
 pr jn.cx Tryz.func231 h

def dK.cx:Pm:=([],[])
theorem dK.vc{b:Bool}{a:ByteArray}{w:World}{R:Kt}
  (h:(Bb b (∀c,Ext w.heap.size [] w c->(R (.agg #[(.bool (decide (a≠(⟨#[48]⟩:ByteArray)))),.string a]) c)) (∀d,Ext w.heap.size [] w d->(R (.agg #[.bool false,.string a]) d)))):
  Pure P 233 #[.bool b,.string a] w R:=
 pr dK.cx Tryz.func233 h

def ln.cx:Pm:=([],[])
theorem ln.vc{a i:Bool}{b c:ByteArray}{w:World}{R:Kt}
  (h:(∀d,Ext w.heap.size [] w d->(Pure P 258 #[.string b,.string c] d (tv fun j o l=>(Pure P 233 #[.bool a,.string j] l fun m n=>∃e f,m= .agg #[.bool e,.string f]/\(∀g,Ext w.heap.size [206] n g->(R (.agg #[.bool e,.string f]) g))))))):
  Pure P 234 #[.agg #[.bool a,.string b],.agg #[.bool i,.string c]] w R:=
 pr ln.cx Tryz.func234 h

def bW.J4(a:Bool)(b:ByteArray)(c:Bool)(d:ByteArray)(e:Bool)(f:ByteArray):=Jt 235 Tryz.f235 4 [(2,.loc 2 0),(3,.loc 3 0),(4,.loc 4 0)] [⟨2,false,206,[(.bool a),(.string b)]⟩,⟨3,false,206,[(.bool c),(.string d)]⟩,⟨4,false,206,[(.bool e),(.string f)]⟩]
def bW.cx:Pm:=([((false,4),[2,3,4],[2,3,4])],[])
theorem bW.J4.step{a g i:Bool}{b c j:ByteArray}{B:Nat}{w:World}{R:Kt}
  (h:(Pure P 260 #[.string b,.string c] w (tv fun l p m=>(Pure P 233 #[.bool a,.string l] m fun n o=>∃d e,n= .agg #[.bool d,.string e]/\(∀f,Ext B [206] o f->(R (.agg #[.bool d,.string e]) f)))))):
  bW.J4 a b g c i j B w R:=
 jr bW.cx Tryz.func235 h
theorem bW.vc{c d:Bool}{a b:ByteArray}{w:World}{R:Kt}
  (h:(∀e,Ext w.heap.size [] w e->(Pure P 259 #[.string a,.string b] e (Rii fun i j f=>(Br (i<0) (∀g,Ext w.heap.size [206] f g->(bW.J4 d b c a false (⟨#[]⟩:ByteArray) w.heap.size g R)) (bW.J4 c a d b false (⟨#[]⟩:ByteArray) w.heap.size f R)))))):
  Pure P 235 #[.agg #[.bool c,.string a],.agg #[.bool d,.string b]] w R:=
 pr bW.cx Tryz.func235 h

def iY.cx:Pm:=([],[])
theorem iY.vc{a:Bool}{w:World}{R:Kt}
  (h:(Bb a (R (.int .i64 1) w) (R (.int .i64 0) w))):
  Pure P 236 #[.bool a] w R:=
 pr iY.cx Tryz.func236 h

def nD.cx:Pm:=([],[])
theorem nD.vc{b:ByteArray}{w:World}{R:Kt}
  (h:(Pure P 229 #[.string b] w fun g c=>∃i d a,g= .tuple #[.agg #[.bool i,.string d],.int .i64 a]/\(Br (a≠0) (∀e,Ext w.heap.size [] c e->(R (.tuple #[(.string ⟨#[]⟩),.int .i64 a]) e)) (∀f,Ext w.heap.size [] c f->(R (.tuple #[.string d,.int .i64 0]) f))))):
  Pure P 242 #[.string b] w R:=
 pr nD.cx Tryz.func242 h

def nE.cx:Pm:=([],[])
theorem nE.vc{b c:ByteArray}{w:World}{R:Kt}
  (h:(Pure P 197 #[.string b,.string c] w fun o d=>∃e f g i a,o= .tuple #[.agg #[.bool e,.string f],.agg #[.bool g,.string i],.int .i64 a]/\(Br (a≠0) (∀j,Ext w.heap.size [] d j->(R (.tuple #[(.string ⟨#[]⟩),.int .i64 a]) j)) (∀l,Ext w.heap.size [] d l->(Pure P 200 #[.agg #[.bool e,.string f],.agg #[.bool g,.string i]] l fun p q=>∃m n,p= .agg #[.bool m,.string n]/\(Pure P 199 #[.agg #[.bool m,.string n]] q (Rt fun r s=>(R (.tuple #[.string r,.int .i64 0]) s)))))))):
  Pure P 293 #[.string b,.string c] w R:=
 pr nE.cx Tryz.func293 h

def nF.cx:Pm:=([],[])
theorem nF.vc{b:ByteArray}{w:World}{R:Kt}
  (h:(Pure P 229 #[.string b] w fun l c=>∃d e a,l= .tuple #[.agg #[.bool d,.string e],.int .i64 a]/\(Br (a≠0) (∀f,Ext w.heap.size [] c f->(R (.tuple #[(.string ⟨#[]⟩),.int .i64 a]) f)) (∀g,Ext w.heap.size [] c g->(Pure P 201 #[.agg #[.bool d,.string e]] g fun m n=>∃i j,m= .agg #[.bool i,.string j]/\(Pure P 199 #[.agg #[.bool i,.string j]] n (Rt fun o p=>(R (.tuple #[.string o,.int .i64 0]) p)))))))):
  Pure P 295 #[.string b] w R:=
 pr nF.cx Tryz.func295 h

def iZ.cx:Pm:=([],[])
theorem iZ.vc{d e:ByteArray}{w:World}{R:Kt}
  (h:(Pure P 197 #[.string d,.string e] w fun u f=>∃g i a b c,u= .tuple #[.agg #[.bool g,.string i],.agg #[.bool a,.string b],.int .i64 c]/\(Br (c≠0) (∀j,Ext w.heap.size [] f j->(R (.tuple #[(.string ⟨#[]⟩),(.string ⟨#[]⟩),.int .i64 c]) j)) (∀l,Ext w.heap.size [] f l->(Pure P 231 #[] l fun v m=>∃n o,v= .agg #[.bool n,.string o]/\(Br (a=n/\b=o/\True) (R (.tuple #[(.string ⟨#[]⟩),(.string ⟨#[]⟩),.int .i64 16]) m) (Pure P 325 #[.agg #[.bool g,.string i],.agg #[.bool a,.string b]] m fun x y=>∃p q r s,x= .tuple #[.agg #[.bool p,.string q],.agg #[.bool r,.string s]]/\(∀t,Ext w.heap.size [] y t->(Pure P 199 #[.agg #[.bool p,.string q]] t (Rt fun z A=>(Pure P 199 #[.agg #[.bool r,.string s]] A (Rt fun C D=>(R (.tuple #[.string z,.string C,.int .i64 0]) D))))))))))))):
  Pure P 312 #[.string d,.string e] w R:=
 pr iZ.cx Tryz.func312 h

def iB.cx:Pm:=([],[])
theorem iB.vc{a c:Bool}{g e:ByteArray}{w:World}{R:Kt}
  (h:(∀i,Ext w.heap.size [] w i->(Pure P 313 #[.string g,.string e] i fun A f=>∃d b C,A= .tuple #[.string d,.string b,.int .i64 C]/\(Bb a (Br (b≠(⟨#[48]⟩:ByteArray)) (Pure P 258 #[.string d,(.string ⟨#[49]⟩)] f (tv fun D X E=>(Pure P 260 #[.string e,.string b] E (tv fun G Y H=>(Pure P 233 #[(.bool (decide (¬((a:Bool)=c)))),.string D] H fun I J=>∃j l,I= .agg #[.bool j,.string l]/\(Pure P 233 #[.bool false,.string G] J fun K L=>∃m n,K= .agg #[.bool m,.string n]/\(∀o,Ext w.heap.size [206] L o->(R (.tuple #[.agg #[.bool j,.string l],.agg #[.bool m,.string n]]) o)))))))) (Pure P 233 #[(.bool (decide (¬((a:Bool)=c)))),.string d] f fun M N=>∃p q,M= .agg #[.bool p,.string q]/\(Pure P 233 #[.bool false,.string b] N fun O Q=>∃r s,O= .agg #[.bool r,.string s]/\(∀t,Ext w.heap.size [206] Q t->(R (.tuple #[.agg #[.bool p,.string q],.agg #[.bool r,.string s]]) t))))) (Pure P 233 #[(.bool (decide (¬((a:Bool)=c)))),.string d] f fun S T=>∃u v,S= .agg #[.bool u,.string v]/\(Pure P 233 #[.bool false,.string b] T fun U V=>∃x y,U= .agg #[.bool x,.string y]/\(∀z,Ext w.heap.size [206] V z->(R (.tuple #[.agg #[.bool u,.string v],.agg #[.bool x,.string y]]) z)))))))):
  Pure P 325 #[.agg #[.bool a,.string g],.agg #[.bool c,.string e]] w R:=
 pr iB.cx Tryz.func325 h

end Go.Proofs.YtgfkeadgjkfomaaGreatDoor.F

namespace Go.Proofs.YtgfkeadgjkfomaaGreatDoor.B
open Go Go.RowKit Go.Proofs Go.Proofs.YtgfkeadgjkfomaaGreatDoor.Vc

theorem kE{w a b:World}{ts:List Nat}(h:Below w.heap.size w a)(e:Ext w.heap.size ts a b):Below w.heap.size w b:=h.trans e.below
theorem kP{w a b:World}(h:Below w.heap.size w a)(k:Below a.heap.size a b):Below w.heap.size w b:=h.trans (k.mono h.size)
theorem k0{w b:World}{ts:List Nat}(e:Ext w.heap.size ts w b):Below w.heap.size w b:=e.below

abbrev iV(z:Int):Value:= .agg #[.bool (decide (z<0)),.string (nS z.natAbs)]

theorem jn(w:World):Pure Tryz.prog 231 #[] w fun v _=>v=iV 0:=by
 refine F.jn.vc fun w1 _=> ?_
 rw[JZ];rfl

theorem dK(neg:Bool)(n:Nat)(w:World):Pure Tryz.prog 233 #[.bool neg,.string (nS n)] w fun v _=>v=iV (if neg then -(n:Int)else n):=by
 refine F.dK.vc ⟨fun h w1 _=> ?_,fun h w1 _=> ?_⟩
 ·subst h;rw[JZ];simp only[AM,iV]
  congr 3
  ·by_cases h0:n=0
   ·subst h0;simp
   ·have h1:nS n≠nS 0:=fun k=>h0 (sL k)
    simp[h1];omega
  ·simp
 ·subst h;have h2:¬(n:Int)<0:=om;simp[iV,h2]

theorem qz(z:Int)(w:World):Pure Tryz.prog 201 #[iV z] w fun v _=>v=iV (-z):=by
 refine F.gC.vc fun w1 _=> ?_
 refine pm (dK _ _ _) ?_;rintro v a _ rfl;refine⟨_,_,rfl,fun b _=> ?_⟩;have e:(if decide (decide (z<0)=false)=true then -((z.natAbs:Nat):Int)else(z.natAbs:Int))= -z:=by
  by_cases h:z<0
  ·simp[h];omega
  ·simp[h];omega
 rw[e]

theorem wj(z:Int)(w:World):Pure Tryz.prog 202 #[iV z] w fun v _=>v= .int .i64 z.sign:=by
 refine F.jE.vc fun w1 _=>pm (jn _) ?_
 rintro v a _ rfl;refine⟨_,_,rfl,fun h=> ?_,fun h=>⟨fun h1=> ?_,fun h1=> ?_⟩⟩
 ·have:z.natAbs=0:=sL h.2.1;have:z=0:=om;subst this;rfl
 ·have:z<0:=by simpa using h1
  rw[DB this]
 ·have h2:¬z<0:=by simpa using h1
  have:z≠0:=fun k=>by subst k;exact h ⟨sm,rfl,trivial⟩
  rw[HM om]

theorem Pz(c:UInt8)(l:Tx):(⟨#[c]⟩:ByteArray)++st l=st (c::l):=by
 apply ss;simp[bM,st,IJ]
theorem lR{z:Int}(h:z.natAbs<dL)(w:World):Pure Tryz.prog 199 #[iV z] w fun v _=>v= .string (iS z):=by
 have hs:=mM h;refine F.jC.vc ⟨fun h=>⟨by show 1+(nS z.natAbs).size<=_;omega,fun w1 _=> ?_⟩,fun h w1 _=> ?_⟩
 ·have h1:z<0:=by simpa using h
  have e:iS z=st (45::dY z.natAbs):=by unfold iS;rw[kC,cc h1]
  rw[e,<-Pz];rfl
 ·have h1:¬z<0:=by simpa using h
  have e:iS z=nS z.natAbs:=by unfold iS nS;rw[kC,ar h1]
  rw[e]

theorem ln{w:World}{x y:Int}(a:cT w)(hx:x.natAbs<dL)(hy:y.natAbs<dL):
  Pure Tryz.prog 234 #[iV x,iV y] w fun v _=>v=iV (if x<0 then -((x.natAbs+y.natAbs:Nat):Int)else((x.natAbs+y.natAbs:Nat):Int)):=by
 refine F.ln.vc fun w1 b=>pm (lk (a.next (k0 b)) hx hy) ?_
 rintro v c _ rfl;refine⟨_,_,rfl,pm (dK _ _ _) ?_⟩;rintro v d _ rfl;refine⟨_,_,rfl,fun e _=> ?_⟩;simp

theorem sM{w0:World}{x y:Int}(d:cT w0){a b:Bool}{s t:ByteArray}{R:Value->World->Prop}(hx:x.natAbs<dL)(e:y.natAbs<=x.natAbs){w:World}{c:Bool}{r:ByteArray}(hb:Below w0.heap.size w0 w)
  (g:∀w,R (iV (if x<0 then -((x.natAbs - y.natAbs:Nat):Int)else((x.natAbs - y.natAbs:Nat):Int))) w):
  F.bW.J4 (decide (x<0)) (nS x.natAbs) (decide (y<0)) (nS y.natAbs) c r w0.heap.size w R:=by
 refine F.bW.J4.step (pm (ll (d.next hb) hx e) ?_);rintro v i _ rfl;refine⟨_,_,rfl,pm (dK _ _ _) ?_⟩;rintro v j _ rfl;refine⟨_,_,rfl,fun h _=> ?_⟩;have:=g h;simpa using this

theorem bW{w:World}{x y:Int}(e:cT w)(hx:x.natAbs<dL)(hy:y.natAbs<dL)(hs:(x<0/\0<=y)∨(0<=x/\y<0)):
  Pure Tryz.prog 235 #[iV x,iV y] w fun v _=>v=iV (x+y):=by
 refine F.bW.vc fun w1 g=>pm (ie hx hy) ?_
 rintro v j d rfl;refine⟨_,_,rfl,fun h k i=> ?_,fun h=> ?_⟩
 ·have c:x.natAbs<y.natAbs:=by
   simp only[eW]at h;split at h
   ·omega
   ·split at h<;>omega
  refine sM (a:=false) (b:=false) (s:=⟨#[]⟩) (t:=⟨#[]⟩) e hy (Nat.le_of_lt c) (kE (kP (k0 g) d) i) fun w=> ?_
  congr 1
  split<;>omega
 ·have c:y.natAbs<=x.natAbs:=by
   simp only[eW]at h;split at h<;>omega
  refine sM (a:=false) (b:=false) (s:=⟨#[]⟩) (t:=⟨#[]⟩) e hx c (kP (k0 g) d) fun w=> ?_
  congr 1
  split<;>omega

theorem iY(b:Bool)(w:World):Pure Tryz.prog 236 #[.bool b] w fun v _=>v= .int .i64 (if b then 1 else 0):=by
 refine F.iY.vc ⟨fun h=> ?_,fun h=> ?_⟩<;>subst h<;>rfl

theorem wm{w:World}{x y:Int}(i:cT w)(hx:x.natAbs<dL)(hy:y.natAbs<dL):
  Pure Tryz.prog 200 #[iV x,iV y] w fun v _=>v=iV (x+y):=by
 refine F.jD.vc fun w1 j=>pm (iY _ _) ?_
 rintro v l c rfl;have hb:=kP (k0 j) c;refine⟨_,rfl,by split<;>omega,⟨trivial,fun h1=>pm (iY _ _) ?_⟩,fun h1=>pm (iY _ _) ?_⟩
 all_goals
  rintro v m d rfl;have b:=i.next (kP hb d);refine⟨_,rfl,by split<;>omega,⟨trivial,fun h2=> ?_⟩,fun h2=> ?_⟩
 ·have a:¬x<0:=fun k=>by simp[k]at h1
  have e:¬y<0:=fun k=>by simp[k]at h2
  refine pm (ln b hx hy) ?_;rintro v g _ rfl;refine⟨_,_,rfl,fun h _=> ?_⟩;rw[ar a];show iV _=iV _
  congr 1
  omega
 ·have a:¬x<0:=fun k=>by simp[k]at h1
  have e:y<0:=by apply ea;intro k;simp[k]at h2
  refine pm (bW b hx hy om) ?_;rintro v g _ rfl;exact⟨_,_,rfl,fun h _=>rfl⟩
 ·have a:x<0:=by apply ea;intro k;simp[k]at h1
  have e:¬y<0:=fun k=>by simp[k]at h2
  refine pm (bW b hx hy om) ?_;rintro v g _ rfl;exact⟨_,_,rfl,fun h _=>rfl⟩
 ·have a:x<0:=by apply ea;intro k;simp[k]at h1
  have e:y<0:=by apply ea;intro k;simp[k]at h2
  refine pm (ln b hx hy) ?_;rintro v g _ rfl;refine⟨_,_,rfl,fun h _=> ?_⟩;rw[cc a];show iV _=iV _
  congr 1
  omega

theorem MD(x y:Int):(if decide (¬(decide (x<0)=decide (y<0)))=true then -((x.natAbs*y.natAbs:Nat):Int)else((x.natAbs*y.natAbs:Nat):Int))=x*y:=by
 have e:(x*y).natAbs=x.natAbs*y.natAbs:=og x y;rw[<-e];rcases Int.lt_or_le x 0 with hx|hx<;>rcases Int.lt_or_le y 0 with hy|hy
 ·have:=Int.mul_nonneg_of_nonpos_of_nonpos (Q1 hx) (Q1 hy);simp[hx,hy];omega
 ·have:=MG (Q1 hx) hy;simp[hx,RQ.2 hy];omega
 ·have:=MX hx (Q1 hy);simp[hy,RQ.2 hx];omega
 ·have:=RB hx hy;simp[RQ.2 hx,RQ.2 hy];omega

theorem BJ{w:World}{x y:Int}(a:cT w)(hx:x.natAbs<dL)(hy:y.natAbs<dL):
  Pure Tryz.prog 198 #[iV x,iV y] w fun v _=>v=iV (x*y):=by
 refine F.iW.vc fun w1 b=>pm (iU (a.next (k0 b)) hx hy) ?_
 rintro v c _ rfl;refine⟨_,_,rfl,pm (dK _ _ _) ?_⟩;rintro v d _ rfl;refine⟨_,_,rfl,fun e _=> ?_⟩;rw[MD]

theorem ME(s:ByteArray)(w:World):
  Pure Tryz.prog 254 #[.string s,.string ⟨#[45]⟩] w fun v _=>v= .tuple #[.string (if(bM s).head? =some 45 then st (bM s).tail else s),.bool (decide ((bM s).head? =some 45))]:=by
 refine Calls.mono (Tryz.strings_CutPrefix s ⟨#[45]⟩ w) ?_;rintro e w' ⟨rfl,rfl⟩;refine⟨_,rfl,Below.refl _ _,?_⟩;have h1:Lib.hasPrefix s.data.toList [45]=decide ((bM s).head? =some 45):=by
  show List.isPrefixOf [45] (bM s)=_;cases bM s with
  |nil=>rfl
  |cons c r=>
   by_cases h:c=45
   ·subst h;simp[List.isPrefixOf]
   ·have h2:(45==c)=false:=by simpa using fun k=>h k.symm
    simp[List.isPrefixOf,h,h2]
 have h2:(⟨(Lib.trimPrefix s.data.toList [45]).toArray⟩:ByteArray)=if(bM s).head? =some 45 then st (bM s).tail else s:=by
  unfold Lib.trimPrefix;rw[h1];by_cases h:(bM s).head? =some 45
  ·simp only[h,decide_true,AM];show st ((bM s).drop 1)=st (bM s).tail;rw[List.drop_one]
  ·simp only[h,decide_false,tm];rfl
 rw[<-h1,<-h2]

theorem jm(s:ByteArray)(hs:s.size<2147483648)(w:World):
  Pure Tryz.prog 230 #[.string s] w fun v _=>∃b t,v= .tuple #[.agg #[.bool b,.string t],.bool (isInt (bM s))]/\(isInt (bM s)=true->b=decide (gk (bM s)<0)/\t=nS (gk (bM s)).natAbs):=by
 refine F.jm.vc fun w1 _=>pm (ME s _) ?_
 rintro v m _ rfl;refine⟨_,_,rfl,fun n _=> ?_⟩;obtain⟨t,c⟩:∃t,t=(if(bM s).head? =some 45 then st (bM s).tail else s):=⟨_,rfl⟩
 rw[<-c];have i:t.size<2147483648:=by
  rw[c];split
  ·have:(st (bM s).tail).size=(bM s).tail.length:=rfl;have:=dn s;simp at*;omega
  ·exact hs
 refine pm (cF t i _) ?_;rintro v o _ rfl;have j:isNat (bM t)=true->cX (bM t)=(gk (bM s)).natAbs/\t=nS (gk (bM s)).natAbs:=by
  intro hn;have e:cX (bM t)=(gk (bM s)).natAbs:=by
   rw[c];unfold gk;split
   ·simp[nU]
   ·simp
  refine⟨e,?_⟩;rw[<-e];exact(by rw[<-LU t];unfold nS;rw[nU,kB hn]:t=nS (cX (bM t)))
 have l:isInt (bM s)=true->decide ((bM s).head? =some 45)=decide (gk (bM s)<0):=by
  intro hi;have e:=pA hi
  conv=>lhs;rw[<-e]
  rw[kC];split
  ·rename_i k;simp[k]
  ·rename_i k;simp[k,sG]
 have d:isInt (bM s)=(isNat (bM t)&&decide (¬(decide ((bM s).head? =some 45)=true/\t=(⟨#[48]⟩:ByteArray)/\True))):=by
  unfold isInt;by_cases h:(bM s).head? =some 45
  ·have g:t=st (bM s).tail:=by rw[c,cc h]
   rw[cc h,g,nU]
   congr 1
   by_cases h3:(bM s).tail=[48]
   ·simp[h,h3];rfl
   ·have:st (bM s).tail≠(⟨#[48]⟩:ByteArray):=fun k=>h3 (zA (k.trans rfl:st (bM s).tail=st [48]))
    simp[h,h3,this]
  ·have g:t=s:=by rw[c,ar h]
   rw[ar h,g];simp[h]
 refine⟨_,rfl,fun h=> ?_,fun h=> ?_⟩
 ·rw[h,lI]at d;have fin:∀w',(fun v (_:World)=>∃b t,v=Value.tuple #[.agg #[.bool b,.string t],.bool (isInt (bM s))]/\(isInt (bM s)=true->b=decide (gk (bM s)<0)/\t=nS (gk (bM s)).natAbs)) (.tuple #[(.agg #[(.bool (decide ((bM s).head? =some 45))),(.string t)]),(.bool (decide (¬(decide ((bM s).head? =some 45)=true/\t=(⟨#[48]⟩:ByteArray)/\True))))]) w':=
   fun w'=>⟨_,_,by rw[d],fun hi=>⟨l hi,(j h).2⟩⟩
  exact⟨fun a _=>fin a,fun a _=>fin a⟩
 ·rw[h,nZ]at d;have fin:∀w',(fun v (_:World)=>∃b t,v=Value.tuple #[.agg #[.bool b,.string t],.bool (isInt (bM s))]/\(isInt (bM s)=true->b=decide (gk (bM s)<0)/\t=nS (gk (bM s)).natAbs)) (.tuple #[(.agg #[(.bool (decide ((bM s).head? =some 45))),(.string t)]),(.bool false)]) w':=
   fun w'=>⟨_,_,by rw[d],fun hi=>by rw[d]at hi;cases hi⟩
  exact⟨fun a _=>fin a,fun a _=>fin a⟩

theorem zM{z:Int}(h:z.natAbs<dL):(iS z).size<2147483648:=by
 rw[xo]at h;have k:=DG;have:=lP h om;show(kj z).length<_;omega
theorem rG{z:Int}(h:z.natAbs<dL)(w:World):Pure Tryz.prog 230 #[.string (iS z)] w fun v _=>v= .tuple #[iV z,.bool true]:=by
 refine pm (jm _ (zM h) w) ?_;rintro v a _ ⟨b,t,rfl,hv⟩;rw[Vy,uZ,qx]at*;obtain⟨rfl,rfl⟩:=hv rfl;rfl
theorem im(s:ByteArray)(hs:s.size<2147483648)(w:World):Pure Tryz.prog 212 #[.string s] w fun v _=>v= .bool (isInt (bM s)):=by
 refine F.im.vc (pm (jm s hs w) ?_);rintro v a _ ⟨b,t,rfl,_⟩;exact⟨_,_,_,rfl,fun c _=>rfl⟩

theorem fo{x y:Int}(hx:x.natAbs<dL)(hy:y.natAbs<dL)(w:World):
  Pure Tryz.prog 197 #[.string (iS x),.string (iS y)] w fun v _=>v= .tuple #[iV x,iV y,.int .i64 0]:=by
 refine F.fo.vc fun w1 _=>pm (rG hx _) ?_
 rintro v b _ rfl;refine⟨_,_,_,rfl,fun c _=>pm (rG hy _) ?_⟩;rintro v d _ rfl;exact⟨_,_,_,rfl,fun h=>by simp at h,fun _=>⟨fun h=>by simp at h,fun _=>⟨fun a _=>rfl,fun a _=>rfl⟩⟩⟩
theorem PA:0<dL:=by rw[xo];exact EG om
theorem iX{x:Int}(hx:x.natAbs<dL)(w:World):
  Pure Tryz.prog 229 #[.string (iS x)] w fun v _=>v= .tuple #[iV x,.int .i64 0]:=by
 refine F.iX.vc fun w1 _=> ?_
 rw[Vz];refine pm (fo hx (by simpa using PA) _) ?_;rintro v a _ rfl;exact⟨_,_,_,_,_,rfl,fun b _=>rfl⟩
theorem lQ{x:Int}(hx:x.natAbs<dL)(w:World):
  Pure Tryz.prog 196 #[.string (iS x)] w fun v _=>v= .tuple #[.int .i64 x.sign,.int .i64 0]:=by
 refine F.lQ.vc (pm (iX hx w) ?_);rintro v a _ rfl;refine⟨_,_,_,rfl,fun b _=>pm (wj _ _) ?_⟩;rintro v c _ rfl;exact⟨_,rfl,rfl⟩
theorem nD{x:Int}(hx:x.natAbs<dL)(w:World):
  Pure Tryz.prog 242 #[.string (iS x)] w fun v _=>v= .tuple #[.string (nS x.natAbs),.int .i64 0]:=by
 refine F.nD.vc (pm (iX hx w) ?_);rintro v a _ rfl;exact⟨_,_,_,rfl,fun h=>absurd rfl h,fun _ b _=>rfl⟩
theorem nF{x:Int}(hx:x.natAbs<dL)(w:World):
  Pure Tryz.prog 295 #[.string (iS x)] w fun v _=>v= .tuple #[.string (iS (-x)),.int .i64 0]:=by
 refine F.nF.vc (pm (iX hx w) ?_);rintro v a _ rfl;refine⟨_,_,_,rfl,fun h=>absurd rfl h,fun _ b _=>pm (qz _ _) ?_⟩;rintro v c _ rfl;refine⟨_,_,rfl,pm (lR (by rw[Kf];exact hx) _) ?_⟩;rintro v d _ rfl;exact⟨_,rfl,rfl⟩
theorem nE{w:World}{x y:Int}(b:cT w)(hx:x.natAbs<dL)(hy:y.natAbs<dL)(c:(x+y).natAbs<dL):
  Pure Tryz.prog 293 #[.string (iS x),.string (iS y)] w fun v _=>v= .tuple #[.string (iS (x+y)),.int .i64 0]:=by
 refine F.nE.vc (pm (fo hx hy w) ?_);rintro v e a rfl;refine⟨_,_,_,_,_,rfl,fun h=>absurd rfl h,fun _ g d=>pm (wm (b.next (kE a d)) hx hy) ?_⟩;rintro v i _ rfl;refine⟨_,_,rfl,pm (lR c _) ?_⟩;rintro v j _ rfl;exact⟨_,rfl,rfl⟩
theorem fU{w:World}{x y:Int}(b:cT w)(hx:x.natAbs<dL)(hy:y.natAbs<dL)(c:(x*y).natAbs<dL):
  Pure Tryz.prog 172 #[.string (iS x),.string (iS y)] w fun v _=>v= .tuple #[.string (iS (x*y)),.int .i64 0]:=by
 refine F.fU.vc (pm (fo hx hy w) ?_);rintro v e a rfl;refine⟨_,_,_,_,_,rfl,fun h=>absurd rfl h,fun _ g d=>pm (BJ (b.next (kE a d)) hx hy) ?_⟩;rintro v i _ rfl;refine⟨_,_,rfl,pm (lR c _) ?_⟩;rintro v j _ rfl;exact⟨_,rfl,rfl⟩
theorem ij{w:World}{x y:Int}(c:cT w)(hx:x.natAbs<dL)(hy:y.natAbs<dL):
  Pure Tryz.prog 173 #[.string (iS x),.string (iS y)] w fun v _=>v= .tuple #[.int .i64 (x - y).sign,.int .i64 0]:=by
 refine F.ij.vc (pm (fo hx hy w) ?_);rintro v e a rfl;refine⟨_,_,_,_,_,rfl,fun g d=>pm (qz _ _) ?_⟩;rintro v h b rfl;refine⟨_,_,rfl,pm (wm (c.next (kP (kE a d) b)) hx (by rw[Kf];exact hy)) ?_⟩;rintro v i _ rfl;refine⟨_,_,rfl,pm (wj _ _) ?_⟩;rintro v j _ rfl;refine⟨_,rfl,?_⟩;rw[Int.sub_eq_add_neg]

theorem zN{w:World}{x:Int}{d:Nat}(g:cT w)(hx:x.natAbs<dL)(z:d<dL)(E:d≠0):
  Pure Tryz.prog 325 #[iV x,iV (d:Int)] w fun v _=>v= .tuple #[iV (x / (d:Int)),iV (x % (d:Int))]:=by
 have G:decide ((d:Int)<0)=false:=by simp
 have H:((d:Int)).natAbs=d:=by simp
 have i:(0:Int)<(d:Int):=om;refine F.iB.vc fun w1 A=> ?_
 rw[H];refine pm (gA (g.next (k0 A)) hx z E) ?_;rintro v N j rfl;have hb:=kP (k0 A) j;have hm:=u0 x.natAbs (show 0<d by omega);have I:=ta x.natAbs d;obtain⟨q,l⟩:∃q,q=x.natAbs / d:=⟨_,rfl⟩
 obtain⟨r,m⟩:∃r,r=x.natAbs % d:=⟨_,rfl⟩
 rw[<-l,<-m]at I;rw[<-m]at hm;have J:q<=x.natAbs:=by rw[l];exact DF _ _
 rw[<-l,<-m];have K:((d*q:Nat):Int)=(d:Int)*(q:Int):=by simp
 have pos:0<=x->x / (d:Int)=(q:Int)/\x % (d:Int)=(r:Int):=fun h=>by
  rw[OF i];omega
 have L:x<0->r=0->x / (d:Int)= -(q:Int)/\x % (d:Int)=(r:Int):=fun h h2=>by
  rw[OF i,Int.mul_neg];omega
 have M:x<0->r≠0->x / (d:Int)= -((q+1:Nat):Int)/\x % (d:Int)=((d - r:Nat):Int):=fun h h2=>by
  have e:(d:Int)*((q+1:Nat):Int)=(d:Int)*(q:Int)+d:=gD;rw[OF i,Int.mul_neg,e];omega
 refine⟨_,_,_,rfl,fun h=>⟨fun h1=> ?_,fun h1=> ?_⟩,fun h=> ?_⟩
 ·have a:x<0:=by simpa using h
  have o:r≠0:=fun k=>by rw[k,JZ]at h1;exact h1 rfl
  obtain⟨b,c⟩:=M a o;rw[FJ];refine pm (lk (g.next hb) (kx J hx) ?_) ?_
  ·rw[xo];exact jK om (fy (n:=10) om (show 1<=9*ri by have:=DG;omega))
  rintro v O y rfl;refine⟨_,_,rfl,pm (ll (g.next (kP hb y)) z (Nat.le_of_lt hm)) ?_⟩;rintro v P _ rfl;refine⟨_,_,rfl,pm (dK _ _ _) ?_⟩;rintro v B _ rfl;refine⟨_,_,rfl,pm (dK _ _ _) ?_⟩;rintro v C _ rfl;refine⟨_,_,rfl,fun D _=> ?_⟩;rw[b,c];simp[a]
 ·have a:x<0:=by simpa using h
  have o:r=0:=by
   apply ea;intro k;rw[JZ]at h1;exact h1 fun e=>k (sL e)
  obtain⟨b,c⟩:=L a o;refine pm (dK _ _ _) ?_;rintro v B _ rfl;refine⟨_,_,rfl,pm (dK _ _ _) ?_⟩;rintro v C _ rfl;refine⟨_,_,rfl,fun D _=> ?_⟩;rw[b,c];simp[a]
 ·have a:¬x<0:=by simpa using h
  obtain⟨b,c⟩:=pos om;refine pm (dK _ _ _) ?_;rintro v B _ rfl;refine⟨_,_,rfl,pm (dK _ _ _) ?_⟩;rintro v C _ rfl;refine⟨_,_,rfl,fun D _=> ?_⟩;rw[b,c];simp[a]

theorem zO(x:Int)(d:Nat):(x / (d:Int)).natAbs<=x.natAbs:=Int.natAbs_ediv_le_natAbs _ _
theorem iZ{w:World}{x:Int}{d:Nat}(e:cT w)(hx:x.natAbs<dL)(c:d<dL)(g:d≠0):
  Pure Tryz.prog 312 #[.string (iS x),.string (nS d)] w fun v _=>v= .tuple #[.string (iS (x / (d:Int))),.string (nS (x % (d:Int)).toNat),.int .i64 0]:=by
 have i:((d:Int)).natAbs=d:=by simp
 have j:=Int.emod_nonneg x (show(d:Int)≠0 by omega);have l:=Int.emod_lt_of_pos x (show(0:Int)<d by omega);rw[<-oP];refine F.iZ.vc (pm (fo hx (by rw[i];exact c) w) ?_);rintro v m a rfl;refine⟨_,_,_,_,_,rfl,fun h=>absurd rfl h,fun _ n k=>pm (jn _) ?_⟩;rintro v o b rfl;refine⟨_,_,rfl,fun h=> ?_,fun _=>pm (zN (e.next (kP (kE a k) b)) hx c g) ?_⟩
 ·have:=sL h.2.1;omega
 rintro v q _ rfl;refine⟨_,_,_,_,rfl,fun r _=>pm (lR (kx (zO _ _) hx) _) ?_⟩;rintro v y _ rfl;refine⟨_,rfl,pm (lR om _) ?_⟩;rintro v z _ rfl;refine⟨_,rfl,?_⟩;rw[<-oP,Int.toNat_of_nonneg j]
end Go.Proofs.YtgfkeadgjkfomaaGreatDoor.B

set_option maxRecDepth 100000
set_option maxHeartbeats 4000000
namespace Go.Proofs.YtgfkeadgjkfomaaGreatDoor.F
open Go Go.RowKit Go.Proofs Go.Proofs.YtgfkeadgjkfomaaGreatDoor.Vc
def fC.cx:Pm:=([],[])
theorem fC.vc{d e:ByteArray}{w:World}{R:Kt}
  (h:(Pure P 170 #[.string d,.string e] w fun q f=>∃g i j l c,q= .tuple #[.agg #[.string g,.string i],.agg #[.string j,.string l],.int .i64 c]/\(Br (c≠0) (∀m,Ext w.heap.size [] f m->(R (.tuple #[.int .i64 0,.int .i64 c]) m)) (Br (d=e) (∀n,Ext w.heap.size [] f n->(R (.tuple #[.int .i64 0,.int .i64 c]) n)) (∀o,Ext w.heap.size [] f o->(Pure P 171 #[.agg #[.string g,.string i]] o (Ri fun a r=>(Pure P 171 #[.agg #[.string j,.string l]] r (Ri fun b p=>(Br (a≠b) (az .i64 (a - b)/\(R (.tuple #[(.int .i64 (if(if(1:Int)<(a - b)then(1:Int)else(a - b))>(-1:Int)then(if(1:Int)<(a - b)then(1:Int)else(a - b))else(-1:Int))),.int .i64 0]) p)) (Pure P 172 #[.string g,.string l] p (tv fun s A t=>(Pure P 172 #[.string j,.string i] t (tv fun u C v=>(Pure P 173 #[.string s,.string u] v (Rii fun x y z=>(R (.tuple #[.int .i64 x,.int .i64 y]) z))))))))))))))))):
  Pure P 141 #[.string d,.string e] w R:=
 pr fC.cx Tryz.func141 h

def gE.cx:Pm:=([],[])
theorem gE.vc{a:ByteArray}{w:World}{R:Kt}
  (h:(Pure P 179 #[.string a] w fun d e=>∃f g b,d= .tuple #[.agg #[.string f,.string g],.bool b]/\(∀c,Ext w.heap.size [] e c->(R (.bool b) c)))):
  Pure P 150 #[.string a] w R:=
 pr gE.cx Tryz.func150 h

def lS.cx:Pm:=([],[])
theorem lS.vc{a b:ByteArray}{w:World}{R:Kt}
  (h:(Pure P 194 #[(.int .u8 (45:Int)),.string a,.string b] w (tv fun c d e=>(R (.tuple #[.string c,.int .i64 d]) e)))):
  Pure P 164 #[.string a,.string b] w R:=
 pr lS.cx Tryz.func164 h

def jo.cx:Pm:=([],[])
theorem jo.vc{a b:ByteArray}{w:World}{R:Kt}
  (h:(Pure P 194 #[(.int .u8 (43:Int)),.string a,.string b] w (tv fun c d e=>(R (.tuple #[.string c,.int .i64 d]) e)))):
  Pure P 165 #[.string a,.string b] w R:=
 pr jo.cx Tryz.func165 h

def jq.cx:Pm:=([],[])
theorem jq.vc{a b:ByteArray}{w:World}{R:Kt}
  (h:(Pure P 194 #[(.int .u8 (42:Int)),.string a,.string b] w (tv fun c d e=>(R (.tuple #[.string c,.int .i64 d]) e)))):
  Pure P 166 #[.string a,.string b] w R:=
 pr jq.cx Tryz.func166 h

def iq.cx:Pm:=([],[])
theorem iq.vc{f g:ByteArray}{w:World}{R:Kt}
  (h:(∀i,Ext w.heap.size [] w i->(Pure P 179 #[.string f] i fun r s=>∃b c j,r= .tuple #[.agg #[.string b,.string c],.bool j]/\(∀l,Ext w.heap.size [] s l->(Pure P 179 #[.string g] l fun t a=>∃d e m,t= .tuple #[.agg #[.string d,.string e],.bool m]/\(Br (j=false) (∀n,Ext w.heap.size [182] a n->(R (.tuple #[(.agg #[(.string ⟨#[]⟩),(.string ⟨#[]⟩)]),(.agg #[(.string ⟨#[]⟩),(.string ⟨#[]⟩)]),.int .i64 1]) n)) (Br (m=false) (∀o,Ext w.heap.size [182] a o->(R (.tuple #[(.agg #[(.string ⟨#[]⟩),(.string ⟨#[]⟩)]),(.agg #[(.string ⟨#[]⟩),(.string ⟨#[]⟩)]),.int .i64 1]) o)) ((∀p,Ext w.heap.size [182] a p->(R (.tuple #[.agg #[.string b,.string c],.agg #[.string d,.string e],.int .i64 0]) p))/\(∀q,Ext w.heap.size [182] a q->(R (.tuple #[.agg #[.string b,.string c],.agg #[.string d,.string e],.int .i64 0]) q)))))))))):
  Pure P 170 #[.string f,.string g] w R:=
 pr iq.cx Tryz.func170 h

def kJ.cx:Pm:=([],[])
theorem kJ.vc{a c:ByteArray}{w:World}{R:Kt}
  (h:(∀b,Ext w.heap.size [] w b->(Pure P 196 #[.string a] b (Rii fun d f e=>(R (.int .i64 d) e))))):
  Pure P 171 #[.agg #[.string a,.string c]] w R:=
 pr kJ.cx Tryz.func171 h

def iu.cx:Pm:=([],[])
theorem iu.vc{e:ByteArray}{w:World}{R:Kt}
  (h:(∀f,Ext w.heap.size [] w f->(Pure P 211 #[.string e,(.string ⟨#[47]⟩)] f fun r g=>∃a b i,r= .tuple #[.string a,.string b,.bool i]/\(Br (i=false) (Pure P 212 #[.string a] g (Rb fun s t=>(∀j,Ext w.heap.size [182] t j->(R (.tuple #[(.agg #[.string a,(.string ⟨#[49]⟩)]),.bool s]) j)))) (Pure P 212 #[.string a] g (Rb fun u d=>(Bb u (Br (a≠(⟨#[48]⟩:ByteArray)) (Pure P 213 #[.string b] d (Rb fun v c=>(Bb v (Br (b≠(⟨#[48]⟩:ByteArray)) (Br (b≠(⟨#[49]⟩:ByteArray)) (Pure P 214 #[.string a,.string b] c (Rt fun x y=>(∀l,Ext w.heap.size [182] y l->(R (.tuple #[.agg #[.string a,.string b],(.bool (decide (x=(⟨#[49]⟩:ByteArray))))]) l)))) (∀m,Ext w.heap.size [182] c m->(R (.tuple #[.agg #[.string a,.string b],.bool false]) m))) (∀n,Ext w.heap.size [182] c n->(R (.tuple #[.agg #[.string a,.string b],.bool false]) n))) (∀o,Ext w.heap.size [182] c o->(R (.tuple #[.agg #[.string a,.string b],.bool false]) o))))) (∀p,Ext w.heap.size [182] d p->(R (.tuple #[.agg #[.string a,.string b],.bool false]) p))) (∀q,Ext w.heap.size [182] d q->(R (.tuple #[.agg #[.string a,.string b],.bool false]) q))))))))):
  Pure P 179 #[.string e] w R:=
 pr iu.cx Tryz.func179 h

def fH.cx:Pm:=([],[(6,2,2),(6,5,4)])
theorem fH.vc{e:Int}{X Y:ByteArray}{w:World}{R:Kt}
  (h:(Pure P 170 #[.string X,.string Y] w fun k f=>∃b c a d o,k= .tuple #[.agg #[.string b,.string c],.agg #[.string a,.string d],.int .i64 o]/\(Br (o≠0) (∀Z,Ext w.heap.size [] f Z->(R (.tuple #[(.string ⟨#[]⟩),.int .i64 o]) Z)) (Br (e=47) (Br (a=(⟨#[48]⟩:ByteArray)) (∀B,Ext w.heap.size [] f B->(R (.tuple #[(.string ⟨#[]⟩),.int .i64 16]) B)) ((∀F,Ext w.heap.size [] f F->(Pure P 226 #[] F fun o0 j=>∃(g:Option Nat),o0= .map g/\((au P (Instr.lookup 230 (.map g) (.int .u8 e) false) w.heap.size [182,182] j fun o1 a2=>∃(l:Nat)(p q:Array Value),o1= .func (.func l) p q/\((bc P l=true/\(Pure P l ((Array.toList p)++([.agg #[.string b,.string c],.agg #[.string a,.string d]]:List Value)++(Array.toList q)).toArray a2 fun o2 o3=>∃a3 a4,o2= .agg #[.string a3,.string a4]/\(Pure P 227 #[.agg #[.string a3,.string a4]] o3 (Rt fun o4 o5=>(R (.tuple #[.string o4,.int .i64 0]) o5)))))/\(bc P l=true/\(Pure P l ((Array.toList p)++([.agg #[.string b,.string c],.agg #[.string a,.string d]]:List Value)++(Array.toList q)).toArray a2 fun o6 o7=>∃a5 W,o6= .agg #[.string a5,.string W]/\(Pure P 227 #[.agg #[.string a5,.string W]] o7 (Rt fun o8 o9=>(R (.tuple #[.string o8,.int .i64 0]) o9)))))))/\(((au P (Instr.lookup 230 (.map g) (.int .u8 e) false) w.heap.size [182,182] j fun p0 p1=>∃(r:Nat)(a7 a8:Array Value),p0= .func (.func r) a7 a8/\(bc P r=true/\(Pure P r ((Array.toList a7)++([.agg #[.string b,.string c],.agg #[.string a,.string d]]:List Value)++(Array.toList a8)).toArray p1 fun p2 p3=>∃a9 b0,p2= .agg #[.string a9,.string b0]/\(Pure P 227 #[.agg #[.string a9,.string b0]] p3 (Rt fun p4 p5=>(R (.tuple #[.string p4,.int .i64 0]) p5))))))/\(au P (Instr.lookup 230 (.map g) (.int .u8 e) false) w.heap.size [182,182] j fun p6 p7=>∃(s:Nat)(b1 b2:Array Value),p6= .func (.func s) b1 b2/\(bc P s=true/\(Pure P s ((Array.toList b1)++([.agg #[.string b,.string c],.agg #[.string a,.string d]]:List Value)++(Array.toList b2)).toArray p7 fun p8 p9=>∃b3 b4,p8= .agg #[.string b3,.string b4]/\(Pure P 227 #[.agg #[.string b3,.string b4]] p9 (Rt fun q0 q1=>(R (.tuple #[.string q0,.int .i64 0]) q1)))))))/\((au P (Instr.lookup 230 (.map g) (.int .u8 e) false) w.heap.size [182,182] j fun q2 q3=>∃(t:Nat)(b5 b6:Array Value),q2= .func (.func t) b5 b6/\(bc P t=true/\(Pure P t ((Array.toList b5)++([.agg #[.string b,.string c],.agg #[.string a,.string d]]:List Value)++(Array.toList b6)).toArray q3 fun q4 q5=>∃b7 b8,q4= .agg #[.string b7,.string b8]/\(Pure P 227 #[.agg #[.string b7,.string b8]] q5 (Rt fun q6 q7=>(R (.tuple #[.string q6,.int .i64 0]) q7))))))/\(au P (Instr.lookup 230 (.map g) (.int .u8 e) false) w.heap.size [182,182] j fun q8 q9=>∃(u:Nat)(b9 c0:Array Value),q8= .func (.func u) b9 c0/\(bc P u=true/\(Pure P u ((Array.toList b9)++([.agg #[.string b,.string c],.agg #[.string a,.string d]]:List Value)++(Array.toList c0)).toArray q9 fun r0 r1=>∃c1 c2,r0= .agg #[.string c1,.string c2]/\(Pure P 227 #[.agg #[.string c1,.string c2]] r1 (Rt fun r2 r3=>(R (.tuple #[.string r2,.int .i64 0]) r3)))))))))))/\(((∀c3,Ext w.heap.size [] f c3->(Pure P 226 #[] c3 fun r4 c4=>∃(v:Option Nat),r4= .map v/\((au P (Instr.lookup 230 (.map v) (.int .u8 e) false) w.heap.size [182,182] c4 fun r5 k=>∃(x:Nat)(c5 c6:Array Value),r5= .func (.func x) c5 c6/\(bc P x=true/\(Pure P x ((Array.toList c5)++([.agg #[.string b,.string c],.agg #[.string a,.string d]]:List Value)++(Array.toList c6)).toArray k fun r7 r8=>∃c7 c8,r7= .agg #[.string c7,.string c8]/\(Pure P 227 #[.agg #[.string c7,.string c8]] r8 (Rt fun r9 s0=>(R (.tuple #[.string r9,.int .i64 0]) s0))))))/\(au P (Instr.lookup 230 (.map v) (.int .u8 e) false) w.heap.size [182,182] c4 fun s1 s2=>∃(y:Nat)(c9 d0:Array Value),s1= .func (.func y) c9 d0/\(bc P y=true/\(Pure P y ((Array.toList c9)++([.agg #[.string b,.string c],.agg #[.string a,.string d]]:List Value)++(Array.toList d0)).toArray s2 fun s3 s4=>∃d1 d2,s3= .agg #[.string d1,.string d2]/\(Pure P 227 #[.agg #[.string d1,.string d2]] s4 (Rt fun s5 s6=>(R (.tuple #[.string s5,.int .i64 0]) s6)))))))))/\(∀d3,Ext w.heap.size [] f d3->(Pure P 226 #[] d3 fun s7 s8=>∃(d4:Option Nat),s7= .map d4/\(au P (Instr.lookup 230 (.map d4) (.int .u8 e) false) w.heap.size [182,182] s8 fun s9 t0=>∃(z:Nat)(d5 d6:Array Value),s9= .func (.func z) d5 d6/\(bc P z=true/\(Pure P z ((Array.toList d5)++([.agg #[.string b,.string c],.agg #[.string a,.string d]]:List Value)++(Array.toList d6)).toArray t0 fun t1 t2=>∃d7 d8,t1= .agg #[.string d7,.string d8]/\(Pure P 227 #[.agg #[.string d7,.string d8]] t2 (Rt fun t3 t4=>(R (.tuple #[.string t3,.int .i64 0]) t4)))))))))/\((∀d9,Ext w.heap.size [] f d9->(Pure P 226 #[] d9 fun t5 e0=>∃(A:Option Nat),t5= .map A/\((au P (Instr.lookup 230 (.map A) (.int .u8 e) false) w.heap.size [182,182] e0 fun t6 t7=>∃(C:Nat)(e1 e2:Array Value),t6= .func (.func C) e1 e2/\(bc P C=true/\(Pure P C ((Array.toList e1)++([.agg #[.string b,.string c],.agg #[.string a,.string d]]:List Value)++(Array.toList e2)).toArray t7 fun t8 t9=>∃e3 e4,t8= .agg #[.string e3,.string e4]/\(Pure P 227 #[.agg #[.string e3,.string e4]] t9 (Rt fun v0 v1=>(R (.tuple #[.string v0,.int .i64 0]) v1))))))/\(au P (Instr.lookup 230 (.map A) (.int .u8 e) false) w.heap.size [182,182] e0 fun v2 v3=>∃(D:Nat)(e5 e6:Array Value),v2= .func (.func D) e5 e6/\(bc P D=true/\(Pure P D ((Array.toList e5)++([.agg #[.string b,.string c],.agg #[.string a,.string d]]:List Value)++(Array.toList e6)).toArray v3 fun v4 v5=>∃e7 e8,v4= .agg #[.string e7,.string e8]/\(Pure P 227 #[.agg #[.string e7,.string e8]] v5 (Rt fun v6 v7=>(R (.tuple #[.string v6,.int .i64 0]) v7)))))))))/\(∀e9,Ext w.heap.size [] f e9->(Pure P 226 #[] e9 fun v8 v9=>∃(f0:Option Nat),v8= .map f0/\(au P (Instr.lookup 230 (.map f0) (.int .u8 e) false) w.heap.size [182,182] v9 fun x0 x1=>∃(E:Nat)(f1 f2:Array Value),x0= .func (.func E) f1 f2/\(bc P E=true/\(Pure P E ((Array.toList f1)++([.agg #[.string b,.string c],.agg #[.string a,.string d]]:List Value)++(Array.toList f2)).toArray x1 fun x2 x3=>∃f3 f4,x2= .agg #[.string f3,.string f4]/\(Pure P 227 #[.agg #[.string f3,.string f4]] x3 (Rt fun x4 x5=>(R (.tuple #[.string x4,.int .i64 0]) x5)))))))))))) ((∀f5,Ext w.heap.size [] f f5->(Pure P 226 #[] f5 fun x6 m=>∃(i:Option Nat),x6= .map i/\((au P (Instr.lookup 230 (.map i) (.int .u8 e) false) w.heap.size [182,182] m fun x7 f6=>∃(n:Nat)(G H:Array Value),x7= .func (.func n) G H/\((bc P n=true/\(Pure P n ((Array.toList G)++([.agg #[.string b,.string c],.agg #[.string a,.string d]]:List Value)++(Array.toList H)).toArray f6 fun x8 x9=>∃f7 f8,x8= .agg #[.string f7,.string f8]/\(Pure P 227 #[.agg #[.string f7,.string f8]] x9 (Rt fun y0 y1=>(R (.tuple #[.string y0,.int .i64 0]) y1)))))/\(bc P n=true/\(Pure P n ((Array.toList G)++([.agg #[.string b,.string c],.agg #[.string a,.string d]]:List Value)++(Array.toList H)).toArray f6 fun y2 y3=>∃f9 g0,y2= .agg #[.string f9,.string g0]/\(Pure P 227 #[.agg #[.string f9,.string g0]] y3 (Rt fun y4 y5=>(R (.tuple #[.string y4,.int .i64 0]) y5)))))))/\(((au P (Instr.lookup 230 (.map i) (.int .u8 e) false) w.heap.size [182,182] m fun y6 y7=>∃(I:Nat)(g1 g2:Array Value),y6= .func (.func I) g1 g2/\(bc P I=true/\(Pure P I ((Array.toList g1)++([.agg #[.string b,.string c],.agg #[.string a,.string d]]:List Value)++(Array.toList g2)).toArray y7 fun y8 y9=>∃g3 g4,y8= .agg #[.string g3,.string g4]/\(Pure P 227 #[.agg #[.string g3,.string g4]] y9 (Rt fun z0 z1=>(R (.tuple #[.string z0,.int .i64 0]) z1))))))/\(au P (Instr.lookup 230 (.map i) (.int .u8 e) false) w.heap.size [182,182] m fun z2 z3=>∃(J:Nat)(g5 g6:Array Value),z2= .func (.func J) g5 g6/\(bc P J=true/\(Pure P J ((Array.toList g5)++([.agg #[.string b,.string c],.agg #[.string a,.string d]]:List Value)++(Array.toList g6)).toArray z3 fun z4 z5=>∃g7 g8,z4= .agg #[.string g7,.string g8]/\(Pure P 227 #[.agg #[.string g7,.string g8]] z5 (Rt fun z6 z7=>(R (.tuple #[.string z6,.int .i64 0]) z7)))))))/\((au P (Instr.lookup 230 (.map i) (.int .u8 e) false) w.heap.size [182,182] m fun z8 z9=>∃(K:Nat)(g9 j0:Array Value),z8= .func (.func K) g9 j0/\(bc P K=true/\(Pure P K ((Array.toList g9)++([.agg #[.string b,.string c],.agg #[.string a,.string d]]:List Value)++(Array.toList j0)).toArray z9 fun A0 A1=>∃j1 j2,A0= .agg #[.string j1,.string j2]/\(Pure P 227 #[.agg #[.string j1,.string j2]] A1 (Rt fun A2 A3=>(R (.tuple #[.string A2,.int .i64 0]) A3))))))/\(au P (Instr.lookup 230 (.map i) (.int .u8 e) false) w.heap.size [182,182] m fun A4 A5=>∃(L:Nat)(j3 j4:Array Value),A4= .func (.func L) j3 j4/\(bc P L=true/\(Pure P L ((Array.toList j3)++([.agg #[.string b,.string c],.agg #[.string a,.string d]]:List Value)++(Array.toList j4)).toArray A5 fun A6 A7=>∃j5 j6,A6= .agg #[.string j5,.string j6]/\(Pure P 227 #[.agg #[.string j5,.string j6]] A7 (Rt fun A8 A9=>(R (.tuple #[.string A8,.int .i64 0]) A9)))))))))))/\(((∀j7,Ext w.heap.size [] f j7->(Pure P 226 #[] j7 fun C0 j8=>∃(M:Option Nat),C0= .map M/\((au P (Instr.lookup 230 (.map M) (.int .u8 e) false) w.heap.size [182,182] j8 fun C1 C2=>∃(N:Nat)(j9 l0:Array Value),C1= .func (.func N) j9 l0/\(bc P N=true/\(Pure P N ((Array.toList j9)++([.agg #[.string b,.string c],.agg #[.string a,.string d]]:List Value)++(Array.toList l0)).toArray C2 fun C3 C4=>∃l1 l2,C3= .agg #[.string l1,.string l2]/\(Pure P 227 #[.agg #[.string l1,.string l2]] C4 (Rt fun C5 C6=>(R (.tuple #[.string C5,.int .i64 0]) C6))))))/\(au P (Instr.lookup 230 (.map M) (.int .u8 e) false) w.heap.size [182,182] j8 fun C7 C8=>∃(O:Nat)(l3 l4:Array Value),C7= .func (.func O) l3 l4/\(bc P O=true/\(Pure P O ((Array.toList l3)++([.agg #[.string b,.string c],.agg #[.string a,.string d]]:List Value)++(Array.toList l4)).toArray C8 fun C9 D0=>∃l5 l6,C9= .agg #[.string l5,.string l6]/\(Pure P 227 #[.agg #[.string l5,.string l6]] D0 (Rt fun D1 D2=>(R (.tuple #[.string D1,.int .i64 0]) D2)))))))))/\(∀l7,Ext w.heap.size [] f l7->(Pure P 226 #[] l7 fun D3 D4=>∃(l8:Option Nat),D3= .map l8/\(au P (Instr.lookup 230 (.map l8) (.int .u8 e) false) w.heap.size [182,182] D4 fun D5 D6=>∃(Q:Nat)(l9 m0:Array Value),D5= .func (.func Q) l9 m0/\(bc P Q=true/\(Pure P Q ((Array.toList l9)++([.agg #[.string b,.string c],.agg #[.string a,.string d]]:List Value)++(Array.toList m0)).toArray D6 fun D7 D8=>∃m1 m2,D7= .agg #[.string m1,.string m2]/\(Pure P 227 #[.agg #[.string m1,.string m2]] D8 (Rt fun D9 E0=>(R (.tuple #[.string D9,.int .i64 0]) E0)))))))))/\((∀m3,Ext w.heap.size [] f m3->(Pure P 226 #[] m3 fun E1 m4=>∃(S:Option Nat),E1= .map S/\((au P (Instr.lookup 230 (.map S) (.int .u8 e) false) w.heap.size [182,182] m4 fun E2 E3=>∃(T:Nat)(m5 m6:Array Value),E2= .func (.func T) m5 m6/\(bc P T=true/\(Pure P T ((Array.toList m5)++([.agg #[.string b,.string c],.agg #[.string a,.string d]]:List Value)++(Array.toList m6)).toArray E3 fun E4 E5=>∃m7 m8,E4= .agg #[.string m7,.string m8]/\(Pure P 227 #[.agg #[.string m7,.string m8]] E5 (Rt fun E6 E7=>(R (.tuple #[.string E6,.int .i64 0]) E7))))))/\(au P (Instr.lookup 230 (.map S) (.int .u8 e) false) w.heap.size [182,182] m4 fun E8 E9=>∃(U:Nat)(m9 n0:Array Value),E8= .func (.func U) m9 n0/\(bc P U=true/\(Pure P U ((Array.toList m9)++([.agg #[.string b,.string c],.agg #[.string a,.string d]]:List Value)++(Array.toList n0)).toArray E9 fun G0 G1=>∃n1 n2,G0= .agg #[.string n1,.string n2]/\(Pure P 227 #[.agg #[.string n1,.string n2]] G1 (Rt fun G2 G3=>(R (.tuple #[.string G2,.int .i64 0]) G3)))))))))/\(∀n3,Ext w.heap.size [] f n3->(Pure P 226 #[] n3 fun G4 G5=>∃(n4:Option Nat),G4= .map n4/\(au P (Instr.lookup 230 (.map n4) (.int .u8 e) false) w.heap.size [182,182] G5 fun G6 G7=>∃(V:Nat)(n5 n6:Array Value),G6= .func (.func V) n5 n6/\(bc P V=true/\(Pure P V ((Array.toList n5)++([.agg #[.string b,.string c],.agg #[.string a,.string d]]:List Value)++(Array.toList n6)).toArray G7 fun G8 G9=>∃n7 n8,G8= .agg #[.string n7,.string n8]/\(Pure P 227 #[.agg #[.string n7,.string n8]] G9 (Rt fun H0 H1=>(R (.tuple #[.string H0,.int .i64 0]) H1))))))))))))))):
  Pure P 194 #[.int .u8 e,.string X,.string Y] w R:=
 pr fH.cx Tryz.func194 h

def fD.cx:Pm:=([],[])
theorem fD.vc{a b:ByteArray}{w:World}{R:Kt}
  (h:(Pure P 242 #[.string a] w (tv fun c g d=>(Pure P 243 #[.string c,.string b] d (tv fun e i f=>(R (.string e) f)))))):
  Pure P 214 #[.string a,.string b] w R:=
 pr fD.cx Tryz.func214 h

def lT.cx:Pm:=([],[])
theorem lT.vc{w:World}{R:Kt}
  (h:(Pure P 249 #[] w fun b c=>∃(a:Option Nat),b= .map a/\(R (.map a) c))):
  Pure P 226 #[] w R:=
 pr lT.cx Tryz.func226 h

def kK.cx:Pm:=([],[])
theorem kK.vc{a b:ByteArray}{w:World}{R:Kt}
  (h:(Br (b=(⟨#[49]⟩:ByteArray)) (∀c,Ext w.heap.size [] w c->(R (.string a) c)) (ByteArray.size a+ByteArray.size (⟨#[47]⟩:ByteArray)<=9223372036854775807/\(ByteArray.size (a++(⟨#[47]⟩:ByteArray))+ByteArray.size b<=9223372036854775807/\(∀d,Ext w.heap.size [] w d->(R (.string ((a++(⟨#[47]⟩:ByteArray))++b)) d)))))):
  Pure P 227 #[.agg #[.string a,.string b]] w R:=
 pr kK.cx Tryz.func227 h

def ff.cx:Pm:=([],[(1,0,2),(1,1,2),(1,2,2),(1,3,2),(1,4,2)])
theorem ff.vc{w:World}{R:Kt}
  (h:(au P (Instr.makeMap 230 none) w.heap.size [] w fun b c=>∃(a:Option Nat),b= .map a/\(jz P (Instr.mapUpdate 230 (.map a) (.int .u8 (43:Int)) (.func (.func 266) #[] #[])) w.heap.size [] c fun d=>(jz P (Instr.mapUpdate 230 (.map a) (.int .u8 (42:Int)) (.func (.func 267) #[] #[])) w.heap.size [] d fun e=>(jz P (Instr.mapUpdate 230 (.map a) (.int .u8 (45:Int)) (.func (.func 268) #[] #[])) w.heap.size [] e fun f=>(jz P (Instr.mapUpdate 230 (.map a) (.int .u8 (47:Int)) (.func (.func 270) #[] #[])) w.heap.size [] f fun g=>(R (.map a) g))))))):
  Pure P 249 #[] w R:=
 pr ff.cx Tryz.func249 h

def iw.cx:Pm:=([],[])
theorem iw.vc{e a f b:ByteArray}{w:World}{R:Kt}
  (h:(∀l,Ext w.heap.size [] w l->(Pure P 291 #[.agg #[.string e,.string a]] l fun y z=>∃g c m,y= .tuple #[.int .i64 g,.int .i64 c,.bool m]/\(Pure P 291 #[.agg #[.string f,.string b]] z fun A j=>∃i d n,A= .tuple #[.int .i64 i,.int .i64 d,.bool n]/\(Bb m (Bb n (az .i64 (g*d)/\(az .i64 (i*c)/\(az .i64 ((g*d)+(i*c))/\(az .i64 (c*d)/\(Pure P 292 #[(.int .i64 ((g*d)+(i*c))),(.int .i64 (c*d))] j fun C D=>∃o p,C= .agg #[.string o,.string p]/\(∀q,Ext w.heap.size [182] D q->(R (.agg #[.string o,.string p]) q))))))) (Pure P 172 #[.string e,.string b] j (tv fun E a2 G=>(Pure P 172 #[.string f,.string a] G (tv fun H a3 I=>(Pure P 293 #[.string E,.string H] I (tv fun J a4 K=>(Pure P 232 #[.string a,.string b] K (tv fun L a5 M=>(Pure P 294 #[.string J,.string L] M fun N O=>∃r s,N= .agg #[.string r,.string s]/\(∀t,Ext w.heap.size [182] O t->(R (.agg #[.string r,.string s]) t)))))))))))) (Pure P 172 #[.string e,.string b] j (tv fun Q B S=>(Pure P 172 #[.string f,.string a] S (tv fun T F U=>(Pure P 293 #[.string Q,.string T] U (tv fun V W X=>(Pure P 232 #[.string a,.string b] X (tv fun Y a9 Z=>(Pure P 294 #[.string V,.string Y] Z fun a0 k=>∃u v,a0= .agg #[.string u,.string v]/\(∀x,Ext w.heap.size [182] k x->(R (.agg #[.string u,.string v]) x)))))))))))))))):
  Pure P 266 #[.agg #[.string e,.string a],.agg #[.string f,.string b]] w R:=
 pr iw.cx Tryz.func266 h

def ja.cx:Pm:=([],[])
theorem ja.vc{a b c d:ByteArray}{w:World}{R:Kt}
  (h:(∀l,Ext w.heap.size [] w l->(Pure P 291 #[.agg #[.string a,.string b]] l fun y z=>∃e f m,y= .tuple #[.int .i64 e,.int .i64 f,.bool m]/\(Pure P 291 #[.agg #[.string c,.string d]] z fun A g=>∃i j n,A= .tuple #[.int .i64 i,.int .i64 j,.bool n]/\(Bb m (Bb n (az .i64 (e*i)/\(az .i64 (f*j)/\(Pure P 292 #[(.int .i64 (e*i)),(.int .i64 (f*j))] g fun C D=>∃o p,C= .agg #[.string o,.string p]/\(∀q,Ext w.heap.size [182] D q->(R (.agg #[.string o,.string p]) q))))) (Pure P 172 #[.string a,.string c] g (tv fun E T G=>(Pure P 232 #[.string b,.string d] G (tv fun H U I=>(Pure P 294 #[.string E,.string H] I fun J K=>∃r s,J= .agg #[.string r,.string s]/\(∀t,Ext w.heap.size [182] K t->(R (.agg #[.string r,.string s]) t)))))))) (Pure P 172 #[.string a,.string c] g (tv fun L V M=>(Pure P 232 #[.string b,.string d] M (tv fun N X O=>(Pure P 294 #[.string L,.string N] O fun Q S=>∃u v,Q= .agg #[.string u,.string v]/\(∀x,Ext w.heap.size [182] S x->(R (.agg #[.string u,.string v]) x)))))))))))):
  Pure P 267 #[.agg #[.string a,.string b],.agg #[.string c,.string d]] w R:=
 pr ja.cx Tryz.func267 h

def gU.cx:Pm:=([],[])
theorem gU.vc{a b c d:ByteArray}{w:World}{R:Kt}
  (h:(∀e,Ext w.heap.size [] w e->(Pure P 269 #[.agg #[.string c,.string d]] e fun m n=>∃f g,m= .agg #[.string f,.string g]/\(Pure P 266 #[.agg #[.string a,.string b],.agg #[.string f,.string g]] n fun o p=>∃i j,o= .agg #[.string i,.string j]/\(∀l,Ext w.heap.size [182] p l->(R (.agg #[.string i,.string j]) l)))))):
  Pure P 268 #[.agg #[.string a,.string b],.agg #[.string c,.string d]] w R:=
 pr gU.cx Tryz.func268 h

def fW.cx:Pm:=([],[])
theorem fW.vc{a b:ByteArray}{w:World}{R:Kt}
  (h:(∀c,Ext w.heap.size [] w c->(Pure P 295 #[.string a] c (tv fun e g f=>(∀d,Ext w.heap.size [182] f d->(R (.agg #[.string e,.string b]) d)))))):
  Pure P 269 #[.agg #[.string a,.string b]] w R:=
 pr fW.cx Tryz.func269 h

def jb.cx:Pm:=([],[])
theorem jb.vc{a b:ByteArray}{w:World}{R:Kt}
  (h:(Br (((ByteArray.size a:Int):Int)>9) (∀c,Ext w.heap.size [] w c->(R (.tuple #[.int .i64 0,.int .i64 0,.bool false]) c)) (Br (((ByteArray.size b:Int):Int)>9) (∀d,Ext w.heap.size [] w d->(R (.tuple #[.int .i64 0,.int .i64 0,.bool false]) d)) (∀e,Ext w.heap.size [] w e->(Pure P 310 #[.string a,.int .i64 10,.int .i64 64] e fun i j=>∃(f:Int)(l:Value),i= .tuple #[.int .i64 f,l]/\(Pure P 310 #[.string b,.int .i64 10,.int .i64 64] j fun m n=>∃(g:Int)(o:Value),m= .tuple #[.int .i64 g,o]/\(R (.tuple #[.int .i64 f,.int .i64 g,.bool true]) n))))))):
  Pure P 291 #[.agg #[.string a,.string b]] w R:=
 pr jb.cx Tryz.func291 h

def dO.L2(a b c d:Int)(e f:ByteArray):=Lt 292 Tryz.f292 2 [(0,.v (.int .i64 a)),(1,.v (.int .i64 b)),(4,.loc 4 0),(5,.v (.int .i64 c)),(6,.v (.int .i64 d))] [⟨4,false,182,[(.string e),(.string f)]⟩]
def dO.cx:Pm:=([((true,2),[0,1,4,5,6],[4])],[(3,3,1),(5,2,1)])
theorem dO.L2.step{d b a c:Int}{e f:ByteArray}{B:Nat}{w:World}{R:Kt}
  (h:(Br (c≠0) (c≠0/\(∀g,Ext B [] w g->(dO.L2 d b c (Int.tmod a c) e f B g R))) (az .i64 (-a)/\((if(-a)>a then(-a)else a)≠0/\((0<=b/\0<(if(-a)>a then(-a)else a)/\az .i64 b)/\(∀i,Ext B [] w i->(Pure P 311 #[(.int .i64 (IntKind.wrap .i64 (Int.tdiv d (if(-a)>a then(-a)else a)))),.int .i64 10] i (Rt fun l m=>(Pure P 311 #[(.int .i64 (b / (if(-a)>a then(-a)else a))),.int .i64 10] m (Rt fun n o=>(∀j,Ext B [182] o j->(R (.agg #[.string l,.string n]) j)))))))))))):
  dO.L2 d b a c e f B w R:=
 lr dO.cx Tryz.func292 h
theorem dO.vc{a b:Int}{w:World}{R:Kt}
  (h:(∀c,Ext w.heap.size [] w c->(dO.L2 a b a b (⟨#[]⟩:ByteArray) (⟨#[]⟩:ByteArray) w.heap.size c R))):
  Pure P 292 #[.int .i64 a,.int .i64 b] w R:=
 pr dO.cx Tryz.func292 h

def fO.cx:Pm:=([],[])
theorem fO.vc{a b:ByteArray}{w:World}{R:Kt}
  (h:(∀d,Ext w.heap.size [] w d->(Pure P 214 #[.string a,.string b] d (Rt fun c e=>(Br (c≠(⟨#[49]⟩:ByteArray)) (Pure P 312 #[.string a,.string c] e fun l m=>∃f n o,l= .tuple #[.string f,.string n,.int .i64 o]/\(Pure P 313 #[.string b,.string c] m fun p q=>∃g r s,p= .tuple #[.string g,.string r,.int .i64 s]/\(∀i,Ext w.heap.size [182] q i->(R (.agg #[.string f,.string g]) i)))) (∀j,Ext w.heap.size [182] e j->(R (.agg #[.string a,.string b]) j))))))):
  Pure P 294 #[.string a,.string b] w R:=
 pr fO.cx Tryz.func294 h

end Go.Proofs.YtgfkeadgjkfomaaGreatDoor.F

namespace Go.Proofs.YtgfkeadgjkfomaaGreatDoor.B
open Go Go.RowKit Go.Proofs Go.Proofs.YtgfkeadgjkfomaaGreatDoor.Vc

theorem xY(l:Tx):(47∈l->0<=Lib.index l [47]/\l.take (Lib.index l [47]).toNat=oc l/\l.drop ((Lib.index l [47]).toNat+1)=lE l)/\(47∉l->Lib.index l [47]= -1):=by
 induction l with
 |nil=>simp[Lib.index]
 |cons b r ih=>
  by_cases h:b=47
  ·subst h;have e:Lib.index (47::r) [47]=0:=by simp[Lib.index]
   rw[e];simp[oc,lE]
  ·have h2:(47==b)=false:=by simpa using fun k=>h k.symm
   have e:Lib.index (b::r) [47]=if Lib.index r [47]== -1 then -1 else Lib.index r [47]+1:=by
    rw[Lib.index];simp[List.isPrefixOf,h2]
   constructor
   ·intro hm;have a:47∈r:=by
     rcases fi.1 hm with k|k
     ·exact absurd k.symm h
     ·exact k
    obtain⟨h0,h1,h3⟩:=ih.1 a;have c:¬(Lib.index r [47]== -1)=true:=by simp;omega
    rw[e,ar c];obtain⟨m,d⟩:∃m:Nat,Lib.index r [47]=m:=⟨(Lib.index r [47]).toNat,om⟩
    rw[d]at h1 h3⊢;have g:((m:Int)+1).toNat=m+1:=om;rw[g];simp only[dq]at h1 h3;refine⟨om,?_,?_⟩
    ·simp[oc,h,h1]
    ·simp[lE,h,h3]
   ·intro hm;have a:47∉r:=fun k=>hm (List.mem_cons_of_mem _ k)
    rw[e,ih.2 a];rfl
theorem MF{w:World}(a:cT w)(s:ByteArray)(hs:s.size<2147483648):
  Pure Tryz.prog 211 #[.string s,.string ⟨#[47]⟩] w fun v _=>
   (47∈bM s->v= .tuple #[.string (st (oc (bM s))),.string (st (lE (bM s))),.bool true])/\(47∉bM s->v= .tuple #[.string s,.string (st []),.bool false]):=by
 obtain⟨m,hm⟩:=a.mx;refine Calls.mono (Tryz.strings_Cut s ⟨#[47]⟩ m w om hm) ?_;rintro e w' ⟨rfl,n,rfl⟩;refine⟨_,rfl,?_,?_,?_⟩
 ·exact⟨rfl,rfl,rfl,hM _,fun _ _=>rfl⟩
 ·intro h;obtain⟨h0,h1,h2⟩:=(xY (bM s)).1 h;have e:Lib.cut s.data.toList [47]=(oc (bM s),lE (bM s),true):=by
   show Lib.cut (bM s) [47]=_;unfold Lib.cut;rw[cc h0];simp only[vi];rw[h1,h2]
  show Value.tuple #[.string ⟨(Lib.cut s.data.toList [47]).1.toArray⟩,.string ⟨(Lib.cut s.data.toList [47]).2.1.toArray⟩,.bool (Lib.cut s.data.toList [47]).2.2]=_;rw[e];rfl
 ·intro h;have h0:=(xY (bM s)).2 h;have e:Lib.cut s.data.toList [47]=(bM s,[],false):=by
   show Lib.cut (bM s) [47]=_;unfold Lib.cut;rw[h0,ar om]
  show Value.tuple #[.string ⟨(Lib.cut s.data.toList [47]).1.toArray⟩,.string ⟨(Lib.cut s.data.toList [47]).2.1.toArray⟩,.bool (Lib.cut s.data.toList [47]).2.2]=_;rw[e];rfl
theorem xZ{w:World}(a:cT w)(z:Int)(h0: -9223372036854775808<=z)(h1:z<=9223372036854775807):
  Pure Tryz.prog 311 #[.int .i64 z,.int .i64 10] w fun v _=>v= .string (iS z):=by
 refine Calls.mono (Tryz.strconv_FormatInt_10 z h0 h1 w a.tab) ?_;rintro e w' ⟨rfl,k,os,rfl⟩;exact⟨_,rfl,sK _ _ _,rfl⟩
theorem SA{w:World}(a:cT w)(z:Int)(h0: -9223372036854775808<=z)(h1:z<=9223372036854775807):
  Pure Tryz.prog 169 #[.int .i64 z] w fun v _=>v= .string (iS z):=by
 refine Calls.mono (Tryz.strconv_Itoa z h0 h1 w a.tab) ?_;rintro e w' ⟨rfl,k,os,rfl⟩;exact⟨_,rfl,sK _ _ _,rfl⟩
theorem J0{n:Nat}(h:n<9223372036854775808):Lib.parseUintB 64 (dY n)= .ok n:=by
 have:=um (B:=64) (l:=dY n) om (tB n) (sE n) (by rw[ke];omega);rwa [ke]at this
theorem J1{z:Int}(h:z.natAbs<9223372036854775808):Lib.parseIntB 64 (kj z)= .ok z:=by
 have hp:=J0 h;rw[kC];split
 ·rename_i d;rw[Lib.parseIntB_minus,hp];simp only[Lib.signedC];rw[ar om]
  congr 1
  omega
 ·rename_i d;have a:=sE z.natAbs;cases b:dY z.natAbs with
  |nil=>exact absurd b (tB _)
  |cons c r=>
   rw[b]at hp a;simp only[vv,eb]at a;have:=a.1;simp only[px,eb,nC]at this;rw[Lib.parseIntB_plain 64 c r om om,hp];simp only[Lib.signlessC];rw[ar om]
   congr 1
   omega
theorem ParseInt10(z:Int)(h:z.natAbs<9223372036854775808)(w:World):
  Pure Tryz.prog 310 #[.string (iS z),.int .i64 10,.int .i64 64] w fun v _=>v= .tuple #[.int .i64 z,.nilIface]:=by
 have hl:(iS z).size<=9223372036854775806:=by
  have:=lP (z:=z) (k:=19) om om;show(kj z).length<=_;omega
 refine Calls.mono (Tryz.strconv_ParseInt_10_at64_ok (iS z) hl z (J1 h) w) ?_;rintro e w' ⟨rfl,hw⟩;refine⟨_,rfl,?_,rfl⟩;rcases hw with rfl|⟨t,rfl⟩
 ·exact Below.refl _ _
 ·exact uo (.inr rfl)

abbrev fV(r:Rat):Value:= .agg #[.string (iS r.num),.string (nS r.den)]
abbrev jy(r:Rat):Prop:=Sm 100000 r
theorem Sm.FK{k:Nat}{r:Rat}(h:Sm k r)(a:k<=900000):r.num.natAbs<dL:=mL h.1 a
theorem Sm.FL{k:Nat}{r:Rat}(h:Sm k r)(a:k<=900000):r.den<dL:=mL h.2 a

theorem fD{w:World}{z:Int}{d:Nat}(b:cT w)(a:z.natAbs<dL)(c:d<dL):
  Pure Tryz.prog 214 #[.string (iS z),.string (nS d)] w fun v _=>v= .string (nS (Nat.gcd z.natAbs d)):=by
 refine F.fD.vc (pm (nD a w) ?_);rintro v e hb rfl;refine⟨_,_,rfl,pm (nB (b.next hb) a c) ?_⟩;rintro v g _ rfl;exact⟨_,_,rfl,rfl⟩

theorem fO{w:World}{z:Int}{d:Nat}(i:cT w)(m:z.natAbs<dL)(n:d<dL)(o:d≠0):
  Pure Tryz.prog 294 #[.string (iS z),.string (nS d)] w fun v _=>v=fV (mkRat z d):=by
 obtain⟨a,b⟩:=oz (p:=z) o;obtain⟨g,c⟩:∃g,g=Nat.gcd z.natAbs d:=⟨_,rfl⟩
 have q:g≠0:=by rw[c];intro k;exact o (EI k)
 have x:g<=d:=by rw[c];exact Qu om (P1 _ _)
 rw[<-c]at a b;refine F.fO.vc fun w1 r=>pm (fD (i.next (k0 r)) m n) ?_
 rintro v A j rfl;have hb:=kP (k0 r) j;rw[<-c];refine⟨_,rfl,fun h=>pm (iZ (i.next hb) m om q) ?_,fun h y _=> ?_⟩
 ·rintro v y l rfl;refine⟨_,_,_,rfl,pm (gA (i.next (kP hb l)) n om q) ?_⟩;rintro v B _ rfl;refine⟨_,_,_,rfl,fun C _=> ?_⟩;rw[<-a,<-b]
 ·have h1:g=1:=by
   apply ea;intro k;rw[FJ]at h;exact h fun e=>k (sL e)
  rw[h1]at a b;simp only[Int.natCast_one,Int.ediv_one,Nat.div_one]at a b;show _=fV _;unfold fV;rw[a,b]

theorem iu{w:World}(y:cT w)(s:ByteArray)(hs:s.size<=800000):
  Pure Tryz.prog 179 #[.string s] w fun v _=>∃p q,v= .tuple #[.agg #[.string p,.string q],.bool (km (bM s))]/\(km (bM s)=true->p=iS (tT (bM s)).num/\q=nS (tT (bM s)).den):=by
 refine F.iu.vc fun w1 z=>pm (MF (y.next (k0 z)) s om) ?_
 rintro v O j ⟨C,m⟩;have hb:=kP (k0 z) j;by_cases a:47∈bM s
 ·have hv:=C a;subst hv;obtain⟨D,P⟩:=My a;have hle:(oc (bM s)).length+(lE (bM s)).length+1=s.size:=by
   have:=dB List.length D;rw[dn];simp at this;omega
  have Q:(st (oc (bM s))).size=(oc (bM s)).length:=rfl;have E:(st (lE (bM s))).size=(lE (bM s)).length:=rfl;have fin:∀(b:Bool),b=km (bM s)->∃p q,Value.tuple #[.agg #[.string (st (oc (bM s))),.string (st (lE (bM s)))],.bool b]=Value.tuple #[.agg #[.string p,.string q],.bool (km (bM s))]/\(km (bM s)=true->p=iS (tT (bM s)).num/\q=nS (tT (bM s)).den):=by
   intro b G;refine⟨_,_,by rw[G],fun hi=> ?_⟩;have e:=DS hi;obtain⟨r,H⟩:∃r,r=tT (bM s):=⟨_,rfl⟩
   rw[<-H]at e⊢;rw[<-e]at a⊢;unfold oa at a⊢;split at a
   ·exact absurd a (jl _)
   ·rename_i I;rw[ar I,yH (jl _),yI (jl _)];exact⟨rfl,rfl⟩
  have c:km (bM s)=(isInt (oc (bM s))&&oc (bM s) !=[48]&&isNat (lE (bM s))&&lE (bM s) !=[48]&&lE (bM s) !=[49]&&Nat.gcd (gk (oc (bM s))).natAbs (cX (lE (bM s)))==1):=by
   unfold km;rw[cc a]
  have g:∀l:Tx,st l≠(⟨#[48]⟩:ByteArray)↔l≠[48]:=fun l=>⟨fun h k=>h (by rw[k];rfl),fun h k=>h (zA (k.trans rfl:st l=st [48]))⟩
  have A:∀l:Tx,st l≠(⟨#[49]⟩:ByteArray)↔l≠[49]:=fun l=>⟨fun h k=>h (by rw[k];rfl),fun h k=>h (zA (k.trans rfl:st l=st [49]))⟩
  refine⟨_,_,_,rfl,fun h=>(by cases h),fun _=>pm (im _ om _) ?_⟩;rintro v J d rfl;rw[nU];refine⟨_,rfl,fun h1=>⟨fun h2=>pm (cF _ om _) ?_,fun h2 n _=>fin _ ?_⟩,fun h1 n _=>fin _ ?_⟩
  ·rintro v n o rfl;rw[nU];rw[g]at h2;refine⟨_,rfl,fun h3=>⟨fun h4=>⟨fun i=> ?_,fun i x _=>fin _ ?_⟩,fun h4 x _=>fin _ ?_⟩,fun h3 x _=>fin _ ?_⟩
   ·rw[g]at h4;rw[A]at i;have K:st (oc (bM s))=iS (gk (oc (bM s))):=by unfold iS;rw[pA h1]
    have eq:st (lE (bM s))=nS (cX (lE (bM s))):=by unfold nS;rw[kB h3]
    have lp:(gk (oc (bM s))).natAbs<dL:=by
     have:=yG (gk (oc (bM s)));rw[pA h1]at this;exact mL this om
    have L:cX (lE (bM s))<dL:=by
     have:=we (cX (lE (bM s)));rw[kB h3]at this;exact mL this om
    have B:=fD (y.next (kP (kP hb d) o)) lp L;rw[<-K,<-eq]at B;refine pm B ?_;rintro v x _ rfl;refine⟨_,rfl,fun R _=>fin _ ?_⟩;rw[c,h1,h3,FJ];have a2:(oc (bM s) !=[48])=true:=by simpa using h2
    have a4:(lE (bM s) !=[48])=true:=by simpa using h4
    have a5:(lE (bM s) !=[49])=true:=by simpa using i
    rw[a2,a4,a5];simp only[lI,Sy];rfl
   ·have:lE (bM s)=[49]:=by apply ea;intro k;exact i ((A _).2 k)
    rw[c,this];simp
   ·have:lE (bM s)=[48]:=by apply ea;intro k;exact h4 ((g _).2 k)
    rw[c,this];simp
   ·rw[c,h3];simp
  ·have:oc (bM s)=[48]:=by apply ea;intro k;exact h2 ((g _).2 k)
   rw[c,this];simp
  ·rw[c,h1];simp
 ·have hv:=m a;subst hv;have c:km (bM s)=isInt (bM s):=by unfold km;rw[ar a]
  refine⟨_,_,_,rfl,fun _=>pm (im _ om _) ?_,fun h=>by simp at h⟩;rintro v J d rfl;refine⟨_,rfl,fun n _=>⟨_,_,by rw[c],fun hi=> ?_⟩⟩;have hv:tT (bM s)=(gk (bM s):Rat):=by unfold tT;rw[ar a]
  rw[c]at hi;have M:((gk (bM s):Rat)).num=gk (bM s):=rfl;have N:((gk (bM s):Rat)).den=1:=rfl;rw[hv,M,N];refine⟨?_,FJ⟩;unfold iS;rw[pA hi];rfl

theorem jy.size{r:Rat}(h:jy r):(rS r).size<=800000:=by
 have:=h.length om;show(oa r).length<=_;omega
theorem qA{w:World}{r:Rat}(a:cT w)(h:jy r):Pure Tryz.prog 179 #[.string (rS r)] w fun v _=>v= .tuple #[fV r,.bool true]:=by
 refine pm (iu a _ h.size) ?_;rintro v b _ ⟨p,q,rfl,hv⟩;rw[Ra,zH,wh]at*;obtain⟨rfl,rfl⟩:=hv rfl;rfl
theorem gE{w:World}(a:cT w)(s:ByteArray)(hs:s.size<=800000):Pure Tryz.prog 150 #[.string s] w fun v _=>v= .bool (km (bM s)):=by
 refine F.gE.vc (pm (iu a s hs) ?_);rintro v b _ ⟨p,q,rfl,_⟩;exact⟨_,_,_,rfl,fun c _=>rfl⟩
theorem iq{w:World}{x y:Rat}(b:cT w)(hx:jy x)(hy:jy y):
  Pure Tryz.prog 170 #[.string (rS x),.string (rS y)] w fun v _=>v= .tuple #[fV x,fV y,.int .i64 0]:=by
 refine F.iq.vc fun w1 c=>pm (qA (b.next (k0 c)) hx) ?_
 rintro v g a rfl;refine⟨_,_,_,rfl,fun i d=>pm (qA (b.next (kE (kP (k0 c) a) d)) hy) ?_⟩;rintro v j _ rfl;exact⟨_,_,_,rfl,fun h=>(by simp at h),fun _=>⟨fun h=>(by simp at h),fun _=>⟨fun e _=>rfl,fun e _=>rfl⟩⟩⟩

theorem BK{r:Rat}(h:Sm 300000 r)(w:World):Pure Tryz.prog 227 #[fV r] w fun v _=>v= .string (rS r):=by
 have a:(iS r.num).size<=300001:=h.int om;have b:(nS r.den).size<=300000:=h.nat om;refine F.kK.vc ⟨fun h1 w1 _=> ?_,fun h1=>⟨?_,?_,fun w1 _=> ?_⟩⟩
 ·rw[FJ]at h1;have:=sL h1;unfold rS oa;rw[cc this];rfl
 ·show _+1<=_;omega
 ·rw[ByteArray.size_append];show _+1+_<=_;omega
 ·rw[FJ]at h1;have h2:r.den≠1:=fun k=>h1 (by rw[k])
  have e:rS r=st (kj r.num++47::dY r.den):=by unfold rS oa;rw[ar h2]
  rw[e]
  congr 1
  apply ss;simp[bM,st,iS,nS,IJ]

theorem ur{r:Rat}(h:jy r)(w:World):Pure Tryz.prog 171 #[fV r] w fun v _=>v= .int .i64 (fm r 0):=by
 refine F.kJ.vc fun w1 _=>pm (lQ (h.FK om) _) ?_
 rintro v a _ rfl;refine⟨_,_,rfl,?_⟩;rw[FH]
theorem fW{r:Rat}(h:jy r)(w:World):Pure Tryz.prog 269 #[fV r] w fun v _=>v=fV (-r):=by
 refine F.fW.vc fun w1 _=>pm (nF (h.FK om) _) ?_
 rintro v a _ rfl;exact⟨_,_,rfl,fun b _=>rfl⟩

theorem fP{r:Rat}(h:jy r)(w:World):
  Pure Tryz.prog 291 #[fV r] w fun v _=>v= .tuple #[.int .i64 0,.int .i64 0,.bool false]∨(v= .tuple #[.int .i64 r.num,.int .i64 (r.den:Int),.bool true]/\r.num.natAbs<1000000000/\r.den<1000000000):=by
 refine F.jb.vc ⟨fun _ w1 _=> .inl rfl,fun h1=>⟨fun _ w1 _=> .inl rfl,fun h2 w1 _=> ?_⟩⟩;have a:=yG r.num;have b:=we r.den;have c:(iS r.num).size=(kj r.num).length:=rfl;have d:(nS r.den).size=(dY r.den).length:=rfl;have p1:10^(kj r.num).length<=10^9:=fy om om;have e:10^(dY r.den).length<=10^9:=fy om om;refine pm (ParseInt10 r.num om _) ?_;rintro v g _ rfl;refine⟨_,_,rfl,?_⟩;rw[<-oP];refine pm (ParseInt10 (r.den:Int) om _) ?_;rintro v i _ rfl;exact⟨_,_,rfl,.inr ⟨rfl,om,om⟩⟩

theorem VD{w0:World}(y:cT w0){p:Int}{q:Nat}{R:Value->World->Prop}(hp:p.natAbs<9000000000000000000)(z:q≠0)(K:q<9000000000000000000)(C:∀w,R (fV (mkRat p q)) w):
  ∀(n:Nat)(b a:Int)(s t:ByteArray)(w:World),b.natAbs<=n->Below w0.heap.size w0 w->Nat.gcd a.natAbs b.natAbs=Nat.gcd p.natAbs q->a.natAbs<9000000000000000000->b.natAbs<9000000000000000000->F.dO.L2 p q a b s t w0.heap.size w R:=by
 obtain⟨A,B⟩:=oz (p:=p) z;obtain⟨g,j⟩:∃g,g=Nat.gcd p.natAbs q:=⟨_,rfl⟩
 have L:g≠0:=by rw[j];intro k;exact z (EI k)
 have l:(g:Int)∣p:=by rw[j];exact Int.ofNat_dvd_left.2 (NP _ _)
 rw[<-j]at A B⊢;intro n;induction n with
 |zero=>
  intro b a s t w hb c e ha m;have i:b=0:=om;subst i;rw[Int.natAbs_zero,HF]at e;refine F.dO.L2.step ⟨fun h=>absurd rfl h,fun _=> ?_⟩;have D:(if(-a)>a then(-a)else a)=(g:Int):=by split<;>omega
  rw[D];have M:(p / (g:Int)).natAbs<=p.natAbs:=Int.natAbs_ediv_le_natAbs _ _;have N:=DF q g;have E:Int.tdiv p (g:Int)=p / (g:Int):=Int.tdiv_eq_ediv_of_dvd l;have G:IntKind.wrap .i64 (Int.tdiv p (g:Int))=p / (g:Int):=by rw[E];exact wrap64 ir
  refine⟨ir,om,⟨om,om,ir⟩,fun w1 o=> ?_⟩;rw[G];have d:=kE c o;refine pm (xZ (y.next d) _ om om) ?_;rintro v O r rfl;have H:(q:Int) / (g:Int)=((q / g:Nat):Int):=by simp
  refine⟨_,rfl,?_⟩;rw[H];refine pm (xZ (y.next (kP d r)) _ om om) ?_;rintro v P _ rfl;refine⟨_,rfl,fun I _=> ?_⟩;have:=C I;rw[oP,<-A,<-B];exact this
 |succ n ih=>
  intro b a s t w hb c e ha m;by_cases i:b=0
  ·exact ih b a s t w om c e ha m
  refine F.dO.L2.step ⟨fun _=>⟨i,fun w1 o=> ?_⟩,fun h=>absurd i h⟩;have Q:=u0 a.natAbs (show 0<b.natAbs by omega);have x:(Int.tmod a b).natAbs=a.natAbs % b.natAbs:=Int.natAbs_tmod _ _;have J:Nat.gcd b.natAbs (a.natAbs % b.natAbs)=g:=by rw[CQ,<-Nat.gcd_rec,CQ];exact e
  exact ih (Int.tmod a b) b s t w1 om (kE c o) (by rw[x];exact J) m om

theorem dO{w:World}(b:cT w){p:Int}{q:Nat}(hp:p.natAbs<9000000000000000000)(c:q≠0)(a:q<9000000000000000000):
  Pure Tryz.prog 292 #[.int .i64 p,.int .i64 (q:Int)] w fun v _=>v=fV (mkRat p q):=
 F.dO.vc fun w1 d=>VD b hp c a (fun _=>rfl) _ (q:Int) p _ _ w1 lf (k0 d) sm hp (by simpa using a)

theorem MH{a b:Nat}(ha:a<1000000000)(hb:b<1000000000):a*b<1000000000000000000:=Qz ha hb
theorem MI{a b:Int}(ha:a.natAbs<1000000000)(hb:b.natAbs<1000000000):(a*b).natAbs<1000000000000000000:=by
 rw[og];exact MH ha hb

theorem iw{w:World}{x y:Rat}(c:cT w)(hx:jy x)(hy:jy y):
  Pure Tryz.prog 266 #[fV x,fV y] w fun v _=>v=fV (x+y):=by
 have ex:=QQ x y;have o:=mK x y;have n1:=eC hx.1 hy.2;have n2:=eC hy.1 hx.2;have G:(x.num*(y.den:Int)).natAbs=x.num.natAbs*y.den:=by rw[og,ky]
 have a2:(y.num*(x.den:Int)).natAbs=y.num.natAbs*x.den:=by rw[og,ky]
 have m1:(x.num*(y.den:Int)).natAbs<dL:=by rw[G];exact mL n1 om
 have m2:(y.num*(x.den:Int)).natAbs<dL:=by rw[a2];exact mL n2 om
 have m3:(x.num*(y.den:Int)+y.num*(x.den:Int)).natAbs<dL:=mL (u7 hx hy) om;have m4:x.den*y.den<dL:=mL (mJ hx hy) om;have long:∀w',Below w.heap.size w w'->Pure Tryz.prog 172 #[.string (iS x.num),.string (nS y.den)] w' fun r H=>∃(q:ByteArray)(i39:Int),r=(.tuple #[(.string q),(.int .i64 i39)])/\(Pure Tryz.prog 172 #[(.string (iS y.num)),(.string (nS x.den))] H fun k I=>∃(z:ByteArray)(i43:Int),k=(.tuple #[(.string z),(.int .i64 i43)])/\(Pure Tryz.prog 293 #[(.string q),(.string z)] I fun l m=>∃(d:ByteArray)(i47:Int),l=(.tuple #[(.string d),(.int .i64 i47)])/\(Pure Tryz.prog 232 #[(.string (nS x.den)),(.string (nS y.den))] m fun J K=>∃(A:ByteArray)(i51:Int),J=(.tuple #[(.string A),(.int .i64 i51)])/\(Pure Tryz.prog 294 #[(.string d),(.string A)] K fun L M=>∃(B:ByteArray)(C:ByteArray),L=(.agg #[(.string B),(.string C)])/\(∀N,Ext w.heap.size [182] M N->(Value.agg #[(.string B),(.string C)]=fV (x+y))))))):=by
  intro w1 e;rw[<-oP y.den];refine pm (fU (c.next e) (hx.FK om) (by rw[ky];exact hy.FL om) m1) ?_;rintro v O n rfl;have b:=kP e n;refine⟨_,_,rfl,?_⟩;rw[<-oP x.den];refine pm (fU (c.next b) (hy.FK om) (by rw[ky];exact hx.FL om) m2) ?_;rintro v g i rfl;have a:=kP b i;refine⟨_,_,rfl,pm (nE (c.next a) m1 m2 m3) ?_⟩;rintro v P Q rfl;have j:=kP a Q;refine⟨_,_,rfl,?_⟩;rw[oP,oP];refine pm (iU (c.next j) (hx.FL om) (hy.FL om)) ?_;rintro v R S rfl;have T:=kP j S;refine⟨_,_,rfl,pm (fO (c.next T) m3 m4 o) ?_⟩;rintro v V W rfl;refine⟨_,_,rfl,fun X _=> ?_⟩;rw[<-ex]
 refine F.iw.vc fun w1 U=>pm (fP hx _) ?_
 rintro v O n hv;have b:=kP (k0 U) n;rcases hv with rfl|⟨rfl,p1,D⟩
 ·refine⟨_,_,_,rfl,pm (fP hy _) ?_⟩;rintro v g i hv;have a:=kP b i;rcases hv with rfl|⟨rfl,_⟩
  ·exact⟨_,_,_,rfl,fun h=>(by cases h),fun _=>long g a⟩
  ·exact⟨_,_,_,rfl,fun h=>(by cases h),fun _=>long g a⟩
 ·refine⟨_,_,_,rfl,pm (fP hy _) ?_⟩;rintro v g i hv;have a:=kP b i;rcases hv with rfl|⟨rfl,q1,q2⟩
  ·exact⟨_,_,_,rfl,fun _=>⟨fun h=>(by cases h),fun _=>long g a⟩,fun h=>(by cases h)⟩
  ·have b1:=MH p1 q2;have Y:=MH q1 D;have Z:=MH D q2;have E:(x.den:Int)*(y.den:Int)=((x.den*y.den:Nat):Int):=by simp
   refine⟨_,_,_,rfl,fun _=>⟨fun _=>⟨ir,ir,ir,by rw[E];simp only[az];omega,?_⟩,fun h=>(by cases h)⟩,fun h=>(by cases h)⟩;rw[E];refine pm (dO (c.next a) om o om) ?_;rintro v P _ rfl;refine⟨_,_,rfl,fun R _=> ?_⟩;rw[<-ex]

theorem ja{w:World}{x y:Rat}(e:cT w)(hx:jy x)(hy:jy y):
  Pure Tryz.prog 267 #[fV x,fV y] w fun v _=>v=fV (x*y):=by
 have ex:=Rat.mul_def' x y;have j:=mK x y;have q:(x.num*y.num).natAbs=x.num.natAbs*y.num.natAbs:=og _ _;have m1:(x.num*y.num).natAbs<dL:=by rw[q];exact mL (eC hx.1 hy.1) om
 have m4:x.den*y.den<dL:=mL (mJ hx hy) om;have long:∀w',Below w.heap.size w w'->Pure Tryz.prog 172 #[.string (iS x.num),.string (iS y.num)] w' fun r z=>∃(k:ByteArray)(i39:Int),r=(.tuple #[(.string k),(.int .i64 i39)])/\(Pure Tryz.prog 232 #[(.string (nS x.den)),(.string (nS y.den))] z fun A B=>∃(l:ByteArray)(i51:Int),A=(.tuple #[(.string l),(.int .i64 i51)])/\(Pure Tryz.prog 294 #[(.string k),(.string l)] B fun C D=>∃(m:ByteArray)(n:ByteArray),C=(.agg #[(.string m),(.string n)])/\(∀E,Ext w.heap.size [182] D E->(Value.agg #[(.string m),(.string n)]=fV (x*y))))):=by
  intro w1 b;refine pm (fU (e.next b) (hx.FK om) (hy.FK om) m1) ?_;rintro v G H rfl;have c:=kP b H;refine⟨_,_,rfl,pm (iU (e.next c) (hx.FL om) (hy.FL om)) ?_⟩;rintro v I J rfl;have K:=kP c J;refine⟨_,_,rfl,pm (fO (e.next K) m1 m4 j) ?_⟩;rintro v O P rfl;refine⟨_,_,rfl,fun Q _=> ?_⟩;rw[<-ex]
 refine F.ja.vc fun w1 L=>pm (fP hx _) ?_
 rintro v R M hv;have d:=kP (k0 L) M;rcases hv with rfl|⟨rfl,p1,N⟩
 ·refine⟨_,_,_,rfl,pm (fP hy _) ?_⟩;rintro v g i hv;have a:=kP d i;rcases hv with rfl|⟨rfl,_⟩
  ·exact⟨_,_,_,rfl,fun h=>(by cases h),fun _=>long g a⟩
  ·exact⟨_,_,_,rfl,fun h=>(by cases h),fun _=>long g a⟩
 ·refine⟨_,_,_,rfl,pm (fP hy _) ?_⟩;rintro v g i hv;have a:=kP d i;rcases hv with rfl|⟨rfl,q1,q2⟩
  ·exact⟨_,_,_,rfl,fun _=>⟨fun h=>(by cases h),fun _=>long g a⟩,fun h=>(by cases h)⟩
  ·have b1:=MI p1 q1;have S:=MH N q2;have o:(x.den:Int)*(y.den:Int)=((x.den*y.den:Nat):Int):=by simp
   refine⟨_,_,_,rfl,fun _=>⟨fun _=>⟨ir,by rw[o];simp only[az];omega,?_⟩,fun h=>(by cases h)⟩,fun h=>(by cases h)⟩;rw[o];refine pm (dO (e.next a) om j om) ?_;rintro v G _ rfl;refine⟨_,_,rfl,fun I _=> ?_⟩;rw[<-ex]

theorem DV{w:World}{B r:Nat}(o:Obj)(a:B<=r):Below B w {w with heap:=w.heap.setIfInBounds r o}:=
 ⟨rfl,rfl,rfl,sm,fun k b=>by simp[HV,show r≠k by omega]⟩
theorem wo{w:World}{B r:Nat}{es:Array MapEntry}{clock:Nat}{key:Int}{val:Value}{K:World->Prop}(hb:w.heap[r]? =some (.map es clock))(hB:B<=r)
  (hf:Instr.findNow (.int .u8) (.int .u8 key) es.toList 0=some none) (b:∀w',w'.heap[r]? =some (.map (es.push {key:= .int .u8 key,val:=val,born:=clock}) (clock+1))->K w'):
  jz Tryz.prog (Instr.mapUpdate 230 (.map (some r)) (.int .u8 key) val) B [] w K:=by
 have hm:=Tryz.underlying230;have a:=Tryz.underlying5;have c:(Instr.checkKey false 10000 5 (.int .u8 key)).run Tryz.prog w= .ok () w:=MapKept.run_checkKey a (by simp[MapKept.IsKey]) false 9999;refine⟨{w with heap:=w.heap.setIfInBounds r (.map (es.push {key:= .int .u8 key,val:=val,born:=clock}) (clock+1))},?_,DV _ hB,sm,fun k ty cs h=>(by cases h),b _ ?_⟩
 ·simp[Instr.mapUpdate,run_underlying hm,MapKept.run_getObj_map hb,c,MapKept.run_findKey a hf,MapKept.run_setObj_map _ hb,Result.andThen]
 ·have:=(bU.1 hb).1;simp[HV,this]

def zP:Array MapEntry:= #[{key:= .int .u8 43,val:= .func (.func 266) #[] #[],born:=0},{key:= .int .u8 42,val:= .func (.func 267) #[] #[],born:=1},
 {key:= .int .u8 45,val:= .func (.func 268) #[] #[],born:=2},{key:= .int .u8 47,val:= .func (.func 270) #[] #[],born:=3}]

theorem ff(w:World):Pure Tryz.prog 249 #[] w fun v w'=>∃r,v= .map (some r)/\w'.heap[r]? =some (.map zP 4):=by
 have a:=World.grownBy_alloc w (.map #[] 0) none;refine F.ff.vc ⟨_,_,(by simp[Instr.makeMap]:(Instr.makeMap 230 none).run Tryz.prog w= .ok (.map (some w.heap.size)) (w.alloc (.map #[] 0))),bS a sm lf,a.size,fun k ty cs h=>(by cases h),_,rfl,?_⟩;refine wo (World.alloc_heap_new w _) lf rfl fun c h2=> ?_
 refine wo h2 lf rfl fun d h3=> ?_
 refine wo h3 lf rfl fun e h4=> ?_
 refine wo h4 lf rfl fun g b=> ?_
 exact⟨_,rfl,b⟩
theorem lT(w:World):Pure Tryz.prog 226 #[] w fun v w'=>∃r,v= .map (some r)/\w'.heap[r]? =some (.map zP 4):=by
 refine F.lT.vc (pm (ff w) ?_);rintro v a _ ⟨r,rfl,h⟩;exact⟨_,rfl,r,rfl,h⟩

theorem SB{w:World}{r:Nat}{key:Int}{f i:Nat}(h:w.heap[r]? =some (.map zP 4))(hf:Instr.findNow (.int .u8) (.int .u8 key) zP.toList 0=some (some (i,.func (.func f) #[] #[]))):
  (Instr.lookup 230 (.map (some r)) (.int .u8 key) false).run Tryz.prog w= .ok (.func (.func f) #[] #[]) w:=by
 have hm:=Tryz.underlying230;have a:=Tryz.underlying5;have b:(Instr.checkKey zP.isEmpty 10000 5 (.int .u8 key)).run Tryz.prog w= .ok () w:=MapKept.run_checkKey a (by simp[MapKept.IsKey]) _ 9999;simp[Instr.lookup,run_underlying hm,MapKept.run_getObj_map h,b,MapKept.run_findKey a hf,Result.andThen]

theorem zQ{w:World}{x y:Rat}(a:cT w)(hx:jy x)(hy:jy y):
  Pure Tryz.prog 268 #[fV x,fV y] w fun v _=>v=fV (x - y):=by
 refine F.gU.vc fun w1 b=>pm (fW hy _) ?_
 rintro v d c rfl;refine⟨_,_,rfl,pm (iw (a.next (kP (k0 b) c)) hx hy.neg) ?_⟩;rintro v e _ rfl;refine⟨_,_,rfl,fun g _=> ?_⟩;rw[Pr]

theorem fH{w:World}{x y z:Rat}{key:Int}{f i:Nat}(k:cT w)(hx:jy x)(hy:jy y)(m:Sm 300000 z)(n:key≠47)(hf:Instr.findNow (.int .u8) (.int .u8 key) zP.toList 0=some (some (i,.func (.func f) #[] #[])))
  (o:bc Tryz.prog f=true) (h:∀w,cT w->Pure Tryz.prog f #[fV x,fV y] w fun v _=>v=fV z):
  Pure Tryz.prog 194 #[.int .u8 key,.string (rS x),.string (rS y)] w fun v _=>v= .tuple #[.string (rS z),.int .i64 0]:=by
 refine F.fH.vc (pm (iq k hx hy) ?_);rintro v G q rfl;have call:∀e,Below w.heap.size w e->bc Tryz.prog f=true/\(Pure Tryz.prog f ((Array.toList (#[]:Array Value))++([(.agg #[(.string (iS x.num)),(.string (nS x.den))]),(.agg #[(.string (iS y.num)),(.string (nS y.den))])]:List Value)++(Array.toList (#[]:Array Value))).toArray e fun g A=>∃(b:ByteArray)(l:ByteArray),g=(.agg #[(.string b),(.string l)])/\(Pure Tryz.prog 227 #[(.agg #[(.string b),(.string l)])] A fun B H=>∃(c:ByteArray),B=(.string c)/\(Value.tuple #[(.string c),(.int .i64 (0:Int))]= .tuple #[.string (rS z),.int .i64 0]))):=by
  intro e hb;refine⟨o,pm (h e (k.next hb)) ?_⟩;rintro v I _ rfl;refine⟨_,_,rfl,pm (BK m _) ?_⟩;rintro v J _ rfl;exact⟨_,rfl,rfl⟩
 have look:∀d r,Below w.heap.size w d->d.heap[r]? =some (.map zP 4)->∀fB,∀K:Value->World->Prop,K (.func (.func f) #[] #[]) d->au Tryz.prog (Instr.lookup 230 (.map (some r)) (.int .u8 key) false) w.heap.size fB d K:=by
  intro d r hb j fB K C;exact⟨_,_,SB j hf,Below.refl _ _,hM _,fun _ _ _ _ h=>rfl,C⟩
 refine⟨_,_,_,_,_,rfl,fun h=>absurd rfl h,fun _=>⟨fun h=>absurd h n,fun _=> ?_⟩⟩
 repeat' apply And.intro
 all_goals (intro L D;refine pm (lT _) ?_;rintro v M E ⟨r,rfl,j⟩;have a:=kP (kE q D) E;refine⟨_,rfl,?_⟩)
 all_goals repeat' apply And.intro
 all_goals (refine look _ r a j _ _ ⟨_,_,_,rfl,?_⟩)
 all_goals first|exact call _ a|exact⟨call _ a,call _ a⟩

theorem jo{w:World}{x y:Rat}(a:cT w)(hx:jy x)(hy:jy y):
  Pure Tryz.prog 165 #[.string (rS x),.string (rS y)] w fun v _=>v= .tuple #[.string (rS (x+y)),.int .i64 0]:=by
 refine F.jo.vc (pm (fH a hx hy ((hx.add hy).mono om) om rfl kF fun w a=>iw a hx hy) ?_);rintro v b _ rfl;exact⟨_,_,rfl,rfl⟩
theorem lS{w:World}{x y:Rat}(a:cT w)(hx:jy x)(hy:jy y):
  Pure Tryz.prog 164 #[.string (rS x),.string (rS y)] w fun v _=>v= .tuple #[.string (rS (x - y)),.int .i64 0]:=by
 refine F.lS.vc (pm (fH a hx hy ((hx.sub hy).mono om) om rfl kF fun w a=>zQ a hx hy) ?_);rintro v b _ rfl;exact⟨_,_,rfl,rfl⟩
theorem jq{w:World}{x y:Rat}(a:cT w)(hx:jy x)(hy:jy y):
  Pure Tryz.prog 166 #[.string (rS x),.string (rS y)] w fun v _=>v= .tuple #[.string (rS (x*y)),.int .i64 0]:=by
 refine F.jq.vc (pm (fH a hx hy ((hx.mul hy).mono om) om rfl kF fun w a=>ja a hx hy) ?_);rintro v b _ rfl;exact⟨_,_,rfl,rfl⟩

theorem fC {w : World} {x y : Rat} (d : cT w) (hx : jy x) (hy : jy y) :
    Pure Tryz.prog 141 #[.string (rS x), .string (rS y)] w fun v _ => v = .tuple #[.int .i64 (fm x y), .int .i64 0] := by
  refine F.fC.vc (pm (iq d hx hy) ?_)
  rintro v G o rfl
  refine ⟨_, _, _, _, _, rfl, fun h => absurd rfl h, fun _ => ⟨fun h q _ => ?_, fun r q A => pm (ur hx _) ?_⟩⟩
  · have : x = y := Mz (zA h)
    subst this
    rw [DT.2 rfl]
  rintro v H B rfl
  have j := kP (kE o A) B
  refine ⟨_, rfl, pm (ur hy _) ?_⟩
  rintro v I C rfl
  have m := kP j C
  have g : ∀ z : Rat, (z < 0 ∧ fm z 0 = -1) ∨ (z = 0 ∧ fm z 0 = 0) ∨ (0 < z ∧ fm z 0 = 1) := by
    intro z
    unfold fm
    by_cases h1 : z < 0
    · rw [cc h1]; exact .inl ⟨h1, rfl⟩
    · rw [ar h1]
      by_cases h2 : 0 < z
      · rw [cc h2]; exact .inr (.inr ⟨h2, rfl⟩)
      · rw [ar h2]; exact .inr (.inl ⟨Rat.le_antisymm (Ps.1 h2) (Ps.1 h1), rfl⟩)
  have PD : (x.num * (y.den : Int) - y.num * (x.den : Int)).sign = fm x y := by
    have h1 := wi x y
    have h2 := wi y x
    have h3 := MA x y
    unfold fm
    rcases PX (x.num * (y.den : Int) - y.num * (x.den : Int)) 0 with k | k | k
    · rw [cc (h1.2 k), DB k]
    · rw [ar (fun c => by have := h1.1 c; omega), ar (fun c => by have := h2.1 c; omega), k]; rfl
    · rw [ar (fun c => by have := h1.1 c; omega), cc (h2.2 om), HM k]
  refine ⟨_, rfl, fun hs => ?_, fun hs => ?_⟩
  · have e : fm x y = (if (if (1 : Int) < (fm x 0 - fm y 0) then (1 : Int) else (fm x 0 - fm y 0)) > (-1 : Int) then (if (1 : Int) < (fm x 0 - fm y 0) then (1 : Int) else (fm x 0 - fm y 0)) else (-1 : Int)) := by
      rcases g x with ⟨i, a2⟩ | ⟨i, a2⟩ | ⟨i, a2⟩ <;> rcases g y with ⟨b1, b⟩ | ⟨b1, b⟩ | ⟨b1, b⟩ <;> rw [a2, b] at hs ⊢ <;> first | exact absurd rfl hs | skip
      all_goals first
        | (have a : x < y := by grind
           have l : fm x y = -1 := by unfold fm; rw [cc a]
           rw [l]; rfl)
        | (have a : y < x := by grind
           have l : fm x y = 1 := by unfold fm; rw [ar (Ps.2 (Rat.le_of_lt a)), cc a]
           rw [l]; rfl)
    refine ⟨?_, ?_⟩
    · rcases g x with ⟨_, a2⟩ | ⟨_, a2⟩ | ⟨_, a2⟩ <;> rcases g y with ⟨_, b⟩ | ⟨_, b⟩ | ⟨_, b⟩ <;> rw [a2, b] <;> simp only [az] <;> omega
    · rw [← e]
  · have n1 := eC hx.1 hy.2
    have n2 := eC hy.1 hx.2
    have i : (x.num * (y.den : Int)).natAbs = x.num.natAbs * y.den := by rw [og, ky]
    have a2 : (y.num * (x.den : Int)).natAbs = y.num.natAbs * x.den := by rw [og, ky]
    have m1 : (x.num * (y.den : Int)).natAbs < dL := by rw [i]; exact mL n1 om
    have m2 : (y.num * (x.den : Int)).natAbs < dL := by rw [a2]; exact mL n2 om
    rw [← oP y.den, ← oP x.den]
    refine pm (fU (d.next m) (hx.FK om) (by rw [ky]; exact hy.FL om) m1) ?_
    rintro v J D rfl
    have n := kP m D
    refine ⟨_, _, rfl, pm (fU (d.next n) (hy.FK om) (by rw [ky]; exact hx.FL om) m2) ?_⟩
    rintro v K E rfl
    refine ⟨_, _, rfl, pm (ij (d.next (kP n E)) m1 m2) ?_⟩
    rintro v L _ rfl
    refine ⟨_, _, rfl, ?_⟩
    rw [PD]
end Go.Proofs.YtgfkeadgjkfomaaGreatDoor.B
