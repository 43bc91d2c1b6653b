/- Part 9 of the proofs that: SequenceStates, SequenceOrders and SequenceChecks hold for every input: the program's functions return what the reference functions return -/
import Derived.Test.YtgfkeadgjkfomaaGreatDoorS8
import Derived.Maps.OwnSet
import Derived.Maps.Views
import Derived.Maps.Keyed
import Derived.Carry
import Derived.Test.YtgfkeadgjkfomaaGreatDoorProg
set_option linter.unusedVariables false
set_option linter.unusedSimpArgs false
namespace Go.Proofs.YtgfkeadgjkfomaaGreatDoor.B
open Go Go.RowKit Go.Proofs Go.Proofs.YtgfkeadgjkfomaaGreatDoor.Vc Go.Maps

structure Qm (t tk te:Nat):Prop where
 t:Tryz.prog.underlying t=some (.map tk te)
 k:Tryz.prog.underlying tk=some (.int .i64)
 e:Tryz.prog.underlying te=some .bool
 z:∀w,(zeroValue te).run Tryz.prog w= .ok (.bool false) w
def kN(f:Int->Option Bool):Nat:=(List.range 128).countP fun z:Nat=>(f (z:Int)).isSome
theorem Wr(f:Int->Option Bool):kN f<=128:=ga IQ sm
abbrev vr(f:Int->Option Bool)(z:Int)(x:Bool):Int->Option Bool:=fun y=>if y=z then some x else f y
theorem Tq{f:Int->Option Bool}{z:Int}(h0:0<=z)(h1:z<128)(x:Bool):kN f+(if(f z).isSome then 0 else 1)=kN (vr f z x):=by
 have key:∀l:List Nat,l.Nodup->(l.countP fun y:Nat=>(f (y:Int)).isSome)+(if z.toNat∈l/\(f z).isSome=false then 1 else 0)=l.countP fun y:Nat=>(vr f z x (y:Int)).isSome:=by
  intro l;induction l with
  |nil=>intro _;simp
  |cons a r ih=>
   intro hn;obtain⟨n1,n2⟩:=xu.1 hn;have ih:=ih n2;rw[N6,N6];by_cases e:(a:Int)=z
   ·have c:z.toNat=a:=om;rw[ar (fun k=>n1 (c▸k.1))]at ih;subst e;simp only[vr,↓reduceIte,Option.isSome_some,dq,fi,true_or,true_and]at ih⊢;rw[<-ih];cases f (a:Int)<;>simp
   ·have c:z.toNat≠a:=om;simp only[vr,ar e,fi,c,false_or]at ih⊢;omega
 have:=key (List.range 128) N9;rw[<-show _=kN (vr f z x)from this];unfold kN;have hm:z.toNat∈List.range 128:=jA.2 om;cases hf:(f z).isSome<;>simp[hm]
def rL(w:World)(B tk te b:Nat)(f:Int->Option Bool):Prop:=
 B<=b/\∃D:DataW Unit,w.ownsMap Tryz.prog tk (plainElem Tryz.prog te) b (Maps.size D) D/\Maps.size D<=kN f/\∀z,has D (.int .i64 z)=(f z).isSome/\D.atKey (.int .i64 z) (.lit (.bool false))= .lit (.bool ((f z).getD false))
section
variable {w:World} {B t tk te b:Nat} {f:Int->Option Bool}
theorem yR(T:Qm t tk te){z:Int}(a:(Lit.int .i64 z).wf=true):keyOf Tryz.prog tk (.int .i64 z)=some (.int .i64 z):=by simp[keyOf,mapKey,T.k,a]
theorem rL.made(w:World)(tk te:Nat){B:Nat}(hB:B<=w.heap.size):rL (w.alloc (.map #[] 0)) B tk te w.heap.size fun _=>none:=
 ⟨hB,.map [],World.ownsMap_made w _ _ _,Oq _,fun _=>⟨rfl,rfl⟩⟩
theorem rL.lt(h:rL w B tk te b f):b<w.heap.size:=by obtain⟨_,D,h,_⟩:=h;exact h.lt
theorem rL.le{a:Nat}(h:rL w B tk te b f)(hB:a<=B):rL w a tk te b f:=⟨ga hB h.1,h.2⟩
theorem rL.same{w':World}(h:rL w B tk te b f)(hb:w'.heap[b]? =w.heap[b]?):rL w' B tk te b f:=by
 obtain⟨h1,D,h2,h3⟩:=h;refine⟨h1,D,?_,h3⟩;obtain⟨es,clock,a,F,c,d⟩:=h2;exact⟨es,clock,hb.trans a,F,c,d⟩
theorem rL.below{w':World}(h:rL w B tk te b f)(hb:Below w.heap.size w w'):rL w' B tk te b f:=h.same (hb.block b h.lt)
theorem rL.isMap(h:rL w B tk te b f):∃es clock,w.heap[b]? =some (.map es clock):=by
 obtain⟨h1,D,⟨es,clock,a,_⟩,h3⟩:=h;exact⟨es,clock,a⟩
theorem rL.ext{B0:Nat}{ts:List Nat}{w':World}(h:rL w B tk te b f)(x:Ext B0 ts w w'):rL w' B tk te b f:=by
 refine h.same ?_;obtain⟨es,clock,a⟩:=h.isMap;rcases x.other b h.lt with q|⟨_,_,c,c',fr,q,_⟩
 ·exact q
 ·rw[a]at q;cases q
theorem tf(T:Qm t tk te){v:Value}{z:DataW Unit×List MemPlace}(h:plainElem Tryz.prog te v=some z):∃x,v= .bool x/\z=(.lit (.bool x),[]):=by
 unfold plainElem at h;rw[T.e]at h;cases v<;>simp at h;rename_i x;exact⟨x,rfl,h.symm⟩
theorem rL.look(h:rL w B tk te b f)(T:Qm t tk te){z:Int}(a:(Lit.int .i64 z).wf=true):(Instr.lookup t (.map (some b)) (.int .i64 z) false).run Tryz.prog w= .ok (.bool ((f z).getD false)) w:=by
 obtain⟨_,D,h2,_,h3⟩:=h;obtain⟨v,ps,c,hv⟩:=h2.lookup (int_keyed T.k) T.t (T.z w) (plainElem_bool T.e false) (yR T a);obtain⟨x,rfl,hx⟩:=tf T hv;simp only[Oo]at hx;rw[(h3 z).2]at hx;cases hx.1;exact c
theorem rL.look_ok(h:rL w B tk te b f)(T:Qm t tk te){z:Int}(c:(Lit.int .i64 z).wf=true):(Instr.lookup t (.map (some b)) (.int .i64 z) true).run Tryz.prog w= .ok (.tuple #[.bool ((f z).getD false),.bool (f z).isSome]) w:=by
 obtain⟨_,D,h2,_,h3⟩:=h;obtain⟨v,ps,a,hv⟩:=h2.look_ok (int_keyed T.k) T.t (T.z w) (plainElem_bool T.e false) (yR T c);obtain⟨x,rfl,hx⟩:=tf T hv;simp only[Oo]at hx;rw[(h3 z).2]at hx;cases hx.1;rw[(h3 z).1]at a;exact a
theorem rL.update(h:rL w B tk te b f)(T:Qm t tk te){z:Int}(h0:0<=z)(j:z<128)(x:Bool):∃w',(Instr.mapUpdate t (.map (some b)) (.int .i64 z) (.bool x)).run Tryz.prog w= .ok () w'/\rL w' B tk te b (vr f z x)/\w.grownBy w' (some b):=by
 have d:(Lit.int .i64 z).wf=true:=by simp[Lit.wf,IntKind.min,IntKind.max,IntKind.signed,IntKind.bits];omega
 obtain⟨h1,D,h2,hs,h3⟩:=h;have K:Keyed Tryz.prog tk:=int_keyed T.k;have l:=Wr f;obtain⟨w',m,a,n⟩:=h2.update K T.t (by unfold maxLen;omega) (yR T d) (plainElem_bool T.e x);have hm:=h2.isMap;have g:=K.key (yR T d);have k9:=size_put (k:= .int .i64 z) (h2.tidy K) (.lit (.bool x));refine⟨w',m,⟨h1,D.put (.int .i64 z) (.lit (.bool x)),?_,?_,fun y=> ?_⟩,n⟩
 ·obtain⟨es,clock,o,F,p,i⟩:=a;exact⟨es,clock,o,F,by rw[i];simp[Maps.size,length_sorted],i⟩
 ·rw[k9,(h3 z).1,<-Tq h0 j x];split<;>simp_all
 ·show has _ _=(vr f z x y).isSome/\_=DataW.lit (Lit.bool ((vr f z x y).getD false));unfold vr;by_cases e:y=z
  ·subst e;rw[cc rfl,has_put_same hm g,atKey_put_same hm g];exact⟨rfl,rfl⟩
  ·have c:(Lit.int .i64 y)≠ .int .i64 z:=fun k=>by cases k;exact e rfl
   rw[ar e,has_put_other c,atKey_put_other c];exact h3 y
theorem Gj{w':World}(h:rL w B tk te b f)(c:w.grownBy w' (some b)){k ty:Nat}{cs:Array Value}{fr:Nat×Nat}(a:w.heap[k]? =some (.cells cs ty fr)):w'.heap[k]? =w.heap[k]? :=by
 obtain⟨es,clock,d⟩:=h.isMap;refine c.block k (bU.1 a).1 fun e=> ?_
 cases e;rw[d]at a;cases a
theorem Gk{z:Int}(h0:0<=z)(h1:z<128):(Lit.int .i64 z).wf=true:=by simp[Lit.wf,IntKind.min,IntKind.max,IntKind.signed,IntKind.bits];omega
theorem rz(h:rL w B tk te b f)(T:Qm t tk te){z:Int}(h0:0<=z)(h1:z<128){B0:Nat}{fB:List Nat}{K:Bool->World->Prop}(a:K ((f z).getD false) w):
  au Tryz.prog (Instr.lookup t (.map (some b)) (.int .i64 z) false) B0 fB w fun r w1=>∃x,r= .bool x/\K x w1:=
 ⟨_,w,h.look T (Gk h0 h1),Below.refl _ _,hM _,fun _ _ _ _ _=>rfl,_,rfl,a⟩
theorem Eo(h:rL w B tk te b f)(T:Qm t tk te){z:Int}(h0:0<=z)(h1:z<128){B0:Nat}{fB:List Nat}{K:Bool->Bool->World->Prop}(a:K ((f z).getD false) (f z).isSome w):
  au Tryz.prog (Instr.lookup t (.map (some b)) (.int .i64 z) true) B0 fB w fun r w1=>∃x y,r= .tuple #[.bool x,.bool y]/\K x y w1:=
 ⟨_,w,h.look_ok T (Gk h0 h1),Below.refl _ _,hM _,fun _ _ _ _ _=>rfl,_,_,rfl,a⟩
theorem mj(h:rL w B tk te b f)(T:Qm t tk te){z:Int}(h0:0<=z)(h1:z<128)(x:Bool){B0:Nat}(a:B0<=B)(c:B0<=w.heap.size){fB:List Nat}{K:World->Prop}
  (g:∀w',rL w' B tk te b (vr f z x)->Below B0 w w'->w.grownBy w' (some b)->K w'):
  jz Tryz.prog (Instr.mapUpdate t (.map (some b)) (.int .i64 z) (.bool x)) B0 fB w K:=by
 obtain⟨w',i,hm,d⟩:=h.update T h0 h1 x;have hb:Below B0 w w':=bS d (fun k e=>by cases e;exact ga a h.1) c;exact⟨w',i,hb,hb.size,fun k ty cs _ e=>Gj h d e,g w' hm hb d⟩
theorem nz{w:World}{t tk te:Nat}{B:Nat}{fB:List Nat}(hB:B<=w.heap.size){K:Option Nat->World->Prop}
  (a:∀w',rL w' w.heap.size tk te w.heap.size (fun _=>none)->Below w.heap.size w w'->K (some w.heap.size) w'):
  au Tryz.prog (Instr.makeMap t none) B fB w fun r w1=>∃m:Option Nat,r= .map m/\K m w1:=by
 have c:=World.grownBy_alloc w (.map #[] 0) none;have hb:Below w.heap.size w (w.alloc (.map #[] 0)):=bS c sm lf;exact⟨_,_,run_makeMap t w,hb.mono hB,hb.size,fun k ty cs _ d=>hb.block k (bU.1 d).1,_,rfl,a _ (rL.made w tk te lf) hb⟩
end
structure Cl (w w':World):Prop where
 size:w.heap.size<=w'.heap.size
 cells:∀(k:Nat)(cs:Array Value)(ty:Nat)(fr:Nat×Nat),w.heap[k]? =some (Obj.cells cs ty fr)->w'.heap[k]? =some (Obj.cells cs ty fr)
theorem Cl.refl(w:World):Cl w w:=⟨hM _,fun _ _ _ _ h=>h⟩
theorem Cl.trans{w w1 a:World}(h:Cl w w1)(k:Cl w1 a):Cl w a:=⟨ga h.size k.size,fun b cs ty fr e=>k.cells b cs ty fr (h.cells b cs ty fr e)⟩
theorem Cl.low{w w':World}(h:Below w.heap.size w w'):Cl w w':=⟨h.size,fun k cs ty fr e=>(h.block k (bU.1 e).1).trans e⟩
theorem Cl.map{w w':World}{B tk te b:Nat}{f:Int->Option Bool}(h:rL w B tk te b f)(a:w.grownBy w' (some b)):Cl w w':=⟨a.size,fun k cs ty fr e=>(Gj h a e).trans e⟩
theorem cK.cl{w w':World}{A:Option Addr}{sz:Nat}{rows:List (List Value)}(h:cK w A sz rows)(c:Cl w w'):cK w' A sz rows:=by
 rcases h with h|⟨b,off,cs,ty,fr,a,d,e⟩
 ·exact .inl h
 ·exact .inr ⟨b,off,cs,ty,fr,a,c.cells _ _ _ _ d,e⟩
theorem bF.cl{w w':World}{B ty:Nat}{A:Option Addr}{n c sz:Nat}{rows:List (List Value)}(h:bF w B ty A n c sz rows)(k:Cl w w'):bF w' B ty A n c sz rows:=by
 refine⟨⟨h.1.1,?_⟩,h.2⟩;rcases h.1.2 with h1|⟨g,cap,cur,h1,h2,h3,h4⟩
 ·exact .inl h1
 ·exact .inr ⟨g,cap,cur,h1,h2,k.cells _ _ _ _ h3,h4⟩
open Go Go.RowKit Go.Proofs Go.Proofs.YtgfkeadgjkfomaaGreatDoor.Vc

structure Rm where
 r:Ru
 A:Option Addr
 n:Nat
 c:Nat
abbrev Rm.row(x:Rm):List Value:=[.string x.r.name,.int .i64 x.r.kind,.slice x.A x.n x.c,.string x.r.low,.string x.r.high,.int .i64 x.r.a,.int .i64 x.r.b]
abbrev Rm.val(x:Rm):Value:= .agg #[.string x.r.name,.int .i64 x.r.kind,.slice x.A x.n x.c,.string x.r.low,.string x.r.high,.int .i64 x.r.a,.int .i64 x.r.b]
structure Qn (r:Ru):Prop where
 iL:∀s∈r.iL,rW s
 low:rW r.low
 high:rW r.high
 name:r.name.size<2147483648
 len:r.iL.length<=8
structure tg (w:World) (x:Rm):Prop where
 f:cK w x.A 1 (x.r.iL.map zU)
 l:x.r.iL.length=x.n
 s:Qn x.r
 z:x.A=none->x.c=0
theorem tg.aj{w w':World}{x:Rm}(h:tg w x)(hb:Below w.heap.size w w'):tg w' x:=⟨h.f.aj hb lf,h.l,h.s,h.z⟩
theorem tg.cl{w w':World}{x:Rm}(h:tg w x)(c:Cl w w'):tg w' x:=⟨h.f.cl c,h.l,h.s,h.z⟩
structure fu (w:World) (A0:Option Addr) (n0:Nat) (A1:Option Addr) (n1:Nat) (A2:Option Addr) (n2 c2:Nat) (ps:List Pa) (hs:List Ho) (xs:List Rm):Prop where
 c:dF w A0 n0 A1 n1 ps hs
 r:cK w A2 7 (xs.map Rm.row)
 l:xs.length=n2
 f:∀x∈xs,tg w x
 n:n2<=17
 k:n2<=c2
abbrev aT(xs:List Rm):List Ru:=xs.map Rm.r
section
variable {w w':World} {A0 A1 A2:Option Addr} {n0 n1 n2 c2:Nat} {ps:List Pa} {hs:List Ho} {xs:List Rm}
theorem fu.aj(h:fu w A0 n0 A1 n1 A2 n2 c2 ps hs xs)(hb:Below w.heap.size w w'):fu w' A0 n0 A1 n1 A2 n2 c2 ps hs xs:=
 ⟨h.c.aj hb,h.r.aj hb lf,h.l,fun x hx=>(h.f x hx).aj hb,h.n,h.k⟩
theorem dF.cl(h:dF w A0 n0 A1 n1 ps hs)(c:Cl w w'):dF w' A0 n0 A1 n1 ps hs:=⟨h.p.cl c,h.h.cl c,h.lp,h.lh,h.sp,h.sh,h.np,h.nh⟩
theorem fu.cl(h:fu w A0 n0 A1 n1 A2 n2 c2 ps hs xs)(c:Cl w w'):fu w' A0 n0 A1 n1 A2 n2 c2 ps hs xs:=
 ⟨h.c.cl c,h.r.cl c,h.l,fun x hx=>(h.f x hx).cl c,h.n,h.k⟩
theorem fu.at_(h:fu w A0 n0 A1 n1 A2 n2 c2 ps hs xs){i:Nat}(hi:i<xs.length):
  (0<=(i:Int)/\(i:Int)<n2)/\∃a,A2=some a/\ae w (a.add ((i:Int).toNat*7)) (xs[i].row)/\∀k u,(xs[i].row)[k]? =some u->ae w ((a.add ((i:Int).toNat*7)).add k) [u]:=
 h.r.at_ (fun _=>rfl) h.l hi
end

def rM(a:List Int)(j:Nat)(u:Int):List Int:=a.set j (a.getD j 0+u)
theorem CM(a:List Int)(j:Nat)(u:Int):(rM a j u).length=a.length:=by unfold rM;simp
theorem KN{a:List Int}{j:Nat}{u:Int}{i:Nat}:(rM a j u)[i]? =if j=i/\i<a.length then some (a.getD i 0+u)else a[i]? :=by
 unfold rM;rw[List.getElem?_set];by_cases e:j=i
 ·subst e;by_cases h:j<a.length
  ·simp[h]
  ·simp[h]
 ·simp[e]
theorem yi(ps:List Pa)(hs:List Ho)(set n:Nat)(a:List Int)(w:Sw)(r:List Sw):kY ps hs set n a (w::r)=kY ps hs set (n+1) (if set.testBit n then(match gq ps hs w with|some j=>rM a j w.aO|none=>a)else a) r:=by
 rw[kY];rfl

def B5(f:Nat->Nat->Int)(ps:List Pa)(hs:List Ho)(k i:Nat):List Sw:=
 match hs[k]?,ps[i]? with
 |some h,some p=>if f i k≠0 then[⟨h.id,p.id,f i k⟩]else[]
 |_,_=>[]
def rA(f:Nat->Nat->Int)(ps:List Pa)(hs:List Ho):List Sw:=(List.range hs.length).flatMap fun k=>(List.range ps.length).flatMap fun i=>B5 f ps hs k i
theorem NH{f:Nat->Nat->Int}{ps:List Pa}{hs:List Ho}{k i:Nat}{s:Sw}:s∈B5 f ps hs k i↔∃h p,hs[k]? =some h/\ps[i]? =some p/\f i k≠0/\s=⟨h.id,p.id,f i k⟩:=by
 unfold B5;constructor
 ·intro h;split at h
  ·rename_i c p a b;split at h
   ·rename_i h0;rw[gb]at h;exact⟨c,p,a,b,h0,h⟩
   ·cases h
  ·cases h
 ·rintro⟨h,p,a,b,h0,rfl⟩;rw[a,b];simp only;rw[cc h0];simp
theorem Js{f:Nat->Nat->Int}{ps:List Pa}{hs:List Ho}{s:Sw}:s∈rA f ps hs↔∃k i h p,hs[k]? =some h/\ps[i]? =some p/\f i k≠0/\s=⟨h.id,p.id,f i k⟩:=by
 unfold rA;simp only[Ln,jA,NH];constructor
 ·rintro⟨k,_,i,_,h,p,e⟩;exact⟨k,i,h,p,e⟩
 ·rintro⟨k,i,h,p,a,b,e⟩;exact⟨k,(ew.1 a).1,i,(ew.1 b).1,h,p,a,b,e⟩
def oV(f:Nat->Nat->Int)(ps:List Pa)(hs:List Ho):List Sw:=(rA f ps hs).filter (fun s=>decide (s.aO<0))++(rA f ps hs).filter fun s=>decide (0<s.aO)
def fN(ps:List Pa)(hs:List Ho)(l m:List Sw)(i k:Nat):Int:=fA ps hs m i k - fA ps hs l i k

structure IA (ps:List Pa) (hs:List Ho) (rs:List Ru) (l works:List Sw):Prop where
 rules:(mV ps hs rs).2=0
 keeps:pW ps hs rs l=true
 n:works.length<=6
 place:∀w∈works,∃j,gq ps hs w=some j
 u:∀w∈works,¬(w.aO=0∨w.aO< -9∨9<w.aO)
theorem rB{ps:List Pa}{hs:List Ho}{rs:List Ru}{l works:List Sw}(h:fJ ps hs rs l works=0):IA ps hs rs l works:=by
 unfold fJ at h;split at h
 ·simp at h
 ·rename_i h1;split at h
  ·simp at h
  ·rename_i h2;split at h
   ·simp at h
   ·rename_i h3;split at h
    ·simp at h
    ·rename_i h4;split at h
     ·simp at h
     ·rename_i a;refine⟨ep.1 h1,by simpa using h2,om,fun w hw=> ?_,fun w hw k=> ?_⟩
      ·cases e:gq ps hs w with
       |some j=>exact⟨j,rfl⟩
       |none=>exact absurd (kh.2 ⟨w,hw,by simpa using e⟩) h4
      ·exact a (kh.2 ⟨w,hw,by simpa using k⟩)
theorem th{ps:List Pa}{hs:List Ho}{rs:List Ru}{l:List Sw}(h:pW ps hs rs l=true):eI ps hs=0/\cZ ps hs l=0/\ek ps hs l:=by
 unfold pW mi at h;simp only[eb,nC]at h;exact⟨(tc h.1.1.1).1,h.1.1.2,dt h.1.1.2⟩
theorem Gl{ps:List Pa}{hs:List Ho}{l works c:List Sw}{s:Nat}(h:ji ps hs l works s=some c):eI ps hs=0/\ek ps hs c/\bH ps hs c=kY ps hs s 0 (bH ps hs l) works:=by
 unfold ji at h;cases e:kr ps hs (kY ps hs s 0 (bH ps hs l) works)with
 |error x=>rw[e]at h;cases h
 |ok y=>
  rw[e]at h;cases h;exact PH e
theorem KO{al:Nat->Bool}{n d:Nat}{o:List Nat}(h:ez al n d 0=some o):o.length=n:=by
 have gen:∀(d s:Nat)(o:List Nat),s<2^n->ez al n d s=some o->o.length=nI n s:=by
  intro d;induction d with
  |zero=>
   intro s o hs h;rw[ez]at h;split at h
   ·rename_i e;cases h;rw[e];unfold nI;rw[ot];refine(OV.2 fun i hi=> ?_).symm;rw[AO,fc (jA.1 hi)];decide
   ·cases h
  |succ d ih=>
   intro s o hs h;rw[ez]at h;split at h
   ·rename_i e;cases h;rw[e];unfold nI;rw[ot];refine(OV.2 fun i hi=> ?_).symm;rw[AO,fc (jA.1 hi)];decide
   ·obtain⟨i,hi,hx⟩:=Ff h;split at hx
    ·cases hx
    ·rename_i a;simp only[xt,tW,not_or,zC,hP]at a;obtain⟨c,b,rfl⟩:=k7.1 hx;rw[gw,ih _ _ (ou hs (jA.1 hi)) b,sY (jA.1 hi) a.1]
 rw[gen d 0 o (ya n) h];unfold nI;rw[List.countP_eq_length.2 fun i _=>by simp];simp

def Gm(a b:List Int):Prop:=a.length=b.length/\∀i,a.getD i 0<=b.getD i 0
theorem Gm.refl(a:List Int):Gm a a:=⟨rfl,fun _=>PL _⟩
theorem AR(a:List Int)(j:Nat)(u:Int)(i:Nat):(rM a j u).getD i 0=if j=i/\i<a.length then a.getD i 0+u else a.getD i 0:=by
 rw[cN,KN];split
 ·rfl
 ·rw[cN]
theorem Gm.add{a b:List Int}(h:Gm a b)(j:Nat)(u:Int):Gm (rM a j u) (rM b j u):=by
 refine⟨by rw[CM,CM,h.1],fun i=> ?_⟩;rw[AR,AR,h.1];have:=h.2 i;split<;>omega
theorem KP{A:List Int}:∀{B:List Int},A.Nodup->(∀x∈A,x∈B)->A.length<=B.length:=by
 induction A with
 |nil=>intro B _ _;simp
 |cons x r ih=>
  intro B hn hs;obtain⟨n1,n2⟩:=xu.1 hn;have hx:=hs x sm;have:=ih (B:=B.erase x) n2 fun y hy=>by
   rw[List.mem_erase_of_ne (fun e=>n1 (by rw[<-e];exact hy))];exact hs y (by simp[hy])
  rw[List.length_erase_of_mem hx]at this;have:=List.length_pos_of_mem hx;simp;omega
theorem Qo{ps:List Pa}{hs:List Ho}{l:List Sw}(h:ek ps hs l)(id:Int):(xa l id).length<=ps.length:=by
 have hn:((xa l id).map fun s=>s.aG).Nodup:=by
  have a:yo (xa l id):=List.Pairwise.filter _ h.VK;refine Qi.2 (List.Pairwise.imp_of_mem ?_ a);intro x y hx hy hb;have hx:=(BD.1 hx).2;have hy:=(BD.1 hy).2;simp at hx hy;unfold mN at hb;omega
 have:=KP hn (B:=ps.map fun p=>p.id) fun x hx=>by
  obtain⟨s,b,rfl⟩:=kc.1 hx;obtain⟨i,_,hi,_⟩:=h.known s (BD.1 b).1;obtain⟨p,e,c⟩:=gG hi;exact kc.2 ⟨p,hJ e,c⟩
 simpa using this
theorem Gm.drop{a b:List Int}(h:Gm a b)(k:Nat):Gm (a.drop k) (b.drop k):=by
 refine⟨by rw[zB,zB,h.1],fun i=> ?_⟩;have:=h.2 (k+i);rw[cN,cN]at*;rwa [xk,xk]
theorem Gm.take{a b:List Int}(h:Gm a b)(k:Nat):Gm (a.take k) (b.take k):=by
 refine⟨by rw[fs,fs,h.1],fun i=> ?_⟩;have:=h.2 i;rw[cN,cN]at*;rw[rP,rP];by_cases c:i<k
 ·rwa [cc c,cc c]
 ·rw[ar c,ar c];exact PL _
theorem Gm.sum:∀{a b:List Int},Gm a b->a.sum<=b.sum:=by
 intro a;induction a with
 |nil=>
  intro b h;have:b=[]:=List.length_eq_zero_iff.1 h.1.symm;subst this;exact PL _
 |cons x r ih=>
  intro b h;cases b with
  |nil=>exact absurd h.1 sm
  |cons y t=>
   rw[vM,vM];have h0:=h.2 0;have c:Gm r t:=⟨by have:=h.1;simpa using this,fun i=>by have:=h.2 (i+1);simpa using this⟩;have:=ih c;simp at h0;omega
theorem Gm.row{a b:List Int}(h:Gm a b)(n i:Nat):Gm (oh a n i) (oh b n i):=by
 unfold oh;exact(h.drop _).take _
end Go.Proofs.YtgfkeadgjkfomaaGreatDoor.B

set_option maxRecDepth 100000
set_option maxHeartbeats 4000000
namespace Go.Proofs.YtgfkeadgjkfomaaGreatDoor.F
open Go Go.RowKit Go.Proofs Go.Proofs.YtgfkeadgjkfomaaGreatDoor.Vc
def pX.cx:Pm:=([],[])
theorem pX.vc{a b l c:O}{d e f g m n i j:Nat}{w:World}{R:Kt}
  (h:(∀o,Ext w.heap.size [] w o->(Pure P 69 #[.agg #[.slice a d e,.slice b f g,.slice l m n],.slice c i j] o (Rb fun r p=>(Br (r=false) (R (.bool false) p) (Pure P 70 #[.agg #[.slice a d e,.slice b f g,.slice l m n],.slice c i j] p (Rs fun v s x q=>(Br ((s:Int)>0) (R (.bool false) q) (Pure P 71 #[.agg #[.slice a d e,.slice b f g],.slice c i j] q (Rii fun t y u=>(R (.bool (decide (t<0))) u))))))))))):
  Pure P 35 #[.agg #[.slice a d e,.slice b f g,.slice l m n],.slice c i j] w R:=
 pr pX.cx Tryz.func35 h

def pY.cx:Pm:=([],[])
theorem pY.vc{a b g i:O}{c d e f j l m n:Nat}{w:World}{R:Kt}
  (h:(∀o,Ext w.heap.size [] w o->(Pure P 77 #[.agg #[.slice a c d,.slice b e f,.slice g j l]] o (Rii fun t q p=>(Br (q=0) (Pure P 61 #[.agg #[.slice a c d,.slice b e f],.slice i m n] p (Ri fun r s=>(R (.bool (decide (r=0))) s))) (R (.bool false) p)))))):
  Pure P 69 #[.agg #[.slice a c d,.slice b e f,.slice g j l],.slice i m n] w R:=
 pr pY.cx Tryz.func69 h

def bY.L4(a:O)(b c:Nat)(d:O)(e f:Nat)(g:O)(i j:Nat)(l m:Int)(n:O)(o p:Nat)(q:O)(r s:Nat)(t:O)(u v:Nat):=Lt 70 Tryz.f70 4 [(1,.v (.slice a b c)),(2,.loc 2 0),(5,.loc 5 0),(6,.v (.slice d e f)),(11,.v (.slice g i j)),(12,.v (.int .i64 l)),(13,.v (.int .i64 m))] [⟨2,false,28,[(.slice n o p),(.slice q r s),(.slice t u v)]⟩,⟨5,false,132,[.nilFunc,(.func (.func 94) #[] #[]),(.func (.func 98) #[] #[]),(.func (.func 99) #[] #[]),(.func (.func 100) #[] #[])]⟩]
def bY.cx:Pm:=([((true,4),[1,2,5,6,11,12,13],[2,5])],[(6,2,1),(7,2,2),(7,3,2)])
theorem bY.L4.step{b q r c d e:O}{f g s t u x i j l m n o B:Nat}{v a:Int}{w:World}{R:Kt}
  (h:(Br (a<v) (Ix a u r fun T=>(∃y p z A C D E G H,ae w (T.add ((a).toNat*7)) [.string y,.int .i64 p,.slice z A C,.string D,.string E,.int .i64 G,.int .i64 H]/\((0<=p/\p<5)/\(((((True/\(p=(0:Int)->False))/\(p=(1:Int)->(∀I,Ext B [] w I->(Pure P 94 #[.agg #[.slice c i j,.slice d l m,.slice e n o],.agg #[.string y,.int .i64 p,.slice z A C,.string D,.string E,.int .i64 G,.int .i64 H],.slice b f g] I (Rb fun U J=>(Bb U (au P (Instr.buildSlice 48 1 #[(0,(.int .i64 a))]) B [87,28,132] J (Rs fun V X Y Z=>(au P (Builtin.append_ #[48,48] 48 #[.slice q s t,.slice V X Y]) B [87,28,132] Z (Rs fun a0 k a2 a3=>(az .i64 (a+1)/\(bY.L4 b f g a0 k a2 r u x v (a+1) c i j d l m e n o B a3 R)))))) (az .i64 (a+1)/\(bY.L4 b f g q s t r u x v (a+1) c i j d l m e n o B J R))))))))/\(p=(2:Int)->(∀K,Ext B [] w K->(Pure P 98 #[.agg #[.slice c i j,.slice d l m,.slice e n o],.agg #[.string y,.int .i64 p,.slice z A C,.string D,.string E,.int .i64 G,.int .i64 H],.slice b f g] K (Rb fun a4 L=>(Bb a4 (au P (Instr.buildSlice 48 1 #[(0,(.int .i64 a))]) B [87,28,132] L (Rs fun a5 F W a8=>(au P (Builtin.append_ #[48,48] 48 #[.slice q s t,.slice a5 F W]) B [87,28,132] a8 (Rs fun a9 b0 b1 b2=>(az .i64 (a+1)/\(bY.L4 b f g a9 b0 b1 r u x v (a+1) c i j d l m e n o B b2 R)))))) (az .i64 (a+1)/\(bY.L4 b f g q s t r u x v (a+1) c i j d l m e n o B L R))))))))/\(p=(3:Int)->(∀M,Ext B [] w M->(Pure P 99 #[.agg #[.slice c i j,.slice d l m,.slice e n o],.agg #[.string y,.int .i64 p,.slice z A C,.string D,.string E,.int .i64 G,.int .i64 H],.slice b f g] M (Rb fun b3 N=>(Bb b3 (au P (Instr.buildSlice 48 1 #[(0,(.int .i64 a))]) B [87,28,132] N (Rs fun b4 b5 b6 b7=>(au P (Builtin.append_ #[48,48] 48 #[.slice q s t,.slice b4 b5 b6]) B [87,28,132] b7 (Rs fun b8 b9 c0 c1=>(az .i64 (a+1)/\(bY.L4 b f g b8 b9 c0 r u x v (a+1) c i j d l m e n o B c1 R)))))) (az .i64 (a+1)/\(bY.L4 b f g q s t r u x v (a+1) c i j d l m e n o B N R))))))))/\(p=(4:Int)->(∀Q,Ext B [] w Q->(Pure P 100 #[.agg #[.slice c i j,.slice d l m,.slice e n o],.agg #[.string y,.int .i64 p,.slice z A C,.string D,.string E,.int .i64 G,.int .i64 H],.slice b f g] Q (Rb fun c2 S=>(Bb c2 (au P (Instr.buildSlice 48 1 #[(0,(.int .i64 a))]) B [87,28,132] S (Rs fun c3 c4 c5 c6=>(au P (Builtin.append_ #[48,48] 48 #[.slice q s t,.slice c3 c4 c5]) B [87,28,132] c6 (Rs fun c7 c8 c9 d0=>(az .i64 (a+1)/\(bY.L4 b f g c7 c8 c9 r u x v (a+1) c i j d l m e n o B d0 R)))))) (az .i64 (a+1)/\(bY.L4 b f g q s t r u x v (a+1) c i j d l m e n o B S R))))))))))) (R (.slice q s t) w))):
  bY.L4 b f g q s t r u x v a c i j d l m e n o B w R:=
 lr bY.cx Tryz.func70 h
theorem bY.vc{d e b f:O}{g i j l a c m n:Nat}{w:World}{R:Kt}
  (h:(∀o,Ext w.heap.size [] w o->(bY.L4 f m n none 0 0 b a c (a:Int) (0:Int) d g i e j l b a c w.heap.size o R))):
  Pure P 70 #[.agg #[.slice d g i,.slice e j l,.slice b a c],.slice f m n] w R:=
 pr bY.cx Tryz.func70 h

def dS.L7(a b:Int)(c:O)(d e:Nat)(f:O)(g i:Nat)(j:O)(l m:Nat):=Lt 77 Tryz.f77 7 [(1,.loc 1 0),(19,.v (.int .i64 a)),(20,.v (.int .i64 b))] [⟨1,false,28,[(.slice c d e),(.slice f g i),(.slice j l m)]⟩]
def dS.cx:Pm:=([((true,7),[1,19,20],[1])],[])
theorem dS.L7.step{b a:Int}{c d e:O}{f g i j l m B:Nat}{w:World}{R:Kt}
  (h:(Br (a<b) (Pure P 110 #[.agg #[.slice c f g,.slice d i j,.slice e l m],.int .i64 a] w (Ri fun n o=>(Br (n≠0) (R (.tuple #[.int .i64 a,.int .i64 n]) o) (az .i64 (a+1)/\(dS.L7 b (a+1) c f g d i j e l m B o R))))) (R (.tuple #[(.int .i64 (-1:Int)),.int .i64 0]) w))):
  dS.L7 b a c f g d i j e l m B w R:=
 lr dS.cx Tryz.func77 h
theorem dS.vc{b c j:O}{d e f g a l:Nat}{w:World}{R:Kt}
  (h:(∀m,Ext w.heap.size [] w m->(Pure P 86 #[.agg #[.slice b d e,.slice c f g]] m (Ri fun n i=>(Br (n≠0) (R (.tuple #[(.int .i64 (-1:Int)),.int .i64 n]) i) (Br ((a:Int)>16) (R (.tuple #[(.int .i64 (-1:Int)),.int .i64 8]) i) (dS.L7 (a:Int) (0:Int) b d e c f g j a l w.heap.size i R))))))):
  Pure P 77 #[.agg #[.slice b d e,.slice c f g,.slice j a l]] w R:=
 pr dS.cx Tryz.func77 h

def ml.cx:Pm:=([],[])
theorem ml.vc{l m n a o:O}{p q r s t u b c v x:Nat}{d e f:ByteArray}{g i j:Int}{w:World}{R:Kt}
  (h:(∀y,Ext w.heap.size [] w y->(Pure P 97 #[.agg #[.slice l p q,.slice m r s,.slice n t u],.agg #[.string d,.int .i64 g,.slice a b c,.string e,.string f,.int .i64 i,.int .i64 j],.slice o v x] y (Rt fun z A=>(Pure P 96 #[.agg #[.string d,.int .i64 g,.slice a b c,.string e,.string f,.int .i64 i,.int .i64 j],.string z] A (Rt fun C D=>(Pure P 95 #[.string C] D (Ri fun E G=>(R (.bool (decide (E≠0))) G))))))))):
  Pure P 94 #[.agg #[.slice l p q,.slice m r s,.slice n t u],.agg #[.string d,.int .i64 g,.slice a b c,.string e,.string f,.int .i64 i,.int .i64 j],.slice o v x] w R:=
 pr ml.cx Tryz.func94 h

def rC.cx:Pm:=([],[])
theorem rC.vc{a:ByteArray}{w:World}{R:Kt}
  (h:(Pure P 127 #[.string a,(.string ⟨#[48]⟩)] w (Ri fun b c=>(R (.int .i64 b) c)))):
  Pure P 95 #[.string a] w R:=
 pr rC.cx Tryz.func95 h

def oW.cx:Pm:=([],[])
theorem oW.vc{l a c b:ByteArray}{m n o:Int}{p:O}{q r:Nat}{w:World}{R:Kt}
  (h:(Br (c≠(⟨#[]⟩:ByteArray)) (∀e,Ext w.heap.size [] w e->(Pure P 127 #[.string b,.string c] e (Ri fun s d=>(Br (s>0) (Pure P 128 #[.string b,.string c] d (Rt fun t u=>(R (.string t) u))) (Br (a≠(⟨#[]⟩:ByteArray)) (Pure P 127 #[.string b,.string a] d (Ri fun v f=>(Br (v<0) (Pure P 128 #[.string b,.string a] f (Rt fun x y=>(R (.string x) y))) (R (.string ⟨#[48]⟩) f)))) (R (.string ⟨#[48]⟩) d)))))) (Br (a≠(⟨#[]⟩:ByteArray)) (∀g,Ext w.heap.size [] w g->(Pure P 127 #[.string b,.string a] g (Ri fun z i=>(Br (z<0) (Pure P 128 #[.string b,.string a] i (Rt fun A C=>(R (.string A) C))) (R (.string ⟨#[48]⟩) i))))) (∀j,Ext w.heap.size [] w j->(R (.string ⟨#[48]⟩) j))))):
  Pure P 96 #[.agg #[.string l,.int .i64 m,.slice p q r,.string a,.string c,.int .i64 n,.int .i64 o],.string b] w R:=
 pr oW.cx Tryz.func96 h

def eH.L3(a:O)(b c:Nat)(d:ByteArray)(e:O)(f g:Nat)(i j:Int)(l:O)(m n:Nat)(o:O)(p q:Nat)(r:O)(s t:Nat)(u:ByteArray)(v:Int)(x:O)(y z:Nat)(A C:ByteArray)(D E:Int):=Lt 97 Tryz.f97 3 [(2,.v (.slice a b c)),(3,.loc 3 0),(4,.loc 4 0),(7,.v (.string d)),(14,.v (.slice e f g)),(15,.v (.int .i64 i)),(16,.v (.int .i64 j))] [⟨3,false,28,[(.slice l m n),(.slice o p q),(.slice r s t)]⟩,⟨4,false,87,[(.string u),(.int .i64 v),(.slice x y z),(.string A),(.string C),(.int .i64 D),(.int .i64 E)]⟩]
def eH.cx:Pm:=([((true,3),[2,3,4,7,14,15,16],[3,4])],[(6,9999,3)])
theorem eH.L3.step{b c d e t f:O}{g i j u l m n o v x p y B:Nat}{q z A C:ByteArray}{r a D E G:Int}{w:World}{R:Kt}
  (h:(Br (a<r) (Ix a j c fun M=>(∃H N Q S T U V,ae w (M.add ((a).toNat*7)) [.int .i64 H,.string N,.string Q,.string S,.string T,.string U,.string V]/\(∀I,Ext B [] w I->(Pure P 129 #[.agg #[.slice d l m,.slice e n o],.slice b g i,.int .i64 H] I fun X Y=>∃J Z a0 k a2 a3 a4,X= .tuple #[.agg #[.string J,.string Z,.string a0,.string k,.string a2,.string a3],.int .i64 a4]/\(∀s,Ext B [] Y s->(Ix a p f fun a5=>(∃K,ae s (a5.add ((a).toNat*1)) [.string K]/\(∀L,Ext B [] s L->(Pure P 131 #[.string K,.string J] L (Rt fun F W=>(Pure P 130 #[.string q,.string F] W (Rt fun a8 a9=>(az .i64 (a+1)/\(eH.L3 b g i a8 c j u r (a+1) d l m e n o t v x z D f p y A C E G B a9 R)))))))))))))) (R (.string q) w))):
  eH.L3 b g i q c j u r a d l m e n o t v x z D f p y A C E G B w R:=
 lr eH.cx Tryz.func97 h
theorem eH.vc{d b e f g:O}{i j a c l m n o p q:Nat}{r s t:ByteArray}{u v x:Int}{w:World}{R:Kt}
  (h:(∀y,Ext w.heap.size [] w y->(eH.L3 g p q (⟨#[48]⟩:ByteArray) b a c (a:Int) (0:Int) d i j b a c e l m r u f n o s t v x w.heap.size y R))):
  Pure P 97 #[.agg #[.slice d i j,.slice b a c,.slice e l m],.agg #[.string r,.int .i64 u,.slice f n o,.string s,.string t,.int .i64 v,.int .i64 x],.slice g p q] w R:=
 pr eH.cx Tryz.func97 h

def bP.L2(a:O)(b c:Nat)(d:O)(e f:Nat)(g i:Int)(j:O)(l m:Nat)(n:O)(o p:Nat)(q:O)(r s:Nat)(t:ByteArray)(u:Int)(v:O)(x y:Nat)(z A:ByteArray)(C D:Int):=Lt 98 Tryz.f98 2 [(2,.v (.slice a b c)),(3,.loc 3 0),(4,.loc 4 0),(11,.v (.slice d e f)),(12,.v (.int .i64 g)),(13,.v (.int .i64 i))] [⟨3,false,28,[(.slice j l m),(.slice n o p),(.slice q r s)]⟩,⟨4,false,87,[(.string t),(.int .i64 u),(.slice v x y),(.string z),(.string A),(.int .i64 C),(.int .i64 D)]⟩]
def bP.L5(a:O)(b c:Nat)(d:O)(e f:Nat)(g i:Int)(j:O)(l m:Nat)(n o:Int)(p:O)(q r:Nat)(s:O)(t u:Nat)(v:O)(x y:Nat)(z:ByteArray)(A:Int)(C:O)(D E:Nat)(G H:ByteArray)(I J K L M:Int):=Lt 98 Tryz.f98 5 [(2,.v (.slice a b c)),(3,.loc 3 0),(4,.loc 4 0),(8,.loc 8 0),(11,.v (.slice d e f)),(12,.v (.int .i64 g)),(13,.v (.int .i64 i)),(17,.v (.slice j l m)),(18,.v (.int .i64 n)),(19,.v (.int .i64 o))] [⟨3,false,28,[(.slice p q r),(.slice s t u),(.slice v x y)]⟩,⟨4,false,87,[(.string z),(.int .i64 A),(.slice C D E),(.string G),(.string H),(.int .i64 I),(.int .i64 J)]⟩,⟨8,false,39,[(.int .i64 K),(.int .i64 L),(.int .i64 M)]⟩]
def bP.cx:Pm:=([((true,2),[2,3,4,11,12,13],[3,4]),((true,5),[2,3,4,8,11,12,13,17,18,19],[3,4,8])],[])
theorem bP.L2.step{c d i j l m:O}{b e f n o p q r s t u v B:Nat}{g a x y z:Int}{A C D:ByteArray}{w:World}{R:Kt}
  (h:(Br (a<g) (Ix a f d fun J=>(∃E G H,ae w (J.add ((a).toNat*3)) [.int .i64 E,.int .i64 G,.int .i64 H]/\(∀I,Ext B [] w I->(bP.L5 c b e d f n g a c b e (b:Int) (0:Int) i o p j q r l s t A x m u v C D y z E G H B I R)))) (R (.bool false) w))):
  bP.L2 c b e d f n g a i o p j q r l s t A x m u v C D y z B w R:=
 lr bP.cx Tryz.func98 h
theorem bP.L5.step{p q r b c d s:O}{t u v x y L e f g i j l z A B:Nat}{C m D a E n o G H M:Int}{I J K:ByteArray}{w:World}{R:Kt}
  (h:(Br (a<D) (Ix a y r fun X=>(∃N Q Y,ae w (X.add ((a).toNat*3)) [.int .i64 N,.int .i64 Q,.int .i64 Y]/\(Br (G=N) (∀S,Ext B [] w S->(Pure P 132 #[.agg #[.slice b e f,.slice c g i,.slice d j l],.int .i64 H] S (Ri fun Z T=>(Br (Z=n) (Pure P 132 #[.agg #[.slice b e f,.slice c g i,.slice d j l],.int .i64 Q] T (Ri fun a0 U=>(Br (a0=o) (R (.bool true) U) (az .i64 (a+1)/\(bP.L5 p t u q v x C m r y L D (a+1) b e f c g i d j l I E s z A J K n o G H M B U R))))) (az .i64 (a+1)/\(bP.L5 p t u q v x C m r y L D (a+1) b e f c g i d j l I E s z A J K n o G H M B T R)))))) (az .i64 (a+1)/\(∀V,Ext B [] w V->(bP.L5 p t u q v x C m r y L D (a+1) b e f c g i d j l I E s z A J K n o G H M B V R)))))) (az .i64 (m+1)/\(bP.L2 p t u q v x C (m+1) b e f c g i d j l I E s z A J K n o B w R)))):
  bP.L5 p t u q v x C m r y L D a b e f c g i d j l I E s z A J K n o G H M B w R:=
 lr bP.cx Tryz.func98 h
theorem bP.vc{d e f g b:O}{i j l m n o p q a c:Nat}{r s t:ByteArray}{u v x:Int}{w:World}{R:Kt}
  (h:(∀y,Ext w.heap.size [] w y->(bP.L2 b a c b a c (a:Int) (0:Int) d i j e l m f n o r u g p q s t v x w.heap.size y R))):
  Pure P 98 #[.agg #[.slice d i j,.slice e l m,.slice f n o],.agg #[.string r,.int .i64 u,.slice g p q,.string s,.string t,.int .i64 v,.int .i64 x],.slice b a c] w R:=
 pr bP.cx Tryz.func98 h

def pZ.cx:Pm:=([],[(1,1,5)])
theorem pZ.vc{d e f g i:O}{j l m n o p q r s t:Nat}{u v x:ByteArray}{y z A:Int}{w:World}{R:Kt}
  (h:(∀a,Ext w.heap.size [] w a->(∀b:Nat,w.heap.size<=b->a.heap[b]? =some (.cells [.slice d j l,.slice e m n,.slice f o p].toArray 28 (0,0))->(∀c:Nat,w.heap.size<=c->a.heap[c]? =some (.cells [.string u,.int .i64 y,.slice g q r,.string v,.string x,.int .i64 z,.int .i64 A].toArray 87 (0,0))->(Pure P 133 #[.slice i s t,(.func (.func 134) #[] #[(.pointer (some (⟨c,0,none⟩:Addr))),(.pointer (some (⟨b,0,none⟩:Addr)))])] a (Rb fun C D=>(R (.bool C) D))))))):
  Pure P 99 #[.agg #[.slice d j l,.slice e m n,.slice f o p],.agg #[.string u,.int .i64 y,.slice g q r,.string v,.string x,.int .i64 z,.int .i64 A],.slice i s t] w R:=
 pr pZ.cx Tryz.func99 h

def dG.L4(a:Addr)(b:Int)(c:O)(d e:Nat)(f g:Int):=Lt 100 Tryz.f100 4 [(4,.v (.pointer (some a))),(8,.v (.int .i64 b)),(23,.v (.slice c d e)),(24,.v (.int .i64 f)),(25,.v (.int .i64 g))] []
def dG.cx:Pm:=([((true,4),[4,8,23,24,25],[])],[(1,3,5)])
theorem dG.L4.step{c:Addr}{b d a:Int}{e:O}{f i B:Nat}{w:World}{R:Kt}
  (h:(Br (a<d) (Ix a f e fun n=>(∃o l j,ae w (n.add ((a).toNat*3)) [.int .i64 o,.int .i64 l,.int .i64 j]/\(∀g,Ext B [] w g->(∃m,ae g (c.add 5) [.int .i64 m]/\(Br (l=m) (az .i64 (b - j)/\(az .i64 (a+1)/\(dG.L4 c (b - j) e f i d (a+1) B g R))) (az .i64 (a+1)/\(dG.L4 c b e f i d (a+1) B g R))))))) (R (.bool (decide (b>0))) w))):
  dG.L4 c b e f i d a B w R:=
 lr dG.cx Tryz.func100 h
theorem dG.vc{b x y f g:O}{c i z A C D j l d m:Nat}{n o p:ByteArray}{q r s:Int}{w:World}{R:Kt}
  (h:(∀e,Ext w.heap.size [] w e->(∀a:Nat,w.heap.size<=a->e.heap[a]? =some (.cells [.string n,.int .i64 q,.slice f j l,.string o,.string p,.int .i64 r,.int .i64 s].toArray 87 (0,0))->(Pure P 111 #[.slice b c i,(.func (.func 135) #[] #[(.pointer (some (⟨a,0,none⟩:Addr)))])] e (Ri fun t u=>(Ix t c b fun E=>(∃v,ae u ((E.add ((t).toNat*7)).add 1) [.int .i64 v]/\(dG.L4 (⟨a,0,none⟩:Addr) v g d m (d:Int) (0:Int) w.heap.size u R)))))))):
  Pure P 100 #[.agg #[.slice b c i,.slice x z A,.slice y C D],.agg #[.string n,.int .i64 q,.slice f j l,.string o,.string p,.int .i64 r,.int .i64 s],.slice g d m] w R:=
 pr dG.cx Tryz.func100 h

def qa.cx:Pm:=([],[(6,4,5)])
theorem qa.vc{r s e:O}{t u i v j f:Nat}{c:Int}{w:World}{R:Kt}
  (h:(Ix c j e fun k=>(∀l,Ext w.heap.size [] w l->(∃g x m n o p q y z,ae l (k.add ((c).toNat*7)) [.string g,.int .i64 x,.slice m n o,.string p,.string q,.int .i64 y,.int .i64 z]/\(∀A,Ext w.heap.size [] l A->(Pure P 148 #[.slice m n o,(.func (.func 149) #[] #[])] A (Rb fun b4 C=>(Bb b4 (R (.int .i64 1) C) (Pure P 151 #[.string p] C (Rb fun b5 D=>(Br (b5=false) (R (.int .i64 1) D) (Pure P 151 #[.string q] D (Rb fun b6 d=>(Br (b6=false) (R (.int .i64 1) d) (Br (((ByteArray.size g:Int):Int)<1) (R (.int .i64 4) d) (Br (((ByteArray.size g:Int):Int)>64) (R (.int .i64 4) d) ((0<=c/\c<=(f:Int))/\(∀b:Nat,w.heap.size<=b->d.heap[b]? =some (.cells [.string g,.int .i64 x,.slice m n o,.string p,.string q,.int .i64 y,.int .i64 z].toArray 87 (0,0))->(Pure P 152 #[(.slice e ((c).toNat) f),(.func (.func 153) #[] #[(.pointer (some (⟨b,0,none⟩:Addr)))])] d (Rb fun b7 a=>(Bb b7 (R (.int .i64 6) a) (∃E,ae a ((⟨b,0,none⟩:Addr).add 1) [.int .i64 E]/\(Br (E<1) (R (.int .i64 2) a) (∃G,ae a ((⟨b,0,none⟩:Addr).add 1) [.int .i64 G]/\(Br (G>4) (R (.int .i64 2) a) (∃H,ae a ((⟨b,0,none⟩:Addr).add 1) [.int .i64 H]/\(Br (H=1) (∃b8 I b9,ae a ((⟨b,0,none⟩:Addr).add 2) [.slice b8 I b9]/\(Br ((I:Int)≠(i:Int)) (R (.int .i64 10) a) (∃J,ae a ((⟨b,0,none⟩:Addr).add 5) [.int .i64 J]/\(Br (J≠0) (R (.int .i64 10) a) (∃K,ae a ((⟨b,0,none⟩:Addr).add 6) [.int .i64 K]/\(Br (K≠0) (R (.int .i64 10) a) (∃L,ae a ((⟨b,0,none⟩:Addr).add 3) [.string L]/\(Br (L=(⟨#[]⟩:ByteArray)) (∃M,ae a ((⟨b,0,none⟩:Addr).add 4) [.string M]/\(Br (M=(⟨#[]⟩:ByteArray)) (R (.int .i64 2) a) (∃N,ae a ((⟨b,0,none⟩:Addr).add 3) [.string N]/\(Br (N≠(⟨#[]⟩:ByteArray)) (∃Q,ae a ((⟨b,0,none⟩:Addr).add 4) [.string Q]/\(Br (Q≠(⟨#[]⟩:ByteArray)) (∃S,ae a ((⟨b,0,none⟩:Addr).add 3) [.string S]/\(∃T,ae a ((⟨b,0,none⟩:Addr).add 4) [.string T]/\(Pure P 127 #[.string S,.string T] a (Ri fun c0 U=>(Br (c0>0) (R (.int .i64 2) U) (R (.int .i64 0) U)))))) (R (.int .i64 0) a))) (R (.int .i64 0) a))))) (∃V,ae a ((⟨b,0,none⟩:Addr).add 3) [.string V]/\(Br (V≠(⟨#[]⟩:ByteArray)) (∃X,ae a ((⟨b,0,none⟩:Addr).add 4) [.string X]/\(Br (X≠(⟨#[]⟩:ByteArray)) (∃Y,ae a ((⟨b,0,none⟩:Addr).add 3) [.string Y]/\(∃Z,ae a ((⟨b,0,none⟩:Addr).add 4) [.string Z]/\(Pure P 127 #[.string Y,.string Z] a (Ri fun c1 a0=>(Br (c1>0) (R (.int .i64 2) a0) (R (.int .i64 0) a0)))))) (R (.int .i64 0) a))) (R (.int .i64 0) a))))))))))) (∃c2 k c3,ae a ((⟨b,0,none⟩:Addr).add 2) [.slice c2 k c3]/\(Br ((k:Int)>0) (R (.int .i64 10) a) (∃a2,ae a ((⟨b,0,none⟩:Addr).add 3) [.string a2]/\(Br (a2≠(⟨#[]⟩:ByteArray)) (R (.int .i64 10) a) (∃a3,ae a ((⟨b,0,none⟩:Addr).add 4) [.string a3]/\(Br (a3≠(⟨#[]⟩:ByteArray)) (R (.int .i64 10) a) (∃a4 a5 B F W a9 b0 b1 b2,ae a (⟨b,0,none⟩:Addr) [.string a4,.int .i64 a5,.slice B F W,.string a9,.string b0,.int .i64 b1,.int .i64 b2]/\(Pure P 154 #[.agg #[.slice r t u,.slice s i v,.slice e j f],.agg #[.string a4,.int .i64 a5,.slice B F W,.string a9,.string b0,.int .i64 b1,.int .i64 b2]] a (Ri fun c4 c5=>(R (.int .i64 c4) c5))))))))))))))))))))))))))))))))))))):
  Pure P 110 #[.agg #[.slice r t u,.slice s i v,.slice e j f],.int .i64 c] w R:=
 pr qa.cx Tryz.func110 h

def nR.cx:Pm:=([],[])
theorem nR.vc{a b:ByteArray}{w:World}{R:Kt}
  (h:(Pure P 141 #[.string a,.string b] w (Rii fun c e d=>(R (.int .i64 c) d)))):
  Pure P 127 #[.string a,.string b] w R:=
 pr nR.cx Tryz.func127 h

def ti.cx:Pm:=([],[])
theorem ti.vc{a b:ByteArray}{w:World}{R:Kt}
  (h:(Pure P 164 #[.string a,.string b] w (tv fun c e d=>(R (.string c) d)))):
  Pure P 128 #[.string a,.string b] w R:=
 pr ti.cx Tryz.func128 h

def tj.cx:Pm:=([],[])
theorem tj.vc{a b:ByteArray}{w:World}{R:Kt}
  (h:(Pure P 165 #[.string a,.string b] w (tv fun c e d=>(R (.string c) d)))):
  Pure P 130 #[.string a,.string b] w R:=
 pr tj.cx Tryz.func130 h

def tl.cx:Pm:=([],[])
theorem tl.vc{a b:ByteArray}{w:World}{R:Kt}
  (h:(Pure P 166 #[.string a,.string b] w (tv fun c e d=>(R (.string c) d)))):
  Pure P 131 #[.string a,.string b] w R:=
 pr tl.cx Tryz.func131 h

def qb.cx:Pm:=([],[(1,3,5)])
theorem qb.vc{a l m:O}{b e n o p q:Nat}{f:Int}{w:World}{R:Kt}
  (h:(∀c,Ext w.heap.size [] w c->(∀d:Nat,w.heap.size<=d->c.heap[d]? =some (.cells [.int .i64 f].toArray 3 (0,0))->(Pure P 111 #[.slice a b e,(.func (.func 167) #[] #[(.pointer (some (⟨d,0,none⟩:Addr)))])] c (Ri fun g i=>(Ix g b a fun r=>(∃j,ae i ((r.add ((g).toNat*7)).add 2) [.int .i64 j]/\(R (.int .i64 j) i)))))))):
  Pure P 132 #[.agg #[.slice a b e,.slice l n o,.slice m p q],.int .i64 f] w R:=
 pr qb.cx Tryz.func132 h

def mW.cx:Pm:=([],[(1,9999,3)])
theorem mW.vc{c d u:Int}{b e:Addr}{w:World}{R:Kt}
  (h:(∀a,Ext w.heap.size [] w a->(∃f,ae a (b.add 6) [.int .i64 f]/\(Br (c=f) (∃g i j l m n o p q,ae a e [.slice g i j,.slice l m n,.slice o p q]/\(∃r,ae a (b.add 5) [.int .i64 r]/\(∀s,Ext w.heap.size [] a s->(Pure P 132 #[.agg #[.slice g i j,.slice l m n,.slice o p q],.int .i64 d] s (Ri fun v x=>(R (.bool (decide (v=r))) x)))))) (∀t,Ext w.heap.size [] a t->(R (.bool false) t)))))):
  Pure P 134 #[.agg #[.int .i64 c,.int .i64 d,.int .i64 u],(.pointer (some b)),(.pointer (some e))] w R:=
 pr mW.cx Tryz.func134 h

def mX.cx:Pm:=([],[])
theorem mX.vc{b e f:Int}{g i j l:ByteArray}{c:Addr}{w:World}{R:Kt}
  (h:(∀a,Ext w.heap.size [] w a->(∃d,ae a (c.add 5) [.int .i64 d]/\(R (.bool (decide (b=d))) a)))):
  Pure P 135 #[.agg #[.int .i64 b,.int .i64 e,.int .i64 f,.string g,.string i,.string j,.string l],(.pointer (some c))] w R:=
 pr mX.cx Tryz.func135 h

def mY.cx:Pm:=([],[])
theorem mY.vc{a:ByteArray}{w:World}{R:Kt}
  (h:(Pure P 150 #[.string a] w (Rb fun b c=>(R (.bool (decide (b=false))) c)))):
  Pure P 149 #[.string a] w R:=
 pr mY.cx Tryz.func149 h

def qc.cx:Pm:=([],[])
theorem qc.vc{a:ByteArray}{w:World}{R:Kt}
  (h:(Br (a=(⟨#[]⟩:ByteArray)) (R (.bool true) w) (Pure P 150 #[.string a] w (Rb fun b c=>(R (.bool b) c))))):
  Pure P 151 #[.string a] w R:=
 pr qc.cx Tryz.func151 h

def mZ.cx:Pm:=([],[])
theorem mZ.vc{b e f:ByteArray}{g i j:Int}{l:O}{m n:Nat}{c:Addr}{w:World}{R:Kt}
  (h:(∀a,Ext w.heap.size [] w a->(∃d,ae a (c.add 0) [.string d]/\(R (.bool (decide (b=d))) a)))):
  Pure P 153 #[.agg #[.string b,.int .i64 g,.slice l m n,.string e,.string f,.int .i64 i,.int .i64 j],(.pointer (some c))] w R:=
 pr mZ.cx Tryz.func153 h

def qd.cx:Pm:=([],[(5,3,5),(13,3,5)])
theorem qd.vc{p q G d:O}{r s t u H I e f:Nat}{g i j:ByteArray}{c a b:Int}{w:World}{R:Kt}
  (h:(Br (c=2) (Br (a≥b) (∀v,Ext w.heap.size [] w v->(R (.int .i64 2) v)) (∀x,Ext w.heap.size [] w x->(Pure P 181 #[.int .i64 a] x (Rb fun J y=>(Br (J=false) (R (.int .i64 2) y) (Pure P 181 #[.int .i64 b] y (Rb fun K z=>(Br (K=false) (R (.int .i64 2) z) (R (.int .i64 0) z))))))))) (Br (c=3) (∀A,Ext w.heap.size [] w A->(Pure P 181 #[.int .i64 a] A (Rb fun L l=>(Br (L=false) (R (.int .i64 2) l) (∀m:Nat,w.heap.size<=m->l.heap[m]? =some (.cells [.string g,.int .i64 c,.slice d e f,.string i,.string j,.int .i64 a,.int .i64 b].toArray 87 (0,0))->(Pure P 182 #[.slice q t u,(.func (.func 183) #[] #[(.pointer (some (⟨m,0,none⟩:Addr)))])] l (Rb fun M C=>(Br (M=false) (R (.int .i64 7) C) (R (.int .i64 0) C))))))))) (Br (b≠0) (∀D,Ext w.heap.size [] w D->(R (.int .i64 2) D)) (∀n,Ext w.heap.size [] w n->(∀o:Nat,w.heap.size<=o->n.heap[o]? =some (.cells [.string g,.int .i64 c,.slice d e f,.string i,.string j,.int .i64 a,.int .i64 b].toArray 87 (0,0))->(Pure P 184 #[.slice p r s,(.func (.func 185) #[] #[(.pointer (some (⟨o,0,none⟩:Addr)))])] n (Rb fun N E=>(Br (N=false) (R (.int .i64 7) E) (R (.int .i64 0) E)))))))))):
  Pure P 154 #[.agg #[.slice p r s,.slice q t u,.slice G H I],.agg #[.string g,.int .i64 c,.slice d e f,.string i,.string j,.int .i64 a,.int .i64 b]] w R:=
 pr qd.cx Tryz.func154 h

def na.cx:Pm:=([],[])
theorem na.vc{b e f:Int}{g i j l:ByteArray}{c:Addr}{w:World}{R:Kt}
  (h:(∀a,Ext w.heap.size [] w a->(∃d,ae a c [.int .i64 d]/\(R (.bool (decide (b=d))) a)))):
  Pure P 167 #[.agg #[.int .i64 b,.int .i64 e,.int .i64 f,.string g,.string i,.string j,.string l],(.pointer (some c))] w R:=
 pr na.cx Tryz.func167 h

def nb.cx:Pm:=([],[])
theorem nb.vc{a:Int}{w:World}{R:Kt}
  (h:(Br (a≥(1:Int)) (R (.bool (decide (a<=(9:Int)))) w) (R (.bool false) w))):
  Pure P 181 #[.int .i64 a] w R:=
 pr nb.cx Tryz.func181 h

def nc.cx:Pm:=([],[])
theorem nc.vc{b:Int}{e f g i j l:ByteArray}{c:Addr}{w:World}{R:Kt}
  (h:(∀a,Ext w.heap.size [] w a->(∃d,ae a (c.add 6) [.int .i64 d]/\(R (.bool (decide (b=d))) a)))):
  Pure P 183 #[.agg #[.int .i64 b,.string e,.string f,.string g,.string i,.string j,.string l],(.pointer (some c))] w R:=
 pr nc.cx Tryz.func183 h

def ng.cx:Pm:=([],[])
theorem ng.vc{b e f:Int}{g i j l:ByteArray}{c:Addr}{w:World}{R:Kt}
  (h:(∀a,Ext w.heap.size [] w a->(∃d,ae a (c.add 5) [.int .i64 d]/\(R (.bool (decide (b=d))) a)))):
  Pure P 185 #[.agg #[.int .i64 b,.int .i64 e,.int .i64 f,.string g,.string i,.string j,.string l],(.pointer (some c))] w R:=
 pr ng.cx Tryz.func185 h

end Go.Proofs.YtgfkeadgjkfomaaGreatDoor.F

namespace Go.Proofs.YtgfkeadgjkfomaaGreatDoor.B
open Go Go.RowKit Go.Proofs Go.Proofs.YtgfkeadgjkfomaaGreatDoor.Vc

theorem NI{w:World}{x y:Rat}(a:cT w)(hx:jy x)(hy:jy y):Pure Tryz.prog 130 #[.string (rS x),.string (rS y)] w fun v _=>v= .string (rS (x+y)):=by
 refine F.tj.vc (pm (jo a hx hy) ?_);rintro v b _ rfl;exact⟨_,_,rfl,rfl⟩
theorem Gn{w:World}{x y:Rat}(a:cT w)(hx:jy x)(hy:jy y):Pure Tryz.prog 128 #[.string (rS x),.string (rS y)] w fun v _=>v= .string (rS (x - y)):=by
 refine F.ti.vc (pm (lS a hx hy) ?_);rintro v b _ rfl;exact⟨_,_,rfl,rfl⟩
theorem NJ{w:World}{x y:Rat}(a:cT w)(hx:jy x)(hy:jy y):Pure Tryz.prog 131 #[.string (rS x),.string (rS y)] w fun v _=>v= .string (rS (x*y)):=by
 refine F.tl.vc (pm (jq a hx hy) ?_);rintro v b _ rfl;exact⟨_,_,rfl,rfl⟩
theorem ov{w:World}{x y:Rat}(a:cT w)(hx:jy x)(hy:jy y):Pure Tryz.prog 127 #[.string (rS x),.string (rS y)] w fun v _=>v= .int .i64 (fm x y):=by
 refine F.nR.vc (pm (fC a hx hy) ?_);rintro v b _ rfl;exact⟨_,_,rfl,rfl⟩
theorem KQ{w:World}{x:Rat}(a:cT w)(h:jy x):Pure Tryz.prog 95 #[.string (rS x)] w fun v _=>v= .int .i64 (fm x 0):=by
 refine F.rC.vc ?_;rw[s0];refine pm (ov a h (Sm.zero om)) ?_;rintro v b _ rfl;exact⟨_,rfl,rfl⟩
theorem CN{w:World}(a:cT w){s:ByteArray}(hs:rW s):Pure Tryz.prog 150 #[.string s] w fun v _=>v= .bool (vR s):=by
 refine pm (gE a s (ga hs dc)) ?_;rintro v b _ rfl;unfold vR;cases km (bM s)<;>rfl
theorem dR{s:ByteArray}:s=⟨#[]⟩↔s.size=0:=by
 constructor
 ·rintro rfl;rfl
 ·intro h;obtain⟨d⟩:=s;have:d.size=0:=h;rw[Array.eq_empty_of_size_eq_zero this]
theorem AS{w:World}(a:cT w){s:ByteArray}(hs:rW s):Pure Tryz.prog 151 #[.string s] w fun v _=>v= .bool (eV s):=by
 refine F.qc.vc ⟨fun h=> ?_,fun h=> ?_⟩
 ·unfold eV;rw[fc (dR.1 h)];rfl
 ·refine pm (CN a hs) ?_;rintro v b _ rfl;refine⟨_,rfl,?_⟩;unfold eV;rw[eh (fun k=>h (dR.2 k))];rfl
theorem uE{s:ByteArray}(h:eV s=true)(h0:¬s.size=0):vR s=true:=by
 unfold eV at h;rw[eh h0]at h;exact h

theorem Gp{w0:World}{A:Option Addr}{n c:Nat}{l:List Rm}(hl:cK w0 A 7 (l.map Rm.row))(hlen:l.length=n)(hn:n<2147483648){f:Nat}{a k:Array Value}(eR:bc Tryz.prog f=true){p:Rm->Bool}
  (hf:∀w,Below w0.heap.size w0 w->∀x∈l,Pure Tryz.prog f (a.toList++([x.val]:List Value)++k.toList).toArray w fun v _=>v= .bool (p x)) {R:Value->World->Prop} {r:Int} (g:∀w,Below w0.heap.size w0 w->R (.int .i64 r) w):
  ∀(d i:Nat)(w:World),n - i=d->i<=n->Below w0.heap.size w0 w->r=js p i (l.drop i)->F.aX.L2 A n c f a k n i w0.heap.size w R:=by
 intro d;induction d with
 |zero=>
  intro i w q hi hw b;rw[dp om]at b;subst b;exact F.aX.L2.step ⟨fun h=>by omega,fun _=>g w hw⟩
 |succ d ih=>
  intro i w q hi hw b;have j:i<l.length:=om;rw[ec j,js]at b;obtain⟨hb,y,z,e,_⟩:=(hl.aj hw lf).at_ (fun _=>rfl) hlen j;refine F.aX.L2.step ⟨fun _=> ?_,fun h=>by omega⟩;refine⟨hb,y,z,_,_,_,_,_,_,_,_,_,e,eR,pm (hf w hw l[i] (cd _)) ?_⟩;rintro v m o rfl;refine⟨_,rfl,fun h=> ?_,fun h=>⟨ir,?_⟩⟩
  ·rw[cc h]at b;subst b;exact g m (kP hw o)
  ·rw[ar (by simp[h])]at b;have B:=sc i;rw[B];exact ih (i+1) m om om (kP hw o) b
theorem NK{w0:World}{A:Option Addr}{n c:Nat}{l:List Rm}(hl:cK w0 A 7 (l.map Rm.row))(hlen:l.length=n)(hn:n<2147483648){f:Nat}{a k:Array Value}(eR:bc Tryz.prog f=true){p:Rm->Bool}
  (hf:∀w,Below w0.heap.size w0 w->∀x∈l,Pure Tryz.prog f (a.toList++([x.val]:List Value)++k.toList).toArray w fun v _=>v= .bool (p x)):
  Pure Tryz.prog 152 #[.slice A n c,.func (.func f) a k] w0 fun v _=>v= .bool (l.any p):=by
 refine F.dV.vc (pm (F.aX.vc (Gp hl hlen hn eR hf (R:=fun v _=>v= .int .i64 (js p 0 l)) (fun _ _=>rfl) n 0 w0 rfl om (Below.refl _ _) rfl)) ?_);rintro v b _ rfl;exact⟨_,rfl,by dsimp only;rw[tE]⟩
theorem Qp{w0:World}{A:Option Addr}{n c:Nat}{l:List ByteArray}(hl:cK w0 A 1 (l.map zU))(hlen:l.length=n)(hn:n<2147483648){f:Nat}{a k:Array Value}(eR:bc Tryz.prog f=true){p:ByteArray->Bool}
  (hf:∀w,Below w0.heap.size w0 w->∀x∈l,Pure Tryz.prog f (a.toList++([.string x]:List Value)++k.toList).toArray w fun v _=>v= .bool (p x)):
  Pure Tryz.prog 148 #[.slice A n c,.func (.func f) a k] w0 fun v _=>v= .bool (l.any p):=by
 refine F.dz.vc (pm (F.aU.vc (zV hl hlen hn eR hf (R:=fun v _=>v= .int .i64 (js p 0 l)) (fun _=>rfl) n 0 w0 rfl om (Below.refl _ _) rfl)) ?_);rintro v b _ rfl;exact⟨_,rfl,by dsimp only;rw[tE]⟩

theorem Ws{α:Type}{row:α->List Value}{sz:Nat}{w:World}{A:Option Addr}{n:Nat}{v:List α}{a:Addr}(h:cK w A sz (v.map row))(c:∀x,(row x).length=sz)(hl:v.length=n){i:Nat}(hi:i<v.length)(d:A=some a):
  ae w (a.add ((i:Int).toNat*sz)) (row v[i])/\∀k u,(row v[i])[k]? =some u->ae w ((a.add ((i:Int).toNat*sz)).add k) [u]:=by
 obtain⟨_,a',b,h1,h2⟩:=h.at_ c hl hi;rw[d]at b;cases b;exact⟨h1,h2⟩
theorem Ep{o:Option Nat}:(nK o≥0)↔o≠none:=by cases o<;>simp[nK]<;>omega
theorem Er(n:Int)(w:World):Pure Tryz.prog 181 #[.int .i64 n] w fun v _=>v= .bool (decide (1<=n/\n<=9)):=by
 refine F.nb.vc ⟨fun h=> ?_,fun h=> ?_⟩
 ·refine dB Value.bool ?_;rw[jB];omega
 ·refine dB Value.bool ?_;exact(eh om).symm

section
variable {w:World} {A0 A1 A2:Option Addr} {n0 c0 n1 c1 n2 c2:Nat} {ps:List Pa} {hs:List Ho} {xs:List Rm}
theorem IB(hp:fu w A0 n0 A1 n1 A2 n2 c2 ps hs xs)(x:Rm):
  Pure Tryz.prog 154 #[.agg #[.slice A0 n0 c0,.slice A1 n1 c1,.slice A2 n2 c2],x.val] w fun v _=>v= .int .i64
   (if x.r.kind=2 then(if ¬(x.r.a<x.r.b/\(1<=x.r.a/\x.r.a<=9)/\(1<=x.r.b/\x.r.b<=9))then 2 else 0)
   else if x.r.kind=3 then(if ¬(1<=x.r.a/\x.r.a<=9)then 2 else if pc hs x.r.b=none then 7 else 0)
   else if x.r.b≠0 then 2 else if nW ps x.r.a=none then 7 else 0):=by
 have D:=hp.c.nh;have E:=hp.c.np;refine F.qd.vc ⟨fun d=> ?_,fun d=>⟨fun e=> ?_,fun e=> ?_⟩⟩
 ·rw[cc d];refine⟨fun h w1 _=> ?_,fun h i _=> ?_⟩
  ·rw[cc (fun k=>absurd k.1 om)]
  refine pm (Er _ _) ?_;rintro v G _ rfl;refine⟨_,rfl,fun h1=> ?_,fun h1=> ?_⟩
  ·have h1:=kd h1;rw[cc (fun k=>h1 k.2.1)]
  have h1:=hG (hP _|>.mp h1);refine pm (Er _ _) ?_;rintro v H _ rfl;refine⟨_,rfl,fun h2=> ?_,fun h2=> ?_⟩
  ·have h2:=kd h2;rw[cc (fun k=>h2 k.2.2)]
  have h2:=hG (hP _|>.mp h2);rw[ar (fun k=>k ⟨om,h1,h2⟩)]
 ·rw[ar d,cc e];intro I j;have hw:=k0 j;refine pm (Er _ _) ?_;rintro v J l rfl;have hw:=kP hw l;refine⟨_,rfl,fun h1=> ?_,fun h1 m n o=> ?_⟩
  ·rw[cc (kd h1)]
  have h1:=hG (hP _|>.mp h1);refine pm (F.dW.vc (R:=fun v _=>v= .bool (decide (nK (pc hs x.r.b)≥0))) (pm (yM (p:=fun h=>decide (h.id=x.r.b)) (hp.c.aj hw).h hp.c.lh om kF fun w' hb y hy=> ?_) ?_)) ?_
  ·exact F.nc.vc fun w1 g=>⟨_,fX (bK (bK o hb) (k0 g)) rfl,rfl⟩
  ·rintro v i _ rfl;exact⟨_,rfl,rfl⟩
  ·rintro v q _ rfl;refine⟨_,rfl,fun h2=> ?_,fun h2=> ?_⟩
   ·have h2:=kd h2;rw[ar (fun k=>k h1),cc (ep.1 fun k=>h2 (Ep.2 k))]
   ·have h2:=hG (hP _|>.mp h2);rw[ar (fun k=>k h1),ar (Ep.1 h2)]
 ·rw[ar d,ar e];refine⟨fun h w1 _=>by rw[cc h],fun h K z A B C=> ?_⟩;have hw:=k0 z;rw[ar h];refine pm (F.dE.vc (R:=fun v _=>v= .bool (decide (nK (nW ps x.r.a)≥0))) (pm (wB (p:=fun h=>decide (h.id=x.r.a)) (hp.c.aj hw).p hp.c.lp om kF fun w' hb y hy=> ?_) ?_)) ?_
  ·exact F.ng.vc fun w1 g=>⟨_,fX (bK (bK C hb) (k0 g)) rfl,rfl⟩
  ·rintro v i _ rfl;exact⟨_,rfl,rfl⟩
  ·rintro v q _ rfl;refine⟨_,rfl,fun h2=> ?_,fun h2=> ?_⟩
   ·have h2:=kd h2;rw[cc (ep.1 fun k=>h2 (Ep.2 k))]
   ·have h2:=hG (hP _|>.mp h2);rw[ar (Ep.1 h2)]
theorem ne_nil{s:ByteArray}:s≠⟨#[]⟩↔s.size≠0:=not_congr dR
theorem IC(o:cT w)(hp:fu w A0 n0 A1 n1 A2 n2 c2 ps hs xs){i:Nat}(hi:i<xs.length):
  Pure Tryz.prog 110 #[.agg #[.slice A0 n0 c0,.slice A1 n1 c1,.slice A2 n2 c2],.int .i64 (i:Int)] w fun v _=>v= .int .i64 (hO ps hs (aT (xs.take i)) xs[i].r):=by
 have hl:=hp.l;have hn:=hp.n;have U:=hp.k;have V:=hp.c.lh;have d:=hp.f _ (cd hi);have hlen:=d.s.len;have W:=d.l;obtain⟨hb,a,C,_,_⟩:=hp.at_ hi;unfold hO;refine F.qa.vc ⟨hb,a,C,fun G H=> ?_⟩;have hw:=k0 H;refine⟨_,_,_,_,_,_,_,_,_,(Ws (hp.aj hw).r (fun _=>rfl) hl hi C).1,fun X I=> ?_⟩;have hw:=kE hw I;refine pm (Qp (p:=fun s=> !vR s) (d.aj hw).f d.l om kF fun w' hb s hs=> ?_) ?_
 ·refine F.mY.vc (pm (CN (o.next (kP hw hb)) (d.s.iL s hs)) ?_);rintro v G _ rfl;exact⟨_,rfl,by cases vR s<;>rfl⟩
 rintro v Y J rfl;have hw:=kP hw J;refine⟨_,rfl,fun h=> ?_,fun h=> ?_⟩
 ·rw[cc];rintro⟨k,_⟩;obtain⟨s,hs,hv⟩:=kh.1 h;rw[gu.1 k s hs]at hv;cases hv
 have K:xs[i].r.iL.all vR=true:=gu.2 fun s hs=>by
  have:=vd.1 h s hs;simpa using this
 refine pm (AS (o.next hw) d.s.low) ?_;rintro v Z L rfl;have hw:=kP hw L;refine⟨_,rfl,fun h=> ?_,fun h=> ?_⟩
 ·rw[cc (fun k=>by rw[k.2.1]at h;cases h)]
 have D:=hP _|>.mp h
 refine pm (AS (o.next hw) d.s.high) ?_;rintro v M N rfl;have hw:=kP hw N;refine⟨_,rfl,fun h=> ?_,fun h=> ?_⟩
 ·rw[cc (fun k=>by rw[k.2.2]at h;cases h)]
 have E:=hP _|>.mp h
 rw[ar (fun k=>k ⟨K,D,E⟩)];refine⟨fun h=> ?_,fun h1=>⟨fun h=> ?_,fun h2=>⟨om,fun O Wt A=> ?_⟩⟩⟩
 ·rw[cc (fun k=>by omega)]
 ·rw[cc (fun k=>by omega)]
 rw[ar (fun k=>k ⟨om,om⟩)];have P:(i:Int).toNat=i:=om;rw[P];have Q:cK M A2 7 ((xs.take i).map Rm.row):=by
  have:=(hp.aj hw).r.take i;rwa [<-LN]at this
 refine pm (NK (n:=i) (c:=c2) (p:=fun y=>decide (y.r.name=xs[i].r.name)) Q (by rw[fs];omega) om kF fun w' hb y hy=> ?_) ?_
 ·exact F.mZ.vc fun w1 R=>⟨_,fX (bK (bK A hb) (k0 R)) rfl,rfl⟩
 rintro v S B rfl;have hw:=kP hw B;have T:((aT (xs.take i)).any fun x=>decide (x.name=xs[i].r.name))=(xs.take i).any fun y=>decide (y.r.name=xs[i].r.name):=by
  unfold aT;rw[List.any_map];rfl
 rw[T];have cell:∀k u,(xs[i].row)[k]? =some u->ae S ((⟨O,0,none⟩:Addr).add k) [u]:=fun k u hu=>fX (bK A B) hu
 refine⟨_,rfl,fun h=> ?_,fun h=>⟨_,cell 1 _ rfl,fun h1=> ?_,fun h1=>⟨_,cell 1 _ rfl,fun h2=> ?_,fun h2=>⟨_,cell 1 _ rfl,fun h3=> ?_,fun h3=> ?_⟩⟩⟩⟩
 ·rw[cc h]
 ·rw[ar (by rw[h];decide),cc (.inl om)]
 ·rw[ar (by rw[h];decide),cc (.inr om)]
 ·rw[ar (by rw[h];decide),ar om,cc h3];refine⟨_,_,_,cell 2 _ rfl,fun h4=> ?_,fun h4=>⟨_,cell 5 _ rfl,fun e=> ?_,fun e=>⟨_,cell 6 _ rfl,fun g=> ?_,fun g=>⟨_,cell 3 _ rfl,fun m=>⟨_,cell 4 _ rfl,fun z=> ?_,fun z=>⟨_,cell 3 _ rfl,fun b=>absurd m b,fun b=> ?_⟩⟩,fun m=>⟨_,cell 3 _ rfl,fun b=>⟨_,cell 4 _ rfl,fun j=>⟨_,cell 3 _ rfl,_,cell 4 _ rfl,?_⟩,fun j=> ?_⟩,fun b=>absurd m b⟩⟩⟩⟩⟩
  ·rw[cc (.inl om)]
  ·rw[cc (.inr (.inl e))]
  ·rw[cc (.inr (.inr g))]
  ·rw[ar (by rintro(k|k|k)<;>omega),cc (.inl ⟨dR.1 m,dR.1 z⟩)]
  ·have z:¬xs[i].r.high.size=0:=fun k=>z (dR.2 k)
   have m:=dR.1 m;rw[ar (by rintro(k|k|k)<;>omega),ar (by rintro(k|k)<;>omega)]
  ·have b:=ne_nil.1 b;have j:=ne_nil.1 j;have v1:=uE D b;have v2:=uE E j;rw[ar (by rintro(k|k|k)<;>omega)];have cmp:=ov (o.next hw) (d.s.low.sQ v1) (d.s.high.sQ v2);rw[<-nV v1,<-nV v2]at cmp;refine pm cmp ?_;rintro v PC _ rfl;refine⟨_,rfl,fun k=> ?_,fun k=> ?_⟩
   ·rw[cc (.inr ⟨b,j,gT.1 k⟩)]
   ·rw[ar];rintro(q|q)
    ·exact b q.1
    ·exact k (gT.2 q.2.2)
  ·have b:=ne_nil.1 b;have j:xs[i].r.high.size=0:=ep.1 fun k=>j (ne_nil.2 k)
   rw[ar (by rintro(k|k|k)<;>omega),ar (by rintro(k|k)<;>omega)]
 ·rw[ar (by rw[h];decide),ar om,ar h3];refine⟨_,_,_,cell 2 _ rfl,fun h4=> ?_,fun h4=>⟨_,cell 3 _ rfl,fun e=> ?_,fun e=>⟨_,cell 4 _ rfl,fun g=> ?_,fun g=>⟨_,_,_,_,_,_,_,_,_,lV (bK A B),?_⟩⟩⟩⟩
  ·rw[cc (.inl om)]
  ·rw[cc (.inr (.inl (ne_nil.1 e)))]
  ·rw[cc (.inr (.inr (ne_nil.1 g)))]
  ·have e:xs[i].r.low.size=0:=ep.1 fun k=>e (ne_nil.2 k)
   have g:xs[i].r.high.size=0:=ep.1 fun k=>g (ne_nil.2 k)
   rw[ar (by rintro(k|k|k)<;>omega)];refine pm (IB (hp.aj hw) xs[i]) ?_;rintro v J2 _ rfl;exact⟨_,rfl,rfl⟩
theorem tO{i:Nat}(hi:i<xs.length):aT (xs.take i)++[xs[i].r]=aT (xs.take (i+1)):=by
 unfold aT;rw[eN,af hi,lx];rfl
theorem AT(b:cT w)(hp:fu w A0 n0 A1 n1 A2 n2 c2 ps hs xs):
  Pure Tryz.prog 77 #[.agg #[.slice A0 n0 c0,.slice A1 n1 c1,.slice A2 n2 c2]] w fun v _=>v= .tuple #[.int .i64 (mV ps hs (aT xs)).1,.int .i64 (mV ps hs (aT xs)).2]:=by
 have hl:=hp.l;have hn:=hp.n;unfold mV;refine F.dS.vc fun w1 e=> ?_
 have hw:=k0 e;refine pm (aR (b.next hw) (hp.c.aj hw)) ?_;rintro v g j rfl;have hw:=kP hw j;refine⟨_,rfl,fun h=> ?_,fun h=>⟨fun h1=> ?_,fun h1=> ?_⟩⟩
 ·rw[cc h]
 ·rw[ar h,cc (by simp[aT];omega)]
 ·rw[ar h,ar (by simp[aT];omega)];have key:∀(d i:Nat)(w':World),n2 - i=d->i<=n2->Below w.heap.size w w'->F.dS.L7 n2 i A0 n0 c0 A1 n1 c1 A2 n2 c2 w.heap.size w' fun v _=>v= .tuple #[.int .i64 (OG ps hs i (aT (xs.take i)) (aT (xs.drop i))).1,.int .i64 (OG ps hs i (aT (xs.take i)) (aT (xs.drop i))).2]:=by
   intro d;induction d with
   |zero=>
    intro i w' k hi hw;rw[dp om];exact F.dS.L7.step ⟨fun h=>by omega,fun _=>rfl⟩
   |succ d ih=>
    intro i w' k hi hw;have a:i<xs.length:=om;refine F.dS.L7.step ⟨fun _=> ?_,fun h=>by omega⟩;refine pm (IC (b.next hw) (hp.aj hw) a) ?_;rintro v m o rfl;have q:=sc i;have x:aT (xs.drop i)=xs[i].r::aT (xs.drop (i+1)):=by
     unfold aT;rw[ec a];rfl
    rw[x,OG];refine⟨_,rfl,fun h=> ?_,fun h=>⟨ir,?_⟩⟩
    ·rw[cc h]
    ·rw[ar h,tO a,q];exact ih (i+1) m om om (kP hw o)
  exact key n2 0 g rfl om hw
end

theorem CP(l:List Rat)(x:Rat):(l++[x]).sum=l.sum+x:=by
 induction l with
 |nil=>simp[Rat.add_zero,Rat.zero_add]
 |cons a r ih=>rw[xm,vM,vM,ih,Rat.add_assoc]
theorem Qq{k:Nat}:∀{l:List Rat},(∀x∈l,Sm k x)->Sm ((k+1)*l.length+1) l.sum:=by
 intro l;induction l with
 |nil=>intro _;exact Sm.zero om
 |cons a r ih=>
  intro h;rw[vM];refine((h a sm).add (ih fun x hx=>h x (by simp[hx]))).mono ?_;rw[gw,jv];omega
def B6(ps:List Pa)(l:List Sw)(x:Ho×ByteArray):Rat:=qR x.2*df (tP ps Pa.eF) (xa l x.1.id)
theorem Gq(ps:List Pa)(hs:List Ho)(r:Ru)(l:List Sw):mh ps hs r l=((hs.zip r.iL).map (B6 ps l)).sum:=rfl

section
variable {w:World} {A0 A1 A2 A:Option Addr} {n0 c0 n1 c1 n2 c2 n c:Nat} {ps:List Pa} {hs:List Ho} {xs:List Rm} {l:List Sw}
theorem Es(b:dF w A0 n0 A1 n1 ps hs)(a:ek ps hs l)(hn:l.length<=40)(id:Int):Sm 12013 (df (tP ps Pa.eF) (xa l id)):=by
 have d:=(a.ld hn).filter fun s=>decide (s.hold=id)
 refine(vk fun s e=>(d.Qe b e).1.1).mono ?_;have:=Qo a id;have:=a.c.lp;unfold xa at*;omega
theorem NL(a:dF w A0 n0 A1 n1 ps hs)(b:ek ps hs l)(hn:l.length<=40){x:Ho×ByteArray}(hv:vR x.2=true)(d:rW x.2):Sm 13013 (B6 ps l x):=
 ((rH hv d).mul (Es a b hn x.1.id)).mono om
theorem Qr{x:Rm}(hx:tg w x)(hf:x.r.iL.all vR=true){y:Ho×ByteArray}(hy:y∈hs.zip x.r.iL):vR y.2=true/\rW y.2:=by
 obtain⟨a,b⟩:=y;have:=(List.of_mem_zip hy).2;exact⟨gu.1 hf _ this,hx.s.iL _ this⟩
theorem wP(b:dF w A0 n0 A1 n1 ps hs)(a:ek ps hs l)(hn:l.length<=40){x:Rm}(hx:tg w x)(hf:x.r.iL.all vR=true)(k:Nat):Sm 90000 (((hs.zip x.r.iL).take k).map (B6 ps l)).sum:=by
 refine(Qq (k:=13013) fun y hy=> ?_).mono ?_
 ·obtain⟨z,d,rfl⟩:=kc.1 hy;obtain⟨h1,h2⟩:=Qr hx hf (mr d);exact NL b a hn h1 h2
 ·have e:=a.c.lh;rw[gv,fs,OO];have:min k (min hs.length x.r.iL.length)<=6:=om;have:=gO 13014 this;omega
theorem NM(ih:hs.Pairwise fun a b=>a.id<b.id){i:Nat}(hi:i<hs.length):pc hs hs[i].id≠none:=by
 intro h;unfold pc at h;rw[DE]at h;have:=h _ (cd hi);simp at this
theorem NN(j:cT w)(hp:fu w A0 n0 A1 n1 A2 n2 c2 ps hs xs)(h:cK w A 3 (l.map Sw.row))(hl:l.length=n)(G:n<=c)(hn:n<=40)(C:cZ ps hs l=0){x:Rm}(hx:tg w x)(hf:x.r.iL.all vR=true)(W:x.r.iL.length=hs.length):
  Pure Tryz.prog 97 #[.agg #[.slice A0 n0 c0,.slice A1 n1 c1,.slice A2 n2 c2],x.val,.slice A n c] w fun v _=>v= .string (rS (mh ps hs x.r l)):=by
 have g:=dt C;have H:=hp.c.lh;have X:=hp.c.nh;have I:=hx.l;refine F.eH.vc fun w1 J=> ?_
 have key:∀(d i:Nat)(w':World),n1 - i=d->i<=n1->Below w.heap.size w w'->F.eH.L3 A n c (rS (((hs.zip x.r.iL).take i).map (B6 ps l)).sum) A1 n1 c1 n1 i A0 n0 c0 A1 n1 c1 A2 n2 c2 x.r.name x.r.kind x.A x.n x.c x.r.low x.r.high x.r.a x.r.b w.heap.size w' fun v _=>v= .string (rS (mh ps hs x.r l)):=by
  intro d;induction d with
  |zero=>
   intro i w' K hi hw;refine F.eH.L3.step ⟨fun h=>by omega,fun _=> ?_⟩;rw[bx (by rw[OO];omega)];rfl
  |succ d ih=>
   intro i w' K hi hw;have D:i<hs.length:=om;have o:i<x.r.iL.length:=om;have q:i<(hs.zip x.r.iL).length:=by rw[OO];omega
   have L:=sc i;have M:((hs.zip x.r.iL).take (i+1)).map (B6 ps l)=((hs.zip x.r.iL).take i).map (B6 ps l)++[B6 ps l (hs[i],x.r.iL[i])]:=by
    rw[eN,af q,lx,List.getElem_zip];rfl
   obtain⟨hb,a,N,e,_⟩:=((hp.aj hw).c.h).at_ (fun _=>rfl) H D;refine F.eH.L3.step ⟨fun _=>⟨hb,a,N,_,_,_,_,_,_,_,e,fun Y O=> ?_⟩,fun h=>by omega⟩;have hw:=kE hw O;refine pm (oT (j.next hw) (hp.aj hw).c (h.aj hw lf) hl G hn hs[i].id) ?_;rintro v Z P rfl;have hw:=kP hw P;unfold AF;rw[ar (fun k=>k C),ar (NM g.c.ih D)];refine⟨_,_,_,_,_,_,_,rfl,fun rU Q=> ?_⟩;have hw:=kE hw Q;obtain⟨y,R,z,B,_⟩:=((hx.aj hw).f).at_ (fun _=>rfl) I o;refine⟨y,R,z,_,B,fun tV S=> ?_⟩;have hw:=kE hw S;have hv:=gu.1 hf _ (cd o);have E:=hx.s.iL _ (cd o);have m:=NJ (j.next hw) (E.sQ hv) ((Es hp.c g om hs[i].id).mono om);rw[<-nV hv]at m;refine pm m ?_;rintro v Kg T rfl;have hw:=kP hw T;refine⟨_,rfl,pm (NI (j.next hw) ((wP hp.c g om hx hf i).mono om) ((NL (x:=(hs[i],x.r.iL[i])) hp.c g om hv E).mono om)) ?_⟩;rintro v U V rfl;refine⟨_,rfl,ir,?_⟩;have:=ih (i+1) U om om (kP hw V);rw[M,CP]at this;rw[L];exact this
 have:=key n1 0 w1 rfl om (k0 J);simp only[Kv,HD,List.sum_nil,<-s0]at this;exact this
theorem Gr(b:cT w){x:Rm}(hx:tg w x)(j:eV x.r.low=true)(m:eV x.r.high=true){s:Rat}(o:Sm 90000 s):
  Pure Tryz.prog 96 #[x.val,.string (rS s)] w fun v _=>v= .string (rS (eT x.r s)):=by
 have d:jy s:=o.mono om;have low:∀w',Below w.heap.size w w'->x.r.low≠⟨#[]⟩->¬(x.r.high.size≠0/\qR x.r.high<s)->Pure Tryz.prog 127 #[.string (rS s),.string x.r.low] w' fun y g=>∃(i8:Int),y=(.int .i64 i8)/\((((i8:Int)<(0:Int))->(Pure Tryz.prog 128 #[(.string (rS s)),(.string x.r.low)] g fun e z=>∃(a:ByteArray),e=(.string a)/\(Value.string a= .string (rS (eT x.r s)))))/\(¬((i8:Int)<(0:Int))->(Value.string (⟨#[48]⟩:ByteArray)= .string (rS (eT x.r s))))):=by
  intro w' hw h0 B;have h0:=ne_nil.1 h0;have v1:=uE j h0;have b1:=hx.s.low.sQ v1;have c1:=ov (b.next hw) d b1;rw[<-nV v1]at c1;unfold eT;rw[ar B];refine pm c1 ?_;rintro v g C rfl;refine⟨_,rfl,fun k=> ?_,fun k=> ?_⟩
  ·have c2:=Gn (b.next (kP hw C)) d b1;rw[<-nV v1]at c2;refine pm c2 ?_;rintro v z _ rfl;exact⟨_,rfl,by rw[cc ⟨h0,gS.1 k⟩]⟩
  ·rw[ar (fun q=>k (gS.2 q.2)),<-s0]
 have none_:¬(x.r.high.size≠0/\qR x.r.high<s)->¬(x.r.low≠⟨#[]⟩)->Value.string (⟨#[48]⟩:ByteArray)= .string (rS (eT x.r s)):=by
  intro h1 h2;unfold eT;rw[ar h1,ar (fun k=>h2 (ne_nil.2 k.1)),<-s0]
 refine F.oW.vc ⟨fun h w1 D=> ?_,fun h=>⟨fun h1 E G=> ?_,fun h1 J _=> ?_⟩⟩
 ·have hw:=k0 D;have h0:=ne_nil.1 h;have v1:=uE m h0;have b1:=hx.s.high.sQ v1;have i:=ov (b.next hw) d b1;rw[<-nV v1]at i;refine pm i ?_;rintro v H I rfl;have hw:=kP hw I;refine⟨_,rfl,fun k=> ?_,fun k=> ?_⟩
  ·have cs:=Gn (b.next hw) d b1;rw[<-nV v1]at cs;refine pm cs ?_;rintro v K _ rfl;refine⟨_,rfl,?_⟩;unfold eT;rw[cc ⟨h0,gT.1 k⟩]
  ·have hn:¬(x.r.high.size≠0/\qR x.r.high<s):=fun q=>k (gT.2 q.2)
   exact⟨fun h2=>low H hw h2 hn,fun h2=>none_ hn h2⟩
 ·exact low E (k0 G) h1 fun q=>h (ne_nil.2 q.1)
 ·exact none_ (fun q=>h (ne_nil.2 q.1)) h1
theorem KR{w:World}{x:Rm}(hx:tg w x)(b:eV x.r.low=true)(d:eV x.r.high=true){s:Rat}(a:Sm 90000 s):jy (eT x.r s):=by
 unfold eT;split
 ·rename_i h;exact(a.sub (rH (uE d h.1) hx.s.high)).mono om
 ·split
  ·rename_i h;exact(a.sub (rH (uE b h.1) hx.s.low)).mono om
  ·exact Sm.zero om
theorem Et(b:cT w)(hp:fu w A0 n0 A1 n1 A2 n2 c2 ps hs xs)(h:cK w A 3 (l.map Sw.row))(hl:l.length=n)(i:n<=c)(hn:n<=40)(d:cZ ps hs l=0){x:Rm}(hx:tg w x)(a:xB ps hs x.r)(e:x.r.kind=1):
  Pure Tryz.prog 94 #[.agg #[.slice A0 n0 c0,.slice A1 n1 c1,.slice A2 n2 c2],x.val,.slice A n c] w fun v _=>v= .bool (eE ps hs l x.r):=by
 have g:Sm 90000 (mh ps hs x.r l):=by
  have:=wP hp.c (dt d) om hx a.iL (hs.zip x.r.iL).length;rwa [QB]at this
 refine F.ml.vc fun w1 j=> ?_
 have hw:=k0 j;refine pm (NN (b.next hw) (hp.aj hw) (h.aj hw lf) hl i hn d (hx.aj hw) a.iL (a.sum e)) ?_;rintro v o k rfl;have hw:=kP hw k;refine⟨_,rfl,pm (Gr (b.next hw) (hx.aj hw) a.low a.high g) ?_⟩;rintro v q m rfl;have hw:=kP hw m;refine⟨_,rfl,pm (KQ (b.next hw) (KR hx a.low a.high g)) ?_⟩;rintro v y _ rfl;refine⟨_,rfl,?_⟩;unfold eE;rw[cc e];refine dB Value.bool ?_;rw[jB];exact not_congr DT

theorem vt(d:dF w A0 n0 A1 n1 ps hs){id:Int}{i:Nat}(hi:nW ps id=some i):
  Pure Tryz.prog 132 #[.agg #[.slice A0 n0 c0,.slice A1 n1 c1,.slice A2 n2 c2],.int .i64 id] w fun v _=>v= .int .i64 (rR ps id):=by
 have m:=d.np;obtain⟨h,hid⟩:=vj hi;refine F.qb.vc fun w1 e o q g=> ?_
 have hw:=k0 e;refine pm (wB (p:=fun p=>decide (p.id=id)) (d.aj hw).p d.lp om kF fun w' hb y hy=> ?_) ?_
 ·exact F.na.vc fun w1 e=>⟨_,dN (bK (bK g hb) (k0 e)) rfl,rfl⟩
 ·rintro v r j rfl;have hw:=kP hw j;show ∃i3:Int,Value.int .i64 (nK (nW ps id))=_/\_
  rw[hi];obtain⟨hb,a,k,_,b⟩:=((d.aj hw).p).at_ (fun _=>rfl) d.lp h;refine⟨_,rfl,hb,a,k,_,b 2 _ rfl,?_⟩;unfold rR;rw[hi,DA,af h]
theorem ID(z:dF w A0 n0 A1 n1 ps hs)(h:cK w A 3 (l.map Sw.row))(hl:l.length=n)(hn:n<=40)(B:∀s∈l,∃i,nW ps s.aG=some i)(x:Rm):
  Pure Tryz.prog 98 #[.agg #[.slice A0 n0 c0,.slice A1 n1 c1,.slice A2 n2 c2],x.val,.slice A n c] w fun v _=>v= .bool (l.any fun s=>l.any fun t=>decide (s.hold=t.hold)&&(decide (rR ps s.aG=x.r.a)&&decide (rR ps t.aG=x.r.b))):=by
 have outer:∀(d i:Nat)(w':World),n - i=d->i<=n->Below w.heap.size w w'->F.bP.L2 A n c A n c n i A0 n0 c0 A1 n1 c1 A2 n2 c2 x.r.name x.r.kind x.A x.n x.c x.r.low x.r.high x.r.a x.r.b w.heap.size w' fun v _=>v= .bool ((l.drop i).any fun s=>l.any fun t=>decide (s.hold=t.hold)&&(decide (rR ps s.aG=x.r.a)&&decide (rR ps t.aG=x.r.b))):=by
  intro d;induction d with
  |zero=>
   intro i w' C hi hw;rw[dp om];exact F.bP.L2.step ⟨fun h=>by omega,fun _=>rfl⟩
  |succ d ih=>
   intro i w' C hi hw;have k:i<l.length:=om;have D:=sc i;obtain⟨ip,E⟩:=B _ (cd k);obtain⟨hb,a,m,g,_⟩:=(h.aj hw lf).at_ (fun _=>rfl) hl k;refine F.bP.L2.step ⟨fun _=>⟨hb,a,m,_,_,_,g,fun G H=> ?_⟩,fun h=>by omega⟩;have hw:=kE hw H;rw[ec k,LR];have inner:∀(e j:Nat)(w':World),n - j=e->j<=n->Below w.heap.size w w'->F.bP.L5 A n c A n c n i A n c n j A0 n0 c0 A1 n1 c1 A2 n2 c2 x.r.name x.r.kind x.A x.n x.c x.r.low x.r.high x.r.a x.r.b l[i].hold l[i].aG l[i].aO w.heap.size w' fun v _=>v= .bool (((l.drop j).any fun t=>decide (l[i].hold=t.hold)&&(decide (rR ps l[i].aG=x.r.a)&&decide (rR ps t.aG=x.r.b)))||
     ((l.drop (i+1)).any fun s=>l.any fun t=>decide (s.hold=t.hold)&&(decide (rR ps s.aG=x.r.a)&&decide (rR ps t.aG=x.r.b)))):=by
    intro e;induction e with
    |zero=>
     intro j w' he hj hw;rw[dp (i:=j) om,Re,vx];refine F.bP.L5.step ⟨fun h=>by omega,fun _=>⟨ir,?_⟩⟩;rw[D];exact ih (i+1) w' om om hw
    |succ e o=>
     intro j w' he hj hw;have q:j<l.length:=om;have y:=sc j;obtain⟨jp,I⟩:=B _ (cd q);obtain⟨hb,a,m,g,_⟩:=(h.aj hw lf).at_ (fun _=>rfl) hl q;rw[ec q,LR];refine F.bP.L5.step ⟨fun _=>⟨hb,a,m,_,_,_,g,fun h1 R J=> ?_,fun h1=>⟨ir,fun K L=> ?_⟩⟩,fun h=>by omega⟩
     ·have hw:=kE hw J;refine pm (vt (z.aj hw) E) ?_;rintro v M N rfl;have hw:=kP hw N;rw[fc h1,lI];refine⟨_,rfl,fun h2=> ?_,fun h2=>⟨ir,?_⟩⟩
      ·refine pm (vt (z.aj hw) I) ?_;rintro v O P rfl;rw[fc h2,lI];refine⟨_,rfl,fun h3=> ?_,fun h3=>⟨ir,?_⟩⟩
       ·rw[fc h3];rfl
       ·rw[eh h3,vx,y];have:=o (j+1) O om om (kP hw P);rw[fc h2]at this;simp only[lI]at this;exact this
      ·rw[eh h2,nZ,vx,y];have:=o (j+1) M om om hw;rw[eh h2]at this;exact this
     ·rw[eh h1,nZ,vx,y];exact o (j+1) K om om (kE hw L)
   have:=inner n 0 G rfl om hw;rwa [uQ]at this
 exact F.bP.vc fun w1 Q=>outer n 0 w1 rfl om (k0 Q)
theorem IE(j:dF w A0 n0 A1 n1 ps hs)(h:cK w A 3 (l.map Sw.row))(hl:l.length=n)(hn:n<=40)(k:∀s∈l,∃i,nW ps s.aG=some i)(x:Rm):
  Pure Tryz.prog 99 #[.agg #[.slice A0 n0 c0,.slice A1 n1 c1,.slice A2 n2 c2],x.val,.slice A n c] w fun v _=>v= .bool (fM ps l x.r.b x.r.a):=by
 refine F.pZ.vc fun w1 m z B e C D g=> ?_
 have hw:=k0 m;refine pm (F.dU.vc (R:=fun v _=>v= .bool (fM ps l x.r.b x.r.a)) (pm (F.aN.vc (yh (h.aj hw lf) hl om kF (p:=fun s=>decide (s.hold=x.r.b)&&decide (rR ps s.aG=x.r.a)) (fun w' hb s o=> ?_) (R:=fun v _=>v= .int .i64 (js (fun s=>decide (s.hold=x.r.b)&&decide (rR ps s.aG=x.r.a)) 0 l)) (fun _=>rfl) n 0 w1 rfl om (Below.refl _ _) rfl)) ?_)) ?_
 ·obtain⟨i,hi⟩:=k s o;have g2:=bK e hb;have g3:=bK g hb;refine F.mW.vc fun E d=>⟨_,fX (bK g3 (k0 d)) rfl,fun h1=>⟨_,_,_,_,_,_,_,_,_,lV (bK g2 (k0 d)),_,fX (bK g3 (k0 d)) rfl,fun G q=> ?_⟩,fun h1 H _=> ?_⟩
  ·refine pm (vt (j.aj (kP (kP hw hb) (kE (k0 d) q))) hi) ?_;rintro v I _ rfl;exact⟨_,rfl,by rw[fc h1,lI]⟩
  ·rw[eh h1,nZ]
 ·rintro v y _ rfl;exact⟨_,rfl,by dsimp only;rw[tE];rfl⟩
 ·rintro v y _ rfl;exact⟨_,rfl,rfl⟩
theorem IF(e:dF w A0 n0 A1 n1 ps hs)(h:cK w A 3 (l.map Sw.row))(hl:l.length=n)(hn:n<=40)(g:ek ps hs l){x:Rm}{i:Nat}(hi:nW ps x.r.a=some i):
  Pure Tryz.prog 100 #[.agg #[.slice A0 n0 c0,.slice A1 n1 c1,.slice A2 n2 c2],x.val,.slice A n c] w fun v _=>v= .bool (match (nW ps x.r.a).bind fun i=>ps[i]? with|some p=>decide (cG l x.r.a<p.aO)|none=>false):=by
 have P:=e.np;obtain⟨m,hid⟩:=vj hi;have Q:=(g.c.p1 _ (cd m)).2.1;rw[hi,DA,af m];refine F.dG.vc fun w1 q L R k=> ?_
 have hw:=k0 q;refine pm (wB (p:=fun p=>decide (p.id=x.r.a)) (e.aj hw).p e.lp om kF fun w' hb y hy=> ?_) ?_
 ·exact F.mX.vc fun w1 q=>⟨_,fX (bK (bK k hb) (k0 q)) rfl,rfl⟩
 ·rintro v z D rfl;show ∃i3:Int,Value.int .i64 (nK (nW ps x.r.a))=_/\_
  rw[hi];have M:=bK k D;have E:=kP hw D;obtain⟨hb,a,B,_,b⟩:=((e.aj E).p).at_ (fun _=>rfl) e.lp m;refine⟨_,rfl,hb,a,B,_,b 1 _ rfl,?_⟩;have key:∀(d j:Nat)(w':World),n - j=d->j<=n->Below z.heap.size z w'->F.dG.L4 ⟨L,0,none⟩ (ps[i].aO - cG (l.take j) x.r.a) A n c n j w.heap.size w' fun v _=>v= .bool (decide (cG l x.r.a<ps[i].aO)):=by
   intro d;induction d with
   |zero=>
    intro j w' N hj o;rw[bx om];refine F.dG.L4.step ⟨fun h=>by omega,fun _=> ?_⟩;refine dB Value.bool ?_;rw[jB];omega
   |succ d ih=>
    intro j w' N hj o;have C:j<l.length:=om;have G:=sc j;have O:l.take (j+1)=l.take j++[l[j]]:=by rw[eN,af C];rfl
    have es:=lB (l.take j) l[j] x.r.a;rw[<-O]at es;have f1:=oC g.pos x.r.a j;have f2:=oC g.pos x.r.a (j+1);have f3:=g.full _ (cd m);rw[hid]at f3;obtain⟨hb,a,B,b,_⟩:=(h.aj (kP E o) lf).at_ (fun _=>rfl) hl C;refine F.dG.L4.step ⟨fun _=>⟨hb,a,B,_,_,_,b,fun H I=> ?_⟩,fun h=>by omega⟩;have J:=kP o (extAll I);have K:=g.pos _ (cd C);refine⟨_,fX (ext_nil I (bK M o)) rfl,fun h1=> ?_,fun h1=>⟨ir,?_⟩⟩
    ·rw[cc h1]at es;refine⟨ir,ir,?_⟩;have:=ih (j+1) H om om J;rw[es]at this;rw[G,show ps[i].aO - cG (l.take j) x.r.a - l[j].aO=ps[i].aO - (cG (l.take j) x.r.a+l[j].aO) by omega];exact this
    ·rw[ar h1,Pl]at es;have:=ih (j+1) H om om J;rw[es]at this;rw[G];exact this
  have:=key n 0 z rfl om (Below.refl _ _);rw[Kv]at this;simp only[cG,HD,List.sum_nil,Int.sub_zero]at this;exact this
end

section
variable {w:World} {A0 A1 A2 A:Option Addr} {n0 c0 n1 c1 n2 c2 n c:Nat} {ps:List Pa} {hs:List Ho} {xs:List Rm} {l:List Sw}
theorem IG(a:cT w)(hp:fu w A0 n0 A1 n1 A2 n2 c2 ps hs xs)(h:cK w A 3 (l.map Sw.row))(hl:l.length=n)(b:n<=c)(hn:n<=40):
  Pure Tryz.prog 69 #[.agg #[.slice A0 n0 c0,.slice A1 n1 c1,.slice A2 n2 c2],.slice A n c] w fun v _=>v= .bool (mi ps hs (aT xs) l):=by
 refine F.pY.vc fun w1 d=> ?_
 have hw:=k0 d;refine pm (AT (a.next hw) (hp.aj hw)) ?_;rintro v g e rfl;have hw:=kP hw e;unfold mi;refine⟨_,_,rfl,fun h1=> ?_,fun h1=> ?_⟩
 ·refine pm (cS (a.next hw) (hp.aj hw).c (h.aj hw lf) hl b om) ?_;rintro v i _ rfl;exact⟨_,rfl,by rw[fc h1,lI]⟩
 ·rw[eh h1,nZ]
theorem AV(a:ek ps hs l):∀s∈l,∃i,nW ps s.aG=some i:=fun s b=>by
 obtain⟨i,k,hi,_⟩:=a.known s b;exact⟨i,hi⟩
theorem IH(a:ek ps hs l):∀s∈l,∃h∈hs,h.id=s.hold:=fun s b=>by
 obtain⟨i,k,_,d⟩:=a.known s b;obtain⟨hl,e⟩:=Eg d;exact⟨_,cd hl,e⟩
theorem Gs(M:cT w)(hp:fu w A0 n0 A1 n1 A2 n2 c2 ps hs xs)(h:cK w A 3 (l.map Sw.row))(hl:l.length=n)(N:n<=c)(hn:n<=40)(O:(mV ps hs (aT xs)).2=0)(H:cZ ps hs l=0):
  Pure Tryz.prog 70 #[.agg #[.slice A0 n0 c0,.slice A1 n1 c1,.slice A2 n2 c2],.slice A n c] w fun v _=>∃A' m c',v= .slice A' m c'/\m=(aT xs).countP (eE ps hs l):=by
 have j:=dt H;have Kn:=hp.l;have P:=hp.n;have Q:=(tc O).2.2;refine F.bY.vc fun w1 R=> ?_
 have key:∀(d i:Nat)(A':Option Addr)(m c':Nat)(w':World)(o:List Int),n2 - i=d->i<=n2->Below w.heap.size w w'->bF w' w.heap.size 3 A' m c' 1 (o.map dy)->m=(aT (xs.take i)).countP (eE ps hs l)->
   F.bY.L4 A n c A' m c' A2 n2 c2 n2 i A0 n0 c0 A1 n1 c1 A2 n2 c2 w.heap.size w' fun v _=>∃A' m c',v= .slice A' m c'/\m=(aT xs).countP (eE ps hs l):=by
  intro d;induction d with
  |zero=>
   intro i A' m c' w' o S hi hw ho hm;rw[bx om]at hm;exact F.bY.L4.step ⟨fun h=>by omega,fun _=>⟨A',m,c',rfl,hm⟩⟩
  |succ d ih=>
   intro i A' m c' w' o S hi hw ho hm;have z:i<xs.length:=om;have I:=sc i;have J:=cd z;have B:=Q xs[i].r (BZ J);have C:=hp.f _ J;have T:m<=i:=by
    rw[hm];refine ga IQ ?_;unfold aT;rw[gv,fs];omega
   have K:(aT (xs.take (i+1))).countP (eE ps hs l)=m+if eE ps hs l xs[i].r then 1 else 0:=by
    rw[<-tO z,List.countP_append,<-hm,List.countP_singleton]
   obtain⟨hb,a,U,b,_⟩:=(hp.aj hw).at_ z;have V:=B.kind;refine F.bY.L4.step ⟨fun _=>⟨hb,a,U,_,_,_,_,_,_,_,_,_,b,om,⟨⟨⟨⟨trivial,fun k=>by omega⟩,fun k D g=> ?_⟩,fun k D g=> ?_⟩,fun k D g=> ?_⟩,fun k D g=> ?_⟩,fun h=>by omega⟩
   all_goals
    have hw:=kE hw g;have ho:=ho.eA g;have q:=hp.aj hw;have y:=h.aj hw lf
   refine pm (Et (M.next hw) q y hl N hn H (C.aj hw) B k) ?_
   rotate_left
   refine pm (pm (ID q.c y hl hn (AV j) xs[i]) (R':=fun v _=>v= .bool (eE ps hs l xs[i].r)) ?_) ?_
   ·rintro v L _ rfl;refine dB Value.bool ?_;unfold eE;rw[ar om,cc k,<-Gi (IH j)]
   rotate_left
   refine pm (pm (IE q.c y hl hn (AV j) xs[i]) (R':=fun v _=>v= .bool (eE ps hs l xs[i].r)) ?_) ?_
   ·rintro v L _ rfl;refine dB Value.bool ?_;unfold eE;rw[ar om,ar om,cc k]
   rotate_left
   obtain⟨ip,W⟩:=B.four k;refine pm (pm (IF q.c y hl hn j W) (R':=fun v _=>v= .bool (eE ps hs l xs[i].r)) ?_) ?_
   ·rintro v L _ rfl;refine dB Value.bool ?_;unfold eE;rw[ar om,ar om,ar om];cases (nW ps xs[i].r.a).bind fun i=>ps[i]? <;>rfl
   rotate_left
   all_goals
    rintro v X E rfl;have G:=kP hw E;refine⟨_,rfl,fun e=> ?_,fun e=>⟨ir,?_⟩⟩
    ·refine ny ft lf (ho.below E) (x:= .int .i64 (i:Int)) rfl (by simp[Value.cells,dA]) G.size om dc fun A3 c3 Y Z _ b3=>⟨ir,?_⟩
     rw[I];refine ih (i+1) A3 (m+1) c3 Y (o++[(i:Int)]) om om (G.trans b3) (by rw[lx];exact Z) ?_;rw[K,cc e]
    ·rw[I];refine ih (i+1) A' m c' X o om om G (ho.below E) ?_;rw[K,ar (by simp[e])];rfl
 have:=key n2 0 none 0 0 w1 [] rfl om (k0 R) bF.nil rfl;exact this
theorem AW(a:cT w)(hp:fu w A0 n0 A1 n1 A2 n2 c2 ps hs xs)(h:cK w A 3 (l.map Sw.row))(hl:l.length=n)(b:n<=c)(hn:n<=40):
  Pure Tryz.prog 35 #[.agg #[.slice A0 n0 c0,.slice A1 n1 c1,.slice A2 n2 c2],.slice A n c] w fun v _=>v= .bool (pW ps hs (aT xs) l):=by
 refine F.pX.vc fun w1 d=> ?_
 have hw:=k0 d;refine pm (IG (a.next hw) (hp.aj hw) (h.aj hw lf) hl b hn) ?_;rintro v j e rfl;have hw:=kP hw e;unfold pW;refine⟨_,rfl,fun h1=>by rw[h1];rfl,fun h1=> ?_⟩;have h1:=hP _|>.mp h1
 rw[h1,lI];unfold mi at h1;simp only[eb,nC]at h1;refine pm (Gs (a.next hw) (hp.aj hw) (h.aj hw lf) hl b hn h1.1 h1.2) ?_;rintro v o g ⟨A',m,c',rfl,hm⟩;have hw:=kP hw g;have i:(aT xs).any (eE ps hs l)=decide (0<m):=by
  rw[hm,sr,nC,List.countP_pos_iff,kh]
 rw[i];refine⟨_,_,_,rfl,fun h2=> ?_,fun h2=> ?_⟩
 ·rw[fc (show 0<m by omega)];rfl
 ·rw[eh (show ¬0<m by omega),GK,lI];refine pm (gI (a.next hw) (hp.aj hw).c (h.aj hw lf) hl b hn) ?_;rintro v q _ rfl;unfold CE;rw[ar (fun k=>k h1.2)];refine⟨_,_,rfl,?_⟩;refine dB Value.bool ?_;rw[jB];exact gh
end

theorem kt{n:Nat}(h:n<=64):pe .i64 (n:Int):=⟨om,by simp only[IntKind.bits];omega⟩
theorem mm:∀n:Nat,n<8->iP .i64 1 (n:Int)=((2^n:Nat):Int):=by decide+kernel
theorem Qv:∀s:Nat,s<128->∀n:Nat,n<8->bits .and .i64 (Hi (s:Int) (n:Int)) 1=if s.testBit n then 1 else 0:=by decide+kernel
theorem vu:∀s:Nat,s<128->∀n:Nat,n<8->bits .or .i64 (s:Int) ((2^n:Nat):Int)=((eG s n:Nat):Int):=by decide+kernel
theorem II:∀s:Nat,s<128->∀n:Nat,n<8->s.testBit n=true->bits .andNot .i64 (s:Int) ((2^n:Nat):Int)=((s^^^2^n:Nat):Int):=by decide+kernel
theorem Qw:∀s:Nat,s<128->∀n:Nat,n<8->bits .xor .i64 (s:Int) ((2^n:Nat):Int)=((s^^^2^n:Nat):Int):=by decide+kernel
theorem AX{s n:Nat}(hs:s<128)(hn:n<8):bits .and .i64 (Hi (s:Int) (n:Int)) 1=1↔s.testBit n=true:=by
 rw[Qv s hs n hn];cases s.testBit n<;>simp
theorem oX:∀n:Nat,n<=6->2^n<=64:=dc
end Go.Proofs.YtgfkeadgjkfomaaGreatDoor.B

set_option maxRecDepth 100000
set_option maxHeartbeats 4000000
namespace Go.Proofs.YtgfkeadgjkfomaaGreatDoor.F
open Go Go.RowKit Go.Proofs Go.Proofs.YtgfkeadgjkfomaaGreatDoor.Vc
def bC.L7(a:O)(b c:Nat)(d:O)(e f:Nat)(g:O)(i j:Nat)(l:O)(m n:Nat)(o p:Int)(q:O)(r s:Nat)(t:O)(u v:Nat):=Lt 12 Tryz.f12 7 [(3,.loc 3 0),(8,.v (.slice a b c)),(10,.v (.slice d e f)),(12,.v (.slice g i j)),(38,.v (.slice l m n)),(39,.v (.int .i64 o)),(40,.v (.int .i64 p))] [⟨3,false,25,[(.slice q r s),(.slice t u v)]⟩]
def bC.pd(a:O)(b c:Nat)(d:O)(e f:Nat)(g:O)(i j:Nat)(l:Int)(m:O)(n o:Nat)(p q:Int)(r:O)(s t:Nat)(u v:Int)(x:O)(y z:Nat)(A:O)(C D:Nat)(E:Int)(G H I J K L:ByteArray):=Lt 12 Tryz.f12 10 [(3,.loc 3 0),(8,.v (.slice a b c)),(10,.v (.slice d e f)),(12,.v (.slice g i j)),(13,.v (.int .i64 l)),(14,.loc 14 0),(38,.v (.slice m n o)),(39,.v (.int .i64 p)),(40,.v (.int .i64 q)),(46,.v (.slice r s t)),(47,.v (.int .i64 u)),(48,.v (.int .i64 v))] [⟨3,false,25,[(.slice x y z),(.slice A C D)]⟩,⟨14,false,61,[(.int .i64 E),(.string G),(.string H),(.string I),(.string J),(.string K),(.string L)]⟩]
def bC.cx:Pm:=([((true,7),[3,8,10,12,38,39,40],[3]),((true,10),[3,8,10,12,13,14,38,39,40,46,47,48],[3,14])],[(13,9999,3),(14,15,2),(14,16,2),(14,9999,3),(20,1,5),(20,2,6)])
theorem bC.L7.step{o p c g i q:O}{r s t u b d j v e l x y B:Nat}{m a:Int}{w:World}{R:Kt}
  (h:(Br (a<m) (Ix a j g fun K=>(∃z A C D E G H,ae w (K.add ((a).toNat*7)) [.int .i64 z,.string A,.string C,.string D,.string E,.string G,.string H]/\(∀I,Ext B [] w I->(bC.pd o r s p t u c b d a g j v m a i e l (e:Int) (0:Int) i e l q x y z A C D E G H B I R)))) (Br ((b:Int)>6) (R (.tuple #[.slice none 0 0,.int .i64 8]) w) (∀f,Ext B [] w f->(∀n:Nat,B<=n->f.heap[n]? =some (.cells [(.func (.func 42) #[] #[])].toArray 75 (0,0))->(dZ P 43 #[.slice c b d,(.func (.func 44) #[] #[(.pointer (some (⟨n,0,none⟩:Addr)))])] B f fun L J=>HE [25] f J/\L= .tuple #[]/\(R (.tuple #[.slice c b d,.int .i64 0]) J))))))):
  bC.L7 o r s p t u c b d g j v m a i e l q x y B w R:=
 lr bC.cx Tryz.func12 h
theorem bC.pd.step{d e l m n o p:O}{f q g r s t u v x H y z b A B:Nat}{c C i D a E:Int}{I J K L M N:ByteArray}{w:World}{R:Kt}
  (h:(Br (a<D) (Ix a x n fun Z=>(∃T a0 k a2 a3 a4 a5,ae w (Z.add ((a).toNat*7)) [.int .i64 T,.int .i64 a0,.int .i64 k,.string a2,.string a3,.string a4,.string a5]/\(az .i64 (a*(b:Int))/\(az .i64 ((a*(b:Int))+c)/\(∀j,Ext B [] w j->(Ix ((a*(b:Int))+c) f d fun F=>(∃U,ae j (F.add ((((a*(b:Int))+c)).toNat*1)) [.int .i64 U]/\(Ix ((a*(b:Int))+c) g e fun W=>(∃V,ae j (W.add ((((a*(b:Int))+c)).toNat*1)) [.int .i64 V]/\(Br (U≠V) (∀G,Ext B [] j G->(Ix ((a*(b:Int))+c) g e fun a8=>(∃Q,ae G (a8.add ((((a*(b:Int))+c)).toNat*1)) [.int .i64 Q]/\(Ix ((a*(b:Int))+c) f d fun a9=>(∃S,ae G (a9.add ((((a*(b:Int))+c)).toNat*1)) [.int .i64 S]/\(az .i64 (Q - S)/\(∀X,Ext B [] G X->(au P (Instr.buildSlice 30 1 #[(0,(.agg #[.int .i64 E,.int .i64 T,(.int .i64 (Q - S))]))]) B [65,25,61] X (Rs fun b0 b1 b2 b3=>(au P (Builtin.append_ #[30,30] 30 #[.slice l s t,.slice b0 b1 b2]) B [65,25,61] b3 (Rs fun b4 b5 b6 b7=>(az .i64 (a+1)/\(bC.pd d f q e g r b4 b5 b6 c m u v C i n x H D (a+1) o y z p b A E I J K L M N B b7 R))))))))))))) (az .i64 (a+1)/\(∀Y,Ext B [] j Y->(bC.pd d f q e g r l s t c m u v C i n x H D (a+1) o y z p b A E I J K L M N B Y R))))))))))))) (az .i64 (i+1)/\(bC.L7 d f q e g r l s t m u v C (i+1) o y z p b A B w R)))):
  bC.pd d f q e g r l s t c m u v C i n x H D a o y z p b A E I J K L M N B w R:=
 lr bC.cx Tryz.func12 h
theorem bC.vc{d b i j:O}{e f a c l m n o:Nat}{w:World}{R:Kt}
  (h:(∀p,Ext w.heap.size [] w p->(Pure P 41 #[.agg #[.slice d e f,.slice b a c],.slice i l m] p (BC fun q r s t u=>(Pure P 41 #[.agg #[.slice d e f,.slice b a c],.slice j n o] u (BC fun v x y z g=>(Br (t≠0) (R (.tuple #[.slice none 0 0,.int .i64 1]) g) (Br (z≠0) (R (.tuple #[.slice none 0 0,.int .i64 1]) g) (bC.L7 q r s v x y none 0 0 b a c (a:Int) (0:Int) d e f b a c w.heap.size g R))))))))):
  Pure P 12 #[.agg #[.slice d e f,.slice b a c],.slice i l m,.slice j n o] w R:=
 pr bC.cx Tryz.func12 h

def oY.cx:Pm:=([],[])
theorem oY.vc{d e f g i:O}{j l m n o p q r s t:Nat}{a:Int}{w:World}{R:Kt}
  (h:(∀u,Ext w.heap.size [] w u->(Pure P 47 #[.agg #[.slice d j l,.slice e m n,.slice f o p],.slice g q r,.slice i s t] u fun y b=>∃k c,y= .tuple #[.pointer k,.int .i64 c]/\(Br (c≠0) (R (.tuple #[.slice none 0 0,.int .i64 c]) b) (Br (a<0) (R (.tuple #[.slice none 0 0,.int .i64 2]) b) (Pure P 48 #[.pointer k] b (Ri fun z v=>(Br (a>z) (R (.tuple #[.slice none 0 0,.int .i64 2]) v) (Pure P 49 #[.pointer k,.int .i64 a] v (T5 fun A C D E x=>(Br (E=false) (R (.tuple #[.slice none 0 0,.int .i64 15]) x) (R (.tuple #[.slice A C D,.int .i64 0]) x)))))))))))):
  Pure P 16 #[.agg #[.slice d j l,.slice e m n,.slice f o p],.slice g q r,.slice i s t,.int .i64 a] w R:=
 pr oY.cx Tryz.func16 h

def oZ.cx:Pm:=([],[(4,0,2),(5,0,2),(6,0,2),(7,0,5),(8,1,10)])
theorem oZ.vc{e f g C i:O}{j l m n o p D E q r:Nat}{w:World}{R:Kt}
  (h:(∀G,Ext w.heap.size [] w G->(Pure P 47 #[.agg #[.slice e j l,.slice f m n,.slice g o p],.slice C D E,.slice i q r] G fun V H=>∃k s,V= .tuple #[.pointer k,.int .i64 s]/\(Br (s≠0) (∀I,Ext w.heap.size [] H I->(R (.tuple #[.slice none 0 0,.int .i64 s]) I)) (∀J,Ext w.heap.size [] H J->(au P (Instr.makeMap 90 none) w.heap.size [79,30,28] J fun X Y=>∃(K:Option Nat),X= .map K/\(∀L,Ext w.heap.size [] Y L->(au P (Instr.alloc 48 true (.tuple #[])) w.heap.size [90,79,30,28] L fun Z a0=>∃(t:Addr),Z= .pointer (some t)/\(au P (Instr.alloc 91 true (.tuple #[])) w.heap.size [90,79,30,28] a0 fun B b=>∃(a:Addr),B= .pointer (some a)/\(∀u:Nat,w.heap.size<=u->b.heap[u]? =some (.cells [.slice i q r].toArray 30 (0,0))->(∀v:Nat,w.heap.size<=v->b.heap[v]? =some (.cells [(.map K)].toArray 90 (0,0))->(∀x:Nat,w.heap.size<=x->b.heap[x]? =some (.cells [.pointer k].toArray 79 (0,0))->(∃(y:List Value)(z:Nat),w.heap.size<=a.block/\a.spot=none/\b.heap[a.block]? =some (.cells y.toArray z (0,0))/\a.off+1<=y.length/\hasType z [⟨3,false,28,[.slice e j l,.slice f m n,.slice g o p]⟩]=false/\∀c,dd b c a.block z (setCells y a.off [(.func (.func 52) #[] #[(.pointer (some (⟨x,0,none⟩:Addr))),(.pointer (some (⟨v,0,none⟩:Addr))),(.pointer (some (⟨u,0,none⟩:Addr))),(.pointer (some t)),(.pointer (some a))])])->(∃(A:Nat)(M N:Array Value),ae c a [(.func (.func A) M N)]/\(bc P A=true/\(dZ P A ((Array.toList M)++([.int .i64 0]:List Value)++(Array.toList N)).toArray w.heap.size c fun a2 d=>HE [28] c d/\∃Q,a2= .bool Q/\(Br (Q=false) (R (.tuple #[.slice none 0 0,.int .i64 19]) d) (∃S T U,ae d t [.slice S T U]/\(R (.tuple #[.slice S T U,.int .i64 0]) d))))))))))))))))))):
  Pure P 22 #[.agg #[.slice e j l,.slice f m n,.slice g o p],.slice C D E,.slice i q r] w R:=
 pr oZ.cx Tryz.func22 h

def bl.L7(a:O)(b c:Nat)(h:O)(d:Option Nat)(e:O)(f g:Nat)(i:Int):=Lt 24 Tryz.f24 7 [(2,.v (.slice a b c)),(8,.v (.pointer h)),(10,.v (.map d)),(11,.v (.slice e f g)),(12,.v (.int .i64 i))] []
def bl.pd(a:O)(b c:Nat)(h:O)(d:Option Nat)(e:O)(f g:Nat)(i j l:Int):=Lt 24 Tryz.f24 10 [(2,.v (.slice a b c)),(8,.v (.pointer h)),(10,.v (.map d)),(11,.v (.slice e f g)),(12,.v (.int .i64 i)),(34,.v (.int .i64 j)),(35,.v (.int .i64 l))] []
def bl.cx:Pm:=([((true,7),[2,8,10,11,12],[]),((true,10),[2,8,10,11,12,34,35],[])],[(4,0,2),(4,1,2),(5,0,2),(12,11,2),(12,16,6),(13,2,2),(14,2,2),(14,3,2)])
theorem bl.L7.step{f k a:O}{b g c d B:Nat}{i:Option Nat}{e:Int}{w:World}{R:Kt}
  (h:(Pure P 48 #[.pointer k] w (Ri fun l j=>(Br (e<=l) (bl.pd f b g k i a c d e (b:Int) (0:Int) B j R) (R (.tuple #[.slice a c d,.int .i64 0]) j))))):
  bl.L7 f b g k i a c d e B w R:=
 lr bl.cx Tryz.func24 h
theorem bl.pd.step{d k e:O}{f g i j B:Nat}{c:Option Nat}{a l b:Int}{w:World}{R:Kt}
  (h:(Br (b<l) (pe .i64 b/\(Br (((bits .and .i64 (Hi a b) (1:Int)):Int)=1) (pe .i64 b/\(au P (Instr.lookup 90 (.map c) (.int .i64 (bits .andNot .i64 a (iP .i64 1 b))) false) B [] w (Rb fun p m=>(Bb p (dZ P 53 #[.pointer k,.int .i64 a] B m fun q n=>HE [] m n/\∃o,q= .bool o/\(Bb o (jz P (Instr.mapUpdate 90 (.map c) (.int .i64 a) (.bool true)) B [] n fun r=>(au P (Instr.buildSlice 48 1 #[(0,(.int .i64 a))]) B [] r (Rs fun s t u v=>(au P (Builtin.append_ #[48,48] 48 #[.slice e i j,.slice s t u]) B [] v (Rs fun x y z A=>(az .i64 (a+1)/\(bl.L7 d f g k c x y z (a+1) B A R))))))) (az .i64 (b+1)/\(bl.pd d f g k c e i j a l (b+1) B n R)))) (az .i64 (b+1)/\(bl.pd d f g k c e i j a l (b+1) B m R)))))) (az .i64 (b+1)/\(bl.pd d f g k c e i j a l (b+1) B w R)))) (az .i64 (a+1)/\(bl.L7 d f g k c e i j (a+1) B w R)))):
  bl.pd d f g k c e i j a l b B w R:=
 lr bl.cx Tryz.func24 h
theorem bl.vc{f g i j a:O}{l m n o p q r s b c:Nat}{w:World}{R:Kt}
  (h:(∀t,Ext w.heap.size [] w t->(Pure P 47 #[.agg #[.slice f l m,.slice g n o,.slice i p q],.slice j r s,.slice a b c] t fun v u=>∃k d,v= .tuple #[.pointer k,.int .i64 d]/\(Br (d≠0) (R (.tuple #[.slice none 0 0,.int .i64 d]) u) (au P (Instr.makeMap 90 none) w.heap.size [28] u fun x y=>∃(e:Option Nat),x= .map e/\(jz P (Instr.mapUpdate 90 (.map e) (.int .i64 0) (.bool true)) w.heap.size [28] y fun z=>(au P (Instr.buildSlice 48 1 #[(0,(.int .i64 0))]) w.heap.size [28] z (Rs fun A C D E=>(bl.L7 a b c k e A C D (1:Int) w.heap.size E R))))))))):
  Pure P 24 #[.agg #[.slice f l m,.slice g n o,.slice i p q],.slice j r s,.slice a b c] w R:=
 pr bl.cx Tryz.func24 h

def bQ.L7(a:O)(b c:Nat)(g:O)(d e:Int):=Lt 27 Tryz.f27 7 [(3,.v (.slice a b c)),(10,.v (.pointer g)),(32,.v (.int .i64 d)),(33,.v (.int .i64 e))] []
def bQ.uA(g:O)(a:Int)(b:O)(c d:Nat)(e f:Int):=Lt 27 Tryz.f27 14 [(10,.v (.pointer g)),(13,.v (.int .i64 a)),(41,.v (.slice b c d)),(42,.v (.int .i64 e)),(43,.v (.int .i64 f))] []
def bQ.cx:Pm:=([((true,7),[3,10,32,33],[]),((true,14),[10,13,41,42,43],[])],[(17,2,6)])
theorem bQ.L7.step{c i:O}{a d B:Nat}{e b:Int}{w:World}{R:Kt}
  (h:(Br (b<e) (Pure P 57 #[.slice c a d,.int .i64 b] w (Rb fun g f=>(Br (g=false) (R (.tuple #[(.int .i64 (-1:Int)),.int .i64 10]) f) (az .i64 (b+1)/\(bQ.L7 c a d i e (b+1) B f R))))) (bQ.uA i (0:Int) c a d (a:Int) (0:Int) B w R))):
  bQ.L7 c a d i e b B w R:=
 lr bQ.cx Tryz.func27 h
theorem bQ.uA.step{k c:O}{d e a:Int}{f i B:Nat}{w:World}{R:Kt}
  (h:(Br (a<e) (Ix a f c fun l=>(∃b,ae w (l.add ((a).toNat*1)) [.int .i64 b]/\(pe .i64 b/\(dZ P 53 #[.pointer k,(.int .i64 (bits .or .i64 d (iP .i64 1 b)))] B w fun m g=>HE [] w g/\∃j,m= .bool j/\(Br (j=false) (R (.tuple #[.int .i64 a,.int .i64 15]) g) (az .i64 (a+1)/\(bQ.uA k (bits .or .i64 d (iP .i64 1 b)) c f i e (a+1) B g R))))))) (R (.tuple #[(.int .i64 (-1:Int)),.int .i64 0]) w))):
  bQ.uA k d c f i e a B w R:=
 lr bQ.cx Tryz.func27 h
theorem bQ.vc{e f g i j l:O}{m n o p q r s t a u b v:Nat}{w:World}{R:Kt}
  (h:(∀x,Ext w.heap.size [] w x->(Pure P 47 #[.agg #[.slice e m n,.slice f o p,.slice g q r],.slice i s t,.slice j a u] x fun y c=>∃k d,y= .tuple #[.pointer k,.int .i64 d]/\(Br (d≠0) (R (.tuple #[(.int .i64 (-1:Int)),.int .i64 d]) c) (Br ((b:Int)≠(a:Int)) (R (.tuple #[(.int .i64 (-1:Int)),.int .i64 10]) c) (bQ.L7 l b v k (a:Int) (0:Int) w.heap.size c R)))))):
  Pure P 27 #[.agg #[.slice e m n,.slice f o p,.slice g q r],.slice i s t,.slice j a u,.slice l b v] w R:=
 pr bQ.cx Tryz.func27 h

def aL.L6(a:O)(b c:Nat)(d:O)(e f:Nat)(h:O)(g:Option Nat)(i:O)(j l:Nat)(m n:Int):=Lt 30 Tryz.f30 6 [(2,.v (.slice a b c)),(3,.v (.slice d e f)),(9,.v (.pointer h)),(11,.v (.map g)),(29,.v (.slice i j l)),(30,.v (.int .i64 m)),(31,.v (.int .i64 n))] []
def aL.tJ(a:O)(b c:Nat)(h:O)(d:Option Nat)(e:O)(f g:Nat)(i j:Int):=Lt 30 Tryz.f30 15 [(2,.v (.slice a b c)),(9,.v (.pointer h)),(11,.v (.map d)),(63,.v (.slice e f g)),(64,.v (.int .i64 i)),(65,.v (.int .i64 j))] []
def aL.Qx(a:O)(b c:Nat)(h:O)(d:Option Nat)(e:Int)(f:O)(g i:Nat)(j l m n:Int):=Lt 30 Tryz.f30 18 [(2,.v (.slice a b c)),(9,.v (.pointer h)),(11,.v (.map d)),(15,.v (.int .i64 e)),(63,.v (.slice f g i)),(64,.v (.int .i64 j)),(65,.v (.int .i64 l)),(70,.v (.int .i64 m)),(71,.v (.int .i64 n))] []
def aL.cx:Pm:=([((true,6),[2,3,9,11,29,30,31],[]),((true,15),[2,9,11,63,64,65],[]),((true,18),[2,9,11,15,63,64,65,70,71],[])],[(4,0,2),(10,2,2),(12,1,2),(21,2,2),(21,7,6)])
theorem aL.L6.step{g e k i:O}{j l c m n p B:Nat}{b:Option Nat}{o a:Int}{w:World}{R:Kt}
  (h:(Br (a<o) (Ix a n i fun s=>(∃d,ae w (s.add ((a).toNat*1)) [.int .i64 d]/\(Br (d<0) (R (.int .i64 14) w) (Pure P 48 #[.pointer k] w (Ri fun t f=>(Br (d≥t) (R (.int .i64 14) f) (Br (a>0) (az .i64 (a - (1:Int))/\(Ix (a - (1:Int)) c e fun u=>(∃q,ae f (u.add (((a - (1:Int))).toNat*1)) [.int .i64 q]/\(Br (q≥d) (R (.int .i64 14) f) (jz P (Instr.mapUpdate 90 (.map b) (.int .i64 d) (.bool true)) B [] f fun v=>(az .i64 (a+1)/\(aL.L6 g j l e c m k b i n p o (a+1) B v R))))))) (jz P (Instr.mapUpdate 90 (.map b) (.int .i64 d) (.bool true)) B [] f fun x=>(az .i64 (a+1)/\(aL.L6 g j l e c m k b i n p o (a+1) B x R)))))))))) (au P (Instr.lookup 90 (.map b) (.int .i64 0) false) B [] w (Rb fun y r=>(Br (y=false) (R (.int .i64 14) r) (aL.tJ g j l k b e c m (c:Int) (0:Int) B r R)))))):
  aL.L6 g j l e c m k b i n p o a B w R:=
 lr aL.cx Tryz.func30 h
theorem aL.tJ.step{f k b:O}{c g d i B:Nat}{j:Option Nat}{e a:Int}{w:World}{R:Kt}
  (h:(Br (a<e) (Ix a d b fun m=>(∃l,ae w (m.add ((a).toNat*1)) [.int .i64 l]/\(aL.Qx f c g k j l b d i e a (c:Int) (0:Int) B w R))) (R (.int .i64 0) w))):
  aL.tJ f c g k j b d i e a B w R:=
 lr aL.cx Tryz.func30 h
theorem aL.Qx.step{e k f:O}{g i j l B:Nat}{b:Option Nat}{c m d n a:Int}{w:World}{R:Kt}
  (h:(Br (a<n) (pe .i64 a/\(au P (Instr.lookup 90 (.map b) (.int .i64 (bits .or .i64 c (iP .i64 1 a))) false) B [] w (Rb fun r o=>(Br (r=false) (dZ P 53 #[.pointer k,(.int .i64 (bits .or .i64 c (iP .i64 1 a)))] B o fun s p=>HE [] o p/\∃q,s= .bool q/\(Bb q (R (.int .i64 14) p) (az .i64 (a+1)/\(aL.Qx e g i k b c f j l m d n (a+1) B p R)))) (az .i64 (a+1)/\(aL.Qx e g i k b c f j l m d n (a+1) B o R)))))) (az .i64 (d+1)/\(aL.tJ e g i k b f j l m (d+1) B w R)))):
  aL.Qx e g i k b c f j l m d n a B w R:=
 lr aL.cx Tryz.func30 h
theorem aL.vc{i j l m b c:O}{n o p q r s t u d e a f:Nat}{w:World}{R:Kt}
  (h:(∀v,Ext w.heap.size [] w v->(Pure P 47 #[.agg #[.slice i n o,.slice j p q,.slice l r s],.slice m t u,.slice b d e] v fun z x=>∃k g,z= .tuple #[.pointer k,.int .i64 g]/\(Br (g≠0) (R (.int .i64 g) x) (au P (Instr.makeMap 90 none) w.heap.size [28] x fun A C=>∃(y:Option Nat),A= .map y/\(aL.L6 b d e c a f k y c a f (a:Int) (0:Int) w.heap.size C R)))))):
  Pure P 30 #[.agg #[.slice i n o,.slice j p q,.slice l r s],.slice m t u,.slice b d e,.slice c a f] w R:=
 pr aL.cx Tryz.func30 h

def jQ.cx:Pm:=([],[])
theorem jQ.vc{d e a:Int}{w:World}{R:Kt}
  (h:(Br (a<0) (∀b,Ext w.heap.size [] w b->(R (.int .i64 0) b)) (∀c,Ext w.heap.size [] w c->(R (.int .i64 1) c)))):
  Pure P 42 #[.agg #[.int .i64 d,.int .i64 e,.int .i64 a]] w R:=
 pr jQ.cx Tryz.func42 h

def jR.cx:Pm:=([],[(1,2,4),(1,5,4),(1,9999,3)])
theorem jR.vc{e f g i j l:Int}{b:Addr}{w:World}{R:Kt}
  (h:(∀a,Ext w.heap.size [] w a->(∃(c:Nat)(m n:Array Value),ae a b [(.func (.func c) m n)]/\(∃(d:Nat)(o p:Array Value),ae a b [(.func (.func d) o p)]/\(bc P c=true/\(∀q,Ext w.heap.size [] a q->(Pure P c ((Array.toList m)++([.agg #[.int .i64 e,.int .i64 f,.int .i64 g]]:List Value)++(Array.toList n)).toArray q (Ri fun r s=>(bc P d=true/\(Pure P d ((Array.toList o)++([.agg #[.int .i64 i,.int .i64 j,.int .i64 l]]:List Value)++(Array.toList p)).toArray s (Ri fun t u=>(Pure P 45 #[.int .i64 r,.int .i64 t] u (Ri fun v x=>(R (.int .i64 v) x)))))))))))))):
  Pure P 44 #[.agg #[.int .i64 e,.int .i64 f,.int .i64 g],.agg #[.int .i64 i,.int .i64 j,.int .i64 l],(.pointer (some b))] w R:=
 pr jR.cx Tryz.func44 h

def bR.pd(a:O)(b c:Nat)(d:O)(e f:Nat)(g:Addr)(i:O)(j l:Nat)(m n:Int)(o:O)(p q:Nat)(r:O)(s t:Nat)(u:O)(v x:Nat):=Lt 47 Tryz.f47 10 [(1,.v (.slice a b c)),(2,.v (.slice d e f)),(3,.loc 3 0),(10,.v (.pointer (some g))),(36,.v (.slice i j l)),(37,.v (.int .i64 m)),(38,.v (.int .i64 n))] [⟨3,false,28,[(.slice o p q),(.slice r s t),(.slice u v x)]⟩]
def bR.F6(a:O)(b c:Nat)(d:Addr)(e:O)(f g:Nat)(i j:Int)(l:O)(m n:Nat)(o:O)(p q:Nat)(r:O)(s t:Nat):=Lt 47 Tryz.f47 17 [(1,.v (.slice a b c)),(3,.loc 3 0),(10,.v (.pointer (some d))),(55,.v (.slice e f g)),(56,.v (.int .i64 i)),(57,.v (.int .i64 j))] [⟨3,false,28,[(.slice l m n),(.slice o p q),(.slice r s t)]⟩]
def bR.cx:Pm:=([((true,10),[1,2,3,10,36,37,38],[3]),((true,17),[1,3,10,55,56,57],[3])],[(8,2,2),(8,4,2)])
theorem bR.pd.step{d e f g i j:O}{l m b n o y p q r s t u B:Nat}{c:Addr}{v a:Int}{w:World}{R:Kt}
  (h:(Br (a<v) (Ix a o f fun E=>(∃z A C,ae w (E.add ((a).toNat*3)) [.int .i64 z,.int .i64 A,.int .i64 C]/\(∀D,Ext B [] w D->(Pure P 78 #[(.pointer (some c)),.agg #[.int .i64 z,.int .i64 A,.int .i64 C]] D (Rii fun G H x=>(Br (G<0) (R (.tuple #[.pointer none,.int .i64 7]) x) (Br (H<0) (R (.tuple #[.pointer none,.int .i64 7]) x) (az .i64 (a+1)/\(bR.pd d l m e b n c f o y v (a+1) g p q i r s j t u B x R))))))))) (bR.F6 d l m c e b n (b:Int) (0:Int) g p q i r s j t u B w R))):
  bR.pd d l m e b n c f o y v a g p q i r s j t u B w R:=
 lr bR.cx Tryz.func47 h
theorem bR.F6.step{l m c d n:O}{o p q x e f g i r s B:Nat}{a:Addr}{t b:Int}{w:World}{R:Kt}
  (h:(Br (b<t) (Ix b q m fun G=>(∃H I j,ae w (G.add ((b).toNat*3)) [.int .i64 H,.int .i64 I,.int .i64 j]/\(Br (j=0) (∀y,Ext B [] w y->(R (.tuple #[.pointer none,.int .i64 2]) y)) (Br (j<(-9:Int)) (∀z,Ext B [] w z->(R (.tuple #[.pointer none,.int .i64 2]) z)) (Br (j>9) (∀A,Ext B [] w A->(R (.tuple #[.pointer none,.int .i64 2]) A)) (az .i64 (b+1)/\(∀C,Ext B [] w C->(bR.F6 l o p a m q x t (b+1) c e f d g i n r s B C R)))))))) (Pure P 41 #[.agg #[.slice c e f,.slice d g i],.slice l o p] w (BC fun J K L M D=>(∃(u:List Value)(v:Nat),B<=(a.add 4).block/\(a.add 4).spot=none/\D.heap[(a.add 4).block]? =some (.cells u.toArray v (0,0))/\(a.add 4).off+1<=u.length/\hasType v [⟨3,false,28,[.slice c e f,.slice d g i,.slice n r s]⟩]=false/\∀E,dd D E (a.add 4).block v (setCells u (a.add 4).off [.slice J K L])->(R (.tuple #[(.pointer (some a)),.int .i64 0]) E)))))):
  bR.F6 l o p a m q x t b c e f d g i n r s B w R:=
 lr bR.cx Tryz.func47 h
theorem bR.vc{b c d o m:O}{e f g i j l p q a n:Nat}{w:World}{R:Kt}
  (h:(∀s,Ext w.heap.size [] w s->(Pure P 77 #[.agg #[.slice b e f,.slice c g i,.slice d j l]] s (Rii fun E x t=>(Br (x≠0) (R (.tuple #[.pointer none,.int .i64 1]) t) (Pure P 35 #[.agg #[.slice b e f,.slice c g i,.slice d j l],.slice o p q] t (Rb fun y r=>(Br (y=false) (R (.tuple #[.pointer none,.int .i64 11]) r) (Br ((a:Int)>6) (R (.tuple #[.pointer none,.int .i64 8]) r) (au P (Instr.makeMap 90 none) w.heap.size [28] r fun z A=>∃(u:Option Nat),z= .map u/\(au P (Instr.box 114 (.agg #[.slice b e f,.slice c g i,.slice d j l,.slice m a n,.slice none 0 0,(.map u)])) w.heap.size [28] A fun C D=>∃(v:Addr),C= .pointer (some v)/\(bR.pd o p q m a n v m a n (a:Int) (0:Int) b e f c g i d j l w.heap.size D R)))))))))))):
  Pure P 47 #[.agg #[.slice b e f,.slice c g i,.slice d j l],.slice o p q,.slice m a n] w R:=
 pr bR.cx Tryz.func47 h

def mn.cx:Pm:=([],[])
theorem mn.vc{b:Addr}{w:World}{R:Kt}
  (h:(∃c a d,ae w (b.add 3) [.slice c a d]/\(pe .i64 (a:Int)/\(az .i64 ((iP .i64 1 (a:Int)) - (1:Int))/\(R (.int .i64 ((iP .i64 1 (a:Int)) - (1:Int))) w))))):
  Pure P 48 #[(.pointer (some b))] w R:=
 pr mn.cx Tryz.func48 h

def cj.L3(a:Addr)(b:Int)(c:O)(d e:Nat)(f:O)(g i:Nat)(j l:Int):=Lt 49 Tryz.f49 3 [(0,.v (.pointer (some a))),(1,.v (.int .i64 b)),(6,.v (.slice c d e)),(21,.v (.slice f g i)),(22,.v (.int .i64 j)),(23,.v (.int .i64 l))] []
def cj.cx:Pm:=([((true,3),[0,1,6,21,22,23],[])],[])
theorem cj.L3.step{e:Addr}{l m c:Int}{f n:O}{g o p q B:Nat}{w:World}{R:Kt}
  (h:(Br (c<m) (Ix c p n fun K=>(∃r s j,ae w (K.add ((c).toNat*3)) [.int .i64 r,.int .i64 s,.int .i64 j]/\(pe .i64 c/\(Br (((bits .and .i64 (Hi l c) (1:Int)):Int)=1) (∀z,Ext B [] w z->(Pure P 78 #[(.pointer (some e)),.agg #[.int .i64 r,.int .i64 s,.int .i64 j]] z (Rii fun b d t=>(∃L a M,ae t (((e.add 0).add 0).add 1) [.slice L a M]/\(az .i64 (b*(a:Int))/\(az .i64 ((b*(a:Int))+d)/\(Ix ((b*(a:Int))+d) g f fun N=>(∃u,ae t (N.add ((((b*(a:Int))+d)).toNat*1)) [.int .i64 u]/\(az .i64 (u+j)/\(Ix ((b*(a:Int))+d) g f fun i=>(∀v,Ext B [] t v->(∃(x:List Value)(y:Nat),B<=(i.add ((((b*(a:Int))+d)).toNat*1)).block/\(i.add ((((b*(a:Int))+d)).toNat*1)).spot=none/\v.heap[(i.add ((((b*(a:Int))+d)).toNat*1)).block]? =some (.cells x.toArray y (0,0))/\(i.add ((((b*(a:Int))+d)).toNat*1)).off+1<=x.length/\hasType y [⟨8,false,44,[.int .i64 r,.int .i64 s,.int .i64 j]⟩]=false/\∀A,dd v A (i.add ((((b*(a:Int))+d)).toNat*1)).block y (setCells x (i.add ((((b*(a:Int))+d)).toNat*1)).off [(.int .i64 (u+j))])->(az .i64 (c+1)/\(cj.L3 e l f g o n p q m (c+1) B A R)))))))))))))) (az .i64 (c+1)/\(∀C,Ext B [] w C->(cj.L3 e l f g o n p q m (c+1) B C R))))))) (∃D E G H I J,ae w ((e.add 0).add 0) [.slice D E G,.slice H I J]/\(Pure P 79 #[.agg #[.slice D E G,.slice H I J],.slice f g o] w (BC fun Q S T U V=>(R (.tuple #[.slice Q S T,(.bool (decide (U=0)))]) V)))))):
  cj.L3 e l f g o n p q m c B w R:=
 lr cj.cx Tryz.func49 h
theorem cj.vc{a:Addr}{c:Int}{w:World}{R:Kt}
  (h:(∃d e f,ae w (a.add 4) [.slice d e f]/\(Pure P 28 #[.slice d e f] w (Rs fun l m n g=>(∃i b j,ae g (a.add 3) [.slice i b j]/\(cj.L3 a c l m n i b j (b:Int) (0:Int) w.heap.size g R)))))):
  Pure P 49 #[(.pointer (some a)),.int .i64 c] w R:=
 pr cj.cx Tryz.func49 h

def bZ.L6(a:Int)(b:Addr)(c:Addr)(d:Addr)(e:Addr)(f g:Int):=Lt 52 Tryz.f52 6 [(0,.v (.int .i64 a)),(1,.v (.pointer (some b))),(2,.v (.pointer (some c))),(4,.v (.pointer (some d))),(5,.v (.pointer (some e))),(18,.v (.int .i64 f)),(19,.v (.int .i64 g))] []
def bZ.cx:Pm:=([((true,6),[0,1,2,4,5,18,19],[])],[(3,2,2),(9,6,6),(10,2,2),(10,3,2),(11,2,10),(15,2,2)])
theorem bZ.L6.step{c e b:Int}{f g a i:Addr}{B:Nat}{w:World}{R:Kt}
  (h:(Br (b<e) (pe .i64 b/\(Br (((bits .or .i64 c (iP .i64 1 b)):Int)=c) (az .i64 (b+1)/\(bZ.L6 c f g a i e (b+1) B w R)) (∃k,ae w f [.pointer k]/\(dZ P 53 #[.pointer k,(.int .i64 (bits .or .i64 c (iP .i64 1 b)))] B w fun H l=>HE [] w l/\∃t,H= .bool t/\(Br (t=false) (az .i64 (b+1)/\(bZ.L6 c f g a i e (b+1) B l R)) (∃u v x,ae l a [.slice u v x]/\(au P (Instr.buildSlice 48 1 #[(0,(.int .i64 b))]) B [] l (Rs fun I J K L=>(au P (Builtin.append_ #[48,48] 48 #[.slice u v x,.slice I J K]) B [] L (Rs fun M N O y=>(∃(n:List Value)(o:Nat),B<=a.block/\a.spot=none/\y.heap[a.block]? =some (.cells n.toArray o (0,0))/\a.off+1<=n.length/\hasType o []=false/\∀m,dd y m a.block o (setCells n a.off [.slice M N O])->(∃(p:Nat)(z A:Array Value),ae m i [(.func (.func p) z A)]/\(bc P p=true/\(dZ P p ((Array.toList z)++([(.int .i64 (bits .or .i64 c (iP .i64 1 b)))]:List Value)++(Array.toList A)).toArray B m fun Q d=>HE [] m d/\∃C,Q= .bool C/\(Bb C (R (.bool true) d) (∃D S q,ae d a [.slice D S q]/\(∃T j U,ae d a [.slice T j U]/\(az .i64 ((j:Int) - (1:Int))/\((0<=((j:Int) - (1:Int))/\((j:Int) - (1:Int))<=(q:Int))/\(∃(r:List Value)(s:Nat),B<=a.block/\a.spot=none/\d.heap[a.block]? =some (.cells r.toArray s (0,0))/\a.off+1<=r.length/\hasType s []=false/\∀E,dd d E a.block s (setCells r a.off [(.slice D ((((j:Int) - (1:Int))).toNat) q)])->(az .i64 (b+1)/\(bZ.L6 c f g a i e (b+1) B E R)))))))))))))))))))))) (∃(G:Option Nat),ae w g [(.map G)]/\(jz P (Instr.mapUpdate 90 (.map G) (.int .i64 c) (.bool true)) B [] w fun V=>(R (.bool false) V))))):
  bZ.L6 c f g a i e b B w R:=
 lr bZ.cx Tryz.func52 h
theorem bZ.Jm{a:Int}{b c f g i:Addr}{B:Nat}{w:World}{R:Kt}(hB:B<=w.heap.size)
  (h:(∃o1,ae w b [.pointer o1]/\(Pure P 48 #[.pointer o1] w (Ri fun m d=>(Br (a=m) (R (.bool true) d) (∃(j:Option Nat),ae d c [(.map j)]/\(au P (Instr.lookup 90 (.map j) (.int .i64 a) false) B [] d (Rb fun n e=>(Bb n (R (.bool false) e) (∃o l p,ae e f [.slice o l p]/\(bZ.L6 a b c g i (l:Int) (0:Int) B e R))))))))))):
  dZ P 52 #[.int .i64 a,(.pointer (some b)),(.pointer (some c)),(.pointer (some f)),(.pointer (some g)),(.pointer (some i))] B w R:=
 pb bZ.cx Tryz.func52 h hB

def iF.cx:Pm:=([],[(1,5,2),(5,6,2)])
theorem iF.Jm{a:Addr}{b:Int}{B:Nat}{w:World}{R:Kt}(hB:B<=w.heap.size)
  (h:(∃(d:Option Nat),ae w (a.add 5) [(.map d)]/\(au P (Instr.lookup 90 (.map d) (.int .i64 b) true) B [] w fun x e=>∃f g,x= .tuple #[.bool f,.bool g]/\(Br (g=false) (Pure P 49 #[(.pointer (some a)),.int .i64 b] e (T5 fun y z A C c=>(Bb C (∃i j l m n o p q r,ae c (a.add 0) [.slice i j l,.slice m n o,.slice p q r]/\(Pure P 35 #[.agg #[.slice i j l,.slice m n o,.slice p q r],.slice y z A] c (Rb fun s t=>(∃(u:Option Nat),ae t (a.add 5) [(.map u)]/\(jz P (Instr.mapUpdate 90 (.map u) (.int .i64 b) (.bool s)) B [] t fun D=>(R (.bool s) D)))))) (∃(v:Option Nat),ae c (a.add 5) [(.map v)]/\(jz P (Instr.mapUpdate 90 (.map v) (.int .i64 b) (.bool false)) B [] c fun E=>(R (.bool false) E)))))) (R (.bool f) e))))):
  dZ P 53 #[(.pointer (some a)),.int .i64 b] B w R:=
 pb iF.cx Tryz.func53 h hB

def jS.cx:Pm:=([],[(1,6,5)])
theorem jS.vc{c:Addr}{d e f:Int}{w:World}{R:Kt}
  (h:(∀a,Ext w.heap.size [] w a->(∃g i j,ae a (((c.add 0).add 0).add 0) [.slice g i j]/\(∀b:Nat,w.heap.size<=b->a.heap[b]? =some (.cells [.int .i64 d,.int .i64 e,.int .i64 f].toArray 44 (0,0))->(Pure P 111 #[.slice g i j,(.func (.func 112) #[] #[(.pointer (some (⟨b,0,none⟩:Addr)))])] a (Ri fun p l=>(∃m n o,ae l (((c.add 0).add 0).add 1) [.slice m n o]/\(Pure P 101 #[.slice m n o,(.func (.func 113) #[] #[(.pointer (some (⟨b,0,none⟩:Addr)))])] l (Ri fun q r=>(R (.tuple #[.int .i64 p,.int .i64 q]) r)))))))))):
  Pure P 78 #[(.pointer (some c)),.agg #[.int .i64 d,.int .i64 e,.int .i64 f]] w R:=
 pr jS.cx Tryz.func78 h

def hX.cx:Pm:=([],[])
theorem hX.vc{b e f:Int}{g i j l:ByteArray}{c:Addr}{w:World}{R:Kt}
  (h:(∀a,Ext w.heap.size [] w a->(∃d,ae a (c.add 1) [.int .i64 d]/\(R (.bool (decide (b=d))) a)))):
  Pure P 112 #[.agg #[.int .i64 b,.int .i64 e,.int .i64 f,.string g,.string i,.string j,.string l],(.pointer (some c))] w R:=
 pr hX.cx Tryz.func112 h

def hZ.cx:Pm:=([],[])
theorem hZ.vc{b:Int}{e f g i j l:ByteArray}{c:Addr}{w:World}{R:Kt}
  (h:(∀a,Ext w.heap.size [] w a->(∃d,ae a (c.add 0) [.int .i64 d]/\(R (.bool (decide (b=d))) a)))):
  Pure P 113 #[.agg #[.int .i64 b,.string e,.string f,.string g,.string i,.string j,.string l],(.pointer (some c))] w R:=
 pr hZ.cx Tryz.func113 h

end Go.Proofs.YtgfkeadgjkfomaaGreatDoor.F

namespace Go.Proofs.YtgfkeadgjkfomaaGreatDoor.B
open Go Go.RowKit Go.Proofs Go.Proofs.YtgfkeadgjkfomaaGreatDoor.Vc

structure Tk where
 b:Nat
 m:Nat
 A0:Option Addr
 n0:Nat
 c0:Nat
 A1:Option Addr
 n1:Nat
 c1:Nat
 A2:Option Addr
 n2:Nat
 c2:Nat
 A3:Option Addr
 n3:Nat
 c3:Nat
 A4:Option Addr
 n4:Nat
 c4:Nat
abbrev Tk.cs(k:Tk):List Value:=[.slice k.A0 k.n0 k.c0,.slice k.A1 k.n1 k.c1,.slice k.A2 k.n2 k.c2,.slice k.A3 k.n3 k.c3,.slice k.A4 k.n4 k.c4,.map (some k.m)]
abbrev Tk.p(k:Tk):Addr:=⟨k.b,0,none⟩
def Gt(w:World)(k:Tk):Prop:=w.heap[k.b]? =some (.cells k.cs.toArray 114 (0,0))
theorem Gt.aj{w w':World}{k:Tk}(h:Gt w k)(hb:Below w.heap.size w w'):Gt w' k:=bK h hb
theorem Gt.cl{w w':World}{k:Tk}(h:Gt w k)(c:Cl w w'):Gt w' k:=c.cells _ _ _ _ h
theorem Gt.cell{w:World}{k:Tk}(h:Gt w k)(i:Nat){v:Value}(hv:k.cs[i]? =some v):ae w (k.p.add i) [v]:=fX h hv
theorem Gt.part{w:World}{k:Tk}(h:Gt w k)(i n:Nat):ae w (k.p.add i) ((k.cs.drop i).take n):=zT (lV h) i n
structure yw (w:World) (k:Tk) (ps:List Pa) (hs:List Ho) (xs:List Rm) (l works:List Sw):Prop where
 t:Gt w k
 p:fu w k.A0 k.n0 k.A1 k.n1 k.A2 k.n2 k.c2 ps hs xs
 wk:cK w k.A3 3 (works.map Sw.row)
 lw:works.length=k.n3
 st:cK w k.A4 1 ((bH ps hs l).map dy)
 ok:IA ps hs (aT xs) l works
 n4:k.n4=k.n0*k.n1
theorem yw.aj{w w':World}{k:Tk}{ps:List Pa}{hs:List Ho}{xs:List Rm}{l works:List Sw}(h:yw w k ps hs xs l works)(hb:Below w.heap.size w w'):yw w' k ps hs xs l works:=
 ⟨h.t.aj hb,h.p.aj hb,h.wk.aj hb lf,h.lw,h.st.aj hb lf,h.ok,h.n4⟩
theorem yw.cl{w w':World}{k:Tk}{ps:List Pa}{hs:List Ho}{xs:List Rm}{l works:List Sw}(h:yw w k ps hs xs l works)(c:Cl w w'):yw w' k ps hs xs l works:=
 ⟨h.t.cl c,h.p.cl c,h.wk.cl c,h.lw,h.st.cl c,h.ok,h.n4⟩

section
variable {w:World} {k:Tk} {ps:List Pa} {hs:List Ho} {xs:List Rm} {l works:List Sw}
theorem CR(d:Gt w k)(a:dF w k.A0 k.n0 k.A1 k.n1 ps hs)(x:Sw):
  Pure Tryz.prog 78 #[.pointer (some k.p),x.val] w fun v _=>v= .tuple #[.int .i64 (nK (nW ps x.aG)),.int .i64 (nK (pc hs x.hold))]:=by
 have i:=a.np;have j:=a.nh;refine F.jS.vc fun w1 b=> ?_
 have hw:=k0 b;refine⟨_,_,_,by rw[Go.Deep.add_add,Go.Deep.add_add];exact(d.aj hw).cell 0 rfl,fun m n c=> ?_⟩;refine pm (wB (p:=fun p=>decide (p.id=x.aG)) (a.aj hw).p a.lp om kF fun w' hb y hy=> ?_) ?_
 ·exact F.hX.vc fun w1 b=>⟨_,fX (bK (bK c hb) (k0 b)) rfl,rfl⟩
 ·rintro v o e rfl;have g:=kP hw e;refine⟨_,rfl,_,_,_,by rw[Go.Deep.add_add,Go.Deep.add_add];exact(d.aj g).cell 1 rfl,?_⟩;refine pm (yM (p:=fun p=>decide (p.id=x.hold)) (a.aj g).h a.lh om kF fun w' hb y hy=> ?_) ?_
  ·exact F.hZ.vc fun w1 b=>⟨_,dN (bK (bK (bK c e) hb) (k0 b)) rfl,rfl⟩
  ·rintro v q _ rfl;exact⟨_,rfl,rfl⟩
theorem tQ(a:Gt w k)(hn:k.n3<=6):Pure Tryz.prog 48 #[.pointer (some k.p)] w fun v _=>v= .int .i64 ((di k.n3:Nat):Int):=by
 have h2:=oX _ hn;have h3:=ya k.n3;refine F.mn.vc ⟨_,_,_,a.cell 3 rfl,kt om,?_⟩;rw[mm _ om];refine⟨ir,?_⟩;unfold di;refine dB (Value.int .i64) ?_;omega
theorem iz(a:ek ps hs l):∀x∈bH ps hs l,0<=x/\x<=9:=by
 intro x hx;unfold bH at hx;obtain⟨p,_,hx⟩:=Ln.1 hx;obtain⟨h,_,rfl⟩:=kc.1 hx;exact⟨HY a.pos _ _,To a _ _⟩
theorem Gu{x:Sw}{j:Nat}(h:gq ps hs x=some j):∃i k,nW ps x.aG=some i/\pc hs x.hold=some k/\j=i*hs.length+k/\j<ps.length*hs.length:=by
 unfold gq at h;cases a:nW ps x.aG with
 |none=>rw[a]at h;cases h
 |some i=>
  cases b:pc hs x.hold with
  |none=>rw[a,b]at h;cases h
  |some k=>
   rw[a,b]at h;cases h;exact⟨i,k,rfl,rfl,rfl,rr (vj a).1 (Eg b).1⟩
theorem xC{s:Nat}{m:List Sw}(e:ji ps hs l works s=some m):m.length<=36:=(Gl e).2.1.len
theorem CS(hg:cT w)(h:yw w k ps hs xs l works){s:Nat}(L:s<128):
  Pure Tryz.prog 49 #[.pointer (some k.p),.int .i64 (s:Int)] w fun v w'=>(ji ps hs l works s=none->v= .tuple #[.slice none 0 0,.bool false])/\
   ∀m,ji ps hs l works s=some m->∃A n c,v= .tuple #[.slice A n c,.bool true]/\bF w' w.heap.size 39 A n c 3 (m.map Sw.row):=by
 obtain⟨OA,nL,hr⟩:=th h.ok.keeps;have M:=h.p.c.lp;have z:=h.p.c.lh;have uw:=h.p.c.np;have qe:=h.p.c.nh;have hle:k.n0*k.n1<=7*7:=lq uw qe;have xr:=h.ok.n;have lD:=h.lw;have g:=h.n4;have B:(bH ps hs l).length=k.n4:=by rw[eu,M,z,g]
 refine F.cj.vc ⟨_,_,_,h.t.cell 4 rfl,pm (Iv h.st B om) ?_⟩;rintro v w4 N ⟨A',c',rfl,ho⟩;refine⟨_,_,_,rfl,_,_,_,(h.t.aj N).cell 3 rfl,?_⟩;have key:∀(d j:Nat)(a:List Int)(w':World),k.n3 - j=d->j<=k.n3->Below w.heap.size w w'->bF w' w.heap.size 3 A' k.n4 c' 1 (a.map dy)->(∀x∈a, -(9*(j:Int))<=x/\x<=9+9*(j:Int))->kY ps hs s j a (works.drop j)=kY ps hs s 0 (bH ps hs l) works->
   F.cj.L3 k.p s A' k.n4 c' k.A3 k.n3 k.c3 k.n3 j w.heap.size w' fun v w'=>(ji ps hs l works s=none->v= .tuple #[.slice none 0 0,.bool false])/\
    ∀m,ji ps hs l works s=some m->∃A n c,v= .tuple #[.slice A n c,.bool true]/\bF w' w.heap.size 39 A n c 3 (m.map Sw.row):=by
  intro d;induction d with
  |zero=>
   intro j a w' hd hj hw ho hb he;have o:=ho.len;rw[gv]at o;rw[dp om]at he;have C:a=kY ps hs s 0 (bH ps hs l) works:=he;refine F.cj.L3.step ⟨fun h=>by omega,fun _=>⟨_,_,_,_,_,_,by rw[Go.Deep.add_add];exact(h.t.aj hw).part 0 2,?_⟩⟩;refine pm (bu (hg.next hw) (h.p.aj hw).c ho.sl o ho.gV om) ?_;intro v Co OB hf;unfold ji;rw[<-C];cases e:kr ps hs a with
   |error er=>
    rw[e]at hf;have D:=Gg e;cases hf;refine⟨_,_,_,_,rfl,fun _=> ?_,fun m hm=>by cases hm⟩;rw[eh D]
   |ok m=>
    rw[e]at hf;obtain⟨A,n,c,rfl,hm⟩:=hf;refine⟨_,_,_,_,rfl,fun hm=>(by cases hm),fun m' E=> ?_⟩;cases E;exact⟨A,n,c,rfl,hm.base hw.size⟩
  |succ d ih=>
   intro j a w' hd hj hw ho hb he;have G:j<works.length:=om;have O:=sc j;have o:=ho.len;rw[gv]at o;have P:=cd G;obtain⟨q,Q⟩:=h.ok.place _ P;obtain⟨ip,ik,BV,H,I,Sj⟩:=Gu Q;have hu:=h.ok.u _ P;rw[ec G,yi,Q]at he;obtain⟨tU,ad,hA,b,_⟩:=(h.wk.aj hw lf).at_ (fun _=>rfl) lD G;refine F.cj.L3.step ⟨fun _=>⟨tU,ad,hA,_,_,_,b,kt om,fun h1 vg R=> ?_,fun h1=>⟨ir,fun tV S=> ?_⟩⟩,fun h=>by omega⟩
   ·rw[cc ((AX L om).1 h1)]at he;have hw:=kE hw R;refine pm (CR (h.t.aj hw) (h.p.aj hw).c works[j]) ?_;rintro v yF T rfl;have hw:=kP hw T;rw[BV,H];have ei:nK (some ip)*(k.n1:Int)=((ip*hs.length:Nat):Int):=by rw[<-z];simp[nK]
    have eq:((ip*hs.length:Nat):Int)+nK (some ik)=(q:Int):=by rw[I];simp[nK]
    have r:=(ho.eA R).below T;have QX:q<k.n4:=by rw[g,<-M,<-z];exact Sj
    have y:q<a.length:=om;have mv:(a.map dy)[q]? =some (dy a[q]):=by rw[tX,af y];rfl
    have haq:=hb _ (cd y);have Lb:a.getD q 0=a[q]:=by rw[cN,af y];rfl
    have hlq:ip*hs.length<=q:=om;obtain⟨U,V,J,K,_⟩:=r.sl.at_ (fun _=>rfl) o y;refine⟨_,_,rfl,_,_,_,by rw[Go.Deep.add_add,Go.Deep.add_add];exact(h.t.aj hw).cell 1 rfl,?_⟩;rw[ei,eq];refine⟨ir,ir,U,V,J,_,K,ir,U,V,J,fun Am W=> ?_⟩;have hw:=kE hw W;have Ty:=r.eA W;obtain⟨g1,a2,X,cs,g2,g3,g4,g5,g6⟩:=Ty.FP (i:=(q:Int)) om om (dy (a[q]+works[j].aO)) _ (by rw[dq];exact mv) rfl;rw[J]at X;cases X;refine⟨cs,_,g2,g3,g4,g5,rfl,fun Y Z=>⟨ir,?_⟩⟩;have Lk:=g6 Y Z;rw[dq,<-EF]at Lk;rw[O];refine ih (j+1) (a.set q (a[q]+works[j].aO)) Y om om (hw.trans (dd.sP Z g2)) Lk (fun x hx=> ?_) ?_
    ·rcases DD hx with hx|rfl
     ·have:=hb x hx;omega
     ·omega
    ·rw[<-he];show _=kY ps hs s (j+1) (rM a q works[j].aO) _;unfold rM;rw[Lb]
   ·rw[ar (fun k=>h1 ((AX L om).2 k))]at he;rw[O];exact ih (j+1) a tV om om (kE hw S) (ho.eA S) (fun x hx=>by have:=hb x hx;omega) he
 refine key k.n3 0 (bH ps hs l) w4 rfl om N ho (fun x hx=> ?_) rfl;have:=iz hr x hx;omega

theorem OJ:Qm 90 3 4:=⟨kF,kF,kF,fun w=>Tryz.zeroValue4 w⟩
def wQ(w:World)(B:Nat)(k:Tk)(al:Nat->Bool):Prop:=∃f,rL w B 3 4 k.m f/\∀(s:Nat)(x:Bool),f (s:Int)=some x->x=al s
theorem wQ.below{w w':World}{B:Nat}{k:Tk}{al:Nat->Bool}(h:wQ w B k al)(hb:Below w.heap.size w w'):wQ w' B k al:=by
 obtain⟨f,h1,h2⟩:=h;exact⟨f,h1.below hb,h2⟩
theorem wQ.le{w:World}{B a:Nat}{k:Tk}{al:Nat->Bool}(h:wQ w B k al)(hB:a<=B):wQ w a k al:=by
 obtain⟨f,h1,h2⟩:=h;exact⟨f,h1.le hB,h2⟩
structure Eu (b:Nat) (w w':World):Prop where
 size:w.heap.size<=w'.heap.size
 other:∀k,k<w.heap.size->k≠b->w'.heap[k]? =w.heap[k]?
theorem Eu.refl(b:Nat)(w:World):Eu b w w:=⟨hM _,fun _ _ _=>rfl⟩
theorem Eu.trans{b:Nat}{w w1 c:World}(h:Eu b w w1)(k:Eu b w1 c):Eu b w c:=
 ⟨ga h.size k.size,fun i hi a=>(k.other i (jK hi h.size) a).trans (h.other i hi a)⟩
theorem Eu.low{b:Nat}{w w':World}(h:Below w.heap.size w w'):Eu b w w':=⟨h.size,fun k a _=>h.block k a⟩
theorem Eu.grown{b:Nat}{w w':World}(h:w.grownBy w' (some b)):Eu b w w':=⟨h.size,fun k c a=>h.block k c fun e=>a (by cases e;rfl)⟩
theorem Eu.cl{b:Nat}{w w':World}(h:Eu b w w')(hm:∃es clock,w.heap[b]? =some (.map es clock)):Cl w w':=⟨h.size,fun k cs ty fr e=>by
 obtain⟨es,clock,hm⟩:=hm;rw[h.other k (bU.1 e).1 fun k=>by subst k;rw[hm]at e;cases e];exact e⟩
theorem wQ.map{w:World}{B:Nat}{k:Tk}{al:Nat->Bool}(h:wQ w B k al):∃es clock,w.heap[k.m]? =some (.map es clock):=by
 obtain⟨f,h1,_⟩:=h;exact h1.isMap
theorem Gv(g:cT w)(h:yw w k ps hs xs l works){B:Nat}(hB:B<=w.heap.size)(i:wQ w B k (aP ps hs (aT xs) l works)){s:Nat}(o:s<128):
  dZ Tryz.prog 53 #[.pointer (some k.p),.int .i64 (s:Int)] B w fun v w'=>v= .bool (aP ps hs (aT xs) l works s)/\wQ w' B k (aP ps hs (aT xs) l works)/\Eu k.m w w':=by
 obtain⟨f,hm,hf⟩:=id i;have fin:∀(w':World)(x:Bool),Below w.heap.size w w'->x=aP ps hs (aT xs) l works s->∃m1:Option Nat,ae w' (k.p.add 5) [.map m1]/\jz Tryz.prog (Instr.mapUpdate 90 (.map m1) (.int .i64 (s:Int)) (.bool x)) B [] w' fun d=>Value.bool x= .bool (aP ps hs (aT xs) l works s)/\wQ d B k (aP ps hs (aT xs) l works)/\Eu k.m w d:=by
  intro w' x hw hx;refine⟨_,(h.t.aj hw).cell 5 rfl,mj (hm.below hw) OJ om om x lf (ga hB hw.size) fun d m17 _ g17=>⟨by rw[hx],⟨_,m17,fun z y b=> ?_⟩,(Eu.low hw).trans (Eu.grown g17)⟩⟩;unfold vr at b;split at b
  ·rename_i e;have:z=s:=om;subst this;cases b;exact hx
  ·exact hf z y b
 refine F.iF.Jm hB ⟨_,h.t.cell 5 rfl,Eo hm OJ om om ⟨fun h0=> ?_,fun h0=> ?_⟩⟩
 ·refine pm (CS g h o) ?_;intro v q a hv;cases e:ji ps hs l works s with
  |none=>
   have hv:=hv.1 e;subst hv;refine⟨_,_,_,_,rfl,fun k=>(by cases k),fun _=>fin q false a ?_⟩;unfold aP;rw[e]
  |some m=>
   obtain⟨A,n,c,hv,ho⟩:=hv.2 m e;subst hv;have j:=ho.len;rw[gv]at j;have r:=xC e;refine⟨_,_,_,_,rfl,fun _=>⟨_,_,_,_,_,_,_,_,_,(h.t.aj a).part 0 3,?_⟩,fun k=>by cases k⟩;refine pm (AW (g.next a) (h.p.aj a) ho.sl j ho.gV om) ?_;rintro v C D rfl;refine⟨_,rfl,fin C _ (kP a D) ?_⟩;unfold aP;rw[e]
 ·obtain⟨x,hx⟩:=Ai.1 (hP _|>.mp h0);rw[hx];exact⟨by rw[<-hf s x hx];rfl,i,Eu.refl _ _⟩
end

theorem Gw{α:Type}{p:α->Bool}{l:List α}{j:Nat}(hj:j<l.length)(h:(l.take j).any p=false)(h1:p l[j]=false):(l.take (j+1)).any p=false:=by
 rw[eN,af hj,BO,h];simp[h1]
theorem NQ{α:Type}{p:α->Bool}{l:List α}{j:Nat}(hj:j<l.length)(h1:p l[j]=true):l.any p=true:=kh.2 ⟨_,cd hj,h1⟩
section
variable {w:World} {A0 A1 A2 A A3:Option Addr} {n0 c0 n1 c1 n2 c2 n c n3 c3:Nat} {ps:List Pa} {hs:List Ho} {xs:List Rm} {l works:List Sw}
def UG(w0:World)(ps:List Pa)(hs:List Ho)(xs:List Rm)(l works:List Sw)(v:Value)(w':World):Prop:=
 (fJ ps hs (aT xs) l works≠0->v= .tuple #[.pointer none,.int .i64 (fJ ps hs (aT xs) l works)])/\
 (fJ ps hs (aT xs) l works=0->∃k:Tk,v= .tuple #[.pointer (some k.p),.int .i64 0]/\yw w' k ps hs xs l works/\wQ w' w0.heap.size k (aP ps hs (aT xs) l works))
theorem KS(K:cT w)(hp:fu w A0 n0 A1 n1 A2 n2 c2 ps hs xs)(h:cK w A 3 (l.map Sw.row))(hl:l.length=n)(L:n<=c)(hn:n<=40)(C:cK w A3 3 (works.map Sw.row))(D:works.length=n3){b m:Nat}(hb:w.heap.size<=b)
  (E:(mV ps hs (aT xs)).2=0) (q:pW ps hs (aT xs) l=true) (Z:n3<=6) (G:(works.any fun w=>decide (gq ps hs w=none))=false):
  ∀(d j:Nat)(w':World),n3 - j=d->j<=n3->Below w.heap.size w w'->Gt w' ⟨b,m,A0,n0,c0,A1,n1,c1,A2,n2,c2,A3,n3,c3,none,0,0⟩->rL w' w.heap.size 3 4 m (fun _=>none)->((works.take j).any fun w=>decide (w.aO=0∨w.aO< -9∨9<w.aO))=false->
   F.bR.F6 A n c ⟨b,0,none⟩ A3 n3 c3 n3 j A0 n0 c0 A1 n1 c1 A2 n2 c2 w.heap.size w' (UG w ps hs xs l works):=by
 obtain⟨_,M,hr⟩:=th q;intro d;induction d with
 |zero=>
  intro j w' O hj hw i hm ha;rw[bx om]at ha;have h0:fJ ps hs (aT xs) l works=0:=by
   unfold fJ;rw[ar (fun k=>k E),ar (by rw[q];decide),ar om,ar (by rw[G];decide),ar (by rw[ha];decide)]
  refine F.bR.F6.step ⟨fun h=>by omega,fun _=> ?_⟩;refine pm (db (K.next hw) (hp.aj hw).c (h.aj hw lf) hl L om) ?_;intro v OC r hv;obtain⟨A',N,rfl,ho,P⟩:=hv.2 M;have Q:=kP hw r;have H:=i.aj r;have I:=hm.below r;have e:(⟨b,0,none⟩:Addr).add 4=⟨b,4,none⟩:=by rw[eX]
  have R:b<w'.heap.size:=(bU.1 i).1;refine⟨_,_,_,_,rfl,Tk.cs ⟨b,m,A0,n0,c0,A1,n1,c1,A2,n2,c2,A3,n3,c3,none,0,0⟩,114,?_⟩;rw[e];refine⟨hb,rfl,H,sm,rfl,fun S o=> ?_⟩;have J:Below w.heap.size w S:=Q.trans (dd.sP o hb);have y:m≠b:=by
   obtain⟨es,cl,T⟩:=I.isMap;intro k;subst k;have:=H;unfold Gt at this;simp only at this;rw[T]at this;cases this
  refine⟨fun k=>absurd h0 k,fun _=>⟨⟨b,m,A0,n0,c0,A1,n1,c1,A2,n2,c2,A3,n3,c3,A',N,N⟩,rfl,⟨?_,hp.aj J,C.aj J lf,D,?_,rB h0,P⟩,_,I.same (o.rest m y),fun s x k=>by cases k⟩⟩
  ·exact o.at_
  ·refine(ho.other fun a ha=>o.rest _ fun k=> ?_).sl;have:=(ho.sA a ha).1;have k:a.block=b:=k;omega
 |succ d ih=>
  intro j w' O hj hw i hm ha;have z:j<works.length:=om;have U:=sc j;obtain⟨V,W,X,g,_⟩:=(C.aj hw lf).at_ (fun _=>rfl) D z;have bad:(works[j].aO=0∨works[j].aO< -9∨9<works[j].aO)->∀w1,UG w ps hs xs l works (.tuple #[.pointer none,.int .i64 2]) w1:=by
   intro k w1;have h2:fJ ps hs (aT xs) l works=2:=by
    unfold fJ;rw[ar (fun k=>k E),ar (by rw[q];decide),ar om,ar (by rw[G];decide),cc (NQ z (fc k))]
   exact⟨fun _=>by rw[h2],fun k=>by rw[h2]at k;cases k⟩
  refine F.bR.F6.step ⟨fun _=>⟨V,W,X,_,_,_,g,fun k w1 _=>bad (.inl k) w1,fun k1=>⟨fun k w1 _=>bad (.inr (.inl k)) w1,fun k2=>⟨fun k w1 _=>bad (.inr (.inr k)) w1,fun k3=>⟨ir,fun Y B=> ?_⟩⟩⟩⟩,fun h=>by omega⟩;rw[U];exact ih (j+1) Y om om (kE hw B) (ext_nil B i) (hm.ext B) (Gw z ha (eh om))
theorem qI(q:cT w)(hp:fu w A0 n0 A1 n1 A2 n2 c2 ps hs xs)(h:cK w A 3 (l.map Sw.row))(hl:l.length=n)(C:n<=c)(hn:n<=40)(D:cK w A3 3 (works.map Sw.row))(E:works.length=n3):
  Pure Tryz.prog 47 #[.agg #[.slice A0 n0 c0,.slice A1 n1 c1,.slice A2 n2 c2],.slice A n c,.slice A3 n3 c3] w (UG w ps hs xs l works):=by
 have out:∀(e:Int)(w':World),fJ ps hs (aT xs) l works=e->e≠0->UG w ps hs xs l works (.tuple #[.pointer none,.int .i64 e]) w':=fun e w' h1 h2=>⟨fun _=>by rw[h1],fun k=>absurd (h1.symm.trans k) h2⟩
 refine F.bR.vc fun w1 K=> ?_
 have hw:=k0 K;refine pm (AT (q.next hw) (hp.aj hw)) ?_;rintro v Z L rfl;have hw:=kP hw L;refine⟨_,_,rfl,fun h1=>out 1 _ (by unfold fJ;rw[cc h1]) dc,fun h1=> ?_⟩;refine pm (AW (q.next hw) (hp.aj hw) (h.aj hw lf) hl C hn) ?_;rintro v r M rfl;have hw:=kP hw M;refine⟨_,rfl,fun h2=>out 11 _ (by unfold fJ;rw[ar h1,cc h2]) dc,fun h2=>⟨fun h3=>out 8 _ (by unfold fJ;rw[ar h1,ar h2,cc om]) dc,fun h3=> ?_⟩⟩;have N:=hP _|>.mp h2
 have O:=ep.1 h1;refine nz (tk:=3) (te:=4) hw.size fun x m11 P=> ?_
 have y:=kP hw P;refine J3 _ _ y.size fun Q R G _=> ?_
 have S:=kP y G;have key:∀(d j:Nat)(w':World),n3 - j=d->j<=n3->Below w.heap.size w w'->Gt w' ⟨x.heap.size,r.heap.size,A0,n0,c0,A1,n1,c1,A2,n2,c2,A3,n3,c3,none,0,0⟩->rL w' w.heap.size 3 4 r.heap.size (fun _=>none)->((works.take j).any fun w=>decide (gq ps hs w=none))=false->
   F.bR.pd A n c A3 n3 c3 ⟨x.heap.size,0,none⟩ A3 n3 c3 n3 j A0 n0 c0 A1 n1 c1 A2 n2 c2 w.heap.size w' (UG w ps hs xs l works):=by
  intro d;induction d with
  |zero=>
   intro j w' T hj hw b hm ha;rw[bx om]at ha;exact F.bR.pd.step ⟨fun h=>by omega,fun _=>KS q hp h hl C hn D E y.size O N om ha n3 0 w' rfl om hw b hm rfl⟩
  |succ d ih=>
   intro j w' T hj hw b hm ha;have z:j<works.length:=om;have U:=sc j;obtain⟨V,W,X,a,_⟩:=(D.aj hw lf).at_ (fun _=>rfl) E z;have bad:gq ps hs works[j]=none->∀w1,UG w ps hs xs l works (.tuple #[.pointer none,.int .i64 7]) w1:=by
    intro k w1;exact out 7 _ (by unfold fJ;rw[ar h1,ar h2,ar om,cc (NQ z (fc k))]) dc
   refine F.bR.pd.step ⟨fun _=>⟨V,W,X,_,_,_,a,fun Am g=> ?_⟩,fun h=>by omega⟩;have H:=kE hw g;refine pm (CR (k:=⟨x.heap.size,r.heap.size,A0,n0,c0,A1,n1,c1,A2,n2,c2,A3,n3,c3,none,0,0⟩) (ext_nil g b) (hp.aj H).c works[j]) ?_;rintro v Y B rfl;refine⟨_,_,rfl,fun m=>bad (by unfold gq;rw[gh.1 m]) _,fun m=>⟨fun o=>bad ?_ _,fun o=>⟨ir,?_⟩⟩⟩
   ·unfold gq;rw[gh.1 o];cases nW ps works[j].aG<;>rfl
   ·rw[U];refine ih (j+1) Y om om (kP H B) (Gt.aj (ext_nil g b) B) ((hm.ext g).below B) (Gw z ha (eh fun k=> ?_));unfold gq at k;cases I:nW ps works[j].aG with
    |none=>rw[I]at m;exact m (by simp[nK])
    |some i=>
     cases J:pc hs works[j].hold with
     |none=>rw[J]at o;exact o (by simp[nK])
     |some i'=>rw[I,J]at k;cases k
 exact key n3 0 Q rfl om S R ((m11.below G).le hw.size) rfl

def StR(r:List Sw×Int)(B:Nat)(v:Value)(w':World):Prop:=∃A n c,v= .tuple #[.slice A n c,.int .i64 r.2]/\cK w' A 3 (r.1.map Sw.row)/\r.1.length=n/\n<=c/\(r.1=[]∨bF w' B 39 A n c 3 (r.1.map Sw.row))
theorem CT(d:cT w)(hp:fu w A0 n0 A1 n1 A2 n2 c2 ps hs xs)(h:cK w A 3 (l.map Sw.row))(hl:l.length=n)(i:n<=c)(hn:n<=40)(j:cK w A3 3 (works.map Sw.row))(o:works.length=n3)(set:Int):
  Pure Tryz.prog 16 #[.agg #[.slice A0 n0 c0,.slice A1 n1 c1,.slice A2 n2 c2],.slice A n c,.slice A3 n3 c3,.int .i64 set] w (StR (tM ps hs (aT xs) l works set) w.heap.size):=by
 have none_:∀(e:Int)(w':World),StR ([],e) w.heap.size (.tuple #[.slice none 0 0,.int .i64 e]) w':=fun e w'=>⟨_,_,_,rfl,.inl rfl,rfl,hM _,.inl rfl⟩
 refine F.oY.vc fun w1 r=> ?_
 have hw:=k0 r;refine pm (qI (d.next hw) (hp.aj hw) (h.aj hw lf) hl i hn (j.aj hw lf) o) ?_;intro v z x hv;have hw:=kP hw x;unfold tM;by_cases h0:fJ ps hs (aT xs) l works≠0
 ·rw[cc h0];have hv:=hv.1 h0;subst hv;exact⟨_,_,rfl,fun _=>none_ _ _,fun k=>absurd h0 k⟩
 ·rw[ar h0];have h0:=ep.1 h0;obtain⟨k,hv,a,_⟩:=hv.2 h0;subst hv;have b:=a.lw;have y:=a.ok.n;have h2:=oX _ y;have h3:di works.length<64:=jK (iK _) h2;refine⟨_,_,rfl,fun q=>absurd rfl q,fun _=>⟨fun h1=> ?_,fun h1=> ?_⟩⟩
  ·rw[cc (.inl h1)];exact none_ _ _
  ·refine pm (tQ a.t om) ?_;rintro v B g rfl;have hw:=kP hw g;rw[<-b];refine⟨_,rfl,fun h2=> ?_,fun h2=> ?_⟩
   ·rw[cc (.inr h2)];exact none_ _ _
   ·rw[ar (by rintro(q|q);exact h1 q;exact h2 q)];obtain⟨s,rfl⟩:=pj (show 0<=set by omega);refine pm (CS (d.next hw) (a.aj g) (s:=s) om) ?_;intro v C D hv;rw[dq];cases e:ji ps hs l works s with
    |none=>
     have hv:=hv.1 e;subst hv;exact⟨_,_,_,_,rfl,fun _=>none_ _ _,fun k=>absurd rfl k⟩
    |some m=>
     obtain⟨A',n',c',hv,ho⟩:=hv.2 m e;subst hv;refine⟨_,_,_,_,rfl,fun k=>(by cases k),fun _=>⟨A',n',c',rfl,ho.sl,?_,ho.gV,.inr (ho.base hw.size)⟩⟩;have:=ho.len;rwa [gv]at this
end

def tR(s:Sw):Bool:=decide (s.aO<0)
def dI(l:List Sw):List Sw:=l.filter tR++l.filter fun s=> !tR s
theorem Gx(l:List Sw):(dI l).length=l.length:=by
 unfold dI;induction l with
 |nil=>rfl
 |cons x r ih=>
  rw[fx]at ih;cases h:tR x<;>simp[h,<-ih]<;>omega
theorem Gy{l:List Sw}{x:Sw}{j:Nat}(hj:j<=l.length)(a:∀y∈(dI l).drop j,tR x=true/\tR y=false)(hl:j=0∨∃y,(dI l)[j - 1]? =some y/\¬(tR x=true/\tR y=false)):
  (dI l).take j++x::(dI l).drop j=dI (l++[x]):=by
 have hlen:=Gx l;have e:dI (l++[x])=l.filter tR++((if tR x then[x]else[])++((l.filter fun s=> !tR s)++if tR x then[]else[x])):=by
  unfold dI;rw[sn,sn];cases h:tR x<;>simp[h]
 rw[e];cases hx:tR x with
 |false=>
  have h0:(dI l).drop j=[]:=by
   cases b:(dI l).drop j with
   |nil=>rfl
   |cons y r=>
    rw[b]at a;have:=(a y sm).1;rw[hx]at this;cases this
  have h1:(dI l).take j=dI l:=by
   have:=ly j (dI l);rw[h0,ns]at this;exact this
  rw[h0,h1];simp[dI]
 |true=>
  have key:j=(l.filter tR).length:=by
   rcases Na j (l.filter tR).length with h|h|h
   ·exfalso;have hm:(l.filter tR)[j]∈(dI l).drop j:=by
     unfold dI;rw[Hg om,ec h];exact List.mem_append_left _ PB
    have h1:=(a _ hm).2;have h2:=(BD.1 (cd h)).2;rw[h1]at h2;cases h2
   ·exact h
   ·exfalso;rcases hl with h0|⟨y,hy,hn⟩
    ·omega
    ·unfold dI at hy;rw[mP om]at hy;have h2:=(BD.1 (hJ hy)).2;exact hn ⟨hx,by simpa using h2⟩
  unfold dI;rw[key,List.take_left,RA];simp
theorem KT(f:Nat->Nat->Int)(ps:List Pa)(hs:List Ho):dI (rA f ps hs)=oV f ps hs:=by
 unfold dI oV
 congr 1
 refine Qf fun s a=> ?_
 obtain⟨k,i,h,p,_,_,b,rfl⟩:=Js.1 a;unfold tR;simp only[<-decide_not,jB];omega
def qJ(ps:List Pa)(hs:List Ho)(l m:List Sw):List Sw×Int:=
 if cZ ps hs l≠0∨cZ ps hs m≠0 then([],1)else if 6<(rA (fN ps hs l m) ps hs).length then([],8)else(oV (fN ps hs l m) ps hs,0)
end Go.Proofs.YtgfkeadgjkfomaaGreatDoor.B
