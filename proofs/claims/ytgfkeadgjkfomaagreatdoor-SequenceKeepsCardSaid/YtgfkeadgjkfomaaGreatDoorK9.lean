/- Part 9 of the proofs that: the steps between two stowages join them, and an order keeps the problem -/
import Derived.Test.YtgfkeadgjkfomaaGreatDoorK8
import Derived.Maps.OwnSet
import Derived.Maps.Views
import Derived.Maps.Keyed
import Derived.Carry
import Derived.Test.YtgfkeadgjkfomaaGreatDoorProg
set_option linter.unusedVariables false
set_option linter.unusedSimpArgs false
namespace Go.Proofs.YtgfkeadgjkfomaaGreatDoor.B
open Go Go.RowKit Go.Proofs Go.Proofs.YtgfkeadgjkfomaaGreatDoor.Vc Go.Maps

structure MpT (t tk te:Nat):Prop where
 t:Tryz.prog.underlying t=some (.map tk te)
 k:Tryz.prog.underlying tk=some (.int .i64)
 e:Tryz.prog.underlying te=some .bool
 z:∀w,(zeroValue te).run Tryz.prog w= .ok (.bool false) w
def kN(f:Int->Option Bool):Nat:=(List.range 128).countP fun z:Nat=>(f (z:Int)).isSome
theorem kN_le(f:Int->Option Bool):kN f<=128:=Nat.le_trans List.countP_le_length (by simp)
abbrev putM(f:Int->Option Bool)(z:Int)(x:Bool):Int->Option Bool:=fun y=>if y=z then some x else f y
theorem kN_put{f:Int->Option Bool}{z:Int}(h0:0<=z)(h1:z<128)(x:Bool):kN f+(if(f z).isSome then 0 else 1)=kN (putM f z x):=by
 have key:∀l:List Nat,l.Nodup->(l.countP fun y:Nat=>(f (y:Int)).isSome)+(if z.toNat∈l/\(f z).isSome=false then 1 else 0)=l.countP fun y:Nat=>(putM f z x (y:Int)).isSome:=by
  intro l
  induction l with
  |nil=>intro _;simp
  |cons a r ih=>
   intro hn
   obtain⟨n1,n2⟩:=List.nodup_cons.1 hn
   have ih:=ih n2
   rw[List.countP_cons,List.countP_cons]
   by_cases e:(a:Int)=z
   ·have ea:z.toNat=a:=by omega
    rw[if_neg (fun k=>n1 (ea▸k.1))]at ih
    subst e
    simp only[putM,↓reduceIte,Option.isSome_some,Int.toNat_natCast,List.mem_cons,true_or,true_and]at ih⊢
    rw[<-ih]
    cases f (a:Int)<;>simp
   ·have ea:z.toNat≠a:=by omega
    simp only[putM,if_neg e,List.mem_cons,ea,false_or]at ih⊢
    omega
 have:=key (List.range 128) List.nodup_range
 rw[<-show _=kN (putM f z x)from this]
 unfold kN
 have hm:z.toNat∈List.range 128:=List.mem_range.2 (by omega)
 cases hf:(f z).isSome<;>simp[hm]
def MpR(w:World)(B tk te b:Nat)(f:Int->Option Bool):Prop:=
 B<=b/\∃D:DataW Unit,w.ownsMap Tryz.prog tk (plainElem Tryz.prog te) b (Maps.size D) D/\Maps.size D<=kN f/\∀z,has D (.int .i64 z)=(f z).isSome/\D.atKey (.int .i64 z) (.lit (.bool false))= .lit (.bool ((f z).getD false))
section
variable {w:World} {B t tk te b:Nat} {f:Int->Option Bool}
theorem key_int(T:MpT t tk te){z:Int}(hz:(Lit.int .i64 z).wf=true):keyOf Tryz.prog tk (.int .i64 z)=some (.int .i64 z):=by simp[keyOf,mapKey,T.k,hz]
theorem MpR.made(w:World)(tk te:Nat){B:Nat}(hB:B<=w.heap.size):MpR (w.alloc (.map #[] 0)) B tk te w.heap.size fun _=>none:=
 ⟨hB,.map [],World.ownsMap_made w _ _ _,Nat.zero_le _,fun _=>⟨rfl,rfl⟩⟩
theorem MpR.lt(h:MpR w B tk te b f):b<w.heap.size:=by obtain⟨_,D,h,_⟩:=h;exact h.lt
theorem MpR.le{B':Nat}(h:MpR w B tk te b f)(hB:B'<=B):MpR w B' tk te b f:=⟨Nat.le_trans hB h.1,h.2⟩
theorem MpR.same{w':World}(h:MpR w B tk te b f)(hb:w'.heap[b]? =w.heap[b]?):MpR w' B tk te b f:=by
 obtain⟨h1,D,h2,h3⟩:=h
 refine⟨h1,D,?_,h3⟩
 obtain⟨es,clock,e1,F,e2,e3⟩:=h2
 exact⟨es,clock,hb.trans e1,F,e2,e3⟩
theorem MpR.below{w':World}(h:MpR w B tk te b f)(hb:Below w.heap.size w w'):MpR w' B tk te b f:=h.same (hb.block b h.lt)
theorem MpR.isMap(h:MpR w B tk te b f):∃es clock,w.heap[b]? =some (.map es clock):=by
 obtain⟨h1,D,⟨es,clock,e1,_⟩,h3⟩:=h
 exact⟨es,clock,e1⟩
theorem MpR.ext{B0:Nat}{ts:List Nat}{w':World}(h:MpR w B tk te b f)(x:Ext B0 ts w w'):MpR w' B tk te b f:=by
 refine h.same ?_
 obtain⟨es,clock,e1⟩:=h.isMap
 rcases x.other b h.lt with q|⟨_,_,c,c',fr,q,_⟩
 ·exact q
 ·rw[e1]at q
  cases q
theorem plain_bool_inv(T:MpT t tk te){v:Value}{z:DataW Unit×List MemPlace}(h:plainElem Tryz.prog te v=some z):∃x,v= .bool x/\z=(.lit (.bool x),[]):=by
 unfold plainElem at h
 rw[T.e]at h
 cases v<;>simp at h
 rename_i x
 exact⟨x,rfl,h.symm⟩
theorem MpR.look(h:MpR w B tk te b f)(T:MpT t tk te){z:Int}(hz:(Lit.int .i64 z).wf=true):(Instr.lookup t (.map (some b)) (.int .i64 z) false).run Tryz.prog w= .ok (.bool ((f z).getD false)) w:=by
 obtain⟨_,D,h2,_,h3⟩:=h
 obtain⟨v,ps,hrun,hv⟩:=h2.lookup (int_keyed T.k) T.t (T.z w) (plainElem_bool T.e false) (key_int T hz)
 obtain⟨x,rfl,hx⟩:=plain_bool_inv T hv
 simp only[Prod.mk.injEq]at hx
 rw[(h3 z).2]at hx
 cases hx.1
 exact hrun
theorem MpR.look_ok(h:MpR w B tk te b f)(T:MpT t tk te){z:Int}(hz:(Lit.int .i64 z).wf=true):(Instr.lookup t (.map (some b)) (.int .i64 z) true).run Tryz.prog w= .ok (.tuple #[.bool ((f z).getD false),.bool (f z).isSome]) w:=by
 obtain⟨_,D,h2,_,h3⟩:=h
 obtain⟨v,ps,hrun,hv⟩:=h2.look_ok (int_keyed T.k) T.t (T.z w) (plainElem_bool T.e false) (key_int T hz)
 obtain⟨x,rfl,hx⟩:=plain_bool_inv T hv
 simp only[Prod.mk.injEq]at hx
 rw[(h3 z).2]at hx
 cases hx.1
 rw[(h3 z).1]at hrun
 exact hrun
theorem MpR.update(h:MpR w B tk te b f)(T:MpT t tk te){z:Int}(h0:0<=z)(h128:z<128)(x:Bool):∃w',(Instr.mapUpdate t (.map (some b)) (.int .i64 z) (.bool x)).run Tryz.prog w= .ok () w'/\MpR w' B tk te b (putM f z x)/\w.grownBy w' (some b):=by
 have hz:(Lit.int .i64 z).wf=true:=by simp[Lit.wf,IntKind.min,IntKind.max,IntKind.signed,IntKind.bits];omega
 obtain⟨h1,D,h2,hs,h3⟩:=h
 have K:Keyed Tryz.prog tk:=int_keyed T.k
 have hk128:=kN_le f
 obtain⟨w',hrun,hown,hg⟩:=h2.update K T.t (by unfold maxLen;omega) (key_int T hz) (plainElem_bool T.e x)
 have hm:=h2.isMap
 have hk:=K.key (key_int T hz)
 have hsz:=size_put (k:= .int .i64 z) (h2.tidy K) (.lit (.bool x))
 refine⟨w',hrun,⟨h1,D.put (.int .i64 z) (.lit (.bool x)),?_,?_,fun y=> ?_⟩,hg⟩
 ·obtain⟨es,clock,e1,F,e2,e3⟩:=hown
  exact⟨es,clock,e1,F,by rw[e3];simp[Maps.size,length_sorted],e3⟩
 ·rw[hsz,(h3 z).1,<-kN_put h0 h128 x]
  split<;>simp_all
 ·show has _ _=(putM f z x y).isSome/\_=DataW.lit (Lit.bool ((putM f z x y).getD false))
  unfold putM
  by_cases e:y=z
  ·subst e
   rw[if_pos rfl,has_put_same hm hk,atKey_put_same hm hk]
   exact⟨rfl,rfl⟩
  ·have hne:(Lit.int .i64 y)≠ .int .i64 z:=fun k=>by cases k;exact e rfl
   rw[if_neg e,has_put_other hne,atKey_put_other hne]
   exact h3 y
theorem map_kept{w':World}(h:MpR w B tk te b f)(hg:w.grownBy w' (some b)){k ty:Nat}{cs:Array Value}{fr:Nat×Nat}(hk:w.heap[k]? =some (.cells cs ty fr)):w'.heap[k]? =w.heap[k]? :=by
 obtain⟨es,clock,e1⟩:=h.isMap
 refine hg.block k (Array.getElem?_eq_some_iff.1 hk).1 fun e=> ?_
 cases e
 rw[e1]at hk
 cases hk
theorem wf_small{z:Int}(h0:0<=z)(h1:z<128):(Lit.int .i64 z).wf=true:=by simp[Lit.wf,IntKind.min,IntKind.max,IntKind.signed,IntKind.bits];omega
theorem runOk_look(h:MpR w B tk te b f)(T:MpT t tk te){z:Int}(h0:0<=z)(h1:z<128){B0:Nat}{tys:List Nat}{K:Bool->World->Prop}(hK:K ((f z).getD false) w):
  RunOk Tryz.prog (Instr.lookup t (.map (some b)) (.int .i64 z) false) B0 tys w fun r w1=>∃x,r= .bool x/\K x w1:=
 ⟨_,w,h.look T (wf_small h0 h1),Below.refl _ _,Nat.le_refl _,fun _ _ _ _ _=>rfl,_,rfl,hK⟩
theorem runOk_lookOk(h:MpR w B tk te b f)(T:MpT t tk te){z:Int}(h0:0<=z)(h1:z<128){B0:Nat}{tys:List Nat}{K:Bool->Bool->World->Prop}(hK:K ((f z).getD false) (f z).isSome w):
  RunOk Tryz.prog (Instr.lookup t (.map (some b)) (.int .i64 z) true) B0 tys w fun r w1=>∃x y,r= .tuple #[.bool x,.bool y]/\K x y w1:=
 ⟨_,w,h.look_ok T (wf_small h0 h1),Below.refl _ _,Nat.le_refl _,fun _ _ _ _ _=>rfl,_,_,rfl,hK⟩
theorem runOk_update(h:MpR w B tk te b f)(T:MpT t tk te){z:Int}(h0:0<=z)(h1:z<128)(x:Bool){B0:Nat}(hB0:B0<=B)(hBw:B0<=w.heap.size){tys:List Nat}{K:World->Prop}
  (hK:∀w',MpR w' B tk te b (putM f z x)->Below B0 w w'->w.grownBy w' (some b)->K w'):
  RunOkU Tryz.prog (Instr.mapUpdate t (.map (some b)) (.int .i64 z) (.bool x)) B0 tys w K:=by
 obtain⟨w',hrun,hm,hg⟩:=h.update T h0 h1 x
 have hb:Below B0 w w':=below_grown hg (fun k hk=>by cases hk;exact Nat.le_trans hB0 h.1) hBw
 exact⟨w',hrun,hb,hb.size,fun k ty cs _ hk=>map_kept h hg hk,hK w' hm hb hg⟩
theorem runOk_makeMap{w:World}{t tk te:Nat}{B:Nat}{tys:List Nat}(hB:B<=w.heap.size){K:Option Nat->World->Prop}
  (hK:∀w',MpR w' w.heap.size tk te w.heap.size (fun _=>none)->Below w.heap.size w w'->K (some w.heap.size) w'):
  RunOk Tryz.prog (Instr.makeMap t none) B tys w fun r w1=>∃m:Option Nat,r= .map m/\K m w1:=by
 have hg:=World.grownBy_alloc w (.map #[] 0) none
 have hb:Below w.heap.size w (w.alloc (.map #[] 0)):=below_grown hg (by simp) (Nat.le_refl _)
 exact⟨_,_,run_makeMap t w,hb.mono hB,hb.size,fun k ty cs _ hk=>hb.block k (Array.getElem?_eq_some_iff.1 hk).1,_,rfl,hK _ (MpR.made w tk te (Nat.le_refl _)) hb⟩
end
structure Cl (w w':World):Prop where
 size:w.heap.size<=w'.heap.size
 cells:∀(k:Nat)(cs:Array Value)(ty:Nat)(fr:Nat×Nat),w.heap[k]? =some (Obj.cells cs ty fr)->w'.heap[k]? =some (Obj.cells cs ty fr)
theorem Cl.refl(w:World):Cl w w:=⟨Nat.le_refl _,fun _ _ _ _ h=>h⟩
theorem Cl.trans{w w1 w2:World}(h:Cl w w1)(k:Cl w1 w2):Cl w w2:=⟨Nat.le_trans h.size k.size,fun b cs ty fr e=>k.cells b cs ty fr (h.cells b cs ty fr e)⟩
theorem Cl.low{w w':World}(h:Below w.heap.size w w'):Cl w w':=⟨h.size,fun k cs ty fr e=>(h.block k (Array.getElem?_eq_some_iff.1 e).1).trans e⟩
theorem Cl.map{w w':World}{B tk te b:Nat}{f:Int->Option Bool}(h:MpR w B tk te b f)(hg:w.grownBy w' (some b)):Cl w w':=⟨hg.size,fun k cs ty fr e=>(map_kept h hg e).trans e⟩
theorem SlR.cl{w w':World}{A:Option Addr}{sz:Nat}{rows:List (List Value)}(h:SlR w A sz rows)(c:Cl w w'):SlR w' A sz rows:=by
 rcases h with h|⟨b,off,cs,ty,fr,hA,hh,hc⟩
 ·exact .inl h
 ·exact .inr ⟨b,off,cs,ty,fr,hA,c.cells _ _ _ _ hh,hc⟩
theorem OwnR.cl{w w':World}{B ty:Nat}{A:Option Addr}{n c sz:Nat}{rows:List (List Value)}(h:OwnR w B ty A n c sz rows)(k:Cl w w'):OwnR w' B ty A n c sz rows:=by
 refine⟨⟨h.1.1,?_⟩,h.2⟩
 rcases h.1.2 with h1|⟨g,cap,cur,h1,h2,h3,h4⟩
 ·exact .inl h1
 ·exact .inr ⟨g,cap,cur,h1,h2,k.cells _ _ _ _ h3,h4⟩
open Go Go.RowKit Go.Proofs Go.Proofs.YtgfkeadgjkfomaaGreatDoor.Vc

structure Rm where
 r:Ru
 A:Option Addr
 n:Nat
 c:Nat
abbrev Rm.row(x:Rm):List Value:=[.string x.r.name,.int .i64 x.r.kind,.slice x.A x.n x.c,.string x.r.low,.string x.r.high,.int .i64 x.r.a,.int .i64 x.r.b]
abbrev Rm.val(x:Rm):Value:= .agg #[.string x.r.name,.int .i64 x.r.kind,.slice x.A x.n x.c,.string x.r.low,.string x.r.high,.int .i64 x.r.a,.int .i64 x.r.b]
structure SmRu (r:Ru):Prop where
 fac:∀s∈r.fac,SmS s
 low:SmS r.low
 high:SmS r.high
 name:r.name.size<2147483648
 len:r.fac.length<=8
structure RmIn (w:World) (x:Rm):Prop where
 f:SlR w x.A 1 (x.r.fac.map sRow)
 l:x.r.fac.length=x.n
 s:SmRu x.r
 z:x.A=none->x.c=0
theorem RmIn.keep{w w':World}{x:Rm}(h:RmIn w x)(hb:Below w.heap.size w w'):RmIn w' x:=⟨h.f.keep hb (Nat.le_refl _),h.l,h.s,h.z⟩
theorem RmIn.cl{w w':World}{x:Rm}(h:RmIn w x)(c:Cl w w'):RmIn w' x:=⟨h.f.cl c,h.l,h.s,h.z⟩
structure PrIn (w:World) (A0:Option Addr) (n0:Nat) (A1:Option Addr) (n1:Nat) (A2:Option Addr) (n2 c2:Nat) (ps:List Pa) (hs:List Ho) (xs:List Rm):Prop where
 c:CgIn w A0 n0 A1 n1 ps hs
 r:SlR w A2 7 (xs.map Rm.row)
 l:xs.length=n2
 f:∀x∈xs,RmIn w x
 n:n2<=17
 k:n2<=c2
abbrev rsOf(xs:List Rm):List Ru:=xs.map Rm.r
section
variable {w w':World} {A0 A1 A2:Option Addr} {n0 n1 n2 c2:Nat} {ps:List Pa} {hs:List Ho} {xs:List Rm}
theorem PrIn.keep(h:PrIn w A0 n0 A1 n1 A2 n2 c2 ps hs xs)(hb:Below w.heap.size w w'):PrIn w' A0 n0 A1 n1 A2 n2 c2 ps hs xs:=
 ⟨h.c.keep hb,h.r.keep hb (Nat.le_refl _),h.l,fun x hx=>(h.f x hx).keep hb,h.n,h.k⟩
theorem CgIn.cl(h:CgIn w A0 n0 A1 n1 ps hs)(c:Cl w w'):CgIn w' A0 n0 A1 n1 ps hs:=⟨h.p.cl c,h.h.cl c,h.lp,h.lh,h.sp,h.sh,h.np,h.nh⟩
theorem PrIn.cl(h:PrIn w A0 n0 A1 n1 A2 n2 c2 ps hs xs)(c:Cl w w'):PrIn w' A0 n0 A1 n1 A2 n2 c2 ps hs xs:=
 ⟨h.c.cl c,h.r.cl c,h.l,fun x hx=>(h.f x hx).cl c,h.n,h.k⟩
theorem PrIn.at_(h:PrIn w A0 n0 A1 n1 A2 n2 c2 ps hs xs){i:Nat}(hi:i<xs.length):
  (0<=(i:Int)/\(i:Int)<n2)/\∃a,A2=some a/\CellsAt w (a.add ((i:Int).toNat*7)) (xs[i].row)/\∀k u,(xs[i].row)[k]? =some u->CellsAt w ((a.add ((i:Int).toNat*7)).add k) [u]:=
 h.r.at_ (fun _=>rfl) h.l hi
end

def addAt(a:List Int)(j:Nat)(u:Int):List Int:=a.set j (a.getD j 0+u)
theorem addAt_len(a:List Int)(j:Nat)(u:Int):(addAt a j u).length=a.length:=by unfold addAt;simp
theorem addAt_get{a:List Int}{j:Nat}{u:Int}{i:Nat}:(addAt a j u)[i]? =if j=i/\i<a.length then some (a.getD i 0+u)else a[i]? :=by
 unfold addAt
 rw[List.getElem?_set]
 by_cases e:j=i
 ·subst e
  by_cases h:j<a.length
  ·simp[h]
  ·simp[h]
 ·simp[e]
theorem addAt_comm(a:List Int)(j k:Nat)(u v:Int):addAt (addAt a j u) k v=addAt (addAt a k v) j u:=by
 refine List.ext_getElem? fun i=> ?_
 simp only[addAt_get,addAt_len,List.getD_eq_getElem?_getD]
 by_cases h:i<a.length
 ·by_cases e1:j=i<;>by_cases e2:k=i<;>simp[e1,e2,h]
  omega
 ·simp[h]
theorem stateA_cons(ps:List Pa)(hs:List Ho)(set n:Nat)(a:List Int)(w:Sw)(r:List Sw):stateA ps hs set n a (w::r)=stateA ps hs set (n+1) (if set.testBit n then(match placeW ps hs w with|some j=>addAt a j w.units|none=>a)else a) r:=by
 rw[stateA]
 rfl
theorem stateA_add(ps:List Pa)(hs:List Ho)(set j:Nat)(u:Int):∀(r:List Sw)(n:Nat)(a:List Int),stateA ps hs set n (addAt a j u) r=addAt (stateA ps hs set n a r) j u:=by
 intro r
 induction r with
 |nil=>intro n a;rfl
 |cons w r ih=>
  intro n a
  rw[stateA_cons,stateA_cons,<-ih]
  congr 1
  split
  ·split
   ·exact addAt_comm _ _ _ _ _
   ·rfl
  ·rfl
theorem stateA_congr(ps:List Pa)(hs:List Ho){s t:Nat}:∀(r:List Sw)(n:Nat)(a:List Int),(∀k,n<=k->s.testBit k=t.testBit k)->stateA ps hs s n a r=stateA ps hs t n a r:=by
 intro r
 induction r with
 |nil=>intro n a _;rfl
 |cons w r ih=>
  intro n a h
  rw[stateA_cons,stateA_cons,h n (Nat.le_refl _),ih _ _ fun k hk=>h k (by omega)]
theorem stateA_step{ps:List Pa}{hs:List Ho}{s i j:Nat}{w:Sw}(hb:s.testBit i=false)(hj:placeW ps hs w=some j):∀(r:List Sw)(n:Nat)(a:List Int),n<=i->r[i - n]? =some w->stateA ps hs (addB s i) n a r=addAt (stateA ps hs s n a r) j w.units:=by
 intro r
 induction r with
 |nil=>intro n a _ h;cases h
 |cons x r ih=>
  intro n a hn h
  rw[stateA_cons,stateA_cons]
  by_cases e:n=i
  ·subst e
   have hx:x=w:=by simpa using h
   subst hx
   rw[addB_bit,hb,hj]
   simp only[decide_true,Bool.or_true,if_true,Bool.false_eq_true,if_false]
   rw[stateA_add,stateA_congr ps hs r (n+1) a (s:=addB s n) (t:=s) fun k hk=>by rw[addB_bit,decide_eq_false (by omega),Bool.or_false]]
  ·rw[addB_bit,decide_eq_false (fun k=>e k.symm),Bool.or_false]
   refine ih (n+1) _ (by omega) ?_
   rw[show i - n=(i - (n+1))+1 by omega]at h
   simpa using h

theorem put_state{ps:List Pa}{hs:List Ho}{m m':List Sw}{w:Sw}(hck:checkC ps hs=0)(hr:RightS ps hs m){j:Nat}(hj:placeW ps hs w=some j)(hu:¬(w.units=0∨w.units< -9∨9<w.units))(h:fromF ps hs (addAt (amountsF ps hs m) j w.units)= .ok m'):putF ps hs m w= .ok m':=by
 obtain⟨_,hr',ham⟩:=from_ok h
 unfold placeW at hj
 cases hip:pix ps w.parcel with
 |none=>rw[hip]at hj;cases hj
 |some i=>
 cases hik:hix hs w.hold with
 |none=>rw[hip,hik]at hj;cases hj
 |some k=>
 rw[hip,hik]at hj
 cases hj
 obtain⟨hil,hid⟩:=pix_lt hip
 obtain⟨hkl,hkd⟩:=hix_lt hik
 have e2:ps[i]? =some ps[i]:=List.getElem?_eq_getElem hil
 have e1:hs[k]? =some hs[k]:=List.getElem?_eq_getElem hkl
 have hidx:i*hs.length+k<(amountsF ps hs m).length:=by rw[amounts_len];exact idx_lt hil hkl
 have hget:(amountsF ps hs m).getD (i*hs.length+k) 0=amtF m w.hold w.parcel:=by
  rw[List.getD_eq_getElem?_getD,amounts_get e2 e1,hid,hkd]
  rfl
 have hset:addAt (amountsF ps hs m) (i*hs.length+k) w.units=(amountsF ps hs m).set (i*hs.length+k) (amtF m w.hold w.parcel+w.units):=by
  unfold addAt
  rw[hget]
 have hn:amtF m' w.hold w.parcel=amtF m w.hold w.parcel+w.units:=by
  have:=amounts_get (l:=m') e2 e1
  rw[ham,hset,List.getElem?_set_self hidx,hid,hkd]at this
  exact(Option.some.inj this).symm
 have h0:0<=amtF m w.hold w.parcel+w.units:=by rw[<-hn];exact amt_nonneg hr'.pos _ _
 have hup:=amounts_upd hr (s:=⟨w.hold,w.parcel,amtF m w.hold w.parcel+w.units⟩) h0 hip hik
 simp only at hup
 -- the units of the parcel
 have hknown:∀{x:List Sw},RightS ps hs x->∀s∈x,∃h∈hs,h.id=s.hold:=fun hx s hs'=>by
  obtain⟨_,k,_,hk⟩:=hx.known s hs'
  obtain⟨h',e,e'⟩:=hix_some hk
  exact⟨h',List.mem_of_getElem? e,e'⟩
 have hamt:∀h'∈hs,amtF m' h'.id w.parcel=if h'.id=w.hold then amtF m w.hold w.parcel+w.units else amtF m h'.id w.parcel:=fun h' hh=>by
  obtain⟨k',hk'⟩:=List.getElem?_of_mem hh
  have hk'l:=(List.getElem?_eq_some_iff.1 hk').1
  have:=amounts_get (l:=m') e2 hk'
  rw[ham,hset,List.getElem?_set]at this
  by_cases e:i*hs.length+k=i*hs.length+k'
  ·have:k=k':=by omega
   subst this
   rw[e1]at hk'
   cases hk'
   rw[if_pos hkd,hkd]
   exact hn
  ·rw[if_neg e,amounts_get e2 hk',hid]at this
   rw[if_neg,Option.some.inj this]
   intro q
   have:=pair_inj (f:=Ho.id) hr.c.ih e1 hk' (by rw[hkd,q])
   exact e (by rw[this])
 have hsum:unitsF m' w.parcel=unitsF m w.parcel+w.units:=by
  rw[units_holds hr.c.ih w.parcel hr'.srt (hknown hr'),units_holds hr.c.ih w.parcel hr.srt (hknown hr)]
  refine holds_add (a:=w.hold) hr.c.ih (fun h' hh hne=> ?_) ?_ ⟨hs[k],List.getElem_mem hkl,hkd⟩
  ·rw[hamt h' hh,if_neg hne]
  ·exact hn
 have hful:=hr'.full _ (List.getElem_mem hil)
 rw[hid,hsum]at hful
 have hput:putF ps hs m w= .ok (updS m ⟨w.hold,w.parcel,amtF m w.hold w.parcel+w.units⟩):=by
  unfold putF
  rw[if_neg (fun k=>k (right_stowed hck hr))]
  simp only[hip,hik]
  rw[if_neg hu,if_neg (by omega),e2]
  simp only
  rw[if_neg (by omega)]
 have hru:=put_right (put_ok hput)
 rw[hput]
 refine congrArg _ ?_
 have q1:=stows_amts hru (f:=getA (amountsF ps hs (updS m ⟨w.hold,w.parcel,amtF m w.hold w.parcel+w.units⟩)) hs.length) fun i k hi hk=>getA_amounts hi hk
 have q2:=stows_amts hr' (f:=getA (amountsF ps hs m') hs.length) fun i k hi hk=>getA_amounts hi hk
 rw[<-q1,<-q2,<-hup,ham,hset]

def foldPut(ps:List Pa)(hs:List Ho):List Sw->List Sw->Option (List Sw)
 |c,[]=>some c
 |c,w::r=>match putF ps hs c w with| .ok c'=>foldPut ps hs c' r| .error _=>none
theorem same_amts{ps:List Pa}{hs:List Ho}{c m:List Sw}(hc:RightS ps hs c)(hm:RightS ps hs m)(h:∀a p,amtF c a p=amtF m a p):c=m:=by
 have q1:=stows_amts hc (f:=fA ps hs m) fun i k hi hk=>by
  rw[fA_eq (List.getElem?_eq_getElem hk) (List.getElem?_eq_getElem hi),fA_eq (List.getElem?_eq_getElem hk) (List.getElem?_eq_getElem hi),h]
 rw[<-q1]
 exact stows_amts hm fun _ _ _ _=>rfl
theorem join_walk{ps:List Pa}{hs:List Ho}{m:List Sw}(hck:checkC ps hs=0)(hm:RightS ps hs m):
  ∀(rest c:List Sw),RightS ps hs c->(∀w∈rest,w.units≠0/\∃i k,pix ps w.parcel=some i/\hix hs w.hold=some k)->(rest.Pairwise fun a b=>¬(a.hold=b.hold/\a.parcel=b.parcel))->(rest.Pairwise fun a b=>0<a.units->0<b.units)->
   (∀w∈rest,amtF c w.hold w.parcel=amtF m w.hold w.parcel - w.units)->(∀h p,(∀w∈rest,¬(w.hold=h/\w.parcel=p))->amtF c h p=amtF m h p)->foldPut ps hs c rest=some m:=by
 intro rest
 induction rest with
 |nil=>
  intro c hc _ _ _ _ h0
  rw[foldPut,same_amts hc hm fun a p=>h0 a p (by simp)]
 |cons w r ih=>
  intro c hc hk hd hp ha h0
  obtain⟨d1,d2⟩:=List.pairwise_cons.1 hd
  obtain⟨p1,p2⟩:=List.pairwise_cons.1 hp
  obtain⟨hu,i,k,hip,hik⟩:=hk w (by simp)
  have hw:=ha w (by simp)
  obtain⟨hil,hid⟩:=pix_lt hip
  obtain⟨hkl,hkd⟩:=hix_lt hik
  have b1:=amt_nonneg hm.pos w.hold w.parcel
  have b2:=amt_le hm w.hold w.parcel
  have b3:=amt_nonneg hc.pos w.hold w.parcel
  have b4:=amt_le hc w.hold w.parcel
  have hfull:¬ps[i].units<unitsF c w.parcel+w.units:=by
   have hf:=hc.full _ (List.getElem_mem hil)
   rw[hid]at hf
   by_cases hpos:0<w.units
   ·-- nothing is taken out any more
    have hfm:=hm.full _ (List.getElem_mem hil)
    rw[hid]at hfm
    have hsplit:unitsF c w.parcel+w.units<=unitsF m w.parcel:=by
     have hru:RightS ps hs (updS c ⟨w.hold,w.parcel,amtF c w.hold w.parcel+w.units⟩)∨True:= .inr trivial
     have hu1:=units_upd hc.srt hc.pos (s:=⟨w.hold,w.parcel,amtF m w.hold w.parcel⟩) b1 w.parcel
     rw[if_pos rfl]at hu1
     simp only at hu1
     have hknown:∀{x:List Sw},RightS ps hs x->∀s∈x,∃h∈hs,h.id=s.hold:=fun hx s hs'=>by
      obtain⟨_,k,_,hk⟩:=hx.known s hs'
      obtain⟨h',e,e'⟩:=hix_some hk
      exact⟨h',List.mem_of_getElem? e,e'⟩
     rw[units_holds hc.c.ih w.parcel hc.srt (hknown hc),units_holds hc.c.ih w.parcel hm.srt (hknown hm)]
     have hadd:=holds_add (hs:=hs) (g:=fun a=>amtF c a w.parcel) (g':=fun a=>if a=w.hold then amtF c a w.parcel+w.units else amtF c a w.parcel) (a:=w.hold) (d:=w.units) hc.c.ih (fun h' _ hne=>if_neg hne) (if_pos rfl) ⟨hs[k],List.getElem_mem hkl,hkd⟩
     rw[<-hadd]
     unfold holdsSum
     have key:∀h'∈hs,(if h'.id=w.hold then amtF c h'.id w.parcel+w.units else amtF c h'.id w.parcel)<=amtF m h'.id w.parcel:=fun h' hh=>by
      by_cases e:h'.id=w.hold
      ·rw[if_pos e,e]
       omega
      ·rw[if_neg e]
       by_cases hex:∃x∈r,x.hold=h'.id/\x.parcel=w.parcel
       ·obtain⟨x,hx,e1,e2⟩:=hex
        have:=ha x (by simp[hx])
        have:=p1 x hx hpos
        rw[e1,e2]at*
        omega
       ·rw[h0 h'.id w.parcel fun x hx q=> ?_]
        ·exact Int.le_refl _
        ·rcases List.mem_cons.1 hx with rfl|hx
         ·exact e q.1.symm
         ·exact hex ⟨x,hx,q⟩
     clear hadd hu1 hru
     have mono:∀(L:List Ho),(∀h'∈L,h'∈hs)->(L.map fun h'=>(fun a=>if a=w.hold then amtF c a w.parcel+w.units else amtF c a w.parcel) h'.id).sum<=(L.map fun h'=>(fun a=>amtF m a w.parcel) h'.id).sum:=by
      intro L
      induction L with
      |nil=>intro _;simp
      |cons x t iht=>
       intro hL
       rw[List.map_cons,List.map_cons,List.sum_cons,List.sum_cons]
       have q1:=key x (hL x (by simp))
       have q2:=iht fun y hy=>hL y (by simp[hy])
       simp only at q1 q2⊢
       omega
     exact mono hs fun _ h=>h
    omega
   ·omega
  have hput:putF ps hs c w= .ok (updS c ⟨w.hold,w.parcel,amtF c w.hold w.parcel+w.units⟩):=by
   unfold putF
   rw[if_neg (fun k=>k (right_stowed hck hc))]
   simp only[hip,hik]
   rw[if_neg (by omega),if_neg (by omega),List.getElem?_eq_getElem hil]
   simp only
   rw[if_neg hfull]
  have hru:=put_right (put_ok hput)
  have hamt:=fun(a p:Int)=>amt_upd hc.srt (s:=⟨w.hold,w.parcel,amtF c w.hold w.parcel+w.units⟩) (show 0<=amtF c w.hold w.parcel+w.units by omega) a p
  simp only at hamt
  rw[foldPut,hput]
  simp only
  refine ih _ hru (fun x hx=>hk x (by simp[hx])) d2 p2 (fun x hx=> ?_) fun a p hno=> ?_
  ·rw[hamt,if_neg (d1 x hx)]
   exact ha x (by simp[hx])
  ·rw[hamt]
   by_cases e:w.hold=a/\w.parcel=p
   ·rw[if_pos e,<-e.1,<-e.2]
    omega
   ·rw[if_neg e]
    refine h0 a p fun x hx=> ?_
    rcases List.mem_cons.1 hx with rfl|hx
    ·exact e
    ·exact hno x hx

def difE(f:Nat->Nat->Int)(ps:List Pa)(hs:List Ho)(k i:Nat):List Sw:=
 match hs[k]?,ps[i]? with
 |some h,some p=>if f i k≠0 then[⟨h.id,p.id,f i k⟩]else[]
 |_,_=>[]
def difG(f:Nat->Nat->Int)(ps:List Pa)(hs:List Ho):List Sw:=(List.range hs.length).flatMap fun k=>(List.range ps.length).flatMap fun i=>difE f ps hs k i
theorem mem_difE{f:Nat->Nat->Int}{ps:List Pa}{hs:List Ho}{k i:Nat}{s:Sw}:s∈difE f ps hs k i↔∃h p,hs[k]? =some h/\ps[i]? =some p/\f i k≠0/\s=⟨h.id,p.id,f i k⟩:=by
 unfold difE
 constructor
 ·intro h
  split at h
  ·rename_i h' p e1 e2
   split at h
   ·rename_i h0
    rw[List.mem_singleton]at h
    exact⟨h',p,e1,e2,h0,h⟩
   ·cases h
  ·cases h
 ·rintro⟨h,p,e1,e2,h0,rfl⟩
  rw[e1,e2]
  simp only
  rw[if_pos h0]
  simp
theorem mem_dif{f:Nat->Nat->Int}{ps:List Pa}{hs:List Ho}{s:Sw}:s∈difG f ps hs↔∃k i h p,hs[k]? =some h/\ps[i]? =some p/\f i k≠0/\s=⟨h.id,p.id,f i k⟩:=by
 unfold difG
 simp only[List.mem_flatMap,List.mem_range,mem_difE]
 constructor
 ·rintro⟨k,_,i,_,h,p,e⟩
  exact⟨k,i,h,p,e⟩
 ·rintro⟨k,i,h,p,e1,e2,e⟩
  exact⟨k,(List.getElem?_eq_some_iff.1 e1).1,i,(List.getElem?_eq_some_iff.1 e2).1,h,p,e1,e2,e⟩
theorem srt_dif{f:Nat->Nat->Int}{ps:List Pa}{hs:List Ho}(hp:ps.Pairwise fun a b=>a.id<b.id)(hh:hs.Pairwise fun a b=>a.id<b.id):SrtS (difG f ps hs):=by
 unfold SrtS difG
 rw[List.pairwise_flatMap]
 refine⟨fun k _=> ?_,?_⟩
 ·rw[List.pairwise_flatMap]
  refine⟨fun i _=> ?_,?_⟩
  ·unfold difE
   split
   ·split<;>simp
   ·simp
  ·refine List.Pairwise.imp ?_ List.pairwise_lt_range
   intro i j hij x hx y hy
   obtain⟨h,p,e1,e2,_,rfl⟩:=mem_difE.1 hx
   obtain⟨h',p',e3,e4,_,rfl⟩:=mem_difE.1 hy
   rw[e1]at e3
   cases e3
   exact .inr ⟨rfl,pair_lt hp hij e2 e4⟩
 ·refine List.Pairwise.imp ?_ List.pairwise_lt_range
  intro i j hij x hx y hy
  obtain⟨a,_,hx⟩:=List.mem_flatMap.1 hx
  obtain⟨b,_,hy⟩:=List.mem_flatMap.1 hy
  obtain⟨h,p,e1,e2,_,rfl⟩:=mem_difE.1 hx
  obtain⟨h',p',e3,e4,_,rfl⟩:=mem_difE.1 hy
  exact .inl (pair_lt hh hij e1 e3)
def workG(f:Nat->Nat->Int)(ps:List Pa)(hs:List Ho):List Sw:=(difG f ps hs).filter (fun s=>decide (s.units<0))++(difG f ps hs).filter fun s=>decide (0<s.units)
theorem mem_work{f:Nat->Nat->Int}{ps:List Pa}{hs:List Ho}{s:Sw}:s∈workG f ps hs↔s∈difG f ps hs:=by
 unfold workG
 simp only[List.mem_append,List.mem_filter,decide_eq_true_eq]
 constructor
 ·rintro(h|h)<;>exact h.1
 ·intro h
  obtain⟨_,_,_,_,_,_,h0,rfl⟩:=mem_dif.1 h
  rcases Int.lt_trichotomy (f _ _) 0 with k|k|k
  ·exact .inl ⟨h,k⟩
  ·exact absurd k h0
  ·exact .inr ⟨h,k⟩
theorem key_ne{a b:Sw}(h:befS a b):¬(a.hold=b.hold/\a.parcel=b.parcel):=by unfold befS at h;omega
def difA(ps:List Pa)(hs:List Ho)(l m:List Sw)(i k:Nat):Int:=fA ps hs m i k - fA ps hs l i k
theorem work_joins{ps:List Pa}{hs:List Ho}{l m:List Sw}(hck:checkC ps hs=0)(hl:RightS ps hs l)(hm:RightS ps hs m):foldPut ps hs l (workG (difA ps hs l m) ps hs)=some m:=by
 have hsrt:=srt_dif (f:=difA ps hs l m) hl.c.ip hl.c.ih
 refine join_walk hck hm _ l hl (fun w hw=> ?_) ?_ ?_ (fun w hw=> ?_) fun a p hno=> ?_
 ·obtain⟨k,i,h,q,e1,e2,h0,rfl⟩:=mem_dif.1 (mem_work.1 hw)
  exact⟨h0,i,k,pix_of hl.c.ip e2,hix_of hl.c.ih e1⟩
 ·unfold workG
  refine List.pairwise_append.2 ⟨(hsrt.filter _).imp key_ne,(hsrt.filter _).imp key_ne,fun x hx y hy q=> ?_⟩
  have hx':=List.mem_filter.1 hx
  have hy':=List.mem_filter.1 hy
  have:=srt_key hsrt hx'.1 hy'.1 q.1 q.2
  subst this
  have q1:=hx'.2
  have q2:=hy'.2
  simp at q1 q2
  omega
 ·unfold workG
  refine List.pairwise_append.2 ⟨?_,?_,fun x _ y hy _=>by simpa using(List.mem_filter.1 hy).2⟩
  ·refine List.pairwise_of_forall_mem_list fun x hx y _ q=> ?_
   have:=(List.mem_filter.1 hx).2
   simp at this
   omega
  ·exact List.pairwise_of_forall_mem_list fun x _ y hy _=>by simpa using(List.mem_filter.1 hy).2
 ·obtain⟨k,i,h,q,e1,e2,h0,rfl⟩:=mem_dif.1 (mem_work.1 hw)
  simp only[difA]
  rw[fA_eq e1 e2,fA_eq e1 e2]
  omega
 ·by_cases hp:∃q∈ps,q.id=p
  ·by_cases hh:∃h∈hs,h.id=a
   ·obtain⟨q,hq,rfl⟩:=hp
    obtain⟨h,hx,rfl⟩:=hh
    obtain⟨i,e2⟩:=List.getElem?_of_mem hq
    obtain⟨k,e1⟩:=List.getElem?_of_mem hx
    have hz:difA ps hs l m i k=0:=by
     apply Decidable.byContradiction
     intro h0
     exact hno _ (mem_work.2 (mem_dif.2 ⟨k,i,h,q,e1,e2,h0,rfl⟩)) ⟨rfl,rfl⟩
    unfold difA at hz
    rw[fA_eq e1 e2,fA_eq e1 e2]at hz
    omega
   ·rw[amt_none,amt_none]
    ·rintro s hs' ⟨_,e⟩
     obtain⟨_,k,_,hk⟩:=hm.known s hs'
     obtain⟨h',e1,e2⟩:=hix_some hk
     exact hh ⟨h',List.mem_of_getElem? e1,e2.trans e⟩
    ·rintro s hs' ⟨_,e⟩
     obtain⟨_,k,_,hk⟩:=hl.known s hs'
     obtain⟨h',e1,e2⟩:=hix_some hk
     exact hh ⟨h',List.mem_of_getElem? e1,e2.trans e⟩
  ·rw[amt_none,amt_none]
   ·rintro s hs' ⟨e,_⟩
    obtain⟨i,_,hi,_⟩:=hm.known s hs'
    obtain⟨q,e1,e2⟩:=pix_some hi
    exact hp ⟨q,List.mem_of_getElem? e1,e2.trans e⟩
   ·rintro s hs' ⟨e,_⟩
    obtain⟨i,_,hi,_⟩:=hl.known s hs'
    obtain⟨q,e1,e2⟩:=pix_some hi
    exact hp ⟨q,List.mem_of_getElem? e1,e2.trans e⟩
theorem work_back{ps:List Pa}{hs:List Ho}{l m:List Sw}{w:Sw}(h:w∈workG (difA ps hs l m) ps hs):(⟨w.hold,w.parcel, -w.units⟩:Sw)∈workG (difA ps hs m l) ps hs:=by
 obtain⟨k,i,h',q,e1,e2,h0,rfl⟩:=mem_dif.1 (mem_work.1 h)
 refine mem_work.2 (mem_dif.2 ⟨k,i,h',q,e1,e2,?_,?_⟩)
 ·unfold difA at*;omega
 ·simp only[difA]
  rw[Int.neg_sub]

structure TaskOk (ps:List Pa) (hs:List Ho) (rs:List Ru) (l works:List Sw):Prop where
 rules:(checkR ps hs rs).2=0
 keeps:keepsF ps hs rs l=true
 n:works.length<=6
 place:∀w∈works,∃j,placeW ps hs w=some j
 u:∀w∈works,¬(w.units=0∨w.units< -9∨9<w.units)
theorem task_ok{ps:List Pa}{hs:List Ho}{rs:List Ru}{l works:List Sw}(h:taskF ps hs rs l works=0):TaskOk ps hs rs l works:=by
 unfold taskF at h
 split at h
 ·simp at h
 ·rename_i h1
  split at h
  ·simp at h
  ·rename_i h2
   split at h
   ·simp at h
   ·rename_i h3
    split at h
    ·simp at h
    ·rename_i h4
     split at h
     ·simp at h
     ·rename_i h5
      refine⟨Decidable.not_not.1 h1,by simpa using h2,by omega,fun w hw=> ?_,fun w hw k=> ?_⟩
      ·cases e:placeW ps hs w with
       |some j=>exact⟨j,rfl⟩
       |none=>exact absurd (List.any_eq_true.2 ⟨w,hw,by simpa using e⟩) h4
      ·exact h5 (List.any_eq_true.2 ⟨w,hw,by simpa using k⟩)
theorem keeps_right{ps:List Pa}{hs:List Ho}{rs:List Ru}{l:List Sw}(h:keepsF ps hs rs l=true):checkC ps hs=0/\stowedF ps hs l=0/\RightS ps hs l:=by
 unfold keepsF rightF at h
 simp only[Bool.and_eq_true,decide_eq_true_eq]at h
 exact⟨(checkR_zero h.1.1.1).1,h.1.1.2,stowed_right h.1.1.2⟩
theorem stateA_zero(ps:List Pa)(hs:List Ho):∀(r:List Sw)(n:Nat)(a:List Int),stateA ps hs 0 n a r=a:=by
 intro r
 induction r with
 |nil=>intro n a;rfl
 |cons w r ih=>
  intro n a
  rw[stateA_cons,Nat.zero_testBit,if_neg (by decide),ih]
theorem state_zero{ps:List Pa}{hs:List Ho}{l works:List Sw}(hc:checkC ps hs=0)(h:RightS ps hs l):stateF ps hs l works 0=some l:=by
 unfold stateF
 rw[stateA_zero,from_amounts hc h]
 rfl
theorem state_right{ps:List Pa}{hs:List Ho}{l works c:List Sw}{s:Nat}(h:stateF ps hs l works s=some c):checkC ps hs=0/\RightS ps hs c/\amountsF ps hs c=stateA ps hs s 0 (amountsF ps hs l) works:=by
 unfold stateF at h
 cases e:fromF ps hs (stateA ps hs s 0 (amountsF ps hs l) works)with
 |error x=>rw[e]at h;cases h
 |ok y=>
  rw[e]at h
  cases h
  exact from_ok e
theorem state_step{ps:List Pa}{hs:List Ho}{rs:List Ru}{l works c c':List Sw}{s i:Nat}{w:Sw}(ht:TaskOk ps hs rs l works)(hw:works[i]? =some w)(hb:s.testBit i=false)(h:stateF ps hs l works s=some c)(h':stateF ps hs l works (addB s i)=some c'):putF ps hs c w= .ok c':=by
 obtain⟨hck,hr,ha⟩:=state_right h
 have hm:=List.mem_of_getElem? hw
 obtain⟨j,hj⟩:=ht.place w hm
 refine put_state hck hr hj (ht.u w hm) ?_
 rw[ha,<-stateA_step hb hj works 0 _ (Nat.zero_le _) (by simpa using hw)]
 unfold stateF at h'
 cases e:fromF ps hs (stateA ps hs (addB s i) 0 (amountsF ps hs l) works)with
 |error x=>rw[e]at h';cases h'
 |ok y=>
  rw[e]at h'
  cases h'
  rfl
theorem order_step{ps:List Pa}{hs:List Ho}{rs:List Ru}{l works c:List Sw}{d s i:Nat}{o:List Nat}(ht:TaskOk ps hs rs l works)(hc:stateF ps hs l works s=some c)(h:restF (allowF ps hs rs l works) works.length d s=some (i::o)):
  ∃(w:Sw)(c':List Sw)(d':Nat),works[i]? =some w/\putF ps hs c w= .ok c'/\stateF ps hs l works (addB s i)=some c'/\keepsF ps hs rs c'=true/\s.testBit i=false/\restF (allowF ps hs rs l works) works.length d' (addB s i)=some o:=by
 cases d with
 |zero=>
  rw[restF]at h
  split at h<;>cases h
 |succ d=>
  rw[restF]at h
  split at h
  ·cases h
  ·obtain⟨i',hi,hx⟩:=List.exists_of_findSome?_eq_some h
   split at hx
   ·cases hx
   ·rename_i hcnd
    simp only[Bool.or_eq_true,Bool.not_eq_true',not_or,Bool.not_eq_true,Bool.not_eq_false]at hcnd
    obtain⟨l',hl',e⟩:=Option.map_eq_some_iff.1 hx
    cases e
    have hil:=List.mem_range.1 hi
    have hw:works[i]? =some works[i]:=List.getElem?_eq_getElem hil
    have ha:=hcnd.2
    unfold allowF at ha
    cases hst:stateF ps hs l works (addB s i)with
    |none=>rw[hst]at ha;cases ha
    |some c'=>
     rw[hst]at ha
     exact⟨works[i],c',d,hw,state_step ht hw hcnd.1 hc hst,rfl,ha,hcnd.1,hl'⟩
theorem order_len{al:Nat->Bool}{n d:Nat}{o:List Nat}(h:restF al n d 0=some o):o.length=n:=by
 have gen:∀(d s:Nat)(o:List Nat),s<2^n->restF al n d s=some o->o.length=leftN n s:=by
  intro d
  induction d with
  |zero=>
   intro s o hs h
   rw[restF]at h
   split at h
   ·rename_i e
    cases h
    rw[e]
    unfold leftN
    rw[List.length_nil]
    refine(List.countP_eq_zero.2 fun i hi=> ?_).symm
    rw[full_bit,decide_eq_true (List.mem_range.1 hi)]
    decide
   ·cases h
  |succ d ih=>
   intro s o hs h
   rw[restF]at h
   split at h
   ·rename_i e
    cases h
    rw[e]
    unfold leftN
    rw[List.length_nil]
    refine(List.countP_eq_zero.2 fun i hi=> ?_).symm
    rw[full_bit,decide_eq_true (List.mem_range.1 hi)]
    decide
   ·obtain⟨i,hi,hx⟩:=List.exists_of_findSome?_eq_some h
    split at hx
    ·cases hx
    ·rename_i hc
     simp only[Bool.or_eq_true,Bool.not_eq_true',not_or,Bool.not_eq_true,Bool.not_eq_false]at hc
     obtain⟨l',hl',rfl⟩:=Option.map_eq_some_iff.1 hx
     rw[List.length_cons,ih _ _ (addB_lt hs (List.mem_range.1 hi)) hl',left_add (List.mem_range.1 hi) hc.1]
 rw[gen d 0 o (Nat.two_pow_pos n) h]
 unfold leftN
 rw[List.countP_eq_length.2 fun i _=>by simp]
 simp
theorem order_checks{al:Nat->Bool}{n:Nat}{o:List Nat}(h:restF al n n 0=some o):checkO al n (o.map fun(i:Nat)=>(i:Int))=(-1,0):=by
 obtain⟨h1,h2,h3,h4⟩:=rest_walk n 0 0 o h
 have hl:=order_len h
 have hp:o.Perm (List.range n):=by
  refine(perm_of h4 (fun x hx=>List.mem_range.2 (h3 x hx).1) ?_).symm
  simp[hl]
 unfold checkO
 rw[if_neg]
 ·exact Prod.ext h2 h1
 ·rw[Classical.not_not]
  refine⟨by simp[hl],fun i hi=> ?_⟩
  exact List.mem_map.2 ⟨i,hp.mem_iff.2 hi,rfl⟩

def leL(a b:List Int):Prop:=a.length=b.length/\∀i,a.getD i 0<=b.getD i 0
theorem leL.refl(a:List Int):leL a a:=⟨rfl,fun _=>Int.le_refl _⟩
theorem addAt_getD(a:List Int)(j:Nat)(u:Int)(i:Nat):(addAt a j u).getD i 0=if j=i/\i<a.length then a.getD i 0+u else a.getD i 0:=by
 rw[List.getD_eq_getElem?_getD,addAt_get]
 split
 ·rfl
 ·rw[List.getD_eq_getElem?_getD]
theorem leL.add{a b:List Int}(h:leL a b)(j:Nat)(u:Int):leL (addAt a j u) (addAt b j u):=by
 refine⟨by rw[addAt_len,addAt_len,h.1],fun i=> ?_⟩
 rw[addAt_getD,addAt_getD,h.1]
 have:=h.2 i
 split<;>omega
theorem nodup_len{A:List Int}:∀{B:List Int},A.Nodup->(∀x∈A,x∈B)->A.length<=B.length:=by
 induction A with
 |nil=>intro B _ _;simp
 |cons x r ih=>
  intro B hn hs
  obtain⟨n1,n2⟩:=List.nodup_cons.1 hn
  have hx:=hs x (by simp)
  have:=ih (B:=B.erase x) n2 fun y hy=>by
   rw[List.mem_erase_of_ne (fun e=>n1 (by rw[<-e];exact hy))]
   exact hs y (by simp[hy])
  rw[List.length_erase_of_mem hx]at this
  have:=List.length_pos_of_mem hx
  simp
  omega
theorem inS_len{ps:List Pa}{hs:List Ho}{l:List Sw}(h:RightS ps hs l)(id:Int):(inS l id).length<=ps.length:=by
 have hn:((inS l id).map fun s=>s.parcel).Nodup:=by
  have hsrt:SrtS (inS l id):=List.Pairwise.filter _ h.srt
  refine List.pairwise_map.2 (List.Pairwise.imp_of_mem ?_ hsrt)
  intro x y hx hy hb
  have hx:=(List.mem_filter.1 hx).2
  have hy:=(List.mem_filter.1 hy).2
  simp at hx hy
  unfold befS at hb
  omega
 have:=nodup_len hn (B:=ps.map fun p=>p.id) fun x hx=>by
  obtain⟨s,hs',rfl⟩:=List.mem_map.1 hx
  obtain⟨i,_,hi,_⟩:=h.known s (List.mem_filter.1 hs').1
  obtain⟨p,e,e2⟩:=pix_some hi
  exact List.mem_map.2 ⟨p,List.mem_of_getElem? e,e2⟩
 simpa using this
theorem leL.drop{a b:List Int}(h:leL a b)(k:Nat):leL (a.drop k) (b.drop k):=by
 refine⟨by rw[List.length_drop,List.length_drop,h.1],fun i=> ?_⟩
 have:=h.2 (k+i)
 rw[List.getD_eq_getElem?_getD,List.getD_eq_getElem?_getD]at*
 rwa [List.getElem?_drop,List.getElem?_drop]
theorem leL.take{a b:List Int}(h:leL a b)(k:Nat):leL (a.take k) (b.take k):=by
 refine⟨by rw[List.length_take,List.length_take,h.1],fun i=> ?_⟩
 have:=h.2 i
 rw[List.getD_eq_getElem?_getD,List.getD_eq_getElem?_getD]at*
 rw[List.getElem?_take,List.getElem?_take]
 by_cases hk:i<k
 ·rwa [if_pos hk,if_pos hk]
 ·rw[if_neg hk,if_neg hk]
  exact Int.le_refl _
theorem leL.sum:∀{a b:List Int},leL a b->a.sum<=b.sum:=by
 intro a
 induction a with
 |nil=>
  intro b h
  have:b=[]:=List.length_eq_zero_iff.1 h.1.symm
  subst this
  exact Int.le_refl _
 |cons x r ih=>
  intro b h
  cases b with
  |nil=>exact absurd h.1 (by simp)
  |cons y t=>
   rw[List.sum_cons,List.sum_cons]
   have h0:=h.2 0
   have ht:leL r t:=⟨by have:=h.1;simpa using this,fun i=>by have:=h.2 (i+1);simpa using this⟩
   have:=ih ht
   simp at h0
   omega
theorem leL.row{a b:List Int}(h:leL a b)(n i:Nat):leL (rowA a n i) (rowA b n i):=by
 unfold rowA
 exact(h.drop _).take _
end Go.Proofs.YtgfkeadgjkfomaaGreatDoor.B

set_option maxRecDepth 100000
set_option maxHeartbeats 4000000
namespace Go.Proofs.YtgfkeadgjkfomaaGreatDoor.F
open Go Go.RowKit Go.Proofs Go.Proofs.YtgfkeadgjkfomaaGreatDoor.Vc
noncomputable def stowage_Keeps.cx(w:World)(B:Nat)(R:Value->World->Prop):Cx:=⟨Tryz.prog,35,27,Tryz.f35.results.toList,[],[],w,B,R⟩
theorem stowage_Keeps.vc(a:Option Addr)(b c:Nat)(d:Option Addr)(e f:Nat)(l:Option Addr)(m n:Nat)(g:Option Addr)(i j:Nat)(w:World)(R:Value->World->Prop)
  (h:(∀q,Ext w.heap.size [] w q->(Pure P 69 #[.agg #[.slice a b c,.slice d e f,.slice l m n],.slice g i j] q fun u r=>∃o,u= .bool o/\(((o=false)->(R (.bool false) r))/\(¬(o=false)->(Pure P 70 #[.agg #[.slice a b c,.slice d e f,.slice l m n],.slice g i j] r fun v s=>∃x p y,v= .slice x p y/\((((p:Int)>0)->(R (.bool false) s))/\(¬((p:Int)>0)->(Pure P 71 #[.agg #[.slice a b c,.slice d e f],.slice g i j] s fun z A=>∃t C,z= .tuple #[.int .i64 t,.int .i64 C]/\(R (.bool (decide (t<0))) A)))))))))):
  Pure P 35 #[.agg #[.slice a b c,.slice d e f,.slice l m n],.slice g i j] w R:=
 pure_of_run (stowage_Keeps.cx w w.heap.size R) 100000 follows Tryz.func35 rfl rfl rfl rfl rfl rfl rfl (Eq.mp (by kernel_rfl) h)

noncomputable def stowage_right.cx(w:World)(B:Nat)(R:Value->World->Prop):Cx:=⟨Tryz.prog,69,21,Tryz.f69.results.toList,[],[],w,B,R⟩
theorem stowage_right.vc(a:Option Addr)(b c:Nat)(d:Option Addr)(e f:Nat)(i:Option Addr)(j l:Nat)(m:Option Addr)(n o:Nat)(w:World)(R:Value->World->Prop)
  (h:(∀p,Ext w.heap.size [] w p->(Pure P 77 #[.agg #[.slice a b c,.slice d e f,.slice i j l]] p fun s q=>∃t g,s= .tuple #[.int .i64 t,.int .i64 g]/\(((g=0)->(Pure P 61 #[.agg #[.slice a b c,.slice d e f],.slice m n o] q fun u v=>∃r,u= .int .i64 r/\(R (.bool (decide (r=0))) v)))/\(¬(g=0)->(R (.bool false) q)))))):
  Pure P 69 #[.agg #[.slice a b c,.slice d e f,.slice i j l],.slice m n o] w R:=
 pure_of_run (stowage_right.cx w w.heap.size R) 100000 follows Tryz.func69 rfl rfl rfl rfl rfl rfl rfl (Eq.mp (by kernel_rfl) h)

def stowage_broken.L4(a:Option Addr)(b c:Nat)(d:Option Addr)(e f:Nat)(g:Option Addr)(i j:Nat)(l m:Int)(n:Option Addr)(o p:Nat)(q:Option Addr)(r s:Nat)(t:Option Addr)(u v B:Nat)(w:World)(R:Value->World->Prop):Prop:=At Tryz.prog 70 32 (loopAt Tryz.f70 4) [(1,.v (.slice a b c)),(2,.loc 2 0),(5,.loc 5 0),(6,.v (.slice d e f)),(11,.v (.slice g i j)),(12,.v (.int .i64 l)),(13,.v (.int .i64 m))] [⟨2,false,28,[(.slice n o p),(.slice q r s),(.slice t u v)]⟩,⟨5,false,132,[.nilFunc,(.func (.func 94) #[] #[]),(.func (.func 98) #[] #[]),(.func (.func 99) #[] #[]),(.func (.func 100) #[] #[])]⟩] B w R
noncomputable def stowage_broken.cx(w:World)(B:Nat)(R:Value->World->Prop):Cx:=⟨Tryz.prog,70,32,Tryz.f70.results.toList,[((true,4),[1,2,5,6,11,12,13],[2,5])],[(6,2,1),(7,2,2),(7,3,2)],w,B,R⟩
theorem stowage_broken.L4.step(b:Option Addr)(c d:Nat)(r:Option Addr)(s t:Nat)(u:Option Addr)(v x:Nat)(q a:Int)(e:Option Addr)(f g:Nat)(i:Option Addr)(j l:Nat)(m:Option Addr)(n o B:Nat)(w:World)(R:Value->World->Prop)
  (h:(((a<q)->((0<=a/\a<v)/\∃M,u=some M/\(∃y p z A C D E G H,CellsAt w (M.add ((a).toNat*7)) [.string y,.int .i64 p,.slice z A C,.string D,.string E,.int .i64 G,.int .i64 H]/\((0<=p/\p<5)/\(((((True/\(p=(0:Int)->False))/\(p=(1:Int)->(∀N,Ext B [] w N->(Pure P 94 #[.agg #[.slice e f g,.slice i j l,.slice m n o],.agg #[.string y,.int .i64 p,.slice z A C,.string D,.string E,.int .i64 G,.int .i64 H],.slice b c d] N fun c2 O=>∃I,c2= .bool I/\((I=true->(RunOk P (Instr.buildSlice 48 1 #[(0,(.int .i64 a))]) B [87,28,132] O fun c3 c4=>∃Q S T,c3= .slice Q S T/\(RunOk P (Builtin.append_ #[48,48] 48 #[.slice r s t,.slice Q S T]) B [87,28,132] c4 fun c5 c6=>∃U V X,c5= .slice U V X/\(inR .i64 (a+1)/\(stowage_broken.L4 b c d U V X u v x q (a+1) e f g i j l m n o B c6 R)))))/\(I=false->(inR .i64 (a+1)/\(stowage_broken.L4 b c d r s t u v x q (a+1) e f g i j l m n o B O R))))))))/\(p=(2:Int)->(∀Y,Ext B [] w Y->(Pure P 98 #[.agg #[.slice e f g,.slice i j l,.slice m n o],.agg #[.string y,.int .i64 p,.slice z A C,.string D,.string E,.int .i64 G,.int .i64 H],.slice b c d] Y fun c7 Z=>∃J,c7= .bool J/\((J=true->(RunOk P (Instr.buildSlice 48 1 #[(0,(.int .i64 a))]) B [87,28,132] Z fun c8 c9=>∃a0 a1 a2,c8= .slice a0 a1 a2/\(RunOk P (Builtin.append_ #[48,48] 48 #[.slice r s t,.slice a0 a1 a2]) B [87,28,132] c9 fun d0 d1=>∃a3 a4 a5,d0= .slice a3 a4 a5/\(inR .i64 (a+1)/\(stowage_broken.L4 b c d a3 a4 a5 u v x q (a+1) e f g i j l m n o B d1 R)))))/\(J=false->(inR .i64 (a+1)/\(stowage_broken.L4 b c d r s t u v x q (a+1) e f g i j l m n o B Z R))))))))/\(p=(3:Int)->(∀a6,Ext B [] w a6->(Pure P 99 #[.agg #[.slice e f g,.slice i j l,.slice m n o],.agg #[.string y,.int .i64 p,.slice z A C,.string D,.string E,.int .i64 G,.int .i64 H],.slice b c d] a6 fun d2 a7=>∃K,d2= .bool K/\((K=true->(RunOk P (Instr.buildSlice 48 1 #[(0,(.int .i64 a))]) B [87,28,132] a7 fun d3 d4=>∃a8 a9 b0,d3= .slice a8 a9 b0/\(RunOk P (Builtin.append_ #[48,48] 48 #[.slice r s t,.slice a8 a9 b0]) B [87,28,132] d4 fun d5 d6=>∃b1 b2 b3,d5= .slice b1 b2 b3/\(inR .i64 (a+1)/\(stowage_broken.L4 b c d b1 b2 b3 u v x q (a+1) e f g i j l m n o B d6 R)))))/\(K=false->(inR .i64 (a+1)/\(stowage_broken.L4 b c d r s t u v x q (a+1) e f g i j l m n o B a7 R))))))))/\(p=(4:Int)->(∀b4,Ext B [] w b4->(Pure P 100 #[.agg #[.slice e f g,.slice i j l,.slice m n o],.agg #[.string y,.int .i64 p,.slice z A C,.string D,.string E,.int .i64 G,.int .i64 H],.slice b c d] b4 fun d7 b5=>∃L,d7= .bool L/\((L=true->(RunOk P (Instr.buildSlice 48 1 #[(0,(.int .i64 a))]) B [87,28,132] b5 fun d8 d9=>∃b6 b7 b8,d8= .slice b6 b7 b8/\(RunOk P (Builtin.append_ #[48,48] 48 #[.slice r s t,.slice b6 b7 b8]) B [87,28,132] d9 fun e0 e1=>∃b9 c0 c1,e0= .slice b9 c0 c1/\(inR .i64 (a+1)/\(stowage_broken.L4 b c d b9 c0 c1 u v x q (a+1) e f g i j l m n o B e1 R)))))/\(L=false->(inR .i64 (a+1)/\(stowage_broken.L4 b c d r s t u v x q (a+1) e f g i j l m n o B b5 R))))))))))))/\(¬(a<q)->(R (.slice r s t) w)))):
  stowage_broken.L4 b c d r s t u v x q a e f g i j l m n o B w R:=
 loop_of_run (stowage_broken.cx w B R) 100000 (loopAt Tryz.f70 4) _ _ follows Tryz.func70 rfl rfl rfl (Eq.mp (by kernel_rfl) h)
theorem stowage_broken.vc(d:Option Addr)(e f:Nat)(g:Option Addr)(i j:Nat)(b:Option Addr)(a c:Nat)(l:Option Addr)(m n:Nat)(w:World)(R:Value->World->Prop)
  (h:(∀o,Ext w.heap.size [] w o->(stowage_broken.L4 l m n none 0 0 b a c (a:Int) (0:Int) d e f g i j b a c w.heap.size o R))):
  Pure P 70 #[.agg #[.slice d e f,.slice g i j,.slice b a c],.slice l m n] w R:=
 pure_of_run (stowage_broken.cx w w.heap.size R) 100000 follows Tryz.func70 rfl rfl rfl rfl rfl rfl rfl (Eq.mp (by kernel_rfl) h)

def stowage_Check.L7(a b:Int)(c:Option Addr)(d e:Nat)(f:Option Addr)(g i:Nat)(j:Option Addr)(l m B:Nat)(w:World)(R:Value->World->Prop):Prop:=At Tryz.prog 77 31 (loopAt Tryz.f77 7) [(1,.loc 1 0),(19,.v (.int .i64 a)),(20,.v (.int .i64 b))] [⟨1,false,28,[(.slice c d e),(.slice f g i),(.slice j l m)]⟩] B w R
noncomputable def stowage_Check.cx(w:World)(B:Nat)(R:Value->World->Prop):Cx:=⟨Tryz.prog,77,31,Tryz.f77.results.toList,[((true,7),[1,19,20],[1])],[],w,B,R⟩
theorem stowage_Check.L7.step(b a:Int)(d:Option Addr)(e f:Nat)(g:Option Addr)(i j:Nat)(l:Option Addr)(m n B:Nat)(w:World)(R:Value->World->Prop)
  (h:(((a<b)->(Pure P 110 #[.agg #[.slice d e f,.slice g i j,.slice l m n],.int .i64 a] w fun p o=>∃c,p= .int .i64 c/\(((c≠0)->(R (.tuple #[.int .i64 a,.int .i64 c]) o))/\(¬(c≠0)->(inR .i64 (a+1)/\(stowage_Check.L7 b (a+1) d e f g i j l m n B o R))))))/\(¬(a<b)->(R (.tuple #[(.int .i64 (-1:Int)),.int .i64 0]) w)))):
  stowage_Check.L7 b a d e f g i j l m n B w R:=
 loop_of_run (stowage_Check.cx w B R) 100000 (loopAt Tryz.f77 7) _ _ follows Tryz.func77 rfl rfl rfl (Eq.mp (by kernel_rfl) h)
theorem stowage_Check.vc(c:Option Addr)(d e:Nat)(f:Option Addr)(g i:Nat)(l:Option Addr)(a m:Nat)(w:World)(R:Value->World->Prop)
  (h:(∀n,Ext w.heap.size [] w n->(Pure P 86 #[.agg #[.slice c d e,.slice f g i]] n fun o j=>∃b,o= .int .i64 b/\(((b≠0)->(R (.tuple #[(.int .i64 (-1:Int)),.int .i64 b]) j))/\(¬(b≠0)->((((a:Int)>16)->(R (.tuple #[(.int .i64 (-1:Int)),.int .i64 8]) j))/\(¬((a:Int)>16)->(stowage_Check.L7 (a:Int) (0:Int) c d e f g i l a m w.heap.size j R)))))))):
  Pure P 77 #[.agg #[.slice c d e,.slice f g i,.slice l a m]] w R:=
 pure_of_run (stowage_Check.cx w w.heap.size R) 100000 follows Tryz.func77 rfl rfl rfl rfl rfl rfl rfl (Eq.mp (by kernel_rfl) h)

noncomputable def stowage_broken_c1.cx(w:World)(B:Nat)(R:Value->World->Prop):Cx:=⟨Tryz.prog,94,15,Tryz.f94.results.toList,[],[],w,B,R⟩
theorem stowage_broken_c1.vc(l:Option Addr)(m n:Nat)(o:Option Addr)(p q:Nat)(r:Option Addr)(s t:Nat)(a:ByteArray)(b:Int)(c:Option Addr)(d e:Nat)(f g:ByteArray)(i j:Int)(u:Option Addr)(v x:Nat)(w:World)(R:Value->World->Prop)
  (h:(∀y,Ext w.heap.size [] w y->(Pure P 97 #[.agg #[.slice l m n,.slice o p q,.slice r s t],.agg #[.string a,.int .i64 b,.slice c d e,.string f,.string g,.int .i64 i,.int .i64 j],.slice u v x] y fun D E=>∃z,D= .string z/\(Pure P 96 #[.agg #[.string a,.int .i64 b,.slice c d e,.string f,.string g,.int .i64 i,.int .i64 j],.string z] E fun G H=>∃A,G= .string A/\(Pure P 95 #[.string A] H fun I J=>∃C,I= .int .i64 C/\(R (.bool (decide (C≠0))) J)))))):
  Pure P 94 #[.agg #[.slice l m n,.slice o p q,.slice r s t],.agg #[.string a,.int .i64 b,.slice c d e,.string f,.string g,.int .i64 i,.int .i64 j],.slice u v x] w R:=
 pure_of_run (stowage_broken_c1.cx w w.heap.size R) 100000 follows Tryz.func94 rfl rfl rfl rfl rfl rfl rfl (Eq.mp (by kernel_rfl) h)

noncomputable def stowage_sign.cx(w:World)(B:Nat)(R:Value->World->Prop):Cx:=⟨Tryz.prog,95,5,Tryz.f95.results.toList,[],[],w,B,R⟩
theorem stowage_sign.vc(a:ByteArray)(w:World)(R:Value->World->Prop)
  (h:(Pure P 127 #[.string a,(.string ⟨#[48]⟩)] w fun c d=>∃b,c= .int .i64 b/\(R (.int .i64 b) d))):
  Pure P 95 #[.string a] w R:=
 pure_of_run (stowage_sign.cx w w.heap.size R) 100000 follows Tryz.func95 rfl rfl rfl rfl rfl rfl rfl (Eq.mp (by kernel_rfl) h)

noncomputable def stowage_excess.cx(w:World)(B:Nat)(R:Value->World->Prop):Cx:=⟨Tryz.prog,96,33,Tryz.f96.results.toList,[],[],w,B,R⟩
theorem stowage_excess.vc(r:ByteArray)(s:Int)(t:Option Addr)(u v:Nat)(a c:ByteArray)(x y:Int)(b:ByteArray)(w:World)(R:Value->World->Prop)
  (h:(((c≠(⟨#[]⟩:ByteArray))->(∀i,Ext w.heap.size [] w i->(Pure P 127 #[.string b,.string c] i fun z d=>∃e,z= .int .i64 e/\(((e>0)->(Pure P 128 #[.string b,.string c] d fun A C=>∃j,A= .string j/\(R (.string j) C)))/\(¬(e>0)->(((a≠(⟨#[]⟩:ByteArray))->(Pure P 127 #[.string b,.string a] d fun D l=>∃f,D= .int .i64 f/\(((f<0)->(Pure P 128 #[.string b,.string a] l fun E G=>∃m,E= .string m/\(R (.string m) G)))/\(¬(f<0)->(R (.string ⟨#[48]⟩) l)))))/\(¬(a≠(⟨#[]⟩:ByteArray))->(R (.string ⟨#[48]⟩) d))))))))/\(¬(c≠(⟨#[]⟩:ByteArray))->(((a≠(⟨#[]⟩:ByteArray))->(∀n,Ext w.heap.size [] w n->(Pure P 127 #[.string b,.string a] n fun H o=>∃g,H= .int .i64 g/\(((g<0)->(Pure P 128 #[.string b,.string a] o fun I J=>∃p,I= .string p/\(R (.string p) J)))/\(¬(g<0)->(R (.string ⟨#[48]⟩) o))))))/\(¬(a≠(⟨#[]⟩:ByteArray))->(∀q,Ext w.heap.size [] w q->(R (.string ⟨#[48]⟩) q))))))):
  Pure P 96 #[.agg #[.string r,.int .i64 s,.slice t u v,.string a,.string c,.int .i64 x,.int .i64 y],.string b] w R:=
 pure_of_run (stowage_excess.cx w w.heap.size R) 100000 follows Tryz.func96 rfl rfl rfl rfl rfl rfl rfl (Eq.mp (by kernel_rfl) h)

def stowage_sum.L3(a:Option Addr)(b c:Nat)(d:ByteArray)(e:Option Addr)(f g:Nat)(i j:Int)(l:Option Addr)(m n:Nat)(o:Option Addr)(p q:Nat)(r:Option Addr)(s t:Nat)(u:ByteArray)(v:Int)(x:Option Addr)(y z:Nat)(A C:ByteArray)(D E:Int)(B:Nat)(w:World)(R:Value->World->Prop):Prop:=At Tryz.prog 97 42 (loopAt Tryz.f97 3) [(2,.v (.slice a b c)),(3,.loc 3 0),(4,.loc 4 0),(7,.v (.string d)),(14,.v (.slice e f g)),(15,.v (.int .i64 i)),(16,.v (.int .i64 j))] [⟨3,false,28,[(.slice l m n),(.slice o p q),(.slice r s t)]⟩,⟨4,false,87,[(.string u),(.int .i64 v),(.slice x y z),(.string A),(.string C),(.int .i64 D),(.int .i64 E)]⟩] B w R
noncomputable def stowage_sum.cx(w:World)(B:Nat)(R:Value->World->Prop):Cx:=⟨Tryz.prog,97,42,Tryz.f97.results.toList,[((true,3),[2,3,4,7,14,15,16],[3,4])],[(6,9999,3)],w,B,R⟩
theorem stowage_sum.L3.step(c:Option Addr)(d e:Nat)(f:ByteArray)(g:Option Addr)(i t:Nat)(b a:Int)(j:Option Addr)(l m:Nat)(n:Option Addr)(o p:Nat)(u:Option Addr)(v x:Nat)(y:ByteArray)(z:Int)(q:Option Addr)(r A:Nat)(C D:ByteArray)(E G:Int)(B:Nat)(w:World)(R:Value->World->Prop)
  (h:(((a<b)->((0<=a/\a<i)/\∃H,g=some H/\(∃I S T U V X Y,CellsAt w (H.add ((a).toNat*7)) [.int .i64 I,.string S,.string T,.string U,.string V,.string X,.string Y]/\(∀J,Ext B [] w J->(Pure P 129 #[.agg #[.slice j l m,.slice n o p],.slice c d e,.int .i64 I] J fun Z a0=>∃K a1 a2 a3 a4 a5 a6,Z= .tuple #[.agg #[.string K,.string a1,.string a2,.string a3,.string a4,.string a5],.int .i64 a6]/\(∀s,Ext B [] a0 s->((0<=a/\a<r)/\∃L,q=some L/\(∃M,CellsAt s (L.add ((a).toNat*1)) [.string M]/\(∀N,Ext B [] s N->(Pure P 131 #[.string M,.string K] N fun a7 a8=>∃O,a7= .string O/\(Pure P 130 #[.string f,.string O] a8 fun a9 b0=>∃Q,a9= .string Q/\(inR .i64 (a+1)/\(stowage_sum.L3 c d e Q g i t b (a+1) j l m n o p u v x y z q r A C D E G B b0 R)))))))))))))/\(¬(a<b)->(R (.string f) w)))):
  stowage_sum.L3 c d e f g i t b a j l m n o p u v x y z q r A C D E G B w R:=
 loop_of_run (stowage_sum.cx w B R) 100000 (loopAt Tryz.f97 3) _ _ follows Tryz.func97 rfl rfl rfl (Eq.mp (by kernel_rfl) h)
theorem stowage_sum.vc(d:Option Addr)(e f:Nat)(b:Option Addr)(a c:Nat)(g:Option Addr)(i j:Nat)(l:ByteArray)(m:Int)(n:Option Addr)(o p:Nat)(q r:ByteArray)(s t:Int)(u:Option Addr)(v x:Nat)(w:World)(R:Value->World->Prop)
  (h:(∀y,Ext w.heap.size [] w y->(stowage_sum.L3 u v x (⟨#[48]⟩:ByteArray) b a c (a:Int) (0:Int) d e f b a c g i j l m n o p q r s t w.heap.size y R))):
  Pure P 97 #[.agg #[.slice d e f,.slice b a c,.slice g i j],.agg #[.string l,.int .i64 m,.slice n o p,.string q,.string r,.int .i64 s,.int .i64 t],.slice u v x] w R:=
 pure_of_run (stowage_sum.cx w w.heap.size R) 100000 follows Tryz.func97 rfl rfl rfl rfl rfl rfl rfl (Eq.mp (by kernel_rfl) h)

def stowage_apart.L2(a:Option Addr)(b c:Nat)(d:Option Addr)(e f:Nat)(g i:Int)(j:Option Addr)(l m:Nat)(n:Option Addr)(o p:Nat)(q:Option Addr)(r s:Nat)(t:ByteArray)(u:Int)(v:Option Addr)(x y:Nat)(z A:ByteArray)(C D:Int)(B:Nat)(w:World)(R:Value->World->Prop):Prop:=At Tryz.prog 98 48 (loopAt Tryz.f98 2) [(2,.v (.slice a b c)),(3,.loc 3 0),(4,.loc 4 0),(11,.v (.slice d e f)),(12,.v (.int .i64 g)),(13,.v (.int .i64 i))] [⟨3,false,28,[(.slice j l m),(.slice n o p),(.slice q r s)]⟩,⟨4,false,87,[(.string t),(.int .i64 u),(.slice v x y),(.string z),(.string A),(.int .i64 C),(.int .i64 D)]⟩] B w R
def stowage_apart.L5(a:Option Addr)(b c:Nat)(d:Option Addr)(e f:Nat)(g i:Int)(j:Option Addr)(l m:Nat)(n o:Int)(p:Option Addr)(q r:Nat)(s:Option Addr)(t u:Nat)(v:Option Addr)(x y:Nat)(z:ByteArray)(A:Int)(C:Option Addr)(D E:Nat)(G H:ByteArray)(I J K L M:Int)(B:Nat)(w:World)(R:Value->World->Prop):Prop:=At Tryz.prog 98 48 (loopAt Tryz.f98 5) [(2,.v (.slice a b c)),(3,.loc 3 0),(4,.loc 4 0),(8,.loc 8 0),(11,.v (.slice d e f)),(12,.v (.int .i64 g)),(13,.v (.int .i64 i)),(17,.v (.slice j l m)),(18,.v (.int .i64 n)),(19,.v (.int .i64 o))] [⟨3,false,28,[(.slice p q r),(.slice s t u),(.slice v x y)]⟩,⟨4,false,87,[(.string z),(.int .i64 A),(.slice C D E),(.string G),(.string H),(.int .i64 I),(.int .i64 J)]⟩,⟨8,false,39,[(.int .i64 K),(.int .i64 L),(.int .i64 M)]⟩] B w R
noncomputable def stowage_apart.cx(w:World)(B:Nat)(R:Value->World->Prop):Cx:=⟨Tryz.prog,98,48,Tryz.f98.results.toList,[((true,2),[2,3,4,11,12,13],[3,4]),((true,5),[2,3,4,8,11,12,13,17,18,19],[3,4,8])],[],w,B,R⟩
theorem stowage_apart.L2.step(d:Option Addr)(b e:Nat)(f:Option Addr)(g i:Nat)(c a:Int)(j:Option Addr)(l m:Nat)(n:Option Addr)(o p:Nat)(q:Option Addr)(r s:Nat)(t:ByteArray)(u:Int)(v:Option Addr)(x y:Nat)(z A:ByteArray)(C D:Int)(B:Nat)(w:World)(R:Value->World->Prop)
  (h:(((a<c)->((0<=a/\a<g)/\∃E,f=some E/\(∃G H I,CellsAt w (E.add ((a).toNat*3)) [.int .i64 G,.int .i64 H,.int .i64 I]/\(∀J,Ext B [] w J->(stowage_apart.L5 d b e f g i c a d b e (b:Int) (0:Int) j l m n o p q r s t u v x y z A C D G H I B J R)))))/\(¬(a<c)->(R (.bool false) w)))):
  stowage_apart.L2 d b e f g i c a j l m n o p q r s t u v x y z A C D B w R:=
 loop_of_run (stowage_apart.cx w B R) 100000 (loopAt Tryz.f98 2) _ _ follows Tryz.func98 rfl rfl rfl (Eq.mp (by kernel_rfl) h)
theorem stowage_apart.L5.step(r:Option Addr)(s t:Nat)(u:Option Addr)(v x:Nat)(y o:Int)(z:Option Addr)(A L:Nat)(p a:Int)(b:Option Addr)(c d:Nat)(e:Option Addr)(f g:Nat)(i:Option Addr)(j l:Nat)(C:ByteArray)(D:Int)(E:Option Addr)(G H:Nat)(I J:ByteArray)(m n q K M:Int)(B:Nat)(w:World)(R:Value->World->Prop)
  (h:(((a<p)->((0<=a/\a<A)/\∃S,z=some S/\(∃N T Z,CellsAt w (S.add ((a).toNat*3)) [.int .i64 N,.int .i64 T,.int .i64 Z]/\(((q=N)->(∀U,Ext B [] w U->(Pure P 132 #[.agg #[.slice b c d,.slice e f g,.slice i j l],.int .i64 K] U fun a0 V=>∃O,a0= .int .i64 O/\(((O=m)->(Pure P 132 #[.agg #[.slice b c d,.slice e f g,.slice i j l],.int .i64 T] V fun a1 X=>∃Q,a1= .int .i64 Q/\(((Q=n)->(R (.bool true) X))/\(¬(Q=n)->(inR .i64 (a+1)/\(stowage_apart.L5 r s t u v x y o z A L p (a+1) b c d e f g i j l C D E G H I J m n q K M B X R))))))/\(¬(O=m)->(inR .i64 (a+1)/\(stowage_apart.L5 r s t u v x y o z A L p (a+1) b c d e f g i j l C D E G H I J m n q K M B V R)))))))/\(¬(q=N)->(inR .i64 (a+1)/\(∀Y,Ext B [] w Y->(stowage_apart.L5 r s t u v x y o z A L p (a+1) b c d e f g i j l C D E G H I J m n q K M B Y R))))))))/\(¬(a<p)->(inR .i64 (o+1)/\(stowage_apart.L2 r s t u v x y (o+1) b c d e f g i j l C D E G H I J m n B w R))))):
  stowage_apart.L5 r s t u v x y o z A L p a b c d e f g i j l C D E G H I J m n q K M B w R:=
 loop_of_run (stowage_apart.cx w B R) 100000 (loopAt Tryz.f98 5) _ _ follows Tryz.func98 rfl rfl rfl (Eq.mp (by kernel_rfl) h)
theorem stowage_apart.vc(d:Option Addr)(e f:Nat)(g:Option Addr)(i j:Nat)(l:Option Addr)(m n:Nat)(o:ByteArray)(p:Int)(q:Option Addr)(r s:Nat)(t u:ByteArray)(v x:Int)(b:Option Addr)(a c:Nat)(w:World)(R:Value->World->Prop)
  (h:(∀y,Ext w.heap.size [] w y->(stowage_apart.L2 b a c b a c (a:Int) (0:Int) d e f g i j l m n o p q r s t u v x w.heap.size y R))):
  Pure P 98 #[.agg #[.slice d e f,.slice g i j,.slice l m n],.agg #[.string o,.int .i64 p,.slice q r s,.string t,.string u,.int .i64 v,.int .i64 x],.slice b a c] w R:=
 pure_of_run (stowage_apart.cx w w.heap.size R) 100000 follows Tryz.func98 rfl rfl rfl rfl rfl rfl rfl (Eq.mp (by kernel_rfl) h)

noncomputable def stowage_never.cx(w:World)(B:Nat)(R:Value->World->Prop):Cx:=⟨Tryz.prog,99,10,Tryz.f99.results.toList,[],[(1,1,5)],w,B,R⟩
theorem stowage_never.vc(d:Option Addr)(e f:Nat)(g:Option Addr)(i j:Nat)(l:Option Addr)(m n:Nat)(o:ByteArray)(p:Int)(q:Option Addr)(r s:Nat)(t u:ByteArray)(v x:Int)(y:Option Addr)(z A:Nat)(w:World)(R:Value->World->Prop)
  (h:(∀a,Ext w.heap.size [] w a->(∀b:Nat,w.heap.size<=b->a.heap[b]? =some (.cells [.slice d e f,.slice g i j,.slice l m n].toArray 28 (0,0))->(∀c:Nat,w.heap.size<=c->a.heap[c]? =some (.cells [.string o,.int .i64 p,.slice q r s,.string t,.string u,.int .i64 v,.int .i64 x].toArray 87 (0,0))->(Pure P 133 #[.slice y z A,(.func (.func 134) #[] #[(.pointer (some (⟨c,0,none⟩:Addr))),(.pointer (some (⟨b,0,none⟩:Addr)))])] a fun D E=>∃C,D= .bool C/\(R (.bool C) E)))))):
  Pure P 99 #[.agg #[.slice d e f,.slice g i j,.slice l m n],.agg #[.string o,.int .i64 p,.slice q r s,.string t,.string u,.int .i64 v,.int .i64 x],.slice y z A] w R:=
 pure_of_run (stowage_never.cx w w.heap.size R) 100000 follows Tryz.func99 rfl rfl rfl rfl rfl rfl rfl (Eq.mp (by kernel_rfl) h)

def stowage_whole.L4(a:Addr)(b:Int)(c:Option Addr)(d e:Nat)(f g:Int)(B:Nat)(w:World)(R:Value->World->Prop):Prop:=At Tryz.prog 100 41 (loopAt Tryz.f100 4) [(4,.v (.pointer (some a))),(8,.v (.int .i64 b)),(23,.v (.slice c d e)),(24,.v (.int .i64 f)),(25,.v (.int .i64 g))] [] B w R
noncomputable def stowage_whole.cx(w:World)(B:Nat)(R:Value->World->Prop):Cx:=⟨Tryz.prog,100,41,Tryz.f100.results.toList,[((true,4),[4,8,23,24,25],[])],[(1,3,5)],w,B,R⟩
theorem stowage_whole.L4.step(d:Addr)(b:Int)(e:Option Addr)(f i:Nat)(c a:Int)(B:Nat)(w:World)(R:Value->World->Prop)
  (h:(((a<c)->((0<=a/\a<f)/\∃n,e=some n/\(∃o j l,CellsAt w (n.add ((a).toNat*3)) [.int .i64 o,.int .i64 j,.int .i64 l]/\(∀g,Ext B [] w g->(∃m,CellsAt g (d.add 5) [.int .i64 m]/\(((j=m)->(inR .i64 (b - l)/\(inR .i64 (a+1)/\(stowage_whole.L4 d (b - l) e f i c (a+1) B g R))))/\(¬(j=m)->(inR .i64 (a+1)/\(stowage_whole.L4 d b e f i c (a+1) B g R)))))))))/\(¬(a<c)->(R (.bool (decide (b>0))) w)))):
  stowage_whole.L4 d b e f i c a B w R:=
 loop_of_run (stowage_whole.cx w B R) 100000 (loopAt Tryz.f100 4) _ _ follows Tryz.func100 rfl rfl rfl (Eq.mp (by kernel_rfl) h)
theorem stowage_whole.vc(c:Option Addr)(d g:Nat)(y:Option Addr)(z A:Nat)(C:Option Addr)(D E:Nat)(i:ByteArray)(j:Int)(l:Option Addr)(m n:Nat)(o p:ByteArray)(q r:Int)(s:Option Addr)(e t:Nat)(w:World)(R:Value->World->Prop)
  (h:(∀f,Ext w.heap.size [] w f->(∀a:Nat,w.heap.size<=a->f.heap[a]? =some (.cells [.string i,.int .i64 j,.slice l m n,.string o,.string p,.int .i64 q,.int .i64 r].toArray 87 (0,0))->(Pure P 111 #[.slice c d g,(.func (.func 135) #[] #[(.pointer (some (⟨a,0,none⟩:Addr)))])] f fun G u=>∃b,G= .int .i64 b/\((0<=b/\b<d)/\∃v,c=some v/\(∃x,CellsAt u ((v.add ((b).toNat*7)).add 1) [.int .i64 x]/\(stowage_whole.L4 (⟨a,0,none⟩:Addr) x s e t (e:Int) (0:Int) w.heap.size u R))))))):
  Pure P 100 #[.agg #[.slice c d g,.slice y z A,.slice C D E],.agg #[.string i,.int .i64 j,.slice l m n,.string o,.string p,.int .i64 q,.int .i64 r],.slice s e t] w R:=
 pure_of_run (stowage_whole.cx w w.heap.size R) 100000 follows Tryz.func100 rfl rfl rfl rfl rfl rfl rfl (Eq.mp (by kernel_rfl) h)

noncomputable def stowage_fault.cx(w:World)(B:Nat)(R:Value->World->Prop):Cx:=⟨Tryz.prog,110,114,Tryz.f110.results.toList,[],[(6,4,5)],w,B,R⟩
theorem stowage_fault.vc(Q:Option Addr)(S T:Nat)(U:Option Addr)(f V:Nat)(g:Option Addr)(j i:Nat)(c:Int)(w:World)(R:Value->World->Prop)
  (h:((0<=c/\c<j)/\∃X,g=some X/\(∀l,Ext w.heap.size [] w l->(∃d Y m n o p q Z i9,CellsAt l (X.add ((c).toNat*7)) [.string d,.int .i64 Y,.slice m n o,.string p,.string q,.int .i64 Z,.int .i64 i9]/\(∀a1,Ext w.heap.size [] l a1->(Pure P 148 #[.slice m n o,(.func (.func 149) #[] #[])] a1 fun c0 a2=>∃r,c0= .bool r/\((r=true->(R (.int .i64 1) a2))/\(r=false->(Pure P 151 #[.string p] a2 fun c1 a3=>∃s,c1= .bool s/\(((s=false)->(R (.int .i64 1) a3))/\(¬(s=false)->(Pure P 151 #[.string q] a3 fun c2 e=>∃t,c2= .bool t/\(((t=false)->(R (.int .i64 1) e))/\(¬(t=false)->(((((ByteArray.size d:Int):Int)<1)->(R (.int .i64 4) e))/\(¬(((ByteArray.size d:Int):Int)<1)->(((((ByteArray.size d:Int):Int)>64)->(R (.int .i64 4) e))/\(¬(((ByteArray.size d:Int):Int)>64)->((0<=c/\c<=(i:Int))/\(∀b:Nat,w.heap.size<=b->e.heap[b]? =some (.cells [.string d,.int .i64 Y,.slice m n o,.string p,.string q,.int .i64 Z,.int .i64 i9].toArray 87 (0,0))->(Pure P 152 #[(.slice g ((c).toNat) i),(.func (.func 153) #[] #[(.pointer (some (⟨b,0,none⟩:Addr)))])] e fun c3 a=>∃u,c3= .bool u/\((u=true->(R (.int .i64 6) a))/\(u=false->(∃v,CellsAt a ((⟨b,0,none⟩:Addr).add 1) [.int .i64 v]/\(((v<1)->(R (.int .i64 2) a))/\(¬(v<1)->(∃x,CellsAt a ((⟨b,0,none⟩:Addr).add 1) [.int .i64 x]/\(((x>4)->(R (.int .i64 2) a))/\(¬(x>4)->(∃y,CellsAt a ((⟨b,0,none⟩:Addr).add 1) [.int .i64 y]/\(((y=1)->(∃c4 z c5,CellsAt a ((⟨b,0,none⟩:Addr).add 2) [.slice c4 z c5]/\((((z:Int)≠(f:Int))->(R (.int .i64 10) a))/\(¬((z:Int)≠(f:Int))->(∃A,CellsAt a ((⟨b,0,none⟩:Addr).add 5) [.int .i64 A]/\(((A≠0)->(R (.int .i64 10) a))/\(¬(A≠0)->(∃C,CellsAt a ((⟨b,0,none⟩:Addr).add 6) [.int .i64 C]/\(((C≠0)->(R (.int .i64 10) a))/\(¬(C≠0)->(∃D,CellsAt a ((⟨b,0,none⟩:Addr).add 3) [.string D]/\(((D=(⟨#[]⟩:ByteArray))->(∃E,CellsAt a ((⟨b,0,none⟩:Addr).add 4) [.string E]/\(((E=(⟨#[]⟩:ByteArray))->(R (.int .i64 2) a))/\(¬(E=(⟨#[]⟩:ByteArray))->(∃G,CellsAt a ((⟨b,0,none⟩:Addr).add 3) [.string G]/\(((G≠(⟨#[]⟩:ByteArray))->(∃H,CellsAt a ((⟨b,0,none⟩:Addr).add 4) [.string H]/\(((H≠(⟨#[]⟩:ByteArray))->(∃a4,CellsAt a ((⟨b,0,none⟩:Addr).add 3) [.string a4]/\(∃a5,CellsAt a ((⟨b,0,none⟩:Addr).add 4) [.string a5]/\(Pure P 127 #[.string a4,.string a5] a fun c6 a6=>∃I,c6= .int .i64 I/\(((I>0)->(R (.int .i64 2) a6))/\(¬(I>0)->(R (.int .i64 0) a6)))))))/\(¬(H≠(⟨#[]⟩:ByteArray))->(R (.int .i64 0) a)))))/\(¬(G≠(⟨#[]⟩:ByteArray))->(R (.int .i64 0) a))))))))/\(¬(D=(⟨#[]⟩:ByteArray))->(∃J,CellsAt a ((⟨b,0,none⟩:Addr).add 3) [.string J]/\(((J≠(⟨#[]⟩:ByteArray))->(∃K,CellsAt a ((⟨b,0,none⟩:Addr).add 4) [.string K]/\(((K≠(⟨#[]⟩:ByteArray))->(∃a7,CellsAt a ((⟨b,0,none⟩:Addr).add 3) [.string a7]/\(∃a8,CellsAt a ((⟨b,0,none⟩:Addr).add 4) [.string a8]/\(Pure P 127 #[.string a7,.string a8] a fun c7 a9=>∃L,c7= .int .i64 L/\(((L>0)->(R (.int .i64 2) a9))/\(¬(L>0)->(R (.int .i64 0) a9)))))))/\(¬(K≠(⟨#[]⟩:ByteArray))->(R (.int .i64 0) a)))))/\(¬(J≠(⟨#[]⟩:ByteArray))->(R (.int .i64 0) a)))))))))))))))))/\(¬(y=1)->(∃c8 M c9,CellsAt a ((⟨b,0,none⟩:Addr).add 2) [.slice c8 M c9]/\((((M:Int)>0)->(R (.int .i64 10) a))/\(¬((M:Int)>0)->(∃N,CellsAt a ((⟨b,0,none⟩:Addr).add 3) [.string N]/\(((N≠(⟨#[]⟩:ByteArray))->(R (.int .i64 10) a))/\(¬(N≠(⟨#[]⟩:ByteArray))->(∃O,CellsAt a ((⟨b,0,none⟩:Addr).add 4) [.string O]/\(((O≠(⟨#[]⟩:ByteArray))->(R (.int .i64 10) a))/\(¬(O≠(⟨#[]⟩:ByteArray))->(∃b0 b1 b2 b3 b4 b5 b6 b7 b8,CellsAt a (⟨b,0,none⟩:Addr) [.string b0,.int .i64 b1,.slice b2 b3 b4,.string b5,.string b6,.int .i64 b7,.int .i64 b8]/\(Pure P 154 #[.agg #[.slice Q S T,.slice U f V,.slice g j i],.agg #[.string b0,.int .i64 b1,.slice b2 b3 b4,.string b5,.string b6,.int .i64 b7,.int .i64 b8]] a fun d0 d1=>∃b9,d0= .int .i64 b9/\(R (.int .i64 b9) d1)))))))))))))))))))))))))))))))))))))))))))):
  Pure P 110 #[.agg #[.slice Q S T,.slice U f V,.slice g j i],.int .i64 c] w R:=
 pure_of_run (stowage_fault.cx w w.heap.size R) 100000 follows Tryz.func110 rfl rfl rfl rfl rfl rfl rfl (Eq.mp (by kernel_rfl) h)

noncomputable def stowage_compare.cx(w:World)(B:Nat)(R:Value->World->Prop):Cx:=⟨Tryz.prog,127,14,Tryz.f127.results.toList,[],[],w,B,R⟩
theorem stowage_compare.vc(a b:ByteArray)(w:World)(R:Value->World->Prop)
  (h:(Pure P 141 #[.string a,.string b] w fun d e=>∃c f,d= .tuple #[.int .i64 c,.int .i64 f]/\(R (.int .i64 c) e))):
  Pure P 127 #[.string a,.string b] w R:=
 pure_of_run (stowage_compare.cx w w.heap.size R) 100000 follows Tryz.func127 rfl rfl rfl rfl rfl rfl rfl (Eq.mp (by kernel_rfl) h)

noncomputable def stowage_sub.cx(w:World)(B:Nat)(R:Value->World->Prop):Cx:=⟨Tryz.prog,128,14,Tryz.f128.results.toList,[],[],w,B,R⟩
theorem stowage_sub.vc(a b:ByteArray)(w:World)(R:Value->World->Prop)
  (h:(Pure P 164 #[.string a,.string b] w fun d e=>∃c f,d= .tuple #[.string c,.int .i64 f]/\(R (.string c) e))):
  Pure P 128 #[.string a,.string b] w R:=
 pure_of_run (stowage_sub.cx w w.heap.size R) 100000 follows Tryz.func128 rfl rfl rfl rfl rfl rfl rfl (Eq.mp (by kernel_rfl) h)

noncomputable def stowage_add.cx(w:World)(B:Nat)(R:Value->World->Prop):Cx:=⟨Tryz.prog,130,14,Tryz.f130.results.toList,[],[],w,B,R⟩
theorem stowage_add.vc(a b:ByteArray)(w:World)(R:Value->World->Prop)
  (h:(Pure P 165 #[.string a,.string b] w fun d e=>∃c f,d= .tuple #[.string c,.int .i64 f]/\(R (.string c) e))):
  Pure P 130 #[.string a,.string b] w R:=
 pure_of_run (stowage_add.cx w w.heap.size R) 100000 follows Tryz.func130 rfl rfl rfl rfl rfl rfl rfl (Eq.mp (by kernel_rfl) h)

noncomputable def stowage_mul.cx(w:World)(B:Nat)(R:Value->World->Prop):Cx:=⟨Tryz.prog,131,14,Tryz.f131.results.toList,[],[],w,B,R⟩
theorem stowage_mul.vc(a b:ByteArray)(w:World)(R:Value->World->Prop)
  (h:(Pure P 166 #[.string a,.string b] w fun d e=>∃c f,d= .tuple #[.string c,.int .i64 f]/\(R (.string c) e))):
  Pure P 131 #[.string a,.string b] w R:=
 pure_of_run (stowage_mul.cx w w.heap.size R) 100000 follows Tryz.func131 rfl rfl rfl rfl rfl rfl rfl (Eq.mp (by kernel_rfl) h)

noncomputable def stowage_class.cx(w:World)(B:Nat)(R:Value->World->Prop):Cx:=⟨Tryz.prog,132,18,Tryz.f132.results.toList,[],[(1,3,5)],w,B,R⟩
theorem stowage_class.vc(b:Option Addr)(c f:Nat)(m:Option Addr)(n o:Nat)(p:Option Addr)(q r:Nat)(g:Int)(w:World)(R:Value->World->Prop)
  (h:(∀d,Ext w.heap.size [] w d->(∀e:Nat,w.heap.size<=e->d.heap[e]? =some (.cells [.int .i64 g].toArray 3 (0,0))->(Pure P 111 #[.slice b c f,(.func (.func 167) #[] #[(.pointer (some (⟨e,0,none⟩:Addr)))])] d fun s i=>∃a,s= .int .i64 a/\((0<=a/\a<c)/\∃j,b=some j/\(∃l,CellsAt i ((j.add ((a).toNat*7)).add 2) [.int .i64 l]/\(R (.int .i64 l) i))))))):
  Pure P 132 #[.agg #[.slice b c f,.slice m n o,.slice p q r],.int .i64 g] w R:=
 pure_of_run (stowage_class.cx w w.heap.size R) 100000 follows Tryz.func132 rfl rfl rfl rfl rfl rfl rfl (Eq.mp (by kernel_rfl) h)

noncomputable def stowage_never_c1.cx(w:World)(B:Nat)(R:Value->World->Prop):Cx:=⟨Tryz.prog,134,19,Tryz.f134.results.toList,[],[(1,9999,3)],w,B,R⟩
theorem stowage_never_c1.vc(b e v:Int)(c:Addr)(f:Addr)(w:World)(R:Value->World->Prop)
  (h:(∀a,Ext w.heap.size [] w a->(∃d,CellsAt a (c.add 6) [.int .i64 d]/\(((b=d)->(∃g i j l m n o p q,CellsAt a f [.slice g i j,.slice l m n,.slice o p q]/\(∃r,CellsAt a (c.add 5) [.int .i64 r]/\(∀s,Ext w.heap.size [] a s->(Pure P 132 #[.agg #[.slice g i j,.slice l m n,.slice o p q],.int .i64 e] s fun x y=>∃t,x= .int .i64 t/\(R (.bool (decide (t=r))) y))))))/\(¬(b=d)->(∀u,Ext w.heap.size [] a u->(R (.bool false) u))))))):
  Pure P 134 #[.agg #[.int .i64 b,.int .i64 e,.int .i64 v],(.pointer (some c)),(.pointer (some f))] w R:=
 pure_of_run (stowage_never_c1.cx w w.heap.size R) 100000 follows Tryz.func134 rfl rfl rfl rfl rfl rfl rfl (Eq.mp (by kernel_rfl) h)

noncomputable def stowage_whole_c1.cx(w:World)(B:Nat)(R:Value->World->Prop):Cx:=⟨Tryz.prog,135,9,Tryz.f135.results.toList,[],[],w,B,R⟩
theorem stowage_whole_c1.vc(b e f:Int)(g i j l:ByteArray)(c:Addr)(w:World)(R:Value->World->Prop)
  (h:(∀a,Ext w.heap.size [] w a->(∃d,CellsAt a (c.add 5) [.int .i64 d]/\(R (.bool (decide (b=d))) a)))):
  Pure P 135 #[.agg #[.int .i64 b,.int .i64 e,.int .i64 f,.string g,.string i,.string j,.string l],(.pointer (some c))] w R:=
 pure_of_run (stowage_whole_c1.cx w w.heap.size R) 100000 follows Tryz.func135 rfl rfl rfl rfl rfl rfl rfl (Eq.mp (by kernel_rfl) h)

noncomputable def stowage_fault_c1.cx(w:World)(B:Nat)(R:Value->World->Prop):Cx:=⟨Tryz.prog,149,6,Tryz.f149.results.toList,[],[],w,B,R⟩
theorem stowage_fault_c1.vc(a:ByteArray)(w:World)(R:Value->World->Prop)
  (h:(Pure P 150 #[.string a] w fun c d=>∃b,c= .bool b/\(R (.bool (decide (b=false))) d))):
  Pure P 149 #[.string a] w R:=
 pure_of_run (stowage_fault_c1.cx w w.heap.size R) 100000 follows Tryz.func149 rfl rfl rfl rfl rfl rfl rfl (Eq.mp (by kernel_rfl) h)

noncomputable def stowage_empty.cx(w:World)(B:Nat)(R:Value->World->Prop):Cx:=⟨Tryz.prog,151,9,Tryz.f151.results.toList,[],[],w,B,R⟩
theorem stowage_empty.vc(a:ByteArray)(w:World)(R:Value->World->Prop)
  (h:(((a=(⟨#[]⟩:ByteArray))->(R (.bool true) w))/\(¬(a=(⟨#[]⟩:ByteArray))->(Pure P 150 #[.string a] w fun c d=>∃b,c= .bool b/\(R (.bool b) d))))):
  Pure P 151 #[.string a] w R:=
 pure_of_run (stowage_empty.cx w w.heap.size R) 100000 follows Tryz.func151 rfl rfl rfl rfl rfl rfl rfl (Eq.mp (by kernel_rfl) h)

noncomputable def stowage_fault_c2.cx(w:World)(B:Nat)(R:Value->World->Prop):Cx:=⟨Tryz.prog,153,9,Tryz.f153.results.toList,[],[],w,B,R⟩
theorem stowage_fault_c2.vc(b:ByteArray)(e:Int)(f:Option Addr)(g i:Nat)(j l:ByteArray)(m n:Int)(c:Addr)(w:World)(R:Value->World->Prop)
  (h:(∀a,Ext w.heap.size [] w a->(∃d,CellsAt a (c.add 0) [.string d]/\(R (.bool (decide (b=d))) a)))):
  Pure P 153 #[.agg #[.string b,.int .i64 e,.slice f g i,.string j,.string l,.int .i64 m,.int .i64 n],(.pointer (some c))] w R:=
 pure_of_run (stowage_fault_c2.cx w w.heap.size R) 100000 follows Tryz.func153 rfl rfl rfl rfl rfl rfl rfl (Eq.mp (by kernel_rfl) h)

noncomputable def stowage_other.cx(w:World)(B:Nat)(R:Value->World->Prop):Cx:=⟨Tryz.prog,154,51,Tryz.f154.results.toList,[],[(5,3,5),(13,3,5)],w,B,R⟩
theorem stowage_other.vc(u:Option Addr)(v x:Nat)(y:Option Addr)(z A:Nat)(L:Option Addr)(M N:Nat)(d:ByteArray)(b:Int)(e:Option Addr)(f g:Nat)(i j:ByteArray)(c a:Int)(w:World)(R:Value->World->Prop)
  (h:(((b=2)->(((c≥a)->(∀C,Ext w.heap.size [] w C->(R (.int .i64 2) C)))/\(¬(c≥a)->(∀D,Ext w.heap.size [] w D->(Pure P 181 #[.int .i64 c] D fun O E=>∃l,O= .bool l/\(((l=false)->(R (.int .i64 2) E))/\(¬(l=false)->(Pure P 181 #[.int .i64 a] E fun Q G=>∃m,Q= .bool m/\(((m=false)->(R (.int .i64 2) G))/\(¬(m=false)->(R (.int .i64 0) G)))))))))))/\(¬(b=2)->(((b=3)->(∀H,Ext w.heap.size [] w H->(Pure P 181 #[.int .i64 c] H fun S n=>∃o,S= .bool o/\(((o=false)->(R (.int .i64 2) n))/\(¬(o=false)->(∀p:Nat,w.heap.size<=p->n.heap[p]? =some (.cells [.string d,.int .i64 b,.slice e f g,.string i,.string j,.int .i64 c,.int .i64 a].toArray 87 (0,0))->(Pure P 182 #[.slice y z A,(.func (.func 183) #[] #[(.pointer (some (⟨p,0,none⟩:Addr)))])] n fun T I=>∃q,T= .bool q/\(((q=false)->(R (.int .i64 7) I))/\(¬(q=false)->(R (.int .i64 0) I))))))))))/\(¬(b=3)->(((a≠0)->(∀J,Ext w.heap.size [] w J->(R (.int .i64 2) J)))/\(¬(a≠0)->(∀r,Ext w.heap.size [] w r->(∀s:Nat,w.heap.size<=s->r.heap[s]? =some (.cells [.string d,.int .i64 b,.slice e f g,.string i,.string j,.int .i64 c,.int .i64 a].toArray 87 (0,0))->(Pure P 184 #[.slice u v x,(.func (.func 185) #[] #[(.pointer (some (⟨s,0,none⟩:Addr)))])] r fun U K=>∃t,U= .bool t/\(((t=false)->(R (.int .i64 7) K))/\(¬(t=false)->(R (.int .i64 0) K))))))))))))):
  Pure P 154 #[.agg #[.slice u v x,.slice y z A,.slice L M N],.agg #[.string d,.int .i64 b,.slice e f g,.string i,.string j,.int .i64 c,.int .i64 a]] w R:=
 pure_of_run (stowage_other.cx w w.heap.size R) 100000 follows Tryz.func154 rfl rfl rfl rfl rfl rfl rfl (Eq.mp (by kernel_rfl) h)

noncomputable def stowage_class_c1.cx(w:World)(B:Nat)(R:Value->World->Prop):Cx:=⟨Tryz.prog,167,8,Tryz.f167.results.toList,[],[],w,B,R⟩
theorem stowage_class_c1.vc(b e f:Int)(g i j l:ByteArray)(c:Addr)(w:World)(R:Value->World->Prop)
  (h:(∀a,Ext w.heap.size [] w a->(∃d,CellsAt a c [.int .i64 d]/\(R (.bool (decide (b=d))) a)))):
  Pure P 167 #[.agg #[.int .i64 b,.int .i64 e,.int .i64 f,.string g,.string i,.string j,.string l],(.pointer (some c))] w R:=
 pure_of_run (stowage_class_c1.cx w w.heap.size R) 100000 follows Tryz.func167 rfl rfl rfl rfl rfl rfl rfl (Eq.mp (by kernel_rfl) h)

noncomputable def stowage_other_c1.cx(w:World)(B:Nat)(R:Value->World->Prop):Cx:=⟨Tryz.prog,181,9,Tryz.f181.results.toList,[],[],w,B,R⟩
theorem stowage_other_c1.vc(a:Int)(w:World)(R:Value->World->Prop)
  (h:(((a≥(1:Int))->(R (.bool (decide (a<=(9:Int)))) w))/\(¬(a≥(1:Int))->(R (.bool false) w)))):
  Pure P 181 #[.int .i64 a] w R:=
 pure_of_run (stowage_other_c1.cx w w.heap.size R) 100000 follows Tryz.func181 rfl rfl rfl rfl rfl rfl rfl (Eq.mp (by kernel_rfl) h)

noncomputable def stowage_other_c2.cx(w:World)(B:Nat)(R:Value->World->Prop):Cx:=⟨Tryz.prog,183,9,Tryz.f183.results.toList,[],[],w,B,R⟩
theorem stowage_other_c2.vc(b:Int)(e f g i j l:ByteArray)(c:Addr)(w:World)(R:Value->World->Prop)
  (h:(∀a,Ext w.heap.size [] w a->(∃d,CellsAt a (c.add 6) [.int .i64 d]/\(R (.bool (decide (b=d))) a)))):
  Pure P 183 #[.agg #[.int .i64 b,.string e,.string f,.string g,.string i,.string j,.string l],(.pointer (some c))] w R:=
 pure_of_run (stowage_other_c2.cx w w.heap.size R) 100000 follows Tryz.func183 rfl rfl rfl rfl rfl rfl rfl (Eq.mp (by kernel_rfl) h)

noncomputable def stowage_other_c3.cx(w:World)(B:Nat)(R:Value->World->Prop):Cx:=⟨Tryz.prog,185,9,Tryz.f185.results.toList,[],[],w,B,R⟩
theorem stowage_other_c3.vc(b e f:Int)(g i j l:ByteArray)(c:Addr)(w:World)(R:Value->World->Prop)
  (h:(∀a,Ext w.heap.size [] w a->(∃d,CellsAt a (c.add 5) [.int .i64 d]/\(R (.bool (decide (b=d))) a)))):
  Pure P 185 #[.agg #[.int .i64 b,.int .i64 e,.int .i64 f,.string g,.string i,.string j,.string l],(.pointer (some c))] w R:=
 pure_of_run (stowage_other_c3.cx w w.heap.size R) 100000 follows Tryz.func185 rfl rfl rfl rfl rfl rfl rfl (Eq.mp (by kernel_rfl) h)

end Go.Proofs.YtgfkeadgjkfomaaGreatDoor.F

namespace Go.Proofs.YtgfkeadgjkfomaaGreatDoor.B
open Go Go.RowKit Go.Proofs Go.Proofs.YtgfkeadgjkfomaaGreatDoor.Vc

theorem stow_add{w:World}{x y:Rat}(hg:Glob w)(hx:Big x)(hy:Big y):Pure Tryz.prog 130 #[.string (rS x),.string (rS y)] w fun v _=>v= .string (rS (x+y)):=by
 refine F.stowage_add.vc _ _ _ _ (Pure.mono (rational_Add hg hx hy) ?_)
 rintro v w2 _ rfl
 exact⟨_,_,rfl,rfl⟩
theorem stow_sub{w:World}{x y:Rat}(hg:Glob w)(hx:Big x)(hy:Big y):Pure Tryz.prog 128 #[.string (rS x),.string (rS y)] w fun v _=>v= .string (rS (x - y)):=by
 refine F.stowage_sub.vc _ _ _ _ (Pure.mono (rational_Sub hg hx hy) ?_)
 rintro v w2 _ rfl
 exact⟨_,_,rfl,rfl⟩
theorem stow_mul{w:World}{x y:Rat}(hg:Glob w)(hx:Big x)(hy:Big y):Pure Tryz.prog 131 #[.string (rS x),.string (rS y)] w fun v _=>v= .string (rS (x*y)):=by
 refine F.stowage_mul.vc _ _ _ _ (Pure.mono (rational_Mul hg hx hy) ?_)
 rintro v w2 _ rfl
 exact⟨_,_,rfl,rfl⟩
theorem stow_compare{w:World}{x y:Rat}(hg:Glob w)(hx:Big x)(hy:Big y):Pure Tryz.prog 127 #[.string (rS x),.string (rS y)] w fun v _=>v= .int .i64 (cmpR x y):=by
 refine F.stowage_compare.vc _ _ _ _ (Pure.mono (rational_Compare hg hx hy) ?_)
 rintro v w2 _ rfl
 exact⟨_,_,rfl,rfl⟩
theorem stow_sign{w:World}{x:Rat}(hg:Glob w)(h:Big x):Pure Tryz.prog 95 #[.string (rS x)] w fun v _=>v= .int .i64 (cmpR x 0):=by
 refine F.stowage_sign.vc _ _ _ ?_
 rw[s0]
 refine Pure.mono (stow_compare hg h (Sm.zero (by omega))) ?_
 rintro v w2 _ rfl
 exact⟨_,rfl,rfl⟩
theorem rat_Valid{w:World}(hg:Glob w){s:ByteArray}(hs:SmS s):Pure Tryz.prog 150 #[.string s] w fun v _=>v= .bool (vR s):=by
 refine Pure.mono (rational_Valid hg s (Nat.le_trans hs (by decide))) ?_
 rintro v w2 _ rfl
 unfold vR
 cases isRat (by_ s)<;>rfl
theorem nil_size{s:ByteArray}:s=⟨#[]⟩↔s.size=0:=by
 constructor
 ·rintro rfl;rfl
 ·intro h
  obtain⟨d⟩:=s
  have:d.size=0:=h
  rw[Array.eq_empty_of_size_eq_zero this]
theorem stow_empty{w:World}(hg:Glob w){s:ByteArray}(hs:SmS s):Pure Tryz.prog 151 #[.string s] w fun v _=>v= .bool (eV s):=by
 refine F.stowage_empty.vc _ _ _ ⟨fun h=> ?_,fun h=> ?_⟩
 ·unfold eV
  rw[decide_eq_true (nil_size.1 h)]
  rfl
 ·refine Pure.mono (rat_Valid hg hs) ?_
  rintro v w2 _ rfl
  refine⟨_,rfl,?_⟩
  unfold eV
  rw[decide_eq_false (fun k=>h (nil_size.2 k))]
  rfl
theorem eV_ne{s:ByteArray}(h:eV s=true)(h0:¬s.size=0):vR s=true:=by
 unfold eV at h
 rw[decide_eq_false h0]at h
 exact h

theorem index_rules{w0:World}{A:Option Addr}{n c:Nat}{l:List Rm}(hl:SlR w0 A 7 (l.map Rm.row))(hlen:l.length=n)(hn:n<2147483648){f:Nat}{a k:Array Value}(hcall:callable Tryz.prog f=true){p:Rm->Bool}
  (hf:∀w,Below w0.heap.size w0 w->∀x∈l,Pure Tryz.prog f (a.toList++([x.val]:List Value)++k.toList).toArray w fun v _=>v= .bool (p x)) {R:Value->World->Prop} {r:Int} (hR:∀w,Below w0.heap.size w0 w->R (.int .i64 r) w):
  ∀(d i:Nat)(w:World),n - i=d->i<=n->Below w0.heap.size w0 w->r=idxG p i (l.drop i)->F.slices_IndexFunc_api_Rule_api_Rule.L2 A n c f a k n i w0.heap.size w R:=by
 intro d
 induction d with
 |zero=>
  intro i w hd hi hw hr
  rw[List.drop_eq_nil_of_le (by omega)]at hr
  subst hr
  exact F.slices_IndexFunc_api_Rule_api_Rule.L2.step _ _ _ _ _ _ _ _ _ _ _ ⟨fun h=>by omega,fun _=>hR w hw⟩
 |succ d ih=>
  intro i w hd hi hw hr
  have hil:i<l.length:=by omega
  rw[List.drop_eq_getElem_cons hil,idxG]at hr
  obtain⟨hb,ad,hA,hcell,_⟩:=(hl.keep hw (Nat.le_refl _)).at_ (fun _=>rfl) hlen hil
  refine F.slices_IndexFunc_api_Rule_api_Rule.L2.step _ _ _ _ _ _ _ _ _ _ _ ⟨fun _=> ?_,fun h=>by omega⟩
  refine⟨hb,ad,hA,_,_,_,_,_,_,_,_,_,hcell,hcall,Pure.mono (hf w hw l[i] (List.getElem_mem _)) ?_⟩
  rintro v w2 b2 rfl
  refine⟨_,rfl,fun h=> ?_,fun h=>⟨by simp only[inR];omega,?_⟩⟩
  ·rw[if_pos h]at hr
   subst hr
   exact hR w2 (kP hw b2)
  ·rw[if_neg (by simp[h])]at hr
   have e3:(i:Int)+1=((i+1:Nat):Int):=by omega
   rw[e3]
   exact ih (i+1) w2 (by omega) (by omega) (kP hw b2) hr
theorem anyRules{w0:World}{A:Option Addr}{n c:Nat}{l:List Rm}(hl:SlR w0 A 7 (l.map Rm.row))(hlen:l.length=n)(hn:n<2147483648){f:Nat}{a k:Array Value}(hcall:callable Tryz.prog f=true){p:Rm->Bool}
  (hf:∀w,Below w0.heap.size w0 w->∀x∈l,Pure Tryz.prog f (a.toList++([x.val]:List Value)++k.toList).toArray w fun v _=>v= .bool (p x)):
  Pure Tryz.prog 152 #[.slice A n c,.func (.func f) a k] w0 fun v _=>v= .bool (l.any p):=by
 refine F.slices_ContainsFunc_api_Rule_api_Rule.vc _ _ _ _ _ _ _ _ (Pure.mono (F.slices_IndexFunc_api_Rule_api_Rule.vc _ _ _ _ _ _ _ _ (index_rules hl hlen hn hcall hf (R:=fun v _=>v= .int .i64 (idxG p 0 l)) (fun _ _=>rfl) n 0 w0 rfl (by omega) (Below.refl _ _) rfl)) ?_)
 rintro v w2 _ rfl
 exact⟨_,rfl,by rw[any_idx]⟩
theorem anyRats{w0:World}{A:Option Addr}{n c:Nat}{l:List ByteArray}(hl:SlR w0 A 1 (l.map sRow))(hlen:l.length=n)(hn:n<2147483648){f:Nat}{a k:Array Value}(hcall:callable Tryz.prog f=true){p:ByteArray->Bool}
  (hf:∀w,Below w0.heap.size w0 w->∀x∈l,Pure Tryz.prog f (a.toList++([.string x]:List Value)++k.toList).toArray w fun v _=>v= .bool (p x)):
  Pure Tryz.prog 148 #[.slice A n c,.func (.func f) a k] w0 fun v _=>v= .bool (l.any p):=by
 refine F.slices_ContainsFunc_api_Rat_api_Rat.vc _ _ _ _ _ _ _ _ (Pure.mono (F.slices_IndexFunc_api_Rat_api_Rat.vc _ _ _ _ _ _ _ _ (index_rats hl hlen hn hcall hf (R:=fun v _=>v= .int .i64 (idxG p 0 l)) (fun _=>rfl) n 0 w0 rfl (by omega) (Below.refl _ _) rfl)) ?_)
 rintro v w2 _ rfl
 exact⟨_,rfl,by rw[any_idx]⟩

theorem at_a{α:Type}{row:α->List Value}{sz:Nat}{w:World}{A:Option Addr}{n:Nat}{v:List α}{a:Addr}(h:SlR w A sz (v.map row))(hr:∀x,(row x).length=sz)(hl:v.length=n){i:Nat}(hi:i<v.length)(hA:A=some a):
  CellsAt w (a.add ((i:Int).toNat*sz)) (row v[i])/\∀k u,(row v[i])[k]? =some u->CellsAt w ((a.add ((i:Int).toNat*sz)).add k) [u]:=by
 obtain⟨_,a',hA',h1,h2⟩:=h.at_ hr hl hi
 rw[hA]at hA'
 cases hA'
 exact⟨h1,h2⟩
theorem ixI_ge{o:Option Nat}:(ixI o≥0)↔o≠none:=by cases o<;>simp[ixI]<;>omega
theorem class_v(n:Int)(w:World):Pure Tryz.prog 181 #[.int .i64 n] w fun v _=>v= .bool (decide (1<=n/\n<=9)):=by
 refine F.stowage_other_c1.vc _ _ _ ⟨fun h=> ?_,fun h=> ?_⟩
 ·refine congrArg Value.bool ?_
  rw[decide_eq_decide]
  omega
 ·refine congrArg Value.bool ?_
  exact(decide_eq_false (by omega)).symm

section
variable {w:World} {A0 A1 A2:Option Addr} {n0 c0 n1 c1 n2 c2:Nat} {ps:List Pa} {hs:List Ho} {xs:List Rm}
theorem stow_other(hp:PrIn w A0 n0 A1 n1 A2 n2 c2 ps hs xs)(x:Rm):
  Pure Tryz.prog 154 #[.agg #[.slice A0 n0 c0,.slice A1 n1 c1,.slice A2 n2 c2],x.val] w fun v _=>v= .int .i64
   (if x.r.kind=2 then(if ¬(x.r.a<x.r.b/\(1<=x.r.a/\x.r.a<=9)/\(1<=x.r.b/\x.r.b<=9))then 2 else 0)
   else if x.r.kind=3 then(if ¬(1<=x.r.a/\x.r.a<=9)then 2 else if hix hs x.r.b=none then 7 else 0)
   else if x.r.b≠0 then 2 else if pix ps x.r.a=none then 7 else 0):=by
 have hnh:=hp.c.nh
 have hnp:=hp.c.np
 refine F.stowage_other.vc _ _ _ _ _ _ _ _ _ _ _ _ _ _ _ _ _ _ _ _ ⟨fun k2=> ?_,fun k2=>⟨fun k3=> ?_,fun k3=> ?_⟩⟩
 ·rw[if_pos k2]
  refine⟨fun h w1 _=> ?_,fun h w2 _=> ?_⟩
  ·rw[if_pos (fun k=>absurd k.1 (by omega))]
  refine Pure.mono (class_v _ _) ?_
  rintro v w5 _ rfl
  refine⟨_,rfl,fun h1=> ?_,fun h1=> ?_⟩
  ·have h1:=of_decide_eq_false h1
   rw[if_pos (fun k=>h1 k.2.1)]
  have h1:=of_decide_eq_true (Bool.not_eq_false _|>.mp h1)
  refine Pure.mono (class_v _ _) ?_
  rintro v w8 _ rfl
  refine⟨_,rfl,fun h2=> ?_,fun h2=> ?_⟩
  ·have h2:=of_decide_eq_false h2
   rw[if_pos (fun k=>h2 k.2.2)]
  have h2:=of_decide_eq_true (Bool.not_eq_false _|>.mp h2)
  rw[if_neg (fun k=>k ⟨by omega,h1,h2⟩)]
 ·rw[if_neg k2,if_pos k3]
  intro w9 x9
  have hw:=k0 x9
  refine Pure.mono (class_v _ _) ?_
  rintro v w12 b12 rfl
  have hw:=kP hw b12
  refine⟨_,rfl,fun h1=> ?_,fun h1 p13 hp13 hb13=> ?_⟩
  ·rw[if_pos (of_decide_eq_false h1)]
  have h1:=of_decide_eq_true (Bool.not_eq_false _|>.mp h1)
  refine Pure.mono (F.slices_ContainsFunc_api_Hold_api_Hold.vc _ _ _ _ _ _ _ (fun v _=>v= .bool (decide (ixI (hix hs x.r.b)≥0))) (Pure.mono (IndexHo (p:=fun h=>decide (h.id=x.r.b)) (hp.c.keep hw).h hp.c.lh (by omega) (by kernel_rfl) fun w' hb y hy=> ?_) ?_)) ?_
  ·exact F.stowage_other_c2.vc _ _ _ _ _ _ _ _ _ _ fun w1 x1=>⟨_,box_cell (heap_keep (heap_keep hb13 hb) (k0 x1)) rfl,rfl⟩
  ·rintro v w2 _ rfl
   exact⟨_,rfl,rfl⟩
  ·rintro v w16 _ rfl
   refine⟨_,rfl,fun h2=> ?_,fun h2=> ?_⟩
   ·have h2:=of_decide_eq_false h2
    rw[if_neg (fun k=>k h1),if_pos (Decidable.not_not.1 fun k=>h2 (ixI_ge.2 k))]
   ·have h2:=of_decide_eq_true (Bool.not_eq_false _|>.mp h2)
    rw[if_neg (fun k=>k h1),if_neg (ixI_ge.1 h2)]
 ·rw[if_neg k2,if_neg k3]
  refine⟨fun h w1 _=>by rw[if_pos h],fun h w18 x18 p19 hp19 hb19=> ?_⟩
  have hw:=k0 x18
  rw[if_neg h]
  refine Pure.mono (F.slices_ContainsFunc_api_Parcel_api_Parcel.vc _ _ _ _ _ _ _ (fun v _=>v= .bool (decide (ixI (pix ps x.r.a)≥0))) (Pure.mono (IndexPa (p:=fun h=>decide (h.id=x.r.a)) (hp.c.keep hw).p hp.c.lp (by omega) (by kernel_rfl) fun w' hb y hy=> ?_) ?_)) ?_
  ·exact F.stowage_other_c3.vc _ _ _ _ _ _ _ _ _ _ fun w1 x1=>⟨_,box_cell (heap_keep (heap_keep hb19 hb) (k0 x1)) rfl,rfl⟩
  ·rintro v w2 _ rfl
   exact⟨_,rfl,rfl⟩
  ·rintro v w16 _ rfl
   refine⟨_,rfl,fun h2=> ?_,fun h2=> ?_⟩
   ·have h2:=of_decide_eq_false h2
    rw[if_pos (Decidable.not_not.1 fun k=>h2 (ixI_ge.2 k))]
   ·have h2:=of_decide_eq_true (Bool.not_eq_false _|>.mp h2)
    rw[if_neg (ixI_ge.1 h2)]
theorem ne_nil{s:ByteArray}:s≠⟨#[]⟩↔s.size≠0:=not_congr nil_size
theorem stow_fault(hg:Glob w)(hp:PrIn w A0 n0 A1 n1 A2 n2 c2 ps hs xs){i:Nat}(hi:i<xs.length):
  Pure Tryz.prog 110 #[.agg #[.slice A0 n0 c0,.slice A1 n1 c1,.slice A2 n2 c2],.int .i64 (i:Int)] w fun v _=>v= .int .i64 (faultR ps hs (rsOf (xs.take i)) xs[i].r):=by
 have hl:=hp.l
 have hn:=hp.n
 have hk:=hp.k
 have hlh:=hp.c.lh
 have hin:=hp.f _ (List.getElem_mem hi)
 have hlen:=hin.s.len
 have hxl:=hin.l
 obtain⟨hb,a,hA,_,_⟩:=hp.at_ hi
 unfold faultR
 refine F.stowage_fault.vc _ _ _ _ _ _ _ _ _ _ _ _ ⟨hb,a,hA,fun w2 x2=> ?_⟩
 have hw:=k0 x2
 refine⟨_,_,_,_,_,_,_,_,_,(at_a (hp.keep hw).r (fun _=>rfl) hl hi hA).1,fun w10 x10=> ?_⟩
 have hw:=kE hw x10
 refine Pure.mono (anyRats (p:=fun s=> !vR s) (hin.keep hw).f hin.l (by omega) (by kernel_rfl) fun w' hb s hs=> ?_) ?_
 ·refine F.stowage_fault_c1.vc _ _ _ (Pure.mono (rat_Valid (hg.next (kP hw hb)) (hin.s.fac s hs)) ?_)
  rintro v w2 _ rfl
  exact⟨_,rfl,by cases vR s<;>rfl⟩
 rintro v w13 b13 rfl
 have hw:=kP hw b13
 refine⟨_,rfl,fun h=> ?_,fun h=> ?_⟩
 ·rw[if_pos]
  rintro⟨k,_⟩
  obtain⟨s,hs,hv⟩:=List.any_eq_true.1 h
  rw[List.all_eq_true.1 k s hs]at hv
  cases hv
 have hall:xs[i].r.fac.all vR=true:=List.all_eq_true.2 fun s hs=>by
  have:=List.any_eq_false.1 h s hs
  simpa using this
 refine Pure.mono (stow_empty (hg.next hw) hin.s.low) ?_
 rintro v w16 b16 rfl
 have hw:=kP hw b16
 refine⟨_,rfl,fun h=> ?_,fun h=> ?_⟩
 ·rw[if_pos (fun k=>by rw[k.2.1]at h;cases h)]
 have hlow:=Bool.not_eq_false _|>.mp h
 refine Pure.mono (stow_empty (hg.next hw) hin.s.high) ?_
 rintro v w19 b19 rfl
 have hw:=kP hw b19
 refine⟨_,rfl,fun h=> ?_,fun h=> ?_⟩
 ·rw[if_pos (fun k=>by rw[k.2.2]at h;cases h)]
 have hhigh:=Bool.not_eq_false _|>.mp h
 rw[if_neg (fun k=>k ⟨hall,hlow,hhigh⟩)]
 refine⟨fun h=> ?_,fun h1=>⟨fun h=> ?_,fun h2=>⟨by omega,fun p20 hp20 hb20=> ?_⟩⟩⟩
 ·rw[if_pos (fun k=>by omega)]
 ·rw[if_pos (fun k=>by omega)]
 rw[if_neg (fun k=>k ⟨by omega,by omega⟩)]
 have e1:(i:Int).toNat=i:=by omega
 rw[e1]
 have ht:SlR w19 A2 7 ((xs.take i).map Rm.row):=by
  have:=(hp.keep hw).r.take i
  rwa [<-List.map_take]at this
 refine Pure.mono (anyRules (n:=i) (c:=c2) (p:=fun y=>decide (y.r.name=xs[i].r.name)) ht (by rw[List.length_take];omega) (by omega) (by kernel_rfl) fun w' hb y hy=> ?_) ?_
 ·exact F.stowage_fault_c2.vc _ _ _ _ _ _ _ _ _ _ _ _ fun w1 x1=>⟨_,box_cell (heap_keep (heap_keep hb20 hb) (k0 x1)) rfl,rfl⟩
 rintro v w23 b23 rfl
 have hw:=kP hw b23
 have e2:((rsOf (xs.take i)).any fun x=>decide (x.name=xs[i].r.name))=(xs.take i).any fun y=>decide (y.r.name=xs[i].r.name):=by
  unfold rsOf
  rw[List.any_map]
  rfl
 rw[e2]
 have cell:∀k u,(xs[i].row)[k]? =some u->CellsAt w23 ((⟨p20,0,none⟩:Addr).add k) [u]:=fun k u hu=>box_cell (heap_keep hb20 b23) hu
 refine⟨_,rfl,fun h=> ?_,fun h=>⟨_,cell 1 _ rfl,fun h1=> ?_,fun h1=>⟨_,cell 1 _ rfl,fun h2=> ?_,fun h2=>⟨_,cell 1 _ rfl,fun h3=> ?_,fun h3=> ?_⟩⟩⟩⟩
 ·rw[if_pos h]
 ·rw[if_neg (by rw[h];decide),if_pos (.inl (by omega))]
 ·rw[if_neg (by rw[h];decide),if_pos (.inr (by omega))]
 ·rw[if_neg (by rw[h];decide),if_neg (by omega),if_pos h3]
  refine⟨_,_,_,cell 2 _ rfl,fun h4=> ?_,fun h4=>⟨_,cell 5 _ rfl,fun h5=> ?_,fun h5=>⟨_,cell 6 _ rfl,fun h6=> ?_,fun h6=>⟨_,cell 3 _ rfl,fun h7=>⟨_,cell 4 _ rfl,fun h8=> ?_,fun h8=>⟨_,cell 3 _ rfl,fun h9=>absurd h7 h9,fun h9=> ?_⟩⟩,fun h7=>⟨_,cell 3 _ rfl,fun h9=>⟨_,cell 4 _ rfl,fun h10=>⟨_,cell 3 _ rfl,_,cell 4 _ rfl,?_⟩,fun h10=> ?_⟩,fun h9=>absurd h7 h9⟩⟩⟩⟩⟩
  ·rw[if_pos (.inl (by omega))]
  ·rw[if_pos (.inr (.inl h5))]
  ·rw[if_pos (.inr (.inr h6))]
  ·rw[if_neg (by rintro(k|k|k)<;>omega),if_pos (.inl ⟨nil_size.1 h7,nil_size.1 h8⟩)]
  ·have h8:¬xs[i].r.high.size=0:=fun k=>h8 (nil_size.2 k)
   have h7:=nil_size.1 h7
   rw[if_neg (by rintro(k|k|k)<;>omega),if_neg (by rintro(k|k)<;>omega)]
  ·have h9:=ne_nil.1 h9
   have h10:=ne_nil.1 h10
   have v1:=eV_ne hlow h9
   have v2:=eV_ne hhigh h10
   rw[if_neg (by rintro(k|k|k)<;>omega)]
   have cmp:=stow_compare (hg.next hw) (hin.s.low.big v1) (hin.s.high.big v2)
   rw[<-vR_eq v1,<-vR_eq v2]at cmp
   refine Pure.mono cmp ?_
   rintro v w45 _ rfl
   refine⟨_,rfl,fun k=> ?_,fun k=> ?_⟩
   ·rw[if_pos (.inr ⟨h9,h10,cmpR_gt.1 k⟩)]
   ·rw[if_neg]
    rintro(q|q)
    ·exact h9 q.1
    ·exact k (cmpR_gt.2 q.2.2)
  ·have h9:=ne_nil.1 h9
   have h10:xs[i].r.high.size=0:=Decidable.not_not.1 fun k=>h10 (ne_nil.2 k)
   rw[if_neg (by rintro(k|k|k)<;>omega),if_neg (by rintro(k|k)<;>omega)]
 ·rw[if_neg (by rw[h];decide),if_neg (by omega),if_neg h3]
  refine⟨_,_,_,cell 2 _ rfl,fun h4=> ?_,fun h4=>⟨_,cell 3 _ rfl,fun h5=> ?_,fun h5=>⟨_,cell 4 _ rfl,fun h6=> ?_,fun h6=>⟨_,_,_,_,_,_,_,_,_,box_all (heap_keep hb20 b23),?_⟩⟩⟩⟩
  ·rw[if_pos (.inl (by omega))]
  ·rw[if_pos (.inr (.inl (ne_nil.1 h5)))]
  ·rw[if_pos (.inr (.inr (ne_nil.1 h6)))]
  ·have h5:xs[i].r.low.size=0:=Decidable.not_not.1 fun k=>h5 (ne_nil.2 k)
   have h6:xs[i].r.high.size=0:=Decidable.not_not.1 fun k=>h6 (ne_nil.2 k)
   rw[if_neg (by rintro(k|k|k)<;>omega)]
   refine Pure.mono (stow_other (hp.keep hw) xs[i]) ?_
   rintro v w58 _ rfl
   exact⟨_,rfl,rfl⟩
theorem rs_take{i:Nat}(hi:i<xs.length):rsOf (xs.take i)++[xs[i].r]=rsOf (xs.take (i+1)):=by
 unfold rsOf
 rw[List.take_add_one,List.getElem?_eq_getElem hi,List.map_append]
 rfl
theorem stow_Check(hg:Glob w)(hp:PrIn w A0 n0 A1 n1 A2 n2 c2 ps hs xs):
  Pure Tryz.prog 77 #[.agg #[.slice A0 n0 c0,.slice A1 n1 c1,.slice A2 n2 c2]] w fun v _=>v= .tuple #[.int .i64 (checkR ps hs (rsOf xs)).1,.int .i64 (checkR ps hs (rsOf xs)).2]:=by
 have hl:=hp.l
 have hn:=hp.n
 unfold checkR
 refine F.stowage_Check.vc _ _ _ _ _ _ _ _ _ _ _ fun w1 x1=> ?_
 have hw:=k0 x1
 refine Pure.mono (cargo_Check (hg.next hw) (hp.c.keep hw)) ?_
 rintro v w4 b4 rfl
 have hw:=kP hw b4
 refine⟨_,rfl,fun h=> ?_,fun h=>⟨fun h1=> ?_,fun h1=> ?_⟩⟩
 ·rw[if_pos h]
 ·rw[if_neg h,if_pos (by simp[rsOf];omega)]
 ·rw[if_neg h,if_neg (by simp[rsOf];omega)]
  have key:∀(d i:Nat)(w':World),n2 - i=d->i<=n2->Below w.heap.size w w'->F.stowage_Check.L7 n2 i A0 n0 c0 A1 n1 c1 A2 n2 c2 w.heap.size w' fun v _=>v= .tuple #[.int .i64 (goR ps hs i (rsOf (xs.take i)) (rsOf (xs.drop i))).1,.int .i64 (goR ps hs i (rsOf (xs.take i)) (rsOf (xs.drop i))).2]:=by
   intro d
   induction d with
   |zero=>
    intro i w' hd hi hw
    rw[List.drop_eq_nil_of_le (by omega)]
    exact F.stowage_Check.L7.step _ _ _ _ _ _ _ _ _ _ _ _ _ _ ⟨fun h=>by omega,fun _=>rfl⟩
   |succ d ih=>
    intro i w' hd hi hw
    have hil:i<xs.length:=by omega
    refine F.stowage_Check.L7.step _ _ _ _ _ _ _ _ _ _ _ _ _ _ ⟨fun _=> ?_,fun h=>by omega⟩
    refine Pure.mono (stow_fault (hg.next hw) (hp.keep hw) hil) ?_
    rintro v w7 b7 rfl
    have e3:(i:Int)+1=((i+1:Nat):Int):=by omega
    have hd':rsOf (xs.drop i)=xs[i].r::rsOf (xs.drop (i+1)):=by
     unfold rsOf
     rw[List.drop_eq_getElem_cons hil]
     rfl
    rw[hd',goR]
    refine⟨_,rfl,fun h=> ?_,fun h=>⟨by simp only[inR];omega,?_⟩⟩
    ·rw[if_pos h]
    ·rw[if_neg h,rs_take hil,e3]
     exact ih (i+1) w7 (by omega) (by omega) (kP hw b7)
  exact key n2 0 w4 rfl (by omega) hw
end

theorem sumQ_snoc(l:List Rat)(x:Rat):(l++[x]).sum=l.sum+x:=by
 induction l with
 |nil=>simp[Rat.add_zero,Rat.zero_add]
 |cons a r ih=>rw[List.cons_append,List.sum_cons,List.sum_cons,ih,Rat.add_assoc]
theorem sm_sumQ{k:Nat}:∀{l:List Rat},(∀x∈l,Sm k x)->Sm ((k+1)*l.length+1) l.sum:=by
 intro l
 induction l with
 |nil=>intro _;exact Sm.zero (by omega)
 |cons a r ih=>
  intro h
  rw[List.sum_cons]
  refine((h a (by simp)).add (ih fun x hx=>h x (by simp[hx]))).mono ?_
  rw[List.length_cons,Nat.mul_add]
  omega
def trmR(ps:List Pa)(l:List Sw)(x:Ho×ByteArray):Rat:=qR x.2*sumR (tP ps Pa.mass) (inS l x.1.id)
section
variable {w:World} {A0 A1 A2 A:Option Addr} {n0 c0 n1 c1 n2 c2 n c:Nat} {ps:List Pa} {hs:List Ho} {xs:List Rm} {l:List Sw}
theorem mass_sm(hc:CgIn w A0 n0 A1 n1 ps hs)(hr:RightS ps hs l)(hn:l.length<=40)(id:Int):Sm 12013 (sumR (tP ps Pa.mass) (inS l id)):=by
 have hok:=(hr.ld hn).filter fun s=>decide (s.hold=id)
 refine(sm_sum fun s hs'=>(hok.smT hc hs').1.1).mono ?_
 have:=inS_len hr id
 have:=hr.c.lp
 unfold inS at*
 omega
theorem trm_sm(hc:CgIn w A0 n0 A1 n1 ps hs)(hr:RightS ps hs l)(hn:l.length<=40){x:Ho×ByteArray}(hv:vR x.2=true)(hs':SmS x.2):Sm 13013 (trmR ps l x):=
 ((vR_sm hv hs').mul (mass_sm hc hr hn x.1.id)).mono (by omega)
theorem zip_mem{x:Rm}(hx:RmIn w x)(hf:x.r.fac.all vR=true){y:Ho×ByteArray}(hy:y∈hs.zip x.r.fac):vR y.2=true/\SmS y.2:=by
 obtain⟨a,b⟩:=y
 have:=(List.of_mem_zip hy).2
 exact⟨List.all_eq_true.1 hf _ this,hx.s.fac _ this⟩
theorem sumRu_sm(hc:CgIn w A0 n0 A1 n1 ps hs)(hr:RightS ps hs l)(hn:l.length<=40){x:Rm}(hx:RmIn w x)(hf:x.r.fac.all vR=true)(k:Nat):Sm 90000 (((hs.zip x.r.fac).take k).map (trmR ps l)).sum:=by
 refine(sm_sumQ (k:=13013) fun y hy=> ?_).mono ?_
 ·obtain⟨z,hz,rfl⟩:=List.mem_map.1 hy
  obtain⟨h1,h2⟩:=zip_mem hx hf (List.mem_of_mem_take hz)
  exact trm_sm hc hr hn h1 h2
 ·have h6:=hr.c.lh
  rw[List.length_map,List.length_take,List.length_zip]
  have:min k (min hs.length x.r.fac.length)<=6:=by omega
  have:=Nat.mul_le_mul_left 13014 this
  omega
theorem hix_at(ih:hs.Pairwise fun a b=>a.id<b.id){i:Nat}(hi:i<hs.length):hix hs hs[i].id≠none:=by
 intro h
 unfold hix at h
 rw[List.findIdx?_eq_none_iff]at h
 have:=h _ (List.getElem_mem hi)
 simp at this
theorem stow_sum(hg:Glob w)(hp:PrIn w A0 n0 A1 n1 A2 n2 c2 ps hs xs)(h:SlR w A 3 (l.map Sw.row))(hl:l.length=n)(hnc:n<=c)(hn:n<=40)(hst:stowedF ps hs l=0){x:Rm}(hx:RmIn w x)(hf:x.r.fac.all vR=true)(hfl:x.r.fac.length=hs.length):
  Pure Tryz.prog 97 #[.agg #[.slice A0 n0 c0,.slice A1 n1 c1,.slice A2 n2 c2],x.val,.slice A n c] w fun v _=>v= .string (rS (sumRu ps hs x.r l)):=by
 have hr:=stowed_right hst
 have hlh:=hp.c.lh
 have hnh:=hp.c.nh
 have hxl:=hx.l
 refine F.stowage_sum.vc _ _ _ _ _ _ _ _ _ _ _ _ _ _ _ _ _ _ _ _ _ _ _ fun w1 x1=> ?_
 have key:∀(d i:Nat)(w':World),n1 - i=d->i<=n1->Below w.heap.size w w'->F.stowage_sum.L3 A n c (rS (((hs.zip x.r.fac).take i).map (trmR ps l)).sum) A1 n1 c1 n1 i A0 n0 c0 A1 n1 c1 A2 n2 c2 x.r.name x.r.kind x.A x.n x.c x.r.low x.r.high x.r.a x.r.b w.heap.size w' fun v _=>v= .string (rS (sumRu ps hs x.r l)):=by
  intro d
  induction d with
  |zero=>
   intro i w' hd hi hw
   refine F.stowage_sum.L3.step _ _ _ _ _ _ _ _ _ _ _ _ _ _ _ _ _ _ _ _ _ _ _ _ _ _ _ _ _ _ ⟨fun h=>by omega,fun _=> ?_⟩
   rw[List.take_of_length_le (by rw[List.length_zip];omega)]
   rfl
  |succ d ih=>
   intro i w' hd hi hw
   have hih:i<hs.length:=by omega
   have hif:i<x.r.fac.length:=by omega
   have hiz:i<(hs.zip x.r.fac).length:=by rw[List.length_zip];omega
   have e3:(i:Int)+1=((i+1:Nat):Int):=by omega
   have et:((hs.zip x.r.fac).take (i+1)).map (trmR ps l)=((hs.zip x.r.fac).take i).map (trmR ps l)++[trmR ps l (hs[i],x.r.fac[i])]:=by
    rw[List.take_add_one,List.getElem?_eq_getElem hiz,List.map_append,List.getElem_zip]
    rfl
   obtain⟨hb,a,hA,hcell,_⟩:=((hp.keep hw).c.h).at_ (fun _=>rfl) hlh hih
   refine F.stowage_sum.L3.step _ _ _ _ _ _ _ _ _ _ _ _ _ _ _ _ _ _ _ _ _ _ _ _ _ _ _ _ _ _ ⟨fun _=>⟨hb,a,hA,_,_,_,_,_,_,_,hcell,fun w10 x10=> ?_⟩,fun h=>by omega⟩
   have hw:=kE hw x10
   refine Pure.mono (cargo_Held (hg.next hw) (hp.keep hw).c (h.keep hw (Nat.le_refl _)) hl hnc hn hs[i].id) ?_
   rintro v w19 b19 rfl
   have hw:=kP hw b19
   unfold heldV
   rw[if_neg (fun k=>k hst),if_neg (hix_at hr.c.ih hih)]
   refine⟨_,_,_,_,_,_,_,rfl,fun w20 x20=> ?_⟩
   have hw:=kE hw x20
   obtain⟨hbf,af,hAf,hcf,_⟩:=((hx.keep hw).f).at_ (fun _=>rfl) hxl hif
   refine⟨hbf,af,hAf,_,hcf,fun w23 x23=> ?_⟩
   have hw:=kE hw x23
   have hv:=List.all_eq_true.1 hf _ (List.getElem_mem hif)
   have hsf:=hx.s.fac _ (List.getElem_mem hif)
   have m:=stow_mul (hg.next hw) (hsf.big hv) ((mass_sm hp.c hr (by omega) hs[i].id).mono (by omega))
   rw[<-vR_eq hv]at m
   refine Pure.mono m ?_
   rintro v w26 b26 rfl
   have hw:=kP hw b26
   refine⟨_,rfl,Pure.mono (stow_add (hg.next hw) ((sumRu_sm hp.c hr (by omega) hx hf i).mono (by omega)) ((trm_sm (x:=(hs[i],x.r.fac[i])) hp.c hr (by omega) hv hsf).mono (by omega))) ?_⟩
   rintro v w29 b29 rfl
   refine⟨_,rfl,by simp only[inR];omega,?_⟩
   have:=ih (i+1) w29 (by omega) (by omega) (kP hw b29)
   rw[et,sumQ_snoc]at this
   rw[e3]
   exact this
 have:=key n1 0 w1 rfl (by omega) (k0 x1)
 simp only[List.take_zero,List.map_nil,List.sum_nil,<-s0]at this
 exact this
theorem stow_excess(hg:Glob w){x:Rm}(hx:RmIn w x)(hlow:eV x.r.low=true)(hhigh:eV x.r.high=true){s:Rat}(hs':Sm 90000 s):
  Pure Tryz.prog 96 #[x.val,.string (rS s)] w fun v _=>v= .string (rS (excessR x.r s)):=by
 have bs:Big s:=hs'.mono (by omega)
 have low:∀w',Below w.heap.size w w'->x.r.low≠⟨#[]⟩->¬(x.r.high.size≠0/\qR x.r.high<s)->Pure Tryz.prog 127 #[.string (rS s),.string x.r.low] w' fun r9 w10=>∃(i8:Int),r9=(.int .i64 i8)/\((((i8:Int)<(0:Int))->(Pure Tryz.prog 128 #[(.string (rS s)),(.string x.r.low)] w10 fun r12 w13=>∃(s11:ByteArray),r12=(.string s11)/\(Value.string s11= .string (rS (excessR x.r s)))))/\(¬((i8:Int)<(0:Int))->(Value.string (⟨#[48]⟩:ByteArray)= .string (rS (excessR x.r s))))):=by
  intro w' hw h0 hh
  have h0:=ne_nil.1 h0
  have v1:=eV_ne hlow h0
  have b1:=hx.s.low.big v1
  have c1:=stow_compare (hg.next hw) bs b1
  rw[<-vR_eq v1]at c1
  unfold excessR
  rw[if_neg hh]
  refine Pure.mono c1 ?_
  rintro v w10 b10 rfl
  refine⟨_,rfl,fun k=> ?_,fun k=> ?_⟩
  ·have c2:=stow_sub (hg.next (kP hw b10)) bs b1
   rw[<-vR_eq v1]at c2
   refine Pure.mono c2 ?_
   rintro v w13 _ rfl
   exact⟨_,rfl,by rw[if_pos ⟨h0,cmpR_lt.1 k⟩]⟩
  ·rw[if_neg (fun q=>k (cmpR_lt.2 q.2)),<-s0]
 have none_:¬(x.r.high.size≠0/\qR x.r.high<s)->¬(x.r.low≠⟨#[]⟩)->Value.string (⟨#[48]⟩:ByteArray)= .string (rS (excessR x.r s)):=by
  intro h1 h2
  unfold excessR
  rw[if_neg h1,if_neg (fun k=>h2 (ne_nil.2 k.1)),<-s0]
 refine F.stowage_excess.vc _ _ _ _ _ _ _ _ _ _ _ _ ⟨fun h w1 x1=> ?_,fun h=>⟨fun h1 w14 x14=> ?_,fun h1 w21 _=> ?_⟩⟩
 ·have hw:=k0 x1
  have h0:=ne_nil.1 h
  have v1:=eV_ne hhigh h0
  have b1:=hx.s.high.big v1
  have cc:=stow_compare (hg.next hw) bs b1
  rw[<-vR_eq v1]at cc
  refine Pure.mono cc ?_
  rintro v w4 b4 rfl
  have hw:=kP hw b4
  refine⟨_,rfl,fun k=> ?_,fun k=> ?_⟩
  ·have cs:=stow_sub (hg.next hw) bs b1
   rw[<-vR_eq v1]at cs
   refine Pure.mono cs ?_
   rintro v w7 _ rfl
   refine⟨_,rfl,?_⟩
   unfold excessR
   rw[if_pos ⟨h0,cmpR_gt.1 k⟩]
  ·have hn:¬(x.r.high.size≠0/\qR x.r.high<s):=fun q=>k (cmpR_gt.2 q.2)
   exact⟨fun h2=>low w4 hw h2 hn,fun h2=>none_ hn h2⟩
 ·exact low w14 (k0 x14) h1 fun q=>h (ne_nil.2 q.1)
 ·exact none_ (fun q=>h (ne_nil.2 q.1)) h1
theorem excess_sm{w:World}{x:Rm}(hx:RmIn w x)(hlow:eV x.r.low=true)(hhigh:eV x.r.high=true){s:Rat}(hs':Sm 90000 s):Big (excessR x.r s):=by
 unfold excessR
 split
 ·rename_i h
  exact(hs'.sub (vR_sm (eV_ne hhigh h.1) hx.s.high)).mono (by omega)
 ·split
  ·rename_i h
   exact(hs'.sub (vR_sm (eV_ne hlow h.1) hx.s.low)).mono (by omega)
  ·exact Sm.zero (by omega)
theorem stow_broken1(hg:Glob w)(hp:PrIn w A0 n0 A1 n1 A2 n2 c2 ps hs xs)(h:SlR w A 3 (l.map Sw.row))(hl:l.length=n)(hnc:n<=c)(hn:n<=40)(hst:stowedF ps hs l=0){x:Rm}(hx:RmIn w x)(hr:RightR ps hs x.r)(hk:x.r.kind=1):
  Pure Tryz.prog 94 #[.agg #[.slice A0 n0 c0,.slice A1 n1 c1,.slice A2 n2 c2],x.val,.slice A n c] w fun v _=>v= .bool (brokenR ps hs l x.r):=by
 have hsm:Sm 90000 (sumRu ps hs x.r l):=by
  have:=sumRu_sm hp.c (stowed_right hst) (by omega) hx hr.fac (hs.zip x.r.fac).length
  rwa [List.take_length]at this
 refine F.stowage_broken_c1.vc _ _ _ _ _ _ _ _ _ _ _ _ _ _ _ _ _ _ _ _ _ _ _ fun w1 x1=> ?_
 have hw:=k0 x1
 refine Pure.mono (stow_sum (hg.next hw) (hp.keep hw) (h.keep hw (Nat.le_refl _)) hl hnc hn hst (hx.keep hw) hr.fac (hr.sum hk)) ?_
 rintro v w4 b4 rfl
 have hw:=kP hw b4
 refine⟨_,rfl,Pure.mono (stow_excess (hg.next hw) (hx.keep hw) hr.low hr.high hsm) ?_⟩
 rintro v w7 b7 rfl
 have hw:=kP hw b7
 refine⟨_,rfl,Pure.mono (stow_sign (hg.next hw) (excess_sm hx hr.low hr.high hsm)) ?_⟩
 rintro v w10 _ rfl
 refine⟨_,rfl,?_⟩
 unfold brokenR
 rw[if_pos hk]
 refine congrArg Value.bool ?_
 rw[decide_eq_decide]
 exact not_congr cmpR_eq

theorem stow_class(hc:CgIn w A0 n0 A1 n1 ps hs){id:Int}{i:Nat}(hi:pix ps id=some i):
  Pure Tryz.prog 132 #[.agg #[.slice A0 n0 c0,.slice A1 n1 c1,.slice A2 n2 c2],.int .i64 id] w fun v _=>v= .int .i64 (clsP ps id):=by
 have hnp:=hc.np
 obtain⟨hil,hid⟩:=pix_lt hi
 refine F.stowage_class.vc _ _ _ _ _ _ _ _ _ _ _ _ fun w1 x1 p2 hp2 hb2=> ?_
 have hw:=k0 x1
 refine Pure.mono (IndexPa (p:=fun p=>decide (p.id=id)) (hc.keep hw).p hc.lp (by omega) (by kernel_rfl) fun w' hb y hy=> ?_) ?_
 ·exact F.stowage_class_c1.vc _ _ _ _ _ _ _ _ _ _ fun w1 x1=>⟨_,box_cell0 (heap_keep (heap_keep hb2 hb) (k0 x1)) rfl,rfl⟩
 ·rintro v w5 b5 rfl
  have hw:=kP hw b5
  show ∃i3:Int,Value.int .i64 (ixI (pix ps id))=_/\_
  rw[hi]
  obtain⟨hb,a,hA,_,hcell⟩:=((hc.keep hw).p).at_ (fun _=>rfl) hc.lp hil
  refine⟨_,rfl,hb,a,hA,_,hcell 2 _ rfl,?_⟩
  unfold clsP
  rw[hi,Option.bind_some,List.getElem?_eq_getElem hil]
theorem stow_apart(hc:CgIn w A0 n0 A1 n1 ps hs)(h:SlR w A 3 (l.map Sw.row))(hl:l.length=n)(hn:n<=40)(hk:∀s∈l,∃i,pix ps s.parcel=some i)(x:Rm):
  Pure Tryz.prog 98 #[.agg #[.slice A0 n0 c0,.slice A1 n1 c1,.slice A2 n2 c2],x.val,.slice A n c] w fun v _=>v= .bool (l.any fun s=>l.any fun t=>decide (s.hold=t.hold)&&(decide (clsP ps s.parcel=x.r.a)&&decide (clsP ps t.parcel=x.r.b))):=by
 have outer:∀(d i:Nat)(w':World),n - i=d->i<=n->Below w.heap.size w w'->F.stowage_apart.L2 A n c A n c n i A0 n0 c0 A1 n1 c1 A2 n2 c2 x.r.name x.r.kind x.A x.n x.c x.r.low x.r.high x.r.a x.r.b w.heap.size w' fun v _=>v= .bool ((l.drop i).any fun s=>l.any fun t=>decide (s.hold=t.hold)&&(decide (clsP ps s.parcel=x.r.a)&&decide (clsP ps t.parcel=x.r.b))):=by
  intro d
  induction d with
  |zero=>
   intro i w' hd hi hw
   rw[List.drop_eq_nil_of_le (by omega)]
   exact F.stowage_apart.L2.step _ _ _ _ _ _ _ _ _ _ _ _ _ _ _ _ _ _ _ _ _ _ _ _ _ _ _ _ _ ⟨fun h=>by omega,fun _=>rfl⟩
  |succ d ih=>
   intro i w' hd hi hw
   have hil:i<l.length:=by omega
   have e3:(i:Int)+1=((i+1:Nat):Int):=by omega
   obtain⟨ip,hip⟩:=hk _ (List.getElem_mem hil)
   obtain⟨hb,a,hA,hcell,_⟩:=(h.keep hw (Nat.le_refl _)).at_ (fun _=>rfl) hl hil
   refine F.stowage_apart.L2.step _ _ _ _ _ _ _ _ _ _ _ _ _ _ _ _ _ _ _ _ _ _ _ _ _ _ _ _ _ ⟨fun _=>⟨hb,a,hA,_,_,_,hcell,fun w6 x6=> ?_⟩,fun h=>by omega⟩
   have hw:=kE hw x6
   rw[List.drop_eq_getElem_cons hil,List.any_cons]
   have inner:∀(e j:Nat)(w':World),n - j=e->j<=n->Below w.heap.size w w'->F.stowage_apart.L5 A n c A n c n i A n c n j A0 n0 c0 A1 n1 c1 A2 n2 c2 x.r.name x.r.kind x.A x.n x.c x.r.low x.r.high x.r.a x.r.b l[i].hold l[i].parcel l[i].units w.heap.size w' fun v _=>v= .bool (((l.drop j).any fun t=>decide (l[i].hold=t.hold)&&(decide (clsP ps l[i].parcel=x.r.a)&&decide (clsP ps t.parcel=x.r.b)))||
     ((l.drop (i+1)).any fun s=>l.any fun t=>decide (s.hold=t.hold)&&(decide (clsP ps s.parcel=x.r.a)&&decide (clsP ps t.parcel=x.r.b)))):=by
    intro e
    induction e with
    |zero=>
     intro j w' he hj hw
     rw[List.drop_eq_nil_of_le (i:=j) (by omega),List.any_nil,Bool.false_or]
     refine F.stowage_apart.L5.step _ _ _ _ _ _ _ _ _ _ _ _ _ _ _ _ _ _ _ _ _ _ _ _ _ _ _ _ _ _ _ _ _ _ _ _ _ ⟨fun h=>by omega,fun _=>⟨by simp only[inR];omega,?_⟩⟩
     rw[e3]
     exact ih (i+1) w' (by omega) (by omega) hw
    |succ e ihe=>
     intro j w' he hj hw
     have hjl:j<l.length:=by omega
     have ej:(j:Int)+1=((j+1:Nat):Int):=by omega
     obtain⟨jp,hjp⟩:=hk _ (List.getElem_mem hjl)
     obtain⟨hb,a,hA,hcell,_⟩:=(h.keep hw (Nat.le_refl _)).at_ (fun _=>rfl) hl hjl
     rw[List.drop_eq_getElem_cons hjl,List.any_cons]
     refine F.stowage_apart.L5.step _ _ _ _ _ _ _ _ _ _ _ _ _ _ _ _ _ _ _ _ _ _ _ _ _ _ _ _ _ _ _ _ _ _ _ _ _ ⟨fun _=>⟨hb,a,hA,_,_,_,hcell,fun h1 w11 x11=> ?_,fun h1=>⟨by simp only[inR];omega,fun w18 x18=> ?_⟩⟩,fun h=>by omega⟩
     ·have hw:=kE hw x11
      refine Pure.mono (stow_class (hc.keep hw) hip) ?_
      rintro v w14 b14 rfl
      have hw:=kP hw b14
      rw[decide_eq_true h1,Bool.true_and]
      refine⟨_,rfl,fun h2=> ?_,fun h2=>⟨by simp only[inR];omega,?_⟩⟩
      ·refine Pure.mono (stow_class (hc.keep hw) hjp) ?_
       rintro v w17 b17 rfl
       rw[decide_eq_true h2,Bool.true_and]
       refine⟨_,rfl,fun h3=> ?_,fun h3=>⟨by simp only[inR];omega,?_⟩⟩
       ·rw[decide_eq_true h3]
        rfl
       ·rw[decide_eq_false h3,Bool.false_or,ej]
        have:=ihe (j+1) w17 (by omega) (by omega) (kP hw b17)
        rw[decide_eq_true h2]at this
        simp only[Bool.true_and]at this
        exact this
      ·rw[decide_eq_false h2,Bool.false_and,Bool.false_or,ej]
       have:=ihe (j+1) w14 (by omega) (by omega) hw
       rw[decide_eq_false h2]at this
       exact this
     ·rw[decide_eq_false h1,Bool.false_and,Bool.false_or,ej]
      exact ihe (j+1) w18 (by omega) (by omega) (kE hw x18)
   have:=inner n 0 w6 rfl (by omega) hw
   rwa [List.drop_zero]at this
 exact F.stowage_apart.vc _ _ _ _ _ _ _ _ _ _ _ _ _ _ _ _ _ _ _ _ _ _ _ fun w1 x1=>outer n 0 w1 rfl (by omega) (k0 x1)
theorem stow_never(hc:CgIn w A0 n0 A1 n1 ps hs)(h:SlR w A 3 (l.map Sw.row))(hl:l.length=n)(hn:n<=40)(hk:∀s∈l,∃i,pix ps s.parcel=some i)(x:Rm):
  Pure Tryz.prog 99 #[.agg #[.slice A0 n0 c0,.slice A1 n1 c1,.slice A2 n2 c2],x.val,.slice A n c] w fun v _=>v= .bool (hasCls ps l x.r.b x.r.a):=by
 refine F.stowage_never.vc _ _ _ _ _ _ _ _ _ _ _ _ _ _ _ _ _ _ _ _ _ _ _ fun w1 x1 p2 hp2 hb2 p3 hp3 hb3=> ?_
 have hw:=k0 x1
 refine Pure.mono (F.slices_ContainsFunc_api_Stow_api_Stow.vc _ _ _ _ _ _ _ (fun v _=>v= .bool (hasCls ps l x.r.b x.r.a)) (Pure.mono (F.slices_IndexFunc_api_Stow_api_Stow.vc _ _ _ _ _ _ _ _ (index_stows (h.keep hw (Nat.le_refl _)) hl (by omega) (by kernel_rfl) (p:=fun s=>decide (s.hold=x.r.b)&&decide (clsP ps s.parcel=x.r.a)) (fun w' hb s hs'=> ?_) (R:=fun v _=>v= .int .i64 (idxG (fun s=>decide (s.hold=x.r.b)&&decide (clsP ps s.parcel=x.r.a)) 0 l)) (fun _=>rfl) n 0 w1 rfl (by omega) (Below.refl _ _) rfl)) ?_)) ?_
 ·obtain⟨i,hi⟩:=hk s hs'
  have g2:=heap_keep hb2 hb
  have g3:=heap_keep hb3 hb
  refine F.stowage_never_c1.vc _ _ _ _ _ _ _ fun w4 x4=>⟨_,box_cell (heap_keep g3 (k0 x4)) rfl,fun h1=>⟨_,_,_,_,_,_,_,_,_,box_all (heap_keep g2 (k0 x4)),_,box_cell (heap_keep g3 (k0 x4)) rfl,fun w7 x7=> ?_⟩,fun h1 w11 _=> ?_⟩
  ·refine Pure.mono (stow_class (hc.keep (kP (kP hw hb) (kE (k0 x4) x7))) hi) ?_
   rintro v w10 _ rfl
   exact⟨_,rfl,by rw[decide_eq_true h1,Bool.true_and]⟩
  ·rw[decide_eq_false h1,Bool.false_and]
 ·rintro v w2 _ rfl
  exact⟨_,rfl,by rw[any_idx];rfl⟩
 ·rintro v w2 _ rfl
  exact⟨_,rfl,rfl⟩
theorem stow_whole(hc:CgIn w A0 n0 A1 n1 ps hs)(h:SlR w A 3 (l.map Sw.row))(hl:l.length=n)(hn:n<=40)(hr:RightS ps hs l){x:Rm}{i:Nat}(hi:pix ps x.r.a=some i):
  Pure Tryz.prog 100 #[.agg #[.slice A0 n0 c0,.slice A1 n1 c1,.slice A2 n2 c2],x.val,.slice A n c] w fun v _=>v= .bool (match (pix ps x.r.a).bind fun i=>ps[i]? with|some p=>decide (unitsF l x.r.a<p.units)|none=>false):=by
 have hnp:=hc.np
 obtain⟨hil,hid⟩:=pix_lt hi
 have hpu:=(hr.c.p1 _ (List.getElem_mem hil)).2.1
 rw[hi,Option.bind_some,List.getElem?_eq_getElem hil]
 refine F.stowage_whole.vc _ _ _ _ _ _ _ _ _ _ _ _ _ _ _ _ _ _ _ _ _ _ _ fun w1 x1 p2 hp2 hb2=> ?_
 have hw:=k0 x1
 refine Pure.mono (IndexPa (p:=fun p=>decide (p.id=x.r.a)) (hc.keep hw).p hc.lp (by omega) (by kernel_rfl) fun w' hb y hy=> ?_) ?_
 ·exact F.stowage_whole_c1.vc _ _ _ _ _ _ _ _ _ _ fun w1 x1=>⟨_,box_cell (heap_keep (heap_keep hb2 hb) (k0 x1)) rfl,rfl⟩
 ·rintro v w5 b5 rfl
  show ∃i3:Int,Value.int .i64 (ixI (pix ps x.r.a))=_/\_
  rw[hi]
  have hb5:=heap_keep hb2 b5
  have hw5:=kP hw b5
  obtain⟨hb,a,hA,_,hcell⟩:=((hc.keep hw5).p).at_ (fun _=>rfl) hc.lp hil
  refine⟨_,rfl,hb,a,hA,_,hcell 1 _ rfl,?_⟩
  have key:∀(d j:Nat)(w':World),n - j=d->j<=n->Below w5.heap.size w5 w'->F.stowage_whole.L4 ⟨p2,0,none⟩ (ps[i].units - unitsF (l.take j) x.r.a) A n c n j w.heap.size w' fun v _=>v= .bool (decide (unitsF l x.r.a<ps[i].units)):=by
   intro d
   induction d with
   |zero=>
    intro j w' hd hj hw'
    rw[List.take_of_length_le (by omega)]
    refine F.stowage_whole.L4.step _ _ _ _ _ _ _ _ _ _ ⟨fun h=>by omega,fun _=> ?_⟩
    refine congrArg Value.bool ?_
    rw[decide_eq_decide]
    omega
   |succ d ih=>
    intro j w' hd hj hw'
    have hjl:j<l.length:=by omega
    have ej:(j:Int)+1=((j+1:Nat):Int):=by omega
    have et:l.take (j+1)=l.take j++[l[j]]:=by rw[List.take_add_one,List.getElem?_eq_getElem hjl];rfl
    have es:=unitsF_snoc (l.take j) l[j] x.r.a
    rw[<-et]at es
    have f1:=unitsF_le hr.pos x.r.a j
    have f2:=unitsF_le hr.pos x.r.a (j+1)
    have f3:=hr.full _ (List.getElem_mem hil)
    rw[hid]at f3
    obtain⟨hb,a,hA,hcell,_⟩:=(h.keep (kP hw5 hw') (Nat.le_refl _)).at_ (fun _=>rfl) hl hjl
    refine F.stowage_whole.L4.step _ _ _ _ _ _ _ _ _ _ ⟨fun _=>⟨hb,a,hA,_,_,_,hcell,fun w12 x12=> ?_⟩,fun h=>by omega⟩
    have hw12:=kP hw' (extAll x12)
    have hpos:=hr.pos _ (List.getElem_mem hjl)
    refine⟨_,box_cell (ext_nil x12 (heap_keep hb5 hw')) rfl,fun h1=> ?_,fun h1=>⟨by simp only[inR];omega,?_⟩⟩
    ·rw[if_pos h1]at es
     refine⟨by simp only[inR];omega,by simp only[inR];omega,?_⟩
     have:=ih (j+1) w12 (by omega) (by omega) hw12
     rw[es]at this
     rw[ej,show ps[i].units - unitsF (l.take j) x.r.a - l[j].units=ps[i].units - (unitsF (l.take j) x.r.a+l[j].units) by omega]
     exact this
    ·rw[if_neg h1,Int.add_zero]at es
     have:=ih (j+1) w12 (by omega) (by omega) hw12
     rw[es]at this
     rw[ej]
     exact this
  have:=key n 0 w5 rfl (by omega) (Below.refl _ _)
  rw[List.take_zero]at this
  simp only[unitsF,List.map_nil,List.sum_nil,Int.sub_zero]at this
  exact this
end

section
variable {w:World} {A0 A1 A2 A:Option Addr} {n0 c0 n1 c1 n2 c2 n c:Nat} {ps:List Pa} {hs:List Ho} {xs:List Rm} {l:List Sw}
theorem stow_right(hg:Glob w)(hp:PrIn w A0 n0 A1 n1 A2 n2 c2 ps hs xs)(h:SlR w A 3 (l.map Sw.row))(hl:l.length=n)(hnc:n<=c)(hn:n<=40):
  Pure Tryz.prog 69 #[.agg #[.slice A0 n0 c0,.slice A1 n1 c1,.slice A2 n2 c2],.slice A n c] w fun v _=>v= .bool (rightF ps hs (rsOf xs) l):=by
 refine F.stowage_right.vc _ _ _ _ _ _ _ _ _ _ _ _ _ _ fun w1 x1=> ?_
 have hw:=k0 x1
 refine Pure.mono (stow_Check (hg.next hw) (hp.keep hw)) ?_
 rintro v w5 b5 rfl
 have hw:=kP hw b5
 unfold rightF
 refine⟨_,_,rfl,fun h1=> ?_,fun h1=> ?_⟩
 ·refine Pure.mono (cargo_Stowed (hg.next hw) (hp.keep hw).c (h.keep hw (Nat.le_refl _)) hl hnc (by omega)) ?_
  rintro v w8 _ rfl
  exact⟨_,rfl,by rw[decide_eq_true h1,Bool.true_and]⟩
 ·rw[decide_eq_false h1,Bool.false_and]
theorem clsP_known(hr:RightS ps hs l):∀s∈l,∃i,pix ps s.parcel=some i:=fun s hs'=>by
 obtain⟨i,k,hi,_⟩:=hr.known s hs'
 exact⟨i,hi⟩
theorem hold_known(hr:RightS ps hs l):∀s∈l,∃h∈hs,h.id=s.hold:=fun s hs'=>by
 obtain⟨i,k,_,hk⟩:=hr.known s hs'
 obtain⟨hl,e⟩:=hix_lt hk
 exact⟨_,List.getElem_mem hl,e⟩
theorem stow_broken(hg:Glob w)(hp:PrIn w A0 n0 A1 n1 A2 n2 c2 ps hs xs)(h:SlR w A 3 (l.map Sw.row))(hl:l.length=n)(hnc:n<=c)(hn:n<=40)(hck:(checkR ps hs (rsOf xs)).2=0)(hst:stowedF ps hs l=0):
  Pure Tryz.prog 70 #[.agg #[.slice A0 n0 c0,.slice A1 n1 c1,.slice A2 n2 c2],.slice A n c] w fun v _=>∃A' m c',v= .slice A' m c'/\m=(rsOf xs).countP (brokenR ps hs l):=by
 have hr:=stowed_right hst
 have hxl:=hp.l
 have hxn:=hp.n
 have hrr:=(checkR_zero hck).2.2
 refine F.stowage_broken.vc _ _ _ _ _ _ _ _ _ _ _ _ _ _ fun w1 x1=> ?_
 have key:∀(d i:Nat)(A':Option Addr)(m c':Nat)(w':World)(o:List Int),n2 - i=d->i<=n2->Below w.heap.size w w'->OwnR w' w.heap.size 3 A' m c' 1 (o.map iRow)->m=(rsOf (xs.take i)).countP (brokenR ps hs l)->
   F.stowage_broken.L4 A n c A' m c' A2 n2 c2 n2 i A0 n0 c0 A1 n1 c1 A2 n2 c2 w.heap.size w' fun v _=>∃A' m c',v= .slice A' m c'/\m=(rsOf xs).countP (brokenR ps hs l):=by
  intro d
  induction d with
  |zero=>
   intro i A' m c' w' o hd hi hw ho hm
   rw[List.take_of_length_le (by omega)]at hm
   exact F.stowage_broken.L4.step _ _ _ _ _ _ _ _ _ _ _ _ _ _ _ _ _ _ _ _ _ _ _ ⟨fun h=>by omega,fun _=>⟨A',m,c',rfl,hm⟩⟩
  |succ d ih=>
   intro i A' m c' w' o hd hi hw ho hm
   have hil:i<xs.length:=by omega
   have e3:(i:Int)+1=((i+1:Nat):Int):=by omega
   have hmem:=List.getElem_mem hil
   have hrx:=hrr xs[i].r (List.mem_map_of_mem hmem)
   have hxi:=hp.f _ hmem
   have hm17:m<=i:=by
    rw[hm]
    refine Nat.le_trans List.countP_le_length ?_
    unfold rsOf
    rw[List.length_map,List.length_take]
    omega
   have hcnt:(rsOf (xs.take (i+1))).countP (brokenR ps hs l)=m+if brokenR ps hs l xs[i].r then 1 else 0:=by
    rw[<-rs_take hil,List.countP_append,<-hm,List.countP_singleton]
   obtain⟨hb,a,hA,hcell,_⟩:=(hp.keep hw).at_ hil
   have hkd:=hrx.kind
   refine F.stowage_broken.L4.step _ _ _ _ _ _ _ _ _ _ _ _ _ _ _ _ _ _ _ _ _ _ _ ⟨fun _=>⟨hb,a,hA,_,_,_,_,_,_,_,_,_,hcell,by omega,⟨⟨⟨⟨trivial,fun k=>by omega⟩,fun k w10 x10=> ?_⟩,fun k w10 x10=> ?_⟩,fun k w10 x10=> ?_⟩,fun k w10 x10=> ?_⟩,fun h=>by omega⟩
   all_goals
    have hw:=kE hw x10
    have ho:=ho.extNil x10
    have hp':=hp.keep hw
    have h':=h.keep hw (Nat.le_refl _)
   refine Pure.mono (stow_broken1 (hg.next hw) hp' h' hl hnc hn hst (hxi.keep hw) hrx k) ?_
   rotate_left
   refine Pure.mono (Pure.mono (stow_apart hp'.c h' hl hn (clsP_known hr) xs[i]) (R':=fun v _=>v= .bool (brokenR ps hs l xs[i].r)) ?_) ?_
   ·rintro v w2 _ rfl
    refine congrArg Value.bool ?_
    unfold brokenR
    rw[if_neg (by omega),if_pos k,<-apart_pairs (hold_known hr)]
   rotate_left
   refine Pure.mono (Pure.mono (stow_never hp'.c h' hl hn (clsP_known hr) xs[i]) (R':=fun v _=>v= .bool (brokenR ps hs l xs[i].r)) ?_) ?_
   ·rintro v w2 _ rfl
    refine congrArg Value.bool ?_
    unfold brokenR
    rw[if_neg (by omega),if_neg (by omega),if_pos k]
   rotate_left
   obtain⟨ip,hip⟩:=hrx.four k
   refine Pure.mono (Pure.mono (stow_whole hp'.c h' hl hn hr hip) (R':=fun v _=>v= .bool (brokenR ps hs l xs[i].r)) ?_) ?_
   ·rintro v w2 _ rfl
    refine congrArg Value.bool ?_
    unfold brokenR
    rw[if_neg (by omega),if_neg (by omega),if_neg (by omega)]
    cases (pix ps xs[i].r.a).bind fun i=>ps[i]? <;>rfl
   rotate_left
   all_goals
    rintro v w13 b13 rfl
    have hw13:=kP hw b13
    refine⟨_,rfl,fun hb1=> ?_,fun hb1=>⟨by simp only[inR];omega,?_⟩⟩
    ·refine app_row el_Ints (Nat.le_refl _) (ho.below b13) (x:= .int .i64 (i:Int)) rfl (by simp[Value.cells,isCell]) hw13.size (by omega) (by decide) fun A3 c3 w3 o3 _ b3=>⟨by simp only[inR];omega,?_⟩
     rw[e3]
     refine ih (i+1) A3 (m+1) c3 w3 (o++[(i:Int)]) (by omega) (by omega) (hw13.trans b3) (by rw[List.map_append];exact o3) ?_
     rw[hcnt,if_pos hb1]
    ·rw[e3]
     refine ih (i+1) A' m c' w13 o (by omega) (by omega) hw13 (ho.below b13) ?_
     rw[hcnt,if_neg (by simp[hb1])]
     rfl
 have:=key n2 0 none 0 0 w1 [] rfl (by omega) (k0 x1) OwnR.nil rfl
 exact this
theorem stow_Keeps(hg:Glob w)(hp:PrIn w A0 n0 A1 n1 A2 n2 c2 ps hs xs)(h:SlR w A 3 (l.map Sw.row))(hl:l.length=n)(hnc:n<=c)(hn:n<=40):
  Pure Tryz.prog 35 #[.agg #[.slice A0 n0 c0,.slice A1 n1 c1,.slice A2 n2 c2],.slice A n c] w fun v _=>v= .bool (keepsF ps hs (rsOf xs) l):=by
 refine F.stowage_Keeps.vc _ _ _ _ _ _ _ _ _ _ _ _ _ _ fun w1 x1=> ?_
 have hw:=k0 x1
 refine Pure.mono (stow_right (hg.next hw) (hp.keep hw) (h.keep hw (Nat.le_refl _)) hl hnc hn) ?_
 rintro v w4 b4 rfl
 have hw:=kP hw b4
 unfold keepsF
 refine⟨_,rfl,fun h1=>by rw[h1];rfl,fun h1=> ?_⟩
 have h1:=Bool.not_eq_false _|>.mp h1
 rw[h1,Bool.true_and]
 unfold rightF at h1
 simp only[Bool.and_eq_true,decide_eq_true_eq]at h1
 refine Pure.mono (stow_broken (hg.next hw) (hp.keep hw) (h.keep hw (Nat.le_refl _)) hl hnc hn h1.1 h1.2) ?_
 rintro v w7 b7 ⟨A',m,c',rfl,hm⟩
 have hw:=kP hw b7
 have hany:(rsOf xs).any (brokenR ps hs l)=decide (0<m):=by
  rw[hm,Bool.eq_iff_iff,decide_eq_true_eq,List.countP_pos_iff,List.any_eq_true]
 rw[hany]
 refine⟨_,_,_,rfl,fun h2=> ?_,fun h2=> ?_⟩
 ·rw[decide_eq_true (show 0<m by omega)]
  rfl
 ·rw[decide_eq_false (show ¬0<m by omega),Bool.not_false,Bool.true_and]
  refine Pure.mono (cargo_Overloaded (hg.next hw) (hp.keep hw).c (h.keep hw (Nat.le_refl _)) hl hnc hn) ?_
  rintro v w11 _ rfl
  unfold overV
  rw[if_neg (fun k=>k h1.2)]
  refine⟨_,_,rfl,?_⟩
  refine congrArg Value.bool ?_
  rw[decide_eq_decide]
  exact ixI_neg
end

theorem sh_ok{n:Nat}(h:n<=64):shOk .i64 (n:Int):=⟨by omega,by simp only[IntKind.bits];omega⟩
theorem shl_one:∀n:Nat,n<8->shlI .i64 1 (n:Int)=((2^n:Nat):Int):=by decide+kernel
theorem shr_and:∀s:Nat,s<128->∀n:Nat,n<8->bits .and .i64 (shrI (s:Int) (n:Int)) 1=if s.testBit n then 1 else 0:=by decide+kernel
theorem or_pow:∀s:Nat,s<128->∀n:Nat,n<8->bits .or .i64 (s:Int) ((2^n:Nat):Int)=((addB s n:Nat):Int):=by decide+kernel
theorem andNot_pow:∀s:Nat,s<128->∀n:Nat,n<8->s.testBit n=true->bits .andNot .i64 (s:Int) ((2^n:Nat):Int)=((s^^^2^n:Nat):Int):=by decide+kernel
theorem bit_eq{s n:Nat}(hs:s<128)(hn:n<8):bits .and .i64 (shrI (s:Int) (n:Int)) 1=1↔s.testBit n=true:=by
 rw[shr_and s hs n hn]
 cases s.testBit n<;>simp
theorem pow64:∀n:Nat,n<=6->2^n<=64:=by decide
end Go.Proofs.YtgfkeadgjkfomaaGreatDoor.B
