/- Part 8 of the proofs that: a plan is one of the orders -/
import Derived.Test.YtgfkeadgjkfomaaGreatDoorE7
import Derived.Maps.OwnSet
import Derived.Maps.Views
import Derived.Maps.Keyed
import Derived.Carry
import Derived.Test.YtgfkeadgjkfomaaGreatDoorProg
set_option linter.unusedVariables false
set_option linter.unusedSimpArgs false
namespace Go.Proofs.YtgfkeadgjkfomaaGreatDoor.B
open Go Go.RowKit Go.Proofs Go.Proofs.YtgfkeadgjkfomaaGreatDoor.Vc

def Oth(A:Option Addr)(w w':World):Prop:=w.heap.size<=w'.heap.size/\∀k,k<w.heap.size->(∀a,A=some a->k≠a.block)->w'.heap[k]? =w.heap[k]?
theorem Oth.refl{A:Option Addr}{w:World}:Oth A w w:=⟨Nat.le_refl _,fun _ _ _=>rfl⟩
theorem Oth.trans{A:Option Addr}{w w1 w2:World}(h:Oth A w w1)(k:Oth A w1 w2):Oth A w w2:=
 ⟨Nat.le_trans h.1 k.1,fun j hj ha=>(k.2 j (Nat.lt_of_lt_of_le hj h.1) ha).trans (h.2 j hj ha)⟩
theorem Oth.low{A:Option Addr}{w w1:World}(h:Below w.heap.size w w1):Oth A w w1:=⟨h.size,fun k hk _=>h.block k hk⟩
theorem Oth.wrote{A:Option Addr}{w w1:World}{b ty:Nat}{cs:List Value}(h:Wrote w w1 b ty cs)(ha:∃a,A=some a/\a.block=b):Oth A w w1:=
 ⟨by rw[h.size];exact Nat.le_refl _,fun k hk hka=>h.rest k fun e=>by obtain⟨a,h1,h2⟩:=ha;exact hka a h1 (e.trans h2.symm)⟩
theorem Oth.fresh{A:Option Addr}{w0 w w1:World}{b ty:Nat}{cs:List Value}(h:Wrote w w1 b ty cs)(k:Oth A w0 w)(hb:w0.heap.size<=b):Oth A w0 w1:=
 ⟨by rw[h.size];exact k.1,fun j hj ha=>(h.rest j (by omega)).trans (k.2 j hj ha)⟩

theorem index_stows{w0:World}{A:Option Addr}{n c:Nat}{l:List Sw}(hl:SlR w0 A 3 (l.map Sw.row))(hlen:l.length=n)(hn:n<2147483648){f:Nat}{a k:Array Value}(hcall:callable Tryz.prog f=true){p:Sw->Bool}
  (hf:∀w,Below w0.heap.size w0 w->∀x∈l,Pure Tryz.prog f (a.toList++([x.val]:List Value)++k.toList).toArray w fun v _=>v= .bool (p x)) {R:Value->World->Prop} {r:Int} (hR:∀w,R (.int .i64 r) w):
  ∀(d i:Nat)(w:World),n - i=d->i<=n->Below w0.heap.size w0 w->r=idxG p i (l.drop i)->F.slices_IndexFunc_api_Stow_api_Stow.L2 A n c f a k n i w0.heap.size w R:=by
 intro d
 induction d with
 |zero=>
  intro i w hd hi hw hr
  rw[List.drop_eq_nil_of_le (by omega)]at hr
  subst hr
  exact F.slices_IndexFunc_api_Stow_api_Stow.L2.step _ _ _ _ _ _ _ _ _ _ _ ⟨fun h=>by omega,fun _=>hR w⟩
 |succ d ih=>
  intro i w hd hi hw hr
  have hil:i<l.length:=by omega
  rw[List.drop_eq_getElem_cons hil,idxG]at hr
  obtain⟨hb,ad,hA,hcell,_⟩:=(hl.keep hw (Nat.le_refl _)).at_ (fun _=>rfl) hlen hil
  refine F.slices_IndexFunc_api_Stow_api_Stow.L2.step _ _ _ _ _ _ _ _ _ _ _ ⟨fun _=> ?_,fun h=>by omega⟩
  refine⟨hb,ad,hA,_,_,_,hcell,hcall,Pure.mono (hf w hw l[i] (List.getElem_mem hil)) ?_⟩
  rintro v w2 b2 rfl
  refine⟨_,rfl,fun h=> ?_,fun h=>⟨by simp only[inR];omega,?_⟩⟩
  ·rw[if_pos h]at hr
   subst hr
   exact hR w2
  ·rw[if_neg (by simp[h])]at hr
   have e3:(i:Int)+1=((i+1:Nat):Int):=by omega
   rw[e3]
   exact ih (i+1) w2 (by omega) (by omega) (kP hw b2) hr
theorem find_none{α:Type}{p:α->Bool}{l:List α}(h:l.findIdx? p=none):l.filter (fun x=> !p x)=l:=by
 rw[List.filter_eq_self]
 intro x hx
 have:=List.findIdx?_eq_none_iff.1 h x hx
 simp[this]
theorem find_some{α:Type}{p:α->Bool}{l:List α}{i:Nat}(h:l.findIdx? p=some i):i<l.length/\(l.take (i+1)).filter (fun x=> !p x)=l.take i:=by
 obtain⟨hi,hp,hlt⟩:=List.findIdx?_eq_some_iff_getElem.1 h
 refine⟨hi,?_⟩
 rw[List.take_add_one,List.getElem?_eq_getElem hi,List.filter_append]
 have e1:(l.take i).filter (fun x=> !p x)=l.take i:=by
  rw[List.filter_eq_self]
  intro x hx
  obtain⟨j,hj,rfl⟩:=List.mem_take_iff_getElem.1 hx
  have:=hlt j (by omega)
  simpa using this
 rw[e1]
 simp[hp]
theorem zeroSw:(Tryz.prog.info? 39).bind (·.zero)=some (.agg #[.int .i64 0,.int .i64 0,.int .i64 0]):=by kernel_rfl

theorem delf_loop{w0:World}{B:Nat}{A:Option Addr}{n c:Nat}{l:List Sw}(hlen:l.length=n)(hn:n<2147483648)(hnc:n<=c){f:Nat}{a k:Array Value}(hcall:callable Tryz.prog f=true){p:Sw->Bool}
  (hf:∀w,Oth A w0 w->∀x:Sw,Pure Tryz.prog f (a.toList++([x.val]:List Value)++k.toList).toArray w fun v _=>v= .bool (p x)) {R:Value->World->Prop}
  (hR:∀m w,Oth A w0 w->OwnR w B 39 A m c 3 ((l.filter fun x=> !p x).map Sw.row)->R (.slice A m c) w):
  ∀(d i j:Nat)(cur:List Sw)(w:World),n - j=d->j<=n->i<=j->cur.length=n->OwnR w B 39 A n c 3 (cur.map Sw.row)->cur.take i=(l.take j).filter (fun x=> !p x)->cur.drop j=l.drop j->Oth A w0 w->B<=w.heap.size->
   F.slices_DeleteFunc_api_Stow_api_Stow.L5 A n c f a k i j B w R:=by
 intro d
 induction d with
 |zero=>
  intro i j cur w hd hj hij hcl ho ht hdr hoth hBw
  have:j=n:=by omega
  subst this
  rw[List.take_of_length_le (l:=l) (by omega)]at ht
  refine F.slices_DeleteFunc_api_Stow_api_Stow.L5.step _ _ _ _ _ _ _ _ _ _ _ ⟨fun h=>by omega,fun _=>⟨by omega,?_⟩⟩
  have os:=ho.short (m:=i) (by omega)
  rw[<-List.map_take,ht]at os
  rw[Int.toNat_natCast]
  refine runOk_clear el_Sws zeroSw (by simp[Value.cells,isCell]) os hij hnc fun w2 o2 b2 k2=>⟨by omega,hR i w2 (hoth.trans ⟨b2.size,k2⟩) o2⟩
 |succ d ih=>
  intro i j cur w hd hj hij hcl ho ht hdr hoth hBw
  have hjl:j<l.length:=by omega
  have hjc:j<cur.length:=by omega
  have ej:cur[j]=l[j]:=by
   have h1:(cur.drop j)[0]? =(l.drop j)[0]? :=by rw[hdr]
   rw[List.getElem?_drop,List.getElem?_drop]at h1
   simpa[hjl,hjc]using h1
  have e3:(j:Int)+1=((j+1:Nat):Int):=by omega
  have e4:(i:Int)+1=((i+1:Nat):Int):=by omega
  have hdr':cur.drop (j+1)=l.drop (j+1):=by
   have:=congrArg (List.drop 1) hdr
   simpa[List.drop_drop]using this
  have ht1:l.take (j+1)=l.take j++[l[j]]:=by rw[List.take_add_one,List.getElem?_eq_getElem hjl];rfl
  obtain⟨hb,ad,hA,hcell,_⟩:=ho.sl.at_ (fun _=>rfl) hcl hjc
  refine F.slices_DeleteFunc_api_Stow_api_Stow.L5.step _ _ _ _ _ _ _ _ _ _ _ ⟨fun _=>⟨hb,ad,hA,_,_,_,hcell,?_⟩,fun h=>by omega⟩
  refine runOk_alloc 39 zeroSw hBw fun w2 hnew b2 hlt=> ?_
  refine⟨_,_,hBw,rfl,hnew,by simp[Value.cells],rfl,fun w3 hw3=> ?_⟩
  have hcells:w3.heap[w.heap.size]? =some (.cells (cur[j].row).toArray 39 (0,0)):=by
   have:=hw3.at_
   simpa[setCells,Value.cells]using this
  have hoth3:Oth A w0 w3:=Oth.fresh hw3 (hoth.trans (Oth.low b2)) hoth.1
  have hblk:∀x,A=some x->x.block<w.heap.size:=fun x hx=>(ho.blk x hx).2
  have o3:OwnR w3 B 39 A n c 3 (cur.map Sw.row):=(ho.below b2).other fun x hx=>hw3.rest _ (by have:=hblk x hx;show x.block≠w.heap.size;omega)
  refine⟨_,_,_,box_all hcells,hcall,Pure.mono (hf w3 hoth3 cur[j]) ?_⟩
  rintro v w4 b4 rfl
  have hoth4:=hoth3.trans (Oth.low (A:=A) b4)
  have o4:=o3.below b4
  have hB4:B<=w4.heap.size:=by have:=b4.size;have:=hw3.size;omega
  refine⟨_,rfl,fun hkeep=> ?_,fun hdel=>⟨by simp only[inR];omega,?_⟩⟩
  ·have hpj:p l[j]=false:=by rw[<-ej];exact hkeep
   obtain⟨g1,a2,hA2,cs,g2,g3,g4,g5,g6⟩:=o4.set0 (i:=(i:Int)) (by omega) (by omega) (cur[j].row) ((cur[i]'(by omega)).row) (by rw[Int.toNat_natCast,List.getElem?_map,List.getElem?_eq_getElem (by omega)];rfl) rfl
   refine⟨_,_,_,box_all (heap_keep hcells b4),g1,a2,hA2,cs,_,g2,g3,g4,g5,rfl,fun w5 hw5=>⟨by simp only[inR];omega,by simp only[inR];omega,?_⟩⟩
   have o5:=g6 w5 hw5
   rw[Int.toNat_natCast]at o5
   have hadd:(a2.add ((i:Int).toNat*3)).block=a2.block:=by unfold Addr.add;split<;>rfl
   rw[e3,e4]
   refine ih (i+1) (j+1) (cur.set i cur[j]) w5 (by omega) (by omega) (by omega) (by simp[hcl]) (by rw[List.map_set];exact o5) ?_ ?_ (hoth4.trans (Oth.wrote hw5 ⟨a2,hA2,hadd.symm⟩)) (by rw[hw5.size];exact hB4)
   ·rw[List.take_add_one,List.getElem?_set_self (by omega),List.take_set_of_le (by omega),ht,ht1,List.filter_append,ej]
    simp[hpj]
   ·rw[List.drop_set_of_lt (by omega)]
    exact hdr'
  ·have hpj:p l[j]=true:=by rw[<-ej];simpa using hdel
   rw[e3]
   refine ih i (j+1) cur w4 (by omega) (by omega) (by omega) hcl o4 ?_ hdr' hoth4 hB4
   rw[ht,ht1,List.filter_append]
   simp[hpj]
theorem DeleteFuncS{w:World}{B:Nat}(hB:B<=w.heap.size){A:Option Addr}{n c:Nat}{l:List Sw}(ho:OwnR w B 39 A n c 3 (l.map Sw.row))(hn:n<2147483648){f:Nat}{a k:Array Value}(hcall:callable Tryz.prog f=true){p:Sw->Bool}
  (hf:∀w',Oth A w w'->∀x:Sw,Pure Tryz.prog f (a.toList++([x.val]:List Value)++k.toList).toArray w' fun v _=>v= .bool (p x)):
  PureB Tryz.prog 139 #[.slice A n c,.func (.func f) a k] B w fun v w'=>∃m,v= .slice A m c/\OwnR w' B 39 A m c 3 ((l.filter fun x=> !p x).map Sw.row)/\Oth A w w':=by
 have hlen:l.length=n:=by have:=ho.len;simpa using this
 have hnc:=ho.len_le
 refine F.slices_DeleteFunc_api_Stow_api_Stow.vcB _ _ _ _ _ _ _ _ hB _ ?_
 refine Pure.mono (F.slices_IndexFunc_api_Stow_api_Stow.vc _ _ _ _ _ _ _ _ (index_stows ho.sl hlen hn hcall (fun w' hb x _=>hf w' (Oth.low hb) x) (R:=fun v _=>v= .int .i64 (idxG p 0 l)) (fun _=>rfl) n 0 w rfl (by omega) (Below.refl _ _) rfl)) ?_
 rintro v w2 b2 rfl
 have key:=idxG_find p l 0
 cases hx:l.findIdx? p with
 |none=>
  rw[hx]at key
  simp only at key
  rw[key]
  refine⟨_,rfl,fun _=>⟨n,rfl,?_,Oth.low b2⟩,fun h=>absurd rfl h⟩
  rw[find_none hx]
  exact ho.below b2
 |some i=>
  rw[hx]at key
  simp only[Nat.zero_add]at key
  rw[key]
  obtain⟨hil,hfi⟩:=find_some hx
  have e3:(i:Int)+1=((i+1:Nat):Int):=by omega
  refine⟨_,rfl,fun h=>by omega,fun _=>⟨by simp only[inR];omega,?_⟩⟩
  rw[e3]
  exact delf_loop (w0:=w) hlen hn hnc hcall hf (fun m w' hoth o=>⟨m,rfl,o,hoth⟩) (n - (i+1)) i (i+1) l w2 rfl (by omega) (by omega) hlen (ho.below b2) hfi.symm rfl (Oth.low b2) (Nat.le_trans hB b2.size)

def gP(ps:List Pa)(f:Pa->ByteArray)(id:Int):Rat:=match (pix ps id).bind fun i=>ps[i]? with|some p=>qR (f p)|none=>0
def gH(hs:List Ho)(f:Ho->ByteArray)(id:Int):Rat:=match (hix hs id).bind fun i=>hs[i]? with|some h=>qR (f h)|none=>0
def tP(ps:List Pa)(f:Pa->ByteArray)(s:Sw):Rat:=(s.units:Rat)*gP ps f s.parcel
def tH(ps:List Pa)(hs:List Ho)(f:Ho->ByteArray)(s:Sw):Rat:=(s.units:Rat)*gP ps Pa.mass s.parcel*gH hs f s.hold
abbrev ldV(a b c x y z:Rat):Value:= .agg #[.string (rS a),.string (rS b),.string (rS c),.string (rS x),.string (rS y),.string (rS z)]
def ldF(ps:List Pa)(hs:List Ho)(l:List Sw):Value:=ldV (sumR (tP ps Pa.mass) l) (sumR (tP ps Pa.vol) l) (sumR (tP ps Pa.worth) l) (sumR (tH ps hs Ho.x) l) (sumR (tH ps hs Ho.y) l) (sumR (tH ps hs Ho.z) l)
theorem gP_at{ps:List Pa}{id:Int}{i:Nat}{p:Pa}(h:pix ps id=some i)(e:ps[i]? =some p)(f:Pa->ByteArray):gP ps f id=qR (f p):=by
 unfold gP;rw[h,Option.bind_some,e]
theorem gH_at{hs:List Ho}{id:Int}{i:Nat}{p:Ho}(h:hix hs id=some i)(e:hs[i]? =some p)(f:Ho->ByteArray):gH hs f id=qR (f p):=by
 unfold gH;rw[h,Option.bind_some,e]
theorem sumR_snoc(f:Sw->Rat)(l:List Sw)(s:Sw):sumR f (l++[s])=sumR f l+f s:=by rw[sumR_append,sumR_one]
theorem pix_lt{ps:List Pa}{id:Int}{i:Nat}(h:pix ps id=some i):∃hi:i<ps.length,ps[i].id=id:=by
 obtain⟨p,e,k⟩:=pix_some h
 obtain⟨hi,rfl⟩:=List.getElem?_eq_some_iff.1 e
 exact⟨hi,k⟩
theorem hix_lt{hs:List Ho}{id:Int}{i:Nat}(h:hix hs id=some i):∃hi:i<hs.length,hs[i].id=id:=by
 obtain⟨p,e,k⟩:=hix_some h
 obtain⟨hi,rfl⟩:=List.getElem?_eq_some_iff.1 e
 exact⟨hi,k⟩
structure LdOk (ps:List Pa) (hs:List Ho) (l:List Sw):Prop where
 c:RightC ps hs
 known:∀s∈l,∃i k,pix ps s.parcel=some i/\hix hs s.hold=some k
 u:∀s∈l,1<=s.units/\s.units<=9
 n:l.length<=40
theorem LdOk.filter{ps:List Pa}{hs:List Ho}{l:List Sw}(h:LdOk ps hs l)(q:Sw->Bool):LdOk ps hs (l.filter q):=
 ⟨h.c,fun s hs'=>h.known s (List.mem_filter.1 hs').1,fun s hs'=>h.u s (List.mem_filter.1 hs').1,Nat.le_trans (List.length_filter_le _ _) h.n⟩
theorem units_mem{l:List Sw}(h:∀s∈l,1<=s.units){s:Sw}(hs:s∈l):s.units<=unitsF l s.parcel:=by
 obtain⟨a,b,rfl⟩:=List.append_of_mem hs
 rw[show a++s::b=a++([s]++b)from rfl,unitsF_append,unitsF_append,unitsF_one,if_pos rfl]
 have h1:=unitsF_nonneg (l:=a) (fun x hx=>h x (by simp[hx])) s.parcel
 have h2:=unitsF_nonneg (l:=b) (fun x hx=>h x (by simp[hx])) s.parcel
 omega
theorem RightS.ld{ps:List Pa}{hs:List Ho}{l:List Sw}(h:RightS ps hs l)(hn:l.length<=40):LdOk ps hs l:=by
 refine⟨h.c,h.known,fun s hs'=>⟨h.pos s hs',?_⟩,hn⟩
 obtain⟨i,k,hi,_⟩:=h.known s hs'
 obtain⟨p,e,hid⟩:=pix_some hi
 have hm:=List.mem_of_getElem? e
 have h1:=h.full p hm
 have h2:=units_mem h.pos hs'
 have h3:=(h.c.p1 p hm).2.1.2
 rw[hid]at h1
 omega
theorem sm_n{z:Int}(h1:1<=z)(h9:z<=9):Sm 1 (z:Rat):=Sm.ofInt (by omega) (by omega)
theorem sm_sum{f:Sw->Rat}{l:List Sw}(h:∀s∈l,Sm 2001 (f s)):Sm (2002*l.length+1) (sumR f l):=by
 induction l with
 |nil=>exact Sm.zero (by omega)
 |cons s r ih=>
  rw[show s::r=[s]++r from rfl,sumR_append,sumR_one]
  refine((h s (by simp)).add (ih fun x hx=>h x (by simp[hx]))).mono ?_
  simp
  omega

section
variable {w0:World} {A0 A1 A:Option Addr} {n0 c0 n1 c1 n c:Nat} {ps:List Pa} {hs:List Ho} {l:List Sw} {R:Value->World->Prop}
theorem LdOk.smP(h:LdOk ps hs l)(hc:CgIn w0 A0 n0 A1 n1 ps hs){s:Sw}(hs':s∈l):Sm 1000 (gP ps Pa.mass s.parcel)/\Sm 1000 (gP ps Pa.vol s.parcel)/\Sm 1000 (gP ps Pa.worth s.parcel):=by
 obtain⟨i,k,hi,_⟩:=h.known s hs'
 obtain⟨p,e,_⟩:=pix_some hi
 have hm:=List.mem_of_getElem? e
 have hv:=h.c.vp p hm
 have hsm:=hc.sp p hm
 unfold vP at hv
 simp only[Bool.and_eq_true]at hv
 rw[gP_at hi e,gP_at hi e,gP_at hi e]
 exact⟨vR_sm hv.1.1 hsm.mass,vR_sm hv.1.2 hsm.vol,vR_sm hv.2 hsm.worth⟩
theorem LdOk.smH(h:LdOk ps hs l)(hc:CgIn w0 A0 n0 A1 n1 ps hs){s:Sw}(hs':s∈l):Sm 1000 (gH hs Ho.x s.hold)/\Sm 1000 (gH hs Ho.y s.hold)/\Sm 1000 (gH hs Ho.z s.hold):=by
 obtain⟨_,i,_,hi⟩:=h.known s hs'
 obtain⟨p,e,_⟩:=hix_some hi
 have hm:=List.mem_of_getElem? e
 have hv:=h.c.vh p hm
 have hsm:=hc.sh p hm
 unfold vH at hv
 simp only[Bool.and_eq_true]at hv
 rw[gH_at hi e,gH_at hi e,gH_at hi e]
 exact⟨vR_sm hv.1.1.2 hsm.x,vR_sm hv.1.2 hsm.y,vR_sm hv.2 hsm.z⟩
theorem LdOk.smT(h:LdOk ps hs l)(hc:CgIn w0 A0 n0 A1 n1 ps hs){s:Sw}(hs':s∈l):
  (Sm 2001 (tP ps Pa.mass s)/\Sm 2001 (tP ps Pa.vol s)/\Sm 2001 (tP ps Pa.worth s))/\(Sm 2001 (tH ps hs Ho.x s)/\Sm 2001 (tH ps hs Ho.y s)/\Sm 2001 (tH ps hs Ho.z s)):=by
 obtain⟨a,b,d⟩:=h.smP hc hs'
 obtain⟨x,y,z⟩:=h.smH hc hs'
 have hn:=sm_n (h.u s hs').1 (h.u s hs').2
 exact⟨⟨(hn.mul a).mono (by omega),(hn.mul b).mono (by omega),(hn.mul d).mono (by omega)⟩,((hn.mul a).mul x).mono (by omega),((hn.mul a).mul y).mono (by omega),((hn.mul a).mul z).mono (by omega)⟩
theorem LdOk.smL(h:LdOk ps hs l)(hc:CgIn w0 A0 n0 A1 n1 ps hs):
  (Big (sumR (tP ps Pa.mass) l)/\Big (sumR (tP ps Pa.vol) l)/\Big (sumR (tP ps Pa.worth) l))/\(Big (sumR (tH ps hs Ho.x) l)/\Big (sumR (tH ps hs Ho.y) l)/\Big (sumR (tH ps hs Ho.z) l)):=by
 have hn:=h.n
 exact⟨⟨(sm_sum fun s hs'=>(h.smT hc hs').1.1).mono (by omega),(sm_sum fun s hs'=>(h.smT hc hs').1.2.1).mono (by omega),(sm_sum fun s hs'=>(h.smT hc hs').1.2.2).mono (by omega)⟩,
  (sm_sum fun s hs'=>(h.smT hc hs').2.1).mono (by omega),(sm_sum fun s hs'=>(h.smT hc hs').2.2.1).mono (by omega),(sm_sum fun s hs'=>(h.smT hc hs').2.2.2).mono (by omega)⟩
theorem LdOk.take(h:LdOk ps hs l)(i:Nat):LdOk ps hs (l.take i):=
 ⟨h.c,fun s hs'=>h.known s (List.mem_of_mem_take hs'),fun s hs'=>h.u s (List.mem_of_mem_take hs'),by have:=h.n;rw[List.length_take];omega⟩

theorem laden_L3 (hg : Glob w0) (hc : CgIn w0 A0 n0 A1 n1 ps hs) (h : SlR w0 A 3 (l.map Sw.row)) (hl : l.length = n) (hok : LdOk ps hs l) (t0 t1 t2 t3 t4 t5 : ByteArray) :
    ∀ (d i : Nat) (w : World), n - i = d → i ≤ n → Below w0.heap.size w0 w →
      F.cargo_laden.L3 A n c n i A0 n0 c0 A1 n1 c1 t0 t1 t2 t3 t4 t5 (rS (sumR (tP ps Pa.mass) (l.take i))) (rS (sumR (tP ps Pa.vol) (l.take i))) (rS (sumR (tP ps Pa.worth) (l.take i))) (rS (sumR (tH ps hs Ho.x) (l.take i))) (rS (sumR (tH ps hs Ho.y) (l.take i))) (rS (sumR (tH ps hs Ho.z) (l.take i))) w0.heap.size w fun v _ => v = ldF ps hs l := by
  intro d
  induction d with
  | zero =>
    intro i w hd hi hw
    refine F.cargo_laden.L3.step _ _ _ _ _ _ _ _ _ _ _ _ _ _ _ _ _ _ _ _ _ _ _ _ _ _ ⟨fun h => by omega, fun _ w2 _ => ?_⟩
    rw [List.take_of_length_le (by omega)]
    rfl
  | succ d ih =>
    intro i w hd hi hw
    have hil : i < l.length := by omega
    have hn40 := hok.n
    have e3 : (i : Int) + 1 = ((i + 1 : Nat) : Int) := by omega
    have et : l.take (i + 1) = l.take i ++ [l[i]] := by rw [List.take_add_one, List.getElem?_eq_getElem hil]; rfl
    have hmem : l[i] ∈ l := List.getElem_mem hil
    obtain ⟨ip, ih', hip, hih⟩ := hok.known l[i] hmem
    obtain ⟨hpl, hpid⟩ := pix_lt hip
    obtain ⟨hhl, hhid⟩ := hix_lt hih
    obtain ⟨⟨b1, b2, b3⟩, b4, b5, b6⟩ := (hok.take i).smL hc
    obtain ⟨m1, m2, m3⟩ := hok.smP hc hmem
    obtain ⟨m4, m5, m6⟩ := hok.smH hc hmem
    obtain ⟨⟨k1, k2, k3⟩, k4, k5, k6⟩ := hok.smT hc hmem
    have hu := hok.u l[i] hmem
    have hun := sm_n hu.1 hu.2
    have hunB : Big ((l[i].units : Int) : Rat) := hun.mono (by omega)
    have hvp := hok.c.vp _ (List.getElem_mem hpl)
    have hvh := hok.c.vh _ (List.getElem_mem hhl)
    unfold vP at hvp
    unfold vH at hvh
    simp only [Bool.and_eq_true] at hvp hvh
    have p1 : ps[ip].mass = rS (gP ps Pa.mass l[i].parcel) := by rw [gP_at hip (List.getElem?_eq_getElem hpl)]; exact vR_eq hvp.1.1
    have p2 : ps[ip].vol = rS (gP ps Pa.vol l[i].parcel) := by rw [gP_at hip (List.getElem?_eq_getElem hpl)]; exact vR_eq hvp.1.2
    have p3 : ps[ip].worth = rS (gP ps Pa.worth l[i].parcel) := by rw [gP_at hip (List.getElem?_eq_getElem hpl)]; exact vR_eq hvp.2
    have p4 : hs[ih'].x = rS (gH hs Ho.x l[i].hold) := by rw [gH_at hih (List.getElem?_eq_getElem hhl)]; exact vR_eq hvh.1.1.2
    have p5 : hs[ih'].y = rS (gH hs Ho.y l[i].hold) := by rw [gH_at hih (List.getElem?_eq_getElem hhl)]; exact vR_eq hvh.1.2
    have p6 : hs[ih'].z = rS (gH hs Ho.z l[i].hold) := by rw [gH_at hih (List.getElem?_eq_getElem hhl)]; exact vR_eq hvh.2
    have big : ∀ {x : Rat}, Sm 2001 x → Big x := fun h => h.mono (by omega)
    have bg : ∀ {x : Rat}, Sm 1000 x → Big x := fun h => h.mono (by omega)
    have fin : ∀ (w : World) (a b : Int), Below w0.heap.size w0 w →
        F.cargo_laden.J6 A n c n i A0 n0 c0 A1 n1 c1 t0 t1 t2 t3 t4 t5 (rS (sumR (tP ps Pa.mass) (l.take i))) (rS (sumR (tP ps Pa.vol) (l.take i))) (rS (sumR (tP ps Pa.worth) (l.take i))) (rS (sumR (tH ps hs Ho.x) (l.take i))) (rS (sumR (tH ps hs Ho.y) (l.take i))) (rS (sumR (tH ps hs Ho.z) (l.take i)))
          l[i].hold l[i].parcel l[i].units ps[ip].id a b ps[ip].name ps[ip].mass ps[ip].vol ps[ip].worth hs[ih'].x hs[ih'].y hs[ih'].z w0.heap.size w fun v _ => v = ldF ps hs l := by
      intro w a b hw
      rw [p1, p2, p3, p4, p5, p6]
      have next : ∀ w', Below w0.heap.size w0 w' → F.cargo_laden.L3 A n c n ((i : Int) + 1) A0 n0 c0 A1 n1 c1 t0 t1 t2 t3 t4 t5 (rS (sumR (tP ps Pa.mass) (l.take i) + tP ps Pa.mass l[i])) (rS (sumR (tP ps Pa.vol) (l.take i) + tP ps Pa.vol l[i])) (rS (sumR (tP ps Pa.worth) (l.take i) + tP ps Pa.worth l[i])) (rS (sumR (tH ps hs Ho.x) (l.take i) + tH ps hs Ho.x l[i])) (rS (sumR (tH ps hs Ho.y) (l.take i) + tH ps hs Ho.y l[i])) (rS (sumR (tH ps hs Ho.z) (l.take i) + tH ps hs Ho.z l[i])) w0.heap.size w' fun v _ => v = ldF ps hs l := by
        intro w' hw'
        have := ih (i + 1) w' (by omega) (by omega) hw'
        rw [et] at this
        simp only [sumR_snoc] at this
        rw [e3]
        exact this
      unfold tP tH at *
      refine F.cargo_laden.J6.step _ _ _ _ _ _ _ _ _ _ _ _ _ _ _ _ _ _ _ _ _ _ _ _ _ _ _ _ _ _ _ _ _ _ _ _ _ _ _ (Pure.mono (cargo_number (hg.next hw) (by omega) (by omega)) ?_)
      rintro v w1 h1 rfl
      have hw := kP hw h1; clear h1
      refine ⟨_, rfl, Pure.mono (cargo_mul (hg.next hw) hunB (bg m1)) ?_⟩
      rintro v w2 h1 rfl
      have hw := kP hw h1; clear h1
      refine ⟨_, rfl, fun w3 x3 => ?_⟩
      have hw := kE hw x3; clear x3
      refine Pure.mono (cargo_add (hg.next hw) b1 (big k1)) ?_
      rintro v w4 h1 rfl
      have hw := kP hw h1; clear h1
      refine ⟨_, rfl, Pure.mono (cargo_mul (hg.next hw) hunB (bg m2)) ?_⟩
      rintro v w5 h1 rfl
      have hw := kP hw h1; clear h1
      refine ⟨_, rfl, Pure.mono (cargo_add (hg.next hw) b2 (big k2)) ?_⟩
      rintro v w6 h1 rfl
      have hw := kP hw h1; clear h1
      refine ⟨_, rfl, Pure.mono (cargo_mul (hg.next hw) hunB (bg m3)) ?_⟩
      rintro v w7 h1 rfl
      have hw := kP hw h1; clear h1
      refine ⟨_, rfl, Pure.mono (cargo_add (hg.next hw) b3 (big k3)) ?_⟩
      rintro v w8 h1 rfl
      have hw := kP hw h1; clear h1
      refine ⟨_, rfl, fun w9 x9 => ?_⟩
      have hw := kE hw x9; clear x9
      refine Pure.mono (cargo_mul (hg.next hw) (big k1) (bg m4)) ?_
      rintro v w10 h1 rfl
      have hw := kP hw h1; clear h1
      refine ⟨_, rfl, Pure.mono (cargo_add (hg.next hw) b4 (big k4)) ?_⟩
      rintro v w11 h1 rfl
      have hw := kP hw h1; clear h1
      refine ⟨_, rfl, Pure.mono (cargo_mul (hg.next hw) (big k1) (bg m5)) ?_⟩
      rintro v w12 h1 rfl
      have hw := kP hw h1; clear h1
      refine ⟨_, rfl, Pure.mono (cargo_add (hg.next hw) b5 (big k5)) ?_⟩
      rintro v w13 h1 rfl
      have hw := kP hw h1; clear h1
      refine ⟨_, rfl, Pure.mono (cargo_mul (hg.next hw) (big k1) (bg m6)) ?_⟩
      rintro v w14 h1 rfl
      have hw := kP hw h1; clear h1
      refine ⟨_, rfl, Pure.mono (cargo_add (hg.next hw) b6 (big k6)) ?_⟩
      rintro v w15 h1 rfl
      have hw := kP hw h1; clear h1
      refine ⟨_, rfl, by simp only [inR]; omega, fun w16 x16 => ?_⟩
      exact next w16 (kE hw x16)
    clear ih
    obtain ⟨hb, a, hA, hcell, _⟩ := (h.keep hw (Nat.le_refl _)).at_ (fun _ => rfl) hl hil
    obtain ⟨hbp, ap, hAp, _⟩ := hc.p.at_ (fun _ => rfl) hc.lp hpl
    obtain ⟨hbh, ah, hAh, _⟩ := hc.h.at_ (fun _ => rfl) hc.lh hhl
    have cP : ∀ w, Below w0.heap.size w0 w → CellsAt w (ap.add ((ip : Int).toNat * 7)) (ps[ip].row) := fun w hw => by
      obtain ⟨_, a', hA', hc', _⟩ := (hc.p.keep hw (Nat.le_refl _)).at_ (fun _ => rfl) hc.lp hpl
      rw [hAp] at hA'
      cases hA'
      exact hc'
    have cH : ∀ w, Below w0.heap.size w0 w → CellsAt w ((ah.add ((ih' : Int).toNat * 7)).add 4) [.string hs[ih'].x, .string hs[ih'].y, .string hs[ih'].z] := fun w hw => by
      obtain ⟨_, a', hA', hc', _⟩ := (hc.h.keep hw (Nat.le_refl _)).at_ (fun _ => rfl) hc.lh hhl
      rw [hAh] at hA'
      cases hA'
      exact cells_part hc' 4 3
    refine F.cargo_laden.L3.step _ _ _ _ _ _ _ _ _ _ _ _ _ _ _ _ _ _ _ _ _ _ _ _ _ _ ⟨fun _ => ⟨hb, a, hA, _, _, _, hcell, fun w6 x6 => ?_⟩, fun h => by omega⟩
    have hw6 := kE hw x6
    have par : ∀ w, Below w0.heap.size w0 w → Pure Tryz.prog 62 #[.agg #[.slice A0 n0 c0, .slice A1 n1 c1], .int .i64 l[i].parcel] w fun v _ => v = .int .i64 (ip : Int) := fun w hw => by
      have := cargo_parcel (c0 := c0) (c1 := c1) (hc.keep hw) l[i].parcel
      rw [hip] at this
      exact this
    have hol : ∀ w, Below w0.heap.size w0 w → Pure Tryz.prog 63 #[.agg #[.slice A0 n0 c0, .slice A1 n1 c1], .int .i64 l[i].hold] w fun v _ => v = .int .i64 (ih' : Int) := fun w hw => by
      have := cargo_hold (c0 := c0) (c1 := c1) (hc.keep hw) l[i].hold
      rw [hih] at this
      exact this
    have leafA : ∀ (w : World), Below w0.heap.size w0 w → ∃ s25 s26 s27 : ByteArray, CellsAt w ((ah.add ((ih' : Int).toNat * 7)).add 4) [.string s25, .string s26, .string s27] ∧ ∀ (ts : List Nat) w28, Ext w0.heap.size ts w w28 → F.cargo_laden.J6 A n c n i A0 n0 c0 A1 n1 c1 t0 t1 t2 t3 t4 t5 (rS (sumR (tP ps Pa.mass) (l.take i))) (rS (sumR (tP ps Pa.vol) (l.take i))) (rS (sumR (tP ps Pa.worth) (l.take i))) (rS (sumR (tH ps hs Ho.x) (l.take i))) (rS (sumR (tH ps hs Ho.y) (l.take i))) (rS (sumR (tH ps hs Ho.z) (l.take i)))
          l[i].hold l[i].parcel l[i].units ps[ip].id ps[ip].units ps[ip].cls ps[ip].name ps[ip].mass ps[ip].vol ps[ip].worth s25 s26 s27 w0.heap.size w28 fun v _ => v = ldF ps hs l :=
      fun w hw => ⟨_, _, _, cH w hw, fun ts w28 x => fin w28 _ _ (kE hw x)⟩
    have leaf2 : ∀ (ts ts' : List Nat) (w : World), Below w0.heap.size w0 w → ∀ w24, Ext w0.heap.size ts w w24 → ∃ s25 s26 s27 : ByteArray, CellsAt w24 ((ah.add ((ih' : Int).toNat * 7)).add 4) [.string s25, .string s26, .string s27] ∧ ∀ w28, Ext w0.heap.size ts' w24 w28 → F.cargo_laden.J6 A n c n i A0 n0 c0 A1 n1 c1 t0 t1 t2 t3 t4 t5 (rS (sumR (tP ps Pa.mass) (l.take i))) (rS (sumR (tP ps Pa.vol) (l.take i))) (rS (sumR (tP ps Pa.worth) (l.take i))) (rS (sumR (tH ps hs Ho.x) (l.take i))) (rS (sumR (tH ps hs Ho.y) (l.take i))) (rS (sumR (tH ps hs Ho.z) (l.take i)))
          l[i].hold l[i].parcel l[i].units ps[ip].id ps[ip].units ps[ip].cls ps[ip].name ps[ip].mass ps[ip].vol ps[ip].worth s25 s26 s27 w0.heap.size w28 fun v _ => v = ldF ps hs l :=
      fun ts ts' w hw w24 x => by
        obtain ⟨s1, s2, s3, e, f⟩ := leafA w24 (kE hw x)
        exact ⟨s1, s2, s3, e, fun w28 x28 => f ts' w28 x28⟩
    clear fin
    refine ⟨fun w7 x7 => ?_, fun w55 x55 => ?_⟩
    · have hw7 := kE hw6 x7
      refine Pure.mono (par w7 hw7) ?_
      rintro v w10 h10 rfl
      have hw10 := kP hw7 h10
      refine ⟨_, rfl, hbp, ap, hAp, _, _, _, _, _, _, _, cP w6 hw6, fun w19 x19 => ?_, fun w34 x34 => ?_⟩
      · have hw19 := kE hw10 x19
        refine Pure.mono (hol w19 hw19) ?_
        rintro v w22 h22 rfl
        have hw22 := kP hw19 h22
        exact ⟨_, rfl, hbh, ah, hAh, leaf2 _ _ w22 hw22, leaf2 _ _ w22 hw22⟩
      · have hw34 := kE hw10 x34
        refine Pure.mono (hol w34 hw34) ?_
        rintro v w37 h37 rfl
        have hw37 := kP hw34 h37
        exact ⟨_, rfl, ⟨hbh, ah, hAh, leaf2 _ _ w37 hw37, leaf2 _ _ w37 hw37⟩, hbh, ah, hAh, leaf2 _ _ w37 hw37⟩
    · have hw55 := kE hw6 x55
      refine Pure.mono (par w55 hw55) ?_
      rintro v w58 h58 rfl
      have hw58 := kP hw55 h58
      refine ⟨_, rfl, hbp, ap, hAp, _, _, _, _, _, _, _, cP w6 hw6, fun w67 x67 => ?_⟩
      have hw67 := kE hw58 x67
      refine Pure.mono (hol w67 hw67) ?_
      rintro v w70 h70 rfl
      have hw70 := kP hw67 h70
      exact ⟨_, rfl, hbh, ah, hAh, leaf2 _ _ w70 hw70, leaf2 _ _ w70 hw70⟩
theorem cargo_laden(hg:Glob w0)(hc:CgIn w0 A0 n0 A1 n1 ps hs)(h:SlR w0 A 3 (l.map Sw.row))(hl:l.length=n)(hok:LdOk ps hs l):
  Pure Tryz.prog 103 #[.agg #[.slice A0 n0 c0,.slice A1 n1 c1],.slice A n c] w0 fun v _=>v=ldF ps hs l:=by
 refine F.cargo_laden.vc _ _ _ _ _ _ _ _ _ _ _ fun w1 x1=> ?_
 have:=laden_L3 (c:=c) (c0:=c0) (c1:=c1) hg hc h hl hok (⟨#[]⟩) (⟨#[]⟩) (⟨#[]⟩) (⟨#[]⟩) (⟨#[]⟩) (⟨#[]⟩) n 0 w1 rfl (by omega) (k0 x1)
 simp only[List.take_zero,sumR_nil,<-s0]at this
 exact this
end

theorem CloneS{w:World}{A:Option Addr}{n c:Nat}{l:List Sw}(h:SlR w A 3 (l.map Sw.row))(hlen:l.length=n)(hn:n<=1000000):
  Pure Tryz.prog 14 #[.slice A n c] w fun v w'=>∃A' c',v= .slice A' n c'/\OwnR w' w.heap.size 39 A' n c' 3 (l.map Sw.row):=by
 refine F.slices_Clone_api_Stow_api_Stow.vc _ _ _ _ _ ⟨fun hA=> ?_,fun hA=> ?_⟩
 ·subst hA
  have:=h.none_nil
  simp at this
  subst this
  simp at hlen
  subst hlen
  exact⟨none,0,rfl,OwnR.nil⟩
 ·obtain⟨a,rfl⟩:=Option.ne_none_iff_exists'.1 hA
  refine runOk_lit el_Sws [] (by simp) (by simp) (Nat.le_refl _) fun A2 c2 w2 ho b2=> ?_
  refine app_rows el_Sws (Nat.le_refl _) (by simpa using ho) (h.below b2) (by simpa using hlen) (fun r hr=>by obtain⟨s,_,rfl⟩:=List.mem_map.1 hr;rfl) (fun r hr=>by obtain⟨s,_,rfl⟩:=List.mem_map.1 hr;intro u hu;simp[Sw.row]at hu;rcases hu with rfl|rfl|rfl<;>rfl) b2.size (by simp;omega) (by simp) fun A' c' w3 o3 _ b3=> ?_
  simp only[List.length_nil,Nat.zero_add,List.nil_append]at o3⊢
  exact⟨A',c',rfl,o3⟩
def inS(l:List Sw)(id:Int):List Sw:=l.filter fun s=>decide (s.hold=id)
theorem cargo_in{w:World}{A:Option Addr}{n c:Nat}{l:List Sw}(h:SlR w A 3 (l.map Sw.row))(hlen:l.length=n)(hn:n<=1000000)(id:Int):
  Pure Tryz.prog 104 #[.slice A n c,.int .i64 id] w fun v w'=>∃A' m c',v= .slice A' m c'/\SlR w' A' 3 ((inS l id).map Sw.row)/\(inS l id).length=m:=by
 refine F.cargo_in.vc _ _ _ _ _ _ fun w1 x1=> ?_
 have hw1:=k0 x1
 refine Pure.mono (CloneS (h.keep hw1 (Nat.le_refl _)) hlen hn) ?_
 rintro v w4 b4 ⟨A',c',rfl,ho⟩
 refine⟨_,_,_,rfl,fun p5 hp5 hbox=> ?_⟩
 have hw4:=kP hw1 b4
 have hne:∀a,A'=some a->p5≠a.block:=fun a ha e=>by
  obtain⟨cs,hcs⟩:=ho.cells a ha
  rw[<-e,hbox]at hcs
  simp at hcs
 have hlt:p5<w4.heap.size:=(Array.getElem?_eq_some_iff.1 hbox).1
 refine PureB.mono (DeleteFuncS (p:=fun s=>decide (s.hold≠id)) hw4.size (ho.base hw1.size) (by omega) (by kernel_rfl) fun w' hoth x=> ?_) ?_
 ·refine F.cargo_in_c1.vc _ _ _ _ _ _ fun w5 x5=>⟨_,box_all (ty:=3) ?_,rfl⟩
  exact(k0 x5).block p5 (Nat.lt_of_lt_of_le hlt hoth.1)|>.trans ((hoth.2 p5 hlt hne).trans hbox)
 ·rintro v w8 b8 ⟨m,rfl,o8,_⟩
  refine⟨fun _ _ _ ht=>(by cases ht),_,_,_,rfl,_,_,_,rfl,?_⟩
  have e:(l.filter fun x=> !(decide (x.hold≠id)))=inS l id:=by
   unfold inS
   refine List.filter_congr fun s _=> ?_
   by_cases h:s.hold=id<;>simp[h]
  rw[e]at o8
  exact⟨o8.sl,by simpa using o8.len⟩

abbrev ld0:Value:= .agg #[.string ⟨#[]⟩,.string ⟨#[]⟩,.string ⟨#[]⟩,.string ⟨#[]⟩,.string ⟨#[]⟩,.string ⟨#[]⟩]
def heldV(ps:List Pa)(hs:List Ho)(l:List Sw)(id:Int):Value:=
 if stowedF ps hs l≠0 then .tuple #[ld0,.int .i64 1]else if hix hs id=none then .tuple #[ld0,.int .i64 7]else .tuple #[ldF ps hs (inS l id),.int .i64 0]
def overB(ps:List Pa)(_:List Ho)(l:List Sw)(h:Ho):Bool:=
 decide (qR h.most<sumR (tP ps Pa.mass) (inS l h.id))||decide (qR h.room<sumR (tP ps Pa.vol) (inS l h.id))
def overV(ps:List Pa)(hs:List Ho)(l:List Sw):Value:=
 if stowedF ps hs l≠0 then .tuple #[.int .i64 0,.int .i64 1]else .tuple #[.int .i64 (ixI (hs.findIdx? (overB ps hs l))),.int .i64 0]
theorem ixI_neg{o:Option Nat}:ixI o<0↔o=none:=by cases o<;>simp[ixI]

section
variable {w:World} {A0 A1 A:Option Addr} {n0 c0 n1 c1 n c:Nat} {ps:List Pa} {hs:List Ho} {l:List Sw}
theorem cargo_Held(hg:Glob w)(hc:CgIn w A0 n0 A1 n1 ps hs)(h:SlR w A 3 (l.map Sw.row))(hl:l.length=n)(hnc:n<=c)(hn:n<=40)(id:Int):
  Pure Tryz.prog 129 #[.agg #[.slice A0 n0 c0,.slice A1 n1 c1],.slice A n c,.int .i64 id] w fun v _=>v=heldV ps hs l id:=by
 refine F.cargo_Held.vc _ _ _ _ _ _ _ _ _ _ _ _ fun w1 x1=> ?_
 have hw:=k0 x1
 refine Pure.mono (cargo_Stowed (hg.next hw) (hc.keep hw) (h.keep hw (Nat.le_refl _)) hl hnc (by omega)) ?_
 rintro v w4 b4 rfl
 have hw:=kP hw b4
 unfold heldV
 refine⟨_,rfl,fun h0 w5 _=>by rw[if_pos h0],fun h0=> ?_⟩
 rw[if_neg h0]
 have hok:=(stowed_right (Decidable.not_not.1 h0)).ld (by omega)
 refine Pure.mono (cargo_hold (hc.keep hw) id) ?_
 rintro v w8 b8 rfl
 have hw:=kP hw b8
 refine⟨_,rfl,fun h1 w9 _=>by rw[if_pos (ixI_neg.1 h1)],fun h1 w10 x10=> ?_⟩
 rw[if_neg (fun k=>h1 (ixI_neg.2 k))]
 have hw:=kE hw x10
 refine Pure.mono (cargo_in (h.keep hw (Nat.le_refl _)) hl (by omega) id) ?_
 rintro v w13 b13 ⟨A',m,c',rfl,hi,hil⟩
 have hw:=kP hw b13
 refine⟨_,_,_,rfl,Pure.mono (cargo_laden (hg.next hw) (hc.keep hw) hi hil (hok.filter _)) ?_⟩
 rintro v w21 b21 rfl
 exact⟨_,_,_,_,_,_,rfl,fun w22 _=>rfl⟩
theorem over_c1(hg:Glob w)(hc:CgIn w A0 n0 A1 n1 ps hs)(h:SlR w A 3 (l.map Sw.row))(hl:l.length=n)(hok:LdOk ps hs l){q0 q1:Addr}(hq0:∀w',Below w.heap.size w w'->CellsAt w' q0 [.slice A0 n0 c0,.slice A1 n1 c1])(hq1:∀w',Below w.heap.size w w'->CellsAt w' q1 [.slice A n c]){x:Ho}(hx:x∈hs):
  Pure Tryz.prog 102 #[x.val,.pointer (some q0),.pointer (some q1)] w fun v _=>v= .bool (overB ps hs l x):=by
 have hn:=hok.n
 have hvh:=hok.c.vh x hx
 unfold vH at hvh
 simp only[Bool.and_eq_true]at hvh
 have hsm:=hc.sh x hx
 have bm:Big (qR x.most):=hsm.most.big hvh.1.1.1.2
 have br:Big (qR x.room):=hsm.room.big hvh.1.1.1.1
 have em:x.most=rS (qR x.most):=vR_eq hvh.1.1.1.2
 have er:x.room=rS (qR x.room):=vR_eq hvh.1.1.1.1
 obtain⟨⟨b1,b2,b3⟩,b4,b5,b6⟩:=(hok.filter fun s=>decide (s.hold=x.id)).smL hc
 have cmp:∀w',Below w.heap.size w w'->Pure Tryz.prog 105 #[.string (rS (sumR (tP ps Pa.mass) (inS l x.id))),.string x.most] w' fun r w2=>∃i:Int,r= .int .i64 i/\((i>0->(fun(v:Value) (_:World)=>v= .bool (overB ps hs l x)) (.bool true) w2)/\(¬i>0->
   Pure Tryz.prog 105 #[.string (rS (sumR (tP ps Pa.vol) (inS l x.id))),.string x.room] w2 fun r w3=>∃i:Int,r= .int .i64 i/\(fun(v:Value) (_:World)=>v= .bool (overB ps hs l x)) (.bool (decide (i>0))) w3)):=by
  intro w' hw
  have c1:=cargo_compare (hg.next hw) b1 bm
  rw[<-em]at c1
  refine Pure.mono c1 ?_
  rintro v w2 h2 rfl
  have hw:=kP hw h2
  refine⟨_,rfl,fun k=> ?_,fun k=> ?_⟩
  ·have:=cmpR_gt.1 k
   show Value.bool true=_
   unfold overB
   rw[show(decide (qR x.most<sumR (tP ps Pa.mass) (inS l x.id)))=true from decide_eq_true this]
   rfl
  ·have c2:=cargo_compare (hg.next hw) b2 br
   rw[<-er]at c2
   refine Pure.mono c2 ?_
   rintro v w3 h3 rfl
   refine⟨_,rfl,?_⟩
   show Value.bool _=_
   unfold overB
   rw[show(decide (qR x.most<sumR (tP ps Pa.mass) (inS l x.id)))=false from decide_eq_false fun h=>k (cmpR_gt.2 h),Bool.false_or]
   refine congrArg Value.bool ?_
   rw[decide_eq_decide]
   exact cmpR_gt
 refine F.cargo_Overloaded_c1.vc _ _ _ _ _ _ _ _ _ _ _ fun w1 x1=> ?_
 have hw1:=k0 x1
 refine⟨_,_,_,_,_,_,hq0 w1 hw1,_,_,_,hq1 w1 hw1,fun w5 x5=> ?_,fun w40 x40=> ?_⟩
 ·have hw5:=kE hw1 x5
  refine Pure.mono (cargo_in (h.keep hw5 (Nat.le_refl _)) hl (by omega) x.id) ?_
  rintro v w8 b8 ⟨A',m,c',rfl,hi,hil⟩
  have hw8:=kP hw5 b8
  refine⟨_,_,_,rfl,Pure.mono (cargo_laden (hg.next hw8) (hc.keep hw8) hi hil (hok.filter _)) ?_,fun w24 x24=> ?_⟩
  ·rintro v w16 b16 rfl
   exact⟨_,_,_,_,_,_,rfl,fun w17 x17=>cmp w17 (kE (kP hw8 b16) x17)⟩
  ·have hw24:=kE hw8 x24
   refine Pure.mono (cargo_laden (hg.next hw24) (hc.keep hw24) (hi.extNil x24) hil (hok.filter _)) ?_
   rintro v w16 b16 rfl
   exact⟨_,_,_,_,_,_,rfl,fun w17 x17=>cmp w17 (kE (kP hw24 b16) x17)⟩
 ·have hw5:=kE hw1 x40
  refine Pure.mono (cargo_in (h.keep hw5 (Nat.le_refl _)) hl (by omega) x.id) ?_
  rintro v w8 b8 ⟨A',m,c',rfl,hi,hil⟩
  have hw8:=kP hw5 b8
  refine⟨_,_,_,rfl,Pure.mono (cargo_laden (hg.next hw8) (hc.keep hw8) hi hil (hok.filter _)) ?_⟩
  rintro v w16 b16 rfl
  exact⟨_,_,_,_,_,_,rfl,fun w17 x17=>cmp w17 (kE (kP hw8 b16) x17)⟩
theorem cargo_Overloaded(hg:Glob w)(hc:CgIn w A0 n0 A1 n1 ps hs)(h:SlR w A 3 (l.map Sw.row))(hl:l.length=n)(hnc:n<=c)(hn:n<=40):
  Pure Tryz.prog 71 #[.agg #[.slice A0 n0 c0,.slice A1 n1 c1],.slice A n c] w fun v _=>v=overV ps hs l:=by
 have hnh:=hc.nh
 refine F.cargo_Overloaded.vc _ _ _ _ _ _ _ _ _ _ _ fun w1 x1=> ?_
 have hw:=k0 x1
 refine Pure.mono (cargo_Stowed (hg.next hw) (hc.keep hw) (h.keep hw (Nat.le_refl _)) hl hnc (by omega)) ?_
 rintro v w4 b4 rfl
 have hw:=kP hw b4
 unfold overV
 refine⟨_,rfl,fun h0=>by rw[if_pos h0],fun h0 p5 hp5 hb5 p6 hp6 hb6=> ?_⟩
 rw[if_neg h0]
 have hok:=(stowed_right (Decidable.not_not.1 h0)).ld (by omega)
 refine Pure.mono (IndexHo (p:=overB ps hs l) ((hc.keep hw).h) hc.lh (by omega) (by kernel_rfl) fun w' hb x hx=> ?_) ?_
 ·exact over_c1 (hg.next (kP hw hb)) (hc.keep (kP hw hb)) (h.keep (kP hw hb) (Nat.le_refl _)) hl hok (fun w2 h2=>box_all (heap_keep (heap_keep hb6 hb) h2)) (fun w2 h2=>box_all (heap_keep (heap_keep hb5 hb) h2)) hx
 ·rintro v w9 b9 rfl
  exact⟨_,rfl,rfl⟩
end

structure QT where
 b:Bool
 A:Option Addr
 n:Nat
 c:Nat
 A':Option Addr
 n':Nat
 c':Nat
 r:Rat
def QT.is(x:QT)(w:World):Prop:=IsQ w x.b x.A x.n x.c x.A' x.n' x.c' x.r
def Qs(w:World)(L:List QT):Prop:=∀x∈L,x.is w
theorem Qs.below{w w':World}{L:List QT}(h:Qs w L)(hb:Below w.heap.size w w'):Qs w' L:=fun x hx=>IsQ.below (h x hx) hb
theorem Qs.ext{w w':World}{B:Nat}{ts:List Nat}{L:List QT}(h:Qs w L)(e:Ext B ts w w')(ht:217∉ts):Qs w' L:=fun x hx=>IsQ.ext (h x hx) e ht
theorem Qs.add{w:World}{L:List QT}(h:Qs w L){x:QT}(k:x.is w):Qs w (x::L):=fun y hy=>by
 rcases List.mem_cons.1 hy with rfl|hy
 ·exact k
 ·exact h y hy
theorem Qs.nil{w:World}:Qs w []:=fun x hx=>by cases hx
theorem QR.qt{r:Rat}{v:Value}{w:World}(h:QR r v w):∃x:QT,x.r=r/\v= .agg #[.bool x.b,.slice x.A x.n x.c,.slice x.A' x.n' x.c']/\x.is w:=by
 obtain⟨b,A,n,c,A',n',c',rfl,k⟩:=h
 exact⟨⟨b,A,n,c,A',n',c',r⟩,rfl,rfl,k⟩
section
variable {w0:World} {A0 A1 A:Option Addr} {n0 c0 n1 c1 n c:Nat} {ps:List Pa} {hs:List Ho} {l:List Sw}

end

theorem amt_le{ps:List Pa}{hs:List Ho}{l:List Sw}(hr:RightS ps hs l)(h p:Int):amtF l h p<=9:=by
 rcases amt_spec l h p with⟨e,_⟩|⟨x,hx,e1,e2,e3⟩
 ·omega
 ·have:=((hr.known x hx))
  obtain⟨i,_,hi,_⟩:=this
  obtain⟨q,e,hid⟩:=pix_some hi
  have hm:=List.mem_of_getElem? e
  have h1:=hr.full q hm
  have h2:=units_mem hr.pos hx
  have h3:=(hr.c.p1 q hm).2.1.2
  rw[hid]at h1
  omega
section
variable {w0:World} {A0 A1 A:Option Addr} {n0 c0 n1 c1 n c:Nat} {ps:List Pa} {hs:List Ho} {l:List Sw}
end

def psT:List Pa:=[⟨1,3,1,⟨#[97]⟩,⟨#[50]⟩,⟨#[49]⟩,⟨#[53]⟩⟩,⟨2,1,2,⟨#[98]⟩,⟨#[49,47,50]⟩,⟨#[52]⟩,⟨#[49]⟩⟩]
def hsT:List Ho:=[⟨1,⟨#[65]⟩,⟨#[52]⟩,⟨#[55]⟩,⟨#[49,48]⟩,⟨#[48]⟩,⟨#[49]⟩⟩,⟨2,⟨#[66]⟩,⟨#[57]⟩,⟨#[51]⟩,⟨#[45,53]⟩,⟨#[48]⟩,⟨#[49]⟩⟩]
theorem extAll{B:Nat}{w w':World}(x:Ext B [] w w'):Below w.heap.size w w':=⟨x.below.os,x.below.tape,x.below.output,x.below.size,fun k hk=>by
 rcases x.other k hk with e|⟨t,ht,_⟩
 ·exact e
 ·simp at ht⟩
theorem CloneI{w:World}{A:Option Addr}{n c:Nat}{l:List Int}(h:SlR w A 1 (l.map iRow))(hlen:l.length=n)(hn:n<=1000000):
  Pure Tryz.prog 28 #[.slice A n c] w fun v w'=>∃A' c',v= .slice A' n c'/\OwnR w' w.heap.size 3 A' n c' 1 (l.map iRow):=by
 refine F.slices_Clone_int_int.vc _ _ _ _ _ ⟨fun hA=> ?_,fun hA=> ?_⟩
 ·subst hA
  have:=h.none_nil
  simp at this
  subst this
  simp at hlen
  subst hlen
  exact⟨none,0,rfl,OwnR.nil⟩
 ·obtain⟨a,rfl⟩:=Option.ne_none_iff_exists'.1 hA
  refine runOk_lit el_Ints [] (by simp) (by simp) (Nat.le_refl _) fun A2 c2 w2 ho b2=> ?_
  refine app_rows el_Ints (Nat.le_refl _) (by simpa using ho) (h.below b2) (by simpa using hlen) (fun r hr=>by obtain⟨s,_,rfl⟩:=List.mem_map.1 hr;rfl) (fun r hr=>by obtain⟨s,_,rfl⟩:=List.mem_map.1 hr;intro u hu;simp[iRow]at hu;subst hu;rfl) b2.size (by simp;omega) (by simp) fun A' c' w3 o3 _ b3=> ?_
  simp only[List.length_nil,Nat.zero_add,List.nil_append]at o3⊢
  exact⟨A',c',rfl,o3⟩
theorem EqualI{w0:World}{A A1:Option Addr}{n n1 c c1:Nat}{l l1:List Int}(h:SlR w0 A 1 (l.map iRow))(h1:SlR w0 A1 1 (l1.map iRow))(hlen:l.length=n)(hlen1:l1.length=n1)(hn:n<2147483648):
  Pure Tryz.prog 26 #[.slice A n c,.slice A1 n1 c1] w0 fun y _=>y= .bool (decide (l=l1)):=by
 have key:n=n1->∀(d i:Nat)(w:World),n - i=d->i<=n->Below w0.heap.size w0 w->l.take i=l1.take i->F.slices_Equal_int_int.L4 A n c A1 n1 c1 n i w0.heap.size w fun y _=>y= .bool (decide (l=l1)):=by
  intro e d
  induction d with
  |zero=>
   intro i w hd hi hw hx
   refine F.slices_Equal_int_int.L4.step _ _ _ _ _ _ _ _ _ _ _ ⟨fun h=>by omega,fun _=> ?_⟩
   rw[List.take_of_length_le (by omega),List.take_of_length_le (by omega)]at hx
   rw[decide_eq_true hx]
  |succ d ih=>
   intro i w hd hi hw hx
   have hil:i<l.length:=by omega
   have hil1:i<l1.length:=by omega
   have e3:(i:Int)+1=((i+1:Nat):Int):=by omega
   obtain⟨hb,a,hA,hcell,_⟩:=(h.keep hw (Nat.le_refl _)).at_ (fun _=>rfl) hlen hil
   obtain⟨hb1,a1,hA1,hcell1,_⟩:=(h1.keep hw (Nat.le_refl _)).at_ (fun _=>rfl) hlen1 hil1
   refine F.slices_Equal_int_int.L4.step _ _ _ _ _ _ _ _ _ _ _ ⟨fun _=>⟨hb,a,hA,_,hcell,hb1,a1,hA1,_,hcell1,fun k w2 _=> ?_,fun k=>⟨by simp only[inR];omega,fun w2 x2=> ?_⟩⟩,fun h=>by omega⟩
   ·rw[decide_eq_false fun e=>k (by subst e;rfl)]
   ·rw[e3]
    refine ih (i+1) w2 (by omega) (by omega) (kE hw x2) ?_
    rw[List.take_add_one,List.take_add_one,hx,List.getElem?_eq_getElem hil,List.getElem?_eq_getElem hil1,Decidable.not_not.1 k]
 refine F.slices_Equal_int_int.vc _ _ _ _ _ _ _ _ ⟨fun k=> ?_,fun k=>key (by omega) n 0 w0 rfl (by omega) (Below.refl _ _) (by simp)⟩
 rw[decide_eq_false fun e=>k (by subst e;omega)]

theorem flatMap_le{α β:Type}{f:α->List β}{k:Nat}:∀{l:List α},(∀x∈l,(f x).length<=k)->(l.flatMap f).length<=l.length*k:=by
 intro l
 induction l with
 |nil=>intro _;simp
 |cons x r ih=>
  intro h
  rw[List.flatMap_cons,List.length_append,List.length_cons,Nat.add_mul,Nat.one_mul]
  have:=h x (by simp)
  have:=ih fun y hy=>h y (by simp[hy])
  omega
theorem RightS.len{ps:List Pa}{hs:List Ho}{l:List Sw}(h:RightS ps hs l):l.length<=36:=by
 have e:=stows_amts h (f:=fA ps hs l) fun _ _ _ _=>rfl
 rw[<-e]
 unfold stowsG
 have h1:∀k∈List.range hs.length,((List.range ps.length).flatMap fun i=>entS (fA ps hs l) ps hs k i).length<=ps.length:=fun k _=>by
  have:=flatMap_le (f:=fun i=>entS (fA ps hs l) ps hs k i) (k:=1) (l:=List.range ps.length) fun i _=>by
   unfold entS
   split
   ·split<;>simp
   ·simp
  simpa using this
 have h2:=flatMap_le h1
 rw[List.length_range]at h2
 have:=Nat.mul_le_mul h.c.lh h.c.lp
 omega

def outE(r:Except Int (List Sw)):List Sw×Int:=match r with| .error e=>([],e)| .ok l=>(l,0)
theorem StowR.get{r:Except Int (List Sw)}{B:Nat}{y:Value}{w:World}(h:StowR r B y w):∃A m c,y= .tuple #[.slice A m c,.int .i64 (outE r).2]/\SlR w A 3 ((outE r).1.map Sw.row)/\(outE r).1.length=m/\m<=c:=by
 cases r with
 |error e=>exact⟨none,0,0,h,.inl rfl,rfl,Nat.le_refl _⟩
 |ok l=>
  obtain⟨A,m,c,rfl,ho⟩:=h
  exact⟨A,m,c,rfl,ho.sl,by simpa[outE]using ho.len,ho.len_le⟩
section
variable {w:World} {A0 A1 A A2:Option Addr} {n0 c0 n1 c1 n c n2 c2:Nat} {ps:List Pa} {hs:List Ho} {l:List Sw} {a:List Int}
theorem from_err{e:Int}(h:fromF ps hs a= .error e):e≠0:=by
 unfold fromF at h
 split at h
 ·cases h;decide
 ·split at h
  ·cases h;decide
  ·split at h
   ·cases h;decide
   ·split at h
    ·cases h;decide
    ·cases h
end

def fullN(n:Nat):Nat:=2^n - 1
def addB(s i:Nat):Nat:=s|||2^i
theorem addB_bit(s i j:Nat):(addB s i).testBit j=(s.testBit j||decide (i=j)):=by
 unfold addB
 rw[Nat.testBit_or,Nat.testBit_two_pow]
theorem addB_lt{s i n:Nat}(hs:s<2^n)(hi:i<n):addB s i<2^n:=Nat.or_lt_two_pow hs (Nat.pow_lt_pow_right (by decide) hi)
theorem full_bit(n j:Nat):(fullN n).testBit j=decide (j<n):=by
 unfold fullN
 exact Nat.testBit_two_pow_sub_one n j
theorem full_lt(n:Nat):fullN n<2^n:=by
 unfold fullN
 have:0<2^n:=Nat.two_pow_pos n
 omega
theorem eq_full{s n:Nat}(hs:s<2^n)(h:∀i,i<n->s.testBit i=true):s=fullN n:=by
 refine Nat.eq_of_testBit_eq fun j=> ?_
 rw[full_bit]
 by_cases hj:j<n
 ·rw[h j hj,decide_eq_true hj]
 ·rw[decide_eq_false hj]
  exact Nat.testBit_lt_two_pow (Nat.lt_of_lt_of_le hs (Nat.pow_le_pow_right (by decide) (by omega)))
def leftN(n s:Nat):Nat:=(List.range n).countP fun i=> !s.testBit i
theorem left_add{n s i:Nat}(hi:i<n)(h:s.testBit i=false):leftN n (addB s i)+1=leftN n s:=by
 unfold leftN
 have key:∀(l:List Nat),l.Nodup->(l.countP fun j=> !(addB s i).testBit j)+(if i∈l then 1 else 0)=l.countP fun j=> !s.testBit j:=by
  intro l
  induction l with
  |nil=>intro _;rfl
  |cons a r ih=>
   intro hn
   obtain⟨h1,h2⟩:=List.nodup_cons.1 hn
   have ih:=ih h2
   rw[List.countP_cons,List.countP_cons,addB_bit]
   by_cases e:i=a
   ·subst e
    rw[if_neg h1]at ih
    simp[h]
    omega
   ·rw[decide_eq_false e,Bool.or_false]
    have hmm:(if i∈a::r then 1 else 0)=(if i∈r then 1 else 0):=by simp[e]
    rw[hmm]
    omega
 have:=key (List.range n) List.nodup_range
 rw[if_pos (List.mem_range.2 hi)]at this
 exact this
theorem left_zero{n s:Nat}(hs:s<2^n)(h:leftN n s=0):s=fullN n:=by
 refine eq_full hs fun i hi=> ?_
 have:=List.countP_eq_zero.1 h i (List.mem_range.2 hi)
 simpa using this
theorem left_le(n s:Nat):leftN n s<=n:=by
 have:=List.countP_le_length (p:=fun i=> !s.testBit i) (l:=List.range n)
 simpa[leftN]using this

def restF(al:Nat->Bool)(n:Nat):Nat->Nat->Option (List Nat)
 |0,s=>if s=fullN n then some []else none
 |d+1,s=>if s=fullN n then some []else(List.range n).findSome? fun i=>if s.testBit i|| !al (addB s i)then none else(restF al n d (addB s i)).map (i:: ·)
inductive Pth (al:Nat->Bool) (n:Nat):Nat->Prop
 |full:Pth al n (fullN n)
 |step {s i:Nat}:i<n->s.testBit i=false->al (addB s i)=true->Pth al n (addB s i)->Pth al n s
inductive Rch (al:Nat->Bool) (n:Nat):Nat->Prop
 |zero:Rch al n 0
 |step {s i:Nat}:Rch al n s->i<n->s.testBit i=false->al (addB s i)=true->Rch al n (addB s i)
theorem Rch.lt{al:Nat->Bool}{n s:Nat}(h:Rch al n s):s<2^n:=by
 induction h with
 |zero=>exact Nat.two_pow_pos n
 |step _ hi _ _ ih=>exact addB_lt ih hi
theorem reach_path{al:Nat->Bool}{n s:Nat}(h:Rch al n s)(k:Pth al n s):Pth al n 0:=by
 induction h with
 |zero=>exact k
 |step _ hi hb ha ih=>exact ih (.step hi hb ha k)
theorem path_reach{al:Nat->Bool}{n s:Nat}(k:Pth al n s):Rch al n s->Rch al n (fullN n):=by
 induction k with
 |full=>exact id
 |step hi hb ha _ ih=>exact fun h=>ih (.step h hi hb ha)
theorem full_iff{al:Nat->Bool}{n:Nat}:Rch al n (fullN n)↔Pth al n 0:=⟨fun h=>reach_path h .full,fun k=>path_reach k .zero⟩
theorem rest_some{al:Nat->Bool}{n:Nat}:∀(d s:Nat)(l:List Nat),restF al n d s=some l->Pth al n s:=by
 intro d
 induction d with
 |zero=>
  intro s l h
  rw[restF]at h
  split at h
  ·rename_i e;rw[e];exact .full
  ·cases h
 |succ d ih=>
  intro s l h
  rw[restF]at h
  split at h
  ·rename_i e;rw[e];exact .full
  ·obtain⟨i,hi,hx⟩:=List.exists_of_findSome?_eq_some h
   split at hx
   ·cases hx
   ·rename_i hc
    simp only[Bool.or_eq_true,Bool.not_eq_true',not_or,Bool.not_eq_true,Bool.not_eq_false]at hc
    obtain⟨l',hl',_⟩:=Option.map_eq_some_iff.1 hx
    exact .step (List.mem_range.1 hi) hc.1 hc.2 (ih _ _ hl')
theorem rest_none{al:Nat->Bool}{n:Nat}:∀(d s:Nat),leftN n s<=d->s<2^n->restF al n d s=none->¬Pth al n s:=by
 intro d
 induction d with
 |zero=>
  intro s hd hs h
  rw[restF,if_pos (left_zero hs (by omega))]at h
  cases h
 |succ d ih=>
  intro s hd hs h k
  rw[restF]at h
  split at h
  ·cases h
  ·rename_i hne
   cases k with
   |full=>exact hne rfl
   |step hi hb ha k=>
    rename_i i
    have:=List.findSome?_eq_none_iff.1 h i (List.mem_range.2 hi)
    rw[hb,ha]at this
    simp only[Bool.not_true,Bool.or_self,Bool.false_eq_true,if_false,Option.map_eq_none_iff]at this
    exact ih _ (by have:=left_add hi hb;omega) (addB_lt hs hi) this k
theorem rest_iff{al:Nat->Bool}{n d s:Nat}(hd:leftN n s<=d)(hs:s<2^n):(∃l,restF al n d s=some l)↔Pth al n s:=by
 constructor
 ·rintro⟨l,h⟩;exact rest_some d s l h
 ·intro k
  cases h:restF al n d s with
  |some l=>exact⟨l,rfl⟩
  |none=>exact absurd k (rest_none d s hd hs h)
def stepR(al:Nat->Bool)(n:Nat)(out:List Nat)(s:Nat):List Nat:=
 if((List.range n).any fun i=>s.testBit i&&out.contains (s^^^2^i))&&al s then out++[s]else out
def reachedF(al:Nat->Bool)(n k:Nat):List Nat:=(List.range k).foldl (fun out j=>stepR al n out (j+1)) [0]
theorem xor_bit{s i:Nat}(h:s.testBit i=true):s^^^2^i<s/\(s^^^2^i).testBit i=false/\addB (s^^^2^i) i=s:=by
 have hb:∀j,(s^^^2^i).testBit j=(s.testBit j^^decide (i=j)):=fun j=>by rw[Nat.testBit_xor,Nat.testBit_two_pow]
 have h0:(s^^^2^i).testBit i=false:=by rw[hb,h];simp
 have h1:addB (s^^^2^i) i=s:=by
  refine Nat.eq_of_testBit_eq fun j=> ?_
  rw[addB_bit,hb]
  by_cases e:i=j
  ·subst e;rw[h];simp
  ·rw[decide_eq_false e];simp
 refine⟨?_,h0,h1⟩
 have hle:s^^^2^i<=addB (s^^^2^i) i:=Nat.left_le_or
 rw[h1]at hle
 refine Nat.lt_of_le_of_ne hle fun e=> ?_
 rw[e,h]at h0
 cases h0
theorem reached_mem{al:Nat->Bool}{n:Nat}:∀(k:Nat),k<2^n->∀s,s∈reachedF al n k↔(Rch al n s/\s<=k):=by
 intro k
 induction k with
 |zero=>
  intro _ s
  unfold reachedF
  constructor
  ·intro h
   have:s=0:=by simpa using h
   subst this
   exact⟨.zero,Nat.le_refl _⟩
  ·rintro⟨_,h⟩
   have:s=0:=by omega
   subst this
   simp
 |succ k ih=>
  intro hk s
  have ih:=ih (by omega)
  have e:reachedF al n (k+1)=stepR al n (reachedF al n k) (k+1):=by
   unfold reachedF
   rw[List.range_succ,List.foldl_append]
   rfl
  rw[e]
  unfold stepR
  by_cases hc:(((List.range n).any fun i=>(k+1).testBit i&&(reachedF al n k).contains ((k+1)^^^2^i))&&al (k+1))=true
  ·rw[if_pos hc,List.mem_append,ih,List.mem_singleton]
   rw[Bool.and_eq_true,List.any_eq_true]at hc
   obtain⟨⟨i,hi,hx⟩,ha⟩:=hc
   rw[Bool.and_eq_true,List.contains_iff_mem]at hx
   obtain⟨hb,hm⟩:=hx
   obtain⟨x1,x2,x3⟩:=xor_bit hb
   have hr:Rch al n (k+1):=by
    have:=Rch.step ((ih _).1 hm).1 (List.mem_range.1 hi) x2 (by rw[x3];exact ha)
    rwa [x3]at this
   constructor
   ·rintro(h|rfl)
    ·exact⟨h.1,by omega⟩
    ·exact⟨hr,Nat.le_refl _⟩
   ·rintro⟨h1,h2⟩
    by_cases e:s=k+1
    ·exact .inr e
    ·exact .inl ⟨h1,by omega⟩
  ·rw[if_neg hc,ih]
   constructor
   ·exact fun h=>⟨h.1,by omega⟩
   ·rintro⟨h1,h2⟩
    refine⟨h1,?_⟩
    by_cases e:s=k+1
    ·exfalso
     subst e
     apply hc
     generalize hs:k+1=t at h1
     cases h1 with
     |zero=>omega
     |step h1 hi hb ha=>
      rename_i s i
      rw[Bool.and_eq_true,List.any_eq_true]
      have hxor:addB s i^^^2^i=s:=by
       refine Nat.eq_of_testBit_eq fun j=> ?_
       rw[Nat.testBit_xor,Nat.testBit_two_pow,addB_bit]
       by_cases e:i=j
       ·subst e;rw[hb];simp
       ·rw[decide_eq_false e];simp
      have hbit:(addB s i).testBit i=true:=by rw[addB_bit];simp
      have hlt:=(xor_bit hbit).1
      rw[hxor]at hlt
      refine⟨⟨i,List.mem_range.2 hi,?_⟩,ha⟩
      rw[Bool.and_eq_true,List.contains_iff_mem,hxor,ih]
      exact⟨hbit,h1,by omega⟩
    ·omega

def closedB(al:Nat->Bool)(n:Nat)(S:List Int):Bool:=
 decide (S.Pairwise fun a b=>a<b)&&S.all (fun s=>decide (0<=s/\s<(fullN n:Nat)))&&S.contains 0&&S.all fun s=>(List.range n).all fun i=>S.contains ((addB s.toNat i:Nat):Int)|| !al (addB s.toNat i)
theorem closed_reach{al:Nat->Bool}{n:Nat}{S:List Int}(h:closedB al n S=true){s:Nat}(hr:Rch al n s):(s:Int)∈S:=by
 unfold closedB at h
 simp only[Bool.and_eq_true,List.all_eq_true,decide_eq_true_eq,List.contains_iff_mem]at h
 obtain⟨⟨⟨_,_⟩,h0⟩,hs⟩:=h
 induction hr with
 |zero=>exact h0
 |step _ hi hb ha ih=>
  have:=hs _ ih _ (List.mem_range.2 hi)
  rw[Int.toNat_natCast,ha]at this
  simpa using this
theorem closed_no{al:Nat->Bool}{n:Nat}{S:List Int}(h:closedB al n S=true):¬Rch al n (fullN n):=by
 intro k
 have hm:=closed_reach h k
 unfold closedB at h
 simp only[Bool.and_eq_true,List.all_eq_true,decide_eq_true_eq]at h
 have:=h.1.1.2 _ hm
 omega
theorem reached_sorted{al:Nat->Bool}{n:Nat}:∀(k:Nat),k<2^n->(reachedF al n k).Pairwise fun a b=>a<b:=by
 intro k
 induction k with
 |zero=>intro _;unfold reachedF;simp
 |succ k ih=>
  intro hk
  have e:reachedF al n (k+1)=stepR al n (reachedF al n k) (k+1):=by
   unfold reachedF
   rw[List.range_succ,List.foldl_append]
   rfl
  rw[e]
  unfold stepR
  split
  ·refine List.pairwise_append.2 ⟨ih (by omega),by simp,fun a ha b hb=> ?_⟩
   rw[List.mem_singleton]at hb
   have:=((reached_mem k (by omega) a).1 ha).2
   omega
  ·exact ih (by omega)
theorem closed_own{al:Nat->Bool}{n:Nat}(h:¬Rch al n (fullN n)):closedB al n ((reachedF al n (fullN n)).map fun(s:Nat)=>(s:Int))=true:=by
 have hm:=reached_mem (al:=al) (n:=n) (fullN n) (full_lt n)
 unfold closedB
 simp only[Bool.and_eq_true,List.all_eq_true,decide_eq_true_eq,List.contains_iff_mem,List.mem_map]
 refine⟨⟨⟨?_,?_⟩,0,(hm 0).2 ⟨.zero,Nat.zero_le _⟩,rfl⟩,?_⟩
 ·rw[List.pairwise_map]
  exact(reached_sorted _ (full_lt n)).imp fun h=>by omega
 ·rintro x ⟨s,hs,rfl⟩
  obtain⟨h1,h2⟩:=(hm s).1 hs
  have:s≠fullN n:=fun e=>h (by rw[<-e];exact h1)
  omega
 ·rintro x ⟨s,hs,rfl⟩ i hi
  obtain⟨h1,h2⟩:=(hm s).1 hs
  rw[Int.toNat_natCast,Bool.or_eq_true,List.contains_iff_mem,List.mem_map]
  by_cases ha:al (addB s i)=true
  ·left
   by_cases hb:s.testBit i=true
   ·refine⟨s,hs,?_⟩
    congr 1
    refine Nat.eq_of_testBit_eq fun j=> ?_
    rw[addB_bit]
    by_cases e:i=j
    ·subst e;rw[hb];rfl
    ·rw[decide_eq_false e,Bool.or_false]
   ·have hr:=Rch.step h1 (List.mem_range.1 hi) (by simpa using hb) ha
    exact⟨_,(hm _).2 ⟨hr,by have:=hr.lt;unfold fullN;omega⟩,rfl⟩
  ·right
   simpa using ha

theorem perm_of{α:Type}[DecidableEq α]:∀{l o:List α},l.Nodup->(∀x∈l,x∈o)->o.length<=l.length->o.Perm l:=by
 intro l
 induction l with
 |nil=>
  intro o _ _ h
  have:o=[]:=List.length_eq_zero_iff.1 (by simpa using h)
  subst this
  exact List.Perm.refl _
 |cons a r ih=>
  intro o hn hm hl
  obtain⟨h1,h2⟩:=List.nodup_cons.1 hn
  have ha:a∈o:=hm a (by simp)
  refine(List.perm_cons_erase ha).trans (List.Perm.cons a (ih h2 (fun x hx=> ?_) ?_))
  ·rw[List.mem_erase_of_ne (fun e=>h1 (by rw[<-e];exact hx))]
   exact hm x (by simp[hx])
  ·rw[List.length_erase_of_mem ha]
   simp at hl
   omega
def walkO(al:Nat->Bool):Nat->Nat->List Int->Int×Int
 |_,_,[]=>(-1,0)
 |s,k,x::r=>if al (addB s x.toNat)then walkO al (addB s x.toNat) (k+1) r else((k:Int),15)
def checkO(al:Nat->Bool)(n:Nat)(o:List Int):Int×Int:=
 if ¬(o.length=n/\∀i∈List.range n,((i:Nat):Int)∈o)then(-1,10)else walkO al 0 0 o
theorem walk_path{al:Nat->Bool}{n:Nat}:∀(o:List Int)(s k:Nat),Rch al n s->(∀x∈o,0<=x/\x<n/\s.testBit x.toNat=false)->o.Nodup->(walkO al s k o).2=0->Rch al n (o.foldl (fun s x=>addB s x.toNat) s):=by
 intro o
 induction o with
 |nil=>intro s k h _ _ _;exact h
 |cons x r ih=>
  intro s k h hx hn h0
  obtain⟨n1,n2⟩:=List.nodup_cons.1 hn
  obtain⟨x0,x1,xb⟩:=hx x (by simp)
  rw[walkO]at h0
  split at h0
  ·rename_i ha
   refine ih (addB s x.toNat) (k+1) (.step h (by omega) xb ha) (fun y hy=> ?_) n2 h0
   obtain⟨y0,y1,yb⟩:=hx y (by simp[hy])
   refine⟨y0,y1,?_⟩
   rw[addB_bit,yb,decide_eq_false,Bool.or_false]
   intro e
   have:x=y:=by omega
   exact n1 (this▸hy)
  ·simp at h0
theorem fold_bit:∀(o:List Int)(s j:Nat),(o.foldl (fun s x=>addB s x.toNat) s).testBit j=(s.testBit j||o.any fun x=>decide (x.toNat=j)):=by
 intro o
 induction o with
 |nil=>intro s j;simp
 |cons x r ih=>
  intro s j
  rw[List.foldl_cons,ih,addB_bit,List.any_cons,Bool.or_assoc]
theorem check_perm{n:Nat}{o:List Int}(h:o.length=n/\∀i∈List.range n,((i:Nat):Int)∈o):o.Perm ((List.range n).map fun(i:Nat)=>(i:Int)):=by
 refine perm_of ?_ (fun x hx=> ?_) (by simp;omega)
 ·exact List.pairwise_map.2 (List.nodup_range.imp fun h=>by omega)
 ·obtain⟨i,hi,rfl⟩:=List.mem_map.1 hx
  exact h.2 i hi
theorem check_reach{al:Nat->Bool}{n:Nat}{o:List Int}(h:(checkO al n o).2=0):Rch al n (fullN n):=by
 unfold checkO at h
 split at h
 ·simp at h
 ·rename_i hc
  have hc:=Classical.not_not.1 hc
  have hp:=check_perm hc
  have hnd:o.Nodup:=(hp.nodup_iff).2 (List.pairwise_map.2 (List.nodup_range.imp fun h=>by omega))
  have hin:∀x∈o,0<=x/\x<n/\(0:Nat).testBit x.toNat=false:=fun x hx=>by
   obtain⟨i,hi,rfl⟩:=List.mem_map.1 (hp.mem_iff.1 hx)
   have:=List.mem_range.1 hi
   exact⟨by omega,by omega,by simp⟩
  have hr:=walk_path o 0 0 .zero hin hnd h
  have e:o.foldl (fun s x=>addB s x.toNat) 0=fullN n:=by
   refine eq_full hr.lt fun i hi=> ?_
   rw[fold_bit,Bool.or_eq_true]
   exact .inr (List.any_eq_true.2 ⟨(i:Int),hc.2 i (List.mem_range.2 hi),by simp⟩)
  rwa [e]at hr

structure Ru where
 name:ByteArray
 kind:Int
 fac:List ByteArray
 low:ByteArray
 high:ByteArray
 a:Int
 b:Int
def eV(s:ByteArray):Bool:=decide (s.size=0)||vR s
def faultR(ps:List Pa)(hs:List Ho)(pre:List Ru)(r:Ru):Int:=
 if ¬(r.fac.all vR=true/\eV r.low=true/\eV r.high=true)then 1
 else if ¬(1<=r.name.size/\r.name.size<=64)then 4
 else if(pre.any fun x=>decide (x.name=r.name))=true then 6
 else if r.kind<1∨4<r.kind then 2
 else if r.kind=1 then
  if r.fac.length≠hs.length∨r.a≠0∨r.b≠0 then 10
  else if(r.low.size=0/\r.high.size=0)∨(r.low.size≠0/\r.high.size≠0/\qR r.high<qR r.low)then 2 else 0
 else if r.fac.length≠0∨r.low.size≠0∨r.high.size≠0 then 10
 else if r.kind=2 then(if ¬(r.a<r.b/\(1<=r.a/\r.a<=9)/\(1<=r.b/\r.b<=9))then 2 else 0)
 else if r.kind=3 then(if ¬(1<=r.a/\r.a<=9)then 2 else if hix hs r.b=none then 7 else 0)
 else if r.b≠0 then 2 else if pix ps r.a=none then 7 else 0
def goR(ps:List Pa)(hs:List Ho):Nat->List Ru->List Ru->Int×Int
 |_,_,[]=>(-1,0)
 |i,pre,r::t=>if faultR ps hs pre r≠0 then((i:Int),faultR ps hs pre r)else goR ps hs (i+1) (pre++[r]) t
def checkR(ps:List Pa)(hs:List Ho)(rs:List Ru):Int×Int:=
 if checkC ps hs≠0 then(-1,checkC ps hs)else if 16<rs.length then(-1,8)else goR ps hs 0 [] rs
structure RightR (ps:List Pa) (hs:List Ho) (r:Ru):Prop where
 fac:r.fac.all vR=true
 low:eV r.low=true
 high:eV r.high=true
 kind:1<=r.kind/\r.kind<=4
 sum:r.kind=1->r.fac.length=hs.length
 two:r.kind=2->r.a<r.b
 three:r.kind=3->∃k,hix hs r.b=some k
 four:r.kind=4->∃i,pix ps r.a=some i
theorem fault_zero{ps:List Pa}{hs:List Ho}{pre:List Ru}{r:Ru}(h:faultR ps hs pre r=0):RightR ps hs r:=by
 unfold faultR at h
 split at h
 ·simp at h
 ·rename_i h1
  have h1:=Decidable.not_not.1 h1
  split at h
  ·simp at h
  ·split at h
   ·simp at h
   ·split at h
    ·simp at h
    ·rename_i h4
     split at h
     ·rename_i h5
      split at h
      ·simp at h
      ·rename_i h6
       exact⟨h1.1,h1.2.1,h1.2.2,by omega,fun _=>Decidable.byContradiction fun k=>h6 (.inl k),fun k=>by omega,fun k=>by omega,fun k=>by omega⟩
     ·rename_i h5
      split at h
      ·simp at h
      ·split at h
       ·rename_i h7
        split at h
        ·simp at h
        ·rename_i h8
         exact⟨h1.1,h1.2.1,h1.2.2,by omega,fun k=>by omega,fun _=>(Decidable.not_not.1 h8).1,fun k=>by omega,fun k=>by omega⟩
       ·rename_i h7
        split at h
        ·rename_i h8
         split at h
         ·simp at h
         ·split at h
          ·simp at h
          ·rename_i h9
           refine⟨h1.1,h1.2.1,h1.2.2,by omega,fun k=>by omega,fun k=>by omega,fun _=> ?_,fun k=>by omega⟩
           cases e:hix hs r.b with
           |none=>exact absurd e h9
           |some k=>exact⟨k,rfl⟩
        ·rename_i h8
         split at h
         ·simp at h
         ·split at h
          ·simp at h
          ·rename_i h9
           refine⟨h1.1,h1.2.1,h1.2.2,by omega,fun k=>by omega,fun k=>by omega,fun k=>by omega,fun _=> ?_⟩
           cases e:pix ps r.a with
           |none=>exact absurd e h9
           |some k=>exact⟨k,rfl⟩
theorem goR_zero{ps:List Pa}{hs:List Ho}:∀(rs:List Ru)(i:Nat)(pre:List Ru),(goR ps hs i pre rs).2=0->∀r∈rs,RightR ps hs r:=by
 intro rs
 induction rs with
 |nil=>intro _ _ _ r hr;cases hr
 |cons x t ih=>
  intro i pre h r hr
  rw[goR]at h
  split at h
  ·rename_i k;exact absurd h k
  ·rename_i k
   rcases List.mem_cons.1 hr with rfl|hr
   ·exact fault_zero (Decidable.not_not.1 k)
   ·exact ih _ _ h r hr
theorem checkR_zero{ps:List Pa}{hs:List Ho}{rs:List Ru}(h:(checkR ps hs rs).2=0):checkC ps hs=0/\rs.length<=16/\∀r∈rs,RightR ps hs r:=by
 unfold checkR at h
 split at h
 ·rename_i k;exact absurd h k
 ·rename_i k
  split at h
  ·simp at h
  ·exact⟨Decidable.not_not.1 k,by omega,goR_zero _ _ _ h⟩

def clsP(ps:List Pa)(id:Int):Int:=match (pix ps id).bind fun i=>ps[i]? with|some p=>p.cls|none=>0
def sumRu(ps:List Pa)(hs:List Ho)(r:Ru)(l:List Sw):Rat:=((hs.zip r.fac).map fun x=>qR x.2*sumR (tP ps Pa.mass) (inS l x.1.id)).sum
def excessR(r:Ru)(s:Rat):Rat:=
 if r.high.size≠0/\qR r.high<s then s - qR r.high else if r.low.size≠0/\s<qR r.low then s - qR r.low else 0
def hasCls(ps:List Pa)(l:List Sw)(hold cls:Int):Bool:=l.any fun s=>decide (s.hold=hold)&&decide (clsP ps s.parcel=cls)
def brokenR(ps:List Pa)(hs:List Ho)(l:List Sw)(r:Ru):Bool:=
 if r.kind=1 then decide (excessR r (sumRu ps hs r l)≠0)
 else if r.kind=2 then hs.any fun h=>hasCls ps l h.id r.a&&hasCls ps l h.id r.b
 else if r.kind=3 then hasCls ps l r.b r.a
 else match (pix ps r.a).bind fun i=>ps[i]? with|some p=>decide (unitsF l r.a<p.units)|none=>false
def rightF(ps:List Pa)(hs:List Ho)(rs:List Ru)(l:List Sw):Bool:=decide ((checkR ps hs rs).2=0)&&decide (stowedF ps hs l=0)
def keepsF(ps:List Pa)(hs:List Ho)(rs:List Ru)(l:List Sw):Bool:=
 rightF ps hs rs l&& !(rs.any (brokenR ps hs l))&&decide (hs.findIdx? (overB ps hs l)=none)
theorem apart_pairs{ps:List Pa}{hs:List Ho}{l:List Sw}(hk:∀s∈l,∃h∈hs,h.id=s.hold)(a b:Int):
  (l.any fun x=>l.any fun y=>decide (x.hold=y.hold)&&(decide (clsP ps x.parcel=a)&&decide (clsP ps y.parcel=b)))=hs.any fun h=>hasCls ps l h.id a&&hasCls ps l h.id b:=by
 rw[Bool.eq_iff_iff]
 simp only[hasCls,List.any_eq_true,Bool.and_eq_true,decide_eq_true_eq]
 constructor
 ·rintro⟨x,hx,y,hy,e,e1,e2⟩
  obtain⟨h,hh,eh⟩:=hk x hx
  exact⟨h,hh,⟨x,hx,eh.symm,e1⟩,y,hy,by rw[<-e,eh],e2⟩
 ·rintro⟨h,_,⟨x,hx,ex,e1⟩,y,hy,ey,e2⟩
  exact⟨x,hx,y,hy,ex.trans ey.symm,e1,e2⟩

def placeW(ps:List Pa)(hs:List Ho)(w:Sw):Option Nat:=match pix ps w.parcel,hix hs w.hold with|some i,some k=>some (i*hs.length+k)|_,_=>none
def stateA(ps:List Pa)(hs:List Ho)(set:Nat):Nat->List Int->List Sw->List Int
 |_,a,[]=>a
 |n,a,w::r=>stateA ps hs set (n+1) (if set.testBit n then(match placeW ps hs w with|some j=>a.set j (a.getD j 0+w.units)|none=>a)else a) r
def stateF(ps:List Pa)(hs:List Ho)(l:List Sw)(works:List Sw)(set:Nat):Option (List Sw):=(fromF ps hs (stateA ps hs set 0 (amountsF ps hs l) works)).toOption
def allowF(ps:List Pa)(hs:List Ho)(rs:List Ru)(l:List Sw)(works:List Sw)(set:Nat):Bool:=match stateF ps hs l works set with|some m=>keepsF ps hs rs m|none=>false
def taskF(ps:List Pa)(hs:List Ho)(rs:List Ru)(l:List Sw)(works:List Sw):Int:=
 if(checkR ps hs rs).2≠0 then 1 else if keepsF ps hs rs l=false then 11 else if 6<works.length then 8
 else if(works.any fun w=>decide (placeW ps hs w=none))=true then 7 else if(works.any fun w=>decide (w.units=0∨w.units< -9∨9<w.units))=true then 2 else 0
section
variable (ps:List Pa) (hs:List Ho) (rs:List Ru) (l works:List Sw)
def statesF(set:Int):List Sw×Int:=
 if taskF ps hs rs l works≠0 then([],taskF ps hs rs l works)else if set<0∨(fullN works.length:Nat)<set then([],2)
 else match stateF ps hs l works set.toNat with|some m=>(m,0)|none=>([],15)
def orderF:List Int×Int:=
 if taskF ps hs rs l works≠0 then([],taskF ps hs rs l works)
 else match restF (allowF ps hs rs l works) works.length works.length 0 with|some o=>(o.map fun(i:Nat)=>(i:Int),0)|none=>([],19)
def reachF:List Int×Int:=
 if taskF ps hs rs l works≠0 then([],taskF ps hs rs l works)else((reachedF (allowF ps hs rs l works) works.length (fullN works.length)).map fun(s:Nat)=>(s:Int),0)
def ordersF(o:List Int):Int×Int:=
 if taskF ps hs rs l works≠0 then(-1,taskF ps hs rs l works)else checkO (allowF ps hs rs l works) works.length o
def closedF(S:List Int):Int:=
 if taskF ps hs rs l works≠0 then taskF ps hs rs l works else if closedB (allowF ps hs rs l works) works.length S=true then 0 else 14
end
theorem seq_either(ps:List Pa)(hs:List Ho)(rs:List Ru)(l works:List Sw)(o S:List Int):
  ((orderF ps hs rs l works).2≠0->(orderF ps hs rs l works).2≠19->(reachF ps hs rs l works).2=(orderF ps hs rs l works).2/\(reachF ps hs rs l works).1=[])/\
  ((orderF ps hs rs l works).2=19->taskF ps hs rs l works=0->(reachF ps hs rs l works).2=0/\closedF ps hs rs l works (reachF ps hs rs l works).1=0/\(ordersF ps hs rs l works o).2≠0)/\
  ((orderF ps hs rs l works).2=0->(reachF ps hs rs l works).2=0/\closedF ps hs rs l works (reachF ps hs rs l works).1=14/\closedF ps hs rs l works S=14):=by
 unfold orderF reachF closedF ordersF
 by_cases ht:taskF ps hs rs l works≠0
 ·simp only[if_pos ht]
  exact⟨fun _ _=>⟨trivial,trivial⟩,fun _ k=>absurd k ht,fun k=>absurd k ht⟩
 ·simp only[if_neg ht]
  have hno:∀T,closedB (allowF ps hs rs l works) works.length T=true->¬∃x,restF (allowF ps hs rs l works) works.length works.length 0=some x:=fun T hT hx=>by
   have:=(rest_iff (left_le _ 0) (Nat.two_pow_pos _)).1 hx
   exact closed_no hT (full_iff.2 this)
  cases hr:restF (allowF ps hs rs l works) works.length works.length 0 with
  |some x=>
   have hc:∀T,closedB (allowF ps hs rs l works) works.length T=false:=fun T=>by
    cases e:closedB (allowF ps hs rs l works) works.length T with
    |false=>rfl
    |true=>exact absurd ⟨x,hr⟩ (hno T e)
   simp only[hc]
   simp
  |none=>
   have hnr:¬Rch (allowF ps hs rs l works) works.length (fullN works.length):=fun k=>by
    obtain⟨x,hx⟩:=(rest_iff (left_le _ 0) (Nat.two_pow_pos _)).2 (full_iff.1 k)
    rw[hr]at hx
    cases hx
   refine⟨fun _ k=>absurd rfl k,fun _ _=>⟨trivial,?_,fun k=>hnr (check_reach k)⟩,fun k=>absurd k (by decide)⟩
   rw[closed_own hnr]
   rfl
open Go Go.RowKit Go.Proofs Go.Proofs.YtgfkeadgjkfomaaGreatDoor.Vc Go.Maps

structure MpT (t tk te:Nat):Prop where
 t:Tryz.prog.underlying t=some (.map tk te)
 k:Tryz.prog.underlying tk=some (.int .i64)
 e:Tryz.prog.underlying te=some .bool
 z:∀w,(zeroValue te).run Tryz.prog w= .ok (.bool false) w
def kN(f:Int->Option Bool):Nat:=(List.range 128).countP fun z:Nat=>(f (z:Int)).isSome
theorem kN_le(f:Int->Option Bool):kN f<=128:=Nat.le_trans List.countP_le_length (by simp)
abbrev putM(f:Int->Option Bool)(z:Int)(x:Bool):Int->Option Bool:=fun y=>if y=z then some x else f y
theorem kN_put{f:Int->Option Bool}{z:Int}(h0:0<=z)(h1:z<128)(x:Bool):kN f+(if(f z).isSome then 0 else 1)=kN (putM f z x):=by
 have key:∀l:List Nat,l.Nodup->(l.countP fun y:Nat=>(f (y:Int)).isSome)+(if z.toNat∈l/\(f z).isSome=false then 1 else 0)=l.countP fun y:Nat=>(putM f z x (y:Int)).isSome:=by
  intro l
  induction l with
  |nil=>intro _;simp
  |cons a r ih=>
   intro hn
   obtain⟨n1,n2⟩:=List.nodup_cons.1 hn
   have ih:=ih n2
   rw[List.countP_cons,List.countP_cons]
   by_cases e:(a:Int)=z
   ·have ea:z.toNat=a:=by omega
    rw[if_neg (fun k=>n1 (ea▸k.1))]at ih
    subst e
    simp only[putM,↓reduceIte,Option.isSome_some,Int.toNat_natCast,List.mem_cons,true_or,true_and]at ih⊢
    rw[<-ih]
    cases f (a:Int)<;>simp
   ·have ea:z.toNat≠a:=by omega
    simp only[putM,if_neg e,List.mem_cons,ea,false_or]at ih⊢
    omega
 have:=key (List.range 128) List.nodup_range
 rw[<-show _=kN (putM f z x)from this]
 unfold kN
 have hm:z.toNat∈List.range 128:=List.mem_range.2 (by omega)
 cases hf:(f z).isSome<;>simp[hm]
def MpR(w:World)(B tk te b:Nat)(f:Int->Option Bool):Prop:=
 B<=b/\∃D:DataW Unit,w.ownsMap Tryz.prog tk (plainElem Tryz.prog te) b (Maps.size D) D/\Maps.size D<=kN f/\∀z,has D (.int .i64 z)=(f z).isSome/\D.atKey (.int .i64 z) (.lit (.bool false))= .lit (.bool ((f z).getD false))
section
variable {w:World} {B t tk te b:Nat} {f:Int->Option Bool}
theorem key_int(T:MpT t tk te){z:Int}(hz:(Lit.int .i64 z).wf=true):keyOf Tryz.prog tk (.int .i64 z)=some (.int .i64 z):=by simp[keyOf,mapKey,T.k,hz]
theorem MpR.made(w:World)(tk te:Nat){B:Nat}(hB:B<=w.heap.size):MpR (w.alloc (.map #[] 0)) B tk te w.heap.size fun _=>none:=
 ⟨hB,.map [],World.ownsMap_made w _ _ _,Nat.zero_le _,fun _=>⟨rfl,rfl⟩⟩
theorem MpR.lt(h:MpR w B tk te b f):b<w.heap.size:=by obtain⟨_,D,h,_⟩:=h;exact h.lt
theorem MpR.le{B':Nat}(h:MpR w B tk te b f)(hB:B'<=B):MpR w B' tk te b f:=⟨Nat.le_trans hB h.1,h.2⟩
theorem MpR.same{w':World}(h:MpR w B tk te b f)(hb:w'.heap[b]? =w.heap[b]?):MpR w' B tk te b f:=by
 obtain⟨h1,D,h2,h3⟩:=h
 refine⟨h1,D,?_,h3⟩
 obtain⟨es,clock,e1,F,e2,e3⟩:=h2
 exact⟨es,clock,hb.trans e1,F,e2,e3⟩
theorem MpR.below{w':World}(h:MpR w B tk te b f)(hb:Below w.heap.size w w'):MpR w' B tk te b f:=h.same (hb.block b h.lt)
theorem MpR.isMap(h:MpR w B tk te b f):∃es clock,w.heap[b]? =some (.map es clock):=by
 obtain⟨h1,D,⟨es,clock,e1,_⟩,h3⟩:=h
 exact⟨es,clock,e1⟩
theorem MpR.ext{B0:Nat}{ts:List Nat}{w':World}(h:MpR w B tk te b f)(x:Ext B0 ts w w'):MpR w' B tk te b f:=by
 refine h.same ?_
 obtain⟨es,clock,e1⟩:=h.isMap
 rcases x.other b h.lt with q|⟨_,_,c,c',fr,q,_⟩
 ·exact q
 ·rw[e1]at q
  cases q
theorem plain_bool_inv(T:MpT t tk te){v:Value}{z:DataW Unit×List MemPlace}(h:plainElem Tryz.prog te v=some z):∃x,v= .bool x/\z=(.lit (.bool x),[]):=by
 unfold plainElem at h
 rw[T.e]at h
 cases v<;>simp at h
 rename_i x
 exact⟨x,rfl,h.symm⟩
theorem MpR.look(h:MpR w B tk te b f)(T:MpT t tk te){z:Int}(hz:(Lit.int .i64 z).wf=true):(Instr.lookup t (.map (some b)) (.int .i64 z) false).run Tryz.prog w= .ok (.bool ((f z).getD false)) w:=by
 obtain⟨_,D,h2,_,h3⟩:=h
 obtain⟨v,ps,hrun,hv⟩:=h2.lookup (int_keyed T.k) T.t (T.z w) (plainElem_bool T.e false) (key_int T hz)
 obtain⟨x,rfl,hx⟩:=plain_bool_inv T hv
 simp only[Prod.mk.injEq]at hx
 rw[(h3 z).2]at hx
 cases hx.1
 exact hrun
theorem MpR.look_ok(h:MpR w B tk te b f)(T:MpT t tk te){z:Int}(hz:(Lit.int .i64 z).wf=true):(Instr.lookup t (.map (some b)) (.int .i64 z) true).run Tryz.prog w= .ok (.tuple #[.bool ((f z).getD false),.bool (f z).isSome]) w:=by
 obtain⟨_,D,h2,_,h3⟩:=h
 obtain⟨v,ps,hrun,hv⟩:=h2.look_ok (int_keyed T.k) T.t (T.z w) (plainElem_bool T.e false) (key_int T hz)
 obtain⟨x,rfl,hx⟩:=plain_bool_inv T hv
 simp only[Prod.mk.injEq]at hx
 rw[(h3 z).2]at hx
 cases hx.1
 rw[(h3 z).1]at hrun
 exact hrun
theorem MpR.update(h:MpR w B tk te b f)(T:MpT t tk te){z:Int}(h0:0<=z)(h128:z<128)(x:Bool):∃w',(Instr.mapUpdate t (.map (some b)) (.int .i64 z) (.bool x)).run Tryz.prog w= .ok () w'/\MpR w' B tk te b (putM f z x)/\w.grownBy w' (some b):=by
 have hz:(Lit.int .i64 z).wf=true:=by simp[Lit.wf,IntKind.min,IntKind.max,IntKind.signed,IntKind.bits];omega
 obtain⟨h1,D,h2,hs,h3⟩:=h
 have K:Keyed Tryz.prog tk:=int_keyed T.k
 have hk128:=kN_le f
 obtain⟨w',hrun,hown,hg⟩:=h2.update K T.t (by unfold maxLen;omega) (key_int T hz) (plainElem_bool T.e x)
 have hm:=h2.isMap
 have hk:=K.key (key_int T hz)
 have hsz:=size_put (k:= .int .i64 z) (h2.tidy K) (.lit (.bool x))
 refine⟨w',hrun,⟨h1,D.put (.int .i64 z) (.lit (.bool x)),?_,?_,fun y=> ?_⟩,hg⟩
 ·obtain⟨es,clock,e1,F,e2,e3⟩:=hown
  exact⟨es,clock,e1,F,by rw[e3];simp[Maps.size,length_sorted],e3⟩
 ·rw[hsz,(h3 z).1,<-kN_put h0 h128 x]
  split<;>simp_all
 ·show has _ _=(putM f z x y).isSome/\_=DataW.lit (Lit.bool ((putM f z x y).getD false))
  unfold putM
  by_cases e:y=z
  ·subst e
   rw[if_pos rfl,has_put_same hm hk,atKey_put_same hm hk]
   exact⟨rfl,rfl⟩
  ·have hne:(Lit.int .i64 y)≠ .int .i64 z:=fun k=>by cases k;exact e rfl
   rw[if_neg e,has_put_other hne,atKey_put_other hne]
   exact h3 y
theorem map_kept{w':World}(h:MpR w B tk te b f)(hg:w.grownBy w' (some b)){k ty:Nat}{cs:Array Value}{fr:Nat×Nat}(hk:w.heap[k]? =some (.cells cs ty fr)):w'.heap[k]? =w.heap[k]? :=by
 obtain⟨es,clock,e1⟩:=h.isMap
 refine hg.block k (Array.getElem?_eq_some_iff.1 hk).1 fun e=> ?_
 cases e
 rw[e1]at hk
 cases hk
theorem wf_small{z:Int}(h0:0<=z)(h1:z<128):(Lit.int .i64 z).wf=true:=by simp[Lit.wf,IntKind.min,IntKind.max,IntKind.signed,IntKind.bits];omega
theorem runOk_look(h:MpR w B tk te b f)(T:MpT t tk te){z:Int}(h0:0<=z)(h1:z<128){B0:Nat}{tys:List Nat}{K:Bool->World->Prop}(hK:K ((f z).getD false) w):
  RunOk Tryz.prog (Instr.lookup t (.map (some b)) (.int .i64 z) false) B0 tys w fun r w1=>∃x,r= .bool x/\K x w1:=
 ⟨_,w,h.look T (wf_small h0 h1),Below.refl _ _,Nat.le_refl _,fun _ _ _ _ _=>rfl,_,rfl,hK⟩
theorem runOk_lookOk(h:MpR w B tk te b f)(T:MpT t tk te){z:Int}(h0:0<=z)(h1:z<128){B0:Nat}{tys:List Nat}{K:Bool->Bool->World->Prop}(hK:K ((f z).getD false) (f z).isSome w):
  RunOk Tryz.prog (Instr.lookup t (.map (some b)) (.int .i64 z) true) B0 tys w fun r w1=>∃x y,r= .tuple #[.bool x,.bool y]/\K x y w1:=
 ⟨_,w,h.look_ok T (wf_small h0 h1),Below.refl _ _,Nat.le_refl _,fun _ _ _ _ _=>rfl,_,_,rfl,hK⟩
theorem runOk_update(h:MpR w B tk te b f)(T:MpT t tk te){z:Int}(h0:0<=z)(h1:z<128)(x:Bool){B0:Nat}(hB0:B0<=B)(hBw:B0<=w.heap.size){tys:List Nat}{K:World->Prop}
  (hK:∀w',MpR w' B tk te b (putM f z x)->Below B0 w w'->w.grownBy w' (some b)->K w'):
  RunOkU Tryz.prog (Instr.mapUpdate t (.map (some b)) (.int .i64 z) (.bool x)) B0 tys w K:=by
 obtain⟨w',hrun,hm,hg⟩:=h.update T h0 h1 x
 have hb:Below B0 w w':=below_grown hg (fun k hk=>by cases hk;exact Nat.le_trans hB0 h.1) hBw
 exact⟨w',hrun,hb,hb.size,fun k ty cs _ hk=>map_kept h hg hk,hK w' hm hb hg⟩
theorem runOk_makeMap{w:World}{t tk te:Nat}{B:Nat}{tys:List Nat}(hB:B<=w.heap.size){K:Option Nat->World->Prop}
  (hK:∀w',MpR w' w.heap.size tk te w.heap.size (fun _=>none)->Below w.heap.size w w'->K (some w.heap.size) w'):
  RunOk Tryz.prog (Instr.makeMap t none) B tys w fun r w1=>∃m:Option Nat,r= .map m/\K m w1:=by
 have hg:=World.grownBy_alloc w (.map #[] 0) none
 have hb:Below w.heap.size w (w.alloc (.map #[] 0)):=below_grown hg (by simp) (Nat.le_refl _)
 exact⟨_,_,run_makeMap t w,hb.mono hB,hb.size,fun k ty cs _ hk=>hb.block k (Array.getElem?_eq_some_iff.1 hk).1,_,rfl,hK _ (MpR.made w tk te (Nat.le_refl _)) hb⟩
end
structure Cl (w w':World):Prop where
 size:w.heap.size<=w'.heap.size
 cells:∀(k:Nat)(cs:Array Value)(ty:Nat)(fr:Nat×Nat),w.heap[k]? =some (Obj.cells cs ty fr)->w'.heap[k]? =some (Obj.cells cs ty fr)
theorem Cl.refl(w:World):Cl w w:=⟨Nat.le_refl _,fun _ _ _ _ h=>h⟩
theorem Cl.trans{w w1 w2:World}(h:Cl w w1)(k:Cl w1 w2):Cl w w2:=⟨Nat.le_trans h.size k.size,fun b cs ty fr e=>k.cells b cs ty fr (h.cells b cs ty fr e)⟩
theorem Cl.low{w w':World}(h:Below w.heap.size w w'):Cl w w':=⟨h.size,fun k cs ty fr e=>(h.block k (Array.getElem?_eq_some_iff.1 e).1).trans e⟩
theorem Cl.map{w w':World}{B tk te b:Nat}{f:Int->Option Bool}(h:MpR w B tk te b f)(hg:w.grownBy w' (some b)):Cl w w':=⟨hg.size,fun k cs ty fr e=>(map_kept h hg e).trans e⟩
theorem SlR.cl{w w':World}{A:Option Addr}{sz:Nat}{rows:List (List Value)}(h:SlR w A sz rows)(c:Cl w w'):SlR w' A sz rows:=by
 rcases h with h|⟨b,off,cs,ty,fr,hA,hh,hc⟩
 ·exact .inl h
 ·exact .inr ⟨b,off,cs,ty,fr,hA,c.cells _ _ _ _ hh,hc⟩
theorem OwnR.cl{w w':World}{B ty:Nat}{A:Option Addr}{n c sz:Nat}{rows:List (List Value)}(h:OwnR w B ty A n c sz rows)(k:Cl w w'):OwnR w' B ty A n c sz rows:=by
 refine⟨⟨h.1.1,?_⟩,h.2⟩
 rcases h.1.2 with h1|⟨g,cap,cur,h1,h2,h3,h4⟩
 ·exact .inl h1
 ·exact .inr ⟨g,cap,cur,h1,h2,k.cells _ _ _ _ h3,h4⟩

structure Rm where
 r:Ru
 A:Option Addr
 n:Nat
 c:Nat
abbrev Rm.row(x:Rm):List Value:=[.string x.r.name,.int .i64 x.r.kind,.slice x.A x.n x.c,.string x.r.low,.string x.r.high,.int .i64 x.r.a,.int .i64 x.r.b]
abbrev Rm.val(x:Rm):Value:= .agg #[.string x.r.name,.int .i64 x.r.kind,.slice x.A x.n x.c,.string x.r.low,.string x.r.high,.int .i64 x.r.a,.int .i64 x.r.b]
structure SmRu (r:Ru):Prop where
 fac:∀s∈r.fac,SmS s
 low:SmS r.low
 high:SmS r.high
 name:r.name.size<2147483648
 len:r.fac.length<=8
structure RmIn (w:World) (x:Rm):Prop where
 f:SlR w x.A 1 (x.r.fac.map sRow)
 l:x.r.fac.length=x.n
 s:SmRu x.r
 z:x.A=none->x.c=0
theorem RmIn.keep{w w':World}{x:Rm}(h:RmIn w x)(hb:Below w.heap.size w w'):RmIn w' x:=⟨h.f.keep hb (Nat.le_refl _),h.l,h.s,h.z⟩
theorem RmIn.cl{w w':World}{x:Rm}(h:RmIn w x)(c:Cl w w'):RmIn w' x:=⟨h.f.cl c,h.l,h.s,h.z⟩
structure PrIn (w:World) (A0:Option Addr) (n0:Nat) (A1:Option Addr) (n1:Nat) (A2:Option Addr) (n2 c2:Nat) (ps:List Pa) (hs:List Ho) (xs:List Rm):Prop where
 c:CgIn w A0 n0 A1 n1 ps hs
 r:SlR w A2 7 (xs.map Rm.row)
 l:xs.length=n2
 f:∀x∈xs,RmIn w x
 n:n2<=17
 k:n2<=c2
abbrev rsOf(xs:List Rm):List Ru:=xs.map Rm.r
section
variable {w w':World} {A0 A1 A2:Option Addr} {n0 n1 n2 c2:Nat} {ps:List Pa} {hs:List Ho} {xs:List Rm}
theorem PrIn.keep(h:PrIn w A0 n0 A1 n1 A2 n2 c2 ps hs xs)(hb:Below w.heap.size w w'):PrIn w' A0 n0 A1 n1 A2 n2 c2 ps hs xs:=
 ⟨h.c.keep hb,h.r.keep hb (Nat.le_refl _),h.l,fun x hx=>(h.f x hx).keep hb,h.n,h.k⟩
theorem CgIn.cl(h:CgIn w A0 n0 A1 n1 ps hs)(c:Cl w w'):CgIn w' A0 n0 A1 n1 ps hs:=⟨h.p.cl c,h.h.cl c,h.lp,h.lh,h.sp,h.sh,h.np,h.nh⟩
theorem PrIn.cl(h:PrIn w A0 n0 A1 n1 A2 n2 c2 ps hs xs)(c:Cl w w'):PrIn w' A0 n0 A1 n1 A2 n2 c2 ps hs xs:=
 ⟨h.c.cl c,h.r.cl c,h.l,fun x hx=>(h.f x hx).cl c,h.n,h.k⟩
theorem PrIn.at_(h:PrIn w A0 n0 A1 n1 A2 n2 c2 ps hs xs){i:Nat}(hi:i<xs.length):
  (0<=(i:Int)/\(i:Int)<n2)/\∃a,A2=some a/\CellsAt w (a.add ((i:Int).toNat*7)) (xs[i].row)/\∀k u,(xs[i].row)[k]? =some u->CellsAt w ((a.add ((i:Int).toNat*7)).add k) [u]:=
 h.r.at_ (fun _=>rfl) h.l hi
end

def addAt(a:List Int)(j:Nat)(u:Int):List Int:=a.set j (a.getD j 0+u)
theorem addAt_len(a:List Int)(j:Nat)(u:Int):(addAt a j u).length=a.length:=by unfold addAt;simp
theorem addAt_get{a:List Int}{j:Nat}{u:Int}{i:Nat}:(addAt a j u)[i]? =if j=i/\i<a.length then some (a.getD i 0+u)else a[i]? :=by
 unfold addAt
 rw[List.getElem?_set]
 by_cases e:j=i
 ·subst e
  by_cases h:j<a.length
  ·simp[h]
  ·simp[h]
 ·simp[e]
theorem stateA_cons(ps:List Pa)(hs:List Ho)(set n:Nat)(a:List Int)(w:Sw)(r:List Sw):stateA ps hs set n a (w::r)=stateA ps hs set (n+1) (if set.testBit n then(match placeW ps hs w with|some j=>addAt a j w.units|none=>a)else a) r:=by
 rw[stateA]
 rfl

def difE(f:Nat->Nat->Int)(ps:List Pa)(hs:List Ho)(k i:Nat):List Sw:=
 match hs[k]?,ps[i]? with
 |some h,some p=>if f i k≠0 then[⟨h.id,p.id,f i k⟩]else[]
 |_,_=>[]
def difG(f:Nat->Nat->Int)(ps:List Pa)(hs:List Ho):List Sw:=(List.range hs.length).flatMap fun k=>(List.range ps.length).flatMap fun i=>difE f ps hs k i
theorem mem_difE{f:Nat->Nat->Int}{ps:List Pa}{hs:List Ho}{k i:Nat}{s:Sw}:s∈difE f ps hs k i↔∃h p,hs[k]? =some h/\ps[i]? =some p/\f i k≠0/\s=⟨h.id,p.id,f i k⟩:=by
 unfold difE
 constructor
 ·intro h
  split at h
  ·rename_i h' p e1 e2
   split at h
   ·rename_i h0
    rw[List.mem_singleton]at h
    exact⟨h',p,e1,e2,h0,h⟩
   ·cases h
  ·cases h
 ·rintro⟨h,p,e1,e2,h0,rfl⟩
  rw[e1,e2]
  simp only
  rw[if_pos h0]
  simp
theorem mem_dif{f:Nat->Nat->Int}{ps:List Pa}{hs:List Ho}{s:Sw}:s∈difG f ps hs↔∃k i h p,hs[k]? =some h/\ps[i]? =some p/\f i k≠0/\s=⟨h.id,p.id,f i k⟩:=by
 unfold difG
 simp only[List.mem_flatMap,List.mem_range,mem_difE]
 constructor
 ·rintro⟨k,_,i,_,h,p,e⟩
  exact⟨k,i,h,p,e⟩
 ·rintro⟨k,i,h,p,e1,e2,e⟩
  exact⟨k,(List.getElem?_eq_some_iff.1 e1).1,i,(List.getElem?_eq_some_iff.1 e2).1,h,p,e1,e2,e⟩
def workG(f:Nat->Nat->Int)(ps:List Pa)(hs:List Ho):List Sw:=(difG f ps hs).filter (fun s=>decide (s.units<0))++(difG f ps hs).filter fun s=>decide (0<s.units)
def difA(ps:List Pa)(hs:List Ho)(l m:List Sw)(i k:Nat):Int:=fA ps hs m i k - fA ps hs l i k

structure TaskOk (ps:List Pa) (hs:List Ho) (rs:List Ru) (l works:List Sw):Prop where
 rules:(checkR ps hs rs).2=0
 keeps:keepsF ps hs rs l=true
 n:works.length<=6
 place:∀w∈works,∃j,placeW ps hs w=some j
 u:∀w∈works,¬(w.units=0∨w.units< -9∨9<w.units)
theorem task_ok{ps:List Pa}{hs:List Ho}{rs:List Ru}{l works:List Sw}(h:taskF ps hs rs l works=0):TaskOk ps hs rs l works:=by
 unfold taskF at h
 split at h
 ·simp at h
 ·rename_i h1
  split at h
  ·simp at h
  ·rename_i h2
   split at h
   ·simp at h
   ·rename_i h3
    split at h
    ·simp at h
    ·rename_i h4
     split at h
     ·simp at h
     ·rename_i h5
      refine⟨Decidable.not_not.1 h1,by simpa using h2,by omega,fun w hw=> ?_,fun w hw k=> ?_⟩
      ·cases e:placeW ps hs w with
       |some j=>exact⟨j,rfl⟩
       |none=>exact absurd (List.any_eq_true.2 ⟨w,hw,by simpa using e⟩) h4
      ·exact h5 (List.any_eq_true.2 ⟨w,hw,by simpa using k⟩)
theorem task_ne{ps:List Pa}{hs:List Ho}{rs:List Ru}{l works:List Sw}:taskF ps hs rs l works≠19/\taskF ps hs rs l works≠15:=by
 unfold taskF
 split
 ·decide
 ·split
  ·decide
  ·split
   ·decide
   ·split
    ·decide
    ·split<;>decide
theorem keeps_right{ps:List Pa}{hs:List Ho}{rs:List Ru}{l:List Sw}(h:keepsF ps hs rs l=true):checkC ps hs=0/\stowedF ps hs l=0/\RightS ps hs l:=by
 unfold keepsF rightF at h
 simp only[Bool.and_eq_true,decide_eq_true_eq]at h
 exact⟨(checkR_zero h.1.1.1).1,h.1.1.2,stowed_right h.1.1.2⟩
theorem state_right{ps:List Pa}{hs:List Ho}{l works c:List Sw}{s:Nat}(h:stateF ps hs l works s=some c):checkC ps hs=0/\RightS ps hs c/\amountsF ps hs c=stateA ps hs s 0 (amountsF ps hs l) works:=by
 unfold stateF at h
 cases e:fromF ps hs (stateA ps hs s 0 (amountsF ps hs l) works)with
 |error x=>rw[e]at h;cases h
 |ok y=>
  rw[e]at h
  cases h
  exact from_ok e

def leL(a b:List Int):Prop:=a.length=b.length/\∀i,a.getD i 0<=b.getD i 0
theorem leL.refl(a:List Int):leL a a:=⟨rfl,fun _=>Int.le_refl _⟩
theorem addAt_getD(a:List Int)(j:Nat)(u:Int)(i:Nat):(addAt a j u).getD i 0=if j=i/\i<a.length then a.getD i 0+u else a.getD i 0:=by
 rw[List.getD_eq_getElem?_getD,addAt_get]
 split
 ·rfl
 ·rw[List.getD_eq_getElem?_getD]
theorem leL.add{a b:List Int}(h:leL a b)(j:Nat)(u:Int):leL (addAt a j u) (addAt b j u):=by
 refine⟨by rw[addAt_len,addAt_len,h.1],fun i=> ?_⟩
 rw[addAt_getD,addAt_getD,h.1]
 have:=h.2 i
 split<;>omega
theorem nodup_len{A:List Int}:∀{B:List Int},A.Nodup->(∀x∈A,x∈B)->A.length<=B.length:=by
 induction A with
 |nil=>intro B _ _;simp
 |cons x r ih=>
  intro B hn hs
  obtain⟨n1,n2⟩:=List.nodup_cons.1 hn
  have hx:=hs x (by simp)
  have:=ih (B:=B.erase x) n2 fun y hy=>by
   rw[List.mem_erase_of_ne (fun e=>n1 (by rw[<-e];exact hy))]
   exact hs y (by simp[hy])
  rw[List.length_erase_of_mem hx]at this
  have:=List.length_pos_of_mem hx
  simp
  omega
theorem inS_len{ps:List Pa}{hs:List Ho}{l:List Sw}(h:RightS ps hs l)(id:Int):(inS l id).length<=ps.length:=by
 have hn:((inS l id).map fun s=>s.parcel).Nodup:=by
  have hsrt:SrtS (inS l id):=List.Pairwise.filter _ h.srt
  refine List.pairwise_map.2 (List.Pairwise.imp_of_mem ?_ hsrt)
  intro x y hx hy hb
  have hx:=(List.mem_filter.1 hx).2
  have hy:=(List.mem_filter.1 hy).2
  simp at hx hy
  unfold befS at hb
  omega
 have:=nodup_len hn (B:=ps.map fun p=>p.id) fun x hx=>by
  obtain⟨s,hs',rfl⟩:=List.mem_map.1 hx
  obtain⟨i,_,hi,_⟩:=h.known s (List.mem_filter.1 hs').1
  obtain⟨p,e,e2⟩:=pix_some hi
  exact List.mem_map.2 ⟨p,List.mem_of_getElem? e,e2⟩
 simpa using this
theorem leL.drop{a b:List Int}(h:leL a b)(k:Nat):leL (a.drop k) (b.drop k):=by
 refine⟨by rw[List.length_drop,List.length_drop,h.1],fun i=> ?_⟩
 have:=h.2 (k+i)
 rw[List.getD_eq_getElem?_getD,List.getD_eq_getElem?_getD]at*
 rwa [List.getElem?_drop,List.getElem?_drop]
theorem leL.take{a b:List Int}(h:leL a b)(k:Nat):leL (a.take k) (b.take k):=by
 refine⟨by rw[List.length_take,List.length_take,h.1],fun i=> ?_⟩
 have:=h.2 i
 rw[List.getD_eq_getElem?_getD,List.getD_eq_getElem?_getD]at*
 rw[List.getElem?_take,List.getElem?_take]
 by_cases hk:i<k
 ·rwa [if_pos hk,if_pos hk]
 ·rw[if_neg hk,if_neg hk]
  exact Int.le_refl _
theorem leL.sum:∀{a b:List Int},leL a b->a.sum<=b.sum:=by
 intro a
 induction a with
 |nil=>
  intro b h
  have:b=[]:=List.length_eq_zero_iff.1 h.1.symm
  subst this
  exact Int.le_refl _
 |cons x r ih=>
  intro b h
  cases b with
  |nil=>exact absurd h.1 (by simp)
  |cons y t=>
   rw[List.sum_cons,List.sum_cons]
   have h0:=h.2 0
   have ht:leL r t:=⟨by have:=h.1;simpa using this,fun i=>by have:=h.2 (i+1);simpa using this⟩
   have:=ih ht
   simp at h0
   omega
theorem leL.row{a b:List Int}(h:leL a b)(n i:Nat):leL (rowA a n i) (rowA b n i):=by
 unfold rowA
 exact(h.drop _).take _
end Go.Proofs.YtgfkeadgjkfomaaGreatDoor.B

set_option maxRecDepth 100000
set_option maxHeartbeats 4000000
namespace Go.Proofs.YtgfkeadgjkfomaaGreatDoor.F
open Go Go.RowKit Go.Proofs Go.Proofs.YtgfkeadgjkfomaaGreatDoor.Vc
noncomputable def stowage_Keeps.cx(w:World)(B:Nat)(R:Value->World->Prop):Cx:=⟨Tryz.prog,35,27,Tryz.f35.results.toList,[],[],w,B,R⟩
theorem stowage_Keeps.vc(a:Option Addr)(b c:Nat)(d:Option Addr)(e f:Nat)(l:Option Addr)(m n:Nat)(g:Option Addr)(i j:Nat)(w:World)(R:Value->World->Prop)
  (h:(∀q,Ext w.heap.size [] w q->(Pure P 69 #[.agg #[.slice a b c,.slice d e f,.slice l m n],.slice g i j] q fun u r=>∃o,u= .bool o/\(((o=false)->(R (.bool false) r))/\(¬(o=false)->(Pure P 70 #[.agg #[.slice a b c,.slice d e f,.slice l m n],.slice g i j] r fun v s=>∃x p y,v= .slice x p y/\((((p:Int)>0)->(R (.bool false) s))/\(¬((p:Int)>0)->(Pure P 71 #[.agg #[.slice a b c,.slice d e f],.slice g i j] s fun z A=>∃t C,z= .tuple #[.int .i64 t,.int .i64 C]/\(R (.bool (decide (t<0))) A)))))))))):
  Pure P 35 #[.agg #[.slice a b c,.slice d e f,.slice l m n],.slice g i j] w R:=
 pure_of_run (stowage_Keeps.cx w w.heap.size R) 100000 follows Tryz.func35 rfl rfl rfl rfl rfl rfl rfl (Eq.mp (by kernel_rfl) h)

noncomputable def stowage_right.cx(w:World)(B:Nat)(R:Value->World->Prop):Cx:=⟨Tryz.prog,69,21,Tryz.f69.results.toList,[],[],w,B,R⟩
theorem stowage_right.vc(a:Option Addr)(b c:Nat)(d:Option Addr)(e f:Nat)(i:Option Addr)(j l:Nat)(m:Option Addr)(n o:Nat)(w:World)(R:Value->World->Prop)
  (h:(∀p,Ext w.heap.size [] w p->(Pure P 77 #[.agg #[.slice a b c,.slice d e f,.slice i j l]] p fun s q=>∃t g,s= .tuple #[.int .i64 t,.int .i64 g]/\(((g=0)->(Pure P 61 #[.agg #[.slice a b c,.slice d e f],.slice m n o] q fun u v=>∃r,u= .int .i64 r/\(R (.bool (decide (r=0))) v)))/\(¬(g=0)->(R (.bool false) q)))))):
  Pure P 69 #[.agg #[.slice a b c,.slice d e f,.slice i j l],.slice m n o] w R:=
 pure_of_run (stowage_right.cx w w.heap.size R) 100000 follows Tryz.func69 rfl rfl rfl rfl rfl rfl rfl (Eq.mp (by kernel_rfl) h)

def stowage_broken.L4(a:Option Addr)(b c:Nat)(d:Option Addr)(e f:Nat)(g:Option Addr)(i j:Nat)(l m:Int)(n:Option Addr)(o p:Nat)(q:Option Addr)(r s:Nat)(t:Option Addr)(u v B:Nat)(w:World)(R:Value->World->Prop):Prop:=At Tryz.prog 70 32 (loopAt Tryz.f70 4) [(1,.v (.slice a b c)),(2,.loc 2 0),(5,.loc 5 0),(6,.v (.slice d e f)),(11,.v (.slice g i j)),(12,.v (.int .i64 l)),(13,.v (.int .i64 m))] [⟨2,false,28,[(.slice n o p),(.slice q r s),(.slice t u v)]⟩,⟨5,false,132,[.nilFunc,(.func (.func 94) #[] #[]),(.func (.func 98) #[] #[]),(.func (.func 99) #[] #[]),(.func (.func 100) #[] #[])]⟩] B w R
noncomputable def stowage_broken.cx(w:World)(B:Nat)(R:Value->World->Prop):Cx:=⟨Tryz.prog,70,32,Tryz.f70.results.toList,[((true,4),[1,2,5,6,11,12,13],[2,5])],[(6,2,1),(7,2,2),(7,3,2)],w,B,R⟩
theorem stowage_broken.L4.step(b:Option Addr)(c d:Nat)(r:Option Addr)(s t:Nat)(u:Option Addr)(v x:Nat)(q a:Int)(e:Option Addr)(f g:Nat)(i:Option Addr)(j l:Nat)(m:Option Addr)(n o B:Nat)(w:World)(R:Value->World->Prop)
  (h:(((a<q)->((0<=a/\a<v)/\∃M,u=some M/\(∃y p z A C D E G H,CellsAt w (M.add ((a).toNat*7)) [.string y,.int .i64 p,.slice z A C,.string D,.string E,.int .i64 G,.int .i64 H]/\((0<=p/\p<5)/\(((((True/\(p=(0:Int)->False))/\(p=(1:Int)->(∀N,Ext B [] w N->(Pure P 94 #[.agg #[.slice e f g,.slice i j l,.slice m n o],.agg #[.string y,.int .i64 p,.slice z A C,.string D,.string E,.int .i64 G,.int .i64 H],.slice b c d] N fun c2 O=>∃I,c2= .bool I/\((I=true->(RunOk P (Instr.buildSlice 48 1 #[(0,(.int .i64 a))]) B [87,28,132] O fun c3 c4=>∃Q S T,c3= .slice Q S T/\(RunOk P (Builtin.append_ #[48,48] 48 #[.slice r s t,.slice Q S T]) B [87,28,132] c4 fun c5 c6=>∃U V X,c5= .slice U V X/\(inR .i64 (a+1)/\(stowage_broken.L4 b c d U V X u v x q (a+1) e f g i j l m n o B c6 R)))))/\(I=false->(inR .i64 (a+1)/\(stowage_broken.L4 b c d r s t u v x q (a+1) e f g i j l m n o B O R))))))))/\(p=(2:Int)->(∀Y,Ext B [] w Y->(Pure P 98 #[.agg #[.slice e f g,.slice i j l,.slice m n o],.agg #[.string y,.int .i64 p,.slice z A C,.string D,.string E,.int .i64 G,.int .i64 H],.slice b c d] Y fun c7 Z=>∃J,c7= .bool J/\((J=true->(RunOk P (Instr.buildSlice 48 1 #[(0,(.int .i64 a))]) B [87,28,132] Z fun c8 c9=>∃a0 a1 a2,c8= .slice a0 a1 a2/\(RunOk P (Builtin.append_ #[48,48] 48 #[.slice r s t,.slice a0 a1 a2]) B [87,28,132] c9 fun d0 d1=>∃a3 a4 a5,d0= .slice a3 a4 a5/\(inR .i64 (a+1)/\(stowage_broken.L4 b c d a3 a4 a5 u v x q (a+1) e f g i j l m n o B d1 R)))))/\(J=false->(inR .i64 (a+1)/\(stowage_broken.L4 b c d r s t u v x q (a+1) e f g i j l m n o B Z R))))))))/\(p=(3:Int)->(∀a6,Ext B [] w a6->(Pure P 99 #[.agg #[.slice e f g,.slice i j l,.slice m n o],.agg #[.string y,.int .i64 p,.slice z A C,.string D,.string E,.int .i64 G,.int .i64 H],.slice b c d] a6 fun d2 a7=>∃K,d2= .bool K/\((K=true->(RunOk P (Instr.buildSlice 48 1 #[(0,(.int .i64 a))]) B [87,28,132] a7 fun d3 d4=>∃a8 a9 b0,d3= .slice a8 a9 b0/\(RunOk P (Builtin.append_ #[48,48] 48 #[.slice r s t,.slice a8 a9 b0]) B [87,28,132] d4 fun d5 d6=>∃b1 b2 b3,d5= .slice b1 b2 b3/\(inR .i64 (a+1)/\(stowage_broken.L4 b c d b1 b2 b3 u v x q (a+1) e f g i j l m n o B d6 R)))))/\(K=false->(inR .i64 (a+1)/\(stowage_broken.L4 b c d r s t u v x q (a+1) e f g i j l m n o B a7 R))))))))/\(p=(4:Int)->(∀b4,Ext B [] w b4->(Pure P 100 #[.agg #[.slice e f g,.slice i j l,.slice m n o],.agg #[.string y,.int .i64 p,.slice z A C,.string D,.string E,.int .i64 G,.int .i64 H],.slice b c d] b4 fun d7 b5=>∃L,d7= .bool L/\((L=true->(RunOk P (Instr.buildSlice 48 1 #[(0,(.int .i64 a))]) B [87,28,132] b5 fun d8 d9=>∃b6 b7 b8,d8= .slice b6 b7 b8/\(RunOk P (Builtin.append_ #[48,48] 48 #[.slice r s t,.slice b6 b7 b8]) B [87,28,132] d9 fun e0 e1=>∃b9 c0 c1,e0= .slice b9 c0 c1/\(inR .i64 (a+1)/\(stowage_broken.L4 b c d b9 c0 c1 u v x q (a+1) e f g i j l m n o B e1 R)))))/\(L=false->(inR .i64 (a+1)/\(stowage_broken.L4 b c d r s t u v x q (a+1) e f g i j l m n o B b5 R))))))))))))/\(¬(a<q)->(R (.slice r s t) w)))):
  stowage_broken.L4 b c d r s t u v x q a e f g i j l m n o B w R:=
 loop_of_run (stowage_broken.cx w B R) 100000 (loopAt Tryz.f70 4) _ _ follows Tryz.func70 rfl rfl rfl (Eq.mp (by kernel_rfl) h)
theorem stowage_broken.vc(d:Option Addr)(e f:Nat)(g:Option Addr)(i j:Nat)(b:Option Addr)(a c:Nat)(l:Option Addr)(m n:Nat)(w:World)(R:Value->World->Prop)
  (h:(∀o,Ext w.heap.size [] w o->(stowage_broken.L4 l m n none 0 0 b a c (a:Int) (0:Int) d e f g i j b a c w.heap.size o R))):
  Pure P 70 #[.agg #[.slice d e f,.slice g i j,.slice b a c],.slice l m n] w R:=
 pure_of_run (stowage_broken.cx w w.heap.size R) 100000 follows Tryz.func70 rfl rfl rfl rfl rfl rfl rfl (Eq.mp (by kernel_rfl) h)

def stowage_Check.L7(a b:Int)(c:Option Addr)(d e:Nat)(f:Option Addr)(g i:Nat)(j:Option Addr)(l m B:Nat)(w:World)(R:Value->World->Prop):Prop:=At Tryz.prog 77 31 (loopAt Tryz.f77 7) [(1,.loc 1 0),(19,.v (.int .i64 a)),(20,.v (.int .i64 b))] [⟨1,false,28,[(.slice c d e),(.slice f g i),(.slice j l m)]⟩] B w R
noncomputable def stowage_Check.cx(w:World)(B:Nat)(R:Value->World->Prop):Cx:=⟨Tryz.prog,77,31,Tryz.f77.results.toList,[((true,7),[1,19,20],[1])],[],w,B,R⟩
theorem stowage_Check.L7.step(b a:Int)(d:Option Addr)(e f:Nat)(g:Option Addr)(i j:Nat)(l:Option Addr)(m n B:Nat)(w:World)(R:Value->World->Prop)
  (h:(((a<b)->(Pure P 110 #[.agg #[.slice d e f,.slice g i j,.slice l m n],.int .i64 a] w fun p o=>∃c,p= .int .i64 c/\(((c≠0)->(R (.tuple #[.int .i64 a,.int .i64 c]) o))/\(¬(c≠0)->(inR .i64 (a+1)/\(stowage_Check.L7 b (a+1) d e f g i j l m n B o R))))))/\(¬(a<b)->(R (.tuple #[(.int .i64 (-1:Int)),.int .i64 0]) w)))):
  stowage_Check.L7 b a d e f g i j l m n B w R:=
 loop_of_run (stowage_Check.cx w B R) 100000 (loopAt Tryz.f77 7) _ _ follows Tryz.func77 rfl rfl rfl (Eq.mp (by kernel_rfl) h)
theorem stowage_Check.vc(c:Option Addr)(d e:Nat)(f:Option Addr)(g i:Nat)(l:Option Addr)(a m:Nat)(w:World)(R:Value->World->Prop)
  (h:(∀n,Ext w.heap.size [] w n->(Pure P 86 #[.agg #[.slice c d e,.slice f g i]] n fun o j=>∃b,o= .int .i64 b/\(((b≠0)->(R (.tuple #[(.int .i64 (-1:Int)),.int .i64 b]) j))/\(¬(b≠0)->((((a:Int)>16)->(R (.tuple #[(.int .i64 (-1:Int)),.int .i64 8]) j))/\(¬((a:Int)>16)->(stowage_Check.L7 (a:Int) (0:Int) c d e f g i l a m w.heap.size j R)))))))):
  Pure P 77 #[.agg #[.slice c d e,.slice f g i,.slice l a m]] w R:=
 pure_of_run (stowage_Check.cx w w.heap.size R) 100000 follows Tryz.func77 rfl rfl rfl rfl rfl rfl rfl (Eq.mp (by kernel_rfl) h)

noncomputable def stowage_broken_c1.cx(w:World)(B:Nat)(R:Value->World->Prop):Cx:=⟨Tryz.prog,94,15,Tryz.f94.results.toList,[],[],w,B,R⟩
theorem stowage_broken_c1.vc(l:Option Addr)(m n:Nat)(o:Option Addr)(p q:Nat)(r:Option Addr)(s t:Nat)(a:ByteArray)(b:Int)(c:Option Addr)(d e:Nat)(f g:ByteArray)(i j:Int)(u:Option Addr)(v x:Nat)(w:World)(R:Value->World->Prop)
  (h:(∀y,Ext w.heap.size [] w y->(Pure P 97 #[.agg #[.slice l m n,.slice o p q,.slice r s t],.agg #[.string a,.int .i64 b,.slice c d e,.string f,.string g,.int .i64 i,.int .i64 j],.slice u v x] y fun D E=>∃z,D= .string z/\(Pure P 96 #[.agg #[.string a,.int .i64 b,.slice c d e,.string f,.string g,.int .i64 i,.int .i64 j],.string z] E fun G H=>∃A,G= .string A/\(Pure P 95 #[.string A] H fun I J=>∃C,I= .int .i64 C/\(R (.bool (decide (C≠0))) J)))))):
  Pure P 94 #[.agg #[.slice l m n,.slice o p q,.slice r s t],.agg #[.string a,.int .i64 b,.slice c d e,.string f,.string g,.int .i64 i,.int .i64 j],.slice u v x] w R:=
 pure_of_run (stowage_broken_c1.cx w w.heap.size R) 100000 follows Tryz.func94 rfl rfl rfl rfl rfl rfl rfl (Eq.mp (by kernel_rfl) h)

noncomputable def stowage_sign.cx(w:World)(B:Nat)(R:Value->World->Prop):Cx:=⟨Tryz.prog,95,5,Tryz.f95.results.toList,[],[],w,B,R⟩
theorem stowage_sign.vc(a:ByteArray)(w:World)(R:Value->World->Prop)
  (h:(Pure P 127 #[.string a,(.string ⟨#[48]⟩)] w fun c d=>∃b,c= .int .i64 b/\(R (.int .i64 b) d))):
  Pure P 95 #[.string a] w R:=
 pure_of_run (stowage_sign.cx w w.heap.size R) 100000 follows Tryz.func95 rfl rfl rfl rfl rfl rfl rfl (Eq.mp (by kernel_rfl) h)

noncomputable def stowage_excess.cx(w:World)(B:Nat)(R:Value->World->Prop):Cx:=⟨Tryz.prog,96,33,Tryz.f96.results.toList,[],[],w,B,R⟩
theorem stowage_excess.vc(r:ByteArray)(s:Int)(t:Option Addr)(u v:Nat)(a c:ByteArray)(x y:Int)(b:ByteArray)(w:World)(R:Value->World->Prop)
  (h:(((c≠(⟨#[]⟩:ByteArray))->(∀i,Ext w.heap.size [] w i->(Pure P 127 #[.string b,.string c] i fun z d=>∃e,z= .int .i64 e/\(((e>0)->(Pure P 128 #[.string b,.string c] d fun A C=>∃j,A= .string j/\(R (.string j) C)))/\(¬(e>0)->(((a≠(⟨#[]⟩:ByteArray))->(Pure P 127 #[.string b,.string a] d fun D l=>∃f,D= .int .i64 f/\(((f<0)->(Pure P 128 #[.string b,.string a] l fun E G=>∃m,E= .string m/\(R (.string m) G)))/\(¬(f<0)->(R (.string ⟨#[48]⟩) l)))))/\(¬(a≠(⟨#[]⟩:ByteArray))->(R (.string ⟨#[48]⟩) d))))))))/\(¬(c≠(⟨#[]⟩:ByteArray))->(((a≠(⟨#[]⟩:ByteArray))->(∀n,Ext w.heap.size [] w n->(Pure P 127 #[.string b,.string a] n fun H o=>∃g,H= .int .i64 g/\(((g<0)->(Pure P 128 #[.string b,.string a] o fun I J=>∃p,I= .string p/\(R (.string p) J)))/\(¬(g<0)->(R (.string ⟨#[48]⟩) o))))))/\(¬(a≠(⟨#[]⟩:ByteArray))->(∀q,Ext w.heap.size [] w q->(R (.string ⟨#[48]⟩) q))))))):
  Pure P 96 #[.agg #[.string r,.int .i64 s,.slice t u v,.string a,.string c,.int .i64 x,.int .i64 y],.string b] w R:=
 pure_of_run (stowage_excess.cx w w.heap.size R) 100000 follows Tryz.func96 rfl rfl rfl rfl rfl rfl rfl (Eq.mp (by kernel_rfl) h)

def stowage_sum.L3(a:Option Addr)(b c:Nat)(d:ByteArray)(e:Option Addr)(f g:Nat)(i j:Int)(l:Option Addr)(m n:Nat)(o:Option Addr)(p q:Nat)(r:Option Addr)(s t:Nat)(u:ByteArray)(v:Int)(x:Option Addr)(y z:Nat)(A C:ByteArray)(D E:Int)(B:Nat)(w:World)(R:Value->World->Prop):Prop:=At Tryz.prog 97 42 (loopAt Tryz.f97 3) [(2,.v (.slice a b c)),(3,.loc 3 0),(4,.loc 4 0),(7,.v (.string d)),(14,.v (.slice e f g)),(15,.v (.int .i64 i)),(16,.v (.int .i64 j))] [⟨3,false,28,[(.slice l m n),(.slice o p q),(.slice r s t)]⟩,⟨4,false,87,[(.string u),(.int .i64 v),(.slice x y z),(.string A),(.string C),(.int .i64 D),(.int .i64 E)]⟩] B w R
noncomputable def stowage_sum.cx(w:World)(B:Nat)(R:Value->World->Prop):Cx:=⟨Tryz.prog,97,42,Tryz.f97.results.toList,[((true,3),[2,3,4,7,14,15,16],[3,4])],[(6,9999,3)],w,B,R⟩
theorem stowage_sum.L3.step(c:Option Addr)(d e:Nat)(f:ByteArray)(g:Option Addr)(i t:Nat)(b a:Int)(j:Option Addr)(l m:Nat)(n:Option Addr)(o p:Nat)(u:Option Addr)(v x:Nat)(y:ByteArray)(z:Int)(q:Option Addr)(r A:Nat)(C D:ByteArray)(E G:Int)(B:Nat)(w:World)(R:Value->World->Prop)
  (h:(((a<b)->((0<=a/\a<i)/\∃H,g=some H/\(∃I S T U V X Y,CellsAt w (H.add ((a).toNat*7)) [.int .i64 I,.string S,.string T,.string U,.string V,.string X,.string Y]/\(∀J,Ext B [] w J->(Pure P 129 #[.agg #[.slice j l m,.slice n o p],.slice c d e,.int .i64 I] J fun Z a0=>∃K a1 a2 a3 a4 a5 a6,Z= .tuple #[.agg #[.string K,.string a1,.string a2,.string a3,.string a4,.string a5],.int .i64 a6]/\(∀s,Ext B [] a0 s->((0<=a/\a<r)/\∃L,q=some L/\(∃M,CellsAt s (L.add ((a).toNat*1)) [.string M]/\(∀N,Ext B [] s N->(Pure P 131 #[.string M,.string K] N fun a7 a8=>∃O,a7= .string O/\(Pure P 130 #[.string f,.string O] a8 fun a9 b0=>∃Q,a9= .string Q/\(inR .i64 (a+1)/\(stowage_sum.L3 c d e Q g i t b (a+1) j l m n o p u v x y z q r A C D E G B b0 R)))))))))))))/\(¬(a<b)->(R (.string f) w)))):
  stowage_sum.L3 c d e f g i t b a j l m n o p u v x y z q r A C D E G B w R:=
 loop_of_run (stowage_sum.cx w B R) 100000 (loopAt Tryz.f97 3) _ _ follows Tryz.func97 rfl rfl rfl (Eq.mp (by kernel_rfl) h)
theorem stowage_sum.vc(d:Option Addr)(e f:Nat)(b:Option Addr)(a c:Nat)(g:Option Addr)(i j:Nat)(l:ByteArray)(m:Int)(n:Option Addr)(o p:Nat)(q r:ByteArray)(s t:Int)(u:Option Addr)(v x:Nat)(w:World)(R:Value->World->Prop)
  (h:(∀y,Ext w.heap.size [] w y->(stowage_sum.L3 u v x (⟨#[48]⟩:ByteArray) b a c (a:Int) (0:Int) d e f b a c g i j l m n o p q r s t w.heap.size y R))):
  Pure P 97 #[.agg #[.slice d e f,.slice b a c,.slice g i j],.agg #[.string l,.int .i64 m,.slice n o p,.string q,.string r,.int .i64 s,.int .i64 t],.slice u v x] w R:=
 pure_of_run (stowage_sum.cx w w.heap.size R) 100000 follows Tryz.func97 rfl rfl rfl rfl rfl rfl rfl (Eq.mp (by kernel_rfl) h)

def stowage_apart.L2(a:Option Addr)(b c:Nat)(d:Option Addr)(e f:Nat)(g i:Int)(j:Option Addr)(l m:Nat)(n:Option Addr)(o p:Nat)(q:Option Addr)(r s:Nat)(t:ByteArray)(u:Int)(v:Option Addr)(x y:Nat)(z A:ByteArray)(C D:Int)(B:Nat)(w:World)(R:Value->World->Prop):Prop:=At Tryz.prog 98 48 (loopAt Tryz.f98 2) [(2,.v (.slice a b c)),(3,.loc 3 0),(4,.loc 4 0),(11,.v (.slice d e f)),(12,.v (.int .i64 g)),(13,.v (.int .i64 i))] [⟨3,false,28,[(.slice j l m),(.slice n o p),(.slice q r s)]⟩,⟨4,false,87,[(.string t),(.int .i64 u),(.slice v x y),(.string z),(.string A),(.int .i64 C),(.int .i64 D)]⟩] B w R
def stowage_apart.L5(a:Option Addr)(b c:Nat)(d:Option Addr)(e f:Nat)(g i:Int)(j:Option Addr)(l m:Nat)(n o:Int)(p:Option Addr)(q r:Nat)(s:Option Addr)(t u:Nat)(v:Option Addr)(x y:Nat)(z:ByteArray)(A:Int)(C:Option Addr)(D E:Nat)(G H:ByteArray)(I J K L M:Int)(B:Nat)(w:World)(R:Value->World->Prop):Prop:=At Tryz.prog 98 48 (loopAt Tryz.f98 5) [(2,.v (.slice a b c)),(3,.loc 3 0),(4,.loc 4 0),(8,.loc 8 0),(11,.v (.slice d e f)),(12,.v (.int .i64 g)),(13,.v (.int .i64 i)),(17,.v (.slice j l m)),(18,.v (.int .i64 n)),(19,.v (.int .i64 o))] [⟨3,false,28,[(.slice p q r),(.slice s t u),(.slice v x y)]⟩,⟨4,false,87,[(.string z),(.int .i64 A),(.slice C D E),(.string G),(.string H),(.int .i64 I),(.int .i64 J)]⟩,⟨8,false,39,[(.int .i64 K),(.int .i64 L),(.int .i64 M)]⟩] B w R
noncomputable def stowage_apart.cx(w:World)(B:Nat)(R:Value->World->Prop):Cx:=⟨Tryz.prog,98,48,Tryz.f98.results.toList,[((true,2),[2,3,4,11,12,13],[3,4]),((true,5),[2,3,4,8,11,12,13,17,18,19],[3,4,8])],[],w,B,R⟩
theorem stowage_apart.L2.step(d:Option Addr)(b e:Nat)(f:Option Addr)(g i:Nat)(c a:Int)(j:Option Addr)(l m:Nat)(n:Option Addr)(o p:Nat)(q:Option Addr)(r s:Nat)(t:ByteArray)(u:Int)(v:Option Addr)(x y:Nat)(z A:ByteArray)(C D:Int)(B:Nat)(w:World)(R:Value->World->Prop)
  (h:(((a<c)->((0<=a/\a<g)/\∃E,f=some E/\(∃G H I,CellsAt w (E.add ((a).toNat*3)) [.int .i64 G,.int .i64 H,.int .i64 I]/\(∀J,Ext B [] w J->(stowage_apart.L5 d b e f g i c a d b e (b:Int) (0:Int) j l m n o p q r s t u v x y z A C D G H I B J R)))))/\(¬(a<c)->(R (.bool false) w)))):
  stowage_apart.L2 d b e f g i c a j l m n o p q r s t u v x y z A C D B w R:=
 loop_of_run (stowage_apart.cx w B R) 100000 (loopAt Tryz.f98 2) _ _ follows Tryz.func98 rfl rfl rfl (Eq.mp (by kernel_rfl) h)
theorem stowage_apart.L5.step(r:Option Addr)(s t:Nat)(u:Option Addr)(v x:Nat)(y o:Int)(z:Option Addr)(A L:Nat)(p a:Int)(b:Option Addr)(c d:Nat)(e:Option Addr)(f g:Nat)(i:Option Addr)(j l:Nat)(C:ByteArray)(D:Int)(E:Option Addr)(G H:Nat)(I J:ByteArray)(m n q K M:Int)(B:Nat)(w:World)(R:Value->World->Prop)
  (h:(((a<p)->((0<=a/\a<A)/\∃S,z=some S/\(∃N T Z,CellsAt w (S.add ((a).toNat*3)) [.int .i64 N,.int .i64 T,.int .i64 Z]/\(((q=N)->(∀U,Ext B [] w U->(Pure P 132 #[.agg #[.slice b c d,.slice e f g,.slice i j l],.int .i64 K] U fun a0 V=>∃O,a0= .int .i64 O/\(((O=m)->(Pure P 132 #[.agg #[.slice b c d,.slice e f g,.slice i j l],.int .i64 T] V fun a1 X=>∃Q,a1= .int .i64 Q/\(((Q=n)->(R (.bool true) X))/\(¬(Q=n)->(inR .i64 (a+1)/\(stowage_apart.L5 r s t u v x y o z A L p (a+1) b c d e f g i j l C D E G H I J m n q K M B X R))))))/\(¬(O=m)->(inR .i64 (a+1)/\(stowage_apart.L5 r s t u v x y o z A L p (a+1) b c d e f g i j l C D E G H I J m n q K M B V R)))))))/\(¬(q=N)->(inR .i64 (a+1)/\(∀Y,Ext B [] w Y->(stowage_apart.L5 r s t u v x y o z A L p (a+1) b c d e f g i j l C D E G H I J m n q K M B Y R))))))))/\(¬(a<p)->(inR .i64 (o+1)/\(stowage_apart.L2 r s t u v x y (o+1) b c d e f g i j l C D E G H I J m n B w R))))):
  stowage_apart.L5 r s t u v x y o z A L p a b c d e f g i j l C D E G H I J m n q K M B w R:=
 loop_of_run (stowage_apart.cx w B R) 100000 (loopAt Tryz.f98 5) _ _ follows Tryz.func98 rfl rfl rfl (Eq.mp (by kernel_rfl) h)
theorem stowage_apart.vc(d:Option Addr)(e f:Nat)(g:Option Addr)(i j:Nat)(l:Option Addr)(m n:Nat)(o:ByteArray)(p:Int)(q:Option Addr)(r s:Nat)(t u:ByteArray)(v x:Int)(b:Option Addr)(a c:Nat)(w:World)(R:Value->World->Prop)
  (h:(∀y,Ext w.heap.size [] w y->(stowage_apart.L2 b a c b a c (a:Int) (0:Int) d e f g i j l m n o p q r s t u v x w.heap.size y R))):
  Pure P 98 #[.agg #[.slice d e f,.slice g i j,.slice l m n],.agg #[.string o,.int .i64 p,.slice q r s,.string t,.string u,.int .i64 v,.int .i64 x],.slice b a c] w R:=
 pure_of_run (stowage_apart.cx w w.heap.size R) 100000 follows Tryz.func98 rfl rfl rfl rfl rfl rfl rfl (Eq.mp (by kernel_rfl) h)

noncomputable def stowage_never.cx(w:World)(B:Nat)(R:Value->World->Prop):Cx:=⟨Tryz.prog,99,10,Tryz.f99.results.toList,[],[(1,1,5)],w,B,R⟩
theorem stowage_never.vc(d:Option Addr)(e f:Nat)(g:Option Addr)(i j:Nat)(l:Option Addr)(m n:Nat)(o:ByteArray)(p:Int)(q:Option Addr)(r s:Nat)(t u:ByteArray)(v x:Int)(y:Option Addr)(z A:Nat)(w:World)(R:Value->World->Prop)
  (h:(∀a,Ext w.heap.size [] w a->(∀b:Nat,w.heap.size<=b->a.heap[b]? =some (.cells [.slice d e f,.slice g i j,.slice l m n].toArray 28 (0,0))->(∀c:Nat,w.heap.size<=c->a.heap[c]? =some (.cells [.string o,.int .i64 p,.slice q r s,.string t,.string u,.int .i64 v,.int .i64 x].toArray 87 (0,0))->(Pure P 133 #[.slice y z A,(.func (.func 134) #[] #[(.pointer (some (⟨c,0,none⟩:Addr))),(.pointer (some (⟨b,0,none⟩:Addr)))])] a fun D E=>∃C,D= .bool C/\(R (.bool C) E)))))):
  Pure P 99 #[.agg #[.slice d e f,.slice g i j,.slice l m n],.agg #[.string o,.int .i64 p,.slice q r s,.string t,.string u,.int .i64 v,.int .i64 x],.slice y z A] w R:=
 pure_of_run (stowage_never.cx w w.heap.size R) 100000 follows Tryz.func99 rfl rfl rfl rfl rfl rfl rfl (Eq.mp (by kernel_rfl) h)

def stowage_whole.L4(a:Addr)(b:Int)(c:Option Addr)(d e:Nat)(f g:Int)(B:Nat)(w:World)(R:Value->World->Prop):Prop:=At Tryz.prog 100 41 (loopAt Tryz.f100 4) [(4,.v (.pointer (some a))),(8,.v (.int .i64 b)),(23,.v (.slice c d e)),(24,.v (.int .i64 f)),(25,.v (.int .i64 g))] [] B w R
noncomputable def stowage_whole.cx(w:World)(B:Nat)(R:Value->World->Prop):Cx:=⟨Tryz.prog,100,41,Tryz.f100.results.toList,[((true,4),[4,8,23,24,25],[])],[(1,3,5)],w,B,R⟩
theorem stowage_whole.L4.step(d:Addr)(b:Int)(e:Option Addr)(f i:Nat)(c a:Int)(B:Nat)(w:World)(R:Value->World->Prop)
  (h:(((a<c)->((0<=a/\a<f)/\∃n,e=some n/\(∃o j l,CellsAt w (n.add ((a).toNat*3)) [.int .i64 o,.int .i64 j,.int .i64 l]/\(∀g,Ext B [] w g->(∃m,CellsAt g (d.add 5) [.int .i64 m]/\(((j=m)->(inR .i64 (b - l)/\(inR .i64 (a+1)/\(stowage_whole.L4 d (b - l) e f i c (a+1) B g R))))/\(¬(j=m)->(inR .i64 (a+1)/\(stowage_whole.L4 d b e f i c (a+1) B g R)))))))))/\(¬(a<c)->(R (.bool (decide (b>0))) w)))):
  stowage_whole.L4 d b e f i c a B w R:=
 loop_of_run (stowage_whole.cx w B R) 100000 (loopAt Tryz.f100 4) _ _ follows Tryz.func100 rfl rfl rfl (Eq.mp (by kernel_rfl) h)
theorem stowage_whole.vc(c:Option Addr)(d g:Nat)(y:Option Addr)(z A:Nat)(C:Option Addr)(D E:Nat)(i:ByteArray)(j:Int)(l:Option Addr)(m n:Nat)(o p:ByteArray)(q r:Int)(s:Option Addr)(e t:Nat)(w:World)(R:Value->World->Prop)
  (h:(∀f,Ext w.heap.size [] w f->(∀a:Nat,w.heap.size<=a->f.heap[a]? =some (.cells [.string i,.int .i64 j,.slice l m n,.string o,.string p,.int .i64 q,.int .i64 r].toArray 87 (0,0))->(Pure P 111 #[.slice c d g,(.func (.func 135) #[] #[(.pointer (some (⟨a,0,none⟩:Addr)))])] f fun G u=>∃b,G= .int .i64 b/\((0<=b/\b<d)/\∃v,c=some v/\(∃x,CellsAt u ((v.add ((b).toNat*7)).add 1) [.int .i64 x]/\(stowage_whole.L4 (⟨a,0,none⟩:Addr) x s e t (e:Int) (0:Int) w.heap.size u R))))))):
  Pure P 100 #[.agg #[.slice c d g,.slice y z A,.slice C D E],.agg #[.string i,.int .i64 j,.slice l m n,.string o,.string p,.int .i64 q,.int .i64 r],.slice s e t] w R:=
 pure_of_run (stowage_whole.cx w w.heap.size R) 100000 follows Tryz.func100 rfl rfl rfl rfl rfl rfl rfl (Eq.mp (by kernel_rfl) h)

noncomputable def stowage_fault.cx(w:World)(B:Nat)(R:Value->World->Prop):Cx:=⟨Tryz.prog,110,114,Tryz.f110.results.toList,[],[(6,4,5)],w,B,R⟩
theorem stowage_fault.vc(Q:Option Addr)(S T:Nat)(U:Option Addr)(f V:Nat)(g:Option Addr)(j i:Nat)(c:Int)(w:World)(R:Value->World->Prop)
  (h:((0<=c/\c<j)/\∃X,g=some X/\(∀l,Ext w.heap.size [] w l->(∃d Y m n o p q Z i9,CellsAt l (X.add ((c).toNat*7)) [.string d,.int .i64 Y,.slice m n o,.string p,.string q,.int .i64 Z,.int .i64 i9]/\(∀a1,Ext w.heap.size [] l a1->(Pure P 148 #[.slice m n o,(.func (.func 149) #[] #[])] a1 fun c0 a2=>∃r,c0= .bool r/\((r=true->(R (.int .i64 1) a2))/\(r=false->(Pure P 151 #[.string p] a2 fun c1 a3=>∃s,c1= .bool s/\(((s=false)->(R (.int .i64 1) a3))/\(¬(s=false)->(Pure P 151 #[.string q] a3 fun c2 e=>∃t,c2= .bool t/\(((t=false)->(R (.int .i64 1) e))/\(¬(t=false)->(((((ByteArray.size d:Int):Int)<1)->(R (.int .i64 4) e))/\(¬(((ByteArray.size d:Int):Int)<1)->(((((ByteArray.size d:Int):Int)>64)->(R (.int .i64 4) e))/\(¬(((ByteArray.size d:Int):Int)>64)->((0<=c/\c<=(i:Int))/\(∀b:Nat,w.heap.size<=b->e.heap[b]? =some (.cells [.string d,.int .i64 Y,.slice m n o,.string p,.string q,.int .i64 Z,.int .i64 i9].toArray 87 (0,0))->(Pure P 152 #[(.slice g ((c).toNat) i),(.func (.func 153) #[] #[(.pointer (some (⟨b,0,none⟩:Addr)))])] e fun c3 a=>∃u,c3= .bool u/\((u=true->(R (.int .i64 6) a))/\(u=false->(∃v,CellsAt a ((⟨b,0,none⟩:Addr).add 1) [.int .i64 v]/\(((v<1)->(R (.int .i64 2) a))/\(¬(v<1)->(∃x,CellsAt a ((⟨b,0,none⟩:Addr).add 1) [.int .i64 x]/\(((x>4)->(R (.int .i64 2) a))/\(¬(x>4)->(∃y,CellsAt a ((⟨b,0,none⟩:Addr).add 1) [.int .i64 y]/\(((y=1)->(∃c4 z c5,CellsAt a ((⟨b,0,none⟩:Addr).add 2) [.slice c4 z c5]/\((((z:Int)≠(f:Int))->(R (.int .i64 10) a))/\(¬((z:Int)≠(f:Int))->(∃A,CellsAt a ((⟨b,0,none⟩:Addr).add 5) [.int .i64 A]/\(((A≠0)->(R (.int .i64 10) a))/\(¬(A≠0)->(∃C,CellsAt a ((⟨b,0,none⟩:Addr).add 6) [.int .i64 C]/\(((C≠0)->(R (.int .i64 10) a))/\(¬(C≠0)->(∃D,CellsAt a ((⟨b,0,none⟩:Addr).add 3) [.string D]/\(((D=(⟨#[]⟩:ByteArray))->(∃E,CellsAt a ((⟨b,0,none⟩:Addr).add 4) [.string E]/\(((E=(⟨#[]⟩:ByteArray))->(R (.int .i64 2) a))/\(¬(E=(⟨#[]⟩:ByteArray))->(∃G,CellsAt a ((⟨b,0,none⟩:Addr).add 3) [.string G]/\(((G≠(⟨#[]⟩:ByteArray))->(∃H,CellsAt a ((⟨b,0,none⟩:Addr).add 4) [.string H]/\(((H≠(⟨#[]⟩:ByteArray))->(∃a4,CellsAt a ((⟨b,0,none⟩:Addr).add 3) [.string a4]/\(∃a5,CellsAt a ((⟨b,0,none⟩:Addr).add 4) [.string a5]/\(Pure P 127 #[.string a4,.string a5] a fun c6 a6=>∃I,c6= .int .i64 I/\(((I>0)->(R (.int .i64 2) a6))/\(¬(I>0)->(R (.int .i64 0) a6)))))))/\(¬(H≠(⟨#[]⟩:ByteArray))->(R (.int .i64 0) a)))))/\(¬(G≠(⟨#[]⟩:ByteArray))->(R (.int .i64 0) a))))))))/\(¬(D=(⟨#[]⟩:ByteArray))->(∃J,CellsAt a ((⟨b,0,none⟩:Addr).add 3) [.string J]/\(((J≠(⟨#[]⟩:ByteArray))->(∃K,CellsAt a ((⟨b,0,none⟩:Addr).add 4) [.string K]/\(((K≠(⟨#[]⟩:ByteArray))->(∃a7,CellsAt a ((⟨b,0,none⟩:Addr).add 3) [.string a7]/\(∃a8,CellsAt a ((⟨b,0,none⟩:Addr).add 4) [.string a8]/\(Pure P 127 #[.string a7,.string a8] a fun c7 a9=>∃L,c7= .int .i64 L/\(((L>0)->(R (.int .i64 2) a9))/\(¬(L>0)->(R (.int .i64 0) a9)))))))/\(¬(K≠(⟨#[]⟩:ByteArray))->(R (.int .i64 0) a)))))/\(¬(J≠(⟨#[]⟩:ByteArray))->(R (.int .i64 0) a)))))))))))))))))/\(¬(y=1)->(∃c8 M c9,CellsAt a ((⟨b,0,none⟩:Addr).add 2) [.slice c8 M c9]/\((((M:Int)>0)->(R (.int .i64 10) a))/\(¬((M:Int)>0)->(∃N,CellsAt a ((⟨b,0,none⟩:Addr).add 3) [.string N]/\(((N≠(⟨#[]⟩:ByteArray))->(R (.int .i64 10) a))/\(¬(N≠(⟨#[]⟩:ByteArray))->(∃O,CellsAt a ((⟨b,0,none⟩:Addr).add 4) [.string O]/\(((O≠(⟨#[]⟩:ByteArray))->(R (.int .i64 10) a))/\(¬(O≠(⟨#[]⟩:ByteArray))->(∃b0 b1 b2 b3 b4 b5 b6 b7 b8,CellsAt a (⟨b,0,none⟩:Addr) [.string b0,.int .i64 b1,.slice b2 b3 b4,.string b5,.string b6,.int .i64 b7,.int .i64 b8]/\(Pure P 154 #[.agg #[.slice Q S T,.slice U f V,.slice g j i],.agg #[.string b0,.int .i64 b1,.slice b2 b3 b4,.string b5,.string b6,.int .i64 b7,.int .i64 b8]] a fun d0 d1=>∃b9,d0= .int .i64 b9/\(R (.int .i64 b9) d1)))))))))))))))))))))))))))))))))))))))))))):
  Pure P 110 #[.agg #[.slice Q S T,.slice U f V,.slice g j i],.int .i64 c] w R:=
 pure_of_run (stowage_fault.cx w w.heap.size R) 100000 follows Tryz.func110 rfl rfl rfl rfl rfl rfl rfl (Eq.mp (by kernel_rfl) h)

noncomputable def stowage_compare.cx(w:World)(B:Nat)(R:Value->World->Prop):Cx:=⟨Tryz.prog,127,14,Tryz.f127.results.toList,[],[],w,B,R⟩
theorem stowage_compare.vc(a b:ByteArray)(w:World)(R:Value->World->Prop)
  (h:(Pure P 141 #[.string a,.string b] w fun d e=>∃c f,d= .tuple #[.int .i64 c,.int .i64 f]/\(R (.int .i64 c) e))):
  Pure P 127 #[.string a,.string b] w R:=
 pure_of_run (stowage_compare.cx w w.heap.size R) 100000 follows Tryz.func127 rfl rfl rfl rfl rfl rfl rfl (Eq.mp (by kernel_rfl) h)

noncomputable def stowage_sub.cx(w:World)(B:Nat)(R:Value->World->Prop):Cx:=⟨Tryz.prog,128,14,Tryz.f128.results.toList,[],[],w,B,R⟩
theorem stowage_sub.vc(a b:ByteArray)(w:World)(R:Value->World->Prop)
  (h:(Pure P 164 #[.string a,.string b] w fun d e=>∃c f,d= .tuple #[.string c,.int .i64 f]/\(R (.string c) e))):
  Pure P 128 #[.string a,.string b] w R:=
 pure_of_run (stowage_sub.cx w w.heap.size R) 100000 follows Tryz.func128 rfl rfl rfl rfl rfl rfl rfl (Eq.mp (by kernel_rfl) h)

noncomputable def stowage_add.cx(w:World)(B:Nat)(R:Value->World->Prop):Cx:=⟨Tryz.prog,130,14,Tryz.f130.results.toList,[],[],w,B,R⟩
theorem stowage_add.vc(a b:ByteArray)(w:World)(R:Value->World->Prop)
  (h:(Pure P 165 #[.string a,.string b] w fun d e=>∃c f,d= .tuple #[.string c,.int .i64 f]/\(R (.string c) e))):
  Pure P 130 #[.string a,.string b] w R:=
 pure_of_run (stowage_add.cx w w.heap.size R) 100000 follows Tryz.func130 rfl rfl rfl rfl rfl rfl rfl (Eq.mp (by kernel_rfl) h)

noncomputable def stowage_mul.cx(w:World)(B:Nat)(R:Value->World->Prop):Cx:=⟨Tryz.prog,131,14,Tryz.f131.results.toList,[],[],w,B,R⟩
theorem stowage_mul.vc(a b:ByteArray)(w:World)(R:Value->World->Prop)
  (h:(Pure P 166 #[.string a,.string b] w fun d e=>∃c f,d= .tuple #[.string c,.int .i64 f]/\(R (.string c) e))):
  Pure P 131 #[.string a,.string b] w R:=
 pure_of_run (stowage_mul.cx w w.heap.size R) 100000 follows Tryz.func131 rfl rfl rfl rfl rfl rfl rfl (Eq.mp (by kernel_rfl) h)

noncomputable def stowage_class.cx(w:World)(B:Nat)(R:Value->World->Prop):Cx:=⟨Tryz.prog,132,18,Tryz.f132.results.toList,[],[(1,3,5)],w,B,R⟩
theorem stowage_class.vc(b:Option Addr)(c f:Nat)(m:Option Addr)(n o:Nat)(p:Option Addr)(q r:Nat)(g:Int)(w:World)(R:Value->World->Prop)
  (h:(∀d,Ext w.heap.size [] w d->(∀e:Nat,w.heap.size<=e->d.heap[e]? =some (.cells [.int .i64 g].toArray 3 (0,0))->(Pure P 111 #[.slice b c f,(.func (.func 167) #[] #[(.pointer (some (⟨e,0,none⟩:Addr)))])] d fun s i=>∃a,s= .int .i64 a/\((0<=a/\a<c)/\∃j,b=some j/\(∃l,CellsAt i ((j.add ((a).toNat*7)).add 2) [.int .i64 l]/\(R (.int .i64 l) i))))))):
  Pure P 132 #[.agg #[.slice b c f,.slice m n o,.slice p q r],.int .i64 g] w R:=
 pure_of_run (stowage_class.cx w w.heap.size R) 100000 follows Tryz.func132 rfl rfl rfl rfl rfl rfl rfl (Eq.mp (by kernel_rfl) h)

noncomputable def stowage_never_c1.cx(w:World)(B:Nat)(R:Value->World->Prop):Cx:=⟨Tryz.prog,134,19,Tryz.f134.results.toList,[],[(1,9999,3)],w,B,R⟩
theorem stowage_never_c1.vc(b e v:Int)(c:Addr)(f:Addr)(w:World)(R:Value->World->Prop)
  (h:(∀a,Ext w.heap.size [] w a->(∃d,CellsAt a (c.add 6) [.int .i64 d]/\(((b=d)->(∃g i j l m n o p q,CellsAt a f [.slice g i j,.slice l m n,.slice o p q]/\(∃r,CellsAt a (c.add 5) [.int .i64 r]/\(∀s,Ext w.heap.size [] a s->(Pure P 132 #[.agg #[.slice g i j,.slice l m n,.slice o p q],.int .i64 e] s fun x y=>∃t,x= .int .i64 t/\(R (.bool (decide (t=r))) y))))))/\(¬(b=d)->(∀u,Ext w.heap.size [] a u->(R (.bool false) u))))))):
  Pure P 134 #[.agg #[.int .i64 b,.int .i64 e,.int .i64 v],(.pointer (some c)),(.pointer (some f))] w R:=
 pure_of_run (stowage_never_c1.cx w w.heap.size R) 100000 follows Tryz.func134 rfl rfl rfl rfl rfl rfl rfl (Eq.mp (by kernel_rfl) h)

noncomputable def stowage_whole_c1.cx(w:World)(B:Nat)(R:Value->World->Prop):Cx:=⟨Tryz.prog,135,9,Tryz.f135.results.toList,[],[],w,B,R⟩
theorem stowage_whole_c1.vc(b e f:Int)(g i j l:ByteArray)(c:Addr)(w:World)(R:Value->World->Prop)
  (h:(∀a,Ext w.heap.size [] w a->(∃d,CellsAt a (c.add 5) [.int .i64 d]/\(R (.bool (decide (b=d))) a)))):
  Pure P 135 #[.agg #[.int .i64 b,.int .i64 e,.int .i64 f,.string g,.string i,.string j,.string l],(.pointer (some c))] w R:=
 pure_of_run (stowage_whole_c1.cx w w.heap.size R) 100000 follows Tryz.func135 rfl rfl rfl rfl rfl rfl rfl (Eq.mp (by kernel_rfl) h)

noncomputable def stowage_fault_c1.cx(w:World)(B:Nat)(R:Value->World->Prop):Cx:=⟨Tryz.prog,149,6,Tryz.f149.results.toList,[],[],w,B,R⟩
theorem stowage_fault_c1.vc(a:ByteArray)(w:World)(R:Value->World->Prop)
  (h:(Pure P 150 #[.string a] w fun c d=>∃b,c= .bool b/\(R (.bool (decide (b=false))) d))):
  Pure P 149 #[.string a] w R:=
 pure_of_run (stowage_fault_c1.cx w w.heap.size R) 100000 follows Tryz.func149 rfl rfl rfl rfl rfl rfl rfl (Eq.mp (by kernel_rfl) h)

noncomputable def stowage_empty.cx(w:World)(B:Nat)(R:Value->World->Prop):Cx:=⟨Tryz.prog,151,9,Tryz.f151.results.toList,[],[],w,B,R⟩
theorem stowage_empty.vc(a:ByteArray)(w:World)(R:Value->World->Prop)
  (h:(((a=(⟨#[]⟩:ByteArray))->(R (.bool true) w))/\(¬(a=(⟨#[]⟩:ByteArray))->(Pure P 150 #[.string a] w fun c d=>∃b,c= .bool b/\(R (.bool b) d))))):
  Pure P 151 #[.string a] w R:=
 pure_of_run (stowage_empty.cx w w.heap.size R) 100000 follows Tryz.func151 rfl rfl rfl rfl rfl rfl rfl (Eq.mp (by kernel_rfl) h)

noncomputable def stowage_fault_c2.cx(w:World)(B:Nat)(R:Value->World->Prop):Cx:=⟨Tryz.prog,153,9,Tryz.f153.results.toList,[],[],w,B,R⟩
theorem stowage_fault_c2.vc(b:ByteArray)(e:Int)(f:Option Addr)(g i:Nat)(j l:ByteArray)(m n:Int)(c:Addr)(w:World)(R:Value->World->Prop)
  (h:(∀a,Ext w.heap.size [] w a->(∃d,CellsAt a (c.add 0) [.string d]/\(R (.bool (decide (b=d))) a)))):
  Pure P 153 #[.agg #[.string b,.int .i64 e,.slice f g i,.string j,.string l,.int .i64 m,.int .i64 n],(.pointer (some c))] w R:=
 pure_of_run (stowage_fault_c2.cx w w.heap.size R) 100000 follows Tryz.func153 rfl rfl rfl rfl rfl rfl rfl (Eq.mp (by kernel_rfl) h)

noncomputable def stowage_other.cx(w:World)(B:Nat)(R:Value->World->Prop):Cx:=⟨Tryz.prog,154,51,Tryz.f154.results.toList,[],[(5,3,5),(13,3,5)],w,B,R⟩
theorem stowage_other.vc(u:Option Addr)(v x:Nat)(y:Option Addr)(z A:Nat)(L:Option Addr)(M N:Nat)(d:ByteArray)(b:Int)(e:Option Addr)(f g:Nat)(i j:ByteArray)(c a:Int)(w:World)(R:Value->World->Prop)
  (h:(((b=2)->(((c≥a)->(∀C,Ext w.heap.size [] w C->(R (.int .i64 2) C)))/\(¬(c≥a)->(∀D,Ext w.heap.size [] w D->(Pure P 181 #[.int .i64 c] D fun O E=>∃l,O= .bool l/\(((l=false)->(R (.int .i64 2) E))/\(¬(l=false)->(Pure P 181 #[.int .i64 a] E fun Q G=>∃m,Q= .bool m/\(((m=false)->(R (.int .i64 2) G))/\(¬(m=false)->(R (.int .i64 0) G)))))))))))/\(¬(b=2)->(((b=3)->(∀H,Ext w.heap.size [] w H->(Pure P 181 #[.int .i64 c] H fun S n=>∃o,S= .bool o/\(((o=false)->(R (.int .i64 2) n))/\(¬(o=false)->(∀p:Nat,w.heap.size<=p->n.heap[p]? =some (.cells [.string d,.int .i64 b,.slice e f g,.string i,.string j,.int .i64 c,.int .i64 a].toArray 87 (0,0))->(Pure P 182 #[.slice y z A,(.func (.func 183) #[] #[(.pointer (some (⟨p,0,none⟩:Addr)))])] n fun T I=>∃q,T= .bool q/\(((q=false)->(R (.int .i64 7) I))/\(¬(q=false)->(R (.int .i64 0) I))))))))))/\(¬(b=3)->(((a≠0)->(∀J,Ext w.heap.size [] w J->(R (.int .i64 2) J)))/\(¬(a≠0)->(∀r,Ext w.heap.size [] w r->(∀s:Nat,w.heap.size<=s->r.heap[s]? =some (.cells [.string d,.int .i64 b,.slice e f g,.string i,.string j,.int .i64 c,.int .i64 a].toArray 87 (0,0))->(Pure P 184 #[.slice u v x,(.func (.func 185) #[] #[(.pointer (some (⟨s,0,none⟩:Addr)))])] r fun U K=>∃t,U= .bool t/\(((t=false)->(R (.int .i64 7) K))/\(¬(t=false)->(R (.int .i64 0) K))))))))))))):
  Pure P 154 #[.agg #[.slice u v x,.slice y z A,.slice L M N],.agg #[.string d,.int .i64 b,.slice e f g,.string i,.string j,.int .i64 c,.int .i64 a]] w R:=
 pure_of_run (stowage_other.cx w w.heap.size R) 100000 follows Tryz.func154 rfl rfl rfl rfl rfl rfl rfl (Eq.mp (by kernel_rfl) h)

noncomputable def stowage_class_c1.cx(w:World)(B:Nat)(R:Value->World->Prop):Cx:=⟨Tryz.prog,167,8,Tryz.f167.results.toList,[],[],w,B,R⟩
theorem stowage_class_c1.vc(b e f:Int)(g i j l:ByteArray)(c:Addr)(w:World)(R:Value->World->Prop)
  (h:(∀a,Ext w.heap.size [] w a->(∃d,CellsAt a c [.int .i64 d]/\(R (.bool (decide (b=d))) a)))):
  Pure P 167 #[.agg #[.int .i64 b,.int .i64 e,.int .i64 f,.string g,.string i,.string j,.string l],(.pointer (some c))] w R:=
 pure_of_run (stowage_class_c1.cx w w.heap.size R) 100000 follows Tryz.func167 rfl rfl rfl rfl rfl rfl rfl (Eq.mp (by kernel_rfl) h)

noncomputable def stowage_other_c1.cx(w:World)(B:Nat)(R:Value->World->Prop):Cx:=⟨Tryz.prog,181,9,Tryz.f181.results.toList,[],[],w,B,R⟩
theorem stowage_other_c1.vc(a:Int)(w:World)(R:Value->World->Prop)
  (h:(((a≥(1:Int))->(R (.bool (decide (a<=(9:Int)))) w))/\(¬(a≥(1:Int))->(R (.bool false) w)))):
  Pure P 181 #[.int .i64 a] w R:=
 pure_of_run (stowage_other_c1.cx w w.heap.size R) 100000 follows Tryz.func181 rfl rfl rfl rfl rfl rfl rfl (Eq.mp (by kernel_rfl) h)

noncomputable def stowage_other_c2.cx(w:World)(B:Nat)(R:Value->World->Prop):Cx:=⟨Tryz.prog,183,9,Tryz.f183.results.toList,[],[],w,B,R⟩
theorem stowage_other_c2.vc(b:Int)(e f g i j l:ByteArray)(c:Addr)(w:World)(R:Value->World->Prop)
  (h:(∀a,Ext w.heap.size [] w a->(∃d,CellsAt a (c.add 6) [.int .i64 d]/\(R (.bool (decide (b=d))) a)))):
  Pure P 183 #[.agg #[.int .i64 b,.string e,.string f,.string g,.string i,.string j,.string l],(.pointer (some c))] w R:=
 pure_of_run (stowage_other_c2.cx w w.heap.size R) 100000 follows Tryz.func183 rfl rfl rfl rfl rfl rfl rfl (Eq.mp (by kernel_rfl) h)

noncomputable def stowage_other_c3.cx(w:World)(B:Nat)(R:Value->World->Prop):Cx:=⟨Tryz.prog,185,9,Tryz.f185.results.toList,[],[],w,B,R⟩
theorem stowage_other_c3.vc(b e f:Int)(g i j l:ByteArray)(c:Addr)(w:World)(R:Value->World->Prop)
  (h:(∀a,Ext w.heap.size [] w a->(∃d,CellsAt a (c.add 5) [.int .i64 d]/\(R (.bool (decide (b=d))) a)))):
  Pure P 185 #[.agg #[.int .i64 b,.int .i64 e,.int .i64 f,.string g,.string i,.string j,.string l],(.pointer (some c))] w R:=
 pure_of_run (stowage_other_c3.cx w w.heap.size R) 100000 follows Tryz.func185 rfl rfl rfl rfl rfl rfl rfl (Eq.mp (by kernel_rfl) h)

end Go.Proofs.YtgfkeadgjkfomaaGreatDoor.F

namespace Go.Proofs.YtgfkeadgjkfomaaGreatDoor.B
open Go Go.RowKit Go.Proofs Go.Proofs.YtgfkeadgjkfomaaGreatDoor.Vc

theorem stow_add{w:World}{x y:Rat}(hg:Glob w)(hx:Big x)(hy:Big y):Pure Tryz.prog 130 #[.string (rS x),.string (rS y)] w fun v _=>v= .string (rS (x+y)):=by
 refine F.stowage_add.vc _ _ _ _ (Pure.mono (rational_Add hg hx hy) ?_)
 rintro v w2 _ rfl
 exact⟨_,_,rfl,rfl⟩
theorem stow_sub{w:World}{x y:Rat}(hg:Glob w)(hx:Big x)(hy:Big y):Pure Tryz.prog 128 #[.string (rS x),.string (rS y)] w fun v _=>v= .string (rS (x - y)):=by
 refine F.stowage_sub.vc _ _ _ _ (Pure.mono (rational_Sub hg hx hy) ?_)
 rintro v w2 _ rfl
 exact⟨_,_,rfl,rfl⟩
theorem stow_mul{w:World}{x y:Rat}(hg:Glob w)(hx:Big x)(hy:Big y):Pure Tryz.prog 131 #[.string (rS x),.string (rS y)] w fun v _=>v= .string (rS (x*y)):=by
 refine F.stowage_mul.vc _ _ _ _ (Pure.mono (rational_Mul hg hx hy) ?_)
 rintro v w2 _ rfl
 exact⟨_,_,rfl,rfl⟩
theorem stow_compare{w:World}{x y:Rat}(hg:Glob w)(hx:Big x)(hy:Big y):Pure Tryz.prog 127 #[.string (rS x),.string (rS y)] w fun v _=>v= .int .i64 (cmpR x y):=by
 refine F.stowage_compare.vc _ _ _ _ (Pure.mono (rational_Compare hg hx hy) ?_)
 rintro v w2 _ rfl
 exact⟨_,_,rfl,rfl⟩
theorem stow_sign{w:World}{x:Rat}(hg:Glob w)(h:Big x):Pure Tryz.prog 95 #[.string (rS x)] w fun v _=>v= .int .i64 (cmpR x 0):=by
 refine F.stowage_sign.vc _ _ _ ?_
 rw[s0]
 refine Pure.mono (stow_compare hg h (Sm.zero (by omega))) ?_
 rintro v w2 _ rfl
 exact⟨_,rfl,rfl⟩
theorem rat_Valid{w:World}(hg:Glob w){s:ByteArray}(hs:SmS s):Pure Tryz.prog 150 #[.string s] w fun v _=>v= .bool (vR s):=by
 refine Pure.mono (rational_Valid hg s (Nat.le_trans hs (by decide))) ?_
 rintro v w2 _ rfl
 unfold vR
 cases isRat (by_ s)<;>rfl
theorem nil_size{s:ByteArray}:s=⟨#[]⟩↔s.size=0:=by
 constructor
 ·rintro rfl;rfl
 ·intro h
  obtain⟨d⟩:=s
  have:d.size=0:=h
  rw[Array.eq_empty_of_size_eq_zero this]
theorem stow_empty{w:World}(hg:Glob w){s:ByteArray}(hs:SmS s):Pure Tryz.prog 151 #[.string s] w fun v _=>v= .bool (eV s):=by
 refine F.stowage_empty.vc _ _ _ ⟨fun h=> ?_,fun h=> ?_⟩
 ·unfold eV
  rw[decide_eq_true (nil_size.1 h)]
  rfl
 ·refine Pure.mono (rat_Valid hg hs) ?_
  rintro v w2 _ rfl
  refine⟨_,rfl,?_⟩
  unfold eV
  rw[decide_eq_false (fun k=>h (nil_size.2 k))]
  rfl
theorem eV_ne{s:ByteArray}(h:eV s=true)(h0:¬s.size=0):vR s=true:=by
 unfold eV at h
 rw[decide_eq_false h0]at h
 exact h

theorem index_rules{w0:World}{A:Option Addr}{n c:Nat}{l:List Rm}(hl:SlR w0 A 7 (l.map Rm.row))(hlen:l.length=n)(hn:n<2147483648){f:Nat}{a k:Array Value}(hcall:callable Tryz.prog f=true){p:Rm->Bool}
  (hf:∀w,Below w0.heap.size w0 w->∀x∈l,Pure Tryz.prog f (a.toList++([x.val]:List Value)++k.toList).toArray w fun v _=>v= .bool (p x)) {R:Value->World->Prop} {r:Int} (hR:∀w,Below w0.heap.size w0 w->R (.int .i64 r) w):
  ∀(d i:Nat)(w:World),n - i=d->i<=n->Below w0.heap.size w0 w->r=idxG p i (l.drop i)->F.slices_IndexFunc_api_Rule_api_Rule.L2 A n c f a k n i w0.heap.size w R:=by
 intro d
 induction d with
 |zero=>
  intro i w hd hi hw hr
  rw[List.drop_eq_nil_of_le (by omega)]at hr
  subst hr
  exact F.slices_IndexFunc_api_Rule_api_Rule.L2.step _ _ _ _ _ _ _ _ _ _ _ ⟨fun h=>by omega,fun _=>hR w hw⟩
 |succ d ih=>
  intro i w hd hi hw hr
  have hil:i<l.length:=by omega
  rw[List.drop_eq_getElem_cons hil,idxG]at hr
  obtain⟨hb,ad,hA,hcell,_⟩:=(hl.keep hw (Nat.le_refl _)).at_ (fun _=>rfl) hlen hil
  refine F.slices_IndexFunc_api_Rule_api_Rule.L2.step _ _ _ _ _ _ _ _ _ _ _ ⟨fun _=> ?_,fun h=>by omega⟩
  refine⟨hb,ad,hA,_,_,_,_,_,_,_,_,_,hcell,hcall,Pure.mono (hf w hw l[i] (List.getElem_mem _)) ?_⟩
  rintro v w2 b2 rfl
  refine⟨_,rfl,fun h=> ?_,fun h=>⟨by simp only[inR];omega,?_⟩⟩
  ·rw[if_pos h]at hr
   subst hr
   exact hR w2 (kP hw b2)
  ·rw[if_neg (by simp[h])]at hr
   have e3:(i:Int)+1=((i+1:Nat):Int):=by omega
   rw[e3]
   exact ih (i+1) w2 (by omega) (by omega) (kP hw b2) hr
theorem anyRules{w0:World}{A:Option Addr}{n c:Nat}{l:List Rm}(hl:SlR w0 A 7 (l.map Rm.row))(hlen:l.length=n)(hn:n<2147483648){f:Nat}{a k:Array Value}(hcall:callable Tryz.prog f=true){p:Rm->Bool}
  (hf:∀w,Below w0.heap.size w0 w->∀x∈l,Pure Tryz.prog f (a.toList++([x.val]:List Value)++k.toList).toArray w fun v _=>v= .bool (p x)):
  Pure Tryz.prog 152 #[.slice A n c,.func (.func f) a k] w0 fun v _=>v= .bool (l.any p):=by
 refine F.slices_ContainsFunc_api_Rule_api_Rule.vc _ _ _ _ _ _ _ _ (Pure.mono (F.slices_IndexFunc_api_Rule_api_Rule.vc _ _ _ _ _ _ _ _ (index_rules hl hlen hn hcall hf (R:=fun v _=>v= .int .i64 (idxG p 0 l)) (fun _ _=>rfl) n 0 w0 rfl (by omega) (Below.refl _ _) rfl)) ?_)
 rintro v w2 _ rfl
 exact⟨_,rfl,by rw[any_idx]⟩
theorem anyRats{w0:World}{A:Option Addr}{n c:Nat}{l:List ByteArray}(hl:SlR w0 A 1 (l.map sRow))(hlen:l.length=n)(hn:n<2147483648){f:Nat}{a k:Array Value}(hcall:callable Tryz.prog f=true){p:ByteArray->Bool}
  (hf:∀w,Below w0.heap.size w0 w->∀x∈l,Pure Tryz.prog f (a.toList++([.string x]:List Value)++k.toList).toArray w fun v _=>v= .bool (p x)):
  Pure Tryz.prog 148 #[.slice A n c,.func (.func f) a k] w0 fun v _=>v= .bool (l.any p):=by
 refine F.slices_ContainsFunc_api_Rat_api_Rat.vc _ _ _ _ _ _ _ _ (Pure.mono (F.slices_IndexFunc_api_Rat_api_Rat.vc _ _ _ _ _ _ _ _ (index_rats hl hlen hn hcall hf (R:=fun v _=>v= .int .i64 (idxG p 0 l)) (fun _=>rfl) n 0 w0 rfl (by omega) (Below.refl _ _) rfl)) ?_)
 rintro v w2 _ rfl
 exact⟨_,rfl,by rw[any_idx]⟩
end Go.Proofs.YtgfkeadgjkfomaaGreatDoor.B
