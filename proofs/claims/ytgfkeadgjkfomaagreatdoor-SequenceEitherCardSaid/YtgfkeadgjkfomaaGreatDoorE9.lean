/- Part 9 of the proofs that: a plan is one of the orders -/
import Derived.Test.YtgfkeadgjkfomaaGreatDoorE8
import Derived.Test.YtgfkeadgjkfomaaGreatDoorProg
set_option linter.unusedVariables false
set_option linter.unusedSimpArgs false
namespace Go.Proofs.YtgfkeadgjkfomaaGreatDoor.B
open Go Go.RowKit Go.Proofs Go.Proofs.YtgfkeadgjkfomaaGreatDoor.Vc

theorem at_a{α:Type}{row:α->List Value}{sz:Nat}{w:World}{A:Option Addr}{n:Nat}{v:List α}{a:Addr}(h:SlR w A sz (v.map row))(hr:∀x,(row x).length=sz)(hl:v.length=n){i:Nat}(hi:i<v.length)(hA:A=some a):
  CellsAt w (a.add ((i:Int).toNat*sz)) (row v[i])/\∀k u,(row v[i])[k]? =some u->CellsAt w ((a.add ((i:Int).toNat*sz)).add k) [u]:=by
 obtain⟨_,a',hA',h1,h2⟩:=h.at_ hr hl hi
 rw[hA]at hA'
 cases hA'
 exact⟨h1,h2⟩
theorem ixI_ge{o:Option Nat}:(ixI o≥0)↔o≠none:=by cases o<;>simp[ixI]<;>omega
theorem class_v(n:Int)(w:World):Pure Tryz.prog 181 #[.int .i64 n] w fun v _=>v= .bool (decide (1<=n/\n<=9)):=by
 refine F.stowage_other_c1.vc _ _ _ ⟨fun h=> ?_,fun h=> ?_⟩
 ·refine congrArg Value.bool ?_
  rw[decide_eq_decide]
  omega
 ·refine congrArg Value.bool ?_
  exact(decide_eq_false (by omega)).symm

section
variable {w:World} {A0 A1 A2:Option Addr} {n0 c0 n1 c1 n2 c2:Nat} {ps:List Pa} {hs:List Ho} {xs:List Rm}
theorem stow_other(hp:PrIn w A0 n0 A1 n1 A2 n2 c2 ps hs xs)(x:Rm):
  Pure Tryz.prog 154 #[.agg #[.slice A0 n0 c0,.slice A1 n1 c1,.slice A2 n2 c2],x.val] w fun v _=>v= .int .i64
   (if x.r.kind=2 then(if ¬(x.r.a<x.r.b/\(1<=x.r.a/\x.r.a<=9)/\(1<=x.r.b/\x.r.b<=9))then 2 else 0)
   else if x.r.kind=3 then(if ¬(1<=x.r.a/\x.r.a<=9)then 2 else if hix hs x.r.b=none then 7 else 0)
   else if x.r.b≠0 then 2 else if pix ps x.r.a=none then 7 else 0):=by
 have hnh:=hp.c.nh
 have hnp:=hp.c.np
 refine F.stowage_other.vc _ _ _ _ _ _ _ _ _ _ _ _ _ _ _ _ _ _ _ _ ⟨fun k2=> ?_,fun k2=>⟨fun k3=> ?_,fun k3=> ?_⟩⟩
 ·rw[if_pos k2]
  refine⟨fun h w1 _=> ?_,fun h w2 _=> ?_⟩
  ·rw[if_pos (fun k=>absurd k.1 (by omega))]
  refine Pure.mono (class_v _ _) ?_
  rintro v w5 _ rfl
  refine⟨_,rfl,fun h1=> ?_,fun h1=> ?_⟩
  ·have h1:=of_decide_eq_false h1
   rw[if_pos (fun k=>h1 k.2.1)]
  have h1:=of_decide_eq_true (Bool.not_eq_false _|>.mp h1)
  refine Pure.mono (class_v _ _) ?_
  rintro v w8 _ rfl
  refine⟨_,rfl,fun h2=> ?_,fun h2=> ?_⟩
  ·have h2:=of_decide_eq_false h2
   rw[if_pos (fun k=>h2 k.2.2)]
  have h2:=of_decide_eq_true (Bool.not_eq_false _|>.mp h2)
  rw[if_neg (fun k=>k ⟨by omega,h1,h2⟩)]
 ·rw[if_neg k2,if_pos k3]
  intro w9 x9
  have hw:=k0 x9
  refine Pure.mono (class_v _ _) ?_
  rintro v w12 b12 rfl
  have hw:=kP hw b12
  refine⟨_,rfl,fun h1=> ?_,fun h1 p13 hp13 hb13=> ?_⟩
  ·rw[if_pos (of_decide_eq_false h1)]
  have h1:=of_decide_eq_true (Bool.not_eq_false _|>.mp h1)
  refine Pure.mono (F.slices_ContainsFunc_api_Hold_api_Hold.vc _ _ _ _ _ _ _ (fun v _=>v= .bool (decide (ixI (hix hs x.r.b)≥0))) (Pure.mono (IndexHo (p:=fun h=>decide (h.id=x.r.b)) (hp.c.keep hw).h hp.c.lh (by omega) (by kernel_rfl) fun w' hb y hy=> ?_) ?_)) ?_
  ·exact F.stowage_other_c2.vc _ _ _ _ _ _ _ _ _ _ fun w1 x1=>⟨_,box_cell (heap_keep (heap_keep hb13 hb) (k0 x1)) rfl,rfl⟩
  ·rintro v w2 _ rfl
   exact⟨_,rfl,rfl⟩
  ·rintro v w16 _ rfl
   refine⟨_,rfl,fun h2=> ?_,fun h2=> ?_⟩
   ·have h2:=of_decide_eq_false h2
    rw[if_neg (fun k=>k h1),if_pos (Decidable.not_not.1 fun k=>h2 (ixI_ge.2 k))]
   ·have h2:=of_decide_eq_true (Bool.not_eq_false _|>.mp h2)
    rw[if_neg (fun k=>k h1),if_neg (ixI_ge.1 h2)]
 ·rw[if_neg k2,if_neg k3]
  refine⟨fun h w1 _=>by rw[if_pos h],fun h w18 x18 p19 hp19 hb19=> ?_⟩
  have hw:=k0 x18
  rw[if_neg h]
  refine Pure.mono (F.slices_ContainsFunc_api_Parcel_api_Parcel.vc _ _ _ _ _ _ _ (fun v _=>v= .bool (decide (ixI (pix ps x.r.a)≥0))) (Pure.mono (IndexPa (p:=fun h=>decide (h.id=x.r.a)) (hp.c.keep hw).p hp.c.lp (by omega) (by kernel_rfl) fun w' hb y hy=> ?_) ?_)) ?_
  ·exact F.stowage_other_c3.vc _ _ _ _ _ _ _ _ _ _ fun w1 x1=>⟨_,box_cell (heap_keep (heap_keep hb19 hb) (k0 x1)) rfl,rfl⟩
  ·rintro v w2 _ rfl
   exact⟨_,rfl,rfl⟩
  ·rintro v w16 _ rfl
   refine⟨_,rfl,fun h2=> ?_,fun h2=> ?_⟩
   ·have h2:=of_decide_eq_false h2
    rw[if_pos (Decidable.not_not.1 fun k=>h2 (ixI_ge.2 k))]
   ·have h2:=of_decide_eq_true (Bool.not_eq_false _|>.mp h2)
    rw[if_neg (ixI_ge.1 h2)]
theorem ne_nil{s:ByteArray}:s≠⟨#[]⟩↔s.size≠0:=not_congr nil_size
theorem stow_fault(hg:Glob w)(hp:PrIn w A0 n0 A1 n1 A2 n2 c2 ps hs xs){i:Nat}(hi:i<xs.length):
  Pure Tryz.prog 110 #[.agg #[.slice A0 n0 c0,.slice A1 n1 c1,.slice A2 n2 c2],.int .i64 (i:Int)] w fun v _=>v= .int .i64 (faultR ps hs (rsOf (xs.take i)) xs[i].r):=by
 have hl:=hp.l
 have hn:=hp.n
 have hk:=hp.k
 have hlh:=hp.c.lh
 have hin:=hp.f _ (List.getElem_mem hi)
 have hlen:=hin.s.len
 have hxl:=hin.l
 obtain⟨hb,a,hA,_,_⟩:=hp.at_ hi
 unfold faultR
 refine F.stowage_fault.vc _ _ _ _ _ _ _ _ _ _ _ _ ⟨hb,a,hA,fun w2 x2=> ?_⟩
 have hw:=k0 x2
 refine⟨_,_,_,_,_,_,_,_,_,(at_a (hp.keep hw).r (fun _=>rfl) hl hi hA).1,fun w10 x10=> ?_⟩
 have hw:=kE hw x10
 refine Pure.mono (anyRats (p:=fun s=> !vR s) (hin.keep hw).f hin.l (by omega) (by kernel_rfl) fun w' hb s hs=> ?_) ?_
 ·refine F.stowage_fault_c1.vc _ _ _ (Pure.mono (rat_Valid (hg.next (kP hw hb)) (hin.s.fac s hs)) ?_)
  rintro v w2 _ rfl
  exact⟨_,rfl,by cases vR s<;>rfl⟩
 rintro v w13 b13 rfl
 have hw:=kP hw b13
 refine⟨_,rfl,fun h=> ?_,fun h=> ?_⟩
 ·rw[if_pos]
  rintro⟨k,_⟩
  obtain⟨s,hs,hv⟩:=List.any_eq_true.1 h
  rw[List.all_eq_true.1 k s hs]at hv
  cases hv
 have hall:xs[i].r.fac.all vR=true:=List.all_eq_true.2 fun s hs=>by
  have:=List.any_eq_false.1 h s hs
  simpa using this
 refine Pure.mono (stow_empty (hg.next hw) hin.s.low) ?_
 rintro v w16 b16 rfl
 have hw:=kP hw b16
 refine⟨_,rfl,fun h=> ?_,fun h=> ?_⟩
 ·rw[if_pos (fun k=>by rw[k.2.1]at h;cases h)]
 have hlow:=Bool.not_eq_false _|>.mp h
 refine Pure.mono (stow_empty (hg.next hw) hin.s.high) ?_
 rintro v w19 b19 rfl
 have hw:=kP hw b19
 refine⟨_,rfl,fun h=> ?_,fun h=> ?_⟩
 ·rw[if_pos (fun k=>by rw[k.2.2]at h;cases h)]
 have hhigh:=Bool.not_eq_false _|>.mp h
 rw[if_neg (fun k=>k ⟨hall,hlow,hhigh⟩)]
 refine⟨fun h=> ?_,fun h1=>⟨fun h=> ?_,fun h2=>⟨by omega,fun p20 hp20 hb20=> ?_⟩⟩⟩
 ·rw[if_pos (fun k=>by omega)]
 ·rw[if_pos (fun k=>by omega)]
 rw[if_neg (fun k=>k ⟨by omega,by omega⟩)]
 have e1:(i:Int).toNat=i:=by omega
 rw[e1]
 have ht:SlR w19 A2 7 ((xs.take i).map Rm.row):=by
  have:=(hp.keep hw).r.take i
  rwa [<-List.map_take]at this
 refine Pure.mono (anyRules (n:=i) (c:=c2) (p:=fun y=>decide (y.r.name=xs[i].r.name)) ht (by rw[List.length_take];omega) (by omega) (by kernel_rfl) fun w' hb y hy=> ?_) ?_
 ·exact F.stowage_fault_c2.vc _ _ _ _ _ _ _ _ _ _ _ _ fun w1 x1=>⟨_,box_cell (heap_keep (heap_keep hb20 hb) (k0 x1)) rfl,rfl⟩
 rintro v w23 b23 rfl
 have hw:=kP hw b23
 have e2:((rsOf (xs.take i)).any fun x=>decide (x.name=xs[i].r.name))=(xs.take i).any fun y=>decide (y.r.name=xs[i].r.name):=by
  unfold rsOf
  rw[List.any_map]
  rfl
 rw[e2]
 have cell:∀k u,(xs[i].row)[k]? =some u->CellsAt w23 ((⟨p20,0,none⟩:Addr).add k) [u]:=fun k u hu=>box_cell (heap_keep hb20 b23) hu
 refine⟨_,rfl,fun h=> ?_,fun h=>⟨_,cell 1 _ rfl,fun h1=> ?_,fun h1=>⟨_,cell 1 _ rfl,fun h2=> ?_,fun h2=>⟨_,cell 1 _ rfl,fun h3=> ?_,fun h3=> ?_⟩⟩⟩⟩
 ·rw[if_pos h]
 ·rw[if_neg (by rw[h];decide),if_pos (.inl (by omega))]
 ·rw[if_neg (by rw[h];decide),if_pos (.inr (by omega))]
 ·rw[if_neg (by rw[h];decide),if_neg (by omega),if_pos h3]
  refine⟨_,_,_,cell 2 _ rfl,fun h4=> ?_,fun h4=>⟨_,cell 5 _ rfl,fun h5=> ?_,fun h5=>⟨_,cell 6 _ rfl,fun h6=> ?_,fun h6=>⟨_,cell 3 _ rfl,fun h7=>⟨_,cell 4 _ rfl,fun h8=> ?_,fun h8=>⟨_,cell 3 _ rfl,fun h9=>absurd h7 h9,fun h9=> ?_⟩⟩,fun h7=>⟨_,cell 3 _ rfl,fun h9=>⟨_,cell 4 _ rfl,fun h10=>⟨_,cell 3 _ rfl,_,cell 4 _ rfl,?_⟩,fun h10=> ?_⟩,fun h9=>absurd h7 h9⟩⟩⟩⟩⟩
  ·rw[if_pos (.inl (by omega))]
  ·rw[if_pos (.inr (.inl h5))]
  ·rw[if_pos (.inr (.inr h6))]
  ·rw[if_neg (by rintro(k|k|k)<;>omega),if_pos (.inl ⟨nil_size.1 h7,nil_size.1 h8⟩)]
  ·have h8:¬xs[i].r.high.size=0:=fun k=>h8 (nil_size.2 k)
   have h7:=nil_size.1 h7
   rw[if_neg (by rintro(k|k|k)<;>omega),if_neg (by rintro(k|k)<;>omega)]
  ·have h9:=ne_nil.1 h9
   have h10:=ne_nil.1 h10
   have v1:=eV_ne hlow h9
   have v2:=eV_ne hhigh h10
   rw[if_neg (by rintro(k|k|k)<;>omega)]
   have cmp:=stow_compare (hg.next hw) (hin.s.low.big v1) (hin.s.high.big v2)
   rw[<-vR_eq v1,<-vR_eq v2]at cmp
   refine Pure.mono cmp ?_
   rintro v w45 _ rfl
   refine⟨_,rfl,fun k=> ?_,fun k=> ?_⟩
   ·rw[if_pos (.inr ⟨h9,h10,cmpR_gt.1 k⟩)]
   ·rw[if_neg]
    rintro(q|q)
    ·exact h9 q.1
    ·exact k (cmpR_gt.2 q.2.2)
  ·have h9:=ne_nil.1 h9
   have h10:xs[i].r.high.size=0:=Decidable.not_not.1 fun k=>h10 (ne_nil.2 k)
   rw[if_neg (by rintro(k|k|k)<;>omega),if_neg (by rintro(k|k)<;>omega)]
 ·rw[if_neg (by rw[h];decide),if_neg (by omega),if_neg h3]
  refine⟨_,_,_,cell 2 _ rfl,fun h4=> ?_,fun h4=>⟨_,cell 3 _ rfl,fun h5=> ?_,fun h5=>⟨_,cell 4 _ rfl,fun h6=> ?_,fun h6=>⟨_,_,_,_,_,_,_,_,_,box_all (heap_keep hb20 b23),?_⟩⟩⟩⟩
  ·rw[if_pos (.inl (by omega))]
  ·rw[if_pos (.inr (.inl (ne_nil.1 h5)))]
  ·rw[if_pos (.inr (.inr (ne_nil.1 h6)))]
  ·have h5:xs[i].r.low.size=0:=Decidable.not_not.1 fun k=>h5 (ne_nil.2 k)
   have h6:xs[i].r.high.size=0:=Decidable.not_not.1 fun k=>h6 (ne_nil.2 k)
   rw[if_neg (by rintro(k|k|k)<;>omega)]
   refine Pure.mono (stow_other (hp.keep hw) xs[i]) ?_
   rintro v w58 _ rfl
   exact⟨_,rfl,rfl⟩
theorem rs_take{i:Nat}(hi:i<xs.length):rsOf (xs.take i)++[xs[i].r]=rsOf (xs.take (i+1)):=by
 unfold rsOf
 rw[List.take_add_one,List.getElem?_eq_getElem hi,List.map_append]
 rfl
theorem stow_Check(hg:Glob w)(hp:PrIn w A0 n0 A1 n1 A2 n2 c2 ps hs xs):
  Pure Tryz.prog 77 #[.agg #[.slice A0 n0 c0,.slice A1 n1 c1,.slice A2 n2 c2]] w fun v _=>v= .tuple #[.int .i64 (checkR ps hs (rsOf xs)).1,.int .i64 (checkR ps hs (rsOf xs)).2]:=by
 have hl:=hp.l
 have hn:=hp.n
 unfold checkR
 refine F.stowage_Check.vc _ _ _ _ _ _ _ _ _ _ _ fun w1 x1=> ?_
 have hw:=k0 x1
 refine Pure.mono (cargo_Check (hg.next hw) (hp.c.keep hw)) ?_
 rintro v w4 b4 rfl
 have hw:=kP hw b4
 refine⟨_,rfl,fun h=> ?_,fun h=>⟨fun h1=> ?_,fun h1=> ?_⟩⟩
 ·rw[if_pos h]
 ·rw[if_neg h,if_pos (by simp[rsOf];omega)]
 ·rw[if_neg h,if_neg (by simp[rsOf];omega)]
  have key:∀(d i:Nat)(w':World),n2 - i=d->i<=n2->Below w.heap.size w w'->F.stowage_Check.L7 n2 i A0 n0 c0 A1 n1 c1 A2 n2 c2 w.heap.size w' fun v _=>v= .tuple #[.int .i64 (goR ps hs i (rsOf (xs.take i)) (rsOf (xs.drop i))).1,.int .i64 (goR ps hs i (rsOf (xs.take i)) (rsOf (xs.drop i))).2]:=by
   intro d
   induction d with
   |zero=>
    intro i w' hd hi hw
    rw[List.drop_eq_nil_of_le (by omega)]
    exact F.stowage_Check.L7.step _ _ _ _ _ _ _ _ _ _ _ _ _ _ ⟨fun h=>by omega,fun _=>rfl⟩
   |succ d ih=>
    intro i w' hd hi hw
    have hil:i<xs.length:=by omega
    refine F.stowage_Check.L7.step _ _ _ _ _ _ _ _ _ _ _ _ _ _ ⟨fun _=> ?_,fun h=>by omega⟩
    refine Pure.mono (stow_fault (hg.next hw) (hp.keep hw) hil) ?_
    rintro v w7 b7 rfl
    have e3:(i:Int)+1=((i+1:Nat):Int):=by omega
    have hd':rsOf (xs.drop i)=xs[i].r::rsOf (xs.drop (i+1)):=by
     unfold rsOf
     rw[List.drop_eq_getElem_cons hil]
     rfl
    rw[hd',goR]
    refine⟨_,rfl,fun h=> ?_,fun h=>⟨by simp only[inR];omega,?_⟩⟩
    ·rw[if_pos h]
    ·rw[if_neg h,rs_take hil,e3]
     exact ih (i+1) w7 (by omega) (by omega) (kP hw b7)
  exact key n2 0 w4 rfl (by omega) hw
end

theorem sumQ_snoc(l:List Rat)(x:Rat):(l++[x]).sum=l.sum+x:=by
 induction l with
 |nil=>simp[Rat.add_zero,Rat.zero_add]
 |cons a r ih=>rw[List.cons_append,List.sum_cons,List.sum_cons,ih,Rat.add_assoc]
theorem sm_sumQ{k:Nat}:∀{l:List Rat},(∀x∈l,Sm k x)->Sm ((k+1)*l.length+1) l.sum:=by
 intro l
 induction l with
 |nil=>intro _;exact Sm.zero (by omega)
 |cons a r ih=>
  intro h
  rw[List.sum_cons]
  refine((h a (by simp)).add (ih fun x hx=>h x (by simp[hx]))).mono ?_
  rw[List.length_cons,Nat.mul_add]
  omega
def trmR(ps:List Pa)(l:List Sw)(x:Ho×ByteArray):Rat:=qR x.2*sumR (tP ps Pa.mass) (inS l x.1.id)
section
variable {w:World} {A0 A1 A2 A:Option Addr} {n0 c0 n1 c1 n2 c2 n c:Nat} {ps:List Pa} {hs:List Ho} {xs:List Rm} {l:List Sw}
theorem mass_sm(hc:CgIn w A0 n0 A1 n1 ps hs)(hr:RightS ps hs l)(hn:l.length<=40)(id:Int):Sm 12013 (sumR (tP ps Pa.mass) (inS l id)):=by
 have hok:=(hr.ld hn).filter fun s=>decide (s.hold=id)
 refine(sm_sum fun s hs'=>(hok.smT hc hs').1.1).mono ?_
 have:=inS_len hr id
 have:=hr.c.lp
 unfold inS at*
 omega
theorem trm_sm(hc:CgIn w A0 n0 A1 n1 ps hs)(hr:RightS ps hs l)(hn:l.length<=40){x:Ho×ByteArray}(hv:vR x.2=true)(hs':SmS x.2):Sm 13013 (trmR ps l x):=
 ((vR_sm hv hs').mul (mass_sm hc hr hn x.1.id)).mono (by omega)
theorem zip_mem{x:Rm}(hx:RmIn w x)(hf:x.r.fac.all vR=true){y:Ho×ByteArray}(hy:y∈hs.zip x.r.fac):vR y.2=true/\SmS y.2:=by
 obtain⟨a,b⟩:=y
 have:=(List.of_mem_zip hy).2
 exact⟨List.all_eq_true.1 hf _ this,hx.s.fac _ this⟩
theorem sumRu_sm(hc:CgIn w A0 n0 A1 n1 ps hs)(hr:RightS ps hs l)(hn:l.length<=40){x:Rm}(hx:RmIn w x)(hf:x.r.fac.all vR=true)(k:Nat):Sm 90000 (((hs.zip x.r.fac).take k).map (trmR ps l)).sum:=by
 refine(sm_sumQ (k:=13013) fun y hy=> ?_).mono ?_
 ·obtain⟨z,hz,rfl⟩:=List.mem_map.1 hy
  obtain⟨h1,h2⟩:=zip_mem hx hf (List.mem_of_mem_take hz)
  exact trm_sm hc hr hn h1 h2
 ·have h6:=hr.c.lh
  rw[List.length_map,List.length_take,List.length_zip]
  have:min k (min hs.length x.r.fac.length)<=6:=by omega
  have:=Nat.mul_le_mul_left 13014 this
  omega
theorem hix_at(ih:hs.Pairwise fun a b=>a.id<b.id){i:Nat}(hi:i<hs.length):hix hs hs[i].id≠none:=by
 intro h
 unfold hix at h
 rw[List.findIdx?_eq_none_iff]at h
 have:=h _ (List.getElem_mem hi)
 simp at this
theorem stow_sum(hg:Glob w)(hp:PrIn w A0 n0 A1 n1 A2 n2 c2 ps hs xs)(h:SlR w A 3 (l.map Sw.row))(hl:l.length=n)(hnc:n<=c)(hn:n<=40)(hst:stowedF ps hs l=0){x:Rm}(hx:RmIn w x)(hf:x.r.fac.all vR=true)(hfl:x.r.fac.length=hs.length):
  Pure Tryz.prog 97 #[.agg #[.slice A0 n0 c0,.slice A1 n1 c1,.slice A2 n2 c2],x.val,.slice A n c] w fun v _=>v= .string (rS (sumRu ps hs x.r l)):=by
 have hr:=stowed_right hst
 have hlh:=hp.c.lh
 have hnh:=hp.c.nh
 have hxl:=hx.l
 refine F.stowage_sum.vc _ _ _ _ _ _ _ _ _ _ _ _ _ _ _ _ _ _ _ _ _ _ _ fun w1 x1=> ?_
 have key:∀(d i:Nat)(w':World),n1 - i=d->i<=n1->Below w.heap.size w w'->F.stowage_sum.L3 A n c (rS (((hs.zip x.r.fac).take i).map (trmR ps l)).sum) A1 n1 c1 n1 i A0 n0 c0 A1 n1 c1 A2 n2 c2 x.r.name x.r.kind x.A x.n x.c x.r.low x.r.high x.r.a x.r.b w.heap.size w' fun v _=>v= .string (rS (sumRu ps hs x.r l)):=by
  intro d
  induction d with
  |zero=>
   intro i w' hd hi hw
   refine F.stowage_sum.L3.step _ _ _ _ _ _ _ _ _ _ _ _ _ _ _ _ _ _ _ _ _ _ _ _ _ _ _ _ _ _ ⟨fun h=>by omega,fun _=> ?_⟩
   rw[List.take_of_length_le (by rw[List.length_zip];omega)]
   rfl
  |succ d ih=>
   intro i w' hd hi hw
   have hih:i<hs.length:=by omega
   have hif:i<x.r.fac.length:=by omega
   have hiz:i<(hs.zip x.r.fac).length:=by rw[List.length_zip];omega
   have e3:(i:Int)+1=((i+1:Nat):Int):=by omega
   have et:((hs.zip x.r.fac).take (i+1)).map (trmR ps l)=((hs.zip x.r.fac).take i).map (trmR ps l)++[trmR ps l (hs[i],x.r.fac[i])]:=by
    rw[List.take_add_one,List.getElem?_eq_getElem hiz,List.map_append,List.getElem_zip]
    rfl
   obtain⟨hb,a,hA,hcell,_⟩:=((hp.keep hw).c.h).at_ (fun _=>rfl) hlh hih
   refine F.stowage_sum.L3.step _ _ _ _ _ _ _ _ _ _ _ _ _ _ _ _ _ _ _ _ _ _ _ _ _ _ _ _ _ _ ⟨fun _=>⟨hb,a,hA,_,_,_,_,_,_,_,hcell,fun w10 x10=> ?_⟩,fun h=>by omega⟩
   have hw:=kE hw x10
   refine Pure.mono (cargo_Held (hg.next hw) (hp.keep hw).c (h.keep hw (Nat.le_refl _)) hl hnc hn hs[i].id) ?_
   rintro v w19 b19 rfl
   have hw:=kP hw b19
   unfold heldV
   rw[if_neg (fun k=>k hst),if_neg (hix_at hr.c.ih hih)]
   refine⟨_,_,_,_,_,_,_,rfl,fun w20 x20=> ?_⟩
   have hw:=kE hw x20
   obtain⟨hbf,af,hAf,hcf,_⟩:=((hx.keep hw).f).at_ (fun _=>rfl) hxl hif
   refine⟨hbf,af,hAf,_,hcf,fun w23 x23=> ?_⟩
   have hw:=kE hw x23
   have hv:=List.all_eq_true.1 hf _ (List.getElem_mem hif)
   have hsf:=hx.s.fac _ (List.getElem_mem hif)
   have m:=stow_mul (hg.next hw) (hsf.big hv) ((mass_sm hp.c hr (by omega) hs[i].id).mono (by omega))
   rw[<-vR_eq hv]at m
   refine Pure.mono m ?_
   rintro v w26 b26 rfl
   have hw:=kP hw b26
   refine⟨_,rfl,Pure.mono (stow_add (hg.next hw) ((sumRu_sm hp.c hr (by omega) hx hf i).mono (by omega)) ((trm_sm (x:=(hs[i],x.r.fac[i])) hp.c hr (by omega) hv hsf).mono (by omega))) ?_⟩
   rintro v w29 b29 rfl
   refine⟨_,rfl,by simp only[inR];omega,?_⟩
   have:=ih (i+1) w29 (by omega) (by omega) (kP hw b29)
   rw[et,sumQ_snoc]at this
   rw[e3]
   exact this
 have:=key n1 0 w1 rfl (by omega) (k0 x1)
 simp only[List.take_zero,List.map_nil,List.sum_nil,<-s0]at this
 exact this
theorem stow_excess(hg:Glob w){x:Rm}(hx:RmIn w x)(hlow:eV x.r.low=true)(hhigh:eV x.r.high=true){s:Rat}(hs':Sm 90000 s):
  Pure Tryz.prog 96 #[x.val,.string (rS s)] w fun v _=>v= .string (rS (excessR x.r s)):=by
 have bs:Big s:=hs'.mono (by omega)
 have low:∀w',Below w.heap.size w w'->x.r.low≠⟨#[]⟩->¬(x.r.high.size≠0/\qR x.r.high<s)->Pure Tryz.prog 127 #[.string (rS s),.string x.r.low] w' fun r9 w10=>∃(i8:Int),r9=(.int .i64 i8)/\((((i8:Int)<(0:Int))->(Pure Tryz.prog 128 #[(.string (rS s)),(.string x.r.low)] w10 fun r12 w13=>∃(s11:ByteArray),r12=(.string s11)/\(Value.string s11= .string (rS (excessR x.r s)))))/\(¬((i8:Int)<(0:Int))->(Value.string (⟨#[48]⟩:ByteArray)= .string (rS (excessR x.r s))))):=by
  intro w' hw h0 hh
  have h0:=ne_nil.1 h0
  have v1:=eV_ne hlow h0
  have b1:=hx.s.low.big v1
  have c1:=stow_compare (hg.next hw) bs b1
  rw[<-vR_eq v1]at c1
  unfold excessR
  rw[if_neg hh]
  refine Pure.mono c1 ?_
  rintro v w10 b10 rfl
  refine⟨_,rfl,fun k=> ?_,fun k=> ?_⟩
  ·have c2:=stow_sub (hg.next (kP hw b10)) bs b1
   rw[<-vR_eq v1]at c2
   refine Pure.mono c2 ?_
   rintro v w13 _ rfl
   exact⟨_,rfl,by rw[if_pos ⟨h0,cmpR_lt.1 k⟩]⟩
  ·rw[if_neg (fun q=>k (cmpR_lt.2 q.2)),<-s0]
 have none_:¬(x.r.high.size≠0/\qR x.r.high<s)->¬(x.r.low≠⟨#[]⟩)->Value.string (⟨#[48]⟩:ByteArray)= .string (rS (excessR x.r s)):=by
  intro h1 h2
  unfold excessR
  rw[if_neg h1,if_neg (fun k=>h2 (ne_nil.2 k.1)),<-s0]
 refine F.stowage_excess.vc _ _ _ _ _ _ _ _ _ _ _ _ ⟨fun h w1 x1=> ?_,fun h=>⟨fun h1 w14 x14=> ?_,fun h1 w21 _=> ?_⟩⟩
 ·have hw:=k0 x1
  have h0:=ne_nil.1 h
  have v1:=eV_ne hhigh h0
  have b1:=hx.s.high.big v1
  have cc:=stow_compare (hg.next hw) bs b1
  rw[<-vR_eq v1]at cc
  refine Pure.mono cc ?_
  rintro v w4 b4 rfl
  have hw:=kP hw b4
  refine⟨_,rfl,fun k=> ?_,fun k=> ?_⟩
  ·have cs:=stow_sub (hg.next hw) bs b1
   rw[<-vR_eq v1]at cs
   refine Pure.mono cs ?_
   rintro v w7 _ rfl
   refine⟨_,rfl,?_⟩
   unfold excessR
   rw[if_pos ⟨h0,cmpR_gt.1 k⟩]
  ·have hn:¬(x.r.high.size≠0/\qR x.r.high<s):=fun q=>k (cmpR_gt.2 q.2)
   exact⟨fun h2=>low w4 hw h2 hn,fun h2=>none_ hn h2⟩
 ·exact low w14 (k0 x14) h1 fun q=>h (ne_nil.2 q.1)
 ·exact none_ (fun q=>h (ne_nil.2 q.1)) h1
theorem excess_sm{w:World}{x:Rm}(hx:RmIn w x)(hlow:eV x.r.low=true)(hhigh:eV x.r.high=true){s:Rat}(hs':Sm 90000 s):Big (excessR x.r s):=by
 unfold excessR
 split
 ·rename_i h
  exact(hs'.sub (vR_sm (eV_ne hhigh h.1) hx.s.high)).mono (by omega)
 ·split
  ·rename_i h
   exact(hs'.sub (vR_sm (eV_ne hlow h.1) hx.s.low)).mono (by omega)
  ·exact Sm.zero (by omega)
theorem stow_broken1(hg:Glob w)(hp:PrIn w A0 n0 A1 n1 A2 n2 c2 ps hs xs)(h:SlR w A 3 (l.map Sw.row))(hl:l.length=n)(hnc:n<=c)(hn:n<=40)(hst:stowedF ps hs l=0){x:Rm}(hx:RmIn w x)(hr:RightR ps hs x.r)(hk:x.r.kind=1):
  Pure Tryz.prog 94 #[.agg #[.slice A0 n0 c0,.slice A1 n1 c1,.slice A2 n2 c2],x.val,.slice A n c] w fun v _=>v= .bool (brokenR ps hs l x.r):=by
 have hsm:Sm 90000 (sumRu ps hs x.r l):=by
  have:=sumRu_sm hp.c (stowed_right hst) (by omega) hx hr.fac (hs.zip x.r.fac).length
  rwa [List.take_length]at this
 refine F.stowage_broken_c1.vc _ _ _ _ _ _ _ _ _ _ _ _ _ _ _ _ _ _ _ _ _ _ _ fun w1 x1=> ?_
 have hw:=k0 x1
 refine Pure.mono (stow_sum (hg.next hw) (hp.keep hw) (h.keep hw (Nat.le_refl _)) hl hnc hn hst (hx.keep hw) hr.fac (hr.sum hk)) ?_
 rintro v w4 b4 rfl
 have hw:=kP hw b4
 refine⟨_,rfl,Pure.mono (stow_excess (hg.next hw) (hx.keep hw) hr.low hr.high hsm) ?_⟩
 rintro v w7 b7 rfl
 have hw:=kP hw b7
 refine⟨_,rfl,Pure.mono (stow_sign (hg.next hw) (excess_sm hx hr.low hr.high hsm)) ?_⟩
 rintro v w10 _ rfl
 refine⟨_,rfl,?_⟩
 unfold brokenR
 rw[if_pos hk]
 refine congrArg Value.bool ?_
 rw[decide_eq_decide]
 exact not_congr cmpR_eq

theorem stow_class(hc:CgIn w A0 n0 A1 n1 ps hs){id:Int}{i:Nat}(hi:pix ps id=some i):
  Pure Tryz.prog 132 #[.agg #[.slice A0 n0 c0,.slice A1 n1 c1,.slice A2 n2 c2],.int .i64 id] w fun v _=>v= .int .i64 (clsP ps id):=by
 have hnp:=hc.np
 obtain⟨hil,hid⟩:=pix_lt hi
 refine F.stowage_class.vc _ _ _ _ _ _ _ _ _ _ _ _ fun w1 x1 p2 hp2 hb2=> ?_
 have hw:=k0 x1
 refine Pure.mono (IndexPa (p:=fun p=>decide (p.id=id)) (hc.keep hw).p hc.lp (by omega) (by kernel_rfl) fun w' hb y hy=> ?_) ?_
 ·exact F.stowage_class_c1.vc _ _ _ _ _ _ _ _ _ _ fun w1 x1=>⟨_,box_cell0 (heap_keep (heap_keep hb2 hb) (k0 x1)) rfl,rfl⟩
 ·rintro v w5 b5 rfl
  have hw:=kP hw b5
  show ∃i3:Int,Value.int .i64 (ixI (pix ps id))=_/\_
  rw[hi]
  obtain⟨hb,a,hA,_,hcell⟩:=((hc.keep hw).p).at_ (fun _=>rfl) hc.lp hil
  refine⟨_,rfl,hb,a,hA,_,hcell 2 _ rfl,?_⟩
  unfold clsP
  rw[hi,Option.bind_some,List.getElem?_eq_getElem hil]
theorem stow_apart(hc:CgIn w A0 n0 A1 n1 ps hs)(h:SlR w A 3 (l.map Sw.row))(hl:l.length=n)(hn:n<=40)(hk:∀s∈l,∃i,pix ps s.parcel=some i)(x:Rm):
  Pure Tryz.prog 98 #[.agg #[.slice A0 n0 c0,.slice A1 n1 c1,.slice A2 n2 c2],x.val,.slice A n c] w fun v _=>v= .bool (l.any fun s=>l.any fun t=>decide (s.hold=t.hold)&&(decide (clsP ps s.parcel=x.r.a)&&decide (clsP ps t.parcel=x.r.b))):=by
 have outer:∀(d i:Nat)(w':World),n - i=d->i<=n->Below w.heap.size w w'->F.stowage_apart.L2 A n c A n c n i A0 n0 c0 A1 n1 c1 A2 n2 c2 x.r.name x.r.kind x.A x.n x.c x.r.low x.r.high x.r.a x.r.b w.heap.size w' fun v _=>v= .bool ((l.drop i).any fun s=>l.any fun t=>decide (s.hold=t.hold)&&(decide (clsP ps s.parcel=x.r.a)&&decide (clsP ps t.parcel=x.r.b))):=by
  intro d
  induction d with
  |zero=>
   intro i w' hd hi hw
   rw[List.drop_eq_nil_of_le (by omega)]
   exact F.stowage_apart.L2.step _ _ _ _ _ _ _ _ _ _ _ _ _ _ _ _ _ _ _ _ _ _ _ _ _ _ _ _ _ ⟨fun h=>by omega,fun _=>rfl⟩
  |succ d ih=>
   intro i w' hd hi hw
   have hil:i<l.length:=by omega
   have e3:(i:Int)+1=((i+1:Nat):Int):=by omega
   obtain⟨ip,hip⟩:=hk _ (List.getElem_mem hil)
   obtain⟨hb,a,hA,hcell,_⟩:=(h.keep hw (Nat.le_refl _)).at_ (fun _=>rfl) hl hil
   refine F.stowage_apart.L2.step _ _ _ _ _ _ _ _ _ _ _ _ _ _ _ _ _ _ _ _ _ _ _ _ _ _ _ _ _ ⟨fun _=>⟨hb,a,hA,_,_,_,hcell,fun w6 x6=> ?_⟩,fun h=>by omega⟩
   have hw:=kE hw x6
   rw[List.drop_eq_getElem_cons hil,List.any_cons]
   have inner:∀(e j:Nat)(w':World),n - j=e->j<=n->Below w.heap.size w w'->F.stowage_apart.L5 A n c A n c n i A n c n j A0 n0 c0 A1 n1 c1 A2 n2 c2 x.r.name x.r.kind x.A x.n x.c x.r.low x.r.high x.r.a x.r.b l[i].hold l[i].parcel l[i].units w.heap.size w' fun v _=>v= .bool (((l.drop j).any fun t=>decide (l[i].hold=t.hold)&&(decide (clsP ps l[i].parcel=x.r.a)&&decide (clsP ps t.parcel=x.r.b)))||
     ((l.drop (i+1)).any fun s=>l.any fun t=>decide (s.hold=t.hold)&&(decide (clsP ps s.parcel=x.r.a)&&decide (clsP ps t.parcel=x.r.b)))):=by
    intro e
    induction e with
    |zero=>
     intro j w' he hj hw
     rw[List.drop_eq_nil_of_le (i:=j) (by omega),List.any_nil,Bool.false_or]
     refine F.stowage_apart.L5.step _ _ _ _ _ _ _ _ _ _ _ _ _ _ _ _ _ _ _ _ _ _ _ _ _ _ _ _ _ _ _ _ _ _ _ _ _ ⟨fun h=>by omega,fun _=>⟨by simp only[inR];omega,?_⟩⟩
     rw[e3]
     exact ih (i+1) w' (by omega) (by omega) hw
    |succ e ihe=>
     intro j w' he hj hw
     have hjl:j<l.length:=by omega
     have ej:(j:Int)+1=((j+1:Nat):Int):=by omega
     obtain⟨jp,hjp⟩:=hk _ (List.getElem_mem hjl)
     obtain⟨hb,a,hA,hcell,_⟩:=(h.keep hw (Nat.le_refl _)).at_ (fun _=>rfl) hl hjl
     rw[List.drop_eq_getElem_cons hjl,List.any_cons]
     refine F.stowage_apart.L5.step _ _ _ _ _ _ _ _ _ _ _ _ _ _ _ _ _ _ _ _ _ _ _ _ _ _ _ _ _ _ _ _ _ _ _ _ _ ⟨fun _=>⟨hb,a,hA,_,_,_,hcell,fun h1 w11 x11=> ?_,fun h1=>⟨by simp only[inR];omega,fun w18 x18=> ?_⟩⟩,fun h=>by omega⟩
     ·have hw:=kE hw x11
      refine Pure.mono (stow_class (hc.keep hw) hip) ?_
      rintro v w14 b14 rfl
      have hw:=kP hw b14
      rw[decide_eq_true h1,Bool.true_and]
      refine⟨_,rfl,fun h2=> ?_,fun h2=>⟨by simp only[inR];omega,?_⟩⟩
      ·refine Pure.mono (stow_class (hc.keep hw) hjp) ?_
       rintro v w17 b17 rfl
       rw[decide_eq_true h2,Bool.true_and]
       refine⟨_,rfl,fun h3=> ?_,fun h3=>⟨by simp only[inR];omega,?_⟩⟩
       ·rw[decide_eq_true h3]
        rfl
       ·rw[decide_eq_false h3,Bool.false_or,ej]
        have:=ihe (j+1) w17 (by omega) (by omega) (kP hw b17)
        rw[decide_eq_true h2]at this
        simp only[Bool.true_and]at this
        exact this
      ·rw[decide_eq_false h2,Bool.false_and,Bool.false_or,ej]
       have:=ihe (j+1) w14 (by omega) (by omega) hw
       rw[decide_eq_false h2]at this
       exact this
     ·rw[decide_eq_false h1,Bool.false_and,Bool.false_or,ej]
      exact ihe (j+1) w18 (by omega) (by omega) (kE hw x18)
   have:=inner n 0 w6 rfl (by omega) hw
   rwa [List.drop_zero]at this
 exact F.stowage_apart.vc _ _ _ _ _ _ _ _ _ _ _ _ _ _ _ _ _ _ _ _ _ _ _ fun w1 x1=>outer n 0 w1 rfl (by omega) (k0 x1)
theorem stow_never(hc:CgIn w A0 n0 A1 n1 ps hs)(h:SlR w A 3 (l.map Sw.row))(hl:l.length=n)(hn:n<=40)(hk:∀s∈l,∃i,pix ps s.parcel=some i)(x:Rm):
  Pure Tryz.prog 99 #[.agg #[.slice A0 n0 c0,.slice A1 n1 c1,.slice A2 n2 c2],x.val,.slice A n c] w fun v _=>v= .bool (hasCls ps l x.r.b x.r.a):=by
 refine F.stowage_never.vc _ _ _ _ _ _ _ _ _ _ _ _ _ _ _ _ _ _ _ _ _ _ _ fun w1 x1 p2 hp2 hb2 p3 hp3 hb3=> ?_
 have hw:=k0 x1
 refine Pure.mono (F.slices_ContainsFunc_api_Stow_api_Stow.vc _ _ _ _ _ _ _ (fun v _=>v= .bool (hasCls ps l x.r.b x.r.a)) (Pure.mono (F.slices_IndexFunc_api_Stow_api_Stow.vc _ _ _ _ _ _ _ _ (index_stows (h.keep hw (Nat.le_refl _)) hl (by omega) (by kernel_rfl) (p:=fun s=>decide (s.hold=x.r.b)&&decide (clsP ps s.parcel=x.r.a)) (fun w' hb s hs'=> ?_) (R:=fun v _=>v= .int .i64 (idxG (fun s=>decide (s.hold=x.r.b)&&decide (clsP ps s.parcel=x.r.a)) 0 l)) (fun _=>rfl) n 0 w1 rfl (by omega) (Below.refl _ _) rfl)) ?_)) ?_
 ·obtain⟨i,hi⟩:=hk s hs'
  have g2:=heap_keep hb2 hb
  have g3:=heap_keep hb3 hb
  refine F.stowage_never_c1.vc _ _ _ _ _ _ _ fun w4 x4=>⟨_,box_cell (heap_keep g3 (k0 x4)) rfl,fun h1=>⟨_,_,_,_,_,_,_,_,_,box_all (heap_keep g2 (k0 x4)),_,box_cell (heap_keep g3 (k0 x4)) rfl,fun w7 x7=> ?_⟩,fun h1 w11 _=> ?_⟩
  ·refine Pure.mono (stow_class (hc.keep (kP (kP hw hb) (kE (k0 x4) x7))) hi) ?_
   rintro v w10 _ rfl
   exact⟨_,rfl,by rw[decide_eq_true h1,Bool.true_and]⟩
  ·rw[decide_eq_false h1,Bool.false_and]
 ·rintro v w2 _ rfl
  exact⟨_,rfl,by rw[any_idx];rfl⟩
 ·rintro v w2 _ rfl
  exact⟨_,rfl,rfl⟩
theorem stow_whole(hc:CgIn w A0 n0 A1 n1 ps hs)(h:SlR w A 3 (l.map Sw.row))(hl:l.length=n)(hn:n<=40)(hr:RightS ps hs l){x:Rm}{i:Nat}(hi:pix ps x.r.a=some i):
  Pure Tryz.prog 100 #[.agg #[.slice A0 n0 c0,.slice A1 n1 c1,.slice A2 n2 c2],x.val,.slice A n c] w fun v _=>v= .bool (match (pix ps x.r.a).bind fun i=>ps[i]? with|some p=>decide (unitsF l x.r.a<p.units)|none=>false):=by
 have hnp:=hc.np
 obtain⟨hil,hid⟩:=pix_lt hi
 have hpu:=(hr.c.p1 _ (List.getElem_mem hil)).2.1
 rw[hi,Option.bind_some,List.getElem?_eq_getElem hil]
 refine F.stowage_whole.vc _ _ _ _ _ _ _ _ _ _ _ _ _ _ _ _ _ _ _ _ _ _ _ fun w1 x1 p2 hp2 hb2=> ?_
 have hw:=k0 x1
 refine Pure.mono (IndexPa (p:=fun p=>decide (p.id=x.r.a)) (hc.keep hw).p hc.lp (by omega) (by kernel_rfl) fun w' hb y hy=> ?_) ?_
 ·exact F.stowage_whole_c1.vc _ _ _ _ _ _ _ _ _ _ fun w1 x1=>⟨_,box_cell (heap_keep (heap_keep hb2 hb) (k0 x1)) rfl,rfl⟩
 ·rintro v w5 b5 rfl
  show ∃i3:Int,Value.int .i64 (ixI (pix ps x.r.a))=_/\_
  rw[hi]
  have hb5:=heap_keep hb2 b5
  have hw5:=kP hw b5
  obtain⟨hb,a,hA,_,hcell⟩:=((hc.keep hw5).p).at_ (fun _=>rfl) hc.lp hil
  refine⟨_,rfl,hb,a,hA,_,hcell 1 _ rfl,?_⟩
  have key:∀(d j:Nat)(w':World),n - j=d->j<=n->Below w5.heap.size w5 w'->F.stowage_whole.L4 ⟨p2,0,none⟩ (ps[i].units - unitsF (l.take j) x.r.a) A n c n j w.heap.size w' fun v _=>v= .bool (decide (unitsF l x.r.a<ps[i].units)):=by
   intro d
   induction d with
   |zero=>
    intro j w' hd hj hw'
    rw[List.take_of_length_le (by omega)]
    refine F.stowage_whole.L4.step _ _ _ _ _ _ _ _ _ _ ⟨fun h=>by omega,fun _=> ?_⟩
    refine congrArg Value.bool ?_
    rw[decide_eq_decide]
    omega
   |succ d ih=>
    intro j w' hd hj hw'
    have hjl:j<l.length:=by omega
    have ej:(j:Int)+1=((j+1:Nat):Int):=by omega
    have et:l.take (j+1)=l.take j++[l[j]]:=by rw[List.take_add_one,List.getElem?_eq_getElem hjl];rfl
    have es:=unitsF_snoc (l.take j) l[j] x.r.a
    rw[<-et]at es
    have f1:=unitsF_le hr.pos x.r.a j
    have f2:=unitsF_le hr.pos x.r.a (j+1)
    have f3:=hr.full _ (List.getElem_mem hil)
    rw[hid]at f3
    obtain⟨hb,a,hA,hcell,_⟩:=(h.keep (kP hw5 hw') (Nat.le_refl _)).at_ (fun _=>rfl) hl hjl
    refine F.stowage_whole.L4.step _ _ _ _ _ _ _ _ _ _ ⟨fun _=>⟨hb,a,hA,_,_,_,hcell,fun w12 x12=> ?_⟩,fun h=>by omega⟩
    have hw12:=kP hw' (extAll x12)
    have hpos:=hr.pos _ (List.getElem_mem hjl)
    refine⟨_,box_cell (ext_nil x12 (heap_keep hb5 hw')) rfl,fun h1=> ?_,fun h1=>⟨by simp only[inR];omega,?_⟩⟩
    ·rw[if_pos h1]at es
     refine⟨by simp only[inR];omega,by simp only[inR];omega,?_⟩
     have:=ih (j+1) w12 (by omega) (by omega) hw12
     rw[es]at this
     rw[ej,show ps[i].units - unitsF (l.take j) x.r.a - l[j].units=ps[i].units - (unitsF (l.take j) x.r.a+l[j].units) by omega]
     exact this
    ·rw[if_neg h1,Int.add_zero]at es
     have:=ih (j+1) w12 (by omega) (by omega) hw12
     rw[es]at this
     rw[ej]
     exact this
  have:=key n 0 w5 rfl (by omega) (Below.refl _ _)
  rw[List.take_zero]at this
  simp only[unitsF,List.map_nil,List.sum_nil,Int.sub_zero]at this
  exact this
end

section
variable {w:World} {A0 A1 A2 A:Option Addr} {n0 c0 n1 c1 n2 c2 n c:Nat} {ps:List Pa} {hs:List Ho} {xs:List Rm} {l:List Sw}
theorem stow_right(hg:Glob w)(hp:PrIn w A0 n0 A1 n1 A2 n2 c2 ps hs xs)(h:SlR w A 3 (l.map Sw.row))(hl:l.length=n)(hnc:n<=c)(hn:n<=40):
  Pure Tryz.prog 69 #[.agg #[.slice A0 n0 c0,.slice A1 n1 c1,.slice A2 n2 c2],.slice A n c] w fun v _=>v= .bool (rightF ps hs (rsOf xs) l):=by
 refine F.stowage_right.vc _ _ _ _ _ _ _ _ _ _ _ _ _ _ fun w1 x1=> ?_
 have hw:=k0 x1
 refine Pure.mono (stow_Check (hg.next hw) (hp.keep hw)) ?_
 rintro v w5 b5 rfl
 have hw:=kP hw b5
 unfold rightF
 refine⟨_,_,rfl,fun h1=> ?_,fun h1=> ?_⟩
 ·refine Pure.mono (cargo_Stowed (hg.next hw) (hp.keep hw).c (h.keep hw (Nat.le_refl _)) hl hnc (by omega)) ?_
  rintro v w8 _ rfl
  exact⟨_,rfl,by rw[decide_eq_true h1,Bool.true_and]⟩
 ·rw[decide_eq_false h1,Bool.false_and]
theorem clsP_known(hr:RightS ps hs l):∀s∈l,∃i,pix ps s.parcel=some i:=fun s hs'=>by
 obtain⟨i,k,hi,_⟩:=hr.known s hs'
 exact⟨i,hi⟩
theorem hold_known(hr:RightS ps hs l):∀s∈l,∃h∈hs,h.id=s.hold:=fun s hs'=>by
 obtain⟨i,k,_,hk⟩:=hr.known s hs'
 obtain⟨hl,e⟩:=hix_lt hk
 exact⟨_,List.getElem_mem hl,e⟩
theorem stow_broken(hg:Glob w)(hp:PrIn w A0 n0 A1 n1 A2 n2 c2 ps hs xs)(h:SlR w A 3 (l.map Sw.row))(hl:l.length=n)(hnc:n<=c)(hn:n<=40)(hck:(checkR ps hs (rsOf xs)).2=0)(hst:stowedF ps hs l=0):
  Pure Tryz.prog 70 #[.agg #[.slice A0 n0 c0,.slice A1 n1 c1,.slice A2 n2 c2],.slice A n c] w fun v _=>∃A' m c',v= .slice A' m c'/\m=(rsOf xs).countP (brokenR ps hs l):=by
 have hr:=stowed_right hst
 have hxl:=hp.l
 have hxn:=hp.n
 have hrr:=(checkR_zero hck).2.2
 refine F.stowage_broken.vc _ _ _ _ _ _ _ _ _ _ _ _ _ _ fun w1 x1=> ?_
 have key:∀(d i:Nat)(A':Option Addr)(m c':Nat)(w':World)(o:List Int),n2 - i=d->i<=n2->Below w.heap.size w w'->OwnR w' w.heap.size 3 A' m c' 1 (o.map iRow)->m=(rsOf (xs.take i)).countP (brokenR ps hs l)->
   F.stowage_broken.L4 A n c A' m c' A2 n2 c2 n2 i A0 n0 c0 A1 n1 c1 A2 n2 c2 w.heap.size w' fun v _=>∃A' m c',v= .slice A' m c'/\m=(rsOf xs).countP (brokenR ps hs l):=by
  intro d
  induction d with
  |zero=>
   intro i A' m c' w' o hd hi hw ho hm
   rw[List.take_of_length_le (by omega)]at hm
   exact F.stowage_broken.L4.step _ _ _ _ _ _ _ _ _ _ _ _ _ _ _ _ _ _ _ _ _ _ _ ⟨fun h=>by omega,fun _=>⟨A',m,c',rfl,hm⟩⟩
  |succ d ih=>
   intro i A' m c' w' o hd hi hw ho hm
   have hil:i<xs.length:=by omega
   have e3:(i:Int)+1=((i+1:Nat):Int):=by omega
   have hmem:=List.getElem_mem hil
   have hrx:=hrr xs[i].r (List.mem_map_of_mem hmem)
   have hxi:=hp.f _ hmem
   have hm17:m<=i:=by
    rw[hm]
    refine Nat.le_trans List.countP_le_length ?_
    unfold rsOf
    rw[List.length_map,List.length_take]
    omega
   have hcnt:(rsOf (xs.take (i+1))).countP (brokenR ps hs l)=m+if brokenR ps hs l xs[i].r then 1 else 0:=by
    rw[<-rs_take hil,List.countP_append,<-hm,List.countP_singleton]
   obtain⟨hb,a,hA,hcell,_⟩:=(hp.keep hw).at_ hil
   have hkd:=hrx.kind
   refine F.stowage_broken.L4.step _ _ _ _ _ _ _ _ _ _ _ _ _ _ _ _ _ _ _ _ _ _ _ ⟨fun _=>⟨hb,a,hA,_,_,_,_,_,_,_,_,_,hcell,by omega,⟨⟨⟨⟨trivial,fun k=>by omega⟩,fun k w10 x10=> ?_⟩,fun k w10 x10=> ?_⟩,fun k w10 x10=> ?_⟩,fun k w10 x10=> ?_⟩,fun h=>by omega⟩
   all_goals
    have hw:=kE hw x10
    have ho:=ho.extNil x10
    have hp':=hp.keep hw
    have h':=h.keep hw (Nat.le_refl _)
   refine Pure.mono (stow_broken1 (hg.next hw) hp' h' hl hnc hn hst (hxi.keep hw) hrx k) ?_
   rotate_left
   refine Pure.mono (Pure.mono (stow_apart hp'.c h' hl hn (clsP_known hr) xs[i]) (R':=fun v _=>v= .bool (brokenR ps hs l xs[i].r)) ?_) ?_
   ·rintro v w2 _ rfl
    refine congrArg Value.bool ?_
    unfold brokenR
    rw[if_neg (by omega),if_pos k,<-apart_pairs (hold_known hr)]
   rotate_left
   refine Pure.mono (Pure.mono (stow_never hp'.c h' hl hn (clsP_known hr) xs[i]) (R':=fun v _=>v= .bool (brokenR ps hs l xs[i].r)) ?_) ?_
   ·rintro v w2 _ rfl
    refine congrArg Value.bool ?_
    unfold brokenR
    rw[if_neg (by omega),if_neg (by omega),if_pos k]
   rotate_left
   obtain⟨ip,hip⟩:=hrx.four k
   refine Pure.mono (Pure.mono (stow_whole hp'.c h' hl hn hr hip) (R':=fun v _=>v= .bool (brokenR ps hs l xs[i].r)) ?_) ?_
   ·rintro v w2 _ rfl
    refine congrArg Value.bool ?_
    unfold brokenR
    rw[if_neg (by omega),if_neg (by omega),if_neg (by omega)]
    cases (pix ps xs[i].r.a).bind fun i=>ps[i]? <;>rfl
   rotate_left
   all_goals
    rintro v w13 b13 rfl
    have hw13:=kP hw b13
    refine⟨_,rfl,fun hb1=> ?_,fun hb1=>⟨by simp only[inR];omega,?_⟩⟩
    ·refine app_row el_Ints (Nat.le_refl _) (ho.below b13) (x:= .int .i64 (i:Int)) rfl (by simp[Value.cells,isCell]) hw13.size (by omega) (by decide) fun A3 c3 w3 o3 _ b3=>⟨by simp only[inR];omega,?_⟩
     rw[e3]
     refine ih (i+1) A3 (m+1) c3 w3 (o++[(i:Int)]) (by omega) (by omega) (hw13.trans b3) (by rw[List.map_append];exact o3) ?_
     rw[hcnt,if_pos hb1]
    ·rw[e3]
     refine ih (i+1) A' m c' w13 o (by omega) (by omega) hw13 (ho.below b13) ?_
     rw[hcnt,if_neg (by simp[hb1])]
     rfl
 have:=key n2 0 none 0 0 w1 [] rfl (by omega) (k0 x1) OwnR.nil rfl
 exact this
theorem stow_Keeps(hg:Glob w)(hp:PrIn w A0 n0 A1 n1 A2 n2 c2 ps hs xs)(h:SlR w A 3 (l.map Sw.row))(hl:l.length=n)(hnc:n<=c)(hn:n<=40):
  Pure Tryz.prog 35 #[.agg #[.slice A0 n0 c0,.slice A1 n1 c1,.slice A2 n2 c2],.slice A n c] w fun v _=>v= .bool (keepsF ps hs (rsOf xs) l):=by
 refine F.stowage_Keeps.vc _ _ _ _ _ _ _ _ _ _ _ _ _ _ fun w1 x1=> ?_
 have hw:=k0 x1
 refine Pure.mono (stow_right (hg.next hw) (hp.keep hw) (h.keep hw (Nat.le_refl _)) hl hnc hn) ?_
 rintro v w4 b4 rfl
 have hw:=kP hw b4
 unfold keepsF
 refine⟨_,rfl,fun h1=>by rw[h1];rfl,fun h1=> ?_⟩
 have h1:=Bool.not_eq_false _|>.mp h1
 rw[h1,Bool.true_and]
 unfold rightF at h1
 simp only[Bool.and_eq_true,decide_eq_true_eq]at h1
 refine Pure.mono (stow_broken (hg.next hw) (hp.keep hw) (h.keep hw (Nat.le_refl _)) hl hnc hn h1.1 h1.2) ?_
 rintro v w7 b7 ⟨A',m,c',rfl,hm⟩
 have hw:=kP hw b7
 have hany:(rsOf xs).any (brokenR ps hs l)=decide (0<m):=by
  rw[hm,Bool.eq_iff_iff,decide_eq_true_eq,List.countP_pos_iff,List.any_eq_true]
 rw[hany]
 refine⟨_,_,_,rfl,fun h2=> ?_,fun h2=> ?_⟩
 ·rw[decide_eq_true (show 0<m by omega)]
  rfl
 ·rw[decide_eq_false (show ¬0<m by omega),Bool.not_false,Bool.true_and]
  refine Pure.mono (cargo_Overloaded (hg.next hw) (hp.keep hw).c (h.keep hw (Nat.le_refl _)) hl hnc hn) ?_
  rintro v w11 _ rfl
  unfold overV
  rw[if_neg (fun k=>k h1.2)]
  refine⟨_,_,rfl,?_⟩
  refine congrArg Value.bool ?_
  rw[decide_eq_decide]
  exact ixI_neg
end

theorem sh_ok{n:Nat}(h:n<=64):shOk .i64 (n:Int):=⟨by omega,by simp only[IntKind.bits];omega⟩
theorem shl_one:∀n:Nat,n<8->shlI .i64 1 (n:Int)=((2^n:Nat):Int):=by decide+kernel
theorem shr_and:∀s:Nat,s<128->∀n:Nat,n<8->bits .and .i64 (shrI (s:Int) (n:Int)) 1=if s.testBit n then 1 else 0:=by decide+kernel
theorem or_pow:∀s:Nat,s<128->∀n:Nat,n<8->bits .or .i64 (s:Int) ((2^n:Nat):Int)=((addB s n:Nat):Int):=by decide+kernel
theorem andNot_pow:∀s:Nat,s<128->∀n:Nat,n<8->s.testBit n=true->bits .andNot .i64 (s:Int) ((2^n:Nat):Int)=((s^^^2^n:Nat):Int):=by decide+kernel
theorem bit_eq{s n:Nat}(hs:s<128)(hn:n<8):bits .and .i64 (shrI (s:Int) (n:Int)) 1=1↔s.testBit n=true:=by
 rw[shr_and s hs n hn]
 cases s.testBit n<;>simp
theorem pow64:∀n:Nat,n<=6->2^n<=64:=by decide
end Go.Proofs.YtgfkeadgjkfomaaGreatDoor.B

set_option maxRecDepth 100000
set_option maxHeartbeats 4000000
namespace Go.Proofs.YtgfkeadgjkfomaaGreatDoor.F
open Go Go.RowKit Go.Proofs Go.Proofs.YtgfkeadgjkfomaaGreatDoor.Vc
def sequence_Between.L7(a:Option Addr)(b c:Nat)(d:Option Addr)(e f:Nat)(g:Option Addr)(i j:Nat)(l:Option Addr)(m n:Nat)(o p:Int)(q:Option Addr)(r s:Nat)(t:Option Addr)(u v B:Nat)(w:World)(R:Value->World->Prop):Prop:=At Tryz.prog 12 95 (loopAt Tryz.f12 7) [(3,.loc 3 0),(8,.v (.slice a b c)),(10,.v (.slice d e f)),(12,.v (.slice g i j)),(38,.v (.slice l m n)),(39,.v (.int .i64 o)),(40,.v (.int .i64 p))] [⟨3,false,25,[(.slice q r s),(.slice t u v)]⟩] B w R
def sequence_Between.L10(a:Option Addr)(b c:Nat)(d:Option Addr)(e f:Nat)(g:Option Addr)(i j:Nat)(l:Int)(m:Option Addr)(n o:Nat)(p q:Int)(r:Option Addr)(s t:Nat)(u v:Int)(x:Option Addr)(y z:Nat)(A:Option Addr)(C D:Nat)(E:Int)(G H I J K L:ByteArray)(B:Nat)(w:World)(R:Value->World->Prop):Prop:=At Tryz.prog 12 95 (loopAt Tryz.f12 10) [(3,.loc 3 0),(8,.v (.slice a b c)),(10,.v (.slice d e f)),(12,.v (.slice g i j)),(13,.v (.int .i64 l)),(14,.loc 14 0),(38,.v (.slice m n o)),(39,.v (.int .i64 p)),(40,.v (.int .i64 q)),(46,.v (.slice r s t)),(47,.v (.int .i64 u)),(48,.v (.int .i64 v))] [⟨3,false,25,[(.slice x y z),(.slice A C D)]⟩,⟨14,false,61,[(.int .i64 E),(.string G),(.string H),(.string I),(.string J),(.string K),(.string L)]⟩] B w R
noncomputable def sequence_Between.cx(w:World)(B:Nat)(R:Value->World->Prop):Cx:=⟨Tryz.prog,12,95,Tryz.f12.results.toList,[((true,7),[3,8,10,12,38,39,40],[3]),((true,10),[3,8,10,12,13,14,38,39,40,46,47,48],[3,14])],[(13,9999,3),(14,15,2),(14,16,2),(14,9999,3),(20,1,5),(20,2,6)],w,B,R⟩
theorem sequence_Between.L7.step(o:Option Addr)(p q:Nat)(r:Option Addr)(s t:Nat)(d:Option Addr)(b e:Nat)(i:Option Addr)(j u:Nat)(f a:Int)(l:Option Addr)(g m:Nat)(v:Option Addr)(x y B:Nat)(w:World)(R:Value->World->Prop)
  (h:(((a<f)->((0<=a/\a<j)/\∃z,i=some z/\(∃A C D E G H I,CellsAt w (z.add ((a).toNat*7)) [.int .i64 A,.string C,.string D,.string E,.string G,.string H,.string I]/\(∀J,Ext B [] w J->(sequence_Between.L10 o p q r s t d b e a i j u f a l g m (g:Int) (0:Int) l g m v x y A C D E G H I B J R)))))/\(¬(a<f)->((((b:Int)>6)->(R (.tuple #[.slice none 0 0,.int .i64 8]) w))/\(¬((b:Int)>6)->(∀c,Ext B [] w c->(∀n:Nat,B<=n->c.heap[n]? =some (.cells [(.func (.func 42) #[] #[])].toArray 75 (0,0))->(PureB P 43 #[.slice d b e,(.func (.func 44) #[] #[(.pointer (some (⟨n,0,none⟩:Addr)))])] B c fun L K=>(∀(k ty:Nat)(cs:Array Value),ty∈([25]:List Nat)->c.heap[k]? =some (.cells cs ty (0,0))->K.heap[k]? =c.heap[k]?)/\L= .tuple #[]/\(R (.tuple #[.slice d b e,.int .i64 0]) K))))))))):
  sequence_Between.L7 o p q r s t d b e i j u f a l g m v x y B w R:=
 loop_of_run (sequence_Between.cx w B R) 100000 (loopAt Tryz.f12 7) _ _ follows Tryz.func12 rfl rfl rfl (Eq.mp (by kernel_rfl) h)
theorem sequence_Between.L10.step(d:Option Addr)(e m:Nat)(f:Option Addr)(g n:Nat)(o:Option Addr)(p q:Nat)(c:Int)(r:Option Addr)(s t:Nat)(u i:Int)(v:Option Addr)(x H:Nat)(j a:Int)(y:Option Addr)(z A:Nat)(C:Option Addr)(b D:Nat)(E:Int)(I J K L M N:ByteArray)(B:Nat)(w:World)(R:Value->World->Prop)
  (h:(((a<j)->((0<=a/\a<x)/\∃U,v=some U/\(∃V a9 b0 b1 b2 b3 b4,CellsAt w (U.add ((a).toNat*7)) [.int .i64 V,.int .i64 a9,.int .i64 b0,.string b1,.string b2,.string b3,.string b4]/\(inR .i64 (a*(b:Int))/\(inR .i64 ((a*(b:Int))+c)/\(∀l,Ext B [] w l->((0<=((a*(b:Int))+c)/\((a*(b:Int))+c)<e)/\∃X,d=some X/\(∃O,CellsAt l (X.add ((((a*(b:Int))+c)).toNat*1)) [.int .i64 O]/\((0<=((a*(b:Int))+c)/\((a*(b:Int))+c)<g)/\∃Y,f=some Y/\(∃Q,CellsAt l (Y.add ((((a*(b:Int))+c)).toNat*1)) [.int .i64 Q]/\(((O≠Q)->(∀G,Ext B [] l G->((0<=((a*(b:Int))+c)/\((a*(b:Int))+c)<g)/\∃Z,f=some Z/\(∃S,CellsAt G (Z.add ((((a*(b:Int))+c)).toNat*1)) [.int .i64 S]/\((0<=((a*(b:Int))+c)/\((a*(b:Int))+c)<e)/\∃a0,d=some a0/\(∃T,CellsAt G (a0.add ((((a*(b:Int))+c)).toNat*1)) [.int .i64 T]/\(inR .i64 (S - T)/\(∀a1,Ext B [] G a1->(RunOk P (Instr.buildSlice 30 1 #[(0,(.agg #[.int .i64 E,.int .i64 V,(.int .i64 (S - T))]))]) B [65,25,61] a1 fun b5 b6=>∃a2 a3 a4,b5= .slice a2 a3 a4/\(RunOk P (Builtin.append_ #[30,30] 30 #[.slice o p q,.slice a2 a3 a4]) B [65,25,61] b6 fun b7 b8=>∃a5 a6 a7,b7= .slice a5 a6 a7/\(inR .i64 (a+1)/\(sequence_Between.L10 d e m f g n a5 a6 a7 c r s t u i v x H j (a+1) y z A C b D E I J K L M N B b8 R))))))))))))/\(¬(O≠Q)->(inR .i64 (a+1)/\(∀a8,Ext B [] l a8->(sequence_Between.L10 d e m f g n o p q c r s t u i v x H j (a+1) y z A C b D E I J K L M N B a8 R)))))))))))))))/\(¬(a<j)->(inR .i64 (i+1)/\(sequence_Between.L7 d e m f g n o p q r s t u (i+1) y z A C b D B w R))))):
  sequence_Between.L10 d e m f g n o p q c r s t u i v x H j a y z A C b D E I J K L M N B w R:=
 loop_of_run (sequence_Between.cx w B R) 100000 (loopAt Tryz.f12 10) _ _ follows Tryz.func12 rfl rfl rfl (Eq.mp (by kernel_rfl) h)
theorem sequence_Between.vc(d:Option Addr)(e f:Nat)(b:Option Addr)(a c:Nat)(l:Option Addr)(m n:Nat)(o:Option Addr)(p q:Nat)(w:World)(R:Value->World->Prop)
  (h:(∀r,Ext w.heap.size [] w r->(Pure P 41 #[.agg #[.slice d e f,.slice b a c],.slice l m n] r fun z A=>∃s t u g,z= .tuple #[.slice s t u,.int .i64 g]/\(Pure P 41 #[.agg #[.slice d e f,.slice b a c],.slice o p q] A fun C i=>∃v x y j,C= .tuple #[.slice v x y,.int .i64 j]/\(((g≠0)->(R (.tuple #[.slice none 0 0,.int .i64 1]) i))/\(¬(g≠0)->(((j≠0)->(R (.tuple #[.slice none 0 0,.int .i64 1]) i))/\(¬(j≠0)->(sequence_Between.L7 s t u v x y none 0 0 b a c (a:Int) (0:Int) d e f b a c w.heap.size i R))))))))):
  Pure P 12 #[.agg #[.slice d e f,.slice b a c],.slice l m n,.slice o p q] w R:=
 pure_of_run (sequence_Between.cx w w.heap.size R) 100000 follows Tryz.func12 rfl rfl rfl rfl rfl rfl rfl (Eq.mp (by kernel_rfl) h)

noncomputable def sequence_State.cx(w:World)(B:Nat)(R:Value->World->Prop):Cx:=⟨Tryz.prog,16,41,Tryz.f16.results.toList,[],[],w,B,R⟩
theorem sequence_State.vc(f:Option Addr)(g i:Nat)(j:Option Addr)(l m:Nat)(n:Option Addr)(o p:Nat)(q:Option Addr)(r s:Nat)(t:Option Addr)(u v:Nat)(a:Int)(w:World)(R:Value->World->Prop)
  (h:(∀x,Ext w.heap.size [] w x->(Pure P 47 #[.agg #[.slice f g i,.slice j l m,.slice n o p],.slice q r s,.slice t u v] x fun E c=>∃o2 b,E= .tuple #[.pointer o2,.int .i64 b]/\(((b≠0)->(R (.tuple #[.slice none 0 0,.int .i64 b]) c))/\(¬(b≠0)->(((a<0)->(R (.tuple #[.slice none 0 0,.int .i64 2]) c))/\(¬(a<0)->(Pure P 48 #[.pointer o2] c fun G y=>∃d,G= .int .i64 d/\(((a>d)->(R (.tuple #[.slice none 0 0,.int .i64 2]) y))/\(¬(a>d)->(Pure P 49 #[.pointer o2,.int .i64 a] y fun H z=>∃A C D e,H= .tuple #[.slice A C D,.bool e]/\(((e=false)->(R (.tuple #[.slice none 0 0,.int .i64 15]) z))/\(¬(e=false)->(R (.tuple #[.slice A C D,.int .i64 0]) z)))))))))))))):
  Pure P 16 #[.agg #[.slice f g i,.slice j l m,.slice n o p],.slice q r s,.slice t u v,.int .i64 a] w R:=
 pure_of_run (sequence_State.cx w w.heap.size R) 100000 follows Tryz.func16 rfl rfl rfl rfl rfl rfl rfl (Eq.mp (by kernel_rfl) h)

noncomputable def sequence_Order.cx(w:World)(B:Nat)(R:Value->World->Prop):Cx:=⟨Tryz.prog,22,29,Tryz.f22.results.toList,[],[(4,0,2),(5,0,2),(6,0,2),(7,0,5),(8,1,10)],w,B,R⟩
theorem sequence_Order.vc(f:Option Addr)(g i:Nat)(j:Option Addr)(l m:Nat)(n:Option Addr)(o p:Nat)(D:Option Addr)(E G:Nat)(q:Option Addr)(r s:Nat)(w:World)(R:Value->World->Prop)
  (h:(∀H,Ext w.heap.size [] w H->(Pure P 47 #[.agg #[.slice f g i,.slice j l m,.slice n o p],.slice D E G,.slice q r s] H fun U I=>∃o2 d,U= .tuple #[.pointer o2,.int .i64 d]/\(((d≠0)->(∀J,Ext w.heap.size [] I J->(R (.tuple #[.slice none 0 0,.int .i64 d]) J)))/\(¬(d≠0)->(∀K,Ext w.heap.size [] I K->(RunOk P (Instr.makeMap 90 none) w.heap.size [79,30,28] K fun V X=>∃(L:Option Nat),V= .map L/\(∀M,Ext w.heap.size [] X M->(RunOk P (Instr.alloc 48 true (.tuple #[])) w.heap.size [90,79,30,28] M fun Y Z=>∃(t:Addr),Y= .pointer (some t)/\(RunOk P (Instr.alloc 91 true (.tuple #[])) w.heap.size [90,79,30,28] Z fun a0 b=>∃(a:Addr),a0= .pointer (some a)/\(∀u:Nat,w.heap.size<=u->b.heap[u]? =some (.cells [.slice q r s].toArray 30 (0,0))->(∀v:Nat,w.heap.size<=v->b.heap[v]? =some (.cells [(.map L)].toArray 90 (0,0))->(∀x:Nat,w.heap.size<=x->b.heap[x]? =some (.cells [.pointer o2].toArray 79 (0,0))->(∃(y:List Value)(z:Nat),w.heap.size<=a.block/\a.spot=none/\b.heap[a.block]? =some (.cells y.toArray z (0,0))/\a.off+1<=y.length/\hasType z [⟨3,false,28,[.slice f g i,.slice j l m,.slice n o p]⟩]=false/\∀c,Wrote b c a.block z (setCells y a.off [(.func (.func 52) #[] #[(.pointer (some (⟨x,0,none⟩:Addr))),(.pointer (some (⟨v,0,none⟩:Addr))),(.pointer (some (⟨u,0,none⟩:Addr))),(.pointer (some t)),(.pointer (some a))])])->(∃(A:Nat)(N O:Array Value),CellsAt c a [(.func (.func A) N O)]/\(callable P A=true/\(PureB P A ((Array.toList N)++([.int .i64 0]:List Value)++(Array.toList O)).toArray w.heap.size c fun a1 e=>(∀(k ty:Nat)(cs:Array Value),ty∈([28]:List Nat)->c.heap[k]? =some (.cells cs ty (0,0))->e.heap[k]? =c.heap[k]?)/\∃C,a1= .bool C/\(((C=false)->(R (.tuple #[.slice none 0 0,.int .i64 19]) e))/\(¬(C=false)->(∃Q S T,CellsAt e t [.slice Q S T]/\(R (.tuple #[.slice Q S T,.int .i64 0]) e))))))))))))))))))))):
  Pure P 22 #[.agg #[.slice f g i,.slice j l m,.slice n o p],.slice D E G,.slice q r s] w R:=
 pure_of_run (sequence_Order.cx w w.heap.size R) 100000 follows Tryz.func22 rfl rfl rfl rfl rfl rfl rfl (Eq.mp (by kernel_rfl) h)

def sequence_Reached.L7(a:Option Addr)(b c:Nat)(ol8:Option Addr)(d:Option Nat)(e:Option Addr)(f g:Nat)(i:Int)(B:Nat)(w:World)(R:Value->World->Prop):Prop:=At Tryz.prog 24 64 (loopAt Tryz.f24 7) [(2,.v (.slice a b c)),(8,.v (.pointer ol8)),(10,.v (.map d)),(11,.v (.slice e f g)),(12,.v (.int .i64 i))] [] B w R
def sequence_Reached.L10(a:Option Addr)(b c:Nat)(ol8:Option Addr)(d:Option Nat)(e:Option Addr)(f g:Nat)(i j l:Int)(B:Nat)(w:World)(R:Value->World->Prop):Prop:=At Tryz.prog 24 64 (loopAt Tryz.f24 10) [(2,.v (.slice a b c)),(8,.v (.pointer ol8)),(10,.v (.map d)),(11,.v (.slice e f g)),(12,.v (.int .i64 i)),(34,.v (.int .i64 j)),(35,.v (.int .i64 l))] [] B w R
noncomputable def sequence_Reached.cx(w:World)(B:Nat)(R:Value->World->Prop):Cx:=⟨Tryz.prog,24,64,Tryz.f24.results.toList,[((true,7),[2,8,10,11,12],[]),((true,10),[2,8,10,11,12,34,35],[])],[(4,0,2),(4,1,2),(5,0,2),(12,11,2),(12,16,6),(13,2,2),(14,2,2),(14,3,2)],w,B,R⟩
theorem sequence_Reached.L7.step(g:Option Addr)(b i:Nat)(ol8:Option Addr)(j:Option Nat)(c:Option Addr)(d e:Nat)(a:Int)(B:Nat)(w:World)(R:Value->World->Prop)
  (h:(Pure P 48 #[.pointer ol8] w fun m l=>∃f,m= .int .i64 f/\(((a<=f)->(sequence_Reached.L10 g b i ol8 j c d e a (b:Int) (0:Int) B l R))/\(¬(a<=f)->(R (.tuple #[.slice c d e,.int .i64 0]) l))))):
  sequence_Reached.L7 g b i ol8 j c d e a B w R:=
 loop_of_run (sequence_Reached.cx w B R) 100000 (loopAt Tryz.f24 7) _ _ follows Tryz.func24 rfl rfl rfl (Eq.mp (by kernel_rfl) h)
theorem sequence_Reached.L10.step(d:Option Addr)(e f:Nat)(ol8:Option Addr)(c:Option Nat)(g:Option Addr)(i j:Nat)(a l b:Int)(B:Nat)(w:World)(R:Value->World->Prop)
  (h:(((b<l)->(shOk .i64 b/\(((((bits .and .i64 (shrI a b) (1:Int)):Int)=1)->(shOk .i64 b/\(RunOk P (Instr.lookup 90 (.map c) (.int .i64 (bits .andNot .i64 a (shlI .i64 1 b))) false) B [] w fun x m=>∃n,x= .bool n/\((n=true->(PureB P 53 #[.pointer ol8,.int .i64 a] B m fun y o=>(∀(k ty:Nat)(cs:Array Value),ty∈([]:List Nat)->m.heap[k]? =some (.cells cs ty (0,0))->o.heap[k]? =m.heap[k]?)/\∃p,y= .bool p/\((p=true->(RunOkU Tryz.prog (Instr.mapUpdate 90 (.map c) (.int .i64 a) (.bool true)) B [] o fun z=>(RunOk P (Instr.buildSlice 48 1 #[(0,(.int .i64 a))]) B [] z fun A C=>∃q r s,A= .slice q r s/\(RunOk P (Builtin.append_ #[48,48] 48 #[.slice g i j,.slice q r s]) B [] C fun D E=>∃t u v,D= .slice t u v/\(inR .i64 (a+1)/\(sequence_Reached.L7 d e f ol8 c t u v (a+1) B E R))))))/\(p=false->(inR .i64 (b+1)/\(sequence_Reached.L10 d e f ol8 c g i j a l (b+1) B o R))))))/\(n=false->(inR .i64 (b+1)/\(sequence_Reached.L10 d e f ol8 c g i j a l (b+1) B m R)))))))/\(¬(((bits .and .i64 (shrI a b) (1:Int)):Int)=1)->(inR .i64 (b+1)/\(sequence_Reached.L10 d e f ol8 c g i j a l (b+1) B w R))))))/\(¬(b<l)->(inR .i64 (a+1)/\(sequence_Reached.L7 d e f ol8 c g i j (a+1) B w R))))):
  sequence_Reached.L10 d e f ol8 c g i j a l b B w R:=
 loop_of_run (sequence_Reached.cx w B R) 100000 (loopAt Tryz.f24 10) _ _ follows Tryz.func24 rfl rfl rfl (Eq.mp (by kernel_rfl) h)
theorem sequence_Reached.vc(f:Option Addr)(g i:Nat)(j:Option Addr)(l m:Nat)(n:Option Addr)(o p:Nat)(q:Option Addr)(r s:Nat)(b:Option Addr)(c d:Nat)(w:World)(R:Value->World->Prop)
  (h:(∀t,Ext w.heap.size [] w t->(Pure P 47 #[.agg #[.slice f g i,.slice j l m,.slice n o p],.slice q r s,.slice b c d] t fun z u=>∃o2 a,z= .tuple #[.pointer o2,.int .i64 a]/\(((a≠0)->(R (.tuple #[.slice none 0 0,.int .i64 a]) u))/\(¬(a≠0)->(RunOk P (Instr.makeMap 90 none) w.heap.size [28] u fun A C=>∃(e:Option Nat),A= .map e/\(RunOkU Tryz.prog (Instr.mapUpdate 90 (.map e) (.int .i64 0) (.bool true)) w.heap.size [28] C fun D=>(RunOk P (Instr.buildSlice 48 1 #[(0,(.int .i64 0))]) w.heap.size [28] D fun E G=>∃v x y,E= .slice v x y/\(sequence_Reached.L7 b c d o2 e v x y (1:Int) w.heap.size G R))))))))):
  Pure P 24 #[.agg #[.slice f g i,.slice j l m,.slice n o p],.slice q r s,.slice b c d] w R:=
 pure_of_run (sequence_Reached.cx w w.heap.size R) 100000 follows Tryz.func24 rfl rfl rfl rfl rfl rfl rfl (Eq.mp (by kernel_rfl) h)

def sequence_Check.L7(a:Option Addr)(b c:Nat)(ol10:Option Addr)(d e:Int)(B:Nat)(w:World)(R:Value->World->Prop):Prop:=At Tryz.prog 27 58 (loopAt Tryz.f27 7) [(3,.v (.slice a b c)),(10,.v (.pointer ol10)),(32,.v (.int .i64 d)),(33,.v (.int .i64 e))] [] B w R
def sequence_Check.L14(ol10:Option Addr)(a:Int)(b:Option Addr)(c d:Nat)(e f:Int)(B:Nat)(w:World)(R:Value->World->Prop):Prop:=At Tryz.prog 27 58 (loopAt Tryz.f27 14) [(10,.v (.pointer ol10)),(13,.v (.int .i64 a)),(41,.v (.slice b c d)),(42,.v (.int .i64 e)),(43,.v (.int .i64 f))] [] B w R
noncomputable def sequence_Check.cx(w:World)(B:Nat)(R:Value->World->Prop):Cx:=⟨Tryz.prog,27,58,Tryz.f27.results.toList,[((true,7),[3,10,32,33],[]),((true,14),[10,13,41,42,43],[])],[(17,2,6)],w,B,R⟩
theorem sequence_Check.L7.step(c:Option Addr)(b d:Nat)(ol10:Option Addr)(e a:Int)(B:Nat)(w:World)(R:Value->World->Prop)
  (h:(((a<e)->(Pure P 57 #[.slice c b d,.int .i64 a] w fun i g=>∃f,i= .bool f/\(((f=false)->(R (.tuple #[(.int .i64 (-1:Int)),.int .i64 10]) g))/\(¬(f=false)->(inR .i64 (a+1)/\(sequence_Check.L7 c b d ol10 e (a+1) B g R))))))/\(¬(a<e)->(sequence_Check.L14 ol10 (0:Int) c b d (b:Int) (0:Int) B w R)))):
  sequence_Check.L7 c b d ol10 e a B w R:=
 loop_of_run (sequence_Check.cx w B R) 100000 (loopAt Tryz.f27 7) _ _ follows Tryz.func27 rfl rfl rfl (Eq.mp (by kernel_rfl) h)
theorem sequence_Check.L14.step(ol10:Option Addr)(d:Int)(e:Option Addr)(f j:Nat)(b a:Int)(B:Nat)(w:World)(R:Value->World->Prop)
  (h:(((a<b)->((0<=a/\a<f)/\∃l,e=some l/\(∃c,CellsAt w (l.add ((a).toNat*1)) [.int .i64 c]/\(shOk .i64 c/\(PureB P 53 #[.pointer ol10,(.int .i64 (bits .or .i64 d (shlI .i64 1 c)))] B w fun m g=>(∀(k ty:Nat)(cs:Array Value),ty∈([]:List Nat)->w.heap[k]? =some (.cells cs ty (0,0))->g.heap[k]? =w.heap[k]?)/\∃i,m= .bool i/\(((i=false)->(R (.tuple #[.int .i64 a,.int .i64 15]) g))/\(¬(i=false)->(inR .i64 (a+1)/\(sequence_Check.L14 ol10 (bits .or .i64 d (shlI .i64 1 c)) e f j b (a+1) B g R)))))))))/\(¬(a<b)->(R (.tuple #[(.int .i64 (-1:Int)),.int .i64 0]) w)))):
  sequence_Check.L14 ol10 d e f j b a B w R:=
 loop_of_run (sequence_Check.cx w B R) 100000 (loopAt Tryz.f27 14) _ _ follows Tryz.func27 rfl rfl rfl (Eq.mp (by kernel_rfl) h)
theorem sequence_Check.vc(e:Option Addr)(f g:Nat)(i:Option Addr)(j l:Nat)(m:Option Addr)(n o:Nat)(p:Option Addr)(q r:Nat)(s:Option Addr)(a t:Nat)(u:Option Addr)(b v:Nat)(w:World)(R:Value->World->Prop)
  (h:(∀x,Ext w.heap.size [] w x->(Pure P 47 #[.agg #[.slice e f g,.slice i j l,.slice m n o],.slice p q r,.slice s a t] x fun y d=>∃o2 c,y= .tuple #[.pointer o2,.int .i64 c]/\(((c≠0)->(R (.tuple #[(.int .i64 (-1:Int)),.int .i64 c]) d))/\(¬(c≠0)->((((b:Int)≠(a:Int))->(R (.tuple #[(.int .i64 (-1:Int)),.int .i64 10]) d))/\(¬((b:Int)≠(a:Int))->(sequence_Check.L7 u b v o2 (a:Int) (0:Int) w.heap.size d R)))))))):
  Pure P 27 #[.agg #[.slice e f g,.slice i j l,.slice m n o],.slice p q r,.slice s a t,.slice u b v] w R:=
 pure_of_run (sequence_Check.cx w w.heap.size R) 100000 follows Tryz.func27 rfl rfl rfl rfl rfl rfl rfl (Eq.mp (by kernel_rfl) h)

def sequence_Closed.L6(a:Option Addr)(b c:Nat)(d:Option Addr)(e f:Nat)(ol9:Option Addr)(g:Option Nat)(i:Option Addr)(j l:Nat)(m n:Int)(B:Nat)(w:World)(R:Value->World->Prop):Prop:=At Tryz.prog 30 89 (loopAt Tryz.f30 6) [(2,.v (.slice a b c)),(3,.v (.slice d e f)),(9,.v (.pointer ol9)),(11,.v (.map g)),(29,.v (.slice i j l)),(30,.v (.int .i64 m)),(31,.v (.int .i64 n))] [] B w R
def sequence_Closed.L15(a:Option Addr)(b c:Nat)(ol9:Option Addr)(d:Option Nat)(e:Option Addr)(f g:Nat)(i j:Int)(B:Nat)(w:World)(R:Value->World->Prop):Prop:=At Tryz.prog 30 89 (loopAt Tryz.f30 15) [(2,.v (.slice a b c)),(9,.v (.pointer ol9)),(11,.v (.map d)),(63,.v (.slice e f g)),(64,.v (.int .i64 i)),(65,.v (.int .i64 j))] [] B w R
def sequence_Closed.L18(a:Option Addr)(b c:Nat)(ol9:Option Addr)(d:Option Nat)(e:Int)(f:Option Addr)(g i:Nat)(j l m n:Int)(B:Nat)(w:World)(R:Value->World->Prop):Prop:=At Tryz.prog 30 89 (loopAt Tryz.f30 18) [(2,.v (.slice a b c)),(9,.v (.pointer ol9)),(11,.v (.map d)),(15,.v (.int .i64 e)),(63,.v (.slice f g i)),(64,.v (.int .i64 j)),(65,.v (.int .i64 l)),(70,.v (.int .i64 m)),(71,.v (.int .i64 n))] [] B w R
noncomputable def sequence_Closed.cx(w:World)(B:Nat)(R:Value->World->Prop):Cx:=⟨Tryz.prog,30,89,Tryz.f30.results.toList,[((true,6),[2,3,9,11,29,30,31],[]),((true,15),[2,9,11,63,64,65],[]),((true,18),[2,9,11,15,63,64,65,70,71],[])],[(4,0,2),(10,2,2),(12,1,2),(21,2,2),(21,7,6)],w,B,R⟩
theorem sequence_Closed.L6.step(i:Option Addr)(j l:Nat)(e:Option Addr)(d m:Nat)(ol9:Option Addr)(c:Option Nat)(n:Option Addr)(o p:Nat)(f a:Int)(B:Nat)(w:World)(R:Value->World->Prop)
  (h:(((a<f)->((0<=a/\a<o)/\∃t,n=some t/\(∃b,CellsAt w (t.add ((a).toNat*1)) [.int .i64 b]/\(((b<0)->(R (.int .i64 14) w))/\(¬(b<0)->(Pure P 48 #[.pointer ol9] w fun x g=>∃q,x= .int .i64 q/\(((b≥q)->(R (.int .i64 14) g))/\(¬(b≥q)->(((a>0)->(inR .i64 (a - (1:Int))/\((0<=(a - (1:Int))/\(a - (1:Int))<d)/\∃u,e=some u/\(∃r,CellsAt g (u.add (((a - (1:Int))).toNat*1)) [.int .i64 r]/\(((r≥b)->(R (.int .i64 14) g))/\(¬(r≥b)->(RunOkU Tryz.prog (Instr.mapUpdate 90 (.map c) (.int .i64 b) (.bool true)) B [] g fun y=>(inR .i64 (a+1)/\(sequence_Closed.L6 i j l e d m ol9 c n o p f (a+1) B y R)))))))))/\(¬(a>0)->(RunOkU Tryz.prog (Instr.mapUpdate 90 (.map c) (.int .i64 b) (.bool true)) B [] g fun z=>(inR .i64 (a+1)/\(sequence_Closed.L6 i j l e d m ol9 c n o p f (a+1) B z R)))))))))))))/\(¬(a<f)->(RunOk P (Instr.lookup 90 (.map c) (.int .i64 0) false) B [] w fun A v=>∃s,A= .bool s/\(((s=false)->(R (.int .i64 14) v))/\(¬(s=false)->(sequence_Closed.L15 i j l ol9 c e d m (d:Int) (0:Int) B v R))))))):
  sequence_Closed.L6 i j l e d m ol9 c n o p f a B w R:=
 loop_of_run (sequence_Closed.cx w B R) 100000 (loopAt Tryz.f30 6) _ _ follows Tryz.func30 rfl rfl rfl (Eq.mp (by kernel_rfl) h)
theorem sequence_Closed.L15.step(f:Option Addr)(c g:Nat)(ol9:Option Addr)(i:Option Nat)(d:Option Addr)(e j:Nat)(b a:Int)(B:Nat)(w:World)(R:Value->World->Prop)
  (h:(((a<b)->((0<=a/\a<e)/\∃l,d=some l/\(∃m,CellsAt w (l.add ((a).toNat*1)) [.int .i64 m]/\(sequence_Closed.L18 f c g ol9 i m d e j b a (c:Int) (0:Int) B w R))))/\(¬(a<b)->(R (.int .i64 0) w)))):
  sequence_Closed.L15 f c g ol9 i d e j b a B w R:=
 loop_of_run (sequence_Closed.cx w B R) 100000 (loopAt Tryz.f30 15) _ _ follows Tryz.func30 rfl rfl rfl (Eq.mp (by kernel_rfl) h)
theorem sequence_Closed.L18.step(f:Option Addr)(g i:Nat)(ol9:Option Addr)(b:Option Nat)(c:Int)(j:Option Addr)(l m:Nat)(n d e a:Int)(B:Nat)(w:World)(R:Value->World->Prop)
  (h:(((a<e)->(shOk .i64 a/\(RunOk P (Instr.lookup 90 (.map b) (.int .i64 (bits .or .i64 c (shlI .i64 1 a))) false) B [] w fun s o=>∃p,s= .bool p/\(((p=false)->(PureB P 53 #[.pointer ol9,(.int .i64 (bits .or .i64 c (shlI .i64 1 a)))] B o fun t q=>(∀(k ty:Nat)(cs:Array Value),ty∈([]:List Nat)->o.heap[k]? =some (.cells cs ty (0,0))->q.heap[k]? =o.heap[k]?)/\∃r,t= .bool r/\((r=true->(R (.int .i64 14) q))/\(r=false->(inR .i64 (a+1)/\(sequence_Closed.L18 f g i ol9 b c j l m n d e (a+1) B q R))))))/\(¬(p=false)->(inR .i64 (a+1)/\(sequence_Closed.L18 f g i ol9 b c j l m n d e (a+1) B o R)))))))/\(¬(a<e)->(inR .i64 (d+1)/\(sequence_Closed.L15 f g i ol9 b j l m n (d+1) B w R))))):
  sequence_Closed.L18 f g i ol9 b c j l m n d e a B w R:=
 loop_of_run (sequence_Closed.cx w B R) 100000 (loopAt Tryz.f30 18) _ _ follows Tryz.func30 rfl rfl rfl (Eq.mp (by kernel_rfl) h)
theorem sequence_Closed.vc(i:Option Addr)(j l:Nat)(m:Option Addr)(n o:Nat)(p:Option Addr)(q r:Nat)(s:Option Addr)(t u:Nat)(c:Option Addr)(d e:Nat)(f:Option Addr)(a g:Nat)(w:World)(R:Value->World->Prop)
  (h:(∀v,Ext w.heap.size [] w v->(Pure P 47 #[.agg #[.slice i j l,.slice m n o,.slice p q r],.slice s t u,.slice c d e] v fun z x=>∃o2 b,z= .tuple #[.pointer o2,.int .i64 b]/\(((b≠0)->(R (.int .i64 b) x))/\(¬(b≠0)->(RunOk P (Instr.makeMap 90 none) w.heap.size [28] x fun A C=>∃(y:Option Nat),A= .map y/\(sequence_Closed.L6 c d e f a g o2 y f a g (a:Int) (0:Int) w.heap.size C R))))))):
  Pure P 30 #[.agg #[.slice i j l,.slice m n o,.slice p q r],.slice s t u,.slice c d e,.slice f a g] w R:=
 pure_of_run (sequence_Closed.cx w w.heap.size R) 100000 follows Tryz.func30 rfl rfl rfl rfl rfl rfl rfl (Eq.mp (by kernel_rfl) h)

noncomputable def sequence_Between_c1.cx(w:World)(B:Nat)(R:Value->World->Prop):Cx:=⟨Tryz.prog,42,6,Tryz.f42.results.toList,[],[],w,B,R⟩
theorem sequence_Between_c1.vc(d e a:Int)(w:World)(R:Value->World->Prop)
  (h:(((a<0)->(∀b,Ext w.heap.size [] w b->(R (.int .i64 0) b)))/\(¬(a<0)->(∀c,Ext w.heap.size [] w c->(R (.int .i64 1) c))))):
  Pure P 42 #[.agg #[.int .i64 d,.int .i64 e,.int .i64 a]] w R:=
 pure_of_run (sequence_Between_c1.cx w w.heap.size R) 100000 follows Tryz.func42 rfl rfl rfl rfl rfl rfl rfl (Eq.mp (by kernel_rfl) h)

noncomputable def sequence_Between_c2.cx(w:World)(B:Nat)(R:Value->World->Prop):Cx:=⟨Tryz.prog,44,13,Tryz.f44.results.toList,[],[(1,2,4),(1,5,4),(1,9999,3)],w,B,R⟩
theorem sequence_Between_c2.vc(e f g i j l:Int)(b:Addr)(w:World)(R:Value->World->Prop)
  (h:(∀a,Ext w.heap.size [] w a->(∃(c:Nat)(m n:Array Value),CellsAt a b [(.func (.func c) m n)]/\(∃(d:Nat)(o p:Array Value),CellsAt a b [(.func (.func d) o p)]/\(callable P c=true/\(∀q,Ext w.heap.size [] a q->(Pure P c ((Array.toList m)++([.agg #[.int .i64 e,.int .i64 f,.int .i64 g]]:List Value)++(Array.toList n)).toArray q fun u v=>∃r,u= .int .i64 r/\(callable P d=true/\(Pure P d ((Array.toList o)++([.agg #[.int .i64 i,.int .i64 j,.int .i64 l]]:List Value)++(Array.toList p)).toArray v fun x y=>∃s,x= .int .i64 s/\(Pure P 45 #[.int .i64 r,.int .i64 s] y fun z A=>∃t,z= .int .i64 t/\(R (.int .i64 t) A))))))))))):
  Pure P 44 #[.agg #[.int .i64 e,.int .i64 f,.int .i64 g],.agg #[.int .i64 i,.int .i64 j,.int .i64 l],(.pointer (some b))] w R:=
 pure_of_run (sequence_Between_c2.cx w w.heap.size R) 100000 follows Tryz.func44 rfl rfl rfl rfl rfl rfl rfl (Eq.mp (by kernel_rfl) h)

def sequence_begin.L10(a:Option Addr)(b c:Nat)(d:Option Addr)(e f:Nat)(g:Addr)(i:Option Addr)(j l:Nat)(m n:Int)(o:Option Addr)(p q:Nat)(r:Option Addr)(s t:Nat)(u:Option Addr)(v x B:Nat)(w:World)(R:Value->World->Prop):Prop:=At Tryz.prog 47 86 (loopAt Tryz.f47 10) [(1,.v (.slice a b c)),(2,.v (.slice d e f)),(3,.loc 3 0),(10,.v (.pointer (some g))),(36,.v (.slice i j l)),(37,.v (.int .i64 m)),(38,.v (.int .i64 n))] [⟨3,false,28,[(.slice o p q),(.slice r s t),(.slice u v x)]⟩] B w R
def sequence_begin.L17(a:Option Addr)(b c:Nat)(d:Addr)(e:Option Addr)(f g:Nat)(i j:Int)(l:Option Addr)(m n:Nat)(o:Option Addr)(p q:Nat)(r:Option Addr)(s t B:Nat)(w:World)(R:Value->World->Prop):Prop:=At Tryz.prog 47 86 (loopAt Tryz.f47 17) [(1,.v (.slice a b c)),(3,.loc 3 0),(10,.v (.pointer (some d))),(55,.v (.slice e f g)),(56,.v (.int .i64 i)),(57,.v (.int .i64 j))] [⟨3,false,28,[(.slice l m n),(.slice o p q),(.slice r s t)]⟩] B w R
noncomputable def sequence_begin.cx(w:World)(B:Nat)(R:Value->World->Prop):Cx:=⟨Tryz.prog,47,86,Tryz.f47.results.toList,[((true,10),[1,2,3,10,36,37,38],[3]),((true,17),[1,3,10,55,56,57],[3])],[(8,2,2),(8,4,2)],w,B,R⟩
theorem sequence_begin.L10.step(e:Option Addr)(f g:Nat)(i:Option Addr)(b j:Nat)(c:Addr)(l:Option Addr)(m A:Nat)(d a:Int)(n:Option Addr)(o p:Nat)(q:Option Addr)(r s:Nat)(t:Option Addr)(u v B:Nat)(w:World)(R:Value->World->Prop)
  (h:(((a<d)->((0<=a/\a<m)/\∃C,l=some C/\(∃D E G,CellsAt w (C.add ((a).toNat*3)) [.int .i64 D,.int .i64 E,.int .i64 G]/\(∀H,Ext B [] w H->(Pure P 78 #[(.pointer (some c)),.agg #[.int .i64 D,.int .i64 E,.int .i64 G]] H fun I x=>∃y z,I= .tuple #[.int .i64 y,.int .i64 z]/\(((y<0)->(R (.tuple #[.pointer none,.int .i64 7]) x))/\(¬(y<0)->(((z<0)->(R (.tuple #[.pointer none,.int .i64 7]) x))/\(¬(z<0)->(inR .i64 (a+1)/\(sequence_begin.L10 e f g i b j c l m A d (a+1) n o p q r s t u v B x R)))))))))))/\(¬(a<d)->(sequence_begin.L17 e f g c i b j (b:Int) (0:Int) n o p q r s t u v B w R)))):
  sequence_begin.L10 e f g i b j c l m A d a n o p q r s t u v B w R:=
 loop_of_run (sequence_begin.cx w B R) 100000 (loopAt Tryz.f47 10) _ _ follows Tryz.func47 rfl rfl rfl (Eq.mp (by kernel_rfl) h)
theorem sequence_begin.L17.step(m:Option Addr)(n o:Nat)(a:Addr)(p:Option Addr)(q x:Nat)(d b:Int)(e:Option Addr)(f g:Nat)(i:Option Addr)(j l:Nat)(r:Option Addr)(s t B:Nat)(w:World)(R:Value->World->Prop)
  (h:(((b<d)->((0<=b/\b<q)/\∃y,p=some y/\(∃K L c,CellsAt w (y.add ((b).toNat*3)) [.int .i64 K,.int .i64 L,.int .i64 c]/\(((c=0)->(∀z,Ext B [] w z->(R (.tuple #[.pointer none,.int .i64 2]) z)))/\(¬(c=0)->(((c<(-9:Int))->(∀A,Ext B [] w A->(R (.tuple #[.pointer none,.int .i64 2]) A)))/\(¬(c<(-9:Int))->(((c>9)->(∀C,Ext B [] w C->(R (.tuple #[.pointer none,.int .i64 2]) C)))/\(¬(c>9)->(inR .i64 (b+1)/\(∀D,Ext B [] w D->(sequence_begin.L17 m n o a p q x d (b+1) e f g i j l r s t B D R))))))))))))/\(¬(b<d)->(Pure P 41 #[.agg #[.slice e f g,.slice i j l],.slice m n o] w fun M E=>∃G H I N,M= .tuple #[.slice G H I,.int .i64 N]/\(∃(u:List Value)(v:Nat),B<=(a.add 4).block/\(a.add 4).spot=none/\E.heap[(a.add 4).block]? =some (.cells u.toArray v (0,0))/\(a.add 4).off+1<=u.length/\hasType v [⟨3,false,28,[.slice e f g,.slice i j l,.slice r s t]⟩]=false/\∀J,Wrote E J (a.add 4).block v (setCells u (a.add 4).off [.slice G H I])->(R (.tuple #[(.pointer (some a)),.int .i64 0]) J)))))):
  sequence_begin.L17 m n o a p q x d b e f g i j l r s t B w R:=
 loop_of_run (sequence_begin.cx w B R) 100000 (loopAt Tryz.f47 17) _ _ follows Tryz.func47 rfl rfl rfl (Eq.mp (by kernel_rfl) h)
theorem sequence_begin.vc(b:Option Addr)(c d:Nat)(e:Option Addr)(f g:Nat)(i:Option Addr)(j l:Nat)(o:Option Addr)(p q:Nat)(m:Option Addr)(a n:Nat)(w:World)(R:Value->World->Prop)
  (h:(∀u,Ext w.heap.size [] w u->(Pure P 77 #[.agg #[.slice b c d,.slice e f g,.slice i j l]] u fun z v=>∃A r,z= .tuple #[.int .i64 A,.int .i64 r]/\(((r≠0)->(R (.tuple #[.pointer none,.int .i64 1]) v))/\(¬(r≠0)->(Pure P 35 #[.agg #[.slice b c d,.slice e f g,.slice i j l],.slice o p q] v fun C s=>∃t,C= .bool t/\(((t=false)->(R (.tuple #[.pointer none,.int .i64 11]) s))/\(¬(t=false)->((((a:Int)>6)->(R (.tuple #[.pointer none,.int .i64 8]) s))/\(¬((a:Int)>6)->(RunOk P (Instr.makeMap 90 none) w.heap.size [28] s fun D E=>∃(x:Option Nat),D= .map x/\(RunOk P (Instr.box 114 (.agg #[.slice b c d,.slice e f g,.slice i j l,.slice m a n,.slice none 0 0,(.map x)])) w.heap.size [28] E fun G H=>∃(y:Addr),G= .pointer (some y)/\(sequence_begin.L10 o p q m a n y m a n (a:Int) (0:Int) b c d e f g i j l w.heap.size H R))))))))))))):
  Pure P 47 #[.agg #[.slice b c d,.slice e f g,.slice i j l],.slice o p q,.slice m a n] w R:=
 pure_of_run (sequence_begin.cx w w.heap.size R) 100000 follows Tryz.func47 rfl rfl rfl rfl rfl rfl rfl (Eq.mp (by kernel_rfl) h)

noncomputable def sequence_task_all.cx(w:World)(B:Nat)(R:Value->World->Prop):Cx:=⟨Tryz.prog,48,10,Tryz.f48.results.toList,[],[],w,B,R⟩
theorem sequence_task_all.vc(b:Addr)(w:World)(R:Value->World->Prop)
  (h:(∃c a d,CellsAt w (b.add 3) [.slice c a d]/\(shOk .i64 (a:Int)/\(inR .i64 ((shlI .i64 1 (a:Int)) - (1:Int))/\(R (.int .i64 ((shlI .i64 1 (a:Int)) - (1:Int))) w))))):
  Pure P 48 #[(.pointer (some b))] w R:=
 pure_of_run (sequence_task_all.cx w w.heap.size R) 100000 follows Tryz.func48 rfl rfl rfl rfl rfl rfl rfl (Eq.mp (by kernel_rfl) h)

def sequence_task_state.L3(a:Addr)(b:Int)(c:Option Addr)(d e:Nat)(f:Option Addr)(g i:Nat)(j l:Int)(B:Nat)(w:World)(R:Value->World->Prop):Prop:=At Tryz.prog 49 71 (loopAt Tryz.f49 3) [(0,.v (.pointer (some a))),(1,.v (.int .i64 b)),(6,.v (.slice c d e)),(21,.v (.slice f g i)),(22,.v (.int .i64 j)),(23,.v (.int .i64 l))] [] B w R
noncomputable def sequence_task_state.cx(w:World)(B:Nat)(R:Value->World->Prop):Cx:=⟨Tryz.prog,49,71,Tryz.f49.results.toList,[((true,3),[0,1,6,21,22,23],[])],[],w,B,R⟩
theorem sequence_task_state.L3.step(f:Addr)(j:Int)(g:Option Addr)(i n:Nat)(o:Option Addr)(p q:Nat)(l c:Int)(B:Nat)(w:World)(R:Value->World->Prop)
  (h:(((c<l)->((0<=c/\c<p)/\∃z,o=some z/\(∃r s m,CellsAt w (z.add ((c).toNat*3)) [.int .i64 r,.int .i64 s,.int .i64 m]/\(shOk .i64 c/\(((((bits .and .i64 (shrI j c) (1:Int)):Int)=1)->(∀A,Ext B [] w A->(Pure P 78 #[(.pointer (some f)),.agg #[.int .i64 r,.int .i64 s,.int .i64 m]] A fun S t=>∃a d,S= .tuple #[.int .i64 a,.int .i64 d]/\(∃T b U,CellsAt t (((f.add 0).add 0).add 1) [.slice T b U]/\(inR .i64 (a*(b:Int))/\(inR .i64 ((a*(b:Int))+d)/\((0<=((a*(b:Int))+d)/\((a*(b:Int))+d)<i)/\∃C,g=some C/\(∃u,CellsAt t (C.add ((((a*(b:Int))+d)).toNat*1)) [.int .i64 u]/\(inR .i64 (u+m)/\((0<=((a*(b:Int))+d)/\((a*(b:Int))+d)<i)/\∃e,g=some e/\(∀v,Ext B [] t v->(∃(x:List Value)(y:Nat),B<=(e.add ((((a*(b:Int))+d)).toNat*1)).block/\(e.add ((((a*(b:Int))+d)).toNat*1)).spot=none/\v.heap[(e.add ((((a*(b:Int))+d)).toNat*1)).block]? =some (.cells x.toArray y (0,0))/\(e.add ((((a*(b:Int))+d)).toNat*1)).off+1<=x.length/\hasType y [⟨8,false,44,[.int .i64 r,.int .i64 s,.int .i64 m]⟩]=false/\∀D,Wrote v D (e.add ((((a*(b:Int))+d)).toNat*1)).block y (setCells x (e.add ((((a*(b:Int))+d)).toNat*1)).off [(.int .i64 (u+m))])->(inR .i64 (c+1)/\(sequence_task_state.L3 f j g i n o p q l (c+1) B D R))))))))))))))/\(¬(((bits .and .i64 (shrI j c) (1:Int)):Int)=1)->(inR .i64 (c+1)/\(∀E,Ext B [] w E->(sequence_task_state.L3 f j g i n o p q l (c+1) B E R)))))))))/\(¬(c<l)->(∃G H I J K L,CellsAt w ((f.add 0).add 0) [.slice G H I,.slice J K L]/\(Pure P 79 #[.agg #[.slice G H I,.slice J K L],.slice g i n] w fun V X=>∃M N O Q,V= .tuple #[.slice M N O,.int .i64 Q]/\(R (.tuple #[.slice M N O,(.bool (decide (Q=0)))]) X)))))):
  sequence_task_state.L3 f j g i n o p q l c B w R:=
 loop_of_run (sequence_task_state.cx w B R) 100000 (loopAt Tryz.f49 3) _ _ follows Tryz.func49 rfl rfl rfl (Eq.mp (by kernel_rfl) h)
theorem sequence_task_state.vc(a:Addr)(c:Int)(w:World)(R:Value->World->Prop)
  (h:(∃d e f,CellsAt w (a.add 4) [.slice d e f]/\(Pure P 28 #[.slice d e f] w fun o g=>∃i j l,o= .slice i j l/\(∃m b n,CellsAt g (a.add 3) [.slice m b n]/\(sequence_task_state.L3 a c i j l m b n (b:Int) (0:Int) w.heap.size g R))))):
  Pure P 49 #[(.pointer (some a)),.int .i64 c] w R:=
 pure_of_run (sequence_task_state.cx w w.heap.size R) 100000 follows Tryz.func49 rfl rfl rfl rfl rfl rfl rfl (Eq.mp (by kernel_rfl) h)

def sequence_Order_c1.L6(a:Int)(b:Addr)(c:Addr)(d:Addr)(e:Addr)(f g:Int)(B:Nat)(w:World)(R:Value->World->Prop):Prop:=At Tryz.prog 52 50 (loopAt Tryz.f52 6) [(0,.v (.int .i64 a)),(1,.v (.pointer (some b))),(2,.v (.pointer (some c))),(4,.v (.pointer (some d))),(5,.v (.pointer (some e))),(18,.v (.int .i64 f)),(19,.v (.int .i64 g))] [] B w R
noncomputable def sequence_Order_c1.cx(w:World)(B:Nat)(R:Value->World->Prop):Cx:=⟨Tryz.prog,52,50,Tryz.f52.results.toList,[((true,6),[0,1,2,4,5,18,19],[])],[(3,2,2),(9,6,6),(10,2,2),(10,3,2),(11,2,10),(15,2,2)],w,B,R⟩
theorem sequence_Order_c1.L6.step(c:Int)(f:Addr)(g:Addr)(a:Addr)(i:Addr)(d b:Int)(B:Nat)(w:World)(R:Value->World->Prop)
  (h:(((b<d)->(shOk .i64 b/\(((((bits .or .i64 c (shlI .i64 1 b)):Int)=c)->(inR .i64 (b+1)/\(sequence_Order_c1.L6 c f g a i d (b+1) B w R)))/\(¬(((bits .or .i64 c (shlI .i64 1 b)):Int)=c)->(∃o10,CellsAt w f [.pointer o10]/\(PureB P 53 #[.pointer o10,(.int .i64 (bits .or .i64 c (shlI .i64 1 b)))] B w fun N m=>(∀(k ty:Nat)(cs:Array Value),ty∈([]:List Nat)->w.heap[k]? =some (.cells cs ty (0,0))->m.heap[k]? =w.heap[k]?)/\∃n,N= .bool n/\(((n=false)->(inR .i64 (b+1)/\(sequence_Order_c1.L6 c f g a i d (b+1) B m R)))/\(¬(n=false)->(∃v x y,CellsAt m a [.slice v x y]/\(RunOk P (Instr.buildSlice 48 1 #[(0,(.int .i64 b))]) B [] m fun O Q=>∃z A C,O= .slice z A C/\(RunOk P (Builtin.append_ #[48,48] 48 #[.slice v x y,.slice z A C]) B [] Q fun S D=>∃E G H,S= .slice E G H/\(∃(o:List Value)(p:Nat),B<=a.block/\a.spot=none/\D.heap[a.block]? =some (.cells o.toArray p (0,0))/\a.off+1<=o.length/\hasType p []=false/\∀j,Wrote D j a.block p (setCells o a.off [.slice E G H])->(∃(q:Nat)(I J:Array Value),CellsAt j i [(.func (.func q) I J)]/\(callable P q=true/\(PureB P q ((Array.toList I)++([(.int .i64 (bits .or .i64 c (shlI .i64 1 b)))]:List Value)++(Array.toList J)).toArray B j fun T e=>(∀(k ty:Nat)(cs:Array Value),ty∈([]:List Nat)->j.heap[k]? =some (.cells cs ty (0,0))->e.heap[k]? =j.heap[k]?)/\∃r,T= .bool r/\((r=true->(R (.bool true) e))/\(r=false->(∃K U s,CellsAt e a [.slice K U s]/\(∃V l X,CellsAt e a [.slice V l X]/\(inR .i64 ((l:Int) - (1:Int))/\((0<=((l:Int) - (1:Int))/\((l:Int) - (1:Int))<=(s:Int))/\(∃(t:List Value)(u:Nat),B<=a.block/\a.spot=none/\e.heap[a.block]? =some (.cells t.toArray u (0,0))/\a.off+1<=t.length/\hasType u []=false/\∀L,Wrote e L a.block u (setCells t a.off [(.slice K ((((l:Int) - (1:Int))).toNat) s)])->(inR .i64 (b+1)/\(sequence_Order_c1.L6 c f g a i d (b+1) B L R))))))))))))))))))))))))/\(¬(b<d)->(∃(M:Option Nat),CellsAt w g [(.map M)]/\(RunOkU Tryz.prog (Instr.mapUpdate 90 (.map M) (.int .i64 c) (.bool true)) B [] w fun Y=>(R (.bool false) Y)))))):
  sequence_Order_c1.L6 c f g a i d b B w R:=
 loop_of_run (sequence_Order_c1.cx w B R) 100000 (loopAt Tryz.f52 6) _ _ follows Tryz.func52 rfl rfl rfl (Eq.mp (by kernel_rfl) h)
theorem sequence_Order_c1.vcB(a:Int)(b:Addr)(c:Addr)(i:Addr)(j:Addr)(l:Addr)(B:Nat)(w:World)(hB:B<=w.heap.size)(R:Value->World->Prop)
  (h:(∃o1,CellsAt w b [.pointer o1]/\(Pure P 48 #[.pointer o1] w fun o d=>∃e,o= .int .i64 e/\(((a=e)->(R (.bool true) d))/\(¬(a=e)->(∃(m:Option Nat),CellsAt d c [(.map m)]/\(RunOk P (Instr.lookup 90 (.map m) (.int .i64 a) false) B [] d fun p f=>∃g,p= .bool g/\((g=true->(R (.bool false) f))/\(g=false->(∃q n r,CellsAt f i [.slice q n r]/\(sequence_Order_c1.L6 a b c j l (n:Int) (0:Int) B f R))))))))))):
  PureB P 52 #[.int .i64 a,(.pointer (some b)),(.pointer (some c)),(.pointer (some i)),(.pointer (some j)),(.pointer (some l))] B w R:=
 pureB_of_run (sequence_Order_c1.cx w B R) 100000 follows Tryz.func52 rfl rfl rfl rfl hB rfl rfl (Eq.mp (by kernel_rfl) h)

noncomputable def sequence_task_allowed.cx(w:World)(B:Nat)(R:Value->World->Prop):Cx:=⟨Tryz.prog,53,42,Tryz.f53.results.toList,[],[(1,5,2),(5,6,2)],w,B,R⟩
theorem sequence_task_allowed.vcB(a:Addr)(b:Int)(B:Nat)(w:World)(hB:B<=w.heap.size)(R:Value->World->Prop)
  (h:(∃(g:Option Nat),CellsAt w (a.add 5) [(.map g)]/\(RunOk P (Instr.lookup 90 (.map g) (.int .i64 b) true) B [] w fun C i=>∃j d,C= .tuple #[.bool j,.bool d]/\(((d=false)->(Pure P 49 #[(.pointer (some a)),.int .i64 b] i fun D c=>∃l m n e,D= .tuple #[.slice l m n,.bool e]/\((e=true->(∃o p q r s t u v x,CellsAt c (a.add 0) [.slice o p q,.slice r s t,.slice u v x]/\(Pure P 35 #[.agg #[.slice o p q,.slice r s t,.slice u v x],.slice l m n] c fun E y=>∃f,E= .bool f/\(∃(z:Option Nat),CellsAt y (a.add 5) [(.map z)]/\(RunOkU Tryz.prog (Instr.mapUpdate 90 (.map z) (.int .i64 b) (.bool f)) B [] y fun G=>(R (.bool f) G))))))/\(e=false->(∃(A:Option Nat),CellsAt c (a.add 5) [(.map A)]/\(RunOkU Tryz.prog (Instr.mapUpdate 90 (.map A) (.int .i64 b) (.bool false)) B [] c fun H=>(R (.bool false) H)))))))/\(¬(d=false)->(R (.bool j) i)))))):
  PureB P 53 #[(.pointer (some a)),.int .i64 b] B w R:=
 pureB_of_run (sequence_task_allowed.cx w B R) 100000 follows Tryz.func53 rfl rfl rfl rfl hB rfl rfl (Eq.mp (by kernel_rfl) h)

noncomputable def sequence_task_place.cx(w:World)(B:Nat)(R:Value->World->Prop):Cx:=⟨Tryz.prog,78,26,Tryz.f78.results.toList,[],[(1,6,5)],w,B,R⟩
theorem sequence_task_place.vc(c:Addr)(d e f:Int)(w:World)(R:Value->World->Prop)
  (h:(∀a,Ext w.heap.size [] w a->(∃g i j,CellsAt a (((c.add 0).add 0).add 0) [.slice g i j]/\(∀b:Nat,w.heap.size<=b->a.heap[b]? =some (.cells [.int .i64 d,.int .i64 e,.int .i64 f].toArray 44 (0,0))->(Pure P 111 #[.slice g i j,(.func (.func 112) #[] #[(.pointer (some (⟨b,0,none⟩:Addr)))])] a fun r l=>∃m,r= .int .i64 m/\(∃n o p,CellsAt l (((c.add 0).add 0).add 1) [.slice n o p]/\(Pure P 101 #[.slice n o p,(.func (.func 113) #[] #[(.pointer (some (⟨b,0,none⟩:Addr)))])] l fun s t=>∃q,s= .int .i64 q/\(R (.tuple #[.int .i64 m,.int .i64 q]) t)))))))):
  Pure P 78 #[(.pointer (some c)),.agg #[.int .i64 d,.int .i64 e,.int .i64 f]] w R:=
 pure_of_run (sequence_task_place.cx w w.heap.size R) 100000 follows Tryz.func78 rfl rfl rfl rfl rfl rfl rfl (Eq.mp (by kernel_rfl) h)

noncomputable def sequence_task_place_c1.cx(w:World)(B:Nat)(R:Value->World->Prop):Cx:=⟨Tryz.prog,112,9,Tryz.f112.results.toList,[],[],w,B,R⟩
theorem sequence_task_place_c1.vc(b e f:Int)(g i j l:ByteArray)(c:Addr)(w:World)(R:Value->World->Prop)
  (h:(∀a,Ext w.heap.size [] w a->(∃d,CellsAt a (c.add 1) [.int .i64 d]/\(R (.bool (decide (b=d))) a)))):
  Pure P 112 #[.agg #[.int .i64 b,.int .i64 e,.int .i64 f,.string g,.string i,.string j,.string l],(.pointer (some c))] w R:=
 pure_of_run (sequence_task_place_c1.cx w w.heap.size R) 100000 follows Tryz.func112 rfl rfl rfl rfl rfl rfl rfl (Eq.mp (by kernel_rfl) h)

noncomputable def sequence_task_place_c2.cx(w:World)(B:Nat)(R:Value->World->Prop):Cx:=⟨Tryz.prog,113,9,Tryz.f113.results.toList,[],[],w,B,R⟩
theorem sequence_task_place_c2.vc(b:Int)(e f g i j l:ByteArray)(c:Addr)(w:World)(R:Value->World->Prop)
  (h:(∀a,Ext w.heap.size [] w a->(∃d,CellsAt a (c.add 0) [.int .i64 d]/\(R (.bool (decide (b=d))) a)))):
  Pure P 113 #[.agg #[.int .i64 b,.string e,.string f,.string g,.string i,.string j,.string l],(.pointer (some c))] w R:=
 pure_of_run (sequence_task_place_c2.cx w w.heap.size R) 100000 follows Tryz.func113 rfl rfl rfl rfl rfl rfl rfl (Eq.mp (by kernel_rfl) h)

end Go.Proofs.YtgfkeadgjkfomaaGreatDoor.F

namespace Go.Proofs.YtgfkeadgjkfomaaGreatDoor.B
open Go Go.RowKit Go.Proofs Go.Proofs.YtgfkeadgjkfomaaGreatDoor.Vc

structure Tk where
 b:Nat
 m:Nat
 A0:Option Addr
 n0:Nat
 c0:Nat
 A1:Option Addr
 n1:Nat
 c1:Nat
 A2:Option Addr
 n2:Nat
 c2:Nat
 A3:Option Addr
 n3:Nat
 c3:Nat
 A4:Option Addr
 n4:Nat
 c4:Nat
abbrev Tk.cs(k:Tk):List Value:=[.slice k.A0 k.n0 k.c0,.slice k.A1 k.n1 k.c1,.slice k.A2 k.n2 k.c2,.slice k.A3 k.n3 k.c3,.slice k.A4 k.n4 k.c4,.map (some k.m)]
abbrev Tk.p(k:Tk):Addr:=⟨k.b,0,none⟩
def TkC(w:World)(k:Tk):Prop:=w.heap[k.b]? =some (.cells k.cs.toArray 114 (0,0))
theorem TkC.keep{w w':World}{k:Tk}(h:TkC w k)(hb:Below w.heap.size w w'):TkC w' k:=heap_keep h hb
theorem TkC.cl{w w':World}{k:Tk}(h:TkC w k)(c:Cl w w'):TkC w' k:=c.cells _ _ _ _ h
theorem TkC.cell{w:World}{k:Tk}(h:TkC w k)(i:Nat){v:Value}(hv:k.cs[i]? =some v):CellsAt w (k.p.add i) [v]:=box_cell h hv
theorem TkC.part{w:World}{k:Tk}(h:TkC w k)(i n:Nat):CellsAt w (k.p.add i) ((k.cs.drop i).take n):=cells_part (box_all h) i n
structure TkIn (w:World) (k:Tk) (ps:List Pa) (hs:List Ho) (xs:List Rm) (l works:List Sw):Prop where
 t:TkC w k
 p:PrIn w k.A0 k.n0 k.A1 k.n1 k.A2 k.n2 k.c2 ps hs xs
 wk:SlR w k.A3 3 (works.map Sw.row)
 lw:works.length=k.n3
 st:SlR w k.A4 1 ((amountsF ps hs l).map iRow)
 ok:TaskOk ps hs (rsOf xs) l works
 n4:k.n4=k.n0*k.n1
theorem TkIn.keep{w w':World}{k:Tk}{ps:List Pa}{hs:List Ho}{xs:List Rm}{l works:List Sw}(h:TkIn w k ps hs xs l works)(hb:Below w.heap.size w w'):TkIn w' k ps hs xs l works:=
 ⟨h.t.keep hb,h.p.keep hb,h.wk.keep hb (Nat.le_refl _),h.lw,h.st.keep hb (Nat.le_refl _),h.ok,h.n4⟩
theorem TkIn.cl{w w':World}{k:Tk}{ps:List Pa}{hs:List Ho}{xs:List Rm}{l works:List Sw}(h:TkIn w k ps hs xs l works)(c:Cl w w'):TkIn w' k ps hs xs l works:=
 ⟨h.t.cl c,h.p.cl c,h.wk.cl c,h.lw,h.st.cl c,h.ok,h.n4⟩

section
variable {w:World} {k:Tk} {ps:List Pa} {hs:List Ho} {xs:List Rm} {l works:List Sw}
theorem seq_place(ht:TkC w k)(hc:CgIn w k.A0 k.n0 k.A1 k.n1 ps hs)(x:Sw):
  Pure Tryz.prog 78 #[.pointer (some k.p),x.val] w fun v _=>v= .tuple #[.int .i64 (ixI (pix ps x.parcel)),.int .i64 (ixI (hix hs x.hold))]:=by
 have hnp:=hc.np
 have hnh:=hc.nh
 refine F.sequence_task_place.vc _ _ _ _ _ _ fun w1 x1=> ?_
 have hw:=k0 x1
 refine⟨_,_,_,by rw[Go.Deep.add_add,Go.Deep.add_add];exact(ht.keep hw).cell 0 rfl,fun p3 hp3 hb3=> ?_⟩
 refine Pure.mono (IndexPa (p:=fun p=>decide (p.id=x.parcel)) (hc.keep hw).p hc.lp (by omega) (by kernel_rfl) fun w' hb y hy=> ?_) ?_
 ·exact F.sequence_task_place_c1.vc _ _ _ _ _ _ _ _ _ _ fun w1 x1=>⟨_,box_cell (heap_keep (heap_keep hb3 hb) (k0 x1)) rfl,rfl⟩
 ·rintro v w6 b6 rfl
  have hw6:=kP hw b6
  refine⟨_,rfl,_,_,_,by rw[Go.Deep.add_add,Go.Deep.add_add];exact(ht.keep hw6).cell 1 rfl,?_⟩
  refine Pure.mono (IndexHo (p:=fun p=>decide (p.id=x.hold)) (hc.keep hw6).h hc.lh (by omega) (by kernel_rfl) fun w' hb y hy=> ?_) ?_
  ·exact F.sequence_task_place_c2.vc _ _ _ _ _ _ _ _ _ _ fun w1 x1=>⟨_,box_cell0 (heap_keep (heap_keep (heap_keep hb3 b6) hb) (k0 x1)) rfl,rfl⟩
  ·rintro v w10 _ rfl
   exact⟨_,rfl,rfl⟩
theorem seq_all(ht:TkC w k)(hn:k.n3<=6):Pure Tryz.prog 48 #[.pointer (some k.p)] w fun v _=>v= .int .i64 ((fullN k.n3:Nat):Int):=by
 have h2:=pow64 _ hn
 have h3:=Nat.two_pow_pos k.n3
 refine F.sequence_task_all.vc _ _ _ ⟨_,_,_,ht.cell 3 rfl,sh_ok (by omega),?_⟩
 rw[shl_one _ (by omega)]
 refine⟨by simp only[inR];omega,?_⟩
 unfold fullN
 refine congrArg (Value.int .i64) ?_
 omega
theorem amounts_small(hr:RightS ps hs l):∀x∈amountsF ps hs l,0<=x/\x<=9:=by
 intro x hx
 unfold amountsF at hx
 obtain⟨p,_,hx⟩:=List.mem_flatMap.1 hx
 obtain⟨h,_,rfl⟩:=List.mem_map.1 hx
 exact⟨amt_nonneg hr.pos _ _,amt_le hr _ _⟩
theorem place_at{x:Sw}{j:Nat}(h:placeW ps hs x=some j):∃i k,pix ps x.parcel=some i/\hix hs x.hold=some k/\j=i*hs.length+k/\j<ps.length*hs.length:=by
 unfold placeW at h
 cases e1:pix ps x.parcel with
 |none=>rw[e1]at h;cases h
 |some i=>
  cases e2:hix hs x.hold with
  |none=>rw[e1,e2]at h;cases h
  |some k=>
   rw[e1,e2]at h
   cases h
   exact⟨i,k,rfl,rfl,rfl,idx_lt (pix_lt e1).1 (hix_lt e2).1⟩
theorem state_pos{s:Nat}{m:List Sw}(e:stateF ps hs l works s=some m):m.length<=36:=(state_right e).2.1.len
theorem seq_state(hg:Glob w)(h:TkIn w k ps hs xs l works){s:Nat}(hs':s<128):
  Pure Tryz.prog 49 #[.pointer (some k.p),.int .i64 (s:Int)] w fun v w'=>(stateF ps hs l works s=none->v= .tuple #[.slice none 0 0,.bool false])/\
   ∀m,stateF ps hs l works s=some m->∃A n c,v= .tuple #[.slice A n c,.bool true]/\OwnR w' w.heap.size 39 A n c 3 (m.map Sw.row):=by
 obtain⟨hck,hst,hr⟩:=keeps_right h.ok.keeps
 have hlp:=h.p.c.lp
 have hlh:=h.p.c.lh
 have hn0:=h.p.c.np
 have hn1:=h.p.c.nh
 have hle:k.n0*k.n1<=7*7:=Nat.mul_le_mul hn0 hn1
 have hw6:=h.ok.n
 have hlw:=h.lw
 have hn4:=h.n4
 have hal:(amountsF ps hs l).length=k.n4:=by rw[amounts_len,hlp,hlh,hn4]
 refine F.sequence_task_state.vc _ _ _ _ ⟨_,_,_,h.t.cell 4 rfl,Pure.mono (CloneI h.st hal (by omega)) ?_⟩
 rintro v w4 b4 ⟨A',c',rfl,ho⟩
 refine⟨_,_,_,rfl,_,_,_,(h.t.keep b4).cell 3 rfl,?_⟩
 have key:∀(d j:Nat)(a:List Int)(w':World),k.n3 - j=d->j<=k.n3->Below w.heap.size w w'->OwnR w' w.heap.size 3 A' k.n4 c' 1 (a.map iRow)->(∀x∈a, -(9*(j:Int))<=x/\x<=9+9*(j:Int))->stateA ps hs s j a (works.drop j)=stateA ps hs s 0 (amountsF ps hs l) works->
   F.sequence_task_state.L3 k.p s A' k.n4 c' k.A3 k.n3 k.c3 k.n3 j w.heap.size w' fun v w'=>(stateF ps hs l works s=none->v= .tuple #[.slice none 0 0,.bool false])/\
    ∀m,stateF ps hs l works s=some m->∃A n c,v= .tuple #[.slice A n c,.bool true]/\OwnR w' w.heap.size 39 A n c 3 (m.map Sw.row):=by
  intro d
  induction d with
  |zero=>
   intro j a w' hd hj hw ho hb he
   have hln:=ho.len
   rw[List.length_map]at hln
   rw[List.drop_eq_nil_of_le (by omega)]at he
   have hea:a=stateA ps hs s 0 (amountsF ps hs l) works:=he
   refine F.sequence_task_state.L3.step _ _ _ _ _ _ _ _ _ _ _ _ _ ⟨fun h=>by omega,fun _=>⟨_,_,_,_,_,_,by rw[Go.Deep.add_add];exact(h.t.keep hw).part 0 2,?_⟩⟩
   refine Pure.mono (cargo_From (hg.next hw) (h.p.keep hw).c ho.sl hln ho.len_le (by omega)) ?_
   intro v w29 b29 hf
   unfold stateF
   rw[<-hea]
   cases e:fromF ps hs a with
   |error er=>
    rw[e]at hf
    have hne:=from_err e
    cases hf
    refine⟨_,_,_,_,rfl,fun _=> ?_,fun m hm=>by cases hm⟩
    rw[decide_eq_false hne]
   |ok m=>
    rw[e]at hf
    obtain⟨A,n,c,rfl,hm⟩:=hf
    refine⟨_,_,_,_,rfl,fun hm=>(by cases hm),fun m' hm'=> ?_⟩
    cases hm'
    exact⟨A,n,c,rfl,hm.base hw.size⟩
  |succ d ih=>
   intro j a w' hd hj hw ho hb he
   have hjl:j<works.length:=by omega
   have e3:(j:Int)+1=((j+1:Nat):Int):=by omega
   have hln:=ho.len
   rw[List.length_map]at hln
   have hmem:=List.getElem_mem hjl
   obtain⟨q,hq⟩:=h.ok.place _ hmem
   obtain⟨ip,ik,hip,hik,hqe,hql⟩:=place_at hq
   have hu:=h.ok.u _ hmem
   rw[List.drop_eq_getElem_cons hjl,stateA_cons,hq]at he
   obtain⟨hbb,ad,hA,hcell,_⟩:=(h.wk.keep hw (Nat.le_refl _)).at_ (fun _=>rfl) hlw hjl
   refine F.sequence_task_state.L3.step _ _ _ _ _ _ _ _ _ _ _ _ _ ⟨fun _=>⟨hbb,ad,hA,_,_,_,hcell,sh_ok (by omega),fun h1 w10 x10=> ?_,fun h1=>⟨by simp only[inR];omega,fun w23 x23=> ?_⟩⟩,fun h=>by omega⟩
   ·rw[if_pos ((bit_eq hs' (by omega)).1 h1)]at he
    have hw:=kE hw x10
    refine Pure.mono (seq_place (h.t.keep hw) (h.p.keep hw).c works[j]) ?_
    rintro v w14 b14 rfl
    have hw:=kP hw b14
    rw[hip,hik]
    have ei:ixI (some ip)*(k.n1:Int)=((ip*hs.length:Nat):Int):=by rw[<-hlh];simp[ixI]
    have eq:((ip*hs.length:Nat):Int)+ixI (some ik)=(q:Int):=by rw[hqe];simp[ixI]
    have o14:=(ho.extNil x10).below b14
    have hqn:q<k.n4:=by rw[hn4,<-hlp,<-hlh];exact hql
    have hqa:q<a.length:=by omega
    have hrow:(a.map iRow)[q]? =some (iRow a[q]):=by rw[List.getElem?_map,List.getElem?_eq_getElem hqa];rfl
    have haq:=hb _ (List.getElem_mem hqa)
    have hgd:a.getD q 0=a[q]:=by rw[List.getD_eq_getElem?_getD,List.getElem?_eq_getElem hqa];rfl
    have hlq:ip*hs.length<=q:=by omega
    obtain⟨hbq,aq,hAq,hcq,_⟩:=o14.sl.at_ (fun _=>rfl) hln hqa
    refine⟨_,_,rfl,_,_,_,by rw[Go.Deep.add_add,Go.Deep.add_add];exact(h.t.keep hw).cell 1 rfl,?_⟩
    rw[ei,eq]
    refine⟨by simp only[inR];omega,by simp only[inR];omega,hbq,aq,hAq,_,hcq,by simp only[inR];omega,hbq,aq,hAq,fun w19 x19=> ?_⟩
    have hw:=kE hw x19
    have o19:=o14.extNil x19
    obtain⟨g1,a2,hA2,cs,g2,g3,g4,g5,g6⟩:=o19.set0 (i:=(q:Int)) (by omega) (by omega) (iRow (a[q]+works[j].units)) _ (by rw[Int.toNat_natCast];exact hrow) rfl
    rw[hAq]at hA2
    cases hA2
    refine⟨cs,_,g2,g3,g4,g5,rfl,fun w22 hw22=>⟨by simp only[inR];omega,?_⟩⟩
    have o22:=g6 w22 hw22
    rw[Int.toNat_natCast,<-List.map_set]at o22
    rw[e3]
    refine ih (j+1) (a.set q (a[q]+works[j].units)) w22 (by omega) (by omega) (hw.trans (Wrote.belowR hw22 g2)) o22 (fun x hx=> ?_) ?_
    ·rcases List.mem_or_eq_of_mem_set hx with hx|rfl
     ·have:=hb x hx;omega
     ·omega
    ·rw[<-he]
     show _=stateA ps hs s (j+1) (addAt a q works[j].units) _
     unfold addAt
     rw[hgd]
   ·rw[if_neg (fun k=>h1 ((bit_eq hs' (by omega)).2 k))]at he
    rw[e3]
    exact ih (j+1) a w23 (by omega) (by omega) (kE hw x23) (ho.extNil x23) (fun x hx=>by have:=hb x hx;omega) he
 refine key k.n3 0 (amountsF ps hs l) w4 rfl (by omega) b4 ho (fun x hx=> ?_) rfl
 have:=amounts_small hr x hx
 omega

theorem mpB:MpT 90 3 4:=⟨by kernel_rfl,by kernel_rfl,by kernel_rfl,fun w=>Tryz.zeroValue4 w⟩
def KnIn(w:World)(B:Nat)(k:Tk)(al:Nat->Bool):Prop:=∃f,MpR w B 3 4 k.m f/\∀(s:Nat)(x:Bool),f (s:Int)=some x->x=al s
theorem KnIn.below{w w':World}{B:Nat}{k:Tk}{al:Nat->Bool}(h:KnIn w B k al)(hb:Below w.heap.size w w'):KnIn w' B k al:=by
 obtain⟨f,h1,h2⟩:=h
 exact⟨f,h1.below hb,h2⟩
theorem KnIn.le{w:World}{B B':Nat}{k:Tk}{al:Nat->Bool}(h:KnIn w B k al)(hB:B'<=B):KnIn w B' k al:=by
 obtain⟨f,h1,h2⟩:=h
 exact⟨f,h1.le hB,h2⟩
structure But (b:Nat) (w w':World):Prop where
 size:w.heap.size<=w'.heap.size
 other:∀k,k<w.heap.size->k≠b->w'.heap[k]? =w.heap[k]?
theorem But.refl(b:Nat)(w:World):But b w w:=⟨Nat.le_refl _,fun _ _ _=>rfl⟩
theorem But.trans{b:Nat}{w w1 w2:World}(h:But b w w1)(k:But b w1 w2):But b w w2:=
 ⟨Nat.le_trans h.size k.size,fun i hi hne=>(k.other i (Nat.lt_of_lt_of_le hi h.size) hne).trans (h.other i hi hne)⟩
theorem But.low{b:Nat}{w w':World}(h:Below w.heap.size w w'):But b w w':=⟨h.size,fun k hk _=>h.block k hk⟩
theorem But.grown{b:Nat}{w w':World}(h:w.grownBy w' (some b)):But b w w':=⟨h.size,fun k hk hne=>h.block k hk fun e=>hne (by cases e;rfl)⟩
theorem But.cl{b:Nat}{w w':World}(h:But b w w')(hm:∃es clock,w.heap[b]? =some (.map es clock)):Cl w w':=⟨h.size,fun k cs ty fr e=>by
 obtain⟨es,clock,hm⟩:=hm
 rw[h.other k (Array.getElem?_eq_some_iff.1 e).1 fun k=>by subst k;rw[hm]at e;cases e]
 exact e⟩
theorem KnIn.map{w:World}{B:Nat}{k:Tk}{al:Nat->Bool}(h:KnIn w B k al):∃es clock,w.heap[k.m]? =some (.map es clock):=by
 obtain⟨f,h1,_⟩:=h
 exact h1.isMap
theorem seq_allowed(hg:Glob w)(h:TkIn w k ps hs xs l works){B:Nat}(hB:B<=w.heap.size)(hk:KnIn w B k (allowF ps hs (rsOf xs) l works)){s:Nat}(hs':s<128):
  PureB Tryz.prog 53 #[.pointer (some k.p),.int .i64 (s:Int)] B w fun v w'=>v= .bool (allowF ps hs (rsOf xs) l works s)/\KnIn w' B k (allowF ps hs (rsOf xs) l works)/\But k.m w w':=by
 obtain⟨f,hm,hf⟩:=id hk
 have fin:∀(w':World)(x:Bool),Below w.heap.size w w'->x=allowF ps hs (rsOf xs) l works s->∃m1:Option Nat,CellsAt w' (k.p.add 5) [.map m1]/\RunOkU Tryz.prog (Instr.mapUpdate 90 (.map m1) (.int .i64 (s:Int)) (.bool x)) B [] w' fun w17=>Value.bool x= .bool (allowF ps hs (rsOf xs) l works s)/\KnIn w17 B k (allowF ps hs (rsOf xs) l works)/\But k.m w w17:=by
  intro w' x hw hx
  refine⟨_,(h.t.keep hw).cell 5 rfl,runOk_update (hm.below hw) mpB (by omega) (by omega) x (Nat.le_refl _) (Nat.le_trans hB hw.size) fun w17 m17 _ g17=>⟨by rw[hx],⟨_,m17,fun z y hz=> ?_⟩,(But.low hw).trans (But.grown g17)⟩⟩
  unfold putM at hz
  split at hz
  ·rename_i e
   have:z=s:=by omega
   subst this
   cases hz
   exact hx
  ·exact hf z y hz
 refine F.sequence_task_allowed.vcB _ _ _ _ hB _ ⟨_,h.t.cell 5 rfl,runOk_lookOk hm mpB (by omega) (by omega) ⟨fun h0=> ?_,fun h0=> ?_⟩⟩
 ·refine Pure.mono (seq_state hg h hs') ?_
  intro v w9 b9 hv
  cases e:stateF ps hs l works s with
  |none=>
   have hv:=hv.1 e
   subst hv
   refine⟨_,_,_,_,rfl,fun k=>(by cases k),fun _=>fin w9 false b9 ?_⟩
   unfold allowF
   rw[e]
  |some m=>
   obtain⟨A,n,c,hv,ho⟩:=hv.2 m e
   subst hv
   have hln:=ho.len
   rw[List.length_map]at hln
   have h36:=state_pos e
   refine⟨_,_,_,_,rfl,fun _=>⟨_,_,_,_,_,_,_,_,_,(h.t.keep b9).part 0 3,?_⟩,fun k=>by cases k⟩
   refine Pure.mono (stow_Keeps (hg.next b9) (h.p.keep b9) ho.sl hln ho.len_le (by omega)) ?_
   rintro v w15 b15 rfl
   refine⟨_,rfl,fin w15 _ (kP b9 b15) ?_⟩
   unfold allowF
   rw[e]
 ·obtain⟨x,hx⟩:=Option.isSome_iff_exists.1 (Bool.not_eq_false _|>.mp h0)
  rw[hx]
  exact⟨by rw[<-hf s x hx];rfl,hk,But.refl _ _⟩
end

theorem any_take{α:Type}{p:α->Bool}{l:List α}{j:Nat}(hj:j<l.length)(h:(l.take j).any p=false)(h1:p l[j]=false):(l.take (j+1)).any p=false:=by
 rw[List.take_add_one,List.getElem?_eq_getElem hj,List.any_append,h]
 simp[h1]
theorem any_at{α:Type}{p:α->Bool}{l:List α}{j:Nat}(hj:j<l.length)(h1:p l[j]=true):l.any p=true:=List.any_eq_true.2 ⟨_,List.getElem_mem hj,h1⟩
section
variable {w:World} {A0 A1 A2 A A3:Option Addr} {n0 c0 n1 c1 n2 c2 n c n3 c3:Nat} {ps:List Pa} {hs:List Ho} {xs:List Rm} {l works:List Sw}
def BeR(w0:World)(ps:List Pa)(hs:List Ho)(xs:List Rm)(l works:List Sw)(v:Value)(w':World):Prop:=
 (taskF ps hs (rsOf xs) l works≠0->v= .tuple #[.pointer none,.int .i64 (taskF ps hs (rsOf xs) l works)])/\
 (taskF ps hs (rsOf xs) l works=0->∃k:Tk,v= .tuple #[.pointer (some k.p),.int .i64 0]/\TkIn w' k ps hs xs l works/\KnIn w' w0.heap.size k (allowF ps hs (rsOf xs) l works))
theorem begin_L17(hg:Glob w)(hp:PrIn w A0 n0 A1 n1 A2 n2 c2 ps hs xs)(h:SlR w A 3 (l.map Sw.row))(hl:l.length=n)(hnc:n<=c)(hn:n<=40)(hwk:SlR w A3 3 (works.map Sw.row))(hlw:works.length=n3){b m:Nat}(hb:w.heap.size<=b)
  (hck:(checkR ps hs (rsOf xs)).2=0) (hke:keepsF ps hs (rsOf xs) l=true) (h6:n3<=6) (hpl:(works.any fun w=>decide (placeW ps hs w=none))=false):
  ∀(d j:Nat)(w':World),n3 - j=d->j<=n3->Below w.heap.size w w'->TkC w' ⟨b,m,A0,n0,c0,A1,n1,c1,A2,n2,c2,A3,n3,c3,none,0,0⟩->MpR w' w.heap.size 3 4 m (fun _=>none)->((works.take j).any fun w=>decide (w.units=0∨w.units< -9∨9<w.units))=false->
   F.sequence_begin.L17 A n c ⟨b,0,none⟩ A3 n3 c3 n3 j A0 n0 c0 A1 n1 c1 A2 n2 c2 w.heap.size w' (BeR w ps hs xs l works):=by
 obtain⟨_,hst,hr⟩:=keeps_right hke
 intro d
 induction d with
 |zero=>
  intro j w' hd hj hw ht hm ha
  rw[List.take_of_length_le (by omega)]at ha
  have h0:taskF ps hs (rsOf xs) l works=0:=by
   unfold taskF
   rw[if_neg (fun k=>k hck),if_neg (by rw[hke];decide),if_neg (by omega),if_neg (by rw[hpl];decide),if_neg (by rw[ha];decide)]
  refine F.sequence_begin.L17.step _ _ _ _ _ _ _ _ _ _ _ _ _ _ _ _ _ _ _ _ _ ⟨fun h=>by omega,fun _=> ?_⟩
  refine Pure.mono (cargo_Amounts (hg.next hw) (hp.keep hw).c (h.keep hw (Nat.le_refl _)) hl hnc (by omega)) ?_
  intro v w35 b35 hv
  obtain⟨A',N,rfl,ho,hN⟩:=hv.2 hst
  have hw35:=kP hw b35
  have ht35:=ht.keep b35
  have hm35:=hm.below b35
  have e:(⟨b,0,none⟩:Addr).add 4=⟨b,4,none⟩:=by rw[add_plain0]
  have hbw:b<w'.heap.size:=(Array.getElem?_eq_some_iff.1 ht).1
  refine⟨_,_,_,_,rfl,Tk.cs ⟨b,m,A0,n0,c0,A1,n1,c1,A2,n2,c2,A3,n3,c3,none,0,0⟩,114,?_⟩
  rw[e]
  refine⟨hb,rfl,ht35,by simp,rfl,fun w38 hw38=> ?_⟩
  have hb38:Below w.heap.size w w38:=hw35.trans (Wrote.belowR hw38 hb)
  have hmb:m≠b:=by
   obtain⟨es,cl,e1⟩:=hm35.isMap
   intro k
   subst k
   have:=ht35
   unfold TkC at this
   simp only at this
   rw[e1]at this
   cases this
  refine⟨fun k=>absurd h0 k,fun _=>⟨⟨b,m,A0,n0,c0,A1,n1,c1,A2,n2,c2,A3,n3,c3,A',N,N⟩,rfl,⟨?_,hp.keep hb38,hwk.keep hb38 (Nat.le_refl _),hlw,?_,task_ok h0,hN⟩,_,hm35.same (hw38.rest m hmb),fun s x k=>by cases k⟩⟩
  ·exact hw38.at_
  ·refine(ho.other fun a ha=>hw38.rest _ fun k=> ?_).sl
   have:=(ho.blk a ha).1
   have k:a.block=b:=k
   omega
 |succ d ih=>
  intro j w' hd hj hw ht hm ha
  have hjl:j<works.length:=by omega
  have e3:(j:Int)+1=((j+1:Nat):Int):=by omega
  obtain⟨hbb,ad,hA,hcell,_⟩:=(hwk.keep hw (Nat.le_refl _)).at_ (fun _=>rfl) hlw hjl
  have bad:(works[j].units=0∨works[j].units< -9∨9<works[j].units)->∀w1,BeR w ps hs xs l works (.tuple #[.pointer none,.int .i64 2]) w1:=by
   intro k w1
   have h2:taskF ps hs (rsOf xs) l works=2:=by
    unfold taskF
    rw[if_neg (fun k=>k hck),if_neg (by rw[hke];decide),if_neg (by omega),if_neg (by rw[hpl];decide),if_pos (any_at hjl (decide_eq_true k))]
   exact⟨fun _=>by rw[h2],fun k=>by rw[h2]at k;cases k⟩
  refine F.sequence_begin.L17.step _ _ _ _ _ _ _ _ _ _ _ _ _ _ _ _ _ _ _ _ _ ⟨fun _=>⟨hbb,ad,hA,_,_,_,hcell,fun k w1 _=>bad (.inl k) w1,fun k1=>⟨fun k w1 _=>bad (.inr (.inl k)) w1,fun k2=>⟨fun k w1 _=>bad (.inr (.inr k)) w1,fun k3=>⟨by simp only[inR];omega,fun w31 x31=> ?_⟩⟩⟩⟩,fun h=>by omega⟩
  rw[e3]
  exact ih (j+1) w31 (by omega) (by omega) (kE hw x31) (ext_nil x31 ht) (hm.ext x31) (any_take hjl ha (decide_eq_false (by omega)))
theorem seq_begin(hg:Glob w)(hp:PrIn w A0 n0 A1 n1 A2 n2 c2 ps hs xs)(h:SlR w A 3 (l.map Sw.row))(hl:l.length=n)(hnc:n<=c)(hn:n<=40)(hwk:SlR w A3 3 (works.map Sw.row))(hlw:works.length=n3):
  Pure Tryz.prog 47 #[.agg #[.slice A0 n0 c0,.slice A1 n1 c1,.slice A2 n2 c2],.slice A n c,.slice A3 n3 c3] w (BeR w ps hs xs l works):=by
 have out:∀(e:Int)(w':World),taskF ps hs (rsOf xs) l works=e->e≠0->BeR w ps hs xs l works (.tuple #[.pointer none,.int .i64 e]) w':=fun e w' h1 h2=>⟨fun _=>by rw[h1],fun k=>absurd (h1.symm.trans k) h2⟩
 refine F.sequence_begin.vc _ _ _ _ _ _ _ _ _ _ _ _ _ _ _ _ _ fun w1 x1=> ?_
 have hw:=k0 x1
 refine Pure.mono (stow_Check (hg.next hw) (hp.keep hw)) ?_
 rintro v w5 b5 rfl
 have hw:=kP hw b5
 refine⟨_,_,rfl,fun h1=>out 1 _ (by unfold taskF;rw[if_pos h1]) (by decide),fun h1=> ?_⟩
 refine Pure.mono (stow_Keeps (hg.next hw) (hp.keep hw) (h.keep hw (Nat.le_refl _)) hl hnc hn) ?_
 rintro v w8 b8 rfl
 have hw:=kP hw b8
 refine⟨_,rfl,fun h2=>out 11 _ (by unfold taskF;rw[if_neg h1,if_pos h2]) (by decide),fun h2=>⟨fun h3=>out 8 _ (by unfold taskF;rw[if_neg h1,if_neg h2,if_pos (by omega)]) (by decide),fun h3=> ?_⟩⟩
 have hke:=Bool.not_eq_false _|>.mp h2
 have h1':=Decidable.not_not.1 h1
 refine runOk_makeMap (tk:=3) (te:=4) hw.size fun w11 m11 b11=> ?_
 have hw11:=kP hw b11
 refine runOk_box _ _ hw11.size fun w12 hb12 b12 _=> ?_
 have hw12:=kP hw11 b12
 have key:∀(d j:Nat)(w':World),n3 - j=d->j<=n3->Below w.heap.size w w'->TkC w' ⟨w11.heap.size,w8.heap.size,A0,n0,c0,A1,n1,c1,A2,n2,c2,A3,n3,c3,none,0,0⟩->MpR w' w.heap.size 3 4 w8.heap.size (fun _=>none)->((works.take j).any fun w=>decide (placeW ps hs w=none))=false->
   F.sequence_begin.L10 A n c A3 n3 c3 ⟨w11.heap.size,0,none⟩ A3 n3 c3 n3 j A0 n0 c0 A1 n1 c1 A2 n2 c2 w.heap.size w' (BeR w ps hs xs l works):=by
  intro d
  induction d with
  |zero=>
   intro j w' hd hj hw ht hm ha
   rw[List.take_of_length_le (by omega)]at ha
   exact F.sequence_begin.L10.step _ _ _ _ _ _ _ _ _ _ _ _ _ _ _ _ _ _ _ _ _ _ _ _ ⟨fun h=>by omega,fun _=>begin_L17 hg hp h hl hnc hn hwk hlw hw11.size h1' hke (by omega) ha n3 0 w' rfl (by omega) hw ht hm rfl⟩
  |succ d ih=>
   intro j w' hd hj hw ht hm ha
   have hjl:j<works.length:=by omega
   have e3:(j:Int)+1=((j+1:Nat):Int):=by omega
   obtain⟨hbb,ad,hA,hcell,_⟩:=(hwk.keep hw (Nat.le_refl _)).at_ (fun _=>rfl) hlw hjl
   have bad:placeW ps hs works[j]=none->∀w1,BeR w ps hs xs l works (.tuple #[.pointer none,.int .i64 7]) w1:=by
    intro k w1
    exact out 7 _ (by unfold taskF;rw[if_neg h1,if_neg h2,if_neg (by omega),if_pos (any_at hjl (decide_eq_true k))]) (by decide)
   refine F.sequence_begin.L10.step _ _ _ _ _ _ _ _ _ _ _ _ _ _ _ _ _ _ _ _ _ _ _ _ ⟨fun _=>⟨hbb,ad,hA,_,_,_,hcell,fun w19 x19=> ?_⟩,fun h=>by omega⟩
   have hw19:=kE hw x19
   refine Pure.mono (seq_place (k:=⟨w11.heap.size,w8.heap.size,A0,n0,c0,A1,n1,c1,A2,n2,c2,A3,n3,c3,none,0,0⟩) (ext_nil x19 ht) (hp.keep hw19).c works[j]) ?_
   rintro v w23 b23 rfl
   refine⟨_,_,rfl,fun k1=>bad (by unfold placeW;rw[ixI_neg.1 k1]) _,fun k1=>⟨fun k2=>bad ?_ _,fun k2=>⟨by simp only[inR];omega,?_⟩⟩⟩
   ·unfold placeW
    rw[ixI_neg.1 k2]
    cases pix ps works[j].parcel<;>rfl
   ·rw[e3]
    refine ih (j+1) w23 (by omega) (by omega) (kP hw19 b23) (TkC.keep (ext_nil x19 ht) b23) ((hm.ext x19).below b23) (any_take hjl ha (decide_eq_false fun k=> ?_))
    unfold placeW at k
    cases e1:pix ps works[j].parcel with
    |none=>rw[e1]at k1;exact k1 (by simp[ixI])
    |some i=>
     cases e2:hix hs works[j].hold with
     |none=>rw[e2]at k2;exact k2 (by simp[ixI])
     |some i'=>rw[e1,e2]at k;cases k
 exact key n3 0 w12 rfl (by omega) hw12 hb12 ((m11.below b12).le hw.size) rfl

def StR(r:List Sw×Int)(B:Nat)(v:Value)(w':World):Prop:=∃A n c,v= .tuple #[.slice A n c,.int .i64 r.2]/\SlR w' A 3 (r.1.map Sw.row)/\r.1.length=n/\n<=c/\(r.1=[]∨OwnR w' B 39 A n c 3 (r.1.map Sw.row))
theorem seq_State(hg:Glob w)(hp:PrIn w A0 n0 A1 n1 A2 n2 c2 ps hs xs)(h:SlR w A 3 (l.map Sw.row))(hl:l.length=n)(hnc:n<=c)(hn:n<=40)(hwk:SlR w A3 3 (works.map Sw.row))(hlw:works.length=n3)(set:Int):
  Pure Tryz.prog 16 #[.agg #[.slice A0 n0 c0,.slice A1 n1 c1,.slice A2 n2 c2],.slice A n c,.slice A3 n3 c3,.int .i64 set] w (StR (statesF ps hs (rsOf xs) l works set) w.heap.size):=by
 have none_:∀(e:Int)(w':World),StR ([],e) w.heap.size (.tuple #[.slice none 0 0,.int .i64 e]) w':=fun e w'=>⟨_,_,_,rfl,.inl rfl,rfl,Nat.le_refl _,.inl rfl⟩
 refine F.sequence_State.vc _ _ _ _ _ _ _ _ _ _ _ _ _ _ _ _ _ _ fun w1 x1=> ?_
 have hw:=k0 x1
 refine Pure.mono (seq_begin (hg.next hw) (hp.keep hw) (h.keep hw (Nat.le_refl _)) hl hnc hn (hwk.keep hw (Nat.le_refl _)) hlw) ?_
 intro v w5 b5 hv
 have hw:=kP hw b5
 unfold statesF
 by_cases h0:taskF ps hs (rsOf xs) l works≠0
 ·rw[if_pos h0]
  have hv:=hv.1 h0
  subst hv
  exact⟨_,_,rfl,fun _=>none_ _ _,fun k=>absurd h0 k⟩
 ·rw[if_neg h0]
  have h0:=Decidable.not_not.1 h0
  obtain⟨k,hv,hk,_⟩:=hv.2 h0
  subst hv
  have hk3:=hk.lw
  have hk6:=hk.ok.n
  have h2:=pow64 _ hk6
  have h3:fullN works.length<64:=Nat.lt_of_lt_of_le (full_lt _) h2
  refine⟨_,_,rfl,fun q=>absurd rfl q,fun _=>⟨fun h1=> ?_,fun h1=> ?_⟩⟩
  ·rw[if_pos (.inl h1)]
   exact none_ _ _
  ·refine Pure.mono (seq_all hk.t (by omega)) ?_
   rintro v w8 b8 rfl
   have hw:=kP hw b8
   rw[<-hk3]
   refine⟨_,rfl,fun h2=> ?_,fun h2=> ?_⟩
   ·rw[if_pos (.inr h2)]
    exact none_ _ _
   ·rw[if_neg (by rintro(q|q);exact h1 q;exact h2 q)]
    obtain⟨s,rfl⟩:=Int.eq_ofNat_of_zero_le (show 0<=set by omega)
    refine Pure.mono (seq_state (hg.next hw) (hk.keep b8) (s:=s) (by omega)) ?_
    intro v w12 b12 hv
    rw[Int.toNat_natCast]
    cases e:stateF ps hs l works s with
    |none=>
     have hv:=hv.1 e
     subst hv
     exact⟨_,_,_,_,rfl,fun _=>none_ _ _,fun k=>absurd rfl k⟩
    |some m=>
     obtain⟨A',n',c',hv,ho⟩:=hv.2 m e
     subst hv
     refine⟨_,_,_,_,rfl,fun k=>(by cases k),fun _=>⟨A',n',c',rfl,ho.sl,?_,ho.len_le,.inr (ho.base hw.size)⟩⟩
     have:=ho.len
     rwa [List.length_map]at this
end

def ngS(s:Sw):Bool:=decide (s.units<0)
def stabS(l:List Sw):List Sw:=l.filter ngS++l.filter fun s=> !ngS s
theorem stab_len(l:List Sw):(stabS l).length=l.length:=by
 unfold stabS
 induction l with
 |nil=>rfl
 |cons x r ih=>
  rw[List.length_append]at ih
  cases h:ngS x<;>simp[h,<-ih]<;>omega
theorem stab_ins{l:List Sw}{x:Sw}{j:Nat}(hj:j<=l.length)(hd:∀y∈(stabS l).drop j,ngS x=true/\ngS y=false)(hl:j=0∨∃y,(stabS l)[j - 1]? =some y/\¬(ngS x=true/\ngS y=false)):
  (stabS l).take j++x::(stabS l).drop j=stabS (l++[x]):=by
 have hlen:=stab_len l
 have e:stabS (l++[x])=l.filter ngS++((if ngS x then[x]else[])++((l.filter fun s=> !ngS s)++if ngS x then[]else[x])):=by
  unfold stabS
  rw[List.filter_append,List.filter_append]
  cases h:ngS x<;>simp[h]
 rw[e]
 cases hx:ngS x with
 |false=>
  have h0:(stabS l).drop j=[]:=by
   cases hc:(stabS l).drop j with
   |nil=>rfl
   |cons y r=>
    rw[hc]at hd
    have:=(hd y (by simp)).1
    rw[hx]at this
    cases this
  have h1:(stabS l).take j=stabS l:=by
   have:=List.take_append_drop j (stabS l)
   rw[h0,List.append_nil]at this
   exact this
  rw[h0,h1]
  simp[stabS]
 |true=>
  have key:j=(l.filter ngS).length:=by
   rcases Nat.lt_trichotomy j (l.filter ngS).length with h|h|h
   ·exfalso
    have hm:(l.filter ngS)[j]∈(stabS l).drop j:=by
     unfold stabS
     rw[List.drop_append_of_le_length (by omega),List.drop_eq_getElem_cons h]
     exact List.mem_append_left _ List.mem_cons_self
    have h1:=(hd _ hm).2
    have h2:=(List.mem_filter.1 (List.getElem_mem h)).2
    rw[h1]at h2
    cases h2
   ·exact h
   ·exfalso
    rcases hl with h0|⟨y,hy,hn⟩
    ·omega
    ·unfold stabS at hy
     rw[List.getElem?_append_right (by omega)]at hy
     have h2:=(List.mem_filter.1 (List.mem_of_getElem? hy)).2
     exact hn ⟨hx,by simpa using h2⟩
  unfold stabS
  rw[key,List.take_left,List.drop_left]
  simp
theorem stab_work(f:Nat->Nat->Int)(ps:List Pa)(hs:List Ho):stabS (difG f ps hs)=workG f ps hs:=by
 unfold stabS workG
 congr 1
 refine List.filter_congr fun s hs'=> ?_
 obtain⟨k,i,h,p,_,_,hne,rfl⟩:=mem_dif.1 hs'
 unfold ngS
 simp only[<-decide_not,decide_eq_decide]
 omega
def betweenF(ps:List Pa)(hs:List Ho)(l m:List Sw):List Sw×Int:=
 if stowedF ps hs l≠0∨stowedF ps hs m≠0 then([],1)else if 6<(difG (difA ps hs l m) ps hs).length then([],8)else(workG (difA ps hs l m) ps hs,0)

theorem el_Ws:El Tryz.prog 30 44 3 24:=El.of (by kernel_rfl)
theorem swap_set{T D:List Sw}{x y:Sw}:((T++y::x::D).set (T.length+1) y).set T.length x=T++x::y::D:=by
 induction T with
 |nil=>rfl
 |cons a r ih=>
  show a::((r++y::x::D).set (r.length+1) y).set r.length x=a::_
  rw[ih]
  rfl
theorem blk_add(a:Addr)(k:Nat):a.block=(a.add k).block:=by unfold Addr.add;split<;>rfl
section
variable {w0:World} {B:Nat} {A:Option Addr} {n c:Nat} {l:List Sw} {f:Nat} {a k:Array Value}
theorem sort_L1(hlen:l.length=n)(hn:n<=20)(hcall:callable Tryz.prog f=true)
  (hf:∀w,Oth A w0 w->∀x y:Sw,Pure Tryz.prog f (a.toList++([x.val,y.val]:List Value)++k.toList).toArray w fun v _=>∃i:Int,v= .int .i64 i/\(i<0↔(ngS x=true/\ngS y=false))) {R:Value->World->Prop}
  (hR:∀w,Oth A w0 w->OwnR w B 44 A n c 3 ((stabS l).map Sw.row)->R (.tuple #[]) w):
  ∀(d i:Nat)(w:World),n+1 - i=d->1<=i->i<=n+1->Oth A w0 w->OwnR w B 44 A n c 3 ((stabS (l.take i)++l.drop i).map Sw.row)->F.slices_insertionSortCmpFunc_api_Work.L1 A n c 0 n f a k i B w R:=by
 intro d
 induction d with
 |zero=>
  intro i w hd h1 hi hw ho
  rw[List.take_of_length_le (by omega),List.drop_eq_nil_of_le (by omega),List.append_nil]at ho
  exact F.slices_insertionSortCmpFunc_api_Work.L1.step _ _ _ _ _ _ _ _ _ _ _ _ ⟨fun h=>by omega,fun _=>hR w hw ho⟩
 |succ d ih=>
  intro i w hd h1 hi hw ho
  have e3:(i:Int)+1=((i+1:Nat):Int):=by omega
  refine F.slices_insertionSortCmpFunc_api_Work.L1.step _ _ _ _ _ _ _ _ _ _ _ _ ⟨fun hlt=> ?_,fun hge=> ?_⟩
  ·have hil:i<l.length:=by omega
   have hpl:(stabS (l.take i)).length=i:=by rw[stab_len,List.length_take];omega
   have et:l.take (i+1)=l.take i++[l[i]]:=by rw[List.take_add_one,List.getElem?_eq_getElem hil];rfl
   have inner:∀(j:Nat)(w:World),j<=i->Oth A w0 w->OwnR w B 44 A n c 3 (((stabS (l.take i)).take j++l[i]::((stabS (l.take i)).drop j++l.drop (i+1))).map Sw.row)->(∀y∈(stabS (l.take i)).drop j,ngS l[i]=true/\ngS y=false)->
     F.slices_insertionSortCmpFunc_api_Work.L4 A n c 0 n f a k i j B w R:=by
    intro j
    induction j with
    |zero=>
     intro w hj hw ho hd'
     refine F.slices_insertionSortCmpFunc_api_Work.L4.step _ _ _ _ _ _ _ _ _ _ _ _ _ ⟨fun h=>by omega,fun _=>⟨by simp only[inR];omega,fun w30 x30=> ?_⟩⟩
     rw[e3]
     refine ih (i+1) w30 (by omega) (by omega) (by omega) (hw.trans (Oth.low (extAll x30))) ?_
     have:=stab_ins (l:=l.take i) (x:=l[i]) (j:=0) (by omega) hd' (.inl rfl)
     rw[et,<-this]
     simpa using ho.extNil x30
    |succ j ihj=>
     intro w hj hw ho hd'
     have hjp:j<(stabS (l.take i)).length:=by omega
     have htk:(stabS (l.take i)).take (j+1)=(stabS (l.take i)).take j++[(stabS (l.take i))[j]]:=by rw[List.take_add_one,List.getElem?_eq_getElem hjp];rfl
     have hdr:(stabS (l.take i)).drop j=(stabS (l.take i))[j]::(stabS (l.take i)).drop (j+1):=List.drop_eq_getElem_cons hjp
     generalize hy:(stabS (l.take i))[j]=y at*
     have eL:(stabS (l.take i)).take (j+1)++l[i]::((stabS (l.take i)).drop (j+1)++l.drop (i+1))=(stabS (l.take i)).take j++y::l[i]::((stabS (l.take i)).drop (j+1)++l.drop (i+1)):=by rw[htk];simp
     rw[eL]at ho
     have hTl:((stabS (l.take i)).take j).length=j:=by rw[List.length_take];omega
     generalize hT:(stabS (l.take i)).take j=T at*
     generalize hD:(stabS (l.take i)).drop (j+1)++l.drop (i+1)=D at*
     have hLl:(T++y::l[i]::D).length=n:=by have:=ho.len;rwa [List.length_map]at this
     have g1:(T++y::l[i]::D)[j+1]? =some l[i]:=by rw[List.getElem?_append_right (by omega),hTl];simp
     have g0:(T++y::l[i]::D)[j]? =some y:=by rw[List.getElem?_append_right (by omega),hTl];simp
     have ej:((j+1:Nat):Int) - 1=(j:Int):=by omega
     have rd:∀(w:World),OwnR w B 44 A n c 3 ((T++y::l[i]::D).map Sw.row)->∀(m:Nat)(z:Sw),(T++y::l[i]::D)[m]? =some z->(0<=(m:Int)/\(m:Int)<n)/\∃a,A=some a/\CellsAt w (a.add ((m:Int).toNat*3)) z.row:=by
      intro w ho m z hz
      obtain⟨hm,e⟩:=List.getElem?_eq_some_iff.1 hz
      obtain⟨hb,ad,hA,hc,_⟩:=ho.sl.at_ (fun _=>rfl) hLl hm
      rw[e]at hc
      exact⟨hb,ad,hA,hc⟩
     obtain⟨b1',a1,hA1,c1⟩:=rd w ho (j+1) _ g1
     obtain⟨b0',a0,hA0,c0'⟩:=rd w ho j _ g0
     refine F.slices_insertionSortCmpFunc_api_Work.L4.step _ _ _ _ _ _ _ _ _ _ _ _ _ ⟨fun _=>⟨b1',a1,hA1,_,_,_,c1,by simp only[inR];omega,?_⟩,fun h=>by omega⟩
     rw[ej]
     refine⟨b0',a0,hA0,_,_,_,c0',hcall,fun w9 x9=> ?_⟩
     have hw9:=hw.trans (Oth.low (extAll x9))
     have o9:=ho.extNil x9
     refine Pure.mono (hf w9 hw9 l[i] y) ?_
     rintro v w12 b12 ⟨z,rfl,hz⟩
     have hw12:=hw9.trans (Oth.low b12)
     have o12:=o9.below b12
     refine⟨_,rfl,fun hneg=> ?_,fun hpos=>⟨by simp only[inR];omega,?_⟩⟩
     ·have hz:=hz.1 hneg
      obtain⟨_,a5,hA5,c5⟩:=rd w12 o12 j _ g0
      obtain⟨_,a6,hA6,c6⟩:=rd w12 o12 (j+1) _ g1
      refine⟨by simp only[inR];omega,by simp only[inR];omega,b0',a5,hA5,_,_,_,c5,b1',a6,hA6,_,_,_,c6,b1',a6,hA6,fun w22 x22=> ?_⟩
      have o22:=o12.extNil x22
      have hw22:=hw12.trans (Oth.low (extAll x22))
      obtain⟨p1,p2,p3,cs,p4,p5,p6,p7,p8⟩:=o22.set0 (i:=((j+1:Nat):Int)) (by omega) (by omega) y.row l[i].row (by rw[Int.toNat_natCast,List.getElem?_map,g1];rfl) rfl
      rw[hA6]at p3
      cases p3
      refine⟨cs,_,p4,p5,p6,p7,rfl,fun w25 hw25=> ?_⟩
      have o25:=p8 w25 hw25
      rw[Int.toNat_natCast,<-List.map_set]at o25
      have h25:=hw22.trans (Oth.wrote hw25 ⟨_,hA6,blk_add _ _⟩)
      have hg25:((T++y::l[i]::D).set (j+1) y)[j]? =some y:=by rw[List.getElem?_set_ne (by omega),g0]
      obtain⟨q1,q2,q3,cs2,q4,q5,q6,q7,q8⟩:=o25.set0 (i:=(j:Int)) (by omega) (by omega) l[i].row y.row (by rw[Int.toNat_natCast,List.getElem?_map,hg25];rfl) rfl
      refine⟨b0',q2,q3,cs2,_,q4,q5,q6,q7,rfl,fun w29 hw29=>⟨by simp only[inR];omega,?_⟩⟩
      have o29:=q8 w29 hw29
      rw[Int.toNat_natCast,<-List.map_set]at o29
      have h29:=h25.trans (Oth.wrote hw29 ⟨_,q3,blk_add _ _⟩)
      have es:=swap_set (T:=T) (D:=D) (x:=l[i]) (y:=y)
      rw[hTl]at es
      rw[es]at o29
      refine ihj w29 (by omega) h29 ?_ ?_
      ·rw[hdr,<-hD]at*
       simpa using o29
      ·intro q hq
       rw[hdr]at hq
       rcases List.mem_cons.1 hq with rfl|hq
       ·exact hz
       ·exact hd' q hq
     ·have hz:¬(ngS l[i]=true/\ngS y=false):=fun q=>hpos (hz.2 q)
      rw[e3]
      refine ih (i+1) w12 (by omega) (by omega) (by omega) hw12 ?_
      have:=stab_ins (l:=l.take i) (x:=l[i]) (j:=j+1) (by rw[List.length_take];omega) hd' (.inr ⟨y,by rw[Nat.add_sub_cancel,List.getElem?_eq_getElem hjp,hy],hz⟩)
      rw[et,<-this]
      have e5:(stabS (l.take i)).take (j+1)++l[i]::(stabS (l.take i)).drop (j+1)++l.drop (i+1)=T++y::l[i]::D:=by rw[<-eL,<-hD];simp
      rw[e5]
      exact o12
   refine inner i w (Nat.le_refl _) hw ?_ ?_
   ·rw[List.take_of_length_le (by omega),List.drop_eq_nil_of_le (by omega),List.nil_append,<-List.drop_eq_getElem_cons hil]
    exact ho
   ·rw[List.drop_eq_nil_of_le (by omega)]
    simp
  ·rw[List.take_of_length_le (by omega),List.drop_eq_nil_of_le (by omega),List.append_nil]at ho
   exact hR w hw ho
end
theorem sortS{w:World}{B:Nat}(hB:B<=w.heap.size){A:Option Addr}{n c:Nat}{l:List Sw}(ho:OwnR w B 44 A n c 3 (l.map Sw.row))(hn:n<=6){f:Nat}{a k:Array Value}(hcall:callable Tryz.prog f=true)
  (hf:∀w',Oth A w w'->∀x y:Sw,Pure Tryz.prog f (a.toList++([x.val,y.val]:List Value)++k.toList).toArray w' fun v _=>∃i:Int,v= .int .i64 i/\(i<0↔(ngS x=true/\ngS y=false))):
  PureB Tryz.prog 43 #[.slice A n c,.func (.func f) a k] B w fun v w'=>v= .tuple #[]/\OwnR w' B 44 A n c 3 ((stabS l).map Sw.row)/\Oth A w w':=by
 have hlen:l.length=n:=by have:=ho.len;rwa [List.length_map]at this
 refine F.slices_SortStableFunc_api_Work_api_Work.vcB _ _ _ _ _ _ _ _ hB _ ?_
 refine PureB.mono (F.slices_stableCmpFunc_api_Work.vcB _ _ _ _ _ _ _ _ _ hB (fun v w'=>v= .tuple #[]/\OwnR w' B 44 A n c 3 ((stabS l).map Sw.row)/\Oth A w w') (F.slices_stableCmpFunc_api_Work.L2.step _ _ _ _ _ _ _ _ _ _ _ _ _ ⟨fun h=>by omega,fun _=> ?_⟩)) ?_
 ·refine PureB.mono (F.slices_insertionSortCmpFunc_api_Work.vcB _ _ _ _ _ _ _ _ _ _ hB (fun v w'=>v= .tuple #[]/\OwnR w' B 44 A n c 3 ((stabS l).map Sw.row)/\Oth A w w') ⟨by simp only[inR];omega,?_⟩) ?_
  ·refine sort_L1 (w0:=w) hlen (by omega) hcall hf (fun w' h1 h2=>⟨rfl,h2,h1⟩) n 1 w (by omega) (by omega) (by omega) Oth.refl ?_
   have e:stabS (l.take 1)++l.drop 1=l:=by
    cases l with
    |nil=>rfl
    |cons x r=>
     have:stabS [x]=[x]:=by unfold stabS;cases h:ngS x<;>simp[h]
     rw[show List.take 1 (x::r)=[x]from rfl,this]
     rfl
   rw[e]
   exact ho
  ·rintro v w4 b4 ⟨rfl,h1,h2⟩
   refine⟨fun _ _ _ h=>(by cases h),rfl,F.slices_stableCmpFunc_api_Work.L7.step _ _ _ _ _ _ _ _ _ _ _ ⟨fun h=>by omega,fun _=>⟨rfl,h1,h2⟩⟩⟩
 ·rintro v w2 b2 ⟨rfl,h1,h2⟩
  exact⟨fun _ _ _ h=>(by cases h),rfl,rfl,h1,h2⟩

def outD(f:Nat->Nat->Int)(ps:List Pa)(hs:List Ho)(k i:Nat):List Sw:=((List.range k).flatMap fun k=>(List.range ps.length).flatMap fun i=>difE f ps hs k i)++(List.range i).flatMap fun i=>difE f ps hs k i
theorem outD_end(f:Nat->Nat->Int)(ps:List Pa)(hs:List Ho)(k:Nat):outD f ps hs k ps.length=outD f ps hs (k+1) 0:=by
 unfold outD
 rw[List.range_succ,List.flatMap_append]
 simp
theorem outD_step(f:Nat->Nat->Int)(ps:List Pa)(hs:List Ho)(k i:Nat):outD f ps hs k (i+1)=outD f ps hs k i++difE f ps hs k i:=by
 unfold outD
 rw[List.range_succ,List.flatMap_append]
 simp
def WkR(r:List Sw×Int)(v:Value)(w':World):Prop:=∃A n c,v= .tuple #[.slice A n c,.int .i64 r.2]/\SlR w' A 3 (r.1.map Sw.row)/\r.1.length=n/\n<=c
theorem between_cmp{w:World}{p:Nat}{t:Nat}(h:w.heap[p]? =some (.cells [Value.func (.func 42) #[] #[]].toArray t (0,0)))(x y:Sw):
  Pure Tryz.prog 44 #[x.val,y.val,.pointer (some ⟨p,0,none⟩)] w fun v _=>∃i:Int,v= .int .i64 i/\(i<0↔(ngS x=true/\ngS y=false)):=by
 have inS':∀(z:Sw)(w:World),Pure Tryz.prog 42 #[z.val] w fun v _=>v= .int .i64 (if ngS z then 0 else 1):=by
  intro z w
  refine F.sequence_Between_c1.vc _ _ _ _ _ ⟨fun h w1 _=> ?_,fun h w1 _=> ?_⟩
  ·rw[if_pos (show ngS z=true from decide_eq_true h)]
  ·rw[if_neg (show ¬ngS z=true from by unfold ngS;simpa using h)]
 refine F.sequence_Between_c2.vc _ _ _ _ _ _ _ _ _ fun w1 x1=> ?_
 have hb:=heap_keep h (k0 x1)
 refine⟨_,_,_,box_cell0 hb rfl,_,_,_,box_cell0 hb rfl,by kernel_rfl,fun w4 x4=>Pure.mono (inS' x w4) ?_⟩
 rintro v w7 _ rfl
 refine⟨_,rfl,by kernel_rfl,Pure.mono (inS' y w7) ?_⟩
 rintro v w10 _ rfl
 refine⟨_,rfl,Pure.mono (cmp_int _ _ _) ?_⟩
 rintro v w13 _ rfl
 refine⟨_,rfl,_,rfl,?_⟩
 rw[cmpI_lt]
 cases ngS x<;>cases ngS y<;>simp
section
variable {w:World} {A0 A1 A A':Option Addr} {n0 c0 n1 c1 n c n' c':Nat} {ps:List Pa} {hs:List Ho} {l m:List Sw}
theorem seq_Between(hg:Glob w)(hc:CgIn w A0 n0 A1 n1 ps hs)(h:SlR w A 3 (l.map Sw.row))(hl:l.length=n)(hnc:n<=c)(hn:n<2147483648)(h':SlR w A' 3 (m.map Sw.row))(hm:m.length=n')(hnc':n'<=c')(hn':n'<2147483648):
  Pure Tryz.prog 12 #[.agg #[.slice A0 n0 c0,.slice A1 n1 c1],.slice A n c,.slice A' n' c'] w (WkR (betweenF ps hs l m)):=by
 have hn0:=hc.np
 have hn1:=hc.nh
 have hlp:=hc.lp
 have hlh:=hc.lh
 have bad:∀(e:Int)(w':World),WkR ([],e) (.tuple #[.slice none 0 0,.int .i64 e]) w':=fun e w'=>⟨_,_,_,rfl,.inl rfl,rfl,Nat.le_refl _⟩
 refine F.sequence_Between.vc _ _ _ _ _ _ _ _ _ _ _ _ _ _ fun w1 x1=> ?_
 have hw:=k0 x1
 refine Pure.mono (cargo_Amounts (hg.next hw) (hc.keep hw) (h.keep hw (Nat.le_refl _)) hl hnc hn) ?_
 intro v w5 b5 hv
 have hw5:=kP hw b5
 unfold betweenF
 have rest:∀(A2:Option Addr)(N:Nat)(e:Int)(w5:World),Below w.heap.size w w5->(e≠0↔stowedF ps hs l≠0)->(e=0->OwnR w5 w.heap.size 3 A2 N N 1 ((amountsF ps hs l).map iRow)/\N=n0*n1)->Pure Tryz.prog 41 #[.agg #[.slice A0 n0 c0,.slice A1 n1 c1],.slice A' n' c'] w5 fun r8 w9=>∃(A6:Option Addr)(n6 c6:Nat)(i7:Int),r8= .tuple #[.slice A6 n6 c6,.int .i64 i7]/\((e≠0->WkR (if stowedF ps hs l≠0∨stowedF ps hs m≠0 then(([],1):List Sw×Int)else if 6<(difG (difA ps hs l m) ps hs).length then([],8)else(workG (difA ps hs l m) ps hs,0)) (.tuple #[.slice none 0 0,.int .i64 1]) w9)/\(¬e≠0->((i7≠0->WkR (if stowedF ps hs l≠0∨stowedF ps hs m≠0 then(([],1):List Sw×Int)else if 6<(difG (difA ps hs l m) ps hs).length then([],8)else(workG (difA ps hs l m) ps hs,0)) (.tuple #[.slice none 0 0,.int .i64 1]) w9)/\(¬i7≠0->F.sequence_Between.L7 A2 N N A6 n6 c6 none 0 0 A1 n1 c1 n1 0 A0 n0 c0 A1 n1 c1 w.heap.size w9 (WkR (if stowedF ps hs l≠0∨stowedF ps hs m≠0 then(([],1):List Sw×Int)else if 6<(difG (difA ps hs l m) ps hs).length then([],8)else(workG (difA ps hs l m) ps hs,0))))))):=by
  intro A2 N e w5 hw5 he hown
  refine Pure.mono (cargo_Amounts (hg.next hw5) (hc.keep hw5) (h'.keep hw5 (Nat.le_refl _)) hm hnc' hn') ?_
  intro v w9 b9 hv
  have hw9:=kP hw5 b9
  by_cases h2:stowedF ps hs m≠0
  ·have hv:=hv.1 h2
   subst hv
   rw[if_pos (.inr h2)]
   exact⟨_,_,_,_,rfl,fun _=>bad 1 _,fun _=>⟨fun _=>bad 1 _,fun q=>absurd (by decide) q⟩⟩
  obtain⟨A6,N6,hv,o6,hN6⟩:=hv.2 (Decidable.not_not.1 h2)
  subst hv
  refine⟨_,_,_,_,rfl,fun q=>by rw[if_pos (.inl (he.1 q))];exact bad 1 _,fun q=>⟨fun q2=>absurd rfl q2,fun _=> ?_⟩⟩
  have h1:¬stowedF ps hs l≠0:=fun k=>q (he.2 k)
  rw[if_neg (by rintro(k|k);exact h1 k;exact h2 k)]
  obtain⟨o2,hN⟩:=hown (Decidable.not_not.1 q)
  have hrl:=stowed_right (Decidable.not_not.1 h1)
  have hrm:=stowed_right (Decidable.not_not.1 h2)
  have o2:=o2.below b9
  have o6:=o6.base hw5.size
  have hal:(amountsF ps hs l).length=N:=by rw[amounts_len,hlp,hlh,hN]
  have ham:(amountsF ps hs m).length=N6:=by rw[amounts_len,hlp,hlh,hN6]
  have hle:n0*n1<=7*7:=Nat.mul_le_mul hn0 hn1
  have key:∀(d j:Nat)(A8:Option Addr)(n8 c8:Nat)(w':World),n1 - j=d->j<=n1->Below w9.heap.size w9 w'->OwnR w' w9.heap.size 44 A8 n8 c8 3 ((outD (difA ps hs l m) ps hs j 0).map Sw.row)->n8<=7*j->
    F.sequence_Between.L7 A2 N N A6 N6 N6 A8 n8 c8 A1 n1 c1 n1 j A0 n0 c0 A1 n1 c1 w.heap.size w' (WkR (if 6<(difG (difA ps hs l m) ps hs).length then([],8)else(workG (difA ps hs l m) ps hs,0))):=by
   intro d
   induction d with
   |zero=>
    intro j A8 n8 c8 w' hd hj hw' ho hb
    have:j=hs.length:=by omega
    subst this
    have eD:outD (difA ps hs l m) ps hs hs.length 0=difG (difA ps hs l m) ps hs:=by unfold outD difG;simp
    rw[eD]at ho
    have hln:=ho.len
    rw[List.length_map]at hln
    refine F.sequence_Between.L7.step _ _ _ _ _ _ _ _ _ _ _ _ _ _ _ _ _ _ _ _ _ _ _ ⟨fun h=>by omega,fun _=>⟨fun k=> ?_,fun k w19 x19 p20 hp20 hb20=> ?_⟩⟩
    ·rw[if_pos (by omega)]
     exact bad 8 _
    ·rw[if_neg (by omega)]
     have hsz:=x19.below.size
     have o19:=ho.extNil x19
     refine PureB.mono (sortS (B:=w.heap.size) (a:= #[]) (k:= #[.pointer (some ⟨p20,0,none⟩)]) (by have:=hw9.size;have:=hw'.size;omega) (o19.base hw9.size) (by omega) (by kernel_rfl) fun w' hoth x y=>between_cmp ((hoth.2 p20 (Array.getElem?_eq_some_iff.1 hb20).1 fun a ha e=> ?_).trans hb20) x y) ?_
     ·obtain⟨cs,hcs⟩:=o19.cells a ha
      rw[<-e,hb20]at hcs
      cases hcs
     ·rintro v w22 b22 ⟨rfl,o22,hoth⟩
      refine⟨fun i ty cs hty e=>hoth.2 i (Array.getElem?_eq_some_iff.1 e).1 fun a ha q=> ?_,rfl,?_⟩
      ·obtain⟨cs',hcs⟩:=o19.cells a ha
       rw[<-q,e]at hcs
       cases hcs
       exact absurd hty (by decide)
      ·rw[stab_work]at o22
       have hl22:=o22.len
       rw[List.length_map]at hl22
       exact⟨_,_,_,rfl,o22.sl,hl22,o22.len_le⟩
   |succ d ih=>
    intro j A8 n8 c8 w' hd hj hw' ho hb
    have hjl:j<hs.length:=by omega
    have ej3:(j:Int)+1=((j+1:Nat):Int):=by omega
    have hww:=kP hw9 hw'
    obtain⟨hbh,ah,hAh,hch,_⟩:=((hc.keep hww).h).at_ (fun _=>rfl) hlh hjl
    refine F.sequence_Between.L7.step _ _ _ _ _ _ _ _ _ _ _ _ _ _ _ _ _ _ _ _ _ _ _ ⟨fun _=>⟨hbh,ah,hAh,_,_,_,_,_,_,_,hch,fun w18 x18=> ?_⟩,fun h=>by omega⟩
    have inner:∀(e i:Nat)(A8:Option Addr)(n8 c8:Nat)(w':World),n0 - i=e->i<=n0->Below w9.heap.size w9 w'->OwnR w' w9.heap.size 44 A8 n8 c8 3 ((outD (difA ps hs l m) ps hs j i).map Sw.row)->n8<=7*j+i->
      F.sequence_Between.L10 A2 N N A6 N6 N6 A8 n8 c8 j A1 n1 c1 n1 j A0 n0 c0 n0 i A0 n0 c0 A1 n1 c1 hs[j].id hs[j].name hs[j].room hs[j].most hs[j].x hs[j].y hs[j].z w.heap.size w' (WkR (if 6<(difG (difA ps hs l m) ps hs).length then([],8)else(workG (difA ps hs l m) ps hs,0))):=by
     intro e
     induction e with
     |zero=>
      intro i A8 n8 c8 w' he hi hw' ho hb
      have:i=ps.length:=by omega
      subst this
      rw[outD_end]at ho
      refine F.sequence_Between.L10.step _ _ _ _ _ _ _ _ _ _ _ _ _ _ _ _ _ _ _ _ _ _ _ _ _ _ _ _ _ _ _ _ _ _ _ _ ⟨fun h=>by omega,fun _=>⟨by simp only[inR];omega,?_⟩⟩
      rw[ej3]
      exact ih (j+1) A8 n8 c8 w' (by omega) (by omega) hw' ho (by omega)
     |succ e ihe=>
      intro i A8 n8 c8 w' he hi hw' ho hb
      have hil:i<ps.length:=by omega
      have ei3:(i:Int)+1=((i+1:Nat):Int):=by omega
      have hww:=kP hw9 hw'
      have hidx:i*n1+j<n0*n1:=idx_lt (by omega) (by omega)
      have hix:i*n1<=7*7:=Nat.mul_le_mul (by omega) hn1
      have e5:(i:Int)*(n1:Int)=((i*n1:Nat):Int):=by simp
      have e6:((i*n1:Nat):Int)+(j:Int)=((i*n1+j:Nat):Int):=by simp
      have ga:=amounts_get (l:=l) (List.getElem?_eq_getElem hil) (List.getElem?_eq_getElem hjl)
      have gb:=amounts_get (l:=m) (List.getElem?_eq_getElem hil) (List.getElem?_eq_getElem hjl)
      rw[hlh]at ga gb
      obtain⟨ka,ga⟩:=List.getElem?_eq_some_iff.1 ga
      obtain⟨kb,gb⟩:=List.getElem?_eq_some_iff.1 gb
      have sa:=amounts_small hrl _ (List.getElem_mem ka)
      have sb:=amounts_small hrm _ (List.getElem_mem kb)
      have hdif:difE (difA ps hs l m) ps hs j i=if(amountsF ps hs m)[i*n1+j] - (amountsF ps hs l)[i*n1+j]≠0 then[⟨hs[j].id,ps[i].id,(amountsF ps hs m)[i*n1+j] - (amountsF ps hs l)[i*n1+j]⟩]else[]:=by
       unfold difE difA
       rw[List.getElem?_eq_getElem hil,List.getElem?_eq_getElem hjl,fA_eq (List.getElem?_eq_getElem hjl) (List.getElem?_eq_getElem hil),fA_eq (List.getElem?_eq_getElem hjl) (List.getElem?_eq_getElem hil),ga,gb]
      have ra:∀w',Below w9.heap.size w9 w'->(0<=((i*n1+j:Nat):Int)/\((i*n1+j:Nat):Int)<N)/\∃a,A2=some a/\CellsAt w' (a.add (((i*n1+j:Nat):Int).toNat*1)) (iRow (amountsF ps hs l)[i*n1+j]):=fun w' hw'=>by
       obtain⟨b,a,hA,hc,_⟩:=((o2.below hw').sl).at_ (fun _=>rfl) hal ka
       exact⟨b,a,hA,hc⟩
      have rb:∀w',Below w9.heap.size w9 w'->(0<=((i*n1+j:Nat):Int)/\((i*n1+j:Nat):Int)<N6)/\∃a,A6=some a/\CellsAt w' (a.add (((i*n1+j:Nat):Int).toNat*1)) (iRow (amountsF ps hs m)[i*n1+j]):=fun w' hw'=>by
       obtain⟨b,a,hA,hc,_⟩:=((o6.below hw').sl).at_ (fun _=>rfl) ham kb
       exact⟨b,a,hA,hc⟩
      obtain⟨hbp,ap,hAp,hcp,_⟩:=((hc.keep hww).p).at_ (fun _=>rfl) hlp hil
      refine F.sequence_Between.L10.step _ _ _ _ _ _ _ _ _ _ _ _ _ _ _ _ _ _ _ _ _ _ _ _ _ _ _ _ _ _ _ _ _ _ _ _ ⟨fun _=>⟨hbp,ap,hAp,_,_,_,_,_,_,_,hcp,?_⟩,fun h=>by omega⟩
      rw[e5,e6]
      refine⟨by simp only[inR];omega,by simp only[inR];omega,fun w31 x31=> ?_⟩
      have hw31:=kP hw' (extAll x31)
      obtain⟨ba,aa,hAa,ca⟩:=ra w31 hw31
      obtain⟨bb,ab,hAb,cb⟩:=rb w31 hw31
      refine⟨ba,aa,hAa,_,ca,bb,ab,hAb,_,cb,fun hne w36 x36=> ?_,fun heq=>⟨by simp only[inR];omega,fun w48 x48=> ?_⟩⟩
      ·have hw36:=kP hw31 (extAll x36)
       obtain⟨ba,aa,hAa,ca⟩:=ra w36 hw36
       obtain⟨bb,ab,hAb,cb⟩:=rb w36 hw36
       refine⟨bb,ab,hAb,_,cb,ba,aa,hAa,_,ca,by simp only[inR];omega,fun w41 x41=> ?_⟩
       have hw41:=kP hw36 (extAll x41)
       have o41:=((ho.extNil x31).extNil x36).extNil x41
       refine app_row el_Ws (B:=w9.heap.size) hw9.size o41 (x:= .agg #[.int .i64 hs[j].id,.int .i64 ps[i].id,.int .i64 ((amountsF ps hs m)[i*n1+j] - (amountsF ps hs l)[i*n1+j])]) rfl (by simp[Value.cells,isCell]) hw41.size (by omega) (by decide) fun A' c' w2 o2' g2 _=>⟨by simp only[inR];omega,?_⟩
       rw[ei3]
       refine ihe (i+1) A' (n8+1) c' w2 (by omega) (by omega) (hw41.trans (below_grown g2 (fun q hq=> ?_) hw41.size)) ?_ (by omega)
       ·cases A8 with
        |none=>cases hq
        |some a8=>cases hq;exact(o41.blk a8 rfl).1
       ·rw[outD_step,hdif,if_pos (by omega),List.map_append]
        exact o2'
      ·rw[ei3]
       refine ihe (i+1) A8 n8 c8 w48 (by omega) (by omega) (kP hw31 (extAll x48)) ?_ (by omega)
       rw[outD_step,hdif,if_neg (by omega),List.append_nil]
       exact(ho.extNil x31).extNil x48
    exact inner n0 0 A8 n8 c8 w18 rfl (by omega) (kP hw' (extAll x18)) (ho.extNil x18) (by omega)
  exact key n1 0 none 0 0 w9 rfl (by omega) (Below.refl _ _) (by rw[show outD (difA ps hs l m) ps hs 0 0=[]from rfl];exact OwnR.nil) (by omega)
 by_cases h1:stowedF ps hs l≠0
 ·have hv:=hv.1 h1
  subst hv
  exact⟨_,_,_,_,rfl,rest none 0 1 w5 hw5 ⟨fun _=>h1,fun _=>by decide⟩ (fun q=>by cases q)⟩
 ·obtain⟨A2,N,hv,o2,hN⟩:=hv.2 (Decidable.not_not.1 h1)
  subst hv
  exact⟨_,_,_,_,rfl,rest A2 N 0 w5 hw5 ⟨fun q=>absurd rfl q,fun q=>absurd q h1⟩ (fun _=>⟨o2.base hw.size,hN⟩)⟩
end
end Go.Proofs.YtgfkeadgjkfomaaGreatDoor.B
