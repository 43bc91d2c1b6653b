/- Part 8 of the proofs that: without rules, and with holds that can take everything, any order of steps that only put in is one -/
import Derived.Test.YtgfkeadgjkfomaaGreatDoorH7
import Derived.Maps.OwnSet
import Derived.Maps.Views
import Derived.Maps.Keyed
import Derived.Carry
set_option linter.unusedVariables false
set_option linter.unusedSimpArgs false
namespace Go.Proofs.YtgfkeadgjkfomaaGreatDoor.B
open Go Go.RowKit Go.Proofs Go.Proofs.YtgfkeadgjkfomaaGreatDoor.Vc

def fewP(p:Pa):Bool:=decide (p.mass.size<=40/\p.vol.size<=40/\p.worth.size<=40/\p.name.size<=70)
def fewH(h:Ho):Bool:=decide (h.room.size<=40/\h.most.size<=40/\h.x.size<=40/\h.y.size<=40/\h.z.size<=40/\h.name.size<=70)
def fewC(ps:List Pa)(hs:List Ho):Bool:=ps.all fewP&&hs.all fewH&&decide (ps.length<=7/\hs.length<=7)
structure CgRaw (w:World) (A0:Option Addr) (n0:Nat) (A1:Option Addr) (n1:Nat) (ps:List Pa) (hs:List Ho):Prop where
 p:SlR w A0 7 (ps.map Pa.row)
 h:SlR w A1 7 (hs.map Ho.row)
 lp:ps.length=n0
 lh:hs.length=n1
 np:n0<9223372036854775808
 nh:n1<9223372036854775808
theorem CgRaw.keep{w w':World}{A0 A1:Option Addr}{n0 n1:Nat}{ps:List Pa}{hs:List Ho}(h:CgRaw w A0 n0 A1 n1 ps hs)(hb:Below w.heap.size w w'):CgRaw w' A0 n0 A1 n1 ps hs:=
 ⟨h.p.keep hb (Nat.le_refl _),h.h.keep hb (Nat.le_refl _),h.lp,h.lh,h.np,h.nh⟩
theorem CgRaw.few{w:World}{A0 A1:Option Addr}{n0 n1:Nat}{ps:List Pa}{hs:List Ho}(h:CgRaw w A0 n0 A1 n1 ps hs)(hf:fewC ps hs=true):CgIn w A0 n0 A1 n1 ps hs:=by
 unfold fewC at hf
 rw[Bool.and_eq_true,Bool.and_eq_true]at hf
 obtain⟨⟨h1,h2⟩,h3⟩:=hf
 have h3:=of_decide_eq_true h3
 refine⟨h.p,h.h,h.lp,h.lh,fun p hp=> ?_,fun x hx=> ?_,by have:=h.lp;omega,by have:=h.lh;omega⟩
 ·have:=of_decide_eq_true (List.all_eq_true.1 h1 p hp)
  exact⟨by unfold SmS;omega,by unfold SmS;omega,by unfold SmS;omega,by omega⟩
 ·have:=of_decide_eq_true (List.all_eq_true.1 h2 x hx)
  exact⟨by unfold SmS;omega,by unfold SmS;omega,by unfold SmS;omega,by unfold SmS;omega,by unfold SmS;omega,by omega⟩
theorem all_false{α:Type}{p:α->Bool}{l:List α}{x:α}(hx:x∈l)(h:p x=false):l.all p=false:=by
 rw[Bool.eq_false_iff]
 intro k
 rw[List.all_eq_true.1 k x hx]at h
 cases h
theorem take_all{α:Type}{p:α->Prop}{l:List α}{i:Nat}(hi:i<l.length)(h:∀x∈l.take i,p x)(hx:p l[i]):∀x∈l.take (i+1),p x:=by
 intro x hm
 rw[List.take_add_one,List.getElem?_eq_getElem hi]at hm
 rcases List.mem_append.1 hm with h'|h'
 ·exact h x h'
 ·simp only[Option.toList_some,List.mem_singleton]at h'
  subst h'
  exact hx
theorem few_L8{w0:World}{A0 A1:Option Addr}{n0 c0 n1 c1:Nat}{ps:List Pa}{hs:List Ho}(hc:CgRaw w0 A0 n0 A1 n1 ps hs)(hp:ps.all fewP=true){R:Value->World->Prop}(hR:∀w,R (.bool (fewC ps hs)) w):
  ∀(d i:Nat)(w:World),n1 - i=d->i<=n1->Below w0.heap.size w0 w->(∀x∈hs.take i,fewH x=true)->F.garboardref47_Few.L8 i A0 n0 c0 A1 n1 c1 w0.heap.size w R:=by
 have hlp:=hc.lp
 have hlh:=hc.lh
 have hnh:=hc.nh
 intro d
 induction d with
 |zero=>
  intro i w hd hi hw hx
  rw[List.take_of_length_le (by omega)]at hx
  have hh:hs.all fewH=true:=List.all_eq_true.2 hx
  refine F.garboardref47_Few.L8.step _ _ _ _ _ _ _ _ _ _ ⟨fun h=>by omega,fun _=>⟨fun h=> ?_,fun h=> ?_⟩⟩
  ·have:=hR w
   unfold fewC at this
   rw[hp,hh,Bool.true_and,Bool.true_and]at this
   have e:decide (((n1:Nat):Int)<=7)=decide (ps.length<=7/\hs.length<=7):=by rw[decide_eq_decide];omega
   rw[e]
   exact this
  ·have:=hR w
   unfold fewC at this
   rw[hp,hh,Bool.true_and,Bool.true_and,decide_eq_false (by omega)]at this
   exact this
 |succ d ih=>
  intro i w hd hi hw hx
  have hil:i<hs.length:=by omega
  have e3:(i:Int)+1=((i+1:Nat):Int):=by omega
  obtain⟨hb,a,hA,hcell,_⟩:=(hc.h.keep hw (Nat.le_refl _)).at_ (fun _=>rfl) hc.lh hil
  have bad:fewH hs[i]=false->∀w,R (.bool false) w:=fun h w=>by
   have:=hR w
   unfold fewC at this
   rwa [all_false (List.getElem_mem hil) h,Bool.and_false,Bool.false_and]at this
  refine F.garboardref47_Few.L8.step _ _ _ _ _ _ _ _ _ _ ⟨fun _=>⟨hb,a,hA,_,_,_,_,_,_,_,hcell,fun h w2 _=>bad (decide_eq_false (by omega)) w2,fun h1=>⟨fun h w2 _=>bad (decide_eq_false (by omega)) w2,fun h2=>⟨fun h w2 _=>bad (decide_eq_false (by omega)) w2,fun h3=>⟨fun h w2 _=>bad (decide_eq_false (by omega)) w2,fun h4=>⟨fun h w2 _=>bad (decide_eq_false (by omega)) w2,fun h5=>⟨fun h w2 _=>bad (decide_eq_false (by omega)) w2,fun h6=>⟨by simp only[inR];omega,fun w2 x2=> ?_⟩⟩⟩⟩⟩⟩⟩,fun h=>by omega⟩
  rw[e3]
  exact ih (i+1) w2 (by omega) (by omega) (kE hw x2) (take_all hil hx (decide_eq_true (by omega)))
theorem few_L2{w0:World}{A0 A1:Option Addr}{n0 c0 n1 c1:Nat}{ps:List Pa}{hs:List Ho}(hc:CgRaw w0 A0 n0 A1 n1 ps hs){R:Value->World->Prop}(hR:∀w,R (.bool (fewC ps hs)) w):
  ∀(d i:Nat)(w:World),n0 - i=d->i<=n0->Below w0.heap.size w0 w->(∀x∈ps.take i,fewP x=true)->F.garboardref47_Few.L2 i A0 n0 c0 A1 n1 c1 w0.heap.size w R:=by
 have hlp:=hc.lp
 have hlh:=hc.lh
 have hnp:=hc.np
 intro d
 induction d with
 |zero=>
  intro i w hd hi hw hx
  rw[List.take_of_length_le (by omega)]at hx
  exact F.garboardref47_Few.L2.step _ _ _ _ _ _ _ _ _ _ ⟨fun h=>by omega,fun _=>few_L8 hc (List.all_eq_true.2 hx) hR n1 0 w rfl (by omega) hw (by simp)⟩
 |succ d ih=>
  intro i w hd hi hw hx
  have hil:i<ps.length:=by omega
  have e3:(i:Int)+1=((i+1:Nat):Int):=by omega
  obtain⟨hb,a,hA,hcell,_⟩:=(hc.p.keep hw (Nat.le_refl _)).at_ (fun _=>rfl) hc.lp hil
  have bad:fewP ps[i]=false->∀w,R (.bool false) w:=fun h w=>by
   have:=hR w
   unfold fewC at this
   rwa [all_false (List.getElem_mem hil) h,Bool.false_and,Bool.false_and]at this
  refine F.garboardref47_Few.L2.step _ _ _ _ _ _ _ _ _ _ ⟨fun _=>⟨hb,a,hA,_,_,_,_,_,_,_,hcell,fun h w2 _=>bad (decide_eq_false (by omega)) w2,fun h1=>⟨fun h w2 _=>bad (decide_eq_false (by omega)) w2,fun h2=>⟨fun h w2 _=>bad (decide_eq_false (by omega)) w2,fun h3=>⟨fun h w2 _=>bad (decide_eq_false (by omega)) w2,fun h4=>⟨by simp only[inR];omega,fun w2 x2=> ?_⟩⟩⟩⟩⟩,fun h=>by omega⟩
  rw[e3]
  exact ih (i+1) w2 (by omega) (by omega) (kE hw x2) (take_all hil hx (decide_eq_true (by omega)))
theorem r47_Few{w:World}{A0 A1:Option Addr}{n0 c0 n1 c1:Nat}{ps:List Pa}{hs:List Ho}(hc:CgRaw w A0 n0 A1 n1 ps hs):
  Pure Tryz.prog 36 #[.agg #[.slice A0 n0 c0,.slice A1 n1 c1]] w fun v _=>v= .bool (fewC ps hs):=
 F.garboardref47_Few.vc _ _ _ _ _ _ _ _ fun w1 x1=>few_L2 hc (fun _=>rfl) n0 0 w1 rfl (by omega) (k0 x1) (by simp)

theorem el_Pas:El Tryz.prog 22 65 7 88:=El.of (by kernel_rfl)
theorem el_Hos:El Tryz.prog 23 61 7 104:=El.of (by kernel_rfl)
theorem rowP_len{v:List Pa}:∀r∈v.map Pa.row,r.length=7:=by
 intro r hr;obtain⟨x,_,rfl⟩:=List.mem_map.1 hr;rfl
theorem rowP_cell{v:List Pa}:∀r∈v.map Pa.row,∀u∈r,isCell u=true:=by
 intro r hr u hu
 obtain⟨x,_,rfl⟩:=List.mem_map.1 hr
 simp only[Pa.row,List.mem_cons,List.not_mem_nil,or_false]at hu
 rcases hu with rfl|rfl|rfl|rfl|rfl|rfl|rfl<;>rfl
theorem rowH_len{v:List Ho}:∀r∈v.map Ho.row,r.length=7:=by
 intro r hr;obtain⟨x,_,rfl⟩:=List.mem_map.1 hr;rfl
theorem rowH_cell{v:List Ho}:∀r∈v.map Ho.row,∀u∈r,isCell u=true:=by
 intro r hr u hu
 obtain⟨x,_,rfl⟩:=List.mem_map.1 hr
 simp only[Ho.row,List.mem_cons,List.not_mem_nil,or_false]at hu
 rcases hu with rfl|rfl|rfl|rfl|rfl|rfl|rfl<;>rfl
theorem rowS_len{v:List Sw}:∀r∈v.map Sw.row,r.length=3:=by
 intro r hr;obtain⟨x,_,rfl⟩:=List.mem_map.1 hr;rfl
theorem rowS_cell{v:List Sw}:∀r∈v.map Sw.row,∀u∈r,isCell u=true:=by
 intro r hr u hu
 obtain⟨x,_,rfl⟩:=List.mem_map.1 hr
 simp only[Sw.row,List.mem_cons,List.not_mem_nil,or_false]at hu
 rcases hu with rfl|rfl|rfl<;>rfl

structure CgFit (w:World) (A0:Option Addr) (n0:Nat) (A1:Option Addr) (n1:Nat) (ps:List Pa) (hs:List Ho):Prop where
 p:SlR w A0 7 (ps.map Pa.row)
 h:SlR w A1 7 (hs.map Ho.row)
 lp:ps.length=n0
 lh:hs.length=n1
 np:n0*88<=140737488355328
 nh:n1*104<=140737488355328
theorem CgFit.keep{w w':World}{A0 A1:Option Addr}{n0 n1:Nat}{ps:List Pa}{hs:List Ho}(h:CgFit w A0 n0 A1 n1 ps hs)(hb:Below w.heap.size w w'):CgFit w' A0 n0 A1 n1 ps hs:=
 ⟨h.p.keep hb (Nat.le_refl _),h.h.keep hb (Nat.le_refl _),h.lp,h.lh,h.np,h.nh⟩
theorem CgIn.fit{w:World}{A0 A1:Option Addr}{n0 n1:Nat}{ps:List Pa}{hs:List Ho}(h:CgIn w A0 n0 A1 n1 ps hs):CgFit w A0 n0 A1 n1 ps hs:=
 ⟨h.p,h.h,h.lp,h.lh,by have:=h.np;omega,by have:=h.nh;omega⟩
structure CpS (w0:World) (A0:Option Addr) (n0:Nat) (A1:Option Addr) (n1:Nat) (ps:List Pa) (hs:List Ho) (p h:Option (Option Addr×Nat×Nat)) (fp fh:Bool) (w:World):Prop where
 cg:CgFit w A0 n0 A1 n1 ps hs
 b:Below w0.heap.size w0 w
 p:∀x,p=some x->OwnR w w0.heap.size 65 x.1 x.2.1 x.2.2 7 (if fp then ps.map Pa.row else[])
 h:∀x,h=some x->OwnR w w0.heap.size 61 x.1 x.2.1 x.2.2 7 (if fh then hs.map Ho.row else[])
section
variable {w0:World} {A0 A1:Option Addr} {n0 c0 n1 c1:Nat} {ps:List Pa} {hs:List Ho} {p h:Option (Option Addr×Nat×Nat)} {fp fh:Bool} {w:World}
theorem CpS.next{w':World}(k:CpS w0 A0 n0 A1 n1 ps hs p h fp fh w)(hb:Below w.heap.size w w'):CpS w0 A0 n0 A1 n1 ps hs p h fp fh w':=
 ⟨k.cg.keep hb,kP k.b hb,fun x hx=>(k.p x hx).below hb,fun x hx=>(k.h x hx).below hb⟩
theorem CpS.ext{ts:List Nat}{G:World->Prop}(k:CpS w0 A0 n0 A1 n1 ps hs p h fp fh w)(hts:ts=[])(hG:∀w',CpS w0 A0 n0 A1 n1 ps hs p h fp fh w'->G w'):∀w',Ext w0.heap.size ts w w'->G w':=by
 intro w' x
 subst hts
 exact hG w' (k.next (ext_low x))
theorem CpS.bp{tys:List Nat}{K:Option Addr->Nat->Nat->World->Prop}(k:CpS w0 A0 n0 A1 n1 ps hs none h fp fh w)(hK:∀A c w',CpS w0 A0 n0 A1 n1 ps hs (some (A,0,c)) h false fh w'->K A 0 c w'):
  RunOk Tryz.prog (Instr.buildSlice 22 0 #[]) w.heap.size tys w fun r w1=>∃A n c,r= .slice A n c/\K A n c w1:=
 runOk_lit el_Pas [] (by simp) (by simp) (Nat.le_refl _) fun A c w' ho hb=>hK A c w' ⟨k.cg.keep hb,kP k.b hb,fun x hx=>(by cases hx;exact ho.base k.b.size),fun x hx=>(k.h x hx).below hb⟩
theorem CpS.bh{tys:List Nat}{K:Option Addr->Nat->Nat->World->Prop}(k:CpS w0 A0 n0 A1 n1 ps hs p none fp fh w)(hK:∀A c w',CpS w0 A0 n0 A1 n1 ps hs p (some (A,0,c)) fp false w'->K A 0 c w'):
  RunOk Tryz.prog (Instr.buildSlice 23 0 #[]) w.heap.size tys w fun r w1=>∃A n c,r= .slice A n c/\K A n c w1:=
 runOk_lit el_Hos [] (by simp) (by simp) (Nat.le_refl _) fun A c w' ho hb=>hK A c w' ⟨k.cg.keep hb,kP k.b hb,fun x hx=>(k.p x hx).below hb,fun x hx=>(by cases hx;exact ho.base k.b.size)⟩
theorem CpS.ap{tys:List Nat}{ty:Nat}{A:Option Addr}{n c:Nat}{K:Option Addr->Nat->Nat->World->Prop}(hc0:CgFit w0 A0 n0 A1 n1 ps hs)(hz:A0=none->c0=0)(ht:65∉tys)(k:CpS w0 A0 n0 A1 n1 ps hs (some (A,n,c)) h false fh w)(hK:∀A' n' c' w',CpS w0 A0 n0 A1 n1 ps hs (some (A',n',c')) h true fh w'->K A' n' c' w'):
  RunOk Tryz.prog (Builtin.append_ #[22,22] ty #[.slice A n c,.slice A0 n0 c0]) w0.heap.size tys w fun r w1=>∃A n c,r= .slice A n c/\K A n c w1:=by
 have hl:=k.cg.lp
 have hnp:=k.cg.np
 have ho:OwnR w w0.heap.size 65 A n c 7 []:=by simpa using k.p _ rfl
 have hn:n=0:=by have:=ho.len;simpa using this.symm
 subst hn
 refine app_partW el_Pas (Nat.le_refl _) ho k.cg.p (by simpa using hl) rowP_len rowP_cell hz k.b.size (by omega) (by omega) ht fun A' c' w' o hg hb=>hK _ _ _ _ ⟨hc0.keep (k.b.trans hb),k.b.trans hb,fun x hx=> ?_,fun x hx=> ?_⟩
 ·cases hx
  simpa using o
 ·refine(k.h x hx).other fun a ha=> ?_
  obtain⟨cs,hcs⟩:=(k.h x hx).cells a ha
  refine hg.block _ ((k.h x hx).blk a ha).2 fun e=> ?_
  cases A with
  |none=>simp[Value.ownBlock]at e
  |some a2=>
   simp[Value.ownBlock]at e
   obtain⟨cs2,hcs2⟩:=ho.cells a2 rfl
   exact two_types hcs hcs2 (by decide) (by first|exact e|exact e.symm)
theorem CpS.ah{tys:List Nat}{ty:Nat}{A:Option Addr}{n c:Nat}{K:Option Addr->Nat->Nat->World->Prop}(hc0:CgFit w0 A0 n0 A1 n1 ps hs)(hz:A1=none->c1=0)(ht:61∉tys)(k:CpS w0 A0 n0 A1 n1 ps hs p (some (A,n,c)) fp false w)(hK:∀A' n' c' w',CpS w0 A0 n0 A1 n1 ps hs p (some (A',n',c')) fp true w'->K A' n' c' w'):
  RunOk Tryz.prog (Builtin.append_ #[23,23] ty #[.slice A n c,.slice A1 n1 c1]) w0.heap.size tys w fun r w1=>∃A n c,r= .slice A n c/\K A n c w1:=by
 have hl:=k.cg.lh
 have hnp:=k.cg.nh
 have ho:OwnR w w0.heap.size 61 A n c 7 []:=by simpa using k.h _ rfl
 have hn:n=0:=by have:=ho.len;simpa using this.symm
 subst hn
 refine app_partW el_Hos (Nat.le_refl _) ho k.cg.h (by simpa using hl) rowH_len rowH_cell hz k.b.size (by omega) (by omega) ht fun A' c' w' o hg hb=>hK _ _ _ _ ⟨hc0.keep (k.b.trans hb),k.b.trans hb,fun x hx=> ?_,fun x hx=> ?_⟩
 ·refine(k.p x hx).other fun a ha=> ?_
  obtain⟨cs,hcs⟩:=(k.p x hx).cells a ha
  refine hg.block _ ((k.p x hx).blk a ha).2 fun e=> ?_
  cases A with
  |none=>simp[Value.ownBlock]at e
  |some a2=>
   simp[Value.ownBlock]at e
   obtain⟨cs2,hcs2⟩:=ho.cells a2 rfl
   exact two_types hcs hcs2 (by decide) (by first|exact e|exact e.symm)
 ·cases hx
  simpa using o
end
set_option maxRecDepth 20000 in
theorem r47_CopyO{w:World}{A0 A1:Option Addr}{n0 c0 n1 c1:Nat}{ps:List Pa}{hs:List Ho}(hc:CgFit w A0 n0 A1 n1 ps hs)(hz0:A0=none->c0=0)(hz1:A1=none->c1=0):
  Pure Tryz.prog 13 #[.agg #[.slice A0 n0 c0,.slice A1 n1 c1]] w fun v w'=>∃B0 d0 B1 d1,v= .agg #[.slice B0 n0 d0,.slice B1 n1 d1]/\OwnR w' w.heap.size 65 B0 n0 d0 7 (ps.map Pa.row)/\OwnR w' w.heap.size 61 B1 n1 d1 7 (hs.map Ho.row):=by
 refine F.garboardref47_Copy.vc _ _ _ _ _ _ _ _ fun w1 x1=> ?_
 have s1:CpS w A0 n0 A1 n1 ps hs none none false false w1:=⟨hc.keep (k0 x1),k0 x1,fun x hx=>(by cases hx),fun x hx=>(by cases hx)⟩
 have fin:∀{P H:Option Addr} {np nh cp ch:Nat} {w2:World},CpS w A0 n0 A1 n1 ps hs (some (P,np,cp)) (some (H,nh,ch)) true true w2->∀w3,Ext w.heap.size [25] w2 w3->
   ∃B0 d0 B1 d1,Value.agg #[.slice P np cp,.slice H nh ch]= .agg #[.slice B0 n0 d0,.slice B1 n1 d1]/\OwnR w3 w.heap.size 65 B0 n0 d0 7 (ps.map Pa.row)/\OwnR w3 w.heap.size 61 B1 n1 d1 7 (hs.map Ho.row):=by
  intro P H np nh cp ch w2 k w3 x3
  have hp:OwnR w2 w.heap.size 65 P np cp 7 (ps.map Pa.row):=k.p _ rfl
  have hh:OwnR w2 w.heap.size 61 H nh ch 7 (hs.map Ho.row):=k.h _ rfl
  have lp:=hp.len
  have lh:=hh.len
  simp only[List.length_map]at lp lh
  rw[hc.lp]at lp
  rw[hc.lh]at lh
  subst lp
  subst lh
  exact⟨_,_,_,_,rfl,hp.extT x3 (by decide),hh.extT x3 (by decide)⟩
 repeat' first
  |(with_reducible refine And.intro ?_ ?_)
  |exact fin (by assumption)
  |(with_reducible refine CpS.ext (by assumption) rfl fun _ _=> ?_)
  |(with_reducible refine CpS.bp (by assumption) fun _ _ _ _=> ?_)
  |(with_reducible refine CpS.bh (by assumption) fun _ _ _ _=> ?_)
  |(with_reducible refine CpS.ap hc hz0 ?_ (by assumption) fun _ _ _ _ _=> ?_; · decide)
  |(with_reducible refine CpS.ah hc hz1 ?_ (by assumption) fun _ _ _ _ _=> ?_; · decide)

def Oth(A:Option Addr)(w w':World):Prop:=w.heap.size<=w'.heap.size/\∀k,k<w.heap.size->(∀a,A=some a->k≠a.block)->w'.heap[k]? =w.heap[k]?
theorem Oth.refl{A:Option Addr}{w:World}:Oth A w w:=⟨Nat.le_refl _,fun _ _ _=>rfl⟩
theorem Oth.trans{A:Option Addr}{w w1 w2:World}(h:Oth A w w1)(k:Oth A w1 w2):Oth A w w2:=
 ⟨Nat.le_trans h.1 k.1,fun j hj ha=>(k.2 j (Nat.lt_of_lt_of_le hj h.1) ha).trans (h.2 j hj ha)⟩
theorem Oth.low{A:Option Addr}{w w1:World}(h:Below w.heap.size w w1):Oth A w w1:=⟨h.size,fun k hk _=>h.block k hk⟩
theorem Oth.wrote{A:Option Addr}{w w1:World}{b ty:Nat}{cs:List Value}(h:Wrote w w1 b ty cs)(ha:∃a,A=some a/\a.block=b):Oth A w w1:=
 ⟨by rw[h.size];exact Nat.le_refl _,fun k hk hka=>h.rest k fun e=>by obtain⟨a,h1,h2⟩:=ha;exact hka a h1 (e.trans h2.symm)⟩
theorem Oth.fresh{A:Option Addr}{w0 w w1:World}{b ty:Nat}{cs:List Value}(h:Wrote w w1 b ty cs)(k:Oth A w0 w)(hb:w0.heap.size<=b):Oth A w0 w1:=
 ⟨by rw[h.size];exact k.1,fun j hj ha=>(h.rest j (by omega)).trans (k.2 j hj ha)⟩

theorem index_stows{w0:World}{A:Option Addr}{n c:Nat}{l:List Sw}(hl:SlR w0 A 3 (l.map Sw.row))(hlen:l.length=n)(hn:n<2147483648){f:Nat}{a k:Array Value}(hcall:callable Tryz.prog f=true){p:Sw->Bool}
  (hf:∀w,Below w0.heap.size w0 w->∀x∈l,Pure Tryz.prog f (a.toList++([x.val]:List Value)++k.toList).toArray w fun v _=>v= .bool (p x)) {R:Value->World->Prop} {r:Int} (hR:∀w,R (.int .i64 r) w):
  ∀(d i:Nat)(w:World),n - i=d->i<=n->Below w0.heap.size w0 w->r=idxG p i (l.drop i)->F.slices_IndexFunc_api_Stow_api_Stow.L2 A n c f a k n i w0.heap.size w R:=by
 intro d
 induction d with
 |zero=>
  intro i w hd hi hw hr
  rw[List.drop_eq_nil_of_le (by omega)]at hr
  subst hr
  exact F.slices_IndexFunc_api_Stow_api_Stow.L2.step _ _ _ _ _ _ _ _ _ _ _ ⟨fun h=>by omega,fun _=>hR w⟩
 |succ d ih=>
  intro i w hd hi hw hr
  have hil:i<l.length:=by omega
  rw[List.drop_eq_getElem_cons hil,idxG]at hr
  obtain⟨hb,ad,hA,hcell,_⟩:=(hl.keep hw (Nat.le_refl _)).at_ (fun _=>rfl) hlen hil
  refine F.slices_IndexFunc_api_Stow_api_Stow.L2.step _ _ _ _ _ _ _ _ _ _ _ ⟨fun _=> ?_,fun h=>by omega⟩
  refine⟨hb,ad,hA,_,_,_,hcell,hcall,Pure.mono (hf w hw l[i] (List.getElem_mem hil)) ?_⟩
  rintro v w2 b2 rfl
  refine⟨_,rfl,fun h=> ?_,fun h=>⟨by simp only[inR];omega,?_⟩⟩
  ·rw[if_pos h]at hr
   subst hr
   exact hR w2
  ·rw[if_neg (by simp[h])]at hr
   have e3:(i:Int)+1=((i+1:Nat):Int):=by omega
   rw[e3]
   exact ih (i+1) w2 (by omega) (by omega) (kP hw b2) hr
theorem find_none{α:Type}{p:α->Bool}{l:List α}(h:l.findIdx? p=none):l.filter (fun x=> !p x)=l:=by
 rw[List.filter_eq_self]
 intro x hx
 have:=List.findIdx?_eq_none_iff.1 h x hx
 simp[this]
theorem find_some{α:Type}{p:α->Bool}{l:List α}{i:Nat}(h:l.findIdx? p=some i):i<l.length/\(l.take (i+1)).filter (fun x=> !p x)=l.take i:=by
 obtain⟨hi,hp,hlt⟩:=List.findIdx?_eq_some_iff_getElem.1 h
 refine⟨hi,?_⟩
 rw[List.take_add_one,List.getElem?_eq_getElem hi,List.filter_append]
 have e1:(l.take i).filter (fun x=> !p x)=l.take i:=by
  rw[List.filter_eq_self]
  intro x hx
  obtain⟨j,hj,rfl⟩:=List.mem_take_iff_getElem.1 hx
  have:=hlt j (by omega)
  simpa using this
 rw[e1]
 simp[hp]
theorem zeroSw:(Tryz.prog.info? 39).bind (·.zero)=some (.agg #[.int .i64 0,.int .i64 0,.int .i64 0]):=by kernel_rfl

theorem delf_loop{w0:World}{B:Nat}{A:Option Addr}{n c:Nat}{l:List Sw}(hlen:l.length=n)(hn:n<2147483648)(hnc:n<=c){f:Nat}{a k:Array Value}(hcall:callable Tryz.prog f=true){p:Sw->Bool}
  (hf:∀w,Oth A w0 w->∀x:Sw,Pure Tryz.prog f (a.toList++([x.val]:List Value)++k.toList).toArray w fun v _=>v= .bool (p x)) {R:Value->World->Prop}
  (hR:∀m w,Oth A w0 w->OwnR w B 39 A m c 3 ((l.filter fun x=> !p x).map Sw.row)->R (.slice A m c) w):
  ∀(d i j:Nat)(cur:List Sw)(w:World),n - j=d->j<=n->i<=j->cur.length=n->OwnR w B 39 A n c 3 (cur.map Sw.row)->cur.take i=(l.take j).filter (fun x=> !p x)->cur.drop j=l.drop j->Oth A w0 w->B<=w.heap.size->
   F.slices_DeleteFunc_api_Stow_api_Stow.L5 A n c f a k i j B w R:=by
 intro d
 induction d with
 |zero=>
  intro i j cur w hd hj hij hcl ho ht hdr hoth hBw
  have:j=n:=by omega
  subst this
  rw[List.take_of_length_le (l:=l) (by omega)]at ht
  refine F.slices_DeleteFunc_api_Stow_api_Stow.L5.step _ _ _ _ _ _ _ _ _ _ _ ⟨fun h=>by omega,fun _=>⟨by omega,?_⟩⟩
  have os:=ho.short (m:=i) (by omega)
  rw[<-List.map_take,ht]at os
  rw[Int.toNat_natCast]
  refine runOk_clear el_Sws zeroSw (by simp[Value.cells,isCell]) os hij hnc fun w2 o2 b2 k2=>⟨by omega,hR i w2 (hoth.trans ⟨b2.size,k2⟩) o2⟩
 |succ d ih=>
  intro i j cur w hd hj hij hcl ho ht hdr hoth hBw
  have hjl:j<l.length:=by omega
  have hjc:j<cur.length:=by omega
  have ej:cur[j]=l[j]:=by
   have h1:(cur.drop j)[0]? =(l.drop j)[0]? :=by rw[hdr]
   rw[List.getElem?_drop,List.getElem?_drop]at h1
   simpa[hjl,hjc]using h1
  have e3:(j:Int)+1=((j+1:Nat):Int):=by omega
  have e4:(i:Int)+1=((i+1:Nat):Int):=by omega
  have hdr':cur.drop (j+1)=l.drop (j+1):=by
   have:=congrArg (List.drop 1) hdr
   simpa[List.drop_drop]using this
  have ht1:l.take (j+1)=l.take j++[l[j]]:=by rw[List.take_add_one,List.getElem?_eq_getElem hjl];rfl
  obtain⟨hb,ad,hA,hcell,_⟩:=ho.sl.at_ (fun _=>rfl) hcl hjc
  refine F.slices_DeleteFunc_api_Stow_api_Stow.L5.step _ _ _ _ _ _ _ _ _ _ _ ⟨fun _=>⟨hb,ad,hA,_,_,_,hcell,?_⟩,fun h=>by omega⟩
  refine runOk_alloc 39 zeroSw hBw fun w2 hnew b2 hlt=> ?_
  refine⟨_,_,hBw,rfl,hnew,by simp[Value.cells],rfl,fun w3 hw3=> ?_⟩
  have hcells:w3.heap[w.heap.size]? =some (.cells (cur[j].row).toArray 39 (0,0)):=by
   have:=hw3.at_
   simpa[setCells,Value.cells]using this
  have hoth3:Oth A w0 w3:=Oth.fresh hw3 (hoth.trans (Oth.low b2)) hoth.1
  have hblk:∀x,A=some x->x.block<w.heap.size:=fun x hx=>(ho.blk x hx).2
  have o3:OwnR w3 B 39 A n c 3 (cur.map Sw.row):=(ho.below b2).other fun x hx=>hw3.rest _ (by have:=hblk x hx;show x.block≠w.heap.size;omega)
  refine⟨_,_,_,box_all hcells,hcall,Pure.mono (hf w3 hoth3 cur[j]) ?_⟩
  rintro v w4 b4 rfl
  have hoth4:=hoth3.trans (Oth.low (A:=A) b4)
  have o4:=o3.below b4
  have hB4:B<=w4.heap.size:=by have:=b4.size;have:=hw3.size;omega
  refine⟨_,rfl,fun hkeep=> ?_,fun hdel=>⟨by simp only[inR];omega,?_⟩⟩
  ·have hpj:p l[j]=false:=by rw[<-ej];exact hkeep
   obtain⟨g1,a2,hA2,cs,g2,g3,g4,g5,g6⟩:=o4.set0 (i:=(i:Int)) (by omega) (by omega) (cur[j].row) ((cur[i]'(by omega)).row) (by rw[Int.toNat_natCast,List.getElem?_map,List.getElem?_eq_getElem (by omega)];rfl) rfl
   refine⟨_,_,_,box_all (heap_keep hcells b4),g1,a2,hA2,cs,_,g2,g3,g4,g5,rfl,fun w5 hw5=>⟨by simp only[inR];omega,by simp only[inR];omega,?_⟩⟩
   have o5:=g6 w5 hw5
   rw[Int.toNat_natCast]at o5
   have hadd:(a2.add ((i:Int).toNat*3)).block=a2.block:=by unfold Addr.add;split<;>rfl
   rw[e3,e4]
   refine ih (i+1) (j+1) (cur.set i cur[j]) w5 (by omega) (by omega) (by omega) (by simp[hcl]) (by rw[List.map_set];exact o5) ?_ ?_ (hoth4.trans (Oth.wrote hw5 ⟨a2,hA2,hadd.symm⟩)) (by rw[hw5.size];exact hB4)
   ·rw[List.take_add_one,List.getElem?_set_self (by omega),List.take_set_of_le (by omega),ht,ht1,List.filter_append,ej]
    simp[hpj]
   ·rw[List.drop_set_of_lt (by omega)]
    exact hdr'
  ·have hpj:p l[j]=true:=by rw[<-ej];simpa using hdel
   rw[e3]
   refine ih i (j+1) cur w4 (by omega) (by omega) (by omega) hcl o4 ?_ hdr' hoth4 hB4
   rw[ht,ht1,List.filter_append]
   simp[hpj]
theorem DeleteFuncS{w:World}{B:Nat}(hB:B<=w.heap.size){A:Option Addr}{n c:Nat}{l:List Sw}(ho:OwnR w B 39 A n c 3 (l.map Sw.row))(hn:n<2147483648){f:Nat}{a k:Array Value}(hcall:callable Tryz.prog f=true){p:Sw->Bool}
  (hf:∀w',Oth A w w'->∀x:Sw,Pure Tryz.prog f (a.toList++([x.val]:List Value)++k.toList).toArray w' fun v _=>v= .bool (p x)):
  PureB Tryz.prog 139 #[.slice A n c,.func (.func f) a k] B w fun v w'=>∃m,v= .slice A m c/\OwnR w' B 39 A m c 3 ((l.filter fun x=> !p x).map Sw.row)/\Oth A w w':=by
 have hlen:l.length=n:=by have:=ho.len;simpa using this
 have hnc:=ho.len_le
 refine F.slices_DeleteFunc_api_Stow_api_Stow.vcB _ _ _ _ _ _ _ _ hB _ ?_
 refine Pure.mono (F.slices_IndexFunc_api_Stow_api_Stow.vc _ _ _ _ _ _ _ _ (index_stows ho.sl hlen hn hcall (fun w' hb x _=>hf w' (Oth.low hb) x) (R:=fun v _=>v= .int .i64 (idxG p 0 l)) (fun _=>rfl) n 0 w rfl (by omega) (Below.refl _ _) rfl)) ?_
 rintro v w2 b2 rfl
 have key:=idxG_find p l 0
 cases hx:l.findIdx? p with
 |none=>
  rw[hx]at key
  simp only at key
  rw[key]
  refine⟨_,rfl,fun _=>⟨n,rfl,?_,Oth.low b2⟩,fun h=>absurd rfl h⟩
  rw[find_none hx]
  exact ho.below b2
 |some i=>
  rw[hx]at key
  simp only[Nat.zero_add]at key
  rw[key]
  obtain⟨hil,hfi⟩:=find_some hx
  have e3:(i:Int)+1=((i+1:Nat):Int):=by omega
  refine⟨_,rfl,fun h=>by omega,fun _=>⟨by simp only[inR];omega,?_⟩⟩
  rw[e3]
  exact delf_loop (w0:=w) hlen hn hnc hcall hf (fun m w' hoth o=>⟨m,rfl,o,hoth⟩) (n - (i+1)) i (i+1) l w2 rfl (by omega) (by omega) hlen (ho.below b2) hfi.symm rfl (Oth.low b2) (Nat.le_trans hB b2.size)

def gP(ps:List Pa)(f:Pa->ByteArray)(id:Int):Rat:=match (pix ps id).bind fun i=>ps[i]? with|some p=>qR (f p)|none=>0
def gH(hs:List Ho)(f:Ho->ByteArray)(id:Int):Rat:=match (hix hs id).bind fun i=>hs[i]? with|some h=>qR (f h)|none=>0
def tP(ps:List Pa)(f:Pa->ByteArray)(s:Sw):Rat:=(s.units:Rat)*gP ps f s.parcel
def tH(ps:List Pa)(hs:List Ho)(f:Ho->ByteArray)(s:Sw):Rat:=(s.units:Rat)*gP ps Pa.mass s.parcel*gH hs f s.hold
abbrev ldV(a b c x y z:Rat):Value:= .agg #[.string (rS a),.string (rS b),.string (rS c),.string (rS x),.string (rS y),.string (rS z)]
def ldF(ps:List Pa)(hs:List Ho)(l:List Sw):Value:=ldV (sumR (tP ps Pa.mass) l) (sumR (tP ps Pa.vol) l) (sumR (tP ps Pa.worth) l) (sumR (tH ps hs Ho.x) l) (sumR (tH ps hs Ho.y) l) (sumR (tH ps hs Ho.z) l)
theorem gP_at{ps:List Pa}{id:Int}{i:Nat}{p:Pa}(h:pix ps id=some i)(e:ps[i]? =some p)(f:Pa->ByteArray):gP ps f id=qR (f p):=by
 unfold gP;rw[h,Option.bind_some,e]
theorem gH_at{hs:List Ho}{id:Int}{i:Nat}{p:Ho}(h:hix hs id=some i)(e:hs[i]? =some p)(f:Ho->ByteArray):gH hs f id=qR (f p):=by
 unfold gH;rw[h,Option.bind_some,e]
theorem sumR_snoc(f:Sw->Rat)(l:List Sw)(s:Sw):sumR f (l++[s])=sumR f l+f s:=by rw[sumR_append,sumR_one]
theorem pix_lt{ps:List Pa}{id:Int}{i:Nat}(h:pix ps id=some i):∃hi:i<ps.length,ps[i].id=id:=by
 obtain⟨p,e,k⟩:=pix_some h
 obtain⟨hi,rfl⟩:=List.getElem?_eq_some_iff.1 e
 exact⟨hi,k⟩
theorem hix_lt{hs:List Ho}{id:Int}{i:Nat}(h:hix hs id=some i):∃hi:i<hs.length,hs[i].id=id:=by
 obtain⟨p,e,k⟩:=hix_some h
 obtain⟨hi,rfl⟩:=List.getElem?_eq_some_iff.1 e
 exact⟨hi,k⟩
structure LdOk (ps:List Pa) (hs:List Ho) (l:List Sw):Prop where
 c:RightC ps hs
 known:∀s∈l,∃i k,pix ps s.parcel=some i/\hix hs s.hold=some k
 u:∀s∈l,1<=s.units/\s.units<=9
 n:l.length<=40
theorem LdOk.filter{ps:List Pa}{hs:List Ho}{l:List Sw}(h:LdOk ps hs l)(q:Sw->Bool):LdOk ps hs (l.filter q):=
 ⟨h.c,fun s hs'=>h.known s (List.mem_filter.1 hs').1,fun s hs'=>h.u s (List.mem_filter.1 hs').1,Nat.le_trans (List.length_filter_le _ _) h.n⟩
theorem units_mem{l:List Sw}(h:∀s∈l,1<=s.units){s:Sw}(hs:s∈l):s.units<=unitsF l s.parcel:=by
 obtain⟨a,b,rfl⟩:=List.append_of_mem hs
 rw[show a++s::b=a++([s]++b)from rfl,unitsF_append,unitsF_append,unitsF_one,if_pos rfl]
 have h1:=unitsF_nonneg (l:=a) (fun x hx=>h x (by simp[hx])) s.parcel
 have h2:=unitsF_nonneg (l:=b) (fun x hx=>h x (by simp[hx])) s.parcel
 omega
theorem RightS.ld{ps:List Pa}{hs:List Ho}{l:List Sw}(h:RightS ps hs l)(hn:l.length<=40):LdOk ps hs l:=by
 refine⟨h.c,h.known,fun s hs'=>⟨h.pos s hs',?_⟩,hn⟩
 obtain⟨i,k,hi,_⟩:=h.known s hs'
 obtain⟨p,e,hid⟩:=pix_some hi
 have hm:=List.mem_of_getElem? e
 have h1:=h.full p hm
 have h2:=units_mem h.pos hs'
 have h3:=(h.c.p1 p hm).2.1.2
 rw[hid]at h1
 omega
theorem sm_n{z:Int}(h1:1<=z)(h9:z<=9):Sm 1 (z:Rat):=Sm.ofInt (by omega) (by omega)
theorem sm_sum{f:Sw->Rat}{l:List Sw}(h:∀s∈l,Sm 2001 (f s)):Sm (2002*l.length+1) (sumR f l):=by
 induction l with
 |nil=>exact Sm.zero (by omega)
 |cons s r ih=>
  rw[show s::r=[s]++r from rfl,sumR_append,sumR_one]
  refine((h s (by simp)).add (ih fun x hx=>h x (by simp[hx]))).mono ?_
  simp
  omega

section
variable {w0:World} {A0 A1 A:Option Addr} {n0 c0 n1 c1 n c:Nat} {ps:List Pa} {hs:List Ho} {l:List Sw} {R:Value->World->Prop}
theorem LdOk.smP(h:LdOk ps hs l)(hc:CgIn w0 A0 n0 A1 n1 ps hs){s:Sw}(hs':s∈l):Sm 1000 (gP ps Pa.mass s.parcel)/\Sm 1000 (gP ps Pa.vol s.parcel)/\Sm 1000 (gP ps Pa.worth s.parcel):=by
 obtain⟨i,k,hi,_⟩:=h.known s hs'
 obtain⟨p,e,_⟩:=pix_some hi
 have hm:=List.mem_of_getElem? e
 have hv:=h.c.vp p hm
 have hsm:=hc.sp p hm
 unfold vP at hv
 simp only[Bool.and_eq_true]at hv
 rw[gP_at hi e,gP_at hi e,gP_at hi e]
 exact⟨vR_sm hv.1.1 hsm.mass,vR_sm hv.1.2 hsm.vol,vR_sm hv.2 hsm.worth⟩
theorem LdOk.smH(h:LdOk ps hs l)(hc:CgIn w0 A0 n0 A1 n1 ps hs){s:Sw}(hs':s∈l):Sm 1000 (gH hs Ho.x s.hold)/\Sm 1000 (gH hs Ho.y s.hold)/\Sm 1000 (gH hs Ho.z s.hold):=by
 obtain⟨_,i,_,hi⟩:=h.known s hs'
 obtain⟨p,e,_⟩:=hix_some hi
 have hm:=List.mem_of_getElem? e
 have hv:=h.c.vh p hm
 have hsm:=hc.sh p hm
 unfold vH at hv
 simp only[Bool.and_eq_true]at hv
 rw[gH_at hi e,gH_at hi e,gH_at hi e]
 exact⟨vR_sm hv.1.1.2 hsm.x,vR_sm hv.1.2 hsm.y,vR_sm hv.2 hsm.z⟩
theorem LdOk.smT(h:LdOk ps hs l)(hc:CgIn w0 A0 n0 A1 n1 ps hs){s:Sw}(hs':s∈l):
  (Sm 2001 (tP ps Pa.mass s)/\Sm 2001 (tP ps Pa.vol s)/\Sm 2001 (tP ps Pa.worth s))/\(Sm 2001 (tH ps hs Ho.x s)/\Sm 2001 (tH ps hs Ho.y s)/\Sm 2001 (tH ps hs Ho.z s)):=by
 obtain⟨a,b,d⟩:=h.smP hc hs'
 obtain⟨x,y,z⟩:=h.smH hc hs'
 have hn:=sm_n (h.u s hs').1 (h.u s hs').2
 exact⟨⟨(hn.mul a).mono (by omega),(hn.mul b).mono (by omega),(hn.mul d).mono (by omega)⟩,((hn.mul a).mul x).mono (by omega),((hn.mul a).mul y).mono (by omega),((hn.mul a).mul z).mono (by omega)⟩
theorem LdOk.smL(h:LdOk ps hs l)(hc:CgIn w0 A0 n0 A1 n1 ps hs):
  (Big (sumR (tP ps Pa.mass) l)/\Big (sumR (tP ps Pa.vol) l)/\Big (sumR (tP ps Pa.worth) l))/\(Big (sumR (tH ps hs Ho.x) l)/\Big (sumR (tH ps hs Ho.y) l)/\Big (sumR (tH ps hs Ho.z) l)):=by
 have hn:=h.n
 exact⟨⟨(sm_sum fun s hs'=>(h.smT hc hs').1.1).mono (by omega),(sm_sum fun s hs'=>(h.smT hc hs').1.2.1).mono (by omega),(sm_sum fun s hs'=>(h.smT hc hs').1.2.2).mono (by omega)⟩,
  (sm_sum fun s hs'=>(h.smT hc hs').2.1).mono (by omega),(sm_sum fun s hs'=>(h.smT hc hs').2.2.1).mono (by omega),(sm_sum fun s hs'=>(h.smT hc hs').2.2.2).mono (by omega)⟩
theorem LdOk.take(h:LdOk ps hs l)(i:Nat):LdOk ps hs (l.take i):=
 ⟨h.c,fun s hs'=>h.known s (List.mem_of_mem_take hs'),fun s hs'=>h.u s (List.mem_of_mem_take hs'),by have:=h.n;rw[List.length_take];omega⟩

theorem laden_L3 (hg : Glob w0) (hc : CgIn w0 A0 n0 A1 n1 ps hs) (h : SlR w0 A 3 (l.map Sw.row)) (hl : l.length = n) (hok : LdOk ps hs l) (t0 t1 t2 t3 t4 t5 : ByteArray) :
    ∀ (d i : Nat) (w : World), n - i = d → i ≤ n → Below w0.heap.size w0 w →
      F.cargo_laden.L3 A n c n i A0 n0 c0 A1 n1 c1 t0 t1 t2 t3 t4 t5 (rS (sumR (tP ps Pa.mass) (l.take i))) (rS (sumR (tP ps Pa.vol) (l.take i))) (rS (sumR (tP ps Pa.worth) (l.take i))) (rS (sumR (tH ps hs Ho.x) (l.take i))) (rS (sumR (tH ps hs Ho.y) (l.take i))) (rS (sumR (tH ps hs Ho.z) (l.take i))) w0.heap.size w fun v _ => v = ldF ps hs l := by
  intro d
  induction d with
  | zero =>
    intro i w hd hi hw
    refine F.cargo_laden.L3.step _ _ _ _ _ _ _ _ _ _ _ _ _ _ _ _ _ _ _ _ _ _ _ _ _ _ ⟨fun h => by omega, fun _ w2 _ => ?_⟩
    rw [List.take_of_length_le (by omega)]
    rfl
  | succ d ih =>
    intro i w hd hi hw
    have hil : i < l.length := by omega
    have hn40 := hok.n
    have e3 : (i : Int) + 1 = ((i + 1 : Nat) : Int) := by omega
    have et : l.take (i + 1) = l.take i ++ [l[i]] := by rw [List.take_add_one, List.getElem?_eq_getElem hil]; rfl
    have hmem : l[i] ∈ l := List.getElem_mem hil
    obtain ⟨ip, ih', hip, hih⟩ := hok.known l[i] hmem
    obtain ⟨hpl, hpid⟩ := pix_lt hip
    obtain ⟨hhl, hhid⟩ := hix_lt hih
    obtain ⟨⟨b1, b2, b3⟩, b4, b5, b6⟩ := (hok.take i).smL hc
    obtain ⟨m1, m2, m3⟩ := hok.smP hc hmem
    obtain ⟨m4, m5, m6⟩ := hok.smH hc hmem
    obtain ⟨⟨k1, k2, k3⟩, k4, k5, k6⟩ := hok.smT hc hmem
    have hu := hok.u l[i] hmem
    have hun := sm_n hu.1 hu.2
    have hunB : Big ((l[i].units : Int) : Rat) := hun.mono (by omega)
    have hvp := hok.c.vp _ (List.getElem_mem hpl)
    have hvh := hok.c.vh _ (List.getElem_mem hhl)
    unfold vP at hvp
    unfold vH at hvh
    simp only [Bool.and_eq_true] at hvp hvh
    have p1 : ps[ip].mass = rS (gP ps Pa.mass l[i].parcel) := by rw [gP_at hip (List.getElem?_eq_getElem hpl)]; exact vR_eq hvp.1.1
    have p2 : ps[ip].vol = rS (gP ps Pa.vol l[i].parcel) := by rw [gP_at hip (List.getElem?_eq_getElem hpl)]; exact vR_eq hvp.1.2
    have p3 : ps[ip].worth = rS (gP ps Pa.worth l[i].parcel) := by rw [gP_at hip (List.getElem?_eq_getElem hpl)]; exact vR_eq hvp.2
    have p4 : hs[ih'].x = rS (gH hs Ho.x l[i].hold) := by rw [gH_at hih (List.getElem?_eq_getElem hhl)]; exact vR_eq hvh.1.1.2
    have p5 : hs[ih'].y = rS (gH hs Ho.y l[i].hold) := by rw [gH_at hih (List.getElem?_eq_getElem hhl)]; exact vR_eq hvh.1.2
    have p6 : hs[ih'].z = rS (gH hs Ho.z l[i].hold) := by rw [gH_at hih (List.getElem?_eq_getElem hhl)]; exact vR_eq hvh.2
    have big : ∀ {x : Rat}, Sm 2001 x → Big x := fun h => h.mono (by omega)
    have bg : ∀ {x : Rat}, Sm 1000 x → Big x := fun h => h.mono (by omega)
    have fin : ∀ (w : World) (a b : Int), Below w0.heap.size w0 w →
        F.cargo_laden.J6 A n c n i A0 n0 c0 A1 n1 c1 t0 t1 t2 t3 t4 t5 (rS (sumR (tP ps Pa.mass) (l.take i))) (rS (sumR (tP ps Pa.vol) (l.take i))) (rS (sumR (tP ps Pa.worth) (l.take i))) (rS (sumR (tH ps hs Ho.x) (l.take i))) (rS (sumR (tH ps hs Ho.y) (l.take i))) (rS (sumR (tH ps hs Ho.z) (l.take i)))
          l[i].hold l[i].parcel l[i].units ps[ip].id a b ps[ip].name ps[ip].mass ps[ip].vol ps[ip].worth hs[ih'].x hs[ih'].y hs[ih'].z w0.heap.size w fun v _ => v = ldF ps hs l := by
      intro w a b hw
      rw [p1, p2, p3, p4, p5, p6]
      have next : ∀ w', Below w0.heap.size w0 w' → F.cargo_laden.L3 A n c n ((i : Int) + 1) A0 n0 c0 A1 n1 c1 t0 t1 t2 t3 t4 t5 (rS (sumR (tP ps Pa.mass) (l.take i) + tP ps Pa.mass l[i])) (rS (sumR (tP ps Pa.vol) (l.take i) + tP ps Pa.vol l[i])) (rS (sumR (tP ps Pa.worth) (l.take i) + tP ps Pa.worth l[i])) (rS (sumR (tH ps hs Ho.x) (l.take i) + tH ps hs Ho.x l[i])) (rS (sumR (tH ps hs Ho.y) (l.take i) + tH ps hs Ho.y l[i])) (rS (sumR (tH ps hs Ho.z) (l.take i) + tH ps hs Ho.z l[i])) w0.heap.size w' fun v _ => v = ldF ps hs l := by
        intro w' hw'
        have := ih (i + 1) w' (by omega) (by omega) hw'
        rw [et] at this
        simp only [sumR_snoc] at this
        rw [e3]
        exact this
      unfold tP tH at *
      refine F.cargo_laden.J6.step _ _ _ _ _ _ _ _ _ _ _ _ _ _ _ _ _ _ _ _ _ _ _ _ _ _ _ _ _ _ _ _ _ _ _ _ _ _ _ (Pure.mono (cargo_number (hg.next hw) (by omega) (by omega)) ?_)
      rintro v w1 h1 rfl
      have hw := kP hw h1; clear h1
      refine ⟨_, rfl, Pure.mono (cargo_mul (hg.next hw) hunB (bg m1)) ?_⟩
      rintro v w2 h1 rfl
      have hw := kP hw h1; clear h1
      refine ⟨_, rfl, fun w3 x3 => ?_⟩
      have hw := kE hw x3; clear x3
      refine Pure.mono (cargo_add (hg.next hw) b1 (big k1)) ?_
      rintro v w4 h1 rfl
      have hw := kP hw h1; clear h1
      refine ⟨_, rfl, Pure.mono (cargo_mul (hg.next hw) hunB (bg m2)) ?_⟩
      rintro v w5 h1 rfl
      have hw := kP hw h1; clear h1
      refine ⟨_, rfl, Pure.mono (cargo_add (hg.next hw) b2 (big k2)) ?_⟩
      rintro v w6 h1 rfl
      have hw := kP hw h1; clear h1
      refine ⟨_, rfl, Pure.mono (cargo_mul (hg.next hw) hunB (bg m3)) ?_⟩
      rintro v w7 h1 rfl
      have hw := kP hw h1; clear h1
      refine ⟨_, rfl, Pure.mono (cargo_add (hg.next hw) b3 (big k3)) ?_⟩
      rintro v w8 h1 rfl
      have hw := kP hw h1; clear h1
      refine ⟨_, rfl, fun w9 x9 => ?_⟩
      have hw := kE hw x9; clear x9
      refine Pure.mono (cargo_mul (hg.next hw) (big k1) (bg m4)) ?_
      rintro v w10 h1 rfl
      have hw := kP hw h1; clear h1
      refine ⟨_, rfl, Pure.mono (cargo_add (hg.next hw) b4 (big k4)) ?_⟩
      rintro v w11 h1 rfl
      have hw := kP hw h1; clear h1
      refine ⟨_, rfl, Pure.mono (cargo_mul (hg.next hw) (big k1) (bg m5)) ?_⟩
      rintro v w12 h1 rfl
      have hw := kP hw h1; clear h1
      refine ⟨_, rfl, Pure.mono (cargo_add (hg.next hw) b5 (big k5)) ?_⟩
      rintro v w13 h1 rfl
      have hw := kP hw h1; clear h1
      refine ⟨_, rfl, Pure.mono (cargo_mul (hg.next hw) (big k1) (bg m6)) ?_⟩
      rintro v w14 h1 rfl
      have hw := kP hw h1; clear h1
      refine ⟨_, rfl, Pure.mono (cargo_add (hg.next hw) b6 (big k6)) ?_⟩
      rintro v w15 h1 rfl
      have hw := kP hw h1; clear h1
      refine ⟨_, rfl, by simp only [inR]; omega, fun w16 x16 => ?_⟩
      exact next w16 (kE hw x16)
    clear ih
    obtain ⟨hb, a, hA, hcell, _⟩ := (h.keep hw (Nat.le_refl _)).at_ (fun _ => rfl) hl hil
    obtain ⟨hbp, ap, hAp, _⟩ := hc.p.at_ (fun _ => rfl) hc.lp hpl
    obtain ⟨hbh, ah, hAh, _⟩ := hc.h.at_ (fun _ => rfl) hc.lh hhl
    have cP : ∀ w, Below w0.heap.size w0 w → CellsAt w (ap.add ((ip : Int).toNat * 7)) (ps[ip].row) := fun w hw => by
      obtain ⟨_, a', hA', hc', _⟩ := (hc.p.keep hw (Nat.le_refl _)).at_ (fun _ => rfl) hc.lp hpl
      rw [hAp] at hA'
      cases hA'
      exact hc'
    have cH : ∀ w, Below w0.heap.size w0 w → CellsAt w ((ah.add ((ih' : Int).toNat * 7)).add 4) [.string hs[ih'].x, .string hs[ih'].y, .string hs[ih'].z] := fun w hw => by
      obtain ⟨_, a', hA', hc', _⟩ := (hc.h.keep hw (Nat.le_refl _)).at_ (fun _ => rfl) hc.lh hhl
      rw [hAh] at hA'
      cases hA'
      exact cells_part hc' 4 3
    refine F.cargo_laden.L3.step _ _ _ _ _ _ _ _ _ _ _ _ _ _ _ _ _ _ _ _ _ _ _ _ _ _ ⟨fun _ => ⟨hb, a, hA, _, _, _, hcell, fun w6 x6 => ?_⟩, fun h => by omega⟩
    have hw6 := kE hw x6
    have par : ∀ w, Below w0.heap.size w0 w → Pure Tryz.prog 62 #[.agg #[.slice A0 n0 c0, .slice A1 n1 c1], .int .i64 l[i].parcel] w fun v _ => v = .int .i64 (ip : Int) := fun w hw => by
      have := cargo_parcel (c0 := c0) (c1 := c1) (hc.keep hw) l[i].parcel
      rw [hip] at this
      exact this
    have hol : ∀ w, Below w0.heap.size w0 w → Pure Tryz.prog 63 #[.agg #[.slice A0 n0 c0, .slice A1 n1 c1], .int .i64 l[i].hold] w fun v _ => v = .int .i64 (ih' : Int) := fun w hw => by
      have := cargo_hold (c0 := c0) (c1 := c1) (hc.keep hw) l[i].hold
      rw [hih] at this
      exact this
    have leafA : ∀ (w : World), Below w0.heap.size w0 w → ∃ s25 s26 s27 : ByteArray, CellsAt w ((ah.add ((ih' : Int).toNat * 7)).add 4) [.string s25, .string s26, .string s27] ∧ ∀ (ts : List Nat) w28, Ext w0.heap.size ts w w28 → F.cargo_laden.J6 A n c n i A0 n0 c0 A1 n1 c1 t0 t1 t2 t3 t4 t5 (rS (sumR (tP ps Pa.mass) (l.take i))) (rS (sumR (tP ps Pa.vol) (l.take i))) (rS (sumR (tP ps Pa.worth) (l.take i))) (rS (sumR (tH ps hs Ho.x) (l.take i))) (rS (sumR (tH ps hs Ho.y) (l.take i))) (rS (sumR (tH ps hs Ho.z) (l.take i)))
          l[i].hold l[i].parcel l[i].units ps[ip].id ps[ip].units ps[ip].cls ps[ip].name ps[ip].mass ps[ip].vol ps[ip].worth s25 s26 s27 w0.heap.size w28 fun v _ => v = ldF ps hs l :=
      fun w hw => ⟨_, _, _, cH w hw, fun ts w28 x => fin w28 _ _ (kE hw x)⟩
    have leaf2 : ∀ (ts ts' : List Nat) (w : World), Below w0.heap.size w0 w → ∀ w24, Ext w0.heap.size ts w w24 → ∃ s25 s26 s27 : ByteArray, CellsAt w24 ((ah.add ((ih' : Int).toNat * 7)).add 4) [.string s25, .string s26, .string s27] ∧ ∀ w28, Ext w0.heap.size ts' w24 w28 → F.cargo_laden.J6 A n c n i A0 n0 c0 A1 n1 c1 t0 t1 t2 t3 t4 t5 (rS (sumR (tP ps Pa.mass) (l.take i))) (rS (sumR (tP ps Pa.vol) (l.take i))) (rS (sumR (tP ps Pa.worth) (l.take i))) (rS (sumR (tH ps hs Ho.x) (l.take i))) (rS (sumR (tH ps hs Ho.y) (l.take i))) (rS (sumR (tH ps hs Ho.z) (l.take i)))
          l[i].hold l[i].parcel l[i].units ps[ip].id ps[ip].units ps[ip].cls ps[ip].name ps[ip].mass ps[ip].vol ps[ip].worth s25 s26 s27 w0.heap.size w28 fun v _ => v = ldF ps hs l :=
      fun ts ts' w hw w24 x => by
        obtain ⟨s1, s2, s3, e, f⟩ := leafA w24 (kE hw x)
        exact ⟨s1, s2, s3, e, fun w28 x28 => f ts' w28 x28⟩
    clear fin
    refine ⟨fun w7 x7 => ?_, fun w55 x55 => ?_⟩
    · have hw7 := kE hw6 x7
      refine Pure.mono (par w7 hw7) ?_
      rintro v w10 h10 rfl
      have hw10 := kP hw7 h10
      refine ⟨_, rfl, hbp, ap, hAp, _, _, _, _, _, _, _, cP w6 hw6, fun w19 x19 => ?_, fun w34 x34 => ?_⟩
      · have hw19 := kE hw10 x19
        refine Pure.mono (hol w19 hw19) ?_
        rintro v w22 h22 rfl
        have hw22 := kP hw19 h22
        exact ⟨_, rfl, hbh, ah, hAh, leaf2 _ _ w22 hw22, leaf2 _ _ w22 hw22⟩
      · have hw34 := kE hw10 x34
        refine Pure.mono (hol w34 hw34) ?_
        rintro v w37 h37 rfl
        have hw37 := kP hw34 h37
        exact ⟨_, rfl, ⟨hbh, ah, hAh, leaf2 _ _ w37 hw37, leaf2 _ _ w37 hw37⟩, hbh, ah, hAh, leaf2 _ _ w37 hw37⟩
    · have hw55 := kE hw6 x55
      refine Pure.mono (par w55 hw55) ?_
      rintro v w58 h58 rfl
      have hw58 := kP hw55 h58
      refine ⟨_, rfl, hbp, ap, hAp, _, _, _, _, _, _, _, cP w6 hw6, fun w67 x67 => ?_⟩
      have hw67 := kE hw58 x67
      refine Pure.mono (hol w67 hw67) ?_
      rintro v w70 h70 rfl
      have hw70 := kP hw67 h70
      exact ⟨_, rfl, hbh, ah, hAh, leaf2 _ _ w70 hw70, leaf2 _ _ w70 hw70⟩
theorem cargo_laden(hg:Glob w0)(hc:CgIn w0 A0 n0 A1 n1 ps hs)(h:SlR w0 A 3 (l.map Sw.row))(hl:l.length=n)(hok:LdOk ps hs l):
  Pure Tryz.prog 103 #[.agg #[.slice A0 n0 c0,.slice A1 n1 c1],.slice A n c] w0 fun v _=>v=ldF ps hs l:=by
 refine F.cargo_laden.vc _ _ _ _ _ _ _ _ _ _ _ fun w1 x1=> ?_
 have:=laden_L3 (c:=c) (c0:=c0) (c1:=c1) hg hc h hl hok (⟨#[]⟩) (⟨#[]⟩) (⟨#[]⟩) (⟨#[]⟩) (⟨#[]⟩) (⟨#[]⟩) n 0 w1 rfl (by omega) (k0 x1)
 simp only[List.take_zero,sumR_nil,<-s0]at this
 exact this
end

theorem CloneS{w:World}{A:Option Addr}{n c:Nat}{l:List Sw}(h:SlR w A 3 (l.map Sw.row))(hlen:l.length=n)(hn:n<=1000000):
  Pure Tryz.prog 14 #[.slice A n c] w fun v w'=>∃A' c',v= .slice A' n c'/\OwnR w' w.heap.size 39 A' n c' 3 (l.map Sw.row):=by
 refine F.slices_Clone_api_Stow_api_Stow.vc _ _ _ _ _ ⟨fun hA=> ?_,fun hA=> ?_⟩
 ·subst hA
  have:=h.none_nil
  simp at this
  subst this
  simp at hlen
  subst hlen
  exact⟨none,0,rfl,OwnR.nil⟩
 ·obtain⟨a,rfl⟩:=Option.ne_none_iff_exists'.1 hA
  refine runOk_lit el_Sws [] (by simp) (by simp) (Nat.le_refl _) fun A2 c2 w2 ho b2=> ?_
  refine app_rows el_Sws (Nat.le_refl _) (by simpa using ho) (h.below b2) (by simpa using hlen) (fun r hr=>by obtain⟨s,_,rfl⟩:=List.mem_map.1 hr;rfl) (fun r hr=>by obtain⟨s,_,rfl⟩:=List.mem_map.1 hr;intro u hu;simp[Sw.row]at hu;rcases hu with rfl|rfl|rfl<;>rfl) b2.size (by simp;omega) (by simp) fun A' c' w3 o3 _ b3=> ?_
  simp only[List.length_nil,Nat.zero_add,List.nil_append]at o3⊢
  exact⟨A',c',rfl,o3⟩
def inS(l:List Sw)(id:Int):List Sw:=l.filter fun s=>decide (s.hold=id)
theorem cargo_in{w:World}{A:Option Addr}{n c:Nat}{l:List Sw}(h:SlR w A 3 (l.map Sw.row))(hlen:l.length=n)(hn:n<=1000000)(id:Int):
  Pure Tryz.prog 104 #[.slice A n c,.int .i64 id] w fun v w'=>∃A' m c',v= .slice A' m c'/\SlR w' A' 3 ((inS l id).map Sw.row)/\(inS l id).length=m:=by
 refine F.cargo_in.vc _ _ _ _ _ _ fun w1 x1=> ?_
 have hw1:=k0 x1
 refine Pure.mono (CloneS (h.keep hw1 (Nat.le_refl _)) hlen hn) ?_
 rintro v w4 b4 ⟨A',c',rfl,ho⟩
 refine⟨_,_,_,rfl,fun p5 hp5 hbox=> ?_⟩
 have hw4:=kP hw1 b4
 have hne:∀a,A'=some a->p5≠a.block:=fun a ha e=>by
  obtain⟨cs,hcs⟩:=ho.cells a ha
  rw[<-e,hbox]at hcs
  simp at hcs
 have hlt:p5<w4.heap.size:=(Array.getElem?_eq_some_iff.1 hbox).1
 refine PureB.mono (DeleteFuncS (p:=fun s=>decide (s.hold≠id)) hw4.size (ho.base hw1.size) (by omega) (by kernel_rfl) fun w' hoth x=> ?_) ?_
 ·refine F.cargo_in_c1.vc _ _ _ _ _ _ fun w5 x5=>⟨_,box_all (ty:=3) ?_,rfl⟩
  exact(k0 x5).block p5 (Nat.lt_of_lt_of_le hlt hoth.1)|>.trans ((hoth.2 p5 hlt hne).trans hbox)
 ·rintro v w8 b8 ⟨m,rfl,o8,_⟩
  refine⟨fun _ _ _ ht=>(by cases ht),_,_,_,rfl,_,_,_,rfl,?_⟩
  have e:(l.filter fun x=> !(decide (x.hold≠id)))=inS l id:=by
   unfold inS
   refine List.filter_congr fun s _=> ?_
   by_cases h:s.hold=id<;>simp[h]
  rw[e]at o8
  exact⟨o8.sl,by simpa using o8.len⟩

abbrev ld0:Value:= .agg #[.string ⟨#[]⟩,.string ⟨#[]⟩,.string ⟨#[]⟩,.string ⟨#[]⟩,.string ⟨#[]⟩,.string ⟨#[]⟩]
def heldV(ps:List Pa)(hs:List Ho)(l:List Sw)(id:Int):Value:=
 if stowedF ps hs l≠0 then .tuple #[ld0,.int .i64 1]else if hix hs id=none then .tuple #[ld0,.int .i64 7]else .tuple #[ldF ps hs (inS l id),.int .i64 0]
def overB(ps:List Pa)(_:List Ho)(l:List Sw)(h:Ho):Bool:=
 decide (qR h.most<sumR (tP ps Pa.mass) (inS l h.id))||decide (qR h.room<sumR (tP ps Pa.vol) (inS l h.id))
def overV(ps:List Pa)(hs:List Ho)(l:List Sw):Value:=
 if stowedF ps hs l≠0 then .tuple #[.int .i64 0,.int .i64 1]else .tuple #[.int .i64 (ixI (hs.findIdx? (overB ps hs l))),.int .i64 0]
theorem ixI_neg{o:Option Nat}:ixI o<0↔o=none:=by cases o<;>simp[ixI]

section
variable {w:World} {A0 A1 A:Option Addr} {n0 c0 n1 c1 n c:Nat} {ps:List Pa} {hs:List Ho} {l:List Sw}
theorem cargo_Held(hg:Glob w)(hc:CgIn w A0 n0 A1 n1 ps hs)(h:SlR w A 3 (l.map Sw.row))(hl:l.length=n)(hnc:n<=c)(hn:n<=40)(id:Int):
  Pure Tryz.prog 129 #[.agg #[.slice A0 n0 c0,.slice A1 n1 c1],.slice A n c,.int .i64 id] w fun v _=>v=heldV ps hs l id:=by
 refine F.cargo_Held.vc _ _ _ _ _ _ _ _ _ _ _ _ fun w1 x1=> ?_
 have hw:=k0 x1
 refine Pure.mono (cargo_Stowed (hg.next hw) (hc.keep hw) (h.keep hw (Nat.le_refl _)) hl hnc (by omega)) ?_
 rintro v w4 b4 rfl
 have hw:=kP hw b4
 unfold heldV
 refine⟨_,rfl,fun h0 w5 _=>by rw[if_pos h0],fun h0=> ?_⟩
 rw[if_neg h0]
 have hok:=(stowed_right (Decidable.not_not.1 h0)).ld (by omega)
 refine Pure.mono (cargo_hold (hc.keep hw) id) ?_
 rintro v w8 b8 rfl
 have hw:=kP hw b8
 refine⟨_,rfl,fun h1 w9 _=>by rw[if_pos (ixI_neg.1 h1)],fun h1 w10 x10=> ?_⟩
 rw[if_neg (fun k=>h1 (ixI_neg.2 k))]
 have hw:=kE hw x10
 refine Pure.mono (cargo_in (h.keep hw (Nat.le_refl _)) hl (by omega) id) ?_
 rintro v w13 b13 ⟨A',m,c',rfl,hi,hil⟩
 have hw:=kP hw b13
 refine⟨_,_,_,rfl,Pure.mono (cargo_laden (hg.next hw) (hc.keep hw) hi hil (hok.filter _)) ?_⟩
 rintro v w21 b21 rfl
 exact⟨_,_,_,_,_,_,rfl,fun w22 _=>rfl⟩
theorem over_c1(hg:Glob w)(hc:CgIn w A0 n0 A1 n1 ps hs)(h:SlR w A 3 (l.map Sw.row))(hl:l.length=n)(hok:LdOk ps hs l){q0 q1:Addr}(hq0:∀w',Below w.heap.size w w'->CellsAt w' q0 [.slice A0 n0 c0,.slice A1 n1 c1])(hq1:∀w',Below w.heap.size w w'->CellsAt w' q1 [.slice A n c]){x:Ho}(hx:x∈hs):
  Pure Tryz.prog 102 #[x.val,.pointer (some q0),.pointer (some q1)] w fun v _=>v= .bool (overB ps hs l x):=by
 have hn:=hok.n
 have hvh:=hok.c.vh x hx
 unfold vH at hvh
 simp only[Bool.and_eq_true]at hvh
 have hsm:=hc.sh x hx
 have bm:Big (qR x.most):=hsm.most.big hvh.1.1.1.2
 have br:Big (qR x.room):=hsm.room.big hvh.1.1.1.1
 have em:x.most=rS (qR x.most):=vR_eq hvh.1.1.1.2
 have er:x.room=rS (qR x.room):=vR_eq hvh.1.1.1.1
 obtain⟨⟨b1,b2,b3⟩,b4,b5,b6⟩:=(hok.filter fun s=>decide (s.hold=x.id)).smL hc
 have cmp:∀w',Below w.heap.size w w'->Pure Tryz.prog 105 #[.string (rS (sumR (tP ps Pa.mass) (inS l x.id))),.string x.most] w' fun r w2=>∃i:Int,r= .int .i64 i/\((i>0->(fun(v:Value) (_:World)=>v= .bool (overB ps hs l x)) (.bool true) w2)/\(¬i>0->
   Pure Tryz.prog 105 #[.string (rS (sumR (tP ps Pa.vol) (inS l x.id))),.string x.room] w2 fun r w3=>∃i:Int,r= .int .i64 i/\(fun(v:Value) (_:World)=>v= .bool (overB ps hs l x)) (.bool (decide (i>0))) w3)):=by
  intro w' hw
  have c1:=cargo_compare (hg.next hw) b1 bm
  rw[<-em]at c1
  refine Pure.mono c1 ?_
  rintro v w2 h2 rfl
  have hw:=kP hw h2
  refine⟨_,rfl,fun k=> ?_,fun k=> ?_⟩
  ·have:=cmpR_gt.1 k
   show Value.bool true=_
   unfold overB
   rw[show(decide (qR x.most<sumR (tP ps Pa.mass) (inS l x.id)))=true from decide_eq_true this]
   rfl
  ·have c2:=cargo_compare (hg.next hw) b2 br
   rw[<-er]at c2
   refine Pure.mono c2 ?_
   rintro v w3 h3 rfl
   refine⟨_,rfl,?_⟩
   show Value.bool _=_
   unfold overB
   rw[show(decide (qR x.most<sumR (tP ps Pa.mass) (inS l x.id)))=false from decide_eq_false fun h=>k (cmpR_gt.2 h),Bool.false_or]
   refine congrArg Value.bool ?_
   rw[decide_eq_decide]
   exact cmpR_gt
 refine F.cargo_Overloaded_c1.vc _ _ _ _ _ _ _ _ _ _ _ fun w1 x1=> ?_
 have hw1:=k0 x1
 refine⟨_,_,_,_,_,_,hq0 w1 hw1,_,_,_,hq1 w1 hw1,fun w5 x5=> ?_,fun w40 x40=> ?_⟩
 ·have hw5:=kE hw1 x5
  refine Pure.mono (cargo_in (h.keep hw5 (Nat.le_refl _)) hl (by omega) x.id) ?_
  rintro v w8 b8 ⟨A',m,c',rfl,hi,hil⟩
  have hw8:=kP hw5 b8
  refine⟨_,_,_,rfl,Pure.mono (cargo_laden (hg.next hw8) (hc.keep hw8) hi hil (hok.filter _)) ?_,fun w24 x24=> ?_⟩
  ·rintro v w16 b16 rfl
   exact⟨_,_,_,_,_,_,rfl,fun w17 x17=>cmp w17 (kE (kP hw8 b16) x17)⟩
  ·have hw24:=kE hw8 x24
   refine Pure.mono (cargo_laden (hg.next hw24) (hc.keep hw24) (hi.extNil x24) hil (hok.filter _)) ?_
   rintro v w16 b16 rfl
   exact⟨_,_,_,_,_,_,rfl,fun w17 x17=>cmp w17 (kE (kP hw24 b16) x17)⟩
 ·have hw5:=kE hw1 x40
  refine Pure.mono (cargo_in (h.keep hw5 (Nat.le_refl _)) hl (by omega) x.id) ?_
  rintro v w8 b8 ⟨A',m,c',rfl,hi,hil⟩
  have hw8:=kP hw5 b8
  refine⟨_,_,_,rfl,Pure.mono (cargo_laden (hg.next hw8) (hc.keep hw8) hi hil (hok.filter _)) ?_⟩
  rintro v w16 b16 rfl
  exact⟨_,_,_,_,_,_,rfl,fun w17 x17=>cmp w17 (kE (kP hw8 b16) x17)⟩
theorem cargo_Overloaded(hg:Glob w)(hc:CgIn w A0 n0 A1 n1 ps hs)(h:SlR w A 3 (l.map Sw.row))(hl:l.length=n)(hnc:n<=c)(hn:n<=40):
  Pure Tryz.prog 71 #[.agg #[.slice A0 n0 c0,.slice A1 n1 c1],.slice A n c] w fun v _=>v=overV ps hs l:=by
 have hnh:=hc.nh
 refine F.cargo_Overloaded.vc _ _ _ _ _ _ _ _ _ _ _ fun w1 x1=> ?_
 have hw:=k0 x1
 refine Pure.mono (cargo_Stowed (hg.next hw) (hc.keep hw) (h.keep hw (Nat.le_refl _)) hl hnc (by omega)) ?_
 rintro v w4 b4 rfl
 have hw:=kP hw b4
 unfold overV
 refine⟨_,rfl,fun h0=>by rw[if_pos h0],fun h0 p5 hp5 hb5 p6 hp6 hb6=> ?_⟩
 rw[if_neg h0]
 have hok:=(stowed_right (Decidable.not_not.1 h0)).ld (by omega)
 refine Pure.mono (IndexHo (p:=overB ps hs l) ((hc.keep hw).h) hc.lh (by omega) (by kernel_rfl) fun w' hb x hx=> ?_) ?_
 ·exact over_c1 (hg.next (kP hw hb)) (hc.keep (kP hw hb)) (h.keep (kP hw hb) (Nat.le_refl _)) hl hok (fun w2 h2=>box_all (heap_keep (heap_keep hb6 hb) h2)) (fun w2 h2=>box_all (heap_keep (heap_keep hb5 hb) h2)) hx
 ·rintro v w9 b9 rfl
  exact⟨_,rfl,rfl⟩
end

structure QT where
 b:Bool
 A:Option Addr
 n:Nat
 c:Nat
 A':Option Addr
 n':Nat
 c':Nat
 r:Rat
def QT.is(x:QT)(w:World):Prop:=IsQ w x.b x.A x.n x.c x.A' x.n' x.c' x.r
def Qs(w:World)(L:List QT):Prop:=∀x∈L,x.is w
theorem Qs.below{w w':World}{L:List QT}(h:Qs w L)(hb:Below w.heap.size w w'):Qs w' L:=fun x hx=>IsQ.below (h x hx) hb
theorem Qs.ext{w w':World}{B:Nat}{ts:List Nat}{L:List QT}(h:Qs w L)(e:Ext B ts w w')(ht:217∉ts):Qs w' L:=fun x hx=>IsQ.ext (h x hx) e ht
theorem Qs.add{w:World}{L:List QT}(h:Qs w L){x:QT}(k:x.is w):Qs w (x::L):=fun y hy=>by
 rcases List.mem_cons.1 hy with rfl|hy
 ·exact k
 ·exact h y hy
theorem Qs.nil{w:World}:Qs w []:=fun x hx=>by cases hx
theorem QR.qt{r:Rat}{v:Value}{w:World}(h:QR r v w):∃x:QT,x.r=r/\v= .agg #[.bool x.b,.slice x.A x.n x.c,.slice x.A' x.n' x.c']/\x.is w:=by
 obtain⟨b,A,n,c,A',n',c',rfl,k⟩:=h
 exact⟨⟨b,A,n,c,A',n',c',r⟩,rfl,rfl,k⟩
section
variable {w0:World} {A0 A1 A:Option Addr} {n0 c0 n1 c1 n c:Nat} {ps:List Pa} {hs:List Ho} {l:List Sw}

end

theorem amt_le{ps:List Pa}{hs:List Ho}{l:List Sw}(hr:RightS ps hs l)(h p:Int):amtF l h p<=9:=by
 rcases amt_spec l h p with⟨e,_⟩|⟨x,hx,e1,e2,e3⟩
 ·omega
 ·have:=((hr.known x hx))
  obtain⟨i,_,hi,_⟩:=this
  obtain⟨q,e,hid⟩:=pix_some hi
  have hm:=List.mem_of_getElem? e
  have h1:=hr.full q hm
  have h2:=units_mem hr.pos hx
  have h3:=(hr.c.p1 q hm).2.1.2
  rw[hid]at h1
  omega
section
variable {w0:World} {A0 A1 A:Option Addr} {n0 c0 n1 c1 n c:Nat} {ps:List Pa} {hs:List Ho} {l:List Sw}
end

def psT:List Pa:=[⟨1,3,1,⟨#[97]⟩,⟨#[50]⟩,⟨#[49]⟩,⟨#[53]⟩⟩,⟨2,1,2,⟨#[98]⟩,⟨#[49,47,50]⟩,⟨#[52]⟩,⟨#[49]⟩⟩]
def hsT:List Ho:=[⟨1,⟨#[65]⟩,⟨#[52]⟩,⟨#[55]⟩,⟨#[49,48]⟩,⟨#[48]⟩,⟨#[49]⟩⟩,⟨2,⟨#[66]⟩,⟨#[57]⟩,⟨#[51]⟩,⟨#[45,53]⟩,⟨#[48]⟩,⟨#[49]⟩⟩]
theorem extAll{B:Nat}{w w':World}(x:Ext B [] w w'):Below w.heap.size w w':=⟨x.below.os,x.below.tape,x.below.output,x.below.size,fun k hk=>by
 rcases x.other k hk with e|⟨t,ht,_⟩
 ·exact e
 ·simp at ht⟩
theorem CloneI{w:World}{A:Option Addr}{n c:Nat}{l:List Int}(h:SlR w A 1 (l.map iRow))(hlen:l.length=n)(hn:n<=1000000):
  Pure Tryz.prog 28 #[.slice A n c] w fun v w'=>∃A' c',v= .slice A' n c'/\OwnR w' w.heap.size 3 A' n c' 1 (l.map iRow):=by
 refine F.slices_Clone_int_int.vc _ _ _ _ _ ⟨fun hA=> ?_,fun hA=> ?_⟩
 ·subst hA
  have:=h.none_nil
  simp at this
  subst this
  simp at hlen
  subst hlen
  exact⟨none,0,rfl,OwnR.nil⟩
 ·obtain⟨a,rfl⟩:=Option.ne_none_iff_exists'.1 hA
  refine runOk_lit el_Ints [] (by simp) (by simp) (Nat.le_refl _) fun A2 c2 w2 ho b2=> ?_
  refine app_rows el_Ints (Nat.le_refl _) (by simpa using ho) (h.below b2) (by simpa using hlen) (fun r hr=>by obtain⟨s,_,rfl⟩:=List.mem_map.1 hr;rfl) (fun r hr=>by obtain⟨s,_,rfl⟩:=List.mem_map.1 hr;intro u hu;simp[iRow]at hu;subst hu;rfl) b2.size (by simp;omega) (by simp) fun A' c' w3 o3 _ b3=> ?_
  simp only[List.length_nil,Nat.zero_add,List.nil_append]at o3⊢
  exact⟨A',c',rfl,o3⟩
theorem EqualI{w0:World}{A A1:Option Addr}{n n1 c c1:Nat}{l l1:List Int}(h:SlR w0 A 1 (l.map iRow))(h1:SlR w0 A1 1 (l1.map iRow))(hlen:l.length=n)(hlen1:l1.length=n1)(hn:n<2147483648):
  Pure Tryz.prog 26 #[.slice A n c,.slice A1 n1 c1] w0 fun y _=>y= .bool (decide (l=l1)):=by
 have key:n=n1->∀(d i:Nat)(w:World),n - i=d->i<=n->Below w0.heap.size w0 w->l.take i=l1.take i->F.slices_Equal_int_int.L4 A n c A1 n1 c1 n i w0.heap.size w fun y _=>y= .bool (decide (l=l1)):=by
  intro e d
  induction d with
  |zero=>
   intro i w hd hi hw hx
   refine F.slices_Equal_int_int.L4.step _ _ _ _ _ _ _ _ _ _ _ ⟨fun h=>by omega,fun _=> ?_⟩
   rw[List.take_of_length_le (by omega),List.take_of_length_le (by omega)]at hx
   rw[decide_eq_true hx]
  |succ d ih=>
   intro i w hd hi hw hx
   have hil:i<l.length:=by omega
   have hil1:i<l1.length:=by omega
   have e3:(i:Int)+1=((i+1:Nat):Int):=by omega
   obtain⟨hb,a,hA,hcell,_⟩:=(h.keep hw (Nat.le_refl _)).at_ (fun _=>rfl) hlen hil
   obtain⟨hb1,a1,hA1,hcell1,_⟩:=(h1.keep hw (Nat.le_refl _)).at_ (fun _=>rfl) hlen1 hil1
   refine F.slices_Equal_int_int.L4.step _ _ _ _ _ _ _ _ _ _ _ ⟨fun _=>⟨hb,a,hA,_,hcell,hb1,a1,hA1,_,hcell1,fun k w2 _=> ?_,fun k=>⟨by simp only[inR];omega,fun w2 x2=> ?_⟩⟩,fun h=>by omega⟩
   ·rw[decide_eq_false fun e=>k (by subst e;rfl)]
   ·rw[e3]
    refine ih (i+1) w2 (by omega) (by omega) (kE hw x2) ?_
    rw[List.take_add_one,List.take_add_one,hx,List.getElem?_eq_getElem hil,List.getElem?_eq_getElem hil1,Decidable.not_not.1 k]
 refine F.slices_Equal_int_int.vc _ _ _ _ _ _ _ _ ⟨fun k=> ?_,fun k=>key (by omega) n 0 w0 rfl (by omega) (Below.refl _ _) (by simp)⟩
 rw[decide_eq_false fun e=>k (by subst e;omega)]

theorem flatMap_le{α β:Type}{f:α->List β}{k:Nat}:∀{l:List α},(∀x∈l,(f x).length<=k)->(l.flatMap f).length<=l.length*k:=by
 intro l
 induction l with
 |nil=>intro _;simp
 |cons x r ih=>
  intro h
  rw[List.flatMap_cons,List.length_append,List.length_cons,Nat.add_mul,Nat.one_mul]
  have:=h x (by simp)
  have:=ih fun y hy=>h y (by simp[hy])
  omega
theorem RightS.len{ps:List Pa}{hs:List Ho}{l:List Sw}(h:RightS ps hs l):l.length<=36:=by
 have e:=stows_amts h (f:=fA ps hs l) fun _ _ _ _=>rfl
 rw[<-e]
 unfold stowsG
 have h1:∀k∈List.range hs.length,((List.range ps.length).flatMap fun i=>entS (fA ps hs l) ps hs k i).length<=ps.length:=fun k _=>by
  have:=flatMap_le (f:=fun i=>entS (fA ps hs l) ps hs k i) (k:=1) (l:=List.range ps.length) fun i _=>by
   unfold entS
   split
   ·split<;>simp
   ·simp
  simpa using this
 have h2:=flatMap_le h1
 rw[List.length_range]at h2
 have:=Nat.mul_le_mul h.c.lh h.c.lp
 omega

def outE(r:Except Int (List Sw)):List Sw×Int:=match r with| .error e=>([],e)| .ok l=>(l,0)
theorem StowR.get{r:Except Int (List Sw)}{B:Nat}{y:Value}{w:World}(h:StowR r B y w):∃A m c,y= .tuple #[.slice A m c,.int .i64 (outE r).2]/\SlR w A 3 ((outE r).1.map Sw.row)/\(outE r).1.length=m/\m<=c:=by
 cases r with
 |error e=>exact⟨none,0,0,h,.inl rfl,rfl,Nat.le_refl _⟩
 |ok l=>
  obtain⟨A,m,c,rfl,ho⟩:=h
  exact⟨A,m,c,rfl,ho.sl,by simpa[outE]using ho.len,ho.len_le⟩
section
variable {w:World} {A0 A1 A A2:Option Addr} {n0 c0 n1 c1 n c n2 c2:Nat} {ps:List Pa} {hs:List Ho} {l:List Sw} {a:List Int}
theorem from_err{e:Int}(h:fromF ps hs a= .error e):e≠0:=by
 unfold fromF at h
 split at h
 ·cases h;decide
 ·split at h
  ·cases h;decide
  ·split at h
   ·cases h;decide
   ·split at h
    ·cases h;decide
    ·cases h
end

def fullN(n:Nat):Nat:=2^n - 1
def addB(s i:Nat):Nat:=s|||2^i
theorem addB_bit(s i j:Nat):(addB s i).testBit j=(s.testBit j||decide (i=j)):=by
 unfold addB
 rw[Nat.testBit_or,Nat.testBit_two_pow]
theorem addB_lt{s i n:Nat}(hs:s<2^n)(hi:i<n):addB s i<2^n:=Nat.or_lt_two_pow hs (Nat.pow_lt_pow_right (by decide) hi)
theorem full_bit(n j:Nat):(fullN n).testBit j=decide (j<n):=by
 unfold fullN
 exact Nat.testBit_two_pow_sub_one n j
theorem full_lt(n:Nat):fullN n<2^n:=by
 unfold fullN
 have:0<2^n:=Nat.two_pow_pos n
 omega
theorem eq_full{s n:Nat}(hs:s<2^n)(h:∀i,i<n->s.testBit i=true):s=fullN n:=by
 refine Nat.eq_of_testBit_eq fun j=> ?_
 rw[full_bit]
 by_cases hj:j<n
 ·rw[h j hj,decide_eq_true hj]
 ·rw[decide_eq_false hj]
  exact Nat.testBit_lt_two_pow (Nat.lt_of_lt_of_le hs (Nat.pow_le_pow_right (by decide) (by omega)))
def leftN(n s:Nat):Nat:=(List.range n).countP fun i=> !s.testBit i
theorem left_add{n s i:Nat}(hi:i<n)(h:s.testBit i=false):leftN n (addB s i)+1=leftN n s:=by
 unfold leftN
 have key:∀(l:List Nat),l.Nodup->(l.countP fun j=> !(addB s i).testBit j)+(if i∈l then 1 else 0)=l.countP fun j=> !s.testBit j:=by
  intro l
  induction l with
  |nil=>intro _;rfl
  |cons a r ih=>
   intro hn
   obtain⟨h1,h2⟩:=List.nodup_cons.1 hn
   have ih:=ih h2
   rw[List.countP_cons,List.countP_cons,addB_bit]
   by_cases e:i=a
   ·subst e
    rw[if_neg h1]at ih
    simp[h]
    omega
   ·rw[decide_eq_false e,Bool.or_false]
    have hmm:(if i∈a::r then 1 else 0)=(if i∈r then 1 else 0):=by simp[e]
    rw[hmm]
    omega
 have:=key (List.range n) List.nodup_range
 rw[if_pos (List.mem_range.2 hi)]at this
 exact this
theorem left_zero{n s:Nat}(hs:s<2^n)(h:leftN n s=0):s=fullN n:=by
 refine eq_full hs fun i hi=> ?_
 have:=List.countP_eq_zero.1 h i (List.mem_range.2 hi)
 simpa using this
theorem left_le(n s:Nat):leftN n s<=n:=by
 have:=List.countP_le_length (p:=fun i=> !s.testBit i) (l:=List.range n)
 simpa[leftN]using this

def restF(al:Nat->Bool)(n:Nat):Nat->Nat->Option (List Nat)
 |0,s=>if s=fullN n then some []else none
 |d+1,s=>if s=fullN n then some []else(List.range n).findSome? fun i=>if s.testBit i|| !al (addB s i)then none else(restF al n d (addB s i)).map (i:: ·)
inductive Pth (al:Nat->Bool) (n:Nat):Nat->Prop
 |full:Pth al n (fullN n)
 |step {s i:Nat}:i<n->s.testBit i=false->al (addB s i)=true->Pth al n (addB s i)->Pth al n s
inductive Rch (al:Nat->Bool) (n:Nat):Nat->Prop
 |zero:Rch al n 0
 |step {s i:Nat}:Rch al n s->i<n->s.testBit i=false->al (addB s i)=true->Rch al n (addB s i)
theorem Rch.lt{al:Nat->Bool}{n s:Nat}(h:Rch al n s):s<2^n:=by
 induction h with
 |zero=>exact Nat.two_pow_pos n
 |step _ hi _ _ ih=>exact addB_lt ih hi
theorem reach_path{al:Nat->Bool}{n s:Nat}(h:Rch al n s)(k:Pth al n s):Pth al n 0:=by
 induction h with
 |zero=>exact k
 |step _ hi hb ha ih=>exact ih (.step hi hb ha k)
theorem path_reach{al:Nat->Bool}{n s:Nat}(k:Pth al n s):Rch al n s->Rch al n (fullN n):=by
 induction k with
 |full=>exact id
 |step hi hb ha _ ih=>exact fun h=>ih (.step h hi hb ha)
theorem full_iff{al:Nat->Bool}{n:Nat}:Rch al n (fullN n)↔Pth al n 0:=⟨fun h=>reach_path h .full,fun k=>path_reach k .zero⟩
theorem rest_some{al:Nat->Bool}{n:Nat}:∀(d s:Nat)(l:List Nat),restF al n d s=some l->Pth al n s:=by
 intro d
 induction d with
 |zero=>
  intro s l h
  rw[restF]at h
  split at h
  ·rename_i e;rw[e];exact .full
  ·cases h
 |succ d ih=>
  intro s l h
  rw[restF]at h
  split at h
  ·rename_i e;rw[e];exact .full
  ·obtain⟨i,hi,hx⟩:=List.exists_of_findSome?_eq_some h
   split at hx
   ·cases hx
   ·rename_i hc
    simp only[Bool.or_eq_true,Bool.not_eq_true',not_or,Bool.not_eq_true,Bool.not_eq_false]at hc
    obtain⟨l',hl',_⟩:=Option.map_eq_some_iff.1 hx
    exact .step (List.mem_range.1 hi) hc.1 hc.2 (ih _ _ hl')
theorem rest_none{al:Nat->Bool}{n:Nat}:∀(d s:Nat),leftN n s<=d->s<2^n->restF al n d s=none->¬Pth al n s:=by
 intro d
 induction d with
 |zero=>
  intro s hd hs h
  rw[restF,if_pos (left_zero hs (by omega))]at h
  cases h
 |succ d ih=>
  intro s hd hs h k
  rw[restF]at h
  split at h
  ·cases h
  ·rename_i hne
   cases k with
   |full=>exact hne rfl
   |step hi hb ha k=>
    rename_i i
    have:=List.findSome?_eq_none_iff.1 h i (List.mem_range.2 hi)
    rw[hb,ha]at this
    simp only[Bool.not_true,Bool.or_self,Bool.false_eq_true,if_false,Option.map_eq_none_iff]at this
    exact ih _ (by have:=left_add hi hb;omega) (addB_lt hs hi) this k
theorem rest_iff{al:Nat->Bool}{n d s:Nat}(hd:leftN n s<=d)(hs:s<2^n):(∃l,restF al n d s=some l)↔Pth al n s:=by
 constructor
 ·rintro⟨l,h⟩;exact rest_some d s l h
 ·intro k
  cases h:restF al n d s with
  |some l=>exact⟨l,rfl⟩
  |none=>exact absurd k (rest_none d s hd hs h)
def stepR(al:Nat->Bool)(n:Nat)(out:List Nat)(s:Nat):List Nat:=
 if((List.range n).any fun i=>s.testBit i&&out.contains (s^^^2^i))&&al s then out++[s]else out
def reachedF(al:Nat->Bool)(n k:Nat):List Nat:=(List.range k).foldl (fun out j=>stepR al n out (j+1)) [0]
theorem xor_bit{s i:Nat}(h:s.testBit i=true):s^^^2^i<s/\(s^^^2^i).testBit i=false/\addB (s^^^2^i) i=s:=by
 have hb:∀j,(s^^^2^i).testBit j=(s.testBit j^^decide (i=j)):=fun j=>by rw[Nat.testBit_xor,Nat.testBit_two_pow]
 have h0:(s^^^2^i).testBit i=false:=by rw[hb,h];simp
 have h1:addB (s^^^2^i) i=s:=by
  refine Nat.eq_of_testBit_eq fun j=> ?_
  rw[addB_bit,hb]
  by_cases e:i=j
  ·subst e;rw[h];simp
  ·rw[decide_eq_false e];simp
 refine⟨?_,h0,h1⟩
 have hle:s^^^2^i<=addB (s^^^2^i) i:=Nat.left_le_or
 rw[h1]at hle
 refine Nat.lt_of_le_of_ne hle fun e=> ?_
 rw[e,h]at h0
 cases h0
theorem reached_mem{al:Nat->Bool}{n:Nat}:∀(k:Nat),k<2^n->∀s,s∈reachedF al n k↔(Rch al n s/\s<=k):=by
 intro k
 induction k with
 |zero=>
  intro _ s
  unfold reachedF
  constructor
  ·intro h
   have:s=0:=by simpa using h
   subst this
   exact⟨.zero,Nat.le_refl _⟩
  ·rintro⟨_,h⟩
   have:s=0:=by omega
   subst this
   simp
 |succ k ih=>
  intro hk s
  have ih:=ih (by omega)
  have e:reachedF al n (k+1)=stepR al n (reachedF al n k) (k+1):=by
   unfold reachedF
   rw[List.range_succ,List.foldl_append]
   rfl
  rw[e]
  unfold stepR
  by_cases hc:(((List.range n).any fun i=>(k+1).testBit i&&(reachedF al n k).contains ((k+1)^^^2^i))&&al (k+1))=true
  ·rw[if_pos hc,List.mem_append,ih,List.mem_singleton]
   rw[Bool.and_eq_true,List.any_eq_true]at hc
   obtain⟨⟨i,hi,hx⟩,ha⟩:=hc
   rw[Bool.and_eq_true,List.contains_iff_mem]at hx
   obtain⟨hb,hm⟩:=hx
   obtain⟨x1,x2,x3⟩:=xor_bit hb
   have hr:Rch al n (k+1):=by
    have:=Rch.step ((ih _).1 hm).1 (List.mem_range.1 hi) x2 (by rw[x3];exact ha)
    rwa [x3]at this
   constructor
   ·rintro(h|rfl)
    ·exact⟨h.1,by omega⟩
    ·exact⟨hr,Nat.le_refl _⟩
   ·rintro⟨h1,h2⟩
    by_cases e:s=k+1
    ·exact .inr e
    ·exact .inl ⟨h1,by omega⟩
  ·rw[if_neg hc,ih]
   constructor
   ·exact fun h=>⟨h.1,by omega⟩
   ·rintro⟨h1,h2⟩
    refine⟨h1,?_⟩
    by_cases e:s=k+1
    ·exfalso
     subst e
     apply hc
     generalize hs:k+1=t at h1
     cases h1 with
     |zero=>omega
     |step h1 hi hb ha=>
      rename_i s i
      rw[Bool.and_eq_true,List.any_eq_true]
      have hxor:addB s i^^^2^i=s:=by
       refine Nat.eq_of_testBit_eq fun j=> ?_
       rw[Nat.testBit_xor,Nat.testBit_two_pow,addB_bit]
       by_cases e:i=j
       ·subst e;rw[hb];simp
       ·rw[decide_eq_false e];simp
      have hbit:(addB s i).testBit i=true:=by rw[addB_bit];simp
      have hlt:=(xor_bit hbit).1
      rw[hxor]at hlt
      refine⟨⟨i,List.mem_range.2 hi,?_⟩,ha⟩
      rw[Bool.and_eq_true,List.contains_iff_mem,hxor,ih]
      exact⟨hbit,h1,by omega⟩
    ·omega

def closedB(al:Nat->Bool)(n:Nat)(S:List Int):Bool:=
 decide (S.Pairwise fun a b=>a<b)&&S.all (fun s=>decide (0<=s/\s<(fullN n:Nat)))&&S.contains 0&&S.all fun s=>(List.range n).all fun i=>S.contains ((addB s.toNat i:Nat):Int)|| !al (addB s.toNat i)
theorem closed_reach{al:Nat->Bool}{n:Nat}{S:List Int}(h:closedB al n S=true){s:Nat}(hr:Rch al n s):(s:Int)∈S:=by
 unfold closedB at h
 simp only[Bool.and_eq_true,List.all_eq_true,decide_eq_true_eq,List.contains_iff_mem]at h
 obtain⟨⟨⟨_,_⟩,h0⟩,hs⟩:=h
 induction hr with
 |zero=>exact h0
 |step _ hi hb ha ih=>
  have:=hs _ ih _ (List.mem_range.2 hi)
  rw[Int.toNat_natCast,ha]at this
  simpa using this
theorem closed_no{al:Nat->Bool}{n:Nat}{S:List Int}(h:closedB al n S=true):¬Rch al n (fullN n):=by
 intro k
 have hm:=closed_reach h k
 unfold closedB at h
 simp only[Bool.and_eq_true,List.all_eq_true,decide_eq_true_eq]at h
 have:=h.1.1.2 _ hm
 omega
theorem reached_sorted{al:Nat->Bool}{n:Nat}:∀(k:Nat),k<2^n->(reachedF al n k).Pairwise fun a b=>a<b:=by
 intro k
 induction k with
 |zero=>intro _;unfold reachedF;simp
 |succ k ih=>
  intro hk
  have e:reachedF al n (k+1)=stepR al n (reachedF al n k) (k+1):=by
   unfold reachedF
   rw[List.range_succ,List.foldl_append]
   rfl
  rw[e]
  unfold stepR
  split
  ·refine List.pairwise_append.2 ⟨ih (by omega),by simp,fun a ha b hb=> ?_⟩
   rw[List.mem_singleton]at hb
   have:=((reached_mem k (by omega) a).1 ha).2
   omega
  ·exact ih (by omega)
theorem closed_own{al:Nat->Bool}{n:Nat}(h:¬Rch al n (fullN n)):closedB al n ((reachedF al n (fullN n)).map fun(s:Nat)=>(s:Int))=true:=by
 have hm:=reached_mem (al:=al) (n:=n) (fullN n) (full_lt n)
 unfold closedB
 simp only[Bool.and_eq_true,List.all_eq_true,decide_eq_true_eq,List.contains_iff_mem,List.mem_map]
 refine⟨⟨⟨?_,?_⟩,0,(hm 0).2 ⟨.zero,Nat.zero_le _⟩,rfl⟩,?_⟩
 ·rw[List.pairwise_map]
  exact(reached_sorted _ (full_lt n)).imp fun h=>by omega
 ·rintro x ⟨s,hs,rfl⟩
  obtain⟨h1,h2⟩:=(hm s).1 hs
  have:s≠fullN n:=fun e=>h (by rw[<-e];exact h1)
  omega
 ·rintro x ⟨s,hs,rfl⟩ i hi
  obtain⟨h1,h2⟩:=(hm s).1 hs
  rw[Int.toNat_natCast,Bool.or_eq_true,List.contains_iff_mem,List.mem_map]
  by_cases ha:al (addB s i)=true
  ·left
   by_cases hb:s.testBit i=true
   ·refine⟨s,hs,?_⟩
    congr 1
    refine Nat.eq_of_testBit_eq fun j=> ?_
    rw[addB_bit]
    by_cases e:i=j
    ·subst e;rw[hb];rfl
    ·rw[decide_eq_false e,Bool.or_false]
   ·have hr:=Rch.step h1 (List.mem_range.1 hi) (by simpa using hb) ha
    exact⟨_,(hm _).2 ⟨hr,by have:=hr.lt;unfold fullN;omega⟩,rfl⟩
  ·right
   simpa using ha

theorem perm_of{α:Type}[DecidableEq α]:∀{l o:List α},l.Nodup->(∀x∈l,x∈o)->o.length<=l.length->o.Perm l:=by
 intro l
 induction l with
 |nil=>
  intro o _ _ h
  have:o=[]:=List.length_eq_zero_iff.1 (by simpa using h)
  subst this
  exact List.Perm.refl _
 |cons a r ih=>
  intro o hn hm hl
  obtain⟨h1,h2⟩:=List.nodup_cons.1 hn
  have ha:a∈o:=hm a (by simp)
  refine(List.perm_cons_erase ha).trans (List.Perm.cons a (ih h2 (fun x hx=> ?_) ?_))
  ·rw[List.mem_erase_of_ne (fun e=>h1 (by rw[<-e];exact hx))]
   exact hm x (by simp[hx])
  ·rw[List.length_erase_of_mem ha]
   simp at hl
   omega
def walkO(al:Nat->Bool):Nat->Nat->List Int->Int×Int
 |_,_,[]=>(-1,0)
 |s,k,x::r=>if al (addB s x.toNat)then walkO al (addB s x.toNat) (k+1) r else((k:Int),15)
def checkO(al:Nat->Bool)(n:Nat)(o:List Int):Int×Int:=
 if ¬(o.length=n/\∀i∈List.range n,((i:Nat):Int)∈o)then(-1,10)else walkO al 0 0 o
theorem walk_path{al:Nat->Bool}{n:Nat}:∀(o:List Int)(s k:Nat),Rch al n s->(∀x∈o,0<=x/\x<n/\s.testBit x.toNat=false)->o.Nodup->(walkO al s k o).2=0->Rch al n (o.foldl (fun s x=>addB s x.toNat) s):=by
 intro o
 induction o with
 |nil=>intro s k h _ _ _;exact h
 |cons x r ih=>
  intro s k h hx hn h0
  obtain⟨n1,n2⟩:=List.nodup_cons.1 hn
  obtain⟨x0,x1,xb⟩:=hx x (by simp)
  rw[walkO]at h0
  split at h0
  ·rename_i ha
   refine ih (addB s x.toNat) (k+1) (.step h (by omega) xb ha) (fun y hy=> ?_) n2 h0
   obtain⟨y0,y1,yb⟩:=hx y (by simp[hy])
   refine⟨y0,y1,?_⟩
   rw[addB_bit,yb,decide_eq_false,Bool.or_false]
   intro e
   have:x=y:=by omega
   exact n1 (this▸hy)
  ·simp at h0
theorem fold_bit:∀(o:List Int)(s j:Nat),(o.foldl (fun s x=>addB s x.toNat) s).testBit j=(s.testBit j||o.any fun x=>decide (x.toNat=j)):=by
 intro o
 induction o with
 |nil=>intro s j;simp
 |cons x r ih=>
  intro s j
  rw[List.foldl_cons,ih,addB_bit,List.any_cons,Bool.or_assoc]
theorem check_perm{n:Nat}{o:List Int}(h:o.length=n/\∀i∈List.range n,((i:Nat):Int)∈o):o.Perm ((List.range n).map fun(i:Nat)=>(i:Int)):=by
 refine perm_of ?_ (fun x hx=> ?_) (by simp;omega)
 ·exact List.pairwise_map.2 (List.nodup_range.imp fun h=>by omega)
 ·obtain⟨i,hi,rfl⟩:=List.mem_map.1 hx
  exact h.2 i hi
theorem check_reach{al:Nat->Bool}{n:Nat}{o:List Int}(h:(checkO al n o).2=0):Rch al n (fullN n):=by
 unfold checkO at h
 split at h
 ·simp at h
 ·rename_i hc
  have hc:=Classical.not_not.1 hc
  have hp:=check_perm hc
  have hnd:o.Nodup:=(hp.nodup_iff).2 (List.pairwise_map.2 (List.nodup_range.imp fun h=>by omega))
  have hin:∀x∈o,0<=x/\x<n/\(0:Nat).testBit x.toNat=false:=fun x hx=>by
   obtain⟨i,hi,rfl⟩:=List.mem_map.1 (hp.mem_iff.1 hx)
   have:=List.mem_range.1 hi
   exact⟨by omega,by omega,by simp⟩
  have hr:=walk_path o 0 0 .zero hin hnd h
  have e:o.foldl (fun s x=>addB s x.toNat) 0=fullN n:=by
   refine eq_full hr.lt fun i hi=> ?_
   rw[fold_bit,Bool.or_eq_true]
   exact .inr (List.any_eq_true.2 ⟨(i:Int),hc.2 i (List.mem_range.2 hi),by simp⟩)
  rwa [e]at hr

structure Ru where
 name:ByteArray
 kind:Int
 fac:List ByteArray
 low:ByteArray
 high:ByteArray
 a:Int
 b:Int
def eV(s:ByteArray):Bool:=decide (s.size=0)||vR s
def faultR(ps:List Pa)(hs:List Ho)(pre:List Ru)(r:Ru):Int:=
 if ¬(r.fac.all vR=true/\eV r.low=true/\eV r.high=true)then 1
 else if ¬(1<=r.name.size/\r.name.size<=64)then 4
 else if(pre.any fun x=>decide (x.name=r.name))=true then 6
 else if r.kind<1∨4<r.kind then 2
 else if r.kind=1 then
  if r.fac.length≠hs.length∨r.a≠0∨r.b≠0 then 10
  else if(r.low.size=0/\r.high.size=0)∨(r.low.size≠0/\r.high.size≠0/\qR r.high<qR r.low)then 2 else 0
 else if r.fac.length≠0∨r.low.size≠0∨r.high.size≠0 then 10
 else if r.kind=2 then(if ¬(r.a<r.b/\(1<=r.a/\r.a<=9)/\(1<=r.b/\r.b<=9))then 2 else 0)
 else if r.kind=3 then(if ¬(1<=r.a/\r.a<=9)then 2 else if hix hs r.b=none then 7 else 0)
 else if r.b≠0 then 2 else if pix ps r.a=none then 7 else 0
def goR(ps:List Pa)(hs:List Ho):Nat->List Ru->List Ru->Int×Int
 |_,_,[]=>(-1,0)
 |i,pre,r::t=>if faultR ps hs pre r≠0 then((i:Int),faultR ps hs pre r)else goR ps hs (i+1) (pre++[r]) t
def checkR(ps:List Pa)(hs:List Ho)(rs:List Ru):Int×Int:=
 if checkC ps hs≠0 then(-1,checkC ps hs)else if 16<rs.length then(-1,8)else goR ps hs 0 [] rs
structure RightR (ps:List Pa) (hs:List Ho) (r:Ru):Prop where
 fac:r.fac.all vR=true
 low:eV r.low=true
 high:eV r.high=true
 kind:1<=r.kind/\r.kind<=4
 sum:r.kind=1->r.fac.length=hs.length
 two:r.kind=2->r.a<r.b
 three:r.kind=3->∃k,hix hs r.b=some k
 four:r.kind=4->∃i,pix ps r.a=some i
theorem fault_zero{ps:List Pa}{hs:List Ho}{pre:List Ru}{r:Ru}(h:faultR ps hs pre r=0):RightR ps hs r:=by
 unfold faultR at h
 split at h
 ·simp at h
 ·rename_i h1
  have h1:=Decidable.not_not.1 h1
  split at h
  ·simp at h
  ·split at h
   ·simp at h
   ·split at h
    ·simp at h
    ·rename_i h4
     split at h
     ·rename_i h5
      split at h
      ·simp at h
      ·rename_i h6
       exact⟨h1.1,h1.2.1,h1.2.2,by omega,fun _=>Decidable.byContradiction fun k=>h6 (.inl k),fun k=>by omega,fun k=>by omega,fun k=>by omega⟩
     ·rename_i h5
      split at h
      ·simp at h
      ·split at h
       ·rename_i h7
        split at h
        ·simp at h
        ·rename_i h8
         exact⟨h1.1,h1.2.1,h1.2.2,by omega,fun k=>by omega,fun _=>(Decidable.not_not.1 h8).1,fun k=>by omega,fun k=>by omega⟩
       ·rename_i h7
        split at h
        ·rename_i h8
         split at h
         ·simp at h
         ·split at h
          ·simp at h
          ·rename_i h9
           refine⟨h1.1,h1.2.1,h1.2.2,by omega,fun k=>by omega,fun k=>by omega,fun _=> ?_,fun k=>by omega⟩
           cases e:hix hs r.b with
           |none=>exact absurd e h9
           |some k=>exact⟨k,rfl⟩
        ·rename_i h8
         split at h
         ·simp at h
         ·split at h
          ·simp at h
          ·rename_i h9
           refine⟨h1.1,h1.2.1,h1.2.2,by omega,fun k=>by omega,fun k=>by omega,fun k=>by omega,fun _=> ?_⟩
           cases e:pix ps r.a with
           |none=>exact absurd e h9
           |some k=>exact⟨k,rfl⟩
theorem goR_zero{ps:List Pa}{hs:List Ho}:∀(rs:List Ru)(i:Nat)(pre:List Ru),(goR ps hs i pre rs).2=0->∀r∈rs,RightR ps hs r:=by
 intro rs
 induction rs with
 |nil=>intro _ _ _ r hr;cases hr
 |cons x t ih=>
  intro i pre h r hr
  rw[goR]at h
  split at h
  ·rename_i k;exact absurd h k
  ·rename_i k
   rcases List.mem_cons.1 hr with rfl|hr
   ·exact fault_zero (Decidable.not_not.1 k)
   ·exact ih _ _ h r hr
theorem checkR_zero{ps:List Pa}{hs:List Ho}{rs:List Ru}(h:(checkR ps hs rs).2=0):checkC ps hs=0/\rs.length<=16/\∀r∈rs,RightR ps hs r:=by
 unfold checkR at h
 split at h
 ·rename_i k;exact absurd h k
 ·rename_i k
  split at h
  ·simp at h
  ·exact⟨Decidable.not_not.1 k,by omega,goR_zero _ _ _ h⟩

def clsP(ps:List Pa)(id:Int):Int:=match (pix ps id).bind fun i=>ps[i]? with|some p=>p.cls|none=>0
def sumRu(ps:List Pa)(hs:List Ho)(r:Ru)(l:List Sw):Rat:=((hs.zip r.fac).map fun x=>qR x.2*sumR (tP ps Pa.mass) (inS l x.1.id)).sum
def excessR(r:Ru)(s:Rat):Rat:=
 if r.high.size≠0/\qR r.high<s then s - qR r.high else if r.low.size≠0/\s<qR r.low then s - qR r.low else 0
def hasCls(ps:List Pa)(l:List Sw)(hold cls:Int):Bool:=l.any fun s=>decide (s.hold=hold)&&decide (clsP ps s.parcel=cls)
def brokenR(ps:List Pa)(hs:List Ho)(l:List Sw)(r:Ru):Bool:=
 if r.kind=1 then decide (excessR r (sumRu ps hs r l)≠0)
 else if r.kind=2 then hs.any fun h=>hasCls ps l h.id r.a&&hasCls ps l h.id r.b
 else if r.kind=3 then hasCls ps l r.b r.a
 else match (pix ps r.a).bind fun i=>ps[i]? with|some p=>decide (unitsF l r.a<p.units)|none=>false
def rightF(ps:List Pa)(hs:List Ho)(rs:List Ru)(l:List Sw):Bool:=decide ((checkR ps hs rs).2=0)&&decide (stowedF ps hs l=0)
def keepsF(ps:List Pa)(hs:List Ho)(rs:List Ru)(l:List Sw):Bool:=
 rightF ps hs rs l&& !(rs.any (brokenR ps hs l))&&decide (hs.findIdx? (overB ps hs l)=none)
theorem apart_pairs{ps:List Pa}{hs:List Ho}{l:List Sw}(hk:∀s∈l,∃h∈hs,h.id=s.hold)(a b:Int):
  (l.any fun x=>l.any fun y=>decide (x.hold=y.hold)&&(decide (clsP ps x.parcel=a)&&decide (clsP ps y.parcel=b)))=hs.any fun h=>hasCls ps l h.id a&&hasCls ps l h.id b:=by
 rw[Bool.eq_iff_iff]
 simp only[hasCls,List.any_eq_true,Bool.and_eq_true,decide_eq_true_eq]
 constructor
 ·rintro⟨x,hx,y,hy,e,e1,e2⟩
  obtain⟨h,hh,eh⟩:=hk x hx
  exact⟨h,hh,⟨x,hx,eh.symm,e1⟩,y,hy,by rw[<-e,eh],e2⟩
 ·rintro⟨h,_,⟨x,hx,ex,e1⟩,y,hy,ey,e2⟩
  exact⟨x,hx,y,hy,ex.trans ey.symm,e1,e2⟩

def placeW(ps:List Pa)(hs:List Ho)(w:Sw):Option Nat:=match pix ps w.parcel,hix hs w.hold with|some i,some k=>some (i*hs.length+k)|_,_=>none
def stateA(ps:List Pa)(hs:List Ho)(set:Nat):Nat->List Int->List Sw->List Int
 |_,a,[]=>a
 |n,a,w::r=>stateA ps hs set (n+1) (if set.testBit n then(match placeW ps hs w with|some j=>a.set j (a.getD j 0+w.units)|none=>a)else a) r
def stateF(ps:List Pa)(hs:List Ho)(l:List Sw)(works:List Sw)(set:Nat):Option (List Sw):=(fromF ps hs (stateA ps hs set 0 (amountsF ps hs l) works)).toOption
def allowF(ps:List Pa)(hs:List Ho)(rs:List Ru)(l:List Sw)(works:List Sw)(set:Nat):Bool:=match stateF ps hs l works set with|some m=>keepsF ps hs rs m|none=>false
def taskF(ps:List Pa)(hs:List Ho)(rs:List Ru)(l:List Sw)(works:List Sw):Int:=
 if(checkR ps hs rs).2≠0 then 1 else if keepsF ps hs rs l=false then 11 else if 6<works.length then 8
 else if(works.any fun w=>decide (placeW ps hs w=none))=true then 7 else if(works.any fun w=>decide (w.units=0∨w.units< -9∨9<w.units))=true then 2 else 0
section
variable (ps:List Pa) (hs:List Ho) (rs:List Ru) (l works:List Sw)
def statesF(set:Int):List Sw×Int:=
 if taskF ps hs rs l works≠0 then([],taskF ps hs rs l works)else if set<0∨(fullN works.length:Nat)<set then([],2)
 else match stateF ps hs l works set.toNat with|some m=>(m,0)|none=>([],15)
def orderF:List Int×Int:=
 if taskF ps hs rs l works≠0 then([],taskF ps hs rs l works)
 else match restF (allowF ps hs rs l works) works.length works.length 0 with|some o=>(o.map fun(i:Nat)=>(i:Int),0)|none=>([],19)
def reachF:List Int×Int:=
 if taskF ps hs rs l works≠0 then([],taskF ps hs rs l works)else((reachedF (allowF ps hs rs l works) works.length (fullN works.length)).map fun(s:Nat)=>(s:Int),0)
def ordersF(o:List Int):Int×Int:=
 if taskF ps hs rs l works≠0 then(-1,taskF ps hs rs l works)else checkO (allowF ps hs rs l works) works.length o
def closedF(S:List Int):Int:=
 if taskF ps hs rs l works≠0 then taskF ps hs rs l works else if closedB (allowF ps hs rs l works) works.length S=true then 0 else 14
end
theorem seq_either(ps:List Pa)(hs:List Ho)(rs:List Ru)(l works:List Sw)(o S:List Int):
  ((orderF ps hs rs l works).2≠0->(orderF ps hs rs l works).2≠19->(reachF ps hs rs l works).2=(orderF ps hs rs l works).2/\(reachF ps hs rs l works).1=[])/\
  ((orderF ps hs rs l works).2=19->taskF ps hs rs l works=0->(reachF ps hs rs l works).2=0/\closedF ps hs rs l works (reachF ps hs rs l works).1=0/\(ordersF ps hs rs l works o).2≠0)/\
  ((orderF ps hs rs l works).2=0->(reachF ps hs rs l works).2=0/\closedF ps hs rs l works (reachF ps hs rs l works).1=14/\closedF ps hs rs l works S=14):=by
 unfold orderF reachF closedF ordersF
 by_cases ht:taskF ps hs rs l works≠0
 ·simp only[if_pos ht]
  exact⟨fun _ _=>⟨trivial,trivial⟩,fun _ k=>absurd k ht,fun k=>absurd k ht⟩
 ·simp only[if_neg ht]
  have hno:∀T,closedB (allowF ps hs rs l works) works.length T=true->¬∃x,restF (allowF ps hs rs l works) works.length works.length 0=some x:=fun T hT hx=>by
   have:=(rest_iff (left_le _ 0) (Nat.two_pow_pos _)).1 hx
   exact closed_no hT (full_iff.2 this)
  cases hr:restF (allowF ps hs rs l works) works.length works.length 0 with
  |some x=>
   have hc:∀T,closedB (allowF ps hs rs l works) works.length T=false:=fun T=>by
    cases e:closedB (allowF ps hs rs l works) works.length T with
    |false=>rfl
    |true=>exact absurd ⟨x,hr⟩ (hno T e)
   simp only[hc]
   simp
  |none=>
   have hnr:¬Rch (allowF ps hs rs l works) works.length (fullN works.length):=fun k=>by
    obtain⟨x,hx⟩:=(rest_iff (left_le _ 0) (Nat.two_pow_pos _)).2 (full_iff.1 k)
    rw[hr]at hx
    cases hx
   refine⟨fun _ k=>absurd rfl k,fun _ _=>⟨trivial,?_,fun k=>hnr (check_reach k)⟩,fun k=>absurd k (by decide)⟩
   rw[closed_own hnr]
   rfl
open Go Go.RowKit Go.Proofs Go.Proofs.YtgfkeadgjkfomaaGreatDoor.Vc Go.Maps

structure MpT (t tk te:Nat):Prop where
 t:Tryz.prog.underlying t=some (.map tk te)
 k:Tryz.prog.underlying tk=some (.int .i64)
 e:Tryz.prog.underlying te=some .bool
 z:∀w,(zeroValue te).run Tryz.prog w= .ok (.bool false) w
def kN(f:Int->Option Bool):Nat:=(List.range 128).countP fun z:Nat=>(f (z:Int)).isSome
theorem kN_le(f:Int->Option Bool):kN f<=128:=Nat.le_trans List.countP_le_length (by simp)
abbrev putM(f:Int->Option Bool)(z:Int)(x:Bool):Int->Option Bool:=fun y=>if y=z then some x else f y
theorem kN_put{f:Int->Option Bool}{z:Int}(h0:0<=z)(h1:z<128)(x:Bool):kN f+(if(f z).isSome then 0 else 1)=kN (putM f z x):=by
 have key:∀l:List Nat,l.Nodup->(l.countP fun y:Nat=>(f (y:Int)).isSome)+(if z.toNat∈l/\(f z).isSome=false then 1 else 0)=l.countP fun y:Nat=>(putM f z x (y:Int)).isSome:=by
  intro l
  induction l with
  |nil=>intro _;simp
  |cons a r ih=>
   intro hn
   obtain⟨n1,n2⟩:=List.nodup_cons.1 hn
   have ih:=ih n2
   rw[List.countP_cons,List.countP_cons]
   by_cases e:(a:Int)=z
   ·have ea:z.toNat=a:=by omega
    rw[if_neg (fun k=>n1 (ea▸k.1))]at ih
    subst e
    simp only[putM,↓reduceIte,Option.isSome_some,Int.toNat_natCast,List.mem_cons,true_or,true_and]at ih⊢
    rw[<-ih]
    cases f (a:Int)<;>simp
   ·have ea:z.toNat≠a:=by omega
    simp only[putM,if_neg e,List.mem_cons,ea,false_or]at ih⊢
    omega
 have:=key (List.range 128) List.nodup_range
 rw[<-show _=kN (putM f z x)from this]
 unfold kN
 have hm:z.toNat∈List.range 128:=List.mem_range.2 (by omega)
 cases hf:(f z).isSome<;>simp[hm]
def MpR(w:World)(B tk te b:Nat)(f:Int->Option Bool):Prop:=
 B<=b/\∃D:DataW Unit,w.ownsMap Tryz.prog tk (plainElem Tryz.prog te) b (Maps.size D) D/\Maps.size D<=kN f/\∀z,has D (.int .i64 z)=(f z).isSome/\D.atKey (.int .i64 z) (.lit (.bool false))= .lit (.bool ((f z).getD false))
section
variable {w:World} {B t tk te b:Nat} {f:Int->Option Bool}
theorem key_int(T:MpT t tk te){z:Int}(hz:(Lit.int .i64 z).wf=true):keyOf Tryz.prog tk (.int .i64 z)=some (.int .i64 z):=by simp[keyOf,mapKey,T.k,hz]
theorem MpR.made(w:World)(tk te:Nat){B:Nat}(hB:B<=w.heap.size):MpR (w.alloc (.map #[] 0)) B tk te w.heap.size fun _=>none:=
 ⟨hB,.map [],World.ownsMap_made w _ _ _,Nat.zero_le _,fun _=>⟨rfl,rfl⟩⟩
theorem MpR.lt(h:MpR w B tk te b f):b<w.heap.size:=by obtain⟨_,D,h,_⟩:=h;exact h.lt
theorem MpR.le{B':Nat}(h:MpR w B tk te b f)(hB:B'<=B):MpR w B' tk te b f:=⟨Nat.le_trans hB h.1,h.2⟩
theorem MpR.same{w':World}(h:MpR w B tk te b f)(hb:w'.heap[b]? =w.heap[b]?):MpR w' B tk te b f:=by
 obtain⟨h1,D,h2,h3⟩:=h
 refine⟨h1,D,?_,h3⟩
 obtain⟨es,clock,e1,F,e2,e3⟩:=h2
 exact⟨es,clock,hb.trans e1,F,e2,e3⟩
theorem MpR.below{w':World}(h:MpR w B tk te b f)(hb:Below w.heap.size w w'):MpR w' B tk te b f:=h.same (hb.block b h.lt)
theorem MpR.isMap(h:MpR w B tk te b f):∃es clock,w.heap[b]? =some (.map es clock):=by
 obtain⟨h1,D,⟨es,clock,e1,_⟩,h3⟩:=h
 exact⟨es,clock,e1⟩
theorem MpR.ext{B0:Nat}{ts:List Nat}{w':World}(h:MpR w B tk te b f)(x:Ext B0 ts w w'):MpR w' B tk te b f:=by
 refine h.same ?_
 obtain⟨es,clock,e1⟩:=h.isMap
 rcases x.other b h.lt with q|⟨_,_,c,c',fr,q,_⟩
 ·exact q
 ·rw[e1]at q
  cases q
theorem plain_bool_inv(T:MpT t tk te){v:Value}{z:DataW Unit×List MemPlace}(h:plainElem Tryz.prog te v=some z):∃x,v= .bool x/\z=(.lit (.bool x),[]):=by
 unfold plainElem at h
 rw[T.e]at h
 cases v<;>simp at h
 rename_i x
 exact⟨x,rfl,h.symm⟩
theorem MpR.look(h:MpR w B tk te b f)(T:MpT t tk te){z:Int}(hz:(Lit.int .i64 z).wf=true):(Instr.lookup t (.map (some b)) (.int .i64 z) false).run Tryz.prog w= .ok (.bool ((f z).getD false)) w:=by
 obtain⟨_,D,h2,_,h3⟩:=h
 obtain⟨v,ps,hrun,hv⟩:=h2.lookup (int_keyed T.k) T.t (T.z w) (plainElem_bool T.e false) (key_int T hz)
 obtain⟨x,rfl,hx⟩:=plain_bool_inv T hv
 simp only[Prod.mk.injEq]at hx
 rw[(h3 z).2]at hx
 cases hx.1
 exact hrun
theorem MpR.look_ok(h:MpR w B tk te b f)(T:MpT t tk te){z:Int}(hz:(Lit.int .i64 z).wf=true):(Instr.lookup t (.map (some b)) (.int .i64 z) true).run Tryz.prog w= .ok (.tuple #[.bool ((f z).getD false),.bool (f z).isSome]) w:=by
 obtain⟨_,D,h2,_,h3⟩:=h
 obtain⟨v,ps,hrun,hv⟩:=h2.look_ok (int_keyed T.k) T.t (T.z w) (plainElem_bool T.e false) (key_int T hz)
 obtain⟨x,rfl,hx⟩:=plain_bool_inv T hv
 simp only[Prod.mk.injEq]at hx
 rw[(h3 z).2]at hx
 cases hx.1
 rw[(h3 z).1]at hrun
 exact hrun
theorem MpR.update(h:MpR w B tk te b f)(T:MpT t tk te){z:Int}(h0:0<=z)(h128:z<128)(x:Bool):∃w',(Instr.mapUpdate t (.map (some b)) (.int .i64 z) (.bool x)).run Tryz.prog w= .ok () w'/\MpR w' B tk te b (putM f z x)/\w.grownBy w' (some b):=by
 have hz:(Lit.int .i64 z).wf=true:=by simp[Lit.wf,IntKind.min,IntKind.max,IntKind.signed,IntKind.bits];omega
 obtain⟨h1,D,h2,hs,h3⟩:=h
 have K:Keyed Tryz.prog tk:=int_keyed T.k
 have hk128:=kN_le f
 obtain⟨w',hrun,hown,hg⟩:=h2.update K T.t (by unfold maxLen;omega) (key_int T hz) (plainElem_bool T.e x)
 have hm:=h2.isMap
 have hk:=K.key (key_int T hz)
 have hsz:=size_put (k:= .int .i64 z) (h2.tidy K) (.lit (.bool x))
 refine⟨w',hrun,⟨h1,D.put (.int .i64 z) (.lit (.bool x)),?_,?_,fun y=> ?_⟩,hg⟩
 ·obtain⟨es,clock,e1,F,e2,e3⟩:=hown
  exact⟨es,clock,e1,F,by rw[e3];simp[Maps.size,length_sorted],e3⟩
 ·rw[hsz,(h3 z).1,<-kN_put h0 h128 x]
  split<;>simp_all
 ·show has _ _=(putM f z x y).isSome/\_=DataW.lit (Lit.bool ((putM f z x y).getD false))
  unfold putM
  by_cases e:y=z
  ·subst e
   rw[if_pos rfl,has_put_same hm hk,atKey_put_same hm hk]
   exact⟨rfl,rfl⟩
  ·have hne:(Lit.int .i64 y)≠ .int .i64 z:=fun k=>by cases k;exact e rfl
   rw[if_neg e,has_put_other hne,atKey_put_other hne]
   exact h3 y
theorem map_kept{w':World}(h:MpR w B tk te b f)(hg:w.grownBy w' (some b)){k ty:Nat}{cs:Array Value}{fr:Nat×Nat}(hk:w.heap[k]? =some (.cells cs ty fr)):w'.heap[k]? =w.heap[k]? :=by
 obtain⟨es,clock,e1⟩:=h.isMap
 refine hg.block k (Array.getElem?_eq_some_iff.1 hk).1 fun e=> ?_
 cases e
 rw[e1]at hk
 cases hk
theorem wf_small{z:Int}(h0:0<=z)(h1:z<128):(Lit.int .i64 z).wf=true:=by simp[Lit.wf,IntKind.min,IntKind.max,IntKind.signed,IntKind.bits];omega
theorem runOk_look(h:MpR w B tk te b f)(T:MpT t tk te){z:Int}(h0:0<=z)(h1:z<128){B0:Nat}{tys:List Nat}{K:Bool->World->Prop}(hK:K ((f z).getD false) w):
  RunOk Tryz.prog (Instr.lookup t (.map (some b)) (.int .i64 z) false) B0 tys w fun r w1=>∃x,r= .bool x/\K x w1:=
 ⟨_,w,h.look T (wf_small h0 h1),Below.refl _ _,Nat.le_refl _,fun _ _ _ _ _=>rfl,_,rfl,hK⟩
theorem runOk_lookOk(h:MpR w B tk te b f)(T:MpT t tk te){z:Int}(h0:0<=z)(h1:z<128){B0:Nat}{tys:List Nat}{K:Bool->Bool->World->Prop}(hK:K ((f z).getD false) (f z).isSome w):
  RunOk Tryz.prog (Instr.lookup t (.map (some b)) (.int .i64 z) true) B0 tys w fun r w1=>∃x y,r= .tuple #[.bool x,.bool y]/\K x y w1:=
 ⟨_,w,h.look_ok T (wf_small h0 h1),Below.refl _ _,Nat.le_refl _,fun _ _ _ _ _=>rfl,_,_,rfl,hK⟩
theorem runOk_update(h:MpR w B tk te b f)(T:MpT t tk te){z:Int}(h0:0<=z)(h1:z<128)(x:Bool){B0:Nat}(hB0:B0<=B)(hBw:B0<=w.heap.size){tys:List Nat}{K:World->Prop}
  (hK:∀w',MpR w' B tk te b (putM f z x)->Below B0 w w'->w.grownBy w' (some b)->K w'):
  RunOkU Tryz.prog (Instr.mapUpdate t (.map (some b)) (.int .i64 z) (.bool x)) B0 tys w K:=by
 obtain⟨w',hrun,hm,hg⟩:=h.update T h0 h1 x
 have hb:Below B0 w w':=below_grown hg (fun k hk=>by cases hk;exact Nat.le_trans hB0 h.1) hBw
 exact⟨w',hrun,hb,hb.size,fun k ty cs _ hk=>map_kept h hg hk,hK w' hm hb hg⟩
theorem runOk_makeMap{w:World}{t tk te:Nat}{B:Nat}{tys:List Nat}(hB:B<=w.heap.size){K:Option Nat->World->Prop}
  (hK:∀w',MpR w' w.heap.size tk te w.heap.size (fun _=>none)->Below w.heap.size w w'->K (some w.heap.size) w'):
  RunOk Tryz.prog (Instr.makeMap t none) B tys w fun r w1=>∃m:Option Nat,r= .map m/\K m w1:=by
 have hg:=World.grownBy_alloc w (.map #[] 0) none
 have hb:Below w.heap.size w (w.alloc (.map #[] 0)):=below_grown hg (by simp) (Nat.le_refl _)
 exact⟨_,_,run_makeMap t w,hb.mono hB,hb.size,fun k ty cs _ hk=>hb.block k (Array.getElem?_eq_some_iff.1 hk).1,_,rfl,hK _ (MpR.made w tk te (Nat.le_refl _)) hb⟩
end
structure Cl (w w':World):Prop where
 size:w.heap.size<=w'.heap.size
 cells:∀(k:Nat)(cs:Array Value)(ty:Nat)(fr:Nat×Nat),w.heap[k]? =some (Obj.cells cs ty fr)->w'.heap[k]? =some (Obj.cells cs ty fr)
theorem Cl.refl(w:World):Cl w w:=⟨Nat.le_refl _,fun _ _ _ _ h=>h⟩
theorem Cl.trans{w w1 w2:World}(h:Cl w w1)(k:Cl w1 w2):Cl w w2:=⟨Nat.le_trans h.size k.size,fun b cs ty fr e=>k.cells b cs ty fr (h.cells b cs ty fr e)⟩
theorem Cl.low{w w':World}(h:Below w.heap.size w w'):Cl w w':=⟨h.size,fun k cs ty fr e=>(h.block k (Array.getElem?_eq_some_iff.1 e).1).trans e⟩
theorem Cl.map{w w':World}{B tk te b:Nat}{f:Int->Option Bool}(h:MpR w B tk te b f)(hg:w.grownBy w' (some b)):Cl w w':=⟨hg.size,fun k cs ty fr e=>(map_kept h hg e).trans e⟩
theorem SlR.cl{w w':World}{A:Option Addr}{sz:Nat}{rows:List (List Value)}(h:SlR w A sz rows)(c:Cl w w'):SlR w' A sz rows:=by
 rcases h with h|⟨b,off,cs,ty,fr,hA,hh,hc⟩
 ·exact .inl h
 ·exact .inr ⟨b,off,cs,ty,fr,hA,c.cells _ _ _ _ hh,hc⟩
theorem OwnR.cl{w w':World}{B ty:Nat}{A:Option Addr}{n c sz:Nat}{rows:List (List Value)}(h:OwnR w B ty A n c sz rows)(k:Cl w w'):OwnR w' B ty A n c sz rows:=by
 refine⟨⟨h.1.1,?_⟩,h.2⟩
 rcases h.1.2 with h1|⟨g,cap,cur,h1,h2,h3,h4⟩
 ·exact .inl h1
 ·exact .inr ⟨g,cap,cur,h1,h2,k.cells _ _ _ _ h3,h4⟩

structure Rm where
 r:Ru
 A:Option Addr
 n:Nat
 c:Nat
abbrev Rm.row(x:Rm):List Value:=[.string x.r.name,.int .i64 x.r.kind,.slice x.A x.n x.c,.string x.r.low,.string x.r.high,.int .i64 x.r.a,.int .i64 x.r.b]
abbrev Rm.val(x:Rm):Value:= .agg #[.string x.r.name,.int .i64 x.r.kind,.slice x.A x.n x.c,.string x.r.low,.string x.r.high,.int .i64 x.r.a,.int .i64 x.r.b]
structure SmRu (r:Ru):Prop where
 fac:∀s∈r.fac,SmS s
 low:SmS r.low
 high:SmS r.high
 name:r.name.size<2147483648
 len:r.fac.length<=8
structure RmIn (w:World) (x:Rm):Prop where
 f:SlR w x.A 1 (x.r.fac.map sRow)
 l:x.r.fac.length=x.n
 s:SmRu x.r
 z:x.A=none->x.c=0
theorem RmIn.keep{w w':World}{x:Rm}(h:RmIn w x)(hb:Below w.heap.size w w'):RmIn w' x:=⟨h.f.keep hb (Nat.le_refl _),h.l,h.s,h.z⟩
theorem RmIn.cl{w w':World}{x:Rm}(h:RmIn w x)(c:Cl w w'):RmIn w' x:=⟨h.f.cl c,h.l,h.s,h.z⟩
structure PrIn (w:World) (A0:Option Addr) (n0:Nat) (A1:Option Addr) (n1:Nat) (A2:Option Addr) (n2 c2:Nat) (ps:List Pa) (hs:List Ho) (xs:List Rm):Prop where
 c:CgIn w A0 n0 A1 n1 ps hs
 r:SlR w A2 7 (xs.map Rm.row)
 l:xs.length=n2
 f:∀x∈xs,RmIn w x
 n:n2<=17
 k:n2<=c2
abbrev rsOf(xs:List Rm):List Ru:=xs.map Rm.r
section
variable {w w':World} {A0 A1 A2:Option Addr} {n0 n1 n2 c2:Nat} {ps:List Pa} {hs:List Ho} {xs:List Rm}
theorem PrIn.keep(h:PrIn w A0 n0 A1 n1 A2 n2 c2 ps hs xs)(hb:Below w.heap.size w w'):PrIn w' A0 n0 A1 n1 A2 n2 c2 ps hs xs:=
 ⟨h.c.keep hb,h.r.keep hb (Nat.le_refl _),h.l,fun x hx=>(h.f x hx).keep hb,h.n,h.k⟩
theorem CgIn.cl(h:CgIn w A0 n0 A1 n1 ps hs)(c:Cl w w'):CgIn w' A0 n0 A1 n1 ps hs:=⟨h.p.cl c,h.h.cl c,h.lp,h.lh,h.sp,h.sh,h.np,h.nh⟩
theorem PrIn.cl(h:PrIn w A0 n0 A1 n1 A2 n2 c2 ps hs xs)(c:Cl w w'):PrIn w' A0 n0 A1 n1 A2 n2 c2 ps hs xs:=
 ⟨h.c.cl c,h.r.cl c,h.l,fun x hx=>(h.f x hx).cl c,h.n,h.k⟩
theorem PrIn.at_(h:PrIn w A0 n0 A1 n1 A2 n2 c2 ps hs xs){i:Nat}(hi:i<xs.length):
  (0<=(i:Int)/\(i:Int)<n2)/\∃a,A2=some a/\CellsAt w (a.add ((i:Int).toNat*7)) (xs[i].row)/\∀k u,(xs[i].row)[k]? =some u->CellsAt w ((a.add ((i:Int).toNat*7)).add k) [u]:=
 h.r.at_ (fun _=>rfl) h.l hi
end

def addAt(a:List Int)(j:Nat)(u:Int):List Int:=a.set j (a.getD j 0+u)
theorem addAt_len(a:List Int)(j:Nat)(u:Int):(addAt a j u).length=a.length:=by unfold addAt;simp
theorem addAt_get{a:List Int}{j:Nat}{u:Int}{i:Nat}:(addAt a j u)[i]? =if j=i/\i<a.length then some (a.getD i 0+u)else a[i]? :=by
 unfold addAt
 rw[List.getElem?_set]
 by_cases e:j=i
 ·subst e
  by_cases h:j<a.length
  ·simp[h]
  ·simp[h]
 ·simp[e]
theorem stateA_cons(ps:List Pa)(hs:List Ho)(set n:Nat)(a:List Int)(w:Sw)(r:List Sw):stateA ps hs set n a (w::r)=stateA ps hs set (n+1) (if set.testBit n then(match placeW ps hs w with|some j=>addAt a j w.units|none=>a)else a) r:=by
 rw[stateA]
 rfl

def difE(f:Nat->Nat->Int)(ps:List Pa)(hs:List Ho)(k i:Nat):List Sw:=
 match hs[k]?,ps[i]? with
 |some h,some p=>if f i k≠0 then[⟨h.id,p.id,f i k⟩]else[]
 |_,_=>[]
def difG(f:Nat->Nat->Int)(ps:List Pa)(hs:List Ho):List Sw:=(List.range hs.length).flatMap fun k=>(List.range ps.length).flatMap fun i=>difE f ps hs k i
theorem mem_difE{f:Nat->Nat->Int}{ps:List Pa}{hs:List Ho}{k i:Nat}{s:Sw}:s∈difE f ps hs k i↔∃h p,hs[k]? =some h/\ps[i]? =some p/\f i k≠0/\s=⟨h.id,p.id,f i k⟩:=by
 unfold difE
 constructor
 ·intro h
  split at h
  ·rename_i h' p e1 e2
   split at h
   ·rename_i h0
    rw[List.mem_singleton]at h
    exact⟨h',p,e1,e2,h0,h⟩
   ·cases h
  ·cases h
 ·rintro⟨h,p,e1,e2,h0,rfl⟩
  rw[e1,e2]
  simp only
  rw[if_pos h0]
  simp
theorem mem_dif{f:Nat->Nat->Int}{ps:List Pa}{hs:List Ho}{s:Sw}:s∈difG f ps hs↔∃k i h p,hs[k]? =some h/\ps[i]? =some p/\f i k≠0/\s=⟨h.id,p.id,f i k⟩:=by
 unfold difG
 simp only[List.mem_flatMap,List.mem_range,mem_difE]
 constructor
 ·rintro⟨k,_,i,_,h,p,e⟩
  exact⟨k,i,h,p,e⟩
 ·rintro⟨k,i,h,p,e1,e2,e⟩
  exact⟨k,(List.getElem?_eq_some_iff.1 e1).1,i,(List.getElem?_eq_some_iff.1 e2).1,h,p,e1,e2,e⟩
def workG(f:Nat->Nat->Int)(ps:List Pa)(hs:List Ho):List Sw:=(difG f ps hs).filter (fun s=>decide (s.units<0))++(difG f ps hs).filter fun s=>decide (0<s.units)
def difA(ps:List Pa)(hs:List Ho)(l m:List Sw)(i k:Nat):Int:=fA ps hs m i k - fA ps hs l i k

structure TaskOk (ps:List Pa) (hs:List Ho) (rs:List Ru) (l works:List Sw):Prop where
 rules:(checkR ps hs rs).2=0
 keeps:keepsF ps hs rs l=true
 n:works.length<=6
 place:∀w∈works,∃j,placeW ps hs w=some j
 u:∀w∈works,¬(w.units=0∨w.units< -9∨9<w.units)
theorem task_ok{ps:List Pa}{hs:List Ho}{rs:List Ru}{l works:List Sw}(h:taskF ps hs rs l works=0):TaskOk ps hs rs l works:=by
 unfold taskF at h
 split at h
 ·simp at h
 ·rename_i h1
  split at h
  ·simp at h
  ·rename_i h2
   split at h
   ·simp at h
   ·rename_i h3
    split at h
    ·simp at h
    ·rename_i h4
     split at h
     ·simp at h
     ·rename_i h5
      refine⟨Decidable.not_not.1 h1,by simpa using h2,by omega,fun w hw=> ?_,fun w hw k=> ?_⟩
      ·cases e:placeW ps hs w with
       |some j=>exact⟨j,rfl⟩
       |none=>exact absurd (List.any_eq_true.2 ⟨w,hw,by simpa using e⟩) h4
      ·exact h5 (List.any_eq_true.2 ⟨w,hw,by simpa using k⟩)
theorem keeps_right{ps:List Pa}{hs:List Ho}{rs:List Ru}{l:List Sw}(h:keepsF ps hs rs l=true):checkC ps hs=0/\stowedF ps hs l=0/\RightS ps hs l:=by
 unfold keepsF rightF at h
 simp only[Bool.and_eq_true,decide_eq_true_eq]at h
 exact⟨(checkR_zero h.1.1.1).1,h.1.1.2,stowed_right h.1.1.2⟩
theorem stateA_zero(ps:List Pa)(hs:List Ho):∀(r:List Sw)(n:Nat)(a:List Int),stateA ps hs 0 n a r=a:=by
 intro r
 induction r with
 |nil=>intro n a;rfl
 |cons w r ih=>
  intro n a
  rw[stateA_cons,Nat.zero_testBit,if_neg (by decide),ih]
theorem state_zero{ps:List Pa}{hs:List Ho}{l works:List Sw}(hc:checkC ps hs=0)(h:RightS ps hs l):stateF ps hs l works 0=some l:=by
 unfold stateF
 rw[stateA_zero,from_amounts hc h]
 rfl
theorem state_right{ps:List Pa}{hs:List Ho}{l works c:List Sw}{s:Nat}(h:stateF ps hs l works s=some c):checkC ps hs=0/\RightS ps hs c/\amountsF ps hs c=stateA ps hs s 0 (amountsF ps hs l) works:=by
 unfold stateF at h
 cases e:fromF ps hs (stateA ps hs s 0 (amountsF ps hs l) works)with
 |error x=>rw[e]at h;cases h
 |ok y=>
  rw[e]at h
  cases h
  exact from_ok e

def leL(a b:List Int):Prop:=a.length=b.length/\∀i,a.getD i 0<=b.getD i 0
theorem leL.refl(a:List Int):leL a a:=⟨rfl,fun _=>Int.le_refl _⟩
theorem addAt_getD(a:List Int)(j:Nat)(u:Int)(i:Nat):(addAt a j u).getD i 0=if j=i/\i<a.length then a.getD i 0+u else a.getD i 0:=by
 rw[List.getD_eq_getElem?_getD,addAt_get]
 split
 ·rfl
 ·rw[List.getD_eq_getElem?_getD]
theorem leL.add{a b:List Int}(h:leL a b)(j:Nat)(u:Int):leL (addAt a j u) (addAt b j u):=by
 refine⟨by rw[addAt_len,addAt_len,h.1],fun i=> ?_⟩
 rw[addAt_getD,addAt_getD,h.1]
 have:=h.2 i
 split<;>omega
theorem leL.addR{a b:List Int}(h:leL a b)(j:Nat){u:Int}(hu:0<=u):leL a (addAt b j u):=by
 refine⟨by rw[addAt_len,h.1],fun i=> ?_⟩
 rw[addAt_getD]
 have:=h.2 i
 split<;>omega
theorem stateA_mono{ps:List Pa}{hs:List Ho}{s t:Nat}(hst:∀i,s.testBit i=true->t.testBit i=true):∀(r:List Sw)(n:Nat)(a b:List Int),(∀w∈r,0<=w.units)->leL a b->leL (stateA ps hs s n a r) (stateA ps hs t n b r):=by
 intro r
 induction r with
 |nil=>intro n a b _ h;exact h
 |cons w r ih=>
  intro n a b hu h
  rw[stateA_cons,stateA_cons]
  refine ih _ _ _ (fun x hx=>hu x (by simp[hx])) ?_
  have h0:=hu w (by simp)
  by_cases hs':s.testBit n=true
  ·rw[if_pos hs',if_pos (hst n hs')]
   split
   ·exact h.add _ _
   ·exact h
  ·rw[if_neg hs']
   split
   ·split
    ·exact h.addR _ h0
    ·exact h
   ·exact h

theorem nodup_len{A:List Int}:∀{B:List Int},A.Nodup->(∀x∈A,x∈B)->A.length<=B.length:=by
 induction A with
 |nil=>intro B _ _;simp
 |cons x r ih=>
  intro B hn hs
  obtain⟨n1,n2⟩:=List.nodup_cons.1 hn
  have hx:=hs x (by simp)
  have:=ih (B:=B.erase x) n2 fun y hy=>by
   rw[List.mem_erase_of_ne (fun e=>n1 (by rw[<-e];exact hy))]
   exact hs y (by simp[hy])
  rw[List.length_erase_of_mem hx]at this
  have:=List.length_pos_of_mem hx
  simp
  omega
theorem inS_len{ps:List Pa}{hs:List Ho}{l:List Sw}(h:RightS ps hs l)(id:Int):(inS l id).length<=ps.length:=by
 have hn:((inS l id).map fun s=>s.parcel).Nodup:=by
  have hsrt:SrtS (inS l id):=List.Pairwise.filter _ h.srt
  refine List.pairwise_map.2 (List.Pairwise.imp_of_mem ?_ hsrt)
  intro x y hx hy hb
  have hx:=(List.mem_filter.1 hx).2
  have hy:=(List.mem_filter.1 hy).2
  simp at hx hy
  unfold befS at hb
  omega
 have:=nodup_len hn (B:=ps.map fun p=>p.id) fun x hx=>by
  obtain⟨s,hs',rfl⟩:=List.mem_map.1 hx
  obtain⟨i,_,hi,_⟩:=h.known s (List.mem_filter.1 hs').1
  obtain⟨p,e,e2⟩:=pix_some hi
  exact List.mem_map.2 ⟨p,List.mem_of_getElem? e,e2⟩
 simpa using this
theorem small_num{s:ByteArray}(h:vR s=true)(hs:s.size<=4):qR s<=9999:=by
 obtain⟨h1,_⟩:=vR_sm h hs
 rw[Rat.le_iff]
 have hd:=(qR s).den_pos
 have e1:((9999:Rat)).num=9999:=rfl
 have e2:((9999:Rat)).den=1:=rfl
 rw[e1,e2]
 have:(qR s).num<=9999:=by omega
 have:(9999:Int)*1<=9999*((qR s).den:Int):=by omega
 simp
 omega
theorem sum_le{f:Sw->Rat}{b:Rat}:∀{l:List Sw},(∀s∈l,f s<=b)->sumR f l<=(l.length:Rat)*b:=by
 intro l
 induction l with
 |nil=>intro _;simp[sumR]
 |cons s r ih=>
  intro h
  have q1:=h s (by simp)
  have q2:=ih fun x hx=>h x (by simp[hx])
  rw[show s::r=[s]++r from rfl,sumR_append,sumR_one]
  have:(((r.length+1:Nat)):Rat)=(r.length:Rat)+1:=by simp
  rw[show([s]++r).length=r.length+1 by simp,this]
  grind
theorem hold_le{ps:List Pa}{hs:List Ho}{l:List Sw}(h:RightS ps hs l){f:Pa->ByteArray}(hf:∀p∈ps,vR (f p)=true/\(f p).size<=4/\0<=qR (f p))(id:Int):sumR (tP ps f) (inS l id)<=539946:=by
 have hl:=inS_len h id
 have h6:=h.c.lp
 have hb:∀s∈inS l id,tP ps f s<=89991:=fun s hs'=>by
  have hm:=(List.mem_filter.1 hs').1
  obtain⟨i,_,hi,_⟩:=h.known s hm
  obtain⟨p,e,_⟩:=pix_some hi
  obtain⟨v1,v2,v3⟩:=hf p (List.mem_of_getElem? e)
  have hu:=((h.ld (by have:=h.len;omega)).u s hm)
  unfold tP
  rw[gP_at hi e]
  have u9:((s.units:Int):Rat)<=9:=by
   have:=Rat.intCast_le_intCast (a:=s.units) (b:=9)
   exact this.2 hu.2
  have q1:=Rat.mul_le_mul_of_nonneg_right u9 v3
  have q2:=Rat.mul_le_mul_of_nonneg_left (small_num v1 v2) (show(0:Rat)<=9 by decide)
  refine Rat.le_trans q1 (Rat.le_trans q2 ?_)
  decide+kernel
 refine Rat.le_trans (sum_le hb) ?_
 have hn:((inS l id).length:Rat)<=6:=by
  have:=Rat.intCast_le_intCast (a:=((inS l id).length:Int)) (b:=6)
  have:=this.2 (by omega)
  rw[Rat.intCast_natCast]at this
  exact this
 have q:=Rat.mul_le_mul_of_nonneg_right hn (show(0:Rat)<=89991 by decide)
 refine Rat.le_trans q ?_
 decide+kernel

theorem leL.drop{a b:List Int}(h:leL a b)(k:Nat):leL (a.drop k) (b.drop k):=by
 refine⟨by rw[List.length_drop,List.length_drop,h.1],fun i=> ?_⟩
 have:=h.2 (k+i)
 rw[List.getD_eq_getElem?_getD,List.getD_eq_getElem?_getD]at*
 rwa [List.getElem?_drop,List.getElem?_drop]
theorem leL.take{a b:List Int}(h:leL a b)(k:Nat):leL (a.take k) (b.take k):=by
 refine⟨by rw[List.length_take,List.length_take,h.1],fun i=> ?_⟩
 have:=h.2 i
 rw[List.getD_eq_getElem?_getD,List.getD_eq_getElem?_getD]at*
 rw[List.getElem?_take,List.getElem?_take]
 by_cases hk:i<k
 ·rwa [if_pos hk,if_pos hk]
 ·rw[if_neg hk,if_neg hk]
  exact Int.le_refl _
theorem leL.sum:∀{a b:List Int},leL a b->a.sum<=b.sum:=by
 intro a
 induction a with
 |nil=>
  intro b h
  have:b=[]:=List.length_eq_zero_iff.1 h.1.symm
  subst this
  exact Int.le_refl _
 |cons x r ih=>
  intro b h
  cases b with
  |nil=>exact absurd h.1 (by simp)
  |cons y t=>
   rw[List.sum_cons,List.sum_cons]
   have h0:=h.2 0
   have ht:leL r t:=⟨by have:=h.1;simpa using this,fun i=>by have:=h.2 (i+1);simpa using this⟩
   have:=ih ht
   simp at h0
   omega
theorem leL.row{a b:List Int}(h:leL a b)(n i:Nat):leL (rowA a n i) (rowA b n i):=by
 unfold rowA
 exact(h.drop _).take _
theorem leL.nonneg{a b:List Int}(h:leL a b)(ha:∀i,0<=a.getD i 0):∀x∈b,0<=x:=fun x hx=>by
 obtain⟨i,hi⟩:=List.getElem?_of_mem hx
 have h1:=h.2 i
 have h2:=ha i
 have e:b.getD i 0=x:=by rw[List.getD_eq_getElem?_getD,hi];rfl
 omega
theorem from_le{ps:List Pa}{hs:List Ho}{a b:List Int}{m:List Sw}(h:leL a b)(ha:∀x∈a,0<=x)(hb:fromF ps hs b= .ok m):∃c,fromF ps hs a= .ok c:=by
 obtain⟨hck,hr,ham⟩:=from_ok hb
 have hlen:b.length=ps.length*hs.length:=by rw[<-ham,amounts_len]
 have hbn:∀x∈b,0<=x:=fun x hx=>by
  rw[<-ham]at hx
  unfold amountsF at hx
  obtain⟨p,_,hn⟩:=List.mem_flatMap.1 hx
  obtain⟨h',_,rfl⟩:=List.mem_map.1 hn
  exact amt_nonneg hr.pos _ _
 have hfb:fullA ps hs b=false:=by
  cases e:fullA ps hs b with
  |false=>rfl
  |true=>
   unfold fromF at hb
   rw[if_neg (fun k=>k hck),if_neg (fun k=>k hlen)]at hb
   split at hb
   ·cases hb
   ·cases hb
 have hfa:fullA ps hs a=false:=by
  unfold fullA at hfb⊢
  rw[List.any_eq_false]at hfb⊢
  intro i hi
  have hil:=List.mem_range.1 hi
  have h1:=hfb i hi
  rw[List.getElem?_eq_getElem hil]at h1⊢
  simp only at h1⊢
  have ra:∀x∈rowA a hs.length i,0<=x:=fun x hx=>by unfold rowA at hx;exact ha x (List.mem_of_mem_drop (List.mem_of_mem_take hx))
  have rb:∀x∈rowA b hs.length i,0<=x:=fun x hx=>by unfold rowA at hx;exact hbn x (List.mem_of_mem_drop (List.mem_of_mem_take hx))
  rw[Bool.not_eq_true,overL_false rb]at h1
  rw[Bool.not_eq_true,overL_false ra]
  have hle:=h.row hs.length i
  rcases h1 with h1|h1
  ·left
   have:=hle.1
   rw[h1]at this
   exact List.length_eq_zero_iff.1 (by simpa using this)
  ·right
   exact Int.le_trans hle.sum h1
 refine⟨stowsG (getA a hs.length) ps hs,?_⟩
 unfold fromF
 rw[if_neg (fun k=>k hck),if_neg (fun k=>k (h.1.trans hlen)),if_neg,if_neg (by rw[hfa];simp)]
 rw[Bool.not_eq_true,List.any_eq_false]
 intro x hx
 have:=ha x hx
 simp
 omega

theorem amts_nil(ps:List Pa)(hs:List Ho)(i:Nat):(amountsF ps hs []).getD i 0=0:=by
 rw[amounts_nil,List.getD_eq_getElem?_getD,List.getElem?_replicate]
 split<;>rfl
theorem free_allowed{ps:List Pa}{hs:List Ho}{works:List Sw}(ht:TaskOk ps hs [] [] works)(hm:∀p∈ps,p.mass.size<=4/\p.vol.size<=4)(hb:∀h∈hs,qR h.most=1000000/\qR h.room=1000000)(hpos:∀w∈works,0<=w.units)
  {m:List Sw} (hf:stateF ps hs [] works (fullN works.length)=some m):∀s,s<2^works.length->allowF ps hs [] [] works s=true:=by
 intro s hs'
 obtain⟨hck,_,hr0⟩:=keeps_right ht.keeps
 have hsub:∀i,s.testBit i=true->(fullN works.length).testBit i=true:=fun i hi=>by
  rw[full_bit,decide_eq_true_eq]
  apply Decidable.byContradiction
  intro k
  rw[Nat.testBit_lt_two_pow (Nat.lt_of_lt_of_le hs' (Nat.pow_le_pow_right (by decide) (by omega)))]at hi
  cases hi
 have h1:=stateA_mono (ps:=ps) (hs:=hs) hsub works 0 _ _ hpos (leL.refl (amountsF ps hs []))
 have h0:=stateA_mono (ps:=ps) (hs:=hs) (s:=0) (t:=s) (fun i hi=>by rw[Nat.zero_testBit]at hi;cases hi) works 0 _ _ hpos (leL.refl (amountsF ps hs []))
 rw[stateA_zero]at h0
 have hnn:=h0.nonneg fun i=>by rw[amts_nil];exact Int.le_refl _
 have hfull:∃m,fromF ps hs (stateA ps hs (fullN works.length) 0 (amountsF ps hs []) works)= .ok m:=by
  unfold stateF at hf
  cases e:fromF ps hs (stateA ps hs (fullN works.length) 0 (amountsF ps hs []) works)with
  |error x=>rw[e]at hf;cases hf
  |ok y=>exact⟨y,rfl⟩
 obtain⟨y,hy⟩:=hfull
 obtain⟨c,hc⟩:=from_le h1 hnn hy
 have hst:stateF ps hs [] works s=some c:=by unfold stateF;rw[hc];rfl
 obtain⟨_,hr,_⟩:=state_right hst
 unfold allowF
 rw[hst]
 simp only
 unfold keepsF rightF
 rw[decide_eq_true ht.rules,decide_eq_true (right_stowed hck hr),decide_eq_true]
 ·rfl
 ·refine List.findIdx?_eq_none_iff.2 fun h hh=> ?_
  have q1:=hold_le hr (f:=Pa.mass) (fun p hp=>by
   have hv:=hr.c.vp p hp
   have h1:=(hr.c.p1 p hp).2.2.2.1
   unfold vP at hv
   simp only[Bool.and_eq_true]at hv
   exact⟨hv.1.1,(hm p hp).1,Rat.le_of_lt h1⟩) h.id
  have q2:=hold_le hr (f:=Pa.vol) (fun p hp=>by
   have hv:=hr.c.vp p hp
   have h1:=(hr.c.p1 p hp).2.2.2.2.1
   unfold vP at hv
   simp only[Bool.and_eq_true]at hv
   exact⟨hv.1.2,(hm p hp).2,Rat.le_of_lt h1⟩) h.id
  have hlt:(539946:Rat)<=1000000:=by decide+kernel
  unfold overB
  rw[(hb h hh).1,(hb h hh).2,decide_eq_false (Rat.not_lt.2 (Rat.le_trans q1 hlt)),decide_eq_false (Rat.not_lt.2 (Rat.le_trans q2 hlt))]
  rfl

theorem full_add(k:Nat):addB (fullN k) k=fullN (k+1):=by
 refine Nat.eq_of_testBit_eq fun j=> ?_
 rw[addB_bit,full_bit,full_bit]
 by_cases e:k=j
 ·subst e;simp
 ·rw[decide_eq_false e,Bool.or_false,decide_eq_decide]
  omega
theorem rest_all{al:Nat->Bool}{n:Nat}(h:∀s,s<2^n->al s=true):∀(d k:Nat),n - k<=d->k<=n->restF al n d (fullN k)=some (List.range' k (n - k)):=by
 intro d
 induction d with
 |zero=>
  intro k hd hk
  have:k=n:=by omega
  subst this
  rw[restF,if_pos rfl]
  simp
 |succ d ih=>
  intro k hd hk
  rw[restF]
  by_cases hkn:k=n
  ·subst hkn
   rw[if_pos rfl]
   simp
  ·have hne:fullN k≠fullN n:=fun e=>by
    have h1:=full_bit k k
    have h2:=full_bit n k
    rw[e]at h1
    rw[h1]at h2
    simp at h2
    omega
   rw[if_neg hne]
   have hsplit:List.range n=List.range k++k::List.range' (k+1) (n - (k+1)):=by
    rw[List.range_eq_range',List.range_eq_range']
    have e:n=k+((n - (k+1))+1):=by omega
    conv=>lhs;rw[e]
    rw[<-List.range'_append_1,Nat.zero_add,List.range'_succ]
   rw[hsplit,List.findSome?_append,List.findSome?_eq_none_iff.2 fun i hi=> ?_]
   ·rw[Option.none_or,List.findSome?_cons,full_bit,decide_eq_false (Nat.lt_irrefl k),full_add]
    have hlt:fullN (k+1)<2^n:=Nat.lt_of_lt_of_le (full_lt (k+1)) (Nat.pow_le_pow_right (by decide) (by omega))
    rw[h _ hlt,ih (k+1) (by omega) (by omega)]
    simp only[Bool.not_true,Bool.or_self,Bool.false_eq_true,if_false,Option.map_some]
    rw[show n - k=(n - (k+1))+1 by omega,List.range'_succ]
   ·rw[full_bit,decide_eq_true (List.mem_range.1 hi)]
    simp
theorem order_all{al:Nat->Bool}{n:Nat}(h:∀s,s<2^n->al s=true):restF al n n 0=some (List.range n):=by
 have:=rest_all h n 0 (by omega) (by omega)
 rw[show fullN 0=0 from rfl]at this
 rw[this,List.range_eq_range',Nat.sub_zero]
theorem walk_all{al:Nat->Bool}{n:Nat}(h:∀s,s<2^n->al s=true):∀(o:List Int)(s k:Nat),s<2^n->(∀x∈o,0<=x/\x<n)->walkO al s k o=(-1,0):=by
 intro o
 induction o with
 |nil=>intro s k _ _;rfl
 |cons x r ih=>
  intro s k hs hx
  obtain⟨x0,x1⟩:=hx x (by simp)
  have hlt:=addB_lt hs (show x.toNat<n by omega)
  rw[walkO,if_pos (h _ hlt)]
  exact ih _ _ hlt fun y hy=>hx y (by simp[hy])
theorem check_all{al:Nat->Bool}{n:Nat}(h:∀s,s<2^n->al s=true)(o:List Int):checkO al n o=(-1,0)∨checkO al n o=(-1,10):=by
 unfold checkO
 split
 ·exact .inr rfl
 ·rename_i hc
  have hp:=check_perm (Classical.not_not.1 hc)
  refine .inl (walk_all h o 0 0 (Nat.two_pow_pos n) fun x hx=> ?_)
  obtain⟨i,hi,rfl⟩:=List.mem_map.1 (hp.mem_iff.1 hx)
  have:=List.mem_range.1 hi
  omega
end Go.Proofs.YtgfkeadgjkfomaaGreatDoor.B
