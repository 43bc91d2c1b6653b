/- Part 11 of the proofs that: the steps between two stowages join them, and an order keeps the problem -/
import Derived.Test.YtgfkeadgjkfomaaGreatDoorK10
import Derived.Test.YtgfkeadgjkfomaaGreatDoorProg
import Derived.Test.YtgfkeadgjkfomaaGreatDoorCards
import Derived.Test.YtgfkeadgjkfomaaGreatDoorTie
import Derived.WalkKit
import Derived.ProofKit
import Derived.OpenShut
import Derived.Carry
import Derived.Deep.DeepHandedRow
import Derived.Deep.DeepWitnessRowRef
import Derived.Deep.Slices
import Derived.Deep.Fields
import Derived.Lib.SmallJoins
import Derived.Lib.LaidIn
import Derived.Lib.LaidTab
import Derived.Stop.LaidErr
import Derived.Shelf.Vars
import Derived.Laws.IdiomArrays
set_option linter.unusedVariables false
set_option linter.unusedSimpArgs false
namespace Go.Proofs.YtgfkeadgjkfomaaGreatDoor.B
open Go Go.RowKit Go.Proofs Go.Proofs.YtgfkeadgjkfomaaGreatDoor.Vc

theorem closed_iff{al:Nat->Bool}{n:Nat}{S:List Int}:closedB al n S=true↔(S.Pairwise fun a b=>a<b)/\(∀s∈S,0<=s/\s<(fullN n:Nat))/\(0:Int)∈S/\∀s∈S,∀i,i<n->((addB s.toNat i:Nat):Int)∈S∨al (addB s.toNat i)=false:=by
 unfold closedB
 simp only[Bool.and_eq_true,List.all_eq_true,decide_eq_true_eq,List.contains_iff_mem,List.mem_range,Bool.or_eq_true,Bool.not_eq_true',and_assoc]
section
variable {w0 wb w:World} {A0 A1 A2 A A3 A5:Option Addr} {n0 c0 n1 c1 n2 c2 n c n3 c3 n5 c5:Nat} {ps:List Pa} {hs:List Ho} {xs:List Rm} {l works:List Sw} {k:Tk} {o S:List Int}
theorem closed_L15(hg:Glob w0){mr:Nat}{f:Int->Option Bool}(hn6:k.n3<=6)(hSw:SlR w0 A5 1 (S.map iRow))(hlS:S.length=n5)(hn5:n5<2147483648)(hf:∀z:Nat,(f (z:Int)).getD false=decide ((z:Int)∈S))(hp:S.Pairwise fun a b=>a<b)(ha:∀s∈S,0<=s/\s<(fullN k.n3:Nat))(h0:(0:Int)∈S):
  ∀(d j:Nat)(w':World),n5 - j=d->j<=n5->Run w0 wb k ps hs xs l works w'->Own wb mr f w'->(∀s∈S.take j,∀i,i<k.n3->((addB s.toNat i:Nat):Int)∈S∨allowF ps hs (rsOf xs) l works (addB s.toNat i)=false)->
   F.sequence_Closed.L15 A3 k.n3 c3 (some k.p) (some mr) A5 n5 c5 n5 j w0.heap.size w' fun v _=>v= .int .i64 (if closedB (allowF ps hs (rsOf xs) l works) k.n3 S=true then 0 else 14):=by
 have h64:=pow64 _ hn6
 have hfl:=full_lt k.n3
 intro d
 induction d with
 |zero=>
  intro j w' hd hj hr hm hin
  rw[List.take_of_length_le (by omega)]at hin
  refine F.sequence_Closed.L15.step _ _ _ _ _ _ _ _ _ _ _ _ _ ⟨fun h=>by omega,fun _=> ?_⟩
  rw[if_pos (closed_iff.2 ⟨hp,ha,h0,hin⟩)]
 |succ d ih=>
  intro j w' hd hj hr hm hin
  have hjl:j<S.length:=by omega
  have e3:(j:Int)+1=((j+1:Nat):Int):=by omega
  obtain⟨hbb,ad,hA,hcell,_⟩:=(hSw.keep hr.b (Nat.le_refl _)).at_ (fun _=>rfl) hlS hjl
  have hmem:=List.getElem_mem hjl
  have hsj:=ha _ hmem
  obtain⟨s,hs'⟩:=Int.eq_ofNat_of_zero_le hsj.1
  refine F.sequence_Closed.L15.step _ _ _ _ _ _ _ _ _ _ _ _ _ ⟨fun _=>⟨hbb,ad,hA,_,hcell,?_⟩,fun h=>by omega⟩
  have inner:∀(e i:Nat)(w':World),k.n3 - i=e->i<=k.n3->Run w0 wb k ps hs xs l works w'->Own wb mr f w'->(∀i',i'<i->((addB s i':Nat):Int)∈S∨allowF ps hs (rsOf xs) l works (addB s i')=false)->
    F.sequence_Closed.L18 A3 k.n3 c3 (some k.p) (some mr) s A5 n5 c5 n5 j k.n3 i w0.heap.size w' fun v _=>v= .int .i64 (if closedB (allowF ps hs (rsOf xs) l works) k.n3 S=true then 0 else 14):=by
   intro e
   induction e with
   |zero=>
    intro i w' he hi hr hm hin2
    refine F.sequence_Closed.L18.step _ _ _ _ _ _ _ _ _ _ _ _ _ _ _ _ ⟨fun h=>by omega,fun _=>⟨by simp only[inR];omega,?_⟩⟩
    rw[e3]
    refine ih (j+1) w' (by omega) (by omega) hr hm fun x hx i' hi'=> ?_
    rw[List.take_add_one,List.getElem?_eq_getElem hjl]at hx
    rcases List.mem_append.1 hx with hx|hx
    ·exact hin x hx i' hi'
    ·simp only[Option.toList_some,List.mem_singleton]at hx
     subst hx
     rw[hs',Int.toNat_natCast]
     exact hin2 i' (by omega)
   |succ e ihe=>
    intro i w' he hi hr hm hin2
    have ei:(i:Int)+1=((i+1:Nat):Int):=by omega
    have hlt:=addB_lt (s:=s) (i:=i) (n:=6) (by omega) (by omega)
    have go:∀w2,Run w0 wb k ps hs xs l works w2->Own wb mr f w2->(((addB s i:Nat):Int)∈S∨allowF ps hs (rsOf xs) l works (addB s i)=false)->inR .i64 ((i:Int)+1)/\F.sequence_Closed.L18 A3 k.n3 c3 (some k.p) (some mr) s A5 n5 c5 n5 j k.n3 ((i:Int)+1) w0.heap.size w2 fun v _=>v= .int .i64 (if closedB (allowF ps hs (rsOf xs) l works) k.n3 S=true then 0 else 14):=by
     intro w2 hr2 hm2 hx
     refine⟨by simp only[inR];omega,?_⟩
     rw[ei]
     refine ihe (i+1) w2 (by omega) (by omega) hr2 hm2 fun i' hi'=> ?_
     rcases Nat.lt_or_eq_of_le (Nat.le_of_lt_succ hi')with h|h
     ·exact hin2 i' h
     ·rw[h];exact hx
    refine F.sequence_Closed.L18.step _ _ _ _ _ _ _ _ _ _ _ _ _ _ _ _ ⟨fun _=>⟨sh_ok (by omega),?_⟩,fun h=>by omega⟩
    rw[shl_one _ (by omega),or_pow _ (by omega) _ (by omega)]
    refine runOk_look hm.m mpB (by omega) (by omega) ?_
    rw[hf]
    refine⟨fun h1=> ?_,fun h1=>go w' hr hm (.inl (of_decide_eq_true (Bool.not_eq_false _|>.mp h1)))⟩
    refine hr.allowed hg (by omega) fun w28 r28 bt cl=>⟨fun _ _ _ h=>(by cases h),_,rfl,fun h2=> ?_,fun h2=>go w28 r28 (hm.but bt r28.m) (.inr h2)⟩
    rw[if_neg]
    intro hc
    have:=(closed_iff.1 hc).2.2.2 _ hmem i (by omega)
    rw[hs',Int.toNat_natCast]at this
    rcases this with q|q
    ·exact of_decide_eq_false h1 q
    ·rw[h2]at q;cases q
  have:=inner k.n3 0 w' rfl (by omega) hr hm (fun i' hi'=>by omega)
  rw[hs']
  exact this
theorem seq_Closed(hg:Glob w)(hp:PrIn w A0 n0 A1 n1 A2 n2 c2 ps hs xs)(h:SlR w A 3 (l.map Sw.row))(hl:l.length=n)(hnc:n<=c)(hn:n<=40)(hwk:SlR w A3 3 (works.map Sw.row))(hlw:works.length=n3)(hSw:SlR w A5 1 (S.map iRow))(hlS:S.length=n5)(hn5:n5<2147483648):
  Pure Tryz.prog 30 #[.agg #[.slice A0 n0 c0,.slice A1 n1 c1,.slice A2 n2 c2],.slice A n c,.slice A3 n3 c3,.slice A5 n5 c5] w fun v _=>v= .int .i64 (closedF ps hs (rsOf xs) l works S):=by
 refine F.sequence_Closed.vc _ _ _ _ _ _ _ _ _ _ _ _ _ _ _ _ _ _ _ _ fun w1 x1=> ?_
 have hw:=k0 x1
 refine Pure.mono (seq_begin (hg.next hw) (hp.keep hw) (h.keep hw (Nat.le_refl _)) hl hnc hn (hwk.keep hw (Nat.le_refl _)) hlw) ?_
 intro v w5 b5 hv
 have hw5:=kP hw b5
 unfold closedF
 by_cases h0:taskF ps hs (rsOf xs) l works≠0
 ·rw[if_pos h0]
  have hv:=hv.1 h0
  subst hv
  exact⟨_,_,rfl,fun _=>rfl,fun k=>absurd h0 k⟩
 rw[if_neg h0]
 obtain⟨k,hv,hk,hkn⟩:=hv.2 (Decidable.not_not.1 h0)
 subst hv
 have hk6:=hk.ok.n
 have hk3:=hk.lw
 have h64:=pow64 k.n3 (by omega)
 have hfl:=full_lt k.n3
 have run:Run w w5 k ps hs xs l works w5:= .new hw5 hk (hkn.le hw.size)
 have en:n3=k.n3:=by omega
 subst en
 rw[hk3]
 refine⟨_,_,rfl,fun q=>absurd rfl q,fun _=> ?_⟩
 refine runOk_makeMap (tk:=3) (te:=4) run.b.size fun w8 m8 b8=> ?_
 have r8:=run.keep b8
 have key:∀(d j:Nat)(f:Int->Option Bool)(w':World),n5 - j=d->j<=n5->Run w w5 k ps hs xs l works w'->Own w5 w5.heap.size f w'->(∀z:Nat,(f (z:Int)).getD false=decide ((z:Int)∈S.take j))->((S.take j).Pairwise fun a b=>a<b)->(∀s∈S.take j,0<=s/\s<(fullN k.n3:Nat))->
   F.sequence_Closed.L6 A3 k.n3 c3 A5 n5 c5 (some k.p) (some w5.heap.size) A5 n5 c5 n5 j w.heap.size w' fun v _=>v= .int .i64 (if closedB (allowF ps hs (rsOf xs) l works) k.n3 S=true then 0 else 14):=by
  intro d
  induction d with
  |zero=>
   intro j f w' hd hj hr hm hf hpw hal
   rw[List.take_of_length_le (by omega)]at hf hpw hal
   refine F.sequence_Closed.L6.step _ _ _ _ _ _ _ _ _ _ _ _ _ _ _ _ ⟨fun h=>by omega,fun _=>runOk_look hm.m mpB (z:=0) (by omega) (by omega) ?_⟩
   have hf0:(f 0).getD false=decide ((0:Int)∈S):=hf 0
   rw[hf0]
   refine⟨fun h1=> ?_,fun h1=> ?_⟩
   ·rw[if_neg]
    intro hc
    exact of_decide_eq_false h1 (closed_iff.1 hc).2.2.1
   ·exact closed_L15 hg (by omega) hSw hlS hn5 hf hpw hal (of_decide_eq_true (Bool.not_eq_false _|>.mp h1)) n5 0 w' rfl (by omega) hr hm (by simp)
  |succ d ih=>
   intro j f w' hd hj hr hm hf hpw hal
   have hjl:j<S.length:=by omega
   have e3:(j:Int)+1=((j+1:Nat):Int):=by omega
   have hmem:=List.getElem_mem hjl
   have et:S.take (j+1)=S.take j++[S[j]]:=by rw[List.take_add_one,List.getElem?_eq_getElem hjl];rfl
   obtain⟨hbb,ad,hA,hcell,_⟩:=(hSw.keep hr.b (Nat.le_refl _)).at_ (fun _=>rfl) hlS hjl
   have bad:¬(0<=S[j]/\S[j]<(fullN k.n3:Nat))->(Value.int .i64 14= .int .i64 (if closedB (allowF ps hs (rsOf xs) l works) k.n3 S=true then 0 else 14)):=fun q=>by
    rw[if_neg]
    intro hc
    exact q ((closed_iff.1 hc).2.1 _ hmem)
   refine F.sequence_Closed.L6.step _ _ _ _ _ _ _ _ _ _ _ _ _ _ _ _ ⟨fun _=>⟨hbb,ad,hA,_,hcell,fun h1=>bad (by omega),fun h1=> ?_⟩,fun h=>by omega⟩
   refine Pure.mono (seq_all hr.t.t (by omega)) ?_
   rintro v w13 b13 rfl
   have r13:=hr.keep b13
   have m13:=hm.low b13
   refine⟨_,rfl,fun h2=>bad (by omega),fun h2=> ?_⟩
   have go:∀(w':World),Run w w5 k ps hs xs l works w'->Own w5 w5.heap.size f w'->(∀s∈S.take j,s<S[j])->RunOkU Tryz.prog (Instr.mapUpdate 90 (.map (some w5.heap.size)) (.int .i64 S[j]) (.bool true)) w.heap.size [] w' fun w16=>inR .i64 ((j:Int)+1)/\F.sequence_Closed.L6 A3 k.n3 c3 A5 n5 c5 (some k.p) (some w5.heap.size) A5 n5 c5 n5 ((j:Int)+1) w.heap.size w16 fun v _=>v= .int .i64 (if closedB (allowF ps hs (rsOf xs) l works) k.n3 S=true then 0 else 14):=by
    intro w' hr hm hlt
    refine runOk_update hm.m mpB (by omega) (by omega) true hr.lo hr.b.size fun w16 m16 _ g16=>⟨by simp only[inR];omega,?_⟩
    rw[e3]
    refine ih (j+1) _ w16 (by omega) (by omega) (hr.hi (below_grown g16 (fun i hi=>by cases hi;exact hm.m.1) hr.c.size)) ⟨m16⟩ (fun z=> ?_) ?_ ?_
    ·rw[et]
     unfold putM
     by_cases hz:(z:Int)=S[j]
     ·rw[if_pos hz]
      exact(decide_eq_true (List.mem_append_right _ (by rw[hz];exact List.mem_singleton.2 rfl))).symm
     ·rw[if_neg hz,hf,decide_eq_decide]
      refine⟨fun q=>List.mem_append_left _ q,fun q=> ?_⟩
      rcases List.mem_append.1 q with q|q
      ·exact q
      ·exact absurd (List.mem_singleton.1 q) hz
    ·rw[et,List.pairwise_append]
     exact⟨hpw,by simp,fun a ha b hb=>by rw[List.mem_singleton.1 hb];exact hlt a ha⟩
    ·rw[et]
     intro s hs'
     rcases List.mem_append.1 hs' with hs'|hs'
     ·exact hal s hs'
     ·rw[List.mem_singleton.1 hs']
      omega
   refine⟨fun h3=> ?_,fun h3=>go w13 r13 m13 fun s hs'=>by
    have e:S.take j=[]:=List.eq_nil_of_length_eq_zero (by rw[List.length_take];omega)
    rw[e]at hs'
    cases hs'⟩
   have hj1:j - 1<S.length:=by omega
   have ej:(j:Int) - 1=((j - 1:Nat):Int):=by omega
   rw[ej]
   obtain⟨hbp,ap,hAp,hcp,_⟩:=(hSw.keep r13.b (Nat.le_refl _)).at_ (fun _=>rfl) hlS hj1
   refine⟨by simp only[inR];omega,hbp,ap,hAp,_,hcp,fun h4=> ?_,fun h4=>go w13 r13 m13 fun s hs'=> ?_⟩
   ·rw[if_neg]
    intro hc
    have:=List.pairwise_iff_getElem.1 (closed_iff.1 hc).1 (j - 1) j hj1 hjl (by omega)
    omega
   ·have hlast:∀s∈S.take j,s<=S[j - 1]:=by
     intro s hs'
     obtain⟨i,hi,rfl⟩:=List.mem_iff_getElem.1 hs'
     rw[List.length_take]at hi
     by_cases e:i=j - 1
     ·subst e
      rw[List.getElem_take]
      exact Int.le_refl _
     ·have:=List.pairwise_iff_getElem.1 hpw i (j - 1) (by rw[List.length_take];omega) (by rw[List.length_take];omega) (by omega)
      rw[List.getElem_take,List.getElem_take]at this
      rw[List.getElem_take]
      omega
    have:=hlast s hs'
    omega
 exact key n5 0 _ w8 rfl (by omega) r8 ⟨m8⟩ (fun z=>by simp) (by simp) (by simp)
end

abbrev b1(v:Value)(ty:Nat):Obj:= .cells [v].toArray ty (0,0)
structure Go_ (w0 wb:World) (k:Tk) (md q0 q1 q2 q3 q4:Nat) (ps:List Pa) (hs:List Ho) (xs:List Rm) (l works:List Sw) (w:World) (A:Option Addr) (n c:Nat) (o:List Int):Prop where
 r:Run w0 wb k ps hs xs l works w
 h0:w.heap[q0]? =some (b1 (.pointer (some k.p)) 79)
 h1:w.heap[q1]? =some (b1 (.map (some md)) 90)
 h2:∃A c,w.heap[q2]? =some (b1 (.slice A k.n3 c) 30)
 h3:w.heap[q3]? =some (b1 (.slice A n c) 48)
 h4:w.heap[q4]? =some (b1 (.func (.func 52) #[] #[.pointer (some ⟨q0,0,none⟩),.pointer (some ⟨q1,0,none⟩),.pointer (some ⟨q2,0,none⟩),.pointer (some ⟨q3,0,none⟩),.pointer (some ⟨q4,0,none⟩)]) 91)
 hi:wb.heap.size<=q3
 own:OwnR w wb.heap.size 3 A n c 1 (o.map iRow)
 d:∃f,MpR w w0.heap.size 3 4 md f/\∀s:Nat,f (s:Int)=some true->¬Pth (allowF ps hs (rsOf xs) l works) k.n3 s
 dl:md<wb.heap.size
 ne:md≠k.m
def Kp(w w':World):Prop:=∀(i ty:Nat)(cs:Array Value),ty≠48->ty≠3->w.heap[i]? =some (.cells cs ty (0,0))->w'.heap[i]? =some (.cells cs ty (0,0))
theorem Kp.trans{w w1 w2:World}(h:Kp w w1)(k:Kp w1 w2):Kp w w2:=fun i ty cs h1 h2 e=>k i ty cs h1 h2 (h i ty cs h1 h2 e)
theorem Kp.cl{w w':World}(h:Cl w w'):Kp w w':=fun i ty cs _ _ e=>h.cells i cs ty _ e
section
variable {w0 wb w:World} {k:Tk} {md q0 q1 q2 q3 q4:Nat} {ps:List Pa} {hs:List Ho} {xs:List Rm} {l works:List Sw} {A:Option Addr} {n c:Nat} {o:List Int}
theorem Go_.cl{w w':World}(g:Go_ w0 wb k md q0 q1 q2 q3 q4 ps hs xs l works w A n c o)(hr:Run w0 wb k ps hs xs l works w')(hc:Cl w w')(hd:w'.heap[md]? =w.heap[md]?):Go_ w0 wb k md q0 q1 q2 q3 q4 ps hs xs l works w' A n c o:=by
 obtain⟨f,f1,f2⟩:=g.d
 obtain⟨B2,e2,h2⟩:=g.h2
 exact⟨hr,hc.cells _ _ _ _ g.h0,hc.cells _ _ _ _ g.h1,⟨B2,e2,hc.cells _ _ _ _ h2⟩,hc.cells _ _ _ _ g.h3,hc.cells _ _ _ _ g.h4,g.hi,g.own.cl hc,⟨f,f1.same hd,f2⟩,g.dl,g.ne⟩
theorem Go_.mlt(g:Go_ w0 wb k md q0 q1 q2 q3 q4 ps hs xs l works w A n c o):md<w.heap.size:=Nat.lt_of_lt_of_le g.dl g.r.c.size
theorem Go_.low{w w':World}(g:Go_ w0 wb k md q0 q1 q2 q3 q4 ps hs xs l works w A n c o)(hb:Below w.heap.size w w'):Go_ w0 wb k md q0 q1 q2 q3 q4 ps hs xs l works w' A n c o:=
 g.cl (g.r.keep hb) (Cl.low hb) (hb.block _ g.mlt)
theorem Go_.kp{w w':World}(g:Go_ w0 wb k md q0 q1 q2 q3 q4 ps hs xs l works w A n c o)(hb:Below wb.heap.size w w')(hk:Kp w w'){A':Option Addr}{n' c':Nat}{o':List Int}(h3:w'.heap[q3]? =some (b1 (.slice A' n' c') 48))(ho:OwnR w' wb.heap.size 3 A' n' c' 1 (o'.map iRow)):Go_ w0 wb k md q0 q1 q2 q3 q4 ps hs xs l works w' A' n' c' o':=by
 obtain⟨f,f1,f2⟩:=g.d
 obtain⟨B2,e2,h2⟩:=g.h2
 exact⟨g.r.hi hb,hk _ _ _ (by decide) (by decide) g.h0,hk _ _ _ (by decide) (by decide) g.h1,⟨B2,e2,hk _ _ _ (by decide) (by decide) h2⟩,h3,hk _ _ _ (by decide) (by decide) g.h4,g.hi,ho,⟨f,f1.same (hb.block _ g.dl),f2⟩,g.dl,g.ne⟩
theorem Go_.put{w w':World}(g:Go_ w0 wb k md q0 q1 q2 q3 q4 ps hs xs l works w A n c o){w1:World}{A1:Option Addr}{n1 c1:Nat}{o1:List Int}(hb:Below wb.heap.size w w1)(hk:Kp w w1)(h3:w1.heap[q3]? =some (b1 (.slice A n c) 48))(ho:OwnR w1 wb.heap.size 3 A1 n1 c1 1 (o1.map iRow))(hw:Wrote w1 w' q3 48 [.slice A1 n1 c1]):
  Go_ w0 wb k md q0 q1 q2 q3 q4 ps hs xs l works w' A1 n1 c1 o1/\Kp w w':=by
 have hkw:Kp w1 w':=fun i ty cs hy _ e=>by
  rw[hw.rest i fun q=> ?_]
  ·exact e
  ·subst q
   rw[h3]at e
   cases e
   exact hy rfl
 refine⟨g.kp (hb.trans (Wrote.belowR hw g.hi)) (hk.trans hkw) hw.at_ (ho.other fun a ha=>hw.rest _ fun q=> ?_),hk.trans hkw⟩
 obtain⟨cs,e⟩:=ho.cells a ha
 rw[q,h3]at e
 cases e
theorem row_kp{w w':World}(ho:OwnR w wb.heap.size 3 A n c 1 (o.map iRow))(hg:w.grownBy w' (Value.ownBlock (.slice A n c))):Kp w w':=fun i ty cs _ hy e=>by
 rw[hg.block i (Array.getElem?_eq_some_iff.1 e).1 fun q=> ?_]
 ·exact e
 ·cases A with
  |none=>cases q
  |some a=>
   obtain⟨cs',e'⟩:=ho.cells a rfl
   cases q
   rw[e]at e'
   cases e'
   exact hy rfl
theorem row_h3{w w':World}(ho:OwnR w wb.heap.size 3 A n c 1 (o.map iRow))(hg:w.grownBy w' (Value.ownBlock (.slice A n c))){q:Nat}{v:Value}(h:w.heap[q]? =some (b1 v 48)):w'.heap[q]? =some (b1 v 48):=by
 rw[hg.block q (Array.getElem?_eq_some_iff.1 h).1 fun e=> ?_]
 ·exact h
 ·cases A with
  |none=>cases e
  |some a=>
   obtain⟨cs',e'⟩:=ho.cells a rfl
   cases e
   rw[h]at e'
   cases e'
theorem add_self{s i:Nat}:addB s i=s↔s.testBit i=true:=by
 constructor
 ·intro h
  have:=addB_bit s i i
  rw[h]at this
  rw[this]
  simp
 ·intro h
  refine Nat.eq_of_testBit_eq fun j=> ?_
  rw[addB_bit]
  by_cases e:i=j
  ·subst e;rw[h];rfl
  ·simp[e]
def GoR(w0 wb:World)(k:Tk)(md q0 q1 q2 q3 q4:Nat)(ps:List Pa)(hs:List Ho)(xs:List Rm)(l works:List Sw)(w:World)(o:List Int)(r:Option (List Nat))(v:Value)(w':World):Prop:=
 Kp w w'/\∃A n c,(r=none->v= .bool false/\Go_ w0 wb k md q0 q1 q2 q3 q4 ps hs xs l works w' A n c o)/\∀x,r=some x->v= .bool true/\Go_ w0 wb k md q0 q1 q2 q3 q4 ps hs xs l works w' A n c (o++x.map fun(i:Nat)=>(i:Int))
theorem go1(hg:Glob w0)(hn6:k.n3<=6):∀(d s:Nat)(w:World)(A:Option Addr)(n c:Nat)(o:List Int),leftN k.n3 s<=d->s<2^k.n3->n+leftN k.n3 s<=6->Go_ w0 wb k md q0 q1 q2 q3 q4 ps hs xs l works w A n c o->
  PureB Tryz.prog 52 #[.int .i64 (s:Int),.pointer (some ⟨q0,0,none⟩),.pointer (some ⟨q1,0,none⟩),.pointer (some ⟨q2,0,none⟩),.pointer (some ⟨q3,0,none⟩),.pointer (some ⟨q4,0,none⟩)] w0.heap.size w (GoR w0 wb k md q0 q1 q2 q3 q4 ps hs xs l works w o (restF (allowF ps hs (rsOf xs) l works) k.n3 d s)):=by
 have h64:=pow64 _ hn6
 have hfl:=full_lt k.n3
 intro d
 induction d with
 |zero=>
  intro s w A n c o hd hs' hn g
  have e:=left_zero hs' (by omega)
  refine F.sequence_Order_c1.vcB _ _ _ _ _ _ _ _ g.r.b.size _ ⟨_,box_cell0 g.h0 rfl,Pure.mono (seq_all g.r.t.t hn6) ?_⟩
  rintro v w4 b4 rfl
  refine⟨_,rfl,fun _=>⟨Kp.cl (Cl.low b4),A,n,c,fun q=> ?_,fun x hx=> ?_⟩,fun h=>absurd (by rw[e]) h⟩
  ·rw[restF,if_pos e]at q
   cases q
  ·rw[restF,if_pos e]at hx
   cases hx
   exact⟨rfl,by rw[List.map_nil,List.append_nil];exact g.low b4⟩
 |succ d ih=>
  intro s w A n c o hd hs' hn g
  have hno:=g.own.len
  rw[List.length_map]at hno
  refine F.sequence_Order_c1.vcB _ _ _ _ _ _ _ _ g.r.b.size _ ⟨_,box_cell0 g.h0 rfl,Pure.mono (seq_all g.r.t.t hn6) ?_⟩
  rintro v w4 b4 rfl
  have g:=g.low b4
  have k4:Kp w w4:=Kp.cl (Cl.low b4)
  refine⟨_,rfl,fun h1=>⟨k4,A,n,c,fun q=> ?_,fun x hx=> ?_⟩,fun h1=> ?_⟩
  ·rw[restF,if_pos (by omega)]at q
   cases q
  ·rw[restF,if_pos (by omega)]at hx
   cases hx
   exact⟨rfl,by rw[List.map_nil,List.append_nil];exact g⟩
  have hne:s≠fullN k.n3:=fun e=>h1 (by rw[e])
  obtain⟨f,f1,f2⟩:=g.d
  refine⟨_,box_cell0 g.h1 rfl,runOk_look f1 mpB (by omega) (by omega) ⟨fun h2=>⟨k4,A,n,c,fun _=>⟨rfl,g⟩,fun x hx=> ?_⟩,fun h2=> ?_⟩⟩
  ·exact absurd (rest_some _ _ _ hx) (f2 s (by
    cases e:f (s:Int)with
    |none=>rw[e]at h2;cases h2
    |some y=>rw[e]at h2;exact congrArg some h2))
  obtain⟨B2,e2,h2'⟩:=g.h2
  refine⟨_,_,_,box_cell0 h2' rfl,?_⟩
  have hrest:restF (allowF ps hs (rsOf xs) l works) k.n3 (d+1) s=(List.range k.n3).findSome? fun i=>if s.testBit i|| !allowF ps hs (rsOf xs) l works (addB s i)then none else(restF (allowF ps hs (rsOf xs) l works) k.n3 d (addB s i)).map (i:: ·):=by rw[restF,if_neg hne]
  have loop:∀(e i:Nat)(A:Option Addr)(n c:Nat)(w1:World),k.n3 - i=e->i<=k.n3->n+leftN k.n3 s<=6->Kp w w1->Go_ w0 wb k md q0 q1 q2 q3 q4 ps hs xs l works w1 A n c o->restF (allowF ps hs (rsOf xs) l works) k.n3 (d+1) s=((List.range k.n3).drop i).findSome? (fun i=>if s.testBit i|| !allowF ps hs (rsOf xs) l works (addB s i)then none else(restF (allowF ps hs (rsOf xs) l works) k.n3 d (addB s i)).map (i:: ·))->
    F.sequence_Order_c1.L6 s ⟨q0,0,none⟩ ⟨q1,0,none⟩ ⟨q3,0,none⟩ ⟨q4,0,none⟩ k.n3 i w0.heap.size w1 (GoR w0 wb k md q0 q1 q2 q3 q4 ps hs xs l works w o (restF (allowF ps hs (rsOf xs) l works) k.n3 (d+1) s)):=by
   intro e
   induction e with
   |zero=>
    intro i A n c w1 he hi hn hk g hr
    rw[List.drop_eq_nil_of_le (by simp;omega)]at hr
    have hnone:restF (allowF ps hs (rsOf xs) l works) k.n3 (d+1) s=none:=hr
    obtain⟨f,f1,f2⟩:=g.d
    obtain⟨B2,e2,h2⟩:=g.h2
    refine F.sequence_Order_c1.L6.step _ _ _ _ _ _ _ _ _ _ ⟨fun h=>by omega,fun _=>⟨_,box_cell0 g.h1 rfl,runOk_update f1 mpB (by omega) (by omega) true (Nat.le_refl _) g.r.b.size fun w34 m34 b34 g34=> ?_⟩⟩
    have cl:=Cl.map f1 g34
    have hkm:w34.heap[k.m]? =w1.heap[k.m]? :=g34.block _ (Nat.lt_of_lt_of_le g.r.m g.r.c.size) fun q=>g.ne (by cases q;rfl)
    refine⟨hk.trans (Kp.cl cl),A,n,c,fun _=>⟨rfl,?_⟩,fun x hx=>by rw[hnone]at hx;cases hx⟩
    obtain⟨kf,kf1,kf2⟩:=g.r.kn
    exact⟨⟨g.r.b.trans b34,g.r.lo,g.r.tb,g.r.c.trans cl,⟨kf,kf1.same hkm,kf2⟩,g.r.m⟩,cl.cells _ _ _ _ g.h0,cl.cells _ _ _ _ g.h1,⟨B2,e2,cl.cells _ _ _ _ h2⟩,cl.cells _ _ _ _ g.h3,cl.cells _ _ _ _ g.h4,g.hi,g.own.cl cl,⟨_,m34,fun z hz=>by
     unfold putM at hz
     split at hz
     ·rename_i q
      have:z=s:=by omega
      subst this
      exact rest_none (d+1) z hd hs' hnone
     ·exact f2 z hz⟩,g.dl,g.ne⟩
   |succ e ihe=>
    intro i A n c w1 he hi hn hk g hr
    have ei:(i:Int)+1=((i+1:Nat):Int):=by omega
    have hir:i<(List.range k.n3).length:=by simp;omega
    rw[List.drop_eq_getElem_cons hir,List.getElem_range,List.findSome?_cons]at hr
    have hlt:=addB_lt (s:=s) (i:=i) (n:=k.n3) hs' (by omega)
    have hno:=g.own.len
    rw[List.length_map]at hno
    refine F.sequence_Order_c1.L6.step _ _ _ _ _ _ _ _ _ _ ⟨fun _=>⟨sh_ok (by omega),?_⟩,fun h=>by omega⟩
    rw[shl_one _ (by omega),or_pow _ (by omega) _ (by omega)]
    refine⟨fun h3=>⟨by simp only[inR];omega,?_⟩,fun h3=>⟨_,box_cell0 g.h0 rfl,?_⟩⟩
    ·have hbit:s.testBit i=true:=add_self.1 (by omega)
     rw[hbit,Bool.true_or,if_pos rfl]at hr
     rw[ei]
     exact ihe (i+1) A n c w1 (by omega) (by omega) hn hk g hr
    have hbit:s.testBit i=false:=Bool.not_eq_true _|>.mp fun q=>h3 (by rw[add_self.2 q])
    have hleft:=left_add (n:=k.n3) (by omega) hbit
    rw[hbit,Bool.false_or]at hr
    refine g.r.allowed hg (by omega) fun w13 r13 bt cl=>⟨fun _ _ _ h=>(by cases h),_,rfl,fun h4=>⟨by simp only[inR];omega,?_⟩,fun h4=> ?_⟩
    ·rw[h4,Bool.not_false,if_pos rfl]at hr
     rw[ei]
     exact ihe (i+1) A n c w13 (by omega) (by omega) hn (hk.trans (Kp.cl cl)) (g.cl r13 cl (bt.other _ g.mlt g.ne)) hr
    have h4:=Bool.not_eq_false _|>.mp h4
    rw[h4,Bool.not_true,if_neg (by decide)]at hr
    have g13:=g.cl r13 cl (bt.other _ g.mlt g.ne)
    have k13:=hk.trans (Kp.cl cl)
    refine⟨_,_,_,box_cell0 g13.h3 rfl,app_row el_Ints (B:=wb.heap.size) r13.lo g13.own (x:= .int .i64 (i:Int)) rfl (by simp[Value.cells,isCell]) r13.c.size (by omega) (by decide) fun A' c' w20 o20 g20 _=> ?_⟩
    have hk20:=row_kp g13.own g20
    have h320:=row_h3 g13.own g20 g13.h3
    have hb20:=grown_hi g13.own g20 r13.c.size
    refine⟨[.slice A n c],48,Nat.le_trans r13.lo g13.hi,rfl,h320,by simp,rfl,fun w23 hw23=> ?_⟩
    obtain⟨g23,k23⟩:=g13.put (o1:=o++[(i:Int)]) hb20 hk20 h320 (by rw[List.map_append];exact o20) hw23
    refine⟨_,_,_,box_cell0 g23.h4 rfl,by kernel_rfl,?_⟩
    refine PureB.mono (ih (addB s i) w23 A' (n+1) c' (o++[(i:Int)]) (by omega) hlt (by omega) g23) ?_
    rintro v w27 b27 ⟨k27,A2,n2,c2,hN,hS⟩
    have kk:=(k13.trans k23).trans k27
    refine⟨fun _ _ _ h=>(by cases h),?_⟩
    cases hrr:restF (allowF ps hs (rsOf xs) l works) k.n3 d (addB s i)with
    |none=>
     obtain⟨rfl,g27⟩:=hN hrr
     rw[hrr]at hr
     have hln:=g27.own.len
     rw[List.length_map,List.length_append,List.length_singleton]at hln
     refine⟨_,rfl,fun q=>(by cases q),fun _=>⟨_,_,_,box_cell0 g27.h3 rfl,_,_,_,box_cell0 g27.h3 rfl,by simp only[inR];omega,by have:=g27.own.len_le;omega,[.slice A2 n2 c2],48,Nat.le_trans r13.lo g27.hi,rfl,g27.h3,by simp,rfl,fun w32 hw32=>⟨by simp only[inR];omega,?_⟩⟩⟩
     have en:((n2:Int) - 1).toNat=n:=by omega
     rw[en]at hw32
     have osh:=g27.own.short (m:=n) (by omega)
     rw[<-List.map_take,List.take_append_of_le_length (by omega),List.take_of_length_le (by omega)]at osh
     obtain⟨g32,k32⟩:=g27.put (o1:=o) (Below.refl _ _) (fun _ _ _ _ _ e=>e) g27.h3 osh hw32
     rw[ei]
     exact ihe (i+1) A2 n c2 w32 (by omega) (by omega) hn (kk.trans k32) g32 hr
    |some x=>
     obtain⟨rfl,g27⟩:=hS x hrr
     rw[hrr]at hr
     refine⟨_,rfl,fun _=>⟨kk,A2,n2,c2,fun q=> ?_,fun y hy=>⟨rfl,?_⟩⟩,fun q=>(by cases q)⟩
     ·rw[hr]at q;cases q
     ·rw[hr]at hy
      cases hy
      rw[List.map_cons,show o++((i:Int)::x.map fun(i:Nat)=>(i:Int))=(o++[(i:Int)])++x.map fun(i:Nat)=>(i:Int) by simp]
      exact g27
  exact loop k.n3 0 A n c w4 rfl (by omega) hn k4 g (by rw[List.drop_zero];exact hrest)
end
section
variable {w:World} {A0 A1 A2 A A3:Option Addr} {n0 c0 n1 c1 n2 c2 n c n3 c3:Nat} {ps:List Pa} {hs:List Ho} {xs:List Rm} {l works:List Sw}
theorem seq_Order(hg:Glob w)(hp:PrIn w A0 n0 A1 n1 A2 n2 c2 ps hs xs)(h:SlR w A 3 (l.map Sw.row))(hl:l.length=n)(hnc:n<=c)(hn:n<=40)(hwk:SlR w A3 3 (works.map Sw.row))(hlw:works.length=n3):
  Pure Tryz.prog 22 #[.agg #[.slice A0 n0 c0,.slice A1 n1 c1,.slice A2 n2 c2],.slice A n c,.slice A3 n3 c3] w (InR (orderF ps hs (rsOf xs) l works)):=by
 refine F.sequence_Order.vc _ _ _ _ _ _ _ _ _ _ _ _ _ _ _ _ _ fun w1 x1=> ?_
 have hw:=k0 x1
 refine Pure.mono (seq_begin (c3:=c3) (hg.next hw) (hp.keep hw) (h.keep hw (Nat.le_refl _)) hl hnc hn (hwk.keep hw (Nat.le_refl _)) hlw) ?_
 intro v w5 b5 hv
 have hw5:=kP hw b5
 unfold orderF
 by_cases h0:taskF ps hs (rsOf xs) l works≠0
 ·rw[if_pos h0]
  have hv:=hv.1 h0
  subst hv
  exact⟨_,_,rfl,fun _ _ _=>⟨_,_,_,rfl,.inl rfl,rfl,Nat.le_refl _⟩,fun k=>absurd h0 k⟩
 rw[if_neg h0]
 obtain⟨k,hv,hk,hkn⟩:=hv.2 (Decidable.not_not.1 h0)
 subst hv
 have hk6:=hk.ok.n
 have hk3:=hk.lw
 have en:n3=k.n3:=by omega
 subst en
 rw[hk3]
 refine⟨_,_,rfl,fun q=>absurd rfl q,fun _ w7 x7=> ?_⟩
 have hw7:=kE hw5 x7
 have hkm:k.m<w5.heap.size:=by obtain⟨f,f1,_⟩:=hkn;exact f1.lt
 refine runOk_makeMap (tk:=3) (te:=4) hw7.size fun w10 m10 b10 w11 x11=> ?_
 have hw10:=kP hw7 b10
 have hw11:=kE hw10 x11
 have b511:Below w5.heap.size w5 w11:=kP (kP (extAll x7) b10) (extAll x11)
 have hk11:=hk.keep b511
 have hkn11:=(hkn.below b511).le hw.size
 have run:=Run.new hw11 hk11 hkn11
 have m11:=m10.ext x11
 refine runOk_alloc (z:= .slice none 0 0) _ (by kernel_rfl) hw11.size fun w12 h12 b12 _=> ?_
 have hw12:=kP hw11 b12
 refine runOk_alloc (z:= .nilFunc) _ (by kernel_rfl) hw12.size fun w15 h15 b15 _ p18 hp18 hb18 p19 hp19 hb19 p20 hp20 hb20=> ?_
 have hw15:=kP hw12 b15
 have r15:=(run.keep b12).hi (b15.mono b12.size)
 refine⟨[.nilFunc],_,hw12.size,rfl,h15,by simp,rfl,fun w23 hw23=> ?_⟩
 have hb23:Below w11.heap.size w15 w23:=Wrote.belowR hw23 b12.size
 have other:∀{i ty:Nat} {cs:Array Value},w15.heap[i]? =some (.cells cs ty (0,0))->ty≠91->w23.heap[i]? =some (.cells cs ty (0,0)):=by
  intro i ty cs e hne
  rw[hw23.rest i fun q=> ?_]
  ·exact e
  ·subst q
   rw[h15]at e
   cases e
   exact hne rfl
 have hmlt:w7.heap.size<w11.heap.size:=m11.lt
 have g:Go_ w w11 k w7.heap.size p20 p19 p18 w11.heap.size w12.heap.size ps hs xs l works w23 none 0 0 []:=by
  refine⟨r15.hi hb23,other hb20 (by decide),other hb19 (by decide),⟨_,_,other hb18 (by decide)⟩,other (heap_keep h12 b15) (by decide),hw23.at_,Nat.le_refl _,OwnR.nil,⟨_,(((m11.below b12).below b15).same (hb23.block _ hmlt)).le hw7.size,fun s q=>by cases q⟩,hmlt,by have:=(extAll x7).size;omega⟩
 refine⟨_,_,_,box_cell0 g.h4 rfl,by kernel_rfl,?_⟩
 refine PureB.mono (go1 hg (by omega) k.n3 0 w23 none 0 0 [] (left_le _ _) (Nat.two_pow_pos _) (by have:=left_le k.n3 0;omega) g) ?_
 rintro v w27 b27 ⟨k27,A',n',c',hN,hS⟩
 refine⟨fun i ty cs hty e=> ?_,?_⟩
 ·have:=List.mem_singleton.1 hty
  subst this
  rw[e]
  exact k27 i _ cs (by decide) (by decide) e
 cases hrr:restF (allowF ps hs (rsOf xs) l works) k.n3 k.n3 0 with
 |none=>
  obtain⟨rfl,g27⟩:=hN hrr
  exact⟨_,rfl,fun _=>⟨_,_,_,rfl,.inl rfl,rfl,Nat.le_refl _⟩,fun q=>absurd rfl q⟩
 |some x=>
  obtain⟨rfl,g27⟩:=hS x hrr
  have hln:=g27.own.len
  rw[List.length_map,List.nil_append]at hln
  exact⟨_,rfl,fun q=>(by cases q),fun _=>⟨_,_,_,box_cell0 g27.h3 rfl,A',n',c',rfl,g27.own.sl,hln,g27.own.len_le⟩⟩
end
end Go.Proofs.YtgfkeadgjkfomaaGreatDoor.B

set_option maxRecDepth 100000
set_option maxHeartbeats 4000000
namespace Go.Proofs.YtgfkeadgjkfomaaGreatDoor.F
open Go Go.RowKit Go.Proofs Go.Proofs.YtgfkeadgjkfomaaGreatDoor.Vc
def garboardlaw51_SequenceKeeps.L13(a:Option Addr)(b c:Nat)(d:Option Addr)(e f:Nat)(g:Option Addr)(i j:Nat)(l:Int)(m:Option Addr)(n o:Nat)(p q:Int)(r:Option Addr)(s t:Nat)(u:Option Addr)(v x:Nat)(y:Option Addr)(z A B:Nat)(w:World)(R:Value->World->Prop):Prop:=At Tryz.prog 8 131 (loopAt Tryz.f8 13) [(1,.v (.slice a b c)),(2,.v (.slice d e f)),(3,.loc 3 0),(11,.v (.slice g i j)),(12,.v (.int .i64 l)),(68,.v (.slice m n o)),(69,.v (.int .i64 p)),(70,.v (.int .i64 q))] [⟨3,false,28,[(.slice r s t),(.slice u v x),(.slice y z A)]⟩] B w R
noncomputable def garboardlaw51_SequenceKeeps.cx(w:World)(B:Nat)(R:Value->World->Prop):Cx:=⟨Tryz.prog,8,131,Tryz.f8.results.toList,[((true,13),[1,2,3,11,12,68,69,70],[3])],[],w,B,R⟩
theorem garboardlaw51_SequenceKeeps.L13.step(t:Option Addr)(u v:Nat)(l:Option Addr)(c x:Nat)(I:Option Addr)(J K:Nat)(y:Int)(z:Option Addr)(A L:Nat)(m b:Int)(d:Option Addr)(e f:Nat)(g:Option Addr)(i j:Nat)(n:Option Addr)(o p B:Nat)(w:World)(R:Value->World->Prop)
  (h:(((b<m)->((0<=b/\b<A)/\∃M,z=some M/\(∃a,CellsAt w (M.add ((b).toNat*1)) [.int .i64 a]/\(((a<0)->(R (.bool false) w))/\(¬(a<0)->(((a≥(c:Int))->(R (.bool false) w))/\(¬(a≥(c:Int))->((0<=a/\a<c)/\∃N,l=some N/\(∃O Q S,CellsAt w (N.add ((a).toNat*3)) [.int .i64 O,.int .i64 Q,.int .i64 S]/\(∀T,Ext B [] w T->(Pure P 13 #[.agg #[.slice d e f,.slice g i j]] T fun d3 d4=>∃U V X Y Z a0,d3= .agg #[.slice U V X,.slice Y Z a0]/\(Pure P 34 #[.agg #[.slice U V X,.slice Y Z a0],.slice I J K,.agg #[.int .i64 O,.int .i64 Q,.int .i64 S]] d4 fun d5 d6=>∃q r s C,d5= .tuple #[.slice q r s,.int .i64 C]/\(shOk .i64 a/\(Pure P 17 #[.agg #[.slice d e f,.slice g i j,.slice n o p]] d6 fun d7 d8=>∃a1 a2 a3 a4 a5 a6 a7 a8 a9,d7= .agg #[.slice a1 a2 a3,.slice a4 a5 a6,.slice a7 a8 a9]/\(Pure P 14 #[.slice t u v] d8 fun d9 e0=>∃b0 b1 b2,d9= .slice b0 b1 b2/\(Pure P 18 #[.slice l c x] e0 fun e1 e2=>∃b3 b4 b5,e1= .slice b3 b4 b5/\(Pure P 16 #[.agg #[.slice a1 a2 a3,.slice a4 a5 a6,.slice a7 a8 a9],.slice b0 b1 b2,.slice b3 b4 b5,(.int .i64 (bits .or .i64 y (shlI .i64 1 a)))] e2 fun e3 D=>∃b6 b7 b8 E,e3= .tuple #[.slice b6 b7 b8,.int .i64 E]/\(((C≠0)->(R (.bool false) D))/\(¬(C≠0)->(((E≠0)->(R (.bool false) D))/\(¬(E≠0)->(Pure P 21 #[.slice q r s,.slice b6 b7 b8] D fun e4 b9=>∃G,e4= .bool G/\(((G=false)->(R (.bool false) b9))/\(¬(G=false)->(Pure P 17 #[.agg #[.slice d e f,.slice g i j,.slice n o p]] b9 fun e5 e6=>∃c0 c1 c2 c3 c4 c5 c6 c7 c8,e5= .agg #[.slice c0 c1 c2,.slice c3 c4 c5,.slice c6 c7 c8]/\(Pure P 14 #[.slice q r s] e6 fun e7 e8=>∃c9 d0 d1,e7= .slice c9 d0 d1/\(Pure P 35 #[.agg #[.slice c0 c1 c2,.slice c3 c4 c5,.slice c6 c7 c8],.slice c9 d0 d1] e8 fun e9 d2=>∃H,e9= .bool H/\(((H=false)->(R (.bool false) d2))/\(¬(H=false)->(inR .i64 (b+1)/\(garboardlaw51_SequenceKeeps.L13 t u v l c x q r s (bits .or .i64 y (shlI .i64 1 a)) z A L m (b+1) d e f g i j n o p B d2 R)))))))))))))))))))))))))))))))/\(¬(b<m)->(R (.bool true) w)))):
  garboardlaw51_SequenceKeeps.L13 t u v l c x I J K y z A L m b d e f g i j n o p B w R:=
 loop_of_run (garboardlaw51_SequenceKeeps.cx w B R) 100000 (loopAt Tryz.f8 13) _ _ follows Tryz.func8 rfl rfl rfl (Eq.mp (by kernel_rfl) h)
theorem garboardlaw51_SequenceKeeps.vc(f:Option Addr)(g i:Nat)(j:Option Addr)(l m:Nat)(n:Option Addr)(o p:Nat)(c:Option Addr)(d e:Nat)(q:Option Addr)(a r:Nat)(w:World)(R:Value->World->Prop)
  (h:(∀C,Ext w.heap.size [] w C->(Pure P 10 #[] C fun r3 D=>∃t,r3= .bool t/\(((t=false)->(R (.bool false) D))/\(¬(t=false)->(Pure P 11 #[.agg #[.slice f g i,.slice j l m,.slice n o p],.slice c d e,.slice q a r] D fun r6 E=>∃u,r6= .bool u/\(((u=false)->(R (.bool true) E))/\(¬(u=false)->(Pure P 17 #[.agg #[.slice f g i,.slice j l m,.slice n o p]] E fun c2 c3=>∃G H I J K L M N O,c2= .agg #[.slice G H I,.slice J K L,.slice M N O]/\(Pure P 14 #[.slice c d e] c3 fun c4 c5=>∃Q S T,c4= .slice Q S T/\(Pure P 18 #[.slice q a r] c5 fun c6 c7=>∃U V X,c6= .slice U V X/\(Pure P 22 #[.agg #[.slice G H I,.slice J K L,.slice M N O],.slice Q S T,.slice U V X] c7 fun c8 Y=>∃v b x y,c8= .tuple #[.slice v b x,.int .i64 y]/\(((y≠0)->(R (.bool (decide ((b:Int)=0))) Y))/\(¬(y≠0)->(Pure P 17 #[.agg #[.slice f g i,.slice j l m,.slice n o p]] Y fun c9 d0=>∃Z a0 a1 a2 a3 a4 a5 a6 a7,c9= .agg #[.slice Z a0 a1,.slice a2 a3 a4,.slice a5 a6 a7]/\(Pure P 14 #[.slice c d e] d0 fun d1 d2=>∃a8 a9 b0,d1= .slice a8 a9 b0/\(Pure P 18 #[.slice q a r] d2 fun d3 d4=>∃b1 b2 b3,d3= .slice b1 b2 b3/\(Pure P 28 #[.slice v b x] d4 fun d5 d6=>∃b4 b5 b6,d5= .slice b4 b5 b6/\(Pure P 27 #[.agg #[.slice Z a0 a1,.slice a2 a3 a4,.slice a5 a6 a7],.slice a8 a9 b0,.slice b1 b2 b3,.slice b4 b5 b6] d6 fun d7 s=>∃z A,d7= .tuple #[.int .i64 z,.int .i64 A]/\(((z≠(-1:Int))->(R (.bool false) s))/\(¬(z≠(-1:Int))->(((A≠0)->(R (.bool false) s))/\(¬(A≠0)->((((b:Int)≠(a:Int))->(R (.bool false) s))/\(¬((b:Int)≠(a:Int))->(Pure P 14 #[.slice c d e] s fun d8 d9=>∃b7 b8 b9,d8= .slice b7 b8 b9/\(garboardlaw51_SequenceKeeps.L13 c d e q a r b7 b8 b9 (0:Int) v b x (b:Int) (0:Int) f g i j l m n o p w.heap.size d9 R))))))))))))))))))))))))))):
  Pure P 8 #[.agg #[.slice f g i,.slice j l m,.slice n o p],.slice c d e,.slice q a r] w R:=
 pure_of_run (garboardlaw51_SequenceKeeps.cx w w.heap.size R) 100000 follows Tryz.func8 rfl rfl rfl rfl rfl rfl rfl (Eq.mp (by kernel_rfl) h)

def garboardlaw51_SequenceJoins.L11(a:Option Addr)(b c:Nat)(d:Option Addr)(e f:Nat)(g:Option Addr)(i j:Nat)(l:Option Addr)(m n:Nat)(o:Option Addr)(p q:Nat)(r s:Int)(t:Option Addr)(u v:Nat)(x:Option Addr)(y z B:Nat)(w:World)(R:Value->World->Prop):Prop:=At Tryz.prog 9 127 (loopAt Tryz.f9 11) [(2,.v (.slice a b c)),(3,.loc 3 0),(7,.v (.slice d e f)),(9,.v (.slice g i j)),(11,.v (.slice l m n)),(67,.v (.slice o p q)),(68,.v (.int .i64 r)),(69,.v (.int .i64 s))] [⟨3,false,25,[(.slice t u v),(.slice x y z)]⟩] B w R
noncomputable def garboardlaw51_SequenceJoins.cx(w:World)(B:Nat)(R:Value->World->Prop):Cx:=⟨Tryz.prog,9,127,Tryz.f9.results.toList,[((true,11),[2,3,7,9,11,67,68,69],[3])],[],w,B,R⟩
theorem garboardlaw51_SequenceJoins.L11.step(g:Option Addr)(i j:Nat)(l:Option Addr)(b x:Nat)(m:Option Addr)(c n:Nat)(D:Option Addr)(E G:Nat)(o:Option Addr)(p y:Nat)(d a:Int)(q:Option Addr)(r s:Nat)(t:Option Addr)(u v B:Nat)(w:World)(R:Value->World->Prop)
  (h:(((a<d)->((0<=a/\a<p)/\∃M,o=some M/\(∃H I e,CellsAt w (M.add ((a).toNat*3)) [.int .i64 H,.int .i64 I,.int .i64 e]/\(∀N,Ext B [] w N->(Pure P 13 #[.agg #[.slice q r s,.slice t u v]] N fun a0 a1=>∃O Q S T U V,a0= .agg #[.slice O Q S,.slice T U V]/\(Pure P 34 #[.agg #[.slice O Q S,.slice T U V],.slice D E G,.agg #[.int .i64 H,.int .i64 I,.int .i64 e]] a1 fun a2 X=>∃z A C J,a2= .tuple #[.slice z A C,.int .i64 J]/\(((J≠0)->(R (.bool false) X))/\(¬(J≠0)->(inR .i64 (-e)/\(Pure P 37 #[.slice m c n,(.agg #[.int .i64 H,.int .i64 I,(.int .i64 (-e))])] X fun a3 f=>∃K,a3= .bool K/\(((K=false)->(R (.bool false) f))/\(¬(K=false)->(((a>0)->(inR .i64 (a - (1:Int))/\((0<=(a - (1:Int))/\(a - (1:Int))<b)/\∃Y,l=some Y/\(∃L,CellsAt f ((Y.add (((a - (1:Int))).toNat*3)).add 2) [.int .i64 L]/\(((L>0)->(((e<0)->(R (.bool false) f))/\(¬(e<0)->(inR .i64 (a+1)/\(garboardlaw51_SequenceJoins.L11 g i j l b x m c n z A C o p y d (a+1) q r s t u v B f R)))))/\(¬(L>0)->(inR .i64 (a+1)/\(garboardlaw51_SequenceJoins.L11 g i j l b x m c n z A C o p y d (a+1) q r s t u v B f R))))))))/\(¬(a>0)->(inR .i64 (a+1)/\(garboardlaw51_SequenceJoins.L11 g i j l b x m c n z A C o p y d (a+1) q r s t u v B f R))))))))))))))))/\(¬(a<d)->((((b:Int)=(c:Int))->(Pure P 21 #[.slice D E G,.slice g i j] w fun a4 a5=>∃Z,a4= .bool Z/\(R (.bool Z) a5)))/\(¬((b:Int)=(c:Int))->(R (.bool false) w)))))):
  garboardlaw51_SequenceJoins.L11 g i j l b x m c n D E G o p y d a q r s t u v B w R:=
 loop_of_run (garboardlaw51_SequenceJoins.cx w B R) 100000 (loopAt Tryz.f9 11) _ _ follows Tryz.func9 rfl rfl rfl (Eq.mp (by kernel_rfl) h)
theorem garboardlaw51_SequenceJoins.vc(f:Option Addr)(g i:Nat)(j:Option Addr)(l m:Nat)(o:Option Addr)(c p:Nat)(q:Option Addr)(d r:Nat)(w:World)(R:Value->World->Prop)
  (h:(∀y,Ext w.heap.size [] w y->(Pure P 10 #[] y fun r3 z=>∃t,r3= .bool t/\(((t=false)->(R (.bool false) z))/\(¬(t=false)->(Pure P 36 #[.agg #[.slice f g i,.slice j l m]] z fun r6 s=>∃u,r6= .bool u/\(((u=false)->(R (.bool true) s))/\(¬(u=false)->((((c:Int)>40)->(R (.bool true) s))/\(¬((c:Int)>40)->((((d:Int)>40)->(R (.bool true) s))/\(¬((d:Int)>40)->(Pure P 13 #[.agg #[.slice f g i,.slice j l m]] s fun b1 b2=>∃A C D E G H,b1= .agg #[.slice A C D,.slice E G H]/\(Pure P 14 #[.slice o c p] b2 fun b3 b4=>∃I J K,b3= .slice I J K/\(Pure P 14 #[.slice q d r] b4 fun b5 b6=>∃L M N,b5= .slice L M N/\(Pure P 12 #[.agg #[.slice A C D,.slice E G H],.slice I J K,.slice L M N] b6 fun b7 b8=>∃v e x a,b7= .tuple #[.slice v e x,.int .i64 a]/\(Pure P 13 #[.agg #[.slice f g i,.slice j l m]] b8 fun b9 c0=>∃O Q S T U V,b9= .agg #[.slice O Q S,.slice T U V]/\(Pure P 14 #[.slice q d r] c0 fun c1 c2=>∃X Y Z,c1= .slice X Y Z/\(Pure P 14 #[.slice o c p] c2 fun c3 c4=>∃a0 a1 a2,c3= .slice a0 a1 a2/\(Pure P 12 #[.agg #[.slice O Q S,.slice T U V],.slice X Y Z,.slice a0 a1 a2] c4 fun c5 n=>∃a3 a4 a5 b,c5= .tuple #[.slice a3 a4 a5,.int .i64 b]/\(((a≠0)->(((a=b)->(R (.bool (decide ((e:Int)=0))) n))/\(¬(a=b)->(R (.bool false) n))))/\(¬(a≠0)->(((b≠0)->(((a=b)->(R (.bool (decide ((e:Int)=0))) n))/\(¬(a=b)->(R (.bool false) n))))/\(¬(b≠0)->(Pure P 14 #[.slice o c p] n fun c6 c7=>∃a6 a7 a8,c6= .slice a6 a7 a8/\(garboardlaw51_SequenceJoins.L11 q d r v e x a3 a4 a5 a6 a7 a8 v e x (e:Int) (0:Int) f g i j l m w.heap.size c7 R)))))))))))))))))))))))))):
  Pure P 9 #[.agg #[.slice f g i,.slice j l m],.slice o c p,.slice q d r] w R:=
 pure_of_run (garboardlaw51_SequenceJoins.cx w w.heap.size R) 100000 follows Tryz.func9 rfl rfl rfl rfl rfl rfl rfl (Eq.mp (by kernel_rfl) h)

noncomputable def garboardlaw51_awake.cx(w:World)(B:Nat)(R:Value->World->Prop):Cx:=⟨Tryz.prog,10,103,Tryz.f10.results.toList,[],[(1,2,2),(6,2,2),(7,16,2),(7,21,2),(7,37,2),(7,52,2)],w,B,R⟩
theorem garboardlaw51_awake.vc  (w:World)(R:Value->World->Prop)
  (h:(RunOk P (Instr.buildSlice 30 2 #[(0,(.agg #[.int .i64 2,.int .i64 1,.int .i64 1])),(1,(.agg #[.int .i64 1,.int .i64 1,.int .i64 1]))]) w.heap.size [] w fun r2 w3=>∃c g d,r2= .slice c g d/\(Pure P 38 #[] w3 fun r7 w8=>∃C D E G H I J K L,r7= .agg #[.slice C D E,.slice G H I,.slice J K L]/\(Pure P 22 #[.agg #[.slice C D E,.slice G H I,.slice J K L],.slice none 0 0,.slice c g d] w8 fun q0 q1=>∃M N O n,q0= .tuple #[.slice M N O,.int .i64 n]/\(Pure P 38 #[] q1 fun q2 q3=>∃Q S T U V X Y Z a0,q2= .agg #[.slice Q S T,.slice U V X,.slice Y Z a0]/\(Pure P 24 #[.agg #[.slice Q S T,.slice U V X,.slice Y Z a0],.slice none 0 0,.slice c g d] q3 fun q4 q5=>∃a1 a2 a3 o,q4= .tuple #[.slice a1 a2 a3,.int .i64 o]/\(Pure P 38 #[] q5 fun q6 q7=>∃a4 a5 a6 a7 a8 a9 b0 b1 b2,q6= .agg #[.slice a4 a5 a6,.slice a7 a8 a9,.slice b0 b1 b2]/\(Pure P 16 #[.agg #[.slice a4 a5 a6,.slice a7 a8 a9,.slice b0 b1 b2],.slice none 0 0,.slice c g d,.int .i64 3] q7 fun q8 q9=>∃b3 m b4 p,q8= .tuple #[.slice b3 m b4,.int .i64 p]/\(Pure P 38 #[] q9 fun r0 r1=>∃b5 b6 b7 b8 b9 c0 r2 r3 r4,r0= .agg #[.slice b5 b6 b7,.slice b8 b9 c0,.slice r2 r3 r4]/\(Pure P 12 #[.agg #[.slice b5 b6 b7,.slice b8 b9 c0],.slice none 0 0,.slice b3 m b4] r1 fun r5 r6=>∃q r s t,r5= .tuple #[.slice q r s,.int .i64 t]/\(Pure P 38 #[] r6 fun r7 r8=>∃c1 c2 c3 c4 c5 c6 c7 c8 c9,r7= .agg #[.slice c1 c2 c3,.slice c4 c5 c6,.slice c7 c8 c9]/\(RunOk P (Instr.buildSlice 48 2 #[(0,(.int .i64 0)),(1,(.int .i64 1))]) w.heap.size [] r8 fun r9 s0=>∃d0 d1 d2,r9= .slice d0 d1 d2/\(Pure P 27 #[.agg #[.slice c1 c2 c3,.slice c4 c5 c6,.slice c7 c8 c9],.slice none 0 0,.slice c g d,.slice d0 d1 d2] s0 fun s1 a=>∃i j,s1= .tuple #[.int .i64 i,.int .i64 j]/\(((n=0)->(((o=0)->(((p=0)->(((t=0)->(∀d3,Ext w.heap.size [] a d3->(RunOk P (Instr.buildSlice 48 2 #[(0,(.int .i64 1)),(1,(.int .i64 0))]) w.heap.size [] d3 fun s2 s3=>∃d4 d5 d6,s2= .slice d4 d5 d6/\(Pure P 26 #[.slice M N O,.slice d4 d5 d6] s3 fun s4 l=>∃u,s4= .bool u/\((u=true->(RunOk P (Instr.buildSlice 48 3 #[(0,(.int .i64 0)),(1,(.int .i64 2)),(2,(.int .i64 3))]) w.heap.size [] l fun s5 s6=>∃d7 d8 d9,s5= .slice d7 d8 d9/\(Pure P 26 #[.slice a1 a2 a3,.slice d7 d8 d9] s6 fun s7 b=>∃v,s7= .bool v/\((v=true->((((m:Int)=2)->((0<=(1:Int)/\(1:Int)<g)/\∃x,c=some x/\((0<=(0:Int)/\(0:Int)<g)/\∃y,c=some y/\((∃e0 e1 e2,CellsAt b (x.add (((1:Int)).toNat*3)) [.int .i64 e0,.int .i64 e1,.int .i64 e2]/\(∃e3 e4 e5,CellsAt b (y.add (((0:Int)).toNat*3)) [.int .i64 e3,.int .i64 e4,.int .i64 e5]/\(RunOk P (Instr.buildSlice 30 2 #[(0,(.agg #[.int .i64 e0,.int .i64 e1,.int .i64 e2])),(1,(.agg #[.int .i64 e3,.int .i64 e4,.int .i64 e5]))]) w.heap.size [] b fun s8 s9=>∃e6 e7 e8,s8= .slice e6 e7 e8/\(Pure P 39 #[.slice q r s,.slice e6 e7 e8] s9 fun t0 e=>∃z,t0= .bool z/\((z=true->(((i=0)->(((j=15)->((0<=(1:Int)/\(1:Int)<=(d:Int))/\((Pure P 38 #[] e fun t1 t2=>∃e9 f0 f1 f2 f3 f4 f5 f6 f7,t1= .agg #[.slice e9 f0 f1,.slice f2 f3 f4,.slice f5 f6 f7]/\(RunOk P (Instr.buildSlice 48 1 #[(0,(.int .i64 0))]) w.heap.size [] t2 fun t3 t4=>∃f8 f9 g0,t3= .slice f8 f9 g0/\(Pure P 30 #[.agg #[.slice e9 f0 f1,.slice f2 f3 f4,.slice f5 f6 f7],.slice none 0 0,(.slice c (((1:Int)).toNat) d),.slice f8 f9 g0] t4 fun t5 t6=>∃g1,t5= .int .i64 g1/\(R (.bool (decide (g1=0))) t6))))/\(RunOk P (Instr.buildSlice 48 1 #[(0,(.int .i64 0))]) w.heap.size [] e fun t7 t8=>∃g2 g3 g4,t7= .slice g2 g3 g4/\(Pure P 38 #[] t8 fun t9 v0=>∃g5 g6 g7 g8 g9 j0 j1 j2 j3,t9= .agg #[.slice g5 g6 g7,.slice g8 g9 j0,.slice j1 j2 j3]/\(Pure P 30 #[.agg #[.slice g5 g6 g7,.slice g8 g9 j0,.slice j1 j2 j3],.slice none 0 0,(.slice c (((1:Int)).toNat) d),.slice g2 g3 g4] v0 fun v1 v2=>∃j4,v1= .int .i64 j4/\(R (.bool (decide (j4=0))) v2)))))))/\(¬(j=15)->((R (.bool false) e)/\(R (.bool false) e)))))/\(¬(i=0)->((R (.bool false) e)/\(R (.bool false) e)))))/\(z=false->((R (.bool false) e)/\(R (.bool false) e))))))))/\(∃j5 j6 j7,CellsAt b (y.add (((0:Int)).toNat*3)) [.int .i64 j5,.int .i64 j6,.int .i64 j7]/\(∃j8 j9 l0,CellsAt b (x.add (((1:Int)).toNat*3)) [.int .i64 j8,.int .i64 j9,.int .i64 l0]/\(RunOk P (Instr.buildSlice 30 2 #[(0,(.agg #[.int .i64 j8,.int .i64 j9,.int .i64 l0])),(1,(.agg #[.int .i64 j5,.int .i64 j6,.int .i64 j7]))]) w.heap.size [] b fun v3 v4=>∃l1 l2 l3,v3= .slice l1 l2 l3/\(Pure P 39 #[.slice q r s,.slice l1 l2 l3] v4 fun v5 f=>∃A,v5= .bool A/\((A=true->(((i=0)->(((j=15)->((0<=(1:Int)/\(1:Int)<=(d:Int))/\((Pure P 38 #[] f fun v6 v7=>∃l4 l5 l6 l7 l8 l9 m0 m1 m2,v6= .agg #[.slice l4 l5 l6,.slice l7 l8 l9,.slice m0 m1 m2]/\(RunOk P (Instr.buildSlice 48 1 #[(0,(.int .i64 0))]) w.heap.size [] v7 fun v8 v9=>∃m3 m4 m5,v8= .slice m3 m4 m5/\(Pure P 30 #[.agg #[.slice l4 l5 l6,.slice l7 l8 l9,.slice m0 m1 m2],.slice none 0 0,(.slice c (((1:Int)).toNat) d),.slice m3 m4 m5] v9 fun x0 x1=>∃m6,x0= .int .i64 m6/\(R (.bool (decide (m6=0))) x1))))/\(RunOk P (Instr.buildSlice 48 1 #[(0,(.int .i64 0))]) w.heap.size [] f fun x2 x3=>∃m7 m8 m9,x2= .slice m7 m8 m9/\(Pure P 38 #[] x3 fun x4 x5=>∃n0 n1 n2 n3 n4 n5 n6 n7 n8,x4= .agg #[.slice n0 n1 n2,.slice n3 n4 n5,.slice n6 n7 n8]/\(Pure P 30 #[.agg #[.slice n0 n1 n2,.slice n3 n4 n5,.slice n6 n7 n8],.slice none 0 0,(.slice c (((1:Int)).toNat) d),.slice m7 m8 m9] x5 fun x6 x7=>∃n9,x6= .int .i64 n9/\(R (.bool (decide (n9=0))) x7)))))))/\(¬(j=15)->((R (.bool false) f)/\(R (.bool false) f)))))/\(¬(i=0)->((R (.bool false) f)/\(R (.bool false) f)))))/\(A=false->((R (.bool false) f)/\(R (.bool false) f))))))))))))/\(¬((m:Int)=2)->(((R (.bool false) b)/\(R (.bool false) b))/\((R (.bool false) b)/\(R (.bool false) b))))))/\(v=false->(((R (.bool false) b)/\(R (.bool false) b))/\((R (.bool false) b)/\(R (.bool false) b))))))))/\(u=false->(((R (.bool false) l)/\(R (.bool false) l))/\((R (.bool false) l)/\(R (.bool false) l)))))))))/\(¬(t=0)->(((∀o0,Ext w.heap.size [] a o0->(R (.bool false) o0))/\(∀o1,Ext w.heap.size [] a o1->(R (.bool false) o1)))/\((∀o2,Ext w.heap.size [] a o2->(R (.bool false) o2))/\(∀o3,Ext w.heap.size [] a o3->(R (.bool false) o3)))))))/\(¬(p=0)->(((∀o4,Ext w.heap.size [] a o4->(R (.bool false) o4))/\(∀o5,Ext w.heap.size [] a o5->(R (.bool false) o5)))/\((∀o6,Ext w.heap.size [] a o6->(R (.bool false) o6))/\(∀o7,Ext w.heap.size [] a o7->(R (.bool false) o7)))))))/\(¬(o=0)->(((∀o8,Ext w.heap.size [] a o8->(R (.bool false) o8))/\(∀o9,Ext w.heap.size [] a o9->(R (.bool false) o9)))/\((∀p0,Ext w.heap.size [] a p0->(R (.bool false) p0))/\(∀p1,Ext w.heap.size [] a p1->(R (.bool false) p1)))))))/\(¬(n=0)->(((∀p2,Ext w.heap.size [] a p2->(R (.bool false) p2))/\(∀p3,Ext w.heap.size [] a p3->(R (.bool false) p3)))/\((∀p4,Ext w.heap.size [] a p4->(R (.bool false) p4))/\(∀p5,Ext w.heap.size [] a p5->(R (.bool false) p5))))))))))))))))))):
  Pure P 10 #[] w R:=
 pure_of_run (garboardlaw51_awake.cx w w.heap.size R) 100000 follows Tryz.func10 rfl rfl rfl rfl rfl rfl rfl (Eq.mp (by kernel_rfl) h)

noncomputable def garboardlaw51_few.cx(w:World)(B:Nat)(R:Value->World->Prop):Cx:=⟨Tryz.prog,11,19,Tryz.f11.results.toList,[],[],w,B,R⟩
theorem garboardlaw51_few.vc(d:Option Addr)(e f:Nat)(g:Option Addr)(i j:Nat)(l:Option Addr)(m n:Nat)(q:Option Addr)(a r:Nat)(s:Option Addr)(o t:Nat)(w:World)(R:Value->World->Prop)
  (h:(∀p,Ext w.heap.size [] w p->(Pure P 40 #[.agg #[.slice d e f,.slice g i j,.slice l m n]] p fun u b=>∃c,u= .bool c/\((c=true->((((a:Int)<=(40:Int))->(R (.bool (decide ((o:Int)<=(7:Int)))) b))/\(¬((a:Int)<=(40:Int))->(R (.bool false) b))))/\(c=false->(R (.bool false) b)))))):
  Pure P 11 #[.agg #[.slice d e f,.slice g i j,.slice l m n],.slice q a r,.slice s o t] w R:=
 pure_of_run (garboardlaw51_few.cx w w.heap.size R) 100000 follows Tryz.func11 rfl rfl rfl rfl rfl rfl rfl (Eq.mp (by kernel_rfl) h)

noncomputable def garboardlaw51_Two.cx(w:World)(B:Nat)(R:Value->World->Prop):Cx:=⟨Tryz.prog,38,15,Tryz.f38.results.toList,[],[(1,2,2),(1,7,2),(1,9,2),(1,12,2)],w,B,R⟩
theorem garboardlaw51_Two.vc  (w:World)(R:Value->World->Prop)
  (h:(∀a,Ext w.heap.size [] w a->(RunOk P (Instr.buildSlice 22 2 #[(0,(.agg #[.int .i64 1,.int .i64 3,.int .i64 1,(.string ⟨#[97]⟩),(.string ⟨#[50]⟩),(.string ⟨#[49]⟩),(.string ⟨#[53]⟩)])),(1,(.agg #[.int .i64 2,.int .i64 1,.int .i64 2,(.string ⟨#[98]⟩),(.string ⟨#[49,47,50]⟩),(.string ⟨#[52]⟩),(.string ⟨#[49]⟩)]))]) w.heap.size [28] a fun q r=>∃b c d,q= .slice b c d/\(RunOk P (Instr.buildSlice 23 2 #[(0,(.agg #[.int .i64 1,(.string ⟨#[65]⟩),(.string ⟨#[52]⟩),(.string ⟨#[55]⟩),(.string ⟨#[49,48]⟩),(.string ⟨#[48]⟩),(.string ⟨#[49]⟩)])),(1,(.agg #[.int .i64 2,(.string ⟨#[66]⟩),(.string ⟨#[57]⟩),(.string ⟨#[51]⟩),(.string ⟨#[45,53]⟩),(.string ⟨#[48]⟩),(.string ⟨#[49]⟩)]))]) w.heap.size [28] r fun s t=>∃e f g,s= .slice e f g/\(RunOk P (Instr.buildSlice 85 2 #[(0,(.string ⟨#[49,48]⟩)),(1,(.string ⟨#[45,53]⟩))]) w.heap.size [28] t fun u v=>∃i j l,u= .slice i j l/\(RunOk P (Instr.buildSlice 26 2 #[(0,(.agg #[(.string ⟨#[108,105,115,116]⟩),.int .i64 1,.slice i j l,(.string ⟨#[48]⟩),(.string ⟨#[51,48]⟩),.int .i64 0,.int .i64 0])),(1,(.agg #[(.string ⟨#[97,112,97,114,116]⟩),.int .i64 2,.slice none 0 0,(.string ⟨#[]⟩),(.string ⟨#[]⟩),.int .i64 1,.int .i64 2]))]) w.heap.size [28] v fun x y=>∃m n o,x= .slice m n o/\(∀p,Ext w.heap.size [28] y p->(R (.agg #[.slice b c d,.slice e f g,.slice m n o]) p)))))))):
  Pure P 38 #[] w R:=
 pure_of_run (garboardlaw51_Two.cx w w.heap.size R) 100000 follows Tryz.func38 rfl rfl rfl rfl rfl rfl rfl (Eq.mp (by kernel_rfl) h)

end Go.Proofs.YtgfkeadgjkfomaaGreatDoor.F

namespace Go.Proofs.YtgfkeadgjkfomaaGreatDoor.B
open Go Go.RowKit Go.Proofs Go.Proofs.YtgfkeadgjkfomaaGreatDoor.Vc

theorem CloneW{w:World}{A:Option Addr}{n c:Nat}{l:List Sw}(h:SlR w A 3 (l.map Sw.row))(hlen:l.length=n)(hn:n<=1000000):
  Pure Tryz.prog 18 #[.slice A n c] w fun v w'=>∃A' c',v= .slice A' n c'/\OwnR w' w.heap.size 44 A' n c' 3 (l.map Sw.row):=by
 refine F.slices_Clone_api_Work_api_Work.vc _ _ _ _ _ ⟨fun hA=> ?_,fun hA=> ?_⟩
 ·subst hA
  have:=h.none_nil
  simp at this
  subst this
  simp at hlen
  subst hlen
  exact⟨none,0,rfl,OwnR.nil⟩
 ·obtain⟨a,rfl⟩:=Option.ne_none_iff_exists'.1 hA
  refine runOk_lit el_Ws [] (by simp) (by simp) (Nat.le_refl _) fun A2 c2 w2 ho b2=> ?_
  refine app_rows el_Ws (Nat.le_refl _) (by simpa using ho) (h.below b2) (by simpa using hlen) rowS_len rowS_cell b2.size (by simp;omega) (by simp) fun A' c' w3 o3 _ b3=> ?_
  simp only[List.length_nil,Nat.zero_add,List.nil_append]at o3⊢
  exact⟨A',c',rfl,o3⟩
theorem EqualW{w0:World}{A A1:Option Addr}{n n1 c c1:Nat}{l l1:List Sw}(h:SlR w0 A 3 (l.map Sw.row))(h1:SlR w0 A1 3 (l1.map Sw.row))(hlen:l.length=n)(hlen1:l1.length=n1)(hn:n<2147483648):
  Pure Tryz.prog 39 #[.slice A n c,.slice A1 n1 c1] w0 fun y _=>y= .bool (decide (l=l1)):=by
 have key:n=n1->∀(d i:Nat)(w:World),n - i=d->i<=n->Below w0.heap.size w0 w->l.take i=l1.take i->F.slices_Equal_api_Work_api_Work.L4 A n c A1 n1 c1 n i w0.heap.size w fun y _=>y= .bool (decide (l=l1)):=by
  intro e d
  induction d with
  |zero=>
   intro i w hd hi hw hx
   refine F.slices_Equal_api_Work_api_Work.L4.step _ _ _ _ _ _ _ _ _ _ _ ⟨fun h=>by omega,fun _=> ?_⟩
   rw[List.take_of_length_le (by omega),List.take_of_length_le (by omega)]at hx
   rw[decide_eq_true hx]
  |succ d ih=>
   intro i w hd hi hw hx
   have hil:i<l.length:=by omega
   have hil1:i<l1.length:=by omega
   have e3:(i:Int)+1=((i+1:Nat):Int):=by omega
   obtain⟨hb,a,hA,hcell,_⟩:=(h.keep hw (Nat.le_refl _)).at_ (fun _=>rfl) hlen hil
   obtain⟨hb1,a1,hA1,hcell1,_⟩:=(h1.keep hw (Nat.le_refl _)).at_ (fun _=>rfl) hlen1 hil1
   refine F.slices_Equal_api_Work_api_Work.L4.step _ _ _ _ _ _ _ _ _ _ _ ⟨fun _=>⟨hb,a,hA,_,_,_,hcell,hb1,a1,hA1,_,_,_,hcell1,fun k w2 _=> ?_,fun k=>⟨by simp only[inR];omega,fun w2 x2=> ?_⟩⟩,fun h=>by omega⟩
   ·rw[decide_eq_false fun e=>k (by subst e;exact⟨rfl,rfl,rfl,trivial⟩)]
   ·rw[e3]
    refine ih (i+1) w2 (by omega) (by omega) (kE hw x2) ?_
    have k:=Decidable.not_not.1 k
    have e:l[i]=l1[i]:=by
     cases hx1:l[i]
     cases hx2:l1[i]
     rw[hx1,hx2]at k
     simp only at k
     rw[k.1,k.2.1,k.2.2.1]
    rw[List.take_add_one,List.take_add_one,hx,List.getElem?_eq_getElem hil,List.getElem?_eq_getElem hil1,e]
 refine F.slices_Equal_api_Work_api_Work.vc _ _ _ _ _ _ _ _ ⟨fun k=> ?_,fun k=>key (by omega) n 0 w0 rfl (by omega) (Below.refl _ _) (by simp)⟩
 rw[decide_eq_false fun e=>k (by subst e;omega)]

def rsT:List Ru:=[⟨⟨#[108,105,115,116]⟩,1,[⟨#[49,48]⟩,⟨#[45,53]⟩],⟨#[48]⟩,⟨#[51,48]⟩,0,0⟩,⟨⟨#[97,112,97,114,116]⟩,2,[],⟨#[]⟩,⟨#[]⟩,1,2⟩]
def wT:List Sw:=[⟨2,1,1⟩,⟨1,1,1⟩]
def sT:List Sw:=[⟨1,1,1⟩,⟨2,1,1⟩]
theorem rsT_sm:∀r∈rsT,SmRu r:=by
 intro r hr
 simp only[rsT,List.mem_cons,List.not_mem_nil,or_false]at hr
 rcases hr with rfl|rfl
 ·refine⟨fun s hs'=> ?_,by decide,by decide,by decide,by decide⟩
  simp only[List.mem_cons,List.not_mem_nil,or_false]at hs'
  rcases hs' with rfl|rfl<;>decide
 ·exact⟨fun s hs'=>(by cases hs'),by decide,by decide,by decide,by decide⟩
theorem t_order:orderF psT hsT rsT [] wT=([1,0],0):=by kernel_rfl
theorem t_reach:reachF psT hsT rsT [] wT=([0,2,3],0):=by kernel_rfl
theorem t_state:statesF psT hsT rsT [] wT 3=(sT,0):=by kernel_rfl
theorem t_between:betweenF psT hsT [] sT=([⟨1,1,1⟩,⟨2,1,1⟩],0):=by kernel_rfl
theorem t_orders:ordersF psT hsT rsT [] wT [0,1]=(0,15):=by kernel_rfl
theorem t_closed:closedF psT hsT rsT [] [⟨2,1,1⟩] [0]=0:=by kernel_rfl
theorem law51_Two(w:World):Pure Tryz.prog 38 #[] w fun v w'=>∃A c A' c' A2 c2 xs,v= .agg #[.slice A 2 c,.slice A' 2 c',.slice A2 2 c2]/\PrIn w' A 2 A' 2 A2 2 c2 psT hsT xs/\rsOf xs=rsT:=by
 refine F.garboardlaw51_Two.vc _ _ fun w1 x1=> ?_
 have hw:=k0 x1
 refine runOk_lit el_Pas (psT.map Pa.val) (by simp[psT,Value.cells]) (by simp[psT]) hw.size fun A c w2 o2 b2=> ?_
 have hw:=kP hw b2
 refine runOk_lit el_Hos (hsT.map Ho.val) (by simp[hsT,Value.cells]) (by simp[hsT]) hw.size fun A' c' w3 o3 b3=> ?_
 have hw:=kP hw b3
 refine runOk_lit el_Rats [.string ⟨#[49,48]⟩,.string ⟨#[45,53]⟩] (by simp[Value.cells]) (by simp) hw.size fun A8 c8 w4 o4 b4=> ?_
 have hw:=kP hw b4
 refine runOk_lit el_Rus [Rm.val ⟨⟨⟨#[108,105,115,116]⟩,1,[⟨#[49,48]⟩,⟨#[45,53]⟩],⟨#[48]⟩,⟨#[51,48]⟩,0,0⟩,A8,2,c8⟩,Rm.val ⟨⟨⟨#[97,112,97,114,116]⟩,2,[],⟨#[]⟩,⟨#[]⟩,1,2⟩,none,0,0⟩] (by simp[Value.cells]) (by simp) hw.size fun A2 c2 w5 o5 b5 w6 x6=> ?_
 have hk:=Kq.ext x6
 have p2:=(((o2.below b3).below b4).below b5).kq hk (by decide) (by decide)
 have p3:=((o3.below b4).below b5).kq hk (by decide) (by decide)
 have p4:=(o4.below b5).kq hk (by decide) (by decide)
 have p5:=o5.extT x6 (by decide)
 have s2:SlR w6 A 7 (psT.map Pa.row):=p2.sl
 have s3:SlR w6 A' 7 (hsT.map Ho.row):=p3.sl
 refine⟨A,c,A',c',A2,c2,[⟨⟨⟨#[108,105,115,116]⟩,1,[⟨#[49,48]⟩,⟨#[45,53]⟩],⟨#[48]⟩,⟨#[51,48]⟩,0,0⟩,A8,2,c8⟩,⟨⟨⟨#[97,112,97,114,116]⟩,2,[],⟨#[]⟩,⟨#[]⟩,1,2⟩,none,0,0⟩],rfl,⟨⟨s2,s3,rfl,rfl,fun p hp=> ?_,fun h hh=> ?_,by omega,by omega⟩,p5.sl,rfl,fun x hx=> ?_,by omega,p5.len_le⟩,rfl⟩
 ·simp only[psT,List.mem_cons,List.not_mem_nil,or_false]at hp
  rcases hp with rfl|rfl<;>exact⟨by decide,by decide,by decide,by decide⟩
 ·simp only[hsT,List.mem_cons,List.not_mem_nil,or_false]at hh
  rcases hh with rfl|rfl<;>exact⟨by decide,by decide,by decide,by decide,by decide,by decide⟩
 ·simp only[List.mem_cons,List.not_mem_nil,or_false]at hx
  rcases hx with rfl|rfl
  ·exact⟨p4.sl,rfl,rsT_sm _ (by simp[rsT]),p4.z⟩
  ·exact⟨.inl rfl,rfl,rsT_sm _ (by simp[rsT]),fun _=>rfl⟩
theorem law51_awake{w:World}(hg:Glob w):Pure Tryz.prog 10 #[] w fun v _=>v= .bool true:=by
 refine F.garboardlaw51_awake.vc _ _ ?_
 refine runOk_lit el_Ws (wT.map Sw.val) (by simp[wT,Value.cells]) (by simp[wT]) (Nat.le_refl _) fun A1 c1 w3 o3 b3=> ?_
 have h1:SlR w3 A1 3 (wT.map Sw.row):=o3.sl
 have hc1:2<=c1:=o3.len_le
 have hw:=b3
 refine Pure.mono (law51_Two w3) ?_
 rintro v w8 b8 ⟨A4,c4,A5,c5,A6,c6,xs,rfl,hp,hxs⟩
 have hw:=kP hw b8
 have h1:=h1.below b8
 refine⟨_,_,_,_,_,_,_,_,_,rfl,Pure.mono (seq_Order (l:=[]) (n:=0) (hg.next hw) hp (.inl rfl) rfl (Nat.le_refl _) (by omega) h1 rfl) ?_⟩
 rw[hxs,t_order]
 rintro v w12 b12 ⟨A9,n9,c9,rfl,s9,l9,_⟩
 have hw:=kP hw b12
 have h1:=h1.below b12
 refine⟨_,_,_,_,rfl,Pure.mono (law51_Two w12) ?_⟩
 rintro v w17 b17 ⟨A4,c4,A5,c5,A6,c6,xs,rfl,hp,hxs⟩
 have hw:=kP hw b17
 have h1:=h1.below b17
 have s9:=s9.below b17
 refine⟨_,_,_,_,_,_,_,_,_,rfl,Pure.mono (seq_Reached (l:=[]) (n:=0) (hg.next hw) hp (.inl rfl) rfl (Nat.le_refl _) (by omega) h1 rfl) ?_⟩
 rw[hxs,t_reach]
 rintro v w21 b21 ⟨A18,n18,c18,rfl,s18,l18,_⟩
 have hw:=kP hw b21
 have h1:=h1.below b21
 have s9:=s9.below b21
 refine⟨_,_,_,_,rfl,Pure.mono (law51_Two w21) ?_⟩
 rintro v w26 b26 ⟨A4,c4,A5,c5,A6,c6,xs,rfl,hp,hxs⟩
 have hw:=kP hw b26
 have h1:=h1.below b26
 have s9:=s9.below b26
 have s18:=s18.below b26
 refine⟨_,_,_,_,_,_,_,_,_,rfl,Pure.mono (seq_State (l:=[]) (n:=0) (hg.next hw) hp (.inl rfl) rfl (Nat.le_refl _) (by omega) h1 rfl 3) ?_⟩
 rw[hxs,t_state]
 rintro v w30 b30 ⟨A27,n27,c27,rfl,s27,l27,k27,_⟩
 have hw:=kP hw b30
 have h1:=h1.below b30
 have s9:=s9.below b30
 have s18:=s18.below b30
 have n27:2=n27:=l27
 subst n27
 refine⟨_,_,_,_,rfl,Pure.mono (law51_Two w30) ?_⟩
 rintro v w35 b35 ⟨A4,c4,A5,c5,A6,c6,xs,rfl,hp,hxs⟩
 have hw:=kP hw b35
 have h1:=h1.below b35
 have s9:=s9.below b35
 have s18:=s18.below b35
 have s27:=s27.below b35
 refine⟨_,_,_,_,_,_,_,_,_,rfl,Pure.mono (seq_Between (l:=[]) (n:=0) (m:=sT) (hg.next hw) hp.c (.inl rfl) rfl (Nat.le_refl _) (by omega) s27 rfl k27 (by omega)) ?_⟩
 rw[t_between]
 rintro v w39 b39 ⟨A36,n36,c36,rfl,s36,l36,_⟩
 have hw:=kP hw b39
 have h1:=h1.below b39
 have s9:=s9.below b39
 have s18:=s18.below b39
 refine⟨_,_,_,_,rfl,Pure.mono (law51_Two w39) ?_⟩
 rintro v w44 b44 ⟨A4,c4,A5,c5,A6,c6,xs,rfl,hp,hxs⟩
 have hw:=kP hw b44
 have h1:=h1.below b44
 have s9:=s9.below b44
 have s18:=s18.below b44
 have s36:=s36.below b44
 refine⟨_,_,_,_,_,_,_,_,_,rfl,runOk_lit el_Ints [.int .i64 0,.int .i64 1] (by simp[Value.cells]) (by simp) hw.size fun A45 c45 w47 o47 b47=> ?_⟩
 have hw:=kP hw b47
 have h1:=h1.below b47
 have s9:=s9.below b47
 have s18:=s18.below b47
 have s36:=s36.below b47
 have s45:SlR w47 A45 1 (([0,1]:List Int).map iRow):=o47.sl
 refine Pure.mono (seq_Check (l:=[]) (n:=0) (o:=[0,1]) (hg.next hw) (hp.keep b47) (.inl rfl) rfl (Nat.le_refl _) (by omega) h1 rfl s45 rfl (by decide)) ?_
 rw[hxs,t_orders]
 rintro v w51 b51 rfl
 have hw:=kP hw b51
 have h1:=h1.below b51
 have s9:=s9.below b51
 have s18:=s18.below b51
 have s36:=s36.below b51
 refine⟨_,_,rfl,fun _=>⟨fun _=>⟨fun _=>⟨fun _ w52 x52=> ?_,fun k=>absurd rfl k⟩,fun k=>absurd rfl k⟩,fun k=>absurd rfl k⟩,fun k=>absurd rfl k⟩
 have hw:=kE hw x52
 have h1:=h1.extNil x52
 have s9:=s9.extNil x52
 have s18:=s18.extNil x52
 have s36:=s36.extNil x52
 refine runOk_lit el_Ints [.int .i64 1,.int .i64 0] (by simp[Value.cells]) (by simp) hw.size fun A53 c53 w55 o55 b55=> ?_
 have hw:=kP hw b55
 have h1:=h1.below b55
 have s9:=s9.below b55
 have s18:=s18.below b55
 have s36:=s36.below b55
 have s53:SlR w55 A53 1 (([1,0]:List Int).map iRow):=o55.sl
 refine Pure.mono (EqualI s9 s53 l9 rfl (by subst l9;decide)) ?_
 rintro v w58 b58 rfl
 have hw:=kP hw b58
 have h1:=h1.below b58
 have s18:=s18.below b58
 have s36:=s36.below b58
 refine⟨_,rfl,fun _=> ?_,fun k=>by simp at k⟩
 refine runOk_lit el_Ints [.int .i64 0,.int .i64 2,.int .i64 3] (by simp[Value.cells]) (by simp) hw.size fun A59 c59 w61 o61 b61=> ?_
 have hw:=kP hw b61
 have h1:=h1.below b61
 have s18:=s18.below b61
 have s36:=s36.below b61
 have s59:SlR w61 A59 1 (([0,2,3]:List Int).map iRow):=o61.sl
 refine Pure.mono (EqualI s18 s59 l18 rfl (by subst l18;decide)) ?_
 rintro v w64 b64 rfl
 have hw:=kP hw b64
 have h1:=h1.below b64
 have s36:=s36.below b64
 refine⟨_,rfl,fun _=>⟨fun _=> ?_,fun k=>absurd rfl k⟩,fun k=>by simp at k⟩
 obtain⟨c1a,a65,hA65,hc65,_⟩:=h1.at_ (fun _=>rfl) (n:=2) rfl (i:=1) (by decide)
 obtain⟨c0a,a66,hA66,hc66,_⟩:=h1.at_ (fun _=>rfl) (n:=2) rfl (i:=0) (by decide)
 have fin:∀(A:Option Addr)(c:Nat)(w109:World),Below w64.heap.size w64 w109->SlR w109 A 3 (([⟨1,1,1⟩,⟨2,1,1⟩]:List Sw).map Sw.row)->Pure Tryz.prog 39 #[.slice A36 n36 c36,.slice A 2 c] w109 fun v w112=>v= .bool true/\Below w.heap.size w w112/\SlR w112 A1 3 (([⟨2,1,1⟩]:List Sw).map Sw.row):=by
  intro A c w109 hb hA
  refine Pure.mono (EqualW (l:=[⟨1,1,1⟩,⟨2,1,1⟩]) (s36.below hb) hA l36 rfl (by subst l36;decide)) ?_
  rintro v w112 b112 rfl
  exact⟨by rw[decide_eq_true rfl],kP (kP hw hb) b112,((h1.below hb).below b112).take 1⟩
 have last:∀(w112:World),Below w.heap.size w w112->SlR w112 A1 3 (([⟨2,1,1⟩]:List Sw).map Sw.row)->∀(A118:Option Addr) (c118:Nat) (w120:World) (A c A' c' A2 c2) (xs:List Rm),Below w112.heap.size w112 w120->PrIn w120 A 2 A' 2 A2 2 c2 psT hsT xs->rsOf xs=rsT->SlR w120 A118 1 (([0]:List Int).map iRow)->Pure Tryz.prog 30 #[.agg #[.slice A 2 c,.slice A' 2 c',.slice A2 2 c2],.slice none 0 0,.slice A1 1 c1,.slice A118 1 c118] w120 fun r _=>∃i:Int,r= .int .i64 i/\Value.bool (decide (i=0))= .bool true:=by
  intro w112 hw112 h112 A118 c118 w120 A c A' c' A2 c2 xs hb hp hxs hs'
  refine Pure.mono (seq_Closed (l:=[]) (n:=0) (works:=[⟨2,1,1⟩]) (S:=[0]) (hg.next (kP hw112 hb)) hp (.inl rfl) rfl (Nat.le_refl _) (by omega) (h112.below hb) rfl hs' rfl (by decide)) ?_
  rw[hxs,t_closed]
  rintro v w123 _ rfl
  exact⟨_,rfl,rfl⟩
 refine⟨c1a,a65,hA65,c0a,a66,hA66,⟨_,_,_,hc65,_,_,_,hc66,?_⟩,⟨_,_,_,hc66,_,_,_,hc65,?_⟩⟩
 all_goals
  refine runOk_lit el_Ws [Sw.val ⟨1,1,1⟩,Sw.val ⟨2,1,1⟩] (by simp[Value.cells]) (by simp) hw.size fun A73 c73 w75 o75 b75=> ?_
  refine Pure.mono (fin A73 c73 w75 b75 o75.sl) ?_
  rintro v w78 _ ⟨rfl,hw78,h78⟩
  refine⟨_,rfl,fun _=>⟨fun _=>⟨fun _=>⟨by omega,?_,?_⟩,fun k=>absurd rfl k⟩,fun k=>absurd rfl k⟩,fun k=>by cases k⟩
  ·refine Pure.mono (law51_Two w78) ?_
   rintro v w83 b83 ⟨A4,c4,A5,c5,A6,c6,xs,rfl,hp,hxs⟩
   refine⟨_,_,_,_,_,_,_,_,_,rfl,runOk_lit el_Ints [.int .i64 0] (by simp[Value.cells]) (by simp) (kP hw78 b83).size fun A84 c84 w86 o86 b86=> ?_⟩
   exact last w78 hw78 h78 A84 c84 w86 _ _ _ _ _ _ xs (kP b83 b86) (hp.keep b86) hxs o86.sl
  ·refine runOk_lit el_Ints [.int .i64 0] (by simp[Value.cells]) (by simp) hw78.size fun A84 c84 w86 o86 b86=> ?_
   refine Pure.mono (law51_Two w86) ?_
   rintro v w83 b83 ⟨A4,c4,A5,c5,A6,c6,xs,rfl,hp,hxs⟩
   refine⟨_,_,_,_,_,_,_,_,_,rfl,?_⟩
   exact last w78 hw78 h78 A84 c84 w83 _ _ _ _ _ _ xs (kP b86 b83) hp hxs (o86.sl.below b83)
def few51(ps:List Pa)(hs:List Ho)(rs:List Ru)(n n3:Nat):Bool:=fewPr ps hs rs&&(decide (n<=40)&&decide (n3<=7))
section
variable {w:World} {A0 A1 A2 A A3:Option Addr} {n0 c0 n1 c1 n2 c2 n c n3 c3:Nat} {ps:List Pa} {hs:List Ho} {xs:List Rm}
theorem law51_few(h:PrRaw w A0 n0 c0 A1 n1 c1 A2 n2 c2 ps hs xs):
  Pure Tryz.prog 11 #[.agg #[.slice A0 n0 c0,.slice A1 n1 c1,.slice A2 n2 c2],.slice A n c,.slice A3 n3 c3] w fun v _=>v= .bool (few51 ps hs (rsOf xs) n n3):=by
 refine F.garboardlaw51_few.vc _ _ _ _ _ _ _ _ _ _ _ _ _ _ _ _ _ fun w1 x1=>Pure.mono (r48_Few (h.keep (k0 x1))) ?_
 rintro v w4 _ rfl
 unfold few51
 refine⟨_,rfl,fun k=>⟨fun k2=> ?_,fun k2=> ?_⟩,fun k=> ?_⟩
 ·rw[k,Bool.true_and,decide_eq_true (show n<=40 by omega),Bool.true_and]
  refine congrArg Value.bool ?_
  rw[decide_eq_decide]
  omega
 ·rw[k,Bool.true_and,decide_eq_false (show ¬n<=40 by omega),Bool.false_and]
 ·rw[k,Bool.false_and]
end

structure Ar (w:World) (A0:Option Addr) (n0 c0:Nat) (A1:Option Addr) (n1 c1:Nat) (A2:Option Addr) (n2 c2:Nat) (A:Option Addr) (n:Nat) (A3:Option Addr) (n3:Nat) (ps:List Pa) (hs:List Ho) (xs:List Rm) (l works:List Sw):Prop where
 p:PrIn w A0 n0 A1 n1 A2 n2 c2 ps hs xs
 z0:A0=none->c0=0
 z1:A1=none->c1=0
 s:SlR w A 3 (l.map Sw.row)
 ls:l.length=n
 n:n<=40
 wk:SlR w A3 3 (works.map Sw.row)
 lw:works.length=n3
 n7:n3<=7
section
variable {w w':World} {A0 A1 A2 A A3:Option Addr} {n0 c0 n1 c1 n2 c2 n c n3 c3:Nat} {ps:List Pa} {hs:List Ho} {xs:List Rm} {l works:List Sw}
theorem Ar.keep(h:Ar w A0 n0 c0 A1 n1 c1 A2 n2 c2 A n A3 n3 ps hs xs l works)(hb:Below w.heap.size w w'):Ar w' A0 n0 c0 A1 n1 c1 A2 n2 c2 A n A3 n3 ps hs xs l works:=
 ⟨h.p.keep hb,h.z0,h.z1,h.s.keep hb (Nat.le_refl _),h.ls,h.n,h.wk.keep hb (Nat.le_refl _),h.lw,h.n7⟩
theorem cp3(h:Ar w A0 n0 c0 A1 n1 c1 A2 n2 c2 A n A3 n3 ps hs xs l works){K:Option Addr->Nat->Nat->Option Addr->Nat->Nat->Option Addr->Nat->Nat->Option Addr->Nat->Nat->Option Addr->Nat->Nat->World->Prop}
  (hK:∀B0 d0 B1 d1 B2 d2 As cs Aw cw w3 ys,Below w.heap.size w w3->PrIn w3 B0 n0 B1 n1 B2 n2 d2 ps hs ys->rsOf ys=rsOf xs->SlR w3 As 3 (l.map Sw.row)->n<=cs->SlR w3 Aw 3 (works.map Sw.row)->K B0 n0 d0 B1 n1 d1 B2 n2 d2 As n cs Aw n3 cw w3):
  Pure Tryz.prog 17 #[.agg #[.slice A0 n0 c0,.slice A1 n1 c1,.slice A2 n2 c2]] w fun r w1=>∃B0 m0 d0 B1 m1 d1 B2 m2 d2,r= .agg #[.slice B0 m0 d0,.slice B1 m1 d1,.slice B2 m2 d2]/\
   (Pure Tryz.prog 14 #[.slice A n c] w1 fun r w2=>∃As ms cs,r= .slice As ms cs/\
    (Pure Tryz.prog 18 #[.slice A3 n3 c3] w2 fun r w3=>∃Aw mw cw,r= .slice Aw mw cw/\K B0 m0 d0 B1 m1 d1 B2 m2 d2 As ms cs Aw mw cw w3)):=by
 have hn:=h.n
 have h7:=h.n7
 refine Pure.mono (r48_Copy h.p h.z0 h.z1) ?_
 rintro v w1 b1 ⟨B0,d0,B1,d1,B2,d2,ys,rfl,hp,hys,_⟩
 refine⟨_,_,_,_,_,_,_,_,_,rfl,Pure.mono (CloneS (h.s.keep b1 (Nat.le_refl _)) h.ls (by omega)) ?_⟩
 rintro v w2 b2 ⟨As,cs,rfl,os⟩
 refine⟨_,_,_,rfl,Pure.mono (CloneW ((h.wk.keep b1 (Nat.le_refl _)).keep b2 (Nat.le_refl _)) h.lw (by omega)) ?_⟩
 rintro v w3 b3 ⟨Aw,cw,rfl,ow⟩
 exact⟨_,_,_,rfl,hK _ _ _ _ _ _ _ _ _ _ _ ys (kP (kP b1 b2) b3) ((hp.keep b2).keep b3) hys (os.below b3).sl os.len_le ow.sl⟩
theorem few_ar(hr:PrRaw w A0 n0 c0 A1 n1 c1 A2 n2 c2 ps hs xs)(hs':SlR w A 3 (l.map Sw.row))(hl:l.length=n)(hw:SlR w A3 3 (works.map Sw.row))(hlw:works.length=n3)(hf:few51 ps hs (rsOf xs) n n3=true):Ar w A0 n0 c0 A1 n1 c1 A2 n2 c2 A n A3 n3 ps hs xs l works:=by
 unfold few51 at hf
 rw[Bool.and_eq_true,Bool.and_eq_true]at hf
 exact⟨hr.few hf.1,hr.z0,hr.z1,hs',hl,of_decide_eq_true hf.2.1,hw,hlw,of_decide_eq_true hf.2.2⟩
end

theorem EqualS{w0:World}{A A1:Option Addr}{n n1 c c1:Nat}{l l1:List Sw}(h:SlR w0 A 3 (l.map Sw.row))(h1:SlR w0 A1 3 (l1.map Sw.row))(hlen:l.length=n)(hlen1:l1.length=n1)(hn:n<2147483648):
  Pure Tryz.prog 21 #[.slice A n c,.slice A1 n1 c1] w0 fun y _=>y= .bool (decide (l=l1)):=by
 have key:n=n1->∀(d i:Nat)(w:World),n - i=d->i<=n->Below w0.heap.size w0 w->l.take i=l1.take i->F.slices_Equal_api_Stow_api_Stow.L4 A n c A1 n1 c1 n i w0.heap.size w fun y _=>y= .bool (decide (l=l1)):=by
  intro e d
  induction d with
  |zero=>
   intro i w hd hi hw hx
   refine F.slices_Equal_api_Stow_api_Stow.L4.step _ _ _ _ _ _ _ _ _ _ _ ⟨fun h=>by omega,fun _=> ?_⟩
   rw[List.take_of_length_le (by omega),List.take_of_length_le (by omega)]at hx
   rw[decide_eq_true hx]
  |succ d ih=>
   intro i w hd hi hw hx
   have hil:i<l.length:=by omega
   have hil1:i<l1.length:=by omega
   have e3:(i:Int)+1=((i+1:Nat):Int):=by omega
   obtain⟨hb,a,hA,hcell,_⟩:=(h.keep hw (Nat.le_refl _)).at_ (fun _=>rfl) hlen hil
   obtain⟨hb1,a1,hA1,hcell1,_⟩:=(h1.keep hw (Nat.le_refl _)).at_ (fun _=>rfl) hlen1 hil1
   refine F.slices_Equal_api_Stow_api_Stow.L4.step _ _ _ _ _ _ _ _ _ _ _ ⟨fun _=>⟨hb,a,hA,_,_,_,hcell,hb1,a1,hA1,_,_,_,hcell1,fun k w2 _=> ?_,fun k=>⟨by simp only[inR];omega,fun w2 x2=> ?_⟩⟩,fun h=>by omega⟩
   ·rw[decide_eq_false fun e=>k (by subst e;exact⟨rfl,rfl,rfl,trivial⟩)]
   ·rw[e3]
    refine ih (i+1) w2 (by omega) (by omega) (kE hw x2) ?_
    have k:=Decidable.not_not.1 k
    have e:l[i]=l1[i]:=by
     cases hx1:l[i]
     cases hx2:l1[i]
     rw[hx1,hx2]at k
     simp only at k
     rw[k.1,k.2.1,k.2.2.1]
    rw[List.take_add_one,List.take_add_one,hx,List.getElem?_eq_getElem hil,List.getElem?_eq_getElem hil1,e]
 refine F.slices_Equal_api_Stow_api_Stow.vc _ _ _ _ _ _ _ _ ⟨fun k=> ?_,fun k=>key (by omega) n 0 w0 rfl (by omega) (Below.refl _ _) (by simp)⟩
 rw[decide_eq_false fun e=>k (by subst e;omega)]

theorem difE_neg(ps:List Pa)(hs:List Ho)(l m:List Sw)(k i:Nat):(difE (difA ps hs m l) ps hs k i).length=(difE (difA ps hs l m) ps hs k i).length:=by
 unfold difE
 split
 ·have e:difA ps hs m l i k≠0↔difA ps hs l m i k≠0:=by unfold difA;omega
  by_cases h:difA ps hs l m i k≠0
  ·rw[if_pos h,if_pos (e.2 h)];rfl
  ·rw[if_neg h,if_neg fun q=>h (e.1 q)]
 ·rfl
theorem flat_len{α β:Type}{f g:α->List β}(h:∀x,(f x).length=(g x).length):∀(l:List α),(l.flatMap f).length=(l.flatMap g).length
 |[]=>rfl
 |x::r=>by simp only[List.flatMap_cons,List.length_append,h x,flat_len h r]
theorem difG_len(ps:List Pa)(hs:List Ho)(l m:List Sw):(difG (difA ps hs m l) ps hs).length=(difG (difA ps hs l m) ps hs).length:=
 flat_len (fun k=>flat_len (fun i=>difE_neg ps hs l m k i) _) _
theorem workG_len(f:Nat->Nat->Int)(ps:List Pa)(hs:List Ho):(workG f ps hs).length=(difG f ps hs).length:=by
 unfold workG
 have key:∀(d:List Sw),(∀s∈d,s.units≠0)->(d.filter (fun s=>decide (s.units<0))++d.filter fun s=>decide (0<s.units)).length=d.length:=by
  intro d
  induction d with
  |nil=>intro _;rfl
  |cons x r ih=>
   intro h
   have h0:=h x (List.mem_cons_self ..)
   have:=ih fun s hs'=>h s (List.mem_cons_of_mem _ hs')
   rw[List.length_append]at this
   rw[List.length_append,List.filter_cons,List.filter_cons]
   by_cases k:x.units<0
   ·rw[if_pos (by simpa using k),if_neg (by simp;omega)]
    simp only[List.length_cons]
    omega
   ·rw[if_neg (by simpa using k),if_pos (by simp;omega)]
    simp only[List.length_cons]
    omega
 refine key _ fun s hs'=> ?_
 obtain⟨_,_,_,_,_,_,h0,rfl⟩:=mem_dif.1 hs'
 exact h0
theorem work_sorted(f:Nat->Nat->Int)(ps:List Pa)(hs:List Ho):(workG f ps hs).Pairwise fun a b=>¬(0<a.units/\b.units<0):=by
 unfold workG
 refine List.pairwise_append.2 ⟨?_,?_,fun x hx y hy q=> ?_⟩
 ·refine List.pairwise_of_forall_mem_list fun x hx y _ q=> ?_
  have:=(List.mem_filter.1 hx).2
  simp at this
  omega
 ·refine List.pairwise_of_forall_mem_list fun x _ y hy q=> ?_
  have:=(List.mem_filter.1 hy).2
  simp at this
  omega
 ·have:=(List.mem_filter.1 hx).2
  simp at this
  omega
theorem between_back(ps:List Pa)(hs:List Ho)(l m:List Sw):(betweenF ps hs m l).2=(betweenF ps hs l m).2/\((betweenF ps hs l m).2≠0->(betweenF ps hs l m).1=[])/\
  ((betweenF ps hs l m).2=0->checkC ps hs=0/\RightS ps hs l/\RightS ps hs m/\(betweenF ps hs l m).1=workG (difA ps hs l m) ps hs/\(betweenF ps hs m l).1=workG (difA ps hs m l) ps hs):=by
 unfold betweenF
 by_cases h:stowedF ps hs l≠0∨stowedF ps hs m≠0
 ·rw[if_pos h,if_pos (Or.comm.1 h)]
  exact⟨rfl,fun _=>rfl,fun k=>by cases k⟩
 ·have h':=fun q=>h (Or.comm.1 q)
  rw[if_neg h,if_neg h',difG_len ps hs l m]
  by_cases k:6<(difG (difA ps hs l m) ps hs).length
  ·rw[if_pos k,if_pos k]
   exact⟨rfl,fun _=>rfl,fun k=>by cases k⟩
  ·rw[if_neg k,if_neg k]
   refine⟨rfl,fun q=>absurd rfl q,fun _=> ?_⟩
   have h1:stowedF ps hs l=0:=Decidable.byContradiction fun q=>h (.inl q)
   have h2:stowedF ps hs m=0:=Decidable.byContradiction fun q=>h (.inr q)
   refine⟨Decidable.byContradiction fun q=> ?_,stowed_right h1,stowed_right h2,rfl,rfl⟩
   unfold stowedF at h1
   rw[if_pos q]at h1
   cases h1

theorem index_ws{w0:World}{A:Option Addr}{n c:Nat}{l:List Sw}(hl:SlR w0 A 3 (l.map Sw.row))(hlen:l.length=n)(hn:n<2147483648)(s:Sw){R:Value->World->Prop}{r:Int}(hR:∀w,Below w0.heap.size w0 w->R (.int .i64 r) w):
  ∀(d i:Nat)(w:World),n - i=d->i<=n->Below w0.heap.size w0 w->r=idxG (fun x=>decide (x=s)) i (l.drop i)->F.slices_Index_api_Work_api_Work.L2 A n c n i s.hold s.parcel s.units w0.heap.size w R:=by
 intro d
 induction d with
 |zero=>
  intro i w hd hi hw hr
  rw[List.drop_eq_nil_of_le (by omega)]at hr
  subst hr
  exact F.slices_Index_api_Work_api_Work.L2.step _ _ _ _ _ _ _ _ _ _ _ ⟨fun h=>by omega,fun _=>hR w hw⟩
 |succ d ih=>
  intro i w hd hi hw hr
  have hil:i<l.length:=by omega
  rw[List.drop_eq_getElem_cons hil,idxG]at hr
  obtain⟨hb,ad,hA,hcell,_⟩:=(hl.keep hw (Nat.le_refl _)).at_ (fun _=>rfl) hlen hil
  have e:(s.hold=l[i].hold/\s.parcel=l[i].parcel/\s.units=l[i].units/\True)↔l[i]=s:=by
   cases s;cases l[i];simp only[Sw.mk.injEq];constructor
   ·rintro⟨a,b,c,_⟩;exact⟨a.symm,b.symm,c.symm⟩
   ·rintro⟨a,b,c⟩;exact⟨a.symm,b.symm,c.symm,trivial⟩
  refine F.slices_Index_api_Work_api_Work.L2.step _ _ _ _ _ _ _ _ _ _ _ ⟨fun _=> ?_,fun h=>by omega⟩
  refine⟨hb,ad,hA,_,_,_,hcell,fun h w6 x6=> ?_,fun h=>⟨by simp only[inR];omega,fun w7 x7=> ?_⟩⟩
  ·rw[if_pos (decide_eq_true (e.1 h))]at hr
   subst hr
   exact hR w6 (kE hw x6)
  ·rw[if_neg (by simpa using fun q=>h (e.2 q))]at hr
   have e3:(i:Int)+1=((i+1:Nat):Int):=by omega
   rw[e3]
   exact ih (i+1) w7 (by omega) (by omega) (kE hw x7) hr
theorem ContainsW{w:World}{A:Option Addr}{n c:Nat}{l:List Sw}(hl:SlR w A 3 (l.map Sw.row))(hlen:l.length=n)(hn:n<2147483648)(s:Sw)(hs:s∈l):
  Pure Tryz.prog 37 #[.slice A n c,s.val] w fun v _=>v= .bool true:=by
 refine F.slices_Contains_api_Work_api_Work.vc _ _ _ _ _ _ _ _ fun w1 x1=>Pure.mono (F.slices_Index_api_Work_api_Work.vc _ _ _ _ _ _ _ _ fun w2 x2=>index_ws (hl.keep (k0 x1) (Nat.le_refl _)) hlen hn s (R:=fun v _=>v= .int .i64 (idxG (fun x=>decide (x=s)) 0 l)) (fun _ _=>rfl) n 0 w2 rfl (by omega) (k0 x2) rfl) ?_
 rintro v w4 _ rfl
 refine⟨_,rfl,congrArg Value.bool ?_⟩
 rw[any_idx]
 exact List.any_eq_true.2 ⟨s,hs,by simp⟩

section
variable {w:World} {A0 A1 A A':Option Addr} {n0 c0 n1 c1 n c n' c':Nat} {ps:List Pa} {hs:List Ho} {l m:List Sw}
theorem law51_Joins(hg:Glob w)(hr:CgRaw w A0 n0 A1 n1 ps hs)(hz0:A0=none->c0=0)(hz1:A1=none->c1=0)(hst:SlR w A 3 (l.map Sw.row))(hl:l.length=n)(hst':SlR w A' 3 (m.map Sw.row))(hl':m.length=n'):
  Pure Tryz.prog 9 #[.agg #[.slice A0 n0 c0,.slice A1 n1 c1],.slice A n c,.slice A' n' c'] w fun v _=>v= .bool true:=by
 refine F.garboardlaw51_SequenceJoins.vc _ _ _ _ _ _ _ _ _ _ _ _ _ _ fun w1 x1=> ?_
 have hw:=k0 x1
 refine Pure.mono (law51_awake (hg.next hw)) ?_
 rintro v w4 b4 rfl
 have hw4:=kP hw b4
 refine⟨_,rfl,fun k=>(by cases k),fun _=>Pure.mono (r47_Few (hr.keep hw4)) ?_⟩
 rintro v w7 b7 rfl
 have hw7:=kP hw4 b7
 refine⟨_,rfl,fun _=>rfl,fun hf=>⟨fun _=>rfl,fun h4=>⟨fun _=>rfl,fun h5=> ?_⟩⟩⟩
 have hc:=hr.few (Bool.not_eq_false _|>.mp hf)
 have hn:n<=40:=by omega
 have hn':n'<=40:=by omega
 refine Pure.mono (r47_Copy (hc.keep hw7) hz0 hz1) ?_
 rintro v w11 b11 ⟨B0,d0,B1,d1,rfl,hc1⟩
 have hw11:=kP hw7 b11
 refine⟨_,_,_,_,_,_,rfl,Pure.mono (CloneS (hst.keep hw11 (Nat.le_refl _)) hl (by omega)) ?_⟩
 rintro v w14 b14 ⟨As,cs,rfl,os⟩
 have hw14:=kP hw11 b14
 refine⟨_,_,_,rfl,Pure.mono (CloneS (hst'.keep hw14 (Nat.le_refl _)) hl' (by omega)) ?_⟩
 rintro v w17 b17 ⟨At,ct,rfl,ot⟩
 have hw17:=kP hw14 b17
 refine⟨_,_,_,rfl,Pure.mono (seq_Between (hg.next hw17) ((hc1.keep b14).keep b17) (os.below b17).sl hl os.len_le (by omega) ot.sl hl' ot.len_le (by omega)) ?_⟩
 rintro v w21 b21 ⟨Aw,nw,cw,rfl,sw,lw,_⟩
 have hw21:=kP hw17 b21
 refine⟨_,_,_,_,rfl,Pure.mono (r47_Copy (hc.keep hw21) hz0 hz1) ?_⟩
 rintro v w25 b25 ⟨B0,d0,B1,d1,rfl,hc1⟩
 have hw25:=kP hw21 b25
 refine⟨_,_,_,_,_,_,rfl,Pure.mono (CloneS (hst'.keep hw25 (Nat.le_refl _)) hl' (by omega)) ?_⟩
 rintro v w28 b28 ⟨As,cs,rfl,os⟩
 have hw28:=kP hw25 b28
 refine⟨_,_,_,rfl,Pure.mono (CloneS (hst.keep hw28 (Nat.le_refl _)) hl (by omega)) ?_⟩
 rintro v w31 b31 ⟨At,ct,rfl,ot⟩
 have hw31:=kP hw28 b31
 refine⟨_,_,_,rfl,Pure.mono (seq_Between (hg.next hw31) ((hc1.keep b28).keep b31) (os.below b31).sl hl' os.len_le (by omega) ot.sl hl ot.len_le (by omega)) ?_⟩
 rintro v w35 b35 ⟨Ab,nb,cb,rfl,sb,lb,_⟩
 have hw35:=kP hw31 b35
 obtain⟨e1,e2,e3⟩:=between_back ps hs l m
 refine⟨_,_,_,_,rfl,fun h=> ?_,fun h=>⟨fun k=>absurd (e1.trans (Decidable.not_not.1 h)) k,fun _=> ?_⟩⟩
 ·refine⟨fun _=> ?_,fun k=>absurd e1.symm k⟩
  rw[e2 h]at lw
  refine congrArg Value.bool (decide_eq_true ?_)
  simp at lw
  omega
 obtain⟨hck,rl,rm,f1,f2⟩:=e3 (Decidable.not_not.1 h)
 rw[f1]at sw lw
 rw[f2]at sb lb
 have len2:(workG (difA ps hs m l) ps hs).length=(workG (difA ps hs l m) ps hs).length:=by rw[workG_len,workG_len,difG_len]
 have hnw:nw<=6:=by
  rw[<-lw,workG_len]
  have h0:=Decidable.not_not.1 h
  unfold betweenF at h0
  split at h0
  ·cases h0
  ·split at h0
   ·cases h0
   ·omega
 have sw:=sw.below (kP (kP (kP b25 b28) b31) b35)
 refine Pure.mono (CloneS (hst.keep hw35 (Nat.le_refl _)) hl (by omega)) ?_
 rintro v w38 b38 ⟨Al,cl,rfl,ol⟩
 have hw38:=kP hw35 b38
 have hjoin:=work_joins hck rl rm
 have hsort:=work_sorted (difA ps hs l m) ps hs
 refine⟨_,_,_,rfl,?_⟩
 have hback:∀s∈workG (difA ps hs l m) ps hs,(⟨s.hold,s.parcel, -s.units⟩:Sw)∈workG (difA ps hs m l) ps hs:=fun s h=>work_back h
 revert sw lw hjoin hsort hback len2
 generalize workG (difA ps hs l m) ps hs=W
 intro lw len2 sw hjoin hsort hback
 have sw:=sw.below b38
 have sb:=sb.below b38
 have key:∀(d i:Nat)(Ac:Option Addr)(nc cc:Nat)(t:List Sw)(w':World),nw - i=d->i<=nw->Below w38.heap.size w38 w'->SlR w' Ac 3 (t.map Sw.row)->t.length=nc->nc<=cc->nc<=40->foldPut ps hs t (W.drop i)=some m->
   F.garboardlaw51_SequenceJoins.L11 A' n' c' Aw nw cw Ab nb cb Ac nc cc Aw nw cw nw i A0 n0 c0 A1 n1 c1 w.heap.size w' fun v _=>v= .bool true:=by
  intro d
  induction d with
  |zero=>
   intro i Ac nc cc t w' hd hi hb ht htl hcc hnc hj
   rw[List.drop_eq_nil_of_le (by omega),foldPut]at hj
   cases hj
   refine F.garboardlaw51_SequenceJoins.L11.step _ _ _ _ _ _ _ _ _ _ _ _ _ _ _ _ _ _ _ _ _ _ _ _ _ _ ⟨fun k=>by omega,fun _=>⟨fun _=>Pure.mono (EqualS ht (hst'.keep (kP hw38 hb) (Nat.le_refl _)) htl hl' (by omega)) ?_,fun k=>by omega⟩⟩
   rintro v w2 _ rfl
   exact⟨_,rfl,by simp⟩
  |succ d ih=>
   intro i Ac nc cc t w' hd hi hb ht htl hcc hnc hj
   have hil:i<W.length:=by omega
   have e3:(i:Int)+1=((i+1:Nat):Int):=by omega
   have hw':=kP hw38 hb
   obtain⟨hbb,a,hA,hcell,_⟩:=(sw.below hb).at_ (fun _=>rfl) lw hil
   rw[List.drop_eq_getElem_cons hil,foldPut]at hj
   refine F.garboardlaw51_SequenceJoins.L11.step _ _ _ _ _ _ _ _ _ _ _ _ _ _ _ _ _ _ _ _ _ _ _ _ _ _ ⟨fun _=>⟨hbb,a,hA,_,_,_,hcell,fun w43 x43=> ?_⟩,fun k=>by omega⟩
   have hw43:=kE hw' x43
   refine Pure.mono (r47_Copy (hc.keep hw43) hz0 hz1) ?_
   rintro v w47 b47 ⟨B0,d0,B1,d1,rfl,hc1⟩
   have hw47:=kP hw43 b47
   have h4347:Below w'.heap.size w' w47:=kP (ext_low x43) b47
   refine⟨_,_,_,_,_,_,rfl,Pure.mono (cargo_Put (hg.next hw47) hc1 (ht.below h4347) htl hcc hnc (W[i])) ?_⟩
   intro v w51 b51 hv
   split at hj
   ·rename_i t' ht'
    rw[ht']at hv
    obtain⟨A2,n2,c2,rfl,o2⟩:=hv
    have hok:=put_ok ht'
    have hu:=hok.u
    have hw51:=kP hw47 b51
    have h51:Below w38.heap.size w38 w51:=kP hb (kP h4347 b51)
    refine⟨_,_,_,_,rfl,fun k=>absurd rfl k,fun _=>⟨by simp only[inR];omega,Pure.mono (ContainsW (sb.below h51) lb (by omega) (⟨W[i].hold,W[i].parcel, -W[i].units⟩:Sw) (hback _ (List.getElem_mem hil))) ?_⟩⟩
    rintro v w54 b54 rfl
    have h54:=kP h51 b54
    refine⟨_,rfl,fun k=>(by cases k),fun _=> ?_⟩
    have ih':F.garboardlaw51_SequenceJoins.L11 A' n' c' Aw nw cw Ab nb cb A2 n2 c2 Aw nw cw nw ((i:Int)+1) A0 n0 c0 A1 n1 c1 w.heap.size w54 fun v _=>v= .bool true:=by
     rw[e3]
     have hlen:t'.length=n2:=by have:=o2.len;rwa [List.length_map]at this
     have:=(put_right hok).len
     exact ih (i+1) A2 n2 c2 t' w54 (by omega) (by omega) h54 (o2.below b54).sl hlen o2.len_le (by omega) hj
    refine⟨fun hi0=> ?_,fun _=>⟨by simp only[inR];omega,ih'⟩⟩
    have em:(i:Int) - 1=((i - 1:Nat):Int):=by omega
    rw[em]
    have hil1:i - 1<W.length:=by omega
    obtain⟨hb2,a2,hA2,_,hcell2⟩:=(sw.below h54).at_ (fun _=>rfl) lw hil1
    have hlt:¬(0<W[i - 1].units/\W[i].units<0):=List.pairwise_iff_getElem.1 hsort (i - 1) i hil1 hil (by omega)
    have hc2:(Sw.row W[i - 1])[2]? =some (.int .i64 W[i - 1].units):=rfl
    have hcell2:=hcell2 2 _ hc2
    refine⟨by simp only[inR];omega,hb2,a2,hA2,_,hcell2,fun hp=>⟨fun hq=>absurd ⟨hp,hq⟩ hlt,fun _=>⟨by simp only[inR];omega,ih'⟩⟩,fun _=>⟨by simp only[inR];omega,ih'⟩⟩
   ·cases hj
 exact key nw 0 Al n cl l w38 rfl (by omega) (Below.refl _ _) ol.sl hl ol.len_le hn hjoin
end
set_option maxRecDepth 100000
open Go Go.RowKit Go.Proofs Go.Proofs.YtgfkeadgjkfomaaGreatDoor.Vc Go.ChangeShapes Go.WideShapes Go.Deep

theorem own:ownKnob Tryz.prog.godebug=none:=by kernel_rfl
theorem laidOut:laidOutB Tryz.prog=true:=by kernel_rfl

section
variable {H:Type} {enc:TypeId×Value->H} {P:Program}

theorem below_trodAll(hl:laidOutB P=true){W W':World}(hb:Below W.heap.size W W'):∀{ts:List TypeId} {vs:List Value} {ds:List (DataW H)} {ps:List MemPlace},
  (∀t∈ts,P.readableRec t=true/\t<P.types.size)->DataW.TrodAll enc P W 0 (fun _=>true) true ts vs ds ps->(∀x∈ps,x.block<W.heap.size)->DataW.TrodAll enc P W' 0 (fun b=>decide (b<W.heap.size)) true ts vs ds ps
 |[],_,_,_,_,h,_=>by
  obtain⟨rfl,rfl,rfl⟩:=trodAll_nil h
  exact trodAll_mk0
 |t::ts,_,_,_,ht,h,hlt=>by
  obtain⟨v,vs1,d,ds1,a,b,rfl,rfl,rfl,h1,h2⟩:=trodAll_cons h
  exact trodAll_cons_mk (Below.trod hl (ht t (by simp)).1 (ht t (by simp)).2 h1 hb (fun x hx=>hlt x (by simp[hx])))
   (below_trodAll hl hb (fun u hu=>ht u (by simp[hu])) h2 (fun x hx=>hlt x (by simp[hx])))

theorem law_post{f:Func}{fid:FuncId}{s:ChangeSpec}{W:World}{args:Array Value}{ds gs:List (DataW H)}{before:List MemPlace}(hl:laidOutB P=true)(hW:DataW.Whole enc P f.params.toList s.vars false W args.toList ds gs before)
  (hvars:s.vars=[]) {tb:TypeId} (hres:f.resultTypes= #[tb]) (htb:P.underlying tb=some .bool) (hrec:∀t∈f.params.toList,P.readableRec t=true/\t<P.types.size)
  (hs:s.fn H (ds++gs)={results:=[.lit (.bool true)],args:=ds}) (key:Pure P fid args W fun y _=>y= .bool true):
  Calls P fid args W fun e W'=>∃v,e= .returned v/\s.post enc P f false true false false W args v W':=by
 refine Calls.mono key fun e W' ⟨v,he,hb,hy⟩=>⟨v,he,?_⟩
 subst hy
 have hlt:=hW.lt
 have hW':=hW
 obtain⟨p,q,hA,hV,rfl,_,_⟩:=hW
 rw[hvars]at hV
 obtain⟨rfl,rfl⟩:=trodVars_none hV
 simp only[List.append_nil]at hlt hW'
 refine⟨ds,_,_,[],p,[],hW',?_,?_,?_,hb.frame _,fun h=>by cases h⟩
 ·rw[hs,hres]
  exact trodAll_cons_mk (shut_bool htb _) trodAll_mk0
 ·rw[hs]
  exact below_trodAll hl hb hrec hA hlt
 ·rw[hs,hvars]
  rfl

end

theorem slR_of_cells{w:World}{a:Addr}{sz:Nat}(hsz:0<sz){rows:List (List Value)}(hl:∀r∈rows,r.length=sz)(h:∀i,(hi:i<rows.length)->∀j,(hj:j<rows[i].length)->w.cell? (a.add (i*sz+j))=some (rows[i][j])):SlR w (some a) sz rows:=by
 by_cases h0:rows=[]
 ·exact .inl h0
 right
 have hp:0<rows.length:=List.length_pos_iff.2 h0
 have hl0:rows[0].length=sz:=hl _ (List.getElem_mem _)
 have c0:=h 0 hp 0 (by omega)
 have hspot:a.spot=none:=by simpa[Addr.add]using World.cell?_spot c0
 obtain⟨b,off,spot⟩:=a
 simp only at hspot
 subst hspot
 have hadd:∀k,(⟨b,off,none⟩:Addr).add k=⟨b,off+k,none⟩:=fun k=>add_plain0 b off k
 rw[hadd]at c0
 cases hh:w.heap[b]? with
 |none=>simp[World.cell?,hh]at c0
 |some o=>
  cases o with
  |cells cs ty fr=>
   refine⟨b,off,cs,ty,fr,rfl,hh,fun i hi j hj=>⟨hl _ (List.getElem_mem _),?_⟩⟩
   have:=h i hi j hj
   rw[hadd]at this
   simpa[World.cell?,hh,Nat.add_assoc]using this
  |_=>simp[World.cell?,hh]at c0

theorem u_Rat:Tryz.prog.underlying 57=some .string:=by kernel_rfl
theorem u_int:Tryz.prog.underlying 3=some (.int .i64):=by kernel_rfl
theorem u_str:Tryz.prog.underlying 9=some .string:=by kernel_rfl

open Go Go.RowKit Go.Proofs

abbrev aLaid:=Rows.sequenceEitherRow.laid
open Go Go.RowKit Go.Proofs Go.Proofs.YtgfkeadgjkfomaaGreatDoor.Vc Go.ChangeShapes Go.WideShapes Go.Deep Go.ChangeAt

noncomputable def laidWorld(os:Os):World:=
 let N:=(World.settled Tryz.prog os).heap.size
 let w0:=World.holding Tryz.prog os ⟨#[.cells #[.string ⟨#[118,97,108,117,101,32,111,117,116,32,111,102,32,114,97,110,103,101]⟩] 340,.cells #[.string ⟨#[105,110,118,97,108,105,100,32,115,121,110,116,97,120]⟩] 340],#[],[]⟩
 let put (h:Array Obj) (g:Nat) (cs:Array Value):Array Obj:=h.modify g fun
  | .cells _ t frozen=> .cells cs t frozen
  |o=>o
 let h0:=put (put w0.heap 5 #[.iface 338 (.pointer (some ⟨N,0,none⟩))]) 4 #[.iface 338 (.pointer (some ⟨N+1,0,none⟩))]
 let h1:=put h0 2 #[.int .u8 0,.int .u8 1,.int .u8 28,.int .u8 2,.int .u8 29,.int .u8 14,.int .u8 24,.int .u8 3,.int .u8 30,.int .u8 22,.int .u8 20,.int .u8 15,.int .u8 25,.int .u8 17,.int .u8 4,.int .u8 8,.int .u8 31,.int .u8 27,.int .u8 13,.int .u8 23,.int .u8 21,.int .u8 19,.int .u8 16,.int .u8 7,.int .u8 26,.int .u8 12,.int .u8 18,.int .u8 6,.int .u8 11,.int .u8 5,.int .u8 10,.int .u8 9]
 let h2:=put h1 3 #[.int .u8 0,.int .u8 1,.int .u8 56,.int .u8 2,.int .u8 57,.int .u8 49,.int .u8 28,.int .u8 3,.int .u8 61,.int .u8 58,.int .u8 42,.int .u8 50,.int .u8 38,.int .u8 29,.int .u8 17,.int .u8 4,.int .u8 62,.int .u8 47,.int .u8 59,.int .u8 36,.int .u8 45,.int .u8 43,.int .u8 51,.int .u8 22,.int .u8 53,.int .u8 39,.int .u8 33,.int .u8 30,.int .u8 24,.int .u8 18,.int .u8 12,.int .u8 5,.int .u8 63,.int .u8 55,.int .u8 48,.int .u8 27,.int .u8 60,.int .u8 41,.int .u8 37,.int .u8 16,.int .u8 46,.int .u8 35,.int .u8 44,.int .u8 21,.int .u8 52,.int .u8 32,.int .u8 23,.int .u8 11,.int .u8 54,.int .u8 26,.int .u8 40,.int .u8 15,.int .u8 34,.int .u8 20,.int .u8 31,.int .u8 10,.int .u8 25,.int .u8 14,.int .u8 19,.int .u8 9,.int .u8 13,.int .u8 8,.int .u8 7,.int .u8 6]
 let h3:=put h2 0 (Lib.pow10Tab.map fun z=>Value.int .u64 z).toArray
 {w0 with heap:=h3}

noncomputable abbrev N0:Nat:=(World.settled Tryz.prog default).heap.size
theorem laid_met(os:Os)(args:Array Value):laidMet Tryz.prog aLaid ((laidWorld os).forCall (fun _ _=>0) ⟨#[],args,[]⟩).memory:=
 (LaidIn.of_run (l:=aLaid) [2,3,0,5,4,N0,N0+1] 8 (by kernel_rfl) (by kernel_rfl) (by kernel_rfl) (by kernel_rfl)).met

theorem world_vars(os:Os)(args:Array Value):((laidWorld os).forCall (fun _ _=>0) ⟨#[],args,[]⟩).variablesRefB Tryz.prog=true:=by kernel_rfl
theorem world_rest (os : Os) (args : Array Value) : (((laidWorld os).forCall (fun _ _ => 0) ⟨#[], args, []⟩).heap.toList.drop Tryz.prog.globals.size).take ((begin Tryz.prog (fun _ _ => 0) default).world.heap.size - Tryz.prog.globals.size) =
      (begin Tryz.prog (fun _ _ => 0) default).world.heap.toList.drop Tryz.prog.globals.size := by kernel_rfl

theorem glob_of {W : World} (hL : laidMet Tryz.prog aLaid W) (hS : W.ShapedOpen Tryz.prog) : Glob W :=
  ⟨Lib.tabIs_of_head (zs := Lib.pow10Tab) (g := 0) (t := 271) (e := 244) (n := 20) g_pow10 (by kernel_rfl) (by kernel_rfl) (by kernel_rfl) (by kernel_rfl) (by kernel_rfl) hL.tail.tail,
   cell_of_shapedOpen_int (g := 1) (t := 3) (zero := #[.int .i64 0]) hS (of_decide_eq_true (by kernel_rfl)) (by kernel_rfl) rfl (by kernel_rfl) (by kernel_rfl) (by kernel_rfl)⟩

theorem and_t{a b:Bool}(h:a=true)(k:b=true):(a&&b)=true:=by rw[h,k];rfl
theorem tied_laid:laidOutB Tryz.pinned.checked.prog=true:=by kernel_rfl
theorem tied_maps:mapsRowed Tryz.pinned.checked.prog=true:=by kernel_rfl

instance:Inhabited Pa:=⟨⟨0,0,0,⟨#[]⟩,⟨#[]⟩,⟨#[]⟩,⟨#[]⟩⟩⟩
instance:Inhabited Ho:=⟨⟨0,⟨#[]⟩,⟨#[]⟩,⟨#[]⟩,⟨#[]⟩,⟨#[]⟩,⟨#[]⟩⟩⟩
instance:Inhabited Sw:=⟨⟨0,0,0⟩⟩

section
variable {H:Type} {enc:TypeId×Value->H} {w:World} {base b0:Nat} {spare:Nat->Bool} {held:Bool}
theorem open_rowsP{α:Type}[Inhabited α]{row:α->List Value}{P:α->Prop}{sz:Nat}(hsz:0<sz)(hrow:∀x,(row x).length=sz){t e:TypeId}(ht:Tryz.prog.underlying t=some (.slice e))(hC:Tryz.prog.cellsOf e=sz)
  (hx:∀(n:Nat)(cs:List Value)(y:DataW H×List MemPlace),DataW.trod enc Tryz.prog w base spare held n e cs=some y->∃x:α,cs=row x/\P x)
  {v:Value} {fuel:Nat} {y:DataW H×List MemPlace} (h:DataW.trod enc Tryz.prog w base spare held fuel t [v]=some y):
  ∃(A:Option Addr)(n c:Nat)(l:List α),v= .slice A n c/\SlR w A sz (l.map row)/\l.length=n/\n<9223372036854775808/\(A=none->c=0)/\n<=c/\∀x∈l,P x:=by
 rcases open_slice ht h with⟨hcs,_⟩|⟨a,len,cap,m,n,D,Pl,hcs,hb,hl,hm,hmm,_,hi⟩
 ·cases hcs
  exact⟨none,0,0,[],rfl,.inl rfl,rfl,by omega,fun _=>rfl,Nat.le_refl _,by simp⟩
 ·cases hcs
  rw[hC]at hi
  obtain⟨g,hg⟩:=choose_lt (α:=α) (n:=len) (p:=fun i x=>P x/\∀j,(hj:j<(row x).length)->w.cell? (a.add (i*sz+j))=some ((row x)[j])) fun i hilt=>by
   have him:i<m:=by
    rw[hmm]
    split<;>omega
   obtain⟨cs',hc,ht'⟩:=hi i him
   obtain⟨_,hcl,hat⟩:=World.cells?_some hc
   obtain⟨x,rfl,hP⟩:=hx _ _ _ ht'
   refine⟨x,hP,fun j hj=> ?_⟩
   rw[<-Go.Deep.add_add,hat j (by rw[hrow]at hj;omega),List.getElem?_eq_getElem hj]
  refine⟨some a,len,cap,(List.range len).map g,rfl,slR_of_cells hsz (fun r hr=> ?_) (fun i hi2 j hj=> ?_),by simp,by unfold maxLen at hm;omega,fun k=>(by cases k),hl,fun x hx'=> ?_⟩
  ·obtain⟨x,_,rfl⟩:=List.mem_map.1 hr
   exact hrow x
  ·simp at hi2
   simp only[List.getElem_map,List.getElem_range]at hj⊢
   exact(hg i hi2).2 j hj
  ·obtain⟨i,hi2,rfl⟩:=List.mem_map.1 hx'
   exact(hg i (List.mem_range.1 hi2)).1
theorem open_rows{α:Type}[Inhabited α]{row:α->List Value}{sz:Nat}(hsz:0<sz)(hrow:∀x,(row x).length=sz){t e:TypeId}(ht:Tryz.prog.underlying t=some (.slice e))(hC:Tryz.prog.cellsOf e=sz)
  (hx:∀(n:Nat)(cs:List Value)(y:DataW H×List MemPlace),DataW.trod enc Tryz.prog w base spare held n e cs=some y->∃x:α,cs=row x)
  {v:Value} {fuel:Nat} {y:DataW H×List MemPlace} (h:DataW.trod enc Tryz.prog w base spare held fuel t [v]=some y):
  ∃(A:Option Addr)(n c:Nat)(l:List α),v= .slice A n c/\SlR w A sz (l.map row)/\l.length=n/\n<9223372036854775808/\(A=none->c=0):=by
 obtain⟨A,n,c,l,h1,h2,h3,h4,h5,_⟩:=open_rowsP (P:=fun _=>True) hsz hrow ht hC (fun n cs y h=>by obtain⟨x,e⟩:=hx n cs y h;exact⟨x,e,trivial⟩) h
 exact⟨A,n,c,l,h1,h2,h3,h4,h5⟩

theorem k_int:Tryz.prog.cellsOf 3=1:=by kernel_rfl
theorem k_str:Tryz.prog.cellsOf 9=1:=by kernel_rfl
theorem k_Rat:Tryz.prog.cellsOf 57=1:=by kernel_rfl
theorem k_Vec:Tryz.prog.cellsOf 59=3:=by kernel_rfl
theorem k_Par:Tryz.prog.cellsOf 65=7:=by kernel_rfl
theorem k_Hol:Tryz.prog.cellsOf 61=7:=by kernel_rfl
theorem k_Sto:Tryz.prog.cellsOf 39=3:=by kernel_rfl
theorem k_Wor:Tryz.prog.cellsOf 44=3:=by kernel_rfl
theorem int_of(n:Nat)(cs:List Value)(y:DataW H×List MemPlace)(h:DataW.trod enc Tryz.prog w base spare held n 3 cs=some y):∃x:Int,cs=iRow x:=by
 obtain⟨z,hz,_⟩:=DataW.trod_int u_int h
 exact⟨z,hz⟩
theorem rat_of{n:Nat}{cs:List Value}{y:DataW H×List MemPlace}(h:DataW.trod enc Tryz.prog w base spare held n 57 cs=some y):∃x,cs=[.string x]:=by
 obtain⟨z,hz,_⟩:=DataW.trod_string u_Rat h
 exact⟨z,hz⟩
theorem str_of{n:Nat}{cs:List Value}{y:DataW H×List MemPlace}(h:DataW.trod enc Tryz.prog w base spare held n 9 cs=some y):∃x,cs=[.string x]:=by
 obtain⟨z,hz,_⟩:=DataW.trod_string u_str h
 exact⟨z,hz⟩
theorem stow_of(n:Nat)(cs:List Value)(y:DataW H×List MemPlace)(h:DataW.trod enc Tryz.prog w base spare held n 39 cs=some y):∃x:Sw,cs=x.row:=by
 obtain⟨ys,m,_,rfl,hl,hlen,hf⟩:=DataW.trod_struct Tryz.underlying39 h
 rw[k_Sto]at hl
 match cs,hl with
 |[v0,v1,v2],_=>
  match ys,hlen with
  |[y0,y1,y2],_=>
   obtain⟨z0,e0⟩:=int_of m [v0] y0 (by simpa[k_int]using hf 0 _ rfl)
   obtain⟨z1,e1⟩:=int_of m [v1] y1 (by simpa[k_int]using hf 1 _ rfl)
   obtain⟨z2,e2⟩:=int_of m [v2] y2 (by simpa[k_int]using hf 2 _ rfl)
   cases e0;cases e1;cases e2
   exact⟨⟨z0,z1,z2⟩,rfl⟩
theorem work_of(n:Nat)(cs:List Value)(y:DataW H×List MemPlace)(h:DataW.trod enc Tryz.prog w base spare held n 44 cs=some y):∃x:Sw,cs=x.row:=by
 obtain⟨ys,m,_,rfl,hl,hlen,hf⟩:=DataW.trod_struct Tryz.underlying44 h
 rw[k_Wor]at hl
 match cs,hl with
 |[v0,v1,v2],_=>
  match ys,hlen with
  |[y0,y1,y2],_=>
   obtain⟨z0,e0⟩:=int_of m [v0] y0 (by simpa[k_int]using hf 0 _ rfl)
   obtain⟨z1,e1⟩:=int_of m [v1] y1 (by simpa[k_int]using hf 1 _ rfl)
   obtain⟨z2,e2⟩:=int_of m [v2] y2 (by simpa[k_int]using hf 2 _ rfl)
   cases e0;cases e1;cases e2
   exact⟨⟨z0,z1,z2⟩,rfl⟩
theorem vec_of{n:Nat}{cs:List Value}{y:DataW H×List MemPlace}(h:DataW.trod enc Tryz.prog w base spare held n 59 cs=some y):∃a b c,cs=[.string a,.string b,.string c]:=by
 obtain⟨ys,m,_,rfl,hl,hlen,hf⟩:=DataW.trod_struct Tryz.underlying59 h
 rw[k_Vec]at hl
 match cs,hl with
 |[v0,v1,v2],_=>
  match ys,hlen with
  |[y0,y1,y2],_=>
   obtain⟨z0,e0⟩:=rat_of (n:=m) (cs:=[v0]) (y:=y0) (by simpa[k_Rat]using hf 0 _ rfl)
   obtain⟨z1,e1⟩:=rat_of (n:=m) (cs:=[v1]) (y:=y1) (by simpa[k_Rat]using hf 1 _ rfl)
   obtain⟨z2,e2⟩:=rat_of (n:=m) (cs:=[v2]) (y:=y2) (by simpa[k_Rat]using hf 2 _ rfl)
   cases e0;cases e1;cases e2
   exact⟨z0,z1,z2,rfl⟩
theorem par_of(n:Nat)(cs:List Value)(y:DataW H×List MemPlace)(h:DataW.trod enc Tryz.prog w base spare held n 65 cs=some y):∃x:Pa,cs=x.row:=by
 obtain⟨ys,m,_,rfl,hl,hlen,hf⟩:=DataW.trod_struct Tryz.underlying65 h
 rw[k_Par]at hl
 match cs,hl with
 |[v0,v1,v2,v3,v4,v5,v6],_=>
  match ys,hlen with
  |[y0,y1,y2,y3,y4,y5,y6],_=>
   obtain⟨z0,e0⟩:=int_of m [v0] y0 (by simpa[k_int]using hf 0 _ rfl)
   obtain⟨z1,e1⟩:=int_of m [v1] y1 (by simpa[k_int]using hf 1 _ rfl)
   obtain⟨z2,e2⟩:=int_of m [v2] y2 (by simpa[k_int]using hf 2 _ rfl)
   obtain⟨z3,e3⟩:=str_of (n:=m) (cs:=[v3]) (y:=y3) (by simpa[k_str]using hf 3 _ rfl)
   obtain⟨z4,e4⟩:=rat_of (n:=m) (cs:=[v4]) (y:=y4) (by simpa[k_Rat]using hf 4 _ rfl)
   obtain⟨z5,e5⟩:=rat_of (n:=m) (cs:=[v5]) (y:=y5) (by simpa[k_Rat]using hf 5 _ rfl)
   obtain⟨z6,e6⟩:=rat_of (n:=m) (cs:=[v6]) (y:=y6) (by simpa[k_Rat]using hf 6 _ rfl)
   cases e0;cases e1;cases e2;cases e3;cases e4;cases e5;cases e6
   exact⟨⟨z0,z1,z2,z3,z4,z5,z6⟩,rfl⟩
theorem hold_of(n:Nat)(cs:List Value)(y:DataW H×List MemPlace)(h:DataW.trod enc Tryz.prog w base spare held n 61 cs=some y):∃x:Ho,cs=x.row:=by
 obtain⟨ys,m,_,rfl,hl,hlen,hf⟩:=DataW.trod_struct Tryz.underlying61 h
 rw[k_Hol]at hl
 match cs,hl with
 |[v0,v1,v2,v3,v4,v5,v6],_=>
  match ys,hlen with
  |[y0,y1,y2,y3,y4],_=>
   obtain⟨z0,e0⟩:=int_of m [v0] y0 (by simpa[k_int]using hf 0 _ rfl)
   obtain⟨z1,e1⟩:=str_of (n:=m) (cs:=[v1]) (y:=y1) (by simpa[k_str]using hf 1 _ rfl)
   obtain⟨z2,e2⟩:=rat_of (n:=m) (cs:=[v2]) (y:=y2) (by simpa[k_Rat]using hf 2 _ rfl)
   obtain⟨z3,e3⟩:=rat_of (n:=m) (cs:=[v3]) (y:=y3) (by simpa[k_Rat]using hf 3 _ rfl)
   obtain⟨a,b,c,e4⟩:=vec_of (n:=m) (cs:=[v4,v5,v6]) (y:=y4) (by simpa[k_Vec]using hf 4 _ rfl)
   cases e0;cases e1;cases e2;cases e3;cases e4
   exact⟨⟨z0,z1,z2,z3,a,b,c⟩,rfl⟩

theorem trod_one{t e:TypeId}(ht:Tryz.prog.underlying t=some (.slice e)){r:Reach}{v:Value}{d:DataW H}{p:List MemPlace}(hv:Value.okWide Tryz.prog w r b0 t v)(h:DataW.Trod enc Tryz.prog w base spare held t v d p):∃fuel,DataW.trod enc Tryz.prog w base spare held fuel t [v]=some (d,p):=by
 obtain⟨a0,len,cap,rfl⟩:=okWide_slice ht hv
 obtain⟨fuel,hf⟩:=h
 exact⟨fuel,by simpa[Value.cells]using hf⟩
theorem open_stows{v:Value}{d:DataW H}{p:List MemPlace}(hv:Value.okWide Tryz.prog w .any b0 29 v)(h:DataW.Trod enc Tryz.prog w base spare held 29 v d p):
  ∃(A:Option Addr)(n c:Nat)(l:List Sw),v= .slice A n c/\SlR w A 3 (l.map Sw.row)/\l.length=n:=by
 obtain⟨fuel,hf⟩:=trod_one Tryz.underlying29 hv h
 obtain⟨A,n,c,l,h1,h2,h3,_⟩:=open_rows (row:=Sw.row) (by decide) (fun _=>rfl) Tryz.underlying29 k_Sto stow_of hf
 exact⟨A,n,c,l,h1,h2,h3⟩
theorem open_works{v:Value}{d:DataW H}{p:List MemPlace}(hv:Value.okWide Tryz.prog w .any b0 30 v)(h:DataW.Trod enc Tryz.prog w base spare held 30 v d p):
  ∃(A:Option Addr)(n c:Nat)(l:List Sw),v= .slice A n c/\SlR w A 3 (l.map Sw.row)/\l.length=n:=by
 obtain⟨fuel,hf⟩:=trod_one Tryz.underlying30 hv h
 obtain⟨A,n,c,l,h1,h2,h3,_⟩:=open_rows (row:=Sw.row) (by decide) (fun _=>rfl) Tryz.underlying30 k_Wor work_of hf
 exact⟨A,n,c,l,h1,h2,h3⟩
theorem open_cargo{v:Value}{d:DataW H}{p:List MemPlace}(hv:Value.okWide Tryz.prog w .any b0 25 v)(h:DataW.Trod enc Tryz.prog w base spare held 25 v d p):
  ∃(A0:Option Addr)(n0 c0:Nat)(A1:Option Addr)(n1 c1:Nat)(ps:List Pa)(hs:List Ho),v= .agg #[.slice A0 n0 c0,.slice A1 n1 c1]/\CgRaw w A0 n0 A1 n1 ps hs/\(A0=none->c0=0)/\(A1=none->c1=0):=by
 obtain⟨v0,v1,y0,y1,n,rfl,_,_,h0,h1⟩:=Go.Joins.open_agg2 Tryz.underlying25 (by kernel_rfl) (by kernel_rfl) hv h
 obtain⟨A0,n0,c0,ps,rfl,p1,p2,p3,p4⟩:=open_rows (row:=Pa.row) (by decide) (fun _=>rfl) Tryz.underlying22 k_Par par_of h0
 obtain⟨A1,n1,c1,hs,rfl,q1,q2,q3,q4⟩:=open_rows (row:=Ho.row) (by decide) (fun _=>rfl) Tryz.underlying23 k_Hol hold_of h1
 exact⟨A0,n0,c0,A1,n1,c1,ps,hs,rfl,⟨p1,q1,p2,q2,p3,q3⟩,p4,q4⟩
end

instance:Inhabited Rm:=⟨⟨⟨⟨#[]⟩,0,[],⟨#[]⟩,⟨#[]⟩,0,0⟩,none,0,0⟩⟩
section
variable {H:Type} {enc:TypeId×Value->H} {w:World} {base b0:Nat} {spare:Nat->Bool} {held:Bool}
theorem k_Rul:Tryz.prog.cellsOf 87=7:=by kernel_rfl
theorem k_Car:Tryz.prog.cellsOf 25=2:=by kernel_rfl
theorem k_Pro:Tryz.prog.cellsOf 28=3:=by kernel_rfl
theorem k_Rats:Tryz.prog.cellsOf 85=1:=by kernel_rfl
theorem k_Rules:Tryz.prog.cellsOf 26=1:=by kernel_rfl
theorem k_Pars:Tryz.prog.cellsOf 22=1:=by kernel_rfl
theorem k_Hols:Tryz.prog.cellsOf 23=1:=by kernel_rfl
theorem rule_of(n:Nat)(cs:List Value)(y:DataW H×List MemPlace)(h:DataW.trod enc Tryz.prog w base spare held n 87 cs=some y):
  ∃x:Rm,cs=x.row/\(SlR w x.A 1 (x.r.fac.map sRow)/\x.r.fac.length=x.n/\x.n<9223372036854775808/\(x.A=none->x.c=0)):=by
 obtain⟨ys,m,_,rfl,hl,hlen,hf⟩:=DataW.trod_struct Tryz.underlying87 h
 rw[k_Rul]at hl
 match cs,hl with
 |[v0,v1,v2,v3,v4,v5,v6],_=>
  match ys,hlen with
  |[y0,y1,y2,y3,y4,y5,y6],_=>
   obtain⟨z0,e0⟩:=str_of (n:=m) (cs:=[v0]) (y:=y0) (by simpa[k_str]using hf 0 _ rfl)
   obtain⟨z1,e1⟩:=int_of m [v1] y1 (by simpa[k_int]using hf 1 _ rfl)
   obtain⟨A,k,c,l,rfl,q1,q2,q3,q4⟩:=open_rows (row:=sRow) (by decide) (fun _=>rfl) Tryz.underlying85 k_Rat (fun n cs y h=>rat_of h) (v:=v2) (fuel:=m) (y:=y2) (by simpa[k_Rats]using hf 2 _ rfl)
   obtain⟨z3,e3⟩:=rat_of (n:=m) (cs:=[v3]) (y:=y3) (by simpa[k_Rat]using hf 3 _ rfl)
   obtain⟨z4,e4⟩:=rat_of (n:=m) (cs:=[v4]) (y:=y4) (by simpa[k_Rat]using hf 4 _ rfl)
   obtain⟨z5,e5⟩:=int_of m [v5] y5 (by simpa[k_int]using hf 5 _ rfl)
   obtain⟨z6,e6⟩:=int_of m [v6] y6 (by simpa[k_int]using hf 6 _ rfl)
   cases e0;cases e1;cases e3;cases e4;cases e5;cases e6
   exact⟨⟨⟨z0,z1,l,z3,z4,z5,z6⟩,A,k,c⟩,rfl,q1,q2,q3,q4⟩
theorem open_problem{v:Value}{d:DataW H}{p:List MemPlace}(hv:Value.okWide Tryz.prog w .any b0 28 v)(h:DataW.Trod enc Tryz.prog w base spare held 28 v d p):
  ∃(A0:Option Addr)(n0 c0:Nat)(A1:Option Addr)(n1 c1:Nat)(A2:Option Addr)(n2 c2:Nat)(ps:List Pa)(hs:List Ho)(xs:List Rm),v= .agg #[.slice A0 n0 c0,.slice A1 n1 c1,.slice A2 n2 c2]/\PrRaw w A0 n0 c0 A1 n1 c1 A2 n2 c2 ps hs xs:=by
 obtain⟨cs,rfl,hsz⟩:=okWide_struct Tryz.underlying28 hv
 rw[k_Pro]at hsz
 obtain⟨v0,v1,v2,rfl⟩:∃v0 v1 v2,cs= #[v0,v1,v2]:=by
  obtain⟨l⟩:=cs
  match l,hsz with
  |[a,b,c],_=>exact⟨a,b,c,rfl⟩
 obtain⟨fuel,hf⟩:=h
 obtain⟨ys,m,_,_,_,hlen,hf⟩:=DataW.trod_struct Tryz.underlying28 hf
 match ys,hlen with
 |[y0,y1],_=>
  have g0:DataW.trod enc Tryz.prog w base spare held m 25 [v0,v1]=some y0:=by simpa[Value.cells,k_Car]using hf 0 _ rfl
  have g1:DataW.trod enc Tryz.prog w base spare held m 26 [v2]=some y1:=by simpa[Value.cells,k_Rules]using hf 1 _ rfl
  obtain⟨zs,m',_,_,_,hzl,hz⟩:=DataW.trod_struct Tryz.underlying25 g0
  match zs,hzl with
  |[z0,z1],_=>
   have k0:DataW.trod enc Tryz.prog w base spare held m' 22 [v0]=some z0:=by simpa[k_Pars]using hz 0 _ rfl
   have k1:DataW.trod enc Tryz.prog w base spare held m' 23 [v1]=some z1:=by simpa[k_Hols]using hz 1 _ rfl
   obtain⟨A0,n0,c0,ps,rfl,p1,p2,p3,p4⟩:=open_rows (row:=Pa.row) (by decide) (fun _=>rfl) Tryz.underlying22 k_Par par_of k0
   obtain⟨A1,n1,c1,hs,rfl,q1,q2,q3,q4⟩:=open_rows (row:=Ho.row) (by decide) (fun _=>rfl) Tryz.underlying23 k_Hol hold_of k1
   obtain⟨A2,n2,c2,xs,rfl,r1,r2,r3,r4,r5,r6⟩:=open_rowsP (row:=Rm.row) (by decide) (fun _=>rfl) Tryz.underlying26 k_Rul rule_of g1
   exact⟨A0,n0,c0,A1,n1,c1,A2,n2,c2,ps,hs,xs,rfl,⟨p1,q1,p2,q2,p3,q3⟩,p4,q4,r1,r2,r3,r5,r6⟩
end

section
variable {w:World} {A0 A1 A2 A A3:Option Addr} {n0 c0 n1 c1 n2 c2 n c n3 c3:Nat} {ps:List Pa} {hs:List Ho} {xs:List Rm} {l works:List Sw}
theorem law51_Keeps(hg:Glob w)(hr:PrRaw w A0 n0 c0 A1 n1 c1 A2 n2 c2 ps hs xs)(hst:SlR w A 3 (l.map Sw.row))(hl:l.length=n)(hwk:SlR w A3 3 (works.map Sw.row))(hlw:works.length=n3):
  Pure Tryz.prog 8 #[.agg #[.slice A0 n0 c0,.slice A1 n1 c1,.slice A2 n2 c2],.slice A n c,.slice A3 n3 c3] w fun v _=>v= .bool true:=by
 refine F.garboardlaw51_SequenceKeeps.vc _ _ _ _ _ _ _ _ _ _ _ _ _ _ _ _ _ fun w1 x1=> ?_
 have hw:=k0 x1
 refine Pure.mono (law51_awake (hg.next hw)) ?_
 rintro v w4 b4 rfl
 have hw:=kP hw b4
 refine⟨_,rfl,fun k=>(by cases k),fun _=>Pure.mono (law51_few (hr.keep hw)) ?_⟩
 rintro v w7 b7 rfl
 have hw:=kP hw b7
 refine⟨_,rfl,fun _=>rfl,fun hf=> ?_⟩
 have ar:=few_ar (hr.keep hw) (hst.keep hw (Nat.le_refl _)) hl (hwk.keep hw (Nat.le_refl _)) hlw (Bool.not_eq_false _|>.mp hf)
 have hn:=ar.n
 refine cp3 ar fun B0 d0 B1 d1 B2 d2 As cs Aw cw w18 ys b18 hp hys s1 hc1 s2=> ?_
 have hw18:=kP hw b18
 refine Pure.mono (seq_Order (hg.next hw18) hp s1 hl hc1 hn s2 hlw) ?_
 rw[hys]
 rintro v w22 b22 ⟨A19,n19,c19,rfl,s19,l19,h19⟩
 have hw22:=kP hw18 b22
 have ar22:=ar.keep (kP b18 b22)
 refine⟨_,_,_,_,rfl,fun h=> ?_,fun h=> ?_⟩
 ·refine congrArg Value.bool (decide_eq_true ?_)
  unfold orderF at h l19
  split at h
  ·rename_i k
   rw[if_pos k]at l19
   simp at l19
   omega
  ·rename_i k
   rw[if_neg k]at l19
   split at h
   ·exact absurd rfl h
   ·rename_i e
    rw[e]at l19
    simp at l19
    omega
 obtain⟨o,ht,hrest,ho⟩:∃o,taskF ps hs (rsOf xs) l works=0/\restF (allowF ps hs (rsOf xs) l works) works.length works.length 0=some o/\(orderF ps hs (rsOf xs) l works).1=o.map fun(i:Nat)=>(i:Int):=by
  unfold orderF at h⊢
  split at h
  ·rename_i k
   exact absurd (Decidable.not_not.1 h) k
  ·rename_i k
   rw[if_neg k]
   split at h
   ·rename_i o e
    exact⟨o,Decidable.not_not.1 k,e,rfl⟩
   ·exact absurd h (by decide)
 rw[ho]at s19 l19
 have htk:=task_ok ht
 have hol:=order_len hrest
 have hn19:n19=o.length:=by simp at l19;omega
 refine cp3 ar22 fun B0 d0 B1 d1 B2 d2 As cs Aw cw w33 ys b33 hp hys s1 hc1 s2=> ?_
 have hw33:=kP hw22 b33
 have h6:=htk.n
 refine Pure.mono (CloneI (s19.below b33) (by simpa using hn19.symm) (by omega)) ?_
 rintro v w36 b36 ⟨A34,c34,rfl,o34⟩
 have hw36:=kP hw33 b36
 refine⟨_,_,_,rfl,Pure.mono (seq_Check (hg.next hw36) (hp.keep b36) (s1.below b36) hl hc1 hn (s2.below b36) hlw o34.sl (by simpa using hn19.symm) (by omega)) ?_⟩
 rw[hys]
 rintro v w40 b40 rfl
 have hw40:=kP hw36 b40
 have ar40:=ar22.keep (kP (kP b33 b36) b40)
 have hchk:ordersF ps hs (rsOf xs) l works (o.map fun(i:Nat)=>(i:Int))=(-1,0):=by
  unfold ordersF
  rw[if_neg (by simpa using ht)]
  exact order_checks hrest
 rw[hchk]
 refine⟨_,_,rfl,fun k=>absurd rfl k,fun _=>⟨fun k=>absurd rfl k,fun _=>⟨fun k=>by omega,fun _=> ?_⟩⟩⟩
 refine Pure.mono (CloneS (ar40.s) hl (by omega)) ?_
 rintro v w43 b43 ⟨A41,c41,rfl,o41⟩
 have hw43:=kP hw40 b43
 have ar43:=ar40.keep b43
 have s43:=s19.below (kP (kP (kP b33 b36) b40) b43)
 have hkr:=keeps_right htk.keeps
 refine⟨_,_,_,rfl,?_⟩
 have key:∀(r:List Nat)(i s d':Nat)(Ac:Option Addr)(nc cc:Nat)(t:List Sw)(w':World),i+r.length=o.length->o.drop i=r->s<2^works.length->Below w43.heap.size w43 w'->SlR w' Ac 3 (t.map Sw.row)->t.length=nc->nc<=cc->nc<=40->stateF ps hs l works s=some t->restF (allowF ps hs (rsOf xs) l works) works.length d' s=some r->
   F.garboardlaw51_SequenceKeeps.L13 A n c A3 n3 c3 Ac nc cc s A19 n19 c19 n19 i A0 n0 c0 A1 n1 c1 A2 n2 c2 w.heap.size w' fun v _=>v= .bool true:=by
  intro r
  induction r with
  |nil=>
   intro i s d' Ac nc cc t w' hi hdr hs2 hb ht htl hcc hnc hst hre
   refine F.garboardlaw51_SequenceKeeps.L13.step _ _ _ _ _ _ _ _ _ _ _ _ _ _ _ _ _ _ _ _ _ _ _ _ _ _ _ ⟨fun k=>by simp at hi;omega,fun _=>rfl⟩
  |cons j r ih=>
   intro i s d' Ac nc cc t w' hi hdr hs2 hb ht htl hcc hnc hst hre
   simp only[List.length_cons]at hi
   have hil:i<o.length:=by omega
   have hoi:o[i]=j:=by
    rw[List.drop_eq_getElem_cons hil]at hdr
    exact(List.cons.inj hdr).1
   have hdr':o.drop (i+1)=r:=by
    rw[List.drop_eq_getElem_cons hil]at hdr
    exact(List.cons.inj hdr).2
   have e3:(i:Int)+1=((i+1:Nat):Int):=by omega
   have hw':=kP hw43 hb
   have ar':=ar43.keep hb
   obtain⟨u,t',dq,hwj,hput,hst2,hke,hbit,hre2⟩:=order_step htk hst hre
   have hjl:j<works.length:=(List.getElem?_eq_some_iff.1 hwj).1
   have hwj':works[j]=u:=(List.getElem?_eq_some_iff.1 hwj).2
   obtain⟨hbb,a,hA,hcell,_⟩:=(s43.below hb).at_ (fun _=>rfl) l19 (i:=i) (by simpa using hil)
   have hcell:CellsAt w' (a.add ((i:Int).toNat*1)) [.int .i64 (j:Int)]:=by
    have:=hcell
    rw[List.getElem_map,hoi]at this
    exact this
   obtain⟨hb2,a2,hA2,hcell2,_⟩:=ar'.wk.at_ (fun _=>rfl) hlw hjl
   rw[hwj']at hcell2
   refine F.garboardlaw51_SequenceKeeps.L13.step _ _ _ _ _ _ _ _ _ _ _ _ _ _ _ _ _ _ _ _ _ _ _ _ _ _ _ ⟨fun _=>⟨hbb,a,hA,_,hcell,fun k=>by omega,fun _=>⟨fun k=>by omega,fun _=>⟨hb2,a2,hA2,_,_,_,hcell2,fun w50 x50=> ?_⟩⟩⟩,fun k=>by omega⟩
   have b50:=ext_low x50
   have ar50:=ar'.keep b50
   refine Pure.mono (r47_Copy ar50.p.c ar50.z0 ar50.z1) ?_
   rintro v w54 b54 ⟨B0,d0,B1,d1,rfl,hc1⟩
   have hw54:=kP (kP hw' b50) b54
   have t54:=(ht.below b50).below b54
   refine⟨_,_,_,_,_,_,rfl,Pure.mono (cargo_Put (hg.next hw54) hc1 t54 htl hcc hnc u) ?_⟩
   intro v w58 b58 hv
   rw[hput]at hv
   obtain⟨A5,n5,c5,rfl,o5⟩:=hv
   have hw58:=kP hw54 b58
   have ar58:=(ar50.keep b54).keep b58
   refine⟨_,_,_,_,rfl,sh_ok (by omega),?_⟩
   rw[shl_one j (by omega)]
   have h128:s<128:=Nat.lt_of_lt_of_le hs2 (show _<=2^7 from Nat.pow_le_pow_right (by decide) (by omega))
   rw[or_pow s h128 j (by omega)]
   have hs3:addB s j<2^works.length:=addB_lt hs2 hjl
   have hok:=put_ok hput
   have h36:=(put_right hok).len
   have hlen5:t'.length=n5:=by have:=o5.len;rwa [List.length_map]at this
   refine cp3 ar58 fun B0 d0 B1 d1 B2 d2 As cs Aw cw w69 ys b69 hp hys s1 hc1 s2=> ?_
   have hw69:=kP hw58 b69
   refine Pure.mono (seq_State (hg.next hw69) hp s1 hl hc1 hn s2 hlw _) ?_
   rw[hys]
   have est:statesF ps hs (rsOf xs) l works ((addB s j:Nat):Int)=(t',0):=by
    have hfl:=full_lt works.length
    have:addB s j<=fullN works.length:=by unfold fullN;omega
    unfold statesF
    rw[if_neg (by simpa using ‹taskF ps hs (rsOf xs) l works=0›),if_neg (by omega),Int.toNat_natCast,hst2]
   rw[est]
   rintro v w73 b73 ⟨A7,n7,c7,rfl,s7,l7,_,_⟩
   have hw73:=kP hw69 b73
   have o73:=(o5.below b69).below b73
   refine⟨_,_,_,_,rfl,fun k=>absurd rfl k,fun _=>⟨fun k=>absurd rfl k,fun _=>Pure.mono (EqualS o73.sl s7 hlen5 l7 (by omega)) ?_⟩⟩
   rintro v w76 b76 rfl
   have hw76:=kP hw73 b76
   have ar76:=((ar58.keep b69).keep b73).keep b76
   refine⟨_,rfl,fun k=>absurd k (by simp),fun _=>Pure.mono (r48_Copy ar76.p ar76.z0 ar76.z1) ?_⟩
   rintro v w81 b81 ⟨B0,d0,B1,d1,B2,d2,ys,rfl,hp,hys,_⟩
   have hw81:=kP hw76 b81
   have o81:=(o73.below b76).below b81
   refine⟨_,_,_,_,_,_,_,_,_,rfl,Pure.mono (CloneS o81.sl hlen5 (by omega)) ?_⟩
   rintro v w84 b84 ⟨A8,c8,rfl,o8⟩
   have hw84:=kP hw81 b84
   refine⟨_,_,_,rfl,Pure.mono (stow_Keeps (hg.next hw84) (hp.keep b84) o8.sl hlen5 o8.len_le (by omega)) ?_⟩
   rw[hys,hke]
   rintro v w87 b87 rfl
   refine⟨_,rfl,fun k=>(by cases k),fun _=>⟨by simp only[inR];omega,?_⟩⟩
   rw[e3]
   have o87:=(o81.below b84).below b87
   have hbig:Below w43.heap.size w43 w87:=kP (kP (kP (kP (kP (kP (kP (kP (kP hb b50) b54) b58) b69) b73) b76) b81) b84) b87
   exact ih (i+1) (addB s j) dq A5 n5 c5 t' w87 (by omega) hdr' hs3 hbig o87.sl hlen5 o87.len_le (by omega) hst2 hre2
 exact key o 0 0 works.length A41 n c41 l w43 (by omega) rfl (Nat.pow_pos (by decide)) (Below.refl _ _) o41.sl hl o41.len_le hn (state_zero hkr.1 hkr.2.2) hrest
end
end Go.Proofs.YtgfkeadgjkfomaaGreatDoor.B
