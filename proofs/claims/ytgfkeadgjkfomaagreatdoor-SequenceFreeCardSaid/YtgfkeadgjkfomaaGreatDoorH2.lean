/- Part 2 of the proofs that: without rules, and with holds that can take everything, any order of steps that only put in is one -/
import Derived.Test.YtgfkeadgjkfomaaGreatDoorH1
import Derived.Test.YtgfkeadgjkfomaaGreatDoorProg
set_option linter.unusedVariables false
set_option linter.unusedSimpArgs false
namespace Go.Proofs.YtgfkeadgjkfomaaGreatDoor.Vc
open Go Go.RowKit
section
variable {c:Cx} {b:Nat->Nat} {st:St} {T:Array Value} {wa:World} {o:Oper} {K:SV->St->Prop}

theorem bindVal{x:Operand}{v:Value}(he:EnvOk b st.env T)(h:(ev st x).bind SV.val=some v):(act T).eval x=v:=by
 obtain⟨sv,h1,h2⟩:=Option.bind_eq_some_iff.1 h
 rw[ev_den he h1,val_den h2 b]

theorem parts_eval(he:EnvOk b st.env T):∀{l:List (Nat×Operand)} {vs:List (Nat×Value)},parts st l=some vs->l.map (fun p=>(p.1,(act T).eval p.2))=vs:=by
 intro l
 induction l with
 |nil=>intro vs h;simp only[parts]at h;cases h;rfl
 |cons p r ih=>
  intro vs h
  obtain⟨i,x⟩:=p
  simp only[parts]at h
  cases hx:(ev st x).bind SV.val with
  |none=>simp[hx]at h
  |some v=>
   cases hr:parts st r with
   |none=>simp[hx,hr]at h
   |some ws=>
    simp only[hx,hr]at h
    cases h
    simp[ih hr,bindVal he hx]

theorem hatchSem_ok(he:EnvOk b st.env T){s:Sem Value}(h:hatchSem st o=some s):execOp (act T).eval o=(do pure (.value (<-s))):=by
 unfold hatchSem at h
 cases hop:o.op<;>simp only[hop]at h<;>try (cases h;done)
 case call cl=>
  cases hc:cl.callee with
  |builtin bi=>
   cases hv:evs st cl.args.toList with
   |none=>cases bi<;>simp[hc,hv]at h
   |some vs=>
    have e:=evs_den he hv
    have e1:cl.args.map (act T).eval=vs.toArray:=by apply Array.ext';simp[e]
    cases bi<;>simp only[hc,hv]at h<;>try (cases h;done)
    ·cases h;simp[execOp,hop,resolve,hc,e1,invoke,builtin]
    ·cases h;simp[execOp,hop,resolve,hc,e1,invoke,builtin]
    ·cases h;simp[execOp,hop,resolve,hc,e1,invoke,builtin]
  |_=>simp[hc]at h
 case buildSlice t n ps=>
  cases hp:parts st ps.toList with
  |none=>simp[hp]at h
  |some l=>
   rw[hp]at h
   cases h
   have e:=parts_eval he hp
   have e1:(ps.map fun(i,x)=>(i,(act T).eval x))=l.toArray:=by apply Array.ext';simp[<-e]
   simp[execOp,hop,e1]
 case makeSlice t l k=>
  cases hl:(ev st l).bind SV.val with
  |none=>simp[hl]at h
  |some a=>
   cases hk:(ev st k).bind SV.val with
   |none=>simp[hl,hk]at h
   |some d=>
    simp only[hl,hk]at h
    cases h
    simp[execOp,hop,bindVal he hl,bindVal he hk]
 case convert src dst x=>
  cases hx:(ev st x).bind SV.val with
  |none=>simp[hx]at h
  |some a=>simp only[hx]at h;cases h;simp[execOp,hop,bindVal he hx]
 case index t l k=>
  cases hl:(ev st l).bind SV.val with
  |none=>simp[hl]at h
  |some a=>
   cases hk:(ev st k).bind SV.val with
   |none=>simp[hl,hk]at h
   |some d=>
    simp only[hl,hk]at h
    cases h
    simp[execOp,hop,bindVal he hl,bindVal he hk]
 case lookup t l k ok=>
  cases hl:(ev st l).bind SV.val with
  |none=>simp[hl]at h
  |some a=>
   cases hk:(ev st k).bind SV.val with
   |none=>simp[hl,hk]at h
   |some d=>
    simp only[hl,hk]at h
    cases h
    simp[execOp,hop,bindVal he hl,bindVal he hk]
 case slice t x lo hi mx=>
  cases lo with
  |none=>simp at h
  |some l=>
   cases hi with
   |none=>simp at h
   |some k=>
    cases mx with
    |none=>simp at h
    |some m=>
     simp only at h
     cases hx:(ev st x).bind SV.val with
     |none=>simp[hx]at h
     |some a=>
      cases hl:(ev st l).bind SV.val with
      |none=>simp[hx,hl]at h
      |some b1=>
       cases hk:(ev st k).bind SV.val with
       |none=>simp[hx,hl,hk]at h
       |some d=>
        cases hm:(ev st m).bind SV.val with
        |none=>simp[hx,hl,hk,hm]at h
        |some e=>
         simp only[hx,hl,hk,hm]at h
         cases h
         simp[execOp,hop,bindVal he hx,bindVal he hl,bindVal he hk,bindVal he hm]
 case binOp op t l k pos=>
  cases op<;>simp only at h<;>try (cases h;done)
  cases hl:(ev st l).bind SV.val with
  |none=>simp[hl]at h
  |some a=>
   cases hk:(ev st k).bind SV.val with
   |none=>simp[hl,hk]at h
   |some d=>
    simp only[hl,hk]at h
    cases h
    simp[execOp,hop,bindVal he hl,bindVal he hk,eqGuard]
 case makeMap t r=>
  cases r with
  |none=>simp only at h;cases h;simp[execOp,hop]
  |some x=>
   simp only at h
   cases hx:(ev st x).bind SV.val with
   |none=>simp[hx]at h
   |some a=>simp only[hx]at h;cases h;simp[execOp,hop,bindVal he hx]

theorem mem_boxTys{bs:List Box}{l:Nat}{x:Box}(h:getBox bs l=some x):x.ty∈boxTys bs:=by
 induction bs with
 |nil=>simp[getBox]at h
 |cons y r ih=>
  rw[getBox_cons]at h
  simp only[boxTys]
  split at h
  ·cases h;simp
  ·simp[ih h]

theorem behind_ok{st0 st':St}{v:Value}{w1:World}(inv':Inv c b st' T wa)(hw:st'.w=wa)
  (hbel:Below c.B st'.w w1) (hsz:st'.w.heap.size<=w1.heap.size)
  (hkeep:∀(k ty:Nat)(cs:Array Value),ty∈boxTys st'.boxes->st'.w.heap[k]? =some (.cells cs ty (0,0))->w1.heap[k]? =st'.w.heap[k]?)
  (hK:behind c.P o.type st' K v w1):After c false o b st0 wa T K v w1:=by
 obtain⟨y,rfl,hK⟩:=exSh_some hK
 refine⟨b,_,_,hK,rfl,?_,fun e=>by cases e⟩
 refine⟨inv'.size,inv'.env,BoxOk.old (st:={st' with w:=w1}) ⟨fun m x hm=> ?_,inv'.box.ne⟩,Nat.le_trans inv'.lo hsz,rfl,fun m x hm hnew=> ?_,inv'.base.trans (hw▸hbel)⟩
 ·have:=inv'.box.at_ m x hm
  refine⟨this.1,?_⟩
  rw[<-hw]at this
  rw[hkeep _ _ _ (mem_boxTys hm) this.2]
  exact this.2
 ·rw[old_new hm]at hnew;cases hnew

theorem setsMap_sound{t:TypeId}{m k x:Operand}(hop:o.op= .mapUpdate t m k x∨o.op= .insert t m k x)(inv:Inv c b st T wa)(h:setsMap c t m k x st K):OpOk c false b st T o wa K:=by
 unfold setsMap at h
 intro next Q hn
 split at h
 ·rename_i va vd ve ha hd he
  obtain⟨st',h,inv',hw,hd',henv,_⟩:=expose_sound inv h
  obtain⟨w1,hrun,hbel,hsz,hkeep,hK⟩:=h
  unfold Oper.wp
  have hr:(execOp (act T).eval o).run c.P wa= .ok .skip w1:=by
   rw[<-hw]
   rcases hop with hop|hop<;>simp[execOp,hop,bindVal inv.env ha,bindVal inv.env hd,bindVal inv.env he,Sem.run_bind,hrun]
  rw[hr]
  refine hn _ _ ⟨b,.u,_,hK,rfl,?_,fun e=>by cases e⟩
  refine⟨inv'.size,inv'.env,BoxOk.old (st:={st' with w:=w1}) ⟨fun m x hm=> ?_,inv'.box.ne⟩,Nat.le_trans inv'.lo hsz,rfl,fun m x hm hnew=> ?_,inv'.base.trans (hw▸hbel)⟩
  ·have:=inv'.box.at_ m x hm
   refine⟨this.1,?_⟩
   rw[<-hw]at this
   rw[hkeep _ _ _ (mem_boxTys hm) this.2]
   exact this.2
  ·rw[old_new hm]at hnew;cases hnew
 ·exact h.elim

theorem newAt_sound{s:Sem Value}(hop:execOp (act T).eval o=(do pure (.value (<-s))))(inv:Inv c b st T wa)(h:newAt c s st K):OpOk c false b st T o wa K:=by
 unfold newAt at h
 intro next Q hn
 obtain⟨st',h,inv',hw,hd',henv,_⟩:=expose_sound inv h
 obtain⟨v,w1,hrun,hbel,hsz,hkeep,a,rfl,hK⟩:=h
 unfold Oper.wp
 have hr:(execOp (act T).eval o).run c.P wa= .ok (.value (.pointer (some a))) w1:=by
  rw[hop,<-hw]
  simp[Sem.run_bind,hrun]
 rw[hr]
 refine hn _ _ ⟨b,_,_,hK,rfl,?_,fun e=>by cases e⟩
 refine⟨inv'.size,inv'.env,BoxOk.old (st:={st' with w:=w1}) ⟨fun m x hm=> ?_,inv'.box.ne⟩,Nat.le_trans inv'.lo hsz,rfl,fun m x hm hnew=> ?_,inv'.base.trans (hw▸hbel)⟩
 ·have:=inv'.box.at_ m x hm
  refine⟨this.1,?_⟩
  rw[<-hw]at this
  rw[hkeep _ _ _ (mem_boxTys hm) this.2]
  exact this.2
 ·rw[old_new hm]at hnew;cases hnew

theorem hatch_sound(inv:Inv c b st T wa)(h:hatch c o st K):OpOk c false b st T o wa K:=by
 unfold hatch at h
 intro next Q hn
 cases hs:hatchSem st o with
 |some s=>
  rw[hs]at h
  obtain⟨st',h,inv',hw,hd,henv,_⟩:=expose_sound inv h
  obtain⟨v,w1,hrun,hbel,hsz,hkeep,hK⟩:=h
  unfold Oper.wp
  have hr:(execOp (act T).eval o).run c.P wa= .ok (.value v) w1:=by
   rw[hatchSem_ok inv.env hs,<-hw]
   simp[Sem.run_bind,hrun]
  rw[hr]
  exact hn _ _ (behind_ok inv' hw hbel hsz hkeep hK)
 |none=>
  rw[hs]at h
  cases hop:o.op<;>simp only[hop]at h<;>try exact h.elim
  case mapUpdate t m k x=>exact setsMap_sound (.inl hop) inv h next Q hn
  case insert t m k x=>exact setsMap_sound (.inr hop) inv h next Q hn
  case alloc t=>exact newAt_sound (by simp[execOp,hop]) inv h next Q hn
  case box t x=>
   cases hx:(ev st x).bind SV.val with
   |none=>simp[hx]at h
   |some a=>rw[hx]at h;exact newAt_sound (by simp[execOp,hop,bindVal inv.env hx]) inv h next Q hn
  rename_i cl
  cases hcl:cl.callee with
  |value x=>
   simp only[hcl]at h
   split at h
   ·rename_i g first cap vs hx hvs
    have ex:=ev_den inv.env hx
    have eargs:=evs_den inv.env hvs
    obtain⟨st',h,inv',hw,hd,henv,_⟩:=expose_sound inv h
    obtain⟨v,w1,hrun,hbel,hsz,hkeep,hK⟩:=h
    unfold Oper.wp
    have e1:(first++cl.args.map (act T).eval)++cap=(first.toList++vs++cap.toList).toArray:=by
     apply Array.ext'
     simp[<-eargs]
    have hr:(execOp (act T).eval o).run c.P wa= .ok (.value v) w1:=by
     rw[<-hw]
     simp only[execOp,hop,Sem.run_bind,resolve,hcl,ex,SV.den,Deferred.ofValue,Sem.run_pure,Result.andThen_ok,invoke,e1,hrun]
    rw[hr]
    exact hn _ _ (behind_ok inv' hw hbel hsz hkeep hK)
   ·exact h.elim
  |_=>simp[hcl]at h

theorem hatchQ_sound{q:Bool}(inv:Inv c b st T wa)(h:hatchQ c o st K):OpOk c q b st T o wa K:=by
 unfold hatchQ at h
 intro next Q hn
 cases hs:hatchSem st o with
 |none=>rw[hs]at h;exact h.elim
 |some s=>
  rw[hs]at h
  obtain⟨st',h,inv',hw,hd,henv,hsame⟩:=expose_sound inv h
  obtain⟨v,w1,hrun,hbel,hsz,hkeep,hK⟩:=h
  unfold Oper.wp
  have hr:(execOp (act T).eval o).run c.P wa= .ok (.value v) w1:=by
   rw[hatchSem_ok inv.env hs,<-hw]
   simp[Sem.run_bind,hrun]
  rw[hr]
  have hb:Below c.B st'.w w1:=hbel.mono inv'.lo
  obtain⟨y,hv,hK⟩:=exSh_some hK
  subst hv
  refine hn _ _ ⟨b,_,_,hK,rfl,?_,fun _=> ?_⟩
  ·refine⟨inv'.size,inv'.env,BoxOk.old (st:={st' with w:=w1}) ⟨fun m x hm=> ?_,inv'.box.ne⟩,Nat.le_trans inv'.lo hsz,rfl,fun m x hm hnew=> ?_,inv'.base.trans (hw▸hb)⟩
   ·have:=inv'.box.at_ m x hm
    refine⟨this.1,?_⟩
    rw[<-hw]at this
    rw[hkeep _ _ _ (mem_boxTys hm) this.2]
    exact this.2
   ·rw[old_new hm]at hnew;cases hnew
  ·rw[hw]at hbel
   exact(hsame.old).kept _ _ _ _ hbel.size hbel.block

theorem writes_sound{dyn:Bool}(inv:Inv c b st T wa)(h:writesCall dyn c o st K):OpOk c false b st T o wa K:=by
 unfold writesCall at h
 intro next Q hn
 cases hop:o.op<;>simp only[hop]at h<;>try exact h.elim
 rename_i cl
 cases hcl:cl.callee with
 |value x=>
  simp only[hcl]at h
  split at h
  ·rename_i g first cap vs hx hvs
   have ex:=ev_den inv.env hx
   have eargs:=evs_den inv.env hvs
   have hcall:callable c.P g=true/\expose c.B st fun st=>PureB c.P g (first.toList++vs++cap.toList).toArray c.B st.w fun v w1=>
     (∀(k ty:Nat)(cs:Array Value),ty∈boxTys st.boxes->st.w.heap[k]? =some (.cells cs ty (0,0))->w1.heap[k]? =st.w.heap[k]?)/\behind c.P o.type st K v w1:=by
    unfold mayCall at h
    cases dyn with
    |true=>exact h
    |false=>
     simp only at h
     cases hc:callable c.P g with
     |false=>rw[hc]at h;exact h.elim
     |true=>rw[hc]at h;exact⟨rfl,h⟩
   obtain⟨hc,h⟩:=hcall
   ·obtain⟨st',h,inv',hw,hd,henv,_⟩:=expose_sound inv h
    unfold Oper.wp
    have hr:(execOp (act T).eval o).run c.P wa= .ok (.enter g (first.toList++vs++cap.toList).toArray) wa:=by
     have e1:(first++cl.args.map (act T).eval)++cap=(first.toList++vs++cap.toList).toArray:=by
      apply Array.ext'
      simp[<-eargs]
     unfold callable at hc
     cases hf:c.P.funcs[g]? with
     |none=>simp[hf]at hc
     |some fn=>
      cases hb:fn.body with
      |none=>simp[hf,hb]at hc
      |some bd=>
       simp only[hf,hb]at hc
       have hn : fn.name ≠ "runtime.NumGoroutine" := by
        intro e
        simp[e]at hc
       simp only[execOp,hop,Sem.run_bind,resolve,hcl,ex,SV.den,Deferred.ofValue,Sem.run_pure,Result.andThen_ok,invoke,e1]
       simp[callFunc,program,Sem.run_bind,Sem.run,hf,hb,hn]
    rw[hr,Oper.upon_enter]
    rw[hw]at h
    refine Calls.mono h fun e w'' he=> ?_
    obtain⟨v,rfl,hbel,hkeep,hK⟩:=he
    exact hn _ _ (behind_ok inv' hw (by rw[hw];exact hbel) (by rw[hw];exact hbel.size) (by rw[hw];exact hkeep) hK)
  ·exact h.elim
 |_=>simp[hcl]at h

theorem opPlain_sound{m:Nat}{q:Bool}(hq:q=true->isStore o=false)(hs:∀cs q,o.op≠ .select cs q)(inv:Inv c b st T wa)(h:opPlain c m o st K):OpOk c q b st T o wa K:=by
 unfold opPlain at h
 cases he:isEffect o.op with
 |true=>rw[he]at h;exact effect_sound hq inv h
 |false=>
  rw[he]at h
  simp only at h
  have gen:∀{raw},value c raw none none o st (fun x=>K x st)->OpOk c q b st T o wa K:=fun hv=>
   opOk_of_gives inv (Same.refl _) (ReadOk.of_inv (lw:=none) inv (fun v hv=>by cases hv)) (value_sound (fun _ _ h=>h) inv.env hs hv)
  split at h
  ·split at h
   ·obtain⟨st',h,inv',hw,_,_,hsame⟩:=expose_sound inv h
    exact opOk_of_gives inv' hsame (ReadOk.of_inv (lw:=some st'.w) inv' (fun v hv=>by cases hv;exact hw)) (value_sound (fun _ _ h=>h) inv'.env hs h)
   ·exact gen h
  ·exact gen h

theorem opRun_sound{rid i:Nat}(hs:∀cs q,o.op≠ .select cs q)(inv:Inv c b st T wa)(h:opRun c rid i o st K):OpOk c (quietly (modeOf c.mode rid i) o) b st T o wa K:=by
 unfold opRun at h
 unfold quietly
 split at h
 ·rename_i e
  rw[e]
  exact hatch_sound inv h
 ·rename_i e
  rw[e]
  exact writes_sound inv h
 ·rename_i e
  rw[e]
  exact writes_sound inv h
 ·rename_i e
  rw[e]
  obtain⟨st',h,inv',hsame⟩:=publish_sound _ _ inv h
  intro next Q hn
  refine opPlain_sound (q:= !isStore o) (fun e=>by simpa using e) hs inv' h next Q fun v w' ⟨b',x,st'',h1,h2,h3,h4⟩=>hn v w' ⟨b',x,st'',h1,h2,h3,fun e=> ?_⟩
  obtain⟨k1,k2,k3⟩:=h4 e
  exact⟨k1,k2,fun l hl=>⟨(k3 l hl).1,fun x' hx'=>by
   obtain⟨y,hy,e1,e2⟩:=(k3 l hl).2 x' hx'
   obtain⟨z,hz,f1,f2⟩:=hsame l y hy
   exact⟨z,hz,f1.trans e1,f2.trans e2⟩⟩⟩
 ·exact hatchQ_sound inv h
 ·rename_i e2 e6 e10 e5 e7
  split
  ·rename_i e;exact absurd e e2
  ·rename_i e;exact absurd e e6
  ·rename_i e;exact absurd e e10
  ·exact opPlain_sound (fun e=>by simpa using e) hs inv h

theorem put_sound{dst:Option Tmp}{x:SV}{v:Value}{K:St->Prop}(inv:Inv c b st T wa)(hv:v=x.den b)(h:put c.N st dst x K):
  ∃st',K st'/\Inv c b st' ((act T).put dst v).tmps wa/\(act T).put dst v=act ((act T).put dst v).tmps/\st'.boxes=st.boxes:=by
 unfold put at h
 cases dst with
 |none=>exact⟨st,h,inv,rfl,rfl⟩
 |some s=>
  simp only at h
  cases hl:Nat.blt s c.N with
  |false=>rw[hl]at h;exact h.elim
  |true=>
   rw[hl]at h
   have hlt:s<c.N:=by simpa[Nat.blt_eq]using hl
   refine⟨_,h,⟨?_,fun t y hy=> ?_,inv.box,inv.lo,inv.ext,inv.new,inv.base⟩,rfl,rfl⟩
   ·simp[Act.put,act,inv.size]
   ·simp only[get_cons,get_drop]at hy
    simp only[Act.put,act]
    have hT:=inv.size
    by_cases e:s=t
    ·subst e
     simp only[if_true]at hy
     cases hy
     rw[Array.getElem?_setIfInBounds_self_of_lt (Nat.lt_of_lt_of_eq hlt hT.symm),hv]
    ·rw[if_neg e,if_neg (Ne.symm e)]at hy
     rw[Array.getElem?_setIfInBounds_ne e]
     exact inv.env t y hy

theorem yielded_of(he:EnvOk b st.env T){ops:Array Oper}{j s:Nat}{x:SV}(hj:(ops.toList[j]?).bind (·.dst)=some s)(hx:get st.env s=some x):
  yielded ops T j=match x.den b with| .bool t=>some t|_=>none:=by
 have e:(ops[j]?).bind (·.dst)=some s:=by simpa using hj
 unfold yielded
 rw[e]
 simp[he s x hx]
 cases x.den b<;>rfl

theorem setSlot_inv{s:Nat}{x:SV}{t:Bool}(inv:Inv c b st T wa)(hx:get st.env s=some x)(hd:x.den b= .bool t):Inv c b (setSlot st s t) T wa:=by
 refine⟨inv.size,fun m y hy=> ?_,inv.box,inv.lo,inv.ext,inv.new,inv.base⟩
 simp only[setSlot,get_cons,get_drop]at hy
 by_cases e:s=m
 ·subst e
  simp only[if_true]at hy
  cases hy
  rw[inv.env s x hx,hd]
  cases t<;>rfl
 ·rw[if_neg e,if_neg (Ne.symm e)]at hy
  exact inv.env m y hy

theorem guarded_sound{ops:Array Oper}{K:Bool->St->Prop}(inv:Inv c b st T wa)(h:guarded ops o st K):
  ∃st',K (Region.wanted o (yielded ops T)) st'/\Inv c b st' T wa/\st'.boxes=st.boxes:=by
 unfold guarded at h
 unfold Region.wanted
 cases hg:o.guard with
 |none=>rw[hg]at h;exact⟨st,h,inv,rfl⟩
 |some g=>
  obtain⟨j,want⟩:=g
  rw[hg]at h
  simp only at h⊢
  cases hj:(ops.toList[j]?).bind (·.dst)with
  |none=>rw[hj]at h;exact h.elim
  |some s=>
   rw[hj]at h
   simp only at h
   cases hx:get st.env s with
   |none=>rw[hx]at h;exact h.elim
   |some x=>
    rw[hx]at h
    have hy:=yielded_of inv.env hj hx
    have gen:(onBool x fun t=>K (sameB t want) (setSlot st s t))->∃st',K (yielded ops T j==some want) st'/\Inv c b st' T wa/\st'.boxes=st.boxes:=fun h=>by
     obtain⟨t,hd,h⟩:=onBool_sound (b:=b) h
     rw[hd]at hy
     refine⟨_,?_,setSlot_inv inv hx hd,rfl⟩
     rw[hy]
     cases t<;>cases want<;>exact h
    cases x with
    |u=>
     simp only at h
     refine⟨st,?_,inv,rfl⟩
     rw[hy]
     cases want<;>exact h
    |_=>exact gen h

theorem after_next{q:Bool}{b0:Nat->Nat}{st0:St}{nx:Act->World->Prop}{K:St->Prop}{v:Value}{w':World}
  (h:After c q o b0 st0 wa T (fun x st=>put c.N st o.dst x K) v w') (hn:∀b st T' w',K st->Inv c b st T' w'->(q=true->Kept o b0 st0 wa b st w')->nx (act T') w'):nx ((act T).put o.dst v) w':=by
 obtain⟨b',x,st',hp,hv,inv',hk⟩:=h
 obtain⟨st'',hK,inv'',e,hb⟩:=put_sound inv' hv hp
 rw[e]
 exact hn _ _ _ _ hK inv'' fun hq=>by
  obtain⟨k1,k2,k3⟩:=hk hq
  exact⟨k1,k2,fun l hl=>by rw[hb];exact k3 l hl⟩

theorem oneOp_sound{rid i:Nat}{ops:Array Oper}{Q:Exit->Act->World->Prop}{nx:Act->World->Prop}{K:St->Prop}(hs:∀cs q,o.op≠ .select cs q)(inv:Inv c b st T wa)(h:oneOp c rid ops i o st K)
  (hi:ops[i]? =some o) (hn:∀b' st' T' w',K st'->Inv c b' st' T' w'->(quietly (modeOf c.mode rid i) o=true->Kept o b st wa b' st' w')->nx (act T') w'):wpOp c.P ops Q i nx (act T) wa:=by
 unfold oneOp at h
 obtain⟨st',h,inv',hbx⟩:=guarded_sound inv h
 unfold wpOp
 simp only[hi]
 have ey:yielded ops (act T).tmps=yielded ops T:=rfl
 rw[ey]
 cases hw:Region.wanted o (yielded ops T)with
 |true=>
  rw[hw]at h
  simp only[if_true]
  exact .inl (opRun_sound hs inv' h _ _ fun v w' ha=>after_next ha fun b' st'' T' w'' h1 h2 h3=>hn b' st'' T' w'' h1 h2 fun hq=>by
   obtain⟨k1,k2,k3⟩:=h3 hq
   exact⟨k1,k2,fun l hl=>by rw[<-hbx];exact k3 l hl⟩)
 |false=>
  rw[hw]at h
  simp only[Bool.false_eq_true,if_false]
  obtain⟨st'',hK,inv'',e,hb⟩:=put_sound inv' (v:=undef) rfl h
  rw[e]
  exact hn _ _ _ _ hK inv'' fun _=>Same.kept (fun l x hx=>by rw[hb,hbx]at hx;exact⟨x,hx,rfl,rfl⟩) _ _ _ _ (Nat.le_refl _) fun _ _=>rfl

theorem opsRun_sound{rid:Nat}{ops:Array Oper}{Q:Exit->Act->World->Prop}{K:St->Prop}(hq:∀b st T' w',K st->Inv c b st T' w'->Q .normal (act T') w')(hsel:∀(j:Nat) o cs q,ops[j]? =some o->o.op≠ .select cs q):
  ∀(l:List Oper)(i:Nat),(∀k,l[k]? =ops[i+k]?)->∀(b:Nat->Nat)(st:St)(T:Array Value)(wa:World),Inv c b st T wa->opsRun c rid ops i l st K->wpOps c.P ops Q (List.range' i l.length) (act T) wa:=by
 intro l
 induction l with
 |nil=>
  intro i _ b st T wa inv h
  simp only[List.length_nil,List.range'_zero,wpOps]
  exact hq _ _ _ _ h inv
 |cons o r ih=>
  intro i hl b st T wa inv h
  simp only[opsRun]at h
  have hi:ops[i]? =some o:=by simpa using(hl 0).symm
  simp only[List.length_cons,List.range'_succ]
  rw[wpOps_cons]
  exact oneOp_sound (fun cs q=>hsel i o cs q hi) inv h hi fun b st T' w' hK inv' _=>
   ih (i+1) (fun k=>by have:=hl (k+1);simpa[Nat.add_assoc,Nat.add_comm 1 k]using this) b st T' w' inv' hK
end
section any
variable {P:Program} {ops:Array Oper} {Q:Exit->Act->World->Prop} {S:World->Prop} {qt:Nat->Bool}

def AnyS(P:Program)(ops:Array Oper)(Q:Exit->Act->World->Prop)(S:World->Prop)(qt:Nat->Bool):Nat->Array Bool->Act->World->Prop
 |0,l,a,w=>Region.ready .any ops l=[]/\Q .normal a w
 |n+1,l,a,w=>(Region.ready .any ops l=[]->Q .normal a w)/\
  ∀i∈Region.ready .any ops l,wpOp P ops Q i (fun a' w'=>(qt i=true->S w->S w')/\AnyS P ops Q S qt n (l.setIfInBounds i true) a' w') a w

theorem AnyS.wpAny:∀(n:Nat)(l:Array Bool)(a:Act)(w:World),AnyS P ops Q S qt n l a w->wpAny P .any ops Q n l a w
 |0,_,_,_,h=>h
 |n+1,_,_,_,h=>⟨h.1,fun i hi=>wpOp_mono (fun a' w' h'=>AnyS.wpAny n _ a' w' h'.2) (h.2 i hi)⟩

theorem AnyS.first{S':World->Prop}{i:Nat}{oi:Oper}{v:Value}{late:Nat->Prop}(hi:ops[i]? =some oi)(hsel:∀(j:Nat) o cs b,ops[j]? =some o->o.op≠ .select cs b)
  (hQ:∀c a w,Q (.panic c) (a.put oi.dst v) w->Q (.panic c) a w)
  (hlate:∀j oj,ops[j]? =some oj->late j->∃e∈oj.after,Region.binds .any e=true/\(e.on=i∨late e.on)):
  ∀(n:Nat)(l:Array Bool)(a:Act)(w:World),
   (∀j oj,ops[j]? =some oj->j≠i->l.getD j true=false->¬late j->
    oi.apart ops oj=true/\∀w w',(qt j=true->S w->S w')->S' w->S' w')->
   (∀j,late j->l.getD j false=false)->
   i∈Region.ready .any ops l->YieldsIf P ops S' oi v a->S' w->
   AnyS P ops Q S qt n (l.setIfInBounds i true) (a.put oi.dst v) w->AnyS P ops Q S qt (n+1) l a w:=by
 intro n
 induction n with
 |zero=>
  intro l a w _ _ hr hy hS H
  refine⟨fun h=>(by rw[h]at hr;cases hr),fun j hj=> ?_⟩
  by_cases hji:j=i
  ·subst hji;exact hy.wpOp hi hS ⟨fun _ h=>h,H⟩
  ·have:=ready_mono hj hji
   rw[H.1]at this
   cases this
 |succ n ih=>
  intro l a w hfree hun0 hr hy hS H
  refine⟨fun h=>(by rw[h]at hr;cases hr),fun j hj=> ?_⟩
  by_cases hji:j=i
  ·subst hji;exact hy.wpOp hi hS ⟨fun _ h=>h,H⟩
  ·have h1:=H.2 j (ready_mono hj hji)
   obtain⟨hjun,oj,hoj,hall⟩:=mem_ready.1 hj
   have hnot:¬late j:=fun hlj=>by
    obtain⟨e,he,hb,hor⟩:=hlate j oj hoj hlj
    have h1:=hall e he hb
    rcases hor with heq|hl
    ·have h0:=(mem_ready.1 hr).1
     rw[heq]at h1
     rcases Nat.lt_or_ge i l.size with h'|h'
     ·simp[h']at h0 h1;rw[h0]at h1;cases h1
     ·simp[Array.getElem?_eq_none h']at h1
    ·rw[hun0 _ hl]at h1;cases h1
   obtain⟨hap,hkeep⟩:=hfree j oj hoj hji hjun hnot
   have h2:=wpOp_putIf hoj hap (fun cs b=>hsel i oi cs b hi) (fun cs b=>hsel j oj cs b hoj) hQ hy h1
   refine wpOp_mono (fun a' w' h3=>⟨h3.2.1,?_⟩) h2
   have k1:=hkeep w w' h3.2.1 hS
   refine ih (l.setIfInBounds j true) a' w' (fun k ok hk hki hun hno=> ?_) (fun k hk=> ?_) (ready_mono hr (Ne.symm hji)) h3.1 k1 ?_
   ·refine hfree k ok hk hki ?_ hno
    by_cases hjk:j=k
    ·subst hjk;exact hjun
    ·rw[getD_set_ne true hjk]at hun;exact hun
   ·have hjk:j≠k:=fun e=>hnot (e▸hk)
    rw[getD_set_ne false hjk];exact hun0 k hk
   ·rw[Array.setIfInBounds_comm _ _ hji]
    exact h3.2.2
end any

section
variable {c:Cx}

theorem inL_iff {n : Nat} : ∀ {l : List Nat}, inL n l = true ↔ n ∈ l := by
  intro l
  induction l with
  | nil => simp [inL]
  | cons x r ih =>
    simp only [inL]
    cases h : Nat.beq x n with
    | true => have := beq_true h; simp [this]
    | false => have := beq_false h; simp only [ih, List.mem_cons]; constructor
               · exact .inr
               · rintro (h | h)
                 · exact absurd h.symm this
                 · exact h

def Rel(ops:Array Oper)(listed:List Nat)(arr:Array Bool):Prop:=arr.size=ops.size/\∀j,j<ops.size->arr.getD j true=inL j listed

theorem Rel.cons{ops:Array Oper}{listed:List Nat}{arr:Array Bool}(h:Rel ops listed arr)(i:Nat):Rel ops (i::listed) (arr.setIfInBounds i true):=by
 refine⟨by simp[h.1],fun j hj=> ?_⟩
 have:=h.2 j hj
 have hj':j<arr.size:=by rw[h.1];exact hj
 simp only[inL]
 cases e:Nat.beq i j with
 |true=>have:=beq_true e;subst this;simp[hj']
 |false=>have hne:=beq_false e;rw[getD_set_ne true hne];exact this

theorem Rel.getD_false{ops:Array Oper}{listed:List Nat}{arr:Array Bool}(h:Rel ops listed arr){j:Nat}(hj:j<ops.size):arr.getD j false=inL j listed:=by
 have:=h.2 j hj
 have hj':j<arr.size:=by rw[h.1];exact hj
 simp[hj']at this⊢
 exact this

theorem readyL_mem{ops:Array Oper}{listed:List Nat}{arr:Array Bool}(h:Rel ops listed arr)(hon:∀(j:Nat) o,ops[j]? =some o->∀e∈o.after,Region.binds .any e=true->e.on<ops.size):
  ∀(l:List Oper)(i:Nat),(∀k,l[k]? =ops[i+k]?)->∀j,j∈readyL listed i l↔i<=j/\j∈Region.ready .any ops arr:=by
 intro l
 induction l with
 |nil=>
  intro i hl j
  simp only[readyL,List.not_mem_nil,false_iff,not_and]
  intro hij hj
  obtain⟨_,o,ho,_⟩:=mem_ready.1 hj
  have:=hl (j - i)
  rw[show i+(j - i)=j by omega,ho]at this
  simp at this
 |cons o r ih=>
  intro i hl j
  have hi:ops[i]? =some o:=by simpa using(hl 0).symm
  have hlt:i<ops.size:=(Array.getElem?_eq_some_iff.1 hi).1
  have ih':=ih (i+1) (fun k=>by have:=hl (k+1);simpa[Nat.add_assoc,Nat.add_comm 1 k]using this)
  have hready:i∈Region.ready .any ops arr↔(inL i listed|| !(o.after.toList.all fun e=> !Region.binds .any e||inL e.on listed))=false:=by
   rw[mem_ready,h.2 i hlt]
   simp only[Bool.or_eq_false_iff,Bool.not_eq_false',List.all_eq_true,Bool.or_eq_true,Bool.not_eq_true']
   constructor
   ·rintro⟨h0,o',ho',hall⟩
    rw[hi]at ho'
    cases ho'
    refine⟨h0,fun e he=> ?_⟩
    have he':e∈o.after:=by simpa using he
    cases hb:Region.binds .any e with
    |false=>exact .inl rfl
    |true=>have:=hall e he' hb;rw[h.getD_false (hon i o hi e he' hb)]at this;exact .inr this
   ·rintro⟨h0,hall⟩
    refine⟨h0,o,hi,fun e he hb=> ?_⟩
    rw[h.getD_false (hon i o hi e he hb)]
    exact(hall e (by simpa using he)).resolve_left (by simp[hb])
  simp only[readyL]
  cases hc:(inL i listed|| !(o.after.toList.all fun e=> !Region.binds .any e||inL e.on listed))with
  |true=>
   have hn:¬i∈Region.ready .any ops arr:=fun hm=>by rw[hready.1 hm]at hc;cases hc
   simp only[ih']
   constructor
   ·rintro⟨h1,h2⟩;exact⟨by omega,h2⟩
   ·rintro⟨h1,h2⟩
    refine⟨?_,h2⟩
    rcases Nat.lt_or_ge i j with h'|h'
    ·omega
    ·have:i=j:=by omega
     subst this;exact absurd h2 hn
  |false=>
   have hy:=hready.2 hc
   simp only[List.mem_cons,ih']
   constructor
   ·rintro(rfl|⟨h1,h2⟩)
    ·exact⟨Nat.le_refl _,hy⟩
    ·exact⟨by omega,h2⟩
   ·rintro⟨h1,h2⟩
    rcases Nat.lt_or_ge i j with h'|h'
    ·exact .inr ⟨by omega,h2⟩
    ·exact .inl (by omega)

theorem mayFirst_spec{rid:Nat}{ops:Array Oper}{listed:List Nat}{i:Nat}{oi:Oper}{late:List Nat}:∀(l:List Oper)(j0:Nat),mayFirst c rid ops listed i oi late j0 l=true->
  ∀k o,l[k]? =some o->j0+k≠i->(match isLoad oi&& !quietly (modeOf c.mode rid (j0+k)) o with
   |true=>inL (j0+k) listed=false/\inL (j0+k) late=true
   |false=>inL (j0+k) listed=true∨inL (j0+k) late=true∨oi.apart ops o=true):=by
 intro l
 induction l with
 |nil=>intro j0 _ k o hk;simp at hk
 |cons x r ih=>
  intro j0 h k o hk hne
  simp only[mayFirst,Bool.and_eq_true]at h
  cases k with
  |zero=>
   simp only[List.getElem?_cons_zero,Option.some.injEq]at hk
   subst hk
   have h1:=h.1
   rw[Bool.or_eq_true]at h1
   have h1:=h1.resolve_left (by simpa using hne)
   simp only[Nat.add_zero]
   split at h1
   ·rename_i e;rw[e];simpa using h1
   ·rename_i e;rw[e];simpa[or_assoc]using h1
  |succ k=>
   have:=ih (j0+1) h.2 k o (by simpa using hk) (by omega)
   rw[show j0+1+k=j0+(k+1) by omega]at this
   exact this

theorem lateL_spec{ops:Array Oper}{listed:List Nat}{i:Nat}:∀(l:List Oper)(j0:Nat)(acc:List Nat),(∀k,l[k]? =ops[j0+k]?)->
  (∀j oj,ops[j]? =some oj->inL j acc=true->inL j listed=false/\∃e∈oj.after,Region.binds .any e=true/\(e.on=i∨inL e.on acc=true))->(∀j,inL j acc=true->inL j listed=false)->
  (∀j oj,ops[j]? =some oj->inL j (lateL listed i j0 l acc)=true->∃e∈oj.after,Region.binds .any e=true/\(e.on=i∨inL e.on (lateL listed i j0 l acc)=true))/\(∀j,inL j (lateL listed i j0 l acc)=true->inL j listed=false):=by
 intro l
 induction l with
 |nil=>intro j0 acc _ h h2;exact⟨fun j oj ho hj=>(h j oj ho hj).2,h2⟩
 |cons o r ih=>
  intro j0 acc hl h h2
  have hj0:ops[j0]? =some o:=by simpa using(hl 0).symm
  have hl':∀k,r[k]? =ops[j0+1+k]? :=fun k=>by have:=hl (k+1);simpa[Nat.add_assoc,Nat.add_comm 1 k]using this
  simp only[lateL]
  cases hc:(!inL j0 listed&&o.after.toList.any fun e=>Region.binds .any e&&(Nat.beq e.on i||inL e.on acc))with
  |false=>exact ih (j0+1) acc hl' h h2
  |true=>
   simp only[Bool.and_eq_true,Bool.not_eq_true',List.any_eq_true,Bool.or_eq_true]at hc
   obtain⟨hu,e,he,hb,hor⟩:=hc
   have grow:∀k,inL k acc=true->inL k (j0::acc)=true:=fun k hk=>inL_iff.2 (by simp[inL_iff.1 hk])
   refine ih (j0+1) (j0::acc) hl' (fun j oj ho hj=> ?_) fun j hj=> ?_
   ·rcases List.mem_cons.1 (inL_iff.1 hj)with rfl|hj
    ·rw[hj0]at ho
     cases ho
     refine⟨hu,e,by simpa using he,hb,?_⟩
     rcases hor with h'|h'
     ·exact .inl (beq_true h')
     ·exact .inr (grow _ h')
    ·obtain⟨k1,e,he,hb,hor⟩:=h j oj ho (inL_iff.2 hj)
     exact⟨k1,e,he,hb,hor.imp id (grow _)⟩
   ·rcases List.mem_cons.1 (inL_iff.1 hj)with rfl|hj
    ·exact hu
    ·exact h2 j (inL_iff.2 hj)

theorem findEarly_spec{rid:Nat}{ops:Array Oper}{listed:List Nat}:∀{l:List Nat} {i:Nat},findEarly c rid ops listed l=some i->
  i∈l/\∃o,ops[i]? =some o/\early o=true/\mayFirst c rid ops listed i o (lateL listed i 0 ops.toList []) 0 ops.toList=true:=by
 intro l
 induction l with
 |nil=>intro i h;simp[findEarly]at h
 |cons x r ih=>
  intro i h
  simp only[findEarly]at h
  cases hx:ops.toList[x]? with
  |none=>simp[hx]at h
  |some o=>
   simp only[hx]at h
   cases hc:early o&&mayFirst c rid ops listed x o (lateL listed x 0 ops.toList []) 0 ops.toList with
   |true=>
    rw[hc]at h
    cases h
    simp only[Bool.and_eq_true]at hc
    exact⟨by simp,o,by simpa using hx,hc.1,hc.2⟩
   |false=>
    rw[hc]at h
    obtain⟨h1,h2⟩:=ih h
    exact⟨by simp[h1],h2⟩

theorem allOf_mem:∀{l:List Nat} {z:Prop} {K:Nat->Prop},allOf l z K->l≠[]->∀i∈l,K i:=by
 intro l
 induction l with
 |nil=>intro z K _ h;exact absurd rfl h
 |cons x r ih=>
  intro z K h _ i hi
  cases r with
  |nil=>simp only[allOf]at h;rw[List.mem_singleton.1 hi];exact h
  |cons y s=>
   simp only[allOf]at h
   rcases List.mem_cons.1 hi with rfl|hi
   ·exact h.1
   ·exact ih h.2 (by simp) i hi

def Held(b0:Nat->Nat)(st0:St)(lw:Option World)(hold:List Nat)(w:World):Prop:=
 (∀l∈hold,∀x,getBox st0.boxes l=some x->w.heap[b0 l]? =some (.cells x.cells.toArray x.ty (0,0)))/\∀v,lw=some v->∀a u,v.cell? a=some u->w.cell? a=some u

theorem Held.keep{b0:Nat->Nat}{st0:St}{lw:Option World}{hold:List Nat}{w w':World}(h:Held b0 st0 lw hold w)(hk:∀k,k<w.heap.size->w'.heap[k]? =w.heap[k]?):Held b0 st0 lw hold w':=by
 refine⟨fun l hl x hx=> ?_,fun v hv a u hu=> ?_⟩
 ·have:=h.1 l hl x hx
  rw[hk _ (Array.getElem?_eq_some_iff.1 this).1]
  exact this
 ·have:=h.2 v hv a u hu
  rw[World.cell?_of_block (hk _ (World.block_lt_of_cell? w a this))]
  exact this

def quietAt(c:Cx)(rid:Nat)(ops:Array Oper)(j:Nat):Bool:=match ops[j]? with
 |some o=>quietly (modeOf c.mode rid j) o
 |none=>true

def Still(c:Cx)(rid:Nat)(ops:Array Oper)(b0:Nat->Nat)(st0:St)(lw:Option World)(hold:List Nat)(listed:List Nat)(b:Nat->Nat)(st:St)(w:World):Prop:=
 (∀j∈listed,quietAt c rid ops j=true)->Held b0 st0 lw hold w/\∀l∈hold,b l=b0 l/\∀x',getBox st.boxes l=some x'->∃x,getBox st0.boxes l=some x/\x.cells=x'.cells/\x.ty=x'.ty

theorem newLabels_mem{o:Oper}{l:Nat}:∀{ops:List Oper},o∈ops->isNew o=true->o.dst=some l->l∈newLabels ops:=by
 intro ops
 induction ops with
 |nil=>intro h;cases h
 |cons x r ih=>
  intro h hn hd
  simp only[newLabels]
  rcases List.mem_cons.1 h with rfl|h
  ·unfold isNew at hn
   split at hn
   ·rename_i e;rw[e,hd];simp
   ·rename_i e;rw[e,hd];simp
   ·cases hn
  ·have:=ih h hn hd
   split<;>simp[this]

theorem drawRun_sound{rid:Nat}{ops:Array Oper}{Q:Exit->Act->World->Prop}{K:St->Prop}{lw:Option World}{hold:List Nat}{b0:Nat->Nat}{st0:St}
  (hq:∀b st T' w',K st->Inv c b st T' w'->Q .normal (act T') w') (hQ:∀ch a w,¬Q (.panic ch) a w)
  (hsel:∀(j:Nat) o cs q,ops[j]? =some o->o.op≠ .select cs q) (hon:∀(j:Nat) o,ops[j]? =some o->∀e∈o.after,Region.binds .any e=true->e.on<ops.size)
  (hnew:∀l∈hold,∀(j:Nat) o,ops[j]? =some o->isNew o=true->o.dst≠some l):
  ∀(n:Nat)(listed:List Nat)(arr:Array Bool)(b:Nat->Nat)(st:St)(T:Array Value)(w:World),Rel ops listed arr->Inv c b st T w->
   Still c rid ops b0 st0 lw hold listed b st w->drawRun c rid ops lw hold n listed st K->AnyS c.P ops Q (Held b0 st0 lw hold) (quietAt c rid ops) n arr (act T) w:=by
 intro n
 induction n with
 |zero=>
  intro listed arr b st T w hrel inv hst h
  simp only[drawRun]at h
  have hr:Region.ready .any ops arr=[]:=by
   cases he:readyL listed 0 ops.toList with
   |nil=>
    refine List.eq_nil_iff_forall_not_mem.2 fun j hj=> ?_
    have:=(readyL_mem hrel hon ops.toList 0 (fun k=>by simp) j).2 ⟨Nat.zero_le _,hj⟩
    rw[he]at this
    cases this
   |cons x r=>simp[he]at h
  refine⟨hr,?_⟩
  have hnil:readyL listed 0 ops.toList=[]:=by
   cases he:readyL listed 0 ops.toList with
   |nil=>rfl
   |cons x r=>simp[he]at h
  rw[hnil]at h
  exact hq _ _ _ _ h inv
 |succ n ih=>
  intro listed arr b st T w hrel inv hst h
  have hmem:=fun j=>readyL_mem hrel hon ops.toList 0 (fun k=>by simp) j
  simp only[drawRun]at h
  cases hf:findEarly c rid ops listed (readyL listed 0 ops.toList)with
  |some i=>
   simp only[hf]at h
   obtain⟨him,o,hi,hearly,hmf⟩:=findEarly_spec hf
   have hi':ops.toList[i]? =some o:=by simpa using hi
   simp only[hi']at h
   have hready:=((hmem i).1 him).2
   obtain⟨st',h,inv',hbx⟩:=guarded_sound inv h
   have hlt:i<ops.size:=(Array.getElem?_eq_some_iff.1 hi).1
   have hspec:=fun j oj (hj:ops[j]? =some oj) (hne:j≠i)=>mayFirst_spec ops.toList 0 hmf j oj (by simpa using hj) (by omega)
   simp only[Nat.zero_add]at hspec
   obtain⟨hlate,hlun⟩:=lateL_spec (ops:=ops) (listed:=listed) (i:=i) ops.toList 0 [] (fun k=>by simp) (fun j oj _ hj=>by cases hj) (fun j hj=>by cases hj)
   have hun0:∀j,inL j (lateL listed i 0 ops.toList [])=true->arr.getD j false=false:=fun j hj=>by
    by_cases hjl:j<ops.size
    ·rw[hrel.getD_false hjl];exact hlun j hj
    ·rw[Array.getD_eq_getD_getElem?,Array.getElem?_eq_none (by rw[hrel.1];omega)];rfl
   have hfree:∀j oj,ops[j]? =some oj->j≠i->arr.getD j true=false->¬inL j (lateL listed i 0 ops.toList [])=true->
     o.apart ops oj=true/\∀w w',(quietAt c rid ops j=true->Held b0 st0 lw hold w->Held b0 st0 lw hold w')->(isLoad o=true->Held b0 st0 lw hold w)->(isLoad o=true->Held b0 st0 lw hold w'):=by
    intro j oj hj hne hun hno
    have hs:=hspec j oj hj hne
    have hjl:j<ops.size:=(Array.getElem?_eq_some_iff.1 hj).1
    have hul:inL j listed=false:=by rw[<-hrel.2 j hjl];exact hun
    split at hs
    ·exact absurd hs.2 hno
    ·rename_i e
     rw[hul]at hs
     refine⟨(hs.resolve_left (by simp)).resolve_left hno,fun w w' hk hS hl=> ?_⟩
     have:quietAt c rid ops j=true:=by
      unfold quietAt
      rw[hj]
      simp only
      rw[hl]at e
      simpa using e
     exact hk this (hS hl)
   have hload:isLoad o=true->Held b0 st0 lw hold w/\∀l∈hold,b l=b0 l/\∀x',getBox st.boxes l=some x'->∃x,getBox st0.boxes l=some x/\x.cells=x'.cells/\x.ty=x'.ty:=fun hl=>hst fun j hj=>by
    unfold quietAt
    split
    ·rename_i oj hoj
     by_cases hne:j=i
     ·subst hne
      rw[hi]at hoj
      cases hoj
      have:=(mem_ready.1 hready).1
      rw[hrel.2 j hlt,inL_iff.2 hj]at this
      cases this
     ·have hs:=hspec j oj hoj hne
      cases hqt:quietly (modeOf c.mode rid j) oj with
      |true=>rfl
      |false=>
       rw[hl,hqt]at hs
       simp only[Bool.not_false,Bool.and_self]at hs
       rw[inL_iff.2 hj]at hs
       cases hs.1
    ·rfl
   have still':∀st'',st''.boxes=st'.boxes->Still c rid ops b0 st0 lw hold (i::listed) b st'' w:=fun st'' e hall=>by
    rw[e,hbx]
    exact hst fun j hj=>hall j (by simp[hj])
   have ey:yielded ops (act T).tmps=yielded ops T:=rfl
   cases hw:Region.wanted o (yielded ops T)with
   |true=>
    rw[hw]at h
    simp only at h
    have hv:=value_sound (Ok:=fun w=>isLoad o=true->Held b0 st0 lw hold w) (lw:=lw) (hold:=some hold) (b:=b) (fun hl w1 hw1=>by
     have hH:=hw1 hl
     refine⟨fun l x hm hx=> ?_,fun v hv a u hu=>hH.2 v hv a u hu⟩
     have hlh:l∈hold:=inL_iff.1 hm
     rw[hbx]at hx
     obtain⟨e1,e2⟩:=(hload hl).2 l hlh
     obtain⟨y,hy,f1,f2⟩:=e2 x hx
     rw[e1,<-f1,<-f2]
     exact hH.1 l hlh y hy) inv'.env (fun cs q=>hsel i o cs q hi) h
    obtain⟨x,hp,hrun⟩:=hv
    obtain⟨st'',hK,inv'',e,hb⟩:=put_sound inv' (v:=x.den b) rfl hp
    refine AnyS.first (S':=fun w=>isLoad o=true->Held b0 st0 lw hold w) hi hsel (fun ch a w hp=>absurd hp (hQ _ _ _)) hlate n arr (act T) w hfree hun0 hready (.inl ⟨by rw[ey];exact hw,fun w1 hw1=>hrun w1 hw1⟩) (fun hl=>(hload hl).1) ?_
    rw[e]
    exact ih (i::listed) _ b st'' _ w (hrel.cons i) inv'' (still' st'' hb) hK
   |false=>
    rw[hw]at h
    simp only at h
    obtain⟨st'',hK,inv'',e,hb⟩:=put_sound inv' (v:=undef) rfl h
    refine AnyS.first (S':=fun w=>isLoad o=true->Held b0 st0 lw hold w) hi hsel (fun ch a w hp=>absurd hp (hQ _ _ _)) hlate n arr (act T) w hfree hun0 hready (.inr ⟨by rw[ey];exact hw,rfl⟩) (fun hl=>(hload hl).1) ?_
    rw[e]
    exact ih (i::listed) _ b st'' _ w (hrel.cons i) inv'' (still' st'' hb) hK
  |none=>
   simp only[hf]at h
   refine⟨fun hnil=> ?_,fun i hi=> ?_⟩
   ·have he:readyL listed 0 ops.toList=[]:=List.eq_nil_iff_forall_not_mem.2 fun j hj=>by
     have:=((hmem j).1 hj).2
     rw[hnil]at this
     cases this
    rw[he]at h
    exact hq _ _ _ _ h inv
   ·have him:=(hmem i).2 ⟨Nat.zero_le _,hi⟩
    have h:=allOf_mem h (fun e=>by rw[e]at him;cases him) i him
    obtain⟨_,o,ho,_⟩:=mem_ready.1 hi
    have ho':ops.toList[i]? =some o:=by simpa using ho
    simp only[ho']at h
    refine oneOp_sound (fun cs q=>hsel i o cs q ho) inv h ho fun b' st' T' w' hK inv' hkept=> ?_
    have hqa:quietAt c rid ops i=quietly (modeOf c.mode rid i) o:=by unfold quietAt;rw[ho]
    refine⟨fun hqt hS=> ?_,ih (i::listed) _ b' st' T' w' (hrel.cons i) inv' (fun hall=> ?_) hK⟩
    ·exact hS.keep (hkept (by rw[<-hqa];exact hqt)).2.1
    ·obtain⟨k1,k2,k3⟩:=hkept (by rw[<-hqa];exact hall i (by simp))
     obtain⟨hS,hB⟩:=hst fun j hj=>hall j (by simp[hj])
     refine⟨hS.keep k2,fun l hl=> ?_⟩
     obtain⟨e1,e2⟩:=k3 l (fun hn=>hnew l hl i o ho hn)
     obtain⟨g1,g2⟩:=hB l hl
     refine⟨e1.trans g1,fun x' hx'=> ?_⟩
     obtain⟨y,hy,f1,f2⟩:=e2 x' hx'
     obtain⟨z,hz,h1,h2⟩:=g2 y hy
     exact⟨z,hz,h1.trans f1,h2.trans f2⟩
end

section
variable {c:Cx}

theorem readyL_iff{ops:Array Oper}(hon:∀(j:Nat) o,ops[j]? =some o->∀e∈o.after,Region.binds .any e=true->e.on<ops.size)(L:List Nat)(i:Nat):
  i∈readyL L 0 ops.toList↔inL i L=false/\∃o,ops[i]? =some o/\∀e∈o.after,Region.binds .any e=true->inL e.on L=true:=by
 have hrel:Rel ops L (Array.ofFn (n:=ops.size) fun j=>inL j.1 L):=⟨by simp,fun j hj=>by simp[hj]⟩
 rw[readyL_mem hrel hon ops.toList 0 (fun k=>by simp) i]
 constructor
 ·rintro⟨_,h⟩
  obtain⟨h0,o,ho,hall⟩:=mem_ready.1 h
  have hi:=(Array.getElem?_eq_some_iff.1 ho).1
  rw[hrel.2 i hi]at h0
  exact⟨h0,o,ho,fun e he hb=>by have:=hall e he hb;rwa [hrel.getD_false (hon i o ho e he hb)]at this⟩
 ·rintro⟨h0,o,ho,hall⟩
  have hi:=(Array.getElem?_eq_some_iff.1 ho).1
  refine⟨Nat.zero_le _,mem_ready.2 ⟨by rw[hrel.2 i hi];exact h0,o,ho,fun e he hb=> ?_⟩⟩
  rw[hrel.getD_false (hon i o ho e he hb)]
  exact hall e he hb
theorem inL_join{j:Nat}:∀{a l:List Nat},inL j (join2 a l)=true↔j∈a∨inL j l=true:=by
 intro a
 induction a with
 |nil=>intro l;simp[join2]
 |cons x r ih=>intro l;rw[join2,inL_iff,List.mem_cons,<-inL_iff,ih,List.mem_cons,or_assoc]
theorem mem_waited{o:Oper}{b:Bool}{f:Nat}:∀{fl:List Nat},f∈waited o b fl↔f∈fl/\waitsOn o f=b:=by
 intro fl
 induction fl with
 |nil=>simp[waited]
 |cons x r ih=>
  rw[waited]
  have hs:sameB (waitsOn o x) b=true↔waitsOn o x=b:=by cases waitsOn o x<;>cases b<;>simp[sameB]
  cases h:sameB (waitsOn o x) b with
  |true=>
   simp only[List.mem_cons,ih]
   have:=hs.1 h
   constructor
   ·rintro(rfl|⟨h1,h2⟩)
    ·exact⟨.inl rfl,this⟩
    ·exact⟨.inr h1,h2⟩
   ·rintro⟨rfl|h1,h2⟩
    ·exact .inl rfl
    ·exact .inr ⟨h1,h2⟩
  |false=>
   have hn:¬waitsOn o x=b:=fun k=>by rw[hs.2 k]at h;cases h
   simp only[ih,List.mem_cons]
   constructor
   ·rintro⟨h1,h2⟩;exact⟨.inr h1,h2⟩
   ·rintro⟨rfl|h1,h2⟩
    ·exact absurd h2 hn
    ·exact⟨h1,h2⟩
theorem waited_nodup{o:Oper}{b:Bool}:∀{fl:List Nat},fl.Nodup->(waited o b fl).Nodup:=by
 intro fl
 induction fl with
 |nil=>intro _;exact List.nodup_nil
 |cons x r ih=>
  intro h
  obtain⟨h1,h2⟩:=List.nodup_cons.1 h
  rw[waited]
  split
  ·exact List.nodup_cons.2 ⟨fun k=>h1 (mem_waited.1 k).1,ih h2⟩
  ·exact ih h2
theorem waitsOn_spec{o:Oper}{f:Nat}:waitsOn o f=true↔∃e∈o.after,Region.binds .any e=true/\e.on=f:=by
 unfold waitsOn
 rw[List.any_eq_true]
 constructor
 ·rintro⟨e,he,h⟩
  rw[Bool.and_eq_true]at h
  exact⟨e,by simpa using he,h.1,beq_true h.2⟩
 ·rintro⟨e,he,hb,rfl⟩
  exact⟨e,by simpa using he,by rw[Bool.and_eq_true];exact⟨hb,Nat.beq_refl _⟩⟩

theorem otherDst_spec{l f:Nat}:∀{ops:List Oper} {j0:Nat},otherDst l f j0 ops=true->∀k o,ops[k]? =some o->j0+k≠f->o.dst≠some l:=by
 intro ops
 induction ops with
 |nil=>intro j0 _ k o hk;simp at hk
 |cons x r ih=>
  intro j0 h k o hk hne
  simp only[otherDst,Bool.and_eq_true]at h
  cases k with
  |zero=>
   simp at hk
   subst hk
   intro hd
   have h1:=h.1
   rw[hd,Bool.or_eq_true]at h1
   rcases h1 with h1|h1
   ·exact hne (beq_true h1)
   ·simp at h1
  |succ k=>exact ih h.2 k o (by simpa using hk) (by omega)

structure FlOp (c:Cx) (ops:Array Oper) (f:Nat) (o:Oper) (t:Nat) (cells:List Value):Prop where
 ho:ops[f]? =some o
 op:o.op= .alloc t
 dst:o.dst=some (dstOf ops f)
 guard:o.guard=none
 zero:zeroCells c.P t=some cells
 lt:dstOf ops f<c.N
 other:∀j o',ops[j]? =some o'->j≠f->o'.dst≠some (dstOf ops f)
 free:∀e∈o.after,Region.binds .any e=false
theorem isFl_spec{rid:Nat}{ops:Array Oper}{f:Nat}(h:isFl c rid ops f=true):∃o t cells,FlOp c ops f o t cells/\modeOf c.mode rid f=0:=by
 unfold isFl at h
 cases ho:ops.toList[f]? with
 |none=>simp[ho]at h
 |some o=>
  simp only[ho,Bool.and_eq_true]at h
  obtain⟨⟨h1,h2⟩,h3⟩:=h
  cases hop:o.op<;>simp only[hop]at h1<;>try cases h1
  rename_i t
  cases hd:o.dst with
  |none=>simp[hd]at h1
  |some l=>
   cases hg:o.guard with
   |some g=>simp[hd,hg]at h1
   |none=>
    simp only[hd,hg,Bool.and_eq_true]at h1
    cases hz:zeroCells c.P t with
    |none=>simp[hz]at h1
    |some cells=>
     have hdo:dstOf ops f=l:=by unfold dstOf;rw[ho];simp[hd]
     refine⟨o,t,cells,⟨by simpa using ho,hop,by rw[hdo];exact hd,hg,hz,?_,fun j o' hj hne=> ?_,fun e he=> ?_⟩,beq_true h2⟩
     ·rw[hdo];simpa[Nat.blt_eq]using h1.1.2
     ·rw[hdo];exact otherDst_spec h1.2 j o' (by simpa using hj) (by omega)
     ·have:=List.all_eq_true.1 h3 e (by simpa using he)
      simpa using this
theorem findFl_spec{rid:Nat}{ops:Array Oper}{fl:List Nat}:∀{l:List Nat} {f:Nat},findFl c rid ops fl l=some f->f∈l/\f∉fl/\isFl c rid ops f=true:=by
 intro l
 induction l with
 |nil=>intro f h;simp[findFl]at h
 |cons x r ih=>
  intro f h
  simp only[findFl]at h
  cases hc:(!inL x fl&&isFl c rid ops x)with
  |true=>
   rw[hc]at h
   cases h
   simp only[Bool.and_eq_true,Bool.not_eq_true']at hc
   exact⟨by simp,fun k=>(by rw[inL_iff.2 k]at hc;cases hc.1),hc.2⟩
  |false=>
   rw[hc]at h
   obtain⟨h1,h2⟩:=ih h
   exact⟨by simp[h1],h2⟩

structure FlAt (c:Cx) (ops:Array Oper) (b:Nat->Nat) (st:St) (T:Array Value) (wa:World) (f a:Nat):Prop where
 tmp:T[dstOf ops f]? =some (.pointer (some ⟨a,0,none⟩))
 lo:c.B<=a
 heap:∀o t cells,FlOp c ops f o t cells->wa.heap[a]? =some (.cells cells.toArray t (0,0))
 ne:∀m x,getBox st.boxes m=some x->b m≠a

theorem FlOp.uniq{ops:Array Oper}{f:Nat}{o o':Oper}{t t':Nat}{cells cells':List Value}(h:FlOp c ops f o t cells)(k:FlOp c ops f o' t' cells'):o=o'/\t=t'/\cells=cells':=by
 have e:o=o':=by have:=h.ho.symm.trans k.ho;cases this;rfl
 subst e
 have e:t=t':=by have:=h.op.symm.trans k.op;cases this;rfl
 subst e
 have:=h.zero.symm.trans k.zero
 cases this
 exact⟨rfl,rfl,rfl⟩
theorem FlOp.inj{ops:Array Oper}{f g:Nat}{o o':Oper}{t t':Nat}{cells cells':List Value}(h:FlOp c ops f o t cells)(k:FlOp c ops g o' t' cells')(hne:f≠g):dstOf ops f≠dstOf ops g:=by
 intro e
 exact h.other g o' k.ho (Ne.symm hne) (by rw[k.dst,e])

theorem landed_inv{b:Nat->Nat}{st:St}{T:Array Value}{wa:World}{ops:Array Oper}{f a:Nat}{o:Oper}{t:Nat}{cells:List Value}(inv:Inv c b st T wa)(hf:FlOp c ops f o t cells)(h:FlAt c ops b st T wa f a):
  Inv c (fun m=>if m=dstOf ops f then a else b m) (landed st (dstOf ops f) t cells) T wa:=by
 refine⟨inv.size,fun s x hs=> ?_,⟨fun m x hm=> ?_,fun m n x y hm hn hne=> ?_⟩,inv.lo,inv.ext,fun m x hm hn=> ?_,inv.base⟩
 ·simp only[landed,get_cons,get_drop]at hs
  by_cases e:dstOf ops f=s
  ·rw[if_pos e]at hs
   cases hs
   subst e
   rw[h.tmp]
   simp[SV.den]
  ·rw[if_neg e,if_neg (Ne.symm e)]at hs
   obtain⟨h1,h2⟩:=get_dropLoc hs
   rw[inv.env s x h1]
   cases x<;>simp only[SV.den]
   rename_i k off
   have:k≠dstOf ops f:=beq_false h2
   simp[this]
 ·simp only[landed,getBox_cons,getBox_drop]at hm
  by_cases e:dstOf ops f=m
  ·rw[if_pos e]at hm
   cases hm
   subst e
   simp only[if_true]
   exact⟨h.lo,h.heap o t cells hf⟩
  ·rw[if_neg e,if_neg (Ne.symm e)]at hm
   simp only[if_neg (Ne.symm e)]
   exact inv.box.at_ m x hm
 ·simp only[landed,getBox_cons,getBox_drop]at hm hn
  by_cases e:dstOf ops f=m
  ·by_cases e':dstOf ops f=n
   ·exact absurd (e.symm.trans e') hne
   ·rw[if_neg e',if_neg (Ne.symm e')]at hn
    rw[if_pos e.symm,if_neg (Ne.symm e')]
    exact fun k=>h.ne n y hn k.symm
  ·rw[if_neg e,if_neg (Ne.symm e)]at hm
   by_cases e':dstOf ops f=n
   ·rw[if_neg (Ne.symm e),if_pos e'.symm]
    exact h.ne m x hm
   ·rw[if_neg e',if_neg (Ne.symm e')]at hn
    rw[if_neg (Ne.symm e),if_neg (Ne.symm e')]
    exact inv.box.ne m n x y hm hn hne
 ·simp only[landed,getBox_cons,getBox_drop]at hm
  by_cases e:dstOf ops f=m
  ·rw[if_pos e]at hm
   cases hm
   cases hn
  ·rw[if_neg e,if_neg (Ne.symm e)]at hm
   rw[if_neg (Ne.symm e)]
   exact inv.new m x hm hn

theorem landAll_sound{T:Array Value}{wa:World}{ops:Array Oper}{K:St->Prop}{a:Nat->Nat}:∀(fl:List Nat)(b:Nat->Nat)(st:St),Inv c b st T wa->fl.Nodup->(∀f∈fl,∃o t cells,FlOp c ops f o t cells)->
  (∀f∈fl,FlAt c ops b st T wa f (a f))->(∀f∈fl,∀g∈fl,f≠g->a f≠a g)->landAll c ops fl st K->
  ∃b' st',K st'/\Inv c b' st' T wa/\(∀m,(∀f∈fl,m≠dstOf ops f)->b' m=b m)/\(∀m x,getBox st'.boxes m=some x->(∃f∈fl,m=dstOf ops f/\b' m=a f)∨(getBox st.boxes m=some x/\b' m=b m))/\(∀s,get st.env s=none->(∀f∈fl,s≠dstOf ops f)->get st'.env s=none)/\st'.d=st.d:=by
 intro fl
 induction fl with
 |nil=>intro b st inv _ _ _ _ h;exact⟨b,st,h,inv,fun _ _=>rfl,fun m x hx=> .inr ⟨hx,rfl⟩,fun s hs _=>hs,rfl⟩
 |cons f r ih=>
  intro b st inv hnd hop hat hne h
  obtain⟨hn1,hn2⟩:=List.nodup_cons.1 hnd
  obtain⟨o,t,cells,hf⟩:=hop f (by simp)
  have ho:ops.toList[f]? =some o:=by simpa using hf.ho
  rw[landAll]at h
  simp only[ho,hf.op,hf.dst,hf.zero]at h
  have inv':=landed_inv inv hf (hat f (by simp))
  have hat':∀g∈r,FlAt c ops (fun m=>if m=dstOf ops f then a f else b m) (landed st (dstOf ops f) t cells) T wa g (a g):=fun g hg=>by
   have hg':=hat g (by simp[hg])
   obtain⟨o',t',cells',hfg⟩:=hop g (by simp[hg])
   have hfne:f≠g:=fun e=>hn1 (e▸hg)
   refine⟨hg'.tmp,hg'.lo,hg'.heap,fun m x hm=> ?_⟩
   simp only[landed,getBox_cons,getBox_drop]at hm
   by_cases k:dstOf ops f=m
   ·rw[if_pos k.symm]
    exact hne f (by simp) g (by simp[hg]) hfne
   ·rw[if_neg k,if_neg (Ne.symm k)]at hm
    rw[if_neg (Ne.symm k)]
    exact hg'.ne m x hm
  obtain⟨b',st',hK,inv'',h1,h2,h3,h4⟩:=ih _ _ inv' hn2 (fun g hg=>hop g (by simp[hg])) hat' (fun g hg g' hg'=>hne g (by simp[hg]) g' (by simp[hg'])) h
  refine⟨b',st',hK,inv'',fun m hm=> ?_,fun m x hx=> ?_,fun s hs hsf=> ?_,h4⟩
  ·rw[h1 m fun g hg=>hm g (by simp[hg]),if_neg (hm f (by simp))]
  ·rcases h2 m x hx with⟨g,hg,e1,e2⟩|⟨hm,e⟩
   ·exact .inl ⟨g,by simp[hg],e1,e2⟩
   ·simp only[landed,getBox_cons,getBox_drop]at hm
    by_cases k:dstOf ops f=m
    ·rw[if_pos k.symm]at e
     exact .inl ⟨f,by simp,k.symm,e⟩
    ·rw[if_neg k,if_neg (Ne.symm k)]at hm
     rw[if_neg (Ne.symm k)]at e
     exact .inr ⟨hm,e⟩
  ·refine h3 s ?_ fun g hg=>hsf g (by simp[hg])
   simp only[landed,get_cons,get_drop]
   have hsf0:=hsf f (by simp)
   rw[if_neg (Ne.symm hsf0),if_neg hsf0]
   cases hx:get (dropLoc st.env (dstOf ops f)) s with
   |none=>rfl
   |some y=>have:=(get_dropLoc hx).1;rw[hs]at this;cases this

theorem put_other{T:Array Value}{d:Option Tmp}{v:Value}{s:Nat}(h:d≠some s):((act T).put d v).tmps[s]? =T[s]? :=by
 cases d with
 |none=>rfl
 |some l=>
  have:l≠s:=fun e=>h (by rw[e])
  simp only[Act.put,act]
  rw[Array.getElem?_setIfInBounds_ne this]
theorem oneOp_soundT{b:Nat->Nat}{st:St}{T:Array Value}{wa:World}{o:Oper}{rid i:Nat}{ops:Array Oper}{Q:Exit->Act->World->Prop}{nx:Act->World->Prop}{K:St->Prop}(hs:∀cs q,o.op≠ .select cs q)(inv:Inv c b st T wa)(h:oneOp c rid ops i o st K)
  (hi:ops[i]? =some o) (hn:∀b' st' T' w',K st'->Inv c b' st' T' w'->(quietly (modeOf c.mode rid i) o=true->Kept o b st wa b' st' w')->(∀s,o.dst≠some s->T'[s]? =T[s]?)->nx (act T') w'):wpOp c.P ops Q i nx (act T) wa:=by
 unfold oneOp at h
 obtain⟨st',h,inv',hbx⟩:=guarded_sound inv h
 unfold wpOp
 simp only[hi]
 have ey:yielded ops (act T).tmps=yielded ops T:=rfl
 rw[ey]
 cases hw:Region.wanted o (yielded ops T)with
 |true=>
  rw[hw]at h
  simp only[if_true]
  refine .inl (opRun_sound hs inv' h _ _ fun v w' ⟨b',x,st1,hp,hv,inv1,hk⟩=> ?_)
  obtain⟨st'',hK,inv'',e,hb⟩:=put_sound inv1 hv hp
  rw[e]
  refine hn _ _ _ _ hK inv'' (fun hq=> ?_) fun s hd=>put_other hd
  obtain⟨k1,k2,k3⟩:=hk hq
  exact⟨k1,k2,fun l hl=>by rw[hb,<-hbx];exact k3 l hl⟩
 |false=>
  rw[hw]at h
  simp only[Bool.false_eq_true,if_false]
  obtain⟨st'',hK,inv'',e,hb⟩:=put_sound inv' (v:=undef) rfl h
  rw[e]
  exact hn _ _ _ _ hK inv'' (fun _=>Same.kept (fun l x hx=>by rw[hb,hbx]at hx;exact⟨x,hx,rfl,rfl⟩) _ _ _ _ (Nat.le_refl _) fun _ _=>rfl) fun s hd=>put_other hd

structure FlInv (c:Cx) (ops:Array Oper) (b:Nat->Nat) (st:St) (T:Array Value) (wa:World) (arr:Array Bool) (fl:List Nat) (a:Nat->Nat):Prop where
 op:∀f∈fl,∃o t cells,FlOp c ops f o t cells
 nodup:fl.Nodup
 env:∀f∈fl,get st.env (dstOf ops f)=none
 at_:∀f∈fl,arr.getD f true=true->FlAt c ops b st T wa f (a f)
 ne:∀f∈fl,∀g∈fl,f≠g->arr.getD f true=true->arr.getD g true=true->a f≠a g
 d:fl≠[]->st.d≠none
structure RelF (ops:Array Oper) (listed fl:List Nat) (arr:Array Bool):Prop where
 size:arr.size=ops.size
 lis:∀j,j<ops.size->inL j listed=true->arr.getD j true=true
 arr:∀j,j<ops.size->arr.getD j true=true->inL j listed=true∨j∈fl
 dis:∀f∈fl,inL f listed=false
def unex(arr:Array Bool):List Nat->Nat
 |[]=>0
 |f::r=>(if arr.getD f true=true then 0 else 1)+unex arr r

theorem unex_zero{arr:Array Bool}:∀{fl:List Nat},unex arr fl=0↔∀f∈fl,arr.getD f true=true:=by
 intro fl
 induction fl with
 |nil=>simp[unex]
 |cons x r ih=>
  rw[unex,Nat.add_eq_zero_iff,ih]
  constructor
  ·rintro⟨h1,h2⟩ f hf
   rcases List.mem_cons.1 hf with rfl|hf
   ·apply Decidable.byContradiction
    intro k
    rw[if_neg k]at h1
    cases h1
   ·exact h2 f hf
  ·intro h
   exact⟨by rw[if_pos (h x (by simp))],fun f hf=>h f (by simp[hf])⟩
theorem unex_set{arr:Array Bool}{i:Nat}(hi:i<arr.size)(h0:arr.getD i true=false):∀{fl:List Nat},fl.Nodup->i∈fl->unex arr fl=unex (arr.setIfInBounds i true) fl+1:=by
 have other:∀{fl:List Nat},i∉fl->unex (arr.setIfInBounds i true) fl=unex arr fl:=by
  intro fl
  induction fl with
  |nil=>intro _;rfl
  |cons x r ih=>
   intro h
   have hx:i≠x:=fun e=>h (by simp[e])
   rw[unex,unex,getD_set_ne true hx,ih fun k=>h (by simp[k])]
 intro fl
 induction fl with
 |nil=>intro _ h;cases h
 |cons x r ih=>
  intro hnd h
  obtain⟨h1,h2⟩:=List.nodup_cons.1 hnd
  rw[unex,unex]
  by_cases e:i=x
  ·subst e
   rw[other h1,h0,if_neg (by simp),if_pos (by simp[hi])]
   omega
  ·rw[getD_set_ne true e,ih h2 (by simpa[e]using h)]
   omega
theorem unex_congr{arr arr':Array Bool}:∀{fl:List Nat},(∀f∈fl,arr.getD f true=arr'.getD f true)->unex arr fl=unex arr' fl:=by
 intro fl
 induction fl with
 |nil=>intro _;rfl
 |cons x r ih=>intro h;rw[unex,unex,h x (by simp),ih fun f hf=>h f (by simp[hf])]
theorem unex_waited{arr:Array Bool}{o:Oper}:∀{fl:List Nat},(∀f∈waited o true fl,arr.getD f true=true)->unex arr (waited o false fl)=unex arr fl:=by
 intro fl
 induction fl with
 |nil=>intro _;rfl
 |cons x r ih=>
  intro h
  cases hw:waitsOn o x with
  |true=>
   have h1:waited o true (x::r)=x::waited o true r:=by rw[waited,hw];rfl
   have h2:waited o false (x::r)=waited o false r:=by rw[waited,hw];rfl
   rw[h1]at h
   rw[h2,unex,if_pos (h x (by simp)),ih fun f hf=>h f (by simp[hf])]
   omega
  |false=>
   have h1:waited o true (x::r)=waited o true r:=by rw[waited,hw];rfl
   have h2:waited o false (x::r)=x::waited o false r:=by rw[waited,hw];rfl
   rw[h1]at h
   rw[h2,unex,unex,ih h]

theorem float_step{b:Nat->Nat}{st:St}{T:Array Value}{wa:World}{ops:Array Oper}{arr:Array Bool}{fl:List Nat}{a:Nat->Nat}{Q:Exit->Act->World->Prop}{nx:Act->World->Prop}{i:Nat}(hsz:arr.size=ops.size)(hi:i∈fl)(h0:arr.getD i true=false)
  (inv:Inv c b st T wa) (fi:FlInv c ops b st T wa arr fl a)
  (hn:∀a' T' w',(∀k,k<wa.heap.size->w'.heap[k]? =wa.heap[k]?)->Inv c b st T' w'->FlInv c ops b st T' w' (arr.setIfInBounds i true) fl a'->nx (act T') w'):wpOp c.P ops Q i nx (act T) wa:=by
 obtain⟨o,t,cells,hf⟩:=fi.op i hi
 have hil:i<arr.size:=by rw[hsz];exact(Array.getElem?_eq_some_iff.1 hf.ho).1
 have hz:=hf.zero
 unfold zeroCells at hz
 obtain⟨z,hz1,rfl⟩:=Option.map_eq_some_iff.1 hz
 obtain⟨inf,hinf,hz2⟩:=Option.bind_eq_some_iff.1 hz1
 unfold wpOp
 simp only[hf.ho]
 have hw:Region.wanted o (yielded ops (act T).tmps)=true:=by unfold Region.wanted;rw[hf.guard]
 rw[hw]
 simp only[if_true]
 refine .inl ?_
 unfold Oper.wp
 have hrun:(execOp (act T).eval o).run c.P wa= .ok (.value (.pointer (some ⟨wa.heap.size,0,none⟩))) (wa.alloc (.cells z.cells t)):=by
  simp[execOp,hf.op,Instr.alloc,zeroValue,typeInfo,program,Sem.run_bind,Sem.run,hinf,hz2,newVar,newRow,newObj]
 rw[hrun]
 have hT:=inv.size
 have hl:=hf.lt
 have hkeep:∀k,k<wa.heap.size->(wa.alloc (.cells z.cells t)).heap[k]? =wa.heap[k]? :=fun k hk=>Below.heap_alloc wa _ _ hk
 have hnew:(wa.alloc (.cells z.cells t)).heap[wa.heap.size]? =some (.cells z.cells t):=by
  show(wa.heap.push _)[wa.heap.size]? =_
  simp
 have hdn:st.d≠none:=fi.d (fun e=>by rw[e]at hi;cases hi)
 have hlo:c.B<=wa.heap.size:=Nat.le_trans inv.lo inv.extSome.below.size
 have hlt:∀m x,getBox st.boxes m=some x->b m<wa.heap.size:=fun m x hm=>(Array.getElem?_eq_some_iff.1 (inv.box.at_ m x hm).2).1
 have ea:(act T).put o.dst (.pointer (some ⟨wa.heap.size,0,none⟩))=act (T.setIfInBounds (dstOf ops i) (.pointer (some ⟨wa.heap.size,0,none⟩))):=by rw[hf.dst];rfl
 show nx ((act T).put o.dst (.pointer (some ⟨wa.heap.size,0,none⟩))) (wa.alloc (.cells z.cells t))
 rw[ea]
 refine hn (fun x=>if x=i then wa.heap.size else a x) _ _ hkeep ?_ ?_
 ·refine⟨by simp[hT],fun s x hs=> ?_,⟨fun m x hm=> ?_,inv.box.ne⟩,inv.lo,?_,inv.new,inv.base.alloc hlo _⟩
  ·have hsl:dstOf ops i≠s:=fun e=>by rw[<-e,fi.env i hi]at hs;cases hs
   rw[Array.getElem?_setIfInBounds_ne hsl]
   exact inv.env s x hs
  ·have:=inv.box.at_ m x hm
   refine⟨this.1,?_⟩
   rw[hkeep _ (hlt m x hm)]
   exact this.2
  ·have hx:=inv.ext
   cases hd:st.d with
   |none=>exact absurd hd hdn
   |some ts=>
    rw[hd]at hx
    simp only at hx⊢
    refine⟨hx.below.alloc hlo _,fun k hk=> ?_⟩
    rw[hkeep k (Nat.lt_of_lt_of_le hk hx.below.size)]
    exact hx.other k hk
 ·have hold:∀g∈fl,g≠i->(arr.setIfInBounds i true).getD g true=true->FlAt c ops b st T wa g (a g):=fun g hg hne hx=>fi.at_ g hg (by rw[getD_set_ne true (Ne.symm hne)]at hx;exact hx)
  have hlt2:∀g∈fl,g≠i->(arr.setIfInBounds i true).getD g true=true->a g<wa.heap.size:=fun g hg hne hx=>by
   obtain⟨o',t',cells',hg'⟩:=fi.op g hg
   exact(Array.getElem?_eq_some_iff.1 ((hold g hg hne hx).heap o' t' cells' hg')).1
  refine⟨fi.op,fi.nodup,fi.env,fun g hg hx=> ?_,fun f hf' g hg hne hx hy=> ?_,fi.d⟩
  ·by_cases e:g=i
   ·subst e
    rw[if_pos rfl]
    refine⟨by rw[Array.getElem?_setIfInBounds_self_of_lt (by rw[hT];exact hl)],hlo,fun o' t' cells' hk=> ?_,fun m x hm=>Nat.ne_of_lt (hlt m x hm)⟩
    obtain⟨_,e2,e3⟩:=hf.uniq hk
    subst e2
    rw[hnew,<-e3]
   ·rw[if_neg e]
    obtain⟨o',t',cells',hg'⟩:=fi.op g hg
    have hk:=hold g hg e hx
    refine⟨?_,hk.lo,fun o2 t2 c2 h2=> ?_,hk.ne⟩
    ·rw[Array.getElem?_setIfInBounds_ne (hf.inj hg' (Ne.symm e))]
     exact hk.tmp
    ·rw[hkeep _ (hlt2 g hg e hx)]
     exact hk.heap o2 t2 c2 h2
  ·by_cases e:f=i
   ·rw[if_pos e]
    have:g≠i:=fun k=>hne (e.trans k.symm)
    rw[if_neg this]
    exact(Nat.ne_of_lt (hlt2 g hg this hy)).symm
   ·rw[if_neg e]
    by_cases e':g=i
    ·rw[if_pos e']
     exact Nat.ne_of_lt (hlt2 f hf' e hx)
    ·rw[if_neg e']
     exact fi.ne f hf' g hg hne (by rw[getD_set_ne true (Ne.symm e)]at hx;exact hx) (by rw[getD_set_ne true (Ne.symm e')]at hy;exact hy)

theorem clean_spec{ops:Array Oper}:∀(fl:List Nat)(st:St),(clean ops fl st).boxes=st.boxes/\(clean ops fl st).w=st.w/\(clean ops fl st).d=st.d/\(∀f∈fl,get (clean ops fl st).env (dstOf ops f)=none)/\∀s x,get (clean ops fl st).env s=some x->get st.env s=some x:=by
 intro fl
 induction fl with
 |nil=>intro st;exact⟨rfl,rfl,rfl,fun f hf=>(by cases hf),fun s x h=>h⟩
 |cons f r ih=>
  intro st
  obtain⟨h1,h2,h3,h4,h5⟩:=ih {st with env:=drop st.env (dstOf ops f)}
  rw[clean]
  refine⟨h1,h2,h3,fun g hg=> ?_,fun s x hs=> ?_⟩
  ·rcases List.mem_cons.1 hg with rfl|hg
   ·cases hx:get (clean ops r {st with env:=drop st.env (dstOf ops g)}).env (dstOf ops g)with
    |none=>rfl
    |some y=>
     have:=h5 _ _ hx
     simp only[get_drop,if_true]at this
     cases this
   ·exact h4 g hg
  ·have:=h5 s x hs
   simp only[get_drop]at this
   split at this
   ·cases this
   ·exact this
theorem clean_inv{b:Nat->Nat}{st:St}{T:Array Value}{wa:World}{ops:Array Oper}(inv:Inv c b st T wa)(fl:List Nat):Inv c b (clean ops fl st) T wa:=by
 obtain⟨h1,h2,h3,_,h5⟩:=clean_spec (ops:=ops) fl st
 exact⟨inv.size,fun s x hs=>inv.env s x (h5 s x hs),by rw[h1];exact inv.box,by rw[h2];exact inv.lo,by rw[h2,h3];exact inv.ext,by rw[h1,h2];exact inv.new,inv.base⟩
theorem moved_inv{b:Nat->Nat}{st:St}{T:Array Value}{wa:World}(inv:Inv c b st T wa):Inv c b st.moved T wa:=
 ⟨inv.size,inv.env,inv.box,inv.lo,inv.extSome,inv.new,inv.base⟩
theorem tidy_spec{b:Nat->Nat}{st:St}{T:Array Value}{wa:World}{ops:Array Oper}(inv:Inv c b st T wa)(fl:List Nat):
  Inv c b (tidy ops fl st) T wa/\(tidy ops fl st).boxes=st.boxes/\(∀f∈fl,get (tidy ops fl st).env (dstOf ops f)=none)/\(fl≠[]->(tidy ops fl st).d≠none):=by
 cases fl with
 |nil=>exact⟨inv,rfl,fun f hf=>(by cases hf),fun h=>absurd rfl h⟩
 |cons f r=>
  obtain⟨h1,_,_,h4,_⟩:=clean_spec (ops:=ops) (f::r) st
  exact⟨moved_inv (clean_inv inv _),h1,h4,fun _ k=>by cases k⟩
theorem FlInv.again{b:Nat->Nat}{st st2:St}{T T2:Array Value}{wa:World}{ops:Array Oper}{arr arr2:Array Bool}{fl:List Nat}{a:Nat->Nat}(fi:FlInv c ops b st T wa arr fl a)(hT:∀f∈fl,T2[dstOf ops f]? =T[dstOf ops f]?)(hbox:st2.boxes=st.boxes)
  (henv:∀f∈fl,get st2.env (dstOf ops f)=none) (hd:fl≠[]->st2.d≠none) (harr:∀f∈fl,arr2.getD f true=arr.getD f true):FlInv c ops b st2 T2 wa arr2 fl a:=by
 refine⟨fi.op,fi.nodup,henv,fun f hf hx=> ?_,fun f hf g hg hne hx hy=>fi.ne f hf g hg hne (by rw[<-harr f hf];exact hx) (by rw[<-harr g hg];exact hy),hd⟩
 have:=fi.at_ f hf (by rw[<-harr f hf];exact hx)
 exact⟨by rw[hT f hf];exact this.tmp,this.lo,this.heap,fun m x hm=>this.ne m x (by rw[<-hbox];exact hm)⟩
theorem getD_any{arr:Array Bool}{j:Nat}(h:arr.getD j false=true):arr.getD j true=true:=by
 rcases Nat.lt_or_ge j arr.size with k|k
 ·simp[k]at h⊢;exact h
 ·simp[Array.getElem?_eq_none k]at h

theorem drawRunF_sound{rid:Nat}{ops:Array Oper}{Q:Exit->Act->World->Prop}{K:St->Prop}{lw:Option World}{hold:List Nat}{b0:Nat->Nat}{st0:St}
  (hq:∀b st T' w',K st->Inv c b st T' w'->Q .normal (act T') w') (hQ:∀ch a w,¬Q (.panic ch) a w)
  (hsel:∀(j:Nat) o cs q,ops[j]? =some o->o.op≠ .select cs q) (hon:∀(j:Nat) o,ops[j]? =some o->∀e∈o.after,Region.binds .any e=true->e.on<ops.size)
  (hnew:∀l∈hold,∀(j:Nat) o,ops[j]? =some o->isNew o=true->o.dst≠some l):
  ∀(m n k:Nat)(listed fl:List Nat)(arr:Array Bool)(a b:Nat->Nat)(st:St)(T:Array Value)(w:World),n+k=m->n=k+unex arr fl->RelF ops listed fl arr->Inv c b st T w->FlInv c ops b st T w arr fl a->
   Still c rid ops b0 st0 lw hold listed b st w->drawRunF c rid ops lw hold k listed fl st K->AnyS c.P ops Q (Held b0 st0 lw hold) (quietAt c rid ops) n arr (act T) w:=by
 intro m
 induction m using Nat.strongRecOn with
 |ind m ih=>
 intro n k listed fl arr a b st T w hm hn hrel inv fi hst h
 have hsize:∀f∈fl,f<ops.size:=fun f hf=>by
  obtain⟨o,t,cells,ho⟩:=fi.op f hf
  exact(Array.getElem?_eq_some_iff.1 ho.ho).1
 have hland:(∀f∈fl,arr.getD f true=true)->landAll c ops fl st K->Q .normal (act T) w:=fun hall hl=>by
  obtain⟨b',st',hK,inv',_⟩:=landAll_sound fl b st inv fi.nodup fi.op (fun f hf=>fi.at_ f hf (hall f hf)) (fun f hf g hg hne=>fi.ne f hf g hg hne (hall f hf) (hall g hg)) hl
  exact hq _ _ _ _ hK inv'
 have hnone:Region.ready .any ops arr=[]->∀f∈fl,arr.getD f true=true:=fun hr f hf=>by
  obtain⟨o,t,cells,ho⟩:=fi.op f hf
  cases hx:arr.getD f true with
  |true=>rfl
  |false=>
   have:f∈Region.ready .any ops arr:=mem_ready.2 ⟨hx,o,ho.ho,fun e he hb=>by rw[ho.free e he]at hb;cases hb⟩
   rw[hr]at this
   cases this
 have hsym:∀i∈Region.ready .any ops arr,i∉fl->i∈readyL (join2 fl listed) 0 ops.toList/\∀o,ops[i]? =some o->∀f∈waited o true fl,arr.getD f true=true:=fun i hi hif=>by
  obtain⟨h0,o,ho,hall⟩:=mem_ready.1 hi
  have hil:=(Array.getElem?_eq_some_iff.1 ho).1
  refine⟨(readyL_iff hon _ _).2 ⟨?_,o,ho,fun e he hb=> ?_⟩,fun o' ho' f hf=> ?_⟩
  ·cases hx:inL i (join2 fl listed)with
   |false=>rfl
   |true=>
    rcases inL_join.1 hx with k|k
    ·exact absurd k hif
    ·have:=hrel.lis i hil k
     rw[h0]at this
     cases this
  ·exact inL_join.2 ((hrel.arr e.on (hon i o ho e he hb) (getD_any (hall e he hb))).symm)
  ·rw[ho]at ho'
   cases ho'
   obtain⟨_,hw⟩:=mem_waited.1 hf
   obtain⟨e,he,hb,rfl⟩:=waitsOn_spec.1 hw
   exact getD_any (hall e he hb)
 have hfloat:∀n',n=n'+1->∀i∈Region.ready .any ops arr,i∈fl->wpOp c.P ops Q i (fun a' w'=>(quietAt c rid ops i=true->Held b0 st0 lw hold w->Held b0 st0 lw hold w')/\AnyS c.P ops Q (Held b0 st0 lw hold) (quietAt c rid ops) n' (arr.setIfInBounds i true) a' w') (act T) w:=fun n' hn' i hi hif=>by
  have h0:=(mem_ready.1 hi).1
  have hil:i<arr.size:=by rw[hrel.size];exact hsize i hif
  refine float_step hrel.size hif h0 inv fi fun a' T' w' hkeep inv' fi'=>⟨fun _ hS=>hS.keep hkeep,?_⟩
  have hu:=unex_set hil h0 fi.nodup hif
  refine ih (n'+k) (by omega) n' k listed fl _ a' b st T' w' rfl (by omega) ⟨by simp[hrel.size],fun j hj hx=> ?_,fun j hj hx=> ?_,hrel.dis⟩ inv' fi' (fun hall=> ?_) h
  ·by_cases e:i=j
   ·subst e;simp[hil]
   ·rw[getD_set_ne true e];exact hrel.lis j hj hx
  ·by_cases e:i=j
   ·subst e;exact .inr hif
   ·rw[getD_set_ne true e]at hx;exact hrel.arr j hj hx
  ·obtain⟨hS,hB⟩:=hst hall
   exact⟨hS.keep hkeep,hB⟩
 cases k with
 |zero=>
  simp only[drawRunF]at h
  cases he:readyL (join2 fl listed) 0 ops.toList with
  |cons x r=>simp[he]at h
  |nil=>
   rw[he]at h
   cases n with
   |zero=>
    have hall:=unex_zero.1 (by omega:unex arr fl=0)
    refine⟨List.eq_nil_iff_forall_not_mem.2 fun i hi=> ?_,hland hall h⟩
    by_cases hif:i∈fl
    ·have:=(mem_ready.1 hi).1
     rw[hall i hif]at this
     cases this
    ·have:=(hsym i hi hif).1
     rw[he]at this
     cases this
   |succ n'=>
    refine⟨fun hr=>hland (hnone hr) h,fun i hi=> ?_⟩
    by_cases hif:i∈fl
    ·exact hfloat n' rfl i hi hif
    ·have:=(hsym i hi hif).1
     rw[he]at this
     cases this
 |succ k=>
  simp only[drawRunF]at h
  cases hfl:findFl c rid ops fl (readyL listed 0 ops.toList)with
  |some f=>
   simp only[hfl]at h
   obtain⟨hfm,hff,hfs⟩:=findFl_spec hfl
   obtain⟨o,t,cells,hop,_⟩:=isFl_spec hfs
   obtain⟨hfl0,_⟩:=(readyL_iff hon _ _).1 hfm
   have hfsz:=(Array.getElem?_eq_some_iff.1 hop.ho).1
   have hun:arr.getD f true=false:=by
    cases hx:arr.getD f true with
    |false=>rfl
    |true=>
     rcases hrel.arr f hfsz hx with k|k
     ·rw[hfl0]at k;cases k
     ·exact absurd k hff
   obtain⟨t1,t2,t3,t4⟩:=tidy_spec (ops:=ops) inv (f::fl)
   refine ih (n+k) (by omega) n k listed (f::fl) arr a b _ T w rfl (by rw[unex,if_neg (by simp[hun])];omega) ⟨hrel.size,hrel.lis,fun j hj hx=>(hrel.arr j hj hx).imp id fun h=>by simp[h],fun g hg=> ?_⟩ t1
    ⟨fun g hg=> ?_,List.nodup_cons.2 ⟨hff,fi.nodup⟩,t3,fun g hg hx=> ?_,fun g hg g' hg' hne hx hy=> ?_,t4⟩ (fun hall=> ?_) h
   ·rcases List.mem_cons.1 hg with rfl|hg
    ·exact hfl0
    ·exact hrel.dis g hg
   ·rcases List.mem_cons.1 hg with rfl|hg
    ·exact⟨o,t,cells,hop⟩
    ·exact fi.op g hg
   ·rcases List.mem_cons.1 hg with rfl|hg
    ·rw[hun]at hx;cases hx
    ·have:=fi.at_ g hg hx
     exact⟨this.tmp,this.lo,this.heap,fun m x hm=>this.ne m x (by rw[<-t2];exact hm)⟩
   ·rcases List.mem_cons.1 hg with rfl|hg
    ·rw[hun]at hx;cases hx
    ·rcases List.mem_cons.1 hg' with rfl|hg'
     ·rw[hun]at hy;cases hy
     ·exact fi.ne g hg g' hg' hne hx hy
   ·obtain⟨hS,hB⟩:=hst hall
    rw[t2]
    exact⟨hS,hB⟩
  |none=>
   simp only[hfl]at h
   obtain⟨n',rfl⟩:∃n',n=n'+1:=⟨k+unex arr fl,by omega⟩
   cases hf:findEarly c rid ops listed (readyL listed 0 ops.toList)with
   |some i=>
    simp only[hf]at h
    obtain⟨him,o,hi,hearly,hmf⟩:=findEarly_spec hf
    have hi':ops.toList[i]? =some o:=by simpa using hi
    simp only[hi']at h
    obtain⟨hil0,o',ho',hwait⟩:=(readyL_iff hon _ _).1 him
    rw[hi]at ho'
    cases ho'
    have hlt:i<ops.size:=(Array.getElem?_eq_some_iff.1 hi).1
    have hif:i∉fl:=fun k=>by
     obtain⟨o2,t2,c2,h2⟩:=fi.op i k
     have:=hi.symm.trans h2.ho
     cases this
     unfold early at hearly
     rw[h2.op]at hearly
     cases hearly
    have hun:arr.getD i true=false:=by
     cases hx:arr.getD i true with
     |false=>rfl
     |true=>
      rcases hrel.arr i hlt hx with k|k
      ·rw[hil0]at k;cases k
      ·exact absurd k hif
    have hready:i∈Region.ready .any ops arr:=mem_ready.2 ⟨hun,o,hi,fun e he hb=>by
     have h1:=hon i o hi e he hb
     have h2:=hrel.lis e.on h1 (hwait e he hb)
     have h3:e.on<arr.size:=by rw[hrel.size];exact h1
     simp[h3]at h2⊢
     exact h2⟩
    obtain⟨st',h,inv',hbx⟩:=guarded_sound inv h
    have hspec:=fun j oj (hj:ops[j]? =some oj) (hne:j≠i)=>mayFirst_spec ops.toList 0 hmf j oj (by simpa using hj) (by omega)
    simp only[Nat.zero_add]at hspec
    obtain⟨hlate,hlun⟩:=lateL_spec (ops:=ops) (listed:=listed) (i:=i) ops.toList 0 [] (fun k=>by simp) (fun j oj _ hj=>by cases hj) (fun j hj=>by cases hj)
    have hun0:∀j,inL j (lateL listed i 0 ops.toList [])=true->arr.getD j false=false:=fun j hj=>by
     by_cases hjl:j<ops.size
     ·cases hx:arr.getD j false with
      |false=>rfl
      |true=>
       rcases hrel.arr j hjl (getD_any hx)with k|k
       ·rw[hlun j hj]at k;cases k
       ·obtain⟨o2,t2,c2,h2⟩:=fi.op j k
        obtain⟨e,he,hb,_⟩:=hlate j o2 h2.ho hj
        rw[h2.free e he]at hb
        cases hb
     ·rw[Array.getD_eq_getD_getElem?,Array.getElem?_eq_none (by rw[hrel.size];omega)];rfl
    have hfree:∀j oj,ops[j]? =some oj->j≠i->arr.getD j true=false->¬inL j (lateL listed i 0 ops.toList [])=true->
      o.apart ops oj=true/\∀w w',(quietAt c rid ops j=true->Held b0 st0 lw hold w->Held b0 st0 lw hold w')->(isLoad o=true->Held b0 st0 lw hold w)->(isLoad o=true->Held b0 st0 lw hold w'):=by
     intro j oj hj hne hun hno
     have hs:=hspec j oj hj hne
     have hjl:j<ops.size:=(Array.getElem?_eq_some_iff.1 hj).1
     have hul:inL j listed=false:=by
      cases hx:inL j listed with
      |false=>rfl
      |true=>have:=hrel.lis j hjl hx;rw[hun]at this;cases this
     split at hs
     ·exact absurd hs.2 hno
     ·rename_i e
      rw[hul]at hs
      refine⟨(hs.resolve_left (by simp)).resolve_left hno,fun w w' hk hS hl=> ?_⟩
      have:quietAt c rid ops j=true:=by
       unfold quietAt
       rw[hj]
       simp only
       rw[hl]at e
       simpa using e
      exact hk this (hS hl)
    have hload:isLoad o=true->Held b0 st0 lw hold w/\∀l∈hold,b l=b0 l/\∀x',getBox st.boxes l=some x'->∃x,getBox st0.boxes l=some x/\x.cells=x'.cells/\x.ty=x'.ty:=fun hl=>hst fun j hj=>by
     unfold quietAt
     split
     ·rename_i oj hoj
      by_cases hne:j=i
      ·subst hne
       rw[inL_iff.2 hj]at hil0
       cases hil0
      ·have hs:=hspec j oj hoj hne
       cases hqt:quietly (modeOf c.mode rid j) oj with
       |true=>rfl
       |false=>
        rw[hl,hqt]at hs
        simp only[Bool.not_false,Bool.and_self]at hs
        rw[inL_iff.2 hj]at hs
        cases hs.1
     ·rfl
    have hdst:∀f∈fl,o.dst≠some (dstOf ops f):=fun f hff=>by
     obtain⟨o2,t2,c2,h2⟩:=fi.op f hff
     exact h2.other i o hi fun e=>hif (e▸hff)
    have harr:∀f∈fl,(arr.setIfInBounds i true).getD f true=arr.getD f true:=fun f hff=>getD_set_ne true fun e=>hif (e▸hff)
    have next:∀(st'':St)(v:Value),st''.boxes=st'.boxes->Inv c b st'' ((act T).put o.dst v).tmps w->drawRunF c rid ops lw hold k (i::listed) fl (tidy ops fl st'') K->
      AnyS c.P ops Q (Held b0 st0 lw hold) (quietAt c rid ops) n' (arr.setIfInBounds i true) (act ((act T).put o.dst v).tmps) w:=fun st'' v hb inv'' hK=>by
     obtain⟨t1,t2,t3,t4⟩:=tidy_spec (ops:=ops) inv'' fl
     refine ih (n'+k) (by omega) n' k (i::listed) fl _ a b _ _ w rfl (by rw[unex_congr harr];omega) ⟨by simp[hrel.size],fun j hj hx=> ?_,fun j hj hx=> ?_,fun f hff=> ?_⟩ t1
      (fi.again (fun f hff=>put_other (hdst f hff)) (t2.trans (hb.trans hbx)) t3 t4 harr) (fun hall=> ?_) hK
     ·by_cases e:i=j
      ·subst e;simp[hrel.size,hlt]
      ·rw[getD_set_ne true e]
       rcases List.mem_cons.1 (inL_iff.1 hx)with k|k
       ·exact absurd k.symm e
       ·exact hrel.lis j hj (inL_iff.2 k)
     ·by_cases e:i=j
      ·subst e;exact .inl (inL_iff.2 (by simp))
      ·rw[getD_set_ne true e]at hx
       exact(hrel.arr j hj hx).imp (fun h=>inL_iff.2 (by simp[inL_iff.1 h])) id
     ·cases hx:inL f (i::listed)with
      |false=>rfl
      |true=>
       rcases List.mem_cons.1 (inL_iff.1 hx)with k|k
       ·exact absurd (k▸hff) hif
       ·have:=hrel.dis f hff;rw[inL_iff.2 k]at this;cases this
     ·rw[t2,hb,hbx]
      exact hst fun j hj=>hall j (by simp[hj])
    have ey:yielded ops (act T).tmps=yielded ops T:=rfl
    cases hw:Region.wanted o (yielded ops T)with
    |true=>
     rw[hw]at h
     simp only at h
     have hv:=value_sound (Ok:=fun w=>isLoad o=true->Held b0 st0 lw hold w) (lw:=lw) (hold:=some hold) (b:=b) (fun hl w1 hw1=>by
      have hH:=hw1 hl
      refine⟨fun l x hm hx=> ?_,fun v hv a u hu=>hH.2 v hv a u hu⟩
      have hlh:l∈hold:=inL_iff.1 hm
      rw[hbx]at hx
      obtain⟨e1,e2⟩:=(hload hl).2 l hlh
      obtain⟨y,hy,f1,f2⟩:=e2 x hx
      rw[e1,<-f1,<-f2]
      exact hH.1 l hlh y hy) inv'.env (fun cs q=>hsel i o cs q hi) h
     obtain⟨x,hp,hrun⟩:=hv
     obtain⟨st'',hK,inv'',e,hb⟩:=put_sound inv' (v:=x.den b) rfl hp
     refine AnyS.first (S':=fun w=>isLoad o=true->Held b0 st0 lw hold w) hi hsel (fun ch a w hp=>absurd hp (hQ _ _ _)) hlate n' arr (act T) w hfree hun0 hready (.inl ⟨by rw[ey];exact hw,fun w1 hw1=>hrun w1 hw1⟩) (fun hl=>(hload hl).1) ?_
     rw[e]
     exact next st'' _ hb inv'' hK
    |false=>
     rw[hw]at h
     simp only at h
     obtain⟨st'',hK,inv'',e,hb⟩:=put_sound inv' (v:=undef) rfl h
     refine AnyS.first (S':=fun w=>isLoad o=true->Held b0 st0 lw hold w) hi hsel (fun ch a w hp=>absurd hp (hQ _ _ _)) hlate n' arr (act T) w hfree hun0 hready (.inr ⟨by rw[ey];exact hw,rfl⟩) (fun hl=>(hload hl).1) ?_
     rw[e]
     exact next st'' _ hb inv'' hK
   |none=>
    simp only[hf]at h
    refine⟨fun hr=> ?_,fun i hi=> ?_⟩
    ·have hall:=hnone hr
     have he:readyL (join2 fl listed) 0 ops.toList=[]:=List.eq_nil_iff_forall_not_mem.2 fun j hj=>by
      obtain⟨j0,o,ho,hw⟩:=(readyL_iff hon _ _).1 hj
      have hjl:=(Array.getElem?_eq_some_iff.1 ho).1
      have:j∈Region.ready .any ops arr:=mem_ready.2 ⟨?_,o,ho,fun e he hb=> ?_⟩
      ·rw[hr]at this;cases this
      ·cases hx:arr.getD j true with
       |false=>rfl
       |true=>
        have:=inL_join.2 ((hrel.arr j hjl hx).symm)
        rw[j0]at this
        cases this
      ·have h1:=hon j o ho e he hb
       have h2:arr.getD e.on true=true:=by
        rcases inL_join.1 (hw e he hb)with k|k
        ·exact hall _ k
        ·exact hrel.lis _ h1 k
       have h3:e.on<arr.size:=by rw[hrel.size];exact h1
       simp[h3]at h2⊢
       exact h2
     rw[he]at h
     exact hland hall h
    ·by_cases hif:i∈fl
     ·exact hfloat n' rfl i hi hif
     ·obtain⟨him,hwt⟩:=hsym i hi hif
      have h:=allOf_mem h (fun e=>by rw[e]at him;cases him) i him
      obtain⟨h00,o,ho,hall0⟩:=mem_ready.1 hi
      have ho':ops.toList[i]? =some o:=by simpa using ho
      have hlt:i<ops.size:=(Array.getElem?_eq_some_iff.1 ho).1
      simp only[ho']at h
      have hin:=fun f (hff:f∈waited o true fl)=>(mem_waited.1 hff).1
      have hwt:=hwt o ho
      obtain⟨b1,st1,h,inv1,e1,e2,e3,e4⟩:=landAll_sound (waited o true fl) b st inv (waited_nodup fi.nodup) (fun f hff=>fi.op f (hin f hff)) (fun f hff=>fi.at_ f (hin f hff) (hwt f hff)) (fun f hff g hg hne=>fi.ne f (hin f hff) g (hin g hg) hne (hwt f hff) (hwt g hg)) h
      have hnl:∀l∈hold,∀f∈waited o true fl,l≠dstOf ops f:=fun l hl f hff e=>by
       obtain⟨o2,t2,c2,h2⟩:=fi.op f (hin f hff)
       exact hnew l hl f o2 h2.ho (by unfold isNew;rw[h2.op]) (by rw[h2.dst,e])
      have hst1:(∀j∈listed,quietAt c rid ops j=true)->Held b0 st0 lw hold w/\∀l∈hold,b1 l=b0 l/\∀x',getBox st1.boxes l=some x'->∃x,getBox st0.boxes l=some x/\x.cells=x'.cells/\x.ty=x'.ty:=fun hall=>by
       obtain⟨hS,hB⟩:=hst hall
       refine⟨hS,fun l hl=> ?_⟩
       obtain⟨g1,g2⟩:=hB l hl
       refine⟨(e1 l (hnl l hl)).trans g1,fun x' hx'=> ?_⟩
       rcases e2 l x' hx' with⟨f,hff,k1,_⟩|⟨k1,_⟩
       ·exact absurd k1 (hnl l hl f hff)
       ·exact g2 x' k1
      have hqa:quietAt c rid ops i=quietly (modeOf c.mode rid i) o:=by unfold quietAt;rw[ho]
      have stillN:∀(st' st2:St)(b':Nat->Nat)(w':World),(quietly (modeOf c.mode rid i) o=true->Kept o b1 st1 w b' st' w')->st2.boxes=st'.boxes->Still c rid ops b0 st0 lw hold (i::join2 (waited o true fl) listed) b' st2 w':=fun st' st2 b' w' hkept hbx hall=>by
       obtain⟨k1,k2,k3⟩:=hkept (by rw[<-hqa];exact hall i (by simp))
       obtain⟨hS,hB⟩:=hst1 fun j hj=>hall j (List.mem_cons.2 (.inr (inL_iff.1 (inL_join.2 (.inr (inL_iff.2 hj))))))
       refine⟨hS.keep k2,fun l hl=> ?_⟩
       obtain⟨q1,q2⟩:=k3 l (fun hn=>hnew l hl i o ho hn)
       obtain⟨g1,g2⟩:=hB l hl
       refine⟨q1.trans g1,fun x' hx'=> ?_⟩
       rw[hbx]at hx'
       obtain⟨y,hy,f1,f2⟩:=q2 x' hx'
       obtain⟨z,hz,h1,h2⟩:=g2 y hy
       exact⟨z,hz,h1.trans f1,h2.trans f2⟩
      have lis':∀j,j<ops.size->inL j (i::join2 (waited o true fl) listed)=true->(arr.setIfInBounds i true).getD j true=true:=fun j hj hx=>by
       by_cases e:i=j
       ·subst e;simp[hrel.size,hlt]
       ·rw[getD_set_ne true e]
        rcases List.mem_cons.1 (inL_iff.1 hx)with k|k
        ·exact absurd k.symm e
        ·rcases inL_join.1 (inL_iff.2 k)with k|k
         ·exact hwt j k
         ·exact hrel.lis j hj k
      have arr':∀j,j<ops.size->(arr.setIfInBounds i true).getD j true=true->inL j (i::join2 (waited o true fl) listed)=true∨j∈waited o false fl:=fun j hj hx=>by
       by_cases e:i=j
       ·subst e;exact .inl (inL_iff.2 (by simp))
       ·rw[getD_set_ne true e]at hx
        rcases hrel.arr j hj hx with k|k
        ·exact .inl (inL_iff.2 (List.mem_cons.2 (.inr (inL_iff.1 (inL_join.2 (.inr k))))))
        ·cases hwj:waitsOn o j with
         |true=>exact .inl (inL_iff.2 (List.mem_cons.2 (.inr (inL_iff.1 (inL_join.2 (.inl (mem_waited.2 ⟨k,hwj⟩)))))))
         |false=>exact .inr (mem_waited.2 ⟨k,hwj⟩)
      have hcount:=unex_waited (arr:=arr) (o:=o) hwt
      have hno:∀f∈waited o false fl,f∈fl:=fun f hff=>(mem_waited.1 hff).1
      have harr:∀f∈waited o false fl,(arr.setIfInBounds i true).getD f true=arr.getD f true:=fun f hff=>getD_set_ne true fun e=>hif (e▸hno f hff)
      cases hr:waited o false fl with
      |nil=>
       rw[hr]at h arr' hcount
       refine oneOp_sound (fun cs q=>hsel i o cs q ho) inv1 h ho fun b' st' T' w' hK inv' hkept=>⟨fun hqt hS=>hS.keep (hkept (by rw[<-hqa];exact hqt)).2.1,?_⟩
       exact ih (n'+k) (by omega) n' k _ [] _ a b' st' T' w' rfl (by rw[<-hcount]at hn;simp only[unex]at hn⊢;omega) ⟨by simp[hrel.size],lis',arr',fun f hff=>by cases hff⟩ inv'
        ⟨fun f hff=>(by cases hff),List.nodup_nil,fun f hff=>(by cases hff),fun f hff=>(by cases hff),fun f hff=>(by cases hff),fun h=>absurd rfl h⟩ (stillN st' st' b' w' hkept rfl) hK
      |cons g r=>
       rw[hr]at h
       simp only at h
       cases hqn:quietly (modeOf c.mode rid i) o&& !isNew o with
       |false=>rw[hqn]at h;exact h.elim
       |true=>
        rw[hqn]at h
        simp only[Bool.and_eq_true,Bool.not_eq_true']at hqn
        simp only at h
        rw[<-hr]at h
        refine oneOp_soundT (fun cs q=>hsel i o cs q ho) inv1 h ho fun b' st' T' w' hK inv' hkept hT=>⟨fun hqt hS=>hS.keep (hkept hqn.1).2.1,?_⟩
        obtain⟨k1,k2,k3⟩:=hkept hqn.1
        obtain⟨t1,t2,t3,t4⟩:=tidy_spec (ops:=ops) inv' (waited o false fl)
        have hdst:∀f∈waited o false fl,o.dst≠some (dstOf ops f):=fun f hff=>by
         obtain⟨o2,t2,c2,h2⟩:=fi.op f (hno f hff)
         exact h2.other i o ho fun e=>hif (e▸hno f hff)
        refine ih (n'+k) (by omega) n' k _ (waited o false fl) _ a b' _ T' w' rfl (by rw[unex_congr harr];omega) ⟨by simp[hrel.size],lis',arr',fun f hff=> ?_⟩ t1
         ⟨fun f hff=>fi.op f (hno f hff),waited_nodup fi.nodup,t3,fun f hff hx=> ?_,fun f hff g' hg' hne hx hy=>fi.ne f (hno f hff) g' (hno g' hg') hne (by rw[<-harr f hff];exact hx) (by rw[<-harr g' hg'];exact hy),t4⟩ (stillN st' _ b' w' hkept t2) hK
        ·cases hx:inL f (i::join2 (waited o true fl) listed)with
         |false=>rfl
         |true=>
          rcases List.mem_cons.1 (inL_iff.1 hx)with k|k
          ·exact absurd (k▸hno f hff) hif
          ·rcases inL_join.1 (inL_iff.2 k)with k|k
           ·have h1:=(mem_waited.1 k).2
            rw[(mem_waited.1 hff).2]at h1
            cases h1
           ·have:=hrel.dis f (hno f hff)
            rw[k]at this
            cases this
        ·rw[harr f hff]at hx
         have hat:=fi.at_ f (hno f hff) hx
         obtain⟨o2,tt2,c2,h2⟩:=fi.op f (hno f hff)
         have hlt2:a f<w.heap.size:=(Array.getElem?_eq_some_iff.1 (hat.heap o2 tt2 c2 h2)).1
         refine⟨by rw[hT _ (hdst f hff)];exact hat.tmp,hat.lo,fun o3 t3 c3 h3=>by rw[k2 _ hlt2];exact hat.heap o3 t3 c3 h3,fun m x hm=> ?_⟩
         rw[t2]at hm
         obtain⟨q1,q2⟩:=k3 m (fun hn=>by rw[hqn.2]at hn;cases hn)
         obtain⟨y,hy,_⟩:=q2 x hm
         rw[q1]
         rcases e2 m y hy with⟨f',hff',k4,k5⟩|⟨k4,k5⟩
         ·rw[k5]
          refine fi.ne f' (hin f' hff') f (hno f hff) (fun e=> ?_) (hwt f' hff') hx
          have h1:=(mem_waited.1 hff').2
          rw[e,(mem_waited.1 hff).2]at h1
          cases h1
         ·rw[k5]
          exact hat.ne m y k4
end
section
variable {c:Cx}

theorem noSelectL_spec{ops:List Oper}(h:noSelectL ops=true):∀o∈ops,∀cs q,o.op≠ .select cs q:=by
 induction ops with
 |nil=>intro o ho;cases ho
 |cons x r ih=>
  intro o ho cs q e
  simp only[noSelectL]at h
  rcases List.mem_cons.1 ho with rfl|ho
  ·rw[e]at h;simp at h
  ·split at h
   ·cases h
   ·exact ih h o ho cs q e

theorem edgesOk_spec{n:Nat}{ops:List Oper}(h:edgesOk n ops=true):∀o∈ops,∀e∈o.after,Region.binds .any e=true->e.on<n:=by
 induction ops with
 |nil=>intro o ho;cases ho
 |cons x r ih=>
  intro o ho e he hb
  simp only[edgesOk,Bool.and_eq_true,List.all_eq_true]at h
  rcases List.mem_cons.1 ho with rfl|ho
  ·have:=h.1 e (by simpa using he)
   simpa[hb,Nat.blt_eq]using this
  ·exact ih h.2 o ho e he hb

def Post(c:Cx)(K:St->Prop):Exit->Act->World->Prop
 | .normal,a,w=>∃b st T,a=act T/\K st/\Inv c b st T w
 |_,_,_=>False

theorem region_sound{rid:Nat}{ops:Array Oper}{draw:Bool}{K:St->Prop}{b:Nat->Nat}{st:St}{T:Array Value}{wa:World}(hm:c.P.follows .mixedOrders=true)(inv:Inv c b st T wa)
  (h:region c rid ops draw st K):(Code.region rid ops draw).wp c.P (Post c K) (act T) wa:=by
 unfold region at h
 have hq:∀b st T' w',K st->Inv c b st T' w'->Post c K .normal (act T') w':=fun b st T' w' h1 h2=>⟨b,st,T',rfl,h1,h2⟩
 cases draw with
 |false=>
  simp only at h
  cases hns:noSelectL ops.toList with
  |false=>rw[hns]at h;exact h.elim
  |true=>
   rw[hns]at h
   have hsel:∀(j:Nat) o cs q,ops[j]? =some o->o.op≠ .select cs q:=fun j o cs q ho=>noSelectL_spec hns o (by simpa using Array.mem_of_getElem? ho) cs q
   refine wp_region ?_
   have:=opsRun_sound (Q:=Post c K) hq hsel ops.toList 0 (fun k=>by simp) b st T wa inv h
   rw[List.range_eq_range',<-Array.length_toList]
   exact this
 |true=>
  simp only at h
  cases hns:noSelectL ops.toList&&edgesOk ops.toList.length ops.toList with
  |false=>rw[hns]at h;exact h.elim
  |true=>
   rw[hns]at h
   simp only[Bool.and_eq_true]at hns
   have hsel:∀(j:Nat) o cs q,ops[j]? =some o->o.op≠ .select cs q:=fun j o cs q ho=>noSelectL_spec hns.1 o (by simpa using Array.mem_of_getElem? ho) cs q
   have hon:∀(j:Nat) o,ops[j]? =some o->∀e∈o.after,Region.binds .any e=true->e.on<ops.size:=fun j o ho e he hb=>by
    have:=edgesOk_spec hns.2 o (by simpa using Array.mem_of_getElem? ho) e he hb
    simpa using this
   have hex:∃st',Inv c b st' T wa/\(match Nat.beq (modeOf c.mode rid 9998) 8 with
     |true=>drawRunF c rid ops (match st'.d with|none=>some st'.w|some _=>none) (holdOf st' ops) ops.toList.length [] [] st'.moved K
     |false=>drawRun c rid ops (match st'.d with|none=>some st'.w|some _=>none) (holdOf st' ops) ops.toList.length [] st'.moved K):=by
    simp only at h
    cases hb:Nat.beq (modeOf c.mode rid 9999) 3 with
    |true=>
     rw[hb]at h
     simp only[exposeIf]at h
     obtain⟨st',h,inv',_⟩:=expose_sound inv h
     exact⟨st',inv',h⟩
    |false=>
     rw[hb]at h
     exact⟨st,inv,h⟩
   obtain⟨st',inv',h⟩:=hex
   refine wp_region_any hm ?_
   have invd:Inv c b st'.moved T {wa with drawn:=wa.drawn+1}:=by
    refine⟨inv'.size,inv'.env,⟨inv'.box.at_,inv'.box.ne⟩,inv'.lo,?_,inv'.new,inv'.base.drew⟩
    have:=inv'.extSome
    exact⟨this.below.drew,this.other⟩
   have hnew:∀l∈holdOf st' ops,∀(j:Nat) o,ops[j]? =some o->isNew o=true->o.dst≠some l:=fun l hl j o ho hn hd=>by
    have h1:=newLabels_mem (ops:=ops.toList) (by simpa using Array.mem_of_getElem? ho) hn hd
    unfold holdOf at hl
    have h2:=(List.mem_filter.1 hl).2
    rw[inL_iff.2 h1]at h2
    cases h2
   have hrel:Rel ops [] (Array.replicate ops.size false):=⟨by simp,fun j hj=>by simp[hj,inL]⟩
   have hstill:Still c rid ops b st' (match st'.d with|none=>some st'.w|some _=>none) (holdOf st' ops) [] b st'.moved {wa with drawn:=wa.drawn+1}:=fun _=>by
    refine⟨⟨fun l hl x hx=>(inv'.box.at_ l x hx).2,fun v hv a u hu=> ?_⟩,fun l hl=>⟨rfl,fun x hx=>⟨x,hx,rfl,rfl⟩⟩⟩
    have hx:=inv'.ext
    cases hd:st'.d with
    |none=>rw[hd]at hv hx;simp only at hv hx;cases hv;rw[hx];exact hu
    |some ts=>rw[hd]at hv;cases hv
   cases hfl:Nat.beq (modeOf c.mode rid 9998) 8 with
   |false=>
    rw[hfl]at h
    have:=drawRun_sound (Q:=Post c K) hq (fun _ _ _ h=>h) hsel hon hnew ops.toList.length [] (Array.replicate ops.size false) b st'.moved T {wa with drawn:=wa.drawn+1} hrel invd hstill h
    rw[Array.length_toList]at this
    exact this.wpAny
   |true=>
    rw[hfl]at h
    have:=drawRunF_sound (Q:=Post c K) hq (fun _ _ _ h=>h) hsel hon hnew _ ops.toList.length ops.toList.length [] [] (Array.replicate ops.size false) b b st'.moved T {wa with drawn:=wa.drawn+1} rfl rfl
     ⟨by simp,fun j hj hx=>(by cases hx),fun j hj hx=>(by simp[hj]at hx),fun f hf=>(by cases hf)⟩ invd ⟨fun f hf=>(by cases hf),List.nodup_nil,fun f hf=>(by cases hf),fun f hf=>(by cases hf),fun f hf=>(by cases hf),fun h=>absurd rfl h⟩ hstill h
    rw[Array.length_toList]at this
    exact this.wpAny

def base(f:FuncId):Frame:={(default:Frame)with fn:=f,kind:= .normal}

theorem Pt.step{P:Program}{f:FuncId}{todo todo':List Item}{T:Array Value}{w:World}{R:Ending->World->Prop}
  (hs:∀cs,step P (lone ((base f).at ⟨T,[]⟩ todo) cs w)= .next (lone ((base f).at ⟨T,[]⟩ todo') cs w)) (h:Pt P f todo' T w R):Pt P f todo T w R:=fun cs=>by
 obtain⟨e,w',fr,h1,h2,h3,h4⟩:=h cs
 exact⟨e,w',fr,h1,.of_steps (.one (hs cs)) h2,h3,h4⟩

theorem Pt.of_wp{P:Program}{f:FuncId}{cd:Code}{k:List Item}{T:Array Value}{w:World}{R:Ending->World->Prop}{Q:Exit->Act->World->Prop}
  (h:cd.wp P Q (act T) w) (hq:∀e a w',Q e a w'->e= .normal/\∃T',a=act T'/\Pt P f k T' w' R):Pt P f (.code cd::k) T w R:=fun cs=>by
 obtain⟨e,a,w',hQ,harr⟩:=h (base f) k cs
 obtain⟨rfl,T',rfl,hpt⟩:=hq e a w' hQ
 obtain⟨e,w'',fr,h1,h2,h3,h4⟩:=hpt cs
 exact⟨e,w'',fr,h1,.of_steps harr h2,h3,h4⟩

def resOne(T:Array Value):ResultVar->Sem Value
 | .tmp t=>pure (T.getD t undef)
 | .cell a t=>do loadVar t (<-asAddr (T.getD a undef))

theorem resOne_sound{b:Nat->Nat}{st:St}{T:Array Value}{wa:World}(inv:Inv c b st T wa):∀{l:List ResultVar} {vs:List Value},results c st l=some vs->
  l.length=vs.length/\∀(i:Nat) r v,l[i]? =some r->vs[i]? =some v->(resOne T r).run c.P wa= .ok v wa:=by
 intro l
 induction l with
 |nil=>intro vs h;simp only[results]at h;cases h;exact⟨rfl,fun i r v h=>by simp at h⟩
 |cons x r ih=>
  intro vs h
  have fin:∀v ws,results c st r=some ws->vs=v::ws->(resOne T x).run c.P wa= .ok v wa->(x::r).length=vs.length/\∀(i:Nat) y u,(x::r)[i]? =some y->vs[i]? =some u->(resOne T y).run c.P wa= .ok u wa:=by
   intro v ws hr e hx
   obtain⟨h1,h2⟩:=ih hr
   subst e
   refine⟨by simp[h1],fun i y u hy hu=> ?_⟩
   cases i with
   |zero=>simp at hy hu;subst hy;subst hu;exact hx
   |succ i=>exact h2 i y u (by simpa using hy) (by simpa using hu)
  cases x with
  |tmp t=>
   simp only[results]at h
   cases hx:(get st.env t).bind SV.val with
   |none=>simp[hx]at h
   |some v=>
    cases hr:results c st r with
    |none=>simp[hx,hr]at h
    |some ws=>
     simp only[hx,hr]at h
     cases h
     obtain⟨sv,h1,h2⟩:=Option.bind_eq_some_iff.1 hx
     have:=inv.env t sv h1
     exact fin _ _ hr rfl (by simp[resOne,this,val_den h2 b])
  |cell a t=>
   simp only[results]at h
   cases hx:get st.env a with
   |none=>simp[hx]at h
   |some sv=>
    cases hr:results c st r with
    |none=>cases sv<;>simp[hx,hr]at h
    |some ws=>
     rw[hx,hr]at h
     cases sv<;>try (simp at h;done)
     rename_i lb off
     simp only at h
     cases hb:boxLoad c.P st.boxes t lb off with
     |none=>simp[hb]at h
     |some v=>
      simp only[hb]at h
      cases h
      have h1:=inv.env a _ hx
      have h2:=boxLoad_sound (b:=b) hb (fun x hx=>(inv.box.at_ lb x hx).2)
      exact fin _ _ hr rfl (by simp[resOne,Sem.run_bind,h1,SV.den,asAddr,h2])

theorem run_mapM{P:Program}{α β:Type}(f:α->Sem β)(w:World):∀(l:List α)(vs:List β),l.length=vs.length->(∀(i:Nat) r v,l[i]? =some r->vs[i]? =some v->(f r).run P w= .ok v w)->
  (l.mapM f).run P w= .ok vs w:=by
 intro l
 induction l with
 |nil=>intro vs hl _;cases vs with
  |nil=>rfl
  |cons v r=>simp at hl
 |cons x r ih=>
  intro vs hl h
  cases vs with
  |nil=>simp at hl
  |cons v ws=>
   have h0:=h 0 x v (by simp) (by simp)
   have h1:=ih ws (by simpa using hl) (fun i r' v' hr hv=>h (i+1) r' v' (by simpa using hr) (by simpa using hv))
   simp[List.mapM_cons,Sem.run_bind,h0,h1]

theorem leave_sound{b:Nat->Nat}{st:St}{T:Array Value}{wa:World}{fn:Func}(hf:c.P.funcs[c.f]? =some fn)(hres:c.res=fn.results.toList)(inv:Inv c b st T wa)(h:leave c st):
  ∃v,(Go.results fn T).run c.P wa= .ok v wa/\c.R v wa:=by
 unfold leave at h
 cases hr:results c st c.res with
 |none=>rw[hr]at h;exact h.elim
 |some vs=>
  rw[hr]at h
  simp only at h
  obtain⟨h0,h1⟩:=resOne_sound inv hr
  rw[hres]at h0 h1
  have h2:=run_mapM (P:=c.P) (resOne T) wa _ _ h0 h1
  obtain⟨st',hR,inv',hw,_⟩:=expose_sound inv h
  rw[hw]at hR
  refine⟨_,?_,hR⟩
  have h3:(fn.results.mapM (resOne T)).run c.P wa= .ok vs.toArray wa:=by
   rw[Array.mapM_eq_mapM_toList]
   simp[Sem.run_map,h2]
  have h4:Go.results fn T=(do let vs<-fn.results.mapM (resOne T);pure (if h:vs.size=1 then vs[0]else .tuple vs)):=by
   unfold Go.results
   congr 2
  rw[h4]
  simp only[Sem.run_bind,h3,Result.andThen_ok,Sem.run_pure]
  congr 1
  cases vs with
  |nil=>rfl
  |cons v r=>cases r<;>simp[tupled]

theorem Pt.unstep{P:Program}{f:FuncId}{todo todo':List Item}{T:Array Value}{w:World}{R:Ending->World->Prop}(h:Pt P f todo T w R)
  (hs:∀cs,Go.step P (lone ((base f).at ⟨T,[]⟩ todo) cs w)= .next (lone ((base f).at ⟨T,[]⟩ todo') cs w)) (hR:∀e w',R e w'->∃v,e= .returned v):Pt P f todo' T w R:=fun cs=>by
 obtain⟨e,w',fr,h1,h2,h3,h4⟩:=h cs
 obtain⟨v,rfl⟩:=hR e w' h1
 refine⟨_,w',fr,h1,?_,h3,h4⟩
 obtain⟨n,hn⟩:=h2
 cases n with
 |zero=>
  exfalso
  simp only[runN]at hn
  have e1:lone ((base f).at ⟨T,[]⟩ todo) cs w=lone fr cs w':=by cases hn;rfl
  have e2:=congrArg (fun m:Machine=>(m.gs[0]?).map (fun g=>g.frame.mode)) e1
  simp[lone,Frame.at,h4.1]at e2
 |succ n=>
  refine⟨n,?_⟩
  simp only[runN]at hn
  have hs':=hs cs
  unfold base at hs'
  rw[hs']at hn
  exact hn

theorem restrict_sound{b:Nat->Nat}{env:Env}{T:Array Value}(he:EnvOk b env T):∀{l:List Nat} {env':Env},restrict env l=some env'->EnvOk b env' T:=by
 intro l
 induction l with
 |nil=>intro env' h;simp only[restrict]at h;cases h;intro s x hs;simp[get]at hs
 |cons s r ih=>
  intro env' h
  simp only[restrict]at h
  cases hx:get env s with
  |none=>simp[hx]at h
  |some x=>
   cases hr:restrict env r with
   |none=>simp[hx,hr]at h
   |some l=>
    simp only[hx,hr]at h
    cases h
    intro m y hy
    rw[get_cons]at hy
    split at hy
    ·rename_i e
     simp only at e
     subst e
     cases hy
     rw[he _ x hx]
     cases x<;>rfl
    ·exact ih hr m y hy

theorem restrictB_sound{bs:List Box}:∀{l:List Nat} {bs':List Box},restrictB bs l=some bs'->∀m x,getBox bs' m=some x->x.new=false/\∃y,getBox bs m=some y/\y.cells=x.cells/\y.ty=x.ty:=by
 intro l
 induction l with
 |nil=>intro bs' h;simp only[restrictB]at h;cases h;intro m x hm;simp[getBox]at hm
 |cons s r ih=>
  intro bs' h
  simp only[restrictB]at h
  cases hx:getBox bs s with
  |none=>simp[hx]at h
  |some x=>
   cases hr:restrictB bs r with
   |none=>simp[hx,hr]at h
   |some l=>
    simp only[hx,hr]at h
    cases h
    intro m y hy
    rw[getBox_cons]at hy
    split at hy
    ·rename_i e
     simp only at e
     cases hy
     rw[<-e,getBox_lab hx]
     exact⟨rfl,x,hx,rfl,rfl⟩
    ·exact ih hr m y hy

theorem cut_sound{b:Nat->Nat}{st:St}{T:Array Value}{wa:World}(inv:Inv c b st T wa)(todo:List Item)(live:List Nat×List Nat)(h:cutAt c todo st live):Pt c.P c.f todo T wa (Out c.B c.w0 c.R):=by
 unfold cutAt at h
 cases h1:restrict st.env live.1 with
 |none=>rw[h1]at h;exact h.elim
 |some env=>
  cases h2:restrictB st.boxes live.2 with
  |none=>rw[h1,h2]at h;exact h.elim
  |some boxes=>
   rw[h1,h2]at h
   simp only at h
   obtain⟨st',h,inv',hw,_⟩:=expose_sound inv h
   rw[hw]at h
   have hlo:=inv'.lo
   rw[hw]at hlo
   have hB:BoxOk b c.B boxes wa:=by
    refine⟨fun l x hx=> ?_,fun l m x y hx hy hne=> ?_⟩
    ·obtain⟨_,y,hy,e1,e2⟩:=restrictB_sound h2 l x hx
     rw[<-e1,<-e2]
     exact inv.box.at_ l y hy
    ·obtain⟨_,x',hx',_⟩:=restrictB_sound h2 l x hx
     obtain⟨_,y',hy',_⟩:=restrictB_sound h2 m y hy
     exact inv.box.ne l m x' y' hx' hy' hne
   have:=h b T inv.size (restrict_sound inv.env h1) hB hlo
   intro cs
   obtain⟨e,w',fr,⟨v,rfl,hb,hR⟩,k2,k3,k4⟩:=this cs
   exact⟨_,w',fr,⟨v,rfl,inv.base.trans hb,hR⟩,k2,k3,k4⟩

theorem run_sound{fn:Func}(hm:c.P.follows .mixedOrders=true)(hf:c.P.funcs[c.f]? =some fn)(hres:c.res=fn.results.toList):
  ∀(n:Nat)(first:Bool)(todo:List Item)(b:Nat->Nat)(st:St)(T:Array Value)(wa:World),Inv c b st T wa->run c n first todo st->Pt c.P c.f todo T wa (Out c.B c.w0 c.R):=by
 intro n
 induction n with
 |zero=>intro first todo b st T wa _ h;exact h.elim
 |succ n ih=>
  intro first todo b st T wa inv h
  have done:∀(todo:List Item),leave c st->(∀cs,Steps c.P (lone ((base c.f).at ⟨T,[]⟩ todo) cs wa) (lone {(base c.f).at ⟨T,[]⟩ todo with mode:= .returning} cs wa))->Pt c.P c.f todo T wa (Out c.B c.w0 c.R):=fun todo hl hs cs=>by
   obtain⟨v,hr,hR⟩:=leave_sound hf hres inv hl
   exact⟨.returned v,wa,_,⟨v,rfl,inv.base,hR⟩,hs cs,rfl,rfl,rfl,rfl,fn,hf,hr⟩
  have cut:∀(todo:List Item) live,cutAt c todo st live->Pt c.P c.f todo T wa (Out c.B c.w0 c.R):=cut_sound inv
  cases todo with
  |nil=>exact done [] h fun cs=> .one step_end
  |cons it k=>
   cases it with
   |code cd=>
    cases cd<;>simp only[run]at h<;>try exact h.elim
    case skip=>exact .step (fun cs=>step_skip) (ih _ _ _ _ _ _ inv h)
    case ret=>exact done _ h fun cs=> .one step_ret
    case seq x y=>exact .step (fun cs=>step_seq) (ih _ _ _ _ _ _ inv h)
    case block id bd=>exact .step (fun cs=>step_block) (ih _ _ _ _ _ _ inv h)
    case cond x y z=>
     obtain⟨v,hv,hB⟩:=withV_some h
     obtain⟨t,ht,h⟩:=onBool_sound (b:=b) hB
     have e:=ev_den inv.env hv
     rw[ht]at e
     cases t
     ·exact .step (fun cs=>step_cond (t:=false) e) (ih _ _ _ _ _ _ inv h)
     ·exact .step (fun cs=>step_cond (t:=true) e) (ih _ _ _ _ _ _ inv h)
    case exit id=>
     split at h
     ·rename_i k' hk;exact .step (fun cs=>step_exit hk) (ih _ _ _ _ _ _ inv h)
     ·exact h.elim
    case loop bd=>
     split at h
     ·exact cut _ _ h
     ·exact .step (fun cs=>step_loop) (ih _ _ _ _ _ _ inv h)
    case region id ops draw=>
     split at h
     ·exact cut _ _ h
     ·refine .of_wp (region_sound hm inv h) fun e a w' hp=> ?_
      cases e<;>try exact hp.elim
      obtain⟨b',st',T',rfl,hK,inv'⟩:=hp
      exact⟨rfl,T',rfl,ih _ _ _ _ _ _ inv' hK⟩
   |inBlock id=>simp only[run]at h;exact .step (fun cs=>step_inBlock) (ih _ _ _ _ _ _ inv h)
   |inLoop bd=>
    simp only[run]at h
    split at h
    ·have h1:=cut _ _ h
     refine .step (fun cs=>step_inLoop) (Pt.unstep h1 (fun cs=>step_loop) fun e w' he=> ?_)
     obtain⟨v,rfl,_⟩:=he
     exact⟨v,rfl⟩
    ·exact .step (fun cs=>step_inLoop) (ih _ _ _ _ _ _ inv h)
   |_=>exact h.elim

noncomputable def bodyOf(fn:Func):Code:=fn.body.getD .skip

theorem get_argEnv:∀(vs:List Value)(i s:Nat)(x:SV),get (argEnv i vs) s=some x->∃v,x= .v v/\i<=s/\vs[s - i]? =some v:=by
 intro vs
 induction vs with
 |nil=>intro i s x h;simp[argEnv,get]at h
 |cons v r ih=>
  intro i s x h
  simp only[argEnv,get_cons]at h
  split at h
  ·rename_i e
   cases h
   subst e
   exact⟨v,rfl,Nat.le_refl _,by simp⟩
  ·rename_i e
   obtain⟨u,rfl,h1,h2⟩:=ih (i+1) s x h
   have:s - i=(s - (i+1))+1:=by omega
   exact⟨u,rfl,by omega,by rw[this];simpa using h2⟩

theorem pureB_of_run(c:Cx)(n:Nat){fn:Func}{vs:List Value}{args:Array Value}{w:World}(hm:c.P.follows .mixedOrders=true)(hf:c.P.funcs[c.f]? =some fn)(hb:fn.body.isSome=true)(hN:c.N=fn.ntmps)
  (hr:c.res=fn.results.toList) (hw:c.w0=w) (hB:c.B<=w.heap.size) (ha:args=vs.toArray) (hle:Nat.ble vs.length c.N=true)
  (h:run c n false [.code (bodyOf fn)] ⟨argEnv 0 vs,[],w,none⟩):PureB c.P c.f args c.B w c.R:=by
 have hle:=Nat.le_of_ble_eq_true hle
 subst ha
 have hpt:=run_sound hm hf hr n false _ (fun _=>0) _ (vs.toArray++Array.replicate (fn.ntmps - vs.length) undef) w (by
  refine⟨?_,fun s x hs=> ?_,⟨fun l x hx=> ?_,fun l m x y hx=> ?_⟩,?_,rfl,fun l x hx=> ?_,?_⟩
  ·simp;omega
  ·obtain⟨v,rfl,_,hv⟩:=get_argEnv vs 0 s x hs
   have hlt:s<vs.length:=by
    rcases Nat.lt_or_ge s vs.length with h|h
    ·exact h
    ·simp[List.getElem?_eq_none h]at hv
   rw[Array.getElem?_append_left (by simpa using hlt)]
   simpa[SV.den]using hv
  ·simp[getBox]at hx
  ·simp[getBox]at hx
  ·exact hB
  ·simp[getBox]at hx
  ·rw[hw];exact Below.refl _ _) h
 intro cs
 obtain⟨e,w',fr,⟨v,rfl,hbel,hR⟩,h2,h3,h4⟩:=hpt cs
 refine⟨_,w',fr,⟨v,rfl,hw▸hbel,hR⟩,?_,h3,h4⟩
 obtain⟨bd,hbd⟩:=Option.isSome_iff_exists.1 hb
 have henter:Frame.enter c.P c.f vs.toArray .normal=(base c.f).at ⟨vs.toArray++Array.replicate (fn.ntmps - vs.length) undef,[]⟩ [.code (bodyOf fn)]:=by
  simp[Frame.enter,Frame.at,hf,hbd,base,bodyOf]
 rw[henter]
 exact h2

theorem pure_of_run(c:Cx)(n:Nat){fn:Func}{vs:List Value}{args:Array Value}{w:World}(hm:c.P.follows .mixedOrders=true)(hf:c.P.funcs[c.f]? =some fn)(hb:fn.body.isSome=true)(hN:c.N=fn.ntmps)
  (hr:c.res=fn.results.toList) (hw:c.w0=w) (hB:c.B=w.heap.size) (ha:args=vs.toArray) (hle:Nat.ble vs.length c.N=true)
  (h:run c n false [.code (bodyOf fn)] ⟨argEnv 0 vs,[],w,none⟩):Pure c.P c.f args w c.R:=by
 have hle:=Nat.le_of_ble_eq_true hle
 subst ha
 have hpt:=run_sound hm hf hr n false _ (fun _=>0) _ (vs.toArray++Array.replicate (fn.ntmps - vs.length) undef) w (by
  refine⟨?_,fun s x hs=> ?_,⟨fun l x hx=> ?_,fun l m x y hx=> ?_⟩,?_,rfl,fun l x hx=> ?_,?_⟩
  ·simp;omega
  ·obtain⟨v,rfl,_,hv⟩:=get_argEnv vs 0 s x hs
   have hlt:s<vs.length:=by
    rcases Nat.lt_or_ge s vs.length with h|h
    ·exact h
    ·simp[List.getElem?_eq_none h]at hv
   rw[Array.getElem?_append_left (by simpa using hlt)]
   simpa[SV.den]using hv
  ·simp[getBox]at hx
  ·simp[getBox]at hx
  ·rw[hB];exact Nat.le_refl _
  ·simp[getBox]at hx
  ·rw[hw];exact Below.refl _ _) h
 intro cs
 obtain⟨e,w',fr,⟨v,rfl,hbel,hR⟩,h2,h3,h4⟩:=hpt cs
 refine⟨_,w',fr,⟨v,rfl,by rw[<-hB,<-hw];exact hw▸hbel,hR⟩,?_,h3,h4⟩
 obtain⟨bd,hbd⟩:=Option.isSome_iff_exists.1 hb
 have henter:Frame.enter c.P c.f vs.toArray .normal=(base c.f).at ⟨vs.toArray++Array.replicate (fn.ntmps - vs.length) undef,[]⟩ [.code (bodyOf fn)]:=by
  simp[Frame.enter,Frame.at,hf,hbd,base,bodyOf]
 rw[henter]
 exact h2

theorem at_of(c:Cx){w:World}(n:Nat)(first:Bool)(todo:List Item)(env:Env)(boxes:List Box)(hm:c.P.follows .mixedOrders=true){fn:Func}(hf:c.P.funcs[c.f]? =some fn)(hr:c.res=fn.results.toList)(hw:c.w0=w)
  (hnew:∀l x,getBox boxes l=some x->x.new=false) (h:run c n first todo ⟨env,boxes,w,none⟩):At c.P c.f c.N todo env boxes c.B w c.R:=by
 intro b T hT he hB hlo
 have:=run_sound hm hf hr n first todo b _ T w ⟨hT,he,hB,hlo,rfl,fun l x hx hn=>(by rw[hnew l x hx]at hn;cases hn),(by rw[hw];exact Below.refl _ _)⟩ h
 rw[hw]at this
 exact this

def allOld:List Box->Bool
 |[]=>true
 |x::r=> !x.new&&allOld r
theorem allOld_spec{bs:List Box}(h:allOld bs=true):∀l x,getBox bs l=some x->x.new=false:=by
 induction bs with
 |nil=>intro l x hx;simp[getBox]at hx
 |cons y r ih=>
  intro l x hx
  simp only[allOld,Bool.and_eq_true]at h
  rw[getBox_cons]at hx
  split at hx
  ·cases hx;simpa using h.1
  ·exact ih h.2 l x hx

theorem join_of_run(c:Cx)(n:Nat)(todo:List Item)(env:Env)(boxes:List Box){w:World}(hm:c.P.follows .mixedOrders=true){fn:Func}(hf:c.P.funcs[c.f]? =some fn)(hr:c.res=fn.results.toList)(hw:c.w0=w)
  (ho:allOld boxes=true) (h:run c n true todo ⟨env,boxes,w,none⟩):At c.P c.f c.N todo env boxes c.B w c.R:=
 at_of c n true todo env boxes hm hf hr hw (allOld_spec ho) h

theorem loop_of_run(c:Cx)(n:Nat)(todo:List Item)(env:Env)(boxes:List Box){w:World}(hm:c.P.follows .mixedOrders=true){fn:Func}(hf:c.P.funcs[c.f]? =some fn)(hr:c.res=fn.results.toList)(hw:c.w0=w)
  (ho:allOld boxes=true) (h:run c n true (inside todo) ⟨env,boxes,w,none⟩):At c.P c.f c.N todo env boxes c.B w c.R:=by
 have h1:=at_of c n true (inside todo) env boxes hm hf hr hw (allOld_spec ho) h
 intro b T hT he hB hlo
 have h2:=h1 b T hT he hB hlo
 cases todo with
 |nil=>exact h2
 |cons it k=>
  cases it with
  |code cd=>
   cases cd with
   |loop bd=>exact .step (fun cs=>step_loop) h2
   |_=>exact h2
  |_=>exact h2
end
theorem follows:Tryz.prog.follows .mixedOrders=true:=by kernel_rfl
end Go.Proofs.YtgfkeadgjkfomaaGreatDoor.Vc

namespace Go.Proofs.YtgfkeadgjkfomaaGreatDoor.B
open Go Go.RowKit Go.Proofs Go.Proofs.YtgfkeadgjkfomaaGreatDoor.Vc

theorem Pure.mono{P:Program}{f:FuncId}{args:Array Value}{w:World}{R R':Value->World->Prop}(h:Pure P f args w R)
  (hr:∀v w',Below w.heap.size w w'->R v w'->R' v w'):Pure P f args w R':=
 Calls.mono h fun e w' ⟨v,he,hb,hR⟩=>⟨v,he,hb,hr v w' hb hR⟩

theorem PureB.mono{P:Program}{f:FuncId}{args:Array Value}{B:Nat}{w:World}{R R':Value->World->Prop}(h:PureB P f args B w R)
  (hr:∀v w',Below B w w'->R v w'->R' v w'):PureB P f args B w R':=
 Calls.mono h fun e w' ⟨v,he,hb,hR⟩=>⟨v,he,hb,hr v w' hb hR⟩

theorem Below.step{B:Nat}{w0 w1 w2:World}(h:Below B w0 w1)(hB:B<=w0.heap.size)(k:Below w1.heap.size w1 w2):Below B w0 w2:=
 h.trans (k.mono (Nat.le_trans hB h.size))
theorem Below.ext{B:Nat}{ts:List Nat}{w0 w1 w2:World}(h:Below B w0 w1)(k:Ext B ts w1 w2):Below B w0 w2:=h.trans k.below

structure Good (w:World):Prop where
 size:8<=w.heap.size

theorem Good.below{B:Nat}{w w':World}(h:Good w)(hb:Below B w w')(hB:w.heap.size<=B):Good w':=
 ⟨Nat.le_trans h.size hb.size⟩
end Go.Proofs.YtgfkeadgjkfomaaGreatDoor.B
