/- Part 2 of the proofs that: What is stowed keeps the problem; lamps change by samples and by seeing alone. -/
import Derived.Test.YtbcojgcjjpggnaaGreatDoorK1
import Derived.Test.YtbcojgcjjpggnaaGreatDoorProg
set_option linter.unusedVariables false
set_option linter.unusedSimpArgs false
namespace Go.Proofs.YtbcojgcjjpggnaaGreatDoor.Vc
open Go Go.RowKit
section
variable {c:Cx} {b:Nat->Nat} {st:St} {T:Array Value} {wa:World} {o:Oper} {K:SV->St->Prop}

theorem fF{x:Operand}{v:Value}(he:pW b st.env T)(h:(ev st x).bind SV.val=some v):(act T).eval x=v:=by
 obtain⟨sv,h1,a⟩:=tm.1 h;rw[cG he h1,qa a b]

theorem JR(he:pW b st.env T):∀{l:List (Nat×Operand)} {vs:List (Nat×Value)},parts st l=some vs->l.map (fun p=>(p.1,(act T).eval p.2))=vs:=by
 intro l;induction l with
 |nil=>intro vs h;simp only[parts]at h;cases h;rfl
 |cons p r ih=>
  intro vs h;obtain⟨i,x⟩:=p;simp only[parts]at h;cases hx:(ev st x).bind SV.val with
  |none=>simp[hx]at h
  |some v=>
   cases a:parts st r with
   |none=>simp[hx,a]at h
   |some ws=>
    simp only[hx,a]at h;cases h;simp[ih a,fF he hx]

theorem yX(he:pW b st.env T){s:Sem Value}(h:qZ st o=some s):execOp (act T).eval o=(do pure (.value (<-s))):=by
 unfold qZ at h;cases j:o.op<;>simp only[j]at h<;>try (cases h;done)
 case call cl=>
  cases q:cl.callee with
  |builtin bi=>
   cases y:oV st cl.args.toList with
   |none=>cases bi<;>simp[q,y]at h
   |some vs=>
    have e:=Ak he y;have w:cl.args.map (act T).eval=vs.toArray:=by apply MY;simp[e]
    cases bi<;>simp only[q,y]at h<;>try (cases h;done)
    ·cases h;simp[execOp,j,resolve,q,w,invoke,builtin]
    ·cases h;simp[execOp,j,resolve,q,w,invoke,builtin]
    ·cases h;simp[execOp,j,resolve,q,w,invoke,builtin]
  |_=>simp[q]at h
 case buildSlice t n ps=>
  cases hp:parts st ps.toList with
  |none=>simp[hp]at h
  |some l=>
   rw[hp]at h;cases h;have e:=JR he hp;have w:(ps.map fun(i,x)=>(i,(act T).eval x))=l.toArray:=by apply MY;simp[<-e]
   simp[execOp,j,w]
 case makeSlice t l k=>
  cases hl:(ev st l).bind SV.val with
  |none=>simp[hl]at h
  |some a=>
   cases g:(ev st k).bind SV.val with
   |none=>simp[hl,g]at h
   |some d=>
    simp only[hl,g]at h;cases h;simp[execOp,j,fF he hl,fF he g]
 case convert src dst x=>
  cases hx:(ev st x).bind SV.val with
  |none=>simp[hx]at h
  |some a=>simp only[hx]at h;cases h;simp[execOp,j,fF he hx]
 case index t l k=>
  cases hl:(ev st l).bind SV.val with
  |none=>simp[hl]at h
  |some a=>
   cases g:(ev st k).bind SV.val with
   |none=>simp[hl,g]at h
   |some d=>
    simp only[hl,g]at h;cases h;simp[execOp,j,fF he hl,fF he g]
 case lookup t l k ok=>
  cases hl:(ev st l).bind SV.val with
  |none=>simp[hl]at h
  |some a=>
   cases g:(ev st k).bind SV.val with
   |none=>simp[hl,g]at h
   |some d=>
    simp only[hl,g]at h;cases h;simp[execOp,j,fF he hl,fF he g]
 case slice t x lo hi mx=>
  cases lo with
  |none=>
   cases hi with
   |some k=>simp at h
   |none=>
    cases mx with
    |some m=>simp at h
    |none=>
     simp only at h;cases hx:(ev st x).bind SV.val with
     |none=>simp[hx]at h
     |some a=>
      simp only[hx]at h;cases h;simp[execOp,j,fF he hx]
  |some l=>
   cases hi with
   |none=>simp at h
   |some k=>
    cases mx with
    |none=>simp at h
    |some m=>
     simp only at h;cases hx:(ev st x).bind SV.val with
     |none=>simp[hx]at h
     |some a=>
      cases hl:(ev st l).bind SV.val with
      |none=>simp[hx,hl]at h
      |some z=>
       cases g:(ev st k).bind SV.val with
       |none=>simp[hx,hl,g]at h
       |some d=>
        cases hm:(ev st m).bind SV.val with
        |none=>simp[hx,hl,g,hm]at h
        |some e=>
         simp only[hx,hl,g,hm]at h;cases h;simp[execOp,j,fF he hx,fF he hl,fF he g,fF he hm]
 case binOp op t l k pos=>
  cases op<;>simp only at h<;>try (cases h;done)
  cases hl:(ev st l).bind SV.val with
  |none=>simp[hl]at h
  |some a=>
   cases g:(ev st k).bind SV.val with
   |none=>simp[hl,g]at h
   |some d=>
    simp only[hl,g]at h;cases h;simp[execOp,j,fF he hl,fF he g,eqGuard]
 case makeMap t r=>
  cases r with
  |none=>simp only at h;cases h;simp[execOp,j]
  |some x=>
   simp only at h;cases hx:(ev st x).bind SV.val with
   |none=>simp[hx]at h
   |some a=>simp only[hx]at h;cases h;simp[execOp,j,fF he hx]

theorem pj{a:List rJ}{l:Nat}{x:rJ}(h:bB a l=some x):x.ty∈nU a:=by
 induction a with
 |nil=>simp[bB]at h
 |cons y r ih=>
  rw[cD]at h;simp only[nU];split at h
  ·cases h;simp
  ·simp[ih h]

theorem yl{j a:St}{v:Value}{w1:World}(d:Inv c b a T wa)(hw:a.w=wa)
  (g:Below c.B a.w w1) (nC:a.w.heap.size<=w1.heap.size)
  (l:∀(k ty:Nat)(cs:Array Value),ty∈nU a.boxes->a.w.heap[k]? =some (.cells cs ty (0,0))->w1.heap[k]? =a.w.heap[k]?)
  (h:behind c.P o.type a K v w1):Px c false o b j wa T K v w1:=by
 obtain⟨y,rfl,h⟩:=yk h;refine⟨b,_,_,h,rfl,?_,fun e=>by cases e⟩;refine⟨d.size,d.env,tf.yR (st:={a with w:=w1}) ⟨fun m x hm=> ?_,d.box.ne⟩,dT d.lo nC,rfl,fun m x hm i=> ?_,d.base.trans (hw▸g)⟩
 ·have:=d.box.at_ m x hm;refine⟨this.1,?_⟩;rw[<-hw]at this;rw[l _ _ _ (pj hm) this.2];exact this.2
 ·rw[rP hm]at i;cases i

theorem vG{t:TypeId}{m k x:Operand}(g:o.op= .mapUpdate t m k x∨o.op= .insert t m k x)(inv:Inv c b st T wa)(h:Ai c t m k x st K):AW c false b st T o wa K:=by
 unfold Ai at h;intro next Q hn
 split at h
 ·rename_i A B C ha j he;obtain⟨l,h,a,hw,n,D,_⟩:=cW inv h;obtain⟨w1,q,d,nC,r,y⟩:=h;unfold Oper.wp;have z:(execOp (act T).eval o).run c.P wa= .ok .skip w1:=by
   rw[<-hw];rcases g with g|g<;>simp[execOp,g,fF inv.env ha,fF inv.env j,fF inv.env he,Sem.run_bind,q]
  rw[z];refine hn _ _ ⟨b,.u,_,y,rfl,?_,fun e=>by cases e⟩;refine⟨a.size,a.env,tf.yR (st:={l with w:=w1}) ⟨fun m x hm=> ?_,a.box.ne⟩,dT a.lo nC,rfl,fun m x hm i=> ?_,a.base.trans (hw▸d)⟩
  ·have:=a.box.at_ m x hm;refine⟨this.1,?_⟩;rw[<-hw]at this;rw[r _ _ _ (pj hm) this.2];exact this.2
  ·rw[rP hm]at i;cases i
 ·exact h.elim

theorem yY{s:Sem Value}(j:execOp (act T).eval o=(do pure (.value (<-s))))(inv:Inv c b st T wa)(h:newAt c s st K):AW c false b st T o wa K:=by
 unfold newAt at h;intro next Q hn
 obtain⟨k,h,d,hw,l,z,_⟩:=cW inv h;obtain⟨v,w1,n,g,nC,q,a,rfl,r⟩:=h;unfold Oper.wp;have y:(execOp (act T).eval o).run c.P wa= .ok (.value (.pointer (some a))) w1:=by
  rw[j,<-hw];simp[Sem.run_bind,n]
 rw[y];refine hn _ _ ⟨b,_,_,r,rfl,?_,fun e=>by cases e⟩;refine⟨d.size,d.env,tf.yR (st:={k with w:=w1}) ⟨fun m x hm=> ?_,d.box.ne⟩,dT d.lo nC,rfl,fun m x hm i=> ?_,d.base.trans (hw▸g)⟩
 ·have:=d.box.at_ m x hm;refine⟨this.1,?_⟩;rw[<-hw]at this;rw[q _ _ _ (pj hm) this.2];exact this.2
 ·rw[rP hm]at i;cases i

theorem Hf(inv:Inv c b st T wa)(h:Po c o st K):AW c false b st T o wa K:=by
 unfold Po at h;intro next Q hn
 cases hs:qZ st o with
 |some s=>
  rw[hs]at h;obtain⟨w,h,i,hw,y,z,_⟩:=cW inv h;obtain⟨v,w1,j,d,nC,l,n⟩:=h;unfold Oper.wp;have q:(execOp (act T).eval o).run c.P wa= .ok (.value v) w1:=by
   rw[yX inv.env hs,<-hw];simp[Sem.run_bind,j]
  rw[q];exact hn _ _ (yl i hw d nC l n)
 |none=>
  rw[hs]at h;cases e:o.op<;>simp only[e]at h<;>try exact h.elim
  case mapUpdate t m k x=>exact vG (.inl e) inv h next Q hn
  case insert t m k x=>exact vG (.inr e) inv h next Q hn
  case alloc t=>exact yY (by simp[execOp,e]) inv h next Q hn
  case box t x=>
   cases hx:(ev st x).bind SV.val with
   |none=>simp[hx]at h
   |some a=>rw[hx]at h;exact yY (by simp[execOp,e,fF inv.env hx]) inv h next Q hn
  rename_i cl;cases r:cl.callee with
  |value x=>
   simp only[r]at h;split at h
   ·rename_i g first cap vs hx A
    have ex:=cG inv.env hx;have B:=Ak inv.env A;obtain⟨w,h,i,hw,y,z,_⟩:=cW inv h;obtain⟨v,w1,j,d,nC,l,n⟩:=h;unfold Oper.wp;have C:(first++cl.args.map (act T).eval)++cap=(first.toList++vs++cap.toList).toArray:=by
     apply MY;simp[<-B]
    have q:(execOp (act T).eval o).run c.P wa= .ok (.value v) w1:=by
     rw[<-hw];simp only[execOp,e,Sem.run_bind,resolve,r,ex,SV.den,Deferred.ofValue,Sem.run_pure,Result.andThen_ok,invoke,C,j]
    rw[q];exact hn _ _ (yl i hw d nC l n)
   ·exact h.elim
  |_=>simp[r]at h

theorem JS{q:Bool}{s:Sem Value}(j:execOp (act T).eval o=(do pure (.value (<-s))))(inv:Inv c b st T wa)(h:XU c s st K):AW c q b st T o wa K:=by
 unfold XU at h;intro next Q hn
 obtain⟨g,h,e,hw,k,A,l⟩:=cW inv h;obtain⟨v,w1,n,d,nC,r,a,rfl,y⟩:=h;unfold Oper.wp;have z:(execOp (act T).eval o).run c.P wa= .ok (.value (.pointer (some a))) w1:=by
  rw[j,<-hw];simp[Sem.run_bind,n]
 rw[z];have hb:Below c.B g.w w1:=d.mono e.lo;refine hn _ _ ⟨b,_,_,y,rfl,?_,fun _=> ?_⟩
 ·refine⟨e.size,e.env,tf.yR (st:={g with w:=w1}) ⟨fun m x hm=> ?_,e.box.ne⟩,dT e.lo nC,rfl,fun m x hm i=> ?_,e.base.trans (hw▸hb)⟩
  ·have:=e.box.at_ m x hm;refine⟨this.1,?_⟩;rw[<-hw]at this;rw[r _ _ _ (pj hm) this.2];exact this.2
  ·rw[rP hm]at i;cases i
 ·rw[hw]at d;exact(l.yR).kept _ _ _ _ d.size d.block

theorem ER{q:Bool}(inv:Inv c b st T wa)(h:JG c o st K):AW c q b st T o wa K:=by
 unfold JG at h;intro next Q hn
 cases hs:qZ st o with
 |none=>
  rw[hs]at h;cases g:o.op<;>simp only[g]at h<;>try exact h.elim
  rename_i t;exact JS (by simp[execOp,g]) inv h next Q hn
 |some s=>
  rw[hs]at h;obtain⟨i,h,d,hw,A,C,k⟩:=cW inv h;obtain⟨v,w1,l,a,nC,n,e⟩:=h;unfold Oper.wp;have r:(execOp (act T).eval o).run c.P wa= .ok (.value v) w1:=by
   rw[yX inv.env hs,<-hw];simp[Sem.run_bind,l]
  rw[r];have hb:Below c.B i.w w1:=a.mono d.lo;obtain⟨y,z,e⟩:=yk e;subst z;refine hn _ _ ⟨b,_,_,e,rfl,?_,fun _=> ?_⟩
  ·refine⟨d.size,d.env,tf.yR (st:={i with w:=w1}) ⟨fun m x hm=> ?_,d.box.ne⟩,dT d.lo nC,rfl,fun m x hm j=> ?_,d.base.trans (hw▸hb)⟩
   ·have:=d.box.at_ m x hm;refine⟨this.1,?_⟩;rw[<-hw]at this;rw[n _ _ _ (pj hm) this.2];exact this.2
   ·rw[rP hm]at j;cases j
  ·rw[hw]at a;exact(k.yR).kept _ _ _ _ a.size a.block

theorem xq{dyn:Bool}(inv:Inv c b st T wa)(h:rK dyn c o st K):AW c false b st T o wa K:=by
 unfold rK at h;intro next Q hn
 cases j:o.op<;>simp only[j]at h<;>try exact h.elim
 rename_i cl;cases i:cl.callee with
 |value x=>
  simp only[i]at h;split at h
  ·rename_i g first cap vs hx l
   have ex:=cG inv.env hx;have m:=Ak inv.env l;have cB:az c.P g=true/\gZ c.B st fun st=>cI c.P g (first.toList++vs++cap.toList).toArray c.B st.w fun v w1=>
     (∀(k ty:Nat)(cs:Array Value),ty∈nU st.boxes->st.w.heap[k]? =some (.cells cs ty (0,0))->w1.heap[k]? =st.w.heap[k]?)/\behind c.P o.type st K v w1:=by
    unfold Ae at h;cases dyn with
    |true=>exact h
    |false=>
     simp only at h;cases a:az c.P g with
     |false=>rw[a]at h;exact h.elim
     |true=>rw[a]at h;exact⟨rfl,h⟩
   obtain⟨a,h⟩:=cB
   ·obtain⟨C,h,n,hw,D,E,_⟩:=cW inv h;unfold Oper.wp;have q:(execOp (act T).eval o).run c.P wa= .ok (.enter g (first.toList++vs++cap.toList).toArray) wa:=by
     have r:(first++cl.args.map (act T).eval)++cap=(first.toList++vs++cap.toList).toArray:=by
      apply MY;simp[<-m]
     unfold az at a;cases hf:c.P.funcs[g]? with
     |none=>simp[hf]at a
     |some fn=>
      cases hb:fn.body with
      |none=>simp[hf,hb]at a
      |some F=>
       simp only[hf,hb]at a
       have hn : fn.name ≠ "runtime.NumGoroutine" := by
        intro e;simp[e]at a
       simp only[execOp,j,Sem.run_bind,resolve,i,ex,SV.den,Deferred.ofValue,Sem.run_pure,Result.andThen_ok,invoke,r];simp[callFunc,program,Sem.run_bind,Sem.run,hf,hb,hn]
    rw[q,Oper.upon_enter];rw[hw]at h;refine Calls.mono h fun e y he=> ?_
    obtain⟨v,rfl,d,z,A⟩:=he;exact hn _ _ (yl n hw (by rw[hw];exact d) (by rw[hw];exact d.size) (by rw[hw];exact z) A)
  ·exact h.elim
 |_=>simp[i]at h

theorem mY{m:Nat}{q:Bool}(e:q=true->pY o=false)(hs:∀cs q,o.op≠ .select cs q)(inv:Inv c b st T wa)(h:uN c m o st K):AW c q b st T o wa K:=by
 unfold uN at h;cases he:GY o.op with
 |true=>rw[he]at h;exact EP e inv h
 |false=>
  rw[he]at h;simp only at h;have gen:∀{raw},value c raw none none o st (fun x=>K x st)->AW c q b st T o wa K:=fun a=>
   vF inv (Same.refl _) (AO.Py (lw:=none) inv (fun v a=>by cases a)) (qb (fun _ _ h=>h) inv.env hs a)
  split at h
  ·split at h
   ·obtain⟨g,h,d,hw,_,_,i⟩:=cW inv h;exact vF d i (AO.Py (lw:=some g.w) d (fun v a=>by cases a;exact hw)) (qb (fun _ _ h=>h) d.env hs h)
   ·exact gen h
  ·exact gen h

theorem yZ{G i:Nat}(hs:∀cs q,o.op≠ .select cs q)(inv:Inv c b st T wa)(h:Pp c G i o st K):AW c (jm (fN c.mode G i) o) b st T o wa K:=by
 unfold Pp at h;unfold jm;split at h
 ·rename_i e;rw[e];exact Hf inv h
 ·rename_i e;rw[e];exact xq inv h
 ·rename_i e;rw[e];exact xq inv h
 ·rename_i e;rw[e];obtain⟨H,h,g,j⟩:=vD _ _ inv h;intro next Q hn
  refine mY (q:= !pY o) (fun e=>by simpa using e) hs g h next Q fun v w' ⟨k,x,m,h1,n,r,w⟩=>hn v w' ⟨k,x,m,h1,n,r,fun e=> ?_⟩
  obtain⟨A,B,a⟩:=w e;exact⟨A,B,fun l hl=>⟨(a l hl).1,fun C D=>by
   obtain⟨y,hy,E,d⟩:=(a l hl).2 C D;obtain⟨z,hz,f1,f2⟩:=j l y hy;exact⟨z,hz,f1.trans E,f2.trans d⟩⟩⟩
 ·rename_i e;rw[e];obtain⟨H,h,g,j⟩:=AV _ _ inv h;intro next Q hn
  refine mY (q:= !pY o) (fun e=>by simpa using e) hs g h next Q fun v w' ⟨k,x,m,h1,n,r,w⟩=>hn v w' ⟨k,x,m,h1,n,r,fun e=> ?_⟩
  obtain⟨A,B,a⟩:=w e;exact⟨A,B,fun l hl=>⟨(a l hl).1,fun C D=>by
   obtain⟨y,hy,E,d⟩:=(a l hl).2 C D;obtain⟨z,hz,f1,f2⟩:=j l y hy;exact⟨z,hz,f1.trans E,f2.trans d⟩⟩⟩
 ·rename_i e;rw[e];obtain⟨H,h,g,j⟩:=vD _ _ inv h;intro next Q hn
  refine mY (q:= !pY o) (fun e=>by simpa using e) hs g h next Q fun v w' ⟨k,x,m,h1,n,r,w⟩=>hn v w' ⟨k,x,m,h1,n,r,fun e=> ?_⟩
  obtain⟨A,B,a⟩:=w e;exact⟨A,B,fun l hl=>⟨(a l hl).1,fun C D=>by
   obtain⟨y,hy,E,d⟩:=(a l hl).2 C D;obtain⟨z,hz,f1,f2⟩:=j l y hy;exact⟨z,hz,f1.trans E,f2.trans d⟩⟩⟩
 ·exact ER inv h
 ·rename_i d I F M J L N;split
  ·rename_i e;exact absurd e d
  ·rename_i e;exact absurd e I
  ·rename_i e;exact absurd e F
  ·exact mY (fun e=>by simpa using e) hs inv h

theorem lu{dst:Option Tmp}{x:SV}{v:Value}{K:St->Prop}(inv:Inv c b st T wa)(g:v=x.den b)(h:put c.N st dst x K):
  ∃a,K a/\Inv c b a ((act T).put dst v).tmps wa/\(act T).put dst v=act ((act T).put dst v).tmps/\a.boxes=st.boxes:=by
 unfold put at h;cases dst with
 |none=>exact⟨st,h,inv,rfl,rfl⟩
 |some s=>
  simp only at h;cases hl:Nat.blt s c.N with
  |false=>rw[hl]at h;exact h.elim
  |true=>
   rw[hl]at h;have d:s<c.N:=by simpa[Tz]using hl
   refine⟨_,h,⟨?_,fun t y hy=> ?_,inv.box,inv.lo,inv.ext,inv.new,inv.base⟩,rfl,rfl⟩
   ·simp[Act.put,act,inv.size]
   ·simp only[iR,pg]at hy;simp only[Act.put,act];have i:=inv.size;by_cases e:s=t
    ·subst e;simp only[CM]at hy;cases hy;rw[Jw (Nat.lt_of_lt_of_eq d i.symm),g]
    ·rw[aq e,aq (oi e)]at hy;rw[Bx e];exact inv.env t y hy

theorem JT(he:pW b st.env T){ops:Array Oper}{j s:Nat}{x:SV}(hj:(ops.toList[j]?).bind (·.dst)=some s)(hx:get st.env s=some x):
  yielded ops T j=match x.den b with| .bool t=>some t|_=>none:=by
 have e:(ops[j]?).bind (·.dst)=some s:=by simpa using hj
 unfold yielded;rw[e];simp[he s x hx];cases x.den b<;>rfl

theorem Hg{s:Nat}{x:SV}{t:Bool}(inv:Inv c b st T wa)(hx:get st.env s=some x)(a:x.den b= .bool t):Inv c b (Aj st s t) T wa:=by
 refine⟨inv.size,fun m y hy=> ?_,inv.box,inv.lo,inv.ext,inv.new,inv.base⟩;simp only[Aj,iR,pg]at hy;by_cases e:s=m
 ·subst e;simp only[CM]at hy;cases hy;rw[inv.env s x hx,a];cases t<;>rfl
 ·rw[aq e,aq (oi e)]at hy;exact inv.env m y hy

theorem mZ{ops:Array Oper}{K:Bool->St->Prop}(inv:Inv c b st T wa)(h:guarded ops o st K):
  ∃a,K (Region.wanted o (yielded ops T)) a/\Inv c b a T wa/\a.boxes=st.boxes:=by
 unfold guarded at h;unfold Region.wanted;cases hg:o.guard with
 |none=>rw[hg]at h;exact⟨st,h,inv,rfl⟩
 |some g=>
  obtain⟨j,want⟩:=g;rw[hg]at h;simp only at h⊢;cases hj:(ops.toList[j]?).bind (·.dst)with
  |none=>rw[hj]at h;exact h.elim
  |some s=>
   rw[hj]at h;simp only at h;cases hx:get st.env s with
   |none=>rw[hx]at h;exact h.elim
   |some x=>
    rw[hx]at h;have hy:=JT inv.env hj hx;have gen:(yf x fun t=>K (Dz t want) (Aj st s t))->∃a,K (yielded ops T j==some want) a/\Inv c b a T wa/\a.boxes=st.boxes:=fun h=>by
     obtain⟨t,d,h⟩:=rM (b:=b) h;rw[d]at hy;refine⟨_,?_,Hg inv hx d,rfl⟩;rw[hy];cases t<;>cases want<;>exact h
    cases x with
    |u=>
     simp only at h;refine⟨st,?_,inv,rfl⟩;rw[hy];cases want<;>exact h
    |_=>exact gen h

theorem JU{q:Bool}{b0:Nat->Nat}{a:St}{d:Act->World->Prop}{K:St->Prop}{v:Value}{w':World}
  (h:Px c q o b0 a wa T (fun x st=>put c.N st o.dst x K) v w') (hn:∀b st g w',K st->Inv c b st g w'->(q=true->Kept o b0 a wa b st w')->d (act g) w'):d ((act T).put o.dst v) w':=by
 obtain⟨A,x,B,hp,i,j,k⟩:=h;obtain⟨C,m,n,e,hb⟩:=lu j i hp;rw[e];exact hn _ _ _ _ m n fun r=>by
  obtain⟨w,y,z⟩:=k r;exact⟨w,y,fun l hl=>by rw[hb];exact z l hl⟩

theorem tN{k i:Nat}{ops:Array Oper}{Q:Exit->Act->World->Prop}{m:Act->World->Prop}{K:St->Prop}(hs:∀cs q,o.op≠ .select cs q)(inv:Inv c b st T wa)(h:yT c k ops i o st K)
  (hi:ops[i]? =some o) (hn:∀a d g w',K d->Inv c a d g w'->(jm (fN c.mode k i) o=true->Kept o b st wa a d w')->m (act g) w'):wpOp c.P ops Q i m (act T) wa:=by
 unfold yT at h;obtain⟨d,h,n,r⟩:=mZ inv h;unfold wpOp;simp only[hi];have y:yielded ops (act T).tmps=yielded ops T:=rfl;rw[y];cases hw:Region.wanted o (yielded ops T)with
 |true=>
  rw[hw]at h;simp only[CM];exact .inl (yZ hs n h _ _ fun v w' ha=>JU ha fun a w g j h1 z A=>hn a w g j h1 z fun B=>by
   obtain⟨C,D,E⟩:=A B;exact⟨C,D,fun l hl=>by rw[<-r];exact E l hl⟩)
 |false=>
  rw[hw]at h;simp only[Ep,xt];obtain⟨w,F,G,e,hb⟩:=lu n (v:=undef) rfl h;rw[e];exact hn _ _ _ _ F G fun _=>Same.kept (fun l x hx=>by rw[hb,r]at hx;exact⟨x,hx,rfl,rfl⟩) _ _ _ _ lf fun _ _=>rfl

theorem ES{d:Nat}{ops:Array Oper}{Q:Exit->Act->World->Prop}{K:St->Prop}(e:∀b st a w',K st->Inv c b st a w'->Q .normal (act a) w')(g:∀(j:Nat) o cs q,ops[j]? =some o->o.op≠ .select cs q):
  ∀(l:List Oper)(i:Nat),(∀k,l[k]? =ops[i+k]?)->∀(b:Nat->Nat)(st:St)(T:Array Value)(wa:World),Inv c b st T wa->EF c d ops i l st K->wpOps c.P ops Q (List.range' i l.length) (act T) wa:=by
 intro l;induction l with
 |nil=>
  intro i _ b st T wa inv h;simp only[vu,List.range'_zero,wpOps];exact e _ _ _ _ h inv
 |cons o r ih=>
  intro i hl b st T wa inv h;simp only[EF]at h;have hi:ops[i]? =some o:=by simpa using(hl 0).symm
  simp only[eR,List.range'_succ];rw[wpOps_cons];exact tN (fun cs q=>g i o cs q hi) inv h hi fun b st a w' m n _=>
   ih (i+1) (fun k=>by have:=hl (k+1);simpa[Ij,LP 1 k]using this) b st a w' n m
end
section any
variable {P:Program} {ops:Array Oper} {Q:Exit->Act->World->Prop} {S:World->Prop} {qt:Nat->Bool}

def wF(P:Program)(ops:Array Oper)(Q:Exit->Act->World->Prop)(S:World->Prop)(qt:Nat->Bool):Nat->Array Bool->Act->World->Prop
 |0,l,a,w=>Region.ready .any ops l=[]/\Q .normal a w
 |n+1,l,a,w=>(Region.ready .any ops l=[]->Q .normal a w)/\
  ∀i∈Region.ready .any ops l,wpOp P ops Q i (fun b w'=>(qt i=true->S w->S w')/\wF P ops Q S qt n (l.setIfInBounds i true) b w') a w

theorem wF.wpAny:∀(n:Nat)(l:Array Bool)(a:Act)(w:World),wF P ops Q S qt n l a w->wpAny P .any ops Q n l a w
 |0,_,_,_,h=>h
 |n+1,_,_,_,h=>⟨h.1,fun i hi=>wpOp_mono (fun b w' d=>wF.wpAny n _ b w' d.2) (h.2 i hi)⟩

theorem wF.first{S':World->Prop}{i:Nat}{q:Oper}{v:Value}{late:Nat->Prop}(hi:ops[i]? =some q)(G:∀(j:Nat) o cs b,ops[j]? =some o->o.op≠ .select cs b)
  (M:∀c a w,Q (.panic c) (a.put q.dst v) w->Q (.panic c) a w)
  (N:∀j d,ops[j]? =some d->late j->∃e∈d.after,Region.binds .any e=true/\(e.on=i∨late e.on)):
  ∀(n:Nat)(l:Array Bool)(a:Act)(w:World),
   (∀j d,ops[j]? =some d->j≠i->l.getD j true=false->¬late j->
    q.apart ops d=true/\∀w w',(qt j=true->S w->S w')->S' w->S' w')->
   (∀j,late j->l.getD j false=false)->
   i∈Region.ready .any ops l->YieldsIf P ops S' q v a->S' w->
   wF P ops Q S qt n (l.setIfInBounds i true) (a.put q.dst v) w->wF P ops Q S qt (n+1) l a w:=by
 intro n;induction n with
 |zero=>
  intro l a w _ _ m hy y H;refine⟨fun h=>(by rw[h]at m;cases m),fun j hj=> ?_⟩;by_cases g:j=i
  ·subst g;exact hy.wpOp hi y ⟨fun _ h=>h,H⟩
  ·have:=ready_mono hj g;rw[H.1]at this;cases this
 |succ n ih=>
  intro l a w I J m hy y H;refine⟨fun h=>(by rw[h]at m;cases m),fun j hj=> ?_⟩;by_cases g:j=i
  ·subst g;exact hy.wpOp hi y ⟨fun _ h=>h,H⟩
  ·have h1:=H.2 j (ready_mono hj g);obtain⟨r,d,z,O⟩:=mem_ready.1 hj;have x:¬late j:=fun D=>by
    obtain⟨e,he,hb,R⟩:=N j d z D;have h1:=O e he hb;rcases R with heq|hl
    ·have K:=(mem_ready.1 m).1;rw[heq]at h1;rcases Hm i l.size with E|E
     ·simp[E]at K h1;rw[K]at h1;cases h1
     ·simp[ui E]at h1
    ·rw[J _ hl]at h1;cases h1
   obtain⟨T,U⟩:=I j d z g r x;have V:=wpOp_putIf z T (fun cs b=>G i q cs b hi) (fun cs b=>G j d cs b z) M hy h1;refine wpOp_mono (fun W w' A=>⟨A.2.1,?_⟩) V;have X:=U w w' A.2.1 y;refine ih (l.setIfInBounds j true) W w' (fun k ok B F L Y=> ?_) (fun k B=> ?_) (ready_mono m (oi g)) A.1 X ?_
   ·refine I k ok B F ?_ Y;by_cases C:j=k
    ·subst C;exact r
    ·rw[getD_set_ne true C]at L;exact L
   ·have C:j≠k:=fun e=>x (e▸B)
    rw[getD_set_ne false C];exact J k B
   ·rw[Array.setIfInBounds_comm _ _ g];exact A.2.2
end any

section
variable {c:Cx}

theorem cQ{n:Nat}:∀{l:List Nat},lI n l=true↔n∈l:=by
 intro l;induction l with
 |nil=>simp[lI]
 |cons x r ih=>
  simp only[lI];cases h:Nat.beq x n with
  |true=>have:=beq_true h;simp[this]
  |false=>
   have:=beq_false h;simp only[ih,cy];constructor
   ·exact .inr
   ·rintro(h|h)
    ·exact absurd h.symm this
    ·exact h

def Rel(ops:Array Oper)(listed:List Nat)(arr:Array Bool):Prop:=arr.size=ops.size/\∀j,j<ops.size->arr.getD j true=lI j listed

theorem Rel.cons{ops:Array Oper}{listed:List Nat}{arr:Array Bool}(h:Rel ops listed arr)(i:Nat):Rel ops (i::listed) (arr.setIfInBounds i true):=by
 refine⟨by simp[h.1],fun j hj=> ?_⟩;have:=h.2 j hj;have a:j<arr.size:=by rw[h.1];exact hj
 simp only[lI];cases e:Nat.beq i j with
 |true=>have:=beq_true e;subst this;simp[a]
 |false=>have b:=beq_false e;rw[getD_set_ne true b];exact this

theorem Rel.pk{ops:Array Oper}{listed:List Nat}{arr:Array Bool}(h:Rel ops listed arr){j:Nat}(hj:j<ops.size):arr.getD j false=lI j listed:=by
 have:=h.2 j hj;have a:j<arr.size:=by rw[h.1];exact hj
 simp[a]at this⊢;exact this

theorem wG{ops:Array Oper}{listed:List Nat}{arr:Array Bool}(h:Rel ops listed arr)(w:∀(j:Nat) o,ops[j]? =some o->∀e∈o.after,Region.binds .any e=true->e.on<ops.size):
  ∀(l:List Oper)(i:Nat),(∀k,l[k]? =ops[i+k]?)->∀j,j∈fZ listed i l↔i<=j/\j∈Region.ready .any ops arr:=by
 intro l;induction l with
 |nil=>
  intro i hl j;simp only[fZ,fX,false_iff,not_and];intro A hj;obtain⟨_,o,ho,_⟩:=mem_ready.1 hj;have:=hl (j - i);rw[show i+(j - i)=j by omega,ho]at this;simp at this
 |cons o r ih=>
  intro i hl j;have hi:ops[i]? =some o:=by simpa using(hl 0).symm
  have d:i<ops.size:=(ax.1 hi).1;have x:=ih (i+1) (fun k=>by have:=hl (k+1);simpa[Ij,LP 1 k]using this);have y:i∈Region.ready .any ops arr↔(lI i listed|| !(o.after.toList.all fun e=> !Region.binds .any e||lI e.on listed))=false:=by
   rw[mem_ready,h.2 i d];simp only[Bool.or_eq_false_iff,Bool.not_eq_false',gu,Jl,GK];constructor
   ·rintro⟨g,o',z,m⟩;rw[hi]at z;cases z;refine⟨g,fun e he=> ?_⟩;have b:e∈o.after:=by simpa using he
    cases hb:Region.binds .any e with
    |false=>exact .inl rfl
    |true=>have:=m e b hb;rw[h.pk (w i o hi e b hb)]at this;exact .inr this
   ·rintro⟨g,m⟩;refine⟨g,o,hi,fun e he hb=> ?_⟩;rw[h.pk (w i o hi e he hb)];exact(m e (by simpa using he)).resolve_left (by simp[hb])
  simp only[fZ];cases n:(lI i listed|| !(o.after.toList.all fun e=> !Region.binds .any e||lI e.on listed))with
  |true=>
   have hn:¬i∈Region.ready .any ops arr:=fun hm=>by rw[y.1 hm]at n;cases n
   simp only[x];constructor
   ·rintro⟨h1,a⟩;exact⟨om,a⟩
   ·rintro⟨h1,a⟩;refine⟨?_,a⟩;rcases Hm i j with q|q
    ·omega
    ·have:i=j:=om;subst this;exact absurd a hn
  |false=>
   have hy:=y.2 n;simp only[cy,x];constructor
   ·rintro(rfl|⟨h1,a⟩)
    ·exact⟨fs _,hy⟩
    ·exact⟨om,a⟩
   ·rintro⟨h1,a⟩;rcases Hm i j with q|q
    ·exact .inr ⟨om,a⟩
    ·exact .inl om

theorem vJ{j:Nat}{ops:Array Oper}{listed:List Nat}{i:Nat}{d:Oper}{late:List Nat}:∀(l:List Oper)(a:Nat),re c j ops listed i d late a l=true->
  ∀k o,l[k]? =some o->a+k≠i->(match jt d&& !jm (fN c.mode j (a+k)) o with
   |true=>lI (a+k) listed=false/\lI (a+k) late=true
   |false=>lI (a+k) listed=true∨lI (a+k) late=true∨d.apart ops o=true):=by
 intro l;induction l with
 |nil=>intro a _ k o b;simp at b
 |cons x r ih=>
  intro a h k o b g;simp only[re,cz]at h;cases k with
  |zero=>
   simp only[List.getElem?_cons_zero,CY]at b;subst b;have h1:=h.1;rw[Jl]at h1;have h1:=h1.resolve_left (by simpa using g);simp only[tT];split at h1
   ·rename_i e;rw[e];simpa using h1
   ·rename_i e;rw[e];simpa[or_assoc]using h1
  |succ k=>
   have:=ih (a+1) h.2 k o (by simpa using b) om;rw[show a+1+k=a+(k+1) by omega]at this;exact this

theorem AZ{ops:Array Oper}{listed:List Nat}{i:Nat}:∀(l:List Oper)(a:Nat)(acc:List Nat),(∀k,l[k]? =ops[a+k]?)->
  (∀j b,ops[j]? =some b->lI j acc=true->lI j listed=false/\∃e∈b.after,Region.binds .any e=true/\(e.on=i∨lI e.on acc=true))->(∀j,lI j acc=true->lI j listed=false)->
  (∀j b,ops[j]? =some b->lI j (rb listed i a l acc)=true->∃e∈b.after,Region.binds .any e=true/\(e.on=i∨lI e.on (rb listed i a l acc)=true))/\(∀j,lI j (rb listed i a l acc)=true->lI j listed=false):=by
 intro l;induction l with
 |nil=>intro a acc _ h g;exact⟨fun j b ho hj=>(h j b ho hj).2,g⟩
 |cons o r ih=>
  intro a acc hl h g;have m:ops[a]? =some o:=by simpa using(hl 0).symm
  have d:∀k,r[k]? =ops[a+1+k]? :=fun k=>by have:=hl (k+1);simpa[Ij,LP 1 k]using this
  simp only[rb];cases w:(!lI a listed&&o.after.toList.any fun e=>Region.binds .any e&&(Nat.beq e.on i||lI e.on acc))with
  |false=>exact ih (a+1) acc d h g
  |true=>
   simp only[cz,GK,pe,Jl]at w;obtain⟨hu,e,he,hb,n⟩:=w;have grow:∀k,lI k acc=true->lI k (a::acc)=true:=fun k x=>cQ.2 (by simp[cQ.1 x])
   refine ih (a+1) (a::acc) d (fun j b ho hj=> ?_) fun j hj=> ?_
   ·rcases cy.1 (cQ.1 hj)with rfl|hj
    ·rw[m]at ho;cases ho;refine⟨hu,e,by simpa using he,hb,?_⟩;rcases n with q|q
     ·exact .inl (beq_true q)
     ·exact .inr (grow _ q)
    ·obtain⟨y,e,he,hb,n⟩:=h j b ho (cQ.2 hj);exact⟨y,e,he,hb,n.imp id (grow _)⟩
   ·rcases cy.1 (cQ.1 hj)with rfl|hj
    ·exact hu
    ·exact g j (cQ.2 hj)

theorem tO{b:Nat}{ops:Array Oper}{listed:List Nat}:∀{l:List Nat} {i:Nat},lk c b ops listed l=some i->
  i∈l/\∃o,ops[i]? =some o/\early o=true/\re c b ops listed i o (rb listed i 0 ops.toList []) 0 ops.toList=true:=by
 intro l;induction l with
 |nil=>intro i h;simp[lk]at h
 |cons x r ih=>
  intro i h;simp only[lk]at h;cases hx:ops.toList[x]? with
  |none=>simp[hx]at h
  |some o=>
   simp only[hx]at h;cases a:early o&&re c b ops listed x o (rb listed x 0 ops.toList []) 0 ops.toList with
   |true=>
    rw[a]at h;cases h;simp only[cz]at a;exact⟨sm,o,by simpa using hx,a.1,a.2⟩
   |false=>
    rw[a]at h;obtain⟨h1,d⟩:=ih h;exact⟨by simp[h1],d⟩

theorem DG:∀{l:List Nat} {z:Prop} {K:Nat->Prop},DA l z K->l≠[]->∀i∈l,K i:=by
 intro l;induction l with
 |nil=>intro z K _ h;exact absurd rfl h
 |cons x r ih=>
  intro z K h _ i hi;cases r with
  |nil=>simp only[DA]at h;rw[ec.1 hi];exact h
  |cons y s=>
   simp only[DA]at h;rcases cy.1 hi with rfl|hi
   ·exact h.1
   ·exact ih h.2 sm i hi

def mD(b0:Nat->Nat)(b:St)(lw:Option World)(hold:List Nat)(w:World):Prop:=
 (∀l∈hold,∀x,bB b.boxes l=some x->w.heap[b0 l]? =some (.cells x.cells.toArray x.ty (0,0)))/\∀v,lw=some v->∀a u,v.cell? a=some u->w.cell? a=some u

theorem mD.av{b0:Nat->Nat}{b:St}{lw:Option World}{hold:List Nat}{w w':World}(h:mD b0 b lw hold w)(d:∀k,k<w.heap.size->w'.heap[k]? =w.heap[k]?):mD b0 b lw hold w':=by
 refine⟨fun l hl x hx=> ?_,fun v e a u hu=> ?_⟩
 ·have:=h.1 l hl x hx;rw[d _ (ax.1 this).1];exact this
 ·have:=h.2 v e a u hu;rw[World.cell?_of_block (d _ (World.block_lt_of_cell? w a this))];exact this

def quietAt(c:Cx)(a:Nat)(ops:Array Oper)(j:Nat):Bool:=match ops[j]? with
 |some o=>jm (fN c.mode a j) o
 |none=>true

def Still(c:Cx)(e:Nat)(ops:Array Oper)(b0:Nat->Nat)(d:St)(lw:Option World)(hold:List Nat)(listed:List Nat)(b:Nat->Nat)(st:St)(w:World):Prop:=
 (∀j∈listed,quietAt c e ops j=true)->mD b0 d lw hold w/\∀l∈hold,b l=b0 l/\∀a,bB st.boxes l=some a->∃x,bB d.boxes l=some x/\x.cells=a.cells/\x.ty=a.ty

theorem CW{o:Oper}{l:Nat}:∀{ops:List Oper},o∈ops->th o=true->o.dst=some l->l∈oW ops:=by
 intro ops;induction ops with
 |nil=>intro h;cases h
 |cons x r ih=>
  intro h hn a;simp only[oW];rcases cy.1 h with rfl|h
  ·unfold th at hn;split at hn
   ·rename_i e;rw[e,a];simp
   ·rename_i e;rw[e,a];simp
   ·cases hn
  ·have:=ih h hn a;split<;>simp[this]

theorem CX{B:Nat}{ops:Array Oper}{Q:Exit->Act->World->Prop}{K:St->Prop}{lw:Option World}{hold:List Nat}{b0:Nat->Nat}{g:St}
  (hq:∀b st I w',K st->Inv c b st I w'->Q .normal (act I) w') (hQ:∀ch a w,¬Q (.panic ch) a w)
  (J:∀(j:Nat) o cs q,ops[j]? =some o->o.op≠ .select cs q) (DF:∀(j:Nat) o,ops[j]? =some o->∀e∈o.after,Region.binds .any e=true->e.on<ops.size)
  (fB:∀l∈hold,∀(j:Nat) o,ops[j]? =some o->th o=true->o.dst≠some l):
  ∀(n:Nat)(listed:List Nat)(arr:Array Bool)(b:Nat->Nat)(st:St)(T:Array Value)(w:World),Rel ops listed arr->Inv c b st T w->
   Still c B ops b0 g lw hold listed b st w->pZ c B ops lw hold n listed st K->wF c.P ops Q (mD b0 g lw hold) (quietAt c B ops) n arr (act T) w:=by
 intro n;induction n with
 |zero=>
  intro listed arr b st T w d inv L h;simp only[pZ]at h;have hr:Region.ready .any ops arr=[]:=by
   cases he:fZ listed 0 ops.toList with
   |nil=>
    refine B5.2 fun j hj=> ?_
    have:=(wG d DF ops.toList 0 (fun k=>by simp) j).2 ⟨Sy _,hj⟩;rw[he]at this;cases this
   |cons x r=>simp[he]at h
  refine⟨hr,?_⟩;have N:fZ listed 0 ops.toList=[]:=by
   cases he:fZ listed 0 ops.toList with
   |nil=>rfl
   |cons x r=>simp[he]at h
  rw[N]at h;exact hq _ _ _ _ h inv
 |succ n ih=>
  intro listed arr b st T w d inv L h;have O:=fun j=>wG d DF ops.toList 0 (fun k=>by simp) j
  simp only[pZ]at h;cases hf:lk c B ops listed (fZ listed 0 ops.toList)with
  |some i=>
   simp only[hf]at h;obtain⟨D,o,hi,ET,R⟩:=tO hf;have Hj:ops.toList[i]? =some o:=by simpa using hi
   simp only[Hj]at h;have U:=((O i).1 D).2;obtain⟨V,h,E,vE⟩:=mZ inv h;have W:i<ops.size:=(ax.1 hi).1;have X:=fun j m (hj:ops[j]? =some m) (A:j≠i)=>vJ ops.toList 0 R j m (by simpa using hj) om
   simp only[jx]at X;obtain⟨za,XZ⟩:=AZ (ops:=ops) (listed:=listed) (i:=i) ops.toList 0 [] (fun k=>by simp) (fun j m _ hj=>by cases hj) (fun j hj=>by cases hj);have Hh:∀j,lI j (rb listed i 0 ops.toList [])=true->arr.getD j false=false:=fun j hj=>by
    by_cases Y:j<ops.size
    ·rw[d.pk Y];exact XZ j hj
    ·rw[QX,ui (by rw[d.1];omega)];rfl
   have zb:∀j m,ops[j]? =some m->j≠i->arr.getD j true=false->¬lI j (rb listed i 0 ops.toList [])=true->
     o.apart ops m=true/\∀w w',(quietAt c B ops j=true->mD b0 g lw hold w->mD b0 g lw hold w')->(jt o=true->mD b0 g lw hold w)->(jt o=true->mD b0 g lw hold w'):=by
    intro j m hj A Jk DE;have hs:=X j m hj A;have Y:j<ops.size:=(ax.1 hj).1;have An:lI j listed=false:=by rw[<-d.2 j Y];exact Jk
    split at hs
    ·exact absurd hs.2 DE
    ·rename_i e;rw[An]at hs;refine⟨(hs.resolve_left sm).resolve_left DE,fun w w' hk F hl=> ?_⟩;have:quietAt c B ops j=true:=by
      unfold quietAt;rw[hj];simp only;rw[hl]at e;simpa using e
     exact hk this (F hl)
   have Z:jt o=true->mD b0 g lw hold w/\∀l∈hold,b l=b0 l/\∀G,bB st.boxes l=some G->∃x,bB g.boxes l=some x/\x.cells=G.cells/\x.ty=G.ty:=fun hl=>L fun j hj=>by
    unfold quietAt;split
    ·rename_i m SO;by_cases A:j=i
     ·subst A;rw[hi]at SO;cases SO;have:=(mem_ready.1 U).1;rw[d.2 j W,cQ.2 hj]at this;cases this
     ·have hs:=X j m SO A;cases Wo:jm (fN c.mode B j) m with
      |true=>rfl
      |false=>
       rw[hl,Wo]at hs;simp only[RQ,Bool.and_self]at hs;rw[cQ.2 hj]at hs;cases hs.1
    ·rfl
   have Pz:∀C,C.boxes=V.boxes->Still c B ops b0 g lw hold (i::listed) b C w:=fun C e M=>by
    rw[e,vE];exact L fun j hj=>M j (by simp[hj])
   have ey:yielded ops (act T).tmps=yielded ops T:=rfl;cases hw:Region.wanted o (yielded ops T)with
   |true=>
    rw[hw]at h;simp only at h;have hv:=qb (Ok:=fun w=>jt o=true->mD b0 g lw hold w) (lw:=lw) (hold:=some hold) (b:=b) (fun hl w1 dM=>by
     have hH:=dM hl;refine⟨fun l x hm hx=> ?_,fun v hv a u hu=>hH.2 v hv a u hu⟩;have vK:l∈hold:=cQ.1 hm;rw[vE]at hx;obtain⟨e1,e2⟩:=(Z hl).2 l vK;obtain⟨y,hy,f1,f2⟩:=e2 x hx;rw[e1,<-f1,<-f2];exact hH.1 l vK y hy) E.env (fun cs q=>J i o cs q hi) h
    obtain⟨x,hp,eQ⟩:=hv;obtain⟨C,H,lM,e,hb⟩:=lu E (v:=x.den b) rfl hp;refine wF.first (S':=fun w=>jt o=true->mD b0 g lw hold w) hi J (fun ch a w hp=>absurd hp (hQ _ _ _)) za n arr (act T) w zb Hh U (.inl ⟨by rw[ey];exact hw,fun w1 dM=>eQ w1 dM⟩) (fun hl=>(Z hl).1) ?_;rw[e];exact ih (i::listed) _ b C _ w (d.cons i) lM (Pz C hb) H
   |false=>
    rw[hw]at h;simp only at h;obtain⟨C,H,lM,e,hb⟩:=lu E (v:=undef) rfl h;refine wF.first (S':=fun w=>jt o=true->mD b0 g lw hold w) hi J (fun ch a w hp=>absurd hp (hQ _ _ _)) za n arr (act T) w zb Hh U (.inr ⟨by rw[ey];exact hw,rfl⟩) (fun hl=>(Z hl).1) ?_;rw[e];exact ih (i::listed) _ b C _ w (d.cons i) lM (Pz C hb) H
  |none=>
   simp only[hf]at h;refine⟨fun N=> ?_,fun i hi=> ?_⟩
   ·have he:fZ listed 0 ops.toList=[]:=B5.2 fun j hj=>by
     have:=((O j).1 hj).2;rw[N]at this;cases this
    rw[he]at h;exact hq _ _ _ _ h inv
   ·have D:=(O i).2 ⟨Sy _,hi⟩;have h:=DG h (fun e=>by rw[e]at D;cases D) i D;obtain⟨_,o,ho,_⟩:=mem_ready.1 hi;have Am:ops.toList[i]? =some o:=by simpa using ho
    simp only[Am]at h;refine tN (fun cs q=>J i o cs q ho) inv h ho fun b' V I w' H E tQ=> ?_
    have SP:quietAt c B ops i=jm (fN c.mode B i) o:=by unfold quietAt;rw[ho]
    refine⟨fun Wo F=> ?_,ih (i::listed) _ b' V I w' (d.cons i) E (fun M=> ?_) H⟩
    ·exact F.av (tQ (by rw[<-SP];exact Wo)).2.1
    ·obtain⟨k1,k2,k3⟩:=tQ (by rw[<-SP];exact M i sm);obtain⟨F,hB⟩:=L fun j hj=>M j (by simp[hj])
     refine⟨F.av k2,fun l hl=> ?_⟩;obtain⟨e1,e2⟩:=k3 l (fun hn=>fB l hl i o ho hn);obtain⟨g1,g2⟩:=hB l hl;refine⟨e1.trans g1,fun G DD=> ?_⟩;obtain⟨y,hy,f1,f2⟩:=e2 G DD;obtain⟨z,hz,h1,h2⟩:=g2 y hy;exact⟨z,hz,h1.trans f1,h2.trans f2⟩
end

section
variable {c:Cx}

theorem rU{ops:Array Oper}(d:∀(j:Nat) o,ops[j]? =some o->∀e∈o.after,Region.binds .any e=true->e.on<ops.size)(L:List Nat)(i:Nat):
  i∈fZ L 0 ops.toList↔lI i L=false/\∃o,ops[i]? =some o/\∀e∈o.after,Region.binds .any e=true->lI e.on L=true:=by
 have a:Rel ops L (Array.ofFn (n:=ops.size) fun j=>lI j.1 L):=⟨sm,fun j hj=>by simp[hj]⟩;rw[wG a d ops.toList 0 (fun k=>by simp) i];constructor
 ·rintro⟨_,h⟩;obtain⟨b,o,ho,g⟩:=mem_ready.1 h;have hi:=(ax.1 ho).1;rw[a.2 i hi]at b;exact⟨b,o,ho,fun e he hb=>by have:=g e he hb;rwa [a.pk (d i o ho e he hb)]at this⟩
 ·rintro⟨b,o,ho,g⟩;have hi:=(ax.1 ho).1;refine⟨Sy _,mem_ready.2 ⟨by rw[a.2 i hi];exact b,o,ho,fun e he hb=> ?_⟩⟩;rw[a.pk (d i o ho e he hb)];exact g e he hb
theorem lN{j:Nat}:∀{a l:List Nat},lI j (oM a l)=true↔j∈a∨lI j l=true:=by
 intro a;induction a with
 |nil=>intro l;simp[oM]
 |cons x r ih=>intro l;rw[oM,cQ,cy,<-cQ,ih,cy,or_assoc]
theorem gM{o:Oper}{b:Bool}{f:Nat}:∀{fl:List Nat},f∈waited o b fl↔f∈fl/\lK o f=b:=by
 intro fl;induction fl with
 |nil=>simp[waited]
 |cons x r ih=>
  rw[waited];have hs:Dz (lK o x) b=true↔lK o x=b:=by cases lK o x<;>cases b<;>simp[Dz]
  cases h:Dz (lK o x) b with
  |true=>
   simp only[cy,ih];have:=hs.1 h;constructor
   ·rintro(rfl|⟨h1,a⟩)
    ·exact⟨.inl rfl,this⟩
    ·exact⟨.inr h1,a⟩
   ·rintro⟨rfl|h1,a⟩
    ·exact .inl rfl
    ·exact .inr ⟨h1,a⟩
  |false=>
   have hn:¬lK o x=b:=fun k=>by rw[hs.2 k]at h;cases h
   simp only[ih,cy];constructor
   ·rintro⟨h1,a⟩;exact⟨.inr h1,a⟩
   ·rintro⟨rfl|h1,a⟩
    ·exact absurd a hn
    ·exact⟨h1,a⟩
theorem xr{o:Oper}{b:Bool}:∀{fl:List Nat},fl.Nodup->(waited o b fl).Nodup:=by
 intro fl;induction fl with
 |nil=>intro _;exact Up
 |cons x r ih=>
  intro h;obtain⟨h1,a⟩:=Da.1 h;rw[waited];split
  ·exact Da.2 ⟨fun k=>h1 (gM.1 k).1,ih a⟩
  ·exact ih a
theorem EU{o:Oper}{f:Nat}:lK o f=true↔∃e∈o.after,Region.binds .any e=true/\e.on=f:=by
 unfold lK;rw[pe];constructor
 ·rintro⟨e,he,h⟩;rw[cz]at h;exact⟨e,by simpa using he,h.1,beq_true h.2⟩
 ·rintro⟨e,he,hb,rfl⟩;exact⟨e,by simpa using he,by rw[cz];exact⟨hb,Nat.beq_refl _⟩⟩

theorem CZ{l f:Nat}:∀{ops:List Oper} {b:Nat},xm l f b ops=true->∀k o,ops[k]? =some o->b+k≠f->o.dst≠some l:=by
 intro ops;induction ops with
 |nil=>intro b _ k o a;simp at a
 |cons x r ih=>
  intro b h k o a d;simp only[xm,cz]at h;cases k with
  |zero=>
   simp at a;subst a;intro e;have h1:=h.1;rw[e,Jl]at h1;rcases h1 with h1|h1
   ·exact d (beq_true h1)
   ·simp at h1
  |succ k=>exact ih h.2 k o (by simpa using a) om

structure Bh (c:Cx) (ops:Array Oper) (f:Nat) (o:Oper) (t:Nat) (cells:List Value):Prop where
 ho:ops[f]? =some o
 op:o.op= .alloc t
 dst:o.dst=some (eF ops f)
 guard:o.guard=none
 zero:zeroCells c.P t=some cells
 lt:eF ops f<c.N
 other:∀j o',ops[j]? =some o'->j≠f->o'.dst≠some (eF ops f)
 free:∀e∈o.after,Region.binds .any e=false
theorem MS{d:Nat}{ops:Array Oper}{f:Nat}(h:Pq c d ops f=true):∃o t cells,Bh c ops f o t cells/\fN c.mode d f=0:=by
 unfold Pq at h;cases ho:ops.toList[f]? with
 |none=>simp[ho]at h
 |some o=>
  simp only[ho,cz]at h;obtain⟨⟨h1,k⟩,m⟩:=h;cases i:o.op<;>simp only[i]at h1<;>try cases h1
  rename_i t;cases b:o.dst with
  |none=>simp[b]at h1
  |some l=>
   cases hg:o.guard with
   |some g=>simp[b,hg]at h1
   |none=>
    simp only[b,hg,cz]at h1;cases hz:zeroCells c.P t with
    |none=>simp[hz]at h1
    |some cells=>
     have a:eF ops f=l:=by unfold eF;rw[ho];simp[b]
     refine⟨o,t,cells,⟨by simpa using ho,i,by rw[a];exact b,hg,hz,?_,fun j o' hj n=> ?_,fun e he=> ?_⟩,beq_true k⟩
     ·rw[a];simpa[Tz]using h1.1.2
     ·rw[a];exact CZ h1.2 j o' (by simpa using hj) om
     ·have:=gu.1 m e (by simpa using he);simpa using this
theorem Hk{b:Nat}{ops:Array Oper}{fl:List Nat}:∀{l:List Nat} {f:Nat},yh c b ops fl l=some f->f∈l/\f∉fl/\Pq c b ops f=true:=by
 intro l;induction l with
 |nil=>intro f h;simp[yh]at h
 |cons x r ih=>
  intro f h;simp only[yh]at h;cases a:(!lI x fl&&Pq c b ops x)with
  |true=>
   rw[a]at h;cases h;simp only[cz,GK]at a;exact⟨sm,fun k=>(by rw[cQ.2 k]at a;cases a.1),a.2⟩
  |false=>
   rw[a]at h;obtain⟨h1,d⟩:=ih h;exact⟨by simp[h1],d⟩

structure PA (c:Cx) (ops:Array Oper) (b:Nat->Nat) (st:St) (T:Array Value) (wa:World) (f a:Nat):Prop where
 tmp:T[eF ops f]? =some (.pointer (some ⟨a,0,none⟩))
 lo:c.B<=a
 heap:∀o t cells,Bh c ops f o t cells->wa.heap[a]? =some (.cells cells.toArray t (0,0))
 ne:∀m x,bB st.boxes m=some x->b m≠a

theorem Bh.uniq{ops:Array Oper}{f:Nat}{o o':Oper}{t a:Nat}{cells b:List Value}(h:Bh c ops f o t cells)(k:Bh c ops f o' a b):o=o'/\t=a/\cells=b:=by
 have e:o=o':=by have:=h.ho.symm.trans k.ho;cases this;rfl
 subst e;have e:t=a:=by have:=h.op.symm.trans k.op;cases this;rfl
 subst e;have:=h.zero.symm.trans k.zero;cases this;exact⟨rfl,rfl,rfl⟩
theorem Bh.inj{ops:Array Oper}{f g:Nat}{o o':Oper}{t b:Nat}{cells d:List Value}(h:Bh c ops f o t cells)(k:Bh c ops g o' b d)(a:f≠g):eF ops f≠eF ops g:=by
 intro e;exact h.other g o' k.ho (oi a) (by rw[k.dst,e])

theorem JV{b:Nat->Nat}{st:St}{T:Array Value}{wa:World}{ops:Array Oper}{f a:Nat}{o:Oper}{t:Nat}{cells:List Value}(inv:Inv c b st T wa)(hf:Bh c ops f o t cells)(h:PA c ops b st T wa f a):
  Inv c (fun m=>if m=eF ops f then a else b m) (qj st (eF ops f) t cells) T wa:=by
 refine⟨inv.size,fun s x hs=> ?_,⟨fun m x hm=> ?_,fun m n x y hm hn g=> ?_⟩,inv.lo,inv.ext,fun m x hm hn=> ?_,inv.base⟩
 ·simp only[qj,iR,pg]at hs;by_cases e:eF ops f=s
  ·rw[bm e]at hs;cases hs;subst e;rw[h.tmp];simp[SV.den]
  ·rw[aq e,aq (oi e)]at hs;obtain⟨h1,i⟩:=tM hs;rw[inv.env s x h1];cases x<;>simp only[SV.den];rename_i k off;have:k≠eF ops f:=beq_false i;simp[this]
 ·simp only[qj,cD,dr]at hm;by_cases e:eF ops f=m
  ·rw[bm e]at hm;cases hm;subst e;simp only[CM];exact⟨h.lo,h.heap o t cells hf⟩
  ·rw[aq e,aq (oi e)]at hm;simp only[aq (oi e)];exact inv.box.at_ m x hm
 ·simp only[qj,cD,dr]at hm hn;by_cases e:eF ops f=m
  ·by_cases d:eF ops f=n
   ·exact absurd (e.symm.trans d) g
   ·rw[aq d,aq (oi d)]at hn;rw[bm e.symm,aq (oi d)];exact fun k=>h.ne n y hn k.symm
  ·rw[aq e,aq (oi e)]at hm;by_cases d:eF ops f=n
   ·rw[aq (oi e),bm d.symm];exact h.ne m x hm
   ·rw[aq d,aq (oi d)]at hn;rw[aq (oi e),aq (oi d)];exact inv.box.ne m n x y hm hn g
 ·simp only[qj,cD,dr]at hm;by_cases e:eF ops f=m
  ·rw[bm e]at hm;cases hm;cases hn
  ·rw[aq e,aq (oi e)]at hm;rw[aq (oi e)];exact inv.new m x hm hn

theorem vM{T:Array Value}{wa:World}{ops:Array Oper}{K:St->Prop}{a:Nat->Nat}:∀(fl:List Nat)(b:Nat->Nat)(st:St),Inv c b st T wa->fl.Nodup->(∀f∈fl,∃o t cells,Bh c ops f o t cells)->
  (∀f∈fl,PA c ops b st T wa f (a f))->(∀f∈fl,∀g∈fl,f≠g->a f≠a g)->rL c ops fl st K->
  ∃j i,K i/\Inv c j i T wa/\(∀m,(∀f∈fl,m≠eF ops f)->j m=b m)/\(∀m x,bB i.boxes m=some x->(∃f∈fl,m=eF ops f/\j m=a f)∨(bB st.boxes m=some x/\j m=b m))/\(∀s,get st.env s=none->(∀f∈fl,s≠eF ops f)->get i.env s=none)/\i.d=st.d:=by
 intro fl;induction fl with
 |nil=>intro b st inv _ _ _ _ h;exact⟨b,st,h,inv,fun _ _=>rfl,fun m x hx=> .inr ⟨hx,rfl⟩,fun s hs _=>hs,rfl⟩
 |cons f r ih=>
  intro b st inv z A C n h;obtain⟨D,E⟩:=Da.1 z;obtain⟨o,t,cells,hf⟩:=A f sm;have ho:ops.toList[f]? =some o:=by simpa using hf.ho
  rw[rL]at h;simp only[ho,hf.op,hf.dst,hf.zero]at h;have F:=JV inv hf (C f sm);have B:∀g∈r,PA c ops (fun m=>if m=eF ops f then a f else b m) (qj st (eF ops f) t cells) T wa g (a g):=fun g hg=>by
   have l:=C g (by simp[hg]);obtain⟨o',R,S,G⟩:=A g (by simp[hg]);have H:f≠g:=fun e=>D (e▸hg)
   refine⟨l.tmp,l.lo,l.heap,fun m x hm=> ?_⟩;simp only[qj,cD,dr]at hm;by_cases k:eF ops f=m
   ·rw[bm k.symm];exact n f sm g (by simp[hg]) H
   ·rw[aq k,aq (oi k)]at hm;rw[aq (oi k)];exact l.ne m x hm
  obtain⟨j,i,I,J,h1,L,M,N⟩:=ih _ _ F E (fun g hg=>A g (by simp[hg])) B (fun g hg O l=>n g (by simp[hg]) O (by simp[l])) h;refine⟨j,i,I,J,fun m hm=> ?_,fun m x hx=> ?_,fun s hs q=> ?_,N⟩
  ·rw[h1 m fun g hg=>hm g (by simp[hg]),aq (hm f sm)]
  ·rcases L m x hx with⟨g,hg,P,Q⟩|⟨hm,e⟩
   ·exact .inl ⟨g,by simp[hg],P,Q⟩
   ·simp only[qj,cD,dr]at hm;by_cases k:eF ops f=m
    ·rw[bm k.symm]at e;exact .inl ⟨f,sm,k.symm,e⟩
    ·rw[aq k,aq (oi k)]at hm;rw[aq (oi k)]at e;exact .inr ⟨hm,e⟩
  ·refine M s ?_ fun g hg=>q g (by simp[hg])
   simp only[qj,iR,pg];have w:=q f sm;rw[aq (oi w),aq w];cases hx:get (pV st.env (eF ops f)) s with
   |none=>rfl
   |some y=>have:=(tM hx).1;rw[hs]at this;cases this

theorem yn{T:Array Value}{d:Option Tmp}{v:Value}{s:Nat}(h:d≠some s):((act T).put d v).tmps[s]? =T[s]? :=by
 cases d with
 |none=>rfl
 |some l=>
  have:l≠s:=fun e=>h (by rw[e])
  simp only[Act.put,act];rw[Bx this]
theorem EW{b:Nat->Nat}{st:St}{T:Array Value}{wa:World}{o:Oper}{n i:Nat}{ops:Array Oper}{Q:Exit->Act->World->Prop}{r:Act->World->Prop}{K:St->Prop}(hs:∀cs q,o.op≠ .select cs q)(inv:Inv c b st T wa)(h:yT c n ops i o st K)
  (hi:ops[i]? =some o) (hn:∀d a g w',K a->Inv c d a g w'->(jm (fN c.mode n i) o=true->Kept o b st wa d a w')->(∀s,o.dst≠some s->g[s]? =T[s]?)->r (act g) w'):wpOp c.P ops Q i r (act T) wa:=by
 unfold yT at h;obtain⟨a,h,w,y⟩:=mZ inv h;unfold wpOp;simp only[hi];have z:yielded ops (act T).tmps=yielded ops T:=rfl;rw[z];cases hw:Region.wanted o (yielded ops T)with
 |true=>
  rw[hw]at h;simp only[CM];refine .inl (yZ hs w h _ _ fun v w' ⟨d,x,A,hp,B,inv1,C⟩=> ?_);obtain⟨D,j,k,e,hb⟩:=lu inv1 B hp;rw[e];refine hn _ _ _ _ j k (fun E=> ?_) fun s m=>yn m
  obtain⟨F,G,H⟩:=C E;exact⟨F,G,fun l hl=>by rw[hb,<-y];exact H l hl⟩
 |false=>
  rw[hw]at h;simp only[Ep,xt];obtain⟨D,j,k,e,hb⟩:=lu w (v:=undef) rfl h;rw[e];exact hn _ _ _ _ j k (fun _=>Same.kept (fun l x hx=>by rw[hb,y]at hx;exact⟨x,hx,rfl,rfl⟩) _ _ _ _ lf fun _ _=>rfl) fun s m=>yn m

structure DH (c:Cx) (ops:Array Oper) (b:Nat->Nat) (st:St) (T:Array Value) (wa:World) (arr:Array Bool) (fl:List Nat) (a:Nat->Nat):Prop where
 op:∀f∈fl,∃o t cells,Bh c ops f o t cells
 nodup:fl.Nodup
 env:∀f∈fl,get st.env (eF ops f)=none
 at_:∀f∈fl,arr.getD f true=true->PA c ops b st T wa f (a f)
 ne:∀f∈fl,∀g∈fl,f≠g->arr.getD f true=true->arr.getD g true=true->a f≠a g
 d:fl≠[]->st.d≠none
structure agz (ops:Array Oper) (listed fl:List Nat) (arr:Array Bool):Prop where
 size:arr.size=ops.size
 Wq:∀j,j<ops.size->lI j listed=true->arr.getD j true=true
 arr:∀j,j<ops.size->arr.getD j true=true->lI j listed=true∨j∈fl
 dis:∀f∈fl,lI f listed=false
def nD(arr:Array Bool):List Nat->Nat
 |[]=>0
 |f::r=>(if arr.getD f true=true then 0 else 1)+nD arr r

theorem MT{arr:Array Bool}:∀{fl:List Nat},nD arr fl=0↔∀f∈fl,arr.getD f true=true:=by
 intro fl;induction fl with
 |nil=>simp[nD]
 |cons x r ih=>
  rw[nD,Nat.add_eq_zero_iff,ih];constructor
  ·rintro⟨h1,a⟩ f hf;rcases cy.1 hf with rfl|hf
   ·apply bx;intro k;rw[aq k]at h1;cases h1
   ·exact a f hf
  ·intro h;exact⟨by rw[bm (h x sm)],fun f hf=>h f (by simp[hf])⟩
theorem PB{arr:Array Bool}{i:Nat}(hi:i<arr.size)(b:arr.getD i true=false):∀{fl:List Nat},fl.Nodup->i∈fl->nD arr fl=nD (arr.setIfInBounds i true) fl+1:=by
 have other:∀{fl:List Nat},i∉fl->nD (arr.setIfInBounds i true) fl=nD arr fl:=by
  intro fl;induction fl with
  |nil=>intro _;rfl
  |cons x r ih=>
   intro h;have hx:i≠x:=fun e=>h (by simp[e])
   rw[nD,nD,getD_set_ne true hx,ih fun k=>h (by simp[k])]
 intro fl;induction fl with
 |nil=>intro _ h;cases h
 |cons x r ih=>
  intro a h;obtain⟨h1,d⟩:=Da.1 a;rw[nD,nD];by_cases e:i=x
  ·subst e;rw[other h1,b,aq sm,bm (by simp[hi])];omega
  ·rw[getD_set_ne true e,ih d (by simpa[e]using h)];omega
theorem Bi{arr a:Array Bool}:∀{fl:List Nat},(∀f∈fl,arr.getD f true=a.getD f true)->nD arr fl=nD a fl:=by
 intro fl;induction fl with
 |nil=>intro _;rfl
 |cons x r ih=>intro h;rw[nD,nD,h x sm,ih fun f hf=>h f (by simp[hf])]
theorem Hl{arr:Array Bool}{o:Oper}:∀{fl:List Nat},(∀f∈waited o true fl,arr.getD f true=true)->nD arr (waited o false fl)=nD arr fl:=by
 intro fl;induction fl with
 |nil=>intro _;rfl
 |cons x r ih=>
  intro h;cases hw:lK o x with
  |true=>
   have h1:waited o true (x::r)=x::waited o true r:=by rw[waited,hw];rfl
   have a:waited o false (x::r)=waited o false r:=by rw[waited,hw];rfl
   rw[h1]at h;rw[a,nD,bm (h x sm),ih fun f hf=>h f (by simp[hf])];omega
  |false=>
   have h1:waited o true (x::r)=waited o true r:=by rw[waited,hw];rfl
   have a:waited o false (x::r)=x::waited o false r:=by rw[waited,hw];rfl
   rw[h1]at h;rw[a,nD,nD,ih h]

theorem JW{b:Nat->Nat}{st:St}{T:Array Value}{wa:World}{ops:Array Oper}{arr:Array Bool}{fl:List Nat}{a:Nat->Nat}{Q:Exit->Act->World->Prop}{w:Act->World->Prop}{i:Nat}(nC:arr.size=ops.size)(hi:i∈fl)(Y:arr.getD i true=false)
  (inv:Inv c b st T wa) (j:DH c ops b st T wa arr fl a)
  (hn:∀N y w',(∀k,k<wa.heap.size->w'.heap[k]? =wa.heap[k]?)->Inv c b st y w'->DH c ops b st y w' (arr.setIfInBounds i true) fl N->w (act y) w'):wpOp c.P ops Q i w (act T) wa:=by
 obtain⟨o,t,cells,hf⟩:=j.op i hi;have Z:i<arr.size:=by rw[nC];exact(ax.1 hf.ho).1
 have hz:=hf.zero;unfold zeroCells at hz;obtain⟨z,A,rfl⟩:=ob.1 hz;obtain⟨inf,C,D⟩:=tm.1 A;unfold wpOp;simp only[hf.ho];have hw:Region.wanted o (yielded ops (act T).tmps)=true:=by unfold Region.wanted;rw[hf.guard]
 rw[hw];simp only[CM];refine .inl ?_;unfold Oper.wp;have O:(execOp (act T).eval o).run c.P wa= .ok (.value (.pointer (some ⟨wa.heap.size,0,none⟩))) (wa.alloc (.cells z.cells t)):=by
  simp[execOp,hf.op,Instr.alloc,zeroValue,typeInfo,program,Sem.run_bind,Sem.run,C,D,newVar,newRow,newObj]
 rw[O];have L:=inv.size;have hl:=hf.lt;have r:∀k,k<wa.heap.size->(wa.alloc (.cells z.cells t)).heap[k]? =wa.heap[k]? :=fun k l=>Below.heap_alloc wa _ _ l
 have R:(wa.alloc (.cells z.cells t)).heap[wa.heap.size]? =some (.cells z.cells t):=by
  show(wa.heap.push _)[wa.heap.size]? =_;simp
 have E:st.d≠none:=j.d (fun e=>by rw[e]at hi;cases hi);have F:c.B<=wa.heap.size:=dT inv.lo inv.xo.below.size;have n:∀m x,bB st.boxes m=some x->b m<wa.heap.size:=fun m x hm=>(ax.1 (inv.box.at_ m x hm).2).1
 have ea:(act T).put o.dst (.pointer (some ⟨wa.heap.size,0,none⟩))=act (T.setIfInBounds (eF ops i) (.pointer (some ⟨wa.heap.size,0,none⟩))):=by rw[hf.dst];rfl
 show w ((act T).put o.dst (.pointer (some ⟨wa.heap.size,0,none⟩))) (wa.alloc (.cells z.cells t));rw[ea];refine hn (fun x=>if x=i then wa.heap.size else a x) _ _ r ?_ ?_
 ·refine⟨by simp[L],fun s x hs=> ?_,⟨fun m x hm=> ?_,inv.box.ne⟩,inv.lo,?_,inv.new,inv.base.alloc F _⟩
  ·have S:eF ops i≠s:=fun e=>by rw[<-e,j.env i hi]at hs;cases hs
   rw[Bx S];exact inv.env s x hs
  ·have:=inv.box.at_ m x hm;refine⟨this.1,?_⟩;rw[r _ (n m x hm)];exact this.2
  ·have hx:=inv.ext;cases M:st.d with
   |none=>exact absurd M E
   |some ts=>
    rw[M]at hx;simp only at hx⊢;refine⟨hx.below.alloc F _,fun k l=> ?_⟩;rw[r k (qc l hx.below.size)];exact hx.other k l
 ·have hold:∀g∈fl,g≠i->(arr.setIfInBounds i true).getD g true=true->PA c ops b st T wa g (a g):=fun g hg h hx=>j.at_ g hg (by rw[getD_set_ne true (oi h)]at hx;exact hx)
  have G:∀g∈fl,g≠i->(arr.setIfInBounds i true).getD g true=true->a g<wa.heap.size:=fun g hg h hx=>by
   obtain⟨o',H,I,J⟩:=j.op g hg;exact(ax.1 ((hold g hg h hx).heap o' H I J)).1
  refine⟨j.op,j.nodup,j.env,fun g hg hx=> ?_,fun f q g hg h hx hy=> ?_,j.d⟩
  ·by_cases e:g=i
   ·subst e;rw[bm rfl];refine⟨by rw[Jw (by rw[L];exact hl)],F,fun o' H I l=> ?_,fun m x hm=>Nat.ne_of_lt (n m x hm)⟩;obtain⟨_,U,V⟩:=hf.uniq l;subst U;rw[R,<-V]
   ·rw[aq e];obtain⟨o',H,I,J⟩:=j.op g hg;have l:=hold g hg e hx;refine⟨?_,l.lo,fun W t2 c2 X=> ?_,l.ne⟩
    ·rw[Bx (hf.inj J (oi e))];exact l.tmp
    ·rw[r _ (G g hg e hx)];exact l.heap W t2 c2 X
  ·by_cases e:f=i
   ·rw[bm e];have:g≠i:=fun k=>h (e.trans k.symm)
    rw[aq this];exact(Nat.ne_of_lt (G g hg this hy)).symm
   ·rw[aq e];by_cases K:g=i
    ·rw[bm K];exact Nat.ne_of_lt (G f q e hx)
    ·rw[aq K];exact j.ne f q g hg h (by rw[getD_set_ne true (oi e)]at hx;exact hx) (by rw[getD_set_ne true (oi K)]at hy;exact hy)

theorem Bj{ops:Array Oper}:∀(fl:List Nat)(st:St),(clean ops fl st).boxes=st.boxes/\(clean ops fl st).w=st.w/\(clean ops fl st).d=st.d/\(∀f∈fl,get (clean ops fl st).env (eF ops f)=none)/\∀s x,get (clean ops fl st).env s=some x->get st.env s=some x:=by
 intro fl;induction fl with
 |nil=>intro st;exact⟨rfl,rfl,rfl,fun f hf=>(by cases hf),fun s x h=>h⟩
 |cons f r ih=>
  intro st;obtain⟨h1,b,e,i,a⟩:=ih {st with env:=drop st.env (eF ops f)};rw[clean];refine⟨h1,b,e,fun g hg=> ?_,fun s x hs=> ?_⟩
  ·rcases cy.1 hg with rfl|hg
   ·cases hx:get (clean ops r {st with env:=drop st.env (eF ops g)}).env (eF ops g)with
    |none=>rfl
    |some y=>
     have:=a _ _ hx;simp only[pg,CM]at this;cases this
   ·exact i g hg
  ·have:=a s x hs;simp only[pg]at this;split at this
   ·cases this
   ·exact this
theorem MV{b:Nat->Nat}{st:St}{T:Array Value}{wa:World}{ops:Array Oper}(inv:Inv c b st T wa)(fl:List Nat):Inv c b (clean ops fl st) T wa:=by
 obtain⟨h1,a,d,_,e⟩:=Bj (ops:=ops) fl st;exact⟨inv.size,fun s x hs=>inv.env s x (e s x hs),by rw[h1];exact inv.box,by rw[a];exact inv.lo,by rw[a,d];exact inv.ext,by rw[h1,a];exact inv.new,inv.base⟩
theorem MW{b:Nat->Nat}{st:St}{T:Array Value}{wa:World}(inv:Inv c b st T wa):Inv c b st.vA T wa:=
 ⟨inv.size,inv.env,inv.box,inv.lo,inv.xo,inv.new,inv.base⟩
theorem yo{b:Nat->Nat}{st:St}{T:Array Value}{wa:World}{ops:Array Oper}(inv:Inv c b st T wa)(fl:List Nat):
  Inv c b (tidy ops fl st) T wa/\(tidy ops fl st).boxes=st.boxes/\(∀f∈fl,get (tidy ops fl st).env (eF ops f)=none)/\(fl≠[]->(tidy ops fl st).d≠none):=by
 cases fl with
 |nil=>exact⟨inv,rfl,fun f hf=>(by cases hf),fun h=>absurd rfl h⟩
 |cons f r=>
  obtain⟨h1,_,_,a,_⟩:=Bj (ops:=ops) (f::r) st;exact⟨MW (MV inv _),h1,a,fun _ k=>by cases k⟩
theorem DH.again{b:Nat->Nat}{st h:St}{T l:Array Value}{wa:World}{ops:Array Oper}{arr e:Array Bool}{fl:List Nat}{a:Nat->Nat}(i:DH c ops b st T wa arr fl a)(n:∀f∈fl,l[eF ops f]? =T[eF ops f]?)(o:h.boxes=st.boxes)
  (q:∀f∈fl,get h.env (eF ops f)=none) (r:fl≠[]->h.d≠none) (j:∀f∈fl,e.getD f true=arr.getD f true):DH c ops b h l wa e fl a:=by
 refine⟨i.op,i.nodup,q,fun f hf hx=> ?_,fun f hf g hg k hx hy=>i.ne f hf g hg k (by rw[<-j f hf];exact hx) (by rw[<-j g hg];exact hy),r⟩;have:=i.at_ f hf (by rw[<-j f hf];exact hx);exact⟨by rw[n f hf];exact this.tmp,this.lo,this.heap,fun m x hm=>this.ne m x (by rw[<-o];exact hm)⟩
theorem Bk{arr:Array Bool}{j:Nat}(h:arr.getD j false=true):arr.getD j true=true:=by
 rcases Hm j arr.size with k|k
 ·simp[k]at h⊢;exact h
 ·simp[ui k]at h

theorem Bm{G:Nat}{ops:Array Oper}{Q:Exit->Act->World->Prop}{K:St->Prop}{lw:Option World}{hold:List Nat}{b0:Nat->Nat}{H:St}
  (hq:∀b st W w',K st->Inv c b st W w'->Q .normal (act W) w') (hQ:∀ch a w,¬Q (.panic ch) a w)
  (rh:∀(j:Nat) o cs q,ops[j]? =some o->o.op≠ .select cs q) (DF:∀(j:Nat) o,ops[j]? =some o->∀e∈o.after,Region.binds .any e=true->e.on<ops.size)
  (fB:∀l∈hold,∀(j:Nat) o,ops[j]? =some o->th o=true->o.dst≠some l):
  ∀(m n k:Nat)(listed fl:List Nat)(arr:Array Bool)(a b:Nat->Nat)(st:St)(T:Array Value)(w:World),n+k=m->n=k+nD arr fl->agz ops listed fl arr->Inv c b st T w->DH c ops b st T w arr fl a->
   Still c G ops b0 H lw hold listed b st w->ju c G ops lw hold k listed fl st K->wF c.P ops Q (mD b0 H lw hold) (quietAt c G ops) n arr (act T) w:=by
 intro m;induction m using Nat.strongRecOn with
 |ind m ih=>
 intro n k listed fl arr a b st T w hm hn d inv B wE h;have ab6:∀f∈fl,f<ops.size:=fun f hf=>by
  obtain⟨o,t,cells,ho⟩:=B.op f hf;exact(ax.1 ho.ho).1
 have PD:(∀f∈fl,arr.getD f true=true)->rL c ops fl st K->Q .normal (act T) w:=fun D hl=>by
  obtain⟨S,L,N,O,_⟩:=vM fl b st inv B.nodup B.op (fun f hf=>B.at_ f hf (D f hf)) (fun f hf g hg C=>B.ne f hf g hg C (D f hf) (D g hg)) hl;exact hq _ _ _ _ N O
 have Wr:Region.ready .any ops arr=[]->∀f∈fl,arr.getD f true=true:=fun U f hf=>by
  obtain⟨o,t,cells,ho⟩:=B.op f hf;cases hx:arr.getD f true with
  |true=>rfl
  |false=>
   have:f∈Region.ready .any ops arr:=mem_ready.2 ⟨hx,o,ho.ho,fun e he hb=>by rw[ho.free e he]at hb;cases hb⟩;rw[U]at this;cases this
 have Ya:∀i∈Region.ready .any ops arr,i∉fl->i∈fZ (oM fl listed) 0 ops.toList/\∀o,ops[i]? =some o->∀f∈waited o true fl,arr.getD f true=true:=fun i hi E=>by
  obtain⟨h0,o,ho,D⟩:=mem_ready.1 hi;have cn:=(ax.1 ho).1;refine⟨(rU DF _ _).2 ⟨?_,o,ho,fun e he hb=> ?_⟩,fun o' Am f hf=> ?_⟩
  ·cases hx:lI i (oM fl listed)with
   |false=>rfl
   |true=>
    rcases lN.1 hx with k|k
    ·exact absurd k E
    ·have:=d.Wq i cn k;rw[h0]at this;cases this
  ·exact lN.2 ((d.arr e.on (DF i o ho e he hb) (Bk (D e he hb))).symm)
  ·rw[ho]at Am;cases Am;obtain⟨_,hw⟩:=gM.1 hf;obtain⟨e,he,hb,rfl⟩:=EU.1 hw;exact Bk (D e he hb)
 have PE:∀n',n=n'+1->∀i∈Region.ready .any ops arr,i∈fl->wpOp c.P ops Q i (fun a' w'=>(quietAt c G ops i=true->mD b0 H lw hold w->mD b0 H lw hold w')/\wF c.P ops Q (mD b0 H lw hold) (quietAt c G ops) n' (arr.setIfInBounds i true) a' w') (act T) w:=fun n' hn' i hi E=>by
  have h0:=(mem_ready.1 hi).1;have cn:i<arr.size:=by rw[d.size];exact ab6 i E
  refine JW d.size E h0 inv B fun a' W w' gC O fi'=>⟨fun _ I=>I.av gC,?_⟩
  have hu:=PB cn h0 B.nodup E;refine ih (n'+k) om n' k listed fl _ a' b st W w' rfl om ⟨by simp[d.size],fun j hj hx=> ?_,fun j hj hx=> ?_,d.dis⟩ O fi' (fun D=> ?_) h
  ·by_cases e:i=j
   ·subst e;simp[cn]
   ·rw[getD_set_ne true e];exact d.Wq j hj hx
  ·by_cases e:i=j
   ·subst e;exact .inr E
   ·rw[getD_set_ne true e]at hx;exact d.arr j hj hx
  ·obtain⟨I,hB⟩:=wE D;exact⟨I.av gC,hB⟩
 cases k with
 |zero=>
  simp only[ju]at h;cases he:fZ (oM fl listed) 0 ops.toList with
  |cons x r=>simp[he]at h
  |nil=>
   rw[he]at h;cases n with
   |zero=>
    have D:=MT.1 (by omega:nD arr fl=0);refine⟨B5.2 fun i hi=> ?_,PD D h⟩;by_cases E:i∈fl
    ·have:=(mem_ready.1 hi).1;rw[D i E]at this;cases this
    ·have:=(Ya i hi E).1;rw[he]at this;cases this
   |succ n'=>
    refine⟨fun U=>PD (Wr U) h,fun i hi=> ?_⟩;by_cases E:i∈fl
    ·exact PE n' rfl i hi E
    ·have:=(Ya i hi E).1;rw[he]at this;cases this
 |succ k=>
  simp only[ju]at h;cases GN:yh c G ops fl (fZ listed 0 ops.toList)with
  |some f=>
   simp only[GN]at h;obtain⟨hfm,A,hfs⟩:=Hk GN;obtain⟨o,t,cells,gd,_⟩:=MS hfs;obtain⟨ab7,_⟩:=(rU DF _ _).1 hfm;have agB:=(ax.1 gd.ho).1;have X:arr.getD f true=false:=by
    cases hx:arr.getD f true with
    |false=>rfl
    |true=>
     rcases d.arr f agB hx with k|k
     ·rw[ab7]at k;cases k
     ·exact absurd k A
   obtain⟨t1,t2,t3,t4⟩:=yo (ops:=ops) inv (f::fl);refine ih (n+k) om n k listed (f::fl) arr a b _ T w rfl (by rw[nD,aq (by simp[X])];omega) ⟨d.size,d.Wq,fun j hj hx=>(d.arr j hj hx).imp id fun h=>by simp[h],fun g hg=> ?_⟩ t1
    ⟨fun g hg=> ?_,Da.2 ⟨A,B.nodup⟩,t3,fun g hg hx=> ?_,fun g hg g' EV C hx hy=> ?_,t4⟩ (fun D=> ?_) h
   ·rcases cy.1 hg with rfl|hg
    ·exact ab7
    ·exact d.dis g hg
   ·rcases cy.1 hg with rfl|hg
    ·exact⟨o,t,cells,gd⟩
    ·exact B.op g hg
   ·rcases cy.1 hg with rfl|hg
    ·rw[X]at hx;cases hx
    ·have:=B.at_ g hg hx;exact⟨this.tmp,this.lo,this.heap,fun m x hm=>this.ne m x (by rw[<-t2];exact hm)⟩
   ·rcases cy.1 hg with rfl|hg
    ·rw[X]at hx;cases hx
    ·rcases cy.1 EV with rfl|EV
     ·rw[X]at hy;cases hy
     ·exact B.ne g hg g' EV C hx hy
   ·obtain⟨I,hB⟩:=wE D;rw[t2];exact⟨I,hB⟩
  |none=>
   simp only[GN]at h;obtain⟨n',rfl⟩:∃n',n=n'+1:=⟨k+nD arr fl,om⟩
   cases hf:lk c G ops listed (fZ listed 0 ops.toList)with
   |some i=>
    simp only[hf]at h;obtain⟨ym,o,hi,ET,hmf⟩:=tO hf;have Hj:ops.toList[i]? =some o:=by simpa using hi
    simp only[Hj]at h;obtain⟨Yb,o',Am,ab8⟩:=(rU DF _ _).1 ym;rw[hi]at Am;cases Am;have V:i<ops.size:=(ax.1 hi).1;have E:i∉fl:=fun k=>by
     obtain⟨Y,t2,c2,F⟩:=B.op i k;have:=hi.symm.trans F.ho;cases this;unfold early at ET;rw[F.op]at ET;cases ET
    have X:arr.getD i true=false:=by
     cases hx:arr.getD i true with
     |false=>rfl
     |true=>
      rcases d.arr i V hx with k|k
      ·rw[Yb]at k;cases k
      ·exact absurd k E
    have rR:i∈Region.ready .any ops arr:=mem_ready.2 ⟨X,o,hi,fun e he hb=>by
     have h1:=DF i o hi e he hb;have F:=d.Wq e.on h1 (ab8 e he hb);have h3:e.on<arr.size:=by rw[d.size];exact h1
     simp[h3]at F⊢;exact F⟩
    obtain⟨L,h,O,vE⟩:=mZ inv h;have Be:=fun j R (hj:ops[j]? =some R) (C:j≠i)=>vJ ops.toList 0 hmf j R (by simpa using hj) om
    simp only[jx]at Be;obtain⟨za,XZ⟩:=AZ (ops:=ops) (listed:=listed) (i:=i) ops.toList 0 [] (fun k=>by simp) (fun j R _ hj=>by cases hj) (fun j hj=>by cases hj);have Hh:∀j,lI j (rb listed i 0 ops.toList [])=true->arr.getD j false=false:=fun j hj=>by
     by_cases ni:j<ops.size
     ·cases hx:arr.getD j false with
      |false=>rfl
      |true=>
       rcases d.arr j ni (Bk hx)with k|k
       ·rw[XZ j hj]at k;cases k
       ·obtain⟨Y,t2,c2,F⟩:=B.op j k;obtain⟨e,he,hb,_⟩:=za j Y F.ho hj;rw[F.free e he]at hb;cases hb
     ·rw[QX,ui (by rw[d.size];omega)];rfl
    have zb:∀j R,ops[j]? =some R->j≠i->arr.getD j true=false->¬lI j (rb listed i 0 ops.toList [])=true->
      o.apart ops R=true/\∀w w',(quietAt c G ops j=true->mD b0 H lw hold w->mD b0 H lw hold w')->(jt o=true->mD b0 H lw hold w)->(jt o=true->mD b0 H lw hold w'):=by
     intro j R hj C X J;have hs:=Be j R hj C;have ni:j<ops.size:=(ax.1 hj).1;have An:lI j listed=false:=by
      cases hx:lI j listed with
      |false=>rfl
      |true=>have:=d.Wq j ni hx;rw[X]at this;cases this
     split at hs
     ·exact absurd hs.2 J
     ·rename_i e;rw[An]at hs;refine⟨(hs.resolve_left sm).resolve_left J,fun w w' hk I hl=> ?_⟩;have:quietAt c G ops j=true:=by
       unfold quietAt;rw[hj];simp only;rw[hl]at e;simpa using e
      exact hk this (I hl)
    have Bf:jt o=true->mD b0 H lw hold w/\∀l∈hold,b l=b0 l/\∀M,bB st.boxes l=some M->∃x,bB H.boxes l=some x/\x.cells=M.cells/\x.ty=M.ty:=fun hl=>wE fun j hj=>by
     unfold quietAt;split
     ·rename_i R SO;by_cases C:j=i
      ·subst C;rw[cQ.2 hj]at Yb;cases Yb
      ·have hs:=Be j R SO C;cases Wo:jm (fN c.mode G j) R with
       |true=>rfl
       |false=>
        rw[hl,Wo]at hs;simp only[RQ,Bool.and_self]at hs;rw[cQ.2 hj]at hs;cases hs.1
     ·rfl
    have Yc:∀f∈fl,o.dst≠some (eF ops f):=fun f A=>by
     obtain⟨Y,t2,c2,F⟩:=B.op f A;exact F.other i o hi fun e=>E (e▸A)
    have yp:∀f∈fl,(arr.setIfInBounds i true).getD f true=arr.getD f true:=fun f A=>getD_set_ne true fun e=>E (e▸A)
    have next:∀(Z:St)(v:Value),Z.boxes=L.boxes->Inv c b Z ((act T).put o.dst v).tmps w->ju c G ops lw hold k (i::listed) fl (tidy ops fl Z) K->
      wF c.P ops Q (mD b0 H lw hold) (quietAt c G ops) n' (arr.setIfInBounds i true) (act ((act T).put o.dst v).tmps) w:=fun Z v hb lM N=>by
     obtain⟨t1,t2,t3,t4⟩:=yo (ops:=ops) lM fl;refine ih (n'+k) om n' k (i::listed) fl _ a b _ _ w rfl (by rw[Bi yp];omega) ⟨by simp[d.size],fun j hj hx=> ?_,fun j hj hx=> ?_,fun f A=> ?_⟩ t1
      (B.again (fun f A=>yn (Yc f A)) (t2.trans (hb.trans vE)) t3 t4 yp) (fun D=> ?_) N
     ·by_cases e:i=j
      ·subst e;simp[d.size,V]
      ·rw[getD_set_ne true e];rcases cy.1 (cQ.1 hx)with k|k
       ·exact absurd k.symm e
       ·exact d.Wq j hj (cQ.2 k)
     ·by_cases e:i=j
      ·subst e;exact .inl (cQ.2 sm)
      ·rw[getD_set_ne true e]at hx;exact(d.arr j hj hx).imp (fun h=>cQ.2 (by simp[cQ.1 h])) id
     ·cases hx:lI f (i::listed)with
      |false=>rfl
      |true=>
       rcases cy.1 (cQ.1 hx)with k|k
       ·exact absurd (k▸A) E
       ·have:=d.dis f A;rw[cQ.2 k]at this;cases this
     ·rw[t2,hb,vE];exact wE fun j hj=>D j (by simp[hj])
    have ey:yielded ops (act T).tmps=yielded ops T:=rfl;cases hw:Region.wanted o (yielded ops T)with
    |true=>
     rw[hw]at h;simp only at h;have hv:=qb (Ok:=fun w=>jt o=true->mD b0 H lw hold w) (lw:=lw) (hold:=some hold) (b:=b) (fun hl w1 dM=>by
      have hH:=dM hl;refine⟨fun l x hm hx=> ?_,fun v hv a u hu=>hH.2 v hv a u hu⟩;have vK:l∈hold:=cQ.1 hm;rw[vE]at hx;obtain⟨e1,e2⟩:=(Bf hl).2 l vK;obtain⟨y,hy,f1,f2⟩:=e2 x hx;rw[e1,<-f1,<-f2];exact hH.1 l vK y hy) O.env (fun cs q=>rh i o cs q hi) h
     obtain⟨x,hp,eQ⟩:=hv;obtain⟨Z,N,lM,e,hb⟩:=lu O (v:=x.den b) rfl hp;refine wF.first (S':=fun w=>jt o=true->mD b0 H lw hold w) hi rh (fun ch a w hp=>absurd hp (hQ _ _ _)) za n' arr (act T) w zb Hh rR (.inl ⟨by rw[ey];exact hw,fun w1 dM=>eQ w1 dM⟩) (fun hl=>(Bf hl).1) ?_;rw[e];exact next Z _ hb lM N
    |false=>
     rw[hw]at h;simp only at h;obtain⟨Z,N,lM,e,hb⟩:=lu O (v:=undef) rfl h;refine wF.first (S':=fun w=>jt o=true->mD b0 H lw hold w) hi rh (fun ch a w hp=>absurd hp (hQ _ _ _)) za n' arr (act T) w zb Hh rR (.inr ⟨by rw[ey];exact hw,rfl⟩) (fun hl=>(Bf hl).1) ?_;rw[e];exact next Z _ hb lM N
   |none=>
    simp only[hf]at h;refine⟨fun U=> ?_,fun i hi=> ?_⟩
    ·have D:=Wr U;have he:fZ (oM fl listed) 0 ops.toList=[]:=B5.2 fun j hj=>by
      obtain⟨j0,o,ho,hw⟩:=(rU DF _ _).1 hj;have ni:=(ax.1 ho).1;have:j∈Region.ready .any ops arr:=mem_ready.2 ⟨?_,o,ho,fun e he hb=> ?_⟩
      ·rw[U]at this;cases this
      ·cases hx:arr.getD j true with
       |false=>rfl
       |true=>
        have:=lN.2 ((d.arr j ni hx).symm);rw[j0]at this;cases this
      ·have h1:=DF j o ho e he hb;have F:arr.getD e.on true=true:=by
        rcases lN.1 (hw e he hb)with k|k
        ·exact D _ k
        ·exact d.Wq _ h1 k
       have h3:e.on<arr.size:=by rw[d.size];exact h1
       simp[h3]at F⊢;exact F
     rw[he]at h;exact PD D h
    ·by_cases E:i∈fl
     ·exact PE n' rfl i hi E
     ·obtain⟨ym,SQ⟩:=Ya i hi E;have h:=DG h (fun e=>by rw[e]at ym;cases ym) i ym;obtain⟨h00,o,ho,aj0⟩:=mem_ready.1 hi;have Am:ops.toList[i]? =some o:=by simpa using ho
      have V:i<ops.size:=(ax.1 ho).1;simp only[Am]at h;have tz:=fun f (A:f∈waited o true fl)=>(gM.1 A).1
      have SQ:=SQ o ho;obtain⟨b1,st1,h,inv1,e1,e2,e3,e4⟩:=vM (waited o true fl) b st inv (xr B.nodup) (fun f A=>B.op f (tz f A)) (fun f A=>B.at_ f (tz f A) (SQ f A)) (fun f A g hg C=>B.ne f (tz f A) g (tz g hg) C (SQ f A) (SQ g hg)) h;have hnl:∀l∈hold,∀f∈waited o true fl,l≠eF ops f:=fun l hl f A e=>by
       obtain⟨Y,t2,c2,F⟩:=B.op f (tz f A);exact fB l hl f Y F.ho (by unfold th;rw[F.op]) (by rw[F.dst,e])
      have agC:(∀j∈listed,quietAt c G ops j=true)->mD b0 H lw hold w/\∀l∈hold,b1 l=b0 l/\∀M,bB st1.boxes l=some M->∃x,bB H.boxes l=some x/\x.cells=M.cells/\x.ty=M.ty:=fun D=>by
       obtain⟨I,hB⟩:=wE D;refine⟨I,fun l hl=> ?_⟩;obtain⟨g1,g2⟩:=hB l hl;refine⟨(e1 l (hnl l hl)).trans g1,fun M DD=> ?_⟩;rcases e2 l M DD with⟨f,A,k1,_⟩|⟨k1,_⟩
       ·exact absurd k1 (hnl l hl f A)
       ·exact g2 M k1
      have SP:quietAt c G ops i=jm (fN c.mode G i) o:=by unfold quietAt;rw[ho]
      have PF:∀(L Jn:St)(S:Nat->Nat)(w':World),(jm (fN c.mode G i) o=true->Kept o b1 st1 w S L w')->Jn.boxes=L.boxes->Still c G ops b0 H lw hold (i::oM (waited o true fl) listed) S Jn w':=fun L Jn S w' tQ vE D=>by
       obtain⟨k1,k2,k3⟩:=tQ (by rw[<-SP];exact D i sm);obtain⟨I,hB⟩:=agC fun j hj=>D j (cy.2 (.inr (cQ.1 (lN.2 (.inr (cQ.2 hj))))))
       refine⟨I.av k2,fun l hl=> ?_⟩;obtain⟨q1,q2⟩:=k3 l (fun hn=>fB l hl i o ho hn);obtain⟨g1,g2⟩:=hB l hl;refine⟨q1.trans g1,fun M DD=> ?_⟩;rw[vE]at DD;obtain⟨y,hy,f1,f2⟩:=q2 M DD;obtain⟨z,hz,h1,F⟩:=g2 y hy;exact⟨z,hz,h1.trans f1,F.trans f2⟩
      have aca:∀j,j<ops.size->lI j (i::oM (waited o true fl) listed)=true->(arr.setIfInBounds i true).getD j true=true:=fun j hj hx=>by
       by_cases e:i=j
       ·subst e;simp[d.size,V]
       ·rw[getD_set_ne true e];rcases cy.1 (cQ.1 hx)with k|k
        ·exact absurd k.symm e
        ·rcases lN.1 (cQ.2 k)with k|k
         ·exact SQ j k
         ·exact d.Wq j hj k
      have MU:∀j,j<ops.size->(arr.setIfInBounds i true).getD j true=true->lI j (i::oM (waited o true fl) listed)=true∨j∈waited o false fl:=fun j hj hx=>by
       by_cases e:i=j
       ·subst e;exact .inl (cQ.2 sm)
       ·rw[getD_set_ne true e]at hx;rcases d.arr j hj hx with k|k
        ·exact .inl (cQ.2 (cy.2 (.inr (cQ.1 (lN.2 (.inr k))))))
        ·cases hwj:lK o j with
         |true=>exact .inl (cQ.2 (cy.2 (.inr (cQ.1 (lN.2 (.inl (gM.2 ⟨k,hwj⟩)))))))
         |false=>exact .inr (gM.2 ⟨k,hwj⟩)
      have PG:=Hl (arr:=arr) (o:=o) SQ;have J:∀f∈waited o false fl,f∈fl:=fun f A=>(gM.1 A).1
      have yp:∀f∈waited o false fl,(arr.setIfInBounds i true).getD f true=arr.getD f true:=fun f A=>getD_set_ne true fun e=>E (e▸J f A)
      cases U:waited o false fl with
      |nil=>
       rw[U]at h MU PG;refine tN (fun cs q=>rh i o cs q ho) inv1 h ho fun S L W w' N O tQ=>⟨fun Wo I=>I.av (tQ (by rw[<-SP];exact Wo)).2.1,?_⟩
       exact ih (n'+k) om n' k _ [] _ a S L W w' rfl (by rw[<-PG]at hn;simp only[nD]at hn⊢;omega) ⟨by simp[d.size],aca,MU,fun f A=>by cases A⟩ O
        ⟨fun f A=>(by cases A),Up,fun f A=>(by cases A),fun f A=>(by cases A),fun f A=>(by cases A),fun h=>absurd rfl h⟩ (PF L L S w' tQ rfl) N
      |cons g r=>
       rw[U]at h;simp only at h;cases Yd:jm (fN c.mode G i) o&& !th o with
       |false=>rw[Yd]at h;exact h.elim
       |true=>
        rw[Yd]at h;simp only[cz,GK]at Yd;simp only at h;rw[<-U]at h;refine EW (fun cs q=>rh i o cs q ho) inv1 h ho fun S L W w' N O tQ hT=>⟨fun Wo I=>I.av (tQ Yd.1).2.1,?_⟩
        obtain⟨k1,k2,k3⟩:=tQ Yd.1;obtain⟨t1,t2,t3,t4⟩:=yo (ops:=ops) O (waited o false fl);have Yc:∀f∈waited o false fl,o.dst≠some (eF ops f):=fun f A=>by
         obtain⟨Y,t2,c2,F⟩:=B.op f (J f A);exact F.other i o ho fun e=>E (e▸J f A)
        refine ih (n'+k) om n' k _ (waited o false fl) _ a S _ W w' rfl (by rw[Bi yp];omega) ⟨by simp[d.size],aca,MU,fun f A=> ?_⟩ t1
         ⟨fun f A=>B.op f (J f A),xr B.nodup,t3,fun f A hx=> ?_,fun f A g' EV C hx hy=>B.ne f (J f A) g' (J g' EV) C (by rw[<-yp f A];exact hx) (by rw[<-yp g' EV];exact hy),t4⟩ (PF L _ S w' tQ t2) N
        ·cases hx:lI f (i::oM (waited o true fl) listed)with
         |false=>rfl
         |true=>
          rcases cy.1 (cQ.1 hx)with k|k
          ·exact absurd (k▸J f A) E
          ·rcases lN.1 (cQ.2 k)with k|k
           ·have h1:=(gM.1 k).2;rw[(gM.1 A).2]at h1;cases h1
           ·have:=d.dis f (J f A);rw[k]at this;cases this
        ·rw[yp f A]at hx;have GM:=B.at_ f (J f A) hx;obtain⟨Y,tt2,c2,F⟩:=B.op f (J f A);have PC:a f<w.heap.size:=(ax.1 (GM.heap Y tt2 c2 F)).1;refine⟨by rw[hT _ (Yc f A)];exact GM.tmp,GM.lo,fun o3 t3 c3 h3=>by rw[k2 _ PC];exact GM.heap o3 t3 c3 h3,fun m x hm=> ?_⟩;rw[t2]at hm;obtain⟨q1,q2⟩:=k3 m (fun hn=>by rw[Yd.2]at hn;cases hn);obtain⟨y,hy,_⟩:=q2 x hm;rw[q1];rcases e2 m y hy with⟨f',Ye,k4,k5⟩|⟨k4,k5⟩
         ·rw[k5];refine B.ne f' (tz f' Ye) f (J f A) (fun e=> ?_) (SQ f' Ye) hx;have h1:=(gM.1 Ye).2;rw[e,(gM.1 A).2]at h1;cases h1
         ·rw[k5];exact GM.ne m y k4
end
section
variable {c:Cx}

theorem tR{ops:List Oper}(h:mB ops=true):∀o∈ops,∀cs q,o.op≠ .select cs q:=by
 induction ops with
 |nil=>intro o ho;cases ho
 |cons x r ih=>
  intro o ho cs q e;simp only[mB]at h;rcases cy.1 ho with rfl|ho
  ·rw[e]at h;simp at h
  ·split at h
   ·cases h
   ·exact ih h o ho cs q e

theorem EX{n:Nat}{ops:List Oper}(h:xl n ops=true):∀o∈ops,∀e∈o.after,Region.binds .any e=true->e.on<n:=by
 induction ops with
 |nil=>intro o ho;cases ho
 |cons x r ih=>
  intro o ho e he hb;simp only[xl,cz,gu]at h;rcases cy.1 ho with rfl|ho
  ·have:=h.1 e (by simpa using he);simpa[hb,Tz]using this
  ·exact ih h.2 o ho e he hb

def PH(c:Cx)(K:St->Prop):Exit->Act->World->Prop
 | .normal,a,w=>∃b st T,a=act T/\K st/\Inv c b st T w
 |_,_,_=>False

theorem EY{n:Nat}{ops:Array Oper}{draw:Bool}{K:St->Prop}{b:Nat->Nat}{st:St}{T:Array Value}{wa:World}(hm:c.P.follows .mixedOrders=true)(inv:Inv c b st T wa)
  (h:region c n ops draw st K):(Code.region n ops draw).wp c.P (PH c K) (act T) wa:=by
 unfold region at h;have E:∀b st A w',K st->Inv c b st A w'->PH c K .normal (act A) w':=fun b st A w' h1 B=>⟨b,st,A,rfl,h1,B⟩
 cases draw with
 |false=>
  simp only at h;cases m:mB ops.toList with
  |false=>rw[m]at h;exact h.elim
  |true=>
   rw[m]at h;have C:∀(j:Nat) o cs q,ops[j]? =some o->o.op≠ .select cs q:=fun j o cs q ho=>tR m o (by simpa using B4 ho) cs q
   refine wp_region ?_;have:=ES (Q:=PH c K) E C ops.toList 0 (fun k=>by simp) b st T wa inv h;rw[List.range_eq_range',<-nW];exact this
 |true=>
  simp only at h;cases m:mB ops.toList&&xl ops.toList.length ops.toList with
  |false=>rw[m]at h;exact h.elim
  |true=>
   rw[m]at h;simp only[cz]at m;have C:∀(j:Nat) o cs q,ops[j]? =some o->o.op≠ .select cs q:=fun j o cs q ho=>tR m.1 o (by simpa using B4 ho) cs q
   have F:∀(j:Nat) o,ops[j]? =some o->∀e∈o.after,Region.binds .any e=true->e.on<ops.size:=fun j o ho e he hb=>by
    have:=EX m.2 o (by simpa using B4 ho) e he hb;simpa using this
   have hex:∃g,Inv c b g T wa/\(match Nat.beq (fN c.mode n 9998) 8 with
     |true=>ju c n ops (match g.d with|none=>some g.w|some _=>none) (wD g ops) ops.toList.length [] [] g.vA K
     |false=>pZ c n ops (match g.d with|none=>some g.w|some _=>none) (wD g ops) ops.toList.length [] g.vA K):=by
    simp only at h;cases hb:Nat.beq (fN c.mode n 9999) 3 with
    |true=>
     rw[hb]at h;simp only[GZ]at h;obtain⟨g,h,i,_⟩:=cW inv h;exact⟨g,i,h⟩
    |false=>
     rw[hb]at h;exact⟨st,inv,h⟩
   obtain⟨g,i,h⟩:=hex;refine wp_region_any hm ?_;have r:Inv c b g.vA T {wa with drawn:=wa.drawn+1}:=by
    refine⟨i.size,i.env,⟨i.box.at_,i.box.ne⟩,i.lo,?_,i.new,i.base.drew⟩;have:=i.xo;exact⟨this.below.drew,this.other⟩
   have G:∀l∈wD g ops,∀(j:Nat) o,ops[j]? =some o->th o=true->o.dst≠some l:=fun l hl j o ho hn D=>by
    have h1:=CW (ops:=ops.toList) (by simpa using B4 ho) hn D;unfold wD at hl;have B:=(Ao.1 hl).2;rw[cQ.2 h1]at B;cases B
   have y:Rel ops [] (Array.replicate ops.size false):=⟨sm,fun j hj=>by simp[hj,lI]⟩;have H:Still c n ops b g (match g.d with|none=>some g.w|some _=>none) (wD g ops) [] b g.vA {wa with drawn:=wa.drawn+1}:=fun _=>by
    refine⟨⟨fun l hl x hx=>(i.box.at_ l x hx).2,fun v z a u hu=> ?_⟩,fun l hl=>⟨rfl,fun x hx=>⟨x,hx,rfl,rfl⟩⟩⟩;have hx:=i.ext;cases D:g.d with
    |none=>rw[D]at z hx;simp only at z hx;cases z;rw[hx];exact hu
    |some ts=>rw[D]at z;cases z
   cases I:Nat.beq (fN c.mode n 9998) 8 with
   |false=>
    rw[I]at h;have:=CX (Q:=PH c K) E (fun _ _ _ h=>h) C F G ops.toList.length [] (Array.replicate ops.size false) b g.vA T {wa with drawn:=wa.drawn+1} y r H h;rw[nW]at this;exact this.wpAny
   |true=>
    rw[I]at h;have:=Bm (Q:=PH c K) E (fun _ _ _ h=>h) C F G _ ops.toList.length ops.toList.length [] [] (Array.replicate ops.size false) b b g.vA T {wa with drawn:=wa.drawn+1} rfl rfl
     ⟨sm,fun j hj hx=>(by cases hx),fun j hj hx=>(by simp[hj]at hx),fun f hf=>(by cases hf)⟩ r ⟨fun f hf=>(by cases hf),Up,fun f hf=>(by cases hf),fun f hf=>(by cases hf),fun f hf=>(by cases hf),fun h=>absurd rfl h⟩ H h
    rw[nW]at this;exact this.wpAny

def base(f:FuncId):Frame:={(default:Frame)with fn:=f,kind:= .normal}

theorem Pt.step{P:Program}{f:FuncId}{todo a:List Item}{T:Array Value}{w:World}{R:Ending->World->Prop}
  (hs:∀cs,step P (lone ((base f).at ⟨T,[]⟩ todo) cs w)= .next (lone ((base f).at ⟨T,[]⟩ a) cs w)) (h:Pt P f a T w R):Pt P f todo T w R:=fun cs=>by
 obtain⟨e,w',fr,h1,b,d,g⟩:=h cs;exact⟨e,w',fr,h1,.of_steps (.one (hs cs)) b,d,g⟩

theorem Pt.of_wp{P:Program}{f:FuncId}{i:Code}{k:List Item}{T:Array Value}{w:World}{R:Ending->World->Prop}{Q:Exit->Act->World->Prop}
  (h:i.wp P Q (act T) w) (j:∀e a w',Q e a w'->e= .normal/\∃b,a=act b/\Pt P f k b w' R):Pt P f (.code i::k) T w R:=fun cs=>by
 obtain⟨e,a,w',l,m⟩:=h (base f) k cs;obtain⟨rfl,b,rfl,d⟩:=j e a w' l;obtain⟨e,g,fr,h1,n,o,q⟩:=d cs;exact⟨e,g,fr,h1,.of_steps m n,o,q⟩

def lP(T:Array Value):ResultVar->Sem Value
 | .tmp t=>pure (T.getD t undef)
 | .cell a t=>do loadVar t (<-asAddr (T.getD a undef))

theorem EZ{b:Nat->Nat}{st:St}{T:Array Value}{wa:World}(inv:Inv c b st T wa):∀{l:List ResultVar} {vs:List Value},results c st l=some vs->
  l.length=vs.length/\∀(i:Nat) r v,l[i]? =some r->vs[i]? =some v->(lP T r).run c.P wa= .ok v wa:=by
 intro l;induction l with
 |nil=>intro vs h;simp only[results]at h;cases h;exact⟨rfl,fun i r v h=>by simp at h⟩
 |cons x r ih=>
  intro vs h;have fin:∀v ws,results c st r=some ws->vs=v::ws->(lP T x).run c.P wa= .ok v wa->(x::r).length=vs.length/\∀(i:Nat) y u,(x::r)[i]? =some y->vs[i]? =some u->(lP T y).run c.P wa= .ok u wa:=by
   intro v ws d e hx;obtain⟨h1,g⟩:=ih d;subst e;refine⟨by simp[h1],fun i y u hy hu=> ?_⟩;cases i with
   |zero=>simp at hy hu;subst hy;subst hu;exact hx
   |succ i=>exact g i y u (by simpa using hy) (by simpa using hu)
  cases x with
  |tmp t=>
   simp only[results]at h;cases hx:(get st.env t).bind SV.val with
   |none=>simp[hx]at h
   |some v=>
    cases d:results c st r with
    |none=>simp[hx,d]at h
    |some ws=>
     simp only[hx,d]at h;cases h;obtain⟨sv,h1,g⟩:=tm.1 hx;have:=inv.env t sv h1;exact fin _ _ d rfl (by simp[lP,this,qa g b])
  |cell a t=>
   simp only[results]at h;cases hx:get st.env a with
   |none=>simp[hx]at h
   |some sv=>
    cases d:results c st r with
    |none=>cases sv<;>simp[hx,d]at h
    |some ws=>
     rw[hx,d]at h;cases sv<;>try (simp at h;done)
     rename_i lb off;simp only at h;cases hb:uM c.P st.boxes t lb off with
     |none=>simp[hb]at h
     |some v=>
      simp only[hb]at h;cases h;have h1:=inv.env a _ hx;have g:=vB (b:=b) hb (fun x hx=>(inv.box.at_ lb x hx).2);exact fin _ _ d rfl (by simp[lP,Sem.run_bind,h1,SV.den,asAddr,g])

theorem PJ{P:Program}{α β:Type}(f:α->Sem β)(w:World):∀(l:List α)(vs:List β),l.length=vs.length->(∀(i:Nat) r v,l[i]? =some r->vs[i]? =some v->(f r).run P w= .ok v w)->
  (l.mapM f).run P w= .ok vs w:=by
 intro l;induction l with
 |nil=>intro vs hl _;cases vs with
  |nil=>rfl
  |cons v r=>simp at hl
 |cons x r ih=>
  intro vs hl h;cases vs with
  |nil=>simp at hl
  |cons v ws=>
   have a:=h 0 x v sm sm;have h1:=ih ws (by simpa using hl) (fun i b d e g=>h (i+1) b d (by simpa using e) (by simpa using g));simp[List.mapM_cons,Sem.run_bind,a,h1]

theorem Fa{b:Nat->Nat}{st:St}{T:Array Value}{wa:World}(inv:Inv c b st T wa)(hw:st.w=wa):∀{l:List ResultVar} {K:List Value->Prop},wC c st l K->
  ∃vs,K vs/\l.length=vs.length/\∀(i:Nat) r v,l[i]? =some r->vs[i]? =some v->(lP T r).run c.P wa= .ok v wa:=by
 intro l;induction l with
 |nil=>intro K h;exact⟨[],h,rfl,fun i r v h=>by simp at h⟩
 |cons x r ih=>
  intro K h;have fin:∀v,(wC c st r fun vs=>K (v::vs))->(lP T x).run c.P wa= .ok v wa->∃vs,K vs/\(x::r).length=vs.length/\∀(i:Nat) y u,(x::r)[i]? =some y->vs[i]? =some u->(lP T y).run c.P wa= .ok u wa:=by
   intro v j hx;obtain⟨vs,d,h1,e⟩:=ih j;refine⟨v::vs,d,by simp[h1],fun i y u hy hu=> ?_⟩;cases i with
   |zero=>simp at hy hu;subst hy;subst hu;exact hx
   |succ i=>exact e i y u (by simpa using hy) (by simpa using hu)
  cases x with
  |tmp t=>
   simp only[wC]at h;cases hx:(get st.env t).bind SV.val with
   |none=>rw[hx]at h;exact h.elim
   |some v=>
    rw[hx]at h;obtain⟨sv,h1,e⟩:=tm.1 hx;exact fin v h (by simp[lP,inv.env t sv h1,qa e b])
  |cell t ty=>
   simp only[wC]at h;split at h<;>try exact h.elim
   rename_i a ha;obtain⟨u,d,g⟩:=vC h;rw[hw]at g;exact fin u d (by simp[lP,Sem.run_bind,inv.env t _ ha,SV.den,asAddr,g wa fun _ _ h=>h])
theorem Hn{b:Nat->Nat}{st:St}{T:Array Value}{wa:World}{fn:Func}(hf:c.P.funcs[c.f]? =some fn)(k:c.res=fn.results.toList)(inv:Inv c b st T wa)(h:leave c st):
  ∃v,(Go.results fn T).run c.P wa= .ok v wa/\c.R v wa:=by
 have fin:∀vs:List Value,c.res.length=vs.length->(∀(i:Nat) r v,c.res[i]? =some r->vs[i]? =some v->(lP T r).run c.P wa= .ok v wa)->(Go.results fn T).run c.P wa= .ok (EG vs) wa:=fun vs a h1=>by
  rw[k]at a h1;have l:=PJ (P:=c.P) (lP T) wa _ _ a h1;have m:(fn.results.mapM (lP T)).run c.P wa= .ok vs.toArray wa:=by
   rw[Array.mapM_eq_mapM_toList];simp[Sem.run_map,l]
  have n:Go.results fn T=(do let vs<-fn.results.mapM (lP T);pure (if h:vs.size=1 then vs[0]else .tuple vs)):=by
   unfold Go.results
   congr 2
  rw[n];simp only[Sem.run_bind,m,Result.andThen_ok,Sem.run_pure]
  congr 1
  cases vs with
  |nil=>rfl
  |cons v r=>cases r<;>simp[EG]
 unfold leave at h;cases e:results c st c.res with
 |none=>
  rw[e]at h;simp only at h;obtain⟨o,d,g,hw,_⟩:=cW inv h;obtain⟨vs,j,a,h1⟩:=Fa g hw d;rw[hw]at j;exact⟨_,fin vs a h1,j⟩
 |some vs=>
  rw[e]at h;simp only at h;obtain⟨a,h1⟩:=EZ inv e;obtain⟨o,d,g,hw,_⟩:=cW inv h;rw[hw]at d;exact⟨_,fin vs a h1,d⟩

theorem Pt.Yf{P:Program}{f:FuncId}{todo a:List Item}{T:Array Value}{w:World}{R:Ending->World->Prop}(h:Pt P f todo T w R)
  (hs:∀cs,Go.step P (lone ((base f).at ⟨T,[]⟩ todo) cs w)= .next (lone ((base f).at ⟨T,[]⟩ a) cs w)) (i:∀e w',R e w'->∃v,e= .returned v):Pt P f a T w R:=fun cs=>by
 obtain⟨e,w',fr,h1,j,k,b⟩:=h cs;obtain⟨v,rfl⟩:=i e w' h1;refine⟨_,w',fr,h1,?_,k,b⟩;obtain⟨n,hn⟩:=j;cases n with
 |zero=>
  exfalso;simp only[runN]at hn;have l:lone ((base f).at ⟨T,[]⟩ todo) cs w=lone fr cs w':=by cases hn;rfl
  have o:=ca (fun m:Machine=>(m.gs[0]?).map (fun g=>g.frame.mode)) l;simp[lone,Frame.at,b.1]at o
 |succ n=>
  refine⟨n,?_⟩;simp only[runN]at hn;have d:=hs cs;unfold base at d;rw[d]at hn;exact hn

theorem Bn{b:Nat->Nat}{env:Env}{T:Array Value}(he:pW b env T):∀{l:List Nat} {a:Env},restrict env l=some a->pW b a T:=by
 intro l;induction l with
 |nil=>intro a h;simp only[restrict]at h;cases h;intro s x hs;simp[get]at hs
 |cons s r ih=>
  intro a h;simp only[restrict]at h;cases hx:get env s with
  |none=>simp[hx]at h
  |some x=>
   cases d:restrict env r with
   |none=>simp[hx,d]at h
   |some l=>
    simp only[hx,d]at h;cases h;intro m y hy;rw[iR]at hy;split at hy
    ·rename_i e;simp only at e;subst e;cases hy;rw[he _ x hx];cases x<;>rfl
    ·exact ih d m y hy

theorem nV{a:List rJ}:∀{l:List Nat} {bs':List rJ},mA a l=some bs'->∀m x,bB bs' m=some x->x.new=false/\∃y,bB a m=some y/\y.cells=x.cells/\y.ty=x.ty:=by
 intro l;induction l with
 |nil=>intro bs' h;simp only[mA]at h;cases h;intro m x hm;simp[bB]at hm
 |cons s r ih=>
  intro bs' h;simp only[mA]at h;cases hx:bB a s with
  |none=>simp[hx]at h
  |some x=>
   cases b:mA a r with
   |none=>simp[hx,b]at h
   |some l=>
    simp only[hx,b]at h;cases h;intro m y hy;rw[cD]at hy;split at hy
    ·rename_i e;simp only at e;cases hy;rw[<-e,mC hx];exact⟨rfl,x,hx,rfl,rfl⟩
    ·exact ih b m y hy

theorem MX{b:Nat->Nat}{st:St}{T:Array Value}{wa:World}(inv:Inv c b st T wa)(todo:List Item)(live:List Nat×List Nat)(h:cutAt c todo st live):Pt c.P c.f todo T wa (Out c.B c.w0 c.R):=by
 unfold cutAt at h;cases h1:restrict st.env live.1 with
 |none=>rw[h1]at h;exact h.elim
 |some env=>
  cases a:mA st.boxes live.2 with
  |none=>rw[h1,a]at h;exact h.elim
  |some boxes=>
   rw[h1,a]at h;simp only at h;obtain⟨D,h,i,hw,_⟩:=cW inv h;rw[hw]at h;have g:=i.lo;rw[hw]at g;have hB:tf b c.B boxes wa:=by
    refine⟨fun l x hx=> ?_,fun l m x y hx hy d=> ?_⟩
    ·obtain⟨_,y,hy,j,k⟩:=nV a l x hx;rw[<-j,<-k];exact inv.box.at_ l y hy
    ·obtain⟨_,n,o,_⟩:=nV a l x hx;obtain⟨_,q,r,_⟩:=nV a m y hy;exact inv.box.ne l m n q o r d
   have:=h b T inv.size (Bn inv.env h1) hB g;intro cs;obtain⟨e,w',fr,⟨v,rfl,hb,w⟩,z,A,C⟩:=this cs;exact⟨_,w',fr,⟨v,rfl,inv.base.trans hb,w⟩,z,A,C⟩

theorem yr{fn:Func}(hm:c.P.follows .mixedOrders=true)(hf:c.P.funcs[c.f]? =some fn)(g:c.res=fn.results.toList):
  ∀(n:Nat)(first:Bool)(todo:List Item)(b:Nat->Nat)(st:St)(T:Array Value)(wa:World),Inv c b st T wa->run c n first todo st->Pt c.P c.f todo T wa (Out c.B c.w0 c.R):=by
 intro n;induction n with
 |zero=>intro first todo b st T wa _ h;exact h.elim
 |succ n ih=>
  intro first todo b st T wa inv h
  have done:∀(todo:List Item),leave c st->(∀cs,Steps c.P (lone ((base c.f).at ⟨T,[]⟩ todo) cs wa) (lone {(base c.f).at ⟨T,[]⟩ todo with mode:= .returning} cs wa))->Pt c.P c.f todo T wa (Out c.B c.w0 c.R):=fun todo hl hs cs=>by
   obtain⟨v,i,j⟩:=Hn hf g inv hl;exact⟨.returned v,wa,_,⟨v,rfl,inv.base,j⟩,hs cs,rfl,rfl,rfl,rfl,fn,hf,i⟩
  have cut:∀(todo:List Item) live,cutAt c todo st live->Pt c.P c.f todo T wa (Out c.B c.w0 c.R):=MX inv
  cases todo with
  |nil=>exact done [] h fun cs=> .one step_end
  |cons it k=>
   cases it with
   |code l=>
    cases l<;>simp only[run]at h<;>try exact h.elim
    case skip=>exact .step (fun cs=>step_skip) (ih _ _ _ _ _ _ inv h)
    case ret=>exact done _ h fun cs=> .one step_ret
    case seq x y=>exact .step (fun cs=>step_seq) (ih _ _ _ _ _ _ inv h)
    case block id d=>exact .step (fun cs=>step_block) (ih _ _ _ _ _ _ inv h)
    case cond x y z=>
     obtain⟨v,m,hB⟩:=kK h;obtain⟨t,o,h⟩:=rM (b:=b) hB;have e:=cG inv.env m;rw[o]at e;cases t
     ·exact .step (fun cs=>step_cond (t:=false) e) (ih _ _ _ _ _ _ inv h)
     ·exact .step (fun cs=>step_cond (t:=true) e) (ih _ _ _ _ _ _ inv h)
    case exit id=>
     split at h
     ·rename_i C q;exact .step (fun cs=>step_exit q) (ih _ _ _ _ _ _ inv h)
     ·exact h.elim
    case loop d=>
     split at h
     ·exact cut _ _ h
     ·exact .step (fun cs=>step_loop) (ih _ _ _ _ _ _ inv h)
    case region id ops draw=>
     split at h
     ·exact cut _ _ h
     ·refine .of_wp (EY hm inv h) fun e a w' hp=> ?_
      cases e<;>try exact hp.elim
      obtain⟨D,E,r,rfl,w,A⟩:=hp;exact⟨rfl,r,rfl,ih _ _ _ _ _ _ A w⟩
   |inBlock id=>simp only[run]at h;exact .step (fun cs=>step_inBlock) (ih _ _ _ _ _ _ inv h)
   |inLoop d=>
    simp only[run]at h;split at h
    ·have h1:=cut _ _ h;refine .step (fun cs=>step_inLoop) (Pt.Yf h1 (fun cs=>step_loop) fun e w' he=> ?_);obtain⟨v,rfl,_⟩:=he;exact⟨v,rfl⟩
    ·exact .step (fun cs=>step_inLoop) (ih _ _ _ _ _ _ inv h)
   |_=>exact h.elim

noncomputable def tS(fn:Func):Code:=fn.body.getD .skip

theorem Bo:∀(vs:List Value)(i s:Nat)(x:SV),get (tL i vs) s=some x->∃v,x= .v v/\i<=s/\vs[s - i]? =some v:=by
 intro vs;induction vs with
 |nil=>intro i s x h;simp[tL,get]at h
 |cons v r ih=>
  intro i s x h;simp only[tL,iR]at h;split at h
  ·rename_i e;cases h;subst e;exact⟨v,rfl,fs _,sm⟩
  ·rename_i e;obtain⟨u,rfl,h1,a⟩:=ih (i+1) s x h;have:s - i=(s - (i+1))+1:=om;exact⟨u,rfl,om,by rw[this];simpa using a⟩

theorem Fb(c:Cx)(n:Nat){fn:Func}{vs:List Value}{args:Array Value}{w:World}(hm:c.P.follows .mixedOrders=true)(hf:c.P.funcs[c.f]? =some fn)(hb:fn.body.isSome=true)(A:c.N=fn.ntmps)
  (i:c.res=fn.results.toList) (hw:c.w0=w) (hB:c.B<=w.heap.size) (ha:args=vs.toArray) (hle:Nat.ble vs.length c.N=true)
  (h:run c n false [.code (tS fn)] ⟨tL 0 vs,[],w,none⟩):cI c.P c.f args c.B w c.R:=by
 have hle:=Jq hle;subst ha;have b:=yr hm hf i n false _ (fun _=>0) _ (vs.toArray++Array.replicate (fn.ntmps - vs.length) undef) w (by
  refine⟨?_,fun s x hs=> ?_,⟨fun l x hx=> ?_,fun l m x y hx=> ?_⟩,?_,rfl,fun l x hx=> ?_,?_⟩
  ·simp;omega
  ·obtain⟨v,rfl,_,g⟩:=Bo vs 0 s x hs;have d:s<vs.length:=by
    rcases Hm s vs.length with h|h
    ·exact h
    ·simp[hJ h]at g
   rw[Ka (by simpa using d)];simpa[SV.den]using g
  ·simp[bB]at hx
  ·simp[bB]at hx
  ·exact hB
  ·simp[bB]at hx
  ·rw[hw];exact Below.refl _ _) h
 intro cs;obtain⟨e,w',fr,⟨v,rfl,a,j⟩,k,o,q⟩:=b cs;refine⟨_,w',fr,⟨v,rfl,hw▸a,j⟩,?_,o,q⟩;obtain⟨C,r⟩:=HU.1 hb;have z:Frame.enter c.P c.f vs.toArray .normal=(base c.f).at ⟨vs.toArray++Array.replicate (fn.ntmps - vs.length) undef,[]⟩ [.code (tS fn)]:=by
  simp[Frame.enter,Frame.at,hf,r,base,tS]
 rw[z];exact k

theorem Hp(c:Cx)(n:Nat){fn:Func}{vs:List Value}{args:Array Value}{w:World}(hm:c.P.follows .mixedOrders=true)(hf:c.P.funcs[c.f]? =some fn)(hb:fn.body.isSome=true)(A:c.N=fn.ntmps)
  (i:c.res=fn.results.toList) (hw:c.w0=w) (hB:c.B=w.heap.size) (ha:args=vs.toArray) (hle:Nat.ble vs.length c.N=true)
  (h:run c n false [.code (tS fn)] ⟨tL 0 vs,[],w,none⟩):Pure c.P c.f args w c.R:=by
 have hle:=Jq hle;subst ha;have b:=yr hm hf i n false _ (fun _=>0) _ (vs.toArray++Array.replicate (fn.ntmps - vs.length) undef) w (by
  refine⟨?_,fun s x hs=> ?_,⟨fun l x hx=> ?_,fun l m x y hx=> ?_⟩,?_,rfl,fun l x hx=> ?_,?_⟩
  ·simp;omega
  ·obtain⟨v,rfl,_,g⟩:=Bo vs 0 s x hs;have d:s<vs.length:=by
    rcases Hm s vs.length with h|h
    ·exact h
    ·simp[hJ h]at g
   rw[Ka (by simpa using d)];simpa[SV.den]using g
  ·simp[bB]at hx
  ·simp[bB]at hx
  ·rw[hB];exact fs _
  ·simp[bB]at hx
  ·rw[hw];exact Below.refl _ _) h
 intro cs;obtain⟨e,w',fr,⟨v,rfl,a,j⟩,k,o,q⟩:=b cs;refine⟨_,w',fr,⟨v,rfl,by rw[<-hB,<-hw];exact hw▸a,j⟩,?_,o,q⟩;obtain⟨C,r⟩:=HU.1 hb;have z:Frame.enter c.P c.f vs.toArray .normal=(base c.f).at ⟨vs.toArray++Array.replicate (fn.ntmps - vs.length) undef,[]⟩ [.code (tS fn)]:=by
  simp[Frame.enter,Frame.at,hf,r,base,tS]
 rw[z];exact k

theorem Ws(c:Cx){w:World}(n:Nat)(first:Bool)(todo:List Item)(env:Env)(boxes:List rJ)(hm:c.P.follows .mixedOrders=true){fn:Func}(hf:c.P.funcs[c.f]? =some fn)(a:c.res=fn.results.toList)(hw:c.w0=w)
  (d:∀l x,bB boxes l=some x->x.new=false) (h:run c n first todo ⟨env,boxes,w,none⟩):At c.P c.f c.N todo env boxes c.B w c.R:=by
 intro b T e he hB g;have:=yr hm hf a n first todo b _ T w ⟨e,he,hB,g,rfl,fun l x hx hn=>(by rw[d l x hx]at hn;cases hn),(by rw[hw];exact Below.refl _ _)⟩ h
 rw[hw]at this;exact this

def wH:List rJ->Bool
 |[]=>true
 |x::r=> !x.new&&wH r
theorem ze{a:List rJ}(h:wH a=true):∀l x,bB a l=some x->x.new=false:=by
 induction a with
 |nil=>intro l x hx;simp[bB]at hx
 |cons y r ih=>
  intro l x hx;simp only[wH,cz]at h;rw[cD]at hx;split at hx
  ·cases hx;simpa using h.1
  ·exact ih h.2 l x hx

theorem Hq(c:Cx)(n:Nat)(todo:List Item)(env:Env)(boxes:List rJ){w:World}(hm:c.P.follows .mixedOrders=true){fn:Func}(hf:c.P.funcs[c.f]? =some fn)(a:c.res=fn.results.toList)(hw:c.w0=w)
  (ho:wH boxes=true) (h:run c n true todo ⟨env,boxes,w,none⟩):At c.P c.f c.N todo env boxes c.B w c.R:=
 Ws c n true todo env boxes hm hf a hw (ze ho) h

theorem Hr(c:Cx)(n:Nat)(todo:List Item)(env:Env)(boxes:List rJ){w:World}(hm:c.P.follows .mixedOrders=true){fn:Func}(hf:c.P.funcs[c.f]? =some fn)(d:c.res=fn.results.toList)(hw:c.w0=w)
  (ho:wH boxes=true) (h:run c n true (inside todo) ⟨env,boxes,w,none⟩):At c.P c.f c.N todo env boxes c.B w c.R:=by
 have h1:=Ws c n true (inside todo) env boxes hm hf d hw (ze ho) h;intro b T e he hB g;have a:=h1 b T e he hB g;cases todo with
 |nil=>exact a
 |cons it k=>
  cases it with
  |code i=>
   cases i with
   |loop j=>exact .step (fun cs=>step_loop) a
   |_=>exact a
  |_=>exact a
end
theorem follows:Tryz.prog.follows .mixedOrders=true:=kF
noncomputable abbrev P:Program:=Tryz.prog
abbrev O:=Option Addr
abbrev Kt:=Value->World->Prop
abbrev Br(p X Y:Prop):Prop:=(p->X)/\(¬p->Y)
abbrev Bb(b:Bool)(X Y:Prop):Prop:=(b=true->X)/\(b=false->Y)
abbrev PL(ts:List Nat)(w w':World):Prop:=∀(k ty:Nat)(cs:Array Value),ty∈ts->w.heap[k]? =some (.cells cs ty (0,0))->w'.heap[k]? =w.heap[k]?
abbrev Ri(X:Int->World->Prop):Kt:=fun v w=>∃i,v= .int .i64 i/\X i w
abbrev Rb(X:Bool->World->Prop):Kt:=fun v w=>∃b,v= .bool b/\X b w
abbrev Rt(X:ByteArray->World->Prop):Kt:=fun v w=>∃s,v= .string s/\X s w
abbrev Rs(X:O->Nat->Nat->World->Prop):Kt:=fun v w=>∃A n c,v= .slice A n c/\X A n c w
abbrev TB(X:O->Nat->Nat->Int->World->Prop):Kt:=fun v w=>∃A n c i,v= .tuple #[.slice A n c,.int .i64 i]/\X A n c i w
abbrev Rsb(X:O->Nat->Nat->Bool->World->Prop):Kt:=fun v w=>∃A n c b,v= .tuple #[.slice A n c,.bool b]/\X A n c b w
abbrev rV(X:ByteArray->Int->World->Prop):Kt:=fun v w=>∃s i,v= .tuple #[.string s,.int .i64 i]/\X s i w
abbrev Rii(X:Int->Int->World->Prop):Kt:=fun v w=>∃i j,v= .tuple #[.int .i64 i,.int .i64 j]/\X i j w
abbrev Rc(X:O->Nat->Nat->O->Nat->Nat->World->Prop):Kt:=fun v w=>∃A n c A1 n1 c1,v= .agg #[.slice A n c,.slice A1 n1 c1]/\X A n c A1 n1 c1 w
abbrev Rp(X:O->Nat->Nat->O->Nat->Nat->O->Nat->Nat->World->Prop):Kt:=fun v w=>∃A n c A1 n1 c1 A2 n2 c2,v= .agg #[.slice A n c,.slice A1 n1 c1,.slice A2 n2 c2]/\X A n c A1 n1 c1 A2 n2 c2 w
abbrev Ix(j:Int)(n:Nat)(A:O)(X:Addr->Prop):Prop:=(0<=j/\j<n)/\∃a,A=some a/\X a
abbrev I(i:Int):Value:= .int .i64 i
abbrev vS(k:Nat)(A:O)(n c:Nat):Nat×SV:=(k,.v (.slice A n c))
abbrev vI(k:Nat)(i:Int):Nat×SV:=(k,.v (.int .i64 i))
abbrev vT(k:Nat)(s:ByteArray):Nat×SV:=(k,.v (.string s))
abbrev vP(k:Nat)(a:O):Nat×SV:=(k,.v (.pointer a))
abbrev vL(k:Nat):Nat×SV:=(k,.loc k 0)
abbrev Pm:=List ((Bool×Nat)×List Nat×List Nat)×List (Nat×Nat×Nat)
noncomputable abbrev Wt(p:Pm)(f:Nat)(fn:Func)(w:World)(B:Nat)(R:Kt):Cx:=⟨Tryz.prog,f,fn.ntmps,fn.results.toList,p.1,p.2,w,B,R⟩
def Lt(f:Nat)(fn:Func)(k:Nat)(env:Env)(boxes:List rJ)(B:Nat)(w:World)(R:Kt):Prop:=At Tryz.prog f fn.ntmps (JH fn k) env boxes B w R
def Jt(f:Nat)(fn:Func)(k:Nat)(env:Env)(boxes:List rJ)(B:Nat)(w:World)(R:Kt):Prop:=At Tryz.prog f fn.ntmps (AN fn k) env boxes B w R
section
variable (p:Pm) {f:Nat} {fn:Func} (hf:Tryz.prog.funcs[f]? =some fn) {vs:List Value} {w:World} {R:Kt} {C:Prop} {k B:Nat} {env:Env} {boxes:List rJ} (h:C)
include hf h
theorem pr(hb:fn.body.isSome=true:=by rfl)(hle:Nat.ble vs.length fn.ntmps=true:=by rfl)(e:C=run (Wt p f fn w w.heap.size R) 100000 false [.code (tS fn)] ⟨tL 0 vs,[],w,none⟩:=by kernel_rfl):Pure P f vs.toArray w R:=
 Hp (Wt p f fn w w.heap.size R) 100000 follows hf hb rfl rfl rfl rfl rfl hle (Eq.mp e h)
theorem pb(hB:B<=w.heap.size)(hb:fn.body.isSome=true:=by rfl)(hle:Nat.ble vs.length fn.ntmps=true:=by rfl)(e:C=run (Wt p f fn w B R) 100000 false [.code (tS fn)] ⟨tL 0 vs,[],w,none⟩:=by kernel_rfl):cI P f vs.toArray B w R:=
 Fb (Wt p f fn w B R) 100000 follows hf hb rfl rfl rfl hB rfl hle (Eq.mp e h)
theorem lr(ho:wH boxes=true:=by rfl)(e:C=run (Wt p f fn w B R) 100000 true (inside (JH fn k)) ⟨env,boxes,w,none⟩:=by kernel_rfl):Lt f fn k env boxes B w R:=
 Hr (Wt p f fn w B R) 100000 (JH fn k) env boxes follows hf rfl rfl ho (Eq.mp e h)
theorem jr(ho:wH boxes=true:=by rfl)(e:C=run (Wt p f fn w B R) 100000 true (AN fn k) ⟨env,boxes,w,none⟩:=by kernel_rfl):Jt f fn k env boxes B w R:=
 Hq (Wt p f fn w B R) 100000 (AN fn k) env boxes follows hf rfl rfl ho (Eq.mp e h)
end
end Go.Proofs.YtbcojgcjjpggnaaGreatDoor.Vc

namespace Go.Proofs.YtbcojgcjjpggnaaGreatDoor.B
open Go Go.RowKit Go.Proofs Go.Proofs.YtbcojgcjjpggnaaGreatDoor.Vc

theorem pm{P:Program}{f:FuncId}{args:Array Value}{w:World}{R R':Value->World->Prop}(h:Pure P f args w R)
  (a:∀v w',Below w.heap.size w w'->R v w'->R' v w'):Pure P f args w R':=
 Calls.mono h fun e w' ⟨v,he,hb,b⟩=>⟨v,he,hb,a v w' hb b⟩

theorem cI.mono{P:Program}{f:FuncId}{args:Array Value}{B:Nat}{w:World}{R R':Value->World->Prop}(h:cI P f args B w R)
  (a:∀v w',Below B w w'->R v w'->R' v w'):cI P f args B w R':=
 Calls.mono h fun e w' ⟨v,he,hb,b⟩=>⟨v,he,hb,a v w' hb b⟩

theorem Below.step{B:Nat}{w0 w1 a:World}(h:Below B w0 w1)(hB:B<=w0.heap.size)(k:Below w1.heap.size w1 a):Below B w0 a:=
 h.trans (k.mono (dT hB h.size))
theorem Below.ext{B:Nat}{ts:List Nat}{w0 w1 a:World}(h:Below B w0 w1)(k:Ext B ts w1 a):Below B w0 a:=h.trans k.below

structure Good (w:World):Prop where
 size:8<=w.heap.size

theorem Good.below{B:Nat}{w w':World}(h:Good w)(hb:Below B w w')(hB:w.heap.size<=B):Good w':=
 ⟨dT h.size hb.size⟩
end Go.Proofs.YtbcojgcjjpggnaaGreatDoor.B
