/- Part 2 of the proofs that: Each step that was done was approved; folding in two parts is folding at once. -/
import Derived.Test.YtbcojgcjjpggnaaGreatDoorA1
import Derived.Test.YtbcojgcjjpggnaaGreatDoorProg
set_option linter.unusedVariables false
set_option linter.unusedSimpArgs false
namespace Go.Proofs.YtbcojgcjjpggnaaGreatDoor.Vc
open Go Go.RowKit
section
variable {c:Cx} {b:Nat->Nat} {st:St} {T:Array Value} {wa:World} {o:Oper} {K:SV->St->Prop}

theorem fH{x:Operand}{v:Value}(he:pP b st.env T)(h:(ev st x).bind SV.val=some v):(act T).eval x=v:=by
 obtain⟨sv,h1,a⟩:=u0.1 h;rw[cG he h1,pT a b]

theorem JR(he:pP b st.env T):∀{l:List (Nat×Operand)} {vs:List (Nat×Value)},parts st l=some vs->l.map (fun p=>(p.1,(act T).eval p.2))=vs:=by
 intro l;induction l with
 |nil=>intro vs h;simp only[parts]at h;cases h;rfl
 |cons p r ih=>
  intro vs h;obtain⟨i,x⟩:=p;simp only[parts]at h;cases hx:(ev st x).bind SV.val with
  |none=>simp[hx]at h
  |some v=>
   cases a:parts st r with
   |none=>simp[hx,a]at h
   |some ws=>
    simp only[hx,a]at h;cases h;simp[ih a,fH he hx]

theorem za(he:pP b st.env T){s:Sem Value}(h:qQ st o=some s):execOp (act T).eval o=(do pure (.value (<-s))):=by
 unfold qQ at h;cases j:o.op<;>simp only[j]at h<;>try (cases h;done)
 case call cl=>
  cases q:cl.callee with
  |builtin bi=>
   cases y:qM st cl.args.toList with
   |none=>cases bi<;>simp[q,y]at h
   |some vs=>
    have e:=An he y;have w:cl.args.map (act T).eval=vs.toArray:=by apply NU;simp[e]
    cases bi<;>simp only[q,y]at h<;>try (cases h;done)
    ·cases h;simp[execOp,j,resolve,q,w,invoke,builtin]
    ·cases h;simp[execOp,j,resolve,q,w,invoke,builtin]
    ·cases h;simp[execOp,j,resolve,q,w,invoke,builtin]
  |_=>simp[q]at h
 case buildSlice t n ps=>
  cases hp:parts st ps.toList with
  |none=>simp[hp]at h
  |some l=>
   rw[hp]at h;cases h;have e:=JR he hp;have w:(ps.map fun(i,x)=>(i,(act T).eval x))=l.toArray:=by apply NU;simp[<-e]
   simp[execOp,j,w]
 case makeSlice t l k=>
  cases hl:(ev st l).bind SV.val with
  |none=>simp[hl]at h
  |some a=>
   cases g:(ev st k).bind SV.val with
   |none=>simp[hl,g]at h
   |some d=>
    simp only[hl,g]at h;cases h;simp[execOp,j,fH he hl,fH he g]
 case convert src dst x=>
  cases hx:(ev st x).bind SV.val with
  |none=>simp[hx]at h
  |some a=>simp only[hx]at h;cases h;simp[execOp,j,fH he hx]
 case index t l k=>
  cases hl:(ev st l).bind SV.val with
  |none=>simp[hl]at h
  |some a=>
   cases g:(ev st k).bind SV.val with
   |none=>simp[hl,g]at h
   |some d=>
    simp only[hl,g]at h;cases h;simp[execOp,j,fH he hl,fH he g]
 case lookup t l k ok=>
  cases hl:(ev st l).bind SV.val with
  |none=>simp[hl]at h
  |some a=>
   cases g:(ev st k).bind SV.val with
   |none=>simp[hl,g]at h
   |some d=>
    simp only[hl,g]at h;cases h;simp[execOp,j,fH he hl,fH he g]
 case slice t x lo hi mx=>
  cases lo with
  |none=>
   cases hi with
   |some k=>simp at h
   |none=>
    cases mx with
    |some m=>simp at h
    |none=>
     simp only at h;cases hx:(ev st x).bind SV.val with
     |none=>simp[hx]at h
     |some a=>
      simp only[hx]at h;cases h;simp[execOp,j,fH he hx]
  |some l=>
   cases hi with
   |none=>simp at h
   |some k=>
    cases mx with
    |none=>simp at h
    |some m=>
     simp only at h;cases hx:(ev st x).bind SV.val with
     |none=>simp[hx]at h
     |some a=>
      cases hl:(ev st l).bind SV.val with
      |none=>simp[hx,hl]at h
      |some z=>
       cases g:(ev st k).bind SV.val with
       |none=>simp[hx,hl,g]at h
       |some d=>
        cases hm:(ev st m).bind SV.val with
        |none=>simp[hx,hl,g,hm]at h
        |some e=>
         simp only[hx,hl,g,hm]at h;cases h;simp[execOp,j,fH he hx,fH he hl,fH he g,fH he hm]
 case binOp op t l k pos=>
  cases op<;>simp only at h<;>try (cases h;done)
  cases hl:(ev st l).bind SV.val with
  |none=>simp[hl]at h
  |some a=>
   cases g:(ev st k).bind SV.val with
   |none=>simp[hl,g]at h
   |some d=>
    simp only[hl,g]at h;cases h;simp[execOp,j,fH he hl,fH he g,eqGuard]
 case makeMap t r=>
  cases r with
  |none=>simp only at h;cases h;simp[execOp,j]
  |some x=>
   simp only at h;cases hx:(ev st x).bind SV.val with
   |none=>simp[hx]at h
   |some a=>simp only[hx]at h;cases h;simp[execOp,j,fH he hx]

theorem pa{a:List rJ}{l:Nat}{x:rJ}(h:bz a l=some x):x.ty∈nR a:=by
 induction a with
 |nil=>simp[bz]at h
 |cons y r ih=>
  rw[cE]at h;simp only[nR];split at h
  ·cases h;simp
  ·simp[ih h]

theorem yg{j a:St}{v:Value}{w1:World}(d:Inv c b a T wa)(hw:a.w=wa)
  (g:Below c.B a.w w1) (nB:a.w.heap.size<=w1.heap.size)
  (l:∀(k ty:Nat)(cs:Array Value),ty∈nR a.boxes->a.w.heap[k]? =some (.cells cs ty (0,0))->w1.heap[k]? =a.w.heap[k]?)
  (h:behind c.P o.type a K v w1):Pq c false o b j wa T K v w1:=by
 obtain⟨y,rfl,h⟩:=yf h;refine⟨b,_,_,h,rfl,?_,fun e=>by cases e⟩;refine⟨d.size,d.env,sW.yU (st:={a with w:=w1}) ⟨fun m x hm=> ?_,d.box.ne⟩,dp d.lo nB,rfl,fun m x hm i=> ?_,d.base.trans (hw▸g)⟩
 ·have:=d.box.at_ m x hm;refine⟨this.1,?_⟩;rw[<-hw]at this;rw[l _ _ _ (pa hm) this.2];exact this.2
 ·rw[rP hm]at i;cases i

theorem vy{t:TypeId}{m k x:Operand}(g:o.op= .mapUpdate t m k x∨o.op= .insert t m k x)(inv:Inv c b st T wa)(h:Ak c t m k x st K):AV c false b st T o wa K:=by
 unfold Ak at h;intro next Q hn
 split at h
 ·rename_i A B C ha j he;obtain⟨l,h,a,hw,n,D,_⟩:=cT inv h;obtain⟨w1,q,d,nB,r,y⟩:=h;unfold Oper.wp;have z:(execOp (act T).eval o).run c.P wa= .ok .skip w1:=by
   rw[<-hw];rcases g with g|g<;>simp[execOp,g,fH inv.env ha,fH inv.env j,fH inv.env he,Sem.run_bind,q]
  rw[z];refine hn _ _ ⟨b,.u,_,y,rfl,?_,fun e=>by cases e⟩;refine⟨a.size,a.env,sW.yU (st:={l with w:=w1}) ⟨fun m x hm=> ?_,a.box.ne⟩,dp a.lo nB,rfl,fun m x hm i=> ?_,a.base.trans (hw▸d)⟩
  ·have:=a.box.at_ m x hm;refine⟨this.1,?_⟩;rw[<-hw]at this;rw[r _ _ _ (pa hm) this.2];exact this.2
  ·rw[rP hm]at i;cases i
 ·exact h.elim

theorem zb{s:Sem Value}(j:execOp (act T).eval o=(do pure (.value (<-s))))(inv:Inv c b st T wa)(h:newAt c s st K):AV c false b st T o wa K:=by
 unfold newAt at h;intro next Q hn
 obtain⟨k,h,d,hw,l,z,_⟩:=cT inv h;obtain⟨v,w1,n,g,nB,q,a,rfl,r⟩:=h;unfold Oper.wp;have y:(execOp (act T).eval o).run c.P wa= .ok (.value (.pointer (some a))) w1:=by
  rw[j,<-hw];simp[Sem.run_bind,n]
 rw[y];refine hn _ _ ⟨b,_,_,r,rfl,?_,fun e=>by cases e⟩;refine⟨d.size,d.env,sW.yU (st:={k with w:=w1}) ⟨fun m x hm=> ?_,d.box.ne⟩,dp d.lo nB,rfl,fun m x hm i=> ?_,d.base.trans (hw▸g)⟩
 ·have:=d.box.at_ m x hm;refine⟨this.1,?_⟩;rw[<-hw]at this;rw[q _ _ _ (pa hm) this.2];exact this.2
 ·rw[rP hm]at i;cases i

theorem Hf(inv:Inv c b st T wa)(h:Pg c o st K):AV c false b st T o wa K:=by
 unfold Pg at h;intro next Q hn
 cases hs:qQ st o with
 |some s=>
  rw[hs]at h;obtain⟨w,h,i,hw,y,z,_⟩:=cT inv h;obtain⟨v,w1,j,d,nB,l,n⟩:=h;unfold Oper.wp;have q:(execOp (act T).eval o).run c.P wa= .ok (.value v) w1:=by
   rw[za inv.env hs,<-hw];simp[Sem.run_bind,j]
  rw[q];exact hn _ _ (yg i hw d nB l n)
 |none=>
  rw[hs]at h;cases e:o.op<;>simp only[e]at h<;>try exact h.elim
  case mapUpdate t m k x=>exact vy (.inl e) inv h next Q hn
  case insert t m k x=>exact vy (.inr e) inv h next Q hn
  case alloc t=>exact zb (by simp[execOp,e]) inv h next Q hn
  case box t x=>
   cases hx:(ev st x).bind SV.val with
   |none=>simp[hx]at h
   |some a=>rw[hx]at h;exact zb (by simp[execOp,e,fH inv.env hx]) inv h next Q hn
  rename_i cl;cases r:cl.callee with
  |value x=>
   simp only[r]at h;split at h
   ·rename_i g first cap vs hx A
    have ex:=cG inv.env hx;have B:=An inv.env A;obtain⟨w,h,i,hw,y,z,_⟩:=cT inv h;obtain⟨v,w1,j,d,nB,l,n⟩:=h;unfold Oper.wp;have C:(first++cl.args.map (act T).eval)++cap=(first.toList++vs++cap.toList).toArray:=by
     apply NU;simp[<-B]
    have q:(execOp (act T).eval o).run c.P wa= .ok (.value v) w1:=by
     rw[<-hw];simp only[execOp,e,Sem.run_bind,resolve,r,ex,SV.den,Deferred.ofValue,Sem.run_pure,Result.andThen_ok,invoke,C,j]
    rw[q];exact hn _ _ (yg i hw d nB l n)
   ·exact h.elim
  |_=>simp[r]at h

theorem JS{q:Bool}{s:Sem Value}(j:execOp (act T).eval o=(do pure (.value (<-s))))(inv:Inv c b st T wa)(h:XE c s st K):AV c q b st T o wa K:=by
 unfold XE at h;intro next Q hn
 obtain⟨g,h,e,hw,k,A,l⟩:=cT inv h;obtain⟨v,w1,n,d,nB,r,a,rfl,y⟩:=h;unfold Oper.wp;have z:(execOp (act T).eval o).run c.P wa= .ok (.value (.pointer (some a))) w1:=by
  rw[j,<-hw];simp[Sem.run_bind,n]
 rw[z];have hb:Below c.B g.w w1:=d.mono e.lo;refine hn _ _ ⟨b,_,_,y,rfl,?_,fun _=> ?_⟩
 ·refine⟨e.size,e.env,sW.yU (st:={g with w:=w1}) ⟨fun m x hm=> ?_,e.box.ne⟩,dp e.lo nB,rfl,fun m x hm i=> ?_,e.base.trans (hw▸hb)⟩
  ·have:=e.box.at_ m x hm;refine⟨this.1,?_⟩;rw[<-hw]at this;rw[r _ _ _ (pa hm) this.2];exact this.2
  ·rw[rP hm]at i;cases i
 ·rw[hw]at d;exact(l.yU).kept _ _ _ _ d.size d.block

theorem EP{q:Bool}(inv:Inv c b st T wa)(h:JH c o st K):AV c q b st T o wa K:=by
 unfold JH at h;intro next Q hn
 cases hs:qQ st o with
 |none=>
  rw[hs]at h;cases g:o.op<;>simp only[g]at h<;>try exact h.elim
  rename_i t;exact JS (by simp[execOp,g]) inv h next Q hn
 |some s=>
  rw[hs]at h;obtain⟨i,h,d,hw,A,C,k⟩:=cT inv h;obtain⟨v,w1,l,a,nB,n,e⟩:=h;unfold Oper.wp;have r:(execOp (act T).eval o).run c.P wa= .ok (.value v) w1:=by
   rw[za inv.env hs,<-hw];simp[Sem.run_bind,l]
  rw[r];have hb:Below c.B i.w w1:=a.mono d.lo;obtain⟨y,z,e⟩:=yf e;subst z;refine hn _ _ ⟨b,_,_,e,rfl,?_,fun _=> ?_⟩
  ·refine⟨d.size,d.env,sW.yU (st:={i with w:=w1}) ⟨fun m x hm=> ?_,d.box.ne⟩,dp d.lo nB,rfl,fun m x hm j=> ?_,d.base.trans (hw▸hb)⟩
   ·have:=d.box.at_ m x hm;refine⟨this.1,?_⟩;rw[<-hw]at this;rw[n _ _ _ (pa hm) this.2];exact this.2
   ·rw[rP hm]at j;cases j
  ·rw[hw]at a;exact(k.yU).kept _ _ _ _ a.size a.block

theorem xm{dyn:Bool}(inv:Inv c b st T wa)(h:rK dyn c o st K):AV c false b st T o wa K:=by
 unfold rK at h;intro next Q hn
 cases j:o.op<;>simp only[j]at h<;>try exact h.elim
 rename_i cl;cases i:cl.callee with
 |value x=>
  simp only[i]at h;split at h
  ·rename_i g first cap vs hx l
   have ex:=cG inv.env hx;have m:=An inv.env l;have cA:ay c.P g=true/\ia c.B st fun st=>cI c.P g (first.toList++vs++cap.toList).toArray c.B st.w fun v w1=>
     (∀(k ty:Nat)(cs:Array Value),ty∈nR st.boxes->st.w.heap[k]? =some (.cells cs ty (0,0))->w1.heap[k]? =st.w.heap[k]?)/\behind c.P o.type st K v w1:=by
    unfold Ai at h;cases dyn with
    |true=>exact h
    |false=>
     simp only at h;cases a:ay c.P g with
     |false=>rw[a]at h;exact h.elim
     |true=>rw[a]at h;exact⟨rfl,h⟩
   obtain⟨a,h⟩:=cA
   ·obtain⟨C,h,n,hw,D,E,_⟩:=cT inv h;unfold Oper.wp;have q:(execOp (act T).eval o).run c.P wa= .ok (.enter g (first.toList++vs++cap.toList).toArray) wa:=by
     have r:(first++cl.args.map (act T).eval)++cap=(first.toList++vs++cap.toList).toArray:=by
      apply NU;simp[<-m]
     unfold ay at a;cases hf:c.P.funcs[g]? with
     |none=>simp[hf]at a
     |some fn=>
      cases hb:fn.body with
      |none=>simp[hf,hb]at a
      |some F=>
       simp only[hf,hb]at a
       have hn : fn.name ≠ "runtime.NumGoroutine" := by
        intro e;simp[e]at a
       simp only[execOp,j,Sem.run_bind,resolve,i,ex,SV.den,Deferred.ofValue,Sem.run_pure,Result.andThen_ok,invoke,r];simp[callFunc,program,Sem.run_bind,Sem.run,hf,hb,hn]
    rw[q,Oper.upon_enter];rw[hw]at h;refine Calls.mono h fun e y he=> ?_
    obtain⟨v,rfl,d,z,A⟩:=he;exact hn _ _ (yg n hw (by rw[hw];exact d) (by rw[hw];exact d.size) (by rw[hw];exact z) A)
  ·exact h.elim
 |_=>simp[i]at h

theorem mX{m:Nat}{q:Bool}(e:q=true->pR o=false)(hs:∀cs q,o.op≠ .select cs q)(inv:Inv c b st T wa)(h:uH c m o st K):AV c q b st T o wa K:=by
 unfold uH at h;cases he:GY o.op with
 |true=>rw[he]at h;exact EO e inv h
 |false=>
  rw[he]at h;simp only at h;have gen:∀{raw},value c raw none none o st (fun x=>K x st)->AV c q b st T o wa K:=fun a=>
   vx inv (Same.refl _) (AN.Pr (lw:=none) inv (fun v a=>by cases a)) (pU (fun _ _ h=>h) inv.env hs a)
  split at h
  ·split at h
   ·obtain⟨g,h,d,hw,_,_,i⟩:=cT inv h;exact vx d i (AN.Pr (lw:=some g.w) d (fun v a=>by cases a;exact hw)) (pU (fun _ _ h=>h) d.env hs h)
   ·exact gen h
  ·exact gen h

theorem zc{G i:Nat}(hs:∀cs q,o.op≠ .select cs q)(inv:Inv c b st T wa)(h:Ph c G i o st K):AV c (jm (fQ c.mode G i) o) b st T o wa K:=by
 unfold Ph at h;unfold jm;split at h
 ·rename_i e;rw[e];exact Hf inv h
 ·rename_i e;rw[e];exact xm inv h
 ·rename_i e;rw[e];exact xm inv h
 ·rename_i e;rw[e];obtain⟨H,h,g,j⟩:=vt _ _ inv h;intro next Q hn
  refine mX (q:= !pR o) (fun e=>by simpa using e) hs g h next Q fun v w' ⟨k,x,m,h1,n,r,w⟩=>hn v w' ⟨k,x,m,h1,n,r,fun e=> ?_⟩
  obtain⟨A,B,a⟩:=w e;exact⟨A,B,fun l hl=>⟨(a l hl).1,fun C D=>by
   obtain⟨y,hy,E,d⟩:=(a l hl).2 C D;obtain⟨z,hz,f1,f2⟩:=j l y hy;exact⟨z,hz,f1.trans E,f2.trans d⟩⟩⟩
 ·rename_i e;rw[e];obtain⟨H,h,g,j⟩:=AU _ _ inv h;intro next Q hn
  refine mX (q:= !pR o) (fun e=>by simpa using e) hs g h next Q fun v w' ⟨k,x,m,h1,n,r,w⟩=>hn v w' ⟨k,x,m,h1,n,r,fun e=> ?_⟩
  obtain⟨A,B,a⟩:=w e;exact⟨A,B,fun l hl=>⟨(a l hl).1,fun C D=>by
   obtain⟨y,hy,E,d⟩:=(a l hl).2 C D;obtain⟨z,hz,f1,f2⟩:=j l y hy;exact⟨z,hz,f1.trans E,f2.trans d⟩⟩⟩
 ·rename_i e;rw[e];obtain⟨H,h,g,j⟩:=vt _ _ inv h;intro next Q hn
  refine mX (q:= !pR o) (fun e=>by simpa using e) hs g h next Q fun v w' ⟨k,x,m,h1,n,r,w⟩=>hn v w' ⟨k,x,m,h1,n,r,fun e=> ?_⟩
  obtain⟨A,B,a⟩:=w e;exact⟨A,B,fun l hl=>⟨(a l hl).1,fun C D=>by
   obtain⟨y,hy,E,d⟩:=(a l hl).2 C D;obtain⟨z,hz,f1,f2⟩:=j l y hy;exact⟨z,hz,f1.trans E,f2.trans d⟩⟩⟩
 ·exact EP inv h
 ·rename_i d I F M J L N;split
  ·rename_i e;exact absurd e d
  ·rename_i e;exact absurd e I
  ·rename_i e;exact absurd e F
  ·exact mX (fun e=>by simpa using e) hs inv h

theorem kZ{dst:Option Tmp}{x:SV}{v:Value}{K:St->Prop}(inv:Inv c b st T wa)(g:v=x.den b)(h:put c.N st dst x K):
  ∃a,K a/\Inv c b a ((act T).put dst v).tmps wa/\(act T).put dst v=act ((act T).put dst v).tmps/\a.boxes=st.boxes:=by
 unfold put at h;cases dst with
 |none=>exact⟨st,h,inv,rfl,rfl⟩
 |some s=>
  simp only at h;cases hl:Nat.blt s c.N with
  |false=>rw[hl]at h;exact h.elim
  |true=>
   rw[hl]at h;have d:s<c.N:=by simpa[Uy]using hl
   refine⟨_,h,⟨?_,fun t y hy=> ?_,inv.box,inv.lo,inv.ext,inv.new,inv.base⟩,rfl,rfl⟩
   ·simp[Act.put,act,inv.size]
   ·simp only[iU,oY]at hy;simp only[Act.put,act];have i:=inv.size;by_cases e:s=t
    ·subst e;simp only[CY]at hy;cases hy;rw[LC (Nat.lt_of_lt_of_eq d i.symm),g]
    ·rw[aq e,aq (ow e)]at hy;rw[B9 e];exact inv.env t y hy

theorem JT(he:pP b st.env T){ops:Array Oper}{j s:Nat}{x:SV}(hj:(ops.toList[j]?).bind (·.dst)=some s)(hx:get st.env s=some x):
  yielded ops T j=match x.den b with| .bool t=>some t|_=>none:=by
 have e:(ops[j]?).bind (·.dst)=some s:=by simpa using hj
 unfold yielded;rw[e];simp[he s x hx];cases x.den b<;>rfl

theorem Hg{s:Nat}{x:SV}{t:Bool}(inv:Inv c b st T wa)(hx:get st.env s=some x)(a:x.den b= .bool t):Inv c b (Am st s t) T wa:=by
 refine⟨inv.size,fun m y hy=> ?_,inv.box,inv.lo,inv.ext,inv.new,inv.base⟩;simp only[Am,iU,oY]at hy;by_cases e:s=m
 ·subst e;simp only[CY]at hy;cases hy;rw[inv.env s x hx,a];cases t<;>rfl
 ·rw[aq e,aq (ow e)]at hy;exact inv.env m y hy

theorem mY{ops:Array Oper}{K:Bool->St->Prop}(inv:Inv c b st T wa)(h:guarded ops o st K):
  ∃a,K (Region.wanted o (yielded ops T)) a/\Inv c b a T wa/\a.boxes=st.boxes:=by
 unfold guarded at h;unfold Region.wanted;cases hg:o.guard with
 |none=>rw[hg]at h;exact⟨st,h,inv,rfl⟩
 |some g=>
  obtain⟨j,want⟩:=g;rw[hg]at h;simp only at h⊢;cases hj:(ops.toList[j]?).bind (·.dst)with
  |none=>rw[hj]at h;exact h.elim
  |some s=>
   rw[hj]at h;simp only at h;cases hx:get st.env s with
   |none=>rw[hx]at h;exact h.elim
   |some x=>
    rw[hx]at h;have hy:=JT inv.env hj hx;have gen:(ya x fun t=>K (Dx t want) (Am st s t))->∃a,K (yielded ops T j==some want) a/\Inv c b a T wa/\a.boxes=st.boxes:=fun h=>by
     obtain⟨t,d,h⟩:=rM (b:=b) h;rw[d]at hy;refine⟨_,?_,Hg inv hx d,rfl⟩;rw[hy];cases t<;>cases want<;>exact h
    cases x with
    |u=>
     simp only at h;refine⟨st,?_,inv,rfl⟩;rw[hy];cases want<;>exact h
    |_=>exact gen h

theorem JU{q:Bool}{b0:Nat->Nat}{a:St}{d:Act->World->Prop}{K:St->Prop}{v:Value}{w':World}
  (h:Pq c q o b0 a wa T (fun x st=>put c.N st o.dst x K) v w') (hn:∀b st g w',K st->Inv c b st g w'->(q=true->Kept o b0 a wa b st w')->d (act g) w'):d ((act T).put o.dst v) w':=by
 obtain⟨A,x,B,hp,i,j,k⟩:=h;obtain⟨C,m,n,e,hb⟩:=kZ j i hp;rw[e];exact hn _ _ _ _ m n fun r=>by
  obtain⟨w,y,z⟩:=k r;exact⟨w,y,fun l hl=>by rw[hb];exact z l hl⟩

theorem tK{k i:Nat}{ops:Array Oper}{Q:Exit->Act->World->Prop}{m:Act->World->Prop}{K:St->Prop}(hs:∀cs q,o.op≠ .select cs q)(inv:Inv c b st T wa)(h:yW c k ops i o st K)
  (hi:ops[i]? =some o) (hn:∀a d g w',K d->Inv c a d g w'->(jm (fQ c.mode k i) o=true->Kept o b st wa a d w')->m (act g) w'):wpOp c.P ops Q i m (act T) wa:=by
 unfold yW at h;obtain⟨d,h,n,r⟩:=mY inv h;unfold wpOp;simp only[hi];have y:yielded ops (act T).tmps=yielded ops T:=rfl;rw[y];cases hw:Region.wanted o (yielded ops T)with
 |true=>
  rw[hw]at h;simp only[CY];exact .inl (zc hs n h _ _ fun v w' ha=>JU ha fun a w g j h1 z A=>hn a w g j h1 z fun B=>by
   obtain⟨C,D,E⟩:=A B;exact⟨C,D,fun l hl=>by rw[<-r];exact E l hl⟩)
 |false=>
  rw[hw]at h;simp only[Fb,zD];obtain⟨w,F,G,e,hb⟩:=kZ n (v:=undef) rfl h;rw[e];exact hn _ _ _ _ F G fun _=>Same.kept (fun l x hx=>by rw[hb,r]at hx;exact⟨x,hx,rfl,rfl⟩) _ _ _ _ lf fun _ _=>rfl

theorem ER{d:Nat}{ops:Array Oper}{Q:Exit->Act->World->Prop}{K:St->Prop}(e:∀b st a w',K st->Inv c b st a w'->Q .normal (act a) w')(g:∀(j:Nat) o cs q,ops[j]? =some o->o.op≠ .select cs q):
  ∀(l:List Oper)(i:Nat),(∀k,l[k]? =ops[i+k]?)->∀(b:Nat->Nat)(st:St)(T:Array Value)(wa:World),Inv c b st T wa->EE c d ops i l st K->wpOps c.P ops Q (List.range' i l.length) (act T) wa:=by
 intro l;induction l with
 |nil=>
  intro i _ b st T wa inv h;simp only[wu,List.range'_zero,wpOps];exact e _ _ _ _ h inv
 |cons o r ih=>
  intro i hl b st T wa inv h;simp only[EE]at h;have hi:ops[i]? =some o:=by simpa using(hl 0).symm
  simp only[eL,List.range'_succ];rw[wpOps_cons];exact tK (fun cs q=>g i o cs q hi) inv h hi fun b st a w' m n _=>
   ih (i+1) (fun k=>by have:=hl (k+1);simpa[IS,LP 1 k]using this) b st a w' n m
end
section any
variable {P:Program} {ops:Array Oper} {Q:Exit->Act->World->Prop} {S:World->Prop} {qt:Nat->Bool}

def wj(P:Program)(ops:Array Oper)(Q:Exit->Act->World->Prop)(S:World->Prop)(qt:Nat->Bool):Nat->Array Bool->Act->World->Prop
 |0,l,a,w=>Region.ready .any ops l=[]/\Q .normal a w
 |n+1,l,a,w=>(Region.ready .any ops l=[]->Q .normal a w)/\
  ∀i∈Region.ready .any ops l,wpOp P ops Q i (fun b w'=>(qt i=true->S w->S w')/\wj P ops Q S qt n (l.setIfInBounds i true) b w') a w

theorem wj.wpAny:∀(n:Nat)(l:Array Bool)(a:Act)(w:World),wj P ops Q S qt n l a w->wpAny P .any ops Q n l a w
 |0,_,_,_,h=>h
 |n+1,_,_,_,h=>⟨h.1,fun i hi=>wpOp_mono (fun b w' d=>wj.wpAny n _ b w' d.2) (h.2 i hi)⟩

theorem wj.first{S':World->Prop}{i:Nat}{q:Oper}{v:Value}{late:Nat->Prop}(hi:ops[i]? =some q)(G:∀(j:Nat) o cs b,ops[j]? =some o->o.op≠ .select cs b)
  (M:∀c a w,Q (.panic c) (a.put q.dst v) w->Q (.panic c) a w)
  (N:∀j d,ops[j]? =some d->late j->∃e∈d.after,Region.binds .any e=true/\(e.on=i∨late e.on)):
  ∀(n:Nat)(l:Array Bool)(a:Act)(w:World),
   (∀j d,ops[j]? =some d->j≠i->l.getD j true=false->¬late j->
    q.apart ops d=true/\∀w w',(qt j=true->S w->S w')->S' w->S' w')->
   (∀j,late j->l.getD j false=false)->
   i∈Region.ready .any ops l->YieldsIf P ops S' q v a->S' w->
   wj P ops Q S qt n (l.setIfInBounds i true) (a.put q.dst v) w->wj P ops Q S qt (n+1) l a w:=by
 intro n;induction n with
 |zero=>
  intro l a w _ _ m hy y H;refine⟨fun h=>(by rw[h]at m;cases m),fun j hj=> ?_⟩;by_cases g:j=i
  ·subst g;exact hy.wpOp hi y ⟨fun _ h=>h,H⟩
  ·have:=ready_mono hj g;rw[H.1]at this;cases this
 |succ n ih=>
  intro l a w I J m hy y H;refine⟨fun h=>(by rw[h]at m;cases m),fun j hj=> ?_⟩;by_cases g:j=i
  ·subst g;exact hy.wpOp hi y ⟨fun _ h=>h,H⟩
  ·have h1:=H.2 j (ready_mono hj g);obtain⟨r,d,z,O⟩:=mem_ready.1 hj;have x:¬late j:=fun D=>by
    obtain⟨e,he,hb,R⟩:=N j d z D;have h1:=O e he hb;rcases R with heq|hl
    ·have K:=(mem_ready.1 m).1;rw[heq]at h1;rcases Ip i l.size with E|E
     ·simp[E]at K h1;rw[K]at h1;cases h1
     ·simp[vd E]at h1
    ·rw[J _ hl]at h1;cases h1
   obtain⟨T,U⟩:=I j d z g r x;have V:=wpOp_putIf z T (fun cs b=>G i q cs b hi) (fun cs b=>G j d cs b z) M hy h1;refine wpOp_mono (fun W w' A=>⟨A.2.1,?_⟩) V;have X:=U w w' A.2.1 y;refine ih (l.setIfInBounds j true) W w' (fun k ok B F L Y=> ?_) (fun k B=> ?_) (ready_mono m (ow g)) A.1 X ?_
   ·refine I k ok B F ?_ Y;by_cases C:j=k
    ·subst C;exact r
    ·rw[getD_set_ne true C]at L;exact L
   ·have C:j≠k:=fun e=>x (e▸B)
    rw[getD_set_ne false C];exact J k B
   ·rw[Array.setIfInBounds_comm _ _ g];exact A.2.2
end any

section
variable {c:Cx}

theorem cN{n:Nat}:∀{l:List Nat},lG n l=true↔n∈l:=by
 intro l;induction l with
 |nil=>simp[lG]
 |cons x r ih=>
  simp only[lG];cases h:Nat.beq x n with
  |true=>have:=beq_true h;simp[this]
  |false=>
   have:=beq_false h;simp only[ih,cc];constructor
   ·exact .inr
   ·rintro(h|h)
    ·exact absurd h.symm this
    ·exact h

def Rel(ops:Array Oper)(listed:List Nat)(arr:Array Bool):Prop:=arr.size=ops.size/\∀j,j<ops.size->arr.getD j true=lG j listed

theorem Rel.cons{ops:Array Oper}{listed:List Nat}{arr:Array Bool}(h:Rel ops listed arr)(i:Nat):Rel ops (i::listed) (arr.setIfInBounds i true):=by
 refine⟨by simp[h.1],fun j hj=> ?_⟩;have:=h.2 j hj;have a:j<arr.size:=by rw[h.1];exact hj
 simp only[lG];cases e:Nat.beq i j with
 |true=>have:=beq_true e;subst this;simp[a]
 |false=>have b:=beq_false e;rw[getD_set_ne true b];exact this

theorem Rel.pd{ops:Array Oper}{listed:List Nat}{arr:Array Bool}(h:Rel ops listed arr){j:Nat}(hj:j<ops.size):arr.getD j false=lG j listed:=by
 have:=h.2 j hj;have a:j<arr.size:=by rw[h.1];exact hj
 simp[a]at this⊢;exact this

theorem wm{ops:Array Oper}{listed:List Nat}{arr:Array Bool}(h:Rel ops listed arr)(q:∀(j:Nat) o,ops[j]? =some o->∀e∈o.after,Region.binds .any e=true->e.on<ops.size):
  ∀(l:List Oper)(i:Nat),(∀k,l[k]? =ops[i+k]?)->∀j,j∈gm listed i l↔i<=j/\j∈Region.ready .any ops arr:=by
 intro l;induction l with
 |nil=>
  intro i hl j;simp only[gm,fs,false_iff,not_and];intro A hj;obtain⟨_,o,ho,_⟩:=mem_ready.1 hj;have:=hl (j - i);rw[show i+(j - i)=j by omega,ho]at this;simp at this
 |cons o r ih=>
  intro i hl j;have hi:ops[i]? =some o:=by simpa using(hl 0).symm
  have b:i<ops.size:=(ax.1 hi).1;have w:=ih (i+1) (fun k=>by have:=hl (k+1);simpa[IS,LP 1 k]using this);have x:i∈Region.ready .any ops arr↔(lG i listed|| !(o.after.toList.all fun e=> !Region.binds .any e||lG e.on listed))=false:=by
   rw[mem_ready,h.2 i b];simp only[Bool.or_eq_false_iff,Bool.not_eq_false',gr,Ka,Ij];constructor
   ·rintro⟨d,o',y,g⟩;rw[hi]at y;cases y;refine⟨d,fun e he=> ?_⟩;have z:e∈o.after:=by simpa using he
    cases hb:Region.binds .any e with
    |false=>exact .inl rfl
    |true=>have:=g e z hb;rw[h.pd (q i o hi e z hb)]at this;exact .inr this
   ·rintro⟨d,g⟩;refine⟨d,o,hi,fun e he hb=> ?_⟩;rw[h.pd (q i o hi e he hb)];exact(g e (by simpa using he)).resolve_left (by simp[hb])
  simp only[gm];cases m:(lG i listed|| !(o.after.toList.all fun e=> !Region.binds .any e||lG e.on listed))with
  |true=>
   have hn:¬i∈Region.ready .any ops arr:=fun hm=>by rw[x.1 hm]at m;cases m
   simp only[w];constructor
   ·rintro⟨h1,a⟩;exact⟨om,a⟩
   ·rintro⟨h1,a⟩;refine⟨?_,a⟩;rcases Ip i j with n|n
    ·omega
    ·have:i=j:=om;subst this;exact absurd a hn
  |false=>
   have hy:=x.2 m;simp only[cc,w];constructor
   ·rintro(rfl|⟨h1,a⟩)
    ·exact⟨eU _,hy⟩
    ·exact⟨om,a⟩
   ·rintro⟨h1,a⟩;rcases Ip i j with n|n
    ·exact .inr ⟨om,a⟩
    ·exact .inl om

theorem vz{j:Nat}{ops:Array Oper}{listed:List Nat}{i:Nat}{d:Oper}{late:List Nat}:∀(l:List Oper)(a:Nat),qT c j ops listed i d late a l=true->
  ∀k o,l[k]? =some o->a+k≠i->(match jt d&& !jm (fQ c.mode j (a+k)) o with
   |true=>lG (a+k) listed=false/\lG (a+k) late=true
   |false=>lG (a+k) listed=true∨lG (a+k) late=true∨d.apart ops o=true):=by
 intro l;induction l with
 |nil=>intro a _ k o b;simp at b
 |cons x r ih=>
  intro a h k o b g;simp only[qT,cy]at h;cases k with
  |zero=>
   simp only[List.getElem?_cons_zero,Dm]at b;subst b;have h1:=h.1;rw[Ka]at h1;have h1:=h1.resolve_left (by simpa using g);simp only[va];split at h1
   ·rename_i e;rw[e];simpa using h1
   ·rename_i e;rw[e];simpa[or_assoc]using h1
  |succ k=>
   have:=ih (a+1) h.2 k o (by simpa using b) om;rw[show a+1+k=a+(k+1) by omega]at this;exact this

theorem AY{ops:Array Oper}{listed:List Nat}{i:Nat}:∀(l:List Oper)(a:Nat)(acc:List Nat),(∀k,l[k]? =ops[a+k]?)->
  (∀j b,ops[j]? =some b->lG j acc=true->lG j listed=false/\∃e∈b.after,Region.binds .any e=true/\(e.on=i∨lG e.on acc=true))->(∀j,lG j acc=true->lG j listed=false)->
  (∀j b,ops[j]? =some b->lG j (qS listed i a l acc)=true->∃e∈b.after,Region.binds .any e=true/\(e.on=i∨lG e.on (qS listed i a l acc)=true))/\(∀j,lG j (qS listed i a l acc)=true->lG j listed=false):=by
 intro l;induction l with
 |nil=>intro a acc _ h g;exact⟨fun j b ho hj=>(h j b ho hj).2,g⟩
 |cons o r ih=>
  intro a acc hl h g;have m:ops[a]? =some o:=by simpa using(hl 0).symm
  have d:∀k,r[k]? =ops[a+1+k]? :=fun k=>by have:=hl (k+1);simpa[IS,LP 1 k]using this
  simp only[qS];cases w:(!lG a listed&&o.after.toList.any fun e=>Region.binds .any e&&(Nat.beq e.on i||lG e.on acc))with
  |false=>exact ih (a+1) acc d h g
  |true=>
   simp only[cy,Ij,oZ,Ka]at w;obtain⟨hu,e,he,hb,n⟩:=w;have grow:∀k,lG k acc=true->lG k (a::acc)=true:=fun k x=>cN.2 (by simp[cN.1 x])
   refine ih (a+1) (a::acc) d (fun j b ho hj=> ?_) fun j hj=> ?_
   ·rcases cc.1 (cN.1 hj)with rfl|hj
    ·rw[m]at ho;cases ho;refine⟨hu,e,by simpa using he,hb,?_⟩;rcases n with q|q
     ·exact .inl (beq_true q)
     ·exact .inr (grow _ q)
    ·obtain⟨y,e,he,hb,n⟩:=h j b ho (cN.2 hj);exact⟨y,e,he,hb,n.imp id (grow _)⟩
   ·rcases cc.1 (cN.1 hj)with rfl|hj
    ·exact hu
    ·exact g j (cN.2 hj)

theorem tL{b:Nat}{ops:Array Oper}{listed:List Nat}:∀{l:List Nat} {i:Nat},kY c b ops listed l=some i->
  i∈l/\∃o,ops[i]? =some o/\early o=true/\qT c b ops listed i o (qS listed i 0 ops.toList []) 0 ops.toList=true:=by
 intro l;induction l with
 |nil=>intro i h;simp[kY]at h
 |cons x r ih=>
  intro i h;simp only[kY]at h;cases hx:ops.toList[x]? with
  |none=>simp[hx]at h
  |some o=>
   simp only[hx]at h;cases a:early o&&qT c b ops listed x o (qS listed x 0 ops.toList []) 0 ops.toList with
   |true=>
    rw[a]at h;cases h;simp only[cy]at a;exact⟨sm,o,by simpa using hx,a.1,a.2⟩
   |false=>
    rw[a]at h;obtain⟨h1,d⟩:=ih h;exact⟨by simp[h1],d⟩

theorem DD:∀{l:List Nat} {z:Prop} {K:Nat->Prop},Dy l z K->l≠[]->∀i∈l,K i:=by
 intro l;induction l with
 |nil=>intro z K _ h;exact absurd rfl h
 |cons x r ih=>
  intro z K h _ i hi;cases r with
  |nil=>simp only[Dy]at h;rw[eb.1 hi];exact h
  |cons y s=>
   simp only[Dy]at h;rcases cc.1 hi with rfl|hi
   ·exact h.1
   ·exact ih h.2 sm i hi

def mC(b0:Nat->Nat)(b:St)(lw:Option World)(hold:List Nat)(w:World):Prop:=
 (∀l∈hold,∀x,bz b.boxes l=some x->w.heap[b0 l]? =some (.cells x.cells.toArray x.ty (0,0)))/\∀v,lw=some v->∀a u,v.cell? a=some u->w.cell? a=some u

theorem mC.au{b0:Nat->Nat}{b:St}{lw:Option World}{hold:List Nat}{w w':World}(h:mC b0 b lw hold w)(d:∀k,k<w.heap.size->w'.heap[k]? =w.heap[k]?):mC b0 b lw hold w':=by
 refine⟨fun l hl x hx=> ?_,fun v e a u hu=> ?_⟩
 ·have:=h.1 l hl x hx;rw[d _ (ax.1 this).1];exact this
 ·have:=h.2 v e a u hu;rw[World.cell?_of_block (d _ (World.block_lt_of_cell? w a this))];exact this

def quietAt(c:Cx)(a:Nat)(ops:Array Oper)(j:Nat):Bool:=match ops[j]? with
 |some o=>jm (fQ c.mode a j) o
 |none=>true

def Still(c:Cx)(e:Nat)(ops:Array Oper)(b0:Nat->Nat)(d:St)(lw:Option World)(hold:List Nat)(listed:List Nat)(b:Nat->Nat)(st:St)(w:World):Prop:=
 (∀j∈listed,quietAt c e ops j=true)->mC b0 d lw hold w/\∀l∈hold,b l=b0 l/\∀a,bz st.boxes l=some a->∃x,bz d.boxes l=some x/\x.cells=a.cells/\x.ty=a.ty

theorem CT{o:Oper}{l:Nat}:∀{ops:List Oper},o∈ops->sX o=true->o.dst=some l->l∈oR ops:=by
 intro ops;induction ops with
 |nil=>intro h;cases h
 |cons x r ih=>
  intro h hn a;simp only[oR];rcases cc.1 h with rfl|h
  ·unfold sX at hn;split at hn
   ·rename_i e;rw[e,a];simp
   ·rename_i e;rw[e,a];simp
   ·cases hn
  ·have:=ih h hn a;split<;>simp[this]

theorem CU{B:Nat}{ops:Array Oper}{Q:Exit->Act->World->Prop}{K:St->Prop}{lw:Option World}{hold:List Nat}{b0:Nat->Nat}{g:St}
  (hq:∀b st I w',K st->Inv c b st I w'->Q .normal (act I) w') (hQ:∀ch a w,¬Q (.panic ch) a w)
  (J:∀(j:Nat) o cs q,ops[j]? =some o->o.op≠ .select cs q) (DC:∀(j:Nat) o,ops[j]? =some o->∀e∈o.after,Region.binds .any e=true->e.on<ops.size)
  (fB:∀l∈hold,∀(j:Nat) o,ops[j]? =some o->sX o=true->o.dst≠some l):
  ∀(n:Nat)(listed:List Nat)(arr:Array Bool)(b:Nat->Nat)(st:St)(T:Array Value)(w:World),Rel ops listed arr->Inv c b st T w->
   Still c B ops b0 g lw hold listed b st w->pS c B ops lw hold n listed st K->wj c.P ops Q (mC b0 g lw hold) (quietAt c B ops) n arr (act T) w:=by
 intro n;induction n with
 |zero=>
  intro listed arr b st T w d inv L h;simp only[pS]at h;have hr:Region.ready .any ops arr=[]:=by
   cases he:gm listed 0 ops.toList with
   |nil=>
    refine Cd.2 fun j hj=> ?_
    have:=(wm d DC ops.toList 0 (fun k=>by simp) j).2 ⟨Ta _,hj⟩;rw[he]at this;cases this
   |cons x r=>simp[he]at h
  refine⟨hr,?_⟩;have N:gm listed 0 ops.toList=[]:=by
   cases he:gm listed 0 ops.toList with
   |nil=>rfl
   |cons x r=>simp[he]at h
  rw[N]at h;exact hq _ _ _ _ h inv
 |succ n ih=>
  intro listed arr b st T w d inv L h;have O:=fun j=>wm d DC ops.toList 0 (fun k=>by simp) j
  simp only[pS]at h;cases hf:kY c B ops listed (gm listed 0 ops.toList)with
  |some i=>
   simp only[hf]at h;obtain⟨D,o,hi,ES,R⟩:=tL hf;have Hj:ops.toList[i]? =some o:=by simpa using hi
   simp only[Hj]at h;have U:=((O i).1 D).2;obtain⟨V,h,E,xY⟩:=mY inv h;have W:i<ops.size:=(ax.1 hi).1;have X:=fun j m (hj:ops[j]? =some m) (A:j≠i)=>vz ops.toList 0 R j m (by simpa using hj) om
   simp only[jx]at X;obtain⟨ze,XJ⟩:=AY (ops:=ops) (listed:=listed) (i:=i) ops.toList 0 [] (fun k=>by simp) (fun j m _ hj=>by cases hj) (fun j hj=>by cases hj);have Hh:∀j,lG j (qS listed i 0 ops.toList [])=true->arr.getD j false=false:=fun j hj=>by
    by_cases Y:j<ops.size
    ·rw[d.pd Y];exact XJ j hj
    ·rw[Sb,vd (by rw[d.1];omega)];rfl
   have zf:∀j m,ops[j]? =some m->j≠i->arr.getD j true=false->¬lG j (qS listed i 0 ops.toList [])=true->
     o.apart ops m=true/\∀w w',(quietAt c B ops j=true->mC b0 g lw hold w->mC b0 g lw hold w')->(jt o=true->mC b0 g lw hold w)->(jt o=true->mC b0 g lw hold w'):=by
    intro j m hj A Jh DB;have hs:=X j m hj A;have Y:j<ops.size:=(ax.1 hj).1;have As:lG j listed=false:=by rw[<-d.2 j Y];exact Jh
    split at hs
    ·exact absurd hs.2 DB
    ·rename_i e;rw[As]at hs;refine⟨(hs.resolve_left sm).resolve_left DB,fun w w' hk F hl=> ?_⟩;have:quietAt c B ops j=true:=by
      unfold quietAt;rw[hj];simp only;rw[hl]at e;simpa using e
     exact hk this (F hl)
   have Z:jt o=true->mC b0 g lw hold w/\∀l∈hold,b l=b0 l/\∀G,bz st.boxes l=some G->∃x,bz g.boxes l=some x/\x.cells=G.cells/\x.ty=G.ty:=fun hl=>L fun j hj=>by
    unfold quietAt;split
    ·rename_i m SF;by_cases A:j=i
     ·subst A;rw[hi]at SF;cases SF;have:=(mem_ready.1 U).1;rw[d.2 j W,cN.2 hj]at this;cases this
     ·have hs:=X j m SF A;cases VX:jm (fQ c.mode B j) m with
      |true=>rfl
      |false=>
       rw[hl,VX]at hs;simp only[SD,Bool.and_self]at hs;rw[cN.2 hj]at hs;cases hs.1
    ·rfl
   have Ps:∀C,C.boxes=V.boxes->Still c B ops b0 g lw hold (i::listed) b C w:=fun C e M=>by
    rw[e,xY];exact L fun j hj=>M j (by simp[hj])
   have ey:yielded ops (act T).tmps=yielded ops T:=rfl;cases hw:Region.wanted o (yielded ops T)with
   |true=>
    rw[hw]at h;simp only at h;have hv:=pU (Ok:=fun w=>jt o=true->mC b0 g lw hold w) (lw:=lw) (hold:=some hold) (b:=b) (fun hl w1 dJ=>by
     have hH:=dJ hl;refine⟨fun l x hm hx=> ?_,fun v hv a u hu=>hH.2 v hv a u hu⟩;have vA:l∈hold:=cN.1 hm;rw[xY]at hx;obtain⟨e1,e2⟩:=(Z hl).2 l vA;obtain⟨y,hy,f1,f2⟩:=e2 x hx;rw[e1,<-f1,<-f2];exact hH.1 l vA y hy) E.env (fun cs q=>J i o cs q hi) h
    obtain⟨x,hp,eT⟩:=hv;obtain⟨C,H,lK,e,hb⟩:=kZ E (v:=x.den b) rfl hp;refine wj.first (S':=fun w=>jt o=true->mC b0 g lw hold w) hi J (fun ch a w hp=>absurd hp (hQ _ _ _)) ze n arr (act T) w zf Hh U (.inl ⟨by rw[ey];exact hw,fun w1 dJ=>eT w1 dJ⟩) (fun hl=>(Z hl).1) ?_;rw[e];exact ih (i::listed) _ b C _ w (d.cons i) lK (Ps C hb) H
   |false=>
    rw[hw]at h;simp only at h;obtain⟨C,H,lK,e,hb⟩:=kZ E (v:=undef) rfl h;refine wj.first (S':=fun w=>jt o=true->mC b0 g lw hold w) hi J (fun ch a w hp=>absurd hp (hQ _ _ _)) ze n arr (act T) w zf Hh U (.inr ⟨by rw[ey];exact hw,rfl⟩) (fun hl=>(Z hl).1) ?_;rw[e];exact ih (i::listed) _ b C _ w (d.cons i) lK (Ps C hb) H
  |none=>
   simp only[hf]at h;refine⟨fun N=> ?_,fun i hi=> ?_⟩
   ·have he:gm listed 0 ops.toList=[]:=Cd.2 fun j hj=>by
     have:=((O j).1 hj).2;rw[N]at this;cases this
    rw[he]at h;exact hq _ _ _ _ h inv
   ·have D:=(O i).2 ⟨Ta _,hi⟩;have h:=DD h (fun e=>by rw[e]at D;cases D) i D;obtain⟨_,o,ho,_⟩:=mem_ready.1 hi;have zg:ops.toList[i]? =some o:=by simpa using ho
    simp only[zg]at h;refine tK (fun cs q=>J i o cs q ho) inv h ho fun b' V I w' H E tM=> ?_
    have SG:quietAt c B ops i=jm (fQ c.mode B i) o:=by unfold quietAt;rw[ho]
    refine⟨fun VX F=> ?_,ih (i::listed) _ b' V I w' (d.cons i) E (fun M=> ?_) H⟩
    ·exact F.au (tM (by rw[<-SG];exact VX)).2.1
    ·obtain⟨k1,k2,k3⟩:=tM (by rw[<-SG];exact M i sm);obtain⟨F,hB⟩:=L fun j hj=>M j (by simp[hj])
     refine⟨F.au k2,fun l hl=> ?_⟩;obtain⟨e1,e2⟩:=k3 l (fun hn=>fB l hl i o ho hn);obtain⟨g1,g2⟩:=hB l hl;refine⟨e1.trans g1,fun G Ar=> ?_⟩;obtain⟨y,hy,f1,f2⟩:=e2 G Ar;obtain⟨z,hz,h1,h2⟩:=g2 y hy;exact⟨z,hz,h1.trans f1,h2.trans f2⟩
end

section
variable {c:Cx}

theorem rU{ops:Array Oper}(d:∀(j:Nat) o,ops[j]? =some o->∀e∈o.after,Region.binds .any e=true->e.on<ops.size)(L:List Nat)(i:Nat):
  i∈gm L 0 ops.toList↔lG i L=false/\∃o,ops[i]? =some o/\∀e∈o.after,Region.binds .any e=true->lG e.on L=true:=by
 have a:Rel ops L (Array.ofFn (n:=ops.size) fun j=>lG j.1 L):=⟨sm,fun j hj=>by simp[hj]⟩;rw[wm a d ops.toList 0 (fun k=>by simp) i];constructor
 ·rintro⟨_,h⟩;obtain⟨b,o,ho,g⟩:=mem_ready.1 h;have hi:=(ax.1 ho).1;rw[a.2 i hi]at b;exact⟨b,o,ho,fun e he hb=>by have:=g e he hb;rwa [a.pd (d i o ho e he hb)]at this⟩
 ·rintro⟨b,o,ho,g⟩;have hi:=(ax.1 ho).1;refine⟨Ta _,mem_ready.2 ⟨by rw[a.2 i hi];exact b,o,ho,fun e he hb=> ?_⟩⟩;rw[a.pd (d i o ho e he hb)];exact g e he hb
theorem lM{j:Nat}:∀{a l:List Nat},lG j (oF a l)=true↔j∈a∨lG j l=true:=by
 intro a;induction a with
 |nil=>intro l;simp[oF]
 |cons x r ih=>intro l;rw[oF,cN,cc,<-cN,ih,cc,or_assoc]
theorem gR{o:Oper}{b:Bool}{f:Nat}:∀{fl:List Nat},f∈waited o b fl↔f∈fl/\lI o f=b:=by
 intro fl;induction fl with
 |nil=>simp[waited]
 |cons x r ih=>
  rw[waited];have hs:Dx (lI o x) b=true↔lI o x=b:=by cases lI o x<;>cases b<;>simp[Dx]
  cases h:Dx (lI o x) b with
  |true=>
   simp only[cc,ih];have:=hs.1 h;constructor
   ·rintro(rfl|⟨h1,a⟩)
    ·exact⟨.inl rfl,this⟩
    ·exact⟨.inr h1,a⟩
   ·rintro⟨rfl|h1,a⟩
    ·exact .inl rfl
    ·exact .inr ⟨h1,a⟩
  |false=>
   have hn:¬lI o x=b:=fun k=>by rw[hs.2 k]at h;cases h
   simp only[ih,cc];constructor
   ·rintro⟨h1,a⟩;exact⟨.inr h1,a⟩
   ·rintro⟨rfl|h1,a⟩
    ·exact absurd a hn
    ·exact⟨h1,a⟩
theorem xn{o:Oper}{b:Bool}:∀{fl:List Nat},fl.Nodup->(waited o b fl).Nodup:=by
 intro fl;induction fl with
 |nil=>intro _;exact VS
 |cons x r ih=>
  intro h;obtain⟨h1,a⟩:=Ej.1 h;rw[waited];split
  ·exact Ej.2 ⟨fun k=>h1 (gR.1 k).1,ih a⟩
  ·exact ih a
theorem ET{o:Oper}{f:Nat}:lI o f=true↔∃e∈o.after,Region.binds .any e=true/\e.on=f:=by
 unfold lI;rw[oZ];constructor
 ·rintro⟨e,he,h⟩;rw[cy]at h;exact⟨e,by simpa using he,h.1,beq_true h.2⟩
 ·rintro⟨e,he,hb,rfl⟩;exact⟨e,by simpa using he,by rw[cy];exact⟨hb,Nat.beq_refl _⟩⟩

theorem CW{l f:Nat}:∀{ops:List Oper} {b:Nat},xh l f b ops=true->∀k o,ops[k]? =some o->b+k≠f->o.dst≠some l:=by
 intro ops;induction ops with
 |nil=>intro b _ k o a;simp at a
 |cons x r ih=>
  intro b h k o a d;simp only[xh,cy]at h;cases k with
  |zero=>
   simp at a;subst a;intro e;have h1:=h.1;rw[e,Ka]at h1;rcases h1 with h1|h1
   ·exact d (beq_true h1)
   ·simp at h1
  |succ k=>exact ih h.2 k o (by simpa using a) om

structure Bf (c:Cx) (ops:Array Oper) (f:Nat) (o:Oper) (t:Nat) (cells:List Value):Prop where
 ho:ops[f]? =some o
 op:o.op= .alloc t
 dst:o.dst=some (eI ops f)
 guard:o.guard=none
 zero:zeroCells c.P t=some cells
 lt:eI ops f<c.N
 other:∀j o',ops[j]? =some o'->j≠f->o'.dst≠some (eI ops f)
 free:∀e∈o.after,Region.binds .any e=false
theorem MM{d:Nat}{ops:Array Oper}{f:Nat}(h:Pj c d ops f=true):∃o t cells,Bf c ops f o t cells/\fQ c.mode d f=0:=by
 unfold Pj at h;cases ho:ops.toList[f]? with
 |none=>simp[ho]at h
 |some o=>
  simp only[ho,cy]at h;obtain⟨⟨h1,k⟩,m⟩:=h;cases i:o.op<;>simp only[i]at h1<;>try cases h1
  rename_i t;cases b:o.dst with
  |none=>simp[b]at h1
  |some l=>
   cases hg:o.guard with
   |some g=>simp[b,hg]at h1
   |none=>
    simp only[b,hg,cy]at h1;cases hz:zeroCells c.P t with
    |none=>simp[hz]at h1
    |some cells=>
     have a:eI ops f=l:=by unfold eI;rw[ho];simp[b]
     refine⟨o,t,cells,⟨by simpa using ho,i,by rw[a];exact b,hg,hz,?_,fun j o' hj n=> ?_,fun e he=> ?_⟩,beq_true k⟩
     ·rw[a];simpa[Uy]using h1.1.2
     ·rw[a];exact CW h1.2 j o' (by simpa using hj) om
     ·have:=gr.1 m e (by simpa using he);simpa using this
theorem Hk{b:Nat}{ops:Array Oper}{fl:List Nat}:∀{l:List Nat} {f:Nat},yc c b ops fl l=some f->f∈l/\f∉fl/\Pj c b ops f=true:=by
 intro l;induction l with
 |nil=>intro f h;simp[yc]at h
 |cons x r ih=>
  intro f h;simp only[yc]at h;cases a:(!lG x fl&&Pj c b ops x)with
  |true=>
   rw[a]at h;cases h;simp only[cy,Ij]at a;exact⟨sm,fun k=>(by rw[cN.2 k]at a;cases a.1),a.2⟩
  |false=>
   rw[a]at h;obtain⟨h1,d⟩:=ih h;exact⟨by simp[h1],d⟩

structure Pv (c:Cx) (ops:Array Oper) (b:Nat->Nat) (st:St) (T:Array Value) (wa:World) (f a:Nat):Prop where
 tmp:T[eI ops f]? =some (.pointer (some ⟨a,0,none⟩))
 lo:c.B<=a
 heap:∀o t cells,Bf c ops f o t cells->wa.heap[a]? =some (.cells cells.toArray t (0,0))
 ne:∀m x,bz st.boxes m=some x->b m≠a

theorem Bf.uniq{ops:Array Oper}{f:Nat}{o o':Oper}{t a:Nat}{cells b:List Value}(h:Bf c ops f o t cells)(k:Bf c ops f o' a b):o=o'/\t=a/\cells=b:=by
 have e:o=o':=by have:=h.ho.symm.trans k.ho;cases this;rfl
 subst e;have e:t=a:=by have:=h.op.symm.trans k.op;cases this;rfl
 subst e;have:=h.zero.symm.trans k.zero;cases this;exact⟨rfl,rfl,rfl⟩
theorem Bf.inj{ops:Array Oper}{f g:Nat}{o o':Oper}{t b:Nat}{cells d:List Value}(h:Bf c ops f o t cells)(k:Bf c ops g o' b d)(a:f≠g):eI ops f≠eI ops g:=by
 intro e;exact h.other g o' k.ho (ow a) (by rw[k.dst,e])

theorem JV{b:Nat->Nat}{st:St}{T:Array Value}{wa:World}{ops:Array Oper}{f a:Nat}{o:Oper}{t:Nat}{cells:List Value}(inv:Inv c b st T wa)(hf:Bf c ops f o t cells)(h:Pv c ops b st T wa f a):
  Inv c (fun m=>if m=eI ops f then a else b m) (qd st (eI ops f) t cells) T wa:=by
 refine⟨inv.size,fun s x hs=> ?_,⟨fun m x hm=> ?_,fun m n x y hm hn g=> ?_⟩,inv.lo,inv.ext,fun m x hm hn=> ?_,inv.base⟩
 ·simp only[qd,iU,oY]at hs;by_cases e:eI ops f=s
  ·rw[bb e]at hs;cases hs;subst e;rw[h.tmp];simp[SV.den]
  ·rw[aq e,aq (ow e)]at hs;obtain⟨h1,i⟩:=tI hs;rw[inv.env s x h1];cases x<;>simp only[SV.den];rename_i k off;have:k≠eI ops f:=beq_false i;simp[this]
 ·simp only[qd,cE,dm]at hm;by_cases e:eI ops f=m
  ·rw[bb e]at hm;cases hm;subst e;simp only[CY];exact⟨h.lo,h.heap o t cells hf⟩
  ·rw[aq e,aq (ow e)]at hm;simp only[aq (ow e)];exact inv.box.at_ m x hm
 ·simp only[qd,cE,dm]at hm hn;by_cases e:eI ops f=m
  ·by_cases d:eI ops f=n
   ·exact absurd (e.symm.trans d) g
   ·rw[aq d,aq (ow d)]at hn;rw[bb e.symm,aq (ow d)];exact fun k=>h.ne n y hn k.symm
  ·rw[aq e,aq (ow e)]at hm;by_cases d:eI ops f=n
   ·rw[aq (ow e),bb d.symm];exact h.ne m x hm
   ·rw[aq d,aq (ow d)]at hn;rw[aq (ow e),aq (ow d)];exact inv.box.ne m n x y hm hn g
 ·simp only[qd,cE,dm]at hm;by_cases e:eI ops f=m
  ·rw[bb e]at hm;cases hm;cases hn
  ·rw[aq e,aq (ow e)]at hm;rw[aq (ow e)];exact inv.new m x hm hn

theorem vB{T:Array Value}{wa:World}{ops:Array Oper}{K:St->Prop}{a:Nat->Nat}:∀(fl:List Nat)(b:Nat->Nat)(st:St),Inv c b st T wa->fl.Nodup->(∀f∈fl,∃o t cells,Bf c ops f o t cells)->
  (∀f∈fl,Pv c ops b st T wa f (a f))->(∀f∈fl,∀g∈fl,f≠g->a f≠a g)->rL c ops fl st K->
  ∃j i,K i/\Inv c j i T wa/\(∀m,(∀f∈fl,m≠eI ops f)->j m=b m)/\(∀m x,bz i.boxes m=some x->(∃f∈fl,m=eI ops f/\j m=a f)∨(bz st.boxes m=some x/\j m=b m))/\(∀s,get st.env s=none->(∀f∈fl,s≠eI ops f)->get i.env s=none)/\i.d=st.d:=by
 intro fl;induction fl with
 |nil=>intro b st inv _ _ _ _ h;exact⟨b,st,h,inv,fun _ _=>rfl,fun m x hx=> .inr ⟨hx,rfl⟩,fun s hs _=>hs,rfl⟩
 |cons f r ih=>
  intro b st inv z A C n h;obtain⟨D,E⟩:=Ej.1 z;obtain⟨o,t,cells,hf⟩:=A f sm;have ho:ops.toList[f]? =some o:=by simpa using hf.ho
  rw[rL]at h;simp only[ho,hf.op,hf.dst,hf.zero]at h;have F:=JV inv hf (C f sm);have B:∀g∈r,Pv c ops (fun m=>if m=eI ops f then a f else b m) (qd st (eI ops f) t cells) T wa g (a g):=fun g hg=>by
   have l:=C g (by simp[hg]);obtain⟨o',R,S,G⟩:=A g (by simp[hg]);have H:f≠g:=fun e=>D (e▸hg)
   refine⟨l.tmp,l.lo,l.heap,fun m x hm=> ?_⟩;simp only[qd,cE,dm]at hm;by_cases k:eI ops f=m
   ·rw[bb k.symm];exact n f sm g (by simp[hg]) H
   ·rw[aq k,aq (ow k)]at hm;rw[aq (ow k)];exact l.ne m x hm
  obtain⟨j,i,I,J,h1,L,M,N⟩:=ih _ _ F E (fun g hg=>A g (by simp[hg])) B (fun g hg O l=>n g (by simp[hg]) O (by simp[l])) h;refine⟨j,i,I,J,fun m hm=> ?_,fun m x hx=> ?_,fun s hs q=> ?_,N⟩
  ·rw[h1 m fun g hg=>hm g (by simp[hg]),aq (hm f sm)]
  ·rcases L m x hx with⟨g,hg,P,Q⟩|⟨hm,e⟩
   ·exact .inl ⟨g,by simp[hg],P,Q⟩
   ·simp only[qd,cE,dm]at hm;by_cases k:eI ops f=m
    ·rw[bb k.symm]at e;exact .inl ⟨f,sm,k.symm,e⟩
    ·rw[aq k,aq (ow k)]at hm;rw[aq (ow k)]at e;exact .inr ⟨hm,e⟩
  ·refine M s ?_ fun g hg=>q g (by simp[hg])
   simp only[qd,iU,oY];have w:=q f sm;rw[aq (ow w),aq w];cases hx:get (pO st.env (eI ops f)) s with
   |none=>rfl
   |some y=>have:=(tI hx).1;rw[hs]at this;cases this

theorem yi{T:Array Value}{d:Option Tmp}{v:Value}{s:Nat}(h:d≠some s):((act T).put d v).tmps[s]? =T[s]? :=by
 cases d with
 |none=>rfl
 |some l=>
  have:l≠s:=fun e=>h (by rw[e])
  simp only[Act.put,act];rw[B9 this]
theorem EV{b:Nat->Nat}{st:St}{T:Array Value}{wa:World}{o:Oper}{n i:Nat}{ops:Array Oper}{Q:Exit->Act->World->Prop}{r:Act->World->Prop}{K:St->Prop}(hs:∀cs q,o.op≠ .select cs q)(inv:Inv c b st T wa)(h:yW c n ops i o st K)
  (hi:ops[i]? =some o) (hn:∀d a g w',K a->Inv c d a g w'->(jm (fQ c.mode n i) o=true->Kept o b st wa d a w')->(∀s,o.dst≠some s->g[s]? =T[s]?)->r (act g) w'):wpOp c.P ops Q i r (act T) wa:=by
 unfold yW at h;obtain⟨a,h,w,y⟩:=mY inv h;unfold wpOp;simp only[hi];have z:yielded ops (act T).tmps=yielded ops T:=rfl;rw[z];cases hw:Region.wanted o (yielded ops T)with
 |true=>
  rw[hw]at h;simp only[CY];refine .inl (zc hs w h _ _ fun v w' ⟨d,x,A,hp,B,inv1,C⟩=> ?_);obtain⟨D,j,k,e,hb⟩:=kZ inv1 B hp;rw[e];refine hn _ _ _ _ j k (fun E=> ?_) fun s m=>yi m
  obtain⟨F,G,H⟩:=C E;exact⟨F,G,fun l hl=>by rw[hb,<-y];exact H l hl⟩
 |false=>
  rw[hw]at h;simp only[Fb,zD];obtain⟨D,j,k,e,hb⟩:=kZ w (v:=undef) rfl h;rw[e];exact hn _ _ _ _ j k (fun _=>Same.kept (fun l x hx=>by rw[hb,y]at hx;exact⟨x,hx,rfl,rfl⟩) _ _ _ _ lf fun _ _=>rfl) fun s m=>yi m

structure DF (c:Cx) (ops:Array Oper) (b:Nat->Nat) (st:St) (T:Array Value) (wa:World) (arr:Array Bool) (fl:List Nat) (a:Nat->Nat):Prop where
 op:∀f∈fl,∃o t cells,Bf c ops f o t cells
 nodup:fl.Nodup
 env:∀f∈fl,get st.env (eI ops f)=none
 at_:∀f∈fl,arr.getD f true=true->Pv c ops b st T wa f (a f)
 ne:∀f∈fl,∀g∈fl,f≠g->arr.getD f true=true->arr.getD g true=true->a f≠a g
 d:fl≠[]->st.d≠none
structure ags (ops:Array Oper) (listed fl:List Nat) (arr:Array Bool):Prop where
 size:arr.size=ops.size
 VZ:∀j,j<ops.size->lG j listed=true->arr.getD j true=true
 arr:∀j,j<ops.size->arr.getD j true=true->lG j listed=true∨j∈fl
 dis:∀f∈fl,lG f listed=false
def nC(arr:Array Bool):List Nat->Nat
 |[]=>0
 |f::r=>(if arr.getD f true=true then 0 else 1)+nC arr r

theorem MN{arr:Array Bool}:∀{fl:List Nat},nC arr fl=0↔∀f∈fl,arr.getD f true=true:=by
 intro fl;induction fl with
 |nil=>simp[nC]
 |cons x r ih=>
  rw[nC,Nat.add_eq_zero_iff,ih];constructor
  ·rintro⟨h1,a⟩ f hf;rcases cc.1 hf with rfl|hf
   ·apply bm;intro k;rw[aq k]at h1;cases h1
   ·exact a f hf
  ·intro h;exact⟨by rw[bb (h x sm)],fun f hf=>h f (by simp[hf])⟩
theorem Pw{arr:Array Bool}{i:Nat}(hi:i<arr.size)(b:arr.getD i true=false):∀{fl:List Nat},fl.Nodup->i∈fl->nC arr fl=nC (arr.setIfInBounds i true) fl+1:=by
 have other:∀{fl:List Nat},i∉fl->nC (arr.setIfInBounds i true) fl=nC arr fl:=by
  intro fl;induction fl with
  |nil=>intro _;rfl
  |cons x r ih=>
   intro h;have hx:i≠x:=fun e=>h (by simp[e])
   rw[nC,nC,getD_set_ne true hx,ih fun k=>h (by simp[k])]
 intro fl;induction fl with
 |nil=>intro _ h;cases h
 |cons x r ih=>
  intro a h;obtain⟨h1,d⟩:=Ej.1 a;rw[nC,nC];by_cases e:i=x
  ·subst e;rw[other h1,b,aq sm,bb (by simp[hi])];omega
  ·rw[getD_set_ne true e,ih d (by simpa[e]using h)];omega
theorem Bh{arr a:Array Bool}:∀{fl:List Nat},(∀f∈fl,arr.getD f true=a.getD f true)->nC arr fl=nC a fl:=by
 intro fl;induction fl with
 |nil=>intro _;rfl
 |cons x r ih=>intro h;rw[nC,nC,h x sm,ih fun f hf=>h f (by simp[hf])]
theorem Hl{arr:Array Bool}{o:Oper}:∀{fl:List Nat},(∀f∈waited o true fl,arr.getD f true=true)->nC arr (waited o false fl)=nC arr fl:=by
 intro fl;induction fl with
 |nil=>intro _;rfl
 |cons x r ih=>
  intro h;cases hw:lI o x with
  |true=>
   have h1:waited o true (x::r)=x::waited o true r:=by rw[waited,hw];rfl
   have a:waited o false (x::r)=waited o false r:=by rw[waited,hw];rfl
   rw[h1]at h;rw[a,nC,bb (h x sm),ih fun f hf=>h f (by simp[hf])];omega
  |false=>
   have h1:waited o true (x::r)=waited o true r:=by rw[waited,hw];rfl
   have a:waited o false (x::r)=x::waited o false r:=by rw[waited,hw];rfl
   rw[h1]at h;rw[a,nC,nC,ih h]

theorem JW{b:Nat->Nat}{st:St}{T:Array Value}{wa:World}{ops:Array Oper}{arr:Array Bool}{fl:List Nat}{a:Nat->Nat}{Q:Exit->Act->World->Prop}{w:Act->World->Prop}{i:Nat}(nB:arr.size=ops.size)(hi:i∈fl)(Y:arr.getD i true=false)
  (inv:Inv c b st T wa) (j:DF c ops b st T wa arr fl a)
  (hn:∀N y w',(∀k,k<wa.heap.size->w'.heap[k]? =wa.heap[k]?)->Inv c b st y w'->DF c ops b st y w' (arr.setIfInBounds i true) fl N->w (act y) w'):wpOp c.P ops Q i w (act T) wa:=by
 obtain⟨o,t,cells,hf⟩:=j.op i hi;have Z:i<arr.size:=by rw[nB];exact(ax.1 hf.ho).1
 have hz:=hf.zero;unfold zeroCells at hz;obtain⟨z,A,rfl⟩:=oi.1 hz;obtain⟨inf,C,D⟩:=u0.1 A;unfold wpOp;simp only[hf.ho];have hw:Region.wanted o (yielded ops (act T).tmps)=true:=by unfold Region.wanted;rw[hf.guard]
 rw[hw];simp only[CY];refine .inl ?_;unfold Oper.wp;have O:(execOp (act T).eval o).run c.P wa= .ok (.value (.pointer (some ⟨wa.heap.size,0,none⟩))) (wa.alloc (.cells z.cells t)):=by
  simp[execOp,hf.op,Instr.alloc,zeroValue,typeInfo,program,Sem.run_bind,Sem.run,C,D,newVar,newRow,newObj]
 rw[O];have L:=inv.size;have hl:=hf.lt;have r:∀k,k<wa.heap.size->(wa.alloc (.cells z.cells t)).heap[k]? =wa.heap[k]? :=fun k l=>Below.heap_alloc wa _ _ l
 have R:(wa.alloc (.cells z.cells t)).heap[wa.heap.size]? =some (.cells z.cells t):=by
  show(wa.heap.push _)[wa.heap.size]? =_;simp
 have E:st.d≠none:=j.d (fun e=>by rw[e]at hi;cases hi);have F:c.B<=wa.heap.size:=dp inv.lo inv.xj.below.size;have n:∀m x,bz st.boxes m=some x->b m<wa.heap.size:=fun m x hm=>(ax.1 (inv.box.at_ m x hm).2).1
 have ea:(act T).put o.dst (.pointer (some ⟨wa.heap.size,0,none⟩))=act (T.setIfInBounds (eI ops i) (.pointer (some ⟨wa.heap.size,0,none⟩))):=by rw[hf.dst];rfl
 show w ((act T).put o.dst (.pointer (some ⟨wa.heap.size,0,none⟩))) (wa.alloc (.cells z.cells t));rw[ea];refine hn (fun x=>if x=i then wa.heap.size else a x) _ _ r ?_ ?_
 ·refine⟨by simp[L],fun s x hs=> ?_,⟨fun m x hm=> ?_,inv.box.ne⟩,inv.lo,?_,inv.new,inv.base.alloc F _⟩
  ·have S:eI ops i≠s:=fun e=>by rw[<-e,j.env i hi]at hs;cases hs
   rw[B9 S];exact inv.env s x hs
  ·have:=inv.box.at_ m x hm;refine⟨this.1,?_⟩;rw[r _ (n m x hm)];exact this.2
  ·have hx:=inv.ext;cases M:st.d with
   |none=>exact absurd M E
   |some ts=>
    rw[M]at hx;simp only at hx⊢;refine⟨hx.below.alloc F _,fun k l=> ?_⟩;rw[r k (sS l hx.below.size)];exact hx.other k l
 ·have hold:∀g∈fl,g≠i->(arr.setIfInBounds i true).getD g true=true->Pv c ops b st T wa g (a g):=fun g hg h hx=>j.at_ g hg (by rw[getD_set_ne true (ow h)]at hx;exact hx)
  have G:∀g∈fl,g≠i->(arr.setIfInBounds i true).getD g true=true->a g<wa.heap.size:=fun g hg h hx=>by
   obtain⟨o',H,I,J⟩:=j.op g hg;exact(ax.1 ((hold g hg h hx).heap o' H I J)).1
  refine⟨j.op,j.nodup,j.env,fun g hg hx=> ?_,fun f q g hg h hx hy=> ?_,j.d⟩
  ·by_cases e:g=i
   ·subst e;rw[bb rfl];refine⟨by rw[LC (by rw[L];exact hl)],F,fun o' H I l=> ?_,fun m x hm=>Nat.ne_of_lt (n m x hm)⟩;obtain⟨_,U,V⟩:=hf.uniq l;subst U;rw[R,<-V]
   ·rw[aq e];obtain⟨o',H,I,J⟩:=j.op g hg;have l:=hold g hg e hx;refine⟨?_,l.lo,fun W t2 c2 X=> ?_,l.ne⟩
    ·rw[B9 (hf.inj J (ow e))];exact l.tmp
    ·rw[r _ (G g hg e hx)];exact l.heap W t2 c2 X
  ·by_cases e:f=i
   ·rw[bb e];have:g≠i:=fun k=>h (e.trans k.symm)
    rw[aq this];exact(Nat.ne_of_lt (G g hg this hy)).symm
   ·rw[aq e];by_cases K:g=i
    ·rw[bb K];exact Nat.ne_of_lt (G f q e hx)
    ·rw[aq K];exact j.ne f q g hg h (by rw[getD_set_ne true (ow e)]at hx;exact hx) (by rw[getD_set_ne true (ow K)]at hy;exact hy)

theorem Bi{ops:Array Oper}:∀(fl:List Nat)(st:St),(clean ops fl st).boxes=st.boxes/\(clean ops fl st).w=st.w/\(clean ops fl st).d=st.d/\(∀f∈fl,get (clean ops fl st).env (eI ops f)=none)/\∀s x,get (clean ops fl st).env s=some x->get st.env s=some x:=by
 intro fl;induction fl with
 |nil=>intro st;exact⟨rfl,rfl,rfl,fun f hf=>(by cases hf),fun s x h=>h⟩
 |cons f r ih=>
  intro st;obtain⟨h1,b,e,i,a⟩:=ih {st with env:=drop st.env (eI ops f)};rw[clean];refine⟨h1,b,e,fun g hg=> ?_,fun s x hs=> ?_⟩
  ·rcases cc.1 hg with rfl|hg
   ·cases hx:get (clean ops r {st with env:=drop st.env (eI ops g)}).env (eI ops g)with
    |none=>rfl
    |some y=>
     have:=a _ _ hx;simp only[oY,CY]at this;cases this
   ·exact i g hg
  ·have:=a s x hs;simp only[oY]at this;split at this
   ·cases this
   ·exact this
theorem MP{b:Nat->Nat}{st:St}{T:Array Value}{wa:World}{ops:Array Oper}(inv:Inv c b st T wa)(fl:List Nat):Inv c b (clean ops fl st) T wa:=by
 obtain⟨h1,a,d,_,e⟩:=Bi (ops:=ops) fl st;exact⟨inv.size,fun s x hs=>inv.env s x (e s x hs),by rw[h1];exact inv.box,by rw[a];exact inv.lo,by rw[a,d];exact inv.ext,by rw[h1,a];exact inv.new,inv.base⟩
theorem MQ{b:Nat->Nat}{st:St}{T:Array Value}{wa:World}(inv:Inv c b st T wa):Inv c b st.vn T wa:=
 ⟨inv.size,inv.env,inv.box,inv.lo,inv.xj,inv.new,inv.base⟩
theorem yj{b:Nat->Nat}{st:St}{T:Array Value}{wa:World}{ops:Array Oper}(inv:Inv c b st T wa)(fl:List Nat):
  Inv c b (tidy ops fl st) T wa/\(tidy ops fl st).boxes=st.boxes/\(∀f∈fl,get (tidy ops fl st).env (eI ops f)=none)/\(fl≠[]->(tidy ops fl st).d≠none):=by
 cases fl with
 |nil=>exact⟨inv,rfl,fun f hf=>(by cases hf),fun h=>absurd rfl h⟩
 |cons f r=>
  obtain⟨h1,_,_,a,_⟩:=Bi (ops:=ops) (f::r) st;exact⟨MQ (MP inv _),h1,a,fun _ k=>by cases k⟩
theorem DF.again{b:Nat->Nat}{st h:St}{T l:Array Value}{wa:World}{ops:Array Oper}{arr e:Array Bool}{fl:List Nat}{a:Nat->Nat}(i:DF c ops b st T wa arr fl a)(n:∀f∈fl,l[eI ops f]? =T[eI ops f]?)(o:h.boxes=st.boxes)
  (q:∀f∈fl,get h.env (eI ops f)=none) (r:fl≠[]->h.d≠none) (j:∀f∈fl,e.getD f true=arr.getD f true):DF c ops b h l wa e fl a:=by
 refine⟨i.op,i.nodup,q,fun f hf hx=> ?_,fun f hf g hg k hx hy=>i.ne f hf g hg k (by rw[<-j f hf];exact hx) (by rw[<-j g hg];exact hy),r⟩;have:=i.at_ f hf (by rw[<-j f hf];exact hx);exact⟨by rw[n f hf];exact this.tmp,this.lo,this.heap,fun m x hm=>this.ne m x (by rw[<-o];exact hm)⟩
theorem Bj{arr:Array Bool}{j:Nat}(h:arr.getD j false=true):arr.getD j true=true:=by
 rcases Ip j arr.size with k|k
 ·simp[k]at h⊢;exact h
 ·simp[vd k]at h

theorem Bk{G:Nat}{ops:Array Oper}{Q:Exit->Act->World->Prop}{K:St->Prop}{lw:Option World}{hold:List Nat}{b0:Nat->Nat}{H:St}
  (hq:∀b st W w',K st->Inv c b st W w'->Q .normal (act W) w') (hQ:∀ch a w,¬Q (.panic ch) a w)
  (qW:∀(j:Nat) o cs q,ops[j]? =some o->o.op≠ .select cs q) (DC:∀(j:Nat) o,ops[j]? =some o->∀e∈o.after,Region.binds .any e=true->e.on<ops.size)
  (fB:∀l∈hold,∀(j:Nat) o,ops[j]? =some o->sX o=true->o.dst≠some l):
  ∀(m n k:Nat)(listed fl:List Nat)(arr:Array Bool)(a b:Nat->Nat)(st:St)(T:Array Value)(w:World),n+k=m->n=k+nC arr fl->ags ops listed fl arr->Inv c b st T w->DF c ops b st T w arr fl a->
   Still c G ops b0 H lw hold listed b st w->ju c G ops lw hold k listed fl st K->wj c.P ops Q (mC b0 H lw hold) (quietAt c G ops) n arr (act T) w:=by
 intro m;induction m using Nat.strongRecOn with
 |ind m ih=>
 intro n k listed fl arr a b st T w hm hn d inv B xk h;have abP:∀f∈fl,f<ops.size:=fun f hf=>by
  obtain⟨o,t,cells,ho⟩:=B.op f hf;exact(ax.1 ho.ho).1
 have Py:(∀f∈fl,arr.getD f true=true)->rL c ops fl st K->Q .normal (act T) w:=fun D hl=>by
  obtain⟨S,L,N,O,_⟩:=vB fl b st inv B.nodup B.op (fun f hf=>B.at_ f hf (D f hf)) (fun f hf g hg C=>B.ne f hf g hg C (D f hf) (D g hg)) hl;exact hq _ _ _ _ N O
 have Wa:Region.ready .any ops arr=[]->∀f∈fl,arr.getD f true=true:=fun U f hf=>by
  obtain⟨o,t,cells,ho⟩:=B.op f hf;cases hx:arr.getD f true with
  |true=>rfl
  |false=>
   have:f∈Region.ready .any ops arr:=mem_ready.2 ⟨hx,o,ho.ho,fun e he hb=>by rw[ho.free e he]at hb;cases hb⟩;rw[U]at this;cases this
 have XK:∀i∈Region.ready .any ops arr,i∉fl->i∈gm (oF fl listed) 0 ops.toList/\∀o,ops[i]? =some o->∀f∈waited o true fl,arr.getD f true=true:=fun i hi E=>by
  obtain⟨h0,o,ho,D⟩:=mem_ready.1 hi;have cB:=(ax.1 ho).1;refine⟨(rU DC _ _).2 ⟨?_,o,ho,fun e he hb=> ?_⟩,fun o' zg f hf=> ?_⟩
  ·cases hx:lG i (oF fl listed)with
   |false=>rfl
   |true=>
    rcases lM.1 hx with k|k
    ·exact absurd k E
    ·have:=d.VZ i cB k;rw[h0]at this;cases this
  ·exact lM.2 ((d.arr e.on (DC i o ho e he hb) (Bj (D e he hb))).symm)
  ·rw[ho]at zg;cases zg;obtain⟨_,hw⟩:=gR.1 hf;obtain⟨e,he,hb,rfl⟩:=ET.1 hw;exact Bj (D e he hb)
 have Pz:∀n',n=n'+1->∀i∈Region.ready .any ops arr,i∈fl->wpOp c.P ops Q i (fun a' w'=>(quietAt c G ops i=true->mC b0 H lw hold w->mC b0 H lw hold w')/\wj c.P ops Q (mC b0 H lw hold) (quietAt c G ops) n' (arr.setIfInBounds i true) a' w') (act T) w:=fun n' hn' i hi E=>by
  have h0:=(mem_ready.1 hi).1;have cB:i<arr.size:=by rw[d.size];exact abP i E
  refine JW d.size E h0 inv B fun a' W w' gI O fi'=>⟨fun _ I=>I.au gI,?_⟩
  have hu:=Pw cB h0 B.nodup E;refine ih (n'+k) om n' k listed fl _ a' b st W w' rfl om ⟨by simp[d.size],fun j hj hx=> ?_,fun j hj hx=> ?_,d.dis⟩ O fi' (fun D=> ?_) h
  ·by_cases e:i=j
   ·subst e;simp[cB]
   ·rw[getD_set_ne true e];exact d.VZ j hj hx
  ·by_cases e:i=j
   ·subst e;exact .inr E
   ·rw[getD_set_ne true e]at hx;exact d.arr j hj hx
  ·obtain⟨I,hB⟩:=xk D;exact⟨I.au gI,hB⟩
 cases k with
 |zero=>
  simp only[ju]at h;cases he:gm (oF fl listed) 0 ops.toList with
  |cons x r=>simp[he]at h
  |nil=>
   rw[he]at h;cases n with
   |zero=>
    have D:=MN.1 (by omega:nC arr fl=0);refine⟨Cd.2 fun i hi=> ?_,Py D h⟩;by_cases E:i∈fl
    ·have:=(mem_ready.1 hi).1;rw[D i E]at this;cases this
    ·have:=(XK i hi E).1;rw[he]at this;cases this
   |succ n'=>
    refine⟨fun U=>Py (Wa U) h,fun i hi=> ?_⟩;by_cases E:i∈fl
    ·exact Pz n' rfl i hi E
    ·have:=(XK i hi E).1;rw[he]at this;cases this
 |succ k=>
  simp only[ju]at h;cases GN:yc c G ops fl (gm listed 0 ops.toList)with
  |some f=>
   simp only[GN]at h;obtain⟨hfm,A,hfs⟩:=Hk GN;obtain⟨o,t,cells,gn,_⟩:=MM hfs;obtain⟨abQ,_⟩:=(rU DC _ _).1 hfm;have agu:=(ax.1 gn.ho).1;have X:arr.getD f true=false:=by
    cases hx:arr.getD f true with
    |false=>rfl
    |true=>
     rcases d.arr f agu hx with k|k
     ·rw[abQ]at k;cases k
     ·exact absurd k A
   obtain⟨t1,t2,t3,t4⟩:=yj (ops:=ops) inv (f::fl);refine ih (n+k) om n k listed (f::fl) arr a b _ T w rfl (by rw[nC,aq (by simp[X])];omega) ⟨d.size,d.VZ,fun j hj hx=>(d.arr j hj hx).imp id fun h=>by simp[h],fun g hg=> ?_⟩ t1
    ⟨fun g hg=> ?_,Ej.2 ⟨A,B.nodup⟩,t3,fun g hg hx=> ?_,fun g hg g' EU C hx hy=> ?_,t4⟩ (fun D=> ?_) h
   ·rcases cc.1 hg with rfl|hg
    ·exact abQ
    ·exact d.dis g hg
   ·rcases cc.1 hg with rfl|hg
    ·exact⟨o,t,cells,gn⟩
    ·exact B.op g hg
   ·rcases cc.1 hg with rfl|hg
    ·rw[X]at hx;cases hx
    ·have:=B.at_ g hg hx;exact⟨this.tmp,this.lo,this.heap,fun m x hm=>this.ne m x (by rw[<-t2];exact hm)⟩
   ·rcases cc.1 hg with rfl|hg
    ·rw[X]at hx;cases hx
    ·rcases cc.1 EU with rfl|EU
     ·rw[X]at hy;cases hy
     ·exact B.ne g hg g' EU C hx hy
   ·obtain⟨I,hB⟩:=xk D;rw[t2];exact⟨I,hB⟩
  |none=>
   simp only[GN]at h;obtain⟨n',rfl⟩:∃n',n=n'+1:=⟨k+nC arr fl,om⟩
   cases hf:kY c G ops listed (gm listed 0 ops.toList)with
   |some i=>
    simp only[hf]at h;obtain⟨yh,o,hi,ES,hmf⟩:=tL hf;have Hj:ops.toList[i]? =some o:=by simpa using hi
    simp only[Hj]at h;obtain⟨XL,o',zg,abR⟩:=(rU DC _ _).1 yh;rw[hi]at zg;cases zg;have V:i<ops.size:=(ax.1 hi).1;have E:i∉fl:=fun k=>by
     obtain⟨Y,t2,c2,F⟩:=B.op i k;have:=hi.symm.trans F.ho;cases this;unfold early at ES;rw[F.op]at ES;cases ES
    have X:arr.getD i true=false:=by
     cases hx:arr.getD i true with
     |false=>rfl
     |true=>
      rcases d.arr i V hx with k|k
      ·rw[XL]at k;cases k
      ·exact absurd k E
    have rR:i∈Region.ready .any ops arr:=mem_ready.2 ⟨X,o,hi,fun e he hb=>by
     have h1:=DC i o hi e he hb;have F:=d.VZ e.on h1 (abR e he hb);have h3:e.on<arr.size:=by rw[d.size];exact h1
     simp[h3]at F⊢;exact F⟩
    obtain⟨L,h,O,xY⟩:=mY inv h;have AZ:=fun j R (hj:ops[j]? =some R) (C:j≠i)=>vz ops.toList 0 hmf j R (by simpa using hj) om
    simp only[jx]at AZ;obtain⟨ze,XJ⟩:=AY (ops:=ops) (listed:=listed) (i:=i) ops.toList 0 [] (fun k=>by simp) (fun j R _ hj=>by cases hj) (fun j hj=>by cases hj);have Hh:∀j,lG j (qS listed i 0 ops.toList [])=true->arr.getD j false=false:=fun j hj=>by
     by_cases lL:j<ops.size
     ·cases hx:arr.getD j false with
      |false=>rfl
      |true=>
       rcases d.arr j lL (Bj hx)with k|k
       ·rw[XJ j hj]at k;cases k
       ·obtain⟨Y,t2,c2,F⟩:=B.op j k;obtain⟨e,he,hb,_⟩:=ze j Y F.ho hj;rw[F.free e he]at hb;cases hb
     ·rw[Sb,vd (by rw[d.size];omega)];rfl
    have zf:∀j R,ops[j]? =some R->j≠i->arr.getD j true=false->¬lG j (qS listed i 0 ops.toList [])=true->
      o.apart ops R=true/\∀w w',(quietAt c G ops j=true->mC b0 H lw hold w->mC b0 H lw hold w')->(jt o=true->mC b0 H lw hold w)->(jt o=true->mC b0 H lw hold w'):=by
     intro j R hj C X J;have hs:=AZ j R hj C;have lL:j<ops.size:=(ax.1 hj).1;have As:lG j listed=false:=by
      cases hx:lG j listed with
      |false=>rfl
      |true=>have:=d.VZ j lL hx;rw[X]at this;cases this
     split at hs
     ·exact absurd hs.2 J
     ·rename_i e;rw[As]at hs;refine⟨(hs.resolve_left sm).resolve_left J,fun w w' hk I hl=> ?_⟩;have:quietAt c G ops j=true:=by
       unfold quietAt;rw[hj];simp only;rw[hl]at e;simpa using e
      exact hk this (I hl)
    have Be:jt o=true->mC b0 H lw hold w/\∀l∈hold,b l=b0 l/\∀M,bz st.boxes l=some M->∃x,bz H.boxes l=some x/\x.cells=M.cells/\x.ty=M.ty:=fun hl=>xk fun j hj=>by
     unfold quietAt;split
     ·rename_i R SF;by_cases C:j=i
      ·subst C;rw[cN.2 hj]at XL;cases XL
      ·have hs:=AZ j R SF C;cases VX:jm (fQ c.mode G j) R with
       |true=>rfl
       |false=>
        rw[hl,VX]at hs;simp only[SD,Bool.and_self]at hs;rw[cN.2 hj]at hs;cases hs.1
     ·rfl
    have XM:∀f∈fl,o.dst≠some (eI ops f):=fun f A=>by
     obtain⟨Y,t2,c2,F⟩:=B.op f A;exact F.other i o hi fun e=>E (e▸A)
    have yk:∀f∈fl,(arr.setIfInBounds i true).getD f true=arr.getD f true:=fun f A=>getD_set_ne true fun e=>E (e▸A)
    have next:∀(Z:St)(v:Value),Z.boxes=L.boxes->Inv c b Z ((act T).put o.dst v).tmps w->ju c G ops lw hold k (i::listed) fl (tidy ops fl Z) K->
      wj c.P ops Q (mC b0 H lw hold) (quietAt c G ops) n' (arr.setIfInBounds i true) (act ((act T).put o.dst v).tmps) w:=fun Z v hb lK N=>by
     obtain⟨t1,t2,t3,t4⟩:=yj (ops:=ops) lK fl;refine ih (n'+k) om n' k (i::listed) fl _ a b _ _ w rfl (by rw[Bh yk];omega) ⟨by simp[d.size],fun j hj hx=> ?_,fun j hj hx=> ?_,fun f A=> ?_⟩ t1
      (B.again (fun f A=>yi (XM f A)) (t2.trans (hb.trans xY)) t3 t4 yk) (fun D=> ?_) N
     ·by_cases e:i=j
      ·subst e;simp[d.size,V]
      ·rw[getD_set_ne true e];rcases cc.1 (cN.1 hx)with k|k
       ·exact absurd k.symm e
       ·exact d.VZ j hj (cN.2 k)
     ·by_cases e:i=j
      ·subst e;exact .inl (cN.2 sm)
      ·rw[getD_set_ne true e]at hx;exact(d.arr j hj hx).imp (fun h=>cN.2 (by simp[cN.1 h])) id
     ·cases hx:lG f (i::listed)with
      |false=>rfl
      |true=>
       rcases cc.1 (cN.1 hx)with k|k
       ·exact absurd (k▸A) E
       ·have:=d.dis f A;rw[cN.2 k]at this;cases this
     ·rw[t2,hb,xY];exact xk fun j hj=>D j (by simp[hj])
    have ey:yielded ops (act T).tmps=yielded ops T:=rfl;cases hw:Region.wanted o (yielded ops T)with
    |true=>
     rw[hw]at h;simp only at h;have hv:=pU (Ok:=fun w=>jt o=true->mC b0 H lw hold w) (lw:=lw) (hold:=some hold) (b:=b) (fun hl w1 dJ=>by
      have hH:=dJ hl;refine⟨fun l x hm hx=> ?_,fun v hv a u hu=>hH.2 v hv a u hu⟩;have vA:l∈hold:=cN.1 hm;rw[xY]at hx;obtain⟨e1,e2⟩:=(Be hl).2 l vA;obtain⟨y,hy,f1,f2⟩:=e2 x hx;rw[e1,<-f1,<-f2];exact hH.1 l vA y hy) O.env (fun cs q=>qW i o cs q hi) h
     obtain⟨x,hp,eT⟩:=hv;obtain⟨Z,N,lK,e,hb⟩:=kZ O (v:=x.den b) rfl hp;refine wj.first (S':=fun w=>jt o=true->mC b0 H lw hold w) hi qW (fun ch a w hp=>absurd hp (hQ _ _ _)) ze n' arr (act T) w zf Hh rR (.inl ⟨by rw[ey];exact hw,fun w1 dJ=>eT w1 dJ⟩) (fun hl=>(Be hl).1) ?_;rw[e];exact next Z _ hb lK N
    |false=>
     rw[hw]at h;simp only at h;obtain⟨Z,N,lK,e,hb⟩:=kZ O (v:=undef) rfl h;refine wj.first (S':=fun w=>jt o=true->mC b0 H lw hold w) hi qW (fun ch a w hp=>absurd hp (hQ _ _ _)) ze n' arr (act T) w zf Hh rR (.inr ⟨by rw[ey];exact hw,rfl⟩) (fun hl=>(Be hl).1) ?_;rw[e];exact next Z _ hb lK N
   |none=>
    simp only[hf]at h;refine⟨fun U=> ?_,fun i hi=> ?_⟩
    ·have D:=Wa U;have he:gm (oF fl listed) 0 ops.toList=[]:=Cd.2 fun j hj=>by
      obtain⟨j0,o,ho,hw⟩:=(rU DC _ _).1 hj;have lL:=(ax.1 ho).1;have:j∈Region.ready .any ops arr:=mem_ready.2 ⟨?_,o,ho,fun e he hb=> ?_⟩
      ·rw[U]at this;cases this
      ·cases hx:arr.getD j true with
       |false=>rfl
       |true=>
        have:=lM.2 ((d.arr j lL hx).symm);rw[j0]at this;cases this
      ·have h1:=DC j o ho e he hb;have F:arr.getD e.on true=true:=by
        rcases lM.1 (hw e he hb)with k|k
        ·exact D _ k
        ·exact d.VZ _ h1 k
       have h3:e.on<arr.size:=by rw[d.size];exact h1
       simp[h3]at F⊢;exact F
     rw[he]at h;exact Py D h
    ·by_cases E:i∈fl
     ·exact Pz n' rfl i hi E
     ·obtain⟨yh,SH⟩:=XK i hi E;have h:=DD h (fun e=>by rw[e]at yh;cases yh) i yh;obtain⟨h00,o,ho,ajS⟩:=mem_ready.1 hi;have zg:ops.toList[i]? =some o:=by simpa using ho
      have V:i<ops.size:=(ax.1 ho).1;simp only[zg]at h;have tp:=fun f (A:f∈waited o true fl)=>(gR.1 A).1
      have SH:=SH o ho;obtain⟨b1,st1,h,inv1,e1,e2,e3,e4⟩:=vB (waited o true fl) b st inv (xn B.nodup) (fun f A=>B.op f (tp f A)) (fun f A=>B.at_ f (tp f A) (SH f A)) (fun f A g hg C=>B.ne f (tp f A) g (tp g hg) C (SH f A) (SH g hg)) h;have hnl:∀l∈hold,∀f∈waited o true fl,l≠eI ops f:=fun l hl f A e=>by
       obtain⟨Y,t2,c2,F⟩:=B.op f (tp f A);exact fB l hl f Y F.ho (by unfold sX;rw[F.op]) (by rw[F.dst,e])
      have agv:(∀j∈listed,quietAt c G ops j=true)->mC b0 H lw hold w/\∀l∈hold,b1 l=b0 l/\∀M,bz st1.boxes l=some M->∃x,bz H.boxes l=some x/\x.cells=M.cells/\x.ty=M.ty:=fun D=>by
       obtain⟨I,hB⟩:=xk D;refine⟨I,fun l hl=> ?_⟩;obtain⟨g1,g2⟩:=hB l hl;refine⟨(e1 l (hnl l hl)).trans g1,fun M Ar=> ?_⟩;rcases e2 l M Ar with⟨f,A,k1,_⟩|⟨k1,_⟩
       ·exact absurd k1 (hnl l hl f A)
       ·exact g2 M k1
      have SG:quietAt c G ops i=jm (fQ c.mode G i) o:=by unfold quietAt;rw[ho]
      have PA:∀(L Jk:St)(S:Nat->Nat)(w':World),(jm (fQ c.mode G i) o=true->Kept o b1 st1 w S L w')->Jk.boxes=L.boxes->Still c G ops b0 H lw hold (i::oF (waited o true fl) listed) S Jk w':=fun L Jk S w' tM xY D=>by
       obtain⟨k1,k2,k3⟩:=tM (by rw[<-SG];exact D i sm);obtain⟨I,hB⟩:=agv fun j hj=>D j (cc.2 (.inr (cN.1 (lM.2 (.inr (cN.2 hj))))))
       refine⟨I.au k2,fun l hl=> ?_⟩;obtain⟨q1,q2⟩:=k3 l (fun hn=>fB l hl i o ho hn);obtain⟨g1,g2⟩:=hB l hl;refine⟨q1.trans g1,fun M Ar=> ?_⟩;rw[xY]at Ar;obtain⟨y,hy,f1,f2⟩:=q2 M Ar;obtain⟨z,hz,h1,F⟩:=g2 y hy;exact⟨z,hz,h1.trans f1,F.trans f2⟩
      have abT:∀j,j<ops.size->lG j (i::oF (waited o true fl) listed)=true->(arr.setIfInBounds i true).getD j true=true:=fun j hj hx=>by
       by_cases e:i=j
       ·subst e;simp[d.size,V]
       ·rw[getD_set_ne true e];rcases cc.1 (cN.1 hx)with k|k
        ·exact absurd k.symm e
        ·rcases lM.1 (cN.2 k)with k|k
         ·exact SH j k
         ·exact d.VZ j hj k
      have MO:∀j,j<ops.size->(arr.setIfInBounds i true).getD j true=true->lG j (i::oF (waited o true fl) listed)=true∨j∈waited o false fl:=fun j hj hx=>by
       by_cases e:i=j
       ·subst e;exact .inl (cN.2 sm)
       ·rw[getD_set_ne true e]at hx;rcases d.arr j hj hx with k|k
        ·exact .inl (cN.2 (cc.2 (.inr (cN.1 (lM.2 (.inr k))))))
        ·cases hwj:lI o j with
         |true=>exact .inl (cN.2 (cc.2 (.inr (cN.1 (lM.2 (.inl (gR.2 ⟨k,hwj⟩)))))))
         |false=>exact .inr (gR.2 ⟨k,hwj⟩)
      have PB:=Hl (arr:=arr) (o:=o) SH;have J:∀f∈waited o false fl,f∈fl:=fun f A=>(gR.1 A).1
      have yk:∀f∈waited o false fl,(arr.setIfInBounds i true).getD f true=arr.getD f true:=fun f A=>getD_set_ne true fun e=>E (e▸J f A)
      cases U:waited o false fl with
      |nil=>
       rw[U]at h MO PB;refine tK (fun cs q=>qW i o cs q ho) inv1 h ho fun S L W w' N O tM=>⟨fun VX I=>I.au (tM (by rw[<-SG];exact VX)).2.1,?_⟩
       exact ih (n'+k) om n' k _ [] _ a S L W w' rfl (by rw[<-PB]at hn;simp only[nC]at hn⊢;omega) ⟨by simp[d.size],abT,MO,fun f A=>by cases A⟩ O
        ⟨fun f A=>(by cases A),VS,fun f A=>(by cases A),fun f A=>(by cases A),fun f A=>(by cases A),fun h=>absurd rfl h⟩ (PA L L S w' tM rfl) N
      |cons g r=>
       rw[U]at h;simp only at h;cases XN:jm (fQ c.mode G i) o&& !sX o with
       |false=>rw[XN]at h;exact h.elim
       |true=>
        rw[XN]at h;simp only[cy,Ij]at XN;simp only at h;rw[<-U]at h;refine EV (fun cs q=>qW i o cs q ho) inv1 h ho fun S L W w' N O tM hT=>⟨fun VX I=>I.au (tM XN.1).2.1,?_⟩
        obtain⟨k1,k2,k3⟩:=tM XN.1;obtain⟨t1,t2,t3,t4⟩:=yj (ops:=ops) O (waited o false fl);have XM:∀f∈waited o false fl,o.dst≠some (eI ops f):=fun f A=>by
         obtain⟨Y,t2,c2,F⟩:=B.op f (J f A);exact F.other i o ho fun e=>E (e▸J f A)
        refine ih (n'+k) om n' k _ (waited o false fl) _ a S _ W w' rfl (by rw[Bh yk];omega) ⟨by simp[d.size],abT,MO,fun f A=> ?_⟩ t1
         ⟨fun f A=>B.op f (J f A),xn B.nodup,t3,fun f A hx=> ?_,fun f A g' EU C hx hy=>B.ne f (J f A) g' (J g' EU) C (by rw[<-yk f A];exact hx) (by rw[<-yk g' EU];exact hy),t4⟩ (PA L _ S w' tM t2) N
        ·cases hx:lG f (i::oF (waited o true fl) listed)with
         |false=>rfl
         |true=>
          rcases cc.1 (cN.1 hx)with k|k
          ·exact absurd (k▸J f A) E
          ·rcases lM.1 (cN.2 k)with k|k
           ·have h1:=(gR.1 k).2;rw[(gR.1 A).2]at h1;cases h1
           ·have:=d.dis f (J f A);rw[k]at this;cases this
        ·rw[yk f A]at hx;have DE:=B.at_ f (J f A) hx;obtain⟨Y,tt2,c2,F⟩:=B.op f (J f A);have Px:a f<w.heap.size:=(ax.1 (DE.heap Y tt2 c2 F)).1;refine⟨by rw[hT _ (XM f A)];exact DE.tmp,DE.lo,fun o3 t3 c3 h3=>by rw[k2 _ Px];exact DE.heap o3 t3 c3 h3,fun m x hm=> ?_⟩;rw[t2]at hm;obtain⟨q1,q2⟩:=k3 m (fun hn=>by rw[XN.2]at hn;cases hn);obtain⟨y,hy,_⟩:=q2 x hm;rw[q1];rcases e2 m y hy with⟨f',XO,k4,k5⟩|⟨k4,k5⟩
         ·rw[k5];refine B.ne f' (tp f' XO) f (J f A) (fun e=> ?_) (SH f' XO) hx;have h1:=(gR.1 XO).2;rw[e,(gR.1 A).2]at h1;cases h1
         ·rw[k5];exact DE.ne m y k4
end
section
variable {c:Cx}

theorem tO{ops:List Oper}(h:mA ops=true):∀o∈ops,∀cs q,o.op≠ .select cs q:=by
 induction ops with
 |nil=>intro o ho;cases ho
 |cons x r ih=>
  intro o ho cs q e;simp only[mA]at h;rcases cc.1 ho with rfl|ho
  ·rw[e]at h;simp at h
  ·split at h
   ·cases h
   ·exact ih h o ho cs q e

theorem EW{n:Nat}{ops:List Oper}(h:xg n ops=true):∀o∈ops,∀e∈o.after,Region.binds .any e=true->e.on<n:=by
 induction ops with
 |nil=>intro o ho;cases ho
 |cons x r ih=>
  intro o ho e he hb;simp only[xg,cy,gr]at h;rcases cc.1 ho with rfl|ho
  ·have:=h.1 e (by simpa using he);simpa[hb,Uy]using this
  ·exact ih h.2 o ho e he hb

def PC(c:Cx)(K:St->Prop):Exit->Act->World->Prop
 | .normal,a,w=>∃b st T,a=act T/\K st/\Inv c b st T w
 |_,_,_=>False

theorem EX{n:Nat}{ops:Array Oper}{draw:Bool}{K:St->Prop}{b:Nat->Nat}{st:St}{T:Array Value}{wa:World}(hm:c.P.follows .mixedOrders=true)(inv:Inv c b st T wa)
  (h:region c n ops draw st K):(Code.region n ops draw).wp c.P (PC c K) (act T) wa:=by
 unfold region at h;have E:∀b st A w',K st->Inv c b st A w'->PC c K .normal (act A) w':=fun b st A w' h1 B=>⟨b,st,A,rfl,h1,B⟩
 cases draw with
 |false=>
  simp only at h;cases m:mA ops.toList with
  |false=>rw[m]at h;exact h.elim
  |true=>
   rw[m]at h;have C:∀(j:Nat) o cs q,ops[j]? =some o->o.op≠ .select cs q:=fun j o cs q ho=>tO m o (by simpa using Cb ho) cs q
   refine wp_region ?_;have:=ER (Q:=PC c K) E C ops.toList 0 (fun k=>by simp) b st T wa inv h;rw[List.range_eq_range',<-ob];exact this
 |true=>
  simp only at h;cases m:mA ops.toList&&xg ops.toList.length ops.toList with
  |false=>rw[m]at h;exact h.elim
  |true=>
   rw[m]at h;simp only[cy]at m;have C:∀(j:Nat) o cs q,ops[j]? =some o->o.op≠ .select cs q:=fun j o cs q ho=>tO m.1 o (by simpa using Cb ho) cs q
   have F:∀(j:Nat) o,ops[j]? =some o->∀e∈o.after,Region.binds .any e=true->e.on<ops.size:=fun j o ho e he hb=>by
    have:=EW m.2 o (by simpa using Cb ho) e he hb;simpa using this
   have hex:∃g,Inv c b g T wa/\(match Nat.beq (fQ c.mode n 9998) 8 with
     |true=>ju c n ops (match g.d with|none=>some g.w|some _=>none) (wi g ops) ops.toList.length [] [] g.vn K
     |false=>pS c n ops (match g.d with|none=>some g.w|some _=>none) (wi g ops) ops.toList.length [] g.vn K):=by
    simp only at h;cases hb:Nat.beq (fQ c.mode n 9999) 3 with
    |true=>
     rw[hb]at h;simp only[GZ]at h;obtain⟨g,h,i,_⟩:=cT inv h;exact⟨g,i,h⟩
    |false=>
     rw[hb]at h;exact⟨st,inv,h⟩
   obtain⟨g,i,h⟩:=hex;refine wp_region_any hm ?_;have r:Inv c b g.vn T {wa with drawn:=wa.drawn+1}:=by
    refine⟨i.size,i.env,⟨i.box.at_,i.box.ne⟩,i.lo,?_,i.new,i.base.drew⟩;have:=i.xj;exact⟨this.below.drew,this.other⟩
   have G:∀l∈wi g ops,∀(j:Nat) o,ops[j]? =some o->sX o=true->o.dst≠some l:=fun l hl j o ho hn D=>by
    have h1:=CT (ops:=ops.toList) (by simpa using Cb ho) hn D;unfold wi at hl;have B:=(B5.1 hl).2;rw[cN.2 h1]at B;cases B
   have y:Rel ops [] (Array.replicate ops.size false):=⟨sm,fun j hj=>by simp[hj,lG]⟩;have H:Still c n ops b g (match g.d with|none=>some g.w|some _=>none) (wi g ops) [] b g.vn {wa with drawn:=wa.drawn+1}:=fun _=>by
    refine⟨⟨fun l hl x hx=>(i.box.at_ l x hx).2,fun v z a u hu=> ?_⟩,fun l hl=>⟨rfl,fun x hx=>⟨x,hx,rfl,rfl⟩⟩⟩;have hx:=i.ext;cases D:g.d with
    |none=>rw[D]at z hx;simp only at z hx;cases z;rw[hx];exact hu
    |some ts=>rw[D]at z;cases z
   cases I:Nat.beq (fQ c.mode n 9998) 8 with
   |false=>
    rw[I]at h;have:=CU (Q:=PC c K) E (fun _ _ _ h=>h) C F G ops.toList.length [] (Array.replicate ops.size false) b g.vn T {wa with drawn:=wa.drawn+1} y r H h;rw[ob]at this;exact this.wpAny
   |true=>
    rw[I]at h;have:=Bk (Q:=PC c K) E (fun _ _ _ h=>h) C F G _ ops.toList.length ops.toList.length [] [] (Array.replicate ops.size false) b b g.vn T {wa with drawn:=wa.drawn+1} rfl rfl
     ⟨sm,fun j hj hx=>(by cases hx),fun j hj hx=>(by simp[hj]at hx),fun f hf=>(by cases hf)⟩ r ⟨fun f hf=>(by cases hf),VS,fun f hf=>(by cases hf),fun f hf=>(by cases hf),fun f hf=>(by cases hf),fun h=>absurd rfl h⟩ H h
    rw[ob]at this;exact this.wpAny

def base(f:FuncId):Frame:={(default:Frame)with fn:=f,kind:= .normal}

theorem Pt.step{P:Program}{f:FuncId}{todo a:List Item}{T:Array Value}{w:World}{R:Ending->World->Prop}
  (hs:∀cs,step P (lone ((base f).at ⟨T,[]⟩ todo) cs w)= .next (lone ((base f).at ⟨T,[]⟩ a) cs w)) (h:Pt P f a T w R):Pt P f todo T w R:=fun cs=>by
 obtain⟨e,w',fr,h1,b,d,g⟩:=h cs;exact⟨e,w',fr,h1,.of_steps (.one (hs cs)) b,d,g⟩

theorem Pt.of_wp{P:Program}{f:FuncId}{i:Code}{k:List Item}{T:Array Value}{w:World}{R:Ending->World->Prop}{Q:Exit->Act->World->Prop}
  (h:i.wp P Q (act T) w) (j:∀e a w',Q e a w'->e= .normal/\∃b,a=act b/\Pt P f k b w' R):Pt P f (.code i::k) T w R:=fun cs=>by
 obtain⟨e,a,w',l,m⟩:=h (base f) k cs;obtain⟨rfl,b,rfl,d⟩:=j e a w' l;obtain⟨e,g,fr,h1,n,o,q⟩:=d cs;exact⟨e,g,fr,h1,.of_steps m n,o,q⟩

def lO(T:Array Value):ResultVar->Sem Value
 | .tmp t=>pure (T.getD t undef)
 | .cell a t=>do loadVar t (<-asAddr (T.getD a undef))

theorem EY{b:Nat->Nat}{st:St}{T:Array Value}{wa:World}(inv:Inv c b st T wa):∀{l:List ResultVar} {vs:List Value},results c st l=some vs->
  l.length=vs.length/\∀(i:Nat) r v,l[i]? =some r->vs[i]? =some v->(lO T r).run c.P wa= .ok v wa:=by
 intro l;induction l with
 |nil=>intro vs h;simp only[results]at h;cases h;exact⟨rfl,fun i r v h=>by simp at h⟩
 |cons x r ih=>
  intro vs h;have fin:∀v ws,results c st r=some ws->vs=v::ws->(lO T x).run c.P wa= .ok v wa->(x::r).length=vs.length/\∀(i:Nat) y u,(x::r)[i]? =some y->vs[i]? =some u->(lO T y).run c.P wa= .ok u wa:=by
   intro v ws d e hx;obtain⟨h1,g⟩:=ih d;subst e;refine⟨by simp[h1],fun i y u hy hu=> ?_⟩;cases i with
   |zero=>simp at hy hu;subst hy;subst hu;exact hx
   |succ i=>exact g i y u (by simpa using hy) (by simpa using hu)
  cases x with
  |tmp t=>
   simp only[results]at h;cases hx:(get st.env t).bind SV.val with
   |none=>simp[hx]at h
   |some v=>
    cases d:results c st r with
    |none=>simp[hx,d]at h
    |some ws=>
     simp only[hx,d]at h;cases h;obtain⟨sv,h1,g⟩:=u0.1 hx;have:=inv.env t sv h1;exact fin _ _ d rfl (by simp[lO,this,pT g b])
  |cell a t=>
   simp only[results]at h;cases hx:get st.env a with
   |none=>simp[hx]at h
   |some sv=>
    cases d:results c st r with
    |none=>cases sv<;>simp[hx,d]at h
    |some ws=>
     rw[hx,d]at h;cases sv<;>try (simp at h;done)
     rename_i lb off;simp only at h;cases hb:uG c.P st.boxes t lb off with
     |none=>simp[hb]at h
     |some v=>
      simp only[hb]at h;cases h;have h1:=inv.env a _ hx;have g:=vo (b:=b) hb (fun x hx=>(inv.box.at_ lb x hx).2);exact fin _ _ d rfl (by simp[lO,Sem.run_bind,h1,SV.den,asAddr,g])

theorem PE{P:Program}{α β:Type}(f:α->Sem β)(w:World):∀(l:List α)(vs:List β),l.length=vs.length->(∀(i:Nat) r v,l[i]? =some r->vs[i]? =some v->(f r).run P w= .ok v w)->
  (l.mapM f).run P w= .ok vs w:=by
 intro l;induction l with
 |nil=>intro vs hl _;cases vs with
  |nil=>rfl
  |cons v r=>simp at hl
 |cons x r ih=>
  intro vs hl h;cases vs with
  |nil=>simp at hl
  |cons v ws=>
   have a:=h 0 x v sm sm;have h1:=ih ws (by simpa using hl) (fun i b d e g=>h (i+1) b d (by simpa using e) (by simpa using g));simp[List.mapM_cons,Sem.run_bind,a,h1]

theorem EZ{b:Nat->Nat}{st:St}{T:Array Value}{wa:World}(inv:Inv c b st T wa)(hw:st.w=wa):∀{l:List ResultVar} {K:List Value->Prop},wh c st l K->
  ∃vs,K vs/\l.length=vs.length/\∀(i:Nat) r v,l[i]? =some r->vs[i]? =some v->(lO T r).run c.P wa= .ok v wa:=by
 intro l;induction l with
 |nil=>intro K h;exact⟨[],h,rfl,fun i r v h=>by simp at h⟩
 |cons x r ih=>
  intro K h;have fin:∀v,(wh c st r fun vs=>K (v::vs))->(lO T x).run c.P wa= .ok v wa->∃vs,K vs/\(x::r).length=vs.length/\∀(i:Nat) y u,(x::r)[i]? =some y->vs[i]? =some u->(lO T y).run c.P wa= .ok u wa:=by
   intro v j hx;obtain⟨vs,d,h1,e⟩:=ih j;refine⟨v::vs,d,by simp[h1],fun i y u hy hu=> ?_⟩;cases i with
   |zero=>simp at hy hu;subst hy;subst hu;exact hx
   |succ i=>exact e i y u (by simpa using hy) (by simpa using hu)
  cases x with
  |tmp t=>
   simp only[wh]at h;cases hx:(get st.env t).bind SV.val with
   |none=>rw[hx]at h;exact h.elim
   |some v=>
    rw[hx]at h;obtain⟨sv,h1,e⟩:=u0.1 hx;exact fin v h (by simp[lO,inv.env t sv h1,pT e b])
  |cell t ty=>
   simp only[wh]at h;split at h<;>try exact h.elim
   rename_i a ha;obtain⟨u,d,g⟩:=vq h;rw[hw]at g;exact fin u d (by simp[lO,Sem.run_bind,inv.env t _ ha,SV.den,asAddr,g wa fun _ _ h=>h])
theorem Hn{b:Nat->Nat}{st:St}{T:Array Value}{wa:World}{fn:Func}(hf:c.P.funcs[c.f]? =some fn)(k:c.res=fn.results.toList)(inv:Inv c b st T wa)(h:leave c st):
  ∃v,(Go.results fn T).run c.P wa= .ok v wa/\c.R v wa:=by
 have fin:∀vs:List Value,c.res.length=vs.length->(∀(i:Nat) r v,c.res[i]? =some r->vs[i]? =some v->(lO T r).run c.P wa= .ok v wa)->(Go.results fn T).run c.P wa= .ok (EF vs) wa:=fun vs a h1=>by
  rw[k]at a h1;have l:=PE (P:=c.P) (lO T) wa _ _ a h1;have m:(fn.results.mapM (lO T)).run c.P wa= .ok vs.toArray wa:=by
   rw[Array.mapM_eq_mapM_toList];simp[Sem.run_map,l]
  have n:Go.results fn T=(do let vs<-fn.results.mapM (lO T);pure (if h:vs.size=1 then vs[0]else .tuple vs)):=by
   unfold Go.results
   congr 2
  rw[n];simp only[Sem.run_bind,m,Result.andThen_ok,Sem.run_pure]
  congr 1
  cases vs with
  |nil=>rfl
  |cons v r=>cases r<;>simp[EF]
 unfold leave at h;cases e:results c st c.res with
 |none=>
  rw[e]at h;simp only at h;obtain⟨o,d,g,hw,_⟩:=cT inv h;obtain⟨vs,j,a,h1⟩:=EZ g hw d;rw[hw]at j;exact⟨_,fin vs a h1,j⟩
 |some vs=>
  rw[e]at h;simp only at h;obtain⟨a,h1⟩:=EY inv e;obtain⟨o,d,g,hw,_⟩:=cT inv h;rw[hw]at d;exact⟨_,fin vs a h1,d⟩

theorem Pt.XP{P:Program}{f:FuncId}{todo a:List Item}{T:Array Value}{w:World}{R:Ending->World->Prop}(h:Pt P f todo T w R)
  (hs:∀cs,Go.step P (lone ((base f).at ⟨T,[]⟩ todo) cs w)= .next (lone ((base f).at ⟨T,[]⟩ a) cs w)) (i:∀e w',R e w'->∃v,e= .returned v):Pt P f a T w R:=fun cs=>by
 obtain⟨e,w',fr,h1,j,k,b⟩:=h cs;obtain⟨v,rfl⟩:=i e w' h1;refine⟨_,w',fr,h1,?_,k,b⟩;obtain⟨n,hn⟩:=j;cases n with
 |zero=>
  exfalso;simp only[runN]at hn;have l:lone ((base f).at ⟨T,[]⟩ todo) cs w=lone fr cs w':=by cases hn;rfl
  have o:=bx (fun m:Machine=>(m.gs[0]?).map (fun g=>g.frame.mode)) l;simp[lone,Frame.at,b.1]at o
 |succ n=>
  refine⟨n,?_⟩;simp only[runN]at hn;have d:=hs cs;unfold base at d;rw[d]at hn;exact hn

theorem Bm{b:Nat->Nat}{env:Env}{T:Array Value}(he:pP b env T):∀{l:List Nat} {a:Env},restrict env l=some a->pP b a T:=by
 intro l;induction l with
 |nil=>intro a h;simp only[restrict]at h;cases h;intro s x hs;simp[get]at hs
 |cons s r ih=>
  intro a h;simp only[restrict]at h;cases hx:get env s with
  |none=>simp[hx]at h
  |some x=>
   cases d:restrict env r with
   |none=>simp[hx,d]at h
   |some l=>
    simp only[hx,d]at h;cases h;intro m y hy;rw[iU]at hy;split at hy
    ·rename_i e;simp only at e;subst e;cases hy;rw[he _ x hx];cases x<;>rfl
    ·exact ih d m y hy

theorem nT{a:List rJ}:∀{l:List Nat} {bs':List rJ},mz a l=some bs'->∀m x,bz bs' m=some x->x.new=false/\∃y,bz a m=some y/\y.cells=x.cells/\y.ty=x.ty:=by
 intro l;induction l with
 |nil=>intro bs' h;simp only[mz]at h;cases h;intro m x hm;simp[bz]at hm
 |cons s r ih=>
  intro bs' h;simp only[mz]at h;cases hx:bz a s with
  |none=>simp[hx]at h
  |some x=>
   cases b:mz a r with
   |none=>simp[hx,b]at h
   |some l=>
    simp only[hx,b]at h;cases h;intro m y hy;rw[cE]at hy;split at hy
    ·rename_i e;simp only at e;cases hy;rw[<-e,mB hx];exact⟨rfl,x,hx,rfl,rfl⟩
    ·exact ih b m y hy

theorem MR{b:Nat->Nat}{st:St}{T:Array Value}{wa:World}(inv:Inv c b st T wa)(todo:List Item)(live:List Nat×List Nat)(h:cutAt c todo st live):Pt c.P c.f todo T wa (Out c.B c.w0 c.R):=by
 unfold cutAt at h;cases h1:restrict st.env live.1 with
 |none=>rw[h1]at h;exact h.elim
 |some env=>
  cases a:mz st.boxes live.2 with
  |none=>rw[h1,a]at h;exact h.elim
  |some boxes=>
   rw[h1,a]at h;simp only at h;obtain⟨D,h,i,hw,_⟩:=cT inv h;rw[hw]at h;have g:=i.lo;rw[hw]at g;have hB:sW b c.B boxes wa:=by
    refine⟨fun l x hx=> ?_,fun l m x y hx hy d=> ?_⟩
    ·obtain⟨_,y,hy,j,k⟩:=nT a l x hx;rw[<-j,<-k];exact inv.box.at_ l y hy
    ·obtain⟨_,n,o,_⟩:=nT a l x hx;obtain⟨_,q,r,_⟩:=nT a m y hy;exact inv.box.ne l m n q o r d
   have:=h b T inv.size (Bm inv.env h1) hB g;intro cs;obtain⟨e,w',fr,⟨v,rfl,hb,w⟩,z,A,C⟩:=this cs;exact⟨_,w',fr,⟨v,rfl,inv.base.trans hb,w⟩,z,A,C⟩

theorem ym{fn:Func}(hm:c.P.follows .mixedOrders=true)(hf:c.P.funcs[c.f]? =some fn)(g:c.res=fn.results.toList):
  ∀(n:Nat)(first:Bool)(todo:List Item)(b:Nat->Nat)(st:St)(T:Array Value)(wa:World),Inv c b st T wa->run c n first todo st->Pt c.P c.f todo T wa (Out c.B c.w0 c.R):=by
 intro n;induction n with
 |zero=>intro first todo b st T wa _ h;exact h.elim
 |succ n ih=>
  intro first todo b st T wa inv h
  have done:∀(todo:List Item),leave c st->(∀cs,Steps c.P (lone ((base c.f).at ⟨T,[]⟩ todo) cs wa) (lone {(base c.f).at ⟨T,[]⟩ todo with mode:= .returning} cs wa))->Pt c.P c.f todo T wa (Out c.B c.w0 c.R):=fun todo hl hs cs=>by
   obtain⟨v,i,j⟩:=Hn hf g inv hl;exact⟨.returned v,wa,_,⟨v,rfl,inv.base,j⟩,hs cs,rfl,rfl,rfl,rfl,fn,hf,i⟩
  have cut:∀(todo:List Item) live,cutAt c todo st live->Pt c.P c.f todo T wa (Out c.B c.w0 c.R):=MR inv
  cases todo with
  |nil=>exact done [] h fun cs=> .one step_end
  |cons it k=>
   cases it with
   |code l=>
    cases l<;>simp only[run]at h<;>try exact h.elim
    case skip=>exact .step (fun cs=>step_skip) (ih _ _ _ _ _ _ inv h)
    case ret=>exact done _ h fun cs=> .one step_ret
    case seq x y=>exact .step (fun cs=>step_seq) (ih _ _ _ _ _ _ inv h)
    case block id d=>exact .step (fun cs=>step_block) (ih _ _ _ _ _ _ inv h)
    case cond x y z=>
     obtain⟨v,m,hB⟩:=kG h;obtain⟨t,o,h⟩:=rM (b:=b) hB;have e:=cG inv.env m;rw[o]at e;cases t
     ·exact .step (fun cs=>step_cond (t:=false) e) (ih _ _ _ _ _ _ inv h)
     ·exact .step (fun cs=>step_cond (t:=true) e) (ih _ _ _ _ _ _ inv h)
    case exit id=>
     split at h
     ·rename_i C q;exact .step (fun cs=>step_exit q) (ih _ _ _ _ _ _ inv h)
     ·exact h.elim
    case loop d=>
     split at h
     ·exact cut _ _ h
     ·exact .step (fun cs=>step_loop) (ih _ _ _ _ _ _ inv h)
    case region id ops draw=>
     split at h
     ·exact cut _ _ h
     ·refine .of_wp (EX hm inv h) fun e a w' hp=> ?_
      cases e<;>try exact hp.elim
      obtain⟨D,E,r,rfl,w,A⟩:=hp;exact⟨rfl,r,rfl,ih _ _ _ _ _ _ A w⟩
   |inBlock id=>simp only[run]at h;exact .step (fun cs=>step_inBlock) (ih _ _ _ _ _ _ inv h)
   |inLoop d=>
    simp only[run]at h;split at h
    ·have h1:=cut _ _ h;refine .step (fun cs=>step_inLoop) (Pt.XP h1 (fun cs=>step_loop) fun e w' he=> ?_);obtain⟨v,rfl,_⟩:=he;exact⟨v,rfl⟩
    ·exact .step (fun cs=>step_inLoop) (ih _ _ _ _ _ _ inv h)
   |_=>exact h.elim

noncomputable def tQ(fn:Func):Code:=fn.body.getD .skip

theorem Bn:∀(vs:List Value)(i s:Nat)(x:SV),get (tG i vs) s=some x->∃v,x= .v v/\i<=s/\vs[s - i]? =some v:=by
 intro vs;induction vs with
 |nil=>intro i s x h;simp[tG,get]at h
 |cons v r ih=>
  intro i s x h;simp only[tG,iU]at h;split at h
  ·rename_i e;cases h;subst e;exact⟨v,rfl,eU _,sm⟩
  ·rename_i e;obtain⟨u,rfl,h1,a⟩:=ih (i+1) s x h;have:s - i=(s - (i+1))+1:=om;exact⟨u,rfl,om,by rw[this];simpa using a⟩

theorem Fa(c:Cx)(n:Nat){fn:Func}{vs:List Value}{args:Array Value}{w:World}(hm:c.P.follows .mixedOrders=true)(hf:c.P.funcs[c.f]? =some fn)(hb:fn.body.isSome=true)(A:c.N=fn.ntmps)
  (i:c.res=fn.results.toList) (hw:c.w0=w) (hB:c.B<=w.heap.size) (ha:args=vs.toArray) (hle:Nat.ble vs.length c.N=true)
  (h:run c n false [.code (tQ fn)] ⟨tG 0 vs,[],w,none⟩):cI c.P c.f args c.B w c.R:=by
 have hle:=KZ hle;subst ha;have b:=ym hm hf i n false _ (fun _=>0) _ (vs.toArray++Array.replicate (fn.ntmps - vs.length) undef) w (by
  refine⟨?_,fun s x hs=> ?_,⟨fun l x hx=> ?_,fun l m x y hx=> ?_⟩,?_,rfl,fun l x hx=> ?_,?_⟩
  ·simp;omega
  ·obtain⟨v,rfl,_,g⟩:=Bn vs 0 s x hs;have d:s<vs.length:=by
    rcases Ip s vs.length with h|h
    ·exact h
    ·simp[hP h]at g
   rw[LK (by simpa using d)];simpa[SV.den]using g
  ·simp[bz]at hx
  ·simp[bz]at hx
  ·exact hB
  ·simp[bz]at hx
  ·rw[hw];exact Below.refl _ _) h
 intro cs;obtain⟨e,w',fr,⟨v,rfl,a,j⟩,k,o,q⟩:=b cs;refine⟨_,w',fr,⟨v,rfl,hw▸a,j⟩,?_,o,q⟩;obtain⟨C,r⟩:=IG.1 hb;have z:Frame.enter c.P c.f vs.toArray .normal=(base c.f).at ⟨vs.toArray++Array.replicate (fn.ntmps - vs.length) undef,[]⟩ [.code (tQ fn)]:=by
  simp[Frame.enter,Frame.at,hf,r,base,tQ]
 rw[z];exact k

theorem Hp(c:Cx)(n:Nat){fn:Func}{vs:List Value}{args:Array Value}{w:World}(hm:c.P.follows .mixedOrders=true)(hf:c.P.funcs[c.f]? =some fn)(hb:fn.body.isSome=true)(A:c.N=fn.ntmps)
  (i:c.res=fn.results.toList) (hw:c.w0=w) (hB:c.B=w.heap.size) (ha:args=vs.toArray) (hle:Nat.ble vs.length c.N=true)
  (h:run c n false [.code (tQ fn)] ⟨tG 0 vs,[],w,none⟩):Pure c.P c.f args w c.R:=by
 have hle:=KZ hle;subst ha;have b:=ym hm hf i n false _ (fun _=>0) _ (vs.toArray++Array.replicate (fn.ntmps - vs.length) undef) w (by
  refine⟨?_,fun s x hs=> ?_,⟨fun l x hx=> ?_,fun l m x y hx=> ?_⟩,?_,rfl,fun l x hx=> ?_,?_⟩
  ·simp;omega
  ·obtain⟨v,rfl,_,g⟩:=Bn vs 0 s x hs;have d:s<vs.length:=by
    rcases Ip s vs.length with h|h
    ·exact h
    ·simp[hP h]at g
   rw[LK (by simpa using d)];simpa[SV.den]using g
  ·simp[bz]at hx
  ·simp[bz]at hx
  ·rw[hB];exact eU _
  ·simp[bz]at hx
  ·rw[hw];exact Below.refl _ _) h
 intro cs;obtain⟨e,w',fr,⟨v,rfl,a,j⟩,k,o,q⟩:=b cs;refine⟨_,w',fr,⟨v,rfl,by rw[<-hB,<-hw];exact hw▸a,j⟩,?_,o,q⟩;obtain⟨C,r⟩:=IG.1 hb;have z:Frame.enter c.P c.f vs.toArray .normal=(base c.f).at ⟨vs.toArray++Array.replicate (fn.ntmps - vs.length) undef,[]⟩ [.code (tQ fn)]:=by
  simp[Frame.enter,Frame.at,hf,r,base,tQ]
 rw[z];exact k

theorem Wb(c:Cx){w:World}(n:Nat)(first:Bool)(todo:List Item)(env:Env)(boxes:List rJ)(hm:c.P.follows .mixedOrders=true){fn:Func}(hf:c.P.funcs[c.f]? =some fn)(a:c.res=fn.results.toList)(hw:c.w0=w)
  (d:∀l x,bz boxes l=some x->x.new=false) (h:run c n first todo ⟨env,boxes,w,none⟩):At c.P c.f c.N todo env boxes c.B w c.R:=by
 intro b T e he hB g;have:=ym hm hf a n first todo b _ T w ⟨e,he,hB,g,rfl,fun l x hx hn=>(by rw[d l x hx]at hn;cases hn),(by rw[hw];exact Below.refl _ _)⟩ h
 rw[hw]at this;exact this

def wq:List rJ->Bool
 |[]=>true
 |x::r=> !x.new&&wq r
theorem zi{a:List rJ}(h:wq a=true):∀l x,bz a l=some x->x.new=false:=by
 induction a with
 |nil=>intro l x hx;simp[bz]at hx
 |cons y r ih=>
  intro l x hx;simp only[wq,cy]at h;rw[cE]at hx;split at hx
  ·cases hx;simpa using h.1
  ·exact ih h.2 l x hx

theorem Hq(c:Cx)(n:Nat)(todo:List Item)(env:Env)(boxes:List rJ){w:World}(hm:c.P.follows .mixedOrders=true){fn:Func}(hf:c.P.funcs[c.f]? =some fn)(a:c.res=fn.results.toList)(hw:c.w0=w)
  (ho:wq boxes=true) (h:run c n true todo ⟨env,boxes,w,none⟩):At c.P c.f c.N todo env boxes c.B w c.R:=
 Wb c n true todo env boxes hm hf a hw (zi ho) h

theorem Hr(c:Cx)(n:Nat)(todo:List Item)(env:Env)(boxes:List rJ){w:World}(hm:c.P.follows .mixedOrders=true){fn:Func}(hf:c.P.funcs[c.f]? =some fn)(d:c.res=fn.results.toList)(hw:c.w0=w)
  (ho:wq boxes=true) (h:run c n true (inside todo) ⟨env,boxes,w,none⟩):At c.P c.f c.N todo env boxes c.B w c.R:=by
 have h1:=Wb c n true (inside todo) env boxes hm hf d hw (zi ho) h;intro b T e he hB g;have a:=h1 b T e he hB g;cases todo with
 |nil=>exact a
 |cons it k=>
  cases it with
  |code i=>
   cases i with
   |loop j=>exact .step (fun cs=>step_loop) a
   |_=>exact a
  |_=>exact a
end
theorem follows:Tryz.prog.follows .mixedOrders=true:=kF
noncomputable abbrev P:Program:=Tryz.prog
abbrev O:=Option Addr
abbrev Kt:=Value->World->Prop
abbrev Br(p X Y:Prop):Prop:=(p->X)/\(¬p->Y)
abbrev Bb(b:Bool)(X Y:Prop):Prop:=(b=true->X)/\(b=false->Y)
abbrev PG(ts:List Nat)(w w':World):Prop:=∀(k ty:Nat)(cs:Array Value),ty∈ts->w.heap[k]? =some (.cells cs ty (0,0))->w'.heap[k]? =w.heap[k]?
abbrev Ri(X:Int->World->Prop):Kt:=fun v w=>∃i,v= .int .i64 i/\X i w
abbrev Rb(X:Bool->World->Prop):Kt:=fun v w=>∃b,v= .bool b/\X b w
abbrev Rt(X:ByteArray->World->Prop):Kt:=fun v w=>∃s,v= .string s/\X s w
abbrev Rs(X:O->Nat->Nat->World->Prop):Kt:=fun v w=>∃A n c,v= .slice A n c/\X A n c w
abbrev XQ(X:O->Nat->Nat->Int->World->Prop):Kt:=fun v w=>∃A n c i,v= .tuple #[.slice A n c,.int .i64 i]/\X A n c i w
abbrev Rsb(X:O->Nat->Nat->Bool->World->Prop):Kt:=fun v w=>∃A n c b,v= .tuple #[.slice A n c,.bool b]/\X A n c b w
abbrev rF(X:ByteArray->Int->World->Prop):Kt:=fun v w=>∃s i,v= .tuple #[.string s,.int .i64 i]/\X s i w
abbrev Rii(X:Int->Int->World->Prop):Kt:=fun v w=>∃i j,v= .tuple #[.int .i64 i,.int .i64 j]/\X i j w
abbrev Rc(X:O->Nat->Nat->O->Nat->Nat->World->Prop):Kt:=fun v w=>∃A n c A1 n1 c1,v= .agg #[.slice A n c,.slice A1 n1 c1]/\X A n c A1 n1 c1 w
abbrev Rp(X:O->Nat->Nat->O->Nat->Nat->O->Nat->Nat->World->Prop):Kt:=fun v w=>∃A n c A1 n1 c1 A2 n2 c2,v= .agg #[.slice A n c,.slice A1 n1 c1,.slice A2 n2 c2]/\X A n c A1 n1 c1 A2 n2 c2 w
abbrev Ix(j:Int)(n:Nat)(A:O)(X:Addr->Prop):Prop:=(0<=j/\j<n)/\∃a,A=some a/\X a
abbrev I(i:Int):Value:= .int .i64 i
abbrev vS(k:Nat)(A:O)(n c:Nat):Nat×SV:=(k,.v (.slice A n c))
abbrev vI(k:Nat)(i:Int):Nat×SV:=(k,.v (.int .i64 i))
abbrev vT(k:Nat)(s:ByteArray):Nat×SV:=(k,.v (.string s))
abbrev vP(k:Nat)(a:O):Nat×SV:=(k,.v (.pointer a))
abbrev vL(k:Nat):Nat×SV:=(k,.loc k 0)
abbrev Pm:=List ((Bool×Nat)×List Nat×List Nat)×List (Nat×Nat×Nat)
noncomputable abbrev Wc(p:Pm)(f:Nat)(fn:Func)(w:World)(B:Nat)(R:Kt):Cx:=⟨Tryz.prog,f,fn.ntmps,fn.results.toList,p.1,p.2,w,B,R⟩
def Lt(f:Nat)(fn:Func)(k:Nat)(env:Env)(boxes:List rJ)(B:Nat)(w:World)(R:Kt):Prop:=At Tryz.prog f fn.ntmps (JI fn k) env boxes B w R
def Jt(f:Nat)(fn:Func)(k:Nat)(env:Env)(boxes:List rJ)(B:Nat)(w:World)(R:Kt):Prop:=At Tryz.prog f fn.ntmps (AM fn k) env boxes B w R
section
variable (p:Pm) {f:Nat} {fn:Func} (hf:Tryz.prog.funcs[f]? =some fn) {vs:List Value} {w:World} {R:Kt} {C:Prop} {k B:Nat} {env:Env} {boxes:List rJ} (h:C)
include hf h
theorem pr(hb:fn.body.isSome=true:=by rfl)(hle:Nat.ble vs.length fn.ntmps=true:=by rfl)(e:C=run (Wc p f fn w w.heap.size R) 100000 false [.code (tQ fn)] ⟨tG 0 vs,[],w,none⟩:=by kernel_rfl):Pure P f vs.toArray w R:=
 Hp (Wc p f fn w w.heap.size R) 100000 follows hf hb rfl rfl rfl rfl rfl hle (Eq.mp e h)
theorem pb(hB:B<=w.heap.size)(hb:fn.body.isSome=true:=by rfl)(hle:Nat.ble vs.length fn.ntmps=true:=by rfl)(e:C=run (Wc p f fn w B R) 100000 false [.code (tQ fn)] ⟨tG 0 vs,[],w,none⟩:=by kernel_rfl):cI P f vs.toArray B w R:=
 Fa (Wc p f fn w B R) 100000 follows hf hb rfl rfl rfl hB rfl hle (Eq.mp e h)
theorem lr(ho:wq boxes=true:=by rfl)(e:C=run (Wc p f fn w B R) 100000 true (inside (JI fn k)) ⟨env,boxes,w,none⟩:=by kernel_rfl):Lt f fn k env boxes B w R:=
 Hr (Wc p f fn w B R) 100000 (JI fn k) env boxes follows hf rfl rfl ho (Eq.mp e h)
theorem jr(ho:wq boxes=true:=by rfl)(e:C=run (Wc p f fn w B R) 100000 true (AM fn k) ⟨env,boxes,w,none⟩:=by kernel_rfl):Jt f fn k env boxes B w R:=
 Hq (Wc p f fn w B R) 100000 (AM fn k) env boxes follows hf rfl rfl ho (Eq.mp e h)
end
end Go.Proofs.YtbcojgcjjpggnaaGreatDoor.Vc

namespace Go.Proofs.YtbcojgcjjpggnaaGreatDoor.B
open Go Go.RowKit Go.Proofs Go.Proofs.YtbcojgcjjpggnaaGreatDoor.Vc

theorem pm{P:Program}{f:FuncId}{args:Array Value}{w:World}{R R':Value->World->Prop}(h:Pure P f args w R)
  (a:∀v w',Below w.heap.size w w'->R v w'->R' v w'):Pure P f args w R':=
 Calls.mono h fun e w' ⟨v,he,hb,b⟩=>⟨v,he,hb,a v w' hb b⟩

theorem cI.mono{P:Program}{f:FuncId}{args:Array Value}{B:Nat}{w:World}{R R':Value->World->Prop}(h:cI P f args B w R)
  (a:∀v w',Below B w w'->R v w'->R' v w'):cI P f args B w R':=
 Calls.mono h fun e w' ⟨v,he,hb,b⟩=>⟨v,he,hb,a v w' hb b⟩

theorem Below.step{B:Nat}{w0 w1 a:World}(h:Below B w0 w1)(hB:B<=w0.heap.size)(k:Below w1.heap.size w1 a):Below B w0 a:=
 h.trans (k.mono (dp hB h.size))
theorem Below.ext{B:Nat}{ts:List Nat}{w0 w1 a:World}(h:Below B w0 w1)(k:Ext B ts w1 a):Below B w0 a:=h.trans k.below

structure Good (w:World):Prop where
 size:8<=w.heap.size

theorem Good.below{B:Nat}{w w':World}(h:Good w)(hb:Below B w w')(hB:w.heap.size<=B):Good w':=
 ⟨dp h.size hb.size⟩
end Go.Proofs.YtbcojgcjjpggnaaGreatDoor.B
