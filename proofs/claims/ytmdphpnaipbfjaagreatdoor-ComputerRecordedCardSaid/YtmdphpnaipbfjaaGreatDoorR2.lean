/- Part 2 of the proofs that: The state of a record that was written and recovered is that of its events. -/
import Derived.Test.YtmdphpnaipbfjaaGreatDoorR1
import Derived.Test.YtmdphpnaipbfjaaGreatDoorProg
set_option linter.unusedVariables false
set_option linter.unusedSimpArgs false
namespace Go.Proofs.YtmdphpnaipbfjaaGreatDoor.Vc
open Go Go.RowKit
section
variable {c:Cx} {b:Nat->Nat} {st:St} {T:Array Value} {wa:World} {o:Oper} {K:SV->St->Prop}

theorem fU{x:Operand}{v:Value}(he:qY b st.env T)(h:(ev st x).bind SV.val=some v):(act T).eval x=v:=by
 obtain⟨sv,h1,a⟩:=xt.1 h;rw[cQ he h1,rf a b]

theorem Lo(he:qY b st.env T):∀{l:List (Nat×Operand)} {vs:List (Nat×Value)},parts st l=some vs->l.map (fun p=>(p.1,(act T).eval p.2))=vs:=by
 intro l;induction l with
 |nil=>intro vs h;simp only[parts]at h;cases h;rfl
 |cons p r ih=>
  intro vs h;obtain⟨i,x⟩:=p;simp only[parts]at h;cases hx:(ev st x).bind SV.val with
  |none=>simp[hx]at h
  |some v=>
   cases a:parts st r with
   |none=>simp[hx,a]at h
   |some ws=>
    simp only[hx,a]at h;cases h;simp[ih a,fU he hx]

theorem AF(he:qY b st.env T){s:Sem Value}(h:sD st o=some s):execOp (act T).eval o=(do pure (.value (<-s))):=by
 unfold sD at h;cases j:o.op<;>simp only[j]at h<;>try (cases h;done)
 case call cl=>
  cases q:cl.callee with
  |builtin bi=>
   cases y:pJ st cl.args.toList with
   |none=>cases bi<;>simp[q,y]at h
   |some vs=>
    have e:=BW he y;have w:cl.args.map (act T).eval=vs.toArray:=by apply Rq;simp[e]
    cases bi<;>simp only[q,y]at h<;>try (cases h;done)
    ·cases h;simp[execOp,j,resolve,q,w,invoke,builtin]
    ·cases h;simp[execOp,j,resolve,q,w,invoke,builtin]
    ·cases h;simp[execOp,j,resolve,q,w,invoke,builtin]
  |_=>simp[q]at h
 case buildSlice t n ps=>
  cases hp:parts st ps.toList with
  |none=>simp[hp]at h
  |some l=>
   rw[hp]at h;cases h;have e:=Lo he hp;have w:(ps.map fun(i,x)=>(i,(act T).eval x))=l.toArray:=by apply Rq;simp[<-e]
   simp[execOp,j,w]
 case makeSlice t l k=>
  cases hl:(ev st l).bind SV.val with
  |none=>simp[hl]at h
  |some a=>
   cases g:(ev st k).bind SV.val with
   |none=>simp[hl,g]at h
   |some d=>
    simp only[hl,g]at h;cases h;simp[execOp,j,fU he hl,fU he g]
 case convert src dst x=>
  cases hx:(ev st x).bind SV.val with
  |none=>simp[hx]at h
  |some a=>simp only[hx]at h;cases h;simp[execOp,j,fU he hx]
 case index t l k=>
  cases hl:(ev st l).bind SV.val with
  |none=>simp[hl]at h
  |some a=>
   cases g:(ev st k).bind SV.val with
   |none=>simp[hl,g]at h
   |some d=>
    simp only[hl,g]at h;cases h;simp[execOp,j,fU he hl,fU he g]
 case lookup t l k ok=>
  cases hl:(ev st l).bind SV.val with
  |none=>simp[hl]at h
  |some a=>
   cases g:(ev st k).bind SV.val with
   |none=>simp[hl,g]at h
   |some d=>
    simp only[hl,g]at h;cases h;simp[execOp,j,fU he hl,fU he g]
 case slice t x lo hi mx=>
  cases lo with
  |none=>
   cases hi with
   |some k=>simp at h
   |none=>
    cases mx with
    |some m=>simp at h
    |none=>
     simp only at h;cases hx:(ev st x).bind SV.val with
     |none=>simp[hx]at h
     |some a=>
      simp only[hx]at h;cases h;simp[execOp,j,fU he hx]
  |some l=>
   cases hi with
   |none=>simp at h
   |some k=>
    cases mx with
    |none=>simp at h
    |some m=>
     simp only at h;cases hx:(ev st x).bind SV.val with
     |none=>simp[hx]at h
     |some a=>
      cases hl:(ev st l).bind SV.val with
      |none=>simp[hx,hl]at h
      |some z=>
       cases g:(ev st k).bind SV.val with
       |none=>simp[hx,hl,g]at h
       |some d=>
        cases hm:(ev st m).bind SV.val with
        |none=>simp[hx,hl,g,hm]at h
        |some e=>
         simp only[hx,hl,g,hm]at h;cases h;simp[execOp,j,fU he hx,fU he hl,fU he g,fU he hm]
 case binOp op t l k pos=>
  cases op<;>simp only at h<;>try (cases h;done)
  cases hl:(ev st l).bind SV.val with
  |none=>simp[hl]at h
  |some a=>
   cases g:(ev st k).bind SV.val with
   |none=>simp[hl,g]at h
   |some d=>
    simp only[hl,g]at h;cases h;simp[execOp,j,fU he hl,fU he g,eqGuard]
 case makeMap t r=>
  cases r with
  |none=>simp only at h;cases h;simp[execOp,j]
  |some x=>
   simp only at h;cases hx:(ev st x).bind SV.val with
   |none=>simp[hx]at h
   |some a=>simp only[hx]at h;cases h;simp[execOp,j,fU he hx]

theorem qi{a:List tt}{l:Nat}{x:tt}(h:bC a l=some x):x.ty∈pj a:=by
 induction a with
 |nil=>simp[bC]at h
 |cons y r ih=>
  rw[cN]at h;simp only[pj];split at h
  ·cases h;simp
  ·simp[ih h]

theorem zD{j a:St}{v:Value}{w1:World}(d:Inv c b a T wa)(hw:a.w=wa)
  (g:Below c.B a.w w1) (lz:a.w.heap.size<=w1.heap.size)
  (l:∀(k ty:Nat)(cs:Array Value),ty∈pj a.boxes->a.w.heap[k]? =some (.cells cs ty (0,0))->w1.heap[k]? =a.w.heap[k]?)
  (h:behind c.P o.type a K v w1):QZ c false o b j wa T K v w1:=by
 obtain⟨y,rfl,h⟩:=zB h;refine⟨b,_,_,h,rfl,?_,fun e=>by cases e⟩;refine⟨d.size,d.env,uw.Ay (st:={a with w:=w1}) ⟨fun m x hm=> ?_,d.box.ne⟩,ec d.lo lz,rfl,fun m x hm i=> ?_,d.base.trans (hw▸g)⟩
 ·have:=d.box.at_ m x hm;refine⟨this.1,?_⟩;rw[<-hw]at this;rw[l _ _ _ (qi hm) this.2];exact this.2
 ·rw[tD hm]at i;cases i

theorem xe{t:TypeId}{m k x:Operand}(g:o.op= .mapUpdate t m k x∨o.op= .insert t m k x)(inv:Inv c b st T wa)(h:BU c t m k x st K):Cu c false b st T o wa K:=by
 unfold BU at h;intro next Q hn
 split at h
 ·rename_i A B C ha j he;obtain⟨l,h,a,hw,n,D,_⟩:=dh inv h;obtain⟨w1,q,d,lz,r,y⟩:=h;unfold Oper.wp;have z:(execOp (act T).eval o).run c.P wa= .ok .skip w1:=by
   rw[<-hw];rcases g with g|g<;>simp[execOp,g,fU inv.env ha,fU inv.env j,fU inv.env he,Sem.run_bind,q]
  rw[z];refine hn _ _ ⟨b,.u,_,y,rfl,?_,fun e=>by cases e⟩;refine⟨a.size,a.env,uw.Ay (st:={l with w:=w1}) ⟨fun m x hm=> ?_,a.box.ne⟩,ec a.lo lz,rfl,fun m x hm i=> ?_,a.base.trans (hw▸d)⟩
  ·have:=a.box.at_ m x hm;refine⟨this.1,?_⟩;rw[<-hw]at this;rw[r _ _ _ (qi hm) this.2];exact this.2
  ·rw[tD hm]at i;cases i
 ·exact h.elim

theorem AG{s:Sem Value}(j:execOp (act T).eval o=(do pure (.value (<-s))))(inv:Inv c b st T wa)(h:newAt c s st K):Cu c false b st T o wa K:=by
 unfold newAt at h;intro next Q hn
 obtain⟨k,h,d,hw,l,z,_⟩:=dh inv h;obtain⟨v,w1,n,g,lz,q,a,rfl,r⟩:=h;unfold Oper.wp;have y:(execOp (act T).eval o).run c.P wa= .ok (.value (.pointer (some a))) w1:=by
  rw[j,<-hw];simp[Sem.run_bind,n]
 rw[y];refine hn _ _ ⟨b,_,_,r,rfl,?_,fun e=>by cases e⟩;refine⟨d.size,d.env,uw.Ay (st:={k with w:=w1}) ⟨fun m x hm=> ?_,d.box.ne⟩,ec d.lo lz,rfl,fun m x hm i=> ?_,d.base.trans (hw▸g)⟩
 ·have:=d.box.at_ m x hm;refine⟨this.1,?_⟩;rw[<-hw]at this;rw[q _ _ _ (qi hm) this.2];exact this.2
 ·rw[tD hm]at i;cases i

theorem Iw(inv:Inv c b st T wa)(h:QQ c o st K):Cu c false b st T o wa K:=by
 unfold QQ at h;intro next Q hn
 cases hs:sD st o with
 |some s=>
  rw[hs]at h;obtain⟨w,h,i,hw,y,z,_⟩:=dh inv h;obtain⟨v,w1,j,d,lz,l,n⟩:=h;unfold Oper.wp;have q:(execOp (act T).eval o).run c.P wa= .ok (.value v) w1:=by
   rw[AF inv.env hs,<-hw];simp[Sem.run_bind,j]
  rw[q];exact hn _ _ (zD i hw d lz l n)
 |none=>
  rw[hs]at h;cases e:o.op<;>simp only[e]at h<;>try exact h.elim
  case mapUpdate t m k x=>exact xe (.inl e) inv h next Q hn
  case insert t m k x=>exact xe (.inr e) inv h next Q hn
  case alloc t=>exact AG (by simp[execOp,e]) inv h next Q hn
  case box t x=>
   cases hx:(ev st x).bind SV.val with
   |none=>simp[hx]at h
   |some a=>rw[hx]at h;exact AG (by simp[execOp,e,fU inv.env hx]) inv h next Q hn
  rename_i cl;cases r:cl.callee with
  |value x=>
   simp only[r]at h;split at h
   ·rename_i g first cap vs hx A
    have ex:=cQ inv.env hx;have B:=BW inv.env A;obtain⟨w,h,i,hw,y,z,_⟩:=dh inv h;obtain⟨v,w1,j,d,lz,l,n⟩:=h;unfold Oper.wp;have C:(first++cl.args.map (act T).eval)++cap=(first.toList++vs++cap.toList).toArray:=by
     apply Rq;simp[<-B]
    have q:(execOp (act T).eval o).run c.P wa= .ok (.value v) w1:=by
     rw[<-hw];simp only[execOp,e,Sem.run_bind,resolve,r,ex,SV.den,Deferred.ofValue,Sem.run_pure,Result.andThen_ok,invoke,C,j]
    rw[q];exact hn _ _ (zD i hw d lz l n)
   ·exact h.elim
  |_=>simp[r]at h

theorem Lq{q:Bool}{s:Sem Value}(j:execOp (act T).eval o=(do pure (.value (<-s))))(inv:Inv c b st T wa)(h:ZT c s st K):Cu c q b st T o wa K:=by
 unfold ZT at h;intro next Q hn
 obtain⟨g,h,e,hw,k,A,l⟩:=dh inv h;obtain⟨v,w1,n,d,lz,r,a,rfl,y⟩:=h;unfold Oper.wp;have z:(execOp (act T).eval o).run c.P wa= .ok (.value (.pointer (some a))) w1:=by
  rw[j,<-hw];simp[Sem.run_bind,n]
 rw[z];have hb:Below c.B g.w w1:=d.mono e.lo;refine hn _ _ ⟨b,_,_,y,rfl,?_,fun _=> ?_⟩
 ·refine⟨e.size,e.env,uw.Ay (st:={g with w:=w1}) ⟨fun m x hm=> ?_,e.box.ne⟩,ec e.lo lz,rfl,fun m x hm i=> ?_,e.base.trans (hw▸hb)⟩
  ·have:=e.box.at_ m x hm;refine⟨this.1,?_⟩;rw[<-hw]at this;rw[r _ _ _ (qi hm) this.2];exact this.2
  ·rw[tD hm]at i;cases i
 ·rw[hw]at d;exact(l.Ay).kept _ _ _ _ d.size d.block

theorem F7{q:Bool}(inv:Inv c b st T wa)(h:Ld c o st K):Cu c q b st T o wa K:=by
 unfold Ld at h;intro next Q hn
 cases hs:sD st o with
 |none=>
  rw[hs]at h;cases g:o.op<;>simp only[g]at h<;>try exact h.elim
  rename_i t;exact Lq (by simp[execOp,g]) inv h next Q hn
 |some s=>
  rw[hs]at h;obtain⟨i,h,d,hw,A,C,k⟩:=dh inv h;obtain⟨v,w1,l,a,lz,n,e⟩:=h;unfold Oper.wp;have r:(execOp (act T).eval o).run c.P wa= .ok (.value v) w1:=by
   rw[AF inv.env hs,<-hw];simp[Sem.run_bind,l]
  rw[r];have hb:Below c.B i.w w1:=a.mono d.lo;obtain⟨y,z,e⟩:=zB e;subst z;refine hn _ _ ⟨b,_,_,e,rfl,?_,fun _=> ?_⟩
  ·refine⟨d.size,d.env,uw.Ay (st:={i with w:=w1}) ⟨fun m x hm=> ?_,d.box.ne⟩,ec d.lo lz,rfl,fun m x hm j=> ?_,d.base.trans (hw▸hb)⟩
   ·have:=d.box.at_ m x hm;refine⟨this.1,?_⟩;rw[<-hw]at this;rw[n _ _ _ (qi hm) this.2];exact this.2
   ·rw[tD hm]at j;cases j
  ·rw[hw]at a;exact(k.Ay).kept _ _ _ _ a.size a.block

theorem yw{dyn:Bool}(inv:Inv c b st T wa)(h:tx dyn c o st K):Cu c false b st T o wa K:=by
 unfold tx at h;intro next Q hn
 cases j:o.op<;>simp only[j]at h<;>try exact h.elim
 rename_i cl;cases i:cl.callee with
 |value x=>
  simp only[i]at h;split at h
  ·rename_i g first cap vs hx l
   have ex:=cQ inv.env hx;have m:=BW inv.env l;have bU:av c.P g=true/\iA c.B st fun st=>ba c.P g (first.toList++vs++cap.toList).toArray c.B st.w fun v w1=>
     (∀(k ty:Nat)(cs:Array Value),ty∈pj st.boxes->st.w.heap[k]? =some (.cells cs ty (0,0))->w1.heap[k]? =st.w.heap[k]?)/\behind c.P o.type st K v w1:=by
    unfold BR at h;cases dyn with
    |true=>exact h
    |false=>
     simp only at h;cases a:av c.P g with
     |false=>rw[a]at h;exact h.elim
     |true=>rw[a]at h;exact⟨rfl,h⟩
   obtain⟨a,h⟩:=bU
   ·obtain⟨C,h,n,hw,D,E,_⟩:=dh inv h;unfold Oper.wp;have q:(execOp (act T).eval o).run c.P wa= .ok (.enter g (first.toList++vs++cap.toList).toArray) wa:=by
     have r:(first++cl.args.map (act T).eval)++cap=(first.toList++vs++cap.toList).toArray:=by
      apply Rq;simp[<-m]
     unfold av at a;cases hf:c.P.funcs[g]? with
     |none=>simp[hf]at a
     |some fn=>
      cases hb:fn.body with
      |none=>simp[hf,hb]at a
      |some F=>
       simp only[hf,hb]at a
       have hn : fn.name ≠ "runtime.NumGoroutine" := by
        intro e;simp[e]at a
       simp only[execOp,j,Sem.run_bind,resolve,i,ex,SV.den,Deferred.ofValue,Sem.run_pure,Result.andThen_ok,invoke,r];simp[callFunc,program,Sem.run_bind,Sem.run,hf,hb,hn]
    rw[q,Oper.upon_enter];rw[hw]at h;refine Calls.mono h fun e y he=> ?_
    obtain⟨v,rfl,d,z,A⟩:=he;exact hn _ _ (zD n hw (by rw[hw];exact d) (by rw[hw];exact d.size) (by rw[hw];exact z) A)
  ·exact h.elim
 |_=>simp[i]at h

theorem oF{m:Nat}{q:Bool}(e:q=true->rb o=false)(hs:∀cs q,o.op≠ .select cs q)(inv:Inv c b st T wa)(h:wx c m o st K):Cu c q b st T o wa K:=by
 unfold wx at h;cases he:Ip o.op with
 |true=>rw[he]at h;exact F6 e inv h
 |false=>
  rw[he]at h;simp only at h;have gen:∀{raw},value c raw none none o st (fun x=>K x st)->Cu c q b st T o wa K:=fun a=>
   xd inv (Same.refl _) (Ck.Ra (lw:=none) inv (fun v a=>by cases a)) (rh (fun _ _ h=>h) inv.env hs a)
  split at h
  ·split at h
   ·obtain⟨g,h,d,hw,_,_,i⟩:=dh inv h;exact xd d i (Ck.Ra (lw:=some g.w) d (fun v a=>by cases a;exact hw)) (rh (fun _ _ h=>h) d.env hs h)
   ·exact gen h
  ·exact gen h

theorem AH{G i:Nat}(hs:∀cs q,o.op≠ .select cs q)(inv:Inv c b st T wa)(h:QS c G i o st K):Cu c (jH (gi c.mode G i) o) b st T o wa K:=by
 unfold QS at h;unfold jH;split at h
 ·rename_i e;rw[e];exact Iw inv h
 ·rename_i e;rw[e];exact yw inv h
 ·rename_i e;rw[e];exact yw inv h
 ·rename_i e;rw[e];obtain⟨H,h,g,j⟩:=xc _ _ inv h;intro next Q hn
  refine oF (q:= !rb o) (fun e=>by simpa using e) hs g h next Q fun v w' ⟨k,x,m,h1,n,r,w⟩=>hn v w' ⟨k,x,m,h1,n,r,fun e=> ?_⟩
  obtain⟨A,B,a⟩:=w e;exact⟨A,B,fun l hl=>⟨(a l hl).1,fun C D=>by
   obtain⟨y,hy,E,d⟩:=(a l hl).2 C D;obtain⟨z,hz,f1,f2⟩:=j l y hy;exact⟨z,hz,f1.trans E,f2.trans d⟩⟩⟩
 ·rename_i e;rw[e];obtain⟨H,h,g,j⟩:=Ct _ _ inv h;intro next Q hn
  refine oF (q:= !rb o) (fun e=>by simpa using e) hs g h next Q fun v w' ⟨k,x,m,h1,n,r,w⟩=>hn v w' ⟨k,x,m,h1,n,r,fun e=> ?_⟩
  obtain⟨A,B,a⟩:=w e;exact⟨A,B,fun l hl=>⟨(a l hl).1,fun C D=>by
   obtain⟨y,hy,E,d⟩:=(a l hl).2 C D;obtain⟨z,hz,f1,f2⟩:=j l y hy;exact⟨z,hz,f1.trans E,f2.trans d⟩⟩⟩
 ·rename_i e;rw[e];obtain⟨H,h,g,j⟩:=xc _ _ inv h;intro next Q hn
  refine oF (q:= !rb o) (fun e=>by simpa using e) hs g h next Q fun v w' ⟨k,x,m,h1,n,r,w⟩=>hn v w' ⟨k,x,m,h1,n,r,fun e=> ?_⟩
  obtain⟨A,B,a⟩:=w e;exact⟨A,B,fun l hl=>⟨(a l hl).1,fun C D=>by
   obtain⟨y,hy,E,d⟩:=(a l hl).2 C D;obtain⟨z,hz,f1,f2⟩:=j l y hy;exact⟨z,hz,f1.trans E,f2.trans d⟩⟩⟩
 ·exact F7 inv h
 ·rename_i d I F M J L N;split
  ·rename_i e;exact absurd e d
  ·rename_i e;exact absurd e I
  ·rename_i e;exact absurd e F
  ·exact oF (fun e=>by simpa using e) hs inv h

theorem lZ{dst:Option Tmp}{x:SV}{v:Value}{K:St->Prop}(inv:Inv c b st T wa)(g:v=x.den b)(h:put c.N st dst x K):
  ∃a,K a/\Inv c b a ((act T).put dst v).tmps wa/\(act T).put dst v=act ((act T).put dst v).tmps/\a.boxes=st.boxes:=by
 unfold put at h;cases dst with
 |none=>exact⟨st,h,inv,rfl,rfl⟩
 |some s=>
  simp only at h;cases hl:Nat.blt s c.N with
  |false=>rw[hl]at h;exact h.elim
  |true=>
   rw[hl]at h;have d:s<c.N:=by simpa[YG]using hl
   refine⟨_,h,⟨?_,fun t y hy=> ?_,inv.box,inv.lo,inv.ext,inv.new,inv.base⟩,rfl,rfl⟩
   ·simp[Act.put,act,inv.size]
   ·simp only[jo,qg]at hy;simp only[Act.put,act];have i:=inv.size;by_cases e:s=t
    ·subst e;simp only[JS]at hy;cases hy;rw[Oz (Nat.lt_of_lt_of_eq d i.symm),g]
    ·rw[aq e,aq (ub e)]at hy;rw[Hm e];exact inv.env t y hy

theorem Lr(he:qY b st.env T){ops:Array Oper}{j s:Nat}{x:SV}(hj:(ops.toList[j]?).bind (·.dst)=some s)(hx:get st.env s=some x):
  yielded ops T j=match x.den b with| .bool t=>some t|_=>none:=by
 have e:(ops[j]?).bind (·.dst)=some s:=by simpa using hj
 unfold yielded;rw[e];simp[he s x hx];cases x.den b<;>rfl

theorem Iy{s:Nat}{x:SV}{t:Bool}(inv:Inv c b st T wa)(hx:get st.env s=some x)(a:x.den b= .bool t):Inv c b (BV st s t) T wa:=by
 refine⟨inv.size,fun m y hy=> ?_,inv.box,inv.lo,inv.ext,inv.new,inv.base⟩;simp only[BV,jo,qg]at hy;by_cases e:s=m
 ·subst e;simp only[JS]at hy;cases hy;rw[inv.env s x hx,a];cases t<;>rfl
 ·rw[aq e,aq (ub e)]at hy;exact inv.env m y hy

theorem oG{ops:Array Oper}{K:Bool->St->Prop}(inv:Inv c b st T wa)(h:guarded ops o st K):
  ∃a,K (Region.wanted o (yielded ops T)) a/\Inv c b a T wa/\a.boxes=st.boxes:=by
 unfold guarded at h;unfold Region.wanted;cases hg:o.guard with
 |none=>rw[hg]at h;exact⟨st,h,inv,rfl⟩
 |some g=>
  obtain⟨j,want⟩:=g;rw[hg]at h;simp only at h⊢;cases hj:(ops.toList[j]?).bind (·.dst)with
  |none=>rw[hj]at h;exact h.elim
  |some s=>
   rw[hj]at h;simp only at h;cases hx:get st.env s with
   |none=>rw[hx]at h;exact h.elim
   |some x=>
    rw[hx]at h;have hy:=Lr inv.env hj hx;have gen:(zu x fun t=>K (EZ t want) (BV st s t))->∃a,K (yielded ops T j==some want) a/\Inv c b a T wa/\a.boxes=st.boxes:=fun h=>by
     obtain⟨t,d,h⟩:=tA (b:=b) h;rw[d]at hy;refine⟨_,?_,Iy inv hx d,rfl⟩;rw[hy];cases t<;>cases want<;>exact h
    cases x with
    |u=>
     simp only at h;refine⟨st,?_,inv,rfl⟩;rw[hy];cases want<;>exact h
    |_=>exact gen h

theorem Ls{q:Bool}{b0:Nat->Nat}{a:St}{d:Act->World->Prop}{K:St->Prop}{v:Value}{w':World}
  (h:QZ c q o b0 a wa T (fun x st=>put c.N st o.dst x K) v w') (hn:∀b st g w',K st->Inv c b st g w'->(q=true->Kept o b0 a wa b st w')->d (act g) w'):d ((act T).put o.dst v) w':=by
 obtain⟨A,x,B,hp,i,j,k⟩:=h;obtain⟨C,m,n,e,hb⟩:=lZ j i hp;rw[e];exact hn _ _ _ _ m n fun r=>by
  obtain⟨w,y,z⟩:=k r;exact⟨w,y,fun l hl=>by rw[hb];exact z l hl⟩

theorem uU{k i:Nat}{ops:Array Oper}{Q:Exit->Act->World->Prop}{m:Act->World->Prop}{K:St->Prop}(hs:∀cs q,o.op≠ .select cs q)(inv:Inv c b st T wa)(h:AA c k ops i o st K)
  (hi:ops[i]? =some o) (hn:∀a d g w',K d->Inv c a d g w'->(jH (gi c.mode k i) o=true->Kept o b st wa a d w')->m (act g) w'):wpOp c.P ops Q i m (act T) wa:=by
 unfold AA at h;obtain⟨d,h,n,r⟩:=oG inv h;unfold wpOp;simp only[hi];have y:yielded ops (act T).tmps=yielded ops T:=rfl;rw[y];cases hw:Region.wanted o (yielded ops T)with
 |true=>
  rw[hw]at h;simp only[JS];exact .inl (AH hs n h _ _ fun v w' ha=>Ls ha fun a w g j h1 z A=>hn a w g j h1 z fun B=>by
   obtain⟨C,D,E⟩:=A B;exact⟨C,D,fun l hl=>by rw[<-r];exact E l hl⟩)
 |false=>
  rw[hw]at h;simp only[Ll,B5];obtain⟨w,F,G,e,hb⟩:=lZ n (v:=undef) rfl h;rw[e];exact hn _ _ _ _ F G fun _=>Same.kept (fun l x hx=>by rw[hb,r]at hx;exact⟨x,hx,rfl,rfl⟩) _ _ _ _ lf fun _ _=>rfl

theorem F8{d:Nat}{ops:Array Oper}{Q:Exit->Act->World->Prop}{K:St->Prop}(e:∀b st a w',K st->Inv c b st a w'->Q .normal (act a) w')(g:∀(j:Nat) o cs q,ops[j]? =some o->o.op≠ .select cs q):
  ∀(l:List Oper)(i:Nat),(∀k,l[k]? =ops[i+k]?)->∀(b:Nat->Nat)(st:St)(T:Array Value)(wa:World),Inv c b st T wa->FW c d ops i l st K->wpOps c.P ops Q (List.range' i l.length) (act T) wa:=by
 intro l;induction l with
 |nil=>
  intro i _ b st T wa inv h;simp only[za,List.range'_zero,wpOps];exact e _ _ _ _ h inv
 |cons o r ih=>
  intro i hl b st T wa inv h;simp only[FW]at h;have hi:ops[i]? =some o:=by simpa using(hl 0).symm
  simp only[ew,List.range'_succ];rw[wpOps_cons];exact uU (fun cs q=>g i o cs q hi) inv h hi fun b st a w' m n _=>
   ih (i+1) (fun k=>by have:=hl (k+1);simpa[ME,M9 1 k]using this) b st a w' n m
end
section any
variable {P:Program} {ops:Array Oper} {Q:Exit->Act->World->Prop} {S:World->Prop} {qt:Nat->Bool}

def xG(P:Program)(ops:Array Oper)(Q:Exit->Act->World->Prop)(S:World->Prop)(qt:Nat->Bool):Nat->Array Bool->Act->World->Prop
 |0,l,a,w=>Region.ready .any ops l=[]/\Q .normal a w
 |n+1,l,a,w=>(Region.ready .any ops l=[]->Q .normal a w)/\
  ∀i∈Region.ready .any ops l,wpOp P ops Q i (fun b w'=>(qt i=true->S w->S w')/\xG P ops Q S qt n (l.setIfInBounds i true) b w') a w

theorem xG.wpAny:∀(n:Nat)(l:Array Bool)(a:Act)(w:World),xG P ops Q S qt n l a w->wpAny P .any ops Q n l a w
 |0,_,_,_,h=>h
 |n+1,_,_,_,h=>⟨h.1,fun i hi=>wpOp_mono (fun b w' d=>xG.wpAny n _ b w' d.2) (h.2 i hi)⟩

theorem xG.first{S':World->Prop}{i:Nat}{q:Oper}{v:Value}{late:Nat->Prop}(hi:ops[i]? =some q)(G:∀(j:Nat) o cs b,ops[j]? =some o->o.op≠ .select cs b)
  (M:∀c a w,Q (.panic c) (a.put q.dst v) w->Q (.panic c) a w)
  (N:∀j d,ops[j]? =some d->late j->∃e∈d.after,Region.binds .any e=true/\(e.on=i∨late e.on)):
  ∀(n:Nat)(l:Array Bool)(a:Act)(w:World),
   (∀j d,ops[j]? =some d->j≠i->l.getD j true=false->¬late j->
    q.apart ops d=true/\∀w w',(qt j=true->S w->S w')->S' w->S' w')->
   (∀j,late j->l.getD j false=false)->
   i∈Region.ready .any ops l->YieldsIf P ops S' q v a->S' w->
   xG P ops Q S qt n (l.setIfInBounds i true) (a.put q.dst v) w->xG P ops Q S qt (n+1) l a w:=by
 intro n;induction n with
 |zero=>
  intro l a w _ _ m hy y H;refine⟨fun h=>(by rw[h]at m;cases m),fun j hj=> ?_⟩;by_cases g:j=i
  ·subst g;exact hy.wpOp hi y ⟨fun _ h=>h,H⟩
  ·have:=ready_mono hj g;rw[H.1]at this;cases this
 |succ n ih=>
  intro l a w I J m hy y H;refine⟨fun h=>(by rw[h]at m;cases m),fun j hj=> ?_⟩;by_cases g:j=i
  ·subst g;exact hy.wpOp hi y ⟨fun _ h=>h,H⟩
  ·have h1:=H.2 j (ready_mono hj g);obtain⟨r,d,z,O⟩:=mem_ready.1 hj;have x:¬late j:=fun D=>by
    obtain⟨e,he,hb,R⟩:=N j d z D;have h1:=O e he hb;rcases R with heq|hl
    ·have K:=(mem_ready.1 m).1;rw[heq]at h1;rcases MB i l.size with E|E
     ·simp[E]at K h1;rw[K]at h1;cases h1
     ·simp[xO E]at h1
    ·rw[J _ hl]at h1;cases h1
   obtain⟨T,U⟩:=I j d z g r x;have V:=wpOp_putIf z T (fun cs b=>G i q cs b hi) (fun cs b=>G j d cs b z) M hy h1;refine wpOp_mono (fun W w' A=>⟨A.2.1,?_⟩) V;have X:=U w w' A.2.1 y;refine ih (l.setIfInBounds j true) W w' (fun k ok B F L Y=> ?_) (fun k B=> ?_) (ready_mono m (ub g)) A.1 X ?_
   ·refine I k ok B F ?_ Y;by_cases C:j=k
    ·subst C;exact r
    ·rw[getD_set_ne true C]at L;exact L
   ·have C:j≠k:=fun e=>x (e▸B)
    rw[getD_set_ne false C];exact J k B
   ·rw[Array.setIfInBounds_comm _ _ g];exact A.2.2
end any

section
variable {c:Cx}

theorem cX{n:Nat}:∀{l:List Nat},mv n l=true↔n∈l:=by
 intro l;induction l with
 |nil=>simp[mv]
 |cons x r ih=>
  simp only[mv];cases h:Nat.beq x n with
  |true=>have:=beq_true h;simp[this]
  |false=>
   have:=beq_false h;simp only[ih,cb];constructor
   ·exact .inr
   ·rintro(h|h)
    ·exact absurd h.symm this
    ·exact h

def Rel(ops:Array Oper)(listed:List Nat)(arr:Array Bool):Prop:=arr.size=ops.size/\∀j,j<ops.size->arr.getD j true=mv j listed

theorem Rel.cons{ops:Array Oper}{listed:List Nat}{arr:Array Bool}(h:Rel ops listed arr)(i:Nat):Rel ops (i::listed) (arr.setIfInBounds i true):=by
 refine⟨by simp[h.1],fun j hj=> ?_⟩;have:=h.2 j hj;have a:j<arr.size:=by rw[h.1];exact hj
 simp only[mv];cases e:Nat.beq i j with
 |true=>have:=beq_true e;subst this;simp[a]
 |false=>have b:=beq_false e;rw[getD_set_ne true b];exact this

theorem Rel.qj{ops:Array Oper}{listed:List Nat}{arr:Array Bool}(h:Rel ops listed arr){j:Nat}(hj:j<ops.size):arr.getD j false=mv j listed:=by
 have:=h.2 j hj;have a:j<arr.size:=by rw[h.1];exact hj
 simp[a]at this⊢;exact this

theorem xH{ops:Array Oper}{listed:List Nat}{arr:Array Bool}(h:Rel ops listed arr)(w:∀(j:Nat) o,ops[j]? =some o->∀e∈o.after,Region.binds .any e=true->e.on<ops.size):
  ∀(l:List Oper)(i:Nat),(∀k,l[k]? =ops[i+k]?)->∀j,j∈gF listed i l↔i<=j/\j∈Region.ready .any ops arr:=by
 intro l;induction l with
 |nil=>
  intro i hl j;simp only[gF,eH,false_iff,not_and];intro A hj;obtain⟨_,o,ho,_⟩:=mem_ready.1 hj;have:=hl (j - i);rw[show i+(j - i)=j by omega,ho]at this;simp at this
 |cons o r ih=>
  intro i hl j;have hi:ops[i]? =some o:=by simpa using(hl 0).symm
  have d:i<ops.size:=(ax.1 hi).1;have x:=ih (i+1) (fun k=>by have:=hl (k+1);simpa[ME,M9 1 k]using this);have y:i∈Region.ready .any ops arr↔(mv i listed|| !(o.after.toList.all fun e=> !Region.binds .any e||mv e.on listed))=false:=by
   rw[mem_ready,h.2 i d];simp only[Bool.or_eq_false_iff,Bool.not_eq_false',gu,My,MA];constructor
   ·rintro⟨g,o',z,m⟩;rw[hi]at z;cases z;refine⟨g,fun e he=> ?_⟩;have b:e∈o.after:=by simpa using he
    cases hb:Region.binds .any e with
    |false=>exact .inl rfl
    |true=>have:=m e b hb;rw[h.qj (w i o hi e b hb)]at this;exact .inr this
   ·rintro⟨g,m⟩;refine⟨g,o,hi,fun e he hb=> ?_⟩;rw[h.qj (w i o hi e he hb)];exact(m e (by simpa using he)).resolve_left (by simp[hb])
  simp only[gF];cases n:(mv i listed|| !(o.after.toList.all fun e=> !Region.binds .any e||mv e.on listed))with
  |true=>
   have hn:¬i∈Region.ready .any ops arr:=fun hm=>by rw[y.1 hm]at n;cases n
   simp only[x];constructor
   ·rintro⟨h1,a⟩;exact⟨om,a⟩
   ·rintro⟨h1,a⟩;refine⟨?_,a⟩;rcases MB i j with q|q
    ·omega
    ·have:i=j:=om;subst this;exact absurd a hn
  |false=>
   have hy:=y.2 n;simp only[cb,x];constructor
   ·rintro(rfl|⟨h1,a⟩)
    ·exact⟨ga _,hy⟩
    ·exact⟨om,a⟩
   ·rintro⟨h1,a⟩;rcases MB i j with q|q
    ·exact .inr ⟨om,a⟩
    ·exact .inl om

theorem xf{j:Nat}{ops:Array Oper}{listed:List Nat}{i:Nat}{d:Oper}{late:List Nat}:∀(l:List Oper)(a:Nat),sF c j ops listed i d late a l=true->
  ∀k o,l[k]? =some o->a+k≠i->(match jM d&& !jH (gi c.mode j (a+k)) o with
   |true=>mv (a+k) listed=false/\mv (a+k) late=true
   |false=>mv (a+k) listed=true∨mv (a+k) late=true∨d.apart ops o=true):=by
 intro l;induction l with
 |nil=>intro a _ k o b;simp at b
 |cons x r ih=>
  intro a h k o b g;simp only[sF,de]at h;cases k with
  |zero=>
   simp only[List.getElem?_cons_zero,JT]at b;subst b;have h1:=h.1;rw[My]at h1;have h1:=h1.resolve_left (by simpa using g);simp only[xK];split at h1
   ·rename_i e;rw[e];simpa using h1
   ·rename_i e;rw[e];simpa[or_assoc]using h1
  |succ k=>
   have:=ih (a+1) h.2 k o (by simpa using b) om;rw[show a+1+k=a+(k+1) by omega]at this;exact this

theorem Cz{ops:Array Oper}{listed:List Nat}{i:Nat}:∀(l:List Oper)(a:Nat)(acc:List Nat),(∀k,l[k]? =ops[a+k]?)->
  (∀j b,ops[j]? =some b->mv j acc=true->mv j listed=false/\∃e∈b.after,Region.binds .any e=true/\(e.on=i∨mv e.on acc=true))->(∀j,mv j acc=true->mv j listed=false)->
  (∀j b,ops[j]? =some b->mv j (sE listed i a l acc)=true->∃e∈b.after,Region.binds .any e=true/\(e.on=i∨mv e.on (sE listed i a l acc)=true))/\(∀j,mv j (sE listed i a l acc)=true->mv j listed=false):=by
 intro l;induction l with
 |nil=>intro a acc _ h g;exact⟨fun j b ho hj=>(h j b ho hj).2,g⟩
 |cons o r ih=>
  intro a acc hl h g;have m:ops[a]? =some o:=by simpa using(hl 0).symm
  have d:∀k,r[k]? =ops[a+1+k]? :=fun k=>by have:=hl (k+1);simpa[ME,M9 1 k]using this
  simp only[sE];cases w:(!mv a listed&&o.after.toList.any fun e=>Region.binds .any e&&(Nat.beq e.on i||mv e.on acc))with
  |false=>exact ih (a+1) acc d h g
  |true=>
   simp only[de,MA,uv,My]at w;obtain⟨hu,e,he,hb,n⟩:=w;have grow:∀k,mv k acc=true->mv k (a::acc)=true:=fun k x=>cX.2 (by simp[cX.1 x])
   refine ih (a+1) (a::acc) d (fun j b ho hj=> ?_) fun j hj=> ?_
   ·rcases cb.1 (cX.1 hj)with rfl|hj
    ·rw[m]at ho;cases ho;refine⟨hu,e,by simpa using he,hb,?_⟩;rcases n with q|q
     ·exact .inl (beq_true q)
     ·exact .inr (grow _ q)
    ·obtain⟨y,e,he,hb,n⟩:=h j b ho (cX.2 hj);exact⟨y,e,he,hb,n.imp id (grow _)⟩
   ·rcases cb.1 (cX.1 hj)with rfl|hj
    ·exact hu
    ·exact g j (cX.2 hj)

theorem uV{b:Nat}{ops:Array Oper}{listed:List Nat}:∀{l:List Nat} {i:Nat},lY c b ops listed l=some i->
  i∈l/\∃o,ops[i]? =some o/\early o=true/\sF c b ops listed i o (sE listed i 0 ops.toList []) 0 ops.toList=true:=by
 intro l;induction l with
 |nil=>intro i h;simp[lY]at h
 |cons x r ih=>
  intro i h;simp only[lY]at h;cases hx:ops.toList[x]? with
  |none=>simp[hx]at h
  |some o=>
   simp only[hx]at h;cases a:early o&&sF c b ops listed x o (sE listed x 0 ops.toList []) 0 ops.toList with
   |true=>
    rw[a]at h;cases h;simp only[de]at a;exact⟨sm,o,by simpa using hx,a.1,a.2⟩
   |false=>
    rw[a]at h;obtain⟨h1,d⟩:=ih h;exact⟨by simp[h1],d⟩

theorem Fh:∀{l:List Nat} {z:Prop} {K:Nat->Prop},Fa l z K->l≠[]->∀i∈l,K i:=by
 intro l;induction l with
 |nil=>intro z K _ h;exact absurd rfl h
 |cons x r ih=>
  intro z K h _ i hi;cases r with
  |nil=>simp only[Fa]at h;rw[eb.1 hi];exact h
  |cons y s=>
   simp only[Fa]at h;rcases cb.1 hi with rfl|hi
   ·exact h.1
   ·exact ih h.2 sm i hi

def nI(b0:Nat->Nat)(b:St)(lw:Option World)(hold:List Nat)(w:World):Prop:=
 (∀l∈hold,∀x,bC b.boxes l=some x->w.heap[b0 l]? =some (.cells x.cells.toArray x.ty (0,0)))/\∀v,lw=some v->∀a u,v.cell? a=some u->w.cell? a=some u

theorem nI.ar{b0:Nat->Nat}{b:St}{lw:Option World}{hold:List Nat}{w w':World}(h:nI b0 b lw hold w)(d:∀k,k<w.heap.size->w'.heap[k]? =w.heap[k]?):nI b0 b lw hold w':=by
 refine⟨fun l hl x hx=> ?_,fun v e a u hu=> ?_⟩
 ·have:=h.1 l hl x hx;rw[d _ (ax.1 this).1];exact this
 ·have:=h.2 v e a u hu;rw[World.cell?_of_block (d _ (World.block_lt_of_cell? w a this))];exact this

def quietAt(c:Cx)(a:Nat)(ops:Array Oper)(j:Nat):Bool:=match ops[j]? with
 |some o=>jH (gi c.mode a j) o
 |none=>true

def Still(c:Cx)(e:Nat)(ops:Array Oper)(b0:Nat->Nat)(d:St)(lw:Option World)(hold:List Nat)(listed:List Nat)(b:Nat->Nat)(st:St)(w:World):Prop:=
 (∀j∈listed,quietAt c e ops j=true)->nI b0 d lw hold w/\∀l∈hold,b l=b0 l/\∀a,bC st.boxes l=some a->∃x,bC d.boxes l=some x/\x.cells=a.cells/\x.ty=a.ty

theorem Ep{o:Oper}{l:Nat}:∀{ops:List Oper},o∈ops->ux o=true->o.dst=some l->l∈pZ ops:=by
 intro ops;induction ops with
 |nil=>intro h;cases h
 |cons x r ih=>
  intro h hn a;simp only[pZ];rcases cb.1 h with rfl|h
  ·unfold ux at hn;split at hn
   ·rename_i e;rw[e,a];simp
   ·rename_i e;rw[e,a];simp
   ·cases hn
  ·have:=ih h hn a;split<;>simp[this]

theorem Er{B:Nat}{ops:Array Oper}{Q:Exit->Act->World->Prop}{K:St->Prop}{lw:Option World}{hold:List Nat}{b0:Nat->Nat}{g:St}
  (hq:∀b st I w',K st->Inv c b st I w'->Q .normal (act I) w') (hQ:∀ch a w,¬Q (.panic ch) a w)
  (J:∀(j:Nat) o cs q,ops[j]? =some o->o.op≠ .select cs q) (Fg:∀(j:Nat) o,ops[j]? =some o->∀e∈o.after,Region.binds .any e=true->e.on<ops.size)
  (fS:∀l∈hold,∀(j:Nat) o,ops[j]? =some o->ux o=true->o.dst≠some l):
  ∀(n:Nat)(listed:List Nat)(arr:Array Bool)(b:Nat->Nat)(st:St)(T:Array Value)(w:World),Rel ops listed arr->Inv c b st T w->
   Still c B ops b0 g lw hold listed b st w->re c B ops lw hold n listed st K->xG c.P ops Q (nI b0 g lw hold) (quietAt c B ops) n arr (act T) w:=by
 intro n;induction n with
 |zero=>
  intro listed arr b st T w d inv L h;simp only[re]at h;have hr:Region.ready .any ops arr=[]:=by
   cases he:gF listed 0 ops.toList with
   |nil=>
    refine Ib.2 fun j hj=> ?_
    have:=(xH d Fg ops.toList 0 (fun k=>by simp) j).2 ⟨Xl _,hj⟩;rw[he]at this;cases this
   |cons x r=>simp[he]at h
  refine⟨hr,?_⟩;have N:gF listed 0 ops.toList=[]:=by
   cases he:gF listed 0 ops.toList with
   |nil=>rfl
   |cons x r=>simp[he]at h
  rw[N]at h;exact hq _ _ _ _ h inv
 |succ n ih=>
  intro listed arr b st T w d inv L h;have O:=fun j=>xH d Fg ops.toList 0 (fun k=>by simp) j
  simp only[re]at h;cases hf:lY c B ops listed (gF listed 0 ops.toList)with
  |some i=>
   simp only[hf]at h;obtain⟨D,o,hi,F9,R⟩:=uV hf;have IB:ops.toList[i]? =some o:=by simpa using hi
   simp only[IB]at h;have U:=((O i).1 D).2;obtain⟨V,h,E,zl⟩:=oG inv h;have W:i<ops.size:=(ax.1 hi).1;have X:=fun j m (hj:ops[j]? =some m) (A:j≠i)=>xf ops.toList 0 R j m (by simpa using hj) om
   simp only[mC]at X;obtain⟨AI,ZY⟩:=Cz (ops:=ops) (listed:=listed) (i:=i) ops.toList 0 [] (fun k=>by simp) (fun j m _ hj=>by cases hj) (fun j hj=>by cases hj);have Iz:∀j,mv j (sE listed i 0 ops.toList [])=true->arr.getD j false=false:=fun j hj=>by
    by_cases Y:j<ops.size
    ·rw[d.qj Y];exact ZY j hj
    ·rw[VG,xO (by rw[d.1];omega)];rfl
   have AJ:∀j m,ops[j]? =some m->j≠i->arr.getD j true=false->¬mv j (sE listed i 0 ops.toList [])=true->
     o.apart ops m=true/\∀w w',(quietAt c B ops j=true->nI b0 g lw hold w->nI b0 g lw hold w')->(jM o=true->nI b0 g lw hold w)->(jM o=true->nI b0 g lw hold w'):=by
    intro j m hj A KH Ff;have hs:=X j m hj A;have Y:j<ops.size:=(ax.1 hj).1;have BY:mv j listed=false:=by rw[<-d.2 j Y];exact KH
    split at hs
    ·exact absurd hs.2 Ff
    ·rename_i e;rw[BY]at hs;refine⟨(hs.resolve_left sm).resolve_left Ff,fun w w' hk F hl=> ?_⟩;have:quietAt c B ops j=true:=by
      unfold quietAt;rw[hj];simp only;rw[hl]at e;simpa using e
     exact hk this (F hl)
   have Z:jM o=true->nI b0 g lw hold w/\∀l∈hold,b l=b0 l/\∀G,bC st.boxes l=some G->∃x,bC g.boxes l=some x/\x.cells=G.cells/\x.ty=G.ty:=fun hl=>L fun j hj=>by
    unfold quietAt;split
    ·rename_i m UD;by_cases A:j=i
     ·subst A;rw[hi]at UD;cases UD;have:=(mem_ready.1 U).1;rw[d.2 j W,cX.2 hj]at this;cases this
     ·have hs:=X j m UD A;cases Yk:jH (gi c.mode B j) m with
      |true=>rfl
      |false=>
       rw[hl,Yk]at hs;simp only[VT,Bool.and_self]at hs;rw[cX.2 hj]at hs;cases hs.1
    ·rfl
   have Re:∀C,C.boxes=V.boxes->Still c B ops b0 g lw hold (i::listed) b C w:=fun C e M=>by
    rw[e,zl];exact L fun j hj=>M j (by simp[hj])
   have ey:yielded ops (act T).tmps=yielded ops T:=rfl;cases hw:Region.wanted o (yielded ops T)with
   |true=>
    rw[hw]at h;simp only at h;have hv:=rh (Ok:=fun w=>jM o=true->nI b0 g lw hold w) (lw:=lw) (hold:=some hold) (b:=b) (fun hl w1 dn=>by
     have hH:=dn hl;refine⟨fun l x hm hx=> ?_,fun v hv a u hu=>hH.2 v hv a u hu⟩;have xg:l∈hold:=cX.1 hm;rw[zl]at hx;obtain⟨e1,e2⟩:=(Z hl).2 l xg;obtain⟨y,hy,f1,f2⟩:=e2 x hx;rw[e1,<-f1,<-f2];exact hH.1 l xg y hy) E.env (fun cs q=>J i o cs q hi) h
    obtain⟨x,hp,fm⟩:=hv;obtain⟨C,H,mA,e,hb⟩:=lZ E (v:=x.den b) rfl hp;refine xG.first (S':=fun w=>jM o=true->nI b0 g lw hold w) hi J (fun ch a w hp=>absurd hp (hQ _ _ _)) AI n arr (act T) w AJ Iz U (.inl ⟨by rw[ey];exact hw,fun w1 dn=>fm w1 dn⟩) (fun hl=>(Z hl).1) ?_;rw[e];exact ih (i::listed) _ b C _ w (d.cons i) mA (Re C hb) H
   |false=>
    rw[hw]at h;simp only at h;obtain⟨C,H,mA,e,hb⟩:=lZ E (v:=undef) rfl h;refine xG.first (S':=fun w=>jM o=true->nI b0 g lw hold w) hi J (fun ch a w hp=>absurd hp (hQ _ _ _)) AI n arr (act T) w AJ Iz U (.inr ⟨by rw[ey];exact hw,rfl⟩) (fun hl=>(Z hl).1) ?_;rw[e];exact ih (i::listed) _ b C _ w (d.cons i) mA (Re C hb) H
  |none=>
   simp only[hf]at h;refine⟨fun N=> ?_,fun i hi=> ?_⟩
   ·have he:gF listed 0 ops.toList=[]:=Ib.2 fun j hj=>by
     have:=((O j).1 hj).2;rw[N]at this;cases this
    rw[he]at h;exact hq _ _ _ _ h inv
   ·have D:=(O i).2 ⟨Xl _,hi⟩;have h:=Fh h (fun e=>by rw[e]at D;cases D) i D;obtain⟨_,o,ho,_⟩:=mem_ready.1 hi;have BX:ops.toList[i]? =some o:=by simpa using ho
    simp only[BX]at h;refine uU (fun cs q=>J i o cs q ho) inv h ho fun b' V I w' H E uW=> ?_
    have UE:quietAt c B ops i=jH (gi c.mode B i) o:=by unfold quietAt;rw[ho]
    refine⟨fun Yk F=> ?_,ih (i::listed) _ b' V I w' (d.cons i) E (fun M=> ?_) H⟩
    ·exact F.ar (uW (by rw[<-UE];exact Yk)).2.1
    ·obtain⟨k1,k2,k3⟩:=uW (by rw[<-UE];exact M i sm);obtain⟨F,hB⟩:=L fun j hj=>M j (by simp[hj])
     refine⟨F.ar k2,fun l hl=> ?_⟩;obtain⟨e1,e2⟩:=k3 l (fun hn=>fS l hl i o ho hn);obtain⟨g1,g2⟩:=hB l hl;refine⟨e1.trans g1,fun G Fe=> ?_⟩;obtain⟨y,hy,f1,f2⟩:=e2 G Fe;obtain⟨z,hz,h1,h2⟩:=g2 y hy;exact⟨z,hz,h1.trans f1,h2.trans f2⟩
end

section
variable {c:Cx}

theorem tI{ops:Array Oper}(d:∀(j:Nat) o,ops[j]? =some o->∀e∈o.after,Region.binds .any e=true->e.on<ops.size)(L:List Nat)(i:Nat):
  i∈gF L 0 ops.toList↔mv i L=false/\∃o,ops[i]? =some o/\∀e∈o.after,Region.binds .any e=true->mv e.on L=true:=by
 have a:Rel ops L (Array.ofFn (n:=ops.size) fun j=>mv j.1 L):=⟨sm,fun j hj=>by simp[hj]⟩;rw[xH a d ops.toList 0 (fun k=>by simp) i];constructor
 ·rintro⟨_,h⟩;obtain⟨b,o,ho,g⟩:=mem_ready.1 h;have hi:=(ax.1 ho).1;rw[a.2 i hi]at b;exact⟨b,o,ho,fun e he hb=>by have:=g e he hb;rwa [a.qj (d i o ho e he hb)]at this⟩
 ·rintro⟨b,o,ho,g⟩;have hi:=(ax.1 ho).1;refine⟨Xl _,mem_ready.2 ⟨by rw[a.2 i hi];exact b,o,ho,fun e he hb=> ?_⟩⟩;rw[a.qj (d i o ho e he hb)];exact g e he hb
theorem mB{j:Nat}:∀{a l:List Nat},mv j (pK a l)=true↔j∈a∨mv j l=true:=by
 intro a;induction a with
 |nil=>intro l;simp[pK]
 |cons x r ih=>intro l;rw[pK,cX,cb,<-cX,ih,cb,or_assoc]
theorem ia{o:Oper}{b:Bool}{f:Nat}:∀{fl:List Nat},f∈waited o b fl↔f∈fl/\my o f=b:=by
 intro fl;induction fl with
 |nil=>simp[waited]
 |cons x r ih=>
  rw[waited];have hs:EZ (my o x) b=true↔my o x=b:=by cases my o x<;>cases b<;>simp[EZ]
  cases h:EZ (my o x) b with
  |true=>
   simp only[cb,ih];have:=hs.1 h;constructor
   ·rintro(rfl|⟨h1,a⟩)
    ·exact⟨.inl rfl,this⟩
    ·exact⟨.inr h1,a⟩
   ·rintro⟨rfl|h1,a⟩
    ·exact .inl rfl
    ·exact .inr ⟨h1,a⟩
  |false=>
   have hn:¬my o x=b:=fun k=>by rw[hs.2 k]at h;cases h
   simp only[ih,cb];constructor
   ·rintro⟨h1,a⟩;exact⟨.inr h1,a⟩
   ·rintro⟨rfl|h1,a⟩
    ·exact absurd a hn
    ·exact⟨h1,a⟩
theorem yx{o:Oper}{b:Bool}:∀{fl:List Nat},fl.Nodup->(waited o b fl).Nodup:=by
 intro fl;induction fl with
 |nil=>intro _;exact Zy
 |cons x r ih=>
  intro h;obtain⟨h1,a⟩:=KJ.1 h;rw[waited];split
  ·exact KJ.2 ⟨fun k=>h1 (ia.1 k).1,ih a⟩
  ·exact ih a
theorem Ga{o:Oper}{f:Nat}:my o f=true↔∃e∈o.after,Region.binds .any e=true/\e.on=f:=by
 unfold my;rw[uv];constructor
 ·rintro⟨e,he,h⟩;rw[de]at h;exact⟨e,by simpa using he,h.1,beq_true h.2⟩
 ·rintro⟨e,he,hb,rfl⟩;exact⟨e,by simpa using he,by rw[de];exact⟨hb,Nat.beq_refl _⟩⟩

theorem Et{l f:Nat}:∀{ops:List Oper} {b:Nat},yq l f b ops=true->∀k o,ops[k]? =some o->b+k≠f->o.dst≠some l:=by
 intro ops;induction ops with
 |nil=>intro b _ k o a;simp at a
 |cons x r ih=>
  intro b h k o a d;simp only[yq,de]at h;cases k with
  |zero=>
   simp at a;subst a;intro e;have h1:=h.1;rw[e,My]at h1;rcases h1 with h1|h1
   ·exact d (beq_true h1)
   ·simp at h1
  |succ k=>exact ih h.2 k o (by simpa using a) om

structure CC (c:Cx) (ops:Array Oper) (f:Nat) (o:Oper) (t:Nat) (cells:List Value):Prop where
 ho:ops[f]? =some o
 op:o.op= .alloc t
 dst:o.dst=some (eY ops f)
 guard:o.guard=none
 zero:zeroCells c.P t=some cells
 lt:eY ops f<c.N
 other:∀j o',ops[j]? =some o'->j≠f->o'.dst≠some (eY ops f)
 free:∀e∈o.after,Region.binds .any e=false
theorem On{d:Nat}{ops:Array Oper}{f:Nat}(h:QU c d ops f=true):∃o t cells,CC c ops f o t cells/\gi c.mode d f=0:=by
 unfold QU at h;cases ho:ops.toList[f]? with
 |none=>simp[ho]at h
 |some o=>
  simp only[ho,de]at h;obtain⟨⟨h1,k⟩,m⟩:=h;cases i:o.op<;>simp only[i]at h1<;>try cases h1
  rename_i t;cases b:o.dst with
  |none=>simp[b]at h1
  |some l=>
   cases hg:o.guard with
   |some g=>simp[b,hg]at h1
   |none=>
    simp only[b,hg,de]at h1;cases hz:zeroCells c.P t with
    |none=>simp[hz]at h1
    |some cells=>
     have a:eY ops f=l:=by unfold eY;rw[ho];simp[b]
     refine⟨o,t,cells,⟨by simpa using ho,i,by rw[a];exact b,hg,hz,?_,fun j o' hj n=> ?_,fun e he=> ?_⟩,beq_true k⟩
     ·rw[a];simpa[YG]using h1.1.2
     ·rw[a];exact Et h1.2 j o' (by simpa using hj) om
     ·have:=gu.1 m e (by simpa using he);simpa using this
theorem IC{b:Nat}{ops:Array Oper}{fl:List Nat}:∀{l:List Nat} {f:Nat},zx c b ops fl l=some f->f∈l/\f∉fl/\QU c b ops f=true:=by
 intro l;induction l with
 |nil=>intro f h;simp[zx]at h
 |cons x r ih=>
  intro f h;simp only[zx]at h;cases a:(!mv x fl&&QU c b ops x)with
  |true=>
   rw[a]at h;cases h;simp only[de,MA]at a;exact⟨sm,fun k=>(by rw[cX.2 k]at a;cases a.1),a.2⟩
  |false=>
   rw[a]at h;obtain⟨h1,d⟩:=ih h;exact⟨by simp[h1],d⟩

structure Rf (c:Cx) (ops:Array Oper) (b:Nat->Nat) (st:St) (T:Array Value) (wa:World) (f a:Nat):Prop where
 tmp:T[eY ops f]? =some (.pointer (some ⟨a,0,none⟩))
 lo:c.B<=a
 heap:∀o t cells,CC c ops f o t cells->wa.heap[a]? =some (.cells cells.toArray t (0,0))
 ne:∀m x,bC st.boxes m=some x->b m≠a

theorem CC.uniq{ops:Array Oper}{f:Nat}{o o':Oper}{t t':Nat}{cells a:List Value}(h:CC c ops f o t cells)(k:CC c ops f o' t' a):o=o'/\t=t'/\cells=a:=by
 have e:o=o':=by have:=h.ho.symm.trans k.ho;cases this;rfl
 subst e;have e:t=t':=by have:=h.op.symm.trans k.op;cases this;rfl
 subst e;have:=h.zero.symm.trans k.zero;cases this;exact⟨rfl,rfl,rfl⟩
theorem CC.inj{ops:Array Oper}{f g:Nat}{o o':Oper}{t t':Nat}{cells b:List Value}(h:CC c ops f o t cells)(k:CC c ops g o' t' b)(a:f≠g):eY ops f≠eY ops g:=by
 intro e;exact h.other g o' k.ho (ub a) (by rw[k.dst,e])

theorem Lv{b:Nat->Nat}{st:St}{T:Array Value}{wa:World}{ops:Array Oper}{f a:Nat}{o:Oper}{t:Nat}{cells:List Value}(inv:Inv c b st T wa)(hf:CC c ops f o t cells)(h:Rf c ops b st T wa f a):
  Inv c (fun m=>if m=eY ops f then a else b m) (ru st (eY ops f) t cells) T wa:=by
 refine⟨inv.size,fun s x hs=> ?_,⟨fun m x hm=> ?_,fun m n x y hm hn g=> ?_⟩,inv.lo,inv.ext,fun m x hm hn=> ?_,inv.base⟩
 ·simp only[ru,jo,qg]at hs;by_cases e:eY ops f=s
  ·rw[bm e]at hs;cases hs;subst e;rw[h.tmp];simp[SV.den]
  ·rw[aq e,aq (ub e)]at hs;obtain⟨h1,i⟩:=uT hs;rw[inv.env s x h1];cases x<;>simp only[SV.den];rename_i k off;have:k≠eY ops f:=beq_false i;simp[this]
 ·simp only[ru,cN,dE]at hm;by_cases e:eY ops f=m
  ·rw[bm e]at hm;cases hm;subst e;simp only[JS];exact⟨h.lo,h.heap o t cells hf⟩
  ·rw[aq e,aq (ub e)]at hm;simp only[aq (ub e)];exact inv.box.at_ m x hm
 ·simp only[ru,cN,dE]at hm hn;by_cases e:eY ops f=m
  ·by_cases d:eY ops f=n
   ·exact absurd (e.symm.trans d) g
   ·rw[aq d,aq (ub d)]at hn;rw[bm e.symm,aq (ub d)];exact fun k=>h.ne n y hn k.symm
  ·rw[aq e,aq (ub e)]at hm;by_cases d:eY ops f=n
   ·rw[aq (ub e),bm d.symm];exact h.ne m x hm
   ·rw[aq d,aq (ub d)]at hn;rw[aq (ub e),aq (ub d)];exact inv.box.ne m n x y hm hn g
 ·simp only[ru,cN,dE]at hm;by_cases e:eY ops f=m
  ·rw[bm e]at hm;cases hm;cases hn
  ·rw[aq e,aq (ub e)]at hm;rw[aq (ub e)];exact inv.new m x hm hn

theorem xh{T:Array Value}{wa:World}{ops:Array Oper}{K:St->Prop}{a:Nat->Nat}:∀(fl:List Nat)(b:Nat->Nat)(st:St),Inv c b st T wa->fl.Nodup->(∀f∈fl,∃o t cells,CC c ops f o t cells)->
  (∀f∈fl,Rf c ops b st T wa f (a f))->(∀f∈fl,∀g∈fl,f≠g->a f≠a g)->tz c ops fl st K->
  ∃j i,K i/\Inv c j i T wa/\(∀m,(∀f∈fl,m≠eY ops f)->j m=b m)/\(∀m x,bC i.boxes m=some x->(∃f∈fl,m=eY ops f/\j m=a f)∨(bC st.boxes m=some x/\j m=b m))/\(∀s,get st.env s=none->(∀f∈fl,s≠eY ops f)->get i.env s=none)/\i.d=st.d:=by
 intro fl;induction fl with
 |nil=>intro b st inv _ _ _ _ h;exact⟨b,st,h,inv,fun _ _=>rfl,fun m x hx=> .inr ⟨hx,rfl⟩,fun s hs _=>hs,rfl⟩
 |cons f r ih=>
  intro b st inv z A C n h;obtain⟨D,E⟩:=KJ.1 z;obtain⟨o,t,cells,hf⟩:=A f sm;have ho:ops.toList[f]? =some o:=by simpa using hf.ho
  rw[tz]at h;simp only[ho,hf.op,hf.dst,hf.zero]at h;have F:=Lv inv hf (C f sm);have B:∀g∈r,Rf c ops (fun m=>if m=eY ops f then a f else b m) (ru st (eY ops f) t cells) T wa g (a g):=fun g hg=>by
   have l:=C g (by simp[hg]);obtain⟨o',t',R,G⟩:=A g (by simp[hg]);have H:f≠g:=fun e=>D (e▸hg)
   refine⟨l.tmp,l.lo,l.heap,fun m x hm=> ?_⟩;simp only[ru,cN,dE]at hm;by_cases k:eY ops f=m
   ·rw[bm k.symm];exact n f sm g (by simp[hg]) H
   ·rw[aq k,aq (ub k)]at hm;rw[aq (ub k)];exact l.ne m x hm
  obtain⟨j,i,I,J,h1,L,M,N⟩:=ih _ _ F E (fun g hg=>A g (by simp[hg])) B (fun g hg O l=>n g (by simp[hg]) O (by simp[l])) h;refine⟨j,i,I,J,fun m hm=> ?_,fun m x hx=> ?_,fun s hs q=> ?_,N⟩
  ·rw[h1 m fun g hg=>hm g (by simp[hg]),aq (hm f sm)]
  ·rcases L m x hx with⟨g,hg,P,Q⟩|⟨hm,e⟩
   ·exact .inl ⟨g,by simp[hg],P,Q⟩
   ·simp only[ru,cN,dE]at hm;by_cases k:eY ops f=m
    ·rw[bm k.symm]at e;exact .inl ⟨f,sm,k.symm,e⟩
    ·rw[aq k,aq (ub k)]at hm;rw[aq (ub k)]at e;exact .inr ⟨hm,e⟩
  ·refine M s ?_ fun g hg=>q g (by simp[hg])
   simp only[ru,jo,qg];have w:=q f sm;rw[aq (ub w),aq w];cases hx:get (qX st.env (eY ops f)) s with
   |none=>rfl
   |some y=>have:=(uT hx).1;rw[hs]at this;cases this

theorem zF{T:Array Value}{d:Option Tmp}{v:Value}{s:Nat}(h:d≠some s):((act T).put d v).tmps[s]? =T[s]? :=by
 cases d with
 |none=>rfl
 |some l=>
  have:l≠s:=fun e=>h (by rw[e])
  simp only[Act.put,act];rw[Hm this]
theorem Gc{b:Nat->Nat}{st:St}{T:Array Value}{wa:World}{o:Oper}{n i:Nat}{ops:Array Oper}{Q:Exit->Act->World->Prop}{r:Act->World->Prop}{K:St->Prop}(hs:∀cs q,o.op≠ .select cs q)(inv:Inv c b st T wa)(h:AA c n ops i o st K)
  (hi:ops[i]? =some o) (hn:∀d a g w',K a->Inv c d a g w'->(jH (gi c.mode n i) o=true->Kept o b st wa d a w')->(∀s,o.dst≠some s->g[s]? =T[s]?)->r (act g) w'):wpOp c.P ops Q i r (act T) wa:=by
 unfold AA at h;obtain⟨a,h,w,y⟩:=oG inv h;unfold wpOp;simp only[hi];have z:yielded ops (act T).tmps=yielded ops T:=rfl;rw[z];cases hw:Region.wanted o (yielded ops T)with
 |true=>
  rw[hw]at h;simp only[JS];refine .inl (AH hs w h _ _ fun v w' ⟨d,x,A,hp,B,inv1,C⟩=> ?_);obtain⟨D,j,k,e,hb⟩:=lZ inv1 B hp;rw[e];refine hn _ _ _ _ j k (fun E=> ?_) fun s m=>zF m
  obtain⟨F,G,H⟩:=C E;exact⟨F,G,fun l hl=>by rw[hb,<-y];exact H l hl⟩
 |false=>
  rw[hw]at h;simp only[Ll,B5];obtain⟨D,j,k,e,hb⟩:=lZ w (v:=undef) rfl h;rw[e];exact hn _ _ _ _ j k (fun _=>Same.kept (fun l x hx=>by rw[hb,y]at hx;exact⟨x,hx,rfl,rfl⟩) _ _ _ _ lf fun _ _=>rfl) fun s m=>zF m

structure Fi (c:Cx) (ops:Array Oper) (b:Nat->Nat) (st:St) (T:Array Value) (wa:World) (arr:Array Bool) (fl:List Nat) (a:Nat->Nat):Prop where
 op:∀f∈fl,∃o t cells,CC c ops f o t cells
 nodup:fl.Nodup
 env:∀f∈fl,get st.env (eY ops f)=none
 at_:∀f∈fl,arr.getD f true=true->Rf c ops b st T wa f (a f)
 ne:∀f∈fl,∀g∈fl,f≠g->arr.getD f true=true->arr.getD g true=true->a f≠a g
 d:fl≠[]->st.d≠none
structure aiB (ops:Array Oper) (listed fl:List Nat) (arr:Array Bool):Prop where
 size:arr.size=ops.size
 Ym:∀j,j<ops.size->mv j listed=true->arr.getD j true=true
 arr:∀j,j<ops.size->arr.getD j true=true->mv j listed=true∨j∈fl
 dis:∀f∈fl,mv f listed=false
def oM(arr:Array Bool):List Nat->Nat
 |[]=>0
 |f::r=>(if arr.getD f true=true then 0 else 1)+oM arr r

theorem Oo{arr:Array Bool}:∀{fl:List Nat},oM arr fl=0↔∀f∈fl,arr.getD f true=true:=by
 intro fl;induction fl with
 |nil=>simp[oM]
 |cons x r ih=>
  rw[oM,Nat.add_eq_zero_iff,ih];constructor
  ·rintro⟨h1,a⟩ f hf;rcases cb.1 hf with rfl|hf
   ·apply bB;intro k;rw[aq k]at h1;cases h1
   ·exact a f hf
  ·intro h;exact⟨by rw[bm (h x sm)],fun f hf=>h f (by simp[hf])⟩
theorem Rg{arr:Array Bool}{i:Nat}(hi:i<arr.size)(b:arr.getD i true=false):∀{fl:List Nat},fl.Nodup->i∈fl->oM arr fl=oM (arr.setIfInBounds i true) fl+1:=by
 have other:∀{fl:List Nat},i∉fl->oM (arr.setIfInBounds i true) fl=oM arr fl:=by
  intro fl;induction fl with
  |nil=>intro _;rfl
  |cons x r ih=>
   intro h;have hx:i≠x:=fun e=>h (by simp[e])
   rw[oM,oM,getD_set_ne true hx,ih fun k=>h (by simp[k])]
 intro fl;induction fl with
 |nil=>intro _ h;cases h
 |cons x r ih=>
  intro a h;obtain⟨h1,d⟩:=KJ.1 a;rw[oM,oM];by_cases e:i=x
  ·subst e;rw[other h1,b,aq sm,bm (by simp[hi])];omega
  ·rw[getD_set_ne true e,ih d (by simpa[e]using h)];omega
theorem CD{arr a:Array Bool}:∀{fl:List Nat},(∀f∈fl,arr.getD f true=a.getD f true)->oM arr fl=oM a fl:=by
 intro fl;induction fl with
 |nil=>intro _;rfl
 |cons x r ih=>intro h;rw[oM,oM,h x sm,ih fun f hf=>h f (by simp[hf])]
theorem ID{arr:Array Bool}{o:Oper}:∀{fl:List Nat},(∀f∈waited o true fl,arr.getD f true=true)->oM arr (waited o false fl)=oM arr fl:=by
 intro fl;induction fl with
 |nil=>intro _;rfl
 |cons x r ih=>
  intro h;cases hw:my o x with
  |true=>
   have h1:waited o true (x::r)=x::waited o true r:=by rw[waited,hw];rfl
   have a:waited o false (x::r)=waited o false r:=by rw[waited,hw];rfl
   rw[h1]at h;rw[a,oM,bm (h x sm),ih fun f hf=>h f (by simp[hf])];omega
  |false=>
   have h1:waited o true (x::r)=waited o true r:=by rw[waited,hw];rfl
   have a:waited o false (x::r)=x::waited o false r:=by rw[waited,hw];rfl
   rw[h1]at h;rw[a,oM,oM,ih h]

theorem Lw{b:Nat->Nat}{st:St}{T:Array Value}{wa:World}{ops:Array Oper}{arr:Array Bool}{fl:List Nat}{a:Nat->Nat}{Q:Exit->Act->World->Prop}{w:Act->World->Prop}{i:Nat}(lz:arr.size=ops.size)(hi:i∈fl)(X:arr.getD i true=false)
  (inv:Inv c b st T wa) (j:Fi c ops b st T wa arr fl a)
  (hn:∀M y w',(∀k,k<wa.heap.size->w'.heap[k]? =wa.heap[k]?)->Inv c b st y w'->Fi c ops b st y w' (arr.setIfInBounds i true) fl M->w (act y) w'):wpOp c.P ops Q i w (act T) wa:=by
 obtain⟨o,t,cells,hf⟩:=j.op i hi;have Y:i<arr.size:=by rw[lz];exact(ax.1 hf.ho).1
 have hz:=hf.zero;unfold zeroCells at hz;obtain⟨z,A,rfl⟩:=va.1 hz;obtain⟨inf,C,D⟩:=xt.1 A;unfold wpOp;simp only[hf.ho];have hw:Region.wanted o (yielded ops (act T).tmps)=true:=by unfold Region.wanted;rw[hf.guard]
 rw[hw];simp only[JS];refine .inl ?_;unfold Oper.wp;have N:(execOp (act T).eval o).run c.P wa= .ok (.value (.pointer (some ⟨wa.heap.size,0,none⟩))) (wa.alloc (.cells z.cells t)):=by
  simp[execOp,hf.op,Instr.alloc,zeroValue,typeInfo,program,Sem.run_bind,Sem.run,C,D,newVar,newRow,newObj]
 rw[N];have K:=inv.size;have hl:=hf.lt;have r:∀k,k<wa.heap.size->(wa.alloc (.cells z.cells t)).heap[k]? =wa.heap[k]? :=fun k l=>Below.heap_alloc wa _ _ l
 have O:(wa.alloc (.cells z.cells t)).heap[wa.heap.size]? =some (.cells z.cells t):=by
  show(wa.heap.push _)[wa.heap.size]? =_;simp
 have E:st.d≠none:=j.d (fun e=>by rw[e]at hi;cases hi);have F:c.B<=wa.heap.size:=ec inv.lo inv.yu.below.size;have n:∀m x,bC st.boxes m=some x->b m<wa.heap.size:=fun m x hm=>(ax.1 (inv.box.at_ m x hm).2).1
 have ea:(act T).put o.dst (.pointer (some ⟨wa.heap.size,0,none⟩))=act (T.setIfInBounds (eY ops i) (.pointer (some ⟨wa.heap.size,0,none⟩))):=by rw[hf.dst];rfl
 show w ((act T).put o.dst (.pointer (some ⟨wa.heap.size,0,none⟩))) (wa.alloc (.cells z.cells t));rw[ea];refine hn (fun x=>if x=i then wa.heap.size else a x) _ _ r ?_ ?_
 ·refine⟨by simp[K],fun s x hs=> ?_,⟨fun m x hm=> ?_,inv.box.ne⟩,inv.lo,?_,inv.new,inv.base.alloc F _⟩
  ·have R:eY ops i≠s:=fun e=>by rw[<-e,j.env i hi]at hs;cases hs
   rw[Hm R];exact inv.env s x hs
  ·have:=inv.box.at_ m x hm;refine⟨this.1,?_⟩;rw[r _ (n m x hm)];exact this.2
  ·have hx:=inv.ext;cases L:st.d with
   |none=>exact absurd L E
   |some ts=>
    rw[L]at hx;simp only at hx⊢;refine⟨hx.below.alloc F _,fun k l=> ?_⟩;rw[r k (uB l hx.below.size)];exact hx.other k l
 ·have hold:∀g∈fl,g≠i->(arr.setIfInBounds i true).getD g true=true->Rf c ops b st T wa g (a g):=fun g hg h hx=>j.at_ g hg (by rw[getD_set_ne true (ub h)]at hx;exact hx)
  have G:∀g∈fl,g≠i->(arr.setIfInBounds i true).getD g true=true->a g<wa.heap.size:=fun g hg h hx=>by
   obtain⟨o',t',H,I⟩:=j.op g hg;exact(ax.1 ((hold g hg h hx).heap o' t' H I)).1
  refine⟨j.op,j.nodup,j.env,fun g hg hx=> ?_,fun f q g hg h hx hy=> ?_,j.d⟩
  ·by_cases e:g=i
   ·subst e;rw[bm rfl];refine⟨by rw[Oz (by rw[K];exact hl)],F,fun o' t' H l=> ?_,fun m x hm=>Nat.ne_of_lt (n m x hm)⟩;obtain⟨_,S,U⟩:=hf.uniq l;subst S;rw[O,<-U]
   ·rw[aq e];obtain⟨o',t',H,I⟩:=j.op g hg;have l:=hold g hg e hx;refine⟨?_,l.lo,fun V t2 c2 W=> ?_,l.ne⟩
    ·rw[Hm (hf.inj I (ub e))];exact l.tmp
    ·rw[r _ (G g hg e hx)];exact l.heap V t2 c2 W
  ·by_cases e:f=i
   ·rw[bm e];have:g≠i:=fun k=>h (e.trans k.symm)
    rw[aq this];exact(Nat.ne_of_lt (G g hg this hy)).symm
   ·rw[aq e];by_cases J:g=i
    ·rw[bm J];exact Nat.ne_of_lt (G f q e hx)
    ·rw[aq J];exact j.ne f q g hg h (by rw[getD_set_ne true (ub e)]at hx;exact hx) (by rw[getD_set_ne true (ub J)]at hy;exact hy)

theorem CE{ops:Array Oper}:∀(fl:List Nat)(st:St),(clean ops fl st).boxes=st.boxes/\(clean ops fl st).w=st.w/\(clean ops fl st).d=st.d/\(∀f∈fl,get (clean ops fl st).env (eY ops f)=none)/\∀s x,get (clean ops fl st).env s=some x->get st.env s=some x:=by
 intro fl;induction fl with
 |nil=>intro st;exact⟨rfl,rfl,rfl,fun f hf=>(by cases hf),fun s x h=>h⟩
 |cons f r ih=>
  intro st;obtain⟨h1,b,e,i,a⟩:=ih {st with env:=drop st.env (eY ops f)};rw[clean];refine⟨h1,b,e,fun g hg=> ?_,fun s x hs=> ?_⟩
  ·rcases cb.1 hg with rfl|hg
   ·cases hx:get (clean ops r {st with env:=drop st.env (eY ops g)}).env (eY ops g)with
    |none=>rfl
    |some y=>
     have:=a _ _ hx;simp only[qg,JS]at this;cases this
   ·exact i g hg
  ·have:=a s x hs;simp only[qg]at this;split at this
   ·cases this
   ·exact this
theorem Ot{b:Nat->Nat}{st:St}{T:Array Value}{wa:World}{ops:Array Oper}(inv:Inv c b st T wa)(fl:List Nat):Inv c b (clean ops fl st) T wa:=by
 obtain⟨h1,a,d,_,e⟩:=CE (ops:=ops) fl st;exact⟨inv.size,fun s x hs=>inv.env s x (e s x hs),by rw[h1];exact inv.box,by rw[a];exact inv.lo,by rw[a,d];exact inv.ext,by rw[h1,a];exact inv.new,inv.base⟩
theorem Ou{b:Nat->Nat}{st:St}{T:Array Value}{wa:World}(inv:Inv c b st T wa):Inv c b st.wZ T wa:=
 ⟨inv.size,inv.env,inv.box,inv.lo,inv.yu,inv.new,inv.base⟩
theorem zG{b:Nat->Nat}{st:St}{T:Array Value}{wa:World}{ops:Array Oper}(inv:Inv c b st T wa)(fl:List Nat):
  Inv c b (tidy ops fl st) T wa/\(tidy ops fl st).boxes=st.boxes/\(∀f∈fl,get (tidy ops fl st).env (eY ops f)=none)/\(fl≠[]->(tidy ops fl st).d≠none):=by
 cases fl with
 |nil=>exact⟨inv,rfl,fun f hf=>(by cases hf),fun h=>absurd rfl h⟩
 |cons f r=>
  obtain⟨h1,_,_,a,_⟩:=CE (ops:=ops) (f::r) st;exact⟨Ou (Ot inv _),h1,a,fun _ k=>by cases k⟩
theorem Fi.again{b:Nat->Nat}{st h:St}{T l:Array Value}{wa:World}{ops:Array Oper}{arr e:Array Bool}{fl:List Nat}{a:Nat->Nat}(i:Fi c ops b st T wa arr fl a)(n:∀f∈fl,l[eY ops f]? =T[eY ops f]?)(o:h.boxes=st.boxes)
  (q:∀f∈fl,get h.env (eY ops f)=none) (r:fl≠[]->h.d≠none) (j:∀f∈fl,e.getD f true=arr.getD f true):Fi c ops b h l wa e fl a:=by
 refine⟨i.op,i.nodup,q,fun f hf hx=> ?_,fun f hf g hg k hx hy=>i.ne f hf g hg k (by rw[<-j f hf];exact hx) (by rw[<-j g hg];exact hy),r⟩;have:=i.at_ f hf (by rw[<-j f hf];exact hx);exact⟨by rw[n f hf];exact this.tmp,this.lo,this.heap,fun m x hm=>this.ne m x (by rw[<-o];exact hm)⟩
theorem CF{arr:Array Bool}{j:Nat}(h:arr.getD j false=true):arr.getD j true=true:=by
 rcases MB j arr.size with k|k
 ·simp[k]at h⊢;exact h
 ·simp[xO k]at h

theorem CG{G:Nat}{ops:Array Oper}{Q:Exit->Act->World->Prop}{K:St->Prop}{lw:Option World}{hold:List Nat}{b0:Nat->Nat}{H:St}
  (hq:∀b st X w',K st->Inv c b st X w'->Q .normal (act X) w') (hQ:∀ch a w,¬Q (.panic ch) a w)
  (sH:∀(j:Nat) o cs q,ops[j]? =some o->o.op≠ .select cs q) (Fg:∀(j:Nat) o,ops[j]? =some o->∀e∈o.after,Region.binds .any e=true->e.on<ops.size)
  (fS:∀l∈hold,∀(j:Nat) o,ops[j]? =some o->ux o=true->o.dst≠some l):
  ∀(m n k:Nat)(listed fl:List Nat)(arr:Array Bool)(a b:Nat->Nat)(st:St)(T:Array Value)(w:World),n+k=m->n=k+oM arr fl->aiB ops listed fl arr->Inv c b st T w->Fi c ops b st T w arr fl a->
   Still c G ops b0 H lw hold listed b st w->jN c G ops lw hold k listed fl st K->xG c.P ops Q (nI b0 H lw hold) (quietAt c G ops) n arr (act T) w:=by
 intro m;induction m using Nat.strongRecOn with
 |ind m ih=>
 intro n k listed fl arr a b st T w hm hn d inv B xF h;have adN:∀f∈fl,f<ops.size:=fun f hf=>by
  obtain⟨o,t,cells,ho⟩:=B.op f hf;exact(ax.1 ho.ho).1
 have Rj:(∀f∈fl,arr.getD f true=true)->tz c ops fl st K->Q .normal (act T) w:=fun D hl=>by
  obtain⟨U,M,O,R,_⟩:=xh fl b st inv B.nodup B.op (fun f hf=>B.at_ f hf (D f hf)) (fun f hf g hg C=>B.ne f hf g hg C (D f hf) (D g hg)) hl;exact hq _ _ _ _ O R
 have Yn:Region.ready .any ops arr=[]->∀f∈fl,arr.getD f true=true:=fun V f hf=>by
  obtain⟨o,t,cells,ho⟩:=B.op f hf;cases hx:arr.getD f true with
  |true=>rfl
  |false=>
   have:f∈Region.ready .any ops arr:=mem_ready.2 ⟨hx,o,ho.ho,fun e he hb=>by rw[ho.free e he]at hb;cases hb⟩;rw[V]at this;cases this
 have ZZ:∀i∈Region.ready .any ops arr,i∉fl->i∈gF (pK fl listed) 0 ops.toList/\∀o,ops[i]? =some o->∀f∈waited o true fl,arr.getD f true=true:=fun i hi E=>by
  obtain⟨h0,o,ho,D⟩:=mem_ready.1 hi;have bK:=(ax.1 ho).1;refine⟨(tI Fg _ _).2 ⟨?_,o,ho,fun e he hb=> ?_⟩,fun o' BX f hf=> ?_⟩
  ·cases hx:mv i (pK fl listed)with
   |false=>rfl
   |true=>
    rcases mB.1 hx with k|k
    ·exact absurd k E
    ·have:=d.Ym i bK k;rw[h0]at this;cases this
  ·exact mB.2 ((d.arr e.on (Fg i o ho e he hb) (CF (D e he hb))).symm)
  ·rw[ho]at BX;cases BX;obtain⟨_,hw⟩:=ia.1 hf;obtain⟨e,he,hb,rfl⟩:=Ga.1 hw;exact CF (D e he hb)
 have Rk:∀n',n=n'+1->∀i∈Region.ready .any ops arr,i∈fl->wpOp c.P ops Q i (fun a' w'=>(quietAt c G ops i=true->nI b0 H lw hold w->nI b0 H lw hold w')/\xG c.P ops Q (nI b0 H lw hold) (quietAt c G ops) n' (arr.setIfInBounds i true) a' w') (act T) w:=fun n' hn' i hi E=>by
  have h0:=(mem_ready.1 hi).1;have bK:i<arr.size:=by rw[d.size];exact adN i E
  refine Lw d.size E h0 inv B fun a' X w' gV R fi'=>⟨fun _ I=>I.ar gV,?_⟩
  have hu:=Rg bK h0 B.nodup E;refine ih (n'+k) om n' k listed fl _ a' b st X w' rfl om ⟨by simp[d.size],fun j hj hx=> ?_,fun j hj hx=> ?_,d.dis⟩ R fi' (fun D=> ?_) h
  ·by_cases e:i=j
   ·subst e;simp[bK]
   ·rw[getD_set_ne true e];exact d.Ym j hj hx
  ·by_cases e:i=j
   ·subst e;exact .inr E
   ·rw[getD_set_ne true e]at hx;exact d.arr j hj hx
  ·obtain⟨I,hB⟩:=xF D;exact⟨I.ar gV,hB⟩
 cases k with
 |zero=>
  simp only[jN]at h;cases he:gF (pK fl listed) 0 ops.toList with
  |cons x r=>simp[he]at h
  |nil=>
   rw[he]at h;cases n with
   |zero=>
    have D:=Oo.1 (by omega:oM arr fl=0);refine⟨Ib.2 fun i hi=> ?_,Rj D h⟩;by_cases E:i∈fl
    ·have:=(mem_ready.1 hi).1;rw[D i E]at this;cases this
    ·have:=(ZZ i hi E).1;rw[he]at this;cases this
   |succ n'=>
    refine⟨fun V=>Rj (Yn V) h,fun i hi=> ?_⟩;by_cases E:i∈fl
    ·exact Rk n' rfl i hi E
    ·have:=(ZZ i hi E).1;rw[he]at this;cases this
 |succ k=>
  simp only[jN]at h;cases Ig:zx c G ops fl (gF listed 0 ops.toList)with
  |some f=>
   simp only[Ig]at h;obtain⟨hfm,A,hfs⟩:=IC Ig;obtain⟨o,t,cells,gG,_⟩:=On hfs;obtain⟨adO,_⟩:=(tI Fg _ _).1 hfm;have aiD:=(ax.1 gG.ho).1;have Y:arr.getD f true=false:=by
    cases hx:arr.getD f true with
    |false=>rfl
    |true=>
     rcases d.arr f aiD hx with k|k
     ·rw[adO]at k;cases k
     ·exact absurd k A
   obtain⟨t1,t2,t3,t4⟩:=zG (ops:=ops) inv (f::fl);refine ih (n+k) om n k listed (f::fl) arr a b _ T w rfl (by rw[oM,aq (by simp[Y])];omega) ⟨d.size,d.Ym,fun j hj hx=>(d.arr j hj hx).imp id fun h=>by simp[h],fun g hg=> ?_⟩ t1
    ⟨fun g hg=> ?_,KJ.2 ⟨A,B.nodup⟩,t3,fun g hg hx=> ?_,fun g hg g' Gb C hx hy=> ?_,t4⟩ (fun D=> ?_) h
   ·rcases cb.1 hg with rfl|hg
    ·exact adO
    ·exact d.dis g hg
   ·rcases cb.1 hg with rfl|hg
    ·exact⟨o,t,cells,gG⟩
    ·exact B.op g hg
   ·rcases cb.1 hg with rfl|hg
    ·rw[Y]at hx;cases hx
    ·have:=B.at_ g hg hx;exact⟨this.tmp,this.lo,this.heap,fun m x hm=>this.ne m x (by rw[<-t2];exact hm)⟩
   ·rcases cb.1 hg with rfl|hg
    ·rw[Y]at hx;cases hx
    ·rcases cb.1 Gb with rfl|Gb
     ·rw[Y]at hy;cases hy
     ·exact B.ne g hg g' Gb C hx hy
   ·obtain⟨I,hB⟩:=xF D;rw[t2];exact⟨I,hB⟩
  |none=>
   simp only[Ig]at h;obtain⟨n',rfl⟩:∃n',n=n'+1:=⟨k+oM arr fl,om⟩
   cases hf:lY c G ops listed (gF listed 0 ops.toList)with
   |some i=>
    simp only[hf]at h;obtain⟨zE,o,hi,F9,hmf⟩:=uV hf;have IB:ops.toList[i]? =some o:=by simpa using hi
    simp only[IB]at h;obtain⟨aaa,o',BX,adP⟩:=(tI Fg _ _).1 zE;rw[hi]at BX;cases BX;have W:i<ops.size:=(ax.1 hi).1;have E:i∉fl:=fun k=>by
     obtain⟨Z,t2,c2,F⟩:=B.op i k;have:=hi.symm.trans F.ho;cases this;unfold early at F9;rw[F.op]at F9;cases F9
    have Y:arr.getD i true=false:=by
     cases hx:arr.getD i true with
     |false=>rfl
     |true=>
      rcases d.arr i W hx with k|k
      ·rw[aaa]at k;cases k
      ·exact absurd k E
    have tG:i∈Region.ready .any ops arr:=mem_ready.2 ⟨Y,o,hi,fun e he hb=>by
     have h1:=Fg i o hi e he hb;have F:=d.Ym e.on h1 (adP e he hb);have h3:e.on<arr.size:=by rw[d.size];exact h1
     simp[h3]at F⊢;exact F⟩
    obtain⟨M,h,R,zl⟩:=oG inv h;have CA:=fun j S (hj:ops[j]? =some S) (C:j≠i)=>xf ops.toList 0 hmf j S (by simpa using hj) om
    simp only[mC]at CA;obtain⟨AI,ZY⟩:=Cz (ops:=ops) (listed:=listed) (i:=i) ops.toList 0 [] (fun k=>by simp) (fun j S _ hj=>by cases hj) (fun j hj=>by cases hj);have Iz:∀j,mv j (sE listed i 0 ops.toList [])=true->arr.getD j false=false:=fun j hj=>by
     by_cases oH:j<ops.size
     ·cases hx:arr.getD j false with
      |false=>rfl
      |true=>
       rcases d.arr j oH (CF hx)with k|k
       ·rw[ZY j hj]at k;cases k
       ·obtain⟨Z,t2,c2,F⟩:=B.op j k;obtain⟨e,he,hb,_⟩:=AI j Z F.ho hj;rw[F.free e he]at hb;cases hb
     ·rw[VG,xO (by rw[d.size];omega)];rfl
    have AJ:∀j S,ops[j]? =some S->j≠i->arr.getD j true=false->¬mv j (sE listed i 0 ops.toList [])=true->
      o.apart ops S=true/\∀w w',(quietAt c G ops j=true->nI b0 H lw hold w->nI b0 H lw hold w')->(jM o=true->nI b0 H lw hold w)->(jM o=true->nI b0 H lw hold w'):=by
     intro j S hj C Y J;have hs:=CA j S hj C;have oH:j<ops.size:=(ax.1 hj).1;have BY:mv j listed=false:=by
      cases hx:mv j listed with
      |false=>rfl
      |true=>have:=d.Ym j oH hx;rw[Y]at this;cases this
     split at hs
     ·exact absurd hs.2 J
     ·rename_i e;rw[BY]at hs;refine⟨(hs.resolve_left sm).resolve_left J,fun w w' hk I hl=> ?_⟩;have:quietAt c G ops j=true:=by
       unfold quietAt;rw[hj];simp only;rw[hl]at e;simpa using e
      exact hk this (I hl)
    have CB:jM o=true->nI b0 H lw hold w/\∀l∈hold,b l=b0 l/\∀N,bC st.boxes l=some N->∃x,bC H.boxes l=some x/\x.cells=N.cells/\x.ty=N.ty:=fun hl=>xF fun j hj=>by
     unfold quietAt;split
     ·rename_i S UD;by_cases C:j=i
      ·subst C;rw[cX.2 hj]at aaa;cases aaa
      ·have hs:=CA j S UD C;cases Yk:jH (gi c.mode G j) S with
       |true=>rfl
       |false=>
        rw[hl,Yk]at hs;simp only[VT,Bool.and_self]at hs;rw[cX.2 hj]at hs;cases hs.1
     ·rfl
    have aab:∀f∈fl,o.dst≠some (eY ops f):=fun f A=>by
     obtain⟨Z,t2,c2,F⟩:=B.op f A;exact F.other i o hi fun e=>E (e▸A)
    have zH:∀f∈fl,(arr.setIfInBounds i true).getD f true=arr.getD f true:=fun f A=>getD_set_ne true fun e=>E (e▸A)
    have next:∀(jP:St)(v:Value),jP.boxes=M.boxes->Inv c b jP ((act T).put o.dst v).tmps w->jN c G ops lw hold k (i::listed) fl (tidy ops fl jP) K->
      xG c.P ops Q (nI b0 H lw hold) (quietAt c G ops) n' (arr.setIfInBounds i true) (act ((act T).put o.dst v).tmps) w:=fun jP v hb mA O=>by
     obtain⟨t1,t2,t3,t4⟩:=zG (ops:=ops) mA fl;refine ih (n'+k) om n' k (i::listed) fl _ a b _ _ w rfl (by rw[CD zH];omega) ⟨by simp[d.size],fun j hj hx=> ?_,fun j hj hx=> ?_,fun f A=> ?_⟩ t1
      (B.again (fun f A=>zF (aab f A)) (t2.trans (hb.trans zl)) t3 t4 zH) (fun D=> ?_) O
     ·by_cases e:i=j
      ·subst e;simp[d.size,W]
      ·rw[getD_set_ne true e];rcases cb.1 (cX.1 hx)with k|k
       ·exact absurd k.symm e
       ·exact d.Ym j hj (cX.2 k)
     ·by_cases e:i=j
      ·subst e;exact .inl (cX.2 sm)
      ·rw[getD_set_ne true e]at hx;exact(d.arr j hj hx).imp (fun h=>cX.2 (by simp[cX.1 h])) id
     ·cases hx:mv f (i::listed)with
      |false=>rfl
      |true=>
       rcases cb.1 (cX.1 hx)with k|k
       ·exact absurd (k▸A) E
       ·have:=d.dis f A;rw[cX.2 k]at this;cases this
     ·rw[t2,hb,zl];exact xF fun j hj=>D j (by simp[hj])
    have ey:yielded ops (act T).tmps=yielded ops T:=rfl;cases hw:Region.wanted o (yielded ops T)with
    |true=>
     rw[hw]at h;simp only at h;have hv:=rh (Ok:=fun w=>jM o=true->nI b0 H lw hold w) (lw:=lw) (hold:=some hold) (b:=b) (fun hl w1 dn=>by
      have hH:=dn hl;refine⟨fun l x hm hx=> ?_,fun v hv a u hu=>hH.2 v hv a u hu⟩;have xg:l∈hold:=cX.1 hm;rw[zl]at hx;obtain⟨e1,e2⟩:=(CB hl).2 l xg;obtain⟨y,hy,f1,f2⟩:=e2 x hx;rw[e1,<-f1,<-f2];exact hH.1 l xg y hy) R.env (fun cs q=>sH i o cs q hi) h
     obtain⟨x,hp,fm⟩:=hv;obtain⟨jP,O,mA,e,hb⟩:=lZ R (v:=x.den b) rfl hp;refine xG.first (S':=fun w=>jM o=true->nI b0 H lw hold w) hi sH (fun ch a w hp=>absurd hp (hQ _ _ _)) AI n' arr (act T) w AJ Iz tG (.inl ⟨by rw[ey];exact hw,fun w1 dn=>fm w1 dn⟩) (fun hl=>(CB hl).1) ?_;rw[e];exact next jP _ hb mA O
    |false=>
     rw[hw]at h;simp only at h;obtain⟨jP,O,mA,e,hb⟩:=lZ R (v:=undef) rfl h;refine xG.first (S':=fun w=>jM o=true->nI b0 H lw hold w) hi sH (fun ch a w hp=>absurd hp (hQ _ _ _)) AI n' arr (act T) w AJ Iz tG (.inr ⟨by rw[ey];exact hw,rfl⟩) (fun hl=>(CB hl).1) ?_;rw[e];exact next jP _ hb mA O
   |none=>
    simp only[hf]at h;refine⟨fun V=> ?_,fun i hi=> ?_⟩
    ·have D:=Yn V;have he:gF (pK fl listed) 0 ops.toList=[]:=Ib.2 fun j hj=>by
      obtain⟨j0,o,ho,hw⟩:=(tI Fg _ _).1 hj;have oH:=(ax.1 ho).1;have:j∈Region.ready .any ops arr:=mem_ready.2 ⟨?_,o,ho,fun e he hb=> ?_⟩
      ·rw[V]at this;cases this
      ·cases hx:arr.getD j true with
       |false=>rfl
       |true=>
        have:=mB.2 ((d.arr j oH hx).symm);rw[j0]at this;cases this
      ·have h1:=Fg j o ho e he hb;have F:arr.getD e.on true=true:=by
        rcases mB.1 (hw e he hb)with k|k
        ·exact D _ k
        ·exact d.Ym _ h1 k
       have h3:e.on<arr.size:=by rw[d.size];exact h1
       simp[h3]at F⊢;exact F
     rw[he]at h;exact Rj D h
    ·by_cases E:i∈fl
     ·exact Rk n' rfl i hi E
     ·obtain⟨zE,Ve⟩:=ZZ i hi E;have h:=Fh h (fun e=>by rw[e]at zE;cases zE) i zE;obtain⟨h00,o,ho,alZ⟩:=mem_ready.1 hi;have BX:ops.toList[i]? =some o:=by simpa using ho
      have W:i<ops.size:=(ax.1 ho).1;simp only[BX]at h;have lA:=fun f (A:f∈waited o true fl)=>(ia.1 A).1
      have Ve:=Ve o ho;obtain⟨b1,st1,h,inv1,e1,e2,e3,e4⟩:=xh (waited o true fl) b st inv (yx B.nodup) (fun f A=>B.op f (lA f A)) (fun f A=>B.at_ f (lA f A) (Ve f A)) (fun f A g hg C=>B.ne f (lA f A) g (lA g hg) C (Ve f A) (Ve g hg)) h;have hnl:∀l∈hold,∀f∈waited o true fl,l≠eY ops f:=fun l hl f A e=>by
       obtain⟨Z,t2,c2,F⟩:=B.op f (lA f A);exact fS l hl f Z F.ho (by unfold ux;rw[F.op]) (by rw[F.dst,e])
      have aiE:(∀j∈listed,quietAt c G ops j=true)->nI b0 H lw hold w/\∀l∈hold,b1 l=b0 l/\∀N,bC st1.boxes l=some N->∃x,bC H.boxes l=some x/\x.cells=N.cells/\x.ty=N.ty:=fun D=>by
       obtain⟨I,hB⟩:=xF D;refine⟨I,fun l hl=> ?_⟩;obtain⟨g1,g2⟩:=hB l hl;refine⟨(e1 l (hnl l hl)).trans g1,fun N Fe=> ?_⟩;rcases e2 l N Fe with⟨f,A,k1,_⟩|⟨k1,_⟩
       ·exact absurd k1 (hnl l hl f A)
       ·exact g2 N k1
      have UE:quietAt c G ops i=jH (gi c.mode G i) o:=by unfold quietAt;rw[ho]
      have Rl:∀(M KK:St)(U:Nat->Nat)(w':World),(jH (gi c.mode G i) o=true->Kept o b1 st1 w U M w')->KK.boxes=M.boxes->Still c G ops b0 H lw hold (i::pK (waited o true fl) listed) U KK w':=fun M KK U w' uW zl D=>by
       obtain⟨k1,k2,k3⟩:=uW (by rw[<-UE];exact D i sm);obtain⟨I,hB⟩:=aiE fun j hj=>D j (cb.2 (.inr (cX.1 (mB.2 (.inr (cX.2 hj))))))
       refine⟨I.ar k2,fun l hl=> ?_⟩;obtain⟨q1,q2⟩:=k3 l (fun hn=>fS l hl i o ho hn);obtain⟨g1,g2⟩:=hB l hl;refine⟨q1.trans g1,fun N Fe=> ?_⟩;rw[zl]at Fe;obtain⟨y,hy,f1,f2⟩:=q2 N Fe;obtain⟨z,hz,h1,F⟩:=g2 y hy;exact⟨z,hz,h1.trans f1,F.trans f2⟩
      have adR:∀j,j<ops.size->mv j (i::pK (waited o true fl) listed)=true->(arr.setIfInBounds i true).getD j true=true:=fun j hj hx=>by
       by_cases e:i=j
       ·subst e;simp[d.size,W]
       ·rw[getD_set_ne true e];rcases cb.1 (cX.1 hx)with k|k
        ·exact absurd k.symm e
        ·rcases mB.1 (cX.2 k)with k|k
         ·exact Ve j k
         ·exact d.Ym j hj k
      have Oq:∀j,j<ops.size->(arr.setIfInBounds i true).getD j true=true->mv j (i::pK (waited o true fl) listed)=true∨j∈waited o false fl:=fun j hj hx=>by
       by_cases e:i=j
       ·subst e;exact .inl (cX.2 sm)
       ·rw[getD_set_ne true e]at hx;rcases d.arr j hj hx with k|k
        ·exact .inl (cX.2 (cb.2 (.inr (cX.1 (mB.2 (.inr k))))))
        ·cases hwj:my o j with
         |true=>exact .inl (cX.2 (cb.2 (.inr (cX.1 (mB.2 (.inl (ia.2 ⟨k,hwj⟩)))))))
         |false=>exact .inr (ia.2 ⟨k,hwj⟩)
      have Rn:=ID (arr:=arr) (o:=o) Ve;have J:∀f∈waited o false fl,f∈fl:=fun f A=>(ia.1 A).1
      have zH:∀f∈waited o false fl,(arr.setIfInBounds i true).getD f true=arr.getD f true:=fun f A=>getD_set_ne true fun e=>E (e▸J f A)
      cases V:waited o false fl with
      |nil=>
       rw[V]at h Oq Rn;refine uU (fun cs q=>sH i o cs q ho) inv1 h ho fun U M X w' O R uW=>⟨fun Yk I=>I.ar (uW (by rw[<-UE];exact Yk)).2.1,?_⟩
       exact ih (n'+k) om n' k _ [] _ a U M X w' rfl (by rw[<-Rn]at hn;simp only[oM]at hn⊢;omega) ⟨by simp[d.size],adR,Oq,fun f A=>by cases A⟩ R
        ⟨fun f A=>(by cases A),Zy,fun f A=>(by cases A),fun f A=>(by cases A),fun f A=>(by cases A),fun h=>absurd rfl h⟩ (Rl M M U w' uW rfl) O
      |cons g r=>
       rw[V]at h;simp only at h;cases L:jH (gi c.mode G i) o&& !ux o with
       |false=>rw[L]at h;exact h.elim
       |true=>
        rw[L]at h;simp only[de,MA]at L;simp only at h;rw[<-V]at h;refine Gc (fun cs q=>sH i o cs q ho) inv1 h ho fun U M X w' O R uW hT=>⟨fun Yk I=>I.ar (uW L.1).2.1,?_⟩
        obtain⟨k1,k2,k3⟩:=uW L.1;obtain⟨t1,t2,t3,t4⟩:=zG (ops:=ops) R (waited o false fl);have aab:∀f∈waited o false fl,o.dst≠some (eY ops f):=fun f A=>by
         obtain⟨Z,t2,c2,F⟩:=B.op f (J f A);exact F.other i o ho fun e=>E (e▸J f A)
        refine ih (n'+k) om n' k _ (waited o false fl) _ a U _ X w' rfl (by rw[CD zH];omega) ⟨by simp[d.size],adR,Oq,fun f A=> ?_⟩ t1
         ⟨fun f A=>B.op f (J f A),yx B.nodup,t3,fun f A hx=> ?_,fun f A g' Gb C hx hy=>B.ne f (J f A) g' (J g' Gb) C (by rw[<-zH f A];exact hx) (by rw[<-zH g' Gb];exact hy),t4⟩ (Rl M _ U w' uW t2) O
        ·cases hx:mv f (i::pK (waited o true fl) listed)with
         |false=>rfl
         |true=>
          rcases cb.1 (cX.1 hx)with k|k
          ·exact absurd (k▸J f A) E
          ·rcases mB.1 (cX.2 k)with k|k
           ·have h1:=(ia.1 k).2;rw[(ia.1 A).2]at h1;cases h1
           ·have:=d.dis f (J f A);rw[k]at this;cases this
        ·rw[zH f A]at hx;have BB:=B.at_ f (J f A) hx;obtain⟨Z,tt2,c2,F⟩:=B.op f (J f A);have Rh:a f<w.heap.size:=(ax.1 (BB.heap Z tt2 c2 F)).1;refine⟨by rw[hT _ (aab f A)];exact BB.tmp,BB.lo,fun o3 t3 c3 h3=>by rw[k2 _ Rh];exact BB.heap o3 t3 c3 h3,fun m x hm=> ?_⟩;rw[t2]at hm;obtain⟨q1,q2⟩:=k3 m (fun hn=>by rw[L.2]at hn;cases hn);obtain⟨y,hy,_⟩:=q2 x hm;rw[q1];rcases e2 m y hy with⟨f',aad,k4,k5⟩|⟨k4,k5⟩
         ·rw[k5];refine B.ne f' (lA f' aad) f (J f A) (fun e=> ?_) (Ve f' aad) hx;have h1:=(ia.1 aad).2;rw[e,(ia.1 A).2]at h1;cases h1
         ·rw[k5];exact BB.ne m y k4
end
section
variable {c:Cx}

theorem uX{ops:List Oper}(h:nG ops=true):∀o∈ops,∀cs q,o.op≠ .select cs q:=by
 induction ops with
 |nil=>intro o ho;cases ho
 |cons x r ih=>
  intro o ho cs q e;simp only[nG]at h;rcases cb.1 ho with rfl|ho
  ·rw[e]at h;simp at h
  ·split at h
   ·cases h
   ·exact ih h o ho cs q e

theorem Gd{n:Nat}{ops:List Oper}(h:yp n ops=true):∀o∈ops,∀e∈o.after,Region.binds .any e=true->e.on<n:=by
 induction ops with
 |nil=>intro o ho;cases ho
 |cons x r ih=>
  intro o ho e he hb;simp only[yp,de,gu]at h;rcases cb.1 ho with rfl|ho
  ·have:=h.1 e (by simpa using he);simpa[hb,YG]using this
  ·exact ih h.2 o ho e he hb

def Ro(c:Cx)(K:St->Prop):Exit->Act->World->Prop
 | .normal,a,w=>∃b st T,a=act T/\K st/\Inv c b st T w
 |_,_,_=>False

theorem Ge{n:Nat}{ops:Array Oper}{draw:Bool}{K:St->Prop}{b:Nat->Nat}{st:St}{T:Array Value}{wa:World}(hm:c.P.follows .mixedOrders=true)(inv:Inv c b st T wa)
  (h:region c n ops draw st K):(Code.region n ops draw).wp c.P (Ro c K) (act T) wa:=by
 unfold region at h;have E:∀b st A w',K st->Inv c b st A w'->Ro c K .normal (act A) w':=fun b st A w' h1 B=>⟨b,st,A,rfl,h1,B⟩
 cases draw with
 |false=>
  simp only at h;cases m:nG ops.toList with
  |false=>rw[m]at h;exact h.elim
  |true=>
   rw[m]at h;have C:∀(j:Nat) o cs q,ops[j]? =some o->o.op≠ .select cs q:=fun j o cs q ho=>uX m o (by simpa using LA ho) cs q
   refine wp_region ?_;have:=F8 (Q:=Ro c K) E C ops.toList 0 (fun k=>by simp) b st T wa inv h;rw[List.range_eq_range',<-ri];exact this
 |true=>
  simp only at h;cases m:nG ops.toList&&yp ops.toList.length ops.toList with
  |false=>rw[m]at h;exact h.elim
  |true=>
   rw[m]at h;simp only[de]at m;have C:∀(j:Nat) o cs q,ops[j]? =some o->o.op≠ .select cs q:=fun j o cs q ho=>uX m.1 o (by simpa using LA ho) cs q
   have F:∀(j:Nat) o,ops[j]? =some o->∀e∈o.after,Region.binds .any e=true->e.on<ops.size:=fun j o ho e he hb=>by
    have:=Gd m.2 o (by simpa using LA ho) e he hb;simpa using this
   have hex:∃g,Inv c b g T wa/\(match Nat.beq (gi c.mode n 9998) 8 with
     |true=>jN c n ops (match g.d with|none=>some g.w|some _=>none) (xE g ops) ops.toList.length [] [] g.wZ K
     |false=>re c n ops (match g.d with|none=>some g.w|some _=>none) (xE g ops) ops.toList.length [] g.wZ K):=by
    simp only at h;cases hb:Nat.beq (gi c.mode n 9999) 3 with
    |true=>
     rw[hb]at h;simp only[Iq]at h;obtain⟨g,h,i,_⟩:=dh inv h;exact⟨g,i,h⟩
    |false=>
     rw[hb]at h;exact⟨st,inv,h⟩
   obtain⟨g,i,h⟩:=hex;refine wp_region_any hm ?_;have r:Inv c b g.wZ T {wa with drawn:=wa.drawn+1}:=by
    refine⟨i.size,i.env,⟨i.box.at_,i.box.ne⟩,i.lo,?_,i.new,i.base.drew⟩;have:=i.yu;exact⟨this.below.drew,this.other⟩
   have G:∀l∈xE g ops,∀(j:Nat) o,ops[j]? =some o->ux o=true->o.dst≠some l:=fun l hl j o ho hn D=>by
    have h1:=Ep (ops:=ops.toList) (by simpa using LA ho) hn D;unfold xE at hl;have B:=(GR.1 hl).2;rw[cX.2 h1]at B;cases B
   have y:Rel ops [] (Array.replicate ops.size false):=⟨sm,fun j hj=>by simp[hj,mv]⟩;have H:Still c n ops b g (match g.d with|none=>some g.w|some _=>none) (xE g ops) [] b g.wZ {wa with drawn:=wa.drawn+1}:=fun _=>by
    refine⟨⟨fun l hl x hx=>(i.box.at_ l x hx).2,fun v z a u hu=> ?_⟩,fun l hl=>⟨rfl,fun x hx=>⟨x,hx,rfl,rfl⟩⟩⟩;have hx:=i.ext;cases D:g.d with
    |none=>rw[D]at z hx;simp only at z hx;cases z;rw[hx];exact hu
    |some ts=>rw[D]at z;cases z
   cases I:Nat.beq (gi c.mode n 9998) 8 with
   |false=>
    rw[I]at h;have:=Er (Q:=Ro c K) E (fun _ _ _ h=>h) C F G ops.toList.length [] (Array.replicate ops.size false) b g.wZ T {wa with drawn:=wa.drawn+1} y r H h;rw[ri]at this;exact this.wpAny
   |true=>
    rw[I]at h;have:=CG (Q:=Ro c K) E (fun _ _ _ h=>h) C F G _ ops.toList.length ops.toList.length [] [] (Array.replicate ops.size false) b b g.wZ T {wa with drawn:=wa.drawn+1} rfl rfl
     ⟨sm,fun j hj hx=>(by cases hx),fun j hj hx=>(by simp[hj]at hx),fun f hf=>(by cases hf)⟩ r ⟨fun f hf=>(by cases hf),Zy,fun f hf=>(by cases hf),fun f hf=>(by cases hf),fun f hf=>(by cases hf),fun h=>absurd rfl h⟩ H h
    rw[ri]at this;exact this.wpAny

def base(f:FuncId):Frame:={(default:Frame)with fn:=f,kind:= .normal}

theorem Pt.step{P:Program}{f:FuncId}{todo a:List Item}{T:Array Value}{w:World}{R:Ending->World->Prop}
  (hs:∀cs,step P (lone ((base f).at ⟨T,[]⟩ todo) cs w)= .next (lone ((base f).at ⟨T,[]⟩ a) cs w)) (h:Pt P f a T w R):Pt P f todo T w R:=fun cs=>by
 obtain⟨e,w',fr,h1,b,d,g⟩:=h cs;exact⟨e,w',fr,h1,.of_steps (.one (hs cs)) b,d,g⟩

theorem Pt.of_wp{P:Program}{f:FuncId}{i:Code}{k:List Item}{T:Array Value}{w:World}{R:Ending->World->Prop}{Q:Exit->Act->World->Prop}
  (h:i.wp P Q (act T) w) (j:∀e a w',Q e a w'->e= .normal/\∃b,a=act b/\Pt P f k b w' R):Pt P f (.code i::k) T w R:=fun cs=>by
 obtain⟨e,a,w',l,m⟩:=h (base f) k cs;obtain⟨rfl,b,rfl,d⟩:=j e a w' l;obtain⟨e,g,fr,h1,n,o,q⟩:=d cs;exact⟨e,g,fr,h1,.of_steps m n,o,q⟩

def mD(T:Array Value):ResultVar->Sem Value
 | .tmp t=>pure (T.getD t undef)
 | .cell a t=>do loadVar t (<-asAddr (T.getD a undef))

theorem Gf{b:Nat->Nat}{st:St}{T:Array Value}{wa:World}(inv:Inv c b st T wa):∀{l:List ResultVar} {vs:List Value},results c st l=some vs->
  l.length=vs.length/\∀(i:Nat) r v,l[i]? =some r->vs[i]? =some v->(mD T r).run c.P wa= .ok v wa:=by
 intro l;induction l with
 |nil=>intro vs h;simp only[results]at h;cases h;exact⟨rfl,fun i r v h=>by simp at h⟩
 |cons x r ih=>
  intro vs h;have fin:∀v ws,results c st r=some ws->vs=v::ws->(mD T x).run c.P wa= .ok v wa->(x::r).length=vs.length/\∀(i:Nat) y u,(x::r)[i]? =some y->vs[i]? =some u->(mD T y).run c.P wa= .ok u wa:=by
   intro v ws d e hx;obtain⟨h1,g⟩:=ih d;subst e;refine⟨by simp[h1],fun i y u hy hu=> ?_⟩;cases i with
   |zero=>simp at hy hu;subst hy;subst hu;exact hx
   |succ i=>exact g i y u (by simpa using hy) (by simpa using hu)
  cases x with
  |tmp t=>
   simp only[results]at h;cases hx:(get st.env t).bind SV.val with
   |none=>simp[hx]at h
   |some v=>
    cases d:results c st r with
    |none=>simp[hx,d]at h
    |some ws=>
     simp only[hx,d]at h;cases h;obtain⟨sv,h1,g⟩:=xt.1 hx;have:=inv.env t sv h1;exact fin _ _ d rfl (by simp[mD,this,rf g b])
  |cell a t=>
   simp only[results]at h;cases hx:get st.env a with
   |none=>simp[hx]at h
   |some sv=>
    cases d:results c st r with
    |none=>cases sv<;>simp[hx,d]at h
    |some ws=>
     rw[hx,d]at h;cases sv<;>try (simp at h;done)
     rename_i lb off;simp only at h;cases hb:wu c.P st.boxes t lb off with
     |none=>simp[hb]at h
     |some v=>
      simp only[hb]at h;cases h;have h1:=inv.env a _ hx;have g:=xa (b:=b) hb (fun x hx=>(inv.box.at_ lb x hx).2);exact fin _ _ d rfl (by simp[mD,Sem.run_bind,h1,SV.den,asAddr,g])

theorem Rr{P:Program}{α β:Type}(f:α->Sem β)(w:World):∀(l:List α)(vs:List β),l.length=vs.length->(∀(i:Nat) r v,l[i]? =some r->vs[i]? =some v->(f r).run P w= .ok v w)->
  (l.mapM f).run P w= .ok vs w:=by
 intro l;induction l with
 |nil=>intro vs hl _;cases vs with
  |nil=>rfl
  |cons v r=>simp at hl
 |cons x r ih=>
  intro vs hl h;cases vs with
  |nil=>simp at hl
  |cons v ws=>
   have a:=h 0 x v sm sm;have h1:=ih ws (by simpa using hl) (fun i b d e g=>h (i+1) b d (by simpa using e) (by simpa using g));simp[List.mapM_cons,Sem.run_bind,a,h1]

theorem Gg{b:Nat->Nat}{st:St}{T:Array Value}{wa:World}(inv:Inv c b st T wa)(hw:st.w=wa):∀{l:List ResultVar} {K:List Value->Prop},xD c st l K->
  ∃vs,K vs/\l.length=vs.length/\∀(i:Nat) r v,l[i]? =some r->vs[i]? =some v->(mD T r).run c.P wa= .ok v wa:=by
 intro l;induction l with
 |nil=>intro K h;exact⟨[],h,rfl,fun i r v h=>by simp at h⟩
 |cons x r ih=>
  intro K h;have fin:∀v,(xD c st r fun vs=>K (v::vs))->(mD T x).run c.P wa= .ok v wa->∃vs,K vs/\(x::r).length=vs.length/\∀(i:Nat) y u,(x::r)[i]? =some y->vs[i]? =some u->(mD T y).run c.P wa= .ok u wa:=by
   intro v j hx;obtain⟨vs,d,h1,e⟩:=ih j;refine⟨v::vs,d,by simp[h1],fun i y u hy hu=> ?_⟩;cases i with
   |zero=>simp at hy hu;subst hy;subst hu;exact hx
   |succ i=>exact e i y u (by simpa using hy) (by simpa using hu)
  cases x with
  |tmp t=>
   simp only[xD]at h;cases hx:(get st.env t).bind SV.val with
   |none=>rw[hx]at h;exact h.elim
   |some v=>
    rw[hx]at h;obtain⟨sv,h1,e⟩:=xt.1 hx;exact fin v h (by simp[mD,inv.env t sv h1,rf e b])
  |cell t ty=>
   simp only[xD]at h;split at h<;>try exact h.elim
   rename_i a ha;obtain⟨u,d,g⟩:=xb h;rw[hw]at g;exact fin u d (by simp[mD,Sem.run_bind,inv.env t _ ha,SV.den,asAddr,g wa fun _ _ h=>h])
theorem IF{b:Nat->Nat}{st:St}{T:Array Value}{wa:World}{fn:Func}(hf:c.P.funcs[c.f]? =some fn)(k:c.res=fn.results.toList)(inv:Inv c b st T wa)(h:leave c st):
  ∃v,(Go.results fn T).run c.P wa= .ok v wa/\c.R v wa:=by
 have fin:∀vs:List Value,c.res.length=vs.length->(∀(i:Nat) r v,c.res[i]? =some r->vs[i]? =some v->(mD T r).run c.P wa= .ok v wa)->(Go.results fn T).run c.P wa= .ok (FX vs) wa:=fun vs a h1=>by
  rw[k]at a h1;have l:=Rr (P:=c.P) (mD T) wa _ _ a h1;have m:(fn.results.mapM (mD T)).run c.P wa= .ok vs.toArray wa:=by
   rw[Array.mapM_eq_mapM_toList];simp[Sem.run_map,l]
  have n:Go.results fn T=(do let vs<-fn.results.mapM (mD T);pure (if h:vs.size=1 then vs[0]else .tuple vs)):=by
   unfold Go.results
   congr 2
  rw[n];simp only[Sem.run_bind,m,Result.andThen_ok,Sem.run_pure]
  congr 1
  cases vs with
  |nil=>rfl
  |cons v r=>cases r<;>simp[FX]
 unfold leave at h;cases e:results c st c.res with
 |none=>
  rw[e]at h;simp only at h;obtain⟨o,d,g,hw,_⟩:=dh inv h;obtain⟨vs,j,a,h1⟩:=Gg g hw d;rw[hw]at j;exact⟨_,fin vs a h1,j⟩
 |some vs=>
  rw[e]at h;simp only at h;obtain⟨a,h1⟩:=Gf inv e;obtain⟨o,d,g,hw,_⟩:=dh inv h;rw[hw]at d;exact⟨_,fin vs a h1,d⟩

theorem Pt.aae{P:Program}{f:FuncId}{todo a:List Item}{T:Array Value}{w:World}{R:Ending->World->Prop}(h:Pt P f todo T w R)
  (hs:∀cs,Go.step P (lone ((base f).at ⟨T,[]⟩ todo) cs w)= .next (lone ((base f).at ⟨T,[]⟩ a) cs w)) (i:∀e w',R e w'->∃v,e= .returned v):Pt P f a T w R:=fun cs=>by
 obtain⟨e,w',fr,h1,j,k,b⟩:=h cs;obtain⟨v,rfl⟩:=i e w' h1;refine⟨_,w',fr,h1,?_,k,b⟩;obtain⟨n,hn⟩:=j;cases n with
 |zero=>
  exfalso;simp only[runN]at hn;have l:lone ((base f).at ⟨T,[]⟩ todo) cs w=lone fr cs w':=by cases hn;rfl
  have o:=ca (fun m:Machine=>(m.gs[0]?).map (fun g=>g.frame.mode)) l;simp[lone,Frame.at,b.1]at o
 |succ n=>
  refine⟨n,?_⟩;simp only[runN]at hn;have d:=hs cs;unfold base at d;rw[d]at hn;exact hn

theorem CH{b:Nat->Nat}{env:Env}{T:Array Value}(he:qY b env T):∀{l:List Nat} {a:Env},restrict env l=some a->qY b a T:=by
 intro l;induction l with
 |nil=>intro a h;simp only[restrict]at h;cases h;intro s x hs;simp[get]at hs
 |cons s r ih=>
  intro a h;simp only[restrict]at h;cases hx:get env s with
  |none=>simp[hx]at h
  |some x=>
   cases d:restrict env r with
   |none=>simp[hx,d]at h
   |some l=>
    simp only[hx,d]at h;cases h;intro m y hy;rw[jo]at hy;split at hy
    ·rename_i e;simp only at e;subst e;cases hy;rw[he _ x hx];cases x<;>rfl
    ·exact ih d m y hy

theorem pk{a:List tt}:∀{l:List Nat} {bs':List tt},nF a l=some bs'->∀m x,bC bs' m=some x->x.new=false/\∃y,bC a m=some y/\y.cells=x.cells/\y.ty=x.ty:=by
 intro l;induction l with
 |nil=>intro bs' h;simp only[nF]at h;cases h;intro m x hm;simp[bC]at hm
 |cons s r ih=>
  intro bs' h;simp only[nF]at h;cases hx:bC a s with
  |none=>simp[hx]at h
  |some x=>
   cases b:nF a r with
   |none=>simp[hx,b]at h
   |some l=>
    simp only[hx,b]at h;cases h;intro m y hy;rw[cN]at hy;split at hy
    ·rename_i e;simp only at e;cases hy;rw[<-e,nH hx];exact⟨rfl,x,hx,rfl,rfl⟩
    ·exact ih b m y hy

theorem Ov{b:Nat->Nat}{st:St}{T:Array Value}{wa:World}(inv:Inv c b st T wa)(todo:List Item)(live:List Nat×List Nat)(h:cutAt c todo st live):Pt c.P c.f todo T wa (Out c.B c.w0 c.R):=by
 unfold cutAt at h;cases h1:restrict st.env live.1 with
 |none=>rw[h1]at h;exact h.elim
 |some env=>
  cases a:nF st.boxes live.2 with
  |none=>rw[h1,a]at h;exact h.elim
  |some boxes=>
   rw[h1,a]at h;simp only at h;obtain⟨D,h,i,hw,_⟩:=dh inv h;rw[hw]at h;have g:=i.lo;rw[hw]at g;have hB:uw b c.B boxes wa:=by
    refine⟨fun l x hx=> ?_,fun l m x y hx hy d=> ?_⟩
    ·obtain⟨_,y,hy,j,k⟩:=pk a l x hx;rw[<-j,<-k];exact inv.box.at_ l y hy
    ·obtain⟨_,n,o,_⟩:=pk a l x hx;obtain⟨_,q,r,_⟩:=pk a m y hy;exact inv.box.ne l m n q o r d
   have:=h b T inv.size (CH inv.env h1) hB g;intro cs;obtain⟨e,w',fr,⟨v,rfl,hb,w⟩,z,A,C⟩:=this cs;exact⟨_,w',fr,⟨v,rfl,inv.base.trans hb,w⟩,z,A,C⟩

theorem zJ{fn:Func}(hm:c.P.follows .mixedOrders=true)(hf:c.P.funcs[c.f]? =some fn)(g:c.res=fn.results.toList):
  ∀(n:Nat)(first:Bool)(todo:List Item)(b:Nat->Nat)(st:St)(T:Array Value)(wa:World),Inv c b st T wa->run c n first todo st->Pt c.P c.f todo T wa (Out c.B c.w0 c.R):=by
 intro n;induction n with
 |zero=>intro first todo b st T wa _ h;exact h.elim
 |succ n ih=>
  intro first todo b st T wa inv h
  have done:∀(todo:List Item),leave c st->(∀cs,Steps c.P (lone ((base c.f).at ⟨T,[]⟩ todo) cs wa) (lone {(base c.f).at ⟨T,[]⟩ todo with mode:= .returning} cs wa))->Pt c.P c.f todo T wa (Out c.B c.w0 c.R):=fun todo hl hs cs=>by
   obtain⟨v,i,j⟩:=IF hf g inv hl;exact⟨.returned v,wa,_,⟨v,rfl,inv.base,j⟩,hs cs,rfl,rfl,rfl,rfl,fn,hf,i⟩
  have cut:∀(todo:List Item) live,cutAt c todo st live->Pt c.P c.f todo T wa (Out c.B c.w0 c.R):=Ov inv
  cases todo with
  |nil=>exact done [] h fun cs=> .one step_end
  |cons it k=>
   cases it with
   |code l=>
    cases l<;>simp only[run]at h<;>try exact h.elim
    case skip=>exact .step (fun cs=>step_skip) (ih _ _ _ _ _ _ inv h)
    case ret=>exact done _ h fun cs=> .one step_ret
    case seq x y=>exact .step (fun cs=>step_seq) (ih _ _ _ _ _ _ inv h)
    case block id d=>exact .step (fun cs=>step_block) (ih _ _ _ _ _ _ inv h)
    case cond x y z=>
     obtain⟨v,m,hB⟩:=lH h;obtain⟨t,o,h⟩:=tA (b:=b) hB;have e:=cQ inv.env m;rw[o]at e;cases t
     ·exact .step (fun cs=>step_cond (t:=false) e) (ih _ _ _ _ _ _ inv h)
     ·exact .step (fun cs=>step_cond (t:=true) e) (ih _ _ _ _ _ _ inv h)
    case exit id=>
     split at h
     ·rename_i C q;exact .step (fun cs=>step_exit q) (ih _ _ _ _ _ _ inv h)
     ·exact h.elim
    case loop d=>
     split at h
     ·exact cut _ _ h
     ·exact .step (fun cs=>step_loop) (ih _ _ _ _ _ _ inv h)
    case region id ops draw=>
     split at h
     ·exact cut _ _ h
     ·refine .of_wp (Ge hm inv h) fun e a w' hp=> ?_
      cases e<;>try exact hp.elim
      obtain⟨D,E,r,rfl,w,A⟩:=hp;exact⟨rfl,r,rfl,ih _ _ _ _ _ _ A w⟩
   |inBlock id=>simp only[run]at h;exact .step (fun cs=>step_inBlock) (ih _ _ _ _ _ _ inv h)
   |inLoop d=>
    simp only[run]at h;split at h
    ·have h1:=cut _ _ h;refine .step (fun cs=>step_inLoop) (Pt.aae h1 (fun cs=>step_loop) fun e w' he=> ?_);obtain⟨v,rfl,_⟩:=he;exact⟨v,rfl⟩
    ·exact .step (fun cs=>step_inLoop) (ih _ _ _ _ _ _ inv h)
   |_=>exact h.elim

noncomputable def uY(fn:Func):Code:=fn.body.getD .skip

theorem CI:∀(vs:List Value)(i s:Nat)(x:SV),get (uS i vs) s=some x->∃v,x= .v v/\i<=s/\vs[s - i]? =some v:=by
 intro vs;induction vs with
 |nil=>intro i s x h;simp[uS,get]at h
 |cons v r ih=>
  intro i s x h;simp only[uS,jo]at h;split at h
  ·rename_i e;cases h;subst e;exact⟨v,rfl,ga _,sm⟩
  ·rename_i e;obtain⟨u,rfl,h1,a⟩:=ih (i+1) s x h;have:s - i=(s - (i+1))+1:=om;exact⟨u,rfl,om,by rw[this];simpa using a⟩

theorem Gh(c:Cx)(n:Nat){fn:Func}{vs:List Value}{args:Array Value}{w:World}(hm:c.P.follows .mixedOrders=true)(hf:c.P.funcs[c.f]? =some fn)(hb:fn.body.isSome=true)(A:c.N=fn.ntmps)
  (i:c.res=fn.results.toList) (hw:c.w0=w) (hB:c.B<=w.heap.size) (ha:args=vs.toArray) (hle:Nat.ble vs.length c.N=true)
  (h:run c n false [.code (uY fn)] ⟨uS 0 vs,[],w,none⟩):ba c.P c.f args c.B w c.R:=by
 have hle:=Ox hle;subst ha;have b:=zJ hm hf i n false _ (fun _=>0) _ (vs.toArray++Array.replicate (fn.ntmps - vs.length) undef) w (by
  refine⟨?_,fun s x hs=> ?_,⟨fun l x hx=> ?_,fun l m x y hx=> ?_⟩,?_,rfl,fun l x hx=> ?_,?_⟩
  ·simp;omega
  ·obtain⟨v,rfl,_,g⟩:=CI vs 0 s x hs;have d:s<vs.length:=by
    rcases MB s vs.length with h|h
    ·exact h
    ·simp[iw h]at g
   rw[Pv (by simpa using d)];simpa[SV.den]using g
  ·simp[bC]at hx
  ·simp[bC]at hx
  ·exact hB
  ·simp[bC]at hx
  ·rw[hw];exact Below.refl _ _) h
 intro cs;obtain⟨e,w',fr,⟨v,rfl,a,j⟩,k,o,q⟩:=b cs;refine⟨_,w',fr,⟨v,rfl,hw▸a,j⟩,?_,o,q⟩;obtain⟨C,r⟩:=MD.1 hb;have z:Frame.enter c.P c.f vs.toArray .normal=(base c.f).at ⟨vs.toArray++Array.replicate (fn.ntmps - vs.length) undef,[]⟩ [.code (uY fn)]:=by
  simp[Frame.enter,Frame.at,hf,r,base,uY]
 rw[z];exact k

theorem IG(c:Cx)(n:Nat){fn:Func}{vs:List Value}{args:Array Value}{w:World}(hm:c.P.follows .mixedOrders=true)(hf:c.P.funcs[c.f]? =some fn)(hb:fn.body.isSome=true)(A:c.N=fn.ntmps)
  (i:c.res=fn.results.toList) (hw:c.w0=w) (hB:c.B=w.heap.size) (ha:args=vs.toArray) (hle:Nat.ble vs.length c.N=true)
  (h:run c n false [.code (uY fn)] ⟨uS 0 vs,[],w,none⟩):Pure c.P c.f args w c.R:=by
 have hle:=Ox hle;subst ha;have b:=zJ hm hf i n false _ (fun _=>0) _ (vs.toArray++Array.replicate (fn.ntmps - vs.length) undef) w (by
  refine⟨?_,fun s x hs=> ?_,⟨fun l x hx=> ?_,fun l m x y hx=> ?_⟩,?_,rfl,fun l x hx=> ?_,?_⟩
  ·simp;omega
  ·obtain⟨v,rfl,_,g⟩:=CI vs 0 s x hs;have d:s<vs.length:=by
    rcases MB s vs.length with h|h
    ·exact h
    ·simp[iw h]at g
   rw[Pv (by simpa using d)];simpa[SV.den]using g
  ·simp[bC]at hx
  ·simp[bC]at hx
  ·rw[hB];exact ga _
  ·simp[bC]at hx
  ·rw[hw];exact Below.refl _ _) h
 intro cs;obtain⟨e,w',fr,⟨v,rfl,a,j⟩,k,o,q⟩:=b cs;refine⟨_,w',fr,⟨v,rfl,by rw[<-hB,<-hw];exact hw▸a,j⟩,?_,o,q⟩;obtain⟨C,r⟩:=MD.1 hb;have z:Frame.enter c.P c.f vs.toArray .normal=(base c.f).at ⟨vs.toArray++Array.replicate (fn.ntmps - vs.length) undef,[]⟩ [.code (uY fn)]:=by
  simp[Frame.enter,Frame.at,hf,r,base,uY]
 rw[z];exact k

theorem Yo(c:Cx){w:World}(n:Nat)(first:Bool)(todo:List Item)(env:Env)(boxes:List tt)(hm:c.P.follows .mixedOrders=true){fn:Func}(hf:c.P.funcs[c.f]? =some fn)(a:c.res=fn.results.toList)(hw:c.w0=w)
  (d:∀l x,bC boxes l=some x->x.new=false) (h:run c n first todo ⟨env,boxes,w,none⟩):At c.P c.f c.N todo env boxes c.B w c.R:=by
 intro b T e he hB g;have:=zJ hm hf a n first todo b _ T w ⟨e,he,hB,g,rfl,fun l x hx hn=>(by rw[d l x hx]at hn;cases hn),(by rw[hw];exact Below.refl _ _)⟩ h
 rw[hw]at this;exact this

def xI:List tt->Bool
 |[]=>true
 |x::r=> !x.new&&xI r
theorem AK{a:List tt}(h:xI a=true):∀l x,bC a l=some x->x.new=false:=by
 induction a with
 |nil=>intro l x hx;simp[bC]at hx
 |cons y r ih=>
  intro l x hx;simp only[xI,de]at h;rw[cN]at hx;split at hx
  ·cases hx;simpa using h.1
  ·exact ih h.2 l x hx

theorem IH(c:Cx)(n:Nat)(todo:List Item)(env:Env)(boxes:List tt){w:World}(hm:c.P.follows .mixedOrders=true){fn:Func}(hf:c.P.funcs[c.f]? =some fn)(a:c.res=fn.results.toList)(hw:c.w0=w)
  (ho:xI boxes=true) (h:run c n true todo ⟨env,boxes,w,none⟩):At c.P c.f c.N todo env boxes c.B w c.R:=
 Yo c n true todo env boxes hm hf a hw (AK ho) h

theorem II(c:Cx)(n:Nat)(todo:List Item)(env:Env)(boxes:List tt){w:World}(hm:c.P.follows .mixedOrders=true){fn:Func}(hf:c.P.funcs[c.f]? =some fn)(d:c.res=fn.results.toList)(hw:c.w0=w)
  (ho:xI boxes=true) (h:run c n true (inside todo) ⟨env,boxes,w,none⟩):At c.P c.f c.N todo env boxes c.B w c.R:=by
 have h1:=Yo c n true (inside todo) env boxes hm hf d hw (AK ho) h;intro b T e he hB g;have a:=h1 b T e he hB g;cases todo with
 |nil=>exact a
 |cons it k=>
  cases it with
  |code i=>
   cases i with
   |loop j=>exact .step (fun cs=>step_loop) a
   |_=>exact a
  |_=>exact a
end
theorem follows:Tryz.prog.follows .mixedOrders=true:=kF
noncomputable abbrev P:Program:=Tryz.prog
abbrev O:=Option Addr
abbrev Kt:=Value->World->Prop
abbrev Br(p X Y:Prop):Prop:=(p->X)/\(¬p->Y)
abbrev Bb(b:Bool)(X Y:Prop):Prop:=(b=true->X)/\(b=false->Y)
abbrev qk(ts:List Nat)(w w':World):Prop:=∀(k ty:Nat)(cs:Array Value),ty∈ts->w.heap[k]? =some (.cells cs ty (0,0))->w'.heap[k]? =w.heap[k]?
abbrev Ri(X:Int->World->Prop):Kt:=fun v w=>∃i,v= .int .i64 i/\X i w
abbrev Rb(X:Bool->World->Prop):Kt:=fun v w=>∃b,v= .bool b/\X b w
abbrev Rt(X:ByteArray->World->Prop):Kt:=fun v w=>∃s,v= .string s/\X s w
abbrev Rs(X:O->Nat->Nat->World->Prop):Kt:=fun v w=>∃A n c,v= .slice A n c/\X A n c w
abbrev Vh(X:O->Nat->Nat->Int->World->Prop):Kt:=fun v w=>∃A n c i,v= .tuple #[.slice A n c,.int .i64 i]/\X A n c i w
abbrev Rsb(X:O->Nat->Nat->Bool->World->Prop):Kt:=fun v w=>∃A n c b,v= .tuple #[.slice A n c,.bool b]/\X A n c b w
abbrev qO(X:ByteArray->Int->World->Prop):Kt:=fun v w=>∃s i,v= .tuple #[.string s,.int .i64 i]/\X s i w
abbrev Rii(X:Int->Int->World->Prop):Kt:=fun v w=>∃i j,v= .tuple #[.int .i64 i,.int .i64 j]/\X i j w
abbrev Rc(X:O->Nat->Nat->O->Nat->Nat->World->Prop):Kt:=fun v w=>∃A n c A1 n1 c1,v= .agg #[.slice A n c,.slice A1 n1 c1]/\X A n c A1 n1 c1 w
abbrev Rp(X:O->Nat->Nat->O->Nat->Nat->O->Nat->Nat->World->Prop):Kt:=fun v w=>∃A n c A1 n1 c1 A2 n2 c2,v= .agg #[.slice A n c,.slice A1 n1 c1,.slice A2 n2 c2]/\X A n c A1 n1 c1 A2 n2 c2 w
abbrev Ix(j:Int)(n:Nat)(A:O)(X:Addr->Prop):Prop:=(0<=j/\j<n)/\∃a,A=some a/\X a
abbrev I(i:Int):Value:= .int .i64 i
abbrev vW(A:O)(n c:Nat):Value:= .slice A n c
abbrev vN:Value:= .slice none 0 0
abbrev vU(s:ByteArray):Value:= .string s
abbrev vS(k:Nat)(A:O)(n c:Nat):Nat×SV:=(k,.v (.slice A n c))
abbrev vI(k:Nat)(i:Int):Nat×SV:=(k,.v (.int .i64 i))
abbrev vT(k:Nat)(s:ByteArray):Nat×SV:=(k,.v (.string s))
abbrev vP(k:Nat)(a:O):Nat×SV:=(k,.v (.pointer a))
abbrev vL(k:Nat):Nat×SV:=(k,.loc k 0)
abbrev Pm:=List ((Bool×Nat)×List Nat×List Nat)×List (Nat×Nat×Nat)
noncomputable abbrev Yp(p:Pm)(f:Nat)(fn:Func)(w:World)(B:Nat)(R:Kt):Cx:=⟨Tryz.prog,f,fn.ntmps,fn.results.toList,p.1,p.2,w,B,R⟩
def Lt(f:Nat)(fn:Func)(k:Nat)(env:Env)(boxes:List tt)(B:Nat)(w:World)(R:Kt):Prop:=At Tryz.prog f fn.ntmps (Le fn k) env boxes B w R
def Jt(f:Nat)(fn:Func)(k:Nat)(env:Env)(boxes:List tt)(B:Nat)(w:World)(R:Kt):Prop:=At Tryz.prog f fn.ntmps (Cj fn k) env boxes B w R
section
variable (p:Pm) {f:Nat} {fn:Func} (hf:Tryz.prog.funcs[f]? =some fn) {vs:List Value} {w:World} {R:Kt} {C:Prop} {k B:Nat} {env:Env} {boxes:List tt} (h:C)
include hf h
theorem pr(hb:fn.body.isSome=true:=by rfl)(hle:Nat.ble vs.length fn.ntmps=true:=by rfl)(e:C=run (Yp p f fn w w.heap.size R) 100000 false [.code (uY fn)] ⟨uS 0 vs,[],w,none⟩:=by kernel_rfl):Pure P f vs.toArray w R:=
 IG (Yp p f fn w w.heap.size R) 100000 follows hf hb rfl rfl rfl rfl rfl hle (Eq.mp e h)
theorem pb(hB:B<=w.heap.size)(hb:fn.body.isSome=true:=by rfl)(hle:Nat.ble vs.length fn.ntmps=true:=by rfl)(e:C=run (Yp p f fn w B R) 100000 false [.code (uY fn)] ⟨uS 0 vs,[],w,none⟩:=by kernel_rfl):ba P f vs.toArray B w R:=
 Gh (Yp p f fn w B R) 100000 follows hf hb rfl rfl rfl hB rfl hle (Eq.mp e h)
theorem lr(ho:xI boxes=true:=by rfl)(e:C=run (Yp p f fn w B R) 100000 true (inside (Le fn k)) ⟨env,boxes,w,none⟩:=by kernel_rfl):Lt f fn k env boxes B w R:=
 II (Yp p f fn w B R) 100000 (Le fn k) env boxes follows hf rfl rfl ho (Eq.mp e h)
theorem jr(ho:xI boxes=true:=by rfl)(e:C=run (Yp p f fn w B R) 100000 true (Cj fn k) ⟨env,boxes,w,none⟩:=by kernel_rfl):Jt f fn k env boxes B w R:=
 IH (Yp p f fn w B R) 100000 (Cj fn k) env boxes follows hf rfl rfl ho (Eq.mp e h)
end
end Go.Proofs.YtmdphpnaipbfjaaGreatDoor.Vc

namespace Go.Proofs.YtmdphpnaipbfjaaGreatDoor.B
open Go Go.RowKit Go.Proofs Go.Proofs.YtmdphpnaipbfjaaGreatDoor.Vc

theorem pm{P:Program}{f:FuncId}{args:Array Value}{w:World}{R R':Value->World->Prop}(h:Pure P f args w R)
  (a:∀v w',Below w.heap.size w w'->R v w'->R' v w'):Pure P f args w R':=
 Calls.mono h fun e w' ⟨v,he,hb,b⟩=>⟨v,he,hb,a v w' hb b⟩

theorem ba.mono{P:Program}{f:FuncId}{args:Array Value}{B:Nat}{w:World}{R R':Value->World->Prop}(h:ba P f args B w R)
  (a:∀v w',Below B w w'->R v w'->R' v w'):ba P f args B w R':=
 Calls.mono h fun e w' ⟨v,he,hb,b⟩=>⟨v,he,hb,a v w' hb b⟩

theorem Below.step{B:Nat}{w0 w1 a:World}(h:Below B w0 w1)(hB:B<=w0.heap.size)(k:Below w1.heap.size w1 a):Below B w0 a:=
 h.trans (k.mono (ec hB h.size))
theorem Below.ext{B:Nat}{ts:List Nat}{w0 w1 a:World}(h:Below B w0 w1)(k:Ext B ts w1 a):Below B w0 a:=h.trans k.below

structure Good (w:World):Prop where
 size:8<=w.heap.size

theorem Good.below{B:Nat}{w w':World}(h:Good w)(hb:Below B w w')(hB:w.heap.size<=B):Good w':=
 ⟨ec h.size hb.size⟩
end Go.Proofs.YtmdphpnaipbfjaaGreatDoor.B
