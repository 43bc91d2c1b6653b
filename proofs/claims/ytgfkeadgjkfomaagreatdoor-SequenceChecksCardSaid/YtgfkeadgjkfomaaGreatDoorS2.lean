/- Part 2 of the proofs that: SequenceStates, SequenceOrders and SequenceChecks hold for every input: the program's functions return what the reference functions return -/
import Derived.Test.YtgfkeadgjkfomaaGreatDoorS1
import Derived.Test.YtgfkeadgjkfomaaGreatDoorProg
set_option linter.unusedVariables false
set_option linter.unusedSimpArgs false
namespace Go.Proofs.YtgfkeadgjkfomaaGreatDoor.Vc
open Go Go.RowKit
section any
variable {P:Program} {ops:Array Oper} {Q:Exit->Act->World->Prop} {S:World->Prop} {qt:Nat->Bool}

def uM(P:Program)(ops:Array Oper)(Q:Exit->Act->World->Prop)(S:World->Prop)(qt:Nat->Bool):Nat->Array Bool->Act->World->Prop
 |0,l,a,w=>Region.ready .any ops l=[]/\Q .normal a w
 |n+1,l,a,w=>(Region.ready .any ops l=[]->Q .normal a w)/\
  ∀i∈Region.ready .any ops l,wpOp P ops Q i (fun a' w'=>(qt i=true->S w->S w')/\uM P ops Q S qt n (l.setIfInBounds i true) a' w') a w

theorem uM.wpAny:∀(n:Nat)(l:Array Bool)(a:Act)(w:World),uM P ops Q S qt n l a w->wpAny P .any ops Q n l a w
 |0,_,_,_,h=>h
 |n+1,_,_,_,h=>⟨h.1,fun i hi=>wpOp_mono (fun a' w' b=>uM.wpAny n _ a' w' b.2) (h.2 i hi)⟩

theorem uM.first{S':World->Prop}{i:Nat}{q:Oper}{v:Value}{late:Nat->Prop}(hi:ops[i]? =some q)(C:∀(j:Nat) o cs b,ops[j]? =some o->o.op≠ .select cs b)
  (J:∀c a w,Q (.panic c) (a.put q.dst v) w->Q (.panic c) a w)
  (K:∀j d,ops[j]? =some d->late j->∃e∈d.after,Region.binds .any e=true/\(e.on=i∨late e.on)):
  ∀(n:Nat)(l:Array Bool)(a:Act)(w:World),
   (∀j d,ops[j]? =some d->j≠i->l.getD j true=false->¬late j->
    q.apart ops d=true/\∀w w',(qt j=true->S w->S w')->S' w->S' w')->
   (∀j,late j->l.getD j false=false)->
   i∈Region.ready .any ops l->YieldsIf P ops S' q v a->S' w->
   uM P ops Q S qt n (l.setIfInBounds i true) (a.put q.dst v) w->uM P ops Q S qt (n+1) l a w:=by
 intro n;induction n with
 |zero=>
  intro l a w _ _ m hy r H;refine⟨fun h=>(by rw[h]at m;cases m),fun j hj=> ?_⟩;by_cases g:j=i
  ·subst g;exact hy.wpOp hi r ⟨fun _ h=>h,H⟩
  ·have:=ready_mono hj g;rw[H.1]at this;cases this
 |succ n ih=>
  intro l a w D E m hy r H;refine⟨fun h=>(by rw[h]at m;cases m),fun j hj=> ?_⟩;by_cases g:j=i
  ·subst g;exact hy.wpOp hi r ⟨fun _ h=>h,H⟩
  ·have h1:=H.2 j (ready_mono hj g);obtain⟨F,d,x,L⟩:=mem_ready.1 hj;have G:¬late j:=fun A=>by
    obtain⟨e,he,hb,M⟩:=K j d x A;have h1:=L e he hb;rcases M with heq|hl
    ·have h0:=(mem_ready.1 m).1;rw[heq]at h1;rcases B7 i l.size with B|B
     ·simp[B]at h0 h1;rw[h0]at h1;cases h1
     ·simp[rm B]at h1
    ·rw[E _ hl]at h1;cases h1
   obtain⟨N,O⟩:=D j d x g F G;have h2:=wpOp_putIf x N (fun cs b=>C i q cs b hi) (fun cs b=>C j d cs b x) J hy h1;refine wpOp_mono (fun a' w' h3=>⟨h3.2.1,?_⟩) h2;have R:=O w w' h3.2.1 r;refine ih (l.setIfInBounds j true) a' w' (fun k ok y T I U=> ?_) (fun k y=> ?_) (ready_mono m (nx g)) h3.1 R ?_
   ·refine D k ok y T ?_ U;by_cases z:j=k
    ·subst z;exact F
    ·rw[getD_set_ne true z]at I;exact I
   ·have z:j≠k:=fun e=>G (e▸y)
    rw[getD_set_ne false z];exact E k y
   ·rw[Array.setIfInBounds_comm _ _ g];exact h3.2.2
end any

section
variable {c:Cx}

theorem dj{n:Nat}:∀{l:List Nat},lC n l=true↔n∈l:=by
 intro l;induction l with
 |nil=>simp[lC]
 |cons x r ih=>
  simp only[lC];cases h:Nat.beq x n with
  |true=>have:=beq_true h;simp[this]
  |false=>
   have:=beq_false h;simp only[ih,fi];constructor
   ·exact .inr
   ·rintro(h|h)
    ·exact absurd h.symm this
    ·exact h

def Rel(ops:Array Oper)(listed:List Nat)(arr:Array Bool):Prop:=arr.size=ops.size/\∀j,j<ops.size->arr.getD j true=lC j listed

theorem Rel.cons{ops:Array Oper}{listed:List Nat}{arr:Array Bool}(h:Rel ops listed arr)(i:Nat):Rel ops (i::listed) (arr.setIfInBounds i true):=by
 refine⟨by simp[h.1],fun j hj=> ?_⟩;have:=h.2 j hj;have a:j<arr.size:=by rw[h.1];exact hj
 simp only[lC];cases e:Nat.beq i j with
 |true=>have:=beq_true e;subst this;simp[a]
 |false=>have b:=beq_false e;rw[getD_set_ne true b];exact this

theorem Rel.oL{ops:Array Oper}{listed:List Nat}{arr:Array Bool}(h:Rel ops listed arr){j:Nat}(hj:j<ops.size):arr.getD j false=lC j listed:=by
 have:=h.2 j hj;have a:j<arr.size:=by rw[h.1];exact hj
 simp[a]at this⊢;exact this

theorem uN{ops:Array Oper}{listed:List Nat}{arr:Array Bool}(h:Rel ops listed arr)(n:∀(j:Nat) o,ops[j]? =some o->∀e∈o.after,Region.binds .any e=true->e.on<ops.size):
  ∀(l:List Oper)(i:Nat),(∀k,l[k]? =ops[i+k]?)->∀j,j∈fE listed i l↔i<=j/\j∈Region.ready .any ops arr:=by
 intro l;induction l with
 |nil=>
  intro i hl j;simp only[fE,pw,false_iff,not_and];intro y hj;obtain⟨_,o,ho,_⟩:=mem_ready.1 hj;have:=hl (j - i);rw[show i+(j - i)=j by omega,ho]at this;simp at this
 |cons o r ih=>
  intro i hl j;have hi:ops[i]? =some o:=by simpa using(hl 0).symm
  have b:i<ops.size:=(bU.1 hi).1;have q:=ih (i+1) (fun k=>by have:=hl (k+1);simpa[HW,M3 1 k]using this);have w:i∈Region.ready .any ops arr↔(lC i listed|| !(o.after.toList.all fun e=> !Region.binds .any e||lC e.on listed))=false:=by
   rw[mem_ready,h.2 i b];simp only[Bool.or_eq_false_iff,Bool.not_eq_false',gu,xt,tW];constructor
   ·rintro⟨h0,o',x,d⟩;rw[hi]at x;cases x;refine⟨h0,fun e he=> ?_⟩;have a:e∈o.after:=by simpa using he
    cases hb:Region.binds .any e with
    |false=>exact .inl rfl
    |true=>have:=d e a hb;rw[h.oL (n i o hi e a hb)]at this;exact .inr this
   ·rintro⟨h0,d⟩;refine⟨h0,o,hi,fun e he hb=> ?_⟩;rw[h.oL (n i o hi e he hb)];exact(d e (by simpa using he)).resolve_left (by simp[hb])
  simp only[fE];cases g:(lC i listed|| !(o.after.toList.all fun e=> !Region.binds .any e||lC e.on listed))with
  |true=>
   have hn:¬i∈Region.ready .any ops arr:=fun hm=>by rw[w.1 hm]at g;cases g
   simp only[q];constructor
   ·rintro⟨h1,h2⟩;exact⟨om,h2⟩
   ·rintro⟨h1,h2⟩;refine⟨?_,h2⟩;rcases B7 i j with m|m
    ·omega
    ·have:i=j:=om;subst this;exact absurd h2 hn
  |false=>
   have hy:=w.2 g;simp only[fi,q];constructor
   ·rintro(rfl|⟨h1,h2⟩)
    ·exact⟨hM _,hy⟩
    ·exact⟨om,h2⟩
   ·rintro⟨h1,h2⟩;rcases B7 i j with m|m
    ·exact .inr ⟨om,h2⟩
    ·exact .inl om

theorem ud{j:Nat}{ops:Array Oper}{listed:List Nat}{i:Nat}{d:Oper}{late:List Nat}:∀(l:List Oper)(a:Nat),qk c j ops listed i d late a l=true->
  ∀k o,l[k]? =some o->a+k≠i->(match iQ d&& !iJ (fj c.mode j (a+k)) o with
   |true=>lC (a+k) listed=false/\lC (a+k) late=true
   |false=>lC (a+k) listed=true∨lC (a+k) late=true∨d.apart ops o=true):=by
 intro l;induction l with
 |nil=>intro a _ k o b;simp at b
 |cons x r ih=>
  intro a h k o b g;simp only[qk,eb]at h;cases k with
  |zero=>
   simp only[List.getElem?_cons_zero,IZ]at b;subst b;have h1:=h.1;rw[xt]at h1;have h1:=h1.resolve_left (by simpa using g);simp only[ob];split at h1
   ·rename_i e;rw[e];simpa using h1
   ·rename_i e;rw[e];simpa[or_assoc]using h1
  |succ k=>
   have:=ih (a+1) h.2 k o (by simpa using b) om;rw[show a+1+k=a+(k+1) by omega]at this;exact this

theorem zk{ops:Array Oper}{listed:List Nat}{i:Nat}:∀(l:List Oper)(a:Nat)(acc:List Nat),(∀k,l[k]? =ops[a+k]?)->
  (∀j b,ops[j]? =some b->lC j acc=true->lC j listed=false/\∃e∈b.after,Region.binds .any e=true/\(e.on=i∨lC e.on acc=true))->(∀j,lC j acc=true->lC j listed=false)->
  (∀j b,ops[j]? =some b->lC j (qj listed i a l acc)=true->∃e∈b.after,Region.binds .any e=true/\(e.on=i∨lC e.on (qj listed i a l acc)=true))/\(∀j,lC j (qj listed i a l acc)=true->lC j listed=false):=by
 intro l;induction l with
 |nil=>intro a acc _ h h2;exact⟨fun j b ho hj=>(h j b ho hj).2,h2⟩
 |cons o r ih=>
  intro a acc hl h h2;have d:ops[a]? =some o:=by simpa using(hl 0).symm
  have n:∀k,r[k]? =ops[a+1+k]? :=fun k=>by have:=hl (k+1);simpa[HW,M3 1 k]using this
  simp only[qj];cases q:(!lC a listed&&o.after.toList.any fun e=>Region.binds .any e&&(Nat.beq e.on i||lC e.on acc))with
  |false=>exact ih (a+1) acc n h h2
  |true=>
   simp only[eb,tW,kh,xt]at q;obtain⟨hu,e,he,hb,g⟩:=q;have grow:∀k,lC k acc=true->lC k (a::acc)=true:=fun k w=>dj.2 (by simp[dj.1 w])
   refine ih (a+1) (a::acc) n (fun j b ho hj=> ?_) fun j hj=> ?_
   ·rcases fi.1 (dj.1 hj)with rfl|hj
    ·rw[d]at ho;cases ho;refine⟨hu,e,by simpa using he,hb,?_⟩;rcases g with m|m
     ·exact .inl (beq_true m)
     ·exact .inr (grow _ m)
    ·obtain⟨x,e,he,hb,g⟩:=h j b ho (dj.2 hj);exact⟨x,e,he,hb,g.imp id (grow _)⟩
   ·rcases fi.1 (dj.1 hj)with rfl|hj
    ·exact hu
    ·exact h2 j (dj.2 hj)

theorem sf{b:Nat}{ops:Array Oper}{listed:List Nat}:∀{l:List Nat} {i:Nat},kZ c b ops listed l=some i->
  i∈l/\∃o,ops[i]? =some o/\early o=true/\qk c b ops listed i o (qj listed i 0 ops.toList []) 0 ops.toList=true:=by
 intro l;induction l with
 |nil=>intro i h;simp[kZ]at h
 |cons x r ih=>
  intro i h;simp only[kZ]at h;cases hx:ops.toList[x]? with
  |none=>simp[hx]at h
  |some o=>
   simp only[hx]at h;cases a:early o&&qk c b ops listed x o (qj listed x 0 ops.toList []) 0 ops.toList with
   |true=>
    rw[a]at h;cases h;simp only[eb]at a;exact⟨sm,o,by simpa using hx,a.1,a.2⟩
   |false=>
    rw[a]at h;obtain⟨h1,h2⟩:=ih h;exact⟨by simp[h1],h2⟩

theorem Ci:∀{l:List Nat} {z:Prop} {K:Nat->Prop},Cd l z K->l≠[]->∀i∈l,K i:=by
 intro l;induction l with
 |nil=>intro z K _ h;exact absurd rfl h
 |cons x r ih=>
  intro z K h _ i hi;cases r with
  |nil=>simp only[Cd]at h;rw[gb.1 hi];exact h
  |cons y s=>
   simp only[Cd]at h;rcases fi.1 hi with rfl|hi
   ·exact h.1
   ·exact ih h.2 sm i hi

def mD(b0:Nat->Nat)(b:St)(lw:Option World)(hold:List Nat)(w:World):Prop:=
 (∀l∈hold,∀x,bO b.boxes l=some x->w.heap[b0 l]? =some (.cells x.cells.toArray x.ty (0,0)))/\∀v,lw=some v->∀a u,v.cell? a=some u->w.cell? a=some u

theorem mD.aj{b0:Nat->Nat}{b:St}{lw:Option World}{hold:List Nat}{w w':World}(h:mD b0 b lw hold w)(d:∀k,k<w.heap.size->w'.heap[k]? =w.heap[k]?):mD b0 b lw hold w':=by
 refine⟨fun l hl x hx=> ?_,fun v hv a u hu=> ?_⟩
 ·have:=h.1 l hl x hx;rw[d _ (bU.1 this).1];exact this
 ·have:=h.2 v hv a u hu;rw[World.cell?_of_block (d _ (World.block_lt_of_cell? w a this))];exact this

def quietAt(c:Cx)(a:Nat)(ops:Array Oper)(j:Nat):Bool:=match ops[j]? with
 |some o=>iJ (fj c.mode a j) o
 |none=>true

def Still(c:Cx)(e:Nat)(ops:Array Oper)(b0:Nat->Nat)(d:St)(lw:Option World)(hold:List Nat)(listed:List Nat)(b:Nat->Nat)(st:St)(w:World):Prop:=
 (∀j∈listed,quietAt c e ops j=true)->mD b0 d lw hold w/\∀l∈hold,b l=b0 l/\∀a,bO st.boxes l=some a->∃x,bO d.boxes l=some x/\x.cells=a.cells/\x.ty=a.ty

theorem Bz{o:Oper}{l:Nat}:∀{ops:List Oper},o∈ops->rF o=true->o.dst=some l->l∈ox ops:=by
 intro ops;induction ops with
 |nil=>intro h;cases h
 |cons x r ih=>
  intro h hn a;simp only[ox];rcases fi.1 h with rfl|h
  ·unfold rF at hn;split at hn
   ·rename_i e;rw[e,a];simp
   ·rename_i e;rw[e,a];simp
   ·cases hn
  ·have:=ih h hn a;split<;>simp[this]

theorem BA{B:Nat}{ops:Array Oper}{Q:Exit->Act->World->Prop}{K:St->Prop}{lw:Option World}{hold:List Nat}{b0:Nat->Nat}{g:St}
  (hq:∀b st I w',K st->Inv c b st I w'->Q .normal (act I) w') (hQ:∀N a w,¬Q (.panic N) a w)
  (J:∀(j:Nat) o cs q,ops[j]? =some o->o.op≠ .select cs q) (Ch:∀(j:Nat) o,ops[j]? =some o->∀e∈o.after,Region.binds .any e=true->e.on<ops.size)
  (fS:∀l∈hold,∀(j:Nat) o,ops[j]? =some o->rF o=true->o.dst≠some l):
  ∀(n:Nat)(listed:List Nat)(arr:Array Bool)(b:Nat->Nat)(st:St)(T:Array Value)(w:World),Rel ops listed arr->Inv c b st T w->
   Still c B ops b0 g lw hold listed b st w->pt c B ops lw hold n listed st K->uM c.P ops Q (mD b0 g lw hold) (quietAt c B ops) n arr (act T) w:=by
 intro n;induction n with
 |zero=>
  intro listed arr b st T w d inv L h;simp only[pt]at h;have hr:Region.ready .any ops arr=[]:=by
   cases he:fE listed 0 ops.toList with
   |nil=>
    refine zz.2 fun j hj=> ?_
    have:=(uN d Ch ops.toList 0 (fun k=>by simp) j).2 ⟨Oq _,hj⟩;rw[he]at this;cases this
   |cons x r=>simp[he]at h
  refine⟨hr,?_⟩;have O:fE listed 0 ops.toList=[]:=by
   cases he:fE listed 0 ops.toList with
   |nil=>rfl
   |cons x r=>simp[he]at h
  rw[O]at h;exact hq _ _ _ _ h inv
 |succ n ih=>
  intro listed arr b st T w d inv L h;have R:=fun j=>uN d Ch ops.toList 0 (fun k=>by simp) j
  simp only[pt]at h;cases hf:kZ c B ops listed (fE listed 0 ops.toList)with
  |some i=>
   simp only[hf]at h;obtain⟨D,o,hi,Dq,Y5⟩:=sf hf;have ue:ops.toList[i]? =some o:=by simpa using hi
   simp only[ue]at h;have U:=((R i).1 D).2;obtain⟨V,h,E,wV⟩:=nr inv h;have W:i<ops.size:=(bU.1 hi).1;have X:=fun j m (hj:ops[j]? =some m) (A:j≠i)=>ud ops.toList 0 Y5 j m (by simpa using hj) om
   simp only[oi]at X;obtain⟨xP,RT⟩:=zk (ops:=ops) (listed:=listed) (i:=i) ops.toList 0 [] (fun k=>by simp) (fun j m _ hj=>by cases hj) (fun j hj=>by cases hj);have EU:∀j,lC j (qj listed i 0 ops.toList [])=true->arr.getD j false=false:=fun j hj=>by
    by_cases Y:j<ops.size
    ·rw[d.oL Y];exact RT j hj
    ·rw[OY,rm (by rw[d.1];omega)];rfl
   have xQ:∀j m,ops[j]? =some m->j≠i->arr.getD j true=false->¬lC j (qj listed i 0 ops.toList [])=true->
     o.apart ops m=true/\∀w w',(quietAt c B ops j=true->mD b0 g lw hold w->mD b0 g lw hold w')->(iQ o=true->mD b0 g lw hold w)->(iQ o=true->mD b0 g lw hold w'):=by
    intro j m hj A Hz iO;have hs:=X j m hj A;have Y:j<ops.size:=(bU.1 hj).1;have nY:lC j listed=false:=by rw[<-d.2 j Y];exact Hz
    split at hs
    ·exact absurd hs.2 iO
    ·rename_i e;rw[nY]at hs;refine⟨(hs.resolve_left sm).resolve_left iO,fun w w' hk F hl=> ?_⟩;have:quietAt c B ops j=true:=by
      unfold quietAt;rw[hj];simp only;rw[hl]at e;simpa using e
     exact hk this (F hl)
   have Z:iQ o=true->mD b0 g lw hold w/\∀l∈hold,b l=b0 l/\∀G,bO st.boxes l=some G->∃x,bO g.boxes l=some x/\x.cells=G.cells/\x.ty=G.ty:=fun hl=>L fun j hj=>by
    unfold quietAt;split
    ·rename_i m Ot;by_cases A:j=i
     ·subst A;rw[hi]at Ot;cases Ot;have:=(mem_ready.1 U).1;rw[d.2 j W,dj.2 hj]at this;cases this
     ·have hs:=X j m Ot A;cases QS:iJ (fj c.mode B j) m with
      |true=>rfl
      |false=>
       rw[hl,QS]at hs;simp only[GK,Bool.and_self]at hs;rw[dj.2 hj]at hs;cases hs.1
    ·rfl
   have LC:∀C,C.boxes=V.boxes->Still c B ops b0 g lw hold (i::listed) b C w:=fun C e M=>by
    rw[e,wV];exact L fun j hj=>M j (by simp[hj])
   have ey:yielded ops (act T).tmps=yielded ops T:=rfl;cases hw:Region.wanted o (yielded ops T)with
   |true=>
    rw[hw]at h;simp only at h;have hv:=pv (Ok:=fun w=>iQ o=true->mD b0 g lw hold w) (lw:=lw) (hold:=some hold) (b:=b) (fun hl w1 iT=>by
     have hH:=iT hl;refine⟨fun l x hm hx=> ?_,fun v hv a u hu=>hH.2 v hv a u hu⟩;have iM:l∈hold:=dj.1 hm;rw[wV]at hx;obtain⟨e1,e2⟩:=(Z hl).2 l iM;obtain⟨y,hy,f1,f2⟩:=e2 x hx;rw[e1,<-f1,<-f2];exact hH.1 l iM y hy) E.env (fun cs q=>J i o cs q hi) h
    obtain⟨x,hp,fR⟩:=hv;obtain⟨C,H,lG,e,hb⟩:=lj E (v:=x.den b) rfl hp;refine uM.first (S':=fun w=>iQ o=true->mD b0 g lw hold w) hi J (fun N a w hp=>absurd hp (hQ _ _ _)) xP n arr (act T) w xQ EU U (.inl ⟨by rw[ey];exact hw,fun w1 iT=>fR w1 iT⟩) (fun hl=>(Z hl).1) ?_;rw[e];exact ih (i::listed) _ b C _ w (d.cons i) lG (LC C hb) H
   |false=>
    rw[hw]at h;simp only at h;obtain⟨C,H,lG,e,hb⟩:=lj E (v:=undef) rfl h;refine uM.first (S':=fun w=>iQ o=true->mD b0 g lw hold w) hi J (fun N a w hp=>absurd hp (hQ _ _ _)) xP n arr (act T) w xQ EU U (.inr ⟨by rw[ey];exact hw,rfl⟩) (fun hl=>(Z hl).1) ?_;rw[e];exact ih (i::listed) _ b C _ w (d.cons i) lG (LC C hb) H
  |none=>
   simp only[hf]at h;refine⟨fun O=> ?_,fun i hi=> ?_⟩
   ·have he:fE listed 0 ops.toList=[]:=zz.2 fun j hj=>by
     have:=((R j).1 hj).2;rw[O]at this;cases this
    rw[he]at h;exact hq _ _ _ _ h inv
   ·have D:=(R i).2 ⟨Oq _,hi⟩;have h:=Ci h (fun e=>by rw[e]at D;cases D) i D;obtain⟨_,o,ho,_⟩:=mem_ready.1 hi;have K8:ops.toList[i]? =some o:=by simpa using ho
    simp only[K8]at h;refine se (fun cs q=>J i o cs q ho) inv h ho fun b' V I w' H E si=> ?_
    have HA:quietAt c B ops i=iJ (fj c.mode B i) o:=by unfold quietAt;rw[ho]
    refine⟨fun QS F=> ?_,ih (i::listed) _ b' V I w' (d.cons i) E (fun M=> ?_) H⟩
    ·exact F.aj (si (by rw[<-HA];exact QS)).2.1
    ·obtain⟨k1,k2,k3⟩:=si (by rw[<-HA];exact M i sm);obtain⟨F,hB⟩:=L fun j hj=>M j (by simp[hj])
     refine⟨F.aj k2,fun l hl=> ?_⟩;obtain⟨e1,e2⟩:=k3 l (fun hn=>fS l hl i o ho hn);obtain⟨g1,g2⟩:=hB l hl;refine⟨e1.trans g1,fun G Cg=> ?_⟩;obtain⟨y,hy,f1,f2⟩:=e2 G Cg;obtain⟨z,hz,h1,h2⟩:=g2 y hy;exact⟨z,hz,h1.trans f1,h2.trans f2⟩
end

section
variable {c:Cx}

theorem rf{ops:Array Oper}(b:∀(j:Nat) o,ops[j]? =some o->∀e∈o.after,Region.binds .any e=true->e.on<ops.size)(L:List Nat)(i:Nat):
  i∈fE L 0 ops.toList↔lC i L=false/\∃o,ops[i]? =some o/\∀e∈o.after,Region.binds .any e=true->lC e.on L=true:=by
 have a:Rel ops L (Array.ofFn (n:=ops.size) fun j=>lC j.1 L):=⟨sm,fun j hj=>by simp[hj]⟩;rw[uN a b ops.toList 0 (fun k=>by simp) i];constructor
 ·rintro⟨_,h⟩;obtain⟨h0,o,ho,d⟩:=mem_ready.1 h;have hi:=(bU.1 ho).1;rw[a.2 i hi]at h0;exact⟨h0,o,ho,fun e he hb=>by have:=d e he hb;rwa [a.oL (b i o ho e he hb)]at this⟩
 ·rintro⟨h0,o,ho,d⟩;have hi:=(bU.1 ho).1;refine⟨Oq _,mem_ready.2 ⟨by rw[a.2 i hi];exact h0,o,ho,fun e he hb=> ?_⟩⟩;rw[a.oL (b i o ho e he hb)];exact d e he hb
theorem lH{j:Nat}:∀{a l:List Nat},lC j (nT a l)=true↔j∈a∨lC j l=true:=by
 intro a;induction a with
 |nil=>intro l;simp[nT]
 |cons x r ih=>intro l;rw[nT,dj,fi,<-dj,ih,fi,or_assoc]
theorem gi{o:Oper}{b:Bool}{f:Nat}:∀{fl:List Nat},f∈waited o b fl↔f∈fl/\lF o f=b:=by
 intro fl;induction fl with
 |nil=>simp[waited]
 |cons x r ih=>
  rw[waited];have hs:Cb (lF o x) b=true↔lF o x=b:=by cases lF o x<;>cases b<;>simp[Cb]
  cases h:Cb (lF o x) b with
  |true=>
   simp only[fi,ih];have:=hs.1 h;constructor
   ·rintro(rfl|⟨h1,h2⟩)
    ·exact⟨.inl rfl,this⟩
    ·exact⟨.inr h1,h2⟩
   ·rintro⟨rfl|h1,h2⟩
    ·exact .inl rfl
    ·exact .inr ⟨h1,h2⟩
  |false=>
   have hn:¬lF o x=b:=fun k=>by rw[hs.2 k]at h;cases h
   simp only[ih,fi];constructor
   ·rintro⟨h1,h2⟩;exact⟨.inr h1,h2⟩
   ·rintro⟨rfl|h1,h2⟩
    ·exact absurd h2 hn
    ·exact⟨h1,h2⟩
theorem vS{o:Oper}{b:Bool}:∀{fl:List Nat},fl.Nodup->(waited o b fl).Nodup:=by
 intro fl;induction fl with
 |nil=>intro _;exact Pq
 |cons x r ih=>
  intro h;obtain⟨h1,h2⟩:=xu.1 h;rw[waited];split
  ·exact xu.2 ⟨fun k=>h1 (gi.1 k).1,ih h2⟩
  ·exact ih h2
theorem Dr{o:Oper}{f:Nat}:lF o f=true↔∃e∈o.after,Region.binds .any e=true/\e.on=f:=by
 unfold lF;rw[kh];constructor
 ·rintro⟨e,he,h⟩;rw[eb]at h;exact⟨e,by simpa using he,h.1,beq_true h.2⟩
 ·rintro⟨e,he,hb,rfl⟩;exact⟨e,by simpa using he,by rw[eb];exact⟨hb,Nat.beq_refl _⟩⟩

theorem BB{l f:Nat}:∀{ops:List Oper} {b:Nat},vJ l f b ops=true->∀k o,ops[k]? =some o->b+k≠f->o.dst≠some l:=by
 intro ops;induction ops with
 |nil=>intro b _ k o a;simp at a
 |cons x r ih=>
  intro b h k o a d;simp only[vJ,eb]at h;cases k with
  |zero=>
   simp at a;subst a;intro e;have h1:=h.1;rw[e,xt]at h1;rcases h1 with h1|h1
   ·exact d (beq_true h1)
   ·simp at h1
  |succ k=>exact ih h.2 k o (by simpa using a) om

structure zo (c:Cx) (ops:Array Oper) (f:Nat) (o:Oper) (t:Nat) (cells:List Value):Prop where
 ho:ops[f]? =some o
 op:o.op= .alloc t
 dst:o.dst=some (eB ops f)
 guard:o.guard=none
 zero:zeroCells c.P t=some cells
 lt:eB ops f<c.N
 other:∀j o',ops[j]? =some o'->j≠f->o'.dst≠some (eB ops f)
 free:∀e∈o.after,Region.binds .any e=false
theorem JE{i:Nat}{ops:Array Oper}{f:Nat}(h:Lv c i ops f=true):∃o t cells,zo c ops f o t cells/\fj c.mode i f=0:=by
 unfold Lv at h;cases ho:ops.toList[f]? with
 |none=>simp[ho]at h
 |some o=>
  simp only[ho,eb]at h;obtain⟨⟨h1,h2⟩,h3⟩:=h;cases k:o.op<;>simp only[k]at h1<;>try cases h1
  rename_i t;cases a:o.dst with
  |none=>simp[a]at h1
  |some l=>
   cases b:o.guard with
   |some g=>simp[a,b]at h1
   |none=>
    simp only[a,b,eb]at h1;cases m:zeroCells c.P t with
    |none=>simp[m]at h1
    |some cells=>
     have d:eB ops f=l:=by unfold eB;rw[ho];simp[a]
     refine⟨o,t,cells,⟨by simpa using ho,k,by rw[d];exact a,b,m,?_,fun j o' hj n=> ?_,fun e he=> ?_⟩,beq_true h2⟩
     ·rw[d];simpa[QH]using h1.1.2
     ·rw[d];exact BB h1.2 j o' (by simpa using hj) om
     ·have:=gu.1 h3 e (by simpa using he);simpa using this
theorem EV{b:Nat}{ops:Array Oper}{fl:List Nat}:∀{l:List Nat} {f:Nat},xc c b ops fl l=some f->f∈l/\f∉fl/\Lv c b ops f=true:=by
 intro l;induction l with
 |nil=>intro f h;simp[xc]at h
 |cons x r ih=>
  intro f h;simp only[xc]at h;cases a:(!lC x fl&&Lv c b ops x)with
  |true=>
   rw[a]at h;cases h;simp only[eb,tW]at a;exact⟨sm,fun k=>(by rw[dj.2 k]at a;cases a.1),a.2⟩
  |false=>
   rw[a]at h;obtain⟨h1,h2⟩:=ih h;exact⟨by simp[h1],h2⟩

structure LD (c:Cx) (ops:Array Oper) (b:Nat->Nat) (st:St) (T:Array Value) (wa:World) (f a:Nat):Prop where
 tmp:T[eB ops f]? =some (.pointer (some ⟨a,0,none⟩))
 lo:c.B<=a
 heap:∀o t cells,zo c ops f o t cells->wa.heap[a]? =some (.cells cells.toArray t (0,0))
 ne:∀m x,bO st.boxes m=some x->b m≠a

theorem zo.uniq{ops:Array Oper}{f:Nat}{o o':Oper}{t a:Nat}{cells b:List Value}(h:zo c ops f o t cells)(k:zo c ops f o' a b):o=o'/\t=a/\cells=b:=by
 have e:o=o':=by have:=h.ho.symm.trans k.ho;cases this;rfl
 subst e;have e:t=a:=by have:=h.op.symm.trans k.op;cases this;rfl
 subst e;have:=h.zero.symm.trans k.zero;cases this;exact⟨rfl,rfl,rfl⟩
theorem zo.inj{ops:Array Oper}{f g:Nat}{o o':Oper}{t b:Nat}{cells d:List Value}(h:zo c ops f o t cells)(k:zo c ops g o' b d)(a:f≠g):eB ops f≠eB ops g:=by
 intro e;exact h.other g o' k.ho (nx a) (by rw[k.dst,e])

theorem HB{b:Nat->Nat}{st:St}{T:Array Value}{wa:World}{ops:Array Oper}{f a:Nat}{o:Oper}{t:Nat}{cells:List Value}(inv:Inv c b st T wa)(hf:zo c ops f o t cells)(h:LD c ops b st T wa f a):
  Inv c (fun m=>if m=eB ops f then a else b m) (pK st (eB ops f) t cells) T wa:=by
 refine⟨inv.size,fun s x hs=> ?_,⟨fun m x hm=> ?_,fun m n x y hm hn g=> ?_⟩,inv.lo,inv.ext,fun m x hm hn=> ?_,inv.base⟩
 ·simp only[pK,ia,oI]at hs;by_cases e:eB ops f=s
  ·rw[cc e]at hs;cases hs;subst e;rw[h.tmp];simp[SV.den]
  ·rw[ar e,ar (nx e)]at hs;obtain⟨h1,h2⟩:=sd hs;rw[inv.env s x h1];cases x<;>simp only[SV.den];rename_i k off;have:k≠eB ops f:=beq_false h2;simp[this]
 ·simp only[pK,da,dH]at hm;by_cases e:eB ops f=m
  ·rw[cc e]at hm;cases hm;subst e;simp only[AM];exact⟨h.lo,h.heap o t cells hf⟩
  ·rw[ar e,ar (nx e)]at hm;simp only[ar (nx e)];exact inv.box.at_ m x hm
 ·simp only[pK,da,dH]at hm hn;by_cases e:eB ops f=m
  ·by_cases d:eB ops f=n
   ·exact absurd (e.symm.trans d) g
   ·rw[ar d,ar (nx d)]at hn;rw[cc e.symm,ar (nx d)];exact fun k=>h.ne n y hn k.symm
  ·rw[ar e,ar (nx e)]at hm;by_cases d:eB ops f=n
   ·rw[ar (nx e),cc d.symm];exact h.ne m x hm
   ·rw[ar d,ar (nx d)]at hn;rw[ar (nx e),ar (nx d)];exact inv.box.ne m n x y hm hn g
 ·simp only[pK,da,dH]at hm;by_cases e:eB ops f=m
  ·rw[cc e]at hm;cases hm;cases hn
  ·rw[ar e,ar (nx e)]at hm;rw[ar (nx e)];exact inv.new m x hm hn

theorem uf{T:Array Value}{wa:World}{ops:Array Oper}{K:St->Prop}{a:Nat->Nat}:∀(fl:List Nat)(b:Nat->Nat)(st:St),Inv c b st T wa->fl.Nodup->(∀f∈fl,∃o t cells,zo c ops f o t cells)->
  (∀f∈fl,LD c ops b st T wa f (a f))->(∀f∈fl,∀g∈fl,f≠g->a f≠a g)->qS c ops fl st K->
  ∃l j,K j/\Inv c l j T wa/\(∀m,(∀f∈fl,m≠eB ops f)->l m=b m)/\(∀m x,bO j.boxes m=some x->(∃f∈fl,m=eB ops f/\l m=a f)∨(bO st.boxes m=some x/\l m=b m))/\(∀s,get st.env s=none->(∀f∈fl,s≠eB ops f)->get j.env s=none)/\j.d=st.d:=by
 intro fl;induction fl with
 |nil=>intro b st inv _ _ _ _ h;exact⟨b,st,h,inv,fun _ _=>rfl,fun m x hx=> .inr ⟨hx,rfl⟩,fun s hs _=>hs,rfl⟩
 |cons f r ih=>
  intro b st inv C w z q h;obtain⟨D,E⟩:=xu.1 C;obtain⟨o,t,cells,hf⟩:=w f sm;have ho:ops.toList[f]? =some o:=by simpa using hf.ho
  rw[qS]at h;simp only[ho,hf.op,hf.dst,hf.zero]at h;have F:=HB inv hf (z f sm);have G:∀g∈r,LD c ops (fun m=>if m=eB ops f then a f else b m) (pK st (eB ops f) t cells) T wa g (a g):=fun g i=>by
   have n:=z g (by simp[i]);obtain⟨o',P,Q,H⟩:=w g (by simp[i]);have I:f≠g:=fun e=>D (e▸i)
   refine⟨n.tmp,n.lo,n.heap,fun m x hm=> ?_⟩;simp only[pK,da,dH]at hm;by_cases k:eB ops f=m
   ·rw[cc k.symm];exact q f sm g (by simp[i]) I
   ·rw[ar k,ar (nx k)]at hm;rw[ar (nx k)];exact n.ne m x hm
  obtain⟨l,j,J,L,h1,h2,h3,h4⟩:=ih _ _ F E (fun g i=>w g (by simp[i])) G (fun g i M n=>q g (by simp[i]) M (by simp[n])) h;refine⟨l,j,J,L,fun m hm=> ?_,fun m x hx=> ?_,fun s hs A=> ?_,h4⟩
  ·rw[h1 m fun g i=>hm g (by simp[i]),ar (hm f sm)]
  ·rcases h2 m x hx with⟨g,i,N,O⟩|⟨hm,e⟩
   ·exact .inl ⟨g,by simp[i],N,O⟩
   ·simp only[pK,da,dH]at hm;by_cases k:eB ops f=m
    ·rw[cc k.symm]at e;exact .inl ⟨f,sm,k.symm,e⟩
    ·rw[ar k,ar (nx k)]at hm;rw[ar (nx k)]at e;exact .inr ⟨hm,e⟩
  ·refine h3 s ?_ fun g i=>A g (by simp[i])
   simp only[pK,ia,oI];have B:=A f sm;rw[ar (nx B),ar B];cases hx:get (pn st.env (eB ops f)) s with
   |none=>rfl
   |some y=>have:=(sd hx).1;rw[hs]at this;cases this

theorem xh{T:Array Value}{d:Option Tmp}{v:Value}{s:Nat}(h:d≠some s):((act T).put d v).tmps[s]? =T[s]? :=by
 cases d with
 |none=>rfl
 |some l=>
  have:l≠s:=fun e=>h (by rw[e])
  simp only[Act.put,act];rw[ym this]
theorem Ds{b:Nat->Nat}{st:St}{T:Array Value}{wa:World}{o:Oper}{n i:Nat}{ops:Array Oper}{Q:Exit->Act->World->Prop}{r:Act->World->Prop}{K:St->Prop}(hs:∀cs q,o.op≠ .select cs q)(inv:Inv c b st T wa)(h:xI c n ops i o st K)
  (hi:ops[i]? =some o) (hn:∀d a g w',K a->Inv c d a g w'->(iJ (fj c.mode n i) o=true->Kept o b st wa d a w')->(∀s,o.dst≠some s->g[s]? =T[s]?)->r (act g) w'):wpOp c.P ops Q i r (act T) wa:=by
 unfold xI at h;obtain⟨a,h,w,y⟩:=nr inv h;unfold wpOp;simp only[hi];have z:yielded ops (act T).tmps=yielded ops T:=rfl;rw[z];cases hw:Region.wanted o (yielded ops T)with
 |true=>
  rw[hw]at h;simp only[AM];refine .inl (xO hs w h _ _ fun v w' ⟨d,x,G,hp,hv,inv1,A⟩=> ?_);obtain⟨B,j,k,e,hb⟩:=lj inv1 hv hp;rw[e];refine hn _ _ _ _ j k (fun C=> ?_) fun s m=>xh m
  obtain⟨D,E,F⟩:=A C;exact⟨D,E,fun l hl=>by rw[hb,<-y];exact F l hl⟩
 |false=>
  rw[hw]at h;simp only[zy,tm];obtain⟨B,j,k,e,hb⟩:=lj w (v:=undef) rfl h;rw[e];exact hn _ _ _ _ j k (fun _=>Same.kept (fun l x hx=>by rw[hb,y]at hx;exact⟨x,hx,rfl,rfl⟩) _ _ _ _ lf fun _ _=>rfl) fun s m=>xh m

structure Cj (c:Cx) (ops:Array Oper) (b:Nat->Nat) (st:St) (T:Array Value) (wa:World) (arr:Array Bool) (fl:List Nat) (a:Nat->Nat):Prop where
 op:∀f∈fl,∃o t cells,zo c ops f o t cells
 nodup:fl.Nodup
 env:∀f∈fl,get st.env (eB ops f)=none
 at_:∀f∈fl,arr.getD f true=true->LD c ops b st T wa f (a f)
 ne:∀f∈fl,∀g∈fl,f≠g->arr.getD f true=true->arr.getD g true=true->a f≠a g
 d:fl≠[]->st.d≠none
structure Za (ops:Array Oper) (listed fl:List Nat) (arr:Array Bool):Prop where
 size:arr.size=ops.size
 QV:∀j,j<ops.size->lC j listed=true->arr.getD j true=true
 arr:∀j,j<ops.size->arr.getD j true=true->lC j listed=true∨j∈fl
 XO:∀f∈fl,lC f listed=false
def nA(arr:Array Bool):List Nat->Nat
 |[]=>0
 |f::r=>(if arr.getD f true=true then 0 else 1)+nA arr r

theorem JG{arr:Array Bool}:∀{fl:List Nat},nA arr fl=0↔∀f∈fl,arr.getD f true=true:=by
 intro fl;induction fl with
 |nil=>simp[nA]
 |cons x r ih=>
  rw[nA,Nat.add_eq_zero_iff,ih];constructor
  ·rintro⟨h1,h2⟩ f hf;rcases fi.1 hf with rfl|hf
   ·apply ea;intro k;rw[ar k]at h1;cases h1
   ·exact h2 f hf
  ·intro h;exact⟨by rw[cc (h x sm)],fun f hf=>h f (by simp[hf])⟩
theorem LF{arr:Array Bool}{i:Nat}(hi:i<arr.size)(h0:arr.getD i true=false):∀{fl:List Nat},fl.Nodup->i∈fl->nA arr fl=nA (arr.setIfInBounds i true) fl+1:=by
 have other:∀{fl:List Nat},i∉fl->nA (arr.setIfInBounds i true) fl=nA arr fl:=by
  intro fl;induction fl with
  |nil=>intro _;rfl
  |cons x r ih=>
   intro h;have hx:i≠x:=fun e=>h (by simp[e])
   rw[nA,nA,getD_set_ne true hx,ih fun k=>h (by simp[k])]
 intro fl;induction fl with
 |nil=>intro _ h;cases h
 |cons x r ih=>
  intro a h;obtain⟨h1,h2⟩:=xu.1 a;rw[nA,nA];by_cases e:i=x
  ·subst e;rw[other h1,h0,ar sm,cc (by simp[hi])];omega
  ·rw[getD_set_ne true e,ih h2 (by simpa[e]using h)];omega
theorem zp{arr a:Array Bool}:∀{fl:List Nat},(∀f∈fl,arr.getD f true=a.getD f true)->nA arr fl=nA a fl:=by
 intro fl;induction fl with
 |nil=>intro _;rfl
 |cons x r ih=>intro h;rw[nA,nA,h x sm,ih fun f hf=>h f (by simp[hf])]
theorem EX{arr:Array Bool}{o:Oper}:∀{fl:List Nat},(∀f∈waited o true fl,arr.getD f true=true)->nA arr (waited o false fl)=nA arr fl:=by
 intro fl;induction fl with
 |nil=>intro _;rfl
 |cons x r ih=>
  intro h;cases hw:lF o x with
  |true=>
   have h1:waited o true (x::r)=x::waited o true r:=by rw[waited,hw];rfl
   have h2:waited o false (x::r)=waited o false r:=by rw[waited,hw];rfl
   rw[h1]at h;rw[h2,nA,cc (h x sm),ih fun f hf=>h f (by simp[hf])];omega
  |false=>
   have h1:waited o true (x::r)=waited o true r:=by rw[waited,hw];rfl
   have h2:waited o false (x::r)=x::waited o false r:=by rw[waited,hw];rfl
   rw[h1]at h;rw[h2,nA,nA,ih h]

theorem HC{b:Nat->Nat}{st:St}{T:Array Value}{wa:World}{ops:Array Oper}{arr:Array Bool}{fl:List Nat}{a:Nat->Nat}{Q:Exit->Act->World->Prop}{w:Act->World->Prop}{i:Nat}(k9:arr.size=ops.size)(hi:i∈fl)(h0:arr.getD i true=false)
  (inv:Inv c b st T wa) (j:Cj c ops b st T wa arr fl a)
  (hn:∀a' y w',(∀k,k<wa.heap.size->w'.heap[k]? =wa.heap[k]?)->Inv c b st y w'->Cj c ops b st y w' (arr.setIfInBounds i true) fl a'->w (act y) w'):wpOp c.P ops Q i w (act T) wa:=by
 obtain⟨o,t,cells,hf⟩:=j.op i hi;have Z:i<arr.size:=by rw[k9];exact(bU.1 hf.ho).1
 have K:=hf.zero;unfold zeroCells at K;obtain⟨z,A,rfl⟩:=k7.1 K;obtain⟨inf,O,C⟩:=uz.1 A;unfold wpOp;simp only[hf.ho];have hw:Region.wanted o (yielded ops (act T).tmps)=true:=by unfold Region.wanted;rw[hf.guard]
 rw[hw];simp only[AM];refine .inl ?_;unfold Oper.wp;have R:(execOp (act T).eval o).run c.P wa= .ok (.value (.pointer (some ⟨wa.heap.size,0,none⟩))) (wa.alloc (.cells z.cells t)):=by
  simp[execOp,hf.op,Instr.alloc,zeroValue,typeInfo,program,Sem.run_bind,Sem.run,O,C,newVar,newRow,newObj]
 rw[R];have L:=inv.size;have hl:=hf.lt;have r:∀k,k<wa.heap.size->(wa.alloc (.cells z.cells t)).heap[k]? =wa.heap[k]? :=fun k l=>Below.heap_alloc wa _ _ l
 have S:(wa.alloc (.cells z.cells t)).heap[wa.heap.size]? =some (.cells z.cells t):=by
  show(wa.heap.push _)[wa.heap.size]? =_;simp
 have D:st.d≠none:=j.d (fun e=>by rw[e]at hi;cases hi);have E:c.B<=wa.heap.size:=ga inv.lo inv.vL.below.size;have q:∀m x,bO st.boxes m=some x->b m<wa.heap.size:=fun m x hm=>(bU.1 (inv.box.at_ m x hm).2).1
 have U:(act T).put o.dst (.pointer (some ⟨wa.heap.size,0,none⟩))=act (T.setIfInBounds (eB ops i) (.pointer (some ⟨wa.heap.size,0,none⟩))):=by rw[hf.dst];rfl
 show w ((act T).put o.dst (.pointer (some ⟨wa.heap.size,0,none⟩))) (wa.alloc (.cells z.cells t));rw[U];refine hn (fun x=>if x=i then wa.heap.size else a x) _ _ r ?_ ?_
 ·refine⟨by simp[L],fun s x hs=> ?_,⟨fun m x hm=> ?_,inv.box.ne⟩,inv.lo,?_,inv.new,inv.base.alloc E _⟩
  ·have V:eB ops i≠s:=fun e=>by rw[<-e,j.env i hi]at hs;cases hs
   rw[ym V];exact inv.env s x hs
  ·have:=inv.box.at_ m x hm;refine⟨this.1,?_⟩;rw[r _ (q m x hm)];exact this.2
  ·have hx:=inv.ext;cases M:st.d with
   |none=>exact absurd M D
   |some ts=>
    rw[M]at hx;simp only at hx⊢;refine⟨hx.below.alloc E _,fun k l=> ?_⟩;rw[r k (jK l hx.below.size)];exact hx.other k l
 ·have hold:∀g∈fl,g≠i->(arr.setIfInBounds i true).getD g true=true->LD c ops b st T wa g (a g):=fun g n h hx=>j.at_ g n (by rw[getD_set_ne true (nx h)]at hx;exact hx)
  have F:∀g∈fl,g≠i->(arr.setIfInBounds i true).getD g true=true->a g<wa.heap.size:=fun g n h hx=>by
   obtain⟨o',G,H,I⟩:=j.op g n;exact(bU.1 ((hold g n h hx).heap o' G H I)).1
  refine⟨j.op,j.nodup,j.env,fun g n hx=> ?_,fun f N g n h hx hy=> ?_,j.d⟩
  ·by_cases e:g=i
   ·subst e;rw[cc rfl];refine⟨by rw[Jc (by rw[L];exact hl)],E,fun o' G H l=> ?_,fun m x hm=>Nat.ne_of_lt (q m x hm)⟩;obtain⟨_,W,X⟩:=hf.uniq l;subst W;rw[S,<-X]
   ·rw[ar e];obtain⟨o',G,H,I⟩:=j.op g n;have l:=hold g n e hx;refine⟨?_,l.lo,fun Y t2 c2 h2=> ?_,l.ne⟩
    ·rw[ym (hf.inj I (nx e))];exact l.tmp
    ·rw[r _ (F g n e hx)];exact l.heap Y t2 c2 h2
  ·by_cases e:f=i
   ·rw[cc e];have:g≠i:=fun k=>h (e.trans k.symm)
    rw[ar this];exact(Nat.ne_of_lt (F g n this hy)).symm
   ·rw[ar e];by_cases J:g=i
    ·rw[cc J];exact Nat.ne_of_lt (F f N e hx)
    ·rw[ar J];exact j.ne f N g n h (by rw[getD_set_ne true (nx e)]at hx;exact hx) (by rw[getD_set_ne true (nx J)]at hy;exact hy)

theorem zq{ops:Array Oper}:∀(fl:List Nat)(st:St),(clean ops fl st).boxes=st.boxes/\(clean ops fl st).w=st.w/\(clean ops fl st).d=st.d/\(∀f∈fl,get (clean ops fl st).env (eB ops f)=none)/\∀s x,get (clean ops fl st).env s=some x->get st.env s=some x:=by
 intro fl;induction fl with
 |nil=>intro st;exact⟨rfl,rfl,rfl,fun f hf=>(by cases hf),fun s x h=>h⟩
 |cons f r ih=>
  intro st;obtain⟨h1,h2,h3,h4,b⟩:=ih {st with env:=drop st.env (eB ops f)};rw[clean];refine⟨h1,h2,h3,fun g a=> ?_,fun s x hs=> ?_⟩
  ·rcases fi.1 a with rfl|a
   ·cases hx:get (clean ops r {st with env:=drop st.env (eB ops g)}).env (eB ops g)with
    |none=>rfl
    |some y=>
     have:=b _ _ hx;simp only[oI,AM]at this;cases this
   ·exact h4 g a
  ·have:=b s x hs;simp only[oI]at this;split at this
   ·cases this
   ·exact this
theorem JJ{b:Nat->Nat}{st:St}{T:Array Value}{wa:World}{ops:Array Oper}(inv:Inv c b st T wa)(fl:List Nat):Inv c b (clean ops fl st) T wa:=by
 obtain⟨h1,h2,h3,_,a⟩:=zq (ops:=ops) fl st;exact⟨inv.size,fun s x hs=>inv.env s x (a s x hs),by rw[h1];exact inv.box,by rw[h2];exact inv.lo,by rw[h2,h3];exact inv.ext,by rw[h1,h2];exact inv.new,inv.base⟩
theorem JK{b:Nat->Nat}{st:St}{T:Array Value}{wa:World}(inv:Inv c b st T wa):Inv c b st.tZ T wa:=
 ⟨inv.size,inv.env,inv.box,inv.lo,inv.vL,inv.new,inv.base⟩
theorem xi{b:Nat->Nat}{st:St}{T:Array Value}{wa:World}{ops:Array Oper}(inv:Inv c b st T wa)(fl:List Nat):
  Inv c b (tidy ops fl st) T wa/\(tidy ops fl st).boxes=st.boxes/\(∀f∈fl,get (tidy ops fl st).env (eB ops f)=none)/\(fl≠[]->(tidy ops fl st).d≠none):=by
 cases fl with
 |nil=>exact⟨inv,rfl,fun f hf=>(by cases hf),fun h=>absurd rfl h⟩
 |cons f r=>
  obtain⟨h1,_,_,h4,_⟩:=zq (ops:=ops) (f::r) st;exact⟨JK (JJ inv _),h1,h4,fun _ k=>by cases k⟩
theorem Cj.again{b:Nat->Nat}{st e:St}{T k:Array Value}{wa:World}{ops:Array Oper}{arr l:Array Bool}{fl:List Nat}{a:Nat->Nat}(h:Cj c ops b st T wa arr fl a)(o:∀f∈fl,k[eB ops f]? =T[eB ops f]?)(q:e.boxes=st.boxes)
  (r:∀f∈fl,get e.env (eB ops f)=none) (w:fl≠[]->e.d≠none) (i:∀f∈fl,l.getD f true=arr.getD f true):Cj c ops b e k wa l fl a:=by
 refine⟨h.op,h.nodup,r,fun f hf hx=> ?_,fun f hf g n j hx hy=>h.ne f hf g n j (by rw[<-i f hf];exact hx) (by rw[<-i g n];exact hy),w⟩;have:=h.at_ f hf (by rw[<-i f hf];exact hx);exact⟨by rw[o f hf];exact this.tmp,this.lo,this.heap,fun m x hm=>this.ne m x (by rw[<-q];exact hm)⟩
theorem zr{arr:Array Bool}{j:Nat}(h:arr.getD j false=true):arr.getD j true=true:=by
 rcases B7 j arr.size with k|k
 ·simp[k]at h⊢;exact h
 ·simp[rm k]at h

theorem zt{G:Nat}{ops:Array Oper}{Q:Exit->Act->World->Prop}{K:St->Prop}{lw:Option World}{hold:List Nat}{b0:Nat->Nat}{H:St}
  (hq:∀b st W w',K st->Inv c b st W w'->Q .normal (act W) w') (hQ:∀ch a w,¬Q (.panic ch) a w)
  (mC:∀(j:Nat) o cs q,ops[j]? =some o->o.op≠ .select cs q) (Ch:∀(j:Nat) o,ops[j]? =some o->∀e∈o.after,Region.binds .any e=true->e.on<ops.size)
  (fS:∀l∈hold,∀(j:Nat) o,ops[j]? =some o->rF o=true->o.dst≠some l):
  ∀(m n k:Nat)(listed fl:List Nat)(arr:Array Bool)(a b:Nat->Nat)(st:St)(T:Array Value)(w:World),n+k=m->n=k+nA arr fl->Za ops listed fl arr->Inv c b st T w->Cj c ops b st T w arr fl a->
   Still c G ops b0 H lw hold listed b st w->iR c G ops lw hold k listed fl st K->uM c.P ops Q (mD b0 H lw hold) (quietAt c G ops) n arr (act T) w:=by
 intro m;induction m using Nat.strongRecOn with
 |ind m ih=>
 intro n k listed fl arr a b st T w hm hn d inv B nL h;have UZ:∀f∈fl,f<ops.size:=fun f hf=>by
  obtain⟨o,t,cells,ho⟩:=B.op f hf;exact(bU.1 ho.ho).1
 have LH:(∀f∈fl,arr.getD f true=true)->qS c ops fl st K->Q .normal (act T) w:=fun D hl=>by
  obtain⟨S,L,N,O,_⟩:=uf fl b st inv B.nodup B.op (fun f hf=>B.at_ f hf (D f hf)) (fun f hf g F C=>B.ne f hf g F C (D f hf) (D g F)) hl;exact hq _ _ _ _ N O
 have EY:Region.ready .any ops arr=[]->∀f∈fl,arr.getD f true=true:=fun U f hf=>by
  obtain⟨o,t,cells,ho⟩:=B.op f hf;cases hx:arr.getD f true with
  |true=>rfl
  |false=>
   have:f∈Region.ready .any ops arr:=mem_ready.2 ⟨hx,o,ho.ho,fun e he hb=>by rw[ho.free e he]at hb;cases hb⟩;rw[U]at this;cases this
 have RU:∀i∈Region.ready .any ops arr,i∉fl->i∈fE (nT fl listed) 0 ops.toList/\∀o,ops[i]? =some o->∀f∈waited o true fl,arr.getD f true=true:=fun i hi E=>by
  obtain⟨h0,o,ho,D⟩:=mem_ready.1 hi;have bL:=(bU.1 ho).1;refine⟨(rf Ch _ _).2 ⟨?_,o,ho,fun e he hb=> ?_⟩,fun o' K8 f hf=> ?_⟩
  ·cases hx:lC i (nT fl listed)with
   |false=>rfl
   |true=>
    rcases lH.1 hx with k|k
    ·exact absurd k E
    ·have:=d.QV i bL k;rw[h0]at this;cases this
  ·exact lH.2 ((d.arr e.on (Ch i o ho e he hb) (zr (D e he hb))).symm)
  ·rw[ho]at K8;cases K8;obtain⟨_,hw⟩:=gi.1 hf;obtain⟨e,he,hb,rfl⟩:=Dr.1 hw;exact zr (D e he hb)
 have LI:∀n',n=n'+1->∀i∈Region.ready .any ops arr,i∈fl->wpOp c.P ops Q i (fun a' w'=>(quietAt c G ops i=true->mD b0 H lw hold w->mD b0 H lw hold w')/\uM c.P ops Q (mD b0 H lw hold) (quietAt c G ops) n' (arr.setIfInBounds i true) a' w') (act T) w:=fun n' GR i hi E=>by
  have h0:=(mem_ready.1 hi).1;have bL:i<arr.size:=by rw[d.size];exact UZ i E
  refine HC d.size E h0 inv B fun a' W w' gy O fi'=>⟨fun _ I=>I.aj gy,?_⟩
  have hu:=LF bL h0 B.nodup E;refine ih (n'+k) om n' k listed fl _ a' b st W w' rfl om ⟨by simp[d.size],fun j hj hx=> ?_,fun j hj hx=> ?_,d.XO⟩ O fi' (fun D=> ?_) h
  ·by_cases e:i=j
   ·subst e;simp[bL]
   ·rw[getD_set_ne true e];exact d.QV j hj hx
  ·by_cases e:i=j
   ·subst e;exact .inr E
   ·rw[getD_set_ne true e]at hx;exact d.arr j hj hx
  ·obtain⟨I,hB⟩:=nL D;exact⟨I.aj gy,hB⟩
 cases k with
 |zero=>
  simp only[iR]at h;cases he:fE (nT fl listed) 0 ops.toList with
  |cons x r=>simp[he]at h
  |nil=>
   rw[he]at h;cases n with
   |zero=>
    have D:=JG.1 (by omega:nA arr fl=0);refine⟨zz.2 fun i hi=> ?_,LH D h⟩;by_cases E:i∈fl
    ·have:=(mem_ready.1 hi).1;rw[D i E]at this;cases this
    ·have:=(RU i hi E).1;rw[he]at this;cases this
   |succ n'=>
    refine⟨fun U=>LH (EY U) h,fun i hi=> ?_⟩;by_cases E:i∈fl
    ·exact LI n' rfl i hi E
    ·have:=(RU i hi E).1;rw[he]at this;cases this
 |succ k=>
  simp only[iR]at h;cases Bo:xc c G ops fl (fE listed 0 ops.toList)with
  |some f=>
   simp only[Bo]at h;obtain⟨hfm,A,OP⟩:=EV Bo;obtain⟨o,t,cells,gr,_⟩:=JE OP;obtain⟨U1,_⟩:=(rf Ch _ _).1 hfm;have Zc:=(bU.1 gr.ho).1;have X:arr.getD f true=false:=by
    cases hx:arr.getD f true with
    |false=>rfl
    |true=>
     rcases d.arr f Zc hx with k|k
     ·rw[U1]at k;cases k
     ·exact absurd k A
   obtain⟨t1,t2,t3,t4⟩:=xi (ops:=ops) inv (f::fl);refine ih (n+k) om n k listed (f::fl) arr a b _ T w rfl (by rw[nA,ar (by simp[X])];omega) ⟨d.size,d.QV,fun j hj hx=>(d.arr j hj hx).imp id fun h=>by simp[h],fun g F=> ?_⟩ t1
    ⟨fun g F=> ?_,xu.2 ⟨A,B.nodup⟩,t3,fun g F hx=> ?_,fun g F g' EW C hx hy=> ?_,t4⟩ (fun D=> ?_) h
   ·rcases fi.1 F with rfl|F
    ·exact U1
    ·exact d.XO g F
   ·rcases fi.1 F with rfl|F
    ·exact⟨o,t,cells,gr⟩
    ·exact B.op g F
   ·rcases fi.1 F with rfl|F
    ·rw[X]at hx;cases hx
    ·have:=B.at_ g F hx;exact⟨this.tmp,this.lo,this.heap,fun m x hm=>this.ne m x (by rw[<-t2];exact hm)⟩
   ·rcases fi.1 F with rfl|F
    ·rw[X]at hx;cases hx
    ·rcases fi.1 EW with rfl|EW
     ·rw[X]at hy;cases hy
     ·exact B.ne g F g' EW C hx hy
   ·obtain⟨I,hB⟩:=nL D;rw[t2];exact⟨I,hB⟩
  |none=>
   simp only[Bo]at h;obtain⟨n',rfl⟩:∃n',n=n'+1:=⟨k+nA arr fl,om⟩
   cases hf:kZ c G ops listed (fE listed 0 ops.toList)with
   |some i=>
    simp only[hf]at h;obtain⟨JD,o,hi,Dq,Y5⟩:=sf hf;have ue:ops.toList[i]? =some o:=by simpa using hi
    simp only[ue]at h;obtain⟨RV,o',K8,U2⟩:=(rf Ch _ _).1 JD;rw[hi]at K8;cases K8;have V:i<ops.size:=(bU.1 hi).1;have E:i∉fl:=fun k=>by
     obtain⟨Y,t2,c2,h2⟩:=B.op i k;have:=hi.symm.trans h2.ho;cases this;unfold early at Dq;rw[h2.op]at Dq;cases Dq
    have X:arr.getD i true=false:=by
     cases hx:arr.getD i true with
     |false=>rfl
     |true=>
      rcases d.arr i V hx with k|k
      ·rw[RV]at k;cases k
      ·exact absurd k E
    have re:i∈Region.ready .any ops arr:=mem_ready.2 ⟨X,o,hi,fun e he hb=>by
     have h1:=Ch i o hi e he hb;have h2:=d.QV e.on h1 (U2 e he hb);have h3:e.on<arr.size:=by rw[d.size];exact h1
     simp[h3]at h2⊢;exact h2⟩
    obtain⟨L,h,O,wV⟩:=nr inv h;have zl:=fun j R (hj:ops[j]? =some R) (C:j≠i)=>ud ops.toList 0 Y5 j R (by simpa using hj) om
    simp only[oi]at zl;obtain⟨xP,RT⟩:=zk (ops:=ops) (listed:=listed) (i:=i) ops.toList 0 [] (fun k=>by simp) (fun j R _ hj=>by cases hj) (fun j hj=>by cases hj);have EU:∀j,lC j (qj listed i 0 ops.toList [])=true->arr.getD j false=false:=fun j hj=>by
     by_cases fL:j<ops.size
     ·cases hx:arr.getD j false with
      |false=>rfl
      |true=>
       rcases d.arr j fL (zr hx)with k|k
       ·rw[RT j hj]at k;cases k
       ·obtain⟨Y,t2,c2,h2⟩:=B.op j k;obtain⟨e,he,hb,_⟩:=xP j Y h2.ho hj;rw[h2.free e he]at hb;cases hb
     ·rw[OY,rm (by rw[d.size];omega)];rfl
    have xQ:∀j R,ops[j]? =some R->j≠i->arr.getD j true=false->¬lC j (qj listed i 0 ops.toList [])=true->
      o.apart ops R=true/\∀w w',(quietAt c G ops j=true->mD b0 H lw hold w->mD b0 H lw hold w')->(iQ o=true->mD b0 H lw hold w)->(iQ o=true->mD b0 H lw hold w'):=by
     intro j R hj C X J;have hs:=zl j R hj C;have fL:j<ops.size:=(bU.1 hj).1;have nY:lC j listed=false:=by
      cases hx:lC j listed with
      |false=>rfl
      |true=>have:=d.QV j fL hx;rw[X]at this;cases this
     split at hs
     ·exact absurd hs.2 J
     ·rename_i e;rw[nY]at hs;refine⟨(hs.resolve_left sm).resolve_left J,fun w w' hk I hl=> ?_⟩;have:quietAt c G ops j=true:=by
       unfold quietAt;rw[hj];simp only;rw[hl]at e;simpa using e
      exact hk this (I hl)
    have zm:iQ o=true->mD b0 H lw hold w/\∀l∈hold,b l=b0 l/\∀M,bO st.boxes l=some M->∃x,bO H.boxes l=some x/\x.cells=M.cells/\x.ty=M.ty:=fun hl=>nL fun j hj=>by
     unfold quietAt;split
     ·rename_i R Ot;by_cases C:j=i
      ·subst C;rw[dj.2 hj]at RV;cases RV
      ·have hs:=zl j R Ot C;cases QS:iJ (fj c.mode G j) R with
       |true=>rfl
       |false=>
        rw[hl,QS]at hs;simp only[GK,Bool.and_self]at hs;rw[dj.2 hj]at hs;cases hs.1
     ·rfl
    have RW:∀f∈fl,o.dst≠some (eB ops f):=fun f A=>by
     obtain⟨Y,t2,c2,h2⟩:=B.op f A;exact h2.other i o hi fun e=>E (e▸A)
    have xj:∀f∈fl,(arr.setIfInBounds i true).getD f true=arr.getD f true:=fun f A=>getD_set_ne true fun e=>E (e▸A)
    have next:∀(Z:St)(v:Value),Z.boxes=L.boxes->Inv c b Z ((act T).put o.dst v).tmps w->iR c G ops lw hold k (i::listed) fl (tidy ops fl Z) K->
      uM c.P ops Q (mD b0 H lw hold) (quietAt c G ops) n' (arr.setIfInBounds i true) (act ((act T).put o.dst v).tmps) w:=fun Z v hb lG N=>by
     obtain⟨t1,t2,t3,t4⟩:=xi (ops:=ops) lG fl;refine ih (n'+k) om n' k (i::listed) fl _ a b _ _ w rfl (by rw[zp xj];omega) ⟨by simp[d.size],fun j hj hx=> ?_,fun j hj hx=> ?_,fun f A=> ?_⟩ t1
      (B.again (fun f A=>xh (RW f A)) (t2.trans (hb.trans wV)) t3 t4 xj) (fun D=> ?_) N
     ·by_cases e:i=j
      ·subst e;simp[d.size,V]
      ·rw[getD_set_ne true e];rcases fi.1 (dj.1 hx)with k|k
       ·exact absurd k.symm e
       ·exact d.QV j hj (dj.2 k)
     ·by_cases e:i=j
      ·subst e;exact .inl (dj.2 sm)
      ·rw[getD_set_ne true e]at hx;exact(d.arr j hj hx).imp (fun h=>dj.2 (by simp[dj.1 h])) id
     ·cases hx:lC f (i::listed)with
      |false=>rfl
      |true=>
       rcases fi.1 (dj.1 hx)with k|k
       ·exact absurd (k▸A) E
       ·have:=d.XO f A;rw[dj.2 k]at this;cases this
     ·rw[t2,hb,wV];exact nL fun j hj=>D j (by simp[hj])
    have ey:yielded ops (act T).tmps=yielded ops T:=rfl;cases hw:Region.wanted o (yielded ops T)with
    |true=>
     rw[hw]at h;simp only at h;have hv:=pv (Ok:=fun w=>iQ o=true->mD b0 H lw hold w) (lw:=lw) (hold:=some hold) (b:=b) (fun hl w1 iT=>by
      have hH:=iT hl;refine⟨fun l x hm hx=> ?_,fun v hv a u hu=>hH.2 v hv a u hu⟩;have iM:l∈hold:=dj.1 hm;rw[wV]at hx;obtain⟨e1,e2⟩:=(zm hl).2 l iM;obtain⟨y,hy,f1,f2⟩:=e2 x hx;rw[e1,<-f1,<-f2];exact hH.1 l iM y hy) O.env (fun cs q=>mC i o cs q hi) h
     obtain⟨x,hp,fR⟩:=hv;obtain⟨Z,N,lG,e,hb⟩:=lj O (v:=x.den b) rfl hp;refine uM.first (S':=fun w=>iQ o=true->mD b0 H lw hold w) hi mC (fun ch a w hp=>absurd hp (hQ _ _ _)) xP n' arr (act T) w xQ EU re (.inl ⟨by rw[ey];exact hw,fun w1 iT=>fR w1 iT⟩) (fun hl=>(zm hl).1) ?_;rw[e];exact next Z _ hb lG N
    |false=>
     rw[hw]at h;simp only at h;obtain⟨Z,N,lG,e,hb⟩:=lj O (v:=undef) rfl h;refine uM.first (S':=fun w=>iQ o=true->mD b0 H lw hold w) hi mC (fun ch a w hp=>absurd hp (hQ _ _ _)) xP n' arr (act T) w xQ EU re (.inr ⟨by rw[ey];exact hw,rfl⟩) (fun hl=>(zm hl).1) ?_;rw[e];exact next Z _ hb lG N
   |none=>
    simp only[hf]at h;refine⟨fun U=> ?_,fun i hi=> ?_⟩
    ·have D:=EY U;have he:fE (nT fl listed) 0 ops.toList=[]:=zz.2 fun j hj=>by
      obtain⟨j0,o,ho,hw⟩:=(rf Ch _ _).1 hj;have fL:=(bU.1 ho).1;have:j∈Region.ready .any ops arr:=mem_ready.2 ⟨?_,o,ho,fun e he hb=> ?_⟩
      ·rw[U]at this;cases this
      ·cases hx:arr.getD j true with
       |false=>rfl
       |true=>
        have:=lH.2 ((d.arr j fL hx).symm);rw[j0]at this;cases this
      ·have h1:=Ch j o ho e he hb;have h2:arr.getD e.on true=true:=by
        rcases lH.1 (hw e he hb)with k|k
        ·exact D _ k
        ·exact d.QV _ h1 k
       have h3:e.on<arr.size:=by rw[d.size];exact h1
       simp[h3]at h2⊢;exact h2
     rw[he]at h;exact LH D h
    ·by_cases E:i∈fl
     ·exact LI n' rfl i hi E
     ·obtain⟨JD,LJ⟩:=RU i hi E;have h:=Ci h (fun e=>by rw[e]at JD;cases JD) i JD;obtain⟨h00,o,ho,acd⟩:=mem_ready.1 hi;have K8:ops.toList[i]? =some o:=by simpa using ho
      have V:i<ops.size:=(bU.1 ho).1;simp only[K8]at h;have pM:=fun f (A:f∈waited o true fl)=>(gi.1 A).1
      have LJ:=LJ o ho;obtain⟨b1,Y9,h,inv1,e1,e2,e3,e4⟩:=uf (waited o true fl) b st inv (vS B.nodup) (fun f A=>B.op f (pM f A)) (fun f A=>B.at_ f (pM f A) (LJ f A)) (fun f A g F C=>B.ne f (pM f A) g (pM g F) C (LJ f A) (LJ g F)) h;have U3:∀l∈hold,∀f∈waited o true fl,l≠eB ops f:=fun l hl f A e=>by
       obtain⟨Y,t2,c2,h2⟩:=B.op f (pM f A);exact fS l hl f Y h2.ho (by unfold rF;rw[h2.op]) (by rw[h2.dst,e])
      have Zd:(∀j∈listed,quietAt c G ops j=true)->mD b0 H lw hold w/\∀l∈hold,b1 l=b0 l/\∀M,bO Y9.boxes l=some M->∃x,bO H.boxes l=some x/\x.cells=M.cells/\x.ty=M.ty:=fun D=>by
       obtain⟨I,hB⟩:=nL D;refine⟨I,fun l hl=> ?_⟩;obtain⟨g1,g2⟩:=hB l hl;refine⟨(e1 l (U3 l hl)).trans g1,fun M Cg=> ?_⟩;rcases e2 l M Cg with⟨f,A,k1,_⟩|⟨k1,_⟩
       ·exact absurd k1 (U3 l hl f A)
       ·exact g2 M k1
      have HA:quietAt c G ops i=iJ (fj c.mode G i) o:=by unfold quietAt;rw[ho]
      have LK:∀(L QW:St)(S:Nat->Nat)(w':World),(iJ (fj c.mode G i) o=true->Kept o b1 Y9 w S L w')->QW.boxes=L.boxes->Still c G ops b0 H lw hold (i::nT (waited o true fl) listed) S QW w':=fun L QW S w' si wV D=>by
       obtain⟨k1,k2,k3⟩:=si (by rw[<-HA];exact D i sm);obtain⟨I,hB⟩:=Zd fun j hj=>D j (fi.2 (.inr (dj.1 (lH.2 (.inr (dj.2 hj))))))
       refine⟨I.aj k2,fun l hl=> ?_⟩;obtain⟨q1,q2⟩:=k3 l (fun hn=>fS l hl i o ho hn);obtain⟨g1,g2⟩:=hB l hl;refine⟨q1.trans g1,fun M Cg=> ?_⟩;rw[wV]at Cg;obtain⟨y,hy,f1,f2⟩:=q2 M Cg;obtain⟨z,hz,h1,h2⟩:=g2 y hy;exact⟨z,hz,h1.trans f1,h2.trans f2⟩
      have U4:∀j,j<ops.size->lC j (i::nT (waited o true fl) listed)=true->(arr.setIfInBounds i true).getD j true=true:=fun j hj hx=>by
       by_cases e:i=j
       ·subst e;simp[d.size,V]
       ·rw[getD_set_ne true e];rcases fi.1 (dj.1 hx)with k|k
        ·exact absurd k.symm e
        ·rcases lH.1 (dj.2 k)with k|k
         ·exact LJ j k
         ·exact d.QV j hj k
      have JH:∀j,j<ops.size->(arr.setIfInBounds i true).getD j true=true->lC j (i::nT (waited o true fl) listed)=true∨j∈waited o false fl:=fun j hj hx=>by
       by_cases e:i=j
       ·subst e;exact .inl (dj.2 sm)
       ·rw[getD_set_ne true e]at hx;rcases d.arr j hj hx with k|k
        ·exact .inl (dj.2 (fi.2 (.inr (dj.1 (lH.2 (.inr k))))))
        ·cases hwj:lF o j with
         |true=>exact .inl (dj.2 (fi.2 (.inr (dj.1 (lH.2 (.inl (gi.2 ⟨k,hwj⟩)))))))
         |false=>exact .inr (gi.2 ⟨k,hwj⟩)
      have LL:=EX (arr:=arr) (o:=o) LJ;have J:∀f∈waited o false fl,f∈fl:=fun f A=>(gi.1 A).1
      have xj:∀f∈waited o false fl,(arr.setIfInBounds i true).getD f true=arr.getD f true:=fun f A=>getD_set_ne true fun e=>E (e▸J f A)
      cases U:waited o false fl with
      |nil=>
       rw[U]at h JH LL;refine se (fun cs q=>mC i o cs q ho) inv1 h ho fun S L W w' N O si=>⟨fun QS I=>I.aj (si (by rw[<-HA];exact QS)).2.1,?_⟩
       exact ih (n'+k) om n' k _ [] _ a S L W w' rfl (by rw[<-LL]at hn;simp only[nA]at hn⊢;omega) ⟨by simp[d.size],U4,JH,fun f A=>by cases A⟩ O
        ⟨fun f A=>(by cases A),Pq,fun f A=>(by cases A),fun f A=>(by cases A),fun f A=>(by cases A),fun h=>absurd rfl h⟩ (LK L L S w' si rfl) N
      |cons g r=>
       rw[U]at h;simp only at h;cases QX:iJ (fj c.mode G i) o&& !rF o with
       |false=>rw[QX]at h;exact h.elim
       |true=>
        rw[QX]at h;simp only[eb,tW]at QX;simp only at h;rw[<-U]at h;refine Ds (fun cs q=>mC i o cs q ho) inv1 h ho fun S L W w' N O si hT=>⟨fun QS I=>I.aj (si QX.1).2.1,?_⟩
        obtain⟨k1,k2,k3⟩:=si QX.1;obtain⟨t1,t2,t3,t4⟩:=xi (ops:=ops) O (waited o false fl);have RW:∀f∈waited o false fl,o.dst≠some (eB ops f):=fun f A=>by
         obtain⟨Y,t2,c2,h2⟩:=B.op f (J f A);exact h2.other i o ho fun e=>E (e▸J f A)
        refine ih (n'+k) om n' k _ (waited o false fl) _ a S _ W w' rfl (by rw[zp xj];omega) ⟨by simp[d.size],U4,JH,fun f A=> ?_⟩ t1
         ⟨fun f A=>B.op f (J f A),vS B.nodup,t3,fun f A hx=> ?_,fun f A g' EW C hx hy=>B.ne f (J f A) g' (J g' EW) C (by rw[<-xj f A];exact hx) (by rw[<-xj g' EW];exact hy),t4⟩ (LK L _ S w' si t2) N
        ·cases hx:lC f (i::nT (waited o true fl) listed)with
         |false=>rfl
         |true=>
          rcases fi.1 (dj.1 hx)with k|k
          ·exact absurd (k▸J f A) E
          ·rcases lH.1 (dj.2 k)with k|k
           ·have h1:=(gi.1 k).2;rw[(gi.1 A).2]at h1;cases h1
           ·have:=d.XO f (J f A);rw[k]at this;cases this
        ·rw[xj f A]at hx;have JF:=B.at_ f (J f A) hx;obtain⟨Y,tt2,c2,h2⟩:=B.op f (J f A);have JI:a f<w.heap.size:=(bU.1 (JF.heap Y tt2 c2 h2)).1;refine⟨by rw[hT _ (RW f A)];exact JF.tmp,JF.lo,fun o3 t3 c3 h3=>by rw[k2 _ JI];exact JF.heap o3 t3 c3 h3,fun m x hm=> ?_⟩;rw[t2]at hm;obtain⟨q1,q2⟩:=k3 m (fun hn=>by rw[QX.2]at hn;cases hn);obtain⟨y,hy,_⟩:=q2 x hm;rw[q1];rcases e2 m y hy with⟨f',RX,k4,k5⟩|⟨k4,k5⟩
         ·rw[k5];refine B.ne f' (pM f' RX) f (J f A) (fun e=> ?_) (LJ f' RX) hx;have h1:=(gi.1 RX).2;rw[e,(gi.1 A).2]at h1;cases h1
         ·rw[k5];exact JF.ne m y k4
end
section
variable {c:Cx}

theorem sj{ops:List Oper}(h:mz ops=true):∀o∈ops,∀cs q,o.op≠ .select cs q:=by
 induction ops with
 |nil=>intro o ho;cases ho
 |cons x r ih=>
  intro o ho cs q e;simp only[mz]at h;rcases fi.1 ho with rfl|ho
  ·rw[e]at h;simp at h
  ·split at h
   ·cases h
   ·exact ih h o ho cs q e

theorem Dt{n:Nat}{ops:List Oper}(h:vI n ops=true):∀o∈ops,∀e∈o.after,Region.binds .any e=true->e.on<n:=by
 induction ops with
 |nil=>intro o ho;cases ho
 |cons x r ih=>
  intro o ho e he hb;simp only[vI,eb,gu]at h;rcases fi.1 ho with rfl|ho
  ·have:=h.1 e (by simpa using he);simpa[hb,QH]using this
  ·exact ih h.2 o ho e he hb

def LM(c:Cx)(K:St->Prop):Exit->Act->World->Prop
 | .normal,a,w=>∃b st T,a=act T/\K st/\Inv c b st T w
 |_,_,_=>False

theorem Du{n:Nat}{ops:Array Oper}{draw:Bool}{K:St->Prop}{b:Nat->Nat}{st:St}{T:Array Value}{wa:World}(hm:c.P.follows .mixedOrders=true)(inv:Inv c b st T wa)
  (h:region c n ops draw st K):(Code.region n ops draw).wp c.P (LM c K) (act T) wa:=by
 unfold region at h;have B:∀b st y w',K st->Inv c b st y w'->LM c K .normal (act y) w':=fun b st y w' h1 h2=>⟨b,st,y,rfl,h1,h2⟩
 cases draw with
 |false=>
  simp only at h;cases m:mz ops.toList with
  |false=>rw[m]at h;exact h.elim
  |true=>
   rw[m]at h;have z:∀(j:Nat) o cs q,ops[j]? =some o->o.op≠ .select cs q:=fun j o cs q ho=>sj m o (by simpa using vf ho) cs q
   refine wp_region ?_;have:=Dp (Q:=LM c K) B z ops.toList 0 (fun k=>by simp) b st T wa inv h;rw[List.range_eq_range',<-uW];exact this
 |true=>
  simp only at h;cases m:mz ops.toList&&vI ops.toList.length ops.toList with
  |false=>rw[m]at h;exact h.elim
  |true=>
   rw[m]at h;simp only[eb]at m;have z:∀(j:Nat) o cs q,ops[j]? =some o->o.op≠ .select cs q:=fun j o cs q ho=>sj m.1 o (by simpa using vf ho) cs q
   have C:∀(j:Nat) o,ops[j]? =some o->∀e∈o.after,Region.binds .any e=true->e.on<ops.size:=fun j o ho e he hb=>by
    have:=Dt m.2 o (by simpa using vf ho) e he hb;simpa using this
   have hex:∃g,Inv c b g T wa/\(match Nat.beq (fj c.mode n 9998) 8 with
     |true=>iR c n ops (match g.d with|none=>some g.w|some _=>none) (uK g ops) ops.toList.length [] [] g.tZ K
     |false=>pt c n ops (match g.d with|none=>some g.w|some _=>none) (uK g ops) ops.toList.length [] g.tZ K):=by
    simp only at h;cases hb:Nat.beq (fj c.mode n 9999) 3 with
    |true=>
     rw[hb]at h;simp only[EL]at h;obtain⟨g,h,i,_⟩:=dJ inv h;exact⟨g,i,h⟩
    |false=>
     rw[hb]at h;exact⟨st,inv,h⟩
   obtain⟨g,i,h⟩:=hex;refine wp_region_any hm ?_;have D:Inv c b g.tZ T {wa with drawn:=wa.drawn+1}:=by
    refine⟨i.size,i.env,⟨i.box.at_,i.box.ne⟩,i.lo,?_,i.new,i.base.drew⟩;have:=i.vL;exact⟨this.below.drew,this.other⟩
   have E:∀l∈uK g ops,∀(j:Nat) o,ops[j]? =some o->rF o=true->o.dst≠some l:=fun l hl j o ho hn A=>by
    have h1:=Bz (ops:=ops.toList) (by simpa using vf ho) hn A;unfold uK at hl;have h2:=(BD.1 hl).2;rw[dj.2 h1]at h2;cases h2
   have r:Rel ops [] (Array.replicate ops.size false):=⟨sm,fun j hj=>by simp[hj,lC]⟩;have F:Still c n ops b g (match g.d with|none=>some g.w|some _=>none) (uK g ops) [] b g.tZ {wa with drawn:=wa.drawn+1}:=fun _=>by
    refine⟨⟨fun l hl x hx=>(i.box.at_ l x hx).2,fun v hv a u hu=> ?_⟩,fun l hl=>⟨rfl,fun x hx=>⟨x,hx,rfl,rfl⟩⟩⟩;have hx:=i.ext;cases A:g.d with
    |none=>rw[A]at hv hx;simp only at hv hx;cases hv;rw[hx];exact hu
    |some ts=>rw[A]at hv;cases hv
   cases G:Nat.beq (fj c.mode n 9998) 8 with
   |false=>
    rw[G]at h;have:=BA (Q:=LM c K) B (fun _ _ _ h=>h) z C E ops.toList.length [] (Array.replicate ops.size false) b g.tZ T {wa with drawn:=wa.drawn+1} r D F h;rw[uW]at this;exact this.wpAny
   |true=>
    rw[G]at h;have:=zt (Q:=LM c K) B (fun _ _ _ h=>h) z C E _ ops.toList.length ops.toList.length [] [] (Array.replicate ops.size false) b b g.tZ T {wa with drawn:=wa.drawn+1} rfl rfl
     ⟨sm,fun j hj hx=>(by cases hx),fun j hj hx=>(by simp[hj]at hx),fun f hf=>(by cases hf)⟩ D ⟨fun f hf=>(by cases hf),Pq,fun f hf=>(by cases hf),fun f hf=>(by cases hf),fun f hf=>(by cases hf),fun h=>absurd rfl h⟩ F h
    rw[uW]at this;exact this.wpAny

def base(f:FuncId):Frame:={(default:Frame)with fn:=f,kind:= .normal}

theorem Pt.step{P:Program}{f:FuncId}{todo a:List Item}{T:Array Value}{w:World}{R:Ending->World->Prop}
  (hs:∀cs,step P (lone ((base f).at ⟨T,[]⟩ todo) cs w)= .next (lone ((base f).at ⟨T,[]⟩ a) cs w)) (h:Pt P f a T w R):Pt P f todo T w R:=fun cs=>by
 obtain⟨e,w',fr,h1,h2,h3,h4⟩:=h cs;exact⟨e,w',fr,h1,.of_steps (.one (hs cs)) h2,h3,h4⟩

theorem Pt.of_wp{P:Program}{f:FuncId}{g:Code}{k:List Item}{T:Array Value}{w:World}{R:Ending->World->Prop}{Q:Exit->Act->World->Prop}
  (h:g.wp P Q (act T) w) (i:∀e a w',Q e a w'->e= .normal/\∃b,a=act b/\Pt P f k b w' R):Pt P f (.code g::k) T w R:=fun cs=>by
 obtain⟨e,a,w',j,l⟩:=h (base f) k cs;obtain⟨rfl,b,rfl,m⟩:=i e a w' j;obtain⟨e,d,fr,h1,h2,h3,h4⟩:=m cs;exact⟨e,d,fr,h1,.of_steps l h2,h3,h4⟩

def sk(T:Array Value):ResultVar->Sem Value
 | .tmp t=>pure (T.getD t undef)
 | .cell a t=>do loadVar t (<-asAddr (T.getD a undef))

theorem Dv{b:Nat->Nat}{st:St}{T:Array Value}{wa:World}(inv:Inv c b st T wa):∀{l:List ResultVar} {vs:List Value},results c st l=some vs->
  l.length=vs.length/\∀(i:Nat) r v,l[i]? =some r->vs[i]? =some v->(sk T r).run c.P wa= .ok v wa:=by
 intro l;induction l with
 |nil=>intro vs h;simp only[results]at h;cases h;exact⟨rfl,fun i r v h=>by simp at h⟩
 |cons x r ih=>
  intro vs h;have fin:∀v ws,results c st r=some ws->vs=v::ws->(sk T x).run c.P wa= .ok v wa->(x::r).length=vs.length/\∀(i:Nat) y u,(x::r)[i]? =some y->vs[i]? =some u->(sk T y).run c.P wa= .ok u wa:=by
   intro v ws d e hx;obtain⟨h1,h2⟩:=ih d;subst e;refine⟨by simp[h1],fun i y u hy hu=> ?_⟩;cases i with
   |zero=>simp at hy hu;subst hy;subst hu;exact hx
   |succ i=>exact h2 i y u (by simpa using hy) (by simpa using hu)
  cases x with
  |tmp t=>
   simp only[results]at h;cases hx:(get st.env t).bind SV.val with
   |none=>simp[hx]at h
   |some v=>
    cases d:results c st r with
    |none=>simp[hx,d]at h
    |some ws=>
     simp only[hx,d]at h;cases h;obtain⟨g,h1,h2⟩:=uz.1 hx;have:=inv.env t g h1;exact fin _ _ d rfl (by simp[sk,this,qT h2 b])
  |cell a t=>
   simp only[results]at h;cases hx:get st.env a with
   |none=>simp[hx]at h
   |some g=>
    cases d:results c st r with
    |none=>cases g<;>simp[hx,d]at h
    |some ws=>
     rw[hx,d]at h;cases g<;>try (simp at h;done)
     rename_i lb off;simp only at h;cases hb:tr c.P st.boxes t lb off with
     |none=>simp[hb]at h
     |some v=>
      simp only[hb]at h;cases h;have h1:=inv.env a _ hx;have h2:=ua (b:=b) hb (fun x hx=>(inv.box.at_ lb x hx).2);exact fin _ _ d rfl (by simp[sk,Sem.run_bind,h1,SV.den,asAddr,h2])

theorem LO{P:Program}{α β:Type}(f:α->Sem β)(w:World):∀(l:List α)(vs:List β),l.length=vs.length->(∀(i:Nat) r v,l[i]? =some r->vs[i]? =some v->(f r).run P w= .ok v w)->
  (l.mapM f).run P w= .ok vs w:=by
 intro l;induction l with
 |nil=>intro vs hl _;cases vs with
  |nil=>rfl
  |cons v r=>simp at hl
 |cons x r ih=>
  intro vs hl h;cases vs with
  |nil=>simp at hl
  |cons v ws=>
   have h0:=h 0 x v sm sm;have h1:=ih ws (by simpa using hl) (fun i a b d hv=>h (i+1) a b (by simpa using d) (by simpa using hv));simp[List.mapM_cons,Sem.run_bind,h0,h1]

theorem Fa{b:Nat->Nat}{st:St}{T:Array Value}{wa:World}{fn:Func}(hf:c.P.funcs[c.f]? =some fn)(e:c.res=fn.results.toList)(inv:Inv c b st T wa)(h:leave c st):
  ∃v,(Go.results fn T).run c.P wa= .ok v wa/\c.R v wa:=by
 unfold leave at h;cases a:results c st c.res with
 |none=>rw[a]at h;exact h.elim
 |some vs=>
  rw[a]at h;simp only at h;obtain⟨h0,h1⟩:=Dv inv a;rw[e]at h0 h1;have h2:=LO (P:=c.P) (sk T) wa _ _ h0 h1;obtain⟨g,d,i,hw,_⟩:=dJ inv h;rw[hw]at d;refine⟨_,?_,d⟩;have h3:(fn.results.mapM (sk T)).run c.P wa= .ok vs.toArray wa:=by
   rw[Array.mapM_eq_mapM_toList];simp[Sem.run_map,h2]
  have h4:Go.results fn T=(do let vs<-fn.results.mapM (sk T);pure (if h:vs.size=1 then vs[0]else .tuple vs)):=by
   unfold Go.results
   congr 2
  rw[h4];simp only[Sem.run_bind,h3,Result.andThen_ok,Sem.run_pure]
  congr 1
  cases vs with
  |nil=>rfl
  |cons v r=>cases r<;>simp[Lu]

theorem Pt.RY{P:Program}{f:FuncId}{todo a:List Item}{T:Array Value}{w:World}{R:Ending->World->Prop}(h:Pt P f todo T w R)
  (hs:∀cs,Go.step P (lone ((base f).at ⟨T,[]⟩ todo) cs w)= .next (lone ((base f).at ⟨T,[]⟩ a) cs w)) (d:∀e w',R e w'->∃v,e= .returned v):Pt P f a T w R:=fun cs=>by
 obtain⟨e,w',fr,h1,h2,h3,h4⟩:=h cs;obtain⟨v,rfl⟩:=d e w' h1;refine⟨_,w',fr,h1,?_,h3,h4⟩;obtain⟨n,hn⟩:=h2;cases n with
 |zero=>
  exfalso;simp only[runN]at hn;have i:lone ((base f).at ⟨T,[]⟩ todo) cs w=lone fr cs w':=by cases hn;rfl
  have j:=dB (fun m:Machine=>(m.gs[0]?).map (fun g=>g.frame.mode)) i;simp[lone,Frame.at,h4.1]at j
 |succ n=>
  refine⟨n,?_⟩;simp only[runN]at hn;have b:=hs cs;unfold base at b;rw[b]at hn;exact hn

theorem zu{b:Nat->Nat}{env:Env}{T:Array Value}(he:po b env T):∀{l:List Nat} {a:Env},restrict env l=some a->po b a T:=by
 intro l;induction l with
 |nil=>intro a h;simp only[restrict]at h;cases h;intro s x hs;simp[get]at hs
 |cons s r ih=>
  intro a h;simp only[restrict]at h;cases hx:get env s with
  |none=>simp[hx]at h
  |some x=>
   cases d:restrict env r with
   |none=>simp[hx,d]at h
   |some l=>
    simp only[hx,d]at h;cases h;intro m y hy;rw[ia]at hy;split at hy
    ·rename_i e;simp only at e;subst e;cases hy;rw[he _ x hx];cases x<;>rfl
    ·exact ih d m y hy

theorem nM{a:List qO}:∀{l:List Nat} {bs':List qO},my a l=some bs'->∀m x,bO bs' m=some x->x.new=false/\∃y,bO a m=some y/\y.cells=x.cells/\y.ty=x.ty:=by
 intro l;induction l with
 |nil=>intro bs' h;simp only[my]at h;cases h;intro m x hm;simp[bO]at hm
 |cons s r ih=>
  intro bs' h;simp only[my]at h;cases hx:bO a s with
  |none=>simp[hx]at h
  |some x=>
   cases b:my a r with
   |none=>simp[hx,b]at h
   |some l=>
    simp only[hx,b]at h;cases h;intro m y hy;rw[da]at hy;split at hy
    ·rename_i e;simp only at e;cases hy;rw[<-e,mB hx];exact⟨rfl,x,hx,rfl,rfl⟩
    ·exact ih b m y hy

theorem JL{b:Nat->Nat}{st:St}{T:Array Value}{wa:World}(inv:Inv c b st T wa)(todo:List Item)(live:List Nat×List Nat)(h:cutAt c todo st live):Pt c.P c.f todo T wa (Out c.B c.w0 c.R):=by
 unfold cutAt at h;cases h1:restrict st.env live.1 with
 |none=>rw[h1]at h;exact h.elim
 |some env=>
  cases h2:my st.boxes live.2 with
  |none=>rw[h1,h2]at h;exact h.elim
  |some boxes=>
   rw[h1,h2]at h;simp only at h;obtain⟨C,h,g,hw,_⟩:=dJ inv h;rw[hw]at h;have d:=g.lo;rw[hw]at d;have hB:rX b c.B boxes wa:=by
    refine⟨fun l x hx=> ?_,fun l m x y hx hy a=> ?_⟩
    ·obtain⟨_,y,hy,i,j⟩:=nM h2 l x hx;rw[<-i,<-j];exact inv.box.at_ l y hy
    ·obtain⟨_,k,n,_⟩:=nM h2 l x hx;obtain⟨_,o,q,_⟩:=nM h2 m y hy;exact inv.box.ne l m k o n q a
   have:=h b T inv.size (zu inv.env h1) hB d;intro cs;obtain⟨e,w',fr,⟨v,rfl,hb,r⟩,w,z,A⟩:=this cs;exact⟨_,w',fr,⟨v,rfl,inv.base.trans hb,r⟩,w,z,A⟩

theorem xl{fn:Func}(hm:c.P.follows .mixedOrders=true)(hf:c.P.funcs[c.f]? =some fn)(g:c.res=fn.results.toList):
  ∀(n:Nat)(first:Bool)(todo:List Item)(b:Nat->Nat)(st:St)(T:Array Value)(wa:World),Inv c b st T wa->run c n first todo st->Pt c.P c.f todo T wa (Out c.B c.w0 c.R):=by
 intro n;induction n with
 |zero=>intro first todo b st T wa _ h;exact h.elim
 |succ n ih=>
  intro first todo b st T wa inv h
  have done:∀(todo:List Item),leave c st->(∀cs,Steps c.P (lone ((base c.f).at ⟨T,[]⟩ todo) cs wa) (lone {(base c.f).at ⟨T,[]⟩ todo with mode:= .returning} cs wa))->Pt c.P c.f todo T wa (Out c.B c.w0 c.R):=fun todo hl hs cs=>by
   obtain⟨v,i,j⟩:=Fa hf g inv hl;exact⟨.returned v,wa,_,⟨v,rfl,inv.base,j⟩,hs cs,rfl,rfl,rfl,rfl,fn,hf,i⟩
  have cut:∀(todo:List Item) live,cutAt c todo st live->Pt c.P c.f todo T wa (Out c.B c.w0 c.R):=JL inv
  cases todo with
  |nil=>exact done [] h fun cs=> .one step_end
  |cons it k=>
   cases it with
   |code l=>
    cases l<;>simp only[run]at h<;>try exact h.elim
    case skip=>exact .step (fun cs=>step_skip) (ih _ _ _ _ _ _ inv h)
    case ret=>exact done _ h fun cs=> .one step_ret
    case seq x y=>exact .step (fun cs=>step_seq) (ih _ _ _ _ _ _ inv h)
    case block id d=>exact .step (fun cs=>step_block) (ih _ _ _ _ _ _ inv h)
    case cond x y z=>
     obtain⟨v,hv,hB⟩:=kG h;obtain⟨t,m,h⟩:=qU (b:=b) hB;have e:=dm inv.env hv;rw[m]at e;cases t
     ·exact .step (fun cs=>step_cond (t:=false) e) (ih _ _ _ _ _ _ inv h)
     ·exact .step (fun cs=>step_cond (t:=true) e) (ih _ _ _ _ _ _ inv h)
    case exit id=>
     split at h
     ·rename_i A o;exact .step (fun cs=>step_exit o) (ih _ _ _ _ _ _ inv h)
     ·exact h.elim
    case loop d=>
     split at h
     ·exact cut _ _ h
     ·exact .step (fun cs=>step_loop) (ih _ _ _ _ _ _ inv h)
    case region id ops draw=>
     split at h
     ·exact cut _ _ h
     ·refine .of_wp (Du hm inv h) fun e a w' hp=> ?_
      cases e<;>try exact hp.elim
      obtain⟨C,D,q,rfl,r,w⟩:=hp;exact⟨rfl,q,rfl,ih _ _ _ _ _ _ w r⟩
   |inBlock id=>simp only[run]at h;exact .step (fun cs=>step_inBlock) (ih _ _ _ _ _ _ inv h)
   |inLoop d=>
    simp only[run]at h;split at h
    ·have h1:=cut _ _ h;refine .step (fun cs=>step_inLoop) (Pt.RY h1 (fun cs=>step_loop) fun e w' he=> ?_);obtain⟨v,rfl,_⟩:=he;exact⟨v,rfl⟩
    ·exact .step (fun cs=>step_inLoop) (ih _ _ _ _ _ _ inv h)
   |_=>exact h.elim

noncomputable def so(fn:Func):Code:=fn.body.getD .skip

theorem zv:∀(vs:List Value)(i s:Nat)(x:SV),get (rZ i vs) s=some x->∃v,x= .v v/\i<=s/\vs[s - i]? =some v:=by
 intro vs;induction vs with
 |nil=>intro i s x h;simp[rZ,get]at h
 |cons v r ih=>
  intro i s x h;simp only[rZ,ia]at h;split at h
  ·rename_i e;cases h;subst e;exact⟨v,rfl,hM _,sm⟩
  ·rename_i e;obtain⟨u,rfl,h1,h2⟩:=ih (i+1) s x h;have:s - i=(s - (i+1))+1:=om;exact⟨u,rfl,om,by rw[this];simpa using h2⟩

theorem Dw(c:Cx)(n:Nat){fn:Func}{vs:List Value}{args:Array Value}{w:World}(hm:c.P.follows .mixedOrders=true)(hf:c.P.funcs[c.f]? =some fn)(hb:fn.body.isSome=true)(o:c.N=fn.ntmps)
  (d:c.res=fn.results.toList) (hw:c.w0=w) (hB:c.B<=w.heap.size) (ha:args=vs.toArray) (hle:Nat.ble vs.length c.N=true)
  (h:run c n false [.code (so fn)] ⟨rZ 0 vs,[],w,none⟩):dZ c.P c.f args c.B w c.R:=by
 have hle:=HX hle;subst ha;have g:=xl hm hf d n false _ (fun _=>0) _ (vs.toArray++Array.replicate (fn.ntmps - vs.length) undef) w (by
  refine⟨?_,fun s x hs=> ?_,⟨fun l x hx=> ?_,fun l m x y hx=> ?_⟩,?_,rfl,fun l x hx=> ?_,?_⟩
  ·simp;omega
  ·obtain⟨v,rfl,_,hv⟩:=zv vs 0 s x hs;have b:s<vs.length:=by
    rcases B7 s vs.length with h|h
    ·exact h
    ·simp[kl h]at hv
   rw[Jw (by simpa using b)];simpa[SV.den]using hv
  ·simp[bO]at hx
  ·simp[bO]at hx
  ·exact hB
  ·simp[bO]at hx
  ·rw[hw];exact Below.refl _ _) h
 intro cs;obtain⟨e,w',fr,⟨v,rfl,a,i⟩,h2,h3,h4⟩:=g cs;refine⟨_,w',fr,⟨v,rfl,hw▸a,i⟩,?_,h3,h4⟩;obtain⟨q,j⟩:=Ai.1 hb;have k:Frame.enter c.P c.f vs.toArray .normal=(base c.f).at ⟨vs.toArray++Array.replicate (fn.ntmps - vs.length) undef,[]⟩ [.code (so fn)]:=by
  simp[Frame.enter,Frame.at,hf,j,base,so]
 rw[k];exact h2

theorem Fb(c:Cx)(n:Nat){fn:Func}{vs:List Value}{args:Array Value}{w:World}(hm:c.P.follows .mixedOrders=true)(hf:c.P.funcs[c.f]? =some fn)(hb:fn.body.isSome=true)(o:c.N=fn.ntmps)
  (d:c.res=fn.results.toList) (hw:c.w0=w) (hB:c.B=w.heap.size) (ha:args=vs.toArray) (hle:Nat.ble vs.length c.N=true)
  (h:run c n false [.code (so fn)] ⟨rZ 0 vs,[],w,none⟩):Pure c.P c.f args w c.R:=by
 have hle:=HX hle;subst ha;have g:=xl hm hf d n false _ (fun _=>0) _ (vs.toArray++Array.replicate (fn.ntmps - vs.length) undef) w (by
  refine⟨?_,fun s x hs=> ?_,⟨fun l x hx=> ?_,fun l m x y hx=> ?_⟩,?_,rfl,fun l x hx=> ?_,?_⟩
  ·simp;omega
  ·obtain⟨v,rfl,_,hv⟩:=zv vs 0 s x hs;have b:s<vs.length:=by
    rcases B7 s vs.length with h|h
    ·exact h
    ·simp[kl h]at hv
   rw[Jw (by simpa using b)];simpa[SV.den]using hv
  ·simp[bO]at hx
  ·simp[bO]at hx
  ·rw[hB];exact hM _
  ·simp[bO]at hx
  ·rw[hw];exact Below.refl _ _) h
 intro cs;obtain⟨e,w',fr,⟨v,rfl,a,i⟩,h2,h3,h4⟩:=g cs;refine⟨_,w',fr,⟨v,rfl,by rw[<-hB,<-hw];exact hw▸a,i⟩,?_,h3,h4⟩;obtain⟨q,j⟩:=Ai.1 hb;have k:Frame.enter c.P c.f vs.toArray .normal=(base c.f).at ⟨vs.toArray++Array.replicate (fn.ntmps - vs.length) undef,[]⟩ [.code (so fn)]:=by
  simp[Frame.enter,Frame.at,hf,j,base,so]
 rw[k];exact h2

theorem QY(c:Cx){w:World}(n:Nat)(first:Bool)(todo:List Item)(env:Env)(boxes:List qO)(hm:c.P.follows .mixedOrders=true){fn:Func}(hf:c.P.funcs[c.f]? =some fn)(a:c.res=fn.results.toList)(hw:c.w0=w)
  (d:∀l x,bO boxes l=some x->x.new=false) (h:run c n first todo ⟨env,boxes,w,none⟩):At c.P c.f c.N todo env boxes c.B w c.R:=by
 intro b T e he hB g;have:=xl hm hf a n first todo b _ T w ⟨e,he,hB,g,rfl,fun l x hx hn=>(by rw[d l x hx]at hn;cases hn),(by rw[hw];exact Below.refl _ _)⟩ h
 rw[hw]at this;exact this

def uO:List qO->Bool
 |[]=>true
 |x::r=> !x.new&&uO r
theorem xR{a:List qO}(h:uO a=true):∀l x,bO a l=some x->x.new=false:=by
 induction a with
 |nil=>intro l x hx;simp[bO]at hx
 |cons y r ih=>
  intro l x hx;simp only[uO,eb]at h;rw[da]at hx;split at hx
  ·cases hx;simpa using h.1
  ·exact ih h.2 l x hx

theorem Fc(c:Cx)(n:Nat)(todo:List Item)(env:Env)(boxes:List qO){w:World}(hm:c.P.follows .mixedOrders=true){fn:Func}(hf:c.P.funcs[c.f]? =some fn)(a:c.res=fn.results.toList)(hw:c.w0=w)
  (ho:uO boxes=true) (h:run c n true todo ⟨env,boxes,w,none⟩):At c.P c.f c.N todo env boxes c.B w c.R:=
 QY c n true todo env boxes hm hf a hw (xR ho) h

theorem Fe(c:Cx)(n:Nat)(todo:List Item)(env:Env)(boxes:List qO){w:World}(hm:c.P.follows .mixedOrders=true){fn:Func}(hf:c.P.funcs[c.f]? =some fn)(a:c.res=fn.results.toList)(hw:c.w0=w)
  (ho:uO boxes=true) (h:run c n true (inside todo) ⟨env,boxes,w,none⟩):At c.P c.f c.N todo env boxes c.B w c.R:=by
 have h1:=QY c n true (inside todo) env boxes hm hf a hw (xR ho) h;intro b T d he hB e;have h2:=h1 b T d he hB e;cases todo with
 |nil=>exact h2
 |cons it k=>
  cases it with
  |code g=>
   cases g with
   |loop i=>exact .step (fun cs=>step_loop) h2
   |_=>exact h2
  |_=>exact h2
end
theorem follows:Tryz.prog.follows .mixedOrders=true:=kF
noncomputable abbrev P:Program:=Tryz.prog
abbrev O:=Option Addr
abbrev Kt:=Value->World->Prop
abbrev Br(p X Y:Prop):Prop:=(p->X)/\(¬p->Y)
abbrev Bb(b:Bool)(X Y:Prop):Prop:=(b=true->X)/\(b=false->Y)
abbrev HE(ts:List Nat)(w w':World):Prop:=∀(k ty:Nat)(cs:Array Value),ty∈ts->w.heap[k]? =some (.cells cs ty (0,0))->w'.heap[k]? =w.heap[k]?
abbrev Ri(X:Int->World->Prop):Kt:=fun v w=>∃i,v= .int .i64 i/\X i w
abbrev Rb(X:Bool->World->Prop):Kt:=fun v w=>∃b,v= .bool b/\X b w
abbrev Rt(X:ByteArray->World->Prop):Kt:=fun v w=>∃s,v= .string s/\X s w
abbrev Rs(X:O->Nat->Nat->World->Prop):Kt:=fun v w=>∃A n c,v= .slice A n c/\X A n c w
abbrev BC(X:O->Nat->Nat->Int->World->Prop):Kt:=fun v w=>∃A n c i,v= .tuple #[.slice A n c,.int .i64 i]/\X A n c i w
abbrev T5(X:O->Nat->Nat->Bool->World->Prop):Kt:=fun v w=>∃A n c b,v= .tuple #[.slice A n c,.bool b]/\X A n c b w
abbrev tv(X:ByteArray->Int->World->Prop):Kt:=fun v w=>∃s i,v= .tuple #[.string s,.int .i64 i]/\X s i w
abbrev Rii(X:Int->Int->World->Prop):Kt:=fun v w=>∃i j,v= .tuple #[.int .i64 i,.int .i64 j]/\X i j w
abbrev Rz(X:Bool->O->Nat->Nat->World->Prop):Kt:=fun v w=>∃b A n c,v= .agg #[.bool b,.slice A n c]/\X b A n c w
abbrev Rc(X:O->Nat->Nat->O->Nat->Nat->World->Prop):Kt:=fun v w=>∃A n c A1 n1 c1,v= .agg #[.slice A n c,.slice A1 n1 c1]/\X A n c A1 n1 c1 w
abbrev Rq(X:Bool->O->Nat->Nat->O->Nat->Nat->World->Prop):Kt:=fun v w=>∃b A n c A1 n1 c1,v= .agg #[.bool b,.slice A n c,.slice A1 n1 c1]/\X b A n c A1 n1 c1 w
abbrev Rp(X:O->Nat->Nat->O->Nat->Nat->O->Nat->Nat->World->Prop):Kt:=fun v w=>∃A n c A1 n1 c1 A2 n2 c2,v= .agg #[.slice A n c,.slice A1 n1 c1,.slice A2 n2 c2]/\X A n c A1 n1 c1 A2 n2 c2 w
abbrev Ix(j:Int)(n:Nat)(A:O)(X:Addr->Prop):Prop:=(0<=j/\j<n)/\∃a,A=some a/\X a
abbrev Pm:=List ((Bool×Nat)×List Nat×List Nat)×List (Nat×Nat×Nat)
noncomputable abbrev QZ(p:Pm)(f:Nat)(fn:Func)(w:World)(B:Nat)(R:Kt):Cx:=⟨Tryz.prog,f,fn.ntmps,fn.results.toList,p.1,p.2,w,B,R⟩
def Lt(f:Nat)(fn:Func)(k:Nat)(env:Env)(boxes:List qO)(B:Nat)(w:World)(R:Kt):Prop:=At Tryz.prog f fn.ntmps (Hm fn k) env boxes B w R
def Jt(f:Nat)(fn:Func)(k:Nat)(env:Env)(boxes:List qO)(B:Nat)(w:World)(R:Kt):Prop:=At Tryz.prog f fn.ntmps (yX fn k) env boxes B w R
section
variable (p:Pm) {f:Nat} {fn:Func} (hf:Tryz.prog.funcs[f]? =some fn) {vs:List Value} {w:World} {R:Kt} {C:Prop} {k B:Nat} {env:Env} {boxes:List qO} (h:C)
include hf h
theorem pr(hb:fn.body.isSome=true:=by rfl)(hle:Nat.ble vs.length fn.ntmps=true:=by rfl)(e:C=run (QZ p f fn w w.heap.size R) 100000 false [.code (so fn)] ⟨rZ 0 vs,[],w,none⟩:=by kernel_rfl):Pure P f vs.toArray w R:=
 Fb (QZ p f fn w w.heap.size R) 100000 follows hf hb rfl rfl rfl rfl rfl hle (Eq.mp e h)
theorem pb(hB:B<=w.heap.size)(hb:fn.body.isSome=true:=by rfl)(hle:Nat.ble vs.length fn.ntmps=true:=by rfl)(e:C=run (QZ p f fn w B R) 100000 false [.code (so fn)] ⟨rZ 0 vs,[],w,none⟩:=by kernel_rfl):dZ P f vs.toArray B w R:=
 Dw (QZ p f fn w B R) 100000 follows hf hb rfl rfl rfl hB rfl hle (Eq.mp e h)
theorem lr(ho:uO boxes=true:=by rfl)(e:C=run (QZ p f fn w B R) 100000 true (inside (Hm fn k)) ⟨env,boxes,w,none⟩:=by kernel_rfl):Lt f fn k env boxes B w R:=
 Fe (QZ p f fn w B R) 100000 (Hm fn k) env boxes follows hf rfl rfl ho (Eq.mp e h)
theorem jr(ho:uO boxes=true:=by rfl)(e:C=run (QZ p f fn w B R) 100000 true (yX fn k) ⟨env,boxes,w,none⟩:=by kernel_rfl):Jt f fn k env boxes B w R:=
 Fc (QZ p f fn w B R) 100000 (yX fn k) env boxes follows hf rfl rfl ho (Eq.mp e h)
end
end Go.Proofs.YtgfkeadgjkfomaaGreatDoor.Vc

namespace Go.Proofs.YtgfkeadgjkfomaaGreatDoor.B
open Go Go.RowKit Go.Proofs Go.Proofs.YtgfkeadgjkfomaaGreatDoor.Vc

theorem pm{P:Program}{f:FuncId}{args:Array Value}{w:World}{R R':Value->World->Prop}(h:Pure P f args w R)
  (a:∀v w',Below w.heap.size w w'->R v w'->R' v w'):Pure P f args w R':=
 Calls.mono h fun e w' ⟨v,he,hb,b⟩=>⟨v,he,hb,a v w' hb b⟩

theorem dZ.mono{P:Program}{f:FuncId}{args:Array Value}{B:Nat}{w:World}{R R':Value->World->Prop}(h:dZ P f args B w R)
  (a:∀v w',Below B w w'->R v w'->R' v w'):dZ P f args B w R':=
 Calls.mono h fun e w' ⟨v,he,hb,b⟩=>⟨v,he,hb,a v w' hb b⟩

theorem Below.step{B:Nat}{w0 w1 a:World}(h:Below B w0 w1)(hB:B<=w0.heap.size)(k:Below w1.heap.size w1 a):Below B w0 a:=
 h.trans (k.mono (ga hB h.size))
theorem Below.ext{B:Nat}{ts:List Nat}{w0 w1 a:World}(h:Below B w0 w1)(k:Ext B ts w1 a):Below B w0 a:=h.trans k.below

structure Good (w:World):Prop where
 size:8<=w.heap.size

theorem Good.below{B:Nat}{w w':World}(h:Good w)(hb:Below B w w')(hB:w.heap.size<=B):Good w':=
 ⟨ga h.size hb.size⟩
end Go.Proofs.YtgfkeadgjkfomaaGreatDoor.B

set_option maxRecDepth 100000
set_option maxHeartbeats 4000000
namespace Go.Proofs.YtgfkeadgjkfomaaGreatDoor.F
open Go Go.RowKit Go.Proofs Go.Proofs.YtgfkeadgjkfomaaGreatDoor.Vc
def cF.L4(a:ByteArray)(b c:Int):=Lt 213 Tryz.f213 4 [(0,.v (.string a)),(17,.v (.int .i64 b)),(18,.v (.int .i64 c))] []
def cF.cx:Pm:=([((true,4),[0,17,18],[])],[])
theorem cF.L4.step{b:ByteArray}{c a:Int}{B:Nat}{w:World}{R:Kt}
  (h:(Br (a<c) ((0<=a/\a<(ByteArray.size b:Int))/\(Br (((bt b a):Int)<48) (R (.bool false) w) ((0<=a/\a<(ByteArray.size b:Int))/\(Br (((bt b a):Int)>57) (R (.bool false) w) (az .i64 (a+1)/\(cF.L4 b c (a+1) B w R)))))) (R (.bool true) w))):
  cF.L4 b c a B w R:=
 lr cF.cx Tryz.func213 h
theorem cF.vc{a:ByteArray}{w:World}{R:Kt}
  (h:(Br (a=(⟨#[]⟩:ByteArray)) (R (.bool false) w) (Br (((ByteArray.size a:Int):Int)>1) ((0<=(0:Int)/\(0:Int)<(ByteArray.size a:Int))/\(Br (((bt a (0:Int)):Int)=48) (R (.bool false) w) (cF.L4 a (ByteArray.size a:Int) (0:Int) w.heap.size w R))) (cF.L4 a (ByteArray.size a:Int) (0:Int) w.heap.size w R)))):
  Pure P 213 #[.string a] w R:=
 pr cF.cx Tryz.func213 h

def iU.cx:Pm:=([],[])
theorem iU.vc{b c:ByteArray}{w:World}{R:Kt}
  (h:(Pure P 255 #[.string b,.string c] w fun m d=>∃e f g i j l a,m= .tuple #[.slice e f g,.slice i j l,.int .i64 a]/\(Br (a≠0) (R (.tuple #[(.string ⟨#[]⟩),.int .i64 a]) d) (Pure P 256 #[(.func (.func 257) #[.slice e f g] #[]),.slice i j l] d (tv fun n o p=>(R (.tuple #[.string n,.int .i64 o]) p)))))):
  Pure P 232 #[.string b,.string c] w R:=
 pr iU.cx Tryz.func232 h

def nB.cx:Pm:=([],[])
theorem nB.vc{b c:ByteArray}{w:World}{R:Kt}
  (h:(Pure P 255 #[.string b,.string c] w fun m d=>∃e f g i j l a,m= .tuple #[.slice e f g,.slice i j l,.int .i64 a]/\(Br (a≠0) (R (.tuple #[(.string ⟨#[]⟩),.int .i64 a]) d) (Pure P 256 #[(.func (.func 264) #[.slice e f g] #[]),.slice i j l] d (tv fun n o p=>(R (.tuple #[.string n,.int .i64 o]) p)))))):
  Pure P 243 #[.string b,.string c] w R:=
 pr nB.cx Tryz.func243 h

def lJ.cx:Pm:=([],[])
theorem lJ.vc{a b:ByteArray}{w:World}{R:Kt}
  (h:(Pure P 213 #[.string a] w (Rb fun e c=>(Br (e=false) (R (.tuple #[.slice none 0 0,.slice none 0 0,.int .i64 1]) c) (Pure P 213 #[.string b] c (Rb fun f d=>(Br (f=false) (R (.tuple #[.slice none 0 0,.slice none 0 0,.int .i64 1]) d) (Pure P 278 #[.string a] d (Rs fun g i j l=>(Pure P 278 #[.string b] l (Rs fun m n o p=>(R (.tuple #[.slice g i j,.slice m n o,.int .i64 0]) p)))))))))))):
  Pure P 255 #[.string a,.string b] w R:=
 pr lJ.cx Tryz.func255 h

def fv.cx:Pm:=([],[(1,2,4)])
theorem fv.vc{a b c:Nat}{d e:Array Value}{f:O}{w:World}{R:Kt}
  (h:(bc P a=true/\(Pure P a ((Array.toList d)++([.slice f b c]:List Value)++(Array.toList e)).toArray w (Rs fun g i j l=>(Pure P 279 #[.slice g i j] l (Rt fun m n=>(R (.tuple #[.string m,.int .i64 0]) n))))))):
  Pure P 256 #[(.func (.func a) d e),.slice f b c] w R:=
 pr fv.cx Tryz.func256 h

def bA.L3(a:O)(b c:Nat)(d:O)(e f:Nat)(g:O)(i j:Nat)(l m:Int):=Lt 257 Tryz.f257 3 [(1,.v (.slice a b c)),(5,.v (.slice d e f)),(17,.v (.slice g i j)),(18,.v (.int .i64 l)),(19,.v (.int .i64 m))] []
def bA.L7(a:O)(b c:Nat)(d:O)(e f:Nat)(g i j:Int)(l:O)(m n:Nat)(o p:Int)(q:O)(r s:Nat)(t u:Int):=Lt 257 Tryz.f257 7 [(1,.v (.slice a b c)),(5,.v (.slice d e f)),(6,.v (.int .i64 g)),(7,.v (.int .u32 i)),(8,.v (.int .u64 j)),(17,.v (.slice l m n)),(18,.v (.int .i64 o)),(19,.v (.int .i64 p)),(24,.v (.slice q r s)),(25,.v (.int .i64 t)),(26,.v (.int .i64 u))] []
def bA.cx:Pm:=([((true,3),[1,5,17,18,19],[]),((true,7),[1,5,6,7,8,17,18,19,24,25,26],[])],[(1,5,2)])
theorem bA.L3.step{c d e:O}{b f g i j m B:Nat}{l a:Int}{w:World}{R:Kt}
  (h:(Br (a<l) (Ix a j e fun o=>(∃n,ae w (o.add ((a).toNat*1)) [.int .u32 n]/\(bA.L7 c b f d g i a n (0:Int) e j m l a c b f (b:Int) (0:Int) B w R))) (Pure P 280 #[.slice d g i] w (Rs fun p q r s=>(R (.slice p q r) s))))):
  bA.L3 c b f d g i e j m l a B w R:=
 lr bA.cx Tryz.func257 h
theorem bA.L7.step{m g n o:O}{d q i r x y z F B:Nat}{a c e A l C b:Int}{w:World}{R:Kt}
  (h:(Br ((b:Int)<C) (Ix b z o fun a9=>(∃(i10:Int),ae w (a9.add ((b).toNat*1)) [(.int .u32 i10)]/\(az .u64 (c)/\(az .u64 (i10)/\(az .u64 ((c)*(i10))/\(az .i64 (a+b)/\(Ix (a+b) i g fun I=>(∃(i12:Int),ae w (I.add (((a+b)).toNat*1)) [(.int .u32 i12)]/\(az .u64 (i12)/\(az .u64 (((c)*(i10))+(i12))/\(az .u64 (e+(((c)*(i10))+(i12)))/\(az .i64 (a+b)/\((0<=(e+(((c)*(i10))+(i12)))/\0<(1000000000:Int))/\(az .u32 (((e+(((c)*(i10))+(i12))) % (1000000000:Int)))/\(Ix (a+b) i g fun j=>(∃(D:List Value)(t15:Nat),B<=(j.add (((a+b)).toNat*1)).block/\(j.add (((a+b)).toNat*1)).spot=none/\w.heap[(j.add (((a+b)).toNat*1)).block]? =some (.cells D.toArray t15 (0,0))/\(j.add (((a+b)).toNat*1)).off+1<=D.length/\hasType t15 []=false/\∀G,dd w G (j.add (((a+b)).toNat*1)).block t15 (setCells D (j.add (((a+b)).toNat*1)).off [(.int .u32 (((e+(((c)*(i10))+(i12))) % (1000000000:Int))))])->((0<=(e+(((c)*(i10))+(i12)))/\0<(1000000000:Int)/\az .u64 (e+(((c)*(i10))+(i12))))/\(az .i64 (b+(1:Int))/\(bA.L7 m d q g i r a c ((e+(((c)*(i10))+(i12))) / (1000000000:Int)) n x y A l o z F C (b+(1:Int)) B G R))))))))))))))))))) (az .i64 (a+(d:Int))/\(az .u32 (e)/\(Ix (a+(d:Int)) i g fun k=>(∃(E:List Value)(t19:Nat),B<=(k.add (((a+(d:Int))).toNat*1)).block/\(k.add (((a+(d:Int))).toNat*1)).spot=none/\w.heap[(k.add (((a+(d:Int))).toNat*1)).block]? =some (.cells E.toArray t19 (0,0))/\(k.add (((a+(d:Int))).toNat*1)).off+1<=E.length/\hasType t19 []=false/\∀H,dd w H (k.add (((a+(d:Int))).toNat*1)).block t19 (setCells E (k.add (((a+(d:Int))).toNat*1)).off [(.int .u32 (e))])->(az .i64 (l+(1:Int))/\(bA.L3 m d q g i r n x y A (l+(1:Int)) B H R)))))))):
  bA.L7 m d q g i r a c e n x y A l o z F C b B w R:=
 lr bA.cx Tryz.func257 h
theorem bA.vc{c d:O}{a e b f:Nat}{w:World}{R:Kt}
  (h:(az .i64 ((a:Int)+(b:Int))/\(au P (Instr.makeSlice 259 (.int .i64 ((a:Int)+(b:Int))) (.int .i64 ((a:Int)+(b:Int)))) w.heap.size [] w (Rs fun g i j l=>(bA.L3 d b f g i j c a e (a:Int) (0:Int) w.heap.size l R))))):
  Pure P 257 #[.slice c a e,.slice d b f] w R:=
 pr bA.cx Tryz.func257 h

def lk.cx:Pm:=([],[])
theorem lk.vc{b c:ByteArray}{w:World}{R:Kt}
  (h:(Pure P 255 #[.string b,.string c] w fun m d=>∃e f g i j l a,m= .tuple #[.slice e f g,.slice i j l,.int .i64 a]/\(Br (a≠0) (R (.tuple #[(.string ⟨#[]⟩),.int .i64 a]) d) (Pure P 256 #[(.func (.func 281) #[.slice e f g] #[]),.slice i j l] d (tv fun n o p=>(R (.tuple #[.string n,.int .i64 o]) p)))))):
  Pure P 258 #[.string b,.string c] w R:=
 pr lk.cx Tryz.func258 h

def ie.cx:Pm:=([],[])
theorem ie.vc{b c:ByteArray}{w:World}{R:Kt}
  (h:(Pure P 255 #[.string b,.string c] w fun m d=>∃e f g i j l a,m= .tuple #[.slice e f g,.slice i j l,.int .i64 a]/\(Br (a≠0) (R (.tuple #[.int .i64 0,.int .i64 a]) d) (Pure P 282 #[.slice e f g,.slice i j l] d (Ri fun n o=>(R (.tuple #[.int .i64 n,.int .i64 0]) o)))))):
  Pure P 259 #[.string b,.string c] w R:=
 pr ie.cx Tryz.func259 h

def ll.cx:Pm:=([],[])
theorem ll.vc{i j:ByteArray}{w:World}{R:Kt}
  (h:(Pure P 255 #[.string i,.string j] w fun n l=>∃a b c d e f g,n= .tuple #[.slice a b c,.slice d e f,.int .i64 g]/\(Br (g≠0) (R (.tuple #[(.string ⟨#[]⟩),.int .i64 g]) l) (Pure P 282 #[.slice a b c,.slice d e f] l (Ri fun o m=>(Br (o<0) (R (.tuple #[(.string ⟨#[]⟩),.int .i64 2]) m) (Pure P 256 #[(.func (.func 283) #[.slice a b c] #[]),.slice d e f] m (tv fun p q r=>(R (.tuple #[.string p,.int .i64 q]) r))))))))):
  Pure P 260 #[.string i,.string j] w R:=
 pr ll.cx Tryz.func260 h

def bI.L1(a:O)(b c:Nat)(d:O)(e f:Nat):=Lt 264 Tryz.f264 1 [(0,.v (.slice a b c)),(1,.v (.slice d e f))] []
def bI.L5(a b:Int):=Lt 264 Tryz.f264 5 [(5,.v (.int .u64 a)),(7,.v (.int .u64 b))] []
def bI.cx:Pm:=([((true,1),[0,1],[]),((true,5),[5,7],[])],[])
theorem bI.L1.step{d b:O}{e f a c B:Nat}{w:World}{R:Kt}
  (h:(Br ((a:Int)>0) (Pure P 288 #[.slice d e f] w fun t u=>∃i j,t= .tuple #[.int .u64 i,.bool j]/\(Pure P 288 #[.slice b a c] u fun v g=>∃l m,v= .tuple #[.int .u64 l,.bool m]/\(Bb j (Bb m (bI.L5 i l B g R) (Pure P 290 #[.slice d e f,.slice b a c] g fun x y=>∃z A C n o p,x= .tuple #[.slice z A C,.slice n o p]/\(bI.L1 b a c n o p B y R))) (Pure P 290 #[.slice d e f,.slice b a c] g fun D E=>∃G H I q r s,D= .tuple #[.slice G H I,.slice q r s]/\(bI.L1 b a c q r s B E R))))) (R (.slice d e f) w))):
  bI.L1 d e f b a c B w R:=
 lr bI.cx Tryz.func264 h
theorem bI.L5.step{b a:Int}{B:Nat}{w:World}{R:Kt}
  (h:(Br (a>0) ((0<=b/\0<a)/\(∀c,Ext B [] w c->(bI.L5 a (b % a) B c R))) (Pure P 289 #[.int .u64 b] w (Rs fun d e f g=>(R (.slice d e f) g))))):
  bI.L5 b a B w R:=
 lr bI.cx Tryz.func264 h
theorem bI.vc{a b:O}{c d e f:Nat}{w:World}{R:Kt}
  (h:(bI.L1 a c d b e f w.heap.size w R)):
  Pure P 264 #[.slice a c d,.slice b e f] w R:=
 pr bI.cx Tryz.func264 h

def dC.L2(a:ByteArray)(b:O)(c d:Nat):=Lt 278 Tryz.f278 2 [(0,.v (.string a)),(3,.v (.slice b c d))] []
def dC.cx:Pm:=([((true,2),[0,3],[])],[(5,3,2),(5,4,2)])
theorem dC.L2.step{a:ByteArray}{b:O}{c d B:Nat}{w:World}{R:Kt}
  (h:(Br (((ByteArray.size a:Int):Int)>0) (az .i64 ((ByteArray.size a:Int) - (9:Int))/\((0<=(if(0:Int)>((ByteArray.size a:Int) - (9:Int))then(0:Int)else((ByteArray.size a:Int) - (9:Int)))/\(if(0:Int)>((ByteArray.size a:Int) - (9:Int))then(0:Int)else((ByteArray.size a:Int) - (9:Int)))<=(ByteArray.size a:Int))/\(Pure P 299 #[(.string (ByteArray.extract a ((if(0:Int)>((ByteArray.size a:Int) - (9:Int))then(0:Int)else((ByteArray.size a:Int) - (9:Int)))).toNat (ByteArray.size a))),.int .i64 10,.int .i64 32] w fun f g=>∃(e:Int)(i:Value),f= .tuple #[.int .u64 e,i]/\(az .u32 (e)/\(au P (Instr.buildSlice 259 1 #[(0,(.int .u32 (e)))]) B [] g (Rs fun j l m n=>(au P (Builtin.append_ #[259,259] 259 #[.slice b c d,.slice j l m]) B [] n (Rs fun o p q r=>((0<=(if(0:Int)>((ByteArray.size a:Int) - (9:Int))then(0:Int)else((ByteArray.size a:Int) - (9:Int)))/\(if(0:Int)>((ByteArray.size a:Int) - (9:Int))then(0:Int)else((ByteArray.size a:Int) - (9:Int)))<=(ByteArray.size a:Int))/\(dC.L2 (ByteArray.extract a 0 ((if(0:Int)>((ByteArray.size a:Int) - (9:Int))then(0:Int)else((ByteArray.size a:Int) - (9:Int)))).toNat) o p q B r R)))))))))) (Pure P 280 #[.slice b c d] w (Rs fun s t u v=>(R (.slice s t u) v))))):
  dC.L2 a b c d B w R:=
 lr dC.cx Tryz.func278 h
theorem dC.vc{a:ByteArray}{w:World}{R:Kt}
  (h:(dC.L2 a none 0 0 w.heap.size w R)):
  Pure P 278 #[.string a] w R:=
 pr dC.cx Tryz.func278 h

def dh.L1(a:O)(b c:Nat):=Lt 280 Tryz.f280 1 [(0,.v (.slice a b c))] []
def dh.cx:Pm:=([((true,1),[0],[])],[])
theorem dh.L1.step{b:O}{a c B:Nat}{w:World}{R:Kt}
  (h:(Br ((a:Int)>0) (az .i64 ((a:Int) - (1:Int))/\(Ix ((a:Int) - (1:Int)) a b fun e=>(∃d,ae w (e.add ((((a:Int) - (1:Int))).toNat*1)) [.int .u32 d]/\(Br (d=0) (az .i64 ((a:Int) - (1:Int))/\((0<=((a:Int) - (1:Int))/\((a:Int) - (1:Int))<=(c:Int))/\(dh.L1 b ((((a:Int) - (1:Int))).toNat) c B w R))) (R (.slice b a c) w))))) (R (.slice b a c) w))):
  dh.L1 b a c B w R:=
 lr dh.cx Tryz.func280 h
theorem dh.vc{a:O}{b c:Nat}{w:World}{R:Kt}
  (h:(dh.L1 a b c w.heap.size w R)):
  Pure P 280 #[.slice a b c] w R:=
 pr dh.cx Tryz.func280 h

def mE.cx:Pm:=([],[])
theorem mE.vc{a b:O}{c d e f:Nat}{w:World}{R:Kt}
  (h:(Pure P 305 #[.slice a c d,.slice b e f,.int .i64 1] w (Rs fun g i j l=>(R (.slice g i j) l)))):
  Pure P 281 #[.slice a c d,.slice b e f] w R:=
 pr mE.cx Tryz.func281 h

def cz.L4(a:O)(b c:Nat)(d:O)(e f:Nat)(g:Int):=Lt 282 Tryz.f282 4 [(0,.v (.slice a b c)),(1,.v (.slice d e f)),(5,.v (.int .i64 g))] []
def cz.cx:Pm:=([((true,4),[0,1,5],[])],[(7,9999,3)])
theorem cz.L4.step{b c:O}{d g e i B:Nat}{a:Int}{w:World}{R:Kt}
  (h:(Br (a≥(0:Int)) (Ix a d b fun q=>(∃j,ae w (q.add ((a).toNat*1)) [.int .u32 j]/\(Ix a e c fun r=>(∃l,ae w (r.add ((a).toNat*1)) [.int .u32 l]/\(Br (j≠l) (∀f,Ext B [] w f->(Ix a d b fun s=>(∃m,ae f (s.add ((a).toNat*1)) [.int .u32 m]/\(Ix a e c fun t=>(∃n,ae f (t.add ((a).toNat*1)) [.int .u32 n]/\(∀o,Ext B [] f o->(Pure P 306 #[.int .u32 m,.int .u32 n] o (Ri fun u v=>(R (.int .i64 u) v))))))))) (az .i64 (a - (1:Int))/\(∀p,Ext B [] w p->(cz.L4 b d g c e i (a - (1:Int)) B p R)))))))) (R (.int .i64 0) w))):
  cz.L4 b d g c e i a B w R:=
 lr cz.cx Tryz.func282 h
theorem cz.vc{c d:O}{a e b f:Nat}{w:World}{R:Kt}
  (h:(Br ((a:Int)≠(b:Int)) (Pure P 45 #[(.int .i64 (a:Int)),(.int .i64 (b:Int))] w (Ri fun g i=>(R (.int .i64 g) i))) (az .i64 ((a:Int) - (1:Int))/\(cz.L4 c a e d b f ((a:Int) - (1:Int)) w.heap.size w R)))):
  Pure P 282 #[.slice c a e,.slice d b f] w R:=
 pr cz.cx Tryz.func282 h

def lK.cx:Pm:=([],[])
theorem lK.vc{a b:O}{c d e f:Nat}{w:World}{R:Kt}
  (h:(Pure P 305 #[.slice a c d,.slice b e f,(.int .i64 (-1:Int))] w (Rs fun g i j l=>(Pure P 280 #[.slice g i j] l (Rs fun m n o p=>(R (.slice m n o) p)))))):
  Pure P 283 #[.slice a c d,.slice b e f] w R:=
 pr lK.cx Tryz.func283 h

def lL.cx:Pm:=([],[])
theorem lL.vc{c:O}{a g:Nat}{w:World}{R:Kt}
  (h:(Br ((a:Int)=0) (R (.tuple #[(.int .u64 (0:Int)),.bool true]) w) (Br ((a:Int)=1) (Ix (0:Int) a c fun i=>(∃e,ae w (i.add (((0:Int)).toNat*1)) [.int .u32 e]/\(az .u64 (e)/\(R (.tuple #[(.int .u64 (e)),.bool true]) w)))) (Br ((a:Int)=2) (Ix (0:Int) a c fun j=>(∃d,ae w (j.add (((0:Int)).toNat*1)) [.int .u32 d]/\(az .u64 (d)/\(Ix (1:Int) a c fun l=>(∃b,ae w (l.add (((1:Int)).toNat*1)) [.int .u32 b]/\(az .u64 (b)/\(az .u64 ((1000000000:Int)*(b))/\(az .u64 ((d)+((1000000000:Int)*(b)))/\(∀f,Ext w.heap.size [] w f->(R (.tuple #[(.int .u64 ((d)+((1000000000:Int)*(b)))),.bool true]) f)))))))))) (R (.tuple #[(.int .u64 (0:Int)),.bool false]) w))))):
  Pure P 288 #[.slice c a g] w R:=
 pr lL.cx Tryz.func288 h

def gQ.cx:Pm:=([],[(1,6,2)])
theorem gQ.vc{a:Int}{w:World}{R:Kt}
  (h:((0<=a/\0<(1000000000:Int))/\(az .u32 ((a % (1000000000:Int)))/\((0<=a/\0<(1000000000:Int)/\az .u64 a)/\(az .u32 ((a / (1000000000:Int)))/\(au P (Instr.buildSlice 259 2 #[(0,(.int .u32 ((a % (1000000000:Int))))),(1,(.int .u32 ((a / (1000000000:Int)))))]) w.heap.size [] w (Rs fun A1 n1 c1 b=>(Pure P 280 #[(.slice A1 n1 c1)] b (Rs fun A4 n4 c4 c=>(R (.slice A4 n4 c4) c)))))))))):
  Pure P 289 #[(.int .u64 a)] w R:=
 pr gQ.cx Tryz.func289 h

def ag.J7(a:O)(b c:Nat)(d:O)(e f:Nat):=Jt 290 Tryz.f290 7 [(0,.v (.slice a b c)),(1,.v (.slice d e f))] []
def ag.LQ(a:O)(b c:Nat)(d:O)(e f:Nat)(g:O)(i j:Nat):=Jt 290 Tryz.f290 13 [(10,.v (.slice a b c)),(11,.v (.slice d e f)),(12,.v (.slice g i j))] []
def ag.vT(a:O)(b c:Nat)(d:O)(e f:Nat)(g:O)(i j:Nat)(l:Int)(m:O)(n o:Nat)(p:Int):=Lt 290 Tryz.f290 16 [(10,.v (.slice a b c)),(11,.v (.slice d e f)),(12,.v (.slice g i j)),(13,.v (.int .i64 l)),(14,.v (.slice m n o)),(15,.v (.int .i64 p))] []
def ag.OX(a:O)(b c:Nat)(d:O)(e f:Nat)(g:O)(i j:Nat)(l:Int)(m:O)(n o:Nat)(p q r:Int):=Lt 290 Tryz.f290 20 [(10,.v (.slice a b c)),(11,.v (.slice d e f)),(12,.v (.slice g i j)),(13,.v (.int .i64 l)),(14,.v (.slice m n o)),(15,.v (.int .i64 p)),(17,.v (.int .u64 q)),(18,.v (.int .u64 r))] []
def ag.zx(a:O)(b c:Nat)(d:O)(e f:Nat)(g:O)(i j:Nat)(l:Int)(m:O)(n o:Nat)(p q r s t u:Int):=Lt 290 Tryz.f290 26 [(10,.v (.slice a b c)),(11,.v (.slice d e f)),(12,.v (.slice g i j)),(13,.v (.int .i64 l)),(14,.v (.slice m n o)),(15,.v (.int .i64 p)),(17,.v (.int .u64 q)),(19,.v (.int .i64 r)),(20,.v (.int .i64 s)),(180,.v (.int .i64 t)),(181,.v (.int .i64 u))] []
def ag.Ou(a:O)(b c:Nat)(d:O)(e f:Nat)(g:O)(i j:Nat)(l:Int)(m:O)(n o:Nat)(p q r s t u:Int):=Lt 290 Tryz.f290 42 [(10,.v (.slice a b c)),(11,.v (.slice d e f)),(12,.v (.slice g i j)),(13,.v (.int .i64 l)),(14,.v (.slice m n o)),(15,.v (.int .i64 p)),(17,.v (.int .u64 q)),(24,.v (.int .i64 r)),(25,.v (.int .u64 s)),(235,.v (.int .i64 t)),(236,.v (.int .i64 u))] []
def ag.Q0(a:O)(b c:Nat)(d:O)(e f:Nat)(g:O)(i j:Nat)(l:Int)(m:O)(n o:Nat)(p q r:Int):=Jt 290 Tryz.f290 49 [(10,.v (.slice a b c)),(11,.v (.slice d e f)),(12,.v (.slice g i j)),(13,.v (.int .i64 l)),(14,.v (.slice m n o)),(15,.v (.int .i64 p)),(17,.v (.int .u64 q)),(24,.v (.int .i64 r))] []
def ag.cx:Pm:=([((true,16),[10,11,12,13,14,15],[]),((true,20),[10,11,12,13,14,15,17,18],[]),((true,26),[10,11,12,13,14,15,17,19,20,180,181],[]),((true,42),[10,11,12,13,14,15,17,24,25,235,236],[]),((false,7),[0,1],[]),((false,13),[10,11,12],[]),((false,49),[10,11,12,13,14,15,17,24],[])],[(10,3,2),(10,4,2),(12,1,2),(12,2,2),(14,4,2),(19,9999,3)])
theorem ag.J7.step{i c:O}{d j a n B:Nat}{w:World}{R:Kt}
  (h:(Br ((a:Int)=1) (Ix (0:Int) a c fun C=>(∃l,ae w (C.add (((0:Int)).toNat*1)) [.int .u32 l]/\(az .u64 (l)/\(Pure P 309 #[.slice i d j,(.int .u64 (l))] w fun D E=>∃o p q r s t,D= .tuple #[.slice o p q,.slice r s t]/\(R (.tuple #[.slice o p q,.slice r s t]) E))))) (az .i64 ((a:Int) - (1:Int))/\(Ix ((a:Int) - (1:Int)) a c fun G=>(∃b,ae w (G.add ((((a:Int) - (1:Int))).toNat*1)) [.int .u32 b]/\(az .u64 (b)/\(az .u64 ((b)+1)/\((0<=(1000000000:Int)/\0<((b)+1)/\az .u64 (1000000000:Int))/\(Pure P 289 #[(.int .u64 ((1000000000:Int) / ((b)+1)))] w (Rs fun e f g H=>(Pure P 257 #[.slice i d j,.slice e f g] H (Rs fun I J K L=>(au P (Instr.buildSlice 259 1 #[(0,(.int .u32 (0:Int)))]) B [] L (Rs fun M N Q S=>(au P (Builtin.append_ #[259,259] 259 #[.slice I J K,.slice M N Q]) B [] S (Rs fun u m v T=>(Pure P 257 #[.slice c a n,.slice e f g] T (Rs fun x y z A=>(Br ((m:Int)=(d:Int)) (au P (Instr.buildSlice 259 1 #[(0,(.int .u32 (0:Int)))]) B [] A (Rs fun U V X Y=>(au P (Builtin.append_ #[259,259] 259 #[.slice u m v,.slice U V X]) B [] Y (Rs fun Z a0 k a2=>(ag.LQ e f g Z a0 k x y z B a2 R))))) (ag.LQ e f g u m v x y z B A R)))))))))))))))))))):
  ag.J7 i d j c a n B w R:=
 jr ag.cx Tryz.func290 h
theorem ag.LQ.step{d e f:O}{g i b j a l B:Nat}{w:World}{R:Kt}
  (h:(az .i64 ((b:Int) - (a:Int))/\(au P (Instr.makeSlice 259 (.int .i64 ((b:Int) - (a:Int))) (.int .i64 ((b:Int) - (a:Int)))) B [] w (Rs fun m c n o=>(az .i64 ((c:Int) - (1:Int))/\(ag.vT d g i e b j f a l (a:Int) m c n ((c:Int) - (1:Int)) B o R)))))):
  ag.LQ d g i e b j f a l B w R:=
 jr ag.cx Tryz.func290 h
theorem ag.vT.step{o e f p:O}{q r g i j u s t B:Nat}{a b:Int}{w:World}{R:Kt}
  (h:(Br (b≥(0:Int)) (az .i64 (b+a)/\(Ix (b+a) g e fun C=>(∃c,ae w (C.add (((b+a)).toNat*1)) [.int .u32 c]/\(az .u64 (c)/\(az .u64 ((c)*(1000000000:Int))/\(az .i64 (b+a)/\(az .i64 ((b+a) - (1:Int))/\(Ix ((b+a) - (1:Int)) g e fun D=>(∃d,ae w (D.add ((((b+a) - (1:Int))).toNat*1)) [.int .u32 d]/\(az .u64 (d)/\(az .u64 (((c)*(1000000000:Int))+(d))/\(∀l,Ext B [] w l->(az .i64 (a - (1:Int))/\(Ix (a - (1:Int)) j f fun E=>(∃m,ae l (E.add (((a - (1:Int))).toNat*1)) [.int .u32 m]/\(az .u64 (m)/\((0<=(((c)*(1000000000:Int))+(d))/\0<(m)/\az .u64 (((c)*(1000000000:Int))+(d)))/\(az .i64 (a - (1:Int))/\(Ix (a - (1:Int)) j f fun G=>(∃n,ae l (G.add (((a - (1:Int))).toNat*1)) [.int .u32 n]/\(az .u64 (n)/\((0<=(((c)*(1000000000:Int))+(d))/\0<(n))/\(∀v,Ext B [] l v->(ag.OX o q r e g i f j u a p s t b ((((c)*(1000000000:Int))+(d)) / (m)) ((((c)*(1000000000:Int))+(d)) % (n)) B v R)))))))))))))))))))))))) (Pure P 288 #[.slice o q r] w fun H I=>∃x J,H= .tuple #[.int .u64 x,.bool J]/\((0<=a/\a<=(i:Int))/\(Pure P 280 #[(.slice e ((a).toNat) i)] I (Rs fun K L M N=>(Pure P 309 #[.slice K L M,.int .u64 x] N fun Q S=>∃y z A T U V,Q= .tuple #[.slice y z A,.slice T U V]/\(Pure P 280 #[.slice p s t] S (Rs fun X Y Z a0=>(R (.tuple #[.slice X Y Z,.slice y z A]) a0)))))))))):
  ag.vT o q r e g i f j u a p s t b B w R:=
 lr ag.cx Tryz.func290 h
theorem ag.OX.step{j g e l:O}{m n i o f p q r B:Nat}{a c b d:Int}{w:World}{R:Kt}
  (h:(Br (b≥(1000000000:Int)) (az .u64 (b - (1:Int))/\(az .i64 (a - (1:Int))/\(Ix (a - (1:Int)) f e fun A=>(∀u,Ext B [] w u->(∃s,ae u (A.add (((a - (1:Int))).toNat*1)) [.int .u32 s]/\(az .u64 (s)/\(az .u64 (d+(s))/\(Br (((d+(s)):Int)≥(1000000000:Int)) (ag.zx j m n g i o e f p a l q r c (b - (1:Int)) (0:Int) (0:Int) a (0:Int) B u R) (ag.OX j m n g i o e f p a l q r c (b - (1:Int)) (d+(s)) B u R))))))))) (az .i64 (a - (2:Int))/\(Ix (a - (2:Int)) f e fun C=>(∃v,ae w (C.add (((a - (2:Int))).toNat*1)) [.int .u32 v]/\(az .u64 (v)/\(az .u64 (b*(v))/\(az .u64 (d*(1000000000:Int))/\(az .i64 (c+a)/\(az .i64 ((c+a) - (2:Int))/\(Ix ((c+a) - (2:Int)) i g fun D=>(∃x,ae w (D.add ((((c+a) - (2:Int))).toNat*1)) [.int .u32 x]/\(az .u64 (x)/\(az .u64 ((d*(1000000000:Int))+(x))/\(Br (((b*(v)):Int)>((d*(1000000000:Int))+(x))) (az .u64 (b - (1:Int))/\(az .i64 (a - (1:Int))/\(Ix (a - (1:Int)) f e fun E=>(∀y,Ext B [] w y->(∃t,ae y (E.add (((a - (1:Int))).toNat*1)) [.int .u32 t]/\(az .u64 (t)/\(az .u64 (d+(t))/\(Br (((d+(t)):Int)≥(1000000000:Int)) (ag.zx j m n g i o e f p a l q r c (b - (1:Int)) (0:Int) (0:Int) a (0:Int) B y R) (ag.OX j m n g i o e f p a l q r c (b - (1:Int)) (d+(t)) B y R))))))))) (∀z,Ext B [] w z->(ag.zx j m n g i o e f p a l q r c b (0:Int) (0:Int) a (0:Int) B z R))))))))))))))))):
  ag.OX j m n g i o e f p a l q r c b d B w R:=
 lr ag.cx Tryz.func290 h
theorem ag.zx.step{o g k q:O}{r x i y l z A C B:Nat}{j a c d e E b:Int}{w:World}{R:Kt}
  (h:(Br ((b:Int)<E) (az .i64 (c)/\(Ix b l k fun F=>(∃(i87:Int),ae w (F.add ((b).toNat*1)) [(.int .u32 i87)]/\(az .i64 (i87)/\(az .i64 ((c)*(i87))/\(az .i64 (((c)*(i87))+d)/\((0<=(((c)*(i87))+d)/\0<(1000000000:Int)/\az .i64 (((c)*(i87))+d))/\(az .i64 (b+a)/\(Ix (b+a) i g fun G=>(∃(i89:Int),ae w (G.add (((b+a)).toNat*1)) [(.int .u32 i89)]/\(az .i64 (i89)/\((0<=(((c)*(i87))+d)/\0<(1000000000:Int))/\(az .i64 ((i89) - ((((c)*(i87))+d) % (1000000000:Int)))/\(az .i64 (((i89) - ((((c)*(i87))+d) % (1000000000:Int))) - e)/\(Br (((((i89) - ((((c)*(i87))+d) % (1000000000:Int))) - e):Int)<(0:Int)) (az .i64 ((((i89) - ((((c)*(i87))+d) % (1000000000:Int))) - e)+(1000000000:Int))/\(az .i64 (b+a)/\(az .u32 (((((i89) - ((((c)*(i87))+d) % (1000000000:Int))) - e)+(1000000000:Int)))/\(Ix (b+a) i g fun m=>(∃(H:List Value)(t92:Nat),B<=(m.add (((b+a)).toNat*1)).block/\(m.add (((b+a)).toNat*1)).spot=none/\w.heap[(m.add (((b+a)).toNat*1)).block]? =some (.cells H.toArray t92 (0,0))/\(m.add (((b+a)).toNat*1)).off+1<=H.length/\hasType t92 []=false/\∀D,dd w D (m.add (((b+a)).toNat*1)).block t92 (setCells H (m.add (((b+a)).toNat*1)).off [(.int .u32 (((((i89) - ((((c)*(i87))+d) % (1000000000:Int))) - e)+(1000000000:Int))))])->(az .i64 (b+(1:Int))/\(ag.zx o r x g i y k l z j q A C a c ((((c)*(i87))+d) / (1000000000:Int)) (1:Int) E (b+(1:Int)) B D R))))))) (az .i64 (b+a)/\(az .u32 ((((i89) - ((((c)*(i87))+d) % (1000000000:Int))) - e))/\(Ix (b+a) i g fun n=>(∃(I:List Value)(t96:Nat),B<=(n.add (((b+a)).toNat*1)).block/\(n.add (((b+a)).toNat*1)).spot=none/\w.heap[(n.add (((b+a)).toNat*1)).block]? =some (.cells I.toArray t96 (0,0))/\(n.add (((b+a)).toNat*1)).off+1<=I.length/\hasType t96 []=false/\∀K,dd w K (n.add (((b+a)).toNat*1)).block t96 (setCells I (n.add (((b+a)).toNat*1)).off [(.int .u32 ((((i89) - ((((c)*(i87))+d) % (1000000000:Int))) - e)))])->(az .i64 (b+(1:Int))/\(ag.zx o r x g i y k l z j q A C a c ((((c)*(i87))+d) / (1000000000:Int)) (0:Int) E (b+(1:Int)) B K R))))))))))))))))))))) (az .i64 (a+j)/\(Ix (a+j) i g fun J=>(∃(i99:Int),ae w (J.add (((a+j)).toNat*1)) [(.int .u32 i99)]/\(az .i64 (i99)/\(az .i64 ((i99) - d)/\(az .i64 (((i99) - d) - e)/\(Br (((((i99) - d) - e):Int)<(0:Int)) (az .u64 (c - (1:Int))/\(ag.Ou o r x g i y k l z j q A C a (c - (1:Int)) (((i99) - d) - e) (0:Int) j (0:Int) B w R)) (ag.Q0 o r x g i y k l z j q A C a c (((i99) - d) - e) B w R)))))))))):
  ag.zx o r x g i y k l z j q A C a c d e E b B w R:=
 lr ag.cx Tryz.func290 h
theorem ag.Ou.step{l e i m:O}{n o g q j r x y B:Nat}{z b A k c C a:Int}{w:World}{R:Kt}
  (h:(Br ((a:Int)<C) (az .i64 (a+b)/\(Ix (a+b) g e fun G=>(∃(i101:Int),ae w (G.add (((a+b)).toNat*1)) [(.int .u32 i101)]/\(az .u64 (i101)/\(Ix a j i fun H=>(∃(i103:Int),ae w (H.add ((a).toNat*1)) [(.int .u32 i103)]/\(az .u64 (i103)/\(az .u64 ((i101)+(i103))/\(az .u64 (c+((i101)+(i103)))/\(az .i64 (a+b)/\((0<=(c+((i101)+(i103)))/\0<(1000000000:Int))/\(az .u32 (((c+((i101)+(i103))) % (1000000000:Int)))/\(Ix (a+b) g e fun d=>(∀D,Ext B [] w D->(∃(E:List Value)(t107:Nat),B<=(d.add (((a+b)).toNat*1)).block/\(d.add (((a+b)).toNat*1)).spot=none/\D.heap[(d.add (((a+b)).toNat*1)).block]? =some (.cells E.toArray t107 (0,0))/\(d.add (((a+b)).toNat*1)).off+1<=E.length/\hasType t107 []=false/\∀F,dd D F (d.add (((a+b)).toNat*1)).block t107 (setCells E (d.add (((a+b)).toNat*1)).off [(.int .u32 (((c+((i101)+(i103))) % (1000000000:Int))))])->((0<=(c+((i101)+(i103)))/\0<(1000000000:Int)/\az .u64 (c+((i101)+(i103))))/\(az .i64 (a+(1:Int))/\(ag.Ou l n o e g q i j r z m x y b A k ((c+((i101)+(i103))) / (1000000000:Int)) C (a+(1:Int)) B F R)))))))))))))))))) (az .i64 (c)/\(az .i64 (k+(c))/\(ag.Q0 l n o e g q i j r z m x y b A (k+(c)) B w R))))):
  ag.Ou l n o e g q i j r z m x y b A k c C a B w R:=
 lr ag.cx Tryz.func290 h
theorem ag.Q0.step{r f s g:O}{t u i v x y j z B:Nat}{b a l e:Int}{w:World}{R:Kt}
  (h:(az .i64 (a+b)/\(az .u32 ((if(0:Int)>e then(0:Int)else e))/\(Ix (a+b) i f fun c=>(∃(m:List Value)(n:Nat),B<=(c.add (((a+b)).toNat*1)).block/\(c.add (((a+b)).toNat*1)).spot=none/\w.heap[(c.add (((a+b)).toNat*1)).block]? =some (.cells m.toArray n (0,0))/\(c.add (((a+b)).toNat*1)).off+1<=m.length/\hasType n []=false/\∀o,dd w o (c.add (((a+b)).toNat*1)).block n (setCells m (c.add (((a+b)).toNat*1)).off [(.int .u32 ((if(0:Int)>e then(0:Int)else e)))])->(az .u32 (l)/\(Ix a j g fun d=>(∃(p:List Value)(q:Nat),B<=(d.add ((a).toNat*1)).block/\(d.add ((a).toNat*1)).spot=none/\o.heap[(d.add ((a).toNat*1)).block]? =some (.cells p.toArray q (0,0))/\(d.add ((a).toNat*1)).off+1<=p.length/\hasType q []=false/\∀A,dd o A (d.add ((a).toNat*1)).block q (setCells p (d.add ((a).toNat*1)).off [(.int .u32 (l))])->(az .i64 (a - (1:Int))/\(ag.vT r t u f i v s x y b g j z (a - (1:Int)) B A R)))))))))):
  ag.Q0 r t u f i v s x y b g j z a l e B w R:=
 jr ag.cx Tryz.func290 h
theorem ag.vc{a e:O}{b c f g:Nat}{w:World}{R:Kt}
  (h:(Pure P 282 #[.slice a b c,.slice e f g] w (Ri fun p l=>(Br (p<0) (R (.tuple #[.slice none 0 0,.slice a b c]) l) (Pure P 288 #[.slice a b c] l fun q r=>∃d m,q= .tuple #[.int .u64 d,.bool m]/\(Pure P 288 #[.slice e f g] r fun s j=>∃i n,s= .tuple #[.int .u64 i,.bool n]/\(Bb m (Bb n ((0<=d/\0<i/\az .u64 d)/\((0<=d/\0<i)/\(∀o,Ext w.heap.size [] j o->(Pure P 289 #[(.int .u64 (d / i))] o (Rs fun t u v x=>(Pure P 289 #[(.int .u64 (d % i))] x (Rs fun y z A C=>(R (.tuple #[.slice t u v,.slice y z A]) C)))))))) (ag.J7 a b c e f g w.heap.size j R)) (ag.J7 a b c e f g w.heap.size j R)))))))):
  Pure P 290 #[.slice a b c,.slice e f g] w R:=
 pr ag.cx Tryz.func290 h

def ai.L4(a:O)(b c:Nat)(d:O)(e f:Nat)(g:Int)(i:O)(j l:Nat)(m n o:Int):=Lt 305 Tryz.f305 4 [(0,.v (.slice a b c)),(1,.v (.slice d e f)),(2,.v (.int .i64 g)),(7,.v (.slice i j l)),(8,.v (.int .i64 m)),(19,.v (.int .i64 n)),(20,.v (.int .i64 o))] []
def ai.J8(a:O)(b c:Nat)(d:O)(e f:Nat)(g:Int)(i:O)(j l:Nat)(m n o p:Int):=Jt 305 Tryz.f305 8 [(0,.v (.slice a b c)),(1,.v (.slice d e f)),(2,.v (.int .i64 g)),(7,.v (.slice i j l)),(8,.v (.int .i64 m)),(9,.v (.int .i64 n)),(19,.v (.int .i64 o)),(20,.v (.int .i64 p))] []
def ai.Sa(a:O)(b c:Nat)(d:O)(e f:Nat)(g:Int)(i:O)(j l:Nat)(m n o:Int):=Jt 305 Tryz.f305 10 [(0,.v (.slice a b c)),(1,.v (.slice d e f)),(2,.v (.int .i64 g)),(7,.v (.slice i j l)),(8,.v (.int .i64 m)),(19,.v (.int .i64 n)),(20,.v (.int .i64 o))] []
def ai.cx:Pm:=([((true,4),[0,1,2,7,8,19,20],[]),((false,8),[0,1,2,7,8,9,19,20],[]),((false,10),[0,1,2,7,8,19,20],[])],[(1,3,2),(10,1,1),(11,1,1),(15,3,2),(15,4,2),(18,3,2),(18,4,2)])
theorem ai.L4.step{g l c:O}{d m n o e f B:Nat}{p b i a:Int}{w:World}{R:Kt}
  (h:(Br (a<i) (Br (a<(d:Int)) (Ix a d g fun q=>(∃j,ae w (q.add ((a).toNat*1)) [.int .u32 j]/\(az .i64 (j)/\(az .i64 (b+(j))/\(ai.J8 g d m l n o p c e f (b+(j)) a i a B w R))))) (ai.J8 g d m l n o p c e f b a i a B w R)) (Br (b>0) (az .u32 (b)/\(au P (Instr.buildSlice 259 1 #[(0,(.int .u32 (b)))]) B [] w (Rs fun r s t u=>(au P (Builtin.append_ #[259,259] 259 #[.slice c e f,.slice r s t]) B [] u (Rs fun v x y z=>(R (.slice v x y) z)))))) (R (.slice c e f) w)))):
  ai.L4 g d m l n o p c e f b i a B w R:=
 lr ai.cx Tryz.func305 h
theorem ai.J8.step{g d i:O}{j l b m n o B:Nat}{a e f p q:Int}{w:World}{R:Kt}
  (h:(Br (f<(b:Int)) (Ix f b d fun r=>(∃c,ae w (r.add ((f).toNat*1)) [.int .u32 c]/\(az .i64 (c)/\(az .i64 (a*(c))/\(az .i64 (e+(a*(c)))/\(ai.Sa g j l d b m a i n o (e+(a*(c))) p q B w R)))))) (ai.Sa g j l d b m a i n o e p q B w R))):
  ai.J8 g j l d b m a i n o e f p q B w R:=
 jr ai.cx Tryz.func305 h
theorem ai.Sa.step{c d e:O}{f g i j l m B:Nat}{n a o b:Int}{w:World}{R:Kt}
  (h:((1000000000:Int)≠0/\((1000000000:Int)≠0/\(Br (((Int.tmod a (1000000000:Int)):Int)<0) (az .i64 ((Int.tmod a (1000000000:Int))+1000000000)/\(az .i64 ((IntKind.wrap .i64 (Int.tdiv a (1000000000:Int))) - (1:Int))/\(az .u32 (((Int.tmod a (1000000000:Int))+1000000000))/\(au P (Instr.buildSlice 259 1 #[(0,(.int .u32 (((Int.tmod a (1000000000:Int))+1000000000))))]) B [] w (Rs fun p q r s=>(au P (Builtin.append_ #[259,259] 259 #[.slice e l m,.slice p q r]) B [] s (Rs fun t u v x=>(az .i64 (b+1)/\(ai.L4 c f g d i j n t u v ((IntKind.wrap .i64 (Int.tdiv a (1000000000:Int))) - (1:Int)) o (b+1) B x R))))))))) (az .u32 ((Int.tmod a (1000000000:Int)))/\(au P (Instr.buildSlice 259 1 #[(0,(.int .u32 ((Int.tmod a (1000000000:Int)))))]) B [] w (Rs fun y z A C=>(au P (Builtin.append_ #[259,259] 259 #[.slice e l m,.slice y z A]) B [] C (Rs fun D E G H=>(az .i64 (b+1)/\(ai.L4 c f g d i j n D E G (IntKind.wrap .i64 (Int.tdiv a (1000000000:Int))) o (b+1) B H R))))))))))):
  ai.Sa c f g d i j n e l m a o b B w R:=
 jr ai.cx Tryz.func305 h
theorem ai.vc{c d:O}{a e b f:Nat}{g:Int}{w:World}{R:Kt}
  (h:(az .i64 ((a:Int)+1)/\(au P (Instr.makeSlice 259 (.int .i64 0) (.int .i64 ((a:Int)+1))) w.heap.size [] w (Rs fun i j l m=>(ai.L4 c a e d b f g i j l (0:Int) (if(b:Int)>(a:Int)then(b:Int)else(a:Int)) (0:Int) w.heap.size m R))))):
  Pure P 305 #[.slice c a e,.slice d b f,.int .i64 g] w R:=
 pr ai.cx Tryz.func305 h

def dD.L4(a:O)(b c:Nat)(d:Int)(e:O)(f g:Nat)(i j:Int):=Lt 309 Tryz.f309 4 [(0,.v (.slice a b c)),(1,.v (.int .u64 d)),(6,.v (.slice e f g)),(7,.v (.int .u64 i)),(8,.v (.int .i64 j))] []
def dD.cx:Pm:=([((true,4),[0,1,6,7,8],[])],[(1,2,2)])
theorem dD.L4.step{i f:O}{j o g l B:Nat}{d b a:Int}{w:World}{R:Kt}
  (h:(Br (a≥(0:Int)) (az .u64 (b*(1000000000:Int))/\(Ix a j i fun q=>(∃c,ae w (q.add ((a).toNat*1)) [.int .u32 c]/\(az .u64 (c)/\(az .u64 ((b*(1000000000:Int))+(c))/\((0<=((b*(1000000000:Int))+(c))/\0<d/\az .u64 ((b*(1000000000:Int))+(c)))/\(az .u32 ((((b*(1000000000:Int))+(c)) / d))/\(Ix a g f fun e=>(∃(m:List Value)(n:Nat),B<=(e.add ((a).toNat*1)).block/\(e.add ((a).toNat*1)).spot=none/\w.heap[(e.add ((a).toNat*1)).block]? =some (.cells m.toArray n (0,0))/\(e.add ((a).toNat*1)).off+1<=m.length/\hasType n []=false/\∀p,dd w p (e.add ((a).toNat*1)).block n (setCells m (e.add ((a).toNat*1)).off [(.int .u32 ((((b*(1000000000:Int))+(c)) / d)))])->((0<=((b*(1000000000:Int))+(c))/\0<d)/\(az .i64 (a - (1:Int))/\(dD.L4 i j o d f g l (((b*(1000000000:Int))+(c)) % d) (a - (1:Int)) B p R)))))))))))) (Pure P 280 #[.slice f g l] w (Rs fun r s t u=>(Pure P 289 #[.int .u64 b] u (Rs fun v x y z=>(R (.tuple #[.slice r s t,.slice v x y]) z))))))):
  dD.L4 i j o d f g l b a B w R:=
 lr dD.cx Tryz.func309 h
theorem dD.vc{b:O}{a c:Nat}{d:Int}{w:World}{R:Kt}
  (h:(au P (Instr.makeSlice 259 (.int .i64 (a:Int)) (.int .i64 (a:Int))) w.heap.size [] w (Rs fun e f g i=>(az .i64 ((a:Int) - (1:Int))/\(dD.L4 b a c d e f g (0:Int) ((a:Int) - (1:Int)) w.heap.size i R))))):
  Pure P 309 #[.slice b a c,.int .u64 d] w R:=
 pr dD.cx Tryz.func309 h

def gA.cx:Pm:=([],[])
theorem gA.vc{d e:ByteArray}{w:World}{R:Kt}
  (h:(Pure P 255 #[.string d,.string e] w fun s a=>∃f g i j b l c,s= .tuple #[.slice f g i,.slice j b l,.int .i64 c]/\(Br (c≠0) (R (.tuple #[(.string ⟨#[]⟩),(.string ⟨#[]⟩),.int .i64 c]) a) (Br ((b:Int)=0) (R (.tuple #[(.string ⟨#[]⟩),(.string ⟨#[]⟩),.int .i64 16]) a) (Pure P 290 #[.slice f g i,.slice j b l] a fun t u=>∃m n o p q r,t= .tuple #[.slice m n o,.slice p q r]/\(Pure P 279 #[.slice m n o] u (Rt fun v x=>(Pure P 279 #[.slice p q r] x (Rt fun y z=>(R (.tuple #[.string v,.string y,.int .i64 0]) z)))))))))):
  Pure P 313 #[.string d,.string e] w R:=
 pr gA.cx Tryz.func313 h

end Go.Proofs.YtgfkeadgjkfomaaGreatDoor.F

namespace Go.Proofs.YtgfkeadgjkfomaaGreatDoor.B
open Go Go.RowKit Go.Proofs Go.Proofs.YtgfkeadgjkfomaaGreatDoor.Vc

abbrev Tx:=List UInt8
def bM(s:ByteArray):Tx:=s.data.toList
def st(l:Tx):ByteArray:=⟨l.toArray⟩
theorem nU(l:Tx):bM (st l)=l:=rfl
theorem LU(s:ByteArray):st (bM s)=s:=rfl
theorem dn(s:ByteArray):s.size=(bM s).length:=by rfl
theorem zA{a b:Tx}(h:st a=st b):a=b:=by have:=dB bM h;exact this
theorem ss{a b:ByteArray}(h:bM a=bM b):a=b:=by rw[<-LU a,<-LU b,h]

def px(c:UInt8):Bool:=48<=c.toNat&&c.toNat<=57
def dv(c:UInt8):Nat:=c.toNat - 48
def isNat(l:Tx):Bool:= !l.isEmpty&&(l.length==1||l.head? !=some 48)&&l.all px
def cX(l:Tx):Nat:=l.foldl (fun a c=>10*a+dv c) 0

theorem uT{s:ByteArray}{i:Int}(h0:0<=i)(h:i<s.size):∃c,(bM s)[i.toNat]? =some c/\bt s i=(c.toNat:Int)/\(bM s).drop i.toNat=c::(bM s).drop (i.toNat+1):=by
 have hl:i.toNat<(bM s).length:=by rw[<-dn];omega
 refine⟨(bM s)[i.toNat],by simp[hl],?_,ec hl⟩;have e:bt s i=(((bM s).getD i.toNat 0).toNat:Int):=rfl;rw[e,cN,af hl];rfl

theorem uU(s:ByteArray)(hs:s.size<2147483648)(B:Nat)(w:World)(R:Value->World->Prop):∀(d:Nat)(i:Int),0<=i->i<=s.size->s.size - i=d->
  R (.bool (((bM s).drop i.toNat).all px)) w->F.cF.L4 s s.size i B w R:=by
 intro d;induction d with
 |zero=>
  intro i h0 h1 e a;refine F.cF.L4.step ⟨fun h=>by omega,fun h=> ?_⟩;rw[dp (by rw[<-dn];omega)]at a;exact a
 |succ d ih=>
  intro i h0 h1 e a;obtain⟨c,b,hb,g⟩:=uT h0 (show i<s.size by omega);rw[g,vv]at a;refine F.cF.L4.step ⟨fun h=>⟨om,⟨fun h2=> ?_,fun h2=>⟨om,⟨fun h3=> ?_,fun h3=>⟨ir,?_⟩⟩⟩⟩⟩,fun h=>by omega⟩
  ·have:px c=false:=by simp[px];omega
   simpa[this]using a
  ·have:px c=false:=by simp[px];omega
   simpa[this]using a
  ·have b:px c=true:=by simp[px];omega
   refine ih (i+1) om om om ?_;rw[show(i+1).toNat=i.toNat+1 by omega];simpa[b]using a

theorem cF(s:ByteArray)(hs:s.size<2147483648)(w:World):Pure Tryz.prog 213 #[.string s] w fun v _=>v= .bool (isNat (bM s)):=by
 have go:∀R:Value->World->Prop,R (.bool ((bM s).all px)) w->F.cF.L4 s s.size 0 w.heap.size w R:=fun R g=>
  uU s hs _ _ _ s.size 0 om om om g
 refine F.cF.vc ⟨fun h=> ?_,fun h=>⟨fun h1=>⟨om,⟨fun h2=> ?_,fun h2=>go _ ?_⟩⟩,fun h1=>go _ ?_⟩⟩
 ·subst h;rfl
 ·obtain⟨c,a,hb,b⟩:=uT (s:=s) (i:=0) om om;have e:bM s=c::(bM s).drop 1:=by simpa using b
  have d:c=48:=by
   have:c.toNat=48:=om;exact HP.1 this
  have hl:(bM s).length≠1:=by rw[<-dn];omega
  have:isNat (bM s)=false:=by
   unfold isNat;simp only[vx,(by simpa using hl:((bM s).length==1)=false)];rw[e,d];simp
  rw[this]
 ·obtain⟨c,a,hb,b⟩:=uT (s:=s) (i:=0) om om;have e:bM s=c::(bM s).drop 1:=by simpa using b
  have d:c≠48:=fun k=>by subst k;exact h2 hb
  congr 1
  unfold isNat;rw[e];simp[d]
 ·have hl:(bM s).length=1:=by
   rw[<-dn];have:s.size≠0:=fun k=>h (by apply ss;exact gz k)
   omega
  obtain⟨c,a⟩:=ni.1 hl;rw[a];simp[isNat]

def wv:List Nat->Nat
 |[]=>0
 |x::r=>x+1000000000*wv r
def Small(l:List Nat):Prop:=∀x∈l,x<1000000000
def Norm(l:List Nat):Prop:=l.getLast?≠some 0

theorem dT(a b:List Nat):wv (a++b)=wv a+1000000000^a.length*wv b:=by
 induction a with
 |nil=>simp[wv]
 |cons x r ih=>simp only[xm,wv,ih,gw,hL];rw[jv,<-LG,ru 1000000000 (1000000000^_)];omega
theorem ig{l:List Nat}(h:Small l):wv l<1000000000^l.length:=by
 induction l with
 |nil=>simp[wv]
 |cons x r ih=>
  have h1:=h x sm;have h2:=ih fun y hy=>h y (by simp[hy])
  simp only[wv,gw,hL];omega
theorem Small.take{l:List Nat}(h:Small l)(n:Nat):Small (l.take n):=fun x hx=>h x (mr hx)
theorem Small.append{a b:List Nat}(ha:Small a)(hb:Small b):Small (a++b):=fun x hx=>(h8.1 hx).elim (ha x) (hb x)
theorem Small.cons{x:Nat}{l:List Nat}(hx:x<1000000000)(h:Small l):Small (x::l):=fun y hy=>by
 rcases fi.1 hy with rfl|hy
 ·exact hx
 ·exact h y hy
theorem Small.nil:Small []:=fun x hx=>by cases hx

theorem lM{l:List Nat}(h:Norm l)(hn:l≠[]):1000000000^(l.length - 1)<=wv l:=by
 have e:l=l.dropLast++[l.getLast hn]:=(wY hn).symm;have h0:l.getLast hn≠0:=fun k=>h (by rw[He hn,k])
 have hw:wv l=wv l.dropLast+1000000000^l.dropLast.length*wv [l.getLast hn]:=by rw[<-dT,<-e]
 rw[hw,List.length_dropLast];simp only[wv,CO,ob];have h1:1<=l.getLast hn:=om;have:=gO (1000000000^(l.length - 1)) h1;omega

def gM(w:World)(A:Option Addr)(ws:List Nat):Prop:=
 ws=[]∨∃b off all fr,A=some ⟨b,off,none⟩/\w.heap[b]? =some (.cells all 217 fr)/\∀i,(h:i<ws.length)->all[off+i]? =some (.int .u32 (ws[i]:Nat))

theorem gM.cell{w:World}{A:Option Addr}{ws:List Nat}(h:gM w A ws){j:Int}(h0:0<=j)(h1:j<ws.length):
  ∃a,A=some a/\∃x:Nat,ws[j.toNat]? =some x/\ae w (a.add (j.toNat*1)) [.int .u32 (x:Int)]:=by
 rcases h with h|⟨b,off,all,fr,c,hb,d⟩
 ·subst h;simp at h1;omega
 ·have hj:j.toNat<ws.length:=om;refine⟨_,c,ws[j.toNat],by simp[hj],fun i hi=> ?_⟩;have hi:i=0:=by simp at hi;exact hi
  subst hi;rw[JA,ib,ib];simp only[World.cell?,hb];simpa using d j.toNat hj

theorem gM.heap{w w':World}{A:Option Addr}{ws:List Nat}(h:gM w A ws)(a:∀(b:Nat)(all:Array Value)(fr:Nat×Nat),w.heap[b]? =some (.cells all 217 fr)->w'.heap[b]? =w.heap[b]?):gM w' A ws:=by
 rcases h with h|⟨b,off,all,fr,c,hb,d⟩
 ·exact .inl h
 ·exact .inr ⟨b,off,all,fr,c,by rw[a b all fr hb];exact hb,d⟩
theorem gM.below{w w':World}{A:Option Addr}{ws:List Nat}(h:gM w A ws)(hb:Below w.heap.size w w'):gM w' A ws:=
 gM.heap h fun b _ _ e=>hb.block b (bU.1 e).1
theorem gM.ext{w w':World}{B:Nat}{ts:List Nat}{A:Option Addr}{ws:List Nat}(h:gM w A ws)(he:Ext B ts w w')(hn:217∉ts):gM w' A ws:=
 gM.heap h fun b all fr e=>by
  rcases he.other b (bU.1 e).1 with h1|⟨t,a,c,c',d,h1,_⟩
  ·exact h1
  ·rw[e]at h1;cases h1;exact absurd a hn
theorem gM.take{w:World}{A:Option Addr}{ws:List Nat}(h:gM w A ws)(k:Nat):gM w A (ws.take k):=by
 rcases h with h|⟨b,off,all,fr,a,hb,c⟩
 ·exact .inl (by simp[h])
 ·exact .inr ⟨b,off,all,fr,a,hb,fun i hi=>by
   have h1:i<ws.length:=by simp at hi;omega
   simpa using c i h1⟩

def ee(w:World)(A:Option Addr)(n c:Nat)(x:Nat):Prop:=∃ws,gM w A ws/\ws.length=n/\n<=c/\n<2147483648/\Small ws/\Norm ws/\wv ws=x
theorem ee.below{w w':World}{A:Option Addr}{n c x:Nat}(h:ee w A n c x)(hb:Below w.heap.size w w'):ee w' A n c x:=by
 obtain⟨ws,h1,h2⟩:=h;exact⟨ws,h1.below hb,h2⟩
theorem ee.ext{w w':World}{B:Nat}{ts:List Nat}{A:Option Addr}{n c x:Nat}(h:ee w A n c x)(he:Ext B ts w w')(hn:217∉ts):ee w' A n c x:=by
 obtain⟨ws,h1,h2⟩:=h;exact⟨ws,h1.ext he hn,h2⟩

theorem vU{ws:List Nat}{n:Nat}(hn:ws.length=n+1)(h0:ws[n]? =some 0):wv (ws.take n)=wv ws:=by
 have e:ws=ws.take n++[0]:=by
  apply AP;intro i;by_cases h:i<n
  ·rw[oj (by simp;omega)];simp[h]
  ·rw[mP (by simp;omega)];by_cases h2:i=n
   ·subst h2;rw[h0];simp[hn]
   ·rw[kl om,kl (by simp;omega)]
 conv=>rhs;rw[e]
 rw[dT];simp[wv]

theorem vV(B:Nat)(w:World)(A:Option Addr)(c:Nat)(R:Value->World->Prop):∀(n:Nat)(ws:List Nat),gM w A ws->ws.length=n->n<2147483648->n<=c->Small ws->
  (∀m,m<=n->Norm (ws.take m)->wv (ws.take m)=wv ws->R (.slice A m c) w)->F.dh.L1 A n c B w R:=by
 intro n;induction n with
 |zero=>
  intro ws h hl i hn hs d;refine F.dh.L1.step ⟨fun h=>by omega,fun _=>d 0 om (by simp[Norm]) (by have:=gz hl;subst this;rfl)⟩
 |succ n ih=>
  intro ws h hl i hn hs d;obtain⟨a,l,x,hx,b⟩:=h.cell (j:=((n+1:Nat):Int) - 1) om om;have e:(((n+1:Nat):Int) - 1).toNat=n:=om;refine F.dh.L1.step ⟨fun _=>⟨ir,om,a,l,_,b,fun h0=>⟨ir,om,?_⟩,fun h0=> ?_⟩,fun h=>by omega⟩
  ·rw[e]at hx⊢;have o:x=0:=om;subst o;have q:=vU hl hx;refine ih (ws.take n) (h.take n) (by simp;omega) om om (hs.take n) fun m hm h1 h2=>d m om ?_ ?_
   ·rw[AD,iv hm]at h1;exact h1
   ·rw[AD,iv hm]at h2;rw[h2,q]
  ·rw[e]at hx;have g:ws.take (n+1)=ws:=bx om;refine d (n+1) lf ?_ (by rw[g]);rw[g];unfold Norm;rw[yn,hl,uP,hx];intro k;cases k;exact h0 rfl

theorem lN{w:World}{A:Option Addr}{n c:Nat}{ws:List Nat}(h:gM w A ws)(hl:ws.length=n)(hn:n<=c)(a:n<2147483648)(hs:Small ws):
  Pure Tryz.prog 280 #[.slice A n c] w fun v w'=>w'=w/\∃m,v= .slice A m c/\ee w A m c (wv ws)/\m<=n/\Norm (ws.take m)/\wv (ws.take m)=wv ws:=
 F.dh.vc (vV _ _ _ _ _ n ws h hl a hn hs fun m hm h1 h2=>⟨rfl,m,rfl,⟨ws.take m,h.take m,by simp;omega,om,om,hs.take m,h1,h2⟩,hm,h1,h2⟩)
end Go.Proofs.YtgfkeadgjkfomaaGreatDoor.B
