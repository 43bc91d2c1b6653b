/- Part 13 of the proofs that: The state of a record that was written and recovered is that of its events. -/
import Derived.Test.YtmdphpnaipbfjaaGreatDoorR12
import Derived.Test.YtmdphpnaipbfjaaGreatDoorCards
import Derived.Test.YtmdphpnaipbfjaaGreatDoorTie
import Derived.WalkKit
import Derived.ProofKit
import Derived.OpenShut
import Derived.Carry
import Derived.Deep.DeepHandedRow
import Derived.Deep.DeepWitnessRowRef
import Derived.Deep.Slices
import Derived.Deep.Fields
import Derived.Lib.SmallJoins
import Derived.Lib.LaidIn
import Derived.Lib.LaidTab
import Derived.Stop.LaidErr
import Derived.Shelf.Vars
import Derived.Laws.IdiomArrays
import Derived.Test.YtmdphpnaipbfjaaGreatDoorRows
import Derived.KernelRfl
import GoSem.ClaimGoes
set_option linter.unusedVariables false
set_option linter.unusedSimpArgs false
namespace Go.Proofs.YtmdphpnaipbfjaaGreatDoor.B
open Go Go.RowKit Go.Proofs Go.Proofs.YtmdphpnaipbfjaaGreatDoor.Vc

theorem nC.KB{w w':World}{B:Nat}{a:Ea}{e:Ev}(h:nC w B a e)(s:bA 82 w w'):nC w' B a e:=⟨h.n.bH s dc,h.r.bH s dc,h.t.bH s dc⟩
theorem zj(x:En):∀u∈x.row,bk u=true:=fun u hu=>by
 simp only[En.row,cb,eH,oP]at hu;rcases hu with rfl|rfl|rfl|rfl|rfl|rfl|rfl<;>rfl
theorem Ur:(Tryz.prog.info? 82).bind (·.zero)=some (.agg #[.int .i64 0,.int .i64 0,.int .i64 0,.slice none 0 0,.slice none 0 0,.slice none 0 0,.string ⟨#[]⟩]):=kF
section
variable {H:mw} {w w0 w':World} {A:Option Addr} {n c B:Nat} {l:List En} {a:Ea} {e:Ev} {s:ByteArray}
theorem pY.fresh(h:pY w B A n c l){w1 b:World}{p:Nat}{cs d:List Value}(hb:Below w.heap.size w w1)(hp:w.heap.size<=p)(h1:w1.heap[p]? =some (.cells cs.toArray 82 (0,0)))(hw:aG w1 b p 82 d):pY b B A n c l:=
 ⟨(h.s.below hb).other fun a ha=>hw.rest _ (by have:=(h.s.uN a ha).2;omega),fun y hy=>((h.f y hy).below hb).KB (bA.wrote hw h1)⟩
theorem pY.snoc(h:pY w B A n c l){x:En}{A':Option Addr}{c':Nat}(hx:nC w B x.m.a x.m.e)(o:ay w' B 82 A' (n+1) c' 7 (l.map En.row++[x.row]))(g:w.grownBy w' (Value.ownBlock (.slice A n c))):pY w' B A' (n+1) c' (l++[x]):=by
 have s:=bA.grown h.s g;refine⟨by rw[eh];exact o,fun y hy=> ?_⟩;rcases fJ.1 hy with hy|hy
 ·exact(h.f y hy).KB s
 ·rw[eb.1 hy];exact hx.KB s
theorem du(h:Ia w A n c l)(hs:∀x∈l,gQ x.m.e):Pure Tryz.prog 11 #[.slice A n c] w fun v w'=>∃A' c' zs,v= .slice A' n c'/\iT w' w.heap.size A' n c' zs/\iR zs=l.map fun x=>x.m.e:=by
 have hl:=h.len;have hm:=h.uO;have key:∀(d i:Nat)(w':World)(A':Option Addr)(c':Nat)(zs:List Em),n - i=d->i<=n->Below w.heap.size w w'->iT w' w.heap.size A' i c' zs->iR zs=(l.take i).map (fun x=>x.m.e)->
   F.du.L3 A' i c' A n c n i w.heap.size w' fun v w'=>∃A' c' zs,v= .slice A' n c'/\iT w' w.heap.size A' n c' zs/\iR zs=l.map fun x=>x.m.e:=by
  intro d;induction d with
  |zero=>
   intro i w' A' c' zs G hi hw ho he;have:i=n:=om;subst this;rw[cc om]at he;exact F.du.L3.step ⟨fun q=>by omega,fun _=>⟨A',c',zs,rfl,ho,he⟩⟩
  |succ d ih=>
   intro i w' A' c' zs G hi hw ho he;have g:i<l.length:=om;obtain⟨I,J,K,b,P⟩:=(h.s.below hw).at_ (row:=En.row) (fun _=>rfl) hl g;refine F.du.L3.step ⟨fun _=>⟨I,J,K,_,_,_,_,_,_,_,_,_,_,_,_,_,b,fun Q C=> ?_⟩,fun q=>by omega⟩;have k:=kE hw C;have L:=extAll C;have ok:=hs _ (bx g);have raw:=(h.f _ (bx g)).ar k;refine pm (jj (raw.ok ok.uO).2) ?_;rintro v R D ⟨r,rfl,z⟩;have E:=kP k D;have j:=(ho.below L).below D;refine⟨_,_,_,_,_,_,_,_,_,_,_,_,rfl,?_⟩;refine ix sB lf j.s (x:=r.val l[i].m.e) rfl (fun u hu=> ?_) E.size om dc fun A2 c2 M N g2 O=>⟨ir,?_⟩
   ·have hu:u∈(⟨l[i].m.e,r⟩:Em).row:=hu;simp only[Em.row,cb,eH,oP]at hu;rcases hu with rfl|rfl|rfl|rfl|rfl|rfl<;>rfl
   ·have s2:=bA.grown j.s g2;rw[show(i:Int)+1=((i+1:Nat):Int) by omega];refine ih (i+1) M A2 c2 (zs++[⟨l[i].m.e,r⟩]) om om (E.trans O) ⟨by rw[eh];exact N,fun y hy=> ?_,fun y hy=> ?_⟩ ?_
    ·rcases fJ.1 hy with hy|hy
     ·exact(j.f y hy).bH s2
     ·rw[eb.1 hy];exact(z.base k.size).bH s2
    ·rcases fJ.1 hy with hy|hy
     ·exact j.o y hy
     ·rw[eb.1 hy];exact⟨ok,raw.ik⟩
    ·rw[iR,eh,hP g,eh];exact ca (· ++[l[i].m.e]) he
 exact F.du.vc (key n 0 w none 0 [] rfl om (Below.refl _ _) ⟨ay.nil,nofun,nofun⟩ rfl)
abbrev agF(H:mw)(l:List En)(e:Ev)(n B:Nat)(v:Value)(w':World):Prop:=∃A' c' m,v= .tuple #[.slice A' (n+1) c',.int .i64 0]/\pY w' B A' (n+1) c' m/\lu m=lu l++[(e,xz H l e)]
theorem Nk(fk:fj H)(hg:bj w0)(h:Ia w0 A n c l)(hs:fZ H l)(W:tn w0 ⟨e,a⟩)(E:HT l e)(hn:n<1000):
  ∀(d i:Nat)(w:World)(A':Option Addr)(c':Nat)(m:List En),n - i=d->i<=n->Below w0.heap.size w0 w->pY w w0.heap.size A' i c' m->lu m=lu (l.take i)->
   F.dt.Bf A n c (st (kD e)) A' i c' A n c n i e.id e.tick e.kind a.n.A a.n.n a.n.c a.r.A a.r.n a.r.c a.t.A a.t.n a.t.c w0.heap.size w (agF H l e n w0.heap.size):=by
 have hl:=h.len;intro d;induction d with
 |zero=>
  intro i w A' c' m X hi hw ho C;have:i=n:=om;subst this;rw[cc om]at C;refine F.dt.Bf.step ⟨fun q=>by omega,fun _=>pm (jj ((W.ar hw).ok E.uO.uO).2) ?_⟩;rintro v Y k ⟨b,rfl,G⟩;have o:=kP hw k;have Z:=qM E.uO E.enc;have hdz:(Of l).size=32:=DU fk hs;refine⟨_,_,_,_,_,_,_,_,_,_,_,_,rfl,pm (kt fk (h.s.below o) hl om om (by rw[<-dx,oQ];omega)) ?_⟩;rintro v w56 g rfl;have Qi:=kP o g;have y:=(ho.below k).below g;refine⟨_,rfl,?_⟩;refine ix Ed lf y.s (x:=(⟨⟨e,b⟩,xz H l e⟩:En).val) rfl (zj ⟨⟨e,b⟩,xz H l e⟩) Qi.size om dc fun A2 c2 O I g2 P=>⟨A2,c2,m++[⟨⟨e,b⟩,xz H l e⟩],rfl,y.snoc (x:=⟨⟨e,b⟩,xz H l e⟩) ((G.base hw.size).below g) I g2,?_⟩
  show List.map _ (m++[_])=_;rw[eh];exact ca (· ++[(e,xz H l e)]) C
 |succ d ih=>
  intro i w A' c' m X hi hw ho C;have D:i<l.length:=om;obtain⟨zm,ad,hA,j,BB⟩:=(h.s.below hw).at_ (row:=En.row) (fun _=>rfl) hl D;refine F.dt.Bf.step ⟨fun _=>⟨zm,ad,hA,_,_,_,_,_,_,_,_,_,_,_,_,_,j,?_⟩,fun q=>by omega⟩;refine cK 82 Ur hw.size fun Eh Q R l18=>⟨_,_,hw.size,rfl,Q,sm,rfl,fun S J=> ?_⟩
  have g23:S.heap[w.heap.size]? =some (.cells l[i].row.toArray 82 (0,0)):=J.at_;have K:=ho.fresh R lf Q J;have Am:Below w.heap.size w S:=R.trans (aG.eC J lf);have L:=kP hw Am;refine⟨_,_,_,_,_,_,_,_,_,_,_,_,bD g23 0 6,_,bD g23 6 1,fun NQ T=> ?_⟩;have KU:=extAll T;have M:=kE L T;have se:=hs i D;have raw:=(h.f _ (bx D)).ar M;refine pm (jj (raw.ok se.fit.uO.uO).2) ?_;rintro v w39 U ⟨b,rfl,N⟩;have V:=kP M U;have z:=(K.below KU).below U;refine⟨_,_,_,_,_,_,_,_,_,_,_,_,rfl,?_⟩;refine ix Ed lf z.s (x:=(⟨⟨l[i].m.e,b⟩,l[i].d⟩:En).val) rfl (zj ⟨⟨l[i].m.e,b⟩,l[i].d⟩) V.size om dc fun A2 c2 O I g2 P=>⟨ir,?_⟩
  rw[show(i:Int)+1=((i+1:Nat):Int) by omega];refine ih (i+1) O A2 c2 (m++[⟨⟨l[i].m.e,b⟩,l[i].d⟩]) om om (V.trans P) (z.snoc (x:=⟨⟨l[i].m.e,b⟩,l[i].d⟩) (N.base M.size) I g2) ?_;show List.map _ (m++[_])=List.map _ _;rw[eh,hP D,eh];exact ca (· ++[(l[i].m.e,l[i].d)]) C
theorem dt(fk:fj H)(hg:bj w)(h:Ia w A n c l)(hs:fZ H l)(i:tn w ⟨e,a⟩)(d:HT l e)(hn:n<1000):
  Pure Tryz.prog 7 #[.slice A n c,a.val e] w (agF H l e n w.heap.size):=by
 refine F.dt.vc fun w1 x1=> ?_
 have g:=k0 x1;refine pm (cV fk (hg.next g) (h.ar g) hs) ?_;rintro v r j rfl;have b:=kP g j;refine⟨_,_,rfl,fun q=>absurd rfl q,fun _=>pm (ks (hg.next b) (h.s.below b) h.len om ((i.ar b).ok d.uO.uO).2 d) ?_⟩;rintro v k m rfl;have o:=kP b m;exact⟨_,_,rfl,fun q=>absurd rfl q,fun _=>⟨fun q=>by omega,fun _=>Nk fk hg h hs i d hn n 0 k none 0 [] rfl om o ⟨ay.nil,nofun⟩ rfl⟩⟩
theorem cM(fk:fj H)(hg:bj w)(h:Ia w A n c l)(hs:fZ H l):Pure Tryz.prog 8 #[.slice A n c] w fun v _=>v= .tuple #[.string (st (qW l)),.int .i64 0]:=by
 have hl:=h.len;have hm:=h.uO;have all:∀x∈l,gQ x.m.e/\qL x.m.e/\x.d.size=32:=fun x hx=>by
  obtain⟨i,hi,rfl⟩:=BA.1 hx;exact⟨(hs i hi).fit.uO,(hs i hi).fit.enc,hs.dsz fk _ hx⟩
 refine F.cM.vc (pm (cV fk hg h hs) ?_);rintro v j b4 rfl;have G:Below w.heap.size w j:=b4;refine⟨_,_,rfl,fun q=>absurd rfl q,fun _=> ?_⟩;refine cK (z:= .agg #[.pointer none,.slice none 0 0]) _ kF G.size fun w5 h5 b5 l5=> ?_
 have pA:=G.trans (b5.mono G.size);have hB:=G.size;have key:∀(d i:Nat)(w':World),n - i=d->i<=n->Below w.heap.size w w'->Bu w' w.heap.size j.heap.size (qW (l.take i))->
   F.cM.L6 ⟨j.heap.size,0,none⟩ A n c n i w.heap.size w' fun v _=>v= .tuple #[.string (st (qW l)),.int .i64 0]:=by
  intro d;induction d with
  |zero=>
   intro i w' hd hi hw hb;rw[cc om]at hb;refine F.cM.L6.step ⟨fun q=>by omega,fun _=> ?_⟩;refine ba.mono (Ar hb hw.size (ts:=[]) sm sm (K:=fun _=>True) fun _ _ _=>trivial) ?_;rintro v w2 b2 ⟨s2,s,rfl,rfl,_⟩;exact⟨s2,_,rfl,rfl⟩
  |succ d ih=>
   intro i w' hd hi hw hb;have C:i<l.length:=om;have D:=hs i C;have hdz:=hs.dsz fk _ (bx C);have hez:=qM D.fit.uO D.fit.enc;have ez:(st (kD l[i].m.e)).size=(kD l[i].m.e).length:=by rw[<-dx,oQ]
   have hlen:=Og (l:=l.take i) fun x hx=>all x (oe hx)
   have KG:(l.take i).length<=1000:=by rw[ep];omega
   have yS:(qW (l.take i)).length<=1000*2100:=ec hlen (oi KG lf);have xF:=ti [st (kD l[i].m.e)] 2000 (fun s N=>by rw[eb.1 N];omega) om;simp only[pe]at xF;have lz:(st (cJ [st (kD l[i].m.e)])).size=(cJ [st (kD l[i].m.e)]).length:=by rw[<-dx,oQ]
   obtain⟨zm,ad,hA,o,BB⟩:=(h.s.below hw).at_ (row:=En.row) (fun _=>rfl) hl C;refine F.cM.L6.step ⟨fun _=>⟨zm,ad,hA,_,_,_,_,_,_,_,_,_,_,_,_,_,o,fun xi V=> ?_⟩,fun q=>by omega⟩;have O:=kE hw V;have raw:=((h.f _ (bx C)).ar O).ok D.fit.uO.uO;refine pm (bu (hg.next O) raw.2 D.fit.uO D.fit.enc) ?_;rintro v zL W rfl;have I:=kP O W;have X:=(hb.below (extAll V)).below W;have fin:∀w',Below w.heap.size w w'->Bu w' w.heap.size j.heap.size (qW (l.take i)++bJ (st (cJ [st (kD l[i].m.e)])++l[i].d))->F.cM.L6 ⟨j.heap.size,0,none⟩ A n c n ((i:Int)+1) w.heap.size w' fun v _=>v= .tuple #[.string (st (qW l)),.int .i64 0]:=fun w' xU Nw=>by
    rw[show(i:Int)+1=((i+1:Nat):Int) by omega];refine ih (i+1) w' om om xU ?_;rw[hP C,yg,qW,qW,vB];rwa [DZ,oQ]at Nw
   have body:∀(b:World)(k:Option Addr)(r:Nat),Below w.heap.size w b->Bu b w.heap.size j.heap.size (qW (l.take i))->bW b k 1 ([st (kD l[i].m.e)].map eD)->
     Pure Tryz.prog 29 #[.slice k 1 r] b (Rt fun Y P=>Y.size+l[i].d.size<=9223372036854775807/\ba Tryz.prog 28 #[.pointer (some ⟨j.heap.size,0,none⟩),.string (Y++l[i].d)] w.heap.size P fun Q J=>qk [82] P J/\∃(i28:Int)(R:Value),Q= .tuple #[.int .i64 i28,R]/\(aN .i64 ((i:Int)+1)/\F.cM.L6 ⟨j.heap.size,0,none⟩ A n c n ((i:Int)+1) w.heap.size J fun v _=>v= .tuple #[.string (st (qW l)),.int .i64 0])):=by
    intro b k r L M S;refine pm (dH (l:=[st (kD l[i].m.e)]) S rfl sm fun s N=>by rw[eb.1 N];omega) ?_;rintro v P Z rfl;have vQ:=kP L Z;exact⟨_,rfl,om,qI (M.below Z) _ (by rw[eU];omega) vQ.size dc dc fun J KU T _=>⟨ir,fin J (vQ.trans KU) T⟩⟩
   refine⟨_,_,rfl,fun EI U=> ?_,fun w39 y=> ?_⟩
   ·refine aW kG [.string (st (kD l[i].m.e))] (by simp[Value.cells]) sm (kE I U).size fun k r b g E=> ?_
    have M:=(X.below (extAll U)).below E;have L:=kP (kE I U) E;exact⟨body b k r L M g.sl,body b k r L M g.sl⟩
   ·refine aW kG [.string (st (kD l[i].m.e))] (by simp[Value.cells]) sm (kE I y).size fun k r b g E=> ?_
    exact body b k r (kP (kE I y) E) ((X.below (extAll y)).below E) g.sl
 exact key n 0 w5 rfl om pA (MW h5 hB)
end

theorem Nl{w:World}{B b:Nat}{s:ByteArray}(hB:B<=b)(d:B<=w.heap.size)(m:Rd w b s false)(hs:bJ s=[]):
  ba Tryz.prog 31 #[.pointer (some ⟨b,0,none⟩)] B w fun v w'=>v= .string ⟨#[]⟩/\Rd w' b s true/\∀k,k≠b->k<w.heap.size->w'.heap[k]? =w.heap[k]? :=by
 have i:s=⟨#[]⟩:=xM hs;have short:ba Tryz.prog 66 #[.pointer (some ⟨b,0,none⟩)] B w fun v w'=>v= .int .i64 0/\Rd w' b s true/\∀k,k≠b->k<w.heap.size->w'.heap[k]? =w.heap[k]? :=by
  refine F.bO.sV d (F.bO.L3.step ⟨fun _=>⟨s,bD m 0 1,fun q=>absurd i q,fun _=> ?_⟩,fun q=>absurd (show(0:Int)<63 by decide) q⟩);exact⟨_,_,hB,rfl,m,(show(1:Nat)+1<=2 from by omega),rfl,fun x o=>⟨rfl,o.at_,fun k h _=>o.rest k h⟩⟩
 refine F.iz.sV d (ba.mono short ?_);rintro v w1 y ⟨rfl,g,j⟩;refine⟨by simp[qk],_,rfl,_,bD g 1 1,fun _=> ?_,fun q=>(by cases q)⟩;exact⟨_,_,hB,rfl,g,(show(1:Nat)+1<=2 from by omega),rfl,fun z r=>⟨rfl,r.at_,fun k h hl=>(r.rest k h).trans (j k h hl)⟩⟩
section
variable {H:mw} {w w0 w':World} {A:Option Addr} {n c B:Nat} {l:List En} {a:Ea} {e:Ev} {s:ByteArray}
theorem nC.agK{q:Nat}(h:nC w B a e)(s:bA q w w')(h1:3≠q)(b:75≠q)(d:9≠q):nC w' B a e:=⟨h.n.bH s h1,h.r.bH s b,h.t.bH s d⟩
theorem pY.Us(h:pY w B A n c l)(s:bA 98 w w'):pY w' B A n c l:=⟨h.s.bH s dc,fun y hy=>(h.f y hy).agK s dc dc dc⟩
theorem pY.acm(d:pY w B A n c l){w1 b:World}{p:Nat}{cs g:List Value}(h:pY w1 B A n c l)(hp:w.heap.size<=p)(h1:w1.heap[p]? =some (.cells cs.toArray 82 (0,0)))(hw:aG w1 b p 82 g):pY b B A n c l:=
 ⟨h.s.other fun a ha=>hw.rest _ (by have:=(d.s.uN a ha).2;omega),fun y hy=>(h.f y hy).KB (bA.wrote hw h1)⟩
abbrev acn(l:List En)(B:Nat)(v:Value)(w':World):Prop:=∃A' c' m,v= .tuple #[.slice A' l.length c',.int .i64 (qW l).length]/\pY w' B A' l.length c' m/\lu m=lu l
theorem Nn(fk:fj H)(hg:bj w0)(hs:fZ H l)(hl:l.length<=1000){b:Nat}(hB:w0.heap.size<=b):
  ∀(d i:Nat)(w:World)(A':Option Addr)(c':Nat)(m:List En)(s:ByteArray),l.length - i=d->i<=l.length->Below w0.heap.size w0 w->pY w w0.heap.size A' i c' m->lu m=lu (l.take i)->Rd w b s false->bJ s=qW (l.drop i)->
   F.ck.L4 (st (qW l)) A' i c' ((qW (l.take i)).length:Int) ⟨b,0,none⟩ w0.heap.size w (acn l w0.heap.size):=by
 have all:∀x∈l,gQ x.m.e/\qL x.m.e/\x.d.size=32:=fun x hx=>by
  obtain⟨i,hi,rfl⟩:=BA.1 hx;exact⟨(hs i hi).fit.uO,(hs i hi).fit.enc,hs.dsz fk _ hx⟩
 have gB:=Og all;have anX:(qW l).length<=1000*2100:=ec gB (oi hl lf);intro d;induction d with
 |zero=>
  intro i w A' c' m s hd hi hw ho D o y;have:i=l.length:=om;subst this;rw[KT]at D⊢;rw[UN]at y;refine F.ck.L4.step ⟨fun _=>ba.mono (Nl hB hw.size o y) ?_,fun q=>by omega⟩;rintro v P b5 ⟨rfl,j,z⟩;have g:=HZ o z;exact⟨qN o z dc,_,rfl,_,bD j 1 1,fun _=>⟨A',c',m,rfl,ho.Us g,D⟩,fun q=>(by cases q)⟩
 |succ d ih=>
  intro i w A' c' m s hd hi hw ho D o y;have bK:i<l.length:=om;have se:=hs i bK;have he:=se.fit.uO;have ok:=se.fit.enc;have hdz:=hs.dsz fk _ (bx bK);have hez:=qM he ok;have ez:(st (kD l[i].m.e)).size=(kD l[i].m.e).length:=by rw[<-dx,oQ]
  have UJ:m.length=i:=by
   have:=ca List.length D;simpa[ep,jv hi]using this
  rw[cy bK,qW,Qm,DZ,fi]at y;refine F.ck.L4.step ⟨fun _=>ba.mono (um hB hw.size om o y) ?_,fun q=>by omega⟩;rintro v P b5 ⟨rfl,g,j,E,z⟩;have R:=hw.trans b5;have o5:=ho.Us (HZ o z);have hz5:g.size=32+(qW (l.drop (i+1))).length:=by rw[<-dx,E,dp,dx,hdz]
  have LC:b<P.heap.size:=(ax.1 j).1;refine⟨qN o z dc,_,rfl,_,bD j 1 1,fun q=>(by cases q),fun _=>⟨g,bD j 0 1,fun q=>by omega,fun _=>⟨g,bD j 0 1,⟨om,om⟩,?_⟩⟩⟩;refine cK 82 Ur R.size fun w9 h9 b9 l9=>⟨_,_,R.size,rfl,h9,sm,rfl,fun CV tj=> ?_⟩
  have ed:g.extract 0 32=l[i].d:=xM (by
   rw[lK,E,AY,vi (by rw[dx];omega),cc (by rw[dx];omega)])
  have g14:CV.heap[P.heap.size]? =some (.cells ([.int .i64 0,.int .i64 0,.int .i64 0,.slice none 0 0,.slice none 0 0,.slice none 0 0,.string l[i].d]:List Value).toArray 82 (0,0)):=by
   rw[<-ed];exact tj.at_
  have o14:=o5.fresh b9 lf h9 tj;have G:b≠P.heap.size:=om;have I:Rd CV b g false:=(tj.rest b G).trans (ai j b9);have agM:Below w0.heap.size w0 CV:=kP R (b9.trans (aG.eC tj lf));refine⟨g,bD I 0 1,⟨om,om⟩,_,_,hB,rfl,I,(show(0:Nat)+1<=2 from by omega),rfl,fun Eh uq=> ?_⟩;have alr:Rd Eh b (g.extract 32 g.size) false:=uq.at_;have S:bJ (g.extract 32 g.size)=qW (l.drop (i+1)):=by
   rw[lK,cc (by rw[dx];omega),E,Jr (by rw[dx];omega),dd (by rw[dx];omega),u0]
  have o18:=o14.Us (bA.wrote uq I);have g18:=(uq.rest P.heap.size (fun q=>G q.symm)).trans g14;have Ut:Below w0.heap.size w0 Eh:=agM.trans (aG.eC uq hB);refine pm (aL (hg.next Ut) he ok) ?_;rintro v BN FK ⟨k,rfl,als⟩;have o27:=o18.below FK;have J:=ai g18 FK;have vQ:=kP Ut FK;refine⟨_,_,_,_,_,_,_,_,_,_,_,_,_,rfl,_,_,R.size,rfl,J,(show(0:Nat)+6<=7 from by omega),rfl,fun Im T=> ?_⟩;have U:Im.heap[P.heap.size]? =some (.cells (⟨⟨l[i].m.e,k⟩,l[i].d⟩:En).row.toArray 82 (0,0)):=T.at_;have Zo:=o5.acm o27 lf J T;have JW:Below w0.heap.size w0 Im:=vQ.trans (aG.eC T R.size);have V:=(als.base Ut.size).KB (bA.wrote T J);have alv:Rd Im b _ false:=(T.rest b G).trans (ai alr FK);have raw:=(V.raw he (by have:=ok.kind;simp only[aN];omega)).ok he.uO;have W:FQ H m ⟨⟨l[i].m.e,k⟩,l[i].d⟩:=se.lu D.symm rfl rfl;refine⟨fun q=>absurd rfl q,fun _=>⟨_,_,_,_,_,_,_,_,_,_,_,_,bD U 0 6,pm (ks (hg.next JW) Zo.s.sl UJ om raw.2 W.fit) ?_⟩⟩;rintro v YK X rfl;have zf:=kP JW X;have Y:=ai U X;refine⟨_,_,rfl,fun q=>absurd rfl q,fun _=>⟨_,bD Y 6 1,fun w43 Z=> ?_⟩⟩;have QA:=extAll Z;have HO:=kE zf Z;have YM:=(Zo.below X).below QA;have RJ:(Of m).size=32:=by
   rw[Kp D];exact DU fk (hs.take i)
  refine pm (kt fk YM.s.sl UJ om om om) ?_;rintro v w46 TY rfl;have Kg:=kP HO TY;have o46:=YM.below TY;have g46:=ai (ai Y QA) TY;have agP:=((V.below X).below QA).below TY;have L:=ai (ai (ai alv X) QA) TY;refine⟨_,rfl,fun q=>absurd W.tJ q,fun _=>⟨_,_,_,_,_,_,_,_,_,_,_,_,_,bD g46 0 7 rfl,?_⟩⟩;have lz:((st (qW l)).size:Int) - ((g.extract 32 g.size).size:Int)=((qW (l.take (i+1))).length:Int):=by
   have h1:(st (qW l)).size=(qW l).length:=by rw[<-dx,oQ]
   have h2:(g.extract 32 g.size).size=(qW (l.drop (i+1))).length:=by rw[<-dx,S]
   have h3:(qW l).length=(qW (l.take (i+1))).length+(qW (l.drop (i+1))).length:=by
    rw[<-dp,<-yg,iv]
   omega
  have hle:(qW (l.take (i+1))).length<=(qW l).length:=by
   have h3:(qW l).length=(qW (l.take (i+1))).length+(qW (l.drop (i+1))).length:=by
    rw[<-dp,<-yg,iv]
   omega
  have fin:∀(w1 h:World)(A2:Option Addr)(c2:Nat),Below w0.heap.size w0 w1->pY w1 w0.heap.size A' i c' m->nC w1 w0.heap.size k l[i].m.e->Rd w1 b (g.extract 32 g.size) false->ay h w0.heap.size 82 A2 (i+1) c2 7 (m.map En.row++[(⟨⟨l[i].m.e,k⟩,l[i].d⟩:En).row])->w1.grownBy h (Value.ownBlock (.slice A' i c'))->Below w0.heap.size w1 h->
    F.ck.L4 (st (qW l)) A2 (i+1) c2 (((st (qW l)).size:Int) - ((g.extract 32 g.size).size:Int)) ⟨b,0,none⟩ w0.heap.size h (acn l w0.heap.size)/\Rd h b (g.extract 32 g.size) false:=by
   intro w1 h A2 c2 dn o1 ev1 r1 M g2 N;have s2:=bA.grown o1.s g2;have r2:Rd h b (g.extract 32 g.size) false:=s2 _ _ _ _ dc r1;refine⟨?_,r2⟩;rw[lz];refine ih (i+1) h A2 c2 (m++[⟨⟨l[i].m.e,k⟩,l[i].d⟩]) _ om om (dn.trans N) (o1.snoc (x:=⟨⟨l[i].m.e,k⟩,l[i].d⟩) ev1 M g2) ?_ r2 S;show List.map _ (m++[_])=List.map _ _;rw[eh,hP bK,eh];exact ca (· ++[(l[i].m.e,l[i].d)]) D
  have lA:aN .i64 (((st (qW l)).size:Int) - ((g.extract 32 g.size).size:Int)):=by
   rw[lz];simp only[aN];omega
  refine⟨fun w54 x54=> ?_,fun w66 x66=> ?_⟩
  ·have O:=extAll x54;have Wi:=kE Kg x54;refine aW Ed [(⟨⟨l[i].m.e,k⟩,l[i].d⟩:En).val] (by simp[Value.cells]) sm Wi.size fun A55 c55 UP o57 Ui=> ?_
   have Uq:=kP Wi Ui;have Q:=(o46.below O).below Ui;have ee:=(agP.below O).below Ui;have rr:=ai (ai L O) Ui;have ap:=fun {K:Option Addr->Nat->Nat->World->Prop} (hK:∀A2 c2 h,ay h w0.heap.size 82 A2 (i+1) c2 7 (m.map En.row++[(⟨⟨l[i].m.e,k⟩,l[i].d⟩:En).row])->UP.grownBy h (Value.ownBlock (.slice A' i c'))->Below w0.heap.size UP h->K A2 (i+1) c2 h)=>
    vt (ty:=28) (tys:=[]) Ed lf Q.s o57.sl (show([(⟨⟨l[i].m.e,k⟩,l[i].d⟩:En).val.cells.toList]:List (List Value)).length=1 from rfl) (fun r o=>by rw[eb.1 o];rfl) (fun r o=>by rw[eb.1 o];exact zj ⟨⟨l[i].m.e,k⟩,l[i].d⟩) (fun e=>o57.th e) Uq.size om sm (K:=K) hK
   refine⟨ap fun A2 c2 h M g2 N=> ?_,_,bD rr 0 1,lA,ap fun A2 c2 h M g2 N=> ?_⟩
   ·obtain⟨f1,f2⟩:=fin UP h A2 c2 Uq Q ee rr M g2 N;exact⟨_,bD f2 0 1,lA,f1⟩
   ·exact(fin UP h A2 c2 Uq Q ee rr M g2 N).1
  ·have C:=extAll x66;have Qk:=kE Kg x66;have Q:=o46.below C;refine⟨_,bD (ai L C) 0 1,lA,?_⟩;refine ix Ed lf Q.s (x:=(⟨⟨l[i].m.e,k⟩,l[i].d⟩:En).val) rfl (zj ⟨⟨l[i].m.e,k⟩,l[i].d⟩) Qk.size om sm fun A2 c2 h M g2 N=> ?_
   exact(fin w66 h A2 c2 Qk Q (agP.below C) (ai L C) M g2 N).1
theorem ck(fk:fj H)(hg:bj w)(hs:fZ H l)(hl:l.length<=1000):Pure Tryz.prog 9 #[.string (st (qW l))] w (acn l w.heap.size):=by
 refine F.ck.vc fun w1 x1 b hb h1=> ?_
 exact Nn fk hg hs hl hb l.length 0 w1 none 0 [] (st (qW l)) rfl om (k0 x1) ⟨ay.nil,nofun⟩ rfl h1 rfl
end

section
variable {w0 W:World} {A4 A5 tr:Option Addr} {n4 c4 n5 c5 n zq i:Nat} {lX:List Cw} {pJ zs:List Em} {z:Em} {y:Cw} {R:Value->World->Prop}
theorem agQ{C:Int}{O P:Nat}(st:pW W w0.heap.size A4 n4 c4 lX)(ev:iT W w0.heap.size A5 n5 c5 pJ)(Q:iT W w0.heap.size tr n zq zs)(sep:HV A5 tr)(hw:Below w0.heap.size w0 W)(hi:i<1000)(D:n5<=50)(E:n4<=50)(hz:z∈zs)
  (he:W.heap[O]? =some (.cells z.row.toArray 33 (0,0))) (X:W.heap[P]? =some (.cells y.row.toArray 57 (0,0))) (Y:C=0->fa W w0.heap.size y.k y.xs y.x/\eA y.x)
  (e:C=0->∀W S T G U,Below w0.heap.size w0 W->pW W w0.heap.size S (n4+1) T (lX++[y])->iT W w0.heap.size G (n5+1) U (pJ++[z])->iT W w0.heap.size tr n zq zs->HV G tr->F.an.L3 S (n4+1) T G (n5+1) U tr n zq n ((i:Int)+1) w0.heap.size W R)
  (Z:C≠0->F.an.L3 A4 n4 c4 A5 n5 c5 tr n zq n ((i:Int)+1) w0.heap.size W R):
  F.an.J6 A4 n4 c4 A5 n5 c5 ⟨O,0,none⟩ ⟨P,0,none⟩ C tr n zq n i w0.heap.size W R:=by
 refine F.an.J6.step ⟨fun q=> ?_,fun q=>⟨ir,Z q⟩⟩;obtain⟨hy,ok⟩:=Y q;have e:=e q;refine⟨_,_,_,_,_,_,_,_,_,_,_,_,_,_,_,_,_,_,_,_,_,_,_,_,_,_,_,_,_,_,_,_,_,_,_,_,fy X,fun H h=> ?_,fun j l=> ?_⟩
 ·have b:=extAll h;refine aW DY [y.k.val y.x] (by simp[Value.cells]) sm lf fun A1 c1 m o a=> ?_
  have o:ay m H.heap.size 57 A1 1 c1 14 [y.row]:=o;have g:=kP (kE hw h) a;have r:=(st.below b).below a;have c:=(ev.below b).below a;have d:=(Q.below b).below a;have w:=(hy.below b).below a;have A:=ai (ai he b) a;obtain⟨t1,t2⟩:=Up (L:=fun A4 n4 c4 A5 n5 c5 W=>F.an.L3 A4 n4 c4 A5 n5 c5 tr n zq n ((i:Int)+1) w0.heap.size W R) e hi D E hz r c d sep g w ok o;exact⟨HW r w ok o g E fun A' c' w2 I J s2=>⟨_,_,_,_,_,_,_,_,_,_,_,_,fy (s2 _ _ _ _ dc A),Uo (L:=fun A4 n4 c4 A5 n5 c5 W=>F.an.L3 A4 n4 c4 A5 n5 c5 tr n zq n ((i:Int)+1) w0.heap.size W R) e hi D hz J (c.jK s2) (d.jK s2) sep (g.trans I)⟩,_,_,_,_,_,_,_,_,_,_,_,_,fy A,t1,t2⟩
 ·have b:=extAll l;have g:=kE hw l;have r:=st.below b;have c:=ev.below b;have d:=Q.below b;have w:=hy.below b;refine⟨_,_,_,_,_,_,_,_,_,_,_,_,fy (ai he b),?_,?_⟩
  ·refine aW DY [y.k.val y.x] (by simp[Value.cells]) sm lf fun A1 c1 m o a=> ?_
   have o:ay m j.heap.size 57 A1 1 c1 14 [y.row]:=o;exact Up (L:=fun A4 n4 c4 A5 n5 c5 W=>F.an.L3 A4 n4 c4 A5 n5 c5 tr n zq n ((i:Int)+1) w0.heap.size W R) e hi D E hz (r.below a) (c.below a) (d.below a) sep (kP g a) (w.below a) ok o
  ·refine aW sB [z.val] (by simp[Value.cells]) sm lf fun A2 c2 w1 K B=> ?_
   have K:ay w1 j.heap.size 33 A2 1 c2 6 [z.row]:=K;have dn:=kP g B;refine aW DY [y.k.val y.x] (by simp[Value.cells]) sm lf fun A1 c1 m o a=> ?_
   have o:ay m w1.heap.size 57 A1 1 c1 14 [y.row]:=o;have V:=kP dn a;have M:=(c.below B).below a;have N:=(d.below B).below a;exact HW ((r.below B).below a) ((w.below B).below a) ok o V E fun A' c' w2 I J s2=>Ni (L:=fun A4 n4 c4 A5 n5 c5 W=>F.an.L3 A4 n4 c4 A5 n5 c5 tr n zq n ((i:Int)+1) w0.heap.size W R) e hi D hz J (M.jK s2) (N.jK s2) sep (V.trans I) ((K.below a).bH s2 dc)
end
def KC(H:mw)(B:Nat)(v:Value)(w':World):Prop:=∃A1 n1 c1 A2 n2 c2 lX pJ,v= .tuple #[.slice A1 n1 c1,.slice A2 n2 c2]/\pW w' B A1 n1 c1 lX/\iT w' B A2 n2 c2 pJ/\kS H (lX.map Cw.x) (iR pJ)/\n2<=40
theorem EY{H:mw}{w:World}{A:Option Addr}{n c:Nat}{ys:List Em}(fk:fj H)(hg:bj w)(h:ET w A n ys):Pure Tryz.prog 6 #[.slice A n c] w (KC H w.heap.size):=by
 have hm:=h.m;have hl:=h.l;have key:∀(tr:Option Addr)(zq:Nat)(zs:List Em),zs.length=n->∀(d i:Nat)(A4:Option Addr)(n4 c4:Nat)(lX:List Cw)(A5:Option Addr)(n5 c5:Nat)(pJ:List Em)(w':World),n - i=d->i<=n->Below w.heap.size w w'->pW w' w.heap.size A4 n4 c4 lX->iT w' w.heap.size A5 n5 c5 pJ->iT w' w.heap.size tr n zq zs->HV A5 tr->kS H (lX.map Cw.x) (iR pJ)->n5<=i->
   F.an.L3 A4 n4 c4 A5 n5 c5 tr n zq n i w.heap.size w' (KC H w.heap.size):=by
  intro tr zq zs hzl d;induction d with
  |zero=>
   intro i A4 n4 c4 lX A5 n5 c5 pJ w' hd hi hw st ev zz sep ch h5;exact F.an.L3.step ⟨fun q=>by omega,fun _=>⟨_,_,_,_,_,_,lX,pJ,rfl,st,ev,ch,om⟩⟩
  |succ d ih=>
   intro i A4 n4 c4 lX A5 n5 c5 pJ w' hd hi hw st ev zz sep ch h5;have bK:i<zs.length:=om;have U:=bx bK;obtain⟨hb,a,hA,V,_⟩:=zz.s.sl.at_ (row:=Em.row) (fun _=>rfl) hzl bK;have sI:=st.s.rows;have hel:=ev.s.rows;have hch:=ch.1;rw[en,en]at hch;refine F.an.L3.step ⟨fun _=>⟨hb,a,hA,_,_,_,_,_,_,_,_,_,_,_,_,V,?_⟩,fun q=>by omega⟩;refine cK 33 Ng hw.size fun Zp h33 I l33=> ?_
   refine⟨_,_,hw.size,rfl,h33,by simp[Value.cells],rfl,fun Q BF=>⟨ir,?_⟩⟩;have he:Q.heap[w'.heap.size]? =some (.cells zs[i].row.toArray 33 (0,0)):=by
    have:=BF.at_;simpa[setCells,Value.cells]using this
   have X:Zp.heap[w'.heap.size]? =some (.cells ([.int .i64 0,.int .i64 0,.int .i64 0,.slice none 0 0,.slice none 0 0,.slice none 0 0]:List Value).toArray 33 (0,0)):=h33;have Yy:bA 33 w' Q:=(bA.low I).trans (bA.wrote BF X);have J:=st.Oj Yy;have ev8:=ev.fresh I lf X BF;have Y:=zz.fresh I lf X BF;have b38:Below w.heap.size w Q:=(kP hw I).trans (aG.eC BF hw.size);have lA:mZ Q zs[i].a zs[i].e:=((Y.ze hm).f _ U);have eok:=(zz.o _ U).1;have e4:(n4:Int) - 1=((n4 - 1:Nat):Int):=om;have uy:n4 - 1<lX.length:=om;rw[e4];obtain⟨hb4,a4,VZ,Dq,_⟩:=J.s.sl.at_ (row:=Cw.row) (fun _=>rfl) sI uy;have hym:=bx uy;have r:=st.o _ hym;have oy:=J.f _ hym;have Xf:(lX.map Cw.x)[(iR pJ).length]? =some lX[n4 - 1].x:=by
    rw[ow,en,show pJ.length=n4 - 1 by omega,af uy];rfl
   have nn:∀{W:World},Below w.heap.size w W->pW W w.heap.size A4 n4 c4 lX->iT W w.heap.size A5 n5 c5 pJ->iT W w.heap.size tr n zq zs->F.an.L3 A4 n4 c4 A5 n5 c5 tr n zq n ((i:Int)+1) w.heap.size W (KC H w.heap.size):=fun Z s1 s2 s3=>by
    rw[show(i:Int)+1=((i+1:Nat):Int) by omega];exact ih (i+1) A4 n4 c4 lX A5 n5 c5 pJ _ om om Z s1 s2 s3 sep ch om
   have nx:∀{yy:Cw},eF H lX[n4 - 1].x zs[i].e= .ok yy.x->∀W Ky Kz M4 QI,Below w.heap.size w W->pW W w.heap.size Ky (n4+1) Kz (lX++[yy])->iT W w.heap.size M4 (n5+1) QI (pJ++[zs[i]])->iT W w.heap.size tr n zq zs->HV M4 tr->F.an.L3 Ky (n4+1) Kz M4 (n5+1) QI tr n zq n ((i:Int)+1) w.heap.size W (KC H w.heap.size):=fun ha W Ky Kz M4 QI Z s1 s2 s3 alB=>by
    rw[show(i:Int)+1=((i+1:Nat):Int) by omega];refine ih (i+1) Ky (n4+1) Kz _ M4 (n5+1) QI _ W om om Z s1 s2 s3 alB ?_ om;unfold iR;rw[eh,eh];exact ch.snoc Xf ha
   -- the end of each order, once the state alC in its variable
   have fin:∀{W W':World} {pc:Nat} {C:List Value} {k:Ca} {x:Cm} {xs:List Rm} {er:Int},Below w.heap.size w W->pW W w.heap.size A4 n4 c4 lX->iT W w.heap.size A5 n5 c5 pJ->iT W w.heap.size tr n zq zs->W.heap[w'.heap.size]? =some (.cells zs[i].row.toArray 33 (0,0))->
     Q.heap.size<=pc->W.heap[pc]? =some (.cells C.toArray 57 (0,0))->aG W W' pc 57 (setCells C 0 (k.cells x))->C.length=14->pW W' w.heap.size A4 n4 c4 lX->(er=0->fa W w.heap.size k xs x/\eF H lX[n4 - 1].x zs[i].e= .ok x)->
     F.an.J6 A4 n4 c4 A5 n5 c5 ⟨w'.heap.size,0,none⟩ ⟨pc,0,none⟩ er tr n zq n i w.heap.size W' (KC H w.heap.size):=by
    intro W W' pc C k x xs er Z s1 s2 s3 hee hpc hc0 hwr alD cW hr;have sC:=bA.wrote hwr hc0;have rA:w'.heap.size<Q.heap.size:=(ax.1 he).1;have hwW:Below w.heap.size w W':=Z.trans (aG.eC hwr (by have:=hw.size;omega));have Vj:W'.heap[pc]? =some (.cells (k.cells x).toArray 57 (0,0)):=by
     have:=hwr.at_
     match C,alD with
     |[_,_,_,_,_,_,_,_,_,_,_,_,_,_],_=>exact this
    refine agQ (y:=⟨k,xs,x⟩) (z:=zs[i]) cW (s2.jK sC) (s3.jK sC) sep hwW om om om U (sC _ _ _ _ dc hee) Vj (fun q=> ?_) (fun q=>nx (hr q).2) (fun _=>nn hwW cW (s2.jK sC) (s3.jK sC));exact⟨(hr q).1.jK sC,wh r eok (hr q).2⟩
   have apply:=fun {W:World} {k:Ca} {xs:List Rm} (Z:Below w.heap.size w W) (lA:mZ W zs[i].a zs[i].e) (ho:fa W W.heap.size k xs lX[n4 - 1].x∨∃b,fa W b k xs lX[n4 - 1].x)=>qK fk (hg.next Z) ((ho.elim (fun h=>h.ze r.sr) fun⟨_,h⟩=>h.ze r.sr)) r lA
   refine⟨hb4,a4,VZ,_,_,_,_,_,_,_,_,_,_,_,_,_,_,_,_,_,_,_,_,_,_,_,_,_,_,_,_,_,_,_,_,_,_,_,_,Dq,_,_,_,_,_,_,_,_,_,_,_,_,fy he,fun w60 x60=> ?_,fun agx agW=> ?_⟩
   ·have h60:=extAll x60;have Kv:=kE b38 x60;refine pm (Ks (oy.below h60) r) ?_;rintro v w76 b76 ⟨k1,pM,rfl,o1⟩;have S:=kP Kv b76;have K:Below Q.heap.size Q w76:=kP h60 b76;have T:=J.below K;have L:=ev8.below K;have M:=Y.below K;have N:=ai he K;refine⟨_,_,_,_,_,_,_,_,_,_,_,_,_,_,_,_,_,_,_,_,_,_,_,_,_,_,_,_,_,_,_,_,_,_,_,_,rfl,?_,?_⟩
    ·refine pm (apply S (lA.ar K) (.inr ⟨_,o1⟩)) ?_;intro v w93 B j;have Ye:=kP S B;have agX:=(kP K B).size;cases ha:eF H lX[n4 - 1].x zs[i].e with
     |error er=>
      rw[ha]at j;have j:v=_:=j;subst j;refine⟨_,_,_,_,_,_,_,_,_,_,_,_,_,_,_,_,_,_,_,_,_,_,_,_,_,_,_,_,_,_,_,_,_,_,_,_,_,rfl,cK 57 HU lf fun w94 D g l94=>⟨_,_,Ye.size,rfl,D,by simp[Value.cells],rfl,fun w99 tm=> ?_⟩⟩;refine fin (xs:=[]) (kP Ye g) ((T.below B).below g) ((L.below B).below g) ((M.below B).below g) (ai (ai N B) g) agX D tm rfl ((T.below B).fresh g lf D tm) fun q=>absurd q (wP ha)
     |ok yy=>
      rw[ha]at j;obtain⟨k',Ke,rfl,BX⟩:=j;refine⟨_,_,_,_,_,_,_,_,_,_,_,_,_,_,_,_,_,_,_,_,_,_,_,_,_,_,_,_,_,_,_,_,_,_,_,_,_,rfl,cK 57 HU lf fun w94 D g l94=>⟨_,_,Ye.size,rfl,D,by simp[Value.cells],rfl,fun w99 tm=> ?_⟩⟩;refine fin (xs:=Ke) (kP Ye g) ((T.below B).below g) ((L.below B).below g) ((M.below B).below g) (ai (ai N B) g) agX D tm rfl ((T.below B).fresh g lf D tm) fun _=>⟨(BX.below g).base S.size,ha⟩
    ·refine cK 57 HU lf fun w94 D g l94=> ?_
     refine pm (apply (kP S g) ((lA.ar K).ar g) (.inr ⟨_,o1.below g⟩)) ?_;intro v Xp acs j;have Bp:=kP (kP S g) acs;have Qn:=ai D acs;have E:=kP g acs;cases ha:eF H lX[n4 - 1].x zs[i].e with
     |error er=>
      rw[ha]at j;have j:v=_:=j;subst j;refine⟨_,_,_,_,_,_,_,_,_,_,_,_,_,_,_,_,_,_,_,_,_,_,_,_,_,_,_,_,_,_,_,_,_,_,_,_,_,rfl,_,_,S.size,rfl,Qn,by simp[Value.cells],rfl,fun alG KD=> ?_⟩;refine fin (xs:=[]) Bp (T.below E) (L.below E) (M.below E) (ai N E) K.size Qn KD rfl (T.fresh E lf Qn KD) fun q=>absurd q (wP ha)
     |ok yy=>
      rw[ha]at j;obtain⟨k',Ke,rfl,BX⟩:=j;refine⟨_,_,_,_,_,_,_,_,_,_,_,_,_,_,_,_,_,_,_,_,_,_,_,_,_,_,_,_,_,_,_,_,_,_,_,_,_,rfl,_,_,S.size,rfl,Qn,by simp[Value.cells],rfl,fun alG KD=> ?_⟩;refine fin (xs:=Ke) Bp (T.below E) (L.below E) (M.below E) (ai N E) K.size Qn KD rfl (T.fresh E lf Qn KD) fun _=>⟨BX.base (kP S g).size,ha⟩
   ·have O:=extAll agW;have Kw:=kE b38 agW;refine cK 57 HU lf fun w94 D g l94=> ?_
    have alH:=kP Kw g;refine pm (Ks ((oy.below O).below g) r) ?_;rintro v agz Um ⟨k1,pM,rfl,o1⟩;have Uw:=kP alH Um;refine⟨_,_,_,_,_,_,_,_,_,_,_,_,_,_,_,_,_,_,_,_,_,_,_,_,_,_,_,_,_,_,_,_,_,_,_,_,rfl,?_⟩;refine pm (apply Uw (((lA.ar O).ar g).ar Um) (.inr ⟨_,o1⟩)) ?_;intro v asc acu j;have ZN:=kP Uw acu;have Qo:=ai (ai D Um) acu;have P:=J.below O;have ev3:=ev8.below O;have zz3:=Y.below O;have G:=kP (kP g Um) acu;cases ha:eF H lX[n4 - 1].x zs[i].e with
    |error er=>
     rw[ha]at j;have j:v=_:=j;subst j;refine⟨_,_,_,_,_,_,_,_,_,_,_,_,_,_,_,_,_,_,_,_,_,_,_,_,_,_,_,_,_,_,_,_,_,_,_,_,_,rfl,_,_,Kw.size,rfl,Qo,by simp[Value.cells],rfl,fun alI KE=> ?_⟩;refine fin (xs:=[]) ZN (P.below G) (ev3.below G) (zz3.below G) (ai (ai he O) G) O.size Qo KE rfl (P.fresh G lf Qo KE) fun q=>absurd q (wP ha)
    |ok yy=>
     rw[ha]at j;obtain⟨k',Ke,rfl,BX⟩:=j;refine⟨_,_,_,_,_,_,_,_,_,_,_,_,_,_,_,_,_,_,_,_,_,_,_,_,_,_,_,_,_,_,_,_,_,_,_,_,_,rfl,_,_,Kw.size,rfl,Qo,by simp[Value.cells],rfl,fun alI KE=> ?_⟩;refine fin (xs:=Ke) ZN (P.below G) (ev3.below G) (zz3.below G) (ai (ai he O) G) O.size Qo KE rfl (P.fresh G lf Qo KE) fun _=>⟨BX.base Uw.size,ha⟩
 refine F.an.vc (pm (DW w) ?_);rintro v xi EJ rfl;have qU:=EJ;refine⟨_,_,_,_,_,_,_,_,_,_,_,_,_,_,_,_,_,_,_,_,_,_,_,_,_,_,_,_,_,_,_,_,_,_,_,_,rfl,?_⟩;refine aW DY [Ca.zero.val Cm.zero] (by simp[Value.cells]) sm qU.size fun A17 c17 Cb o17 DH=> ?_
 have pC:=kP qU DH;refine aW sB [] sm sm pC.size fun A20 c20 uA o20 KW=> ?_
 have kA:=kP pC KW;refine pm (DT (h.ar kA)) ?_;rintro v Wg KR ⟨A23,c23,zs,rfl,ez,ee⟩;have sX:=kP kA KR;refine⟨_,_,_,rfl,?_⟩;have agY:ay uA Cb.heap.size 33 A20 0 c20 6 []:=o20;have sep:HV A20 A23:=fun a b ha hb q=>by
  have h1:=(agY.uN a ha).2;have h2:=(ez.s.uN b hb).1;omega
 refine key A23 c23 zs ez.s.rows n 0 A17 1 c17 [⟨Ca.zero,[],Cm.zero⟩] A20 0 c20 [] Wg rfl om sX ⟨?_,?_,?_⟩ ⟨(agY.below KR).base pC.size,nofun,nofun⟩ ⟨ez.s.base kA.size,fun y hy=>(ez.f y hy).base kA.size,ez.o⟩ sep ⟨rfl,rfl,nofun⟩ om
 ·exact((show ay Cb xi.heap.size 57 A17 1 c17 14 [Ca.zero.cells Cm.zero]from o17).below KW).below KR|>.base qU.size
 ·intro y hy;rw[eb.1 hy];exact fa.zero _ _
 ·intro y hy;rw[eb.1 hy];exact eA.zero

section
variable {w0:World} {A3 A27:Option Addr} {n3 c3 n27 c27:Nat} {lX:List Cw} {pJ:List Em} {H:mw}
theorem acv(fk:fj H){w1:World}(hg:bj w1)(h01:w0.heap.size<=w1.heap.size)(st:pW w1 w0.heap.size A3 n3 c3 lX)(ev:iT w1 w0.heap.size A27 n27 c27 pJ)(ch:kS H (lX.map Cw.x) (iR pJ))(hn:n27<=40):
  ∀(d i:Nat)(w:World)(A:Option Addr)(c:Nat)(m:List En),n27 - i=d->i<=n27->Below w1.heap.size w1 w->pY w w1.heap.size A i c m->fZ H m->m.map (fun x=>x.m.e)=(iR pJ).take i->
   F.aZ.L8 A3 n3 c3 A i c A27 n27 c27 n27 i w0.heap.size w fun v _=>v= .bool true:=by
 have sI:=st.s.rows;have h:=ev.s.rows;have n:(iR pJ).length=n27:=by rw[iR,en];exact h
 have G:=ch.1;rw[en,n]at G;intro d;induction d with
 |zero=>
  intro i w A c m hd hi hw ho hs hm;have:i=n27:=om;subst this;rw[cc om]at hm;have UJ:m.length=i:=ho.s.rows;have I:=hg.next hw;refine F.aZ.L8.step ⟨fun q=>by omega,fun _=>pm (cM fk I (ho.ze hs om) hs) ?_⟩;rintro v Fu J rfl;have vM:=kP hw J;refine⟨_,_,rfl,pm (ck fk (hg.next vM) hs om) ?_⟩;rintro v Im U3 ⟨A28,c28,m2,rfl,Zo,D⟩;have uM:=kP vM U3;have E:fZ H m2:=hs.lu D.symm;have lA:=Zo.ze E om;refine⟨_,_,_,_,rfl,pm (du lA fun x hx=>by
   obtain⟨j,hj,rfl⟩:=BA.1 hx;exact(E j hj).fit.uO) ?_⟩
  rintro v Zp K ⟨A31,c31,zs,rfl,oz,ez⟩;have PX:=kP uM K;have L:iR zs=iR pJ:=by
   rw[ez,<-hm];have:=ca (List.map Prod.fst) D;simp only[lu,List.map_map]at this;exact this
  obtain⟨x,hx,hf⟩:=ch.fold;rw[n,ow]at hx;refine⟨_,_,_,rfl,pm (Aw fk (hg.next PX) (oz.ze om)) ?_⟩;rw[L,hf];rintro v w51 M ⟨kf,xsf,rfl,of,okf⟩;have N:=kP PX M;refine⟨_,_,_,_,_,_,_,_,_,_,_,_,_,_,_,_,_,_,_,_,_,_,_,_,_,_,_,_,_,_,_,_,_,_,_,_,_,_,rfl,fun w52 O=> ?_⟩;have r:=extAll O;have Ul:=kP N r;have hj:i<lX.length:=om;refine⟨fun _=>⟨fun _=>⟨fun _=>⟨fun _=> ?_,fun q=>absurd rfl q⟩,fun q=>absurd rfl q⟩,fun q=>absurd ?_ q⟩,fun q=>absurd rfl q⟩
  ·refine⟨ir,?_⟩;rw[show(n3:Int) - 1=((i:Nat):Int) by omega];obtain⟨P,a0,Q,R,_⟩:=(((st.below Ul)).s.sl).at_ (row:=Cw.row) (fun _=>rfl) sI hj;refine⟨P,a0,Q,_,_,_,_,_,_,_,_,_,_,_,_,_,_,_,_,_,_,_,_,_,_,_,_,_,_,_,_,_,_,_,_,_,_,_,_,R,fun S T=> ?_⟩;have YT:=extAll T;have XT:=kP Ul YT;have z:lX[i].x=x:=by
    rw[af hj]at hx;exact Hc hx
   have b:=st.o _ (bx hj);have ox:=(st.f _ (bx hj)).below XT;rw[z]at b ox;have U:=(of.below r).below YT;have key:Pure Tryz.prog 12 #[kf.val x,lX[i].k.val lX[i].x] S fun v _=>v= .bool true:=by
    rw[z];exact Ku (U.ze b.sr) (ox.ze b.sr) b
   refine pm key ?_;rintro v w71 _ rfl;exact⟨_,rfl,rfl⟩
  ·rw[<-dx,oQ]
 |succ d ih=>
  intro i w A c m hd hi hw ho hs hm;have bK:i<pJ.length:=om;obtain⟨P,a,hA,hc,_⟩:=((ev.below hw).s.sl).at_ (row:=Em.row) (fun _=>rfl) h bK;refine F.aZ.L8.step ⟨fun _=>⟨P,a,hA,_,_,_,_,_,_,_,_,_,_,_,_,hc,fun Eh V=> ?_⟩,fun q=>by omega⟩;have Ej:=extAll V;have B:=kP hw Ej;have W:=ho.below Ej;have qQ:=bx bK;have X:=ev.o _ qQ;have raw:=((ev.below B).f _ qQ).raw X.1 X.2;have C:i<(iR pJ).length:=om;have g:(iR pJ)[i]=pJ[i].e:=UI _;have ft:HT m pJ[i].e:=by
   have:=ch.fit (l:=m) C (by rw[g];exact X.1) hm;rwa [g]at this
  refine pm (dt fk (hg.next B) (W.ze hs om) hs raw ft om) ?_;rintro v uA Jw ⟨Y,Z,m2,rfl,UZ,D⟩;have kA:=kP B Jw;have Ie:lu (m++[⟨pJ[i],xz H m pJ[i].e⟩])=lu m2:=by
   rw[D];show List.map _ (m++[_])=_;rw[eh];rfl
  have E:fZ H m2:=(hs.snoc (x:=⟨pJ[i],xz H m pJ[i].e⟩) ⟨ft,rfl⟩).lu Ie;refine⟨_,_,_,_,rfl,fun q=>absurd rfl q,fun _=>⟨ir,?_⟩⟩;rw[show(i:Int)+1=((i+1:Nat):Int) by omega];refine ih (i+1) uA Y Z m2 om om kA ⟨UZ.s.base B.size,fun y hy=>(UZ.f y hy).base B.size⟩ E ?_;have h1:=ca (List.map Prod.fst) Ie;simp only[lu,eh,List.map_map]at h1;rw[hP C,<-hm,g];exact h1.symm
end
theorem Ee{w:World}{A:Option Addr}{n c:Nat}{ys:List Em}(hg:bj w)(h:Bx w A n ys):Pure Tryz.prog 3 #[.slice A n c] w fun v _=>v= .bool true:=by
 refine F.aZ.vc (pm (Kx hg) ?_);rintro v j b rfl;refine⟨_,rfl,fun q=>(by cases q),fun _=>pm (XF (h.ar b)) ?_⟩;rintro v k e rfl;have a:=kP b e;refine⟨_,rfl,fun _=>rfl,fun hf=> ?_⟩;have es:=(h.ar a).uO (by simpa using hf);refine pm (EY MT (hg.next a) es) ?_;rintro v g i ⟨A1,n1,c1,A2,n2,c2,lX,pJ,rfl,st,ev,ch,hn⟩;have d:=kP a i;refine⟨_,_,_,_,_,_,rfl,?_⟩;exact acv (w0:=w) MT (hg.next d) d.size ⟨st.s.base a.size,fun y hy=>(st.f y hy).base a.size,st.o⟩ ⟨ev.s.base a.size,fun y hy=>(ev.f y hy).base a.size,ev.o⟩ ch hn n2 0 g none 0 [] rfl om (Below.refl _ _) ⟨ay.nil,nofun⟩ fZ.nil rfl
set_option maxRecDepth 100000
open Go Go.RowKit Go.Proofs Go.Proofs.YtmdphpnaipbfjaaGreatDoor.Vc Go.ChangeShapes Go.WideShapes Go.Deep

theorem own:ownKnob Tryz.prog.godebug=none:=kF
theorem laidOut:laidOutB Tryz.prog=true:=kF

section
variable {H:Type} {enc:TypeId×Value->H} {P:Program}

theorem xA(hl:laidOutB P=true){W f:World}(hb:Below W.heap.size W f):∀{ts:List TypeId} {vs:List Value} {g:List (DataW H)} {ps:List MemPlace},
  (∀t∈ts,P.readableRec t=true/\t<P.types.size)->DataW.TrodAll enc P W 0 (fun _=>true) true ts vs g ps->(∀x∈ps,x.block<W.heap.size)->DataW.TrodAll enc P f 0 (fun b=>decide (b<W.heap.size)) true ts vs g ps
 |[],_,_,_,_,h,_=>by
  obtain⟨rfl,rfl,rfl⟩:=trodAll_nil h;exact trodAll_mk0
 |t::ts,_,_,_,e,h,c=>by
  obtain⟨v,i,d,j,a,b,rfl,rfl,rfl,h1,k⟩:=trodAll_cons h;exact trodAll_cons_mk (Below.trod hl (e t sm).1 (e t sm).2 h1 hb (fun x hx=>c x (by simp[hx])))
   (xA hl hb (fun u hu=>e u (by simp[hu])) k (fun x hx=>c x (by simp[hx])))

theorem Ux{f:Func}{a:FuncId}{s:ChangeSpec}{W:World}{args:Array Value}{d gs:List (DataW H)}{before:List MemPlace}(hl:laidOutB P=true)(g:DataW.Whole enc P f.params.toList s.vars false W args.toList d gs before)
  (k:s.vars=[]) {tb:TypeId} (n:f.resultTypes= #[tb]) (i:P.underlying tb=some .bool) (j:∀t∈f.params.toList,P.readableRec t=true/\t<P.types.size)
  (hs:s.fn H (d++gs)={results:=[.lit (.bool true)],args:=d}) (key:Pure P a args W fun y _=>y= .bool true):
  Calls P a args W fun e l=>∃v,e= .returned v/\s.post enc P f false true false false W args v l:=by
 refine Calls.mono key fun e l ⟨v,he,hb,hy⟩=>⟨v,he,?_⟩
 subst hy;have b:=g.lt;have c:=g;obtain⟨p,q,o,m,rfl,_,_⟩:=g;rw[k]at m;obtain⟨rfl,rfl⟩:=trodVars_none m;simp only[vB]at b c;refine⟨d,_,_,[],p,[],c,?_,?_,?_,hb.frame _,fun h=>by cases h⟩
 ·rw[hs,n];exact trodAll_cons_mk (shut_bool i _) trodAll_mk0
 ·rw[hs];exact xA hl hb j o b
 ·rw[hs,k];rfl

end

theorem Ic{w:World}{a:Addr}{sz:Nat}(lz:0<sz){rows:List (List Value)}(hl:∀r∈rows,r.length=sz)(h:∀i,(hi:i<rows.length)->∀j,(hj:j<rows[i].length)->w.cell? (a.add (i*sz+j))=some (rows[i][j])):bW w (some a) sz rows:=by
 by_cases d:rows=[]
 ·exact .inl d
 right
 have hp:0<rows.length:=zk.2 d;have g:rows[0].length=sz:=hl _ (bx _);have c0:=h 0 hp 0 om;have e:a.spot=none:=by simpa[Addr.add]using World.cell?_spot c0
 obtain⟨b,off,spot⟩:=a;simp only at e;subst e;have f:∀k,(⟨b,off,none⟩:Addr).add k=⟨b,off+k,none⟩:=fun k=>ct b off k
 rw[f]at c0;cases c:w.heap[b]? with
 |none=>simp[World.cell?,c]at c0
 |some o=>
  cases o with
  |cells cs ty fr=>
   refine⟨b,off,cs,ty,fr,rfl,c,fun i hi j hj=>⟨hl _ (bx _),?_⟩⟩;have:=h i hi j hj;rw[f]at this;simpa[World.cell?,c,ME]using this
  |_=>simp[World.cell?,c]at c0

theorem agZ:Tryz.prog.underlying 75=some .string:=kF
theorem ag0:Tryz.prog.underlying 3=some (.int .i64):=kF
theorem ag1:Tryz.prog.underlying 9=some .string:=kF

open Go Go.RowKit Go.Proofs

abbrev Uy:=Rows.computerRecordedRow.laid
open Go Go.RowKit Go.Proofs Go.Proofs.YtmdphpnaipbfjaaGreatDoor.Vc Go.ChangeShapes Go.WideShapes Go.Deep Go.ChangeAt

noncomputable def qc(os:Os):World:=
 let N:=(World.settled Tryz.prog os).heap.size
 let w0:=World.holding Tryz.prog os ⟨#[.cells #[.string ⟨#[118,97,108,117,101,32,111,117,116,32,111,102,32,114,97,110,103,101]⟩] 409,.cells #[.string ⟨#[105,110,118,97,108,105,100,32,115,121,110,116,97,120]⟩] 409],#[],[]⟩
 let put (h:Array Obj) (g:Nat) (cs:Array Value):Array Obj:=h.modify g fun
  | .cells _ t frozen=> .cells cs t frozen
  |o=>o
 let a:=put (put w0.heap 5 #[.iface 407 (.pointer (some ⟨N,0,none⟩))]) 4 #[.iface 407 (.pointer (some ⟨N+1,0,none⟩))]
 let h1:=put a 2 #[.int .u8 0,.int .u8 1,.int .u8 28,.int .u8 2,.int .u8 29,.int .u8 14,.int .u8 24,.int .u8 3,.int .u8 30,.int .u8 22,.int .u8 20,.int .u8 15,.int .u8 25,.int .u8 17,.int .u8 4,.int .u8 8,.int .u8 31,.int .u8 27,.int .u8 13,.int .u8 23,.int .u8 21,.int .u8 19,.int .u8 16,.int .u8 7,.int .u8 26,.int .u8 12,.int .u8 18,.int .u8 6,.int .u8 11,.int .u8 5,.int .u8 10,.int .u8 9]
 let b:=put h1 3 #[.int .u8 0,.int .u8 1,.int .u8 56,.int .u8 2,.int .u8 57,.int .u8 49,.int .u8 28,.int .u8 3,.int .u8 61,.int .u8 58,.int .u8 42,.int .u8 50,.int .u8 38,.int .u8 29,.int .u8 17,.int .u8 4,.int .u8 62,.int .u8 47,.int .u8 59,.int .u8 36,.int .u8 45,.int .u8 43,.int .u8 51,.int .u8 22,.int .u8 53,.int .u8 39,.int .u8 33,.int .u8 30,.int .u8 24,.int .u8 18,.int .u8 12,.int .u8 5,.int .u8 63,.int .u8 55,.int .u8 48,.int .u8 27,.int .u8 60,.int .u8 41,.int .u8 37,.int .u8 16,.int .u8 46,.int .u8 35,.int .u8 44,.int .u8 21,.int .u8 52,.int .u8 32,.int .u8 23,.int .u8 11,.int .u8 54,.int .u8 26,.int .u8 40,.int .u8 15,.int .u8 34,.int .u8 20,.int .u8 31,.int .u8 10,.int .u8 25,.int .u8 14,.int .u8 19,.int .u8 9,.int .u8 13,.int .u8 8,.int .u8 7,.int .u8 6]
 let c:=put b 0 (Lib.pow10Tab.map fun z=>Value.int .u64 z).toArray
 {w0 with heap:=c}

noncomputable abbrev N0:Nat:=(World.settled Tryz.prog default).heap.size
theorem Uz(os:Os)(args:Array Value):laidMet Tryz.prog Uy ((qc os).forCall (fun _ _=>0) ⟨#[],args,[]⟩).memory:=
 (LaidIn.of_run (l:=Uy) [2,3,0,5,4,N0,N0+1] 8 kF kF kF kF).met

theorem No(os:Os)(args:Array Value):((qc os).forCall (fun _ _=>0) ⟨#[],args,[]⟩).variablesRefB Tryz.prog=true:=kF
theorem Np (os : Os) (args : Array Value) : (((qc os).forCall (fun _ _ => 0) ⟨#[], args, []⟩).heap.toList.drop Tryz.prog.globals.size).take ((begin Tryz.prog (fun _ _ => 0) default).world.heap.size - Tryz.prog.globals.size) =
      (begin Tryz.prog (fun _ _ => 0) default).world.heap.toList.drop Tryz.prog.globals.size := kF

theorem Yf {W : World} (a : laidMet Tryz.prog Uy W) (b : W.ShapedOpen Tryz.prog) : bj W :=
  ⟨Lib.tabIs_of_head (zs := Lib.pow10Tab) (g := 0) (t := 305) (e := 177) (n := 20) Ny kF kF kF kF kF a.tail.tail,
   cell_of_shapedOpen_int (g := 1) (t := 3) (zero := #[.int .i64 0]) b (fs kF) kF rfl kF kF kF⟩

theorem ag2{a b:Bool}(h:a=true)(k:b=true):(a&&b)=true:=by rw[h,k];rfl
theorem Qp:laidOutB Tryz.pinned.checked.prog=true:=kF
theorem Qq:mapsRowed Tryz.pinned.checked.prog=true:=kF

instance:Inhabited Pa:=⟨⟨0,0,0,⟨#[]⟩,⟨#[]⟩,⟨#[]⟩,⟨#[]⟩⟩⟩
instance:Inhabited Ho:=⟨⟨0,⟨#[]⟩,⟨#[]⟩,⟨#[]⟩,⟨#[]⟩,⟨#[]⟩,⟨#[]⟩⟩⟩
instance:Inhabited Sw:=⟨⟨0,0,0⟩⟩

section
variable {H:Type} {enc:TypeId×Value->H} {w:World} {base b0:Nat} {spare:Nat->Bool} {held:Bool}
theorem yi{α:Type}[Inhabited α]{row:α->List Value}{P:α->Prop}{sz:Nat}(lz:0<sz)(q:∀x,(row x).length=sz){t e:TypeId}(s:Tryz.prog.underlying t=some (.slice e))(hC:Tryz.prog.cellsOf e=sz)
  (hx:∀(n:Nat)(cs:List Value)(y:DataW H×List MemPlace),DataW.trod enc Tryz.prog w base spare held n e cs=some y->∃x:α,cs=row x/\P x)
  {v:Value} {fuel:Nat} {y:DataW H×List MemPlace} (h:DataW.trod enc Tryz.prog w base spare held fuel t [v]=some y):
  ∃(A:Option Addr)(n c:Nat)(l:List α),v= .slice A n c/\bW w A sz (l.map row)/\l.length=n/\n<9223372036854775808/\(A=none->c=0)/\n<=c/\∀x∈l,P x:=by
 rcases open_slice s h with⟨d,_⟩|⟨a,len,cap,m,n,D,I,d,hb,hl,hm,f,_,hi⟩
 ·cases d;exact⟨none,0,0,[],rfl,.inl rfl,rfl,om,fun _=>rfl,ga _,sm⟩
 ·cases d;rw[hC]at hi;obtain⟨g,hg⟩:=choose_lt (α:=α) (n:=len) (p:=fun i x=>P x/\∀j,(hj:j<(row x).length)->w.cell? (a.add (i*sz+j))=some ((row x)[j])) fun i u=>by
   have z:i<m:=by
    rw[f];split<;>omega
   obtain⟨J,B,o⟩:=hi i z;obtain⟨_,K,C⟩:=World.cells?_some B;obtain⟨x,rfl,E⟩:=hx _ _ _ o;refine⟨x,E,fun j hj=> ?_⟩;rw[<-Go.Deep.add_add,C j (by rw[q]at hj;omega),af hj]
  refine⟨some a,len,cap,(List.range len).map g,rfl,Ic lz (fun r F=> ?_) (fun i b j hj=> ?_),sm,by unfold maxLen at hm;omega,fun k=>(by cases k),hl,fun x G=> ?_⟩
  ·obtain⟨x,_,rfl⟩:=iu.1 F;exact q x
  ·simp at b;simp only[UI,List.getElem_range]at hj⊢;exact(hg i b).2 j hj
  ·obtain⟨i,b,rfl⟩:=iu.1 G;exact(hg i (JK.1 b)).1
theorem FT{α:Type}[Inhabited α]{row:α->List Value}{sz:Nat}(lz:0<sz)(a:∀x,(row x).length=sz){t e:TypeId}(b:Tryz.prog.underlying t=some (.slice e))(hC:Tryz.prog.cellsOf e=sz)
  (hx:∀(n:Nat)(cs:List Value)(y:DataW H×List MemPlace),DataW.trod enc Tryz.prog w base spare held n e cs=some y->∃x:α,cs=row x)
  {v:Value} {fuel:Nat} {y:DataW H×List MemPlace} (h:DataW.trod enc Tryz.prog w base spare held fuel t [v]=some y):
  ∃(A:Option Addr)(n c:Nat)(l:List α),v= .slice A n c/\bW w A sz (l.map row)/\l.length=n/\n<9223372036854775808/\(A=none->c=0):=by
 obtain⟨A,n,c,l,h1,d,f,g,i,_⟩:=yi (P:=fun _=>True) lz a b hC (fun n cs y h=>by obtain⟨x,e⟩:=hx n cs y h;exact⟨x,e,trivial⟩) h;exact⟨A,n,c,l,h1,d,f,g,i⟩

theorem Ol:Tryz.prog.cellsOf 3=1:=kF
theorem ag3:Tryz.prog.cellsOf 9=1:=kF
theorem ag4:Tryz.prog.cellsOf 75=1:=kF
theorem acw{n:Nat}{cs:List Value}{y:DataW H×List MemPlace}(h:DataW.trod enc Tryz.prog w base spare held n 75 cs=some y):∃x,cs=[.string x]:=by
 obtain⟨z,hz,_⟩:=DataW.trod_string agZ h;exact⟨z,hz⟩
theorem acx{n:Nat}{cs:List Value}{y:DataW H×List MemPlace}(h:DataW.trod enc Tryz.prog w base spare held n 9 cs=some y):∃x,cs=[.string x]:=by
 obtain⟨z,hz,_⟩:=DataW.trod_string ag1 h;exact⟨z,hz⟩
theorem UA{t e:TypeId}(a:Tryz.prog.underlying t=some (.slice e)){r:Reach}{v:Value}{d:DataW H}{p:List MemPlace}(b:Value.okWide Tryz.prog w r b0 t v)(h:DataW.Trod enc Tryz.prog w base spare held t v d p):∃fuel,DataW.trod enc Tryz.prog w base spare held fuel t [v]=some (d,p):=by
 obtain⟨a0,len,cap,rfl⟩:=okWide_slice a b;obtain⟨fuel,hf⟩:=h;exact⟨fuel,by simpa[Value.cells]using hf⟩
end

instance:Inhabited Em:=⟨⟨⟨0,0,0,[],[],[]⟩,⟨.nil,.nil,.nil⟩⟩⟩
section
variable {H:Type} {enc:TypeId×Value->H} {w:World} {base b0:Nat} {spare:Nat->Bool} {held:Bool}
theorem acy:Tryz.prog.cellsOf 29=1:=kF
theorem ag5:Tryz.prog.cellsOf 30=1:=kF
theorem acz:Tryz.prog.cellsOf 31=1:=kF
theorem ZQ:Tryz.prog.cellsOf 33=6:=kF
theorem Ce(n:Nat)(cs:List Value)(y:DataW H×List MemPlace)(h:DataW.trod enc Tryz.prog w base spare held n 3 cs=some y):∃x:Int,cs=fO x/\aN .i64 x:=by
 obtain⟨z,hz,_,hw⟩:=DataW.trod_int ag0 h;refine⟨z,hz,?_⟩;simp only[Lit.wf,de,kl]at hw;simp only[aN];exact hw
theorem UB(n:Nat)(cs:List Value)(y:DataW H×List MemPlace)(h:DataW.trod enc Tryz.prog w base spare held n 33 cs=some y):∃x:Em,cs=x.row/\tn w x:=by
 obtain⟨ys,m,_,rfl,hl,hlen,hf⟩:=DataW.trod_struct Tryz.underlying33 h;rw[ZQ]at hl
 match cs,hl with
 |[v0,v1,v2,v3,v4,v5],_=>
  match ys,hlen with
  |[a,b,c,d,e,f],_=>
   obtain⟨z0,g,_⟩:=Ce m [v0] a (by simpa[Ol]using hf 0 _ rfl);obtain⟨z1,i,_⟩:=Ce m [v1] b (by simpa[Ol]using hf 1 _ rfl);obtain⟨z2,j,i2⟩:=Ce m [v2] c (by simpa[Ol]using hf 2 _ rfl);obtain⟨A3,n3,c3,k,rfl,p1,p2,p3,l,_,o⟩:=yi (row:=fO) (P:=fun z=>aN .i64 z) dc (fun _=>rfl) Tryz.underlying29 Ol Ce (v:=v3) (fuel:=m) (y:=d) (by simpa[acy]using hf 3 _ rfl);obtain⟨A4,n4,c4,p,rfl,q1,q,r,s⟩:=FT (row:=eD) dc (fun _=>rfl) Tryz.underlying30 ag4 (fun n cs y h=>acw h) (v:=v4) (fuel:=m) (y:=e) (by simpa[ag5]using hf 4 _ rfl);obtain⟨A5,n5,c5,t,rfl,u,A,B,C⟩:=FT (row:=eD) dc (fun _=>rfl) Tryz.underlying31 ag3 (fun n cs y h=>acx h) (v:=v5) (fuel:=m) (y:=f) (by simpa[acz]using hf 5 _ rfl);cases g;cases i;cases j;exact⟨⟨⟨z0,z1,z2,k,p,t⟩,⟨⟨A3,n3,c3⟩,⟨A4,n4,c4⟩,⟨A5,n5,c5⟩⟩⟩,rfl,⟨p1,q1,u,p2,q,A,p3,r,B,l,s,C,o,i2⟩⟩
theorem KF{v:Value}{d:DataW H}{p:List MemPlace}(a:Value.okWide Tryz.prog w .any b0 22 v)(h:DataW.Trod enc Tryz.prog w base spare held 22 v d p):
  ∃(A:Option Addr)(n c:Nat)(ys:List Em),v= .slice A n c/\Bx w A n ys:=by
 obtain⟨fuel,hf⟩:=UA Tryz.underlying22 a h;obtain⟨A,n,c,l,rfl,q1,b,e,_,_,f⟩:=yi (row:=Em.row) dc (fun _=>rfl) Tryz.underlying22 ZQ UB hf;exact⟨A,n,c,l,rfl,q1,b,e,f⟩
theorem trodAll_one{t0:TypeId}{args:Array Value}{b:List (DataW H)}{ps:List MemPlace}(h:DataW.TrodAll enc Tryz.prog w base spare held [t0] args.toList b ps):
  ∃v0 d0 a,args= #[v0]/\b=[d0]/\ps=a/\DataW.Trod enc Tryz.prog w base spare held t0 v0 d0 a:=by
 obtain⟨v0,_,d0,_,a,_,c,rfl,rfl,g0,d⟩:=trodAll_cons h;obtain⟨rfl,rfl,rfl⟩:=trodAll_nil d;exact⟨v0,d0,a,by cases args;simp_all,rfl,sm,g0⟩
end
open Go

theorem Qr{P:Program}(h:P.funcs.any Func.goes=false)(f:FuncId):P.goes f=false:=by
 unfold Program.goes;rw[h,Bool.and_false,Bool.or_false,zI];intro g _ hg;cases hf:P.funcs[g]? with
 |none=>rw[hf]at hg;cases hg
 |some fn=>
  rw[hf]at hg;have hg:fn.goes=true:=hg;have:=Array.any_eq_false.1 h;obtain⟨hl,he⟩:=ax.1 hf;exact this g hl (by rw[he];exact hg)
theorem Qt{P:Program}(h:P.funcs.any Func.goes=false)(s:String):P.goesFrom s=false:=by
 unfold Program.goesFrom;cases P.funcNamed s with
 |none=>rfl
 |some f=>exact Qr h f
theorem Yg{P:Program}(h:P.funcs.any Func.goes=false){c:OpenClaim}(a:c.start= .entering):false=c.goesBy P:=by
 unfold OpenClaim.goesBy Program.goesAt;rw[Qt h,a];rfl
theorem Yh:Tryz.pinned.checked.prog.funcs.any Func.goes=false:=kF
end Go.Proofs.YtmdphpnaipbfjaaGreatDoor.B
