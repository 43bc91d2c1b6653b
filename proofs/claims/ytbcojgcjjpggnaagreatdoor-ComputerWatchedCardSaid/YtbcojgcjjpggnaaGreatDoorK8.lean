/- Part 8 of the proofs that: What is stowed keeps the problem; lamps change by samples and by seeing alone. -/
import Derived.Test.YtbcojgcjjpggnaaGreatDoorK7
import Derived.Maps.OwnSet
import Derived.Maps.Views
import Derived.Maps.Keyed
import Derived.Carry
import Derived.Test.YtbcojgcjjpggnaaGreatDoorProg
set_option linter.unusedVariables false
set_option linter.unusedSimpArgs false
namespace Go.Proofs.YtbcojgcjjpggnaaGreatDoor.B
open Go Go.RowKit Go.Proofs Go.Proofs.YtbcojgcjjpggnaaGreatDoor.Vc

structure Al where
 id:Int
 chan:Int
 prio:Int
 rC:Int
 my:Bool
 set:ByteArray
 reset:ByteArray
 text:ByteArray
structure Lp where
 we:Int
 state:Int
 since:Int
 deriving DecidableEq
structure Si where
 id:Int
 role:Int
 name:ByteArray
 key:ByteArray
structure Ap where
 cU:Int
 tick:Int
 subject:ByteArray
 code:ByteArray
 deriving DecidableEq
abbrev Al.row(x:Al):List Value:=[.int .i64 x.id,.int .i64 x.chan,.int .i64 x.prio,.int .i64 x.rC,.bool x.my,.string x.set,.string x.reset,.string x.text]
abbrev Al.val(x:Al):Value:= .agg #[.int .i64 x.id,.int .i64 x.chan,.int .i64 x.prio,.int .i64 x.rC,.bool x.my,.string x.set,.string x.reset,.string x.text]
abbrev Lp.row(x:Lp):List Value:=[.int .i64 x.we,.int .i64 x.state,.int .i64 x.since]
abbrev Lp.val(x:Lp):Value:= .agg #[.int .i64 x.we,.int .i64 x.state,.int .i64 x.since]
abbrev Si.row(x:Si):List Value:=[.int .i64 x.id,.int .i64 x.role,.string x.name,.string x.key]
abbrev Si.val(x:Si):Value:= .agg #[.int .i64 x.id,.int .i64 x.role,.string x.name,.string x.key]
abbrev Ap.row(x:Ap):List Value:=[.int .i64 x.cU,.int .i64 x.tick,.string x.subject,.string x.code]
abbrev Ap.val(x:Ap):Value:= .agg #[.int .i64 x.cU,.int .i64 x.tick,.string x.subject,.string x.code]
section
variable {w0:World} {A:Option Addr} {n c:Nat} {f:Nat} {a k:Array Value} {R:Value->World->Prop}
theorem pE{α:Type}{val:α->Value}{l:List α}(hlen:l.length=n)(hn:n<2147483648){p:α->Bool}
  (hf:∀w,Below w0.heap.size w0 w->∀x∈l,Pure Tryz.prog f (a.toList++([val x]:List Value)++k.toList).toArray w fun v _=>v= .bool (p x)) {r:Int} (j:∀w,R (.int .i64 r) w) {L:Int->World->Prop}
  (he:∀(i:Nat)(w:World),¬(i:Int)<n->R (.int .i64 (-1)) w->L i w)
  (hs:∀(i:Nat)(w:World)(hi:i<l.length),Below w0.heap.size w0 w->Pure Tryz.prog f (a.toList++([val l[i]]:List Value)++k.toList).toArray w (Rb fun b g=>Bb b (R (.int .i64 i) g) (aS .i64 ((i:Int)+1)/\L ((i:Int)+1) g))->L i w):
  ∀(d i:Nat)(w:World),n - i=d->i<=n->Below w0.heap.size w0 w->r=fD p i (l.drop i)->L i w:=by
 intro d;induction d with
 |zero=>
  intro i w o hi hw e;rw[de om]at e;subst e;exact he i w om (j w)
 |succ d ih=>
  intro i w o hi hw e;have m:i<l.length:=om;rw[dp m,fD]at e;refine hs i w m hw (pm (hf w hw l[i] (bA _)) ?_);rintro v g q rfl;refine⟨_,rfl,fun h=> ?_,fun h=>⟨ir,?_⟩⟩
  ·rw[bm h]at e;subst e;exact j g
  ·rw[aq (by simp[h])]at e;have y:=sc i;rw[y];exact ih (i+1) g om om (kP hw q) e
theorem F9{α:Type}(p:α->Bool)(l:List α):Value.bool (decide (fD p 0 l≥0))= .bool (l.any p):=by
 rw[sE]
theorem gz{t ty e sz bytes:Nat}(el:El Tryz.prog t e sz bytes){rows:List (List Value)}(h:bR w0 A sz rows)(hlen:rows.length=n)(l:∀r∈rows,r.length=sz)(h1:∀r∈rows,∀u∈r,bo u=true)(hn:n*(bytes+1)<=140737488355328)
  (g:∀A' c' w',aF w' w0.heap.size e A' n c' sz rows->R (.slice A' n c') w'):
  Br (A=none) (R (.slice none 0 0) w0) (ae P (Instr.buildSlice t 0 #[]) w0.heap.size [] w0 (Rs fun A1 n1 c1 b=>(ae P (Builtin.append_ #[t,t] ty #[(.slice A1 n1 c1),(.slice A n c)]) w0.heap.size [] b (Rs fun A4 n4 c4 m=>(R (.slice A4 n4 c4) m))))):=by
 refine⟨fun d=> ?_,fun d=> ?_⟩
 ·subst d;have:=h.rp;subst this;simp at hlen;subst hlen;exact g none 0 w0 aF.nil
 ·obtain⟨a,rfl⟩:=zY.1 d;refine bc el [] sm sm lf fun A2 c2 o ho i=> ?_
  refine uc el lf (by simpa using ho) (h.below i) hlen l h1 i.size (by simpa using hn) sm fun A' c' b j _ q=> ?_
  simp only[vu,jx,LR,rT]at j⊢;exact g A' c' b j
theorem fg{α:Type}{row:α->List Value}{l:List α}{sz:Nat}(b:∀x,(row x).length=sz)(h1:∀x,∀u∈row x,bo u=true):(∀r∈l.map row,r.length=sz)/\∀r∈l.map row,∀u∈r,bo u=true:=
 ⟨fun r h=>by obtain⟨x,_,rfl⟩:=gX.1 h;exact b x,fun r h=>by obtain⟨x,_,rfl⟩:=gX.1 h;exact h1 x⟩
end
theorem UH{w:World}{A:Option Addr}{n c:Nat}{l:List Al}(hl:bR w A 8 (l.map Al.row))(hlen:l.length=n)(hn:n<2147483648){f:Nat}{a k:Array Value}(cB:az Tryz.prog f=true){p:Al->Bool}
  (hf:∀w',Below w.heap.size w w'->∀x∈l,Pure Tryz.prog f (a.toList++([Al.val x]:List Value)++k.toList).toArray w' fun v _=>v= .bool (p x)):
  Pure Tryz.prog 219 #[.slice A n c,.func (.func f) a k] w fun v _=>v= .int .i64 (fD p 0 l):=
 F.aQ.vc (pE (val:=Al.val) hlen hn hf (R:=fun v _=>v= .int .i64 (fD p 0 l)) (fun _=>rfl) (L:=fun i w'=>F.aQ.L2 A n c f a k n i w.heap.size w' fun v _=>v= .int .i64 (fD p 0 l))
  (fun i w' h1 d=>F.aQ.L2.step ⟨fun q=>absurd q h1,fun _=>d⟩)
  (fun i w' hi hw h=>F.aQ.L2.step ⟨fun _=>by obtain⟨hb,e,g,b,_⟩:=(hl.av hw lf).at_ (fun _=>rfl) hlen hi;exact⟨hb,e,g,_,_,_,_,_,_,_,_,b,cB,h⟩,fun q=>by omega⟩)
  n 0 w rfl om (Below.refl _ _) rfl)
theorem UI{w:World}{A:Option Addr}{n c:Nat}{l:List Lp}(hl:bR w A 3 (l.map Lp.row))(hlen:l.length=n)(hn:n<2147483648){f:Nat}{a k:Array Value}(cB:az Tryz.prog f=true){p:Lp->Bool}
  (hf:∀w',Below w.heap.size w w'->∀x∈l,Pure Tryz.prog f (a.toList++([Lp.val x]:List Value)++k.toList).toArray w' fun v _=>v= .bool (p x)):
  Pure Tryz.prog 135 #[.slice A n c,.func (.func f) a k] w fun v _=>v= .int .i64 (fD p 0 l):=
 F.aU.vc (pE (val:=Lp.val) hlen hn hf (R:=fun v _=>v= .int .i64 (fD p 0 l)) (fun _=>rfl) (L:=fun i w'=>F.aU.L2 A n c f a k n i w.heap.size w' fun v _=>v= .int .i64 (fD p 0 l))
  (fun i w' h1 d=>F.aU.L2.step ⟨fun q=>absurd q h1,fun _=>d⟩)
  (fun i w' hi hw h=>F.aU.L2.step ⟨fun _=>by obtain⟨hb,e,g,b,_⟩:=(hl.av hw lf).at_ (fun _=>rfl) hlen hi;exact⟨hb,e,g,_,_,_,b,cB,h⟩,fun q=>by omega⟩)
  n 0 w rfl om (Below.refl _ _) rfl)
theorem UJ{w:World}{A:Option Addr}{n c:Nat}{l:List Si}(hl:bR w A 4 (l.map Si.row))(hlen:l.length=n)(hn:n<2147483648){f:Nat}{a k:Array Value}(cB:az Tryz.prog f=true){p:Si->Bool}
  (hf:∀w',Below w.heap.size w w'->∀x∈l,Pure Tryz.prog f (a.toList++([Si.val x]:List Value)++k.toList).toArray w' fun v _=>v= .bool (p x)):
  Pure Tryz.prog 21 #[.slice A n c,.func (.func f) a k] w fun v _=>v= .int .i64 (fD p 0 l):=
 F.aI.vc (pE (val:=Si.val) hlen hn hf (R:=fun v _=>v= .int .i64 (fD p 0 l)) (fun _=>rfl) (L:=fun i w'=>F.aI.L2 A n c f a k n i w.heap.size w' fun v _=>v= .int .i64 (fD p 0 l))
  (fun i w' h1 d=>F.aI.L2.step ⟨fun q=>absurd q h1,fun _=>d⟩)
  (fun i w' hi hw h=>F.aI.L2.step ⟨fun _=>by obtain⟨hb,e,g,b,_⟩:=(hl.av hw lf).at_ (fun _=>rfl) hlen hi;exact⟨hb,e,g,_,_,_,_,b,cB,h⟩,fun q=>by omega⟩)
  n 0 w rfl om (Below.refl _ _) rfl)
theorem UK{w:World}{A:Option Addr}{n c:Nat}{l:List Ap}(hl:bR w A 4 (l.map Ap.row))(hlen:l.length=n)(hn:n<2147483648){f:Nat}{a k:Array Value}(cB:az Tryz.prog f=true){p:Ap->Bool}
  (hf:∀w',Below w.heap.size w w'->∀x∈l,Pure Tryz.prog f (a.toList++([Ap.val x]:List Value)++k.toList).toArray w' fun v _=>v= .bool (p x)):
  Pure Tryz.prog 53 #[.slice A n c,.func (.func f) a k] w fun v _=>v= .int .i64 (fD p 0 l):=
 F.aE.vc (pE (val:=Ap.val) hlen hn hf (R:=fun v _=>v= .int .i64 (fD p 0 l)) (fun _=>rfl) (L:=fun i w'=>F.aE.L2 A n c f a k n i w.heap.size w' fun v _=>v= .int .i64 (fD p 0 l))
  (fun i w' h1 d=>F.aE.L2.step ⟨fun q=>absurd q h1,fun _=>d⟩)
  (fun i w' hi hw h=>F.aE.L2.step ⟨fun _=>by obtain⟨hb,e,g,b,_⟩:=(hl.av hw lf).at_ (fun _=>rfl) hlen hi;exact⟨hb,e,g,_,_,_,_,b,cB,h⟩,fun q=>by omega⟩)
  n 0 w rfl om (Below.refl _ _) rfl)
theorem Ms{w:World}{A:Option Addr}{n c:Nat}{l:List Va}(hl:bR w A 4 (l.map Va.row))(hlen:l.length=n)(hn:n<2147483648){f:Nat}{a k:Array Value}(cB:az Tryz.prog f=true){p:Va->Bool}
  (hf:∀w',Below w.heap.size w w'->∀x∈l,Pure Tryz.prog f (a.toList++([Va.val x]:List Value)++k.toList).toArray w' fun v _=>v= .bool (p x)):
  Pure Tryz.prog 133 #[.slice A n c,.func (.func f) a k] w fun v _=>v= .int .i64 (fD p 0 l):=
 F.aP.vc (pE (val:=Va.val) hlen hn hf (R:=fun v _=>v= .int .i64 (fD p 0 l)) (fun _=>rfl) (L:=fun i w'=>F.aP.L2 A n c f a k n i w.heap.size w' fun v _=>v= .int .i64 (fD p 0 l))
  (fun i w' h1 d=>F.aP.L2.step ⟨fun q=>absurd q h1,fun _=>d⟩)
  (fun i w' hi hw h=>F.aP.L2.step ⟨fun _=>by obtain⟨hb,e,g,b,_⟩:=(hl.av hw lf).at_ (fun _=>rfl) hlen hi;exact⟨hb,e,g,_,_,_,_,b,cB,h⟩,fun q=>by omega⟩)
  n 0 w rfl om (Below.refl _ _) rfl)
theorem Cj{w:World}{A:Option Addr}{n c:Nat}{l:List Lp}(hl:bR w A 3 (l.map Lp.row))(hlen:l.length=n)(hn:n<2147483648){f:Nat}{a k:Array Value}(cB:az Tryz.prog f=true){p:Lp->Bool}
  (hf:∀w',Below w.heap.size w w'->∀x∈l,Pure Tryz.prog f (a.toList++([Lp.val x]:List Value)++k.toList).toArray w' fun v _=>v= .bool (p x)):
  Pure Tryz.prog 73 #[.slice A n c,.func (.func f) a k] w fun v _=>v= .bool (l.any p):=by
 refine F.dN.vc (pm (UI hl hlen hn cB hf) ?_);rintro v b _ rfl;exact⟨_,rfl,F9 p l⟩
theorem Ck{w:World}{A:Option Addr}{n c:Nat}{l:List Ap}(hl:bR w A 4 (l.map Ap.row))(hlen:l.length=n)(hn:n<2147483648){f:Nat}{a k:Array Value}(cB:az Tryz.prog f=true){p:Ap->Bool}
  (hf:∀w',Below w.heap.size w w'->∀x∈l,Pure Tryz.prog f (a.toList++([Ap.val x]:List Value)++k.toList).toArray w' fun v _=>v= .bool (p x)):
  Pure Tryz.prog 19 #[.slice A n c,.func (.func f) a k] w fun v _=>v= .bool (l.any p):=by
 refine F.cT.vc (pm (UK hl hlen hn cB hf) ?_);rintro v b _ rfl;exact⟨_,rfl,F9 p l⟩
theorem KQ{w:World}{A:Option Addr}{n c:Nat}{l:List Va}(hl:bR w A 4 (l.map Va.row))(hlen:l.length=n)(hn:n<2147483648){f:Nat}{a k:Array Value}(cB:az Tryz.prog f=true){p:Va->Bool}
  (hf:∀w',Below w.heap.size w w'->∀x∈l,Pure Tryz.prog f (a.toList++([Va.val x]:List Value)++k.toList).toArray w' fun v _=>v= .bool (p x)):
  Pure Tryz.prog 69 #[.slice A n c,.func (.func f) a k] w fun v _=>v= .bool (l.any p):=by
 refine F.dB.vc (pm (Ms hl hlen hn cB hf) ?_);rintro v b _ rfl;exact⟨_,rfl,F9 p l⟩
theorem KR:El Tryz.prog 44 90 8 88:=El.of kF
theorem Ga(l:List Al):(∀r∈l.map Al.row,r.length=8)/\∀r∈l.map Al.row,∀u∈r,bo u=true:=fg (fun _=>rfl) (fun x u h=>by simp only[Al.row,cy,fX,tu]at h;rcases h with rfl|rfl|rfl|rfl|rfl|rfl|rfl|rfl<;>rfl)
theorem Mt{w:World}{A:Option Addr}{n c:Nat}{l:List Al}(h:bR w A 8 (l.map Al.row))(hlen:l.length=n)(hn:n<=1000000):
  Pure Tryz.prog 31 #[.slice A n c] w fun v w'=>∃A' c',v= .slice A' n c'/\aF w' w.heap.size 90 A' n c' 8 (l.map Al.row):=
 F.eK.vc (gz (R:=fun v w'=>∃A' c',v= .slice A' n c'/\aF w' w.heap.size 90 A' n c' 8 (l.map Al.row)) KR h (by simpa using hlen) (Ga l).1 (Ga l).2 om fun A' c' w' o=>⟨A',c',rfl,o⟩)
theorem KS:El Tryz.prog 45 84 3 24:=El.of kF
theorem Gb(l:List Lp):(∀r∈l.map Lp.row,r.length=3)/\∀r∈l.map Lp.row,∀u∈r,bo u=true:=fg (fun _=>rfl) (fun x u h=>by simp only[Lp.row,cy,fX,tu]at h;rcases h with rfl|rfl|rfl<;>rfl)
theorem AE{w:World}{A:Option Addr}{n c:Nat}{l:List Lp}(h:bR w A 3 (l.map Lp.row))(hlen:l.length=n)(hn:n<=1000000):
  Pure Tryz.prog 32 #[.slice A n c] w fun v w'=>∃A' c',v= .slice A' n c'/\aF w' w.heap.size 84 A' n c' 3 (l.map Lp.row):=
 F.fb.vc (gz (R:=fun v w'=>∃A' c',v= .slice A' n c'/\aF w' w.heap.size 84 A' n c' 3 (l.map Lp.row)) KS h (by simpa using hlen) (Gb l).1 (Gb l).2 om fun A' c' w' o=>⟨A',c',rfl,o⟩)
theorem KT:El Tryz.prog 46 69 4 48:=El.of kF
theorem Gc(l:List Si):(∀r∈l.map Si.row,r.length=4)/\∀r∈l.map Si.row,∀u∈r,bo u=true:=fg (fun _=>rfl) (fun x u h=>by simp only[Si.row,cy,fX,tu]at h;rcases h with rfl|rfl|rfl|rfl<;>rfl)
theorem UL{w:World}{A:Option Addr}{n c:Nat}{l:List Si}(h:bR w A 4 (l.map Si.row))(hlen:l.length=n)(hn:n<=1000000):
  Pure Tryz.prog 130 #[.slice A n c] w fun v w'=>∃A' c',v= .slice A' n c'/\aF w' w.heap.size 69 A' n c' 4 (l.map Si.row):=
 F.eu.vc (gz (R:=fun v w'=>∃A' c',v= .slice A' n c'/\aF w' w.heap.size 69 A' n c' 4 (l.map Si.row)) KT h (by simpa using hlen) (Gc l).1 (Gc l).2 om fun A' c' w' o=>⟨A',c',rfl,o⟩)
theorem KU:El Tryz.prog 47 66 4 48:=El.of kF
theorem Gd(l:List Ap):(∀r∈l.map Ap.row,r.length=4)/\∀r∈l.map Ap.row,∀u∈r,bo u=true:=fg (fun _=>rfl) (fun x u h=>by simp only[Ap.row,cy,fX,tu]at h;rcases h with rfl|rfl|rfl|rfl<;>rfl)
theorem UM{w:World}{A:Option Addr}{n c:Nat}{l:List Ap}(h:bR w A 4 (l.map Ap.row))(hlen:l.length=n)(hn:n<=1000000):
  Pure Tryz.prog 131 #[.slice A n c] w fun v w'=>∃A' c',v= .slice A' n c'/\aF w' w.heap.size 66 A' n c' 4 (l.map Ap.row):=
 F.dG.vc (gz (R:=fun v w'=>∃A' c',v= .slice A' n c'/\aF w' w.heap.size 66 A' n c' 4 (l.map Ap.row)) KU h (by simpa using hlen) (Gd l).1 (Gd l).2 om fun A' c' w' o=>⟨A',c',rfl,o⟩)
theorem KV:El Tryz.prog 43 94 4 40:=El.of kF
theorem Ge(l:List Va):(∀r∈l.map Va.row,r.length=4)/\∀r∈l.map Va.row,∀u∈r,bo u=true:=fg (fun _=>rfl) (fun x u h=>by simp only[Va.row,cy,fX,tu]at h;rcases h with rfl|rfl|rfl|rfl<;>rfl)
theorem Mu{w:World}{A:Option Addr}{n c:Nat}{l:List Va}(h:bR w A 4 (l.map Va.row))(hlen:l.length=n)(hn:n<=1000000):
  Pure Tryz.prog 33 #[.slice A n c] w fun v w'=>∃A' c',v= .slice A' n c'/\aF w' w.heap.size 94 A' n c' 4 (l.map Va.row):=
 F.dy.vc (gz (R:=fun v w'=>∃A' c',v= .slice A' n c'/\aF w' w.heap.size 94 A' n c' 4 (l.map Va.row)) KV h (by simpa using hlen) (Ge l).1 (Ge l).2 om fun A' c' w' o=>⟨A',c',rfl,o⟩)
theorem KW:El Tryz.prog 42 141 7 104:=El.of kF
theorem Gf(l:List Ch):(∀r∈l.map Ch.row,r.length=7)/\∀r∈l.map Ch.row,∀u∈r,bo u=true:=fg (fun _=>rfl) (fun x u h=>by simp only[Ch.row,cy,fX,tu]at h;rcases h with rfl|rfl|rfl|rfl|rfl|rfl|rfl<;>rfl)
theorem UN{w:World}{A:Option Addr}{n c:Nat}{l:List Ch}(h:bR w A 7 (l.map Ch.row))(hlen:l.length=n)(hn:n<=1000000):
  Pure Tryz.prog 129 #[.slice A n c] w fun v w'=>∃A' c',v= .slice A' n c'/\aF w' w.heap.size 141 A' n c' 7 (l.map Ch.row):=
 F.dR.vc (gz (R:=fun v w'=>∃A' c',v= .slice A' n c'/\aF w' w.heap.size 141 A' n c' 7 (l.map Ch.row)) KW h (by simpa using hlen) (Gf l).1 (Gf l).2 om fun A' c' w' o=>⟨A',c',rfl,o⟩)

theorem Cn{α β:Type}{f:α->List β}{k:Nat}:∀{l:List α},(∀x∈l,(f x).length<=k)->(l.flatMap f).length<=l.length*k:=by
 intro l;induction l with
 |nil=>intro _;simp
 |cons x r ih=>
  intro h;rw[tJ,en,eR,nG,Nat.one_mul];have:=h x sm;have:=ih fun y hy=>h y (by simp[hy])
  omega
theorem eJ.len{ps:List Pa}{hs:List Ho}{l:List Sw}(h:eJ ps hs l):l.length<=36:=by
 have e:=Kx h (f:=fA ps hs l) fun _ _ _ _=>rfl
 rw[<-e];unfold oz;have h1:∀k∈List.range hs.length,((List.range ps.length).flatMap fun i=>zN (fA ps hs l) ps hs k i).length<=ps.length:=fun k _=>by
  have:=Cn (f:=fun i=>zN (fA ps hs l) ps hs k i) (k:=1) (l:=List.range ps.length) fun i _=>by
   unfold zN;split
   ·split<;>simp
   ·simp
  simpa using this
 have b:=Cn h1;rw[List.length_range]at b;have:=u0 h.c.lh h.c.lp;omega

def UO(r:Except Int (List Sw)):List Sw×Int:=match r with| .error e=>([],e)| .ok l=>(l,0)
theorem Io.get{r:Except Int (List Sw)}{B:Nat}{y:Value}{w:World}(h:Io r B y w):∃A m c,y= .tuple #[.slice A m c,.int .i64 (UO r).2]/\bR w A 3 ((UO r).1.map Sw.row)/\(UO r).1.length=m/\m<=c:=by
 cases r with
 |error e=>exact⟨none,0,0,h,.inl rfl,rfl,fs _⟩
 |ok l=>
  obtain⟨A,m,c,rfl,ho⟩:=h;exact⟨A,m,c,rfl,ho.sl,by simpa[UO]using ho.len,ho.ic⟩
section
variable {w:World} {A0 A1 A A2:Option Addr} {n0 c0 n1 c1 n c n2 c2:Nat} {ps:List Pa} {hs:List Ho} {l:List Sw} {a:List Int}
theorem Mv{t:Sw}{e:Int}(h:zO ps hs l t= .error e):e≠0:=by
 unfold zO at h;split at h
 ·cases h;decide
 ·split at h
  ·rename_i i k b g;split at h
   ·cases h;decide
   ·split at h
    ·cases h;decide
    ·obtain⟨p,d,_⟩:=gG b;rw[d]at h;simp only at h;split at h
     ·cases h;decide
     ·cases h
  ·cases h;decide
theorem Re{e:Int}(h:rz ps hs a= .error e):e≠0:=by
 unfold rz at h;split at h
 ·cases h;decide
 ·split at h
  ·cases h;decide
  ·split at h
   ·cases h;decide
   ·split at h
    ·cases h;decide
    ·cases h
end

def KX(s i:Nat):Nat:=s|||2^i
theorem Mw{s i n:Nat}(hs:s<2^n)(hi:i<n):KX s i<2^n:=Nat.or_lt_two_pow hs (Nat.pow_lt_pow_right dc hi)
inductive Rch (al:Nat->Bool) (n:Nat):Nat->Prop
 |zero:Rch al n 0
 |step {s i:Nat}:Rch al n s->i<n->s.testBit i=false->al (KX s i)=true->Rch al n (KX s i)
theorem Rch.lt{al:Nat->Bool}{n s:Nat}(h:Rch al n s):s<2^n:=by
 induction h with
 |zero=>exact Nat.two_pow_pos n
 |step _ hi _ _ ih=>exact Mw ih hi

theorem UP{α:Type}[DecidableEq α]:∀{l o:List α},l.Nodup->(∀x∈l,x∈o)->o.length<=l.length->o.Perm l:=by
 intro l;induction l with
 |nil=>
  intro o _ _ h;have:o=[]:=M7.1 (by simpa using h);subst this;exact List.Perm.refl _
 |cons a r ih=>
  intro o hn hm hl;obtain⟨h1,b⟩:=Da.1 hn;have ha:a∈o:=hm a sm;refine(List.perm_cons_erase ha).trans (List.Perm.cons a (ih b (fun x hx=> ?_) ?_))
  ·rw[List.mem_erase_of_ne (fun e=>h1 (by rw[<-e];exact hx))];exact hm x (by simp[hx])
  ·rw[List.length_erase_of_mem ha];simp at hl;omega
def Co(al:Nat->Bool):Nat->Nat->List Int->Int×Int
 |_,_,[]=>(-1,0)
 |s,k,x::r=>if al (KX s x.toNat)then Co al (KX s x.toNat) (k+1) r else((k:Int),15)
def Rf(al:Nat->Bool)(n:Nat)(o:List Int):Int×Int:=
 if ¬(o.length=n/\∀i∈List.range n,((i:Nat):Int)∈o)then(-1,10)else Co al 0 0 o
theorem KY{n:Nat}{o:List Int}(h:o.length=n/\∀i∈List.range n,((i:Nat):Int)∈o):o.Perm ((List.range n).map fun(i:Nat)=>(i:Int)):=by
 refine UP ?_ (fun x hx=> ?_) (by simp;omega)
 ·exact List.pairwise_map.2 (List.nodup_range.imp fun h=>by omega)
 ·obtain⟨i,hi,rfl⟩:=gX.1 hx;exact h.2 i hi

structure Ru where
 name:ByteArray
 kind:Int
 pF:List ByteArray
 low:ByteArray
 high:ByteArray
 a:Int
 b:Int
def eV(s:ByteArray):Bool:=decide (s.size=0)||vR s
def yJ(ps:List Pa)(hs:List Ho)(pre:List Ru)(r:Ru):Int:=
 if ¬(r.pF.all vR=true/\eV r.low=true/\eV r.high=true)then 1
 else if ¬(1<=r.name.size/\r.name.size<=64)then 4
 else if(pre.any fun x=>decide (x.name=r.name))=true then 6
 else if r.kind<1∨4<r.kind then 2
 else if r.kind=1 then
  if r.pF.length≠hs.length∨r.a≠0∨r.b≠0 then 10
  else if(r.low.size=0/\r.high.size=0)∨(r.low.size≠0/\r.high.size≠0/\qR r.high<qR r.low)then 2 else 0
 else if r.pF.length≠0∨r.low.size≠0∨r.high.size≠0 then 10
 else if r.kind=2 then(if ¬(r.a<r.b/\(1<=r.a/\r.a<=9)/\(1<=r.b/\r.b<=9))then 2 else 0)
 else if r.kind=3 then(if ¬(1<=r.a/\r.a<=9)then 2 else if vX hs r.b=none then 7 else 0)
 else if r.b≠0 then 2 else if qX ps r.a=none then 7 else 0
def Zr(ps:List Pa)(hs:List Ho):Nat->List Ru->List Ru->Int×Int
 |_,_,[]=>(-1,0)
 |i,pre,r::t=>if yJ ps hs pre r≠0 then((i:Int),yJ ps hs pre r)else Zr ps hs (i+1) (pre++[r]) t
def oE(ps:List Pa)(hs:List Ho)(rs:List Ru):Int×Int:=
 if eZ ps hs≠0 then(-1,eZ ps hs)else if 16<rs.length then(-1,8)else Zr ps hs 0 [] rs
structure Gg (ps:List Pa) (hs:List Ho) (r:Ru):Prop where
 pF:r.pF.all vR=true
 low:eV r.low=true
 high:eV r.high=true
 kind:1<=r.kind/\r.kind<=4
 sum:r.kind=1->r.pF.length=hs.length
 two:r.kind=2->r.a<r.b
 three:r.kind=3->∃k,vX hs r.b=some k
 four:r.kind=4->∃i,qX ps r.a=some i
theorem KZ{ps:List Pa}{hs:List Ho}{pre:List Ru}{r:Ru}(h:yJ ps hs pre r=0):Gg ps hs r:=by
 unfold yJ at h;split at h
 ·simp at h
 ·rename_i h1;have h1:=ek.1 h1;split at h
  ·simp at h
  ·split at h
   ·simp at h
   ·split at h
    ·simp at h
    ·rename_i m;split at h
     ·rename_i g;split at h
      ·simp at h
      ·rename_i i;exact⟨h1.1,h1.2.1,h1.2.2,om,fun _=>bx fun k=>i (.inl k),fun k=>by omega,fun k=>by omega,fun k=>by omega⟩
     ·rename_i g;split at h
      ·simp at h
      ·split at h
       ·rename_i j;split at h
        ·simp at h
        ·rename_i c;exact⟨h1.1,h1.2.1,h1.2.2,om,fun k=>by omega,fun _=>(ek.1 c).1,fun k=>by omega,fun k=>by omega⟩
       ·rename_i j;split at h
        ·rename_i c;split at h
         ·simp at h
         ·split at h
          ·simp at h
          ·rename_i d;refine⟨h1.1,h1.2.1,h1.2.2,om,fun k=>by omega,fun k=>by omega,fun _=> ?_,fun k=>by omega⟩;cases e:vX hs r.b with
           |none=>exact absurd e d
           |some k=>exact⟨k,rfl⟩
        ·rename_i c;split at h
         ·simp at h
         ·split at h
          ·simp at h
          ·rename_i d;refine⟨h1.1,h1.2.1,h1.2.2,om,fun k=>by omega,fun k=>by omega,fun k=>by omega,fun _=> ?_⟩;cases e:qX ps r.a with
           |none=>exact absurd e d
           |some k=>exact⟨k,rfl⟩
theorem Rg{ps:List Pa}{hs:List Ho}:∀(rs:List Ru)(i:Nat)(pre:List Ru),(Zr ps hs i pre rs).2=0->∀r∈rs,Gg ps hs r:=by
 intro rs;induction rs with
 |nil=>intro _ _ _ r a;cases a
 |cons x t ih=>
  intro i pre h r a;rw[Zr]at h;split at h
  ·rename_i k;exact absurd h k
  ·rename_i k;rcases cy.1 a with rfl|a
   ·exact KZ (ek.1 k)
   ·exact ih _ _ h r a
theorem uu{ps:List Pa}{hs:List Ho}{rs:List Ru}(h:(oE ps hs rs).2=0):eZ ps hs=0/\rs.length<=16/\∀r∈rs,Gg ps hs r:=by
 unfold oE at h;split at h
 ·rename_i k;exact absurd h k
 ·rename_i k;split at h
  ·simp at h
  ·exact⟨ek.1 k,om,Rg _ _ _ h⟩

def wU(ps:List Pa)(id:Int):Int:=match (qX ps id).bind fun i=>ps[i]? with|some p=>p.cls|none=>0
def Mx(ps:List Pa)(hs:List Ho)(r:Ru)(l:List Sw):Rat:=((hs.zip r.pF).map fun x=>qR x.2*eE (tP ps Pa.iz) (GQ l x.1.id)).sum
def nz(r:Ru)(s:Rat):Rat:=
 if r.high.size≠0/\qR r.high<s then s - qR r.high else if r.low.size≠0/\s<qR r.low then s - qR r.low else 0
def uv(ps:List Pa)(l:List Sw)(hold cls:Int):Bool:=l.any fun s=>decide (s.hold=hold)&&decide (wU ps s.aw=cls)
def iO(ps:List Pa)(hs:List Ho)(l:List Sw)(r:Ru):Bool:=
 if r.kind=1 then decide (nz r (Mx ps hs r l)≠0)
 else if r.kind=2 then hs.any fun h=>uv ps l h.id r.a&&uv ps l h.id r.b
 else if r.kind=3 then uv ps l r.b r.a
 else match (qX ps r.a).bind fun i=>ps[i]? with|some p=>decide (cS l r.a<p.aV)|none=>false
def yK(ps:List Pa)(hs:List Ho)(rs:List Ru)(l:List Sw):Bool:=decide ((oE ps hs rs).2=0)&&decide (gY ps hs l=0)
def kV(ps:List Pa)(hs:List Ho)(rs:List Ru)(l:List Sw):Bool:=
 yK ps hs rs l&& !(rs.any (iO ps hs l))&&decide (hs.findIdx? (zx ps hs l)=none)
theorem Iu{ps:List Pa}{hs:List Ho}{l:List Sw}(i:∀s∈l,∃h∈hs,h.id=s.hold)(a b:Int):
  (l.any fun x=>l.any fun y=>decide (x.hold=y.hold)&&(decide (wU ps x.aw=a)&&decide (wU ps y.aw=b)))=hs.any fun h=>uv ps l h.id a&&uv ps l h.id b:=by
 rw[uk];simp only[uv,pe,cz,iv];constructor
 ·rintro⟨x,hx,y,hy,e,c,d⟩;obtain⟨h,j,g⟩:=i x hx;exact⟨h,j,⟨x,hx,g.symm,c⟩,y,hy,by rw[<-e,g],d⟩
 ·rintro⟨h,_,⟨x,hx,ex,c⟩,y,hy,k,d⟩;exact⟨x,hx,y,hy,ex.trans k.symm,c,d⟩

def mL(ps:List Pa)(hs:List Ho)(w:Sw):Option Nat:=match qX ps w.aw,vX hs w.hold with|some i,some k=>some (i*hs.length+k)|_,_=>none
def pG(ps:List Pa)(hs:List Ho)(set:Nat):Nat->List Int->List Sw->List Int
 |_,a,[]=>a
 |n,a,w::r=>pG ps hs set (n+1) (if set.testBit n then(match mL ps hs w with|some j=>a.set j (a.getD j 0+w.aV)|none=>a)else a) r
def qq(ps:List Pa)(hs:List Ho)(l:List Sw)(aW:List Sw)(set:Nat):Option (List Sw):=(rz ps hs (pG ps hs set 0 (dF ps hs l) aW)).toOption
def jL(ps:List Pa)(hs:List Ho)(rs:List Ru)(l:List Sw)(aW:List Sw)(set:Nat):Bool:=match qq ps hs l aW set with|some m=>kV ps hs rs m|none=>false
def mj(ps:List Pa)(hs:List Ho)(rs:List Ru)(l:List Sw)(aW:List Sw):Int:=
 if(oE ps hs rs).2≠0 then 1 else if kV ps hs rs l=false then 11 else if 6<aW.length then 8
 else if(aW.any fun w=>decide (mL ps hs w=none))=true then 7 else if(aW.any fun w=>decide (w.aV=0∨w.aV< -9∨9<w.aV))=true then 2 else 0
section
variable (ps:List Pa) (hs:List Ho) (rs:List Ru) (l aW:List Sw)
def qf(o:List Int):Int×Int:=
 if mj ps hs rs l aW≠0 then(-1,mj ps hs rs l aW)else Rf (jL ps hs rs l aW) aW.length o
end
open Go Go.RowKit Go.Proofs Go.Proofs.YtbcojgcjjpggnaaGreatDoor.Vc Go.Maps

structure WT (t tk te:Nat):Prop where
 t:Tryz.prog.underlying t=some (.map tk te)
 k:Tryz.prog.underlying tk=some (.int .i64)
 e:Tryz.prog.underlying te=some .bool
 z:∀w,(zeroValue te).run Tryz.prog w= .ok (.bool false) w
def kN(f:Int->Option Bool):Nat:=(List.range 128).countP fun z:Nat=>(f (z:Int)).isSome
theorem adg(f:Int->Option Bool):kN f<=128:=dT OU sm
abbrev Cp(f:Int->Option Bool)(z:Int)(x:Bool):Int->Option Bool:=fun y=>if y=z then some x else f y
theorem Zs{f:Int->Option Bool}{z:Int}(c:0<=z)(h1:z<128)(x:Bool):kN f+(if(f z).isSome then 0 else 1)=kN (Cp f z x):=by
 have key:∀l:List Nat,l.Nodup->(l.countP fun y:Nat=>(f (y:Int)).isSome)+(if z.toNat∈l/\(f z).isSome=false then 1 else 0)=l.countP fun y:Nat=>(Cp f z x (y:Int)).isSome:=by
  intro l;induction l with
  |nil=>intro _;simp
  |cons a r ih=>
   intro hn;obtain⟨n1,n2⟩:=Da.1 hn;have ih:=ih n2;rw[Th,Th];by_cases e:(a:Int)=z
   ·have ea:z.toNat=a:=om;rw[aq (fun k=>n1 (ea▸k.1))]at ih;subst e;simp only[Cp,↓reduceIte,Option.isSome_some,cc,cy,true_or,true_and]at ih⊢;rw[<-ih];cases f (a:Int)<;>simp
   ·have ea:z.toNat≠a:=om;simp only[Cp,aq e,cy,ea,false_or]at ih⊢;omega
 have:=key (List.range 128) List.nodup_range;rw[<-show _=kN (Cp f z x)from this];unfold kN;have hm:z.toNat∈List.range 128:=CA.2 om;cases hf:(f z).isSome<;>simp[hm]
def tI(w:World)(B tk te b:Nat)(f:Int->Option Bool):Prop:=
 B<=b/\∃D:DataW Unit,w.ownsMap Tryz.prog tk (plainElem Tryz.prog te) b (Maps.size D) D/\Maps.size D<=kN f/\∀z,has D (.int .i64 z)=(f z).isSome/\D.atKey (.int .i64 z) (.lit (.bool false))= .lit (.bool ((f z).getD false))
section
variable {w:World} {B t tk te b:Nat} {f:Int->Option Bool}
theorem AF(T:WT t tk te){z:Int}(hz:(Lit.int .i64 z).wf=true):keyOf Tryz.prog tk (.int .i64 z)=some (.int .i64 z):=by simp[keyOf,mapKey,T.k,hz]
theorem tI.made(w:World)(tk te:Nat){B:Nat}(hB:B<=w.heap.size):tI (w.alloc (.map #[] 0)) B tk te w.heap.size fun _=>none:=
 ⟨hB,.map [],World.ownsMap_made w _ _ _,Sy _,fun _=>⟨rfl,rfl⟩⟩
theorem tI.lt(h:tI w B tk te b f):b<w.heap.size:=by obtain⟨_,D,h,_⟩:=h;exact h.lt
theorem tI.le{a:Nat}(h:tI w B tk te b f)(hB:a<=B):tI w a tk te b f:=⟨dT hB h.1,h.2⟩
theorem tI.same{w':World}(h:tI w B tk te b f)(hb:w'.heap[b]? =w.heap[b]?):tI w' B tk te b f:=by
 obtain⟨h1,D,a,c⟩:=h;refine⟨h1,D,?_,c⟩;obtain⟨es,clock,d,F,e,g⟩:=a;exact⟨es,clock,hb.trans d,F,e,g⟩
theorem tI.below{w':World}(h:tI w B tk te b f)(hb:Below w.heap.size w w'):tI w' B tk te b f:=h.same (hb.block b h.lt)
theorem tI.isMap(h:tI w B tk te b f):∃es clock,w.heap[b]? =some (.map es clock):=by
 obtain⟨h1,D,⟨es,clock,a,_⟩,c⟩:=h;exact⟨es,clock,a⟩
theorem tI.ext{B0:Nat}{ts:List Nat}{w':World}(h:tI w B tk te b f)(x:Ext B0 ts w w'):tI w' B tk te b f:=by
 refine h.same ?_;obtain⟨es,clock,a⟩:=h.isMap;rcases x.other b h.lt with q|⟨_,_,c,c',fr,q,_⟩
 ·exact q
 ·rw[a]at q;cases q
theorem uw(T:WT t tk te){v:Value}{z:DataW Unit×List MemPlace}(h:plainElem Tryz.prog te v=some z):∃x,v= .bool x/\z=(.lit (.bool x),[]):=by
 unfold plainElem at h;rw[T.e]at h;cases v<;>simp at h;rename_i x;exact⟨x,rfl,h.symm⟩
theorem tI.look(h:tI w B tk te b f)(T:WT t tk te){z:Int}(hz:(Lit.int .i64 z).wf=true):(Instr.lookup t (.map (some b)) (.int .i64 z) false).run Tryz.prog w= .ok (.bool ((f z).getD false)) w:=by
 obtain⟨_,D,a,_,c⟩:=h;obtain⟨v,ps,d,g⟩:=a.lookup (int_keyed T.k) T.t (T.z w) (plainElem_bool T.e false) (AF T hz);obtain⟨x,rfl,hx⟩:=uw T g;simp only[SU]at hx;rw[(c z).2]at hx;cases hx.1;exact d
theorem tI.look_ok(h:tI w B tk te b f)(T:WT t tk te){z:Int}(hz:(Lit.int .i64 z).wf=true):(Instr.lookup t (.map (some b)) (.int .i64 z) true).run Tryz.prog w= .ok (.tuple #[.bool ((f z).getD false),.bool (f z).isSome]) w:=by
 obtain⟨_,D,d,_,a⟩:=h;obtain⟨v,ps,c,g⟩:=d.look_ok (int_keyed T.k) T.t (T.z w) (plainElem_bool T.e false) (AF T hz);obtain⟨x,rfl,hx⟩:=uw T g;simp only[SU]at hx;rw[(a z).2]at hx;cases hx.1;rw[(a z).1]at c;exact c
theorem tI.update(h:tI w B tk te b f)(T:WT t tk te){z:Int}(m:0<=z)(d:z<128)(x:Bool):∃w',(Instr.mapUpdate t (.map (some b)) (.int .i64 z) (.bool x)).run Tryz.prog w= .ok () w'/\tI w' B tk te b (Cp f z x)/\w.grownBy w' (some b):=by
 have hz:(Lit.int .i64 z).wf=true:=by simp[Lit.wf,IntKind.min,IntKind.max,IntKind.signed,IntKind.bits];omega
 obtain⟨h1,D,g,hs,i⟩:=h;have K:Keyed Tryz.prog tk:=int_keyed T.k;have n:=adg f;obtain⟨w',o,a,hg⟩:=g.update K T.t (by unfold maxLen;omega) (AF T hz) (plainElem_bool T.e x);have hm:=g.isMap;have j:=K.key (AF T hz);have nC:=size_put (k:= .int .i64 z) (g.tidy K) (.lit (.bool x));refine⟨w',o,⟨h1,D.put (.int .i64 z) (.lit (.bool x)),?_,?_,fun y=> ?_⟩,hg⟩
 ·obtain⟨es,clock,p,F,q,l⟩:=a;exact⟨es,clock,p,F,by rw[l];simp[Maps.size,length_sorted],l⟩
 ·rw[nC,(i z).1,<-Zs m d x];split<;>simp_all
 ·show has _ _=(Cp f z x y).isSome/\_=DataW.lit (Lit.bool ((Cp f z x y).getD false));unfold Cp;by_cases e:y=z
  ·subst e;rw[bm rfl,has_put_same hm j,atKey_put_same hm j];exact⟨rfl,rfl⟩
  ·have c:(Lit.int .i64 y)≠ .int .i64 z:=fun k=>by cases k;exact e rfl
   rw[aq e,has_put_other c,atKey_put_other c];exact i y
theorem Iv{w':World}(h:tI w B tk te b f)(hg:w.grownBy w' (some b)){k ty:Nat}{cs:Array Value}{fr:Nat×Nat}(a:w.heap[k]? =some (.cells cs ty fr)):w'.heap[k]? =w.heap[k]? :=by
 obtain⟨es,clock,c⟩:=h.isMap;refine hg.block k (ax.1 a).1 fun e=> ?_
 cases e;rw[c]at a;cases a
theorem Rh{z:Int}(a:0<=z)(h1:z<128):(Lit.int .i64 z).wf=true:=by simp[Lit.wf,IntKind.min,IntKind.max,IntKind.signed,IntKind.bits];omega
theorem Gh(h:tI w B tk te b f)(T:WT t tk te){z:Int}(a:0<=z)(h1:z<128){B0:Nat}{tys:List Nat}{K:Bool->Bool->World->Prop}(c:K ((f z).getD false) (f z).isSome w):
  ae Tryz.prog (Instr.lookup t (.map (some b)) (.int .i64 z) true) B0 tys w fun r w1=>∃x y,r= .tuple #[.bool x,.bool y]/\K x y w1:=
 ⟨_,w,h.look_ok T (Rh a h1),Below.refl _ _,fs _,fun _ _ _ _ _=>rfl,_,_,rfl,c⟩
theorem Gi(h:tI w B tk te b f)(T:WT t tk te){z:Int}(e:0<=z)(h1:z<128)(x:Bool){B0:Nat}(a:B0<=B)(c:B0<=w.heap.size){tys:List Nat}{K:World->Prop}
  (g:∀w',tI w' B tk te b (Cp f z x)->Below B0 w w'->w.grownBy w' (some b)->K w'):
  dY Tryz.prog (Instr.mapUpdate t (.map (some b)) (.int .i64 z) (.bool x)) B0 tys w K:=by
 obtain⟨w',i,hm,hg⟩:=h.update T e h1 x;have hb:Below B0 w w':=bN hg (fun k d=>by cases d;exact dT a h.1) c;exact⟨w',i,hb,hb.size,fun k ty cs _ d=>Iv h hg d,g w' hm hb hg⟩
theorem Dm{w:World}{t tk te:Nat}{B:Nat}{tys:List Nat}(hB:B<=w.heap.size){K:Option Nat->World->Prop}
  (a:∀w',tI w' w.heap.size tk te w.heap.size (fun _=>none)->Below w.heap.size w w'->K (some w.heap.size) w'):
  ae Tryz.prog (Instr.makeMap t none) B tys w fun r w1=>∃m:Option Nat,r= .map m/\K m w1:=by
 have hg:=World.grownBy_alloc w (.map #[] 0) none;have hb:Below w.heap.size w (w.alloc (.map #[] 0)):=bN hg sm lf;exact⟨_,_,run_makeMap t w,hb.mono hB,hb.size,fun k ty cs _ c=>hb.block k (ax.1 c).1,_,rfl,a _ (tI.made w tk te lf) hb⟩
end
structure Cl (w w':World):Prop where
 size:w.heap.size<=w'.heap.size
 cells:∀(k:Nat)(cs:Array Value)(ty:Nat)(fr:Nat×Nat),w.heap[k]? =some (Obj.cells cs ty fr)->w'.heap[k]? =some (Obj.cells cs ty fr)
theorem Cl.refl(w:World):Cl w w:=⟨fs _,fun _ _ _ _ h=>h⟩
theorem Cl.trans{w w1 a:World}(h:Cl w w1)(k:Cl w1 a):Cl w a:=⟨dT h.size k.size,fun b cs ty fr e=>k.cells b cs ty fr (h.cells b cs ty fr e)⟩
theorem Cl.low{w w':World}(h:Below w.heap.size w w'):Cl w w':=⟨h.size,fun k cs ty fr e=>(h.block k (ax.1 e).1).trans e⟩
theorem Cl.map{w w':World}{B tk te b:Nat}{f:Int->Option Bool}(h:tI w B tk te b f)(hg:w.grownBy w' (some b)):Cl w w':=⟨hg.size,fun k cs ty fr e=>(Iv h hg e).trans e⟩
theorem bR.cl{w w':World}{A:Option Addr}{sz:Nat}{rows:List (List Value)}(h:bR w A sz rows)(c:Cl w w'):bR w' A sz rows:=by
 rcases h with h|⟨b,off,cs,ty,fr,a,d,e⟩
 ·exact .inl h
 ·exact .inr ⟨b,off,cs,ty,fr,a,c.cells _ _ _ _ d,e⟩
theorem aF.cl{w w':World}{B ty:Nat}{A:Option Addr}{n c sz:Nat}{rows:List (List Value)}(h:aF w B ty A n c sz rows)(k:Cl w w'):aF w' B ty A n c sz rows:=by
 refine⟨⟨h.1.1,?_⟩,h.2⟩;rcases h.1.2 with h1|⟨g,cap,cur,h1,a,d,e⟩
 ·exact .inl h1
 ·exact .inr ⟨g,cap,cur,h1,a,k.cells _ _ _ _ d,e⟩

structure Rm where
 r:Ru
 A:Option Addr
 n:Nat
 c:Nat
abbrev Rm.row(x:Rm):List Value:=[.string x.r.name,.int .i64 x.r.kind,.slice x.A x.n x.c,.string x.r.low,.string x.r.high,.int .i64 x.r.a,.int .i64 x.r.b]
abbrev Rm.val(x:Rm):Value:= .agg #[.string x.r.name,.int .i64 x.r.kind,.slice x.A x.n x.c,.string x.r.low,.string x.r.high,.int .i64 x.r.a,.int .i64 x.r.b]
structure Rj (r:Ru):Prop where
 pF:∀s∈r.pF,mc s
 low:mc r.low
 high:mc r.high
 name:r.name.size<2147483648
 len:r.pF.length<=9
structure xS (w:World) (x:Rm):Prop where
 f:bR w x.A 1 (x.r.pF.map gi)
 l:x.r.pF.length=x.n
 s:Rj x.r
 z:x.A=none->x.c=0
theorem xS.av{w w':World}{x:Rm}(h:xS w x)(hb:Below w.heap.size w w'):xS w' x:=⟨h.f.av hb lf,h.l,h.s,h.z⟩
theorem xS.cl{w w':World}{x:Rm}(h:xS w x)(c:Cl w w'):xS w' x:=⟨h.f.cl c,h.l,h.s,h.z⟩
structure nP (w:World) (A0:Option Addr) (n0:Nat) (A1:Option Addr) (n1:Nat) (A2:Option Addr) (n2 c2:Nat) (ps:List Pa) (hs:List Ho) (xs:List Rm):Prop where
 c:gq w A0 n0 A1 n1 ps hs
 r:bR w A2 7 (xs.map Rm.row)
 l:xs.length=n2
 f:∀x∈xs,xS w x
 n:n2<=17
 k:n2<=c2
abbrev dD(xs:List Rm):List Ru:=xs.map Rm.r
section
variable {w w':World} {A0 A1 A2:Option Addr} {n0 n1 n2 c2:Nat} {ps:List Pa} {hs:List Ho} {xs:List Rm}
theorem nP.av(h:nP w A0 n0 A1 n1 A2 n2 c2 ps hs xs)(hb:Below w.heap.size w w'):nP w' A0 n0 A1 n1 A2 n2 c2 ps hs xs:=
 ⟨h.c.av hb,h.r.av hb lf,h.l,fun x hx=>(h.f x hx).av hb,h.n,h.k⟩
theorem gq.cl(h:gq w A0 n0 A1 n1 ps hs)(c:Cl w w'):gq w' A0 n0 A1 n1 ps hs:=⟨h.p.cl c,h.h.cl c,h.lp,h.lh,h.sp,h.sh,h.np,h.nh⟩
theorem nP.cl(h:nP w A0 n0 A1 n1 A2 n2 c2 ps hs xs)(c:Cl w w'):nP w' A0 n0 A1 n1 A2 n2 c2 ps hs xs:=
 ⟨h.c.cl c,h.r.cl c,h.l,fun x hx=>(h.f x hx).cl c,h.n,h.k⟩
theorem nP.at_(h:nP w A0 n0 A1 n1 A2 n2 c2 ps hs xs){i:Nat}(hi:i<xs.length):
  (0<=(i:Int)/\(i:Int)<n2)/\∃a,A2=some a/\aa w (a.add ((i:Int).toNat*7)) (xs[i].row)/\∀k u,(xs[i].row)[k]? =some u->aa w ((a.add ((i:Int).toNat*7)).add k) [u]:=
 h.r.at_ (fun _=>rfl) h.l hi
end

def wg(a:List Int)(j:Nat)(u:Int):List Int:=a.set j (a.getD j 0+u)
theorem Ej(a:List Int)(j:Nat)(u:Int):(wg a j u).length=a.length:=by unfold wg;simp
theorem ND{a:List Int}{j:Nat}{u:Int}{i:Nat}:(wg a j u)[i]? =if j=i/\i<a.length then some (a.getD i 0+u)else a[i]? :=by
 unfold wg;rw[List.getElem?_set];by_cases e:j=i
 ·subst e;by_cases h:j<a.length
  ·simp[h]
  ·simp[h]
 ·simp[e]
theorem Iw(ps:List Pa)(hs:List Ho)(set n:Nat)(a:List Int)(w:Sw)(r:List Sw):pG ps hs set n a (w::r)=pG ps hs set (n+1) (if set.testBit n then(match mL ps hs w with|some j=>wg a j w.aV|none=>a)else a) r:=by
 rw[pG];rfl
end Go.Proofs.YtbcojgcjjpggnaaGreatDoor.B

open Go.Proofs.YtbcojgcjjpggnaaGreatDoor

namespace Go.Proofs.YtbcojgcjjpggnaaGreatDoor.B
open Go Go.RowKit Go.Proofs Go.Proofs.YtbcojgcjjpggnaaGreatDoor.Vc

structure Rk (ps:List Pa) (hs:List Ho) (rs:List Ru) (l aW:List Sw):Prop where
 rules:(oE ps hs rs).2=0
 keeps:kV ps hs rs l=true
 n:aW.length<=6
 place:∀w∈aW,∃j,mL ps hs w=some j
 u:∀w∈aW,¬(w.aV=0∨w.aV< -9∨9<w.aV)
theorem UQ{ps:List Pa}{hs:List Ho}{rs:List Ru}{l aW:List Sw}(h:mj ps hs rs l aW=0):Rk ps hs rs l aW:=by
 unfold mj at h;split at h
 ·simp at h
 ·rename_i h1;split at h
  ·simp at h
  ·rename_i a;split at h
   ·simp at h
   ·rename_i d;split at h
    ·simp at h
    ·rename_i b;split at h
     ·simp at h
     ·rename_i c;refine⟨ek.1 h1,by simpa using a,om,fun w hw=> ?_,fun w hw k=> ?_⟩
      ·cases e:mL ps hs w with
       |some j=>exact⟨j,rfl⟩
       |none=>exact absurd (pe.2 ⟨w,hw,by simpa using e⟩) b
      ·exact c (pe.2 ⟨w,hw,by simpa using k⟩)
theorem zA{ps:List Pa}{hs:List Ho}{rs:List Ru}{l:List Sw}(h:kV ps hs rs l=true):eZ ps hs=0/\gY ps hs l=0/\eJ ps hs l:=by
 unfold kV yK at h;simp only[cz,iv]at h;exact⟨(uu h.1.1.1).1,h.1.1.2,fv h.1.1.2⟩
theorem Iy{ps:List Pa}{hs:List Ho}{l aW c:List Sw}{s:Nat}(h:qq ps hs l aW s=some c):eZ ps hs=0/\eJ ps hs c/\dF ps hs c=pG ps hs s 0 (dF ps hs l) aW:=by
 unfold qq at h;cases e:rz ps hs (pG ps hs s 0 (dF ps hs l) aW)with
 |error x=>rw[e]at h;cases h
 |ok y=>
  rw[e]at h;cases h;exact Un e

def Iz(a b:List Int):Prop:=a.length=b.length/\∀i,a.getD i 0<=b.getD i 0
theorem Iz.refl(a:List Int):Iz a a:=⟨rfl,fun _=>SI _⟩
theorem Cq(a:List Int)(j:Nat)(u:Int)(i:Nat):(wg a j u).getD i 0=if j=i/\i<a.length then a.getD i 0+u else a.getD i 0:=by
 rw[cb,ND];split
 ·rfl
 ·rw[cb]
theorem Iz.add{a b:List Int}(h:Iz a b)(j:Nat)(u:Int):Iz (wg a j u) (wg b j u):=by
 refine⟨by rw[Ej,Ej,h.1],fun i=> ?_⟩;rw[Cq,Cq,h.1];have:=h.2 i;split<;>omega
theorem NF{A:List Int}:∀{B:List Int},A.Nodup->(∀x∈A,x∈B)->A.length<=B.length:=by
 induction A with
 |nil=>intro B _ _;simp
 |cons x r ih=>
  intro B hn hs;obtain⟨n1,n2⟩:=Da.1 hn;have hx:=hs x sm;have:=ih (B:=B.erase x) n2 fun y hy=>by
   rw[List.mem_erase_of_ne (fun e=>n1 (by rw[<-e];exact hy))];exact hs y (by simp[hy])
  rw[List.length_erase_of_mem hx]at this;have:=List.length_pos_of_mem hx;simp;omega
theorem UR{ps:List Pa}{hs:List Ho}{l:List Sw}(h:eJ ps hs l)(id:Int):(GQ l id).length<=ps.length:=by
 have hn:((GQ l id).map fun s=>s.aw).Nodup:=by
  have a:sD (GQ l id):=List.Pairwise.filter _ h.Kw;refine List.pairwise_map.2 (List.Pairwise.imp_of_mem ?_ a);intro x y hx hy hb;have hx:=(Ao.1 hx).2;have hy:=(Ao.1 hy).2;simp at hx hy;unfold fC at hb;omega
 have:=NF hn (B:=ps.map fun p=>p.id) fun x hx=>by
  obtain⟨s,b,rfl⟩:=gX.1 hx;obtain⟨i,_,hi,_⟩:=h.known s (Ao.1 b).1;obtain⟨p,e,c⟩:=gG hi;exact gX.2 ⟨p,gb e,c⟩
 simpa using this
theorem Iz.drop{a b:List Int}(h:Iz a b)(k:Nat):Iz (a.drop k) (b.drop k):=by
 refine⟨by rw[sH,sH,h.1],fun i=> ?_⟩;have:=h.2 (k+i);rw[cb,cb]at*;rwa [kp,kp]
theorem Iz.take{a b:List Int}(h:Iz a b)(k:Nat):Iz (a.take k) (b.take k):=by
 refine⟨by rw[eH,eH,h.1],fun i=> ?_⟩;have:=h.2 i;rw[cb,cb]at*;rw[jv,jv];by_cases c:i<k
 ·rwa [bm c,bm c]
 ·rw[aq c,aq c];exact SI _
theorem Iz.sum:∀{a b:List Int},Iz a b->a.sum<=b.sum:=by
 intro a;induction a with
 |nil=>
  intro b h;have:b=[]:=M7.1 h.1.symm;subst this;exact SI _
 |cons x r ih=>
  intro b h;cases b with
  |nil=>exact absurd h.1 sm
  |cons y t=>
   rw[vv,vv];have c:=h.2 0;have d:Iz r t:=⟨by have:=h.1;simpa using this,fun i=>by have:=h.2 (i+1);simpa using this⟩;have:=ih d;simp at c;omega
theorem Iz.row{a b:List Int}(h:Iz a b)(n i:Nat):Iz (tA a n i) (tA b n i):=by
 unfold tA;exact(h.drop _).take _
end Go.Proofs.YtbcojgcjjpggnaaGreatDoor.B

set_option maxRecDepth 100000
set_option maxHeartbeats 4000000
namespace Go.Proofs.YtbcojgcjjpggnaaGreatDoor.F
open Go Go.RowKit Go.Proofs Go.Proofs.YtbcojgcjjpggnaaGreatDoor.Vc
open Tryz
variable {A C D E G H J K A0 A1 A2 A3 A4 A5 A6 A7 A8 A9 C0 C1 C2 C3 C4 C5 C6 C7 C8 C9:O} {a b c d e f g i j l m n o a0 a1 a2 a3 a4 a5 a6 a7 a8 a9 b0 b1 b2 b3 b4 b5 b6 b7 b8 b9 c0 c1 c2 c3 c4 c5 c6 c7 c8 c9:Nat} {p q r s t u v x p0 p1 p2 p3 p4 p5 p6 p7 p8 p9 q0 q1 q2 q3 q4 q5 q6 q7 q8 q9:Int} {L M N N0 N1 N2 N3 N4 N5 N6 N7 N8 N9 T0 T1 T2 T3 T4 T5 T6 T7 T8 T9:ByteArray} {Q S:Bool} {B:Nat} {w:World} {R:Kt}
def qu.cx:Pm:=([],[])
theorem qu.vc
  (h:(∀j,Ext w.heap.size [] w j->(Pure P 38 #[.agg #[.slice A a b,.slice C c d,.slice E g i],.slice D e f] j (Rb fun n l=>(Br (n=false) (R (.bool false) l) (Pure P 39 #[.agg #[.slice A a b,.slice C c d,.slice E g i],.slice D e f] l (Rs fun r o s m=>(Br ((o:Int)>0) (R (.bool false) m) (Pure P 40 #[.agg #[.slice A a b,.slice C c d],.slice D e f] m (Rii fun p t q=>(R (.bool (decide (p<0))) q))))))))))):
  Pure P 10 #[.agg #[.slice A a b,.slice C c d,.slice E g i],.slice D e f] w R:=
 pr qu.cx func10 h

def qv.cx:Pm:=([],[])
theorem qv.vc
  (h:(∀j,Ext w.heap.size [] w j->(Pure P 84 #[.agg #[.slice A a b,.slice C c d,.slice D e f]] j (Rii fun p m l=>(Br (m=0) (Pure P 41 #[.agg #[.slice A a b,.slice C c d],.slice E g i] l (Ri fun n o=>(R (.bool (decide (n=0))) o))) (R (.bool false) l)))))):
  Pure P 38 #[.agg #[.slice A a b,.slice C c d,.slice D e f],.slice E g i] w R:=
 pr qv.cx func38 h

def bJ.L4(a:O)(b c:Nat)(d:O)(e f:Nat)(g:O)(i j:Nat)(l m:Int)(n:O)(o p:Nat)(q:O)(r s:Nat)(t:O)(u v:Nat):=Lt 39 f39 4 [vS 1 a b c,vL 2,vL 5,vS 6 d e f,vS 11 g i j,vI 12 l,vI 13 m] [⟨2,false,39,[(.slice n o p),(.slice q r s),(.slice t u v)]⟩,⟨5,false,167,[.nilFunc,(.func (.func 85) #[] #[]),(.func (.func 89) #[] #[]),(.func (.func 90) #[] #[]),(.func (.func 91) #[] #[])]⟩]
def bJ.cx:Pm:=([((true,4),[1,2,5,6,11,12,13],[2,5])],[(6,2,1),(7,2,2),(7,3,2)])
theorem bJ.L4.step
  (h:(Br (p<q) (Ix p m H fun T=>(∃r o s t u v x y z,aa w (T.add ((p).toNat*7)) [.string r,I o,.slice s t u,.string v,.string x,I y,I z]/\((0<=o/\o<5)/\(((((True/\(o=(0:Int)->False))/\(o=(1:Int)->(∀J,Ext B [] w J->(Pure P 85 #[.agg #[.slice C c d,.slice D e f,.slice E g i],.agg #[.string r,I o,.slice s t u,.string v,.string x,I y,I z],.slice A a b] J (Rb fun U K=>(Bb U (ae P (Instr.buildSlice 28 1 #[(0,(I p))]) B [103,39,167] K (Rs fun V X Y Z=>(ae P (Builtin.append_ #[28,28] 28 #[.slice G j l,.slice V X Y]) B [103,39,167] Z (Rs fun d0 d1 d2 d3=>(aS .i64 (p+1)/\(bJ.L4 A a b d0 d1 d2 H m n q (p+1) C c d D e f E g i B d3 R)))))) (aS .i64 (p+1)/\(bJ.L4 A a b G j l H m n q (p+1) C c d D e f E g i B K R))))))))/\(o=(2:Int)->(∀L,Ext B [] w L->(Pure P 89 #[.agg #[.slice C c d,.slice D e f,.slice E g i],.agg #[.string r,I o,.slice s t u,.string v,.string x,I y,I z],.slice A a b] L (Rb fun d4 M=>(Bb d4 (ae P (Instr.buildSlice 28 1 #[(0,(I p))]) B [103,39,167] M (Rs fun d5 d6 d7 d8=>(ae P (Builtin.append_ #[28,28] 28 #[.slice G j l,.slice d5 d6 d7]) B [103,39,167] d8 (Rs fun d9 k F W=>(aS .i64 (p+1)/\(bJ.L4 A a b d9 k F H m n q (p+1) C c d D e f E g i B W R)))))) (aS .i64 (p+1)/\(bJ.L4 A a b G j l H m n q (p+1) C c d D e f E g i B M R))))))))/\(o=(3:Int)->(∀N,Ext B [] w N->(Pure P 90 #[.agg #[.slice C c d,.slice D e f,.slice E g i],.agg #[.string r,I o,.slice s t u,.string v,.string x,I y,I z],.slice A a b] N (Rb fun e3 O=>(Bb e3 (ae P (Instr.buildSlice 28 1 #[(0,(I p))]) B [103,39,167] O (Rs fun e4 e5 e6 e7=>(ae P (Builtin.append_ #[28,28] 28 #[.slice G j l,.slice e4 e5 e6]) B [103,39,167] e7 (Rs fun e8 e9 g0 g1=>(aS .i64 (p+1)/\(bJ.L4 A a b e8 e9 g0 H m n q (p+1) C c d D e f E g i B g1 R)))))) (aS .i64 (p+1)/\(bJ.L4 A a b G j l H m n q (p+1) C c d D e f E g i B O R))))))))/\(o=(4:Int)->(∀Q,Ext B [] w Q->(Pure P 91 #[.agg #[.slice C c d,.slice D e f,.slice E g i],.agg #[.string r,I o,.slice s t u,.string v,.string x,I y,I z],.slice A a b] Q (Rb fun g2 S=>(Bb g2 (ae P (Instr.buildSlice 28 1 #[(0,(I p))]) B [103,39,167] S (Rs fun g3 g4 g5 g6=>(ae P (Builtin.append_ #[28,28] 28 #[.slice G j l,.slice g3 g4 g5]) B [103,39,167] g6 (Rs fun g7 g8 g9 j0=>(aS .i64 (p+1)/\(bJ.L4 A a b g7 g8 g9 H m n q (p+1) C c d D e f E g i B j0 R)))))) (aS .i64 (p+1)/\(bJ.L4 A a b G j l H m n q (p+1) C c d D e f E g i B S R))))))))))) (R (.slice G j l) w))):
  bJ.L4 A a b G j l H m n q p C c d D e f E g i B w R:=
 lr bJ.cx func39 h
theorem bJ.vc
  (h:(∀j,Ext w.heap.size [] w j->(bJ.L4 E g i none 0 0 A a b (a:Int) (0:Int) C c d D e f A a b w.heap.size j R))):
  Pure P 39 #[.agg #[.slice C c d,.slice D e f,.slice A a b],.slice E g i] w R:=
 pr bJ.cx func39 h

def dJ.L7(a b:Int)(c:O)(d e:Nat)(f:O)(g i:Nat)(j:O)(l m:Nat):=Lt 84 f84 7 [vL 1,vI 19 a,vI 20 b] [⟨1,false,39,[(.slice c d e),(.slice f g i),(.slice j l m)]⟩]
def dJ.cx:Pm:=([((true,7),[1,19,20],[1])],[])
theorem dJ.L7.step
  (h:(Br (p<q) (Pure P 139 #[.agg #[.slice A a b,.slice C c d,.slice D e f],I p] w (Ri fun g i=>(Br (g≠0) (R (.tuple #[I p,I g]) i) (aS .i64 (p+1)/\(dJ.L7 q (p+1) A a b C c d D e f B i R))))) (R (.tuple #[(I (-1:Int)),I 0]) w))):
  dJ.L7 q p A a b C c d D e f B w R:=
 lr dJ.cx func84 h
theorem dJ.vc
  (h:(∀i,Ext w.heap.size [] w i->(Pure P 97 #[.agg #[.slice A b c,.slice C d e]] i (Ri fun j g=>(Br (j≠0) (R (.tuple #[(I (-1:Int)),I j]) g) (Br ((a:Int)>16) (R (.tuple #[(I (-1:Int)),I 8]) g) (dJ.L7 (a:Int) (0:Int) A b c C d e D a f w.heap.size g R))))))):
  Pure P 84 #[.agg #[.slice A b c,.slice C d e,.slice D a f]] w R:=
 pr dJ.cx func84 h

def mm.cx:Pm:=([],[])
theorem mm.vc
  (h:(∀m,Ext w.heap.size [] w m->(Pure P 88 #[.agg #[.slice C c d,.slice D e f,.slice E g i],.agg #[.string L,I p,.slice A a b,.string M,.string N,I q,I r],.slice G j l] m (Rt fun n o=>(Pure P 87 #[.agg #[.string L,I p,.slice A a b,.string M,.string N,I q,I r],.string n] o (Rt fun s t=>(Pure P 86 #[.string s] t (Ri fun u v=>(R (.bool (decide (u≠0))) v))))))))):
  Pure P 85 #[.agg #[.slice C c d,.slice D e f,.slice E g i],.agg #[.string L,I p,.slice A a b,.string M,.string N,I q,I r],.slice G j l] w R:=
 pr mm.cx func85 h

def sK.cx:Pm:=([],[])
theorem sK.vc
  (h:(Pure P 140 #[.string L,(.string ⟨#[48]⟩)] w (Ri fun a b=>(R (I a) b)))):
  Pure P 86 #[.string L] w R:=
 pr sK.cx func86 h

def pH.cx:Pm:=([],[])
theorem pH.vc
  (h:(Br (N≠(⟨#[]⟩:ByteArray)) (∀d,Ext w.heap.size [] w d->(Pure P 140 #[.string M,.string N] d (Ri fun j c=>(Br (j>0) (Pure P 141 #[.string M,.string N] c (Rt fun l m=>(R (.string l) m))) (Br (L≠(⟨#[]⟩:ByteArray)) (Pure P 140 #[.string M,.string L] c (Ri fun n e=>(Br (n<0) (Pure P 141 #[.string M,.string L] e (Rt fun o s=>(R (.string o) s))) (R (.string ⟨#[48]⟩) e)))) (R (.string ⟨#[48]⟩) c)))))) (Br (L≠(⟨#[]⟩:ByteArray)) (∀f,Ext w.heap.size [] w f->(Pure P 140 #[.string M,.string L] f (Ri fun t g=>(Br (t<0) (Pure P 141 #[.string M,.string L] g (Rt fun u v=>(R (.string u) v))) (R (.string ⟨#[48]⟩) g))))) (∀i,Ext w.heap.size [] w i->(R (.string ⟨#[48]⟩) i))))):
  Pure P 87 #[.agg #[.string N0,I p,.slice A a b,.string L,.string N,I q,I r],.string M] w R:=
 pr pH.cx func87 h

def eT.L3(a:O)(b c:Nat)(d:ByteArray)(e:O)(f g:Nat)(i j:Int)(l:O)(m n:Nat)(o:O)(p q:Nat)(r:O)(s t:Nat)(u:ByteArray)(v:Int)(x:O)(y z:Nat)(A C:ByteArray)(D E:Int):=Lt 88 f88 3 [vS 2 a b c,vL 3,vL 4,vT 7 d,vS 14 e f g,vI 15 i,vI 16 j] [⟨3,false,39,[(.slice l m n),(.slice o p q),(.slice r s t)]⟩,⟨4,false,103,[(.string u),(I v),(.slice x y z),(.string A),(.string C),(I D),(I E)]⟩]
def eT.cx:Pm:=([((true,3),[2,3,4,7,14,15,16],[3,4])],[(6,9999,3)])
theorem eT.L3.step
  (h:(Br (p<q) (Ix p c C fun J=>(∃u K O Q S T U,aa w (J.add ((p).toNat*7)) [I u,.string K,.string O,.string Q,.string S,.string T,.string U]/\(∀v,Ext B [] w v->(Pure P 142 #[.agg #[.slice D d e,.slice E f g],.slice A a b,I u] v fun V X=>∃x Y Z d0 d1 d2 d3,V= .tuple #[.agg #[.string x,.string Y,.string Z,.string d0,.string d1,.string d2],I d3]/\(∀o,Ext B [] X o->(Ix p i G fun d4=>(∃y,aa o (d4.add ((p).toNat*1)) [.string y]/\(∀z,Ext B [] o z->(Pure P 144 #[.string y,.string x] z (Rt fun d5 d6=>(Pure P 143 #[.string L,.string d5] d6 (Rt fun d7 d8=>(aS .i64 (p+1)/\(eT.L3 A a b d7 C c j q (p+1) D d e E f g H l m M r G i n N N0 s t B d8 R)))))))))))))) (R (.string L) w))):
  eT.L3 A a b L C c j q p D d e E f g H l m M r G i n N N0 s t B w R:=
 lr eT.cx func88 h
theorem eT.vc
  (h:(∀m,Ext w.heap.size [] w m->(eT.L3 G j l (⟨#[48]⟩:ByteArray) A a b (a:Int) (0:Int) C c d A a b D e f L p E g i M N q r w.heap.size m R))):
  Pure P 88 #[.agg #[.slice C c d,.slice A a b,.slice D e f],.agg #[.string L,I p,.slice E g i,.string M,.string N,I q,I r],.slice G j l] w R:=
 pr eT.cx func88 h

def bC.L2(a:O)(b c:Nat)(d:O)(e f:Nat)(g i:Int)(j:O)(l m:Nat)(n:O)(o p:Nat)(q:O)(r s:Nat)(t:ByteArray)(u:Int)(v:O)(x y:Nat)(z A:ByteArray)(C D:Int):=Lt 89 f89 2 [vS 2 a b c,vL 3,vL 4,vS 11 d e f,vI 12 g,vI 13 i] [⟨3,false,39,[(.slice j l m),(.slice n o p),(.slice q r s)]⟩,⟨4,false,103,[(.string t),(I u),(.slice v x y),(.string z),(.string A),(I C),(I D)]⟩]
def bC.L5(a:O)(b c:Nat)(d:O)(e f:Nat)(g i:Int)(j:O)(l m:Nat)(n o:Int)(p:O)(q r:Nat)(s:O)(t u:Nat)(v:O)(x y:Nat)(z:ByteArray)(A:Int)(C:O)(D E:Nat)(G H:ByteArray)(J K L M N:Int):=Lt 89 f89 5 [vS 2 a b c,vL 3,vL 4,vL 8,vS 11 d e f,vI 12 g,vI 13 i,vS 17 j l m,vI 18 n,vI 19 o] [⟨3,false,39,[(.slice p q r),(.slice s t u),(.slice v x y)]⟩,⟨4,false,103,[(.string z),(I A),(.slice C D E),(.string G),(.string H),(I J),(I K)]⟩,⟨8,false,54,[(I L),(I M),(I N)]⟩]
def bC.cx:Pm:=([((true,2),[2,3,4,11,12,13],[3,4]),((true,5),[2,3,4,8,11,12,13,17,18,19],[3,4,8])],[])
theorem bC.L2.step
  (h:(Br (p<q) (Ix p c C fun y=>(∃o u v,aa w (y.add ((p).toNat*3)) [I o,I u,I v]/\(∀x,Ext B [] w x->(bC.L5 A a b C c d q p A a b (a:Int) (0:Int) D e f E g i G j l L r H m n M N s t o u v B x R)))) (R (.bool false) w))):
  bC.L2 A a b C c d q p D e f E g i G j l L r H m n M N s t B w R:=
 lr bC.cx func89 h
theorem bC.L5.step
  (h:(Br (p<u) (Ix p m H fun T=>(∃y z U,aa w (T.add ((p).toNat*3)) [I y,I z,I U]/\(Br (x=y) (∀K,Ext B [] w K->(Pure P 145 #[.agg #[.slice A a b,.slice C c d,.slice D e f],I p0] K (Ri fun V O=>(Br (V=r) (Pure P 145 #[.agg #[.slice A a b,.slice C c d,.slice D e f],I z] O (Ri fun X Q=>(Br (X=s) (R (.bool true) Q) (aS .i64 (p+1)/\(bC.L5 E g i G j l t q H m a0 u (p+1) A a b C c d D e f L v J n o M N r s x p0 p1 B Q R))))) (aS .i64 (p+1)/\(bC.L5 E g i G j l t q H m a0 u (p+1) A a b C c d D e f L v J n o M N r s x p0 p1 B O R)))))) (aS .i64 (p+1)/\(∀S,Ext B [] w S->(bC.L5 E g i G j l t q H m a0 u (p+1) A a b C c d D e f L v J n o M N r s x p0 p1 B S R)))))) (aS .i64 (q+1)/\(bC.L2 E g i G j l t (q+1) A a b C c d D e f L v J n o M N r s B w R)))):
  bC.L5 E g i G j l t q H m a0 u p A a b C c d D e f L v J n o M N r s x p0 p1 B w R:=
 lr bC.cx func89 h
theorem bC.vc
  (h:(∀m,Ext w.heap.size [] w m->(bC.L2 A a b A a b (a:Int) (0:Int) C c d D e f E g i L p G j l M N q r w.heap.size m R))):
  Pure P 89 #[.agg #[.slice C c d,.slice D e f,.slice E g i],.agg #[.string L,I p,.slice G j l,.string M,.string N,I q,I r],.slice A a b] w R:=
 pr bC.cx func89 h

def qw.cx:Pm:=([],[(1,1,5)])
theorem qw.vc
  (h:(∀m,Ext w.heap.size [] w m->(∀n:Nat,w.heap.size<=n->m.heap[n]? =some (.cells [.slice A a b,.slice C c d,.slice D e f].toArray 39 (0,0))->(∀o:Nat,w.heap.size<=o->m.heap[o]? =some (.cells [.string L,I p,.slice E g i,.string M,.string N,I q,I r].toArray 103 (0,0))->(Pure P 146 #[.slice G j l,(.func (.func 147) #[] #[(.pointer (some (⟨o,0,none⟩:Addr))),(.pointer (some (⟨n,0,none⟩:Addr)))])] m (Rb fun s t=>(R (.bool s) t))))))):
  Pure P 90 #[.agg #[.slice A a b,.slice C c d,.slice D e f],.agg #[.string L,I p,.slice E g i,.string M,.string N,I q,I r],.slice G j l] w R:=
 pr qw.cx func90 h

def dn.L4(a:Addr)(b:Int)(c:O)(d e:Nat)(f g:Int):=Lt 91 f91 4 [(4,.v (.pointer (some a))),vI 8 b,vS 23 c d e,vI 24 f,vI 25 g] []
def dn.cx:Pm:=([((true,4),[4,8,23,24,25],[])],[(1,3,5)])
theorem dn.L4.step{c:Addr}
  (h:(Br (p<r) (Ix p a A fun i=>(∃j f e,aa w (i.add ((p).toNat*3)) [I j,I f,I e]/\(∀d,Ext B [] w d->(∃g,aa d (c.add 5) [I g]/\(Br (f=g) (aS .i64 (q - e)/\(aS .i64 (p+1)/\(dn.L4 c (q - e) A a b r (p+1) B d R))) (aS .i64 (p+1)/\(dn.L4 c q A a b r (p+1) B d R))))))) (R (.bool (decide (q>0))) w))):
  dn.L4 c q A a b r p B w R:=
 lr dn.cx func91 h
theorem dn.vc
  (h:(∀n,Ext w.heap.size [] w n->(∀m:Nat,w.heap.size<=m->n.heap[m]? =some (.cells [.string L,I p,.slice C d e,.string M,.string N,I q,I r].toArray 103 (0,0))->(Pure P 148 #[.slice A a c,(.func (.func 149) #[] #[(.pointer (some (⟨m,0,none⟩:Addr)))])] n (Ri fun o s=>(Ix o a A fun u=>(∃t,aa s ((u.add ((o).toNat*7)).add 1) [I t]/\(dn.L4 (⟨m,0,none⟩:Addr) t D b f (b:Int) (0:Int) w.heap.size s R)))))))):
  Pure P 91 #[.agg #[.slice A a c,.slice E g i,.slice G j l],.agg #[.string L,I p,.slice C d e,.string M,.string N,I q,I r],.slice D b f] w R:=
 pr dn.cx func91 h

def qx.cx:Pm:=([],[(6,4,5)])
theorem qx.vc
  (h:(Ix p c A fun a1=>(∀m,Ext w.heap.size [] w m->(∃l t n o q r s u v,aa m (a1.add ((p).toNat*7)) [.string l,I t,.slice n o q,.string r,.string s,I u,I v]/\(∀x,Ext w.heap.size [] m x->(Pure P 183 #[.slice n o q,(.func (.func 184) #[] #[])] x (Rb fun e4 y=>(Bb e4 (R (I 1) y) (Pure P 185 #[.string r] y (Rb fun e5 z=>(Br (e5=false) (R (I 1) z) (Pure P 185 #[.string s] z (Rb fun e6 j=>(Br (e6=false) (R (I 1) j) (Br (((ByteArray.size l:Int):Int)<1) (R (I 4) j) (Br (((ByteArray.size l:Int):Int)>64) (R (I 4) j) ((0<=p/\p<=(a:Int))/\(∀i:Nat,w.heap.size<=i->j.heap[i]? =some (.cells [.string l,I t,.slice n o q,.string r,.string s,I u,I v].toArray 103 (0,0))->(Pure P 168 #[(.slice A ((p).toNat) a),(.func (.func 186) #[] #[(.pointer (some (⟨i,0,none⟩:Addr)))])] j (Rb fun e7 g=>(Bb e7 (R (I 6) g) (∃E,aa g ((⟨i,0,none⟩:Addr).add 1) [I E]/\(Br (E<1) (R (I 2) g) (∃G,aa g ((⟨i,0,none⟩:Addr).add 1) [I G]/\(Br (G>4) (R (I 2) g) (∃H,aa g ((⟨i,0,none⟩:Addr).add 1) [I H]/\(Br (H=1) (∃e8 J e9,aa g ((⟨i,0,none⟩:Addr).add 2) [.slice e8 J e9]/\(Br ((J:Int)≠(b:Int)) (R (I 10) g) (∃K,aa g ((⟨i,0,none⟩:Addr).add 5) [I K]/\(Br (K≠0) (R (I 10) g) (∃L,aa g ((⟨i,0,none⟩:Addr).add 6) [I L]/\(Br (L≠0) (R (I 10) g) (∃M,aa g ((⟨i,0,none⟩:Addr).add 3) [.string M]/\(Br (M=(⟨#[]⟩:ByteArray)) (∃N,aa g ((⟨i,0,none⟩:Addr).add 4) [.string N]/\(Br (N=(⟨#[]⟩:ByteArray)) (R (I 2) g) (∃O,aa g ((⟨i,0,none⟩:Addr).add 3) [.string O]/\(Br (O≠(⟨#[]⟩:ByteArray)) (∃Q,aa g ((⟨i,0,none⟩:Addr).add 4) [.string Q]/\(Br (Q≠(⟨#[]⟩:ByteArray)) (∃S,aa g ((⟨i,0,none⟩:Addr).add 3) [.string S]/\(∃T,aa g ((⟨i,0,none⟩:Addr).add 4) [.string T]/\(Pure P 140 #[.string S,.string T] g (Ri fun g0 U=>(Br (g0>0) (R (I 2) U) (R (I 0) U)))))) (R (I 0) g))) (R (I 0) g))))) (∃V,aa g ((⟨i,0,none⟩:Addr).add 3) [.string V]/\(Br (V≠(⟨#[]⟩:ByteArray)) (∃X,aa g ((⟨i,0,none⟩:Addr).add 4) [.string X]/\(Br (X≠(⟨#[]⟩:ByteArray)) (∃Y,aa g ((⟨i,0,none⟩:Addr).add 3) [.string Y]/\(∃Z,aa g ((⟨i,0,none⟩:Addr).add 4) [.string Z]/\(Pure P 140 #[.string Y,.string Z] g (Ri fun g1 d0=>(Br (g1>0) (R (I 2) d0) (R (I 0) d0)))))) (R (I 0) g))) (R (I 0) g))))))))))) (∃g2 d1 g3,aa g ((⟨i,0,none⟩:Addr).add 2) [.slice g2 d1 g3]/\(Br ((d1:Int)>0) (R (I 10) g) (∃d2,aa g ((⟨i,0,none⟩:Addr).add 3) [.string d2]/\(Br (d2≠(⟨#[]⟩:ByteArray)) (R (I 10) g) (∃d3,aa g ((⟨i,0,none⟩:Addr).add 4) [.string d3]/\(Br (d3≠(⟨#[]⟩:ByteArray)) (R (I 10) g) (∃d4 d5 d6 d7 d8 d9 k F W,aa g (⟨i,0,none⟩:Addr) [.string d4,I d5,.slice d6 d7 d8,.string d9,.string k,I F,I W]/\(Pure P 187 #[.agg #[.slice C d e,.slice D b f,.slice A c a],.agg #[.string d4,I d5,.slice d6 d7 d8,.string d9,.string k,I F,I W]] g (Ri fun g4 g5=>(R (I g4) g5))))))))))))))))))))))))))))))))))))):
  Pure P 139 #[.agg #[.slice C d e,.slice D b f,.slice A c a],I p] w R:=
 pr qx.cx func139 h

def oF.cx:Pm:=([],[])
theorem oF.vc
  (h:(Pure P 155 #[.string L,.string M] w (Rii fun a c b=>(R (I a) b)))):
  Pure P 140 #[.string L,.string M] w R:=
 pr oF.cx func140 h

def ux.cx:Pm:=([],[])
theorem ux.vc
  (h:(Pure P 188 #[.string L,.string M] w (rV fun a c b=>(R (.string a) b)))):
  Pure P 141 #[.string L,.string M] w R:=
 pr ux.cx func141 h

def uy.cx:Pm:=([],[])
theorem uy.vc
  (h:(Pure P 189 #[.string L,.string M] w (rV fun a c b=>(R (.string a) b)))):
  Pure P 143 #[.string L,.string M] w R:=
 pr uy.cx func143 h

def uz.cx:Pm:=([],[])
theorem uz.vc
  (h:(Pure P 190 #[.string L,.string M] w (rV fun a c b=>(R (.string a) b)))):
  Pure P 144 #[.string L,.string M] w R:=
 pr uz.cx func144 h

def qy.cx:Pm:=([],[(1,3,5)])
theorem qy.vc
  (h:(∀g,Ext w.heap.size [] w g->(∀i:Nat,w.heap.size<=i->g.heap[i]? =some (.cells [I p].toArray 3 (0,0))->(Pure P 148 #[.slice A a b,(.func (.func 191) #[] #[(.pointer (some (⟨i,0,none⟩:Addr)))])] g (Ri fun j l=>(Ix j a A fun n=>(∃m,aa l ((n.add ((j).toNat*7)).add 2) [I m]/\(R (I m) l)))))))):
  Pure P 145 #[.agg #[.slice A a b,.slice C c d,.slice D e f],I p] w R:=
 pr qy.cx func145 h

def mM.cx:Pm:=([],[(1,9999,3)])
theorem mM.vc{b c:Addr}
  (h:(∀a,Ext w.heap.size [] w a->(∃d,aa a (b.add 6) [I d]/\(Br (p=d) (∃e f g i j l m n o,aa a c [.slice e f g,.slice i j l,.slice m n o]/\(∃s,aa a (b.add 5) [I s]/\(∀t,Ext w.heap.size [] a t->(Pure P 145 #[.agg #[.slice e f g,.slice i j l,.slice m n o],I q] t (Ri fun v x=>(R (.bool (decide (v=s))) x)))))) (∀u,Ext w.heap.size [] a u->(R (.bool false) u)))))):
  Pure P 147 #[.agg #[I p,I q,I r],(.pointer (some b)),(.pointer (some c))] w R:=
 pr mM.cx func147 h

def mN.cx:Pm:=([],[])
theorem mN.vc{b:Addr}
  (h:(∀a,Ext w.heap.size [] w a->(∃c,aa a (b.add 5) [I c]/\(R (.bool (decide (p=c))) a)))):
  Pure P 149 #[.agg #[I p,I q,I r,.string L,.string M,.string N,.string N0],(.pointer (some b))] w R:=
 pr mN.cx func149 h

def mO.cx:Pm:=([],[])
theorem mO.vc
  (h:(Pure P 71 #[.string L] w (Rb fun a b=>(R (.bool (decide (a=false))) b)))):
  Pure P 184 #[.string L] w R:=
 pr mO.cx func184 h

def qz.cx:Pm:=([],[])
theorem qz.vc
  (h:(Br (L=(⟨#[]⟩:ByteArray)) (R (.bool true) w) (Pure P 71 #[.string L] w (Rb fun a b=>(R (.bool a) b))))):
  Pure P 185 #[.string L] w R:=
 pr qz.cx func185 h

def mP.cx:Pm:=([],[])
theorem mP.vc{d:Addr}
  (h:(∀c,Ext w.heap.size [] w c->(∃e,aa c (d.add 0) [.string e]/\(R (.bool (decide (L=e))) c)))):
  Pure P 186 #[.agg #[.string L,I p,.slice A a b,.string M,.string N,I q,I r],(.pointer (some d))] w R:=
 pr mP.cx func186 h

def qA.cx:Pm:=([],[(5,3,5),(13,3,5)])
theorem qA.vc
  (h:(Br (r=2) (Br (p≥q) (∀o,Ext w.heap.size [] w o->(R (I 2) o)) (∀s,Ext w.heap.size [] w s->(Pure P 228 #[I p] s (Rb fun G t=>(Br (G=false) (R (I 2) t) (Pure P 228 #[I q] t (Rb fun H u=>(Br (H=false) (R (I 2) u) (R (I 0) u))))))))) (Br (r=3) (∀v,Ext w.heap.size [] w v->(Pure P 228 #[I p] v (Rb fun J j=>(Br (J=false) (R (I 2) j) (∀l:Nat,w.heap.size<=l->j.heap[l]? =some (.cells [.string L,I r,.slice A a b,.string M,.string N,I p,I q].toArray 103 (0,0))->(Pure P 229 #[.slice D e f,(.func (.func 230) #[] #[(.pointer (some (⟨l,0,none⟩:Addr)))])] j (Rb fun K x=>(Br (K=false) (R (I 7) x) (R (I 0) x))))))))) (Br (q≠0) (∀y,Ext w.heap.size [] w y->(R (I 2) y)) (∀m,Ext w.heap.size [] w m->(∀n:Nat,w.heap.size<=n->m.heap[n]? =some (.cells [.string L,I r,.slice A a b,.string M,.string N,I p,I q].toArray 103 (0,0))->(Pure P 231 #[.slice C c d,(.func (.func 232) #[] #[(.pointer (some (⟨n,0,none⟩:Addr)))])] m (Rb fun O z=>(Br (O=false) (R (I 7) z) (R (I 0) z)))))))))):
  Pure P 187 #[.agg #[.slice C c d,.slice D e f,.slice E g i],.agg #[.string L,I r,.slice A a b,.string M,.string N,I p,I q]] w R:=
 pr qA.cx func187 h

def mQ.cx:Pm:=([],[])
theorem mQ.vc{b:Addr}
  (h:(∀a,Ext w.heap.size [] w a->(∃c,aa a b [I c]/\(R (.bool (decide (p=c))) a)))):
  Pure P 191 #[.agg #[I p,I q,I r,.string L,.string M,.string N,.string N0],(.pointer (some b))] w R:=
 pr mQ.cx func191 h

def mR.cx:Pm:=([],[])
theorem mR.vc
  (h:(Br (p≥(1:Int)) (R (.bool (decide (p<=(9:Int)))) w) (R (.bool false) w))):
  Pure P 228 #[I p] w R:=
 pr mR.cx func228 h

def mS.cx:Pm:=([],[])
theorem mS.vc{b:Addr}
  (h:(∀a,Ext w.heap.size [] w a->(∃c,aa a (b.add 6) [I c]/\(R (.bool (decide (p=c))) a)))):
  Pure P 230 #[.agg #[I p,.string L,.string M,.string N,.string N0,.string N1,.string N2],(.pointer (some b))] w R:=
 pr mS.cx func230 h

def mT.cx:Pm:=([],[])
theorem mT.vc{b:Addr}
  (h:(∀a,Ext w.heap.size [] w a->(∃c,aa a (b.add 5) [I c]/\(R (.bool (decide (p=c))) a)))):
  Pure P 232 #[.agg #[I p,I q,I r,.string L,.string M,.string N,.string N0],(.pointer (some b))] w R:=
 pr mT.cx func232 h

end Go.Proofs.YtbcojgcjjpggnaaGreatDoor.F

namespace Go.Proofs.YtbcojgcjjpggnaaGreatDoor.B
open Go Go.RowKit Go.Proofs Go.Proofs.YtbcojgcjjpggnaaGreatDoor.Vc

theorem Rl{w:World}{x y:Rat}(hg:bk w)(hx:kG x)(hy:kG y):Pure Tryz.prog 143 #[.string (rS x),.string (rS y)] w fun v _=>v= .string (rS (x+y)):=by
 refine F.uy.vc (pm (iH hg hx hy) ?_);rintro v a _ rfl;exact⟨_,_,rfl,rfl⟩
theorem IA{w:World}{x y:Rat}(hg:bk w)(hx:kG x)(hy:kG y):Pure Tryz.prog 141 #[.string (rS x),.string (rS y)] w fun v _=>v= .string (rS (x - y)):=by
 refine F.ux.vc (pm (jU hg hx hy) ?_);rintro v a _ rfl;exact⟨_,_,rfl,rfl⟩
theorem Rn{w:World}{x y:Rat}(hg:bk w)(hx:kG x)(hy:kG y):Pure Tryz.prog 144 #[.string (rS x),.string (rS y)] w fun v _=>v= .string (rS (x*y)):=by
 refine F.uz.vc (pm (iI hg hx hy) ?_);rintro v a _ rfl;exact⟨_,_,rfl,rfl⟩
theorem oT{w:World}{x y:Rat}(hg:bk w)(hx:kG x)(hy:kG y):Pure Tryz.prog 140 #[.string (rS x),.string (rS y)] w fun v _=>v= .int .i64 (gp x y):=by
 refine F.oF.vc (pm (eC hg hx hy) ?_);rintro v a _ rfl;exact⟨_,_,rfl,rfl⟩
theorem NG{w:World}{x:Rat}(hg:bk w)(h:kG x):Pure Tryz.prog 86 #[.string (rS x)] w fun v _=>v= .int .i64 (gp x 0):=by
 refine F.sK.vc ?_;rw[s0];refine pm (oT hg h (Sm.zero om)) ?_;rintro v a _ rfl;exact⟨_,rfl,rfl⟩
theorem rD{w:World}(hg:bk w){s:ByteArray}(hs:mc s):Pure Tryz.prog 71 #[.string s] w fun v _=>v= .bool (vR s):=by
 refine pm (dU hg s (dT hs dc)) ?_;rintro v a _ rfl;unfold vR;cases lX (cM s)<;>rfl
theorem pI{s:ByteArray}:s=⟨#[]⟩↔s.size=0:=by
 constructor
 ·rintro rfl;rfl
 ·intro h;obtain⟨d⟩:=s;have:d.size=0:=h;rw[Array.eq_empty_of_size_eq_zero this]
theorem Cr{w:World}(hg:bk w){s:ByteArray}(hs:mc s):Pure Tryz.prog 185 #[.string s] w fun v _=>v= .bool (eV s):=by
 refine F.qz.vc ⟨fun h=> ?_,fun h=> ?_⟩
 ·unfold eV;rw[fi (pI.1 h)];rfl
 ·refine pm (rD hg hs) ?_;rintro v a _ rfl;refine⟨_,rfl,?_⟩;unfold eV;rw[ep (fun k=>h (pI.2 k))];rfl
theorem Ek{s:ByteArray}(h:eV s=true)(a:¬s.size=0):vR s=true:=by
 unfold eV at h;rw[ep a]at h;exact h

theorem IB{w0:World}{A:Option Addr}{n c:Nat}{l:List Rm}(hl:bR w0 A 7 (l.map Rm.row))(hlen:l.length=n)(hn:n<2147483648){f:Nat}{a k:Array Value}(cB:az Tryz.prog f=true){p:Rm->Bool}
  (hf:∀w,Below w0.heap.size w0 w->∀x∈l,Pure Tryz.prog f (a.toList++([x.val]:List Value)++k.toList).toArray w fun v _=>v= .bool (p x)) {R:Value->World->Prop} {r:Int} (g:∀w,Below w0.heap.size w0 w->R (.int .i64 r) w):
  ∀(d i:Nat)(w:World),n - i=d->i<=n->Below w0.heap.size w0 w->r=fD p i (l.drop i)->F.aA.L2 A n c f a k n i w0.heap.size w R:=by
 intro d;induction d with
 |zero=>
  intro i w q hi hw b;rw[de om]at b;subst b;exact F.aA.L2.step ⟨fun h=>by omega,fun _=>g w hw⟩
 |succ d ih=>
  intro i w q hi hw b;have j:i<l.length:=om;rw[dp j,fD]at b;obtain⟨hb,y,z,e,_⟩:=(hl.av hw lf).at_ (fun _=>rfl) hlen j;refine F.aA.L2.step ⟨fun _=> ?_,fun h=>by omega⟩;refine⟨hb,y,z,_,_,_,_,_,_,_,_,_,e,cB,pm (hf w hw l[i] (bA _)) ?_⟩;rintro v m o rfl;refine⟨_,rfl,fun h=> ?_,fun h=>⟨ir,?_⟩⟩
  ·rw[bm h]at b;subst b;exact g m (kP hw o)
  ·rw[aq (by simp[h])]at b;have B:=sc i;rw[B];exact ih (i+1) m om om (kP hw o) b
theorem Ro{w0:World}{A:Option Addr}{n c:Nat}{l:List Rm}(hl:bR w0 A 7 (l.map Rm.row))(hlen:l.length=n)(hn:n<2147483648){f:Nat}{a k:Array Value}(cB:az Tryz.prog f=true){p:Rm->Bool}
  (hf:∀w,Below w0.heap.size w0 w->∀x∈l,Pure Tryz.prog f (a.toList++([x.val]:List Value)++k.toList).toArray w fun v _=>v= .bool (p x)):
  Pure Tryz.prog 168 #[.slice A n c,.func (.func f) a k] w0 fun v _=>v= .bool (l.any p):=by
 refine F.cR.vc (pm (F.aA.vc (IB hl hlen hn cB hf (R:=fun v _=>v= .int .i64 (fD p 0 l)) (fun _ _=>rfl) n 0 w0 rfl om (Below.refl _ _) rfl)) ?_);rintro v b _ rfl;exact⟨_,rfl,by dsimp only;rw[sE]⟩
theorem US{w0:World}{A:Option Addr}{n c:Nat}{l:List ByteArray}(hl:bR w0 A 1 (l.map gi))(hlen:l.length=n)(hn:n<2147483648){f:Nat}{a k:Array Value}(cB:az Tryz.prog f=true){p:ByteArray->Bool}
  (hf:∀w,Below w0.heap.size w0 w->∀x∈l,Pure Tryz.prog f (a.toList++([.string x]:List Value)++k.toList).toArray w fun v _=>v= .bool (p x)):
  Pure Tryz.prog 183 #[.slice A n c,.func (.func f) a k] w0 fun v _=>v= .bool (l.any p):=by
 refine F.cZ.vc (pm (F.aR.vc (BY hl hlen hn cB hf (R:=fun v _=>v= .int .i64 (fD p 0 l)) (fun _=>rfl) n 0 w0 rfl om (Below.refl _ _) rfl)) ?_);rintro v b _ rfl;exact⟨_,rfl,by dsimp only;rw[sE]⟩
end Go.Proofs.YtbcojgcjjpggnaaGreatDoor.B

set_option maxRecDepth 100000
set_option maxHeartbeats 4000000
namespace Go.Proofs.YtbcojgcjjpggnaaGreatDoor.F
open Go Go.RowKit Go.Proofs Go.Proofs.YtbcojgcjjpggnaaGreatDoor.Vc
open Tryz
variable {A C D E G H J K A0 A1 A2 A3 A4 A5 A6 A7 A8 A9 C0 C1 C2 C3 C4 C5 C6 C7 C8 C9:O} {a b c d e f g i j l m n o a0 a1 a2 a3 a4 a5 a6 a7 a8 a9 b0 b1 b2 b3 b4 b5 b6 b7 b8 b9 c0 c1 c2 c3 c4 c5 c6 c7 c8 c9:Nat} {p q r s t u v x p0 p1 p2 p3 p4 p5 p6 p7 p8 p9 q0 q1 q2 q3 q4 q5 q6 q7 q8 q9:Int} {L M N N0 N1 N2 N3 N4 N5 N6 N7 N8 N9 T0 T1 T2 T3 T4 T5 T6 T7 T8 T9:ByteArray} {Q S:Bool} {B:Nat} {w:World} {R:Kt}
def cN.tn(a:O)(b c:Nat)(d:O)(e f:Nat)(g:Addr)(i:Option Nat)(j:O)(l m:Nat)(n:O)(o p:Nat)(q r:Int):=Lt 30 f30 13 [vS 0 a b c,vS 2 d e f,(7,.v (.pointer (some g))),(11,.v (.map i)),vS 12 j l m,vS 44 n o p,vI 45 q,vI 46 r] []
def cN.cx:Pm:=([((true,13),[0,2,7,11,12,44,45,46],[])],[(7,1,5),(10,0,2),(10,1,5),(10,2,2),(10,4,2),(10,6,2),(10,8,2),(10,10,2),(14,3,2),(15,9998,8),(17,3,2),(17,5,4)])
theorem cN.tn.step{m:Addr}{n:Option Nat}
  (h:(Br (p<q) (Ix p f E fun g8=>(∃d0 d1 d2,aa w (g8.add ((p).toNat*3)) [I d0,I d1,I d2]/\(ae P (Instr.alloc 84 true (.tuple #[])) B [] w fun g9 d3=>∃(l:Addr),g9= .pointer (some l)/\(∃(H:List Value)(J:Nat),B<=l.block/\l.spot=none/\d3.heap[l.block]? =some (.cells H.toArray J (0,0))/\l.off+3<=H.length/\hasType J []=false/\∀x,aC d3 x l.block J (setCells H l.off [I d0,I d1,I d2])->(Ix p b C fun j0=>(∃d4 d5 d6 d7 d8 d9 k F,aa x (j0.add ((p).toNat*8)) [I d4,I d5,I d6,I d7,.bool d8,.string d9,.string k,.string F]/\(∃W e3 e4,aa x l [I W,I e3,I e4]/\(∃e5,aa x m [I e5]/\(∀e6,Ext B [] x e6->(Pure P 81 #[.agg #[I d4,I d5,I d6,I d7,.bool d8,.string d9,.string k,.string F],.agg #[I W,I e3,I e4],.slice D c d,I e5] e6 fun j1 e7=>∃o r s t e8,j1= .tuple #[.agg #[.bool o,.bool r,.bool s,.bool t],.bool e8]/\(Br (e8=false) (aS .i64 (p+1)/\(∀e9,Ext B [154] e7 e9->(cN.tn C b g D c d m n A a e E f i q (p+1) B e9 R))) (∀K,Ext B [154] e7 K->(∃g0,aa K (l.add 1) [I g0]/\(ae P (Instr.lookup 156 (.map n) (I g0) false) B [154] K fun j2 j3=>∃(L:Nat)(g1 g2:Array Value),j2= .func (.func L) g1 g2/\(az P L=true/\(Pure P L ((Array.toList g1)++([.agg #[.bool o,.bool r,.bool s,.bool t]]:List Value)++(Array.toList g2)).toArray j3 (Ri fun M y=>(∃g3,aa y (l.add 1) [I g3]/\(Br (M≠g3) (Ix p a A fun j=>((∀z,Ext B [] y z->(∃g4,aa z m [I g4]/\(∃(N:List Value)(O:Nat),B<=((j.add ((p).toNat*3)).add 1).block/\((j.add ((p).toNat*3)).add 1).spot=none/\z.heap[((j.add ((p).toNat*3)).add 1).block]? =some (.cells N.toArray O (0,0))/\((j.add ((p).toNat*3)).add 1).off+1<=N.length/\hasType O [⟨15,false,154,[.bool o,.bool r,.bool s,.bool t]⟩]=false/\∀Q,aC z Q ((j.add ((p).toNat*3)).add 1).block O (setCells N ((j.add ((p).toNat*3)).add 1).off [I M])->(Ix p a A fun u=>(∃(S:List Value)(T:Nat),B<=((u.add ((p).toNat*3)).add 2).block/\((u.add ((p).toNat*3)).add 2).spot=none/\Q.heap[((u.add ((p).toNat*3)).add 2).block]? =some (.cells S.toArray T (0,0))/\((u.add ((p).toNat*3)).add 2).off+1<=S.length/\hasType T [⟨15,false,154,[.bool o,.bool r,.bool s,.bool t]⟩]=false/\∀g5,aC Q g5 ((u.add ((p).toNat*3)).add 2).block T (setCells S ((u.add ((p).toNat*3)).add 2).off [I g4])->(aS .i64 (p+1)/\(cN.tn C b g D c d m n A a e E f i q (p+1) B g5 R)))))))/\(∀U,Ext B [] y U->(∃(V:List Value)(X:Nat),B<=((j.add ((p).toNat*3)).add 1).block/\((j.add ((p).toNat*3)).add 1).spot=none/\U.heap[((j.add ((p).toNat*3)).add 1).block]? =some (.cells V.toArray X (0,0))/\((j.add ((p).toNat*3)).add 1).off+1<=V.length/\hasType X [⟨15,false,154,[.bool o,.bool r,.bool s,.bool t]⟩]=false/\∀G,aC U G ((j.add ((p).toNat*3)).add 1).block X (setCells V ((j.add ((p).toNat*3)).add 1).off [I M])->(∃g6,aa G m [I g6]/\(Ix p a A fun v=>(∃(Y:List Value)(Z:Nat),B<=((v.add ((p).toNat*3)).add 2).block/\((v.add ((p).toNat*3)).add 2).spot=none/\G.heap[((v.add ((p).toNat*3)).add 2).block]? =some (.cells Y.toArray Z (0,0))/\((v.add ((p).toNat*3)).add 2).off+1<=Y.length/\hasType Z [⟨15,false,154,[.bool o,.bool r,.bool s,.bool t]⟩]=false/\∀g7,aC G g7 ((v.add ((p).toNat*3)).add 2).block Z (setCells Y ((v.add ((p).toNat*3)).add 2).off [I g6])->(aS .i64 (p+1)/\(cN.tn C b g D c d m n A a e E f i q (p+1) B g7 R))))))))) (aS .i64 (p+1)/\(cN.tn C b g D c d m n A a e E f i q (p+1) B y R))))))))))))))))))))) (R (.tuple #[.slice A a e,I 0]) w))):
  cN.tn C b g D c d m n A a e E f i q p B w R:=
 lr cN.cx func30 h
theorem cN.vc
  (h:(∀n,Ext w.heap.size [] w n->(Pure P 68 #[.slice C d e,.slice A a b] n (Rb fun t o=>(Br (t=false) (R (.tuple #[.slice none 0 0,I 1]) o) (Pure P 69 #[.slice D c f,(.func (.func 70) #[] #[])] o (Rb fun u l=>(Bb u (R (.tuple #[.slice none 0 0,I 1]) l) (Br ((c:Int)>16) (R (.tuple #[.slice none 0 0,I 8]) l) (Pure P 72 #[I p] l (Rb fun v m=>(Br (v=false) (R (.tuple #[.slice none 0 0,I 2]) m) (∀j:Nat,w.heap.size<=j->m.heap[j]? =some (.cells [I p].toArray 3 (0,0))->(Pure P 73 #[.slice A a b,(.func (.func 74) #[] #[(.pointer (some (⟨j,0,none⟩:Addr)))])] m (Rb fun x q=>(Bb x (R (.tuple #[.slice none 0 0,I 5]) q) (∀r,Ext w.heap.size [] q r->(ae P (Instr.makeMap 156 none) w.heap.size [152] r fun y s=>∃(g:Option Nat),y= .map g/\(∀i:Nat,w.heap.size<=i->s.heap[i]? =some (.cells [(.func (.func 75) #[] #[])].toArray 152 (0,0))->(dY P (Instr.mapUpdate 156 (.map g) (I 0) (.func (.func 76) #[] #[(.pointer (some (⟨i,0,none⟩:Addr)))])) w.heap.size [] s fun z=>(dY P (Instr.mapUpdate 156 (.map g) (I 1) (.func (.func 77) #[] #[(.pointer (some (⟨i,0,none⟩:Addr)))])) w.heap.size [] z fun E=>(dY P (Instr.mapUpdate 156 (.map g) (I 2) (.func (.func 78) #[] #[(.pointer (some (⟨i,0,none⟩:Addr)))])) w.heap.size [] E fun G=>(dY P (Instr.mapUpdate 156 (.map g) (I 3) (.func (.func 79) #[] #[(.pointer (some (⟨i,0,none⟩:Addr)))])) w.heap.size [] G fun H=>(dY P (Instr.mapUpdate 156 (.map g) (I 4) (.func (.func 80) #[] #[(.pointer (some (⟨i,0,none⟩:Addr)))])) w.heap.size [] H fun J=>(Pure P 32 #[.slice A a b] J (Rs fun K L M N=>(cN.tn C d e D c f (⟨j,0,none⟩:Addr) g K L M A a b (a:Int) (0:Int) w.heap.size N R))))))))))))))))))))))))))):
  Pure P 30 #[.slice C d e,.slice A a b,.slice D c f,I p] w R:=
 pr cN.cx func30 h

def mU.cx:Pm:=([],[])
theorem mU.vc
  (h:(Pure P 73 #[.slice A a b,(.func (.func 82) #[] #[])] w (Rb fun c d=>(R (.bool c) d)))):
  Pure P 34 #[.slice A a b] w R:=
 pr mU.cx func34 h

def eA.L5(a:O)(b c:Nat)(d:O)(e f:Nat)(g i:Int):=Lt 68 f68 5 [vS 0 a b c,vS 23 d e f,vI 24 g,vI 25 i] []
def eA.cx:Pm:=([((true,5),[0,23,24,25],[])],[(7,9999,3)])
theorem eA.L5.step
  (h:(Br (p<q) (Ix p b C fun s=>(∃g f i,aa w (s.add ((p).toNat*3)) [I g,I f,I i]/\(∀e,Ext B [] w e->(Ix p a A fun t=>(∃j,aa e ((t.add ((p).toNat*8)).add 0) [I j]/\(Br (g≠j) (∀l,Ext B [] e l->(R (.bool false) l)) (Br (f<0) (∀m,Ext B [] e m->(R (.bool false) m)) (Br (f>4) (∀n,Ext B [] e n->(R (.bool false) n)) (∀o,Ext B [] e o->(Pure P 72 #[I i] o (Rb fun u r=>(Br (u=false) (R (.bool false) r) (aS .i64 (p+1)/\(eA.L5 A a c C b d q (p+1) B r R)))))))))))))) (R (.bool true) w))):
  eA.L5 A a c C b d q p B w R:=
 lr eA.cx func68 h
theorem eA.vc
  (h:(Pure P 132 #[.slice A a c] w (Rii fun g f e=>(Br (f≠0) (R (.bool false) e) (Br ((a:Int)≠(b:Int)) (R (.bool false) e) (eA.L5 A a c C b d (b:Int) (0:Int) w.heap.size e R)))))):
  Pure P 68 #[.slice A a c,.slice C b d] w R:=
 pr eA.cx func68 h

def qB.cx:Pm:=([],[])
theorem qB.vc
  (h:(∀a,Ext w.heap.size [] w a->(Pure P 71 #[.string L] a (Rb fun b c=>(R (.bool (decide (b=false))) c))))):
  Pure P 70 #[.agg #[I p,I q,I r,.string L]] w R:=
 pr qB.cx func70 h

def jM.cx:Pm:=([],[])
theorem jM.vc
  (h:(Br (p≥(0:Int)) (R (.bool (decide (p<=(1073741824:Int)))) w) (R (.bool false) w))):
  Pure P 72 #[I p] w R:=
 pr jM.cx func72 h

def qC.cx:Pm:=([],[])
theorem qC.vc{b:Addr}
  (h:(∀a,Ext w.heap.size [] w a->(∃c,aa a b [I c]/\(R (.bool (decide (p>c))) a)))):
  Pure P 74 #[.agg #[I q,I r,I p],(.pointer (some b))] w R:=
 pr qC.cx func74 h

def qD.cx:Pm:=([],[])
theorem qD.vc
  (h:(Bb Q (R (I p) w) (R (I q) w))):
  Pure P 75 #[.bool Q,I p,I q] w R:=
 pr qD.cx func75 h

def qE.cx:Pm:=([],[(1,6,4),(1,7,4),(1,9999,3)])
theorem qE.vc{e n o f:Bool}{b:Addr}
  (h:(∀a,Ext w.heap.size [] w a->(∃(c:Nat)(g i:Array Value),aa a b [(.func (.func c) g i)]/\(∃(d:Nat)(j l:Array Value),aa a b [(.func (.func d) j l)]/\(az P d=true/\(∀m,Ext w.heap.size [] a m->(Pure P d ((Array.toList j)++([.bool f,I 1,I 2]:List Value)++(Array.toList l)).toArray m (Ri fun p q=>(az P c=true/\(Pure P c ((Array.toList g)++([.bool e,I p,I 0]:List Value)++(Array.toList i)).toArray q (Ri fun r s=>(R (I r) s)))))))))))):
  Pure P 76 #[.agg #[.bool e,.bool n,.bool o,.bool f],(.pointer (some b))] w R:=
 pr qE.cx func76 h

def qF.cx:Pm:=([],[(1,6,4),(1,7,4),(1,9999,3)])
theorem qF.vc{e n f o:Bool}{b:Addr}
  (h:(∀a,Ext w.heap.size [] w a->(∃(c:Nat)(g i:Array Value),aa a b [(.func (.func c) g i)]/\(∃(d:Nat)(j l:Array Value),aa a b [(.func (.func d) j l)]/\(az P d=true/\(∀m,Ext w.heap.size [] a m->(Pure P d ((Array.toList j)++([.bool f,I 2,I 1]:List Value)++(Array.toList l)).toArray m (Ri fun p q=>(az P c=true/\(Pure P c ((Array.toList g)++([.bool e,I p,I 0]:List Value)++(Array.toList i)).toArray q (Ri fun r s=>(R (I r) s)))))))))))):
  Pure P 77 #[.agg #[.bool e,.bool n,.bool f,.bool o],(.pointer (some b))] w R:=
 pr qF.cx func77 h

def qG.cx:Pm:=([],[(1,3,4)])
theorem qG.vc{g c i j:Bool}{d:Addr}
  (h:(∀a,Ext w.heap.size [] w a->(∃(b:Nat)(e f:Array Value),aa a d [(.func (.func b) e f)]/\(az P b=true/\(Pure P b ((Array.toList e)++([.bool c,I 4,I 2]:List Value)++(Array.toList f)).toArray a (Ri fun l m=>(R (I l) m))))))):
  Pure P 78 #[.agg #[.bool g,.bool c,.bool i,.bool j],(.pointer (some d))] w R:=
 pr qG.cx func78 h

def qH.cx:Pm:=([],[(1,3,4)])
theorem qH.vc{g c i j:Bool}{d:Addr}
  (h:(∀a,Ext w.heap.size [] w a->(∃(b:Nat)(e f:Array Value),aa a d [(.func (.func b) e f)]/\(az P b=true/\(Pure P b ((Array.toList e)++([.bool c,I 0,I 3]:List Value)++(Array.toList f)).toArray a (Ri fun l m=>(R (I l) m))))))):
  Pure P 79 #[.agg #[.bool g,.bool c,.bool i,.bool j],(.pointer (some d))] w R:=
 pr qH.cx func79 h

def qI.cx:Pm:=([],[(1,3,4)])
theorem qI.vc{c g i j:Bool}{d:Addr}
  (h:(∀a,Ext w.heap.size [] w a->(∃(b:Nat)(e f:Array Value),aa a d [(.func (.func b) e f)]/\(az P b=true/\(Pure P b ((Array.toList e)++([.bool c,I 2,I 4]:List Value)++(Array.toList f)).toArray a (Ri fun l m=>(R (I l) m))))))):
  Pure P 80 #[.agg #[.bool c,.bool g,.bool i,.bool j],(.pointer (some d))] w R:=
 pr qI.cx func80 h

def fj.J7(a:Int)(b:Addr)(c d e f g:Int)(i j l m:Bool):=Jt 81 f81 7 [vI 3 a,(4,.v (.pointer (some b))),vL 5,vL 8,vI 11 c,vI 12 d] [⟨5,false,84,[(I e),(I f),(I g)]⟩,⟨8,false,154,[(.bool i),(.bool j),(.bool l),(.bool m)]⟩]
def fj.cx:Pm:=([((false,7),[3,4,5,8,11,12],[5,8])],[(1,1,5)])
theorem fj.J7.step{a:Addr}{e f g i:Bool}
  (h:(aS .i64 (p - q)/\(∃b,aa w (a.add 3) [I b]/\(∃c,aa w (a.add 3) [I c]/\(∀d,Ext B [154] w d->(R (.tuple #[(.agg #[(.bool (decide (r>0))),(.bool (decide (s<=(0:Int)))),(.bool (decide (((p - q):Int)≥b))),(.bool (decide (c>0)))]),.bool true]) d)))))):
  fj.J7 p a r s t u q e f g i B w R:=
 jr fj.cx func81 h
theorem fj.vc
  (h:(∀f,Ext w.heap.size [] w f->(∀c:Nat,w.heap.size<=c->f.heap[c]? =some (.cells [I t,I u,I v,I x,.bool Q,.string L,.string M,.string N].toArray 90 (0,0))->(Pure P 133 #[.slice A a b,(.func (.func 136) #[] #[(.pointer (some (⟨c,0,none⟩:Addr)))])] f (Ri fun e d=>(Br (e<0) (∀l,Ext w.heap.size [154] d l->(R (.tuple #[.agg #[.bool false,.bool false,.bool false,.bool false],.bool false]) l)) (Ix e a A fun G=>(∃m,aa d ((G.add ((e).toNat*4)).add 2) [I m]/\(Br (m≠1) (∀n,Ext w.heap.size [154] d n->(R (.tuple #[.agg #[.bool false,.bool false,.bool false,.bool false],.bool false]) n)) (Ix e a A fun H=>(∃o,aa d ((H.add ((e).toNat*4)).add 3) [.string o]/\(∃y,aa d ((⟨c,0,none⟩:Addr).add 5) [.string y]/\(Ix e a A fun J=>(∃z,aa d ((J.add ((e).toNat*4)).add 3) [.string z]/\(∃C,aa d ((⟨c,0,none⟩:Addr).add 6) [.string C]/\(∀D,Ext w.heap.size [] d D->(Pure P 137 #[.string o,.string y] D (Ri fun g K=>(Pure P 137 #[.string z,.string C] K (Ri fun i j=>(∃E,aa j ((⟨c,0,none⟩:Addr).add 4) [.bool E]/\(Br (E=false) (aS .i64 (-g)/\(aS .i64 (-i)/\(fj.J7 s (⟨c,0,none⟩:Addr) (-g) (-i) p q r false false false false w.heap.size j R))) (fj.J7 s (⟨c,0,none⟩:Addr) g i p q r false false false false w.heap.size j R))))))))))))))))))))))):
  Pure P 81 #[.agg #[I t,I u,I v,I x,.bool Q,.string L,.string M,.string N],.agg #[I p,I q,I r],.slice A a b,I s] w R:=
 pr fj.cx func81 h

def qJ.cx:Pm:=([],[])
theorem qJ.vc
  (h:(Br (p=2) (∀a,Ext w.heap.size [] w a->(R (.bool true) a)) (∀b,Ext w.heap.size [] w b->(R (.bool (decide (p=4))) b)))):
  Pure P 82 #[.agg #[I q,I p,I r]] w R:=
 pr qJ.cx func82 h

def dH.L4(a:O)(b c:Nat)(d e:Int):=Lt 132 f132 4 [vS 0 a b c,vI 10 d,vI 11 e] []
def dH.cx:Pm:=([((true,4),[0,10,11],[])],[])
theorem dH.L4.step
  (h:(Br (p<q) (Pure P 175 #[.slice A a b,I p] w (Ri fun c d=>(Br (c≠0) (R (.tuple #[I p,I c]) d) (aS .i64 (p+1)/\(dH.L4 A a b q (p+1) B d R))))) (R (.tuple #[(I (-1:Int)),I 0]) w))):
  dH.L4 A a b q p B w R:=
 lr dH.cx func132 h
theorem dH.vc
  (h:(Br ((a:Int)>32) (R (.tuple #[(I (-1:Int)),I 8]) w) (dH.L4 A a b (a:Int) (0:Int) w.heap.size w R))):
  Pure P 132 #[.slice A a b] w R:=
 pr dH.cx func132 h

def qK.cx:Pm:=([],[])
theorem qK.vc{b:Addr}
  (h:(∀a,Ext w.heap.size [] w a->(∃c,aa a (b.add 1) [I c]/\(R (.bool (decide (p=c))) a)))):
  Pure P 136 #[.agg #[I p,I q,I r,.string L],(.pointer (some b))] w R:=
 pr qK.cx func136 h

def gT.cx:Pm:=([],[])
theorem gT.vc
  (h:(Pure P 155 #[.string L,.string M] w (Rii fun a c b=>(R (I a) b)))):
  Pure P 137 #[.string L,.string M] w R:=
 pr gT.cx func137 h

def rE.cx:Pm:=([],[(3,1,5)])
theorem rE.vc
  (h:(∀K,Ext w.heap.size [] w K->(Pure P 68 #[.slice C b c,.slice A a d] K (Rb fun S r=>(Br (S=false) (R (.tuple #[.slice none 0 0,I 1]) r) (∀s:Nat,w.heap.size<=s->r.heap[s]? =some (.cells [I q].toArray 3 (0,0))->(Pure P 219 #[.slice C b c,(.func (.func 220) #[] #[(.pointer (some (⟨s,0,none⟩:Addr)))])] r (Ri fun e L=>(Br (e<0) (R (.tuple #[.slice none 0 0,I 7]) L) (Pure P 72 #[I p] L (Rb fun T o=>(Br (T=false) (R (.tuple #[.slice none 0 0,I 2]) o) (Ix e a A fun U=>(∃M,aa o ((U.add ((e).toNat*3)).add 2) [I M]/\(Br (p<M) (R (.tuple #[.slice none 0 0,I 5]) o) (Pure P 32 #[.slice A a d] o (Rs fun f g N i=>(Ix e g f fun V=>(∃t,aa i ((V.add ((e).toNat*3)).add 1) [I t]/\(Br (t=2) (Ix e g f fun j=>(∃(u:List Value)(v:Nat),w.heap.size<=((j.add ((e).toNat*3)).add 1).block/\((j.add ((e).toNat*3)).add 1).spot=none/\i.heap[((j.add ((e).toNat*3)).add 1).block]? =some (.cells u.toArray v (0,0))/\((j.add ((e).toNat*3)).add 1).off+1<=u.length/\hasType v []=false/\∀x,aC i x ((j.add ((e).toNat*3)).add 1).block v (setCells u ((j.add ((e).toNat*3)).add 1).off [I 3])->(Ix e g f fun l=>(∃(y:List Value)(z:Nat),w.heap.size<=((l.add ((e).toNat*3)).add 2).block/\((l.add ((e).toNat*3)).add 2).spot=none/\x.heap[((l.add ((e).toNat*3)).add 2).block]? =some (.cells y.toArray z (0,0))/\((l.add ((e).toNat*3)).add 2).off+1<=y.length/\hasType z []=false/\∀O,aC x O ((l.add ((e).toNat*3)).add 2).block z (setCells y ((l.add ((e).toNat*3)).add 2).off [I p])->(R (.tuple #[.slice f g N,I 0]) O))))) (Br (t=4) (Ix e g f fun m=>(∃(D:List Value)(E:Nat),w.heap.size<=((m.add ((e).toNat*3)).add 1).block/\((m.add ((e).toNat*3)).add 1).spot=none/\i.heap[((m.add ((e).toNat*3)).add 1).block]? =some (.cells D.toArray E (0,0))/\((m.add ((e).toNat*3)).add 1).off+1<=D.length/\hasType E []=false/\∀G,aC i G ((m.add ((e).toNat*3)).add 1).block E (setCells D ((m.add ((e).toNat*3)).add 1).off [I 0])->(Ix e g f fun n=>(∃(H:List Value)(J:Nat),w.heap.size<=((n.add ((e).toNat*3)).add 2).block/\((n.add ((e).toNat*3)).add 2).spot=none/\G.heap[((n.add ((e).toNat*3)).add 2).block]? =some (.cells H.toArray J (0,0))/\((n.add ((e).toNat*3)).add 2).off+1<=H.length/\hasType J []=false/\∀Q,aC G Q ((n.add ((e).toNat*3)).add 2).block J (setCells H ((n.add ((e).toNat*3)).add 2).off [I p])->(R (.tuple #[.slice f g N,I 0]) Q))))) (R (.tuple #[.slice none 0 0,I 11]) i)))))))))))))))))))))):
  Pure P 174 #[.slice C b c,.slice A a d,I q,I p] w R:=
 pr rE.cx func174 h

def nQ.cx:Pm:=([],[])
theorem nQ.vc
  (h:(Ix p a A fun O=>(∃d g i o f j l q,aa w (O.add ((p).toNat*8)) [I d,I g,I i,I o,.bool f,.string j,.string l,.string q]/\(∀r,Ext w.heap.size [] w r->(Pure P 71 #[.string j] r (Rb fun Q s=>(Br (Q=false) (R (I 1) s) (Pure P 71 #[.string l] s (Rb fun S m=>(Br (S=false) (R (I 1) m) (Br (((ByteArray.size q:Int):Int)>64) (R (I 4) m) (Pure P 137 #[.string l,.string j] m (Ri fun n e=>(Br (d<1) (R (I 2) e) (Br (d>1073741824) (R (I 2) e) (Br (g<1) (R (I 2) e) (Br (g>1073741824) (R (I 2) e) (Br (i<1) (R (I 2) e) (Br (i>3) (R (I 2) e) (Pure P 72 #[I o] e (Rb fun T c=>(Br (T=false) (R (I 2) c) (Bb f (Br (n>0) (R (I 2) c) (Br (f=false) (Br (n<0) (R (I 2) c) (Br (p>0) (aS .i64 (p - (1:Int))/\(Ix (p - (1:Int)) a A fun U=>(∃t,aa c ((U.add (((p - (1:Int))).toNat*8)).add 0) [I t]/\(Br (t≥d) (∀u,Ext w.heap.size [] c u->(R (I 5) u)) (∀v,Ext w.heap.size [] c v->(R (I 0) v)))))) (∀x,Ext w.heap.size [] c x->(R (I 0) x)))) (Br (p>0) (aS .i64 (p - (1:Int))/\(Ix (p - (1:Int)) a A fun V=>(∃y,aa c ((V.add (((p - (1:Int))).toNat*8)).add 0) [I y]/\(Br (y≥d) (∀z,Ext w.heap.size [] c z->(R (I 5) z)) (∀C,Ext w.heap.size [] c C->(R (I 0) C)))))) (∀D,Ext w.heap.size [] c D->(R (I 0) D))))) (Br (f=false) (Br (n<0) (R (I 2) c) (Br (p>0) (aS .i64 (p - (1:Int))/\(Ix (p - (1:Int)) a A fun X=>(∃E,aa c ((X.add (((p - (1:Int))).toNat*8)).add 0) [I E]/\(Br (E≥d) (∀G,Ext w.heap.size [] c G->(R (I 5) G)) (∀H,Ext w.heap.size [] c H->(R (I 0) H)))))) (∀J,Ext w.heap.size [] c J->(R (I 0) J)))) (Br (p>0) (aS .i64 (p - (1:Int))/\(Ix (p - (1:Int)) a A fun Y=>(∃K,aa c ((Y.add (((p - (1:Int))).toNat*8)).add 0) [I K]/\(Br (K≥d) (∀L,Ext w.heap.size [] c L->(R (I 5) L)) (∀M,Ext w.heap.size [] c M->(R (I 0) M)))))) (∀N,Ext w.heap.size [] c N->(R (I 0) N))))))))))))))))))))))))))):
  Pure P 175 #[.slice A a b,I p] w R:=
 pr nQ.cx func175 h

def sL.cx:Pm:=([],[])
theorem sL.vc{b:Addr}
  (h:(∀a,Ext w.heap.size [] w a->(∃c,aa a b [I c]/\(R (.bool (decide (p=c))) a)))):
  Pure P 220 #[.agg #[I p,I q,I r,I s,.bool Q,.string L,.string M,.string N],(.pointer (some b))] w R:=
 pr sL.cx func220 h

end Go.Proofs.YtbcojgcjjpggnaaGreatDoor.F

namespace Go.Proofs.YtbcojgcjjpggnaaGreatDoor.B
open Go Go.RowKit Go.Proofs Go.Proofs.YtbcojgcjjpggnaaGreatDoor.Vc

structure UT (a:Al):Prop where
 set:mc a.set
 reset:mc a.reset
 text:a.text.size<2147483648
def gn(p:Option Al)(a:Al):Int:=
 if ¬(vR a.set=true/\vR a.reset=true)then 1
 else if 64<a.text.size then 4
 else if(a.id<1∨1073741824<a.id∨a.chan<1∨1073741824<a.chan∨a.prio<1∨3<a.prio∨¬(0<=a.rC/\a.rC<=1073741824))∨(a.my=true/\qR a.set<qR a.reset)∨(a.my=false/\qR a.reset<qR a.set)then 2
 else if ∃q,p=some q/\a.id<=q.id then 5
 else 0
def Gj{α:Type}(f:Option α->α->Int):Option α->Nat->List α->Int×Int
 |_,_,[]=>(-1,0)
 |p,i,c::r=>if f p c≠0 then((i:Int),f p c)else Gj f (some c) (i+1) r
def sM(l:List Al):Int×Int:=if 32<l.length then(-1,8)else Gj gn none 0 l
def okL(a:Al)(x:Lp):Bool:=decide (x.we=a.id/\0<=x.state/\x.state<=4/\0<=x.since/\x.since<=1073741824)
def xT(l:List Al)(m:List Lp):Bool:=decide ((sM l).2=0)&&(decide (l.length=m.length)&&(l.zip m).all fun z=>okL z.1 z.2)
theorem gT{w:World}{s t:ByteArray}(hg:bk w)(hs:mc s)(h:vR s=true)(a:mc t)(k:vR t=true):Pure Tryz.prog 137 #[.string s,.string t] w fun v _=>v= .int .i64 (gp (qR s) (qR t)):=by
 refine F.gT.vc ?_;have:=eC hg (hs.xf h) (a.xf k);rw[<-gV h,<-gV k]at this;refine pm this ?_;rintro v b _ rfl;exact⟨_,_,rfl,rfl⟩
theorem jM(n:Int)(w:World):Pure Tryz.prog 72 #[.int .i64 n] w fun v _=>v= .bool (decide (0<=n/\n<=1073741824)):=by
 refine F.jM.vc ⟨fun h=> ?_,fun h=> ?_⟩
 ·congr 1
  simp;omega
 ·congr 1
  simp;omega
theorem nQ{w:World}(hg:bk w){A:Option Addr}{n c:Nat}{l:List Al}(hl:bR w A 8 (l.map Al.row))(hlen:l.length=n)(hn:n<2147483648){i:Nat}(hi:i<l.length)(r:UT l[i]):
  Pure Tryz.prog 175 #[.slice A n c,.int .i64 (i:Int)] w fun v _=>v= .int .i64 (gn (fm l i) l[i]):=by
 obtain⟨hb,L,M,g,_⟩:=hl.at_ (fun _=>rfl) hlen hi;have N:∀j,fm l i=some j->0<i:=fun j hj=>by
  unfold fm at hj;split at hj
  ·cases hj
  ·omega
 have G:∀h:i - 1<l.length,0<i->fm l i=some l[i - 1]:=fun h b=>by
  unfold fm;rw[aq om,af h]
 have z:∀w',Below w.heap.size w w'->0<i->∃h:i - 1<l.length,(0<=(i:Int) - 1/\(i:Int) - 1<n)/\∃a,A=some a/\aa w' ((a.add (((i:Int) - 1).toNat*8)).add 0) [.int .i64 l[i - 1].id]:=fun w' hw b=>by
  have h:i - 1<l.length:=om;obtain⟨q1,a,B,_,o⟩:=(hl.av hw lf).at_ (fun _=>rfl) hlen h;have e:((i - 1:Nat):Int)=(i:Int) - 1:=om;rw[e]at q1 o;exact⟨h,q1,a,B,o 0 _ rfl⟩
 generalize hx:l[i]=x at*;refine F.nQ.vc ⟨hb,L,M,_,_,_,_,_,_,_,_,g,fun X O=> ?_⟩;have H:=k0 O;refine pm (rD (hg.next H) r.set) ?_;rintro v Y P rfl;have I:=kP H P;have one:¬(vR x.set=true/\vR x.reset=true)->Value.int .i64 1= .int .i64 (gn (fm l i) x):=fun h=>by
  unfold gn;rw[bm h]
 refine⟨_,rfl,fun h=>one (fun k=>by rw[h]at k;exact absurd k.1 dc),fun h1=>pm (rD (hg.next I) r.reset) ?_⟩;rintro v Z Q rfl;have J:=kP I Q;refine⟨_,rfl,fun h=>one (fun k=>by rw[h]at k;exact absurd k.2 dc),fun R=> ?_⟩;have v1:vR x.set=true:=by simpa using h1
 have v2:vR x.reset=true:=by simpa using R
 have S:=r.text;refine⟨fun h=> ?_,fun h3=> ?_⟩
 ·unfold gn;rw[aq (fun k=>k ⟨v1,v2⟩),bm om]
 have two:(a:(x.id<1∨1073741824<x.id∨x.chan<1∨1073741824<x.chan∨x.prio<1∨3<x.prio∨¬(0<=x.rC/\x.rC<=1073741824))∨(x.my=true/\qR x.set<qR x.reset)∨(x.my=false/\qR x.reset<qR x.set))->Value.int .i64 2= .int .i64 (gn (fm l i) x):=fun h=>by
  unfold gn;rw[aq (fun k=>k ⟨v1,v2⟩),aq om,bm h]
 refine pm (gT (hg.next J) r.reset v2 r.set v1) ?_;rintro v T U rfl;have V:=kP J U;refine⟨_,rfl,fun h=>two om,fun i1=>⟨fun h=>two om,fun i2=>⟨fun h=>two om,fun i3=>⟨fun h=>two om,fun i4=>⟨fun h=>two om,fun i5=>⟨fun h=>two om,fun i6=>pm (jM _ T) ?_⟩⟩⟩⟩⟩⟩;rintro v K W rfl;have C:=kP V W;refine⟨_,rfl,fun h=>two (.inl (by have:=hP h;omega)),fun i7=> ?_⟩;have i7:0<=x.rC/\x.rC<=1073741824:=by simpa using i7
 have last:¬((x.my=true/\qR x.set<qR x.reset)∨(x.my=false/\qR x.reset<qR x.set))->gn (fm l i) x=if ∃q,fm l i=some q/\x.id<=q.id then 5 else 0:=fun h=>by
  unfold gn;rw[aq (fun k=>k ⟨v1,v2⟩),aq om,aq (by rintro(k|k);omega;exact h k)]
 have TP:¬((x.my=true/\qR x.set<qR x.reset)∨(x.my=false/\qR x.reset<qR x.set))->¬0<i->Value.int .i64 0= .int .i64 (gn (fm l i) x):=fun h b=>by
  rw[last h,aq (by rintro⟨q,e,_⟩;exact b (N _ e))]
 have D:¬((x.my=true/\qR x.set<qR x.reset)∨(x.my=false/\qR x.reset<qR x.set))->∀(h:i - 1<l.length),0<i->(l[i - 1].id≥x.id->Value.int .i64 5= .int .i64 (gn (fm l i) x))/\(¬l[i - 1].id≥x.id->Value.int .i64 0= .int .i64 (gn (fm l i) x)):=fun h h1 b=>by
  rw[last h];refine⟨fun q=>by rw[bm ⟨_,G h1 b,q⟩],fun q=>by rw[aq];rintro⟨y,e,hy⟩;rw[G h1 b]at e;cases e;exact q hy⟩
 cases d:x.my
 ·refine⟨fun k=>(by cases k),fun _=>⟨fun _=>⟨fun h=>two (.inr (.inr ⟨d,jn.1 h⟩)),fun h=> ?_⟩,fun k=>absurd rfl k⟩⟩;have no:¬((x.my=true/\qR x.set<qR x.reset)∨(x.my=false/\qR x.reset<qR x.set)):=by
   rintro(k|k)
   ·rw[d]at k;cases k.1
   ·exact h (jn.2 k.2)
  refine⟨fun b=>⟨ir,?_⟩,fun b w' _=>TP no om⟩;obtain⟨hp,q1,E,B,o⟩:=z K C om;exact⟨q1,E,B,_,o,fun k w' _=>(D no hp om).1 k,fun k w' _=>(D no hp om).2 k⟩
 ·refine⟨fun _=>⟨fun h=>two (.inr (.inl ⟨d,gk.1 h⟩)),fun h=>⟨fun k=>(by cases k),fun _=> ?_⟩⟩,fun k=>(by cases k)⟩;have no:¬((x.my=true/\qR x.set<qR x.reset)∨(x.my=false/\qR x.reset<qR x.set)):=by
   rintro(k|k)
   ·exact h (gk.2 k.2)
   ·rw[d]at k;cases k.1
  refine⟨fun b=>⟨ir,?_⟩,fun b w' _=>TP no om⟩;obtain⟨hp,q1,E,B,o⟩:=z K C om;exact⟨q1,E,B,_,o,fun k w' _=>(D no hp om).1 k,fun k w' _=>(D no hp om).2 k⟩
section
variable {w:World} {A A1:Option Addr} {n c n1 c1:Nat} {l:List Al} {m:List Lp}
theorem dH(hg:bk w)(hl:bR w A 8 (l.map Al.row))(hlen:l.length=n)(hn:n<2147483648)(e:∀x∈l,UT x):
  Pure Tryz.prog 132 #[.slice A n c] w fun v _=>v= .tuple #[.int .i64 (sM l).1,.int .i64 (sM l).2]:=by
 have key:∀(d i:Nat)(w':World),n - i=d->i<=n->Below w.heap.size w w'->Gj gn (fm l i) i (l.drop i)=Gj gn none 0 l->F.dH.L4 A n c n i w.heap.size w' fun v _=>v= .tuple #[.int .i64 (Gj gn none 0 l).1,.int .i64 (Gj gn none 0 l).2]:=by
  intro d;induction d with
  |zero=>
   intro i w' g hi hw a;rw[de om]at a;rw[<-a];exact F.dH.L4.step ⟨fun h=>by omega,fun _=>rfl⟩
  |succ d ih=>
   intro i w' g hi hw a;have b:i<l.length:=om;rw[dp b,Gj]at a;refine F.dH.L4.step ⟨fun _=>pm (nQ (hg.next hw) (hl.av hw lf) hlen hn b (e _ (bA b))) ?_,fun h=>by omega⟩;rintro v j k rfl;refine⟨_,rfl,fun h=> ?_,fun h=>⟨ir,?_⟩⟩
   ·rw[bm h]at a;rw[<-a]
   ·rw[aq h,<-sF b]at a;have o:=sc i;rw[o];exact ih (i+1) j om om (kP hw k) a
 unfold sM;refine F.dH.vc ⟨fun h=> ?_,fun h=> ?_⟩
 ·rw[bm om]
 ·rw[aq om];exact key n 0 w rfl om (Below.refl _ _) rfl
theorem eA(hg:bk w)(hl:bR w A 8 (l.map Al.row))(hlen:l.length=n)(hn:n<2147483648)(o:∀x∈l,UT x)(hm:bR w A1 3 (m.map Lp.row))(r:m.length=n1):
  Pure Tryz.prog 68 #[.slice A n c,.slice A1 n1 c1] w fun v _=>v= .bool (xT l m):=by
 refine F.eA.vc (pm (dH hg hl hlen hn o) ?_);rintro v y B rfl;unfold xT;refine⟨_,_,rfl,fun h=>by rw[ep h];rfl,fun h=>⟨fun C=>by rw[ep (show ¬l.length=m.length by omega)];simp,fun C=> ?_⟩⟩;have D:n=n1:=om;rw[fi (ek.1 h),fi (show l.length=m.length by omega),vd,vd];have key:∀(d i:Nat)(w':World),n1 - i=d->i<=n1->Below w.heap.size w w'->((l.zip m).take i).all (fun z=>okL z.1 z.2)=true->F.eA.L5 A n c A1 n1 c1 n1 i w.heap.size w' fun v _=>v= .bool ((l.zip m).all fun z=>okL z.1 z.2):=by
  intro d;induction d with
  |zero=>
   intro i w' E hi hw b;rw[cd (by rw[Jo];omega)]at b;rw[b];exact F.eA.L5.step ⟨fun h=>by omega,fun _=>rfl⟩
  |succ d ih=>
   intro i w' E hi hw b;have G:i<l.length:=om;have H:i<m.length:=om;have hz:i<(l.zip m).length:=by rw[Jo];omega
   have g:(l.zip m)[i]=(l[i],m[i]):=by simp
   have bad:okL l[i] m[i]=false->Value.bool false= .bool ((l.zip m).all fun z=>okL z.1 z.2):=fun h=>by
    refine ca Value.bool (TS ?_);rw[List.all_eq_false];exact⟨_,bA hz,by rw[g,h];decide⟩
   obtain⟨hb,I,J,a,_⟩:=(hm.av hw lf).at_ (fun _=>rfl) r H;refine F.eA.L5.step ⟨fun _=>⟨hb,I,J,_,_,_,a,fun U K=> ?_⟩,fun h=>by omega⟩;have j:=kE hw K;obtain⟨e,L,M,_,N⟩:=(hl.av j lf).at_ (fun _=>rfl) hlen G;refine⟨e,L,M,_,N 0 _ rfl,fun q w' _=>bad (ep om),fun q1=>⟨fun q w' _=>bad (ep om),fun V=>⟨fun q w' _=>bad (ep om),fun W O P=>pm (jM _ O) ?_⟩⟩⟩;have Q:=kE j P;rintro v R S rfl;refine⟨_,rfl,fun q=>bad (ep (by have:=hP q;omega)),fun k=>⟨ir,?_⟩⟩;have k:0<=m[i].since/\m[i].since<=1073741824:=by simpa using k
   have T:=sc i;rw[T];refine ih (i+1) R om om (kP Q S) ?_;rw[eU,af hz,Ui,b,g];have:okL l[i] m[i]=true:=fi om;simp[this]
 exact key n1 0 y rfl om B rfl
end

def UX(a:Al)(s t:ByteArray):Int:=if a.my=true then gp (qR s) (qR t)else -gp (qR s) (qR t)
structure Sn where
 beyond:Bool
 back:Bool
 long:Bool
 rC:Bool
abbrev Sn.val(s:Sn):Value:= .agg #[.bool s.beyond,.bool s.back,.bool s.long,.bool s.rC]
def Rq(a:Al)(x:Lp)(y:Va)(t:Int):Sn:=⟨decide (UX a y.num a.set>0),decide (UX a y.num a.reset<=0),decide (t - x.since≥a.rC),decide (a.rC>0)⟩
def IC(a:Al)(x:Lp)(v:List Va)(t:Int):Option Sn:=
 match v.findIdx? fun y=>decide (y.chan=a.chan)with
 |some i=>match v[i]? with
  |some y=>if y.xQ=1 then some (Rq a x y t)else none
  |none=>none
 |none=>none
def lkV:Option Sn->Value
 |some s=> .tuple #[s.val,.bool true]
 |none=> .tuple #[Sn.val ⟨false,false,false,false⟩,.bool false]
theorem ID(a b:Rat): -1<=gp a b/\gp a b<=1:=by
 unfold gp;split
 ·omega
 ·split<;>omega
theorem UY{w:World}{p:Nat}{a:Al}(h:w.heap[p]? =some (.cells (Al.row a).toArray 90 (0,0)))(y:Va):
  Pure Tryz.prog 136 #[y.val,.pointer (some ⟨p,0,none⟩)] w fun v _=>v= .bool (decide (y.chan=a.chan)):=
 F.qK.vc fun w1 b=>⟨_,bz (ext_nil b h) rfl,rfl⟩
theorem fj{w:World}(hg:bk w){A:Option Addr}{n c:Nat}{v:List Va}(z:bR w A 4 (v.map Va.row))(B:v.length=n)(hn:n<2147483648)(J:∀y∈v,mc y.num/\vR y.num=true)
  {a:Al} (ha:UT a) (v1:vR a.set=true) (v2:vR a.reset=true) {x:Lp} {t:Int} (hx:0<=x.since/\x.since<=1073741824) (O:0<=t/\t<=1073741824):
  Pure Tryz.prog 81 #[a.val,x.val,.slice A n c,.int .i64 t] w fun r _=>r=lkV (IC a x v t):=by
 refine F.fj.vc fun w1 K p2 _ C=> ?_
 have h1:=k0 K;refine pm (Ms (z.av h1 lf) B hn (a:= #[]) (k:= #[.pointer (some ⟨p2,0,none⟩)]) kF fun w' hb y _=>UY (a:=a) (ag C hb) y) ?_;rintro r P D rfl;have E:=kP h1 D;have g:=ag C D;rw[mI];unfold IC;cases e:v.findIdx? fun y=>decide (y.chan=a.chan)with
 |none=>exact⟨_,rfl,fun _ Q _=>rfl,fun q=>absurd dc q⟩
 |some i=>
  have hi:i<v.length:=(rr.1 e).1;refine⟨_,rfl,fun q=> ?_,fun _=> ?_⟩
  ·have q:((0+i:Nat):Int)<0:=q;omega
  dsimp only;rw[jx,af hi];dsimp only;obtain⟨hb,h,j,_,o⟩:=(z.av E lf).at_ (fun _=>rfl) B hi;have b:=J _ (bA hi);refine⟨hb,h,j,_,o 2 _ rfl,fun q R _=>by rw[aq q];rfl,fun q=> ?_⟩;rw[bm (ek.1 q)];refine⟨hb,h,j,_,o 3 _ rfl,_,bz g rfl,hb,h,j,_,o 3 _ rfl,_,bz g rfl,fun S G=> ?_⟩;have H:=kE E G;refine pm (gT (hg.next H) b.1 b.2 ha.set v1) ?_;rintro r T I rfl;have L:=kP H I;refine⟨_,rfl,pm (gT (hg.next L) b.1 b.2 ha.reset v2) ?_⟩;rintro r U M rfl;have d:=ag (ag (ext_nil G g) I) M;have m1:=ID (qR v[i].num) (qR a.set);have m2:=ID (qR v[i].num) (qR a.reset);refine⟨_,rfl,_,bz d rfl,fun q=>⟨ir,ir,F.fj.J7.step ⟨ir,_,bz d rfl,_,bz d rfl,fun N _=> ?_⟩⟩,fun q=>F.fj.J7.step ⟨ir,_,bz d rfl,_,bz d rfl,fun N _=> ?_⟩⟩
  ·unfold Rq UX;rw[aq (by rw[q];decide),aq (by rw[q];decide)];rfl
  ·unfold Rq UX;rw[bm (by simpa using q),bm (by simpa using q)];rfl
def zU(l:List Al)(m:List Lp)(id t:Int):List Lp×Int:=
 if xT l m=false then([],1)else
 match l.findIdx? fun a=>decide (a.id=id)with
 |none=>([],7)
 |some i=>match m[i]? with
  |none=>([],7)
  |some x=>if ¬(0<=t/\t<=1073741824)then([],2)else if t<x.since then([],5)
   else if x.state=2 then(m.set i ⟨x.we,3,t⟩,0)else if x.state=4 then(m.set i ⟨x.we,0,t⟩,0)else([],11)
def GU(r:List Lp×Int)(B:Nat)(v:Value)(w':World):Prop:=∃A n c,v= .tuple #[.slice A n c,.int .i64 r.2]/\aF w' B 84 A n c 3 (r.1.map Lp.row)
theorem GU.no{B:Nat}(e:Int)(w:World):GU ([],e) B (.tuple #[.slice none 0 0,.int .i64 e]) w:=⟨_,_,_,rfl,aF.nil⟩
theorem Zv{w:World}{p:Nat}{id:Int}(h:w.heap[p]? =some (.cells [Value.int .i64 id].toArray 3 (0,0)))(a:Al):
  Pure Tryz.prog 220 #[a.val,.pointer (some ⟨p,0,none⟩)] w fun v _=>v= .bool (decide (a.id=id)):=
 F.sL.vc fun w1 b=>⟨_,bS (ext_nil b h) rfl,rfl⟩
theorem UZ(x:Lp)(w:World):Pure Tryz.prog 82 #[x.val] w fun v _=>v= .bool (decide (x.state=2∨x.state=4)):=by
 refine F.qJ.vc ⟨fun h w1 _=>by rw[fi (.inl h)],fun h a _=>ca Value.bool ?_⟩;rw[kh];omega
def zB(m:List Lp):Bool:=m.any fun x=>decide (x.state=2∨x.state=4)
section
variable {w:World} {A A1:Option Addr} {n c n1 c1:Nat} {l:List Al} {m:List Lp}
theorem mU(hm:bR w A 3 (m.map Lp.row))(b:m.length=n)(hn:n<2147483648):Pure Tryz.prog 34 #[.slice A n c] w fun v _=>v= .bool (zB m):=by
 refine F.mU.vc (pm (Cj hm b hn (a:= #[]) (k:= #[]) kF fun w' _ x _=>UZ x w') ?_);rintro v d _ rfl;exact⟨_,rfl,rfl⟩
theorem rE(hg:bk w)(hl:bR w A 8 (l.map Al.row))(hlen:l.length=n)(hn:n<1000000)(P:∀x∈l,UT x)(hm:bR w A1 3 (m.map Lp.row))(y:m.length=n1)(id t:Int):
  Pure Tryz.prog 174 #[.slice A n c,.slice A1 n1 c1,.int .i64 id,.int .i64 t] w (GU (zU l m id t) w.heap.size):=by
 refine F.rE.vc fun w1 Q=> ?_
 have h1:=k0 Q;refine pm (eA (hg.next h1) (hl.av h1 lf) hlen om P (hm.av h1 lf) y) ?_;rintro v w4 S rfl;have M:=kP h1 S;unfold zU;refine⟨_,rfl,fun q=>by rw[bm q];exact GU.no _ _,fun q D _ T=> ?_⟩;rw[aq q];have U:l.length=m.length:=by
  unfold xT at q;simp only[Bool.and_eq_false_iff,not_or,ph,iv]at q;exact q.2.1
 refine pm (UH (hl.av M lf) hlen om (a:= #[]) (k:= #[.pointer (some ⟨D,0,none⟩)]) kF fun w' hb a _=>Zv (ag T hb) a) ?_;rintro v V b8 rfl;have W:=kP M b8;rw[mI];cases e:l.findIdx? fun a=>decide (a.id=id)with
 |none=>exact⟨_,rfl,fun _=>GU.no _ _,fun k=>absurd dc k⟩
 |some i=>
  have hi:i<l.length:=(rr.1 e).1;have d:i<m.length:=om;dsimp only;rw[jx,af d];dsimp only;refine⟨_,rfl,fun k=>by omega,fun _=>pm (jM t V) ?_⟩;rintro v wO E rfl;have z:=kP W E;refine⟨_,rfl,fun k=>by rw[bm (hP k)];exact GU.no _ _,fun k=> ?_⟩;rw[aq (by simpa using k)];obtain⟨hb,X,Y,_,Z⟩:=(hm.av z lf).at_ (fun _=>rfl) y d;refine⟨hb,X,Y,_,Z 2 _ rfl,fun G=>by rw[bm G];exact GU.no _ _,fun G=> ?_⟩;rw[aq G];refine pm (AE (hm.av z lf) y om) ?_;rintro v N F6 ⟨rI,ye,rfl,B⟩;have Gk:=kP z F6;have B:=B.base z.size;refine⟨_,_,_,rfl,?_⟩;obtain⟨H,YX,I,_,UW⟩:=B.sl.at_ (fun _=>rfl) y d;have g:∀(s:Int) {R:Value->World->Prop},(∀w',aF w' w.heap.size 84 rI n1 ye 3 ((m.set i ⟨m[i].we,s,t⟩).map Lp.row)->R (.tuple #[.slice rI n1 ye,.int .i64 0]) w')->
    (Ix (i:Int) n1 rI fun b=>(∃(J:List Value)(t21:Nat),w.heap.size<=((b.add ((i:Int).toNat*3)).add 1).block/\((b.add ((i:Int).toNat*3)).add 1).spot=none/\N.heap[((b.add ((i:Int).toNat*3)).add 1).block]? =some (.cells J.toArray t21 (0,0))/\((b.add ((i:Int).toNat*3)).add 1).off+1<=J.length/\hasType t21 []=false/\∀h,aC N h ((b.add ((i:Int).toNat*3)).add 1).block t21 (setCells J ((b.add ((i:Int).toNat*3)).add 1).off [.int .i64 s])->
     (Ix (i:Int) n1 rI fun a23=>(∃(K:List Value)(t25:Nat),w.heap.size<=((a23.add ((i:Int).toNat*3)).add 2).block/\((a23.add ((i:Int).toNat*3)).add 2).spot=none/\h.heap[((a23.add ((i:Int).toNat*3)).add 2).block]? =some (.cells K.toArray t25 (0,0))/\((a23.add ((i:Int).toNat*3)).add 2).off+1<=K.length/\hasType t25 []=false/\∀j,aC h j ((a23.add ((i:Int).toNat*3)).add 2).block t25 (setCells K ((a23.add ((i:Int).toNat*3)).add 2).off [.int .i64 t])->R (.tuple #[.slice rI n1 ye,.int .i64 0]) j)))):=by
   intro s R hR;obtain⟨g1,a2,I,cs,g2,g3,g4,g5,g6⟩:=B.set (i:=(i:Int)) om om 1 [.int .i64 s] (m[i]).row (by rw[cc,hM,af d];rfl) sm;refine⟨g1,a2,I,cs,_,g2,g3,g4,g5,rfl,fun h kv=> ?_⟩;have O:=g6 h kv;rw[cc]at O;obtain⟨p1,a3,Uu,CS,p2,p3,p4,D,p6⟩:=O.set (i:=(i:Int)) om om 2 [.int .i64 t] (setCells (m[i]).row 1 [.int .i64 s]) (by rw[cc,wI (by rw[eb];exact d)]) sm;refine⟨p1,a3,Uu,CS,_,p2,p3,p4,D,rfl,fun j zV=>hR j ?_⟩;have r:=p6 j zV;rw[cc,List.set_set]at r;rw[Cd];exact r
  refine⟨H,YX,I,_,UW 1 _ rfl,fun C=> ?_,fun C=>⟨fun L=> ?_,fun L=> ?_⟩⟩
  ·rw[bm C];exact g 3 fun w' o=>⟨_,_,_,rfl,o⟩
  ·rw[aq C,bm L];exact g 0 fun w' o=>⟨_,_,_,rfl,o⟩
  ·rw[aq C,aq L];exact GU.no _ _
end
open Go Go.RowKit Go.Proofs Go.Proofs.YtbcojgcjjpggnaaGreatDoor.Vc Go.Maps

structure Zz (t tk te:Nat) (zv:Value):Prop where
 t:Tryz.prog.underlying t=some (.map tk te)
 k:Tryz.prog.underlying tk=some (.int .i64)
 z:∀w,(zeroValue te).run Tryz.prog w= .ok zv w
def adh(v:Value):Option (DataW Value×List MemPlace):=some (.held v,[])
abbrev zW(f:Int->Option Value)(z:Int)(x:Value):Int->Option Value:=fun y=>if y=z then some x else f y
def xg(w:World)(B tk:Nat)(zv:Value)(b n:Nat)(f:Int->Option Value):Prop:=
 B<=b/\∃D:DataW Value,w.ownsMap Tryz.prog tk adh b n D/\∀z,has D (.int .i64 z)=(f z).isSome/\D.atKey (.int .i64 z) (.held zv)= .held ((f z).getD zv)
theorem ZA{z:Int}(h:aS .i64 z):(Lit.int .i64 z).wf=true:=by
 simp only[aS]at h;simp[Lit.wf,IntKind.min,IntKind.max,IntKind.signed,IntKind.bits];omega
section
variable {w:World} {B t tk te b n:Nat} {zv:Value} {f:Int->Option Value}
theorem xV(T:Zz t tk te zv){z:Int}(hz:aS .i64 z):keyOf Tryz.prog tk (.int .i64 z)=some (.int .i64 z):=by simp[keyOf,mapKey,T.k,ZA hz]
theorem xg.lt(h:xg w B tk zv b n f):b<w.heap.size:=by obtain⟨_,D,h,_⟩:=h;exact h.lt
theorem xg.le{a:Nat}(h:xg w B tk zv b n f)(hB:a<=B):xg w a tk zv b n f:=⟨dT hB h.1,h.2⟩
theorem xg.same{w':World}(h:xg w B tk zv b n f)(hb:w'.heap[b]? =w.heap[b]?):xg w' B tk zv b n f:=by
 obtain⟨h1,D,a,c⟩:=h;refine⟨h1,D,?_,c⟩;obtain⟨es,clock,d,F,e,g⟩:=a;exact⟨es,clock,hb.trans d,F,e,g⟩
theorem xg.below{w':World}(h:xg w B tk zv b n f)(hb:Below w.heap.size w w'):xg w' B tk zv b n f:=h.same (hb.block b h.lt)
theorem xg.isMap(h:xg w B tk zv b n f):∃es clock,w.heap[b]? =some (.map es clock):=by
 obtain⟨h1,D,⟨es,clock,a,_⟩,c⟩:=h;exact⟨es,clock,a⟩
theorem xg.ext{B0:Nat}{ts:List Nat}{w':World}(h:xg w B tk zv b n f)(x:Ext B0 ts w w'):xg w' B tk zv b n f:=by
 refine h.same ?_;obtain⟨es,clock,a⟩:=h.isMap;rcases x.other b h.lt with q|⟨_,_,c,c',fr,q,_⟩
 ·exact q
 ·rw[a]at q;cases q
theorem xg.wrote{w':World}{a ty:Nat}{cs d:List Value}(h:xg w B tk zv b n f)(x:aC w w' a ty d)(g:w.heap[a]? =some (.cells cs.toArray ty (0,0))):xg w' B tk zv b n f:=by
 refine h.same (x.rest b fun e=> ?_);obtain⟨es,clock,c⟩:=h.isMap;rw[e,g]at c;cases c
theorem oU{w':World}(h:xg w B tk zv b n f)(hg:w.grownBy w' (some b)){k ty:Nat}{cs:Array Value}{fr:Nat×Nat}(a:w.heap[k]? =some (.cells cs ty fr)):w'.heap[k]? =w.heap[k]? :=by
 obtain⟨es,clock,c⟩:=h.isMap;refine hg.block k (ax.1 a).1 fun e=> ?_
 cases e;rw[c]at a;cases a
theorem yL(h:xg w B tk zv b n f)(T:Zz t tk te zv){z:Int}(hz:aS .i64 z){B0:Nat}{tys:List Nat}{R:Value->World->Prop}(c:R ((f z).getD zv) w):
  ae Tryz.prog (Instr.lookup t (.map (some b)) (.int .i64 z) false) B0 tys w R:=by
 obtain⟨_,D,d,e⟩:=h;obtain⟨v,ps,g,a⟩:=d.lookup (int_keyed T.k) T.t (T.z w) (zd:= .held zv) (zp:=[]) rfl (xV T hz);rw[(e z).2]at a;cases a;exact⟨_,w,g,Below.refl _ _,fs _,fun _ _ _ _ _=>rfl,c⟩
theorem IF(h:xg w B tk zv b n f)(T:Zz t tk te zv){z:Int}(hz:aS .i64 z){B0:Nat}{tys:List Nat}{R:Value->World->Prop}(e:R (.tuple #[(f z).getD zv,.bool (f z).isSome]) w):
  ae Tryz.prog (Instr.lookup t (.map (some b)) (.int .i64 z) true) B0 tys w R:=by
 obtain⟨_,D,g,a⟩:=h;obtain⟨v,ps,c,d⟩:=g.look_ok (int_keyed T.k) T.t (T.z w) (zd:= .held zv) (zp:=[]) rfl (xV T hz);rw[(a z).2]at d;rw[(a z).1]at c;cases d;exact⟨_,w,c,Below.refl _ _,fs _,fun _ _ _ _ _=>rfl,e⟩
theorem cV(h:xg w B tk zv b n f)(T:Zz t tk te zv){z:Int}(hz:aS .i64 z)(x:Value)(hn:n<1000000){B0:Nat}(i:B0<=B)(j:B0<=w.heap.size){tys:List Nat}{K:World->Prop}
  (o:∀w',xg w' B tk zv b (n+1) (zW f z x)->Below B0 w w'->w.grownBy w' (some b)->K w'):
  dY Tryz.prog (Instr.mapUpdate t (.map (some b)) (.int .i64 z) x) B0 tys w K:=by
 have p:=h;obtain⟨h1,D,l,q⟩:=h;have m:Keyed Tryz.prog tk:=int_keyed T.k;obtain⟨w',r,c,hg⟩:=l.update m T.t (by unfold maxLen;omega) (xV T hz) (val:=x) (d:= .held x) (ps:=[]) rfl;have hm:=l.isMap;have a:=m.key (xV T hz);have hb:Below B0 w w':=bN hg (fun k a=>by cases a;exact dT i h1) j;refine⟨w',r,hb,hb.size,fun k ty cs _ a=>oU p hg a,o w' ⟨h1,_,c,fun y=> ?_⟩ hb hg⟩;show has _ _=(zW f z x y).isSome/\_=DataW.held ((zW f z x y).getD zv);unfold zW;by_cases e:y=z
 ·subst e;rw[bm rfl,has_put_same hm a,atKey_put_same hm a];exact⟨rfl,rfl⟩
 ·have g:(Lit.int .i64 y)≠ .int .i64 z:=fun k=>by cases k;exact e rfl
  rw[aq e,has_put_other g,atKey_put_other g];exact q y
theorem yM{w:World}{t tk:Nat}{zv:Value}{B:Nat}{tys:List Nat}(hB:B<=w.heap.size){K:Option Nat->World->Prop}
  (a:∀w',xg w' w.heap.size tk zv w.heap.size 0 (fun _=>none)->Below w.heap.size w w'->K (some w.heap.size) w'):
  ae Tryz.prog (Instr.makeMap t none) B tys w fun r w1=>∃m:Option Nat,r= .map m/\K m w1:=by
 have hg:=World.grownBy_alloc w (.map #[] 0) none;have hb:Below w.heap.size w (w.alloc (.map #[] 0)):=bN hg sm lf;exact⟨_,_,run_makeMap t w,hb.mono hB,hb.size,fun k ty cs _ c=>hb.block k (ax.1 c).1,_,rfl,a _ ⟨fs _,.map [],World.ownsMap_made w _ _ _,fun _=>⟨rfl,rfl⟩⟩ hb⟩
end

def Cs(s:Sn)(z:Int):Int:=
 if z=0 then(if s.beyond=true then(if s.rC=true then 1 else 2)else 0)
 else if z=1 then(if s.beyond=true then(if s.long=true then 2 else 1)else 0)
 else if z=2 then(if s.back=true then 4 else 2)
 else if z=3 then(if s.back=true then 0 else 3)
 else(if s.beyond=true then 2 else 4)
def step1(v:List Va)(t:Int)(a:Al)(x:Lp):Lp:=match IC a x v t with
 |none=>x
 |some s=>if Cs s x.state≠x.state then⟨x.we,Cs s x.state,t⟩else x
def xW(l:List Al)(m:List Lp)(v:List Va)(t:Int):List Lp×Int:=
 if xT l m=false then([],1)else if(v.any fun y=> !vR y.num)=true then([],1)else if 16<v.length then([],8)else if ¬(0<=t/\t<=1073741824)then([],2)
 else if(m.any fun x=>decide (x.since>t))=true then([],5)else(List.zipWith (step1 v t) l m,0)
theorem sN(b:Bool)(x y:Int)(w:World):Pure Tryz.prog 75 #[.bool b,.int .i64 x,.int .i64 y] w fun v _=>v= .int .i64 (if b=true then x else y):=
 F.qD.vc ⟨fun h=>by rw[bm h],fun h=>by rw[aq (by rw[h];decide)]⟩
abbrev chV:Value:= .func (.func 75) #[] #[]
abbrev fnV(p f:Nat):Value:= .func (.func f) #[] #[.pointer (some ⟨p,0,none⟩)]
def adi(p:Nat):Int->Option Value:=zW (zW (zW (zW (zW (fun _=>none) 0 (fnV p 76)) 1 (fnV p 77)) 2 (fnV p 78)) 3 (fnV p 79)) 4 (fnV p 80)
theorem ZB{p:Nat}{z:Int}(h:0<=z)(i:z<=4):∃f,(adi p z).getD .nilFunc=fnV p f/\az Tryz.prog f=true/\∀(s:Sn)(w:World),w.heap[p]? =some (.cells [chV].toArray 152 (0,0))->
  Pure Tryz.prog f #[s.val,.pointer (some ⟨p,0,none⟩)] w fun v _=>v= .int .i64 (Cs s z):=by
 have hz:z=0∨z=1∨z=2∨z=3∨z=4:=om;unfold Cs;rcases hz with rfl|rfl|rfl|rfl|rfl
 ·refine⟨_,rfl,kF,fun s w hb=>F.qE.vc fun w1 b=> ?_⟩;have a:=ext_nil b hb;refine⟨_,_,_,bS a rfl,_,_,_,bS a rfl,kF,fun e _=>pm (sN _ _ _ e) ?_⟩;rintro v d _ rfl;refine⟨_,rfl,kF,pm (sN _ _ _ d) ?_⟩;rintro v g _ rfl;exact⟨_,rfl,rfl⟩
 ·refine⟨_,rfl,kF,fun s w hb=>F.qF.vc fun w1 b=> ?_⟩;have a:=ext_nil b hb;refine⟨_,_,_,bS a rfl,_,_,_,bS a rfl,kF,fun e _=>pm (sN _ _ _ e) ?_⟩;rintro v d _ rfl;refine⟨_,rfl,kF,pm (sN _ _ _ d) ?_⟩;rintro v g _ rfl;exact⟨_,rfl,rfl⟩
 ·refine⟨_,rfl,kF,fun s w hb=>F.qG.vc fun w1 b=>⟨_,_,_,bS (ext_nil b hb) rfl,kF,pm (sN _ _ _ w1) ?_⟩⟩;rintro v d _ rfl;exact⟨_,rfl,rfl⟩
 ·refine⟨_,rfl,kF,fun s w hb=>F.qH.vc fun w1 b=>⟨_,_,_,bS (ext_nil b hb) rfl,kF,pm (sN _ _ _ w1) ?_⟩⟩;rintro v d _ rfl;exact⟨_,rfl,rfl⟩
 ·refine⟨_,rfl,kF,fun s w hb=>F.qI.vc fun w1 b=>⟨_,_,_,bS (ext_nil b hb) rfl,kF,pm (sN _ _ _ w1) ?_⟩⟩;rintro v d _ rfl;exact⟨_,rfl,rfl⟩
theorem mpA:Zz 156 3 155 .nilFunc:=⟨kF,kF,fun w=>by kernel_rfl⟩
structure Jy (w0 w:World) (p q mb:Nat) (t:Int):Prop where
 b:Below w0.heap.size w0 w
 at_:w.heap[p]? =some (.cells [Value.int .i64 t].toArray 3 (0,0))
 ch:w.heap[q]? =some (.cells [chV].toArray 152 (0,0))
 mp:xg w w0.heap.size 3 .nilFunc mb 5 (adi q)
theorem Ct{B:Nat}{ts:List Nat}{w w':World}(x:Ext B ts w w'){k ty:Nat}{cs:Array Value}{fr:Nat×Nat}(h:w.heap[k]? =some (.cells cs ty fr))(b:ty∉ts):w'.heap[k]? =some (.cells cs ty fr):=by
 rcases x.other k (ax.1 h).1 with e|⟨t,d,c1,c2,g,a,i⟩
 ·exact e.trans h
 ·rw[h]at a;cases a;exact absurd d b
section
variable {w0 w w':World} {p q mb:Nat} {t:Int}
theorem Jy.below(h:Jy w0 w p q mb t)(hb:Below w.heap.size w w'):Jy w0 w' p q mb t:=⟨kP h.b hb,ag h.at_ hb,ag h.ch hb,h.mp.below hb⟩
theorem Jy.ext(h:Jy w0 w p q mb t){ts:List Nat}(x:Ext w0.heap.size ts w w')(h1:3∉ts)(a:152∉ts):Jy w0 w' p q mb t:=⟨kE h.b x,Ct x h.at_ h1,Ct x h.ch a,h.mp.ext x⟩
theorem Jy.wrote(h:Jy w0 w p q mb t){b:Nat}{cs a:List Value}(hw:aC w w' b 84 a)(hb:w.heap[b]? =some (.cells cs.toArray 84 (0,0)))(hB:w0.heap.size<=b):Jy w0 w' p q mb t:=
 ⟨h.b.trans (aC.eD hw hB),(hw.rest p (uW h.at_ hb dc)).trans h.at_,(hw.rest q (uW h.ch hb dc)).trans h.ch,h.mp.wrote hw hb⟩
end
theorem Mz{α:Type}{Z m:List α}{i:Nat}(hz:i<Z.length)(hm:i<m.length):(Z.take i++m.drop i).set i Z[i]=Z.take (i+1)++m.drop (i+1):=by
 have hl:(Z.take i).length=i:=by rw[eH];omega
 rw[wV _ _ om,hl,IS,dp hm,IW,eU,af hz,ky];rfl
theorem Rr{α:Type}{Z m:List α}{i:Nat}(hz:i<Z.length)(hm:i<m.length)(e:Z[i]=m[i]):Z.take i++m.drop i=Z.take (i+1)++m.drop (i+1):=by
 rw[<-Mz hz hm,e];have hl:(Z.take i).length=i:=by rw[eH];omega
 rw[wV _ _ om,hl,IS,dp hm,IW]
theorem ZC{α:Type}{Z m:List α}{i:Nat}(hz:i<=Z.length)(hm:i<m.length):(Z.take i++m.drop i)[i]? =some m[i]:=by
 have hl:(Z.take i).length=i:=by rw[eH];omega
 rw[hN om,hl,IS,dp hm];rfl
section
variable {w0:World} {A A1 A2 A3:Option Addr} {n c n1 c1 n2 c2 c3:Nat} {l:List Al} {m:List Lp} {v:List Va} {t:Int} {p q mb:Nat}
theorem Rv(hg:bk w0)(hl:bR w0 A 8 (l.map Al.row))(hlen:l.length=n)(mv:∀x∈l,UT x/\vR x.set=true/\vR x.reset=true)(hm:bR w0 A1 3 (m.map Lp.row))(La:m.length=n1)(zc:n1=n)(hn:n<1000000)
  (hv:bR w0 A2 4 (v.map Va.row)) (Zu:v.length=n2) (Wp:n2<1000000) (BF:∀y∈v,mc y.num/\vR y.num=true) (ht:0<=t/\t<=1073741824) (hx:∀x∈m,(0<=x.state/\x.state<=4)/\0<=x.since/\x.since<=1073741824):
  ∀(d i:Nat)(w:World),n1 - i=d->i<=n1->Jy w0 w p q mb t->aF w w0.heap.size 84 A3 n1 c3 3 (((List.zipWith (step1 v t) l m).take i++m.drop i).map Lp.row)->
   F.cN.tn A n c A2 n2 c2 (⟨p,0,none⟩:Addr) (some mb) A3 n1 c3 A1 n1 c1 n1 i w0.heap.size w (GU (List.zipWith (step1 v t) l m,0) w0.heap.size):=by
 have hZ:(List.zipWith (step1 v t) l m).length=n1:=by rw[List.length_zipWith];omega
 intro d;induction d with
 |zero=>
  intro i w hd hi hj ho;rw[cd om,de om,u1]at ho;exact F.cN.tn.step ⟨fun h=>by omega,fun _=>⟨_,_,_,rfl,ho⟩⟩
 |succ d ih=>
  intro i w hd hi hj ho;have cn:i<l.length:=om;have N:i<m.length:=om;have O:i<(List.zipWith (step1 v t) l m).length:=om;have ez:(List.zipWith (step1 v t) l m)[i]=step1 v t l[i] m[i]:=by simp
  have e3:=sc i;have OX:=hx _ (bA N);have tx:=mv _ (bA cn);have same:∀w',Jy w0 w' p q mb t->aF w' w0.heap.size 84 A3 n1 c3 3 (((List.zipWith (step1 v t) l m).take i++m.drop i).map Lp.row)->step1 v t l[i] m[i]=m[i]->F.cN.tn A n c A2 n2 c2 (⟨p,0,none⟩:Addr) (some mb) A3 n1 c3 A1 n1 c1 n1 ((i:Int)+1) w0.heap.size w' (GU (List.zipWith (step1 v t) l m,0) w0.heap.size):=by
   intro w' hj ho e;rw[e3];exact ih (i+1) w' om om hj (by rw[<-Rr O N (by rw[ez,e])];exact ho)
  obtain⟨hb,ad,hA,B,_⟩:=(hm.av hj.b lf).at_ (fun _=>rfl) La N;refine F.cN.tn.step ⟨fun _=>⟨hb,ad,hA,_,_,_,B,?_⟩,fun h=>by omega⟩;refine cK _ (z:= .agg #[.int .i64 0,.int .i64 0,.int .i64 0]) kF hj.b.size fun Ua WU ZD l32=> ?_
  refine⟨[.int .i64 0,.int .i64 0,.int .i64 0],_,hj.b.size,rfl,WU,fs _,rfl,fun QS pA=> ?_⟩;have NI:Below w.heap.size w QS:=ZD.trans (aC.eD pA lf);have C:=hj.below NI;have o37:=ho.below NI;have P:QS.heap[w.heap.size]? =some (.cells (Lp.row m[i]).toArray 84 (0,0)):=pA.at_;obtain⟨hb2,YX,pR,sG,_⟩:=(hl.av C.b lf).at_ (fun _=>rfl) hlen cn;refine⟨hb2,YX,pR,_,_,_,_,_,_,_,_,sG,_,_,_,eY P,_,bS C.at_ rfl,fun w51 D=> ?_⟩;have E:=C.ext D sm sm;refine pm (fj (hg.next E.b) (hv.av E.b lf) Zu om BF tx.1 tx.2.1 tx.2.2 OX.2 ht) ?_;rintro r Uj ZE rfl;have Q:=E.below ZE;have R:=(o37.kR D).below ZE;have x58:=ag (ext_nil D P) ZE;have es:step1 v t l[i] m[i]=match IC l[i] m[i] v t with|none=>m[i]|some s=>if Cs s m[i].state≠m[i].state then⟨m[i].we,Cs s m[i].state,t⟩else m[i]:=rfl
  cases e:IC l[i] m[i] v t with
  |none=>
   rw[e]at es;exact⟨_,_,_,_,_,rfl,fun _=>⟨ir,fun w59 S=>same w59 (Q.ext S dc dc) (R.Nk S dc) es⟩,fun k=>absurd rfl k⟩
  |some s=>
   rw[e]at es;refine⟨_,_,_,_,_,rfl,fun k=>(by cases k),fun _ w60 G=> ?_⟩;have H:=Q.ext G dc dc;have o60:=R.Nk G dc;have T:=Ct G x58 dc;obtain⟨f,ef,cB,hf⟩:=ZB (p:=q) OX.1.1 OX.1.2;refine⟨_,bz T rfl,yL H.mp mpA ir ?_⟩;rw[ef];refine⟨_,_,_,rfl,cB,pm (hf s w60 H.ch) ?_⟩;rintro r w67 I rfl;have J:=H.below I;have a:=o60.below I;have x67:=ag T I;refine⟨_,rfl,_,bz x67 rfl,fun hne=> ?_,fun heq=>⟨ir,same w67 J a (es.trans (aq heq))⟩⟩;have es:=es.trans (bm hne);have gO:(((List.zipWith (step1 v t) l m).take i++m.drop i).map Lp.row)[i]? =some (m[i]).row:=by rw[hM,ZC om N];rfl
   have next:∀w',Jy w0 w' p q mb t->aF w' w0.heap.size 84 A3 n1 c3 3 ((((List.zipWith (step1 v t) l m).take i++m.drop i).map Lp.row).set i (Lp.row ⟨m[i].we,Cs s m[i].state,t⟩))->aS .i64 ((i:Int)+1)/\F.cN.tn A n c A2 n2 c2 (⟨p,0,none⟩:Addr) (some mb) A3 n1 c3 A1 n1 c1 n1 ((i:Int)+1) w0.heap.size w' (GU (List.zipWith (step1 v t) l m,0) w0.heap.size):=by
    intro w' hj ho;refine⟨ir,?_⟩;rw[e3];refine ih (i+1) w' om om hj ?_;rw[<-Mz O N,ez,es,Cd];exact ho
   obtain⟨g1,a2,U,_⟩:=a.set (i:=(i:Int)) om om 1 [.int .i64 (Cs s m[i].state)] (m[i]).row (by rw[cc];exact gO) sm;have two:∀(K:World),Jy w0 K p q mb t->aF K w0.heap.size 84 A3 n1 c3 3 (((List.zipWith (step1 v t) l m).take i++m.drop i).map Lp.row)->
     ∃cs:List Value,w0.heap.size<=((a2.add ((i:Int).toNat*3)).add 1).block/\((a2.add ((i:Int).toNat*3)).add 1).spot=none/\K.heap[((a2.add ((i:Int).toNat*3)).add 1).block]? =some (.cells cs.toArray 84 (0,0))/\((a2.add ((i:Int).toNat*3)).add 1).off+1<=cs.length/\
      ∀o,aC K o ((a2.add ((i:Int).toNat*3)).add 1).block 84 (setCells cs ((a2.add ((i:Int).toNat*3)).add 1).off [.int .i64 (Cs s m[i].state)])->Jy w0 o p q mb t/\
       ∃g:List Value,w0.heap.size<=((a2.add ((i:Int).toNat*3)).add 2).block/\((a2.add ((i:Int).toNat*3)).add 2).spot=none/\o.heap[((a2.add ((i:Int).toNat*3)).add 2).block]? =some (.cells g.toArray 84 (0,0))/\((a2.add ((i:Int).toNat*3)).add 2).off+1<=g.length/\
        ∀V,aC o V ((a2.add ((i:Int).toNat*3)).add 2).block 84 (setCells g ((a2.add ((i:Int).toNat*3)).add 2).off [.int .i64 t])->aS .i64 ((i:Int)+1)/\F.cN.tn A n c A2 n2 c2 (⟨p,0,none⟩:Addr) (some mb) A3 n1 c3 A1 n1 c1 n1 ((i:Int)+1) w0.heap.size V (GU (List.zipWith (step1 v t) l m,0) w0.heap.size):=by
    intro K j o70;obtain⟨_,a3,Uu,cs,g2,g3,g4,g5,g6⟩:=o70.set (i:=(i:Int)) om om 1 [.int .i64 (Cs s m[i].state)] (m[i]).row (by rw[cc];exact gO) sm;rw[U]at Uu;cases Uu;refine⟨cs,g2,g3,g4,g5,fun o U2=> ?_⟩;have W:=j.wrote U2 g4 g2;have X:=g6 o U2;rw[cc]at X;obtain⟨_,a4,Uv,g,L,Y,M,Z,r6⟩:=X.set (i:=(i:Int)) om om 2 [.int .i64 t] (setCells (m[i]).row 1 [.int .i64 (Cs s m[i].state)]) (by rw[cc,wI (by rw[eb,en,eH,sH];omega)]) sm;rw[U]at Uv;cases Uv;refine⟨W,g,L,Y,M,Z,fun V adl=>next V (W.wrote adl M L) ?_⟩
    have o78:=r6 V adl;rw[cc,List.set_set]at o78;exact o78
   refine⟨g1,a2,U,fun K x70=> ?_,fun w79 x79=> ?_⟩
   ·have j:=J.ext x70 sm sm;obtain⟨cs,q1,q2,q3,q4,q5⟩:=two K j (a.kR x70);refine⟨_,bS j.at_ rfl,cs,_,q1,q2,q3,q4,rfl,fun o U2=>⟨g1,a2,U,?_⟩⟩;obtain⟨_,g,r1,L,Y,M,Z⟩:=q5 o U2;exact⟨g,_,r1,L,Y,M,rfl,Z⟩
   ·have j79:=J.ext x79 sm sm;obtain⟨cs,q1,q2,q3,q4,q5⟩:=two w79 j79 (a.kR x79);refine⟨cs,_,q1,q2,q3,q4,rfl,fun w82 ahJ=> ?_⟩;obtain⟨j82,g,r1,L,Y,M,Z⟩:=q5 w82 ahJ;exact⟨_,bS j82.at_ rfl,g1,a2,U,g,_,r1,L,Y,M,rfl,Z⟩
end

theorem U3{α:Type}{f:Option α->α->Int}:∀(l:List α)(p:Option α)(i:Nat),(Gj f p i l).2=0->∀a∈l,∃d,f d a=0:=by
 intro l;induction l with
 |nil=>intro p i _ a ha;cases ha
 |cons c r ih=>
  intro p i h a ha;rw[Gj]at h;split at h
  ·rename_i b;exact absurd h b
  ·rename_i e;rcases cy.1 ha with rfl|ha
   ·exact⟨p,ek.1 e⟩
   ·exact ih _ _ h a ha
theorem Rx{p:Option Al}{a:Al}(h:gn p a=0):vR a.set=true/\vR a.reset=true:=by
 unfold gn at h;apply bx;intro k;rw[bm k]at h;cases h
theorem Ry{l:List Al}(h:(sM l).2=0):∀a∈l,vR a.set=true/\vR a.reset=true:=by
 unfold sM at h;split at h
 ·cases h
 ·intro a ha;obtain⟨p,h⟩:=U3 l none 0 h a ha;exact Rx h
theorem U4{l:List Al}{m:List Lp}(h:xT l m=true):(∀a∈l,vR a.set=true/\vR a.reset=true)/\l.length=m.length/\∀x∈m,(0<=x.state/\x.state<=4)/\0<=x.since/\x.since<=1073741824:=by
 unfold xT at h;rw[cz,cz]at h;have hl:=fk h.2.1;refine⟨Ry (fk h.1),hl,fun x hx=> ?_⟩;obtain⟨i,hi,rfl⟩:=List.mem_iff_getElem.1 hx;have hz:i<(l.zip m).length:=by rw[Jo];omega
 have:=gu.1 h.2.2 _ (bA hz);have b:(l.zip m)[i]=(l[i],m[i]):=by simp
 rw[b]at this;have:=fk this;exact⟨⟨this.2.1,this.2.2.1⟩,this.2.2.2⟩
theorem U5{w:World}(hg:bk w){y:Va}(hy:mc y.num):Pure Tryz.prog 70 #[y.val] w fun v _=>v= .bool (!vR y.num):=by
 refine F.qB.vc fun w1 a=>pm (rD (hg.next (k0 a)) hy) ?_
 rintro v b _ rfl;refine⟨_,rfl,ca Value.bool ?_⟩;cases vR y.num<;>rfl
theorem U6{w:World}{p:Nat}{t:Int}(h:w.heap[p]? =some (.cells [Value.int .i64 t].toArray 3 (0,0)))(x:Lp):
  Pure Tryz.prog 74 #[x.val,.pointer (some ⟨p,0,none⟩)] w fun v _=>v= .bool (decide (x.since>t)):=
 F.qC.vc fun w1 a=>⟨_,bS (ext_nil a h) rfl,rfl⟩
section
variable {w:World} {A A1 A2:Option Addr} {n c n1 c1 n2 c2:Nat} {l:List Al} {m:List Lp} {v:List Va} {t:Int}
theorem cN(hg:bk w)(hl:bR w A 8 (l.map Al.row))(hlen:l.length=n)(hn:n<1000000)(M:∀x∈l,UT x)(hm:bR w A1 3 (m.map Lp.row))(j:m.length=n1)(N:bR w A2 4 (v.map Va.row))(O:v.length=n2)(Wp:n2<1000000)(P:∀y∈v,mc y.num)(zc:n1<1000000):
  Pure Tryz.prog 30 #[.slice A n c,.slice A1 n1 c1,.slice A2 n2 c2,.int .i64 t] w (GU (xW l m v t) w.heap.size):=by
 refine F.cN.vc fun w1 x1=> ?_
 have h1:=k0 x1;refine pm (eA (hg.next h1) (hl.av h1 lf) hlen om M (hm.av h1 lf) j) ?_;rintro r w4 b4 rfl;have B:=kP h1 b4;unfold xW;refine⟨_,rfl,fun q=>by rw[bm q];exact GU.no _ _,fun q=> ?_⟩;rw[aq q];obtain⟨f1,f2,f3⟩:=U4 (by simpa using q);refine pm (KQ (N.av B lf) O om (a:= #[]) (k:= #[]) (p:=fun y=> !vR y.num) kF fun w' hb y hy=>U5 (hg.next (kP B hb)) (P y hy)) ?_;rintro r w7 b7 rfl;have h7:=kP B b7;refine⟨_,rfl,fun q=>by rw[bm q];exact GU.no _ _,fun Q=> ?_⟩;rw[aq (by rw[Q];decide)];have C:∀y∈v,mc y.num/\vR y.num=true:=fun y hy=>⟨P y hy,by
  have:=wJ.1 Q y hy;simpa using this⟩
 refine⟨fun k=>by rw[bm om];exact GU.no _ _,fun k=> ?_⟩;rw[aq om];refine pm (jM t w7) ?_;rintro r jK xP rfl;have R:=kP h7 xP;refine⟨_,rfl,fun k=>by rw[bm (hP k)];exact GU.no _ _,fun k p hp S=> ?_⟩;have T:0<=t/\t<=1073741824:=by simpa using k
 rw[aq (fun q=>q T)];refine pm (Cj (hm.av R lf) j om (a:= #[]) (k:= #[.pointer (some ⟨p,0,none⟩)]) (p:=fun x=>decide (x.since>t)) kF fun w' hb x _=>U6 (ag S hb) x) ?_;rintro r GO U rfl;have D:=kP R U;have E:=ag S U;refine⟨_,rfl,fun k=>by rw[bm k];exact GU.no _ _,fun k Ed V=> ?_⟩;rw[aq (by rw[k];decide)];have b:=kE D V;have Rz:=ext_nil V E;refine yM (tk:=3) (zv:= .nilFunc) b.size fun Kv m18 W G an4 ZG=> ?_
 have d:=kP b W;have H:=ag Rz W;have i5:∀z:Int,0<=z->z<=4->aS .i64 z:=fun z _ _=>by simp only[aS];omega
 refine cV m18 mpA (i5 0 om om) _ om b.size d.size fun Ar m20 e g20=> ?_
 refine cV m20 mpA (i5 1 om om) _ om b.size (dT d.size e.size) fun Ee m21 o g21=> ?_
 refine cV m21 mpA (i5 2 om om) _ om b.size (dT d.size (dT e.size o.size)) fun tG m22 I g22=> ?_
 refine cV m22 mpA (i5 3 om om) _ om b.size (dT d.size (dT e.size (dT o.size I.size))) fun CR m23 X g23=> ?_
 refine cV m23 mpA (i5 4 om om) _ om b.size (dT d.size (dT e.size (dT o.size (dT I.size X.size)))) fun Y m24 OY g24=> ?_
 have Z:∀{k ty:Nat} {cs:Array Value},Kv.heap[k]? =some (.cells cs ty (0,0))->Y.heap[k]? =some (.cells cs ty (0,0)):=fun hk=>by
  have Tm:=(oU m18 g20 hk).trans hk;have g:=(oU m20 g21 Tm).trans Tm;have h:=(oU m21 g22 g).trans g;have i:=(oU m22 g23 h).trans h;exact(oU m23 g24 i).trans i
 have J:Below w.heap.size w Y:=d.trans (e.trans (o.trans (I.trans (X.trans OY))));refine pm (AE (hm.av J lf) j om) ?_;rintro r Eo OZ ⟨A25,c25,rfl,K⟩;have L:Jy w Eo p G Ed.heap.size t:=Jy.below ⟨J,Z H,Z ZG,m24.le b.size⟩ OZ;refine⟨_,_,_,rfl,Rv hg hl hlen (fun x hx=>⟨M x hx,f1 x hx⟩) hm j om hn N O Wp C T f3 n1 0 Eo rfl om L ?_⟩;rw[LO,Lb,rT];exact K.base J.size
end
end Go.Proofs.YtbcojgcjjpggnaaGreatDoor.B
