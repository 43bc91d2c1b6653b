/- Part 5 of the proofs that: SequenceStates, SequenceOrders and SequenceChecks hold for every input: the program's functions return what the reference functions return -/
import Derived.Test.YtgfkeadgjkfomaaGreatDoorS4
import Derived.Test.YtgfkeadgjkfomaaGreatDoorProg
import Derived.Deep.Slices
set_option linter.unusedVariables false
set_option linter.unusedSimpArgs false
namespace Go.Proofs.YtgfkeadgjkfomaaGreatDoor.B
open Go Go.RowKit Go.Proofs Go.Proofs.YtgfkeadgjkfomaaGreatDoor.Vc

def cK(w:World)(A:Option Addr)(sz:Nat)(rows:List (List Value)):Prop:=
 rows=[]∨∃b off cs ty fr,A=some ⟨b,off,none⟩/\w.heap[b]? =some (.cells cs ty fr)/\∀i,(h:i<rows.length)->∀j,(hj:j<rows[i].length)->rows[i].length=sz/\cs[off+i*sz+j]? =some (rows[i][j])

theorem cK.below{w w':World}{A:Option Addr}{sz:Nat}{rows:List (List Value)}(h:cK w A sz rows)(hb:Below w.heap.size w w'):cK w' A sz rows:=by
 rcases h with h|⟨b,off,cs,ty,fr,c,a,d⟩
 ·exact .inl h
 ·exact .inr ⟨b,off,cs,ty,fr,c,(hb.block b (bU.1 a).1).trans a,d⟩
theorem cK.aj{w w':World}{A:Option Addr}{sz B:Nat}{rows:List (List Value)}(h:cK w A sz rows)(hb:Below B w w')(hB:w.heap.size<=B):cK w' A sz rows:=h.below (hb.mono hB)
theorem wq(b off i j sz:Nat):(((⟨b,off,none⟩:Addr).add (i*sz)).add j)=⟨b,off+i*sz+j,none⟩:=by
 have a:∀o k:Nat,(⟨b,o,none⟩:Addr).add k=⟨b,o+k,none⟩:=by
  intro o k;unfold Addr.add;split
  ·rename_i h;subst h;rfl
  ·rfl
 rw[a,a]

theorem cK.load{w:World}{A:Option Addr}{sz n:Nat}{rows:List (List Value)}(h:cK w A sz rows)(hl:rows.length=n){j:Int}(h0:0<=j)(h1:j<n):
  (0<=j/\j<n)/\∃a,A=some a/\∀row,rows[j.toNat]? =some row->row.length=sz->ae w (a.add (j.toNat*sz)) row/\∀k v,row[k]? =some v->ae w ((a.add (j.toNat*sz)).add k) [v]:=by
 refine⟨⟨h0,h1⟩,?_⟩;rcases h with h|⟨b,off,cs,ty,fr,l,m,o⟩
 ·subst h;simp at hl;omega
 ·refine⟨_,l,fun row q hlen=> ?_⟩;have hj:j.toNat<rows.length:=om;have g:rows[j.toNat]=row:=by simpa[hj]using q
  have c:∀k v,row[k]? =some v->w.cell? (((⟨b,off,none⟩:Addr).add (j.toNat*sz)).add k)=some v:=by
   intro k v d;obtain⟨e,r⟩:=ew.1 d;rw[wq];simp only[World.cell?,m];have:=(o j.toNat hj k (by rw[g];exact e)).2;rw[this];subst g;simp[r]
  refine⟨fun i hi=>c i _ (by simp[hi]),fun k v d i hi=> ?_⟩;simp at hi;subst hi;have:=c k v d;rw[show((((⟨b,off,none⟩:Addr).add (j.toNat*sz)).add k).add 0)=(((⟨b,off,none⟩:Addr).add (j.toNat*sz)).add k) by simp[Addr.add]];exact this

def bF(w:World)(B ty:Nat)(A:Option Addr)(n c sz:Nat)(rows:List (List Value)):Prop:=
 w.ownsRow B ty sz (.slice A n c) n rows.flatten/\rows.length=n/\∀r∈rows,r.length=sz
theorem bF.sl{w:World}{B ty:Nat}{A:Option Addr}{n c sz:Nat}{rows:List (List Value)}(h:bF w B ty A n c sz rows):cK w A sz rows:=by
 obtain⟨h,hl,b⟩:=h;rcases h.2 with⟨h1,h2⟩|⟨g,cap,cur,h1,hb,k,m,hm,hs,d⟩
 ·left
  exact gz om
 ·cases h1;refine .inr ⟨g,0,cur,ty,_,rfl,k,fun i hi j hj=>⟨b _ (cd _),?_⟩⟩;have hlen:rows[i].length=sz:=b _ (cd _);have key:rows.flatten[i*sz+j]? =some (rows[i][j]):=by
   clear d h hl;induction rows generalizing i with
   |nil=>simp at hi
   |cons r rs ih=>
    have o:r.length=sz:=b r sm;cases i with
    |zero=>
     have a:j<r.length:=hj;rw[Pk,oi,ug,oj a];simp[a]
    |succ i=>
     have l:i<rs.length:=by simpa using hi
     have a:j<rs[i].length:=hj;rw[ug,mP (by rw[mw];omega)];have:=ih (fun x hx=>b x (by simp[hx])) i l a hlen;have e:(i+1)*sz+j - r.length=i*sz+j:=by rw[mw];omega
     rw[e,this];rfl
  rw[<-d,rP]at key;split at key
  ·simpa using key
  ·cases key
theorem bF.len{w:World}{B ty:Nat}{A:Option Addr}{n c sz:Nat}{rows:List (List Value)}(h:bF w B ty A n c sz rows):rows.length=n:=h.2.1
theorem bF.sA{w:World}{B ty:Nat}{A:Option Addr}{n c sz:Nat}{rows:List (List Value)}(h:bF w B ty A n c sz rows):∀a,A=some a->B<=a.block/\a.block<w.heap.size:=by
 intro a ha;subst ha;exact World.ownsRow.lt h.1 a.block rfl
theorem bF.other{w w':World}{B ty:Nat}{A:Option Addr}{n c sz:Nat}{rows:List (List Value)}(h:bF w B ty A n c sz rows)(b:∀a,A=some a->w'.heap[a.block]? =w.heap[a.block]?):bF w' B ty A n c sz rows:=by
 refine⟨⟨h.1.1,?_⟩,h.2⟩;rcases h.1.2 with h1|⟨g,cap,cur,h1,h2,h3,h4⟩
 ·exact .inl h1
 ·cases h1;refine .inr ⟨g,_,cur,rfl,h2,?_,h4⟩;have:=b _ rfl;simp only at this;rw[this];exact h3
theorem bF.below{w w':World}{B ty:Nat}{A:Option Addr}{n c sz:Nat}{rows:List (List Value)}(h:bF w B ty A n c sz rows)(hb:Below w.heap.size w w'):bF w' B ty A n c sz rows:=
 h.other fun a ha=>hb.block _ (h.sA a ha).2
theorem bF.nil{w:World}{B ty sz:Nat}:bF w B ty none 0 0 sz []:=⟨World.ownsRow_nil _ _ _ _,rfl,sm⟩

theorem dx{t e sz bytes:Nat}(el:El Tryz.prog t e sz bytes)(xs:List Value)(hx:∀v∈xs,v.cells.size=sz)(hn:xs.length<=1024){B:Nat}{w:World}{fB:List Nat}(hB:B<=w.heap.size){K:Option Addr->Nat->Nat->World->Prop}
  (h:∀A c d,bF d w.heap.size e A xs.length c sz (xs.map fun v=>v.cells.toList)->Below w.heap.size w d->K A xs.length c d):
  au Tryz.prog (Instr.buildSlice t xs.length (xs.zipIdx.map fun x=>(x.2,x.1)).toArray) B fB w fun r w1=>∃A n c,r= .slice A n c/\K A n c w1:=by
 have a:=jk el xs hx hn w;have b:=World.grownBy_alloc w (.cells (xs.flatMap fun v=>v.cells.toList).toArray e) none;have hb:Below w.heap.size w (w.alloc (.cells (xs.flatMap fun v=>v.cells.toList).toArray e)):=bS b sm lf;have hlen:(xs.flatMap fun v=>v.cells.toList).length=xs.length*sz:=by
  clear a b hb h;induction xs with
  |nil=>simp
  |cons x r ih=>
   have h1:=hx x sm;rw[ow,fx,ih (fun v hv=>hx v (by simp[hv])) (by simp at hn;omega),gw,mw,uW,h1];omega
 refine⟨_,_,a,hb.mono hB,b.size,fun k ty cs _ g=>b.block k (bU.1 g).1 sm,_,_,_,rfl,h _ _ _ ⟨⟨?_,.inr ⟨w.heap.size,xs.length,_,rfl,hM _,heap_alloc_new w _,hM _,by simp only[maxLen];omega,?_,?_⟩⟩,sm,?_⟩ hb⟩
 ·rw[<-List.flatMap_def];exact hlen
 ·rw[DY];exact hlen
 ·rw[<-List.flatMap_def];exact bx (by rw[hlen];exact hM _)
 ·intro r a;obtain⟨v,hv,rfl⟩:=kc.1 a;simpa using hx v hv

theorem bF.gV{w:World}{B ty:Nat}{A:Option Addr}{n c sz:Nat}{rows:List (List Value)}(h:bF w B ty A n c sz rows):n<=c:=by
 obtain⟨_,_,h1,h2⟩:=ownsRow_form h.1;cases h1;exact h2
theorem ny{t ty e sz bytes:Nat}(el:El Tryz.prog t e sz bytes){B0 B:Nat}(b:B0<=B){fB:List Nat}{w:World}{A:Option Addr}{n c:Nat}{rows:List (List Value)}(ho:bF w B e A n c sz rows){x:Value}(hx:x.cells.size=sz)(h1:∀u∈x.cells.toList,dA u=true)
  (hB:B<=w.heap.size) (k9:(n+1)*(bytes+1)<=140737488355328) (d:e∉fB) {K:Option Addr->Nat->Nat->World->Prop}
  (h:∀A' c' a,bF a B e A' (n+1) c' sz (rows++[x.cells.toList])->w.grownBy a (Value.ownBlock (.slice A n c))->Below B0 w a->K A' (n+1) c' a):
  au Tryz.prog (Instr.buildSlice t 1 #[(0,x)]) B0 fB w fun r w1=>∃A2 m c2,r= .slice A2 m c2/\
   au Tryz.prog (Builtin.append_ #[t,t] ty #[.slice A n c,.slice A2 m c2]) B0 fB w1 fun r a=>∃A n c,r= .slice A n c/\K A n c a:=
 uh el b ho.1 hx h1 hB k9 d fun A' c' a g i j=>h A' c' a ⟨by rw[va];simpa using g,by simp[ho.len],fun r k=>by
  rcases h8.1 k with h|h
  ·exact ho.2.2 r h
  ·simp at h;subst h;simpa using hx⟩ i j

theorem eX(b o:Nat)(k:Nat):(⟨b,o,none⟩:Addr).add k=⟨b,o+k,none⟩:=by
 unfold Addr.add;split
 ·rename_i h;subst h;rfl
 ·rfl
theorem fX{w:World}{b ty:Nat}{vs:List Value}(h:w.heap[b]? =some (.cells vs.toArray ty (0,0))){k:Nat}{v:Value}(a:vs[k]? =some v):ae w ((⟨b,0,none⟩:Addr).add k) [v]:=by
 intro i hi;simp at hi;subst hi;rw[eX,eX];simp[World.cell?,h,a]
theorem dN{w:World}{b ty:Nat}{vs:List Value}(h:w.heap[b]? =some (.cells vs.toArray ty (0,0))){v:Value}(a:vs[0]? =some v):ae w (⟨b,0,none⟩:Addr) [v]:=by
 have:=fX h a;rwa [eX]at this
theorem bK{w w':World}{b:Nat}{o:Obj}(h:w.heap[b]? =some o)(hb:Below w.heap.size w w'):w'.heap[b]? =some o:=(hb.block b (bU.1 h).1).trans h

theorem ext_nil{B:Nat}{w w':World}(x:Ext B [] w w'){k:Nat}{o:Obj}(h:w.heap[k]? =some o):w'.heap[k]? =some o:=by
 rcases x.other k (bU.1 h).1 with h1|⟨t,a,_⟩
 ·rw[h1];exact h
 ·simp at a
theorem bF.eA{B0:Nat}{w w':World}{B ty:Nat}{A:Option Addr}{n c sz:Nat}{rows:List (List Value)}(h:bF w B ty A n c sz rows)(x:Ext B0 [] w w'):bF w' B ty A n c sz rows:=
 h.other fun a ha=>by
  rcases x.other a.block (h.sA a ha).2 with h1|⟨t,b,_⟩
  ·exact h1
  ·simp at b
theorem cK.eA{B0:Nat}{w w':World}{A:Option Addr}{sz:Nat}{rows:List (List Value)}(h:cK w A sz rows)(x:Ext B0 [] w w'):cK w' A sz rows:=by
 rcases h with h|⟨b,off,cs,ty,fr,a,c,d⟩
 ·exact .inl h
 ·exact .inr ⟨b,off,cs,ty,fr,a,ext_nil x c,d⟩

theorem Cr{sz:Nat}{cs:Array Value}:∀(rows:List (List Value)) (off:Nat),(∀r∈rows,r.length=sz)->(∀i,(h:i<rows.length)->∀j,(hj:j<rows[i].length)->cs[off+i*sz+j]? =some (rows[i][j]))->∀(j:Nat)(u:Value),rows.flatten[j]? =some u->cs[off+j]? =some u:=by
 intro rows;induction rows with
 |nil=>intro off _ _ j u hu;simp at hu
 |cons r rs ih=>
  intro off a b j u hu;have h0:r.length=sz:=a r sm;by_cases hj:j<r.length
  ·rw[ug,oj hj]at hu;have:=b 0 sm j hj;simp only[Pk,ob,List.getElem_cons_zero]at this;rw[this];simpa[hj]using hu
  ·rw[ug,mP om]at hu;have:=ih (off+sz) (fun x hx=>a x (by simp[hx])) (fun i hi k c=>by
    have:=b (i+1) (by simp;omega) k c;rw[mw]at this;rw[show off+sz+i*sz+k=off+(i*sz+1*sz)+k by omega];exact this) (j - r.length) u hu
   rw[show off+j=off+sz+(j - r.length) by omega];exact this

theorem wu{t ty e sz bytes:Nat}(el:El Tryz.prog t e sz bytes){B0 B:Nat}(o:B0<=B){fB:List Nat}{w:World}{A:Option Addr}{n c:Nat}{rows:List (List Value)}(ho:bF w B e A n c sz rows)
  {a:Addr} {m c2:Nat} {more:List (List Value)} (g:cK w (some a) sz more) (hm:more.length=m) (k:∀r∈more,r.length=sz) (h1:∀r∈more,∀u∈r,dA u=true)
  (hB:B<=w.heap.size) (k9:(n+m)*(bytes+1)<=140737488355328) (q:e∉fB) {K:Option Addr->Nat->Nat->World->Prop}
  (h:∀A' c' d,bF d B e A' (n+m) c' sz (rows++more)->w.grownBy d (Value.ownBlock (.slice A n c))->Below B0 w d->K A' (n+m) c' d):
  au Tryz.prog (Builtin.append_ #[t,t] ty #[.slice A n c,.slice (some a) m c2]) B0 fB w fun r d=>∃A n c,r= .slice A n c/\K A n c d:=by
 have hlen:more.flatten.length=m*sz:=by
  rw[<-hm];clear g hm h1 h k9;induction more with
  |nil=>simp
  |cons r rs ih=>rw[ug,fx,ih (fun x hx=>k x (by simp[hx])),k r sm,gw,mw];omega
 refine rh el o ho.1 (news:=more.flatten) hlen (fun j u hu=> ?_) (fun u hu=> ?_) hB k9 q fun A' c' d y z C=>h A' c' d ⟨by rw[va];exact y,by simp[ho.len,hm],fun r l=> ?_⟩ z C
 ·rcases g with g|⟨b,off,cs,ty,fr,D,E,F⟩
  ·subst g;simp at hu
  ·cases D;rw[eX];simp only[World.cell?,E];have:=Cr more off k (fun i hi j hj=>(F i hi j hj).2) j u hu;simpa using this
 ·obtain⟨r,l,G⟩:=List.mem_flatten.1 hu;exact h1 r l u G
 ·rcases h8.1 l with h|h
  ·exact ho.2.2 r h
  ·exact k r h

theorem cK.sN{w:World}{sz:Nat}{rows:List (List Value)}(h:cK w none sz rows):rows=[]:=by
 rcases h with h|⟨b,off,cs,ty,fr,a,_⟩
 ·exact h
 ·cases a

theorem DW(p:List Value):∀(vs l:List Value)(o:Nat),setCells (p++l) (p.length+o) vs=p++setCells l o vs:=by
 intro vs;induction vs with
 |nil=>intro l o;rfl
 |cons v r ih=>
  intro l o;rw[setCells,setCells,Iq _ _ om,show p.length+o - p.length=o by omega,HW,ih]
theorem BL(q:List Value):∀(vs l:List Value)(o:Nat),o+vs.length<=l.length->setCells (l++q) o vs=setCells l o vs++q:=by
 intro vs;induction vs with
 |nil=>intro l o _;rfl
 |cons v r ih=>
  intro l o h;simp only[gw]at h;rw[setCells,setCells,List.set_append_left _ _ om,ih _ _ (by simp;omega)]
theorem wx:∀(vs l:List Value)(o:Nat),(setCells l o vs).length=l.length:=by
 intro vs;induction vs with
 |nil=>intro l o;rfl
 |cons v r ih=>intro l o;rw[setCells,ih];simp
theorem sO{sz:Nat}:∀(rows:List (List Value)),(∀r∈rows,r.length=sz)->rows.flatten.length=rows.length*sz:=by
 intro rows;induction rows with
 |nil=>intro _;simp
 |cons r rs ih=>intro h;rw[ug,fx,ih (fun x hx=>h x (by simp[hx])),h r sm,gw,mw];omega
theorem FO{sz:Nat}{rows:List (List Value)}(h:∀r∈rows,r.length=sz){i:Nat}{row:List Value}(a:rows[i]? =some row){k:Nat}{vs:List Value}(d:k+vs.length<=sz):
  setCells rows.flatten (i*sz+k) vs=(rows.set i (setCells row k vs)).flatten:=by
 obtain⟨hi,e⟩:=ew.1 a;have b:rows=rows.take i++row::rows.drop (i+1):=by
  rw[<-e,<-ec hi,ly]
 have hl:(rows.take i).length=i:=by simp;omega
 have hp:(rows.take i).flatten.length=i*sz:=by rw[sO _ (fun r c=>h r (mr c)),hl]
 have c:row.length=sz:=h row (hJ a)
 conv=>lhs;rw[b]
 conv=>rhs;rw[b]
 rw[Iq _ _ om,hl,Nat.sub_self,List.set_cons_zero,va,va,ug,ug,<-hp,DW,BL _ _ _ _ om]

theorem bF.set{w:World}{B ty:Nat}{A:Option Addr}{n c sz:Nat}{rows:List (List Value)}(h:bF w B ty A n c sz rows){i:Int}(h0:0<=i)(h1:i<n)(k:Nat)(vs:List Value)(row:List Value)(e:rows[i.toNat]? =some row)(j:k+vs.length<=sz):
  (0<=i/\i<n)/\∃a,A=some a/\∃cs:List Value,B<=((a.add (i.toNat*sz)).add k).block/\((a.add (i.toNat*sz)).add k).spot=none/\w.heap[((a.add (i.toNat*sz)).add k).block]? =some (.cells cs.toArray ty (0,0))/\((a.add (i.toNat*sz)).add k).off+vs.length<=cs.length/\
   ∀w1,dd w w1 ((a.add (i.toNat*sz)).add k).block ty (setCells cs ((a.add (i.toNat*sz)).add k).off vs)->bF w1 B ty A n c sz (rows.set i.toNat (setCells row k vs)):=by
 refine⟨⟨h0,h1⟩,?_⟩;have hl:=h.len;have l:∃a,A=some a:=by
  rcases h.1.2 with⟨_,h2⟩|⟨g,cap,cur,h2,_⟩
  ·omega
  ·cases h2;exact⟨_,rfl⟩
 obtain⟨a,rfl⟩:=l;have hlen:rows.flatten.length=n*sz:=by rw[sO _ h.2.2,hl]
 have hle:i.toNat*sz+k+vs.length<=rows.flatten.length:=by
  have:(i.toNat+1)*sz<=n*sz:=fT _ om;rw[mw]at this;omega
 obtain⟨cs,c1,c2,c3,c4,c5,m⟩:=ui h.1 (off:=i.toNat*sz+k) hle;obtain⟨b,o,s⟩:=a;simp only at c1 c2 c3 c4;subst c2;subst c3;refine⟨⟨b,0,none⟩,rfl,?_⟩;rw[wq];simp only[oi];refine⟨cs,c1,trivial,c4,c5,fun w1 hw=>⟨?_,by simp[hl],fun r q=> ?_⟩⟩
 ·have:=m w1 hw;rwa [FO h.2.2 e j]at this
 ·rcases DD q with d|d
  ·exact h.2.2 r d
  ·subst d;rw[wx];exact h.2.2 row (hJ e)
theorem VH(a:Addr):a.add 0=a:=by unfold Addr.add;simp
theorem bF.FP{w:World}{B ty:Nat}{A:Option Addr}{n c sz:Nat}{rows:List (List Value)}(h:bF w B ty A n c sz rows){i:Int}(h0:0<=i)(h1:i<n)(vs:List Value)(row:List Value)(d:rows[i.toNat]? =some row)(g:vs.length=sz):
  (0<=i/\i<n)/\∃a,A=some a/\∃cs:List Value,B<=(a.add (i.toNat*sz)).block/\(a.add (i.toNat*sz)).spot=none/\w.heap[(a.add (i.toNat*sz)).block]? =some (.cells cs.toArray ty (0,0))/\(a.add (i.toNat*sz)).off+vs.length<=cs.length/\
   ∀w1,dd w w1 (a.add (i.toNat*sz)).block ty (setCells cs (a.add (i.toNat*sz)).off vs)->bF w1 B ty A n c sz (rows.set i.toNat vs):=by
 obtain⟨h2,a,j,cs,c1,c2,c3,c4,c5⟩:=h.set h0 h1 0 vs row d om;rw[VH]at c1 c2 c3 c4 c5;have e:setCells row 0 vs=vs:=by
  have b:row.length=vs.length:=by rw[g];exact h.2.2 row (hJ d)
  clear d c5 g;have gen:∀(vs row p:List Value),row.length=vs.length->setCells (p++row) p.length vs=p++vs:=by
   intro vs;induction vs with
   |nil=>intro row p b;have:row=[]:=gz b;subst this;rfl
   |cons v r ih=>
    intro row p b;cases row with
    |nil=>simp at b
    |cons u t=>
     rw[setCells,Iq _ _ lf,Nat.sub_self,List.set_cons_zero];have:=ih t (p++[v]) (by simpa using b);simpa using this
  simpa using gen vs row [] b
 rw[e]at c5;exact⟨h2,a,j,cs,c1,c2,c3,c4,c5⟩
theorem dd.sP{w w1:World}{B b ty:Nat}{cs:List Value}(h:dd w w1 b ty cs)(hB:B<=b):Below B w w1:=
 ⟨h.os,h.tape,h.output,by rw[h.size];exact hM _,fun k a=>h.rest k om⟩
theorem bF.base{w:World}{B a ty:Nat}{A:Option Addr}{n c sz:Nat}{rows:List (List Value)}(h:bF w a ty A n c sz rows)(hB:B<=a):bF w B ty A n c sz rows:=by
 refine⟨⟨h.1.1,?_⟩,h.2⟩;rcases h.1.2 with h2|⟨g,cap,cur,h2,h3,h4⟩
 ·exact .inl h2
 ·exact .inr ⟨g,cap,cur,h2,ga hB h3,h4⟩
theorem DX:∀(vs l:List Value)(o k:Nat),o+vs.length<=l.length->(setCells l o vs)[k]? =if o<=k/\k<o+vs.length then vs[k - o]? else l[k]? :=by
 intro vs;induction vs with
 |nil=>intro l o k h;rw[setCells,ar (by intro⟨a,b⟩;simp at b;omega)]
 |cons v r ih=>
  intro l o k h;simp only[gw]at h⊢;rw[setCells,ih _ _ _ (by simp;omega)];by_cases h1:o+1<=k/\k<o+1+r.length
  ·rw[cc h1,cc om,show k - o=(k - (o+1))+1 by omega,List.getElem?_cons_succ]
  ·rw[ar h1];by_cases h2:k=o
   ·subst h2;rw[cc om,oK om];simp
   ·rw[ar om,qH om]

theorem uu(b t:Nat):∀(vs:List Value)(o:Nat)(w:World)(cur:List Value),w.heap[b]? =some (.cells cur.toArray t (0,0))->
  (w.setCells b o vs).heap[b]? =some (.cells (setCells cur o vs).toArray t (0,0))/\(∀k,k≠b->(w.setCells b o vs).heap[k]? =w.heap[k]?)/\(w.setCells b o vs).heap.size=w.heap.size/\(w.setCells b o vs).os=w.os/\(w.setCells b o vs).tape=w.tape/\(w.setCells b o vs).output=w.output:=by
 intro vs;induction vs with
 |nil=>intro o w cur h;exact⟨h,fun _ _=>rfl,rfl,rfl,rfl,rfl⟩
 |cons v r ih=>
  intro o w cur h;have h1:(w.setCell ⟨b,o,none⟩ v).heap[b]? =some (.cells (cur.set o v).toArray t (0,0)):=by
   simp[World.setCell,Nq,h]
  obtain⟨c,d,g,i,j,l⟩:=ih (o+1) (w.setCell ⟨b,o,none⟩ v) (cur.set o v) h1;rw[World.setCells];refine⟨c,fun k a=> ?_,?_,?_,?_,?_⟩
  ·rw[d k a];exact RowKit.Below.heap_setCell _ _ _ _ (fun e=>a (by first|exact e|exact e.symm))
  ·rw[g];simp[World.setCell]
  ·rw[i];rfl
  ·rw[j];rfl
  ·rw[l];rfl
theorem zR{w:World}{B b t:Nat}{cur vs:List Value}{o:Nat}(h:w.heap[b]? =some (.cells cur.toArray t (0,0)))(hB:B<=b):Below B w (w.setCells b o vs):=by
 obtain⟨g,a,i,c,d,e⟩:=uu b t vs o w cur h;exact⟨c,d,e,om,fun k j=>a k om⟩

theorem bF.cells{w:World}{B ty:Nat}{A:Option Addr}{n c sz:Nat}{rows:List (List Value)}(h:bF w B ty A n c sz rows):∀a,A=some a->∃cs:Array Value,w.heap[a.block]? =some (.cells cs ty (0,0)):=by
 intro a ha;subst ha;rcases h.1.2 with⟨h2,_⟩|⟨g,cap,cur,h2,h3,h4,_⟩
 ·cases h2
 ·cases h2;exact⟨cur,h4⟩
theorem Cs{w:World}{a b c tb:Nat}{d g:Array Value}(ha:w.heap[a]? =some (.cells d c (0,0)))(hb:w.heap[b]? =some (.cells g tb (0,0)))(h:c≠tb):a≠b:=by
 intro e;subst e;rw[ha]at hb;cases hb;exact h rfl

theorem J3(t:Nat)(v:Value){B:Nat}{w:World}{fB:List Nat}(hB:B<=w.heap.size){K:Addr->World->Prop}
  (h:∀b,b.heap[w.heap.size]? =some (.cells v.cells t (0,0))->Below w.heap.size w b->w.heap.size<b.heap.size->K ⟨w.heap.size,0,none⟩ b):
  au Tryz.prog (Instr.box t v) B fB w fun r w1=>∃a,r= .pointer (some a)/\K a w1:=by
 have e:(Instr.box t v).run Tryz.prog w= .ok (.pointer (some ⟨w.heap.size,0,none⟩)) (w.alloc (.cells v.cells t)):=by
  simp[Instr.box,Sem.run_bind,Sem.run,newVar,newRow,newObj]
 have c:=World.grownBy_alloc w (.cells v.cells t) none;have hb:Below w.heap.size w (w.alloc (.cells v.cells t)):=bS c sm lf;have d:=heap_alloc_new w (.cells v.cells t);exact⟨_,_,e,hb.mono hB,c.size,fun k ty cs _ g=>c.block k (bU.1 g).1 sm,_,rfl,h _ d hb (bU.1 d).1⟩
theorem pC(t:Nat){z:Value}(g:((Tryz.prog.info? t).bind (·.zero))=some z){B:Nat}{w:World}{fB:List Nat}(hB:B<=w.heap.size){K:Addr->World->Prop}
  (h:∀b,b.heap[w.heap.size]? =some (.cells z.cells t (0,0))->Below w.heap.size w b->w.heap.size<b.heap.size->K ⟨w.heap.size,0,none⟩ b):
  au Tryz.prog (Instr.alloc t true (.tuple #[])) B fB w fun r w1=>∃a,r= .pointer (some a)/\K a w1:=by
 obtain⟨i,hi,c⟩:=uz.1 g;have j:(Instr.alloc t true (.tuple #[])).run Tryz.prog w= .ok (.pointer (some ⟨w.heap.size,0,none⟩)) (w.alloc (.cells z.cells t)):=by
  simp[Instr.alloc,zeroValue,typeInfo,program,Sem.run_bind,Sem.run,hi,c,newVar,newRow,newObj]
 have d:=World.grownBy_alloc w (.cells z.cells t) none;have hb:Below w.heap.size w (w.alloc (.cells z.cells t)):=bS d sm lf;have e:=heap_alloc_new w (.cells z.cells t);exact⟨_,_,j,hb.mono hB,d.size,fun k ty cs _ l=>d.block k (bU.1 l).1 sm,_,rfl,h _ e hb (bU.1 e).1⟩

def js{α:Type}(p:α->Bool):Nat->List α->Int
 |_,[]=> -1
 |i,c::r=>if p c then(i:Int)else js p (i+1) r
theorem MK{α:Type}(p:α->Bool):∀(l:List α)(k:Nat),(0<=js p k l)↔l.any p=true:=by
 intro l;induction l with
 |nil=>intro k;simp[js]
 |cons c r ih=>
  intro k;rw[js];by_cases h:p c=true
  ·rw[cc h];simp[h]
  ·rw[ar h,ih];simp[h]

theorem bF.ML{B0:Nat}{ts:List Nat}{w w':World}{B ty:Nat}{A:Option Addr}{n c sz:Nat}{rows:List (List Value)}(h:bF w B ty A n c sz rows)(x:Ext B0 ts w w')(d:ty∉ts):bF w' B ty A n c sz rows:=
 h.other fun a ha=>by
  obtain⟨cs,e⟩:=h.cells a ha;rcases x.other a.block (h.sA a ha).2 with h1|⟨t,h2,c1,c2,fr,b,g⟩
  ·exact h1
  ·rw[e]at b;cases b;exact absurd h2 d
theorem lV{w:World}{b ty:Nat}{vs:List Value}(h:w.heap[b]? =some (.cells vs.toArray ty (0,0))):ae w (⟨b,0,none⟩:Addr) vs:=by
 intro i hi;rw[eX];simp[World.cell?,h]

theorem yJ{B:Nat}{w w':World}(x:Ext B [] w w'):Below w.heap.size w w':=
 ⟨x.below.os,x.below.tape,x.below.output,x.below.size,fun k a=>by
  have h:w.heap[k]? =some w.heap[k]:=Array.getElem?_eq_getElem a;rw[ext_nil x h,h]⟩

theorem cK.take{w:World}{A:Option Addr}{sz:Nat}{rows:List (List Value)}(h:cK w A sz rows)(k:Nat):cK w A sz (rows.take k):=by
 rcases h with h|⟨b,off,cs,ty,fr,c,d,g⟩
 ·subst h;exact .inl sm
 ·refine .inr ⟨b,off,cs,ty,fr,c,d,fun i hi j hj=> ?_⟩;have l:i<rows.length:=by rw[fs]at hi;omega
  have e:(rows.take k)[i]=rows[i]:=by simp
  have a:j<rows[i].length:=by rw[<-e];exact hj
  have:=g i l j a;simpa using this
theorem cK.VI{w:World}{A:Option Addr}{sz c:Nat}{rows:List (List Value)}(h:cK w A sz rows){k:Nat}(o:rows.length<=c):cK w (kA A k c sz) sz (rows.drop k):=by
 by_cases h0:rows.length<=k
 ·exact .inl (dp h0)
 rcases h with h|⟨b,off,cs,ty,fr,g,l,a⟩
 ·subst h;exact .inl sm
 ·refine .inr ⟨b,off+k*sz,cs,ty,fr,?_,l,fun i hi j hj=> ?_⟩
  ·unfold kA;rw[ar om,g,Ro,eX]
  ·have m:k+i<rows.length:=by rw[zB]at hi;omega
   have e:(rows.drop k)[i]=rows[k+i]:=by simp
   have d:j<rows[k+i].length:=by rw[<-e];exact hj
   have:=a (k+i) m j d;have n:off+k*sz+i*sz+j=off+(k+i)*sz+j:=by rw[mw];omega
   rw[n];simpa using this
theorem MM{t ty e sz bytes:Nat}(el:El Tryz.prog t e sz bytes){B0 B:Nat}(j:B0<=B){fB:List Nat}{w:World}{A:Option Addr}{n c:Nat}{rows:List (List Value)}(ho:bF w B e A n c sz rows)
  {A2:Option Addr} {m c2:Nat} {more:List (List Value)} (d:cK w A2 sz more) (hm:more.length=m) (l:∀r∈more,r.length=sz) (h1:∀r∈more,∀u∈r,dA u=true) (o:A2=none->c2=0)
  (hB:B<=w.heap.size) (k9:(n+m)*(bytes+1)<=140737488355328) (q:e∉fB) {K:Option Addr->Nat->Nat->World->Prop}
  (h:∀A' c' b,bF b B e A' (n+m) c' sz (rows++more)->w.grownBy b (Value.ownBlock (.slice A n c))->Below B w b->K A' (n+m) c' b):
  au Tryz.prog (Builtin.append_ #[t,t] ty #[.slice A n c,.slice A2 m c2]) B0 fB w fun r b=>∃A n c,r= .slice A n c/\K A n c b:=by
 cases A2 with
 |some a=>
  refine wu el j ho d hm l h1 hB k9 q fun A' c' b x g E=>h A' c' b x g ?_
  exact bS g (fun k y=>(ho.1.lt k y).1) hB
 |none=>
  have:=d.sN;subst this;have C:m=0:=by rw[<-hm];rfl
  subst C;rw[o rfl];obtain⟨i,z,h2,h3,h4,F,G⟩:=el.info;have D:=run_append_owned_none (P:=Tryz.prog) (w:=w) B t ty e i sz el.Ov h2 _ _ _ ho.1;refine⟨_,w,D,Below.refl _ _,hM _,fun _ _ _ _ _=>rfl,A,n,c,rfl,?_⟩;exact h A c w (by rw[ns];exact ho) ⟨rfl,rfl,rfl,hM _,fun _ _ _=>rfl⟩ (Below.refl _ _)

def vR(s:ByteArray):Bool:=km (bM s)
def qR(s:ByteArray):Rat:=tT (bM s)
theorem nV{s:ByteArray}(h:vR s=true):s=rS (qR s):=by
 unfold rS qR;rw[DS h];rfl
theorem rH{s:ByteArray}{k:Nat}(h:vR s=true)(hs:s.size<=k):Sm k (qR s):=by
 refine Sm.text ?_;unfold qR;rw[DS h];exact hs
theorem VJ(r:Rat):vR (rS r)=true:=zH r
theorem Rd(r:Rat):qR (rS r)=r:=wh r
abbrev rW(s:ByteArray):Prop:=s.size<=1000
theorem s0:(⟨#[48]⟩:ByteArray)=rS 0:=by
 unfold rS oa;have h1:(0:Rat).den=1:=rfl;have h2:(0:Rat).num=0:=rfl;rw[cc h1,h2,Vz];rfl
theorem Sm.zero{k:Nat}(h:1<=k):Sm k 0:=by
 have hp:10^1<=10^k:=fy om h;have h1:(0:Rat).den=1:=rfl;have h2:(0:Rat).num=0:=rfl;exact⟨by rw[h2];simp;omega,om⟩

theorem SC(z:Int):iS z=rS (z:Rat):=by
 unfold rS oa;have h1:(z:Rat).den=1:=rfl;have h2:(z:Rat).num=z:=rfl;rw[cc h1,h2];rfl
theorem wy:El Tryz.prog 85 57 1 16:=El.of kF

theorem rW.sQ{s:ByteArray}(hs:rW s)(h:vR s=true):jy (qR s):=(rH h hs).mono om

structure Pa where
 id:Int
 aO:Int
 cls:Int
 name:ByteArray
 eF:ByteArray
 nJ:ByteArray
 dP:ByteArray
structure Ho where
 id:Int
 name:ByteArray
 room:ByteArray
 il:ByteArray
 x:ByteArray
 y:ByteArray
 z:ByteArray
structure Sw where
 hold:Int
 aG:Int
 aO:Int
 deriving DecidableEq

def vP(p:Pa):Bool:=vR p.eF&&vR p.nJ&&vR p.dP
def vH(h:Ho):Bool:=vR h.room&&vR h.il&&vR h.x&&vR h.y&&vR h.z
def iC{α:Type}(f:Option α->α->Int):Option α->List α->Int
 |_,[]=>0
 |p,x::r=>if f p x≠0 then f p x else iC f (some x) r
def gF(prev:Option Pa)(p:Pa):Int:=
 if ¬((1<=p.id/\p.id<=1073741824)/\(1<=p.aO/\p.aO<=9)/\(1<=p.cls/\p.cls<=9)/\0<qR p.eF/\0<qR p.nJ/\¬qR p.dP<0)then 2
 else if ¬(1<=p.name.size/\p.name.size<=64)then 4
 else if ∃q,prev=some q/\p.id<=q.id then 5 else 0
def gW(prev:Option Ho)(h:Ho):Int:=
 if ¬((1<=h.id/\h.id<=1073741824)/\¬qR h.room<0/\¬qR h.il<0)then 2
 else if ¬(1<=h.name.size/\h.name.size<=64)then 4
 else if ∃q,prev=some q/\h.id<=q.id then 5 else 0
def eI(ps:List Pa)(hs:List Ho):Int:=
 if ¬(ps.all vP=true/\hs.all vH=true)then 1
 else if 6<ps.length∨6<hs.length then 8
 else if iC gF none ps≠0 then iC gF none ps else iC gW none hs

def nW(ps:List Pa)(id:Int):Option Nat:=ps.findIdx? fun p=>decide (p.id=id)
def pc(hs:List Ho)(id:Int):Option Nat:=hs.findIdx? fun h=>decide (h.id=id)
def mN(a b:Sw):Prop:=a.hold<b.hold∨a.hold=b.hold/\a.aG<b.aG
instance (a b:Sw):Decidable (mN a b):=by unfold mN;exact inferInstance
def cG(l:List Sw)(p:Int):Int:=(l.map fun s=>if s.aG=p then s.aO else 0).sum
def ko(ps:List Pa)(hs:List Ho)(pre:List Sw)(s:Sw):Int:=
 match nW ps s.aG,pc hs s.hold with
 |some i,some _=>
  if s.aO<1 then 2
  else if ∃q,pre.getLast? =some q/\¬mN q s then 5
  else match ps[i]? with
   |some p=>if p.aO<s.aO∨p.aO<cG (pre++[s]) s.aG then 12 else 0
   |none=>0
 |_,_=>7
def jc(ps:List Pa)(hs:List Ho):List Sw->List Sw->Int
 |_,[]=>0
 |pre,s::r=>if ko ps hs pre s≠0 then ko ps hs pre s else jc ps hs (pre++[s]) r
def cZ(ps:List Pa)(hs:List Ho)(l:List Sw):Int:=if eI ps hs≠0 then 1 else jc ps hs [] l

structure xp (ps:List Pa) (hs:List Ho):Prop where
 vp:∀p∈ps,vP p=true
 vh:∀h∈hs,vH h=true
 lp:ps.length<=6
 lh:hs.length<=6
 p1:∀p∈ps,(1<=p.id/\p.id<=1073741824)/\(1<=p.aO/\p.aO<=9)/\(1<=p.cls/\p.cls<=9)/\0<qR p.eF/\0<qR p.nJ/\¬qR p.dP<0
 h1:∀h∈hs,(1<=h.id/\h.id<=1073741824)/\¬qR h.room<0/\¬qR h.il<0
 ip:ps.Pairwise fun a b=>a.id<b.id
 ih:hs.Pairwise fun a b=>a.id<b.id
theorem yb{α:Type}{f:Option α->α->Int}{id:α->Int}{G:α->Prop}(hf:∀p x,f p x=0->G x/\∀q,p=some q->id q<id x):
  ∀(l:List α)(p:Option α),iC f p l=0->(∀x∈l,G x)/\l.Pairwise (fun a b=>id a<id b)/\(∀q,p=some q->∀x∈l,id q<id x):=by
 intro l;induction l with
 |nil=>intro p _;exact⟨sm,List.Pairwise.nil,sm⟩
 |cons x r ih=>
  intro p h;rw[iC]at h;by_cases h0:f p x=0
  ·rw[ar (fun k=>k h0)]at h;obtain⟨h1,h2,h3⟩:=ih (some x) h;obtain⟨g1,g2⟩:=hf p x h0;refine⟨?_,HO.2 ⟨fun y hy=>h3 x rfl y hy,h2⟩,fun q c y hy=> ?_⟩
   ·intro y hy;rcases fi.1 hy with rfl|hy
    ·exact g1
    ·exact h1 y hy
   ·have hx:=g2 q c;rcases fi.1 hy with rfl|hy
    ·exact hx
    ·exact Int.lt_trans hx (h3 x rfl y hy)
  ·rw[cc h0]at h;exact absurd h h0
theorem FQ(p:Option Pa)(x:Pa)(h:gF p x=0):((1<=x.id/\x.id<=1073741824)/\(1<=x.aO/\x.aO<=9)/\(1<=x.cls/\x.cls<=9)/\0<qR x.eF/\0<qR x.nJ/\¬qR x.dP<0)/\∀q,p=some q->q.id<x.id:=by
 unfold gF at h;split at h
 ·simp at h
 ·rename_i h1;split at h
  ·simp at h
  ·split at h
   ·simp at h
   ·rename_i h3;refine⟨ep.1 h1,fun q a=> ?_⟩;apply ea;intro k;exact h3 ⟨q,a,om⟩
theorem FR(p:Option Ho)(x:Ho)(h:gW p x=0):((1<=x.id/\x.id<=1073741824)/\¬qR x.room<0/\¬qR x.il<0)/\∀q,p=some q->q.id<x.id:=by
 unfold gW at h;split at h
 ·simp at h
 ·rename_i h1;split at h
  ·simp at h
  ·split at h
   ·simp at h
   ·rename_i h3;refine⟨ep.1 h1,fun q a=> ?_⟩;apply ea;intro k;exact h3 ⟨q,a,om⟩
theorem jt{ps:List Pa}{hs:List Ho}(h:eI ps hs=0):xp ps hs:=by
 unfold eI at h;split at h
 ·simp at h
 ·rename_i h1;have h1:=ep.1 h1;split at h
  ·simp at h
  ·rename_i h2;split at h
   ·rename_i h3;exact absurd h h3
   ·rename_i h3;have h3:=ep.1 h3;obtain⟨a,a2,_⟩:=yb FQ ps none h3;obtain⟨b1,b,_⟩:=yb FR hs none h;exact⟨gu.1 h1.1,gu.1 h1.2,om,om,a,b1,a2,b⟩

theorem gG{ps:List Pa}{id:Int}{i:Nat}(h:nW ps id=some i):∃p,ps[i]? =some p/\p.id=id:=by
 unfold nW at h;obtain⟨hi,hp,_⟩:=DC.1 h;exact⟨ps[i],af hi,hG hp⟩
theorem oQ{hs:List Ho}{id:Int}{i:Nat}(h:pc hs id=some i):∃p,hs[i]? =some p/\p.id=id:=by
 unfold pc at h;obtain⟨hi,hp,_⟩:=DC.1 h;exact⟨hs[i],af hi,hG hp⟩
theorem yK{α:Type}{f:α->Int}{l:List α}(h:l.Pairwise fun a b=>f a<f b){i j:Nat}{a b:α}(c:i<j)(ha:l[i]? =some a)(hb:l[j]? =some b):f a<f b:=by
 obtain⟨hi,rfl⟩:=ew.1 ha;obtain⟨hj,rfl⟩:=ew.1 hb;exact za.1 h i j hi hj c
theorem oR{α:Type}{f:α->Int}{l:List α}(h:l.Pairwise fun a b=>f a<f b){i j:Nat}{a b:α}(ha:l[i]? =some a)(hb:l[j]? =some b)(e:f a=f b):i=j:=by
 rcases Na i j with k|k|k
 ·have:=yK h k ha hb;omega
 ·exact k
 ·have:=yK h k hb ha;omega
theorem SD{ps:List Pa}(h:ps.Pairwise fun a b=>a.id<b.id){i:Nat}{p:Pa}(hp:ps[i]? =some p):nW ps p.id=some i:=by
 cases hx:nW ps p.id with
 |none=>
  unfold nW at hx;have:=DE.1 hx p (hJ hp);simp at this
 |some j=>
  obtain⟨q,c,e⟩:=gG hx;rw[oR h c hp e]
theorem SE{hs:List Ho}(h:hs.Pairwise fun a b=>a.id<b.id){i:Nat}{p:Ho}(hp:hs[i]? =some p):pc hs p.id=some i:=by
 cases hx:pc hs p.id with
 |none=>
  unfold pc at hx;have:=DE.1 hx p (hJ hp);simp at this
 |some j=>
  obtain⟨q,c,e⟩:=oQ hx;rw[oR h c hp e]

def yo(l:List Sw):Prop:=l.Pairwise mN
theorem J5{a b c:Sw}(h:mN a b)(k:mN b c):mN a c:=by unfold mN at*;omega
theorem zS(a:Sw):¬mN a a:=by unfold mN;omega
theorem Ka{a b:Sw}(h:mN a b):¬mN b a:=by unfold mN at*;omega
theorem PF:∀{d c:List Sw},yo d->yo c->(∀x,x∈d↔x∈c)->d=c:=by
 intro d;induction d with
 |nil=>
  intro c _ _ h;cases c with
  |nil=>rfl
  |cons b r=>exact absurd ((h b).2 sm) sm
 |cons a r ih=>
  intro c h1 h2 h;cases c with
  |nil=>exact absurd ((h a).1 sm) sm
  |cons b s=>
   obtain⟨p1,q1⟩:=HO.1 h1;obtain⟨g,q2⟩:=HO.1 h2;have e:a=b:=by
    rcases fi.1 ((h a).1 sm)with e|k
    ·exact e
    ·rcases fi.1 ((h b).2 sm)with e|i
     ·exact e.symm
     ·exact absurd (p1 b i) (Ka (g a k))
   subst e;rw[ih q1 q2 fun x=> ?_];constructor
   ·intro hx;rcases fi.1 ((h x).1 (by simp[hx]))with e|k
    ·subst e;exact absurd (p1 x hx) (zS x)
    ·exact k
   ·intro hx;rcases fi.1 ((h x).2 (by simp[hx]))with e|k
    ·subst e;exact absurd (g x hx) (zS x)
    ·exact k
theorem PG{l:List Sw}(h:yo l){a b:Sw}(ha:a∈l)(hb:b∈l)(g:a.hold=b.hold)(i:a.aG=b.aG):a=b:=by
 induction l with
 |nil=>cases ha
 |cons x r ih=>
  obtain⟨p,q⟩:=HO.1 h;rcases fi.1 ha with e|d
  ·rcases fi.1 hb with k|c
   ·rw[e,k]
   ·have:=p b c;rw[<-e]at this;unfold mN at this;omega
  ·rcases fi.1 hb with k|c
   ·have:=p a d;rw[<-k]at this;unfold mN at this;omega
   ·exact ih q d c

structure ek (ps:List Pa) (hs:List Ho) (l:List Sw):Prop where
 c:xp ps hs
 known:∀s∈l,∃i k,nW ps s.aG=some i/\pc hs s.hold=some k
 pos:∀s∈l,1<=s.aO
 VK:yo l
 full:∀p∈ps,cG l p.id<=p.aO
theorem fw(a b:List Sw)(p:Int):cG (a++b) p=cG a p+cG b p:=by
 unfold cG;rw[lx,List.sum_append]
theorem mO(s:Sw)(p:Int):cG [s] p=if s.aG=p then s.aO else 0:=by
 simp[cG]
theorem gl{l:List Sw}(h:∀s∈l,1<=s.aO)(p:Int):0<=cG l p:=by
 induction l with
 |nil=>simp[cG]
 |cons s r ih=>
  rw[show s::r=[s]++r from rfl,fw,mO];have:=ih fun x hx=>h x (by simp[hx])
  have:=h s sm;split<;>omega
theorem sR{ps:List Pa}{hs:List Ho}(n:xp ps hs):∀(r pre:List Sw),ek ps hs pre->jc ps hs pre r=0->ek ps hs (pre++r):=by
 intro r;induction r with
 |nil=>intro pre h _;simpa using h
 |cons s r ih=>
  intro pre h h0;rw[jc]at h0;by_cases h1:ko ps hs pre s=0
  ·rw[ar (fun k=>k h1)]at h0;have:=ih (pre++[s]) ?_ h0
   ·rw[qo]at this;exact this
   ·unfold ko at h1;cases hp:nW ps s.aG with
    |none=>rw[hp]at h1;simp at h1
    |some i=>
     cases g:pc hs s.hold with
     |none=>rw[hp,g]at h1;simp at h1
     |some k=>
      rw[hp,g]at h1;simp only at h1;split at h1
      ·simp at h1
      ·rename_i hu;split at h1
       ·simp at h1
       ·rename_i hb;obtain⟨p,l,hid⟩:=gG hp;rw[l]at h1;simp only at h1;split at h1
        ·simp at h1
        ·rename_i z;refine⟨n,fun x hx=> ?_,fun x hx=> ?_,?_,fun q o=> ?_⟩
         ·rcases h8.1 hx with hx|hx
          ·exact h.known x hx
          ·rw[gb]at hx;subst hx;exact⟨i,k,hp,g⟩
         ·rcases h8.1 hx with hx|hx
          ·exact h.pos x hx
          ·rw[gb]at hx;subst hx;omega
         ·refine uS.2 ⟨h.VK,sm,fun a ha b d=> ?_⟩;rw[gb]at d;subst d;have c:pre≠[]:=fun e=>by subst e;cases ha
          have w:pre.getLast? =some (pre.getLast c):=He c;have hl:mN (pre.getLast c) b:=by
           apply ea;intro k;exact hb ⟨_,w,k⟩
          have y:=wY c;have m:=h.VK;unfold yo at m;rw[<-y]at m ha;rcases h8.1 ha with ha|ha
          ·exact J5 ((uS.1 m).2.2 a ha _ sm) hl
          ·rw[gb]at ha;rw[ha];exact hl
         ·by_cases e:q.id=s.aG
          ·obtain⟨j,hj⟩:=List.getElem?_of_mem o;have:j=i:=oR n.ip hj l (by rw[hid];exact e);subst this;rw[l]at hj;cases hj;rw[e];omega
          ·rw[fw,mO,ar (fun k=>e k.symm)];have:=h.full q o;omega
  ·rw[cc h1]at h0;exact absurd h0 h1
theorem dt{ps:List Pa}{hs:List Ho}{l:List Sw}(h:cZ ps hs l=0):ek ps hs l:=by
 unfold cZ at h;split at h
 ·simp at h
 ·rename_i h1;have a:=jt (ep.1 h1);have h0:ek ps hs []:=⟨a,sm,sm,List.Pairwise.nil,fun p hp=>by have:=(a.p1 p hp).2.1.1;simp[cG];omega⟩;simpa using sR a l [] h0 h
theorem FT{l pre:List Sw}(h:∀s∈l,1<=s.aO){rest:List Sw}(e:l=pre++rest)(p:Int):cG pre p<=cG l p:=by
 subst e;rw[fw];have:=gl (l:=rest) (fun s hs=>h s (by simp[hs])) p;omega
def oe(l:List Sw)(h p:Int):Int:=l.foldl (fun n s=>if s.aG=p/\s.hold=h then s.aO else n) 0
theorem qB(l:List Sw)(s:Sw)(h p:Int):oe (l++[s]) h p=if s.aG=p/\s.hold=h then s.aO else oe l h p:=by
 unfold oe;rw[AY];rfl
theorem MO(h p:Int):∀(l:List Sw)(n:Int),(l.foldl (fun n s=>if s.aG=p/\s.hold=h then s.aO else n) n=n/\∀s∈l,¬(s.aG=p/\s.hold=h))∨∃s∈l,s.aG=p/\s.hold=h/\l.foldl (fun n s=>if s.aG=p/\s.hold=h then s.aO else n) n=s.aO:=by
 intro l;induction l with
 |nil=>intro n;exact .inl ⟨rfl,sm⟩
 |cons x r ih=>
  intro n;rw[LS];by_cases hx:x.aG=p/\x.hold=h
  ·rw[cc hx];rcases ih x.aO with⟨e,_⟩|⟨s,hs,a,b,c⟩
   ·exact .inr ⟨x,sm,hx.1,hx.2,e⟩
   ·exact .inr ⟨s,by simp[hs],a,b,c⟩
  ·rw[ar hx];rcases ih n with⟨e,k⟩|⟨s,hs,a,b,c⟩
   ·refine .inl ⟨e,fun s hs=> ?_⟩;rcases fi.1 hs with rfl|hs
    ·exact hx
    ·exact k s hs
   ·exact .inr ⟨s,by simp[hs],a,b,c⟩
theorem sS(l:List Sw)(h p:Int):(oe l h p=0/\∀s∈l,¬(s.aG=p/\s.hold=h))∨∃s∈l,s.aG=p/\s.hold=h/\oe l h p=s.aO:=MO h p l 0
theorem Jl{l:List Sw}(hs:yo l){s:Sw}(h:s∈l):oe l s.hold s.aG=s.aO:=by
 rcases sS l s.hold s.aG with⟨_,k⟩|⟨x,hx,a,b,c⟩
 ·exact absurd ⟨rfl,rfl⟩ (k s h)
 ·rw[c,PG hs hx h b a]
theorem FU{l:List Sw}{h p:Int}(k:∀s∈l,¬(s.aG=p/\s.hold=h)):oe l h p=0:=by
 rcases sS l h p with⟨e,_⟩|⟨x,hx,a,b,_⟩
 ·exact e
 ·exact absurd ⟨a,b⟩ (k x hx)
theorem HY{l:List Sw}(hp:∀s∈l,1<=s.aO)(h p:Int):0<=oe l h p:=by
 rcases sS l h p with⟨e,_⟩|⟨x,hx,_,_,e⟩
 ·omega
 ·have:=hp x hx;omega

def wz(f:Nat->Nat->Int)(ps:List Pa)(hs:List Ho)(k i:Nat):List Sw:=
 match hs[k]?,ps[i]? with
 |some h,some p=>if 0<f i k then[⟨h.id,p.id,f i k⟩]else[]
 |_,_=>[]
def jF(f:Nat->Nat->Int)(ps:List Pa)(hs:List Ho):List Sw:=(List.range hs.length).flatMap fun k=>(List.range ps.length).flatMap fun i=>wz f ps hs k i
theorem wA{f:Nat->Nat->Int}{ps:List Pa}{hs:List Ho}{k i:Nat}{s:Sw}:s∈wz f ps hs k i↔∃h p,hs[k]? =some h/\ps[i]? =some p/\0<f i k/\s=⟨h.id,p.id,f i k⟩:=by
 unfold wz;constructor
 ·intro hm;split at hm
  ·rename_i h p a b;split at hm
   ·rename_i h0;rw[gb]at hm;exact⟨h,p,a,b,h0,hm⟩
   ·cases hm
  ·cases hm
 ·rintro⟨h,p,a,b,h0,rfl⟩;rw[a,b];simp[h0]
theorem oA{f:Nat->Nat->Int}{ps:List Pa}{hs:List Ho}{s:Sw}:s∈jF f ps hs↔∃k i h p,hs[k]? =some h/\ps[i]? =some p/\0<f i k/\s=⟨h.id,p.id,f i k⟩:=by
 unfold jF;simp only[Ln,jA,wA];constructor
 ·rintro⟨k,e,i,hi,h,p,a,b,c,d⟩;exact⟨k,i,h,p,a,b,c,d⟩
 ·rintro⟨k,i,h,p,a,b,c,d⟩;exact⟨k,(ew.1 a).1,i,(ew.1 b).1,h,p,a,b,c,d⟩
theorem Ct{f:Nat->Nat->Int}{ps:List Pa}{hs:List Ho}(hp:ps.Pairwise fun a b=>a.id<b.id)(m:hs.Pairwise fun a b=>a.id<b.id):yo (jF f ps hs):=by
 unfold yo jF;rw[List.pairwise_flatMap];refine⟨fun k _=> ?_,?_⟩
 ·rw[List.pairwise_flatMap];refine⟨fun i _=> ?_,?_⟩
  ·unfold wz;split
   ·split<;>simp
   ·simp
  ·refine List.Pairwise.imp ?_ List.pairwise_lt_range;intro i j d x hx y hy;obtain⟨h,p,e,g,_,rfl⟩:=wA.1 hx;obtain⟨n,o,c,l,_,rfl⟩:=wA.1 hy;rw[e]at c;cases c;exact .inr ⟨rfl,yK hp d g l⟩
 ·refine List.Pairwise.imp ?_ List.pairwise_lt_range;intro i j d x hx y hy;obtain⟨a,_,hx⟩:=Ln.1 hx;obtain⟨b,_,hy⟩:=Ln.1 hy;obtain⟨h,p,e,g,_,rfl⟩:=wA.1 hx;obtain⟨n,o,c,l,_,rfl⟩:=wA.1 hy;exact .inl (yK m d e c)
def fA(ps:List Pa)(hs:List Ho)(l:List Sw)(i k:Nat):Int:=
 match hs[k]?,ps[i]? with
 |some h,some p=>oe l h.id p.id
 |_,_=>0
theorem Cu{ps:List Pa}{hs:List Ho}{l:List Sw}{i k:Nat}{h:Ho}{p:Pa}(a:hs[k]? =some h)(b:ps[i]? =some p):fA ps hs l i k=oe l h.id p.id:=by
 unfold fA;rw[a,b]
theorem HZ{ps:List Pa}{hs:List Ho}{l:List Sw}(h:ek ps hs l){f:Nat->Nat->Int}(hf:∀i k,i<ps.length->k<hs.length->f i k=fA ps hs l i k):jF f ps hs=l:=by
 refine PF (Ct h.c.ip h.c.ih) h.VK fun s=> ?_
 rw[oA];constructor
 ·rintro⟨k,i,d,p,a,b,j,rfl⟩;have e:=hf i k (ew.1 b).1 (ew.1 a).1;rw[Cu a b]at e;rw[e]at j⊢;rcases sS l d.id p.id with⟨r,_⟩|⟨x,hx,m,n,o⟩
  ·omega
  ·rw[o,<-m,<-n];exact hx
 ·intro g;obtain⟨i,k,hi,q⟩:=h.known s g;obtain⟨p,b,i2⟩:=gG hi;obtain⟨d,a,i1⟩:=oQ q;have e:=hf i k (ew.1 b).1 (ew.1 a).1;rw[Cu a b,i1,i2,Jl h.VK g]at e;refine⟨k,i,d,p,a,b,?_,?_⟩
  ·rw[e];have:=h.pos s g;omega
  ·rw[e,i1,i2]

def lW(hs:List Ho)(g:Int->Int):Int:=(hs.map fun h=>g h.id).sum
theorem Kb{hs:List Ho}{g c:Int->Int}{a:Int}{d:Int}(i:hs.Pairwise fun a b=>a.id<b.id)(h1:∀h∈hs,h.id≠a->c h.id=g h.id)(h2:c a=g a+d)(hm:∃h∈hs,h.id=a):lW hs c=lW hs g+d:=by
 unfold lW;induction hs with
 |nil=>obtain⟨h,hx,_⟩:=hm;cases hx
 |cons x r ih=>
  obtain⟨q1,q2⟩:=HO.1 i;rw[Dx,Dx,vM,vM];by_cases e:x.id=a
  ·have j:(r.map fun h=>c h.id)=r.map fun h=>g h.id:=List.map_congr_left fun y hy=>h1 y (by simp[hy]) (by have:=q1 y hy;omega)
   rw[j,e,h2];omega
  ·obtain⟨h,hx,he⟩:=hm;rcases fi.1 hx with k|hx
   ·subst k;exact absurd he e
   ·rw[h1 x sm e,ih q2 (fun y hy=>h1 y (by simp[hy])) ⟨h,hx,he⟩];omega
theorem holds_zero{hs:List Ho}{g:Int->Int}(h:∀x∈hs,g x.id=0):lW hs g=0:=by
 unfold lW;induction hs with
 |nil=>rfl
 |cons x r ih=>rw[Dx,vM,h x sm,ih fun y hy=>h y (by simp[hy])];rfl
theorem FV{hs:List Ho}(i:hs.Pairwise fun a b=>a.id<b.id)(p:Int):∀{l:List Sw},yo l->(∀s∈l,∃h∈hs,h.id=s.hold)->cG l p=lW hs fun a=>oe l a p:=by
 suffices H:∀(n:Nat)(l:List Sw),l.length=n->yo l->(∀s∈l,∃h∈hs,h.id=s.hold)->cG l p=lW hs fun a=>oe l a p from fun {l} h1 h2=>H l.length l rfl h1 h2
 intro n;induction n with
 |zero=>
  intro l hl _ _;have:l=[]:=gz hl;subst this;rw[holds_zero fun x _=>rfl];rfl
 |succ n ih=>
  intro l hl d g;have c:l≠[]:=fun e=>by subst e;cases hl
  obtain⟨r,s,rfl⟩:∃r s,l=r++[s]:=⟨l.dropLast,l.getLast c,(wY c).symm⟩
  have j:yo r:=(uS.1 d).1;rw[fw,mO,ih r (by simpa using hl) j fun x hx=>g x (by simp[hx])];by_cases e:s.aG=p
  ·rw[cc e];refine(Kb (a:=s.hold) i (fun h _ c=> ?_) ?_ (g s sm)).symm
   ·rw[qB,ar (fun k=>c k.2.symm)]
   ·rw[qB,cc ⟨e,rfl⟩,FU,Int.zero_add];intro x hx m;have:=(uS.1 d).2.2 x hx s sm;unfold mN at this;omega
  ·rw[ar e,Pl];unfold lW;refine dB List.sum (List.map_congr_left fun h _=> ?_);show oe r h.id p=oe (r++[s]) h.id p;rw[qB,ar (fun k=>e k.1)]

def ju(a:List Int)(n i k:Nat):Int:=a.getD (i*n+k) 0
def bH(ps:List Pa)(hs:List Ho)(l:List Sw):List Int:=ps.flatMap fun p=>hs.map fun h=>oe l h.id p.id
theorem FW{α β:Type}{f:α->List β}{n:Nat}:∀{l:List α},(∀x∈l,(f x).length=n)->(l.flatMap f).length=l.length*n/\∀(i k:Nat)(x:α),l[i]? =some x->k<n->(l.flatMap f)[i*n+k]? =(f x)[k]? :=by
 intro l;induction l with
 |nil=>intro _;exact⟨sm,sm⟩
 |cons y r ih=>
  intro h;have hy:=h y sm;obtain⟨h1,h2⟩:=ih fun x hx=>h x (by simp[hx])
  refine⟨by rw[ow,fx,h1,hy,gw,mw];omega,fun i k x hx a=> ?_⟩;rw[ow];cases i with
  |zero=>
   simp at hx;subst hx;rw[Pk,oi,oj om]
  |succ i=>
   rw[mP (by rw[hy,mw];omega),hy,show(i+1)*n+k - n=i*n+k by rw[mw];omega];exact h2 i k x (by simpa using hx) a
theorem eu(ps:List Pa)(hs:List Ho)(l:List Sw):(bH ps hs l).length=ps.length*hs.length:=(FW fun x _=>by simp).1
theorem gN{ps:List Pa}{hs:List Ho}{l:List Sw}{i k:Nat}{p:Pa}{h:Ho}(b:ps[i]? =some p)(a:hs[k]? =some h):(bH ps hs l)[i*hs.length+k]? =some (oe l h.id p.id):=by
 have c:=(ew.1 a).1;unfold bH;rw[(FW (n:=hs.length) fun x _=>by simp).2 i k p b c,tX,a];rfl
theorem xq{m n:Nat}{a b:List Int}(ha:a.length=m*n)(hb:b.length=m*n)(h:∀i k,i<m->k<n->a[i*n+k]? =b[i*n+k]?):a=b:=by
 refine AP fun j=> ?_
 by_cases hj:j<m*n
 ·have hn:0<n:=by
   apply Nat.pos_of_ne_zero;intro e;subst e;simp at hj
  have e:j / n*n+j % n=j:=by rw[ru];exact ta j n
  have:=h (j / n) (j % n) ((zb hn).2 hj) (u0 _ hn);rwa [e]at this
 ·rw[kl om,kl om]

def qC:Int->List Int->Bool
 |_,[]=>false
 |left,n::r=>if left<n then true else qC (left - n) r
theorem FX:∀{r:List Int} {left:Int},(∀n∈r,0<=n)->(qC left r=false↔(r=[]∨r.sum<=left)):=by
 intro r;induction r with
 |nil=>intro left _;simp[qC]
 |cons n r ih=>
  intro left h;have h0:=h n sm;have b:∀m∈r,0<=m:=fun m hm=>h m (by simp[hm])
  have hs:0<=r.sum:=by
   clear ih h;induction r with
   |nil=>simp
   |cons a s ih=>rw[vM];have:=b a sm;have:=ih fun m hm=>b m (by simp[hm]);omega
  unfold qC;by_cases hn:left<n
  ·rw[cc hn];simp;omega
  ·rw[ar hn,ih b];simp only[vM,reduceCtorEq,false_or];constructor
   ·rintro(e|e)
    ·subst e;simp;omega
    ·omega
   ·intro e;exact .inr om
def oh(a:List Int)(n i:Nat):List Int:=(a.drop (i*n)).take n
def uv(ps:List Pa)(hs:List Ho)(a:List Int):Bool:=(List.range ps.length).any fun i=>match ps[i]? with|some p=>qC p.aO (oh a hs.length i)|none=>false
def kr(ps:List Pa)(hs:List Ho)(a:List Int):Except Int (List Sw):=
 if eI ps hs≠0 then .error 1
 else if a.length≠ps.length*hs.length then .error 10
 else if a.any (fun n=>decide (n<0))=true then .error 2
 else if uv ps hs a=true then .error 12
 else .ok (jF (ju a hs.length) ps hs)
theorem yL{a:List Int}{m n i k:Nat}(ha:a.length=m*n)(hi:i<m)(c:k<n):(oh a n i)[k]? =some (ju a n i k):=by
 unfold oh ju;have b:i*n+k<a.length:=by
  rw[ha];have:(i+1)*n<=m*n:=fT n hi;rw[mw]at this;omega
 rw[rP,cc c,xk,cN,af b];rfl
theorem DZ{a:List Int}{m n i:Nat}(ha:a.length=m*n)(hi:i<m):(oh a n i).length=n:=by
 unfold oh;have:(i+1)*n<=m*n:=fT n hi;rw[mw]at this;rw[fs,zB];omega
theorem Kc{ps:List Pa}{hs:List Ho}{a:List Int}{i:Nat}{g:Int->Int}(ha:a.length=ps.length*hs.length)(hi:i<ps.length)(c:∀k h,hs[k]? =some h->g h.id=ju a hs.length i k):oh a hs.length i=hs.map fun h=>g h.id:=by
 refine AP fun k=> ?_
 by_cases b:k<hs.length
 ·have e:=af b;rw[yL ha hi b,tX,e,Ro,c k _ e]
 ·rw[kl (by rw[DZ ha hi];omega),kl (by simp;omega)]

theorem PH{ps:List Pa}{hs:List Ho}{a:List Int}{x:List Sw}(h:kr ps hs a= .ok x):eI ps hs=0/\ek ps hs x/\bH ps hs x=a:=by
 unfold kr at h;split at h
 ·cases h
 ·rename_i h1;have h1:=ep.1 h1;split at h
  ·cases h
  ·rename_i h2;have h2:=ep.1 h2;split at h
   ·cases h
   ·rename_i h3;split at h
    ·cases h
    ·rename_i h4;cases h;have e:=jt h1;have z:∀n∈a,0<=n:=fun n hn=>by
      rw[zC,vd]at h3;have:=h3 n hn;simp at this;omega
     have C:∀i k,i<ps.length->k<hs.length->0<=ju a hs.length i k:=fun i k hi j=>by
      have:=yL h2 hi j;have hm:ju a hs.length i k∈oh a hs.length i:=hJ this;unfold oh at hm;exact z _ (uR (mr hm))
     have r:=Ct (f:=ju a hs.length) e.ip e.ih;have A:∀(i k:Nat)(p:Pa)(h:Ho),ps[i]? =some p->hs[k]? =some h->oe (jF (ju a hs.length) ps hs) h.id p.id=ju a hs.length i k:=by
      intro i k p h c d;have h0:=C i k (ew.1 c).1 (ew.1 d).1;by_cases l:0<ju a hs.length i k
      ·exact Jl r (oA.2 ⟨k,i,h,p,d,c,l,rfl⟩)
      ·rw[FU,show ju a hs.length i k=0 by omega];intro s o j;obtain⟨H,I,J,K,w,D,E,rfl⟩:=oA.1 o;simp only at j;have:=oR e.ip D c j.1;have:=oR e.ih w d j.2
       subst_vars
       exact l E
     have F:ek ps hs (jF (ju a hs.length) ps hs):=by
      refine⟨e,fun s o=> ?_,fun s o=> ?_,r,fun q B=> ?_⟩
      ·obtain⟨k,i,h,p,d,c,_,rfl⟩:=oA.1 o;exact⟨i,k,SD e.ip c,SE e.ih d⟩
      ·obtain⟨k,i,h,p,d,c,h0,rfl⟩:=oA.1 o;simp only;omega
      ·obtain⟨i,c⟩:=List.getElem?_of_mem B;have hi:=(ew.1 c).1;have hu:=FV e.ih q.id r fun s o=>by
        obtain⟨k,i,h,p,d,c,_,rfl⟩:=oA.1 o;exact⟨h,hJ d,rfl⟩
       have G:=Kc (g:=fun b=>oe (jF (ju a hs.length) ps hs) b q.id) h2 hi fun k h d=>A i k q h c d
       unfold lW at hu;rw[hu,<-G];unfold uv at h4;rw[zC,vd]at h4;have m:=h4 i (jA.2 hi);rw[c]at m;simp only at m;rw[zC,FX (fun n hn=>by unfold oh at hn;exact z _ (uR (mr hn)))]at m;rcases m with m|m
       ·rw[m];have:=(e.p1 q B).2.1.1;simp;omega
       ·exact m
     refine⟨h1,F,xq (eu ps hs _) h2 fun i k hi j=> ?_⟩;have c:ps[i]? =some ps[i]:=af hi;have d:hs[k]? =some hs[k]:=af j;rw[gN c d,A i k _ _ c d];have y:=yL h2 hi j;unfold oh at y;rw[rP,cc j,xk]at y;exact y.symm

def df(f:Sw->Rat)(l:List Sw):Rat:=(l.map f).sum
theorem yc(f:Sw->Rat)(a b:List Sw):df f (a++b)=df f a+df f b:=by
 unfold df;rw[lx];induction a.map f with
 |nil=>simp[Rat.zero_add]
 |cons x r ih=>rw[xm,vM,vM,ih,Rat.add_assoc]
theorem FY(f:Sw->Rat)(s:Sw):df f [s]=f s:=by simp[df,Rat.add_zero]
theorem MP(f:Sw->Rat):df f []=0:=rfl
end Go.Proofs.YtgfkeadgjkfomaaGreatDoor.B

set_option maxRecDepth 100000
set_option maxHeartbeats 4000000
namespace Go.Proofs.YtgfkeadgjkfomaaGreatDoor.F
open Go Go.RowKit Go.Proofs Go.Proofs.YtgfkeadgjkfomaaGreatDoor.Vc
def db.L5(a:O)(b c:Nat)(d:O)(e f:Nat)(g i:Int)(j:O)(l m:Nat)(n:O)(o p:Nat):=Lt 41 Tryz.f41 5 [(2,.loc 2 0),(6,.v (.slice a b c)),(21,.v (.slice d e f)),(22,.v (.int .i64 g)),(23,.v (.int .i64 i))] [⟨2,false,25,[(.slice j l m),(.slice n o p)]⟩]
def db.cx:Pm:=([((true,5),[2,6,21,22,23],[2])],[(3,7,2)])
theorem db.L5.step{m o f g:O}{n p q y i j a l B:Nat}{r d:Int}{w:World}{R:Kt}
  (h:(Br (d<r) (Ix d q o fun D=>(∃s t u,ae w (D.add ((d).toNat*3)) [.int .i64 s,.int .i64 t,.int .i64 u]/\(∀z,Ext B [] w z->(Pure P 62 #[.agg #[.slice f i j,.slice g a l],.int .i64 t] z (Ri fun b E=>(az .i64 (b*(a:Int))/\(Pure P 63 #[.agg #[.slice f i j,.slice g a l],.int .i64 s] E (Ri fun c A=>(az .i64 ((b*(a:Int))+c)/\(Ix ((b*(a:Int))+c) n m fun e=>(∃(v:List Value)(x:Nat),B<=(e.add ((((b*(a:Int))+c)).toNat*1)).block/\(e.add ((((b*(a:Int))+c)).toNat*1)).spot=none/\A.heap[(e.add ((((b*(a:Int))+c)).toNat*1)).block]? =some (.cells v.toArray x (0,0))/\(e.add ((((b*(a:Int))+c)).toNat*1)).off+1<=v.length/\hasType x [⟨8,false,39,[.int .i64 s,.int .i64 t,.int .i64 u]⟩,⟨2,false,25,[.slice f i j,.slice g a l]⟩]=false/\∀C,dd A C (e.add ((((b*(a:Int))+c)).toNat*1)).block x (setCells v (e.add ((((b*(a:Int))+c)).toNat*1)).off [.int .i64 u])->(az .i64 (d+1)/\(db.L5 m n p o q y r (d+1) f i j g a l B C R))))))))))))) (R (.tuple #[.slice m n p,.int .i64 0]) w))):
  db.L5 m n p o q y r d f i j g a l B w R:=
 lr db.cx Tryz.func41 h
theorem db.vc{d e f:O}{a g b i c j:Nat}{w:World}{R:Kt}
  (h:(∀l,Ext w.heap.size [] w l->(Pure P 61 #[.agg #[.slice d a g,.slice e b i],.slice f c j] l (Ri fun n m=>(Br (n≠0) (R (.tuple #[.slice none 0 0,.int .i64 1]) m) (az .i64 ((a:Int)*(b:Int))/\(au P (Instr.makeSlice 48 (.int .i64 ((a:Int)*(b:Int))) (.int .i64 ((a:Int)*(b:Int)))) w.heap.size [25] m (Rs fun o p q r=>(db.L5 o p q f c j (c:Int) (0:Int) d a g e b i w.heap.size r R))))))))):
  Pure P 41 #[.agg #[.slice d a g,.slice e b i],.slice f c j] w R:=
 pr db.cx Tryz.func41 h

def cS.L4(a:O)(b c:Nat)(d:O)(e f:Nat)(g i:Int)(j:O)(l m:Nat)(n:O)(o p:Nat):=Lt 61 Tryz.f61 4 [(1,.v (.slice a b c)),(2,.loc 2 0),(11,.v (.slice d e f)),(12,.v (.int .i64 g)),(13,.v (.int .i64 i))] [⟨2,false,25,[(.slice j l m),(.slice n o p)]⟩]
def cS.cx:Pm:=([((true,4),[1,2,11,12,13],[2])],[(13,9999,3)])
theorem cS.L4.step{f r b g:O}{s e t v c i j l B:Nat}{u a:Int}{w:World}{R:Kt}
  (h:(Br (a<u) (Ix a t r fun T=>(∃x m n,ae w (T.add ((a).toNat*3)) [.int .i64 x,.int .i64 m,.int .i64 n]/\(∀y,Ext B [] w y->(Pure P 62 #[.agg #[.slice b c i,.slice g j l],.int .i64 m] y (Ri fun d z=>(Br (d<0) (R (.int .i64 7) z) (Pure P 63 #[.agg #[.slice b c i,.slice g j l],.int .i64 x] z (Ri fun U o=>(Br (U<0) (R (.int .i64 7) o) (Br (n<1) (R (.int .i64 2) o) (Br (a>0) (az .i64 (a - (1:Int))/\(Ix (a - (1:Int)) s f fun V=>(∃A C D,ae o (V.add (((a - (1:Int))).toNat*3)) [.int .i64 A,.int .i64 C,.int .i64 D]/\(∀E,Ext B [] o E->(Pure P 65 #[.agg #[.int .i64 A,.int .i64 C,.int .i64 D],.agg #[.int .i64 x,.int .i64 m,.int .i64 n]] E (Ri fun X p=>(Br (X≥(0:Int)) (R (.int .i64 5) p) (Ix d c b fun Y=>(∃G,ae p ((Y.add ((d).toNat*7)).add 1) [.int .i64 G]/\(Br (n>G) (∀H,Ext B [] p H->(R (.int .i64 12) H)) (az .i64 (a+1)/\((0<=(a+1)/\(a+1)<=(e:Int))/\(Ix d c b fun Z=>(∃I,ae p ((Z.add ((d).toNat*7)).add 1) [.int .i64 I]/\(∀J,Ext B [] p J->(Pure P 66 #[(.slice f (((a+1)).toNat) e),.int .i64 m] J (Ri fun a0 K=>(Br (a0>I) (R (.int .i64 12) K) (az .i64 (a+1)/\(cS.L4 f s e r t v u (a+1) b c i g j l B K R)))))))))))))))))))) (∀q,Ext B [] o q->(Ix d c b fun k=>(∃L,ae q ((k.add ((d).toNat*7)).add 1) [.int .i64 L]/\(Br (n>L) (∀M,Ext B [] q M->(R (.int .i64 12) M)) (az .i64 (a+1)/\((0<=(a+1)/\(a+1)<=(e:Int))/\(Ix d c b fun a2=>(∃N,ae q ((a2.add ((d).toNat*7)).add 1) [.int .i64 N]/\(∀Q,Ext B [] q Q->(Pure P 66 #[(.slice f (((a+1)).toNat) e),.int .i64 m] Q (Ri fun a3 S=>(Br (a3>N) (R (.int .i64 12) S) (az .i64 (a+1)/\(cS.L4 f s e r t v u (a+1) b c i g j l B S R))))))))))))))))))))))))) (R (.int .i64 0) w))):
  cS.L4 f s e r t v u a b c i g j l B w R:=
 lr cS.cx Tryz.func61 h
theorem cS.vc{b c d:O}{e f g i a j:Nat}{w:World}{R:Kt}
  (h:(∀l,Ext w.heap.size [] w l->(Pure P 86 #[.agg #[.slice b e f,.slice c g i]] l (Ri fun n m=>(Br (n≠0) (R (.int .i64 1) m) (cS.L4 d a j d a j (a:Int) (0:Int) b e f c g i w.heap.size m R)))))):
  Pure P 61 #[.agg #[.slice b e f,.slice c g i],.slice d a j] w R:=
 pr cS.cx Tryz.func61 h

def gX.cx:Pm:=([],[])
theorem gX.vc{a f:O}{b c g i:Nat}{d:Int}{w:World}{R:Kt}
  (h:(∀e,Ext w.heap.size [] w e->(Pure P 87 #[.slice a b c,.int .i64 d,(.func (.func 88) #[] #[])] e (Ri fun j l=>(R (.int .i64 j) l))))):
  Pure P 62 #[.agg #[.slice a b c,.slice f g i],.int .i64 d] w R:=
 pr gX.cx Tryz.func62 h

def jd.cx:Pm:=([],[])
theorem jd.vc{f a:O}{g i b c:Nat}{d:Int}{w:World}{R:Kt}
  (h:(∀e,Ext w.heap.size [] w e->(Pure P 89 #[.slice a b c,.int .i64 d,(.func (.func 90) #[] #[])] e (Ri fun j l=>(R (.int .i64 j) l))))):
  Pure P 63 #[.agg #[.slice f g i,.slice a b c],.int .i64 d] w R:=
 pr jd.cx Tryz.func63 h

def nG.cx:Pm:=([],[(1,10,2)])
theorem nG.vc{a b f c d g:Int}{w:World}{R:Kt}
  (h:(∀e,Ext w.heap.size [] w e->(Pure P 45 #[.int .i64 a,.int .i64 c] e (Ri fun i j=>(Pure P 45 #[.int .i64 b,.int .i64 d] j (Ri fun l m=>(au P (Instr.buildSlice 48 2 #[(0,(.int .i64 i)),(1,(.int .i64 l))]) w.heap.size [39,39] m (Rs fun n o p q=>(Pure P 91 #[.slice n o p] q (Ri fun r s=>(R (.int .i64 r) s))))))))))):
  Pure P 65 #[.agg #[.int .i64 a,.int .i64 b,.int .i64 f],.agg #[.int .i64 c,.int .i64 d,.int .i64 g]] w R:=
 pr nG.cx Tryz.func65 h

def dQ.L3(a b:Int)(c:O)(d e:Nat)(f g:Int):=Lt 66 Tryz.f66 3 [(1,.v (.int .i64 a)),(5,.v (.int .i64 b)),(8,.v (.slice c d e)),(9,.v (.int .i64 f)),(10,.v (.int .i64 g))] []
def dQ.cx:Pm:=([((true,3),[1,5,8,9,10],[])],[])
theorem dQ.L3.step{c b d a:Int}{e:O}{f g B:Nat}{w:World}{R:Kt}
  (h:(Br (a<d) (Ix a f e fun n=>(∃o j i,ae w (n.add ((a).toNat*3)) [.int .i64 o,.int .i64 j,.int .i64 i]/\(Br (j=c) (az .i64 (b+i)/\(az .i64 (a+1)/\(∀l,Ext B [] w l->(dQ.L3 c (b+i) e f g d (a+1) B l R)))) (az .i64 (a+1)/\(∀m,Ext B [] w m->(dQ.L3 c b e f g d (a+1) B m R)))))) (R (.int .i64 b) w))):
  dQ.L3 c b e f g d a B w R:=
 lr dQ.cx Tryz.func66 h
theorem dQ.vc{b:O}{a c:Nat}{d:Int}{w:World}{R:Kt}
  (h:(dQ.L3 d (0:Int) b a c (a:Int) (0:Int) w.heap.size w R)):
  Pure P 66 #[.slice b a c,.int .i64 d] w R:=
 pr dQ.cx Tryz.func66 h

def gI.cx:Pm:=([],[(3,2,5)])
theorem gI.vc{e a f:O}{g i b c j l:Nat}{w:World}{R:Kt}
  (h:(∀o,Ext w.heap.size [] w o->(Pure P 61 #[.agg #[.slice e g i,.slice a b c],.slice f j l] o (Ri fun p d=>(Br (p≠0) (R (.tuple #[.int .i64 0,.int .i64 1]) d) (∀m:Nat,w.heap.size<=m->d.heap[m]? =some (.cells [.slice f j l].toArray 29 (0,0))->(∀n:Nat,w.heap.size<=n->d.heap[n]? =some (.cells [.slice e g i,.slice a b c].toArray 25 (0,0))->(Pure P 101 #[.slice a b c,(.func (.func 102) #[] #[(.pointer (some (⟨n,0,none⟩:Addr))),(.pointer (some (⟨m,0,none⟩:Addr)))])] d (Ri fun q r=>(R (.tuple #[.int .i64 q,.int .i64 0]) r)))))))))):
  Pure P 71 #[.agg #[.slice e g i,.slice a b c],.slice f j l] w R:=
 pr gI.cx Tryz.func71 h

def bu.L8(a:O)(b c:Nat)(d:O)(e f:Nat)(g i:Int)(j:O)(l m:Nat)(n:O)(o p:Nat):=Lt 79 Tryz.f79 8 [(1,.v (.slice a b c)),(2,.loc 2 0),(33,.v (.slice d e f)),(34,.v (.int .i64 g)),(35,.v (.int .i64 i))] [⟨2,false,25,[(.slice j l m),(.slice n o p)]⟩]
def bu.SG(a:O)(b c:Nat)(d:Int)(e:O)(f g:Nat)(i j:Int)(l:O)(m n:Nat)(o p:Int)(q:O)(r s:Nat)(t:O)(u v:Nat):=Lt 79 Tryz.f79 12 [(1,.v (.slice a b c)),(2,.loc 2 0),(8,.v (.int .i64 d)),(33,.v (.slice e f g)),(34,.v (.int .i64 i)),(35,.v (.int .i64 j)),(54,.v (.slice l m n)),(55,.v (.int .i64 o)),(56,.v (.int .i64 p))] [⟨2,false,25,[(.slice q r s),(.slice t u v)]⟩]
def bu.Ea(a:O)(b c:Nat)(d:O)(e f:Nat)(g:O)(i j:Nat)(l m:Int)(n:O)(o p:Nat)(q:O)(r s:Nat):=Lt 79 Tryz.f79 21 [(1,.v (.slice a b c)),(2,.loc 2 0),(11,.v (.slice d e f)),(69,.v (.slice g i j)),(70,.v (.int .i64 l)),(71,.v (.int .i64 m))] [⟨2,false,25,[(.slice n o p),(.slice q r s)]⟩]
def bu.Rf(a:O)(b c:Nat)(d:O)(e f:Nat)(g:Int)(i:O)(j l:Nat)(m n:Int)(o:O)(p q:Nat)(r s:Int)(t:O)(u v:Nat)(x:O)(y z:Nat)(A:Int)(C D E G H I:ByteArray):=Lt 79 Tryz.f79 24 [(1,.v (.slice a b c)),(2,.loc 2 0),(11,.v (.slice d e f)),(12,.v (.int .i64 g)),(13,.loc 13 0),(69,.v (.slice i j l)),(70,.v (.int .i64 m)),(71,.v (.int .i64 n)),(77,.v (.slice o p q)),(78,.v (.int .i64 r)),(79,.v (.int .i64 s))] [⟨2,false,25,[(.slice t u v),(.slice x y z)]⟩,⟨13,false,61,[(.int .i64 A),(.string C),(.string D),(.string E),(.string G),(.string H),(.string I)]⟩]
def bu.cx:Pm:=([((true,8),[1,2,33,34,35],[2]),((true,12),[1,2,8,33,34,35,54,55,56],[2]),((true,21),[1,2,11,69,70,71],[2]),((true,24),[1,2,11,12,13,69,70,71,77,78,79],[2,13])],[(28,7,2),(28,8,2)])
theorem bu.L8.step{d g i e:O}{j c l p m n b f B:Nat}{o a:Int}{w:World}{R:Kt}
  (h:(Br (a<o) (Ix a l g fun s=>(∃t q u v x y z,ae w (s.add ((a).toNat*7)) [.int .i64 t,.int .i64 q,.int .i64 u,.string v,.string x,.string y,.string z]/\(az .i64 (a*(b:Int))/\(az .i64 (a+1)/\(az .i64 ((a+1)*(b:Int))/\((0<=(a*(b:Int))/\(a*(b:Int))<=((a+1)*(b:Int))/\((a+1)*(b:Int))<=(c:Int))/\(∀r,Ext B [] w r->(bu.SG d j c q g l p o a (kA d (((a*(b:Int))).toNat) c 1) ((((a+1)*(b:Int))).toNat - ((a*(b:Int))).toNat) (c - ((a*(b:Int))).toNat) ((((((a+1)*(b:Int))).toNat - ((a*(b:Int))).toNat):Nat):Int) (0:Int) i m n e b f B r R)))))))) (bu.Ea d j c none 0 0 e b f (b:Int) (0:Int) i m n e b f B w R))):
  bu.L8 d j c g l p o a i m n e b f B w R:=
 lr bu.cx Tryz.func79 h
theorem bu.SG.step{e f g i j:O}{l m n o p x q r s t B:Nat}{b u c v a:Int}{w:World}{R:Kt}
  (h:(Br (a<v) (Ix a p g fun y=>(∃d,ae w (y.add ((a).toNat*1)) [.int .i64 d]/\(Br (d>b) (R (.tuple #[.slice none 0 0,.int .i64 12]) w) (az .i64 (b - d)/\(az .i64 (a+1)/\(bu.SG e l m (b - d) f n o u c g p x v (a+1) i q r j s t B w R)))))) (az .i64 (c+1)/\(bu.L8 e l m f n o u (c+1) i q r j s t B w R)))):
  bu.SG e l m b f n o u c g p x v a i q r j s t B w R:=
 lr bu.cx Tryz.func79 h
theorem bu.Ea.step{m c d e n:O}{o p f g i q b j r s B:Nat}{l a:Int}{w:World}{R:Kt}
  (h:(Br (a<l) (Ix a i d fun D=>(∃t u v x y z A,ae w (D.add ((a).toNat*7)) [.int .i64 t,.string u,.string v,.string x,.string y,.string z,.string A]/\(∀C,Ext B [] w C->(bu.Rf m o p c f g a d i q l a e b j (b:Int) (0:Int) e b j n r s t u v x y z A B C R)))) (R (.tuple #[.slice c f g,.int .i64 0]) w))):
  bu.Ea m o p c f g d i q l a e b j n r s B w R:=
 lr bu.cx Tryz.func79 h
theorem bu.Rf.step{d g i j l m:O}{e n o p q r s C t u b v B:Nat}{c x f y a z:Int}{D E G H I J:ByteArray}{w:World}{R:Kt}
  (h:(Br (a<y) (Ix a s j fun M=>(∃L N Q S T U V,ae w (M.add ((a).toNat*7)) [.int .i64 L,.int .i64 N,.int .i64 Q,.string S,.string T,.string U,.string V]/\(az .i64 (a*(b:Int))/\(az .i64 ((a*(b:Int))+c)/\(Ix ((a*(b:Int))+c) e d fun X=>(∀A,Ext B [] w A->(∃K,ae A (X.add ((((a*(b:Int))+c)).toNat*1)) [.int .i64 K]/\(Br (K>0) (au P (Instr.buildSlice 29 1 #[(0,(.agg #[.int .i64 z,.int .i64 L,.int .i64 K]))]) B [65,25,61] A (Rs fun Y Z a0 k=>(au P (Builtin.append_ #[29,29] 29 #[.slice g o p,.slice Y Z a0]) B [65,25,61] k (Rs fun a2 a3 a4 a5=>(az .i64 (a+1)/\(bu.Rf d e n a2 a3 a4 c i q r x f j s C y (a+1) l t u m b v z D E G H I J B a5 R)))))) (az .i64 (a+1)/\(bu.Rf d e n g o p c i q r x f j s C y (a+1) l t u m b v z D E G H I J B A R)))))))))) (az .i64 (f+1)/\(bu.Ea d e n g o p i q r x (f+1) l t u m b v B w R)))):
  bu.Rf d e n g o p c i q r x f j s C y a l t u m b v z D E G H I J B w R:=
 lr bu.cx Tryz.func79 h
theorem bu.vc{c f g:O}{a d b i e j:Nat}{w:World}{R:Kt}
  (h:(∀m,Ext w.heap.size [] w m->(Pure P 86 #[.agg #[.slice c a d,.slice f b i]] m (Ri fun o l=>(Br (o≠0) (R (.tuple #[.slice none 0 0,.int .i64 1]) l) (az .i64 ((a:Int)*(b:Int))/\(Br ((e:Int)≠((a:Int)*(b:Int))) (R (.tuple #[.slice none 0 0,.int .i64 10]) l) (Pure P 114 #[.slice g e j,(.func (.func 115) #[] #[])] l (Rb fun p n=>(Bb p (R (.tuple #[.slice none 0 0,.int .i64 2]) n) (bu.L8 g e j c a d (a:Int) (0:Int) c a d f b i w.heap.size n R))))))))))):
  Pure P 79 #[.agg #[.slice c a d,.slice f b i],.slice g e j] w R:=
 pr bu.cx Tryz.func79 h

def aR.L2(a:O)(b c:Nat)(d e:Int)(f:O)(g i:Nat)(j:O)(l m:Nat):=Lt 86 Tryz.f86 2 [(1,.loc 1 0),(12,.v (.slice a b c)),(13,.v (.int .i64 d)),(14,.v (.int .i64 e))] [⟨1,false,25,[(.slice f g i),(.slice j l m)]⟩]
def aR.L8(a:O)(b c:Nat)(d e:Int)(f:O)(g i:Nat)(j:O)(l m:Nat):=Lt 86 Tryz.f86 8 [(1,.loc 1 0),(29,.v (.slice a b c)),(30,.v (.int .i64 d)),(31,.v (.int .i64 e))] [⟨1,false,25,[(.slice f g i),(.slice j l m)]⟩]
def aR.vT(a:O)(b c:Nat)(d e:Int)(f:O)(g i:Nat)(j:O)(l m:Nat):=Lt 86 Tryz.f86 16 [(1,.loc 1 0),(63,.v (.slice a b c)),(64,.v (.int .i64 d)),(65,.v (.int .i64 e))] [⟨1,false,25,[(.slice f g i),(.slice j l m)]⟩]
def aR.zx(a:O)(b c:Nat)(d e:Int)(f:O)(g i:Nat)(j:O)(l m:Nat):=Lt 86 Tryz.f86 26 [(1,.loc 1 0),(124,.v (.slice a b c)),(125,.v (.int .i64 d)),(126,.v (.int .i64 e))] [⟨1,false,25,[(.slice f g i),(.slice j l m)]⟩]
def aR.cx:Pm:=([((true,2),[1,12,13,14],[1]),((true,8),[1,29,30,31],[1]),((true,16),[1,63,64,65],[1]),((true,26),[1,124,125,126],[1])],[(4,6,2),(10,13,2)])
theorem aR.L2.step{e f c:O}{g m i j b d B:Nat}{l a:Int}{w:World}{R:Kt}
  (h:(Br (a<l) (Ix a g e fun s=>(∃t u v x n o p,ae w (s.add ((a).toNat*7)) [.int .i64 t,.int .i64 u,.int .i64 v,.string x,.string n,.string o,.string p]/\(∀q,Ext B [] w q->(au P (Instr.buildSlice 85 3 #[(0,(.string n)),(1,(.string o)),(2,(.string p))]) B [65,25] q (Rs fun y z A C=>(Pure P 120 #[.slice y z A] C (Rb fun D r=>(Br (D=false) (R (.int .i64 1) r) (az .i64 (a+1)/\(aR.L2 e g m l (a+1) f i j c b d B r R)))))))))) (aR.L8 c b d (b:Int) (0:Int) f i j c b d B w R))):
  aR.L2 e g m l a f i j c b d B w R:=
 lr aR.cx Tryz.func86 h
theorem aR.L8.step{f c g:O}{i m a d e j B:Nat}{l b:Int}{w:World}{R:Kt}
  (h:(Br (b<l) (Ix b i f fun u=>(∃v x n o p q r,ae w (u.add ((b).toNat*7)) [.int .i64 v,.string x,.string n,.string o,.string p,.string q,.string r]/\(∀s,Ext B [] w s->(au P (Instr.buildSlice 85 5 #[(0,(.string n)),(1,(.string o)),(2,(.string p)),(3,(.string q)),(4,(.string r))]) B [61,25] s (Rs fun y z A C=>(Pure P 120 #[.slice y z A] C (Rb fun D t=>(Br (D=false) (R (.int .i64 1) t) (az .i64 (b+1)/\(aR.L8 f i m l (b+1) c a d g e j B t R)))))))))) (Br ((a:Int)>6) (R (.int .i64 8) w) (Br ((e:Int)>6) (R (.int .i64 8) w) (aR.vT c a d (a:Int) (0:Int) c a d g e j B w R))))):
  aR.L8 f i m l b c a d g e j B w R:=
 lr aR.cx Tryz.func86 h
theorem aR.vT.step{i c d:O}{j n e l b f B:Nat}{m a:Int}{w:World}{R:Kt}
  (h:(Br (a<m) (Ix a j i fun J=>(∃o p q r s t u,ae w (J.add ((a).toNat*7)) [.int .i64 o,.int .i64 p,.int .i64 q,.string r,.string s,.string t,.string u]/\(∀v,Ext B [] w v->(Pure P 121 #[.int .i64 o,.int .i64 1073741824] v (Rb fun K x=>(Br (K=false) (R (.int .i64 2) x) (Pure P 121 #[.int .i64 p,.int .i64 9] x (Rb fun L y=>(Br (L=false) (R (.int .i64 2) y) (Pure P 121 #[.int .i64 q,.int .i64 9] y (Rb fun M z=>(Br (M=false) (R (.int .i64 2) z) (Pure P 122 #[.string s] z (Ri fun N A=>(Br (N<=(0:Int)) (R (.int .i64 2) A) (Pure P 122 #[.string t] A (Ri fun Q C=>(Br (Q<=(0:Int)) (R (.int .i64 2) C) (Pure P 122 #[.string u] C (Ri fun S D=>(Br (S<0) (R (.int .i64 2) D) (Pure P 123 #[.string r] D (Rb fun T g=>(Br (T=false) (R (.int .i64 4) g) (Br (a>0) (az .i64 (a - (1:Int))/\(Ix (a - (1:Int)) e c fun U=>(∃E,ae g ((U.add (((a - (1:Int))).toNat*7)).add 0) [.int .i64 E]/\(Br (E≥o) (∀G,Ext B [] g G->(R (.int .i64 5) G)) (az .i64 (a+1)/\(∀H,Ext B [] g H->(aR.vT i j n m (a+1) c e l d b f B H R))))))) (az .i64 (a+1)/\(∀I,Ext B [] g I->(aR.vT i j n m (a+1) c e l d b f B I R)))))))))))))))))))))))))))) (aR.zx d b f (b:Int) (0:Int) c e l d b f B w R))):
  aR.vT i j n m a c e l d b f B w R:=
 lr aR.cx Tryz.func86 h
theorem aR.zx.step{c i d:O}{e j l m f n B:Nat}{g a:Int}{w:World}{R:Kt}
  (h:(Br (a<g) (Ix a e c fun C=>(∃o p q r D E G,ae w (C.add ((a).toNat*7)) [.int .i64 o,.string p,.string q,.string r,.string D,.string E,.string G]/\(∀s,Ext B [] w s->(Pure P 121 #[.int .i64 o,.int .i64 1073741824] s (Rb fun H t=>(Br (H=false) (R (.int .i64 2) t) (Pure P 122 #[.string q] t (Ri fun I u=>(Br (I<0) (R (.int .i64 2) u) (Pure P 122 #[.string r] u (Ri fun J v=>(Br (J<0) (R (.int .i64 2) v) (Pure P 123 #[.string p] v (Rb fun K b=>(Br (K=false) (R (.int .i64 4) b) (Br (a>0) (az .i64 (a - (1:Int))/\(Ix (a - (1:Int)) f d fun L=>(∃x,ae b ((L.add (((a - (1:Int))).toNat*7)).add 0) [.int .i64 x]/\(Br (x≥o) (∀y,Ext B [] b y->(R (.int .i64 5) y)) (az .i64 (a+1)/\(∀z,Ext B [] b z->(aR.zx c e j g (a+1) i l m d f n B z R))))))) (az .i64 (a+1)/\(∀A,Ext B [] b A->(aR.zx c e j g (a+1) i l m d f n B A R))))))))))))))))))) (R (.int .i64 0) w))):
  aR.zx c e j g a i l m d f n B w R:=
 lr aR.cx Tryz.func86 h
theorem aR.vc{b d:O}{a c e f:Nat}{w:World}{R:Kt}
  (h:(∀g,Ext w.heap.size [] w g->(aR.L2 b a c (a:Int) (0:Int) b a c d e f w.heap.size g R))):
  Pure P 86 #[.agg #[.slice b a c,.slice d e f]] w R:=
 pr aR.cx Tryz.func86 h

def iD.cx:Pm:=([],[(1,1,5)])
theorem iD.vc{d:O}{e f g:Nat}{i:Int}{j l:Array Value}{w:World}{R:Kt}
  (h:(∀a,Ext w.heap.size [] w a->(∀b:Nat,w.heap.size<=b->a.heap[b]? =some (.cells [.int .i64 i].toArray 3 (0,0))->(∀c:Nat,w.heap.size<=c->a.heap[c]? =some (.cells [(.func (.func g) j l)].toArray 122 (0,0))->(Pure P 111 #[.slice d e f,(.func (.func 124) #[] #[(.pointer (some (⟨c,0,none⟩:Addr))),(.pointer (some (⟨b,0,none⟩:Addr)))])] a (Ri fun m n=>(R (.int .i64 m) n))))))):
  Pure P 87 #[.slice d e f,.int .i64 i,(.func (.func g) j l)] w R:=
 pr iD.cx Tryz.func87 h

def nP.cx:Pm:=([],[])
theorem nP.vc{a c d:Int}{e f g i:ByteArray}{w:World}{R:Kt}
  (h:(∀b,Ext w.heap.size [] w b->(R (.int .i64 a) b))):
  Pure P 88 #[.agg #[.int .i64 a,.int .i64 c,.int .i64 d,.string e,.string f,.string g,.string i]] w R:=
 pr nP.cx Tryz.func88 h

def jG.cx:Pm:=([],[(1,1,5)])
theorem jG.vc{d:O}{e f g:Nat}{i:Int}{j l:Array Value}{w:World}{R:Kt}
  (h:(∀a,Ext w.heap.size [] w a->(∀b:Nat,w.heap.size<=b->a.heap[b]? =some (.cells [.int .i64 i].toArray 3 (0,0))->(∀c:Nat,w.heap.size<=c->a.heap[c]? =some (.cells [(.func (.func g) j l)].toArray 124 (0,0))->(Pure P 101 #[.slice d e f,(.func (.func 125) #[] #[(.pointer (some (⟨c,0,none⟩:Addr))),(.pointer (some (⟨b,0,none⟩:Addr)))])] a (Ri fun m n=>(R (.int .i64 m) n))))))):
  Pure P 89 #[.slice d e f,.int .i64 i,(.func (.func g) j l)] w R:=
 pr jG.cx Tryz.func89 h

def pQ.cx:Pm:=([],[])
theorem pQ.vc{a:Int}{c d e f g i:ByteArray}{w:World}{R:Kt}
  (h:(∀b,Ext w.heap.size [] w b->(R (.int .i64 a) b))):
  Pure P 90 #[.agg #[.int .i64 a,.string c,.string d,.string e,.string f,.string g,.string i]] w R:=
 pr pQ.cx Tryz.func90 h

def jH.cx:Pm:=([],[(1,9999,3)])
theorem jH.vc{l:Int}{N b c O Q S:ByteArray}{p q:Addr}{w:World}{R:Kt}
  (h:(∀a,Ext w.heap.size [] w a->(∃d e f g i j,ae a p [.slice d e f,.slice g i j]/\(∃m n o,ae a q [.slice m n o]/\((∀r,Ext w.heap.size [] a r->(Pure P 104 #[.slice m n o,.int .i64 l] r (Rs fun s t u v=>((Pure P 103 #[.agg #[.slice d e f,.slice g i j],.slice s t u] v fun T U=>∃x y V X Y Z,T= .agg #[.string x,.string y,.string V,.string X,.string Y,.string Z]/\(∀z,Ext w.heap.size [] U z->(Pure P 105 #[.string x,.string c] z (Ri fun a0 A=>(Br (a0>0) (R (.bool true) A) (Pure P 105 #[.string y,.string b] A (Ri fun k a2=>(R (.bool (decide (k>0))) a2))))))))/\(∀C,Ext w.heap.size [] v C->(Pure P 103 #[.agg #[.slice d e f,.slice g i j],.slice s t u] C fun a3 a4=>∃D E a5 B F W,a3= .agg #[.string D,.string E,.string a5,.string B,.string F,.string W]/\(∀G,Ext w.heap.size [135] a4 G->(Pure P 105 #[.string D,.string c] G (Ri fun a9 H=>(Br (a9>0) (R (.bool true) H) (Pure P 105 #[.string E,.string b] H (Ri fun b0 b1=>(R (.bool (decide (b0>0))) b1)))))))))))))/\(∀I,Ext w.heap.size [] a I->(Pure P 104 #[.slice m n o,.int .i64 l] I (Rs fun b2 b3 b4 b5=>(Pure P 103 #[.agg #[.slice d e f,.slice g i j],.slice b2 b3 b4] b5 fun b6 b7=>∃J K b8 b9 c0 c1,b6= .agg #[.string J,.string K,.string b8,.string b9,.string c0,.string c1]/\(∀L,Ext w.heap.size [135] b7 L->(Pure P 105 #[.string J,.string c] L (Ri fun c2 M=>(Br (c2>0) (R (.bool true) M) (Pure P 105 #[.string K,.string b] M (Ri fun c3 c4=>(R (.bool (decide (c3>0))) c4)))))))))))))))):
  Pure P 102 #[.agg #[.int .i64 l,.string N,.string b,.string c,.string O,.string Q,.string S],(.pointer (some p)),(.pointer (some q))] w R:=
 pr jH.cx Tryz.func102 h

def bG.L3(a:O)(b c:Nat)(d e:Int)(f:O)(g i:Nat)(j:O)(l m:Nat)(n o p q r s t u v x y z:ByteArray):=Lt 103 Tryz.f103 3 [(2,.loc 2 0),(4,.loc 4 0),(5,.loc 5 0),(14,.v (.slice a b c)),(15,.v (.int .i64 d)),(16,.v (.int .i64 e))] [⟨2,false,25,[(.slice f g i),(.slice j l m)]⟩,⟨4,false,135,[(.string n),(.string o),(.string p),(.string q),(.string r),(.string s)]⟩,⟨5,false,135,[(.string t),(.string u),(.string v),(.string x),(.string y),(.string z)]⟩]
def bG.J6(a:O)(b c:Nat)(d e:Int)(f:O)(g i:Nat)(j:O)(l m:Nat)(n o p q r s t u v x y z:ByteArray)(A C D E G H:Int)(I J K L M N Q:ByteArray):=Jt 103 Tryz.f103 6 [(2,.loc 2 0),(4,.loc 4 0),(5,.loc 5 0),(7,.loc 7 0),(8,.loc 8 0),(9,.loc 9 0),(14,.v (.slice a b c)),(15,.v (.int .i64 d)),(16,.v (.int .i64 e))] [⟨2,false,25,[(.slice f g i),(.slice j l m)]⟩,⟨4,false,135,[(.string n),(.string o),(.string p),(.string q),(.string r),(.string s)]⟩,⟨5,false,135,[(.string t),(.string u),(.string v),(.string x),(.string y),(.string z)]⟩,⟨7,false,39,[(.int .i64 A),(.int .i64 C),(.int .i64 D)]⟩,⟨8,false,65,[(.int .i64 E),(.int .i64 G),(.int .i64 H),(.string I),(.string J),(.string K),(.string L)]⟩,⟨9,false,59,[(.string M),(.string N),(.string Q)]⟩]
def bG.cx:Pm:=([((true,3),[2,4,5,14,15,16],[2,4,5]),((false,6),[2,4,5,7,8,9,14,15,16],[2,4,5,7,8,9])],[(5,9998,8),(5,9999,3)])
theorem bG.L3.step{l c a:O}{m u d e b f B:Nat}{n g:Int}{v x y z A C o p q r s t:ByteArray}{w:World}{R:Kt}
  (h:(Br (g<n) (Ix g m l fun a2=>(∃i j D,ae w (a2.add ((g).toNat*3)) [.int .i64 i,.int .i64 j,.int .i64 D]/\(∀M,Ext B [] w M->((∀w7,Ext B [] M w7->(Pure P 62 #[.agg #[.slice c d e,.slice a b f],.int .i64 j] w7 (Ri fun i8 b1=>(Ix i8 d c fun f2=>(∃E G H I J K L,ae M (f2.add ((i8).toNat*7)) [.int .i64 E,.int .i64 G,.int .i64 H,.string I,.string J,.string K,.string L]/\((∀b2,Ext B [] b1 b2->(Pure P 63 #[.agg #[.slice c d e,.slice a b f],.int .i64 i] b2 (Ri fun Q b3=>(Ix Q b a fun b4=>((∀S,Ext B [] b3 S->(∃b5 b6 b7,ae S ((b4.add ((Q).toNat*7)).add 4) [.string b5,.string b6,.string b7]/\(∀b8,Ext B [65,59] S b8->(bG.J6 l m u n g c d e a b f v x y z A C o p q r s t i j D E G H I J K L b5 b6 b7 B b8 R))))/\(∀T,Ext B [65] b3 T->(∃b9 c0 c1,ae T ((b4.add ((Q).toNat*7)).add 4) [.string b9,.string c0,.string c1]/\(∀c2,Ext B [59] T c2->(bG.J6 l m u n g c d e a b f v x y z A C o p q r s t i j D E G H I J K L b9 c0 c1 B c2 R)))))))))/\(∀c3,Ext B [] b1 c3->(Pure P 63 #[.agg #[.slice c d e,.slice a b f],.int .i64 i] c3 (Ri fun N U=>((Ix N b a fun c4=>((∀V,Ext B [] U V->(∃c5 c6 c7,ae V ((c4.add ((N).toNat*7)).add 4) [.string c5,.string c6,.string c7]/\(∀c8,Ext B [65,59] V c8->(bG.J6 l m u n g c d e a b f v x y z A C o p q r s t i j D E G H I J K L c5 c6 c7 B c8 R))))/\(∀X,Ext B [65] U X->(∃c9 d0 d1,ae X ((c4.add ((N).toNat*7)).add 4) [.string c9,.string d0,.string d1]/\(∀d2,Ext B [59] X d2->(bG.J6 l m u n g c d e a b f v x y z A C o p q r s t i j D E G H I J K L c9 d0 d1 B d2 R))))))/\(Ix N b a fun f3=>(∀Y,Ext B [65] U Y->(∃d3 d4 d5,ae Y ((f3.add ((N).toNat*7)).add 4) [.string d3,.string d4,.string d5]/\(∀d6,Ext B [59] Y d6->(bG.J6 l m u n g c d e a b f v x y z A C o p q r s t i j D E G H I J K L d3 d4 d5 B d6 R)))))))))))))))/\(∀d7,Ext B [] M d7->(Pure P 62 #[.agg #[.slice c d e,.slice a b f],.int .i64 j] d7 (Ri fun d8 f4=>(Ix d8 d c fun f5=>(∃Z a0 k a2 a3 a4 a5,ae M (f5.add ((d8).toNat*7)) [.int .i64 Z,.int .i64 a0,.int .i64 k,.string a2,.string a3,.string a4,.string a5]/\(∀d9,Ext B [] f4 d9->(Pure P 63 #[.agg #[.slice c d e,.slice a b f],.int .i64 i] d9 (Ri fun F e0=>(Ix F b a fun e1=>((∀W,Ext B [] e0 W->(∃e2 e3 e4,ae W ((e1.add ((F).toNat*7)).add 4) [.string e2,.string e3,.string e4]/\(∀e5,Ext B [65,59] W e5->(bG.J6 l m u n g c d e a b f v x y z A C o p q r s t i j D Z a0 k a2 a3 a4 a5 e2 e3 e4 B e5 R))))/\(∀a8,Ext B [65] e0 a8->(∃e6 e7 e8,ae a8 ((e1.add ((F).toNat*7)).add 4) [.string e6,.string e7,.string e8]/\(∀e9,Ext B [59] a8 e9->(bG.J6 l m u n g c d e a b f v x y z A C o p q r s t i j D Z a0 k a2 a3 a4 a5 e6 e7 e8 B e9 R)))))))))))))))))) (∀f0,Ext B [135] w f0->(R (.agg #[.string o,.string p,.string q,.string r,.string s,.string t]) f0)))):
  bG.L3 l m u n g c d e a b f v x y z A C o p q r s t B w R:=
 lr bG.cx Tryz.func103 h
theorem bG.J6.step{d e f:O}{g i j l m n B:Nat}{o b Q S p T U V:Int}{q r s t u v x y z A C D X E G H I J K:ByteArray}{w:World}{R:Kt}
  (h:(Pure P 136 #[.int .i64 p] w (Rt fun c Y=>(Pure P 137 #[.string c,.string E] Y (Rt fun a Z=>(∀L,Ext B [] Z L->(Pure P 138 #[.string x,.string a] L (Rt fun a0 k=>(Pure P 137 #[.string c,.string G] k (Rt fun a2 a3=>(Pure P 138 #[.string y,.string a2] a3 (Rt fun a4 a5=>(Pure P 137 #[.string c,.string H] a5 (Rt fun F W=>(Pure P 138 #[.string z,.string F] W (Rt fun a8 a9=>(∀M,Ext B [135] a9 M->(Pure P 137 #[.string a,.string I] M (Rt fun b0 b1=>(Pure P 138 #[.string A,.string b0] b1 (Rt fun b2 b3=>(Pure P 137 #[.string a,.string J] b3 (Rt fun b4 b5=>(Pure P 138 #[.string C,.string b4] b5 (Rt fun b6 b7=>(Pure P 137 #[.string a,.string K] b7 (Rt fun b8 b9=>(Pure P 138 #[.string D,.string b8] b9 (Rt fun c0 c1=>(az .i64 (b+1)/\(∀N,Ext B [135] c1 N->(bG.L3 d g i o (b+1) e j l f m n q r s t u v a0 a4 a8 b2 b6 c0 B N R)))))))))))))))))))))))))))))))):
  bG.J6 d g i o b e j l f m n q r s t u v x y z A C D Q S p T U V X E G H I J K B w R:=
 jr bG.cx Tryz.func103 h
theorem bG.vc{b c d:O}{e f g i a j:Nat}{w:World}{R:Kt}
  (h:(∀l,Ext w.heap.size [] w l->(bG.L3 d a j (a:Int) (0:Int) b e f c g i (⟨#[]⟩:ByteArray) (⟨#[]⟩:ByteArray) (⟨#[]⟩:ByteArray) (⟨#[]⟩:ByteArray) (⟨#[]⟩:ByteArray) (⟨#[]⟩:ByteArray) (⟨#[48]⟩:ByteArray) (⟨#[48]⟩:ByteArray) (⟨#[48]⟩:ByteArray) (⟨#[48]⟩:ByteArray) (⟨#[48]⟩:ByteArray) (⟨#[48]⟩:ByteArray) w.heap.size l R))):
  Pure P 103 #[.agg #[.slice b e f,.slice c g i],.slice d a j] w R:=
 pr bG.cx Tryz.func103 h

def oS.cx:Pm:=([],[(1,2,5),(1,3,6)])
theorem oS.vc{c:O}{d e:Nat}{f:Int}{w:World}{R:Kt}
  (h:(∀g,Ext w.heap.size [] w g->(Pure P 14 #[.slice c d e] g (Rs fun n o p a=>(∀b:Nat,w.heap.size<=b->a.heap[b]? =some (.cells [.int .i64 f].toArray 3 (0,0))->(dZ P 139 #[.slice n o p,(.func (.func 140) #[] #[(.pointer (some (⟨b,0,none⟩:Addr)))])] w.heap.size a fun q i=>HE [] a i/\∃j l m,q= .slice j l m/\(R (.slice j l m) i))))))):
  Pure P 104 #[.slice c d e,.int .i64 f] w R:=
 pr oS.cx Tryz.func104 h

def gm.cx:Pm:=([],[])
theorem gm.vc{a b:ByteArray}{w:World}{R:Kt}
  (h:(Pure P 141 #[.string a,.string b] w (Rii fun c e d=>(R (.int .i64 c) d)))):
  Pure P 105 #[.string a,.string b] w R:=
 pr gm.cx Tryz.func105 h

def pR.cx:Pm:=([],[])
theorem pR.vc{a:Int}{w:World}{R:Kt}
  (h:(R (.bool (decide (a<0))) w)):
  Pure P 115 #[.int .i64 a] w R:=
 pr pR.cx Tryz.func115 h

def lu.cx:Pm:=([],[])
theorem lu.vc{a:O}{b c:Nat}{w:World}{R:Kt}
  (h:(Pure P 148 #[.slice a b c,(.func (.func 162) #[] #[])] w (Rb fun d e=>(R (.bool (decide (d=false))) e)))):
  Pure P 120 #[.slice a b c] w R:=
 pr lu.cx Tryz.func120 h

def fY.cx:Pm:=([],[])
theorem fY.vc{a b:Int}{w:World}{R:Kt}
  (h:(Br (a≥(1:Int)) (R (.bool (decide (a<=b))) w) (R (.bool false) w))):
  Pure P 121 #[.int .i64 a,.int .i64 b] w R:=
 pr fY.cx Tryz.func121 h

def gY.cx:Pm:=([],[])
theorem gY.vc{a:ByteArray}{w:World}{R:Kt}
  (h:(Pure P 105 #[.string a,(.string ⟨#[48]⟩)] w (Ri fun b c=>(R (.int .i64 b) c)))):
  Pure P 122 #[.string a] w R:=
 pr gY.cx Tryz.func122 h

def lz.cx:Pm:=([],[])
theorem lz.vc{a:ByteArray}{w:World}{R:Kt}
  (h:(Br (((ByteArray.size a:Int):Int)≥(1:Int)) (R (.bool (decide (((ByteArray.size a:Int):Int)<=(64:Int)))) w) (R (.bool false) w))):
  Pure P 123 #[.string a] w R:=
 pr lz.cx Tryz.func123 h

def gn.cx:Pm:=([],[(1,2,4),(1,9999,3)])
theorem gn.vc{c d e:Int}{f g i j:ByteArray}{l m:Addr}{w:World}{R:Kt}
  (h:(∀a,Ext w.heap.size [] w a->(∃(b:Nat)(n o:Array Value),ae a l [(.func (.func b) n o)]/\(∃p,ae a m [.int .i64 p]/\(bc P b=true/\(∀q,Ext w.heap.size [] a q->(Pure P b ((Array.toList n)++([.agg #[.int .i64 c,.int .i64 d,.int .i64 e,.string f,.string g,.string i,.string j]]:List Value)++(Array.toList o)).toArray q (Ri fun r s=>(R (.bool (decide (r=p))) s))))))))):
  Pure P 124 #[.agg #[.int .i64 c,.int .i64 d,.int .i64 e,.string f,.string g,.string i,.string j],(.pointer (some l)),(.pointer (some m))] w R:=
 pr gn.cx Tryz.func124 h

def gZ.cx:Pm:=([],[(1,2,4),(1,9999,3)])
theorem gZ.vc{c:Int}{d e f g i j:ByteArray}{l m:Addr}{w:World}{R:Kt}
  (h:(∀a,Ext w.heap.size [] w a->(∃(b:Nat)(n o:Array Value),ae a l [(.func (.func b) n o)]/\(∃p,ae a m [.int .i64 p]/\(bc P b=true/\(∀q,Ext w.heap.size [] a q->(Pure P b ((Array.toList n)++([.agg #[.int .i64 c,.string d,.string e,.string f,.string g,.string i,.string j]]:List Value)++(Array.toList o)).toArray q (Ri fun r s=>(R (.bool (decide (r=p))) s))))))))):
  Pure P 125 #[.agg #[.int .i64 c,.string d,.string e,.string f,.string g,.string i,.string j],(.pointer (some l)),(.pointer (some m))] w R:=
 pr gZ.cx Tryz.func125 h

def oT.cx:Pm:=([],[])
theorem oT.vc{a b g:O}{c d e f i j:Nat}{l:Int}{w:World}{R:Kt}
  (h:(∀m,Ext w.heap.size [] w m->(Pure P 61 #[.agg #[.slice a c d,.slice b e f],.slice g i j] m (Ri fun A n=>(Br (A≠0) (∀o,Ext w.heap.size [135] n o->(R (.tuple #[(.agg #[(.string ⟨#[]⟩),(.string ⟨#[]⟩),(.string ⟨#[]⟩),(.string ⟨#[]⟩),(.string ⟨#[]⟩),(.string ⟨#[]⟩)]),.int .i64 1]) o)) (Pure P 63 #[.agg #[.slice a c d,.slice b e f],.int .i64 l] n (Ri fun C p=>(Br (C<0) (∀q,Ext w.heap.size [135] p q->(R (.tuple #[(.agg #[(.string ⟨#[]⟩),(.string ⟨#[]⟩),(.string ⟨#[]⟩),(.string ⟨#[]⟩),(.string ⟨#[]⟩),(.string ⟨#[]⟩)]),.int .i64 7]) q)) (∀r,Ext w.heap.size [] p r->(Pure P 104 #[.slice g i j,.int .i64 l] r (Rs fun D E G H=>(Pure P 103 #[.agg #[.slice a c d,.slice b e f],.slice D E G] H fun I J=>∃s t u v x y,I= .agg #[.string s,.string t,.string u,.string v,.string x,.string y]/\(∀z,Ext w.heap.size [135] J z->(R (.tuple #[.agg #[.string s,.string t,.string u,.string v,.string x,.string y],.int .i64 0]) z)))))))))))))):
  Pure P 129 #[.agg #[.slice a c d,.slice b e f],.slice g i j,.int .i64 l] w R:=
 pr oT.cx Tryz.func129 h

def lX.cx:Pm:=([],[])
theorem lX.vc{a:Int}{w:World}{R:Kt}
  (h:(Pure P 169 #[.int .i64 a] w (Rt fun b c=>(R (.string b) c)))):
  Pure P 136 #[.int .i64 a] w R:=
 pr lX.cx Tryz.func136 h

def ix.cx:Pm:=([],[])
theorem ix.vc{a b:ByteArray}{w:World}{R:Kt}
  (h:(Pure P 166 #[.string a,.string b] w (tv fun c e d=>(R (.string c) d)))):
  Pure P 137 #[.string a,.string b] w R:=
 pr ix.cx Tryz.func137 h

def iy.cx:Pm:=([],[])
theorem iy.vc{a b:ByteArray}{w:World}{R:Kt}
  (h:(Pure P 165 #[.string a,.string b] w (tv fun c e d=>(R (.string c) d)))):
  Pure P 138 #[.string a,.string b] w R:=
 pr iy.cx Tryz.func138 h

def sU.cx:Pm:=([],[])
theorem sU.vc{b e f:Int}{c:Addr}{w:World}{R:Kt}
  (h:(∀a,Ext w.heap.size [] w a->(∃d,ae a c [.int .i64 d]/\(R (.bool (decide (b≠d))) a)))):
  Pure P 140 #[.agg #[.int .i64 b,.int .i64 e,.int .i64 f],(.pointer (some c))] w R:=
 pr sU.cx Tryz.func140 h

def oU.cx:Pm:=([],[])
theorem oU.vc{a:ByteArray}{w:World}{R:Kt}
  (h:(Pure P 150 #[.string a] w (Rb fun b c=>(R (.bool (decide (b=false))) c)))):
  Pure P 162 #[.string a] w R:=
 pr oU.cx Tryz.func162 h

end Go.Proofs.YtgfkeadgjkfomaaGreatDoor.F

set_option maxRecDepth 100000
set_option maxHeartbeats 4000000
namespace Go.Proofs.YtgfkeadgjkfomaaGreatDoor.F
open Go Go.RowKit Go.Proofs Go.Proofs.YtgfkeadgjkfomaaGreatDoor.Vc
def eJ.cx:Pm:=([],[(3,0,2),(3,2,2)])
theorem eJ.vc{a:O}{b c:Nat}{w:World}{R:Kt}
  (h:(Br (a=none) (R (.slice none 0 0) w) (au P (Instr.buildSlice 29 0 #[]) w.heap.size [] w (Rs fun d e f g=>(au P (Builtin.append_ #[29,29] 29 #[.slice d e f,.slice a b c]) w.heap.size [] g (Rs fun i j l m=>(R (.slice i j l) m))))))):
  Pure P 14 #[.slice a b c] w R:=
 pr eJ.cx Tryz.func14 h

def eK.cx:Pm:=([],[(3,0,2),(3,2,2)])
theorem eK.vc{a:O}{b c:Nat}{w:World}{R:Kt}
  (h:(Br (a=none) (R (.slice none 0 0) w) (au P (Instr.buildSlice 30 0 #[]) w.heap.size [] w (Rs fun d e f g=>(au P (Builtin.append_ #[30,30] 30 #[.slice d e f,.slice a b c]) w.heap.size [] g (Rs fun i j l m=>(R (.slice i j l) m))))))):
  Pure P 18 #[.slice a b c] w R:=
 pr eK.cx Tryz.func18 h

def bo.L4(a:O)(b c:Nat)(d:O)(e f:Nat)(g i:Int):=Lt 21 Tryz.f21 4 [(0,.v (.slice a b c)),(1,.v (.slice d e f)),(12,.v (.int .i64 g)),(13,.v (.int .i64 i))] []
def bo.cx:Pm:=([((true,4),[0,1,12,13],[])],[])
theorem bo.L4.step{b c:O}{d g e i B:Nat}{f a:Int}{w:World}{R:Kt}
  (h:(Br (a<f) (Ix a d b fun s=>(∃j l m,ae w (s.add ((a).toNat*3)) [.int .i64 j,.int .i64 l,.int .i64 m]/\(Ix a e c fun t=>(∃n o p,ae w (t.add ((a).toNat*3)) [.int .i64 n,.int .i64 o,.int .i64 p]/\(Br (¬(j=n/\l=o/\m=p/\True)) (∀q,Ext B [] w q->(R (.bool false) q)) (az .i64 (a+1)/\(∀r,Ext B [] w r->(bo.L4 b d g c e i f (a+1) B r R)))))))) (R (.bool true) w))):
  bo.L4 b d g c e i f a B w R:=
 lr bo.cx Tryz.func21 h
theorem bo.vc{c d:O}{a e b f:Nat}{w:World}{R:Kt}
  (h:(Br ((a:Int)≠(b:Int)) (R (.bool false) w) (bo.L4 c a e d b f (a:Int) (0:Int) w.heap.size w R))):
  Pure P 21 #[.slice c a e,.slice d b f] w R:=
 pr bo.cx Tryz.func21 h

def cn.L4(a:O)(b c:Nat)(d:O)(e f:Nat)(g i:Int):=Lt 26 Tryz.f26 4 [(0,.v (.slice a b c)),(1,.v (.slice d e f)),(12,.v (.int .i64 g)),(13,.v (.int .i64 i))] []
def cn.cx:Pm:=([((true,4),[0,1,12,13],[])],[])
theorem cn.L4.step{b c:O}{d g e i B:Nat}{f a:Int}{w:World}{R:Kt}
  (h:(Br (a<f) (Ix a d b fun o=>(∃j,ae w (o.add ((a).toNat*1)) [.int .i64 j]/\(Ix a e c fun p=>(∃l,ae w (p.add ((a).toNat*1)) [.int .i64 l]/\(Br (j≠l) (∀m,Ext B [] w m->(R (.bool false) m)) (az .i64 (a+1)/\(∀n,Ext B [] w n->(cn.L4 b d g c e i f (a+1) B n R)))))))) (R (.bool true) w))):
  cn.L4 b d g c e i f a B w R:=
 lr cn.cx Tryz.func26 h
theorem cn.vc{c d:O}{a e b f:Nat}{w:World}{R:Kt}
  (h:(Br ((a:Int)≠(b:Int)) (R (.bool false) w) (cn.L4 c a e d b f (a:Int) (0:Int) w.heap.size w R))):
  Pure P 26 #[.slice c a e,.slice d b f] w R:=
 pr cn.cx Tryz.func26 h

def je.cx:Pm:=([],[(3,0,2),(3,2,2)])
theorem je.vc{a:O}{b c:Nat}{w:World}{R:Kt}
  (h:(Br (a=none) (R (.slice none 0 0) w) (au P (Instr.buildSlice 48 0 #[]) w.heap.size [] w (Rs fun d e f g=>(au P (Builtin.append_ #[48,48] 48 #[.slice d e f,.slice a b c]) w.heap.size [] g (Rs fun i j l m=>(R (.slice i j l) m))))))):
  Pure P 28 #[.slice a b c] w R:=
 pr je.cx Tryz.func28 h

def bq.L4(a:O)(b c:Nat)(d:O)(e f:Nat)(g i:Int):=Lt 39 Tryz.f39 4 [(0,.v (.slice a b c)),(1,.v (.slice d e f)),(12,.v (.int .i64 g)),(13,.v (.int .i64 i))] []
def bq.cx:Pm:=([((true,4),[0,1,12,13],[])],[])
theorem bq.L4.step{b c:O}{d g e i B:Nat}{f a:Int}{w:World}{R:Kt}
  (h:(Br (a<f) (Ix a d b fun s=>(∃j l m,ae w (s.add ((a).toNat*3)) [.int .i64 j,.int .i64 l,.int .i64 m]/\(Ix a e c fun t=>(∃n o p,ae w (t.add ((a).toNat*3)) [.int .i64 n,.int .i64 o,.int .i64 p]/\(Br (¬(j=n/\l=o/\m=p/\True)) (∀q,Ext B [] w q->(R (.bool false) q)) (az .i64 (a+1)/\(∀r,Ext B [] w r->(bq.L4 b d g c e i f (a+1) B r R)))))))) (R (.bool true) w))):
  bq.L4 b d g c e i f a B w R:=
 lr bq.cx Tryz.func39 h
theorem bq.vc{c d:O}{a e b f:Nat}{w:World}{R:Kt}
  (h:(Br ((a:Int)≠(b:Int)) (R (.bool false) w) (bq.L4 c a e d b f (a:Int) (0:Int) w.heap.size w R))):
  Pure P 39 #[.slice c a e,.slice d b f] w R:=
 pr bq.cx Tryz.func39 h

def dM.cx:Pm:=([],[(0,4,6)])
theorem dM.Jm{b:O}{a c d B:Nat}{e f:Array Value}{w:World}{R:Kt}(hB:B<=w.heap.size)
  (h:(dZ P 73 #[.slice b a c,(.int .i64 (a:Int)),(.func (.func d) e f)] B w fun i g=>HE [] w g/\i= .tuple #[]/\(R (.tuple #[]) g))):
  dZ P 43 #[.slice b a c,(.func (.func d) e f)] B w R:=
 pb dM.cx Tryz.func43 h hB

def gJ.cx:Pm:=([],[])
theorem gJ.vc{a:O}{b c:Nat}{d:Int}{w:World}{R:Kt}
  (h:(Pure P 85 #[.slice a b c,.int .i64 d] w (Ri fun e f=>(R (.bool (decide (e≥(0:Int)))) f)))):
  Pure P 57 #[.slice a b c,.int .i64 d] w R:=
 pr gJ.cx Tryz.func57 h

def an.L2(a:O)(b c:Nat)(d:Int)(e:Nat)(f:Array Value)(g:Array Value)(i j l:Int):=Lt 73 Tryz.f73 2 [(0,.v (.slice a b c)),(1,.v (.int .i64 d)),(2,.v (.func (.func e) f g)),(6,.v (.int .i64 i)),(7,.v (.int .i64 j)),(8,.v (.int .i64 l))] []
def an.L7(a:O)(b c:Nat)(d:Int)(e:Nat)(f:Array Value)(g:Array Value)(i:Int):=Lt 73 Tryz.f73 7 [(0,.v (.slice a b c)),(1,.v (.int .i64 d)),(2,.v (.func (.func e) f g)),(6,.v (.int .i64 i))] []
def an.L9(a:O)(b c:Nat)(d:Int)(e:Nat)(f:Array Value)(g:Array Value)(i j l:Int):=Lt 73 Tryz.f73 9 [(0,.v (.slice a b c)),(1,.v (.int .i64 d)),(2,.v (.func (.func e) f g)),(6,.v (.int .i64 i)),(7,.v (.int .i64 j)),(8,.v (.int .i64 l))] []
def an.cx:Pm:=([((true,2),[0,1,2,6,7,8],[]),((true,7),[0,1,2,6],[]),((true,9),[0,1,2,6,7,8],[])],[(3,4,6),(6,4,6),(10,7,6),(15,5,6)])
theorem an.L2.step{b:O}{c d e B:Nat}{f g l a:Int}{i j:Array Value}{w:World}{R:Kt}
  (h:(Br (a<=f) (dZ P 106 #[.slice b c d,.int .i64 l,.int .i64 a,(.func (.func e) i j)] B w fun o m=>HE [] w m/\o= .tuple #[]/\(az .i64 (a+g)/\(an.L2 b c d f e i j g a (a+g) B m R))) (dZ P 106 #[.slice b c d,.int .i64 l,.int .i64 f,(.func (.func e) i j)] B w fun p n=>HE [] w n/\p= .tuple #[]/\(an.L7 b c d f e i j g B n R)))):
  an.L2 b c d f e i j g l a B w R:=
 lr an.cx Tryz.func73 h
theorem an.L7.step{c:O}{d e f B:Nat}{b a:Int}{g i:Array Value}{w:World}{R:Kt}
  (h:(Br (a<b) (az .i64 ((2:Int)*a)/\(an.L9 c d e b f g i a (0:Int) ((2:Int)*a) B w R)) (R (.tuple #[]) w))):
  an.L7 c d e b f g i a B w R:=
 lr an.cx Tryz.func73 h
theorem an.L9.step{d:O}{e f g B:Nat}{c a b i:Int}{j l:Array Value}{w:World}{R:Kt}
  (h:(Br (i<=c) (az .i64 (b+a)/\(dZ P 107 #[.slice d e f,.int .i64 b,(.int .i64 (b+a)),.int .i64 i,(.func (.func g) j l)] B w fun o m=>HE [] w m/\o= .tuple #[]/\(az .i64 ((2:Int)*a)/\(az .i64 (i+((2:Int)*a))/\(an.L9 d e f c g j l a i (i+((2:Int)*a)) B m R))))) (az .i64 (b+a)/\(Br (((b+a):Int)<c) (dZ P 107 #[.slice d e f,.int .i64 b,(.int .i64 (b+a)),.int .i64 c,(.func (.func g) j l)] B w fun p n=>HE [] w n/\p= .tuple #[]/\(az .i64 (a*(2:Int))/\(an.L7 d e f c g j l (a*(2:Int)) B n R))) (az .i64 (a*(2:Int))/\(an.L7 d e f c g j l (a*(2:Int)) B w R)))))):
  an.L9 d e f c g j l a b i B w R:=
 lr an.cx Tryz.func73 h
theorem an.Jm{a:O}{b c d B:Nat}{e:Int}{f g:Array Value}{w:World}{R:Kt}(hB:B<=w.heap.size)
  (h:(an.L2 a b c e d f g (20:Int) (0:Int) (20:Int) B w R)):
  dZ P 73 #[.slice a b c,.int .i64 e,(.func (.func d) f g)] B w R:=
 pb an.cx Tryz.func73 h hB

def cr.L2(a:O)(b c:Nat)(d e f:Int):=Lt 85 Tryz.f85 2 [(0,.v (.slice a b c)),(1,.v (.int .i64 d)),(7,.v (.int .i64 e)),(8,.v (.int .i64 f))] []
def cr.cx:Pm:=([((true,2),[0,1,7,8],[])],[])
theorem cr.L2.step{b:O}{c f B:Nat}{d e a:Int}{w:World}{R:Kt}
  (h:(Br (a<e) (Ix a c b fun i=>(∃g,ae w (i.add ((a).toNat*1)) [.int .i64 g]/\(Br (d=g) (R (.int .i64 a) w) (az .i64 (a+1)/\(cr.L2 b c f d e (a+1) B w R))))) (R (.int .i64 (-1:Int)) w))):
  cr.L2 b c f d e a B w R:=
 lr cr.cx Tryz.func85 h
theorem cr.vc{b:O}{a c:Nat}{d:Int}{w:World}{R:Kt}
  (h:(cr.L2 b a c d (a:Int) (0:Int) w.heap.size w R)):
  Pure P 85 #[.slice b a c,.int .i64 d] w R:=
 pr cr.cx Tryz.func85 h

def aW.L2(a:O)(b c d:Nat)(e:Array Value)(f:Array Value)(g i:Int):=Lt 101 Tryz.f101 2 [(0,.v (.slice a b c)),(1,.v (.func (.func d) e f)),(7,.v (.int .i64 g)),(8,.v (.int .i64 i))] []
def aW.cx:Pm:=([((true,2),[0,1,7,8],[])],[(4,5,4)])
theorem aW.L2.step{c:O}{d i b B:Nat}{e f:Array Value}{g a:Int}{w:World}{R:Kt}
  (h:(Br (a<g) (Ix a d c fun s=>(∃j l m n o p q,ae w (s.add ((a).toNat*7)) [.int .i64 j,.string l,.string m,.string n,.string o,.string p,.string q]/\(bc P b=true/\(Pure P b ((Array.toList e)++([.agg #[.int .i64 j,.string l,.string m,.string n,.string o,.string p,.string q]]:List Value)++(Array.toList f)).toArray w (Rb fun t r=>(Bb t (R (.int .i64 a) r) (az .i64 (a+1)/\(aW.L2 c d i b e f g (a+1) B r R)))))))) (R (.int .i64 (-1:Int)) w))):
  aW.L2 c d i b e f g a B w R:=
 lr aW.cx Tryz.func101 h
theorem aW.vc{b:O}{a c d:Nat}{e f:Array Value}{w:World}{R:Kt}
  (h:(aW.L2 b a c d e f (a:Int) (0:Int) w.heap.size w R)):
  Pure P 101 #[.slice b a c,(.func (.func d) e f)] w R:=
 pr aW.cx Tryz.func101 h

def ak.L1(a:O)(b c:Nat)(d e:Int)(f:Nat)(g:Array Value)(i:Array Value)(j:Int):=Lt 106 Tryz.f106 1 [(0,.v (.slice a b c)),(1,.v (.int .i64 d)),(2,.v (.int .i64 e)),(3,.v (.func (.func f) g i)),(8,.v (.int .i64 j))] []
def ak.L4(a:O)(b c:Nat)(d e:Int)(f:Nat)(g:Array Value)(i:Array Value)(j l:Int):=Lt 106 Tryz.f106 4 [(0,.v (.slice a b c)),(1,.v (.int .i64 d)),(2,.v (.int .i64 e)),(3,.v (.func (.func f) g i)),(8,.v (.int .i64 j)),(9,.v (.int .i64 l))] []
def ak.cx:Pm:=([((true,1),[0,1,2,3,8],[]),((true,4),[0,1,2,3,8,9],[])],[(4,14,4)])
theorem ak.L1.step{c:O}{d e f B:Nat}{g b a:Int}{i j:Array Value}{w:World}{R:Kt}
  (h:(Br (a<b) (ak.L4 c d e g b f i j a a B w R) (R (.tuple #[]) w))):
  ak.L1 c d e g b f i j a B w R:=
 lr ak.cx Tryz.func106 h
theorem ak.L4.step{b:O}{c m d B:Nat}{i n e a:Int}{j l:Array Value}{w:World}{R:Kt}
  (h:(Br (a>i) (Ix a c b fun N=>(∃v x y,ae w (N.add ((a).toNat*3)) [.int .i64 v,.int .i64 x,.int .i64 y]/\(az .i64 (a - (1:Int))/\(Ix (a - (1:Int)) c b fun Q=>(∃z A C,ae w (Q.add (((a - (1:Int))).toNat*3)) [.int .i64 z,.int .i64 A,.int .i64 C]/\(bc P d=true/\(∀D,Ext B [] w D->(Pure P d ((Array.toList j)++([.agg #[.int .i64 v,.int .i64 x,.int .i64 y],.agg #[.int .i64 z,.int .i64 A,.int .i64 C]]:List Value)++(Array.toList l)).toArray D (Ri fun S o=>(Br (S<0) (az .i64 (a - (1:Int))/\(az .i64 (a - (1:Int))/\(Ix (a - (1:Int)) c b fun T=>(∃E G H,ae o (T.add (((a - (1:Int))).toNat*3)) [.int .i64 E,.int .i64 G,.int .i64 H]/\(Ix a c b fun U=>(∃I J K,ae o (U.add ((a).toNat*3)) [.int .i64 I,.int .i64 J,.int .i64 K]/\(Ix a c b fun f=>(∀p,Ext B [] o p->(∃(q:List Value)(r:Nat),B<=(f.add ((a).toNat*3)).block/\(f.add ((a).toNat*3)).spot=none/\p.heap[(f.add ((a).toNat*3)).block]? =some (.cells q.toArray r (0,0))/\(f.add ((a).toNat*3)).off+3<=q.length/\hasType r []=false/\∀s,dd p s (f.add ((a).toNat*3)).block r (setCells q (f.add ((a).toNat*3)).off [.int .i64 E,.int .i64 G,.int .i64 H])->(Ix (a - (1:Int)) c b fun g=>(∃(t:List Value)(u:Nat),B<=(g.add (((a - (1:Int))).toNat*3)).block/\(g.add (((a - (1:Int))).toNat*3)).spot=none/\s.heap[(g.add (((a - (1:Int))).toNat*3)).block]? =some (.cells t.toArray u (0,0))/\(g.add (((a - (1:Int))).toNat*3)).off+3<=t.length/\hasType u []=false/\∀L,dd s L (g.add (((a - (1:Int))).toNat*3)).block u (setCells t (g.add (((a - (1:Int))).toNat*3)).off [.int .i64 I,.int .i64 J,.int .i64 K])->(az .i64 (a - (1:Int))/\(ak.L4 b c m i n d j l e (a - (1:Int)) B L R))))))))))))) (az .i64 (e+1)/\(ak.L1 b c m i n d j l (e+1) B o R)))))))))))) (az .i64 (e+1)/\(∀M,Ext B [] w M->(ak.L1 b c m i n d j l (e+1) B M R))))):
  ak.L4 b c m i n d j l e a B w R:=
 lr ak.cx Tryz.func106 h
theorem ak.Jm{b:O}{c d e B:Nat}{a f:Int}{g i:Array Value}{w:World}{R:Kt}(hB:B<=w.heap.size)
  (h:(az .i64 (a+1)/\(ak.L1 b c d a f e g i (a+1) B w R))):
  dZ P 106 #[.slice b c d,.int .i64 a,.int .i64 f,(.func (.func e) g i)] B w R:=
 pb ak.cx Tryz.func106 h hB

def aH.L2(a:O)(b c d:Nat)(e:Array Value)(f:Array Value)(g i:Int):=Lt 111 Tryz.f111 2 [(0,.v (.slice a b c)),(1,.v (.func (.func d) e f)),(7,.v (.int .i64 g)),(8,.v (.int .i64 i))] []
def aH.cx:Pm:=([((true,2),[0,1,7,8],[])],[(4,5,4)])
theorem aH.L2.step{c:O}{d i b B:Nat}{e f:Array Value}{g a:Int}{w:World}{R:Kt}
  (h:(Br (a<g) (Ix a d c fun s=>(∃j l m n o p q,ae w (s.add ((a).toNat*7)) [.int .i64 j,.int .i64 l,.int .i64 m,.string n,.string o,.string p,.string q]/\(bc P b=true/\(Pure P b ((Array.toList e)++([.agg #[.int .i64 j,.int .i64 l,.int .i64 m,.string n,.string o,.string p,.string q]]:List Value)++(Array.toList f)).toArray w (Rb fun t r=>(Bb t (R (.int .i64 a) r) (az .i64 (a+1)/\(aH.L2 c d i b e f g (a+1) B r R)))))))) (R (.int .i64 (-1:Int)) w))):
  aH.L2 c d i b e f g a B w R:=
 lr aH.cx Tryz.func111 h
theorem aH.vc{b:O}{a c d:Nat}{e f:Array Value}{w:World}{R:Kt}
  (h:(aH.L2 b a c d e f (a:Int) (0:Int) w.heap.size w R)):
  Pure P 111 #[.slice b a c,(.func (.func d) e f)] w R:=
 pr aH.cx Tryz.func111 h

def fq.cx:Pm:=([],[])
theorem fq.vc{a:O}{b c d:Nat}{e f:Array Value}{w:World}{R:Kt}
  (h:(Pure P 155 #[.slice a b c,(.func (.func d) e f)] w (Ri fun g i=>(R (.bool (decide (g≥(0:Int)))) i)))):
  Pure P 114 #[.slice a b c,(.func (.func d) e f)] w R:=
 pr fq.cx Tryz.func114 h

def dU.cx:Pm:=([],[])
theorem dU.vc{a:O}{b c d:Nat}{e f:Array Value}{w:World}{R:Kt}
  (h:(Pure P 168 #[.slice a b c,(.func (.func d) e f)] w (Ri fun g i=>(R (.bool (decide (g≥(0:Int)))) i)))):
  Pure P 133 #[.slice a b c,(.func (.func d) e f)] w R:=
 pr dU.cx Tryz.func133 h

def aK.L5(a:O)(b c d:Nat)(e:Array Value)(f:Array Value)(g i:Int):=Lt 139 Tryz.f139 5 [(0,.v (.slice a b c)),(1,.v (.func (.func d) e f)),(5,.v (.int .i64 g)),(6,.v (.int .i64 i))] []
def aK.cx:Pm:=([((true,5),[0,1,5,6],[])],[(7,4,2),(8,2,4),(11,3,2)])
theorem aK.L5.step{f:O}{b d i B:Nat}{j l:Array Value}{a e:Int}{w:World}{R:Kt}
  (h:(Br (e<(b:Int)) (Ix e b f fun G=>(∃s t u,ae w (G.add ((e).toNat*3)) [.int .i64 s,.int .i64 t,.int .i64 u]/\(au P (Instr.alloc 39 true (.tuple #[])) B [] w fun H v=>∃(c:Addr),H= .pointer (some c)/\(∃(n:List Value)(o:Nat),B<=c.block/\c.spot=none/\v.heap[c.block]? =some (.cells n.toArray o (0,0))/\c.off+3<=n.length/\hasType o []=false/\∀p,dd v p c.block o (setCells n c.off [.int .i64 s,.int .i64 t,.int .i64 u])->(∃x y z,ae p c [.int .i64 x,.int .i64 y,.int .i64 z]/\(bc P i=true/\(Pure P i ((Array.toList j)++([.agg #[.int .i64 x,.int .i64 y,.int .i64 z]]:List Value)++(Array.toList l)).toArray p (Rb fun I m=>(Br (I=false) (∃A C D,ae m c [.int .i64 A,.int .i64 C,.int .i64 D]/\(Ix a b f fun g=>(∃(q:List Value)(r:Nat),B<=(g.add ((a).toNat*3)).block/\(g.add ((a).toNat*3)).spot=none/\m.heap[(g.add ((a).toNat*3)).block]? =some (.cells q.toArray r (0,0))/\(g.add ((a).toNat*3)).off+3<=q.length/\hasType r []=false/\∀E,dd m E (g.add ((a).toNat*3)).block r (setCells q (g.add ((a).toNat*3)).off [.int .i64 A,.int .i64 C,.int .i64 D])->(az .i64 (a+1)/\(az .i64 (e+1)/\(aK.L5 f b d i j l (a+1) (e+1) B E R)))))) (az .i64 (e+1)/\(aK.L5 f b d i j l a (e+1) B m R))))))))))) ((0<=a/\a<=(b:Int)/\b<=d)/\(au P (Builtin.clear_ #[29] 0 #[(.slice (kA f ((a).toNat) d 3) (b - (a).toNat) (d - (a).toNat))]) B [] w fun J K=>J= .tuple #[]/\((0<=a/\a<=(d:Int))/\(R (.slice f ((a).toNat) d) K)))))):
  aK.L5 f b d i j l a e B w R:=
 lr aK.cx Tryz.func139 h
theorem aK.Jm{a:O}{b c e B:Nat}{f g:Array Value}{w:World}{R:Kt}(hB:B<=w.heap.size)
  (h:(Pure P 168 #[.slice a b c,(.func (.func e) f g)] w (Ri fun d i=>(Br (d=(-1:Int)) (R (.slice a b c) i) (az .i64 (d+1)/\(aK.L5 a b c e f g d (d+1) B i R)))))):
  dZ P 139 #[.slice a b c,(.func (.func e) f g)] B w R:=
 pb aK.cx Tryz.func139 h hB

def dz.cx:Pm:=([],[])
theorem dz.vc{a:O}{b c d:Nat}{e f:Array Value}{w:World}{R:Kt}
  (h:(Pure P 178 #[.slice a b c,(.func (.func d) e f)] w (Ri fun g i=>(R (.bool (decide (g≥(0:Int)))) i)))):
  Pure P 148 #[.slice a b c,(.func (.func d) e f)] w R:=
 pr dz.cx Tryz.func148 h

def dV.cx:Pm:=([],[])
theorem dV.vc{a:O}{b c d:Nat}{e f:Array Value}{w:World}{R:Kt}
  (h:(Pure P 180 #[.slice a b c,(.func (.func d) e f)] w (Ri fun g i=>(R (.bool (decide (g≥(0:Int)))) i)))):
  Pure P 152 #[.slice a b c,(.func (.func d) e f)] w R:=
 pr dV.cx Tryz.func152 h

def bJ.L2(a:O)(b c d:Nat)(e:Array Value)(f:Array Value)(g i:Int):=Lt 155 Tryz.f155 2 [(0,.v (.slice a b c)),(1,.v (.func (.func d) e f)),(7,.v (.int .i64 g)),(8,.v (.int .i64 i))] []
def bJ.cx:Pm:=([((true,2),[0,1,7,8],[])],[(4,5,4)])
theorem bJ.L2.step{c:O}{d i b B:Nat}{e f:Array Value}{g a:Int}{w:World}{R:Kt}
  (h:(Br (a<g) (Ix a d c fun m=>(∃j,ae w (m.add ((a).toNat*1)) [.int .i64 j]/\(bc P b=true/\(Pure P b ((Array.toList e)++([.int .i64 j]:List Value)++(Array.toList f)).toArray w (Rb fun n l=>(Bb n (R (.int .i64 a) l) (az .i64 (a+1)/\(bJ.L2 c d i b e f g (a+1) B l R)))))))) (R (.int .i64 (-1:Int)) w))):
  bJ.L2 c d i b e f g a B w R:=
 lr bJ.cx Tryz.func155 h
theorem bJ.vc{b:O}{a c d:Nat}{e f:Array Value}{w:World}{R:Kt}
  (h:(bJ.L2 b a c d e f (a:Int) (0:Int) w.heap.size w R)):
  Pure P 155 #[.slice b a c,(.func (.func d) e f)] w R:=
 pr bJ.cx Tryz.func155 h

def aN.L2(a:O)(b c d:Nat)(e:Array Value)(f:Array Value)(g i:Int):=Lt 168 Tryz.f168 2 [(0,.v (.slice a b c)),(1,.v (.func (.func d) e f)),(7,.v (.int .i64 g)),(8,.v (.int .i64 i))] []
def aN.cx:Pm:=([((true,2),[0,1,7,8],[])],[(4,5,4)])
theorem aN.L2.step{c:O}{d i b B:Nat}{e f:Array Value}{g a:Int}{w:World}{R:Kt}
  (h:(Br (a<g) (Ix a d c fun o=>(∃j l m,ae w (o.add ((a).toNat*3)) [.int .i64 j,.int .i64 l,.int .i64 m]/\(bc P b=true/\(Pure P b ((Array.toList e)++([.agg #[.int .i64 j,.int .i64 l,.int .i64 m]]:List Value)++(Array.toList f)).toArray w (Rb fun p n=>(Bb p (R (.int .i64 a) n) (az .i64 (a+1)/\(aN.L2 c d i b e f g (a+1) B n R)))))))) (R (.int .i64 (-1:Int)) w))):
  aN.L2 c d i b e f g a B w R:=
 lr aN.cx Tryz.func168 h
theorem aN.vc{b:O}{a c d:Nat}{e f:Array Value}{w:World}{R:Kt}
  (h:(aN.L2 b a c d e f (a:Int) (0:Int) w.heap.size w R)):
  Pure P 168 #[.slice b a c,(.func (.func d) e f)] w R:=
 pr aN.cx Tryz.func168 h

def aU.L2(a:O)(b c d:Nat)(e:Array Value)(f:Array Value)(g i:Int):=Lt 178 Tryz.f178 2 [(0,.v (.slice a b c)),(1,.v (.func (.func d) e f)),(7,.v (.int .i64 g)),(8,.v (.int .i64 i))] []
def aU.cx:Pm:=([((true,2),[0,1,7,8],[])],[(4,5,4)])
theorem aU.L2.step{c:O}{d i b B:Nat}{e f:Array Value}{g a:Int}{w:World}{R:Kt}
  (h:(Br (a<g) (Ix a d c fun m=>(∃j,ae w (m.add ((a).toNat*1)) [.string j]/\(bc P b=true/\(Pure P b ((Array.toList e)++([.string j]:List Value)++(Array.toList f)).toArray w (Rb fun n l=>(Bb n (R (.int .i64 a) l) (az .i64 (a+1)/\(aU.L2 c d i b e f g (a+1) B l R)))))))) (R (.int .i64 (-1:Int)) w))):
  aU.L2 c d i b e f g a B w R:=
 lr aU.cx Tryz.func178 h
theorem aU.vc{b:O}{a c d:Nat}{e f:Array Value}{w:World}{R:Kt}
  (h:(aU.L2 b a c d e f (a:Int) (0:Int) w.heap.size w R)):
  Pure P 178 #[.slice b a c,(.func (.func d) e f)] w R:=
 pr aU.cx Tryz.func178 h

def aX.L2(a:O)(b c d:Nat)(e:Array Value)(f:Array Value)(g i:Int):=Lt 180 Tryz.f180 2 [(0,.v (.slice a b c)),(1,.v (.func (.func d) e f)),(7,.v (.int .i64 g)),(8,.v (.int .i64 i))] []
def aX.cx:Pm:=([((true,2),[0,1,7,8],[])],[(4,5,4)])
theorem aX.L2.step{c:O}{d i b B:Nat}{e f:Array Value}{g a:Int}{w:World}{R:Kt}
  (h:(Br (a<g) (Ix a d c fun u=>(∃j l m n o p q r s,ae w (u.add ((a).toNat*7)) [.string j,.int .i64 l,.slice m n o,.string p,.string q,.int .i64 r,.int .i64 s]/\(bc P b=true/\(Pure P b ((Array.toList e)++([.agg #[.string j,.int .i64 l,.slice m n o,.string p,.string q,.int .i64 r,.int .i64 s]]:List Value)++(Array.toList f)).toArray w (Rb fun v t=>(Bb v (R (.int .i64 a) t) (az .i64 (a+1)/\(aX.L2 c d i b e f g (a+1) B t R)))))))) (R (.int .i64 (-1:Int)) w))):
  aX.L2 c d i b e f g a B w R:=
 lr aX.cx Tryz.func180 h
theorem aX.vc{b:O}{a c d:Nat}{e f:Array Value}{w:World}{R:Kt}
  (h:(aX.L2 b a c d e f (a:Int) (0:Int) w.heap.size w R)):
  Pure P 180 #[.slice b a c,(.func (.func d) e f)] w R:=
 pr aX.cx Tryz.func180 h

def dW.cx:Pm:=([],[])
theorem dW.vc{a:O}{b c d:Nat}{e f:Array Value}{w:World}{R:Kt}
  (h:(Pure P 101 #[.slice a b c,(.func (.func d) e f)] w (Ri fun g i=>(R (.bool (decide (g≥(0:Int)))) i)))):
  Pure P 182 #[.slice a b c,(.func (.func d) e f)] w R:=
 pr dW.cx Tryz.func182 h

def dE.cx:Pm:=([],[])
theorem dE.vc{a:O}{b c d:Nat}{e f:Array Value}{w:World}{R:Kt}
  (h:(Pure P 111 #[.slice a b c,(.func (.func d) e f)] w (Ri fun g i=>(R (.bool (decide (g≥(0:Int)))) i)))):
  Pure P 184 #[.slice a b c,(.func (.func d) e f)] w R:=
 pr dE.cx Tryz.func184 h

end Go.Proofs.YtgfkeadgjkfomaaGreatDoor.F

namespace Go.Proofs.YtgfkeadgjkfomaaGreatDoor.B
open Go Go.RowKit Go.Proofs Go.Proofs.YtgfkeadgjkfomaaGreatDoor.Vc

theorem cK.at_{α:Type}{row:α->List Value}{sz:Nat}{w:World}{A:Option Addr}{n:Nat}{v:List α}(h:cK w A sz (v.map row))(b:∀x,(row x).length=sz)(hl:v.length=n){i:Nat}(hi:i<v.length):
  (0<=(i:Int)/\(i:Int)<n)/\∃a,A=some a/\ae w (a.add ((i:Int).toNat*sz)) (row v[i])/\∀k u,(row v[i])[k]? =some u->ae w ((a.add ((i:Int).toNat*sz)).add k) [u]:=by
 obtain⟨hb,a,c,d⟩:=h.load (n:=n) (by simpa using hl) (j:=(i:Int)) om om;obtain⟨e,hf⟩:=d (row v[i]) (by rw[dq];simp[hi]) (b _);exact⟨hb,a,c,e,hf⟩
theorem zT{w:World}{a:Addr}{vs:List Value}(h:ae w a vs)(k n:Nat):ae w (a.add k) ((vs.drop k).take n):=by
 intro i hi;have b:k+i<vs.length:=by rw[fs,zB]at hi;omega
 rw[Go.Deep.add_add,h (k+i) b];simp

abbrev Pa.row(p:Pa):List Value:=[.int .i64 p.id,.int .i64 p.aO,.int .i64 p.cls,.string p.name,.string p.eF,.string p.nJ,.string p.dP]
abbrev Pa.val(p:Pa):Value:= .agg #[.int .i64 p.id,.int .i64 p.aO,.int .i64 p.cls,.string p.name,.string p.eF,.string p.nJ,.string p.dP]
abbrev Ho.row(h:Ho):List Value:=[.int .i64 h.id,.string h.name,.string h.room,.string h.il,.string h.x,.string h.y,.string h.z]
abbrev Ho.val(h:Ho):Value:= .agg #[.int .i64 h.id,.string h.name,.string h.room,.string h.il,.string h.x,.string h.y,.string h.z]
abbrev Sw.row(s:Sw):List Value:=[.int .i64 s.hold,.int .i64 s.aG,.int .i64 s.aO]
abbrev Sw.val(s:Sw):Value:= .agg #[.int .i64 s.hold,.int .i64 s.aG,.int .i64 s.aO]
structure SmP (p:Pa):Prop where
 eF:rW p.eF
 nJ:rW p.nJ
 dP:rW p.dP
 name:p.name.size<2147483648
structure SmH (h:Ho):Prop where
 room:rW h.room
 il:rW h.il
 x:rW h.x
 y:rW h.y
 z:rW h.z
 name:h.name.size<2147483648
structure dF (w:World) (A0:Option Addr) (n0:Nat) (A1:Option Addr) (n1:Nat) (ps:List Pa) (hs:List Ho):Prop where
 p:cK w A0 7 (ps.map Pa.row)
 h:cK w A1 7 (hs.map Ho.row)
 lp:ps.length=n0
 lh:hs.length=n1
 sp:∀p∈ps,SmP p
 sh:∀h∈hs,SmH h
 np:n0<=7
 nh:n1<=7
theorem dF.aj{w w':World}{A0 A1:Option Addr}{n0 n1:Nat}{ps:List Pa}{hs:List Ho}(h:dF w A0 n0 A1 n1 ps hs)(hb:Below w.heap.size w w'):dF w' A0 n0 A1 n1 ps hs:=
 ⟨h.p.aj hb lf,h.h.aj hb lf,h.lp,h.lh,h.sp,h.sh,h.np,h.nh⟩

theorem iy{w:World}{x y:Rat}(a:cT w)(hx:jy x)(hy:jy y):Pure Tryz.prog 138 #[.string (rS x),.string (rS y)] w fun v _=>v= .string (rS (x+y)):=by
 refine F.iy.vc (pm (jo a hx hy) ?_);rintro v b _ rfl;exact⟨_,_,rfl,rfl⟩
theorem ix{w:World}{x y:Rat}(a:cT w)(hx:jy x)(hy:jy y):Pure Tryz.prog 137 #[.string (rS x),.string (rS y)] w fun v _=>v= .string (rS (x*y)):=by
 refine F.ix.vc (pm (jq a hx hy) ?_);rintro v b _ rfl;exact⟨_,_,rfl,rfl⟩
theorem gm{w:World}{x y:Rat}(a:cT w)(hx:jy x)(hy:jy y):Pure Tryz.prog 105 #[.string (rS x),.string (rS y)] w fun v _=>v= .int .i64 (fm x y):=by
 refine F.gm.vc (pm (fC a hx hy) ?_);rintro v b _ rfl;exact⟨_,_,rfl,rfl⟩
theorem gY{w:World}{s:ByteArray}(a:cT w)(hs:rW s)(h:vR s=true):Pure Tryz.prog 122 #[.string s] w fun v _=>v= .int .i64 (fm (qR s) 0):=by
 refine F.gY.vc ?_;rw[s0,nV h,Rd];refine pm (gm a (hs.sQ h) (Sm.zero om)) ?_;rintro v b _ rfl;exact⟨_,rfl,rfl⟩
theorem lX{w:World}{z:Int}(a:cT w)(h0: -9223372036854775808<=z)(h1:z<=9223372036854775807):Pure Tryz.prog 136 #[.int .i64 z] w fun v _=>v= .string (rS (z:Rat)):=by
 refine F.lX.vc (pm (SA a z h0 h1) ?_);rintro v b _ rfl;refine⟨_,rfl,?_⟩;rw[SC]
theorem lz(s:ByteArray)(w:World):Pure Tryz.prog 123 #[.string s] w fun v w'=>v= .bool (decide (1<=s.size/\s.size<=64)):=by
 refine F.lz.vc ⟨fun h=> ?_,fun h=> ?_⟩
 ·refine dB Value.bool ?_;rw[jB];omega
 ·refine dB Value.bool ?_;exact(eh om).symm
theorem fY(n m:Int)(w:World):Pure Tryz.prog 121 #[.int .i64 n,.int .i64 m] w fun v _=>v= .bool (decide (1<=n/\n<=m)):=by
 refine F.fY.vc ⟨fun h=> ?_,fun h=> ?_⟩
 ·refine dB Value.bool ?_;rw[jB];omega
 ·refine dB Value.bool ?_;exact(eh om).symm

abbrev zU(s:ByteArray):List Value:=[.string s]
theorem zV{w0:World}{A:Option Addr}{n c:Nat}{l:List ByteArray}(hl:cK w0 A 1 (l.map zU))(hlen:l.length=n)(hn:n<2147483648){f:Nat}{a k:Array Value}(eR:bc Tryz.prog f=true){p:ByteArray->Bool}
  (hf:∀w,Below w0.heap.size w0 w->∀x∈l,Pure Tryz.prog f (a.toList++([.string x]:List Value)++k.toList).toArray w fun v _=>v= .bool (p x)) {R:Value->World->Prop} {r:Int} (g:∀w,R (.int .i64 r) w):
  ∀(d i:Nat)(w:World),n - i=d->i<=n->Below w0.heap.size w0 w->r=js p i (l.drop i)->F.aU.L2 A n c f a k n i w0.heap.size w R:=by
 intro d;induction d with
 |zero=>
  intro i w o hi hw b;rw[dp om]at b;subst b;exact F.aU.L2.step ⟨fun h=>by omega,fun _=>g w⟩
 |succ d ih=>
  intro i w o hi hw b;have j:i<l.length:=om;rw[ec j,js]at b;obtain⟨hb,q,y,e,_⟩:=(hl.aj hw lf).at_ (fun _=>rfl) hlen j;refine F.aU.L2.step ⟨fun _=> ?_,fun h=>by omega⟩;refine⟨hb,q,y,_,e,eR,pm (hf w hw l[i] (cd _)) ?_⟩;rintro v m z rfl;refine⟨_,rfl,fun h=> ?_,fun h=>⟨ir,?_⟩⟩
  ·rw[cc h]at b;subst b;exact g m
  ·rw[ar (by simp[h])]at b;have B:=sc i;rw[B];exact ih (i+1) m om om (kP hw z) b
theorem tE{α:Type}(p:α->Bool)(l:List α):decide (js p 0 l≥0)=l.any p:=by
 have:=MK p l 0;by_cases h:l.any p=true
 ·rw[h];exact fc (this.2 h)
 ·rw[zC _|>.mp h];exact eh fun k=>h (this.1 k)
theorem lu{w:World}(b:cT w){A:Option Addr}{n c:Nat}{l:List ByteArray}(hl:cK w A 1 (l.map zU))(hlen:l.length=n)(hn:n<2147483648)(hs:∀s∈l,rW s):
  Pure Tryz.prog 120 #[.slice A n c] w fun v _=>v= .bool (l.all vR):=by
 refine F.lu.vc (pm (F.dz.vc (R:=fun v _=>v= .bool (l.any fun s=> !vR s)) (pm (F.aU.vc (zV (p:=fun s=> !vR s) hl hlen hn kF (fun w' hb x hx=> ?_) (R:=fun v _=>v= .int .i64 (js (fun s=> !vR s) 0 l)) (fun _=>rfl) n 0 w rfl om (Below.refl _ _) rfl)) ?_)) ?_)
 ·refine F.oU.vc (pm (gE (b.next hb) x (by have:=hs x hx;unfold rW at this;omega)) ?_);rintro v a _ rfl;refine⟨_,rfl,dB Value.bool ?_⟩;unfold vR;cases km (bM x)<;>rfl
 ·rintro v a _ rfl;exact⟨_,rfl,by dsimp only;rw[tE]⟩
 ·rintro v a _ rfl;refine⟨_,rfl,dB Value.bool ?_⟩;rw[sr];simp

theorem oB{α:Type}(p:α->Bool):∀(l:List α)(k:Nat),js p k l=match l.findIdx? p with|some i=>((k+i:Nat):Int)|none=> -1:=by
 intro l;induction l with
 |nil=>intro k;rfl
 |cons c r ih=>
  intro k;rw[js,List.findIdx?_cons];by_cases h:p c=true
  ·rw[cc h,cc h];rfl
  ·rw[ar h,ar h,ih];cases r.findIdx? p with
   |none=>rfl
   |some i=>simp only[Ro];congr 1;omega
def nK:Option Nat->Int
 |some i=>(i:Int)
 |none=> -1

theorem MQ{w0:World}{A:Option Addr}{n c:Nat}{l:List Pa}(hl:cK w0 A 7 (l.map Pa.row))(hlen:l.length=n)(hn:n<2147483648){f:Nat}{a k:Array Value}(eR:bc Tryz.prog f=true){p:Pa->Bool}
  (hf:∀w,Below w0.heap.size w0 w->∀x∈l,Pure Tryz.prog f (a.toList++([x.val]:List Value)++k.toList).toArray w fun v _=>v= .bool (p x)) {R:Value->World->Prop} {r:Int} (g:∀w,Below w0.heap.size w0 w->R (.int .i64 r) w):
  ∀(d i:Nat)(w:World),n - i=d->i<=n->Below w0.heap.size w0 w->r=js p i (l.drop i)->F.aH.L2 A n c f a k n i w0.heap.size w R:=by
 intro d;induction d with
 |zero=>
  intro i w q hi hw b;rw[dp om]at b;subst b;exact F.aH.L2.step ⟨fun h=>by omega,fun _=>g w hw⟩
 |succ d ih=>
  intro i w q hi hw b;have j:i<l.length:=om;rw[ec j,js]at b;obtain⟨hb,y,z,e,_⟩:=(hl.aj hw lf).at_ (fun _=>rfl) hlen j;refine F.aH.L2.step ⟨fun _=> ?_,fun h=>by omega⟩;refine⟨hb,y,z,_,_,_,_,_,_,_,e,eR,pm (hf w hw l[i] (cd _)) ?_⟩;rintro v m o rfl;refine⟨_,rfl,fun h=> ?_,fun h=>⟨ir,?_⟩⟩
  ·rw[cc h]at b;subst b;exact g m (kP hw o)
  ·rw[ar (by simp[h])]at b;have B:=sc i;rw[B];exact ih (i+1) m om om (kP hw o) b
theorem wB{w:World}{A:Option Addr}{n c:Nat}{l:List Pa}(hl:cK w A 7 (l.map Pa.row))(hlen:l.length=n)(hn:n<2147483648){f:Nat}{a k:Array Value}(eR:bc Tryz.prog f=true){p:Pa->Bool}
  (hf:∀w',Below w.heap.size w w'->∀x∈l,Pure Tryz.prog f (a.toList++([x.val]:List Value)++k.toList).toArray w' fun v _=>v= .bool (p x)):
  Pure Tryz.prog 111 #[.slice A n c,.func (.func f) a k] w fun v _=>v= .int .i64 (nK (l.findIdx? p)):=
 F.aH.vc (MQ hl hlen hn eR hf (fun _ _=>rfl) n 0 w rfl om (Below.refl _ _) (by
  have:=oB p l 0;rw[uQ,this];cases l.findIdx? p with
  |none=>rfl
  |some i=>simp only[nK,oi]))
theorem gX{w:World}{A0 A1:Option Addr}{n0 c0 n1 c1:Nat}{ps:List Pa}{hs:List Ho}(a:dF w A0 n0 A1 n1 ps hs)(id:Int):
  Pure Tryz.prog 62 #[.agg #[.slice A0 n0 c0,.slice A1 n1 c1],.int .i64 id] w fun v _=>v= .int .i64 (nK (nW ps id)):=by
 refine F.gX.vc fun w1 d=> ?_
 have a:=a.aj (k0 d);have e:=a.np;have j:=a.nh;refine pm (F.iD.vc (R:=fun v _=>v= .int .i64 (nK (nW ps id))) fun g h k l g2 m n g3=> ?_) ?_
 ·refine pm (wB (p:=fun p=>decide (p.id=id)) (a.p.aj (k0 h) lf) a.lp om kF fun i b x hx=> ?_) ?_
  ·refine F.gn.vc fun o c=>⟨_,_,_,dN (ext_nil c (bK g3 b)) rfl,_,dN (ext_nil c (bK g2 b)) rfl,kF,fun q r=> ?_⟩
   exact F.nP.vc fun y z=>⟨_,rfl,rfl⟩
  ·rintro v i _ rfl;exact⟨_,rfl,rfl⟩
 ·rintro v g _ rfl;exact⟨_,rfl,rfl⟩

theorem MR{w0:World}{A:Option Addr}{n c:Nat}{l:List Ho}(hl:cK w0 A 7 (l.map Ho.row))(hlen:l.length=n)(hn:n<2147483648){f:Nat}{a k:Array Value}(eR:bc Tryz.prog f=true){p:Ho->Bool}
  (hf:∀w,Below w0.heap.size w0 w->∀x∈l,Pure Tryz.prog f (a.toList++([x.val]:List Value)++k.toList).toArray w fun v _=>v= .bool (p x)) {R:Value->World->Prop} {r:Int} (g:∀w,Below w0.heap.size w0 w->R (.int .i64 r) w):
  ∀(d i:Nat)(w:World),n - i=d->i<=n->Below w0.heap.size w0 w->r=js p i (l.drop i)->F.aW.L2 A n c f a k n i w0.heap.size w R:=by
 intro d;induction d with
 |zero=>
  intro i w q hi hw b;rw[dp om]at b;subst b;exact F.aW.L2.step ⟨fun h=>by omega,fun _=>g w hw⟩
 |succ d ih=>
  intro i w q hi hw b;have j:i<l.length:=om;rw[ec j,js]at b;obtain⟨hb,y,z,e,_⟩:=(hl.aj hw lf).at_ (fun _=>rfl) hlen j;refine F.aW.L2.step ⟨fun _=> ?_,fun h=>by omega⟩;refine⟨hb,y,z,_,_,_,_,_,_,_,e,eR,pm (hf w hw l[i] (cd _)) ?_⟩;rintro v m o rfl;refine⟨_,rfl,fun h=> ?_,fun h=>⟨ir,?_⟩⟩
  ·rw[cc h]at b;subst b;exact g m (kP hw o)
  ·rw[ar (by simp[h])]at b;have B:=sc i;rw[B];exact ih (i+1) m om om (kP hw o) b
theorem yM{w:World}{A:Option Addr}{n c:Nat}{l:List Ho}(hl:cK w A 7 (l.map Ho.row))(hlen:l.length=n)(hn:n<2147483648){f:Nat}{a k:Array Value}(eR:bc Tryz.prog f=true){p:Ho->Bool}
  (hf:∀w',Below w.heap.size w w'->∀x∈l,Pure Tryz.prog f (a.toList++([x.val]:List Value)++k.toList).toArray w' fun v _=>v= .bool (p x)):
  Pure Tryz.prog 101 #[.slice A n c,.func (.func f) a k] w fun v _=>v= .int .i64 (nK (l.findIdx? p)):=
 F.aW.vc (MR hl hlen hn eR hf (fun _ _=>rfl) n 0 w rfl om (Below.refl _ _) (by
  have:=oB p l 0;rw[uQ,this];cases l.findIdx? p with
  |none=>rfl
  |some i=>simp only[nK,oi]))
theorem jd{w:World}{A0 A1:Option Addr}{n0 c0 n1 c1:Nat}{ps:List Pa}{hs:List Ho}(a:dF w A0 n0 A1 n1 ps hs)(id:Int):
  Pure Tryz.prog 63 #[.agg #[.slice A0 n0 c0,.slice A1 n1 c1],.int .i64 id] w fun v _=>v= .int .i64 (nK (pc hs id)):=by
 refine F.jd.vc fun w1 d=> ?_
 have a:=a.aj (k0 d);have e:=a.np;have k:=a.nh;refine pm (F.jG.vc (R:=fun v _=>v= .int .i64 (nK (pc hs id))) fun g i l m g2 n o g3=> ?_) ?_
 ·refine pm (yM (p:=fun p=>decide (p.id=id)) (a.h.aj (k0 i) lf) a.lh om kF fun j b x hx=> ?_) ?_
  ·refine F.gZ.vc fun q c=>⟨_,_,_,dN (ext_nil c (bK g3 b)) rfl,_,dN (ext_nil c (bK g2 b)) rfl,kF,fun r y=> ?_⟩
   exact F.pQ.vc fun z A=>⟨_,rfl,rfl⟩
  ·rintro v j _ rfl;exact⟨_,rfl,rfl⟩
 ·rintro v g _ rfl;exact⟨_,rfl,rfl⟩

def fK{α:Type}(l:List α)(i:Nat):Option α:=if i=0 then none else l[i - 1]?
theorem rn{α:Type}{l:List α}{i:Nat}(h:i<l.length):fK l (i+1)=some l[i]:=by
 unfold fK;rw[ar om,uP,af h]
theorem tF{α:Type}{l:List α}{i:Nat}(h:i<l.length)(h0:0<i):fK l i=some l[i - 1]:=by
 unfold fK;rw[ar om,af om]
theorem zW{p:Prop}[Decidable p](h:decide p=false):¬p:=kd h
theorem zX{p:Prop}[Decidable p](h:¬decide p=false):p:=by
 apply ea;intro k;exact h (eh k)

theorem Kd{w0:World}(y:cT w0){A0 A1:Option Addr}{n0 c0 n1 c1:Nat}{ps:List Pa}{hs:List Ho}(a:dF w0 A0 n0 A1 n1 ps hs){R:Value->World->Prop}{r:Int}(z:∀w,Below w0.heap.size w0 w->R (.int .i64 r) w)(D:∀h∈hs,vH h=true):
  ∀(d i:Nat)(w:World),n1 - i=d->i<=n1->Below w0.heap.size w0 w->r=iC gW (fK hs i) (hs.drop i)->F.aR.zx A1 n1 c1 n1 i A0 n0 c0 A1 n1 c1 w0.heap.size w R:=by
 have U:=a.np;have V:=a.nh;have W:=a.lp;have X:=a.lh;intro d;induction d with
 |zero=>
  intro i w E hi hw b;have:i=n1:=om;subst this;refine F.aR.zx.step ⟨fun h=>by omega,fun _=> ?_⟩;rw[dp om]at b;subst b;exact z w hw
 |succ d ih=>
  intro i w E hi hw b;have g:i<hs.length:=om;obtain⟨hb,G,H,c,_⟩:=(a.h.aj hw lf).at_ (fun _=>rfl) a.lh g;have I:=sc i;refine F.aR.zx.step ⟨fun _=>⟨hb,G,H,_,_,_,_,_,_,_,c,fun w1 J=> ?_⟩,fun h=>by omega⟩;have K:=kE hw J;have A:=a.sh _ (cd g);have vh:=D _ (cd g);unfold vH at vh;simp only[eb]at vh;obtain⟨⟨⟨⟨v1,v2⟩,_⟩,_⟩,_⟩:=vh;rw[ec g,iC]at b;have bad:∀(e:Int)(w:World),Below w0.heap.size w0 w->e≠0->gW (fK hs i) hs[i]=e->R (.int .i64 e) w:=fun e w hw h0 he=>by
   rw[he,cc h0]at b;have:=z w hw;rwa [b]at this
  have f2:¬((1<=hs[i].id/\hs[i].id<=1073741824)/\¬qR hs[i].room<0/\¬qR hs[i].il<0)->gW (fK hs i) hs[i]=2:=fun h=>by unfold gW;rw[cc h]
  refine pm (fY _ _ _) ?_;rintro v Y L rfl;have n:=kP K L;refine⟨_,rfl,fun h=>bad 2 _ n om (f2 fun k=>zW h k.1),fun h=> ?_⟩;have q1:=zX h;refine pm (gY (y.next n) A.room v1) ?_;rintro v Z M rfl;have o:=kP n M;refine⟨_,rfl,fun h=>bad 2 _ o om (f2 fun k=>k.2.1 (gS.1 h)),fun h=> ?_⟩;have q2:¬qR hs[i].room<0:=fun k=>h (gS.2 k)
  refine pm (gY (y.next o) A.il v2) ?_;rintro v w4 N rfl;have B:=kP o N;refine⟨_,rfl,fun h=>bad 2 _ B om (f2 fun k=>k.2.2 (gS.1 h)),fun h=> ?_⟩;have q3:¬qR hs[i].il<0:=fun k=>h (gS.2 k)
  have all:(1<=hs[i].id/\hs[i].id<=1073741824)/\¬qR hs[i].room<0/\¬qR hs[i].il<0:=⟨q1,q2,q3⟩;refine pm (lz _ _) ?_;rintro v w8 O rfl;have j:=kP B O;refine⟨_,rfl,fun h=>bad 4 _ j om (by unfold gW;rw[ar (fun k=>k all),cc (zW h)]),fun h=> ?_⟩;have P:=zX h;have rest:gW (fK hs i) hs[i]=if ∃q,fK hs i=some q/\hs[i].id<=q.id then 5 else 0:=by
   unfold gW;rw[ar (fun k=>k all),ar (fun k=>k P)]
  have go:(¬∃q,fK hs i=some q/\hs[i].id<=q.id)->∀w,Below w0.heap.size w0 w->F.aR.zx A1 n1 c1 n1 ((i:Int)+1) A0 n0 c0 A1 n1 c1 w0.heap.size w R:=fun h w hw=>by
   rw[ar h]at rest;rw[I];refine ih (i+1) w om om hw ?_;simp only[rest,RS,I1,tm]at b;rw[rn g];exact b
  refine⟨fun h=>⟨ir,?_⟩,fun h=>⟨ir,fun C l=>go ?_ _ (kE j l)⟩⟩
  ·obtain⟨x,a2,Q,_,S⟩:=(a.h.aj j lf).at_ (fun _=>rfl) a.lh (i:=i - 1) om;have T:(i:Int) - 1=((i - 1:Nat):Int):=om;have hp:=tF g om;rw[T];refine⟨x,a2,Q,_,S 0 _ rfl,fun h=>fun C l=>bad 5 _ (kE j l) om ?_,fun h=>⟨ir,fun C l=>go ?_ _ (kE j l)⟩⟩
   ·rw[rest,cc ⟨_,hp,h⟩]
   ·rintro⟨q,m,hle⟩;rw[hp]at m;cases m;exact h hle
  ·rintro⟨q,m,_⟩;have:i=0:=om;subst this;cases m

theorem Ke{w0:World}(m:cT w0){A0 A1:Option Addr}{n0 c0 n1 c1:Nat}{ps:List Pa}{hs:List Ho}(a:dF w0 A0 n0 A1 n1 ps hs){R:Value->World->Prop}{r:Int}(B:∀w,Below w0.heap.size w0 w->R (.int .i64 r) w)(H:∀p∈ps,vP p=true)(I:∀h∈hs,vH h=true):
  ∀(d i:Nat)(w:World),n0 - i=d->i<=n0->Below w0.heap.size w0 w->r=(if iC gF (fK ps i) (ps.drop i)≠0 then iC gF (fK ps i) (ps.drop i)else iC gW none hs)->F.aR.vT A0 n0 c0 n0 i A0 n0 c0 A1 n1 c1 w0.heap.size w R:=by
 have uw:=a.np;have qe:=a.nh;have pB:=a.lp;have iM:=a.lh;intro d;induction d with
 |zero=>
  intro i w J hi hw b;have:i=n0:=om;subst this;refine F.aR.vT.step ⟨fun h=>by omega,fun _=> ?_⟩;rw[dp om]at b;refine Kd m a B I n1 0 w rfl om hw ?_;rw[b];rfl
 |succ d ih=>
  intro i w J hi hw b;have g:i<ps.length:=om;obtain⟨hb,K,L,c,_⟩:=(a.p.aj hw lf).at_ (fun _=>rfl) a.lp g;have M:=sc i;refine F.aR.vT.step ⟨fun _=>⟨hb,K,L,_,_,_,_,_,_,_,c,fun w1 N=> ?_⟩,fun h=>by omega⟩;have O:=kE hw N;have o:=a.sp _ (cd g);have vp:=H _ (cd g);unfold vP at vp;simp only[eb]at vp;obtain⟨⟨v1,v2⟩,v3⟩:=vp;rw[ec g,iC]at b;have bad:∀(e:Int)(w:World),Below w0.heap.size w0 w->e≠0->gF (fK ps i) ps[i]=e->R (.int .i64 e) w:=fun e w hw h0 he=>by
   rw[he,cc h0,cc h0]at b;have:=B w hw;rwa [b]at this
  have f2:¬((1<=ps[i].id/\ps[i].id<=1073741824)/\(1<=ps[i].aO/\ps[i].aO<=9)/\(1<=ps[i].cls/\ps[i].cls<=9)/\0<qR ps[i].eF/\0<qR ps[i].nJ/\¬qR ps[i].dP<0)->gF (fK ps i) ps[i]=2:=fun h=>by unfold gF;rw[cc h]
  refine pm (fY _ _ _) ?_;rintro v w2 P rfl;have C:=kP O P;refine⟨_,rfl,fun h=>bad 2 _ C om (f2 fun k=>zW h k.1),fun h=> ?_⟩;have q1:=zX h;refine pm (fY _ _ _) ?_;rintro v w3 Q rfl;have D:=kP C Q;refine⟨_,rfl,fun h=>bad 2 _ D om (f2 fun k=>zW h k.2.1),fun h=> ?_⟩;have q2:=zX h;refine pm (fY _ _ _) ?_;rintro v w4 S rfl;have x:=kP D S;refine⟨_,rfl,fun h=>bad 2 _ x om (f2 fun k=>zW h k.2.2.1),fun h=> ?_⟩;have q3:=zX h;refine pm (gY (m.next x) o.eF v1) ?_;rintro v w5 T rfl;have y:=kP x T;refine⟨_,rfl,fun h=>bad 2 _ y om (f2 fun k=>by have:=gT.2 k.2.2.2.1;omega),fun h=> ?_⟩;have q4:0<qR ps[i].eF:=gT.1 om;refine pm (gY (m.next y) o.nJ v2) ?_;rintro v w6 U rfl;have z:=kP y U;refine⟨_,rfl,fun h=>bad 2 _ z om (f2 fun k=>by have:=gT.2 k.2.2.2.2.1;omega),fun h=> ?_⟩;have V:0<qR ps[i].nJ:=gT.1 om;refine pm (gY (m.next z) o.dP v3) ?_;rintro v w7 W rfl;have E:=kP z W;refine⟨_,rfl,fun h=>bad 2 _ E om (f2 fun k=>k.2.2.2.2.2 (gS.1 h)),fun h=> ?_⟩;have X:¬qR ps[i].dP<0:=fun k=>h (gS.2 k)
  have all:(1<=ps[i].id/\ps[i].id<=1073741824)/\(1<=ps[i].aO/\ps[i].aO<=9)/\(1<=ps[i].cls/\ps[i].cls<=9)/\0<qR ps[i].eF/\0<qR ps[i].nJ/\¬qR ps[i].dP<0:=⟨q1,q2,q3,q4,V,X⟩;refine pm (lz _ _) ?_;rintro v w8 Y rfl;have j:=kP E Y;refine⟨_,rfl,fun h=>bad 4 _ j om (by unfold gF;rw[ar (fun k=>k all),cc (zW h)]),fun h=> ?_⟩;have Z:=zX h;have rest:gF (fK ps i) ps[i]=if ∃q,fK ps i=some q/\ps[i].id<=q.id then 5 else 0:=by
   unfold gF;rw[ar (fun k=>k all),ar (fun k=>k Z)]
  have go:(¬∃q,fK ps i=some q/\ps[i].id<=q.id)->∀w,Below w0.heap.size w0 w->F.aR.vT A0 n0 c0 n0 ((i:Int)+1) A0 n0 c0 A1 n1 c1 w0.heap.size w R:=fun h w hw=>by
   rw[ar h]at rest;rw[M];refine ih (i+1) w om om hw ?_;simp only[rest,RS,I1,tm]at b;rw[rn g];exact b
  refine⟨fun h=>⟨ir,?_⟩,fun h=>⟨ir,fun G l=>go ?_ _ (kE j l)⟩⟩
  ·obtain⟨A,a2,rp,_,EE⟩:=(a.p.aj j lf).at_ (fun _=>rfl) a.lp (i:=i - 1) om;have e1:(i:Int) - 1=((i - 1:Nat):Int):=om;have hp:=tF g om;rw[e1];refine⟨A,a2,rp,_,EE 0 _ rfl,fun h=>fun G l=>bad 5 _ (kE j l) om ?_,fun h=>⟨ir,fun G l=>go ?_ _ (kE j l)⟩⟩
   ·rw[rest,cc ⟨_,hp,h⟩]
   ·rintro⟨q,n,hle⟩;rw[hp]at n;cases n;exact h hle
  ·rintro⟨q,n,_⟩;have:i=0:=om;subst this;cases n

theorem MS{w0:World}(n:cT w0){A0 A1:Option Addr}{n0 c0 n1 c1:Nat}{ps:List Pa}{hs:List Ho}(a:dF w0 A0 n0 A1 n1 ps hs){R:Value->World->Prop}{r:Int}(g:∀w,Below w0.heap.size w0 w->R (.int .i64 r) w)(o:∀p∈ps,vP p=true)(he:r=eI ps hs):
  ∀(d i:Nat)(w:World),n1 - i=d->i<=n1->Below w0.heap.size w0 w->(∀h∈hs.take i,vH h=true)->F.aR.L8 A1 n1 c1 n1 i A0 n0 c0 A1 n1 c1 w0.heap.size w R:=by
 have K:=a.np;have L:=a.nh;have M:=a.lp;have N:=a.lh;intro d;induction d with
 |zero=>
  intro i w C hi hw c;have:i=n1:=om;subst this;refine F.aR.L8.step ⟨fun h=>by omega,fun _=> ?_⟩;rw[bx om]at c;have hv:ps.all vP=true/\hs.all vH=true:=⟨gu.2 o,gu.2 c⟩;refine⟨fun h=> ?_,fun h=>⟨fun h2=> ?_,fun h2=> ?_⟩⟩
  ·have:=g w hw;rwa [he,eI,ar (fun k=>k hv),cc (.inl om)]at this
  ·have:=g w hw;rwa [he,eI,ar (fun k=>k hv),cc (.inr om)]at this
  ·refine Ke n a g o c n0 0 w rfl om hw ?_;rw[he,eI,ar (fun k=>k hv),ar om];rfl
 |succ d ih=>
  intro i w C hi hw c;have j:i<hs.length:=om;obtain⟨hb,D,E,b,_⟩:=(a.h.aj hw lf).at_ (fun _=>rfl) a.lh j;have G:=sc i;refine F.aR.L8.step ⟨fun _=>⟨hb,D,E,_,_,_,_,_,_,_,b,fun w1 H=> ?_⟩,fun h=>by omega⟩;have q:=kE hw H;have e:=a.sh _ (cd j);refine dx wy [.string hs[i].room,.string hs[i].il,.string hs[i].x,.string hs[i].y,.string hs[i].z] (by simp[Value.cells]) sm q.size fun A2 c2 O ho I=> ?_
  have m:=kP q I;refine pm (lu (n.next m) (l:=[hs[i].room,hs[i].il,hs[i].x,hs[i].y,hs[i].z]) ho.sl rfl sm (fun s hs=> ?_)) ?_
  ·simp only[fi,pw,LP]at hs;rcases hs with rfl|rfl|rfl|rfl|rfl
   ·exact e.room
   ·exact e.il
   ·exact e.x
   ·exact e.y
   ·exact e.z
  rintro v A B rfl;refine⟨_,rfl,fun h=> ?_,fun h=>⟨ir,?_⟩⟩
  ·have J:eI ps hs=1:=by
    unfold eI;rw[cc];intro k;have:=gu.1 k.2 _ (cd j);unfold vH at this;simp only[vv,Pj,Fh]at h;simp only[Np]at this h;rw[this]at h;cases h
   have:=g A (kP m B);rwa [he,J]at this
  ·rw[G];refine ih (i+1) A om om (kP m B) fun x hx=> ?_
   rw[eN,af j]at hx;rcases h8.1 hx with hx|hx
   ·exact c x hx
   ·simp only[rT,gb]at hx;subst hx;unfold vH;simp only[vv,Pj,Fh]at h;simp only[Np]at h⊢;simpa using h

theorem MT{w0:World}(m:cT w0){A0 A1:Option Addr}{n0 c0 n1 c1:Nat}{ps:List Pa}{hs:List Ho}(a:dF w0 A0 n0 A1 n1 ps hs){R:Value->World->Prop}{r:Int}(n:∀w,Below w0.heap.size w0 w->R (.int .i64 r) w)(he:r=eI ps hs):
  ∀(d i:Nat)(w:World),n0 - i=d->i<=n0->Below w0.heap.size w0 w->(∀p∈ps.take i,vP p=true)->F.aR.L2 A0 n0 c0 n0 i A0 n0 c0 A1 n1 c1 w0.heap.size w R:=by
 have H:=a.np;have I:=a.nh;have J:=a.lp;have K:=a.lh;intro d;induction d with
 |zero=>
  intro i w z hi hw c;have:i=n0:=om;subst this;refine F.aR.L2.step ⟨fun h=>by omega,fun _=> ?_⟩;rw[bx om]at c;exact MS m a n c he n1 0 w rfl om hw sm
 |succ d ih=>
  intro i w z hi hw c;have e:i<ps.length:=om;obtain⟨hb,A,B,b,_⟩:=(a.p.aj hw lf).at_ (fun _=>rfl) a.lp e;have C:=sc i;refine F.aR.L2.step ⟨fun _=>⟨hb,A,B,_,_,_,_,_,_,_,b,fun w1 D=> ?_⟩,fun h=>by omega⟩;have o:=kE hw D;have g:=a.sp _ (cd e);refine dx wy [.string ps[i].eF,.string ps[i].nJ,.string ps[i].dP] (by simp[Value.cells]) sm o.size fun A2 c2 L ho E=> ?_
  have j:=kP o E;refine pm (lu (m.next j) (l:=[ps[i].eF,ps[i].nJ,ps[i].dP]) ho.sl rfl sm (fun s hs=> ?_)) ?_
  ·simp only[fi,pw,LP]at hs;rcases hs with rfl|rfl|rfl
   ·exact g.eF
   ·exact g.nJ
   ·exact g.dP
  rintro v q y rfl;refine⟨_,rfl,fun h=> ?_,fun h=>⟨ir,?_⟩⟩
  ·have G:eI ps hs=1:=by
    unfold eI;rw[cc];intro k;have:=gu.1 k.1 _ (cd e);unfold vP at this;simp only[vv,Pj,Fh]at h;simp only[Np]at this h;rw[this]at h;cases h
   have:=n q (kP j y);rwa [he,G]at this
  ·rw[C];refine ih (i+1) q om om (kP j y) fun x hx=> ?_
   rw[eN,af e]at hx;rcases h8.1 hx with hx|hx
   ·exact c x hx
   ·simp only[rT,gb]at hx;subst hx;unfold vP;simp only[vv,Pj,Fh]at h;simp only[Np]at h⊢;simpa using h

theorem aR{w:World}(a:cT w){A0 A1:Option Addr}{n0 c0 n1 c1:Nat}{ps:List Pa}{hs:List Ho}(b:dF w A0 n0 A1 n1 ps hs):
  Pure Tryz.prog 86 #[.agg #[.slice A0 n0 c0,.slice A1 n1 c1]] w fun v _=>v= .int .i64 (eI ps hs):=
 F.aR.vc fun w1 c=>MT a b (fun _ _=>rfl) rfl n0 0 w1 rfl om (k0 c) sm
end Go.Proofs.YtgfkeadgjkfomaaGreatDoor.B
