/- Part 6 of the proofs that: without rules, and with holds that can take everything, any order of steps that only put in is one -/
import Derived.Test.YtgfkeadgjkfomaaGreatDoorH5
import Derived.Test.YtgfkeadgjkfomaaGreatDoorProg
set_option linter.unusedVariables false
set_option linter.unusedSimpArgs false
namespace Go.Proofs.YtgfkeadgjkfomaaGreatDoor.B
open Go Go.RowKit Go.Proofs Go.Proofs.YtgfkeadgjkfomaaGreatDoor.Vc

def SlR(w:World)(A:Option Addr)(sz:Nat)(rows:List (List Value)):Prop:=
 rows=[]∨∃b off cs ty fr,A=some ⟨b,off,none⟩/\w.heap[b]? =some (.cells cs ty fr)/\∀i,(h:i<rows.length)->∀j,(hj:j<rows[i].length)->rows[i].length=sz/\cs[off+i*sz+j]? =some (rows[i][j])

theorem SlR.below{w w':World}{A:Option Addr}{sz:Nat}{rows:List (List Value)}(h:SlR w A sz rows)(hb:Below w.heap.size w w'):SlR w' A sz rows:=by
 rcases h with h|⟨b,off,cs,ty,fr,hA,hh,hc⟩
 ·exact .inl h
 ·exact .inr ⟨b,off,cs,ty,fr,hA,(hb.block b (Array.getElem?_eq_some_iff.1 hh).1).trans hh,hc⟩
theorem SlR.keep{w w':World}{A:Option Addr}{sz B:Nat}{rows:List (List Value)}(h:SlR w A sz rows)(hb:Below B w w')(hB:w.heap.size<=B):SlR w' A sz rows:=h.below (hb.mono hB)
theorem addr_add_mul(b off i j sz:Nat):(((⟨b,off,none⟩:Addr).add (i*sz)).add j)=⟨b,off+i*sz+j,none⟩:=by
 have add1:∀o k:Nat,(⟨b,o,none⟩:Addr).add k=⟨b,o+k,none⟩:=by
  intro o k
  unfold Addr.add
  split
  ·rename_i h;subst h;rfl
  ·rfl
 rw[add1,add1]

theorem SlR.load{w:World}{A:Option Addr}{sz n:Nat}{rows:List (List Value)}(h:SlR w A sz rows)(hl:rows.length=n){j:Int}(h0:0<=j)(h1:j<n):
  (0<=j/\j<n)/\∃a,A=some a/\∀row,rows[j.toNat]? =some row->row.length=sz->CellsAt w (a.add (j.toNat*sz)) row/\∀k v,row[k]? =some v->CellsAt w ((a.add (j.toNat*sz)).add k) [v]:=by
 refine⟨⟨h0,h1⟩,?_⟩
 rcases h with h|⟨b,off,cs,ty,fr,hA,hh,hc⟩
 ·subst h;simp at hl;omega
 ·refine⟨_,hA,fun row hrow hlen=> ?_⟩
  have hj:j.toNat<rows.length:=by omega
  have hr:rows[j.toNat]=row:=by simpa[hj]using hrow
  have hcell:∀k v,row[k]? =some v->w.cell? (((⟨b,off,none⟩:Addr).add (j.toNat*sz)).add k)=some v:=by
   intro k v hk
   obtain⟨hk1,hk2⟩:=List.getElem?_eq_some_iff.1 hk
   rw[addr_add_mul]
   simp only[World.cell?,hh]
   have:=(hc j.toNat hj k (by rw[hr];exact hk1)).2
   rw[this]
   subst hr
   simp[hk2]
  refine⟨fun i hi=>hcell i _ (by simp[hi]),fun k v hk i hi=> ?_⟩
  simp at hi
  subst hi
  have:=hcell k v hk
  rw[show((((⟨b,off,none⟩:Addr).add (j.toNat*sz)).add k).add 0)=(((⟨b,off,none⟩:Addr).add (j.toNat*sz)).add k) by simp[Addr.add]]
  exact this

def OwnR(w:World)(B ty:Nat)(A:Option Addr)(n c sz:Nat)(rows:List (List Value)):Prop:=
 w.ownsRow B ty sz (.slice A n c) n rows.flatten/\rows.length=n/\∀r∈rows,r.length=sz
theorem OwnR.sl{w:World}{B ty:Nat}{A:Option Addr}{n c sz:Nat}{rows:List (List Value)}(h:OwnR w B ty A n c sz rows):SlR w A sz rows:=by
 obtain⟨h,hl,hr⟩:=h
 rcases h.2 with⟨h1,h2⟩|⟨g,cap,cur,h1,hb,hg,hc,hm,hs,ht⟩
 ·left
  exact List.eq_nil_of_length_eq_zero (by omega)
 ·cases h1
  refine .inr ⟨g,0,cur,ty,_,rfl,hg,fun i hi j hj=>⟨hr _ (List.getElem_mem _),?_⟩⟩
  have hlen:rows[i].length=sz:=hr _ (List.getElem_mem _)
  have key:rows.flatten[i*sz+j]? =some (rows[i][j]):=by
   clear ht h hl
   induction rows generalizing i with
   |nil=>simp at hi
   |cons r rs ih=>
    have hr0:r.length=sz:=hr r (by simp)
    cases i with
    |zero=>
     have hj':j<r.length:=hj
     rw[Nat.zero_mul,Nat.zero_add,List.flatten_cons,List.getElem?_append_left hj']
     simp[hj']
    |succ i=>
     have hi':i<rs.length:=by simpa using hi
     have hj':j<rs[i].length:=hj
     rw[List.flatten_cons,List.getElem?_append_right (by rw[Nat.add_mul];omega)]
     have:=ih (fun x hx=>hr x (by simp[hx])) i hi' hj' hlen
     have e:(i+1)*sz+j - r.length=i*sz+j:=by rw[Nat.add_mul];omega
     rw[e,this]
     rfl
  rw[<-ht,List.getElem?_take]at key
  split at key
  ·simpa using key
  ·cases key
theorem OwnR.len{w:World}{B ty:Nat}{A:Option Addr}{n c sz:Nat}{rows:List (List Value)}(h:OwnR w B ty A n c sz rows):rows.length=n:=h.2.1
theorem OwnR.blk{w:World}{B ty:Nat}{A:Option Addr}{n c sz:Nat}{rows:List (List Value)}(h:OwnR w B ty A n c sz rows):∀a,A=some a->B<=a.block/\a.block<w.heap.size:=by
 intro a ha
 subst ha
 exact World.ownsRow.lt h.1 a.block rfl
theorem OwnR.other{w w':World}{B ty:Nat}{A:Option Addr}{n c sz:Nat}{rows:List (List Value)}(h:OwnR w B ty A n c sz rows)(hh:∀a,A=some a->w'.heap[a.block]? =w.heap[a.block]?):OwnR w' B ty A n c sz rows:=by
 refine⟨⟨h.1.1,?_⟩,h.2⟩
 rcases h.1.2 with h1|⟨g,cap,cur,h1,h2,h3,h4⟩
 ·exact .inl h1
 ·cases h1
  refine .inr ⟨g,_,cur,rfl,h2,?_,h4⟩
  have:=hh _ rfl
  simp only at this
  rw[this]
  exact h3
theorem OwnR.below{w w':World}{B ty:Nat}{A:Option Addr}{n c sz:Nat}{rows:List (List Value)}(h:OwnR w B ty A n c sz rows)(hb:Below w.heap.size w w'):OwnR w' B ty A n c sz rows:=
 h.other fun a ha=>hb.block _ (h.blk a ha).2
theorem OwnR.nil{w:World}{B ty sz:Nat}:OwnR w B ty none 0 0 sz []:=⟨World.ownsRow_nil _ _ _ _,rfl,by simp⟩

theorem runOk_lit{t e sz bytes:Nat}(el:El Tryz.prog t e sz bytes)(xs:List Value)(hx:∀v∈xs,v.cells.size=sz)(hn:xs.length<=1024){B:Nat}{w:World}{tys:List Nat}(hB:B<=w.heap.size){K:Option Addr->Nat->Nat->World->Prop}
  (h:∀A c w2,OwnR w2 w.heap.size e A xs.length c sz (xs.map fun v=>v.cells.toList)->Below w.heap.size w w2->K A xs.length c w2):
  RunOk Tryz.prog (Instr.buildSlice t xs.length (xs.zipIdx.map fun x=>(x.2,x.1)).toArray) B tys w fun r w1=>∃A n c,r= .slice A n c/\K A n c w1:=by
 have hr:=run_buildAll el xs hx hn w
 have hg:=World.grownBy_alloc w (.cells (xs.flatMap fun v=>v.cells.toList).toArray e) none
 have hb:Below w.heap.size w (w.alloc (.cells (xs.flatMap fun v=>v.cells.toList).toArray e)):=below_grown hg (by simp) (Nat.le_refl _)
 have hlen:(xs.flatMap fun v=>v.cells.toList).length=xs.length*sz:=by
  clear hr hg hb h
  induction xs with
  |nil=>simp
  |cons x r ih=>
   have h1:=hx x (by simp)
   rw[List.flatMap_cons,List.length_append,ih (fun v hv=>hx v (by simp[hv])) (by simp at hn;omega),List.length_cons,Nat.add_mul,Array.length_toList,h1]
   omega
 refine⟨_,_,hr,hb.mono hB,hg.size,fun k ty cs _ hk=>hg.block k (Array.getElem?_eq_some_iff.1 hk).1 (by simp),_,_,_,rfl,h _ _ _ ⟨⟨?_,.inr ⟨w.heap.size,xs.length,_,rfl,Nat.le_refl _,heap_alloc_new w _,Nat.le_refl _,by simp only[maxLen];omega,?_,?_⟩⟩,by simp,?_⟩ hb⟩
 ·rw[<-List.flatMap_def]
  exact hlen
 ·rw[List.size_toArray]
  exact hlen
 ·rw[<-List.flatMap_def]
  exact List.take_of_length_le (by rw[hlen];exact Nat.le_refl _)
 ·intro r hr
  obtain⟨v,hv,rfl⟩:=List.mem_map.1 hr
  simpa using hx v hv

theorem OwnR.len_le{w:World}{B ty:Nat}{A:Option Addr}{n c sz:Nat}{rows:List (List Value)}(h:OwnR w B ty A n c sz rows):n<=c:=by
 obtain⟨_,_,h1,h2⟩:=ownsRow_form h.1
 cases h1;exact h2
theorem app_row{t ty e sz bytes:Nat}(el:El Tryz.prog t e sz bytes){B0 B:Nat}(hBB:B0<=B){tys:List Nat}{w:World}{A:Option Addr}{n c:Nat}{rows:List (List Value)}(ho:OwnR w B e A n c sz rows){x:Value}(hx:x.cells.size=sz)(h1:∀u∈x.cells.toList,isCell u=true)
  (hB:B<=w.heap.size) (hsz:(n+1)*(bytes+1)<=140737488355328) (ht:e∉tys) {K:Option Addr->Nat->Nat->World->Prop}
  (h:∀A' c' w2,OwnR w2 B e A' (n+1) c' sz (rows++[x.cells.toList])->w.grownBy w2 (Value.ownBlock (.slice A n c))->Below B0 w w2->K A' (n+1) c' w2):
  RunOk Tryz.prog (Instr.buildSlice t 1 #[(0,x)]) B0 tys w fun r w1=>∃A2 m c2,r= .slice A2 m c2/\
   RunOk Tryz.prog (Builtin.append_ #[t,t] ty #[.slice A n c,.slice A2 m c2]) B0 tys w1 fun r w2=>∃A n c,r= .slice A n c/\K A n c w2:=
 runOk_append1 el hBB ho.1 hx h1 hB hsz ht fun A' c' w2 k1 k2 k3=>h A' c' w2 ⟨by rw[List.flatten_append];simpa using k1,by simp[ho.len],fun r hr=>by
  rcases List.mem_append.1 hr with h|h
  ·exact ho.2.2 r h
  ·simp at h;subst h;simpa using hx⟩ k2 k3

theorem add_plain0(b o:Nat)(k:Nat):(⟨b,o,none⟩:Addr).add k=⟨b,o+k,none⟩:=by
 unfold Addr.add
 split
 ·rename_i h;subst h;rfl
 ·rfl
theorem box_cell{w:World}{b ty:Nat}{vs:List Value}(h:w.heap[b]? =some (.cells vs.toArray ty (0,0))){k:Nat}{v:Value}(hk:vs[k]? =some v):CellsAt w ((⟨b,0,none⟩:Addr).add k) [v]:=by
 intro i hi
 simp at hi
 subst hi
 rw[add_plain0,add_plain0]
 simp[World.cell?,h,hk]
theorem box_cell0{w:World}{b ty:Nat}{vs:List Value}(h:w.heap[b]? =some (.cells vs.toArray ty (0,0))){v:Value}(hk:vs[0]? =some v):CellsAt w (⟨b,0,none⟩:Addr) [v]:=by
 have:=box_cell h hk
 rwa [add_plain0]at this
theorem heap_keep{w w':World}{b:Nat}{o:Obj}(h:w.heap[b]? =some o)(hb:Below w.heap.size w w'):w'.heap[b]? =some o:=(hb.block b (Array.getElem?_eq_some_iff.1 h).1).trans h

theorem ext_nil{B:Nat}{w w':World}(x:Ext B [] w w'){k:Nat}{o:Obj}(h:w.heap[k]? =some o):w'.heap[k]? =some o:=by
 rcases x.other k (Array.getElem?_eq_some_iff.1 h).1 with h1|⟨t,ht,_⟩
 ·rw[h1];exact h
 ·simp at ht
theorem OwnR.extNil{B0:Nat}{w w':World}{B ty:Nat}{A:Option Addr}{n c sz:Nat}{rows:List (List Value)}(h:OwnR w B ty A n c sz rows)(x:Ext B0 [] w w'):OwnR w' B ty A n c sz rows:=
 h.other fun a ha=>by
  rcases x.other a.block (h.blk a ha).2 with h1|⟨t,ht,_⟩
  ·exact h1
  ·simp at ht
theorem SlR.extNil{B0:Nat}{w w':World}{A:Option Addr}{sz:Nat}{rows:List (List Value)}(h:SlR w A sz rows)(x:Ext B0 [] w w'):SlR w' A sz rows:=by
 rcases h with h|⟨b,off,cs,ty,fr,hA,hh,hc⟩
 ·exact .inl h
 ·exact .inr ⟨b,off,cs,ty,fr,hA,ext_nil x hh,hc⟩

theorem flat_cell{sz:Nat}{cs:Array Value}:∀(rows:List (List Value)) (off:Nat),(∀r∈rows,r.length=sz)->(∀i,(h:i<rows.length)->∀j,(hj:j<rows[i].length)->cs[off+i*sz+j]? =some (rows[i][j]))->∀(j:Nat)(u:Value),rows.flatten[j]? =some u->cs[off+j]? =some u:=by
 intro rows
 induction rows with
 |nil=>intro off _ _ j u hu;simp at hu
 |cons r rs ih=>
  intro off hr hc j u hu
  have h0:r.length=sz:=hr r (by simp)
  by_cases hj:j<r.length
  ·rw[List.flatten_cons,List.getElem?_append_left hj]at hu
   have:=hc 0 (by simp) j hj
   simp only[Nat.zero_mul,Nat.add_zero,List.getElem_cons_zero]at this
   rw[this]
   simpa[hj]using hu
  ·rw[List.flatten_cons,List.getElem?_append_right (by omega)]at hu
   have:=ih (off+sz) (fun x hx=>hr x (by simp[hx])) (fun i hi k hk=>by
    have:=hc (i+1) (by simp;omega) k hk
    rw[Nat.add_mul]at this
    rw[show off+sz+i*sz+k=off+(i*sz+1*sz)+k by omega]
    exact this) (j - r.length) u hu
   rw[show off+j=off+sz+(j - r.length) by omega]
   exact this

theorem app_rows{t ty e sz bytes:Nat}(el:El Tryz.prog t e sz bytes){B0 B:Nat}(hBB:B0<=B){tys:List Nat}{w:World}{A:Option Addr}{n c:Nat}{rows:List (List Value)}(ho:OwnR w B e A n c sz rows)
  {a:Addr} {m c2:Nat} {more:List (List Value)} (hsl:SlR w (some a) sz more) (hm:more.length=m) (hms:∀r∈more,r.length=sz) (h1:∀r∈more,∀u∈r,isCell u=true)
  (hB:B<=w.heap.size) (hsz:(n+m)*(bytes+1)<=140737488355328) (ht:e∉tys) {K:Option Addr->Nat->Nat->World->Prop}
  (h:∀A' c' w2,OwnR w2 B e A' (n+m) c' sz (rows++more)->w.grownBy w2 (Value.ownBlock (.slice A n c))->Below B0 w w2->K A' (n+m) c' w2):
  RunOk Tryz.prog (Builtin.append_ #[t,t] ty #[.slice A n c,.slice (some a) m c2]) B0 tys w fun r w2=>∃A n c,r= .slice A n c/\K A n c w2:=by
 have hlen:more.flatten.length=m*sz:=by
  rw[<-hm]
  clear hsl hm h1 h hsz
  induction more with
  |nil=>simp
  |cons r rs ih=>rw[List.flatten_cons,List.length_append,ih (fun x hx=>hms x (by simp[hx])),hms r (by simp),List.length_cons,Nat.add_mul];omega
 refine runOk_append el hBB ho.1 (news:=more.flatten) hlen (fun j u hu=> ?_) (fun u hu=> ?_) hB hsz ht fun A' c' w2 k1 k2 k3=>h A' c' w2 ⟨by rw[List.flatten_append];exact k1,by simp[ho.len,hm],fun r hr=> ?_⟩ k2 k3
 ·rcases hsl with hsl|⟨b,off,cs,ty,fr,hA,hh,hc⟩
  ·subst hsl;simp at hu
  ·cases hA
   rw[add_plain0]
   simp only[World.cell?,hh]
   have:=flat_cell more off hms (fun i hi j hj=>(hc i hi j hj).2) j u hu
   simpa using this
 ·obtain⟨r,hr,hu2⟩:=List.mem_flatten.1 hu
  exact h1 r hr u hu2
 ·rcases List.mem_append.1 hr with h|h
  ·exact ho.2.2 r h
  ·exact hms r h

theorem SlR.none_nil{w:World}{sz:Nat}{rows:List (List Value)}(h:SlR w none sz rows):rows=[]:=by
 rcases h with h|⟨b,off,cs,ty,fr,hA,_⟩
 ·exact h
 ·cases hA

theorem setCells_pre(p:List Value):∀(vs l:List Value)(o:Nat),setCells (p++l) (p.length+o) vs=p++setCells l o vs:=by
 intro vs
 induction vs with
 |nil=>intro l o;rfl
 |cons v r ih=>
  intro l o
  rw[setCells,setCells,List.set_append_right _ _ (by omega),show p.length+o - p.length=o by omega,Nat.add_assoc,ih]
theorem setCells_post(q:List Value):∀(vs l:List Value)(o:Nat),o+vs.length<=l.length->setCells (l++q) o vs=setCells l o vs++q:=by
 intro vs
 induction vs with
 |nil=>intro l o _;rfl
 |cons v r ih=>
  intro l o h
  simp only[List.length_cons]at h
  rw[setCells,setCells,List.set_append_left _ _ (by omega),ih _ _ (by simp;omega)]
theorem setCells_len:∀(vs l:List Value)(o:Nat),(setCells l o vs).length=l.length:=by
 intro vs
 induction vs with
 |nil=>intro l o;rfl
 |cons v r ih=>intro l o;rw[setCells,ih];simp
theorem flatten_len{sz:Nat}:∀(rows:List (List Value)),(∀r∈rows,r.length=sz)->rows.flatten.length=rows.length*sz:=by
 intro rows
 induction rows with
 |nil=>intro _;simp
 |cons r rs ih=>intro h;rw[List.flatten_cons,List.length_append,ih (fun x hx=>h x (by simp[hx])),h r (by simp),List.length_cons,Nat.add_mul];omega
theorem flatten_set{sz:Nat}{rows:List (List Value)}(h:∀r∈rows,r.length=sz){i:Nat}{row:List Value}(hrow:rows[i]? =some row){k:Nat}{vs:List Value}(hk:k+vs.length<=sz):
  setCells rows.flatten (i*sz+k) vs=(rows.set i (setCells row k vs)).flatten:=by
 obtain⟨hi,e⟩:=List.getElem?_eq_some_iff.1 hrow
 have e1:rows=rows.take i++row::rows.drop (i+1):=by
  rw[<-e,<-List.drop_eq_getElem_cons hi,List.take_append_drop]
 have hl:(rows.take i).length=i:=by simp;omega
 have hp:(rows.take i).flatten.length=i*sz:=by rw[flatten_len _ (fun r hr=>h r (List.mem_of_mem_take hr)),hl]
 have hr:row.length=sz:=h row (List.mem_of_getElem? hrow)
 conv=>lhs;rw[e1]
 conv=>rhs;rw[e1]
 rw[List.set_append_right _ _ (by omega),hl,Nat.sub_self,List.set_cons_zero,List.flatten_append,List.flatten_append,List.flatten_cons,List.flatten_cons,<-hp,setCells_pre,setCells_post _ _ _ _ (by omega)]

theorem OwnR.set{w:World}{B ty:Nat}{A:Option Addr}{n c sz:Nat}{rows:List (List Value)}(h:OwnR w B ty A n c sz rows){i:Int}(h0:0<=i)(h1:i<n)(k:Nat)(vs:List Value)(row:List Value)(hrow:rows[i.toNat]? =some row)(hk:k+vs.length<=sz):
  (0<=i/\i<n)/\∃a,A=some a/\∃cs:List Value,B<=((a.add (i.toNat*sz)).add k).block/\((a.add (i.toNat*sz)).add k).spot=none/\w.heap[((a.add (i.toNat*sz)).add k).block]? =some (.cells cs.toArray ty (0,0))/\((a.add (i.toNat*sz)).add k).off+vs.length<=cs.length/\
   ∀w1,Wrote w w1 ((a.add (i.toNat*sz)).add k).block ty (setCells cs ((a.add (i.toNat*sz)).add k).off vs)->OwnR w1 B ty A n c sz (rows.set i.toNat (setCells row k vs)):=by
 refine⟨⟨h0,h1⟩,?_⟩
 have hl:=h.len
 have hA:∃a,A=some a:=by
  rcases h.1.2 with⟨_,h2⟩|⟨g,cap,cur,h2,_⟩
  ·omega
  ·cases h2;exact⟨_,rfl⟩
 obtain⟨a,rfl⟩:=hA
 have hlen:rows.flatten.length=n*sz:=by rw[flatten_len _ h.2.2,hl]
 have hle:i.toNat*sz+k+vs.length<=rows.flatten.length:=by
  have:(i.toNat+1)*sz<=n*sz:=Nat.mul_le_mul_right _ (by omega)
  rw[Nat.add_mul]at this
  omega
 obtain⟨cs,c1,c2,c3,c4,c5,c6⟩:=ownsRow_wrote h.1 (off:=i.toNat*sz+k) hle
 obtain⟨b,o,s⟩:=a
 simp only at c1 c2 c3 c4
 subst c2
 subst c3
 refine⟨⟨b,0,none⟩,rfl,?_⟩
 rw[addr_add_mul]
 simp only[Nat.zero_add]
 refine⟨cs,c1,trivial,c4,c5,fun w1 hw=>⟨?_,by simp[hl],fun r hr=> ?_⟩⟩
 ·have:=c6 w1 hw
  rwa [flatten_set h.2.2 hrow hk]at this
 ·rcases List.mem_or_eq_of_mem_set hr with h'|h'
  ·exact h.2.2 r h'
  ·subst h'
   rw[setCells_len]
   exact h.2.2 row (List.mem_of_getElem? hrow)
theorem add_0(a:Addr):a.add 0=a:=by unfold Addr.add;simp
theorem OwnR.set0{w:World}{B ty:Nat}{A:Option Addr}{n c sz:Nat}{rows:List (List Value)}(h:OwnR w B ty A n c sz rows){i:Int}(h0:0<=i)(h1:i<n)(vs:List Value)(row:List Value)(hrow:rows[i.toNat]? =some row)(hk:vs.length=sz):
  (0<=i/\i<n)/\∃a,A=some a/\∃cs:List Value,B<=(a.add (i.toNat*sz)).block/\(a.add (i.toNat*sz)).spot=none/\w.heap[(a.add (i.toNat*sz)).block]? =some (.cells cs.toArray ty (0,0))/\(a.add (i.toNat*sz)).off+vs.length<=cs.length/\
   ∀w1,Wrote w w1 (a.add (i.toNat*sz)).block ty (setCells cs (a.add (i.toNat*sz)).off vs)->OwnR w1 B ty A n c sz (rows.set i.toNat vs):=by
 obtain⟨h2,a,hA,cs,c1,c2,c3,c4,c5⟩:=h.set h0 h1 0 vs row hrow (by omega)
 rw[add_0]at c1 c2 c3 c4 c5
 have e:setCells row 0 vs=vs:=by
  have hr:row.length=vs.length:=by rw[hk];exact h.2.2 row (List.mem_of_getElem? hrow)
  clear hrow c5 hk
  have gen:∀(vs row p:List Value),row.length=vs.length->setCells (p++row) p.length vs=p++vs:=by
   intro vs
   induction vs with
   |nil=>intro row p hr;have:row=[]:=List.eq_nil_of_length_eq_zero hr;subst this;rfl
   |cons v r ih=>
    intro row p hr
    cases row with
    |nil=>simp at hr
    |cons u t=>
     rw[setCells,List.set_append_right _ _ (Nat.le_refl _),Nat.sub_self,List.set_cons_zero]
     have:=ih t (p++[v]) (by simpa using hr)
     simpa using this
  simpa using gen vs row [] hr
 rw[e]at c5
 exact⟨h2,a,hA,cs,c1,c2,c3,c4,c5⟩
theorem Wrote.belowR{w w1:World}{B b ty:Nat}{cs:List Value}(h:Wrote w w1 b ty cs)(hB:B<=b):Below B w w1:=
 ⟨h.os,h.tape,h.output,by rw[h.size];exact Nat.le_refl _,fun k hk=>h.rest k (by omega)⟩
theorem OwnR.base{w:World}{B B' ty:Nat}{A:Option Addr}{n c sz:Nat}{rows:List (List Value)}(h:OwnR w B' ty A n c sz rows)(hB:B<=B'):OwnR w B ty A n c sz rows:=by
 refine⟨⟨h.1.1,?_⟩,h.2⟩
 rcases h.1.2 with h2|⟨g,cap,cur,h2,h3,h4⟩
 ·exact .inl h2
 ·exact .inr ⟨g,cap,cur,h2,Nat.le_trans hB h3,h4⟩
theorem setCells_get:∀(vs l:List Value)(o k:Nat),o+vs.length<=l.length->(setCells l o vs)[k]? =if o<=k/\k<o+vs.length then vs[k - o]? else l[k]? :=by
 intro vs
 induction vs with
 |nil=>intro l o k h;rw[setCells,if_neg (by intro⟨a,b⟩;simp at b;omega)]
 |cons v r ih=>
  intro l o k h
  simp only[List.length_cons]at h⊢
  rw[setCells,ih _ _ _ (by simp;omega)]
  by_cases h1:o+1<=k/\k<o+1+r.length
  ·rw[if_pos h1,if_pos (by omega),show k - o=(k - (o+1))+1 by omega,List.getElem?_cons_succ]
  ·rw[if_neg h1]
   by_cases h2:k=o
   ·subst h2
    rw[if_pos (by omega),List.getElem?_set_self (by omega)]
    simp
   ·rw[if_neg (by omega),List.getElem?_set_ne (by omega)]

theorem worldSet_heap(b t:Nat):∀(vs:List Value)(o:Nat)(w:World)(cur:List Value),w.heap[b]? =some (.cells cur.toArray t (0,0))->
  (w.setCells b o vs).heap[b]? =some (.cells (setCells cur o vs).toArray t (0,0))/\(∀k,k≠b->(w.setCells b o vs).heap[k]? =w.heap[k]?)/\(w.setCells b o vs).heap.size=w.heap.size/\(w.setCells b o vs).os=w.os/\(w.setCells b o vs).tape=w.tape/\(w.setCells b o vs).output=w.output:=by
 intro vs
 induction vs with
 |nil=>intro o w cur h;exact⟨h,fun _ _=>rfl,rfl,rfl,rfl,rfl⟩
 |cons v r ih=>
  intro o w cur h
  have h1:(w.setCell ⟨b,o,none⟩ v).heap[b]? =some (.cells (cur.set o v).toArray t (0,0)):=by
   simp[World.setCell,Array.getElem?_modify,h]
  obtain⟨k1,k2,k3,k4,k5,k6⟩:=ih (o+1) (w.setCell ⟨b,o,none⟩ v) (cur.set o v) h1
  rw[World.setCells]
  refine⟨k1,fun k hk=> ?_,?_,?_,?_,?_⟩
  ·rw[k2 k hk]
   exact RowKit.Below.heap_setCell _ _ _ _ (fun e=>hk (by first|exact e|exact e.symm))
  ·rw[k3];simp[World.setCell]
  ·rw[k4];rfl
  ·rw[k5];rfl
  ·rw[k6];rfl
theorem worldSet_below{w:World}{B b t:Nat}{cur vs:List Value}{o:Nat}(h:w.heap[b]? =some (.cells cur.toArray t (0,0)))(hB:B<=b):Below B w (w.setCells b o vs):=by
 obtain⟨k1,k2,k3,k4,k5,k6⟩:=worldSet_heap b t vs o w cur h
 exact⟨k4,k5,k6,by omega,fun k hk=>k2 k (by omega)⟩

theorem OwnR.cells{w:World}{B ty:Nat}{A:Option Addr}{n c sz:Nat}{rows:List (List Value)}(h:OwnR w B ty A n c sz rows):∀a,A=some a->∃cs:Array Value,w.heap[a.block]? =some (.cells cs ty (0,0)):=by
 intro a ha
 subst ha
 rcases h.1.2 with⟨h2,_⟩|⟨g,cap,cur,h2,h3,h4,_⟩
 ·cases h2
 ·cases h2
  exact⟨cur,h4⟩
theorem two_types{w:World}{a b ta tb:Nat}{ca cb:Array Value}(ha:w.heap[a]? =some (.cells ca ta (0,0)))(hb:w.heap[b]? =some (.cells cb tb (0,0)))(ht:ta≠tb):a≠b:=by
 intro e
 subst e
 rw[ha]at hb
 cases hb
 exact ht rfl

theorem runOk_box(t:Nat)(v:Value){B:Nat}{w:World}{tys:List Nat}(hB:B<=w.heap.size){K:Addr->World->Prop}
  (h:∀w2,w2.heap[w.heap.size]? =some (.cells v.cells t (0,0))->Below w.heap.size w w2->w.heap.size<w2.heap.size->K ⟨w.heap.size,0,none⟩ w2):
  RunOk Tryz.prog (Instr.box t v) B tys w fun r w1=>∃a,r= .pointer (some a)/\K a w1:=by
 have hr:(Instr.box t v).run Tryz.prog w= .ok (.pointer (some ⟨w.heap.size,0,none⟩)) (w.alloc (.cells v.cells t)):=by
  simp[Instr.box,Sem.run_bind,Sem.run,newVar,newRow,newObj]
 have hg:=World.grownBy_alloc w (.cells v.cells t) none
 have hb:Below w.heap.size w (w.alloc (.cells v.cells t)):=below_grown hg (by simp) (Nat.le_refl _)
 have hnew:=heap_alloc_new w (.cells v.cells t)
 exact⟨_,_,hr,hb.mono hB,hg.size,fun k ty cs _ hk=>hg.block k (Array.getElem?_eq_some_iff.1 hk).1 (by simp),_,rfl,h _ hnew hb (Array.getElem?_eq_some_iff.1 hnew).1⟩
theorem runOk_alloc(t:Nat){z:Value}(hz:((Tryz.prog.info? t).bind (·.zero))=some z){B:Nat}{w:World}{tys:List Nat}(hB:B<=w.heap.size){K:Addr->World->Prop}
  (h:∀w2,w2.heap[w.heap.size]? =some (.cells z.cells t (0,0))->Below w.heap.size w w2->w.heap.size<w2.heap.size->K ⟨w.heap.size,0,none⟩ w2):
  RunOk Tryz.prog (Instr.alloc t true (.tuple #[])) B tys w fun r w1=>∃a,r= .pointer (some a)/\K a w1:=by
 obtain⟨i,hi,hz2⟩:=Option.bind_eq_some_iff.1 hz
 have hr:(Instr.alloc t true (.tuple #[])).run Tryz.prog w= .ok (.pointer (some ⟨w.heap.size,0,none⟩)) (w.alloc (.cells z.cells t)):=by
  simp[Instr.alloc,zeroValue,typeInfo,program,Sem.run_bind,Sem.run,hi,hz2,newVar,newRow,newObj]
 have hg:=World.grownBy_alloc w (.cells z.cells t) none
 have hb:Below w.heap.size w (w.alloc (.cells z.cells t)):=below_grown hg (by simp) (Nat.le_refl _)
 have hnew:=heap_alloc_new w (.cells z.cells t)
 exact⟨_,_,hr,hb.mono hB,hg.size,fun k ty cs _ hk=>hg.block k (Array.getElem?_eq_some_iff.1 hk).1 (by simp),_,rfl,h _ hnew hb (Array.getElem?_eq_some_iff.1 hnew).1⟩

def idxG{α:Type}(p:α->Bool):Nat->List α->Int
 |_,[]=> -1
 |i,c::r=>if p c then(i:Int)else idxG p (i+1) r
theorem idxG_any{α:Type}(p:α->Bool):∀(l:List α)(k:Nat),(0<=idxG p k l)↔l.any p=true:=by
 intro l
 induction l with
 |nil=>intro k;simp[idxG]
 |cons c r ih=>
  intro k
  rw[idxG]
  by_cases h:p c=true
  ·rw[if_pos h];simp[h]
  ·rw[if_neg h,ih];simp[h]

theorem OwnR.extT{B0:Nat}{ts:List Nat}{w w':World}{B ty:Nat}{A:Option Addr}{n c sz:Nat}{rows:List (List Value)}(h:OwnR w B ty A n c sz rows)(x:Ext B0 ts w w')(ht:ty∉ts):OwnR w' B ty A n c sz rows:=
 h.other fun a ha=>by
  obtain⟨cs,hcs⟩:=h.cells a ha
  rcases x.other a.block (h.blk a ha).2 with h1|⟨t,h2,c1,c2,fr,e1,e2⟩
  ·exact h1
  ·rw[hcs]at e1
   cases e1
   exact absurd h2 ht
theorem box_all{w:World}{b ty:Nat}{vs:List Value}(h:w.heap[b]? =some (.cells vs.toArray ty (0,0))):CellsAt w (⟨b,0,none⟩:Addr) vs:=by
 intro i hi
 rw[add_plain0]
 simp[World.cell?,h]

theorem ext_low{B:Nat}{w w':World}(x:Ext B [] w w'):Below w.heap.size w w':=
 ⟨x.below.os,x.below.tape,x.below.output,x.below.size,fun k hk=>by
  have h:w.heap[k]? =some w.heap[k]:=Array.getElem?_eq_getElem hk
  rw[ext_nil x h,h]⟩

theorem SlR.take{w:World}{A:Option Addr}{sz:Nat}{rows:List (List Value)}(h:SlR w A sz rows)(k:Nat):SlR w A sz (rows.take k):=by
 rcases h with h|⟨b,off,cs,ty,fr,hA,hh,hc⟩
 ·subst h;exact .inl (by simp)
 ·refine .inr ⟨b,off,cs,ty,fr,hA,hh,fun i hi j hj=> ?_⟩
  have hi':i<rows.length:=by rw[List.length_take]at hi;omega
  have e:(rows.take k)[i]=rows[i]:=by simp
  have hj':j<rows[i].length:=by rw[<-e];exact hj
  have:=hc i hi' j hj'
  simpa using this
theorem SlR.dropS{w:World}{A:Option Addr}{sz c:Nat}{rows:List (List Value)}(h:SlR w A sz rows){k:Nat}(hc:rows.length<=c):SlR w (cutAddr A k c sz) sz (rows.drop k):=by
 by_cases h0:rows.length<=k
 ·exact .inl (List.drop_eq_nil_of_le h0)
 rcases h with h|⟨b,off,cs,ty,fr,hA,hh,hcell⟩
 ·subst h;exact .inl (by simp)
 ·refine .inr ⟨b,off+k*sz,cs,ty,fr,?_,hh,fun i hi j hj=> ?_⟩
  ·unfold cutAddr
   rw[if_neg (by omega),hA,Option.map_some,add_plain0]
  ·have hi':k+i<rows.length:=by rw[List.length_drop]at hi;omega
   have e:(rows.drop k)[i]=rows[k+i]:=by simp
   have hj':j<rows[k+i].length:=by rw[<-e];exact hj
   have:=hcell (k+i) hi' j hj'
   have ea:off+k*sz+i*sz+j=off+(k+i)*sz+j:=by rw[Nat.add_mul];omega
   rw[ea]
   simpa using this

def vR(s:ByteArray):Bool:=isRat (by_ s)
def qR(s:ByteArray):Rat:=valR (by_ s)
theorem vR_eq{s:ByteArray}(h:vR s=true):s=rS (qR s):=by
 unfold rS qR
 rw[ratT_of h]
 rfl
theorem vR_sm{s:ByteArray}{k:Nat}(h:vR s=true)(hs:s.size<=k):Sm k (qR s):=by
 refine Sm.text ?_
 unfold qR
 rw[ratT_of h]
 exact hs
theorem qR_rS(r:Rat):qR (rS r)=r:=ratT_val r
abbrev SmS(s:ByteArray):Prop:=s.size<=1000
theorem s0:(⟨#[48]⟩:ByteArray)=rS 0:=by
 unfold rS ratT
 have h1:(0:Rat).den=1:=rfl
 have h2:(0:Rat).num=0:=rfl
 rw[if_pos h1,h2,iS_0]
 rfl
theorem Sm.zero{k:Nat}(h:1<=k):Sm k 0:=by
 have hp:10^1<=10^k:=Nat.pow_le_pow_right (by omega) h
 have h1:(0:Rat).den=1:=rfl
 have h2:(0:Rat).num=0:=rfl
 exact⟨by rw[h2];simp;omega,by omega⟩

theorem rS_int(z:Int):iS z=rS (z:Rat):=by
 unfold rS ratT
 have h1:(z:Rat).den=1:=rfl
 have h2:(z:Rat).num=z:=rfl
 rw[if_pos h1,h2]
 rfl
theorem el_Rats:El Tryz.prog 85 57 1 16:=El.of (by kernel_rfl)

theorem SmS.big{s:ByteArray}(hs:SmS s)(h:vR s=true):Big (qR s):=(vR_sm h hs).mono (by omega)

structure Pa where
 id:Int
 units:Int
 cls:Int
 name:ByteArray
 mass:ByteArray
 vol:ByteArray
 worth:ByteArray
structure Ho where
 id:Int
 name:ByteArray
 room:ByteArray
 most:ByteArray
 x:ByteArray
 y:ByteArray
 z:ByteArray
structure Sw where
 hold:Int
 parcel:Int
 units:Int
 deriving DecidableEq

def vP(p:Pa):Bool:=vR p.mass&&vR p.vol&&vR p.worth
def vH(h:Ho):Bool:=vR h.room&&vR h.most&&vR h.x&&vR h.y&&vR h.z
def firstE{α:Type}(f:Option α->α->Int):Option α->List α->Int
 |_,[]=>0
 |p,x::r=>if f p x≠0 then f p x else firstE f (some x) r
def pFault(prev:Option Pa)(p:Pa):Int:=
 if ¬((1<=p.id/\p.id<=1073741824)/\(1<=p.units/\p.units<=9)/\(1<=p.cls/\p.cls<=9)/\0<qR p.mass/\0<qR p.vol/\¬qR p.worth<0)then 2
 else if ¬(1<=p.name.size/\p.name.size<=64)then 4
 else if ∃q,prev=some q/\p.id<=q.id then 5 else 0
def hFault(prev:Option Ho)(h:Ho):Int:=
 if ¬((1<=h.id/\h.id<=1073741824)/\¬qR h.room<0/\¬qR h.most<0)then 2
 else if ¬(1<=h.name.size/\h.name.size<=64)then 4
 else if ∃q,prev=some q/\h.id<=q.id then 5 else 0
def checkC(ps:List Pa)(hs:List Ho):Int:=
 if ¬(ps.all vP=true/\hs.all vH=true)then 1
 else if 6<ps.length∨6<hs.length then 8
 else if firstE pFault none ps≠0 then firstE pFault none ps else firstE hFault none hs

def pix(ps:List Pa)(id:Int):Option Nat:=ps.findIdx? fun p=>decide (p.id=id)
def hix(hs:List Ho)(id:Int):Option Nat:=hs.findIdx? fun h=>decide (h.id=id)
def befS(a b:Sw):Prop:=a.hold<b.hold∨a.hold=b.hold/\a.parcel<b.parcel
instance (a b:Sw):Decidable (befS a b):=by unfold befS;exact inferInstance
def unitsF(l:List Sw)(p:Int):Int:=(l.map fun s=>if s.parcel=p then s.units else 0).sum
def stow1(ps:List Pa)(hs:List Ho)(pre:List Sw)(s:Sw):Int:=
 match pix ps s.parcel,hix hs s.hold with
 |some i,some _=>
  if s.units<1 then 2
  else if ∃q,pre.getLast? =some q/\¬befS q s then 5
  else match ps[i]? with
   |some p=>if p.units<s.units∨p.units<unitsF (pre++[s]) s.parcel then 12 else 0
   |none=>0
 |_,_=>7
def stowL(ps:List Pa)(hs:List Ho):List Sw->List Sw->Int
 |_,[]=>0
 |pre,s::r=>if stow1 ps hs pre s≠0 then stow1 ps hs pre s else stowL ps hs (pre++[s]) r
def stowedF(ps:List Pa)(hs:List Ho)(l:List Sw):Int:=if checkC ps hs≠0 then 1 else stowL ps hs [] l

structure RightC (ps:List Pa) (hs:List Ho):Prop where
 vp:∀p∈ps,vP p=true
 vh:∀h∈hs,vH h=true
 lp:ps.length<=6
 lh:hs.length<=6
 p1:∀p∈ps,(1<=p.id/\p.id<=1073741824)/\(1<=p.units/\p.units<=9)/\(1<=p.cls/\p.cls<=9)/\0<qR p.mass/\0<qR p.vol/\¬qR p.worth<0
 h1:∀h∈hs,(1<=h.id/\h.id<=1073741824)/\¬qR h.room<0/\¬qR h.most<0
 ip:ps.Pairwise fun a b=>a.id<b.id
 ih:hs.Pairwise fun a b=>a.id<b.id
theorem firstE_zero{α:Type}{f:Option α->α->Int}{id:α->Int}{G:α->Prop}(hf:∀p x,f p x=0->G x/\∀q,p=some q->id q<id x):
  ∀(l:List α)(p:Option α),firstE f p l=0->(∀x∈l,G x)/\l.Pairwise (fun a b=>id a<id b)/\(∀q,p=some q->∀x∈l,id q<id x):=by
 intro l
 induction l with
 |nil=>intro p _;exact⟨by simp,List.Pairwise.nil,by simp⟩
 |cons x r ih=>
  intro p h
  rw[firstE]at h
  by_cases h0:f p x=0
  ·rw[if_neg (fun k=>k h0)]at h
   obtain⟨h1,h2,h3⟩:=ih (some x) h
   obtain⟨g1,g2⟩:=hf p x h0
   refine⟨?_,List.pairwise_cons.2 ⟨fun y hy=>h3 x rfl y hy,h2⟩,fun q hq y hy=> ?_⟩
   ·intro y hy
    rcases List.mem_cons.1 hy with rfl|hy
    ·exact g1
    ·exact h1 y hy
   ·have hx:=g2 q hq
    rcases List.mem_cons.1 hy with rfl|hy
    ·exact hx
    ·exact Int.lt_trans hx (h3 x rfl y hy)
  ·rw[if_pos h0]at h
   exact absurd h h0
theorem pFault_zero(p:Option Pa)(x:Pa)(h:pFault p x=0):((1<=x.id/\x.id<=1073741824)/\(1<=x.units/\x.units<=9)/\(1<=x.cls/\x.cls<=9)/\0<qR x.mass/\0<qR x.vol/\¬qR x.worth<0)/\∀q,p=some q->q.id<x.id:=by
 unfold pFault at h
 split at h
 ·simp at h
 ·rename_i h1
  split at h
  ·simp at h
  ·split at h
   ·simp at h
   ·rename_i h3
    refine⟨Decidable.not_not.1 h1,fun q hq=> ?_⟩
    apply Decidable.byContradiction
    intro k
    exact h3 ⟨q,hq,by omega⟩
theorem hFault_zero(p:Option Ho)(x:Ho)(h:hFault p x=0):((1<=x.id/\x.id<=1073741824)/\¬qR x.room<0/\¬qR x.most<0)/\∀q,p=some q->q.id<x.id:=by
 unfold hFault at h
 split at h
 ·simp at h
 ·rename_i h1
  split at h
  ·simp at h
  ·split at h
   ·simp at h
   ·rename_i h3
    refine⟨Decidable.not_not.1 h1,fun q hq=> ?_⟩
    apply Decidable.byContradiction
    intro k
    exact h3 ⟨q,hq,by omega⟩
theorem checkC_right{ps:List Pa}{hs:List Ho}(h:checkC ps hs=0):RightC ps hs:=by
 unfold checkC at h
 split at h
 ·simp at h
 ·rename_i h1
  have h1:=Decidable.not_not.1 h1
  split at h
  ·simp at h
  ·rename_i h2
   split at h
   ·rename_i h3
    exact absurd h h3
   ·rename_i h3
    have h3:=Decidable.not_not.1 h3
    obtain⟨a1,a2,_⟩:=firstE_zero pFault_zero ps none h3
    obtain⟨b1,b2,_⟩:=firstE_zero hFault_zero hs none h
    exact⟨List.all_eq_true.1 h1.1,List.all_eq_true.1 h1.2,by omega,by omega,a1,b1,a2,b2⟩

theorem pix_some{ps:List Pa}{id:Int}{i:Nat}(h:pix ps id=some i):∃p,ps[i]? =some p/\p.id=id:=by
 unfold pix at h
 obtain⟨hi,hp,_⟩:=List.findIdx?_eq_some_iff_getElem.1 h
 exact⟨ps[i],List.getElem?_eq_getElem hi,of_decide_eq_true hp⟩
theorem hix_some{hs:List Ho}{id:Int}{i:Nat}(h:hix hs id=some i):∃p,hs[i]? =some p/\p.id=id:=by
 unfold hix at h
 obtain⟨hi,hp,_⟩:=List.findIdx?_eq_some_iff_getElem.1 h
 exact⟨hs[i],List.getElem?_eq_getElem hi,of_decide_eq_true hp⟩
theorem pair_lt{α:Type}{f:α->Int}{l:List α}(h:l.Pairwise fun a b=>f a<f b){i j:Nat}{a b:α}(hij:i<j)(ha:l[i]? =some a)(hb:l[j]? =some b):f a<f b:=by
 obtain⟨hi,rfl⟩:=List.getElem?_eq_some_iff.1 ha
 obtain⟨hj,rfl⟩:=List.getElem?_eq_some_iff.1 hb
 exact List.pairwise_iff_getElem.1 h i j hi hj hij
theorem pair_inj{α:Type}{f:α->Int}{l:List α}(h:l.Pairwise fun a b=>f a<f b){i j:Nat}{a b:α}(ha:l[i]? =some a)(hb:l[j]? =some b)(e:f a=f b):i=j:=by
 rcases Nat.lt_trichotomy i j with k|k|k
 ·have:=pair_lt h k ha hb;omega
 ·exact k
 ·have:=pair_lt h k hb ha;omega
theorem pix_of{ps:List Pa}(h:ps.Pairwise fun a b=>a.id<b.id){i:Nat}{p:Pa}(hp:ps[i]? =some p):pix ps p.id=some i:=by
 cases hx:pix ps p.id with
 |none=>
  unfold pix at hx
  have:=List.findIdx?_eq_none_iff.1 hx p (List.mem_of_getElem? hp)
  simp at this
 |some j=>
  obtain⟨q,hq,e⟩:=pix_some hx
  rw[pair_inj h hq hp e]
theorem hix_of{hs:List Ho}(h:hs.Pairwise fun a b=>a.id<b.id){i:Nat}{p:Ho}(hp:hs[i]? =some p):hix hs p.id=some i:=by
 cases hx:hix hs p.id with
 |none=>
  unfold hix at hx
  have:=List.findIdx?_eq_none_iff.1 hx p (List.mem_of_getElem? hp)
  simp at this
 |some j=>
  obtain⟨q,hq,e⟩:=hix_some hx
  rw[pair_inj h hq hp e]

def SrtS(l:List Sw):Prop:=l.Pairwise befS
theorem bef_trans{a b c:Sw}(h:befS a b)(k:befS b c):befS a c:=by unfold befS at*;omega
theorem bef_irrefl(a:Sw):¬befS a a:=by unfold befS;omega
theorem bef_asymm{a b:Sw}(h:befS a b):¬befS b a:=by unfold befS at*;omega
theorem srt_ext:∀{l1 l2:List Sw},SrtS l1->SrtS l2->(∀x,x∈l1↔x∈l2)->l1=l2:=by
 intro l1
 induction l1 with
 |nil=>
  intro l2 _ _ h
  cases l2 with
  |nil=>rfl
  |cons b r=>exact absurd ((h b).2 (by simp)) (by simp)
 |cons a r ih=>
  intro l2 h1 h2 h
  cases l2 with
  |nil=>exact absurd ((h a).1 (by simp)) (by simp)
  |cons b s=>
   obtain⟨p1,q1⟩:=List.pairwise_cons.1 h1
   obtain⟨p2,q2⟩:=List.pairwise_cons.1 h2
   have e:a=b:=by
    rcases List.mem_cons.1 ((h a).1 (by simp))with e|k
    ·exact e
    ·rcases List.mem_cons.1 ((h b).2 (by simp))with e|k2
     ·exact e.symm
     ·exact absurd (p1 b k2) (bef_asymm (p2 a k))
   subst e
   rw[ih q1 q2 fun x=> ?_]
   constructor
   ·intro hx
    rcases List.mem_cons.1 ((h x).1 (by simp[hx]))with e|k
    ·subst e;exact absurd (p1 x hx) (bef_irrefl x)
    ·exact k
   ·intro hx
    rcases List.mem_cons.1 ((h x).2 (by simp[hx]))with e|k
    ·subst e;exact absurd (p2 x hx) (bef_irrefl x)
    ·exact k
theorem srt_key{l:List Sw}(h:SrtS l){a b:Sw}(ha:a∈l)(hb:b∈l)(e1:a.hold=b.hold)(e2:a.parcel=b.parcel):a=b:=by
 induction l with
 |nil=>cases ha
 |cons x r ih=>
  obtain⟨p,q⟩:=List.pairwise_cons.1 h
  rcases List.mem_cons.1 ha with e|ha2
  ·rcases List.mem_cons.1 hb with k|hb2
   ·rw[e,k]
   ·have:=p b hb2
    rw[<-e]at this
    unfold befS at this
    omega
  ·rcases List.mem_cons.1 hb with k|hb2
   ·have:=p a ha2
    rw[<-k]at this
    unfold befS at this
    omega
   ·exact ih q ha2 hb2

structure RightS (ps:List Pa) (hs:List Ho) (l:List Sw):Prop where
 c:RightC ps hs
 known:∀s∈l,∃i k,pix ps s.parcel=some i/\hix hs s.hold=some k
 pos:∀s∈l,1<=s.units
 srt:SrtS l
 full:∀p∈ps,unitsF l p.id<=p.units
theorem unitsF_append(a b:List Sw)(p:Int):unitsF (a++b) p=unitsF a p+unitsF b p:=by
 unfold unitsF
 rw[List.map_append,List.sum_append]
theorem unitsF_one(s:Sw)(p:Int):unitsF [s] p=if s.parcel=p then s.units else 0:=by
 simp[unitsF]
theorem unitsF_nonneg{l:List Sw}(h:∀s∈l,1<=s.units)(p:Int):0<=unitsF l p:=by
 induction l with
 |nil=>simp[unitsF]
 |cons s r ih=>
  rw[show s::r=[s]++r from rfl,unitsF_append,unitsF_one]
  have:=ih fun x hx=>h x (by simp[hx])
  have:=h s (by simp)
  split<;>omega
theorem stowL_right{ps:List Pa}{hs:List Ho}(hc:RightC ps hs):∀(r pre:List Sw),RightS ps hs pre->stowL ps hs pre r=0->RightS ps hs (pre++r):=by
 intro r
 induction r with
 |nil=>intro pre h _;simpa using h
 |cons s r ih=>
  intro pre h h0
  rw[stowL]at h0
  by_cases h1:stow1 ps hs pre s=0
  ·rw[if_neg (fun k=>k h1)]at h0
   have:=ih (pre++[s]) ?_ h0
   ·rw[List.append_assoc]at this;exact this
   ·unfold stow1 at h1
    cases hp:pix ps s.parcel with
    |none=>rw[hp]at h1;simp at h1
    |some i=>
     cases hh:hix hs s.hold with
     |none=>rw[hp,hh]at h1;simp at h1
     |some k=>
      rw[hp,hh]at h1
      simp only at h1
      split at h1
      ·simp at h1
      ·rename_i hu
       split at h1
       ·simp at h1
       ·rename_i hb
        obtain⟨p,hpi,hid⟩:=pix_some hp
        rw[hpi]at h1
        simp only at h1
        split at h1
        ·simp at h1
        ·rename_i hfull
         refine⟨hc,fun x hx=> ?_,fun x hx=> ?_,?_,fun q hq=> ?_⟩
         ·rcases List.mem_append.1 hx with hx|hx
          ·exact h.known x hx
          ·rw[List.mem_singleton]at hx;subst hx;exact⟨i,k,hp,hh⟩
         ·rcases List.mem_append.1 hx with hx|hx
          ·exact h.pos x hx
          ·rw[List.mem_singleton]at hx;subst hx;omega
         ·refine List.pairwise_append.2 ⟨h.srt,by simp,fun a ha b hb2=> ?_⟩
          rw[List.mem_singleton]at hb2
          subst hb2
          have hne:pre≠[]:=fun e=>by subst e;cases ha
          have hlast:pre.getLast? =some (pre.getLast hne):=List.getLast?_eq_some_getLast hne
          have hl:befS (pre.getLast hne) b:=by
           apply Decidable.byContradiction
           intro k
           exact hb ⟨_,hlast,k⟩
          have hsplit:=List.dropLast_concat_getLast hne
          have hsrt:=h.srt
          unfold SrtS at hsrt
          rw[<-hsplit]at hsrt ha
          rcases List.mem_append.1 ha with ha|ha
          ·exact bef_trans ((List.pairwise_append.1 hsrt).2.2 a ha _ (by simp)) hl
          ·rw[List.mem_singleton]at ha;rw[ha];exact hl
         ·by_cases e:q.id=s.parcel
          ·obtain⟨j,hj⟩:=List.getElem?_of_mem hq
           have:j=i:=pair_inj hc.ip hj hpi (by rw[hid];exact e)
           subst this
           rw[hpi]at hj
           cases hj
           rw[e]
           omega
          ·rw[unitsF_append,unitsF_one,if_neg (fun k=>e k.symm)]
           have:=h.full q hq
           omega
  ·rw[if_pos h1]at h0
   exact absurd h0 h1
theorem stowed_right{ps:List Pa}{hs:List Ho}{l:List Sw}(h:stowedF ps hs l=0):RightS ps hs l:=by
 unfold stowedF at h
 split at h
 ·simp at h
 ·rename_i h1
  have hc:=checkC_right (Decidable.not_not.1 h1)
  have h0:RightS ps hs []:=⟨hc,by simp,by simp,List.Pairwise.nil,fun p hp=>by have:=(hc.p1 p hp).2.1.1;simp[unitsF];omega⟩
  simpa using stowL_right hc l [] h0 h
theorem unitsF_mono{l pre:List Sw}(h:∀s∈l,1<=s.units){rest:List Sw}(e:l=pre++rest)(p:Int):unitsF pre p<=unitsF l p:=by
 subst e
 rw[unitsF_append]
 have:=unitsF_nonneg (l:=rest) (fun s hs=>h s (by simp[hs])) p
 omega
theorem right_stowL{ps:List Pa}{hs:List Ho}:∀(r pre:List Sw),RightS ps hs (pre++r)->stowL ps hs pre r=0:=by
 intro r
 induction r with
 |nil=>intro pre _;rfl
 |cons s r ih=>
  intro pre h
  have hmem:s∈pre++s::r:=by simp
  obtain⟨i,k,hp,hh⟩:=h.known s hmem
  have h1:stow1 ps hs pre s=0:=by
   unfold stow1
   rw[hp,hh]
   simp only
   rw[if_neg (by have:=h.pos s hmem;omega),if_neg]
   ·obtain⟨p,hpi,hid⟩:=pix_some hp
    rw[hpi]
    simp only
    have hf:=h.full p (List.mem_of_getElem? hpi)
    have hm:=unitsF_mono (pre:=pre++[s]) (rest:=r) h.pos (by simp) p.id
    rw[hid]at hf hm
    have hpre:=unitsF_nonneg (l:=pre) (fun x hx=>h.pos x (by simp[hx])) s.parcel
    have:=unitsF_append pre [s] s.parcel
    rw[unitsF_one,if_pos rfl]at this
    rw[if_neg (by omega)]
   ·rintro⟨q,hq,hb⟩
    refine hb ((List.pairwise_append.1 h.srt).2.2 q ?_ s (by simp))
    exact List.mem_of_getLast? hq
  rw[stowL,h1,if_neg (by simp)]
  exact ih (pre++[s]) (by rw[List.append_assoc];exact h)
theorem right_stowed{ps:List Pa}{hs:List Ho}{l:List Sw}(hc:checkC ps hs=0)(h:RightS ps hs l):stowedF ps hs l=0:=by
 unfold stowedF
 rw[if_neg (fun k=>k hc)]
 exact right_stowL l [] (by simpa using h)
def amtF(l:List Sw)(h p:Int):Int:=l.foldl (fun n s=>if s.parcel=p/\s.hold=h then s.units else n) 0
theorem amtF_snoc(l:List Sw)(s:Sw)(h p:Int):amtF (l++[s]) h p=if s.parcel=p/\s.hold=h then s.units else amtF l h p:=by
 unfold amtF
 rw[List.foldl_append]
 rfl
theorem amt_from(h p:Int):∀(l:List Sw)(n:Int),(l.foldl (fun n s=>if s.parcel=p/\s.hold=h then s.units else n) n=n/\∀s∈l,¬(s.parcel=p/\s.hold=h))∨∃s∈l,s.parcel=p/\s.hold=h/\l.foldl (fun n s=>if s.parcel=p/\s.hold=h then s.units else n) n=s.units:=by
 intro l
 induction l with
 |nil=>intro n;exact .inl ⟨rfl,by simp⟩
 |cons x r ih=>
  intro n
  rw[List.foldl_cons]
  by_cases hx:x.parcel=p/\x.hold=h
  ·rw[if_pos hx]
   rcases ih x.units with⟨e,_⟩|⟨s,hs,e1,e2,e3⟩
   ·exact .inr ⟨x,by simp,hx.1,hx.2,e⟩
   ·exact .inr ⟨s,by simp[hs],e1,e2,e3⟩
  ·rw[if_neg hx]
   rcases ih n with⟨e,k⟩|⟨s,hs,e1,e2,e3⟩
   ·refine .inl ⟨e,fun s hs=> ?_⟩
    rcases List.mem_cons.1 hs with rfl|hs
    ·exact hx
    ·exact k s hs
   ·exact .inr ⟨s,by simp[hs],e1,e2,e3⟩
theorem amt_spec(l:List Sw)(h p:Int):(amtF l h p=0/\∀s∈l,¬(s.parcel=p/\s.hold=h))∨∃s∈l,s.parcel=p/\s.hold=h/\amtF l h p=s.units:=amt_from h p l 0
theorem amt_mem{l:List Sw}(hs:SrtS l){s:Sw}(h:s∈l):amtF l s.hold s.parcel=s.units:=by
 rcases amt_spec l s.hold s.parcel with⟨_,k⟩|⟨x,hx,e1,e2,e3⟩
 ·exact absurd ⟨rfl,rfl⟩ (k s h)
 ·rw[e3,srt_key hs hx h e2 e1]
theorem amt_none{l:List Sw}{h p:Int}(k:∀s∈l,¬(s.parcel=p/\s.hold=h)):amtF l h p=0:=by
 rcases amt_spec l h p with⟨e,_⟩|⟨x,hx,e1,e2,_⟩
 ·exact e
 ·exact absurd ⟨e1,e2⟩ (k x hx)
theorem amt_nonneg{l:List Sw}(hp:∀s∈l,1<=s.units)(h p:Int):0<=amtF l h p:=by
 rcases amt_spec l h p with⟨e,_⟩|⟨x,hx,_,_,e⟩
 ·omega
 ·have:=hp x hx;omega

def entS(f:Nat->Nat->Int)(ps:List Pa)(hs:List Ho)(k i:Nat):List Sw:=
 match hs[k]?,ps[i]? with
 |some h,some p=>if 0<f i k then[⟨h.id,p.id,f i k⟩]else[]
 |_,_=>[]
def stowsG(f:Nat->Nat->Int)(ps:List Pa)(hs:List Ho):List Sw:=(List.range hs.length).flatMap fun k=>(List.range ps.length).flatMap fun i=>entS f ps hs k i
theorem mem_ent{f:Nat->Nat->Int}{ps:List Pa}{hs:List Ho}{k i:Nat}{s:Sw}:s∈entS f ps hs k i↔∃h p,hs[k]? =some h/\ps[i]? =some p/\0<f i k/\s=⟨h.id,p.id,f i k⟩:=by
 unfold entS
 constructor
 ·intro hm
  split at hm
  ·rename_i h p e1 e2
   split at hm
   ·rename_i h0
    rw[List.mem_singleton]at hm
    exact⟨h,p,e1,e2,h0,hm⟩
   ·cases hm
  ·cases hm
 ·rintro⟨h,p,e1,e2,h0,rfl⟩
  rw[e1,e2]
  simp[h0]
theorem mem_stows{f:Nat->Nat->Int}{ps:List Pa}{hs:List Ho}{s:Sw}:s∈stowsG f ps hs↔∃k i h p,hs[k]? =some h/\ps[i]? =some p/\0<f i k/\s=⟨h.id,p.id,f i k⟩:=by
 unfold stowsG
 simp only[List.mem_flatMap,List.mem_range,mem_ent]
 constructor
 ·rintro⟨k,hk,i,hi,h,p,e1,e2,e3,e4⟩
  exact⟨k,i,h,p,e1,e2,e3,e4⟩
 ·rintro⟨k,i,h,p,e1,e2,e3,e4⟩
  exact⟨k,(List.getElem?_eq_some_iff.1 e1).1,i,(List.getElem?_eq_some_iff.1 e2).1,h,p,e1,e2,e3,e4⟩
theorem srt_stows{f:Nat->Nat->Int}{ps:List Pa}{hs:List Ho}(hp:ps.Pairwise fun a b=>a.id<b.id)(hh:hs.Pairwise fun a b=>a.id<b.id):SrtS (stowsG f ps hs):=by
 unfold SrtS stowsG
 rw[List.pairwise_flatMap]
 refine⟨fun k _=> ?_,?_⟩
 ·rw[List.pairwise_flatMap]
  refine⟨fun i _=> ?_,?_⟩
  ·unfold entS
   split
   ·split<;>simp
   ·simp
  ·refine List.Pairwise.imp ?_ List.pairwise_lt_range
   intro i j hij x hx y hy
   obtain⟨h,p,e1,e2,_,rfl⟩:=mem_ent.1 hx
   obtain⟨h',p',e3,e4,_,rfl⟩:=mem_ent.1 hy
   rw[e1]at e3
   cases e3
   exact .inr ⟨rfl,pair_lt hp hij e2 e4⟩
 ·refine List.Pairwise.imp ?_ List.pairwise_lt_range
  intro i j hij x hx y hy
  obtain⟨a,_,hx⟩:=List.mem_flatMap.1 hx
  obtain⟨b,_,hy⟩:=List.mem_flatMap.1 hy
  obtain⟨h,p,e1,e2,_,rfl⟩:=mem_ent.1 hx
  obtain⟨h',p',e3,e4,_,rfl⟩:=mem_ent.1 hy
  exact .inl (pair_lt hh hij e1 e3)
def fA(ps:List Pa)(hs:List Ho)(l:List Sw)(i k:Nat):Int:=
 match hs[k]?,ps[i]? with
 |some h,some p=>amtF l h.id p.id
 |_,_=>0
theorem fA_eq{ps:List Pa}{hs:List Ho}{l:List Sw}{i k:Nat}{h:Ho}{p:Pa}(e1:hs[k]? =some h)(e2:ps[i]? =some p):fA ps hs l i k=amtF l h.id p.id:=by
 unfold fA
 rw[e1,e2]
theorem stows_amts{ps:List Pa}{hs:List Ho}{l:List Sw}(h:RightS ps hs l){f:Nat->Nat->Int}(hf:∀i k,i<ps.length->k<hs.length->f i k=fA ps hs l i k):stowsG f ps hs=l:=by
 refine srt_ext (srt_stows h.c.ip h.c.ih) h.srt fun s=> ?_
 rw[mem_stows]
 constructor
 ·rintro⟨k,i,h',p,e1,e2,e3,rfl⟩
  have e:=hf i k (List.getElem?_eq_some_iff.1 e2).1 (List.getElem?_eq_some_iff.1 e1).1
  rw[fA_eq e1 e2]at e
  rw[e]at e3⊢
  rcases amt_spec l h'.id p.id with⟨e0,_⟩|⟨x,hx,k1,k2,k3⟩
  ·omega
  ·rw[k3,<-k1,<-k2]
   exact hx
 ·intro hs'
  obtain⟨i,k,hi,hk⟩:=h.known s hs'
  obtain⟨p,e2,i2⟩:=pix_some hi
  obtain⟨h',e1,i1⟩:=hix_some hk
  have e:=hf i k (List.getElem?_eq_some_iff.1 e2).1 (List.getElem?_eq_some_iff.1 e1).1
  rw[fA_eq e1 e2,i1,i2,amt_mem h.srt hs']at e
  refine⟨k,i,h',p,e1,e2,?_,?_⟩
  ·rw[e];have:=h.pos s hs';omega
  ·rw[e,i1,i2]

def holdsSum(hs:List Ho)(g:Int->Int):Int:=(hs.map fun h=>g h.id).sum
theorem holds_add{hs:List Ho}{g g':Int->Int}{a:Int}{d:Int}(hh:hs.Pairwise fun a b=>a.id<b.id)(h1:∀h∈hs,h.id≠a->g' h.id=g h.id)(h2:g' a=g a+d)(hm:∃h∈hs,h.id=a):holdsSum hs g'=holdsSum hs g+d:=by
 unfold holdsSum
 induction hs with
 |nil=>obtain⟨h,hx,_⟩:=hm;cases hx
 |cons x r ih=>
  obtain⟨q1,q2⟩:=List.pairwise_cons.1 hh
  rw[List.map_cons,List.map_cons,List.sum_cons,List.sum_cons]
  by_cases e:x.id=a
  ·have er:(r.map fun h=>g' h.id)=r.map fun h=>g h.id:=List.map_congr_left fun y hy=>h1 y (by simp[hy]) (by have:=q1 y hy;omega)
   rw[er,e,h2]
   omega
  ·obtain⟨h,hx,he⟩:=hm
   rcases List.mem_cons.1 hx with k|hx
   ·subst k;exact absurd he e
   ·rw[h1 x (by simp) e,ih q2 (fun y hy=>h1 y (by simp[hy])) ⟨h,hx,he⟩]
    omega
theorem holds_zero{hs:List Ho}{g:Int->Int}(h:∀x∈hs,g x.id=0):holdsSum hs g=0:=by
 unfold holdsSum
 induction hs with
 |nil=>rfl
 |cons x r ih=>rw[List.map_cons,List.sum_cons,h x (by simp),ih fun y hy=>h y (by simp[hy])];rfl
theorem units_holds{hs:List Ho}(hh:hs.Pairwise fun a b=>a.id<b.id)(p:Int):∀{l:List Sw},SrtS l->(∀s∈l,∃h∈hs,h.id=s.hold)->unitsF l p=holdsSum hs fun a=>amtF l a p:=by
 suffices H:∀(n:Nat)(l:List Sw),l.length=n->SrtS l->(∀s∈l,∃h∈hs,h.id=s.hold)->unitsF l p=holdsSum hs fun a=>amtF l a p from fun {l} h1 h2=>H l.length l rfl h1 h2
 intro n
 induction n with
 |zero=>
  intro l hl _ _
  have:l=[]:=List.eq_nil_of_length_eq_zero hl
  subst this
  rw[holds_zero fun x _=>rfl]
  rfl
 |succ n ih=>
  intro l hl hs1 hk
  have hne:l≠[]:=fun e=>by subst e;cases hl
  obtain⟨r,s,rfl⟩:∃r s,l=r++[s]:=⟨l.dropLast,l.getLast hne,(List.dropLast_concat_getLast hne).symm⟩
  have hr:SrtS r:=(List.pairwise_append.1 hs1).1
  rw[unitsF_append,unitsF_one,ih r (by simpa using hl) hr fun x hx=>hk x (by simp[hx])]
  by_cases e:s.parcel=p
  ·rw[if_pos e]
   refine(holds_add (a:=s.hold) hh (fun h _ hne=> ?_) ?_ (hk s (by simp))).symm
   ·rw[amtF_snoc,if_neg (fun k=>hne k.2.symm)]
   ·rw[amtF_snoc,if_pos ⟨e,rfl⟩,amt_none,Int.zero_add]
    intro x hx hxk
    have:=(List.pairwise_append.1 hs1).2.2 x hx s (by simp)
    unfold befS at this
    omega
  ·rw[if_neg e,Int.add_zero]
   unfold holdsSum
   refine congrArg List.sum (List.map_congr_left fun h _=> ?_)
   show amtF r h.id p=amtF (r++[s]) h.id p
   rw[amtF_snoc,if_neg (fun k=>e k.1)]

def getA(a:List Int)(n i k:Nat):Int:=a.getD (i*n+k) 0
def amountsF(ps:List Pa)(hs:List Ho)(l:List Sw):List Int:=ps.flatMap fun p=>hs.map fun h=>amtF l h.id p.id
theorem flat_get{α β:Type}{f:α->List β}{n:Nat}:∀{l:List α},(∀x∈l,(f x).length=n)->(l.flatMap f).length=l.length*n/\∀(i k:Nat)(x:α),l[i]? =some x->k<n->(l.flatMap f)[i*n+k]? =(f x)[k]? :=by
 intro l
 induction l with
 |nil=>intro _;exact⟨by simp,by simp⟩
 |cons y r ih=>
  intro h
  have hy:=h y (by simp)
  obtain⟨h1,h2⟩:=ih fun x hx=>h x (by simp[hx])
  refine⟨by rw[List.flatMap_cons,List.length_append,h1,hy,List.length_cons,Nat.add_mul];omega,fun i k x hx hk=> ?_⟩
  rw[List.flatMap_cons]
  cases i with
  |zero=>
   simp at hx
   subst hx
   rw[Nat.zero_mul,Nat.zero_add,List.getElem?_append_left (by omega)]
  |succ i=>
   rw[List.getElem?_append_right (by rw[hy,Nat.add_mul];omega),hy,show(i+1)*n+k - n=i*n+k by rw[Nat.add_mul];omega]
   exact h2 i k x (by simpa using hx) hk
theorem amounts_len(ps:List Pa)(hs:List Ho)(l:List Sw):(amountsF ps hs l).length=ps.length*hs.length:=(flat_get fun x _=>by simp).1
theorem amounts_get{ps:List Pa}{hs:List Ho}{l:List Sw}{i k:Nat}{p:Pa}{h:Ho}(e2:ps[i]? =some p)(e1:hs[k]? =some h):(amountsF ps hs l)[i*hs.length+k]? =some (amtF l h.id p.id):=by
 have hk:=(List.getElem?_eq_some_iff.1 e1).1
 unfold amountsF
 rw[(flat_get (n:=hs.length) fun x _=>by simp).2 i k p e2 hk,List.getElem?_map,e1]
 rfl
theorem getA_amounts{ps:List Pa}{hs:List Ho}{l:List Sw}{i k:Nat}(hi:i<ps.length)(hk:k<hs.length):getA (amountsF ps hs l) hs.length i k=fA ps hs l i k:=by
 have e2:ps[i]? =some ps[i]:=List.getElem?_eq_getElem hi
 have e1:hs[k]? =some hs[k]:=List.getElem?_eq_getElem hk
 unfold getA
 rw[List.getD_eq_getElem?_getD,amounts_get e2 e1,fA_eq e1 e2]
 rfl
theorem list_ext2{m n:Nat}{a b:List Int}(ha:a.length=m*n)(hb:b.length=m*n)(h:∀i k,i<m->k<n->a[i*n+k]? =b[i*n+k]?):a=b:=by
 refine List.ext_getElem? fun j=> ?_
 by_cases hj:j<m*n
 ·have hn:0<n:=by
   apply Nat.pos_of_ne_zero
   intro e
   subst e
   simp at hj
  have e:j / n*n+j % n=j:=by rw[Nat.mul_comm];exact Nat.div_add_mod j n
  have:=h (j / n) (j % n) ((Nat.div_lt_iff_lt_mul hn).2 hj) (Nat.mod_lt _ hn)
  rwa [e]at this
 ·rw[List.getElem?_eq_none (by omega),List.getElem?_eq_none (by omega)]

def overL:Int->List Int->Bool
 |_,[]=>false
 |left,n::r=>if left<n then true else overL (left - n) r
theorem overL_false:∀{r:List Int} {left:Int},(∀n∈r,0<=n)->(overL left r=false↔(r=[]∨r.sum<=left)):=by
 intro r
 induction r with
 |nil=>intro left _;simp[overL]
 |cons n r ih=>
  intro left h
  have h0:=h n (by simp)
  have hr:∀m∈r,0<=m:=fun m hm=>h m (by simp[hm])
  have hs:0<=r.sum:=by
   clear ih h
   induction r with
   |nil=>simp
   |cons a s ih=>rw[List.sum_cons];have:=hr a (by simp);have:=ih fun m hm=>hr m (by simp[hm]);omega
  unfold overL
  by_cases hn:left<n
  ·rw[if_pos hn]
   simp
   omega
  ·rw[if_neg hn,ih hr]
   simp only[List.sum_cons,reduceCtorEq,false_or]
   constructor
   ·rintro(e|e)
    ·subst e;simp;omega
    ·omega
   ·intro e
    exact .inr (by omega)
def rowA(a:List Int)(n i:Nat):List Int:=(a.drop (i*n)).take n
def fullA(ps:List Pa)(hs:List Ho)(a:List Int):Bool:=(List.range ps.length).any fun i=>match ps[i]? with|some p=>overL p.units (rowA a hs.length i)|none=>false
def fromF(ps:List Pa)(hs:List Ho)(a:List Int):Except Int (List Sw):=
 if checkC ps hs≠0 then .error 1
 else if a.length≠ps.length*hs.length then .error 10
 else if a.any (fun n=>decide (n<0))=true then .error 2
 else if fullA ps hs a=true then .error 12
 else .ok (stowsG (getA a hs.length) ps hs)
theorem row_get{a:List Int}{m n i k:Nat}(ha:a.length=m*n)(hi:i<m)(hk:k<n):(rowA a n i)[k]? =some (getA a n i k):=by
 unfold rowA getA
 have hlt:i*n+k<a.length:=by
  rw[ha]
  have:(i+1)*n<=m*n:=Nat.mul_le_mul_right n hi
  rw[Nat.add_mul]at this
  omega
 rw[List.getElem?_take,if_pos hk,List.getElem?_drop,List.getD_eq_getElem?_getD,List.getElem?_eq_getElem hlt]
 rfl
theorem row_len{a:List Int}{m n i:Nat}(ha:a.length=m*n)(hi:i<m):(rowA a n i).length=n:=by
 unfold rowA
 have:(i+1)*n<=m*n:=Nat.mul_le_mul_right n hi
 rw[Nat.add_mul]at this
 rw[List.length_take,List.length_drop]
 omega
theorem row_holds{ps:List Pa}{hs:List Ho}{a:List Int}{i:Nat}{g:Int->Int}(ha:a.length=ps.length*hs.length)(hi:i<ps.length)(hg:∀k h,hs[k]? =some h->g h.id=getA a hs.length i k):rowA a hs.length i=hs.map fun h=>g h.id:=by
 refine List.ext_getElem? fun k=> ?_
 by_cases hk:k<hs.length
 ·have e:=List.getElem?_eq_getElem hk
  rw[row_get ha hi hk,List.getElem?_map,e,Option.map_some,hg k _ e]
 ·rw[List.getElem?_eq_none (by rw[row_len ha hi];omega),List.getElem?_eq_none (by simp;omega)]

theorem from_amounts{ps:List Pa}{hs:List Ho}{l:List Sw}(hc:checkC ps hs=0)(h:RightS ps hs l):fromF ps hs (amountsF ps hs l)= .ok l:=by
 have hnn:=fun(p:Int) (a:Int)=>amt_nonneg h.pos a p
 have hmem:∀n∈amountsF ps hs l,0<=n:=fun n hn=>by
  unfold amountsF at hn
  obtain⟨p,_,hn⟩:=List.mem_flatMap.1 hn
  obtain⟨h',_,rfl⟩:=List.mem_map.1 hn
  exact hnn _ _
 unfold fromF
 rw[if_neg (fun k=>k hc),if_neg (fun k=>k (amounts_len ps hs l)),if_neg,if_neg]
 ·rw[stows_amts h fun i k hi hk=>getA_amounts hi hk]
 ·unfold fullA
  rw[Bool.not_eq_true,List.any_eq_false]
  intro i hi
  have hi:i<ps.length:=List.mem_range.1 hi
  have e2:ps[i]? =some ps[i]:=List.getElem?_eq_getElem hi
  have er:rowA (amountsF ps hs l) hs.length i=hs.map fun h'=>amtF l h'.id ps[i].id:=by
   refine row_holds (g:=fun a=>amtF l a ps[i].id) (amounts_len ps hs l) hi fun k h' e1=> ?_
   rw[getA_amounts hi (List.getElem?_eq_some_iff.1 e1).1,fA_eq e1 e2]
  rw[e2]
  simp only
  rw[er,Bool.not_eq_true,overL_false (fun n hn=>by obtain⟨h',_,rfl⟩:=List.mem_map.1 hn;exact hnn _ _)]
  right
  have hu:=units_holds h.c.ih ps[i].id h.srt fun s hs'=>by
   obtain⟨_,k,_,hk⟩:=h.known s hs'
   obtain⟨h',e1,e⟩:=hix_some hk
   exact⟨h',List.mem_of_getElem? e1,e⟩
  unfold holdsSum at hu
  rw[<-hu]
  exact h.full _ (List.mem_of_getElem? e2)
 ·rw[Bool.not_eq_true,List.any_eq_false]
  intro n hn
  have:=hmem n hn
  simp
  omega
theorem from_ok{ps:List Pa}{hs:List Ho}{a:List Int}{x:List Sw}(h:fromF ps hs a= .ok x):checkC ps hs=0/\RightS ps hs x/\amountsF ps hs x=a:=by
 unfold fromF at h
 split at h
 ·cases h
 ·rename_i h1
  have h1:=Decidable.not_not.1 h1
  split at h
  ·cases h
  ·rename_i h2
   have h2:=Decidable.not_not.1 h2
   split at h
   ·cases h
   ·rename_i h3
    split at h
    ·cases h
    ·rename_i h4
     cases h
     have hc:=checkC_right h1
     have hneg:∀n∈a,0<=n:=fun n hn=>by
      rw[Bool.not_eq_true,List.any_eq_false]at h3
      have:=h3 n hn
      simp at this
      omega
     have hg:∀i k,i<ps.length->k<hs.length->0<=getA a hs.length i k:=fun i k hi hk=>by
      have:=row_get h2 hi hk
      have hm:getA a hs.length i k∈rowA a hs.length i:=List.mem_of_getElem? this
      unfold rowA at hm
      exact hneg _ (List.mem_of_mem_drop (List.mem_of_mem_take hm))
     have hsrt:=srt_stows (f:=getA a hs.length) hc.ip hc.ih
     have hamt:∀(i k:Nat)(p:Pa)(h:Ho),ps[i]? =some p->hs[k]? =some h->amtF (stowsG (getA a hs.length) ps hs) h.id p.id=getA a hs.length i k:=by
      intro i k p h e2 e1
      have h0:=hg i k (List.getElem?_eq_some_iff.1 e2).1 (List.getElem?_eq_some_iff.1 e1).1
      by_cases hpos:0<getA a hs.length i k
      ·exact amt_mem hsrt (mem_stows.2 ⟨k,i,h,p,e1,e2,hpos,rfl⟩)
      ·rw[amt_none,show getA a hs.length i k=0 by omega]
       intro s hs' hk
       obtain⟨k',i',h',p',e1',e2',h0',rfl⟩:=mem_stows.1 hs'
       simp only at hk
       have:=pair_inj hc.ip e2' e2 hk.1
       have:=pair_inj hc.ih e1' e1 hk.2
       subst_vars
       exact hpos h0'
     have hr:RightS ps hs (stowsG (getA a hs.length) ps hs):=by
      refine⟨hc,fun s hs'=> ?_,fun s hs'=> ?_,hsrt,fun q hq=> ?_⟩
      ·obtain⟨k,i,h,p,e1,e2,_,rfl⟩:=mem_stows.1 hs'
       exact⟨i,k,pix_of hc.ip e2,hix_of hc.ih e1⟩
      ·obtain⟨k,i,h,p,e1,e2,h0,rfl⟩:=mem_stows.1 hs'
       simp only
       omega
      ·obtain⟨i,e2⟩:=List.getElem?_of_mem hq
       have hi:=(List.getElem?_eq_some_iff.1 e2).1
       have hu:=units_holds hc.ih q.id hsrt fun s hs'=>by
        obtain⟨k,i,h,p,e1,e2,_,rfl⟩:=mem_stows.1 hs'
        exact⟨h,List.mem_of_getElem? e1,rfl⟩
       have er:=row_holds (g:=fun b=>amtF (stowsG (getA a hs.length) ps hs) b q.id) h2 hi fun k h e1=>hamt i k q h e2 e1
       unfold holdsSum at hu
       rw[hu,<-er]
       unfold fullA at h4
       rw[Bool.not_eq_true,List.any_eq_false]at h4
       have h5:=h4 i (List.mem_range.2 hi)
       rw[e2]at h5
       simp only at h5
       rw[Bool.not_eq_true,overL_false (fun n hn=>by unfold rowA at hn;exact hneg _ (List.mem_of_mem_drop (List.mem_of_mem_take hn)))]at h5
       rcases h5 with h5|h5
       ·rw[h5]
        have:=(hc.p1 q hq).2.1.1
        simp
        omega
       ·exact h5
     refine⟨h1,hr,list_ext2 (amounts_len ps hs _) h2 fun i k hi hk=> ?_⟩
     have e2:ps[i]? =some ps[i]:=List.getElem?_eq_getElem hi
     have e1:hs[k]? =some hs[k]:=List.getElem?_eq_getElem hk
     rw[amounts_get e2 e1,hamt i k _ _ e2 e1]
     have hr2:=row_get h2 hi hk
     unfold rowA at hr2
     rw[List.getElem?_take,if_pos hk,List.getElem?_drop]at hr2
     exact hr2.symm

def sumR(f:Sw->Rat)(l:List Sw):Rat:=(l.map f).sum
theorem sumR_append(f:Sw->Rat)(a b:List Sw):sumR f (a++b)=sumR f a+sumR f b:=by
 unfold sumR
 rw[List.map_append]
 induction a.map f with
 |nil=>simp[Rat.zero_add]
 |cons x r ih=>rw[List.cons_append,List.sum_cons,List.sum_cons,ih,Rat.add_assoc]
theorem sumR_one(f:Sw->Rat)(s:Sw):sumR f [s]=f s:=by simp[sumR,Rat.add_zero]
theorem sumR_nil(f:Sw->Rat):sumR f []=0:=rfl
end Go.Proofs.YtgfkeadgjkfomaaGreatDoor.B

set_option maxRecDepth 100000
set_option maxHeartbeats 4000000
namespace Go.Proofs.YtgfkeadgjkfomaaGreatDoor.F
open Go Go.RowKit Go.Proofs Go.Proofs.YtgfkeadgjkfomaaGreatDoor.Vc
def cargo_Amounts.L5(a:Option Addr)(b c:Nat)(d:Option Addr)(e f:Nat)(g i:Int)(j:Option Addr)(l m:Nat)(n:Option Addr)(o p B:Nat)(w:World)(R:Value->World->Prop):Prop:=At Tryz.prog 41 46 (loopAt Tryz.f41 5) [(2,.loc 2 0),(6,.v (.slice a b c)),(21,.v (.slice d e f)),(22,.v (.int .i64 g)),(23,.v (.int .i64 i))] [⟨2,false,25,[(.slice j l m),(.slice n o p)]⟩] B w R
noncomputable def cargo_Amounts.cx(w:World)(B:Nat)(R:Value->World->Prop):Cx:=⟨Tryz.prog,41,46,Tryz.f41.results.toList,[((true,5),[2,6,21,22,23],[2])],[(3,7,2)],w,B,R⟩
theorem cargo_Amounts.L5.step(m:Option Addr)(n p:Nat)(q:Option Addr)(r y:Nat)(o d:Int)(f:Option Addr)(g i:Nat)(j:Option Addr)(a l B:Nat)(w:World)(R:Value->World->Prop)
  (h:(((d<o)->((0<=d/\d<r)/\∃z,q=some z/\(∃s t u,CellsAt w (z.add ((d).toNat*3)) [.int .i64 s,.int .i64 t,.int .i64 u]/\(∀A,Ext B [] w A->(Pure P 62 #[.agg #[.slice f g i,.slice j a l],.int .i64 t] A fun E G=>∃b,E= .int .i64 b/\(inR .i64 (b*(a:Int))/\(Pure P 63 #[.agg #[.slice f g i,.slice j a l],.int .i64 s] G fun H C=>∃c,H= .int .i64 c/\(inR .i64 ((b*(a:Int))+c)/\((0<=((b*(a:Int))+c)/\((b*(a:Int))+c)<n)/\∃e,m=some e/\(∃(v:List Value)(x:Nat),B<=(e.add ((((b*(a:Int))+c)).toNat*1)).block/\(e.add ((((b*(a:Int))+c)).toNat*1)).spot=none/\C.heap[(e.add ((((b*(a:Int))+c)).toNat*1)).block]? =some (.cells v.toArray x (0,0))/\(e.add ((((b*(a:Int))+c)).toNat*1)).off+1<=v.length/\hasType x [⟨8,false,39,[.int .i64 s,.int .i64 t,.int .i64 u]⟩,⟨2,false,25,[.slice f g i,.slice j a l]⟩]=false/\∀D,Wrote C D (e.add ((((b*(a:Int))+c)).toNat*1)).block x (setCells v (e.add ((((b*(a:Int))+c)).toNat*1)).off [.int .i64 u])->(inR .i64 (d+1)/\(cargo_Amounts.L5 m n p q r y o (d+1) f g i j a l B D R))))))))))))/\(¬(d<o)->(R (.tuple #[.slice m n p,.int .i64 0]) w)))):
  cargo_Amounts.L5 m n p q r y o d f g i j a l B w R:=
 loop_of_run (cargo_Amounts.cx w B R) 100000 (loopAt Tryz.f41 5) _ _ follows Tryz.func41 rfl rfl rfl (Eq.mp (by kernel_rfl) h)
theorem cargo_Amounts.vc(d:Option Addr)(a e:Nat)(f:Option Addr)(b g:Nat)(i:Option Addr)(c j:Nat)(w:World)(R:Value->World->Prop)
  (h:(∀m,Ext w.heap.size [] w m->(Pure P 61 #[.agg #[.slice d a e,.slice f b g],.slice i c j] m fun r n=>∃l,r= .int .i64 l/\(((l≠0)->(R (.tuple #[.slice none 0 0,.int .i64 1]) n))/\(¬(l≠0)->(inR .i64 ((a:Int)*(b:Int))/\(RunOk P (Instr.makeSlice 48 (.int .i64 ((a:Int)*(b:Int))) (.int .i64 ((a:Int)*(b:Int)))) w.heap.size [25] n fun s t=>∃o p q,s= .slice o p q/\(cargo_Amounts.L5 o p q i c j (c:Int) (0:Int) d a e f b g w.heap.size t R)))))))):
  Pure P 41 #[.agg #[.slice d a e,.slice f b g],.slice i c j] w R:=
 pure_of_run (cargo_Amounts.cx w w.heap.size R) 100000 follows Tryz.func41 rfl rfl rfl rfl rfl rfl rfl (Eq.mp (by kernel_rfl) h)

def cargo_Stowed.L4(a:Option Addr)(b c:Nat)(d:Option Addr)(e f:Nat)(g i:Int)(j:Option Addr)(l m:Nat)(n:Option Addr)(o p B:Nat)(w:World)(R:Value->World->Prop):Prop:=At Tryz.prog 61 72 (loopAt Tryz.f61 4) [(1,.v (.slice a b c)),(2,.loc 2 0),(11,.v (.slice d e f)),(12,.v (.int .i64 g)),(13,.v (.int .i64 i))] [⟨2,false,25,[(.slice j l m),(.slice n o p)]⟩] B w R
noncomputable def cargo_Stowed.cx(w:World)(B:Nat)(R:Value->World->Prop):Cx:=⟨Tryz.prog,61,72,Tryz.f61.results.toList,[((true,4),[1,2,11,12,13],[2])],[(13,9999,3)],w,B,R⟩
theorem cargo_Stowed.L4.step(g:Option Addr)(s f:Nat)(t:Option Addr)(u v:Nat)(i a:Int)(c:Option Addr)(d j:Nat)(l:Option Addr)(m n B:Nat)(w:World)(R:Value->World->Prop)
  (h:(((a<i)->((0<=a/\a<u)/\∃I,t=some I/\(∃x o e,CellsAt w (I.add ((a).toNat*3)) [.int .i64 x,.int .i64 o,.int .i64 e]/\(∀J,Ext B [] w J->(Pure P 62 #[.agg #[.slice c d j,.slice l m n],.int .i64 o] J fun a3 K=>∃b,a3= .int .i64 b/\(((b<0)->(R (.int .i64 7) K))/\(¬(b<0)->(Pure P 63 #[.agg #[.slice c d j,.slice l m n],.int .i64 x] K fun a4 p=>∃y,a4= .int .i64 y/\(((y<0)->(R (.int .i64 7) p))/\(¬(y<0)->(((e<1)->(R (.int .i64 2) p))/\(¬(e<1)->(((a>0)->(inR .i64 (a - (1:Int))/\((0<=(a - (1:Int))/\(a - (1:Int))<s)/\∃L,g=some L/\(∃M N O,CellsAt p (L.add (((a - (1:Int))).toNat*3)) [.int .i64 M,.int .i64 N,.int .i64 O]/\(∀Q,Ext B [] p Q->(Pure P 65 #[.agg #[.int .i64 M,.int .i64 N,.int .i64 O],.agg #[.int .i64 x,.int .i64 o,.int .i64 e]] Q fun a5 q=>∃z,a5= .int .i64 z/\(((z≥(0:Int))->(R (.int .i64 5) q))/\(¬(z≥(0:Int))->((0<=b/\b<d)/\∃S,c=some S/\(∃A,CellsAt q ((S.add ((b).toNat*7)).add 1) [.int .i64 A]/\(((e>A)->(∀T,Ext B [] q T->(R (.int .i64 12) T)))/\(¬(e>A)->(inR .i64 (a+1)/\((0<=(a+1)/\(a+1)<=(f:Int))/\((0<=b/\b<d)/\∃U,c=some U/\(∃C,CellsAt q ((U.add ((b).toNat*7)).add 1) [.int .i64 C]/\(∀V,Ext B [] q V->(Pure P 66 #[(.slice g (((a+1)).toNat) f),.int .i64 o] V fun a6 X=>∃D,a6= .int .i64 D/\(((D>C)->(R (.int .i64 12) X))/\(¬(D>C)->(inR .i64 (a+1)/\(cargo_Stowed.L4 g s f t u v i (a+1) c d j l m n B X R))))))))))))))))))))))/\(¬(a>0)->(∀r,Ext B [] p r->((0<=b/\b<d)/\∃Y,c=some Y/\(∃E,CellsAt r ((Y.add ((b).toNat*7)).add 1) [.int .i64 E]/\(((e>E)->(∀Z,Ext B [] r Z->(R (.int .i64 12) Z)))/\(¬(e>E)->(inR .i64 (a+1)/\((0<=(a+1)/\(a+1)<=(f:Int))/\((0<=b/\b<d)/\∃a0,c=some a0/\(∃G,CellsAt r ((a0.add ((b).toNat*7)).add 1) [.int .i64 G]/\(∀a1,Ext B [] r a1->(Pure P 66 #[(.slice g (((a+1)).toNat) f),.int .i64 o] a1 fun a7 a2=>∃H,a7= .int .i64 H/\(((H>G)->(R (.int .i64 12) a2))/\(¬(H>G)->(inR .i64 (a+1)/\(cargo_Stowed.L4 g s f t u v i (a+1) c d j l m n B a2 R)))))))))))))))))))))))))))))/\(¬(a<i)->(R (.int .i64 0) w)))):
  cargo_Stowed.L4 g s f t u v i a c d j l m n B w R:=
 loop_of_run (cargo_Stowed.cx w B R) 100000 (loopAt Tryz.f61 4) _ _ follows Tryz.func61 rfl rfl rfl (Eq.mp (by kernel_rfl) h)
theorem cargo_Stowed.vc(b:Option Addr)(c d:Nat)(e:Option Addr)(f g:Nat)(i:Option Addr)(a j:Nat)(w:World)(R:Value->World->Prop)
  (h:(∀m,Ext w.heap.size [] w m->(Pure P 86 #[.agg #[.slice b c d,.slice e f g]] m fun o n=>∃l,o= .int .i64 l/\(((l≠0)->(R (.int .i64 1) n))/\(¬(l≠0)->(cargo_Stowed.L4 i a j i a j (a:Int) (0:Int) b c d e f g w.heap.size n R)))))):
  Pure P 61 #[.agg #[.slice b c d,.slice e f g],.slice i a j] w R:=
 pure_of_run (cargo_Stowed.cx w w.heap.size R) 100000 follows Tryz.func61 rfl rfl rfl rfl rfl rfl rfl (Eq.mp (by kernel_rfl) h)

noncomputable def cargo_parcel.cx(w:World)(B:Nat)(R:Value->World->Prop):Cx:=⟨Tryz.prog,62,9,Tryz.f62.results.toList,[],[],w,B,R⟩
theorem cargo_parcel.vc(a:Option Addr)(b c:Nat)(g:Option Addr)(i j:Nat)(d:Int)(w:World)(R:Value->World->Prop)
  (h:(∀e,Ext w.heap.size [] w e->(Pure P 87 #[.slice a b c,.int .i64 d,(.func (.func 88) #[] #[])] e fun l m=>∃f,l= .int .i64 f/\(R (.int .i64 f) m)))):
  Pure P 62 #[.agg #[.slice a b c,.slice g i j],.int .i64 d] w R:=
 pure_of_run (cargo_parcel.cx w w.heap.size R) 100000 follows Tryz.func62 rfl rfl rfl rfl rfl rfl rfl (Eq.mp (by kernel_rfl) h)

noncomputable def cargo_hold.cx(w:World)(B:Nat)(R:Value->World->Prop):Cx:=⟨Tryz.prog,63,9,Tryz.f63.results.toList,[],[],w,B,R⟩
theorem cargo_hold.vc(g:Option Addr)(i j:Nat)(a:Option Addr)(b c:Nat)(d:Int)(w:World)(R:Value->World->Prop)
  (h:(∀e,Ext w.heap.size [] w e->(Pure P 89 #[.slice a b c,.int .i64 d,(.func (.func 90) #[] #[])] e fun l m=>∃f,l= .int .i64 f/\(R (.int .i64 f) m)))):
  Pure P 63 #[.agg #[.slice g i j,.slice a b c],.int .i64 d] w R:=
 pure_of_run (cargo_hold.cx w w.heap.size R) 100000 follows Tryz.func63 rfl rfl rfl rfl rfl rfl rfl (Eq.mp (by kernel_rfl) h)

noncomputable def cargo_order.cx(w:World)(B:Nat)(R:Value->World->Prop):Cx:=⟨Tryz.prog,65,17,Tryz.f65.results.toList,[],[(1,10,2)],w,B,R⟩
theorem cargo_order.vc(a b n c d o:Int)(w:World)(R:Value->World->Prop)
  (h:(∀e,Ext w.heap.size [] w e->(Pure P 45 #[.int .i64 a,.int .i64 c] e fun p q=>∃f,p= .int .i64 f/\(Pure P 45 #[.int .i64 b,.int .i64 d] q fun r s=>∃g,r= .int .i64 g/\(RunOk P (Instr.buildSlice 48 2 #[(0,(.int .i64 f)),(1,(.int .i64 g))]) w.heap.size [39,39] s fun t u=>∃i j l,t= .slice i j l/\(Pure P 91 #[.slice i j l] u fun v x=>∃m,v= .int .i64 m/\(R (.int .i64 m) x))))))):
  Pure P 65 #[.agg #[.int .i64 a,.int .i64 b,.int .i64 n],.agg #[.int .i64 c,.int .i64 d,.int .i64 o]] w R:=
 pure_of_run (cargo_order.cx w w.heap.size R) 100000 follows Tryz.func65 rfl rfl rfl rfl rfl rfl rfl (Eq.mp (by kernel_rfl) h)

def cargo_units.L3(a b:Int)(c:Option Addr)(d e:Nat)(f g:Int)(B:Nat)(w:World)(R:Value->World->Prop):Prop:=At Tryz.prog 66 24 (loopAt Tryz.f66 3) [(1,.v (.int .i64 a)),(5,.v (.int .i64 b)),(8,.v (.slice c d e)),(9,.v (.int .i64 f)),(10,.v (.int .i64 g))] [] B w R
noncomputable def cargo_units.cx(w:World)(B:Nat)(R:Value->World->Prop):Cx:=⟨Tryz.prog,66,24,Tryz.f66.results.toList,[((true,3),[1,5,8,9,10],[])],[],w,B,R⟩
theorem cargo_units.L3.step(b c:Int)(e:Option Addr)(f g:Nat)(d a:Int)(B:Nat)(w:World)(R:Value->World->Prop)
  (h:(((a<d)->((0<=a/\a<f)/\∃l,e=some l/\(∃o i j,CellsAt w (l.add ((a).toNat*3)) [.int .i64 o,.int .i64 i,.int .i64 j]/\(((i=b)->(inR .i64 (c+j)/\(inR .i64 (a+1)/\(∀m,Ext B [] w m->(cargo_units.L3 b (c+j) e f g d (a+1) B m R)))))/\(¬(i=b)->(inR .i64 (a+1)/\(∀n,Ext B [] w n->(cargo_units.L3 b c e f g d (a+1) B n R))))))))/\(¬(a<d)->(R (.int .i64 c) w)))):
  cargo_units.L3 b c e f g d a B w R:=
 loop_of_run (cargo_units.cx w B R) 100000 (loopAt Tryz.f66 3) _ _ follows Tryz.func66 rfl rfl rfl (Eq.mp (by kernel_rfl) h)
theorem cargo_units.vc(b:Option Addr)(a c:Nat)(d:Int)(w:World)(R:Value->World->Prop)
  (h:(cargo_units.L3 d (0:Int) b a c (a:Int) (0:Int) w.heap.size w R)):
  Pure P 66 #[.slice b a c,.int .i64 d] w R:=
 pure_of_run (cargo_units.cx w w.heap.size R) 100000 follows Tryz.func66 rfl rfl rfl rfl rfl rfl rfl (Eq.mp (by kernel_rfl) h)

noncomputable def cargo_Overloaded.cx(w:World)(B:Nat)(R:Value->World->Prop):Cx:=⟨Tryz.prog,71,14,Tryz.f71.results.toList,[],[(3,2,5)],w,B,R⟩
theorem cargo_Overloaded.vc(e:Option Addr)(f g:Nat)(a:Option Addr)(b c:Nat)(i:Option Addr)(j l:Nat)(w:World)(R:Value->World->Prop)
  (h:(∀p,Ext w.heap.size [] w p->(Pure P 61 #[.agg #[.slice e f g,.slice a b c],.slice i j l] p fun r d=>∃m,r= .int .i64 m/\(((m≠0)->(R (.tuple #[.int .i64 0,.int .i64 1]) d))/\(¬(m≠0)->(∀n:Nat,w.heap.size<=n->d.heap[n]? =some (.cells [.slice i j l].toArray 29 (0,0))->(∀o:Nat,w.heap.size<=o->d.heap[o]? =some (.cells [.slice e f g,.slice a b c].toArray 25 (0,0))->(Pure P 101 #[.slice a b c,(.func (.func 102) #[] #[(.pointer (some (⟨o,0,none⟩:Addr))),(.pointer (some (⟨n,0,none⟩:Addr)))])] d fun s t=>∃q,s= .int .i64 q/\(R (.tuple #[.int .i64 q,.int .i64 0]) t))))))))):
  Pure P 71 #[.agg #[.slice e f g,.slice a b c],.slice i j l] w R:=
 pure_of_run (cargo_Overloaded.cx w w.heap.size R) 100000 follows Tryz.func71 rfl rfl rfl rfl rfl rfl rfl (Eq.mp (by kernel_rfl) h)

def cargo_From.L8(a:Option Addr)(b c:Nat)(d:Option Addr)(e f:Nat)(g i:Int)(j:Option Addr)(l m:Nat)(n:Option Addr)(o p B:Nat)(w:World)(R:Value->World->Prop):Prop:=At Tryz.prog 79 108 (loopAt Tryz.f79 8) [(1,.v (.slice a b c)),(2,.loc 2 0),(33,.v (.slice d e f)),(34,.v (.int .i64 g)),(35,.v (.int .i64 i))] [⟨2,false,25,[(.slice j l m),(.slice n o p)]⟩] B w R
def cargo_From.L12(a:Option Addr)(b c:Nat)(d:Int)(e:Option Addr)(f g:Nat)(i j:Int)(l:Option Addr)(m n:Nat)(o p:Int)(q:Option Addr)(r s:Nat)(t:Option Addr)(u v B:Nat)(w:World)(R:Value->World->Prop):Prop:=At Tryz.prog 79 108 (loopAt Tryz.f79 12) [(1,.v (.slice a b c)),(2,.loc 2 0),(8,.v (.int .i64 d)),(33,.v (.slice e f g)),(34,.v (.int .i64 i)),(35,.v (.int .i64 j)),(54,.v (.slice l m n)),(55,.v (.int .i64 o)),(56,.v (.int .i64 p))] [⟨2,false,25,[(.slice q r s),(.slice t u v)]⟩] B w R
def cargo_From.L21(a:Option Addr)(b c:Nat)(d:Option Addr)(e f:Nat)(g:Option Addr)(i j:Nat)(l m:Int)(n:Option Addr)(o p:Nat)(q:Option Addr)(r s B:Nat)(w:World)(R:Value->World->Prop):Prop:=At Tryz.prog 79 108 (loopAt Tryz.f79 21) [(1,.v (.slice a b c)),(2,.loc 2 0),(11,.v (.slice d e f)),(69,.v (.slice g i j)),(70,.v (.int .i64 l)),(71,.v (.int .i64 m))] [⟨2,false,25,[(.slice n o p),(.slice q r s)]⟩] B w R
def cargo_From.L24(a:Option Addr)(b c:Nat)(d:Option Addr)(e f:Nat)(g:Int)(i:Option Addr)(j l:Nat)(m n:Int)(o:Option Addr)(p q:Nat)(r s:Int)(t:Option Addr)(u v:Nat)(x:Option Addr)(y z:Nat)(A:Int)(C D E G H I:ByteArray)(B:Nat)(w:World)(R:Value->World->Prop):Prop:=At Tryz.prog 79 108 (loopAt Tryz.f79 24) [(1,.v (.slice a b c)),(2,.loc 2 0),(11,.v (.slice d e f)),(12,.v (.int .i64 g)),(13,.loc 13 0),(69,.v (.slice i j l)),(70,.v (.int .i64 m)),(71,.v (.int .i64 n)),(77,.v (.slice o p q)),(78,.v (.int .i64 r)),(79,.v (.int .i64 s))] [⟨2,false,25,[(.slice t u v),(.slice x y z)]⟩,⟨13,false,61,[(.int .i64 A),(.string C),(.string D),(.string E),(.string G),(.string H),(.string I)]⟩] B w R
noncomputable def cargo_From.cx(w:World)(B:Nat)(R:Value->World->Prop):Cx:=⟨Tryz.prog,79,108,Tryz.f79.results.toList,[((true,8),[1,2,33,34,35],[2]),((true,12),[1,2,8,33,34,35,54,55,56],[2]),((true,21),[1,2,11,69,70,71],[2]),((true,24),[1,2,11,12,13,69,70,71,77,78,79],[2,13])],[(28,7,2),(28,8,2)],w,B,R⟩
theorem cargo_From.L8.step(d:Option Addr)(i c:Nat)(j:Option Addr)(l p:Nat)(e a:Int)(m:Option Addr)(n o:Nat)(f:Option Addr)(b g B:Nat)(w:World)(R:Value->World->Prop)
  (h:(((a<e)->((0<=a/\a<l)/\∃q,j=some q/\(∃t r u v x y z,CellsAt w (q.add ((a).toNat*7)) [.int .i64 t,.int .i64 r,.int .i64 u,.string v,.string x,.string y,.string z]/\(inR .i64 (a*(b:Int))/\(inR .i64 (a+1)/\(inR .i64 ((a+1)*(b:Int))/\((0<=(a*(b:Int))/\(a*(b:Int))<=((a+1)*(b:Int))/\((a+1)*(b:Int))<=(c:Int))/\(∀s,Ext B [] w s->(cargo_From.L12 d i c r j l p e a (cutAddr d (((a*(b:Int))).toNat) c 1) ((((a+1)*(b:Int))).toNat - ((a*(b:Int))).toNat) (c - ((a*(b:Int))).toNat) ((((((a+1)*(b:Int))).toNat - ((a*(b:Int))).toNat):Nat):Int) (0:Int) m n o f b g B s R)))))))))/\(¬(a<e)->(cargo_From.L21 d i c none 0 0 f b g (b:Int) (0:Int) m n o f b g B w R)))):
  cargo_From.L8 d i c j l p e a m n o f b g B w R:=
 loop_of_run (cargo_From.cx w B R) 100000 (loopAt Tryz.f79 8) _ _ follows Tryz.func79 rfl rfl rfl (Eq.mp (by kernel_rfl) h)
theorem cargo_From.L12.step(f:Option Addr)(g i:Nat)(b:Int)(j:Option Addr)(l m:Nat)(n d:Int)(o:Option Addr)(p x:Nat)(e a:Int)(q:Option Addr)(r s:Nat)(t:Option Addr)(u v B:Nat)(w:World)(R:Value->World->Prop)
  (h:(((a<e)->((0<=a/\a<p)/\∃y,o=some y/\(∃c,CellsAt w (y.add ((a).toNat*1)) [.int .i64 c]/\(((c>b)->(R (.tuple #[.slice none 0 0,.int .i64 12]) w))/\(¬(c>b)->(inR .i64 (b - c)/\(inR .i64 (a+1)/\(cargo_From.L12 f g i (b - c) j l m n d o p x e (a+1) q r s t u v B w R))))))))/\(¬(a<e)->(inR .i64 (d+1)/\(cargo_From.L8 f g i j l m n (d+1) q r s t u v B w R))))):
  cargo_From.L12 f g i b j l m n d o p x e a q r s t u v B w R:=
 loop_of_run (cargo_From.cx w B R) 100000 (loopAt Tryz.f79 12) _ _ follows Tryz.func79 rfl rfl rfl (Eq.mp (by kernel_rfl) h)
theorem cargo_From.L21.step(m:Option Addr)(n o:Nat)(d:Option Addr)(e f:Nat)(g:Option Addr)(i p:Nat)(b a:Int)(j:Option Addr)(c l:Nat)(q:Option Addr)(r s B:Nat)(w:World)(R:Value->World->Prop)
  (h:(((a<b)->((0<=a/\a<i)/\∃t,g=some t/\(∃u v x y z A C,CellsAt w (t.add ((a).toNat*7)) [.int .i64 u,.string v,.string x,.string y,.string z,.string A,.string C]/\(∀D,Ext B [] w D->(cargo_From.L24 m n o d e f a g i p b a j c l (c:Int) (0:Int) j c l q r s u v x y z A C B D R)))))/\(¬(a<b)->(R (.tuple #[.slice d e f,.int .i64 0]) w)))):
  cargo_From.L21 m n o d e f g i p b a j c l q r s B w R:=
 loop_of_run (cargo_From.cx w B R) 100000 (loopAt Tryz.f79 21) _ _ follows Tryz.func79 rfl rfl rfl (Eq.mp (by kernel_rfl) h)
theorem cargo_From.L24.step(d:Option Addr)(e i:Nat)(j:Option Addr)(l m:Nat)(c:Int)(n:Option Addr)(o p:Nat)(q f:Int)(r:Option Addr)(s D:Nat)(g a:Int)(t:Option Addr)(u v:Nat)(x:Option Addr)(b y:Nat)(z:Int)(E G H I J K:ByteArray)(B:Nat)(w:World)(R:Value->World->Prop)
  (h:(((a<g)->((0<=a/\a<s)/\∃L,r=some L/\(∃M X Y Z a0 a1 a2,CellsAt w (L.add ((a).toNat*7)) [.int .i64 M,.int .i64 X,.int .i64 Y,.string Z,.string a0,.string a1,.string a2]/\(inR .i64 (a*(b:Int))/\(inR .i64 ((a*(b:Int))+c)/\((0<=((a*(b:Int))+c)/\((a*(b:Int))+c)<e)/\∃N,d=some N/\(∀A,Ext B [] w A->(∃C,CellsAt A (N.add ((((a*(b:Int))+c)).toNat*1)) [.int .i64 C]/\(((C>0)->(RunOk P (Instr.buildSlice 29 1 #[(0,(.agg #[.int .i64 z,.int .i64 M,.int .i64 C]))]) B [65,25,61] A fun a3 a4=>∃O Q S,a3= .slice O Q S/\(RunOk P (Builtin.append_ #[29,29] 29 #[.slice j l m,.slice O Q S]) B [65,25,61] a4 fun a5 a6=>∃T U V,a5= .slice T U V/\(inR .i64 (a+1)/\(cargo_From.L24 d e i T U V c n o p q f r s D g (a+1) t u v x b y z E G H I J K B a6 R)))))/\(¬(C>0)->(inR .i64 (a+1)/\(cargo_From.L24 d e i j l m c n o p q f r s D g (a+1) t u v x b y z E G H I J K B A R))))))))))))/\(¬(a<g)->(inR .i64 (f+1)/\(cargo_From.L21 d e i j l m n o p q (f+1) t u v x b y B w R))))):
  cargo_From.L24 d e i j l m c n o p q f r s D g a t u v x b y z E G H I J K B w R:=
 loop_of_run (cargo_From.cx w B R) 100000 (loopAt Tryz.f79 24) _ _ follows Tryz.func79 rfl rfl rfl (Eq.mp (by kernel_rfl) h)
theorem cargo_From.vc(d:Option Addr)(a e:Nat)(f:Option Addr)(b g:Nat)(i:Option Addr)(c j:Nat)(w:World)(R:Value->World->Prop)
  (h:(∀o,Ext w.heap.size [] w o->(Pure P 86 #[.agg #[.slice d a e,.slice f b g]] o fun q l=>∃m,q= .int .i64 m/\(((m≠0)->(R (.tuple #[.slice none 0 0,.int .i64 1]) l))/\(¬(m≠0)->(inR .i64 ((a:Int)*(b:Int))/\((((c:Int)≠((a:Int)*(b:Int)))->(R (.tuple #[.slice none 0 0,.int .i64 10]) l))/\(¬((c:Int)≠((a:Int)*(b:Int)))->(Pure P 114 #[.slice i c j,(.func (.func 115) #[] #[])] l fun r p=>∃n,r= .bool n/\((n=true->(R (.tuple #[.slice none 0 0,.int .i64 2]) p))/\(n=false->(cargo_From.L8 i c j d a e (a:Int) (0:Int) d a e f b g w.heap.size p R)))))))))))):
  Pure P 79 #[.agg #[.slice d a e,.slice f b g],.slice i c j] w R:=
 pure_of_run (cargo_From.cx w w.heap.size R) 100000 follows Tryz.func79 rfl rfl rfl rfl rfl rfl rfl (Eq.mp (by kernel_rfl) h)

def cargo_Check.L2(a:Option Addr)(b c:Nat)(d e:Int)(f:Option Addr)(g i:Nat)(j:Option Addr)(l m B:Nat)(w:World)(R:Value->World->Prop):Prop:=At Tryz.prog 86 166 (loopAt Tryz.f86 2) [(1,.loc 1 0),(12,.v (.slice a b c)),(13,.v (.int .i64 d)),(14,.v (.int .i64 e))] [⟨1,false,25,[(.slice f g i),(.slice j l m)]⟩] B w R
def cargo_Check.L8(a:Option Addr)(b c:Nat)(d e:Int)(f:Option Addr)(g i:Nat)(j:Option Addr)(l m B:Nat)(w:World)(R:Value->World->Prop):Prop:=At Tryz.prog 86 166 (loopAt Tryz.f86 8) [(1,.loc 1 0),(29,.v (.slice a b c)),(30,.v (.int .i64 d)),(31,.v (.int .i64 e))] [⟨1,false,25,[(.slice f g i),(.slice j l m)]⟩] B w R
def cargo_Check.L16(a:Option Addr)(b c:Nat)(d e:Int)(f:Option Addr)(g i:Nat)(j:Option Addr)(l m B:Nat)(w:World)(R:Value->World->Prop):Prop:=At Tryz.prog 86 166 (loopAt Tryz.f86 16) [(1,.loc 1 0),(63,.v (.slice a b c)),(64,.v (.int .i64 d)),(65,.v (.int .i64 e))] [⟨1,false,25,[(.slice f g i),(.slice j l m)]⟩] B w R
def cargo_Check.L26(a:Option Addr)(b c:Nat)(d e:Int)(f:Option Addr)(g i:Nat)(j:Option Addr)(l m B:Nat)(w:World)(R:Value->World->Prop):Prop:=At Tryz.prog 86 166 (loopAt Tryz.f86 26) [(1,.loc 1 0),(124,.v (.slice a b c)),(125,.v (.int .i64 d)),(126,.v (.int .i64 e))] [⟨1,false,25,[(.slice f g i),(.slice j l m)]⟩] B w R
noncomputable def cargo_Check.cx(w:World)(B:Nat)(R:Value->World->Prop):Cx:=⟨Tryz.prog,86,166,Tryz.f86.results.toList,[((true,2),[1,12,13,14],[1]),((true,8),[1,29,30,31],[1]),((true,16),[1,63,64,65],[1]),((true,26),[1,124,125,126],[1])],[(4,6,2),(10,13,2)],w,B,R⟩
theorem cargo_Check.L2.step(f:Option Addr)(g n:Nat)(c a:Int)(i:Option Addr)(j l:Nat)(d:Option Addr)(b e B:Nat)(w:World)(R:Value->World->Prop)
  (h:(((a<c)->((0<=a/\a<g)/\∃o,f=some o/\(∃y z A C p q r,CellsAt w (o.add ((a).toNat*7)) [.int .i64 y,.int .i64 z,.int .i64 A,.string C,.string p,.string q,.string r]/\(∀s,Ext B [] w s->(RunOk P (Instr.buildSlice 85 3 #[(0,(.string p)),(1,(.string q)),(2,(.string r))]) B [65,25] s fun D E=>∃t u v,D= .slice t u v/\(Pure P 120 #[.slice t u v] E fun G x=>∃m,G= .bool m/\(((m=false)->(R (.int .i64 1) x))/\(¬(m=false)->(inR .i64 (a+1)/\(cargo_Check.L2 f g n c (a+1) i j l d b e B x R))))))))))/\(¬(a<c)->(cargo_Check.L8 d b e (b:Int) (0:Int) i j l d b e B w R)))):
  cargo_Check.L2 f g n c a i j l d b e B w R:=
 loop_of_run (cargo_Check.cx w B R) 100000 (loopAt Tryz.f86 2) _ _ follows Tryz.func86 rfl rfl rfl (Eq.mp (by kernel_rfl) h)
theorem cargo_Check.L8.step(g:Option Addr)(i n:Nat)(d a:Int)(e:Option Addr)(b f:Nat)(j:Option Addr)(c l B:Nat)(w:World)(R:Value->World->Prop)
  (h:(((a<d)->((0<=a/\a<i)/\∃o,g=some o/\(∃A C p q r s t,CellsAt w (o.add ((a).toNat*7)) [.int .i64 A,.string C,.string p,.string q,.string r,.string s,.string t]/\(∀u,Ext B [] w u->(RunOk P (Instr.buildSlice 85 5 #[(0,(.string p)),(1,(.string q)),(2,(.string r)),(3,(.string s)),(4,(.string t))]) B [61,25] u fun D E=>∃v x y,D= .slice v x y/\(Pure P 120 #[.slice v x y] E fun G z=>∃m,G= .bool m/\(((m=false)->(R (.int .i64 1) z))/\(¬(m=false)->(inR .i64 (a+1)/\(cargo_Check.L8 g i n d (a+1) e b f j c l B z R))))))))))/\(¬(a<d)->((((b:Int)>6)->(R (.int .i64 8) w))/\(¬((b:Int)>6)->((((c:Int)>6)->(R (.int .i64 8) w))/\(¬((c:Int)>6)->(cargo_Check.L16 e b f (b:Int) (0:Int) e b f j c l B w R)))))))):
  cargo_Check.L8 g i n d a e b f j c l B w R:=
 loop_of_run (cargo_Check.cx w B R) 100000 (loopAt Tryz.f86 8) _ _ follows Tryz.func86 rfl rfl rfl (Eq.mp (by kernel_rfl) h)
theorem cargo_Check.L16.step(j:Option Addr)(l o:Nat)(c a:Int)(d:Option Addr)(e m:Nat)(f:Option Addr)(b g B:Nat)(w:World)(R:Value->World->Prop)
  (h:(((a<c)->((0<=a/\a<l)/\∃y,j=some y/\(∃n z A C D E G,CellsAt w (y.add ((a).toNat*7)) [.int .i64 n,.int .i64 z,.int .i64 A,.string C,.string D,.string E,.string G]/\(∀H,Ext B [] w H->(Pure P 121 #[.int .i64 n,.int .i64 1073741824] H fun U I=>∃p,U= .bool p/\(((p=false)->(R (.int .i64 2) I))/\(¬(p=false)->(Pure P 121 #[.int .i64 z,.int .i64 9] I fun V J=>∃q,V= .bool q/\(((q=false)->(R (.int .i64 2) J))/\(¬(q=false)->(Pure P 121 #[.int .i64 A,.int .i64 9] J fun X K=>∃r,X= .bool r/\(((r=false)->(R (.int .i64 2) K))/\(¬(r=false)->(Pure P 122 #[.string D] K fun Y L=>∃s,Y= .int .i64 s/\(((s<=(0:Int))->(R (.int .i64 2) L))/\(¬(s<=(0:Int))->(Pure P 122 #[.string E] L fun Z M=>∃t,Z= .int .i64 t/\(((t<=(0:Int))->(R (.int .i64 2) M))/\(¬(t<=(0:Int))->(Pure P 122 #[.string G] M fun a0 N=>∃u,a0= .int .i64 u/\(((u<0)->(R (.int .i64 2) N))/\(¬(u<0)->(Pure P 123 #[.string C] N fun a1 i=>∃v,a1= .bool v/\(((v=false)->(R (.int .i64 4) i))/\(¬(v=false)->(((a>0)->(inR .i64 (a - (1:Int))/\((0<=(a - (1:Int))/\(a - (1:Int))<e)/\∃O,d=some O/\(∃x,CellsAt i ((O.add (((a - (1:Int))).toNat*7)).add 0) [.int .i64 x]/\(((x≥n)->(∀Q,Ext B [] i Q->(R (.int .i64 5) Q)))/\(¬(x≥n)->(inR .i64 (a+1)/\(∀S,Ext B [] i S->(cargo_Check.L16 j l o c (a+1) d e m f b g B S R)))))))))/\(¬(a>0)->(inR .i64 (a+1)/\(∀T,Ext B [] i T->(cargo_Check.L16 j l o c (a+1) d e m f b g B T R))))))))))))))))))))))))))))))/\(¬(a<c)->(cargo_Check.L26 f b g (b:Int) (0:Int) d e m f b g B w R)))):
  cargo_Check.L16 j l o c a d e m f b g B w R:=
 loop_of_run (cargo_Check.cx w B R) 100000 (loopAt Tryz.f86 16) _ _ follows Tryz.func86 rfl rfl rfl (Eq.mp (by kernel_rfl) h)
theorem cargo_Check.L26.step(d:Option Addr)(e j:Nat)(b a:Int)(l:Option Addr)(m n:Nat)(f:Option Addr)(g o B:Nat)(w:World)(R:Value->World->Prop)
  (h:(((a<b)->((0<=a/\a<e)/\∃u,d=some u/\(∃i v x y J K L,CellsAt w (u.add ((a).toNat*7)) [.int .i64 i,.string v,.string x,.string y,.string J,.string K,.string L]/\(∀z,Ext B [] w z->(Pure P 121 #[.int .i64 i,.int .i64 1073741824] z fun M A=>∃p,M= .bool p/\(((p=false)->(R (.int .i64 2) A))/\(¬(p=false)->(Pure P 122 #[.string x] A fun N C=>∃q,N= .int .i64 q/\(((q<0)->(R (.int .i64 2) C))/\(¬(q<0)->(Pure P 122 #[.string y] C fun O D=>∃r,O= .int .i64 r/\(((r<0)->(R (.int .i64 2) D))/\(¬(r<0)->(Pure P 123 #[.string v] D fun Q c=>∃s,Q= .bool s/\(((s=false)->(R (.int .i64 4) c))/\(¬(s=false)->(((a>0)->(inR .i64 (a - (1:Int))/\((0<=(a - (1:Int))/\(a - (1:Int))<g)/\∃E,f=some E/\(∃t,CellsAt c ((E.add (((a - (1:Int))).toNat*7)).add 0) [.int .i64 t]/\(((t≥i)->(∀G,Ext B [] c G->(R (.int .i64 5) G)))/\(¬(t≥i)->(inR .i64 (a+1)/\(∀H,Ext B [] c H->(cargo_Check.L26 d e j b (a+1) l m n f g o B H R)))))))))/\(¬(a>0)->(inR .i64 (a+1)/\(∀I,Ext B [] c I->(cargo_Check.L26 d e j b (a+1) l m n f g o B I R)))))))))))))))))))))/\(¬(a<b)->(R (.int .i64 0) w)))):
  cargo_Check.L26 d e j b a l m n f g o B w R:=
 loop_of_run (cargo_Check.cx w B R) 100000 (loopAt Tryz.f86 26) _ _ follows Tryz.func86 rfl rfl rfl (Eq.mp (by kernel_rfl) h)
theorem cargo_Check.vc(b:Option Addr)(a c:Nat)(d:Option Addr)(e f:Nat)(w:World)(R:Value->World->Prop)
  (h:(∀g,Ext w.heap.size [] w g->(cargo_Check.L2 b a c (a:Int) (0:Int) b a c d e f w.heap.size g R))):
  Pure P 86 #[.agg #[.slice b a c,.slice d e f]] w R:=
 pure_of_run (cargo_Check.cx w w.heap.size R) 100000 follows Tryz.func86 rfl rfl rfl rfl rfl rfl rfl (Eq.mp (by kernel_rfl) h)

noncomputable def cargo_find_api_Parcel.cx(w:World)(B:Nat)(R:Value->World->Prop):Cx:=⟨Tryz.prog,87,10,Tryz.f87.results.toList,[],[(1,1,5)],w,B,R⟩
theorem cargo_find_api_Parcel.vc(d:Option Addr)(e f:Nat)(g:Int)(i:Nat)(j l:Array Value)(w:World)(R:Value->World->Prop)
  (h:(∀a,Ext w.heap.size [] w a->(∀b:Nat,w.heap.size<=b->a.heap[b]? =some (.cells [.int .i64 g].toArray 3 (0,0))->(∀c:Nat,w.heap.size<=c->a.heap[c]? =some (.cells [(.func (.func i) j l)].toArray 122 (0,0))->(Pure P 111 #[.slice d e f,(.func (.func 124) #[] #[(.pointer (some (⟨c,0,none⟩:Addr))),(.pointer (some (⟨b,0,none⟩:Addr)))])] a fun n o=>∃m,n= .int .i64 m/\(R (.int .i64 m) o)))))):
  Pure P 87 #[.slice d e f,.int .i64 g,(.func (.func i) j l)] w R:=
 pure_of_run (cargo_find_api_Parcel.cx w w.heap.size R) 100000 follows Tryz.func87 rfl rfl rfl rfl rfl rfl rfl (Eq.mp (by kernel_rfl) h)

noncomputable def cargo_parcel_c1.cx(w:World)(B:Nat)(R:Value->World->Prop):Cx:=⟨Tryz.prog,88,5,Tryz.f88.results.toList,[],[],w,B,R⟩
theorem cargo_parcel_c1.vc(a c d:Int)(e f g i:ByteArray)(w:World)(R:Value->World->Prop)
  (h:(∀b,Ext w.heap.size [] w b->(R (.int .i64 a) b))):
  Pure P 88 #[.agg #[.int .i64 a,.int .i64 c,.int .i64 d,.string e,.string f,.string g,.string i]] w R:=
 pure_of_run (cargo_parcel_c1.cx w w.heap.size R) 100000 follows Tryz.func88 rfl rfl rfl rfl rfl rfl rfl (Eq.mp (by kernel_rfl) h)

noncomputable def cargo_find_api_Hold.cx(w:World)(B:Nat)(R:Value->World->Prop):Cx:=⟨Tryz.prog,89,10,Tryz.f89.results.toList,[],[(1,1,5)],w,B,R⟩
theorem cargo_find_api_Hold.vc(d:Option Addr)(e f:Nat)(g:Int)(i:Nat)(j l:Array Value)(w:World)(R:Value->World->Prop)
  (h:(∀a,Ext w.heap.size [] w a->(∀b:Nat,w.heap.size<=b->a.heap[b]? =some (.cells [.int .i64 g].toArray 3 (0,0))->(∀c:Nat,w.heap.size<=c->a.heap[c]? =some (.cells [(.func (.func i) j l)].toArray 124 (0,0))->(Pure P 101 #[.slice d e f,(.func (.func 125) #[] #[(.pointer (some (⟨c,0,none⟩:Addr))),(.pointer (some (⟨b,0,none⟩:Addr)))])] a fun n o=>∃m,n= .int .i64 m/\(R (.int .i64 m) o)))))):
  Pure P 89 #[.slice d e f,.int .i64 g,(.func (.func i) j l)] w R:=
 pure_of_run (cargo_find_api_Hold.cx w w.heap.size R) 100000 follows Tryz.func89 rfl rfl rfl rfl rfl rfl rfl (Eq.mp (by kernel_rfl) h)

noncomputable def cargo_hold_c1.cx(w:World)(B:Nat)(R:Value->World->Prop):Cx:=⟨Tryz.prog,90,5,Tryz.f90.results.toList,[],[],w,B,R⟩
theorem cargo_hold_c1.vc(a:Int)(c d e f g i:ByteArray)(w:World)(R:Value->World->Prop)
  (h:(∀b,Ext w.heap.size [] w b->(R (.int .i64 a) b))):
  Pure P 90 #[.agg #[.int .i64 a,.string c,.string d,.string e,.string f,.string g,.string i]] w R:=
 pure_of_run (cargo_hold_c1.cx w w.heap.size R) 100000 follows Tryz.func90 rfl rfl rfl rfl rfl rfl rfl (Eq.mp (by kernel_rfl) h)

noncomputable def cargo_Overloaded_c1.cx(w:World)(B:Nat)(R:Value->World->Prop):Cx:=⟨Tryz.prog,102,26,Tryz.f102.results.toList,[],[(1,9999,3)],w,B,R⟩
theorem cargo_Overloaded_c1.vc(l:Int)(Z b c a0 a1 a2:ByteArray)(v:Addr)(x:Addr)(w:World)(R:Value->World->Prop)
  (h:(∀a,Ext w.heap.size [] w a->(∃d e f g i j,CellsAt a v [.slice d e f,.slice g i j]/\(∃m n o,CellsAt a x [.slice m n o]/\((∀y,Ext w.heap.size [] a y->(Pure P 104 #[.slice m n o,.int .i64 l] y fun r7 z=>∃p q r,r7= .slice p q r/\((Pure P 103 #[.agg #[.slice d e f,.slice g i j],.slice p q r] z fun a4 a5=>∃A C a6 a7 a8 a9,a4= .agg #[.string A,.string C,.string a6,.string a7,.string a8,.string a9]/\(∀D,Ext w.heap.size [] a5 D->(Pure P 105 #[.string A,.string c] D fun b0 E=>∃s,b0= .int .i64 s/\(((s>0)->(R (.bool true) E))/\(¬(s>0)->(Pure P 105 #[.string C,.string b] E fun b1 b2=>∃G,b1= .int .i64 G/\(R (.bool (decide (G>0))) b2)))))))/\(∀H,Ext w.heap.size [] z H->(Pure P 103 #[.agg #[.slice d e f,.slice g i j],.slice p q r] H fun b3 b4=>∃I J b5 b6 b7 b8,b3= .agg #[.string I,.string J,.string b5,.string b6,.string b7,.string b8]/\(∀K,Ext w.heap.size [135] b4 K->(Pure P 105 #[.string I,.string c] K fun b9 L=>∃t,b9= .int .i64 t/\(((t>0)->(R (.bool true) L))/\(¬(t>0)->(Pure P 105 #[.string J,.string b] L fun c0 c1=>∃M,c0= .int .i64 M/\(R (.bool (decide (M>0))) c1)))))))))))/\(∀N,Ext w.heap.size [] a N->(Pure P 104 #[.slice m n o,.int .i64 l] N fun c2 c3=>∃O Q S,c2= .slice O Q S/\(Pure P 103 #[.agg #[.slice d e f,.slice g i j],.slice O Q S] c3 fun c4 c5=>∃T U c6 c7 c8 c9,c4= .agg #[.string T,.string U,.string c6,.string c7,.string c8,.string c9]/\(∀V,Ext w.heap.size [135] c5 V->(Pure P 105 #[.string T,.string c] V fun d0 X=>∃u,d0= .int .i64 u/\(((u>0)->(R (.bool true) X))/\(¬(u>0)->(Pure P 105 #[.string U,.string b] X fun d1 d2=>∃Y,d1= .int .i64 Y/\(R (.bool (decide (Y>0))) d2)))))))))))))):
  Pure P 102 #[.agg #[.int .i64 l,.string Z,.string b,.string c,.string a0,.string a1,.string a2],(.pointer (some v)),(.pointer (some x))] w R:=
 pure_of_run (cargo_Overloaded_c1.cx w w.heap.size R) 100000 follows Tryz.func102 rfl rfl rfl rfl rfl rfl rfl (Eq.mp (by kernel_rfl) h)

def cargo_laden.L3(a:Option Addr)(b c:Nat)(d e:Int)(f:Option Addr)(g i:Nat)(j:Option Addr)(l m:Nat)(n o p q r s t u v x y z:ByteArray)(B:Nat)(w:World)(R:Value->World->Prop):Prop:=At Tryz.prog 103 93 (loopAt Tryz.f103 3) [(2,.loc 2 0),(4,.loc 4 0),(5,.loc 5 0),(14,.v (.slice a b c)),(15,.v (.int .i64 d)),(16,.v (.int .i64 e))] [⟨2,false,25,[(.slice f g i),(.slice j l m)]⟩,⟨4,false,135,[(.string n),(.string o),(.string p),(.string q),(.string r),(.string s)]⟩,⟨5,false,135,[(.string t),(.string u),(.string v),(.string x),(.string y),(.string z)]⟩] B w R
def cargo_laden.J6(a:Option Addr)(b c:Nat)(d e:Int)(f:Option Addr)(g i:Nat)(j:Option Addr)(l m:Nat)(n o p q r s t u v x y z:ByteArray)(A C D E G H:Int)(I J K L M N O:ByteArray)(B:Nat)(w:World)(R:Value->World->Prop):Prop:=At Tryz.prog 103 93 (regionAt Tryz.f103 6) [(2,.loc 2 0),(4,.loc 4 0),(5,.loc 5 0),(7,.loc 7 0),(8,.loc 8 0),(9,.loc 9 0),(14,.v (.slice a b c)),(15,.v (.int .i64 d)),(16,.v (.int .i64 e))] [⟨2,false,25,[(.slice f g i),(.slice j l m)]⟩,⟨4,false,135,[(.string n),(.string o),(.string p),(.string q),(.string r),(.string s)]⟩,⟨5,false,135,[(.string t),(.string u),(.string v),(.string x),(.string y),(.string z)]⟩,⟨7,false,39,[(.int .i64 A),(.int .i64 C),(.int .i64 D)]⟩,⟨8,false,65,[(.int .i64 E),(.int .i64 G),(.int .i64 H),(.string I),(.string J),(.string K),(.string L)]⟩,⟨9,false,59,[(.string M),(.string N),(.string O)]⟩] B w R
noncomputable def cargo_laden.cx(w:World)(B:Nat)(R:Value->World->Prop):Cx:=⟨Tryz.prog,103,93,Tryz.f103.results.toList,[((true,3),[2,4,5,14,15,16],[2,4,5]),((false,6),[2,4,5,7,8,9,14,15,16],[2,4,5,7,8,9])],[(5,9998,8),(5,9999,3)],w,B,R⟩
theorem cargo_laden.L3.step(m:Option Addr)(n u:Nat)(j e:Int)(c:Option Addr)(d f:Nat)(a:Option Addr)(b g:Nat)(v x y z A C o p q r s t:ByteArray)(B:Nat)(w:World)(R:Value->World->Prop)
  (h:(((e<j)->((0<=e/\e<n)/\∃a2,m=some a2/\(∃i l D,CellsAt w (a2.add ((e).toNat*3)) [.int .i64 i,.int .i64 l,.int .i64 D]/\(∀N,Ext B [] w N->((∀w7,Ext B [] N w7->(Pure P 62 #[.agg #[.slice c d f,.slice a b g],.int .i64 l] w7 fun r9 b5=>∃S,r9= .int .i64 S/\((0<=S/\S<d)/\∃b6,c=some b6/\(∃G H I J K L M,CellsAt N (b6.add ((S).toNat*7)) [.int .i64 G,.int .i64 H,.int .i64 I,.string J,.string K,.string L,.string M]/\((∀b7,Ext B [] b5 b7->(Pure P 63 #[.agg #[.slice c d f,.slice a b g],.int .i64 i] b7 fun f5 b8=>∃O,f5= .int .i64 O/\((0<=O/\O<b)/\∃U,a=some U/\((∀V,Ext B [] b8 V->(∃b9 c0 c1,CellsAt V ((U.add ((O).toNat*7)).add 4) [.string b9,.string c0,.string c1]/\(∀c2,Ext B [65,59] V c2->(cargo_laden.J6 m n u j e c d f a b g v x y z A C o p q r s t i l D G H I J K L M b9 c0 c1 B c2 R))))/\(∀X,Ext B [65] b8 X->(∃c3 c4 c5,CellsAt X ((U.add ((O).toNat*7)).add 4) [.string c3,.string c4,.string c5]/\(∀c6,Ext B [59] X c6->(cargo_laden.J6 m n u j e c d f a b g v x y z A C o p q r s t i l D G H I J K L M c3 c4 c5 B c6 R))))))))/\(∀c7,Ext B [] b5 c7->(Pure P 63 #[.agg #[.slice c d f,.slice a b g],.int .i64 i] c7 fun f6 Y=>∃E,f6= .int .i64 E/\(((0<=E/\E<b)/\∃Z,a=some Z/\((∀a0,Ext B [] Y a0->(∃c8 c9 d0,CellsAt a0 ((Z.add ((E).toNat*7)).add 4) [.string c8,.string c9,.string d0]/\(∀d1,Ext B [65,59] a0 d1->(cargo_laden.J6 m n u j e c d f a b g v x y z A C o p q r s t i l D G H I J K L M c8 c9 d0 B d1 R))))/\(∀a1,Ext B [65] Y a1->(∃d2 d3 d4,CellsAt a1 ((Z.add ((E).toNat*7)).add 4) [.string d2,.string d3,.string d4]/\(∀d5,Ext B [59] a1 d5->(cargo_laden.J6 m n u j e c d f a b g v x y z A C o p q r s t i l D G H I J K L M d2 d3 d4 B d5 R))))))/\((0<=E/\E<b)/\∃d6,a=some d6/\(∀a2,Ext B [65] Y a2->(∃d7 d8 d9,CellsAt a2 ((d6.add ((E).toNat*7)).add 4) [.string d7,.string d8,.string d9]/\(∀e0,Ext B [59] a2 e0->(cargo_laden.J6 m n u j e c d f a b g v x y z A C o p q r s t i l D G H I J K L M d7 d8 d9 B e0 R)))))))))))))/\(∀e1,Ext B [] N e1->(Pure P 62 #[.agg #[.slice c d f,.slice a b g],.int .i64 l] e1 fun f7 f8=>∃T,f7= .int .i64 T/\((0<=T/\T<d)/\∃e2,c=some e2/\(∃a3 a4 a5 a6 a7 a8 a9,CellsAt N (e2.add ((T).toNat*7)) [.int .i64 a3,.int .i64 a4,.int .i64 a5,.string a6,.string a7,.string a8,.string a9]/\(∀e3,Ext B [] f8 e3->(Pure P 63 #[.agg #[.slice c d f,.slice a b g],.int .i64 i] e3 fun f9 e4=>∃Q,f9= .int .i64 Q/\((0<=Q/\Q<b)/\∃b0,a=some b0/\((∀b1,Ext B [] e4 b1->(∃e5 e6 e7,CellsAt b1 ((b0.add ((Q).toNat*7)).add 4) [.string e5,.string e6,.string e7]/\(∀e8,Ext B [65,59] b1 e8->(cargo_laden.J6 m n u j e c d f a b g v x y z A C o p q r s t i l D a3 a4 a5 a6 a7 a8 a9 e5 e6 e7 B e8 R))))/\(∀b2,Ext B [65] e4 b2->(∃e9 f0 f1,CellsAt b2 ((b0.add ((Q).toNat*7)).add 4) [.string e9,.string f0,.string f1]/\(∀f2,Ext B [59] b2 f2->(cargo_laden.J6 m n u j e c d f a b g v x y z A C o p q r s t i l D a3 a4 a5 a6 a7 a8 a9 e9 f0 f1 B f2 R)))))))))))))))))/\(¬(e<j)->(∀f3,Ext B [135] w f3->(R (.agg #[.string o,.string p,.string q,.string r,.string s,.string t]) f3))))):
  cargo_laden.L3 m n u j e c d f a b g v x y z A C o p q r s t B w R:=
 loop_of_run (cargo_laden.cx w B R) 100000 (loopAt Tryz.f103 3) _ _ follows Tryz.func103 rfl rfl rfl (Eq.mp (by kernel_rfl) h)
theorem cargo_laden.J6.step(d:Option Addr)(e f:Nat)(g c:Int)(i:Option Addr)(j l:Nat)(m:Option Addr)(n o:Nat)(p q r s t u v x y z A C:ByteArray)(a2 a3 D a4 a5 a6:Int)(a7 E G H I J K:ByteArray)(B:Nat)(w:World)(R:Value->World->Prop)
  (h:(Pure P 136 #[.int .i64 D] w fun a8 a9=>∃b,a8= .string b/\(Pure P 137 #[.string b,.string E] a9 fun b0 b1=>∃a,b0= .string a/\(∀L,Ext B [] b1 L->(Pure P 138 #[.string v,.string a] L fun b2 b3=>∃M,b2= .string M/\(Pure P 137 #[.string b,.string G] b3 fun b4 b5=>∃N,b4= .string N/\(Pure P 138 #[.string x,.string N] b5 fun b6 b7=>∃O,b6= .string O/\(Pure P 137 #[.string b,.string H] b7 fun b8 b9=>∃Q,b8= .string Q/\(Pure P 138 #[.string y,.string Q] b9 fun c0 c1=>∃S,c0= .string S/\(∀T,Ext B [135] c1 T->(Pure P 137 #[.string a,.string I] T fun c2 c3=>∃U,c2= .string U/\(Pure P 138 #[.string z,.string U] c3 fun c4 c5=>∃V,c4= .string V/\(Pure P 137 #[.string a,.string J] c5 fun c6 c7=>∃X,c6= .string X/\(Pure P 138 #[.string A,.string X] c7 fun c8 c9=>∃Y,c8= .string Y/\(Pure P 137 #[.string a,.string K] c9 fun d0 d1=>∃Z,d0= .string Z/\(Pure P 138 #[.string C,.string Z] d1 fun d2 d3=>∃a0,d2= .string a0/\(inR .i64 (c+1)/\(∀a1,Ext B [135] d3 a1->(cargo_laden.L3 d e f g (c+1) i j l m n o p q r s t u M O S V Y a0 B a1 R))))))))))))))))))):
  cargo_laden.J6 d e f g c i j l m n o p q r s t u v x y z A C a2 a3 D a4 a5 a6 a7 E G H I J K B w R:=
 join_of_run (cargo_laden.cx w B R) 100000 (regionAt Tryz.f103 6) _ _ follows Tryz.func103 rfl rfl rfl (Eq.mp (by kernel_rfl) h)
theorem cargo_laden.vc(b:Option Addr)(c d:Nat)(e:Option Addr)(f g:Nat)(i:Option Addr)(a j:Nat)(w:World)(R:Value->World->Prop)
  (h:(∀l,Ext w.heap.size [] w l->(cargo_laden.L3 i a j (a:Int) (0:Int) b c d e f g (⟨#[]⟩:ByteArray) (⟨#[]⟩:ByteArray) (⟨#[]⟩:ByteArray) (⟨#[]⟩:ByteArray) (⟨#[]⟩:ByteArray) (⟨#[]⟩:ByteArray) (⟨#[48]⟩:ByteArray) (⟨#[48]⟩:ByteArray) (⟨#[48]⟩:ByteArray) (⟨#[48]⟩:ByteArray) (⟨#[48]⟩:ByteArray) (⟨#[48]⟩:ByteArray) w.heap.size l R))):
  Pure P 103 #[.agg #[.slice b c d,.slice e f g],.slice i a j] w R:=
 pure_of_run (cargo_laden.cx w w.heap.size R) 100000 follows Tryz.func103 rfl rfl rfl rfl rfl rfl rfl (Eq.mp (by kernel_rfl) h)

noncomputable def cargo_in.cx(w:World)(B:Nat)(R:Value->World->Prop):Cx:=⟨Tryz.prog,104,9,Tryz.f104.results.toList,[],[(1,2,5),(1,3,6)],w,B,R⟩
theorem cargo_in.vc(c:Option Addr)(d e:Nat)(f:Int)(w:World)(R:Value->World->Prop)
  (h:(∀g,Ext w.heap.size [] w g->(Pure P 14 #[.slice c d e] g fun q a=>∃i j l,q= .slice i j l/\(∀b:Nat,w.heap.size<=b->a.heap[b]? =some (.cells [.int .i64 f].toArray 3 (0,0))->(PureB P 139 #[.slice i j l,(.func (.func 140) #[] #[(.pointer (some (⟨b,0,none⟩:Addr)))])] w.heap.size a fun r m=>(∀(k ty:Nat)(cs:Array Value),ty∈([]:List Nat)->a.heap[k]? =some (.cells cs ty (0,0))->m.heap[k]? =a.heap[k]?)/\∃n o p,r= .slice n o p/\(R (.slice n o p) m)))))):
  Pure P 104 #[.slice c d e,.int .i64 f] w R:=
 pure_of_run (cargo_in.cx w w.heap.size R) 100000 follows Tryz.func104 rfl rfl rfl rfl rfl rfl rfl (Eq.mp (by kernel_rfl) h)

noncomputable def cargo_compare.cx(w:World)(B:Nat)(R:Value->World->Prop):Cx:=⟨Tryz.prog,105,14,Tryz.f105.results.toList,[],[],w,B,R⟩
theorem cargo_compare.vc(a b:ByteArray)(w:World)(R:Value->World->Prop)
  (h:(Pure P 141 #[.string a,.string b] w fun d e=>∃c f,d= .tuple #[.int .i64 c,.int .i64 f]/\(R (.int .i64 c) e))):
  Pure P 105 #[.string a,.string b] w R:=
 pure_of_run (cargo_compare.cx w w.heap.size R) 100000 follows Tryz.func105 rfl rfl rfl rfl rfl rfl rfl (Eq.mp (by kernel_rfl) h)

noncomputable def cargo_From_c1.cx(w:World)(B:Nat)(R:Value->World->Prop):Cx:=⟨Tryz.prog,115,5,Tryz.f115.results.toList,[],[],w,B,R⟩
theorem cargo_From_c1.vc(a:Int)(w:World)(R:Value->World->Prop)
  (h:(R (.bool (decide (a<0))) w)):
  Pure P 115 #[.int .i64 a] w R:=
 pure_of_run (cargo_From_c1.cx w w.heap.size R) 100000 follows Tryz.func115 rfl rfl rfl rfl rfl rfl rfl (Eq.mp (by kernel_rfl) h)

noncomputable def cargo_valid.cx(w:World)(B:Nat)(R:Value->World->Prop):Cx:=⟨Tryz.prog,120,6,Tryz.f120.results.toList,[],[],w,B,R⟩
theorem cargo_valid.vc(a:Option Addr)(b c:Nat)(w:World)(R:Value->World->Prop)
  (h:(Pure P 148 #[.slice a b c,(.func (.func 162) #[] #[])] w fun e f=>∃d,e= .bool d/\(R (.bool (decide (d=false))) f))):
  Pure P 120 #[.slice a b c] w R:=
 pure_of_run (cargo_valid.cx w w.heap.size R) 100000 follows Tryz.func120 rfl rfl rfl rfl rfl rfl rfl (Eq.mp (by kernel_rfl) h)

noncomputable def cargo_within.cx(w:World)(B:Nat)(R:Value->World->Prop):Cx:=⟨Tryz.prog,121,12,Tryz.f121.results.toList,[],[],w,B,R⟩
theorem cargo_within.vc(a b:Int)(w:World)(R:Value->World->Prop)
  (h:(((a≥(1:Int))->(R (.bool (decide (a<=b))) w))/\(¬(a≥(1:Int))->(R (.bool false) w)))):
  Pure P 121 #[.int .i64 a,.int .i64 b] w R:=
 pure_of_run (cargo_within.cx w w.heap.size R) 100000 follows Tryz.func121 rfl rfl rfl rfl rfl rfl rfl (Eq.mp (by kernel_rfl) h)

noncomputable def cargo_sign.cx(w:World)(B:Nat)(R:Value->World->Prop):Cx:=⟨Tryz.prog,122,5,Tryz.f122.results.toList,[],[],w,B,R⟩
theorem cargo_sign.vc(a:ByteArray)(w:World)(R:Value->World->Prop)
  (h:(Pure P 105 #[.string a,(.string ⟨#[48]⟩)] w fun c d=>∃b,c= .int .i64 b/\(R (.int .i64 b) d))):
  Pure P 122 #[.string a] w R:=
 pure_of_run (cargo_sign.cx w w.heap.size R) 100000 follows Tryz.func122 rfl rfl rfl rfl rfl rfl rfl (Eq.mp (by kernel_rfl) h)

noncomputable def cargo_named.cx(w:World)(B:Nat)(R:Value->World->Prop):Cx:=⟨Tryz.prog,123,11,Tryz.f123.results.toList,[],[],w,B,R⟩
theorem cargo_named.vc(a:ByteArray)(w:World)(R:Value->World->Prop)
  (h:(((((ByteArray.size a:Int):Int)≥(1:Int))->(R (.bool (decide (((ByteArray.size a:Int):Int)<=(64:Int)))) w))/\(¬(((ByteArray.size a:Int):Int)≥(1:Int))->(R (.bool false) w)))):
  Pure P 123 #[.string a] w R:=
 pure_of_run (cargo_named.cx w w.heap.size R) 100000 follows Tryz.func123 rfl rfl rfl rfl rfl rfl rfl (Eq.mp (by kernel_rfl) h)

noncomputable def cargo_find_api_Parcel_c1.cx(w:World)(B:Nat)(R:Value->World->Prop):Cx:=⟨Tryz.prog,124,10,Tryz.f124.results.toList,[],[(1,2,4),(1,9999,3)],w,B,R⟩
theorem cargo_find_api_Parcel_c1.vc(c d e:Int)(f g i j:ByteArray)(l:Addr)(m:Addr)(w:World)(R:Value->World->Prop)
  (h:(∀a,Ext w.heap.size [] w a->(∃(b:Nat)(n o:Array Value),CellsAt a l [(.func (.func b) n o)]/\(∃p,CellsAt a m [.int .i64 p]/\(callable P b=true/\(∀q,Ext w.heap.size [] a q->(Pure P b ((Array.toList n)++([.agg #[.int .i64 c,.int .i64 d,.int .i64 e,.string f,.string g,.string i,.string j]]:List Value)++(Array.toList o)).toArray q fun s t=>∃r,s= .int .i64 r/\(R (.bool (decide (r=p))) t)))))))):
  Pure P 124 #[.agg #[.int .i64 c,.int .i64 d,.int .i64 e,.string f,.string g,.string i,.string j],(.pointer (some l)),(.pointer (some m))] w R:=
 pure_of_run (cargo_find_api_Parcel_c1.cx w w.heap.size R) 100000 follows Tryz.func124 rfl rfl rfl rfl rfl rfl rfl (Eq.mp (by kernel_rfl) h)

noncomputable def cargo_find_api_Hold_c1.cx(w:World)(B:Nat)(R:Value->World->Prop):Cx:=⟨Tryz.prog,125,10,Tryz.f125.results.toList,[],[(1,2,4),(1,9999,3)],w,B,R⟩
theorem cargo_find_api_Hold_c1.vc(c:Int)(d e f g i j:ByteArray)(l:Addr)(m:Addr)(w:World)(R:Value->World->Prop)
  (h:(∀a,Ext w.heap.size [] w a->(∃(b:Nat)(n o:Array Value),CellsAt a l [(.func (.func b) n o)]/\(∃p,CellsAt a m [.int .i64 p]/\(callable P b=true/\(∀q,Ext w.heap.size [] a q->(Pure P b ((Array.toList n)++([.agg #[.int .i64 c,.string d,.string e,.string f,.string g,.string i,.string j]]:List Value)++(Array.toList o)).toArray q fun s t=>∃r,s= .int .i64 r/\(R (.bool (decide (r=p))) t)))))))):
  Pure P 125 #[.agg #[.int .i64 c,.string d,.string e,.string f,.string g,.string i,.string j],(.pointer (some l)),(.pointer (some m))] w R:=
 pure_of_run (cargo_find_api_Hold_c1.cx w w.heap.size R) 100000 follows Tryz.func125 rfl rfl rfl rfl rfl rfl rfl (Eq.mp (by kernel_rfl) h)

noncomputable def cargo_Held.cx(w:World)(B:Nat)(R:Value->World->Prop):Cx:=⟨Tryz.prog,129,23,Tryz.f129.results.toList,[],[],w,B,R⟩
theorem cargo_Held.vc(a:Option Addr)(b c:Nat)(d:Option Addr)(e f:Nat)(g:Option Addr)(i j:Nat)(l:Int)(w:World)(R:Value->World->Prop)
  (h:(∀o,Ext w.heap.size [] w o->(Pure P 61 #[.agg #[.slice a b c,.slice d e f],.slice g i j] o fun H p=>∃m,H= .int .i64 m/\(((m≠0)->(∀q,Ext w.heap.size [135] p q->(R (.tuple #[(.agg #[(.string ⟨#[]⟩),(.string ⟨#[]⟩),(.string ⟨#[]⟩),(.string ⟨#[]⟩),(.string ⟨#[]⟩),(.string ⟨#[]⟩)]),.int .i64 1]) q)))/\(¬(m≠0)->(Pure P 63 #[.agg #[.slice a b c,.slice d e f],.int .i64 l] p fun I r=>∃n,I= .int .i64 n/\(((n<0)->(∀s,Ext w.heap.size [135] r s->(R (.tuple #[(.agg #[(.string ⟨#[]⟩),(.string ⟨#[]⟩),(.string ⟨#[]⟩),(.string ⟨#[]⟩),(.string ⟨#[]⟩),(.string ⟨#[]⟩)]),.int .i64 7]) s)))/\(¬(n<0)->(∀t,Ext w.heap.size [] r t->(Pure P 104 #[.slice g i j,.int .i64 l] t fun J K=>∃u v x,J= .slice u v x/\(Pure P 103 #[.agg #[.slice a b c,.slice d e f],.slice u v x] K fun L M=>∃y z A C D E,L= .agg #[.string y,.string z,.string A,.string C,.string D,.string E]/\(∀G,Ext w.heap.size [135] M G->(R (.tuple #[.agg #[.string y,.string z,.string A,.string C,.string D,.string E],.int .i64 0]) G))))))))))))):
  Pure P 129 #[.agg #[.slice a b c,.slice d e f],.slice g i j,.int .i64 l] w R:=
 pure_of_run (cargo_Held.cx w w.heap.size R) 100000 follows Tryz.func129 rfl rfl rfl rfl rfl rfl rfl (Eq.mp (by kernel_rfl) h)

noncomputable def cargo_number.cx(w:World)(B:Nat)(R:Value->World->Prop):Cx:=⟨Tryz.prog,136,5,Tryz.f136.results.toList,[],[],w,B,R⟩
theorem cargo_number.vc(a:Int)(w:World)(R:Value->World->Prop)
  (h:(Pure P 169 #[.int .i64 a] w fun c d=>∃b,c= .string b/\(R (.string b) d))):
  Pure P 136 #[.int .i64 a] w R:=
 pure_of_run (cargo_number.cx w w.heap.size R) 100000 follows Tryz.func136 rfl rfl rfl rfl rfl rfl rfl (Eq.mp (by kernel_rfl) h)

noncomputable def cargo_mul.cx(w:World)(B:Nat)(R:Value->World->Prop):Cx:=⟨Tryz.prog,137,14,Tryz.f137.results.toList,[],[],w,B,R⟩
theorem cargo_mul.vc(a b:ByteArray)(w:World)(R:Value->World->Prop)
  (h:(Pure P 166 #[.string a,.string b] w fun d e=>∃c f,d= .tuple #[.string c,.int .i64 f]/\(R (.string c) e))):
  Pure P 137 #[.string a,.string b] w R:=
 pure_of_run (cargo_mul.cx w w.heap.size R) 100000 follows Tryz.func137 rfl rfl rfl rfl rfl rfl rfl (Eq.mp (by kernel_rfl) h)

noncomputable def cargo_add.cx(w:World)(B:Nat)(R:Value->World->Prop):Cx:=⟨Tryz.prog,138,14,Tryz.f138.results.toList,[],[],w,B,R⟩
theorem cargo_add.vc(a b:ByteArray)(w:World)(R:Value->World->Prop)
  (h:(Pure P 165 #[.string a,.string b] w fun d e=>∃c f,d= .tuple #[.string c,.int .i64 f]/\(R (.string c) e))):
  Pure P 138 #[.string a,.string b] w R:=
 pure_of_run (cargo_add.cx w w.heap.size R) 100000 follows Tryz.func138 rfl rfl rfl rfl rfl rfl rfl (Eq.mp (by kernel_rfl) h)

noncomputable def cargo_in_c1.cx(w:World)(B:Nat)(R:Value->World->Prop):Cx:=⟨Tryz.prog,140,8,Tryz.f140.results.toList,[],[],w,B,R⟩
theorem cargo_in_c1.vc(b e f:Int)(c:Addr)(w:World)(R:Value->World->Prop)
  (h:(∀a,Ext w.heap.size [] w a->(∃d,CellsAt a c [.int .i64 d]/\(R (.bool (decide (b≠d))) a)))):
  Pure P 140 #[.agg #[.int .i64 b,.int .i64 e,.int .i64 f],(.pointer (some c))] w R:=
 pure_of_run (cargo_in_c1.cx w w.heap.size R) 100000 follows Tryz.func140 rfl rfl rfl rfl rfl rfl rfl (Eq.mp (by kernel_rfl) h)

noncomputable def cargo_valid_c1.cx(w:World)(B:Nat)(R:Value->World->Prop):Cx:=⟨Tryz.prog,162,6,Tryz.f162.results.toList,[],[],w,B,R⟩
theorem cargo_valid_c1.vc(a:ByteArray)(w:World)(R:Value->World->Prop)
  (h:(Pure P 150 #[.string a] w fun c d=>∃b,c= .bool b/\(R (.bool (decide (b=false))) d))):
  Pure P 162 #[.string a] w R:=
 pure_of_run (cargo_valid_c1.cx w w.heap.size R) 100000 follows Tryz.func162 rfl rfl rfl rfl rfl rfl rfl (Eq.mp (by kernel_rfl) h)

end Go.Proofs.YtgfkeadgjkfomaaGreatDoor.F
