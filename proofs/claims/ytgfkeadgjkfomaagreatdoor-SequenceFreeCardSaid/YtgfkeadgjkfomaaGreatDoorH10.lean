/- Part 10 of the proofs that: without rules, and with holds that can take everything, any order of steps that only put in is one -/
import Derived.Test.YtgfkeadgjkfomaaGreatDoorH9
import Derived.Test.YtgfkeadgjkfomaaGreatDoorProg
set_option linter.unusedVariables false
set_option linter.unusedSimpArgs false
namespace Go.Proofs.YtgfkeadgjkfomaaGreatDoor.B
open Go Go.RowKit Go.Proofs Go.Proofs.YtgfkeadgjkfomaaGreatDoor.Vc

structure Tk where
 b:Nat
 m:Nat
 A0:Option Addr
 n0:Nat
 c0:Nat
 A1:Option Addr
 n1:Nat
 c1:Nat
 A2:Option Addr
 n2:Nat
 c2:Nat
 A3:Option Addr
 n3:Nat
 c3:Nat
 A4:Option Addr
 n4:Nat
 c4:Nat
abbrev Tk.cs(k:Tk):List Value:=[.slice k.A0 k.n0 k.c0,.slice k.A1 k.n1 k.c1,.slice k.A2 k.n2 k.c2,.slice k.A3 k.n3 k.c3,.slice k.A4 k.n4 k.c4,.map (some k.m)]
abbrev Tk.p(k:Tk):Addr:=⟨k.b,0,none⟩
def TkC(w:World)(k:Tk):Prop:=w.heap[k.b]? =some (.cells k.cs.toArray 114 (0,0))
theorem TkC.keep{w w':World}{k:Tk}(h:TkC w k)(hb:Below w.heap.size w w'):TkC w' k:=heap_keep h hb
theorem TkC.cl{w w':World}{k:Tk}(h:TkC w k)(c:Cl w w'):TkC w' k:=c.cells _ _ _ _ h
theorem TkC.cell{w:World}{k:Tk}(h:TkC w k)(i:Nat){v:Value}(hv:k.cs[i]? =some v):CellsAt w (k.p.add i) [v]:=box_cell h hv
theorem TkC.part{w:World}{k:Tk}(h:TkC w k)(i n:Nat):CellsAt w (k.p.add i) ((k.cs.drop i).take n):=cells_part (box_all h) i n
structure TkIn (w:World) (k:Tk) (ps:List Pa) (hs:List Ho) (xs:List Rm) (l works:List Sw):Prop where
 t:TkC w k
 p:PrIn w k.A0 k.n0 k.A1 k.n1 k.A2 k.n2 k.c2 ps hs xs
 wk:SlR w k.A3 3 (works.map Sw.row)
 lw:works.length=k.n3
 st:SlR w k.A4 1 ((amountsF ps hs l).map iRow)
 ok:TaskOk ps hs (rsOf xs) l works
 n4:k.n4=k.n0*k.n1
theorem TkIn.keep{w w':World}{k:Tk}{ps:List Pa}{hs:List Ho}{xs:List Rm}{l works:List Sw}(h:TkIn w k ps hs xs l works)(hb:Below w.heap.size w w'):TkIn w' k ps hs xs l works:=
 ⟨h.t.keep hb,h.p.keep hb,h.wk.keep hb (Nat.le_refl _),h.lw,h.st.keep hb (Nat.le_refl _),h.ok,h.n4⟩
theorem TkIn.cl{w w':World}{k:Tk}{ps:List Pa}{hs:List Ho}{xs:List Rm}{l works:List Sw}(h:TkIn w k ps hs xs l works)(c:Cl w w'):TkIn w' k ps hs xs l works:=
 ⟨h.t.cl c,h.p.cl c,h.wk.cl c,h.lw,h.st.cl c,h.ok,h.n4⟩

section
variable {w:World} {k:Tk} {ps:List Pa} {hs:List Ho} {xs:List Rm} {l works:List Sw}
theorem seq_place(ht:TkC w k)(hc:CgIn w k.A0 k.n0 k.A1 k.n1 ps hs)(x:Sw):
  Pure Tryz.prog 78 #[.pointer (some k.p),x.val] w fun v _=>v= .tuple #[.int .i64 (ixI (pix ps x.parcel)),.int .i64 (ixI (hix hs x.hold))]:=by
 have hnp:=hc.np
 have hnh:=hc.nh
 refine F.sequence_task_place.vc _ _ _ _ _ _ fun w1 x1=> ?_
 have hw:=k0 x1
 refine⟨_,_,_,by rw[Go.Deep.add_add,Go.Deep.add_add];exact(ht.keep hw).cell 0 rfl,fun p3 hp3 hb3=> ?_⟩
 refine Pure.mono (IndexPa (p:=fun p=>decide (p.id=x.parcel)) (hc.keep hw).p hc.lp (by omega) (by kernel_rfl) fun w' hb y hy=> ?_) ?_
 ·exact F.sequence_task_place_c1.vc _ _ _ _ _ _ _ _ _ _ fun w1 x1=>⟨_,box_cell (heap_keep (heap_keep hb3 hb) (k0 x1)) rfl,rfl⟩
 ·rintro v w6 b6 rfl
  have hw6:=kP hw b6
  refine⟨_,rfl,_,_,_,by rw[Go.Deep.add_add,Go.Deep.add_add];exact(ht.keep hw6).cell 1 rfl,?_⟩
  refine Pure.mono (IndexHo (p:=fun p=>decide (p.id=x.hold)) (hc.keep hw6).h hc.lh (by omega) (by kernel_rfl) fun w' hb y hy=> ?_) ?_
  ·exact F.sequence_task_place_c2.vc _ _ _ _ _ _ _ _ _ _ fun w1 x1=>⟨_,box_cell0 (heap_keep (heap_keep (heap_keep hb3 b6) hb) (k0 x1)) rfl,rfl⟩
  ·rintro v w10 _ rfl
   exact⟨_,rfl,rfl⟩
theorem seq_all(ht:TkC w k)(hn:k.n3<=6):Pure Tryz.prog 48 #[.pointer (some k.p)] w fun v _=>v= .int .i64 ((fullN k.n3:Nat):Int):=by
 have h2:=pow64 _ hn
 have h3:=Nat.two_pow_pos k.n3
 refine F.sequence_task_all.vc _ _ _ ⟨_,_,_,ht.cell 3 rfl,sh_ok (by omega),?_⟩
 rw[shl_one _ (by omega)]
 refine⟨by simp only[inR];omega,?_⟩
 unfold fullN
 refine congrArg (Value.int .i64) ?_
 omega
theorem amounts_small(hr:RightS ps hs l):∀x∈amountsF ps hs l,0<=x/\x<=9:=by
 intro x hx
 unfold amountsF at hx
 obtain⟨p,_,hx⟩:=List.mem_flatMap.1 hx
 obtain⟨h,_,rfl⟩:=List.mem_map.1 hx
 exact⟨amt_nonneg hr.pos _ _,amt_le hr _ _⟩
theorem place_at{x:Sw}{j:Nat}(h:placeW ps hs x=some j):∃i k,pix ps x.parcel=some i/\hix hs x.hold=some k/\j=i*hs.length+k/\j<ps.length*hs.length:=by
 unfold placeW at h
 cases e1:pix ps x.parcel with
 |none=>rw[e1]at h;cases h
 |some i=>
  cases e2:hix hs x.hold with
  |none=>rw[e1,e2]at h;cases h
  |some k=>
   rw[e1,e2]at h
   cases h
   exact⟨i,k,rfl,rfl,rfl,idx_lt (pix_lt e1).1 (hix_lt e2).1⟩
theorem state_pos{s:Nat}{m:List Sw}(e:stateF ps hs l works s=some m):m.length<=36:=(state_right e).2.1.len
theorem seq_state(hg:Glob w)(h:TkIn w k ps hs xs l works){s:Nat}(hs':s<128):
  Pure Tryz.prog 49 #[.pointer (some k.p),.int .i64 (s:Int)] w fun v w'=>(stateF ps hs l works s=none->v= .tuple #[.slice none 0 0,.bool false])/\
   ∀m,stateF ps hs l works s=some m->∃A n c,v= .tuple #[.slice A n c,.bool true]/\OwnR w' w.heap.size 39 A n c 3 (m.map Sw.row):=by
 obtain⟨hck,hst,hr⟩:=keeps_right h.ok.keeps
 have hlp:=h.p.c.lp
 have hlh:=h.p.c.lh
 have hn0:=h.p.c.np
 have hn1:=h.p.c.nh
 have hle:k.n0*k.n1<=7*7:=Nat.mul_le_mul hn0 hn1
 have hw6:=h.ok.n
 have hlw:=h.lw
 have hn4:=h.n4
 have hal:(amountsF ps hs l).length=k.n4:=by rw[amounts_len,hlp,hlh,hn4]
 refine F.sequence_task_state.vc _ _ _ _ ⟨_,_,_,h.t.cell 4 rfl,Pure.mono (CloneI h.st hal (by omega)) ?_⟩
 rintro v w4 b4 ⟨A',c',rfl,ho⟩
 refine⟨_,_,_,rfl,_,_,_,(h.t.keep b4).cell 3 rfl,?_⟩
 have key:∀(d j:Nat)(a:List Int)(w':World),k.n3 - j=d->j<=k.n3->Below w.heap.size w w'->OwnR w' w.heap.size 3 A' k.n4 c' 1 (a.map iRow)->(∀x∈a, -(9*(j:Int))<=x/\x<=9+9*(j:Int))->stateA ps hs s j a (works.drop j)=stateA ps hs s 0 (amountsF ps hs l) works->
   F.sequence_task_state.L3 k.p s A' k.n4 c' k.A3 k.n3 k.c3 k.n3 j w.heap.size w' fun v w'=>(stateF ps hs l works s=none->v= .tuple #[.slice none 0 0,.bool false])/\
    ∀m,stateF ps hs l works s=some m->∃A n c,v= .tuple #[.slice A n c,.bool true]/\OwnR w' w.heap.size 39 A n c 3 (m.map Sw.row):=by
  intro d
  induction d with
  |zero=>
   intro j a w' hd hj hw ho hb he
   have hln:=ho.len
   rw[List.length_map]at hln
   rw[List.drop_eq_nil_of_le (by omega)]at he
   have hea:a=stateA ps hs s 0 (amountsF ps hs l) works:=he
   refine F.sequence_task_state.L3.step _ _ _ _ _ _ _ _ _ _ _ _ _ ⟨fun h=>by omega,fun _=>⟨_,_,_,_,_,_,by rw[Go.Deep.add_add];exact(h.t.keep hw).part 0 2,?_⟩⟩
   refine Pure.mono (cargo_From (hg.next hw) (h.p.keep hw).c ho.sl hln ho.len_le (by omega)) ?_
   intro v w29 b29 hf
   unfold stateF
   rw[<-hea]
   cases e:fromF ps hs a with
   |error er=>
    rw[e]at hf
    have hne:=from_err e
    cases hf
    refine⟨_,_,_,_,rfl,fun _=> ?_,fun m hm=>by cases hm⟩
    rw[decide_eq_false hne]
   |ok m=>
    rw[e]at hf
    obtain⟨A,n,c,rfl,hm⟩:=hf
    refine⟨_,_,_,_,rfl,fun hm=>(by cases hm),fun m' hm'=> ?_⟩
    cases hm'
    exact⟨A,n,c,rfl,hm.base hw.size⟩
  |succ d ih=>
   intro j a w' hd hj hw ho hb he
   have hjl:j<works.length:=by omega
   have e3:(j:Int)+1=((j+1:Nat):Int):=by omega
   have hln:=ho.len
   rw[List.length_map]at hln
   have hmem:=List.getElem_mem hjl
   obtain⟨q,hq⟩:=h.ok.place _ hmem
   obtain⟨ip,ik,hip,hik,hqe,hql⟩:=place_at hq
   have hu:=h.ok.u _ hmem
   rw[List.drop_eq_getElem_cons hjl,stateA_cons,hq]at he
   obtain⟨hbb,ad,hA,hcell,_⟩:=(h.wk.keep hw (Nat.le_refl _)).at_ (fun _=>rfl) hlw hjl
   refine F.sequence_task_state.L3.step _ _ _ _ _ _ _ _ _ _ _ _ _ ⟨fun _=>⟨hbb,ad,hA,_,_,_,hcell,sh_ok (by omega),fun h1 w10 x10=> ?_,fun h1=>⟨by simp only[inR];omega,fun w23 x23=> ?_⟩⟩,fun h=>by omega⟩
   ·rw[if_pos ((bit_eq hs' (by omega)).1 h1)]at he
    have hw:=kE hw x10
    refine Pure.mono (seq_place (h.t.keep hw) (h.p.keep hw).c works[j]) ?_
    rintro v w14 b14 rfl
    have hw:=kP hw b14
    rw[hip,hik]
    have ei:ixI (some ip)*(k.n1:Int)=((ip*hs.length:Nat):Int):=by rw[<-hlh];simp[ixI]
    have eq:((ip*hs.length:Nat):Int)+ixI (some ik)=(q:Int):=by rw[hqe];simp[ixI]
    have o14:=(ho.extNil x10).below b14
    have hqn:q<k.n4:=by rw[hn4,<-hlp,<-hlh];exact hql
    have hqa:q<a.length:=by omega
    have hrow:(a.map iRow)[q]? =some (iRow a[q]):=by rw[List.getElem?_map,List.getElem?_eq_getElem hqa];rfl
    have haq:=hb _ (List.getElem_mem hqa)
    have hgd:a.getD q 0=a[q]:=by rw[List.getD_eq_getElem?_getD,List.getElem?_eq_getElem hqa];rfl
    have hlq:ip*hs.length<=q:=by omega
    obtain⟨hbq,aq,hAq,hcq,_⟩:=o14.sl.at_ (fun _=>rfl) hln hqa
    refine⟨_,_,rfl,_,_,_,by rw[Go.Deep.add_add,Go.Deep.add_add];exact(h.t.keep hw).cell 1 rfl,?_⟩
    rw[ei,eq]
    refine⟨by simp only[inR];omega,by simp only[inR];omega,hbq,aq,hAq,_,hcq,by simp only[inR];omega,hbq,aq,hAq,fun w19 x19=> ?_⟩
    have hw:=kE hw x19
    have o19:=o14.extNil x19
    obtain⟨g1,a2,hA2,cs,g2,g3,g4,g5,g6⟩:=o19.set0 (i:=(q:Int)) (by omega) (by omega) (iRow (a[q]+works[j].units)) _ (by rw[Int.toNat_natCast];exact hrow) rfl
    rw[hAq]at hA2
    cases hA2
    refine⟨cs,_,g2,g3,g4,g5,rfl,fun w22 hw22=>⟨by simp only[inR];omega,?_⟩⟩
    have o22:=g6 w22 hw22
    rw[Int.toNat_natCast,<-List.map_set]at o22
    rw[e3]
    refine ih (j+1) (a.set q (a[q]+works[j].units)) w22 (by omega) (by omega) (hw.trans (Wrote.belowR hw22 g2)) o22 (fun x hx=> ?_) ?_
    ·rcases List.mem_or_eq_of_mem_set hx with hx|rfl
     ·have:=hb x hx;omega
     ·omega
    ·rw[<-he]
     show _=stateA ps hs s (j+1) (addAt a q works[j].units) _
     unfold addAt
     rw[hgd]
   ·rw[if_neg (fun k=>h1 ((bit_eq hs' (by omega)).2 k))]at he
    rw[e3]
    exact ih (j+1) a w23 (by omega) (by omega) (kE hw x23) (ho.extNil x23) (fun x hx=>by have:=hb x hx;omega) he
 refine key k.n3 0 (amountsF ps hs l) w4 rfl (by omega) b4 ho (fun x hx=> ?_) rfl
 have:=amounts_small hr x hx
 omega

theorem mpB:MpT 90 3 4:=⟨by kernel_rfl,by kernel_rfl,by kernel_rfl,fun w=>Tryz.zeroValue4 w⟩
def KnIn(w:World)(B:Nat)(k:Tk)(al:Nat->Bool):Prop:=∃f,MpR w B 3 4 k.m f/\∀(s:Nat)(x:Bool),f (s:Int)=some x->x=al s
theorem KnIn.below{w w':World}{B:Nat}{k:Tk}{al:Nat->Bool}(h:KnIn w B k al)(hb:Below w.heap.size w w'):KnIn w' B k al:=by
 obtain⟨f,h1,h2⟩:=h
 exact⟨f,h1.below hb,h2⟩
theorem KnIn.le{w:World}{B B':Nat}{k:Tk}{al:Nat->Bool}(h:KnIn w B k al)(hB:B'<=B):KnIn w B' k al:=by
 obtain⟨f,h1,h2⟩:=h
 exact⟨f,h1.le hB,h2⟩
structure But (b:Nat) (w w':World):Prop where
 size:w.heap.size<=w'.heap.size
 other:∀k,k<w.heap.size->k≠b->w'.heap[k]? =w.heap[k]?
theorem But.refl(b:Nat)(w:World):But b w w:=⟨Nat.le_refl _,fun _ _ _=>rfl⟩
theorem But.trans{b:Nat}{w w1 w2:World}(h:But b w w1)(k:But b w1 w2):But b w w2:=
 ⟨Nat.le_trans h.size k.size,fun i hi hne=>(k.other i (Nat.lt_of_lt_of_le hi h.size) hne).trans (h.other i hi hne)⟩
theorem But.low{b:Nat}{w w':World}(h:Below w.heap.size w w'):But b w w':=⟨h.size,fun k hk _=>h.block k hk⟩
theorem But.grown{b:Nat}{w w':World}(h:w.grownBy w' (some b)):But b w w':=⟨h.size,fun k hk hne=>h.block k hk fun e=>hne (by cases e;rfl)⟩
theorem But.cl{b:Nat}{w w':World}(h:But b w w')(hm:∃es clock,w.heap[b]? =some (.map es clock)):Cl w w':=⟨h.size,fun k cs ty fr e=>by
 obtain⟨es,clock,hm⟩:=hm
 rw[h.other k (Array.getElem?_eq_some_iff.1 e).1 fun k=>by subst k;rw[hm]at e;cases e]
 exact e⟩
theorem KnIn.map{w:World}{B:Nat}{k:Tk}{al:Nat->Bool}(h:KnIn w B k al):∃es clock,w.heap[k.m]? =some (.map es clock):=by
 obtain⟨f,h1,_⟩:=h
 exact h1.isMap
theorem seq_allowed(hg:Glob w)(h:TkIn w k ps hs xs l works){B:Nat}(hB:B<=w.heap.size)(hk:KnIn w B k (allowF ps hs (rsOf xs) l works)){s:Nat}(hs':s<128):
  PureB Tryz.prog 53 #[.pointer (some k.p),.int .i64 (s:Int)] B w fun v w'=>v= .bool (allowF ps hs (rsOf xs) l works s)/\KnIn w' B k (allowF ps hs (rsOf xs) l works)/\But k.m w w':=by
 obtain⟨f,hm,hf⟩:=id hk
 have fin:∀(w':World)(x:Bool),Below w.heap.size w w'->x=allowF ps hs (rsOf xs) l works s->∃m1:Option Nat,CellsAt w' (k.p.add 5) [.map m1]/\RunOkU Tryz.prog (Instr.mapUpdate 90 (.map m1) (.int .i64 (s:Int)) (.bool x)) B [] w' fun w17=>Value.bool x= .bool (allowF ps hs (rsOf xs) l works s)/\KnIn w17 B k (allowF ps hs (rsOf xs) l works)/\But k.m w w17:=by
  intro w' x hw hx
  refine⟨_,(h.t.keep hw).cell 5 rfl,runOk_update (hm.below hw) mpB (by omega) (by omega) x (Nat.le_refl _) (Nat.le_trans hB hw.size) fun w17 m17 _ g17=>⟨by rw[hx],⟨_,m17,fun z y hz=> ?_⟩,(But.low hw).trans (But.grown g17)⟩⟩
  unfold putM at hz
  split at hz
  ·rename_i e
   have:z=s:=by omega
   subst this
   cases hz
   exact hx
  ·exact hf z y hz
 refine F.sequence_task_allowed.vcB _ _ _ _ hB _ ⟨_,h.t.cell 5 rfl,runOk_lookOk hm mpB (by omega) (by omega) ⟨fun h0=> ?_,fun h0=> ?_⟩⟩
 ·refine Pure.mono (seq_state hg h hs') ?_
  intro v w9 b9 hv
  cases e:stateF ps hs l works s with
  |none=>
   have hv:=hv.1 e
   subst hv
   refine⟨_,_,_,_,rfl,fun k=>(by cases k),fun _=>fin w9 false b9 ?_⟩
   unfold allowF
   rw[e]
  |some m=>
   obtain⟨A,n,c,hv,ho⟩:=hv.2 m e
   subst hv
   have hln:=ho.len
   rw[List.length_map]at hln
   have h36:=state_pos e
   refine⟨_,_,_,_,rfl,fun _=>⟨_,_,_,_,_,_,_,_,_,(h.t.keep b9).part 0 3,?_⟩,fun k=>by cases k⟩
   refine Pure.mono (stow_Keeps (hg.next b9) (h.p.keep b9) ho.sl hln ho.len_le (by omega)) ?_
   rintro v w15 b15 rfl
   refine⟨_,rfl,fin w15 _ (kP b9 b15) ?_⟩
   unfold allowF
   rw[e]
 ·obtain⟨x,hx⟩:=Option.isSome_iff_exists.1 (Bool.not_eq_false _|>.mp h0)
  rw[hx]
  exact⟨by rw[<-hf s x hx];rfl,hk,But.refl _ _⟩
end

theorem any_take{α:Type}{p:α->Bool}{l:List α}{j:Nat}(hj:j<l.length)(h:(l.take j).any p=false)(h1:p l[j]=false):(l.take (j+1)).any p=false:=by
 rw[List.take_add_one,List.getElem?_eq_getElem hj,List.any_append,h]
 simp[h1]
theorem any_at{α:Type}{p:α->Bool}{l:List α}{j:Nat}(hj:j<l.length)(h1:p l[j]=true):l.any p=true:=List.any_eq_true.2 ⟨_,List.getElem_mem hj,h1⟩
section
variable {w:World} {A0 A1 A2 A A3:Option Addr} {n0 c0 n1 c1 n2 c2 n c n3 c3:Nat} {ps:List Pa} {hs:List Ho} {xs:List Rm} {l works:List Sw}
def BeR(w0:World)(ps:List Pa)(hs:List Ho)(xs:List Rm)(l works:List Sw)(v:Value)(w':World):Prop:=
 (taskF ps hs (rsOf xs) l works≠0->v= .tuple #[.pointer none,.int .i64 (taskF ps hs (rsOf xs) l works)])/\
 (taskF ps hs (rsOf xs) l works=0->∃k:Tk,v= .tuple #[.pointer (some k.p),.int .i64 0]/\TkIn w' k ps hs xs l works/\KnIn w' w0.heap.size k (allowF ps hs (rsOf xs) l works))
theorem begin_L17(hg:Glob w)(hp:PrIn w A0 n0 A1 n1 A2 n2 c2 ps hs xs)(h:SlR w A 3 (l.map Sw.row))(hl:l.length=n)(hnc:n<=c)(hn:n<=40)(hwk:SlR w A3 3 (works.map Sw.row))(hlw:works.length=n3){b m:Nat}(hb:w.heap.size<=b)
  (hck:(checkR ps hs (rsOf xs)).2=0) (hke:keepsF ps hs (rsOf xs) l=true) (h6:n3<=6) (hpl:(works.any fun w=>decide (placeW ps hs w=none))=false):
  ∀(d j:Nat)(w':World),n3 - j=d->j<=n3->Below w.heap.size w w'->TkC w' ⟨b,m,A0,n0,c0,A1,n1,c1,A2,n2,c2,A3,n3,c3,none,0,0⟩->MpR w' w.heap.size 3 4 m (fun _=>none)->((works.take j).any fun w=>decide (w.units=0∨w.units< -9∨9<w.units))=false->
   F.sequence_begin.L17 A n c ⟨b,0,none⟩ A3 n3 c3 n3 j A0 n0 c0 A1 n1 c1 A2 n2 c2 w.heap.size w' (BeR w ps hs xs l works):=by
 obtain⟨_,hst,hr⟩:=keeps_right hke
 intro d
 induction d with
 |zero=>
  intro j w' hd hj hw ht hm ha
  rw[List.take_of_length_le (by omega)]at ha
  have h0:taskF ps hs (rsOf xs) l works=0:=by
   unfold taskF
   rw[if_neg (fun k=>k hck),if_neg (by rw[hke];decide),if_neg (by omega),if_neg (by rw[hpl];decide),if_neg (by rw[ha];decide)]
  refine F.sequence_begin.L17.step _ _ _ _ _ _ _ _ _ _ _ _ _ _ _ _ _ _ _ _ _ ⟨fun h=>by omega,fun _=> ?_⟩
  refine Pure.mono (cargo_Amounts (hg.next hw) (hp.keep hw).c (h.keep hw (Nat.le_refl _)) hl hnc (by omega)) ?_
  intro v w35 b35 hv
  obtain⟨A',N,rfl,ho,hN⟩:=hv.2 hst
  have hw35:=kP hw b35
  have ht35:=ht.keep b35
  have hm35:=hm.below b35
  have e:(⟨b,0,none⟩:Addr).add 4=⟨b,4,none⟩:=by rw[add_plain0]
  have hbw:b<w'.heap.size:=(Array.getElem?_eq_some_iff.1 ht).1
  refine⟨_,_,_,_,rfl,Tk.cs ⟨b,m,A0,n0,c0,A1,n1,c1,A2,n2,c2,A3,n3,c3,none,0,0⟩,114,?_⟩
  rw[e]
  refine⟨hb,rfl,ht35,by simp,rfl,fun w38 hw38=> ?_⟩
  have hb38:Below w.heap.size w w38:=hw35.trans (Wrote.belowR hw38 hb)
  have hmb:m≠b:=by
   obtain⟨es,cl,e1⟩:=hm35.isMap
   intro k
   subst k
   have:=ht35
   unfold TkC at this
   simp only at this
   rw[e1]at this
   cases this
  refine⟨fun k=>absurd h0 k,fun _=>⟨⟨b,m,A0,n0,c0,A1,n1,c1,A2,n2,c2,A3,n3,c3,A',N,N⟩,rfl,⟨?_,hp.keep hb38,hwk.keep hb38 (Nat.le_refl _),hlw,?_,task_ok h0,hN⟩,_,hm35.same (hw38.rest m hmb),fun s x k=>by cases k⟩⟩
  ·exact hw38.at_
  ·refine(ho.other fun a ha=>hw38.rest _ fun k=> ?_).sl
   have:=(ho.blk a ha).1
   have k:a.block=b:=k
   omega
 |succ d ih=>
  intro j w' hd hj hw ht hm ha
  have hjl:j<works.length:=by omega
  have e3:(j:Int)+1=((j+1:Nat):Int):=by omega
  obtain⟨hbb,ad,hA,hcell,_⟩:=(hwk.keep hw (Nat.le_refl _)).at_ (fun _=>rfl) hlw hjl
  have bad:(works[j].units=0∨works[j].units< -9∨9<works[j].units)->∀w1,BeR w ps hs xs l works (.tuple #[.pointer none,.int .i64 2]) w1:=by
   intro k w1
   have h2:taskF ps hs (rsOf xs) l works=2:=by
    unfold taskF
    rw[if_neg (fun k=>k hck),if_neg (by rw[hke];decide),if_neg (by omega),if_neg (by rw[hpl];decide),if_pos (any_at hjl (decide_eq_true k))]
   exact⟨fun _=>by rw[h2],fun k=>by rw[h2]at k;cases k⟩
  refine F.sequence_begin.L17.step _ _ _ _ _ _ _ _ _ _ _ _ _ _ _ _ _ _ _ _ _ ⟨fun _=>⟨hbb,ad,hA,_,_,_,hcell,fun k w1 _=>bad (.inl k) w1,fun k1=>⟨fun k w1 _=>bad (.inr (.inl k)) w1,fun k2=>⟨fun k w1 _=>bad (.inr (.inr k)) w1,fun k3=>⟨by simp only[inR];omega,fun w31 x31=> ?_⟩⟩⟩⟩,fun h=>by omega⟩
  rw[e3]
  exact ih (j+1) w31 (by omega) (by omega) (kE hw x31) (ext_nil x31 ht) (hm.ext x31) (any_take hjl ha (decide_eq_false (by omega)))
theorem seq_begin(hg:Glob w)(hp:PrIn w A0 n0 A1 n1 A2 n2 c2 ps hs xs)(h:SlR w A 3 (l.map Sw.row))(hl:l.length=n)(hnc:n<=c)(hn:n<=40)(hwk:SlR w A3 3 (works.map Sw.row))(hlw:works.length=n3):
  Pure Tryz.prog 47 #[.agg #[.slice A0 n0 c0,.slice A1 n1 c1,.slice A2 n2 c2],.slice A n c,.slice A3 n3 c3] w (BeR w ps hs xs l works):=by
 have out:∀(e:Int)(w':World),taskF ps hs (rsOf xs) l works=e->e≠0->BeR w ps hs xs l works (.tuple #[.pointer none,.int .i64 e]) w':=fun e w' h1 h2=>⟨fun _=>by rw[h1],fun k=>absurd (h1.symm.trans k) h2⟩
 refine F.sequence_begin.vc _ _ _ _ _ _ _ _ _ _ _ _ _ _ _ _ _ fun w1 x1=> ?_
 have hw:=k0 x1
 refine Pure.mono (stow_Check (hg.next hw) (hp.keep hw)) ?_
 rintro v w5 b5 rfl
 have hw:=kP hw b5
 refine⟨_,_,rfl,fun h1=>out 1 _ (by unfold taskF;rw[if_pos h1]) (by decide),fun h1=> ?_⟩
 refine Pure.mono (stow_Keeps (hg.next hw) (hp.keep hw) (h.keep hw (Nat.le_refl _)) hl hnc hn) ?_
 rintro v w8 b8 rfl
 have hw:=kP hw b8
 refine⟨_,rfl,fun h2=>out 11 _ (by unfold taskF;rw[if_neg h1,if_pos h2]) (by decide),fun h2=>⟨fun h3=>out 8 _ (by unfold taskF;rw[if_neg h1,if_neg h2,if_pos (by omega)]) (by decide),fun h3=> ?_⟩⟩
 have hke:=Bool.not_eq_false _|>.mp h2
 have h1':=Decidable.not_not.1 h1
 refine runOk_makeMap (tk:=3) (te:=4) hw.size fun w11 m11 b11=> ?_
 have hw11:=kP hw b11
 refine runOk_box _ _ hw11.size fun w12 hb12 b12 _=> ?_
 have hw12:=kP hw11 b12
 have key:∀(d j:Nat)(w':World),n3 - j=d->j<=n3->Below w.heap.size w w'->TkC w' ⟨w11.heap.size,w8.heap.size,A0,n0,c0,A1,n1,c1,A2,n2,c2,A3,n3,c3,none,0,0⟩->MpR w' w.heap.size 3 4 w8.heap.size (fun _=>none)->((works.take j).any fun w=>decide (placeW ps hs w=none))=false->
   F.sequence_begin.L10 A n c A3 n3 c3 ⟨w11.heap.size,0,none⟩ A3 n3 c3 n3 j A0 n0 c0 A1 n1 c1 A2 n2 c2 w.heap.size w' (BeR w ps hs xs l works):=by
  intro d
  induction d with
  |zero=>
   intro j w' hd hj hw ht hm ha
   rw[List.take_of_length_le (by omega)]at ha
   exact F.sequence_begin.L10.step _ _ _ _ _ _ _ _ _ _ _ _ _ _ _ _ _ _ _ _ _ _ _ _ ⟨fun h=>by omega,fun _=>begin_L17 hg hp h hl hnc hn hwk hlw hw11.size h1' hke (by omega) ha n3 0 w' rfl (by omega) hw ht hm rfl⟩
  |succ d ih=>
   intro j w' hd hj hw ht hm ha
   have hjl:j<works.length:=by omega
   have e3:(j:Int)+1=((j+1:Nat):Int):=by omega
   obtain⟨hbb,ad,hA,hcell,_⟩:=(hwk.keep hw (Nat.le_refl _)).at_ (fun _=>rfl) hlw hjl
   have bad:placeW ps hs works[j]=none->∀w1,BeR w ps hs xs l works (.tuple #[.pointer none,.int .i64 7]) w1:=by
    intro k w1
    exact out 7 _ (by unfold taskF;rw[if_neg h1,if_neg h2,if_neg (by omega),if_pos (any_at hjl (decide_eq_true k))]) (by decide)
   refine F.sequence_begin.L10.step _ _ _ _ _ _ _ _ _ _ _ _ _ _ _ _ _ _ _ _ _ _ _ _ ⟨fun _=>⟨hbb,ad,hA,_,_,_,hcell,fun w19 x19=> ?_⟩,fun h=>by omega⟩
   have hw19:=kE hw x19
   refine Pure.mono (seq_place (k:=⟨w11.heap.size,w8.heap.size,A0,n0,c0,A1,n1,c1,A2,n2,c2,A3,n3,c3,none,0,0⟩) (ext_nil x19 ht) (hp.keep hw19).c works[j]) ?_
   rintro v w23 b23 rfl
   refine⟨_,_,rfl,fun k1=>bad (by unfold placeW;rw[ixI_neg.1 k1]) _,fun k1=>⟨fun k2=>bad ?_ _,fun k2=>⟨by simp only[inR];omega,?_⟩⟩⟩
   ·unfold placeW
    rw[ixI_neg.1 k2]
    cases pix ps works[j].parcel<;>rfl
   ·rw[e3]
    refine ih (j+1) w23 (by omega) (by omega) (kP hw19 b23) (TkC.keep (ext_nil x19 ht) b23) ((hm.ext x19).below b23) (any_take hjl ha (decide_eq_false fun k=> ?_))
    unfold placeW at k
    cases e1:pix ps works[j].parcel with
    |none=>rw[e1]at k1;exact k1 (by simp[ixI])
    |some i=>
     cases e2:hix hs works[j].hold with
     |none=>rw[e2]at k2;exact k2 (by simp[ixI])
     |some i'=>rw[e1,e2]at k;cases k
 exact key n3 0 w12 rfl (by omega) hw12 hb12 ((m11.below b12).le hw.size) rfl

def StR(r:List Sw×Int)(B:Nat)(v:Value)(w':World):Prop:=∃A n c,v= .tuple #[.slice A n c,.int .i64 r.2]/\SlR w' A 3 (r.1.map Sw.row)/\r.1.length=n/\n<=c/\(r.1=[]∨OwnR w' B 39 A n c 3 (r.1.map Sw.row))
theorem seq_State(hg:Glob w)(hp:PrIn w A0 n0 A1 n1 A2 n2 c2 ps hs xs)(h:SlR w A 3 (l.map Sw.row))(hl:l.length=n)(hnc:n<=c)(hn:n<=40)(hwk:SlR w A3 3 (works.map Sw.row))(hlw:works.length=n3)(set:Int):
  Pure Tryz.prog 16 #[.agg #[.slice A0 n0 c0,.slice A1 n1 c1,.slice A2 n2 c2],.slice A n c,.slice A3 n3 c3,.int .i64 set] w (StR (statesF ps hs (rsOf xs) l works set) w.heap.size):=by
 have none_:∀(e:Int)(w':World),StR ([],e) w.heap.size (.tuple #[.slice none 0 0,.int .i64 e]) w':=fun e w'=>⟨_,_,_,rfl,.inl rfl,rfl,Nat.le_refl _,.inl rfl⟩
 refine F.sequence_State.vc _ _ _ _ _ _ _ _ _ _ _ _ _ _ _ _ _ _ fun w1 x1=> ?_
 have hw:=k0 x1
 refine Pure.mono (seq_begin (hg.next hw) (hp.keep hw) (h.keep hw (Nat.le_refl _)) hl hnc hn (hwk.keep hw (Nat.le_refl _)) hlw) ?_
 intro v w5 b5 hv
 have hw:=kP hw b5
 unfold statesF
 by_cases h0:taskF ps hs (rsOf xs) l works≠0
 ·rw[if_pos h0]
  have hv:=hv.1 h0
  subst hv
  exact⟨_,_,rfl,fun _=>none_ _ _,fun k=>absurd h0 k⟩
 ·rw[if_neg h0]
  have h0:=Decidable.not_not.1 h0
  obtain⟨k,hv,hk,_⟩:=hv.2 h0
  subst hv
  have hk3:=hk.lw
  have hk6:=hk.ok.n
  have h2:=pow64 _ hk6
  have h3:fullN works.length<64:=Nat.lt_of_lt_of_le (full_lt _) h2
  refine⟨_,_,rfl,fun q=>absurd rfl q,fun _=>⟨fun h1=> ?_,fun h1=> ?_⟩⟩
  ·rw[if_pos (.inl h1)]
   exact none_ _ _
  ·refine Pure.mono (seq_all hk.t (by omega)) ?_
   rintro v w8 b8 rfl
   have hw:=kP hw b8
   rw[<-hk3]
   refine⟨_,rfl,fun h2=> ?_,fun h2=> ?_⟩
   ·rw[if_pos (.inr h2)]
    exact none_ _ _
   ·rw[if_neg (by rintro(q|q);exact h1 q;exact h2 q)]
    obtain⟨s,rfl⟩:=Int.eq_ofNat_of_zero_le (show 0<=set by omega)
    refine Pure.mono (seq_state (hg.next hw) (hk.keep b8) (s:=s) (by omega)) ?_
    intro v w12 b12 hv
    rw[Int.toNat_natCast]
    cases e:stateF ps hs l works s with
    |none=>
     have hv:=hv.1 e
     subst hv
     exact⟨_,_,_,_,rfl,fun _=>none_ _ _,fun k=>absurd rfl k⟩
    |some m=>
     obtain⟨A',n',c',hv,ho⟩:=hv.2 m e
     subst hv
     refine⟨_,_,_,_,rfl,fun k=>(by cases k),fun _=>⟨A',n',c',rfl,ho.sl,?_,ho.len_le,.inr (ho.base hw.size)⟩⟩
     have:=ho.len
     rwa [List.length_map]at this
end

def ngS(s:Sw):Bool:=decide (s.units<0)
def stabS(l:List Sw):List Sw:=l.filter ngS++l.filter fun s=> !ngS s
theorem stab_len(l:List Sw):(stabS l).length=l.length:=by
 unfold stabS
 induction l with
 |nil=>rfl
 |cons x r ih=>
  rw[List.length_append]at ih
  cases h:ngS x<;>simp[h,<-ih]<;>omega
theorem stab_ins{l:List Sw}{x:Sw}{j:Nat}(hj:j<=l.length)(hd:∀y∈(stabS l).drop j,ngS x=true/\ngS y=false)(hl:j=0∨∃y,(stabS l)[j - 1]? =some y/\¬(ngS x=true/\ngS y=false)):
  (stabS l).take j++x::(stabS l).drop j=stabS (l++[x]):=by
 have hlen:=stab_len l
 have e:stabS (l++[x])=l.filter ngS++((if ngS x then[x]else[])++((l.filter fun s=> !ngS s)++if ngS x then[]else[x])):=by
  unfold stabS
  rw[List.filter_append,List.filter_append]
  cases h:ngS x<;>simp[h]
 rw[e]
 cases hx:ngS x with
 |false=>
  have h0:(stabS l).drop j=[]:=by
   cases hc:(stabS l).drop j with
   |nil=>rfl
   |cons y r=>
    rw[hc]at hd
    have:=(hd y (by simp)).1
    rw[hx]at this
    cases this
  have h1:(stabS l).take j=stabS l:=by
   have:=List.take_append_drop j (stabS l)
   rw[h0,List.append_nil]at this
   exact this
  rw[h0,h1]
  simp[stabS]
 |true=>
  have key:j=(l.filter ngS).length:=by
   rcases Nat.lt_trichotomy j (l.filter ngS).length with h|h|h
   ·exfalso
    have hm:(l.filter ngS)[j]∈(stabS l).drop j:=by
     unfold stabS
     rw[List.drop_append_of_le_length (by omega),List.drop_eq_getElem_cons h]
     exact List.mem_append_left _ List.mem_cons_self
    have h1:=(hd _ hm).2
    have h2:=(List.mem_filter.1 (List.getElem_mem h)).2
    rw[h1]at h2
    cases h2
   ·exact h
   ·exfalso
    rcases hl with h0|⟨y,hy,hn⟩
    ·omega
    ·unfold stabS at hy
     rw[List.getElem?_append_right (by omega)]at hy
     have h2:=(List.mem_filter.1 (List.mem_of_getElem? hy)).2
     exact hn ⟨hx,by simpa using h2⟩
  unfold stabS
  rw[key,List.take_left,List.drop_left]
  simp
theorem stab_work(f:Nat->Nat->Int)(ps:List Pa)(hs:List Ho):stabS (difG f ps hs)=workG f ps hs:=by
 unfold stabS workG
 congr 1
 refine List.filter_congr fun s hs'=> ?_
 obtain⟨k,i,h,p,_,_,hne,rfl⟩:=mem_dif.1 hs'
 unfold ngS
 simp only[<-decide_not,decide_eq_decide]
 omega
def betweenF(ps:List Pa)(hs:List Ho)(l m:List Sw):List Sw×Int:=
 if stowedF ps hs l≠0∨stowedF ps hs m≠0 then([],1)else if 6<(difG (difA ps hs l m) ps hs).length then([],8)else(workG (difA ps hs l m) ps hs,0)

theorem el_Ws:El Tryz.prog 30 44 3 24:=El.of (by kernel_rfl)
theorem swap_set{T D:List Sw}{x y:Sw}:((T++y::x::D).set (T.length+1) y).set T.length x=T++x::y::D:=by
 induction T with
 |nil=>rfl
 |cons a r ih=>
  show a::((r++y::x::D).set (r.length+1) y).set r.length x=a::_
  rw[ih]
  rfl
theorem blk_add(a:Addr)(k:Nat):a.block=(a.add k).block:=by unfold Addr.add;split<;>rfl
section
variable {w0:World} {B:Nat} {A:Option Addr} {n c:Nat} {l:List Sw} {f:Nat} {a k:Array Value}
theorem sort_L1(hlen:l.length=n)(hn:n<=20)(hcall:callable Tryz.prog f=true)
  (hf:∀w,Oth A w0 w->∀x y:Sw,Pure Tryz.prog f (a.toList++([x.val,y.val]:List Value)++k.toList).toArray w fun v _=>∃i:Int,v= .int .i64 i/\(i<0↔(ngS x=true/\ngS y=false))) {R:Value->World->Prop}
  (hR:∀w,Oth A w0 w->OwnR w B 44 A n c 3 ((stabS l).map Sw.row)->R (.tuple #[]) w):
  ∀(d i:Nat)(w:World),n+1 - i=d->1<=i->i<=n+1->Oth A w0 w->OwnR w B 44 A n c 3 ((stabS (l.take i)++l.drop i).map Sw.row)->F.slices_insertionSortCmpFunc_api_Work.L1 A n c 0 n f a k i B w R:=by
 intro d
 induction d with
 |zero=>
  intro i w hd h1 hi hw ho
  rw[List.take_of_length_le (by omega),List.drop_eq_nil_of_le (by omega),List.append_nil]at ho
  exact F.slices_insertionSortCmpFunc_api_Work.L1.step _ _ _ _ _ _ _ _ _ _ _ _ ⟨fun h=>by omega,fun _=>hR w hw ho⟩
 |succ d ih=>
  intro i w hd h1 hi hw ho
  have e3:(i:Int)+1=((i+1:Nat):Int):=by omega
  refine F.slices_insertionSortCmpFunc_api_Work.L1.step _ _ _ _ _ _ _ _ _ _ _ _ ⟨fun hlt=> ?_,fun hge=> ?_⟩
  ·have hil:i<l.length:=by omega
   have hpl:(stabS (l.take i)).length=i:=by rw[stab_len,List.length_take];omega
   have et:l.take (i+1)=l.take i++[l[i]]:=by rw[List.take_add_one,List.getElem?_eq_getElem hil];rfl
   have inner:∀(j:Nat)(w:World),j<=i->Oth A w0 w->OwnR w B 44 A n c 3 (((stabS (l.take i)).take j++l[i]::((stabS (l.take i)).drop j++l.drop (i+1))).map Sw.row)->(∀y∈(stabS (l.take i)).drop j,ngS l[i]=true/\ngS y=false)->
     F.slices_insertionSortCmpFunc_api_Work.L4 A n c 0 n f a k i j B w R:=by
    intro j
    induction j with
    |zero=>
     intro w hj hw ho hd'
     refine F.slices_insertionSortCmpFunc_api_Work.L4.step _ _ _ _ _ _ _ _ _ _ _ _ _ ⟨fun h=>by omega,fun _=>⟨by simp only[inR];omega,fun w30 x30=> ?_⟩⟩
     rw[e3]
     refine ih (i+1) w30 (by omega) (by omega) (by omega) (hw.trans (Oth.low (extAll x30))) ?_
     have:=stab_ins (l:=l.take i) (x:=l[i]) (j:=0) (by omega) hd' (.inl rfl)
     rw[et,<-this]
     simpa using ho.extNil x30
    |succ j ihj=>
     intro w hj hw ho hd'
     have hjp:j<(stabS (l.take i)).length:=by omega
     have htk:(stabS (l.take i)).take (j+1)=(stabS (l.take i)).take j++[(stabS (l.take i))[j]]:=by rw[List.take_add_one,List.getElem?_eq_getElem hjp];rfl
     have hdr:(stabS (l.take i)).drop j=(stabS (l.take i))[j]::(stabS (l.take i)).drop (j+1):=List.drop_eq_getElem_cons hjp
     generalize hy:(stabS (l.take i))[j]=y at*
     have eL:(stabS (l.take i)).take (j+1)++l[i]::((stabS (l.take i)).drop (j+1)++l.drop (i+1))=(stabS (l.take i)).take j++y::l[i]::((stabS (l.take i)).drop (j+1)++l.drop (i+1)):=by rw[htk];simp
     rw[eL]at ho
     have hTl:((stabS (l.take i)).take j).length=j:=by rw[List.length_take];omega
     generalize hT:(stabS (l.take i)).take j=T at*
     generalize hD:(stabS (l.take i)).drop (j+1)++l.drop (i+1)=D at*
     have hLl:(T++y::l[i]::D).length=n:=by have:=ho.len;rwa [List.length_map]at this
     have g1:(T++y::l[i]::D)[j+1]? =some l[i]:=by rw[List.getElem?_append_right (by omega),hTl];simp
     have g0:(T++y::l[i]::D)[j]? =some y:=by rw[List.getElem?_append_right (by omega),hTl];simp
     have ej:((j+1:Nat):Int) - 1=(j:Int):=by omega
     have rd:∀(w:World),OwnR w B 44 A n c 3 ((T++y::l[i]::D).map Sw.row)->∀(m:Nat)(z:Sw),(T++y::l[i]::D)[m]? =some z->(0<=(m:Int)/\(m:Int)<n)/\∃a,A=some a/\CellsAt w (a.add ((m:Int).toNat*3)) z.row:=by
      intro w ho m z hz
      obtain⟨hm,e⟩:=List.getElem?_eq_some_iff.1 hz
      obtain⟨hb,ad,hA,hc,_⟩:=ho.sl.at_ (fun _=>rfl) hLl hm
      rw[e]at hc
      exact⟨hb,ad,hA,hc⟩
     obtain⟨b1',a1,hA1,c1⟩:=rd w ho (j+1) _ g1
     obtain⟨b0',a0,hA0,c0'⟩:=rd w ho j _ g0
     refine F.slices_insertionSortCmpFunc_api_Work.L4.step _ _ _ _ _ _ _ _ _ _ _ _ _ ⟨fun _=>⟨b1',a1,hA1,_,_,_,c1,by simp only[inR];omega,?_⟩,fun h=>by omega⟩
     rw[ej]
     refine⟨b0',a0,hA0,_,_,_,c0',hcall,fun w9 x9=> ?_⟩
     have hw9:=hw.trans (Oth.low (extAll x9))
     have o9:=ho.extNil x9
     refine Pure.mono (hf w9 hw9 l[i] y) ?_
     rintro v w12 b12 ⟨z,rfl,hz⟩
     have hw12:=hw9.trans (Oth.low b12)
     have o12:=o9.below b12
     refine⟨_,rfl,fun hneg=> ?_,fun hpos=>⟨by simp only[inR];omega,?_⟩⟩
     ·have hz:=hz.1 hneg
      obtain⟨_,a5,hA5,c5⟩:=rd w12 o12 j _ g0
      obtain⟨_,a6,hA6,c6⟩:=rd w12 o12 (j+1) _ g1
      refine⟨by simp only[inR];omega,by simp only[inR];omega,b0',a5,hA5,_,_,_,c5,b1',a6,hA6,_,_,_,c6,b1',a6,hA6,fun w22 x22=> ?_⟩
      have o22:=o12.extNil x22
      have hw22:=hw12.trans (Oth.low (extAll x22))
      obtain⟨p1,p2,p3,cs,p4,p5,p6,p7,p8⟩:=o22.set0 (i:=((j+1:Nat):Int)) (by omega) (by omega) y.row l[i].row (by rw[Int.toNat_natCast,List.getElem?_map,g1];rfl) rfl
      rw[hA6]at p3
      cases p3
      refine⟨cs,_,p4,p5,p6,p7,rfl,fun w25 hw25=> ?_⟩
      have o25:=p8 w25 hw25
      rw[Int.toNat_natCast,<-List.map_set]at o25
      have h25:=hw22.trans (Oth.wrote hw25 ⟨_,hA6,blk_add _ _⟩)
      have hg25:((T++y::l[i]::D).set (j+1) y)[j]? =some y:=by rw[List.getElem?_set_ne (by omega),g0]
      obtain⟨q1,q2,q3,cs2,q4,q5,q6,q7,q8⟩:=o25.set0 (i:=(j:Int)) (by omega) (by omega) l[i].row y.row (by rw[Int.toNat_natCast,List.getElem?_map,hg25];rfl) rfl
      refine⟨b0',q2,q3,cs2,_,q4,q5,q6,q7,rfl,fun w29 hw29=>⟨by simp only[inR];omega,?_⟩⟩
      have o29:=q8 w29 hw29
      rw[Int.toNat_natCast,<-List.map_set]at o29
      have h29:=h25.trans (Oth.wrote hw29 ⟨_,q3,blk_add _ _⟩)
      have es:=swap_set (T:=T) (D:=D) (x:=l[i]) (y:=y)
      rw[hTl]at es
      rw[es]at o29
      refine ihj w29 (by omega) h29 ?_ ?_
      ·rw[hdr,<-hD]at*
       simpa using o29
      ·intro q hq
       rw[hdr]at hq
       rcases List.mem_cons.1 hq with rfl|hq
       ·exact hz
       ·exact hd' q hq
     ·have hz:¬(ngS l[i]=true/\ngS y=false):=fun q=>hpos (hz.2 q)
      rw[e3]
      refine ih (i+1) w12 (by omega) (by omega) (by omega) hw12 ?_
      have:=stab_ins (l:=l.take i) (x:=l[i]) (j:=j+1) (by rw[List.length_take];omega) hd' (.inr ⟨y,by rw[Nat.add_sub_cancel,List.getElem?_eq_getElem hjp,hy],hz⟩)
      rw[et,<-this]
      have e5:(stabS (l.take i)).take (j+1)++l[i]::(stabS (l.take i)).drop (j+1)++l.drop (i+1)=T++y::l[i]::D:=by rw[<-eL,<-hD];simp
      rw[e5]
      exact o12
   refine inner i w (Nat.le_refl _) hw ?_ ?_
   ·rw[List.take_of_length_le (by omega),List.drop_eq_nil_of_le (by omega),List.nil_append,<-List.drop_eq_getElem_cons hil]
    exact ho
   ·rw[List.drop_eq_nil_of_le (by omega)]
    simp
  ·rw[List.take_of_length_le (by omega),List.drop_eq_nil_of_le (by omega),List.append_nil]at ho
   exact hR w hw ho
end
theorem sortS{w:World}{B:Nat}(hB:B<=w.heap.size){A:Option Addr}{n c:Nat}{l:List Sw}(ho:OwnR w B 44 A n c 3 (l.map Sw.row))(hn:n<=6){f:Nat}{a k:Array Value}(hcall:callable Tryz.prog f=true)
  (hf:∀w',Oth A w w'->∀x y:Sw,Pure Tryz.prog f (a.toList++([x.val,y.val]:List Value)++k.toList).toArray w' fun v _=>∃i:Int,v= .int .i64 i/\(i<0↔(ngS x=true/\ngS y=false))):
  PureB Tryz.prog 43 #[.slice A n c,.func (.func f) a k] B w fun v w'=>v= .tuple #[]/\OwnR w' B 44 A n c 3 ((stabS l).map Sw.row)/\Oth A w w':=by
 have hlen:l.length=n:=by have:=ho.len;rwa [List.length_map]at this
 refine F.slices_SortStableFunc_api_Work_api_Work.vcB _ _ _ _ _ _ _ _ hB _ ?_
 refine PureB.mono (F.slices_stableCmpFunc_api_Work.vcB _ _ _ _ _ _ _ _ _ hB (fun v w'=>v= .tuple #[]/\OwnR w' B 44 A n c 3 ((stabS l).map Sw.row)/\Oth A w w') (F.slices_stableCmpFunc_api_Work.L2.step _ _ _ _ _ _ _ _ _ _ _ _ _ ⟨fun h=>by omega,fun _=> ?_⟩)) ?_
 ·refine PureB.mono (F.slices_insertionSortCmpFunc_api_Work.vcB _ _ _ _ _ _ _ _ _ _ hB (fun v w'=>v= .tuple #[]/\OwnR w' B 44 A n c 3 ((stabS l).map Sw.row)/\Oth A w w') ⟨by simp only[inR];omega,?_⟩) ?_
  ·refine sort_L1 (w0:=w) hlen (by omega) hcall hf (fun w' h1 h2=>⟨rfl,h2,h1⟩) n 1 w (by omega) (by omega) (by omega) Oth.refl ?_
   have e:stabS (l.take 1)++l.drop 1=l:=by
    cases l with
    |nil=>rfl
    |cons x r=>
     have:stabS [x]=[x]:=by unfold stabS;cases h:ngS x<;>simp[h]
     rw[show List.take 1 (x::r)=[x]from rfl,this]
     rfl
   rw[e]
   exact ho
  ·rintro v w4 b4 ⟨rfl,h1,h2⟩
   refine⟨fun _ _ _ h=>(by cases h),rfl,F.slices_stableCmpFunc_api_Work.L7.step _ _ _ _ _ _ _ _ _ _ _ ⟨fun h=>by omega,fun _=>⟨rfl,h1,h2⟩⟩⟩
 ·rintro v w2 b2 ⟨rfl,h1,h2⟩
  exact⟨fun _ _ _ h=>(by cases h),rfl,rfl,h1,h2⟩

def outD(f:Nat->Nat->Int)(ps:List Pa)(hs:List Ho)(k i:Nat):List Sw:=((List.range k).flatMap fun k=>(List.range ps.length).flatMap fun i=>difE f ps hs k i)++(List.range i).flatMap fun i=>difE f ps hs k i
theorem outD_end(f:Nat->Nat->Int)(ps:List Pa)(hs:List Ho)(k:Nat):outD f ps hs k ps.length=outD f ps hs (k+1) 0:=by
 unfold outD
 rw[List.range_succ,List.flatMap_append]
 simp
theorem outD_step(f:Nat->Nat->Int)(ps:List Pa)(hs:List Ho)(k i:Nat):outD f ps hs k (i+1)=outD f ps hs k i++difE f ps hs k i:=by
 unfold outD
 rw[List.range_succ,List.flatMap_append]
 simp
def WkR(r:List Sw×Int)(v:Value)(w':World):Prop:=∃A n c,v= .tuple #[.slice A n c,.int .i64 r.2]/\SlR w' A 3 (r.1.map Sw.row)/\r.1.length=n/\n<=c
theorem between_cmp{w:World}{p:Nat}{t:Nat}(h:w.heap[p]? =some (.cells [Value.func (.func 42) #[] #[]].toArray t (0,0)))(x y:Sw):
  Pure Tryz.prog 44 #[x.val,y.val,.pointer (some ⟨p,0,none⟩)] w fun v _=>∃i:Int,v= .int .i64 i/\(i<0↔(ngS x=true/\ngS y=false)):=by
 have inS':∀(z:Sw)(w:World),Pure Tryz.prog 42 #[z.val] w fun v _=>v= .int .i64 (if ngS z then 0 else 1):=by
  intro z w
  refine F.sequence_Between_c1.vc _ _ _ _ _ ⟨fun h w1 _=> ?_,fun h w1 _=> ?_⟩
  ·rw[if_pos (show ngS z=true from decide_eq_true h)]
  ·rw[if_neg (show ¬ngS z=true from by unfold ngS;simpa using h)]
 refine F.sequence_Between_c2.vc _ _ _ _ _ _ _ _ _ fun w1 x1=> ?_
 have hb:=heap_keep h (k0 x1)
 refine⟨_,_,_,box_cell0 hb rfl,_,_,_,box_cell0 hb rfl,by kernel_rfl,fun w4 x4=>Pure.mono (inS' x w4) ?_⟩
 rintro v w7 _ rfl
 refine⟨_,rfl,by kernel_rfl,Pure.mono (inS' y w7) ?_⟩
 rintro v w10 _ rfl
 refine⟨_,rfl,Pure.mono (cmp_int _ _ _) ?_⟩
 rintro v w13 _ rfl
 refine⟨_,rfl,_,rfl,?_⟩
 rw[cmpI_lt]
 cases ngS x<;>cases ngS y<;>simp
section
variable {w:World} {A0 A1 A A':Option Addr} {n0 c0 n1 c1 n c n' c':Nat} {ps:List Pa} {hs:List Ho} {l m:List Sw}
theorem seq_Between(hg:Glob w)(hc:CgIn w A0 n0 A1 n1 ps hs)(h:SlR w A 3 (l.map Sw.row))(hl:l.length=n)(hnc:n<=c)(hn:n<2147483648)(h':SlR w A' 3 (m.map Sw.row))(hm:m.length=n')(hnc':n'<=c')(hn':n'<2147483648):
  Pure Tryz.prog 12 #[.agg #[.slice A0 n0 c0,.slice A1 n1 c1],.slice A n c,.slice A' n' c'] w (WkR (betweenF ps hs l m)):=by
 have hn0:=hc.np
 have hn1:=hc.nh
 have hlp:=hc.lp
 have hlh:=hc.lh
 have bad:∀(e:Int)(w':World),WkR ([],e) (.tuple #[.slice none 0 0,.int .i64 e]) w':=fun e w'=>⟨_,_,_,rfl,.inl rfl,rfl,Nat.le_refl _⟩
 refine F.sequence_Between.vc _ _ _ _ _ _ _ _ _ _ _ _ _ _ fun w1 x1=> ?_
 have hw:=k0 x1
 refine Pure.mono (cargo_Amounts (hg.next hw) (hc.keep hw) (h.keep hw (Nat.le_refl _)) hl hnc hn) ?_
 intro v w5 b5 hv
 have hw5:=kP hw b5
 unfold betweenF
 have rest:∀(A2:Option Addr)(N:Nat)(e:Int)(w5:World),Below w.heap.size w w5->(e≠0↔stowedF ps hs l≠0)->(e=0->OwnR w5 w.heap.size 3 A2 N N 1 ((amountsF ps hs l).map iRow)/\N=n0*n1)->Pure Tryz.prog 41 #[.agg #[.slice A0 n0 c0,.slice A1 n1 c1],.slice A' n' c'] w5 fun r8 w9=>∃(A6:Option Addr)(n6 c6:Nat)(i7:Int),r8= .tuple #[.slice A6 n6 c6,.int .i64 i7]/\((e≠0->WkR (if stowedF ps hs l≠0∨stowedF ps hs m≠0 then(([],1):List Sw×Int)else if 6<(difG (difA ps hs l m) ps hs).length then([],8)else(workG (difA ps hs l m) ps hs,0)) (.tuple #[.slice none 0 0,.int .i64 1]) w9)/\(¬e≠0->((i7≠0->WkR (if stowedF ps hs l≠0∨stowedF ps hs m≠0 then(([],1):List Sw×Int)else if 6<(difG (difA ps hs l m) ps hs).length then([],8)else(workG (difA ps hs l m) ps hs,0)) (.tuple #[.slice none 0 0,.int .i64 1]) w9)/\(¬i7≠0->F.sequence_Between.L7 A2 N N A6 n6 c6 none 0 0 A1 n1 c1 n1 0 A0 n0 c0 A1 n1 c1 w.heap.size w9 (WkR (if stowedF ps hs l≠0∨stowedF ps hs m≠0 then(([],1):List Sw×Int)else if 6<(difG (difA ps hs l m) ps hs).length then([],8)else(workG (difA ps hs l m) ps hs,0))))))):=by
  intro A2 N e w5 hw5 he hown
  refine Pure.mono (cargo_Amounts (hg.next hw5) (hc.keep hw5) (h'.keep hw5 (Nat.le_refl _)) hm hnc' hn') ?_
  intro v w9 b9 hv
  have hw9:=kP hw5 b9
  by_cases h2:stowedF ps hs m≠0
  ·have hv:=hv.1 h2
   subst hv
   rw[if_pos (.inr h2)]
   exact⟨_,_,_,_,rfl,fun _=>bad 1 _,fun _=>⟨fun _=>bad 1 _,fun q=>absurd (by decide) q⟩⟩
  obtain⟨A6,N6,hv,o6,hN6⟩:=hv.2 (Decidable.not_not.1 h2)
  subst hv
  refine⟨_,_,_,_,rfl,fun q=>by rw[if_pos (.inl (he.1 q))];exact bad 1 _,fun q=>⟨fun q2=>absurd rfl q2,fun _=> ?_⟩⟩
  have h1:¬stowedF ps hs l≠0:=fun k=>q (he.2 k)
  rw[if_neg (by rintro(k|k);exact h1 k;exact h2 k)]
  obtain⟨o2,hN⟩:=hown (Decidable.not_not.1 q)
  have hrl:=stowed_right (Decidable.not_not.1 h1)
  have hrm:=stowed_right (Decidable.not_not.1 h2)
  have o2:=o2.below b9
  have o6:=o6.base hw5.size
  have hal:(amountsF ps hs l).length=N:=by rw[amounts_len,hlp,hlh,hN]
  have ham:(amountsF ps hs m).length=N6:=by rw[amounts_len,hlp,hlh,hN6]
  have hle:n0*n1<=7*7:=Nat.mul_le_mul hn0 hn1
  have key:∀(d j:Nat)(A8:Option Addr)(n8 c8:Nat)(w':World),n1 - j=d->j<=n1->Below w9.heap.size w9 w'->OwnR w' w9.heap.size 44 A8 n8 c8 3 ((outD (difA ps hs l m) ps hs j 0).map Sw.row)->n8<=7*j->
    F.sequence_Between.L7 A2 N N A6 N6 N6 A8 n8 c8 A1 n1 c1 n1 j A0 n0 c0 A1 n1 c1 w.heap.size w' (WkR (if 6<(difG (difA ps hs l m) ps hs).length then([],8)else(workG (difA ps hs l m) ps hs,0))):=by
   intro d
   induction d with
   |zero=>
    intro j A8 n8 c8 w' hd hj hw' ho hb
    have:j=hs.length:=by omega
    subst this
    have eD:outD (difA ps hs l m) ps hs hs.length 0=difG (difA ps hs l m) ps hs:=by unfold outD difG;simp
    rw[eD]at ho
    have hln:=ho.len
    rw[List.length_map]at hln
    refine F.sequence_Between.L7.step _ _ _ _ _ _ _ _ _ _ _ _ _ _ _ _ _ _ _ _ _ _ _ ⟨fun h=>by omega,fun _=>⟨fun k=> ?_,fun k w19 x19 p20 hp20 hb20=> ?_⟩⟩
    ·rw[if_pos (by omega)]
     exact bad 8 _
    ·rw[if_neg (by omega)]
     have hsz:=x19.below.size
     have o19:=ho.extNil x19
     refine PureB.mono (sortS (B:=w.heap.size) (a:= #[]) (k:= #[.pointer (some ⟨p20,0,none⟩)]) (by have:=hw9.size;have:=hw'.size;omega) (o19.base hw9.size) (by omega) (by kernel_rfl) fun w' hoth x y=>between_cmp ((hoth.2 p20 (Array.getElem?_eq_some_iff.1 hb20).1 fun a ha e=> ?_).trans hb20) x y) ?_
     ·obtain⟨cs,hcs⟩:=o19.cells a ha
      rw[<-e,hb20]at hcs
      cases hcs
     ·rintro v w22 b22 ⟨rfl,o22,hoth⟩
      refine⟨fun i ty cs hty e=>hoth.2 i (Array.getElem?_eq_some_iff.1 e).1 fun a ha q=> ?_,rfl,?_⟩
      ·obtain⟨cs',hcs⟩:=o19.cells a ha
       rw[<-q,e]at hcs
       cases hcs
       exact absurd hty (by decide)
      ·rw[stab_work]at o22
       have hl22:=o22.len
       rw[List.length_map]at hl22
       exact⟨_,_,_,rfl,o22.sl,hl22,o22.len_le⟩
   |succ d ih=>
    intro j A8 n8 c8 w' hd hj hw' ho hb
    have hjl:j<hs.length:=by omega
    have ej3:(j:Int)+1=((j+1:Nat):Int):=by omega
    have hww:=kP hw9 hw'
    obtain⟨hbh,ah,hAh,hch,_⟩:=((hc.keep hww).h).at_ (fun _=>rfl) hlh hjl
    refine F.sequence_Between.L7.step _ _ _ _ _ _ _ _ _ _ _ _ _ _ _ _ _ _ _ _ _ _ _ ⟨fun _=>⟨hbh,ah,hAh,_,_,_,_,_,_,_,hch,fun w18 x18=> ?_⟩,fun h=>by omega⟩
    have inner:∀(e i:Nat)(A8:Option Addr)(n8 c8:Nat)(w':World),n0 - i=e->i<=n0->Below w9.heap.size w9 w'->OwnR w' w9.heap.size 44 A8 n8 c8 3 ((outD (difA ps hs l m) ps hs j i).map Sw.row)->n8<=7*j+i->
      F.sequence_Between.L10 A2 N N A6 N6 N6 A8 n8 c8 j A1 n1 c1 n1 j A0 n0 c0 n0 i A0 n0 c0 A1 n1 c1 hs[j].id hs[j].name hs[j].room hs[j].most hs[j].x hs[j].y hs[j].z w.heap.size w' (WkR (if 6<(difG (difA ps hs l m) ps hs).length then([],8)else(workG (difA ps hs l m) ps hs,0))):=by
     intro e
     induction e with
     |zero=>
      intro i A8 n8 c8 w' he hi hw' ho hb
      have:i=ps.length:=by omega
      subst this
      rw[outD_end]at ho
      refine F.sequence_Between.L10.step _ _ _ _ _ _ _ _ _ _ _ _ _ _ _ _ _ _ _ _ _ _ _ _ _ _ _ _ _ _ _ _ _ _ _ _ ⟨fun h=>by omega,fun _=>⟨by simp only[inR];omega,?_⟩⟩
      rw[ej3]
      exact ih (j+1) A8 n8 c8 w' (by omega) (by omega) hw' ho (by omega)
     |succ e ihe=>
      intro i A8 n8 c8 w' he hi hw' ho hb
      have hil:i<ps.length:=by omega
      have ei3:(i:Int)+1=((i+1:Nat):Int):=by omega
      have hww:=kP hw9 hw'
      have hidx:i*n1+j<n0*n1:=idx_lt (by omega) (by omega)
      have hix:i*n1<=7*7:=Nat.mul_le_mul (by omega) hn1
      have e5:(i:Int)*(n1:Int)=((i*n1:Nat):Int):=by simp
      have e6:((i*n1:Nat):Int)+(j:Int)=((i*n1+j:Nat):Int):=by simp
      have ga:=amounts_get (l:=l) (List.getElem?_eq_getElem hil) (List.getElem?_eq_getElem hjl)
      have gb:=amounts_get (l:=m) (List.getElem?_eq_getElem hil) (List.getElem?_eq_getElem hjl)
      rw[hlh]at ga gb
      obtain⟨ka,ga⟩:=List.getElem?_eq_some_iff.1 ga
      obtain⟨kb,gb⟩:=List.getElem?_eq_some_iff.1 gb
      have sa:=amounts_small hrl _ (List.getElem_mem ka)
      have sb:=amounts_small hrm _ (List.getElem_mem kb)
      have hdif:difE (difA ps hs l m) ps hs j i=if(amountsF ps hs m)[i*n1+j] - (amountsF ps hs l)[i*n1+j]≠0 then[⟨hs[j].id,ps[i].id,(amountsF ps hs m)[i*n1+j] - (amountsF ps hs l)[i*n1+j]⟩]else[]:=by
       unfold difE difA
       rw[List.getElem?_eq_getElem hil,List.getElem?_eq_getElem hjl,fA_eq (List.getElem?_eq_getElem hjl) (List.getElem?_eq_getElem hil),fA_eq (List.getElem?_eq_getElem hjl) (List.getElem?_eq_getElem hil),ga,gb]
      have ra:∀w',Below w9.heap.size w9 w'->(0<=((i*n1+j:Nat):Int)/\((i*n1+j:Nat):Int)<N)/\∃a,A2=some a/\CellsAt w' (a.add (((i*n1+j:Nat):Int).toNat*1)) (iRow (amountsF ps hs l)[i*n1+j]):=fun w' hw'=>by
       obtain⟨b,a,hA,hc,_⟩:=((o2.below hw').sl).at_ (fun _=>rfl) hal ka
       exact⟨b,a,hA,hc⟩
      have rb:∀w',Below w9.heap.size w9 w'->(0<=((i*n1+j:Nat):Int)/\((i*n1+j:Nat):Int)<N6)/\∃a,A6=some a/\CellsAt w' (a.add (((i*n1+j:Nat):Int).toNat*1)) (iRow (amountsF ps hs m)[i*n1+j]):=fun w' hw'=>by
       obtain⟨b,a,hA,hc,_⟩:=((o6.below hw').sl).at_ (fun _=>rfl) ham kb
       exact⟨b,a,hA,hc⟩
      obtain⟨hbp,ap,hAp,hcp,_⟩:=((hc.keep hww).p).at_ (fun _=>rfl) hlp hil
      refine F.sequence_Between.L10.step _ _ _ _ _ _ _ _ _ _ _ _ _ _ _ _ _ _ _ _ _ _ _ _ _ _ _ _ _ _ _ _ _ _ _ _ ⟨fun _=>⟨hbp,ap,hAp,_,_,_,_,_,_,_,hcp,?_⟩,fun h=>by omega⟩
      rw[e5,e6]
      refine⟨by simp only[inR];omega,by simp only[inR];omega,fun w31 x31=> ?_⟩
      have hw31:=kP hw' (extAll x31)
      obtain⟨ba,aa,hAa,ca⟩:=ra w31 hw31
      obtain⟨bb,ab,hAb,cb⟩:=rb w31 hw31
      refine⟨ba,aa,hAa,_,ca,bb,ab,hAb,_,cb,fun hne w36 x36=> ?_,fun heq=>⟨by simp only[inR];omega,fun w48 x48=> ?_⟩⟩
      ·have hw36:=kP hw31 (extAll x36)
       obtain⟨ba,aa,hAa,ca⟩:=ra w36 hw36
       obtain⟨bb,ab,hAb,cb⟩:=rb w36 hw36
       refine⟨bb,ab,hAb,_,cb,ba,aa,hAa,_,ca,by simp only[inR];omega,fun w41 x41=> ?_⟩
       have hw41:=kP hw36 (extAll x41)
       have o41:=((ho.extNil x31).extNil x36).extNil x41
       refine app_row el_Ws (B:=w9.heap.size) hw9.size o41 (x:= .agg #[.int .i64 hs[j].id,.int .i64 ps[i].id,.int .i64 ((amountsF ps hs m)[i*n1+j] - (amountsF ps hs l)[i*n1+j])]) rfl (by simp[Value.cells,isCell]) hw41.size (by omega) (by decide) fun A' c' w2 o2' g2 _=>⟨by simp only[inR];omega,?_⟩
       rw[ei3]
       refine ihe (i+1) A' (n8+1) c' w2 (by omega) (by omega) (hw41.trans (below_grown g2 (fun q hq=> ?_) hw41.size)) ?_ (by omega)
       ·cases A8 with
        |none=>cases hq
        |some a8=>cases hq;exact(o41.blk a8 rfl).1
       ·rw[outD_step,hdif,if_pos (by omega),List.map_append]
        exact o2'
      ·rw[ei3]
       refine ihe (i+1) A8 n8 c8 w48 (by omega) (by omega) (kP hw31 (extAll x48)) ?_ (by omega)
       rw[outD_step,hdif,if_neg (by omega),List.append_nil]
       exact(ho.extNil x31).extNil x48
    exact inner n0 0 A8 n8 c8 w18 rfl (by omega) (kP hw' (extAll x18)) (ho.extNil x18) (by omega)
  exact key n1 0 none 0 0 w9 rfl (by omega) (Below.refl _ _) (by rw[show outD (difA ps hs l m) ps hs 0 0=[]from rfl];exact OwnR.nil) (by omega)
 by_cases h1:stowedF ps hs l≠0
 ·have hv:=hv.1 h1
  subst hv
  exact⟨_,_,_,_,rfl,rest none 0 1 w5 hw5 ⟨fun _=>h1,fun _=>by decide⟩ (fun q=>by cases q)⟩
 ·obtain⟨A2,N,hv,o2,hN⟩:=hv.2 (Decidable.not_not.1 h1)
  subst hv
  exact⟨_,_,_,_,rfl,rest A2 N 0 w5 hw5 ⟨fun q=>absurd rfl q,fun q=>absurd q h1⟩ (fun _=>⟨o2.base hw.size,hN⟩)⟩
end

theorem index_int{w0:World}{A:Option Addr}{n c:Nat}{l:List Int}(hl:SlR w0 A 1 (l.map iRow))(hlen:l.length=n)(hn:n<2147483648)(z:Int){R:Value->World->Prop}{r:Int}(hR:∀w,R (.int .i64 r) w):
  ∀(d i:Nat)(w:World),n - i=d->i<=n->Below w0.heap.size w0 w->r=idxG (fun x=>decide (x=z)) i (l.drop i)->F.slices_Index_int_int.L2 A n c z n i w0.heap.size w R:=by
 intro d
 induction d with
 |zero=>
  intro i w hd hi hw hr
  rw[List.drop_eq_nil_of_le (by omega)]at hr
  subst hr
  exact F.slices_Index_int_int.L2.step _ _ _ _ _ _ _ _ _ ⟨fun h=>by omega,fun _=>hR w⟩
 |succ d ih=>
  intro i w hd hi hw hr
  have hil:i<l.length:=by omega
  rw[List.drop_eq_getElem_cons hil,idxG]at hr
  obtain⟨hb,ad,hA,hcell,_⟩:=(hl.keep hw (Nat.le_refl _)).at_ (fun _=>rfl) hlen hil
  refine F.slices_Index_int_int.L2.step _ _ _ _ _ _ _ _ _ ⟨fun _=>⟨hb,ad,hA,_,hcell,fun h=> ?_,fun h=>⟨by simp only[inR];omega,?_⟩⟩,fun h=>by omega⟩
  ·rw[if_pos (decide_eq_true h.symm)]at hr
   subst hr
   exact hR w
  ·rw[if_neg (by simpa using fun k=>h k.symm)]at hr
   have e3:(i:Int)+1=((i+1:Nat):Int):=by omega
   rw[e3]
   exact ih (i+1) w (by omega) (by omega) hw hr
theorem hasInt{w0:World}{A:Option Addr}{n c:Nat}{l:List Int}(hl:SlR w0 A 1 (l.map iRow))(hlen:l.length=n)(hn:n<2147483648)(z:Int):
  Pure Tryz.prog 57 #[.slice A n c,.int .i64 z] w0 fun v _=>v= .bool (decide (z∈l)):=by
 refine F.slices_Contains_int_int.vc _ _ _ _ _ _ (Pure.mono (F.slices_Index_int_int.vc _ _ _ _ _ _ (index_int hl hlen hn z (R:=fun v _=>v= .int .i64 (idxG (fun x=>decide (x=z)) 0 l)) (fun _=>rfl) n 0 w0 rfl (by omega) (Below.refl _ _) rfl)) ?_)
 rintro v w2 _ rfl
 refine⟨_,rfl,?_⟩
 rw[any_idx]
 refine congrArg Value.bool ?_
 rw[Bool.eq_iff_iff,List.any_eq_true,decide_eq_true_eq]
 simp

structure Run (w0 wb:World) (k:Tk) (ps:List Pa) (hs:List Ho) (xs:List Rm) (l works:List Sw) (w:World):Prop where
 b:Below w0.heap.size w0 w
 lo:w0.heap.size<=wb.heap.size
 tb:TkIn wb k ps hs xs l works
 c:Cl wb w
 kn:KnIn w w0.heap.size k (allowF ps hs (rsOf xs) l works)
 m:k.m<wb.heap.size
section
variable {w0 wb w:World} {A0 A1 A2 A A3 A5:Option Addr} {n0 c0 n1 c1 n2 c2 n c n3 c3 n5 c5:Nat} {ps:List Pa} {hs:List Ho} {xs:List Rm} {l works:List Sw} {k:Tk} {o:List Int}
theorem Run.t(h:Run w0 wb k ps hs xs l works w):TkIn w k ps hs xs l works:=h.tb.cl h.c
theorem Run.hi{w w':World}(h:Run w0 wb k ps hs xs l works w)(hb:Below wb.heap.size w w'):Run w0 wb k ps hs xs l works w':=by
 obtain⟨f,f1,f2⟩:=h.kn
 refine⟨h.b.trans (hb.mono h.lo),h.lo,h.tb,⟨Nat.le_trans h.c.size hb.size,fun i cs ty fr e=> ?_⟩,⟨f,f1.same (hb.block _ h.m),f2⟩,h.m⟩
 rw[hb.block i (Array.getElem?_eq_some_iff.1 e).1]
 exact h.c.cells i cs ty fr e
theorem Run.keep{w w':World}(h:Run w0 wb k ps hs xs l works w)(hb:Below w.heap.size w w'):Run w0 wb k ps hs xs l works w':=h.hi (hb.mono h.c.size)
theorem Run.new(hb:Below w0.heap.size w0 wb)(ht:TkIn wb k ps hs xs l works)(hk:KnIn wb w0.heap.size k (allowF ps hs (rsOf xs) l works)):Run w0 wb k ps hs xs l works wb:=
 ⟨hb,hb.size,ht,Cl.refl _,hk,by obtain⟨f,f1,_⟩:=hk;exact f1.lt⟩
theorem Run.allowed(hg:Glob w0)(h:Run w0 wb k ps hs xs l works w){s:Nat}(hs':s<128){R:Value->World->Prop}(hR:∀w',Run w0 wb k ps hs xs l works w'->But k.m w w'->Cl w w'->R (.bool (allowF ps hs (rsOf xs) l works s)) w'):
  PureB Tryz.prog 53 #[.pointer (some k.p),.int .i64 (s:Int)] w0.heap.size w R:=by
 refine PureB.mono (seq_allowed (hg.next h.b) h.t h.b.size h.kn hs') ?_
 rintro v w' b' ⟨rfl,kn,bt⟩
 have hc:=bt.cl h.kn.map
 exact hR w' ⟨h.b.trans b',h.lo,h.tb,h.c.trans hc,kn,h.m⟩ bt hc
theorem seq_Check(hg:Glob w)(hp:PrIn w A0 n0 A1 n1 A2 n2 c2 ps hs xs)(h:SlR w A 3 (l.map Sw.row))(hl:l.length=n)(hnc:n<=c)(hn:n<=40)(hwk:SlR w A3 3 (works.map Sw.row))(hlw:works.length=n3)(ho:SlR w A5 1 (o.map iRow))(hlo:o.length=n5)(hn5:n5<2147483648):
  Pure Tryz.prog 27 #[.agg #[.slice A0 n0 c0,.slice A1 n1 c1,.slice A2 n2 c2],.slice A n c,.slice A3 n3 c3,.slice A5 n5 c5] w fun v _=>v= .tuple #[.int .i64 (ordersF ps hs (rsOf xs) l works o).1,.int .i64 (ordersF ps hs (rsOf xs) l works o).2]:=by
 refine F.sequence_Check.vc _ _ _ _ _ _ _ _ _ _ _ _ _ _ _ _ _ _ _ _ fun w1 x1=> ?_
 have hw:=k0 x1
 refine Pure.mono (seq_begin (hg.next hw) (hp.keep hw) (h.keep hw (Nat.le_refl _)) hl hnc hn (hwk.keep hw (Nat.le_refl _)) hlw) ?_
 intro v w5 b5 hv
 have hw5:=kP hw b5
 unfold ordersF
 by_cases h0:taskF ps hs (rsOf xs) l works≠0
 ·rw[if_pos h0]
  have hv:=hv.1 h0
  subst hv
  exact⟨_,_,rfl,fun _=>rfl,fun k=>absurd h0 k⟩
 rw[if_neg h0]
 obtain⟨k,hv,hk,hkn⟩:=hv.2 (Decidable.not_not.1 h0)
 subst hv
 have hk6:=hk.ok.n
 have run:Run w w5 k ps hs xs l works w5:= .new hw5 hk (hkn.le hw.size)
 unfold checkO
 refine⟨_,_,rfl,fun q=>absurd rfl q,fun _=>⟨fun h1=> ?_,fun h1=> ?_⟩⟩
 ·rw[if_pos (fun q=>by have:=q.1;omega)]
 have h1:n5=n3:=by omega
 have walk:(o.length=works.length/\∀i∈List.range works.length,((i:Nat):Int)∈o)->∀(d j s:Nat)(w':World),n5 - j=d->j<=n5->s<2^6->Run w w5 k ps hs xs l works w'->
   F.sequence_Check.L14 (some k.p) s A5 n5 c5 n5 j w.heap.size w' fun v _=>v= .tuple #[.int .i64 (walkO (allowF ps hs (rsOf xs) l works) s j (o.drop j)).1,.int .i64 (walkO (allowF ps hs (rsOf xs) l works) s j (o.drop j)).2]:=by
  intro hc d
  induction d with
  |zero=>
   intro j s w' hd hj hs' hr
   rw[List.drop_eq_nil_of_le (by omega)]
   exact F.sequence_Check.L14.step _ _ _ _ _ _ _ _ _ _ ⟨fun h=>by omega,fun _=>rfl⟩
  |succ d ih=>
   intro j s w' hd hj hs' hr
   have hjl:j<o.length:=by omega
   have e3:(j:Int)+1=((j+1:Nat):Int):=by omega
   obtain⟨x,hx⟩:∃x:Nat,o[j]=(x:Int)/\x<works.length:=by
    have:=(check_perm hc).mem_iff.1 (List.getElem_mem hjl)
    obtain⟨x,hx,e⟩:=List.mem_map.1 this
    exact⟨x,e.symm,List.mem_range.1 hx⟩
   obtain⟨hbb,ad,hA,hcell,_⟩:=(ho.keep hr.b (Nat.le_refl _)).at_ (fun _=>rfl) hlo hjl
   rw[List.drop_eq_getElem_cons hjl,walkO,hx.1,Int.toNat_natCast]
   rw[hx.1]at hcell
   have hs2:=addB_lt (i:=x) hs' (by omega)
   refine F.sequence_Check.L14.step _ _ _ _ _ _ _ _ _ _ ⟨fun _=>⟨hbb,ad,hA,_,hcell,sh_ok (by omega),?_⟩,fun h=>by omega⟩
   rw[shl_one _ (by omega),or_pow _ (by omega) _ (by omega)]
   refine hr.allowed hg (by omega) fun w13 r13 _ _=>⟨fun _ _ _ h=>(by cases h),_,rfl,fun h2=> ?_,fun h2=>⟨by simp only[inR];omega,?_⟩⟩
   ·rw[if_neg (by rw[h2];decide)]
   ·rw[if_pos (Bool.not_eq_false _|>.mp h2),e3]
    exact ih (j+1) (addB s x) w13 (by omega) (by omega) hs2 r13
 have key:∀(d j:Nat)(w':World),n3 - j=d->j<=n3->Run w w5 k ps hs xs l works w'->(∀i∈List.range j,((i:Nat):Int)∈o)->
   F.sequence_Check.L7 A5 n5 c5 (some k.p) n3 j w.heap.size w' fun v _=>v= .tuple #[.int .i64 (if ¬(o.length=works.length/\∀i∈List.range works.length,((i:Nat):Int)∈o)then((-1,10):Int×Int)else walkO (allowF ps hs (rsOf xs) l works) 0 0 o).1,.int .i64 (if ¬(o.length=works.length/\∀i∈List.range works.length,((i:Nat):Int)∈o)then((-1,10):Int×Int)else walkO (allowF ps hs (rsOf xs) l works) 0 0 o).2]:=by
  intro d
  induction d with
  |zero=>
   intro j w' hd hj hr hin
   have hc:o.length=works.length/\∀i∈List.range works.length,((i:Nat):Int)∈o:=⟨by omega,by rw[show works.length=j by omega];exact hin⟩
   rw[if_neg (fun q=>q hc)]
   refine F.sequence_Check.L7.step _ _ _ _ _ _ _ _ _ ⟨fun h=>by omega,fun _=> ?_⟩
   exact walk hc n5 0 0 w' rfl (by omega) (by decide) hr
  |succ d ih=>
   intro j w' hd hj hr hin
   have e3:(j:Int)+1=((j+1:Nat):Int):=by omega
   refine F.sequence_Check.L7.step _ _ _ _ _ _ _ _ _ ⟨fun _=> ?_,fun h=>by omega⟩
   refine Pure.mono (hasInt (ho.keep hr.b (Nat.le_refl _)) hlo hn5 j) ?_
   rintro v w8 b8 rfl
   refine⟨_,rfl,fun h2=> ?_,fun h2=>⟨by simp only[inR];omega,?_⟩⟩
   ·rw[if_pos (fun q=>of_decide_eq_false h2 (q.2 j (List.mem_range.2 (by omega))))]
   ·rw[e3]
    refine ih (j+1) w8 (by omega) (by omega) (hr.keep b8) fun i hi=> ?_
    rw[List.range_succ]at hi
    rcases List.mem_append.1 hi with hi|hi
    ·exact hin i hi
    ·rw[List.mem_singleton.1 hi]
     exact of_decide_eq_true (Bool.not_eq_false _|>.mp h2)
 exact key n3 0 w5 rfl (by omega) run (by simp)
end

def InR(r:List Int×Int)(v:Value)(w':World):Prop:=∃A n c,v= .tuple #[.slice A n c,.int .i64 r.2]/\SlR w' A 1 (r.1.map iRow)/\r.1.length=n/\n<=c
theorem reach_succ(al:Nat->Bool)(n s:Nat):reachedF al n (s+1)=stepR al n (reachedF al n s) (s+1):=by
 unfold reachedF
 rw[List.range_succ,List.foldl_append]
 rfl
section
variable {w0 wb w:World} {A0 A1 A2 A A3 A5:Option Addr} {n0 c0 n1 c1 n2 c2 n c n3 c3 n5 c5:Nat} {ps:List Pa} {hs:List Ho} {xs:List Rm} {l works:List Sw} {k:Tk} {o:List Int}
structure Own (wb:World) (m:Nat) (f:Int->Option Bool) (w:World):Prop where
 m:MpR w wb.heap.size 3 4 m f
theorem Own.but{w w':World}{m b:Nat}{f:Int->Option Bool}(h:Own wb m f w)(hb:But b w w')(hlt:b<wb.heap.size):Own wb m f w':=⟨h.m.same (hb.other _ h.m.lt (by have:=h.m.1;omega))⟩
theorem Own.low{w w':World}{m:Nat}{f:Int->Option Bool}(h:Own wb m f w)(hb:Below w.heap.size w w'):Own wb m f w':=⟨h.m.below hb⟩
theorem Own.row{w w':World}{m:Nat}{f:Int->Option Bool}(h:Own wb m f w){B ty:Nat}{A:Option Addr}{n c sz:Nat}{rows:List (List Value)}(ho:OwnR w B ty A n c sz rows)(hg:w.grownBy w' (Value.ownBlock (.slice A n c))):Own wb m f w':=by
 refine⟨h.m.same (hg.block _ h.m.lt fun e=> ?_)⟩
 obtain⟨es,cl,e1⟩:=h.m.isMap
 cases A with
 |none=>cases e
 |some a=>
  obtain⟨cs,e2⟩:=ho.cells a rfl
  cases e
  rw[e1]at e2
  cases e2
theorem grown_hi{w w':World}{B ty:Nat}{A:Option Addr}{n c sz:Nat}{rows:List (List Value)}(ho:OwnR w B ty A n c sz rows)(hg:w.grownBy w' (Value.ownBlock (.slice A n c)))(hB:B<=w.heap.size):Below B w w':=by
 refine below_grown hg (fun i e=> ?_) hB
 cases A with
 |none=>cases e
 |some a=>
  cases e
  exact(ho.blk a rfl).1

theorem reached_L10(hg:Glob w0){mr:Nat}{R:Value->World->Prop}{s:Nat}(hs0:1<=s)(hs':s<=fullN k.n3)(hn6:k.n3<=6){Ao:Option Addr}{no co:Nat}{f:Int->Option Bool}(hno:no<=s)(hf:∀z:Nat,(f (z:Int)).getD false=(reachedF (allowF ps hs (rsOf xs) l works) k.n3 (s - 1)).contains z)
  (next:∀(Ao:Option Addr)(no co:Nat)(f:Int->Option Bool)(w':World),Run w0 wb k ps hs xs l works w'->Own wb mr f w'->no<=s+1->OwnR w' wb.heap.size 3 Ao no co 1 ((reachedF (allowF ps hs (rsOf xs) l works) k.n3 s).map fun(z:Nat)=>iRow z)->(∀z:Nat,(f (z:Int)).getD false=(reachedF (allowF ps hs (rsOf xs) l works) k.n3 s).contains z)->F.sequence_Reached.L7 A3 k.n3 c3 (some k.p) (some mr) Ao no co ((s:Int)+1) w0.heap.size w' R):
  ∀(d i:Nat)(w':World),k.n3 - i=d->i<=k.n3->Run w0 wb k ps hs xs l works w'->Own wb mr f w'->OwnR w' wb.heap.size 3 Ao no co 1 ((reachedF (allowF ps hs (rsOf xs) l works) k.n3 (s - 1)).map fun(z:Nat)=>iRow z)->(((List.range i).any fun i=>s.testBit i&&(reachedF (allowF ps hs (rsOf xs) l works) k.n3 (s - 1)).contains (s^^^2^i))&&allowF ps hs (rsOf xs) l works s)=false->
   F.sequence_Reached.L10 A3 k.n3 c3 (some k.p) (some mr) Ao no co s k.n3 i w0.heap.size w' R:=by
 have h64:=pow64 _ hn6
 have hfl:=full_lt k.n3
 have hrs:reachedF (allowF ps hs (rsOf xs) l works) k.n3 s=stepR (allowF ps hs (rsOf xs) l works) k.n3 (reachedF (allowF ps hs (rsOf xs) l works) k.n3 (s - 1)) s:=by
  have:=reach_succ (allowF ps hs (rsOf xs) l works) k.n3 (s - 1)
  rwa [show s - 1+1=s by omega]at this
 intro d
 induction d with
 |zero=>
  intro i w' hd hi hr hm ho hno2
  have:i=k.n3:=by omega
  subst this
  have e:reachedF (allowF ps hs (rsOf xs) l works) k.n3 s=reachedF (allowF ps hs (rsOf xs) l works) k.n3 (s - 1):=by
   rw[hrs]
   unfold stepR
   rw[if_neg (by rw[hno2];decide)]
  refine F.sequence_Reached.L10.step _ _ _ _ _ _ _ _ _ _ _ _ _ _ ⟨fun h=>by omega,fun _=>⟨by simp only[inR];omega,?_⟩⟩
  refine next Ao no co f w' hr hm (by omega) (by rw[e];exact ho) (by rw[e];exact hf)
 |succ d ih=>
  intro i w' hd hi hr hm ho hno2
  have e3:(i:Int)+1=((i+1:Nat):Int):=by omega
  have go:∀w2,Run w0 wb k ps hs xs l works w2->Own wb mr f w2->OwnR w2 wb.heap.size 3 Ao no co 1 ((reachedF (allowF ps hs (rsOf xs) l works) k.n3 (s - 1)).map fun(z:Nat)=>iRow z)->((s.testBit i&&(reachedF (allowF ps hs (rsOf xs) l works) k.n3 (s - 1)).contains (s^^^2^i))=true->allowF ps hs (rsOf xs) l works s=false)->
    (inR .i64 ((i:Int)+1)/\F.sequence_Reached.L10 A3 k.n3 c3 (some k.p) (some mr) Ao no co s k.n3 ((i:Int)+1) w0.heap.size w2 R):=by
   intro w2 hr2 hm2 ho2 hx
   refine⟨by simp only[inR];omega,?_⟩
   rw[e3]
   refine ih (i+1) w2 (by omega) (by omega) hr2 hm2 ho2 ?_
   rw[List.range_succ,List.any_append]
   simp only[List.any_cons,List.any_nil,Bool.or_false]
   cases ha:allowF ps hs (rsOf xs) l works s with
   |false=>rw[Bool.and_false]
   |true=>
    rw[ha,Bool.and_true]at hno2
    rw[hno2,Bool.false_or,Bool.and_true]
    cases hy:(s.testBit i&&(reachedF (allowF ps hs (rsOf xs) l works) k.n3 (s - 1)).contains (s^^^2^i))with
    |false=>rfl
    |true=>rw[hx hy]at ha;cases ha
  refine F.sequence_Reached.L10.step _ _ _ _ _ _ _ _ _ _ _ _ _ _ ⟨fun _=>⟨sh_ok (by omega),fun h1=>⟨sh_ok (by omega),?_⟩,fun h1=> ?_⟩,fun h=>by omega⟩
  ·have hbit:=(bit_eq (by omega) (by omega)).1 h1
   have hx:=xor_bit hbit
   rw[shl_one _ (by omega),andNot_pow _ (by omega) _ (by omega) hbit]
   refine runOk_look hm.m mpB (by omega) (by omega) ?_
   rw[hf]
   refine⟨fun h2=> ?_,fun h2=>go w' hr hm ho fun q=>by rw[h2,Bool.and_false]at q;cases q⟩
   refine hr.allowed hg (by omega) fun w21 r21 bt cl=>⟨fun _ _ _ h=>(by cases h),_,rfl,fun h3=> ?_,fun h3=>go w21 r21 (hm.but bt r21.m) (ho.cl cl) fun _=>h3⟩
   have hm21:=hm.but bt r21.m
   have ho21:=ho.cl cl
   have e:reachedF (allowF ps hs (rsOf xs) l works) k.n3 s=reachedF (allowF ps hs (rsOf xs) l works) k.n3 (s - 1)++[s]:=by
    rw[hrs]
    unfold stepR
    rw[if_pos]
    rw[Bool.and_eq_true,List.any_eq_true]
    exact⟨⟨i,List.mem_range.2 (by omega),by rw[hbit,h2];rfl⟩,h3⟩
   refine runOk_update hm21.m mpB (by omega) (by omega) true r21.lo r21.b.size fun w22 m22 _ g22=> ?_
   have hi22:Below wb.heap.size w21 w22:=below_grown g22 (fun k hk=>by cases hk;exact hm21.m.1) r21.c.size
   have r22:=r21.hi hi22
   have ho22:=ho21.cl (Cl.map hm21.m g22)
   refine app_row el_Ints (B:=wb.heap.size) r22.lo ho22 (x:= .int .i64 (s:Int)) rfl (by simp[Value.cells,isCell]) r22.c.size (by omega) (by decide) fun A3' c3' w28 o28 g28 _=>⟨by simp only[inR];omega,?_⟩
   refine next A3' (no+1) c3' _ w28 (r22.hi (grown_hi ho22 g28 r22.c.size)) (Own.row ⟨m22⟩ ho22 g28) (by omega) (by rw[e,List.map_append];exact o28) fun z=> ?_
   rw[e,List.contains_append]
   unfold putM
   by_cases hz:(z:Int)=s
   ·rw[if_pos hz]
    have:z=s:=by omega
    subst this
    simp
   ·rw[if_neg hz,hf]
    have:z≠s:=by omega
    simp[this]
  ·exact go w' hr hm ho fun q=>by
    rw[Bool.and_eq_true]at q
    exact absurd ((bit_eq (by omega) (by omega)).2 q.1) h1
theorem seq_Reached(hg:Glob w)(hp:PrIn w A0 n0 A1 n1 A2 n2 c2 ps hs xs)(h:SlR w A 3 (l.map Sw.row))(hl:l.length=n)(hnc:n<=c)(hn:n<=40)(hwk:SlR w A3 3 (works.map Sw.row))(hlw:works.length=n3):
  Pure Tryz.prog 24 #[.agg #[.slice A0 n0 c0,.slice A1 n1 c1,.slice A2 n2 c2],.slice A n c,.slice A3 n3 c3] w (InR (reachF ps hs (rsOf xs) l works)):=by
 refine F.sequence_Reached.vc _ _ _ _ _ _ _ _ _ _ _ _ _ _ _ _ _ fun w1 x1=> ?_
 have hw:=k0 x1
 refine Pure.mono (seq_begin (hg.next hw) (hp.keep hw) (h.keep hw (Nat.le_refl _)) hl hnc hn (hwk.keep hw (Nat.le_refl _)) hlw) ?_
 intro v w5 b5 hv
 have hw5:=kP hw b5
 unfold reachF
 by_cases h0:taskF ps hs (rsOf xs) l works≠0
 ·rw[if_pos h0]
  have hv:=hv.1 h0
  subst hv
  exact⟨_,_,rfl,fun _=>⟨_,_,_,rfl,.inl rfl,rfl,Nat.le_refl _⟩,fun k=>absurd h0 k⟩
 rw[if_neg h0]
 obtain⟨k,hv,hk,hkn⟩:=hv.2 (Decidable.not_not.1 h0)
 subst hv
 have hk6:=hk.ok.n
 have hk3:=hk.lw
 have h64:=pow64 k.n3 (by omega)
 have hfl:=full_lt k.n3
 have run:Run w w5 k ps hs xs l works w5:= .new hw5 hk (hkn.le hw.size)
 have en:n3=k.n3:=by omega
 subst en
 rw[hk3]
 refine⟨_,_,rfl,fun q=>absurd rfl q,fun _=> ?_⟩
 refine runOk_makeMap (tk:=3) (te:=4) run.b.size fun w8 m8 b8=> ?_
 have r8:=run.keep b8
 refine runOk_update m8 mpB (z:=0) (by omega) (by omega) true run.b.size r8.b.size fun w9 m9 _ g9=> ?_
 have r9:=r8.hi (below_grown g9 (fun i hi=>by cases hi;exact m8.1) r8.c.size)
 refine runOk_lit el_Ints [.int .i64 0] (by simp[Value.cells]) (by simp) r9.b.size fun Ao co w12 o12 b12=> ?_
 have r12:=r9.keep b12
 have key:∀(d s:Nat)(Ao:Option Addr)(no co:Nat)(f:Int->Option Bool)(w':World),fullN k.n3+1 - s=d->1<=s->s<=fullN k.n3+1->Run w w5 k ps hs xs l works w'->Own w5 w5.heap.size f w'->no<=s->OwnR w' w5.heap.size 3 Ao no co 1 ((reachedF (allowF ps hs (rsOf xs) l works) k.n3 (s - 1)).map fun(z:Nat)=>iRow z)->(∀z:Nat,(f (z:Int)).getD false=(reachedF (allowF ps hs (rsOf xs) l works) k.n3 (s - 1)).contains z)->
   F.sequence_Reached.L7 A3 k.n3 c3 (some k.p) (some w5.heap.size) Ao no co s w.heap.size w' (InR ((reachedF (allowF ps hs (rsOf xs) l works) k.n3 (fullN k.n3)).map fun(s:Nat)=>(s:Int),0)):=by
  intro d
  induction d with
  |zero=>
   intro s Ao no co f w' hd hs0 hs' hr hm hno ho hf
   have:s=fullN k.n3+1:=by omega
   subst this
   refine F.sequence_Reached.L7.step _ _ _ _ _ _ _ _ _ _ _ _ (Pure.mono (seq_all hr.t.t (by omega)) ?_)
   rintro v w15 b15 rfl
   refine⟨_,rfl,fun h=>by omega,fun _=>⟨Ao,no,co,rfl,?_,?_,ho.len_le⟩⟩
   ·have:=(ho.below b15).sl
    rw[Nat.add_sub_cancel]at this
    rw[List.map_map]
    exact this
   ·have:=ho.len
    rw[Nat.add_sub_cancel]at this
    simpa using this
  |succ d ih=>
   intro s Ao no co f w' hd hs0 hs' hr hm hno ho hf
   refine F.sequence_Reached.L7.step _ _ _ _ _ _ _ _ _ _ _ _ (Pure.mono (seq_all hr.t.t (by omega)) ?_)
   rintro v w15 b15 rfl
   refine⟨_,rfl,fun _=> ?_,fun h=>by omega⟩
   refine reached_L10 hg hs0 (by omega) (by omega) hno hf (fun Ao no co f w' hr hm hno ho hf=> ?_) k.n3 0 w15 rfl (by omega) (hr.keep b15) (hm.low b15) (ho.below b15) rfl
   have e3:(s:Int)+1=((s+1:Nat):Int):=by omega
   rw[e3]
   exact ih (s+1) Ao no co f w' (by omega) (by omega) (by omega) hr hm hno (by rw[Nat.add_sub_cancel];exact ho) (by rw[Nat.add_sub_cancel];exact hf)
 refine key _ 1 Ao 1 co _ w12 rfl (by omega) (by omega) r12 ⟨m9.below b12⟩ (by omega) (o12.base r9.c.size) fun z=> ?_
 unfold putM
 by_cases hz:(z:Int)=0
 ·rw[if_pos hz]
  have:z=0:=by omega
  subst this
  rfl
 ·rw[if_neg hz]
  have:z≠0:=by omega
  simp[reachedF,this]
end
end Go.Proofs.YtgfkeadgjkfomaaGreatDoor.B

set_option maxRecDepth 100000
set_option maxHeartbeats 4000000
namespace Go.Proofs.YtgfkeadgjkfomaaGreatDoor.F
open Go Go.RowKit Go.Proofs Go.Proofs.YtgfkeadgjkfomaaGreatDoor.Vc
def garboardref48_Copy.L3(a:Int)(b:Option Addr)(c d:Nat)(e:Option Addr)(f g:Nat)(i:Option Addr)(j l:Nat)(m:Option Addr)(n o:Nat)(p:Option Addr)(q r:Nat)(s:Option Addr)(t u:Nat)(v:Option Addr)(x y:Nat)(z:Option Addr)(A C:Nat)(D:Option Addr)(E G B:Nat)(w:World)(R:Value->World->Prop):Prop:=At Tryz.prog 17 34 (loopAt Tryz.f17 3) [(1,.loc 1 0),(2,.loc 2 0),(3,.loc 3 0),(4,.v (.int .i64 a))] [⟨1,false,28,[(.slice b c d),(.slice e f g),(.slice i j l)]⟩,⟨2,false,28,[(.slice m n o),(.slice p q r),(.slice s t u)]⟩,⟨3,false,28,[(.slice v x y),(.slice z A C),(.slice D E G)]⟩] B w R
noncomputable def garboardref48_Copy.cx(w:World)(B:Nat)(R:Value->World->Prop):Cx:=⟨Tryz.prog,17,34,Tryz.f17.results.toList,[((true,3),[1,2,3,4],[1,2,3])],[(5,5,2),(6,0,2),(6,3,2),(7,3,2),(7,4,2)],w,B,R⟩
theorem garboardref48_Copy.L3.step(b:Int)(p:Option Addr)(q r:Nat)(s:Option Addr)(t u:Nat)(d:Option Addr)(c v:Nat)(x:Option Addr)(y z:Nat)(A:Option Addr)(C D:Nat)(E:Option Addr)(G H:Nat)(e:Option Addr)(f g:Nat)(i:Option Addr)(j l:Nat)(m:Option Addr)(n o B:Nat)(w:World)(R:Value->World->Prop)
  (h:(((b<(c:Int))->((0<=b/\b<c)/\∃N,d=some N/\(∃O Q S T U V X Y Z,CellsAt w (N.add ((b).toNat*7)) [.string O,.int .i64 Q,.slice S T U,.string V,.string X,.int .i64 Y,.int .i64 Z]/\(RunOk P (Instr.alloc 87 true (.tuple #[])) B [28,28,28] w fun d0 a0=>∃(a:Addr),d0= .pointer (some a)/\(∃(I:List Value)(J:Nat),B<=a.block/\a.spot=none/\a0.heap[a.block]? =some (.cells I.toArray J (0,0))/\a.off+7<=I.length/\hasType J [⟨1,false,28,[.slice p q r,.slice s t u,.slice d c v]⟩,⟨2,false,28,[.slice x y z,.slice A C D,.slice E G H]⟩,⟨3,false,28,[.slice e f g,.slice i j l,.slice m n o]⟩]=false/\∀a1,Wrote a0 a1 a.block J (setCells I a.off [.string O,.int .i64 Q,.slice S T U,.string V,.string X,.int .i64 Y,.int .i64 Z])->(RunOk P (Instr.buildSlice 85 0 #[]) B [28,28,28] a1 fun d1 a2=>∃a3 a4 a5,d1= .slice a3 a4 a5/\(∃a6 a7 a8,CellsAt a2 (a.add 2) [.slice a6 a7 a8]/\(RunOk P (Builtin.append_ #[85,85] 85 #[.slice a3 a4 a5,.slice a6 a7 a8]) B [28,28,28] a2 fun d2 a9=>∃b0 b1 b2,d2= .slice b0 b1 b2/\(∃(K:List Value)(L:Nat),B<=(a.add 2).block/\(a.add 2).spot=none/\a9.heap[(a.add 2).block]? =some (.cells K.toArray L (0,0))/\(a.add 2).off+1<=K.length/\hasType L [⟨1,false,28,[.slice p q r,.slice s t u,.slice d c v]⟩,⟨2,false,28,[.slice x y z,.slice A C D,.slice E G H]⟩,⟨3,false,28,[.slice e f g,.slice i j l,.slice m n o]⟩]=false/\∀M,Wrote a9 M (a.add 2).block L (setCells K (a.add 2).off [.slice b0 b1 b2])->(∃b3 b4 b5 b6 b7 b8 b9 c0 c1,CellsAt M a [.string b3,.int .i64 b4,.slice b5 b6 b7,.string b8,.string b9,.int .i64 c0,.int .i64 c1]/\(RunOk P (Instr.buildSlice 26 1 #[(0,(.agg #[.string b3,.int .i64 b4,.slice b5 b6 b7,.string b8,.string b9,.int .i64 c0,.int .i64 c1]))]) B [28,28,28] M fun d3 d4=>∃c2 c3 c4,d3= .slice c2 c3 c4/\(RunOk P (Builtin.append_ #[26,26] 26 #[.slice m n o,.slice c2 c3 c4]) B [28,28,28] d4 fun d5 d6=>∃c5 c6 c7,d5= .slice c5 c6 c7/\(inR .i64 (b+1)/\(∀c8,Ext B [28] d6 c8->(garboardref48_Copy.L3 (b+1) p q r s t u d c v x y z A C D E G H e f g i j l c5 c6 c7 B c8 R)))))))))))))))/\(¬(b<(c:Int))->(∀c9,Ext B [28] w c9->(R (.agg #[.slice e f g,.slice i j l,.slice m n o]) c9))))):
  garboardref48_Copy.L3 b p q r s t u d c v x y z A C D E G H e f g i j l m n o B w R:=
 loop_of_run (garboardref48_Copy.cx w B R) 100000 (loopAt Tryz.f17 3) _ _ follows Tryz.func17 rfl rfl rfl (Eq.mp (by kernel_rfl) h)
theorem garboardref48_Copy.vc(a:Option Addr)(b c:Nat)(d:Option Addr)(e f:Nat)(g:Option Addr)(i j:Nat)(w:World)(R:Value->World->Prop)
  (h:(∀l,Ext w.heap.size [] w l->(Pure P 13 #[.agg #[.slice a b c,.slice d e f]] l fun t u=>∃m n o p q r,t= .agg #[.slice m n o,.slice p q r]/\(∀s,Ext w.heap.size [] u s->(garboardref48_Copy.L3 (0:Int) a b c d e f g i j none 0 0 none 0 0 none 0 0 m n o p q r none 0 0 w.heap.size s R))))):
  Pure P 17 #[.agg #[.slice a b c,.slice d e f,.slice g i j]] w R:=
 pure_of_run (garboardref48_Copy.cx w w.heap.size R) 100000 follows Tryz.func17 rfl rfl rfl rfl rfl rfl rfl (Eq.mp (by kernel_rfl) h)

def garboardref48_Few.L2(a:Int)(b:Option Addr)(c d:Nat)(e:Option Addr)(f g:Nat)(i:Option Addr)(j l B:Nat)(w:World)(R:Value->World->Prop):Prop:=At Tryz.prog 40 63 (loopAt Tryz.f40 2) [(1,.loc 1 0),(3,.v (.int .i64 a))] [⟨1,false,28,[(.slice b c d),(.slice e f g),(.slice i j l)]⟩] B w R
def garboardref48_Few.L8(a b:Int)(c:Option Addr)(d e:Nat)(f:Option Addr)(g i:Nat)(j:Option Addr)(l m:Nat)(n:ByteArray)(o:Int)(p:Option Addr)(q r:Nat)(s t:ByteArray)(u v:Int)(B:Nat)(w:World)(R:Value->World->Prop):Prop:=At Tryz.prog 40 63 (loopAt Tryz.f40 8) [(1,.loc 1 0),(3,.v (.int .i64 a)),(4,.loc 4 0),(5,.v (.int .i64 b))] [⟨1,false,28,[(.slice c d e),(.slice f g i),(.slice j l m)]⟩,⟨4,false,87,[(.string n),(.int .i64 o),(.slice p q r),(.string s),(.string t),(.int .i64 u),(.int .i64 v)]⟩] B w R
noncomputable def garboardref48_Few.cx(w:World)(B:Nat)(R:Value->World->Prop):Cx:=⟨Tryz.prog,40,63,Tryz.f40.results.toList,[((true,2),[1,3],[1]),((true,8),[1,3,4,5],[1,4])],[],w,B,R⟩
theorem garboardref48_Few.L2.step(a:Int)(g:Option Addr)(i j:Nat)(l:Option Addr)(m n:Nat)(o:Option Addr)(b q B:Nat)(w:World)(R:Value->World->Prop)
  (h:(((a<(b:Int))->((0<=a/\a<b)/\∃r,o=some r/\(∃c s t d u e f v x,CellsAt w (r.add ((a).toNat*7)) [.string c,.int .i64 s,.slice t d u,.string e,.string f,.int .i64 v,.int .i64 x]/\(((((ByteArray.size c:Int):Int)>70)->(∀y,Ext B [] w y->(R (.bool false) y)))/\(¬(((ByteArray.size c:Int):Int)>70)->(((((ByteArray.size e:Int):Int)>40)->(∀z,Ext B [] w z->(R (.bool false) z)))/\(¬(((ByteArray.size e:Int):Int)>40)->(((((ByteArray.size f:Int):Int)>40)->(∀A,Ext B [] w A->(R (.bool false) A)))/\(¬(((ByteArray.size f:Int):Int)>40)->((((d:Int)>8)->(∀C,Ext B [] w C->(R (.bool false) C)))/\(¬((d:Int)>8)->(∀D,Ext B [] w D->(garboardref48_Few.L8 a (0:Int) g i j l m n o b q c s t d u e f v x B D R)))))))))))))/\(¬(a<(b:Int))->(Pure P 36 #[.agg #[.slice g i j,.slice l m n]] w fun G E=>∃p,G= .bool p/\((p=true->(R (.bool (decide ((b:Int)<=(17:Int)))) E))/\(p=false->(R (.bool false) E))))))):
  garboardref48_Few.L2 a g i j l m n o b q B w R:=
 loop_of_run (garboardref48_Few.cx w B R) 100000 (loopAt Tryz.f40 2) _ _ follows Tryz.func40 rfl rfl rfl (Eq.mp (by kernel_rfl) h)
theorem garboardref48_Few.L8.step(c a:Int)(d:Option Addr)(e f:Nat)(g:Option Addr)(i j:Nat)(l:Option Addr)(m n:Nat)(q:ByteArray)(r:Int)(o:Option Addr)(b s:Nat)(t u:ByteArray)(v x:Int)(B:Nat)(w:World)(R:Value->World->Prop)
  (h:(((a<(b:Int))->((0<=a/\a<b)/\∃y,o=some y/\(∃p,CellsAt w (y.add ((a).toNat*1)) [.string p]/\(((((ByteArray.size p:Int):Int)>40)->(R (.bool false) w))/\(¬(((ByteArray.size p:Int):Int)>40)->(inR .i64 (a+1)/\(garboardref48_Few.L8 c (a+1) d e f g i j l m n q r o b s t u v x B w R)))))))/\(¬(a<(b:Int))->(inR .i64 (c+1)/\(garboardref48_Few.L2 (c+1) d e f g i j l m n B w R))))):
  garboardref48_Few.L8 c a d e f g i j l m n q r o b s t u v x B w R:=
 loop_of_run (garboardref48_Few.cx w B R) 100000 (loopAt Tryz.f40 8) _ _ follows Tryz.func40 rfl rfl rfl (Eq.mp (by kernel_rfl) h)
theorem garboardref48_Few.vc(a:Option Addr)(b c:Nat)(d:Option Addr)(e f:Nat)(g:Option Addr)(i j:Nat)(w:World)(R:Value->World->Prop)
  (h:(∀l,Ext w.heap.size [] w l->(garboardref48_Few.L2 (0:Int) a b c d e f g i j w.heap.size l R))):
  Pure P 40 #[.agg #[.slice a b c,.slice d e f,.slice g i j]] w R:=
 pure_of_run (garboardref48_Few.cx w w.heap.size R) 100000 follows Tryz.func40 rfl rfl rfl rfl rfl rfl rfl (Eq.mp (by kernel_rfl) h)

end Go.Proofs.YtgfkeadgjkfomaaGreatDoor.F

namespace Go.Proofs.YtgfkeadgjkfomaaGreatDoor.B
open Go Go.RowKit Go.Proofs Go.Proofs.YtgfkeadgjkfomaaGreatDoor.Vc

structure PrRaw (w:World) (A0:Option Addr) (n0 c0:Nat) (A1:Option Addr) (n1 c1:Nat) (A2:Option Addr) (n2 c2:Nat) (ps:List Pa) (hs:List Ho) (xs:List Rm):Prop where
 c:CgRaw w A0 n0 A1 n1 ps hs
 z0:A0=none->c0=0
 z1:A1=none->c1=0
 r:SlR w A2 7 (xs.map Rm.row)
 l:xs.length=n2
 n:n2<9223372036854775808
 k:n2<=c2
 f:∀x∈xs,SlR w x.A 1 (x.r.fac.map sRow)/\x.r.fac.length=x.n/\x.n<9223372036854775808/\(x.A=none->x.c=0)
def fewRu(r:Ru):Bool:=decide (r.name.size<=70/\r.low.size<=40/\r.high.size<=40/\r.fac.length<=8)&&r.fac.all fun s=>decide (s.size<=40)
def fewPr(ps:List Pa)(hs:List Ho)(rs:List Ru):Bool:=rs.all fewRu&&(fewC ps hs&&decide (rs.length<=17))
section
variable {w w':World} {A0 A1 A2:Option Addr} {n0 c0 n1 c1 n2 c2:Nat} {ps:List Pa} {hs:List Ho} {xs:List Rm}
theorem PrRaw.keep(h:PrRaw w A0 n0 c0 A1 n1 c1 A2 n2 c2 ps hs xs)(hb:Below w.heap.size w w'):PrRaw w' A0 n0 c0 A1 n1 c1 A2 n2 c2 ps hs xs:=
 ⟨h.c.keep hb,h.z0,h.z1,h.r.keep hb (Nat.le_refl _),h.l,h.n,h.k,fun x hx=>⟨(h.f x hx).1.keep hb (Nat.le_refl _),(h.f x hx).2⟩⟩
theorem PrRaw.few(h:PrRaw w A0 n0 c0 A1 n1 c1 A2 n2 c2 ps hs xs)(hf:fewPr ps hs (rsOf xs)=true):PrIn w A0 n0 A1 n1 A2 n2 c2 ps hs xs:=by
 unfold fewPr at hf
 rw[Bool.and_eq_true,Bool.and_eq_true]at hf
 obtain⟨h1,h2,h3⟩:=hf
 have h3:=of_decide_eq_true h3
 refine⟨h.c.few h2,h.r,h.l,fun x hx=> ?_,by unfold rsOf at h3;rw[List.length_map,h.l]at h3;exact h3,h.k⟩
 have hr:=List.all_eq_true.1 h1 x.r (List.mem_map_of_mem hx)
 unfold fewRu at hr
 rw[Bool.and_eq_true]at hr
 obtain⟨k1,k2⟩:=hr
 have k1:=of_decide_eq_true k1
 refine⟨(h.f x hx).1,(h.f x hx).2.1,⟨fun s hs'=> ?_,by unfold SmS;omega,by unfold SmS;omega,by omega,k1.2.2.2⟩,(h.f x hx).2.2.2⟩
 have:=of_decide_eq_true (List.all_eq_true.1 k2 s hs')
 unfold SmS
 omega
theorem rule_bad{i:Nat}(hi:i<xs.length)(h:fewRu xs[i].r=false):fewPr ps hs (rsOf xs)=false:=by
 unfold fewPr
 rw[all_false (x:=xs[i].r) (List.mem_map_of_mem (List.getElem_mem hi)) h,Bool.false_and]
theorem r48_Few(h:PrRaw w A0 n0 c0 A1 n1 c1 A2 n2 c2 ps hs xs):
  Pure Tryz.prog 40 #[.agg #[.slice A0 n0 c0,.slice A1 n1 c1,.slice A2 n2 c2]] w fun v _=>v= .bool (fewPr ps hs (rsOf xs)):=by
 have hl:=h.l
 have hn:=h.n
 have key:∀(d i:Nat)(w':World),n2 - i=d->i<=n2->Below w.heap.size w w'->(∀x∈xs.take i,fewRu x.r=true)->F.garboardref48_Few.L2 i A0 n0 c0 A1 n1 c1 A2 n2 c2 w.heap.size w' fun v _=>v= .bool (fewPr ps hs (rsOf xs)):=by
  intro d
  induction d with
  |zero=>
   intro i w' hd hi hw ha
   rw[List.take_of_length_le (by omega)]at ha
   have hall:(rsOf xs).all fewRu=true:=List.all_eq_true.2 fun r hr=>by
    obtain⟨x,hx,rfl⟩:=List.mem_map.1 hr
    exact ha x hx
   refine F.garboardref48_Few.L2.step _ _ _ _ _ _ _ _ _ _ _ _ _ ⟨fun h=>by omega,fun _=>Pure.mono (r47_Few (h.keep hw).c) ?_⟩
   rintro v w17 _ rfl
   unfold fewPr
   rw[hall,Bool.true_and]
   refine⟨_,rfl,fun k=> ?_,fun k=> ?_⟩
   ·rw[k,Bool.true_and]
    refine congrArg Value.bool ?_
    rw[decide_eq_decide]
    unfold rsOf
    rw[List.length_map]
    omega
   ·rw[k,Bool.false_and]
  |succ d ih=>
   intro i w' hd hi hw ha
   have hil:i<xs.length:=by omega
   have e3:(i:Int)+1=((i+1:Nat):Int):=by omega
   obtain⟨hb,a,hA,hcell,_⟩:=((h.keep hw).r).at_ (fun _=>rfl) hl hil
   obtain⟨f1,f2,f3,_⟩:=h.f _ (List.getElem_mem hil)
   have bad:fewRu xs[i].r=false->∀w2:World,(fun(v:Value) (_:World)=>v= .bool (fewPr ps hs (rsOf xs))) (.bool false) w2:=fun k _=>by
    show Value.bool false=_
    rw[rule_bad hil k]
   have badd:¬(xs[i].r.name.size<=70/\xs[i].r.low.size<=40/\xs[i].r.high.size<=40/\xs[i].r.fac.length<=8)->fewRu xs[i].r=false:=fun k=>by
    unfold fewRu
    rw[decide_eq_false k,Bool.false_and]
   refine F.garboardref48_Few.L2.step _ _ _ _ _ _ _ _ _ _ _ _ _ ⟨fun _=>⟨hb,a,hA,_,_,_,_,_,_,_,_,_,hcell,fun k1 w2 _=>bad (badd (by omega)) w2,fun k1=>⟨fun k2 w2 _=>bad (badd (by omega)) w2,fun k2=>⟨fun k3 w2 _=>bad (badd (by omega)) w2,fun k3=>⟨fun k4 w2 _=>bad (badd (by omega)) w2,fun k4 w14 x14=> ?_⟩⟩⟩⟩,fun h=>by omega⟩
   have inner:∀(e j:Nat)(w':World),xs[i].n - j=e->j<=xs[i].n->Below w.heap.size w w'->(∀s∈xs[i].r.fac.take j,decide (s.size<=40)=true)->F.garboardref48_Few.L8 i j A0 n0 c0 A1 n1 c1 A2 n2 c2 xs[i].r.name xs[i].r.kind xs[i].A xs[i].n xs[i].c xs[i].r.low xs[i].r.high xs[i].r.a xs[i].r.b w.heap.size w' fun v _=>v= .bool (fewPr ps hs (rsOf xs)):=by
    intro e
    induction e with
    |zero=>
     intro j w' he hj hw hs'
     rw[List.take_of_length_le (by omega)]at hs'
     refine F.garboardref48_Few.L8.step _ _ _ _ _ _ _ _ _ _ _ _ _ _ _ _ _ _ _ _ _ _ _ ⟨fun h=>by omega,fun _=>⟨by simp only[inR];omega,?_⟩⟩
     rw[e3]
     refine ih (i+1) w' (by omega) (by omega) hw fun x hx=> ?_
     rw[List.take_add_one,List.getElem?_eq_getElem hil]at hx
     rcases List.mem_append.1 hx with hx|hx
     ·exact ha x hx
     ·simp only[Option.toList_some,List.mem_singleton]at hx
      subst hx
      unfold fewRu
      rw[decide_eq_true (show _ from⟨by omega,by omega,by omega,by omega⟩),Bool.true_and]
      exact List.all_eq_true.2 hs'
    |succ e ihe=>
     intro j w' he hj hw hs'
     have hjl:j<xs[i].r.fac.length:=by omega
     have ej:(j:Int)+1=((j+1:Nat):Int):=by omega
     obtain⟨hb,a,hA,hcell,_⟩:=(f1.keep hw (Nat.le_refl _)).at_ (fun _=>rfl) f2 hjl
     refine F.garboardref48_Few.L8.step _ _ _ _ _ _ _ _ _ _ _ _ _ _ _ _ _ _ _ _ _ _ _ ⟨fun _=>⟨hb,a,hA,_,hcell,fun k=>bad ?_ w',fun k=>⟨by simp only[inR];omega,?_⟩⟩,fun h=>by omega⟩
     ·unfold fewRu
      rw[all_false (x:=xs[i].r.fac[j]) (List.getElem_mem hjl) (decide_eq_false (by omega)),Bool.and_false]
     ·rw[ej]
      refine ihe (j+1) w' (by omega) (by omega) hw fun s hs2=> ?_
      rw[List.take_add_one,List.getElem?_eq_getElem hjl]at hs2
      rcases List.mem_append.1 hs2 with hs2|hs2
      ·exact hs' s hs2
      ·simp only[Option.toList_some,List.mem_singleton]at hs2
       subst hs2
       exact decide_eq_true (by omega)
   exact inner xs[i].n 0 w14 rfl (by omega) (kE hw x14) (by simp)
 exact F.garboardref48_Few.vc _ _ _ _ _ _ _ _ _ _ _ fun w1 x1=>key n2 0 w1 rfl (by omega) (k0 x1) (by simp)

theorem el_Rus:El Tryz.prog 26 87 7 96:=El.of (by kernel_rfl)
theorem OwnR.z{w:World}{B ty:Nat}{A:Option Addr}{n c sz:Nat}{rows:List (List Value)}(h:OwnR w B ty A n c sz rows)(hA:A=none):c=0:=by
 subst hA
 rcases h.1.2 with⟨h1,_⟩|⟨g,cap,cur,h1,_⟩
 ·cases h1;rfl
 ·cases h1
def Kq(w w':World):Prop:=∀(i ty:Nat)(cs:Array Value),ty≠87->ty≠28->w.heap[i]? =some (.cells cs ty (0,0))->w'.heap[i]? =some (.cells cs ty (0,0))
theorem Kq.trans{w w1 w2:World}(h:Kq w w1)(k:Kq w1 w2):Kq w w2:=fun i ty cs h1 h2 e=>k i ty cs h1 h2 (h i ty cs h1 h2 e)
theorem Kq.low{w w':World}(h:Below w.heap.size w w'):Kq w w':=fun i ty cs _ _ e=>heap_keep e h
theorem Kq.ext{B:Nat}{w w':World}(x:Ext B [28] w w'):Kq w w':=fun i ty cs _ h2 e=>by
 rcases x.other i (Array.getElem?_eq_some_iff.1 e).1 with q|⟨t,ht,c,c',fr,q,_⟩
 ·exact q.trans e
 ·rw[e]at q
  cases q
  exact absurd (List.mem_singleton.1 ht) h2
theorem Kq.wrote{w w':World}{b:Nat}{cs cs0:List Value}(hw:Wrote w w' b 87 cs)(h0:w.heap[b]? =some (.cells cs0.toArray 87 (0,0))):Kq w w':=fun i ty c h1 _ e=>by
 rw[hw.rest i fun q=> ?_]
 ·exact e
 ·subst q
  rw[h0]at e
  cases e
  exact h1 rfl
theorem Kq.grown{w w':World}{B:Nat}{A:Option Addr}{n c sz:Nat}{rows:List (List Value)}(ho:OwnR w B 87 A n c sz rows)(hg:w.grownBy w' (Value.ownBlock (.slice A n c))):Kq w w':=fun i ty cs h1 _ e=>by
 rw[hg.block i (Array.getElem?_eq_some_iff.1 e).1 fun q=> ?_]
 ·exact e
 ·cases A with
  |none=>cases q
  |some a=>
   obtain⟨cs',e'⟩:=ho.cells a rfl
   cases q
   rw[e]at e'
   cases e'
   exact h1 rfl
theorem OwnR.kq{w w':World}{B ty:Nat}{A:Option Addr}{n c sz:Nat}{rows:List (List Value)}(h:OwnR w B ty A n c sz rows)(k:Kq w w')(h1:ty≠87)(h2:ty≠28):OwnR w' B ty A n c sz rows:=
 h.other fun a ha=>by
  obtain⟨cs,e⟩:=h.cells a ha
  rw[e]
  exact k _ _ _ h1 h2 e
structure PrFit (w:World) (A0:Option Addr) (n0:Nat) (A1:Option Addr) (n1:Nat) (A2:Option Addr) (n2:Nat) (ps:List Pa) (hs:List Ho) (xs:List Rm):Prop where
 c:CgFit w A0 n0 A1 n1 ps hs
 r:SlR w A2 7 (xs.map Rm.row)
 l:xs.length=n2
 n:n2*96<=140737488355328
 f:∀x∈xs,SlR w x.A 1 (x.r.fac.map sRow)/\x.r.fac.length=x.n/\x.n*16<=140737488355328/\(x.A=none->x.c=0)
theorem PrFit.keep(h:PrFit w A0 n0 A1 n1 A2 n2 ps hs xs)(hb:Below w.heap.size w w'):PrFit w' A0 n0 A1 n1 A2 n2 ps hs xs:=
 ⟨h.c.keep hb,h.r.keep hb (Nat.le_refl _),h.l,h.n,fun x hx=>⟨(h.f x hx).1.keep hb (Nat.le_refl _),(h.f x hx).2⟩⟩
theorem PrIn.fit(h:PrIn w A0 n0 A1 n1 A2 n2 c2 ps hs xs):PrFit w A0 n0 A1 n1 A2 n2 ps hs xs:=
 ⟨h.c.fit,h.r,h.l,by have:=h.n;omega,fun x hx=>⟨(h.f x hx).f,(h.f x hx).l,by have:=(h.f x hx).s.len;have:=(h.f x hx).l;omega,(h.f x hx).z⟩⟩
def CpR(B:Nat)(n0 n1 n2:Nat)(ps:List Pa)(hs:List Ho)(xs:List Rm)(v:Value)(w':World):Prop:=
 ∃B0 d0 B1 d1 B2 d2 ys,v= .agg #[.slice B0 n0 d0,.slice B1 n1 d1,.slice B2 n2 d2]/\OwnR w' B 65 B0 n0 d0 7 (ps.map Pa.row)/\OwnR w' B 61 B1 n1 d1 7 (hs.map Ho.row)/\
  OwnR w' B 87 B2 n2 d2 7 (ys.map Rm.row)/\rsOf ys=rsOf xs/\∀y∈ys,OwnR w' B 57 y.A y.n y.c 1 (y.r.fac.map sRow)
theorem r48_CopyF(h:PrFit w A0 n0 A1 n1 A2 n2 ps hs xs)(hz0:A0=none->c0=0)(hz1:A1=none->c1=0):
  Pure Tryz.prog 17 #[.agg #[.slice A0 n0 c0,.slice A1 n1 c1,.slice A2 n2 c2]] w (CpR w.heap.size n0 n1 n2 ps hs xs):=by
 have hl:=h.l
 have hn:=h.n
 refine F.garboardref48_Copy.vc _ _ _ _ _ _ _ _ _ _ _ fun w1 x1=> ?_
 have hw:=k0 x1
 refine Pure.mono (r47_CopyO (h.keep hw).c hz0 hz1) ?_
 rintro v w5 b5 ⟨B0,d0,B1,d1,rfl,o0,o1⟩
 have hw5:=kP hw b5
 refine⟨_,_,_,_,_,_,rfl,fun w6 x6=> ?_⟩
 have key:∀(d i:Nat)(Ao:Option Addr)(no co:Nat)(ys:List Rm)(w':World),n2 - i=d->i<=n2->Below w.heap.size w w'->Kq w5 w'->OwnR w' w.heap.size 87 Ao no co 7 (ys.map Rm.row)->rsOf ys=rsOf (xs.take i)->(∀y∈ys,OwnR w' w.heap.size 57 y.A y.n y.c 1 (y.r.fac.map sRow))->
   F.garboardref48_Copy.L3 i A0 n0 c0 A1 n1 c1 A2 n2 c2 none 0 0 none 0 0 none 0 0 B0 n0 d0 B1 n1 d1 Ao no co w.heap.size w' (CpR w.heap.size n0 n1 n2 ps hs xs):=by
  intro d
  induction d with
  |zero=>
   intro i Ao no co ys w' hd hi hb hk ho hr hy
   rw[List.take_of_length_le (by omega)]at hr
   refine F.garboardref48_Copy.L3.step _ _ _ _ _ _ _ _ _ _ _ _ _ _ _ _ _ _ _ _ _ _ _ _ _ _ _ _ _ _ _ ⟨fun h=>by omega,fun _ w45 x45=> ?_⟩
   have k45:=Kq.ext x45
   have ho:=ho.extT x45 (by decide)
   have hnl:no=n2:=by
    have h1:=ho.len
    rw[List.length_map]at h1
    have:=congrArg List.length hr
    unfold rsOf at this
    rw[List.length_map,List.length_map]at this
    omega
   subst hnl
   have hyl:ys.length=no:=by have:=ho.len;rwa [List.length_map]at this
   have p0:=o0.kq (hk.trans k45) (by decide) (by decide)
   have p1:=o1.kq (hk.trans k45) (by decide) (by decide)
   exact⟨_,_,_,_,_,_,ys,rfl,p0.base hw.size,p1.base hw.size,ho,hr,fun y hy'=>(hy y hy').kq k45 (by decide) (by decide)⟩
  |succ d ih=>
   intro i Ao no co ys w' hd hi hb hk ho hr hy
   have hil:i<xs.length:=by omega
   have e3:(i:Int)+1=((i+1:Nat):Int):=by omega
   have hxi:=h.f _ (List.getElem_mem hil)
   obtain⟨hxf,hxl,hx16,hxz⟩:=hxi
   have hnl:no=i:=by
    have h1:=ho.len
    rw[List.length_map]at h1
    have:=congrArg List.length hr
    unfold rsOf at this
    rw[List.length_map,List.length_map,List.length_take]at this
    omega
   obtain⟨hbb,a,hA,hcell,_⟩:=(h.keep hb).r.at_ (fun _=>rfl) hl hil
   refine F.garboardref48_Copy.L3.step _ _ _ _ _ _ _ _ _ _ _ _ _ _ _ _ _ _ _ _ _ _ _ _ _ _ _ _ _ _ _ ⟨fun _=>⟨hbb,a,hA,_,_,_,_,_,_,_,_,_,hcell,?_⟩,fun h=>by omega⟩
   refine runOk_alloc (z:= .agg #[.string ⟨#[]⟩,.int .i64 0,.slice none 0 0,.string ⟨#[]⟩,.string ⟨#[]⟩,.int .i64 0,.int .i64 0]) _ (by kernel_rfl) hb.size fun w15 h15 b15 l15=> ?_
   refine⟨[.string ⟨#[]⟩,.int .i64 0,.slice none 0 0,.string ⟨#[]⟩,.string ⟨#[]⟩,.int .i64 0,.int .i64 0],_,hb.size,rfl,h15,by simp,rfl,fun w20 hw20=> ?_⟩
   have hb15:=kP hb b15
   have hb20:Below w.heap.size w w20:=hb15.trans (Wrote.belowR hw20 hb.size)
   have k20:Kq w' w20:=(Kq.low b15).trans (Kq.wrote hw20 h15)
   have ho20:OwnR w20 w.heap.size 87 Ao no co 7 (ys.map Rm.row):=(ho.below b15).other fun a ha=>hw20.rest _ fun q=>by
    have:=(ho.blk a ha).2
    have q:a.block=w'.heap.size:=q
    omega
   refine runOk_lit el_Rats [] (by simp) (by simp) hb20.size fun Af cf w23 of b23=> ?_
   have hb23:=kP hb20 b23
   have hat23:=heap_keep hw20.at_ b23
   refine⟨_,_,_,box_cell hat23 rfl,?_⟩
   refine app_partW el_Rats (B:=w20.heap.size) hb20.size (by simpa using of) (hxf.keep hb23 (Nat.le_refl _)) (by simpa using hxl) (fun r hr=>by obtain⟨s,_,rfl⟩:=List.mem_map.1 hr;rfl) (fun r hr=>by obtain⟨s,_,rfl⟩:=List.mem_map.1 hr;intro u hu;simp[sRow]at hu;subst hu;rfl) hxz b23.size (by simp;omega) (by simp;omega) (by decide) fun Ag cg w27 og gg bg=> ?_
   simp only[List.length_nil,Nat.zero_add,List.nil_append]at og⊢
   have b2027:Below w20.heap.size w20 w27:=b23.trans (grown_hi (B:=w20.heap.size) (by simpa using of) gg b23.size)
   have hb27:=kP hb20 b2027
   have hat27:=heap_keep hw20.at_ b2027
   have ho27:=ho20.below b2027
   have e2:(⟨w'.heap.size,0,none⟩:Addr).add 2=⟨w'.heap.size,2,none⟩:=by rw[add_plain0]
   rw[e2]
   refine⟨_,_,hb.size,rfl,hat27,by simp[setCells],rfl,fun w30 hw30=> ?_⟩
   have hb30:Below w.heap.size w w30:=hb27.trans (Wrote.belowR hw30 hb.size)
   have k30:Kq w20 w30:=(Kq.low b2027).trans (Kq.wrote hw30 hat27)
   have ho30:OwnR w30 w.heap.size 87 Ao no co 7 (ys.map Rm.row):=ho27.other fun a ha=>hw30.rest _ fun q=>by
    have:=(ho.blk a ha).2
    have q:a.block=w'.heap.size:=q
    omega
   have og30:=og.other fun a ha=>hw30.rest _ fun q=>by
    have:=(og.blk a ha).1
    have q:a.block=w'.heap.size:=q
    have:=hw20.size
    omega
   refine⟨_,_,_,_,_,_,_,_,_,box_all hw30.at_,?_⟩
   refine app_rowW el_Rus (Nat.le_refl _) ho30 (x:=Rm.val ⟨xs[i].r,Ag,xs[i].n,cg⟩) rfl (by simp[Value.cells,isCell]) hb30.size (by omega) (by omega) (by decide) fun A3 c3 w43 o43 g43 b43=>⟨by simp only[inR];omega,fun w44 x44=> ?_⟩
   have k43:=Kq.grown ho30 g43
   have k44:=(k43.trans (Kq.ext x44))
   rw[e3]
   refine ih (i+1) A3 (no+1) c3 (ys++[⟨xs[i].r,Ag,xs[i].n,cg⟩]) w44 (by omega) (by omega) (kE (hb30.trans b43) x44) (((hk.trans k20).trans k30).trans k44) ?_ ?_ ?_
   ·rw[List.map_append]
    exact o43.extT x44 (by decide)
   ·rw[<-rs_take hil,<-hr]
    unfold rsOf
    rw[List.map_append]
    rfl
   ·intro y hy'
    rcases List.mem_append.1 hy' with hy'|hy'
    ·exact(hy y hy').kq ((k20.trans k30).trans k44) (by decide) (by decide)
    ·rw[List.mem_singleton.1 hy']
     exact(og30.kq k44 (by decide) (by decide)).base hb20.size
 exact key n2 0 none 0 0 [] w6 rfl (by omega) (kE hw5 x6) (Kq.low (ext_low x6)) OwnR.nil rfl (by simp)
theorem r48_Copy(h:PrIn w A0 n0 A1 n1 A2 n2 c2 ps hs xs)(hz0:A0=none->c0=0)(hz1:A1=none->c1=0):
  Pure Tryz.prog 17 #[.agg #[.slice A0 n0 c0,.slice A1 n1 c1,.slice A2 n2 c2]] w fun v w'=>∃B0 d0 B1 d1 B2 d2 ys,v= .agg #[.slice B0 n0 d0,.slice B1 n1 d1,.slice B2 n2 d2]/\PrIn w' B0 n0 B1 n1 B2 n2 d2 ps hs ys/\rsOf ys=rsOf xs/\OwnR w' w.heap.size 61 B1 n1 d1 7 (hs.map Ho.row):=by
 refine Pure.mono (r48_CopyF h.fit hz0 hz1) ?_
 rintro v w' _ ⟨B0,d0,B1,d1,B2,d2,ys,rfl,o0,o1,o2,e,of⟩
 have hyl:ys.length=n2:=by have:=o2.len;rwa [List.length_map]at this
 refine⟨_,_,_,_,_,_,ys,rfl,⟨⟨o0.sl,o1.sl,h.c.lp,h.c.lh,h.c.sp,h.c.sh,h.c.np,h.c.nh⟩,o2.sl,hyl,fun y hy=> ?_,h.n,o2.len_le⟩,e,o1⟩
 have hm:y.r∈rsOf xs:=by rw[<-e];exact List.mem_map_of_mem hy
 obtain⟨x,hx,ex⟩:=List.mem_map.1 hm
 have ho:=of y hy
 have:=ho.len
 rw[List.length_map]at this
 exact⟨ho.sl,this,by rw[<-ex];exact(h.f x hx).s,ho.z⟩
end

theorem closed_iff{al:Nat->Bool}{n:Nat}{S:List Int}:closedB al n S=true↔(S.Pairwise fun a b=>a<b)/\(∀s∈S,0<=s/\s<(fullN n:Nat))/\(0:Int)∈S/\∀s∈S,∀i,i<n->((addB s.toNat i:Nat):Int)∈S∨al (addB s.toNat i)=false:=by
 unfold closedB
 simp only[Bool.and_eq_true,List.all_eq_true,decide_eq_true_eq,List.contains_iff_mem,List.mem_range,Bool.or_eq_true,Bool.not_eq_true',and_assoc]
section
variable {w0 wb w:World} {A0 A1 A2 A A3 A5:Option Addr} {n0 c0 n1 c1 n2 c2 n c n3 c3 n5 c5:Nat} {ps:List Pa} {hs:List Ho} {xs:List Rm} {l works:List Sw} {k:Tk} {o S:List Int}
theorem closed_L15(hg:Glob w0){mr:Nat}{f:Int->Option Bool}(hn6:k.n3<=6)(hSw:SlR w0 A5 1 (S.map iRow))(hlS:S.length=n5)(hn5:n5<2147483648)(hf:∀z:Nat,(f (z:Int)).getD false=decide ((z:Int)∈S))(hp:S.Pairwise fun a b=>a<b)(ha:∀s∈S,0<=s/\s<(fullN k.n3:Nat))(h0:(0:Int)∈S):
  ∀(d j:Nat)(w':World),n5 - j=d->j<=n5->Run w0 wb k ps hs xs l works w'->Own wb mr f w'->(∀s∈S.take j,∀i,i<k.n3->((addB s.toNat i:Nat):Int)∈S∨allowF ps hs (rsOf xs) l works (addB s.toNat i)=false)->
   F.sequence_Closed.L15 A3 k.n3 c3 (some k.p) (some mr) A5 n5 c5 n5 j w0.heap.size w' fun v _=>v= .int .i64 (if closedB (allowF ps hs (rsOf xs) l works) k.n3 S=true then 0 else 14):=by
 have h64:=pow64 _ hn6
 have hfl:=full_lt k.n3
 intro d
 induction d with
 |zero=>
  intro j w' hd hj hr hm hin
  rw[List.take_of_length_le (by omega)]at hin
  refine F.sequence_Closed.L15.step _ _ _ _ _ _ _ _ _ _ _ _ _ ⟨fun h=>by omega,fun _=> ?_⟩
  rw[if_pos (closed_iff.2 ⟨hp,ha,h0,hin⟩)]
 |succ d ih=>
  intro j w' hd hj hr hm hin
  have hjl:j<S.length:=by omega
  have e3:(j:Int)+1=((j+1:Nat):Int):=by omega
  obtain⟨hbb,ad,hA,hcell,_⟩:=(hSw.keep hr.b (Nat.le_refl _)).at_ (fun _=>rfl) hlS hjl
  have hmem:=List.getElem_mem hjl
  have hsj:=ha _ hmem
  obtain⟨s,hs'⟩:=Int.eq_ofNat_of_zero_le hsj.1
  refine F.sequence_Closed.L15.step _ _ _ _ _ _ _ _ _ _ _ _ _ ⟨fun _=>⟨hbb,ad,hA,_,hcell,?_⟩,fun h=>by omega⟩
  have inner:∀(e i:Nat)(w':World),k.n3 - i=e->i<=k.n3->Run w0 wb k ps hs xs l works w'->Own wb mr f w'->(∀i',i'<i->((addB s i':Nat):Int)∈S∨allowF ps hs (rsOf xs) l works (addB s i')=false)->
    F.sequence_Closed.L18 A3 k.n3 c3 (some k.p) (some mr) s A5 n5 c5 n5 j k.n3 i w0.heap.size w' fun v _=>v= .int .i64 (if closedB (allowF ps hs (rsOf xs) l works) k.n3 S=true then 0 else 14):=by
   intro e
   induction e with
   |zero=>
    intro i w' he hi hr hm hin2
    refine F.sequence_Closed.L18.step _ _ _ _ _ _ _ _ _ _ _ _ _ _ _ _ ⟨fun h=>by omega,fun _=>⟨by simp only[inR];omega,?_⟩⟩
    rw[e3]
    refine ih (j+1) w' (by omega) (by omega) hr hm fun x hx i' hi'=> ?_
    rw[List.take_add_one,List.getElem?_eq_getElem hjl]at hx
    rcases List.mem_append.1 hx with hx|hx
    ·exact hin x hx i' hi'
    ·simp only[Option.toList_some,List.mem_singleton]at hx
     subst hx
     rw[hs',Int.toNat_natCast]
     exact hin2 i' (by omega)
   |succ e ihe=>
    intro i w' he hi hr hm hin2
    have ei:(i:Int)+1=((i+1:Nat):Int):=by omega
    have hlt:=addB_lt (s:=s) (i:=i) (n:=6) (by omega) (by omega)
    have go:∀w2,Run w0 wb k ps hs xs l works w2->Own wb mr f w2->(((addB s i:Nat):Int)∈S∨allowF ps hs (rsOf xs) l works (addB s i)=false)->inR .i64 ((i:Int)+1)/\F.sequence_Closed.L18 A3 k.n3 c3 (some k.p) (some mr) s A5 n5 c5 n5 j k.n3 ((i:Int)+1) w0.heap.size w2 fun v _=>v= .int .i64 (if closedB (allowF ps hs (rsOf xs) l works) k.n3 S=true then 0 else 14):=by
     intro w2 hr2 hm2 hx
     refine⟨by simp only[inR];omega,?_⟩
     rw[ei]
     refine ihe (i+1) w2 (by omega) (by omega) hr2 hm2 fun i' hi'=> ?_
     rcases Nat.lt_or_eq_of_le (Nat.le_of_lt_succ hi')with h|h
     ·exact hin2 i' h
     ·rw[h];exact hx
    refine F.sequence_Closed.L18.step _ _ _ _ _ _ _ _ _ _ _ _ _ _ _ _ ⟨fun _=>⟨sh_ok (by omega),?_⟩,fun h=>by omega⟩
    rw[shl_one _ (by omega),or_pow _ (by omega) _ (by omega)]
    refine runOk_look hm.m mpB (by omega) (by omega) ?_
    rw[hf]
    refine⟨fun h1=> ?_,fun h1=>go w' hr hm (.inl (of_decide_eq_true (Bool.not_eq_false _|>.mp h1)))⟩
    refine hr.allowed hg (by omega) fun w28 r28 bt cl=>⟨fun _ _ _ h=>(by cases h),_,rfl,fun h2=> ?_,fun h2=>go w28 r28 (hm.but bt r28.m) (.inr h2)⟩
    rw[if_neg]
    intro hc
    have:=(closed_iff.1 hc).2.2.2 _ hmem i (by omega)
    rw[hs',Int.toNat_natCast]at this
    rcases this with q|q
    ·exact of_decide_eq_false h1 q
    ·rw[h2]at q;cases q
  have:=inner k.n3 0 w' rfl (by omega) hr hm (fun i' hi'=>by omega)
  rw[hs']
  exact this
theorem seq_Closed(hg:Glob w)(hp:PrIn w A0 n0 A1 n1 A2 n2 c2 ps hs xs)(h:SlR w A 3 (l.map Sw.row))(hl:l.length=n)(hnc:n<=c)(hn:n<=40)(hwk:SlR w A3 3 (works.map Sw.row))(hlw:works.length=n3)(hSw:SlR w A5 1 (S.map iRow))(hlS:S.length=n5)(hn5:n5<2147483648):
  Pure Tryz.prog 30 #[.agg #[.slice A0 n0 c0,.slice A1 n1 c1,.slice A2 n2 c2],.slice A n c,.slice A3 n3 c3,.slice A5 n5 c5] w fun v _=>v= .int .i64 (closedF ps hs (rsOf xs) l works S):=by
 refine F.sequence_Closed.vc _ _ _ _ _ _ _ _ _ _ _ _ _ _ _ _ _ _ _ _ fun w1 x1=> ?_
 have hw:=k0 x1
 refine Pure.mono (seq_begin (hg.next hw) (hp.keep hw) (h.keep hw (Nat.le_refl _)) hl hnc hn (hwk.keep hw (Nat.le_refl _)) hlw) ?_
 intro v w5 b5 hv
 have hw5:=kP hw b5
 unfold closedF
 by_cases h0:taskF ps hs (rsOf xs) l works≠0
 ·rw[if_pos h0]
  have hv:=hv.1 h0
  subst hv
  exact⟨_,_,rfl,fun _=>rfl,fun k=>absurd h0 k⟩
 rw[if_neg h0]
 obtain⟨k,hv,hk,hkn⟩:=hv.2 (Decidable.not_not.1 h0)
 subst hv
 have hk6:=hk.ok.n
 have hk3:=hk.lw
 have h64:=pow64 k.n3 (by omega)
 have hfl:=full_lt k.n3
 have run:Run w w5 k ps hs xs l works w5:= .new hw5 hk (hkn.le hw.size)
 have en:n3=k.n3:=by omega
 subst en
 rw[hk3]
 refine⟨_,_,rfl,fun q=>absurd rfl q,fun _=> ?_⟩
 refine runOk_makeMap (tk:=3) (te:=4) run.b.size fun w8 m8 b8=> ?_
 have r8:=run.keep b8
 have key:∀(d j:Nat)(f:Int->Option Bool)(w':World),n5 - j=d->j<=n5->Run w w5 k ps hs xs l works w'->Own w5 w5.heap.size f w'->(∀z:Nat,(f (z:Int)).getD false=decide ((z:Int)∈S.take j))->((S.take j).Pairwise fun a b=>a<b)->(∀s∈S.take j,0<=s/\s<(fullN k.n3:Nat))->
   F.sequence_Closed.L6 A3 k.n3 c3 A5 n5 c5 (some k.p) (some w5.heap.size) A5 n5 c5 n5 j w.heap.size w' fun v _=>v= .int .i64 (if closedB (allowF ps hs (rsOf xs) l works) k.n3 S=true then 0 else 14):=by
  intro d
  induction d with
  |zero=>
   intro j f w' hd hj hr hm hf hpw hal
   rw[List.take_of_length_le (by omega)]at hf hpw hal
   refine F.sequence_Closed.L6.step _ _ _ _ _ _ _ _ _ _ _ _ _ _ _ _ ⟨fun h=>by omega,fun _=>runOk_look hm.m mpB (z:=0) (by omega) (by omega) ?_⟩
   have hf0:(f 0).getD false=decide ((0:Int)∈S):=hf 0
   rw[hf0]
   refine⟨fun h1=> ?_,fun h1=> ?_⟩
   ·rw[if_neg]
    intro hc
    exact of_decide_eq_false h1 (closed_iff.1 hc).2.2.1
   ·exact closed_L15 hg (by omega) hSw hlS hn5 hf hpw hal (of_decide_eq_true (Bool.not_eq_false _|>.mp h1)) n5 0 w' rfl (by omega) hr hm (by simp)
  |succ d ih=>
   intro j f w' hd hj hr hm hf hpw hal
   have hjl:j<S.length:=by omega
   have e3:(j:Int)+1=((j+1:Nat):Int):=by omega
   have hmem:=List.getElem_mem hjl
   have et:S.take (j+1)=S.take j++[S[j]]:=by rw[List.take_add_one,List.getElem?_eq_getElem hjl];rfl
   obtain⟨hbb,ad,hA,hcell,_⟩:=(hSw.keep hr.b (Nat.le_refl _)).at_ (fun _=>rfl) hlS hjl
   have bad:¬(0<=S[j]/\S[j]<(fullN k.n3:Nat))->(Value.int .i64 14= .int .i64 (if closedB (allowF ps hs (rsOf xs) l works) k.n3 S=true then 0 else 14)):=fun q=>by
    rw[if_neg]
    intro hc
    exact q ((closed_iff.1 hc).2.1 _ hmem)
   refine F.sequence_Closed.L6.step _ _ _ _ _ _ _ _ _ _ _ _ _ _ _ _ ⟨fun _=>⟨hbb,ad,hA,_,hcell,fun h1=>bad (by omega),fun h1=> ?_⟩,fun h=>by omega⟩
   refine Pure.mono (seq_all hr.t.t (by omega)) ?_
   rintro v w13 b13 rfl
   have r13:=hr.keep b13
   have m13:=hm.low b13
   refine⟨_,rfl,fun h2=>bad (by omega),fun h2=> ?_⟩
   have go:∀(w':World),Run w w5 k ps hs xs l works w'->Own w5 w5.heap.size f w'->(∀s∈S.take j,s<S[j])->RunOkU Tryz.prog (Instr.mapUpdate 90 (.map (some w5.heap.size)) (.int .i64 S[j]) (.bool true)) w.heap.size [] w' fun w16=>inR .i64 ((j:Int)+1)/\F.sequence_Closed.L6 A3 k.n3 c3 A5 n5 c5 (some k.p) (some w5.heap.size) A5 n5 c5 n5 ((j:Int)+1) w.heap.size w16 fun v _=>v= .int .i64 (if closedB (allowF ps hs (rsOf xs) l works) k.n3 S=true then 0 else 14):=by
    intro w' hr hm hlt
    refine runOk_update hm.m mpB (by omega) (by omega) true hr.lo hr.b.size fun w16 m16 _ g16=>⟨by simp only[inR];omega,?_⟩
    rw[e3]
    refine ih (j+1) _ w16 (by omega) (by omega) (hr.hi (below_grown g16 (fun i hi=>by cases hi;exact hm.m.1) hr.c.size)) ⟨m16⟩ (fun z=> ?_) ?_ ?_
    ·rw[et]
     unfold putM
     by_cases hz:(z:Int)=S[j]
     ·rw[if_pos hz]
      exact(decide_eq_true (List.mem_append_right _ (by rw[hz];exact List.mem_singleton.2 rfl))).symm
     ·rw[if_neg hz,hf,decide_eq_decide]
      refine⟨fun q=>List.mem_append_left _ q,fun q=> ?_⟩
      rcases List.mem_append.1 q with q|q
      ·exact q
      ·exact absurd (List.mem_singleton.1 q) hz
    ·rw[et,List.pairwise_append]
     exact⟨hpw,by simp,fun a ha b hb=>by rw[List.mem_singleton.1 hb];exact hlt a ha⟩
    ·rw[et]
     intro s hs'
     rcases List.mem_append.1 hs' with hs'|hs'
     ·exact hal s hs'
     ·rw[List.mem_singleton.1 hs']
      omega
   refine⟨fun h3=> ?_,fun h3=>go w13 r13 m13 fun s hs'=>by
    have e:S.take j=[]:=List.eq_nil_of_length_eq_zero (by rw[List.length_take];omega)
    rw[e]at hs'
    cases hs'⟩
   have hj1:j - 1<S.length:=by omega
   have ej:(j:Int) - 1=((j - 1:Nat):Int):=by omega
   rw[ej]
   obtain⟨hbp,ap,hAp,hcp,_⟩:=(hSw.keep r13.b (Nat.le_refl _)).at_ (fun _=>rfl) hlS hj1
   refine⟨by simp only[inR];omega,hbp,ap,hAp,_,hcp,fun h4=> ?_,fun h4=>go w13 r13 m13 fun s hs'=> ?_⟩
   ·rw[if_neg]
    intro hc
    have:=List.pairwise_iff_getElem.1 (closed_iff.1 hc).1 (j - 1) j hj1 hjl (by omega)
    omega
   ·have hlast:∀s∈S.take j,s<=S[j - 1]:=by
     intro s hs'
     obtain⟨i,hi,rfl⟩:=List.mem_iff_getElem.1 hs'
     rw[List.length_take]at hi
     by_cases e:i=j - 1
     ·subst e
      rw[List.getElem_take]
      exact Int.le_refl _
     ·have:=List.pairwise_iff_getElem.1 hpw i (j - 1) (by rw[List.length_take];omega) (by rw[List.length_take];omega) (by omega)
      rw[List.getElem_take,List.getElem_take]at this
      rw[List.getElem_take]
      omega
    have:=hlast s hs'
    omega
 exact key n5 0 _ w8 rfl (by omega) r8 ⟨m8⟩ (fun z=>by simp) (by simp) (by simp)
end

abbrev b1(v:Value)(ty:Nat):Obj:= .cells [v].toArray ty (0,0)
structure Go_ (w0 wb:World) (k:Tk) (md q0 q1 q2 q3 q4:Nat) (ps:List Pa) (hs:List Ho) (xs:List Rm) (l works:List Sw) (w:World) (A:Option Addr) (n c:Nat) (o:List Int):Prop where
 r:Run w0 wb k ps hs xs l works w
 h0:w.heap[q0]? =some (b1 (.pointer (some k.p)) 79)
 h1:w.heap[q1]? =some (b1 (.map (some md)) 90)
 h2:∃A c,w.heap[q2]? =some (b1 (.slice A k.n3 c) 30)
 h3:w.heap[q3]? =some (b1 (.slice A n c) 48)
 h4:w.heap[q4]? =some (b1 (.func (.func 52) #[] #[.pointer (some ⟨q0,0,none⟩),.pointer (some ⟨q1,0,none⟩),.pointer (some ⟨q2,0,none⟩),.pointer (some ⟨q3,0,none⟩),.pointer (some ⟨q4,0,none⟩)]) 91)
 hi:wb.heap.size<=q3
 own:OwnR w wb.heap.size 3 A n c 1 (o.map iRow)
 d:∃f,MpR w w0.heap.size 3 4 md f/\∀s:Nat,f (s:Int)=some true->¬Pth (allowF ps hs (rsOf xs) l works) k.n3 s
 dl:md<wb.heap.size
 ne:md≠k.m
def Kp(w w':World):Prop:=∀(i ty:Nat)(cs:Array Value),ty≠48->ty≠3->w.heap[i]? =some (.cells cs ty (0,0))->w'.heap[i]? =some (.cells cs ty (0,0))
theorem Kp.trans{w w1 w2:World}(h:Kp w w1)(k:Kp w1 w2):Kp w w2:=fun i ty cs h1 h2 e=>k i ty cs h1 h2 (h i ty cs h1 h2 e)
theorem Kp.cl{w w':World}(h:Cl w w'):Kp w w':=fun i ty cs _ _ e=>h.cells i cs ty _ e
section
variable {w0 wb w:World} {k:Tk} {md q0 q1 q2 q3 q4:Nat} {ps:List Pa} {hs:List Ho} {xs:List Rm} {l works:List Sw} {A:Option Addr} {n c:Nat} {o:List Int}
theorem Go_.cl{w w':World}(g:Go_ w0 wb k md q0 q1 q2 q3 q4 ps hs xs l works w A n c o)(hr:Run w0 wb k ps hs xs l works w')(hc:Cl w w')(hd:w'.heap[md]? =w.heap[md]?):Go_ w0 wb k md q0 q1 q2 q3 q4 ps hs xs l works w' A n c o:=by
 obtain⟨f,f1,f2⟩:=g.d
 obtain⟨B2,e2,h2⟩:=g.h2
 exact⟨hr,hc.cells _ _ _ _ g.h0,hc.cells _ _ _ _ g.h1,⟨B2,e2,hc.cells _ _ _ _ h2⟩,hc.cells _ _ _ _ g.h3,hc.cells _ _ _ _ g.h4,g.hi,g.own.cl hc,⟨f,f1.same hd,f2⟩,g.dl,g.ne⟩
theorem Go_.mlt(g:Go_ w0 wb k md q0 q1 q2 q3 q4 ps hs xs l works w A n c o):md<w.heap.size:=Nat.lt_of_lt_of_le g.dl g.r.c.size
theorem Go_.low{w w':World}(g:Go_ w0 wb k md q0 q1 q2 q3 q4 ps hs xs l works w A n c o)(hb:Below w.heap.size w w'):Go_ w0 wb k md q0 q1 q2 q3 q4 ps hs xs l works w' A n c o:=
 g.cl (g.r.keep hb) (Cl.low hb) (hb.block _ g.mlt)
theorem Go_.kp{w w':World}(g:Go_ w0 wb k md q0 q1 q2 q3 q4 ps hs xs l works w A n c o)(hb:Below wb.heap.size w w')(hk:Kp w w'){A':Option Addr}{n' c':Nat}{o':List Int}(h3:w'.heap[q3]? =some (b1 (.slice A' n' c') 48))(ho:OwnR w' wb.heap.size 3 A' n' c' 1 (o'.map iRow)):Go_ w0 wb k md q0 q1 q2 q3 q4 ps hs xs l works w' A' n' c' o':=by
 obtain⟨f,f1,f2⟩:=g.d
 obtain⟨B2,e2,h2⟩:=g.h2
 exact⟨g.r.hi hb,hk _ _ _ (by decide) (by decide) g.h0,hk _ _ _ (by decide) (by decide) g.h1,⟨B2,e2,hk _ _ _ (by decide) (by decide) h2⟩,h3,hk _ _ _ (by decide) (by decide) g.h4,g.hi,ho,⟨f,f1.same (hb.block _ g.dl),f2⟩,g.dl,g.ne⟩
theorem Go_.put{w w':World}(g:Go_ w0 wb k md q0 q1 q2 q3 q4 ps hs xs l works w A n c o){w1:World}{A1:Option Addr}{n1 c1:Nat}{o1:List Int}(hb:Below wb.heap.size w w1)(hk:Kp w w1)(h3:w1.heap[q3]? =some (b1 (.slice A n c) 48))(ho:OwnR w1 wb.heap.size 3 A1 n1 c1 1 (o1.map iRow))(hw:Wrote w1 w' q3 48 [.slice A1 n1 c1]):
  Go_ w0 wb k md q0 q1 q2 q3 q4 ps hs xs l works w' A1 n1 c1 o1/\Kp w w':=by
 have hkw:Kp w1 w':=fun i ty cs hy _ e=>by
  rw[hw.rest i fun q=> ?_]
  ·exact e
  ·subst q
   rw[h3]at e
   cases e
   exact hy rfl
 refine⟨g.kp (hb.trans (Wrote.belowR hw g.hi)) (hk.trans hkw) hw.at_ (ho.other fun a ha=>hw.rest _ fun q=> ?_),hk.trans hkw⟩
 obtain⟨cs,e⟩:=ho.cells a ha
 rw[q,h3]at e
 cases e
theorem row_kp{w w':World}(ho:OwnR w wb.heap.size 3 A n c 1 (o.map iRow))(hg:w.grownBy w' (Value.ownBlock (.slice A n c))):Kp w w':=fun i ty cs _ hy e=>by
 rw[hg.block i (Array.getElem?_eq_some_iff.1 e).1 fun q=> ?_]
 ·exact e
 ·cases A with
  |none=>cases q
  |some a=>
   obtain⟨cs',e'⟩:=ho.cells a rfl
   cases q
   rw[e]at e'
   cases e'
   exact hy rfl
theorem row_h3{w w':World}(ho:OwnR w wb.heap.size 3 A n c 1 (o.map iRow))(hg:w.grownBy w' (Value.ownBlock (.slice A n c))){q:Nat}{v:Value}(h:w.heap[q]? =some (b1 v 48)):w'.heap[q]? =some (b1 v 48):=by
 rw[hg.block q (Array.getElem?_eq_some_iff.1 h).1 fun e=> ?_]
 ·exact h
 ·cases A with
  |none=>cases e
  |some a=>
   obtain⟨cs',e'⟩:=ho.cells a rfl
   cases e
   rw[h]at e'
   cases e'
theorem add_self{s i:Nat}:addB s i=s↔s.testBit i=true:=by
 constructor
 ·intro h
  have:=addB_bit s i i
  rw[h]at this
  rw[this]
  simp
 ·intro h
  refine Nat.eq_of_testBit_eq fun j=> ?_
  rw[addB_bit]
  by_cases e:i=j
  ·subst e;rw[h];rfl
  ·simp[e]
def GoR(w0 wb:World)(k:Tk)(md q0 q1 q2 q3 q4:Nat)(ps:List Pa)(hs:List Ho)(xs:List Rm)(l works:List Sw)(w:World)(o:List Int)(r:Option (List Nat))(v:Value)(w':World):Prop:=
 Kp w w'/\∃A n c,(r=none->v= .bool false/\Go_ w0 wb k md q0 q1 q2 q3 q4 ps hs xs l works w' A n c o)/\∀x,r=some x->v= .bool true/\Go_ w0 wb k md q0 q1 q2 q3 q4 ps hs xs l works w' A n c (o++x.map fun(i:Nat)=>(i:Int))
theorem go1(hg:Glob w0)(hn6:k.n3<=6):∀(d s:Nat)(w:World)(A:Option Addr)(n c:Nat)(o:List Int),leftN k.n3 s<=d->s<2^k.n3->n+leftN k.n3 s<=6->Go_ w0 wb k md q0 q1 q2 q3 q4 ps hs xs l works w A n c o->
  PureB Tryz.prog 52 #[.int .i64 (s:Int),.pointer (some ⟨q0,0,none⟩),.pointer (some ⟨q1,0,none⟩),.pointer (some ⟨q2,0,none⟩),.pointer (some ⟨q3,0,none⟩),.pointer (some ⟨q4,0,none⟩)] w0.heap.size w (GoR w0 wb k md q0 q1 q2 q3 q4 ps hs xs l works w o (restF (allowF ps hs (rsOf xs) l works) k.n3 d s)):=by
 have h64:=pow64 _ hn6
 have hfl:=full_lt k.n3
 intro d
 induction d with
 |zero=>
  intro s w A n c o hd hs' hn g
  have e:=left_zero hs' (by omega)
  refine F.sequence_Order_c1.vcB _ _ _ _ _ _ _ _ g.r.b.size _ ⟨_,box_cell0 g.h0 rfl,Pure.mono (seq_all g.r.t.t hn6) ?_⟩
  rintro v w4 b4 rfl
  refine⟨_,rfl,fun _=>⟨Kp.cl (Cl.low b4),A,n,c,fun q=> ?_,fun x hx=> ?_⟩,fun h=>absurd (by rw[e]) h⟩
  ·rw[restF,if_pos e]at q
   cases q
  ·rw[restF,if_pos e]at hx
   cases hx
   exact⟨rfl,by rw[List.map_nil,List.append_nil];exact g.low b4⟩
 |succ d ih=>
  intro s w A n c o hd hs' hn g
  have hno:=g.own.len
  rw[List.length_map]at hno
  refine F.sequence_Order_c1.vcB _ _ _ _ _ _ _ _ g.r.b.size _ ⟨_,box_cell0 g.h0 rfl,Pure.mono (seq_all g.r.t.t hn6) ?_⟩
  rintro v w4 b4 rfl
  have g:=g.low b4
  have k4:Kp w w4:=Kp.cl (Cl.low b4)
  refine⟨_,rfl,fun h1=>⟨k4,A,n,c,fun q=> ?_,fun x hx=> ?_⟩,fun h1=> ?_⟩
  ·rw[restF,if_pos (by omega)]at q
   cases q
  ·rw[restF,if_pos (by omega)]at hx
   cases hx
   exact⟨rfl,by rw[List.map_nil,List.append_nil];exact g⟩
  have hne:s≠fullN k.n3:=fun e=>h1 (by rw[e])
  obtain⟨f,f1,f2⟩:=g.d
  refine⟨_,box_cell0 g.h1 rfl,runOk_look f1 mpB (by omega) (by omega) ⟨fun h2=>⟨k4,A,n,c,fun _=>⟨rfl,g⟩,fun x hx=> ?_⟩,fun h2=> ?_⟩⟩
  ·exact absurd (rest_some _ _ _ hx) (f2 s (by
    cases e:f (s:Int)with
    |none=>rw[e]at h2;cases h2
    |some y=>rw[e]at h2;exact congrArg some h2))
  obtain⟨B2,e2,h2'⟩:=g.h2
  refine⟨_,_,_,box_cell0 h2' rfl,?_⟩
  have hrest:restF (allowF ps hs (rsOf xs) l works) k.n3 (d+1) s=(List.range k.n3).findSome? fun i=>if s.testBit i|| !allowF ps hs (rsOf xs) l works (addB s i)then none else(restF (allowF ps hs (rsOf xs) l works) k.n3 d (addB s i)).map (i:: ·):=by rw[restF,if_neg hne]
  have loop:∀(e i:Nat)(A:Option Addr)(n c:Nat)(w1:World),k.n3 - i=e->i<=k.n3->n+leftN k.n3 s<=6->Kp w w1->Go_ w0 wb k md q0 q1 q2 q3 q4 ps hs xs l works w1 A n c o->restF (allowF ps hs (rsOf xs) l works) k.n3 (d+1) s=((List.range k.n3).drop i).findSome? (fun i=>if s.testBit i|| !allowF ps hs (rsOf xs) l works (addB s i)then none else(restF (allowF ps hs (rsOf xs) l works) k.n3 d (addB s i)).map (i:: ·))->
    F.sequence_Order_c1.L6 s ⟨q0,0,none⟩ ⟨q1,0,none⟩ ⟨q3,0,none⟩ ⟨q4,0,none⟩ k.n3 i w0.heap.size w1 (GoR w0 wb k md q0 q1 q2 q3 q4 ps hs xs l works w o (restF (allowF ps hs (rsOf xs) l works) k.n3 (d+1) s)):=by
   intro e
   induction e with
   |zero=>
    intro i A n c w1 he hi hn hk g hr
    rw[List.drop_eq_nil_of_le (by simp;omega)]at hr
    have hnone:restF (allowF ps hs (rsOf xs) l works) k.n3 (d+1) s=none:=hr
    obtain⟨f,f1,f2⟩:=g.d
    obtain⟨B2,e2,h2⟩:=g.h2
    refine F.sequence_Order_c1.L6.step _ _ _ _ _ _ _ _ _ _ ⟨fun h=>by omega,fun _=>⟨_,box_cell0 g.h1 rfl,runOk_update f1 mpB (by omega) (by omega) true (Nat.le_refl _) g.r.b.size fun w34 m34 b34 g34=> ?_⟩⟩
    have cl:=Cl.map f1 g34
    have hkm:w34.heap[k.m]? =w1.heap[k.m]? :=g34.block _ (Nat.lt_of_lt_of_le g.r.m g.r.c.size) fun q=>g.ne (by cases q;rfl)
    refine⟨hk.trans (Kp.cl cl),A,n,c,fun _=>⟨rfl,?_⟩,fun x hx=>by rw[hnone]at hx;cases hx⟩
    obtain⟨kf,kf1,kf2⟩:=g.r.kn
    exact⟨⟨g.r.b.trans b34,g.r.lo,g.r.tb,g.r.c.trans cl,⟨kf,kf1.same hkm,kf2⟩,g.r.m⟩,cl.cells _ _ _ _ g.h0,cl.cells _ _ _ _ g.h1,⟨B2,e2,cl.cells _ _ _ _ h2⟩,cl.cells _ _ _ _ g.h3,cl.cells _ _ _ _ g.h4,g.hi,g.own.cl cl,⟨_,m34,fun z hz=>by
     unfold putM at hz
     split at hz
     ·rename_i q
      have:z=s:=by omega
      subst this
      exact rest_none (d+1) z hd hs' hnone
     ·exact f2 z hz⟩,g.dl,g.ne⟩
   |succ e ihe=>
    intro i A n c w1 he hi hn hk g hr
    have ei:(i:Int)+1=((i+1:Nat):Int):=by omega
    have hir:i<(List.range k.n3).length:=by simp;omega
    rw[List.drop_eq_getElem_cons hir,List.getElem_range,List.findSome?_cons]at hr
    have hlt:=addB_lt (s:=s) (i:=i) (n:=k.n3) hs' (by omega)
    have hno:=g.own.len
    rw[List.length_map]at hno
    refine F.sequence_Order_c1.L6.step _ _ _ _ _ _ _ _ _ _ ⟨fun _=>⟨sh_ok (by omega),?_⟩,fun h=>by omega⟩
    rw[shl_one _ (by omega),or_pow _ (by omega) _ (by omega)]
    refine⟨fun h3=>⟨by simp only[inR];omega,?_⟩,fun h3=>⟨_,box_cell0 g.h0 rfl,?_⟩⟩
    ·have hbit:s.testBit i=true:=add_self.1 (by omega)
     rw[hbit,Bool.true_or,if_pos rfl]at hr
     rw[ei]
     exact ihe (i+1) A n c w1 (by omega) (by omega) hn hk g hr
    have hbit:s.testBit i=false:=Bool.not_eq_true _|>.mp fun q=>h3 (by rw[add_self.2 q])
    have hleft:=left_add (n:=k.n3) (by omega) hbit
    rw[hbit,Bool.false_or]at hr
    refine g.r.allowed hg (by omega) fun w13 r13 bt cl=>⟨fun _ _ _ h=>(by cases h),_,rfl,fun h4=>⟨by simp only[inR];omega,?_⟩,fun h4=> ?_⟩
    ·rw[h4,Bool.not_false,if_pos rfl]at hr
     rw[ei]
     exact ihe (i+1) A n c w13 (by omega) (by omega) hn (hk.trans (Kp.cl cl)) (g.cl r13 cl (bt.other _ g.mlt g.ne)) hr
    have h4:=Bool.not_eq_false _|>.mp h4
    rw[h4,Bool.not_true,if_neg (by decide)]at hr
    have g13:=g.cl r13 cl (bt.other _ g.mlt g.ne)
    have k13:=hk.trans (Kp.cl cl)
    refine⟨_,_,_,box_cell0 g13.h3 rfl,app_row el_Ints (B:=wb.heap.size) r13.lo g13.own (x:= .int .i64 (i:Int)) rfl (by simp[Value.cells,isCell]) r13.c.size (by omega) (by decide) fun A' c' w20 o20 g20 _=> ?_⟩
    have hk20:=row_kp g13.own g20
    have h320:=row_h3 g13.own g20 g13.h3
    have hb20:=grown_hi g13.own g20 r13.c.size
    refine⟨[.slice A n c],48,Nat.le_trans r13.lo g13.hi,rfl,h320,by simp,rfl,fun w23 hw23=> ?_⟩
    obtain⟨g23,k23⟩:=g13.put (o1:=o++[(i:Int)]) hb20 hk20 h320 (by rw[List.map_append];exact o20) hw23
    refine⟨_,_,_,box_cell0 g23.h4 rfl,by kernel_rfl,?_⟩
    refine PureB.mono (ih (addB s i) w23 A' (n+1) c' (o++[(i:Int)]) (by omega) hlt (by omega) g23) ?_
    rintro v w27 b27 ⟨k27,A2,n2,c2,hN,hS⟩
    have kk:=(k13.trans k23).trans k27
    refine⟨fun _ _ _ h=>(by cases h),?_⟩
    cases hrr:restF (allowF ps hs (rsOf xs) l works) k.n3 d (addB s i)with
    |none=>
     obtain⟨rfl,g27⟩:=hN hrr
     rw[hrr]at hr
     have hln:=g27.own.len
     rw[List.length_map,List.length_append,List.length_singleton]at hln
     refine⟨_,rfl,fun q=>(by cases q),fun _=>⟨_,_,_,box_cell0 g27.h3 rfl,_,_,_,box_cell0 g27.h3 rfl,by simp only[inR];omega,by have:=g27.own.len_le;omega,[.slice A2 n2 c2],48,Nat.le_trans r13.lo g27.hi,rfl,g27.h3,by simp,rfl,fun w32 hw32=>⟨by simp only[inR];omega,?_⟩⟩⟩
     have en:((n2:Int) - 1).toNat=n:=by omega
     rw[en]at hw32
     have osh:=g27.own.short (m:=n) (by omega)
     rw[<-List.map_take,List.take_append_of_le_length (by omega),List.take_of_length_le (by omega)]at osh
     obtain⟨g32,k32⟩:=g27.put (o1:=o) (Below.refl _ _) (fun _ _ _ _ _ e=>e) g27.h3 osh hw32
     rw[ei]
     exact ihe (i+1) A2 n c2 w32 (by omega) (by omega) hn (kk.trans k32) g32 hr
    |some x=>
     obtain⟨rfl,g27⟩:=hS x hrr
     rw[hrr]at hr
     refine⟨_,rfl,fun _=>⟨kk,A2,n2,c2,fun q=> ?_,fun y hy=>⟨rfl,?_⟩⟩,fun q=>(by cases q)⟩
     ·rw[hr]at q;cases q
     ·rw[hr]at hy
      cases hy
      rw[List.map_cons,show o++((i:Int)::x.map fun(i:Nat)=>(i:Int))=(o++[(i:Int)])++x.map fun(i:Nat)=>(i:Int) by simp]
      exact g27
  exact loop k.n3 0 A n c w4 rfl (by omega) hn k4 g (by rw[List.drop_zero];exact hrest)
end
section
variable {w:World} {A0 A1 A2 A A3:Option Addr} {n0 c0 n1 c1 n2 c2 n c n3 c3:Nat} {ps:List Pa} {hs:List Ho} {xs:List Rm} {l works:List Sw}
theorem seq_Order(hg:Glob w)(hp:PrIn w A0 n0 A1 n1 A2 n2 c2 ps hs xs)(h:SlR w A 3 (l.map Sw.row))(hl:l.length=n)(hnc:n<=c)(hn:n<=40)(hwk:SlR w A3 3 (works.map Sw.row))(hlw:works.length=n3):
  Pure Tryz.prog 22 #[.agg #[.slice A0 n0 c0,.slice A1 n1 c1,.slice A2 n2 c2],.slice A n c,.slice A3 n3 c3] w (InR (orderF ps hs (rsOf xs) l works)):=by
 refine F.sequence_Order.vc _ _ _ _ _ _ _ _ _ _ _ _ _ _ _ _ _ fun w1 x1=> ?_
 have hw:=k0 x1
 refine Pure.mono (seq_begin (c3:=c3) (hg.next hw) (hp.keep hw) (h.keep hw (Nat.le_refl _)) hl hnc hn (hwk.keep hw (Nat.le_refl _)) hlw) ?_
 intro v w5 b5 hv
 have hw5:=kP hw b5
 unfold orderF
 by_cases h0:taskF ps hs (rsOf xs) l works≠0
 ·rw[if_pos h0]
  have hv:=hv.1 h0
  subst hv
  exact⟨_,_,rfl,fun _ _ _=>⟨_,_,_,rfl,.inl rfl,rfl,Nat.le_refl _⟩,fun k=>absurd h0 k⟩
 rw[if_neg h0]
 obtain⟨k,hv,hk,hkn⟩:=hv.2 (Decidable.not_not.1 h0)
 subst hv
 have hk6:=hk.ok.n
 have hk3:=hk.lw
 have en:n3=k.n3:=by omega
 subst en
 rw[hk3]
 refine⟨_,_,rfl,fun q=>absurd rfl q,fun _ w7 x7=> ?_⟩
 have hw7:=kE hw5 x7
 have hkm:k.m<w5.heap.size:=by obtain⟨f,f1,_⟩:=hkn;exact f1.lt
 refine runOk_makeMap (tk:=3) (te:=4) hw7.size fun w10 m10 b10 w11 x11=> ?_
 have hw10:=kP hw7 b10
 have hw11:=kE hw10 x11
 have b511:Below w5.heap.size w5 w11:=kP (kP (extAll x7) b10) (extAll x11)
 have hk11:=hk.keep b511
 have hkn11:=(hkn.below b511).le hw.size
 have run:=Run.new hw11 hk11 hkn11
 have m11:=m10.ext x11
 refine runOk_alloc (z:= .slice none 0 0) _ (by kernel_rfl) hw11.size fun w12 h12 b12 _=> ?_
 have hw12:=kP hw11 b12
 refine runOk_alloc (z:= .nilFunc) _ (by kernel_rfl) hw12.size fun w15 h15 b15 _ p18 hp18 hb18 p19 hp19 hb19 p20 hp20 hb20=> ?_
 have hw15:=kP hw12 b15
 have r15:=(run.keep b12).hi (b15.mono b12.size)
 refine⟨[.nilFunc],_,hw12.size,rfl,h15,by simp,rfl,fun w23 hw23=> ?_⟩
 have hb23:Below w11.heap.size w15 w23:=Wrote.belowR hw23 b12.size
 have other:∀{i ty:Nat} {cs:Array Value},w15.heap[i]? =some (.cells cs ty (0,0))->ty≠91->w23.heap[i]? =some (.cells cs ty (0,0)):=by
  intro i ty cs e hne
  rw[hw23.rest i fun q=> ?_]
  ·exact e
  ·subst q
   rw[h15]at e
   cases e
   exact hne rfl
 have hmlt:w7.heap.size<w11.heap.size:=m11.lt
 have g:Go_ w w11 k w7.heap.size p20 p19 p18 w11.heap.size w12.heap.size ps hs xs l works w23 none 0 0 []:=by
  refine⟨r15.hi hb23,other hb20 (by decide),other hb19 (by decide),⟨_,_,other hb18 (by decide)⟩,other (heap_keep h12 b15) (by decide),hw23.at_,Nat.le_refl _,OwnR.nil,⟨_,(((m11.below b12).below b15).same (hb23.block _ hmlt)).le hw7.size,fun s q=>by cases q⟩,hmlt,by have:=(extAll x7).size;omega⟩
 refine⟨_,_,_,box_cell0 g.h4 rfl,by kernel_rfl,?_⟩
 refine PureB.mono (go1 hg (by omega) k.n3 0 w23 none 0 0 [] (left_le _ _) (Nat.two_pow_pos _) (by have:=left_le k.n3 0;omega) g) ?_
 rintro v w27 b27 ⟨k27,A',n',c',hN,hS⟩
 refine⟨fun i ty cs hty e=> ?_,?_⟩
 ·have:=List.mem_singleton.1 hty
  subst this
  rw[e]
  exact k27 i _ cs (by decide) (by decide) e
 cases hrr:restF (allowF ps hs (rsOf xs) l works) k.n3 k.n3 0 with
 |none=>
  obtain⟨rfl,g27⟩:=hN hrr
  exact⟨_,rfl,fun _=>⟨_,_,_,rfl,.inl rfl,rfl,Nat.le_refl _⟩,fun q=>absurd rfl q⟩
 |some x=>
  obtain⟨rfl,g27⟩:=hS x hrr
  have hln:=g27.own.len
  rw[List.length_map,List.nil_append]at hln
  exact⟨_,rfl,fun q=>(by cases q),fun _=>⟨_,_,_,box_cell0 g27.h3 rfl,A',n',c',rfl,g27.own.sl,hln,g27.own.len_le⟩⟩
end
end Go.Proofs.YtgfkeadgjkfomaaGreatDoor.B
