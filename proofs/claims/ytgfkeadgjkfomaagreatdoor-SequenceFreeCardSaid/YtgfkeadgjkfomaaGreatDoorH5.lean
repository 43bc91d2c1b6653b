/- Part 5 of the proofs that: without rules, and with holds that can take everything, any order of steps that only put in is one -/
import Derived.Test.YtgfkeadgjkfomaaGreatDoorH4
import Derived.Test.YtgfkeadgjkfomaaGreatDoorProg
import Derived.MapKept
set_option linter.unusedVariables false
set_option linter.unusedSimpArgs false
namespace Go.Proofs.YtgfkeadgjkfomaaGreatDoor.B
open Go Go.RowKit Go.Shelf Go.Proofs Go.Proofs.YtgfkeadgjkfomaaGreatDoor.Vc
attribute [local go_sem] Oper.semAt_some

def digs:Nat->Nat->Tx
 |0,_=>[]
 |k+1,r=>digs k (r / 10)++[UInt8.ofNat (48+r % 10)]
theorem natT_shift(q:Nat)(hq:0<q):∀(k r:Nat),r<10^k->natT (q*10^k+r)=natT q++digs k r:=by
 intro k
 induction k with
 |zero=>intro r hr;simp at hr;simp[hr,digs]
 |succ k ih=>
  intro r hr
  rw[Nat.pow_succ]at hr⊢
  have hp:0<10^k:=Nat.pow_pos (by omega)
  have h1:1<=q*10^k:=Nat.mul_pos hq hp
  have e:q*(10^k*10)+r=10*(q*10^k)+r:=by grind
  rw[e,natT_big (by omega),show(10*(q*10^k)+r) / 10=q*10^k+r / 10 by omega,show(10*(q*10^k)+r) % 10=r % 10 by omega,ih (r / 10) (by omega),digs,List.append_assoc]
theorem digs_zero(k:Nat):digs k 0=List.replicate k 48:=by
 induction k with
 |zero=>rfl
 |succ k ih=>rw[digs,Nat.zero_div,ih,List.replicate_succ'];rfl
theorem digs_pad:∀(k r:Nat),r<10^k->1<=k->digs k r=List.replicate (k - (natT r).length) 48++natT r:=by
 intro k
 induction k with
 |zero=>intro r _ h;omega
 |succ k ih=>
  intro r hr _
  rw[Nat.pow_succ]at hr
  by_cases h:r<10
  ·rw[digs,show r / 10=0 by omega,digs_zero,natT_small h,show r % 10=r by omega]
   simp
  ·have hk:1<=k:=by
    apply Decidable.byContradiction
    intro k0
    have:k=0:=by omega
    subst this
    omega
   rw[digs,ih (r / 10) (by omega) hk,natT_big h,List.length_append,List.append_assoc]
   congr 2
   simp

def onePW(n:Nat)(p:PW):Tx:=if(p.1:Int)<(n:Int) - 1 then List.replicate (9 - (natT p.2.1).length) 48++natT p.2.1 else natT p.2.1
def txP(n:Nat)(l:List PW):Tx:=l.flatMap (onePW n)
theorem txP_snoc(n:Nat)(l:List PW)(p:PW):txP n (l++[p])=txP n l++onePW n p:=by simp[txP]
theorem txP_came(ws:List Nat)(hs:Small ws)(hn:Norm ws):∀d m,ws.length - 1 - m=d->m<ws.length->txP ws.length (cameP ws hs m)=natT (wv (ws.drop m)):=by
 intro d
 induction d with
 |zero=>
  intro m hd hm
  have hm':m=ws.length - 1:=by omega
  have e:cameP ws hs m=[gPW ws hs m]:=by
   rw[cameP_step ws hs hm,show m+1=ws.length by omega,cameP_all];rfl
  rw[e,wv_drop,List.drop_eq_nil_of_le (by omega)]
  have h1:¬((m:Int)<(ws.length:Int) - 1):=by omega
  simp[txP,onePW,gPW,h1,wv]
 |succ d ih=>
  intro m hd hm
  rw[cameP_step ws hs hm,txP_snoc,ih (m+1) (by omega) (by omega),wv_drop ws m]
  have h1:((m:Int)<(ws.length:Int) - 1):=by omega
  have hx:=hs.getD m
  have hpos:0<wv (ws.drop (m+1)):=by
   have hne:ws.drop (m+1)≠[]:=by
    intro k
    have:=congrArg List.length k
    simp at this
    omega
   have hnn:Norm (ws.drop (m+1)):=by
    unfold Norm at*
    rw[List.getLast?_drop,if_neg (by omega)]
    exact hn
   have:=wv_pos hnn hne
   have hp:0<1000000000^((ws.drop (m+1)).length - 1):=Nat.pow_pos (by omega)
   omega
  have e:ws.getD m 0+1000000000*wv (ws.drop (m+1))=wv (ws.drop (m+1))*10^9+ws.getD m 0:=by omega
  rw[e,natT_shift _ hpos 9 _ (by omega),digs_pad 9 _ (by omega) (by omega)]
  have e2:onePW ws.length (gPW ws hs m)=List.replicate (9 - (natT (ws.getD m 0)).length) 48++natT (ws.getD m 0):=by
   simp[onePW,gPW,h1]
  rw[e2]
theorem txP_all(ws:List Nat)(hs:Small ws)(hn:Norm ws)(h:ws≠[]):txP ws.length (cameP ws hs 0)=natT (wv ws):=by
 have:=txP_came ws hs hn _ 0 rfl (List.length_pos_iff.2 h)
 simpa using this
theorem onePW_length(n:Nat)(p:PW):(onePW n p).length<=9:=by
 have h:=natT_length_le (n:=p.2.1) (k:=9) p.2.2 (by omega)
 unfold onePW
 split
 ·simp;omega
 ·exact h
theorem txP_length(n:Nat)(l:List PW):(txP n l).length<=9*l.length:=by
 induction l with
 |nil=>simp[txP]
 |cons p r ih=>
  have:=onePW_length n p
  simp only[txP,List.flatMap_cons,List.length_append,List.length_cons]at*
  omega

theorem grown_below{w w':World}(h:Below w.heap.size w w'):w.grownBy w' none:=⟨h.os,h.tape,h.output,h.size,fun k hk _=>h.block k hk⟩
theorem builder_kept{T e B b:Nat}{bs:List Value}{w w':World}{row:Option Nat}(h:Lib.IsBuilderF T e B b bs w)(hg:w.grownBy w' row)(hr:∀r,row=some r->∃o:Obj,w.heap[r]? =some o/\o.isCells=false):Lib.IsBuilderF T e B b bs w':=by
 have one:∀p,Lib.BuilderAtF T e B b p bs w->Lib.BuilderAtF T e B b p bs w':=by
  rintro p ⟨hB,v,hb,hown,hne⟩
  refine⟨hB,v,?_,hown.kept hg ?_,hne⟩
  ·rw[hg.block b (Array.getElem?_eq_some_iff.1 hb).1]
   ·exact hb
   ·intro k
    obtain⟨o,ho,hc⟩:=hr b k.symm
    rw[hb]at ho
    cases ho
    simp[Obj.isCells]at hc
  ·rcases hown.2 with⟨hv,_⟩|⟨g,cap,cur,fz,hv,_,hgg,_⟩
   ·left;rw[hv];rfl
   ·right
    rw[hv]
    intro k
    simp only[Value.ownBlock]at k
    obtain⟨o,ho,hc⟩:=hr g k.symm
    rw[hgg]at ho
    cases ho
    simp[Obj.isCells]at hc
 exact h.imp (one _) (one _)
theorem CK.of_others{b:Nat}{W W':World}(h:Lib.OthersKept 5 (some b) W W'):CK b W W':=fun k cs ty fz hk hne hty=>h k _ hk (fun e=>hne (by cases e;rfl)) fun c f e=>by cases e;exact hty rfl
theorem others_below{b:Nat}{W W':World}(h:Below W.heap.size W W'):Lib.OthersKept 5 (some b) W W':=fun k o hk _ _=>by
 rw[h.block k (Array.getElem?_eq_some_iff.1 hk).1];exact hk
theorem keepsFrom_others{b B:Nat}{W W':World}(h:Lib.OthersKept 5 (some b) W W')(hs:W.heap.size<=W'.heap.size)(hb:∀o,W.heap[b]? =some o->o.isCells=true):KeepsFrom B W W':=
 ⟨hs,fun k o _ hk hc=>h k o hk (fun e=>by cases e;rw[hb o hk]at hc;cases hc) fun c f e=>by subst e;simp[Obj.isCells]at hc⟩
theorem builder_lt{T e B b:Nat}{bs:List Value}{w:World}(h:Lib.IsBuilderF T e B b bs w):∀o,w.heap[b]? =some o->o.isCells=true:=by
 intro o ho
 rcases h with h|h<;>(obtain⟨_,v,hb,_⟩:=h;rw[hb]at ho;cases ho;rfl)
theorem below_growN(w:World)(k:Nat)(os:Array Obj):Below w.heap.size w (Sort.grow (w.drewN k) os):=
 ⟨rfl,rfl,rfl,by simp[Sort.grow,World.drewN],fun i hi=>by simp[Sort.grow,World.drewN,Array.getElem?_append_left hi]⟩
theorem fmt_calls (u : Nat) (hu : u < 18446744073709551616) (w : World) (htab : Lib.TabIs Tryz.prog w "internal/strconv.uint64pow10" .u64 Lib.pow10Tab) :
  Calls Tryz.prog 301 #[.int .u64 u,.int .i64 10] w fun e w'=>e= .returned (.string ⟨(natT u).toArray⟩)/\Below w.heap.size w w':=
 (Tryz.FormatUint u hu w htab).mono (by
  rintro e w' ⟨rfl,k,os,rfl⟩
  exact⟨rfl,below_growN _ _ _⟩)
theorem cell_below{w w':World}{a:Addr}{v:Value}(h:w.cell? a=some v)(hb:Below w.heap.size w w'):w'.cell? a=some v:=(hb.cell (cell_lt h)).trans h

theorem back_calls(F:Fence)(n:Nat)(h5:F.fn 300)(hro:F.round=none)(A:Option Addr)(len cap:Nat)(w:World):
  CallsIn F n Tryz.prog 300 #[.slice A len cap] w fun e w'=>e= .returned (.func (.func 316) #[] #[.pointer (some ⟨w.heap.size,0,none⟩)])/\w'=w.alloc (.cells #[.slice A len cap] 259):=by
 refine callsIn_of_wp Tryz.func300 rfl h5 ?_ hro
 simp only[Tryz.ntmps300,List.size_toArray,List.length_cons,List.length_nil,Nat.reduceAdd,Nat.reduceSub,Array.replicate_succ,Array.replicate_zero,List.push_toArray,List.append_toArray,List.nil_append,List.cons_append]
 gi_wp2
 go_ret
 exact⟨rfl,rfl⟩

theorem back_stops(b Bs:Nat)(A:Option Addr)(cap:Nat)(ws:List Nat)(hs:Small ws)(hlen:ws.length<=1000000)(w:World)(ha:SlU w A ws)(h0:ws≠[])(hb:∀o,w.heap[b]? =some o->∀c fz,o≠ .cells c 217 fz/\o≠ .cells c 259 fz)(hBs:w.heap[Bs]? =some (.cells #[.slice A ws.length cap] 259 (0,0)))(n:Nat)(hn:1<=n):
  SeqStopsK Fence.wide n Tryz.prog 316 #[.pointer (some ⟨Bs,0,none⟩)] encPW (CK b) (fun ys=>ys=cameP ws hs 0) (fun _=>True) ws.length w:=fun l J Jx W hW _ _ hY h1=>by
 rcases ha with ha|⟨wb,off,all,fr,rfl,hw,hc⟩
 ·exact absurd ha h0
 ·have hwl:=(Array.getElem?_eq_some_iff.1 hw).1
  have hBl:=(Array.getElem?_eq_some_iff.1 hBs).1
  refine back_in Fence.wide n trivial rfl hn l Bs b wb off cap (fun e=> ?_) (fun e=> ?_) ws hs hlen J Jx hY W _ rfl ((hW.block Bs hBl).trans hBs) all fr ((hW.block wb hwl).trans hw) (fun j hj=> ?_) h1
  ·subst e
   exact(hb _ hBs _ _).2 rfl
  ·subst e
   exact(hb _ hw _ _).1 rfl
  ·have:=hc j hj
   rw[List.getD_eq_getElem?_getD,List.getElem?_eq_getElem hj]
   exact this

set_option maxRecDepth 100000 in
set_option maxHeartbeats 4000000 in
theorem text_calls{w:World}{A:Option Addr}{cap:Nat}{ws:List Nat}(hg:Glob w)(ha:SlU w A ws)(hs:Small ws)(hnn:Norm ws)(hle:ws.length<=1000000)(h0:ws≠[]):
  Calls Tryz.prog 279 #[.slice A ws.length cap] w fun e w'=>e= .returned (.string ⟨(natT (wv ws)).toArray⟩)/\Below w.heap.size w w':=by
 have hne:¬((ws.length:Int)=0):=by
  have:=List.length_pos_iff.2 h0
  omega
 refine(callsIn_wide (n:=5)).1 ?_
 refine callsIn_of_wp_marks Tryz.func279 rfl trivial ?_ rfl
 simp only[Tryz.ntmps279,List.size_toArray,List.length_cons,List.length_nil,Nat.reduceAdd,Nat.reduceSub,Array.replicate_succ,Array.replicate_zero,List.push_toArray,List.append_toArray,List.nil_append,List.cons_append]
 gi_wp2_with (refine⟨trivial,?_⟩;gi_at_call 300;refine(back_calls Fence.wide _ trivial rfl _ _ _ _).mono ?_;rintro e w' ⟨rfl,rfl⟩)
 obtain⟨W0,hW0⟩:∃W0,((w.alloc (.cells #[.slice A ws.length cap] 259)).alloc (.cells #[.pointer none,.slice none 0 0] 295)).alloc (.cells #[.slice A ws.length cap] 259)=W0:=⟨_,rfl⟩
 have hs0:W0.heap.size=w.heap.size+3:=by rw[<-hW0];simp
 have hB0:W0.heap[w.heap.size]? =some (.cells #[.slice A ws.length cap] 259 (0,0)):=by
  rw[<-hW0];exact((Below.heap_alloc _ _ _ (by simp;omega)).trans (Below.heap_alloc _ _ _ (by simp))).trans (World.alloc_heap_new w _)
 have hB1:W0.heap[w.heap.size+1]? =some (.cells #[.pointer none,.slice none 0 0] 295 (0,0)):=by
  rw[<-hW0];refine(Below.heap_alloc _ _ _ (by simp)).trans ?_
  have:=World.alloc_heap_new (w.alloc (.cells #[.slice A ws.length cap] 259)) (.cells #[.pointer none,.slice none 0 0] 295);rwa [World.size_alloc]at this
 have hB2:W0.heap[w.heap.size+1+1]? =some (.cells #[.slice A ws.length cap] 259 (0,0)):=by
  rw[<-hW0];have:=World.alloc_heap_new ((w.alloc (.cells #[.slice A ws.length cap] 259)).alloc (.cells #[.pointer none,.slice none 0 0] 295)) (.cells #[.slice A ws.length cap] 259);rwa [World.size_alloc,World.size_alloc]at this
 have hbel:Below w.heap.size w W0:=by
  rw[<-hW0];exact(((Below.refl _ w).alloc (Nat.le_refl _) _).alloc (by simp) _).alloc (by simp;omega) _
 rw[hW0]
 refine wpIn_rangeFunc_ownG rfl (by omega) (gf:=316) (lb:= #[.pointer (some ⟨w.heap.size+1+1,0,none⟩)]) rfl trivial (enters_of Tryz.func316 (by kernel_rfl) rfl)
  (back_stops (w.heap.size+1) (w.heap.size+1+1) A cap ws hs hle W0 (ha.keep hbel (Nat.le_refl _)) h0 (fun o ho c fz=>by rw[hB1]at ho;cases ho;exact⟨by simp,by simp⟩) hB2 _ (by omega))
  (fun h k=>CK.trans h k) (fun W l o o' _ h hc _=>CK.putObj W l o o' h hc) (Below.refl _ _) (fun _=>rfl)
  (fun pre W=>Lib.IsBuilderF 295 5 w.heap.size (w.heap.size+1) (Lib.byteCells (txP ws.length pre)) W/\Below w.heap.size w W/\W.heap[w.heap.size]? =some (.cells #[.slice A ws.length cap] 259 (0,0)))
  (fun _ _ _=>False)
  (fun s W1 W2 row hI hgr hr=>⟨builder_kept hI.1 hgr (fun r e=>(hr r e).2),hI.2.1.grown hgr hI.2.1.size (fun r e=>by have:=(hr r e).1;omega),?_⟩)
  (fun _ _ _ _ _ hs _ _=>hs)
  ⟨?_,hbel,hB0⟩ (fun x=>{tmps:= #[.slice A ws.length cap,.pointer (some ⟨w.heap.size,0,none⟩),.string ⟨#[]⟩,.pointer (some ⟨w.heap.size+1,0,none⟩),.int .i64 (x.1:Int),.int .u32 (x.2.1:Int),undef,.slice A ws.length cap,.int .i64 ws.length,.bool false,.slice A ws.length cap,.func (.func 316) #[] #[.pointer (some ⟨w.heap.size+1+1,0,none⟩)],.int .i64 (x.1:Int),.int .u32 (x.2.1:Int),undef,undef,undef,undef,undef,undef,undef,undef,undef,undef,undef,undef,undef,undef,undef,undef],defers:=[]}) ?assign ?body ?done ?stop
 case assign=>
  intro l x W K hK
  gi_wp2
  exact hK
 case body=>
  rintro l pre x W ⟨hI,hbw,hc0⟩ hlen
  have hx:=x.2.2
  have hcell:W.cell? ⟨w.heap.size,0,none⟩=some (.slice A ws.length cap):=by simp[World.cell?,hc0]
  have htab:=tab_kept hg.tab hbw (Nat.le_refl _)
  have hwr:IntKind.wrap .u64 (x.2.1:Int)=(x.2.1:Int):=by rw[IntKind.wrap_u64];omega
  obtain⟨t,ht⟩:∃t,t=natT x.2.1:=⟨_,rfl⟩
  have hl9:t.length<=9:=by rw[ht];exact natT_length_le (n:=x.2.1) (k:=9) hx (by omega)
  obtain⟨c,hc⟩:∃c,c=9 - t.length:=⟨_,rfl⟩
  have hfmt : ∀ w', Lib.TabIs Tryz.prog w' "internal/strconv.uint64pow10" .u64 Lib.pow10Tab → Calls Tryz.prog 301 #[.int .u64 (x.2.1 : Int), .int .i64 10] w' fun e w'' => e = .returned (.string ⟨t.toArray⟩) ∧ Below w'.heap.size w' w'' := fun w' h => by rw [ht]; exact fmt_calls x.2.1 (by omega) _ h
  have hrep:∀w',Calls Tryz.prog 303 #[.string ⟨#[48]⟩,.int .i64 (9 - (t.length:Int))] w' fun e w''=>e= .returned (.string ⟨(List.replicate c (48:UInt8)).toArray⟩)/\Below w'.heap.size w' w'':=fun w'=>by
   rw[show 9 - (t.length:Int)=(c:Int) by omega]
   refine(Tryz.strings_Repeat ⟨#[48]⟩ c w' (by omega) (by simp[ByteArray.size];omega)).mono ?_
   rintro e w'' ⟨rfl,h⟩
   refine⟨?_,h⟩
   have e1:Lib.repeatL [48] c=List.replicate c (48:UInt8):=by
    clear hc
    induction c with
    |zero=>rfl
    |succ c ih=>simp[Lib.repeatL,ih,List.replicate_succ]
   show Ending.returned (.string ⟨(Lib.repeatL [48] c).toArray⟩)=_
   rw[e1]
  have hc9:c<=9:=by omega
  have hlx:=txP_length ws.length pre
  have hWs:=hbw.size
  by_cases hlt:(x.1:Int)<(ws.length:Int) - 1
  ·have ho:onePW ws.length x=List.replicate c 48++t:=by simp[onePW,hlt,hc,ht]
   clear hc ht
   gi_wp2_with (refine⟨trivial,?_⟩;gi_at_call 301;refine(CallsIn.inRound l (callsIn_wide.2 (hfmt _ htab))).mono ?_;clear hfmt;rintro e W1 ⟨rfl,hb1⟩;have hcell1:=cell_below hcell hb1)
   refine⟨trivial,?_⟩
   gi_at_call 303
   refine(CallsIn.inRound l (callsIn_wide.2 (hrep _))).mono ?_
   rintro e W2 ⟨rfl,hb2⟩
   have hI2:=builder_kept (builder_kept hI (grown_below hb1) (fun _ e=>by cases e)) (grown_below hb2) (fun _ e=>by cases e)
   have s1:=hb1.size
   have s2:=hb2.size
   gi_wp2
   refine⟨trivial,?_⟩
   gi_at_call 302
   refine(CallsIn.inRound l (callsIn_wide.2 (Tryz.bWrite w.heap.size (w.heap.size+1) _ ⟨(List.replicate c (48:UInt8)).toArray⟩ W2 hI2 (by rw[Lib.byteCells_length];simp[ByteArray.size];omega) (by omega)))).mono ?_
   rintro e W3 ⟨rfl,hI3,hb3,ho3⟩
   have s3:=hb3.size
   gi_wp2
   refine⟨trivial,?_⟩
   gi_at_call 302
   refine(CallsIn.inRound l (callsIn_wide.2 (Tryz.bWrite w.heap.size (w.heap.size+1) _ ⟨t.toArray⟩ W3 (.inr hI3) (by rw[List.length_append,Lib.byteCells_length,Lib.strCells_length];simp[ByteArray.size];omega) (by omega)))).mono ?_
   rintro e W4 ⟨rfl,hI4,hb4,ho4⟩
   have s4:=hb4.size
   gi_wp2
   have ho4':=((others_below (b:=w.heap.size+1) hb1).trans (others_below hb2)).trans (ho3.trans ho4)
   refine⟨keepsFrom_others ho4' (by omega) (builder_lt hI),CK.of_others ho4',.inr ?_,hbw.trans ((hb1.mono hWs).trans ((hb2.mono (by omega)).trans (hb3.trans hb4))),CK.of_others ho4' _ _ _ _ hc0 (by omega) (by decide)⟩
   rw[txP_snoc,ho,Lib.byteCells_append,Lib.byteCells_append,<-List.append_assoc]
   exact hI4
  ·have ho:onePW ws.length x=t:=by simp[onePW,hlt,ht]
   clear hc ht
   gi_wp2_with (refine⟨trivial,?_⟩;gi_at_call 301;refine(CallsIn.inRound l (callsIn_wide.2 (hfmt _ htab))).mono ?_;clear hfmt;rintro e W1 ⟨rfl,hb1⟩;have hcell1:=cell_below hcell hb1)
   have hI1:=builder_kept hI (grown_below hb1) (fun _ e=>by cases e)
   have s1:=hb1.size
   refine⟨trivial,?_⟩
   gi_at_call 302
   refine(CallsIn.inRound l (callsIn_wide.2 (Tryz.bWrite w.heap.size (w.heap.size+1) _ ⟨t.toArray⟩ W1 hI1 (by rw[Lib.byteCells_length];simp[ByteArray.size];omega) (by omega)))).mono ?_
   rintro e W4 ⟨rfl,hI4,hb4,ho4⟩
   have s4:=hb4.size
   gi_wp2
   have ho4':=(others_below (b:=w.heap.size+1) hb1).trans ho4
   refine⟨keepsFrom_others ho4' (by omega) (builder_lt hI),CK.of_others ho4',.inr ?_,hbw.trans ((hb1.mono hWs).trans hb4),CK.of_others ho4' _ _ _ _ hc0 (by omega) (by decide)⟩
   rw[txP_snoc,ho,Lib.byteCells_append]
   exact hI4
 case done=>
  rintro D ys W hD rfl ⟨hI,hbw,hc0⟩ hK
  rw[txP_all ws hs hnn h0]at hI
  have hWs:=hbw.size
  gi_wp2
  refine⟨trivial,?_⟩
  gi_at_call 304
  refine(callsIn_wide.2 (Tryz.Builder_String_any_k w.heap.size (w.heap.size+1) _ W hI (by omega))).mono ?_
  rintro e W1 ⟨rfl,hI1,hb1,ho1⟩
  have s1:=hb1.size
  have hK1:=ho1 D _ hK (fun e=>by cases e;omega) (fun c f e=>by cases e)
  gi_wp2
  refine⟨by simp,.inl ⟨_,_,rfl,run_takeDeferred hK1,?_⟩⟩
  refine⟨_,results_tmp rfl _ _ _,rfl,?_⟩
  exact hbw.trans (hb1.trans (belowK_b (w:=w) (Nat.le_refl _) W1 D _ _ (by omega) hK1 rfl rfl))
 case stop=>
  rintro D c pre W _ _ h _
  exact h.elim
 ·have hb:=hI.2.2
  rw[hgr.block _ (Array.getElem?_eq_some_iff.1 hb).1 (fun e=> ?_)]
  ·exact hb
  ·obtain⟨_,o,ho,hc⟩:=hr _ e.symm
   rw[hb]at ho
   cases ho
   simp[Obj.isCells]at hc
 ·exact .inl ⟨by omega,.slice none 0 0,hB1,World.ownsRowF_nil _ _ _ _,by simp[Value.ownBlock]⟩

theorem natural_text{w:World}{A:Option Addr}{n c x:Nat}(hg:Glob w)(ha:IsN w A n c x)(hn:n<=1000000):
  Pure Tryz.prog 279 #[.slice A n c] w fun v _=>v= .string (st (natT x)):=by
 obtain⟨ws,a1,a2,a3,a4,a5,a6,rfl⟩:=ha
 by_cases h0:ws=[]
 ·subst h0
  simp at a2
  subst a2
  refine(?_:Calls Tryz.prog 279 #[.slice A 0 c] w fun e w'=>e= .returned (.string ⟨#[48]⟩)/\Below w.heap.size w w').mono ?_
  ·go_enter Tryz.func279,Tryz.ntmps279
   go_wp2
   go_ret
   exact⟨rfl,(Below.refl _ w).alloc (Nat.le_refl _) _⟩
  ·rintro e w' ⟨rfl,hb⟩
   refine⟨_,rfl,hb,?_⟩
   have:natT (wv [])=[48]:=by simp only[wv];exact natT_0
   rw[this];rfl
 ·subst a2
  refine(text_calls hg a1 a5 a6 hn h0).mono ?_
  rintro e w' ⟨rfl,hb⟩
  exact⟨_,rfl,hb,rfl⟩
open Go Go.RowKit Go.Proofs Go.Proofs.YtgfkeadgjkfomaaGreatDoor.Vc

theorem natural_both{w:World}{s t:ByteArray}(hs:s.size<=900000)(ht:t.size<=900000):
  Pure Tryz.prog 255 #[.string s,.string t] w fun v w'=>
   (¬(isNat (by_ s)=true/\isNat (by_ t)=true)/\v= .tuple #[.slice none 0 0,.slice none 0 0,.int .i64 1])∨
   ((isNat (by_ s)=true/\isNat (by_ t)=true)/\∃A n c A' n' c',v= .tuple #[.slice A n c,.slice A' n' c',.int .i64 0]/\IsN w' A n c (valD (by_ s))/\IsN w' A' n' c' (valD (by_ t))):=by
 refine F.natural_both.vc _ _ _ _ (Pure.mono (natural_Valid s (by omega) w) ?_)
 rintro v w2 _ rfl
 refine⟨_,rfl,fun h=> .inl ⟨by simp[h],rfl⟩,fun h=> ?_⟩
 refine Pure.mono (natural_Valid t (by omega) w2) ?_
 rintro v w3 _ rfl
 refine⟨_,rfl,fun h2=> .inl ⟨by simp[h2],rfl⟩,fun h2=> ?_⟩
 have h1':isNat (by_ s)=true:=by simpa using h
 have h2':isNat (by_ t)=true:=by simpa using h2
 refine Pure.mono (natural_read hs h1') ?_
 rintro v w4 _ ⟨A,n,c,rfl,k1⟩
 refine⟨_,_,_,rfl,Pure.mono (natural_read ht h2') ?_⟩
 rintro v w5 hb5 ⟨A',n',c',rfl,k2⟩
 exact⟨_,_,_,rfl,.inr ⟨⟨h1',h2'⟩,_,_,_,_,_,_,rfl,k1.below hb5,k2⟩⟩

def nS(n:Nat):ByteArray:=st (natT n)
def iS(z:Int):ByteArray:=st (intT z)
def rS(r:Rat):ByteArray:=st (ratT r)
theorem by_nS(n:Nat):by_ (nS n)=natT n:=rfl
theorem by_iS(z:Int):by_ (iS z)=intT z:=rfl
theorem by_rS(r:Rat):by_ (rS r)=ratT r:=rfl
theorem nS_inj{a b:Nat}(h:nS a=nS b):a=b:=natT_inj (st_inj h)
theorem iS_nat(n:Nat):iS (n:Int)=nS n:=by unfold iS nS;rw[intT_nat]
theorem nS_iff{a b:Nat}:nS a=nS b↔a=b:=⟨nS_inj,fun h=>by rw[h]⟩
theorem nS_0:(⟨#[48]⟩:ByteArray)=nS 0:=by unfold nS;rw[natT_0];rfl
theorem nS_1:(⟨#[49]⟩:ByteArray)=nS 1:=by unfold nS;rw[natT_1];rfl
theorem iS_0:(⟨#[48]⟩:ByteArray)=iS 0:=by rw[nS_0,<-iS_nat];rfl

theorem lim_eq:Lim=10^(9*KLim):=by
 unfold Lim
 have e:(1000000000:Nat)=10^9:=rfl
 rw[e,<-Nat.pow_mul]
theorem lt_lim{x k:Nat}(h:x<10^k)(hk:k<=900000):x<Lim:=by
 rw[lim_eq]
 exact Nat.lt_of_lt_of_le h (Nat.pow_le_pow_right (by omega) (by have:=klim;omega))
theorem size_nS_le{x:Nat}(h:x<Lim):(nS x).size<=900000:=by
 rw[lim_eq]at h
 have k:=klim
 have:=natT_length_le h (by omega)
 show(natT x).length<=_
 omega
theorem IsN.len2{w:World}{A:Option Addr}{n c x:Nat}(h:IsN w A n c x)(hx:x<Lim*Lim+Lim):n<=1000000:=by
 obtain⟨ws,_,hl,_,_,_,hn,rfl⟩:=h
 unfold Lim at hx
 by_cases h0:ws=[]
 ·subst h0;simp at hl;omega
 ·have h1:=wv_pos hn h0
  rw[<-Nat.pow_add]at hx
  have k:=klim
  have h3:1000000000^KLim<=1000000000^(KLim+KLim):=Nat.pow_le_pow_right (by omega) (by omega)
  have h4:1000000000^(KLim+KLim)+1000000000^KLim<=1000000000^(KLim+KLim+1):=by
   rw[Nat.pow_succ (n:=1000000000) (m:=KLim+KLim)]
   generalize 1000000000^(KLim+KLim)=a at*
   generalize 1000000000^KLim=b at*
   omega
  have h2:=(Nat.pow_lt_pow_iff_right (a:=1000000000) (by omega)).1 (Nat.lt_of_le_of_lt h1 (Nat.lt_of_lt_of_le hx h4))
  omega
theorem lim_add{x y:Nat}(hx:x<Lim)(hy:y<Lim):x+y<Lim*Lim+Lim:=by
 have h2:2<=Lim:=by rw[lim_eq];exact Nat.le_trans (by omega) (Nat.pow_le_pow_right (n:=10) (by omega) (show 1<=9*KLim by have:=klim;omega))
 have:Lim<=Lim*Lim:=Nat.le_mul_of_pos_left _ (by omega)
 omega
theorem lim_mul{x y:Nat}(hx:x<Lim)(hy:y<Lim):x*y<Lim*Lim+Lim:=by
 have:=Nat.mul_lt_mul'' hx hy
 omega
theorem lim_le{x y:Nat}(hx:x<Lim)(h:y<=x):y<Lim*Lim+Lim:=by omega

theorem natural_apply{w:World}{f:Nat}{a k:Array Value}{A:Option Addr}{n c x:Nat}(hg:Glob w)(hc:callable Tryz.prog f=true)(hx:x<Lim*Lim+Lim)
  (h:Pure Tryz.prog f (a.toList++([.slice A n c]:List Value)++k.toList).toArray w fun v w'=>∃A n c,v= .slice A n c/\IsN w' A n c x):
  Pure Tryz.prog 256 #[.func (.func f) a k,.slice A n c] w fun v _=>v= .tuple #[.string (nS x),.int .i64 0]:=by
 refine F.natural_apply.vc _ _ _ _ _ _ _ _ ⟨hc,Pure.mono h ?_⟩
 rintro v w2 hb ⟨A,n,c,rfl,k1⟩
 refine⟨_,_,_,rfl,Pure.mono (natural_text (hg.next hb) k1 (k1.len2 hx)) ?_⟩
 rintro v w3 _ rfl
 exact⟨_,rfl,rfl⟩

theorem both_ok{w:World}{x y:Nat}(hx:x<Lim)(hy:y<Lim):
  Pure Tryz.prog 255 #[.string (nS x),.string (nS y)] w fun v w'=>
   ∃A n c A' n' c',v= .tuple #[.slice A n c,.slice A' n' c',.int .i64 0]/\IsN w' A n c x/\IsN w' A' n' c' y:=by
 refine Pure.mono (natural_both (size_nS_le hx) (size_nS_le hy)) ?_
 rintro v w' _ (⟨h,_⟩|⟨_,A,n,c,A',n',c',rfl,h1,h2⟩)
 ·exact absurd ⟨natT_isNat _,natT_isNat _⟩ h
 ·rw[by_nS,natT_val]at h1 h2
  exact⟨_,_,_,_,_,_,rfl,h1,h2⟩

theorem natural_Add{w:World}{x y:Nat}(hg:Glob w)(hx:x<Lim)(hy:y<Lim):
  Pure Tryz.prog 258 #[.string (nS x),.string (nS y)] w fun v _=>v= .tuple #[.string (nS (x+y)),.int .i64 0]:=by
 refine F.natural_Add.vc _ _ _ _ (Pure.mono (both_ok hx hy) ?_)
 rintro v w2 hb ⟨A,n,c,A',n',c',rfl,h1,h2⟩
 refine⟨_,_,_,_,_,_,_,rfl,fun h=>absurd rfl h,fun _=> ?_⟩
 refine Pure.mono (natural_apply (hg.next hb) (by kernel_rfl) (lim_add hx hy) (natural_plus h1 h2 hx hy)) ?_
 rintro v w3 _ rfl
 exact⟨_,_,rfl,rfl⟩

theorem natural_Mul{w:World}{x y:Nat}(hg:Glob w)(hx:x<Lim)(hy:y<Lim):
  Pure Tryz.prog 232 #[.string (nS x),.string (nS y)] w fun v _=>v= .tuple #[.string (nS (x*y)),.int .i64 0]:=by
 refine F.natural_Mul.vc _ _ _ _ (Pure.mono (both_ok hx hy) ?_)
 rintro v w2 hb ⟨A,n,c,A',n',c',rfl,h1,h2⟩
 refine⟨_,_,_,_,_,_,_,rfl,fun h=>absurd rfl h,fun _=> ?_⟩
 refine Pure.mono (natural_apply (hg.next hb) (by kernel_rfl) (lim_mul hx hy) (Pure.mono (natural_times h1 h2 hx hy) ?_)) ?_
 ·rintro v w3 _ ⟨A,n,c,rfl,k,_⟩
  exact⟨_,_,_,rfl,k⟩
 ·rintro v w3 _ rfl
  exact⟨_,_,rfl,rfl⟩

theorem natural_GCD{w:World}{x y:Nat}(hg:Glob w)(hx:x<Lim)(hy:y<Lim):
  Pure Tryz.prog 243 #[.string (nS x),.string (nS y)] w fun v _=>v= .tuple #[.string (nS (Nat.gcd x y)),.int .i64 0]:=by
 refine F.natural_GCD.vc _ _ _ _ (Pure.mono (both_ok hx hy) ?_)
 rintro v w2 hb ⟨A,n,c,A',n',c',rfl,h1,h2⟩
 refine⟨_,_,_,_,_,_,_,rfl,fun h=>absurd rfl h,fun _=> ?_⟩
 have hle:Nat.gcd x y<=x+y:=by
  rcases Nat.eq_zero_or_pos x with h0|h0
  ·subst h0;simp
  ·have:=Nat.le_of_dvd h0 (Nat.gcd_dvd_left x y);omega
 refine Pure.mono (natural_apply (hg.next hb) (by kernel_rfl) (Nat.lt_of_le_of_lt hle (lim_add hx hy)) (natural_gcd h1 h2 hx hy)) ?_
 rintro v w3 _ rfl
 exact⟨_,_,rfl,rfl⟩

theorem natural_Compare{w:World}{x y:Nat}(hx:x<Lim)(hy:y<Lim):
  Pure Tryz.prog 259 #[.string (nS x),.string (nS y)] w fun v _=>v= .tuple #[.int .i64 (cmpI x y),.int .i64 0]:=by
 refine F.natural_Compare.vc _ _ _ _ (Pure.mono (both_ok hx hy) ?_)
 rintro v w2 hb ⟨A,n,c,A',n',c',rfl,h1,h2⟩
 refine⟨_,_,_,_,_,_,_,rfl,fun h=>absurd rfl h,fun _=> ?_⟩
 refine Pure.mono (natural_compare h1 h2 hx hy) ?_
 rintro v w3 _ rfl
 exact⟨_,rfl,rfl⟩

theorem natural_Sub{w:World}{x y:Nat}(hg:Glob w)(hx:x<Lim)(hyx:y<=x):
  Pure Tryz.prog 260 #[.string (nS x),.string (nS y)] w fun v _=>v= .tuple #[.string (nS (x - y)),.int .i64 0]:=by
 have hy:y<Lim:=Nat.lt_of_le_of_lt hyx hx
 refine F.natural_Sub.vc _ _ _ _ (Pure.mono (both_ok hx hy) ?_)
 rintro v w2 hb ⟨A,n,c,A',n',c',rfl,h1,h2⟩
 refine⟨_,_,_,_,_,_,_,rfl,fun h=>absurd rfl h,fun _=> ?_⟩
 refine Pure.mono (natural_compare h1 h2 hx hy) ?_
 rintro v w3 hb3 rfl
 refine⟨_,rfl,fun h=> ?_,fun _=> ?_⟩
 ·simp only[cmpI]at h
  split at h
  ·omega
  ·split at h<;>omega
 ·refine Pure.mono (natural_apply ((hg.next hb).next hb3) (by kernel_rfl) (lim_le hx (Nat.sub_le x y)) (natural_minus (h1.below hb3) (h2.below hb3) hx hyx)) ?_
  rintro v w4 _ rfl
  exact⟨_,_,rfl,rfl⟩

theorem natural_DivMod{w:World}{x y:Nat}(hg:Glob w)(hx:x<Lim)(hy:y<Lim)(hy0:y≠0):
  Pure Tryz.prog 313 #[.string (nS x),.string (nS y)] w fun v _=>v= .tuple #[.string (nS (x / y)),.string (nS (x % y)),.int .i64 0]:=by
 refine F.natural_DivMod.vc _ _ _ _ (Pure.mono (both_ok hx hy) ?_)
 rintro v w2 hb ⟨A,n,c,A',n',c',rfl,h1,h2⟩
 refine⟨_,_,_,_,_,_,_,rfl,fun h=>absurd rfl h,fun _=>⟨fun h=> ?_,fun _=> ?_⟩⟩
 ·obtain⟨ws,_,a2,_,_,_,_,rfl⟩:=h2
  have:ws=[]:=List.eq_nil_of_length_eq_zero (by omega)
  subst this
  exact absurd rfl hy0
 ·refine Pure.mono (natural_divide h1 h2 hx hy hy0) ?_
  rintro v w3 hb3 ⟨B,m,d,B',m',d',rfl,k1,k2⟩
  have hg3:=(hg.next hb).next hb3
  refine⟨_,_,_,_,_,_,rfl,Pure.mono (natural_text hg3 k1 (k1.len2 (lim_le hx (Nat.div_le_self x y)))) ?_⟩
  rintro v w4 hb4 rfl
  refine⟨_,rfl,Pure.mono (natural_text (hg3.next hb4) (k2.below hb4) (k2.len2 (lim_le hx (Nat.mod_le x y)))) ?_⟩
  rintro v w5 _ rfl
  exact⟨_,rfl,rfl⟩
end Go.Proofs.YtgfkeadgjkfomaaGreatDoor.B

set_option maxRecDepth 100000
set_option maxHeartbeats 4000000
namespace Go.Proofs.YtgfkeadgjkfomaaGreatDoor.F
open Go Go.RowKit Go.Proofs Go.Proofs.YtgfkeadgjkfomaaGreatDoor.Vc
noncomputable def integer_Mul.cx(w:World)(B:Nat)(R:Value->World->Prop):Cx:=⟨Tryz.prog,172,23,Tryz.f172.results.toList,[],[],w,B,R⟩
theorem integer_Mul.vc(b c:ByteArray)(w:World)(R:Value->World->Prop)
  (h:(Pure P 197 #[.string b,.string c] w fun p d=>∃e f g i a,p= .tuple #[.agg #[.bool e,.string f],.agg #[.bool g,.string i],.int .i64 a]/\(((a≠0)->(∀j,Ext w.heap.size [] d j->(R (.tuple #[(.string ⟨#[]⟩),.int .i64 a]) j)))/\(¬(a≠0)->(∀l,Ext w.heap.size [] d l->(Pure P 198 #[.agg #[.bool e,.string f],.agg #[.bool g,.string i]] l fun q r=>∃m n,q= .agg #[.bool m,.string n]/\(Pure P 199 #[.agg #[.bool m,.string n]] r fun s t=>∃o,s= .string o/\(R (.tuple #[.string o,.int .i64 0]) t)))))))):
  Pure P 172 #[.string b,.string c] w R:=
 pure_of_run (integer_Mul.cx w w.heap.size R) 100000 follows Tryz.func172 rfl rfl rfl rfl rfl rfl rfl (Eq.mp (by kernel_rfl) h)

noncomputable def integer_Compare.cx(w:World)(B:Nat)(R:Value->World->Prop):Cx:=⟨Tryz.prog,173,22,Tryz.f173.results.toList,[],[],w,B,R⟩
theorem integer_Compare.vc(a b:ByteArray)(w:World)(R:Value->World->Prop)
  (h:(Pure P 197 #[.string a,.string b] w fun p q=>∃c d e f g,p= .tuple #[.agg #[.bool c,.string d],.agg #[.bool e,.string f],.int .i64 g]/\(∀i,Ext w.heap.size [] q i->(Pure P 201 #[.agg #[.bool e,.string f]] i fun r s=>∃j l,r= .agg #[.bool j,.string l]/\(Pure P 200 #[.agg #[.bool c,.string d],.agg #[.bool j,.string l]] s fun t u=>∃m n,t= .agg #[.bool m,.string n]/\(Pure P 202 #[.agg #[.bool m,.string n]] u fun v x=>∃o,v= .int .i64 o/\(R (.tuple #[.int .i64 o,.int .i64 g]) x))))))):
  Pure P 173 #[.string a,.string b] w R:=
 pure_of_run (integer_Compare.cx w w.heap.size R) 100000 follows Tryz.func173 rfl rfl rfl rfl rfl rfl rfl (Eq.mp (by kernel_rfl) h)

noncomputable def integer_Sign.cx(w:World)(B:Nat)(R:Value->World->Prop):Cx:=⟨Tryz.prog,196,14,Tryz.f196.results.toList,[],[],w,B,R⟩
theorem integer_Sign.vc(a:ByteArray)(w:World)(R:Value->World->Prop)
  (h:(Pure P 229 #[.string a] w fun g i=>∃b c d,g= .tuple #[.agg #[.bool b,.string c],.int .i64 d]/\(∀e,Ext w.heap.size [] i e->(Pure P 202 #[.agg #[.bool b,.string c]] e fun j l=>∃f,j= .int .i64 f/\(R (.tuple #[.int .i64 f,.int .i64 d]) l))))):
  Pure P 196 #[.string a] w R:=
 pure_of_run (integer_Sign.cx w w.heap.size R) 100000 follows Tryz.func196 rfl rfl rfl rfl rfl rfl rfl (Eq.mp (by kernel_rfl) h)

noncomputable def integer_both.cx(w:World)(B:Nat)(R:Value->World->Prop):Cx:=⟨Tryz.prog,197,31,Tryz.f197.results.toList,[],[],w,B,R⟩
theorem integer_both.vc(i j:ByteArray)(w:World)(R:Value->World->Prop)
  (h:(∀l,Ext w.heap.size [] w l->(Pure P 230 #[.string i] l fun D E=>∃b c d,D= .tuple #[.agg #[.bool b,.string c],.bool d]/\(∀m,Ext w.heap.size [] E m->(Pure P 230 #[.string j] m fun G a=>∃e f g,G= .tuple #[.agg #[.bool e,.string f],.bool g]/\(((d=false)->(∀n,Ext w.heap.size [] a n->(Pure P 231 #[] n fun H I=>∃o p,H= .agg #[.bool o,.string p]/\(Pure P 231 #[] I fun J K=>∃q r,J= .agg #[.bool q,.string r]/\(∀s,Ext w.heap.size [206] K s->(R (.tuple #[.agg #[.bool o,.string p],.agg #[.bool q,.string r],.int .i64 1]) s))))))/\(¬(d=false)->(((g=false)->(∀t,Ext w.heap.size [] a t->(Pure P 231 #[] t fun L M=>∃u v,L= .agg #[.bool u,.string v]/\(Pure P 231 #[] M fun N O=>∃x y,N= .agg #[.bool x,.string y]/\(∀z,Ext w.heap.size [206] O z->(R (.tuple #[.agg #[.bool u,.string v],.agg #[.bool x,.string y],.int .i64 1]) z))))))/\(¬(g=false)->((∀A,Ext w.heap.size [206] a A->(R (.tuple #[.agg #[.bool b,.string c],.agg #[.bool e,.string f],.int .i64 0]) A))/\(∀C,Ext w.heap.size [206] a C->(R (.tuple #[.agg #[.bool b,.string c],.agg #[.bool e,.string f],.int .i64 0]) C)))))))))))):
  Pure P 197 #[.string i,.string j] w R:=
 pure_of_run (integer_both.cx w w.heap.size R) 100000 follows Tryz.func197 rfl rfl rfl rfl rfl rfl rfl (Eq.mp (by kernel_rfl) h)

noncomputable def integer_number_times.cx(w:World)(B:Nat)(R:Value->World->Prop):Cx:=⟨Tryz.prog,198,22,Tryz.f198.results.toList,[],[],w,B,R⟩
theorem integer_number_times.vc(a:Bool)(b:ByteArray)(c:Bool)(d:ByteArray)(w:World)(R:Value->World->Prop)
  (h:(∀e,Ext w.heap.size [] w e->(Pure P 232 #[.string b,.string d] e fun l m=>∃f n,l= .tuple #[.string f,.int .i64 n]/\(Pure P 233 #[(.bool (decide (¬((a:Bool)=c)))),.string f] m fun o p=>∃g i,o= .agg #[.bool g,.string i]/\(∀j,Ext w.heap.size [206] p j->(R (.agg #[.bool g,.string i]) j)))))):
  Pure P 198 #[.agg #[.bool a,.string b],.agg #[.bool c,.string d]] w R:=
 pure_of_run (integer_number_times.cx w w.heap.size R) 100000 follows Tryz.func198 rfl rfl rfl rfl rfl rfl rfl (Eq.mp (by kernel_rfl) h)

noncomputable def integer_number_text.cx(w:World)(B:Nat)(R:Value->World->Prop):Cx:=⟨Tryz.prog,199,10,Tryz.f199.results.toList,[],[],w,B,R⟩
theorem integer_number_text.vc(b:Bool)(a:ByteArray)(w:World)(R:Value->World->Prop)
  (h:((b=true->(ByteArray.size (⟨#[45]⟩:ByteArray)+ByteArray.size a<=9223372036854775807/\(∀c,Ext w.heap.size [] w c->(R (.string ((⟨#[45]⟩:ByteArray)++a)) c))))/\(b=false->(∀d,Ext w.heap.size [] w d->(R (.string a) d))))):
  Pure P 199 #[.agg #[.bool b,.string a]] w R:=
 pure_of_run (integer_number_text.cx w w.heap.size R) 100000 follows Tryz.func199 rfl rfl rfl rfl rfl rfl rfl (Eq.mp (by kernel_rfl) h)

noncomputable def integer_number_plus.cx(w:World)(B:Nat)(R:Value->World->Prop):Cx:=⟨Tryz.prog,200,21,Tryz.f200.results.toList,[],[(2,6,1),(2,7,1)],w,B,R⟩
theorem integer_number_plus.vc(b:Bool)(c:ByteArray)(a:Bool)(d:ByteArray)(w:World)(R:Value->World->Prop)
  (h:(∀i,Ext w.heap.size [] w i->(Pure P 236 #[.bool b] i fun A j=>∃e,A= .int .i64 e/\((0<=e/\e<2)/\((True/\(e=(0:Int)->(Pure P 236 #[.bool a] j fun C l=>∃f,C= .int .i64 f/\((0<=f/\f<2)/\((True/\(f=(0:Int)->(Pure P 234 #[.agg #[.bool b,.string c],.agg #[.bool a,.string d]] l fun D E=>∃m n,D= .agg #[.bool m,.string n]/\(∀o,Ext w.heap.size [206] E o->(R (.agg #[.bool m,.string n]) o)))))/\(f=(1:Int)->(Pure P 235 #[.agg #[.bool b,.string c],.agg #[.bool a,.string d]] l fun G H=>∃p q,G= .agg #[.bool p,.string q]/\(∀r,Ext w.heap.size [206] H r->(R (.agg #[.bool p,.string q]) r)))))))))/\(e=(1:Int)->(Pure P 236 #[.bool a] j fun I s=>∃g,I= .int .i64 g/\((0<=g/\g<2)/\((True/\(g=(0:Int)->(Pure P 235 #[.agg #[.bool b,.string c],.agg #[.bool a,.string d]] s fun J K=>∃t u,J= .agg #[.bool t,.string u]/\(∀v,Ext w.heap.size [206] K v->(R (.agg #[.bool t,.string u]) v)))))/\(g=(1:Int)->(Pure P 234 #[.agg #[.bool b,.string c],.agg #[.bool a,.string d]] s fun L M=>∃x y,L= .agg #[.bool x,.string y]/\(∀z,Ext w.heap.size [206] M z->(R (.agg #[.bool x,.string y]) z))))))))))))):
  Pure P 200 #[.agg #[.bool b,.string c],.agg #[.bool a,.string d]] w R:=
 pure_of_run (integer_number_plus.cx w w.heap.size R) 100000 follows Tryz.func200 rfl rfl rfl rfl rfl rfl rfl (Eq.mp (by kernel_rfl) h)

noncomputable def integer_number_opposite.cx(w:World)(B:Nat)(R:Value->World->Prop):Cx:=⟨Tryz.prog,201,9,Tryz.f201.results.toList,[],[],w,B,R⟩
theorem integer_number_opposite.vc(a:Bool)(b:ByteArray)(w:World)(R:Value->World->Prop)
  (h:(∀c,Ext w.heap.size [] w c->(Pure P 233 #[(.bool (decide (a=false))),.string b] c fun g i=>∃d e,g= .agg #[.bool d,.string e]/\(∀f,Ext w.heap.size [206] i f->(R (.agg #[.bool d,.string e]) f))))):
  Pure P 201 #[.agg #[.bool a,.string b]] w R:=
 pure_of_run (integer_number_opposite.cx w w.heap.size R) 100000 follows Tryz.func201 rfl rfl rfl rfl rfl rfl rfl (Eq.mp (by kernel_rfl) h)

noncomputable def integer_number_sign.cx(w:World)(B:Nat)(R:Value->World->Prop):Cx:=⟨Tryz.prog,202,10,Tryz.f202.results.toList,[],[],w,B,R⟩
theorem integer_number_sign.vc(a:Bool)(b:ByteArray)(w:World)(R:Value->World->Prop)
  (h:(∀f,Ext w.heap.size [] w f->(Pure P 231 #[] f fun g c=>∃d e,g= .agg #[.bool d,.string e]/\(((a=d/\b=e/\True)->(R (.int .i64 0) c))/\(¬(a=d/\b=e/\True)->((a=true->(R (.int .i64 (-1:Int)) c))/\(a=false->(R (.int .i64 1) c)))))))):
  Pure P 202 #[.agg #[.bool a,.string b]] w R:=
 pure_of_run (integer_number_sign.cx w w.heap.size R) 100000 follows Tryz.func202 rfl rfl rfl rfl rfl rfl rfl (Eq.mp (by kernel_rfl) h)

noncomputable def integer_Valid.cx(w:World)(B:Nat)(R:Value->World->Prop):Cx:=⟨Tryz.prog,212,11,Tryz.f212.results.toList,[],[],w,B,R⟩
theorem integer_Valid.vc(a:ByteArray)(w:World)(R:Value->World->Prop)
  (h:(Pure P 230 #[.string a] w fun d e=>∃f g b,d= .tuple #[.agg #[.bool f,.string g],.bool b]/\(∀c,Ext w.heap.size [] e c->(R (.bool b) c)))):
  Pure P 212 #[.string a] w R:=
 pure_of_run (integer_Valid.cx w w.heap.size R) 100000 follows Tryz.func212 rfl rfl rfl rfl rfl rfl rfl (Eq.mp (by kernel_rfl) h)

noncomputable def integer_one.cx(w:World)(B:Nat)(R:Value->World->Prop):Cx:=⟨Tryz.prog,229,15,Tryz.f229.results.toList,[],[],w,B,R⟩
theorem integer_one.vc(a:ByteArray)(w:World)(R:Value->World->Prop)
  (h:(∀b,Ext w.heap.size [] w b->(Pure P 197 #[.string a,(.string ⟨#[48]⟩)] b fun g i=>∃c d j l e,g= .tuple #[.agg #[.bool c,.string d],.agg #[.bool j,.string l],.int .i64 e]/\(∀f,Ext w.heap.size [206] i f->(R (.tuple #[.agg #[.bool c,.string d],.int .i64 e]) f))))):
  Pure P 229 #[.string a] w R:=
 pure_of_run (integer_one.cx w w.heap.size R) 100000 follows Tryz.func229 rfl rfl rfl rfl rfl rfl rfl (Eq.mp (by kernel_rfl) h)

noncomputable def integer_read.cx(w:World)(B:Nat)(R:Value->World->Prop):Cx:=⟨Tryz.prog,230,23,Tryz.f230.results.toList,[],[],w,B,R⟩
theorem integer_read.vc(e:ByteArray)(w:World)(R:Value->World->Prop)
  (h:(∀f,Ext w.heap.size [] w f->(Pure P 254 #[.string e,(.string ⟨#[45]⟩)] f fun n o=>∃a b,n= .tuple #[.string a,.bool b]/\(∀g,Ext w.heap.size [] o g->(Pure P 213 #[.string a] g fun p c=>∃d,p= .bool d/\((d=true->((∀i,Ext w.heap.size [206] c i->(R (.tuple #[.agg #[.bool b,.string a],(.bool (decide (¬(b=true/\a=(⟨#[48]⟩:ByteArray)/\True))))]) i))/\(∀j,Ext w.heap.size [206] c j->(R (.tuple #[.agg #[.bool b,.string a],(.bool (decide (¬(b=true/\a=(⟨#[48]⟩:ByteArray)/\True))))]) j))))/\(d=false->((∀l,Ext w.heap.size [206] c l->(R (.tuple #[.agg #[.bool b,.string a],.bool false]) l))/\(∀m,Ext w.heap.size [206] c m->(R (.tuple #[.agg #[.bool b,.string a],.bool false]) m)))))))))):
  Pure P 230 #[.string e] w R:=
 pure_of_run (integer_read.cx w w.heap.size R) 100000 follows Tryz.func230 rfl rfl rfl rfl rfl rfl rfl (Eq.mp (by kernel_rfl) h)

noncomputable def integer_zero.cx(w:World)(B:Nat)(R:Value->World->Prop):Cx:=⟨Tryz.prog,231,2,Tryz.f231.results.toList,[],[],w,B,R⟩
theorem integer_zero.vc  (w:World)(R:Value->World->Prop)
  (h:(∀a,Ext w.heap.size [] w a->(R (.agg #[.bool false,(.string ⟨#[48]⟩)]) a))):
  Pure P 231 #[] w R:=
 pure_of_run (integer_zero.cx w w.heap.size R) 100000 follows Tryz.func231 rfl rfl rfl rfl rfl rfl rfl (Eq.mp (by kernel_rfl) h)

noncomputable def integer_with.cx(w:World)(B:Nat)(R:Value->World->Prop):Cx:=⟨Tryz.prog,233,12,Tryz.f233.results.toList,[],[],w,B,R⟩
theorem integer_with.vc(b:Bool)(a:ByteArray)(w:World)(R:Value->World->Prop)
  (h:((b=true->(∀c,Ext w.heap.size [] w c->(R (.agg #[(.bool (decide (a≠(⟨#[48]⟩:ByteArray)))),.string a]) c)))/\(b=false->(∀d,Ext w.heap.size [] w d->(R (.agg #[.bool false,.string a]) d))))):
  Pure P 233 #[.bool b,.string a] w R:=
 pure_of_run (integer_with.cx w w.heap.size R) 100000 follows Tryz.func233 rfl rfl rfl rfl rfl rfl rfl (Eq.mp (by kernel_rfl) h)

noncomputable def integer_sum.cx(w:World)(B:Nat)(R:Value->World->Prop):Cx:=⟨Tryz.prog,234,19,Tryz.f234.results.toList,[],[],w,B,R⟩
theorem integer_sum.vc(a:Bool)(b:ByteArray)(j:Bool)(c:ByteArray)(w:World)(R:Value->World->Prop)
  (h:(∀d,Ext w.heap.size [] w d->(Pure P 258 #[.string b,.string c] d fun l m=>∃e n,l= .tuple #[.string e,.int .i64 n]/\(Pure P 233 #[.bool a,.string e] m fun o p=>∃f g,o= .agg #[.bool f,.string g]/\(∀i,Ext w.heap.size [206] p i->(R (.agg #[.bool f,.string g]) i)))))):
  Pure P 234 #[.agg #[.bool a,.string b],.agg #[.bool j,.string c]] w R:=
 pure_of_run (integer_sum.cx w w.heap.size R) 100000 follows Tryz.func234 rfl rfl rfl rfl rfl rfl rfl (Eq.mp (by kernel_rfl) h)

def integer_difference.J4(a:Bool)(b:ByteArray)(c:Bool)(d:ByteArray)(e:Bool)(f:ByteArray)(B:Nat)(w:World)(R:Value->World->Prop):Prop:=At Tryz.prog 235 33 (regionAt Tryz.f235 4) [(2,.loc 2 0),(3,.loc 3 0),(4,.loc 4 0)] [⟨2,false,206,[(.bool a),(.string b)]⟩,⟨3,false,206,[(.bool c),(.string d)]⟩,⟨4,false,206,[(.bool e),(.string f)]⟩] B w R
noncomputable def integer_difference.cx(w:World)(B:Nat)(R:Value->World->Prop):Cx:=⟨Tryz.prog,235,33,Tryz.f235.results.toList,[((false,4),[2,3,4],[2,3,4])],[],w,B,R⟩
theorem integer_difference.J4.step(a:Bool)(b:ByteArray)(i:Bool)(c:ByteArray)(j:Bool)(l:ByteArray)(B:Nat)(w:World)(R:Value->World->Prop)
  (h:(Pure P 260 #[.string b,.string c] w fun m n=>∃d o,m= .tuple #[.string d,.int .i64 o]/\(Pure P 233 #[.bool a,.string d] n fun p q=>∃e f,p= .agg #[.bool e,.string f]/\(∀g,Ext B [206] q g->(R (.agg #[.bool e,.string f]) g))))):
  integer_difference.J4 a b i c j l B w R:=
 join_of_run (integer_difference.cx w B R) 100000 (regionAt Tryz.f235 4) _ _ follows Tryz.func235 rfl rfl rfl (Eq.mp (by kernel_rfl) h)
theorem integer_difference.vc(c:Bool)(a:ByteArray)(d:Bool)(b:ByteArray)(w:World)(R:Value->World->Prop)
  (h:(∀f,Ext w.heap.size [] w f->(Pure P 259 #[.string a,.string b] f fun j g=>∃e l,j= .tuple #[.int .i64 e,.int .i64 l]/\(((e<0)->(∀i,Ext w.heap.size [206] g i->(integer_difference.J4 d b c a false (⟨#[]⟩:ByteArray) w.heap.size i R)))/\(¬(e<0)->(integer_difference.J4 c a d b false (⟨#[]⟩:ByteArray) w.heap.size g R)))))):
  Pure P 235 #[.agg #[.bool c,.string a],.agg #[.bool d,.string b]] w R:=
 pure_of_run (integer_difference.cx w w.heap.size R) 100000 follows Tryz.func235 rfl rfl rfl rfl rfl rfl rfl (Eq.mp (by kernel_rfl) h)

noncomputable def integer_bit.cx(w:World)(B:Nat)(R:Value->World->Prop):Cx:=⟨Tryz.prog,236,4,Tryz.f236.results.toList,[],[],w,B,R⟩
theorem integer_bit.vc(a:Bool)(w:World)(R:Value->World->Prop)
  (h:((a=true->(R (.int .i64 1) w))/\(a=false->(R (.int .i64 0) w)))):
  Pure P 236 #[.bool a] w R:=
 pure_of_run (integer_bit.cx w w.heap.size R) 100000 follows Tryz.func236 rfl rfl rfl rfl rfl rfl rfl (Eq.mp (by kernel_rfl) h)

noncomputable def integer_Abs.cx(w:World)(B:Nat)(R:Value->World->Prop):Cx:=⟨Tryz.prog,242,16,Tryz.f242.results.toList,[],[],w,B,R⟩
theorem integer_Abs.vc(b:ByteArray)(w:World)(R:Value->World->Prop)
  (h:(Pure P 229 #[.string b] w fun g c=>∃i d a,g= .tuple #[.agg #[.bool i,.string d],.int .i64 a]/\(((a≠0)->(∀e,Ext w.heap.size [] c e->(R (.tuple #[(.string ⟨#[]⟩),.int .i64 a]) e)))/\(¬(a≠0)->(∀f,Ext w.heap.size [] c f->(R (.tuple #[.string d,.int .i64 0]) f)))))):
  Pure P 242 #[.string b] w R:=
 pure_of_run (integer_Abs.cx w w.heap.size R) 100000 follows Tryz.func242 rfl rfl rfl rfl rfl rfl rfl (Eq.mp (by kernel_rfl) h)

noncomputable def integer_Add.cx(w:World)(B:Nat)(R:Value->World->Prop):Cx:=⟨Tryz.prog,293,23,Tryz.f293.results.toList,[],[],w,B,R⟩
theorem integer_Add.vc(b c:ByteArray)(w:World)(R:Value->World->Prop)
  (h:(Pure P 197 #[.string b,.string c] w fun p d=>∃e f g i a,p= .tuple #[.agg #[.bool e,.string f],.agg #[.bool g,.string i],.int .i64 a]/\(((a≠0)->(∀j,Ext w.heap.size [] d j->(R (.tuple #[(.string ⟨#[]⟩),.int .i64 a]) j)))/\(¬(a≠0)->(∀l,Ext w.heap.size [] d l->(Pure P 200 #[.agg #[.bool e,.string f],.agg #[.bool g,.string i]] l fun q r=>∃m n,q= .agg #[.bool m,.string n]/\(Pure P 199 #[.agg #[.bool m,.string n]] r fun s t=>∃o,s= .string o/\(R (.tuple #[.string o,.int .i64 0]) t)))))))):
  Pure P 293 #[.string b,.string c] w R:=
 pure_of_run (integer_Add.cx w w.heap.size R) 100000 follows Tryz.func293 rfl rfl rfl rfl rfl rfl rfl (Eq.mp (by kernel_rfl) h)

noncomputable def integer_Neg.cx(w:World)(B:Nat)(R:Value->World->Prop):Cx:=⟨Tryz.prog,295,17,Tryz.f295.results.toList,[],[],w,B,R⟩
theorem integer_Neg.vc(b:ByteArray)(w:World)(R:Value->World->Prop)
  (h:(Pure P 229 #[.string b] w fun m c=>∃d e a,m= .tuple #[.agg #[.bool d,.string e],.int .i64 a]/\(((a≠0)->(∀f,Ext w.heap.size [] c f->(R (.tuple #[(.string ⟨#[]⟩),.int .i64 a]) f)))/\(¬(a≠0)->(∀g,Ext w.heap.size [] c g->(Pure P 201 #[.agg #[.bool d,.string e]] g fun n o=>∃i j,n= .agg #[.bool i,.string j]/\(Pure P 199 #[.agg #[.bool i,.string j]] o fun p q=>∃l,p= .string l/\(R (.tuple #[.string l,.int .i64 0]) q)))))))):
  Pure P 295 #[.string b] w R:=
 pure_of_run (integer_Neg.cx w w.heap.size R) 100000 follows Tryz.func295 rfl rfl rfl rfl rfl rfl rfl (Eq.mp (by kernel_rfl) h)

noncomputable def integer_DivMod.cx(w:World)(B:Nat)(R:Value->World->Prop):Cx:=⟨Tryz.prog,312,37,Tryz.f312.results.toList,[],[],w,B,R⟩
theorem integer_DivMod.vc(f g:ByteArray)(w:World)(R:Value->World->Prop)
  (h:(Pure P 197 #[.string f,.string g] w fun x i=>∃j l a b c,x= .tuple #[.agg #[.bool j,.string l],.agg #[.bool a,.string b],.int .i64 c]/\(((c≠0)->(∀m,Ext w.heap.size [] i m->(R (.tuple #[(.string ⟨#[]⟩),(.string ⟨#[]⟩),.int .i64 c]) m)))/\(¬(c≠0)->(∀n,Ext w.heap.size [] i n->(Pure P 231 #[] n fun y o=>∃d e,y= .agg #[.bool d,.string e]/\(((a=d/\b=e/\True)->(R (.tuple #[(.string ⟨#[]⟩),(.string ⟨#[]⟩),.int .i64 16]) o))/\(¬(a=d/\b=e/\True)->(Pure P 325 #[.agg #[.bool j,.string l],.agg #[.bool a,.string b]] o fun z A=>∃p q r s,z= .tuple #[.agg #[.bool p,.string q],.agg #[.bool r,.string s]]/\(∀t,Ext w.heap.size [] A t->(Pure P 199 #[.agg #[.bool p,.string q]] t fun C D=>∃u,C= .string u/\(Pure P 199 #[.agg #[.bool r,.string s]] D fun E G=>∃v,E= .string v/\(R (.tuple #[.string u,.string v,.int .i64 0]) G))))))))))))):
  Pure P 312 #[.string f,.string g] w R:=
 pure_of_run (integer_DivMod.cx w w.heap.size R) 100000 follows Tryz.func312 rfl rfl rfl rfl rfl rfl rfl (Eq.mp (by kernel_rfl) h)

noncomputable def integer_number_divide.cx(w:World)(B:Nat)(R:Value->World->Prop):Cx:=⟨Tryz.prog,325,45,Tryz.f325.results.toList,[],[],w,B,R⟩
theorem integer_number_divide.vc(a:Bool)(g:ByteArray)(c:Bool)(e:ByteArray)(w:World)(R:Value->World->Prop)
  (h:(∀i,Ext w.heap.size [] w i->(Pure P 313 #[.string g,.string e] i fun D f=>∃d b E,D= .tuple #[.string d,.string b,.int .i64 E]/\((a=true->(((b≠(⟨#[48]⟩:ByteArray))->(Pure P 258 #[.string d,(.string ⟨#[49]⟩)] f fun G H=>∃j I,G= .tuple #[.string j,.int .i64 I]/\(Pure P 260 #[.string e,.string b] H fun J K=>∃l L,J= .tuple #[.string l,.int .i64 L]/\(Pure P 233 #[(.bool (decide (¬((a:Bool)=c)))),.string j] K fun M N=>∃m n,M= .agg #[.bool m,.string n]/\(Pure P 233 #[.bool false,.string l] N fun O Q=>∃o p,O= .agg #[.bool o,.string p]/\(∀q,Ext w.heap.size [206] Q q->(R (.tuple #[.agg #[.bool m,.string n],.agg #[.bool o,.string p]]) q)))))))/\(¬(b≠(⟨#[48]⟩:ByteArray))->(Pure P 233 #[(.bool (decide (¬((a:Bool)=c)))),.string d] f fun S T=>∃r s,S= .agg #[.bool r,.string s]/\(Pure P 233 #[.bool false,.string b] T fun U V=>∃t u,U= .agg #[.bool t,.string u]/\(∀v,Ext w.heap.size [206] V v->(R (.tuple #[.agg #[.bool r,.string s],.agg #[.bool t,.string u]]) v)))))))/\(a=false->(Pure P 233 #[(.bool (decide (¬((a:Bool)=c)))),.string d] f fun X Y=>∃x y,X= .agg #[.bool x,.string y]/\(Pure P 233 #[.bool false,.string b] Y fun Z a0=>∃z A,Z= .agg #[.bool z,.string A]/\(∀C,Ext w.heap.size [206] a0 C->(R (.tuple #[.agg #[.bool x,.string y],.agg #[.bool z,.string A]]) C))))))))):
  Pure P 325 #[.agg #[.bool a,.string g],.agg #[.bool c,.string e]] w R:=
 pure_of_run (integer_number_divide.cx w w.heap.size R) 100000 follows Tryz.func325 rfl rfl rfl rfl rfl rfl rfl (Eq.mp (by kernel_rfl) h)

end Go.Proofs.YtgfkeadgjkfomaaGreatDoor.F

namespace Go.Proofs.YtgfkeadgjkfomaaGreatDoor.B
open Go Go.RowKit Go.Proofs Go.Proofs.YtgfkeadgjkfomaaGreatDoor.Vc

theorem kE{w a b:World}{ts:List Nat}(h:Below w.heap.size w a)(e:Ext w.heap.size ts a b):Below w.heap.size w b:=h.trans e.below
theorem kP{w a b:World}(h:Below w.heap.size w a)(k:Below a.heap.size a b):Below w.heap.size w b:=h.trans (k.mono h.size)
theorem k0{w b:World}{ts:List Nat}(e:Ext w.heap.size ts w b):Below w.heap.size w b:=e.below

abbrev iV(z:Int):Value:= .agg #[.bool (decide (z<0)),.string (nS z.natAbs)]

theorem integer_zero(w:World):Pure Tryz.prog 231 #[] w fun v _=>v=iV 0:=by
 refine F.integer_zero.vc _ _ fun w1 _=> ?_
 rw[nS_0];rfl

theorem integer_with(neg:Bool)(n:Nat)(w:World):Pure Tryz.prog 233 #[.bool neg,.string (nS n)] w fun v _=>v=iV (if neg then -(n:Int)else n):=by
 refine F.integer_with.vc _ _ _ _ ⟨fun h w1 _=> ?_,fun h w1 _=> ?_⟩
 ·subst h
  rw[nS_0]
  simp only[if_true,iV]
  congr 3
  ·by_cases h0:n=0
   ·subst h0;simp
   ·have h1:nS n≠nS 0:=fun k=>h0 (nS_inj k)
    simp[h1]
    omega
  ·simp
 ·subst h
  have h2:¬(n:Int)<0:=by omega
  simp[iV,h2]

theorem integer_opposite(z:Int)(w:World):Pure Tryz.prog 201 #[iV z] w fun v _=>v=iV (-z):=by
 refine F.integer_number_opposite.vc _ _ _ _ fun w1 _=> ?_
 refine Pure.mono (integer_with _ _ _) ?_
 rintro v w2 _ rfl
 refine⟨_,_,rfl,fun w3 _=> ?_⟩
 have e:(if decide (decide (z<0)=false)=true then -((z.natAbs:Nat):Int)else(z.natAbs:Int))= -z:=by
  by_cases h:z<0
  ·simp[h];omega
  ·simp[h];omega
 rw[e]

theorem integer_sign(z:Int)(w:World):Pure Tryz.prog 202 #[iV z] w fun v _=>v= .int .i64 z.sign:=by
 refine F.integer_number_sign.vc _ _ _ _ fun w1 _=>Pure.mono (integer_zero _) ?_
 rintro v w2 _ rfl
 refine⟨_,_,rfl,fun h=> ?_,fun h=>⟨fun h1=> ?_,fun h1=> ?_⟩⟩
 ·have:z.natAbs=0:=nS_inj h.2.1
  have:z=0:=by omega
  subst this;rfl
 ·have:z<0:=by simpa using h1
  rw[Int.sign_eq_neg_one_of_neg this]
 ·have h2:¬z<0:=by simpa using h1
  have:z≠0:=fun k=>by subst k;exact h ⟨by simp,rfl,trivial⟩
  rw[Int.sign_eq_one_of_pos (by omega)]

theorem st_cons(c:UInt8)(l:Tx):(⟨#[c]⟩:ByteArray)++st l=st (c::l):=by
 apply by_inj
 simp[by_,st,ByteArray.data_append]
theorem integer_text{z:Int}(h:z.natAbs<Lim)(w:World):Pure Tryz.prog 199 #[iV z] w fun v _=>v= .string (iS z):=by
 have hs:=size_nS_le h
 refine F.integer_number_text.vc _ _ _ _ ⟨fun h=>⟨by show 1+(nS z.natAbs).size<=_;omega,fun w1 _=> ?_⟩,fun h w1 _=> ?_⟩
 ·have h1:z<0:=by simpa using h
  have e:iS z=st (45::natT z.natAbs):=by unfold iS;rw[intT_eq,if_pos h1]
  rw[e,<-st_cons];rfl
 ·have h1:¬z<0:=by simpa using h
  have e:iS z=nS z.natAbs:=by unfold iS nS;rw[intT_eq,if_neg h1]
  rw[e]

theorem integer_sum{w:World}{x y:Int}(hg:Glob w)(hx:x.natAbs<Lim)(hy:y.natAbs<Lim):
  Pure Tryz.prog 234 #[iV x,iV y] w fun v _=>v=iV (if x<0 then -((x.natAbs+y.natAbs:Nat):Int)else((x.natAbs+y.natAbs:Nat):Int)):=by
 refine F.integer_sum.vc _ _ _ _ _ _ fun w1 e1=>Pure.mono (natural_Add (hg.next (k0 e1)) hx hy) ?_
 rintro v w2 _ rfl
 refine⟨_,_,rfl,Pure.mono (integer_with _ _ _) ?_⟩
 rintro v w3 _ rfl
 refine⟨_,_,rfl,fun w4 _=> ?_⟩
 simp

theorem integer_diff_J{w0:World}{x y:Int}(hg:Glob w0){a b:Bool}{s t:ByteArray}{R:Value->World->Prop}(hx:x.natAbs<Lim)(hyx:y.natAbs<=x.natAbs){w:World}{c:Bool}{r:ByteArray}(hb:Below w0.heap.size w0 w)
  (hR:∀w,R (iV (if x<0 then -((x.natAbs - y.natAbs:Nat):Int)else((x.natAbs - y.natAbs:Nat):Int))) w):
  F.integer_difference.J4 (decide (x<0)) (nS x.natAbs) (decide (y<0)) (nS y.natAbs) c r w0.heap.size w R:=by
 refine F.integer_difference.J4.step _ _ _ _ _ _ _ _ _ (Pure.mono (natural_Sub (hg.next hb) hx hyx) ?_)
 rintro v w2 _ rfl
 refine⟨_,_,rfl,Pure.mono (integer_with _ _ _) ?_⟩
 rintro v w3 _ rfl
 refine⟨_,_,rfl,fun w4 _=> ?_⟩
 have:=hR w4
 simpa using this

theorem integer_difference{w:World}{x y:Int}(hg:Glob w)(hx:x.natAbs<Lim)(hy:y.natAbs<Lim)(hs:(x<0/\0<=y)∨(0<=x/\y<0)):
  Pure Tryz.prog 235 #[iV x,iV y] w fun v _=>v=iV (x+y):=by
 refine F.integer_difference.vc _ _ _ _ _ _ fun w1 e1=>Pure.mono (natural_Compare hx hy) ?_
 rintro v w2 hb2 rfl
 refine⟨_,_,rfl,fun h w3 e3=> ?_,fun h=> ?_⟩
 ·have hlt:x.natAbs<y.natAbs:=by
   simp only[cmpI]at h
   split at h
   ·omega
   ·split at h<;>omega
  refine integer_diff_J (a:=false) (b:=false) (s:=⟨#[]⟩) (t:=⟨#[]⟩) hg hy (Nat.le_of_lt hlt) (kE (kP (k0 e1) hb2) e3) fun w=> ?_
  congr 1
  split<;>omega
 ·have hlt:y.natAbs<=x.natAbs:=by
   simp only[cmpI]at h
   split at h<;>omega
  refine integer_diff_J (a:=false) (b:=false) (s:=⟨#[]⟩) (t:=⟨#[]⟩) hg hx hlt (kP (k0 e1) hb2) fun w=> ?_
  congr 1
  split<;>omega

theorem integer_bit(b:Bool)(w:World):Pure Tryz.prog 236 #[.bool b] w fun v _=>v= .int .i64 (if b then 1 else 0):=by
 refine F.integer_bit.vc _ _ _ ⟨fun h=> ?_,fun h=> ?_⟩<;>subst h<;>rfl

theorem integer_plus{w:World}{x y:Int}(hg:Glob w)(hx:x.natAbs<Lim)(hy:y.natAbs<Lim):
  Pure Tryz.prog 200 #[iV x,iV y] w fun v _=>v=iV (x+y):=by
 refine F.integer_number_plus.vc _ _ _ _ _ _ fun w1 e1=>Pure.mono (integer_bit _ _) ?_
 rintro v w2 hb2 rfl
 have hb:=kP (k0 e1) hb2
 refine⟨_,rfl,by split<;>omega,⟨trivial,fun h1=>Pure.mono (integer_bit _ _) ?_⟩,fun h1=>Pure.mono (integer_bit _ _) ?_⟩
 all_goals
  rintro v w3 hb3 rfl
  have hg3:=hg.next (kP hb hb3)
  refine⟨_,rfl,by split<;>omega,⟨trivial,fun h2=> ?_⟩,fun h2=> ?_⟩
 ·have hx0:¬x<0:=fun k=>by simp[k]at h1
  have hy0:¬y<0:=fun k=>by simp[k]at h2
  refine Pure.mono (integer_sum hg3 hx hy) ?_
  rintro v w4 _ rfl
  refine⟨_,_,rfl,fun w5 _=> ?_⟩
  rw[if_neg hx0]
  show iV _=iV _
  congr 1
  omega
 ·have hx0:¬x<0:=fun k=>by simp[k]at h1
  have hy0:y<0:=by apply Decidable.byContradiction;intro k;simp[k]at h2
  refine Pure.mono (integer_difference hg3 hx hy (by omega)) ?_
  rintro v w4 _ rfl
  exact⟨_,_,rfl,fun w5 _=>rfl⟩
 ·have hx0:x<0:=by apply Decidable.byContradiction;intro k;simp[k]at h1
  have hy0:¬y<0:=fun k=>by simp[k]at h2
  refine Pure.mono (integer_difference hg3 hx hy (by omega)) ?_
  rintro v w4 _ rfl
  exact⟨_,_,rfl,fun w5 _=>rfl⟩
 ·have hx0:x<0:=by apply Decidable.byContradiction;intro k;simp[k]at h1
  have hy0:y<0:=by apply Decidable.byContradiction;intro k;simp[k]at h2
  refine Pure.mono (integer_sum hg3 hx hy) ?_
  rintro v w4 _ rfl
  refine⟨_,_,rfl,fun w5 _=> ?_⟩
  rw[if_pos hx0]
  show iV _=iV _
  congr 1
  omega

theorem mul_sign(x y:Int):(if decide (¬(decide (x<0)=decide (y<0)))=true then -((x.natAbs*y.natAbs:Nat):Int)else((x.natAbs*y.natAbs:Nat):Int))=x*y:=by
 have e:(x*y).natAbs=x.natAbs*y.natAbs:=Int.natAbs_mul x y
 rw[<-e]
 rcases Int.lt_or_le x 0 with hx|hx<;>rcases Int.lt_or_le y 0 with hy|hy
 ·have:=Int.mul_nonneg_of_nonpos_of_nonpos (Int.le_of_lt hx) (Int.le_of_lt hy)
  simp[hx,hy];omega
 ·have:=Int.mul_nonpos_of_nonpos_of_nonneg (Int.le_of_lt hx) hy
  simp[hx,Int.not_lt.2 hy];omega
 ·have:=Int.mul_nonpos_of_nonneg_of_nonpos hx (Int.le_of_lt hy)
  simp[hy,Int.not_lt.2 hx];omega
 ·have:=Int.mul_nonneg hx hy
  simp[Int.not_lt.2 hx,Int.not_lt.2 hy];omega

theorem integer_times{w:World}{x y:Int}(hg:Glob w)(hx:x.natAbs<Lim)(hy:y.natAbs<Lim):
  Pure Tryz.prog 198 #[iV x,iV y] w fun v _=>v=iV (x*y):=by
 refine F.integer_number_times.vc _ _ _ _ _ _ fun w1 e1=>Pure.mono (natural_Mul (hg.next (k0 e1)) hx hy) ?_
 rintro v w2 _ rfl
 refine⟨_,_,rfl,Pure.mono (integer_with _ _ _) ?_⟩
 rintro v w3 _ rfl
 refine⟨_,_,rfl,fun w4 _=> ?_⟩
 rw[mul_sign]

theorem CutMinus(s:ByteArray)(w:World):
  Pure Tryz.prog 254 #[.string s,.string ⟨#[45]⟩] w fun v _=>v= .tuple #[.string (if(by_ s).head? =some 45 then st (by_ s).tail else s),.bool (decide ((by_ s).head? =some 45))]:=by
 refine Calls.mono (Tryz.strings_CutPrefix s ⟨#[45]⟩ w) ?_
 rintro e w' ⟨rfl,rfl⟩
 refine⟨_,rfl,Below.refl _ _,?_⟩
 have h1:Lib.hasPrefix s.data.toList [45]=decide ((by_ s).head? =some 45):=by
  show List.isPrefixOf [45] (by_ s)=_
  cases by_ s with
  |nil=>rfl
  |cons c r=>
   by_cases h:c=45
   ·subst h;simp[List.isPrefixOf]
   ·have h2:(45==c)=false:=by simpa using fun k=>h k.symm
    simp[List.isPrefixOf,h,h2]
 have h2:(⟨(Lib.trimPrefix s.data.toList [45]).toArray⟩:ByteArray)=if(by_ s).head? =some 45 then st (by_ s).tail else s:=by
  unfold Lib.trimPrefix
  rw[h1]
  by_cases h:(by_ s).head? =some 45
  ·simp only[h,decide_true,if_true]
   show st ((by_ s).drop 1)=st (by_ s).tail
   rw[List.drop_one]
  ·simp only[h,decide_false,if_false]
   rfl
 rw[<-h1,<-h2]

theorem integer_read(s:ByteArray)(hs:s.size<2147483648)(w:World):
  Pure Tryz.prog 230 #[.string s] w fun v _=>∃b t,v= .tuple #[.agg #[.bool b,.string t],.bool (isInt (by_ s))]/\(isInt (by_ s)=true->b=decide (valI (by_ s)<0)/\t=nS (valI (by_ s)).natAbs):=by
 refine F.integer_read.vc _ _ _ fun w1 _=>Pure.mono (CutMinus s _) ?_
 rintro v w2 _ rfl
 refine⟨_,_,rfl,fun w3 _=> ?_⟩
 obtain⟨t,ht⟩:∃t,t=(if(by_ s).head? =some 45 then st (by_ s).tail else s):=⟨_,rfl⟩
 rw[<-ht]
 have hts:t.size<2147483648:=by
  rw[ht]
  split
  ·have:(st (by_ s).tail).size=(by_ s).tail.length:=rfl
   have:=size_by s
   simp at*
   omega
  ·exact hs
 refine Pure.mono (natural_Valid t hts _) ?_
 rintro v w4 _ rfl
 have hval:isNat (by_ t)=true->valD (by_ t)=(valI (by_ s)).natAbs/\t=nS (valI (by_ s)).natAbs:=by
  intro hn
  have e:valD (by_ t)=(valI (by_ s)).natAbs:=by
   rw[ht]
   unfold valI
   split
   ·simp[by_st]
   ·simp
  refine⟨e,?_⟩
  rw[<-e]
  exact(by rw[<-st_by t];unfold nS;rw[by_st,natT_of hn]:t=nS (valD (by_ t)))
 have hneg:isInt (by_ s)=true->decide ((by_ s).head? =some 45)=decide (valI (by_ s)<0):=by
  intro hi
  have e:=intT_of hi
  conv=>lhs;rw[<-e]
  rw[intT_eq]
  split
  ·rename_i k;simp[k]
  ·rename_i k;simp[k,natT_head45]
 have hres:isInt (by_ s)=(isNat (by_ t)&&decide (¬(decide ((by_ s).head? =some 45)=true/\t=(⟨#[48]⟩:ByteArray)/\True))):=by
  unfold isInt
  by_cases h:(by_ s).head? =some 45
  ·have e2:t=st (by_ s).tail:=by rw[ht,if_pos h]
   rw[if_pos h,e2,by_st]
   congr 1
   by_cases h3:(by_ s).tail=[48]
   ·simp[h,h3];rfl
   ·have:st (by_ s).tail≠(⟨#[48]⟩:ByteArray):=fun k=>h3 (st_inj (k.trans rfl:st (by_ s).tail=st [48]))
    simp[h,h3,this]
  ·have e2:t=s:=by rw[ht,if_neg h]
   rw[if_neg h,e2]
   simp[h]
 refine⟨_,rfl,fun h=> ?_,fun h=> ?_⟩
 ·rw[h,Bool.true_and]at hres
  have fin:∀w',(fun v (_:World)=>∃b t,v=Value.tuple #[.agg #[.bool b,.string t],.bool (isInt (by_ s))]/\(isInt (by_ s)=true->b=decide (valI (by_ s)<0)/\t=nS (valI (by_ s)).natAbs)) (.tuple #[(.agg #[(.bool (decide ((by_ s).head? =some 45))),(.string t)]),(.bool (decide (¬(decide ((by_ s).head? =some 45)=true/\t=(⟨#[48]⟩:ByteArray)/\True))))]) w':=
   fun w'=>⟨_,_,by rw[hres],fun hi=>⟨hneg hi,(hval h).2⟩⟩
  exact⟨fun w5 _=>fin w5,fun w5 _=>fin w5⟩
 ·rw[h,Bool.false_and]at hres
  have fin:∀w',(fun v (_:World)=>∃b t,v=Value.tuple #[.agg #[.bool b,.string t],.bool (isInt (by_ s))]/\(isInt (by_ s)=true->b=decide (valI (by_ s)<0)/\t=nS (valI (by_ s)).natAbs)) (.tuple #[(.agg #[(.bool (decide ((by_ s).head? =some 45))),(.string t)]),(.bool false)]) w':=
   fun w'=>⟨_,_,by rw[hres],fun hi=>by rw[hres]at hi;cases hi⟩
  exact⟨fun w5 _=>fin w5,fun w5 _=>fin w5⟩

theorem size_iS_le{z:Int}(h:z.natAbs<Lim):(iS z).size<2147483648:=by
 rw[lim_eq]at h
 have k:=klim
 have:=intT_length_le h (by omega)
 show(intT z).length<_
 omega
theorem integer_read_ok{z:Int}(h:z.natAbs<Lim)(w:World):Pure Tryz.prog 230 #[.string (iS z)] w fun v _=>v= .tuple #[iV z,.bool true]:=by
 refine Pure.mono (integer_read _ (size_iS_le h) w) ?_
 rintro v w2 _ ⟨b,t,rfl,hv⟩
 rw[by_iS,intT_isInt,intT_val]at*
 obtain⟨rfl,rfl⟩:=hv rfl
 rfl
theorem integer_Valid(s:ByteArray)(hs:s.size<2147483648)(w:World):Pure Tryz.prog 212 #[.string s] w fun v _=>v= .bool (isInt (by_ s)):=by
 refine F.integer_Valid.vc _ _ _ (Pure.mono (integer_read s hs w) ?_)
 rintro v w2 _ ⟨b,t,rfl,_⟩
 exact⟨_,_,_,rfl,fun w3 _=>rfl⟩

theorem integer_both{x y:Int}(hx:x.natAbs<Lim)(hy:y.natAbs<Lim)(w:World):
  Pure Tryz.prog 197 #[.string (iS x),.string (iS y)] w fun v _=>v= .tuple #[iV x,iV y,.int .i64 0]:=by
 refine F.integer_both.vc _ _ _ _ fun w1 _=>Pure.mono (integer_read_ok hx _) ?_
 rintro v w2 _ rfl
 refine⟨_,_,_,rfl,fun w3 _=>Pure.mono (integer_read_ok hy _) ?_⟩
 rintro v w4 _ rfl
 exact⟨_,_,_,rfl,fun h=>by simp at h,fun _=>⟨fun h=>by simp at h,fun _=>⟨fun w5 _=>rfl,fun w5 _=>rfl⟩⟩⟩
theorem lim_pos:0<Lim:=by rw[lim_eq];exact Nat.pow_pos (by omega)
theorem integer_one{x:Int}(hx:x.natAbs<Lim)(w:World):
  Pure Tryz.prog 229 #[.string (iS x)] w fun v _=>v= .tuple #[iV x,.int .i64 0]:=by
 refine F.integer_one.vc _ _ _ fun w1 _=> ?_
 rw[iS_0]
 refine Pure.mono (integer_both hx (by simpa using lim_pos) _) ?_
 rintro v w2 _ rfl
 exact⟨_,_,_,_,_,rfl,fun w3 _=>rfl⟩
theorem integer_Sign{x:Int}(hx:x.natAbs<Lim)(w:World):
  Pure Tryz.prog 196 #[.string (iS x)] w fun v _=>v= .tuple #[.int .i64 x.sign,.int .i64 0]:=by
 refine F.integer_Sign.vc _ _ _ (Pure.mono (integer_one hx w) ?_)
 rintro v w2 _ rfl
 refine⟨_,_,_,rfl,fun w3 _=>Pure.mono (integer_sign _ _) ?_⟩
 rintro v w4 _ rfl
 exact⟨_,rfl,rfl⟩
theorem integer_Abs{x:Int}(hx:x.natAbs<Lim)(w:World):
  Pure Tryz.prog 242 #[.string (iS x)] w fun v _=>v= .tuple #[.string (nS x.natAbs),.int .i64 0]:=by
 refine F.integer_Abs.vc _ _ _ (Pure.mono (integer_one hx w) ?_)
 rintro v w2 _ rfl
 exact⟨_,_,_,rfl,fun h=>absurd rfl h,fun _ w3 _=>rfl⟩
theorem integer_Neg{x:Int}(hx:x.natAbs<Lim)(w:World):
  Pure Tryz.prog 295 #[.string (iS x)] w fun v _=>v= .tuple #[.string (iS (-x)),.int .i64 0]:=by
 refine F.integer_Neg.vc _ _ _ (Pure.mono (integer_one hx w) ?_)
 rintro v w2 _ rfl
 refine⟨_,_,_,rfl,fun h=>absurd rfl h,fun _ w3 _=>Pure.mono (integer_opposite _ _) ?_⟩
 rintro v w4 _ rfl
 refine⟨_,_,rfl,Pure.mono (integer_text (by rw[Int.natAbs_neg];exact hx) _) ?_⟩
 rintro v w5 _ rfl
 exact⟨_,rfl,rfl⟩
theorem integer_Add{w:World}{x y:Int}(hg:Glob w)(hx:x.natAbs<Lim)(hy:y.natAbs<Lim)(hxy:(x+y).natAbs<Lim):
  Pure Tryz.prog 293 #[.string (iS x),.string (iS y)] w fun v _=>v= .tuple #[.string (iS (x+y)),.int .i64 0]:=by
 refine F.integer_Add.vc _ _ _ _ (Pure.mono (integer_both hx hy w) ?_)
 rintro v w2 hb2 rfl
 refine⟨_,_,_,_,_,rfl,fun h=>absurd rfl h,fun _ w3 e3=>Pure.mono (integer_plus (hg.next (kE hb2 e3)) hx hy) ?_⟩
 rintro v w4 _ rfl
 refine⟨_,_,rfl,Pure.mono (integer_text hxy _) ?_⟩
 rintro v w5 _ rfl
 exact⟨_,rfl,rfl⟩
theorem integer_Mul{w:World}{x y:Int}(hg:Glob w)(hx:x.natAbs<Lim)(hy:y.natAbs<Lim)(hxy:(x*y).natAbs<Lim):
  Pure Tryz.prog 172 #[.string (iS x),.string (iS y)] w fun v _=>v= .tuple #[.string (iS (x*y)),.int .i64 0]:=by
 refine F.integer_Mul.vc _ _ _ _ (Pure.mono (integer_both hx hy w) ?_)
 rintro v w2 hb2 rfl
 refine⟨_,_,_,_,_,rfl,fun h=>absurd rfl h,fun _ w3 e3=>Pure.mono (integer_times (hg.next (kE hb2 e3)) hx hy) ?_⟩
 rintro v w4 _ rfl
 refine⟨_,_,rfl,Pure.mono (integer_text hxy _) ?_⟩
 rintro v w5 _ rfl
 exact⟨_,rfl,rfl⟩
theorem integer_Compare{w:World}{x y:Int}(hg:Glob w)(hx:x.natAbs<Lim)(hy:y.natAbs<Lim):
  Pure Tryz.prog 173 #[.string (iS x),.string (iS y)] w fun v _=>v= .tuple #[.int .i64 (x - y).sign,.int .i64 0]:=by
 refine F.integer_Compare.vc _ _ _ _ (Pure.mono (integer_both hx hy w) ?_)
 rintro v w2 hb2 rfl
 refine⟨_,_,_,_,_,rfl,fun w3 e3=>Pure.mono (integer_opposite _ _) ?_⟩
 rintro v w4 hb4 rfl
 refine⟨_,_,rfl,Pure.mono (integer_plus (hg.next (kP (kE hb2 e3) hb4)) hx (by rw[Int.natAbs_neg];exact hy)) ?_⟩
 rintro v w5 _ rfl
 refine⟨_,_,rfl,Pure.mono (integer_sign _ _) ?_⟩
 rintro v w6 _ rfl
 refine⟨_,rfl,?_⟩
 rw[Int.sub_eq_add_neg]

theorem integer_divide{w:World}{x:Int}{d:Nat}(hg:Glob w)(hx:x.natAbs<Lim)(hd:d<Lim)(hd0:d≠0):
  Pure Tryz.prog 325 #[iV x,iV (d:Int)] w fun v _=>v= .tuple #[iV (x / (d:Int)),iV (x % (d:Int))]:=by
 have hdn:decide ((d:Int)<0)=false:=by simp
 have hda:((d:Int)).natAbs=d:=by simp
 have hdp:(0:Int)<(d:Int):=by omega
 refine F.integer_number_divide.vc _ _ _ _ _ _ fun w1 e1=> ?_
 rw[hda]
 refine Pure.mono (natural_DivMod (hg.next (k0 e1)) hx hd hd0) ?_
 rintro v w2 hb2 rfl
 have hb:=kP (k0 e1) hb2
 have hm:=Nat.mod_lt x.natAbs (show 0<d by omega)
 have hdm:=Nat.div_add_mod x.natAbs d
 obtain⟨q,hq⟩:∃q,q=x.natAbs / d:=⟨_,rfl⟩
 obtain⟨r,hr⟩:∃r,r=x.natAbs % d:=⟨_,rfl⟩
 rw[<-hq,<-hr]at hdm
 rw[<-hr]at hm
 have hql:q<=x.natAbs:=by rw[hq];exact Nat.div_le_self _ _
 rw[<-hq,<-hr]
 have hcast:((d*q:Nat):Int)=(d:Int)*(q:Int):=by simp
 have pos:0<=x->x / (d:Int)=(q:Int)/\x % (d:Int)=(r:Int):=fun h=>by
  rw[Int.ediv_emod_unique hdp]
  omega
 have neg0:x<0->r=0->x / (d:Int)= -(q:Int)/\x % (d:Int)=(r:Int):=fun h h2=>by
  rw[Int.ediv_emod_unique hdp,Int.mul_neg]
  omega
 have neg1:x<0->r≠0->x / (d:Int)= -((q+1:Nat):Int)/\x % (d:Int)=((d - r:Nat):Int):=fun h h2=>by
  have e:(d:Int)*((q+1:Nat):Int)=(d:Int)*(q:Int)+d:=by grind
  rw[Int.ediv_emod_unique hdp,Int.mul_neg,e]
  omega
 refine⟨_,_,_,rfl,fun h=>⟨fun h1=> ?_,fun h1=> ?_⟩,fun h=> ?_⟩
 ·have hx0:x<0:=by simpa using h
  have hr0:r≠0:=fun k=>by rw[k,nS_0]at h1;exact h1 rfl
  obtain⟨eq1,eq2⟩:=neg1 hx0 hr0
  rw[nS_1]
  refine Pure.mono (natural_Add (hg.next hb) (Nat.lt_of_le_of_lt hql hx) ?_) ?_
  ·rw[lim_eq];exact Nat.lt_of_lt_of_le (by omega) (Nat.pow_le_pow_right (n:=10) (by omega) (show 1<=9*KLim by have:=klim;omega))
  rintro v w3 hb3 rfl
  refine⟨_,_,rfl,Pure.mono (natural_Sub (hg.next (kP hb hb3)) hd (Nat.le_of_lt hm)) ?_⟩
  rintro v w4 _ rfl
  refine⟨_,_,rfl,Pure.mono (integer_with _ _ _) ?_⟩
  rintro v w5 _ rfl
  refine⟨_,_,rfl,Pure.mono (integer_with _ _ _) ?_⟩
  rintro v w6 _ rfl
  refine⟨_,_,rfl,fun w7 _=> ?_⟩
  rw[eq1,eq2]
  simp[hx0]
 ·have hx0:x<0:=by simpa using h
  have hr0:r=0:=by
   apply Decidable.byContradiction
   intro k
   rw[nS_0]at h1
   exact h1 fun e=>k (nS_inj e)
  obtain⟨eq1,eq2⟩:=neg0 hx0 hr0
  refine Pure.mono (integer_with _ _ _) ?_
  rintro v w5 _ rfl
  refine⟨_,_,rfl,Pure.mono (integer_with _ _ _) ?_⟩
  rintro v w6 _ rfl
  refine⟨_,_,rfl,fun w7 _=> ?_⟩
  rw[eq1,eq2]
  simp[hx0]
 ·have hx0:¬x<0:=by simpa using h
  obtain⟨eq1,eq2⟩:=pos (by omega)
  refine Pure.mono (integer_with _ _ _) ?_
  rintro v w5 _ rfl
  refine⟨_,_,rfl,Pure.mono (integer_with _ _ _) ?_⟩
  rintro v w6 _ rfl
  refine⟨_,_,rfl,fun w7 _=> ?_⟩
  rw[eq1,eq2]
  simp[hx0]

theorem natAbs_ediv_le(x:Int)(d:Nat):(x / (d:Int)).natAbs<=x.natAbs:=Int.natAbs_ediv_le_natAbs _ _
theorem integer_DivMod{w:World}{x:Int}{d:Nat}(hg:Glob w)(hx:x.natAbs<Lim)(hd:d<Lim)(hd0:d≠0):
  Pure Tryz.prog 312 #[.string (iS x),.string (nS d)] w fun v _=>v= .tuple #[.string (iS (x / (d:Int))),.string (nS (x % (d:Int)).toNat),.int .i64 0]:=by
 have hda:((d:Int)).natAbs=d:=by simp
 have hm0:=Int.emod_nonneg x (show(d:Int)≠0 by omega)
 have hm1:=Int.emod_lt_of_pos x (show(0:Int)<d by omega)
 rw[<-iS_nat]
 refine F.integer_DivMod.vc _ _ _ _ (Pure.mono (integer_both hx (by rw[hda];exact hd) w) ?_)
 rintro v w2 hb2 rfl
 refine⟨_,_,_,_,_,rfl,fun h=>absurd rfl h,fun _ w3 e3=>Pure.mono (integer_zero _) ?_⟩
 rintro v w4 hb4 rfl
 refine⟨_,_,rfl,fun h=> ?_,fun _=>Pure.mono (integer_divide (hg.next (kP (kE hb2 e3) hb4)) hx hd hd0) ?_⟩
 ·have:=nS_inj h.2.1
  omega
 rintro v w5 _ rfl
 refine⟨_,_,_,_,rfl,fun w6 _=>Pure.mono (integer_text (Nat.lt_of_le_of_lt (natAbs_ediv_le _ _) hx) _) ?_⟩
 rintro v w7 _ rfl
 refine⟨_,rfl,Pure.mono (integer_text (by omega) _) ?_⟩
 rintro v w8 _ rfl
 refine⟨_,rfl,?_⟩
 rw[<-iS_nat,Int.toNat_of_nonneg hm0]
end Go.Proofs.YtgfkeadgjkfomaaGreatDoor.B

set_option maxRecDepth 100000
set_option maxHeartbeats 4000000
namespace Go.Proofs.YtgfkeadgjkfomaaGreatDoor.F
open Go Go.RowKit Go.Proofs Go.Proofs.YtgfkeadgjkfomaaGreatDoor.Vc
noncomputable def rational_Compare.cx(w:World)(B:Nat)(R:Value->World->Prop):Cx:=⟨Tryz.prog,141,63,Tryz.f141.results.toList,[],[],w,B,R⟩
theorem rational_Compare.vc(d e:ByteArray)(w:World)(R:Value->World->Prop)
  (h:(Pure P 170 #[.string d,.string e] w fun u f=>∃g i j l c,u= .tuple #[.agg #[.string g,.string i],.agg #[.string j,.string l],.int .i64 c]/\(((c≠0)->(∀m,Ext w.heap.size [] f m->(R (.tuple #[.int .i64 0,.int .i64 c]) m)))/\(¬(c≠0)->(((d=e)->(∀n,Ext w.heap.size [] f n->(R (.tuple #[.int .i64 0,.int .i64 c]) n)))/\(¬(d=e)->(∀o,Ext w.heap.size [] f o->(Pure P 171 #[.agg #[.string g,.string i]] o fun v x=>∃a,v= .int .i64 a/\(Pure P 171 #[.agg #[.string j,.string l]] x fun y p=>∃b,y= .int .i64 b/\(((a≠b)->(inR .i64 (a - b)/\(R (.tuple #[(.int .i64 (if(if(1:Int)<(a - b)then(1:Int)else(a - b))>(-1:Int)then(if(1:Int)<(a - b)then(1:Int)else(a - b))else(-1:Int))),.int .i64 0]) p)))/\(¬(a≠b)->(Pure P 172 #[.string g,.string l] p fun z A=>∃q C,z= .tuple #[.string q,.int .i64 C]/\(Pure P 172 #[.string j,.string i] A fun D E=>∃r G,D= .tuple #[.string r,.int .i64 G]/\(Pure P 173 #[.string q,.string r] E fun H I=>∃s t,H= .tuple #[.int .i64 s,.int .i64 t]/\(R (.tuple #[.int .i64 s,.int .i64 t]) I))))))))))))))):
  Pure P 141 #[.string d,.string e] w R:=
 pure_of_run (rational_Compare.cx w w.heap.size R) 100000 follows Tryz.func141 rfl rfl rfl rfl rfl rfl rfl (Eq.mp (by kernel_rfl) h)

noncomputable def rational_Valid.cx(w:World)(B:Nat)(R:Value->World->Prop):Cx:=⟨Tryz.prog,150,11,Tryz.f150.results.toList,[],[],w,B,R⟩
theorem rational_Valid.vc(a:ByteArray)(w:World)(R:Value->World->Prop)
  (h:(Pure P 179 #[.string a] w fun d e=>∃f g b,d= .tuple #[.agg #[.string f,.string g],.bool b]/\(∀c,Ext w.heap.size [] e c->(R (.bool b) c)))):
  Pure P 150 #[.string a] w R:=
 pure_of_run (rational_Valid.cx w w.heap.size R) 100000 follows Tryz.func150 rfl rfl rfl rfl rfl rfl rfl (Eq.mp (by kernel_rfl) h)

noncomputable def rational_Sub.cx(w:World)(B:Nat)(R:Value->World->Prop):Cx:=⟨Tryz.prog,164,11,Tryz.f164.results.toList,[],[],w,B,R⟩
theorem rational_Sub.vc(a b:ByteArray)(w:World)(R:Value->World->Prop)
  (h:(Pure P 194 #[(.int .u8 (45:Int)),.string a,.string b] w fun e f=>∃c d,e= .tuple #[.string c,.int .i64 d]/\(R (.tuple #[.string c,.int .i64 d]) f))):
  Pure P 164 #[.string a,.string b] w R:=
 pure_of_run (rational_Sub.cx w w.heap.size R) 100000 follows Tryz.func164 rfl rfl rfl rfl rfl rfl rfl (Eq.mp (by kernel_rfl) h)

noncomputable def rational_Add.cx(w:World)(B:Nat)(R:Value->World->Prop):Cx:=⟨Tryz.prog,165,11,Tryz.f165.results.toList,[],[],w,B,R⟩
theorem rational_Add.vc(a b:ByteArray)(w:World)(R:Value->World->Prop)
  (h:(Pure P 194 #[(.int .u8 (43:Int)),.string a,.string b] w fun e f=>∃c d,e= .tuple #[.string c,.int .i64 d]/\(R (.tuple #[.string c,.int .i64 d]) f))):
  Pure P 165 #[.string a,.string b] w R:=
 pure_of_run (rational_Add.cx w w.heap.size R) 100000 follows Tryz.func165 rfl rfl rfl rfl rfl rfl rfl (Eq.mp (by kernel_rfl) h)

noncomputable def rational_Mul.cx(w:World)(B:Nat)(R:Value->World->Prop):Cx:=⟨Tryz.prog,166,11,Tryz.f166.results.toList,[],[],w,B,R⟩
theorem rational_Mul.vc(a b:ByteArray)(w:World)(R:Value->World->Prop)
  (h:(Pure P 194 #[(.int .u8 (42:Int)),.string a,.string b] w fun e f=>∃c d,e= .tuple #[.string c,.int .i64 d]/\(R (.tuple #[.string c,.int .i64 d]) f))):
  Pure P 166 #[.string a,.string b] w R:=
 pure_of_run (rational_Mul.cx w w.heap.size R) 100000 follows Tryz.func166 rfl rfl rfl rfl rfl rfl rfl (Eq.mp (by kernel_rfl) h)

noncomputable def rational_both.cx(w:World)(B:Nat)(R:Value->World->Prop):Cx:=⟨Tryz.prog,170,31,Tryz.f170.results.toList,[],[],w,B,R⟩
theorem rational_both.vc(i j:ByteArray)(w:World)(R:Value->World->Prop)
  (h:(∀l,Ext w.heap.size [] w l->(Pure P 179 #[.string i] l fun r s=>∃b c d,r= .tuple #[.agg #[.string b,.string c],.bool d]/\(∀m,Ext w.heap.size [] s m->(Pure P 179 #[.string j] m fun t a=>∃e f g,t= .tuple #[.agg #[.string e,.string f],.bool g]/\(((d=false)->(∀n,Ext w.heap.size [182] a n->(R (.tuple #[(.agg #[(.string ⟨#[]⟩),(.string ⟨#[]⟩)]),(.agg #[(.string ⟨#[]⟩),(.string ⟨#[]⟩)]),.int .i64 1]) n)))/\(¬(d=false)->(((g=false)->(∀o,Ext w.heap.size [182] a o->(R (.tuple #[(.agg #[(.string ⟨#[]⟩),(.string ⟨#[]⟩)]),(.agg #[(.string ⟨#[]⟩),(.string ⟨#[]⟩)]),.int .i64 1]) o)))/\(¬(g=false)->((∀p,Ext w.heap.size [182] a p->(R (.tuple #[.agg #[.string b,.string c],.agg #[.string e,.string f],.int .i64 0]) p))/\(∀q,Ext w.heap.size [182] a q->(R (.tuple #[.agg #[.string b,.string c],.agg #[.string e,.string f],.int .i64 0]) q)))))))))))):
  Pure P 170 #[.string i,.string j] w R:=
 pure_of_run (rational_both.cx w w.heap.size R) 100000 follows Tryz.func170 rfl rfl rfl rfl rfl rfl rfl (Eq.mp (by kernel_rfl) h)

noncomputable def rational_frac_sign.cx(w:World)(B:Nat)(R:Value->World->Prop):Cx:=⟨Tryz.prog,171,12,Tryz.f171.results.toList,[],[],w,B,R⟩
theorem rational_frac_sign.vc(a d:ByteArray)(w:World)(R:Value->World->Prop)
  (h:(∀b,Ext w.heap.size [] w b->(Pure P 196 #[.string a] b fun e f=>∃c g,e= .tuple #[.int .i64 c,.int .i64 g]/\(R (.int .i64 c) f)))):
  Pure P 171 #[.agg #[.string a,.string d]] w R:=
 pure_of_run (rational_frac_sign.cx w w.heap.size R) 100000 follows Tryz.func171 rfl rfl rfl rfl rfl rfl rfl (Eq.mp (by kernel_rfl) h)

noncomputable def rational_read.cx(w:World)(B:Nat)(R:Value->World->Prop):Cx:=⟨Tryz.prog,179,48,Tryz.f179.results.toList,[],[],w,B,R⟩
theorem rational_read.vc(i:ByteArray)(w:World)(R:Value->World->Prop)
  (h:(∀j,Ext w.heap.size [] w j->(Pure P 211 #[.string i,(.string ⟨#[47]⟩)] j fun v l=>∃a b d,v= .tuple #[.string a,.string b,.bool d]/\(((d=false)->(Pure P 212 #[.string a] l fun x y=>∃m,x= .bool m/\(∀n,Ext w.heap.size [182] y n->(R (.tuple #[(.agg #[.string a,(.string ⟨#[49]⟩)]),.bool m]) n))))/\(¬(d=false)->(Pure P 212 #[.string a] l fun z e=>∃f,z= .bool f/\((f=true->(((a≠(⟨#[48]⟩:ByteArray))->(Pure P 213 #[.string b] e fun A c=>∃g,A= .bool g/\((g=true->(((b≠(⟨#[48]⟩:ByteArray))->(((b≠(⟨#[49]⟩:ByteArray))->(Pure P 214 #[.string a,.string b] c fun C D=>∃o,C= .string o/\(∀p,Ext w.heap.size [182] D p->(R (.tuple #[.agg #[.string a,.string b],(.bool (decide (o=(⟨#[49]⟩:ByteArray))))]) p))))/\(¬(b≠(⟨#[49]⟩:ByteArray))->(∀q,Ext w.heap.size [182] c q->(R (.tuple #[.agg #[.string a,.string b],.bool false]) q)))))/\(¬(b≠(⟨#[48]⟩:ByteArray))->(∀r,Ext w.heap.size [182] c r->(R (.tuple #[.agg #[.string a,.string b],.bool false]) r)))))/\(g=false->(∀s,Ext w.heap.size [182] c s->(R (.tuple #[.agg #[.string a,.string b],.bool false]) s))))))/\(¬(a≠(⟨#[48]⟩:ByteArray))->(∀t,Ext w.heap.size [182] e t->(R (.tuple #[.agg #[.string a,.string b],.bool false]) t)))))/\(f=false->(∀u,Ext w.heap.size [182] e u->(R (.tuple #[.agg #[.string a,.string b],.bool false]) u)))))))))):
  Pure P 179 #[.string i] w R:=
 pure_of_run (rational_read.cx w w.heap.size R) 100000 follows Tryz.func179 rfl rfl rfl rfl rfl rfl rfl (Eq.mp (by kernel_rfl) h)

noncomputable def rational_apply.cx(w:World)(B:Nat)(R:Value->World->Prop):Cx:=⟨Tryz.prog,194,37,Tryz.f194.results.toList,[],[(6,2,2),(6,5,4)],w,B,R⟩
theorem rational_apply.vc(b:Int)(X Y:ByteArray)(w:World)(R:Value->World->Prop)
  (h:(Pure P 170 #[.string X,.string Y] w fun r6 f=>∃c d a e o,r6= .tuple #[.agg #[.string c,.string d],.agg #[.string a,.string e],.int .i64 o]/\(((o≠0)->(∀Z,Ext w.heap.size [] f Z->(R (.tuple #[(.string ⟨#[]⟩),.int .i64 o]) Z)))/\(¬(o≠0)->(((b=47)->(((a=(⟨#[48]⟩:ByteArray))->(∀w9,Ext w.heap.size [] f w9->(R (.tuple #[(.string ⟨#[]⟩),.int .i64 16]) w9)))/\(¬(a=(⟨#[48]⟩:ByteArray))->((∀a1,Ext w.heap.size [] f a1->(Pure P 226 #[] a1 fun q4 j=>∃(g:Option Nat),q4= .map g/\((RunOk P (Instr.lookup 230 (.map g) (.int .u8 b) false) w.heap.size [182,182] j fun q5 a2=>∃(l:Nat)(p q:Array Value),q5= .func (.func l) p q/\((callable P l=true/\(Pure P l ((Array.toList p)++([.agg #[.string c,.string d],.agg #[.string a,.string e]]:List Value)++(Array.toList q)).toArray a2 fun q6 q7=>∃a3 a4,q6= .agg #[.string a3,.string a4]/\(Pure P 227 #[.agg #[.string a3,.string a4]] q7 fun q8 q9=>∃a5,q8= .string a5/\(R (.tuple #[.string a5,.int .i64 0]) q9))))/\(callable P l=true/\(Pure P l ((Array.toList p)++([.agg #[.string c,.string d],.agg #[.string a,.string e]]:List Value)++(Array.toList q)).toArray a2 fun r0 r1=>∃a6 a7,r0= .agg #[.string a6,.string a7]/\(Pure P 227 #[.agg #[.string a6,.string a7]] r1 fun r2 r3=>∃a8,r2= .string a8/\(R (.tuple #[.string a8,.int .i64 0]) r3))))))/\(((RunOk P (Instr.lookup 230 (.map g) (.int .u8 b) false) w.heap.size [182,182] j fun r4 r5=>∃(r:Nat)(a9 b0:Array Value),r4= .func (.func r) a9 b0/\(callable P r=true/\(Pure P r ((Array.toList a9)++([.agg #[.string c,.string d],.agg #[.string a,.string e]]:List Value)++(Array.toList b0)).toArray r5 fun r6 r7=>∃b1 b2,r6= .agg #[.string b1,.string b2]/\(Pure P 227 #[.agg #[.string b1,.string b2]] r7 fun r8 r9=>∃b3,r8= .string b3/\(R (.tuple #[.string b3,.int .i64 0]) r9)))))/\(RunOk P (Instr.lookup 230 (.map g) (.int .u8 b) false) w.heap.size [182,182] j fun s0 s1=>∃(s:Nat)(b4 b5:Array Value),s0= .func (.func s) b4 b5/\(callable P s=true/\(Pure P s ((Array.toList b4)++([.agg #[.string c,.string d],.agg #[.string a,.string e]]:List Value)++(Array.toList b5)).toArray s1 fun s2 s3=>∃b6 b7,s2= .agg #[.string b6,.string b7]/\(Pure P 227 #[.agg #[.string b6,.string b7]] s3 fun s4 s5=>∃b8,s4= .string b8/\(R (.tuple #[.string b8,.int .i64 0]) s5))))))/\((RunOk P (Instr.lookup 230 (.map g) (.int .u8 b) false) w.heap.size [182,182] j fun s6 s7=>∃(t:Nat)(b9 c0:Array Value),s6= .func (.func t) b9 c0/\(callable P t=true/\(Pure P t ((Array.toList b9)++([.agg #[.string c,.string d],.agg #[.string a,.string e]]:List Value)++(Array.toList c0)).toArray s7 fun s8 s9=>∃c1 c2,s8= .agg #[.string c1,.string c2]/\(Pure P 227 #[.agg #[.string c1,.string c2]] s9 fun t0 t1=>∃c3,t0= .string c3/\(R (.tuple #[.string c3,.int .i64 0]) t1)))))/\(RunOk P (Instr.lookup 230 (.map g) (.int .u8 b) false) w.heap.size [182,182] j fun t2 t3=>∃(u:Nat)(c4 c5:Array Value),t2= .func (.func u) c4 c5/\(callable P u=true/\(Pure P u ((Array.toList c4)++([.agg #[.string c,.string d],.agg #[.string a,.string e]]:List Value)++(Array.toList c5)).toArray t3 fun t4 t5=>∃c6 c7,t4= .agg #[.string c6,.string c7]/\(Pure P 227 #[.agg #[.string c6,.string c7]] t5 fun t6 t7=>∃c8,t6= .string c8/\(R (.tuple #[.string c8,.int .i64 0]) t7))))))))))/\(((∀c9,Ext w.heap.size [] f c9->(Pure P 226 #[] c9 fun t8 d0=>∃(v:Option Nat),t8= .map v/\((RunOk P (Instr.lookup 230 (.map v) (.int .u8 b) false) w.heap.size [182,182] d0 fun t9 v0=>∃(x:Nat)(d1 d2:Array Value),t9= .func (.func x) d1 d2/\(callable P x=true/\(Pure P x ((Array.toList d1)++([.agg #[.string c,.string d],.agg #[.string a,.string e]]:List Value)++(Array.toList d2)).toArray v0 fun v1 v2=>∃d3 d4,v1= .agg #[.string d3,.string d4]/\(Pure P 227 #[.agg #[.string d3,.string d4]] v2 fun v3 v4=>∃d5,v3= .string d5/\(R (.tuple #[.string d5,.int .i64 0]) v4)))))/\(RunOk P (Instr.lookup 230 (.map v) (.int .u8 b) false) w.heap.size [182,182] d0 fun v5 v6=>∃(y:Nat)(d6 d7:Array Value),v5= .func (.func y) d6 d7/\(callable P y=true/\(Pure P y ((Array.toList d6)++([.agg #[.string c,.string d],.agg #[.string a,.string e]]:List Value)++(Array.toList d7)).toArray v6 fun v7 v8=>∃d8 d9,v7= .agg #[.string d8,.string d9]/\(Pure P 227 #[.agg #[.string d8,.string d9]] v8 fun v9 x0=>∃e0,v9= .string e0/\(R (.tuple #[.string e0,.int .i64 0]) x0))))))))/\(∀e1,Ext w.heap.size [] f e1->(Pure P 226 #[] e1 fun x1 x2=>∃(e2:Option Nat),x1= .map e2/\(RunOk P (Instr.lookup 230 (.map e2) (.int .u8 b) false) w.heap.size [182,182] x2 fun x3 x4=>∃(z:Nat)(e3 e4:Array Value),x3= .func (.func z) e3 e4/\(callable P z=true/\(Pure P z ((Array.toList e3)++([.agg #[.string c,.string d],.agg #[.string a,.string e]]:List Value)++(Array.toList e4)).toArray x4 fun x5 x6=>∃e5 e6,x5= .agg #[.string e5,.string e6]/\(Pure P 227 #[.agg #[.string e5,.string e6]] x6 fun x7 x8=>∃e7,x7= .string e7/\(R (.tuple #[.string e7,.int .i64 0]) x8))))))))/\((∀e8,Ext w.heap.size [] f e8->(Pure P 226 #[] e8 fun x9 e9=>∃(A:Option Nat),x9= .map A/\((RunOk P (Instr.lookup 230 (.map A) (.int .u8 b) false) w.heap.size [182,182] e9 fun y0 y1=>∃(C:Nat)(f0 f1:Array Value),y0= .func (.func C) f0 f1/\(callable P C=true/\(Pure P C ((Array.toList f0)++([.agg #[.string c,.string d],.agg #[.string a,.string e]]:List Value)++(Array.toList f1)).toArray y1 fun y2 y3=>∃f2 f3,y2= .agg #[.string f2,.string f3]/\(Pure P 227 #[.agg #[.string f2,.string f3]] y3 fun y4 y5=>∃f4,y4= .string f4/\(R (.tuple #[.string f4,.int .i64 0]) y5)))))/\(RunOk P (Instr.lookup 230 (.map A) (.int .u8 b) false) w.heap.size [182,182] e9 fun y6 y7=>∃(D:Nat)(f5 f6:Array Value),y6= .func (.func D) f5 f6/\(callable P D=true/\(Pure P D ((Array.toList f5)++([.agg #[.string c,.string d],.agg #[.string a,.string e]]:List Value)++(Array.toList f6)).toArray y7 fun y8 y9=>∃f7 f8,y8= .agg #[.string f7,.string f8]/\(Pure P 227 #[.agg #[.string f7,.string f8]] y9 fun z0 z1=>∃f9,z0= .string f9/\(R (.tuple #[.string f9,.int .i64 0]) z1))))))))/\(∀g0,Ext w.heap.size [] f g0->(Pure P 226 #[] g0 fun z2 z3=>∃(g1:Option Nat),z2= .map g1/\(RunOk P (Instr.lookup 230 (.map g1) (.int .u8 b) false) w.heap.size [182,182] z3 fun z4 z5=>∃(E:Nat)(g2 g3:Array Value),z4= .func (.func E) g2 g3/\(callable P E=true/\(Pure P E ((Array.toList g2)++([.agg #[.string c,.string d],.agg #[.string a,.string e]]:List Value)++(Array.toList g3)).toArray z5 fun z6 z7=>∃g4 g5,z6= .agg #[.string g4,.string g5]/\(Pure P 227 #[.agg #[.string g4,.string g5]] z7 fun z8 z9=>∃g6,z8= .string g6/\(R (.tuple #[.string g6,.int .i64 0]) z9)))))))))))))/\(¬(b=47)->((∀g7,Ext w.heap.size [] f g7->(Pure P 226 #[] g7 fun A0 m=>∃(i:Option Nat),A0= .map i/\((RunOk P (Instr.lookup 230 (.map i) (.int .u8 b) false) w.heap.size [182,182] m fun A1 g8=>∃(n:Nat)(G H:Array Value),A1= .func (.func n) G H/\((callable P n=true/\(Pure P n ((Array.toList G)++([.agg #[.string c,.string d],.agg #[.string a,.string e]]:List Value)++(Array.toList H)).toArray g8 fun A2 A3=>∃g9 j0,A2= .agg #[.string g9,.string j0]/\(Pure P 227 #[.agg #[.string g9,.string j0]] A3 fun A4 A5=>∃j1,A4= .string j1/\(R (.tuple #[.string j1,.int .i64 0]) A5))))/\(callable P n=true/\(Pure P n ((Array.toList G)++([.agg #[.string c,.string d],.agg #[.string a,.string e]]:List Value)++(Array.toList H)).toArray g8 fun A6 A7=>∃j2 j3,A6= .agg #[.string j2,.string j3]/\(Pure P 227 #[.agg #[.string j2,.string j3]] A7 fun A8 A9=>∃j4,A8= .string j4/\(R (.tuple #[.string j4,.int .i64 0]) A9))))))/\(((RunOk P (Instr.lookup 230 (.map i) (.int .u8 b) false) w.heap.size [182,182] m fun C0 C1=>∃(I:Nat)(j5 j6:Array Value),C0= .func (.func I) j5 j6/\(callable P I=true/\(Pure P I ((Array.toList j5)++([.agg #[.string c,.string d],.agg #[.string a,.string e]]:List Value)++(Array.toList j6)).toArray C1 fun C2 C3=>∃j7 j8,C2= .agg #[.string j7,.string j8]/\(Pure P 227 #[.agg #[.string j7,.string j8]] C3 fun C4 C5=>∃j9,C4= .string j9/\(R (.tuple #[.string j9,.int .i64 0]) C5)))))/\(RunOk P (Instr.lookup 230 (.map i) (.int .u8 b) false) w.heap.size [182,182] m fun C6 C7=>∃(J:Nat)(l0 l1:Array Value),C6= .func (.func J) l0 l1/\(callable P J=true/\(Pure P J ((Array.toList l0)++([.agg #[.string c,.string d],.agg #[.string a,.string e]]:List Value)++(Array.toList l1)).toArray C7 fun C8 C9=>∃l2 l3,C8= .agg #[.string l2,.string l3]/\(Pure P 227 #[.agg #[.string l2,.string l3]] C9 fun D0 D1=>∃l4,D0= .string l4/\(R (.tuple #[.string l4,.int .i64 0]) D1))))))/\((RunOk P (Instr.lookup 230 (.map i) (.int .u8 b) false) w.heap.size [182,182] m fun D2 D3=>∃(K:Nat)(l5 l6:Array Value),D2= .func (.func K) l5 l6/\(callable P K=true/\(Pure P K ((Array.toList l5)++([.agg #[.string c,.string d],.agg #[.string a,.string e]]:List Value)++(Array.toList l6)).toArray D3 fun D4 D5=>∃l7 l8,D4= .agg #[.string l7,.string l8]/\(Pure P 227 #[.agg #[.string l7,.string l8]] D5 fun D6 D7=>∃l9,D6= .string l9/\(R (.tuple #[.string l9,.int .i64 0]) D7)))))/\(RunOk P (Instr.lookup 230 (.map i) (.int .u8 b) false) w.heap.size [182,182] m fun D8 D9=>∃(L:Nat)(m0 m1:Array Value),D8= .func (.func L) m0 m1/\(callable P L=true/\(Pure P L ((Array.toList m0)++([.agg #[.string c,.string d],.agg #[.string a,.string e]]:List Value)++(Array.toList m1)).toArray D9 fun E0 E1=>∃m2 m3,E0= .agg #[.string m2,.string m3]/\(Pure P 227 #[.agg #[.string m2,.string m3]] E1 fun E2 E3=>∃m4,E2= .string m4/\(R (.tuple #[.string m4,.int .i64 0]) E3))))))))))/\(((∀m5,Ext w.heap.size [] f m5->(Pure P 226 #[] m5 fun E4 m6=>∃(M:Option Nat),E4= .map M/\((RunOk P (Instr.lookup 230 (.map M) (.int .u8 b) false) w.heap.size [182,182] m6 fun E5 E6=>∃(N:Nat)(m7 m8:Array Value),E5= .func (.func N) m7 m8/\(callable P N=true/\(Pure P N ((Array.toList m7)++([.agg #[.string c,.string d],.agg #[.string a,.string e]]:List Value)++(Array.toList m8)).toArray E6 fun E7 E8=>∃m9 n0,E7= .agg #[.string m9,.string n0]/\(Pure P 227 #[.agg #[.string m9,.string n0]] E8 fun E9 G0=>∃n1,E9= .string n1/\(R (.tuple #[.string n1,.int .i64 0]) G0)))))/\(RunOk P (Instr.lookup 230 (.map M) (.int .u8 b) false) w.heap.size [182,182] m6 fun G1 G2=>∃(O:Nat)(n2 n3:Array Value),G1= .func (.func O) n2 n3/\(callable P O=true/\(Pure P O ((Array.toList n2)++([.agg #[.string c,.string d],.agg #[.string a,.string e]]:List Value)++(Array.toList n3)).toArray G2 fun G3 G4=>∃n4 n5,G3= .agg #[.string n4,.string n5]/\(Pure P 227 #[.agg #[.string n4,.string n5]] G4 fun G5 G6=>∃n6,G5= .string n6/\(R (.tuple #[.string n6,.int .i64 0]) G6))))))))/\(∀n7,Ext w.heap.size [] f n7->(Pure P 226 #[] n7 fun G7 G8=>∃(n8:Option Nat),G7= .map n8/\(RunOk P (Instr.lookup 230 (.map n8) (.int .u8 b) false) w.heap.size [182,182] G8 fun G9 H0=>∃(Q:Nat)(n9 o0:Array Value),G9= .func (.func Q) n9 o0/\(callable P Q=true/\(Pure P Q ((Array.toList n9)++([.agg #[.string c,.string d],.agg #[.string a,.string e]]:List Value)++(Array.toList o0)).toArray H0 fun H1 H2=>∃o1 o2,H1= .agg #[.string o1,.string o2]/\(Pure P 227 #[.agg #[.string o1,.string o2]] H2 fun H3 H4=>∃o3,H3= .string o3/\(R (.tuple #[.string o3,.int .i64 0]) H4))))))))/\((∀o4,Ext w.heap.size [] f o4->(Pure P 226 #[] o4 fun H5 o5=>∃(S:Option Nat),H5= .map S/\((RunOk P (Instr.lookup 230 (.map S) (.int .u8 b) false) w.heap.size [182,182] o5 fun H6 H7=>∃(T:Nat)(o6 o7:Array Value),H6= .func (.func T) o6 o7/\(callable P T=true/\(Pure P T ((Array.toList o6)++([.agg #[.string c,.string d],.agg #[.string a,.string e]]:List Value)++(Array.toList o7)).toArray H7 fun H8 H9=>∃o8 o9,H8= .agg #[.string o8,.string o9]/\(Pure P 227 #[.agg #[.string o8,.string o9]] H9 fun I0 I1=>∃p0,I0= .string p0/\(R (.tuple #[.string p0,.int .i64 0]) I1)))))/\(RunOk P (Instr.lookup 230 (.map S) (.int .u8 b) false) w.heap.size [182,182] o5 fun I2 I3=>∃(U:Nat)(p1 p2:Array Value),I2= .func (.func U) p1 p2/\(callable P U=true/\(Pure P U ((Array.toList p1)++([.agg #[.string c,.string d],.agg #[.string a,.string e]]:List Value)++(Array.toList p2)).toArray I3 fun I4 I5=>∃p3 p4,I4= .agg #[.string p3,.string p4]/\(Pure P 227 #[.agg #[.string p3,.string p4]] I5 fun I6 I7=>∃p5,I6= .string p5/\(R (.tuple #[.string p5,.int .i64 0]) I7))))))))/\(∀p6,Ext w.heap.size [] f p6->(Pure P 226 #[] p6 fun I8 I9=>∃(p7:Option Nat),I8= .map p7/\(RunOk P (Instr.lookup 230 (.map p7) (.int .u8 b) false) w.heap.size [182,182] I9 fun J0 J1=>∃(V:Nat)(p8 p9:Array Value),J0= .func (.func V) p8 p9/\(callable P V=true/\(Pure P V ((Array.toList p8)++([.agg #[.string c,.string d],.agg #[.string a,.string e]]:List Value)++(Array.toList p9)).toArray J1 fun J2 J3=>∃q0 q1,J2= .agg #[.string q0,.string q1]/\(Pure P 227 #[.agg #[.string q0,.string q1]] J3 fun J4 J5=>∃q2,J4= .string q2/\(R (.tuple #[.string q2,.int .i64 0]) J5)))))))))))))))):
  Pure P 194 #[.int .u8 b,.string X,.string Y] w R:=
 pure_of_run (rational_apply.cx w w.heap.size R) 100000 follows Tryz.func194 rfl rfl rfl rfl rfl rfl rfl (Eq.mp (by kernel_rfl) h)

noncomputable def rational_divisor.cx(w:World)(B:Nat)(R:Value->World->Prop):Cx:=⟨Tryz.prog,214,21,Tryz.f214.results.toList,[],[],w,B,R⟩
theorem rational_divisor.vc(a b:ByteArray)(w:World)(R:Value->World->Prop)
  (h:(Pure P 242 #[.string a] w fun e f=>∃c g,e= .tuple #[.string c,.int .i64 g]/\(Pure P 243 #[.string c,.string b] f fun i j=>∃d l,i= .tuple #[.string d,.int .i64 l]/\(R (.string d) j)))):
  Pure P 214 #[.string a,.string b] w R:=
 pure_of_run (rational_divisor.cx w w.heap.size R) 100000 follows Tryz.func214 rfl rfl rfl rfl rfl rfl rfl (Eq.mp (by kernel_rfl) h)

noncomputable def rational_all.cx(w:World)(B:Nat)(R:Value->World->Prop):Cx:=⟨Tryz.prog,226,2,Tryz.f226.results.toList,[],[],w,B,R⟩
theorem rational_all.vc  (w:World)(R:Value->World->Prop)
  (h:(Pure P 249 #[] w fun b c=>∃(a:Option Nat),b= .map a/\(R (.map a) c))):
  Pure P 226 #[] w R:=
 pure_of_run (rational_all.cx w w.heap.size R) 100000 follows Tryz.func226 rfl rfl rfl rfl rfl rfl rfl (Eq.mp (by kernel_rfl) h)

noncomputable def rational_frac_text.cx(w:World)(B:Nat)(R:Value->World->Prop):Cx:=⟨Tryz.prog,227,14,Tryz.f227.results.toList,[],[],w,B,R⟩
theorem rational_frac_text.vc(a b:ByteArray)(w:World)(R:Value->World->Prop)
  (h:(((b=(⟨#[49]⟩:ByteArray))->(∀c,Ext w.heap.size [] w c->(R (.string a) c)))/\(¬(b=(⟨#[49]⟩:ByteArray))->(ByteArray.size a+ByteArray.size (⟨#[47]⟩:ByteArray)<=9223372036854775807/\(ByteArray.size (a++(⟨#[47]⟩:ByteArray))+ByteArray.size b<=9223372036854775807/\(∀d,Ext w.heap.size [] w d->(R (.string ((a++(⟨#[47]⟩:ByteArray))++b)) d))))))):
  Pure P 227 #[.agg #[.string a,.string b]] w R:=
 pure_of_run (rational_frac_text.cx w w.heap.size R) 100000 follows Tryz.func227 rfl rfl rfl rfl rfl rfl rfl (Eq.mp (by kernel_rfl) h)

noncomputable def rational_operations.cx(w:World)(B:Nat)(R:Value->World->Prop):Cx:=⟨Tryz.prog,249,3,Tryz.f249.results.toList,[],[(1,0,2),(1,1,2),(1,2,2),(1,3,2),(1,4,2)],w,B,R⟩
theorem rational_operations.vc  (w:World)(R:Value->World->Prop)
  (h:(RunOk P (Instr.makeMap 230 none) w.heap.size [] w fun b c=>∃(a:Option Nat),b= .map a/\(RunOkU Tryz.prog (Instr.mapUpdate 230 (.map a) (.int .u8 (43:Int)) (.func (.func 266) #[] #[])) w.heap.size [] c fun d=>(RunOkU Tryz.prog (Instr.mapUpdate 230 (.map a) (.int .u8 (42:Int)) (.func (.func 267) #[] #[])) w.heap.size [] d fun e=>(RunOkU Tryz.prog (Instr.mapUpdate 230 (.map a) (.int .u8 (45:Int)) (.func (.func 268) #[] #[])) w.heap.size [] e fun f=>(RunOkU Tryz.prog (Instr.mapUpdate 230 (.map a) (.int .u8 (47:Int)) (.func (.func 270) #[] #[])) w.heap.size [] f fun g=>(R (.map a) g))))))):
  Pure P 249 #[] w R:=
 pure_of_run (rational_operations.cx w w.heap.size R) 100000 follows Tryz.func249 rfl rfl rfl rfl rfl rfl rfl (Eq.mp (by kernel_rfl) h)

noncomputable def rational_plus.cx(w:World)(B:Nat)(R:Value->World->Prop):Cx:=⟨Tryz.prog,266,77,Tryz.f266.results.toList,[],[],w,B,R⟩
theorem rational_plus.vc(e a f b:ByteArray)(w:World)(R:Value->World->Prop)
  (h:(∀n,Ext w.heap.size [] w n->(Pure P 291 #[.agg #[.string e,.string a]] n fun I J=>∃g c j,I= .tuple #[.int .i64 g,.int .i64 c,.bool j]/\(Pure P 291 #[.agg #[.string f,.string b]] J fun K l=>∃i d m,K= .tuple #[.int .i64 i,.int .i64 d,.bool m]/\((j=true->((m=true->(inR .i64 (g*d)/\(inR .i64 (i*c)/\(inR .i64 ((g*d)+(i*c))/\(inR .i64 (c*d)/\(Pure P 292 #[(.int .i64 ((g*d)+(i*c))),(.int .i64 (c*d))] l fun L M=>∃o p,L= .agg #[.string o,.string p]/\(∀q,Ext w.heap.size [182] M q->(R (.agg #[.string o,.string p]) q))))))))/\(m=false->(Pure P 172 #[.string e,.string b] l fun N O=>∃r Q,N= .tuple #[.string r,.int .i64 Q]/\(Pure P 172 #[.string f,.string a] O fun S T=>∃s U,S= .tuple #[.string s,.int .i64 U]/\(Pure P 293 #[.string r,.string s] T fun V X=>∃t Y,V= .tuple #[.string t,.int .i64 Y]/\(Pure P 232 #[.string a,.string b] X fun Z a0=>∃u a1,Z= .tuple #[.string u,.int .i64 a1]/\(Pure P 294 #[.string t,.string u] a0 fun a2 a3=>∃v x,a2= .agg #[.string v,.string x]/\(∀y,Ext w.heap.size [182] a3 y->(R (.agg #[.string v,.string x]) y))))))))))/\(j=false->(Pure P 172 #[.string e,.string b] l fun a4 a5=>∃z a6,a4= .tuple #[.string z,.int .i64 a6]/\(Pure P 172 #[.string f,.string a] a5 fun a7 a8=>∃A a9,a7= .tuple #[.string A,.int .i64 a9]/\(Pure P 293 #[.string z,.string A] a8 fun b0 b1=>∃C b2,b0= .tuple #[.string C,.int .i64 b2]/\(Pure P 232 #[.string a,.string b] b1 fun b3 b4=>∃D b5,b3= .tuple #[.string D,.int .i64 b5]/\(Pure P 294 #[.string C,.string D] b4 fun b6 b7=>∃E G,b6= .agg #[.string E,.string G]/\(∀H,Ext w.heap.size [182] b7 H->(R (.agg #[.string E,.string G]) H))))))))))))):
  Pure P 266 #[.agg #[.string e,.string a],.agg #[.string f,.string b]] w R:=
 pure_of_run (rational_plus.cx w w.heap.size R) 100000 follows Tryz.func266 rfl rfl rfl rfl rfl rfl rfl (Eq.mp (by kernel_rfl) h)

noncomputable def rational_times.cx(w:World)(B:Nat)(R:Value->World->Prop):Cx:=⟨Tryz.prog,267,57,Tryz.f267.results.toList,[],[],w,B,R⟩
theorem rational_times.vc(a b c d:ByteArray)(w:World)(R:Value->World->Prop)
  (h:(∀n,Ext w.heap.size [] w n->(Pure P 291 #[.agg #[.string a,.string b]] n fun D E=>∃e f g,D= .tuple #[.int .i64 e,.int .i64 f,.bool g]/\(Pure P 291 #[.agg #[.string c,.string d]] E fun G i=>∃j l m,G= .tuple #[.int .i64 j,.int .i64 l,.bool m]/\((g=true->((m=true->(inR .i64 (e*j)/\(inR .i64 (f*l)/\(Pure P 292 #[(.int .i64 (e*j)),(.int .i64 (f*l))] i fun H I=>∃o p,H= .agg #[.string o,.string p]/\(∀q,Ext w.heap.size [182] I q->(R (.agg #[.string o,.string p]) q))))))/\(m=false->(Pure P 172 #[.string a,.string c] i fun J K=>∃r L,J= .tuple #[.string r,.int .i64 L]/\(Pure P 232 #[.string b,.string d] K fun M N=>∃s O,M= .tuple #[.string s,.int .i64 O]/\(Pure P 294 #[.string r,.string s] N fun Q S=>∃t u,Q= .agg #[.string t,.string u]/\(∀v,Ext w.heap.size [182] S v->(R (.agg #[.string t,.string u]) v))))))))/\(g=false->(Pure P 172 #[.string a,.string c] i fun T U=>∃x V,T= .tuple #[.string x,.int .i64 V]/\(Pure P 232 #[.string b,.string d] U fun X Y=>∃y Z,X= .tuple #[.string y,.int .i64 Z]/\(Pure P 294 #[.string x,.string y] Y fun a0 a1=>∃z A,a0= .agg #[.string z,.string A]/\(∀C,Ext w.heap.size [182] a1 C->(R (.agg #[.string z,.string A]) C))))))))))):
  Pure P 267 #[.agg #[.string a,.string b],.agg #[.string c,.string d]] w R:=
 pure_of_run (rational_times.cx w w.heap.size R) 100000 follows Tryz.func267 rfl rfl rfl rfl rfl rfl rfl (Eq.mp (by kernel_rfl) h)

noncomputable def rational_operations_c1.cx(w:World)(B:Nat)(R:Value->World->Prop):Cx:=⟨Tryz.prog,268,9,Tryz.f268.results.toList,[],[],w,B,R⟩
theorem rational_operations_c1.vc(a b c d:ByteArray)(w:World)(R:Value->World->Prop)
  (h:(∀e,Ext w.heap.size [] w e->(Pure P 269 #[.agg #[.string c,.string d]] e fun m n=>∃f g,m= .agg #[.string f,.string g]/\(Pure P 266 #[.agg #[.string a,.string b],.agg #[.string f,.string g]] n fun o p=>∃i j,o= .agg #[.string i,.string j]/\(∀l,Ext w.heap.size [182] p l->(R (.agg #[.string i,.string j]) l)))))):
  Pure P 268 #[.agg #[.string a,.string b],.agg #[.string c,.string d]] w R:=
 pure_of_run (rational_operations_c1.cx w w.heap.size R) 100000 follows Tryz.func268 rfl rfl rfl rfl rfl rfl rfl (Eq.mp (by kernel_rfl) h)

noncomputable def rational_opposite.cx(w:World)(B:Nat)(R:Value->World->Prop):Cx:=⟨Tryz.prog,269,15,Tryz.f269.results.toList,[],[],w,B,R⟩
theorem rational_opposite.vc(a b:ByteArray)(w:World)(R:Value->World->Prop)
  (h:(∀c,Ext w.heap.size [] w c->(Pure P 295 #[.string a] c fun f g=>∃d i,f= .tuple #[.string d,.int .i64 i]/\(∀e,Ext w.heap.size [182] g e->(R (.agg #[.string d,.string b]) e))))):
  Pure P 269 #[.agg #[.string a,.string b]] w R:=
 pure_of_run (rational_opposite.cx w w.heap.size R) 100000 follows Tryz.func269 rfl rfl rfl rfl rfl rfl rfl (Eq.mp (by kernel_rfl) h)

noncomputable def rational_frac_little.cx(w:World)(B:Nat)(R:Value->World->Prop):Cx:=⟨Tryz.prog,291,33,Tryz.f291.results.toList,[],[],w,B,R⟩
theorem rational_frac_little.vc(a b:ByteArray)(w:World)(R:Value->World->Prop)
  (h:(((((ByteArray.size a:Int):Int)>9)->(∀c,Ext w.heap.size [] w c->(R (.tuple #[.int .i64 0,.int .i64 0,.bool false]) c)))/\(¬(((ByteArray.size a:Int):Int)>9)->(((((ByteArray.size b:Int):Int)>9)->(∀d,Ext w.heap.size [] w d->(R (.tuple #[.int .i64 0,.int .i64 0,.bool false]) d)))/\(¬(((ByteArray.size b:Int):Int)>9)->(∀e,Ext w.heap.size [] w e->(Pure P 310 #[.string a,.int .i64 10,.int .i64 64] e fun i j=>∃(f:Int)(l:Value),i= .tuple #[.int .i64 f,l]/\(Pure P 310 #[.string b,.int .i64 10,.int .i64 64] j fun m n=>∃(g:Int)(o:Value),m= .tuple #[.int .i64 g,o]/\(R (.tuple #[.int .i64 f,.int .i64 g,.bool true]) n))))))))):
  Pure P 291 #[.agg #[.string a,.string b]] w R:=
 pure_of_run (rational_frac_little.cx w w.heap.size R) 100000 follows Tryz.func291 rfl rfl rfl rfl rfl rfl rfl (Eq.mp (by kernel_rfl) h)

def rational_of.L2(a b c d:Int)(e f:ByteArray)(B:Nat)(w:World)(R:Value->World->Prop):Prop:=At Tryz.prog 292 28 (loopAt Tryz.f292 2) [(0,.v (.int .i64 a)),(1,.v (.int .i64 b)),(4,.loc 4 0),(5,.v (.int .i64 c)),(6,.v (.int .i64 d))] [⟨4,false,182,[(.string e),(.string f)]⟩] B w R
noncomputable def rational_of.cx(w:World)(B:Nat)(R:Value->World->Prop):Cx:=⟨Tryz.prog,292,28,Tryz.f292.results.toList,[((true,2),[0,1,4,5,6],[4])],[(3,3,1),(5,2,1)],w,B,R⟩
theorem rational_of.L2.step(d c a b:Int)(e f:ByteArray)(B:Nat)(w:World)(R:Value->World->Prop)
  (h:(((b≠0)->(b≠0/\(∀g,Ext B [] w g->(rational_of.L2 d c b (Int.tmod a b) e f B g R))))/\(¬(b≠0)->(inR .i64 (-a)/\((if(-a)>a then(-a)else a)≠0/\((0<=c/\0<(if(-a)>a then(-a)else a)/\inR .i64 c)/\(∀i,Ext B [] w i->(Pure P 311 #[(.int .i64 (IntKind.wrap .i64 (Int.tdiv d (if(-a)>a then(-a)else a)))),.int .i64 10] i fun n o=>∃j,n= .string j/\(Pure P 311 #[(.int .i64 (c / (if(-a)>a then(-a)else a))),.int .i64 10] o fun p q=>∃l,p= .string l/\(∀m,Ext B [182] q m->(R (.agg #[.string j,.string l]) m))))))))))):
  rational_of.L2 d c a b e f B w R:=
 loop_of_run (rational_of.cx w B R) 100000 (loopAt Tryz.f292 2) _ _ follows Tryz.func292 rfl rfl rfl (Eq.mp (by kernel_rfl) h)
theorem rational_of.vc(a b:Int)(w:World)(R:Value->World->Prop)
  (h:(∀c,Ext w.heap.size [] w c->(rational_of.L2 a b a b (⟨#[]⟩:ByteArray) (⟨#[]⟩:ByteArray) w.heap.size c R))):
  Pure P 292 #[.int .i64 a,.int .i64 b] w R:=
 pure_of_run (rational_of.cx w w.heap.size R) 100000 follows Tryz.func292 rfl rfl rfl rfl rfl rfl rfl (Eq.mp (by kernel_rfl) h)

noncomputable def rational_lowest.cx(w:World)(B:Nat)(R:Value->World->Prop):Cx:=⟨Tryz.prog,294,28,Tryz.f294.results.toList,[],[],w,B,R⟩
theorem rational_lowest.vc(b c:ByteArray)(w:World)(R:Value->World->Prop)
  (h:(∀d,Ext w.heap.size [] w d->(Pure P 214 #[.string b,.string c] d fun l e=>∃a,l= .string a/\(((a≠(⟨#[49]⟩:ByteArray))->(Pure P 312 #[.string b,.string a] e fun m n=>∃f o p,m= .tuple #[.string f,.string o,.int .i64 p]/\(Pure P 313 #[.string c,.string a] n fun q r=>∃g s t,q= .tuple #[.string g,.string s,.int .i64 t]/\(∀i,Ext w.heap.size [182] r i->(R (.agg #[.string f,.string g]) i)))))/\(¬(a≠(⟨#[49]⟩:ByteArray))->(∀j,Ext w.heap.size [182] e j->(R (.agg #[.string b,.string c]) j))))))):
  Pure P 294 #[.string b,.string c] w R:=
 pure_of_run (rational_lowest.cx w w.heap.size R) 100000 follows Tryz.func294 rfl rfl rfl rfl rfl rfl rfl (Eq.mp (by kernel_rfl) h)

end Go.Proofs.YtgfkeadgjkfomaaGreatDoor.F

namespace Go.Proofs.YtgfkeadgjkfomaaGreatDoor.B
open Go Go.RowKit Go.Proofs Go.Proofs.YtgfkeadgjkfomaaGreatDoor.Vc

theorem index_slash(l:Tx):(47∈l->0<=Lib.index l [47]/\l.take (Lib.index l [47]).toNat=bef l/\l.drop ((Lib.index l [47]).toNat+1)=aft l)/\(47∉l->Lib.index l [47]= -1):=by
 induction l with
 |nil=>simp[Lib.index]
 |cons b r ih=>
  by_cases h:b=47
  ·subst h
   have e:Lib.index (47::r) [47]=0:=by simp[Lib.index]
   rw[e]
   simp[bef,aft]
  ·have h2:(47==b)=false:=by simpa using fun k=>h k.symm
   have e:Lib.index (b::r) [47]=if Lib.index r [47]== -1 then -1 else Lib.index r [47]+1:=by
    rw[Lib.index]
    simp[List.isPrefixOf,h2]
   constructor
   ·intro hm
    have hr:47∈r:=by
     rcases List.mem_cons.1 hm with k|k
     ·exact absurd k.symm h
     ·exact k
    obtain⟨h0,h1,h3⟩:=ih.1 hr
    have hne:¬(Lib.index r [47]== -1)=true:=by simp;omega
    rw[e,if_neg hne]
    obtain⟨m,hm2⟩:∃m:Nat,Lib.index r [47]=m:=⟨(Lib.index r [47]).toNat,by omega⟩
    rw[hm2]at h1 h3⊢
    have e2:((m:Int)+1).toNat=m+1:=by omega
    rw[e2]
    simp only[Int.toNat_natCast]at h1 h3
    refine⟨by omega,?_,?_⟩
    ·simp[bef,h,h1]
    ·simp[aft,h,h3]
   ·intro hm
    have hr:47∉r:=fun k=>hm (List.mem_cons_of_mem _ k)
    rw[e,ih.2 hr]
    rfl
theorem CutSlash{w:World}(hg:Glob w)(s:ByteArray)(hs:s.size<2147483648):
  Pure Tryz.prog 211 #[.string s,.string ⟨#[47]⟩] w fun v _=>
   (47∈by_ s->v= .tuple #[.string (st (bef (by_ s))),.string (st (aft (by_ s))),.bool true])/\(47∉by_ s->v= .tuple #[.string s,.string (st []),.bool false]):=by
 obtain⟨m,hm⟩:=hg.mx
 refine Calls.mono (Tryz.strings_Cut s ⟨#[47]⟩ m w (by omega) hm) ?_
 rintro e w' ⟨rfl,n,rfl⟩
 refine⟨_,rfl,?_,?_,?_⟩
 ·exact⟨rfl,rfl,rfl,Nat.le_refl _,fun _ _=>rfl⟩
 ·intro h
  obtain⟨h0,h1,h2⟩:=(index_slash (by_ s)).1 h
  have e:Lib.cut s.data.toList [47]=(bef (by_ s),aft (by_ s),true):=by
   show Lib.cut (by_ s) [47]=_
   unfold Lib.cut
   rw[if_pos h0]
   simp only[List.length_singleton]
   rw[h1,h2]
  show Value.tuple #[.string ⟨(Lib.cut s.data.toList [47]).1.toArray⟩,.string ⟨(Lib.cut s.data.toList [47]).2.1.toArray⟩,.bool (Lib.cut s.data.toList [47]).2.2]=_
  rw[e]
  rfl
 ·intro h
  have h0:=(index_slash (by_ s)).2 h
  have e:Lib.cut s.data.toList [47]=(by_ s,[],false):=by
   show Lib.cut (by_ s) [47]=_
   unfold Lib.cut
   rw[h0,if_neg (by omega)]
  show Value.tuple #[.string ⟨(Lib.cut s.data.toList [47]).1.toArray⟩,.string ⟨(Lib.cut s.data.toList [47]).2.1.toArray⟩,.bool (Lib.cut s.data.toList [47]).2.2]=_
  rw[e]
  rfl
theorem FormatInt10{w:World}(hg:Glob w)(z:Int)(h0: -9223372036854775808<=z)(h1:z<=9223372036854775807):
  Pure Tryz.prog 311 #[.int .i64 z,.int .i64 10] w fun v _=>v= .string (iS z):=by
 refine Calls.mono (Tryz.strconv_FormatInt_10 z h0 h1 w hg.tab) ?_
 rintro e w' ⟨rfl,k,os,rfl⟩
 exact⟨_,rfl,below_growN _ _ _,rfl⟩
theorem Itoa10{w:World}(hg:Glob w)(z:Int)(h0: -9223372036854775808<=z)(h1:z<=9223372036854775807):
  Pure Tryz.prog 169 #[.int .i64 z] w fun v _=>v= .string (iS z):=by
 refine Calls.mono (Tryz.strconv_Itoa z h0 h1 w hg.tab) ?_
 rintro e w' ⟨rfl,k,os,rfl⟩
 exact⟨_,rfl,below_growN _ _ _,rfl⟩
theorem parse_nat{n:Nat}(h:n<9223372036854775808):Lib.parseUintB 64 (natT n)= .ok n:=by
 have:=parseUintB_ok (B:=64) (l:=natT n) (by omega) (natT_ne n) (natT_all n) (by rw[natT_val];omega)
 rwa [natT_val]at this
theorem parse_int{z:Int}(h:z.natAbs<9223372036854775808):Lib.parseIntB 64 (intT z)= .ok z:=by
 have hp:=parse_nat h
 rw[intT_eq]
 split
 ·rename_i hz
  rw[Lib.parseIntB_minus,hp]
  simp only[Lib.signedC]
  rw[if_neg (by omega)]
  congr 1
  omega
 ·rename_i hz
  have hd:=natT_all z.natAbs
  cases hc:natT z.natAbs with
  |nil=>exact absurd hc (natT_ne _)
  |cons c r=>
   rw[hc]at hp hd
   simp only[List.all_cons,Bool.and_eq_true]at hd
   have:=hd.1
   simp only[dig,Bool.and_eq_true,decide_eq_true_eq]at this
   rw[Lib.parseIntB_plain 64 c r (by omega) (by omega),hp]
   simp only[Lib.signlessC]
   rw[if_neg (by omega)]
   congr 1
   omega
theorem ParseInt10(z:Int)(h:z.natAbs<9223372036854775808)(w:World):
  Pure Tryz.prog 310 #[.string (iS z),.int .i64 10,.int .i64 64] w fun v _=>v= .tuple #[.int .i64 z,.nilIface]:=by
 have hl:(iS z).size<=9223372036854775806:=by
  have:=intT_length_le (z:=z) (k:=19) (by omega) (by omega)
  show(intT z).length<=_
  omega
 refine Calls.mono (Tryz.strconv_ParseInt_10_at64_ok (iS z) hl z (parse_int h) w) ?_
 rintro e w' ⟨rfl,hw⟩
 refine⟨_,rfl,?_,rfl⟩
 rcases hw with rfl|⟨t,rfl⟩
 ·exact Below.refl _ _
 ·exact below_of_uint (.inr rfl)

abbrev fV(r:Rat):Value:= .agg #[.string (iS r.num),.string (nS r.den)]
abbrev Big(r:Rat):Prop:=Sm 100000 r
theorem Sm.nlim{k:Nat}{r:Rat}(h:Sm k r)(hk:k<=900000):r.num.natAbs<Lim:=lt_lim h.1 hk
theorem Sm.dlim{k:Nat}{r:Rat}(h:Sm k r)(hk:k<=900000):r.den<Lim:=lt_lim h.2 hk

theorem rational_divisor{w:World}{z:Int}{d:Nat}(hg:Glob w)(hz:z.natAbs<Lim)(hd:d<Lim):
  Pure Tryz.prog 214 #[.string (iS z),.string (nS d)] w fun v _=>v= .string (nS (Nat.gcd z.natAbs d)):=by
 refine F.rational_divisor.vc _ _ _ _ (Pure.mono (integer_Abs hz w) ?_)
 rintro v w2 hb rfl
 refine⟨_,_,rfl,Pure.mono (natural_GCD (hg.next hb) hz hd) ?_⟩
 rintro v w3 _ rfl
 exact⟨_,_,rfl,rfl⟩

theorem rational_lowest{w:World}{z:Int}{d:Nat}(hg:Glob w)(hz:z.natAbs<Lim)(hd:d<Lim)(hd0:d≠0):
  Pure Tryz.prog 294 #[.string (iS z),.string (nS d)] w fun v _=>v=fV (mkRat z d):=by
 obtain⟨e1,e2⟩:=mkRat_red (p:=z) hd0
 obtain⟨g,hgd⟩:∃g,g=Nat.gcd z.natAbs d:=⟨_,rfl⟩
 have hgp:g≠0:=by rw[hgd];intro k;exact hd0 (Nat.eq_zero_of_gcd_eq_zero_right k)
 have hgl:g<=d:=by rw[hgd];exact Nat.le_of_dvd (by omega) (Nat.gcd_dvd_right _ _)
 rw[<-hgd]at e1 e2
 refine F.rational_lowest.vc _ _ _ _ fun w1 x1=>Pure.mono (rational_divisor (hg.next (k0 x1)) hz hd) ?_
 rintro v w2 hb2 rfl
 have hb:=kP (k0 x1) hb2
 rw[<-hgd]
 refine⟨_,rfl,fun h=>Pure.mono (integer_DivMod (hg.next hb) hz (by omega) hgp) ?_,fun h w3 _=> ?_⟩
 ·rintro v w3 hb3 rfl
  refine⟨_,_,_,rfl,Pure.mono (natural_DivMod (hg.next (kP hb hb3)) hd (by omega) hgp) ?_⟩
  rintro v w4 _ rfl
  refine⟨_,_,_,rfl,fun w5 _=> ?_⟩
  rw[<-e1,<-e2]
 ·have h1:g=1:=by
   apply Decidable.byContradiction
   intro k
   rw[nS_1]at h
   exact h fun e=>k (nS_inj e)
  rw[h1]at e1 e2
  simp only[Int.natCast_one,Int.ediv_one,Nat.div_one]at e1 e2
  show _=fV _
  unfold fV
  rw[e1,e2]

theorem rational_read{w:World}(hg:Glob w)(s:ByteArray)(hs:s.size<=800000):
  Pure Tryz.prog 179 #[.string s] w fun v _=>∃p q,v= .tuple #[.agg #[.string p,.string q],.bool (isRat (by_ s))]/\(isRat (by_ s)=true->p=iS (valR (by_ s)).num/\q=nS (valR (by_ s)).den):=by
 refine F.rational_read.vc _ _ _ fun w1 x1=>Pure.mono (CutSlash (hg.next (k0 x1)) s (by omega)) ?_
 rintro v w2 hb2 ⟨hv1,hv2⟩
 have hb:=kP (k0 x1) hb2
 by_cases h47:47∈by_ s
 ·have hv:=hv1 h47
  subst hv
  obtain⟨e0,hnb⟩:=cut_eq h47
  have hle:(bef (by_ s)).length+(aft (by_ s)).length+1=s.size:=by
   have:=congrArg List.length e0
   rw[size_by]
   simp at this
   omega
  have hlp:(st (bef (by_ s))).size=(bef (by_ s)).length:=rfl
  have hlq:(st (aft (by_ s))).size=(aft (by_ s)).length:=rfl
  have fin:∀(b:Bool),b=isRat (by_ s)->∃p q,Value.tuple #[.agg #[.string (st (bef (by_ s))),.string (st (aft (by_ s)))],.bool b]=Value.tuple #[.agg #[.string p,.string q],.bool (isRat (by_ s))]/\(isRat (by_ s)=true->p=iS (valR (by_ s)).num/\q=nS (valR (by_ s)).den):=by
   intro b hbb
   refine⟨_,_,by rw[hbb],fun hi=> ?_⟩
   have e:=ratT_of hi
   obtain⟨r,hr⟩:∃r,r=valR (by_ s):=⟨_,rfl⟩
   rw[<-hr]at e⊢
   rw[<-e]at h47⊢
   unfold ratT at h47⊢
   split at h47
   ·exact absurd h47 (not47_int _)
   ·rename_i hden
    rw[if_neg hden,bef_app (not47_int _),aft_app (not47_int _)]
    exact⟨rfl,rfl⟩
  have hrat:isRat (by_ s)=(isInt (bef (by_ s))&&bef (by_ s) !=[48]&&isNat (aft (by_ s))&&aft (by_ s) !=[48]&&aft (by_ s) !=[49]&&Nat.gcd (valI (bef (by_ s))).natAbs (valD (aft (by_ s)))==1):=by
   unfold isRat
   rw[if_pos h47]
  have ne48:∀l:Tx,st l≠(⟨#[48]⟩:ByteArray)↔l≠[48]:=fun l=>⟨fun h k=>h (by rw[k];rfl),fun h k=>h (st_inj (k.trans rfl:st l=st [48]))⟩
  have ne49:∀l:Tx,st l≠(⟨#[49]⟩:ByteArray)↔l≠[49]:=fun l=>⟨fun h k=>h (by rw[k];rfl),fun h k=>h (st_inj (k.trans rfl:st l=st [49]))⟩
  refine⟨_,_,_,rfl,fun h=>(by cases h),fun _=>Pure.mono (integer_Valid _ (by omega) _) ?_⟩
  rintro v w3 hb3 rfl
  rw[by_st]
  refine⟨_,rfl,fun h1=>⟨fun h2=>Pure.mono (natural_Valid _ (by omega) _) ?_,fun h2 w4 _=>fin _ ?_⟩,fun h1 w4 _=>fin _ ?_⟩
  ·rintro v w4 hb4 rfl
   rw[by_st]
   rw[ne48]at h2
   refine⟨_,rfl,fun h3=>⟨fun h4=>⟨fun h5=> ?_,fun h5 w5 _=>fin _ ?_⟩,fun h4 w5 _=>fin _ ?_⟩,fun h3 w5 _=>fin _ ?_⟩
   ·rw[ne48]at h4
    rw[ne49]at h5
    have ep:st (bef (by_ s))=iS (valI (bef (by_ s))):=by unfold iS;rw[intT_of h1]
    have eq:st (aft (by_ s))=nS (valD (aft (by_ s))):=by unfold nS;rw[natT_of h3]
    have lp:(valI (bef (by_ s))).natAbs<Lim:=by
     have:=lt_intT (valI (bef (by_ s)))
     rw[intT_of h1]at this
     exact lt_lim this (by omega)
    have lq:valD (aft (by_ s))<Lim:=by
     have:=lt_natT (valD (aft (by_ s)))
     rw[natT_of h3]at this
     exact lt_lim this (by omega)
    have hc:=rational_divisor (hg.next (kP (kP hb hb3) hb4)) lp lq
    rw[<-ep,<-eq]at hc
    refine Pure.mono hc ?_
    rintro v w5 _ rfl
    refine⟨_,rfl,fun w6 _=>fin _ ?_⟩
    rw[hrat,h1,h3,nS_1]
    have a2:(bef (by_ s) !=[48])=true:=by simpa using h2
    have a4:(aft (by_ s) !=[48])=true:=by simpa using h4
    have a5:(aft (by_ s) !=[49])=true:=by simpa using h5
    rw[a2,a4,a5]
    simp only[Bool.true_and,nS_iff]
    rfl
   ·have:aft (by_ s)=[49]:=by apply Decidable.byContradiction;intro k;exact h5 ((ne49 _).2 k)
    rw[hrat,this];simp
   ·have:aft (by_ s)=[48]:=by apply Decidable.byContradiction;intro k;exact h4 ((ne48 _).2 k)
    rw[hrat,this];simp
   ·rw[hrat,h3];simp
  ·have:bef (by_ s)=[48]:=by apply Decidable.byContradiction;intro k;exact h2 ((ne48 _).2 k)
   rw[hrat,this];simp
  ·rw[hrat,h1];simp
 ·have hv:=hv2 h47
  subst hv
  have hrat:isRat (by_ s)=isInt (by_ s):=by unfold isRat;rw[if_neg h47]
  refine⟨_,_,_,rfl,fun _=>Pure.mono (integer_Valid _ (by omega) _) ?_,fun h=>by simp at h⟩
  rintro v w3 hb3 rfl
  refine⟨_,rfl,fun w4 _=>⟨_,_,by rw[hrat],fun hi=> ?_⟩⟩
  have hv:valR (by_ s)=(valI (by_ s):Rat):=by unfold valR;rw[if_neg h47]
  rw[hrat]at hi
  have e1:((valI (by_ s):Rat)).num=valI (by_ s):=rfl
  have e2:((valI (by_ s):Rat)).den=1:=rfl
  rw[hv,e1,e2]
  refine⟨?_,nS_1⟩
  unfold iS
  rw[intT_of hi]
  rfl

theorem Big.size{r:Rat}(h:Big r):(rS r).size<=800000:=by
 have:=h.length (by omega)
 show(ratT r).length<=_
 omega
theorem rational_read_ok{w:World}{r:Rat}(hg:Glob w)(h:Big r):Pure Tryz.prog 179 #[.string (rS r)] w fun v _=>v= .tuple #[fV r,.bool true]:=by
 refine Pure.mono (rational_read hg _ h.size) ?_
 rintro v w2 _ ⟨p,q,rfl,hv⟩
 rw[by_rS,ratT_isRat,ratT_val]at*
 obtain⟨rfl,rfl⟩:=hv rfl
 rfl
theorem rational_Valid{w:World}(hg:Glob w)(s:ByteArray)(hs:s.size<=800000):Pure Tryz.prog 150 #[.string s] w fun v _=>v= .bool (isRat (by_ s)):=by
 refine F.rational_Valid.vc _ _ _ (Pure.mono (rational_read hg s hs) ?_)
 rintro v w2 _ ⟨p,q,rfl,_⟩
 exact⟨_,_,_,rfl,fun w3 _=>rfl⟩
theorem rational_both{w:World}{x y:Rat}(hg:Glob w)(hx:Big x)(hy:Big y):
  Pure Tryz.prog 170 #[.string (rS x),.string (rS y)] w fun v _=>v= .tuple #[fV x,fV y,.int .i64 0]:=by
 refine F.rational_both.vc _ _ _ _ fun w1 x1=>Pure.mono (rational_read_ok (hg.next (k0 x1)) hx) ?_
 rintro v w2 hb2 rfl
 refine⟨_,_,_,rfl,fun w3 x3=>Pure.mono (rational_read_ok (hg.next (kE (kP (k0 x1) hb2) x3)) hy) ?_⟩
 rintro v w4 _ rfl
 exact⟨_,_,_,rfl,fun h=>(by simp at h),fun _=>⟨fun h=>(by simp at h),fun _=>⟨fun w5 _=>rfl,fun w5 _=>rfl⟩⟩⟩

theorem rational_text{r:Rat}(h:Sm 300000 r)(w:World):Pure Tryz.prog 227 #[fV r] w fun v _=>v= .string (rS r):=by
 have l1:(iS r.num).size<=300001:=h.int (by omega)
 have l2:(nS r.den).size<=300000:=h.nat (by omega)
 refine F.rational_frac_text.vc _ _ _ _ ⟨fun h1 w1 _=> ?_,fun h1=>⟨?_,?_,fun w1 _=> ?_⟩⟩
 ·rw[nS_1]at h1
  have:=nS_inj h1
  unfold rS ratT
  rw[if_pos this];rfl
 ·show _+1<=_
  omega
 ·rw[ByteArray.size_append]
  show _+1+_<=_
  omega
 ·rw[nS_1]at h1
  have h2:r.den≠1:=fun k=>h1 (by rw[k])
  have e:rS r=st (intT r.num++47::natT r.den):=by unfold rS ratT;rw[if_neg h2]
  rw[e]
  congr 1
  apply by_inj
  simp[by_,st,iS,nS,ByteArray.data_append]

theorem rational_sign{r:Rat}(h:Big r)(w:World):Pure Tryz.prog 171 #[fV r] w fun v _=>v= .int .i64 (cmpR r 0):=by
 refine F.rational_frac_sign.vc _ _ _ _ fun w1 _=>Pure.mono (integer_Sign (h.nlim (by omega)) _) ?_
 rintro v w2 _ rfl
 refine⟨_,_,rfl,?_⟩
 rw[num_sign]
theorem rational_opposite{r:Rat}(h:Big r)(w:World):Pure Tryz.prog 269 #[fV r] w fun v _=>v=fV (-r):=by
 refine F.rational_opposite.vc _ _ _ _ fun w1 _=>Pure.mono (integer_Neg (h.nlim (by omega)) _) ?_
 rintro v w2 _ rfl
 exact⟨_,_,rfl,fun w3 _=>rfl⟩

theorem rational_little{r:Rat}(h:Big r)(w:World):
  Pure Tryz.prog 291 #[fV r] w fun v _=>v= .tuple #[.int .i64 0,.int .i64 0,.bool false]∨(v= .tuple #[.int .i64 r.num,.int .i64 (r.den:Int),.bool true]/\r.num.natAbs<1000000000/\r.den<1000000000):=by
 refine F.rational_frac_little.vc _ _ _ _ ⟨fun _ w1 _=> .inl rfl,fun h1=>⟨fun _ w1 _=> .inl rfl,fun h2 w1 _=> ?_⟩⟩
 have l1:=lt_intT r.num
 have l2:=lt_natT r.den
 have e1:(iS r.num).size=(intT r.num).length:=rfl
 have e2:(nS r.den).size=(natT r.den).length:=rfl
 have p1:10^(intT r.num).length<=10^9:=Nat.pow_le_pow_right (by omega) (by omega)
 have p2:10^(natT r.den).length<=10^9:=Nat.pow_le_pow_right (by omega) (by omega)
 refine Pure.mono (ParseInt10 r.num (by omega) _) ?_
 rintro v w2 _ rfl
 refine⟨_,_,rfl,?_⟩
 rw[<-iS_nat]
 refine Pure.mono (ParseInt10 (r.den:Int) (by omega) _) ?_
 rintro v w3 _ rfl
 exact⟨_,_,rfl,.inr ⟨rfl,by omega,by omega⟩⟩

theorem of_L2{w0:World}(hg:Glob w0){p:Int}{q:Nat}{R:Value->World->Prop}(hp:p.natAbs<9000000000000000000)(hq0:q≠0)(hq:q<9000000000000000000)(hR:∀w,R (fV (mkRat p q)) w):
  ∀(n:Nat)(b a:Int)(s t:ByteArray)(w:World),b.natAbs<=n->Below w0.heap.size w0 w->Nat.gcd a.natAbs b.natAbs=Nat.gcd p.natAbs q->a.natAbs<9000000000000000000->b.natAbs<9000000000000000000->F.rational_of.L2 p q a b s t w0.heap.size w R:=by
 obtain⟨e1,e2⟩:=mkRat_red (p:=p) hq0
 obtain⟨g,hgd⟩:∃g,g=Nat.gcd p.natAbs q:=⟨_,rfl⟩
 have hgp:g≠0:=by rw[hgd];intro k;exact hq0 (Nat.eq_zero_of_gcd_eq_zero_right k)
 have hdv:(g:Int)∣p:=by rw[hgd];exact Int.ofNat_dvd_left.2 (Nat.gcd_dvd_left _ _)
 rw[<-hgd]at e1 e2⊢
 intro n
 induction n with
 |zero=>
  intro b a s t w hb hbw hgc ha hbl
  have hb0:b=0:=by omega
  subst hb0
  rw[Int.natAbs_zero,Nat.gcd_zero_right]at hgc
  refine F.rational_of.L2.step _ _ _ _ _ _ _ _ _ ⟨fun h=>absurd rfl h,fun _=> ?_⟩
  have eg:(if(-a)>a then(-a)else a)=(g:Int):=by split<;>omega
  rw[eg]
  have hq1:(p / (g:Int)).natAbs<=p.natAbs:=Int.natAbs_ediv_le_natAbs _ _
  have hq2:=Nat.div_le_self q g
  have et:Int.tdiv p (g:Int)=p / (g:Int):=Int.tdiv_eq_ediv_of_dvd hdv
  have ew:IntKind.wrap .i64 (Int.tdiv p (g:Int))=p / (g:Int):=by rw[et];exact wrap64 (by simp only[inR];omega)
  refine⟨by simp only[inR];omega,by omega,⟨by omega,by omega,by simp only[inR];omega⟩,fun w1 x1=> ?_⟩
  rw[ew]
  have hb1:=kE hbw x1
  refine Pure.mono (FormatInt10 (hg.next hb1) _ (by omega) (by omega)) ?_
  rintro v w2 hb2 rfl
  have ed:(q:Int) / (g:Int)=((q / g:Nat):Int):=by simp
  refine⟨_,rfl,?_⟩
  rw[ed]
  refine Pure.mono (FormatInt10 (hg.next (kP hb1 hb2)) _ (by omega) (by omega)) ?_
  rintro v w3 _ rfl
  refine⟨_,rfl,fun w4 _=> ?_⟩
  have:=hR w4
  rw[iS_nat,<-e1,<-e2]
  exact this
 |succ n ih=>
  intro b a s t w hb hbw hgc ha hbl
  by_cases hb0:b=0
  ·exact ih b a s t w (by omega) hbw hgc ha hbl
  refine F.rational_of.L2.step _ _ _ _ _ _ _ _ _ ⟨fun _=>⟨hb0,fun w1 x1=> ?_⟩,fun h=>absurd hb0 h⟩
  have hml:=Nat.mod_lt a.natAbs (show 0<b.natAbs by omega)
  have etm:(Int.tmod a b).natAbs=a.natAbs % b.natAbs:=Int.natAbs_tmod _ _
  have hgc2:Nat.gcd b.natAbs (a.natAbs % b.natAbs)=g:=by rw[Nat.gcd_comm,<-Nat.gcd_rec,Nat.gcd_comm];exact hgc
  exact ih (Int.tmod a b) b s t w1 (by omega) (kE hbw x1) (by rw[etm];exact hgc2) hbl (by omega)

theorem rational_of{w:World}(hg:Glob w){p:Int}{q:Nat}(hp:p.natAbs<9000000000000000000)(hq0:q≠0)(hq:q<9000000000000000000):
  Pure Tryz.prog 292 #[.int .i64 p,.int .i64 (q:Int)] w fun v _=>v=fV (mkRat p q):=
 F.rational_of.vc _ _ _ _ fun w1 x1=>of_L2 hg hp hq0 hq (fun _=>rfl) _ (q:Int) p _ _ w1 (Nat.le_refl _) (k0 x1) (by simp) hp (by simpa using hq)

theorem mul9{a b:Nat}(ha:a<1000000000)(hb:b<1000000000):a*b<1000000000000000000:=Nat.mul_lt_mul'' ha hb
theorem abs_mul9{a b:Int}(ha:a.natAbs<1000000000)(hb:b.natAbs<1000000000):(a*b).natAbs<1000000000000000000:=by
 rw[Int.natAbs_mul]
 exact mul9 ha hb

theorem rational_plus{w:World}{x y:Rat}(hg:Glob w)(hx:Big x)(hy:Big y):
  Pure Tryz.prog 266 #[fV x,fV y] w fun v _=>v=fV (x+y):=by
 have ex:=Rat.add_def' x y
 have hd0:=den_mul_ne x y
 have n1:=mul_lt_pow hx.1 hy.2
 have n2:=mul_lt_pow hy.1 hx.2
 have a1:(x.num*(y.den:Int)).natAbs=x.num.natAbs*y.den:=by rw[Int.natAbs_mul,Int.natAbs_natCast]
 have a2:(y.num*(x.den:Int)).natAbs=y.num.natAbs*x.den:=by rw[Int.natAbs_mul,Int.natAbs_natCast]
 have m1:(x.num*(y.den:Int)).natAbs<Lim:=by rw[a1];exact lt_lim n1 (by omega)
 have m2:(y.num*(x.den:Int)).natAbs<Lim:=by rw[a2];exact lt_lim n2 (by omega)
 have m3:(x.num*(y.den:Int)+y.num*(x.den:Int)).natAbs<Lim:=lt_lim (add_num_lt hx hy) (by omega)
 have m4:x.den*y.den<Lim:=lt_lim (den_mul_lt hx hy) (by omega)
 have long:∀w',Below w.heap.size w w'->Pure Tryz.prog 172 #[.string (iS x.num),.string (nS y.den)] w' fun r w41=>∃(s38:ByteArray)(i39:Int),r=(.tuple #[(.string s38),(.int .i64 i39)])/\(Pure Tryz.prog 172 #[(.string (iS y.num)),(.string (nS x.den))] w41 fun r44 w45=>∃(s42:ByteArray)(i43:Int),r44=(.tuple #[(.string s42),(.int .i64 i43)])/\(Pure Tryz.prog 293 #[(.string s38),(.string s42)] w45 fun r48 w49=>∃(s46:ByteArray)(i47:Int),r48=(.tuple #[(.string s46),(.int .i64 i47)])/\(Pure Tryz.prog 232 #[(.string (nS x.den)),(.string (nS y.den))] w49 fun r52 w53=>∃(s50:ByteArray)(i51:Int),r52=(.tuple #[(.string s50),(.int .i64 i51)])/\(Pure Tryz.prog 294 #[(.string s46),(.string s50)] w53 fun r56 w57=>∃(s54:ByteArray)(s55:ByteArray),r56=(.agg #[(.string s54),(.string s55)])/\(∀w58,Ext w.heap.size [182] w57 w58->(Value.agg #[(.string s54),(.string s55)]=fV (x+y))))))):=by
  intro w1 hb1
  rw[<-iS_nat y.den]
  refine Pure.mono (integer_Mul (hg.next hb1) (hx.nlim (by omega)) (by rw[Int.natAbs_natCast];exact hy.dlim (by omega)) m1) ?_
  rintro v w2 k2 rfl
  have hb2:=kP hb1 k2
  refine⟨_,_,rfl,?_⟩
  rw[<-iS_nat x.den]
  refine Pure.mono (integer_Mul (hg.next hb2) (hy.nlim (by omega)) (by rw[Int.natAbs_natCast];exact hx.dlim (by omega)) m2) ?_
  rintro v w3 k3 rfl
  have hb3:=kP hb2 k3
  refine⟨_,_,rfl,Pure.mono (integer_Add (hg.next hb3) m1 m2 m3) ?_⟩
  rintro v w4 k4 rfl
  have hb4:=kP hb3 k4
  refine⟨_,_,rfl,?_⟩
  rw[iS_nat,iS_nat]
  refine Pure.mono (natural_Mul (hg.next hb4) (hx.dlim (by omega)) (hy.dlim (by omega))) ?_
  rintro v w5 k5 rfl
  have hb5:=kP hb4 k5
  refine⟨_,_,rfl,Pure.mono (rational_lowest (hg.next hb5) m3 m4 hd0) ?_⟩
  rintro v w6 k6 rfl
  refine⟨_,_,rfl,fun w7 _=> ?_⟩
  rw[<-ex]
 refine F.rational_plus.vc _ _ _ _ _ _ fun w1 x1=>Pure.mono (rational_little hx _) ?_
 rintro v w2 k2 hv
 have hb2:=kP (k0 x1) k2
 rcases hv with rfl|⟨rfl,p1,p2⟩
 ·refine⟨_,_,_,rfl,Pure.mono (rational_little hy _) ?_⟩
  rintro v w3 k3 hv
  have hb3:=kP hb2 k3
  rcases hv with rfl|⟨rfl,_⟩
  ·exact⟨_,_,_,rfl,fun h=>(by cases h),fun _=>long w3 hb3⟩
  ·exact⟨_,_,_,rfl,fun h=>(by cases h),fun _=>long w3 hb3⟩
 ·refine⟨_,_,_,rfl,Pure.mono (rational_little hy _) ?_⟩
  rintro v w3 k3 hv
  have hb3:=kP hb2 k3
  rcases hv with rfl|⟨rfl,q1,q2⟩
  ·exact⟨_,_,_,rfl,fun _=>⟨fun h=>(by cases h),fun _=>long w3 hb3⟩,fun h=>(by cases h)⟩
  ·have b1:=mul9 p1 q2
   have b2:=mul9 q1 p2
   have b3:=mul9 p2 q2
   have e3:(x.den:Int)*(y.den:Int)=((x.den*y.den:Nat):Int):=by simp
   refine⟨_,_,_,rfl,fun _=>⟨fun _=>⟨by simp only[inR];omega,by simp only[inR];omega,by simp only[inR];omega,by rw[e3];simp only[inR];omega,?_⟩,fun h=>(by cases h)⟩,fun h=>(by cases h)⟩
   rw[e3]
   refine Pure.mono (rational_of (hg.next hb3) (by omega) hd0 (by omega)) ?_
   rintro v w4 _ rfl
   refine⟨_,_,rfl,fun w5 _=> ?_⟩
   rw[<-ex]

theorem rational_times{w:World}{x y:Rat}(hg:Glob w)(hx:Big x)(hy:Big y):
  Pure Tryz.prog 267 #[fV x,fV y] w fun v _=>v=fV (x*y):=by
 have ex:=Rat.mul_def' x y
 have hd0:=den_mul_ne x y
 have a1:(x.num*y.num).natAbs=x.num.natAbs*y.num.natAbs:=Int.natAbs_mul _ _
 have m1:(x.num*y.num).natAbs<Lim:=by rw[a1];exact lt_lim (mul_lt_pow hx.1 hy.1) (by omega)
 have m4:x.den*y.den<Lim:=lt_lim (den_mul_lt hx hy) (by omega)
 have long:∀w',Below w.heap.size w w'->Pure Tryz.prog 172 #[.string (iS x.num),.string (iS y.num)] w' fun r w41=>∃(s38:ByteArray)(i39:Int),r=(.tuple #[(.string s38),(.int .i64 i39)])/\(Pure Tryz.prog 232 #[(.string (nS x.den)),(.string (nS y.den))] w41 fun r52 w53=>∃(s50:ByteArray)(i51:Int),r52=(.tuple #[(.string s50),(.int .i64 i51)])/\(Pure Tryz.prog 294 #[(.string s38),(.string s50)] w53 fun r56 w57=>∃(s54:ByteArray)(s55:ByteArray),r56=(.agg #[(.string s54),(.string s55)])/\(∀w58,Ext w.heap.size [182] w57 w58->(Value.agg #[(.string s54),(.string s55)]=fV (x*y))))):=by
  intro w1 hb1
  refine Pure.mono (integer_Mul (hg.next hb1) (hx.nlim (by omega)) (hy.nlim (by omega)) m1) ?_
  rintro v w4 k4 rfl
  have hb4:=kP hb1 k4
  refine⟨_,_,rfl,Pure.mono (natural_Mul (hg.next hb4) (hx.dlim (by omega)) (hy.dlim (by omega))) ?_⟩
  rintro v w5 k5 rfl
  have hb5:=kP hb4 k5
  refine⟨_,_,rfl,Pure.mono (rational_lowest (hg.next hb5) m1 m4 hd0) ?_⟩
  rintro v w6 k6 rfl
  refine⟨_,_,rfl,fun w7 _=> ?_⟩
  rw[<-ex]
 refine F.rational_times.vc _ _ _ _ _ _ fun w1 x1=>Pure.mono (rational_little hx _) ?_
 rintro v w2 k2 hv
 have hb2:=kP (k0 x1) k2
 rcases hv with rfl|⟨rfl,p1,p2⟩
 ·refine⟨_,_,_,rfl,Pure.mono (rational_little hy _) ?_⟩
  rintro v w3 k3 hv
  have hb3:=kP hb2 k3
  rcases hv with rfl|⟨rfl,_⟩
  ·exact⟨_,_,_,rfl,fun h=>(by cases h),fun _=>long w3 hb3⟩
  ·exact⟨_,_,_,rfl,fun h=>(by cases h),fun _=>long w3 hb3⟩
 ·refine⟨_,_,_,rfl,Pure.mono (rational_little hy _) ?_⟩
  rintro v w3 k3 hv
  have hb3:=kP hb2 k3
  rcases hv with rfl|⟨rfl,q1,q2⟩
  ·exact⟨_,_,_,rfl,fun _=>⟨fun h=>(by cases h),fun _=>long w3 hb3⟩,fun h=>(by cases h)⟩
  ·have b1:=abs_mul9 p1 q1
   have b3:=mul9 p2 q2
   have e3:(x.den:Int)*(y.den:Int)=((x.den*y.den:Nat):Int):=by simp
   refine⟨_,_,_,rfl,fun _=>⟨fun _=>⟨by simp only[inR];omega,by rw[e3];simp only[inR];omega,?_⟩,fun h=>(by cases h)⟩,fun h=>(by cases h)⟩
   rw[e3]
   refine Pure.mono (rational_of (hg.next hb3) (by omega) hd0 (by omega)) ?_
   rintro v w4 _ rfl
   refine⟨_,_,rfl,fun w5 _=> ?_⟩
   rw[<-ex]

theorem setMap_below{w:World}{B r:Nat}(o:Obj)(hr:B<=r):Below B w {w with heap:=w.heap.setIfInBounds r o}:=
 ⟨rfl,rfl,rfl,by simp,fun k hk=>by simp[Array.getElem?_setIfInBounds,show r≠k by omega]⟩
theorem runU_map{w:World}{B r:Nat}{es:Array MapEntry}{clock:Nat}{key:Int}{val:Value}{K:World->Prop}(hb:w.heap[r]? =some (.map es clock))(hB:B<=r)
  (hf:Instr.findNow (.int .u8) (.int .u8 key) es.toList 0=some none) (hK:∀w',w'.heap[r]? =some (.map (es.push {key:= .int .u8 key,val:=val,born:=clock}) (clock+1))->K w'):
  RunOkU Tryz.prog (Instr.mapUpdate 230 (.map (some r)) (.int .u8 key) val) B [] w K:=by
 have hm:=Tryz.underlying230
 have hk:=Tryz.underlying5
 have hc:(Instr.checkKey false 10000 5 (.int .u8 key)).run Tryz.prog w= .ok () w:=MapKept.run_checkKey hk (by simp[MapKept.IsKey]) false 9999
 refine⟨{w with heap:=w.heap.setIfInBounds r (.map (es.push {key:= .int .u8 key,val:=val,born:=clock}) (clock+1))},?_,setMap_below _ hB,by simp,fun k ty cs h=>(by cases h),hK _ ?_⟩
 ·simp[Instr.mapUpdate,run_underlying hm,MapKept.run_getObj_map hb,hc,MapKept.run_findKey hk hf,MapKept.run_setObj_map _ hb,Result.andThen]
 ·have:=(Array.getElem?_eq_some_iff.1 hb).1
  simp[Array.getElem?_setIfInBounds,this]

def opMap:Array MapEntry:= #[{key:= .int .u8 43,val:= .func (.func 266) #[] #[],born:=0},{key:= .int .u8 42,val:= .func (.func 267) #[] #[],born:=1},
 {key:= .int .u8 45,val:= .func (.func 268) #[] #[],born:=2},{key:= .int .u8 47,val:= .func (.func 270) #[] #[],born:=3}]

theorem rational_operations(w:World):Pure Tryz.prog 249 #[] w fun v w'=>∃r,v= .map (some r)/\w'.heap[r]? =some (.map opMap 4):=by
 have hg:=World.grownBy_alloc w (.map #[] 0) none
 refine F.rational_operations.vc _ _ ⟨_,_,(by simp[Instr.makeMap]:(Instr.makeMap 230 none).run Tryz.prog w= .ok (.map (some w.heap.size)) (w.alloc (.map #[] 0))),below_grown hg (by simp) (Nat.le_refl _),hg.size,fun k ty cs h=>(by cases h),_,rfl,?_⟩
 refine runU_map (World.alloc_heap_new w _) (Nat.le_refl _) rfl fun w2 h2=> ?_
 refine runU_map h2 (Nat.le_refl _) rfl fun w3 h3=> ?_
 refine runU_map h3 (Nat.le_refl _) rfl fun w4 h4=> ?_
 refine runU_map h4 (Nat.le_refl _) rfl fun w5 h5=> ?_
 exact⟨_,rfl,h5⟩
theorem rational_all(w:World):Pure Tryz.prog 226 #[] w fun v w'=>∃r,v= .map (some r)/\w'.heap[r]? =some (.map opMap 4):=by
 refine F.rational_all.vc _ _ (Pure.mono (rational_operations w) ?_)
 rintro v w2 _ ⟨r,rfl,h⟩
 exact⟨_,rfl,r,rfl,h⟩

theorem run_op{w:World}{r:Nat}{key:Int}{f i:Nat}(h:w.heap[r]? =some (.map opMap 4))(hf:Instr.findNow (.int .u8) (.int .u8 key) opMap.toList 0=some (some (i,.func (.func f) #[] #[]))):
  (Instr.lookup 230 (.map (some r)) (.int .u8 key) false).run Tryz.prog w= .ok (.func (.func f) #[] #[]) w:=by
 have hm:=Tryz.underlying230
 have hk:=Tryz.underlying5
 have hc:(Instr.checkKey opMap.isEmpty 10000 5 (.int .u8 key)).run Tryz.prog w= .ok () w:=MapKept.run_checkKey hk (by simp[MapKept.IsKey]) _ 9999
 simp[Instr.lookup,run_underlying hm,MapKept.run_getObj_map h,hc,MapKept.run_findKey hk hf,Result.andThen]

theorem rational_minus{w:World}{x y:Rat}(hg:Glob w)(hx:Big x)(hy:Big y):
  Pure Tryz.prog 268 #[fV x,fV y] w fun v _=>v=fV (x - y):=by
 refine F.rational_operations_c1.vc _ _ _ _ _ _ fun w1 x1=>Pure.mono (rational_opposite hy _) ?_
 rintro v w2 k2 rfl
 refine⟨_,_,rfl,Pure.mono (rational_plus (hg.next (kP (k0 x1) k2)) hx hy.neg) ?_⟩
 rintro v w3 _ rfl
 refine⟨_,_,rfl,fun w4 _=> ?_⟩
 rw[Rat.sub_eq_add_neg]

theorem rational_apply{w:World}{x y z:Rat}{key:Int}{f i:Nat}(hg:Glob w)(hx:Big x)(hy:Big y)(hz:Sm 300000 z)(hk:key≠47)(hf:Instr.findNow (.int .u8) (.int .u8 key) opMap.toList 0=some (some (i,.func (.func f) #[] #[])))
  (hc:callable Tryz.prog f=true) (h:∀w,Glob w->Pure Tryz.prog f #[fV x,fV y] w fun v _=>v=fV z):
  Pure Tryz.prog 194 #[.int .u8 key,.string (rS x),.string (rS y)] w fun v _=>v= .tuple #[.string (rS z),.int .i64 0]:=by
 refine F.rational_apply.vc _ _ _ _ _ (Pure.mono (rational_both hg hx hy) ?_)
 rintro v w2 k2 rfl
 have call:∀w16,Below w.heap.size w w16->callable Tryz.prog f=true/\(Pure Tryz.prog f ((Array.toList (#[]:Array Value))++([(.agg #[(.string (iS x.num)),(.string (nS x.den))]),(.agg #[(.string (iS y.num)),(.string (nS y.den))])]:List Value)++(Array.toList (#[]:Array Value))).toArray w16 fun r19 w20=>∃(s17:ByteArray)(s18:ByteArray),r19=(.agg #[(.string s17),(.string s18)])/\(Pure Tryz.prog 227 #[(.agg #[(.string s17),(.string s18)])] w20 fun r22 w23=>∃(s21:ByteArray),r22=(.string s21)/\(Value.tuple #[(.string s21),(.int .i64 (0:Int))]= .tuple #[.string (rS z),.int .i64 0]))):=by
  intro w16 hb
  refine⟨hc,Pure.mono (h w16 (hg.next hb)) ?_⟩
  rintro v w17 _ rfl
  refine⟨_,_,rfl,Pure.mono (rational_text hz _) ?_⟩
  rintro v w18 _ rfl
  exact⟨_,rfl,rfl⟩
 have look:∀w13 r,Below w.heap.size w w13->w13.heap[r]? =some (.map opMap 4)->∀tys,∀K:Value->World->Prop,K (.func (.func f) #[] #[]) w13->RunOk Tryz.prog (Instr.lookup 230 (.map (some r)) (.int .u8 key) false) w.heap.size tys w13 K:=by
  intro w13 r hb hr tys K hK
  exact⟨_,_,run_op hr hf,Below.refl _ _,Nat.le_refl _,fun _ _ _ _ h=>rfl,hK⟩
 refine⟨_,_,_,_,_,rfl,fun h=>absurd rfl h,fun _=>⟨fun h=>absurd h hk,fun _=> ?_⟩⟩
 repeat' apply And.intro
 all_goals (intro w3 x3;refine Pure.mono (rational_all _) ?_;rintro v w4 k4 ⟨r,rfl,hr⟩;have hb4:=kP (kE k2 x3) k4;refine⟨_,rfl,?_⟩)
 all_goals repeat' apply And.intro
 all_goals (refine look _ r hb4 hr _ _ ⟨_,_,_,rfl,?_⟩)
 all_goals first|exact call _ hb4|exact⟨call _ hb4,call _ hb4⟩

theorem rational_Add{w:World}{x y:Rat}(hg:Glob w)(hx:Big x)(hy:Big y):
  Pure Tryz.prog 165 #[.string (rS x),.string (rS y)] w fun v _=>v= .tuple #[.string (rS (x+y)),.int .i64 0]:=by
 refine F.rational_Add.vc _ _ _ _ (Pure.mono (rational_apply hg hx hy ((hx.add hy).mono (by omega)) (by omega) rfl (by kernel_rfl) fun w hg=>rational_plus hg hx hy) ?_)
 rintro v w2 _ rfl
 exact⟨_,_,rfl,rfl⟩
theorem rational_Sub{w:World}{x y:Rat}(hg:Glob w)(hx:Big x)(hy:Big y):
  Pure Tryz.prog 164 #[.string (rS x),.string (rS y)] w fun v _=>v= .tuple #[.string (rS (x - y)),.int .i64 0]:=by
 refine F.rational_Sub.vc _ _ _ _ (Pure.mono (rational_apply hg hx hy ((hx.sub hy).mono (by omega)) (by omega) rfl (by kernel_rfl) fun w hg=>rational_minus hg hx hy) ?_)
 rintro v w2 _ rfl
 exact⟨_,_,rfl,rfl⟩
theorem rational_Mul{w:World}{x y:Rat}(hg:Glob w)(hx:Big x)(hy:Big y):
  Pure Tryz.prog 166 #[.string (rS x),.string (rS y)] w fun v _=>v= .tuple #[.string (rS (x*y)),.int .i64 0]:=by
 refine F.rational_Mul.vc _ _ _ _ (Pure.mono (rational_apply hg hx hy ((hx.mul hy).mono (by omega)) (by omega) rfl (by kernel_rfl) fun w hg=>rational_times hg hx hy) ?_)
 rintro v w2 _ rfl
 exact⟨_,_,rfl,rfl⟩

theorem rational_Compare {w : World} {x y : Rat} (hg : Glob w) (hx : Big x) (hy : Big y) :
    Pure Tryz.prog 141 #[.string (rS x), .string (rS y)] w fun v _ => v = .tuple #[.int .i64 (cmpR x y), .int .i64 0] := by
  refine F.rational_Compare.vc _ _ _ _ (Pure.mono (rational_both hg hx hy) ?_)
  rintro v w2 k2 rfl
  refine ⟨_, _, _, _, _, rfl, fun h => absurd rfl h, fun _ => ⟨fun h w3 _ => ?_, fun hne w3 x3 => Pure.mono (rational_sign hx _) ?_⟩⟩
  · have : x = y := ratT_inj (st_inj h)
    subst this
    rw [cmpR_eq.2 rfl]
  rintro v w4 k4 rfl
  have hb4 := kP (kE k2 x3) k4
  refine ⟨_, rfl, Pure.mono (rational_sign hy _) ?_⟩
  rintro v w5 k5 rfl
  have hb5 := kP hb4 k5
  have tri : ∀ z : Rat, (z < 0 ∧ cmpR z 0 = -1) ∨ (z = 0 ∧ cmpR z 0 = 0) ∨ (0 < z ∧ cmpR z 0 = 1) := by
    intro z
    unfold cmpR
    by_cases h1 : z < 0
    · rw [if_pos h1]; exact .inl ⟨h1, rfl⟩
    · rw [if_neg h1]
      by_cases h2 : 0 < z
      · rw [if_pos h2]; exact .inr (.inr ⟨h2, rfl⟩)
      · rw [if_neg h2]; exact .inr (.inl ⟨Rat.le_antisymm (Rat.not_lt.1 h2) (Rat.not_lt.1 h1), rfl⟩)
  have sgn : (x.num * (y.den : Int) - y.num * (x.den : Int)).sign = cmpR x y := by
    have h1 := lt_cross x y
    have h2 := lt_cross y x
    have h3 := eq_cross x y
    unfold cmpR
    rcases Int.lt_trichotomy (x.num * (y.den : Int) - y.num * (x.den : Int)) 0 with k | k | k
    · rw [if_pos (h1.2 k), Int.sign_eq_neg_one_of_neg k]
    · rw [if_neg (fun c => by have := h1.1 c; omega), if_neg (fun c => by have := h2.1 c; omega), k]; rfl
    · rw [if_neg (fun c => by have := h1.1 c; omega), if_pos (h2.2 (by omega)), Int.sign_eq_one_of_pos k]
  refine ⟨_, rfl, fun hs => ?_, fun hs => ?_⟩
  · have e : cmpR x y = (if (if (1 : Int) < (cmpR x 0 - cmpR y 0) then (1 : Int) else (cmpR x 0 - cmpR y 0)) > (-1 : Int) then (if (1 : Int) < (cmpR x 0 - cmpR y 0) then (1 : Int) else (cmpR x 0 - cmpR y 0)) else (-1 : Int)) := by
      rcases tri x with ⟨a1, a2⟩ | ⟨a1, a2⟩ | ⟨a1, a2⟩ <;> rcases tri y with ⟨b1, b2⟩ | ⟨b1, b2⟩ | ⟨b1, b2⟩ <;> rw [a2, b2] at hs ⊢ <;> first | exact absurd rfl hs | skip
      all_goals first
        | (have hlt : x < y := by grind
           have e1 : cmpR x y = -1 := by unfold cmpR; rw [if_pos hlt]
           rw [e1]; rfl)
        | (have hlt : y < x := by grind
           have e1 : cmpR x y = 1 := by unfold cmpR; rw [if_neg (Rat.not_lt.2 (Rat.le_of_lt hlt)), if_pos hlt]
           rw [e1]; rfl)
    refine ⟨?_, ?_⟩
    · rcases tri x with ⟨_, a2⟩ | ⟨_, a2⟩ | ⟨_, a2⟩ <;> rcases tri y with ⟨_, b2⟩ | ⟨_, b2⟩ | ⟨_, b2⟩ <;> rw [a2, b2] <;> simp only [inR] <;> omega
    · rw [← e]
  · have n1 := mul_lt_pow hx.1 hy.2
    have n2 := mul_lt_pow hy.1 hx.2
    have a1 : (x.num * (y.den : Int)).natAbs = x.num.natAbs * y.den := by rw [Int.natAbs_mul, Int.natAbs_natCast]
    have a2 : (y.num * (x.den : Int)).natAbs = y.num.natAbs * x.den := by rw [Int.natAbs_mul, Int.natAbs_natCast]
    have m1 : (x.num * (y.den : Int)).natAbs < Lim := by rw [a1]; exact lt_lim n1 (by omega)
    have m2 : (y.num * (x.den : Int)).natAbs < Lim := by rw [a2]; exact lt_lim n2 (by omega)
    rw [← iS_nat y.den, ← iS_nat x.den]
    refine Pure.mono (integer_Mul (hg.next hb5) (hx.nlim (by omega)) (by rw [Int.natAbs_natCast]; exact hy.dlim (by omega)) m1) ?_
    rintro v w6 k6 rfl
    have hb6 := kP hb5 k6
    refine ⟨_, _, rfl, Pure.mono (integer_Mul (hg.next hb6) (hy.nlim (by omega)) (by rw [Int.natAbs_natCast]; exact hx.dlim (by omega)) m2) ?_⟩
    rintro v w7 k7 rfl
    refine ⟨_, _, rfl, Pure.mono (integer_Compare (hg.next (kP hb6 k7)) m1 m2) ?_⟩
    rintro v w8 _ rfl
    refine ⟨_, _, rfl, ?_⟩
    rw [sgn]
end Go.Proofs.YtgfkeadgjkfomaaGreatDoor.B
