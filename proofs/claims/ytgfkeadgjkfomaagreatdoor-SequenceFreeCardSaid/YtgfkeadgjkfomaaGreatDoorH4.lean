/- Part 4 of the proofs that: without rules, and with holds that can take everything, any order of steps that only put in is one -/
import Derived.Test.YtgfkeadgjkfomaaGreatDoorH3
import Derived.Test.YtgfkeadgjkfomaaGreatDoorProg
import Derived.Lib.ItoaNum
import Derived.Lib.LaidTab
set_option linter.unusedVariables false
set_option linter.unusedSimpArgs false
namespace Go.Proofs
open Go.Shelf Go.RowKit

theorem Tryz.bX:(Tryz.prog.info? 295).map (·.size)=some 2:=by kernel_rfl
theorem Tryz.bLies:liesAt Tryz.prog Tryz.prog.depth 295 (2 / Tryz.prog.cellsOf 295) 0 295 1=true:=by kernel_rfl
theorem Tryz.bInfo:(Tryz.prog.info? 5).map (fun i=>(i.zero,i.size,i.bytes))=some (some (.int .u8 0),1,1):=by kernel_rfl
theorem Tryz.bMixed:Tryz.prog.follows .mixedOrders=true:=by kernel_rfl

set_option maxHeartbeats 1000000 in
set_option maxRecDepth 100000 in
theorem Tryz.bCheckUsed(b:Nat)(w:World)(h0:w.cell? ⟨b,0,none⟩=some (.pointer (some ⟨b,0,none⟩))):
  Calls Tryz.prog 318 #[.pointer (some ⟨b,0,none⟩)] w fun e w'=>e= .returned (.tuple #[])/\w'=w:=by
 obtain⟨j,hj,_⟩:=Option.map_eq_some_iff.1 Tryz.bX
 have mixed:=Tryz.bMixed
 have t72:=Tryz.underlying295;have a72:=Tryz.isAgg295;have z72:=Tryz.sizeOf295;have v72:=Tryz.zeroValue295;have u72:=run_underlying t72
 have t70:=Tryz.underlying293;have a70:=Tryz.isAgg293;have z70:=Tryz.sizeOf293;have v70:=Tryz.zeroValue293;have u70:=run_underlying t70
 have t4:=Tryz.underlying4;have a4:=Tryz.isAgg4;have z4:=Tryz.sizeOf4;have v4:=Tryz.zeroValue4;have u4:=run_underlying t4
 have t164:=Tryz.underlying328;have a164:=Tryz.isAgg328;have z164:=Tryz.sizeOf328;have v164:=Tryz.zeroValue328;have u164:=run_underlying t164
 go_enter Tryz.func318,Tryz.ntmps318
 go_wp2
 rw[Lib.run_neq_ptr_same w _ t70 hj]
 go_wp2
 go_end0
 exact⟨rfl,rfl⟩

set_option maxHeartbeats 1000000 in
set_option maxRecDepth 100000 in
theorem Tryz.bCheckFresh(b:Nat)(w:World)(h0:w.cell? ⟨b,0,none⟩=some (.pointer none))(hsh:w.shape? b=some (295,2))(hfz:w.frozen? ⟨b,0,none⟩=false):
  Calls Tryz.prog 318 #[.pointer (some ⟨b,0,none⟩)] w fun e w'=>e= .returned (.tuple #[])/\w'=w.setCell ⟨b,0,none⟩ (.pointer (some ⟨b,0,none⟩)):=by
 obtain⟨j,hj,hjs⟩:=Option.map_eq_some_iff.1 Tryz.bX
 have mixed:=Tryz.bMixed
 have t72:=Tryz.underlying295;have a72:=Tryz.isAgg295;have z72:=Tryz.sizeOf295;have v72:=Tryz.zeroValue295;have u72:=run_underlying t72
 have t70:=Tryz.underlying293;have a70:=Tryz.isAgg293;have z70:=Tryz.sizeOf293;have v70:=Tryz.zeroValue293;have u70:=run_underlying t70
 have t4:=Tryz.underlying4;have a4:=Tryz.isAgg4;have z4:=Tryz.sizeOf4;have v4:=Tryz.zeroValue4;have u4:=run_underlying t4
 have t164:=Tryz.underlying328;have a164:=Tryz.isAgg328;have z164:=Tryz.sizeOf328;have v164:=Tryz.zeroValue328;have u164:=run_underlying t164
 go_enter Tryz.func318,Tryz.ntmps318
 go_wp2
 rw[Lib.run_to_unsafe w ⟨b,0,none⟩ t70 t164 hj (by rw[hjs];decide) hsh (Nat.zero_lt_succ 1)]
 simp only[Result.andThen]
 rw[Oper.upon_value]
 go_wp2
 rw[run_callFunc_extern Tryz.func332 (by kernel_rfl) (by kernel_rfl) (by kernel_rfl) (e:=Extern.AbiNoEscape.same) (by kernel_rfl)]
 rw[Lib.run_noEscape]
 simp only[Result.andThen]
 rw[Oper.upon_value]
 go_wp2
 rw[Lib.run_from_unsafe w ⟨b,0,none⟩ t164 t70 hj hsh Tryz.bLies]
 simp only[Result.andThen]
 rw[Oper.upon_value]
 go_wp2
 go_end0
 exact⟨rfl,rfl⟩

theorem Tryz.bCheck(B b:Nat)(bs:List Value)(w:World)(h:Lib.IsBuilderF 295 5 B b bs w):
  Calls Tryz.prog 318 #[.pointer (some ⟨b,0,none⟩)] w fun e w'=>e= .returned (.tuple #[])/\(Lib.BuilderAtF 295 5 B b (.pointer (some ⟨b,0,none⟩)) bs w'/\Below B w w'/\Lib.OthersKept 5 (some b) w w'):=by
 rcases h with h|h
 ·refine(Tryz.bCheckFresh b w h.cell0 h.shape h.frozen0).mono ?_
  rintro e w' ⟨rfl,rfl⟩
  exact⟨rfl,h.used _,(Below.refl B w).setCell (p:=⟨b,0,none⟩) h.1 _,(Lib.OthersKept.refl _ _ w).setCell ⟨b,0,none⟩ rfl _⟩
 ·refine(Tryz.bCheckUsed b w h.cell0).mono ?_
  rintro e w' ⟨rfl,rfl⟩
  exact⟨rfl,h,Below.refl B _,Lib.OthersKept.refl _ _ _⟩

set_option maxHeartbeats 2000000 in
set_option maxRecDepth 100000 in
theorem Tryz.bWrite(B b:Nat)(bs:List Value)(s:ByteArray)(w:World)(h:Lib.IsBuilderF 295 5 B b bs w)(hlen:bs.length+s.size<=140737488355328)(hBw:B<=w.heap.size):
  Calls Tryz.prog 302 #[.pointer (some ⟨b,0,none⟩),.string s] w fun e w'=>e= .returned (.tuple #[.int .i64 s.size,.nilIface])/\(Lib.BuilderAtF 295 5 B b (.pointer (some ⟨b,0,none⟩)) (bs++Lib.strCells s) w'/\Below B w w'/\Lib.OthersKept 5 (some b) w w'):=by
 obtain⟨i0,hi,hz0,hz1,hz2⟩:=info_parts Tryz.bInfo
 have mixed:=Tryz.bMixed
 have t72:=Tryz.underlying295;have a72:=Tryz.isAgg295;have z72:=Tryz.sizeOf295;have v72:=Tryz.zeroValue295;have u72:=run_underlying t72
 have t70:=Tryz.underlying293;have a70:=Tryz.isAgg293;have z70:=Tryz.sizeOf293;have v70:=Tryz.zeroValue293;have u70:=run_underlying t70
 have t37:=Tryz.underlying251;have a37:=Tryz.isAgg251;have z37:=Tryz.sizeOf251;have v37:=Tryz.zeroValue251;have u37:=run_underlying t37
 have t3:=Tryz.underlying3;have a3:=Tryz.isAgg3;have z3:=Tryz.sizeOf3;have v3:=Tryz.zeroValue3;have u3:=run_underlying t3
 have t9:=Tryz.underlying9;have a9:=Tryz.isAgg9;have z9:=Tryz.sizeOf9;have v9:=Tryz.zeroValue9;have u9:=run_underlying t9
 have t4:=Tryz.underlying4;have a4:=Tryz.isAgg4;have z4:=Tryz.sizeOf4;have v4:=Tryz.zeroValue4;have u4:=run_underlying t4
 have t5:=Tryz.underlying5;have a5:=Tryz.isAgg5;have z5:=Tryz.sizeOf5;have v5:=Tryz.zeroValue5;have u5:=run_underlying t5
 have e240:∀args w,(callFunc 318 args).run Tryz.prog w= .ok (.enter 318 args) w:=enters_of Tryz.func318 (by kernel_rfl) rfl
 go_enter Tryz.func302,Tryz.ntmps302
 go_wp2_with (go_at_fn 318;refine(Tryz.bCheck B b bs _ h).mono ?_)
 rintro e w1 ⟨rfl,h1,hb1,hk1⟩
 obtain⟨hB,v,hbk,hown,hne⟩:=h1
 have c0:w1.cell? ⟨b,0,none⟩=some (.pointer (some ⟨b,0,none⟩)):=by rw[Lib.cell_of_heap hbk];rfl
 have c1:w1.cell? ⟨b,1,none⟩=some v:=by rw[Lib.cell_of_heap hbk];rfl
 go_wp2_with (at_builtin;refine Lib.wpList_append_own_stringF _ rfl _ _ 251 9 rfl B 5 i0 t37 t9 hi hz0 hz1 hz2 _ _ _ rfl hown s rfl ?c3 ?c4 ?c5 ?_)
 case c3=>unfold maxLen;omega
 case c4=>omega
 case c5=>have:=hb1.size;omega
 intro v' w2 hown' hgrow _
 have hlt:b<w1.heap.size:=by
  rcases Nat.lt_or_ge b w1.heap.size with h'|h'
  ·exact h'
  ·simp[Array.getElem?_eq_none h']at hbk
 have hb2:w2.heap[b]? =some (.cells #[.pointer (some ⟨b,0,none⟩),v] 295 (0,0)):=by
  rw[hgrow.block b hlt (fun e=>hne e.symm)]
  exact hbk
 have d0:w2.cell? ⟨b,0,none⟩=some (.pointer (some ⟨b,0,none⟩)):=by rw[Lib.cell_of_heap hb2];rfl
 have d1:w2.cell? ⟨b,1,none⟩=some v:=by rw[Lib.cell_of_heap hb2];rfl
 have f1:w2.frozen? ⟨b,1,none⟩=false:=Lib.frozen_of_heap hb2 1
 obtain⟨ao,n',cap,rfl⟩:∃ao n' cap,v'= .slice ao n' cap:=by
  rcases hown'.2 with⟨hv,_⟩|⟨g,cap,cur,fz,hv,_⟩
  ·exact⟨_,_,_,hv⟩
  ·exact⟨_,_,_,hv⟩
 go_wp2
 go_ret2
 refine⟨rfl,?_,?_,(hk1.grown hgrow (Lib.ownsRowF_kind hown)).setCell ⟨b,1,none⟩ rfl _⟩
 ·exact Lib.BuilderAtF.put (T:=295) (e:=5) hB hb2 (bs':=bs++Lib.strCells s) (by simpa[Lib.strCells_length]using hown') (by decide)
 ·exact(hb1.grown hgrow (by have:=hb1.size;omega) (fun k hk=>(hown.lt k hk).1)).setCell (p:=⟨b,1,none⟩) hB _
end Go.Proofs

namespace Go.Proofs
open Go.Shelf Go.RowKit Go.Sort Go.Lib

theorem Tryz.holds0(w:World)(T:TypeId)(nd:Nat)(hs:nd<=24):Holds (fun(b:UInt8)=>Value.int .u8 (b.toNat:Int)) (w.alloc (.cells zeros24 T)) w.heap.size 0 (Array.replicate nd (0:UInt8)):=fun j hj=>by
 have hj':j<nd:=by simpa using hj
 refine⟨?_,World.frozen?_alloc_new _ _ _ _⟩
 rw[World.cell?_alloc_new,zeros24_at _ (by omega),getElem!_pos _ j hj]
 simp
theorem Tryz.fin0(w:World)(o:Obj)(dk:Array UInt8)(k:Nat):∃os,(putRow (fun(b:UInt8)=>Value.int .u8 (b.toNat:Int)) (w.alloc o) w.heap.size 0 dk).drewN k=grow (w.drewN k) os:=by
 rw[alloc_eq_grow]
 obtain⟨os',_,e⟩:=putRow_grow_new (fun(b:UInt8)=>Value.int .u8 (b.toNat:Int)) w #[o] w.heap.size 0 dk (Nat.le_refl _)
 exact⟨os',by rw[e];rfl⟩

set_option maxHeartbeats 6400000 in
set_option maxRecDepth 100000 in
theorem Tryz.fmtU(u:Nat)(hu64:u<18446744073709551616)(w:World)
  (htab : Lib.TabIs Tryz.prog w "internal/strconv.uint64pow10" .u64 Lib.pow10Tab) :
  Calls Tryz.prog 317 #[.int .u64 u,.int .i64 10] w fun e w'=>e= .returned (.string ⟨(Lib.decDigits u).toArray⟩)/\∃k os,w'=grow (w.drewN k) os:=by
 have mixed:Tryz.prog.follows .mixedOrders=true:=by kernel_rfl
 have t3:=Tryz.underlying3;have a3:=Tryz.isAgg3;have z3:=Tryz.sizeOf3;have v3:=Tryz.zeroValue3
 have t9:=Tryz.underlying9;have a9:=Tryz.isAgg9;have z9:=Tryz.sizeOf9;have v9:=Tryz.zeroValue9
 have t4:=Tryz.underlying4;have a4:=Tryz.isAgg4;have z4:=Tryz.sizeOf4;have v4:=Tryz.zeroValue4
 have t171:=Tryz.underlying252;have a171:=Tryz.isAgg252;have z171:=Tryz.sizeOf252;have v171:=Tryz.zeroValue252
 have t53:=Tryz.underlying244;have a53:=Tryz.isAgg244;have z53:=Tryz.sizeOf244;have v53:=Tryz.zeroValue244
 have t37:=Tryz.underlying251;have a37:=Tryz.isAgg251;have z37:=Tryz.sizeOf251;have v37:=Tryz.zeroValue251
 have t5:=Tryz.underlying5;have a5:=Tryz.isAgg5;have z5:=Tryz.sizeOf5;have v5:=Tryz.zeroValue5
 have e1:∀args w,(callFunc 250 args).run Tryz.prog w= .ok (.enter 250 args) w:=enters_of Tryz.func250 (by kernel_rfl) rfl
 have e2:∀args w,(callFunc 251 args).run Tryz.prog w= .ok (.enter 251 args) w:=enters_of Tryz.func251 (by kernel_rfl) rfl
 have e3:∀args w,(callFunc 252 args).run Tryz.prog w= .ok (.enter 252 args) w:=enters_of Tryz.func252 (by kernel_rfl) rfl
 by_cases hs:u<100
 ·go_enter Tryz.func317,Tryz.ntmps317
  go_wp2_with (go_at_fn 250;refine(Tryz.internal_strconv_small u hs _).mono ?_;rintro e w' ⟨rfl,rfl⟩)
  go_ret
  exact⟨rfl,0,#[],by simp[World.drewN_zero]⟩
 ·have hu1:1<=u:=by omega
  have hnd20:Lib.nDigits u<=20:=by have:=Lib.numDigits_eq u hu1 hu64;split at this<;>omega
  have hal:Tryz.prog.arrayLen 252=24:=by kernel_rfl
  have hsl1:∀W,(Instr.sliceAt 252 (.pointer (some ⟨w.heap.size,0,none⟩)) none (some (.int .i64 (Lib.nDigits u:Int))) none).run Tryz.prog W= .ok (.slice (some ⟨w.heap.size,0,none⟩) (Lib.nDigits u) 24) W:=fun W=>by
   rw[run_sliceAt_array_h W 252 ⟨w.heap.size,0,none⟩ (by rw[hal];exact t171) .i64 (Lib.nDigits u:Int) (by omega) (by rw[hal];omega)]
   rw[hal]
   go_simp
  have hH0:=Tryz.holds0 w 252 (Lib.nDigits u) (by omega)
  have hfmt:=Tryz.internal_strconv_formatBase10 w.heap.size 0 24 u (Array.replicate (Lib.nDigits u) 0) (w.alloc (.cells Lib.zeros24 252)) hH0 (by rw[Array.size_replicate];exact Lib.lt_pow_nDigits u) hu64 (by rw[Array.size_replicate];omega)
  rw[Array.size_replicate]at hfmt
  have HH0:=Lib.hid hH0
  clear hH0 hal
  go_enter Tryz.func317,Tryz.ntmps317
  go_wp2_with (first
   |(go_at_fn 251;refine(Tryz.internal_strconv_numDigits u hu1 hu64 _ (Lib.tabIs_alloc htab _)).mono ?_;rintro e w' ⟨rfl,rfl⟩))
  go_at_fn 252
  refine hfmt.mono ?_
  rintro e w' ⟨rfl,k,v',dk,rfl,hF⟩
  have hcv:(convert 251 9 (.slice (some ⟨w.heap.size,0,none⟩) (Lib.nDigits u) 24)).run Tryz.prog ((putRow (fun(b:UInt8)=>Value.int .u8 (b.toNat:Int)) (w.alloc (.cells Lib.zeros24 252)) w.heap.size 0 dk).drewN k)= .ok (.string ⟨(Lib.decDigits u).toArray⟩) ((putRow (fun(b:UInt8)=>Value.int .u8 (b.toNat:Int)) (w.alloc (.cells Lib.zeros24 252)) w.heap.size 0 dk).drewN k):=by
   have h:=run_convert_bytes_back (P:=Tryz.prog) ((putRow (fun(b:UInt8)=>Value.int .u8 (b.toNat:Int)) (w.alloc (.cells Lib.zeros24 252)) w.heap.size 0 dk).drewN k) 251 9 5 ⟨w.heap.size,0,none⟩ 24 (Lib.decDigits u) t37 t5 t9 (fun j hj=>by
    rw[Lib.row_is_numeral hF j hj,Lib.add_plain,World.cell?_drewN]
    exact cell?_putRow (fun(b:UInt8)=>Value.int .u8 (b.toNat:Int)) _ w.heap.size 0 _ dk HH0.out (by rw[hF.size,Array.size_replicate]) j (by rw[hF.size];rw[Lib.decDigits_length]at hj;exact hj))
   rw[Lib.decDigits_length]at h
   exact h
  go_wp2
  go_ret
  obtain⟨os,eo⟩:=Tryz.fin0 w (.cells Lib.zeros24 252) dk k
  exact⟨rfl,k,os,eo⟩

set_option maxRecDepth 100000 in
theorem Tryz.FormatUint(u:Nat)(hu64:u<18446744073709551616)(w:World)
  (htab : Lib.TabIs Tryz.prog w "internal/strconv.uint64pow10" .u64 Lib.pow10Tab) :
  Calls Tryz.prog 301 #[.int .u64 u,.int .i64 10] w fun e w'=>e= .returned (.string ⟨(Lib.decDigits u).toArray⟩)/\∃k os,w'=grow (w.drewN k) os:=by
 have mixed:Tryz.prog.follows .mixedOrders=true:=by kernel_rfl
 have t3:=Tryz.underlying3;have a3:=Tryz.isAgg3;have z3:=Tryz.sizeOf3;have v3:=Tryz.zeroValue3
 have t9:=Tryz.underlying9;have a9:=Tryz.isAgg9;have z9:=Tryz.sizeOf9;have v9:=Tryz.zeroValue9
 have t53:=Tryz.underlying244;have a53:=Tryz.isAgg244;have z53:=Tryz.sizeOf244;have v53:=Tryz.zeroValue244
 have e246:∀args w,(callFunc 317 args).run Tryz.prog w= .ok (.enter 317 args) w:=enters_of Tryz.func317 (by kernel_rfl) rfl
 go_enter Tryz.func301,Tryz.ntmps301
 go_wp2_with (go_at_fn 317;refine(Tryz.fmtU u hu64 _ htab).mono ?_;rintro e w' ⟨rfl,k,os,rfl⟩)
 go_ret
 exact⟨rfl,k,os,rfl⟩
end Go.Proofs

set_option maxRecDepth 100000
set_option maxHeartbeats 4000000
namespace Go.Proofs.YtgfkeadgjkfomaaGreatDoor.F
open Go Go.RowKit Go.Proofs Go.Proofs.YtgfkeadgjkfomaaGreatDoor.Vc
noncomputable def cmp_Compare_int.cx(w:World)(B:Nat)(R:Value->World->Prop):Cx:=⟨Tryz.prog,45,20,Tryz.f45.results.toList,[],[],w,B,R⟩
theorem cmp_Compare_int.vc(a b:Int)(w:World)(R:Value->World->Prop)
  (h:(Pure P 74 #[.int .i64 a] w fun f g=>∃e,f= .bool e/\(Pure P 74 #[.int .i64 b] g fun i c=>∃d,i= .bool d/\((e=true->((d=true->(R (.int .i64 0) c))/\(d=false->(R (.int .i64 (-1:Int)) c))))/\(e=false->((d=true->(R (.int .i64 1) c))/\(d=false->(((a<b)->(R (.int .i64 (-1:Int)) c))/\(¬(a<b)->(((a>b)->(R (.int .i64 1) c))/\(¬(a>b)->(R (.int .i64 0) c)))))))))))):
  Pure P 45 #[.int .i64 a,.int .i64 b] w R:=
 pure_of_run (cmp_Compare_int.cx w w.heap.size R) 100000 follows Tryz.func45 rfl rfl rfl rfl rfl rfl rfl (Eq.mp (by kernel_rfl) h)

noncomputable def cmp_isNaN_int.cx(w:World)(B:Nat)(R:Value->World->Prop):Cx:=⟨Tryz.prog,74,6,Tryz.f74.results.toList,[],[],w,B,R⟩
theorem cmp_isNaN_int.vc(a:Int)(w:World)(R:Value->World->Prop)
  (h:(R (.bool (decide (a≠a))) w)):
  Pure P 74 #[.int .i64 a] w R:=
 pure_of_run (cmp_isNaN_int.cx w w.heap.size R) 100000 follows Tryz.func74 rfl rfl rfl rfl rfl rfl rfl (Eq.mp (by kernel_rfl) h)

def cmp_Or_int.L3(a:Int)(b:Option Addr)(c d:Nat)(e f:Int)(B:Nat)(w:World)(R:Value->World->Prop):Prop:=At Tryz.prog 91 18 (loopAt Tryz.f91 3) [(3,.v (.int .i64 a)),(6,.v (.slice b c d)),(7,.v (.int .i64 e)),(8,.v (.int .i64 f))] [] B w R
noncomputable def cmp_Or_int.cx(w:World)(B:Nat)(R:Value->World->Prop):Cx:=⟨Tryz.prog,91,18,Tryz.f91.results.toList,[((true,3),[3,6,7,8],[])],[],w,B,R⟩
theorem cmp_Or_int.L3.step(b:Int)(e:Option Addr)(f g:Nat)(c a:Int)(B:Nat)(w:World)(R:Value->World->Prop)
  (h:(((a<c)->((0<=a/\a<f)/\∃i,e=some i/\(∃d,CellsAt w (i.add ((a).toNat*1)) [.int .i64 d]/\(((d≠b)->(R (.int .i64 d) w))/\(¬(d≠b)->(inR .i64 (a+1)/\(cmp_Or_int.L3 b e f g c (a+1) B w R)))))))/\(¬(a<c)->(R (.int .i64 b) w)))):
  cmp_Or_int.L3 b e f g c a B w R:=
 loop_of_run (cmp_Or_int.cx w B R) 100000 (loopAt Tryz.f91 3) _ _ follows Tryz.func91 rfl rfl rfl (Eq.mp (by kernel_rfl) h)
theorem cmp_Or_int.vc(b:Option Addr)(a c:Nat)(w:World)(R:Value->World->Prop)
  (h:(cmp_Or_int.L3 (0:Int) b a c (a:Int) (0:Int) w.heap.size w R)):
  Pure P 91 #[.slice b a c] w R:=
 pure_of_run (cmp_Or_int.cx w w.heap.size R) 100000 follows Tryz.func91 rfl rfl rfl rfl rfl rfl rfl (Eq.mp (by kernel_rfl) h)

noncomputable def strconv_Itoa.cx(w:World)(B:Nat)(R:Value->World->Prop):Cx:=⟨Tryz.prog,169,5,Tryz.f169.results.toList,[],[],w,B,R⟩
theorem strconv_Itoa.vc(a:Int)(w:World)(R:Value->World->Prop)
  (h:(Pure P 195 #[.int .i64 a] w fun c d=>∃b,c= .string b/\(R (.string b) d))):
  Pure P 169 #[.int .i64 a] w R:=
 pure_of_run (strconv_Itoa.cx w w.heap.size R) 100000 follows Tryz.func169 rfl rfl rfl rfl rfl rfl rfl (Eq.mp (by kernel_rfl) h)

noncomputable def strings_Cut.cx(w:World)(B:Nat)(R:Value->World->Prop):Cx:=⟨Tryz.prog,211,13,Tryz.f211.results.toList,[],[],w,B,R⟩
theorem strings_Cut.vc(a b:ByteArray)(w:World)(R:Value->World->Prop)
  (h:(Pure P 241 #[.string a,.string b] w fun f g=>∃c d e,f= .tuple #[.string c,.string d,.bool e]/\(R (.tuple #[.string c,.string d,.bool e]) g))):
  Pure P 211 #[.string a,.string b] w R:=
 pure_of_run (strings_Cut.cx w w.heap.size R) 100000 follows Tryz.func211 rfl rfl rfl rfl rfl rfl rfl (Eq.mp (by kernel_rfl) h)

noncomputable def strings_CutPrefix.cx(w:World)(B:Nat)(R:Value->World->Prop):Cx:=⟨Tryz.prog,254,11,Tryz.f254.results.toList,[],[],w,B,R⟩
theorem strings_CutPrefix.vc(a b:ByteArray)(w:World)(R:Value->World->Prop)
  (h:(Pure P 277 #[.string a,.string b] w fun e f=>∃c d,e= .tuple #[.string c,.bool d]/\(R (.tuple #[.string c,.bool d]) f))):
  Pure P 254 #[.string a,.string b] w R:=
 pure_of_run (strings_CutPrefix.cx w w.heap.size R) 100000 follows Tryz.func254 rfl rfl rfl rfl rfl rfl rfl (Eq.mp (by kernel_rfl) h)

noncomputable def cmp_Compare_uint32.cx(w:World)(B:Nat)(R:Value->World->Prop):Cx:=⟨Tryz.prog,306,20,Tryz.f306.results.toList,[],[],w,B,R⟩
theorem cmp_Compare_uint32.vc(a b:Int)(w:World)(R:Value->World->Prop)
  (h:(Pure P 323 #[.int .u32 a] w fun f g=>∃e,f= .bool e/\(Pure P 323 #[.int .u32 b] g fun i c=>∃d,i= .bool d/\((e=true->((d=true->(R (.int .i64 0) c))/\(d=false->(R (.int .i64 (-1:Int)) c))))/\(e=false->((d=true->(R (.int .i64 1) c))/\(d=false->(((a<b)->(R (.int .i64 (-1:Int)) c))/\(¬(a<b)->(((a>b)->(R (.int .i64 1) c))/\(¬(a>b)->(R (.int .i64 0) c)))))))))))):
  Pure P 306 #[.int .u32 a,.int .u32 b] w R:=
 pure_of_run (cmp_Compare_uint32.cx w w.heap.size R) 100000 follows Tryz.func306 rfl rfl rfl rfl rfl rfl rfl (Eq.mp (by kernel_rfl) h)

noncomputable def cmp_isNaN_uint32.cx(w:World)(B:Nat)(R:Value->World->Prop):Cx:=⟨Tryz.prog,323,6,Tryz.f323.results.toList,[],[],w,B,R⟩
theorem cmp_isNaN_uint32.vc(a:Int)(w:World)(R:Value->World->Prop)
  (h:(R (.bool (decide (a≠a))) w)):
  Pure P 323 #[.int .u32 a] w R:=
 pure_of_run (cmp_isNaN_uint32.cx w w.heap.size R) 100000 follows Tryz.func323 rfl rfl rfl rfl rfl rfl rfl (Eq.mp (by kernel_rfl) h)

end Go.Proofs.YtgfkeadgjkfomaaGreatDoor.F

namespace Go.Proofs.YtgfkeadgjkfomaaGreatDoor.B
open Go Go.RowKit Go.Proofs Go.Proofs.YtgfkeadgjkfomaaGreatDoor.Vc

theorem SlU.load{w:World}{A:Option Addr}{ws:List Nat}{n:Nat}(h:SlU w A ws)(hl:ws.length=n){j:Int}(h0:0<=j)(h1:j<n){K:Int->Prop}(k:K (ws.getD j.toNat 0:Nat)):
  (0<=j/\j<n)/\∃a,A=some a/\∃i:Int,CellsAt w (a.add (j.toNat*1)) [.int .u32 i]/\K i:=by
 obtain⟨a,hA,x,hx,hc⟩:=h.cell h0 (by omega)
 refine⟨⟨h0,h1⟩,a,hA,_,hc,?_⟩
 rw[List.getD_eq_getElem?_getD,hx]at k
 exact k

theorem OwnU.store{w:World}{B:Nat}{A:Option Addr}{n c:Nat}{ws:List Nat}(ho:OwnU w B A n c ws){j x:Int}(h0:0<=j)(h1:j<n)(hx:0<=x){bx:List Box}(hb:hasType 217 bx=false){K:World->Prop}
  (h:∀w1,OwnU w1 B A n c (ws.set j.toNat x.toNat)->Below B w w1->(∀k,some k≠Value.ownBlock (.slice A n c)->w1.heap[k]? =w.heap[k]?)->K w1):
  (0<=j/\j<n)/\∃a,A=some a/\∃(cs:List Value)(t:Nat),B<=(a.add (j.toNat*1)).block/\(a.add (j.toNat*1)).spot=none/\w.heap[(a.add (j.toNat*1)).block]? =some (.cells cs.toArray t (0,0))/\
   (a.add (j.toNat*1)).off+1<=cs.length/\hasType t bx=false/\∀w1,Wrote w w1 (a.add (j.toNat*1)).block t (setCells cs (a.add (j.toNat*1)).off [.int .u32 x])->K w1:=by
 have hl:=ho.len
 refine⟨⟨h0,h1⟩,?_⟩
 have hA:∃a,A=some a:=by
  rcases ho.2 with⟨e,e2⟩|⟨g,cap,cur,e,_⟩
  ·omega
  ·cases e;exact⟨_,rfl⟩
 obtain⟨a,rfl⟩:=hA
 obtain⟨cs,k1,k2,k3,k4,k5,k6⟩:=ownsRow_wrote ho (off:=j.toNat) (vs:=[.int .u32 x]) (by simp[u32s];omega)
 obtain⟨b,off,sp⟩:=a
 simp only at k1 k2 k3 k4
 subst k2 k3
 refine⟨_,rfl,cs,217,?_⟩
 rw[add_none]
 simp only[Nat.mul_one,Nat.zero_add]
 refine⟨k1,trivial,k4,by simpa using k5,hb,fun w1 hw=> ?_⟩
 refine h w1 ?_ ⟨hw.os,hw.tape,hw.output,by rw[hw.size];exact Nat.le_refl _,fun k hk=>hw.rest k (by omega)⟩ fun k hk=>hw.rest k fun e=>hk (by simp[Value.ownBlock,e])
 have:=k6 w1 hw
 unfold OwnU
 have e:(x.toNat:Int)=x:=by omega
 have e2:u32s (ws.set j.toNat x.toNat)=setCells (u32s ws) j.toNat [.int .u32 x]:=by simp[u32s,setCells,List.map_set,e]
 rw[e2]
 exact this

theorem wv_set:∀(l:List Nat)(j x:Nat),j<l.length->wv (l.set j x)+1000000000^j*l.getD j 0=wv l+1000000000^j*x:=by
 intro l
 induction l with
 |nil=>intro j x h;simp at h
 |cons y r ih=>
  intro j x h
  cases j with
  |zero=>simp[wv];omega
  |succ j=>
   have:=ih j x (by simpa using h)
   simp only[List.set_cons_succ,wv,List.getD_cons_succ,Nat.pow_succ]
   grind
theorem Small.set{l:List Nat}(h:Small l){j x:Nat}(hx:x<1000000000):Small (l.set j x):=fun y hy=>by
 rcases List.mem_or_eq_of_mem_set hy with h1|rfl
 ·exact h y h1
 ·exact hx
theorem wv_replicate(n:Nat):wv (List.replicate n 0)=0:=by
 induction n with
 |zero=>rfl
 |succ n ih=>simp[List.replicate_succ,wv,ih]

def OwnN(w:World)(B:Nat)(A:Option Addr)(n c x:Nat):Prop:=∃ws,OwnU w B A n c ws/\Small ws/\Norm ws/\wv ws=x
theorem OwnU.take{w:World}{B:Nat}{A:Option Addr}{n c:Nat}{ws:List Nat}(h:OwnU w B A n c ws){m:Nat}(hm:m<=n)(hn:A≠none∨m=n):OwnU w B A m c (ws.take m):=by
 have hl:=h.len
 refine⟨by simp[u32s];omega,?_⟩
 rcases h.2 with⟨e,e2⟩|⟨g,cap,cur,e,h1,h2,h3,h4,h5,h6⟩
 ·cases e
  have h0:m=0:=by omega
  subst h0
  exact .inl ⟨rfl,rfl⟩
 ·cases e
  refine .inr ⟨g,c,cur,rfl,h1,h2,by omega,h4,h5,?_⟩
  have:(u32s ws).take m=u32s (ws.take m):=by simp[u32s,List.map_take]
  rw[<-this,<-h6,List.take_take,Nat.mul_one,Nat.mul_one,Nat.min_eq_left hm]

theorem natural_trim_own{w:World}{B:Nat}{A:Option Addr}{n c:Nat}{ws:List Nat}(h:OwnU w B A n c ws)(hn:n<2147483648)(hs:Small ws):
  Pure Tryz.prog 280 #[.slice A n c] w fun v w'=>w'=w/\∃m,v= .slice A m c/\OwnN w B A m c (wv ws)/\IsN w A m c (wv ws):=
 Pure.mono (natural_trim h.sl h.len h.cap hn hs) fun v w' _ ⟨e,m,e2,h2,h3,h4,h5⟩=>⟨e,m,e2,⟨ws.take m,h.take h3 (by
  rcases h.2 with⟨e,e2⟩|⟨g,cap,cur,e,_⟩
  ·right;omega
  ·cases e;exact .inl (by simp)),hs.take m,h4,h5⟩,h2⟩

theorem SlU.keep{w w':World}{A:Option Addr}{ws:List Nat}{B:Nat}(h:SlU w A ws)(hb:Below B w w')(hB:w.heap.size<=B):SlU w' A ws:=h.below (hb.mono hB)

theorem El.zeroU32:(Tryz.prog.info? 217).bind (·.zero)=some (.int .u32 0):=by kernel_rfl

section
variable {w0:World} {A1 A0:Option Addr} {n1 c1 n0 c0:Nat} {a b:List Nat} {R:Value->World->Prop}

structure TimesInv (w:World) (B:Nat) (A:Option Addr) (n c:Nat) (ws:List Nat) (k:Nat):Prop where
 own:OwnU w B A n c ws
 small:Small ws
 zero:∀j,k<=j->ws.getD j 0=0

theorem times_inner(hb:SlU w0 A1 b)(hbl:b.length=n1)(hsb:Small b){i x:Nat}(hx:x<1000000000){n:Nat}(hn:i+n1<n)(hn2:n<=1000000){A:Option Addr}{c:Nat}{m:Int}{base:Nat}
  (hR:∀w ws,TimesInv w w0.heap.size A n c ws (i+1+n1)->Below w0.heap.size w0 w->wv ws=base+1000000000^i*x*wv b->
   F.natural_num_times.L3 A1 n1 c1 A n c A0 n0 c0 m ((i:Int)+1) w0.heap.size w R):
  ∀(d k:Nat)(w:World)(ws:List Nat)(s:Nat),n1 - k=d->k<=n1->TimesInv w w0.heap.size A n c ws (i+n1)->Below w0.heap.size w0 w->s<1000000000->
   wv ws+1000000000^(i+k)*s=base+1000000000^i*x*wv (b.take k)->
   F.natural_num_times.L7 A1 n1 c1 A n c i x s A0 n0 c0 m i A1 n1 c1 n1 k w0.heap.size w R:=by
 intro d
 induction d with
 |zero=>
  intro k w ws s hd hk inv hw hs he
  have hkn:k=n1:=by omega
  subst hkn
  have eb:b.take k=b:=List.take_of_length_le (by omega)
  rw[eb]at he
  refine F.natural_num_times.L7.step _ _ _ _ _ _ _ _ _ _ _ _ _ _ _ _ _ _ _ _ _ _ ⟨fun h=>by omega,fun _=>⟨by simp only[inR];omega,by simp only[inR];omega,?_⟩⟩
  refine inv.own.store (by omega) (by omega) (by omega) rfl fun w1 o1 b1 _=>⟨by simp only[inR];omega,?_⟩
  have e:((i:Int)+(k:Int)).toNat=i+k:=by omega
  rw[e,Int.toNat_natCast]at o1
  have hl:=inv.own.len
  have hset:=wv_set ws (i+k) s (by omega)
  rw[inv.zero (i+k) (Nat.le_refl _)]at hset
  refine hR w1 _ ⟨o1,inv.small.set hs,fun j hj=> ?_⟩ (hw.trans b1) (by omega)
  rw[List.getD_eq_getElem?_getD,List.getElem?_set_ne (by omega),<-List.getD_eq_getElem?_getD]
  exact inv.zero j (by omega)
 |succ d ih=>
  intro k w ws s hd hk inv hw hs he
  have hl:=inv.own.len
  have gb:=hsb.getD k
  have go:=inv.small.getD (i+k)
  have e:((i:Int)+(k:Int)).toNat=i+k:=by omega
  obtain⟨y,hy⟩:∃y,y=b.getD k 0:=⟨_,rfl⟩
  obtain⟨z,hz⟩:∃z,z=ws.getD (i+k) 0:=⟨_,rfl⟩
  rw[<-hy]at gb
  rw[<-hz]at go
  have hxy:x*y<=999999999*999999999:=Nat.mul_le_mul (by omega) (by omega)
  have hxy2:(x:Int)*(y:Int)=((x*y:Nat):Int):=by simp
  refine F.natural_num_times.L7.step _ _ _ _ _ _ _ _ _ _ _ _ _ _ _ _ _ _ _ _ _ _ ⟨fun _=> ?_,fun h=>by omega⟩
  refine(hb.keep hw (Nat.le_refl _)).load hbl (by omega) (by omega) ?_
  rw[Int.toNat_natCast,<-hy,hxy2]
  refine⟨by simp only[inR];omega,by simp only[inR];omega,by simp only[inR];omega,by simp only[inR];omega,?_⟩
  refine inv.own.sl.load hl (by omega) (by omega) ?_
  rw[e,<-hz]
  refine⟨by simp only[inR];omega,by simp only[inR];omega,by simp only[inR];omega,by simp only[inR];omega,by omega,by simp only[inR];omega,?_⟩
  rw[<-e]
  refine inv.own.store (by omega) (by omega) (by omega) rfl fun w1 o1 b1 _=>⟨⟨by omega,by omega,by simp only[inR];omega⟩,by simp only[inR];omega,?_⟩
  obtain⟨t,ht⟩:∃t:Nat,t=s+(x*y+z):=⟨_,rfl⟩
  have et:(s:Int)+(((x*y:Nat):Int)+(z:Int))=((t:Nat):Int):=by omega
  rw[et]at o1⊢
  have e1:((t:Int) % 1000000000).toNat=t % 1000000000:=by omega
  have e2:(t:Int) / 1000000000=((t / 1000000000:Nat):Int):=by omega
  have e3:(k:Int)+1=((k+1:Nat):Int):=by omega
  rw[e,e1]at o1
  rw[e2,e3]
  have hset:=wv_set ws (i+k) (t % 1000000000) (by omega)
  rw[<-hz]at hset
  refine ih (k+1) w1 _ (t / 1000000000) (by omega) (by omega) ⟨o1,inv.small.set (by omega),fun j hj=> ?_⟩ (hw.trans b1) (by omega) ?_
  ·rw[List.getD_eq_getElem?_getD,List.getElem?_set_ne (by omega),<-List.getD_eq_getElem?_getD]
   exact inv.zero j (by omega)
  ·rw[wv_take_succ,<-hy]
   have hm:t % 1000000000+1000000000*(t / 1000000000)=s+(x*y+z):=by omega
   rw[show i+(k+1)=(i+k)+1 from rfl,Nat.pow_succ]
   have hp:1000000000^(i+k)=1000000000^i*1000000000^k:=Nat.pow_add _ _ _
   generalize t % 1000000000=r at*
   generalize t / 1000000000=q at*
   generalize wv (ws.set (i+k) r)=W' at*
   generalize wv ws=W at*
   generalize wv (List.take k b)=V at*
   rw[hp]at hset he⊢
   generalize 1000000000^i=P at*
   generalize 1000000000^k=Q at*
   clear hxy hxy2 et e1 e2 e3 o1 hz hy ht
   grind

theorem times_outer(ha:SlU w0 A0 a)(hal:a.length=n0)(hsa:Small a)(hb:SlU w0 A1 b)(hbl:b.length=n1)(hsb:Small b){A:Option Addr}{n c:Nat}(hn:n=n0+n1)(hn2:n<=1000000)
  (hR:∀m w,IsN w A m c (wv a*wv b)->OwnN w w0.heap.size A m c (wv a*wv b)->Below w0.heap.size w0 w->R (.slice A m c) w):
  ∀(d i:Nat)(w:World)(ws:List Nat),n0 - i=d->i<=n0->TimesInv w w0.heap.size A n c ws (i+n1)->Below w0.heap.size w0 w->wv ws=wv (a.take i)*wv b->
   F.natural_num_times.L3 A1 n1 c1 A n c A0 n0 c0 n0 i w0.heap.size w R:=by
 intro d
 induction d with
 |zero=>
  intro i w ws hd hi inv hw he
  have ea:a.take i=a:=List.take_of_length_le (by omega)
  rw[ea]at he
  refine F.natural_num_times.L3.step _ _ _ _ _ _ _ _ _ _ _ _ _ _ ⟨fun h=>by omega,fun _=> ?_⟩
  refine Pure.mono (natural_trim_own inv.own (by omega) inv.small) ?_
  rintro v w2 hb2 ⟨rfl,m,rfl,h,h2⟩
  rw[he]at h h2
  exact⟨A,m,c,rfl,hR m w2 h2 h hw⟩
 |succ d ih=>
  intro i w ws hd hi inv hw he
  refine F.natural_num_times.L3.step _ _ _ _ _ _ _ _ _ _ _ _ _ _ ⟨fun _=> ?_,fun h=>by omega⟩
  refine(ha.keep hw (Nat.le_refl _)).load hal (by omega) (by omega) ?_
  rw[Int.toNat_natCast]
  refine times_inner hb hbl hsb (hsa.getD i) (by omega) hn2 (base:=wv ws) (fun w1 ws1 k1 k2 k3=> ?_) n1 0 w ws 0 (by omega) (by omega) inv hw (by omega) (by simp[wv])
  have e3:(i:Int)+1=((i+1:Nat):Int):=by omega
  rw[e3]
  refine ih (i+1) w1 ws1 (by omega) (by omega) k1 k2 ?_
  rw[k3,he,wv_take_succ,Nat.add_mul]
end

theorem natural_times{w:World}{A0 A1:Option Addr}{n0 c0 n1 c1 x y:Nat}(ha:IsN w A0 n0 c0 x)(hb:IsN w A1 n1 c1 y)(hx:x<Lim)(hy:y<Lim):
  Pure Tryz.prog 257 #[.slice A0 n0 c0,.slice A1 n1 c1] w fun v w'=>∃A n c,v= .slice A n c/\IsN w' A n c (x*y)/\OwnN w' w.heap.size A n c (x*y):=by
 have l0:=ha.len hx
 have l1:=hb.len hy
 obtain⟨a,a1,a2,a3,a4,a5,a6,rfl⟩:=ha
 obtain⟨b,b1,b2,b3,b4,b5,b6,rfl⟩:=hb
 refine F.natural_num_times.vc _ _ _ _ _ _ _ _ ⟨by simp only[inR];omega,?_⟩
 refine runOk_make el_num El.zeroU32 rfl (by omega) (by omega) (Nat.le_refl _) fun A n w2 hn k1 _ k2=> ?_
 have hrep:OwnU w2 w.heap.size A n n (List.replicate n 0):=by
  unfold OwnU
  have:u32s (List.replicate n 0)=List.replicate n (.int .u32 0):=by simp[u32s]
  rw[this]
  exact k1
 refine times_outer a1 a2 a5 b1 b2 b5 (by omega) (by omega) (fun m w3 h1 h2 h3=>⟨A,m,n,rfl,h1,h2⟩) n0 0 w2 _ rfl (by omega) ⟨hrep,fun x hx=>by rw[List.eq_of_mem_replicate hx];omega,fun j _=> ?_⟩ k2 ?_
 ·rw[List.getD_eq_getElem?_getD,List.getElem?_replicate];split<;>rfl
 ·rw[wv_replicate];simp[wv]

def cmpI(a b:Int):Int:=if a<b then -1 else if a>b then 1 else 0

theorem cmp_int(a b:Int)(w:World):Pure Tryz.prog 45 #[.int .i64 a,.int .i64 b] w fun v _=>v= .int .i64 (cmpI a b):=by
 have nan:∀(a:Int)(w:World),Pure Tryz.prog 74 #[.int .i64 a] w fun v _=>v= .bool false:=fun a w=>F.cmp_isNaN_int.vc _ _ _ (by simp)
 refine F.cmp_Compare_int.vc _ _ _ _ (Pure.mono (nan _ _) ?_)
 rintro v w2 _ rfl
 refine⟨false,rfl,Pure.mono (nan _ _) ?_⟩
 rintro v w3 _ rfl
 refine⟨false,rfl,fun h=>(by cases h),fun _=>⟨fun h=>(by cases h),fun _=>⟨fun h=>by simp[cmpI,h],fun h=>⟨fun h2=>by simp[cmpI,h,h2],fun h2=>by simp[cmpI,h,h2]⟩⟩⟩⟩
theorem cmp_u32(a b:Int)(w:World):Pure Tryz.prog 306 #[.int .u32 a,.int .u32 b] w fun v _=>v= .int .i64 (cmpI a b):=by
 have nan:∀(a:Int)(w:World),Pure Tryz.prog 323 #[.int .u32 a] w fun v _=>v= .bool false:=fun a w=>F.cmp_isNaN_uint32.vc _ _ _ (by simp)
 refine F.cmp_Compare_uint32.vc _ _ _ _ (Pure.mono (nan _ _) ?_)
 rintro v w2 _ rfl
 refine⟨false,rfl,Pure.mono (nan _ _) ?_⟩
 rintro v w3 _ rfl
 refine⟨false,rfl,fun h=>(by cases h),fun _=>⟨fun h=>(by cases h),fun _=>⟨fun h=>by simp[cmpI,h],fun h=>⟨fun h2=>by simp[cmpI,h,h2],fun h2=>by simp[cmpI,h,h2]⟩⟩⟩⟩

theorem wv_drop(l:List Nat)(j:Nat):wv (l.drop j)=l.getD j 0+1000000000*wv (l.drop (j+1)):=by
 by_cases h:j<l.length
 ·rw[List.drop_eq_getElem_cons h,wv,List.getD_eq_getElem?_getD,List.getElem?_eq_getElem h];rfl
 ·rw[List.drop_eq_nil_of_le (by omega),List.drop_eq_nil_of_le (by omega),List.getD_eq_getElem?_getD,List.getElem?_eq_none (by omega)];rfl
theorem wv_split(l:List Nat)(j:Nat)(h:j<=l.length):wv l=wv (l.take j)+1000000000^j*wv (l.drop j):=by
 conv=>lhs;rw[<-List.take_append_drop j l]
 rw[wv_append,List.length_take,Nat.min_eq_left h]

theorem wv_lt_at{a b:List Nat}(hsa:Small a){j:Nat}(ha:j<a.length)(hb:j<b.length)(hd:a.drop (j+1)=b.drop (j+1))(h:a.getD j 0<b.getD j 0):wv a<wv b:=by
 rw[wv_split a j (by omega),wv_split b j (by omega),wv_drop a,wv_drop b,hd]
 have h1:=wv_lt (hsa.take j)
 rw[List.length_take,Nat.min_eq_left (by omega)]at h1
 have h2:1000000000^j*(a.getD j 0+1+1000000000*wv (b.drop (j+1)))<=1000000000^j*(b.getD j 0+1000000000*wv (b.drop (j+1))):=Nat.mul_le_mul_left _ (by omega)
 have h3:1000000000^j*(a.getD j 0+1+1000000000*wv (b.drop (j+1)))=1000000000^j+1000000000^j*(a.getD j 0+1000000000*wv (b.drop (j+1))):=by
  rw[show a.getD j 0+1+1000000000*wv (b.drop (j+1))=1+(a.getD j 0+1000000000*wv (b.drop (j+1))) by omega,Nat.mul_add,Nat.mul_one]
 omega
theorem wv_lt_len{a b:List Nat}(hsa:Small a)(hnb:Norm b)(h:a.length<b.length):wv a<wv b:=by
 have h1:=wv_lt hsa
 have h2:=wv_pos hnb (fun k=>by subst k;simp at h)
 have h3:1000000000^a.length<=1000000000^(b.length - 1):=Nat.pow_le_pow_right (by omega) (by omega)
 omega

theorem Ext.nilSl{w w':World}{B:Nat}{A:Option Addr}{ws:List Nat}(h:SlU w A ws)(he:Ext B [] w w'):SlU w' A ws:=h.ext he (by simp)

theorem compare_loop{w0:World}{A0 A1:Option Addr}{n0 c0 n1 c1:Nat}{a b:List Nat}{R:Value->World->Prop}(ha:SlU w0 A0 a)(hal:a.length=n0)(hsa:Small a)(hb:SlU w0 A1 b)(hbl:b.length=n1)(hsb:Small b)(hnn:n0=n1)(hn:n0<=1000000)
  (hR:∀w,R (.int .i64 (cmpI (wv a) (wv b))) w):
  ∀(i:Nat)(w:World),i<=n0->Below w0.heap.size w0 w->a.drop i=b.drop i->F.natural_num_compare.L4 A0 n0 c0 A1 n1 c1 ((i:Int) - 1) w0.heap.size w R:=by
 intro i
 induction i with
 |zero=>
  intro w hi hw hd
  refine F.natural_num_compare.L4.step _ _ _ _ _ _ _ _ _ _ ⟨fun h=>by omega,fun _=> ?_⟩
  have:=hR w
  have e:a=b:=by simpa using hd
  subst e
  simpa[cmpI]using this
 |succ i ih=>
  intro w hi hw hd
  have e:((i+1:Nat):Int) - 1=i:=by omega
  rw[e]
  refine F.natural_num_compare.L4.step _ _ _ _ _ _ _ _ _ _ ⟨fun _=> ?_,fun h=>by omega⟩
  refine(ha.keep hw (Nat.le_refl _)).load hal (by omega) (by omega) ?_
  refine(hb.keep hw (Nat.le_refl _)).load hbl (by omega) (by omega) ?_
  rw[Int.toNat_natCast]
  refine⟨fun h w2 e2=> ?_,fun h=>⟨by simp only[inR];omega,fun w2 e2=> ?_⟩⟩
  ·have hw2:=hw.trans e2.below
   refine(ha.keep hw2 (Nat.le_refl _)).load hal (by omega) (by omega) ?_
   refine(hb.keep hw2 (Nat.le_refl _)).load hbl (by omega) (by omega) fun w3 e3=> ?_
   rw[Int.toNat_natCast]
   refine Pure.mono (cmp_u32 _ _ _) ?_
   rintro v w4 _ rfl
   refine⟨_,rfl,?_⟩
   have:=hR w4
   have ec:cmpI (a.getD i 0:Nat) (b.getD i 0:Nat)=cmpI (wv a) (wv b):=by
    rcases(by omega:a.getD i 0<b.getD i 0∨b.getD i 0<a.getD i 0)with h1|h1
    ·have h2:=wv_lt_at hsa (by omega) (by omega) hd h1
     simp only[cmpI]
     rw[if_pos (by omega),if_pos (by omega)]
    ·have h2:=wv_lt_at hsb (by omega) (by omega) hd.symm h1
     simp only[cmpI]
     rw[if_neg (by omega),if_pos (by omega),if_neg (by omega),if_pos (by omega)]
   rw[ec]
   exact this
  ·refine ih w2 (by omega) (hw.trans e2.below) ?_
   have h1:a.getD i 0=b.getD i 0:=by omega
   rw[List.drop_eq_getElem_cons (by omega:i<a.length),List.drop_eq_getElem_cons (by omega:i<b.length),hd]
   congr 1
   rw[List.getD_eq_getElem?_getD,List.getD_eq_getElem?_getD,List.getElem?_eq_getElem (by omega),List.getElem?_eq_getElem (by omega)]at h1
   exact h1

theorem natural_compare{w:World}{A0 A1:Option Addr}{n0 c0 n1 c1 x y:Nat}(ha:IsN w A0 n0 c0 x)(hb:IsN w A1 n1 c1 y)(hx:x<Lim)(hy:y<Lim):
  Pure Tryz.prog 282 #[.slice A0 n0 c0,.slice A1 n1 c1] w fun v _=>v= .int .i64 (cmpI x y):=by
 have l0:=ha.len hx
 have l1:=hb.len hy
 obtain⟨a,a1,a2,a3,a4,a5,a6,rfl⟩:=ha
 obtain⟨b,b1,b2,b3,b4,b5,b6,rfl⟩:=hb
 refine F.natural_num_compare.vc _ _ _ _ _ _ _ _ ⟨fun h=>Pure.mono (cmp_int _ _ _) ?_,fun h=>⟨by simp only[inR];omega,?_⟩⟩
 ·rintro v w4 _ rfl
  refine⟨_,rfl,?_⟩
  congr 1
  rcases(by omega:n0<n1∨n1<n0)with h1|h1
  ·have h2:=wv_lt_len a5 b6 (by omega)
   simp only[cmpI]
   rw[if_pos (by omega),if_pos (by omega)]
  ·have h2:=wv_lt_len b5 a6 (by omega)
   simp only[cmpI]
   rw[if_neg (by omega),if_pos (by omega),if_neg (by omega),if_pos (by omega)]
 ·refine compare_loop a1 a2 a5 b1 b2 b5 (by omega) (by omega) (fun w=>rfl) n0 w (Nat.le_refl _) (Below.refl _ _) ?_
  rw[List.drop_eq_nil_of_le (by omega),List.drop_eq_nil_of_le (by omega)]

theorem small_iff{ws:List Nat}(hs:Small ws)(hn:Norm ws):ws.length<=2↔wv ws<1000000000000000000:=by
 constructor
 ·intro h
  have h1:=wv_lt hs
  have h2:1000000000^ws.length<=1000000000^2:=Nat.pow_le_pow_right (by omega) h
  omega
 ·intro h
  apply Decidable.byContradiction
  intro h1
  have h2:=wv_pos hn (fun k=>by subst k;simp at h1)
  have h3:1000000000^2<=1000000000^(ws.length - 1):=Nat.pow_le_pow_right (by omega) (by omega)
  omega

theorem natural_small{w:World}{A0:Option Addr}{n0 c0 x:Nat}(ha:IsN w A0 n0 c0 x):
  Pure Tryz.prog 288 #[.slice A0 n0 c0] w fun v _=>v= .tuple #[.int .u64 (if x<1000000000000000000 then x else 0:Nat),.bool (decide (x<1000000000000000000))]:=by
 obtain⟨a,a1,a2,a3,a4,a5,a6,rfl⟩:=ha
 have hiff:=small_iff a5 a6
 refine F.natural_num_small.vc _ _ _ _ _ ⟨fun h=> ?_,fun h=>⟨fun h1=> ?_,fun h1=>⟨fun h2=> ?_,fun h2=> ?_⟩⟩⟩
 ·have:a=[]:=List.eq_nil_of_length_eq_zero (by omega)
  subst this
  simp[wv]
 ·have g:a.getD (Int.toNat 0) 0<1000000000:=a5.getD 0
  refine a1.load a2 (by omega) (by omega) ⟨by simp only[inR];omega,?_⟩
  obtain⟨x,rfl⟩:=List.length_eq_one_iff.1 (by omega:a.length=1)
  have:x<1000000000000000000:=by simp at g;omega
  simp[wv,this]
 ·have g:a.getD (Int.toNat 0) 0<1000000000:=a5.getD 0
  have g1:a.getD (Int.toNat 1) 0<1000000000:=a5.getD 1
  refine a1.load a2 (by omega) (by omega) ⟨by simp only[inR];omega,a1.load a2 (by omega) (by omega) ⟨by simp only[inR];omega,by simp only[inR];omega,by simp only[inR];omega,fun w2 e2=> ?_⟩⟩
  match a,(by omega:a.length=2)with
  |[x,y],_=>
   have:x+1000000000*y<1000000000000000000:=by simp at g g1;omega
   simp[wv,this]
 ·have:¬wv a<1000000000000000000:=fun k=>by have:=hiff.2 k;omega
  simp[this]

theorem natural_of {w : World} {x : Nat} (hx : x < 1000000000000000000) :
    Pure Tryz.prog 289 #[.int .u64 (x : Int)] w fun v w' => ∃ A n c, v = .slice A n c ∧ IsN w' A n c x := by
  refine F.natural_of.vc _ _ _ ⟨by omega, by simp only [inR]; omega, ⟨by omega, by omega, by simp only [inR]; omega⟩, by simp only [inR]; omega, ?_⟩
  have hr := run_buildAll el_num [.int .u32 ((x : Int) % 1000000000), .int .u32 ((x : Int) / 1000000000)] (by intro v hv; rcases List.mem_cons.1 hv with rfl | hv; · rfl
                                                                                                              · rcases List.mem_cons.1 hv with rfl | hv; · rfl
                                                                                                                · cases hv) (by simp) w
  have hg := World.grownBy_alloc w (.cells #[.int .u32 ((x : Int) % 1000000000), .int .u32 ((x : Int) / 1000000000)] 217) none
  have hbel := below_grown hg (B := w.heap.size) (by simp) (Nat.le_refl _)
  refine ⟨_, _, hr, hbel, hbel.size, fun k ty cs _ hk => hg.block k (Array.getElem?_eq_some_iff.1 hk).1 (by simp), _, _, _, rfl, ?_⟩
  have hown : OwnU (w.alloc (.cells #[.int .u32 ((x : Int) % 1000000000), .int .u32 ((x : Int) / 1000000000)] 217)) w.heap.size (some ⟨w.heap.size, 0, none⟩) 2 2 [x % 1000000000, x / 1000000000] := by
    refine ⟨by simp [u32s], .inr ⟨w.heap.size, 2, _, rfl, Nat.le_refl _, heap_alloc_new w _, Nat.le_refl _, by simp [maxLen], by simp, by simp [u32s]⟩⟩
  refine Pure.mono (natural_trim_own hown (by simp) (Small.cons (by omega) (Small.cons (by omega) Small.nil))) ?_
  rintro v w2 hb2 ⟨rfl, m, rfl, h, h2⟩
  refine ⟨_, _, _, rfl, _, _, _, rfl, ?_⟩
  have e : wv [x % 1000000000, x / 1000000000] = x := by simp only [wv]; omega
  rw [e] at h2
  exact h2

theorem by_loop{w0:World}{A0:Option Addr}{n0 c0:Nat}{a:List Nat}{R:Value->World->Prop}(ha:SlU w0 A0 a)(hal:a.length=n0)(hsa:Small a)(hn:n0<=1000000){d:Nat}(hd:0<d)(hd2:d<=1000000000){A:Option Addr}{c:Nat}
  (hR:∀A n c A' n' c' w,IsN w A n c (wv a / d)->IsN w A' n' c' (wv a % d)->R (.tuple #[.slice A n c,.slice A' n' c']) w):
  ∀(i:Nat)(w:World)(ws:List Nat)(r:Nat),i<=n0->Below w0.heap.size w0 w->OwnU w w0.heap.size A n0 c ws->Small ws->r<d->wv (ws.drop i)*d+r=wv (a.drop i)->
   F.natural_num_by.L4 A0 n0 c0 d A n0 c r ((i:Int) - 1) w0.heap.size w R:=by
 intro i
 induction i with
 |zero=>
  intro w ws r hi hw ho hs hr he
  refine F.natural_num_by.L4.step _ _ _ _ _ _ _ _ _ _ _ _ ⟨fun h=>by omega,fun _=> ?_⟩
  refine Pure.mono (natural_trim_own ho (by omega) hs) ?_
  rintro v w2 hb2 ⟨rfl,m,rfl,h,h2⟩
  refine⟨_,_,_,rfl,Pure.mono (natural_of (by omega)) ?_⟩
  rintro v w3 hb3 ⟨A3,n3,c3,rfl,h3⟩
  refine⟨_,_,_,rfl,?_⟩
  simp only[List.drop_zero]at he
  have e1:wv a / d=wv ws:=by rw[<-he,Nat.mul_comm,Nat.mul_add_div hd,Nat.div_eq_of_lt hr,Nat.add_zero]
  have e2:wv a % d=r:=by rw[<-he,Nat.mul_comm,Nat.mul_add_mod,Nat.mod_eq_of_lt hr]
  exact hR _ _ _ _ _ _ _ (by rw[e1];exact h2.below hb3) (by rw[e2];exact h3)
 |succ i ih=>
  intro w ws r hi hw ho hs hr he
  have e:((i+1:Nat):Int) - 1=i:=by omega
  have g:=hsa.getD i
  rw[e]
  refine F.natural_num_by.L4.step _ _ _ _ _ _ _ _ _ _ _ _ ⟨fun _=>⟨by simp only[inR];omega,?_⟩,fun h=>by omega⟩
  refine(ha.keep hw (Nat.le_refl _)).load hal (by omega) (by omega) ?_
  rw[Int.toNat_natCast]
  obtain⟨t,ht⟩:∃t:Nat,t=r*1000000000+a.getD i 0:=⟨_,rfl⟩
  have et:(r:Int)*1000000000+((a.getD i 0:Nat):Int)=(t:Int):=by omega
  have hq:t / d<1000000000:=by
   rw[Nat.div_lt_iff_lt_mul hd]
   have:(r+1)*1000000000<=d*1000000000:=Nat.mul_le_mul_right _ (by omega)
   omega
  have eq:(t:Int) / (d:Int)=((t / d:Nat):Int):=by simp
  have em:(t:Int) % (d:Int)=((t % d:Nat):Int):=by simp
  have hdm:=Nat.div_add_mod t d
  have hml:=Nat.mod_lt t hd
  rw[et,eq,em]
  clear eq em
  generalize t / d=q at*
  generalize t % d=r' at*
  refine⟨by simp only[inR];omega,by simp only[inR];omega,⟨by omega,by omega,by simp only[inR];omega⟩,by simp only[inR];omega,?_⟩
  refine ho.store (by omega) (by omega) (by omega) rfl fun w1 o1 b1 _=>⟨⟨by omega,by omega⟩,by simp only[inR];omega,?_⟩
  rw[Int.toNat_natCast,Int.toNat_natCast]at o1
  have hl:=ho.len
  refine ih w1 _ _ (by omega) (hw.trans b1) o1 (hs.set hq) hml ?_
  rw[wv_drop,wv_drop a,<-he,List.drop_set,if_pos (by omega)]
  rw[List.getD_eq_getElem?_getD,List.getElem?_set_self (by omega)]
  simp only[Option.getD_some]
  generalize wv (List.drop (i+1) ws)=V
  clear et o1 hq he hml
  grind

theorem natural_by{w:World}{A0:Option Addr}{n0 c0 x d:Nat}(ha:IsN w A0 n0 c0 x)(l0:n0<=1000000)(hd:0<d)(hd2:d<=1000000000):
  Pure Tryz.prog 309 #[.slice A0 n0 c0,.int .u64 (d:Int)] w fun v w'=>∃A n c A' n' c',v= .tuple #[.slice A n c,.slice A' n' c']/\IsN w' A n c (x / d)/\IsN w' A' n' c' (x % d):=by
 obtain⟨a,a1,a2,a3,a4,a5,a6,rfl⟩:=ha
 refine F.natural_num_by.vc _ _ _ _ _ _ ?_
 refine runOk_make el_num El.zeroU32 rfl (by omega) (by omega) (Nat.le_refl _) fun A n w2 hn k1 _ k2=>⟨by simp only[inR];omega,?_⟩
 have hn':n=n0:=by omega
 subst hn'
 have hrep:OwnU w2 w.heap.size A n n (List.replicate n 0):=by
  unfold OwnU
  have:u32s (List.replicate n 0)=List.replicate n (.int .u32 0):=by simp[u32s]
  rw[this]
  exact k1
 refine by_loop a1 a2 a5 (by omega) hd hd2 (fun A n c A' n' c' w h1 h2=>⟨A,n,c,A',n',c',rfl,h1,h2⟩) n w2 _ 0 (Nat.le_refl _) k2 hrep (fun x hx=>by rw[List.eq_of_mem_replicate hx];omega) hd ?_
 rw[List.drop_eq_nil_of_le (by simp),List.drop_eq_nil_of_le (by omega)]
 simp[wv]

theorem guess_ge{top u2 low M v1 v2 vl q:Nat}(hu:u2<1000000000)(hl:low<M)(h:q*((v1*1000000000+v2)*M+vl)<=(top*1000000000+u2)*M+low):q*v1<=top:=by
 apply Decidable.byContradiction
 intro hn
 have h1:(top+1)*(1000000000*M)<=q*v1*(1000000000*M):=Nat.mul_le_mul_right _ (by omega)
 have h2:q*v1*(1000000000*M)<=q*((v1*1000000000+v2)*M+vl):=by
  have:q*((v1*1000000000+v2)*M+vl)=q*v1*(1000000000*M)+q*(v2*M+vl):=by grind
  omega
 have h3:(top*1000000000+u2)*M+M<=(top+1)*(1000000000*M):=by
  have a:(top*1000000000+u2+1)*M<=((top+1)*1000000000)*M:=Nat.mul_le_mul_right _ (by omega)
  grind
 omega

theorem guess_gt{top u2 low M v1 v2 vl q g rest:Nat}(hl:low<M)(h:q*((v1*1000000000+v2)*M+vl)<=(top*1000000000+u2)*M+low)(hg:g*v1+rest=top)(hq:q<=g)
  (ht:g*v2>rest*1000000000+u2):q<g:=by
 rcases Nat.lt_or_ge q g with h1|h1
 ·exact h1
 ·have e:q=g:=by omega
  subst e
  have h2:(top*1000000000+u2+1)*M<=(q*(v1*1000000000+v2))*M:=Nat.mul_le_mul_right _ (by grind)
  have h3:q*((v1*1000000000+v2)*M+vl)=(q*(v1*1000000000+v2))*M+q*vl:=by grind
  have h4:(top*1000000000+u2+1)*M=(top*1000000000+u2)*M+M:=by grind
  omega

theorem guess_le{top u2 low M v1 v2 vl g rest:Nat}(hl:vl<M)(hv:1<=v1)(hg:g*v1+rest=top)(hb:g<=1000000000)(ht:g*v2<=rest*1000000000+u2):
  g*((v1*1000000000+v2)*M+vl)<((top*1000000000+u2)*M+low)+((v1*1000000000+v2)*M+vl):=by
 have h1:(g*(v1*1000000000+v2))*M<=(top*1000000000+u2)*M:=Nat.mul_le_mul_right _ (by grind)
 have h2:g*((v1*1000000000+v2)*M+vl)=(g*(v1*1000000000+v2))*M+g*vl:=by grind
 have h3:g*vl<=1000000000*vl:=Nat.mul_le_mul_right _ hb
 have h4:1*(1000000000*M)<=v1*(1000000000*M):=Nat.mul_le_mul_right _ hv
 have h5:(v1*1000000000+v2)*M=v1*(1000000000*M)+v2*M:=by grind
 omega

theorem guess_first{top u2 low M v1 v2 vl g:Nat}(hM:0<M)(h2:v2<1000000000)(hl:vl<M)(hn:1000000000<=2*v1)(hT:(top*1000000000+u2)*M+low<1000000000*((v1*1000000000+v2)*M+vl))(hg:g*v1<=top):g<=1000000001:=by
 have h1:top*M<(v1*1000000000+v2+1)*M:=by grind
 have h3:top<v1*1000000000+v2+1:=Nat.lt_of_mul_lt_mul_right h1
 apply Decidable.byContradiction
 intro h4
 have h5:1000000002*v1<=g*v1:=Nat.mul_le_mul_right _ (by omega)
 omega

theorem factor_half{v f:Nat}(hv:1<=v)(hv2:v<1000000000)(hf:f=1000000000 / (v+1)):1<=f/\(v+1)*f<=1000000000/\1000000000<=2*(v*f):=by
 have h0:=Nat.div_add_mod 1000000000 (v+1)
 have h1:=Nat.mod_lt 1000000000 (show 0<v+1 by omega)
 rw[<-hf]at h0
 have hf1:1<=f:=by
  rw[hf]
  exact(Nat.one_le_div_iff (by omega)).2 (by omega)
 refine⟨hf1,by omega,?_⟩
 obtain⟨a,rfl⟩:∃a,v=a+1:=⟨v - 1,by omega⟩
 obtain⟨b,rfl⟩:∃b,f=b+1:=⟨f - 1,by omega⟩
 have e1:(a+1+1)*(b+1)=(a+1)*(b+1)+(b+1):=by grind
 have e2:(a+1)*(b+1)=a*b+a+b+1:=by grind
 omega

theorem sub_word{P Q W W' V g vi c br D x c' br':Nat}(h:W'+g*V=Q+P*(c+br))(hset:W+P*D=W'+P*x)(hx:x+(g*vi+c) % 1000000000+br=D+1000000000*br')(hc:c'=(g*vi+c) / 1000000000):
  W+g*(V+P*vi)=Q+(P*1000000000)*(c'+br'):=by
 have hdm:=Nat.div_add_mod (g*vi+c) 1000000000
 rw[<-hc]at hdm
 generalize (g*vi+c) % 1000000000=m at*
 have e:P*x+P*m+P*br=P*D+P*(1000000000*br'):=by rw[<-Nat.mul_add,<-Nat.mul_add,hx,Nat.mul_add]
 have e2:P*(1000000000*c')+P*m=P*(g*vi)+P*c:=by rw[<-Nat.mul_add,hdm,Nat.mul_add]
 clear hx hdm hc
 grind

theorem add_word{P Q W W' V vi c D x c':Nat}(h:W'+P*c=Q+V)(hset:W+P*D=W'+P*x)(hx:x=(c+(D+vi)) % 1000000000)(hc:c'=(c+(D+vi)) / 1000000000):
  W+(P*1000000000)*c'=Q+(V+P*vi):=by
 have hdm:=Nat.div_add_mod (c+(D+vi)) 1000000000
 rw[<-hc,<-hx]at hdm
 have e2:P*(1000000000*c')+P*x=P*c+(P*D+P*vi):=by rw[<-Nat.mul_add,hdm,Nat.mul_add,Nat.mul_add]
 clear hx hdm hc
 grind

theorem wv_top{D:List Nat}{k:Nat}(hk:k<=D.length)(hs:Small D)(h:wv D<1000000000^(k+1)):wv D=wv (D.take k)+1000000000^k*D.getD k 0/\wv (D.take k)<1000000000^k:=by
 have h1:=wv_split D k hk
 rw[wv_drop]at h1
 have h2:=wv_lt (hs.take k)
 rw[List.length_take,Nat.min_eq_left hk]at h2
 have h3:wv (D.drop (k+1))=0:=by
  apply Decidable.byContradiction
  intro h3
  have h4:1000000000^k*(1000000000*1)<=1000000000^k*(1000000000*wv (D.drop (k+1))):=Nat.mul_le_mul_left _ (Nat.mul_le_mul_left _ (by omega))
  rw[Nat.mul_add]at h1
  rw[Nat.pow_succ]at h
  omega
 rw[h3]at h1
 exact⟨by simpa using h1,h2⟩

theorem OwnU.other{w w':World}{B:Nat}{A:Option Addr}{n c:Nat}{ws:List Nat}(h:OwnU w B A n c ws)(hh:∀b,Value.ownBlock (.slice A n c)=some b->w'.heap[b]? =w.heap[b]?):OwnU w' B A n c ws:=by
 refine⟨h.1,?_⟩
 rcases h.2 with h1|⟨g,cap,cur,h1,h2,h3,h4⟩
 ·exact .inl h1
 ·refine .inr ⟨g,cap,cur,h1,h2,?_,h4⟩
  rw[hh g (by rw[h1];rfl)]
  exact h3
theorem OwnU.blk{w:World}{B:Nat}{A:Option Addr}{n c:Nat}{ws:List Nat}(h:OwnU w B A n c ws):∀b,Value.ownBlock (.slice A n c)=some b->B<=b/\b<w.heap.size:=World.ownsRow.lt h

theorem app_getD{pre D:List Nat}{j i:Nat}(h:pre.length=j):(pre++D).getD (i+j) 0=D.getD i 0:=by
 rw[List.getD_eq_getElem?_getD,List.getElem?_append_right (by omega),List.getD_eq_getElem?_getD]
 congr 2;omega
theorem app_set{pre D:List Nat}{j i x:Nat}(h:pre.length=j):(pre++D).set (i+j) x=pre++D.set i x:=by
 rw[List.set_append_right _ _ (by omega)]
 congr 2;omega
theorem getD_set_ne{D:List Nat}{i t x:Nat}(h:i≠t):(D.set i x).getD t 0=D.getD t 0:=by
 rw[List.getD_eq_getElem?_getD,List.getElem?_set_ne h,<-List.getD_eq_getElem?_getD]

theorem getD_of_drop{D D0:List Nat}{k:Nat}(h:D.drop k=D0.drop k):D.getD k 0=D0.getD k 0:=by
 have e:∀l:List Nat,l.getD k 0=(l.drop k).getD 0 0:=fun l=>by rw[List.getD_eq_getElem?_getD,List.getD_eq_getElem?_getD,List.getElem?_drop,Nat.add_zero]
 rw[e D,e D0,h]

structure Div (w1 w:World) (B:Nat) (Au:Option Addr) (nu cu:Nat) (us:List Nat) (Aq:Option Addr) (nq cq:Nat) (qs:List Nat):Prop where
 u:OwnU w B Au nu cu us
 q:OwnU w B Aq nq cq qs
 su:Small us
 sq:Small qs
 fr:∀k,k<w1.heap.size->some k≠Value.ownBlock (.slice Au nu cu)->some k≠Value.ownBlock (.slice Aq nq cq)->w.heap[k]? =w1.heap[k]?
 below:Below B w1 w

section
variable {w1 w:World} {B:Nat} {Au:Option Addr} {nu cu:Nat} {us:List Nat} {Aq:Option Addr} {nq cq:Nat} {qs:List Nat}

def Sep(A Au Aq:Option Addr)(nu cu nq cq:Nat):Prop:=∀a,A=some a->some a.block≠Value.ownBlock (.slice Au nu cu)/\some a.block≠Value.ownBlock (.slice Aq nq cq)
def Apart(Au Aq:Option Addr):Prop:=∀a b,Au=some a->Aq=some b->a.block≠b.block

theorem Div.sl(h:Div w1 w B Au nu cu us Aq nq cq qs){A:Option Addr}{ws:List Nat}(hs:SlU w1 A ws)(hsep:Sep A Au Aq nu cu nq cq):SlU w A ws:=by
 rcases hs with h1|⟨b,off,all,fr,hA,hb,hc⟩
 ·exact .inl h1
 ·refine .inr ⟨b,off,all,fr,hA,?_,hc⟩
  have h2:=hsep _ hA
  rw[h.fr b (Array.getElem?_eq_some_iff.1 hb).1 h2.1 h2.2]
  exact hb

theorem Div.ext(h:Div w1 w B Au nu cu us Aq nq cq qs){w2:World}(e:Ext B [] w w2):Div w1 w2 B Au nu cu us Aq nq cq qs:=by
 have same:∀k,k<w.heap.size->w2.heap[k]? =w.heap[k]? :=fun k hk=>by
  rcases e.other k hk with h1|⟨t,ht,_⟩
  ·exact h1
  ·cases ht
 exact⟨h.u.other fun b hb=>same b (h.u.blk b hb).2,h.q.other fun b hb=>same b (h.q.blk b hb).2,h.su,h.sq,
  fun k hk h1 h2=>by rw[same k (Nat.lt_of_lt_of_le hk h.below.size)];exact h.fr k hk h1 h2,h.below.trans e.below⟩

theorem Div.storeU(h:Div w1 w B Au nu cu us Aq nq cq qs)(ha:Apart Au Aq){j x:Int}(h0:0<=j)(h1:j<nu)(hx:0<=x)(hx2:x<1000000000){K:World->Prop}
  (k:∀w2,Div w1 w2 B Au nu cu (us.set j.toNat x.toNat) Aq nq cq qs->K w2):
  (0<=j/\j<nu)/\∃a,Au=some a/\∃(cs:List Value)(t:Nat),B<=(a.add (j.toNat*1)).block/\(a.add (j.toNat*1)).spot=none/\w.heap[(a.add (j.toNat*1)).block]? =some (.cells cs.toArray t (0,0))/\
   (a.add (j.toNat*1)).off+1<=cs.length/\hasType t []=false/\∀w1,Wrote w w1 (a.add (j.toNat*1)).block t (setCells cs (a.add (j.toNat*1)).off [.int .u32 x])->K w1:=by
 refine h.u.store h0 h1 hx rfl fun w2 o1 b1 f1=>k w2 ⟨o1,h.q.other fun b hb=>f1 b ?_,h.su.set (by omega),h.sq,fun k hk h1 h2=>by rw[f1 k h1];exact h.fr k hk h1 h2,h.below.trans b1⟩
 intro e
 cases Au with
 |none=>simp[Value.ownBlock]at e
 |some a=>cases Aq with
  |none=>simp[Value.ownBlock]at hb
  |some a'=>
   simp[Value.ownBlock]at e hb
   exact ha _ _ rfl rfl (by omega)

theorem Div.storeQ(h:Div w1 w B Au nu cu us Aq nq cq qs)(ha:Apart Au Aq){j x:Int}(h0:0<=j)(h1:j<nq)(hx:0<=x)(hx2:x<1000000000){K:World->Prop}
  (k:∀w2,Div w1 w2 B Au nu cu us Aq nq cq (qs.set j.toNat x.toNat)->K w2):
  (0<=j/\j<nq)/\∃a,Aq=some a/\∃(cs:List Value)(t:Nat),B<=(a.add (j.toNat*1)).block/\(a.add (j.toNat*1)).spot=none/\w.heap[(a.add (j.toNat*1)).block]? =some (.cells cs.toArray t (0,0))/\
   (a.add (j.toNat*1)).off+1<=cs.length/\hasType t []=false/\∀w1,Wrote w w1 (a.add (j.toNat*1)).block t (setCells cs (a.add (j.toNat*1)).off [.int .u32 x])->K w1:=by
 refine h.q.store h0 h1 hx rfl fun w2 o1 b1 f1=>k w2 ⟨h.u.other fun b hb=>f1 b ?_,o1,h.su,h.sq.set (by omega),fun k hk h1 h2=>by rw[f1 k h2];exact h.fr k hk h1 h2,h.below.trans b1⟩
 intro e
 cases Aq with
 |none=>simp[Value.ownBlock]at e
 |some a=>cases Au with
  |none=>simp[Value.ownBlock]at hb
  |some a'=>
   simp[Value.ownBlock]at e hb
   exact ha _ _ rfl rfl (by omega)
end

section
variable {w1:World} {B:Nat} {Af Au Av Aq:Option Addr} {nf cf nu cu nv cv nq cq:Nat} {vs:List Nat} {R:Value->World->Prop}

theorem div_J49(ha:Apart Au Aq)(hn:nu<=1000000){w:World}{pre D qs:List Nat}{g j:Nat}{last:Int}(h:Div w1 w B Au nu cu (pre++D) Aq nq cq qs)(hj:pre.length=j)(hk:nv<D.length)(hg:g<1000000000)(hq:j<nq)(hl:last<1000000000)
  (hR:∀w2,Div w1 w2 B Au nu cu (pre++D.set nv last.toNat) Aq nq cq (qs.set j g)->F.natural_num_divide.L16 Af nf cf Au nu cu Av nv cv nv Aq nq cq ((j:Int) - 1) B w2 R):
  F.natural_num_divide.J49 Af nf cf Au nu cu Av nv cv nv Aq nq cq j g last B w R:=by
 have hul:=h.u.len
 simp only[List.length_append]at hul
 have e:(if(0:Int)>last then(0:Int)else last)=(last.toNat:Int):=by split<;>omega
 refine F.natural_num_divide.J49.step _ _ _ _ _ _ _ _ _ _ _ _ _ _ _ _ _ _ _ ⟨by simp only[inR];omega,by rw[e];simp only[inR];omega,?_⟩
 rw[e]
 refine h.storeU ha (by omega) (by omega) (by omega) (by omega) fun w2 h2=>⟨by simp only[inR];omega,?_⟩
 have e2:((j:Int)+(nv:Int)).toNat=nv+j:=by omega
 rw[e2,Int.toNat_natCast,app_set hj]at h2
 refine h2.storeQ ha (by omega) (by omega) (by omega) (by omega) fun w3 h3=>⟨by simp only[inR];omega,?_⟩
 rw[Int.toNat_natCast,Int.toNat_natCast]at h3
 exact hR w3 h3

theorem div_L42(ha:Apart Au Aq)(hn:nu<=1000000)(hv:SlU w1 Av vs)(hvl:vs.length=nv)(hsv:Small vs)(hsep:Sep Av Au Aq nu cu nq cq){pre D0 qs:List Nat}{g j:Nat}{last:Int}(hj:pre.length=j)(hk:nv<D0.length)(hlast: -2000000000<=last/\last<0)
  (hR:∀w D (up:Nat),Div w1 w B Au nu cu (pre++D) Aq nq cq qs->D.length=D0.length->up<=1->D.drop nv=D0.drop nv->wv D+1000000000^nv*up=wv D0+wv vs->
   F.natural_num_divide.J49 Af nf cf Au nu cu Av nv cv nv Aq nq cq j g (last+up) B w R):
  ∀(d i:Nat)(w:World)(D:List Nat)(up:Nat),nv - i=d->i<=nv->Div w1 w B Au nu cu (pre++D) Aq nq cq qs->D.length=D0.length->up<=1->D.drop nv=D0.drop nv->wv D+1000000000^i*up=wv D0+wv (vs.take i)->
   F.natural_num_divide.L42 Af nf cf Au nu cu Av nv cv nv Aq nq cq j g last up nv i B w R:=by
 intro d
 induction d with
 |zero=>
  intro i w D up hd hi h hl hu hk2 he
  have hin:i=nv:=by omega
  subst hin
  rw[List.take_of_length_le (by omega)]at he
  refine F.natural_num_divide.L42.step _ _ _ _ _ _ _ _ _ _ _ _ _ _ _ _ _ _ _ _ _ _ ⟨fun h=>by omega,fun _=>⟨by simp only[inR];omega,by simp only[inR];omega,?_⟩⟩
  exact hR w D up h hl hu hk2 he
 |succ d ih=>
  intro i w D up hd hi h hl hu hk2 he
  have hul:=h.u.len
  have hul2:=hul
  simp only[List.length_append]at hul
  have gv:=hsv.getD i
  have gu:=h.su.getD (i+j)
  have e2:((i:Int)+(j:Int)).toNat=i+j:=by omega
  rw[app_getD hj]at gu
  refine F.natural_num_divide.L42.step _ _ _ _ _ _ _ _ _ _ _ _ _ _ _ _ _ _ _ _ _ _ ⟨fun _=>⟨by simp only[inR];omega,?_⟩,fun h=>by omega⟩
  refine h.u.sl.load hul2 (by omega) (by omega) ⟨by rw[e2,app_getD hj];simp only[inR];omega,?_⟩
  refine(h.sl hv hsep).load hvl (by omega) (by omega) ?_
  rw[e2,Int.toNat_natCast,app_getD hj]
  refine⟨by simp only[inR];omega,by simp only[inR];omega,by simp only[inR];omega,by simp only[inR];omega,by omega,by simp only[inR];omega,?_⟩
  have hown:∃a,Au=some a:=by
   obtain⟨a,hA,_⟩:=h.u.sl.cell (j:=(i:Int)+j) (by omega) (by omega)
   exact⟨a,hA⟩
  obtain⟨a,rfl⟩:=hown
  have step:∀w3,Div w1 w3 B (some a) nu cu ((pre++D).set ((i:Int)+(j:Int)).toNat ((((up:Int)+((D.getD i 0:Nat)+(vs.getD i 0:Nat))) % 1000000000)).toNat) Aq nq cq qs->
    F.natural_num_divide.L42 Af nf cf (some a) nu cu Av nv cv nv Aq nq cq j g last (((up:Int)+((D.getD i 0:Nat)+(vs.getD i 0:Nat))) / 1000000000) nv ((i:Int)+1) B w3 R:=by
   intro w3 h3
   obtain⟨t,ht⟩:∃t,t=up+(D.getD i 0+vs.getD i 0):=⟨_,rfl⟩
   have et:(up:Int)+((D.getD i 0:Nat)+(vs.getD i 0:Nat))=(t:Int):=by omega
   have e3:(i:Int)+1=((i+1:Nat):Int):=by omega
   have e4:((t:Int) % 1000000000).toNat=t % 1000000000:=by omega
   have e5:(t:Int) / 1000000000=((t / 1000000000:Nat):Int):=by omega
   rw[et,e2,e4,app_set hj]at h3
   rw[et,e3,e5]
   refine ih (i+1) w3 _ _ (by omega) (by omega) h3 (by simpa using hl) (by omega) (by rw[List.drop_set,if_pos (by omega)];exact hk2) ?_
   rw[wv_take_succ,Nat.pow_succ]
   exact add_word he (wv_set D i _ (by omega)) (by rw[ht]) (by rw[ht])
  refine⟨⟨by omega,by omega⟩,a,rfl,fun w2 e=> ?_⟩
  obtain⟨_,a',ea,hst'⟩:=(h.ext e).storeU ha (j:=(i:Int)+(j:Int)) (x:=((up:Int)+((D.getD i 0:Nat)+(vs.getD i 0:Nat))) % 1000000000) (by omega) (by omega) (by omega) (by omega) (K:=fun w3=>(0<=((up:Int)+((D.getD i 0:Nat)+(vs.getD i 0:Nat)))/\0<(1000000000:Int)/\inR .u64 ((up:Int)+((D.getD i 0:Nat)+(vs.getD i 0:Nat))))/\inR .i64 ((i:Int)+1)/\
   F.natural_num_divide.L42 Af nf cf (some a) nu cu Av nv cv nv Aq nq cq j g last (((up:Int)+((D.getD i 0:Nat)+(vs.getD i 0:Nat))) / 1000000000) nv ((i:Int)+1) B w3 R) (fun w3 h3=>⟨⟨by omega,by omega,by simp only[inR];omega⟩,by simp only[inR];omega,step w3 h3⟩)
  cases ea
  rw[e2]at hst'
  exact hst'

theorem div_L26(ha:Apart Au Aq)(hn:nu<=1000000)(hv:SlU w1 Av vs)(hvl:vs.length=nv)(hsv:Small vs)(hsep:Sep Av Au Aq nu cu nq cq){pre D0 qs:List Nat}{g j:Nat}(hj:pre.length=j)(hk:nv<D0.length)(hg:g<=1000000000)
  (hR:∀w D (c br:Nat),Div w1 w B Au nu cu (pre++D) Aq nq cq qs->D.length=D0.length->c<1000000000->br<=1->D.drop nv=D0.drop nv->wv D+g*wv vs=wv D0+1000000000^nv*(c+br)->
   ((D0.getD nv 0:Nat) - (c:Int) - (br:Int)<0->1<=g/\F.natural_num_divide.L42 Af nf cf Au nu cu Av nv cv nv Aq nq cq j ((g:Int) - 1) ((D0.getD nv 0:Nat) - (c:Int) - (br:Int)) 0 nv 0 B w R)/\
   (¬((D0.getD nv 0:Nat) - (c:Int) - (br:Int)<0)->F.natural_num_divide.J49 Af nf cf Au nu cu Av nv cv nv Aq nq cq j g ((D0.getD nv 0:Nat) - (c:Int) - (br:Int)) B w R)):
  ∀(d i:Nat)(w:World)(D:List Nat)(c br:Nat),nv - i=d->i<=nv->Div w1 w B Au nu cu (pre++D) Aq nq cq qs->D.length=D0.length->c<1000000000->br<=1->D.drop nv=D0.drop nv->wv D+g*wv (vs.take i)=wv D0+1000000000^i*(c+br)->
   F.natural_num_divide.L26 Af nf cf Au nu cu Av nv cv nv Aq nq cq j g c br nv i B w R:=by
 intro d
 induction d with
 |zero=>
  intro i w D c br hd hi h hl hc hb hk2 he
  have hin:i=nv:=by omega
  subst hin
  have hul:=h.u.len
  have hul2:=hul
  simp only[List.length_append]at hul
  have gu:=h.su.getD (i+j)
  rw[app_getD hj]at gu
  rw[List.take_of_length_le (by omega)]at he
  have e2:((j:Int)+(i:Int)).toNat=i+j:=by omega
  have hr:=hR w D c br h hl hc hb hk2 he
  rw[<-getD_of_drop hk2]at hr
  refine F.natural_num_divide.L26.step _ _ _ _ _ _ _ _ _ _ _ _ _ _ _ _ _ _ _ _ _ _ ⟨fun h=>by omega,fun _=>⟨by simp only[inR];omega,?_⟩⟩
  refine h.u.sl.load hul2 (by omega) (by omega) ?_
  rw[e2,app_getD hj]
  exact⟨by simp only[inR];omega,by simp only[inR];omega,by simp only[inR];omega,fun h=>⟨by have:=(hr.1 h).1;simp only[inR];omega,(hr.1 h).2⟩,fun h=>hr.2 h⟩
 |succ d ih=>
  intro i w D c br hd hi h hl hc hb hk2 he
  have hul:=h.u.len
  have hul2:=hul
  simp only[List.length_append]at hul
  have gv:=hsv.getD i
  have gu:=h.su.getD (i+j)
  have e2:((i:Int)+(j:Int)).toNat=i+j:=by omega
  rw[app_getD hj]at gu
  have e3:(i:Int)+1=((i+1:Nat):Int):=by omega
  have hgv:g*vs.getD i 0<=1000000000*999999999:=Nat.mul_le_mul hg (by omega)
  obtain⟨p,hp⟩:∃p,p=g*vs.getD i 0+c:=⟨_,rfl⟩
  have ep:(g:Int)*(vs.getD i 0:Nat)=((g*vs.getD i 0:Nat):Int):=by simp
  have ep2:((g*vs.getD i 0:Nat):Int)+(c:Int)=(p:Int):=by omega
  have e5:(p:Int) / 1000000000=((p / 1000000000:Nat):Int):=by omega
  have next:∀(br' x:Nat) w2,br'<=1->x+p % 1000000000+br=D.getD i 0+1000000000*br'->Div w1 w2 B Au nu cu ((pre++D).set (i+j) x) Aq nq cq qs->
    F.natural_num_divide.L26 Af nf cf Au nu cu Av nv cv nv Aq nq cq j g ((p / 1000000000:Nat):Int) br' nv ((i:Int)+1) B w2 R:=by
   intro br' x w2 hb' hx h2
   rw[app_set hj]at h2
   rw[e3]
   refine ih (i+1) w2 _ _ br' (by omega) (by omega) h2 (by simpa using hl) (by omega) hb' (by rw[List.drop_set,if_pos (by omega)];exact hk2) ?_
   rw[wv_take_succ,Nat.pow_succ]
   exact sub_word he (wv_set D i x (by omega)) (by rw[<-hp];exact hx) (by rw[<-hp])
  refine F.natural_num_divide.L26.step _ _ _ _ _ _ _ _ _ _ _ _ _ _ _ _ _ _ _ _ _ _ ⟨fun _=>⟨by simp only[inR];omega,?_⟩,fun h=>by omega⟩
  refine(h.sl hv hsep).load hvl (by omega) (by omega) ?_
  rw[Int.toNat_natCast,ep,ep2]
  refine⟨by simp only[inR];omega,by simp only[inR];omega,by simp only[inR];omega,⟨by omega,by omega,by simp only[inR];omega⟩,by simp only[inR];omega,?_⟩
  refine h.u.sl.load hul2 (by omega) (by omega) ?_
  rw[e2,app_getD hj,e5]
  refine⟨by simp only[inR];omega,by omega,by simp only[inR];omega,by simp only[inR];omega,fun h0=>⟨by simp only[inR];omega,by simp only[inR];omega,by simp only[inR];omega,?_⟩,fun h0=>⟨by simp only[inR];omega,by simp only[inR];omega,?_⟩⟩
  ·rw[<-e2]
   refine h.storeU ha (by omega) (by omega) (by omega) (by omega) fun w2 h2=>⟨by simp only[inR];omega,?_⟩
   rw[e2]at h2
   exact next 1 _ w2 (by omega) (by omega) h2
  ·rw[<-e2]
   refine h.storeU ha (by omega) (by omega) (by omega) (by omega) fun w2 h2=>⟨by simp only[inR];omega,?_⟩
   rw[e2]at h2
   exact next 0 _ w2 (by omega) (by omega) h2

theorem SlU.load2{w:World}{A:Option Addr}{ws:List Nat}{n:Nat}(h:SlU w A ws)(hl:ws.length=n){j:Int}(h0:0<=j)(h1:j<n){K:World->Int->Prop}(k:∀w2,Ext B [] w w2->K w2 (ws.getD j.toNat 0:Nat)):
  (0<=j/\j<n)/\∃a,A=some a/\∀w2,Ext B [] w w2->∃i:Int,CellsAt w2 (a.add (j.toNat*1)) [.int .u32 i]/\K w2 i:=by
 obtain⟨_,a,hA,_,_⟩:=h.load hl h0 h1 (K:=fun _=>True) trivial
 refine⟨⟨h0,h1⟩,a,hA,fun w2 e=> ?_⟩
 obtain⟨_,a',hA',i,hc,hk⟩:=(Ext.nilSl h e).load hl h0 h1 (K:=K w2) (k w2 e)
 rw[hA]at hA'
 cases hA'
 exact⟨i,hc,hk⟩

theorem div_L20(hn:nu<=1000000)(hv:SlU w1 Av vs)(hvl:vs.length=nv)(hsv:Small vs)(hsep:Sep Av Au Aq nu cu nq cq)(hnv:2<=nv){pre D qs:List Nat}{j:Nat}(hj:pre.length=j)(hk:nv<D.length)
  {top low M vl q T V:Nat} (hlow:low<M) (hvlow:vl<M) (hv1:1<=vs.getD (nv - 1) 0) (hV:V=(vs.getD (nv - 1) 0*1000000000+vs.getD (nv - 2) 0)*M+vl) (hT:T=(top*1000000000+D.getD (nv - 2) 0)*M+low)
  (hqT:q*V<=T) (hqb:q<1000000000)
  (hR:∀w (g:Nat),Div w1 w B Au nu cu (pre++D) Aq nq cq qs->g<=1000000000->q<=g->g*V<T+V->F.natural_num_divide.L26 Af nf cf Au nu cu Av nv cv nv Aq nq cq j g 0 0 nv 0 B w R):
  ∀(g rest:Nat)(w:World),Div w1 w B Au nu cu (pre++D) Aq nq cq qs->g*vs.getD (nv - 1) 0+rest=top->q<=g->g<=1000000001->rest<1000000000->
   F.natural_num_divide.L20 Af nf cf Au nu cu Av nv cv nv Aq nq cq j g rest B w R:=by
 have g1:=hsv.getD (nv - 1)
 have g2:=hsv.getD (nv - 2)
 have ex1:((nv:Int) - 1).toNat=nv - 1:=by omega
 have ex2:((nv:Int) - 2).toNat=nv - 2:=by omega
 have ex3:((j:Int)+(nv:Int) - 2).toNat=(nv - 2)+j:=by omega
 intro g
 induction g with
 |zero=>
  intro rest w h ht hq hg hr
  have hul:=h.u.len
  have hul2:=hul
  simp only[List.length_append]at hul
  have gu:=h.su.getD (nv - 2+j)
  rw[app_getD hj]at gu
  refine F.natural_num_divide.L20.step _ _ _ _ _ _ _ _ _ _ _ _ _ _ _ _ _ _ _ ⟨fun h=>by omega,fun _=>⟨by simp only[inR];omega,?_⟩⟩
  refine(h.sl hv hsep).load hvl (by omega) (by omega) ?_
  rw[ex2]
  refine⟨by simp only[inR];omega,by simp only[inR];omega,by simp only[inR];omega,by simp only[inR];omega,by simp only[inR];omega,?_⟩
  refine h.u.sl.load hul2 (by omega) (by omega) ?_
  rw[ex3,app_getD hj]
  refine⟨by simp only[inR];omega,by simp only[inR];omega,fun h0=>by omega,fun h0 w2 e=>hR w2 0 (h.ext e) (by omega) hq ?_⟩
  rw[hT,hV]
  exact guess_le hvlow hv1 ht (by omega) (by omega)
 |succ g ih=>
  intro rest w h ht hq hg hr
  have hul:=h.u.len
  have hul2:=hul
  simp only[List.length_append]at hul
  have gu:=h.su.getD (nv - 2+j)
  rw[app_getD hj]at gu
  have eg:((g+1:Nat):Int) - 1=(g:Int):=by omega
  have next:q<=g->∀w2,Ext B [] w w2->inR .u64 ((vs.getD (nv - 1) 0:Nat):Int)/\inR .u64 ((rest:Int)+(vs.getD (nv - 1) 0:Nat))/\
    (((rest:Int)+(vs.getD (nv - 1) 0:Nat)≥(1000000000:Int)->F.natural_num_divide.L26 Af nf cf Au nu cu Av nv cv nv Aq nq cq j g 0 0 nv 0 B w2 R)/\
    (¬((rest:Int)+(vs.getD (nv - 1) 0:Nat)≥(1000000000:Int))->F.natural_num_divide.L20 Af nf cf Au nu cu Av nv cv nv Aq nq cq j g ((rest:Int)+(vs.getD (nv - 1) 0:Nat)) B w2 R)):=by
   intro hqg w2 e
   have ht2:g*vs.getD (nv - 1) 0+(rest+vs.getD (nv - 1) 0)=top:=by rw[Nat.add_mul]at ht;omega
   refine⟨by simp only[inR];omega,by simp only[inR];omega,fun h0=>hR w2 g (h.ext e) (by omega) hqg ?_,fun h0=> ?_⟩
   ·rw[hT,hV]
    refine guess_le hvlow hv1 ht2 (by omega) ?_
    have h4:g*vs.getD (nv - 2) 0<=1000000000*1000000000:=Nat.mul_le_mul (by omega) (by omega)
    omega
   ·exact ih (rest+vs.getD (nv - 1) 0) w2 (h.ext e) ht2 hqg (by omega) (by omega)
  refine F.natural_num_divide.L20.step _ _ _ _ _ _ _ _ _ _ _ _ _ _ _ _ _ _ _ ⟨fun h0=>⟨by simp only[inR];omega,by simp only[inR];omega,?_⟩,fun h0=>⟨by simp only[inR];omega,?_⟩⟩
  ·rw[eg]
   refine(h.sl hv hsep).load2 hvl (by omega) (by omega) fun w2 e=> ?_
   rw[ex1]
   exact next (by omega) w2 e
  ·have hgv:(g+1)*vs.getD (nv - 2) 0<=1000000000*1000000000:=Nat.mul_le_mul (by omega) (by omega)
   have ep:((g+1:Nat):Int)*(vs.getD (nv - 2) 0:Nat)=(((g+1)*vs.getD (nv - 2) 0:Nat):Int):=by simp
   refine(h.sl hv hsep).load hvl (by omega) (by omega) ?_
   rw[ex2,ep]
   refine⟨by simp only[inR];omega,by simp only[inR];omega,by simp only[inR];omega,by simp only[inR];omega,by simp only[inR];omega,?_⟩
   refine h.u.sl.load hul2 (by omega) (by omega) ?_
   rw[ex3,app_getD hj,eg]
   refine⟨by simp only[inR];omega,by simp only[inR];omega,fun h1=>⟨by simp only[inR];omega,by simp only[inR];omega,?_⟩,fun h1 w2 e=>hR w2 (g+1) (h.ext e) (by omega) hq ?_⟩
   ·refine(h.sl hv hsep).load2 hvl (by omega) (by omega) fun w2 e=> ?_
    rw[ex1]
    refine next ?_ w2 e
    rw[hT,hV]at hqT
    have:=guess_gt hlow hqT ht hq (by omega)
    omega
   ·rw[hT,hV]
    exact guess_le hvlow hv1 ht (by omega) (by omega)
end

theorem OwnU.base{w:World}{B B':Nat}{A:Option Addr}{n c:Nat}{ws:List Nat}(h:OwnU w B' A n c ws)(hB:B<=B'):OwnU w B A n c ws:=by
 refine⟨h.1,?_⟩
 rcases h.2 with h1|⟨g,cap,cur,h1,h2,h3⟩
 ·exact .inl h1
 ·exact .inr ⟨g,cap,cur,h1,Nat.le_trans hB h2,h3⟩

theorem words3{D:List Nat}{kk:Nat}(hk:kk+2<D.length)(hs:Small D)(h:wv D<1000000000^(kk+2+1)):
  wv D=((D.getD (kk+2) 0*1000000000+D.getD (kk+1) 0)*1000000000+D.getD kk 0)*1000000000^kk+wv (D.take kk)/\wv (D.take kk)<1000000000^kk:=by
 have h1:=(wv_top (by omega) hs h).1
 have h2:=wv_lt (hs.take kk)
 rw[List.length_take,Nat.min_eq_left (by omega)]at h2
 refine⟨?_,h2⟩
 rw[h1,wv_take_succ,wv_take_succ,Nat.pow_succ,Nat.pow_succ]
 grind
theorem words2{vs:List Nat}{kk:Nat}(hk:vs.length=kk+2)(hs:Small vs):
  wv vs=(vs.getD (kk+1) 0*1000000000+vs.getD kk 0)*1000000000^kk+wv (vs.take kk)/\wv (vs.take kk)<1000000000^kk:=by
 have h2:=wv_lt (hs.take kk)
 rw[List.length_take,Nat.min_eq_left (by omega)]at h2
 refine⟨?_,h2⟩
 have e:vs=vs.take (kk+1+1):=(List.take_of_length_le (by omega)).symm
 have h1:wv vs=wv (vs.take (kk+1+1)):=by rw[<-e]
 rw[h1,wv_take_succ,wv_take_succ,Nat.pow_succ]
 grind

theorem Sep.of{A Au Aq:Option Addr}{nu cu nq cq:Nat}(h1:∀a b,A=some a->Au=some b->a.block≠b.block)(h2:∀a b,A=some a->Aq=some b->a.block≠b.block):Sep A Au Aq nu cu nq cq:=by
 intro a ha
 constructor
 ·cases Au with
  |none=>simp[Value.ownBlock]
  |some b=>simp[Value.ownBlock];exact h1 a b ha rfl
 ·cases Aq with
  |none=>simp[Value.ownBlock]
  |some b=>simp[Value.ownBlock];exact h2 a b ha rfl

section
variable {w1:World} {B:Nat} {Af Au Av Aq:Option Addr} {nf cf nu cu nv cv nq cq:Nat} {vs:List Nat} {R:Value->World->Prop}

set_option maxHeartbeats 2000000 in
theorem div_L16(ha:Apart Au Aq)(hn:nu<=1000000)(hB:B<=w1.heap.size)(hv:SlU w1 Av vs)(hvl:vs.length=nv)(hsv:Small vs)(hsep:Sep Av Au Aq nu cu nq cq)(hnv:2<=nv)(hnq:nu=nq+nv)(hhalf:1000000000<=2*vs.getD (nv - 1) 0)
  {f:Nat} (hf:IsN w1 Af nf cf f) (hsepf:Sep Af Au Aq nu cu nq cq) (hf0:0<f) (hf1:f<=1000000000) {U0:Nat}
  (hR:∀A n c A' n' c' w,IsN w A n c (U0 / wv vs)->IsN w A' n' c' (U0 % wv vs / f)->R (.tuple #[.slice A n c,.slice A' n' c']) w):
  ∀(i:Nat)(w:World)(us qs:List Nat),i<=nq->Div w1 w B Au nu cu us Aq nq cq qs->wv (us.drop i)<wv vs->wv (qs.drop i)*wv vs*1000000000^i+wv us=U0->
   F.natural_num_divide.L16 Af nf cf Au nu cu Av nv cv nv Aq nq cq ((i:Int) - 1) B w R:=by
 obtain⟨kk,rfl⟩:∃kk,nv=kk+2:=⟨nv - 2,by omega⟩
 have hVlt:wv vs<1000000000^(kk+2):=by have:=wv_lt hsv;rwa [hvl]at this
 obtain⟨hV,hvlow⟩:=words2 hvl hsv
 have ev1:kk+2 - 1=kk+1:=by omega
 have g1:=hsv.getD (kk+1)
 have g2:=hsv.getD kk
 rw[ev1]at hhalf
 intro i
 induction i with
 |zero=>
  intro w us qs hi h hlt he
  have hul:=h.u.len
  have hcap:=h.u.cap
  simp only[List.drop_zero,Nat.pow_zero,Nat.mul_one]at hlt he
  have ediv:U0 / wv vs=wv qs:=by rw[<-he,Nat.mul_comm,Nat.mul_add_div (by omega),Nat.div_eq_of_lt hlt,Nat.add_zero]
  have emod:U0 % wv vs=wv us:=by rw[<-he,Nat.mul_comm,Nat.mul_add_mod,Nat.mod_eq_of_lt hlt]
  rw[ediv,emod]at hR
  have etake:wv (us.take (kk+2))=wv us:=by
   have h1:=wv_split us (kk+2) (by omega)
   have h2:wv (us.drop (kk+2))=0:=by
    apply Decidable.byContradiction
    intro h3
    have h4:1000000000^(kk+2)*1<=1000000000^(kk+2)*wv (us.drop (kk+2)):=Nat.mul_le_mul_left _ (by omega)
    omega
   rw[h2]at h1
   omega
  have hfw:IsN w Af nf cf f:=by
   obtain⟨ws,k1,k2⟩:=hf
   exact⟨ws,h.sl k1 hsepf,k2⟩
  refine F.natural_num_divide.L16.step _ _ _ _ _ _ _ _ _ _ _ _ _ _ _ _ _ ⟨fun h=>by omega,fun _=> ?_⟩
  refine Pure.mono (natural_small hfw) ?_
  rintro v w2 hb2 rfl
  refine⟨_,_,rfl,⟨by omega,by omega⟩,?_⟩
  have e2:(((kk+2:Nat):Int)).toNat=kk+2:=by omega
  rw[e2,if_pos (by omega)]
  refine Pure.mono (natural_trim ((h.u.sl.below hb2).take (kk+2)) (by simp;omega) (by omega) (by omega) (h.su.take _)) ?_
  rintro v w3 hb3 ⟨rfl,m,rfl,hm,hm1,_⟩
  rw[etake]at hm
  refine⟨_,_,_,rfl,Pure.mono (natural_by hm (by omega) hf0 hf1) ?_⟩
  rintro v w4 hb4 ⟨A1,n1,c1,A2,n2,c2,rfl,k1,k2⟩
  refine⟨_,_,_,_,_,_,rfl,?_⟩
  have hq4:SlU w4 Aq qs:=(h.q.sl.below hb2).below hb4
  refine Pure.mono (natural_trim hq4 h.q.len h.q.cap (by have:=h.q.cap;omega) h.sq) ?_
  rintro v w5 hb5 ⟨rfl,m',rfl,hm',_⟩
  exact⟨_,_,_,rfl,hR _ _ _ _ _ _ _ hm' k1⟩
 |succ j ih=>
  intro w us qs hi h hlt he
  have hul:=h.u.len
  have hql:=h.q.len
  have e0:((j+1:Nat):Int) - 1=(j:Int):=by omega
  rw[e0]
  obtain⟨pre,hpre⟩:∃pre,pre=us.take j:=⟨_,rfl⟩
  obtain⟨D,hD⟩:∃D,D=us.drop j:=⟨_,rfl⟩
  have hus:us=pre++D:=by rw[hpre,hD,List.take_append_drop]
  have hj:pre.length=j:=by rw[hpre];simp;omega
  have hDl:D.length=nu - j:=by rw[hD];simp[hul]
  have hsD:Small D:=by rw[hD];exact fun x hx=>h.su x (List.mem_of_mem_drop hx)
  have hdrop:us.drop (j+1)=D.drop 1:=by rw[hD,List.drop_drop]
  rw[hdrop]at hlt
  have hT0:wv D=D.getD 0 0+1000000000*wv (D.drop 1):=by have:=wv_drop D 0;simpa using this
  have gD0:=hsD.getD 0
  have hT:wv D<1000000000*wv vs:=by omega
  have hT3:wv D<1000000000^(kk+2+1):=by rw[Nat.pow_succ];omega
  obtain⟨hTw,hlow⟩:=words3 (by omega) hsD hT3
  have gt0:=hsD.getD (kk+2)
  have gt1:=hsD.getD (kk+1)
  have gt2:=hsD.getD kk
  have hwu:wv us=wv pre+1000000000^j*wv D:=by rw[hus,wv_append,hj]
  obtain⟨q,hq⟩:∃q,q=wv D / wv vs:=⟨_,rfl⟩
  have hVpos:0<wv vs:=by omega
  have hqT:q*wv vs<=wv D:=by rw[hq];exact Nat.div_mul_le_self _ _
  have hqT2:wv D<q*wv vs+wv vs:=by
   have h1:=Nat.div_add_mod (wv D) (wv vs)
   have h2:=Nat.mod_lt (wv D) hVpos
   rw[<-hq,Nat.mul_comm]at h1
   omega
  have hqb:q<1000000000:=by
   rw[hq,Nat.div_lt_iff_lt_mul hVpos]
   exact hT
  rw[hus]at h
  -- the next round
  have next:∀w2 D3,Div w1 w2 B Au nu cu (pre++D3) Aq nq cq (qs.set j q)->wv D3=wv D - q*wv vs->
    F.natural_num_divide.L16 Af nf cf Au nu cu Av (kk+2) cv (kk+2:Nat) Aq nq cq ((j:Int) - 1) B w2 R:=by
   intro w2 D3 h2 hw2
   refine ih w2 _ _ (by omega) h2 ?_ ?_
   ·rw[<-hj,List.drop_left,hw2];omega
   ·have eq1:wv ((qs.set j q).drop j)=q+1000000000*wv (qs.drop (j+1)):=by
     rw[wv_drop,List.drop_set,if_pos (by omega),List.getD_eq_getElem?_getD,List.getElem?_set_self (by omega)]
     rfl
    have e5:wv D3+q*wv vs=wv D:=by omega
    rw[eq1,wv_append,hj]
    rw[hwu,<-e5,Nat.pow_succ]at he
    rw[<-he]
    grind
  obtain⟨top,htop⟩:∃top,top=D.getD (kk+2) 0*1000000000+D.getD (kk+1) 0:=⟨_,rfl⟩
  rw[<-htop]at hTw
  have etop:((D.getD (kk+2) 0:Nat):Int)*1000000000+((D.getD (kk+1) 0:Nat):Int)=(top:Int):=by omega
  obtain⟨v1,hv1⟩:∃v1,v1=vs.getD (kk+1) 0:=⟨_,rfl⟩
  have ei1:((j:Int)+((kk+2:Nat):Int)).toNat=(kk+2)+j:=by omega
  have ei2:((j:Int)+((kk+2:Nat):Int) - 1).toNat=(kk+1)+j:=by omega
  have ei3:(((kk+2:Nat):Int) - 1).toNat=kk+1:=by omega
  have hul2:=h.u.len
  refine F.natural_num_divide.L16.step _ _ _ _ _ _ _ _ _ _ _ _ _ _ _ _ _ ⟨fun _=>⟨by simp only[inR];omega,?_⟩,fun h=>by omega⟩
  refine h.u.sl.load hul2 (by omega) (by omega) ?_
  rw[ei1,app_getD hj]
  refine⟨by simp only[inR];omega,by simp only[inR];omega,by simp only[inR];omega,by simp only[inR];omega,?_⟩
  refine h.u.sl.load hul2 (by omega) (by omega) ?_
  rw[ei2,app_getD hj,etop]
  refine⟨by simp only[inR];omega,by simp only[inR];omega,fun w2 e2=>⟨by simp only[inR];omega,?_⟩⟩
  have h2:=h.ext e2
  refine(h2.sl hv hsep).load hvl (by omega) (by omega) ?_
  have hval:vs.getD (((kk+2:Nat):Int) - 1).toNat 0=v1:=by rw[ei3,hv1]
  rw[hval]
  rw[<-hv1]at hhalf g1
  refine⟨by simp only[inR];omega,⟨by omega,by omega,by simp only[inR];omega⟩,by simp only[inR];omega,?_⟩
  refine(h2.sl hv hsep).load hvl (by omega) (by omega) ?_
  rw[hval]
  refine⟨by simp only[inR];omega,⟨by omega,by omega⟩,fun w3 e3=> ?_⟩
  have h3:=h2.ext e3
  have ed:(top:Int) / (v1:Int)=((top / v1:Nat):Int):=by simp
  have em:(top:Int) % (v1:Int)=((top % v1:Nat):Int):=by simp
  rw[ed,em]
  have hgq:q<=top / v1:=by
   rw[Nat.le_div_iff_mul_le (by omega)]
   rw[hTw,hV,<-hv1]at hqT
   exact guess_ge gt2 hlow hqT
  have hgb:top / v1<=1000000001:=by
   refine guess_first (by omega) g2 hvlow (by rw[hv1]at hhalf;exact hhalf) (by rw[<-hTw,<-hV];exact hT) ?_
   rw[<-hv1]
   exact Nat.div_mul_le_self _ _
  refine div_L20 hn hv hvl hsv hsep (by omega) hj (by omega) (top:=top) (low:=wv (D.take kk)) (M:=1000000000^kk) (vl:=wv (vs.take kk)) (q:=q) (T:=wv D) (V:=wv vs) hlow hvlow (by rw[ev1,<-hv1];omega) (by rw[ev1];exact hV) hTw hqT hqb
   (fun w4 g h4 hg1 hg2 hg3=> ?_) (top / v1) (top % v1) w3 h3 (by rw[ev1,<-hv1];have:=Nat.div_add_mod top v1;rw[Nat.mul_comm]at this;exact this) hgq hgb (by have:=Nat.mod_lt top (show 0<v1 by omega);omega)
  refine div_L26 ha hn hv hvl hsv hsep hj (by omega) hg1 (fun w5 D5 c br h5 hl5 hc hbr hk5 he5=> ?_) (kk+2) 0 w4 D 0 0 (by omega) (by omega) h4 rfl (by omega) (by omega) rfl (by simp[wv])
  have t5:=wv_split D5 (kk+2) (by omega)
  have t0:=wv_top (k:=kk+2) (by omega) hsD hT3
  have hs5:Small D5:=fun x hx=>h5.su x (by simp[hx])
  have l5:=wv_lt (hs5.take (kk+2))
  rw[List.length_take,Nat.min_eq_left (by omega)]at l5
  have td:wv (D.drop (kk+2))=D.getD (kk+2) 0:=by
   have h1:=wv_split D (kk+2) (by omega)
   have hp:0<1000000000^(kk+2):=Nat.pow_pos (by omega)
   have h2:1000000000^(kk+2)*wv (D.drop (kk+2))=1000000000^(kk+2)*D.getD (kk+2) 0:=by omega
   exact Nat.eq_of_mul_eq_mul_left hp h2
  rw[hk5,td]at t5
  have hg5:=getD_of_drop hk5
  obtain⟨P,hP⟩:∃P,P=1000000000^(kk+2):=⟨_,rfl⟩
  rw[<-hP]at t5 l5 he5 hVlt
  obtain⟨z,hz⟩:∃z,z=D.getD (kk+2) 0:=⟨_,rfl⟩
  rw[<-hz]at t5 hg5 gt0⊢
  rw[Nat.mul_add]at he5
  refine⟨fun hneg=> ?_,fun hpos=> ?_⟩
  ·have hlt5:wv D<g*wv vs:=by
    have k1:P*(z+1)<=P*(c+br):=Nat.mul_le_mul_left _ (by omega)
    rw[Nat.mul_add,Nat.mul_add]at k1
    omega
   have hg0:1<=g:=by
    apply Decidable.byContradiction
    intro k
    have:g=0:=by omega
    subst this
    omega
   have hqg:q+1=g:=by
    have k1:q<g:=by
     apply Decidable.byContradiction
     intro k
     have:=Nat.mul_le_mul_right (wv vs) (show g<=q by omega)
     omega
    apply Decidable.byContradiction
    intro k
    have:=Nat.mul_le_mul_right (wv vs) (show q+2<=g by omega)
    rw[Nat.add_mul]at this
    omega
   refine⟨hg0,?_⟩
   have eg:(g:Int) - 1=(q:Int):=by omega
   rw[eg]
   refine div_L42 ha hn hv hvl hsv hsep hj (by omega) ⟨by omega,hneg⟩ (fun w6 D6 up h6 hl6 hup hk6 he6=> ?_) (kk+2) 0 w5 D5 0 (by omega) (by omega) h5 rfl (by omega) rfl (by simp[wv])
   refine div_J49 ha hn h6 hj (by omega) hqb (by omega) (by omega) fun w7 h7=> ?_
   have hg6:=getD_of_drop hk6
   have t6:=wv_split D6 (kk+2) (by omega)
   have hs6:Small D6:=fun x hx=>h6.su x (by simp[hx])
   have l6:=wv_lt (hs6.take (kk+2))
   rw[List.length_take,Nat.min_eq_left (by omega),<-hP]at l6
   rw[hk6,hk5,td,<-hP,<-hz]at t6
   rw[<-hP]at he6
   have hgV:g*wv vs=q*wv vs+wv vs:=by rw[<-hqg,Nat.add_mul,Nat.one_mul]
   -- low + P * (z + up) = (T - qV) + P * (c + br)
   have key:wv (D6.take (kk+2))+P*(z+up)=(wv D - q*wv vs)+P*(c+br):=by rw[Nat.mul_add,Nat.mul_add];omega
   have hzz:z+up=c+br:=by
    rcases Nat.lt_trichotomy (z+up) (c+br)with k|k|k
    ·have:=Nat.mul_le_mul_left P (show z+up+1<=c+br by omega)
     rw[Nat.mul_add]at this
     omega
    ·exact k
    ·have:=Nat.mul_le_mul_left P (show c+br+1<=z+up by omega)
     rw[Nat.mul_add]at this
     omega
   have e7:((z:Int) - (c:Int) - (br:Int)+(up:Int)).toNat=0:=by omega
   rw[e7]at h7
   refine next w7 _ h7 ?_
   have hset:=wv_set D6 (kk+2) 0 (by omega)
   rw[hg6,hg5,<-hP]at hset
   rw[hzz]at key
   omega
  ·have hle5:g*wv vs<=wv D:=by
    have k1:P*(c+br)<=P*z:=Nat.mul_le_mul_left _ (by omega)
    rw[Nat.mul_add]at k1
    omega
   have hqg:q=g:=by
    rcases Nat.lt_or_ge q g with k|k
    ·have:=Nat.mul_le_mul_right (wv vs) (show q+1<=g by omega)
     rw[Nat.add_mul]at this
     omega
    ·omega
   subst hqg
   refine div_J49 ha hn h5 hj (by omega) hqb (by omega) (by omega) fun w7 h7=>next w7 _ h7 ?_
   have hset:=wv_set D5 (kk+2) (((z:Int) - (c:Int) - (br:Int)).toNat) (by omega)
   rw[hg5,<-hP]at hset
   have e8:P*(((z:Int) - (c:Int) - (br:Int)).toNat)+(P*c+P*br)=P*z:=by
    rw[<-Nat.mul_add,<-Nat.mul_add]
    congr 1
    omega
   omega
end

theorem SlU.block_lt{w:World}{A:Option Addr}{ws:List Nat}(h:SlU w A ws)(hn:ws≠[]):∀a,A=some a->a.block<w.heap.size:=by
 intro a ha
 rcases h with h|⟨b,off,all,fr,hA,hb,_⟩
 ·exact absurd h hn
 ·rw[hA]at ha;cases ha
  exact(Array.getElem?_eq_some_iff.1 hb).1

theorem OwnU.blk_of{w:World}{B:Nat}{A:Option Addr}{n c:Nat}{ws:List Nat}(h:OwnU w B A n c ws):∀a,A=some a->B<=a.block/\a.block<w.heap.size:=by
 intro a ha
 subst ha
 exact h.blk a.block rfl

theorem OwnU.replicate{w:World}{B:Nat}{A:Option Addr}{n:Nat}(k:w.ownsRow B 217 1 (.slice A n n) n (List.replicate n (.int .u32 0))):OwnU w B A n n (List.replicate n 0):=by
 unfold OwnU
 have:u32s (List.replicate n 0)=List.replicate n (.int .u32 0):=by simp[u32s]
 rw[this]
 exact k
theorem Small.replicate(n:Nat):Small (List.replicate n 0):=fun x hx=>by rw[List.eq_of_mem_replicate hx];omega

theorem div_J13{w:World}{B Bu:Nat}{Af Au Av:Option Addr}{nf cf nu cu nv cv:Nat}{us vs:List Nat}{R:Value->World->Prop}(hB:B<=w.heap.size)(hBu:B<=Bu)(hu:OwnU w Bu Au nu cu us)(hsu:Small us)(hv:SlU w Av vs)(hvl:vs.length=nv)(hsv:Small vs)
  (hvu:∀a b,Av=some a->Au=some b->a.block≠b.block) (hvb:∀a,Av=some a->a.block<w.heap.size) (hnv:2<=nv) (hlt:nv<=nu) (hn:nu<=1000000) (hhalf:1000000000<=2*vs.getD (nv - 1) 0)
  {f:Nat} (hf:IsN w Af nf cf f) (hfu:∀a b,Af=some a->Au=some b->a.block≠b.block) (hfb:∀a,Af=some a->a.block<w.heap.size) (hf0:0<f) (hf1:f<=1000000000) (htop:wv (us.drop (nu - nv))<wv vs)
  (hR:∀A n c A' n' c' w,IsN w A n c (wv us / wv vs)->IsN w A' n' c' (wv us % wv vs / f)->R (.tuple #[.slice A n c,.slice A' n' c']) w):
  F.natural_num_divide.J13 Af nf cf Au nu cu Av nv cv B w R:=by
 refine F.natural_num_divide.J13.step _ _ _ _ _ _ _ _ _ _ _ _ ⟨by simp only[inR];omega,?_⟩
 refine runOk_make el_num El.zeroU32 rfl (by omega) (by omega) hB fun Aq nq w2 hnq k1 g2 k2=>⟨by simp only[inR];omega,?_⟩
 have hnq':nq=nu - nv:=by omega
 have hq:=OwnU.replicate k1
 have hqb:∀a,Aq=some a->w.heap.size<=a.block:=fun a ha=>(hq.blk_of a ha).1
 have hgb:Below w.heap.size w w2:=below_grown g2 (by simp) (Nat.le_refl _)
 have hu2:OwnU w2 B Au nu cu us:=(hu.base hBu).other fun b hb=>hgb.block b (hu.blk b hb).2
 have hap:Apart Au Aq:=fun a b ha hb=>by
  have h1:=hu.blk_of a ha
  have h2:=hqb b hb
  omega
 refine div_L16 (w1:=w2) hap hn (Nat.le_trans hB hgb.size) (hv.below hgb) hvl hsv (Sep.of hvu fun a b ha hb=>by have h1:=hvb a ha;have h2:=hqb b hb;omega) hnv (by omega) hhalf (hf.below hgb)
  (Sep.of hfu fun a b ha hb=>by have h1:=hfb a ha;have h2:=hqb b hb;omega) hf0 hf1 hR nq w2 us (List.replicate nq 0) (Nat.le_refl _)
  ⟨hu2,hq.base hB,hsu,Small.replicate _,fun _ _ _ _=>rfl,Below.refl _ _⟩ (by rw[hnq'];exact htop) ?_
 rw[List.drop_eq_nil_of_le (by simp)]
 simp[wv]

theorem wv_len_ge{a b:List Nat}(hsa:Small a)(hnb:Norm b)(h:wv b<=wv a):b.length<=a.length:=by
 apply Decidable.byContradiction
 intro k
 have:=wv_lt_len hsa hnb (by omega)
 omega

theorem norm_top{l:List Nat}(hn:Norm l)(h:l≠[]):1<=l.getD (l.length - 1) 0:=by
 have hp:=List.length_pos_iff.2 h
 have e:l.getLast? =some (l.getD (l.length - 1) 0):=by
  rw[List.getLast?_eq_getElem?,List.getD_eq_getElem?_getD,List.getElem?_eq_getElem (by omega)]
  rfl
 apply Decidable.byContradiction
 intro k
 have h0:l.getD (l.length - 1) 0=0:=by omega
 rw[h0]at e
 exact hn e

theorem div_J7{w:World}{B:Nat}{A0 A1:Option Addr}{n0 c0 n1 c1 x y:Nat}{R:Value->World->Prop}(hB:B<=w.heap.size)(ha:IsN w A0 n0 c0 x)(hb:IsN w A1 n1 c1 y)(hx:x<Lim)(hyx:y<=x)(hy0:y≠0)
  (hR:∀A n c A' n' c' w,IsN w A n c (x / y)->IsN w A' n' c' (x % y)->R (.tuple #[.slice A n c,.slice A' n' c']) w):
  F.natural_num_divide.J7 A0 n0 c0 A1 n1 c1 B w R:=by
 have l0:=ha.len hx
 have l1:=hb.len (Nat.lt_of_le_of_lt hyx hx)
 have haN:=ha
 have hbN:=hb
 obtain⟨a,a1,a2,a3,a4,a5,a6,ax⟩:=ha
 obtain⟨b,b1,b2,b3,b4,b5,b6,bx⟩:=hb
 have hbn:b≠[]:=fun k=>by subst k;simp[wv]at bx;omega
 have hbl:=List.length_pos_iff.2 hbn
 refine F.natural_num_divide.J7.step _ _ _ _ _ _ _ _ _ ⟨fun h=> ?_,fun h=>⟨by simp only[inR];omega,?_⟩⟩
 ·have g:=b5.getD (Int.toNat 0)
  refine b1.load b2 (by omega) (by omega) ⟨by simp only[inR];omega,?_⟩
  have e:b.getD (Int.toNat 0) 0=y:=by
   obtain⟨z,rfl⟩:=List.length_eq_one_iff.1 (by omega:b.length=1)
   simpa[wv]using bx
  rw[e]at g⊢
  refine Pure.mono (natural_by haN (by omega) (by omega) (by omega)) ?_
  rintro v w2 hb2 ⟨A,n,c,A',n',c',rfl,k1,k2⟩
  exact⟨_,_,_,_,_,_,rfl,hR _ _ _ _ _ _ _ k1 k2⟩
 ·have g:=b5.getD (n1 - 1)
  have e1:((n1:Int) - 1).toNat=n1 - 1:=by omega
  refine b1.load b2 (by omega) (by omega) ?_
  rw[e1]
  obtain⟨mt,hmt⟩:∃mt,mt=b.getD (n1 - 1) 0:=⟨_,rfl⟩
  have hmt1:1<=mt:=by rw[hmt,<-b2];exact norm_top b6 hbn
  rw[<-hmt]at g⊢
  obtain⟨f,hf⟩:∃f,f=1000000000 / (mt+1):=⟨_,rfl⟩
  obtain⟨hf0,hf1,hf2⟩:=factor_half hmt1 g hf
  have hfb:f<=1000000000:=by rw[hf];exact Nat.div_le_self _ _
  have ef:(1000000000:Int) / ((mt:Int)+1)=(f:Int):=by rw[hf];simp
  rw[ef]
  refine⟨by simp only[inR];omega,by simp only[inR];omega,⟨by omega,by omega,by simp only[inR];omega⟩,?_⟩
  refine Pure.mono (natural_of (by omega)) ?_
  rintro v w29 hb29 ⟨Af,nf,cf,rfl,kf⟩
  refine⟨_,_,_,rfl,?_⟩
  have hfL:f<Lim:=by
   unfold Lim
   exact Nat.lt_of_le_of_lt (show f<=1000000000^1 by omega) (Nat.pow_lt_pow_right (by omega) (by have:=klim;omega))
  refine Pure.mono (natural_times (haN.below hb29) kf hx hfL) ?_
  rintro v w32 hb32 ⟨Au,nu,cu,rfl,_,us,u1,u2,u3,u4⟩
  refine⟨_,_,_,rfl,?_⟩
  have hxf:x<=x*f:=Nat.le_mul_of_pos_right _ (by omega)
  have hnu:n0<=nu:=by
   have:=wv_len_ge u2 a6 (by rw[ax,u4];exact hxf)
   have:=u1.len
   omega
  have hnu2:nu<=n0+1:=by
   apply Decidable.byContradiction
   intro k
   have hl:=u1.len
   have h1:=wv_pos u3 (fun e=>by subst e;simp at hl;omega)
   have h2:=wv_lt a5
   have h3:1000000000^(a.length+1)<=1000000000^(us.length - 1):=Nat.pow_le_pow_right (by omega) (by omega)
   have h4:wv a*f<=wv a*1000000000:=Nat.mul_le_mul_left _ hfb
   rw[Nat.pow_succ]at h3
   rw[u4,<-ax]at h1
   omega
  have s29:=hb29.size
  have s32:=hb32.size
  refine app_u32 (B0:=B) el_num (by omega) u1 (by omega) s32 (by simp) (x:=0) (by omega) fun Au' cu' w38 u5 g38 b38=> ?_
  have hb38:Below w29.heap.size w32 w38:=below_grown g38 (fun k hk=>(u1.blk k hk).1) s32
  have s38:=hb38.size
  have hw38:Below w.heap.size w w38:=(hb29.trans (hb32.mono s29)).trans (hb38.mono s29)
  have kf38:IsN w38 Af nf cf f:=kf.below (hb32.trans hb38)
  refine Pure.mono (natural_times (hbN.below hw38) kf38 (Nat.lt_of_le_of_lt hyx hx) hfL) ?_
  rintro v w41 hb41 ⟨Av,nv,cv,rfl,_,vs,v1,v2,v3,v4⟩
  have s41:=hb41.size
  refine⟨_,_,_,rfl,fun h=>by omega,fun _=> ?_⟩
  have hyf:y<=y*f:=Nat.le_mul_of_pos_right _ (by omega)
  have hbs:=wv_split b (n1 - 1) (by omega)
  have hbd:wv (b.drop (n1 - 1))=mt:=by
   rw[wv_drop,<-hmt,List.drop_eq_nil_of_le (by omega)]
   simp[wv]
  rw[hbd]at hbs
  have hbt:=wv_lt (b5.take (n1 - 1))
  rw[List.length_take,Nat.min_eq_left (by omega)]at hbt
  obtain⟨P,hP⟩:∃P,P=1000000000^(n1 - 1):=⟨_,rfl⟩
  rw[<-hP]at hbs hbt
  have hyf2:y*f<P*1000000000:=by
   have k1:y+1<=P*(mt+1):=by rw[<-bx,hbs,Nat.mul_add];omega
   have k2:(y+1)*f<=P*(mt+1)*f:=Nat.mul_le_mul_right _ k1
   have k3:P*((mt+1)*f)<=P*1000000000:=Nat.mul_le_mul_left _ hf1
   rw[Nat.mul_assoc]at k2
   rw[Nat.add_mul]at k2
   omega
  have hyf3:P*(mt*f)<=y*f:=by
   have k1:P*mt<=y:=by rw[<-bx,hbs];omega
   have:=Nat.mul_le_mul_right f k1
   rwa [Nat.mul_assoc]at this
  have hnv:nv=n1:=by
   have h1:=wv_len_ge v2 b6 (by rw[bx,v4];exact hyf)
   have h2:=v1.len
   apply Decidable.byContradiction
   intro k
   have h3:=wv_pos v3 (fun e=>by rw[e,List.length_nil]at h1;omega)
   have h4:1000000000^(n1 - 1+1)<=1000000000^(vs.length - 1):=Nat.pow_le_pow_right (by omega) (by omega)
   rw[Nat.pow_succ,<-hP]at h4
   omega
  subst hnv
  have hvl:=v1.len
  have hhalf:1000000000<=2*vs.getD (nv - 1) 0:=by
   have h1:=wv_split vs (nv - 1) (by omega)
   have h2:=wv_lt (v2.take (nv - 1))
   rw[List.length_take,Nat.min_eq_left (by omega),<-hP]at h2
   have h3:wv (vs.drop (nv - 1))=vs.getD (nv - 1) 0:=by
    rw[wv_drop,List.drop_eq_nil_of_le (by omega)]
    simp[wv]
   rw[h3,<-hP,v4]at h1
   apply Decidable.byContradiction
   intro k
   have h4:P*(vs.getD (nv - 1) 0+1)<=P*(mt*f):=Nat.mul_le_mul_left _ (by omega)
   rw[Nat.mul_add]at h4
   omega
  have hn1:nv<=n0:=by
   have:=wv_len_ge a5 b6 (by rw[ax,bx];exact hyx)
   omega
  have hul:=u1.len
  have hub:=u5.blk_of
  have hvb:=v1.blk_of
  have hfne:∀a,Af=some a->a.block<w29.heap.size:=by
   obtain⟨ws,q1,q2,_,_,_,_,q3⟩:=kf
   refine q1.block_lt fun e=> ?_
   subst e
   simp[wv]at q3
   omega
  have e0:wv (us++[(0:Int).toNat])=x*f:=by rw[wv_append,u4];simp[wv]
  have u41:OwnU w41 w29.heap.size Au' (nu+1) cu' (us++[(0:Int).toNat]):=u5.other fun k hk=>hb41.block k (u5.blk k hk).2
  refine div_J13 (Bu:=w29.heap.size) (by omega) (by omega) u41 (u2.append (Small.cons (by simp) Small.nil)) v1.sl hvl v2 (fun a b ha hb=> ?_) (fun a ha=>(hvb a ha).2) (by omega) (by omega) (by omega) hhalf
   (kf38.below hb41) (fun a b ha hb=> ?_) (fun a ha=>by have:=hfne a ha;omega) (by omega) hfb ?_ ?_
  ·have h1:=hvb a ha
   have h2:=hub b hb
   omega
  ·have h1:=hfne a ha
   have h2:=hub b hb
   omega
  ·have e2:(us++[(0:Int).toNat]).drop (nu+1 - nv)=us.drop (nu+1 - nv)++[0]:=by rw[List.drop_append_of_le_length (by omega)];rfl
   rw[e2,wv_append]
   have h1:=wv_lt (l:=us.drop (nu+1 - nv)) fun x hx=>u2 x (List.mem_of_mem_drop hx)
   rw[List.length_drop,show us.length - (nu+1 - nv)=nv - 1 by omega,<-hP]at h1
   have h2:P*1<=P*(mt*f):=Nat.mul_le_mul_left _ (Nat.mul_pos (by omega) (by omega))
   simp only[wv,Nat.mul_zero,Nat.add_zero]
   omega
  ·rw[e0,v4,Nat.mul_div_mul_right _ _ (by omega),Nat.mul_mod_mul_right,Nat.mul_div_cancel _ (by omega)]
   exact hR

theorem natural_divide{w:World}{A0 A1:Option Addr}{n0 c0 n1 c1 x y:Nat}(ha:IsN w A0 n0 c0 x)(hb:IsN w A1 n1 c1 y)(hx:x<Lim)(hy:y<Lim)(hy0:y≠0):
  Pure Tryz.prog 290 #[.slice A0 n0 c0,.slice A1 n1 c1] w fun v w'=>∃A n c A' n' c',v= .tuple #[.slice A n c,.slice A' n' c']/\IsN w' A n c (x / y)/\IsN w' A' n' c' (x % y):=by
 refine F.natural_num_divide.vc _ _ _ _ _ _ _ _ (Pure.mono (natural_compare ha hb hx hy) ?_)
 rintro v w3 hb3 rfl
 refine⟨_,rfl,fun h=> ?_,fun h=> ?_⟩
 ·have hlt:x<y:=by
   simp only[cmpI]at h
   split at h
   ·omega
   ·split at h<;>omega
  rw[Nat.div_eq_of_lt hlt,Nat.mod_eq_of_lt hlt]
  exact⟨_,_,_,_,_,_,rfl,⟨[],.inl rfl,rfl,by omega,by omega,Small.nil,by simp[Norm],rfl⟩,ha.below hb3⟩
 ·have hle:y<=x:=by
   simp only[cmpI]at h
   split at h<;>omega
  refine Pure.mono (natural_small (ha.below hb3)) ?_
  rintro v w7 hb7 rfl
  refine⟨_,_,rfl,?_⟩
  have hw7:Below w.heap.size w w7:=hb3.trans (hb7.mono hb3.size)
  refine Pure.mono (natural_small (hb.below hw7)) ?_
  rintro v w11 hb11 rfl
  have hw11:Below w.heap.size w w11:=hw7.trans (hb11.mono hw7.size)
  have done:∀A n c A' n' c' w',IsN w' A n c (x / y)->IsN w' A' n' c' (x % y)->∃A1 n1 c1 A2 n2 c2,Value.tuple #[.slice A n c,.slice A' n' c']= .tuple #[.slice A1 n1 c1,.slice A2 n2 c2]/\IsN w' A1 n1 c1 (x / y)/\IsN w' A2 n2 c2 (x % y):=
   fun A n c A' n' c' w' k1 k2=>⟨_,_,_,_,_,_,rfl,k1,k2⟩
  refine⟨_,_,rfl,fun hs=>⟨fun ht=> ?_,fun _=> ?_⟩,fun _=> ?_⟩
  ·have hx18:x<1000000000000000000:=by simpa using hs
   have hy18:y<1000000000000000000:=by simpa using ht
   rw[if_pos hx18,if_pos hy18]
   have ed:(x:Int) / (y:Int)=((x / y:Nat):Int):=by simp
   have em:(x:Int) % (y:Int)=((x % y:Nat):Int):=by simp
   have hd:=Nat.div_le_self x y
   have hm:=Nat.mod_le x y
   rw[ed,em]
   refine⟨⟨by omega,by omega,by simp only[inR];omega⟩,⟨by omega,by omega⟩,fun w12 e12=> ?_⟩
   refine Pure.mono (natural_of (by omega)) ?_
   rintro v w13 hb13 ⟨A,n,c,rfl,k1⟩
   refine⟨_,_,_,rfl,Pure.mono (natural_of (by omega)) ?_⟩
   rintro v w14 hb14 ⟨A',n',c',rfl,k2⟩
   exact⟨_,_,_,rfl,done _ _ _ _ _ _ _ (k1.below hb14) k2⟩
  ·exact div_J7 hw11.size (ha.below hw11) (hb.below hw11) hx hle hy0 done
  ·exact div_J7 hw11.size (ha.below hw11) (hb.below hw11) hx hle hy0 done

theorem IsN.pos_len{w:World}{A:Option Addr}{n c x:Nat}(h:IsN w A n c x):0<n↔x≠0:=by
 obtain⟨ws,_,hl,_,_,_,hn,rfl⟩:=h
 constructor
 ·intro h0 hx
  have h1:=wv_pos hn (fun e=>by subst e;simp at hl;omega)
  have h2:0<1000000000^(ws.length - 1):=Nat.pow_pos (by omega)
  omega
 ·intro hx
  apply Decidable.byContradiction
  intro k
  have:ws=[]:=List.eq_nil_of_length_eq_zero (by omega)
  subst this
  exact hx rfl

theorem gcd_L5{B:Nat}{R:Value->World->Prop}:∀(y x:Nat)(w:World),x<1000000000000000000->y<1000000000000000000->B<=w.heap.size->(∀A n c w',IsN w' A n c (Nat.gcd x y)->R (.slice A n c) w')->F.natural_num_gcd.L5 x y B w R:=by
 intro y
 induction y using Nat.strongRecOn with
 |ind y ih=>
  intro x w hx hy hB hR
  refine F.natural_num_gcd.L5.step _ _ _ _ _ ⟨fun h=>⟨⟨by omega,by omega⟩,fun w2 e=> ?_⟩,fun h=> ?_⟩
  ·have em:(x:Int) % (y:Int)=((x % y:Nat):Int):=by simp
   rw[em]
   have hm:=Nat.mod_lt x (show 0<y by omega)
   refine ih _ hm y w2 hy (by omega) (Nat.le_trans hB e.below.size) fun A n c w' k=>hR A n c w' ?_
   rwa [Nat.gcd_comm y,<-Nat.gcd_rec,Nat.gcd_comm]at k
  ·have h0:y=0:=by omega
   subst h0
   refine Pure.mono (natural_of hx) ?_
   rintro v w2 _ ⟨A,n,c,rfl,k⟩
   exact⟨_,_,_,rfl,hR A n c w2 (by rwa [Nat.gcd_zero_right])⟩

theorem gcd_L1{B:Nat}{R:Value->World->Prop}:∀(y x:Nat)(w:World)(A0 A1:Option Addr)(n0 c0 n1 c1:Nat),IsN w A0 n0 c0 x->IsN w A1 n1 c1 y->x<Lim->y<Lim->B<=w.heap.size->(∀A n c w',IsN w' A n c (Nat.gcd x y)->R (.slice A n c) w')->
  F.natural_num_gcd.L1 A0 n0 c0 A1 n1 c1 B w R:=by
 intro y
 induction y using Nat.strongRecOn with
 |ind y ih=>
  intro x w A0 A1 n0 c0 n1 c1 ha hb hx hy hB hR
  have hp:=hb.pos_len
  refine F.natural_num_gcd.L1.step _ _ _ _ _ _ _ _ _ ⟨fun h=> ?_,fun h=> ?_⟩
  ·have hy0:y≠0:=hp.1 (by omega)
   have hm:=Nat.mod_lt x (show 0<y by omega)
   refine Pure.mono (natural_small ha) ?_
   rintro v w4 hb4 rfl
   refine⟨_,_,rfl,Pure.mono (natural_small (hb.below hb4)) ?_⟩
   rintro v w8 hb8 rfl
   have hw8:Below w.heap.size w w8:=hb4.trans (hb8.mono hb4.size)
   have s8:=hw8.size
   have rest:Pure Tryz.prog 290 #[.slice A0 n0 c0,.slice A1 n1 c1] w8 fun v w'=>∃A n c A' n' c',v= .tuple #[.slice A n c,.slice A' n' c']/\F.natural_num_gcd.L1 A1 n1 c1 A' n' c' B w' R:=by
    refine Pure.mono (natural_divide (ha.below hw8) (hb.below hw8) hx hy hy0) ?_
    rintro v w9 hb9 ⟨A,n,c,A',n',c',rfl,k1,k2⟩
    refine⟨_,_,_,_,_,_,rfl,ih _ hm y w9 _ _ _ _ _ _ ((hb.below hw8).below hb9) k2 hy (by omega) (by have:=hb9.size;omega) fun A n c w' k=>hR A n c w' ?_⟩
    rwa [Nat.gcd_comm y,<-Nat.gcd_rec,Nat.gcd_comm]at k
   refine⟨_,_,rfl,fun hs=>⟨fun ht=> ?_,fun _=>rest⟩,fun _=>rest⟩
   have hx18:x<1000000000000000000:=by simpa using hs
   have hy18:y<1000000000000000000:=by simpa using ht
   rw[if_pos hx18,if_pos hy18]
   exact gcd_L5 y x w8 hx18 hy18 (by omega) hR
  ·have h0:y=0:=by
    apply Decidable.byContradiction
    intro k
    have:=hp.2 k
    omega
   subst h0
   exact hR _ _ _ _ (by rwa [Nat.gcd_zero_right])

theorem natural_gcd{w:World}{A0 A1:Option Addr}{n0 c0 n1 c1 x y:Nat}(ha:IsN w A0 n0 c0 x)(hb:IsN w A1 n1 c1 y)(hx:x<Lim)(hy:y<Lim):
  Pure Tryz.prog 264 #[.slice A0 n0 c0,.slice A1 n1 c1] w fun v w'=>∃A n c,v= .slice A n c/\IsN w' A n c (Nat.gcd x y):=
 F.natural_num_gcd.vc _ _ _ _ _ _ _ _ (gcd_L1 y x w _ _ _ _ _ _ ha hb hx hy (Nat.le_refl _) fun A n c w' k=>⟨A,n,c,rfl,k⟩)

theorem foldD(l:Tx):∀a:Nat,l.foldl (fun a c=>10*a+dv c) a=a*10^l.length+valD l:=by
 induction l with
 |nil=>intro a;simp[valD]
 |cons c r ih=>
  intro a
  have h1:=ih (10*a+dv c)
  have h2:=ih (10*0+dv c)
  simp only[valD,List.foldl_cons,List.length_cons,Nat.pow_succ]at*
  rw[h1,h2]
  grind
theorem valD_append(a b:Tx):valD (a++b)=valD a*10^b.length+valD b:=by
 have:=foldD b (valD a)
 rw[<-this]
 simp[valD,List.foldl_append]
theorem valD_cons(c:UInt8)(r:Tx):valD (c::r)=dv c*10^r.length+valD r:=by
 have h1:=foldD r (10*0+dv c)
 have h2:valD (c::r)=r.foldl (fun a c=>10*a+dv c) (10*0+dv c):=rfl
 rw[h2,h1]
 simp
theorem valD_lt{l:Tx}(h:l.all dig=true):valD l<10^l.length:=by
 induction l with
 |nil=>simp[valD]
 |cons c r ih=>
  simp only[List.all_cons,Bool.and_eq_true]at h
  have h1:=ih h.2
  have h2:dv c<=9:=by have:=h.1;simp[dig]at this;simp only[dv];omega
  have h3:dv c*10^r.length<=9*10^r.length:=Nat.mul_le_mul_right _ h2
  rw[valD_cons,List.length_cons,Nat.pow_succ]
  omega

theorem parseUintM_ok(M:Nat)(hM:M<18446744073709551616):∀(l:Tx)(acc:Nat),l.all dig=true->acc*10^l.length+valD l<=M->Lib.parseUintM M acc l= .ok (acc*10^l.length+valD l):=by
 intro l
 induction l with
 |nil=>intro acc _ _;simp[Lib.parseUintM,valD]
 |cons c r ih=>
  intro acc hd hle
  simp only[List.all_cons,Bool.and_eq_true]at hd
  have hc:48<=c.toNat/\c.toNat<=57:=by have:=hd.1;simpa[dig]using this
  have e:acc*10^(c::r).length+valD (c::r)=(acc*10+(c.toNat - 48))*10^r.length+valD r:=by
   have h1:=foldD r (10*0+dv c)
   have h2:valD (c::r)=r.foldl (fun a c=>10*a+dv c) (10*0+dv c):=rfl
   rw[h2,h1,List.length_cons,Nat.pow_succ]
   simp only[dv]
   grind
  have hp:0<10^r.length:=Nat.pow_pos (by omega)
  have h3:acc*10+(c.toNat - 48)<=(acc*10+(c.toNat - 48))*10^r.length:=Nat.le_mul_of_pos_right _ hp
  rw[e]at hle⊢
  rw[Lib.parseUintM,if_pos hc,if_neg (by omega),if_neg (by omega)]
  exact ih _ hd.2 hle
theorem parseUintB_ok{B:Nat}{l:Tx}(hB:2^B - 1<18446744073709551616)(h0:l≠[])(hd:l.all dig=true)(hle:valD l<=2^B - 1):Lib.parseUintB B l= .ok (valD l):=by
 rw[Lib.parseUintB,if_neg h0,parseUintM_ok _ hB l 0 hd (by simpa using hle)]
 simp

theorem by_extract(s:ByteArray)(i j:Nat):by_ (s.extract i j)=((by_ s).take j).drop i:=by
 unfold by_
 rw[ByteArray.data_extract,Array.toList_extract,List.extract_eq_take_drop,List.drop_take]

theorem below_of_uint{w w':World}{e:Nat}{s:ByteArray}(h:w'=w∨w'=Lib.bytesWorld w e s):Below w.heap.size w w':=by
 rcases h with rfl|rfl
 ·exact Below.refl _ _
 ·exact⟨rfl,rfl,rfl,by rw[Lib.bytesWorld_size];omega,fun k hk=>Lib.bytesWorld_at_old w e s k hk⟩

theorem ParseUint32(s:ByteArray)(h0:by_ s≠[])(hd:(by_ s).all dig=true)(hl:s.size<=9)(w:World):
  Pure Tryz.prog 299 #[.string s,.int .i64 10,.int .i64 32] w fun v _=>v= .tuple #[.int .u64 (valD (by_ s):Nat),.nilIface]:=by
 have hv:=valD_lt hd
 have hp:10^(by_ s).length<=10^9:=Nat.pow_le_pow_right (by omega) (by rw[<-size_by];exact hl)
 have hok:=parseUintB_ok (B:=32) (by omega) h0 hd (by omega)
 exact Calls.mono (Tryz.strconv_ParseUint_10_at32_ok s (by omega) _ hok w) fun e w' ⟨he,hw⟩=>⟨_,he,below_of_uint hw,rfl⟩

theorem read_loop{w0:World}{R:Value->World->Prop}{x:Nat}(hR:∀A n c w,IsN w A n c x->R (.slice A n c) w):
  ∀(d:Nat)(s:ByteArray)(w:World)(A:Option Addr)(n c:Nat)(ws:List Nat),s.size<=d->n+s.size<=900000->(by_ s).all dig=true->OwnU w w0.heap.size A n c ws->Small ws->w0.heap.size<=w.heap.size->
   wv ws+1000000000^n*valD (by_ s)=x->F.natural_read.L2 s A n c w0.heap.size w R:=by
 intro d
 induction d with
 |zero=>
  intro s w A n c ws hs hn hd ho hsm hw he
  have h0:by_ s=[]:=List.eq_nil_of_length_eq_zero (by rw[<-size_by];omega)
  rw[h0]at he
  refine F.natural_read.L2.step _ _ _ _ _ _ _ ⟨fun h=>by omega,fun _=> ?_⟩
  refine Pure.mono (natural_trim ho.sl ho.len ho.cap (by omega) hsm) ?_
  rintro v w2 _ ⟨rfl,m,rfl,h,_⟩
  have e:wv ws=x:=by rw[<-he];simp[valD]
  rw[e]at h
  exact⟨_,_,_,rfl,hR _ _ _ _ h⟩
 |succ d ih=>
  intro s w A n c ws hs hn hd ho hsm hw he
  have hsz:=size_by s
  by_cases h0:s.size=0
  ·exact ih s w A n c ws (by omega) hn hd ho hsm hw he
  obtain⟨at_,hat⟩:∃at_:Nat,at_=s.size - 9:=⟨_,rfl⟩
  have eat:(if(0:Int)>((s.size:Int) - 9)then(0:Int)else((s.size:Int) - 9))=(at_:Int):=by split<;>omega
  refine F.natural_read.L2.step _ _ _ _ _ _ _ ⟨fun _=> ?_,fun h=>by omega⟩
  rw[eat,Int.toNat_natCast]
  refine⟨by simp only[inR];omega,⟨by omega,by omega⟩,?_⟩
  have et:by_ (s.extract at_ s.size)=(by_ s).drop at_:=by rw[by_extract,List.take_of_length_le (by omega)]
  have eh:by_ (s.extract 0 at_)=(by_ s).take at_:=by rw[by_extract];rfl
  have hdt:((by_ s).drop at_).all dig=true:=by
   rw[List.all_eq_true]at hd⊢
   exact fun y hy=>hd y (List.mem_of_mem_drop hy)
  have hdh:((by_ s).take at_).all dig=true:=by
   rw[List.all_eq_true]at hd⊢
   exact fun y hy=>hd y (List.mem_of_mem_take hy)
  have hlt:((by_ s).drop at_).length=s.size - at_:=by rw[List.length_drop,<-hsz]
  have hlh:((by_ s).take at_).length=at_:=by rw[List.length_take,<-hsz];omega
  have hu:=valD_lt hdt
  have hp:10^((by_ s).drop at_).length<=10^9:=Nat.pow_le_pow_right (by omega) (by omega)
  refine Pure.mono (ParseUint32 _ (by rw[et];exact fun k=>by rw[k]at hlt;simp at hlt;omega) (by rw[et];exact hdt) (by rw[size_by,et];omega) w) ?_
  rintro v w4 hb4 rfl
  rw[et]
  refine⟨_,_,rfl,by simp only[inR];omega,?_⟩
  have ho4:OwnU w4 w0.heap.size A n c ws:=ho.other fun b hb=>hb4.block b (ho.blk b hb).2
  have s4:=hb4.size
  refine app_u32 (B0:=w0.heap.size) el_num (Nat.le_refl _) ho4 (by omega) (by omega) (by simp) (by omega) fun A' c' w5 o5 _ b5=>⟨⟨by omega,by omega⟩,?_⟩
  have s5:=b5.size
  rw[Int.toNat_natCast]at o5
  refine ih _ w5 A' (n+1) c' _ (by rw[size_by,eh,hlh];omega) (by rw[size_by,eh,hlh];omega) (by rw[eh];exact hdh) o5 (hsm.append (Small.cons (by omega) Small.nil)) (by omega) ?_
  rw[eh,wv_append,ho.len,Nat.pow_succ]
  have ev:valD (by_ s)=valD ((by_ s).take at_)*1000000000+valD ((by_ s).drop at_):=by
   have h1:=valD_append ((by_ s).take at_) ((by_ s).drop at_)
   rw[List.take_append_drop]at h1
   by_cases h9:at_=0
   ·rw[h1,h9];simp[valD]
   ·rw[h1,show((by_ s).drop at_).length=9 by omega]
  rw[ev]at he
  rw[<-he]
  simp only[wv]
  grind

theorem natural_read{w:World}{s:ByteArray}(hs:s.size<=900000)(h:isNat (by_ s)=true):
  Pure Tryz.prog 278 #[.string s] w fun v w'=>∃A n c,v= .slice A n c/\IsN w' A n c (valD (by_ s)):=by
 have hd:(by_ s).all dig=true:=by simp[isNat]at h;simpa using h.2
 exact F.natural_read.vc _ _ _ (read_loop (w0:=w) (x:=valD (by_ s)) (fun A n c w k=>⟨A,n,c,rfl,k⟩) s.size s w none 0 0 [] (Nat.le_refl _) (by omega) hd (World.ownsRow_nil w _ _ _) Small.nil (Nat.le_refl _) (by simp[wv]))

abbrev natT(n:Nat):Tx:=Lib.decDigits n

theorem valD_snoc(l:Tx)(c:UInt8):valD (l++[c])=10*valD l+dv c:=by simp[valD]
theorem natT_small{n:Nat}(h:n<10):natT n=[UInt8.ofNat (48+n)]:=Lib.decDigits_one h
theorem natT_big{n:Nat}(h:¬n<10):natT n=natT (n / 10)++[UInt8.ofNat (48+n % 10)]:=by rw[natT,Lib.decDigits,dif_neg h]
theorem dv_of{n:Nat}(h:n<10):dv (UInt8.ofNat (48+n))=n:=by
 simp only[dv,UInt8.toNat_ofNat']
 omega
theorem dig_of{n:Nat}(h:n<10):dig (UInt8.ofNat (48+n))=true:=by
 simp only[dig,UInt8.toNat_ofNat']
 simp
 omega
theorem of_dv{c:UInt8}(h:dig c=true):UInt8.ofNat (48+dv c)=c:=by
 apply UInt8.toNat_inj.1
 simp only[dig,Bool.and_eq_true,decide_eq_true_eq]at h
 simp only[dv,UInt8.toNat_ofNat']
 have:=c.toNat_lt
 omega
theorem dv_lt{c:UInt8}(h:dig c=true):dv c<10:=by
 simp only[dig,Bool.and_eq_true,decide_eq_true_eq]at h
 simp only[dv]
 omega

theorem natT_val(n:Nat):valD (natT n)=n:=by
 induction n using Nat.strongRecOn with
 |_ n ih=>
  by_cases h:n<10
  ·have e:∀c,valD [c]=dv c:=fun c=>by simp[valD]
   rw[natT_small h,e,dv_of h]
  ·rw[natT_big h,valD_snoc,ih (n / 10) (by omega),dv_of (by omega)]
   omega
theorem natT_all(n:Nat):(natT n).all dig=true:=by
 induction n using Nat.strongRecOn with
 |_ n ih=>
  by_cases h:n<10
  ·rw[natT_small h,List.all_cons,dig_of h];rfl
  ·rw[natT_big h,List.all_append,ih (n / 10) (by omega),List.all_cons,dig_of (show n % 10<10 by omega)];rfl
theorem natT_ne(n:Nat):natT n≠[]:=by
 by_cases h:n<10
 ·rw[natT_small h];simp
 ·rw[natT_big h];simp
theorem head_app{a b:Tx}(h:a≠[]):(a++b).head? =a.head? :=by
 cases a with
 |nil=>exact absurd rfl h
 |cons c r=>rfl
theorem natT_head(n:Nat)(h0:0<n):(natT n).head?≠some 48:=by
 induction n using Nat.strongRecOn with
 |_ n ih=>
  by_cases h:n<10
  ·rw[natT_small h]
   intro k
   have k1:UInt8.ofNat (48+n)=48:=by simpa using k
   have:=congrArg dv k1
   rw[dv_of h]at this
   simp[dv]at this
   omega
  ·rw[natT_big h,head_app (natT_ne _)]
   exact ih (n / 10) (by omega) (by omega)
theorem natT_isNat(n:Nat):isNat (natT n)=true:=by
 have h1:=natT_all n
 have h2:=natT_ne n
 unfold isNat
 rw[h1]
 by_cases h:n=0
 ·subst h;rw[natT_small (by omega)];simp
 ·have h3:=natT_head n (by omega)
  have h4:((natT n).head? !=some 48)=true:=by simpa using h3
  have h5:(natT n).isEmpty=false:=by simpa using h2
  rw[h4,h5]
  simp
theorem natT_inj{a b:Nat}(h:natT a=natT b):a=b:=by
 have:=congrArg valD h
 rwa [natT_val,natT_val]at this

theorem valD_pos{l:Tx}(hd:l.all dig=true)(h:l≠[])(hh:l.head?≠some 48):0<valD l:=by
 cases l with
 |nil=>exact absurd rfl h
 |cons c r=>
  rw[valD_cons]
  simp only[List.all_cons,Bool.and_eq_true]at hd
  have h1:c≠48:=fun k=>by subst k;simp at hh
  have h2:dv c≠0:=fun k=>by
   have:=of_dv hd.1
   rw[k]at this
   exact h1 this.symm
  have h3:0<dv c*10^r.length:=Nat.mul_pos (by omega) (Nat.pow_pos (by omega))
  omega
theorem isNat_parts{t:Tx}(h:isNat t=true):t≠[]/\(t.length=1∨t.head?≠some 48)/\t.all dig=true:=by
 unfold isNat at h
 simp only[Bool.and_eq_true,Bool.or_eq_true,Bool.not_eq_true',beq_iff_eq,bne_iff_ne,ne_eq]at h
 refine⟨fun k=> ?_,h.1.2,h.2⟩
 subst k
 simp at h
theorem natT_snoc:∀(k:Nat)(t:Tx),t.length=k->isNat t=true->natT (valD t)=t:=by
 intro k
 induction k with
 |zero=>intro t hl h;exact absurd (List.eq_nil_of_length_eq_zero hl) (isNat_parts h).1
 |succ k ih=>
  intro t hl h
  obtain⟨h1,h2,h3⟩:=isNat_parts h
  obtain⟨l,c,rfl⟩:∃l c,t=l++[c]:=⟨t.dropLast,t.getLast h1,(List.dropLast_concat_getLast h1).symm⟩
  rw[List.all_append]at h3
  simp only[Bool.and_eq_true,List.all_cons,List.all_nil,and_true]at h3
  rw[valD_snoc]
  by_cases hn:l=[]
  ·subst hn
   have:10*valD []+dv c=dv c:=by simp[valD]
   rw[this,natT_small (dv_lt h3.2),of_dv h3.2]
   rfl
  ·have hh:l.head?≠some 48:=by
    rcases h2 with h2|h2
    ·have:=List.length_pos_iff.2 hn
     rw[List.length_append,List.length_singleton]at h2
     omega
    ·rwa [head_app hn]at h2
   have hp:=valD_pos h3.1 hn hh
   have hl1:isNat l=true:=by
    unfold isNat
    have h4:(l.head? !=some 48)=true:=by simpa using hh
    have h5:l.isEmpty=false:=by simpa using hn
    rw[h3.1,h4,h5]
    simp
   have hd:=dv_lt h3.2
   rw[natT_big (by omega),show(10*valD l+dv c) / 10=valD l by omega,show(10*valD l+dv c) % 10=dv c by omega,ih l (by simp at hl;omega) hl1,of_dv h3.2]
theorem natT_of{t:Tx}(h:isNat t=true):natT (valD t)=t:=natT_snoc _ t rfl h

theorem natT_0:natT 0=[48]:=by rw[natT_small (by omega)];rfl
theorem natT_1:natT 1=[49]:=by rw[natT_small (by omega)];rfl
theorem natT_zero_iff{n:Nat}:natT n=[48]↔n=0:=by
 constructor
 ·intro h;exact natT_inj (h.trans natT_0.symm)
 ·intro h;subst h;exact natT_0
theorem natT_one_iff{n:Nat}:natT n=[49]↔n=1:=by
 constructor
 ·intro h;exact natT_inj (h.trans natT_1.symm)
 ·intro h;subst h;exact natT_1
theorem lt_natT(n:Nat):n<10^(natT n).length:=by
 have:=valD_lt (natT_all n)
 rwa [natT_val]at this
theorem natT_length_le{n k:Nat}(h:n<10^k)(hk:1<=k):(natT n).length<=k:=by
 induction k generalizing n with
 |zero=>omega
 |succ k ih=>
  by_cases hn:n<10
  ·rw[natT_small hn];simp
  ·rw[natT_big hn,List.length_append]
   have hk1:1<=k:=by
    apply Decidable.byContradiction
    intro k0
    have:k=0:=by omega
    subst this
    omega
   have:=ih (n:=n / 10) (by rw[Nat.pow_succ]at h;omega) hk1
   simp
   omega
theorem natT_mem{n:Nat}{c:UInt8}(h:c∈natT n):dig c=true:=by
 have:=natT_all n
 rw[List.all_eq_true]at this
 exact this c h

abbrev intT(z:Int):Tx:=Lib.itoa z
def isInt(t:Tx):Bool:=if t.head? =some 45 then isNat t.tail&&t.tail !=[48]else isNat t
def valI(t:Tx):Int:=if t.head? =some 45 then -(valD t.tail:Int)else valD t

theorem intT_nat(n:Nat):intT (n:Int)=natT n:=by
 rw[intT,Lib.itoa,if_neg (by omega)];rfl
theorem intT_neg{n:Nat}(h:0<n):intT (-(n:Int))=45::natT n:=by
 rw[intT,Lib.itoa,if_pos (by omega)]
 simp
theorem intT_eq(z:Int):intT z=if z<0 then 45::natT z.natAbs else natT z.natAbs:=by
 rw[intT,Lib.itoa]
 split
 ·rfl
 ·congr 1;omega
theorem natT_head45(n:Nat):(natT n).head?≠some 45:=by
 intro h
 have:=natT_mem (List.mem_of_head? h)
 simp[dig]at this
theorem intT_isInt(z:Int):isInt (intT z)=true:=by
 rw[intT_eq,isInt]
 split
 ·have h1:=natT_isNat z.natAbs
  have h2:natT z.natAbs≠[48]:=fun k=>by have:=natT_zero_iff.1 k;omega
  simp[h1,h2]
 ·rw[if_neg (natT_head45 _)]
  exact natT_isNat _
theorem intT_val(z:Int):valI (intT z)=z:=by
 rw[intT_eq,valI]
 split
 ·simp[natT_val];omega
 ·rw[if_neg (natT_head45 _),natT_val];omega
theorem intT_of{t:Tx}(h:isInt t=true):intT (valI t)=t:=by
 unfold isInt at h
 unfold valI
 split at h
 ·rename_i k
  simp only[Bool.and_eq_true,bne_iff_ne,ne_eq]at h
  rw[if_pos k]
  have h0:0<valD t.tail:=by
   apply Nat.pos_of_ne_zero
   intro k0
   have:=natT_of h.1
   rw[k0]at this
   exact h.2 (this▸natT_zero_iff.2 rfl)
  rw[intT_neg h0,natT_of h.1]
  cases t with
  |nil=>simp at k
  |cons c r=>simp at k;subst k;rfl
 ·rename_i k
  rw[if_neg k,intT_nat,natT_of h]
theorem intT_inj{a b:Int}(h:intT a=intT b):a=b:=by
 have:=congrArg valI h
 rwa [intT_val,intT_val]at this
theorem intT_zero_iff{z:Int}:intT z=[48]↔z=0:=by
 constructor
 ·intro h;exact intT_inj (h.trans ((intT_nat 0).trans natT_0).symm)
 ·intro h;subst h;exact(intT_nat 0).trans natT_0
theorem intT_mem{z:Int}{c:UInt8}(h:c∈intT z):dig c=true∨c=45:=by
 rw[intT_eq]at h
 split at h
 ·rcases List.mem_cons.1 h with h|h
  ·exact .inr h
  ·exact .inl (natT_mem h)
 ·exact .inl (natT_mem h)
theorem intT_ne(z:Int):intT z≠[]:=by
 rw[intT_eq]
 split
 ·simp
 ·exact natT_ne _
theorem intT_length_le{z:Int}{k:Nat}(h:z.natAbs<10^k)(hk:1<=k):(intT z).length<=k+1:=by
 rw[intT_eq]
 have:=natT_length_le h hk
 split
 ·simp;omega
 ·omega
theorem lt_intT(z:Int):z.natAbs<10^(intT z).length:=by
 rw[intT_eq]
 have h1:=lt_natT z.natAbs
 split
 ·rw[List.length_cons,Nat.pow_succ];omega
 ·exact h1

def ratT(r:Rat):Tx:=if r.den=1 then intT r.num else intT r.num++47::natT r.den
def bef(t:Tx):Tx:=t.takeWhile (· !=47)
def aft(t:Tx):Tx:=(t.dropWhile (· !=47)).tail
def isRat(t:Tx):Bool:=if 47∈t then isInt (bef t)&&bef t !=[48]&&isNat (aft t)&&aft t !=[48]&&aft t !=[49]&&Nat.gcd (valI (bef t)).natAbs (valD (aft t))==1 else isInt t
def valR(t:Tx):Rat:=if 47∈t then mkRat (valI (bef t)) (valD (aft t))else(valI t:Rat)

theorem not47_int(z:Int):47∉intT z:=by
 intro h
 rcases intT_mem h with h|h
 ·simp[dig]at h
 ·simp at h
theorem bef_app{a b:Tx}(h:47∉a):bef (a++47::b)=a:=by
 unfold bef
 rw[List.takeWhile_append_of_pos (fun x hx=>by simp;intro k;subst k;exact h hx)]
 simp
theorem aft_app{a b:Tx}(h:47∉a):aft (a++47::b)=b:=by
 unfold aft
 rw[List.dropWhile_append_of_pos (fun x hx=>by simp;intro k;subst k;exact h hx)]
 simp
theorem cut_eq{t:Tx}(h:47∈t):t=bef t++47::aft t/\47∉bef t:=by
 induction t with
 |nil=>simp at h
 |cons c r ih=>
  by_cases hc:c=47
  ·subst hc;simp[bef,aft]
  ·have hr:47∈r:=by
    rcases List.mem_cons.1 h with k|k
    ·exact absurd k.symm hc
    ·exact k
   obtain⟨e,hn⟩:=ih hr
   have e1:bef (c::r)=c::bef r:=by simp[bef,hc]
   have e2:aft (c::r)=aft r:=by simp[aft,hc]
   rw[e1,e2]
   constructor
   ·rw[List.cons_append,<-e]
   ·intro k
    rcases List.mem_cons.1 k with k|k
    ·exact hc k.symm
    ·exact hn k

theorem ratT_val(r:Rat):valR (ratT r)=r:=by
 unfold ratT valR
 split
 ·rename_i h
  rw[if_neg (not47_int _),intT_val]
  apply Rat.ext
  ·rfl
  ·rw[h];rfl
 ·rw[if_pos (by simp),bef_app (not47_int _),aft_app (not47_int _),intT_val,natT_val,Rat.mkRat_self]
theorem ratT_isRat(r:Rat):isRat (ratT r)=true:=by
 unfold ratT isRat
 split
 ·rw[if_neg (not47_int _)];exact intT_isInt _
 ·rename_i h
  rw[if_pos (by simp),bef_app (not47_int _),aft_app (not47_int _),intT_isInt,natT_isNat,intT_val,natT_val]
  have h1:intT r.num≠[48]:=by
   intro k
   have k1:=intT_zero_iff.1 k
   have:=r.reduced
   rw[k1]at this
   have h2:Nat.gcd 0 r.den=1:=this
   simp at h2
   exact h h2
  have h2:natT r.den≠[48]:=fun k=>r.den_nz (natT_zero_iff.1 k)
  have h3:natT r.den≠[49]:=fun k=>h (natT_one_iff.1 k)
  have h4:Nat.gcd r.num.natAbs r.den=1:=r.reduced
  simp[h1,h2,h3,h4]
theorem isRat_slash{t:Tx}(h:isRat t=true)(k:47∈t):isInt (bef t)=true/\bef t≠[48]/\isNat (aft t)=true/\aft t≠[48]/\aft t≠[49]/\Nat.gcd (valI (bef t)).natAbs (valD (aft t))=1:=by
 unfold isRat at h
 rw[if_pos k]at h
 simp only[Bool.and_eq_true,bne_iff_ne,ne_eq,beq_iff_eq]at h
 obtain⟨⟨⟨⟨⟨h1,h2⟩,h3⟩,h4⟩,h5⟩,h6⟩:=h
 exact⟨h1,h2,h3,h4,h5,h6⟩
theorem mkRat_red{p:Int}{d:Nat}(hd:d≠0):(mkRat p d).num=p / (p.natAbs.gcd d:Nat)/\(mkRat p d).den=d / p.natAbs.gcd d:=by
 rw[<-Rat.normalize_eq_mkRat hd]
 exact⟨Rat.num_normalize hd,Rat.den_normalize hd⟩
theorem ratT_of{t:Tx}(h:isRat t=true):ratT (valR t)=t:=by
 by_cases k:47∈t
 ·obtain⟨h1,h2,h3,h4,h5,h6⟩:=isRat_slash h k
  have e:=(cut_eq k).1
  have hd:valD (aft t)≠0:=fun k0=>by
   have:=natT_of h3
   rw[k0]at this
   exact h4 (this▸natT_zero_iff.2 rfl)
  have hd1:valD (aft t)≠1:=fun k0=>by
   have:=natT_of h3
   rw[k0]at this
   exact h5 (this▸natT_one_iff.2 rfl)
  obtain⟨r1,r2⟩:=mkRat_red (p:=valI (bef t)) hd
  rw[h6]at r1 r2
  unfold valR ratT
  rw[if_pos k,r1,r2]
  simp only[Nat.div_one,Int.natCast_one,Int.ediv_one]
  rw[if_neg hd1,intT_of h1,natT_of h3,<-e]
 ·unfold isRat at h
  rw[if_neg k]at h
  unfold valR ratT
  rw[if_neg k]
  have e1:((valI t:Rat)).den=1:=rfl
  have e2:((valI t:Rat)).num=valI t:=rfl
  rw[if_pos e1,e2,intT_of h]
theorem ratT_inj{a b:Rat}(h:ratT a=ratT b):a=b:=by
 have:=congrArg valR h
 rwa [ratT_val,ratT_val]at this

def Sm(k:Nat)(r:Rat):Prop:=r.num.natAbs<10^k/\r.den<10^k
theorem Sm.mono{j k:Nat}{r:Rat}(h:Sm j r)(hjk:j<=k):Sm k r:=
 have hp:10^j<=10^k:=Nat.pow_le_pow_right (by omega) hjk
 ⟨Nat.lt_of_lt_of_le h.1 hp,Nat.lt_of_lt_of_le h.2 hp⟩
theorem Sm.neg{k:Nat}{r:Rat}(h:Sm k r):Sm k (-r):=by
 refine⟨?_,h.2⟩
 rw[Rat.neg_num,Int.natAbs_neg]
 exact h.1
theorem Sm.mkRat{k:Nat}{p:Int}{d:Nat}(h1:p.natAbs<10^k)(h2:d<10^k)(hd:d≠0):Sm k (mkRat p d):=by
 obtain⟨e1,e2⟩:=mkRat_red (p:=p) hd
 constructor
 ·rw[e1,Int.natAbs_ediv_of_dvd (Int.ofNat_dvd_left.2 (Nat.gcd_dvd_left _ _)),Int.natAbs_natCast]
  exact Nat.lt_of_le_of_lt (Nat.div_le_self _ _) h1
 ·rw[e2]
  exact Nat.lt_of_le_of_lt (Nat.div_le_self _ _) h2
theorem mul_lt_pow{a b j k:Nat}(ha:a<10^j)(hb:b<10^k):a*b<10^(j+k):=by
 rw[Nat.pow_add]
 exact Nat.mul_lt_mul'' ha hb
theorem add_num_lt{j k:Nat}{a b:Rat}(ha:Sm j a)(hb:Sm k b):(a.num*b.den+b.num*a.den).natAbs<10^(j+k+1):=by
 have h1:=mul_lt_pow ha.1 hb.2
 have h2:=mul_lt_pow hb.1 ha.2
 rw[Nat.add_comm k j]at h2
 have e1:(a.num*b.den).natAbs=a.num.natAbs*b.den:=by rw[Int.natAbs_mul,Int.natAbs_natCast]
 have e2:(b.num*a.den).natAbs=b.num.natAbs*a.den:=by rw[Int.natAbs_mul,Int.natAbs_natCast]
 have h3:=Int.natAbs_add_le (a.num*b.den) (b.num*a.den)
 rw[Nat.pow_succ]
 omega
theorem den_mul_lt{j k:Nat}{a b:Rat}(ha:Sm j a)(hb:Sm k b):a.den*b.den<10^(j+k):=mul_lt_pow ha.2 hb.2
theorem den_mul_ne(a b:Rat):a.den*b.den≠0:=Nat.mul_ne_zero a.den_nz b.den_nz
theorem Sm.add{j k:Nat}{a b:Rat}(ha:Sm j a)(hb:Sm k b):Sm (j+k+1) (a+b):=by
 rw[Rat.add_def']
 refine Sm.mkRat (add_num_lt ha hb) ?_ (den_mul_ne a b)
 have:=den_mul_lt ha hb
 rw[Nat.pow_succ]
 omega
theorem Sm.sub{j k:Nat}{a b:Rat}(ha:Sm j a)(hb:Sm k b):Sm (j+k+1) (a - b):=by
 rw[Rat.sub_eq_add_neg]
 exact ha.add hb.neg
theorem Sm.mul{j k:Nat}{a b:Rat}(ha:Sm j a)(hb:Sm k b):Sm (j+k) (a*b):=by
 rw[Rat.mul_def']
 refine Sm.mkRat ?_ (den_mul_lt ha hb) (den_mul_ne a b)
 rw[Int.natAbs_mul]
 exact mul_lt_pow ha.1 hb.1
theorem Sm.ofInt{k:Nat}{z:Int}(h:z.natAbs<10^k)(hk:1<=k):Sm k (z:Rat):=by
 have hp:10^1<=10^k:=Nat.pow_le_pow_right (by omega) hk
 refine⟨h,?_⟩
 have:(z:Rat).den=1:=rfl
 omega
theorem Sm.text{k:Nat}{r:Rat}(h:(ratT r).length<=k):Sm k r:=by
 have h1:=lt_intT r.num
 have h2:=lt_natT r.den
 have h3:=List.length_pos_iff.2 (intT_ne r.num)
 unfold ratT at h
 split at h
 ·rename_i e
  have hp:10^(intT r.num).length<=10^k:=Nat.pow_le_pow_right (by omega) h
  have hp1:10^1<=10^k:=Nat.pow_le_pow_right (by omega) (by omega)
  exact⟨by omega,by omega⟩
 ·simp only[List.length_append,List.length_cons]at h
  have hp:10^(intT r.num).length<=10^k:=Nat.pow_le_pow_right (by omega) (by omega)
  have hp1:10^(natT r.den).length<=10^k:=Nat.pow_le_pow_right (by omega) (by omega)
  exact⟨by omega,by omega⟩
theorem Sm.length{k:Nat}{r:Rat}(h:Sm k r)(hk:1<=k):(ratT r).length<=2*k+2:=by
 have h1:=intT_length_le h.1 hk
 have h2:=natT_length_le h.2 hk
 unfold ratT
 split
 ·omega
 ·simp only[List.length_append,List.length_cons];omega
theorem Sm.int{k:Nat}{r:Rat}(h:Sm k r)(hk:1<=k):(intT r.num).length<=k+1:=intT_length_le h.1 hk
theorem Sm.nat{k:Nat}{r:Rat}(h:Sm k r)(hk:1<=k):(natT r.den).length<=k:=natT_length_le h.2 hk

theorem lt_cross(a b:Rat):a<b↔a.num*b.den - b.num*a.den<0:=by
 rw[Rat.lt_iff]
 omega
theorem eq_cross(a b:Rat):a=b↔a.num*b.den - b.num*a.den=0:=by
 rw[Rat.eq_iff_mul_eq_mul]
 omega
def cmpR(a b:Rat):Int:=if a<b then -1 else if b<a then 1 else 0
theorem cmpR_lt{a b:Rat}:cmpR a b<0↔a<b:=by
 unfold cmpR
 split
 ·simp[*]
 ·split<;>simp[*]
theorem cmpR_gt{a b:Rat}:cmpR a b>0↔b<a:=by
 unfold cmpR
 split
 ·rename_i h
  have:¬b<a:=Rat.not_lt.2 (Rat.le_of_lt h)
  simp[this]
 ·split<;>simp[*]
theorem cmpR_eq{a b:Rat}:cmpR a b=0↔a=b:=by
 unfold cmpR
 split
 ·rename_i h
  have:=Rat.ne_of_lt h
  simp[this]
 ·rename_i h
  split
  ·rename_i h2
   have:=Rat.ne_of_gt h2
   simp[this]
  ·rename_i h2
   simp
   exact Rat.le_antisymm (Rat.not_lt.1 h2) (Rat.not_lt.1 h)
theorem num_sign(r:Rat):r.num.sign=cmpR r 0:=by
 have h1:r<0↔r.num<0:=by rw[Rat.lt_iff];simp
 have h2:0<r↔0<r.num:=by rw[Rat.lt_iff];simp
 unfold cmpR
 rcases Int.lt_trichotomy r.num 0 with h|h|h
 ·rw[if_pos (h1.2 h),Int.sign_eq_neg_one_of_neg h]
 ·rw[if_neg (fun k=>by have:=h1.1 k;omega),if_neg (fun k=>by have:=h2.1 k;omega),h];rfl
 ·rw[if_neg (fun k=>by have:=h1.1 k;omega),if_pos (h2.2 h),Int.sign_eq_one_of_pos h]

theorem g_pow10 : Tryz.prog.globalNamed "internal/strconv.uint64pow10" = some 0 := by kernel_rfl

structure Glob (w:World):Prop where
 tab : Lib.TabIs Tryz.prog w "internal/strconv.uint64pow10" .u64 Lib.pow10Tab
 mx:∃m:Int,w.cell? ⟨1,0,none⟩=some (.int .i64 m)

theorem cell_lt{w:World}{a:Addr}{v:Value}(h:w.cell? a=some v):a.block<w.heap.size:=by
 apply Decidable.byContradiction
 intro k
 have:w.heap[a.block]? =none:=Array.getElem?_eq_none (by omega)
 simp[World.cell?,this]at h
theorem tab_kept {w w' : World} {B : Nat} (h : Lib.TabIs Tryz.prog w "internal/strconv.uint64pow10" .u64 Lib.pow10Tab) (hb : Below B w w') (hB : w.heap.size ≤ B) : Lib.TabIs Tryz.prog w' "internal/strconv.uint64pow10" .u64 Lib.pow10Tab := by
 unfold Lib.TabIs World.var? at*
 rw[g_pow10]at*
 simp only[Option.bind_some]at*
 have hlt:0<w.heap.size:=by
  apply Decidable.byContradiction
  intro k
  have:w.heap[0]? =none:=Array.getElem?_eq_none (by omega)
  rw[this]at h
  cases h
 rw[hb.block _ (by omega)]
 exact h
theorem Glob.below{w w':World}{B:Nat}(h:Glob w)(hb:Below B w w')(hB:w.heap.size<=B):Glob w':=by
 refine⟨tab_kept h.tab hb hB,?_⟩
 obtain⟨m,hm⟩:=h.mx
 refine⟨m,?_⟩
 have:=cell_lt hm
 simp only at this
 simp only[World.cell?]at hm⊢
 rw[hb.block _ (by omega)]
 exact hm
theorem Glob.next{w w':World}(h:Glob w)(hb:Below w.heap.size w w'):Glob w':=h.below hb (Nat.le_refl _)
end Go.Proofs.YtgfkeadgjkfomaaGreatDoor.B
