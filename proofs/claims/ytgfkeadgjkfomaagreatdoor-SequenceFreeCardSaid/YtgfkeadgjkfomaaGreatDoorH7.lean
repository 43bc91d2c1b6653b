/- Part 7 of the proofs that: without rules, and with holds that can take everything, any order of steps that only put in is one -/
import Derived.Test.YtgfkeadgjkfomaaGreatDoorH6
import Derived.Test.YtgfkeadgjkfomaaGreatDoorProg
import Derived.Deep.Slices
import Derived.Lib.AppendZerosOnto
import Derived.Lib.Overlaps
import Derived.Shelf.Spec.SlicesInsertGrow
set_option linter.unusedVariables false
set_option linter.unusedSimpArgs false
set_option maxRecDepth 100000
set_option maxHeartbeats 4000000
namespace Go.Proofs.YtgfkeadgjkfomaaGreatDoor.F
open Go Go.RowKit Go.Proofs Go.Proofs.YtgfkeadgjkfomaaGreatDoor.Vc
noncomputable def slices_Clone_api_Stow_api_Stow.cx(w:World)(B:Nat)(R:Value->World->Prop):Cx:=⟨Tryz.prog,14,8,Tryz.f14.results.toList,[],[(3,0,2),(3,2,2)],w,B,R⟩
theorem slices_Clone_api_Stow_api_Stow.vc(a:Option Addr)(b c:Nat)(w:World)(R:Value->World->Prop)
  (h:(((a=none)->(R (.slice none 0 0) w))/\(¬(a=none)->(RunOk P (Instr.buildSlice 29 0 #[]) w.heap.size [] w fun l m=>∃d e f,l= .slice d e f/\(RunOk P (Builtin.append_ #[29,29] 29 #[.slice d e f,.slice a b c]) w.heap.size [] m fun n o=>∃g i j,n= .slice g i j/\(R (.slice g i j) o)))))):
  Pure P 14 #[.slice a b c] w R:=
 pure_of_run (slices_Clone_api_Stow_api_Stow.cx w w.heap.size R) 100000 follows Tryz.func14 rfl rfl rfl rfl rfl rfl rfl (Eq.mp (by kernel_rfl) h)

noncomputable def slices_Clone_api_Work_api_Work.cx(w:World)(B:Nat)(R:Value->World->Prop):Cx:=⟨Tryz.prog,18,8,Tryz.f18.results.toList,[],[(3,0,2),(3,2,2)],w,B,R⟩
theorem slices_Clone_api_Work_api_Work.vc(a:Option Addr)(b c:Nat)(w:World)(R:Value->World->Prop)
  (h:(((a=none)->(R (.slice none 0 0) w))/\(¬(a=none)->(RunOk P (Instr.buildSlice 30 0 #[]) w.heap.size [] w fun l m=>∃d e f,l= .slice d e f/\(RunOk P (Builtin.append_ #[30,30] 30 #[.slice d e f,.slice a b c]) w.heap.size [] m fun n o=>∃g i j,n= .slice g i j/\(R (.slice g i j) o)))))):
  Pure P 18 #[.slice a b c] w R:=
 pure_of_run (slices_Clone_api_Work_api_Work.cx w w.heap.size R) 100000 follows Tryz.func18 rfl rfl rfl rfl rfl rfl rfl (Eq.mp (by kernel_rfl) h)

def slices_Equal_int_int.L4(a:Option Addr)(b c:Nat)(d:Option Addr)(e f:Nat)(g i:Int)(B:Nat)(w:World)(R:Value->World->Prop):Prop:=At Tryz.prog 26 26 (loopAt Tryz.f26 4) [(0,.v (.slice a b c)),(1,.v (.slice d e f)),(12,.v (.int .i64 g)),(13,.v (.int .i64 i))] [] B w R
noncomputable def slices_Equal_int_int.cx(w:World)(B:Nat)(R:Value->World->Prop):Cx:=⟨Tryz.prog,26,26,Tryz.f26.results.toList,[((true,4),[0,1,12,13],[])],[],w,B,R⟩
theorem slices_Equal_int_int.L4.step(c:Option Addr)(d j:Nat)(e:Option Addr)(f l:Nat)(b a:Int)(B:Nat)(w:World)(R:Value->World->Prop)
  (h:(((a<b)->((0<=a/\a<d)/\∃m,c=some m/\(∃g,CellsAt w (m.add ((a).toNat*1)) [.int .i64 g]/\((0<=a/\a<f)/\∃n,e=some n/\(∃i,CellsAt w (n.add ((a).toNat*1)) [.int .i64 i]/\(((g≠i)->(∀o,Ext B [] w o->(R (.bool false) o)))/\(¬(g≠i)->(inR .i64 (a+1)/\(∀p,Ext B [] w p->(slices_Equal_int_int.L4 c d j e f l b (a+1) B p R))))))))))/\(¬(a<b)->(R (.bool true) w)))):
  slices_Equal_int_int.L4 c d j e f l b a B w R:=
 loop_of_run (slices_Equal_int_int.cx w B R) 100000 (loopAt Tryz.f26 4) _ _ follows Tryz.func26 rfl rfl rfl (Eq.mp (by kernel_rfl) h)
theorem slices_Equal_int_int.vc(c:Option Addr)(a d:Nat)(e:Option Addr)(b f:Nat)(w:World)(R:Value->World->Prop)
  (h:((((a:Int)≠(b:Int))->(R (.bool false) w))/\(¬((a:Int)≠(b:Int))->(slices_Equal_int_int.L4 c a d e b f (a:Int) (0:Int) w.heap.size w R)))):
  Pure P 26 #[.slice c a d,.slice e b f] w R:=
 pure_of_run (slices_Equal_int_int.cx w w.heap.size R) 100000 follows Tryz.func26 rfl rfl rfl rfl rfl rfl rfl (Eq.mp (by kernel_rfl) h)

noncomputable def slices_Clone_int_int.cx(w:World)(B:Nat)(R:Value->World->Prop):Cx:=⟨Tryz.prog,28,8,Tryz.f28.results.toList,[],[(3,0,2),(3,2,2)],w,B,R⟩
theorem slices_Clone_int_int.vc(a:Option Addr)(b c:Nat)(w:World)(R:Value->World->Prop)
  (h:(((a=none)->(R (.slice none 0 0) w))/\(¬(a=none)->(RunOk P (Instr.buildSlice 48 0 #[]) w.heap.size [] w fun l m=>∃d e f,l= .slice d e f/\(RunOk P (Builtin.append_ #[48,48] 48 #[.slice d e f,.slice a b c]) w.heap.size [] m fun n o=>∃g i j,n= .slice g i j/\(R (.slice g i j) o)))))):
  Pure P 28 #[.slice a b c] w R:=
 pure_of_run (slices_Clone_int_int.cx w w.heap.size R) 100000 follows Tryz.func28 rfl rfl rfl rfl rfl rfl rfl (Eq.mp (by kernel_rfl) h)

noncomputable def slices_ContainsFunc_api_Work_api_Work.cx(w:World)(B:Nat)(R:Value->World->Prop):Cx:=⟨Tryz.prog,32,9,Tryz.f32.results.toList,[],[],w,B,R⟩
theorem slices_ContainsFunc_api_Work_api_Work.vc(a:Option Addr)(b c d:Nat)(e f:Array Value)(w:World)(R:Value->World->Prop)
  (h:(Pure P 60 #[.slice a b c,(.func (.func d) e f)] w fun i j=>∃g,i= .int .i64 g/\(R (.bool (decide (g≥(0:Int)))) j))):
  Pure P 32 #[.slice a b c,(.func (.func d) e f)] w R:=
 pure_of_run (slices_ContainsFunc_api_Work_api_Work.cx w w.heap.size R) 100000 follows Tryz.func32 rfl rfl rfl rfl rfl rfl rfl (Eq.mp (by kernel_rfl) h)

def slices_Equal_api_Work_api_Work.L4(a:Option Addr)(b c:Nat)(d:Option Addr)(e f:Nat)(g i:Int)(B:Nat)(w:World)(R:Value->World->Prop):Prop:=At Tryz.prog 39 26 (loopAt Tryz.f39 4) [(0,.v (.slice a b c)),(1,.v (.slice d e f)),(12,.v (.int .i64 g)),(13,.v (.int .i64 i))] [] B w R
noncomputable def slices_Equal_api_Work_api_Work.cx(w:World)(B:Nat)(R:Value->World->Prop):Cx:=⟨Tryz.prog,39,26,Tryz.f39.results.toList,[((true,4),[0,1,12,13],[])],[],w,B,R⟩
theorem slices_Equal_api_Work_api_Work.L4.step(c:Option Addr)(d o:Nat)(e:Option Addr)(f p:Nat)(b a:Int)(B:Nat)(w:World)(R:Value->World->Prop)
  (h:(((a<b)->((0<=a/\a<d)/\∃q,c=some q/\(∃g i j,CellsAt w (q.add ((a).toNat*3)) [.int .i64 g,.int .i64 i,.int .i64 j]/\((0<=a/\a<f)/\∃r,e=some r/\(∃l m n,CellsAt w (r.add ((a).toNat*3)) [.int .i64 l,.int .i64 m,.int .i64 n]/\(((¬(g=l/\i=m/\j=n/\True))->(∀s,Ext B [] w s->(R (.bool false) s)))/\(¬(¬(g=l/\i=m/\j=n/\True))->(inR .i64 (a+1)/\(∀t,Ext B [] w t->(slices_Equal_api_Work_api_Work.L4 c d o e f p b (a+1) B t R))))))))))/\(¬(a<b)->(R (.bool true) w)))):
  slices_Equal_api_Work_api_Work.L4 c d o e f p b a B w R:=
 loop_of_run (slices_Equal_api_Work_api_Work.cx w B R) 100000 (loopAt Tryz.f39 4) _ _ follows Tryz.func39 rfl rfl rfl (Eq.mp (by kernel_rfl) h)
theorem slices_Equal_api_Work_api_Work.vc(c:Option Addr)(a d:Nat)(e:Option Addr)(b f:Nat)(w:World)(R:Value->World->Prop)
  (h:((((a:Int)≠(b:Int))->(R (.bool false) w))/\(¬((a:Int)≠(b:Int))->(slices_Equal_api_Work_api_Work.L4 c a d e b f (a:Int) (0:Int) w.heap.size w R)))):
  Pure P 39 #[.slice c a d,.slice e b f] w R:=
 pure_of_run (slices_Equal_api_Work_api_Work.cx w w.heap.size R) 100000 follows Tryz.func39 rfl rfl rfl rfl rfl rfl rfl (Eq.mp (by kernel_rfl) h)

noncomputable def slices_SortStableFunc_api_Work_api_Work.cx(w:World)(B:Nat)(R:Value->World->Prop):Cx:=⟨Tryz.prog,43,9,Tryz.f43.results.toList,[],[(0,4,6)],w,B,R⟩
theorem slices_SortStableFunc_api_Work_api_Work.vcB(b:Option Addr)(a c d:Nat)(e f:Array Value)(B:Nat)(w:World)(hB:B<=w.heap.size)(R:Value->World->Prop)
  (h:(PureB P 73 #[.slice b a c,(.int .i64 (a:Int)),(.func (.func d) e f)] B w fun i g=>(∀(k ty:Nat)(cs:Array Value),ty∈([]:List Nat)->w.heap[k]? =some (.cells cs ty (0,0))->g.heap[k]? =w.heap[k]?)/\i= .tuple #[]/\(R (.tuple #[]) g))):
  PureB P 43 #[.slice b a c,(.func (.func d) e f)] B w R:=
 pureB_of_run (slices_SortStableFunc_api_Work_api_Work.cx w B R) 100000 follows Tryz.func43 rfl rfl rfl rfl hB rfl rfl (Eq.mp (by kernel_rfl) h)

noncomputable def slices_Contains_int_int.cx(w:World)(B:Nat)(R:Value->World->Prop):Cx:=⟨Tryz.prog,57,9,Tryz.f57.results.toList,[],[],w,B,R⟩
theorem slices_Contains_int_int.vc(a:Option Addr)(b c:Nat)(d:Int)(w:World)(R:Value->World->Prop)
  (h:(Pure P 85 #[.slice a b c,.int .i64 d] w fun f g=>∃e,f= .int .i64 e/\(R (.bool (decide (e≥(0:Int)))) g))):
  Pure P 57 #[.slice a b c,.int .i64 d] w R:=
 pure_of_run (slices_Contains_int_int.cx w w.heap.size R) 100000 follows Tryz.func57 rfl rfl rfl rfl rfl rfl rfl (Eq.mp (by kernel_rfl) h)

def slices_IndexFunc_api_Work_api_Work.L2(a:Option Addr)(b c d:Nat)(e:Array Value)(f:Array Value)(g i:Int)(B:Nat)(w:World)(R:Value->World->Prop):Prop:=At Tryz.prog 60 19 (loopAt Tryz.f60 2) [(0,.v (.slice a b c)),(1,.v (.func (.func d) e f)),(7,.v (.int .i64 g)),(8,.v (.int .i64 i))] [] B w R
noncomputable def slices_IndexFunc_api_Work_api_Work.cx(w:World)(B:Nat)(R:Value->World->Prop):Cx:=⟨Tryz.prog,60,19,Tryz.f60.results.toList,[((true,2),[0,1,7,8],[])],[(4,5,4)],w,B,R⟩
theorem slices_IndexFunc_api_Work_api_Work.L2.step(d:Option Addr)(e j b:Nat)(f:Array Value)(g:Array Value)(c a:Int)(B:Nat)(w:World)(R:Value->World->Prop)
  (h:(((a<c)->((0<=a/\a<e)/\∃l,d=some l/\(∃m n o,CellsAt w (l.add ((a).toNat*3)) [.int .i64 m,.int .i64 n,.int .i64 o]/\(callable P b=true/\(Pure P b ((Array.toList f)++([.agg #[.int .i64 m,.int .i64 n,.int .i64 o]]:List Value)++(Array.toList g)).toArray w fun q p=>∃i,q= .bool i/\((i=true->(R (.int .i64 a) p))/\(i=false->(inR .i64 (a+1)/\(slices_IndexFunc_api_Work_api_Work.L2 d e j b f g c (a+1) B p R)))))))))/\(¬(a<c)->(R (.int .i64 (-1:Int)) w)))):
  slices_IndexFunc_api_Work_api_Work.L2 d e j b f g c a B w R:=
 loop_of_run (slices_IndexFunc_api_Work_api_Work.cx w B R) 100000 (loopAt Tryz.f60 2) _ _ follows Tryz.func60 rfl rfl rfl (Eq.mp (by kernel_rfl) h)
theorem slices_IndexFunc_api_Work_api_Work.vc(b:Option Addr)(a c d:Nat)(e f:Array Value)(w:World)(R:Value->World->Prop)
  (h:(slices_IndexFunc_api_Work_api_Work.L2 b a c d e f (a:Int) (0:Int) w.heap.size w R)):
  Pure P 60 #[.slice b a c,(.func (.func d) e f)] w R:=
 pure_of_run (slices_IndexFunc_api_Work_api_Work.cx w w.heap.size R) 100000 follows Tryz.func60 rfl rfl rfl rfl rfl rfl rfl (Eq.mp (by kernel_rfl) h)

def slices_stableCmpFunc_api_Work.L2(a:Option Addr)(b c:Nat)(d:Int)(e:Nat)(f:Array Value)(g:Array Value)(i j l:Int)(B:Nat)(w:World)(R:Value->World->Prop):Prop:=At Tryz.prog 73 63 (loopAt Tryz.f73 2) [(0,.v (.slice a b c)),(1,.v (.int .i64 d)),(2,.v (.func (.func e) f g)),(6,.v (.int .i64 i)),(7,.v (.int .i64 j)),(8,.v (.int .i64 l))] [] B w R
def slices_stableCmpFunc_api_Work.L7(a:Option Addr)(b c:Nat)(d:Int)(e:Nat)(f:Array Value)(g:Array Value)(i:Int)(B:Nat)(w:World)(R:Value->World->Prop):Prop:=At Tryz.prog 73 63 (loopAt Tryz.f73 7) [(0,.v (.slice a b c)),(1,.v (.int .i64 d)),(2,.v (.func (.func e) f g)),(6,.v (.int .i64 i))] [] B w R
def slices_stableCmpFunc_api_Work.L9(a:Option Addr)(b c:Nat)(d:Int)(e:Nat)(f:Array Value)(g:Array Value)(i j l:Int)(B:Nat)(w:World)(R:Value->World->Prop):Prop:=At Tryz.prog 73 63 (loopAt Tryz.f73 9) [(0,.v (.slice a b c)),(1,.v (.int .i64 d)),(2,.v (.func (.func e) f g)),(6,.v (.int .i64 i)),(7,.v (.int .i64 j)),(8,.v (.int .i64 l))] [] B w R
noncomputable def slices_stableCmpFunc_api_Work.cx(w:World)(B:Nat)(R:Value->World->Prop):Cx:=⟨Tryz.prog,73,63,Tryz.f73.results.toList,[((true,2),[0,1,2,6,7,8],[]),((true,7),[0,1,2,6],[]),((true,9),[0,1,2,6,7,8],[])],[(3,4,6),(6,4,6),(10,7,6),(15,5,6)],w,B,R⟩
theorem slices_stableCmpFunc_api_Work.L2.step(c:Option Addr)(d e:Nat)(b:Int)(f:Nat)(g:Array Value)(i:Array Value)(j l a:Int)(B:Nat)(w:World)(R:Value->World->Prop)
  (h:(((a<=b)->(PureB P 106 #[.slice c d e,.int .i64 l,.int .i64 a,(.func (.func f) g i)] B w fun o m=>(∀(k ty:Nat)(cs:Array Value),ty∈([]:List Nat)->w.heap[k]? =some (.cells cs ty (0,0))->m.heap[k]? =w.heap[k]?)/\o= .tuple #[]/\(inR .i64 (a+j)/\(slices_stableCmpFunc_api_Work.L2 c d e b f g i j a (a+j) B m R))))/\(¬(a<=b)->(PureB P 106 #[.slice c d e,.int .i64 l,.int .i64 b,(.func (.func f) g i)] B w fun p n=>(∀(k ty:Nat)(cs:Array Value),ty∈([]:List Nat)->w.heap[k]? =some (.cells cs ty (0,0))->n.heap[k]? =w.heap[k]?)/\p= .tuple #[]/\(slices_stableCmpFunc_api_Work.L7 c d e b f g i j B n R))))):
  slices_stableCmpFunc_api_Work.L2 c d e b f g i j l a B w R:=
 loop_of_run (slices_stableCmpFunc_api_Work.cx w B R) 100000 (loopAt Tryz.f73 2) _ _ follows Tryz.func73 rfl rfl rfl (Eq.mp (by kernel_rfl) h)
theorem slices_stableCmpFunc_api_Work.L7.step(c:Option Addr)(d e:Nat)(b:Int)(f:Nat)(g:Array Value)(i:Array Value)(a:Int)(B:Nat)(w:World)(R:Value->World->Prop)
  (h:(((a<b)->(inR .i64 ((2:Int)*a)/\(slices_stableCmpFunc_api_Work.L9 c d e b f g i a (0:Int) ((2:Int)*a) B w R)))/\(¬(a<b)->(R (.tuple #[]) w)))):
  slices_stableCmpFunc_api_Work.L7 c d e b f g i a B w R:=
 loop_of_run (slices_stableCmpFunc_api_Work.cx w B R) 100000 (loopAt Tryz.f73 7) _ _ follows Tryz.func73 rfl rfl rfl (Eq.mp (by kernel_rfl) h)
theorem slices_stableCmpFunc_api_Work.L9.step(e:Option Addr)(f g:Nat)(b:Int)(i:Nat)(j:Array Value)(l:Array Value)(a c d:Int)(B:Nat)(w:World)(R:Value->World->Prop)
  (h:(((d<=b)->(inR .i64 (c+a)/\(PureB P 107 #[.slice e f g,.int .i64 c,(.int .i64 (c+a)),.int .i64 d,(.func (.func i) j l)] B w fun o m=>(∀(k ty:Nat)(cs:Array Value),ty∈([]:List Nat)->w.heap[k]? =some (.cells cs ty (0,0))->m.heap[k]? =w.heap[k]?)/\o= .tuple #[]/\(inR .i64 ((2:Int)*a)/\(inR .i64 (d+((2:Int)*a))/\(slices_stableCmpFunc_api_Work.L9 e f g b i j l a d (d+((2:Int)*a)) B m R))))))/\(¬(d<=b)->(inR .i64 (c+a)/\(((((c+a):Int)<b)->(PureB P 107 #[.slice e f g,.int .i64 c,(.int .i64 (c+a)),.int .i64 b,(.func (.func i) j l)] B w fun p n=>(∀(k ty:Nat)(cs:Array Value),ty∈([]:List Nat)->w.heap[k]? =some (.cells cs ty (0,0))->n.heap[k]? =w.heap[k]?)/\p= .tuple #[]/\(inR .i64 (a*(2:Int))/\(slices_stableCmpFunc_api_Work.L7 e f g b i j l (a*(2:Int)) B n R))))/\(¬(((c+a):Int)<b)->(inR .i64 (a*(2:Int))/\(slices_stableCmpFunc_api_Work.L7 e f g b i j l (a*(2:Int)) B w R)))))))):
  slices_stableCmpFunc_api_Work.L9 e f g b i j l a c d B w R:=
 loop_of_run (slices_stableCmpFunc_api_Work.cx w B R) 100000 (loopAt Tryz.f73 9) _ _ follows Tryz.func73 rfl rfl rfl (Eq.mp (by kernel_rfl) h)
theorem slices_stableCmpFunc_api_Work.vcB(a:Option Addr)(b c:Nat)(d:Int)(e:Nat)(f g:Array Value)(B:Nat)(w:World)(hB:B<=w.heap.size)(R:Value->World->Prop)
  (h:(slices_stableCmpFunc_api_Work.L2 a b c d e f g (20:Int) (0:Int) (20:Int) B w R)):
  PureB P 73 #[.slice a b c,.int .i64 d,(.func (.func e) f g)] B w R:=
 pureB_of_run (slices_stableCmpFunc_api_Work.cx w B R) 100000 follows Tryz.func73 rfl rfl rfl rfl hB rfl rfl (Eq.mp (by kernel_rfl) h)

def slices_Index_int_int.L2(a:Option Addr)(b c:Nat)(d e f:Int)(B:Nat)(w:World)(R:Value->World->Prop):Prop:=At Tryz.prog 85 19 (loopAt Tryz.f85 2) [(0,.v (.slice a b c)),(1,.v (.int .i64 d)),(7,.v (.int .i64 e)),(8,.v (.int .i64 f))] [] B w R
noncomputable def slices_Index_int_int.cx(w:World)(B:Nat)(R:Value->World->Prop):Cx:=⟨Tryz.prog,85,19,Tryz.f85.results.toList,[((true,2),[0,1,7,8],[])],[],w,B,R⟩
theorem slices_Index_int_int.L2.step(d:Option Addr)(e g:Nat)(b c a:Int)(B:Nat)(w:World)(R:Value->World->Prop)
  (h:(((a<c)->((0<=a/\a<e)/\∃i,d=some i/\(∃f,CellsAt w (i.add ((a).toNat*1)) [.int .i64 f]/\(((b=f)->(R (.int .i64 a) w))/\(¬(b=f)->(inR .i64 (a+1)/\(slices_Index_int_int.L2 d e g b c (a+1) B w R)))))))/\(¬(a<c)->(R (.int .i64 (-1:Int)) w)))):
  slices_Index_int_int.L2 d e g b c a B w R:=
 loop_of_run (slices_Index_int_int.cx w B R) 100000 (loopAt Tryz.f85 2) _ _ follows Tryz.func85 rfl rfl rfl (Eq.mp (by kernel_rfl) h)
theorem slices_Index_int_int.vc(b:Option Addr)(a c:Nat)(d:Int)(w:World)(R:Value->World->Prop)
  (h:(slices_Index_int_int.L2 b a c d (a:Int) (0:Int) w.heap.size w R)):
  Pure P 85 #[.slice b a c,.int .i64 d] w R:=
 pure_of_run (slices_Index_int_int.cx w w.heap.size R) 100000 follows Tryz.func85 rfl rfl rfl rfl rfl rfl rfl (Eq.mp (by kernel_rfl) h)

def slices_IndexFunc_api_Hold_api_Hold.L2(a:Option Addr)(b c d:Nat)(e:Array Value)(f:Array Value)(g i:Int)(B:Nat)(w:World)(R:Value->World->Prop):Prop:=At Tryz.prog 101 19 (loopAt Tryz.f101 2) [(0,.v (.slice a b c)),(1,.v (.func (.func d) e f)),(7,.v (.int .i64 g)),(8,.v (.int .i64 i))] [] B w R
noncomputable def slices_IndexFunc_api_Hold_api_Hold.cx(w:World)(B:Nat)(R:Value->World->Prop):Cx:=⟨Tryz.prog,101,19,Tryz.f101.results.toList,[((true,2),[0,1,7,8],[])],[(4,5,4)],w,B,R⟩
theorem slices_IndexFunc_api_Hold_api_Hold.L2.step(d:Option Addr)(e j b:Nat)(f:Array Value)(g:Array Value)(c a:Int)(B:Nat)(w:World)(R:Value->World->Prop)
  (h:(((a<c)->((0<=a/\a<e)/\∃l,d=some l/\(∃m n o p q r s,CellsAt w (l.add ((a).toNat*7)) [.int .i64 m,.string n,.string o,.string p,.string q,.string r,.string s]/\(callable P b=true/\(Pure P b ((Array.toList f)++([.agg #[.int .i64 m,.string n,.string o,.string p,.string q,.string r,.string s]]:List Value)++(Array.toList g)).toArray w fun u t=>∃i,u= .bool i/\((i=true->(R (.int .i64 a) t))/\(i=false->(inR .i64 (a+1)/\(slices_IndexFunc_api_Hold_api_Hold.L2 d e j b f g c (a+1) B t R)))))))))/\(¬(a<c)->(R (.int .i64 (-1:Int)) w)))):
  slices_IndexFunc_api_Hold_api_Hold.L2 d e j b f g c a B w R:=
 loop_of_run (slices_IndexFunc_api_Hold_api_Hold.cx w B R) 100000 (loopAt Tryz.f101 2) _ _ follows Tryz.func101 rfl rfl rfl (Eq.mp (by kernel_rfl) h)
theorem slices_IndexFunc_api_Hold_api_Hold.vc(b:Option Addr)(a c d:Nat)(e f:Array Value)(w:World)(R:Value->World->Prop)
  (h:(slices_IndexFunc_api_Hold_api_Hold.L2 b a c d e f (a:Int) (0:Int) w.heap.size w R)):
  Pure P 101 #[.slice b a c,(.func (.func d) e f)] w R:=
 pure_of_run (slices_IndexFunc_api_Hold_api_Hold.cx w w.heap.size R) 100000 follows Tryz.func101 rfl rfl rfl rfl rfl rfl rfl (Eq.mp (by kernel_rfl) h)

def slices_insertionSortCmpFunc_api_Work.L1(a:Option Addr)(b c:Nat)(d e:Int)(f:Nat)(g:Array Value)(i:Array Value)(j:Int)(B:Nat)(w:World)(R:Value->World->Prop):Prop:=At Tryz.prog 106 53 (loopAt Tryz.f106 1) [(0,.v (.slice a b c)),(1,.v (.int .i64 d)),(2,.v (.int .i64 e)),(3,.v (.func (.func f) g i)),(8,.v (.int .i64 j))] [] B w R
def slices_insertionSortCmpFunc_api_Work.L4(a:Option Addr)(b c:Nat)(d e:Int)(f:Nat)(g:Array Value)(i:Array Value)(j l:Int)(B:Nat)(w:World)(R:Value->World->Prop):Prop:=At Tryz.prog 106 53 (loopAt Tryz.f106 4) [(0,.v (.slice a b c)),(1,.v (.int .i64 d)),(2,.v (.int .i64 e)),(3,.v (.func (.func f) g i)),(8,.v (.int .i64 j)),(9,.v (.int .i64 l))] [] B w R
noncomputable def slices_insertionSortCmpFunc_api_Work.cx(w:World)(B:Nat)(R:Value->World->Prop):Cx:=⟨Tryz.prog,106,53,Tryz.f106.results.toList,[((true,1),[0,1,2,3,8],[]),((true,4),[0,1,2,3,8,9],[])],[(4,14,4)],w,B,R⟩
theorem slices_insertionSortCmpFunc_api_Work.L1.step(c:Option Addr)(d e:Nat)(f b:Int)(g:Nat)(i:Array Value)(j:Array Value)(a:Int)(B:Nat)(w:World)(R:Value->World->Prop)
  (h:(((a<b)->(slices_insertionSortCmpFunc_api_Work.L4 c d e f b g i j a a B w R))/\(¬(a<b)->(R (.tuple #[]) w)))):
  slices_insertionSortCmpFunc_api_Work.L1 c d e f b g i j a B w R:=
 loop_of_run (slices_insertionSortCmpFunc_api_Work.cx w B R) 100000 (loopAt Tryz.f106 1) _ _ follows Tryz.func106 rfl rfl rfl (Eq.mp (by kernel_rfl) h)
theorem slices_insertionSortCmpFunc_api_Work.L4.step(b:Option Addr)(c m:Nat)(f n:Int)(g:Nat)(j:Array Value)(l:Array Value)(i a:Int)(B:Nat)(w:World)(R:Value->World->Prop)
  (h:(((a>f)->((0<=a/\a<c)/\∃x,b=some x/\(∃y z A,CellsAt w (x.add ((a).toNat*3)) [.int .i64 y,.int .i64 z,.int .i64 A]/\(inR .i64 (a - (1:Int))/\((0<=(a - (1:Int))/\(a - (1:Int))<c)/\∃C,b=some C/\(∃D E G,CellsAt w (C.add (((a - (1:Int))).toNat*3)) [.int .i64 D,.int .i64 E,.int .i64 G]/\(callable P g=true/\(∀H,Ext B [] w H->(Pure P g ((Array.toList j)++([.agg #[.int .i64 y,.int .i64 z,.int .i64 A],.agg #[.int .i64 D,.int .i64 E,.int .i64 G]]:List Value)++(Array.toList l)).toArray H fun U o=>∃p,U= .int .i64 p/\(((p<0)->(inR .i64 (a - (1:Int))/\(inR .i64 (a - (1:Int))/\((0<=(a - (1:Int))/\(a - (1:Int))<c)/\∃I,b=some I/\(∃J K L,CellsAt o (I.add (((a - (1:Int))).toNat*3)) [.int .i64 J,.int .i64 K,.int .i64 L]/\((0<=a/\a<c)/\∃M,b=some M/\(∃N O Q,CellsAt o (M.add ((a).toNat*3)) [.int .i64 N,.int .i64 O,.int .i64 Q]/\((0<=a/\a<c)/\∃d,b=some d/\(∀q,Ext B [] o q->(∃(r:List Value)(s:Nat),B<=(d.add ((a).toNat*3)).block/\(d.add ((a).toNat*3)).spot=none/\q.heap[(d.add ((a).toNat*3)).block]? =some (.cells r.toArray s (0,0))/\(d.add ((a).toNat*3)).off+3<=r.length/\hasType s []=false/\∀t,Wrote q t (d.add ((a).toNat*3)).block s (setCells r (d.add ((a).toNat*3)).off [.int .i64 J,.int .i64 K,.int .i64 L])->((0<=(a - (1:Int))/\(a - (1:Int))<c)/\∃e,b=some e/\(∃(u:List Value)(v:Nat),B<=(e.add (((a - (1:Int))).toNat*3)).block/\(e.add (((a - (1:Int))).toNat*3)).spot=none/\t.heap[(e.add (((a - (1:Int))).toNat*3)).block]? =some (.cells u.toArray v (0,0))/\(e.add (((a - (1:Int))).toNat*3)).off+3<=u.length/\hasType v []=false/\∀S,Wrote t S (e.add (((a - (1:Int))).toNat*3)).block v (setCells u (e.add (((a - (1:Int))).toNat*3)).off [.int .i64 N,.int .i64 O,.int .i64 Q])->(inR .i64 (a - (1:Int))/\(slices_insertionSortCmpFunc_api_Work.L4 b c m f n g j l i (a - (1:Int)) B S R))))))))))))))/\(¬(p<0)->(inR .i64 (i+1)/\(slices_insertionSortCmpFunc_api_Work.L1 b c m f n g j l (i+1) B o R)))))))))))))/\(¬(a>f)->(inR .i64 (i+1)/\(∀T,Ext B [] w T->(slices_insertionSortCmpFunc_api_Work.L1 b c m f n g j l (i+1) B T R)))))):
  slices_insertionSortCmpFunc_api_Work.L4 b c m f n g j l i a B w R:=
 loop_of_run (slices_insertionSortCmpFunc_api_Work.cx w B R) 100000 (loopAt Tryz.f106 4) _ _ follows Tryz.func106 rfl rfl rfl (Eq.mp (by kernel_rfl) h)
theorem slices_insertionSortCmpFunc_api_Work.vcB(b:Option Addr)(c d:Nat)(a e:Int)(f:Nat)(g i:Array Value)(B:Nat)(w:World)(hB:B<=w.heap.size)(R:Value->World->Prop)
  (h:(inR .i64 (a+1)/\(slices_insertionSortCmpFunc_api_Work.L1 b c d a e f g i (a+1) B w R))):
  PureB P 106 #[.slice b c d,.int .i64 a,.int .i64 e,(.func (.func f) g i)] B w R:=
 pureB_of_run (slices_insertionSortCmpFunc_api_Work.cx w B R) 100000 follows Tryz.func106 rfl rfl rfl rfl hB rfl rfl (Eq.mp (by kernel_rfl) h)

def slices_IndexFunc_api_Parcel_api_Parcel.L2(a:Option Addr)(b c d:Nat)(e:Array Value)(f:Array Value)(g i:Int)(B:Nat)(w:World)(R:Value->World->Prop):Prop:=At Tryz.prog 111 19 (loopAt Tryz.f111 2) [(0,.v (.slice a b c)),(1,.v (.func (.func d) e f)),(7,.v (.int .i64 g)),(8,.v (.int .i64 i))] [] B w R
noncomputable def slices_IndexFunc_api_Parcel_api_Parcel.cx(w:World)(B:Nat)(R:Value->World->Prop):Cx:=⟨Tryz.prog,111,19,Tryz.f111.results.toList,[((true,2),[0,1,7,8],[])],[(4,5,4)],w,B,R⟩
theorem slices_IndexFunc_api_Parcel_api_Parcel.L2.step(d:Option Addr)(e j b:Nat)(f:Array Value)(g:Array Value)(c a:Int)(B:Nat)(w:World)(R:Value->World->Prop)
  (h:(((a<c)->((0<=a/\a<e)/\∃l,d=some l/\(∃m n o p q r s,CellsAt w (l.add ((a).toNat*7)) [.int .i64 m,.int .i64 n,.int .i64 o,.string p,.string q,.string r,.string s]/\(callable P b=true/\(Pure P b ((Array.toList f)++([.agg #[.int .i64 m,.int .i64 n,.int .i64 o,.string p,.string q,.string r,.string s]]:List Value)++(Array.toList g)).toArray w fun u t=>∃i,u= .bool i/\((i=true->(R (.int .i64 a) t))/\(i=false->(inR .i64 (a+1)/\(slices_IndexFunc_api_Parcel_api_Parcel.L2 d e j b f g c (a+1) B t R)))))))))/\(¬(a<c)->(R (.int .i64 (-1:Int)) w)))):
  slices_IndexFunc_api_Parcel_api_Parcel.L2 d e j b f g c a B w R:=
 loop_of_run (slices_IndexFunc_api_Parcel_api_Parcel.cx w B R) 100000 (loopAt Tryz.f111 2) _ _ follows Tryz.func111 rfl rfl rfl (Eq.mp (by kernel_rfl) h)
theorem slices_IndexFunc_api_Parcel_api_Parcel.vc(b:Option Addr)(a c d:Nat)(e f:Array Value)(w:World)(R:Value->World->Prop)
  (h:(slices_IndexFunc_api_Parcel_api_Parcel.L2 b a c d e f (a:Int) (0:Int) w.heap.size w R)):
  Pure P 111 #[.slice b a c,(.func (.func d) e f)] w R:=
 pure_of_run (slices_IndexFunc_api_Parcel_api_Parcel.cx w w.heap.size R) 100000 follows Tryz.func111 rfl rfl rfl rfl rfl rfl rfl (Eq.mp (by kernel_rfl) h)

noncomputable def slices_ContainsFunc_int_int.cx(w:World)(B:Nat)(R:Value->World->Prop):Cx:=⟨Tryz.prog,114,9,Tryz.f114.results.toList,[],[],w,B,R⟩
theorem slices_ContainsFunc_int_int.vc(a:Option Addr)(b c d:Nat)(e f:Array Value)(w:World)(R:Value->World->Prop)
  (h:(Pure P 155 #[.slice a b c,(.func (.func d) e f)] w fun i j=>∃g,i= .int .i64 g/\(R (.bool (decide (g≥(0:Int)))) j))):
  Pure P 114 #[.slice a b c,(.func (.func d) e f)] w R:=
 pure_of_run (slices_ContainsFunc_int_int.cx w w.heap.size R) 100000 follows Tryz.func114 rfl rfl rfl rfl rfl rfl rfl (Eq.mp (by kernel_rfl) h)

noncomputable def slices_ContainsFunc_api_Stow_api_Stow.cx(w:World)(B:Nat)(R:Value->World->Prop):Cx:=⟨Tryz.prog,133,9,Tryz.f133.results.toList,[],[],w,B,R⟩
theorem slices_ContainsFunc_api_Stow_api_Stow.vc(a:Option Addr)(b c d:Nat)(e f:Array Value)(w:World)(R:Value->World->Prop)
  (h:(Pure P 168 #[.slice a b c,(.func (.func d) e f)] w fun i j=>∃g,i= .int .i64 g/\(R (.bool (decide (g≥(0:Int)))) j))):
  Pure P 133 #[.slice a b c,(.func (.func d) e f)] w R:=
 pure_of_run (slices_ContainsFunc_api_Stow_api_Stow.cx w w.heap.size R) 100000 follows Tryz.func133 rfl rfl rfl rfl rfl rfl rfl (Eq.mp (by kernel_rfl) h)

def slices_DeleteFunc_api_Stow_api_Stow.L5(a:Option Addr)(b c d:Nat)(e:Array Value)(f:Array Value)(g i:Int)(B:Nat)(w:World)(R:Value->World->Prop):Prop:=At Tryz.prog 139 42 (loopAt Tryz.f139 5) [(0,.v (.slice a b c)),(1,.v (.func (.func d) e f)),(5,.v (.int .i64 g)),(6,.v (.int .i64 i))] [] B w R
noncomputable def slices_DeleteFunc_api_Stow_api_Stow.cx(w:World)(B:Nat)(R:Value->World->Prop):Cx:=⟨Tryz.prog,139,42,Tryz.f139.results.toList,[((true,5),[0,1,5,6],[])],[(7,4,2),(8,2,4),(11,3,2)],w,B,R⟩
theorem slices_DeleteFunc_api_Stow_api_Stow.L5.step(f:Option Addr)(b e i:Nat)(j:Array Value)(l:Array Value)(a c:Int)(B:Nat)(w:World)(R:Value->World->Prop)
  (h:(((c<(b:Int))->((0<=c/\c<b)/\∃t,f=some t/\(∃u v x,CellsAt w (t.add ((c).toNat*3)) [.int .i64 u,.int .i64 v,.int .i64 x]/\(RunOk P (Instr.alloc 39 true (.tuple #[])) B [] w fun I y=>∃(d:Addr),I= .pointer (some d)/\(∃(n:List Value)(o:Nat),B<=d.block/\d.spot=none/\y.heap[d.block]? =some (.cells n.toArray o (0,0))/\d.off+3<=n.length/\hasType o []=false/\∀p,Wrote y p d.block o (setCells n d.off [.int .i64 u,.int .i64 v,.int .i64 x])->(∃z A C,CellsAt p d [.int .i64 z,.int .i64 A,.int .i64 C]/\(callable P i=true/\(Pure P i ((Array.toList j)++([.agg #[.int .i64 z,.int .i64 A,.int .i64 C]]:List Value)++(Array.toList l)).toArray p fun J m=>∃q,J= .bool q/\(((q=false)->(∃D E G,CellsAt m d [.int .i64 D,.int .i64 E,.int .i64 G]/\((0<=a/\a<b)/\∃g,f=some g/\(∃(r:List Value)(s:Nat),B<=(g.add ((a).toNat*3)).block/\(g.add ((a).toNat*3)).spot=none/\m.heap[(g.add ((a).toNat*3)).block]? =some (.cells r.toArray s (0,0))/\(g.add ((a).toNat*3)).off+3<=r.length/\hasType s []=false/\∀H,Wrote m H (g.add ((a).toNat*3)).block s (setCells r (g.add ((a).toNat*3)).off [.int .i64 D,.int .i64 E,.int .i64 G])->(inR .i64 (a+1)/\(inR .i64 (c+1)/\(slices_DeleteFunc_api_Stow_api_Stow.L5 f b e i j l (a+1) (c+1) B H R)))))))/\(¬(q=false)->(inR .i64 (c+1)/\(slices_DeleteFunc_api_Stow_api_Stow.L5 f b e i j l a (c+1) B m R))))))))))))/\(¬(c<(b:Int))->((0<=a/\a<=(b:Int)/\b<=e)/\(RunOk P (Builtin.clear_ #[29] 0 #[(.slice (cutAddr f ((a).toNat) e 3) (b - (a).toNat) (e - (a).toNat))]) B [] w fun K L=>K= .tuple #[]/\((0<=a/\a<=(e:Int))/\(R (.slice f ((a).toNat) e) L))))))):
  slices_DeleteFunc_api_Stow_api_Stow.L5 f b e i j l a c B w R:=
 loop_of_run (slices_DeleteFunc_api_Stow_api_Stow.cx w B R) 100000 (loopAt Tryz.f139 5) _ _ follows Tryz.func139 rfl rfl rfl (Eq.mp (by kernel_rfl) h)
theorem slices_DeleteFunc_api_Stow_api_Stow.vcB(b:Option Addr)(c d e:Nat)(f g:Array Value)(B:Nat)(w:World)(hB:B<=w.heap.size)(R:Value->World->Prop)
  (h:(Pure P 168 #[.slice b c d,(.func (.func e) f g)] w fun j i=>∃a,j= .int .i64 a/\(((a=(-1:Int))->(R (.slice b c d) i))/\(¬(a=(-1:Int))->(inR .i64 (a+1)/\(slices_DeleteFunc_api_Stow_api_Stow.L5 b c d e f g a (a+1) B i R)))))):
  PureB P 139 #[.slice b c d,(.func (.func e) f g)] B w R:=
 pureB_of_run (slices_DeleteFunc_api_Stow_api_Stow.cx w B R) 100000 follows Tryz.func139 rfl rfl rfl rfl hB rfl rfl (Eq.mp (by kernel_rfl) h)

noncomputable def slices_ContainsFunc_api_Rat_api_Rat.cx(w:World)(B:Nat)(R:Value->World->Prop):Cx:=⟨Tryz.prog,148,9,Tryz.f148.results.toList,[],[],w,B,R⟩
theorem slices_ContainsFunc_api_Rat_api_Rat.vc(a:Option Addr)(b c d:Nat)(e f:Array Value)(w:World)(R:Value->World->Prop)
  (h:(Pure P 178 #[.slice a b c,(.func (.func d) e f)] w fun i j=>∃g,i= .int .i64 g/\(R (.bool (decide (g≥(0:Int)))) j))):
  Pure P 148 #[.slice a b c,(.func (.func d) e f)] w R:=
 pure_of_run (slices_ContainsFunc_api_Rat_api_Rat.cx w w.heap.size R) 100000 follows Tryz.func148 rfl rfl rfl rfl rfl rfl rfl (Eq.mp (by kernel_rfl) h)

noncomputable def slices_ContainsFunc_api_Rule_api_Rule.cx(w:World)(B:Nat)(R:Value->World->Prop):Cx:=⟨Tryz.prog,152,9,Tryz.f152.results.toList,[],[],w,B,R⟩
theorem slices_ContainsFunc_api_Rule_api_Rule.vc(a:Option Addr)(b c d:Nat)(e f:Array Value)(w:World)(R:Value->World->Prop)
  (h:(Pure P 180 #[.slice a b c,(.func (.func d) e f)] w fun i j=>∃g,i= .int .i64 g/\(R (.bool (decide (g≥(0:Int)))) j))):
  Pure P 152 #[.slice a b c,(.func (.func d) e f)] w R:=
 pure_of_run (slices_ContainsFunc_api_Rule_api_Rule.cx w w.heap.size R) 100000 follows Tryz.func152 rfl rfl rfl rfl rfl rfl rfl (Eq.mp (by kernel_rfl) h)

def slices_IndexFunc_int_int.L2(a:Option Addr)(b c d:Nat)(e:Array Value)(f:Array Value)(g i:Int)(B:Nat)(w:World)(R:Value->World->Prop):Prop:=At Tryz.prog 155 19 (loopAt Tryz.f155 2) [(0,.v (.slice a b c)),(1,.v (.func (.func d) e f)),(7,.v (.int .i64 g)),(8,.v (.int .i64 i))] [] B w R
noncomputable def slices_IndexFunc_int_int.cx(w:World)(B:Nat)(R:Value->World->Prop):Cx:=⟨Tryz.prog,155,19,Tryz.f155.results.toList,[((true,2),[0,1,7,8],[])],[(4,5,4)],w,B,R⟩
theorem slices_IndexFunc_int_int.L2.step(d:Option Addr)(e j b:Nat)(f:Array Value)(g:Array Value)(c a:Int)(B:Nat)(w:World)(R:Value->World->Prop)
  (h:(((a<c)->((0<=a/\a<e)/\∃l,d=some l/\(∃m,CellsAt w (l.add ((a).toNat*1)) [.int .i64 m]/\(callable P b=true/\(Pure P b ((Array.toList f)++([.int .i64 m]:List Value)++(Array.toList g)).toArray w fun o n=>∃i,o= .bool i/\((i=true->(R (.int .i64 a) n))/\(i=false->(inR .i64 (a+1)/\(slices_IndexFunc_int_int.L2 d e j b f g c (a+1) B n R)))))))))/\(¬(a<c)->(R (.int .i64 (-1:Int)) w)))):
  slices_IndexFunc_int_int.L2 d e j b f g c a B w R:=
 loop_of_run (slices_IndexFunc_int_int.cx w B R) 100000 (loopAt Tryz.f155 2) _ _ follows Tryz.func155 rfl rfl rfl (Eq.mp (by kernel_rfl) h)
theorem slices_IndexFunc_int_int.vc(b:Option Addr)(a c d:Nat)(e f:Array Value)(w:World)(R:Value->World->Prop)
  (h:(slices_IndexFunc_int_int.L2 b a c d e f (a:Int) (0:Int) w.heap.size w R)):
  Pure P 155 #[.slice b a c,(.func (.func d) e f)] w R:=
 pure_of_run (slices_IndexFunc_int_int.cx w w.heap.size R) 100000 follows Tryz.func155 rfl rfl rfl rfl rfl rfl rfl (Eq.mp (by kernel_rfl) h)

def slices_IndexFunc_api_Stow_api_Stow.L2(a:Option Addr)(b c d:Nat)(e:Array Value)(f:Array Value)(g i:Int)(B:Nat)(w:World)(R:Value->World->Prop):Prop:=At Tryz.prog 168 19 (loopAt Tryz.f168 2) [(0,.v (.slice a b c)),(1,.v (.func (.func d) e f)),(7,.v (.int .i64 g)),(8,.v (.int .i64 i))] [] B w R
noncomputable def slices_IndexFunc_api_Stow_api_Stow.cx(w:World)(B:Nat)(R:Value->World->Prop):Cx:=⟨Tryz.prog,168,19,Tryz.f168.results.toList,[((true,2),[0,1,7,8],[])],[(4,5,4)],w,B,R⟩
theorem slices_IndexFunc_api_Stow_api_Stow.L2.step(d:Option Addr)(e j b:Nat)(f:Array Value)(g:Array Value)(c a:Int)(B:Nat)(w:World)(R:Value->World->Prop)
  (h:(((a<c)->((0<=a/\a<e)/\∃l,d=some l/\(∃m n o,CellsAt w (l.add ((a).toNat*3)) [.int .i64 m,.int .i64 n,.int .i64 o]/\(callable P b=true/\(Pure P b ((Array.toList f)++([.agg #[.int .i64 m,.int .i64 n,.int .i64 o]]:List Value)++(Array.toList g)).toArray w fun q p=>∃i,q= .bool i/\((i=true->(R (.int .i64 a) p))/\(i=false->(inR .i64 (a+1)/\(slices_IndexFunc_api_Stow_api_Stow.L2 d e j b f g c (a+1) B p R)))))))))/\(¬(a<c)->(R (.int .i64 (-1:Int)) w)))):
  slices_IndexFunc_api_Stow_api_Stow.L2 d e j b f g c a B w R:=
 loop_of_run (slices_IndexFunc_api_Stow_api_Stow.cx w B R) 100000 (loopAt Tryz.f168 2) _ _ follows Tryz.func168 rfl rfl rfl (Eq.mp (by kernel_rfl) h)
theorem slices_IndexFunc_api_Stow_api_Stow.vc(b:Option Addr)(a c d:Nat)(e f:Array Value)(w:World)(R:Value->World->Prop)
  (h:(slices_IndexFunc_api_Stow_api_Stow.L2 b a c d e f (a:Int) (0:Int) w.heap.size w R)):
  Pure P 168 #[.slice b a c,(.func (.func d) e f)] w R:=
 pure_of_run (slices_IndexFunc_api_Stow_api_Stow.cx w w.heap.size R) 100000 follows Tryz.func168 rfl rfl rfl rfl rfl rfl rfl (Eq.mp (by kernel_rfl) h)

def slices_IndexFunc_api_Rat_api_Rat.L2(a:Option Addr)(b c d:Nat)(e:Array Value)(f:Array Value)(g i:Int)(B:Nat)(w:World)(R:Value->World->Prop):Prop:=At Tryz.prog 178 19 (loopAt Tryz.f178 2) [(0,.v (.slice a b c)),(1,.v (.func (.func d) e f)),(7,.v (.int .i64 g)),(8,.v (.int .i64 i))] [] B w R
noncomputable def slices_IndexFunc_api_Rat_api_Rat.cx(w:World)(B:Nat)(R:Value->World->Prop):Cx:=⟨Tryz.prog,178,19,Tryz.f178.results.toList,[((true,2),[0,1,7,8],[])],[(4,5,4)],w,B,R⟩
theorem slices_IndexFunc_api_Rat_api_Rat.L2.step(d:Option Addr)(e j b:Nat)(f:Array Value)(g:Array Value)(c a:Int)(B:Nat)(w:World)(R:Value->World->Prop)
  (h:(((a<c)->((0<=a/\a<e)/\∃l,d=some l/\(∃m,CellsAt w (l.add ((a).toNat*1)) [.string m]/\(callable P b=true/\(Pure P b ((Array.toList f)++([.string m]:List Value)++(Array.toList g)).toArray w fun o n=>∃i,o= .bool i/\((i=true->(R (.int .i64 a) n))/\(i=false->(inR .i64 (a+1)/\(slices_IndexFunc_api_Rat_api_Rat.L2 d e j b f g c (a+1) B n R)))))))))/\(¬(a<c)->(R (.int .i64 (-1:Int)) w)))):
  slices_IndexFunc_api_Rat_api_Rat.L2 d e j b f g c a B w R:=
 loop_of_run (slices_IndexFunc_api_Rat_api_Rat.cx w B R) 100000 (loopAt Tryz.f178 2) _ _ follows Tryz.func178 rfl rfl rfl (Eq.mp (by kernel_rfl) h)
theorem slices_IndexFunc_api_Rat_api_Rat.vc(b:Option Addr)(a c d:Nat)(e f:Array Value)(w:World)(R:Value->World->Prop)
  (h:(slices_IndexFunc_api_Rat_api_Rat.L2 b a c d e f (a:Int) (0:Int) w.heap.size w R)):
  Pure P 178 #[.slice b a c,(.func (.func d) e f)] w R:=
 pure_of_run (slices_IndexFunc_api_Rat_api_Rat.cx w w.heap.size R) 100000 follows Tryz.func178 rfl rfl rfl rfl rfl rfl rfl (Eq.mp (by kernel_rfl) h)

def slices_IndexFunc_api_Rule_api_Rule.L2(a:Option Addr)(b c d:Nat)(e:Array Value)(f:Array Value)(g i:Int)(B:Nat)(w:World)(R:Value->World->Prop):Prop:=At Tryz.prog 180 19 (loopAt Tryz.f180 2) [(0,.v (.slice a b c)),(1,.v (.func (.func d) e f)),(7,.v (.int .i64 g)),(8,.v (.int .i64 i))] [] B w R
noncomputable def slices_IndexFunc_api_Rule_api_Rule.cx(w:World)(B:Nat)(R:Value->World->Prop):Cx:=⟨Tryz.prog,180,19,Tryz.f180.results.toList,[((true,2),[0,1,7,8],[])],[(4,5,4)],w,B,R⟩
theorem slices_IndexFunc_api_Rule_api_Rule.L2.step(d:Option Addr)(e j b:Nat)(f:Array Value)(g:Array Value)(c a:Int)(B:Nat)(w:World)(R:Value->World->Prop)
  (h:(((a<c)->((0<=a/\a<e)/\∃l,d=some l/\(∃m n o p q r s t u,CellsAt w (l.add ((a).toNat*7)) [.string m,.int .i64 n,.slice o p q,.string r,.string s,.int .i64 t,.int .i64 u]/\(callable P b=true/\(Pure P b ((Array.toList f)++([.agg #[.string m,.int .i64 n,.slice o p q,.string r,.string s,.int .i64 t,.int .i64 u]]:List Value)++(Array.toList g)).toArray w fun x v=>∃i,x= .bool i/\((i=true->(R (.int .i64 a) v))/\(i=false->(inR .i64 (a+1)/\(slices_IndexFunc_api_Rule_api_Rule.L2 d e j b f g c (a+1) B v R)))))))))/\(¬(a<c)->(R (.int .i64 (-1:Int)) w)))):
  slices_IndexFunc_api_Rule_api_Rule.L2 d e j b f g c a B w R:=
 loop_of_run (slices_IndexFunc_api_Rule_api_Rule.cx w B R) 100000 (loopAt Tryz.f180 2) _ _ follows Tryz.func180 rfl rfl rfl (Eq.mp (by kernel_rfl) h)
theorem slices_IndexFunc_api_Rule_api_Rule.vc(b:Option Addr)(a c d:Nat)(e f:Array Value)(w:World)(R:Value->World->Prop)
  (h:(slices_IndexFunc_api_Rule_api_Rule.L2 b a c d e f (a:Int) (0:Int) w.heap.size w R)):
  Pure P 180 #[.slice b a c,(.func (.func d) e f)] w R:=
 pure_of_run (slices_IndexFunc_api_Rule_api_Rule.cx w w.heap.size R) 100000 follows Tryz.func180 rfl rfl rfl rfl rfl rfl rfl (Eq.mp (by kernel_rfl) h)

noncomputable def slices_ContainsFunc_api_Hold_api_Hold.cx(w:World)(B:Nat)(R:Value->World->Prop):Cx:=⟨Tryz.prog,182,9,Tryz.f182.results.toList,[],[],w,B,R⟩
theorem slices_ContainsFunc_api_Hold_api_Hold.vc(a:Option Addr)(b c d:Nat)(e f:Array Value)(w:World)(R:Value->World->Prop)
  (h:(Pure P 101 #[.slice a b c,(.func (.func d) e f)] w fun i j=>∃g,i= .int .i64 g/\(R (.bool (decide (g≥(0:Int)))) j))):
  Pure P 182 #[.slice a b c,(.func (.func d) e f)] w R:=
 pure_of_run (slices_ContainsFunc_api_Hold_api_Hold.cx w w.heap.size R) 100000 follows Tryz.func182 rfl rfl rfl rfl rfl rfl rfl (Eq.mp (by kernel_rfl) h)

noncomputable def slices_ContainsFunc_api_Parcel_api_Parcel.cx(w:World)(B:Nat)(R:Value->World->Prop):Cx:=⟨Tryz.prog,184,9,Tryz.f184.results.toList,[],[],w,B,R⟩
theorem slices_ContainsFunc_api_Parcel_api_Parcel.vc(a:Option Addr)(b c d:Nat)(e f:Array Value)(w:World)(R:Value->World->Prop)
  (h:(Pure P 111 #[.slice a b c,(.func (.func d) e f)] w fun i j=>∃g,i= .int .i64 g/\(R (.bool (decide (g≥(0:Int)))) j))):
  Pure P 184 #[.slice a b c,(.func (.func d) e f)] w R:=
 pure_of_run (slices_ContainsFunc_api_Parcel_api_Parcel.cx w w.heap.size R) 100000 follows Tryz.func184 rfl rfl rfl rfl rfl rfl rfl (Eq.mp (by kernel_rfl) h)

end Go.Proofs.YtgfkeadgjkfomaaGreatDoor.F

namespace Go.Proofs.YtgfkeadgjkfomaaGreatDoor.B
open Go Go.RowKit Go.Proofs Go.Proofs.YtgfkeadgjkfomaaGreatDoor.Vc

theorem SlR.at_{α:Type}{row:α->List Value}{sz:Nat}{w:World}{A:Option Addr}{n:Nat}{v:List α}(h:SlR w A sz (v.map row))(hr:∀x,(row x).length=sz)(hl:v.length=n){i:Nat}(hi:i<v.length):
  (0<=(i:Int)/\(i:Int)<n)/\∃a,A=some a/\CellsAt w (a.add ((i:Int).toNat*sz)) (row v[i])/\∀k u,(row v[i])[k]? =some u->CellsAt w ((a.add ((i:Int).toNat*sz)).add k) [u]:=by
 obtain⟨hb,a,hA,hrow⟩:=h.load (n:=n) (by simpa using hl) (j:=(i:Int)) (by omega) (by omega)
 obtain⟨hc,hf⟩:=hrow (row v[i]) (by rw[Int.toNat_natCast];simp[hi]) (hr _)
 exact⟨hb,a,hA,hc,hf⟩
theorem cells_part{w:World}{a:Addr}{vs:List Value}(h:CellsAt w a vs)(k n:Nat):CellsAt w (a.add k) ((vs.drop k).take n):=by
 intro i hi
 have hi':k+i<vs.length:=by rw[List.length_take,List.length_drop]at hi;omega
 rw[Go.Deep.add_add,h (k+i) hi']
 simp

abbrev Pa.row(p:Pa):List Value:=[.int .i64 p.id,.int .i64 p.units,.int .i64 p.cls,.string p.name,.string p.mass,.string p.vol,.string p.worth]
abbrev Pa.val(p:Pa):Value:= .agg #[.int .i64 p.id,.int .i64 p.units,.int .i64 p.cls,.string p.name,.string p.mass,.string p.vol,.string p.worth]
abbrev Ho.row(h:Ho):List Value:=[.int .i64 h.id,.string h.name,.string h.room,.string h.most,.string h.x,.string h.y,.string h.z]
abbrev Ho.val(h:Ho):Value:= .agg #[.int .i64 h.id,.string h.name,.string h.room,.string h.most,.string h.x,.string h.y,.string h.z]
abbrev Sw.row(s:Sw):List Value:=[.int .i64 s.hold,.int .i64 s.parcel,.int .i64 s.units]
abbrev Sw.val(s:Sw):Value:= .agg #[.int .i64 s.hold,.int .i64 s.parcel,.int .i64 s.units]
structure SmP (p:Pa):Prop where
 mass:SmS p.mass
 vol:SmS p.vol
 worth:SmS p.worth
 name:p.name.size<2147483648
structure SmH (h:Ho):Prop where
 room:SmS h.room
 most:SmS h.most
 x:SmS h.x
 y:SmS h.y
 z:SmS h.z
 name:h.name.size<2147483648
structure CgIn (w:World) (A0:Option Addr) (n0:Nat) (A1:Option Addr) (n1:Nat) (ps:List Pa) (hs:List Ho):Prop where
 p:SlR w A0 7 (ps.map Pa.row)
 h:SlR w A1 7 (hs.map Ho.row)
 lp:ps.length=n0
 lh:hs.length=n1
 sp:∀p∈ps,SmP p
 sh:∀h∈hs,SmH h
 np:n0<=7
 nh:n1<=7
theorem CgIn.keep{w w':World}{A0 A1:Option Addr}{n0 n1:Nat}{ps:List Pa}{hs:List Ho}(h:CgIn w A0 n0 A1 n1 ps hs)(hb:Below w.heap.size w w'):CgIn w' A0 n0 A1 n1 ps hs:=
 ⟨h.p.keep hb (Nat.le_refl _),h.h.keep hb (Nat.le_refl _),h.lp,h.lh,h.sp,h.sh,h.np,h.nh⟩

theorem cargo_add{w:World}{x y:Rat}(hg:Glob w)(hx:Big x)(hy:Big y):Pure Tryz.prog 138 #[.string (rS x),.string (rS y)] w fun v _=>v= .string (rS (x+y)):=by
 refine F.cargo_add.vc _ _ _ _ (Pure.mono (rational_Add hg hx hy) ?_)
 rintro v w2 _ rfl
 exact⟨_,_,rfl,rfl⟩
theorem cargo_mul{w:World}{x y:Rat}(hg:Glob w)(hx:Big x)(hy:Big y):Pure Tryz.prog 137 #[.string (rS x),.string (rS y)] w fun v _=>v= .string (rS (x*y)):=by
 refine F.cargo_mul.vc _ _ _ _ (Pure.mono (rational_Mul hg hx hy) ?_)
 rintro v w2 _ rfl
 exact⟨_,_,rfl,rfl⟩
theorem cargo_compare{w:World}{x y:Rat}(hg:Glob w)(hx:Big x)(hy:Big y):Pure Tryz.prog 105 #[.string (rS x),.string (rS y)] w fun v _=>v= .int .i64 (cmpR x y):=by
 refine F.cargo_compare.vc _ _ _ _ (Pure.mono (rational_Compare hg hx hy) ?_)
 rintro v w2 _ rfl
 exact⟨_,_,rfl,rfl⟩
theorem cargo_sign{w:World}{s:ByteArray}(hg:Glob w)(hs:SmS s)(h:vR s=true):Pure Tryz.prog 122 #[.string s] w fun v _=>v= .int .i64 (cmpR (qR s) 0):=by
 refine F.cargo_sign.vc _ _ _ ?_
 rw[s0,vR_eq h,qR_rS]
 refine Pure.mono (cargo_compare hg (hs.big h) (Sm.zero (by omega))) ?_
 rintro v w2 _ rfl
 exact⟨_,rfl,rfl⟩
theorem cargo_number{w:World}{z:Int}(hg:Glob w)(h0: -9223372036854775808<=z)(h1:z<=9223372036854775807):Pure Tryz.prog 136 #[.int .i64 z] w fun v _=>v= .string (rS (z:Rat)):=by
 refine F.cargo_number.vc _ _ _ (Pure.mono (Itoa10 hg z h0 h1) ?_)
 rintro v w2 _ rfl
 refine⟨_,rfl,?_⟩
 rw[rS_int]
theorem cargo_named(s:ByteArray)(w:World):Pure Tryz.prog 123 #[.string s] w fun v w'=>v= .bool (decide (1<=s.size/\s.size<=64)):=by
 refine F.cargo_named.vc _ _ _ ⟨fun h=> ?_,fun h=> ?_⟩
 ·refine congrArg Value.bool ?_
  rw[decide_eq_decide]
  omega
 ·refine congrArg Value.bool ?_
  exact(decide_eq_false (by omega)).symm
theorem cargo_within(n m:Int)(w:World):Pure Tryz.prog 121 #[.int .i64 n,.int .i64 m] w fun v _=>v= .bool (decide (1<=n/\n<=m)):=by
 refine F.cargo_within.vc _ _ _ _ ⟨fun h=> ?_,fun h=> ?_⟩
 ·refine congrArg Value.bool ?_
  rw[decide_eq_decide]
  omega
 ·refine congrArg Value.bool ?_
  exact(decide_eq_false (by omega)).symm

abbrev sRow(s:ByteArray):List Value:=[.string s]
theorem index_rats{w0:World}{A:Option Addr}{n c:Nat}{l:List ByteArray}(hl:SlR w0 A 1 (l.map sRow))(hlen:l.length=n)(hn:n<2147483648){f:Nat}{a k:Array Value}(hcall:callable Tryz.prog f=true){p:ByteArray->Bool}
  (hf:∀w,Below w0.heap.size w0 w->∀x∈l,Pure Tryz.prog f (a.toList++([.string x]:List Value)++k.toList).toArray w fun v _=>v= .bool (p x)) {R:Value->World->Prop} {r:Int} (hR:∀w,R (.int .i64 r) w):
  ∀(d i:Nat)(w:World),n - i=d->i<=n->Below w0.heap.size w0 w->r=idxG p i (l.drop i)->F.slices_IndexFunc_api_Rat_api_Rat.L2 A n c f a k n i w0.heap.size w R:=by
 intro d
 induction d with
 |zero=>
  intro i w hd hi hw hr
  rw[List.drop_eq_nil_of_le (by omega)]at hr
  subst hr
  exact F.slices_IndexFunc_api_Rat_api_Rat.L2.step _ _ _ _ _ _ _ _ _ _ _ ⟨fun h=>by omega,fun _=>hR w⟩
 |succ d ih=>
  intro i w hd hi hw hr
  have hil:i<l.length:=by omega
  rw[List.drop_eq_getElem_cons hil,idxG]at hr
  obtain⟨hb,ad,hA,hcell,_⟩:=(hl.keep hw (Nat.le_refl _)).at_ (fun _=>rfl) hlen hil
  refine F.slices_IndexFunc_api_Rat_api_Rat.L2.step _ _ _ _ _ _ _ _ _ _ _ ⟨fun _=> ?_,fun h=>by omega⟩
  refine⟨hb,ad,hA,_,hcell,hcall,Pure.mono (hf w hw l[i] (List.getElem_mem _)) ?_⟩
  rintro v w2 b2 rfl
  refine⟨_,rfl,fun h=> ?_,fun h=>⟨by simp only[inR];omega,?_⟩⟩
  ·rw[if_pos h]at hr
   subst hr
   exact hR w2
  ·rw[if_neg (by simp[h])]at hr
   have e3:(i:Int)+1=((i+1:Nat):Int):=by omega
   rw[e3]
   exact ih (i+1) w2 (by omega) (by omega) (kP hw b2) hr
theorem any_idx{α:Type}(p:α->Bool)(l:List α):decide (idxG p 0 l≥0)=l.any p:=by
 have:=idxG_any p l 0
 by_cases h:l.any p=true
 ·rw[h];exact decide_eq_true (this.2 h)
 ·rw[Bool.not_eq_true _|>.mp h]
  exact decide_eq_false fun k=>h (this.1 k)
theorem cargo_valid{w:World}(hg:Glob w){A:Option Addr}{n c:Nat}{l:List ByteArray}(hl:SlR w A 1 (l.map sRow))(hlen:l.length=n)(hn:n<2147483648)(hs:∀s∈l,SmS s):
  Pure Tryz.prog 120 #[.slice A n c] w fun v _=>v= .bool (l.all vR):=by
 refine F.cargo_valid.vc _ _ _ _ _ (Pure.mono (F.slices_ContainsFunc_api_Rat_api_Rat.vc _ _ _ _ _ _ _ (fun v _=>v= .bool (l.any fun s=> !vR s)) (Pure.mono (F.slices_IndexFunc_api_Rat_api_Rat.vc _ _ _ _ _ _ _ _ (index_rats (p:=fun s=> !vR s) hl hlen hn (by kernel_rfl) (fun w' hb x hx=> ?_) (R:=fun v _=>v= .int .i64 (idxG (fun s=> !vR s) 0 l)) (fun _=>rfl) n 0 w rfl (by omega) (Below.refl _ _) rfl)) ?_)) ?_)
 ·refine F.cargo_valid_c1.vc _ _ _ (Pure.mono (rational_Valid (hg.next hb) x (by have:=hs x hx;unfold SmS at this;omega)) ?_)
  rintro v w2 _ rfl
  refine⟨_,rfl,congrArg Value.bool ?_⟩
  unfold vR
  cases isRat (by_ x)<;>rfl
 ·rintro v w2 _ rfl
  exact⟨_,rfl,by rw[any_idx]⟩
 ·rintro v w2 _ rfl
  refine⟨_,rfl,congrArg Value.bool ?_⟩
  rw[Bool.eq_iff_iff]
  simp

theorem idxG_find{α:Type}(p:α->Bool):∀(l:List α)(k:Nat),idxG p k l=match l.findIdx? p with|some i=>((k+i:Nat):Int)|none=> -1:=by
 intro l
 induction l with
 |nil=>intro k;rfl
 |cons c r ih=>
  intro k
  rw[idxG,List.findIdx?_cons]
  by_cases h:p c=true
  ·rw[if_pos h,if_pos h];rfl
  ·rw[if_neg h,if_neg h,ih]
   cases r.findIdx? p with
   |none=>rfl
   |some i=>simp only[Option.map_some];congr 1;omega
def ixI:Option Nat->Int
 |some i=>(i:Int)
 |none=> -1

theorem index_Pa{w0:World}{A:Option Addr}{n c:Nat}{l:List Pa}(hl:SlR w0 A 7 (l.map Pa.row))(hlen:l.length=n)(hn:n<2147483648){f:Nat}{a k:Array Value}(hcall:callable Tryz.prog f=true){p:Pa->Bool}
  (hf:∀w,Below w0.heap.size w0 w->∀x∈l,Pure Tryz.prog f (a.toList++([x.val]:List Value)++k.toList).toArray w fun v _=>v= .bool (p x)) {R:Value->World->Prop} {r:Int} (hR:∀w,Below w0.heap.size w0 w->R (.int .i64 r) w):
  ∀(d i:Nat)(w:World),n - i=d->i<=n->Below w0.heap.size w0 w->r=idxG p i (l.drop i)->F.slices_IndexFunc_api_Parcel_api_Parcel.L2 A n c f a k n i w0.heap.size w R:=by
 intro d
 induction d with
 |zero=>
  intro i w hd hi hw hr
  rw[List.drop_eq_nil_of_le (by omega)]at hr
  subst hr
  exact F.slices_IndexFunc_api_Parcel_api_Parcel.L2.step _ _ _ _ _ _ _ _ _ _ _ ⟨fun h=>by omega,fun _=>hR w hw⟩
 |succ d ih=>
  intro i w hd hi hw hr
  have hil:i<l.length:=by omega
  rw[List.drop_eq_getElem_cons hil,idxG]at hr
  obtain⟨hb,ad,hA,hcell,_⟩:=(hl.keep hw (Nat.le_refl _)).at_ (fun _=>rfl) hlen hil
  refine F.slices_IndexFunc_api_Parcel_api_Parcel.L2.step _ _ _ _ _ _ _ _ _ _ _ ⟨fun _=> ?_,fun h=>by omega⟩
  refine⟨hb,ad,hA,_,_,_,_,_,_,_,hcell,hcall,Pure.mono (hf w hw l[i] (List.getElem_mem _)) ?_⟩
  rintro v w2 b2 rfl
  refine⟨_,rfl,fun h=> ?_,fun h=>⟨by simp only[inR];omega,?_⟩⟩
  ·rw[if_pos h]at hr
   subst hr
   exact hR w2 (kP hw b2)
  ·rw[if_neg (by simp[h])]at hr
   have e3:(i:Int)+1=((i+1:Nat):Int):=by omega
   rw[e3]
   exact ih (i+1) w2 (by omega) (by omega) (kP hw b2) hr
theorem IndexPa{w:World}{A:Option Addr}{n c:Nat}{l:List Pa}(hl:SlR w A 7 (l.map Pa.row))(hlen:l.length=n)(hn:n<2147483648){f:Nat}{a k:Array Value}(hcall:callable Tryz.prog f=true){p:Pa->Bool}
  (hf:∀w',Below w.heap.size w w'->∀x∈l,Pure Tryz.prog f (a.toList++([x.val]:List Value)++k.toList).toArray w' fun v _=>v= .bool (p x)):
  Pure Tryz.prog 111 #[.slice A n c,.func (.func f) a k] w fun v _=>v= .int .i64 (ixI (l.findIdx? p)):=
 F.slices_IndexFunc_api_Parcel_api_Parcel.vc _ _ _ _ _ _ _ _ (index_Pa hl hlen hn hcall hf (fun _ _=>rfl) n 0 w rfl (by omega) (Below.refl _ _) (by
  have:=idxG_find p l 0
  rw[List.drop_zero,this]
  cases l.findIdx? p with
  |none=>rfl
  |some i=>simp only[ixI,Nat.zero_add]))
theorem cargo_parcel{w:World}{A0 A1:Option Addr}{n0 c0 n1 c1:Nat}{ps:List Pa}{hs:List Ho}(hc:CgIn w A0 n0 A1 n1 ps hs)(id:Int):
  Pure Tryz.prog 62 #[.agg #[.slice A0 n0 c0,.slice A1 n1 c1],.int .i64 id] w fun v _=>v= .int .i64 (ixI (pix ps id)):=by
 refine F.cargo_parcel.vc _ _ _ _ _ _ _ _ _ fun w1 x1=> ?_
 have hc:=hc.keep (k0 x1)
 have hnn:=hc.np
 have hnn2:=hc.nh
 refine Pure.mono (F.cargo_find_api_Parcel.vc _ _ _ _ _ _ _ _ (fun v _=>v= .int .i64 (ixI (pix ps id))) fun w2 x2 p2 hp2 g2 p3 hp3 g3=> ?_) ?_
 ·refine Pure.mono (IndexPa (p:=fun p=>decide (p.id=id)) (hc.p.keep (k0 x2) (Nat.le_refl _)) hc.lp (by omega) (by kernel_rfl) fun w3 b3 x hx=> ?_) ?_
  ·refine F.cargo_find_api_Parcel_c1.vc _ _ _ _ _ _ _ _ _ _ _ fun w4 x4=>⟨_,_,_,box_cell0 (ext_nil x4 (heap_keep g3 b3)) rfl,_,box_cell0 (ext_nil x4 (heap_keep g2 b3)) rfl,by kernel_rfl,fun w5 x5=> ?_⟩
   exact F.cargo_parcel_c1.vc _ _ _ _ _ _ _ _ _ fun w6 x6=>⟨_,rfl,rfl⟩
  ·rintro v w3 _ rfl
   exact⟨_,rfl,rfl⟩
 ·rintro v w2 _ rfl
  exact⟨_,rfl,rfl⟩

theorem index_Ho{w0:World}{A:Option Addr}{n c:Nat}{l:List Ho}(hl:SlR w0 A 7 (l.map Ho.row))(hlen:l.length=n)(hn:n<2147483648){f:Nat}{a k:Array Value}(hcall:callable Tryz.prog f=true){p:Ho->Bool}
  (hf:∀w,Below w0.heap.size w0 w->∀x∈l,Pure Tryz.prog f (a.toList++([x.val]:List Value)++k.toList).toArray w fun v _=>v= .bool (p x)) {R:Value->World->Prop} {r:Int} (hR:∀w,Below w0.heap.size w0 w->R (.int .i64 r) w):
  ∀(d i:Nat)(w:World),n - i=d->i<=n->Below w0.heap.size w0 w->r=idxG p i (l.drop i)->F.slices_IndexFunc_api_Hold_api_Hold.L2 A n c f a k n i w0.heap.size w R:=by
 intro d
 induction d with
 |zero=>
  intro i w hd hi hw hr
  rw[List.drop_eq_nil_of_le (by omega)]at hr
  subst hr
  exact F.slices_IndexFunc_api_Hold_api_Hold.L2.step _ _ _ _ _ _ _ _ _ _ _ ⟨fun h=>by omega,fun _=>hR w hw⟩
 |succ d ih=>
  intro i w hd hi hw hr
  have hil:i<l.length:=by omega
  rw[List.drop_eq_getElem_cons hil,idxG]at hr
  obtain⟨hb,ad,hA,hcell,_⟩:=(hl.keep hw (Nat.le_refl _)).at_ (fun _=>rfl) hlen hil
  refine F.slices_IndexFunc_api_Hold_api_Hold.L2.step _ _ _ _ _ _ _ _ _ _ _ ⟨fun _=> ?_,fun h=>by omega⟩
  refine⟨hb,ad,hA,_,_,_,_,_,_,_,hcell,hcall,Pure.mono (hf w hw l[i] (List.getElem_mem _)) ?_⟩
  rintro v w2 b2 rfl
  refine⟨_,rfl,fun h=> ?_,fun h=>⟨by simp only[inR];omega,?_⟩⟩
  ·rw[if_pos h]at hr
   subst hr
   exact hR w2 (kP hw b2)
  ·rw[if_neg (by simp[h])]at hr
   have e3:(i:Int)+1=((i+1:Nat):Int):=by omega
   rw[e3]
   exact ih (i+1) w2 (by omega) (by omega) (kP hw b2) hr
theorem IndexHo{w:World}{A:Option Addr}{n c:Nat}{l:List Ho}(hl:SlR w A 7 (l.map Ho.row))(hlen:l.length=n)(hn:n<2147483648){f:Nat}{a k:Array Value}(hcall:callable Tryz.prog f=true){p:Ho->Bool}
  (hf:∀w',Below w.heap.size w w'->∀x∈l,Pure Tryz.prog f (a.toList++([x.val]:List Value)++k.toList).toArray w' fun v _=>v= .bool (p x)):
  Pure Tryz.prog 101 #[.slice A n c,.func (.func f) a k] w fun v _=>v= .int .i64 (ixI (l.findIdx? p)):=
 F.slices_IndexFunc_api_Hold_api_Hold.vc _ _ _ _ _ _ _ _ (index_Ho hl hlen hn hcall hf (fun _ _=>rfl) n 0 w rfl (by omega) (Below.refl _ _) (by
  have:=idxG_find p l 0
  rw[List.drop_zero,this]
  cases l.findIdx? p with
  |none=>rfl
  |some i=>simp only[ixI,Nat.zero_add]))
theorem cargo_hold{w:World}{A0 A1:Option Addr}{n0 c0 n1 c1:Nat}{ps:List Pa}{hs:List Ho}(hc:CgIn w A0 n0 A1 n1 ps hs)(id:Int):
  Pure Tryz.prog 63 #[.agg #[.slice A0 n0 c0,.slice A1 n1 c1],.int .i64 id] w fun v _=>v= .int .i64 (ixI (hix hs id)):=by
 refine F.cargo_hold.vc _ _ _ _ _ _ _ _ _ fun w1 x1=> ?_
 have hc:=hc.keep (k0 x1)
 have hnn:=hc.np
 have hnn2:=hc.nh
 refine Pure.mono (F.cargo_find_api_Hold.vc _ _ _ _ _ _ _ _ (fun v _=>v= .int .i64 (ixI (hix hs id))) fun w2 x2 p2 hp2 g2 p3 hp3 g3=> ?_) ?_
 ·refine Pure.mono (IndexHo (p:=fun p=>decide (p.id=id)) (hc.h.keep (k0 x2) (Nat.le_refl _)) hc.lh (by omega) (by kernel_rfl) fun w3 b3 x hx=> ?_) ?_
  ·refine F.cargo_find_api_Hold_c1.vc _ _ _ _ _ _ _ _ _ _ _ fun w4 x4=>⟨_,_,_,box_cell0 (ext_nil x4 (heap_keep g3 b3)) rfl,_,box_cell0 (ext_nil x4 (heap_keep g2 b3)) rfl,by kernel_rfl,fun w5 x5=> ?_⟩
   exact F.cargo_hold_c1.vc _ _ _ _ _ _ _ _ _ fun w6 x6=>⟨_,rfl,rfl⟩
  ·rintro v w3 _ rfl
   exact⟨_,rfl,rfl⟩
 ·rintro v w2 _ rfl
  exact⟨_,rfl,rfl⟩

def prevG{α:Type}(l:List α)(i:Nat):Option α:=if i=0 then none else l[i - 1]?
theorem prevG_succ{α:Type}{l:List α}{i:Nat}(h:i<l.length):prevG l (i+1)=some l[i]:=by
 unfold prevG
 rw[if_neg (by omega),Nat.add_sub_cancel,List.getElem?_eq_getElem h]
theorem prevG_pos{α:Type}{l:List α}{i:Nat}(h:i<l.length)(h0:0<i):prevG l i=some l[i - 1]:=by
 unfold prevG
 rw[if_neg (by omega),List.getElem?_eq_getElem (by omega)]
theorem decF{p:Prop}[Decidable p](h:decide p=false):¬p:=of_decide_eq_false h
theorem decT{p:Prop}[Decidable p](h:¬decide p=false):p:=by
 apply Decidable.byContradiction
 intro k
 exact h (decide_eq_false k)

theorem check_L26{w0:World}(hg:Glob w0){A0 A1:Option Addr}{n0 c0 n1 c1:Nat}{ps:List Pa}{hs:List Ho}(hc:CgIn w0 A0 n0 A1 n1 ps hs){R:Value->World->Prop}{r:Int}(hR:∀w,Below w0.heap.size w0 w->R (.int .i64 r) w)(hvh:∀h∈hs,vH h=true):
  ∀(d i:Nat)(w:World),n1 - i=d->i<=n1->Below w0.heap.size w0 w->r=firstE hFault (prevG hs i) (hs.drop i)->F.cargo_Check.L26 A1 n1 c1 n1 i A0 n0 c0 A1 n1 c1 w0.heap.size w R:=by
 have hn0:=hc.np
 have hn1:=hc.nh
 have hlp:=hc.lp
 have hlh:=hc.lh
 intro d
 induction d with
 |zero=>
  intro i w hd hi hw hr
  have:i=n1:=by omega
  subst this
  refine F.cargo_Check.L26.step _ _ _ _ _ _ _ _ _ _ _ _ _ _ ⟨fun h=>by omega,fun _=> ?_⟩
  rw[List.drop_eq_nil_of_le (by omega)]at hr
  subst hr
  exact hR w hw
 |succ d ih=>
  intro i w hd hi hw hr
  have hil:i<hs.length:=by omega
  obtain⟨hb,ad,hA,hcell,_⟩:=(hc.h.keep hw (Nat.le_refl _)).at_ (fun _=>rfl) hc.lh hil
  have e3:(i:Int)+1=((i+1:Nat):Int):=by omega
  refine F.cargo_Check.L26.step _ _ _ _ _ _ _ _ _ _ _ _ _ _ ⟨fun _=>⟨hb,ad,hA,_,_,_,_,_,_,_,hcell,fun w1 x1=> ?_⟩,fun h=>by omega⟩
  have hw1:=kE hw x1
  have hs1:=hc.sh _ (List.getElem_mem hil)
  have vh:=hvh _ (List.getElem_mem hil)
  unfold vH at vh
  simp only[Bool.and_eq_true]at vh
  obtain⟨⟨⟨⟨v1,v2⟩,_⟩,_⟩,_⟩:=vh
  rw[List.drop_eq_getElem_cons hil,firstE]at hr
  have bad:∀(e:Int)(w:World),Below w0.heap.size w0 w->e≠0->hFault (prevG hs i) hs[i]=e->R (.int .i64 e) w:=fun e w hw h0 he=>by
   rw[he,if_pos h0]at hr
   have:=hR w hw
   rwa [hr]at this
  have f2:¬((1<=hs[i].id/\hs[i].id<=1073741824)/\¬qR hs[i].room<0/\¬qR hs[i].most<0)->hFault (prevG hs i) hs[i]=2:=fun h=>by unfold hFault;rw[if_pos h]
  refine Pure.mono (cargo_within _ _ _) ?_
  rintro v w2 b2 rfl
  have hw2:=kP hw1 b2
  refine⟨_,rfl,fun h=>bad 2 _ hw2 (by omega) (f2 fun k=>decF h k.1),fun h=> ?_⟩
  have q1:=decT h
  refine Pure.mono (cargo_sign (hg.next hw2) hs1.room v1) ?_
  rintro v w3 b3 rfl
  have hw3:=kP hw2 b3
  refine⟨_,rfl,fun h=>bad 2 _ hw3 (by omega) (f2 fun k=>k.2.1 (cmpR_lt.1 h)),fun h=> ?_⟩
  have q2:¬qR hs[i].room<0:=fun k=>h (cmpR_lt.2 k)
  refine Pure.mono (cargo_sign (hg.next hw3) hs1.most v2) ?_
  rintro v w4 b4 rfl
  have hw4:=kP hw3 b4
  refine⟨_,rfl,fun h=>bad 2 _ hw4 (by omega) (f2 fun k=>k.2.2 (cmpR_lt.1 h)),fun h=> ?_⟩
  have q3:¬qR hs[i].most<0:=fun k=>h (cmpR_lt.2 k)
  have all:(1<=hs[i].id/\hs[i].id<=1073741824)/\¬qR hs[i].room<0/\¬qR hs[i].most<0:=⟨q1,q2,q3⟩
  refine Pure.mono (cargo_named _ _) ?_
  rintro v w8 b8 rfl
  have hw8:=kP hw4 b8
  refine⟨_,rfl,fun h=>bad 4 _ hw8 (by omega) (by unfold hFault;rw[if_neg (fun k=>k all),if_pos (decF h)]),fun h=> ?_⟩
  have q7:=decT h
  have rest:hFault (prevG hs i) hs[i]=if ∃q,prevG hs i=some q/\hs[i].id<=q.id then 5 else 0:=by
   unfold hFault
   rw[if_neg (fun k=>k all),if_neg (fun k=>k q7)]
  have go:(¬∃q,prevG hs i=some q/\hs[i].id<=q.id)->∀w,Below w0.heap.size w0 w->F.cargo_Check.L26 A1 n1 c1 n1 ((i:Int)+1) A0 n0 c0 A1 n1 c1 w0.heap.size w R:=fun h w hw=>by
   rw[if_neg h]at rest
   rw[e3]
   refine ih (i+1) w (by omega) (by omega) hw ?_
   simp only[rest,ne_eq,not_true_eq_false,if_false]at hr
   rw[prevG_succ hil]
   exact hr
  refine⟨fun h=>⟨by simp only[inR];omega,?_⟩,fun h=>⟨by simp only[inR];omega,fun w9 x9=>go ?_ _ (kE hw8 x9)⟩⟩
  ·obtain⟨hb2,a2,hA2,_,hf2⟩:=(hc.h.keep hw8 (Nat.le_refl _)).at_ (fun _=>rfl) hc.lh (i:=i - 1) (by omega)
   have e1:(i:Int) - 1=((i - 1:Nat):Int):=by omega
   have hp:=prevG_pos hil (by omega)
   rw[e1]
   refine⟨hb2,a2,hA2,_,hf2 0 _ rfl,fun h=>fun w9 x9=>bad 5 _ (kE hw8 x9) (by omega) ?_,fun h=>⟨by simp only[inR];omega,fun w9 x9=>go ?_ _ (kE hw8 x9)⟩⟩
   ·rw[rest,if_pos ⟨_,hp,h⟩]
   ·rintro⟨q,hq,hle⟩
    rw[hp]at hq
    cases hq
    exact h hle
  ·rintro⟨q,hq,_⟩
   have:i=0:=by omega
   subst this
   cases hq

theorem check_L16{w0:World}(hg:Glob w0){A0 A1:Option Addr}{n0 c0 n1 c1:Nat}{ps:List Pa}{hs:List Ho}(hc:CgIn w0 A0 n0 A1 n1 ps hs){R:Value->World->Prop}{r:Int}(hR:∀w,Below w0.heap.size w0 w->R (.int .i64 r) w)(hvp:∀p∈ps,vP p=true)(hvh:∀h∈hs,vH h=true):
  ∀(d i:Nat)(w:World),n0 - i=d->i<=n0->Below w0.heap.size w0 w->r=(if firstE pFault (prevG ps i) (ps.drop i)≠0 then firstE pFault (prevG ps i) (ps.drop i)else firstE hFault none hs)->F.cargo_Check.L16 A0 n0 c0 n0 i A0 n0 c0 A1 n1 c1 w0.heap.size w R:=by
 have hn0:=hc.np
 have hn1:=hc.nh
 have hlp:=hc.lp
 have hlh:=hc.lh
 intro d
 induction d with
 |zero=>
  intro i w hd hi hw hr
  have:i=n0:=by omega
  subst this
  refine F.cargo_Check.L16.step _ _ _ _ _ _ _ _ _ _ _ _ _ _ ⟨fun h=>by omega,fun _=> ?_⟩
  rw[List.drop_eq_nil_of_le (by omega)]at hr
  refine check_L26 hg hc hR hvh n1 0 w rfl (by omega) hw ?_
  rw[hr]
  rfl
 |succ d ih=>
  intro i w hd hi hw hr
  have hil:i<ps.length:=by omega
  obtain⟨hb,ad,hA,hcell,_⟩:=(hc.p.keep hw (Nat.le_refl _)).at_ (fun _=>rfl) hc.lp hil
  have e3:(i:Int)+1=((i+1:Nat):Int):=by omega
  refine F.cargo_Check.L16.step _ _ _ _ _ _ _ _ _ _ _ _ _ _ ⟨fun _=>⟨hb,ad,hA,_,_,_,_,_,_,_,hcell,fun w1 x1=> ?_⟩,fun h=>by omega⟩
  have hw1:=kE hw x1
  have hs1:=hc.sp _ (List.getElem_mem hil)
  have vp:=hvp _ (List.getElem_mem hil)
  unfold vP at vp
  simp only[Bool.and_eq_true]at vp
  obtain⟨⟨v1,v2⟩,v3⟩:=vp
  rw[List.drop_eq_getElem_cons hil,firstE]at hr
  have bad:∀(e:Int)(w:World),Below w0.heap.size w0 w->e≠0->pFault (prevG ps i) ps[i]=e->R (.int .i64 e) w:=fun e w hw h0 he=>by
   rw[he,if_pos h0,if_pos h0]at hr
   have:=hR w hw
   rwa [hr]at this
  have f2:¬((1<=ps[i].id/\ps[i].id<=1073741824)/\(1<=ps[i].units/\ps[i].units<=9)/\(1<=ps[i].cls/\ps[i].cls<=9)/\0<qR ps[i].mass/\0<qR ps[i].vol/\¬qR ps[i].worth<0)->pFault (prevG ps i) ps[i]=2:=fun h=>by unfold pFault;rw[if_pos h]
  refine Pure.mono (cargo_within _ _ _) ?_
  rintro v w2 b2 rfl
  have hw2:=kP hw1 b2
  refine⟨_,rfl,fun h=>bad 2 _ hw2 (by omega) (f2 fun k=>decF h k.1),fun h=> ?_⟩
  have q1:=decT h
  refine Pure.mono (cargo_within _ _ _) ?_
  rintro v w3 b3 rfl
  have hw3:=kP hw2 b3
  refine⟨_,rfl,fun h=>bad 2 _ hw3 (by omega) (f2 fun k=>decF h k.2.1),fun h=> ?_⟩
  have q2:=decT h
  refine Pure.mono (cargo_within _ _ _) ?_
  rintro v w4 b4 rfl
  have hw4:=kP hw3 b4
  refine⟨_,rfl,fun h=>bad 2 _ hw4 (by omega) (f2 fun k=>decF h k.2.2.1),fun h=> ?_⟩
  have q3:=decT h
  refine Pure.mono (cargo_sign (hg.next hw4) hs1.mass v1) ?_
  rintro v w5 b5 rfl
  have hw5:=kP hw4 b5
  refine⟨_,rfl,fun h=>bad 2 _ hw5 (by omega) (f2 fun k=>by have:=cmpR_gt.2 k.2.2.2.1;omega),fun h=> ?_⟩
  have q4:0<qR ps[i].mass:=cmpR_gt.1 (by omega)
  refine Pure.mono (cargo_sign (hg.next hw5) hs1.vol v2) ?_
  rintro v w6 b6 rfl
  have hw6:=kP hw5 b6
  refine⟨_,rfl,fun h=>bad 2 _ hw6 (by omega) (f2 fun k=>by have:=cmpR_gt.2 k.2.2.2.2.1;omega),fun h=> ?_⟩
  have q5:0<qR ps[i].vol:=cmpR_gt.1 (by omega)
  refine Pure.mono (cargo_sign (hg.next hw6) hs1.worth v3) ?_
  rintro v w7 b7 rfl
  have hw7:=kP hw6 b7
  refine⟨_,rfl,fun h=>bad 2 _ hw7 (by omega) (f2 fun k=>k.2.2.2.2.2 (cmpR_lt.1 h)),fun h=> ?_⟩
  have q6:¬qR ps[i].worth<0:=fun k=>h (cmpR_lt.2 k)
  have all:(1<=ps[i].id/\ps[i].id<=1073741824)/\(1<=ps[i].units/\ps[i].units<=9)/\(1<=ps[i].cls/\ps[i].cls<=9)/\0<qR ps[i].mass/\0<qR ps[i].vol/\¬qR ps[i].worth<0:=⟨q1,q2,q3,q4,q5,q6⟩
  refine Pure.mono (cargo_named _ _) ?_
  rintro v w8 b8 rfl
  have hw8:=kP hw7 b8
  refine⟨_,rfl,fun h=>bad 4 _ hw8 (by omega) (by unfold pFault;rw[if_neg (fun k=>k all),if_pos (decF h)]),fun h=> ?_⟩
  have q7:=decT h
  have rest:pFault (prevG ps i) ps[i]=if ∃q,prevG ps i=some q/\ps[i].id<=q.id then 5 else 0:=by
   unfold pFault
   rw[if_neg (fun k=>k all),if_neg (fun k=>k q7)]
  have go:(¬∃q,prevG ps i=some q/\ps[i].id<=q.id)->∀w,Below w0.heap.size w0 w->F.cargo_Check.L16 A0 n0 c0 n0 ((i:Int)+1) A0 n0 c0 A1 n1 c1 w0.heap.size w R:=fun h w hw=>by
   rw[if_neg h]at rest
   rw[e3]
   refine ih (i+1) w (by omega) (by omega) hw ?_
   simp only[rest,ne_eq,not_true_eq_false,if_false]at hr
   rw[prevG_succ hil]
   exact hr
  refine⟨fun h=>⟨by simp only[inR];omega,?_⟩,fun h=>⟨by simp only[inR];omega,fun w9 x9=>go ?_ _ (kE hw8 x9)⟩⟩
  ·obtain⟨hb2,a2,hA2,_,hf2⟩:=(hc.p.keep hw8 (Nat.le_refl _)).at_ (fun _=>rfl) hc.lp (i:=i - 1) (by omega)
   have e1:(i:Int) - 1=((i - 1:Nat):Int):=by omega
   have hp:=prevG_pos hil (by omega)
   rw[e1]
   refine⟨hb2,a2,hA2,_,hf2 0 _ rfl,fun h=>fun w9 x9=>bad 5 _ (kE hw8 x9) (by omega) ?_,fun h=>⟨by simp only[inR];omega,fun w9 x9=>go ?_ _ (kE hw8 x9)⟩⟩
   ·rw[rest,if_pos ⟨_,hp,h⟩]
   ·rintro⟨q,hq,hle⟩
    rw[hp]at hq
    cases hq
    exact h hle
  ·rintro⟨q,hq,_⟩
   have:i=0:=by omega
   subst this
   cases hq

theorem check_L8{w0:World}(hg:Glob w0){A0 A1:Option Addr}{n0 c0 n1 c1:Nat}{ps:List Pa}{hs:List Ho}(hc:CgIn w0 A0 n0 A1 n1 ps hs){R:Value->World->Prop}{r:Int}(hR:∀w,Below w0.heap.size w0 w->R (.int .i64 r) w)(hvp:∀p∈ps,vP p=true)(he:r=checkC ps hs):
  ∀(d i:Nat)(w:World),n1 - i=d->i<=n1->Below w0.heap.size w0 w->(∀h∈hs.take i,vH h=true)->F.cargo_Check.L8 A1 n1 c1 n1 i A0 n0 c0 A1 n1 c1 w0.heap.size w R:=by
 have hn0:=hc.np
 have hn1:=hc.nh
 have hlp:=hc.lp
 have hlh:=hc.lh
 intro d
 induction d with
 |zero=>
  intro i w hd hi hw hr
  have:i=n1:=by omega
  subst this
  refine F.cargo_Check.L8.step _ _ _ _ _ _ _ _ _ _ _ _ _ _ ⟨fun h=>by omega,fun _=> ?_⟩
  rw[List.take_of_length_le (by omega)]at hr
  have hv:ps.all vP=true/\hs.all vH=true:=⟨List.all_eq_true.2 hvp,List.all_eq_true.2 hr⟩
  refine⟨fun h=> ?_,fun h=>⟨fun h2=> ?_,fun h2=> ?_⟩⟩
  ·have:=hR w hw
   rwa [he,checkC,if_neg (fun k=>k hv),if_pos (.inl (by omega))]at this
  ·have:=hR w hw
   rwa [he,checkC,if_neg (fun k=>k hv),if_pos (.inr (by omega))]at this
  ·refine check_L16 hg hc hR hvp hr n0 0 w rfl (by omega) hw ?_
   rw[he,checkC,if_neg (fun k=>k hv),if_neg (by omega)]
   rfl
 |succ d ih=>
  intro i w hd hi hw hr
  have hil:i<hs.length:=by omega
  obtain⟨hb,ad,hA,hcell,_⟩:=(hc.h.keep hw (Nat.le_refl _)).at_ (fun _=>rfl) hc.lh hil
  have e3:(i:Int)+1=((i+1:Nat):Int):=by omega
  refine F.cargo_Check.L8.step _ _ _ _ _ _ _ _ _ _ _ _ _ _ ⟨fun _=>⟨hb,ad,hA,_,_,_,_,_,_,_,hcell,fun w1 x1=> ?_⟩,fun h=>by omega⟩
  have hw1:=kE hw x1
  have hs1:=hc.sh _ (List.getElem_mem hil)
  refine runOk_lit el_Rats [.string hs[i].room,.string hs[i].most,.string hs[i].x,.string hs[i].y,.string hs[i].z] (by simp[Value.cells]) (by simp) hw1.size fun A2 c2 w2 ho b2=> ?_
  have hw2:=kP hw1 b2
  refine Pure.mono (cargo_valid (hg.next hw2) (l:=[hs[i].room,hs[i].most,hs[i].x,hs[i].y,hs[i].z]) ho.sl rfl (by simp) (fun s hs=> ?_)) ?_
  ·simp only[List.mem_cons,List.not_mem_nil,or_false]at hs
   rcases hs with rfl|rfl|rfl|rfl|rfl
   ·exact hs1.room
   ·exact hs1.most
   ·exact hs1.x
   ·exact hs1.y
   ·exact hs1.z
  rintro v w3 b3 rfl
  refine⟨_,rfl,fun h=> ?_,fun h=>⟨by simp only[inR];omega,?_⟩⟩
  ·have hbad:checkC ps hs=1:=by
    unfold checkC
    rw[if_pos]
    intro k
    have:=List.all_eq_true.1 k.2 _ (List.getElem_mem hil)
    unfold vH at this
    simp only[List.all_cons,List.all_nil,Bool.and_true]at h
    simp only[Bool.and_assoc]at this h
    rw[this]at h
    cases h
   have:=hR w3 (kP hw2 b3)
   rwa [he,hbad]at this
  ·rw[e3]
   refine ih (i+1) w3 (by omega) (by omega) (kP hw2 b3) fun x hx=> ?_
   rw[List.take_add_one,List.getElem?_eq_getElem hil]at hx
   rcases List.mem_append.1 hx with hx|hx
   ·exact hr x hx
   ·simp only[Option.toList_some,List.mem_singleton]at hx
    subst hx
    unfold vH
    simp only[List.all_cons,List.all_nil,Bool.and_true]at h
    simp only[Bool.and_assoc]at h⊢
    simpa using h

theorem check_L2{w0:World}(hg:Glob w0){A0 A1:Option Addr}{n0 c0 n1 c1:Nat}{ps:List Pa}{hs:List Ho}(hc:CgIn w0 A0 n0 A1 n1 ps hs){R:Value->World->Prop}{r:Int}(hR:∀w,Below w0.heap.size w0 w->R (.int .i64 r) w)(he:r=checkC ps hs):
  ∀(d i:Nat)(w:World),n0 - i=d->i<=n0->Below w0.heap.size w0 w->(∀p∈ps.take i,vP p=true)->F.cargo_Check.L2 A0 n0 c0 n0 i A0 n0 c0 A1 n1 c1 w0.heap.size w R:=by
 have hn0:=hc.np
 have hn1:=hc.nh
 have hlp:=hc.lp
 have hlh:=hc.lh
 intro d
 induction d with
 |zero=>
  intro i w hd hi hw hr
  have:i=n0:=by omega
  subst this
  refine F.cargo_Check.L2.step _ _ _ _ _ _ _ _ _ _ _ _ _ _ ⟨fun h=>by omega,fun _=> ?_⟩
  rw[List.take_of_length_le (by omega)]at hr
  exact check_L8 hg hc hR hr he n1 0 w rfl (by omega) hw (by simp)
 |succ d ih=>
  intro i w hd hi hw hr
  have hil:i<ps.length:=by omega
  obtain⟨hb,ad,hA,hcell,_⟩:=(hc.p.keep hw (Nat.le_refl _)).at_ (fun _=>rfl) hc.lp hil
  have e3:(i:Int)+1=((i+1:Nat):Int):=by omega
  refine F.cargo_Check.L2.step _ _ _ _ _ _ _ _ _ _ _ _ _ _ ⟨fun _=>⟨hb,ad,hA,_,_,_,_,_,_,_,hcell,fun w1 x1=> ?_⟩,fun h=>by omega⟩
  have hw1:=kE hw x1
  have hs1:=hc.sp _ (List.getElem_mem hil)
  refine runOk_lit el_Rats [.string ps[i].mass,.string ps[i].vol,.string ps[i].worth] (by simp[Value.cells]) (by simp) hw1.size fun A2 c2 w2 ho b2=> ?_
  have hw2:=kP hw1 b2
  refine Pure.mono (cargo_valid (hg.next hw2) (l:=[ps[i].mass,ps[i].vol,ps[i].worth]) ho.sl rfl (by simp) (fun s hs=> ?_)) ?_
  ·simp only[List.mem_cons,List.not_mem_nil,or_false]at hs
   rcases hs with rfl|rfl|rfl
   ·exact hs1.mass
   ·exact hs1.vol
   ·exact hs1.worth
  rintro v w3 b3 rfl
  refine⟨_,rfl,fun h=> ?_,fun h=>⟨by simp only[inR];omega,?_⟩⟩
  ·have hbad:checkC ps hs=1:=by
    unfold checkC
    rw[if_pos]
    intro k
    have:=List.all_eq_true.1 k.1 _ (List.getElem_mem hil)
    unfold vP at this
    simp only[List.all_cons,List.all_nil,Bool.and_true]at h
    simp only[Bool.and_assoc]at this h
    rw[this]at h
    cases h
   have:=hR w3 (kP hw2 b3)
   rwa [he,hbad]at this
  ·rw[e3]
   refine ih (i+1) w3 (by omega) (by omega) (kP hw2 b3) fun x hx=> ?_
   rw[List.take_add_one,List.getElem?_eq_getElem hil]at hx
   rcases List.mem_append.1 hx with hx|hx
   ·exact hr x hx
   ·simp only[Option.toList_some,List.mem_singleton]at hx
    subst hx
    unfold vP
    simp only[List.all_cons,List.all_nil,Bool.and_true]at h
    simp only[Bool.and_assoc]at h⊢
    simpa using h

theorem cargo_Check{w:World}(hg:Glob w){A0 A1:Option Addr}{n0 c0 n1 c1:Nat}{ps:List Pa}{hs:List Ho}(hc:CgIn w A0 n0 A1 n1 ps hs):
  Pure Tryz.prog 86 #[.agg #[.slice A0 n0 c0,.slice A1 n1 c1]] w fun v _=>v= .int .i64 (checkC ps hs):=
 F.cargo_Check.vc _ _ _ _ _ _ _ _ fun w1 x1=>check_L2 hg hc (fun _ _=>rfl) rfl n0 0 w1 rfl (by omega) (k0 x1) (by simp)

theorem el_Ints:El Tryz.prog 48 3 1 8:=El.of (by kernel_rfl)
theorem el_Sws:El Tryz.prog 29 39 3 24:=El.of (by kernel_rfl)

theorem cmpI_lt{x y:Int}:cmpI x y<0↔x<y:=by unfold cmpI;split<;>(try split)<;>omega
theorem cmpI_eq{x y:Int}:cmpI x y=0↔x=y:=by unfold cmpI;split<;>(try split)<;>omega
theorem cmp_Or{w0:World}{A:Option Addr}{n c:Nat}{l:List Int}(h:SlR w0 A 1 (l.map fun x=>[.int .i64 x]))(hl:l.length=n)(hn:n<2147483648):
  Pure Tryz.prog 91 #[.slice A n c] w0 fun v _=>v= .int .i64 ((l.find? fun x=>decide (x≠0)).getD 0):=by
 have key:∀(d i:Nat)(w:World),n - i=d->i<=n->Below w0.heap.size w0 w->(l.find? fun x=>decide (x≠0))=((l.drop i).find? fun x=>decide (x≠0))->F.cmp_Or_int.L3 0 A n c n i w0.heap.size w fun v _=>v= .int .i64 ((l.find? fun x=>decide (x≠0)).getD 0):=by
  intro d
  induction d with
  |zero=>
   intro i w hd hi hw hr
   rw[List.drop_eq_nil_of_le (by omega)]at hr
   exact F.cmp_Or_int.L3.step _ _ _ _ _ _ _ _ _ ⟨fun h=>by omega,fun _=>by rw[hr];rfl⟩
  |succ d ih=>
   intro i w hd hi hw hr
   have hil:i<l.length:=by omega
   rw[List.drop_eq_getElem_cons hil,List.find?_cons]at hr
   obtain⟨hb,a,hA,hc,_⟩:=(h.keep hw (Nat.le_refl _)).at_ (fun _=>rfl) hl hil
   refine F.cmp_Or_int.L3.step _ _ _ _ _ _ _ _ _ ⟨fun _=>⟨hb,a,hA,_,hc,fun h=> ?_,fun h=>⟨by simp only[inR];omega,?_⟩⟩,fun h=>by omega⟩
   ·rw[decide_eq_true h]at hr
    rw[hr]
    rfl
   ·rw[decide_eq_false h]at hr
    have e3:(i:Int)+1=((i+1:Nat):Int):=by omega
    rw[e3]
    exact ih (i+1) w (by omega) (by omega) hw hr
 exact F.cmp_Or_int.vc _ _ _ _ _ (key n 0 w0 rfl (by omega) (Below.refl _ _) (by simp))
def ordS(a b:Sw):Int:=if cmpI a.hold b.hold≠0 then cmpI a.hold b.hold else cmpI a.parcel b.parcel
theorem ordS_lt{a b:Sw}:ordS a b<0↔befS a b:=by
 unfold ordS befS
 have h1:=cmpI_lt (x:=a.hold) (y:=b.hold)
 have h2:=cmpI_eq (x:=a.hold) (y:=b.hold)
 have h3:=cmpI_lt (x:=a.parcel) (y:=b.parcel)
 split<;>omega
theorem cargo_order(a b:Sw)(w:World):Pure Tryz.prog 65 #[a.val,b.val] w fun v _=>v= .int .i64 (ordS a b):=by
 refine F.cargo_order.vc _ _ _ _ _ _ _ _ fun w1 x1=>Pure.mono (cmp_int _ _ _) ?_
 have h1:=k0 x1
 rintro v w2 b2 rfl
 have h2:=kP h1 b2
 refine⟨_,rfl,Pure.mono (cmp_int _ _ _) ?_⟩
 rintro v w3 b3 rfl
 have h3:=kP h2 b3
 refine⟨_,rfl,runOk_lit el_Ints [.int .i64 (cmpI a.hold b.hold),.int .i64 (cmpI a.parcel b.parcel)] (by simp[Value.cells]) (by simp) h3.size fun A2 c2 w4 ho b4=> ?_⟩
 refine Pure.mono (cmp_Or (l:=[cmpI a.hold b.hold,cmpI a.parcel b.parcel]) ho.sl rfl (by simp)) ?_
 rintro v w5 _ rfl
 refine⟨_,rfl,?_⟩
 refine congrArg _ ?_
 unfold ordS
 by_cases h:cmpI a.hold b.hold=0
 ·rw[if_neg (fun k=>k h)]
  by_cases h2:cmpI a.parcel b.parcel=0
  ·simp[h,h2]
  ·simp[h,h2]
 ·rw[if_pos h]
  simp[h]

theorem unitsF_snoc(l:List Sw)(s:Sw)(p:Int):unitsF (l++[s]) p=unitsF l p+(if s.parcel=p then s.units else 0):=by rw[unitsF_append,unitsF_one]
def SmU(l:List Sw)(p:Int):Prop:=∀k, -1000000<=unitsF (l.take k) p/\unitsF (l.take k) p<=1000000
theorem cargo_units{w0:World}{A:Option Addr}{n c:Nat}{l:List Sw}(h:SlR w0 A 3 (l.map Sw.row))(hl:l.length=n)(hn:n<2147483648){p:Int}(hs:SmU l p):
  Pure Tryz.prog 66 #[.slice A n c,.int .i64 p] w0 fun v _=>v= .int .i64 (unitsF l p):=by
 have key:∀(d i:Nat)(w:World),n - i=d->i<=n->Below w0.heap.size w0 w->F.cargo_units.L3 p (unitsF (l.take i) p) A n c n i w0.heap.size w fun v _=>v= .int .i64 (unitsF l p):=by
  intro d
  induction d with
  |zero=>
   intro i w hd hi hw
   exact F.cargo_units.L3.step _ _ _ _ _ _ _ _ _ _ ⟨fun h=>by omega,fun _=>by rw[List.take_of_length_le (by omega)]⟩
  |succ d ih=>
   intro i w hd hi hw
   have hil:i<l.length:=by omega
   have e3:(i:Int)+1=((i+1:Nat):Int):=by omega
   have et:l.take (i+1)=l.take i++[l[i]]:=by rw[List.take_add_one,List.getElem?_eq_getElem hil];rfl
   have hu:=unitsF_snoc (l.take i) l[i] p
   have h2:=hs (i+1)
   rw[et]at h2
   obtain⟨hb,a,hA,hc,_⟩:=(h.keep hw (Nat.le_refl _)).at_ (fun _=>rfl) hl hil
   refine F.cargo_units.L3.step _ _ _ _ _ _ _ _ _ _ ⟨fun _=>⟨hb,a,hA,_,_,_,hc,fun h=> ?_,fun h=> ?_⟩,fun h=>by omega⟩
   ·rw[if_pos h]at hu
    refine⟨by simp only[inR];omega,by simp only[inR];omega,fun w2 x2=> ?_⟩
    rw[<-hu,<-et,e3]
    exact ih (i+1) w2 (by omega) (by omega) (kE hw x2)
   ·rw[if_neg h,Int.add_zero]at hu
    refine⟨by simp only[inR];omega,fun w2 x2=> ?_⟩
    rw[<-hu,<-et,e3]
    exact ih (i+1) w2 (by omega) (by omega) (kE hw x2)
 exact F.cargo_units.vc _ _ _ _ _ _ (key n 0 w0 rfl (by omega) (Below.refl _ _))

theorem unitsF_le{l:List Sw}(h:∀s∈l,1<=s.units)(p:Int)(k:Nat):0<=unitsF (l.take k) p/\unitsF (l.take k) p<=unitsF l p:=by
 refine⟨unitsF_nonneg (fun s hs=>h s (List.mem_of_mem_take hs)) p,?_⟩
 exact unitsF_mono h (List.take_append_drop k l).symm p
theorem RightS.smu{ps:List Pa}{hs:List Ho}{l:List Sw}(h:RightS ps hs l)(p:Int):SmU l p:=by
 intro k
 obtain⟨h1,h2⟩:=unitsF_le h.pos p k
 by_cases hp:∃q∈ps,q.id=p
 ·obtain⟨q,hq,rfl⟩:=hp
  have:=h.full q hq
  have:=(h.c.p1 q hq).2.1.2
  omega
 ·have:unitsF l p=0:=by
   have gen:∀l:List Sw,(∀s∈l,s.parcel≠p)->unitsF l p=0:=by
    intro l
    induction l with
    |nil=>intro _;rfl
    |cons s r ih=>
     intro hh
     rw[show s::r=[s]++r from rfl,unitsF_append,unitsF_one,if_neg (hh s (by simp)),ih fun x hx=>hh x (by simp[hx])]
     rfl
   refine gen l fun s hs e=>hp ?_
   obtain⟨i,_,hi,_⟩:=h.known s hs
   obtain⟨q,hq,e2⟩:=pix_some hi
   exact⟨q,List.mem_of_getElem? hq,e2.trans e⟩
  omega
theorem stowL_split{ps:List Pa}{hs:List Ho}:∀{a b pre:List Sw},stowL ps hs pre (a++b)=if stowL ps hs pre a≠0 then stowL ps hs pre a else stowL ps hs (pre++a) b:=by
 intro a
 induction a with
 |nil=>intro b pre;simp[stowL]
 |cons s r ih=>
  intro b pre
  rw[List.cons_append,stowL,stowL]
  by_cases h:stow1 ps hs pre s≠0
  ·rw[if_pos h,if_pos h,if_pos h]
  ·rw[if_neg h,if_neg h,ih,List.append_assoc]
   rfl
theorem stowed_loop{w0:World}(hg:Glob w0){A0 A1 A:Option Addr}{n0 c0 n1 c1 n c:Nat}{ps:List Pa}{hs:List Ho}{l:List Sw}(hc:CgIn w0 A0 n0 A1 n1 ps hs)(h:SlR w0 A 3 (l.map Sw.row))(hl:l.length=n)(hnc:n<=c)(hn:n<2147483648)(hck:checkC ps hs=0){R:Value->World->Prop}(hR:∀w,R (.int .i64 (stowL ps hs [] l)) w):
  ∀(d i:Nat)(w:World),n - i=d->i<=n->Below w0.heap.size w0 w->stowL ps hs [] (l.take i)=0->F.cargo_Stowed.L4 A n c A n c n i A0 n0 c0 A1 n1 c1 w0.heap.size w R:=by
 have hcr:=checkC_right hck
 intro d
 induction d with
 |zero=>
  intro i w hd hi hw hr
  have:i=n:=by omega
  subst this
  rw[List.take_of_length_le (by omega)]at hr
  refine F.cargo_Stowed.L4.step _ _ _ _ _ _ _ _ _ _ _ _ _ _ _ _ _ ⟨fun h=>by omega,fun _=> ?_⟩
  have:=hR w
  rwa [hr]at this
 |succ d ih=>
  intro i w hd hi hw hr
  have hil:i<l.length:=by omega
  have e3:(i:Int)+1=((i+1:Nat):Int):=by omega
  have et:l.take (i+1)=l.take i++[l[i]]:=by rw[List.take_add_one,List.getElem?_eq_getElem hil];rfl
  have hres:stowL ps hs [] l=if stow1 ps hs (l.take i) l[i]≠0 then stow1 ps hs (l.take i) l[i]else stowL ps hs (l.take (i+1)) (l.drop (i+1)):=by
   conv=>lhs;rw[<-List.take_append_drop i l,stowL_split,if_neg (fun k=>k hr),List.nil_append,List.drop_eq_getElem_cons hil,stowL,<-et]
  have hpre:RightS ps hs (l.take i):=by
   have h0:RightS ps hs []:=⟨hcr,by simp,by simp,List.Pairwise.nil,fun p hp=>by have:=(hcr.p1 p hp).2.1.1;simp[unitsF];omega⟩
   simpa using stowL_right hcr (l.take i) [] h0 hr
  have bad:∀(e:Int)(w:World),e≠0->stow1 ps hs (l.take i) l[i]=e->R (.int .i64 e) w:=fun e w h0 he=>by
   rw[he,if_pos h0]at hres
   have:=hR w
   rwa [hres]at this
  obtain⟨hb,a,hA,hcell,_⟩:=(h.keep hw (Nat.le_refl _)).at_ (fun _=>rfl) hl hil
  refine F.cargo_Stowed.L4.step _ _ _ _ _ _ _ _ _ _ _ _ _ _ _ _ _ ⟨fun _=>⟨hb,a,hA,_,_,_,hcell,fun w1 x1=> ?_⟩,fun h=>by omega⟩
  have hw1:=kE hw x1
  refine Pure.mono (cargo_parcel (hc.keep hw1) l[i].parcel) ?_
  rintro v w2 b2 rfl
  have hw2:=kP hw1 b2
  cases hp:pix ps l[i].parcel with
  |none=>
   refine⟨_,rfl,fun _=>bad 7 _ (by omega) (by unfold stow1;rw[hp]),fun h=>absurd (by simp[ixI]) h⟩
  |some k=>
  refine⟨_,rfl,fun h=>by simp[ixI]at h;omega,fun _=>Pure.mono (cargo_hold (hc.keep hw2) l[i].hold) ?_⟩
  rintro v w3 b3 rfl
  have hw3:=kP hw2 b3
  cases hh:hix hs l[i].hold with
  |none=>
   refine⟨_,rfl,fun _=>bad 7 _ (by omega) (by unfold stow1;rw[hp,hh]),fun h=>absurd (by simp[ixI]) h⟩
  |some j=>
  obtain⟨p,hpi,hid⟩:=pix_some hp
  have hkl:k<ps.length:=(List.getElem?_eq_some_iff.1 hpi).1
  have hpk:ps[k]=p:=(List.getElem?_eq_some_iff.1 hpi).2
  have s1:stow1 ps hs (l.take i) l[i]=if l[i].units<1 then 2 else if ∃q,(l.take i).getLast? =some q/\¬befS q l[i]then 5 else if p.units<l[i].units∨p.units<unitsF (l.take i++[l[i]]) l[i].parcel then 12 else 0:=by
   unfold stow1
   rw[hp,hh]
   simp only[hpi]
  refine⟨_,rfl,fun h=>by simp[ixI]at h;omega,fun _=>⟨fun h=>bad 2 _ (by omega) (by rw[s1,if_pos h]),fun hu=> ?_⟩⟩
  rw[if_neg hu]at s1
  have hpu:=(hcr.p1 p (List.mem_of_getElem? hpi)).2.1.2
  -- behind the order
  have rest:(¬∃q,(l.take i).getLast? =some q/\¬befS q l[i])->∀w,Below w0.heap.size w0 w->∀(i10:Int),i10=ixI (some k)->((0<=i10/\i10<n0)/\∃a24,A0=some a24/\(∃(i25:Int),CellsAt w ((a24.add ((i10).toNat*7)).add 1) [(.int .i64 i25)]/\(((l[i].units>i25)->(∀w26,Ext w0.heap.size [] w w26->(R (.int .i64 (12:Int)) w26)))/\(¬(l[i].units>i25)->(inR .i64 ((i:Int)+(1:Int))/\((0<=((i:Int)+(1:Int))/\((i:Int)+(1:Int))<=(c:Int))/\((0<=i10/\i10<n0)/\∃a27,A0=some a27/\(∃(i28:Int),CellsAt w ((a27.add ((i10).toNat*7)).add 1) [(.int .i64 i28)]/\(∀w29,Ext w0.heap.size [] w w29->(Pure Tryz.prog 66 #[(.slice A (((i:Int)+(1:Int)).toNat) c),(.int .i64 l[i].parcel)] w29 fun r31 w32=>∃(i30:Int),r31=(.int .i64 i30)/\(((i30>i28)->(R (.int .i64 (12:Int)) w32))/\(¬(i30>i28)->(inR .i64 ((i:Int)+(1:Int))/\(F.cargo_Stowed.L4 A n c A n c n ((i:Int)+(1:Int)) A0 n0 c0 A1 n1 c1 w0.heap.size w32 R)))))))))))))):=by
   intro ho w hw i10 hi10
   rw[if_neg ho]at s1
   subst hi10
   obtain⟨hb2,a2,hA2,_,hf2⟩:=(hc.p.keep hw (Nat.le_refl _)).at_ (fun _=>rfl) hc.lp hkl
   have hcu:=hf2 1 _ rfl
   rw[hpk]at hcu
   refine⟨hb2,a2,hA2,_,hcu,fun h=>fun w4 _=>bad 12 _ (by omega) (by rw[s1,if_pos (.inl h)]),fun h4=>⟨by simp only[inR];omega,by omega,hb2,a2,hA2,_,hcu,fun w4 x4=> ?_⟩⟩
   have hw4:=kE hw x4
   have e4:((i:Int)+1).toNat=i+1:=by omega
   rw[e4]
   have hsmu:SmU (l.take (i+1)) l[i].parcel:=by
    intro m
    rw[et]
    by_cases hm:m<=i
    ·rw[List.take_append_of_le_length (by simp;omega)]
     exact hpre.smu l[i].parcel m
    ·rw[List.take_of_length_le (by simp;omega),unitsF_snoc,if_pos rfl]
     have h1:=unitsF_nonneg hpre.pos l[i].parcel
     have h2:=hpre.full p (List.mem_of_getElem? hpi)
     rw[hid]at h2
     omega
   refine Pure.mono (cargo_units (l:=l.take (i+1)) (by rw[List.map_take];exact(h.keep hw4 (Nat.le_refl _)).take _) (by simp;omega) (by omega) hsmu) ?_
   rintro v w5 b5 rfl
   have hw5:=kP hw4 b5
   refine⟨_,rfl,fun h=>bad 12 _ (by omega) (by rw[s1,if_pos (.inr (by rw[<-et];exact h))]),fun h5=>⟨by simp only[inR];omega,?_⟩⟩
   rw[e3]
   refine ih (i+1) w5 (by omega) (by omega) hw5 ?_
   have h0:stow1 ps hs (l.take i) l[i]=0:=by
    rw[s1,if_neg]
    rintro(k|k)
    ·exact h4 k
    ·rw[<-et]at k;exact h5 k
   rw[et,stowL_split,if_neg (fun k=>k hr),List.nil_append,stowL,h0]
   rfl
  refine⟨fun h=>⟨by simp only[inR];omega,?_⟩,fun h=>fun w4 x4=>rest ?_ w4 (kE hw3 x4) _ rfl⟩
  ·obtain⟨hb2,a2,hA2,hcell2,_⟩:=(‹SlR w0 A 3 (l.map Sw.row)›.keep hw3 (Nat.le_refl _)).at_ (fun _=>rfl) hl (i:=i - 1) (by omega)
   have e1:(i:Int) - 1=((i - 1:Nat):Int):=by omega
   have hlast:(l.take i).getLast? =some l[i - 1]:=by
    rw[List.getLast?_eq_getElem?,List.length_take,Nat.min_eq_left (by omega),List.getElem?_take,if_pos (by omega),List.getElem?_eq_getElem (by omega)]
   rw[e1]
   refine⟨hb2,a2,hA2,_,_,_,hcell2,fun w4 x4=>Pure.mono (cargo_order l[i - 1] l[i] w4) ?_⟩
   have hw4:=kE hw3 x4
   rintro v w5 b5 rfl
   have hw5:=kP hw4 b5
   have hord:=ordS_lt (a:=l[i - 1]) (b:=l[i])
   refine⟨_,rfl,fun h=>bad 5 _ (by omega) (by rw[s1,if_pos ⟨_,hlast,fun k=>by have:=hord.2 k;omega⟩]),fun h=>rest ?_ w5 hw5 _ rfl⟩
   rintro⟨q,hq,hnb⟩
   rw[hlast]at hq
   cases hq
   exact hnb (hord.1 (by omega))
  ·rintro⟨q,hq,_⟩
   have:i=0:=by omega
   subst this
   simp at hq
theorem cargo_Stowed{w:World}(hg:Glob w){A0 A1 A:Option Addr}{n0 c0 n1 c1 n c:Nat}{ps:List Pa}{hs:List Ho}{l:List Sw}(hc:CgIn w A0 n0 A1 n1 ps hs)(h:SlR w A 3 (l.map Sw.row))(hl:l.length=n)(hnc:n<=c)(hn:n<2147483648):
  Pure Tryz.prog 61 #[.agg #[.slice A0 n0 c0,.slice A1 n1 c1],.slice A n c] w fun v _=>v= .int .i64 (stowedF ps hs l):=by
 refine F.cargo_Stowed.vc _ _ _ _ _ _ _ _ _ _ _ fun w1 x1=> ?_
 have hw1:=k0 x1
 refine Pure.mono (cargo_Check (hg.next hw1) (hc.keep hw1)) ?_
 rintro v w2 b2 rfl
 have hw2:=kP hw1 b2
 refine⟨_,rfl,fun h=> ?_,fun h0=> ?_⟩
 ·unfold stowedF;rw[if_pos h]
 ·have h0':=Decidable.not_not.1 h0
  exact stowed_loop hg hc h hl hnc hn h0' (fun _=>by unfold stowedF;rw[if_neg h0]) n 0 w2 rfl (by omega) hw2 rfl

theorem cut3{b l c sz:Nat}(h:l<c):cutAddr (some ⟨b,0,none⟩) l c sz=some ⟨b,l*sz,none⟩:=by
 unfold cutAddr
 rw[if_neg (by omega)]
 simp[add_plain0]

theorem OwnR.short{w:World}{B ty:Nat}{A:Option Addr}{n c sz:Nat}{rows:List (List Value)}(h:OwnR w B ty A n c sz rows){m:Nat}(hm:m<=n):OwnR w B ty A m c sz (rows.take m):=by
 have hl:=h.len
 obtain⟨⟨h1,h2⟩,h3,h4⟩:=h
 have h4':∀r∈rows.take m,r.length=sz:=fun r hr=>h4 r (List.mem_of_mem_take hr)
 have hfl:(rows.take m).flatten.length=m*sz:=by rw[flatten_len _ h4',List.length_take,Nat.min_eq_left (by omega)]
 refine⟨⟨hfl,?_⟩,by simp;omega,h4'⟩
 rcases h2 with⟨e1,e2⟩|⟨g,cap,cur,e1,e2,e3,e4,e5,e6,e7⟩
 ·cases e1
  have:m=0:=by omega
  subst this
  exact .inl ⟨rfl,rfl⟩
 ·cases e1
  refine .inr ⟨g,_,cur,rfl,e2,e3,by omega,e5,e6,?_⟩
  have hp:(rows.take m).flatten=rows.flatten.take (m*sz):=by
   have:rows.flatten=(rows.take m).flatten++(rows.drop m).flatten:=by rw[<-List.flatten_append,List.take_append_drop]
   conv=>rhs;rw[this]
   rw[List.take_append_of_le_length (by omega),List.take_of_length_le (l:=(rows.take m).flatten) (by omega)]
  rw[hp,<-e7,List.take_take,Nat.min_eq_left (Nat.mul_le_mul_right _ hm)]
theorem zero_cells{z:Value}{n:Nat}(hz:∀u∈z.cells.toList,isCell u=true):∀u∈(Builtin.zeroCells z.cells n).toList,isCell u=true:=by
 intro u hu
 unfold Builtin.zeroCells at hu
 simp only[Array.toList_map,Array.toList_range,List.mem_map,List.mem_range]at hu
 obtain⟨i,hi,rfl⟩:=hu
 by_cases h0:z.cells.size=0
 ·rw[h0]at hi;omega
 ·have hlt:i % z.cells.size<z.cells.size:=Nat.mod_lt _ (by omega)
  rw[getElem!_pos z.cells (i % z.cells.size) hlt]
  exact hz _ (by simp)
theorem runOk_clear{t ty e sz bytes:Nat}(el:El Tryz.prog t e sz bytes){z:Value}(hz:(Tryz.prog.info? e).bind (·.zero)=some z)(hzc:∀u∈z.cells.toList,isCell u=true){B:Nat}{w:World}{A:Option Addr}{m n c:Nat}{rows:List (List Value)}(h:OwnR w B e A m c sz rows)(hmn:m<=n)(hnc:n<=c){K:World->Prop}
  (hK:∀w',OwnR w' B e A m c sz rows->Below B w w'->(∀k,k<w.heap.size->(∀a,A=some a->k≠a.block)->w'.heap[k]? =w.heap[k]?)->K w'):
  RunOk Tryz.prog (Builtin.clear_ #[t] ty #[.slice (cutAddr A m c sz) (n - m) (c - m)]) B [] w fun r w1=>r= .tuple #[]/\K w1:=by
 have stay:∀(A':Option Addr)(c':Nat),(Builtin.clear_ #[t] ty #[.slice A' 0 c']).run Tryz.prog w= .ok (.tuple #[]) w:=fun A' c'=>by
  cases A'<;>simp[Builtin.clear_,run_underlying el.und]
 by_cases h0:n - m=0
 ·rw[h0]
  exact⟨_,w,stay _ _,Below.refl _ _,Nat.le_refl _,fun _ _ _ _ _=>rfl,rfl,hK w h (Below.refl _ _) fun _ _ _=>rfl⟩
 obtain⟨i,z',h2,h3,h4,h5,h6⟩:=el.info
 have hzz:z'=z:=by rw[h2]at hz;simp[h3]at hz;exact hz
 subst hzz
 rcases h.1.2 with⟨e1,e2⟩|⟨g,cap,cur,e1,e2,e3,e4,e5,e6,e7⟩
 ·cases e1;omega
 cases e1
 rw[cut3 (by omega)]
 have hcur:w.heap[g]? =some (.cells cur.toList.toArray e (0,0)):=by simpa using e3
 have hzl:(Builtin.zeroCells z'.cells (n - m)).toList.length=(n - m)*sz:=by rw[Array.length_toList,size_zeroCells,h6]
 have hfit:m*sz+(n - m)*sz<=cur.toList.length:=by
  rw[<-Nat.add_mul,Array.length_toList,e6]
  exact Nat.mul_le_mul_right _ (by omega)
 have hst:=run_storeCells_cells (P:=Tryz.prog) g (m*sz) (Builtin.zeroCells z'.cells (n - m)).toList 0 w (fun j hj=>by
   simp only[World.cell?,hcur]
   have:m*sz+j<cur.toList.length:=by omega
   simp only[Array.length_toList]at this
   simp[this]) (fun j hj=>Lib.frozen_of_heap hcur _) (fun v hv=>oneCell'_of (zero_cells hzc v hv))
 obtain⟨k,hk⟩:∃k,n - m=k+1:=⟨n - m - 1,by omega⟩
 have hr:(Builtin.clear_ #[t] ty #[.slice (some ⟨g,m*sz,none⟩) (n - m) (c - m)]).run Tryz.prog w= .ok (.tuple #[]) (w.setCells g (m*sz+0) (Builtin.zeroCells z'.cells (n - m)).toList):=by
  rw[hk]at hst⊢
  simp[Builtin.clear_,run_underlying el.und,zeroValue,typeInfo,h2,h3,hst]
 obtain⟨k1,k2,k3,k4,k5,k6⟩:=worldSet_heap g e (Builtin.zeroCells z'.cells (n - m)).toList (m*sz+0) w cur.toList hcur
 have hbel:=worldSet_below (o:=m*sz+0) (vs:=(Builtin.zeroCells z'.cells (n - m)).toList) hcur e2
 refine⟨_,_,hr,hbel,by omega,fun k ty cs h=>(by cases h),rfl,hK _ ⟨⟨h.1.1,.inr ⟨g,c,_,rfl,e2,k1,e4,e5,?_,?_⟩⟩,h.2⟩ hbel fun k hk hka=>k2 k (hka _ rfl)⟩
 ·simp[setCells_len,e6]
 ·rw[<-e7]
  apply List.ext_getElem?
  intro j
  rw[List.getElem?_take,List.getElem?_take]
  split
  ·show(setCells cur.toList _ _)[j]? =_
   rw[setCells_get _ _ _ _ (by omega),if_neg (by omega)]
  ·rfl

theorem runOk_appendW{P:Program}{t ty e size bytes:Nat}(el:El P t e size bytes){B0 B:Nat}(hBB:B0<=B){tys:List Nat}{w:World}{v:Value}{n:Nat}{xs:List Value}(hown:w.ownsRow B e size v n xs)
  {a:Addr} {m c:Nat} {news:List Value} (hl:news.length=m*size) (hnews:∀j u,news[j]? =some u->w.cell? (a.add j)=some u) (h1:∀u∈news,isCell u=true)
  (hB:B<=w.heap.size) (hn:n+m<9223372036854775808) (hsz:(n+m)*bytes<=140737488355328) (ht:e∉tys) {K:Option Addr->Nat->Nat->World->Prop}
  (h:∀A c w2,w2.ownsRow B e size (.slice A (n+m) c) (n+m) (xs++news)->w.grownBy w2 v.ownBlock->Below B0 w w2->K A (n+m) c w2):
  RunOk P (Builtin.append_ #[t,t] ty #[v,.slice (some a) m c]) B0 tys w fun r w2=>∃A n c,r= .slice A n c/\K A n c w2:=by
 obtain⟨i,z,h2,h3,h4,h5,h6⟩:=el.info
 obtain⟨v',w',hr,ho,hg,_⟩:=run_append_own (P:=P) w B t ty e i z size bytes el.und h2 h3 h4 h5 h6 el.pos v n xs hown a m c news hl hnews (fun u hu=>oneCell'_of (h1 u hu)) (by simp only[maxLen];omega) (by omega) hB
 have hbel:Below B0 w w':=below_grown hg (fun k hk=>Nat.le_trans hBB (hown.lt k hk).1) (Nat.le_trans hBB hB)
 obtain⟨A,c',rfl,_⟩:=ownsRow_form ho
 exact⟨_,w',hr,hbel,hbel.size,kept_grown hg hown ht,A,_,c',rfl,h A c' w' ho hg hbel⟩

theorem runOk_append1W{P:Program}{t ty e size bytes:Nat}(el:El P t e size bytes){B0 B:Nat}(hBB:B0<=B){tys:List Nat}{w:World}{v:Value}{n:Nat}{xs:List Value}(hown:w.ownsRow B e size v n xs)
  {x:Value} (hx:x.cells.size=size) (h1:∀u∈x.cells.toList,isCell u=true)
  (hB:B<=w.heap.size) (hn:n+1<9223372036854775808) (hsz:(n+1)*bytes<=140737488355328) (ht:e∉tys) {K:Option Addr->Nat->Nat->World->Prop}
  (h:∀A c w2,w2.ownsRow B e size (.slice A (n+1) c) (n+1) (xs++x.cells.toList)->w.grownBy w2 v.ownBlock->Below B0 w w2->K A (n+1) c w2):
  RunOk P (Instr.buildSlice t 1 #[(0,x)]) B0 tys w fun r w1=>∃A m c,r= .slice A m c/\
   RunOk P (Builtin.append_ #[t,t] ty #[v,.slice A m c]) B0 tys w1 fun r w2=>∃A n c,r= .slice A n c/\K A n c w2:=by
 have hr:=run_buildAll el [x] (by simpa using hx) (by simp) w
 simp only[List.length_singleton,List.zipIdx_cons,List.zipIdx_nil,List.map_cons,List.map_nil,List.flatMap_cons,List.flatMap_nil,List.append_nil]at hr
 have hg:=World.grownBy_alloc w (.cells x.cells.toList.toArray e) none
 have hbel:Below B0 w (w.alloc (.cells x.cells.toList.toArray e)):=below_grown hg (by simp) (Nat.le_trans hBB hB)
 refine⟨_,_,hr,hbel,hbel.size,fun k ty cs _ hk=>hg.block k (Array.getElem?_eq_some_iff.1 hk).1 (by simp),_,_,_,rfl,?_⟩
 refine runOk_appendW el hBB (hown.kept hg (by cases v.ownBlock<;>simp)) (news:=x.cells.toList) (by simpa using hx) ?_ h1 (by have:=hg.size;omega) hn hsz ht ?_
 ·intro j u hu
  rw[add_none,Nat.zero_add]
  simp only[World.cell?]
  rw[heap_alloc_new]
  simpa using hu
 ·intro A c w2 h2 h3 h4
  refine h A c w2 h2 ⟨h3.os.trans hg.os,h3.tape.trans hg.tape,h3.output.trans hg.output,Nat.le_trans hg.size h3.size,fun k hk hne=> ?_⟩ (hbel.trans h4)
  rw[h3.block k (by have:=hg.size;omega) hne]
  exact hg.block k hk (by simp)

theorem app_rowW{t ty e sz bytes:Nat}(el:El Tryz.prog t e sz bytes){B0 B:Nat}(hBB:B0<=B){tys:List Nat}{w:World}{A:Option Addr}{n c:Nat}{rows:List (List Value)}(ho:OwnR w B e A n c sz rows){x:Value}(hx:x.cells.size=sz)(h1:∀u∈x.cells.toList,isCell u=true)
  (hB:B<=w.heap.size) (hn:n+1<9223372036854775808) (hsz:(n+1)*bytes<=140737488355328) (ht:e∉tys) {K:Option Addr->Nat->Nat->World->Prop}
  (h:∀A' c' w2,OwnR w2 B e A' (n+1) c' sz (rows++[x.cells.toList])->w.grownBy w2 (Value.ownBlock (.slice A n c))->Below B0 w w2->K A' (n+1) c' w2):
  RunOk Tryz.prog (Instr.buildSlice t 1 #[(0,x)]) B0 tys w fun r w1=>∃A2 m c2,r= .slice A2 m c2/\
   RunOk Tryz.prog (Builtin.append_ #[t,t] ty #[.slice A n c,.slice A2 m c2]) B0 tys w1 fun r w2=>∃A n c,r= .slice A n c/\K A n c w2:=
 runOk_append1W el hBB ho.1 hx h1 hB hn hsz ht fun A' c' w2 k1 k2 k3=>h A' c' w2 ⟨by rw[List.flatten_append];simpa using k1,by simp[ho.len],fun r hr=>by
  rcases List.mem_append.1 hr with h|h
  ·exact ho.2.2 r h
  ·simp at h;subst h;simpa using hx⟩ k2 k3

theorem app_rowsW{t ty e sz bytes:Nat}(el:El Tryz.prog t e sz bytes){B0 B:Nat}(hBB:B0<=B){tys:List Nat}{w:World}{A:Option Addr}{n c:Nat}{rows:List (List Value)}(ho:OwnR w B e A n c sz rows)
  {a:Addr} {m c2:Nat} {more:List (List Value)} (hsl:SlR w (some a) sz more) (hm:more.length=m) (hms:∀r∈more,r.length=sz) (h1:∀r∈more,∀u∈r,isCell u=true)
  (hB:B<=w.heap.size) (hn:n+m<9223372036854775808) (hsz:(n+m)*bytes<=140737488355328) (ht:e∉tys) {K:Option Addr->Nat->Nat->World->Prop}
  (h:∀A' c' w2,OwnR w2 B e A' (n+m) c' sz (rows++more)->w.grownBy w2 (Value.ownBlock (.slice A n c))->Below B0 w w2->K A' (n+m) c' w2):
  RunOk Tryz.prog (Builtin.append_ #[t,t] ty #[.slice A n c,.slice (some a) m c2]) B0 tys w fun r w2=>∃A n c,r= .slice A n c/\K A n c w2:=by
 have hlen:more.flatten.length=m*sz:=by
  rw[<-hm]
  clear hsl hm h1 h hsz
  induction more with
  |nil=>simp
  |cons r rs ih=>rw[List.flatten_cons,List.length_append,ih (fun x hx=>hms x (by simp[hx])),hms r (by simp),List.length_cons,Nat.add_mul];omega
 refine runOk_appendW el hBB ho.1 (news:=more.flatten) hlen (fun j u hu=> ?_) (fun u hu=> ?_) hB hn hsz ht fun A' c' w2 k1 k2 k3=>h A' c' w2 ⟨by rw[List.flatten_append];exact k1,by simp[ho.len,hm],fun r hr=> ?_⟩ k2 k3
 ·rcases hsl with hsl|⟨b,off,cs,ty,fr,hA,hh,hc⟩
  ·subst hsl;simp at hu
  ·cases hA
   rw[add_plain0]
   simp only[World.cell?,hh]
   have:=flat_cell more off hms (fun i hi j hj=>(hc i hi j hj).2) j u hu
   simpa using this
 ·obtain⟨r,hr,hu2⟩:=List.mem_flatten.1 hu
  exact h1 r hr u hu2
 ·rcases List.mem_append.1 hr with h|h
  ·exact ho.2.2 r h
  ·exact hms r h

theorem app_partW{t ty e sz bytes:Nat}(el:El Tryz.prog t e sz bytes){B0 B:Nat}(hBB:B0<=B){tys:List Nat}{w:World}{A:Option Addr}{n c:Nat}{rows:List (List Value)}(ho:OwnR w B e A n c sz rows)
  {A2:Option Addr} {m c2:Nat} {more:List (List Value)} (hsl:SlR w A2 sz more) (hm:more.length=m) (hms:∀r∈more,r.length=sz) (h1:∀r∈more,∀u∈r,isCell u=true) (hz:A2=none->c2=0)
  (hB:B<=w.heap.size) (hn:n+m<9223372036854775808) (hsz:(n+m)*bytes<=140737488355328) (ht:e∉tys) {K:Option Addr->Nat->Nat->World->Prop}
  (h:∀A' c' w2,OwnR w2 B e A' (n+m) c' sz (rows++more)->w.grownBy w2 (Value.ownBlock (.slice A n c))->Below B w w2->K A' (n+m) c' w2):
  RunOk Tryz.prog (Builtin.append_ #[t,t] ty #[.slice A n c,.slice A2 m c2]) B0 tys w fun r w2=>∃A n c,r= .slice A n c/\K A n c w2:=by
 cases A2 with
 |some a=>
  refine app_rowsW el hBB ho hsl hm hms h1 hB hn hsz ht fun A' c' w2 k1 k2 k3=>h A' c' w2 k1 k2 ?_
  exact below_grown k2 (fun k hk=>(ho.1.lt k hk).1) hB
 |none=>
  have:=hsl.none_nil
  subst this
  have hm0:m=0:=by rw[<-hm];rfl
  subst hm0
  rw[hz rfl]
  obtain⟨i,z,h2,h3,h4,h5,h6⟩:=el.info
  have hr:=run_append_owned_none (P:=Tryz.prog) (w:=w) B t ty e i sz el.und h2 _ _ _ ho.1
  refine⟨_,w,hr,Below.refl _ _,Nat.le_refl _,fun _ _ _ _ _=>rfl,A,n,c,rfl,?_⟩
  exact h A c w (by rw[List.append_nil];exact ho) ⟨rfl,rfl,rfl,Nat.le_refl _,fun _ _ _=>rfl⟩ (Below.refl _ _)

abbrev iRow(x:Int):List Value:=[.int .i64 x]
theorem El.zeroInt:(Tryz.prog.info? 3).bind (·.zero)=some (.int .i64 0):=by kernel_rfl
theorem flat_one(z:Value):∀n:Nat,(List.replicate n [z]).flatten=List.replicate n z:=by
 intro n
 induction n with
 |zero=>rfl
 |succ n ih=>rw[List.replicate_succ,List.flatten_cons,ih,List.replicate_succ];rfl

theorem idx_inj{i k i' k' n:Nat}(hk:k<n)(hk':k'<n)(h:i*n+k=i'*n+k'):i=i'/\k=k':=by
 have key:∀{a b c d:Nat},c<n->d<n->a*n+c=b*n+d->¬a<b:=by
  intro a b c d hc hd h k
  have:=Nat.mul_le_mul_right n k
  rw[Nat.succ_mul]at this
  omega
 have e:i=i':=by
  have h1:=key hk hk' h
  have h2:=key hk' hk h.symm
  omega
 subst e
 exact⟨rfl,by omega⟩
theorem idx_lt{i k m n:Nat}(hi:i<m)(hk:k<n):i*n+k<m*n:=by
 have:=Nat.mul_le_mul_right n (show i+1<=m from hi)
 rw[Nat.succ_mul]at this
 omega
theorem amounts_set{ps:List Pa}{hs:List Ho}(ip:ps.Pairwise fun a b=>a.id<b.id)(ih:hs.Pairwise fun a b=>a.id<b.id){s:Sw}{i k:Nat}(hi:pix ps s.parcel=some i)(hk:hix hs s.hold=some k)(pre:List Sw):
  (amountsF ps hs pre).set (i*hs.length+k) s.units=amountsF ps hs (pre++[s]):=by
 obtain⟨p,hp,ep⟩:=pix_some hi
 obtain⟨h,hh,eh⟩:=hix_some hk
 have hkl:=(List.getElem?_eq_some_iff.1 hh).1
 have hil:=(List.getElem?_eq_some_iff.1 hp).1
 refine list_ext2 (by rw[List.length_set,amounts_len]) (amounts_len ps hs _) fun i' k' hi' hk'=> ?_
 have e2:ps[i']? =some ps[i']:=List.getElem?_eq_getElem hi'
 have e1:hs[k']? =some hs[k']:=List.getElem?_eq_getElem hk'
 rw[amounts_get e2 e1,amtF_snoc,List.getElem?_set]
 by_cases e:i*hs.length+k=i'*hs.length+k'
 ·obtain⟨rfl,rfl⟩:=idx_inj hkl hk' e
  rw[if_pos rfl,if_pos (by rw[amounts_len];exact idx_lt hil hkl),if_pos]
  rw[e2]at hp
  rw[e1]at hh
  cases hp
  cases hh
  exact⟨ep.symm,eh.symm⟩
 ·rw[if_neg e,amounts_get e2 e1,if_neg]
  rintro⟨q1,q2⟩
  have a1:=pair_inj (f:=Pa.id) ip hp e2 (by rw[ep,q1])
  have a2:=pair_inj (f:=Ho.id) ih hh e1 (by rw[eh,q2])
  exact e (by rw[a1,a2])
theorem amounts_nil(ps:List Pa)(hs:List Ho):amountsF ps hs []=List.replicate (ps.length*hs.length) 0:=by
 refine list_ext2 (amounts_len _ _ _) (by simp) fun i k hi hk=> ?_
 rw[amounts_get (List.getElem?_eq_getElem hi) (List.getElem?_eq_getElem hk),List.getElem?_replicate,if_pos (idx_lt hi hk)]
 rfl
theorem amounts_loop{w0:World}{A0 A1 A A':Option Addr}{n0 c0 n1 c1 n c:Nat}{ps:List Pa}{hs:List Ho}{l:List Sw}(hc:CgIn w0 A0 n0 A1 n1 ps hs)(h:SlR w0 A 3 (l.map Sw.row))(hl:l.length=n)(hn:n<2147483648)(hr:RightS ps hs l){N:Nat}(hN:N=n0*n1){R:Value->World->Prop}
  (hR:∀w,OwnR w w0.heap.size 3 A' N N 1 ((amountsF ps hs l).map iRow)->R (.tuple #[.slice A' N N,.int .i64 0]) w):
  ∀(d i:Nat)(w:World),n - i=d->i<=n->Below w0.heap.size w0 w->OwnR w w0.heap.size 3 A' N N 1 ((amountsF ps hs (l.take i)).map iRow)->F.cargo_Amounts.L5 A' N N A n c n i A0 n0 c0 A1 n1 c1 w0.heap.size w R:=by
 have hn0:=hc.np
 have hn1:=hc.nh
 have hlp:=hc.lp
 have hlh:=hc.lh
 intro d
 induction d with
 |zero=>
  intro i w hd hi hw ho
  rw[List.take_of_length_le (by omega)]at ho
  exact F.cargo_Amounts.L5.step _ _ _ _ _ _ _ _ _ _ _ _ _ _ _ _ _ ⟨fun h=>by omega,fun _=>hR w ho⟩
 |succ d ih=>
  intro i w hd hi hw ho
  have hil:i<l.length:=by omega
  have e3:(i:Int)+1=((i+1:Nat):Int):=by omega
  have et:l.take (i+1)=l.take i++[l[i]]:=by rw[List.take_add_one,List.getElem?_eq_getElem hil];rfl
  obtain⟨p,k,hp,hk⟩:=hr.known _ (List.getElem_mem hil)
  obtain⟨q,hq,_⟩:=pix_some hp
  obtain⟨q',hq',_⟩:=hix_some hk
  have hpl:=(List.getElem?_eq_some_iff.1 hq).1
  have hkl:=(List.getElem?_eq_some_iff.1 hq').1
  have hidx:=idx_lt (m:=ps.length) hpl hkl
  have hle:p*hs.length<=7*7:=Nat.mul_le_mul (by omega) (by omega)
  obtain⟨hb,a,hA,hcell,_⟩:=(h.keep hw (Nat.le_refl _)).at_ (fun _=>rfl) hl hil
  refine F.cargo_Amounts.L5.step _ _ _ _ _ _ _ _ _ _ _ _ _ _ _ _ _ ⟨fun _=>⟨hb,a,hA,_,_,_,hcell,fun w1 x1=> ?_⟩,fun h=>by omega⟩
  have hw1:=kE hw x1
  refine Pure.mono (cargo_parcel (hc.keep hw1) l[i].parcel) ?_
  rintro v w2 b2 rfl
  have hw2:=kP hw1 b2
  rw[hp]
  have ei:ixI (some p)*(n1:Int)=((p*hs.length:Nat):Int):=by rw[<-hlh];simp[ixI]
  refine⟨_,rfl,by rw[ei];simp only[inR];omega,Pure.mono (cargo_hold (hc.keep hw2) l[i].hold) ?_⟩
  rintro v w3 b3 rfl
  have hw3:=kP hw2 b3
  rw[hk,ei]
  have ej:((p*hs.length:Nat):Int)+ixI (some k)=((p*hs.length+k:Nat):Int):=by simp[ixI]
  have o3:=((ho.extNil x1).below b2).below b3
  have hN':p*hs.length+k<N:=by rw[hN,<-hlp,<-hlh];exact hidx
  have hrow:((amountsF ps hs (l.take i)).map iRow)[p*hs.length+k]? =some (iRow ((amountsF ps hs (l.take i))[p*hs.length+k]'(by rw[amounts_len];exact hidx))):=by
   rw[List.getElem?_map,List.getElem?_eq_getElem (by rw[amounts_len];exact hidx)]
   rfl
  obtain⟨g1,a2,hA2,cs,g2,g3,g4,g5,g6⟩:=o3.set0 (i:=((p*hs.length+k:Nat):Int)) (by omega) (by omega) (iRow l[i].units) _ (by rw[Int.toNat_natCast];exact hrow) rfl
  refine⟨_,rfl,?_⟩
  rw[ej]
  refine⟨by simp only[inR];omega,g1,a2,hA2,cs,_,g2,g3,g4,g5,rfl,fun w4 hw4=>⟨by simp only[inR];omega,?_⟩⟩
  have o4:=g6 w4 hw4
  rw[Int.toNat_natCast]at o4
  rw[e3]
  refine ih (i+1) w4 (by omega) (by omega) (hw3.trans (Wrote.belowR hw4 g2)) ?_
  have key:=amounts_set hr.c.ip hr.c.ih hp hk (l.take i)
  rw[et,<-key,List.map_set]
  exact o4
theorem cargo_Amounts{w:World}(hg:Glob w){A0 A1 A:Option Addr}{n0 c0 n1 c1 n c:Nat}{ps:List Pa}{hs:List Ho}{l:List Sw}(hc:CgIn w A0 n0 A1 n1 ps hs)(h:SlR w A 3 (l.map Sw.row))(hl:l.length=n)(hnc:n<=c)(hn:n<2147483648):
  Pure Tryz.prog 41 #[.agg #[.slice A0 n0 c0,.slice A1 n1 c1],.slice A n c] w fun v w'=>(¬stowedF ps hs l=0->v= .tuple #[.slice none 0 0,.int .i64 1])/\
   (stowedF ps hs l=0->∃A' N,v= .tuple #[.slice A' N N,.int .i64 0]/\OwnR w' w.heap.size 3 A' N N 1 ((amountsF ps hs l).map iRow)/\N=n0*n1):=by
 have hn0:=hc.np
 have hn1:=hc.nh
 have hle:n0*n1<=7*7:=Nat.mul_le_mul hn0 hn1
 refine F.cargo_Amounts.vc _ _ _ _ _ _ _ _ _ _ _ fun w1 x1=> ?_
 have hw1:=k0 x1
 refine Pure.mono (cargo_Stowed (hg.next hw1) (hc.keep hw1) (h.keep hw1 (Nat.le_refl _)) hl hnc hn) ?_
 rintro v w2 b2 rfl
 have hw2:=kP hw1 b2
 refine⟨_,rfl,fun h0=>⟨fun _=>rfl,fun k=>absurd k h0⟩,fun h0=> ?_⟩
 have h0':=Decidable.not_not.1 h0
 have hr:=stowed_right h0'
 have em:(n0:Int)*(n1:Int)=((n0*n1:Nat):Int):=by simp
 rw[em]
 refine⟨by simp only[inR];omega,runOk_make el_Ints El.zeroInt rfl (by omega) (by omega) hw2.size fun A' N w3 hN k1 _ k2=> ?_⟩
 have hN':N=n0*n1:=by omega
 refine amounts_loop hc h hl hn hr hN' (fun w' ho=>⟨fun k=>absurd h0' k,fun _=>⟨A',N,rfl,ho,hN'⟩⟩) n 0 w3 rfl (by omega) (hw2.trans k2) ?_
 rw[List.take_zero,amounts_nil,hc.lp,hc.lh,<-hN',List.map_replicate]
 refine⟨?_,by simp,fun r hr=>by rw[List.eq_of_mem_replicate hr];rfl⟩
 rw[flat_one]
 exact(show OwnR w3 w2.heap.size 3 A' N N 1 (List.replicate N [.int .i64 0])from⟨by rw[flat_one];exact k1,by simp,fun r hr=>by rw[List.eq_of_mem_replicate hr];rfl⟩).base hw2.size|>.1|>fun h=>by rw[flat_one]at h;exact h

theorem index_ints{w0:World}{A:Option Addr}{n c:Nat}{l:List Int}(hl:SlR w0 A 1 (l.map iRow))(hlen:l.length=n)(hn:n<2147483648){f:Nat}{a k:Array Value}(hcall:callable Tryz.prog f=true){p:Int->Bool}
  (hf:∀w,Below w0.heap.size w0 w->∀x∈l,Pure Tryz.prog f (a.toList++([.int .i64 x]:List Value)++k.toList).toArray w fun v _=>v= .bool (p x)) {R:Value->World->Prop} {r:Int} (hR:∀w,R (.int .i64 r) w):
  ∀(d i:Nat)(w:World),n - i=d->i<=n->Below w0.heap.size w0 w->r=idxG p i (l.drop i)->F.slices_IndexFunc_int_int.L2 A n c f a k n i w0.heap.size w R:=by
 intro d
 induction d with
 |zero=>
  intro i w hd hi hw hr
  rw[List.drop_eq_nil_of_le (by omega)]at hr
  subst hr
  exact F.slices_IndexFunc_int_int.L2.step _ _ _ _ _ _ _ _ _ _ _ ⟨fun h=>by omega,fun _=>hR w⟩
 |succ d ih=>
  intro i w hd hi hw hr
  have hil:i<l.length:=by omega
  rw[List.drop_eq_getElem_cons hil,idxG]at hr
  obtain⟨hb,ad,hA,hcell,_⟩:=(hl.keep hw (Nat.le_refl _)).at_ (fun _=>rfl) hlen hil
  refine F.slices_IndexFunc_int_int.L2.step _ _ _ _ _ _ _ _ _ _ _ ⟨fun _=> ?_,fun h=>by omega⟩
  refine⟨hb,ad,hA,_,hcell,hcall,Pure.mono (hf w hw l[i] (List.getElem_mem _)) ?_⟩
  rintro v w2 b2 rfl
  refine⟨_,rfl,fun h=> ?_,fun h=>⟨by simp only[inR];omega,?_⟩⟩
  ·rw[if_pos h]at hr
   subst hr
   exact hR w2
  ·rw[if_neg (by simp[h])]at hr
   have e3:(i:Int)+1=((i+1:Nat):Int):=by omega
   rw[e3]
   exact ih (i+1) w2 (by omega) (by omega) (kP hw b2) hr
theorem ContainsI{w:World}{A:Option Addr}{n c:Nat}{l:List Int}(hl:SlR w A 1 (l.map iRow))(hlen:l.length=n)(hn:n<2147483648){f:Nat}{a k:Array Value}(hcall:callable Tryz.prog f=true){p:Int->Bool}
  (hf:∀w',Below w.heap.size w w'->∀x∈l,Pure Tryz.prog f (a.toList++([.int .i64 x]:List Value)++k.toList).toArray w' fun v _=>v= .bool (p x)):
  Pure Tryz.prog 114 #[.slice A n c,.func (.func f) a k] w fun v _=>v= .bool (l.any p):=by
 refine F.slices_ContainsFunc_int_int.vc _ _ _ _ _ _ _ _ (Pure.mono (F.slices_IndexFunc_int_int.vc _ _ _ _ _ _ _ _ (index_ints hl hlen hn hcall hf (R:=fun v _=>v= .int .i64 (idxG p 0 l)) (fun _=>rfl) n 0 w rfl (by omega) (Below.refl _ _) rfl)) ?_)
 rintro v w2 _ rfl
 exact⟨_,rfl,by rw[any_idx]⟩

theorem from_L12{w0:World}{A0 A1 A A':Option Addr}{n0 c0 n1 c1 n c m c':Nat}{i:Nat}(hi7:i<=7){r:List Int}(hr:SlR w0 A' 1 (r.map iRow))(hrl:r.length=m)(hm:m<2147483648)(hpos:∀x∈r,0<=x){b:Bool}{R:Value->World->Prop}
  (hbad:∀w,b=true->R (.tuple #[.slice none 0 0,.int .i64 12]) w) (hok:∀w,Below w0.heap.size w0 w->b=false->F.cargo_From.L8 A n c A0 n0 c0 n0 ((i:Int)+1) A0 n0 c0 A1 n1 c1 w0.heap.size w R):
  ∀(d j:Nat)(left:Int)(w:World),m - j=d->j<=m->0<=left->left<=9->Below w0.heap.size w0 w->overL left (r.drop j)=b->F.cargo_From.L12 A n c left A0 n0 c0 n0 i A' m c' m j A0 n0 c0 A1 n1 c1 w0.heap.size w R:=by
 intro d
 induction d with
 |zero=>
  intro j left w hd hj h0 h9 hw hb
  rw[List.drop_eq_nil_of_le (by omega)]at hb
  exact F.cargo_From.L12.step _ _ _ _ _ _ _ _ _ _ _ _ _ _ _ _ _ _ _ _ _ _ _ ⟨fun h=>by omega,fun _=>⟨by simp only[inR];omega,hok w hw hb.symm⟩⟩
 |succ d ih=>
  intro j left w hd hj h0 h9 hw hb
  have hjl:j<r.length:=by omega
  have e3:(j:Int)+1=((j+1:Nat):Int):=by omega
  rw[List.drop_eq_getElem_cons hjl,overL]at hb
  have hp:=hpos _ (List.getElem_mem hjl)
  obtain⟨hbd,a,hA,hcell,_⟩:=(hr.keep hw (Nat.le_refl _)).at_ (fun _=>rfl) hrl hjl
  refine F.cargo_From.L12.step _ _ _ _ _ _ _ _ _ _ _ _ _ _ _ _ _ _ _ _ _ _ _ ⟨fun _=>⟨hbd,a,hA,_,hcell,fun h=> ?_,fun h=>⟨by simp only[inR];omega,by simp only[inR];omega,?_⟩⟩,fun h=>by omega⟩
  ·rw[if_pos h]at hb
   exact hbad w hb.symm
  ·rw[if_neg (by omega)]at hb
   rw[e3]
   exact ih (j+1) _ w (by omega) (by omega) (by omega) (by omega) hw hb
theorem from_L8{w0:World}{A0 A1 A:Option Addr}{n0 c0 n1 c1 n c:Nat}{ps:List Pa}{hs:List Ho}{a:List Int}(hc:CgIn w0 A0 n0 A1 n1 ps hs)(hcr:RightC ps hs)(h:SlR w0 A 1 (a.map iRow))(hl:a.length=n)(hnc:n<=c)(hn:n=n0*n1)(hpos:∀x∈a,0<=x){R:Value->World->Prop}
  (hbad:∀w,fullA ps hs a=true->R (.tuple #[.slice none 0 0,.int .i64 12]) w) (hok:∀w,Below w0.heap.size w0 w->fullA ps hs a=false->F.cargo_From.L21 A n c none 0 0 A1 n1 c1 n1 0 A0 n0 c0 A1 n1 c1 w0.heap.size w R):
  ∀(d i:Nat)(w:World),n0 - i=d->i<=n0->Below w0.heap.size w0 w->(∀(i':Nat)(p:Pa),i'<i->ps[i']? =some p->overL p.units (rowA a hs.length i')=false)->F.cargo_From.L8 A n c A0 n0 c0 n0 i A0 n0 c0 A1 n1 c1 w0.heap.size w R:=by
 have hn0:=hc.np
 have hn1:=hc.nh
 have hlp:=hc.lp
 have hlh:=hc.lh
 intro d
 induction d with
 |zero=>
  intro i w hd hi hw hx
  refine F.cargo_From.L8.step _ _ _ _ _ _ _ _ _ _ _ _ _ _ _ _ _ ⟨fun h=>by omega,fun _=>hok w hw ?_⟩
  unfold fullA
  rw[List.any_eq_false]
  intro j hj
  have hj:=List.mem_range.1 hj
  rw[List.getElem?_eq_getElem hj]
  simp only
  rw[hx j _ (by omega) (List.getElem?_eq_getElem hj)]
  simp
 |succ d ih=>
  intro i w hd hi hw hx
  have hil:i<ps.length:=by omega
  have e3:(i:Int)+1=((i+1:Nat):Int):=by omega
  obtain⟨hb,ad,hA,hcell,_⟩:=(hc.p.keep hw (Nat.le_refl _)).at_ (fun _=>rfl) hc.lp hil
  have hle1:i*n1<=7*7:=Nat.mul_le_mul (by omega) hn1
  have hle2:(i+1)*n1<=8*7:=Nat.mul_le_mul (by omega) hn1
  have hle3:(i+1)*n1<=n0*n1:=Nat.mul_le_mul_right _ (by omega)
  have hsm:(i+1)*n1=i*n1+n1:=Nat.succ_mul _ _
  have e4:(i:Int)*(n1:Int)=((i*n1:Nat):Int):=by simp
  have e5:((i:Int)+1)*(n1:Int)=(((i+1)*n1:Nat):Int):=by rw[e3];simp
  refine F.cargo_From.L8.step _ _ _ _ _ _ _ _ _ _ _ _ _ _ _ _ _ ⟨fun _=>⟨hb,ad,hA,_,_,_,_,_,_,_,hcell,?_⟩,fun h=>by omega⟩
  rw[e4,e5,Int.toNat_natCast,Int.toNat_natCast]
  refine⟨by simp only[inR];omega,by simp only[inR];omega,by simp only[inR];omega,by omega,fun w1 x1=> ?_⟩
  have hw1:=kE hw x1
  have em:(i+1)*n1 - i*n1=n1:=by omega
  rw[em]
  have hpu:=(hcr.p1 _ (List.getElem_mem hil)).2.1
  have hrow:SlR w0 (cutAddr A (i*n1) c 1) 1 ((rowA a n1 i).map iRow):=by
   unfold rowA
   rw[List.map_take,List.map_drop]
   exact(h.dropS (by simp;omega)).take _
  have hrl:(rowA a n1 i).length=n1:=row_len (m:=n0) (by omega) (by omega)
  refine from_L12 (by omega) hrow hrl (by omega) (fun x hx=>hpos x (List.mem_of_mem_drop (List.mem_of_mem_take hx))) (b:=overL ps[i].units (rowA a n1 i)) (fun w hb=>hbad w ?_) (fun w2 hw2 hb=> ?_) n1 0 ps[i].units w1 rfl (by omega) (by omega) (by omega) hw1 rfl
  ·unfold fullA
   rw[List.any_eq_true]
   refine⟨i,List.mem_range.2 hil,?_⟩
   rw[List.getElem?_eq_getElem hil,hlh]
   exact hb
  ·rw[e3]
   refine ih (i+1) w2 (by omega) (by omega) hw2 fun i' p hi' hp=> ?_
   by_cases e:i'=i
   ·subst e
    rw[List.getElem?_eq_getElem hil]at hp
    cases hp
    rw[hlh]
    exact hb
   ·exact hx i' p (by omega) hp

def outS(f:Nat->Nat->Int)(ps:List Pa)(hs:List Ho)(k i:Nat):List Sw:=((List.range k).flatMap fun k=>(List.range ps.length).flatMap fun i=>entS f ps hs k i)++(List.range i).flatMap fun i=>entS f ps hs k i
theorem outS_end(f:Nat->Nat->Int)(ps:List Pa)(hs:List Ho)(k:Nat):outS f ps hs k ps.length=outS f ps hs (k+1) 0:=by
 unfold outS
 rw[List.range_succ,List.flatMap_append]
 simp
theorem outS_step(f:Nat->Nat->Int)(ps:List Pa)(hs:List Ho)(k i:Nat):outS f ps hs k (i+1)=outS f ps hs k i++entS f ps hs k i:=by
 unfold outS
 rw[List.range_succ,List.flatMap_append,List.append_assoc]
 simp
theorem from_out{w0:World}{A0 A1 A:Option Addr}{n0 c0 n1 c1 n c:Nat}{ps:List Pa}{hs:List Ho}{a:List Int}(hc:CgIn w0 A0 n0 A1 n1 ps hs)(h:SlR w0 A 1 (a.map iRow))(hl:a.length=n)(hn:n=n0*n1){R:Value->World->Prop}
  (hR:∀A' m c' w,Below w0.heap.size w0 w->OwnR w w0.heap.size 39 A' m c' 3 ((stowsG (getA a n1) ps hs).map Sw.row)->R (.tuple #[.slice A' m c',.int .i64 0]) w):
  ∀(d k:Nat)(A':Option Addr)(m c':Nat)(w:World),n1 - k=d->k<=n1->Below w0.heap.size w0 w->OwnR w w0.heap.size 39 A' m c' 3 ((outS (getA a n1) ps hs k 0).map Sw.row)->m<=7*k->F.cargo_From.L21 A n c A' m c' A1 n1 c1 n1 k A0 n0 c0 A1 n1 c1 w0.heap.size w R:=by
 have hn0:=hc.np
 have hn1:=hc.nh
 have hlp:=hc.lp
 have hlh:=hc.lh
 intro d
 induction d with
 |zero=>
  intro k A' m c' w hd hk hw ho hm
  have:k=n1:=by omega
  subst this
  refine F.cargo_From.L21.step _ _ _ _ _ _ _ _ _ _ _ _ _ _ _ _ _ _ _ _ ⟨fun h=>by omega,fun _=>hR _ _ _ w hw ?_⟩
  unfold outS at ho
  rw[<-hlh]at ho
  simp only[List.range_zero,List.flatMap_nil,List.append_nil]at ho
  unfold stowsG
  rw[<-hlh]
  exact ho
 |succ d ih=>
  intro k A' m c' w hd hk hw ho hm
  have hkl:k<hs.length:=by omega
  have ek3:(k:Int)+1=((k+1:Nat):Int):=by omega
  obtain⟨hb,ad,hA,hcell,_⟩:=(hc.h.keep hw (Nat.le_refl _)).at_ (fun _=>rfl) hc.lh hkl
  refine F.cargo_From.L21.step _ _ _ _ _ _ _ _ _ _ _ _ _ _ _ _ _ _ _ _ ⟨fun _=>⟨hb,ad,hA,_,_,_,_,_,_,_,hcell,fun w1 x1=> ?_⟩,fun h=>by omega⟩
  have hw1:=kE hw x1
  have inner:∀(e i:Nat)(A':Option Addr)(m c':Nat)(w:World),n0 - i=e->i<=n0->Below w0.heap.size w0 w->OwnR w w0.heap.size 39 A' m c' 3 ((outS (getA a n1) ps hs k i).map Sw.row)->m<=7*k+i->
    F.cargo_From.L24 A n c A' m c' k A1 n1 c1 n1 k A0 n0 c0 n0 i A0 n0 c0 A1 n1 c1 hs[k].id hs[k].name hs[k].room hs[k].most hs[k].x hs[k].y hs[k].z w0.heap.size w R:=by
   intro e
   induction e with
   |zero=>
    intro i A' m c' w he hi hw ho hm
    have:i=n0:=by omega
    subst this
    refine F.cargo_From.L24.step _ _ _ _ _ _ _ _ _ _ _ _ _ _ _ _ _ _ _ _ _ _ _ _ _ _ _ _ _ _ _ _ _ ⟨fun h=>by omega,fun _=>⟨by simp only[inR];omega,?_⟩⟩
    rw[ek3]
    refine ih (k+1) A' m c' w (by omega) (by omega) hw ?_ (by omega)
    rw[<-outS_end,hlp]
    exact ho
   |succ e ihe=>
    intro i A' m c' w he hi hw ho hm
    have hil:i<ps.length:=by omega
    have ei3:(i:Int)+1=((i+1:Nat):Int):=by omega
    obtain⟨hb2,ad2,hA2,hcell2,_⟩:=(hc.p.keep hw (Nat.le_refl _)).at_ (fun _=>rfl) hc.lp hil
    have hle1:i*n1<=7*7:=Nat.mul_le_mul (by omega) hn1
    have hidx:i*n1+k<n:=by rw[hn];exact idx_lt (by omega) (by omega)
    have e4:(i:Int)*(n1:Int)+(k:Int)=((i*n1+k:Nat):Int):=by simp
    have e5:(i:Int)*(n1:Int)=((i*n1:Nat):Int):=by simp
    have hent:entS (getA a n1) ps hs k i=if 0<getA a n1 i k then[⟨hs[k].id,ps[i].id,getA a n1 i k⟩]else[]:=by
     unfold entS
     rw[List.getElem?_eq_getElem hkl,List.getElem?_eq_getElem hil]
    have hga:a[i*n1+k]'(by omega)=getA a n1 i k:=by
     unfold getA
     rw[List.getD_eq_getElem?_getD,List.getElem?_eq_getElem (by omega)]
     rfl
    refine F.cargo_From.L24.step _ _ _ _ _ _ _ _ _ _ _ _ _ _ _ _ _ _ _ _ _ _ _ _ _ _ _ _ _ _ _ _ _ ⟨fun _=>⟨hb2,ad2,hA2,_,_,_,_,_,_,_,hcell2,?_⟩,fun h=>by omega⟩
    rw[e5]
    have e6:((i*n1:Nat):Int)+(k:Int)=((i*n1+k:Nat):Int):=by simp
    rw[e6]
    obtain⟨hb3,ad3,hA3,_⟩:=(h.keep hw (Nat.le_refl _)).at_ (fun _=>rfl) hl (i:=i*n1+k) (by omega)
    refine⟨by simp only[inR];omega,by simp only[inR];omega,hb3,ad3,hA3,fun w2 x2=> ?_⟩
    have hw2:=kE hw x2
    obtain⟨_,ad4,hA4,hcell4,_⟩:=(h.keep hw2 (Nat.le_refl _)).at_ (fun _=>rfl) hl (i:=i*n1+k) (by omega)
    rw[hA3]at hA4
    cases hA4
    have o2:=ho.extNil x2
    refine⟨_,hcell4,fun hpos=> ?_,fun hneg=>⟨by simp only[inR];omega,?_⟩⟩
    ·rw[hga]at hpos⊢
     refine app_row el_Sws (Nat.le_refl _) o2 (x:= .agg #[.int .i64 hs[k].id,.int .i64 ps[i].id,.int .i64 (getA a n1 i k)]) rfl (by simp[Value.cells,isCell]) hw2.size (by omega) (by decide) fun A3 c3 w3 o3 _ b3=>⟨by simp only[inR];omega,?_⟩
     rw[ei3]
     refine ihe (i+1) A3 (m+1) c3 w3 (by omega) (by omega) (hw2.trans b3) ?_ (by omega)
     rw[outS_step,hent,if_pos hpos,List.map_append]
     exact o3
    ·rw[hga]at hneg
     rw[ei3]
     refine ihe (i+1) A' m c' w2 (by omega) (by omega) hw2 ?_ (by omega)
     rw[outS_step,hent,if_neg (by omega),List.append_nil]
     exact o2
  exact inner n0 0 A' m c' w1 rfl (by omega) hw1 (ho.extNil x1) (by omega)
def StowR(r:Except Int (List Sw))(B:Nat)(y:Value)(w:World):Prop:=match r with
 | .error e=>y= .tuple #[.slice none 0 0,.int .i64 e]
 | .ok l=>∃A m c,y= .tuple #[.slice A m c,.int .i64 0]/\OwnR w B 39 A m c 3 (l.map Sw.row)
theorem cargo_From{w:World}(hg:Glob w){A0 A1 A:Option Addr}{n0 c0 n1 c1 n c:Nat}{ps:List Pa}{hs:List Ho}{a:List Int}(hc:CgIn w A0 n0 A1 n1 ps hs)(h:SlR w A 1 (a.map iRow))(hl:a.length=n)(hnc:n<=c)(hn:n<2147483648):
  Pure Tryz.prog 79 #[.agg #[.slice A0 n0 c0,.slice A1 n1 c1],.slice A n c] w (StowR (fromF ps hs a) w.heap.size):=by
 have hn0:=hc.np
 have hn1:=hc.nh
 have hlp:=hc.lp
 have hlh:=hc.lh
 have hle:n0*n1<=7*7:=Nat.mul_le_mul hn0 hn1
 refine F.cargo_From.vc _ _ _ _ _ _ _ _ _ _ _ fun w1 x1=> ?_
 have hw1:=k0 x1
 refine Pure.mono (cargo_Check (hg.next hw1) (hc.keep hw1)) ?_
 rintro v w2 b2 rfl
 have hw2:=kP hw1 b2
 have em:(n0:Int)*(n1:Int)=((n0*n1:Nat):Int):=by simp
 rw[em]
 refine⟨_,rfl,fun h0=> ?_,fun h0=>⟨by simp only[inR];omega,fun h1=> ?_,fun h1=> ?_⟩⟩
 ·unfold fromF;rw[if_pos h0];rfl
 ·unfold fromF;rw[if_neg h0,if_pos (by rw[hlp,hlh];omega)];rfl
 have hlen:a.length=ps.length*hs.length:=by rw[hlp,hlh];omega
 refine Pure.mono (ContainsI (p:=fun n=>decide (n<0)) (h.keep hw2 (Nat.le_refl _)) hl hn (by kernel_rfl) fun w' hb x hx=>F.cargo_From_c1.vc _ _ _ rfl) ?_
 rintro v w3 b3 rfl
 have hw3:=kP hw2 b3
 refine⟨_,rfl,fun h2=> ?_,fun h2=> ?_⟩
 ·unfold fromF;rw[if_neg h0,if_neg (fun k=>k hlen),if_pos h2];rfl
 have hpos:∀x∈a,0<=x:=fun x hx=>by
  have:=List.any_eq_false.1 h2 x hx
  simp at this
  omega
 refine from_L8 hc (checkC_right (Decidable.not_not.1 h0)) h hl hnc (by omega) hpos (fun w' hf=> ?_) (fun w' hw' hf=> ?_) n0 0 w3 rfl (by omega) hw3 (fun i' p hi'=>by omega)
 ·unfold fromF;rw[if_neg h0,if_neg (fun k=>k hlen),if_neg (by rw[h2];simp),if_pos hf];rfl
 ·refine from_out hc h hl (by omega) (fun A' m c' w4 hw4 ho=> ?_) n1 0 none 0 0 w' rfl (by omega) hw' (by unfold outS;simpa using OwnR.nil) (by omega)
  unfold fromF;rw[if_neg h0,if_neg (fun k=>k hlen),if_neg (by rw[h2];simp),if_neg (by rw[hf];simp),hlh]
  exact⟨A',m,c',rfl,ho⟩
end Go.Proofs.YtgfkeadgjkfomaaGreatDoor.B

set_option maxRecDepth 100000
set_option maxHeartbeats 4000000
namespace Go.Proofs.YtgfkeadgjkfomaaGreatDoor.F
open Go Go.RowKit Go.Proofs Go.Proofs.YtgfkeadgjkfomaaGreatDoor.Vc
noncomputable def garboardref47_Copy.cx(w:World)(B:Nat)(R:Value->World->Prop):Cx:=⟨Tryz.prog,13,12,Tryz.f13.results.toList,[],[(1,0,7),(1,3,2),(1,4,7),(1,7,2),(1,9999,3)],w,B,R⟩
theorem garboardref47_Copy.vc(d:Option Addr)(e f:Nat)(a:Option Addr)(b c:Nat)(w:World)(R:Value->World->Prop)
  (h:(∀m,Ext w.heap.size [] w m->((∀s,Ext w.heap.size [] m s->(RunOk P (Instr.buildSlice 22 0 #[]) s.heap.size [25,25] s fun r4 g=>∃i j l,r4= .slice i j l/\((RunOk P (Builtin.append_ #[22,22] 22 #[.slice i j l,.slice d e f]) w.heap.size [25,25] g fun r7 n=>∃t u v,r7= .slice t u v/\((RunOk P (Instr.buildSlice 23 0 #[]) n.heap.size [25,25] n fun n1 n2=>∃M N O,n1= .slice M N O/\(RunOk P (Builtin.append_ #[23,23] 23 #[.slice M N O,.slice a b c]) w.heap.size [25,25] n2 fun n3 n4=>∃Q S T,n3= .slice Q S T/\(∀U,Ext w.heap.size [25] n4 U->(R (.agg #[.slice t u v,.slice Q S T]) U))))/\(RunOk P (Instr.buildSlice 23 0 #[]) n.heap.size [25,25] n fun n5 n6=>∃V X Y,n5= .slice V X Y/\(RunOk P (Builtin.append_ #[23,23] 23 #[.slice V X Y,.slice a b c]) w.heap.size [25,25] n6 fun n7 n8=>∃Z a0 a1,n7= .slice Z a0 a1/\(∀a2,Ext w.heap.size [25] n8 a2->(R (.agg #[.slice t u v,.slice Z a0 a1]) a2))))))/\((RunOk P (Instr.buildSlice 23 0 #[]) g.heap.size [25,25] g fun n9 a3=>∃x y z,n9= .slice x y z/\((RunOk P (Builtin.append_ #[22,22] 22 #[.slice i j l,.slice d e f]) w.heap.size [25,25] a3 fun o0 o1=>∃a4 a5 a6,o0= .slice a4 a5 a6/\(RunOk P (Builtin.append_ #[23,23] 23 #[.slice x y z,.slice a b c]) w.heap.size [25,25] o1 fun o2 o3=>∃a7 a8 a9,o2= .slice a7 a8 a9/\(∀b0,Ext w.heap.size [25] o3 b0->(R (.agg #[.slice a4 a5 a6,.slice a7 a8 a9]) b0))))/\(RunOk P (Builtin.append_ #[22,22] 22 #[.slice i j l,.slice d e f]) w.heap.size [25,25] a3 fun o4 o5=>∃b1 b2 b3,o4= .slice b1 b2 b3/\(RunOk P (Builtin.append_ #[23,23] 23 #[.slice x y z,.slice a b c]) w.heap.size [25,25] o5 fun o6 o7=>∃b4 b5 b6,o6= .slice b4 b5 b6/\(∀b7,Ext w.heap.size [25] o7 b7->(R (.agg #[.slice b1 b2 b3,.slice b4 b5 b6]) b7))))))/\((RunOk P (Builtin.append_ #[22,22] 22 #[.slice i j l,.slice d e f]) w.heap.size [25,25] g fun o8 b8=>∃b9 c0 c1,o8= .slice b9 c0 c1/\(RunOk P (Instr.buildSlice 23 0 #[]) b8.heap.size [25,25] b8 fun o9 p0=>∃c2 c3 c4,o9= .slice c2 c3 c4/\(RunOk P (Builtin.append_ #[23,23] 23 #[.slice c2 c3 c4,.slice a b c]) w.heap.size [25,25] p0 fun p1 p2=>∃c5 c6 c7,p1= .slice c5 c6 c7/\(∀c8,Ext w.heap.size [25] p2 c8->(R (.agg #[.slice b9 c0 c1,.slice c5 c6 c7]) c8)))))/\(RunOk P (Instr.buildSlice 23 0 #[]) g.heap.size [25,25] g fun p3 p4=>∃c9 d0 d1,p3= .slice c9 d0 d1/\(RunOk P (Builtin.append_ #[22,22] 22 #[.slice i j l,.slice d e f]) w.heap.size [25,25] p4 fun p5 p6=>∃d2 d3 d4,p5= .slice d2 d3 d4/\(RunOk P (Builtin.append_ #[23,23] 23 #[.slice c9 d0 d1,.slice a b c]) w.heap.size [25,25] p6 fun p7 p8=>∃d5 d6 d7,p7= .slice d5 d6 d7/\(∀d8,Ext w.heap.size [25] p8 d8->(R (.agg #[.slice d2 d3 d4,.slice d5 d6 d7]) d8))))))))))/\((∀A,Ext w.heap.size [] m A->(RunOk P (Instr.buildSlice 23 0 #[]) A.heap.size [25,25] A fun p9 o=>∃p q r,p9= .slice p q r/\((RunOk P (Instr.buildSlice 22 0 #[]) o.heap.size [25,25] o fun q0 d9=>∃C D E,q0= .slice C D E/\((RunOk P (Builtin.append_ #[22,22] 22 #[.slice C D E,.slice d e f]) w.heap.size [25,25] d9 fun q1 q2=>∃e0 e1 e2,q1= .slice e0 e1 e2/\(RunOk P (Builtin.append_ #[23,23] 23 #[.slice p q r,.slice a b c]) w.heap.size [25,25] q2 fun q3 q4=>∃e3 e4 e5,q3= .slice e3 e4 e5/\(∀e6,Ext w.heap.size [25] q4 e6->(R (.agg #[.slice e0 e1 e2,.slice e3 e4 e5]) e6))))/\(RunOk P (Builtin.append_ #[22,22] 22 #[.slice C D E,.slice d e f]) w.heap.size [25,25] d9 fun q5 q6=>∃e7 e8 e9,q5= .slice e7 e8 e9/\(RunOk P (Builtin.append_ #[23,23] 23 #[.slice p q r,.slice a b c]) w.heap.size [25,25] q6 fun q7 q8=>∃f0 f1 f2,q7= .slice f0 f1 f2/\(∀f3,Ext w.heap.size [25] q8 f3->(R (.agg #[.slice e7 e8 e9,.slice f0 f1 f2]) f3))))))/\(RunOk P (Instr.buildSlice 22 0 #[]) o.heap.size [25,25] o fun q9 r0=>∃f4 f5 f6,q9= .slice f4 f5 f6/\(RunOk P (Builtin.append_ #[22,22] 22 #[.slice f4 f5 f6,.slice d e f]) w.heap.size [25,25] r0 fun r1 r2=>∃f7 f8 f9,r1= .slice f7 f8 f9/\(RunOk P (Builtin.append_ #[23,23] 23 #[.slice p q r,.slice a b c]) w.heap.size [25,25] r2 fun r3 r4=>∃g0 g1 g2,r3= .slice g0 g1 g2/\(∀g3,Ext w.heap.size [25] r4 g3->(R (.agg #[.slice f7 f8 f9,.slice g0 g1 g2]) g3))))))))/\((∀G,Ext w.heap.size [] m G->(RunOk P (Instr.buildSlice 22 0 #[]) G.heap.size [25,25] G fun r5 H=>∃I J K,r5= .slice I J K/\((RunOk P (Builtin.append_ #[22,22] 22 #[.slice I J K,.slice d e f]) w.heap.size [25,25] H fun r6 g4=>∃g5 g6 g7,r6= .slice g5 g6 g7/\(RunOk P (Instr.buildSlice 23 0 #[]) g4.heap.size [25,25] g4 fun r7 r8=>∃g8 g9 j0,r7= .slice g8 g9 j0/\(RunOk P (Builtin.append_ #[23,23] 23 #[.slice g8 g9 j0,.slice a b c]) w.heap.size [25,25] r8 fun r9 s0=>∃j1 j2 j3,r9= .slice j1 j2 j3/\(∀j4,Ext w.heap.size [25] s0 j4->(R (.agg #[.slice g5 g6 g7,.slice j1 j2 j3]) j4)))))/\(RunOk P (Instr.buildSlice 23 0 #[]) H.heap.size [25,25] H fun s1 s2=>∃j5 j6 j7,s1= .slice j5 j6 j7/\(RunOk P (Builtin.append_ #[22,22] 22 #[.slice I J K,.slice d e f]) w.heap.size [25,25] s2 fun s3 s4=>∃j8 j9 l0,s3= .slice j8 j9 l0/\(RunOk P (Builtin.append_ #[23,23] 23 #[.slice j5 j6 j7,.slice a b c]) w.heap.size [25,25] s4 fun s5 s6=>∃l1 l2 l3,s5= .slice l1 l2 l3/\(∀l4,Ext w.heap.size [25] s6 l4->(R (.agg #[.slice j8 j9 l0,.slice l1 l2 l3]) l4))))))))/\(∀L,Ext w.heap.size [] m L->(RunOk P (Instr.buildSlice 23 0 #[]) L.heap.size [25,25] L fun s7 l5=>∃l6 l7 l8,s7= .slice l6 l7 l8/\(RunOk P (Instr.buildSlice 22 0 #[]) l5.heap.size [25,25] l5 fun s8 s9=>∃l9 m0 m1,s8= .slice l9 m0 m1/\(RunOk P (Builtin.append_ #[22,22] 22 #[.slice l9 m0 m1,.slice d e f]) w.heap.size [25,25] s9 fun t0 t1=>∃m2 m3 m4,t0= .slice m2 m3 m4/\(RunOk P (Builtin.append_ #[23,23] 23 #[.slice l6 l7 l8,.slice a b c]) w.heap.size [25,25] t1 fun t2 t3=>∃m5 m6 m7,t2= .slice m5 m6 m7/\(∀m8,Ext w.heap.size [25] t3 m8->(R (.agg #[.slice m2 m3 m4,.slice m5 m6 m7]) m8)))))))))))):
  Pure P 13 #[.agg #[.slice d e f,.slice a b c]] w R:=
 pure_of_run (garboardref47_Copy.cx w w.heap.size R) 100000 follows Tryz.func13 rfl rfl rfl rfl rfl rfl rfl (Eq.mp (by kernel_rfl) h)

def garboardref47_Few.L2(a:Int)(b:Option Addr)(c d:Nat)(e:Option Addr)(f g B:Nat)(w:World)(R:Value->World->Prop):Prop:=At Tryz.prog 36 100 (loopAt Tryz.f36 2) [(1,.loc 1 0),(3,.v (.int .i64 a))] [⟨1,false,25,[(.slice b c d),(.slice e f g)]⟩] B w R
def garboardref47_Few.L8(a:Int)(b:Option Addr)(c d:Nat)(e:Option Addr)(f g B:Nat)(w:World)(R:Value->World->Prop):Prop:=At Tryz.prog 36 100 (loopAt Tryz.f36 8) [(1,.loc 1 0),(5,.v (.int .i64 a))] [⟨1,false,25,[(.slice b c d),(.slice e f g)]⟩] B w R
noncomputable def garboardref47_Few.cx(w:World)(B:Nat)(R:Value->World->Prop):Cx:=⟨Tryz.prog,36,100,Tryz.f36.results.toList,[((true,2),[1,3],[1]),((true,8),[1,5],[1])],[],w,B,R⟩
theorem garboardref47_Few.L2.step(a:Int)(c:Option Addr)(b d:Nat)(e:Option Addr)(f g B:Nat)(w:World)(R:Value->World->Prop)
  (h:(((a<(b:Int))->((0<=a/\a<b)/\∃n,c=some n/\(∃t u v i j l m,CellsAt w (n.add ((a).toNat*7)) [.int .i64 t,.int .i64 u,.int .i64 v,.string i,.string j,.string l,.string m]/\(((((ByteArray.size j:Int):Int)>40)->(∀o,Ext B [] w o->(R (.bool false) o)))/\(¬(((ByteArray.size j:Int):Int)>40)->(((((ByteArray.size l:Int):Int)>40)->(∀p,Ext B [] w p->(R (.bool false) p)))/\(¬(((ByteArray.size l:Int):Int)>40)->(((((ByteArray.size m:Int):Int)>40)->(∀q,Ext B [] w q->(R (.bool false) q)))/\(¬(((ByteArray.size m:Int):Int)>40)->(((((ByteArray.size i:Int):Int)>70)->(∀r,Ext B [] w r->(R (.bool false) r)))/\(¬(((ByteArray.size i:Int):Int)>70)->(inR .i64 (a+1)/\(∀s,Ext B [] w s->(garboardref47_Few.L2 (a+1) c b d e f g B s R))))))))))))))/\(¬(a<(b:Int))->(garboardref47_Few.L8 (0:Int) c b d e f g B w R)))):
  garboardref47_Few.L2 a c b d e f g B w R:=
 loop_of_run (garboardref47_Few.cx w B R) 100000 (loopAt Tryz.f36 2) _ _ follows Tryz.func36 rfl rfl rfl (Eq.mp (by kernel_rfl) h)
theorem garboardref47_Few.L8.step(a:Int)(m:Option Addr)(c n:Nat)(d:Option Addr)(b o B:Nat)(w:World)(R:Value->World->Prop)
  (h:(((a<(b:Int))->((0<=a/\a<b)/\∃p,d=some p/\(∃y e f g i j l,CellsAt w (p.add ((a).toNat*7)) [.int .i64 y,.string e,.string f,.string g,.string i,.string j,.string l]/\(((((ByteArray.size f:Int):Int)>40)->(∀q,Ext B [] w q->(R (.bool false) q)))/\(¬(((ByteArray.size f:Int):Int)>40)->(((((ByteArray.size g:Int):Int)>40)->(∀r,Ext B [] w r->(R (.bool false) r)))/\(¬(((ByteArray.size g:Int):Int)>40)->(((((ByteArray.size i:Int):Int)>40)->(∀s,Ext B [] w s->(R (.bool false) s)))/\(¬(((ByteArray.size i:Int):Int)>40)->(((((ByteArray.size j:Int):Int)>40)->(∀t,Ext B [] w t->(R (.bool false) t)))/\(¬(((ByteArray.size j:Int):Int)>40)->(((((ByteArray.size l:Int):Int)>40)->(∀u,Ext B [] w u->(R (.bool false) u)))/\(¬(((ByteArray.size l:Int):Int)>40)->(((((ByteArray.size e:Int):Int)>70)->(∀v,Ext B [] w v->(R (.bool false) v)))/\(¬(((ByteArray.size e:Int):Int)>70)->(inR .i64 (a+1)/\(∀x,Ext B [] w x->(garboardref47_Few.L8 (a+1) m c n d b o B x R))))))))))))))))))/\(¬(a<(b:Int))->((((c:Int)<=(7:Int))->(R (.bool (decide ((b:Int)<=(7:Int)))) w))/\(¬((c:Int)<=(7:Int))->(R (.bool false) w)))))):
  garboardref47_Few.L8 a m c n d b o B w R:=
 loop_of_run (garboardref47_Few.cx w B R) 100000 (loopAt Tryz.f36 8) _ _ follows Tryz.func36 rfl rfl rfl (Eq.mp (by kernel_rfl) h)
theorem garboardref47_Few.vc(a:Option Addr)(b c:Nat)(d:Option Addr)(e f:Nat)(w:World)(R:Value->World->Prop)
  (h:(∀g,Ext w.heap.size [] w g->(garboardref47_Few.L2 (0:Int) a b c d e f w.heap.size g R))):
  Pure P 36 #[.agg #[.slice a b c,.slice d e f]] w R:=
 pure_of_run (garboardref47_Few.cx w w.heap.size R) 100000 follows Tryz.func36 rfl rfl rfl rfl rfl rfl rfl (Eq.mp (by kernel_rfl) h)

end Go.Proofs.YtgfkeadgjkfomaaGreatDoor.F

namespace Go.Proofs.YtgfkeadgjkfomaaGreatDoor.B
open Go Go.RowKit Go.Proofs Go.Proofs.YtgfkeadgjkfomaaGreatDoor.Vc

theorem OwnU.ext{w w2:World}{B:Nat}{A:Option Addr}{n c:Nat}{ws:List Nat}(h:OwnU w B A n c ws)(e:Ext B [] w w2):OwnU w2 B A n c ws:=
 h.other fun b hb=>by
  rcases e.other b (h.blk b hb).2 with h1|⟨t,ht,_⟩
  ·exact h1
  ·cases ht

section
variable {w0:World} {A1 A0:Option Addr} {n1 c1 n0 c0:Nat} {a b:List Nat} {R:Value->World->Prop}

end

theorem IsN.nil(w:World):IsN w none 0 0 0:=⟨[],.inl rfl,rfl,by omega,by omega,Small.nil,by simp[Norm],rfl⟩
theorem OwnN.nil(w:World)(B:Nat):OwnN w B none 0 0 0:=⟨[],World.ownsRow_nil w _ _ _,Small.nil,by simp[Norm],rfl⟩
theorem IsN.zero{w:World}{A:Option Addr}{n c x:Nat}(h:IsN w A n c x)(hn:n=0):x=0:=by
 have:=h.pos_len
 apply Decidable.byContradiction
 intro k
 have:=this.2 k
 omega

theorem IsN.one{w:World}{A:Option Addr}{n c x:Nat}(h:IsN w A n c x)(h0:0<x)(hx:x<1000000000):n=1/\SlU w A [x]:=by
 obtain⟨ws,h1,h2,h3,h4,h5,h6,rfl⟩:=h
 have hne:ws≠[]:=fun e=>by subst e;simp[wv]at h0
 have hp:=wv_pos h6 hne
 have hl:ws.length=1:=by
  have:=List.length_pos_iff.2 hne
  apply Decidable.byContradiction
  intro k
  have:1000000000^1<=1000000000^(ws.length - 1):=Nat.pow_le_pow_right (by omega) (by omega)
  omega
 obtain⟨z,rfl⟩:=List.length_eq_one_iff.1 hl
 refine⟨by simpa using h2.symm,?_⟩
 have e:wv [z]=z:=by simp[wv]
 rw[e]
 exact h1

section
variable {w1:World} {B:Nat} {Af Au Av Aq:Option Addr} {nf cf nu cu nv cv nq cq:Nat} {vs:List Nat} {R:Value->World->Prop}

end

theorem IsN.len_le{w:World}{A:Option Addr}{n c z k:Nat}(h:IsN w A n c z)(hz:z<1000000000^k):n<=k:=by
 obtain⟨ws,_,hl,_,_,_,hn,rfl⟩:=h
 by_cases h0:ws=[]
 ·subst h0;simp at hl;omega
 ·have h1:=wv_pos hn h0
  have:=(Nat.pow_lt_pow_iff_right (a:=1000000000) (by omega)).1 (Nat.lt_of_le_of_lt h1 hz)
  omega
theorem OwnU.some{w:World}{B:Nat}{A:Option Addr}{n c:Nat}{ws:List Nat}(h:OwnU w B A n c ws)(h0:n≠0):A≠none:=by
 rintro rfl
 rcases h.2 with⟨e,_⟩|⟨g,cap,cur,e,_⟩
 ·cases e;exact h0 rfl
 ·cases e

def IsZ(w:World)(b:Bool)(A:Option Addr)(n c:Nat)(z:Int):Prop:=b=decide (z<0)/\IsN w A n c z.natAbs
theorem IsZ.below{w w':World}{b:Bool}{A:Option Addr}{n c:Nat}{z:Int}(h:IsZ w b A n c z)(hb:Below w.heap.size w w'):IsZ w' b A n c z:=⟨h.1,h.2.below hb⟩
theorem IsZ.ext{w w':World}{B:Nat}{ts:List Nat}{b:Bool}{A:Option Addr}{n c:Nat}{z:Int}(h:IsZ w b A n c z)(e:Ext B ts w w')(ht:217∉ts):IsZ w' b A n c z:=⟨h.1,h.2.ext e ht⟩
def sgn(z:Int):Int:=if z<0 then -1 else if 0<z then 1 else 0

def IsQ(w:World)(b:Bool)(A:Option Addr)(n c:Nat)(A':Option Addr)(n' c':Nat)(r:Rat):Prop:=IsZ w b A n c r.num/\IsN w A' n' c' r.den
theorem IsQ.below{w w':World}{b:Bool}{A A':Option Addr}{n c n' c':Nat}{r:Rat}(h:IsQ w b A n c A' n' c' r)(hb:Below w.heap.size w w'):IsQ w' b A n c A' n' c' r:=⟨h.1.below hb,h.2.below hb⟩
theorem IsQ.ext{w w':World}{B:Nat}{ts:List Nat}{b:Bool}{A A':Option Addr}{n c n' c':Nat}{r:Rat}(h:IsQ w b A n c A' n' c' r)(e:Ext B ts w w')(ht:217∉ts):IsQ w' b A n c A' n' c' r:=⟨h.1.ext e ht,h.2.ext e ht⟩
abbrev QR(r:Rat)(v:Value)(w:World):Prop:=∃b A n c A' n' c',v= .agg #[.bool b,.slice A n c,.slice A' n' c']/\IsQ w b A n c A' n' c' r

end Go.Proofs.YtgfkeadgjkfomaaGreatDoor.B
