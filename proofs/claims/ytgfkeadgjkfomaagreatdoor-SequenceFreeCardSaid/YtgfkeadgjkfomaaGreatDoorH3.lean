/- Part 3 of the proofs that: without rules, and with holds that can take everything, any order of steps that only put in is one -/
import Derived.Test.YtgfkeadgjkfomaaGreatDoorH2
import Derived.Test.YtgfkeadgjkfomaaGreatDoorProg
import Derived.Laws.MakeOwn
import Derived.RangeFuncNested
import Derived.RangeFuncBound
import Derived.RangeFuncCalls
import Derived.RangeFuncLeaves
import Derived.Shelf.Abstract
import Derived.Shelf.RegionOpen
import Derived.WalkKit
import Derived.OwnWalkIn
import Derived.TacticsInMore
import Derived.LoopNIn
import Derived.LoopIn
import Derived.Shelf.Strings.Builder1
import Derived.Shelf.Strings.Builder2
import Derived.Shelf.Small.Wraps
import Derived.Shelf.Strings.BuilderF
import Derived.Shelf.Strings.BuilderK
import Derived.Shelf.Strconv.Itoa0
import Derived.Shelf.Strconv.Itoa1
import Derived.Shelf.LaysM
import Derived.Shelf.Strconv.Itoa2
import Derived.Shelf.Strconv.Itoa3
import Derived.Shelf.Strconv.Itoa4
import Derived.Shelf.Strconv.ParseIntEmpty
import Derived.Shelf.Strconv.Clone
import Derived.Shelf.Strconv.SyntaxError
import Derived.Shelf.LaysC
import Derived.Shelf.Strconv.ToError
import Derived.Shelf.Strconv.Lower
import Derived.Shelf.Strconv.ParseUint10
import Derived.Shelf.Strconv.ParseUint10Empty
import Derived.Shelf.Strconv.ParseUint10Any
import Derived.Shelf.Strconv.ParseInt10
import Derived.Shelf.Strconv.RangeError
import Derived.Shelf.Strconv.ToErrorRange
import Derived.Shelf.Strconv.ParseUintEmpty
import Derived.Shelf.Strconv.ParseUint10b64
import Derived.Shelf.Strconv.ParseUint10b32
import Derived.Shelf.Strconv.ParseUint10b16
import Derived.Shelf.Strconv.ParseUint10b8
import Derived.Shelf.Strconv.ParseUint10At
import Derived.Shelf.Strconv.ParseInt10At64
import Derived.Shelf.Strconv.ParseInt10At32
import Derived.Shelf.Strconv.ParseInt10At16
import Derived.Shelf.Strconv.ParseInt10At8
import Derived.Shelf.Strconv.ParseInt10All
import Derived.Shelf.Strconv.ParseIntPublic10
import Derived.Ground.MpProg
import Derived.Shelf.Pu.ParseUintPublic10
import Derived.Shelf.Strings.Search1
import Derived.Shelf.Strings.Search2
import Derived.Shelf.Strings.Cut
import Derived.Shelf.Strings.Shaped
import Derived.Shelf.Strings.Prefix
import Derived.Shelf.Bits.Mul64
import Derived.Shelf.Strings.Repeat
set_option linter.unusedVariables false
set_option linter.unusedSimpArgs false
set_option maxRecDepth 100000
set_option maxHeartbeats 4000000
namespace Go.Proofs.YtgfkeadgjkfomaaGreatDoor.F
open Go Go.RowKit Go.Proofs Go.Proofs.YtgfkeadgjkfomaaGreatDoor.Vc
noncomputable abbrev P:Program:=Tryz.prog
def natural_Valid.L4(a:ByteArray)(b c:Int)(B:Nat)(w:World)(R:Value->World->Prop):Prop:=At Tryz.prog 213 32 (loopAt Tryz.f213 4) [(0,.v (.string a)),(17,.v (.int .i64 b)),(18,.v (.int .i64 c))] [] B w R
noncomputable def natural_Valid.cx(w:World)(B:Nat)(R:Value->World->Prop):Cx:=⟨Tryz.prog,213,32,Tryz.f213.results.toList,[((true,4),[0,17,18],[])],[],w,B,R⟩
theorem natural_Valid.L4.step(b:ByteArray)(c a:Int)(B:Nat)(w:World)(R:Value->World->Prop)
  (h:(((a<c)->((0<=a/\a<(ByteArray.size b:Int))/\(((((bt b a):Int)<48)->(R (.bool false) w))/\(¬(((bt b a):Int)<48)->((0<=a/\a<(ByteArray.size b:Int))/\(((((bt b a):Int)>57)->(R (.bool false) w))/\(¬(((bt b a):Int)>57)->(inR .i64 (a+1)/\(natural_Valid.L4 b c (a+1) B w R)))))))))/\(¬(a<c)->(R (.bool true) w)))):
  natural_Valid.L4 b c a B w R:=
 loop_of_run (natural_Valid.cx w B R) 100000 (loopAt Tryz.f213 4) _ _ follows Tryz.func213 rfl rfl rfl (Eq.mp (by kernel_rfl) h)
theorem natural_Valid.vc(a:ByteArray)(w:World)(R:Value->World->Prop)
  (h:(((a=(⟨#[]⟩:ByteArray))->(R (.bool false) w))/\(¬(a=(⟨#[]⟩:ByteArray))->(((((ByteArray.size a:Int):Int)>1)->((0<=(0:Int)/\(0:Int)<(ByteArray.size a:Int))/\(((((bt a (0:Int)):Int)=48)->(R (.bool false) w))/\(¬(((bt a (0:Int)):Int)=48)->(natural_Valid.L4 a (ByteArray.size a:Int) (0:Int) w.heap.size w R)))))/\(¬(((ByteArray.size a:Int):Int)>1)->(natural_Valid.L4 a (ByteArray.size a:Int) (0:Int) w.heap.size w R)))))):
  Pure P 213 #[.string a] w R:=
 pure_of_run (natural_Valid.cx w w.heap.size R) 100000 follows Tryz.func213 rfl rfl rfl rfl rfl rfl rfl (Eq.mp (by kernel_rfl) h)

noncomputable def natural_Mul.cx(w:World)(B:Nat)(R:Value->World->Prop):Cx:=⟨Tryz.prog,232,25,Tryz.f232.results.toList,[],[],w,B,R⟩
theorem natural_Mul.vc(b c:ByteArray)(w:World)(R:Value->World->Prop)
  (h:(Pure P 255 #[.string b,.string c] w fun o d=>∃e f g i j l a,o= .tuple #[.slice e f g,.slice i j l,.int .i64 a]/\(((a≠0)->(R (.tuple #[(.string ⟨#[]⟩),.int .i64 a]) d))/\(¬(a≠0)->(Pure P 256 #[(.func (.func 257) #[.slice e f g] #[]),.slice i j l] d fun p q=>∃m n,p= .tuple #[.string m,.int .i64 n]/\(R (.tuple #[.string m,.int .i64 n]) q)))))):
  Pure P 232 #[.string b,.string c] w R:=
 pure_of_run (natural_Mul.cx w w.heap.size R) 100000 follows Tryz.func232 rfl rfl rfl rfl rfl rfl rfl (Eq.mp (by kernel_rfl) h)

noncomputable def natural_GCD.cx(w:World)(B:Nat)(R:Value->World->Prop):Cx:=⟨Tryz.prog,243,25,Tryz.f243.results.toList,[],[],w,B,R⟩
theorem natural_GCD.vc(b c:ByteArray)(w:World)(R:Value->World->Prop)
  (h:(Pure P 255 #[.string b,.string c] w fun o d=>∃e f g i j l a,o= .tuple #[.slice e f g,.slice i j l,.int .i64 a]/\(((a≠0)->(R (.tuple #[(.string ⟨#[]⟩),.int .i64 a]) d))/\(¬(a≠0)->(Pure P 256 #[(.func (.func 264) #[.slice e f g] #[]),.slice i j l] d fun p q=>∃m n,p= .tuple #[.string m,.int .i64 n]/\(R (.tuple #[.string m,.int .i64 n]) q)))))):
  Pure P 243 #[.string b,.string c] w R:=
 pure_of_run (natural_GCD.cx w w.heap.size R) 100000 follows Tryz.func243 rfl rfl rfl rfl rfl rfl rfl (Eq.mp (by kernel_rfl) h)

noncomputable def natural_both.cx(w:World)(B:Nat)(R:Value->World->Prop):Cx:=⟨Tryz.prog,255,19,Tryz.f255.results.toList,[],[],w,B,R⟩
theorem natural_both.vc(a b:ByteArray)(w:World)(R:Value->World->Prop)
  (h:(Pure P 213 #[.string a] w fun o e=>∃c,o= .bool c/\(((c=false)->(R (.tuple #[.slice none 0 0,.slice none 0 0,.int .i64 1]) e))/\(¬(c=false)->(Pure P 213 #[.string b] e fun p f=>∃d,p= .bool d/\(((d=false)->(R (.tuple #[.slice none 0 0,.slice none 0 0,.int .i64 1]) f))/\(¬(d=false)->(Pure P 278 #[.string a] f fun q r=>∃g i j,q= .slice g i j/\(Pure P 278 #[.string b] r fun s t=>∃l m n,s= .slice l m n/\(R (.tuple #[.slice g i j,.slice l m n,.int .i64 0]) t)))))))))):
  Pure P 255 #[.string a,.string b] w R:=
 pure_of_run (natural_both.cx w w.heap.size R) 100000 follows Tryz.func255 rfl rfl rfl rfl rfl rfl rfl (Eq.mp (by kernel_rfl) h)

noncomputable def natural_apply.cx(w:World)(B:Nat)(R:Value->World->Prop):Cx:=⟨Tryz.prog,256,10,Tryz.f256.results.toList,[],[(1,2,4)],w,B,R⟩
theorem natural_apply.vc(a:Nat)(b c:Array Value)(d:Option Addr)(e f:Nat)(w:World)(R:Value->World->Prop)
  (h:(callable P a=true/\(Pure P a ((Array.toList b)++([.slice d e f]:List Value)++(Array.toList c)).toArray w fun m n=>∃g i j,m= .slice g i j/\(Pure P 279 #[.slice g i j] n fun o p=>∃l,o= .string l/\(R (.tuple #[.string l,.int .i64 0]) p))))):
  Pure P 256 #[(.func (.func a) b c),.slice d e f] w R:=
 pure_of_run (natural_apply.cx w w.heap.size R) 100000 follows Tryz.func256 rfl rfl rfl rfl rfl rfl rfl (Eq.mp (by kernel_rfl) h)

def natural_num_times.L3(a:Option Addr)(b c:Nat)(d:Option Addr)(e f:Nat)(g:Option Addr)(i j:Nat)(l m:Int)(B:Nat)(w:World)(R:Value->World->Prop):Prop:=At Tryz.prog 257 68 (loopAt Tryz.f257 3) [(1,.v (.slice a b c)),(5,.v (.slice d e f)),(17,.v (.slice g i j)),(18,.v (.int .i64 l)),(19,.v (.int .i64 m))] [] B w R
def natural_num_times.L7(a:Option Addr)(b c:Nat)(d:Option Addr)(e f:Nat)(g i j:Int)(l:Option Addr)(m n:Nat)(o p:Int)(q:Option Addr)(r s:Nat)(t u:Int)(B:Nat)(w:World)(R:Value->World->Prop):Prop:=At Tryz.prog 257 68 (loopAt Tryz.f257 7) [(1,.v (.slice a b c)),(5,.v (.slice d e f)),(6,.v (.int .i64 g)),(7,.v (.int .u32 i)),(8,.v (.int .u64 j)),(17,.v (.slice l m n)),(18,.v (.int .i64 o)),(19,.v (.int .i64 p)),(24,.v (.slice q r s)),(25,.v (.int .i64 t)),(26,.v (.int .i64 u))] [] B w R
noncomputable def natural_num_times.cx(w:World)(B:Nat)(R:Value->World->Prop):Cx:=⟨Tryz.prog,257,68,Tryz.f257.results.toList,[((true,3),[1,5,17,18,19],[]),((true,7),[1,5,6,7,8,17,18,19,24,25,26],[])],[(1,5,2)],w,B,R⟩
theorem natural_num_times.L3.step(d:Option Addr)(b e:Nat)(f:Option Addr)(g i:Nat)(j:Option Addr)(l m:Nat)(c a:Int)(B:Nat)(w:World)(R:Value->World->Prop)
  (h:(((a<c)->((0<=a/\a<l)/\∃n,j=some n/\(∃o,CellsAt w (n.add ((a).toNat*1)) [.int .u32 o]/\(natural_num_times.L7 d b e f g i a o (0:Int) j l m c a d b e (b:Int) (0:Int) B w R))))/\(¬(a<c)->(Pure P 280 #[.slice f g i] w fun s t=>∃p q r,s= .slice p q r/\(R (.slice p q r) t))))):
  natural_num_times.L3 d b e f g i j l m c a B w R:=
 loop_of_run (natural_num_times.cx w B R) 100000 (loopAt Tryz.f257 3) _ _ follows Tryz.func257 rfl rfl rfl (Eq.mp (by kernel_rfl) h)
theorem natural_num_times.L7.step(Al1:Option Addr)(nl1 cl1:Nat)(Al5:Option Addr)(nl5 cl5:Nat)(il6:Int)(il7:Int)(il8:Int)(Al17:Option Addr)(nl17 cl17:Nat)(il18:Int)(il19:Int)(Al24:Option Addr)(nl24 cl24:Nat)(il25:Int)(il26:Int)(B:Nat)(w:World)(R:Value->World->Prop)
  (h:((((il26:Int)<il25)->((0<=il26/\il26<nl24)/\∃a9,Al24=some a9/\(∃(i10:Int),CellsAt w (a9.add ((il26).toNat*1)) [(.int .u32 i10)]/\(inR .u64 (il7)/\(inR .u64 (i10)/\(inR .u64 ((il7)*(i10))/\(inR .i64 (il6+il26)/\((0<=(il6+il26)/\(il6+il26)<nl5)/\∃a11,Al5=some a11/\(∃(i12:Int),CellsAt w (a11.add (((il6+il26)).toNat*1)) [(.int .u32 i12)]/\(inR .u64 (i12)/\(inR .u64 (((il7)*(i10))+(i12))/\(inR .u64 (il8+(((il7)*(i10))+(i12)))/\(inR .i64 (il6+il26)/\((0<=(il8+(((il7)*(i10))+(i12)))/\0<(1000000000:Int))/\(inR .u32 (((il8+(((il7)*(i10))+(i12))) % (1000000000:Int)))/\((0<=(il6+il26)/\(il6+il26)<nl5)/\∃a13,Al5=some a13/\(∃(cs14:List Value)(t15:Nat),B<=(a13.add (((il6+il26)).toNat*1)).block/\(a13.add (((il6+il26)).toNat*1)).spot=none/\w.heap[(a13.add (((il6+il26)).toNat*1)).block]? =some (.cells cs14.toArray t15 (0,0))/\(a13.add (((il6+il26)).toNat*1)).off+1<=cs14.length/\hasType t15 []=false/\∀w16,Wrote w w16 (a13.add (((il6+il26)).toNat*1)).block t15 (setCells cs14 (a13.add (((il6+il26)).toNat*1)).off [(.int .u32 (((il8+(((il7)*(i10))+(i12))) % (1000000000:Int))))])->((0<=(il8+(((il7)*(i10))+(i12)))/\0<(1000000000:Int)/\inR .u64 (il8+(((il7)*(i10))+(i12))))/\(inR .i64 (il26+(1:Int))/\(natural_num_times.L7 Al1 nl1 cl1 Al5 nl5 cl5 il6 il7 ((il8+(((il7)*(i10))+(i12))) / (1000000000:Int)) Al17 nl17 cl17 il18 il19 Al24 nl24 cl24 il25 (il26+(1:Int)) B w16 R))))))))))))))))))))/\(¬((il26:Int)<il25)->(inR .i64 (il6+(nl1:Int))/\(inR .u32 (il8)/\((0<=(il6+(nl1:Int))/\(il6+(nl1:Int))<nl5)/\∃a17,Al5=some a17/\(∃(cs18:List Value)(t19:Nat),B<=(a17.add (((il6+(nl1:Int))).toNat*1)).block/\(a17.add (((il6+(nl1:Int))).toNat*1)).spot=none/\w.heap[(a17.add (((il6+(nl1:Int))).toNat*1)).block]? =some (.cells cs18.toArray t19 (0,0))/\(a17.add (((il6+(nl1:Int))).toNat*1)).off+1<=cs18.length/\hasType t19 []=false/\∀w20,Wrote w w20 (a17.add (((il6+(nl1:Int))).toNat*1)).block t19 (setCells cs18 (a17.add (((il6+(nl1:Int))).toNat*1)).off [(.int .u32 (il8))])->(inR .i64 (il19+(1:Int))/\(natural_num_times.L3 Al1 nl1 cl1 Al5 nl5 cl5 Al17 nl17 cl17 il18 (il19+(1:Int)) B w20 R))))))))):
  natural_num_times.L7 Al1 nl1 cl1 Al5 nl5 cl5 il6 il7 il8 Al17 nl17 cl17 il18 il19 Al24 nl24 cl24 il25 il26 B w R:=
 loop_of_run (natural_num_times.cx w B R) 100000 (loopAt Tryz.f257 7) _ _ follows Tryz.func257 rfl rfl rfl (Eq.mp (by kernel_rfl) h)
theorem natural_num_times.vc(c:Option Addr)(a d:Nat)(e:Option Addr)(b f:Nat)(w:World)(R:Value->World->Prop)
  (h:(inR .i64 ((a:Int)+(b:Int))/\(RunOk P (Instr.makeSlice 259 (.int .i64 ((a:Int)+(b:Int))) (.int .i64 ((a:Int)+(b:Int)))) w.heap.size [] w fun l m=>∃g i j,l= .slice g i j/\(natural_num_times.L3 e b f g i j c a d (a:Int) (0:Int) w.heap.size m R)))):
  Pure P 257 #[.slice c a d,.slice e b f] w R:=
 pure_of_run (natural_num_times.cx w w.heap.size R) 100000 follows Tryz.func257 rfl rfl rfl rfl rfl rfl rfl (Eq.mp (by kernel_rfl) h)

noncomputable def natural_Add.cx(w:World)(B:Nat)(R:Value->World->Prop):Cx:=⟨Tryz.prog,258,25,Tryz.f258.results.toList,[],[],w,B,R⟩
theorem natural_Add.vc(b c:ByteArray)(w:World)(R:Value->World->Prop)
  (h:(Pure P 255 #[.string b,.string c] w fun o d=>∃e f g i j l a,o= .tuple #[.slice e f g,.slice i j l,.int .i64 a]/\(((a≠0)->(R (.tuple #[(.string ⟨#[]⟩),.int .i64 a]) d))/\(¬(a≠0)->(Pure P 256 #[(.func (.func 281) #[.slice e f g] #[]),.slice i j l] d fun p q=>∃m n,p= .tuple #[.string m,.int .i64 n]/\(R (.tuple #[.string m,.int .i64 n]) q)))))):
  Pure P 258 #[.string b,.string c] w R:=
 pure_of_run (natural_Add.cx w w.heap.size R) 100000 follows Tryz.func258 rfl rfl rfl rfl rfl rfl rfl (Eq.mp (by kernel_rfl) h)

noncomputable def natural_Compare.cx(w:World)(B:Nat)(R:Value->World->Prop):Cx:=⟨Tryz.prog,259,22,Tryz.f259.results.toList,[],[],w,B,R⟩
theorem natural_Compare.vc(b c:ByteArray)(w:World)(R:Value->World->Prop)
  (h:(Pure P 255 #[.string b,.string c] w fun n d=>∃e f g i j l a,n= .tuple #[.slice e f g,.slice i j l,.int .i64 a]/\(((a≠0)->(R (.tuple #[.int .i64 0,.int .i64 a]) d))/\(¬(a≠0)->(Pure P 282 #[.slice e f g,.slice i j l] d fun o p=>∃m,o= .int .i64 m/\(R (.tuple #[.int .i64 m,.int .i64 0]) p)))))):
  Pure P 259 #[.string b,.string c] w R:=
 pure_of_run (natural_Compare.cx w w.heap.size R) 100000 follows Tryz.func259 rfl rfl rfl rfl rfl rfl rfl (Eq.mp (by kernel_rfl) h)

noncomputable def natural_Sub.cx(w:World)(B:Nat)(R:Value->World->Prop):Cx:=⟨Tryz.prog,260,31,Tryz.f260.results.toList,[],[],w,B,R⟩
theorem natural_Sub.vc(j l:ByteArray)(w:World)(R:Value->World->Prop)
  (h:(Pure P 255 #[.string j,.string l] w fun q m=>∃b c d e f g a,q= .tuple #[.slice b c d,.slice e f g,.int .i64 a]/\(((a≠0)->(R (.tuple #[(.string ⟨#[]⟩),.int .i64 a]) m))/\(¬(a≠0)->(Pure P 282 #[.slice b c d,.slice e f g] m fun r n=>∃i,r= .int .i64 i/\(((i<0)->(R (.tuple #[(.string ⟨#[]⟩),.int .i64 2]) n))/\(¬(i<0)->(Pure P 256 #[(.func (.func 283) #[.slice b c d] #[]),.slice e f g] n fun s t=>∃o p,s= .tuple #[.string o,.int .i64 p]/\(R (.tuple #[.string o,.int .i64 p]) t))))))))):
  Pure P 260 #[.string j,.string l] w R:=
 pure_of_run (natural_Sub.cx w w.heap.size R) 100000 follows Tryz.func260 rfl rfl rfl rfl rfl rfl rfl (Eq.mp (by kernel_rfl) h)

def natural_num_gcd.L1(a:Option Addr)(b c:Nat)(d:Option Addr)(e f B:Nat)(w:World)(R:Value->World->Prop):Prop:=At Tryz.prog 264 45 (loopAt Tryz.f264 1) [(0,.v (.slice a b c)),(1,.v (.slice d e f))] [] B w R
def natural_num_gcd.L5(a b:Int)(B:Nat)(w:World)(R:Value->World->Prop):Prop:=At Tryz.prog 264 45 (loopAt Tryz.f264 5) [(5,.v (.int .u64 a)),(7,.v (.int .u64 b))] [] B w R
noncomputable def natural_num_gcd.cx(w:World)(B:Nat)(R:Value->World->Prop):Cx:=⟨Tryz.prog,264,45,Tryz.f264.results.toList,[((true,1),[0,1],[]),((true,5),[5,7],[])],[],w,B,R⟩
theorem natural_num_gcd.L1.step(d:Option Addr)(e f:Nat)(b:Option Addr)(a c B:Nat)(w:World)(R:Value->World->Prop)
  (h:((((a:Int)>0)->(Pure P 288 #[.slice d e f] w fun t u=>∃l g,t= .tuple #[.int .u64 l,.bool g]/\(Pure P 288 #[.slice b a c] u fun v i=>∃m j,v= .tuple #[.int .u64 m,.bool j]/\((g=true->((j=true->(natural_num_gcd.L5 l m B i R))/\(j=false->(Pure P 290 #[.slice d e f,.slice b a c] i fun x y=>∃z A C n o p,x= .tuple #[.slice z A C,.slice n o p]/\(natural_num_gcd.L1 b a c n o p B y R)))))/\(g=false->(Pure P 290 #[.slice d e f,.slice b a c] i fun D E=>∃G H I q r s,D= .tuple #[.slice G H I,.slice q r s]/\(natural_num_gcd.L1 b a c q r s B E R)))))))/\(¬((a:Int)>0)->(R (.slice d e f) w)))):
  natural_num_gcd.L1 d e f b a c B w R:=
 loop_of_run (natural_num_gcd.cx w B R) 100000 (loopAt Tryz.f264 1) _ _ follows Tryz.func264 rfl rfl rfl (Eq.mp (by kernel_rfl) h)
theorem natural_num_gcd.L5.step(b a:Int)(B:Nat)(w:World)(R:Value->World->Prop)
  (h:(((a>0)->((0<=b/\0<a)/\(∀c,Ext B [] w c->(natural_num_gcd.L5 a (b % a) B c R))))/\(¬(a>0)->(Pure P 289 #[.int .u64 b] w fun g i=>∃d e f,g= .slice d e f/\(R (.slice d e f) i))))):
  natural_num_gcd.L5 b a B w R:=
 loop_of_run (natural_num_gcd.cx w B R) 100000 (loopAt Tryz.f264 5) _ _ follows Tryz.func264 rfl rfl rfl (Eq.mp (by kernel_rfl) h)
theorem natural_num_gcd.vc(a:Option Addr)(b c:Nat)(d:Option Addr)(e f:Nat)(w:World)(R:Value->World->Prop)
  (h:(natural_num_gcd.L1 a b c d e f w.heap.size w R)):
  Pure P 264 #[.slice a b c,.slice d e f] w R:=
 pure_of_run (natural_num_gcd.cx w w.heap.size R) 100000 follows Tryz.func264 rfl rfl rfl rfl rfl rfl rfl (Eq.mp (by kernel_rfl) h)

def natural_read.L2(a:ByteArray)(b:Option Addr)(c d B:Nat)(w:World)(R:Value->World->Prop):Prop:=At Tryz.prog 278 31 (loopAt Tryz.f278 2) [(0,.v (.string a)),(3,.v (.slice b c d))] [] B w R
noncomputable def natural_read.cx(w:World)(B:Nat)(R:Value->World->Prop):Cx:=⟨Tryz.prog,278,31,Tryz.f278.results.toList,[((true,2),[0,3],[])],[(5,3,2),(5,4,2)],w,B,R⟩
theorem natural_read.L2.step(a:ByteArray)(b:Option Addr)(c d B:Nat)(w:World)(R:Value->World->Prop)
  (h:(((((ByteArray.size a:Int):Int)>0)->(inR .i64 ((ByteArray.size a:Int) - (9:Int))/\((0<=(if(0:Int)>((ByteArray.size a:Int) - (9:Int))then(0:Int)else((ByteArray.size a:Int) - (9:Int)))/\(if(0:Int)>((ByteArray.size a:Int) - (9:Int))then(0:Int)else((ByteArray.size a:Int) - (9:Int)))<=(ByteArray.size a:Int))/\(Pure P 299 #[(.string (ByteArray.extract a ((if(0:Int)>((ByteArray.size a:Int) - (9:Int))then(0:Int)else((ByteArray.size a:Int) - (9:Int)))).toNat (ByteArray.size a))),.int .i64 10,.int .i64 32] w fun q r=>∃(e:Int)(s:Value),q= .tuple #[.int .u64 e,s]/\(inR .u32 (e)/\(RunOk P (Instr.buildSlice 259 1 #[(0,(.int .u32 (e)))]) B [] r fun t u=>∃f g i,t= .slice f g i/\(RunOk P (Builtin.append_ #[259,259] 259 #[.slice b c d,.slice f g i]) B [] u fun v x=>∃j l m,v= .slice j l m/\((0<=(if(0:Int)>((ByteArray.size a:Int) - (9:Int))then(0:Int)else((ByteArray.size a:Int) - (9:Int)))/\(if(0:Int)>((ByteArray.size a:Int) - (9:Int))then(0:Int)else((ByteArray.size a:Int) - (9:Int)))<=(ByteArray.size a:Int))/\(natural_read.L2 (ByteArray.extract a 0 ((if(0:Int)>((ByteArray.size a:Int) - (9:Int))then(0:Int)else((ByteArray.size a:Int) - (9:Int)))).toNat) j l m B x R)))))))))/\(¬(((ByteArray.size a:Int):Int)>0)->(Pure P 280 #[.slice b c d] w fun y z=>∃n o p,y= .slice n o p/\(R (.slice n o p) z))))):
  natural_read.L2 a b c d B w R:=
 loop_of_run (natural_read.cx w B R) 100000 (loopAt Tryz.f278 2) _ _ follows Tryz.func278 rfl rfl rfl (Eq.mp (by kernel_rfl) h)
theorem natural_read.vc(a:ByteArray)(w:World)(R:Value->World->Prop)
  (h:(natural_read.L2 a none 0 0 w.heap.size w R)):
  Pure P 278 #[.string a] w R:=
 pure_of_run (natural_read.cx w w.heap.size R) 100000 follows Tryz.func278 rfl rfl rfl rfl rfl rfl rfl (Eq.mp (by kernel_rfl) h)

def natural_num_trim.L1(a:Option Addr)(b c B:Nat)(w:World)(R:Value->World->Prop):Prop:=At Tryz.prog 280 21 (loopAt Tryz.f280 1) [(0,.v (.slice a b c))] [] B w R
noncomputable def natural_num_trim.cx(w:World)(B:Nat)(R:Value->World->Prop):Cx:=⟨Tryz.prog,280,21,Tryz.f280.results.toList,[((true,1),[0],[])],[],w,B,R⟩
theorem natural_num_trim.L1.step(b:Option Addr)(a c B:Nat)(w:World)(R:Value->World->Prop)
  (h:((((a:Int)>0)->(inR .i64 ((a:Int) - (1:Int))/\((0<=((a:Int) - (1:Int))/\((a:Int) - (1:Int))<a)/\∃e,b=some e/\(∃d,CellsAt w (e.add ((((a:Int) - (1:Int))).toNat*1)) [.int .u32 d]/\(((d=0)->(inR .i64 ((a:Int) - (1:Int))/\((0<=((a:Int) - (1:Int))/\((a:Int) - (1:Int))<=(c:Int))/\(natural_num_trim.L1 b ((((a:Int) - (1:Int))).toNat) c B w R))))/\(¬(d=0)->(R (.slice b a c) w)))))))/\(¬((a:Int)>0)->(R (.slice b a c) w)))):
  natural_num_trim.L1 b a c B w R:=
 loop_of_run (natural_num_trim.cx w B R) 100000 (loopAt Tryz.f280 1) _ _ follows Tryz.func280 rfl rfl rfl (Eq.mp (by kernel_rfl) h)
theorem natural_num_trim.vc(a:Option Addr)(b c:Nat)(w:World)(R:Value->World->Prop)
  (h:(natural_num_trim.L1 a b c w.heap.size w R)):
  Pure P 280 #[.slice a b c] w R:=
 pure_of_run (natural_num_trim.cx w w.heap.size R) 100000 follows Tryz.func280 rfl rfl rfl rfl rfl rfl rfl (Eq.mp (by kernel_rfl) h)

noncomputable def natural_num_plus.cx(w:World)(B:Nat)(R:Value->World->Prop):Cx:=⟨Tryz.prog,281,8,Tryz.f281.results.toList,[],[],w,B,R⟩
theorem natural_num_plus.vc(a:Option Addr)(b c:Nat)(d:Option Addr)(e f:Nat)(w:World)(R:Value->World->Prop)
  (h:(Pure P 305 #[.slice a b c,.slice d e f,.int .i64 1] w fun l m=>∃g i j,l= .slice g i j/\(R (.slice g i j) m))):
  Pure P 281 #[.slice a b c,.slice d e f] w R:=
 pure_of_run (natural_num_plus.cx w w.heap.size R) 100000 follows Tryz.func281 rfl rfl rfl rfl rfl rfl rfl (Eq.mp (by kernel_rfl) h)

def natural_num_compare.L4(a:Option Addr)(b c:Nat)(d:Option Addr)(e f:Nat)(g:Int)(B:Nat)(w:World)(R:Value->World->Prop):Prop:=At Tryz.prog 282 41 (loopAt Tryz.f282 4) [(0,.v (.slice a b c)),(1,.v (.slice d e f)),(5,.v (.int .i64 g))] [] B w R
noncomputable def natural_num_compare.cx(w:World)(B:Nat)(R:Value->World->Prop):Cx:=⟨Tryz.prog,282,41,Tryz.f282.results.toList,[((true,4),[0,1,5],[])],[(7,9999,3)],w,B,R⟩
theorem natural_num_compare.L4.step(b:Option Addr)(c j:Nat)(d:Option Addr)(e l:Nat)(a:Int)(B:Nat)(w:World)(R:Value->World->Prop)
  (h:(((a≥(0:Int))->((0<=a/\a<c)/\∃m,b=some m/\(∃g,CellsAt w (m.add ((a).toNat*1)) [.int .u32 g]/\((0<=a/\a<e)/\∃n,d=some n/\(∃i,CellsAt w (n.add ((a).toNat*1)) [.int .u32 i]/\(((g≠i)->(∀f,Ext B [] w f->((0<=a/\a<c)/\∃o,b=some o/\(∃p,CellsAt f (o.add ((a).toNat*1)) [.int .u32 p]/\((0<=a/\a<e)/\∃q,d=some q/\(∃r,CellsAt f (q.add ((a).toNat*1)) [.int .u32 r]/\(∀s,Ext B [] f s->(Pure P 306 #[.int .u32 p,.int .u32 r] s fun v x=>∃t,v= .int .i64 t/\(R (.int .i64 t) x)))))))))/\(¬(g≠i)->(inR .i64 (a - (1:Int))/\(∀u,Ext B [] w u->(natural_num_compare.L4 b c j d e l (a - (1:Int)) B u R))))))))))/\(¬(a≥(0:Int))->(R (.int .i64 0) w)))):
  natural_num_compare.L4 b c j d e l a B w R:=
 loop_of_run (natural_num_compare.cx w B R) 100000 (loopAt Tryz.f282 4) _ _ follows Tryz.func282 rfl rfl rfl (Eq.mp (by kernel_rfl) h)
theorem natural_num_compare.vc(c:Option Addr)(a d:Nat)(e:Option Addr)(b f:Nat)(w:World)(R:Value->World->Prop)
  (h:((((a:Int)≠(b:Int))->(Pure P 45 #[(.int .i64 (a:Int)),(.int .i64 (b:Int))] w fun i j=>∃g,i= .int .i64 g/\(R (.int .i64 g) j)))/\(¬((a:Int)≠(b:Int))->(inR .i64 ((a:Int) - (1:Int))/\(natural_num_compare.L4 c a d e b f ((a:Int) - (1:Int)) w.heap.size w R))))):
  Pure P 282 #[.slice c a d,.slice e b f] w R:=
 pure_of_run (natural_num_compare.cx w w.heap.size R) 100000 follows Tryz.func282 rfl rfl rfl rfl rfl rfl rfl (Eq.mp (by kernel_rfl) h)

noncomputable def natural_num_minus.cx(w:World)(B:Nat)(R:Value->World->Prop):Cx:=⟨Tryz.prog,283,9,Tryz.f283.results.toList,[],[],w,B,R⟩
theorem natural_num_minus.vc(a:Option Addr)(b c:Nat)(d:Option Addr)(e f:Nat)(w:World)(R:Value->World->Prop)
  (h:(Pure P 305 #[.slice a b c,.slice d e f,(.int .i64 (-1:Int))] w fun o p=>∃g i j,o= .slice g i j/\(Pure P 280 #[.slice g i j] p fun q r=>∃l m n,q= .slice l m n/\(R (.slice l m n) r)))):
  Pure P 283 #[.slice a b c,.slice d e f] w R:=
 pure_of_run (natural_num_minus.cx w w.heap.size R) 100000 follows Tryz.func283 rfl rfl rfl rfl rfl rfl rfl (Eq.mp (by kernel_rfl) h)

noncomputable def natural_num_small.cx(w:World)(B:Nat)(R:Value->World->Prop):Cx:=⟨Tryz.prog,288,26,Tryz.f288.results.toList,[],[],w,B,R⟩
theorem natural_num_small.vc(c:Option Addr)(a l:Nat)(w:World)(R:Value->World->Prop)
  (h:((((a:Int)=0)->(R (.tuple #[(.int .u64 (0:Int)),.bool true]) w))/\(¬((a:Int)=0)->((((a:Int)=1)->((0<=(0:Int)/\(0:Int)<a)/\∃f,c=some f/\(∃e,CellsAt w (f.add (((0:Int)).toNat*1)) [.int .u32 e]/\(inR .u64 (e)/\(R (.tuple #[(.int .u64 (e)),.bool true]) w)))))/\(¬((a:Int)=1)->((((a:Int)=2)->((0<=(0:Int)/\(0:Int)<a)/\∃g,c=some g/\(∃d,CellsAt w (g.add (((0:Int)).toNat*1)) [.int .u32 d]/\(inR .u64 (d)/\((0<=(1:Int)/\(1:Int)<a)/\∃i,c=some i/\(∃b,CellsAt w (i.add (((1:Int)).toNat*1)) [.int .u32 b]/\(inR .u64 (b)/\(inR .u64 ((1000000000:Int)*(b))/\(inR .u64 ((d)+((1000000000:Int)*(b)))/\(∀j,Ext w.heap.size [] w j->(R (.tuple #[(.int .u64 ((d)+((1000000000:Int)*(b)))),.bool true]) j)))))))))))/\(¬((a:Int)=2)->(R (.tuple #[(.int .u64 (0:Int)),.bool false]) w)))))))):
  Pure P 288 #[.slice c a l] w R:=
 pure_of_run (natural_num_small.cx w w.heap.size R) 100000 follows Tryz.func288 rfl rfl rfl rfl rfl rfl rfl (Eq.mp (by kernel_rfl) h)

noncomputable def natural_of.cx(w:World)(B:Nat)(R:Value->World->Prop):Cx:=⟨Tryz.prog,289,11,Tryz.f289.results.toList,[],[(1,6,2)],w,B,R⟩
theorem natural_of.vc(ip0:Int)(w:World)(R:Value->World->Prop)
  (h:((0<=ip0/\0<(1000000000:Int))/\(inR .u32 ((ip0 % (1000000000:Int)))/\((0<=ip0/\0<(1000000000:Int)/\inR .u64 ip0)/\(inR .u32 ((ip0 / (1000000000:Int)))/\(RunOk Tryz.prog (Instr.buildSlice 259 2 #[(0,(.int .u32 ((ip0 % (1000000000:Int))))),(1,(.int .u32 ((ip0 / (1000000000:Int)))))]) w.heap.size [] w fun r2 w3=>∃(A1:Option Addr)(n1 c1:Nat),r2=(.slice A1 n1 c1)/\(Pure Tryz.prog 280 #[(.slice A1 n1 c1)] w3 fun r5 w6=>∃(A4:Option Addr)(n4 c4:Nat),r5=(.slice A4 n4 c4)/\(R (.slice A4 n4 c4) w6)))))))):
  Pure Tryz.prog 289 #[(.int .u64 ip0)] w R:=
 pure_of_run (natural_of.cx w w.heap.size R) 100000 follows Tryz.func289 rfl rfl rfl rfl rfl rfl rfl (Eq.mp (by kernel_rfl) h)

def natural_num_divide.J7(a:Option Addr)(b c:Nat)(d:Option Addr)(e f B:Nat)(w:World)(R:Value->World->Prop):Prop:=At Tryz.prog 290 299 (regionAt Tryz.f290 7) [(0,.v (.slice a b c)),(1,.v (.slice d e f))] [] B w R
def natural_num_divide.J13(a:Option Addr)(b c:Nat)(d:Option Addr)(e f:Nat)(g:Option Addr)(i j B:Nat)(w:World)(R:Value->World->Prop):Prop:=At Tryz.prog 290 299 (regionAt Tryz.f290 13) [(10,.v (.slice a b c)),(11,.v (.slice d e f)),(12,.v (.slice g i j))] [] B w R
def natural_num_divide.L16(a:Option Addr)(b c:Nat)(d:Option Addr)(e f:Nat)(g:Option Addr)(i j:Nat)(l:Int)(m:Option Addr)(n o:Nat)(p:Int)(B:Nat)(w:World)(R:Value->World->Prop):Prop:=At Tryz.prog 290 299 (loopAt Tryz.f290 16) [(10,.v (.slice a b c)),(11,.v (.slice d e f)),(12,.v (.slice g i j)),(13,.v (.int .i64 l)),(14,.v (.slice m n o)),(15,.v (.int .i64 p))] [] B w R
def natural_num_divide.L20(a:Option Addr)(b c:Nat)(d:Option Addr)(e f:Nat)(g:Option Addr)(i j:Nat)(l:Int)(m:Option Addr)(n o:Nat)(p q r:Int)(B:Nat)(w:World)(R:Value->World->Prop):Prop:=At Tryz.prog 290 299 (loopAt Tryz.f290 20) [(10,.v (.slice a b c)),(11,.v (.slice d e f)),(12,.v (.slice g i j)),(13,.v (.int .i64 l)),(14,.v (.slice m n o)),(15,.v (.int .i64 p)),(17,.v (.int .u64 q)),(18,.v (.int .u64 r))] [] B w R
def natural_num_divide.L26(a:Option Addr)(b c:Nat)(d:Option Addr)(e f:Nat)(g:Option Addr)(i j:Nat)(l:Int)(m:Option Addr)(n o:Nat)(p q r s t u:Int)(B:Nat)(w:World)(R:Value->World->Prop):Prop:=At Tryz.prog 290 299 (loopAt Tryz.f290 26) [(10,.v (.slice a b c)),(11,.v (.slice d e f)),(12,.v (.slice g i j)),(13,.v (.int .i64 l)),(14,.v (.slice m n o)),(15,.v (.int .i64 p)),(17,.v (.int .u64 q)),(19,.v (.int .i64 r)),(20,.v (.int .i64 s)),(180,.v (.int .i64 t)),(181,.v (.int .i64 u))] [] B w R
def natural_num_divide.L42(a:Option Addr)(b c:Nat)(d:Option Addr)(e f:Nat)(g:Option Addr)(i j:Nat)(l:Int)(m:Option Addr)(n o:Nat)(p q r s t u:Int)(B:Nat)(w:World)(R:Value->World->Prop):Prop:=At Tryz.prog 290 299 (loopAt Tryz.f290 42) [(10,.v (.slice a b c)),(11,.v (.slice d e f)),(12,.v (.slice g i j)),(13,.v (.int .i64 l)),(14,.v (.slice m n o)),(15,.v (.int .i64 p)),(17,.v (.int .u64 q)),(24,.v (.int .i64 r)),(25,.v (.int .u64 s)),(235,.v (.int .i64 t)),(236,.v (.int .i64 u))] [] B w R
def natural_num_divide.J49(a:Option Addr)(b c:Nat)(d:Option Addr)(e f:Nat)(g:Option Addr)(i j:Nat)(l:Int)(m:Option Addr)(n o:Nat)(p q r:Int)(B:Nat)(w:World)(R:Value->World->Prop):Prop:=At Tryz.prog 290 299 (regionAt Tryz.f290 49) [(10,.v (.slice a b c)),(11,.v (.slice d e f)),(12,.v (.slice g i j)),(13,.v (.int .i64 l)),(14,.v (.slice m n o)),(15,.v (.int .i64 p)),(17,.v (.int .u64 q)),(24,.v (.int .i64 r))] [] B w R
noncomputable def natural_num_divide.cx(w:World)(B:Nat)(R:Value->World->Prop):Cx:=⟨Tryz.prog,290,299,Tryz.f290.results.toList,[((true,16),[10,11,12,13,14,15],[]),((true,20),[10,11,12,13,14,15,17,18],[]),((true,26),[10,11,12,13,14,15,17,19,20,180,181],[]),((true,42),[10,11,12,13,14,15,17,24,25,235,236],[]),((false,7),[0,1],[]),((false,13),[10,11,12],[]),((false,49),[10,11,12,13,14,15,17,24],[])],[(10,3,2),(10,4,2),(12,1,2),(12,2,2),(14,4,2),(19,9999,3)],w,B,R⟩
theorem natural_num_divide.J7.step(j:Option Addr)(b l:Nat)(i:Option Addr)(a s B:Nat)(w:World)(R:Value->World->Prop)
  (h:((((a:Int)=1)->((0<=(0:Int)/\(0:Int)<a)/\∃t,i=some t/\(∃m,CellsAt w (t.add (((0:Int)).toNat*1)) [.int .u32 m]/\(inR .u64 (m)/\(Pure P 309 #[.slice j b l,(.int .u64 (m))] w fun T U=>∃u v x y z A,T= .tuple #[.slice u v x,.slice y z A]/\(R (.tuple #[.slice u v x,.slice y z A]) U))))))/\(¬((a:Int)=1)->(inR .i64 ((a:Int) - (1:Int))/\((0<=((a:Int) - (1:Int))/\((a:Int) - (1:Int))<a)/\∃C,i=some C/\(∃c,CellsAt w (C.add ((((a:Int) - (1:Int))).toNat*1)) [.int .u32 c]/\(inR .u64 (c)/\(inR .u64 ((c)+1)/\((0<=(1000000000:Int)/\0<((c)+1)/\inR .u64 (1000000000:Int))/\(Pure P 289 #[(.int .u64 ((1000000000:Int) / ((c)+1)))] w fun V X=>∃d e f,V= .slice d e f/\(Pure P 257 #[.slice j b l,.slice d e f] X fun Y Z=>∃D E G,Y= .slice D E G/\(RunOk P (Instr.buildSlice 259 1 #[(0,(.int .u32 (0:Int)))]) B [] Z fun a0 a1=>∃H I J,a0= .slice H I J/\(RunOk P (Builtin.append_ #[259,259] 259 #[.slice D E G,.slice H I J]) B [] a1 fun a2 a3=>∃n g o,a2= .slice n g o/\(Pure P 257 #[.slice i a s,.slice d e f] a3 fun a4 K=>∃p q r,a4= .slice p q r/\((((g:Int)=(b:Int))->(RunOk P (Instr.buildSlice 259 1 #[(0,(.int .u32 (0:Int)))]) B [] K fun a5 a6=>∃L M N,a5= .slice L M N/\(RunOk P (Builtin.append_ #[259,259] 259 #[.slice n g o,.slice L M N]) B [] a6 fun a7 a8=>∃O Q S,a7= .slice O Q S/\(natural_num_divide.J13 d e f O Q S p q r B a8 R))))/\(¬((g:Int)=(b:Int))->(natural_num_divide.J13 d e f n g o p q r B K R))))))))))))))))):
  natural_num_divide.J7 j b l i a s B w R:=
 join_of_run (natural_num_divide.cx w B R) 100000 (regionAt Tryz.f290 7) _ _ follows Tryz.func290 rfl rfl rfl (Eq.mp (by kernel_rfl) h)
theorem natural_num_divide.J13.step(d:Option Addr)(e f:Nat)(g:Option Addr)(b i:Nat)(j:Option Addr)(a l B:Nat)(w:World)(R:Value->World->Prop)
  (h:(inR .i64 ((b:Int) - (a:Int))/\(RunOk P (Instr.makeSlice 259 (.int .i64 ((b:Int) - (a:Int))) (.int .i64 ((b:Int) - (a:Int)))) B [] w fun o p=>∃m c n,o= .slice m c n/\(inR .i64 ((c:Int) - (1:Int))/\(natural_num_divide.L16 d e f g b i j a l (a:Int) m c n ((c:Int) - (1:Int)) B p R))))):
  natural_num_divide.J13 d e f g b i j a l B w R:=
 join_of_run (natural_num_divide.cx w B R) 100000 (regionAt Tryz.f290 13) _ _ follows Tryz.func290 rfl rfl rfl (Eq.mp (by kernel_rfl) h)
theorem natural_num_divide.L16.step(o:Option Addr)(p q:Nat)(e:Option Addr)(f g:Nat)(i:Option Addr)(j u:Nat)(a:Int)(r:Option Addr)(s t:Nat)(b:Int)(B:Nat)(w:World)(R:Value->World->Prop)
  (h:(((b≥(0:Int))->(inR .i64 (b+a)/\((0<=(b+a)/\(b+a)<f)/\∃v,e=some v/\(∃c,CellsAt w (v.add (((b+a)).toNat*1)) [.int .u32 c]/\(inR .u64 (c)/\(inR .u64 ((c)*(1000000000:Int))/\(inR .i64 (b+a)/\(inR .i64 ((b+a) - (1:Int))/\((0<=((b+a) - (1:Int))/\((b+a) - (1:Int))<f)/\∃x,e=some x/\(∃d,CellsAt w (x.add ((((b+a) - (1:Int))).toNat*1)) [.int .u32 d]/\(inR .u64 (d)/\(inR .u64 (((c)*(1000000000:Int))+(d))/\(∀l,Ext B [] w l->(inR .i64 (a - (1:Int))/\((0<=(a - (1:Int))/\(a - (1:Int))<j)/\∃y,i=some y/\(∃m,CellsAt l (y.add (((a - (1:Int))).toNat*1)) [.int .u32 m]/\(inR .u64 (m)/\((0<=(((c)*(1000000000:Int))+(d))/\0<(m)/\inR .u64 (((c)*(1000000000:Int))+(d)))/\(inR .i64 (a - (1:Int))/\((0<=(a - (1:Int))/\(a - (1:Int))<j)/\∃z,i=some z/\(∃n,CellsAt l (z.add (((a - (1:Int))).toNat*1)) [.int .u32 n]/\(inR .u64 (n)/\((0<=(((c)*(1000000000:Int))+(d))/\0<(n))/\(∀A,Ext B [] l A->(natural_num_divide.L20 o p q e f g i j u a r s t b ((((c)*(1000000000:Int))+(d)) / (m)) ((((c)*(1000000000:Int))+(d)) % (n)) B A R)))))))))))))))))))))))))/\(¬(b≥(0:Int))->(Pure P 288 #[.slice o p q] w fun N O=>∃C Q,N= .tuple #[.int .u64 C,.bool Q]/\((0<=a/\a<=(g:Int))/\(Pure P 280 #[(.slice e ((a).toNat) g)] O fun S T=>∃D E G,S= .slice D E G/\(Pure P 309 #[.slice D E G,.int .u64 C] T fun U V=>∃H I J X Y Z,U= .tuple #[.slice H I J,.slice X Y Z]/\(Pure P 280 #[.slice r s t] V fun a0 a1=>∃K L M,a0= .slice K L M/\(R (.tuple #[.slice K L M,.slice H I J]) a1))))))))):
  natural_num_divide.L16 o p q e f g i j u a r s t b B w R:=
 loop_of_run (natural_num_divide.cx w B R) 100000 (loopAt Tryz.f290 16) _ _ follows Tryz.func290 rfl rfl rfl (Eq.mp (by kernel_rfl) h)
theorem natural_num_divide.L20.step(j:Option Addr)(l m:Nat)(g:Option Addr)(i n:Nat)(e:Option Addr)(f o:Nat)(a:Int)(p:Option Addr)(q r:Nat)(d b c:Int)(B:Nat)(w:World)(R:Value->World->Prop)
  (h:(((b≥(1000000000:Int))->(inR .u64 (b - (1:Int))/\(inR .i64 (a - (1:Int))/\((0<=(a - (1:Int))/\(a - (1:Int))<f)/\∃z,e=some z/\(∀x,Ext B [] w x->(∃s,CellsAt x (z.add (((a - (1:Int))).toNat*1)) [.int .u32 s]/\(inR .u64 (s)/\(inR .u64 (c+(s))/\(((((c+(s)):Int)≥(1000000000:Int))->(natural_num_divide.L26 j l m g i n e f o a p q r d (b - (1:Int)) (0:Int) (0:Int) a (0:Int) B x R))/\(¬(((c+(s)):Int)≥(1000000000:Int))->(natural_num_divide.L20 j l m g i n e f o a p q r d (b - (1:Int)) (c+(s)) B x R)))))))))))/\(¬(b≥(1000000000:Int))->(inR .i64 (a - (2:Int))/\((0<=(a - (2:Int))/\(a - (2:Int))<f)/\∃A,e=some A/\(∃u,CellsAt w (A.add (((a - (2:Int))).toNat*1)) [.int .u32 u]/\(inR .u64 (u)/\(inR .u64 (b*(u))/\(inR .u64 (c*(1000000000:Int))/\(inR .i64 (d+a)/\(inR .i64 ((d+a) - (2:Int))/\((0<=((d+a) - (2:Int))/\((d+a) - (2:Int))<i)/\∃C,g=some C/\(∃v,CellsAt w (C.add ((((d+a) - (2:Int))).toNat*1)) [.int .u32 v]/\(inR .u64 (v)/\(inR .u64 ((c*(1000000000:Int))+(v))/\(((((b*(u)):Int)>((c*(1000000000:Int))+(v)))->(inR .u64 (b - (1:Int))/\(inR .i64 (a - (1:Int))/\((0<=(a - (1:Int))/\(a - (1:Int))<f)/\∃D,e=some D/\(∀y,Ext B [] w y->(∃t,CellsAt y (D.add (((a - (1:Int))).toNat*1)) [.int .u32 t]/\(inR .u64 (t)/\(inR .u64 (c+(t))/\(((((c+(t)):Int)≥(1000000000:Int))->(natural_num_divide.L26 j l m g i n e f o a p q r d (b - (1:Int)) (0:Int) (0:Int) a (0:Int) B y R))/\(¬(((c+(t)):Int)≥(1000000000:Int))->(natural_num_divide.L20 j l m g i n e f o a p q r d (b - (1:Int)) (c+(t)) B y R)))))))))))/\(¬(((b*(u)):Int)>((c*(1000000000:Int))+(v)))->(∀E,Ext B [] w E->(natural_num_divide.L26 j l m g i n e f o a p q r d b (0:Int) (0:Int) a (0:Int) B E R))))))))))))))))))):
  natural_num_divide.L20 j l m g i n e f o a p q r d b c B w R:=
 loop_of_run (natural_num_divide.cx w B R) 100000 (loopAt Tryz.f290 20) _ _ follows Tryz.func290 rfl rfl rfl (Eq.mp (by kernel_rfl) h)
theorem natural_num_divide.L26.step(Al10:Option Addr)(nl10 cl10:Nat)(Al11:Option Addr)(nl11 cl11:Nat)(Al12:Option Addr)(nl12 cl12:Nat)(il13:Int)(Al14:Option Addr)(nl14 cl14:Nat)(il15:Int)(il17:Int)(il19:Int)(il20:Int)(il180:Int)(il181:Int)(B:Nat)(w:World)(R:Value->World->Prop)
  (h:((((il181:Int)<il180)->(inR .i64 (il17)/\((0<=il181/\il181<nl12)/\∃a86,Al12=some a86/\(∃(i87:Int),CellsAt w (a86.add ((il181).toNat*1)) [(.int .u32 i87)]/\(inR .i64 (i87)/\(inR .i64 ((il17)*(i87))/\(inR .i64 (((il17)*(i87))+il19)/\((0<=(((il17)*(i87))+il19)/\0<(1000000000:Int)/\inR .i64 (((il17)*(i87))+il19))/\(inR .i64 (il181+il15)/\((0<=(il181+il15)/\(il181+il15)<nl11)/\∃a88,Al11=some a88/\(∃(i89:Int),CellsAt w (a88.add (((il181+il15)).toNat*1)) [(.int .u32 i89)]/\(inR .i64 (i89)/\((0<=(((il17)*(i87))+il19)/\0<(1000000000:Int))/\(inR .i64 ((i89) - ((((il17)*(i87))+il19) % (1000000000:Int)))/\(inR .i64 (((i89) - ((((il17)*(i87))+il19) % (1000000000:Int))) - il20)/\(((((((i89) - ((((il17)*(i87))+il19) % (1000000000:Int))) - il20):Int)<(0:Int))->(inR .i64 ((((i89) - ((((il17)*(i87))+il19) % (1000000000:Int))) - il20)+(1000000000:Int))/\(inR .i64 (il181+il15)/\(inR .u32 (((((i89) - ((((il17)*(i87))+il19) % (1000000000:Int))) - il20)+(1000000000:Int)))/\((0<=(il181+il15)/\(il181+il15)<nl11)/\∃a90,Al11=some a90/\(∃(cs91:List Value)(t92:Nat),B<=(a90.add (((il181+il15)).toNat*1)).block/\(a90.add (((il181+il15)).toNat*1)).spot=none/\w.heap[(a90.add (((il181+il15)).toNat*1)).block]? =some (.cells cs91.toArray t92 (0,0))/\(a90.add (((il181+il15)).toNat*1)).off+1<=cs91.length/\hasType t92 []=false/\∀w93,Wrote w w93 (a90.add (((il181+il15)).toNat*1)).block t92 (setCells cs91 (a90.add (((il181+il15)).toNat*1)).off [(.int .u32 (((((i89) - ((((il17)*(i87))+il19) % (1000000000:Int))) - il20)+(1000000000:Int))))])->(inR .i64 (il181+(1:Int))/\(natural_num_divide.L26 Al10 nl10 cl10 Al11 nl11 cl11 Al12 nl12 cl12 il13 Al14 nl14 cl14 il15 il17 ((((il17)*(i87))+il19) / (1000000000:Int)) (1:Int) il180 (il181+(1:Int)) B w93 R))))))))/\(¬(((((i89) - ((((il17)*(i87))+il19) % (1000000000:Int))) - il20):Int)<(0:Int))->(inR .i64 (il181+il15)/\(inR .u32 ((((i89) - ((((il17)*(i87))+il19) % (1000000000:Int))) - il20))/\((0<=(il181+il15)/\(il181+il15)<nl11)/\∃a94,Al11=some a94/\(∃(cs95:List Value)(t96:Nat),B<=(a94.add (((il181+il15)).toNat*1)).block/\(a94.add (((il181+il15)).toNat*1)).spot=none/\w.heap[(a94.add (((il181+il15)).toNat*1)).block]? =some (.cells cs95.toArray t96 (0,0))/\(a94.add (((il181+il15)).toNat*1)).off+1<=cs95.length/\hasType t96 []=false/\∀w97,Wrote w w97 (a94.add (((il181+il15)).toNat*1)).block t96 (setCells cs95 (a94.add (((il181+il15)).toNat*1)).off [(.int .u32 ((((i89) - ((((il17)*(i87))+il19) % (1000000000:Int))) - il20)))])->(inR .i64 (il181+(1:Int))/\(natural_num_divide.L26 Al10 nl10 cl10 Al11 nl11 cl11 Al12 nl12 cl12 il13 Al14 nl14 cl14 il15 il17 ((((il17)*(i87))+il19) / (1000000000:Int)) (0:Int) il180 (il181+(1:Int)) B w97 R)))))))))))))))))))))))/\(¬((il181:Int)<il180)->(inR .i64 (il15+il13)/\((0<=(il15+il13)/\(il15+il13)<nl11)/\∃a98,Al11=some a98/\(∃(i99:Int),CellsAt w (a98.add (((il15+il13)).toNat*1)) [(.int .u32 i99)]/\(inR .i64 (i99)/\(inR .i64 ((i99) - il19)/\(inR .i64 (((i99) - il19) - il20)/\(((((((i99) - il19) - il20):Int)<(0:Int))->(inR .u64 (il17 - (1:Int))/\(natural_num_divide.L42 Al10 nl10 cl10 Al11 nl11 cl11 Al12 nl12 cl12 il13 Al14 nl14 cl14 il15 (il17 - (1:Int)) (((i99) - il19) - il20) (0:Int) il13 (0:Int) B w R)))/\(¬(((((i99) - il19) - il20):Int)<(0:Int))->(natural_num_divide.J49 Al10 nl10 cl10 Al11 nl11 cl11 Al12 nl12 cl12 il13 Al14 nl14 cl14 il15 il17 (((i99) - il19) - il20) B w R)))))))))))):
  natural_num_divide.L26 Al10 nl10 cl10 Al11 nl11 cl11 Al12 nl12 cl12 il13 Al14 nl14 cl14 il15 il17 il19 il20 il180 il181 B w R:=
 loop_of_run (natural_num_divide.cx w B R) 100000 (loopAt Tryz.f290 26) _ _ follows Tryz.func290 rfl rfl rfl (Eq.mp (by kernel_rfl) h)
theorem natural_num_divide.L42.step(Al10:Option Addr)(nl10 cl10:Nat)(Al11:Option Addr)(nl11 cl11:Nat)(Al12:Option Addr)(nl12 cl12:Nat)(il13:Int)(Al14:Option Addr)(nl14 cl14:Nat)(il15:Int)(il17:Int)(il24:Int)(il25:Int)(il235:Int)(il236:Int)(B:Nat)(w:World)(R:Value->World->Prop)
  (h:((((il236:Int)<il235)->(inR .i64 (il236+il15)/\((0<=(il236+il15)/\(il236+il15)<nl11)/\∃a100,Al11=some a100/\(∃(i101:Int),CellsAt w (a100.add (((il236+il15)).toNat*1)) [(.int .u32 i101)]/\(inR .u64 (i101)/\((0<=il236/\il236<nl12)/\∃a102,Al12=some a102/\(∃(i103:Int),CellsAt w (a102.add ((il236).toNat*1)) [(.int .u32 i103)]/\(inR .u64 (i103)/\(inR .u64 ((i101)+(i103))/\(inR .u64 (il25+((i101)+(i103)))/\(inR .i64 (il236+il15)/\((0<=(il25+((i101)+(i103)))/\0<(1000000000:Int))/\(inR .u32 (((il25+((i101)+(i103))) % (1000000000:Int)))/\((0<=(il236+il15)/\(il236+il15)<nl11)/\∃a104,Al11=some a104/\(∀w105,Ext B [] w w105->(∃(cs106:List Value)(t107:Nat),B<=(a104.add (((il236+il15)).toNat*1)).block/\(a104.add (((il236+il15)).toNat*1)).spot=none/\w105.heap[(a104.add (((il236+il15)).toNat*1)).block]? =some (.cells cs106.toArray t107 (0,0))/\(a104.add (((il236+il15)).toNat*1)).off+1<=cs106.length/\hasType t107 []=false/\∀w108,Wrote w105 w108 (a104.add (((il236+il15)).toNat*1)).block t107 (setCells cs106 (a104.add (((il236+il15)).toNat*1)).off [(.int .u32 (((il25+((i101)+(i103))) % (1000000000:Int))))])->((0<=(il25+((i101)+(i103)))/\0<(1000000000:Int)/\inR .u64 (il25+((i101)+(i103))))/\(inR .i64 (il236+(1:Int))/\(natural_num_divide.L42 Al10 nl10 cl10 Al11 nl11 cl11 Al12 nl12 cl12 il13 Al14 nl14 cl14 il15 il17 il24 ((il25+((i101)+(i103))) / (1000000000:Int)) il235 (il236+(1:Int)) B w108 R)))))))))))))))))))/\(¬((il236:Int)<il235)->(inR .i64 (il25)/\(inR .i64 (il24+(il25))/\(natural_num_divide.J49 Al10 nl10 cl10 Al11 nl11 cl11 Al12 nl12 cl12 il13 Al14 nl14 cl14 il15 il17 (il24+(il25)) B w R)))))):
  natural_num_divide.L42 Al10 nl10 cl10 Al11 nl11 cl11 Al12 nl12 cl12 il13 Al14 nl14 cl14 il15 il17 il24 il25 il235 il236 B w R:=
 loop_of_run (natural_num_divide.cx w B R) 100000 (loopAt Tryz.f290 42) _ _ follows Tryz.func290 rfl rfl rfl (Eq.mp (by kernel_rfl) h)
theorem natural_num_divide.J49.step(r:Option Addr)(s t:Nat)(f:Option Addr)(g u:Nat)(v:Option Addr)(x y:Nat)(b:Int)(i:Option Addr)(j z:Nat)(a l e:Int)(B:Nat)(w:World)(R:Value->World->Prop)
  (h:(inR .i64 (a+b)/\(inR .u32 ((if(0:Int)>e then(0:Int)else e))/\((0<=(a+b)/\(a+b)<g)/\∃c,f=some c/\(∃(m:List Value)(n:Nat),B<=(c.add (((a+b)).toNat*1)).block/\(c.add (((a+b)).toNat*1)).spot=none/\w.heap[(c.add (((a+b)).toNat*1)).block]? =some (.cells m.toArray n (0,0))/\(c.add (((a+b)).toNat*1)).off+1<=m.length/\hasType n []=false/\∀o,Wrote w o (c.add (((a+b)).toNat*1)).block n (setCells m (c.add (((a+b)).toNat*1)).off [(.int .u32 ((if(0:Int)>e then(0:Int)else e)))])->(inR .u32 (l)/\((0<=a/\a<j)/\∃d,i=some d/\(∃(p:List Value)(q:Nat),B<=(d.add ((a).toNat*1)).block/\(d.add ((a).toNat*1)).spot=none/\o.heap[(d.add ((a).toNat*1)).block]? =some (.cells p.toArray q (0,0))/\(d.add ((a).toNat*1)).off+1<=p.length/\hasType q []=false/\∀A,Wrote o A (d.add ((a).toNat*1)).block q (setCells p (d.add ((a).toNat*1)).off [(.int .u32 (l))])->(inR .i64 (a - (1:Int))/\(natural_num_divide.L16 r s t f g u v x y b i j z (a - (1:Int)) B A R)))))))))):
  natural_num_divide.J49 r s t f g u v x y b i j z a l e B w R:=
 join_of_run (natural_num_divide.cx w B R) 100000 (regionAt Tryz.f290 49) _ _ follows Tryz.func290 rfl rfl rfl (Eq.mp (by kernel_rfl) h)
theorem natural_num_divide.vc(a:Option Addr)(b c:Nat)(e:Option Addr)(f g:Nat)(w:World)(R:Value->World->Prop)
  (h:(Pure P 282 #[.slice a b c,.slice e f g] w fun x o=>∃j,x= .int .i64 j/\(((j<0)->(R (.tuple #[.slice none 0 0,.slice a b c]) o))/\(¬(j<0)->(Pure P 288 #[.slice a b c] o fun y z=>∃d l,y= .tuple #[.int .u64 d,.bool l]/\(Pure P 288 #[.slice e f g] z fun A m=>∃i n,A= .tuple #[.int .u64 i,.bool n]/\((l=true->((n=true->((0<=d/\0<i/\inR .u64 d)/\((0<=d/\0<i)/\(∀p,Ext w.heap.size [] m p->(Pure P 289 #[(.int .u64 (d / i))] p fun C D=>∃q r s,C= .slice q r s/\(Pure P 289 #[(.int .u64 (d % i))] D fun E G=>∃t u v,E= .slice t u v/\(R (.tuple #[.slice q r s,.slice t u v]) G)))))))/\(n=false->(natural_num_divide.J7 a b c e f g w.heap.size m R))))/\(l=false->(natural_num_divide.J7 a b c e f g w.heap.size m R))))))))):
  Pure P 290 #[.slice a b c,.slice e f g] w R:=
 pure_of_run (natural_num_divide.cx w w.heap.size R) 100000 follows Tryz.func290 rfl rfl rfl rfl rfl rfl rfl (Eq.mp (by kernel_rfl) h)

def natural_merge_uint32_natural_num.L4(a:Option Addr)(b c:Nat)(d:Option Addr)(e f:Nat)(g:Int)(i:Option Addr)(j l:Nat)(m n o:Int)(B:Nat)(w:World)(R:Value->World->Prop):Prop:=At Tryz.prog 305 71 (loopAt Tryz.f305 4) [(0,.v (.slice a b c)),(1,.v (.slice d e f)),(2,.v (.int .i64 g)),(7,.v (.slice i j l)),(8,.v (.int .i64 m)),(19,.v (.int .i64 n)),(20,.v (.int .i64 o))] [] B w R
def natural_merge_uint32_natural_num.J8(a:Option Addr)(b c:Nat)(d:Option Addr)(e f:Nat)(g:Int)(i:Option Addr)(j l:Nat)(m n o p:Int)(B:Nat)(w:World)(R:Value->World->Prop):Prop:=At Tryz.prog 305 71 (regionAt Tryz.f305 8) [(0,.v (.slice a b c)),(1,.v (.slice d e f)),(2,.v (.int .i64 g)),(7,.v (.slice i j l)),(8,.v (.int .i64 m)),(9,.v (.int .i64 n)),(19,.v (.int .i64 o)),(20,.v (.int .i64 p))] [] B w R
def natural_merge_uint32_natural_num.J10(a:Option Addr)(b c:Nat)(d:Option Addr)(e f:Nat)(g:Int)(i:Option Addr)(j l:Nat)(m n o:Int)(B:Nat)(w:World)(R:Value->World->Prop):Prop:=At Tryz.prog 305 71 (regionAt Tryz.f305 10) [(0,.v (.slice a b c)),(1,.v (.slice d e f)),(2,.v (.int .i64 g)),(7,.v (.slice i j l)),(8,.v (.int .i64 m)),(19,.v (.int .i64 n)),(20,.v (.int .i64 o))] [] B w R
noncomputable def natural_merge_uint32_natural_num.cx(w:World)(B:Nat)(R:Value->World->Prop):Cx:=⟨Tryz.prog,305,71,Tryz.f305.results.toList,[((true,4),[0,1,2,7,8,19,20],[]),((false,8),[0,1,2,7,8,9,19,20],[]),((false,10),[0,1,2,7,8,19,20],[])],[(1,3,2),(10,1,1),(11,1,1),(15,3,2),(15,4,2),(18,3,2),(18,4,2)],w,B,R⟩
theorem natural_merge_uint32_natural_num.L4.step(i:Option Addr)(c l:Nat)(m:Option Addr)(n o:Nat)(p:Int)(d:Option Addr)(e f:Nat)(b g a:Int)(B:Nat)(w:World)(R:Value->World->Prop)
  (h:(((a<g)->(((a<(c:Int))->((0<=a/\a<c)/\∃q,i=some q/\(∃j,CellsAt w (q.add ((a).toNat*1)) [.int .u32 j]/\(inR .i64 (j)/\(inR .i64 (b+(j))/\(natural_merge_uint32_natural_num.J8 i c l m n o p d e f (b+(j)) a g a B w R))))))/\(¬(a<(c:Int))->(natural_merge_uint32_natural_num.J8 i c l m n o p d e f b a g a B w R))))/\(¬(a<g)->(((b>0)->(inR .u32 (b)/\(RunOk P (Instr.buildSlice 259 1 #[(0,(.int .u32 (b)))]) B [] w fun y z=>∃r s t,y= .slice r s t/\(RunOk P (Builtin.append_ #[259,259] 259 #[.slice d e f,.slice r s t]) B [] z fun A C=>∃u v x,A= .slice u v x/\(R (.slice u v x) C)))))/\(¬(b>0)->(R (.slice d e f) w)))))):
  natural_merge_uint32_natural_num.L4 i c l m n o p d e f b g a B w R:=
 loop_of_run (natural_merge_uint32_natural_num.cx w B R) 100000 (loopAt Tryz.f305 4) _ _ follows Tryz.func305 rfl rfl rfl (Eq.mp (by kernel_rfl) h)
theorem natural_merge_uint32_natural_num.J8.step(g:Option Addr)(i j:Nat)(e:Option Addr)(a l:Nat)(b:Int)(m:Option Addr)(n o:Nat)(f c p q:Int)(B:Nat)(w:World)(R:Value->World->Prop)
  (h:(((c<(a:Int))->((0<=c/\c<a)/\∃r,e=some r/\(∃d,CellsAt w (r.add ((c).toNat*1)) [.int .u32 d]/\(inR .i64 (d)/\(inR .i64 (b*(d))/\(inR .i64 (f+(b*(d)))/\(natural_merge_uint32_natural_num.J10 g i j e a l b m n o (f+(b*(d))) p q B w R)))))))/\(¬(c<(a:Int))->(natural_merge_uint32_natural_num.J10 g i j e a l b m n o f p q B w R)))):
  natural_merge_uint32_natural_num.J8 g i j e a l b m n o f c p q B w R:=
 join_of_run (natural_merge_uint32_natural_num.cx w B R) 100000 (regionAt Tryz.f305 8) _ _ follows Tryz.func305 rfl rfl rfl (Eq.mp (by kernel_rfl) h)
theorem natural_merge_uint32_natural_num.J10.step(c:Option Addr)(d e:Nat)(f:Option Addr)(g i:Nat)(j:Int)(l:Option Addr)(m n:Nat)(a o b:Int)(B:Nat)(w:World)(R:Value->World->Prop)
  (h:((1000000000:Int)≠0/\((1000000000:Int)≠0/\(((((Int.tmod a (1000000000:Int)):Int)<0)->(inR .i64 ((Int.tmod a (1000000000:Int))+1000000000)/\(inR .i64 ((IntKind.wrap .i64 (Int.tdiv a (1000000000:Int))) - (1:Int))/\(inR .u32 (((Int.tmod a (1000000000:Int))+1000000000))/\(RunOk P (Instr.buildSlice 259 1 #[(0,(.int .u32 (((Int.tmod a (1000000000:Int))+1000000000))))]) B [] w fun D E=>∃p q r,D= .slice p q r/\(RunOk P (Builtin.append_ #[259,259] 259 #[.slice l m n,.slice p q r]) B [] E fun G H=>∃s t u,G= .slice s t u/\(inR .i64 (b+1)/\(natural_merge_uint32_natural_num.L4 c d e f g i j s t u ((IntKind.wrap .i64 (Int.tdiv a (1000000000:Int))) - (1:Int)) o (b+1) B H R))))))))/\(¬(((Int.tmod a (1000000000:Int)):Int)<0)->(inR .u32 ((Int.tmod a (1000000000:Int)))/\(RunOk P (Instr.buildSlice 259 1 #[(0,(.int .u32 ((Int.tmod a (1000000000:Int)))))]) B [] w fun I J=>∃v x y,I= .slice v x y/\(RunOk P (Builtin.append_ #[259,259] 259 #[.slice l m n,.slice v x y]) B [] J fun K L=>∃z A C,K= .slice z A C/\(inR .i64 (b+1)/\(natural_merge_uint32_natural_num.L4 c d e f g i j z A C (IntKind.wrap .i64 (Int.tdiv a (1000000000:Int))) o (b+1) B L R)))))))))):
  natural_merge_uint32_natural_num.J10 c d e f g i j l m n a o b B w R:=
 join_of_run (natural_merge_uint32_natural_num.cx w B R) 100000 (regionAt Tryz.f305 10) _ _ follows Tryz.func305 rfl rfl rfl (Eq.mp (by kernel_rfl) h)
theorem natural_merge_uint32_natural_num.vc(c:Option Addr)(a d:Nat)(e:Option Addr)(b f:Nat)(g:Int)(w:World)(R:Value->World->Prop)
  (h:(inR .i64 ((a:Int)+1)/\(RunOk P (Instr.makeSlice 259 (.int .i64 0) (.int .i64 ((a:Int)+1))) w.heap.size [] w fun m n=>∃i j l,m= .slice i j l/\(natural_merge_uint32_natural_num.L4 c a d e b f g i j l (0:Int) (if(b:Int)>(a:Int)then(b:Int)else(a:Int)) (0:Int) w.heap.size n R)))):
  Pure P 305 #[.slice c a d,.slice e b f,.int .i64 g] w R:=
 pure_of_run (natural_merge_uint32_natural_num.cx w w.heap.size R) 100000 follows Tryz.func305 rfl rfl rfl rfl rfl rfl rfl (Eq.mp (by kernel_rfl) h)

def natural_num_by.L4(a:Option Addr)(b c:Nat)(d:Int)(e:Option Addr)(f g:Nat)(i j:Int)(B:Nat)(w:World)(R:Value->World->Prop):Prop:=At Tryz.prog 309 41 (loopAt Tryz.f309 4) [(0,.v (.slice a b c)),(1,.v (.int .u64 d)),(6,.v (.slice e f g)),(7,.v (.int .u64 i)),(8,.v (.int .i64 j))] [] B w R
noncomputable def natural_num_by.cx(w:World)(B:Nat)(R:Value->World->Prop):Cx:=⟨Tryz.prog,309,41,Tryz.f309.results.toList,[((true,4),[0,1,6,7,8],[])],[(1,2,2)],w,B,R⟩
theorem natural_num_by.L4.step(i:Option Addr)(j o:Nat)(d:Int)(f:Option Addr)(g l:Nat)(b a:Int)(B:Nat)(w:World)(R:Value->World->Prop)
  (h:(((a≥(0:Int))->(inR .u64 (b*(1000000000:Int))/\((0<=a/\a<j)/\∃p,i=some p/\(∃c,CellsAt w (p.add ((a).toNat*1)) [.int .u32 c]/\(inR .u64 (c)/\(inR .u64 ((b*(1000000000:Int))+(c))/\((0<=((b*(1000000000:Int))+(c))/\0<d/\inR .u64 ((b*(1000000000:Int))+(c)))/\(inR .u32 ((((b*(1000000000:Int))+(c)) / d))/\((0<=a/\a<g)/\∃e,f=some e/\(∃(m:List Value)(n:Nat),B<=(e.add ((a).toNat*1)).block/\(e.add ((a).toNat*1)).spot=none/\w.heap[(e.add ((a).toNat*1)).block]? =some (.cells m.toArray n (0,0))/\(e.add ((a).toNat*1)).off+1<=m.length/\hasType n []=false/\∀q,Wrote w q (e.add ((a).toNat*1)).block n (setCells m (e.add ((a).toNat*1)).off [(.int .u32 ((((b*(1000000000:Int))+(c)) / d)))])->((0<=((b*(1000000000:Int))+(c))/\0<d)/\(inR .i64 (a - (1:Int))/\(natural_num_by.L4 i j o d f g l (((b*(1000000000:Int))+(c)) % d) (a - (1:Int)) B q R)))))))))))))/\(¬(a≥(0:Int))->(Pure P 280 #[.slice f g l] w fun y z=>∃r s t,y= .slice r s t/\(Pure P 289 #[.int .u64 b] z fun A C=>∃u v x,A= .slice u v x/\(R (.tuple #[.slice r s t,.slice u v x]) C)))))):
  natural_num_by.L4 i j o d f g l b a B w R:=
 loop_of_run (natural_num_by.cx w B R) 100000 (loopAt Tryz.f309 4) _ _ follows Tryz.func309 rfl rfl rfl (Eq.mp (by kernel_rfl) h)
theorem natural_num_by.vc(b:Option Addr)(a c:Nat)(d:Int)(w:World)(R:Value->World->Prop)
  (h:(RunOk P (Instr.makeSlice 259 (.int .i64 (a:Int)) (.int .i64 (a:Int))) w.heap.size [] w fun i j=>∃e f g,i= .slice e f g/\(inR .i64 ((a:Int) - (1:Int))/\(natural_num_by.L4 b a c d e f g (0:Int) ((a:Int) - (1:Int)) w.heap.size j R)))):
  Pure P 309 #[.slice b a c,.int .u64 d] w R:=
 pure_of_run (natural_num_by.cx w w.heap.size R) 100000 follows Tryz.func309 rfl rfl rfl rfl rfl rfl rfl (Eq.mp (by kernel_rfl) h)

noncomputable def natural_DivMod.cx(w:World)(B:Nat)(R:Value->World->Prop):Cx:=⟨Tryz.prog,313,37,Tryz.f313.results.toList,[],[],w,B,R⟩
theorem natural_DivMod.vc(d e:ByteArray)(w:World)(R:Value->World->Prop)
  (h:(Pure P 255 #[.string d,.string e] w fun u c=>∃f g i j a l b,u= .tuple #[.slice f g i,.slice j a l,.int .i64 b]/\(((b≠0)->(R (.tuple #[(.string ⟨#[]⟩),(.string ⟨#[]⟩),.int .i64 b]) c))/\(¬(b≠0)->((((a:Int)=0)->(R (.tuple #[(.string ⟨#[]⟩),(.string ⟨#[]⟩),.int .i64 16]) c))/\(¬((a:Int)=0)->(Pure P 290 #[.slice f g i,.slice j a l] c fun v x=>∃m n o p q r,v= .tuple #[.slice m n o,.slice p q r]/\(Pure P 279 #[.slice m n o] x fun y z=>∃s,y= .string s/\(Pure P 279 #[.slice p q r] z fun A C=>∃t,A= .string t/\(R (.tuple #[.string s,.string t,.int .i64 0]) C)))))))))):
  Pure P 313 #[.string d,.string e] w R:=
 pure_of_run (natural_DivMod.cx w w.heap.size R) 100000 follows Tryz.func313 rfl rfl rfl rfl rfl rfl rfl (Eq.mp (by kernel_rfl) h)

end Go.Proofs.YtgfkeadgjkfomaaGreatDoor.F

namespace Go.Proofs.YtgfkeadgjkfomaaGreatDoor.B
open Go Go.RowKit Go.Proofs Go.Proofs.YtgfkeadgjkfomaaGreatDoor.Vc

abbrev Tx:=List UInt8
def by_(s:ByteArray):Tx:=s.data.toList
def st(l:Tx):ByteArray:=⟨l.toArray⟩
theorem by_st(l:Tx):by_ (st l)=l:=rfl
theorem st_by(s:ByteArray):st (by_ s)=s:=rfl
theorem size_by(s:ByteArray):s.size=(by_ s).length:=by rfl
theorem st_inj{a b:Tx}(h:st a=st b):a=b:=by have:=congrArg by_ h;exact this
theorem by_inj{a b:ByteArray}(h:by_ a=by_ b):a=b:=by rw[<-st_by a,<-st_by b,h]

def dig(c:UInt8):Bool:=48<=c.toNat&&c.toNat<=57
def dv(c:UInt8):Nat:=c.toNat - 48
def isNat(l:Tx):Bool:= !l.isEmpty&&(l.length==1||l.head? !=some 48)&&l.all dig
def valD(l:Tx):Nat:=l.foldl (fun a c=>10*a+dv c) 0

theorem bt_get{s:ByteArray}{i:Int}(h0:0<=i)(h:i<s.size):∃c,(by_ s)[i.toNat]? =some c/\bt s i=(c.toNat:Int)/\(by_ s).drop i.toNat=c::(by_ s).drop (i.toNat+1):=by
 have hl:i.toNat<(by_ s).length:=by rw[<-size_by];omega
 refine⟨(by_ s)[i.toNat],by simp[hl],?_,List.drop_eq_getElem_cons hl⟩
 have e:bt s i=(((by_ s).getD i.toNat 0).toNat:Int):=rfl
 rw[e,List.getD_eq_getElem?_getD,List.getElem?_eq_getElem hl]
 rfl

theorem natural_Valid_loop(s:ByteArray)(hs:s.size<2147483648)(B:Nat)(w:World)(R:Value->World->Prop):∀(d:Nat)(i:Int),0<=i->i<=s.size->s.size - i=d->
  R (.bool (((by_ s).drop i.toNat).all dig)) w->F.natural_Valid.L4 s s.size i B w R:=by
 intro d
 induction d with
 |zero=>
  intro i h0 h1 hd hR
  refine F.natural_Valid.L4.step _ _ _ _ _ _ ⟨fun h=>by omega,fun h=> ?_⟩
  rw[List.drop_eq_nil_of_le (by rw[<-size_by];omega)]at hR
  exact hR
 |succ d ih=>
  intro i h0 h1 hd hR
  obtain⟨c,hc,hb,hdr⟩:=bt_get h0 (show i<s.size by omega)
  rw[hdr,List.all_cons]at hR
  refine F.natural_Valid.L4.step _ _ _ _ _ _ ⟨fun h=>⟨by omega,⟨fun h2=> ?_,fun h2=>⟨by omega,⟨fun h3=> ?_,fun h3=>⟨by simp only[inR];omega,?_⟩⟩⟩⟩⟩,fun h=>by omega⟩
  ·have:dig c=false:=by simp[dig];omega
   simpa[this]using hR
  ·have:dig c=false:=by simp[dig];omega
   simpa[this]using hR
  ·have hc:dig c=true:=by simp[dig];omega
   refine ih (i+1) (by omega) (by omega) (by omega) ?_
   rw[show(i+1).toNat=i.toNat+1 by omega]
   simpa[hc]using hR

theorem natural_Valid(s:ByteArray)(hs:s.size<2147483648)(w:World):Pure Tryz.prog 213 #[.string s] w fun v _=>v= .bool (isNat (by_ s)):=by
 have go:∀R:Value->World->Prop,R (.bool ((by_ s).all dig)) w->F.natural_Valid.L4 s s.size 0 w.heap.size w R:=fun R hR=>
  natural_Valid_loop s hs _ _ _ s.size 0 (by omega) (by omega) (by omega) hR
 refine F.natural_Valid.vc _ _ _ ⟨fun h=> ?_,fun h=>⟨fun h1=>⟨by omega,⟨fun h2=> ?_,fun h2=>go _ ?_⟩⟩,fun h1=>go _ ?_⟩⟩
 ·subst h;rfl
 ·obtain⟨c,hc,hb,hdr⟩:=bt_get (s:=s) (i:=0) (by omega) (by omega)
  have e:by_ s=c::(by_ s).drop 1:=by simpa using hdr
  have hc48:c=48:=by
   have:c.toNat=48:=by omega
   exact UInt8.toNat_inj.1 this
  have hl:(by_ s).length≠1:=by rw[<-size_by];omega
  have:isNat (by_ s)=false:=by
   unfold isNat
   simp only[Bool.false_or,(by simpa using hl:((by_ s).length==1)=false)]
   rw[e,hc48]
   simp
  rw[this]
 ·obtain⟨c,hc,hb,hdr⟩:=bt_get (s:=s) (i:=0) (by omega) (by omega)
  have e:by_ s=c::(by_ s).drop 1:=by simpa using hdr
  have hc48:c≠48:=fun k=>by subst k;exact h2 hb
  congr 1
  unfold isNat
  rw[e]
  simp[hc48]
 ·have hl:(by_ s).length=1:=by
   rw[<-size_by]
   have:s.size≠0:=fun k=>h (by apply by_inj;exact List.eq_nil_of_length_eq_zero k)
   omega
  obtain⟨c,hc⟩:=List.length_eq_one_iff.1 hl
  rw[hc]
  simp[isNat]

def wv:List Nat->Nat
 |[]=>0
 |x::r=>x+1000000000*wv r
def Small(l:List Nat):Prop:=∀x∈l,x<1000000000
def Norm(l:List Nat):Prop:=l.getLast?≠some 0

theorem wv_append(a b:List Nat):wv (a++b)=wv a+1000000000^a.length*wv b:=by
 induction a with
 |nil=>simp[wv]
 |cons x r ih=>simp only[List.cons_append,wv,ih,List.length_cons,Nat.pow_succ];rw[Nat.mul_add,<-Nat.mul_assoc,Nat.mul_comm 1000000000 (1000000000^_)];omega
theorem wv_lt{l:List Nat}(h:Small l):wv l<1000000000^l.length:=by
 induction l with
 |nil=>simp[wv]
 |cons x r ih=>
  have h1:=h x (by simp)
  have h2:=ih fun y hy=>h y (by simp[hy])
  simp only[wv,List.length_cons,Nat.pow_succ]
  omega
theorem Small.take{l:List Nat}(h:Small l)(n:Nat):Small (l.take n):=fun x hx=>h x (List.mem_of_mem_take hx)
theorem Small.append{a b:List Nat}(ha:Small a)(hb:Small b):Small (a++b):=fun x hx=>(List.mem_append.1 hx).elim (ha x) (hb x)
theorem Small.cons{x:Nat}{l:List Nat}(hx:x<1000000000)(h:Small l):Small (x::l):=fun y hy=>by
 rcases List.mem_cons.1 hy with rfl|hy
 ·exact hx
 ·exact h y hy
theorem Small.nil:Small []:=fun x hx=>by cases hx

theorem wv_pos{l:List Nat}(h:Norm l)(hn:l≠[]):1000000000^(l.length - 1)<=wv l:=by
 have e:l=l.dropLast++[l.getLast hn]:=(List.dropLast_concat_getLast hn).symm
 have h0:l.getLast hn≠0:=fun k=>h (by rw[List.getLast?_eq_some_getLast hn,k])
 have hw:wv l=wv l.dropLast+1000000000^l.dropLast.length*wv [l.getLast hn]:=by rw[<-wv_append,<-e]
 rw[hw,List.length_dropLast]
 simp only[wv,Nat.mul_zero,Nat.add_zero]
 have h1:1<=l.getLast hn:=by omega
 have:=Nat.mul_le_mul_left (1000000000^(l.length - 1)) h1
 omega

def SlU(w:World)(A:Option Addr)(ws:List Nat):Prop:=
 ws=[]∨∃b off all fr,A=some ⟨b,off,none⟩/\w.heap[b]? =some (.cells all 217 fr)/\∀i,(h:i<ws.length)->all[off+i]? =some (.int .u32 (ws[i]:Nat))

theorem SlU.cell{w:World}{A:Option Addr}{ws:List Nat}(h:SlU w A ws){j:Int}(h0:0<=j)(h1:j<ws.length):
  ∃a,A=some a/\∃x:Nat,ws[j.toNat]? =some x/\CellsAt w (a.add (j.toNat*1)) [.int .u32 (x:Int)]:=by
 rcases h with h|⟨b,off,all,fr,hA,hb,hc⟩
 ·subst h;simp at h1;omega
 ·have hj:j.toNat<ws.length:=by omega
  refine⟨_,hA,ws[j.toNat],by simp[hj],fun i hi=> ?_⟩
  have hi:i=0:=by simp at hi;exact hi
  subst hi
  rw[Nat.mul_one,add_none,add_none]
  simp only[World.cell?,hb]
  simpa using hc j.toNat hj

theorem SlU.heap{w w':World}{A:Option Addr}{ws:List Nat}(h:SlU w A ws)(hh:∀(b:Nat)(all:Array Value)(fr:Nat×Nat),w.heap[b]? =some (.cells all 217 fr)->w'.heap[b]? =w.heap[b]?):SlU w' A ws:=by
 rcases h with h|⟨b,off,all,fr,hA,hb,hc⟩
 ·exact .inl h
 ·exact .inr ⟨b,off,all,fr,hA,by rw[hh b all fr hb];exact hb,hc⟩
theorem SlU.below{w w':World}{A:Option Addr}{ws:List Nat}(h:SlU w A ws)(hb:Below w.heap.size w w'):SlU w' A ws:=
 SlU.heap h fun b _ _ e=>hb.block b (Array.getElem?_eq_some_iff.1 e).1
theorem SlU.ext{w w':World}{B:Nat}{ts:List Nat}{A:Option Addr}{ws:List Nat}(h:SlU w A ws)(he:Ext B ts w w')(hn:217∉ts):SlU w' A ws:=
 SlU.heap h fun b all fr e=>by
  rcases he.other b (Array.getElem?_eq_some_iff.1 e).1 with h1|⟨t,ht,c,c',fr',h1,_⟩
  ·exact h1
  ·rw[e]at h1;cases h1;exact absurd ht hn
theorem SlU.take{w:World}{A:Option Addr}{ws:List Nat}(h:SlU w A ws)(k:Nat):SlU w A (ws.take k):=by
 rcases h with h|⟨b,off,all,fr,hA,hb,hc⟩
 ·exact .inl (by simp[h])
 ·exact .inr ⟨b,off,all,fr,hA,hb,fun i hi=>by
   have h1:i<ws.length:=by simp at hi;omega
   simpa using hc i h1⟩

def IsN(w:World)(A:Option Addr)(n c:Nat)(x:Nat):Prop:=∃ws,SlU w A ws/\ws.length=n/\n<=c/\n<2147483648/\Small ws/\Norm ws/\wv ws=x
theorem IsN.below{w w':World}{A:Option Addr}{n c x:Nat}(h:IsN w A n c x)(hb:Below w.heap.size w w'):IsN w' A n c x:=by
 obtain⟨ws,h1,h2⟩:=h;exact⟨ws,h1.below hb,h2⟩
theorem IsN.ext{w w':World}{B:Nat}{ts:List Nat}{A:Option Addr}{n c x:Nat}(h:IsN w A n c x)(he:Ext B ts w w')(hn:217∉ts):IsN w' A n c x:=by
 obtain⟨ws,h1,h2⟩:=h;exact⟨ws,h1.ext he hn,h2⟩

theorem wv_take_zero{ws:List Nat}{n:Nat}(hn:ws.length=n+1)(h0:ws[n]? =some 0):wv (ws.take n)=wv ws:=by
 have e:ws=ws.take n++[0]:=by
  apply List.ext_getElem?
  intro i
  by_cases h:i<n
  ·rw[List.getElem?_append_left (by simp;omega)];simp[h]
  ·rw[List.getElem?_append_right (by simp;omega)]
   by_cases h2:i=n
   ·subst h2;rw[h0];simp[hn]
   ·rw[List.getElem?_eq_none (by omega),List.getElem?_eq_none (by simp;omega)]
 conv=>rhs;rw[e]
 rw[wv_append]
 simp[wv]

theorem natural_trim_loop(B:Nat)(w:World)(A:Option Addr)(c:Nat)(R:Value->World->Prop):∀(n:Nat)(ws:List Nat),SlU w A ws->ws.length=n->n<2147483648->n<=c->Small ws->
  (∀m,m<=n->Norm (ws.take m)->wv (ws.take m)=wv ws->R (.slice A m c) w)->F.natural_num_trim.L1 A n c B w R:=by
 intro n
 induction n with
 |zero=>
  intro ws h hl hc hn hs hR
  refine F.natural_num_trim.L1.step _ _ _ _ _ _ ⟨fun h=>by omega,fun _=>hR 0 (by omega) (by simp[Norm]) (by have:=List.eq_nil_of_length_eq_zero hl;subst this;rfl)⟩
 |succ n ih=>
  intro ws h hl hc hn hs hR
  obtain⟨a,hA,x,hx,hcell⟩:=h.cell (j:=((n+1:Nat):Int) - 1) (by omega) (by omega)
  have e:(((n+1:Nat):Int) - 1).toNat=n:=by omega
  refine F.natural_num_trim.L1.step _ _ _ _ _ _ ⟨fun _=>⟨by simp only[inR];omega,by omega,a,hA,_,hcell,fun h0=>⟨by simp only[inR];omega,by omega,?_⟩,fun h0=> ?_⟩,fun h=>by omega⟩
  ·rw[e]at hx⊢
   have hx0:x=0:=by omega
   subst hx0
   have ew:=wv_take_zero hl hx
   refine ih (ws.take n) (h.take n) (by simp;omega) (by omega) (by omega) (hs.take n) fun m hm h1 h2=>hR m (by omega) ?_ ?_
   ·rw[List.take_take,Nat.min_eq_left hm]at h1;exact h1
   ·rw[List.take_take,Nat.min_eq_left hm]at h2;rw[h2,ew]
  ·rw[e]at hx
   have et:ws.take (n+1)=ws:=List.take_of_length_le (by omega)
   refine hR (n+1) (Nat.le_refl _) ?_ (by rw[et])
   rw[et]
   unfold Norm
   rw[List.getLast?_eq_getElem?,hl,Nat.add_sub_cancel,hx]
   intro k
   cases k
   exact h0 rfl

theorem natural_trim{w:World}{A:Option Addr}{n c:Nat}{ws:List Nat}(h:SlU w A ws)(hl:ws.length=n)(hn:n<=c)(hc:n<2147483648)(hs:Small ws):
  Pure Tryz.prog 280 #[.slice A n c] w fun v w'=>w'=w/\∃m,v= .slice A m c/\IsN w A m c (wv ws)/\m<=n/\Norm (ws.take m)/\wv (ws.take m)=wv ws:=
 F.natural_num_trim.vc _ _ _ _ _ (natural_trim_loop _ _ _ _ _ n ws h hl hc hn hs fun m hm h1 h2=>⟨rfl,m,rfl,⟨ws.take m,h.take m,by simp;omega,by omega,by omega,hs.take m,h1,h2⟩,hm,h1,h2⟩)

structure El (P:Program) (t e:TypeId) (size bytes:Nat):Prop where
 und:P.underlying t=some (.slice e)
 info:∃i z,P.info? e=some i/\i.zero=some z/\i.size=size/\i.bytes=bytes/\z.cells.size=size
 pos:0<size
 small:size<=1024

theorem oneCell'_of{v:Value}(h:isCell v=true):v.oneCell'=true:=by cases v<;>first|rfl|(simp[isCell]at h)

theorem fold_set(off:Nat):∀(v:List Value)(k:Nat)(cs:Array Value)(i:Nat),
  ((v.zipIdx k).foldl (fun cs (x:Value×Nat)=>cs.setIfInBounds (off+x.2) x.1) cs)[i]? =if off+k<=i/\i<off+k+v.length/\i<cs.size then v[i - off - k]? else cs[i]? :=by
 intro v
 induction v with
 |nil=>intro k cs i;simp;intro h1 h2;omega
 |cons x r ih=>
  intro k cs i
  rw[List.zipIdx_cons,List.foldl_cons,ih]
  simp only[Array.size_setIfInBounds,List.length_cons]
  by_cases h1:off+(k+1)<=i/\i<off+(k+1)+r.length/\i<cs.size
  ·rw[if_pos h1,if_pos ⟨by omega,by omega,h1.2.2⟩,show i - off - k=(i - off - (k+1))+1 by omega,List.getElem?_cons_succ]
  ·rw[if_neg h1,Array.getElem?_setIfInBounds]
   by_cases h2:off+k=i
   ·rw[if_pos h2]
    by_cases h3:i<cs.size
    ·rw[if_pos (by omega),if_pos ⟨by omega,by omega,h3⟩,show i - off - k=0 by omega];rfl
    ·rw[if_neg (by omega),if_neg (by omega),Array.getElem?_eq_none (by omega)]
   ·rw[if_neg h2,if_neg (by omega)]

theorem fill_all(size:Nat):∀(vs:List Value)(k:Nat)(pre rest:List Value),pre.length=k*size->rest.length=vs.length*size->(∀v∈vs,v.cells.size=size)->
  Instr.fill (fun i=>some (i*size,size)) (pre++rest).toArray ((vs.zipIdx k).map fun x=>(x.2,x.1))=some (pre++vs.flatMap fun v=>v.cells.toList).toArray:=by
 intro vs
 induction vs with
 |nil=>
  intro k pre rest hp hr _
  have:rest=[]:=List.eq_nil_of_length_eq_zero (by simpa using hr)
  simp[Instr.fill,this]
 |cons v r ih=>
  intro k pre rest hp hr hv
  have h1:=hv v (by simp)
  have hl:v.cells.toList.length=size:=by simpa using h1
  have hr':rest.length=r.length*size+size:=by rw[hr,List.length_cons,Nat.add_mul,Nat.one_mul]
  rw[List.zipIdx_cons,List.map_cons,Instr.fill]
  simp only[h1,ne_eq,not_true_eq_false,decide_false,Bool.false_or,List.size_toArray,List.length_append]
  rw[if_neg (by simp;omega)]
  have e:(v.cells.zipIdx.foldl (fun cs x=>cs.setIfInBounds (k*size+x.2) x.1) (pre++rest).toArray)=((pre++v.cells.toList)++rest.drop size).toArray:=by
   rw[<-Array.foldl_toList,Array.toList_zipIdx]
   apply Array.ext'
   apply List.ext_getElem?
   intro i
   rw[Array.getElem?_toList,fold_set]
   simp only[Nat.add_zero,List.getElem?_toArray,List.size_toArray,List.length_append,hl,hp]
   by_cases h:k*size<=i/\i<k*size+size/\i<k*size+rest.length
   ·rw[if_pos h,List.getElem?_append_left (by simp;omega),List.getElem?_append_right (by omega),hp];simp
   ·rw[if_neg h]
    by_cases h2:i<k*size
    ·rw[List.getElem?_append_left (by omega),List.getElem?_append_left (by simp;omega),List.getElem?_append_left (by omega)]
    ·rw[List.getElem?_append_right (by omega),List.getElem?_append_right (by simp;omega),List.getElem?_drop]
     congr 1
     simp;omega
  rw[e,ih (k+1) (pre++v.cells.toList) (rest.drop size) (by simp[hp,h1,Nat.add_mul]) (by simp;omega) (fun y hy=>hv y (by simp[hy]))]
  simp[List.flatMap_cons,List.append_assoc]

theorem run_buildAll{P:Program}{t e size bytes:Nat}(el:El P t e size bytes)(vs:List Value)(hv:∀v∈vs,v.cells.size=size)(hn:vs.length<=1024)(w:World):
  (Instr.buildSlice t vs.length (vs.zipIdx.map fun x=>(x.2,x.1)).toArray).run P w= .ok (.slice (some ⟨w.heap.size,0,none⟩) vs.length vs.length) (w.alloc (.cells (vs.flatMap fun v=>v.cells.toList).toArray e)):=by
 obtain⟨i,z,h1,h2,h3,h4,h5⟩:=el.info
 have hs:=el.small
 have hp:=el.pos
 have hle:vs.length*size<=1024*1024:=Nat.mul_le_mul hn hs
 have e1:(sizeOf e).run P w= .ok size w:=by simp[sizeOf,typeInfo,program,Sem.run_bind,Sem.run,h1,h3]
 have e2:(zeroValue e).run P w= .ok z w:=by simp[zeroValue,typeInfo,program,Sem.run_bind,Sem.run,h1,h2]
 have hfill:∀c0:Array Value,c0.size=vs.length*size->Instr.fill (fun i=>some (i*size,size)) c0 (vs.zipIdx.map fun x=>(x.2,x.1))=some (vs.flatMap fun v=>v.cells.toList).toArray:=by
  intro c0 hc
  have:=fill_all size vs 0 [] c0.toList (by simp) (by simpa using hc) hv
  simpa using this
 simp only[Instr.buildSlice,Sem.run_bind,run_underlying el.und,Result.andThen_ok,e1]
 rw[if_neg (by omega)]
 by_cases h0:vs.length*size=0
 ·rw[if_pos h0]
  simp only[Sem.run_bind,Result.andThen_ok,Sem.run_pure]
  rw[hfill _ (by simp)]
  simp[newRow,newObj,Sem.run]
 ·rw[if_neg h0]
  simp only[Sem.run_bind,e2,Result.andThen_ok,Sem.run_pure]
  rw[hfill _ (by simp)]
  simp[newRow,newObj,Sem.run]

theorem ownsRow_form{w:World}{B e size n:Nat}{v:Value}{xs:List Value}(h:w.ownsRow B e size v n xs):∃A c,v= .slice A n c/\n<=c:=by
 rcases h.2 with⟨rfl,rfl⟩|⟨g,cap,cur,rfl,_,_,hc,_⟩
 ·exact⟨none,0,rfl,Nat.le_refl _⟩
 ·exact⟨_,cap,rfl,hc⟩

theorem below_grown{w w':World}{B:Nat}{row:Option Nat}(h:w.grownBy w' row)(hr:∀k,row=some k->B<=k)(hB:B<=w.heap.size):Below B w w':=
 ⟨h.os,h.tape,h.output,h.size,fun k hk=>h.block k (by omega) fun e=>by have:=hr k e.symm;omega⟩

theorem kept_grown{w w':World}{B e size n:Nat}{v:Value}{xs:List Value}{tys:List Nat}(h:w.grownBy w' v.ownBlock)(hown:w.ownsRow B e size v n xs)(ht:e∉tys):
  ∀(k ty:Nat)(cs:Array Value),ty∈tys->w.heap[k]? =some (.cells cs ty (0,0))->w'.heap[k]? =w.heap[k]? :=by
 intro k ty cs hty hk
 refine h.block k (Array.getElem?_eq_some_iff.1 hk).1 fun e1=> ?_
 rcases hown.2 with⟨rfl,_⟩|⟨g,cap,cur,rfl,_,hg,_⟩
 ·simp[Value.ownBlock]at e1
 ·simp[Value.ownBlock]at e1
  subst e1
  rw[hg]at hk
  cases hk
  exact ht hty

theorem runOk_append{P:Program}{t ty e size bytes:Nat}(el:El P t e size bytes){B0 B:Nat}(hBB:B0<=B){tys:List Nat}{w:World}{v:Value}{n:Nat}{xs:List Value}(hown:w.ownsRow B e size v n xs)
  {a:Addr} {m c:Nat} {news:List Value} (hl:news.length=m*size) (hnews:∀j u,news[j]? =some u->w.cell? (a.add j)=some u) (h1:∀u∈news,isCell u=true)
  (hB:B<=w.heap.size) (hsz:(n+m)*(bytes+1)<=140737488355328) (ht:e∉tys) {K:Option Addr->Nat->Nat->World->Prop}
  (h:∀A c w2,w2.ownsRow B e size (.slice A (n+m) c) (n+m) (xs++news)->w.grownBy w2 v.ownBlock->Below B0 w w2->K A (n+m) c w2):
  RunOk P (Builtin.append_ #[t,t] ty #[v,.slice (some a) m c]) B0 tys w fun r w2=>∃A n c,r= .slice A n c/\K A n c w2:=by
 obtain⟨i,z,h2,h3,h4,h5,h6⟩:=el.info
 have hle:n+m<=(n+m)*(bytes+1):=Nat.le_mul_of_pos_right _ (by omega)
 have hb:(n+m)*bytes<=(n+m)*(bytes+1):=Nat.mul_le_mul_left _ (by omega)
 obtain⟨v',w',hr,ho,hg,_⟩:=run_append_own (P:=P) w B t ty e i z size bytes el.und h2 h3 h4 h5 h6 el.pos v n xs hown a m c news hl hnews (fun u hu=>oneCell'_of (h1 u hu)) (by simp only[maxLen];omega) (by omega) hB
 have hbel:Below B0 w w':=below_grown hg (fun k hk=>Nat.le_trans hBB (hown.lt k hk).1) (Nat.le_trans hBB hB)
 obtain⟨A,c',rfl,_⟩:=ownsRow_form ho
 exact⟨_,w',hr,hbel,hbel.size,kept_grown hg hown ht,A,_,c',rfl,h A c' w' ho hg hbel⟩

theorem runOk_append1{P:Program}{t ty e size bytes:Nat}(el:El P t e size bytes){B0 B:Nat}(hBB:B0<=B){tys:List Nat}{w:World}{v:Value}{n:Nat}{xs:List Value}(hown:w.ownsRow B e size v n xs)
  {x:Value} (hx:x.cells.size=size) (h1:∀u∈x.cells.toList,isCell u=true)
  (hB:B<=w.heap.size) (hsz:(n+1)*(bytes+1)<=140737488355328) (ht:e∉tys) {K:Option Addr->Nat->Nat->World->Prop}
  (h:∀A c w2,w2.ownsRow B e size (.slice A (n+1) c) (n+1) (xs++x.cells.toList)->w.grownBy w2 v.ownBlock->Below B0 w w2->K A (n+1) c w2):
  RunOk P (Instr.buildSlice t 1 #[(0,x)]) B0 tys w fun r w1=>∃A m c,r= .slice A m c/\
   RunOk P (Builtin.append_ #[t,t] ty #[v,.slice A m c]) B0 tys w1 fun r w2=>∃A n c,r= .slice A n c/\K A n c w2:=by
 have hr:=run_buildAll el [x] (by simpa using hx) (by simp) w
 simp only[List.length_singleton,List.zipIdx_cons,List.zipIdx_nil,List.map_cons,List.map_nil,List.flatMap_cons,List.flatMap_nil,List.append_nil]at hr
 have hg:=World.grownBy_alloc w (.cells x.cells.toList.toArray e) none
 have hbel:Below B0 w (w.alloc (.cells x.cells.toList.toArray e)):=below_grown hg (by simp) (Nat.le_trans hBB hB)
 refine⟨_,_,hr,hbel,hbel.size,fun k ty cs _ hk=>hg.block k (Array.getElem?_eq_some_iff.1 hk).1 (by simp),_,_,_,rfl,?_⟩
 refine runOk_append el hBB (hown.kept hg (by cases v.ownBlock<;>simp)) (news:=x.cells.toList) (by simpa using hx) ?_ h1 (by have:=hg.size;omega) hsz ht ?_
 ·intro j u hu
  rw[add_none,Nat.zero_add]
  simp only[World.cell?]
  rw[heap_alloc_new]
  simpa using hu
 ·intro A c w2 h2 h3 h4
  refine h A c w2 h2 ⟨h3.os.trans hg.os,h3.tape.trans hg.tape,h3.output.trans hg.output,Nat.le_trans hg.size h3.size,fun k hk hne=> ?_⟩ (hbel.trans h4)
  rw[h3.block k (by have:=hg.size;omega) hne]
  exact hg.block k hk (by simp)

theorem runOk_make0{P:Program}{t e size bytes:Nat}(el:El P t e size bytes){B:Nat}{tys:List Nat}{w:World}{kl kc:IntKind}{c:Int}(h0:0<=c)(hc:c.toNat*(bytes+1)<=140737488355328)(hB:B<=w.heap.size){K:Option Addr->Nat->Nat->World->Prop}
  (h:∀A c w2,w2.ownsRow B e size (.slice A 0 c) 0 []->w.grownBy w2 none->Below B w w2->K A 0 c w2):
  RunOk P (Instr.makeSlice t (.int kl 0) (.int kc c)) B tys w fun r w2=>∃A n c,r= .slice A n c/\K A n c w2:=by
 obtain⟨i,z,h2,h3,h4,h5,h6⟩:=el.info
 obtain⟨c,rfl⟩:=Int.eq_ofNat_of_zero_le h0
 have hc':c*(bytes+1)<=140737488355328:=by simpa only[Int.toNat_natCast]using hc
 have hle:c<=c*(bytes+1):=Nat.le_mul_of_pos_right _ (by omega)
 have hb:c*bytes<=c*(bytes+1):=Nat.mul_le_mul_left _ (by omega)
 obtain⟨w',hr,ho,hg⟩:=run_make_own (P:=P) w B t e i z size el.und h2 h3 h4 kl kc c (by rw[h5,Nat.mul_comm];omega) (by simp only[maxLen];omega) hB
 have hbel:Below B w w':=below_grown hg (by simp) hB
 exact⟨_,w',hr,hbel,hbel.size,fun k ty cs _ hk=>hg.block k (Array.getElem?_eq_some_iff.1 hk).1 (by simp),_,_,_,rfl,h _ _ w' ho hg hbel⟩

theorem runOk_make{P:Program}{t e bytes:Nat}(el:El P t e 1 bytes){B:Nat}{tys:List Nat}{w:World}{kl kc:IntKind}{c:Int}{z:Value}(hz:(P.info? e).bind (·.zero)=some z)(hzc:isCell z=true)(h0:0<=c)(hc:c.toNat*(bytes+1)<=140737488355328)(hB:B<=w.heap.size)
  {K:Option Addr->Nat->Nat->World->Prop}
  (h:∀A (n:Nat) w2,(n:Int)=c->w2.ownsRow w.heap.size e 1 (.slice A n n) n (List.replicate n z)->w.grownBy w2 none->Below B w w2->K A n n w2):
  RunOk P (Instr.makeSlice t (.int kl c) (.int kc c)) B tys w fun r w2=>∃A n c,r= .slice A n c/\K A n c w2:=by
 obtain⟨i,z',h2,h3,h4,h5,h6⟩:=el.info
 obtain⟨c,rfl⟩:=Int.eq_ofNat_of_zero_le h0
 have hzz:z'=z:=by rw[h2]at hz;simp[h3]at hz;exact hz
 subst hzz
 have hc':c*(bytes+1)<=140737488355328:=by simpa only[Int.toNat_natCast]using hc
 have hle:c<=c*(bytes+1):=Nat.le_mul_of_pos_right _ (by omega)
 have hb:c*bytes<=c*(bytes+1):=Nat.mul_le_mul_left _ (by omega)
 have hbi:(i.bytes:Int)*(c:Int)<=281474976710656:=by
  have h:((i.bytes*c:Nat):Int)<=281474976710656:=by
   have:i.bytes*c<=281474976710656:=by rw[h5,Nat.mul_comm];omega
   omega
  rwa [Int.natCast_mul]at h
 have hr:=run_make (P:=P) w t e i z' el.und h2 h3 kl kc c c (by omega) (Int.le_refl _) hbi (by omega)
 simp only[Int.toNat_natCast,h4,Nat.mul_one]at hr
 have hzl:z'.cells= #[z']:=by cases z'<;>first|rfl|simp[isCell]at hzc
 have hm:madeCells z'.cells c=(List.replicate c z').toArray:=by
  apply Array.ext'
  rw[hzl]
  apply List.ext_getElem?
  intro j
  simp only[madeCells,Array.toList_map,Array.toList_range,List.getElem?_map,List.getElem?_replicate]
  by_cases hj:j<c
  ·simp[hj,Nat.mod_one]
  ·simp[hj]
 rw[hm]at hr
 have hg:=World.grownBy_alloc w (.cells (List.replicate c z').toArray e) none
 have hbel:Below B w (w.alloc (.cells (List.replicate c z').toArray e)):=below_grown hg (by simp) hB
 refine⟨_,_,hr,hbel,hbel.size,fun k ty cs _ hk=>hg.block k (Array.getElem?_eq_some_iff.1 hk).1 (by simp),_,_,_,rfl,h _ _ _ rfl ?_ hg hbel⟩
 exact⟨by simp,.inr ⟨w.heap.size,c,_,rfl,Nat.le_refl _,heap_alloc_new w _,Nat.le_refl _,by simp only[maxLen];omega,by simp,by simp⟩⟩

theorem ownsRow_wrote{w:World}{B e size n c:Nat}{A:Addr}{xs:List Value}(h:w.ownsRow B e size (.slice (some A) n c) n xs){off:Nat}{vs:List Value}(hle:off+vs.length<=xs.length):
  ∃cs:List Value,B<=A.block/\A.spot=none/\A.off=0/\w.heap[A.block]? =some (.cells cs.toArray e (0,0))/\off+vs.length<=cs.length/\
   ∀w1,Wrote w w1 A.block e (setCells cs off vs)->w1.ownsRow B e size (.slice (some A) n c) n (setCells xs off vs):=by
 rcases h.2 with⟨h1,_⟩|⟨g,cap,cur,h1,hb,hg,hc,hm,hs,ht⟩
 ·cases h1
 ·cases h1
  have hset:∀(vs:List Value)(l:List Value)(off:Nat),(setCells l off vs).length=l.length:=by
   intro vs
   induction vs with
   |nil=>intro l off;rfl
   |cons v r ih=>intro l off;rw[setCells,ih];simp
  have htk:∀(vs:List Value)(l:List Value)(off k:Nat),(setCells l off vs).take k=setCells (l.take k) off vs:=by
   intro vs
   induction vs with
   |nil=>intro l off k;rfl
   |cons v r ih=>intro l off k;rw[setCells,ih,setCells,List.take_set]
  refine⟨cur.toList,hb,rfl,rfl,by simpa using hg,?_,fun w1 hw=>⟨by rw[hset];exact h.1,.inr ⟨g,c,(setCells cur.toList off vs).toArray,rfl,hb,by simpa using hw.at_,hc,hm,by simp[hset,hs],?_⟩⟩⟩
  ·have:xs.length<=cur.toList.length:=by rw[<-ht];simp;omega
   omega
  ·rw[<-ht];simp[htk]

def elOk(P:Program)(t e:TypeId)(size bytes:Nat):Bool:=match P.underlying t,P.info? e with
 |some (.slice e'),some i=>match i.zero with
  |some z=>Nat.beq e' e&&Nat.beq i.size size&&Nat.beq i.bytes bytes&&Nat.beq z.cells.size size&&Nat.blt 0 size&&Nat.ble size 1024
  |none=>false
 |_,_=>false
theorem El.of{P:Program}{t e size bytes:Nat}(h:elOk P t e size bytes=true):El P t e size bytes:=by
 unfold elOk at h
 split at h
 ·rename_i e' i h1 h2
  split at h
  ·rename_i z hz
   simp only[Bool.and_eq_true,Nat.beq_eq,Nat.ble_eq,Nat.blt_eq]at h
   obtain⟨⟨⟨⟨⟨rfl,h3⟩,h4⟩,h5⟩,h6⟩,h7⟩:=h
   exact⟨h1,⟨i,z,h2,hz,h3,h4,h5⟩,h6,h7⟩
  ·cases h
 ·cases h
theorem el_num:El Tryz.prog 259 217 1 4:=El.of (by kernel_rfl)

@[irreducible] def KLim : Nat := 100000
theorem klim:KLim=100000:=by unfold KLim;rfl
@[irreducible] def Lim : Nat := 1000000000 ^ KLim

theorem IsN.len{w:World}{A:Option Addr}{n c x:Nat}(h:IsN w A n c x)(hx:x<Lim):n<=100000:=by
 obtain⟨ws,_,hl,_,_,_,hn,rfl⟩:=h
 unfold Lim at hx
 by_cases h0:ws=[]
 ·subst h0;simp at hl;omega
 ·have h1:=wv_pos hn h0
  have h2:=(Nat.pow_lt_pow_iff_right (a:=1000000000) (by omega)).1 (Nat.lt_of_le_of_lt h1 hx)
  have:=klim
  omega

def u32s(ws:List Nat):List Value:=ws.map fun(x:Nat)=> .int .u32 (x:Int)
def OwnU(w:World)(B:Nat)(A:Option Addr)(n c:Nat)(ws:List Nat):Prop:=w.ownsRow B 217 1 (.slice A n c) n (u32s ws)
theorem OwnU.len{w:World}{B:Nat}{A:Option Addr}{n c:Nat}{ws:List Nat}(h:OwnU w B A n c ws):ws.length=n:=by have:=h.1;simpa[u32s]using this
theorem OwnU.sl{w:World}{B:Nat}{A:Option Addr}{n c:Nat}{ws:List Nat}(h:OwnU w B A n c ws):SlU w A ws:=by
 have hl:=h.len
 rcases h.2 with⟨h1,h2⟩|⟨g,cap,cur,h1,hb,hg,hc,hm,hs,ht⟩
 ·exact .inl (List.eq_nil_of_length_eq_zero (by omega))
 ·cases h1
  refine .inr ⟨g,0,cur,_,rfl,hg,fun i hi=> ?_⟩
  have:(u32s ws)[i]? =some (.int .u32 (ws[i]:Nat)):=by simp[u32s,hi]
  rw[<-ht,List.getElem?_take]at this
  split at this
  ·simpa using this
  ·cases this
theorem OwnU.cap{w:World}{B:Nat}{A:Option Addr}{n c:Nat}{ws:List Nat}(h:OwnU w B A n c ws):n<=c:=by
 obtain⟨_,_,h1,h2⟩:=ownsRow_form h;cases h1;exact h2

theorem u32s_append(a b:List Nat):u32s (a++b)=u32s a++u32s b:=by simp[u32s]

theorem app_u32{t ty:Nat}(el:El Tryz.prog t 217 1 4){B0 B:Nat}(hBB:B0<=B){tys:List Nat}{w:World}{A:Option Addr}{n c:Nat}{ws:List Nat}(ho:OwnU w B A n c ws)(hn:n<=1000000)(hB:B<=w.heap.size)(ht:217∉tys)
  {x:Int} (hx:0<=x) {K:Option Addr->Nat->Nat->World->Prop}
  (h:∀A' c' w',OwnU w' B A' (n+1) c' (ws++[x.toNat])->w.grownBy w' (Value.ownBlock (.slice A n c))->Below B0 w w'->K A' (n+1) c' w'):
  RunOk Tryz.prog (Instr.buildSlice t 1 #[(0,.int .u32 x)]) B0 tys w fun r w1=>∃A2 m2 c2,r= .slice A2 m2 c2/\
   RunOk Tryz.prog (Builtin.append_ #[t,t] ty #[.slice A n c,.slice A2 m2 c2]) B0 tys w1 fun r w2=>∃A n c,r= .slice A n c/\K A n c w2:=
 runOk_append1 el hBB ho rfl (by intro u hu;simp[Value.cells]at hu;subst hu;rfl) hB (by omega) ht fun A' c' w' h1 h2 h3=>h A' c' w' (by
  unfold OwnU
  rw[u32s_append]
  have e:(x.toNat:Int)=x:=by omega
  simp only[u32s,List.map_cons,List.map_nil,e]
  exact h1) h2 h3

theorem wv_take_succ(l:List Nat)(i:Nat):wv (l.take (i+1))=wv (l.take i)+1000000000^i*l.getD i 0:=by
 by_cases h:i<l.length
 ·rw[List.take_add_one,wv_append,List.length_take,Nat.min_eq_left (by omega)]
  simp[h,wv]
 ·rw[List.take_of_length_le (by omega),List.take_of_length_le (by omega)]
  simp[List.getD_eq_getElem?_getD,List.getElem?_eq_none (by omega:l.length<=i)]

theorem tdivmod(s:Int):(0<=s->Int.tmod s 1000000000=s % 1000000000/\Int.tdiv s 1000000000=s / 1000000000)/\
  (s<0->Int.tmod s 1000000000= - ((-s) % 1000000000)/\Int.tdiv s 1000000000= - ((-s) / 1000000000)):=by
 refine⟨fun h=>⟨Int.tmod_eq_emod_of_nonneg h,Int.tdiv_eq_ediv_of_nonneg h⟩,fun h=> ?_⟩
 have e:s= - (-s):=by omega
 constructor
 ·conv=>lhs;rw[e]
  rw[Int.neg_tmod,Int.tmod_eq_emod_of_nonneg (by omega)]
 ·conv=>lhs;rw[e]
  rw[Int.neg_tdiv,Int.tdiv_eq_ediv_of_nonneg (by omega)]
theorem wrap64{n:Int}(h:inR .i64 n):IntKind.wrap .i64 n=n:=by
 rw[IntKind.wrap_i64];simp only[inR]at h;omega

section
variable {B:Nat} {A0 A1:Option Addr} {n0 c0 n1 c1:Nat} {sg:Int} {R:Value->World->Prop} {mx:Int}

theorem merge_J10{w:World}{A:Option Addr}{n c:Nat}{ws:List Nat}{s i:Int}(ho:OwnU w B A n c ws)(hn:n<=1000000)(hB:B<=w.heap.size)(hs: -1000000000<=s/\s<=1999999999)(hi:0<=i/\i<=1000000)
  (h:∀A' c' w',OwnU w' B A' (n+1) c' (ws++[(s % 1000000000).toNat])->Below B w w'->F.natural_merge_uint32_natural_num.L4 A0 n0 c0 A1 n1 c1 sg A' (n+1) c' (s / 1000000000) mx (i+1) B w' R):
  F.natural_merge_uint32_natural_num.J10 A0 n0 c0 A1 n1 c1 sg A n c s mx i B w R:=by
 obtain⟨t1,t2⟩:=tdivmod s
 have w1:IntKind.wrap .i64 (Int.tdiv s 1000000000)=Int.tdiv s 1000000000:=wrap64 (by simp only[inR];omega)
 refine F.natural_merge_uint32_natural_num.J10.step _ _ _ _ _ _ _ _ _ _ _ _ _ _ _ _ ⟨by omega,by omega,fun h0=>⟨by simp only[inR];omega,by rw[w1];simp only[inR];omega,by simp only[inR];omega,?_⟩,fun h0=>⟨by simp only[inR];omega,?_⟩⟩
 ·refine app_u32 el_num (Nat.le_refl _) ho hn hB (by simp) (by omega) fun A' c' w' h1 _ h2=>⟨by simp only[inR];omega,?_⟩
  rw[w1]
  have e1:Int.tmod s 1000000000+1000000000=s % 1000000000:=by omega
  have e2:Int.tdiv s 1000000000 - 1=s / 1000000000:=by omega
  rw[e1]at h1
  rw[e2]
  exact h A' c' w' h1 h2
 ·refine app_u32 el_num (Nat.le_refl _) ho hn hB (by simp) (by omega) fun A' c' w' h1 _ h2=>⟨by simp only[inR];omega,?_⟩
  rw[w1]
  have e1:Int.tmod s 1000000000=s % 1000000000:=by omega
  have e2:Int.tdiv s 1000000000=s / 1000000000:=by omega
  rw[e1]at h1
  rw[e2]
  exact h A' c' w' h1 h2

theorem SlU.getD{w:World}{A:Option Addr}{ws:List Nat}(h:SlU w A ws)(hs:Small ws){j:Int}(h0:0<=j)(h1:j<ws.length):
  ∃a,A=some a/\∃x:Nat,ws.getD j.toNat 0=x/\x<1000000000/\CellsAt w (a.add (j.toNat*1)) [.int .u32 (x:Int)]:=by
 obtain⟨a,hA,x,hx,hc⟩:=h.cell h0 h1
 exact⟨a,hA,x,by rw[List.getD_eq_getElem?_getD,hx];rfl,hs x (List.mem_of_getElem? hx),hc⟩

theorem Small.getD{l:List Nat}(h:Small l)(i:Nat):l.getD i 0<1000000000:=by
 rw[List.getD_eq_getElem?_getD]
 cases e:l[i]? with
 |none=>simp
 |some x=>exact h x (List.mem_of_getElem? e)

theorem merge_loop{w0:World}{a b:List Nat}(ha:SlU w0 A0 a)(hal:a.length=n0)(hsa:Small a)(hb:SlU w0 A1 b)(hbl:b.length=n1)(hsb:Small b)
  (hsg:sg=1∨sg= -1) (hpos:0<=(wv a:Int)+sg*wv b) (hmx:mx=(max n0 n1:Nat)) (h0:n0<=500000) (h1:n1<=500000)
  (hR:∀A n c w' ws,OwnU w' w0.heap.size A n c ws->Small ws->(wv ws:Int)=wv a+sg*wv b->n<=mx+1/\(n<=mx∨Norm ws)->Below w0.heap.size w0 w'->R (.slice A n c) w'):
  ∀(d:Nat)(n:Nat)(A:Option Addr)(c:Nat)(w:World)(ws:List Nat)(s:Int),mx - n=d->n<=mx->OwnU w w0.heap.size A n c ws->Small ws->Below w0.heap.size w0 w-> -1<=s/\s<=1->
   (wv ws:Int)+(1000000000^n:Nat)*s=wv (a.take n)+sg*wv (b.take n)->
   F.natural_merge_uint32_natural_num.L4 A0 n0 c0 A1 n1 c1 sg A n c s mx n w0.heap.size w R:=by
 intro d
 induction d with
 |zero=>
  intro n A c w ws s hd hn ho hs hw hsr inv
  have hlen:=ho.len
  have ea:a.take n=a:=List.take_of_length_le (by omega)
  have eb:b.take n=b:=List.take_of_length_le (by omega)
  rw[ea,eb]at inv
  have hlt:=wv_lt hs
  rw[hlen]at hlt
  refine F.natural_merge_uint32_natural_num.L4.step _ _ _ _ _ _ _ _ _ _ _ _ _ _ _ _ ⟨fun h=>by omega,fun h=>⟨fun h2=>⟨by simp only[inR];omega,?_⟩,fun h2=> ?_⟩⟩
  ·have hs1:s=1:=by omega
   subst hs1
   refine app_u32 el_num (Nat.le_refl _) ho (by omega) hw.size (by simp) (by omega) fun A' c' w' k1 _ k2=>hR A' _ c' w' _ k1 (hs.append (Small.cons (by decide) Small.nil)) ?_ ⟨by omega,.inr (by simp[Norm])⟩ (hw.trans k2)
   rw[wv_append,hlen,<-inv]
   simp[wv]
  ·refine hR A n c w ws ho hs ?_ ⟨by omega,.inl (by omega)⟩ hw
   have:s=0:=by
    rcases(by omega:s=0∨s= -1)with h|h
    ·exact h
    ·subst h;omega
   subst this
   simpa using inv
 |succ d ih=>
  intro n A c w ws s hd hn ho hs hw hsr inv
  have hlen:=ho.len
  have ga:=hsa.getD n
  have gb:=hsb.getD n
  have j10:F.natural_merge_uint32_natural_num.J10 A0 n0 c0 A1 n1 c1 sg A n c (s+(a.getD n 0:Nat)+sg*(b.getD n 0:Nat)) mx n w0.heap.size w R:=by
   refine merge_J10 ho (by omega) hw.size (by rcases hsg with h|h<;>subst h<;>omega) (by omega) fun A' c' w' k1 k2=> ?_
   have e:((n:Int)+1)=((n+1:Nat):Int):=by omega
   rw[e]
   refine ih (n+1) A' c' w' _ _ (by omega) (by omega) k1 (hs.append (Small.cons (by omega) Small.nil)) (hw.trans k2) (by rcases hsg with h|h<;>subst h<;>omega) ?_
   rw[wv_append,wv_take_succ,wv_take_succ,hlen]
   simp only[wv,Nat.mul_zero,Nat.add_zero,Int.natCast_add,Int.natCast_mul,Nat.pow_succ]
   obtain⟨t,ht⟩:∃t,t=s+(a.getD n 0:Nat)+sg*(b.getD n 0:Nat):=⟨_,rfl⟩
   rw[<-ht]
   have hx:((t % 1000000000).toNat:Int)=t - 1000000000*(t / 1000000000):=by omega
   rw[hx]
   generalize ((1000000000^n:Nat):Int)=P at inv⊢
   grind
  refine F.natural_merge_uint32_natural_num.L4.step _ _ _ _ _ _ _ _ _ _ _ _ _ _ _ _ ⟨fun h=> ?_,fun h=>by omega⟩
  have j8:F.natural_merge_uint32_natural_num.J8 A0 n0 c0 A1 n1 c1 sg A n c (s+(a.getD n 0:Nat)) n mx n w0.heap.size w R:=by
   refine F.natural_merge_uint32_natural_num.J8.step _ _ _ _ _ _ _ _ _ _ _ _ _ _ _ _ _ ⟨fun h=> ?_,fun h=> ?_⟩
   ·obtain⟨p,hp,x,hx,hx2,hc⟩:=(hb.below hw).getD hsb (j:=(n:Int)) (by omega) (by omega)
    rw[Int.toNat_natCast]at hx
    rw[hx]at j10 gb
    exact⟨by omega,p,hp,_,hc,by simp only[inR];omega,by simp only[inR];rcases hsg with h|h<;>subst h<;>omega,by simp only[inR];rcases hsg with h|h<;>subst h<;>omega,j10⟩
   ·have e:b.getD n 0=0:=by rw[List.getD_eq_getElem?_getD,List.getElem?_eq_none (by omega)];rfl
    rw[e]at j10
    simpa using j10
  refine⟨fun h=> ?_,fun h=> ?_⟩
  ·obtain⟨p,hp,x,hx,hx2,hc⟩:=(ha.below hw).getD hsa (j:=(n:Int)) (by omega) (by omega)
   rw[Int.toNat_natCast]at hx
   rw[hx]at j8 ga
   exact⟨by omega,p,hp,_,hc,by simp only[inR];omega,by simp only[inR];omega,j8⟩
  ·have e:a.getD n 0=0:=by rw[List.getD_eq_getElem?_getD,List.getElem?_eq_none (by omega)];rfl
   rw[e]at j8
   simpa using j8
end

theorem OwnU.norm{w:World}{B:Nat}{A:Option Addr}{n c:Nat}{ws:List Nat}(h:OwnU w B A n c ws)(hs:Small ws)(hn:Norm ws)(hl:n<2147483648):IsN w A n c (wv ws):=⟨ws,h.sl,h.len,h.cap,hl,hs,hn,rfl⟩

theorem norm_of_ge{l:List Nat}(hs:Small l)(h:l=[]∨1000000000^(l.length - 1)<=wv l):Norm l:=by
 rcases h with h|h
 ·subst h;simp[Norm]
 ·intro k
  have hn:l≠[]:=fun e=>by subst e;simp at k
  rw[List.getLast?_eq_some_getLast hn]at k
  have e:l=l.dropLast++[l.getLast hn]:=(List.dropLast_concat_getLast hn).symm
  have hk:l.getLast hn=0:=by simpa using k
  rw[e,wv_append,hk]at h
  simp only[wv,Nat.mul_zero,Nat.add_zero]at h
  have h2:=wv_lt (l:=l.dropLast) fun x hx=>hs x (List.dropLast_subset _ hx)
  simp at h h2
  omega

theorem natural_merge{w:World}{A0 A1:Option Addr}{n0 c0 n1 c1:Nat}{a b:List Nat}{sg:Int}(ha:SlU w A0 a)(hal:a.length=n0)(hsa:Small a)(hb:SlU w A1 b)(hbl:b.length=n1)(hsb:Small b)
  (hsg:sg=1∨sg= -1) (hpos:0<=(wv a:Int)+sg*wv b) (h0:n0<=500000) (h1:n1<=500000):
  Pure Tryz.prog 305 #[.slice A0 n0 c0,.slice A1 n1 c1,.int .i64 sg] w fun v w'=>∃A n c ws,v= .slice A n c/\OwnU w' w.heap.size A n c ws/\Small ws/\(wv ws:Int)=wv a+sg*wv b/\n<=max n0 n1+1/\(n<=max n0 n1∨Norm ws):=by
 refine F.natural_merge_uint32_natural_num.vc _ _ _ _ _ _ _ _ _ ⟨by simp only[inR];omega,?_⟩
 refine runOk_make0 el_num (by omega) (by omega) (Nat.le_refl _) fun A c w2 k1 _ k2=> ?_
 have em:(if(n1:Int)>(n0:Int)then(n1:Int)else(n0:Int))=((max n0 n1:Nat):Int):=by split<;>omega
 rw[em]
 refine merge_loop (mx:=((max n0 n1:Nat):Int)) ha hal hsa hb hbl hsb hsg hpos rfl h0 h1 (fun A n c w' ws k3 k4 k5 k6 k7=>⟨A,n,c,ws,rfl,k3,k4,k5,by omega,k6.2.imp (fun h=>by omega) id⟩) (max n0 n1) 0 A c w2 [] 0 (by omega) (by omega) k1 Small.nil k2 (by omega) (by simp[wv])

theorem natural_plus{w:World}{A0 A1:Option Addr}{n0 c0 n1 c1 x y:Nat}(ha:IsN w A0 n0 c0 x)(hb:IsN w A1 n1 c1 y)(hx:x<Lim)(hy:y<Lim):
  Pure Tryz.prog 281 #[.slice A0 n0 c0,.slice A1 n1 c1] w fun v w'=>∃A n c,v= .slice A n c/\IsN w' A n c (x+y):=by
 have l0:=ha.len hx
 have l1:=hb.len hy
 obtain⟨a,a1,a2,a3,a4,a5,a6,rfl⟩:=ha
 obtain⟨b,b1,b2,b3,b4,b5,b6,rfl⟩:=hb
 refine F.natural_num_plus.vc _ _ _ _ _ _ _ _ (Pure.mono (natural_merge a1 a2 a5 b1 b2 b5 (.inl rfl) (by omega) (by omega) (by omega)) ?_)
 rintro v w' hb ⟨A,n,c,ws,rfl,ho,hs,hv,hn,hnn⟩
 refine⟨A,n,c,rfl,A,n,c,rfl,?_⟩
 have e:wv ws=wv a+wv b:=by omega
 rw[<-e]
 refine ho.norm hs (hnn.elim (fun hn2=>norm_of_ge hs ?_) id) (by omega)
 by_cases hw:ws=[]
 ·exact .inl hw
 ·right
  have hl:=ho.len
  have hp:0<ws.length:=List.length_pos_iff.2 hw
  rw[e]
  by_cases hc:n1<=n0
  ·have h1:=wv_pos a6 (fun k=>by subst k;simp at a2;omega)
   exact Nat.le_trans (Nat.pow_le_pow_right (by omega) (by omega)) (Nat.le_trans h1 (by omega))
  ·have h1:=wv_pos b6 (fun k=>by subst k;simp at b2;omega)
   exact Nat.le_trans (Nat.pow_le_pow_right (by omega) (by omega)) (Nat.le_trans h1 (by omega))

theorem natural_minus{w:World}{A0 A1:Option Addr}{n0 c0 n1 c1 x y:Nat}(ha:IsN w A0 n0 c0 x)(hb:IsN w A1 n1 c1 y)(hx:x<Lim)(hy:y<=x):
  Pure Tryz.prog 283 #[.slice A0 n0 c0,.slice A1 n1 c1] w fun v w'=>∃A n c,v= .slice A n c/\IsN w' A n c (x - y):=by
 have l0:=ha.len hx
 have l1:=hb.len (Nat.lt_of_le_of_lt hy hx)
 obtain⟨a,a1,a2,a3,a4,a5,a6,rfl⟩:=ha
 obtain⟨b,b1,b2,b3,b4,b5,b6,rfl⟩:=hb
 refine F.natural_num_minus.vc _ _ _ _ _ _ _ _ (Pure.mono (natural_merge a1 a2 a5 b1 b2 b5 (.inr rfl) (by omega) (by omega) (by omega)) ?_)
 rintro v w' hb ⟨A,n,c,ws,rfl,ho,hs,hv,hn,hnn⟩
 refine⟨A,n,c,rfl,Pure.mono (natural_trim ho.sl ho.len ho.cap (by omega) hs) ?_⟩
 rintro v w2 hb2 ⟨rfl,m,rfl,h,_⟩
 have e:wv a - wv b=wv ws:=by omega
 rw[e]
 exact⟨A,m,c,rfl,A,m,c,rfl,h⟩
open Go Go.RowKit Go.Shelf Go.Proofs Go.Proofs.YtgfkeadgjkfomaaGreatDoor.Vc
attribute [local go_sem] Oper.semAt_some

def CK(b:Nat)(W W':World):Prop:=∀(k:Nat)(cs:Array Value)(ty:Nat)(fz:Nat×Nat),W.heap[k]? =some (.cells cs ty fz)->k≠b->ty≠5->W'.heap[k]? =some (.cells cs ty fz)
theorem CK.refl(b:Nat)(W:World):CK b W W:=fun _ _ _ _ h _ _=>h
theorem CK.trans{b:Nat}{W1 W2 W3:World}(h:CK b W1 W2)(k:CK b W2 W3):CK b W1 W3:=fun i cs ty fz h0 h1 h2=>k i cs ty fz (h i cs ty fz h0 h1 h2) h1 h2
theorem CK.putObj{b:Nat}(W:World)(l:Nat)(o o':Obj)(h:W.heap[l]? =some o)(hc:o.isCells=false):CK b W (W.putObj l o'):=by
 intro k cs ty fz h0 _ _
 rw[World.putObj_heap_other]
 ·exact h0
 ·intro e
  subst e
  rw[h]at h0
  cases h0
  simp[Obj.isCells]at hc

abbrev PW:=Nat×{x:Nat // x<1000000000}
abbrev encPW(p:PW):Array Value:= #[.int .i64 (p.1:Int),.int .u32 (p.2.1:Int)]
def gPW(ws:List Nat)(hs:Small ws)(j:Nat):PW:=(j,⟨ws.getD j 0,hs.getD j⟩)
def cameP(ws:List Nat)(hs:Small ws)(m:Nat):List PW:=(List.range (ws.length - m)).map fun t=>gPW ws hs (ws.length - 1 - t)
theorem cameP_step(ws:List Nat)(hs:Small ws){j:Nat}(h:j<ws.length):cameP ws hs j=cameP ws hs (j+1)++[gPW ws hs j]:=by
 unfold cameP
 rw[show ws.length - j=(ws.length - (j+1))+1 by omega,List.range_succ,List.map_append]
 simp
 congr 1
 omega
theorem cameP_all(ws:List Nat)(hs:Small ws):cameP ws hs ws.length=[]:=by simp[cameP]
theorem cameP_length(ws:List Nat)(hs:Small ws)(m:Nat):(cameP ws hs m).length=ws.length - m:=by simp[cameP]

set_option maxRecDepth 100000 in
set_option maxHeartbeats 2000000 in
theorem back_in(F:Fence)(n:Nat)(h9:F.fn 316)(hro:F.round=none)(hn:1<=n)(l Bs b wb off cap:Nat)(hBs:Bs≠b)(hwb:wb≠b)(ws:List Nat)(hs:Small ws)(hlen:ws.length<=1000000)(J Jx:List PW->World->Prop)
  (hY:∀pre x W,J pre W->pre.length<ws.length->YieldAt F (n - 1) Tryz.prog l (encPW x) W fun e W'=>
   (e= .returned (.bool true)/\J (pre++[x]) W'/\CK b W W')∨(e= .returned (.bool false)/\Jx (pre++[x]) W'))
  (W:World) (A:Option Addr) (hA:A=some ⟨wb,off,none⟩) (hBc:W.heap[Bs]? =some (.cells #[.slice A ws.length cap] 259 (0,0))) (all:Array Value) (fr:Nat×Nat) (hw:W.heap[wb]? =some (.cells all 217 fr))
  (hc:∀j,j<ws.length->all[off+j]? =some (.int .u32 (ws.getD j 0:Nat))) (h0:J [] W):
  CallsIn F n Tryz.prog 316 #[.func (.yield l) #[] #[],.pointer (some ⟨Bs,0,none⟩)] W fun e W'=>(∃v,e= .returned v)/\
   ((∃ys,ys=cameP ws hs 0/\J ys W')∨(∃pre,True/\Jx pre W')):=by
 refine callsIn_of_wp Tryz.func316 rfl h9 ?_ hro
 simp only[Tryz.ntmps316,List.size_toArray,List.length_cons,List.length_nil,Nat.reduceAdd,Nat.reduceSub,Array.replicate_succ,Array.replicate_zero,List.push_toArray,List.append_toArray,List.nil_append,List.cons_append]
 subst hA
 have cellBs:∀wr,CK b W wr->wr.cell? ⟨Bs,0,none⟩=some (.slice (some ⟨wb,off,none⟩) ws.length cap):=fun wr hk=>by
  have:=hk _ _ _ _ hBc hBs (by decide)
  simp[World.cell?,this]
 have hcx0:=cellBs W (CK.refl _ _)
 gi_wp2
 gi_loopw [3] (fun i wr=>∃m:Nat,m<=ws.length/\i= .int .i64 ((m:Int) - 1)/\J (cameP ws hs m) wr/\CK b W wr)
  (fun i _=>(intOf i+1).toNat)
 case atStart=>exact⟨ws.length,Nat.le_refl _,rfl,by rw[cameP_all];exact h0,CK.refl _ _⟩
 case round=>
  obtain⟨m,hm,rfl,hJs,hnx⟩:=hrel
  have hcx:=cellBs wr hnx
  cases m with
  |zero=>
   gi_wp2
   go_end0
   exact⟨⟨_,rfl⟩,.inl ⟨_,rfl,hJs⟩⟩
  |succ j=>
   have e1:((j+1:Nat):Int) - 1=(j:Int):=by omega
   have hcw:wr.cell? ⟨wb,off+j,none⟩=some (.int .u32 (ws.getD j 0:Nat)):=by
    have:=hnx _ _ _ _ hw hwb (by decide)
    simp only[World.cell?,this]
    exact hc j (by omega)
   obtain⟨fn,tmps,assign,body,hy,hR⟩:=hY _ (gPW ws hs j) wr hJs (by rw[cameP_length];omega)
   dsimp only[gPW,encPW]at hy
   simp only[List.getD_eq_getElem?_getD]at hy
   rw[e1]
   gi_wp2
   refine hR.mono ?_
   rintro e W3 (⟨rfl,hJ3,hk3⟩|⟨rfl,hJx3⟩)
   ·gi_wp2
    go_roundw
    case rel=>exact⟨j,by omega,rfl,by rw[cameP_step ws hs (by omega)];exact hJ3,hnx.trans hk3⟩
    case measure=>simp[intOf]
   ·gi_wp2
    refine bodyPost_ret (results_none rfl _ _ _) rfl ?_
    exact⟨⟨_,rfl⟩,.inr ⟨_,trivial,hJx3⟩⟩
end Go.Proofs.YtgfkeadgjkfomaaGreatDoor.B

namespace Go.Proofs
open Go.Shelf
def Tryz.lays169_ren:Go.Shelf.Ren:=⟨fun|169=>304|n=>n,fun|70=>293|9=>9|0=>0|72=>295|37=>251|127=>319|3=>3|5=>5|n=>n,fun|n=>n⟩
theorem Tryz.lays169:Go.Proofs.Lays.n169 Tryz.prog Tryz.lays169_ren:={
 mixed:=by kernel_rfl
 f169:=Tryz.func304.trans (congrArg some (by kernel_rfl))
 t0:=Tryz.underlying0
 a0:=Tryz.isAgg0
 z0:=Tryz.sizeOf0
 v0:=Tryz.zeroValue0
 t3:=Tryz.underlying3
 a3:=Tryz.isAgg3
 z3:=Tryz.sizeOf3
 v3:=Tryz.zeroValue3
 t9:=Tryz.underlying9
 a9:=Tryz.isAgg9
 z9:=Tryz.sizeOf9
 v9:=Tryz.zeroValue9
 t37:=Tryz.underlying251
 a37:=Tryz.isAgg251
 z37:=Tryz.sizeOf251
 v37:=Tryz.zeroValue251
 t70:=Tryz.underlying293
 a70:=Tryz.isAgg293
 z70:=Tryz.sizeOf293
 v70:=Tryz.zeroValue293
 t72:=Tryz.underlying295
 a72:=Tryz.isAgg295
 z72:=Tryz.sizeOf295
 v72:=Tryz.zeroValue295
 t127:=Tryz.underlying319
 a127:=Tryz.isAgg319
 z127:=Tryz.sizeOf319
 v127:=Tryz.zeroValue319}
theorem Tryz.Builder_Extra_169:Builder.Extra Tryz.prog Tryz.lays169_ren:={
 sizeBuilder:=by kernel_rfl
 liesBuilder:=by kernel_rfl
 t5:=Tryz.underlying5
 a5:=Tryz.isAgg5
 z5:=Tryz.sizeOf5
 v5:=Tryz.zeroValue5
 infoByte:=by kernel_rfl
 cellsByte:=by kernel_rfl
 sizeByte:=by kernel_rfl
 neB5:=by decide}
def Tryz.lays103_ren:Go.Shelf.Ren:=⟨fun|103=>254|210=>277|206=>298|n=>n,fun|9=>9|4=>4|24=>257|3=>3|n=>n,fun|n=>n⟩
theorem Tryz.lays103:Go.Proofs.Lays.n103 Tryz.prog Tryz.lays103_ren:={
 mixed:=by kernel_rfl
 f103:=Tryz.func254.trans (congrArg some (by kernel_rfl))
 f206:=Tryz.func298.trans (congrArg some (by kernel_rfl))
 f210:=Tryz.func277.trans (congrArg some (by kernel_rfl))
 t3:=Tryz.underlying3
 a3:=Tryz.isAgg3
 z3:=Tryz.sizeOf3
 v3:=Tryz.zeroValue3
 t4:=Tryz.underlying4
 a4:=Tryz.isAgg4
 z4:=Tryz.sizeOf4
 v4:=Tryz.zeroValue4
 t9:=Tryz.underlying9
 a9:=Tryz.isAgg9
 z9:=Tryz.sizeOf9
 v9:=Tryz.zeroValue9
 t24:=Tryz.underlying257
 a24:=Tryz.isAgg257
 z24:=Tryz.sizeOf257
 v24:=Tryz.zeroValue257}
open Go.RowKit in
theorem Tryz.strings_CutPrefix(s p:ByteArray)(w:World):
  Calls Tryz.prog 254 #[.string s,.string p] w fun e w'=>e= .returned (.tuple #[.string ⟨(Lib.trimPrefix s.data.toList p.data.toList).toArray⟩,.bool (Lib.hasPrefix s.data.toList p.data.toList)])/\w'=w:=Any.strings_CutPrefix Tryz.lays103 s p w
def Tryz.lays215_ren:Go.Shelf.Ren:=⟨fun|215=>74|n=>n,fun|3=>3|4=>4|n=>n,fun|n=>n⟩
theorem Tryz.lays215:Go.Proofs.Lays.n215 Tryz.prog Tryz.lays215_ren:={
 mixed:=by kernel_rfl
 f215:=Tryz.func74.trans (congrArg some (by kernel_rfl))
 t3:=Tryz.underlying3
 a3:=Tryz.isAgg3
 z3:=Tryz.sizeOf3
 v3:=Tryz.zeroValue3
 t4:=Tryz.underlying4
 a4:=Tryz.isAgg4
 z4:=Tryz.sizeOf4
 v4:=Tryz.zeroValue4}
open Go.RowKit in
theorem Tryz.cmp_isNaN_int(x:Int)(w:World):
  Calls Tryz.prog 74 #[.int .i64 x] w fun e w'=>e= .returned (.bool false)/\w'=w:=Any.cmp_isNaN_int Tryz.lays215 x w
def Tryz.lays122_ren:Go.Shelf.Ren:=⟨fun|122=>45|215=>74|n=>n,fun|3=>3|4=>4|n=>n,fun|n=>n⟩
theorem Tryz.lays122:Go.Proofs.Lays.n122 Tryz.prog Tryz.lays122_ren:={
 mixed:=by kernel_rfl
 f122:=Tryz.func45.trans (congrArg some (by kernel_rfl))
 f215:=Tryz.func74.trans (congrArg some (by kernel_rfl))
 t3:=Tryz.underlying3
 a3:=Tryz.isAgg3
 z3:=Tryz.sizeOf3
 v3:=Tryz.zeroValue3
 t4:=Tryz.underlying4
 a4:=Tryz.isAgg4
 z4:=Tryz.sizeOf4
 v4:=Tryz.zeroValue4}
open Go.RowKit in
theorem Tryz.cmp_Compare_int(x y:Int)(w:World):
  Calls Tryz.prog 45 #[.int .i64 x,.int .i64 y] w fun e w'=>e= .returned (.int .i64 (Lib.compareInt x y))/\w'=w:=Any.cmp_Compare_int Tryz.lays122 x y w
open Go.RowKit in
theorem Tryz.Builder_String_any_k(B b:Nat)(l:List UInt8)(w:World)(h:Lib.IsBuilderF 295 5 B b (Lib.byteCells l) w)(hBw:B<=w.heap.size):
  Calls Tryz.prog 304 #[.pointer (some ⟨b,0,none⟩)] w fun e w'=>e= .returned (.string ⟨l.toArray⟩)/\(Lib.IsBuilderF 295 5 B b (Lib.byteCells l) w'/\Below B w w'/\Lib.OthersKept 5 (some b) w w'):=Any.Builder_String_any_k Tryz.lays169 Tryz.Builder_Extra_169 B b l w h hBw
def Tryz.lays283_ren:Go.Shelf.Ren:=⟨fun|283=>250|n=>n,fun|3=>3|9=>9|4=>4|n=>n,fun|n=>n⟩
theorem Tryz.lays283:Go.Proofs.Lays.n283 Tryz.prog Tryz.lays283_ren:={
 mixed:=by kernel_rfl
 f283:=Tryz.func250.trans (congrArg some (by kernel_rfl))
 t3:=Tryz.underlying3
 a3:=Tryz.isAgg3
 z3:=Tryz.sizeOf3
 v3:=Tryz.zeroValue3
 t4:=Tryz.underlying4
 a4:=Tryz.isAgg4
 z4:=Tryz.sizeOf4
 v4:=Tryz.zeroValue4
 t9:=Tryz.underlying9
 a9:=Tryz.isAgg9
 z9:=Tryz.sizeOf9
 v9:=Tryz.zeroValue9}
open Go.Lib in
theorem Tryz.internal_strconv_small(i:Nat)(h:i<100)(w:World):
  Calls Tryz.prog 250 #[.int .i64 i] w fun e w'=>e= .returned (.string ⟨(Lib.decDigits i).toArray⟩)/\w'=w:=Any.internal_strconv_small Tryz.lays283 i h w
def Tryz.laysM284_ren:Go.Shelf.Ren:=⟨fun|284=>251|129=>273|317=>272|318=>274|n=>n,fun|53=>244|3=>3|212=>271|0=>0|4=>4|46=>125|5=>5|9=>9|n=>n,fun|17=>0|n=>n⟩
theorem Tryz.laysM284:Go.Proofs.LaysM.n284 Tryz.prog Tryz.laysM284_ren:={
 mixed:=by kernel_rfl
 f129:=Tryz.func273.trans (congrArg some (by kernel_rfl))
 f284:=Tryz.func251.trans (congrArg some (by kernel_rfl))
 f317:=Tryz.func272.trans (congrArg some (by kernel_rfl))
 f318:=Tryz.func274.trans (congrArg some (by kernel_rfl))
 t0:=Tryz.underlying0
 a0:=Tryz.isAgg0
 z0:=Tryz.sizeOf0
 v0:=Tryz.zeroValue0
 t3:=Tryz.underlying3
 a3:=Tryz.isAgg3
 z3:=Tryz.sizeOf3
 v3:=Tryz.zeroValue3
 t4:=Tryz.underlying4
 a4:=Tryz.isAgg4
 z4:=Tryz.sizeOf4
 v4:=Tryz.zeroValue4
 t5:=Tryz.underlying5
 a5:=Tryz.isAgg5
 z5:=Tryz.sizeOf5
 v5:=Tryz.zeroValue5
 t9:=Tryz.underlying9
 a9:=Tryz.isAgg9
 z9:=Tryz.sizeOf9
 v9:=Tryz.zeroValue9
 t46:=Tryz.underlying125
 a46:=Tryz.isAgg125
 z46:=Tryz.sizeOf125
 v46:=Tryz.zeroValue125
 t53:=Tryz.underlying244
 a53:=Tryz.isAgg244
 z53:=Tryz.sizeOf244
 v53:=Tryz.zeroValue244
 t212:=Tryz.underlying271
 a212:=Tryz.isAgg271
 z212:=Tryz.sizeOf271
 v212:=Tryz.zeroValue271
 g17:=by kernel_rfl
 i0:=by kernel_rfl
 i3:=by kernel_rfl
 i4:=by kernel_rfl
 i5:=by kernel_rfl
 i9:=by kernel_rfl
 i46:=by kernel_rfl
 i53:=by kernel_rfl
 i212:=by kernel_rfl
 m17:=by kernel_rfl}
open Go.Lib in
theorem Tryz.internal_strconv_numDigits (u : Nat) (h1 : 1 ≤ u) (h2 : u < 18446744073709551616) (w : World) (htab : Lib.TabIs Tryz.prog w "internal/strconv.uint64pow10" .u64 Lib.pow10Tab) :
  Calls Tryz.prog 251 #[.int .u64 u] w fun e w'=>e= .returned (.int .i64 (Lib.nDigits u))/\w'=w:=Any.internal_strconv_numDigits Tryz.laysM284 u h1 h2 w htab
def Tryz.lays285_ren:Go.Shelf.Ren:=⟨fun|285=>252|n=>n,fun|37=>251|53=>244|3=>3|4=>4|51=>217|9=>9|5=>5|0=>0|n=>n,fun|n=>n⟩
theorem Tryz.lays285:Go.Proofs.Lays.n285 Tryz.prog Tryz.lays285_ren:={
 mixed:=by kernel_rfl
 f285:=Tryz.func252.trans (congrArg some (by kernel_rfl))
 t0:=Tryz.underlying0
 a0:=Tryz.isAgg0
 z0:=Tryz.sizeOf0
 v0:=Tryz.zeroValue0
 t3:=Tryz.underlying3
 a3:=Tryz.isAgg3
 z3:=Tryz.sizeOf3
 v3:=Tryz.zeroValue3
 t4:=Tryz.underlying4
 a4:=Tryz.isAgg4
 z4:=Tryz.sizeOf4
 v4:=Tryz.zeroValue4
 t5:=Tryz.underlying5
 a5:=Tryz.isAgg5
 z5:=Tryz.sizeOf5
 v5:=Tryz.zeroValue5
 t9:=Tryz.underlying9
 a9:=Tryz.isAgg9
 z9:=Tryz.sizeOf9
 v9:=Tryz.zeroValue9
 t37:=Tryz.underlying251
 a37:=Tryz.isAgg251
 z37:=Tryz.sizeOf251
 v37:=Tryz.zeroValue251
 t51:=Tryz.underlying217
 a51:=Tryz.isAgg217
 z51:=Tryz.sizeOf217
 v51:=Tryz.zeroValue217
 t53:=Tryz.underlying244
 a53:=Tryz.isAgg244
 z53:=Tryz.sizeOf244
 v53:=Tryz.zeroValue244}
open Go.RowKit Go.Sort Go.Lib in
theorem Tryz.internal_strconv_formatBase10(blk off cap:Nat)(u:Nat)(d:Array UInt8)(w:World)(hH:Holds (fun(b:UInt8)=>Value.int .u8 (b.toNat:Int)) w blk off d)(hu:u<10^d.size)(hu64:u<18446744073709551616)(hsz:d.size<4611686018427387904):
  Calls Tryz.prog 252 #[.slice (some ⟨blk,off,none⟩) d.size cap,.int .u64 u] w fun e w'=>
   e= .returned (.tuple #[])/\∃(n v':Nat)(dk:Array UInt8),w'=(putRow (fun(b:UInt8)=>Value.int .u8 (b.toNat:Int)) w blk off dk).drewN n/\FmtInv d.size u 0 v' dk:=Any.internal_strconv_formatBase10 Tryz.lays285 blk off cap u d w hH hu hu64 hsz
def Tryz.laysM171_ren:Go.Shelf.Ren:=⟨fun|171=>169|243=>195|246=>228|283=>250|284=>251|285=>252|286=>253|129=>273|317=>272|318=>274|319=>275|320=>276|337=>296|338=>297|n=>n,fun|3=>3|9=>9|2=>2|4=>4|171=>252|0=>0|53=>244|37=>251|5=>5|173=>255|212=>271|51=>217|20=>20|213=>272|46=>125|232=>312|233=>313|n=>n,fun|17=>0|18=>2|19=>3|n=>n⟩
theorem Tryz.laysM171:Go.Proofs.LaysM.n171 Tryz.prog Tryz.laysM171_ren:={
 mixed:=by kernel_rfl
 f129:=Tryz.func273.trans (congrArg some (by kernel_rfl))
 f171:=Tryz.func169.trans (congrArg some (by kernel_rfl))
 f243:=Tryz.func195.trans (congrArg some (by kernel_rfl))
 f246:=Tryz.func228.trans (congrArg some (by kernel_rfl))
 f283:=Tryz.func250.trans (congrArg some (by kernel_rfl))
 f284:=Tryz.func251.trans (congrArg some (by kernel_rfl))
 f285:=Tryz.func252.trans (congrArg some (by kernel_rfl))
 f286:=Tryz.func253.trans (congrArg some (by kernel_rfl))
 f317:=Tryz.func272.trans (congrArg some (by kernel_rfl))
 f318:=Tryz.func274.trans (congrArg some (by kernel_rfl))
 f319:=Tryz.func275.trans (congrArg some (by kernel_rfl))
 f320:=Tryz.func276.trans (congrArg some (by kernel_rfl))
 f337:=Tryz.func296.trans (congrArg some (by kernel_rfl))
 f338:=Tryz.func297.trans (congrArg some (by kernel_rfl))
 t0:=Tryz.underlying0
 a0:=Tryz.isAgg0
 z0:=Tryz.sizeOf0
 v0:=Tryz.zeroValue0
 t2:=Tryz.underlying2
 a2:=Tryz.isAgg2
 z2:=Tryz.sizeOf2
 v2:=Tryz.zeroValue2
 t3:=Tryz.underlying3
 a3:=Tryz.isAgg3
 z3:=Tryz.sizeOf3
 v3:=Tryz.zeroValue3
 t4:=Tryz.underlying4
 a4:=Tryz.isAgg4
 z4:=Tryz.sizeOf4
 v4:=Tryz.zeroValue4
 t5:=Tryz.underlying5
 a5:=Tryz.isAgg5
 z5:=Tryz.sizeOf5
 v5:=Tryz.zeroValue5
 t9:=Tryz.underlying9
 a9:=Tryz.isAgg9
 z9:=Tryz.sizeOf9
 v9:=Tryz.zeroValue9
 t20:=Tryz.underlying20
 a20:=Tryz.isAgg20
 z20:=Tryz.sizeOf20
 v20:=Tryz.zeroValue20
 t37:=Tryz.underlying251
 a37:=Tryz.isAgg251
 z37:=Tryz.sizeOf251
 v37:=Tryz.zeroValue251
 t46:=Tryz.underlying125
 a46:=Tryz.isAgg125
 z46:=Tryz.sizeOf125
 v46:=Tryz.zeroValue125
 t51:=Tryz.underlying217
 a51:=Tryz.isAgg217
 z51:=Tryz.sizeOf217
 v51:=Tryz.zeroValue217
 t53:=Tryz.underlying244
 a53:=Tryz.isAgg244
 z53:=Tryz.sizeOf244
 v53:=Tryz.zeroValue244
 t171:=Tryz.underlying252
 a171:=Tryz.isAgg252
 z171:=Tryz.sizeOf252
 v171:=Tryz.zeroValue252
 t173:=Tryz.underlying255
 a173:=Tryz.isAgg255
 z173:=Tryz.sizeOf255
 v173:=Tryz.zeroValue255
 t212:=Tryz.underlying271
 a212:=Tryz.isAgg271
 z212:=Tryz.sizeOf271
 v212:=Tryz.zeroValue271
 t213:=Tryz.underlying272
 a213:=Tryz.isAgg272
 z213:=Tryz.sizeOf272
 t232:=Tryz.underlying312
 a232:=Tryz.isAgg312
 z232:=Tryz.sizeOf312
 v232:=Tryz.zeroValue312
 t233:=Tryz.underlying313
 a233:=Tryz.isAgg313
 z233:=Tryz.sizeOf313
 v233:=Tryz.zeroValue313
 g17:=by kernel_rfl
 g18:=by kernel_rfl
 g19:=by kernel_rfl
 i0:=by kernel_rfl
 i2:=by kernel_rfl
 i3:=by kernel_rfl
 i4:=by kernel_rfl
 i5:=by kernel_rfl
 i9:=by kernel_rfl
 i20:=by kernel_rfl
 i37:=by kernel_rfl
 i46:=by kernel_rfl
 i51:=by kernel_rfl
 i53:=by kernel_rfl
 i171:=by kernel_rfl
 i173:=by kernel_rfl
 i212:=by kernel_rfl
 i232:=by kernel_rfl
 i233:=by kernel_rfl
 m17:=by kernel_rfl
 m18:=by kernel_rfl
 m19:=by kernel_rfl}
open Go.RowKit Go.Sort Go.Lib in
theorem Tryz.strconv_Itoa (n : Int) (h0 : -9223372036854775808 ≤ n) (h1 : n ≤ 9223372036854775807) (w : World) (htab : Lib.TabIs Tryz.prog w "internal/strconv.uint64pow10" .u64 Lib.pow10Tab) :
  Calls Tryz.prog 169 #[.int .i64 n] w fun e w'=>e= .returned (.string ⟨(Lib.itoa n).toArray⟩)/\∃k os,w'=grow (w.drewN k) os:=Any.strconv_Itoa Tryz.laysM171 n h0 h1 w htab
def Tryz.laysM173_ren:Go.Shelf.Ren:=⟨fun|173=>311|246=>228|283=>250|284=>251|285=>252|286=>253|129=>273|317=>272|318=>274|319=>275|320=>276|337=>296|338=>297|n=>n,fun|2=>2|3=>3|9=>9|4=>4|171=>252|0=>0|53=>244|37=>251|5=>5|173=>255|212=>271|51=>217|20=>20|213=>272|46=>125|232=>312|233=>313|n=>n,fun|17=>0|18=>2|19=>3|n=>n⟩
theorem Tryz.laysM173:Go.Proofs.LaysM.n173 Tryz.prog Tryz.laysM173_ren:={
 mixed:=by kernel_rfl
 f129:=Tryz.func273.trans (congrArg some (by kernel_rfl))
 f173:=Tryz.func311.trans (congrArg some (by kernel_rfl))
 f246:=Tryz.func228.trans (congrArg some (by kernel_rfl))
 f283:=Tryz.func250.trans (congrArg some (by kernel_rfl))
 f284:=Tryz.func251.trans (congrArg some (by kernel_rfl))
 f285:=Tryz.func252.trans (congrArg some (by kernel_rfl))
 f286:=Tryz.func253.trans (congrArg some (by kernel_rfl))
 f317:=Tryz.func272.trans (congrArg some (by kernel_rfl))
 f318:=Tryz.func274.trans (congrArg some (by kernel_rfl))
 f319:=Tryz.func275.trans (congrArg some (by kernel_rfl))
 f320:=Tryz.func276.trans (congrArg some (by kernel_rfl))
 f337:=Tryz.func296.trans (congrArg some (by kernel_rfl))
 f338:=Tryz.func297.trans (congrArg some (by kernel_rfl))
 t0:=Tryz.underlying0
 a0:=Tryz.isAgg0
 z0:=Tryz.sizeOf0
 v0:=Tryz.zeroValue0
 t2:=Tryz.underlying2
 a2:=Tryz.isAgg2
 z2:=Tryz.sizeOf2
 v2:=Tryz.zeroValue2
 t3:=Tryz.underlying3
 a3:=Tryz.isAgg3
 z3:=Tryz.sizeOf3
 v3:=Tryz.zeroValue3
 t4:=Tryz.underlying4
 a4:=Tryz.isAgg4
 z4:=Tryz.sizeOf4
 v4:=Tryz.zeroValue4
 t5:=Tryz.underlying5
 a5:=Tryz.isAgg5
 z5:=Tryz.sizeOf5
 v5:=Tryz.zeroValue5
 t9:=Tryz.underlying9
 a9:=Tryz.isAgg9
 z9:=Tryz.sizeOf9
 v9:=Tryz.zeroValue9
 t20:=Tryz.underlying20
 a20:=Tryz.isAgg20
 z20:=Tryz.sizeOf20
 v20:=Tryz.zeroValue20
 t37:=Tryz.underlying251
 a37:=Tryz.isAgg251
 z37:=Tryz.sizeOf251
 v37:=Tryz.zeroValue251
 t46:=Tryz.underlying125
 a46:=Tryz.isAgg125
 z46:=Tryz.sizeOf125
 v46:=Tryz.zeroValue125
 t51:=Tryz.underlying217
 a51:=Tryz.isAgg217
 z51:=Tryz.sizeOf217
 v51:=Tryz.zeroValue217
 t53:=Tryz.underlying244
 a53:=Tryz.isAgg244
 z53:=Tryz.sizeOf244
 v53:=Tryz.zeroValue244
 t171:=Tryz.underlying252
 a171:=Tryz.isAgg252
 z171:=Tryz.sizeOf252
 v171:=Tryz.zeroValue252
 t173:=Tryz.underlying255
 a173:=Tryz.isAgg255
 z173:=Tryz.sizeOf255
 v173:=Tryz.zeroValue255
 t212:=Tryz.underlying271
 a212:=Tryz.isAgg271
 z212:=Tryz.sizeOf271
 v212:=Tryz.zeroValue271
 t213:=Tryz.underlying272
 a213:=Tryz.isAgg272
 z213:=Tryz.sizeOf272
 t232:=Tryz.underlying312
 a232:=Tryz.isAgg312
 z232:=Tryz.sizeOf312
 v232:=Tryz.zeroValue312
 t233:=Tryz.underlying313
 a233:=Tryz.isAgg313
 z233:=Tryz.sizeOf313
 v233:=Tryz.zeroValue313
 g17:=by kernel_rfl
 g18:=by kernel_rfl
 g19:=by kernel_rfl
 i0:=by kernel_rfl
 i2:=by kernel_rfl
 i3:=by kernel_rfl
 i4:=by kernel_rfl
 i5:=by kernel_rfl
 i9:=by kernel_rfl
 i20:=by kernel_rfl
 i37:=by kernel_rfl
 i46:=by kernel_rfl
 i51:=by kernel_rfl
 i53:=by kernel_rfl
 i171:=by kernel_rfl
 i173:=by kernel_rfl
 i212:=by kernel_rfl
 i232:=by kernel_rfl
 i233:=by kernel_rfl
 m17:=by kernel_rfl
 m18:=by kernel_rfl
 m19:=by kernel_rfl}
open Go.RowKit Go.Sort Go.Lib in
theorem Tryz.strconv_FormatInt_10 (n : Int) (h0 : -9223372036854775808 ≤ n) (h1 : n ≤ 9223372036854775807) (w : World) (htab : Lib.TabIs Tryz.prog w "internal/strconv.uint64pow10" .u64 Lib.pow10Tab) :
  Calls Tryz.prog 311 #[.int .i64 n,.int .i64 10] w fun e w'=>e= .returned (.string ⟨(Lib.itoa n).toArray⟩)/\∃k os,w'=grow (w.drewN k) os:=Any.strconv_FormatInt_10 Tryz.laysM173 n h0 h1 w htab
def Tryz.laysC174_ren:Go.Shelf.Ren:=⟨fun|174=>310|247=>324|245=>315|287=>314|279=>328|280=>329|281=>330|282=>331|321=>326|322=>327|316=>336|171=>169|205=>337|243=>195|246=>228|283=>250|284=>251|285=>252|286=>253|129=>273|317=>272|318=>274|319=>275|320=>276|337=>296|338=>297|n=>n,fun|9=>9|3=>3|2=>2|75=>290|85=>308|4=>4|167=>323|5=>5|53=>244|175=>291|46=>125|168=>325|37=>251|0=>0|210=>335|21=>21|127=>319|145=>340|143=>338|171=>252|173=>255|212=>271|51=>217|20=>20|213=>272|232=>312|233=>313|80=>210|n=>n,fun|15=>4|16=>5|17=>0|18=>2|19=>3|n=>n⟩
theorem Tryz.laysC174:Go.Proofs.LaysC.n174 Tryz.prog Tryz.laysC174_ren:={
 mixed:=by kernel_rfl
 f129:=Tryz.func273.trans (congrArg some (by kernel_rfl))
 f171:=Tryz.func169.trans (congrArg some (by kernel_rfl))
 f174:=Tryz.func310.trans (congrArg some (by kernel_rfl))
 f205:=Tryz.func337.trans (congrArg some (by kernel_rfl))
 f243:=Tryz.func195.trans (congrArg some (by kernel_rfl))
 f245:=Tryz.func315.trans (congrArg some (by kernel_rfl))
 f246:=Tryz.func228.trans (congrArg some (by kernel_rfl))
 f247:=Tryz.func324.trans (congrArg some (by kernel_rfl))
 f279:=Tryz.func328.trans (congrArg some (by kernel_rfl))
 f280:=Tryz.func329.trans (congrArg some (by kernel_rfl))
 f281:=Tryz.func330.trans (congrArg some (by kernel_rfl))
 f282:=Tryz.func331.trans (congrArg some (by kernel_rfl))
 f283:=Tryz.func250.trans (congrArg some (by kernel_rfl))
 f284:=Tryz.func251.trans (congrArg some (by kernel_rfl))
 f285:=Tryz.func252.trans (congrArg some (by kernel_rfl))
 f286:=Tryz.func253.trans (congrArg some (by kernel_rfl))
 f287:=Tryz.func314.trans (congrArg some (by kernel_rfl))
 f316:=Tryz.func336.trans (congrArg some (by kernel_rfl))
 f317:=Tryz.func272.trans (congrArg some (by kernel_rfl))
 f318:=Tryz.func274.trans (congrArg some (by kernel_rfl))
 f319:=Tryz.func275.trans (congrArg some (by kernel_rfl))
 f320:=Tryz.func276.trans (congrArg some (by kernel_rfl))
 f321:=Tryz.func326.trans (congrArg some (by kernel_rfl))
 f322:=Tryz.func327.trans (congrArg some (by kernel_rfl))
 f337:=Tryz.func296.trans (congrArg some (by kernel_rfl))
 f338:=Tryz.func297.trans (congrArg some (by kernel_rfl))
 t0:=Tryz.underlying0
 a0:=Tryz.isAgg0
 z0:=Tryz.sizeOf0
 v0:=Tryz.zeroValue0
 t2:=Tryz.underlying2
 a2:=Tryz.isAgg2
 z2:=Tryz.sizeOf2
 v2:=Tryz.zeroValue2
 t3:=Tryz.underlying3
 a3:=Tryz.isAgg3
 z3:=Tryz.sizeOf3
 v3:=Tryz.zeroValue3
 t4:=Tryz.underlying4
 a4:=Tryz.isAgg4
 z4:=Tryz.sizeOf4
 v4:=Tryz.zeroValue4
 t5:=Tryz.underlying5
 a5:=Tryz.isAgg5
 z5:=Tryz.sizeOf5
 v5:=Tryz.zeroValue5
 t9:=Tryz.underlying9
 a9:=Tryz.isAgg9
 z9:=Tryz.sizeOf9
 v9:=Tryz.zeroValue9
 t20:=Tryz.underlying20
 a20:=Tryz.isAgg20
 z20:=Tryz.sizeOf20
 v20:=Tryz.zeroValue20
 t21:=Tryz.underlying21
 a21:=Tryz.isAgg21
 z21:=Tryz.sizeOf21
 v21:=Tryz.zeroValue21
 t37:=Tryz.underlying251
 a37:=Tryz.isAgg251
 z37:=Tryz.sizeOf251
 v37:=Tryz.zeroValue251
 t46:=Tryz.underlying125
 a46:=Tryz.isAgg125
 z46:=Tryz.sizeOf125
 v46:=Tryz.zeroValue125
 t51:=Tryz.underlying217
 a51:=Tryz.isAgg217
 z51:=Tryz.sizeOf217
 v51:=Tryz.zeroValue217
 t53:=Tryz.underlying244
 a53:=Tryz.isAgg244
 z53:=Tryz.sizeOf244
 v53:=Tryz.zeroValue244
 t75:=Tryz.underlying290
 a75:=Tryz.isAgg290
 z75:=Tryz.sizeOf290
 v75:=Tryz.zeroValue290
 t85:=Tryz.underlying308
 a85:=Tryz.isAgg308
 z85:=Tryz.sizeOf308
 v85:=Tryz.zeroValue308
 t127:=Tryz.underlying319
 a127:=Tryz.isAgg319
 z127:=Tryz.sizeOf319
 v127:=Tryz.zeroValue319
 t143:=Tryz.underlying338
 a143:=Tryz.isAgg338
 z143:=Tryz.sizeOf338
 v143:=Tryz.zeroValue338
 t145:=Tryz.underlying340
 a145:=Tryz.isAgg340
 z145:=Tryz.sizeOf340
 v145:=Tryz.zeroValue340
 t167:=Tryz.underlying323
 a167:=Tryz.isAgg323
 z167:=Tryz.sizeOf323
 v167:=Tryz.zeroValue323
 t168:=Tryz.underlying325
 a168:=Tryz.isAgg325
 z168:=Tryz.sizeOf325
 v168:=Tryz.zeroValue325
 t171:=Tryz.underlying252
 a171:=Tryz.isAgg252
 z171:=Tryz.sizeOf252
 v171:=Tryz.zeroValue252
 t173:=Tryz.underlying255
 a173:=Tryz.isAgg255
 z173:=Tryz.sizeOf255
 v173:=Tryz.zeroValue255
 t175:=Tryz.underlying291
 a175:=Tryz.isAgg291
 z175:=Tryz.sizeOf291
 v175:=Tryz.zeroValue291
 t210:=Tryz.underlying335
 a210:=Tryz.isAgg335
 z210:=Tryz.sizeOf335
 v210:=Tryz.zeroValue335
 t212:=Tryz.underlying271
 a212:=Tryz.isAgg271
 z212:=Tryz.sizeOf271
 v212:=Tryz.zeroValue271
 t213:=Tryz.underlying272
 a213:=Tryz.isAgg272
 z213:=Tryz.sizeOf272
 t232:=Tryz.underlying312
 a232:=Tryz.isAgg312
 z232:=Tryz.sizeOf312
 v232:=Tryz.zeroValue312
 t233:=Tryz.underlying313
 a233:=Tryz.isAgg313
 z233:=Tryz.sizeOf313
 v233:=Tryz.zeroValue313
 g15:=by kernel_rfl
 g16:=by kernel_rfl
 g17:=by kernel_rfl
 g18:=by kernel_rfl
 g19:=by kernel_rfl
 t80:=Tryz.underlying210
 a80:=Tryz.isAgg210
 z80:=Tryz.sizeOf210
 v80:=Tryz.zeroValue210
 i0:=by kernel_rfl
 i2:=by kernel_rfl
 i3:=by kernel_rfl
 i4:=by kernel_rfl
 i5:=by kernel_rfl
 i9:=by kernel_rfl
 i20:=by kernel_rfl
 i21:=by kernel_rfl
 i37:=by kernel_rfl
 i46:=by kernel_rfl
 i51:=by kernel_rfl
 i53:=by kernel_rfl
 i75:=by kernel_rfl
 i80:=by kernel_rfl
 i85:=by kernel_rfl
 i127:=by kernel_rfl
 i143:=by kernel_rfl
 i145:=by kernel_rfl
 i167:=by kernel_rfl
 i168:=by kernel_rfl
 i171:=by kernel_rfl
 i173:=by kernel_rfl
 i175:=by kernel_rfl
 i210:=by kernel_rfl
 i212:=by kernel_rfl
 i232:=by kernel_rfl
 i233:=by kernel_rfl
 m15:=by kernel_rfl
 m16:=by kernel_rfl
 m17:=by kernel_rfl
 m18:=by kernel_rfl
 m19:=by kernel_rfl
 c0:=by kernel_rfl
 c2:=by kernel_rfl
 c3:=by kernel_rfl
 c4:=by kernel_rfl
 c5:=by kernel_rfl
 c9:=by kernel_rfl
 c20:=by kernel_rfl
 c21:=by kernel_rfl
 c37:=by kernel_rfl
 c46:=by kernel_rfl
 c51:=by kernel_rfl
 c53:=by kernel_rfl
 c75:=by kernel_rfl
 c80:=by kernel_rfl
 c85:=by kernel_rfl
 c127:=by kernel_rfl
 c143:=by kernel_rfl
 c145:=by kernel_rfl
 c167:=by kernel_rfl
 c168:=by kernel_rfl
 c171:=by kernel_rfl
 c173:=by kernel_rfl
 c175:=by kernel_rfl
 c210:=by kernel_rfl
 c212:=by kernel_rfl
 c213:=by kernel_rfl
 c232:=by kernel_rfl
 c233:=by kernel_rfl}
open Go.RowKit in
theorem Tryz.strconv_ParseInt_10_at64_ok(s:ByteArray)(hmax:s.size<=9223372036854775806)(v:Int)(h:Lib.parseIntB 64 s.data.toList= .ok v)(w:World):
  Calls Tryz.prog 310 #[.string s,.int .i64 10,.int .i64 64] w fun e w'=>e= .returned (.tuple #[.int .i64 v,.nilIface])/\(w'=w∨∃t,w'=Lib.bytesWorld w 5 t):=Any.strconv_ParseInt_10_at64_ok Tryz.laysC174 s hmax v h w
def Tryz.laysPu14_ren:Go.Shelf.Ren:=⟨fun|14=>299|16=>314|17=>315|19=>326|20=>327|21=>328|22=>329|23=>330|24=>331|25=>336|27=>169|26=>337|28=>195|29=>228|30=>250|31=>251|32=>252|33=>253|35=>273|34=>272|36=>274|37=>275|38=>276|39=>296|40=>297|n=>n,fun|9=>9|3=>3|22=>244|24=>290|25=>291|4=>4|34=>323|5=>5|36=>125|37=>251|0=>0|39=>325|21=>21|44=>335|47=>319|50=>340|48=>338|2=>2|52=>252|55=>255|59=>271|60=>217|20=>20|61=>272|65=>312|66=>313|67=>210|n=>n,fun|0=>4|1=>5|2=>0|3=>2|4=>3|n=>n⟩
theorem Tryz.laysPu14:Go.Proofs.LaysPu.n14 Tryz.prog Tryz.laysPu14_ren:={
 mixed:=by kernel_rfl
 f14:=Tryz.func299.trans (congrArg some (by kernel_rfl))
 f16:=Tryz.func314.trans (congrArg some (by kernel_rfl))
 f17:=Tryz.func315.trans (congrArg some (by kernel_rfl))
 f19:=Tryz.func326.trans (congrArg some (by kernel_rfl))
 f20:=Tryz.func327.trans (congrArg some (by kernel_rfl))
 f21:=Tryz.func328.trans (congrArg some (by kernel_rfl))
 f22:=Tryz.func329.trans (congrArg some (by kernel_rfl))
 f23:=Tryz.func330.trans (congrArg some (by kernel_rfl))
 f24:=Tryz.func331.trans (congrArg some (by kernel_rfl))
 f25:=Tryz.func336.trans (congrArg some (by kernel_rfl))
 f26:=Tryz.func337.trans (congrArg some (by kernel_rfl))
 f27:=Tryz.func169.trans (congrArg some (by kernel_rfl))
 f28:=Tryz.func195.trans (congrArg some (by kernel_rfl))
 f29:=Tryz.func228.trans (congrArg some (by kernel_rfl))
 f30:=Tryz.func250.trans (congrArg some (by kernel_rfl))
 f31:=Tryz.func251.trans (congrArg some (by kernel_rfl))
 f32:=Tryz.func252.trans (congrArg some (by kernel_rfl))
 f33:=Tryz.func253.trans (congrArg some (by kernel_rfl))
 f34:=Tryz.func272.trans (congrArg some (by kernel_rfl))
 f35:=Tryz.func273.trans (congrArg some (by kernel_rfl))
 f36:=Tryz.func274.trans (congrArg some (by kernel_rfl))
 f37:=Tryz.func275.trans (congrArg some (by kernel_rfl))
 f38:=Tryz.func276.trans (congrArg some (by kernel_rfl))
 f39:=Tryz.func296.trans (congrArg some (by kernel_rfl))
 f40:=Tryz.func297.trans (congrArg some (by kernel_rfl))
 t0:=Tryz.underlying0
 a0:=Tryz.isAgg0
 z0:=Tryz.sizeOf0
 v0:=Tryz.zeroValue0
 i0:=by kernel_rfl
 t2:=Tryz.underlying2
 a2:=Tryz.isAgg2
 z2:=Tryz.sizeOf2
 v2:=Tryz.zeroValue2
 i2:=by kernel_rfl
 t3:=Tryz.underlying3
 a3:=Tryz.isAgg3
 z3:=Tryz.sizeOf3
 v3:=Tryz.zeroValue3
 i3:=by kernel_rfl
 t4:=Tryz.underlying4
 a4:=Tryz.isAgg4
 z4:=Tryz.sizeOf4
 v4:=Tryz.zeroValue4
 i4:=by kernel_rfl
 t5:=Tryz.underlying5
 a5:=Tryz.isAgg5
 z5:=Tryz.sizeOf5
 v5:=Tryz.zeroValue5
 i5:=by kernel_rfl
 t9:=Tryz.underlying9
 a9:=Tryz.isAgg9
 z9:=Tryz.sizeOf9
 v9:=Tryz.zeroValue9
 i9:=by kernel_rfl
 t20:=Tryz.underlying20
 a20:=Tryz.isAgg20
 z20:=Tryz.sizeOf20
 v20:=Tryz.zeroValue20
 i20:=by kernel_rfl
 t21:=Tryz.underlying21
 a21:=Tryz.isAgg21
 z21:=Tryz.sizeOf21
 v21:=Tryz.zeroValue21
 i21:=by kernel_rfl
 t22:=Tryz.underlying244
 a22:=Tryz.isAgg244
 z22:=Tryz.sizeOf244
 v22:=Tryz.zeroValue244
 i22:=by kernel_rfl
 t24:=Tryz.underlying290
 a24:=Tryz.isAgg290
 z24:=Tryz.sizeOf290
 v24:=Tryz.zeroValue290
 i24:=by kernel_rfl
 t25:=Tryz.underlying291
 a25:=Tryz.isAgg291
 z25:=Tryz.sizeOf291
 v25:=Tryz.zeroValue291
 i25:=by kernel_rfl
 t34:=Tryz.underlying323
 a34:=Tryz.isAgg323
 z34:=Tryz.sizeOf323
 v34:=Tryz.zeroValue323
 i34:=by kernel_rfl
 c34:=by kernel_rfl
 t36:=Tryz.underlying125
 a36:=Tryz.isAgg125
 z36:=Tryz.sizeOf125
 v36:=Tryz.zeroValue125
 i36:=by kernel_rfl
 t37:=Tryz.underlying251
 a37:=Tryz.isAgg251
 z37:=Tryz.sizeOf251
 v37:=Tryz.zeroValue251
 i37:=by kernel_rfl
 t39:=Tryz.underlying325
 a39:=Tryz.isAgg325
 z39:=Tryz.sizeOf325
 v39:=Tryz.zeroValue325
 i39:=by kernel_rfl
 t44:=Tryz.underlying335
 a44:=Tryz.isAgg335
 z44:=Tryz.sizeOf335
 v44:=Tryz.zeroValue335
 i44:=by kernel_rfl
 t47:=Tryz.underlying319
 a47:=Tryz.isAgg319
 z47:=Tryz.sizeOf319
 v47:=Tryz.zeroValue319
 i47:=by kernel_rfl
 t48:=Tryz.underlying338
 a48:=Tryz.isAgg338
 z48:=Tryz.sizeOf338
 v48:=Tryz.zeroValue338
 i48:=by kernel_rfl
 t50:=Tryz.underlying340
 a50:=Tryz.isAgg340
 z50:=Tryz.sizeOf340
 v50:=Tryz.zeroValue340
 i50:=by kernel_rfl
 t52:=Tryz.underlying252
 a52:=Tryz.isAgg252
 z52:=Tryz.sizeOf252
 v52:=Tryz.zeroValue252
 i52:=by kernel_rfl
 t55:=Tryz.underlying255
 a55:=Tryz.isAgg255
 z55:=Tryz.sizeOf255
 v55:=Tryz.zeroValue255
 i55:=by kernel_rfl
 t59:=Tryz.underlying271
 a59:=Tryz.isAgg271
 z59:=Tryz.sizeOf271
 v59:=Tryz.zeroValue271
 i59:=by kernel_rfl
 t60:=Tryz.underlying217
 a60:=Tryz.isAgg217
 z60:=Tryz.sizeOf217
 v60:=Tryz.zeroValue217
 i60:=by kernel_rfl
 t61:=Tryz.underlying272
 a61:=Tryz.isAgg272
 z61:=Tryz.sizeOf272
 t65:=Tryz.underlying312
 a65:=Tryz.isAgg312
 z65:=Tryz.sizeOf312
 v65:=Tryz.zeroValue312
 i65:=by kernel_rfl
 t66:=Tryz.underlying313
 a66:=Tryz.isAgg313
 z66:=Tryz.sizeOf313
 v66:=Tryz.zeroValue313
 i66:=by kernel_rfl
 t67:=Tryz.underlying210
 a67:=Tryz.isAgg210
 z67:=Tryz.sizeOf210
 v67:=Tryz.zeroValue210
 i67:=by kernel_rfl
 g0:=by kernel_rfl
 m0:=by kernel_rfl
 g1:=by kernel_rfl
 m1:=by kernel_rfl
 g2:=by kernel_rfl
 m2:=by kernel_rfl
 g3:=by kernel_rfl
 m3:=by kernel_rfl
 g4:=by kernel_rfl
 m4:=by kernel_rfl}
open Go.RowKit in
theorem Tryz.strconv_ParseUint_10_at32_ok(s:ByteArray)(hmax:s.size<=9223372036854775806)(u:Nat)(h:Lib.parseUintB 32 s.data.toList= .ok u)(w:World):
  Calls Tryz.prog 299 #[.string s,.int .i64 10,.int .i64 32] w fun e w'=>e= .returned (.tuple #[.int .u64 u,.nilIface])/\(w'=w∨w'=Lib.bytesWorld w 5 s):=Any.strconv_ParseUint_10_at32_ok Tryz.laysPu14 s hmax u h w
def Tryz.lays145_ren:Go.Shelf.Ren:=⟨fun|145=>211|220=>241|219=>263|217=>284|225=>285|224=>286|267=>287|266=>307|314=>308|n=>n,fun|9=>9|4=>4|59=>212|3=>3|5=>5|46=>125|146=>305|51=>217|n=>n,fun|1=>1|n=>n⟩
theorem Tryz.lays145:Go.Proofs.Lays.n145 Tryz.prog Tryz.lays145_ren:={
 mixed:=by kernel_rfl
 f145:=Tryz.func211.trans (congrArg some (by kernel_rfl))
 f217:=Tryz.func284.trans (congrArg some (by kernel_rfl))
 f219:=Tryz.func263.trans (congrArg some (by kernel_rfl))
 f220:=Tryz.func241.trans (congrArg some (by kernel_rfl))
 f224:=Tryz.func286.trans (congrArg some (by kernel_rfl))
 f225:=Tryz.func285.trans (congrArg some (by kernel_rfl))
 f266:=Tryz.func307.trans (congrArg some (by kernel_rfl))
 f267:=Tryz.func287.trans (congrArg some (by kernel_rfl))
 f314:=Tryz.func308.trans (congrArg some (by kernel_rfl))
 t3:=Tryz.underlying3
 a3:=Tryz.isAgg3
 z3:=Tryz.sizeOf3
 v3:=Tryz.zeroValue3
 t4:=Tryz.underlying4
 a4:=Tryz.isAgg4
 z4:=Tryz.sizeOf4
 v4:=Tryz.zeroValue4
 t5:=Tryz.underlying5
 a5:=Tryz.isAgg5
 z5:=Tryz.sizeOf5
 v5:=Tryz.zeroValue5
 t9:=Tryz.underlying9
 a9:=Tryz.isAgg9
 z9:=Tryz.sizeOf9
 v9:=Tryz.zeroValue9
 t46:=Tryz.underlying125
 a46:=Tryz.isAgg125
 z46:=Tryz.sizeOf125
 v46:=Tryz.zeroValue125
 t51:=Tryz.underlying217
 a51:=Tryz.isAgg217
 z51:=Tryz.sizeOf217
 v51:=Tryz.zeroValue217
 t59:=Tryz.underlying212
 a59:=Tryz.isAgg212
 z59:=Tryz.sizeOf212
 v59:=Tryz.zeroValue212
 t146:=Tryz.underlying305
 a146:=Tryz.isAgg305
 z146:=Tryz.sizeOf305
 v146:=Tryz.zeroValue305
 g1:=by kernel_rfl}
open Go.RowKit Go.Lib in
theorem Tryz.strings_Cut(s sep:ByteArray)(m:Int)(w:World)(hs:s.size<4294967281)(hm:w.cell? ⟨1,0,none⟩=some (.int .i64 m)):
  Calls Tryz.prog 211 #[.string s,.string sep] w fun e w'=>e= .returned (.tuple #[.string ⟨(Lib.cut s.data.toList sep.data.toList).1.toArray⟩,.string ⟨(Lib.cut s.data.toList sep.data.toList).2.1.toArray⟩,.bool (Lib.cut s.data.toList sep.data.toList).2.2])/\∃n,w'=w.drewN n:=Any.strings_Cut Tryz.lays145 s sep m w hs hm
def Tryz.lays105_ren:Go.Shelf.Ren:=⟨fun|105=>303|212=>319|99=>320|165=>321|166=>302|170=>322|169=>304|263=>333|264=>334|206=>298|240=>318|241=>335|276=>332|277=>338|n=>n,fun|9=>9|3=>3|4=>4|20=>20|0=>0|46=>125|109=>316|5=>5|72=>295|76=>300|51=>217|146=>305|53=>244|148=>331|70=>293|37=>251|75=>290|127=>319|164=>328|80=>210|n=>n,fun|n=>n⟩
theorem Tryz.lays105:Go.Proofs.Lays.n105 Tryz.prog Tryz.lays105_ren:={
 mixed:=by kernel_rfl
 f99:=Tryz.func320.trans (congrArg some (by kernel_rfl))
 f105:=Tryz.func303.trans (congrArg some (by kernel_rfl))
 f165:=Tryz.func321.trans (congrArg some (by kernel_rfl))
 f166:=Tryz.func302.trans (congrArg some (by kernel_rfl))
 f169:=Tryz.func304.trans (congrArg some (by kernel_rfl))
 f170:=Tryz.func322.trans (congrArg some (by kernel_rfl))
 f206:=Tryz.func298.trans (congrArg some (by kernel_rfl))
 f212:=Tryz.func319.trans (congrArg some (by kernel_rfl))
 f240:=Tryz.func318.trans (congrArg some (by kernel_rfl))
 f241:=Tryz.func335.trans (congrArg some (by kernel_rfl))
 f263:=Tryz.func333.trans (congrArg some (by kernel_rfl))
 f264:=Tryz.func334.trans (congrArg some (by kernel_rfl))
 f276:=Tryz.func332.trans (congrArg some (by kernel_rfl))
 f277:=Tryz.func338.trans (congrArg some (by kernel_rfl))
 t0:=Tryz.underlying0
 a0:=Tryz.isAgg0
 z0:=Tryz.sizeOf0
 v0:=Tryz.zeroValue0
 t3:=Tryz.underlying3
 a3:=Tryz.isAgg3
 z3:=Tryz.sizeOf3
 v3:=Tryz.zeroValue3
 t4:=Tryz.underlying4
 a4:=Tryz.isAgg4
 z4:=Tryz.sizeOf4
 v4:=Tryz.zeroValue4
 t5:=Tryz.underlying5
 a5:=Tryz.isAgg5
 z5:=Tryz.sizeOf5
 v5:=Tryz.zeroValue5
 t9:=Tryz.underlying9
 a9:=Tryz.isAgg9
 z9:=Tryz.sizeOf9
 v9:=Tryz.zeroValue9
 t20:=Tryz.underlying20
 a20:=Tryz.isAgg20
 z20:=Tryz.sizeOf20
 v20:=Tryz.zeroValue20
 t37:=Tryz.underlying251
 a37:=Tryz.isAgg251
 z37:=Tryz.sizeOf251
 v37:=Tryz.zeroValue251
 t46:=Tryz.underlying125
 a46:=Tryz.isAgg125
 z46:=Tryz.sizeOf125
 v46:=Tryz.zeroValue125
 t51:=Tryz.underlying217
 a51:=Tryz.isAgg217
 z51:=Tryz.sizeOf217
 v51:=Tryz.zeroValue217
 t53:=Tryz.underlying244
 a53:=Tryz.isAgg244
 z53:=Tryz.sizeOf244
 v53:=Tryz.zeroValue244
 t70:=Tryz.underlying293
 a70:=Tryz.isAgg293
 z70:=Tryz.sizeOf293
 v70:=Tryz.zeroValue293
 t72:=Tryz.underlying295
 a72:=Tryz.isAgg295
 z72:=Tryz.sizeOf295
 v72:=Tryz.zeroValue295
 t75:=Tryz.underlying290
 a75:=Tryz.isAgg290
 z75:=Tryz.sizeOf290
 v75:=Tryz.zeroValue290
 t76:=Tryz.underlying300
 a76:=Tryz.isAgg300
 z76:=Tryz.sizeOf300
 v76:=Tryz.zeroValue300
 t109:=Tryz.underlying316
 a109:=Tryz.isAgg316
 z109:=Tryz.sizeOf316
 v109:=Tryz.zeroValue316
 t127:=Tryz.underlying319
 a127:=Tryz.isAgg319
 z127:=Tryz.sizeOf319
 v127:=Tryz.zeroValue319
 t146:=Tryz.underlying305
 a146:=Tryz.isAgg305
 z146:=Tryz.sizeOf305
 v146:=Tryz.zeroValue305
 t148:=Tryz.underlying331
 a148:=Tryz.isAgg331
 z148:=Tryz.sizeOf331
 v148:=Tryz.zeroValue331
 t164:=Tryz.underlying328
 a164:=Tryz.isAgg328
 z164:=Tryz.sizeOf328
 v164:=Tryz.zeroValue328}
theorem Tryz.Builder_Extra_105:Builder.Extra Tryz.prog Tryz.lays105_ren:={
 sizeBuilder:=by kernel_rfl
 liesBuilder:=by kernel_rfl
 t5:=Tryz.underlying5
 a5:=Tryz.isAgg5
 z5:=Tryz.sizeOf5
 v5:=Tryz.zeroValue5
 infoByte:=by kernel_rfl
 cellsByte:=by kernel_rfl
 sizeByte:=by kernel_rfl
 neB5:=by decide}
open Go.RowKit Go.Lib in
theorem Tryz.strings_Repeat(s:ByteArray)(c:Nat)(w:World)(hc:c<=9223372036854775807)(hlen:s.size*c<=140737488355328):
  Calls Tryz.prog 303 #[.string s,.int .i64 c] w fun e w'=>e= .returned (.string ⟨(Lib.repeatL s.data.toList c).toArray⟩)/\Below w.heap.size w w':=Any.strings_Repeat Tryz.lays105 Tryz.Builder_Extra_105 s c w hc hlen
end Go.Proofs
