/- Part 9 of the proofs that: without rules, and with holds that can take everything, any order of steps that only put in is one -/
import Derived.Test.YtgfkeadgjkfomaaGreatDoorH8
import Derived.Test.YtgfkeadgjkfomaaGreatDoorProg
set_option linter.unusedVariables false
set_option linter.unusedSimpArgs false
set_option maxRecDepth 100000
set_option maxHeartbeats 4000000
namespace Go.Proofs.YtgfkeadgjkfomaaGreatDoor.F
open Go Go.RowKit Go.Proofs Go.Proofs.YtgfkeadgjkfomaaGreatDoor.Vc
noncomputable def stowage_Keeps.cx(w:World)(B:Nat)(R:Value->World->Prop):Cx:=⟨Tryz.prog,35,27,Tryz.f35.results.toList,[],[],w,B,R⟩
theorem stowage_Keeps.vc(a:Option Addr)(b c:Nat)(d:Option Addr)(e f:Nat)(l:Option Addr)(m n:Nat)(g:Option Addr)(i j:Nat)(w:World)(R:Value->World->Prop)
  (h:(∀q,Ext w.heap.size [] w q->(Pure P 69 #[.agg #[.slice a b c,.slice d e f,.slice l m n],.slice g i j] q fun u r=>∃o,u= .bool o/\(((o=false)->(R (.bool false) r))/\(¬(o=false)->(Pure P 70 #[.agg #[.slice a b c,.slice d e f,.slice l m n],.slice g i j] r fun v s=>∃x p y,v= .slice x p y/\((((p:Int)>0)->(R (.bool false) s))/\(¬((p:Int)>0)->(Pure P 71 #[.agg #[.slice a b c,.slice d e f],.slice g i j] s fun z A=>∃t C,z= .tuple #[.int .i64 t,.int .i64 C]/\(R (.bool (decide (t<0))) A)))))))))):
  Pure P 35 #[.agg #[.slice a b c,.slice d e f,.slice l m n],.slice g i j] w R:=
 pure_of_run (stowage_Keeps.cx w w.heap.size R) 100000 follows Tryz.func35 rfl rfl rfl rfl rfl rfl rfl (Eq.mp (by kernel_rfl) h)

noncomputable def stowage_right.cx(w:World)(B:Nat)(R:Value->World->Prop):Cx:=⟨Tryz.prog,69,21,Tryz.f69.results.toList,[],[],w,B,R⟩
theorem stowage_right.vc(a:Option Addr)(b c:Nat)(d:Option Addr)(e f:Nat)(i:Option Addr)(j l:Nat)(m:Option Addr)(n o:Nat)(w:World)(R:Value->World->Prop)
  (h:(∀p,Ext w.heap.size [] w p->(Pure P 77 #[.agg #[.slice a b c,.slice d e f,.slice i j l]] p fun s q=>∃t g,s= .tuple #[.int .i64 t,.int .i64 g]/\(((g=0)->(Pure P 61 #[.agg #[.slice a b c,.slice d e f],.slice m n o] q fun u v=>∃r,u= .int .i64 r/\(R (.bool (decide (r=0))) v)))/\(¬(g=0)->(R (.bool false) q)))))):
  Pure P 69 #[.agg #[.slice a b c,.slice d e f,.slice i j l],.slice m n o] w R:=
 pure_of_run (stowage_right.cx w w.heap.size R) 100000 follows Tryz.func69 rfl rfl rfl rfl rfl rfl rfl (Eq.mp (by kernel_rfl) h)

def stowage_broken.L4(a:Option Addr)(b c:Nat)(d:Option Addr)(e f:Nat)(g:Option Addr)(i j:Nat)(l m:Int)(n:Option Addr)(o p:Nat)(q:Option Addr)(r s:Nat)(t:Option Addr)(u v B:Nat)(w:World)(R:Value->World->Prop):Prop:=At Tryz.prog 70 32 (loopAt Tryz.f70 4) [(1,.v (.slice a b c)),(2,.loc 2 0),(5,.loc 5 0),(6,.v (.slice d e f)),(11,.v (.slice g i j)),(12,.v (.int .i64 l)),(13,.v (.int .i64 m))] [⟨2,false,28,[(.slice n o p),(.slice q r s),(.slice t u v)]⟩,⟨5,false,132,[.nilFunc,(.func (.func 94) #[] #[]),(.func (.func 98) #[] #[]),(.func (.func 99) #[] #[]),(.func (.func 100) #[] #[])]⟩] B w R
noncomputable def stowage_broken.cx(w:World)(B:Nat)(R:Value->World->Prop):Cx:=⟨Tryz.prog,70,32,Tryz.f70.results.toList,[((true,4),[1,2,5,6,11,12,13],[2,5])],[(6,2,1),(7,2,2),(7,3,2)],w,B,R⟩
theorem stowage_broken.L4.step(b:Option Addr)(c d:Nat)(r:Option Addr)(s t:Nat)(u:Option Addr)(v x:Nat)(q a:Int)(e:Option Addr)(f g:Nat)(i:Option Addr)(j l:Nat)(m:Option Addr)(n o B:Nat)(w:World)(R:Value->World->Prop)
  (h:(((a<q)->((0<=a/\a<v)/\∃M,u=some M/\(∃y p z A C D E G H,CellsAt w (M.add ((a).toNat*7)) [.string y,.int .i64 p,.slice z A C,.string D,.string E,.int .i64 G,.int .i64 H]/\((0<=p/\p<5)/\(((((True/\(p=(0:Int)->False))/\(p=(1:Int)->(∀N,Ext B [] w N->(Pure P 94 #[.agg #[.slice e f g,.slice i j l,.slice m n o],.agg #[.string y,.int .i64 p,.slice z A C,.string D,.string E,.int .i64 G,.int .i64 H],.slice b c d] N fun c2 O=>∃I,c2= .bool I/\((I=true->(RunOk P (Instr.buildSlice 48 1 #[(0,(.int .i64 a))]) B [87,28,132] O fun c3 c4=>∃Q S T,c3= .slice Q S T/\(RunOk P (Builtin.append_ #[48,48] 48 #[.slice r s t,.slice Q S T]) B [87,28,132] c4 fun c5 c6=>∃U V X,c5= .slice U V X/\(inR .i64 (a+1)/\(stowage_broken.L4 b c d U V X u v x q (a+1) e f g i j l m n o B c6 R)))))/\(I=false->(inR .i64 (a+1)/\(stowage_broken.L4 b c d r s t u v x q (a+1) e f g i j l m n o B O R))))))))/\(p=(2:Int)->(∀Y,Ext B [] w Y->(Pure P 98 #[.agg #[.slice e f g,.slice i j l,.slice m n o],.agg #[.string y,.int .i64 p,.slice z A C,.string D,.string E,.int .i64 G,.int .i64 H],.slice b c d] Y fun c7 Z=>∃J,c7= .bool J/\((J=true->(RunOk P (Instr.buildSlice 48 1 #[(0,(.int .i64 a))]) B [87,28,132] Z fun c8 c9=>∃a0 a1 a2,c8= .slice a0 a1 a2/\(RunOk P (Builtin.append_ #[48,48] 48 #[.slice r s t,.slice a0 a1 a2]) B [87,28,132] c9 fun d0 d1=>∃a3 a4 a5,d0= .slice a3 a4 a5/\(inR .i64 (a+1)/\(stowage_broken.L4 b c d a3 a4 a5 u v x q (a+1) e f g i j l m n o B d1 R)))))/\(J=false->(inR .i64 (a+1)/\(stowage_broken.L4 b c d r s t u v x q (a+1) e f g i j l m n o B Z R))))))))/\(p=(3:Int)->(∀a6,Ext B [] w a6->(Pure P 99 #[.agg #[.slice e f g,.slice i j l,.slice m n o],.agg #[.string y,.int .i64 p,.slice z A C,.string D,.string E,.int .i64 G,.int .i64 H],.slice b c d] a6 fun d2 a7=>∃K,d2= .bool K/\((K=true->(RunOk P (Instr.buildSlice 48 1 #[(0,(.int .i64 a))]) B [87,28,132] a7 fun d3 d4=>∃a8 a9 b0,d3= .slice a8 a9 b0/\(RunOk P (Builtin.append_ #[48,48] 48 #[.slice r s t,.slice a8 a9 b0]) B [87,28,132] d4 fun d5 d6=>∃b1 b2 b3,d5= .slice b1 b2 b3/\(inR .i64 (a+1)/\(stowage_broken.L4 b c d b1 b2 b3 u v x q (a+1) e f g i j l m n o B d6 R)))))/\(K=false->(inR .i64 (a+1)/\(stowage_broken.L4 b c d r s t u v x q (a+1) e f g i j l m n o B a7 R))))))))/\(p=(4:Int)->(∀b4,Ext B [] w b4->(Pure P 100 #[.agg #[.slice e f g,.slice i j l,.slice m n o],.agg #[.string y,.int .i64 p,.slice z A C,.string D,.string E,.int .i64 G,.int .i64 H],.slice b c d] b4 fun d7 b5=>∃L,d7= .bool L/\((L=true->(RunOk P (Instr.buildSlice 48 1 #[(0,(.int .i64 a))]) B [87,28,132] b5 fun d8 d9=>∃b6 b7 b8,d8= .slice b6 b7 b8/\(RunOk P (Builtin.append_ #[48,48] 48 #[.slice r s t,.slice b6 b7 b8]) B [87,28,132] d9 fun e0 e1=>∃b9 c0 c1,e0= .slice b9 c0 c1/\(inR .i64 (a+1)/\(stowage_broken.L4 b c d b9 c0 c1 u v x q (a+1) e f g i j l m n o B e1 R)))))/\(L=false->(inR .i64 (a+1)/\(stowage_broken.L4 b c d r s t u v x q (a+1) e f g i j l m n o B b5 R))))))))))))/\(¬(a<q)->(R (.slice r s t) w)))):
  stowage_broken.L4 b c d r s t u v x q a e f g i j l m n o B w R:=
 loop_of_run (stowage_broken.cx w B R) 100000 (loopAt Tryz.f70 4) _ _ follows Tryz.func70 rfl rfl rfl (Eq.mp (by kernel_rfl) h)
theorem stowage_broken.vc(d:Option Addr)(e f:Nat)(g:Option Addr)(i j:Nat)(b:Option Addr)(a c:Nat)(l:Option Addr)(m n:Nat)(w:World)(R:Value->World->Prop)
  (h:(∀o,Ext w.heap.size [] w o->(stowage_broken.L4 l m n none 0 0 b a c (a:Int) (0:Int) d e f g i j b a c w.heap.size o R))):
  Pure P 70 #[.agg #[.slice d e f,.slice g i j,.slice b a c],.slice l m n] w R:=
 pure_of_run (stowage_broken.cx w w.heap.size R) 100000 follows Tryz.func70 rfl rfl rfl rfl rfl rfl rfl (Eq.mp (by kernel_rfl) h)

def stowage_Check.L7(a b:Int)(c:Option Addr)(d e:Nat)(f:Option Addr)(g i:Nat)(j:Option Addr)(l m B:Nat)(w:World)(R:Value->World->Prop):Prop:=At Tryz.prog 77 31 (loopAt Tryz.f77 7) [(1,.loc 1 0),(19,.v (.int .i64 a)),(20,.v (.int .i64 b))] [⟨1,false,28,[(.slice c d e),(.slice f g i),(.slice j l m)]⟩] B w R
noncomputable def stowage_Check.cx(w:World)(B:Nat)(R:Value->World->Prop):Cx:=⟨Tryz.prog,77,31,Tryz.f77.results.toList,[((true,7),[1,19,20],[1])],[],w,B,R⟩
theorem stowage_Check.L7.step(b a:Int)(d:Option Addr)(e f:Nat)(g:Option Addr)(i j:Nat)(l:Option Addr)(m n B:Nat)(w:World)(R:Value->World->Prop)
  (h:(((a<b)->(Pure P 110 #[.agg #[.slice d e f,.slice g i j,.slice l m n],.int .i64 a] w fun p o=>∃c,p= .int .i64 c/\(((c≠0)->(R (.tuple #[.int .i64 a,.int .i64 c]) o))/\(¬(c≠0)->(inR .i64 (a+1)/\(stowage_Check.L7 b (a+1) d e f g i j l m n B o R))))))/\(¬(a<b)->(R (.tuple #[(.int .i64 (-1:Int)),.int .i64 0]) w)))):
  stowage_Check.L7 b a d e f g i j l m n B w R:=
 loop_of_run (stowage_Check.cx w B R) 100000 (loopAt Tryz.f77 7) _ _ follows Tryz.func77 rfl rfl rfl (Eq.mp (by kernel_rfl) h)
theorem stowage_Check.vc(c:Option Addr)(d e:Nat)(f:Option Addr)(g i:Nat)(l:Option Addr)(a m:Nat)(w:World)(R:Value->World->Prop)
  (h:(∀n,Ext w.heap.size [] w n->(Pure P 86 #[.agg #[.slice c d e,.slice f g i]] n fun o j=>∃b,o= .int .i64 b/\(((b≠0)->(R (.tuple #[(.int .i64 (-1:Int)),.int .i64 b]) j))/\(¬(b≠0)->((((a:Int)>16)->(R (.tuple #[(.int .i64 (-1:Int)),.int .i64 8]) j))/\(¬((a:Int)>16)->(stowage_Check.L7 (a:Int) (0:Int) c d e f g i l a m w.heap.size j R)))))))):
  Pure P 77 #[.agg #[.slice c d e,.slice f g i,.slice l a m]] w R:=
 pure_of_run (stowage_Check.cx w w.heap.size R) 100000 follows Tryz.func77 rfl rfl rfl rfl rfl rfl rfl (Eq.mp (by kernel_rfl) h)

noncomputable def stowage_broken_c1.cx(w:World)(B:Nat)(R:Value->World->Prop):Cx:=⟨Tryz.prog,94,15,Tryz.f94.results.toList,[],[],w,B,R⟩
theorem stowage_broken_c1.vc(l:Option Addr)(m n:Nat)(o:Option Addr)(p q:Nat)(r:Option Addr)(s t:Nat)(a:ByteArray)(b:Int)(c:Option Addr)(d e:Nat)(f g:ByteArray)(i j:Int)(u:Option Addr)(v x:Nat)(w:World)(R:Value->World->Prop)
  (h:(∀y,Ext w.heap.size [] w y->(Pure P 97 #[.agg #[.slice l m n,.slice o p q,.slice r s t],.agg #[.string a,.int .i64 b,.slice c d e,.string f,.string g,.int .i64 i,.int .i64 j],.slice u v x] y fun D E=>∃z,D= .string z/\(Pure P 96 #[.agg #[.string a,.int .i64 b,.slice c d e,.string f,.string g,.int .i64 i,.int .i64 j],.string z] E fun G H=>∃A,G= .string A/\(Pure P 95 #[.string A] H fun I J=>∃C,I= .int .i64 C/\(R (.bool (decide (C≠0))) J)))))):
  Pure P 94 #[.agg #[.slice l m n,.slice o p q,.slice r s t],.agg #[.string a,.int .i64 b,.slice c d e,.string f,.string g,.int .i64 i,.int .i64 j],.slice u v x] w R:=
 pure_of_run (stowage_broken_c1.cx w w.heap.size R) 100000 follows Tryz.func94 rfl rfl rfl rfl rfl rfl rfl (Eq.mp (by kernel_rfl) h)

noncomputable def stowage_sign.cx(w:World)(B:Nat)(R:Value->World->Prop):Cx:=⟨Tryz.prog,95,5,Tryz.f95.results.toList,[],[],w,B,R⟩
theorem stowage_sign.vc(a:ByteArray)(w:World)(R:Value->World->Prop)
  (h:(Pure P 127 #[.string a,(.string ⟨#[48]⟩)] w fun c d=>∃b,c= .int .i64 b/\(R (.int .i64 b) d))):
  Pure P 95 #[.string a] w R:=
 pure_of_run (stowage_sign.cx w w.heap.size R) 100000 follows Tryz.func95 rfl rfl rfl rfl rfl rfl rfl (Eq.mp (by kernel_rfl) h)

noncomputable def stowage_excess.cx(w:World)(B:Nat)(R:Value->World->Prop):Cx:=⟨Tryz.prog,96,33,Tryz.f96.results.toList,[],[],w,B,R⟩
theorem stowage_excess.vc(r:ByteArray)(s:Int)(t:Option Addr)(u v:Nat)(a c:ByteArray)(x y:Int)(b:ByteArray)(w:World)(R:Value->World->Prop)
  (h:(((c≠(⟨#[]⟩:ByteArray))->(∀i,Ext w.heap.size [] w i->(Pure P 127 #[.string b,.string c] i fun z d=>∃e,z= .int .i64 e/\(((e>0)->(Pure P 128 #[.string b,.string c] d fun A C=>∃j,A= .string j/\(R (.string j) C)))/\(¬(e>0)->(((a≠(⟨#[]⟩:ByteArray))->(Pure P 127 #[.string b,.string a] d fun D l=>∃f,D= .int .i64 f/\(((f<0)->(Pure P 128 #[.string b,.string a] l fun E G=>∃m,E= .string m/\(R (.string m) G)))/\(¬(f<0)->(R (.string ⟨#[48]⟩) l)))))/\(¬(a≠(⟨#[]⟩:ByteArray))->(R (.string ⟨#[48]⟩) d))))))))/\(¬(c≠(⟨#[]⟩:ByteArray))->(((a≠(⟨#[]⟩:ByteArray))->(∀n,Ext w.heap.size [] w n->(Pure P 127 #[.string b,.string a] n fun H o=>∃g,H= .int .i64 g/\(((g<0)->(Pure P 128 #[.string b,.string a] o fun I J=>∃p,I= .string p/\(R (.string p) J)))/\(¬(g<0)->(R (.string ⟨#[48]⟩) o))))))/\(¬(a≠(⟨#[]⟩:ByteArray))->(∀q,Ext w.heap.size [] w q->(R (.string ⟨#[48]⟩) q))))))):
  Pure P 96 #[.agg #[.string r,.int .i64 s,.slice t u v,.string a,.string c,.int .i64 x,.int .i64 y],.string b] w R:=
 pure_of_run (stowage_excess.cx w w.heap.size R) 100000 follows Tryz.func96 rfl rfl rfl rfl rfl rfl rfl (Eq.mp (by kernel_rfl) h)

def stowage_sum.L3(a:Option Addr)(b c:Nat)(d:ByteArray)(e:Option Addr)(f g:Nat)(i j:Int)(l:Option Addr)(m n:Nat)(o:Option Addr)(p q:Nat)(r:Option Addr)(s t:Nat)(u:ByteArray)(v:Int)(x:Option Addr)(y z:Nat)(A C:ByteArray)(D E:Int)(B:Nat)(w:World)(R:Value->World->Prop):Prop:=At Tryz.prog 97 42 (loopAt Tryz.f97 3) [(2,.v (.slice a b c)),(3,.loc 3 0),(4,.loc 4 0),(7,.v (.string d)),(14,.v (.slice e f g)),(15,.v (.int .i64 i)),(16,.v (.int .i64 j))] [⟨3,false,28,[(.slice l m n),(.slice o p q),(.slice r s t)]⟩,⟨4,false,87,[(.string u),(.int .i64 v),(.slice x y z),(.string A),(.string C),(.int .i64 D),(.int .i64 E)]⟩] B w R
noncomputable def stowage_sum.cx(w:World)(B:Nat)(R:Value->World->Prop):Cx:=⟨Tryz.prog,97,42,Tryz.f97.results.toList,[((true,3),[2,3,4,7,14,15,16],[3,4])],[(6,9999,3)],w,B,R⟩
theorem stowage_sum.L3.step(c:Option Addr)(d e:Nat)(f:ByteArray)(g:Option Addr)(i t:Nat)(b a:Int)(j:Option Addr)(l m:Nat)(n:Option Addr)(o p:Nat)(u:Option Addr)(v x:Nat)(y:ByteArray)(z:Int)(q:Option Addr)(r A:Nat)(C D:ByteArray)(E G:Int)(B:Nat)(w:World)(R:Value->World->Prop)
  (h:(((a<b)->((0<=a/\a<i)/\∃H,g=some H/\(∃I S T U V X Y,CellsAt w (H.add ((a).toNat*7)) [.int .i64 I,.string S,.string T,.string U,.string V,.string X,.string Y]/\(∀J,Ext B [] w J->(Pure P 129 #[.agg #[.slice j l m,.slice n o p],.slice c d e,.int .i64 I] J fun Z a0=>∃K a1 a2 a3 a4 a5 a6,Z= .tuple #[.agg #[.string K,.string a1,.string a2,.string a3,.string a4,.string a5],.int .i64 a6]/\(∀s,Ext B [] a0 s->((0<=a/\a<r)/\∃L,q=some L/\(∃M,CellsAt s (L.add ((a).toNat*1)) [.string M]/\(∀N,Ext B [] s N->(Pure P 131 #[.string M,.string K] N fun a7 a8=>∃O,a7= .string O/\(Pure P 130 #[.string f,.string O] a8 fun a9 b0=>∃Q,a9= .string Q/\(inR .i64 (a+1)/\(stowage_sum.L3 c d e Q g i t b (a+1) j l m n o p u v x y z q r A C D E G B b0 R)))))))))))))/\(¬(a<b)->(R (.string f) w)))):
  stowage_sum.L3 c d e f g i t b a j l m n o p u v x y z q r A C D E G B w R:=
 loop_of_run (stowage_sum.cx w B R) 100000 (loopAt Tryz.f97 3) _ _ follows Tryz.func97 rfl rfl rfl (Eq.mp (by kernel_rfl) h)
theorem stowage_sum.vc(d:Option Addr)(e f:Nat)(b:Option Addr)(a c:Nat)(g:Option Addr)(i j:Nat)(l:ByteArray)(m:Int)(n:Option Addr)(o p:Nat)(q r:ByteArray)(s t:Int)(u:Option Addr)(v x:Nat)(w:World)(R:Value->World->Prop)
  (h:(∀y,Ext w.heap.size [] w y->(stowage_sum.L3 u v x (⟨#[48]⟩:ByteArray) b a c (a:Int) (0:Int) d e f b a c g i j l m n o p q r s t w.heap.size y R))):
  Pure P 97 #[.agg #[.slice d e f,.slice b a c,.slice g i j],.agg #[.string l,.int .i64 m,.slice n o p,.string q,.string r,.int .i64 s,.int .i64 t],.slice u v x] w R:=
 pure_of_run (stowage_sum.cx w w.heap.size R) 100000 follows Tryz.func97 rfl rfl rfl rfl rfl rfl rfl (Eq.mp (by kernel_rfl) h)

def stowage_apart.L2(a:Option Addr)(b c:Nat)(d:Option Addr)(e f:Nat)(g i:Int)(j:Option Addr)(l m:Nat)(n:Option Addr)(o p:Nat)(q:Option Addr)(r s:Nat)(t:ByteArray)(u:Int)(v:Option Addr)(x y:Nat)(z A:ByteArray)(C D:Int)(B:Nat)(w:World)(R:Value->World->Prop):Prop:=At Tryz.prog 98 48 (loopAt Tryz.f98 2) [(2,.v (.slice a b c)),(3,.loc 3 0),(4,.loc 4 0),(11,.v (.slice d e f)),(12,.v (.int .i64 g)),(13,.v (.int .i64 i))] [⟨3,false,28,[(.slice j l m),(.slice n o p),(.slice q r s)]⟩,⟨4,false,87,[(.string t),(.int .i64 u),(.slice v x y),(.string z),(.string A),(.int .i64 C),(.int .i64 D)]⟩] B w R
def stowage_apart.L5(a:Option Addr)(b c:Nat)(d:Option Addr)(e f:Nat)(g i:Int)(j:Option Addr)(l m:Nat)(n o:Int)(p:Option Addr)(q r:Nat)(s:Option Addr)(t u:Nat)(v:Option Addr)(x y:Nat)(z:ByteArray)(A:Int)(C:Option Addr)(D E:Nat)(G H:ByteArray)(I J K L M:Int)(B:Nat)(w:World)(R:Value->World->Prop):Prop:=At Tryz.prog 98 48 (loopAt Tryz.f98 5) [(2,.v (.slice a b c)),(3,.loc 3 0),(4,.loc 4 0),(8,.loc 8 0),(11,.v (.slice d e f)),(12,.v (.int .i64 g)),(13,.v (.int .i64 i)),(17,.v (.slice j l m)),(18,.v (.int .i64 n)),(19,.v (.int .i64 o))] [⟨3,false,28,[(.slice p q r),(.slice s t u),(.slice v x y)]⟩,⟨4,false,87,[(.string z),(.int .i64 A),(.slice C D E),(.string G),(.string H),(.int .i64 I),(.int .i64 J)]⟩,⟨8,false,39,[(.int .i64 K),(.int .i64 L),(.int .i64 M)]⟩] B w R
noncomputable def stowage_apart.cx(w:World)(B:Nat)(R:Value->World->Prop):Cx:=⟨Tryz.prog,98,48,Tryz.f98.results.toList,[((true,2),[2,3,4,11,12,13],[3,4]),((true,5),[2,3,4,8,11,12,13,17,18,19],[3,4,8])],[],w,B,R⟩
theorem stowage_apart.L2.step(d:Option Addr)(b e:Nat)(f:Option Addr)(g i:Nat)(c a:Int)(j:Option Addr)(l m:Nat)(n:Option Addr)(o p:Nat)(q:Option Addr)(r s:Nat)(t:ByteArray)(u:Int)(v:Option Addr)(x y:Nat)(z A:ByteArray)(C D:Int)(B:Nat)(w:World)(R:Value->World->Prop)
  (h:(((a<c)->((0<=a/\a<g)/\∃E,f=some E/\(∃G H I,CellsAt w (E.add ((a).toNat*3)) [.int .i64 G,.int .i64 H,.int .i64 I]/\(∀J,Ext B [] w J->(stowage_apart.L5 d b e f g i c a d b e (b:Int) (0:Int) j l m n o p q r s t u v x y z A C D G H I B J R)))))/\(¬(a<c)->(R (.bool false) w)))):
  stowage_apart.L2 d b e f g i c a j l m n o p q r s t u v x y z A C D B w R:=
 loop_of_run (stowage_apart.cx w B R) 100000 (loopAt Tryz.f98 2) _ _ follows Tryz.func98 rfl rfl rfl (Eq.mp (by kernel_rfl) h)
theorem stowage_apart.L5.step(r:Option Addr)(s t:Nat)(u:Option Addr)(v x:Nat)(y o:Int)(z:Option Addr)(A L:Nat)(p a:Int)(b:Option Addr)(c d:Nat)(e:Option Addr)(f g:Nat)(i:Option Addr)(j l:Nat)(C:ByteArray)(D:Int)(E:Option Addr)(G H:Nat)(I J:ByteArray)(m n q K M:Int)(B:Nat)(w:World)(R:Value->World->Prop)
  (h:(((a<p)->((0<=a/\a<A)/\∃S,z=some S/\(∃N T Z,CellsAt w (S.add ((a).toNat*3)) [.int .i64 N,.int .i64 T,.int .i64 Z]/\(((q=N)->(∀U,Ext B [] w U->(Pure P 132 #[.agg #[.slice b c d,.slice e f g,.slice i j l],.int .i64 K] U fun a0 V=>∃O,a0= .int .i64 O/\(((O=m)->(Pure P 132 #[.agg #[.slice b c d,.slice e f g,.slice i j l],.int .i64 T] V fun a1 X=>∃Q,a1= .int .i64 Q/\(((Q=n)->(R (.bool true) X))/\(¬(Q=n)->(inR .i64 (a+1)/\(stowage_apart.L5 r s t u v x y o z A L p (a+1) b c d e f g i j l C D E G H I J m n q K M B X R))))))/\(¬(O=m)->(inR .i64 (a+1)/\(stowage_apart.L5 r s t u v x y o z A L p (a+1) b c d e f g i j l C D E G H I J m n q K M B V R)))))))/\(¬(q=N)->(inR .i64 (a+1)/\(∀Y,Ext B [] w Y->(stowage_apart.L5 r s t u v x y o z A L p (a+1) b c d e f g i j l C D E G H I J m n q K M B Y R))))))))/\(¬(a<p)->(inR .i64 (o+1)/\(stowage_apart.L2 r s t u v x y (o+1) b c d e f g i j l C D E G H I J m n B w R))))):
  stowage_apart.L5 r s t u v x y o z A L p a b c d e f g i j l C D E G H I J m n q K M B w R:=
 loop_of_run (stowage_apart.cx w B R) 100000 (loopAt Tryz.f98 5) _ _ follows Tryz.func98 rfl rfl rfl (Eq.mp (by kernel_rfl) h)
theorem stowage_apart.vc(d:Option Addr)(e f:Nat)(g:Option Addr)(i j:Nat)(l:Option Addr)(m n:Nat)(o:ByteArray)(p:Int)(q:Option Addr)(r s:Nat)(t u:ByteArray)(v x:Int)(b:Option Addr)(a c:Nat)(w:World)(R:Value->World->Prop)
  (h:(∀y,Ext w.heap.size [] w y->(stowage_apart.L2 b a c b a c (a:Int) (0:Int) d e f g i j l m n o p q r s t u v x w.heap.size y R))):
  Pure P 98 #[.agg #[.slice d e f,.slice g i j,.slice l m n],.agg #[.string o,.int .i64 p,.slice q r s,.string t,.string u,.int .i64 v,.int .i64 x],.slice b a c] w R:=
 pure_of_run (stowage_apart.cx w w.heap.size R) 100000 follows Tryz.func98 rfl rfl rfl rfl rfl rfl rfl (Eq.mp (by kernel_rfl) h)

noncomputable def stowage_never.cx(w:World)(B:Nat)(R:Value->World->Prop):Cx:=⟨Tryz.prog,99,10,Tryz.f99.results.toList,[],[(1,1,5)],w,B,R⟩
theorem stowage_never.vc(d:Option Addr)(e f:Nat)(g:Option Addr)(i j:Nat)(l:Option Addr)(m n:Nat)(o:ByteArray)(p:Int)(q:Option Addr)(r s:Nat)(t u:ByteArray)(v x:Int)(y:Option Addr)(z A:Nat)(w:World)(R:Value->World->Prop)
  (h:(∀a,Ext w.heap.size [] w a->(∀b:Nat,w.heap.size<=b->a.heap[b]? =some (.cells [.slice d e f,.slice g i j,.slice l m n].toArray 28 (0,0))->(∀c:Nat,w.heap.size<=c->a.heap[c]? =some (.cells [.string o,.int .i64 p,.slice q r s,.string t,.string u,.int .i64 v,.int .i64 x].toArray 87 (0,0))->(Pure P 133 #[.slice y z A,(.func (.func 134) #[] #[(.pointer (some (⟨c,0,none⟩:Addr))),(.pointer (some (⟨b,0,none⟩:Addr)))])] a fun D E=>∃C,D= .bool C/\(R (.bool C) E)))))):
  Pure P 99 #[.agg #[.slice d e f,.slice g i j,.slice l m n],.agg #[.string o,.int .i64 p,.slice q r s,.string t,.string u,.int .i64 v,.int .i64 x],.slice y z A] w R:=
 pure_of_run (stowage_never.cx w w.heap.size R) 100000 follows Tryz.func99 rfl rfl rfl rfl rfl rfl rfl (Eq.mp (by kernel_rfl) h)

def stowage_whole.L4(a:Addr)(b:Int)(c:Option Addr)(d e:Nat)(f g:Int)(B:Nat)(w:World)(R:Value->World->Prop):Prop:=At Tryz.prog 100 41 (loopAt Tryz.f100 4) [(4,.v (.pointer (some a))),(8,.v (.int .i64 b)),(23,.v (.slice c d e)),(24,.v (.int .i64 f)),(25,.v (.int .i64 g))] [] B w R
noncomputable def stowage_whole.cx(w:World)(B:Nat)(R:Value->World->Prop):Cx:=⟨Tryz.prog,100,41,Tryz.f100.results.toList,[((true,4),[4,8,23,24,25],[])],[(1,3,5)],w,B,R⟩
theorem stowage_whole.L4.step(d:Addr)(b:Int)(e:Option Addr)(f i:Nat)(c a:Int)(B:Nat)(w:World)(R:Value->World->Prop)
  (h:(((a<c)->((0<=a/\a<f)/\∃n,e=some n/\(∃o j l,CellsAt w (n.add ((a).toNat*3)) [.int .i64 o,.int .i64 j,.int .i64 l]/\(∀g,Ext B [] w g->(∃m,CellsAt g (d.add 5) [.int .i64 m]/\(((j=m)->(inR .i64 (b - l)/\(inR .i64 (a+1)/\(stowage_whole.L4 d (b - l) e f i c (a+1) B g R))))/\(¬(j=m)->(inR .i64 (a+1)/\(stowage_whole.L4 d b e f i c (a+1) B g R)))))))))/\(¬(a<c)->(R (.bool (decide (b>0))) w)))):
  stowage_whole.L4 d b e f i c a B w R:=
 loop_of_run (stowage_whole.cx w B R) 100000 (loopAt Tryz.f100 4) _ _ follows Tryz.func100 rfl rfl rfl (Eq.mp (by kernel_rfl) h)
theorem stowage_whole.vc(c:Option Addr)(d g:Nat)(y:Option Addr)(z A:Nat)(C:Option Addr)(D E:Nat)(i:ByteArray)(j:Int)(l:Option Addr)(m n:Nat)(o p:ByteArray)(q r:Int)(s:Option Addr)(e t:Nat)(w:World)(R:Value->World->Prop)
  (h:(∀f,Ext w.heap.size [] w f->(∀a:Nat,w.heap.size<=a->f.heap[a]? =some (.cells [.string i,.int .i64 j,.slice l m n,.string o,.string p,.int .i64 q,.int .i64 r].toArray 87 (0,0))->(Pure P 111 #[.slice c d g,(.func (.func 135) #[] #[(.pointer (some (⟨a,0,none⟩:Addr)))])] f fun G u=>∃b,G= .int .i64 b/\((0<=b/\b<d)/\∃v,c=some v/\(∃x,CellsAt u ((v.add ((b).toNat*7)).add 1) [.int .i64 x]/\(stowage_whole.L4 (⟨a,0,none⟩:Addr) x s e t (e:Int) (0:Int) w.heap.size u R))))))):
  Pure P 100 #[.agg #[.slice c d g,.slice y z A,.slice C D E],.agg #[.string i,.int .i64 j,.slice l m n,.string o,.string p,.int .i64 q,.int .i64 r],.slice s e t] w R:=
 pure_of_run (stowage_whole.cx w w.heap.size R) 100000 follows Tryz.func100 rfl rfl rfl rfl rfl rfl rfl (Eq.mp (by kernel_rfl) h)

noncomputable def stowage_fault.cx(w:World)(B:Nat)(R:Value->World->Prop):Cx:=⟨Tryz.prog,110,114,Tryz.f110.results.toList,[],[(6,4,5)],w,B,R⟩
theorem stowage_fault.vc(Q:Option Addr)(S T:Nat)(U:Option Addr)(f V:Nat)(g:Option Addr)(j i:Nat)(c:Int)(w:World)(R:Value->World->Prop)
  (h:((0<=c/\c<j)/\∃X,g=some X/\(∀l,Ext w.heap.size [] w l->(∃d Y m n o p q Z i9,CellsAt l (X.add ((c).toNat*7)) [.string d,.int .i64 Y,.slice m n o,.string p,.string q,.int .i64 Z,.int .i64 i9]/\(∀a1,Ext w.heap.size [] l a1->(Pure P 148 #[.slice m n o,(.func (.func 149) #[] #[])] a1 fun c0 a2=>∃r,c0= .bool r/\((r=true->(R (.int .i64 1) a2))/\(r=false->(Pure P 151 #[.string p] a2 fun c1 a3=>∃s,c1= .bool s/\(((s=false)->(R (.int .i64 1) a3))/\(¬(s=false)->(Pure P 151 #[.string q] a3 fun c2 e=>∃t,c2= .bool t/\(((t=false)->(R (.int .i64 1) e))/\(¬(t=false)->(((((ByteArray.size d:Int):Int)<1)->(R (.int .i64 4) e))/\(¬(((ByteArray.size d:Int):Int)<1)->(((((ByteArray.size d:Int):Int)>64)->(R (.int .i64 4) e))/\(¬(((ByteArray.size d:Int):Int)>64)->((0<=c/\c<=(i:Int))/\(∀b:Nat,w.heap.size<=b->e.heap[b]? =some (.cells [.string d,.int .i64 Y,.slice m n o,.string p,.string q,.int .i64 Z,.int .i64 i9].toArray 87 (0,0))->(Pure P 152 #[(.slice g ((c).toNat) i),(.func (.func 153) #[] #[(.pointer (some (⟨b,0,none⟩:Addr)))])] e fun c3 a=>∃u,c3= .bool u/\((u=true->(R (.int .i64 6) a))/\(u=false->(∃v,CellsAt a ((⟨b,0,none⟩:Addr).add 1) [.int .i64 v]/\(((v<1)->(R (.int .i64 2) a))/\(¬(v<1)->(∃x,CellsAt a ((⟨b,0,none⟩:Addr).add 1) [.int .i64 x]/\(((x>4)->(R (.int .i64 2) a))/\(¬(x>4)->(∃y,CellsAt a ((⟨b,0,none⟩:Addr).add 1) [.int .i64 y]/\(((y=1)->(∃c4 z c5,CellsAt a ((⟨b,0,none⟩:Addr).add 2) [.slice c4 z c5]/\((((z:Int)≠(f:Int))->(R (.int .i64 10) a))/\(¬((z:Int)≠(f:Int))->(∃A,CellsAt a ((⟨b,0,none⟩:Addr).add 5) [.int .i64 A]/\(((A≠0)->(R (.int .i64 10) a))/\(¬(A≠0)->(∃C,CellsAt a ((⟨b,0,none⟩:Addr).add 6) [.int .i64 C]/\(((C≠0)->(R (.int .i64 10) a))/\(¬(C≠0)->(∃D,CellsAt a ((⟨b,0,none⟩:Addr).add 3) [.string D]/\(((D=(⟨#[]⟩:ByteArray))->(∃E,CellsAt a ((⟨b,0,none⟩:Addr).add 4) [.string E]/\(((E=(⟨#[]⟩:ByteArray))->(R (.int .i64 2) a))/\(¬(E=(⟨#[]⟩:ByteArray))->(∃G,CellsAt a ((⟨b,0,none⟩:Addr).add 3) [.string G]/\(((G≠(⟨#[]⟩:ByteArray))->(∃H,CellsAt a ((⟨b,0,none⟩:Addr).add 4) [.string H]/\(((H≠(⟨#[]⟩:ByteArray))->(∃a4,CellsAt a ((⟨b,0,none⟩:Addr).add 3) [.string a4]/\(∃a5,CellsAt a ((⟨b,0,none⟩:Addr).add 4) [.string a5]/\(Pure P 127 #[.string a4,.string a5] a fun c6 a6=>∃I,c6= .int .i64 I/\(((I>0)->(R (.int .i64 2) a6))/\(¬(I>0)->(R (.int .i64 0) a6)))))))/\(¬(H≠(⟨#[]⟩:ByteArray))->(R (.int .i64 0) a)))))/\(¬(G≠(⟨#[]⟩:ByteArray))->(R (.int .i64 0) a))))))))/\(¬(D=(⟨#[]⟩:ByteArray))->(∃J,CellsAt a ((⟨b,0,none⟩:Addr).add 3) [.string J]/\(((J≠(⟨#[]⟩:ByteArray))->(∃K,CellsAt a ((⟨b,0,none⟩:Addr).add 4) [.string K]/\(((K≠(⟨#[]⟩:ByteArray))->(∃a7,CellsAt a ((⟨b,0,none⟩:Addr).add 3) [.string a7]/\(∃a8,CellsAt a ((⟨b,0,none⟩:Addr).add 4) [.string a8]/\(Pure P 127 #[.string a7,.string a8] a fun c7 a9=>∃L,c7= .int .i64 L/\(((L>0)->(R (.int .i64 2) a9))/\(¬(L>0)->(R (.int .i64 0) a9)))))))/\(¬(K≠(⟨#[]⟩:ByteArray))->(R (.int .i64 0) a)))))/\(¬(J≠(⟨#[]⟩:ByteArray))->(R (.int .i64 0) a)))))))))))))))))/\(¬(y=1)->(∃c8 M c9,CellsAt a ((⟨b,0,none⟩:Addr).add 2) [.slice c8 M c9]/\((((M:Int)>0)->(R (.int .i64 10) a))/\(¬((M:Int)>0)->(∃N,CellsAt a ((⟨b,0,none⟩:Addr).add 3) [.string N]/\(((N≠(⟨#[]⟩:ByteArray))->(R (.int .i64 10) a))/\(¬(N≠(⟨#[]⟩:ByteArray))->(∃O,CellsAt a ((⟨b,0,none⟩:Addr).add 4) [.string O]/\(((O≠(⟨#[]⟩:ByteArray))->(R (.int .i64 10) a))/\(¬(O≠(⟨#[]⟩:ByteArray))->(∃b0 b1 b2 b3 b4 b5 b6 b7 b8,CellsAt a (⟨b,0,none⟩:Addr) [.string b0,.int .i64 b1,.slice b2 b3 b4,.string b5,.string b6,.int .i64 b7,.int .i64 b8]/\(Pure P 154 #[.agg #[.slice Q S T,.slice U f V,.slice g j i],.agg #[.string b0,.int .i64 b1,.slice b2 b3 b4,.string b5,.string b6,.int .i64 b7,.int .i64 b8]] a fun d0 d1=>∃b9,d0= .int .i64 b9/\(R (.int .i64 b9) d1)))))))))))))))))))))))))))))))))))))))))))):
  Pure P 110 #[.agg #[.slice Q S T,.slice U f V,.slice g j i],.int .i64 c] w R:=
 pure_of_run (stowage_fault.cx w w.heap.size R) 100000 follows Tryz.func110 rfl rfl rfl rfl rfl rfl rfl (Eq.mp (by kernel_rfl) h)

noncomputable def stowage_compare.cx(w:World)(B:Nat)(R:Value->World->Prop):Cx:=⟨Tryz.prog,127,14,Tryz.f127.results.toList,[],[],w,B,R⟩
theorem stowage_compare.vc(a b:ByteArray)(w:World)(R:Value->World->Prop)
  (h:(Pure P 141 #[.string a,.string b] w fun d e=>∃c f,d= .tuple #[.int .i64 c,.int .i64 f]/\(R (.int .i64 c) e))):
  Pure P 127 #[.string a,.string b] w R:=
 pure_of_run (stowage_compare.cx w w.heap.size R) 100000 follows Tryz.func127 rfl rfl rfl rfl rfl rfl rfl (Eq.mp (by kernel_rfl) h)

noncomputable def stowage_sub.cx(w:World)(B:Nat)(R:Value->World->Prop):Cx:=⟨Tryz.prog,128,14,Tryz.f128.results.toList,[],[],w,B,R⟩
theorem stowage_sub.vc(a b:ByteArray)(w:World)(R:Value->World->Prop)
  (h:(Pure P 164 #[.string a,.string b] w fun d e=>∃c f,d= .tuple #[.string c,.int .i64 f]/\(R (.string c) e))):
  Pure P 128 #[.string a,.string b] w R:=
 pure_of_run (stowage_sub.cx w w.heap.size R) 100000 follows Tryz.func128 rfl rfl rfl rfl rfl rfl rfl (Eq.mp (by kernel_rfl) h)

noncomputable def stowage_add.cx(w:World)(B:Nat)(R:Value->World->Prop):Cx:=⟨Tryz.prog,130,14,Tryz.f130.results.toList,[],[],w,B,R⟩
theorem stowage_add.vc(a b:ByteArray)(w:World)(R:Value->World->Prop)
  (h:(Pure P 165 #[.string a,.string b] w fun d e=>∃c f,d= .tuple #[.string c,.int .i64 f]/\(R (.string c) e))):
  Pure P 130 #[.string a,.string b] w R:=
 pure_of_run (stowage_add.cx w w.heap.size R) 100000 follows Tryz.func130 rfl rfl rfl rfl rfl rfl rfl (Eq.mp (by kernel_rfl) h)

noncomputable def stowage_mul.cx(w:World)(B:Nat)(R:Value->World->Prop):Cx:=⟨Tryz.prog,131,14,Tryz.f131.results.toList,[],[],w,B,R⟩
theorem stowage_mul.vc(a b:ByteArray)(w:World)(R:Value->World->Prop)
  (h:(Pure P 166 #[.string a,.string b] w fun d e=>∃c f,d= .tuple #[.string c,.int .i64 f]/\(R (.string c) e))):
  Pure P 131 #[.string a,.string b] w R:=
 pure_of_run (stowage_mul.cx w w.heap.size R) 100000 follows Tryz.func131 rfl rfl rfl rfl rfl rfl rfl (Eq.mp (by kernel_rfl) h)

noncomputable def stowage_class.cx(w:World)(B:Nat)(R:Value->World->Prop):Cx:=⟨Tryz.prog,132,18,Tryz.f132.results.toList,[],[(1,3,5)],w,B,R⟩
theorem stowage_class.vc(b:Option Addr)(c f:Nat)(m:Option Addr)(n o:Nat)(p:Option Addr)(q r:Nat)(g:Int)(w:World)(R:Value->World->Prop)
  (h:(∀d,Ext w.heap.size [] w d->(∀e:Nat,w.heap.size<=e->d.heap[e]? =some (.cells [.int .i64 g].toArray 3 (0,0))->(Pure P 111 #[.slice b c f,(.func (.func 167) #[] #[(.pointer (some (⟨e,0,none⟩:Addr)))])] d fun s i=>∃a,s= .int .i64 a/\((0<=a/\a<c)/\∃j,b=some j/\(∃l,CellsAt i ((j.add ((a).toNat*7)).add 2) [.int .i64 l]/\(R (.int .i64 l) i))))))):
  Pure P 132 #[.agg #[.slice b c f,.slice m n o,.slice p q r],.int .i64 g] w R:=
 pure_of_run (stowage_class.cx w w.heap.size R) 100000 follows Tryz.func132 rfl rfl rfl rfl rfl rfl rfl (Eq.mp (by kernel_rfl) h)

noncomputable def stowage_never_c1.cx(w:World)(B:Nat)(R:Value->World->Prop):Cx:=⟨Tryz.prog,134,19,Tryz.f134.results.toList,[],[(1,9999,3)],w,B,R⟩
theorem stowage_never_c1.vc(b e v:Int)(c:Addr)(f:Addr)(w:World)(R:Value->World->Prop)
  (h:(∀a,Ext w.heap.size [] w a->(∃d,CellsAt a (c.add 6) [.int .i64 d]/\(((b=d)->(∃g i j l m n o p q,CellsAt a f [.slice g i j,.slice l m n,.slice o p q]/\(∃r,CellsAt a (c.add 5) [.int .i64 r]/\(∀s,Ext w.heap.size [] a s->(Pure P 132 #[.agg #[.slice g i j,.slice l m n,.slice o p q],.int .i64 e] s fun x y=>∃t,x= .int .i64 t/\(R (.bool (decide (t=r))) y))))))/\(¬(b=d)->(∀u,Ext w.heap.size [] a u->(R (.bool false) u))))))):
  Pure P 134 #[.agg #[.int .i64 b,.int .i64 e,.int .i64 v],(.pointer (some c)),(.pointer (some f))] w R:=
 pure_of_run (stowage_never_c1.cx w w.heap.size R) 100000 follows Tryz.func134 rfl rfl rfl rfl rfl rfl rfl (Eq.mp (by kernel_rfl) h)

noncomputable def stowage_whole_c1.cx(w:World)(B:Nat)(R:Value->World->Prop):Cx:=⟨Tryz.prog,135,9,Tryz.f135.results.toList,[],[],w,B,R⟩
theorem stowage_whole_c1.vc(b e f:Int)(g i j l:ByteArray)(c:Addr)(w:World)(R:Value->World->Prop)
  (h:(∀a,Ext w.heap.size [] w a->(∃d,CellsAt a (c.add 5) [.int .i64 d]/\(R (.bool (decide (b=d))) a)))):
  Pure P 135 #[.agg #[.int .i64 b,.int .i64 e,.int .i64 f,.string g,.string i,.string j,.string l],(.pointer (some c))] w R:=
 pure_of_run (stowage_whole_c1.cx w w.heap.size R) 100000 follows Tryz.func135 rfl rfl rfl rfl rfl rfl rfl (Eq.mp (by kernel_rfl) h)

noncomputable def stowage_fault_c1.cx(w:World)(B:Nat)(R:Value->World->Prop):Cx:=⟨Tryz.prog,149,6,Tryz.f149.results.toList,[],[],w,B,R⟩
theorem stowage_fault_c1.vc(a:ByteArray)(w:World)(R:Value->World->Prop)
  (h:(Pure P 150 #[.string a] w fun c d=>∃b,c= .bool b/\(R (.bool (decide (b=false))) d))):
  Pure P 149 #[.string a] w R:=
 pure_of_run (stowage_fault_c1.cx w w.heap.size R) 100000 follows Tryz.func149 rfl rfl rfl rfl rfl rfl rfl (Eq.mp (by kernel_rfl) h)

noncomputable def stowage_empty.cx(w:World)(B:Nat)(R:Value->World->Prop):Cx:=⟨Tryz.prog,151,9,Tryz.f151.results.toList,[],[],w,B,R⟩
theorem stowage_empty.vc(a:ByteArray)(w:World)(R:Value->World->Prop)
  (h:(((a=(⟨#[]⟩:ByteArray))->(R (.bool true) w))/\(¬(a=(⟨#[]⟩:ByteArray))->(Pure P 150 #[.string a] w fun c d=>∃b,c= .bool b/\(R (.bool b) d))))):
  Pure P 151 #[.string a] w R:=
 pure_of_run (stowage_empty.cx w w.heap.size R) 100000 follows Tryz.func151 rfl rfl rfl rfl rfl rfl rfl (Eq.mp (by kernel_rfl) h)

noncomputable def stowage_fault_c2.cx(w:World)(B:Nat)(R:Value->World->Prop):Cx:=⟨Tryz.prog,153,9,Tryz.f153.results.toList,[],[],w,B,R⟩
theorem stowage_fault_c2.vc(b:ByteArray)(e:Int)(f:Option Addr)(g i:Nat)(j l:ByteArray)(m n:Int)(c:Addr)(w:World)(R:Value->World->Prop)
  (h:(∀a,Ext w.heap.size [] w a->(∃d,CellsAt a (c.add 0) [.string d]/\(R (.bool (decide (b=d))) a)))):
  Pure P 153 #[.agg #[.string b,.int .i64 e,.slice f g i,.string j,.string l,.int .i64 m,.int .i64 n],(.pointer (some c))] w R:=
 pure_of_run (stowage_fault_c2.cx w w.heap.size R) 100000 follows Tryz.func153 rfl rfl rfl rfl rfl rfl rfl (Eq.mp (by kernel_rfl) h)

noncomputable def stowage_other.cx(w:World)(B:Nat)(R:Value->World->Prop):Cx:=⟨Tryz.prog,154,51,Tryz.f154.results.toList,[],[(5,3,5),(13,3,5)],w,B,R⟩
theorem stowage_other.vc(u:Option Addr)(v x:Nat)(y:Option Addr)(z A:Nat)(L:Option Addr)(M N:Nat)(d:ByteArray)(b:Int)(e:Option Addr)(f g:Nat)(i j:ByteArray)(c a:Int)(w:World)(R:Value->World->Prop)
  (h:(((b=2)->(((c≥a)->(∀C,Ext w.heap.size [] w C->(R (.int .i64 2) C)))/\(¬(c≥a)->(∀D,Ext w.heap.size [] w D->(Pure P 181 #[.int .i64 c] D fun O E=>∃l,O= .bool l/\(((l=false)->(R (.int .i64 2) E))/\(¬(l=false)->(Pure P 181 #[.int .i64 a] E fun Q G=>∃m,Q= .bool m/\(((m=false)->(R (.int .i64 2) G))/\(¬(m=false)->(R (.int .i64 0) G)))))))))))/\(¬(b=2)->(((b=3)->(∀H,Ext w.heap.size [] w H->(Pure P 181 #[.int .i64 c] H fun S n=>∃o,S= .bool o/\(((o=false)->(R (.int .i64 2) n))/\(¬(o=false)->(∀p:Nat,w.heap.size<=p->n.heap[p]? =some (.cells [.string d,.int .i64 b,.slice e f g,.string i,.string j,.int .i64 c,.int .i64 a].toArray 87 (0,0))->(Pure P 182 #[.slice y z A,(.func (.func 183) #[] #[(.pointer (some (⟨p,0,none⟩:Addr)))])] n fun T I=>∃q,T= .bool q/\(((q=false)->(R (.int .i64 7) I))/\(¬(q=false)->(R (.int .i64 0) I))))))))))/\(¬(b=3)->(((a≠0)->(∀J,Ext w.heap.size [] w J->(R (.int .i64 2) J)))/\(¬(a≠0)->(∀r,Ext w.heap.size [] w r->(∀s:Nat,w.heap.size<=s->r.heap[s]? =some (.cells [.string d,.int .i64 b,.slice e f g,.string i,.string j,.int .i64 c,.int .i64 a].toArray 87 (0,0))->(Pure P 184 #[.slice u v x,(.func (.func 185) #[] #[(.pointer (some (⟨s,0,none⟩:Addr)))])] r fun U K=>∃t,U= .bool t/\(((t=false)->(R (.int .i64 7) K))/\(¬(t=false)->(R (.int .i64 0) K))))))))))))):
  Pure P 154 #[.agg #[.slice u v x,.slice y z A,.slice L M N],.agg #[.string d,.int .i64 b,.slice e f g,.string i,.string j,.int .i64 c,.int .i64 a]] w R:=
 pure_of_run (stowage_other.cx w w.heap.size R) 100000 follows Tryz.func154 rfl rfl rfl rfl rfl rfl rfl (Eq.mp (by kernel_rfl) h)

noncomputable def stowage_class_c1.cx(w:World)(B:Nat)(R:Value->World->Prop):Cx:=⟨Tryz.prog,167,8,Tryz.f167.results.toList,[],[],w,B,R⟩
theorem stowage_class_c1.vc(b e f:Int)(g i j l:ByteArray)(c:Addr)(w:World)(R:Value->World->Prop)
  (h:(∀a,Ext w.heap.size [] w a->(∃d,CellsAt a c [.int .i64 d]/\(R (.bool (decide (b=d))) a)))):
  Pure P 167 #[.agg #[.int .i64 b,.int .i64 e,.int .i64 f,.string g,.string i,.string j,.string l],(.pointer (some c))] w R:=
 pure_of_run (stowage_class_c1.cx w w.heap.size R) 100000 follows Tryz.func167 rfl rfl rfl rfl rfl rfl rfl (Eq.mp (by kernel_rfl) h)

noncomputable def stowage_other_c1.cx(w:World)(B:Nat)(R:Value->World->Prop):Cx:=⟨Tryz.prog,181,9,Tryz.f181.results.toList,[],[],w,B,R⟩
theorem stowage_other_c1.vc(a:Int)(w:World)(R:Value->World->Prop)
  (h:(((a≥(1:Int))->(R (.bool (decide (a<=(9:Int)))) w))/\(¬(a≥(1:Int))->(R (.bool false) w)))):
  Pure P 181 #[.int .i64 a] w R:=
 pure_of_run (stowage_other_c1.cx w w.heap.size R) 100000 follows Tryz.func181 rfl rfl rfl rfl rfl rfl rfl (Eq.mp (by kernel_rfl) h)

noncomputable def stowage_other_c2.cx(w:World)(B:Nat)(R:Value->World->Prop):Cx:=⟨Tryz.prog,183,9,Tryz.f183.results.toList,[],[],w,B,R⟩
theorem stowage_other_c2.vc(b:Int)(e f g i j l:ByteArray)(c:Addr)(w:World)(R:Value->World->Prop)
  (h:(∀a,Ext w.heap.size [] w a->(∃d,CellsAt a (c.add 6) [.int .i64 d]/\(R (.bool (decide (b=d))) a)))):
  Pure P 183 #[.agg #[.int .i64 b,.string e,.string f,.string g,.string i,.string j,.string l],(.pointer (some c))] w R:=
 pure_of_run (stowage_other_c2.cx w w.heap.size R) 100000 follows Tryz.func183 rfl rfl rfl rfl rfl rfl rfl (Eq.mp (by kernel_rfl) h)

noncomputable def stowage_other_c3.cx(w:World)(B:Nat)(R:Value->World->Prop):Cx:=⟨Tryz.prog,185,9,Tryz.f185.results.toList,[],[],w,B,R⟩
theorem stowage_other_c3.vc(b e f:Int)(g i j l:ByteArray)(c:Addr)(w:World)(R:Value->World->Prop)
  (h:(∀a,Ext w.heap.size [] w a->(∃d,CellsAt a (c.add 5) [.int .i64 d]/\(R (.bool (decide (b=d))) a)))):
  Pure P 185 #[.agg #[.int .i64 b,.int .i64 e,.int .i64 f,.string g,.string i,.string j,.string l],(.pointer (some c))] w R:=
 pure_of_run (stowage_other_c3.cx w w.heap.size R) 100000 follows Tryz.func185 rfl rfl rfl rfl rfl rfl rfl (Eq.mp (by kernel_rfl) h)

end Go.Proofs.YtgfkeadgjkfomaaGreatDoor.F

namespace Go.Proofs.YtgfkeadgjkfomaaGreatDoor.B
open Go Go.RowKit Go.Proofs Go.Proofs.YtgfkeadgjkfomaaGreatDoor.Vc

theorem stow_add{w:World}{x y:Rat}(hg:Glob w)(hx:Big x)(hy:Big y):Pure Tryz.prog 130 #[.string (rS x),.string (rS y)] w fun v _=>v= .string (rS (x+y)):=by
 refine F.stowage_add.vc _ _ _ _ (Pure.mono (rational_Add hg hx hy) ?_)
 rintro v w2 _ rfl
 exact⟨_,_,rfl,rfl⟩
theorem stow_sub{w:World}{x y:Rat}(hg:Glob w)(hx:Big x)(hy:Big y):Pure Tryz.prog 128 #[.string (rS x),.string (rS y)] w fun v _=>v= .string (rS (x - y)):=by
 refine F.stowage_sub.vc _ _ _ _ (Pure.mono (rational_Sub hg hx hy) ?_)
 rintro v w2 _ rfl
 exact⟨_,_,rfl,rfl⟩
theorem stow_mul{w:World}{x y:Rat}(hg:Glob w)(hx:Big x)(hy:Big y):Pure Tryz.prog 131 #[.string (rS x),.string (rS y)] w fun v _=>v= .string (rS (x*y)):=by
 refine F.stowage_mul.vc _ _ _ _ (Pure.mono (rational_Mul hg hx hy) ?_)
 rintro v w2 _ rfl
 exact⟨_,_,rfl,rfl⟩
theorem stow_compare{w:World}{x y:Rat}(hg:Glob w)(hx:Big x)(hy:Big y):Pure Tryz.prog 127 #[.string (rS x),.string (rS y)] w fun v _=>v= .int .i64 (cmpR x y):=by
 refine F.stowage_compare.vc _ _ _ _ (Pure.mono (rational_Compare hg hx hy) ?_)
 rintro v w2 _ rfl
 exact⟨_,_,rfl,rfl⟩
theorem stow_sign{w:World}{x:Rat}(hg:Glob w)(h:Big x):Pure Tryz.prog 95 #[.string (rS x)] w fun v _=>v= .int .i64 (cmpR x 0):=by
 refine F.stowage_sign.vc _ _ _ ?_
 rw[s0]
 refine Pure.mono (stow_compare hg h (Sm.zero (by omega))) ?_
 rintro v w2 _ rfl
 exact⟨_,rfl,rfl⟩
theorem rat_Valid{w:World}(hg:Glob w){s:ByteArray}(hs:SmS s):Pure Tryz.prog 150 #[.string s] w fun v _=>v= .bool (vR s):=by
 refine Pure.mono (rational_Valid hg s (Nat.le_trans hs (by decide))) ?_
 rintro v w2 _ rfl
 unfold vR
 cases isRat (by_ s)<;>rfl
theorem nil_size{s:ByteArray}:s=⟨#[]⟩↔s.size=0:=by
 constructor
 ·rintro rfl;rfl
 ·intro h
  obtain⟨d⟩:=s
  have:d.size=0:=h
  rw[Array.eq_empty_of_size_eq_zero this]
theorem stow_empty{w:World}(hg:Glob w){s:ByteArray}(hs:SmS s):Pure Tryz.prog 151 #[.string s] w fun v _=>v= .bool (eV s):=by
 refine F.stowage_empty.vc _ _ _ ⟨fun h=> ?_,fun h=> ?_⟩
 ·unfold eV
  rw[decide_eq_true (nil_size.1 h)]
  rfl
 ·refine Pure.mono (rat_Valid hg hs) ?_
  rintro v w2 _ rfl
  refine⟨_,rfl,?_⟩
  unfold eV
  rw[decide_eq_false (fun k=>h (nil_size.2 k))]
  rfl
theorem eV_ne{s:ByteArray}(h:eV s=true)(h0:¬s.size=0):vR s=true:=by
 unfold eV at h
 rw[decide_eq_false h0]at h
 exact h

theorem index_rules{w0:World}{A:Option Addr}{n c:Nat}{l:List Rm}(hl:SlR w0 A 7 (l.map Rm.row))(hlen:l.length=n)(hn:n<2147483648){f:Nat}{a k:Array Value}(hcall:callable Tryz.prog f=true){p:Rm->Bool}
  (hf:∀w,Below w0.heap.size w0 w->∀x∈l,Pure Tryz.prog f (a.toList++([x.val]:List Value)++k.toList).toArray w fun v _=>v= .bool (p x)) {R:Value->World->Prop} {r:Int} (hR:∀w,Below w0.heap.size w0 w->R (.int .i64 r) w):
  ∀(d i:Nat)(w:World),n - i=d->i<=n->Below w0.heap.size w0 w->r=idxG p i (l.drop i)->F.slices_IndexFunc_api_Rule_api_Rule.L2 A n c f a k n i w0.heap.size w R:=by
 intro d
 induction d with
 |zero=>
  intro i w hd hi hw hr
  rw[List.drop_eq_nil_of_le (by omega)]at hr
  subst hr
  exact F.slices_IndexFunc_api_Rule_api_Rule.L2.step _ _ _ _ _ _ _ _ _ _ _ ⟨fun h=>by omega,fun _=>hR w hw⟩
 |succ d ih=>
  intro i w hd hi hw hr
  have hil:i<l.length:=by omega
  rw[List.drop_eq_getElem_cons hil,idxG]at hr
  obtain⟨hb,ad,hA,hcell,_⟩:=(hl.keep hw (Nat.le_refl _)).at_ (fun _=>rfl) hlen hil
  refine F.slices_IndexFunc_api_Rule_api_Rule.L2.step _ _ _ _ _ _ _ _ _ _ _ ⟨fun _=> ?_,fun h=>by omega⟩
  refine⟨hb,ad,hA,_,_,_,_,_,_,_,_,_,hcell,hcall,Pure.mono (hf w hw l[i] (List.getElem_mem _)) ?_⟩
  rintro v w2 b2 rfl
  refine⟨_,rfl,fun h=> ?_,fun h=>⟨by simp only[inR];omega,?_⟩⟩
  ·rw[if_pos h]at hr
   subst hr
   exact hR w2 (kP hw b2)
  ·rw[if_neg (by simp[h])]at hr
   have e3:(i:Int)+1=((i+1:Nat):Int):=by omega
   rw[e3]
   exact ih (i+1) w2 (by omega) (by omega) (kP hw b2) hr
theorem anyRules{w0:World}{A:Option Addr}{n c:Nat}{l:List Rm}(hl:SlR w0 A 7 (l.map Rm.row))(hlen:l.length=n)(hn:n<2147483648){f:Nat}{a k:Array Value}(hcall:callable Tryz.prog f=true){p:Rm->Bool}
  (hf:∀w,Below w0.heap.size w0 w->∀x∈l,Pure Tryz.prog f (a.toList++([x.val]:List Value)++k.toList).toArray w fun v _=>v= .bool (p x)):
  Pure Tryz.prog 152 #[.slice A n c,.func (.func f) a k] w0 fun v _=>v= .bool (l.any p):=by
 refine F.slices_ContainsFunc_api_Rule_api_Rule.vc _ _ _ _ _ _ _ _ (Pure.mono (F.slices_IndexFunc_api_Rule_api_Rule.vc _ _ _ _ _ _ _ _ (index_rules hl hlen hn hcall hf (R:=fun v _=>v= .int .i64 (idxG p 0 l)) (fun _ _=>rfl) n 0 w0 rfl (by omega) (Below.refl _ _) rfl)) ?_)
 rintro v w2 _ rfl
 exact⟨_,rfl,by rw[any_idx]⟩
theorem anyRats{w0:World}{A:Option Addr}{n c:Nat}{l:List ByteArray}(hl:SlR w0 A 1 (l.map sRow))(hlen:l.length=n)(hn:n<2147483648){f:Nat}{a k:Array Value}(hcall:callable Tryz.prog f=true){p:ByteArray->Bool}
  (hf:∀w,Below w0.heap.size w0 w->∀x∈l,Pure Tryz.prog f (a.toList++([.string x]:List Value)++k.toList).toArray w fun v _=>v= .bool (p x)):
  Pure Tryz.prog 148 #[.slice A n c,.func (.func f) a k] w0 fun v _=>v= .bool (l.any p):=by
 refine F.slices_ContainsFunc_api_Rat_api_Rat.vc _ _ _ _ _ _ _ _ (Pure.mono (F.slices_IndexFunc_api_Rat_api_Rat.vc _ _ _ _ _ _ _ _ (index_rats hl hlen hn hcall hf (R:=fun v _=>v= .int .i64 (idxG p 0 l)) (fun _=>rfl) n 0 w0 rfl (by omega) (Below.refl _ _) rfl)) ?_)
 rintro v w2 _ rfl
 exact⟨_,rfl,by rw[any_idx]⟩

theorem at_a{α:Type}{row:α->List Value}{sz:Nat}{w:World}{A:Option Addr}{n:Nat}{v:List α}{a:Addr}(h:SlR w A sz (v.map row))(hr:∀x,(row x).length=sz)(hl:v.length=n){i:Nat}(hi:i<v.length)(hA:A=some a):
  CellsAt w (a.add ((i:Int).toNat*sz)) (row v[i])/\∀k u,(row v[i])[k]? =some u->CellsAt w ((a.add ((i:Int).toNat*sz)).add k) [u]:=by
 obtain⟨_,a',hA',h1,h2⟩:=h.at_ hr hl hi
 rw[hA]at hA'
 cases hA'
 exact⟨h1,h2⟩
theorem ixI_ge{o:Option Nat}:(ixI o≥0)↔o≠none:=by cases o<;>simp[ixI]<;>omega
theorem class_v(n:Int)(w:World):Pure Tryz.prog 181 #[.int .i64 n] w fun v _=>v= .bool (decide (1<=n/\n<=9)):=by
 refine F.stowage_other_c1.vc _ _ _ ⟨fun h=> ?_,fun h=> ?_⟩
 ·refine congrArg Value.bool ?_
  rw[decide_eq_decide]
  omega
 ·refine congrArg Value.bool ?_
  exact(decide_eq_false (by omega)).symm

section
variable {w:World} {A0 A1 A2:Option Addr} {n0 c0 n1 c1 n2 c2:Nat} {ps:List Pa} {hs:List Ho} {xs:List Rm}
theorem stow_other(hp:PrIn w A0 n0 A1 n1 A2 n2 c2 ps hs xs)(x:Rm):
  Pure Tryz.prog 154 #[.agg #[.slice A0 n0 c0,.slice A1 n1 c1,.slice A2 n2 c2],x.val] w fun v _=>v= .int .i64
   (if x.r.kind=2 then(if ¬(x.r.a<x.r.b/\(1<=x.r.a/\x.r.a<=9)/\(1<=x.r.b/\x.r.b<=9))then 2 else 0)
   else if x.r.kind=3 then(if ¬(1<=x.r.a/\x.r.a<=9)then 2 else if hix hs x.r.b=none then 7 else 0)
   else if x.r.b≠0 then 2 else if pix ps x.r.a=none then 7 else 0):=by
 have hnh:=hp.c.nh
 have hnp:=hp.c.np
 refine F.stowage_other.vc _ _ _ _ _ _ _ _ _ _ _ _ _ _ _ _ _ _ _ _ ⟨fun k2=> ?_,fun k2=>⟨fun k3=> ?_,fun k3=> ?_⟩⟩
 ·rw[if_pos k2]
  refine⟨fun h w1 _=> ?_,fun h w2 _=> ?_⟩
  ·rw[if_pos (fun k=>absurd k.1 (by omega))]
  refine Pure.mono (class_v _ _) ?_
  rintro v w5 _ rfl
  refine⟨_,rfl,fun h1=> ?_,fun h1=> ?_⟩
  ·have h1:=of_decide_eq_false h1
   rw[if_pos (fun k=>h1 k.2.1)]
  have h1:=of_decide_eq_true (Bool.not_eq_false _|>.mp h1)
  refine Pure.mono (class_v _ _) ?_
  rintro v w8 _ rfl
  refine⟨_,rfl,fun h2=> ?_,fun h2=> ?_⟩
  ·have h2:=of_decide_eq_false h2
   rw[if_pos (fun k=>h2 k.2.2)]
  have h2:=of_decide_eq_true (Bool.not_eq_false _|>.mp h2)
  rw[if_neg (fun k=>k ⟨by omega,h1,h2⟩)]
 ·rw[if_neg k2,if_pos k3]
  intro w9 x9
  have hw:=k0 x9
  refine Pure.mono (class_v _ _) ?_
  rintro v w12 b12 rfl
  have hw:=kP hw b12
  refine⟨_,rfl,fun h1=> ?_,fun h1 p13 hp13 hb13=> ?_⟩
  ·rw[if_pos (of_decide_eq_false h1)]
  have h1:=of_decide_eq_true (Bool.not_eq_false _|>.mp h1)
  refine Pure.mono (F.slices_ContainsFunc_api_Hold_api_Hold.vc _ _ _ _ _ _ _ (fun v _=>v= .bool (decide (ixI (hix hs x.r.b)≥0))) (Pure.mono (IndexHo (p:=fun h=>decide (h.id=x.r.b)) (hp.c.keep hw).h hp.c.lh (by omega) (by kernel_rfl) fun w' hb y hy=> ?_) ?_)) ?_
  ·exact F.stowage_other_c2.vc _ _ _ _ _ _ _ _ _ _ fun w1 x1=>⟨_,box_cell (heap_keep (heap_keep hb13 hb) (k0 x1)) rfl,rfl⟩
  ·rintro v w2 _ rfl
   exact⟨_,rfl,rfl⟩
  ·rintro v w16 _ rfl
   refine⟨_,rfl,fun h2=> ?_,fun h2=> ?_⟩
   ·have h2:=of_decide_eq_false h2
    rw[if_neg (fun k=>k h1),if_pos (Decidable.not_not.1 fun k=>h2 (ixI_ge.2 k))]
   ·have h2:=of_decide_eq_true (Bool.not_eq_false _|>.mp h2)
    rw[if_neg (fun k=>k h1),if_neg (ixI_ge.1 h2)]
 ·rw[if_neg k2,if_neg k3]
  refine⟨fun h w1 _=>by rw[if_pos h],fun h w18 x18 p19 hp19 hb19=> ?_⟩
  have hw:=k0 x18
  rw[if_neg h]
  refine Pure.mono (F.slices_ContainsFunc_api_Parcel_api_Parcel.vc _ _ _ _ _ _ _ (fun v _=>v= .bool (decide (ixI (pix ps x.r.a)≥0))) (Pure.mono (IndexPa (p:=fun h=>decide (h.id=x.r.a)) (hp.c.keep hw).p hp.c.lp (by omega) (by kernel_rfl) fun w' hb y hy=> ?_) ?_)) ?_
  ·exact F.stowage_other_c3.vc _ _ _ _ _ _ _ _ _ _ fun w1 x1=>⟨_,box_cell (heap_keep (heap_keep hb19 hb) (k0 x1)) rfl,rfl⟩
  ·rintro v w2 _ rfl
   exact⟨_,rfl,rfl⟩
  ·rintro v w16 _ rfl
   refine⟨_,rfl,fun h2=> ?_,fun h2=> ?_⟩
   ·have h2:=of_decide_eq_false h2
    rw[if_pos (Decidable.not_not.1 fun k=>h2 (ixI_ge.2 k))]
   ·have h2:=of_decide_eq_true (Bool.not_eq_false _|>.mp h2)
    rw[if_neg (ixI_ge.1 h2)]
theorem ne_nil{s:ByteArray}:s≠⟨#[]⟩↔s.size≠0:=not_congr nil_size
theorem stow_fault(hg:Glob w)(hp:PrIn w A0 n0 A1 n1 A2 n2 c2 ps hs xs){i:Nat}(hi:i<xs.length):
  Pure Tryz.prog 110 #[.agg #[.slice A0 n0 c0,.slice A1 n1 c1,.slice A2 n2 c2],.int .i64 (i:Int)] w fun v _=>v= .int .i64 (faultR ps hs (rsOf (xs.take i)) xs[i].r):=by
 have hl:=hp.l
 have hn:=hp.n
 have hk:=hp.k
 have hlh:=hp.c.lh
 have hin:=hp.f _ (List.getElem_mem hi)
 have hlen:=hin.s.len
 have hxl:=hin.l
 obtain⟨hb,a,hA,_,_⟩:=hp.at_ hi
 unfold faultR
 refine F.stowage_fault.vc _ _ _ _ _ _ _ _ _ _ _ _ ⟨hb,a,hA,fun w2 x2=> ?_⟩
 have hw:=k0 x2
 refine⟨_,_,_,_,_,_,_,_,_,(at_a (hp.keep hw).r (fun _=>rfl) hl hi hA).1,fun w10 x10=> ?_⟩
 have hw:=kE hw x10
 refine Pure.mono (anyRats (p:=fun s=> !vR s) (hin.keep hw).f hin.l (by omega) (by kernel_rfl) fun w' hb s hs=> ?_) ?_
 ·refine F.stowage_fault_c1.vc _ _ _ (Pure.mono (rat_Valid (hg.next (kP hw hb)) (hin.s.fac s hs)) ?_)
  rintro v w2 _ rfl
  exact⟨_,rfl,by cases vR s<;>rfl⟩
 rintro v w13 b13 rfl
 have hw:=kP hw b13
 refine⟨_,rfl,fun h=> ?_,fun h=> ?_⟩
 ·rw[if_pos]
  rintro⟨k,_⟩
  obtain⟨s,hs,hv⟩:=List.any_eq_true.1 h
  rw[List.all_eq_true.1 k s hs]at hv
  cases hv
 have hall:xs[i].r.fac.all vR=true:=List.all_eq_true.2 fun s hs=>by
  have:=List.any_eq_false.1 h s hs
  simpa using this
 refine Pure.mono (stow_empty (hg.next hw) hin.s.low) ?_
 rintro v w16 b16 rfl
 have hw:=kP hw b16
 refine⟨_,rfl,fun h=> ?_,fun h=> ?_⟩
 ·rw[if_pos (fun k=>by rw[k.2.1]at h;cases h)]
 have hlow:=Bool.not_eq_false _|>.mp h
 refine Pure.mono (stow_empty (hg.next hw) hin.s.high) ?_
 rintro v w19 b19 rfl
 have hw:=kP hw b19
 refine⟨_,rfl,fun h=> ?_,fun h=> ?_⟩
 ·rw[if_pos (fun k=>by rw[k.2.2]at h;cases h)]
 have hhigh:=Bool.not_eq_false _|>.mp h
 rw[if_neg (fun k=>k ⟨hall,hlow,hhigh⟩)]
 refine⟨fun h=> ?_,fun h1=>⟨fun h=> ?_,fun h2=>⟨by omega,fun p20 hp20 hb20=> ?_⟩⟩⟩
 ·rw[if_pos (fun k=>by omega)]
 ·rw[if_pos (fun k=>by omega)]
 rw[if_neg (fun k=>k ⟨by omega,by omega⟩)]
 have e1:(i:Int).toNat=i:=by omega
 rw[e1]
 have ht:SlR w19 A2 7 ((xs.take i).map Rm.row):=by
  have:=(hp.keep hw).r.take i
  rwa [<-List.map_take]at this
 refine Pure.mono (anyRules (n:=i) (c:=c2) (p:=fun y=>decide (y.r.name=xs[i].r.name)) ht (by rw[List.length_take];omega) (by omega) (by kernel_rfl) fun w' hb y hy=> ?_) ?_
 ·exact F.stowage_fault_c2.vc _ _ _ _ _ _ _ _ _ _ _ _ fun w1 x1=>⟨_,box_cell (heap_keep (heap_keep hb20 hb) (k0 x1)) rfl,rfl⟩
 rintro v w23 b23 rfl
 have hw:=kP hw b23
 have e2:((rsOf (xs.take i)).any fun x=>decide (x.name=xs[i].r.name))=(xs.take i).any fun y=>decide (y.r.name=xs[i].r.name):=by
  unfold rsOf
  rw[List.any_map]
  rfl
 rw[e2]
 have cell:∀k u,(xs[i].row)[k]? =some u->CellsAt w23 ((⟨p20,0,none⟩:Addr).add k) [u]:=fun k u hu=>box_cell (heap_keep hb20 b23) hu
 refine⟨_,rfl,fun h=> ?_,fun h=>⟨_,cell 1 _ rfl,fun h1=> ?_,fun h1=>⟨_,cell 1 _ rfl,fun h2=> ?_,fun h2=>⟨_,cell 1 _ rfl,fun h3=> ?_,fun h3=> ?_⟩⟩⟩⟩
 ·rw[if_pos h]
 ·rw[if_neg (by rw[h];decide),if_pos (.inl (by omega))]
 ·rw[if_neg (by rw[h];decide),if_pos (.inr (by omega))]
 ·rw[if_neg (by rw[h];decide),if_neg (by omega),if_pos h3]
  refine⟨_,_,_,cell 2 _ rfl,fun h4=> ?_,fun h4=>⟨_,cell 5 _ rfl,fun h5=> ?_,fun h5=>⟨_,cell 6 _ rfl,fun h6=> ?_,fun h6=>⟨_,cell 3 _ rfl,fun h7=>⟨_,cell 4 _ rfl,fun h8=> ?_,fun h8=>⟨_,cell 3 _ rfl,fun h9=>absurd h7 h9,fun h9=> ?_⟩⟩,fun h7=>⟨_,cell 3 _ rfl,fun h9=>⟨_,cell 4 _ rfl,fun h10=>⟨_,cell 3 _ rfl,_,cell 4 _ rfl,?_⟩,fun h10=> ?_⟩,fun h9=>absurd h7 h9⟩⟩⟩⟩⟩
  ·rw[if_pos (.inl (by omega))]
  ·rw[if_pos (.inr (.inl h5))]
  ·rw[if_pos (.inr (.inr h6))]
  ·rw[if_neg (by rintro(k|k|k)<;>omega),if_pos (.inl ⟨nil_size.1 h7,nil_size.1 h8⟩)]
  ·have h8:¬xs[i].r.high.size=0:=fun k=>h8 (nil_size.2 k)
   have h7:=nil_size.1 h7
   rw[if_neg (by rintro(k|k|k)<;>omega),if_neg (by rintro(k|k)<;>omega)]
  ·have h9:=ne_nil.1 h9
   have h10:=ne_nil.1 h10
   have v1:=eV_ne hlow h9
   have v2:=eV_ne hhigh h10
   rw[if_neg (by rintro(k|k|k)<;>omega)]
   have cmp:=stow_compare (hg.next hw) (hin.s.low.big v1) (hin.s.high.big v2)
   rw[<-vR_eq v1,<-vR_eq v2]at cmp
   refine Pure.mono cmp ?_
   rintro v w45 _ rfl
   refine⟨_,rfl,fun k=> ?_,fun k=> ?_⟩
   ·rw[if_pos (.inr ⟨h9,h10,cmpR_gt.1 k⟩)]
   ·rw[if_neg]
    rintro(q|q)
    ·exact h9 q.1
    ·exact k (cmpR_gt.2 q.2.2)
  ·have h9:=ne_nil.1 h9
   have h10:xs[i].r.high.size=0:=Decidable.not_not.1 fun k=>h10 (ne_nil.2 k)
   rw[if_neg (by rintro(k|k|k)<;>omega),if_neg (by rintro(k|k)<;>omega)]
 ·rw[if_neg (by rw[h];decide),if_neg (by omega),if_neg h3]
  refine⟨_,_,_,cell 2 _ rfl,fun h4=> ?_,fun h4=>⟨_,cell 3 _ rfl,fun h5=> ?_,fun h5=>⟨_,cell 4 _ rfl,fun h6=> ?_,fun h6=>⟨_,_,_,_,_,_,_,_,_,box_all (heap_keep hb20 b23),?_⟩⟩⟩⟩
  ·rw[if_pos (.inl (by omega))]
  ·rw[if_pos (.inr (.inl (ne_nil.1 h5)))]
  ·rw[if_pos (.inr (.inr (ne_nil.1 h6)))]
  ·have h5:xs[i].r.low.size=0:=Decidable.not_not.1 fun k=>h5 (ne_nil.2 k)
   have h6:xs[i].r.high.size=0:=Decidable.not_not.1 fun k=>h6 (ne_nil.2 k)
   rw[if_neg (by rintro(k|k|k)<;>omega)]
   refine Pure.mono (stow_other (hp.keep hw) xs[i]) ?_
   rintro v w58 _ rfl
   exact⟨_,rfl,rfl⟩
theorem rs_take{i:Nat}(hi:i<xs.length):rsOf (xs.take i)++[xs[i].r]=rsOf (xs.take (i+1)):=by
 unfold rsOf
 rw[List.take_add_one,List.getElem?_eq_getElem hi,List.map_append]
 rfl
theorem stow_Check(hg:Glob w)(hp:PrIn w A0 n0 A1 n1 A2 n2 c2 ps hs xs):
  Pure Tryz.prog 77 #[.agg #[.slice A0 n0 c0,.slice A1 n1 c1,.slice A2 n2 c2]] w fun v _=>v= .tuple #[.int .i64 (checkR ps hs (rsOf xs)).1,.int .i64 (checkR ps hs (rsOf xs)).2]:=by
 have hl:=hp.l
 have hn:=hp.n
 unfold checkR
 refine F.stowage_Check.vc _ _ _ _ _ _ _ _ _ _ _ fun w1 x1=> ?_
 have hw:=k0 x1
 refine Pure.mono (cargo_Check (hg.next hw) (hp.c.keep hw)) ?_
 rintro v w4 b4 rfl
 have hw:=kP hw b4
 refine⟨_,rfl,fun h=> ?_,fun h=>⟨fun h1=> ?_,fun h1=> ?_⟩⟩
 ·rw[if_pos h]
 ·rw[if_neg h,if_pos (by simp[rsOf];omega)]
 ·rw[if_neg h,if_neg (by simp[rsOf];omega)]
  have key:∀(d i:Nat)(w':World),n2 - i=d->i<=n2->Below w.heap.size w w'->F.stowage_Check.L7 n2 i A0 n0 c0 A1 n1 c1 A2 n2 c2 w.heap.size w' fun v _=>v= .tuple #[.int .i64 (goR ps hs i (rsOf (xs.take i)) (rsOf (xs.drop i))).1,.int .i64 (goR ps hs i (rsOf (xs.take i)) (rsOf (xs.drop i))).2]:=by
   intro d
   induction d with
   |zero=>
    intro i w' hd hi hw
    rw[List.drop_eq_nil_of_le (by omega)]
    exact F.stowage_Check.L7.step _ _ _ _ _ _ _ _ _ _ _ _ _ _ ⟨fun h=>by omega,fun _=>rfl⟩
   |succ d ih=>
    intro i w' hd hi hw
    have hil:i<xs.length:=by omega
    refine F.stowage_Check.L7.step _ _ _ _ _ _ _ _ _ _ _ _ _ _ ⟨fun _=> ?_,fun h=>by omega⟩
    refine Pure.mono (stow_fault (hg.next hw) (hp.keep hw) hil) ?_
    rintro v w7 b7 rfl
    have e3:(i:Int)+1=((i+1:Nat):Int):=by omega
    have hd':rsOf (xs.drop i)=xs[i].r::rsOf (xs.drop (i+1)):=by
     unfold rsOf
     rw[List.drop_eq_getElem_cons hil]
     rfl
    rw[hd',goR]
    refine⟨_,rfl,fun h=> ?_,fun h=>⟨by simp only[inR];omega,?_⟩⟩
    ·rw[if_pos h]
    ·rw[if_neg h,rs_take hil,e3]
     exact ih (i+1) w7 (by omega) (by omega) (kP hw b7)
  exact key n2 0 w4 rfl (by omega) hw
end

theorem sumQ_snoc(l:List Rat)(x:Rat):(l++[x]).sum=l.sum+x:=by
 induction l with
 |nil=>simp[Rat.add_zero,Rat.zero_add]
 |cons a r ih=>rw[List.cons_append,List.sum_cons,List.sum_cons,ih,Rat.add_assoc]
theorem sm_sumQ{k:Nat}:∀{l:List Rat},(∀x∈l,Sm k x)->Sm ((k+1)*l.length+1) l.sum:=by
 intro l
 induction l with
 |nil=>intro _;exact Sm.zero (by omega)
 |cons a r ih=>
  intro h
  rw[List.sum_cons]
  refine((h a (by simp)).add (ih fun x hx=>h x (by simp[hx]))).mono ?_
  rw[List.length_cons,Nat.mul_add]
  omega
def trmR(ps:List Pa)(l:List Sw)(x:Ho×ByteArray):Rat:=qR x.2*sumR (tP ps Pa.mass) (inS l x.1.id)
section
variable {w:World} {A0 A1 A2 A:Option Addr} {n0 c0 n1 c1 n2 c2 n c:Nat} {ps:List Pa} {hs:List Ho} {xs:List Rm} {l:List Sw}
theorem mass_sm(hc:CgIn w A0 n0 A1 n1 ps hs)(hr:RightS ps hs l)(hn:l.length<=40)(id:Int):Sm 12013 (sumR (tP ps Pa.mass) (inS l id)):=by
 have hok:=(hr.ld hn).filter fun s=>decide (s.hold=id)
 refine(sm_sum fun s hs'=>(hok.smT hc hs').1.1).mono ?_
 have:=inS_len hr id
 have:=hr.c.lp
 unfold inS at*
 omega
theorem trm_sm(hc:CgIn w A0 n0 A1 n1 ps hs)(hr:RightS ps hs l)(hn:l.length<=40){x:Ho×ByteArray}(hv:vR x.2=true)(hs':SmS x.2):Sm 13013 (trmR ps l x):=
 ((vR_sm hv hs').mul (mass_sm hc hr hn x.1.id)).mono (by omega)
theorem zip_mem{x:Rm}(hx:RmIn w x)(hf:x.r.fac.all vR=true){y:Ho×ByteArray}(hy:y∈hs.zip x.r.fac):vR y.2=true/\SmS y.2:=by
 obtain⟨a,b⟩:=y
 have:=(List.of_mem_zip hy).2
 exact⟨List.all_eq_true.1 hf _ this,hx.s.fac _ this⟩
theorem sumRu_sm(hc:CgIn w A0 n0 A1 n1 ps hs)(hr:RightS ps hs l)(hn:l.length<=40){x:Rm}(hx:RmIn w x)(hf:x.r.fac.all vR=true)(k:Nat):Sm 90000 (((hs.zip x.r.fac).take k).map (trmR ps l)).sum:=by
 refine(sm_sumQ (k:=13013) fun y hy=> ?_).mono ?_
 ·obtain⟨z,hz,rfl⟩:=List.mem_map.1 hy
  obtain⟨h1,h2⟩:=zip_mem hx hf (List.mem_of_mem_take hz)
  exact trm_sm hc hr hn h1 h2
 ·have h6:=hr.c.lh
  rw[List.length_map,List.length_take,List.length_zip]
  have:min k (min hs.length x.r.fac.length)<=6:=by omega
  have:=Nat.mul_le_mul_left 13014 this
  omega
theorem hix_at(ih:hs.Pairwise fun a b=>a.id<b.id){i:Nat}(hi:i<hs.length):hix hs hs[i].id≠none:=by
 intro h
 unfold hix at h
 rw[List.findIdx?_eq_none_iff]at h
 have:=h _ (List.getElem_mem hi)
 simp at this
theorem stow_sum(hg:Glob w)(hp:PrIn w A0 n0 A1 n1 A2 n2 c2 ps hs xs)(h:SlR w A 3 (l.map Sw.row))(hl:l.length=n)(hnc:n<=c)(hn:n<=40)(hst:stowedF ps hs l=0){x:Rm}(hx:RmIn w x)(hf:x.r.fac.all vR=true)(hfl:x.r.fac.length=hs.length):
  Pure Tryz.prog 97 #[.agg #[.slice A0 n0 c0,.slice A1 n1 c1,.slice A2 n2 c2],x.val,.slice A n c] w fun v _=>v= .string (rS (sumRu ps hs x.r l)):=by
 have hr:=stowed_right hst
 have hlh:=hp.c.lh
 have hnh:=hp.c.nh
 have hxl:=hx.l
 refine F.stowage_sum.vc _ _ _ _ _ _ _ _ _ _ _ _ _ _ _ _ _ _ _ _ _ _ _ fun w1 x1=> ?_
 have key:∀(d i:Nat)(w':World),n1 - i=d->i<=n1->Below w.heap.size w w'->F.stowage_sum.L3 A n c (rS (((hs.zip x.r.fac).take i).map (trmR ps l)).sum) A1 n1 c1 n1 i A0 n0 c0 A1 n1 c1 A2 n2 c2 x.r.name x.r.kind x.A x.n x.c x.r.low x.r.high x.r.a x.r.b w.heap.size w' fun v _=>v= .string (rS (sumRu ps hs x.r l)):=by
  intro d
  induction d with
  |zero=>
   intro i w' hd hi hw
   refine F.stowage_sum.L3.step _ _ _ _ _ _ _ _ _ _ _ _ _ _ _ _ _ _ _ _ _ _ _ _ _ _ _ _ _ _ ⟨fun h=>by omega,fun _=> ?_⟩
   rw[List.take_of_length_le (by rw[List.length_zip];omega)]
   rfl
  |succ d ih=>
   intro i w' hd hi hw
   have hih:i<hs.length:=by omega
   have hif:i<x.r.fac.length:=by omega
   have hiz:i<(hs.zip x.r.fac).length:=by rw[List.length_zip];omega
   have e3:(i:Int)+1=((i+1:Nat):Int):=by omega
   have et:((hs.zip x.r.fac).take (i+1)).map (trmR ps l)=((hs.zip x.r.fac).take i).map (trmR ps l)++[trmR ps l (hs[i],x.r.fac[i])]:=by
    rw[List.take_add_one,List.getElem?_eq_getElem hiz,List.map_append,List.getElem_zip]
    rfl
   obtain⟨hb,a,hA,hcell,_⟩:=((hp.keep hw).c.h).at_ (fun _=>rfl) hlh hih
   refine F.stowage_sum.L3.step _ _ _ _ _ _ _ _ _ _ _ _ _ _ _ _ _ _ _ _ _ _ _ _ _ _ _ _ _ _ ⟨fun _=>⟨hb,a,hA,_,_,_,_,_,_,_,hcell,fun w10 x10=> ?_⟩,fun h=>by omega⟩
   have hw:=kE hw x10
   refine Pure.mono (cargo_Held (hg.next hw) (hp.keep hw).c (h.keep hw (Nat.le_refl _)) hl hnc hn hs[i].id) ?_
   rintro v w19 b19 rfl
   have hw:=kP hw b19
   unfold heldV
   rw[if_neg (fun k=>k hst),if_neg (hix_at hr.c.ih hih)]
   refine⟨_,_,_,_,_,_,_,rfl,fun w20 x20=> ?_⟩
   have hw:=kE hw x20
   obtain⟨hbf,af,hAf,hcf,_⟩:=((hx.keep hw).f).at_ (fun _=>rfl) hxl hif
   refine⟨hbf,af,hAf,_,hcf,fun w23 x23=> ?_⟩
   have hw:=kE hw x23
   have hv:=List.all_eq_true.1 hf _ (List.getElem_mem hif)
   have hsf:=hx.s.fac _ (List.getElem_mem hif)
   have m:=stow_mul (hg.next hw) (hsf.big hv) ((mass_sm hp.c hr (by omega) hs[i].id).mono (by omega))
   rw[<-vR_eq hv]at m
   refine Pure.mono m ?_
   rintro v w26 b26 rfl
   have hw:=kP hw b26
   refine⟨_,rfl,Pure.mono (stow_add (hg.next hw) ((sumRu_sm hp.c hr (by omega) hx hf i).mono (by omega)) ((trm_sm (x:=(hs[i],x.r.fac[i])) hp.c hr (by omega) hv hsf).mono (by omega))) ?_⟩
   rintro v w29 b29 rfl
   refine⟨_,rfl,by simp only[inR];omega,?_⟩
   have:=ih (i+1) w29 (by omega) (by omega) (kP hw b29)
   rw[et,sumQ_snoc]at this
   rw[e3]
   exact this
 have:=key n1 0 w1 rfl (by omega) (k0 x1)
 simp only[List.take_zero,List.map_nil,List.sum_nil,<-s0]at this
 exact this
theorem stow_excess(hg:Glob w){x:Rm}(hx:RmIn w x)(hlow:eV x.r.low=true)(hhigh:eV x.r.high=true){s:Rat}(hs':Sm 90000 s):
  Pure Tryz.prog 96 #[x.val,.string (rS s)] w fun v _=>v= .string (rS (excessR x.r s)):=by
 have bs:Big s:=hs'.mono (by omega)
 have low:∀w',Below w.heap.size w w'->x.r.low≠⟨#[]⟩->¬(x.r.high.size≠0/\qR x.r.high<s)->Pure Tryz.prog 127 #[.string (rS s),.string x.r.low] w' fun r9 w10=>∃(i8:Int),r9=(.int .i64 i8)/\((((i8:Int)<(0:Int))->(Pure Tryz.prog 128 #[(.string (rS s)),(.string x.r.low)] w10 fun r12 w13=>∃(s11:ByteArray),r12=(.string s11)/\(Value.string s11= .string (rS (excessR x.r s)))))/\(¬((i8:Int)<(0:Int))->(Value.string (⟨#[48]⟩:ByteArray)= .string (rS (excessR x.r s))))):=by
  intro w' hw h0 hh
  have h0:=ne_nil.1 h0
  have v1:=eV_ne hlow h0
  have b1:=hx.s.low.big v1
  have c1:=stow_compare (hg.next hw) bs b1
  rw[<-vR_eq v1]at c1
  unfold excessR
  rw[if_neg hh]
  refine Pure.mono c1 ?_
  rintro v w10 b10 rfl
  refine⟨_,rfl,fun k=> ?_,fun k=> ?_⟩
  ·have c2:=stow_sub (hg.next (kP hw b10)) bs b1
   rw[<-vR_eq v1]at c2
   refine Pure.mono c2 ?_
   rintro v w13 _ rfl
   exact⟨_,rfl,by rw[if_pos ⟨h0,cmpR_lt.1 k⟩]⟩
  ·rw[if_neg (fun q=>k (cmpR_lt.2 q.2)),<-s0]
 have none_:¬(x.r.high.size≠0/\qR x.r.high<s)->¬(x.r.low≠⟨#[]⟩)->Value.string (⟨#[48]⟩:ByteArray)= .string (rS (excessR x.r s)):=by
  intro h1 h2
  unfold excessR
  rw[if_neg h1,if_neg (fun k=>h2 (ne_nil.2 k.1)),<-s0]
 refine F.stowage_excess.vc _ _ _ _ _ _ _ _ _ _ _ _ ⟨fun h w1 x1=> ?_,fun h=>⟨fun h1 w14 x14=> ?_,fun h1 w21 _=> ?_⟩⟩
 ·have hw:=k0 x1
  have h0:=ne_nil.1 h
  have v1:=eV_ne hhigh h0
  have b1:=hx.s.high.big v1
  have cc:=stow_compare (hg.next hw) bs b1
  rw[<-vR_eq v1]at cc
  refine Pure.mono cc ?_
  rintro v w4 b4 rfl
  have hw:=kP hw b4
  refine⟨_,rfl,fun k=> ?_,fun k=> ?_⟩
  ·have cs:=stow_sub (hg.next hw) bs b1
   rw[<-vR_eq v1]at cs
   refine Pure.mono cs ?_
   rintro v w7 _ rfl
   refine⟨_,rfl,?_⟩
   unfold excessR
   rw[if_pos ⟨h0,cmpR_gt.1 k⟩]
  ·have hn:¬(x.r.high.size≠0/\qR x.r.high<s):=fun q=>k (cmpR_gt.2 q.2)
   exact⟨fun h2=>low w4 hw h2 hn,fun h2=>none_ hn h2⟩
 ·exact low w14 (k0 x14) h1 fun q=>h (ne_nil.2 q.1)
 ·exact none_ (fun q=>h (ne_nil.2 q.1)) h1
theorem excess_sm{w:World}{x:Rm}(hx:RmIn w x)(hlow:eV x.r.low=true)(hhigh:eV x.r.high=true){s:Rat}(hs':Sm 90000 s):Big (excessR x.r s):=by
 unfold excessR
 split
 ·rename_i h
  exact(hs'.sub (vR_sm (eV_ne hhigh h.1) hx.s.high)).mono (by omega)
 ·split
  ·rename_i h
   exact(hs'.sub (vR_sm (eV_ne hlow h.1) hx.s.low)).mono (by omega)
  ·exact Sm.zero (by omega)
theorem stow_broken1(hg:Glob w)(hp:PrIn w A0 n0 A1 n1 A2 n2 c2 ps hs xs)(h:SlR w A 3 (l.map Sw.row))(hl:l.length=n)(hnc:n<=c)(hn:n<=40)(hst:stowedF ps hs l=0){x:Rm}(hx:RmIn w x)(hr:RightR ps hs x.r)(hk:x.r.kind=1):
  Pure Tryz.prog 94 #[.agg #[.slice A0 n0 c0,.slice A1 n1 c1,.slice A2 n2 c2],x.val,.slice A n c] w fun v _=>v= .bool (brokenR ps hs l x.r):=by
 have hsm:Sm 90000 (sumRu ps hs x.r l):=by
  have:=sumRu_sm hp.c (stowed_right hst) (by omega) hx hr.fac (hs.zip x.r.fac).length
  rwa [List.take_length]at this
 refine F.stowage_broken_c1.vc _ _ _ _ _ _ _ _ _ _ _ _ _ _ _ _ _ _ _ _ _ _ _ fun w1 x1=> ?_
 have hw:=k0 x1
 refine Pure.mono (stow_sum (hg.next hw) (hp.keep hw) (h.keep hw (Nat.le_refl _)) hl hnc hn hst (hx.keep hw) hr.fac (hr.sum hk)) ?_
 rintro v w4 b4 rfl
 have hw:=kP hw b4
 refine⟨_,rfl,Pure.mono (stow_excess (hg.next hw) (hx.keep hw) hr.low hr.high hsm) ?_⟩
 rintro v w7 b7 rfl
 have hw:=kP hw b7
 refine⟨_,rfl,Pure.mono (stow_sign (hg.next hw) (excess_sm hx hr.low hr.high hsm)) ?_⟩
 rintro v w10 _ rfl
 refine⟨_,rfl,?_⟩
 unfold brokenR
 rw[if_pos hk]
 refine congrArg Value.bool ?_
 rw[decide_eq_decide]
 exact not_congr cmpR_eq

theorem stow_class(hc:CgIn w A0 n0 A1 n1 ps hs){id:Int}{i:Nat}(hi:pix ps id=some i):
  Pure Tryz.prog 132 #[.agg #[.slice A0 n0 c0,.slice A1 n1 c1,.slice A2 n2 c2],.int .i64 id] w fun v _=>v= .int .i64 (clsP ps id):=by
 have hnp:=hc.np
 obtain⟨hil,hid⟩:=pix_lt hi
 refine F.stowage_class.vc _ _ _ _ _ _ _ _ _ _ _ _ fun w1 x1 p2 hp2 hb2=> ?_
 have hw:=k0 x1
 refine Pure.mono (IndexPa (p:=fun p=>decide (p.id=id)) (hc.keep hw).p hc.lp (by omega) (by kernel_rfl) fun w' hb y hy=> ?_) ?_
 ·exact F.stowage_class_c1.vc _ _ _ _ _ _ _ _ _ _ fun w1 x1=>⟨_,box_cell0 (heap_keep (heap_keep hb2 hb) (k0 x1)) rfl,rfl⟩
 ·rintro v w5 b5 rfl
  have hw:=kP hw b5
  show ∃i3:Int,Value.int .i64 (ixI (pix ps id))=_/\_
  rw[hi]
  obtain⟨hb,a,hA,_,hcell⟩:=((hc.keep hw).p).at_ (fun _=>rfl) hc.lp hil
  refine⟨_,rfl,hb,a,hA,_,hcell 2 _ rfl,?_⟩
  unfold clsP
  rw[hi,Option.bind_some,List.getElem?_eq_getElem hil]
theorem stow_apart(hc:CgIn w A0 n0 A1 n1 ps hs)(h:SlR w A 3 (l.map Sw.row))(hl:l.length=n)(hn:n<=40)(hk:∀s∈l,∃i,pix ps s.parcel=some i)(x:Rm):
  Pure Tryz.prog 98 #[.agg #[.slice A0 n0 c0,.slice A1 n1 c1,.slice A2 n2 c2],x.val,.slice A n c] w fun v _=>v= .bool (l.any fun s=>l.any fun t=>decide (s.hold=t.hold)&&(decide (clsP ps s.parcel=x.r.a)&&decide (clsP ps t.parcel=x.r.b))):=by
 have outer:∀(d i:Nat)(w':World),n - i=d->i<=n->Below w.heap.size w w'->F.stowage_apart.L2 A n c A n c n i A0 n0 c0 A1 n1 c1 A2 n2 c2 x.r.name x.r.kind x.A x.n x.c x.r.low x.r.high x.r.a x.r.b w.heap.size w' fun v _=>v= .bool ((l.drop i).any fun s=>l.any fun t=>decide (s.hold=t.hold)&&(decide (clsP ps s.parcel=x.r.a)&&decide (clsP ps t.parcel=x.r.b))):=by
  intro d
  induction d with
  |zero=>
   intro i w' hd hi hw
   rw[List.drop_eq_nil_of_le (by omega)]
   exact F.stowage_apart.L2.step _ _ _ _ _ _ _ _ _ _ _ _ _ _ _ _ _ _ _ _ _ _ _ _ _ _ _ _ _ ⟨fun h=>by omega,fun _=>rfl⟩
  |succ d ih=>
   intro i w' hd hi hw
   have hil:i<l.length:=by omega
   have e3:(i:Int)+1=((i+1:Nat):Int):=by omega
   obtain⟨ip,hip⟩:=hk _ (List.getElem_mem hil)
   obtain⟨hb,a,hA,hcell,_⟩:=(h.keep hw (Nat.le_refl _)).at_ (fun _=>rfl) hl hil
   refine F.stowage_apart.L2.step _ _ _ _ _ _ _ _ _ _ _ _ _ _ _ _ _ _ _ _ _ _ _ _ _ _ _ _ _ ⟨fun _=>⟨hb,a,hA,_,_,_,hcell,fun w6 x6=> ?_⟩,fun h=>by omega⟩
   have hw:=kE hw x6
   rw[List.drop_eq_getElem_cons hil,List.any_cons]
   have inner:∀(e j:Nat)(w':World),n - j=e->j<=n->Below w.heap.size w w'->F.stowage_apart.L5 A n c A n c n i A n c n j A0 n0 c0 A1 n1 c1 A2 n2 c2 x.r.name x.r.kind x.A x.n x.c x.r.low x.r.high x.r.a x.r.b l[i].hold l[i].parcel l[i].units w.heap.size w' fun v _=>v= .bool (((l.drop j).any fun t=>decide (l[i].hold=t.hold)&&(decide (clsP ps l[i].parcel=x.r.a)&&decide (clsP ps t.parcel=x.r.b)))||
     ((l.drop (i+1)).any fun s=>l.any fun t=>decide (s.hold=t.hold)&&(decide (clsP ps s.parcel=x.r.a)&&decide (clsP ps t.parcel=x.r.b)))):=by
    intro e
    induction e with
    |zero=>
     intro j w' he hj hw
     rw[List.drop_eq_nil_of_le (i:=j) (by omega),List.any_nil,Bool.false_or]
     refine F.stowage_apart.L5.step _ _ _ _ _ _ _ _ _ _ _ _ _ _ _ _ _ _ _ _ _ _ _ _ _ _ _ _ _ _ _ _ _ _ _ _ _ ⟨fun h=>by omega,fun _=>⟨by simp only[inR];omega,?_⟩⟩
     rw[e3]
     exact ih (i+1) w' (by omega) (by omega) hw
    |succ e ihe=>
     intro j w' he hj hw
     have hjl:j<l.length:=by omega
     have ej:(j:Int)+1=((j+1:Nat):Int):=by omega
     obtain⟨jp,hjp⟩:=hk _ (List.getElem_mem hjl)
     obtain⟨hb,a,hA,hcell,_⟩:=(h.keep hw (Nat.le_refl _)).at_ (fun _=>rfl) hl hjl
     rw[List.drop_eq_getElem_cons hjl,List.any_cons]
     refine F.stowage_apart.L5.step _ _ _ _ _ _ _ _ _ _ _ _ _ _ _ _ _ _ _ _ _ _ _ _ _ _ _ _ _ _ _ _ _ _ _ _ _ ⟨fun _=>⟨hb,a,hA,_,_,_,hcell,fun h1 w11 x11=> ?_,fun h1=>⟨by simp only[inR];omega,fun w18 x18=> ?_⟩⟩,fun h=>by omega⟩
     ·have hw:=kE hw x11
      refine Pure.mono (stow_class (hc.keep hw) hip) ?_
      rintro v w14 b14 rfl
      have hw:=kP hw b14
      rw[decide_eq_true h1,Bool.true_and]
      refine⟨_,rfl,fun h2=> ?_,fun h2=>⟨by simp only[inR];omega,?_⟩⟩
      ·refine Pure.mono (stow_class (hc.keep hw) hjp) ?_
       rintro v w17 b17 rfl
       rw[decide_eq_true h2,Bool.true_and]
       refine⟨_,rfl,fun h3=> ?_,fun h3=>⟨by simp only[inR];omega,?_⟩⟩
       ·rw[decide_eq_true h3]
        rfl
       ·rw[decide_eq_false h3,Bool.false_or,ej]
        have:=ihe (j+1) w17 (by omega) (by omega) (kP hw b17)
        rw[decide_eq_true h2]at this
        simp only[Bool.true_and]at this
        exact this
      ·rw[decide_eq_false h2,Bool.false_and,Bool.false_or,ej]
       have:=ihe (j+1) w14 (by omega) (by omega) hw
       rw[decide_eq_false h2]at this
       exact this
     ·rw[decide_eq_false h1,Bool.false_and,Bool.false_or,ej]
      exact ihe (j+1) w18 (by omega) (by omega) (kE hw x18)
   have:=inner n 0 w6 rfl (by omega) hw
   rwa [List.drop_zero]at this
 exact F.stowage_apart.vc _ _ _ _ _ _ _ _ _ _ _ _ _ _ _ _ _ _ _ _ _ _ _ fun w1 x1=>outer n 0 w1 rfl (by omega) (k0 x1)
theorem stow_never(hc:CgIn w A0 n0 A1 n1 ps hs)(h:SlR w A 3 (l.map Sw.row))(hl:l.length=n)(hn:n<=40)(hk:∀s∈l,∃i,pix ps s.parcel=some i)(x:Rm):
  Pure Tryz.prog 99 #[.agg #[.slice A0 n0 c0,.slice A1 n1 c1,.slice A2 n2 c2],x.val,.slice A n c] w fun v _=>v= .bool (hasCls ps l x.r.b x.r.a):=by
 refine F.stowage_never.vc _ _ _ _ _ _ _ _ _ _ _ _ _ _ _ _ _ _ _ _ _ _ _ fun w1 x1 p2 hp2 hb2 p3 hp3 hb3=> ?_
 have hw:=k0 x1
 refine Pure.mono (F.slices_ContainsFunc_api_Stow_api_Stow.vc _ _ _ _ _ _ _ (fun v _=>v= .bool (hasCls ps l x.r.b x.r.a)) (Pure.mono (F.slices_IndexFunc_api_Stow_api_Stow.vc _ _ _ _ _ _ _ _ (index_stows (h.keep hw (Nat.le_refl _)) hl (by omega) (by kernel_rfl) (p:=fun s=>decide (s.hold=x.r.b)&&decide (clsP ps s.parcel=x.r.a)) (fun w' hb s hs'=> ?_) (R:=fun v _=>v= .int .i64 (idxG (fun s=>decide (s.hold=x.r.b)&&decide (clsP ps s.parcel=x.r.a)) 0 l)) (fun _=>rfl) n 0 w1 rfl (by omega) (Below.refl _ _) rfl)) ?_)) ?_
 ·obtain⟨i,hi⟩:=hk s hs'
  have g2:=heap_keep hb2 hb
  have g3:=heap_keep hb3 hb
  refine F.stowage_never_c1.vc _ _ _ _ _ _ _ fun w4 x4=>⟨_,box_cell (heap_keep g3 (k0 x4)) rfl,fun h1=>⟨_,_,_,_,_,_,_,_,_,box_all (heap_keep g2 (k0 x4)),_,box_cell (heap_keep g3 (k0 x4)) rfl,fun w7 x7=> ?_⟩,fun h1 w11 _=> ?_⟩
  ·refine Pure.mono (stow_class (hc.keep (kP (kP hw hb) (kE (k0 x4) x7))) hi) ?_
   rintro v w10 _ rfl
   exact⟨_,rfl,by rw[decide_eq_true h1,Bool.true_and]⟩
  ·rw[decide_eq_false h1,Bool.false_and]
 ·rintro v w2 _ rfl
  exact⟨_,rfl,by rw[any_idx];rfl⟩
 ·rintro v w2 _ rfl
  exact⟨_,rfl,rfl⟩
theorem stow_whole(hc:CgIn w A0 n0 A1 n1 ps hs)(h:SlR w A 3 (l.map Sw.row))(hl:l.length=n)(hn:n<=40)(hr:RightS ps hs l){x:Rm}{i:Nat}(hi:pix ps x.r.a=some i):
  Pure Tryz.prog 100 #[.agg #[.slice A0 n0 c0,.slice A1 n1 c1,.slice A2 n2 c2],x.val,.slice A n c] w fun v _=>v= .bool (match (pix ps x.r.a).bind fun i=>ps[i]? with|some p=>decide (unitsF l x.r.a<p.units)|none=>false):=by
 have hnp:=hc.np
 obtain⟨hil,hid⟩:=pix_lt hi
 have hpu:=(hr.c.p1 _ (List.getElem_mem hil)).2.1
 rw[hi,Option.bind_some,List.getElem?_eq_getElem hil]
 refine F.stowage_whole.vc _ _ _ _ _ _ _ _ _ _ _ _ _ _ _ _ _ _ _ _ _ _ _ fun w1 x1 p2 hp2 hb2=> ?_
 have hw:=k0 x1
 refine Pure.mono (IndexPa (p:=fun p=>decide (p.id=x.r.a)) (hc.keep hw).p hc.lp (by omega) (by kernel_rfl) fun w' hb y hy=> ?_) ?_
 ·exact F.stowage_whole_c1.vc _ _ _ _ _ _ _ _ _ _ fun w1 x1=>⟨_,box_cell (heap_keep (heap_keep hb2 hb) (k0 x1)) rfl,rfl⟩
 ·rintro v w5 b5 rfl
  show ∃i3:Int,Value.int .i64 (ixI (pix ps x.r.a))=_/\_
  rw[hi]
  have hb5:=heap_keep hb2 b5
  have hw5:=kP hw b5
  obtain⟨hb,a,hA,_,hcell⟩:=((hc.keep hw5).p).at_ (fun _=>rfl) hc.lp hil
  refine⟨_,rfl,hb,a,hA,_,hcell 1 _ rfl,?_⟩
  have key:∀(d j:Nat)(w':World),n - j=d->j<=n->Below w5.heap.size w5 w'->F.stowage_whole.L4 ⟨p2,0,none⟩ (ps[i].units - unitsF (l.take j) x.r.a) A n c n j w.heap.size w' fun v _=>v= .bool (decide (unitsF l x.r.a<ps[i].units)):=by
   intro d
   induction d with
   |zero=>
    intro j w' hd hj hw'
    rw[List.take_of_length_le (by omega)]
    refine F.stowage_whole.L4.step _ _ _ _ _ _ _ _ _ _ ⟨fun h=>by omega,fun _=> ?_⟩
    refine congrArg Value.bool ?_
    rw[decide_eq_decide]
    omega
   |succ d ih=>
    intro j w' hd hj hw'
    have hjl:j<l.length:=by omega
    have ej:(j:Int)+1=((j+1:Nat):Int):=by omega
    have et:l.take (j+1)=l.take j++[l[j]]:=by rw[List.take_add_one,List.getElem?_eq_getElem hjl];rfl
    have es:=unitsF_snoc (l.take j) l[j] x.r.a
    rw[<-et]at es
    have f1:=unitsF_le hr.pos x.r.a j
    have f2:=unitsF_le hr.pos x.r.a (j+1)
    have f3:=hr.full _ (List.getElem_mem hil)
    rw[hid]at f3
    obtain⟨hb,a,hA,hcell,_⟩:=(h.keep (kP hw5 hw') (Nat.le_refl _)).at_ (fun _=>rfl) hl hjl
    refine F.stowage_whole.L4.step _ _ _ _ _ _ _ _ _ _ ⟨fun _=>⟨hb,a,hA,_,_,_,hcell,fun w12 x12=> ?_⟩,fun h=>by omega⟩
    have hw12:=kP hw' (extAll x12)
    have hpos:=hr.pos _ (List.getElem_mem hjl)
    refine⟨_,box_cell (ext_nil x12 (heap_keep hb5 hw')) rfl,fun h1=> ?_,fun h1=>⟨by simp only[inR];omega,?_⟩⟩
    ·rw[if_pos h1]at es
     refine⟨by simp only[inR];omega,by simp only[inR];omega,?_⟩
     have:=ih (j+1) w12 (by omega) (by omega) hw12
     rw[es]at this
     rw[ej,show ps[i].units - unitsF (l.take j) x.r.a - l[j].units=ps[i].units - (unitsF (l.take j) x.r.a+l[j].units) by omega]
     exact this
    ·rw[if_neg h1,Int.add_zero]at es
     have:=ih (j+1) w12 (by omega) (by omega) hw12
     rw[es]at this
     rw[ej]
     exact this
  have:=key n 0 w5 rfl (by omega) (Below.refl _ _)
  rw[List.take_zero]at this
  simp only[unitsF,List.map_nil,List.sum_nil,Int.sub_zero]at this
  exact this
end

section
variable {w:World} {A0 A1 A2 A:Option Addr} {n0 c0 n1 c1 n2 c2 n c:Nat} {ps:List Pa} {hs:List Ho} {xs:List Rm} {l:List Sw}
theorem stow_right(hg:Glob w)(hp:PrIn w A0 n0 A1 n1 A2 n2 c2 ps hs xs)(h:SlR w A 3 (l.map Sw.row))(hl:l.length=n)(hnc:n<=c)(hn:n<=40):
  Pure Tryz.prog 69 #[.agg #[.slice A0 n0 c0,.slice A1 n1 c1,.slice A2 n2 c2],.slice A n c] w fun v _=>v= .bool (rightF ps hs (rsOf xs) l):=by
 refine F.stowage_right.vc _ _ _ _ _ _ _ _ _ _ _ _ _ _ fun w1 x1=> ?_
 have hw:=k0 x1
 refine Pure.mono (stow_Check (hg.next hw) (hp.keep hw)) ?_
 rintro v w5 b5 rfl
 have hw:=kP hw b5
 unfold rightF
 refine⟨_,_,rfl,fun h1=> ?_,fun h1=> ?_⟩
 ·refine Pure.mono (cargo_Stowed (hg.next hw) (hp.keep hw).c (h.keep hw (Nat.le_refl _)) hl hnc (by omega)) ?_
  rintro v w8 _ rfl
  exact⟨_,rfl,by rw[decide_eq_true h1,Bool.true_and]⟩
 ·rw[decide_eq_false h1,Bool.false_and]
theorem clsP_known(hr:RightS ps hs l):∀s∈l,∃i,pix ps s.parcel=some i:=fun s hs'=>by
 obtain⟨i,k,hi,_⟩:=hr.known s hs'
 exact⟨i,hi⟩
theorem hold_known(hr:RightS ps hs l):∀s∈l,∃h∈hs,h.id=s.hold:=fun s hs'=>by
 obtain⟨i,k,_,hk⟩:=hr.known s hs'
 obtain⟨hl,e⟩:=hix_lt hk
 exact⟨_,List.getElem_mem hl,e⟩
theorem stow_broken(hg:Glob w)(hp:PrIn w A0 n0 A1 n1 A2 n2 c2 ps hs xs)(h:SlR w A 3 (l.map Sw.row))(hl:l.length=n)(hnc:n<=c)(hn:n<=40)(hck:(checkR ps hs (rsOf xs)).2=0)(hst:stowedF ps hs l=0):
  Pure Tryz.prog 70 #[.agg #[.slice A0 n0 c0,.slice A1 n1 c1,.slice A2 n2 c2],.slice A n c] w fun v _=>∃A' m c',v= .slice A' m c'/\m=(rsOf xs).countP (brokenR ps hs l):=by
 have hr:=stowed_right hst
 have hxl:=hp.l
 have hxn:=hp.n
 have hrr:=(checkR_zero hck).2.2
 refine F.stowage_broken.vc _ _ _ _ _ _ _ _ _ _ _ _ _ _ fun w1 x1=> ?_
 have key:∀(d i:Nat)(A':Option Addr)(m c':Nat)(w':World)(o:List Int),n2 - i=d->i<=n2->Below w.heap.size w w'->OwnR w' w.heap.size 3 A' m c' 1 (o.map iRow)->m=(rsOf (xs.take i)).countP (brokenR ps hs l)->
   F.stowage_broken.L4 A n c A' m c' A2 n2 c2 n2 i A0 n0 c0 A1 n1 c1 A2 n2 c2 w.heap.size w' fun v _=>∃A' m c',v= .slice A' m c'/\m=(rsOf xs).countP (brokenR ps hs l):=by
  intro d
  induction d with
  |zero=>
   intro i A' m c' w' o hd hi hw ho hm
   rw[List.take_of_length_le (by omega)]at hm
   exact F.stowage_broken.L4.step _ _ _ _ _ _ _ _ _ _ _ _ _ _ _ _ _ _ _ _ _ _ _ ⟨fun h=>by omega,fun _=>⟨A',m,c',rfl,hm⟩⟩
  |succ d ih=>
   intro i A' m c' w' o hd hi hw ho hm
   have hil:i<xs.length:=by omega
   have e3:(i:Int)+1=((i+1:Nat):Int):=by omega
   have hmem:=List.getElem_mem hil
   have hrx:=hrr xs[i].r (List.mem_map_of_mem hmem)
   have hxi:=hp.f _ hmem
   have hm17:m<=i:=by
    rw[hm]
    refine Nat.le_trans List.countP_le_length ?_
    unfold rsOf
    rw[List.length_map,List.length_take]
    omega
   have hcnt:(rsOf (xs.take (i+1))).countP (brokenR ps hs l)=m+if brokenR ps hs l xs[i].r then 1 else 0:=by
    rw[<-rs_take hil,List.countP_append,<-hm,List.countP_singleton]
   obtain⟨hb,a,hA,hcell,_⟩:=(hp.keep hw).at_ hil
   have hkd:=hrx.kind
   refine F.stowage_broken.L4.step _ _ _ _ _ _ _ _ _ _ _ _ _ _ _ _ _ _ _ _ _ _ _ ⟨fun _=>⟨hb,a,hA,_,_,_,_,_,_,_,_,_,hcell,by omega,⟨⟨⟨⟨trivial,fun k=>by omega⟩,fun k w10 x10=> ?_⟩,fun k w10 x10=> ?_⟩,fun k w10 x10=> ?_⟩,fun k w10 x10=> ?_⟩,fun h=>by omega⟩
   all_goals
    have hw:=kE hw x10
    have ho:=ho.extNil x10
    have hp':=hp.keep hw
    have h':=h.keep hw (Nat.le_refl _)
   refine Pure.mono (stow_broken1 (hg.next hw) hp' h' hl hnc hn hst (hxi.keep hw) hrx k) ?_
   rotate_left
   refine Pure.mono (Pure.mono (stow_apart hp'.c h' hl hn (clsP_known hr) xs[i]) (R':=fun v _=>v= .bool (brokenR ps hs l xs[i].r)) ?_) ?_
   ·rintro v w2 _ rfl
    refine congrArg Value.bool ?_
    unfold brokenR
    rw[if_neg (by omega),if_pos k,<-apart_pairs (hold_known hr)]
   rotate_left
   refine Pure.mono (Pure.mono (stow_never hp'.c h' hl hn (clsP_known hr) xs[i]) (R':=fun v _=>v= .bool (brokenR ps hs l xs[i].r)) ?_) ?_
   ·rintro v w2 _ rfl
    refine congrArg Value.bool ?_
    unfold brokenR
    rw[if_neg (by omega),if_neg (by omega),if_pos k]
   rotate_left
   obtain⟨ip,hip⟩:=hrx.four k
   refine Pure.mono (Pure.mono (stow_whole hp'.c h' hl hn hr hip) (R':=fun v _=>v= .bool (brokenR ps hs l xs[i].r)) ?_) ?_
   ·rintro v w2 _ rfl
    refine congrArg Value.bool ?_
    unfold brokenR
    rw[if_neg (by omega),if_neg (by omega),if_neg (by omega)]
    cases (pix ps xs[i].r.a).bind fun i=>ps[i]? <;>rfl
   rotate_left
   all_goals
    rintro v w13 b13 rfl
    have hw13:=kP hw b13
    refine⟨_,rfl,fun hb1=> ?_,fun hb1=>⟨by simp only[inR];omega,?_⟩⟩
    ·refine app_row el_Ints (Nat.le_refl _) (ho.below b13) (x:= .int .i64 (i:Int)) rfl (by simp[Value.cells,isCell]) hw13.size (by omega) (by decide) fun A3 c3 w3 o3 _ b3=>⟨by simp only[inR];omega,?_⟩
     rw[e3]
     refine ih (i+1) A3 (m+1) c3 w3 (o++[(i:Int)]) (by omega) (by omega) (hw13.trans b3) (by rw[List.map_append];exact o3) ?_
     rw[hcnt,if_pos hb1]
    ·rw[e3]
     refine ih (i+1) A' m c' w13 o (by omega) (by omega) hw13 (ho.below b13) ?_
     rw[hcnt,if_neg (by simp[hb1])]
     rfl
 have:=key n2 0 none 0 0 w1 [] rfl (by omega) (k0 x1) OwnR.nil rfl
 exact this
theorem stow_Keeps(hg:Glob w)(hp:PrIn w A0 n0 A1 n1 A2 n2 c2 ps hs xs)(h:SlR w A 3 (l.map Sw.row))(hl:l.length=n)(hnc:n<=c)(hn:n<=40):
  Pure Tryz.prog 35 #[.agg #[.slice A0 n0 c0,.slice A1 n1 c1,.slice A2 n2 c2],.slice A n c] w fun v _=>v= .bool (keepsF ps hs (rsOf xs) l):=by
 refine F.stowage_Keeps.vc _ _ _ _ _ _ _ _ _ _ _ _ _ _ fun w1 x1=> ?_
 have hw:=k0 x1
 refine Pure.mono (stow_right (hg.next hw) (hp.keep hw) (h.keep hw (Nat.le_refl _)) hl hnc hn) ?_
 rintro v w4 b4 rfl
 have hw:=kP hw b4
 unfold keepsF
 refine⟨_,rfl,fun h1=>by rw[h1];rfl,fun h1=> ?_⟩
 have h1:=Bool.not_eq_false _|>.mp h1
 rw[h1,Bool.true_and]
 unfold rightF at h1
 simp only[Bool.and_eq_true,decide_eq_true_eq]at h1
 refine Pure.mono (stow_broken (hg.next hw) (hp.keep hw) (h.keep hw (Nat.le_refl _)) hl hnc hn h1.1 h1.2) ?_
 rintro v w7 b7 ⟨A',m,c',rfl,hm⟩
 have hw:=kP hw b7
 have hany:(rsOf xs).any (brokenR ps hs l)=decide (0<m):=by
  rw[hm,Bool.eq_iff_iff,decide_eq_true_eq,List.countP_pos_iff,List.any_eq_true]
 rw[hany]
 refine⟨_,_,_,rfl,fun h2=> ?_,fun h2=> ?_⟩
 ·rw[decide_eq_true (show 0<m by omega)]
  rfl
 ·rw[decide_eq_false (show ¬0<m by omega),Bool.not_false,Bool.true_and]
  refine Pure.mono (cargo_Overloaded (hg.next hw) (hp.keep hw).c (h.keep hw (Nat.le_refl _)) hl hnc hn) ?_
  rintro v w11 _ rfl
  unfold overV
  rw[if_neg (fun k=>k h1.2)]
  refine⟨_,_,rfl,?_⟩
  refine congrArg Value.bool ?_
  rw[decide_eq_decide]
  exact ixI_neg
end

theorem sh_ok{n:Nat}(h:n<=64):shOk .i64 (n:Int):=⟨by omega,by simp only[IntKind.bits];omega⟩
theorem shl_one:∀n:Nat,n<8->shlI .i64 1 (n:Int)=((2^n:Nat):Int):=by decide+kernel
theorem shr_and:∀s:Nat,s<128->∀n:Nat,n<8->bits .and .i64 (shrI (s:Int) (n:Int)) 1=if s.testBit n then 1 else 0:=by decide+kernel
theorem or_pow:∀s:Nat,s<128->∀n:Nat,n<8->bits .or .i64 (s:Int) ((2^n:Nat):Int)=((addB s n:Nat):Int):=by decide+kernel
theorem andNot_pow:∀s:Nat,s<128->∀n:Nat,n<8->s.testBit n=true->bits .andNot .i64 (s:Int) ((2^n:Nat):Int)=((s^^^2^n:Nat):Int):=by decide+kernel
theorem bit_eq{s n:Nat}(hs:s<128)(hn:n<8):bits .and .i64 (shrI (s:Int) (n:Int)) 1=1↔s.testBit n=true:=by
 rw[shr_and s hs n hn]
 cases s.testBit n<;>simp
theorem pow64:∀n:Nat,n<=6->2^n<=64:=by decide
end Go.Proofs.YtgfkeadgjkfomaaGreatDoor.B

set_option maxRecDepth 100000
set_option maxHeartbeats 4000000
namespace Go.Proofs.YtgfkeadgjkfomaaGreatDoor.F
open Go Go.RowKit Go.Proofs Go.Proofs.YtgfkeadgjkfomaaGreatDoor.Vc
def sequence_Between.L7(a:Option Addr)(b c:Nat)(d:Option Addr)(e f:Nat)(g:Option Addr)(i j:Nat)(l:Option Addr)(m n:Nat)(o p:Int)(q:Option Addr)(r s:Nat)(t:Option Addr)(u v B:Nat)(w:World)(R:Value->World->Prop):Prop:=At Tryz.prog 12 95 (loopAt Tryz.f12 7) [(3,.loc 3 0),(8,.v (.slice a b c)),(10,.v (.slice d e f)),(12,.v (.slice g i j)),(38,.v (.slice l m n)),(39,.v (.int .i64 o)),(40,.v (.int .i64 p))] [⟨3,false,25,[(.slice q r s),(.slice t u v)]⟩] B w R
def sequence_Between.L10(a:Option Addr)(b c:Nat)(d:Option Addr)(e f:Nat)(g:Option Addr)(i j:Nat)(l:Int)(m:Option Addr)(n o:Nat)(p q:Int)(r:Option Addr)(s t:Nat)(u v:Int)(x:Option Addr)(y z:Nat)(A:Option Addr)(C D:Nat)(E:Int)(G H I J K L:ByteArray)(B:Nat)(w:World)(R:Value->World->Prop):Prop:=At Tryz.prog 12 95 (loopAt Tryz.f12 10) [(3,.loc 3 0),(8,.v (.slice a b c)),(10,.v (.slice d e f)),(12,.v (.slice g i j)),(13,.v (.int .i64 l)),(14,.loc 14 0),(38,.v (.slice m n o)),(39,.v (.int .i64 p)),(40,.v (.int .i64 q)),(46,.v (.slice r s t)),(47,.v (.int .i64 u)),(48,.v (.int .i64 v))] [⟨3,false,25,[(.slice x y z),(.slice A C D)]⟩,⟨14,false,61,[(.int .i64 E),(.string G),(.string H),(.string I),(.string J),(.string K),(.string L)]⟩] B w R
noncomputable def sequence_Between.cx(w:World)(B:Nat)(R:Value->World->Prop):Cx:=⟨Tryz.prog,12,95,Tryz.f12.results.toList,[((true,7),[3,8,10,12,38,39,40],[3]),((true,10),[3,8,10,12,13,14,38,39,40,46,47,48],[3,14])],[(13,9999,3),(14,15,2),(14,16,2),(14,9999,3),(20,1,5),(20,2,6)],w,B,R⟩
theorem sequence_Between.L7.step(o:Option Addr)(p q:Nat)(r:Option Addr)(s t:Nat)(d:Option Addr)(b e:Nat)(i:Option Addr)(j u:Nat)(f a:Int)(l:Option Addr)(g m:Nat)(v:Option Addr)(x y B:Nat)(w:World)(R:Value->World->Prop)
  (h:(((a<f)->((0<=a/\a<j)/\∃z,i=some z/\(∃A C D E G H I,CellsAt w (z.add ((a).toNat*7)) [.int .i64 A,.string C,.string D,.string E,.string G,.string H,.string I]/\(∀J,Ext B [] w J->(sequence_Between.L10 o p q r s t d b e a i j u f a l g m (g:Int) (0:Int) l g m v x y A C D E G H I B J R)))))/\(¬(a<f)->((((b:Int)>6)->(R (.tuple #[.slice none 0 0,.int .i64 8]) w))/\(¬((b:Int)>6)->(∀c,Ext B [] w c->(∀n:Nat,B<=n->c.heap[n]? =some (.cells [(.func (.func 42) #[] #[])].toArray 75 (0,0))->(PureB P 43 #[.slice d b e,(.func (.func 44) #[] #[(.pointer (some (⟨n,0,none⟩:Addr)))])] B c fun L K=>(∀(k ty:Nat)(cs:Array Value),ty∈([25]:List Nat)->c.heap[k]? =some (.cells cs ty (0,0))->K.heap[k]? =c.heap[k]?)/\L= .tuple #[]/\(R (.tuple #[.slice d b e,.int .i64 0]) K))))))))):
  sequence_Between.L7 o p q r s t d b e i j u f a l g m v x y B w R:=
 loop_of_run (sequence_Between.cx w B R) 100000 (loopAt Tryz.f12 7) _ _ follows Tryz.func12 rfl rfl rfl (Eq.mp (by kernel_rfl) h)
theorem sequence_Between.L10.step(d:Option Addr)(e m:Nat)(f:Option Addr)(g n:Nat)(o:Option Addr)(p q:Nat)(c:Int)(r:Option Addr)(s t:Nat)(u i:Int)(v:Option Addr)(x H:Nat)(j a:Int)(y:Option Addr)(z A:Nat)(C:Option Addr)(b D:Nat)(E:Int)(I J K L M N:ByteArray)(B:Nat)(w:World)(R:Value->World->Prop)
  (h:(((a<j)->((0<=a/\a<x)/\∃U,v=some U/\(∃V a9 b0 b1 b2 b3 b4,CellsAt w (U.add ((a).toNat*7)) [.int .i64 V,.int .i64 a9,.int .i64 b0,.string b1,.string b2,.string b3,.string b4]/\(inR .i64 (a*(b:Int))/\(inR .i64 ((a*(b:Int))+c)/\(∀l,Ext B [] w l->((0<=((a*(b:Int))+c)/\((a*(b:Int))+c)<e)/\∃X,d=some X/\(∃O,CellsAt l (X.add ((((a*(b:Int))+c)).toNat*1)) [.int .i64 O]/\((0<=((a*(b:Int))+c)/\((a*(b:Int))+c)<g)/\∃Y,f=some Y/\(∃Q,CellsAt l (Y.add ((((a*(b:Int))+c)).toNat*1)) [.int .i64 Q]/\(((O≠Q)->(∀G,Ext B [] l G->((0<=((a*(b:Int))+c)/\((a*(b:Int))+c)<g)/\∃Z,f=some Z/\(∃S,CellsAt G (Z.add ((((a*(b:Int))+c)).toNat*1)) [.int .i64 S]/\((0<=((a*(b:Int))+c)/\((a*(b:Int))+c)<e)/\∃a0,d=some a0/\(∃T,CellsAt G (a0.add ((((a*(b:Int))+c)).toNat*1)) [.int .i64 T]/\(inR .i64 (S - T)/\(∀a1,Ext B [] G a1->(RunOk P (Instr.buildSlice 30 1 #[(0,(.agg #[.int .i64 E,.int .i64 V,(.int .i64 (S - T))]))]) B [65,25,61] a1 fun b5 b6=>∃a2 a3 a4,b5= .slice a2 a3 a4/\(RunOk P (Builtin.append_ #[30,30] 30 #[.slice o p q,.slice a2 a3 a4]) B [65,25,61] b6 fun b7 b8=>∃a5 a6 a7,b7= .slice a5 a6 a7/\(inR .i64 (a+1)/\(sequence_Between.L10 d e m f g n a5 a6 a7 c r s t u i v x H j (a+1) y z A C b D E I J K L M N B b8 R))))))))))))/\(¬(O≠Q)->(inR .i64 (a+1)/\(∀a8,Ext B [] l a8->(sequence_Between.L10 d e m f g n o p q c r s t u i v x H j (a+1) y z A C b D E I J K L M N B a8 R)))))))))))))))/\(¬(a<j)->(inR .i64 (i+1)/\(sequence_Between.L7 d e m f g n o p q r s t u (i+1) y z A C b D B w R))))):
  sequence_Between.L10 d e m f g n o p q c r s t u i v x H j a y z A C b D E I J K L M N B w R:=
 loop_of_run (sequence_Between.cx w B R) 100000 (loopAt Tryz.f12 10) _ _ follows Tryz.func12 rfl rfl rfl (Eq.mp (by kernel_rfl) h)
theorem sequence_Between.vc(d:Option Addr)(e f:Nat)(b:Option Addr)(a c:Nat)(l:Option Addr)(m n:Nat)(o:Option Addr)(p q:Nat)(w:World)(R:Value->World->Prop)
  (h:(∀r,Ext w.heap.size [] w r->(Pure P 41 #[.agg #[.slice d e f,.slice b a c],.slice l m n] r fun z A=>∃s t u g,z= .tuple #[.slice s t u,.int .i64 g]/\(Pure P 41 #[.agg #[.slice d e f,.slice b a c],.slice o p q] A fun C i=>∃v x y j,C= .tuple #[.slice v x y,.int .i64 j]/\(((g≠0)->(R (.tuple #[.slice none 0 0,.int .i64 1]) i))/\(¬(g≠0)->(((j≠0)->(R (.tuple #[.slice none 0 0,.int .i64 1]) i))/\(¬(j≠0)->(sequence_Between.L7 s t u v x y none 0 0 b a c (a:Int) (0:Int) d e f b a c w.heap.size i R))))))))):
  Pure P 12 #[.agg #[.slice d e f,.slice b a c],.slice l m n,.slice o p q] w R:=
 pure_of_run (sequence_Between.cx w w.heap.size R) 100000 follows Tryz.func12 rfl rfl rfl rfl rfl rfl rfl (Eq.mp (by kernel_rfl) h)

noncomputable def sequence_State.cx(w:World)(B:Nat)(R:Value->World->Prop):Cx:=⟨Tryz.prog,16,41,Tryz.f16.results.toList,[],[],w,B,R⟩
theorem sequence_State.vc(f:Option Addr)(g i:Nat)(j:Option Addr)(l m:Nat)(n:Option Addr)(o p:Nat)(q:Option Addr)(r s:Nat)(t:Option Addr)(u v:Nat)(a:Int)(w:World)(R:Value->World->Prop)
  (h:(∀x,Ext w.heap.size [] w x->(Pure P 47 #[.agg #[.slice f g i,.slice j l m,.slice n o p],.slice q r s,.slice t u v] x fun E c=>∃o2 b,E= .tuple #[.pointer o2,.int .i64 b]/\(((b≠0)->(R (.tuple #[.slice none 0 0,.int .i64 b]) c))/\(¬(b≠0)->(((a<0)->(R (.tuple #[.slice none 0 0,.int .i64 2]) c))/\(¬(a<0)->(Pure P 48 #[.pointer o2] c fun G y=>∃d,G= .int .i64 d/\(((a>d)->(R (.tuple #[.slice none 0 0,.int .i64 2]) y))/\(¬(a>d)->(Pure P 49 #[.pointer o2,.int .i64 a] y fun H z=>∃A C D e,H= .tuple #[.slice A C D,.bool e]/\(((e=false)->(R (.tuple #[.slice none 0 0,.int .i64 15]) z))/\(¬(e=false)->(R (.tuple #[.slice A C D,.int .i64 0]) z)))))))))))))):
  Pure P 16 #[.agg #[.slice f g i,.slice j l m,.slice n o p],.slice q r s,.slice t u v,.int .i64 a] w R:=
 pure_of_run (sequence_State.cx w w.heap.size R) 100000 follows Tryz.func16 rfl rfl rfl rfl rfl rfl rfl (Eq.mp (by kernel_rfl) h)

noncomputable def sequence_Order.cx(w:World)(B:Nat)(R:Value->World->Prop):Cx:=⟨Tryz.prog,22,29,Tryz.f22.results.toList,[],[(4,0,2),(5,0,2),(6,0,2),(7,0,5),(8,1,10)],w,B,R⟩
theorem sequence_Order.vc(f:Option Addr)(g i:Nat)(j:Option Addr)(l m:Nat)(n:Option Addr)(o p:Nat)(D:Option Addr)(E G:Nat)(q:Option Addr)(r s:Nat)(w:World)(R:Value->World->Prop)
  (h:(∀H,Ext w.heap.size [] w H->(Pure P 47 #[.agg #[.slice f g i,.slice j l m,.slice n o p],.slice D E G,.slice q r s] H fun U I=>∃o2 d,U= .tuple #[.pointer o2,.int .i64 d]/\(((d≠0)->(∀J,Ext w.heap.size [] I J->(R (.tuple #[.slice none 0 0,.int .i64 d]) J)))/\(¬(d≠0)->(∀K,Ext w.heap.size [] I K->(RunOk P (Instr.makeMap 90 none) w.heap.size [79,30,28] K fun V X=>∃(L:Option Nat),V= .map L/\(∀M,Ext w.heap.size [] X M->(RunOk P (Instr.alloc 48 true (.tuple #[])) w.heap.size [90,79,30,28] M fun Y Z=>∃(t:Addr),Y= .pointer (some t)/\(RunOk P (Instr.alloc 91 true (.tuple #[])) w.heap.size [90,79,30,28] Z fun a0 b=>∃(a:Addr),a0= .pointer (some a)/\(∀u:Nat,w.heap.size<=u->b.heap[u]? =some (.cells [.slice q r s].toArray 30 (0,0))->(∀v:Nat,w.heap.size<=v->b.heap[v]? =some (.cells [(.map L)].toArray 90 (0,0))->(∀x:Nat,w.heap.size<=x->b.heap[x]? =some (.cells [.pointer o2].toArray 79 (0,0))->(∃(y:List Value)(z:Nat),w.heap.size<=a.block/\a.spot=none/\b.heap[a.block]? =some (.cells y.toArray z (0,0))/\a.off+1<=y.length/\hasType z [⟨3,false,28,[.slice f g i,.slice j l m,.slice n o p]⟩]=false/\∀c,Wrote b c a.block z (setCells y a.off [(.func (.func 52) #[] #[(.pointer (some (⟨x,0,none⟩:Addr))),(.pointer (some (⟨v,0,none⟩:Addr))),(.pointer (some (⟨u,0,none⟩:Addr))),(.pointer (some t)),(.pointer (some a))])])->(∃(A:Nat)(N O:Array Value),CellsAt c a [(.func (.func A) N O)]/\(callable P A=true/\(PureB P A ((Array.toList N)++([.int .i64 0]:List Value)++(Array.toList O)).toArray w.heap.size c fun a1 e=>(∀(k ty:Nat)(cs:Array Value),ty∈([28]:List Nat)->c.heap[k]? =some (.cells cs ty (0,0))->e.heap[k]? =c.heap[k]?)/\∃C,a1= .bool C/\(((C=false)->(R (.tuple #[.slice none 0 0,.int .i64 19]) e))/\(¬(C=false)->(∃Q S T,CellsAt e t [.slice Q S T]/\(R (.tuple #[.slice Q S T,.int .i64 0]) e))))))))))))))))))))):
  Pure P 22 #[.agg #[.slice f g i,.slice j l m,.slice n o p],.slice D E G,.slice q r s] w R:=
 pure_of_run (sequence_Order.cx w w.heap.size R) 100000 follows Tryz.func22 rfl rfl rfl rfl rfl rfl rfl (Eq.mp (by kernel_rfl) h)

def sequence_Reached.L7(a:Option Addr)(b c:Nat)(ol8:Option Addr)(d:Option Nat)(e:Option Addr)(f g:Nat)(i:Int)(B:Nat)(w:World)(R:Value->World->Prop):Prop:=At Tryz.prog 24 64 (loopAt Tryz.f24 7) [(2,.v (.slice a b c)),(8,.v (.pointer ol8)),(10,.v (.map d)),(11,.v (.slice e f g)),(12,.v (.int .i64 i))] [] B w R
def sequence_Reached.L10(a:Option Addr)(b c:Nat)(ol8:Option Addr)(d:Option Nat)(e:Option Addr)(f g:Nat)(i j l:Int)(B:Nat)(w:World)(R:Value->World->Prop):Prop:=At Tryz.prog 24 64 (loopAt Tryz.f24 10) [(2,.v (.slice a b c)),(8,.v (.pointer ol8)),(10,.v (.map d)),(11,.v (.slice e f g)),(12,.v (.int .i64 i)),(34,.v (.int .i64 j)),(35,.v (.int .i64 l))] [] B w R
noncomputable def sequence_Reached.cx(w:World)(B:Nat)(R:Value->World->Prop):Cx:=⟨Tryz.prog,24,64,Tryz.f24.results.toList,[((true,7),[2,8,10,11,12],[]),((true,10),[2,8,10,11,12,34,35],[])],[(4,0,2),(4,1,2),(5,0,2),(12,11,2),(12,16,6),(13,2,2),(14,2,2),(14,3,2)],w,B,R⟩
theorem sequence_Reached.L7.step(g:Option Addr)(b i:Nat)(ol8:Option Addr)(j:Option Nat)(c:Option Addr)(d e:Nat)(a:Int)(B:Nat)(w:World)(R:Value->World->Prop)
  (h:(Pure P 48 #[.pointer ol8] w fun m l=>∃f,m= .int .i64 f/\(((a<=f)->(sequence_Reached.L10 g b i ol8 j c d e a (b:Int) (0:Int) B l R))/\(¬(a<=f)->(R (.tuple #[.slice c d e,.int .i64 0]) l))))):
  sequence_Reached.L7 g b i ol8 j c d e a B w R:=
 loop_of_run (sequence_Reached.cx w B R) 100000 (loopAt Tryz.f24 7) _ _ follows Tryz.func24 rfl rfl rfl (Eq.mp (by kernel_rfl) h)
theorem sequence_Reached.L10.step(d:Option Addr)(e f:Nat)(ol8:Option Addr)(c:Option Nat)(g:Option Addr)(i j:Nat)(a l b:Int)(B:Nat)(w:World)(R:Value->World->Prop)
  (h:(((b<l)->(shOk .i64 b/\(((((bits .and .i64 (shrI a b) (1:Int)):Int)=1)->(shOk .i64 b/\(RunOk P (Instr.lookup 90 (.map c) (.int .i64 (bits .andNot .i64 a (shlI .i64 1 b))) false) B [] w fun x m=>∃n,x= .bool n/\((n=true->(PureB P 53 #[.pointer ol8,.int .i64 a] B m fun y o=>(∀(k ty:Nat)(cs:Array Value),ty∈([]:List Nat)->m.heap[k]? =some (.cells cs ty (0,0))->o.heap[k]? =m.heap[k]?)/\∃p,y= .bool p/\((p=true->(RunOkU Tryz.prog (Instr.mapUpdate 90 (.map c) (.int .i64 a) (.bool true)) B [] o fun z=>(RunOk P (Instr.buildSlice 48 1 #[(0,(.int .i64 a))]) B [] z fun A C=>∃q r s,A= .slice q r s/\(RunOk P (Builtin.append_ #[48,48] 48 #[.slice g i j,.slice q r s]) B [] C fun D E=>∃t u v,D= .slice t u v/\(inR .i64 (a+1)/\(sequence_Reached.L7 d e f ol8 c t u v (a+1) B E R))))))/\(p=false->(inR .i64 (b+1)/\(sequence_Reached.L10 d e f ol8 c g i j a l (b+1) B o R))))))/\(n=false->(inR .i64 (b+1)/\(sequence_Reached.L10 d e f ol8 c g i j a l (b+1) B m R)))))))/\(¬(((bits .and .i64 (shrI a b) (1:Int)):Int)=1)->(inR .i64 (b+1)/\(sequence_Reached.L10 d e f ol8 c g i j a l (b+1) B w R))))))/\(¬(b<l)->(inR .i64 (a+1)/\(sequence_Reached.L7 d e f ol8 c g i j (a+1) B w R))))):
  sequence_Reached.L10 d e f ol8 c g i j a l b B w R:=
 loop_of_run (sequence_Reached.cx w B R) 100000 (loopAt Tryz.f24 10) _ _ follows Tryz.func24 rfl rfl rfl (Eq.mp (by kernel_rfl) h)
theorem sequence_Reached.vc(f:Option Addr)(g i:Nat)(j:Option Addr)(l m:Nat)(n:Option Addr)(o p:Nat)(q:Option Addr)(r s:Nat)(b:Option Addr)(c d:Nat)(w:World)(R:Value->World->Prop)
  (h:(∀t,Ext w.heap.size [] w t->(Pure P 47 #[.agg #[.slice f g i,.slice j l m,.slice n o p],.slice q r s,.slice b c d] t fun z u=>∃o2 a,z= .tuple #[.pointer o2,.int .i64 a]/\(((a≠0)->(R (.tuple #[.slice none 0 0,.int .i64 a]) u))/\(¬(a≠0)->(RunOk P (Instr.makeMap 90 none) w.heap.size [28] u fun A C=>∃(e:Option Nat),A= .map e/\(RunOkU Tryz.prog (Instr.mapUpdate 90 (.map e) (.int .i64 0) (.bool true)) w.heap.size [28] C fun D=>(RunOk P (Instr.buildSlice 48 1 #[(0,(.int .i64 0))]) w.heap.size [28] D fun E G=>∃v x y,E= .slice v x y/\(sequence_Reached.L7 b c d o2 e v x y (1:Int) w.heap.size G R))))))))):
  Pure P 24 #[.agg #[.slice f g i,.slice j l m,.slice n o p],.slice q r s,.slice b c d] w R:=
 pure_of_run (sequence_Reached.cx w w.heap.size R) 100000 follows Tryz.func24 rfl rfl rfl rfl rfl rfl rfl (Eq.mp (by kernel_rfl) h)

def sequence_Check.L7(a:Option Addr)(b c:Nat)(ol10:Option Addr)(d e:Int)(B:Nat)(w:World)(R:Value->World->Prop):Prop:=At Tryz.prog 27 58 (loopAt Tryz.f27 7) [(3,.v (.slice a b c)),(10,.v (.pointer ol10)),(32,.v (.int .i64 d)),(33,.v (.int .i64 e))] [] B w R
def sequence_Check.L14(ol10:Option Addr)(a:Int)(b:Option Addr)(c d:Nat)(e f:Int)(B:Nat)(w:World)(R:Value->World->Prop):Prop:=At Tryz.prog 27 58 (loopAt Tryz.f27 14) [(10,.v (.pointer ol10)),(13,.v (.int .i64 a)),(41,.v (.slice b c d)),(42,.v (.int .i64 e)),(43,.v (.int .i64 f))] [] B w R
noncomputable def sequence_Check.cx(w:World)(B:Nat)(R:Value->World->Prop):Cx:=⟨Tryz.prog,27,58,Tryz.f27.results.toList,[((true,7),[3,10,32,33],[]),((true,14),[10,13,41,42,43],[])],[(17,2,6)],w,B,R⟩
theorem sequence_Check.L7.step(c:Option Addr)(b d:Nat)(ol10:Option Addr)(e a:Int)(B:Nat)(w:World)(R:Value->World->Prop)
  (h:(((a<e)->(Pure P 57 #[.slice c b d,.int .i64 a] w fun i g=>∃f,i= .bool f/\(((f=false)->(R (.tuple #[(.int .i64 (-1:Int)),.int .i64 10]) g))/\(¬(f=false)->(inR .i64 (a+1)/\(sequence_Check.L7 c b d ol10 e (a+1) B g R))))))/\(¬(a<e)->(sequence_Check.L14 ol10 (0:Int) c b d (b:Int) (0:Int) B w R)))):
  sequence_Check.L7 c b d ol10 e a B w R:=
 loop_of_run (sequence_Check.cx w B R) 100000 (loopAt Tryz.f27 7) _ _ follows Tryz.func27 rfl rfl rfl (Eq.mp (by kernel_rfl) h)
theorem sequence_Check.L14.step(ol10:Option Addr)(d:Int)(e:Option Addr)(f j:Nat)(b a:Int)(B:Nat)(w:World)(R:Value->World->Prop)
  (h:(((a<b)->((0<=a/\a<f)/\∃l,e=some l/\(∃c,CellsAt w (l.add ((a).toNat*1)) [.int .i64 c]/\(shOk .i64 c/\(PureB P 53 #[.pointer ol10,(.int .i64 (bits .or .i64 d (shlI .i64 1 c)))] B w fun m g=>(∀(k ty:Nat)(cs:Array Value),ty∈([]:List Nat)->w.heap[k]? =some (.cells cs ty (0,0))->g.heap[k]? =w.heap[k]?)/\∃i,m= .bool i/\(((i=false)->(R (.tuple #[.int .i64 a,.int .i64 15]) g))/\(¬(i=false)->(inR .i64 (a+1)/\(sequence_Check.L14 ol10 (bits .or .i64 d (shlI .i64 1 c)) e f j b (a+1) B g R)))))))))/\(¬(a<b)->(R (.tuple #[(.int .i64 (-1:Int)),.int .i64 0]) w)))):
  sequence_Check.L14 ol10 d e f j b a B w R:=
 loop_of_run (sequence_Check.cx w B R) 100000 (loopAt Tryz.f27 14) _ _ follows Tryz.func27 rfl rfl rfl (Eq.mp (by kernel_rfl) h)
theorem sequence_Check.vc(e:Option Addr)(f g:Nat)(i:Option Addr)(j l:Nat)(m:Option Addr)(n o:Nat)(p:Option Addr)(q r:Nat)(s:Option Addr)(a t:Nat)(u:Option Addr)(b v:Nat)(w:World)(R:Value->World->Prop)
  (h:(∀x,Ext w.heap.size [] w x->(Pure P 47 #[.agg #[.slice e f g,.slice i j l,.slice m n o],.slice p q r,.slice s a t] x fun y d=>∃o2 c,y= .tuple #[.pointer o2,.int .i64 c]/\(((c≠0)->(R (.tuple #[(.int .i64 (-1:Int)),.int .i64 c]) d))/\(¬(c≠0)->((((b:Int)≠(a:Int))->(R (.tuple #[(.int .i64 (-1:Int)),.int .i64 10]) d))/\(¬((b:Int)≠(a:Int))->(sequence_Check.L7 u b v o2 (a:Int) (0:Int) w.heap.size d R)))))))):
  Pure P 27 #[.agg #[.slice e f g,.slice i j l,.slice m n o],.slice p q r,.slice s a t,.slice u b v] w R:=
 pure_of_run (sequence_Check.cx w w.heap.size R) 100000 follows Tryz.func27 rfl rfl rfl rfl rfl rfl rfl (Eq.mp (by kernel_rfl) h)

def sequence_Closed.L6(a:Option Addr)(b c:Nat)(d:Option Addr)(e f:Nat)(ol9:Option Addr)(g:Option Nat)(i:Option Addr)(j l:Nat)(m n:Int)(B:Nat)(w:World)(R:Value->World->Prop):Prop:=At Tryz.prog 30 89 (loopAt Tryz.f30 6) [(2,.v (.slice a b c)),(3,.v (.slice d e f)),(9,.v (.pointer ol9)),(11,.v (.map g)),(29,.v (.slice i j l)),(30,.v (.int .i64 m)),(31,.v (.int .i64 n))] [] B w R
def sequence_Closed.L15(a:Option Addr)(b c:Nat)(ol9:Option Addr)(d:Option Nat)(e:Option Addr)(f g:Nat)(i j:Int)(B:Nat)(w:World)(R:Value->World->Prop):Prop:=At Tryz.prog 30 89 (loopAt Tryz.f30 15) [(2,.v (.slice a b c)),(9,.v (.pointer ol9)),(11,.v (.map d)),(63,.v (.slice e f g)),(64,.v (.int .i64 i)),(65,.v (.int .i64 j))] [] B w R
def sequence_Closed.L18(a:Option Addr)(b c:Nat)(ol9:Option Addr)(d:Option Nat)(e:Int)(f:Option Addr)(g i:Nat)(j l m n:Int)(B:Nat)(w:World)(R:Value->World->Prop):Prop:=At Tryz.prog 30 89 (loopAt Tryz.f30 18) [(2,.v (.slice a b c)),(9,.v (.pointer ol9)),(11,.v (.map d)),(15,.v (.int .i64 e)),(63,.v (.slice f g i)),(64,.v (.int .i64 j)),(65,.v (.int .i64 l)),(70,.v (.int .i64 m)),(71,.v (.int .i64 n))] [] B w R
noncomputable def sequence_Closed.cx(w:World)(B:Nat)(R:Value->World->Prop):Cx:=⟨Tryz.prog,30,89,Tryz.f30.results.toList,[((true,6),[2,3,9,11,29,30,31],[]),((true,15),[2,9,11,63,64,65],[]),((true,18),[2,9,11,15,63,64,65,70,71],[])],[(4,0,2),(10,2,2),(12,1,2),(21,2,2),(21,7,6)],w,B,R⟩
theorem sequence_Closed.L6.step(i:Option Addr)(j l:Nat)(e:Option Addr)(d m:Nat)(ol9:Option Addr)(c:Option Nat)(n:Option Addr)(o p:Nat)(f a:Int)(B:Nat)(w:World)(R:Value->World->Prop)
  (h:(((a<f)->((0<=a/\a<o)/\∃t,n=some t/\(∃b,CellsAt w (t.add ((a).toNat*1)) [.int .i64 b]/\(((b<0)->(R (.int .i64 14) w))/\(¬(b<0)->(Pure P 48 #[.pointer ol9] w fun x g=>∃q,x= .int .i64 q/\(((b≥q)->(R (.int .i64 14) g))/\(¬(b≥q)->(((a>0)->(inR .i64 (a - (1:Int))/\((0<=(a - (1:Int))/\(a - (1:Int))<d)/\∃u,e=some u/\(∃r,CellsAt g (u.add (((a - (1:Int))).toNat*1)) [.int .i64 r]/\(((r≥b)->(R (.int .i64 14) g))/\(¬(r≥b)->(RunOkU Tryz.prog (Instr.mapUpdate 90 (.map c) (.int .i64 b) (.bool true)) B [] g fun y=>(inR .i64 (a+1)/\(sequence_Closed.L6 i j l e d m ol9 c n o p f (a+1) B y R)))))))))/\(¬(a>0)->(RunOkU Tryz.prog (Instr.mapUpdate 90 (.map c) (.int .i64 b) (.bool true)) B [] g fun z=>(inR .i64 (a+1)/\(sequence_Closed.L6 i j l e d m ol9 c n o p f (a+1) B z R)))))))))))))/\(¬(a<f)->(RunOk P (Instr.lookup 90 (.map c) (.int .i64 0) false) B [] w fun A v=>∃s,A= .bool s/\(((s=false)->(R (.int .i64 14) v))/\(¬(s=false)->(sequence_Closed.L15 i j l ol9 c e d m (d:Int) (0:Int) B v R))))))):
  sequence_Closed.L6 i j l e d m ol9 c n o p f a B w R:=
 loop_of_run (sequence_Closed.cx w B R) 100000 (loopAt Tryz.f30 6) _ _ follows Tryz.func30 rfl rfl rfl (Eq.mp (by kernel_rfl) h)
theorem sequence_Closed.L15.step(f:Option Addr)(c g:Nat)(ol9:Option Addr)(i:Option Nat)(d:Option Addr)(e j:Nat)(b a:Int)(B:Nat)(w:World)(R:Value->World->Prop)
  (h:(((a<b)->((0<=a/\a<e)/\∃l,d=some l/\(∃m,CellsAt w (l.add ((a).toNat*1)) [.int .i64 m]/\(sequence_Closed.L18 f c g ol9 i m d e j b a (c:Int) (0:Int) B w R))))/\(¬(a<b)->(R (.int .i64 0) w)))):
  sequence_Closed.L15 f c g ol9 i d e j b a B w R:=
 loop_of_run (sequence_Closed.cx w B R) 100000 (loopAt Tryz.f30 15) _ _ follows Tryz.func30 rfl rfl rfl (Eq.mp (by kernel_rfl) h)
theorem sequence_Closed.L18.step(f:Option Addr)(g i:Nat)(ol9:Option Addr)(b:Option Nat)(c:Int)(j:Option Addr)(l m:Nat)(n d e a:Int)(B:Nat)(w:World)(R:Value->World->Prop)
  (h:(((a<e)->(shOk .i64 a/\(RunOk P (Instr.lookup 90 (.map b) (.int .i64 (bits .or .i64 c (shlI .i64 1 a))) false) B [] w fun s o=>∃p,s= .bool p/\(((p=false)->(PureB P 53 #[.pointer ol9,(.int .i64 (bits .or .i64 c (shlI .i64 1 a)))] B o fun t q=>(∀(k ty:Nat)(cs:Array Value),ty∈([]:List Nat)->o.heap[k]? =some (.cells cs ty (0,0))->q.heap[k]? =o.heap[k]?)/\∃r,t= .bool r/\((r=true->(R (.int .i64 14) q))/\(r=false->(inR .i64 (a+1)/\(sequence_Closed.L18 f g i ol9 b c j l m n d e (a+1) B q R))))))/\(¬(p=false)->(inR .i64 (a+1)/\(sequence_Closed.L18 f g i ol9 b c j l m n d e (a+1) B o R)))))))/\(¬(a<e)->(inR .i64 (d+1)/\(sequence_Closed.L15 f g i ol9 b j l m n (d+1) B w R))))):
  sequence_Closed.L18 f g i ol9 b c j l m n d e a B w R:=
 loop_of_run (sequence_Closed.cx w B R) 100000 (loopAt Tryz.f30 18) _ _ follows Tryz.func30 rfl rfl rfl (Eq.mp (by kernel_rfl) h)
theorem sequence_Closed.vc(i:Option Addr)(j l:Nat)(m:Option Addr)(n o:Nat)(p:Option Addr)(q r:Nat)(s:Option Addr)(t u:Nat)(c:Option Addr)(d e:Nat)(f:Option Addr)(a g:Nat)(w:World)(R:Value->World->Prop)
  (h:(∀v,Ext w.heap.size [] w v->(Pure P 47 #[.agg #[.slice i j l,.slice m n o,.slice p q r],.slice s t u,.slice c d e] v fun z x=>∃o2 b,z= .tuple #[.pointer o2,.int .i64 b]/\(((b≠0)->(R (.int .i64 b) x))/\(¬(b≠0)->(RunOk P (Instr.makeMap 90 none) w.heap.size [28] x fun A C=>∃(y:Option Nat),A= .map y/\(sequence_Closed.L6 c d e f a g o2 y f a g (a:Int) (0:Int) w.heap.size C R))))))):
  Pure P 30 #[.agg #[.slice i j l,.slice m n o,.slice p q r],.slice s t u,.slice c d e,.slice f a g] w R:=
 pure_of_run (sequence_Closed.cx w w.heap.size R) 100000 follows Tryz.func30 rfl rfl rfl rfl rfl rfl rfl (Eq.mp (by kernel_rfl) h)

noncomputable def sequence_Between_c1.cx(w:World)(B:Nat)(R:Value->World->Prop):Cx:=⟨Tryz.prog,42,6,Tryz.f42.results.toList,[],[],w,B,R⟩
theorem sequence_Between_c1.vc(d e a:Int)(w:World)(R:Value->World->Prop)
  (h:(((a<0)->(∀b,Ext w.heap.size [] w b->(R (.int .i64 0) b)))/\(¬(a<0)->(∀c,Ext w.heap.size [] w c->(R (.int .i64 1) c))))):
  Pure P 42 #[.agg #[.int .i64 d,.int .i64 e,.int .i64 a]] w R:=
 pure_of_run (sequence_Between_c1.cx w w.heap.size R) 100000 follows Tryz.func42 rfl rfl rfl rfl rfl rfl rfl (Eq.mp (by kernel_rfl) h)

noncomputable def sequence_Between_c2.cx(w:World)(B:Nat)(R:Value->World->Prop):Cx:=⟨Tryz.prog,44,13,Tryz.f44.results.toList,[],[(1,2,4),(1,5,4),(1,9999,3)],w,B,R⟩
theorem sequence_Between_c2.vc(e f g i j l:Int)(b:Addr)(w:World)(R:Value->World->Prop)
  (h:(∀a,Ext w.heap.size [] w a->(∃(c:Nat)(m n:Array Value),CellsAt a b [(.func (.func c) m n)]/\(∃(d:Nat)(o p:Array Value),CellsAt a b [(.func (.func d) o p)]/\(callable P c=true/\(∀q,Ext w.heap.size [] a q->(Pure P c ((Array.toList m)++([.agg #[.int .i64 e,.int .i64 f,.int .i64 g]]:List Value)++(Array.toList n)).toArray q fun u v=>∃r,u= .int .i64 r/\(callable P d=true/\(Pure P d ((Array.toList o)++([.agg #[.int .i64 i,.int .i64 j,.int .i64 l]]:List Value)++(Array.toList p)).toArray v fun x y=>∃s,x= .int .i64 s/\(Pure P 45 #[.int .i64 r,.int .i64 s] y fun z A=>∃t,z= .int .i64 t/\(R (.int .i64 t) A))))))))))):
  Pure P 44 #[.agg #[.int .i64 e,.int .i64 f,.int .i64 g],.agg #[.int .i64 i,.int .i64 j,.int .i64 l],(.pointer (some b))] w R:=
 pure_of_run (sequence_Between_c2.cx w w.heap.size R) 100000 follows Tryz.func44 rfl rfl rfl rfl rfl rfl rfl (Eq.mp (by kernel_rfl) h)

def sequence_begin.L10(a:Option Addr)(b c:Nat)(d:Option Addr)(e f:Nat)(g:Addr)(i:Option Addr)(j l:Nat)(m n:Int)(o:Option Addr)(p q:Nat)(r:Option Addr)(s t:Nat)(u:Option Addr)(v x B:Nat)(w:World)(R:Value->World->Prop):Prop:=At Tryz.prog 47 86 (loopAt Tryz.f47 10) [(1,.v (.slice a b c)),(2,.v (.slice d e f)),(3,.loc 3 0),(10,.v (.pointer (some g))),(36,.v (.slice i j l)),(37,.v (.int .i64 m)),(38,.v (.int .i64 n))] [⟨3,false,28,[(.slice o p q),(.slice r s t),(.slice u v x)]⟩] B w R
def sequence_begin.L17(a:Option Addr)(b c:Nat)(d:Addr)(e:Option Addr)(f g:Nat)(i j:Int)(l:Option Addr)(m n:Nat)(o:Option Addr)(p q:Nat)(r:Option Addr)(s t B:Nat)(w:World)(R:Value->World->Prop):Prop:=At Tryz.prog 47 86 (loopAt Tryz.f47 17) [(1,.v (.slice a b c)),(3,.loc 3 0),(10,.v (.pointer (some d))),(55,.v (.slice e f g)),(56,.v (.int .i64 i)),(57,.v (.int .i64 j))] [⟨3,false,28,[(.slice l m n),(.slice o p q),(.slice r s t)]⟩] B w R
noncomputable def sequence_begin.cx(w:World)(B:Nat)(R:Value->World->Prop):Cx:=⟨Tryz.prog,47,86,Tryz.f47.results.toList,[((true,10),[1,2,3,10,36,37,38],[3]),((true,17),[1,3,10,55,56,57],[3])],[(8,2,2),(8,4,2)],w,B,R⟩
theorem sequence_begin.L10.step(e:Option Addr)(f g:Nat)(i:Option Addr)(b j:Nat)(c:Addr)(l:Option Addr)(m A:Nat)(d a:Int)(n:Option Addr)(o p:Nat)(q:Option Addr)(r s:Nat)(t:Option Addr)(u v B:Nat)(w:World)(R:Value->World->Prop)
  (h:(((a<d)->((0<=a/\a<m)/\∃C,l=some C/\(∃D E G,CellsAt w (C.add ((a).toNat*3)) [.int .i64 D,.int .i64 E,.int .i64 G]/\(∀H,Ext B [] w H->(Pure P 78 #[(.pointer (some c)),.agg #[.int .i64 D,.int .i64 E,.int .i64 G]] H fun I x=>∃y z,I= .tuple #[.int .i64 y,.int .i64 z]/\(((y<0)->(R (.tuple #[.pointer none,.int .i64 7]) x))/\(¬(y<0)->(((z<0)->(R (.tuple #[.pointer none,.int .i64 7]) x))/\(¬(z<0)->(inR .i64 (a+1)/\(sequence_begin.L10 e f g i b j c l m A d (a+1) n o p q r s t u v B x R)))))))))))/\(¬(a<d)->(sequence_begin.L17 e f g c i b j (b:Int) (0:Int) n o p q r s t u v B w R)))):
  sequence_begin.L10 e f g i b j c l m A d a n o p q r s t u v B w R:=
 loop_of_run (sequence_begin.cx w B R) 100000 (loopAt Tryz.f47 10) _ _ follows Tryz.func47 rfl rfl rfl (Eq.mp (by kernel_rfl) h)
theorem sequence_begin.L17.step(m:Option Addr)(n o:Nat)(a:Addr)(p:Option Addr)(q x:Nat)(d b:Int)(e:Option Addr)(f g:Nat)(i:Option Addr)(j l:Nat)(r:Option Addr)(s t B:Nat)(w:World)(R:Value->World->Prop)
  (h:(((b<d)->((0<=b/\b<q)/\∃y,p=some y/\(∃K L c,CellsAt w (y.add ((b).toNat*3)) [.int .i64 K,.int .i64 L,.int .i64 c]/\(((c=0)->(∀z,Ext B [] w z->(R (.tuple #[.pointer none,.int .i64 2]) z)))/\(¬(c=0)->(((c<(-9:Int))->(∀A,Ext B [] w A->(R (.tuple #[.pointer none,.int .i64 2]) A)))/\(¬(c<(-9:Int))->(((c>9)->(∀C,Ext B [] w C->(R (.tuple #[.pointer none,.int .i64 2]) C)))/\(¬(c>9)->(inR .i64 (b+1)/\(∀D,Ext B [] w D->(sequence_begin.L17 m n o a p q x d (b+1) e f g i j l r s t B D R))))))))))))/\(¬(b<d)->(Pure P 41 #[.agg #[.slice e f g,.slice i j l],.slice m n o] w fun M E=>∃G H I N,M= .tuple #[.slice G H I,.int .i64 N]/\(∃(u:List Value)(v:Nat),B<=(a.add 4).block/\(a.add 4).spot=none/\E.heap[(a.add 4).block]? =some (.cells u.toArray v (0,0))/\(a.add 4).off+1<=u.length/\hasType v [⟨3,false,28,[.slice e f g,.slice i j l,.slice r s t]⟩]=false/\∀J,Wrote E J (a.add 4).block v (setCells u (a.add 4).off [.slice G H I])->(R (.tuple #[(.pointer (some a)),.int .i64 0]) J)))))):
  sequence_begin.L17 m n o a p q x d b e f g i j l r s t B w R:=
 loop_of_run (sequence_begin.cx w B R) 100000 (loopAt Tryz.f47 17) _ _ follows Tryz.func47 rfl rfl rfl (Eq.mp (by kernel_rfl) h)
theorem sequence_begin.vc(b:Option Addr)(c d:Nat)(e:Option Addr)(f g:Nat)(i:Option Addr)(j l:Nat)(o:Option Addr)(p q:Nat)(m:Option Addr)(a n:Nat)(w:World)(R:Value->World->Prop)
  (h:(∀u,Ext w.heap.size [] w u->(Pure P 77 #[.agg #[.slice b c d,.slice e f g,.slice i j l]] u fun z v=>∃A r,z= .tuple #[.int .i64 A,.int .i64 r]/\(((r≠0)->(R (.tuple #[.pointer none,.int .i64 1]) v))/\(¬(r≠0)->(Pure P 35 #[.agg #[.slice b c d,.slice e f g,.slice i j l],.slice o p q] v fun C s=>∃t,C= .bool t/\(((t=false)->(R (.tuple #[.pointer none,.int .i64 11]) s))/\(¬(t=false)->((((a:Int)>6)->(R (.tuple #[.pointer none,.int .i64 8]) s))/\(¬((a:Int)>6)->(RunOk P (Instr.makeMap 90 none) w.heap.size [28] s fun D E=>∃(x:Option Nat),D= .map x/\(RunOk P (Instr.box 114 (.agg #[.slice b c d,.slice e f g,.slice i j l,.slice m a n,.slice none 0 0,(.map x)])) w.heap.size [28] E fun G H=>∃(y:Addr),G= .pointer (some y)/\(sequence_begin.L10 o p q m a n y m a n (a:Int) (0:Int) b c d e f g i j l w.heap.size H R))))))))))))):
  Pure P 47 #[.agg #[.slice b c d,.slice e f g,.slice i j l],.slice o p q,.slice m a n] w R:=
 pure_of_run (sequence_begin.cx w w.heap.size R) 100000 follows Tryz.func47 rfl rfl rfl rfl rfl rfl rfl (Eq.mp (by kernel_rfl) h)

noncomputable def sequence_task_all.cx(w:World)(B:Nat)(R:Value->World->Prop):Cx:=⟨Tryz.prog,48,10,Tryz.f48.results.toList,[],[],w,B,R⟩
theorem sequence_task_all.vc(b:Addr)(w:World)(R:Value->World->Prop)
  (h:(∃c a d,CellsAt w (b.add 3) [.slice c a d]/\(shOk .i64 (a:Int)/\(inR .i64 ((shlI .i64 1 (a:Int)) - (1:Int))/\(R (.int .i64 ((shlI .i64 1 (a:Int)) - (1:Int))) w))))):
  Pure P 48 #[(.pointer (some b))] w R:=
 pure_of_run (sequence_task_all.cx w w.heap.size R) 100000 follows Tryz.func48 rfl rfl rfl rfl rfl rfl rfl (Eq.mp (by kernel_rfl) h)

def sequence_task_state.L3(a:Addr)(b:Int)(c:Option Addr)(d e:Nat)(f:Option Addr)(g i:Nat)(j l:Int)(B:Nat)(w:World)(R:Value->World->Prop):Prop:=At Tryz.prog 49 71 (loopAt Tryz.f49 3) [(0,.v (.pointer (some a))),(1,.v (.int .i64 b)),(6,.v (.slice c d e)),(21,.v (.slice f g i)),(22,.v (.int .i64 j)),(23,.v (.int .i64 l))] [] B w R
noncomputable def sequence_task_state.cx(w:World)(B:Nat)(R:Value->World->Prop):Cx:=⟨Tryz.prog,49,71,Tryz.f49.results.toList,[((true,3),[0,1,6,21,22,23],[])],[],w,B,R⟩
theorem sequence_task_state.L3.step(f:Addr)(j:Int)(g:Option Addr)(i n:Nat)(o:Option Addr)(p q:Nat)(l c:Int)(B:Nat)(w:World)(R:Value->World->Prop)
  (h:(((c<l)->((0<=c/\c<p)/\∃z,o=some z/\(∃r s m,CellsAt w (z.add ((c).toNat*3)) [.int .i64 r,.int .i64 s,.int .i64 m]/\(shOk .i64 c/\(((((bits .and .i64 (shrI j c) (1:Int)):Int)=1)->(∀A,Ext B [] w A->(Pure P 78 #[(.pointer (some f)),.agg #[.int .i64 r,.int .i64 s,.int .i64 m]] A fun S t=>∃a d,S= .tuple #[.int .i64 a,.int .i64 d]/\(∃T b U,CellsAt t (((f.add 0).add 0).add 1) [.slice T b U]/\(inR .i64 (a*(b:Int))/\(inR .i64 ((a*(b:Int))+d)/\((0<=((a*(b:Int))+d)/\((a*(b:Int))+d)<i)/\∃C,g=some C/\(∃u,CellsAt t (C.add ((((a*(b:Int))+d)).toNat*1)) [.int .i64 u]/\(inR .i64 (u+m)/\((0<=((a*(b:Int))+d)/\((a*(b:Int))+d)<i)/\∃e,g=some e/\(∀v,Ext B [] t v->(∃(x:List Value)(y:Nat),B<=(e.add ((((a*(b:Int))+d)).toNat*1)).block/\(e.add ((((a*(b:Int))+d)).toNat*1)).spot=none/\v.heap[(e.add ((((a*(b:Int))+d)).toNat*1)).block]? =some (.cells x.toArray y (0,0))/\(e.add ((((a*(b:Int))+d)).toNat*1)).off+1<=x.length/\hasType y [⟨8,false,44,[.int .i64 r,.int .i64 s,.int .i64 m]⟩]=false/\∀D,Wrote v D (e.add ((((a*(b:Int))+d)).toNat*1)).block y (setCells x (e.add ((((a*(b:Int))+d)).toNat*1)).off [(.int .i64 (u+m))])->(inR .i64 (c+1)/\(sequence_task_state.L3 f j g i n o p q l (c+1) B D R))))))))))))))/\(¬(((bits .and .i64 (shrI j c) (1:Int)):Int)=1)->(inR .i64 (c+1)/\(∀E,Ext B [] w E->(sequence_task_state.L3 f j g i n o p q l (c+1) B E R)))))))))/\(¬(c<l)->(∃G H I J K L,CellsAt w ((f.add 0).add 0) [.slice G H I,.slice J K L]/\(Pure P 79 #[.agg #[.slice G H I,.slice J K L],.slice g i n] w fun V X=>∃M N O Q,V= .tuple #[.slice M N O,.int .i64 Q]/\(R (.tuple #[.slice M N O,(.bool (decide (Q=0)))]) X)))))):
  sequence_task_state.L3 f j g i n o p q l c B w R:=
 loop_of_run (sequence_task_state.cx w B R) 100000 (loopAt Tryz.f49 3) _ _ follows Tryz.func49 rfl rfl rfl (Eq.mp (by kernel_rfl) h)
theorem sequence_task_state.vc(a:Addr)(c:Int)(w:World)(R:Value->World->Prop)
  (h:(∃d e f,CellsAt w (a.add 4) [.slice d e f]/\(Pure P 28 #[.slice d e f] w fun o g=>∃i j l,o= .slice i j l/\(∃m b n,CellsAt g (a.add 3) [.slice m b n]/\(sequence_task_state.L3 a c i j l m b n (b:Int) (0:Int) w.heap.size g R))))):
  Pure P 49 #[(.pointer (some a)),.int .i64 c] w R:=
 pure_of_run (sequence_task_state.cx w w.heap.size R) 100000 follows Tryz.func49 rfl rfl rfl rfl rfl rfl rfl (Eq.mp (by kernel_rfl) h)

def sequence_Order_c1.L6(a:Int)(b:Addr)(c:Addr)(d:Addr)(e:Addr)(f g:Int)(B:Nat)(w:World)(R:Value->World->Prop):Prop:=At Tryz.prog 52 50 (loopAt Tryz.f52 6) [(0,.v (.int .i64 a)),(1,.v (.pointer (some b))),(2,.v (.pointer (some c))),(4,.v (.pointer (some d))),(5,.v (.pointer (some e))),(18,.v (.int .i64 f)),(19,.v (.int .i64 g))] [] B w R
noncomputable def sequence_Order_c1.cx(w:World)(B:Nat)(R:Value->World->Prop):Cx:=⟨Tryz.prog,52,50,Tryz.f52.results.toList,[((true,6),[0,1,2,4,5,18,19],[])],[(3,2,2),(9,6,6),(10,2,2),(10,3,2),(11,2,10),(15,2,2)],w,B,R⟩
theorem sequence_Order_c1.L6.step(c:Int)(f:Addr)(g:Addr)(a:Addr)(i:Addr)(d b:Int)(B:Nat)(w:World)(R:Value->World->Prop)
  (h:(((b<d)->(shOk .i64 b/\(((((bits .or .i64 c (shlI .i64 1 b)):Int)=c)->(inR .i64 (b+1)/\(sequence_Order_c1.L6 c f g a i d (b+1) B w R)))/\(¬(((bits .or .i64 c (shlI .i64 1 b)):Int)=c)->(∃o10,CellsAt w f [.pointer o10]/\(PureB P 53 #[.pointer o10,(.int .i64 (bits .or .i64 c (shlI .i64 1 b)))] B w fun N m=>(∀(k ty:Nat)(cs:Array Value),ty∈([]:List Nat)->w.heap[k]? =some (.cells cs ty (0,0))->m.heap[k]? =w.heap[k]?)/\∃n,N= .bool n/\(((n=false)->(inR .i64 (b+1)/\(sequence_Order_c1.L6 c f g a i d (b+1) B m R)))/\(¬(n=false)->(∃v x y,CellsAt m a [.slice v x y]/\(RunOk P (Instr.buildSlice 48 1 #[(0,(.int .i64 b))]) B [] m fun O Q=>∃z A C,O= .slice z A C/\(RunOk P (Builtin.append_ #[48,48] 48 #[.slice v x y,.slice z A C]) B [] Q fun S D=>∃E G H,S= .slice E G H/\(∃(o:List Value)(p:Nat),B<=a.block/\a.spot=none/\D.heap[a.block]? =some (.cells o.toArray p (0,0))/\a.off+1<=o.length/\hasType p []=false/\∀j,Wrote D j a.block p (setCells o a.off [.slice E G H])->(∃(q:Nat)(I J:Array Value),CellsAt j i [(.func (.func q) I J)]/\(callable P q=true/\(PureB P q ((Array.toList I)++([(.int .i64 (bits .or .i64 c (shlI .i64 1 b)))]:List Value)++(Array.toList J)).toArray B j fun T e=>(∀(k ty:Nat)(cs:Array Value),ty∈([]:List Nat)->j.heap[k]? =some (.cells cs ty (0,0))->e.heap[k]? =j.heap[k]?)/\∃r,T= .bool r/\((r=true->(R (.bool true) e))/\(r=false->(∃K U s,CellsAt e a [.slice K U s]/\(∃V l X,CellsAt e a [.slice V l X]/\(inR .i64 ((l:Int) - (1:Int))/\((0<=((l:Int) - (1:Int))/\((l:Int) - (1:Int))<=(s:Int))/\(∃(t:List Value)(u:Nat),B<=a.block/\a.spot=none/\e.heap[a.block]? =some (.cells t.toArray u (0,0))/\a.off+1<=t.length/\hasType u []=false/\∀L,Wrote e L a.block u (setCells t a.off [(.slice K ((((l:Int) - (1:Int))).toNat) s)])->(inR .i64 (b+1)/\(sequence_Order_c1.L6 c f g a i d (b+1) B L R))))))))))))))))))))))))/\(¬(b<d)->(∃(M:Option Nat),CellsAt w g [(.map M)]/\(RunOkU Tryz.prog (Instr.mapUpdate 90 (.map M) (.int .i64 c) (.bool true)) B [] w fun Y=>(R (.bool false) Y)))))):
  sequence_Order_c1.L6 c f g a i d b B w R:=
 loop_of_run (sequence_Order_c1.cx w B R) 100000 (loopAt Tryz.f52 6) _ _ follows Tryz.func52 rfl rfl rfl (Eq.mp (by kernel_rfl) h)
theorem sequence_Order_c1.vcB(a:Int)(b:Addr)(c:Addr)(i:Addr)(j:Addr)(l:Addr)(B:Nat)(w:World)(hB:B<=w.heap.size)(R:Value->World->Prop)
  (h:(∃o1,CellsAt w b [.pointer o1]/\(Pure P 48 #[.pointer o1] w fun o d=>∃e,o= .int .i64 e/\(((a=e)->(R (.bool true) d))/\(¬(a=e)->(∃(m:Option Nat),CellsAt d c [(.map m)]/\(RunOk P (Instr.lookup 90 (.map m) (.int .i64 a) false) B [] d fun p f=>∃g,p= .bool g/\((g=true->(R (.bool false) f))/\(g=false->(∃q n r,CellsAt f i [.slice q n r]/\(sequence_Order_c1.L6 a b c j l (n:Int) (0:Int) B f R))))))))))):
  PureB P 52 #[.int .i64 a,(.pointer (some b)),(.pointer (some c)),(.pointer (some i)),(.pointer (some j)),(.pointer (some l))] B w R:=
 pureB_of_run (sequence_Order_c1.cx w B R) 100000 follows Tryz.func52 rfl rfl rfl rfl hB rfl rfl (Eq.mp (by kernel_rfl) h)

noncomputable def sequence_task_allowed.cx(w:World)(B:Nat)(R:Value->World->Prop):Cx:=⟨Tryz.prog,53,42,Tryz.f53.results.toList,[],[(1,5,2),(5,6,2)],w,B,R⟩
theorem sequence_task_allowed.vcB(a:Addr)(b:Int)(B:Nat)(w:World)(hB:B<=w.heap.size)(R:Value->World->Prop)
  (h:(∃(g:Option Nat),CellsAt w (a.add 5) [(.map g)]/\(RunOk P (Instr.lookup 90 (.map g) (.int .i64 b) true) B [] w fun C i=>∃j d,C= .tuple #[.bool j,.bool d]/\(((d=false)->(Pure P 49 #[(.pointer (some a)),.int .i64 b] i fun D c=>∃l m n e,D= .tuple #[.slice l m n,.bool e]/\((e=true->(∃o p q r s t u v x,CellsAt c (a.add 0) [.slice o p q,.slice r s t,.slice u v x]/\(Pure P 35 #[.agg #[.slice o p q,.slice r s t,.slice u v x],.slice l m n] c fun E y=>∃f,E= .bool f/\(∃(z:Option Nat),CellsAt y (a.add 5) [(.map z)]/\(RunOkU Tryz.prog (Instr.mapUpdate 90 (.map z) (.int .i64 b) (.bool f)) B [] y fun G=>(R (.bool f) G))))))/\(e=false->(∃(A:Option Nat),CellsAt c (a.add 5) [(.map A)]/\(RunOkU Tryz.prog (Instr.mapUpdate 90 (.map A) (.int .i64 b) (.bool false)) B [] c fun H=>(R (.bool false) H)))))))/\(¬(d=false)->(R (.bool j) i)))))):
  PureB P 53 #[(.pointer (some a)),.int .i64 b] B w R:=
 pureB_of_run (sequence_task_allowed.cx w B R) 100000 follows Tryz.func53 rfl rfl rfl rfl hB rfl rfl (Eq.mp (by kernel_rfl) h)

noncomputable def sequence_task_place.cx(w:World)(B:Nat)(R:Value->World->Prop):Cx:=⟨Tryz.prog,78,26,Tryz.f78.results.toList,[],[(1,6,5)],w,B,R⟩
theorem sequence_task_place.vc(c:Addr)(d e f:Int)(w:World)(R:Value->World->Prop)
  (h:(∀a,Ext w.heap.size [] w a->(∃g i j,CellsAt a (((c.add 0).add 0).add 0) [.slice g i j]/\(∀b:Nat,w.heap.size<=b->a.heap[b]? =some (.cells [.int .i64 d,.int .i64 e,.int .i64 f].toArray 44 (0,0))->(Pure P 111 #[.slice g i j,(.func (.func 112) #[] #[(.pointer (some (⟨b,0,none⟩:Addr)))])] a fun r l=>∃m,r= .int .i64 m/\(∃n o p,CellsAt l (((c.add 0).add 0).add 1) [.slice n o p]/\(Pure P 101 #[.slice n o p,(.func (.func 113) #[] #[(.pointer (some (⟨b,0,none⟩:Addr)))])] l fun s t=>∃q,s= .int .i64 q/\(R (.tuple #[.int .i64 m,.int .i64 q]) t)))))))):
  Pure P 78 #[(.pointer (some c)),.agg #[.int .i64 d,.int .i64 e,.int .i64 f]] w R:=
 pure_of_run (sequence_task_place.cx w w.heap.size R) 100000 follows Tryz.func78 rfl rfl rfl rfl rfl rfl rfl (Eq.mp (by kernel_rfl) h)

noncomputable def sequence_task_place_c1.cx(w:World)(B:Nat)(R:Value->World->Prop):Cx:=⟨Tryz.prog,112,9,Tryz.f112.results.toList,[],[],w,B,R⟩
theorem sequence_task_place_c1.vc(b e f:Int)(g i j l:ByteArray)(c:Addr)(w:World)(R:Value->World->Prop)
  (h:(∀a,Ext w.heap.size [] w a->(∃d,CellsAt a (c.add 1) [.int .i64 d]/\(R (.bool (decide (b=d))) a)))):
  Pure P 112 #[.agg #[.int .i64 b,.int .i64 e,.int .i64 f,.string g,.string i,.string j,.string l],(.pointer (some c))] w R:=
 pure_of_run (sequence_task_place_c1.cx w w.heap.size R) 100000 follows Tryz.func112 rfl rfl rfl rfl rfl rfl rfl (Eq.mp (by kernel_rfl) h)

noncomputable def sequence_task_place_c2.cx(w:World)(B:Nat)(R:Value->World->Prop):Cx:=⟨Tryz.prog,113,9,Tryz.f113.results.toList,[],[],w,B,R⟩
theorem sequence_task_place_c2.vc(b:Int)(e f g i j l:ByteArray)(c:Addr)(w:World)(R:Value->World->Prop)
  (h:(∀a,Ext w.heap.size [] w a->(∃d,CellsAt a (c.add 0) [.int .i64 d]/\(R (.bool (decide (b=d))) a)))):
  Pure P 113 #[.agg #[.int .i64 b,.string e,.string f,.string g,.string i,.string j,.string l],(.pointer (some c))] w R:=
 pure_of_run (sequence_task_place_c2.cx w w.heap.size R) 100000 follows Tryz.func113 rfl rfl rfl rfl rfl rfl rfl (Eq.mp (by kernel_rfl) h)

end Go.Proofs.YtgfkeadgjkfomaaGreatDoor.F
