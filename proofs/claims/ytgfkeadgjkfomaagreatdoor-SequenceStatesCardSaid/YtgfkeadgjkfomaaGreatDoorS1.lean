/- Part 1 of the proofs that: SequenceStates, SequenceOrders and SequenceChecks hold for every input: the program's functions return what the reference functions return -/
import Derived.WalkKit
import Derived.OrdersHeld
import Derived.Below
import Derived.Laws.Entries
set_option linter.unusedVariables false
set_option linter.unusedSimpArgs false
namespace Go.Proofs.YtgfkeadgjkfomaaGreatDoor
open Go Go.RowKit
theorem om{p:Prop}(h:p:=by omega):p:=h
theorem dc{p:Prop}(h:p:=by decide):p:=h
theorem sm{p:Prop}(h:p:=by simp):p:=h
theorem kF{p:Prop}(h:p:=by kernel_rfl):p:=h
theorem gD{p:Prop}(h:p:=by grind):p:=h
theorem lf{n:Nat}:n<=n:=Nat.le_refl n
theorem sc(n:Nat):(n:Int)+1=((n+1:Nat):Int):=by omega
abbrev af:= @List.getElem?_eq_getElem
abbrev ar:= @if_neg
abbrev bx:= @List.take_of_length_le
abbrev bU:= @Array.getElem?_eq_some_iff
abbrev cc:= @if_pos
abbrev cd:= @List.getElem_mem
abbrev cN:= @List.getD_eq_getElem?_getD
abbrev dp:= @List.drop_eq_nil_of_le
abbrev dq:= @Int.toNat_natCast
abbrev dB:= @congrArg
abbrev ea:= @Decidable.byContradiction
abbrev eb:= @Bool.and_eq_true
abbrev ec:= @List.drop_eq_getElem_cons
abbrev eh:= @decide_eq_false
abbrev ep:= @Decidable.not_not
abbrev ew:= @List.getElem?_eq_some_iff
abbrev eN:= @List.take_add_one
abbrev fc:= @decide_eq_true
abbrev fi:= @List.mem_cons
abbrev fs:= @List.length_take
abbrev fx:= @List.length_append
abbrev fy:= @Nat.pow_le_pow_right
abbrev fT:= @Nat.mul_le_mul_right
abbrev ga:= @Nat.le_trans
abbrev gb:= @List.mem_singleton
abbrev gu:= @List.all_eq_true
abbrev gv:= @List.length_map
abbrev gw:= @List.length_cons
abbrev gz:= @List.eq_nil_of_length_eq_zero
abbrev gO:= @Nat.mul_le_mul_left
abbrev hG:= @of_decide_eq_true
abbrev hJ:= @List.mem_of_getElem?
abbrev hL:= @Nat.pow_succ
abbrev hM:= @Nat.le_refl
abbrev hP:= @Bool.not_eq_false
abbrev h8:= @List.mem_append
abbrev iv:= @Nat.min_eq_left
abbrev jv:= @Nat.mul_add
abbrev jA:= @List.mem_range
abbrev jB:= @decide_eq_decide
abbrev jK:= @Nat.lt_of_lt_of_le
abbrev kc:= @List.mem_map
abbrev kd:= @of_decide_eq_false
abbrev kh:= @List.any_eq_true
abbrev kl:= @List.getElem?_eq_none
abbrev kx:= @Nat.lt_of_le_of_lt
abbrev ky:= @Int.natAbs_natCast
abbrev k7:= @Option.map_eq_some_iff
abbrev lq:= @Nat.mul_le_mul
abbrev lx:= @List.map_append
abbrev ly:= @List.take_append_drop
abbrev lI:= @Bool.true_and
abbrev mr:= @List.mem_of_mem_take
abbrev mw:= @Nat.add_mul
abbrev mP:= @List.getElem?_append_right
abbrev ni:= @List.length_eq_one_iff
abbrev ns:= @List.append_nil
abbrev nx:= @Ne.symm
abbrev nC:= @decide_eq_true_eq
abbrev nN:= @List.nil_append
abbrev nQ:= @List.length_pos_iff
abbrev nZ:= @Bool.false_and
abbrev ob:= @Nat.add_zero
abbrev og:= @Int.natAbs_mul
abbrev oi:= @Nat.zero_add
abbrev oj:= @List.getElem?_append_left
abbrev ot:= @List.length_nil
abbrev ow:= @List.flatMap_cons
abbrev oK:= @List.getElem?_set_self
abbrev pg:= @List.range_succ
abbrev pj:= @Int.eq_ofNat_of_zero_le
abbrev pw:= @List.not_mem_nil
abbrev qn:= @Nat.le_mul_of_pos_right
abbrev qo:= @List.append_assoc
abbrev qH:= @List.getElem?_set_ne
abbrev rm:= @Array.getElem?_eq_none
abbrev ru:= @Nat.mul_comm
abbrev rP:= @List.getElem?_take
abbrev rT:= @Option.toList_some
abbrev sn:= @List.filter_append
abbrev sr:= @Bool.eq_iff_iff
abbrev ta:= @Nat.div_add_mod
abbrev tm:= @if_false
abbrev tW:= @Bool.not_eq_true'
abbrev tX:= @List.getElem?_map
abbrev ug:= @List.flatten_cons
abbrev uz:= @Option.bind_eq_some_iff
abbrev uP:= @Nat.add_sub_cancel
abbrev uQ:= @List.drop_zero
abbrev uR:= @List.mem_of_mem_drop
abbrev uS:= @List.pairwise_append
abbrev uW:= @Array.length_toList
abbrev u0:= @Nat.mod_lt
abbrev va:= @List.flatten_append
abbrev vd:= @List.any_eq_false
abbrev ve:= @List.getElem_take
abbrev vf:= @Array.mem_of_getElem?
abbrev vi:= @List.length_singleton
abbrev vv:= @List.all_cons
abbrev vx:= @Bool.false_or
abbrev vM:= @List.sum_cons
abbrev wY:= @List.dropLast_concat_getLast
abbrev xk:= @List.getElem?_drop
abbrev xm:= @List.cons_append
abbrev xt:= @Bool.or_eq_true
abbrev xu:= @List.nodup_cons
abbrev ya:= @Nat.two_pow_pos
abbrev ym:= @Array.getElem?_setIfInBounds_ne
abbrev yn:= @List.getLast?_eq_getElem?
abbrev za:= @List.pairwise_iff_getElem
abbrev zb:= @Nat.div_lt_iff_lt_mul
abbrev zw:= @List.contains_iff_mem
abbrev zy:= @Bool.false_eq_true
abbrev zz:= @List.eq_nil_iff_forall_not_mem
abbrev zB:= @List.length_drop
abbrev zC:= @Bool.not_eq_true
abbrev Ai:= @Option.isSome_iff_exists
abbrev Ao:= @List.eq_of_mem_replicate
abbrev AD:= @List.take_take
abbrev AG:= @Bool.and_false
abbrev AM:= @if_true
abbrev AP:= @List.ext_getElem?
abbrev AY:= @List.foldl_append
abbrev BD:= @List.mem_filter
abbrev BM:= @Option.some.inj
abbrev BO:= @List.any_append
abbrev BZ:= @List.mem_map_of_mem
abbrev B7:= @Nat.lt_or_ge
abbrev CO:= @Nat.mul_zero
abbrev CQ:= @Nat.gcd_comm
abbrev Dx:= @List.map_cons
abbrev Dy:= @List.drop_set
abbrev Dz:= @Nat.mod_eq_of_lt
abbrev DA:= @Option.bind_some
abbrev DB:= @Int.sign_eq_neg_one_of_neg
abbrev DC:= @List.findIdx?_eq_some_iff_getElem
abbrev DD:= @List.mem_or_eq_of_mem_set
abbrev DE:= @List.findIdx?_eq_none_iff
abbrev DF:= @Nat.div_le_self
abbrev DY:= @List.size_toArray
abbrev EF:= @List.map_set
abbrev EG:= @Nat.pow_pos
abbrev EI:= @Nat.eq_zero_of_gcd_eq_zero_right
abbrev EZ:= @Nat.eq_of_testBit_eq
abbrev Ff:= @List.exists_of_findSome?_eq_some
abbrev Fg:= @Nat.pow_lt_pow_iff_right
abbrev Fh:= @Bool.and_true
abbrev FM:= @List.replicate_succ
abbrev FN:= @List.flatMap_append
abbrev GD:= @List.flatMap_nil
abbrev GI:= @List.drop_drop
abbrev GK:= @Bool.not_false
abbrev GM:= @List.getElem?_replicate
abbrev GO:= @Nat.div_eq_of_lt
abbrev GX:= @List.filter_cons
abbrev He:= @List.getLast?_eq_some_getLast
abbrev Hg:= @List.drop_append_of_le_length
abbrev Hs:= @List.take_append_of_le_length
abbrev HD:= @List.map_nil
abbrev HF:= @Nat.gcd_zero_right
abbrev HM:= @Int.sign_eq_one_of_pos
abbrev HO:= @List.pairwise_cons
abbrev HP:= @UInt8.toNat_inj
abbrev HV:= @Array.getElem?_setIfInBounds
abbrev HW:= @Nat.add_assoc
abbrev HX:= @Nat.le_of_ble_eq_true
abbrev Iq:= @List.set_append_right
abbrev IJ:= @ByteArray.data_append
abbrev IQ:= @List.countP_le_length
abbrev IZ:= @Option.some.injEq
abbrev I1:= @not_true_eq_false
abbrev Jc:= @Array.getElem?_setIfInBounds_self_of_lt
abbrev Jo:= @Int.tdiv_eq_ediv_of_nonneg
abbrev Jv:= @Int.tmod_eq_emod_of_nonneg
abbrev Jw:= @Array.getElem?_append_left
abbrev JA:= @Nat.mul_one
abbrev JM:= @Array.size_replicate
abbrev Kf:= @Int.natAbs_neg
abbrev Kv:= @List.take_zero
abbrev K0:= @Option.ne_none_iff_exists'
abbrev K9:= @List.zipIdx_cons
abbrev Ln:= @List.mem_flatMap
abbrev Ly:= @Nat.div_mul_le_self
abbrev LG:= @Nat.mul_assoc
abbrev LN:= @List.map_take
abbrev LP:= @or_false
abbrev LR:= @List.any_cons
abbrev LS:= @List.foldl_cons
abbrev Md:= @Array.ext'
abbrev Me:= @UInt8.toNat_ofNat'
abbrev MG:= @Int.mul_nonpos_of_nonpos_of_nonneg
abbrev MX:= @Int.mul_nonpos_of_nonneg_of_nonpos
abbrev M3:= @Nat.add_comm
abbrev Na:= @Nat.lt_trichotomy
abbrev Np:= @Bool.and_assoc
abbrev Nq:= @Array.getElem?_modify
abbrev NP:= @Nat.gcd_dvd_left
abbrev N6:= @List.countP_cons
abbrev N9:= @List.nodup_range
abbrev Of:= @Bool.or_false
abbrev Oo:= @Prod.mk.injEq
abbrev Oq:= @Nat.zero_le
abbrev Oz:= @Array.replicate_succ
abbrev OD:= @Array.replicate_zero
abbrev OE:= @Nat.pow_lt_pow_right
abbrev OF:= @Int.ediv_emod_unique
abbrev OI:= @Nat.mul_add_div
abbrev OL:= @Nat.mul_add_mod
abbrev OO:= @List.length_zip
abbrev OR:= @List.append_toArray
abbrev OS:= @List.reverse_append
abbrev OU:= @Nat.testBit_two_pow
abbrev OV:= @List.countP_eq_zero
abbrev OY:= @Array.getD_eq_getD_getElem?
abbrev Pj:= @List.all_nil
abbrev Pk:= @Nat.zero_mul
abbrev Pl:= @Int.add_zero
abbrev Pq:= @List.nodup_nil
abbrev Pr:= @Rat.sub_eq_add_neg
abbrev Ps:= @Rat.not_lt
abbrev PB:= @List.mem_cons_self
abbrev PE:= @Array.all_eq_true'
abbrev PL:= @Int.le_refl
abbrev PM:= @List.push_toArray
abbrev PS:= @Nat.pow_add
abbrev PX:= @Int.lt_trichotomy
abbrev P1:= @Nat.gcd_dvd_right
abbrev Qf:= @List.filter_congr
abbrev Qi:= @List.pairwise_map
abbrev Qu:= @Nat.le_of_dvd
abbrev Qz:= @Nat.mul_lt_mul''
abbrev QB:= @List.take_length
abbrev QH:= @Nat.blt_eq
abbrev QQ:= @Rat.add_def'
abbrev Q1:= @Int.le_of_lt
abbrev Re:= @List.any_nil
abbrev Rj:= @List.zipIdx_nil
abbrev Rl:= @Int.natCast_mul
abbrev Ro:= @Option.map_some
abbrev Rr:= @List.length_set
abbrev Ry:= @Nat.one_mul
abbrev RA:= @List.drop_left
abbrev RB:= @Int.mul_nonneg
abbrev RC:= @bne_iff_ne
abbrev RQ:= @Int.not_lt
abbrev RS:= @ne_eq
end Go.Proofs.YtgfkeadgjkfomaaGreatDoor

namespace Go.Proofs.YtgfkeadgjkfomaaGreatDoor.Vc
open Go Go.RowKit

inductive SV where
 |v (x:Value)
 |t
 |f
 |p (q:Prop) (h:Decidable q)
 |loc (l off:Nat)
 |u

def SV.val:SV->Option Value
 | .v x=>some x
 | .t=>some (.bool true)
 | .f=>some (.bool false)
 | .p q h=>some (.bool (@decide q h))
 | .loc _ _=>none
 | .u=>none

def SV.den(b:Nat->Nat):SV->Value
 | .v x=>x
 | .t=> .bool true
 | .f=> .bool false
 | .p q h=> .bool (@decide q h)
 | .loc l off=> .pointer (some ⟨b l,off,none⟩)
 | .u=>undef

abbrev Env:=List (Nat×SV)

def get:Env->Nat->Option SV
 |[],_=>none
 |x::r,s=>match Nat.beq x.1 s with
  |true=>some x.2
  |false=>get r s

def drop:Env->Nat->Env
 |[],_=>[]
 |x::r,s=>match Nat.beq x.1 s with
  |true=>drop r s
  |false=>x::drop r s

def SV.Lo(l:Nat):SV->Bool
 | .loc k _=>Nat.beq k l
 |_=>false

def pn:Env->Nat->Env
 |[],_=>[]
 |x::r,l=>match x.2.Lo l with
  |true=>drop (pn r l) x.1
  |false=>x::pn r l

structure qO where
 Om:Nat
 new:Bool
 ty:Nat
 cells:List Value

def bO:List qO->Nat->Option qO
 |[],_=>none
 |x::r,l=>match Nat.beq x.Om l with
  |true=>some x
  |false=>bO r l

def kz:List qO->Nat->List qO
 |[],_=>[]
 |x::r,l=>match Nat.beq x.Om l with
  |true=>kz r l
  |false=>x::kz r l

structure St where
 env:Env
 boxes:List qO
 w:World
 d:Option (List Nat)

structure Ext (B:Nat) (ts:List Nat) (w w':World):Prop where
 below:Below B w w'
 other:∀k,k<w.heap.size->w'.heap[k]? =w.heap[k]?∨∃t∈ts,∃c c' fr,w.heap[k]? =some (.cells c t fr)/\w'.heap[k]? =some (.cells c' t fr)

def ae(w:World)(a:Addr)(vs:List Value):Prop:=∀i,(h:i<vs.length)->w.cell? (a.add i)=some vs[i]

def Pure(P:Program)(f:FuncId)(args:Array Value)(w:World)(R:Value->World->Prop):Prop:=
 Calls P f args w fun e w'=>∃v,e= .returned v/\Below w.heap.size w w'/\R v w'

def dZ(P:Program)(f:FuncId)(args:Array Value)(B:Nat)(w:World)(R:Value->World->Prop):Prop:=
 Calls P f args w fun e w'=>∃v,e= .returned v/\Below B w w'/\R v w'

def Pt(P:Program)(f:FuncId)(todo:List Item)(T:Array Value)(w:World)(R:Ending->World->Prop):Prop:=
 ∀cs,∃e w' fr,R e w'/\Comes P (lone (({(default:Frame)with fn:=f,kind:= .normal}:Frame).at ⟨T,[]⟩ todo) cs w) (lone fr cs w') e/\fr.fn=f/\fr.leaving P w' e

def po(b:Nat->Nat)(env:Env)(T:Array Value):Prop:=∀s x,get env s=some x->T[s]? =some (x.den b)

structure rX (b:Nat->Nat) (B:Nat) (boxes:List qO) (w:World):Prop where
 at_:∀l x,bO boxes l=some x->B<=b l/\w.heap[b l]? =some (.cells x.cells.toArray x.ty (0,0))
 ne:∀l m x y,bO boxes l=some x->bO boxes m=some y->l≠m->b l≠b m

def Out(B:Nat)(w:World)(R:Value->World->Prop):Ending->World->Prop:=fun e w'=>∃v,e= .returned v/\Below B w w'/\R v w'

def At(P:Program)(f:FuncId)(N:Nat)(todo:List Item)(env:Env)(boxes:List qO)(B:Nat)(w:World)(R:Value->World->Prop):Prop:=
 ∀b T,T.size=N->po b env T->rX b B boxes w->B<=w.heap.size->Pt P f todo T w (Out B w R)

inductive Lf where
 |int (k:IntKind)|bool|str|slice|func|map|ptr|any
inductive S1 where
 |one (l:Lf)|agg (ls:List Lf)
inductive Sh where
 |s (x:S1)|YZ (l:List S1)

def Lp:Lf->(Value->Prop)->Prop
 | .int k,K=>∃n:Int,K (.int k n)
 | .bool,K=>∃b:Bool,K (.bool b)
 | .str,K=>∃s:ByteArray,K (.string s)
 | .slice,K=>∃(A:Option Addr)(n c:Nat),K (.slice A n c)
 | .func,K=>∃(f:Nat)(a c:Array Value),K (.func (.func f) a c)
 | .map,K=>∃r:Option Nat,K (.map r)
 | .ptr,K=>∃a:Option Addr,K (.pointer a)
 | .any,K=>∃v,K v
def I8:List Lf->(List Value->Prop)->Prop
 |[],K=>K []
 |l::r,K=>Lp l fun v=>I8 r fun vs=>K (v::vs)
def RL:S1->(Value->Prop)->Prop
 | .one l,K=>Lp l K
 | .agg ls,K=>I8 ls fun vs=>K (.agg vs.toArray)
def Lq:List S1->(List Value->Prop)->Prop
 |[],K=>K []
 |l::r,K=>RL l fun v=>Lq r fun vs=>K (v::vs)
def OM:Sh->(Value->Prop)->Prop
 | .s x,K=>RL x K
 | .YZ l,K=>Lq l fun vs=>K (.tuple vs.toArray)

def EJ(P:Program):Nat->TypeId->List Lf
 |0,_=>[.any]
 |n+1,t=>match P.underlying t with
  |some (.int k)=>[.int k]
  |some .bool=>[.bool]
  |some .string=>[.str]
  |some (.slice _)=>[.slice]
  |some (.func _ _ _)=>[.func]
  |some (.map _ _)=>[.map]
  |some (.pointer _)=>[.ptr]
  |some (.struct a)=>a.toList.flatMap fun f=>EJ P n f.type
  |some (.array m e)=>(List.replicate m (EJ P n e)).flatten
  |_=>[.any]
def fg(P:Program)(t:TypeId):Bool:=match P.underlying t with
 |some (.struct _)=>true
 |some (.array _ _)=>true
 |_=>false
def s1(P:Program)(t:TypeId):S1:=match fg P t with
 |true=> .agg (EJ P 8 t)
 |false=>match EJ P 8 t with
  |l::_=> .one l
  |[]=> .one .any
def sh(P:Program)(t:TypeId):Sh:=match P.underlying t with
 |some (.tuple ts)=> .YZ (ts.toList.map (s1 P))
 |_=> .s (s1 P t)

structure Cx where
 P:Program
 f:FuncId
 N:Nat
 res:List ResultVar
 RM:List ((Bool×Nat)×List Nat×List Nat)
 mode:List (Nat×Nat×Nat)
 w0:World
 B:Nat
 R:Value->World->Prop

def fj:List (Nat×Nat×Nat)->Nat->Nat->Nat
 |[],_,_=>0
 |(r,i,m)::l,a,b=>match Nat.beq r a&&Nat.beq i b with
  |true=>m
  |false=>fj l a b

def I9:List ((Bool×Nat)×List Nat×List Nat)->Bool->Nat->Option (List Nat×List Nat)
 |[],_,_=>none
 |((b,n),x)::l,a,n'=>match (match b,a with|true,true=>true|false,false=>true|_,_=>false)&&Nat.beq n n' with
  |true=>some x
  |false=>I9 l a n'

def ins(t:Nat):List Nat->List Nat
 |[]=>[t]
 |x::r=>match Nat.beq x t with
  |true=>x::r
  |false=>x::ins t r

def St.tZ(st:St):St:={st with d:=some (st.d.getD [])}
def St.wrote(st:St)(t:Nat):St:={st with d:=some (ins t (st.d.getD []))}

def yT:List qO->List qO
 |[]=>[]
 |x::r=>{x with new:=false}::yT r

def iA(B:Nat)(st:St)(K:St->Prop):Prop:=
 match st.d with
 |none=>K st
 |some ts=>∀w1,Ext B ts st.w w1->K {env:=st.env,boxes:=yT st.boxes,w:=w1,d:=none}

def put(N:Nat)(st:St)(dst:Option Tmp)(x:SV)(K:St->Prop):Prop:=
 match dst with
 |none=>K st
 |some s=>match Nat.blt s N with
  |true=>K {st with env:=(s,x)::drop st.env s}
  |false=>False

def ev(st:St):Operand->Option SV
 | .tmp t=>get st.env t
 | .const (.bool true)=>some .t
 | .const (.bool false)=>some .f
 | .const v=>some (.v v)
 | .global g=>some (.v (.pointer (some ⟨g,0,none⟩)))
 | .func f=>some (.v (.func (.func f) #[] #[]))

def xH(o:Option SV)(K:SV->Prop):Prop:=match o with
 |some x=>K x
 |none=>False

def vD(o:Option SV)(K:Value->Prop):Prop:=match o with
 |some x=>match x.val with
  |some v=>K v
  |none=>False
 |none=>False

def On(st:St):List Operand->Option (List Value)
 |[]=>some []
 |x::r=>match (ev st x).bind SV.val,On st r with
  |some v,some vs=>some (v::vs)
  |_,_=>none

def xb(x:SV)(K:Bool->Prop):Prop:=match x with
 | .t=>K true
 | .f=>K false
 | .p q _=>(q->K true)/\(¬q->K false)
 | .v (.bool b)=>(b=true->K true)/\(b=false->K false)
 |_=>False

def az:IntKind->Int->Prop
 | .i8,n=> -128<=n/\n<=127
 | .i16,n=> -32768<=n/\n<=32767
 | .i32,n=> -2147483648<=n/\n<=2147483647
 | .i64,n=> -9223372036854775808<=n/\n<=9223372036854775807
 | .u8,n=>0<=n/\n<=255
 | .u16,n=>0<=n/\n<=65535
 | .u32,n=>0<=n/\n<=4294967295
 | .u64,n=>0<=n/\n<=18446744073709551615
theorem ir{k:IntKind}{n:Int}(h:az k n:=by simp only[az];omega):az k n:=h

def num(raw:Bool)(k:IntKind)(n:Int)(K:SV->Prop):Prop:=match raw with
 |true=>K (.v (.int k (k.wrap n)))
 |false=>az k n/\K (.v (.int k n))

def bt(s:ByteArray)(i:Int):Int:=((s.data.toList.getD i.toNat 0).toNat:Int)

def uI:IntKind->IntKind->Bool
 | .i8,.i8=>true| .i16,.i16=>true| .i32,.i32=>true| .i64,.i64=>true
 | .u8,.u8=>true| .u16,.u16=>true| .u32,.u32=>true| .u64,.u64=>true
 |_,_=>false

def Hh(op:BinOp)(x y:Int)(K:SV->Prop):Prop:=match op with
 | .eql=>K (.p (x=y) inferInstance)
 | .neq=>K (.p (x≠y) inferInstance)
 | .lss=>K (.p (x<y) inferInstance)
 | .leq=>K (.p (x<=y) inferInstance)
 | .gtr=>K (.p (x>y) inferInstance)
 | .geq=>K (.p (x≥y) inferInstance)
 |_=>False

def pe(k:IntKind)(y:Int):Prop:=0<=y/\y<=(k.bits:Int)
def iP(k:IntKind)(x y:Int):Int:=k.wrap (x*2^y.toNat)
def Hi(x y:Int):Int:=x / 2^y.toNat
def Db(raw:Bool)(op:BinOp)(k:IntKind)(x y:Int)(K:SV->Prop):Prop:=match op with
 | .shl=>pe k y/\K (.v (.int k (iP k x y)))
 | .shr=>pe k y/\K (.v (.int k (Hi x y)))
 | .and=>K (.v (.int k (bits .and k x y)))
 | .or=>K (.v (.int k (bits .or k x y)))
 | .xor=>K (.v (.int k (bits .xor k x y)))
 | .andNot=>K (.v (.int k (bits .andNot k x y)))
 | .add=>num raw k (x+y) K
 | .sub=>num raw k (x - y) K
 | .mul=>num raw k (x*y) K
 | .quo=>match raw with
  |true=>y≠0/\K (.v (.int k (k.wrap (x.tdiv y))))
  |false=>(0<=x/\0<y/\az k x)/\K (.v (.int k (x / y)))
 | .rem=>match raw with
  |true=>y≠0/\K (.v (.int k (x.tmod y)))
  |false=>(0<=x/\0<y)/\K (.v (.int k (x % y)))
 |_=>Hh op x y K

def Hj(op:BinOp)(a b:ByteArray)(K:SV->Prop):Prop:=match op with
 | .eql=>K (.p (a=b) inferInstance)
 | .neq=>K (.p (a≠b) inferInstance)
 | .add=>a.size+b.size<=9223372036854775807/\K (.v (.string (a++b)))
 |_=>False

structure DP where
 q:Prop
 h:Decidable q

def eO:List Lf->List Value->List Value->Option DP
 |[],[],[]=>some ⟨True,inferInstance⟩
 | .int _::ls,.int k x::r,.int l y::s=>match uI k l,eO ls r s with
  |true,some ⟨q,_⟩=>some ⟨x=y/\q,inferInstance⟩
  |_,_=>none
 | .str::ls,.string x::r,.string y::s=>match eO ls r s with
  |some ⟨q,_⟩=>some ⟨x=y/\q,inferInstance⟩
  |none=>none
 | .bool::ls,.bool x::r,.bool y::s=>match eO ls r s with
  |some ⟨q,_⟩=>some ⟨x=y/\q,inferInstance⟩
  |none=>none
 |_,_,_=>none

def tiled(P:Program):Nat->List Field->Nat->Bool
 |off,[],n=>Nat.beq off n
 |off,f::r,n=>Nat.beq f.offset off&&tiled P (off+P.cellsOf f.type) r n

def rO(P:Program):Nat->TypeId->Bool
 |0,_=>false
 |n+1,t=>match P.underlying t with
  |some (.int _)=>Nat.beq (P.cellsOf t) 1
  |some .bool=>Nat.beq (P.cellsOf t) 1
  |some .string=>Nat.beq (P.cellsOf t) 1
  | some (.struct a) => !(P.stoodInHeld t) && tiled P 0 a.toList (P.cellsOf t) && a.toList.all fun f => f.name != "_" && rO P n f.type
  |_=>false

def yU:SV->Option Bool
 | .t=>some true
 | .f=>some false
 | .p q h=>some (@decide q h)
 | .v (.bool b)=>some b
 |_=>none

def uJ{α:Type}(P:Program):Sem α->Option α
 | .pure a=>some a
 | .program k=>uJ P (k P)
 |_=>none

def UO(st:St)(x:Operand):Value:=((ev st x).bind SV.val).getD undef

def yV(st:St):List Operand->Bool
 |[]=>true
 |x::r=>match ((ev st x).bind SV.val).isSome with
  |true=>yV st r
  |false=>false

def pq(c:Cx)(o:Oper)(st:St)(K:SV->Prop):Prop:=
 match yV st o.op.operands.toList with
 |false=>False
 |true=>match uJ c.P (execOp (UO st) o)with
  |some (.value v)=>K (.v v)
  |_=>False

def known(P:Program)(t:TypeId):Bool:=match P.underlying t with
 |some _=>true
 |none=>false

def rY(P:Program)(t:TypeId):Bool:=match P.underlying t with
 |some (.struct _)=>true
 |_=>false

def vE(P:Program)(t:TypeId)(f:Nat):Option Field:=match P.underlying t with
 |some (.struct a)=>a.toList[f]?
 |_=>none

def vF(cells:List Value)(off n:Nat):List Value:=(cells.drop off).take n

def tr (P : Program) (boxes : List qO) (t : TypeId) (l off : Nat) : Option Value :=
  match bO boxes l with
  | none => none
  | some x => match P.underlying t with
   | none => none
   | some _ => match fg P t with
    | true => match Nat.ble (off + P.cellsOf t) x.cells.length with
      | true => some (.agg (vF x.cells off (P.cellsOf t)).toArray)
      | false => none
    | false => x.cells[off]?

def Dc(P:Program)(w:World)(a:Addr)(t:TypeId)(K:SV->Prop):Prop:=match P.underlying t with
 |none=>False
 |some _=>match fg P t with
  |true=>match Nat.beq (EJ P 8 t).length (P.cellsOf t)with
   |true=>I8 (EJ P 8 t) fun vs=>ae w a vs/\K (.v (.agg vs.toArray))
   |false=>False
  |false=>match EJ P 8 t with
   |l::_=>Lp l fun v=>ae w a [v]/\K (.v v)
   |[]=>False

def bound(st:St)(o:Option Operand)(K:Option Int->Prop):Prop:=match o with
 |none=>K none
 |some x=>match ev st x with
  |some (.v (.int _ n))=>K (some n)
  |_=>False

def kA(A:Option Addr)(l cap size:Nat):Option Addr:=if cap=l then A else A.map (·.add (l*size))

def Hk (P : Program) (t : TypeId) (x : SV) (lo hi : Option Int) (K : SV → Prop) : Prop :=
  match P.underlying t, x with
  | some .string, .v (.string s) => match lo, hi with
    | none, none => K (.v (.string s))
    | none, some h => (0 ≤ h ∧ h ≤ s.size) ∧ K (.v (.string (s.extract 0 h.toNat)))
    | some l, none => (0 ≤ l ∧ l ≤ s.size) ∧ K (.v (.string (s.extract l.toNat s.size)))
    | some l, some h => (0 ≤ l ∧ l ≤ h ∧ h ≤ s.size) ∧ K (.v (.string (s.extract l.toNat h.toNat)))
  | some (.slice e), .v (.slice A n cap) => match known P e with
   | false => False
   | true => match lo, hi with
    | none, none => K (.v (.slice A n cap))
    | none, some h => (0 ≤ h ∧ h ≤ cap) ∧ K (.v (.slice A h.toNat cap))
    | some l, none => (0 ≤ l ∧ l ≤ n ∧ n ≤ cap) ∧ K (.v (.slice (kA A l.toNat cap (P.cellsOf e)) (n - l.toNat) (cap - l.toNat)))
    | some l, some h => (0 ≤ l ∧ l ≤ h ∧ h ≤ cap) ∧ K (.v (.slice (kA A l.toNat cap (P.cellsOf e)) (h.toNat - l.toNat) (cap - l.toNat)))
  | _, _ => False

def lC(n:Nat):List Nat->Bool
 |[]=>false
 |x::r=>match Nat.beq x n with
  |true=>true
  |false=>lC n r
def Dd(hold:Option (List Nat))(l:Nat):Bool:=match hold with
 |none=>true
 |some ls=>lC l ls

def each(j:Int):Nat->(Nat->Prop)->Prop
 |0,_=>True
 |n+1,Q=>each j n Q/\(j=(n:Int)->Q n)

def value(c:Cx)(raw:Bool)(lw:Option World)(hold:Option (List Nat))(o:Oper)(st:St)(K:SV->Prop):Prop:=
 match o.op with
 | .move x=>xH (ev st x) K
 | .assign x=>xH (ev st x) K
 | .pick m a b=>xH (ev st m) fun x=>xb x fun t=>match t with
  |true=>xH (ev st a) K
  |false=>xH (ev st b) K
 | .binOp op d x y _=>match ev st x,ev st y with
  |some (.v (.int k a)),some (.v (.int z b))=>match uI k z with
   |true=>Db raw op k a b K
   |false=>pq c o st K
  |some (.v (.string a)),some (.v (.string b))=>Hj op a b K
  |some (.v (.agg xs)),some (.v (.agg r))=>match rY c.P d&&rO c.P 6 d&&Nat.beq xs.toList.length (c.P.cellsOf d)&&Nat.beq r.toList.length (c.P.cellsOf d),eO (EJ c.P 6 d) xs.toList r.toList with
   |true,some ⟨q,h⟩=>match op with
    | .eql=>K (.p q h)
    | .neq=>K (.p (¬q) (@instDecidableNot q h))
    |_=>False
   |_,_=>False
  |some (.v (.slice A _ _)),some (.v (.slice none 0 0))=>match c.P.underlying d with
   |some (.slice _)=>match op with
    | .eql=>K (.p (A=none) inferInstance)
    | .neq=>K (.p (¬A=none) inferInstance)
    |_=>False
   |_=>False
  |some a,some b=>match c.P.underlying d,yU a,yU b with
   |some .bool,some x,some y=>match op with
    | .eql=>K (.p (x=y) inferInstance)
    | .neq=>K (.p (¬x=y) inferInstance)
    |_=>False
   |_,_,_=>pq c o st K
  |_,_=>False
 | .unOp .neg _ x=>match ev st x with
  |some (.v (.int k a))=>num raw k (-a) K
  |_=>False
 | .unOp .not _ x=>match ev st x with
  |some .t=>K .f
  |some .f=>K .t
  |some (.p q h)=>K (.p (¬q) (@instDecidableNot q h))
  |some (.v (.bool b))=>K (.p (b=false) inferInstance)
  |_=>False
 | .convert src dst x=>match c.P.underlying dst,ev st x with
  |some (.int k),some (.v (.int _ n))=>match known c.P src with
   |true=>num raw k n K
   |false=>False
  |_,_=>pq c o st K
 | .nilCheck x=>match ev st x with
  |some (.loc l off)=>K (.loc l off)
  |some (.v (.pointer (some a)))=>K (.v (.pointer (some a)))
  |some (.v (.func (.func g) a b))=>K (.v (.func (.func g) a b))
  |_=>False
 | .fieldAddr s x f=>match vE c.P s f with
  |none=>False
  |some fd=>match Nat.beq (c.P.cellsOf fd.type) 0 with
   |true=>False
   |false=>match ev st x with
    |some (.loc l off)=>K (.loc l (off+fd.offset))
    |some (.v (.pointer (some a)))=>K (.v (.pointer (some (a.add fd.offset))))
    |_=>False
 | .indexAddr t x i=>match c.P.underlying t,ev st x,ev st i with
  |some (.slice e),some (.v (.slice A n _)),some (.v (.int _ j))=>match known c.P e with
   |true=>(0<=j/\j<n)/\∃a,A=some a/\K (.v (.pointer (some (a.add (j.toNat*c.P.cellsOf e)))))
   |false=>False
  |some (.array n e),some (.loc l off),some (.v (.int _ i))=>match raw with
   |true=>match known c.P e with
    |true=>(0<=i/\i<n)/\each i n fun j=>K (.loc l (off+j*c.P.cellsOf e))
    |false=>False
   |false=>match i with
    | .ofNat j=>match Nat.blt j n&&known c.P e with
     |true=>K (.loc l (off+j*c.P.cellsOf e))
     |false=>False
    |_=>False
  |_,_,_=>False
 | .index t x i=>match c.P.underlying t,ev st x,ev st i with
  |some .string,some (.v (.string s)),some (.v (.int _ j))=>(0<=j/\j<s.size)/\K (.v (.int .u8 (bt s j)))
  |_,_,_=>pq c o st K
 | .slice t x lo hi none=>xH (ev st x) fun a=>bound st lo fun l=>bound st hi fun h=>Hk c.P t a l h K
 | .load t x=>match ev st x with
  |some (.loc l off)=>match Dd hold l,tr c.P st.boxes t l off with
   |true,some v=>K (.v v)
   |_,_=>False
  |some (.v (.pointer (some a)))=>match lw with
   |none=>False
   |some w=>Dc c.P w a t K
  |_=>False
 |_=>pq c o st K

def bc(P:Program)(g:FuncId):Bool:=match P.funcs[g]? with
 |some fn=>match fn.body with
  | some _ => match fn.name == "runtime.NumGoroutine" with
   |true=>false
   |false=>true
  |none=>false
 |none=>false

def pJ(st:St)(l ty:Nat)(cells:List Value):St:=
 {env:=pn st.env l,boxes:=⟨l,true,ty,cells⟩::kz st.boxes l,w:=st.w,d:=some (st.d.getD [])}

def setCells:List Value->Nat->List Value->List Value
 |cells,_,[]=>cells
 |cells,off,v::r=>setCells (cells.set off v) (off+1) r

def hasType(t:Nat):List qO->Bool
 |[]=>false
 |x::r=>match Nat.beq x.ty t with
  |true=>true
  |false=>hasType t r

def yy(dyn:Bool)(P:Program)(g:FuncId)(q:Prop):Prop:=match dyn with
 |true=>bc P g=true/\q
 |false=>match bc P g with
  |true=>q
  |false=>False

structure dd (w w':World) (b:Nat) (ty:Nat) (cells:List Value):Prop where
 at_:w'.heap[b]? =some (.cells cells.toArray ty (0,0))
 rest:∀k,k≠b->w'.heap[k]? =w.heap[k]?
 size:w'.heap.size=w.heap.size
 os:w'.os=w.os
 tape:w'.tape=w.tape
 output:w'.output=w.output

def zeroCells(P:Program)(t:TypeId):Option (List Value):=((P.info? t).bind (·.zero)).map fun v=>v.cells.toList

def dA:Value->Bool
 | .agg _=>false
 | .tuple _=>false
 |_=>true
def qh:List Value->Bool
 |[]=>true
 |v::r=>dA v&&qh r

def effect (c : Cx) (dyn : Bool) (o : Oper) (st : St) (K : SV → St → Prop) : Prop :=
  match o.op with
  | .alloc t => match o.dst, zeroCells c.P t with
    | some l, some cells => K (.loc l 0) (pJ st l t cells)
    | _, _ => False
  | .box t x => match o.dst with
    | none => False
    | some l => vD (ev st x) fun v => K (.loc l 0) (pJ st l t v.cells.toList)
  | .store t x y => match ev st x with
    | some (.loc l off) => match bO st.boxes l with
      | none => False
      | some b => vD (ev st y) fun v => match Nat.beq v.cells.toList.length (c.P.cellsOf t) && known c.P t && qh v.cells.toList && Nat.ble (off + v.cells.toList.length) b.cells.length with
        | false => False
        | true => K .u { env := st.env, boxes := { b with cells := setCells b.cells off v.cells.toList } :: kz st.boxes l, w := st.w, d := match b.new with
            | true => some (st.d.getD [])
            | false => some (ins b.ty (st.d.getD [])) }
    | some (.v (.pointer (some a))) => vD (ev st y) fun v => match Nat.beq v.cells.toList.length (c.P.cellsOf t) && known c.P t && qh v.cells.toList with
      | false => False
      | true => iA c.B st fun st => ∃ (cs : List Value) (ty : Nat), c.B ≤ a.block ∧ a.spot = none ∧ st.w.heap[a.block]? = some (.cells cs.toArray ty (0, 0)) ∧ a.off + v.cells.toList.length ≤ cs.length ∧
          hasType ty st.boxes = false ∧ ∀ w1, dd st.w w1 a.block ty (setCells cs a.off v.cells.toList) → K .u { st with w := w1 }
    | _ => False
  | .call cl => match cl.callee with
    | .value x => match ev st x, On st cl.args.toList with
      | some (.v (.func (.func g) first cap)), some vs => yy dyn c.P g <| iA c.B st fun st => Pure c.P g (first.toList ++ vs ++ cap.toList).toArray st.w fun v w1 =>
            OM (sh c.P o.type) fun x => v = x ∧ K (.v x) { env := st.env, boxes := yT st.boxes, w := w1, d := none }
      | _, _ => False
    | _ => False
  | _ => False

def oG:List qO->List Nat
 |[]=>[]
 |x::r=>x.ty::oG r

def au(P:Program)(s:Sem Value)(B:Nat)(fB:List Nat)(w:World)(K:Value->World->Prop):Prop:=
 ∃v w1,s.run P w= .ok v w1/\Below B w w1/\w.heap.size<=w1.heap.size/\
  (∀(k ty:Nat)(cs:Array Value),ty∈fB->w.heap[k]? =some (.cells cs ty (0,0))->w1.heap[k]? =w.heap[k]?)/\K v w1
def RN(P:Program)(s:Sem Next)(B:Nat)(fB:List Nat)(w:World)(K:Value->World->Prop):Prop:=
 ∃v w1,s.run P w= .ok (.value v) w1/\Below B w w1/\w.heap.size<=w1.heap.size/\
  (∀(k ty:Nat)(cs:Array Value),ty∈fB->w.heap[k]? =some (.cells cs ty (0,0))->w1.heap[k]? =w.heap[k]?)/\K v w1

def parts(st:St):List (Nat×Operand)->Option (List (Nat×Value))
 |[]=>some []
 |(i,x)::r=>match (ev st x).bind SV.val,parts st r with
  |some v,some vs=>some ((i,v)::vs)
  |_,_=>none

def qi(st:St)(o:Oper):Option (Sem Value):=match o.op with
 | .call cl=>match cl.callee,On st cl.args.toList with
  | .builtin .append,some vs=>some (Builtin.append_ cl.argTypes o.type vs.toArray)
  | .builtin .copy,some vs=>some (Builtin.copy_ cl.argTypes o.type vs.toArray)
  | .builtin .clear,some vs=>some (Builtin.clear_ cl.argTypes o.type vs.toArray)
  |_,_=>none
 | .makeSlice t l k=>match (ev st l).bind SV.val,(ev st k).bind SV.val with
  |some a,some b=>some (Instr.makeSlice t a b)
  |_,_=>none
 | .buildSlice t n ps=>match parts st ps.toList with
  |some l=>some (Instr.buildSlice t n l.toArray)
  |none=>none
 | .convert src dst x=>match (ev st x).bind SV.val with
  |some a=>some (convert src dst a)
  |none=>none
 | .index t x i=>match (ev st x).bind SV.val,(ev st i).bind SV.val with
  |some a,some b=>some (Instr.index t a b)
  |_,_=>none
 | .makeMap t r=>match r with
  |none=>some (Instr.makeMap t none)
  |some x=>match (ev st x).bind SV.val with
   |some a=>some (Instr.makeMap t (some a))
   |none=>none
 | .lookup t x i ok=>match (ev st x).bind SV.val,(ev st i).bind SV.val with
  |some a,some b=>some (Instr.lookup t a b ok)
  |_,_=>none
 | .slice t x (some l) (some h) (some m)=>match (ev st x).bind SV.val,(ev st l).bind SV.val,(ev st h).bind SV.val,(ev st m).bind SV.val with
  |some a,some b,some d,some e=>some (Instr.sliceAt t a (some b) (some d) (some e))
  |_,_,_,_=>none
 | .binOp .shr t x i _=>match (ev st x).bind SV.val,(ev st i).bind SV.val with
  |some a,some b=>some (binOp .shr t a b)
  |_,_=>none
 |_=>none

def behind(P:Program)(t:TypeId)(st:St)(K:SV->St->Prop)(v:Value)(w1:World):Prop:=
 OM (sh P t) fun x=>v=x/\K (.v x) {env:=st.env,boxes:=yT st.boxes,w:=w1,d:=none}

def jz(P:Program)(s:Sem Unit)(B:Nat)(fB:List Nat)(w:World)(K:World->Prop):Prop:=
 ∃w1,s.run P w= .ok () w1/\Below B w w1/\w.heap.size<=w1.heap.size/\
  (∀(k ty:Nat)(cs:Array Value),ty∈fB->w.heap[k]? =some (.cells cs ty (0,0))->w1.heap[k]? =w.heap[k]?)/\K w1
def yz(c:Cx)(t:TypeId)(m k x:Operand)(st:St)(K:SV->St->Prop):Prop:=
 match (ev st m).bind SV.val,(ev st k).bind SV.val,(ev st x).bind SV.val with
 |some a,some d,some e=>iA c.B st fun st=>jz c.P (Instr.mapUpdate t a d e) c.B (oG st.boxes) st.w fun w1=>K .u {env:=st.env,boxes:=yT st.boxes,w:=w1,d:=none}
 |_,_,_=>False

def newAt(c:Cx)(s:Sem Value)(st:St)(K:SV->St->Prop):Prop:=
 iA c.B st fun st=>au c.P s c.B (oG st.boxes) st.w fun v w1=>∃a:Addr,v= .pointer (some a)/\K (.v (.pointer (some a))) {env:=st.env,boxes:=yT st.boxes,w:=w1,d:=none}

def Lr(c:Cx)(o:Oper)(st:St)(K:SV->St->Prop):Prop:=
 match qi st o with
 |some s=>iA c.B st fun st=>au c.P s c.B (oG st.boxes) st.w (behind c.P o.type st K)
 |none=>match o.op with
  | .call cl=>match cl.callee with
   | .value x=>match ev st x,On st cl.args.toList with
    |some (.v (.func (.func g) first cap)),some vs=>iA c.B st fun st=>RN c.P (callFunc g (first.toList++vs++cap.toList).toArray) c.B (oG st.boxes) st.w (behind c.P o.type st K)
    |_,_=>False
   |_=>False
  | .mapUpdate t m k x=>yz c t m k x st K
  | .insert t m k x=>yz c t m k x st K
  | .alloc t=>newAt c (Instr.alloc t true (.tuple #[])) st K
  | .box t x=>match (ev st x).bind SV.val with
   |some a=>newAt c (Instr.box t a) st K
   |none=>False
  |_=>False

def Hl(c:Cx)(o:Oper)(st:St)(K:SV->St->Prop):Prop:=match qi st o with
 |some s=>iA c.B st fun st=>au c.P s st.w.heap.size (oG st.boxes) st.w (behind c.P o.type st K)
 |none=>False

def qP(dyn:Bool)(c:Cx)(o:Oper)(st:St)(K:SV->St->Prop):Prop:=match o.op with
 | .call cl=>match cl.callee with
  | .value x=>match ev st x,On st cl.args.toList with
   |some (.v (.func (.func g) first cap)),some vs=>yy dyn c.P g<|iA c.B st fun st=>dZ c.P g (first.toList++vs++cap.toList).toArray c.B st.w fun v w1=>
     (∀(k ty:Nat)(cs:Array Value),ty∈oG st.boxes->st.w.heap[k]? =some (.cells cs ty (0,0))->w1.heap[k]? =st.w.heap[k]?)/\behind c.P o.type st K v w1
   |_,_=>False
  |_=>False
 |_=>False

def ON(st:St):List Operand->List Nat
 |[]=>[]
 |x::r=>match ev st x with
  |some (.loc l _)=>ins l (ON st r)
  |_=>ON st r
def iI(l a:Nat):Env->Env
 |[]=>[]
 |(s,.loc k off)::r=>match Nat.beq k l with
  |true=>(s,.v (.pointer (some ⟨a,off,none⟩)))::iI l a r
  |false=>(s,.loc k off)::iI l a r
 |x::r=>x::iI l a r
def yA(c:Cx):List Nat->St->(St->Prop)->Prop
 |[],st,K=>K st
 |l::r,st,K=>iA c.B st fun st=>match bO st.boxes l with
  |none=>False
  |some b=>∀a:Nat,c.B<=a->st.w.heap[a]? =some (.cells b.cells.toArray b.ty (0,0))->
    yA c r {env:=iI l a st.env,boxes:=kz st.boxes l,w:=st.w,d:=st.d} K

def yW(c:Cx)(ls:List Nat)(st:St)(K:St->Prop):Prop:=match ls with
 |[l]=>match bO st.boxes l with
  |none=>False
  |some b0=>match b0.new with
   |false=>False
   |true=>iA c.B st fun b=>match bO b.boxes l with
    |none=>False
    |some e=>∀a:Nat,c.B<=a->st.w.heap.size<=a->b.w.heap[a]? =some (.cells e.cells.toArray e.ty (0,0))->
      K {env:=iI l a b.env,boxes:=kz b.boxes l,w:=b.w,d:=b.d}
 |_=>False

def iQ(o:Oper):Bool:=match o.op with
 | .load _ _=>true
 |_=>false

def rF(o:Oper):Bool:=match o.op with
 | .alloc _=>true
 | .box _ _=>true
 |_=>false

def EK:Op->Bool
 | .alloc _=>true
 | .box _ _=>true
 | .store _ _ _=>true
 | .call cl=>match cl.callee with
  | .value _=>true
  |_=>false
 |_=>false

def vG(c:Cx)(m:Nat)(o:Oper)(st:St)(K:SV->St->Prop):Prop:=
 match EK o.op with
 |true=>effect c (Nat.beq m 4) o st K
 |false=>match o.op with
  | .load _ x=>match ev st x with
   |some (.v _)=>iA c.B st fun st=>value c false (some st.w) none o st fun x=>K x st
   |_=>value c false none none o st fun x=>K x st
  |_=>value c (Nat.beq m 1) none none o st fun x=>K x st

def Ls(c:Cx)(a i:Nat)(o:Oper)(st:St)(K:SV->St->Prop):Prop:=
 match fj c.mode a i with
 |2=>Lr c o st K
 |6=>qP false c o st K
 |10=>qP true c o st K
 |5=>yA c (ON st o.op.operands.toList) st fun st=>vG c 0 o st K
 |11=>yW c (ON st o.op.operands.toList) st fun st=>vG c 0 o st K
 |7=>Hl c o st K
 |m=>vG c m o st K

def yB(st:St)(s:Nat)(b:Bool):St:={st with env:=(s,match b with|true=> .t|false=> .f)::drop st.env s}

def Cb:Bool->Bool->Bool
 |true,true=>true
 |false,false=>true
 |_,_=>false

def guarded(ops:Array Oper)(o:Oper)(st:St)(K:Bool->St->Prop):Prop:=
 match o.guard with
 |none=>K true st
 |some (j,want)=>match (ops.toList[j]?).bind (·.dst)with
  |none=>False
  |some s=>match get st.env s with
   |some .u=>K false st
   |some x=>xb x fun b=>K (Cb b want) (yB st s b)
   |none=>False

def xI(c:Cx)(a:Nat)(ops:Array Oper)(i:Nat)(o:Oper)(st:St)(K:St->Prop):Prop:=
 guarded ops o st fun run st=>match run with
  |true=>Ls c a i o st fun x st=>put c.N st o.dst x K
  |false=>put c.N st o.dst .u K

def De(c:Cx)(a:Nat)(ops:Array Oper):Nat->List Oper->St->(St->Prop)->Prop
 |_,[],st,K=>K st
 |i,o::r,st,K=>xI c a ops i o st fun st=>De c a ops (i+1) r st K

def Cc:List qO->List Nat
 |[]=>[]
 |x::r=>x.Om::Cc r

def norm:SV->SV
 | .t=> .v (.bool true)
 | .f=> .v (.bool false)
 | .p q h=> .v (.bool (@decide q h))
 |y=>y

def restrict(env:Env):List Nat->Option Env
 |[]=>some []
 |s::r=>match get env s,restrict env r with
  |some x,some l=>some ((s,norm x)::l)
  |_,_=>none

def my(boxes:List qO):List Nat->Option (List qO)
 |[]=>some []
 |s::r=>match bO boxes s,my boxes r with
  |some x,some l=>some (⟨x.Om,false,x.ty,x.cells⟩::l)
  |_,_=>none

def results(c:Cx)(st:St):List ResultVar->Option (List Value)
 |[]=>some []
 | .tmp t::r=>match (get st.env t).bind SV.val,results c st r with
  |some v,some vs=>some (v::vs)
  |_,_=>none
 | .cell t ty::r=>match get st.env t,results c st r with
  |some (.loc l off),some vs=>match tr c.P st.boxes ty l off with
   |some v=>some (v::vs)
   |none=>none
  |_,_=>none

def Lu:List Value->Value
 |[v]=>v
 |vs=> .tuple vs.toArray

def leave(c:Cx)(st:St):Prop:=match results c st c.res with
 |some vs=>iA c.B st fun st=>c.R (Lu vs) st.w
 |none=>False

def gL:Code->Nat
 | .region id _ _=>id
 | .seq a _=>gL a
 | .block _ b=>gL b
 | .loop b=>gL b
 | .cond _ a _=>gL a
 | .scope b=>gL b
 |_=>0

def cutAt(c:Cx)(todo:List Item)(st:St)(live:List Nat×List Nat):Prop:=
 match restrict st.env live.1,my st.boxes live.2 with
 |some env,some boxes=>iA c.B st fun st=>At c.P c.f c.N todo env boxes c.B st.w c.R
 |_,_=>False

def early(o:Oper):Bool:=match o.op with
 | .alloc _=>false
 | .box _ _=>false
 | .store _ _ _=>false
 | .call cl=>match cl.callee with
  | .builtin .len=>true
  | .builtin .cap=>true
  |_=>false
 | .buildSlice _ _ _=>false
 | .makeSlice _ _ _=>false
 | .makeMap _ _=>false
 | .insert _ _ _ _=>false
 | .mapUpdate _ _ _ _=>false
 | .lookup _ _ _ _=>false
 | .panic _=>false
 | .select _ _=>false
 | .binOp .add _ _ _ _=>true
 |_=>true
def qQ(o:Oper):Bool:=match o.op with
 | .store _ _ _=>true
 |_=>false

def qj(listed:List Nat)(i:Nat):Nat->List Oper->List Nat->List Nat
 |_,[],acc=>acc
 |j,o::r,acc=>match !lC j listed&&o.after.toList.any fun e=>Region.binds .any e&&(Nat.beq e.on i||lC e.on acc)with
  |true=>qj listed i (j+1) r (j::acc)
  |false=>qj listed i (j+1) r acc

def fE(listed:List Nat):Nat->List Oper->List Nat
 |_,[]=>[]
 |i,o::r=>match lC i listed|| !(o.after.toList.all fun e=> !Region.binds .any e||lC e.on listed)with
  |true=>fE listed (i+1) r
  |false=>i::fE listed (i+1) r

def iJ(m:Nat)(o:Oper):Bool:=match m with
 |2=>false
 |6=>false
 |10=>false
 |_=> !qQ o

def qk(c:Cx)(b:Nat)(ops:Array Oper)(listed:List Nat)(i:Nat)(a:Oper)(late:List Nat):Nat->List Oper->Bool
 |_,[]=>true
 |j,o::r=>(Nat.beq j i||(match iQ a&& !iJ (fj c.mode b j) o with
  |true=> !lC j listed&&lC j late
  |false=>lC j listed||lC j late||a.apart ops o))&&qk c b ops listed i a late (j+1) r

def kZ(c:Cx)(a:Nat)(ops:Array Oper)(listed:List Nat):List Nat->Option Nat
 |[]=>none
 |i::r=>match ops.toList[i]? with
  |none=>none
  |some o=>match early o&&qk c a ops listed i o (qj listed i 0 ops.toList []) 0 ops.toList with
   |true=>some i
   |false=>kZ c a ops listed r

def Cd:List Nat->Prop->(Nat->Prop)->Prop
 |[],z,_=>z
 |[i],_,K=>K i
 |i::r,z,K=>K i/\Cd r z K

def pt(c:Cx)(a:Nat)(ops:Array Oper)(lw:Option World)(hold:List Nat):Nat->List Nat->St->(St->Prop)->Prop
 |0,listed,st,K=>match fE listed 0 ops.toList with
  |[]=>K st
  |_=>False
 |n+1,listed,st,K=>match kZ c a ops listed (fE listed 0 ops.toList)with
  |some i=>match ops.toList[i]? with
   |none=>False
   |some o=>guarded ops o st fun run st=>match run with
    |true=>value c (Nat.beq (fj c.mode a i) 1) lw (some hold) o st fun x=>put c.N st o.dst x fun st=>pt c a ops lw hold n (i::listed) st K
    |false=>put c.N st o.dst .u fun st=>pt c a ops lw hold n (i::listed) st K
  |none=>Cd (fE listed 0 ops.toList) (K st) fun i=>match ops.toList[i]? with
   |none=>False
   |some o=>xI c a ops i o st fun st=>pt c a ops lw hold n (i::listed) st K

def ox:List Oper->List Nat
 |[]=>[]
 |o::r=>match o.op,o.dst with
  | .alloc _,some d=>d::ox r
  | .box _ _,some d=>d::ox r
  |_,_=>ox r

def uK(st:St)(ops:Array Oper):List Nat:=(Cc st.boxes).filter fun l=> !lC l (ox ops.toList)

def vI(n:Nat):List Oper->Bool
 |[]=>true
 |o::r=>(o.after.toList.all fun e=> !Region.binds .any e||Nat.blt e.on n)&&vI n r

def mz:List Oper->Bool
 |[]=>true
 |o::r=>match o.op with
  | .select _ _=>false
  |_=>mz r

def EL(b:Bool)(B:Nat)(st:St)(K:St->Prop):Prop:=match b with
 |true=>iA B st K
 |false=>K st

def lF(o:Oper)(f:Nat):Bool:=o.after.toList.any fun e=>Region.binds .any e&&Nat.beq e.on f
def vJ(l f:Nat):Nat->List Oper->Bool
 |_,[]=>true
 |j,o::r=>(Nat.beq j f|| !(match o.dst with|some d=>Nat.beq d l|none=>false))&&vJ l f (j+1) r
def Lv(c:Cx)(a:Nat)(ops:Array Oper)(f:Nat):Bool:=match ops.toList[f]? with
 |some o=>(match o.op,o.dst,o.guard with
  | .alloc t,some l,none=>(match zeroCells c.P t with|some _=>true|none=>false)&&Nat.blt l c.N&&vJ l f 0 ops.toList
  |_,_,_=>false)&&Nat.beq (fj c.mode a f) 0&&o.after.toList.all fun e=> !Region.binds .any e
 |none=>false
def xc(c:Cx)(a:Nat)(ops:Array Oper)(fl:List Nat):List Nat->Option Nat
 |[]=>none
 |f::r=>match !lC f fl&&Lv c a ops f with
  |true=>some f
  |false=>xc c a ops fl r
def eB(ops:Array Oper)(f:Nat):Nat:=match (ops.toList[f]?).bind (·.dst)with
 |some l=>l
 |none=>0
def clean(ops:Array Oper):List Nat->St->St
 |[],st=>st
 |f::r,st=>clean ops r {st with env:=drop st.env (eB ops f)}
def tidy(ops:Array Oper)(fl:List Nat)(st:St):St:=match fl with
 |[]=>st
 |f::r=>(clean ops (f::r) st).tZ
def pK(st:St)(l ty:Nat)(cells:List Value):St:=
 {env:=(l,.loc l 0)::drop (pn st.env l) l,boxes:=⟨l,false,ty,cells⟩::kz st.boxes l,w:=st.w,d:=st.d}
def qS(c:Cx)(ops:Array Oper):List Nat->St->(St->Prop)->Prop
 |[],st,K=>K st
 |f::r,st,K=>match ops.toList[f]? with
  |some o=>match o.op,o.dst with
   | .alloc t,some l=>match zeroCells c.P t with
    |some cells=>qS c ops r (pK st l t cells) K
    |none=>False
   |_,_=>False
  |none=>False
def waited(o:Oper)(b:Bool):List Nat->List Nat
 |[]=>[]
 |f::r=>match Cb (lF o f) b with
  |true=>f::waited o b r
  |false=>waited o b r
def nT:List Nat->List Nat->List Nat
 |[],l=>l
 |x::r,l=>x::nT r l
def iR(c:Cx)(a:Nat)(ops:Array Oper)(lw:Option World)(hold:List Nat):Nat->List Nat->List Nat->St->(St->Prop)->Prop
 |0,listed,fl,st,K=>match fE (nT fl listed) 0 ops.toList with
  |[]=>qS c ops fl st K
  |_=>False
 |n+1,listed,fl,st,K=>match xc c a ops fl (fE listed 0 ops.toList)with
  |some f=>iR c a ops lw hold n listed (f::fl) (tidy ops (f::fl) st) K
  |none=>match kZ c a ops listed (fE listed 0 ops.toList)with
   |some i=>match ops.toList[i]? with
    |none=>False
    |some o=>guarded ops o st fun run st=>match run with
     |true=>value c (Nat.beq (fj c.mode a i) 1) lw (some hold) o st fun x=>put c.N st o.dst x fun st=>iR c a ops lw hold n (i::listed) fl (tidy ops fl st) K
     |false=>put c.N st o.dst .u fun st=>iR c a ops lw hold n (i::listed) fl (tidy ops fl st) K
   |none=>Cd (fE (nT fl listed) 0 ops.toList) (qS c ops fl st K) fun i=>match ops.toList[i]? with
    |none=>False
    |some o=>qS c ops (waited o true fl) st fun st=>match waited o false fl with
     |[]=>xI c a ops i o st fun st=>iR c a ops lw hold n (i::nT (waited o true fl) listed) [] st K
     |g::r=>match iJ (fj c.mode a i) o&& !rF o with
      |true=>xI c a ops i o st fun st=>iR c a ops lw hold n (i::nT (waited o true fl) listed) (g::r) (tidy ops (g::r) st) K
      |false=>False

def region(c:Cx)(a:Nat)(ops:Array Oper)(draw:Bool)(st:St)(K:St->Prop):Prop:=match draw with
 |false=>match mz ops.toList with
  |true=>De c a ops 0 ops.toList st K
  |false=>False
 |true=>match mz ops.toList&&vI ops.toList.length ops.toList with
  |true=>EL (Nat.beq (fj c.mode a 9999) 3) c.B st fun st=>
    match Nat.beq (fj c.mode a 9998) 8 with
    |true=>iR c a ops (match st.d with|none=>some st.w|some _=>none) (uK st ops) ops.toList.length [] [] st.tZ K
    |false=>pt c a ops (match st.d with|none=>some st.w|some _=>none) (uK st ops) ops.toList.length [] st.tZ K
  |false=>False

def run(c:Cx):Nat->Bool->List Item->St->Prop
 |0,_,_,_=>False
 |n+1,first,todo,st=>match todo with
  |[]=>leave c st
  | .code d::k=>match d with
   | .ret=>leave c st
   | .skip=>run c n false k st
   | .seq a b=>run c n first (.code a:: .code b::k) st
   | .cond x a b=>xH (ev st x) fun v=>xb v fun t=>match t with
    |true=>run c n false (.code a::k) st
    |false=>run c n false (.code b::k) st
   | .block id b=>run c n first (.code b:: .inBlock id::k) st
   | .loop b=>match I9 c.RM true (gL b)with
    |some live=>cutAt c (.code (.loop b)::k) st live
    |none=>run c n false (.code b:: .inLoop b::k) st
   | .exit id=>match exitTo id k with
    |some e=>run c n false e st
    |none=>False
   | .region id ops draw=>match first,I9 c.RM false id with
    |false,some live=>cutAt c (.code (.region id ops draw)::k) st live
    |_,_=>region c id ops draw st fun st=>run c n false k st
   |_=>False
  | .inBlock _::k=>run c n false k st
  | .inLoop b::k=>match I9 c.RM true (gL b)with
   |some live=>cutAt c (.code (.loop b)::k) st live
   |none=>run c n false (.code b:: .inLoop b::k) st
  |_=>False

def oH(key:Nat):Code->List Item->Option (List Item)
 | .seq a b,k=>match oH key a (.code b::k)with
  |some x=>some x
  |none=>oH key b k
 | .cond _ a b,k=>match oH key a k with
  |some x=>some x
  |none=>oH key b k
 | .block id b,k=>oH key b (.inBlock id::k)
 | .loop b,k=>match Nat.beq (gL b) key with
  |true=>some (.code (.loop b)::k)
  |false=>oH key b (.inLoop b::k)
 |_,_=>none

def kD(key:Nat):Code->List Item->Option (List Item)
 | .seq a b,k=>match kD key a (.code b::k)with
  |some x=>some x
  |none=>kD key b k
 | .cond _ a b,k=>match kD key a k with
  |some x=>some x
  |none=>kD key b k
 | .block id b,k=>kD key b (.inBlock id::k)
 | .loop b,k=>kD key b (.inLoop b::k)
 | .region id ops d,k=>match Nat.beq id key with
  |true=>some (.code (.region id ops d)::k)
  |false=>none
 |_,_=>none

def Hm(f:Func)(key:Nat):List Item:=match f.body with
 |some b=>(oH key b []).getD []
 |none=>[]
def yX(f:Func)(key:Nat):List Item:=match f.body with
 |some b=>(kD key b []).getD []
 |none=>[]
def inside:List Item->List Item
 | .code (.loop b)::k=> .code b:: .inLoop b::k
 |k=>k

def rZ:Nat->List Value->Env
 |_,[]=>[]
 |i,v::r=>(i,.v v)::rZ (i+1) r

theorem beq_true{a b:Nat}:Nat.beq a b=true->a=b:=Nat.eq_of_beq_eq_true
theorem beq_false{a b:Nat}:Nat.beq a b=false->a≠b:=Nat.ne_of_beq_eq_false

theorem ia{x:Nat×SV}{r:Env}{s:Nat}:get (x::r) s=if x.1=s then some x.2 else get r s:=by
 simp only[get];cases h:Nat.beq x.1 s with
 |true=>simp[beq_true h]
 |false=>simp[beq_false h]

theorem oI{r:Env}{s t:Nat}:get (drop r s) t=if t=s then none else get r t:=by
 induction r with
 |nil=>simp[drop,get]
 |cons x r ih=>
  simp only[drop];cases h:Nat.beq x.1 s with
  |true=>
   simp only[ih,ia];have:=beq_true h;by_cases e:t=s
   ·simp[e]
   ·simp only[ar e];rw[ar om]
  |false=>
   simp only[ia,ih];have:=beq_false h;by_cases e:x.1=t
   ·simp[e];omega
   ·simp[e]

theorem da{x:qO}{r:List qO}{s:Nat}:bO (x::r) s=if x.Om=s then some x else bO r s:=by
 simp only[bO];cases h:Nat.beq x.Om s with
 |true=>simp[beq_true h]
 |false=>simp[beq_false h]

theorem dH{r:List qO}{s t:Nat}:bO (kz r s) t=if t=s then none else bO r t:=by
 induction r with
 |nil=>simp[kz,bO]
 |cons x r ih=>
  simp only[kz];cases h:Nat.beq x.Om s with
  |true=>
   simp only[ih,da];have:=beq_true h;by_cases e:t=s
   ·simp[e]
   ·simp only[ar e];rw[ar om]
  |false=>
   simp only[da,ih];have:=beq_false h;by_cases e:x.Om=t
   ·simp[e];omega
   ·simp[e]

theorem qT{x:SV}{v:Value}(h:x.val=some v)(b:Nat->Nat):x.den b=v:=by
 cases x<;>simp_all [SV.val,SV.den]

def act(T:Array Value):Act:=⟨T,[]⟩

section ops
variable {c:Cx} {b:Nat->Nat} {st:St} {T:Array Value}

theorem dm(he:po b st.env T){x:Operand}{v:SV}(h:ev st x=some v):(act T).eval x=v.den b:=by
 cases x with
 |tmp t=>
  have:=he t v h;simp[act,Act.eval,this]
 |const w=>
  cases w<;>simp only[ev]at h<;>(try (cases h;rfl))
  rename_i q;cases q<;>simp only[ev]at h<;>(cases h;rfl)
 |global g=>simp only[ev]at h;cases h;rfl
 |func f=>simp only[ev]at h;cases h;rfl

theorem yC(he:po b st.env T):∀{l:List Operand} {vs:List Value},On st l=some vs->l.map (act T).eval=vs:=by
 intro l;induction l with
 |nil=>intro vs h;simp only[On]at h;cases h;rfl
 |cons x r ih=>
  intro vs h;simp only[On]at h;cases hx:(ev st x).bind SV.val with
  |none=>simp[hx]at h
  |some v=>
   cases a:On st r with
   |none=>simp[hx,a]at h
   |some ws=>
    simp only[hx,a]at h;cases h;obtain⟨d,h1,h2⟩:=uz.1 hx;simp[ih a,dm he h1,qT h2 b]

theorem RO(he:po b st.env T){x:Operand}(h:((ev st x).bind SV.val).isSome=true):UO st x=(act T).eval x:=by
 obtain⟨v,hv⟩:=Ai.1 h;obtain⟨a,h1,h2⟩:=uz.1 hv;simp[UO,hv,dm he h1,qT h2 b]

theorem Hn{l:List Operand}(h:yV st l=true):∀x∈l,((ev st x).bind SV.val).isSome=true:=by
 induction l with
 |nil=>simp
 |cons y r ih=>
  simp only[yV]at h;cases hy:((ev st y).bind SV.val).isSome with
  |false=>simp[hy]at h
  |true=>
   simp only[hy]at h;intro x hx;rcases fi.1 hx with rfl|hx
   ·exact hy
   ·exact ih h x hx

theorem Hp{α:Type}{P:Program}{s:Sem α}{a:α}(h:uJ P s=some a)(w:World):s.run P w= .ok a w:=by
 induction s with
 |pure x=>simp only[uJ]at h;cases h;rfl
 |program k ih=>simp only[uJ]at h;exact ih P h
 |_=>simp[uJ]at h

theorem EM{k:IntKind}{n:Int}(h:az k n):k.wrap n=n:=by
 cases k<;>simp only[az]at h<;>simp only[IntKind.wrap,IntKind.bits,IntKind.signed]<;>simp<;>omega

def Ja(c:Cx)(b:Nat->Nat)(T:Array Value)(o:Oper)(Ok:World->Prop)(K:SV->Prop):Prop:=
 ∃x:SV,K x/\∀w,Ok w->(execOp (act T).eval o).run c.P w= .ok (.value (x.den b)) w

variable {o:Oper} {Ok:World->Prop} {K:SV->Prop}

theorem cE(he:po b st.env T)(hs:∀cs q,o.op≠ .select cs q)(h:pq c o st K):Ja c b T o Ok K:=by
 unfold pq at h;cases hv:yV st o.op.operands.toList with
 |false=>simp[hv]at h
 |true=>
  simp only[hv]at h;have a:execOp (act T).eval o=execOp (UO st) o:=execOp_congr o hs fun x hx=>(RO he (Hn hv x (by simpa using hx))).symm
  cases hp:uJ c.P (execOp (UO st) o)with
  |none=>simp[hp]at h
  |some n=>
   cases n with
   |value v=>
    simp only[hp]at h;exact⟨.v v,h,fun w _=>by rw[a];exact Hp hp w⟩
   |_=>simp[hp]at h

theorem ql{raw:Bool}{k:IntKind}{n:Int}(h:num raw k n K):∃m,K (.v (.int k m))/\k.wrap n=m:=by
 cases raw
 ·exact⟨n,h.2,EM h.1⟩
 ·exact⟨_,h,rfl⟩

theorem qU{x:SV}{B:Bool->Prop}(h:xb x B):∃t,x.den b= .bool t/\B t:=by
 cases x with
 |t=>exact⟨true,rfl,h⟩
 |f=>exact⟨false,rfl,h⟩
 |p q d=>
  by_cases a:q
  ·exact⟨true,by simp[SV.den,a],h.1 a⟩
  ·exact⟨false,by simp[SV.den,a],h.2 a⟩
 |v w=>
  cases w<;>simp only[xb]at h;rename_i t;cases t
  ·exact⟨false,rfl,h.2 rfl⟩
  ·exact⟨true,rfl,h.1 rfl⟩
 |_=>exact h.elim

theorem Ce{k l:IntKind}(h:uI k l=true):k=l:=by cases k<;>cases l<;>simp_all [uI]

theorem JB{op:BinOp}{k:IntKind}{x y:Int}(h:Hh op x y K):∃s:SV,K s/\∀P w,(Op.intCmp op x y).run P w= .ok (s.den b) w:=by
 cases op<;>simp only[Hh]at h<;>first|exact h.elim|skip
 ·have e:(x==y)=decide (x=y):=by rw[sr];simp
  exact⟨_,h,fun P w=>by simp[Op.intCmp,SV.den,e]⟩
 ·have e:(x !=y)=decide (x≠y):=by rw[sr];simp
  exact⟨_,h,fun P w=>by simp[Op.intCmp,SV.den,e]⟩
 ·exact⟨_,h,fun P w=>by simp[Op.intCmp,SV.den]⟩
 ·exact⟨_,h,fun P w=>by simp[Op.intCmp,SV.den]⟩
 ·exact⟨_,h,fun P w=>by simp[Op.intCmp,SV.den]⟩
 ·exact⟨_,h,fun P w=>by simp[Op.intCmp,SV.den]⟩

theorem Df{raw:Bool}{op:BinOp}{k:IntKind}{x y:Int}{t:TypeId}(h:Db raw op k x y K):
  ∃s:SV,K s/\∀P w,(binOp op t (.int k x) (.int k y)).run P w= .ok (s.den b) w:=by
 have go:∀m,(∀P w,(binOp op t (.int k x) (.int k y)).run P w= .ok (.int k m) w)->K (.v (.int k m))->∃s:SV,K s/\∀P w,(binOp op t (.int k x) (.int k y)).run P w= .ok (s.den b) w:=fun m h1 h2=>⟨_,h2,h1⟩
 cases op<;>simp only[Db]at h
 case shl=>exact go _ (fun P w=>by simp[binOp,shift_shl k k x y h.1.1 h.1.2,iP]) h.2
 case shr=>exact go _ (fun P w=>by simp[binOp,shift_shr k k x y h.1.1 h.1.2,Hi]) h.2
 case and=>exact go _ (fun P w=>by simp[binOp,intBits_and]) h
 case or=>exact go _ (fun P w=>by simp[binOp,intBits_or]) h
 case xor=>exact go _ (fun P w=>by simp[binOp,intBits_xor]) h
 case andNot=>exact go _ (fun P w=>by simp[binOp,intBits_andNot]) h
 case add=>obtain⟨m,h1,h2⟩:=ql h;exact go m (fun P w=>by simp[binOp,Op.intArith,h2]) h1
 case sub=>obtain⟨m,h1,h2⟩:=ql h;exact go m (fun P w=>by simp[binOp,Op.intArith,h2]) h1
 case mul=>obtain⟨m,h1,h2⟩:=ql h;exact go m (fun P w=>by simp[binOp,Op.intArith,h2]) h1
 case quo=>
  cases raw
  ·obtain⟨⟨h0,h1,h2⟩,h3⟩:=h;have e:x.tdiv y=x / y:=Jo h0;have d:az k (x / y):=by
    have a:0<=x / y:=Int.ediv_nonneg h0 om;have a2:x / y<=x:=Int.ediv_le_self y h0;cases k<;>simp only[az]at h2⊢<;>omega
   exact go _ (fun P w=>by simp[binOp,Op.intDiv,show y≠0 by omega,e,EM d]) h3
  ·exact go _ (fun P w=>by simp[binOp,Op.intDiv,h.1]) h.2
 case rem=>
  cases raw
  ·obtain⟨⟨h0,h1⟩,h3⟩:=h;exact go _ (fun P w=>by simp[binOp,Op.intDiv,show y≠0 by omega,Jv h0]) h3
  ·exact go _ (fun P w=>by simp[binOp,Op.intDiv,h.1]) h.2
 all_goals
  obtain⟨s,h1,h2⟩:=JB (b:=b) (k:=k) h;exact⟨s,h1,fun P w=>by simpa[binOp]using h2 P w⟩

theorem beq_toList(a b:ByteArray):(a.toList==b.toList)=decide (a=b):=by
 rw[<-beq_toListBytes,sr];obtain⟨x⟩:=a;obtain⟨y⟩:=b;show(x==y)=true↔_;simp

theorem Dg{op:BinOp}{x y:ByteArray}{t:TypeId}(h:Hj op x y K):
  ∃s:SV,K s/\∀P w,(binOp op t (.string x) (.string y)).run P w= .ok (s.den b) w:=by
 cases op<;>simp only[Hj]at h<;>first|exact h.elim|skip
 case add=>exact⟨_,h.2,fun P w=>by simp[binOp,Op.stringOp,SV.den,IntKind.max,IntKind.signed,IntKind.bits];omega⟩
 case eql=>exact⟨_,h,fun P w=>by simp[binOp,Op.stringOp,SV.den,beq_toList]⟩
 case neq=>exact⟨_,h,fun P w=>by simp[binOp,Op.stringOp,SV.den,beq_toList]⟩

structure yY (b:Nat->Nat) (st:St) (lw:Option World) (hold:Option (List Nat)) (w:World):Prop where
 box:∀l x,Dd hold l=true->bO st.boxes l=some x->w.heap[b l]? =some (.cells x.cells.toArray x.ty (0,0))
 cell:∀v,lw=some v->∀a u,v.cell? a=some u->w.cell? a=some u

theorem tt{P:Program}{t:TypeId}{d:TypeDesc}(h:P.underlying t=some d)(w:World):(isAgg t).run P w= .ok (fg P t) w:=by
 simp only[isAgg,fg,Sem.run_bind,run_underlying h,Result.andThen_ok,h];cases d<;>rfl

theorem run_loadCellsFrom{P:Program}(w:World)(a:Addr):∀(vs:List Value)(i:Nat)(acc:Array Value),(∀j,(h:j<vs.length)->w.cell? (a.add (i+j))=some vs[j])->
  (loadCellsFrom a i vs.length acc).run P w= .ok (acc++vs.toArray) w:=by
 intro vs;induction vs with
 |nil=>intro i acc _;simp[loadCellsFrom]
 |cons v r ih=>
  intro i acc h;have h0:=h 0 sm;simp only[ob,List.getElem_cons_zero]at h0;have d:=ih (i+1) (acc.push v) (fun j hj=>by have:=h (j+1) (by simpa using hj);simpa[HW,M3 1 j]using this);simp only[gw,loadCellsFrom,Sem.run_bind];have hl:(load (a.add i)).run P w= .ok v w:=by simp[load,Sem.run,h0]
  rw[hl];simp only[Result.andThen_ok,d]
  congr 1
  simp

theorem xJ{P:Program}{t:TypeId}{d:TypeDesc}(g:P.underlying t=some d)(w:World)(a:Addr)(v:Value)
  (e:ae w a v.cells.toList) (hv:match fg P t with
   |true=>∃cs:Array Value,v= .agg cs/\cs.size=P.cellsOf t
   |false=>v.cells= #[v]):(loadVar t a).run P w= .ok v w:=by
 simp only[loadVar,Sem.run_bind,tt g,Result.andThen_ok];cases h:fg P t with
 |true=>
  simp only[h]at hv;obtain⟨cs,rfl,hn⟩:=hv;simp only[Value.cells]at e;have hi:∃i,P.info? t=some i:=by
   cases k:P.info? t with
   |none=>simp[Program.underlying,k]at g
   |some i=>exact⟨i,rfl⟩
  obtain⟨i,hi⟩:=hi;have hs:(sizeOf t).run P w= .ok (P.cellsOf t) w:=by simp[sizeOf,typeInfo,program,Sem.run_bind,Sem.run,hi,Program.cellsOf]
  have:=run_loadCellsFrom (P:=P) w a cs.toList 0 #[] (fun j hj=>by simpa using e j hj);simp only[uW,hn]at this;simp[hs,loadCells,this]
 |false=>
  simp only[h]at hv;have h0:=e 0 (by simp[hv]);simp only[hv]at h0;have h1:w.cell? a=some v:=by simpa[Addr.add]using h0
  simp[load,Sem.run,h1]

theorem xd{w:World}{n:Nat}{cells:List Value}{ty:Nat}{fr:Nat×Nat}(h:w.heap[n]? =some (.cells cells.toArray ty fr))(off i:Nat):
  w.cell? ((⟨n,off,none⟩:Addr).add i)=cells[off+i]? :=by
 by_cases hi:i=0
 ·subst hi;simp[Addr.add,World.cell?,h]
 ·simp[Addr.add,hi,World.cell?,h]

theorem xe{l:Lf}{Q:Value->Prop}(h:Lp l Q):∃v,Q v/\(l≠ .any->v.cells= #[v]):=by
 cases l<;>simp only[Lp]at h
 ·obtain⟨n,h⟩:=h;exact⟨_,h,fun _=>rfl⟩
 ·obtain⟨n,h⟩:=h;exact⟨_,h,fun _=>rfl⟩
 ·obtain⟨n,h⟩:=h;exact⟨_,h,fun _=>rfl⟩
 ·obtain⟨A,n,k,h⟩:=h;exact⟨_,h,fun _=>rfl⟩
 ·obtain⟨A,n,k,h⟩:=h;exact⟨_,h,fun _=>rfl⟩
 ·obtain⟨n,h⟩:=h;exact⟨_,h,fun _=>rfl⟩
 ·obtain⟨n,h⟩:=h;exact⟨_,h,fun _=>rfl⟩
 ·obtain⟨v,h⟩:=h;exact⟨v,h,fun e=>absurd rfl e⟩

theorem yZ:∀{l:List Lf} {Q:List Value->Prop},I8 l Q->∃vs,vs.length=l.length/\Q vs:=by
 intro l;induction l with
 |nil=>intro Q h;exact⟨[],rfl,h⟩
 |cons x r ih=>
  intro Q h;obtain⟨v,h,_⟩:=xe h;obtain⟨vs,hl,h⟩:=ih h;exact⟨v::vs,by simp[hl],h⟩

theorem Cf{s:S1}{Q:Value->Prop}(h:RL s Q):∃v,Q v:=by
 cases s with
 |one l=>obtain⟨v,h,_⟩:=xe h;exact⟨v,h⟩
 |agg ls=>obtain⟨vs,_,h⟩:=yZ h;exact⟨_,h⟩
theorem Hq:∀{l:List S1} {Q:List Value->Prop},Lq l Q->∃vs,Q vs:=by
 intro l;induction l with
 |nil=>intro Q h;exact⟨[],h⟩
 |cons x r ih=>intro Q h;obtain⟨v,h⟩:=Cf h;obtain⟨vs,h⟩:=ih h;exact⟨_,h⟩
theorem xf{s:Sh}{Q:Value->Prop}(h:OM s Q):∃v,Q v:=by
 cases s with
 |s x=>exact Cf h
 |YZ l=>obtain⟨vs,h⟩:=Hq h;exact⟨_,h⟩

theorem ua{P:Program}{t:TypeId}{l off:Nat}{v:Value}{w:World}(h:tr P st.boxes t l off=some v)
  (hb:∀x,bO st.boxes l=some x->w.heap[b l]? =some (.cells x.cells.toArray x.ty (0,0))):(loadVar t ⟨b l,off,none⟩).run P w= .ok v w:=by
 unfold tr at h;cases hx:bO st.boxes l with
 |none=>simp[hx]at h
 |some x=>
  have g:=hb x hx;cases a:P.underlying t with
  |none=>simp[hx,a]at h
  |some d=>
   simp only[hx,a]at h;cases e:fg P t with
   |true=>
    simp only[e]at h;cases hle:Nat.ble (off+P.cellsOf t) x.cells.length with
    |false=>simp[hle]at h
    |true=>
     simp only[hle]at h;cases h;have hle:=HX hle;have hlen:(vF x.cells off (P.cellsOf t)).length=P.cellsOf t:=by simp[vF];omega
     refine xJ a w _ _ ?_ (by simp only[e];exact⟨_,rfl,by simp[hlen]⟩);intro i hi;rw[xd g];simp only[Value.cells]at hi⊢;have:i<P.cellsOf t:=by simpa[hlen]using hi
     simp[vF,af (show off+i<x.cells.length by omega)]
   |false=>
    simp only[e]at h;have h0:w.cell? ⟨b l,off,none⟩=some v:=by simpa[Addr.add]using(xd g off 0).trans h
    simp only[loadVar,Sem.run_bind,tt a,Result.andThen_ok,e];simp[load,Sem.run,h0]

theorem Bv{P:Program}{t:TypeId}{a:Addr}{v:World}(h:Dc P v a t K):
  ∃u,K (.v u)/\∀w,(∀a' m,v.cell? a'=some m->w.cell? a'=some m)->(loadVar t a).run P w= .ok u w:=by
 unfold Dc at h;cases e:P.underlying t with
 |none=>simp[e]at h
 |some d=>
  simp only[e]at h;cases g:fg P t with
  |true=>
   simp only[g]at h;cases hle:Nat.beq (EJ P 8 t).length (P.cellsOf t)with
   |false=>simp[hle]at h
   |true=>
    simp only[hle]at h;obtain⟨vs,hl,j,k⟩:=yZ h;refine⟨_,k,fun w hw=>xJ e w a _ (fun i hi=>hw _ _ (j i (by simpa[Value.cells]using hi))) ?_⟩;simp only[g];exact⟨_,rfl,by simp[hl,beq_true hle]⟩
  |false=>
   simp only[g]at h;cases hl:EJ P 8 t with
   |nil=>simp[hl]at h
   |cons l r=>
    simp only[hl]at h;obtain⟨u,⟨j,k⟩,hu⟩:=xe h;refine⟨u,k,fun w hw=> ?_⟩;have h0:=hw _ _ (j 0 sm);have h1:w.cell? a=some u:=by simpa[Addr.add]using h0
    simp only[loadVar,Sem.run_bind,tt e,Result.andThen_ok,g];simp[load,Sem.run,h1]

theorem kG{x:Option SV}{Q:SV->Prop}(h:xH x Q):∃v,x=some v/\Q v:=by
 cases x with
 |none=>exact h.elim
 |some v=>exact⟨v,rfl,h⟩

def Bd(v:Option Value)(n:Option Int):Prop:=match v,n with
 |none,none=>True
 |some y,some m=>∃k,y= .int k m
 |_,_=>False

theorem zc{x:Option Operand}{Q:Option Int->Prop}(he:po b st.env T)(h:bound st x Q):
  ∃n:Option Int,Q n/\Bd (x.map (act T).eval) n:=by
 cases x with
 |none=>exact⟨none,h,trivial⟩
 |some y=>
  unfold bound at h;simp only at h;cases hy:ev st y with
  |none=>simp[hy]at h
  |some v=>
   cases v with
   |v u=>
    cases u with
    |int k n=>simp only[hy]at h;exact⟨some n,h,k,dm he hy⟩
    |_=>simp[hy]at h
   |_=>simp[hy]at h

theorem run_sliceBound{P:Program}{k:IntKind}{n:Int}{y:Nat}{code:BoundsCode}(w:World)(h:0<=n/\n<=y):(Instr.sliceBound (.int k n) y code).run P w= .ok n.toNat w:=by
 simp[Instr.sliceBound,asIntOf,h]

theorem run_sizeOf{P:Program}{t:TypeId}{d:TypeDesc}(a:P.underlying t=some d)(w:World):(sizeOf t).run P w= .ok (P.cellsOf t) w:=by
 have hi:∃i,P.info? t=some i:=by
  cases e:P.info? t with
  |none=>simp[Program.underlying,e]at a
  |some i=>exact⟨i,rfl⟩
 obtain⟨i,hi⟩:=hi;simp[sizeOf,typeInfo,program,Sem.run_bind,Sem.run,hi,Program.cellsOf]
end ops
section
variable {c:Cx} {b:Nat->Nat} {st:St} {T:Array Value} {o:Oper} {K:SV->Prop}

theorem mA{P:Program}{t:TypeId}(h:known P t=true):∃d,P.underlying t=some d:=by
 unfold known at h;cases a:P.underlying t with
 |none=>simp[a]at h
 |some d=>exact⟨d,rfl⟩

theorem Dh{P:Program}{t:TypeId}{x:SV}{lo hi:Option Int}{j hv:Option Value}(h:Hk P t x lo hi K)
  (hl:Bd j lo) (i:Bd hv hi):
  ∃s:SV,K s/\∀w,(Instr.sliceAt t (x.den b) j hv none).run P w= .ok (s.den b) w:=by
 unfold Hk at h
 revert h
 generalize g:P.underlying t=l;intro h;cases l with
 |none=>exact h.elim
 |some d=>
  cases x with
  |v u=>
   cases d<;>cases u<;>first|exact h.elim|skip
   ·-- a string
    rename_i s;cases lo<;>cases hi<;>cases j<;>cases hv<;>first|exact hl.elim|exact i.elim|skip
    all_goals (simp only[Bd]at hl i;simp only at h;(try obtain⟨m,rfl⟩:=hl);(try obtain⟨q,rfl⟩:=i))
    ·refine⟨_,h,fun w=> ?_⟩;simp[Instr.sliceAt,Instr.slice,Instr.sliceBounds,Sem.run_bind,run_underlying g,SV.den]
    ·refine⟨_,h.2,fun w=> ?_⟩;simp[Instr.sliceAt,Instr.slice,Instr.sliceBounds,Sem.run_bind,run_underlying g,SV.den,run_sliceBound w h.1]
    ·refine⟨_,h.2,fun w=> ?_⟩;simp[Instr.sliceAt,Instr.slice,Instr.sliceBounds,Sem.run_bind,run_underlying g,SV.den,run_sliceBound w h.1]
    ·have h1:0<=(‹Int›:Int):=om;refine⟨_,h.2,fun w=> ?_⟩;have h2:=h.1;rw[Instr.sliceAt];simp only[Sem.run_bind,run_underlying g,Result.andThen_ok,SV.den];simp only[Instr.slice,Instr.sliceBounds,Sem.run_bind,run_underlying g,Result.andThen_ok,Option.isSome_none,zy,tm,Sem.run_pure];rw[run_sliceBound w om];simp only[Result.andThen_ok];rw[run_sliceBound w om];simp
   ·-- a slice
    rename_i e A n cap;simp only at h;cases k:known P e with
    |false=>rw[k]at h;exact h.elim
    |true=>
    rw[k]at h;obtain⟨r,he⟩:=mA k;cases lo<;>cases hi<;>cases j<;>cases hv<;>first|exact hl.elim|exact i.elim|skip
    all_goals (simp only[Bd]at hl i;simp only at h;(try obtain⟨m,rfl⟩:=hl);(try obtain⟨q,rfl⟩:=i))
    ·refine⟨_,h,fun w=> ?_⟩;simp[Instr.sliceAt,Instr.slice,Instr.sliceBounds,Sem.run_bind,run_underlying g,SV.den,run_sizeOf he];intro _;cases A<;>simp[Addr.add]
    ·refine⟨_,h.2,fun w=> ?_⟩;simp[Instr.sliceAt,Instr.slice,Instr.sliceBounds,Sem.run_bind,run_underlying g,SV.den,run_sizeOf he,run_sliceBound w h.1];intro _;cases A<;>simp[Addr.add]
    ·refine⟨_,h.2,fun w=> ?_⟩;simp[Instr.sliceAt,Instr.slice,Instr.sliceBounds,Sem.run_bind,run_underlying g,SV.den,run_sizeOf he,run_sliceBound w ⟨h.1.1,h.1.2.1⟩,kA]
    ·refine⟨_,h.2,fun w=> ?_⟩;have h2:=h.1;rw[Instr.sliceAt];simp only[Sem.run_bind,run_underlying g,Result.andThen_ok,SV.den];simp only[Instr.slice,Instr.sliceBounds,Sem.run_bind,run_underlying g,Result.andThen_ok,Option.isSome_none,zy,tm,Sem.run_pure,AM];rw[run_sliceBound w om];simp only[Result.andThen_ok];rw[run_sliceBound w om];simp[run_sizeOf he,kA]
  |_=>cases d<;>exact h.elim

theorem UP{s:ByteArray}{j:Int}(h:0<=j/\j<s.size):∃x:UInt8,s[j.toNat]? =some x/\(x.toNat:Int)=bt s j:=by
 have a:j.toNat<s.size:=om;refine⟨s[j.toNat],by simp[a],?_⟩;obtain⟨⟨d⟩⟩:=s;simp only[bt]
 congr 2
 have h2:j.toNat<d.length:=a;show d[j.toNat]=d.getD j.toNat 0;simp[cN,af h2]

theorem Di{P:Program}{t:TypeId}{f:Nat}{fd:Field}(h:vE P t f=some fd):∃a,P.underlying t=some (.struct a)/\a[f]? =some fd:=by
 unfold vE at h;cases e:P.underlying t with
 |none=>simp[e]at h
 |some d=>
  cases d<;>simp[e]at h;exact⟨_,rfl,h⟩

theorem xK{P:Program}{t:TypeId}{f:Nat}{fd:Field}(h:vE P t f=some fd)(e:Nat.beq (P.cellsOf fd.type) 0=false)(a:Addr)(w:World):
  (Instr.fieldAt t (.pointer (some a)) f).run P w= .ok (.pointer (some (a.add fd.offset))) w:=by
 obtain⟨j,h1,h2⟩:=Di h;have d:=beq_false e;have hi:∃i,P.info? fd.type=some i:=by
  cases g:P.info? fd.type with
  |none=>simp[Program.cellsOf,g]at d
  |some i=>exact⟨i,rfl⟩
 obtain⟨i,hi⟩:=hi;have hs:(sizeOf fd.type).run P w= .ok (P.cellsOf fd.type) w:=by simp[sizeOf,typeInfo,program,Sem.run_bind,Sem.run,hi,Program.cellsOf]
 simp[Instr.fieldAt,Sem.run_bind,run_underlying h1,h2,Instr.sureAddr,fieldPlace,hs,d]

theorem ib(n off k:Nat):(⟨n,off,none⟩:Addr).add k=⟨n,off+k,none⟩:=by
 unfold Addr.add;split<;>simp_all
end
section
variable {c:Cx} {b:Nat->Nat} {st:St} {T:Array Value} {o:Oper} {K:SV->Prop}

theorem zd:∀{e g:List Lf} {a b r s:List Value} {i:DP},a.length=e.length->b.length=e.length->eO (e++g) (a++r) (b++s)=some i->
  ∃d1 d2,eO e a b=some d1/\eO g r s=some d2/\(i.q↔d1.q/\d2.q):=by
 intro e;induction e with
 |nil=>
  intro g a b r s i ha hb h;have m:a=[]:=gz ha;have n:b=[]:=gz hb;subst m;subst n;exact⟨⟨True,inferInstance⟩,i,rfl,h,sm⟩
 |cons x e ih=>
  intro g a b r s i ha hb h;cases a with
  |nil=>simp at ha
  |cons u a=>
   cases b with
   |nil=>simp at hb
   |cons v b=>
    simp only[gw,Nat.add_right_cancel_iff]at ha hb;simp only[xm]at h;cases x<;>cases u<;>cases v<;>simp only[eO]at h<;>try (cases h;done)
    ·rename_i k0 k x l y;cases j:uI k l with
     |false=>rw[j]at h;simp at h
     |true=>
      cases he:eO (e++g) (a++r) (b++s)with
      |none=>rw[he]at h;simp at h
      |some d=>
       rw[j,he]at h;simp only at h;cases h;obtain⟨d1,d2,h1,h2,h3⟩:=ih ha hb he;exact⟨⟨x=y/\d1.q,by have:=d1.h;exact inferInstance⟩,d2,by simp only[eO,j,h1],h2,by simp[h3,and_assoc]⟩
    ·rename_i x y;cases he:eO (e++g) (a++r) (b++s)with
     |none=>rw[he]at h;simp at h
     |some d=>
      rw[he]at h;simp only at h;cases h;obtain⟨d1,d2,h1,h2,h3⟩:=ih ha hb he;exact⟨⟨x=y/\d1.q,by have:=d1.h;exact inferInstance⟩,d2,by simp only[eO,h1],h2,by simp[h3,and_assoc]⟩
    ·rename_i x y;cases he:eO (e++g) (a++r) (b++s)with
     |none=>rw[he]at h;simp at h
     |some d=>
      rw[he]at h;simp only at h;cases h;obtain⟨d1,d2,h1,h2,h3⟩:=ih ha hb he;exact⟨⟨x=y/\d1.q,by have:=d1.h;exact inferInstance⟩,d2,by simp only[eO,h1],h2,by simp[h3,and_assoc]⟩

theorem Bw{p q:Prop}{hp:Decidable p}{a:Decidable q}(h:p↔q): @decide p hp= @decide q a:=by
 by_cases e:p
 ·simp[e,h.1 e]
 ·have:¬q:=fun k=>e (h.2 k)
  simp[e,this]

def qW(P:Program)(t:TypeId)(cs:List Value):Value:=match fg P t with
 |true=> .agg cs.toArray
 |false=>cs.headD undef

theorem Lw{P:Program}:∀(n:Nat) {t:TypeId},rO P n t=true->(EJ P n t).length=P.cellsOf t/\∃d,P.underlying t=some d:=by
 intro n;induction n with
 |zero=>intro t h;simp[rO]at h
 |succ n ih=>
  intro t h;simp only[rO]at h;simp only[EJ];cases a:P.underlying t with
  |none=>simp[a]at h
  |some d=>
   rw[a]at h;refine⟨?_,d,rfl⟩;cases d<;>simp only at h⊢<;>try (simp at h;done)
   case int k=>simpa using(beq_true h).symm
   case bool=>simpa using(beq_true h).symm
   case string=>simpa using(beq_true h).symm
   case struct e=>
    simp only[eb,gu]at h;obtain⟨⟨_,h2⟩,h3⟩:=h;have gen:∀(l:List Field)(off m:Nat),(∀f∈l,rO P n f.type=true)->tiled P off l m=true->(l.flatMap fun f=>EJ P n f.type).length+off=m:=by
     intro l;induction l with
     |nil=>intro off m _ a;simp only[tiled]at a;simpa using beq_true a
     |cons f r i=>
      intro off m hf a;simp only[tiled,eb]at a;have h1:=(ih (hf f sm)).1;have h2:=i _ _ (fun g j=>hf g (by simp[j])) a.2;simp only[ow,fx,h1];omega
    have:=gen e.toList 0 (P.cellsOf t) (fun f hf=>(h3 f hf).2) h2;simpa using this

theorem EN{P:Program}{t:TypeId}{d:TypeDesc}(g:P.underlying t=some d){cs:List Value}{off:Nat}(h:off+P.cellsOf t<=cs.length)(h1:fg P t=false->P.cellsOf t=1)(w:World):
  (part t cs.toArray off).run P w= .ok (qW P t ((cs.drop off).take (P.cellsOf t))) w:=by
 simp only[part,Sem.run_bind,tt g,Result.andThen_ok,qW];cases i:fg P t with
 |true=>
  simp only[AM,Sem.run_bind,run_sizeOf g,Result.andThen_ok,Sem.run_pure]
  congr 2
  apply Md;simp[List.take_drop,M3]
 |false=>
  have hs:=h1 i;rw[hs]at h⊢;have a:off<cs.length:=om;simp only[zy,tm];have e:cs.toArray[off]? =some cs[off]:=by simp[a]
  rw[e];simp only[Sem.run_pure]
  congr 1
  rw[ec a];rfl

theorem Hr{P:Program}:∀(n:Nat) {t:TypeId} (d:Nat),rO P n t=true->n<=d->∀(cs i:List Value)(E:DP),cs.length=P.cellsOf t->i.length=P.cellsOf t->eO (EJ P n t) cs i=some E->
  ∀w,(Op.equalIn d t (qW P t cs) (qW P t i)).run P w= .ok (@decide E.q E.h) w:=by
 intro n;induction n with
 |zero=>intro t d h;simp[rO]at h
 |succ n ih=>
  intro t d h Z cs i E B C he w;obtain⟨d,rfl⟩:∃m,d=m+1:=⟨d - 1,om⟩
  have h0:=h;simp only[rO]at h;simp only[EJ]at he;cases j:P.underlying t with
  |none=>simp[j]at h
  |some M=>
   rw[j]at h he;cases M<;>simp only at h he<;>try (simp at h;done)
   case int k0=>
    have h1:=beq_true h;have a:fg P t=false:=by simp[fg,j]
    rw[h1]at B C;obtain⟨x,rfl⟩:=ni.1 B;obtain⟨y,rfl⟩:=ni.1 C;cases x<;>cases y<;>simp only[eO]at he<;>try (simp at he;done)
    rename_i k x l y;cases H:uI k l with
    |false=>rw[H]at he;simp at he
    |true=>
     rw[H]at he;simp only[IZ]at he;subst he;have N:=Ce H;have e:(x==y)=decide (x=y):=by rw[sr];simp
     rw[Op.equalIn];simp[qW,a,Sem.run_bind,run_underlying j,N,e]
   case bool=>
    have h1:=beq_true h;have a:fg P t=false:=by simp[fg,j]
    rw[h1]at B C;obtain⟨x,rfl⟩:=ni.1 B;obtain⟨y,rfl⟩:=ni.1 C;cases x<;>cases y<;>simp only[eO]at he<;>try (simp at he;done)
    rename_i x y;simp only[IZ]at he;subst he;have e:(x==y)=decide (x=y):=by cases x<;>cases y<;>rfl
    rw[Op.equalIn];simp[qW,a,Sem.run_bind,run_underlying j,e]
   case string=>
    have h1:=beq_true h;have a:fg P t=false:=by simp[fg,j]
    rw[h1]at B C;obtain⟨x,rfl⟩:=ni.1 B;obtain⟨y,rfl⟩:=ni.1 C;cases x<;>cases y<;>simp only[eO]at he<;>try (simp at he;done)
    rename_i x y;simp only[IZ]at he;subst he;have e:(x==y)=decide (x=y):=by
     rw[sr];obtain⟨x⟩:=x;obtain⟨y⟩:=y;show(x==y)=true↔_;simp
    rw[Op.equalIn];simp[qW,a,Sem.run_bind,run_underlying j,e]
   case struct J=>
    have a:fg P t=true:=by simp[fg,j]
    simp only[eb,gu,tW]at h;obtain⟨⟨I,z⟩,O⟩:=h;have F:P.fieldsOf t=J:=by simp[Program.fieldsOf,j]
    simp only[qW,a];rw[run_equalIn_struct w d t _ _ (by rw[F];exact j) I,F]
    have gen : ∀ (l : List Field) (off : Nat) (D : DP) (w : World), (∀ f ∈ l, f.name ≠ "_" ∧ rO P n f.type = true) → tiled P off l (P.cellsOf t) = true →
      eO (l.flatMap fun f=>EJ P n f.type) (cs.drop off) (i.drop off)=some D->(Op.eqFields d cs.toArray i.toArray l).run P w= .ok (@decide D.q D.h) w:=by
     intro l;induction l with
     |nil=>
      intro off D w _ z he;simp only[tiled]at z;have:=beq_true z;have Q:cs.drop off=[]:=dp om;have R:i.drop off=[]:=dp om;rw[Q,R]at he;simp only[GD,eO,IZ]at he;subst he;simp[Op.eqFields]
     |cons f r S=>
      intro off D w hf z he;simp only[tiled,eb]at z;have U:=beq_true z.1;obtain⟨hn,A⟩:=hf f sm;obtain⟨hlen,fd,G⟩:=Lw n A;have hbound:off+P.cellsOf f.type<=P.cellsOf t:=by
       have:∀(l:List Field)(o m:Nat),tiled P o l m=true->o<=m:=by
        intro l;induction l with
        |nil=>intro o m h;simp only[tiled]at h;have:=beq_true h;omega
        |cons f r ih=>intro o m h;simp only[tiled,eb]at h;have:=ih _ _ h.2;omega
       exact this r _ _ z.2
      have V:cs.drop off=(cs.drop off).take (P.cellsOf f.type)++cs.drop (off+P.cellsOf f.type):=by rw[<-GI];exact(ly _ _).symm
      have W:i.drop off=(i.drop off).take (P.cellsOf f.type)++i.drop (off+P.cellsOf f.type):=by rw[<-GI];exact(ly _ _).symm
      rw[V,W,ow]at he;have lc:((cs.drop off).take (P.cellsOf f.type)).length=P.cellsOf f.type:=by simp;omega
      have ld:((i.drop off).take (P.cellsOf f.type)).length=P.cellsOf f.type:=by simp;omega
      obtain⟨d1,d2,h1,h2,h3⟩:=zd (by rw[lc,hlen]) (by rw[ld,hlen]) he;have L:fg P f.type=false->P.cellsOf f.type=1:=fun a=>by
       cases n with
       |zero=>simp[rO]at A
       |succ n=>
        simp only[rO,G]at A;simp only[fg,G]at a;cases fd<;>simp only at A a<;>first|exact beq_true A|(simp at A;done)|(simp at a;done)
      have X:=ih d A om _ _ d1 lc ld h1 w;have Y:=S _ d2 w (fun g a=>hf g (by simp[a])) z.2 h2;simp only[Op.eqFields,hn,RS,not_false_eq_true,AM,Sem.run_bind,U,EN G (cs:=cs) (off:=off) om L,EN G (cs:=i) (off:=off) om L,Result.andThen_ok,X];have XL:=d1.h;by_cases c1:d1.q
      ·simp only[c1,decide_true,Bool.not_true,zy,tm,Y]
       congr 1
       exact Bw (by rw[h3];simp[c1])
      ·simp only[c1,decide_false,GK,AM,Sem.run_pure]
       congr 1
       have:¬D.q:=fun k=>c1 (h3.1 k).1
       simp[this]
    exact gen J.toList 0 E w (fun f hf=>by have:=O f hf;simpa using this) z (by simpa using he)

theorem ze{P:Program}{t:TypeId}{xs a:Array Value}{q:Prop}{d:Decidable q}(h1:(rY P t&&rO P 6 t)=true)(h2:eO (EJ P 6 t) xs.toList a.toList=some ⟨q,d⟩)(hx:xs.size=P.cellsOf t)(hy:a.size=P.cellsOf t)
  (w:World):(Op.equal t (.agg xs) (.agg a)).run P w= .ok (@decide q d) w:=by
 simp only[eb]at h1;have e:fg P t=true:=by
  have:=h1.1;unfold rY at this;unfold fg;split at this<;>simp_all
 have:=Hr 6 10000 h1.2 dc xs.toList a.toList ⟨q,d⟩ (by simpa using hx) (by simpa using hy) h2 w;simp only[qW,e]at this;exact this

theorem eQ{P:Program}{op:BinOp}{t:TypeId}{x y:Operand}{u v:Value}(w:World)(h1:∀q,u≠ .agg q)(h2:u≠ .nilIface):(eqGuard op t x y u v).run P w= .ok () w:=by
 unfold eqGuard;cases op<;>cases u<;>simp_all

theorem EO{P:Program}{t e:TypeId}{A:Option Addr}{n m:Nat}(d:Nat)(a:P.underlying t=some (.slice e))(w:World):
  (Op.equalIn (d+1) t (.slice A n m) (.slice none 0 0)).run P w= .ok (decide (A=none)) w:=by
 rw[Op.equalIn];cases A<;>simp[Sem.run_bind,run_underlying a]
theorem Dj{P:Program}{t:TypeId}{x y:Bool}(d:Nat)(a:P.underlying t=some .bool)(w:World):
  (Op.equalIn (d+1) t (.bool x) (.bool y)).run P w= .ok (decide (x=y)) w:=by
 have e:(x==y)=decide (x=y):=by cases x<;>cases y<;>rfl
 rw[Op.equalIn];simp[Sem.run_bind,run_underlying a,e]

theorem vK{P:Program}{op:BinOp}{t:TypeId}{x y:Operand}{xs e:Array Value}(h:(rY P t&&rO P 6 t)=true)(w:World):
  (eqGuard op t x y (.agg xs) (.agg e)).run P w= .ok () w:=by
 have a:∀(n:Nat)(d:Nat)(t:TypeId),rO P n t=true->n<=d->P.eqGuardType d t=false:=by
  intro n;induction n with
  |zero=>intro d t h;simp[rO]at h
  |succ n ih=>
   intro d t h k;obtain⟨d,rfl⟩:∃m,d=m+1:=⟨d - 1,om⟩
   simp only[rO]at h;simp only[Program.eqGuardType];cases g:P.underlying t with
   |none=>rfl
   |some i=>
    rw[g]at h;cases i<;>simp only at h⊢<;>try (simp at h;done)
    rename_i l;simp only[eb,gu]at h;rw[<-Array.any_toList];rw[vd];intro f hf;have:=h.2 f hf;simp only[eb];rw[ih d f.type this.2 om];simp
 simp only[eb]at h;have j:6<=P.depth:=by
  unfold Program.depth;have:Made.depth≥2:=dc;omega
 have:=a 6 P.depth t h.2 j;unfold eqGuard;cases op<;>simp[Sem.run_bind,program,Sem.run,this]

theorem zf{x:SV}{t:Bool}(h:yU x=some t):x.den b= .bool t:=by
 cases x with
 |v u=>cases u<;>simp_all [yU,SV.den]
 |_=>simp_all [yU,SV.den]

set_option maxHeartbeats 1000000 in
theorem OQ{j:Int}{n:Nat}{Q:Nat->Prop}(h:each j n Q){k:Nat}(d:k<n)(e:j=(k:Int)):Q k:=by
 induction n with
 |zero=>omega
 |succ n ih=>
  simp only[each]at h;by_cases a:k=n
  ·subst a;exact h.2 e
  ·exact ih h.1 om

theorem pv{raw:Bool}{lw:Option World}{hold:Option (List Nat)}{Ok:World->Prop}(L:iQ o=true->∀w,Ok w->yY b st lw hold w)(he:po b st.env T)(hs:∀cs q,o.op≠ .select cs q)(h:value c raw lw hold o st K):
  Ja c b T o Ok K:=by
 unfold value at h;cases g:o.op<;>simp only[g]at h<;>try exact cE he hs h
 case move x=>
  obtain⟨v,hv,r⟩:=kG h;exact⟨v,r,fun w _=>by simp[execOp,g,dm he hv]⟩
 case assign x=>
  obtain⟨v,hv,r⟩:=kG h;exact⟨v,r,fun w _=>by simp[execOp,g,dm he hv]⟩
 case pick cnd x y=>
  obtain⟨v,hv,hB⟩:=kG h;obtain⟨t,B,h⟩:=qU (b:=b) hB;cases t
  ·obtain⟨R,hu,r⟩:=kG h;exact⟨R,r,fun w _=>by simp[execOp,g,dm he hv,B,asBool,dm he hu]⟩
  ·obtain⟨R,hu,r⟩:=kG h;exact⟨R,r,fun w _=>by simp[execOp,g,dm he hv,B,asBool,dm he hu]⟩
 case unOp u t x=>
  cases u<;>simp only at h<;>try exact cE he hs h
  ·cases hx:ev st x with
   |none=>simp[hx]at h
   |some v=>
    rw[hx]at h;cases v with
    |v a=>
     cases a<;>try exact h.elim
     rename_i k n;obtain⟨m,h1,h2⟩:=ql h;exact⟨_,h1,fun w _=>by simp[execOp,g,dm he hx,SV.den,Op.unary,Op.intArith,<-h2]⟩
    |_=>exact h.elim
  ·cases hx:ev st x with
   |none=>simp[hx]at h
   |some v=>
    rw[hx]at h;cases v with
    |v a=>
     cases a<;>try exact h.elim
     rename_i t;exact⟨_,h,fun w _=>by cases t<;>simp[execOp,g,dm he hx,SV.den,Op.unary]⟩
    |t=>exact⟨_,h,fun w _=>by simp[execOp,g,dm he hx,SV.den,Op.unary]⟩
    |f=>exact⟨_,h,fun w _=>by simp[execOp,g,dm he hx,SV.den,Op.unary]⟩
    |p q hq=>exact⟨_,h,fun w _=>by by_cases hc:q<;>simp[execOp,g,dm he hx,SV.den,Op.unary,hc]⟩
    |_=>exact h.elim
 case convert src dst x=>
  cases S:c.P.underlying dst with
  |none=>rw[S]at h;exact cE he hs h
  |some d=>
   cases hx:ev st x with
   |none=>rw[S,hx]at h;cases d<;>exact cE he hs h
   |some v=>
    rw[S,hx]at h;cases d<;>try exact cE he hs h
    cases v<;>try exact cE he hs h
    rename_i k a;cases a<;>try exact cE he hs h
    rename_i k' n;simp only at h;cases z:known c.P src with
    |false=>rw[z]at h;exact h.elim
    |true=>
     rw[z]at h;obtain⟨ds,Y2⟩:=mA z;obtain⟨m,h1,h2⟩:=ql h;exact⟨_,h1,fun w _=>by simp[execOp,g,dm he hx,SV.den,Go.convert,Sem.run_bind,run_underlying Y2,run_underlying S,Conv.intToInt,h2]⟩
 case nilCheck x=>
  cases hx:ev st x with
  |none=>simp[hx]at h
  |some v=>
   rw[hx]at h;cases v with
   |loc l off=>exact⟨_,h,fun w _=>by simp[execOp,g,dm he hx,SV.den]⟩
   |v a=>
    cases a<;>try exact h.elim
    ·rename_i q;cases q<;>try exact h.elim
     exact⟨_,h,fun w _=>by simp[execOp,g,dm he hx,SV.den]⟩
    ·rename_i q _ _;cases q<;>try exact h.elim
     exact⟨_,h,fun w _=>by simp[execOp,g,dm he hx,SV.den]⟩
   |_=>exact h.elim
 case fieldAddr s x f=>
  cases hf:vE c.P s f with
  |none=>simp[hf]at h
  |some fd=>
   rw[hf]at h;simp only at h;cases U:Nat.beq (c.P.cellsOf fd.type) 0 with
   |true=>simp[U]at h
   |false=>
    rw[U]at h;simp only at h;cases hx:ev st x with
    |none=>simp[hx]at h
    |some v=>
     rw[hx]at h;cases v with
     |loc l off=>exact⟨_,h,fun w _=>by simp[execOp,g,dm he hx,SV.den,xK hf U,ib]⟩
     |v a=>
      cases a<;>try exact h.elim
      rename_i q;cases q<;>try exact h.elim
      exact⟨_,h,fun w _=>by simp[execOp,g,dm he hx,SV.den,xK hf U]⟩
     |_=>exact h.elim
 case slice t x lo hi mx=>
  cases mx with
  |some m=>simp only at h;exact cE he hs h
  |none=>
   simp only at h;obtain⟨v,hv,h⟩:=kG h;obtain⟨l,h,hl⟩:=zc he h;obtain⟨u,h,hu⟩:=zc he h;obtain⟨s,r,H⟩:=Dh (b:=b) h hl hu;exact⟨s,r,fun w _=>by simp[execOp,g,dm he hv,H]⟩
 case load t x=>
  cases hx:ev st x with
  |none=>simp[hx]at h
  |some v=>
   rw[hx]at h;cases v with
   |loc l off=>
    simp only at h;cases hm:Dd hold l with
    |false=>simp[hm]at h
    |true=>
     cases hl:tr c.P st.boxes t l off with
     |none=>simp[hm,hl]at h
     |some u=>
      simp only[hm,hl]at h;exact⟨_,h,fun w hw=>by simp[execOp,g,dm he hx,SV.den,Instr.loadAt,Instr.sureAddr,ua (b:=b) hl (fun y hy=>(L (by simp[iQ,g]) w hw).box l y hm hy)]⟩
   |v a=>
    cases a<;>try exact h.elim
    rename_i q;cases q<;>try exact h.elim
    rename_i ad;cases hw:lw with
    |none=>simp[hw]at h
    |some w0=>
     simp only[hw]at h;obtain⟨u,r,H⟩:=Bv h;refine⟨_,r,fun w hr=> ?_⟩;simp[execOp,g,dm he hx,SV.den,Instr.loadAt,Instr.sureAddr,H w (fun a' u' h'=>(L (by simp[iQ,g]) w hr).cell w0 hw a' u' h')]
   |_=>exact h.elim
 case indexAddr t x i=>
  cases B:c.P.underlying t with
  |none=>simp[B]at h
  |some d=>
   cases hx:ev st x with
   |none=>cases d<;>simp[B,hx]at h
   |some v=>
    cases hi:ev st i with
    |none=>cases d<;>cases v<;>simp[B,hx,hi]at h
    |some V=>
     rw[B,hx,hi]at h;cases d<;>try exact h.elim
     ·rename_i e;cases v<;>try exact h.elim
      rename_i M;cases M<;>try exact h.elim
      rename_i A n cp;cases V<;>try exact h.elim
      rename_i N;cases N<;>try exact h.elim
      rename_i k j;simp only at h;cases z:known c.P e with
      |false=>rw[z]at h;exact h.elim
      |true=>
       rw[z]at h;obtain⟨de,O⟩:=mA z;obtain⟨hj,a,rfl,r⟩:=h;refine⟨_,r,fun w _=> ?_⟩;simp[execOp,g,dm he hx,dm he hi,SV.den,Instr.indexAt,asIntOf,Sem.run_bind,run_underlying B,run_sizeOf O,hj]
     ·rename_i n e;cases v<;>try exact h.elim
      rename_i l off;cases V<;>try exact h.elim
      rename_i N;cases N<;>try exact h.elim
      rename_i k i;simp only at h;cases raw with
      |true=>
       simp only at h;cases z:known c.P e with
       |false=>rw[z]at h;exact h.elim
       |true=>
        rw[z]at h;obtain⟨⟨h0,h1⟩,h⟩:=h;obtain⟨de,O⟩:=mA z;obtain⟨m,rfl⟩:=pj h0;have D:m<n:=om;have r:=OQ h D rfl;refine⟨_,r,fun w _=> ?_⟩;simp[execOp,g,dm he hx,dm he hi,SV.den,Instr.indexAt,asIntOf,Sem.run_bind,run_underlying B,run_sizeOf O,Instr.sureAddr,D,ib]
      |false=>
      simp only at h;cases i<;>try exact h.elim
      rename_i j;simp only at h;cases z:Nat.blt j n&&known c.P e with
      |false=>rw[z]at h;exact h.elim
      |true=>
       rw[z]at h;simp only[eb]at z;obtain⟨de,O⟩:=mA z.2;have D:j<n:=by simpa[QH]using z.1
       refine⟨_,h,fun w _=> ?_⟩;have h2:(Int.ofNat j)<(n:Int):=by simpa using D
       simp[execOp,g,dm he hx,dm he hi,SV.den,Instr.indexAt,asIntOf,Sem.run_bind,run_underlying B,run_sizeOf O,Instr.sureAddr,D,ib]
 case index t x i=>
  cases B:c.P.underlying t with
  |none=>rw[B]at h;exact cE he hs h
  |some d=>
   rw[B]at h;cases hx:ev st x with
   |none=>rw[hx]at h;cases d<;>exact cE he hs h
   |some v=>
    cases hi:ev st i with
    |none=>
     rw[hx,hi]at h;cases d<;>try exact cE he hs h
     cases v<;>try exact cE he hs h
     rename_i M;cases M<;>exact cE he hs h
    |some V=>
     rw[hx,hi]at h;cases d<;>try exact cE he hs h
     cases v<;>try exact cE he hs h
     rename_i M;cases M<;>try exact cE he hs h
     rename_i s;cases V<;>try exact cE he hs h
     rename_i N;cases N<;>try exact cE he hs h
     rename_i k j;obtain⟨hj,r⟩:=h;obtain⟨x0,h1,h2⟩:=UP hj;refine⟨_,r,fun w _=> ?_⟩;simp only[execOp,g,dm he hx,dm he hi,SV.den,Instr.index,asIntOf,Sem.run_bind,run_underlying B,Sem.run_pure,Result.andThen_ok,cc hj.1,h1,h2]
 case binOp op E x y yt=>
  have pl:=fun(h:pq c o st K)=>cE (Ok:=Ok) he hs h
  cases hx:ev st x with
  |none=>simp[hx]at h
  |some R=>
   cases hy:ev st y with
   |none=>simp[hx,hy]at h
   |some v=>
    simp only[hx,hy]at h;have ex:=dm he hx;have C:=dm he hy;split at h
    ·rename_i k I k' J F G;cases F;cases G;cases z:uI k k' with
     |false=>rw[z]at h;exact pl h
     |true=>
      rw[z]at h;obtain rfl:=Ce z;have go:Db raw op k I J K->Ja c b T o Ok K:=fun hb=>by
       obtain⟨s,r,H⟩:=Df (b:=b) (t:=E) hb;refine⟨s,r,fun w _=> ?_⟩;simp only[SV.den]at ex C;simp[execOp,g,ex,C,Sem.run_bind,eQ w (u:= .int k I) (v:= .int k J) sm sm,H]
      exact go h
    ·rename_i I J F G;cases F;cases G;obtain⟨s,r,H⟩:=Dg (b:=b) (t:=E) h;refine⟨s,r,fun w _=> ?_⟩;simp only[SV.den]at ex C;simp[execOp,g,ex,C,Sem.run_bind,eQ w (u:= .string I) (v:= .string J) sm sm,H]
    ·rename_i I J F G;cases F;cases G;split at h
     ·rename_i q hq h1 h2;simp only[eb]at h1;have W:I.size=c.P.cellsOf E:=by simpa using beq_true h1.1.2
      have X:J.size=c.P.cellsOf E:=by simpa using beq_true h1.2
      have hS:(rY c.P E&&rO c.P 6 E)=true:=by simp[h1.1.1]
      have heq:=fun w=>ze hS h2 W X w
      have Q:∀w,(eqGuard op E x y (.agg I) (.agg J)).run c.P w= .ok () w:=fun w=>vK hS w
      simp only[SV.den]at ex C;cases op<;>simp only at h<;>try exact h.elim
      ·refine⟨_,h,fun w _=> ?_⟩;simp[execOp,g,ex,C,Sem.run_bind,Q,binOp,heq,SV.den]
      ·refine⟨_,h,fun w _=> ?_⟩;simp[execOp,g,ex,C,Sem.run_bind,Q,binOp,heq,SV.den]
     ·exact h.elim
    ·rename_i A n1 c1 F G;cases F;cases G;cases B:c.P.underlying E with
     |none=>rw[B]at h;exact h.elim
     |some d=>
      rw[B]at h;cases d<;>try exact h.elim
      simp only[SV.den]at ex C;have heq:∀w,(Op.equal E (.slice A n1 c1) (.slice none 0 0)).run c.P w= .ok (decide (A=none)) w:=fun w=>EO 9999 B w
      cases op<;>simp only at h<;>try exact h.elim
      ·refine⟨_,h,fun w _=> ?_⟩;simp[execOp,g,ex,C,Sem.run_bind,eQ w (u:= .slice A n1 c1) (v:= .slice none 0 0) sm sm,binOp,heq,SV.den]
      ·refine⟨_,h,fun w _=> ?_⟩;simp[execOp,g,ex,C,Sem.run_bind,eQ w (u:= .slice A n1 c1) (v:= .slice none 0 0) sm sm,binOp,heq,SV.den]
    ·rename_i u' v' _ _ _ _ F G;cases F;cases G;split at h
     ·rename_i t1 t2 B Y Z;have d1:=zf (b:=b) Y;have d2:=zf (b:=b) Z;rw[d1]at ex;rw[d2]at C;have heq:∀w,(Op.equal E (.bool t1) (.bool t2)).run c.P w= .ok (decide (t1=t2)) w:=fun w=>Dj 9999 B w
      cases op<;>simp only at h<;>try exact h.elim
      ·refine⟨_,h,fun w _=> ?_⟩;simp[execOp,g,ex,C,Sem.run_bind,eQ w (u:= .bool t1) (v:= .bool t2) sm sm,binOp,heq,SV.den]
      ·refine⟨_,h,fun w _=> ?_⟩;simp[execOp,g,ex,C,Sem.run_bind,eQ w (u:= .bool t1) (v:= .bool t2) sm sm,binOp,heq,SV.den]
     ·exact pl h
    ·exact h.elim
end

structure Inv (c:Cx) (b:Nat->Nat) (st:St) (T:Array Value) (wa:World):Prop where
 size:T.size=c.N
 env:po b st.env T
 box:rX b c.B st.boxes wa
 lo:c.B<=st.w.heap.size
 ext:match st.d with
  |none=>wa=st.w
  |some ts=>Ext c.B ts st.w wa
 new:∀l x,bO st.boxes l=some x->x.new=true->st.w.heap.size<=b l
 base:Below c.B c.w0 wa

theorem Ext.refl(B:Nat)(ts:List Nat)(w:World):Ext B ts w w:=⟨Below.refl _ _,fun k _=> .inl rfl⟩
theorem Ext.mono{B:Nat}{ts us:List Nat}{w w':World}(h:Ext B ts w w')(hs:∀t∈ts,t∈us):Ext B us w w':=
 ⟨h.below,fun k a=>(h.other k a).imp id fun⟨t,d,r⟩=>⟨t,hs t d,r⟩⟩
theorem Jb{t x:Nat}:∀{l:List Nat},x∈ins t l↔x=t∨x∈l:=by
 intro l;induction l with
 |nil=>simp[ins]
 |cons y r ih=>
  simp only[ins];cases h:Nat.beq y t with
  |true=>have:=beq_true h;subst this;simp
  |false=>simp[ih];constructor<;>rintro(h|h|h)<;>simp[h]

theorem qX{a:List qO}{l:Nat}:bO (yT a) l=(bO a l).map fun x=>{x with new:=false}:=by
 induction a with
 |nil=>rfl
 |cons x r ih=>
  simp only[yT,da];split<;>simp_all

section
variable {c:Cx} {b:Nat->Nat} {st:St} {T:Array Value} {wa:World}

theorem Inv.vL(h:Inv c b st T wa):Ext c.B (st.d.getD []) st.w wa:=by
 have:=h.ext;cases a:st.d with
 |none=>rw[a]at this;subst this;exact Ext.refl _ _ _
 |some ts=>rw[a]at this;exact this

theorem rX.yT(h:rX b c.B st.boxes wa):rX b c.B (yT st.boxes) wa:=by
 constructor
 ·intro l x hx;rw[qX]at hx;obtain⟨y,hy,rfl⟩:=k7.1 hx;exact h.at_ l y hy
 ·intro l m x y hx hy a;rw[qX]at hx hy;obtain⟨d,e,rfl⟩:=k7.1 hx;obtain⟨g,i,rfl⟩:=k7.1 hy;exact h.ne l m d g e i a

theorem tu{a:List qO}{l:Nat}{x:qO}(h:bO (yT a) l=some x):x.new=false:=by
 rw[qX]at h;obtain⟨y,_,rfl⟩:=k7.1 h;rfl

def Same(st d:St):Prop:=∀l a,bO d.boxes l=some a->∃x,bO st.boxes l=some x/\x.cells=a.cells/\x.ty=a.ty
theorem Same.refl(st:St):Same st st:=fun l x h=>⟨x,h,rfl,rfl⟩
theorem Same.trans{st a d:St}(h:Same st a)(k:Same a d):Same st d:=fun l x hx=>by
 obtain⟨y,hy,e,g⟩:=k l x hx;obtain⟨z,i,f1,f2⟩:=h l y hy;exact⟨z,i,f1.trans e,f2.trans g⟩
theorem Same.yT{st a:St}(h:Same st a){env w d}:Same st ⟨env,yT a.boxes,w,d⟩:=fun l x hx=>by
 rw[qX]at hx;obtain⟨y,hy,rfl⟩:=k7.1 hx;obtain⟨z,e,f1,f2⟩:=h l y hy;exact⟨z,e,f1,f2⟩
theorem dJ{K:St->Prop}(inv:Inv c b st T wa)(h:iA c.B st K):
  ∃a,K a/\Inv c b a T wa/\a.w=wa/\a.d=none/\a.env=st.env/\Same st a:=by
 unfold iA at h;have hx:=inv.ext;cases e:st.d with
 |none=>rw[e]at h hx;exact⟨st,h,inv,hx.symm,e,rfl,Same.refl _⟩
 |some ts=>
  rw[e]at h hx;refine⟨_,h wa hx,⟨inv.size,inv.env,inv.box.yT,ga inv.lo hx.below.size,rfl,fun l x hl hn=> ?_,inv.base⟩,rfl,rfl,rfl,(Same.refl st).yT⟩;rw[tu hl]at hn;cases hn

theorem Lx{l a:Nat}{env:Env}{s:Nat}{x:SV}(h:get (iI l a env) s=some x):
  get env s=some x∨∃off,get env s=some (.loc l off)/\x= .v (.pointer (some ⟨a,off,none⟩)):=by
 induction env with
 |nil=>simp[iI,get]at h
 |cons y r ih=>
  obtain⟨s0,v⟩:=y;have gen:∀d,(iI l a ((s0,v)::r)=(s0,d)::iI l a r)->(d=v∨∃off,v= .loc l off/\d= .v (.pointer (some ⟨a,off,none⟩)))->
    get ((s0,v)::r) s=some x∨∃off,get ((s0,v)::r) s=some (.loc l off)/\x= .v (.pointer (some ⟨a,off,none⟩)):=by
   intro d e hv;rw[e,ia]at h;rw[ia];by_cases hs:s0=s
   ·simp only[hs,AM]at h⊢;cases h;rcases hv with rfl|⟨off,rfl,rfl⟩
    ·exact .inl rfl
    ·exact .inr ⟨off,rfl,rfl⟩
   ·simp only[hs,tm]at h⊢;exact ih h
  cases v with
  |loc k off=>
   cases g:Nat.beq k l with
   |true=>have:=beq_true g;subst this;exact gen _ (by simp[iI]) (.inr ⟨off,rfl,rfl⟩)
   |false=>exact gen _ (by simp[iI,g]) (.inl rfl)
  |_=>exact gen _ (by simp[iI]) (.inl rfl)

theorem zg{a:St}{l:Nat}(e:Inv c b a T wa):Inv c b {env:=iI l (b l) a.env,boxes:=kz a.boxes l,w:=a.w,d:=a.d} T wa/\Same a {env:=iI l (b l) a.env,boxes:=kz a.boxes l,w:=a.w,d:=a.d}:=by
 refine⟨⟨e.size,fun s x hs=> ?_,⟨fun m x hm=> ?_,fun m n x y hm hn g=> ?_⟩,e.lo,e.ext,fun m x hm hn=> ?_,e.base⟩,fun m x hm=> ?_⟩
 ·rcases Lx hs with h1|⟨off,h1,rfl⟩
  ·exact e.env s x h1
  ·exact e.env s (.loc l off) h1
 ·rw[dH]at hm;split at hm
  ·cases hm
  ·exact e.box.at_ m x hm
 ·rw[dH]at hm hn;split at hm
  ·cases hm
  ·split at hn
   ·cases hn
   ·exact e.box.ne m n x y hm hn g
 ·simp only[dH]at hm;split at hm
  ·cases hm
  ·exact e.new m x hm hn
 ·rw[dH]at hm;split at hm
  ·cases hm
  ·exact⟨x,hm,rfl,rfl⟩
theorem Bx{K:St->Prop}:∀(d:List Nat)(st:St),Inv c b st T wa->yA c d st K->∃a,K a/\Inv c b a T wa/\Same st a:=by
 intro d;induction d with
 |nil=>intro st inv h;exact⟨st,h,inv,Same.refl _⟩
 |cons l r ih=>
  intro st inv h;simp only[yA]at h;obtain⟨a,h,e,hw,n,_,i⟩:=dJ inv h;cases hb:bO a.boxes l with
  |none=>simp[hb]at h
  |some j=>
   simp only[hb]at h;have g:=e.box.at_ l j hb;obtain⟨inv2,k⟩:=zg (l:=l) e;obtain⟨m,h1,h2,h3⟩:=ih _ inv2 (h (b l) g.1 (by rw[hw];exact g.2));exact⟨m,h1,h2,(i.trans k).trans h3⟩
theorem zh{K:St->Prop}(g:List Nat)(st:St)(inv:Inv c b st T wa)(h:yW c g st K):∃a,K a/\Inv c b a T wa/\Same st a:=by
 unfold yW at h;split at h
 ·rename_i l;split at h
  ·cases h
  ·rename_i b0 i;split at h
   ·cases h
   ·rename_i hn;obtain⟨a,h,d,hw,n,_,j⟩:=dJ inv h;cases hb:bO a.boxes l with
    |none=>simp[hb]at h
    |some k=>
     simp only[hb]at h;have e:=d.box.at_ l k hb;obtain⟨inv2,m⟩:=zg (l:=l) d;exact⟨_,h (b l) e.1 (inv.new l b0 i hn) (by rw[hw];exact e.2),inv2,j.trans m⟩
 ·cases h

def Kept(o:Oper)(b:Nat->Nat)(st:St)(wa:World)(d:Nat->Nat)(e:St)(w':World):Prop:=
 wa.heap.size<=w'.heap.size/\(∀k,k<wa.heap.size->w'.heap[k]? =wa.heap[k]?)/\∀l,(rF o=true->o.dst≠some l)->d l=b l/\∀a,bO e.boxes l=some a->∃x,bO st.boxes l=some x/\x.cells=a.cells/\x.ty=a.ty

def LA(c:Cx)(q:Bool)(o:Oper)(b:Nat->Nat)(st:St)(wa:World)(T:Array Value)(K:SV->St->Prop)(v:Value)(w':World):Prop:=
 ∃a x d,K x d/\v=x.den a/\Inv c a d T w'/\(q=true->Kept o b st wa a d w')

variable {o:Oper} {K:SV->St->Prop}

def By(c:Cx)(q:Bool)(b:Nat->Nat)(st:St)(T:Array Value)(o:Oper)(wa:World)(K:SV->St->Prop):Prop:=
 ∀next Q,(∀v w',LA c q o b st wa T K v w'->next ((act T).put o.dst v) w')->o.wp c.P (act T) wa next Q

theorem Same.kept{st a:St}(h:Same st a)(o:Oper)(b:Nat->Nat)(w w':World)(hs:w.heap.size<=w'.heap.size)(d:∀k,k<w.heap.size->w'.heap[k]? =w.heap[k]?):Kept o b st w b a w':=
 ⟨hs,d,fun l _=>⟨rfl,h l⟩⟩

theorem ub{q:Bool}{Ok:World->Prop}{a:St}(inv:Inv c b a T wa)(d:Same st a)(e:Ok wa)(h:Ja c b T o Ok fun x=>K x a):By c q b st T o wa K:=by
 obtain⟨x,g,i⟩:=h;intro next Q hn
 unfold Oper.wp;rw[i wa e];exact hn _ _ ⟨b,x,a,g,rfl,inv,fun _=>d.kept _ _ _ _ lf fun _ _=>rfl⟩

theorem yY.LB{lw:Option World}(inv:Inv c b st T wa)(hw:∀v,lw=some v->v=wa):yY b st lw none wa:=
 ⟨fun l x _ hx=>(inv.box.at_ l x hx).2,fun v hv a u hu=>by rw[<-hw v hv];exact hu⟩

theorem sd{env:Env}{l s:Nat}{x:SV}(h:get (pn env l) s=some x):get env s=some x/\x.Lo l=false:=by
 induction env with
 |nil=>simp[pn,get]at h
 |cons y r ih=>
  simp only[pn]at h;simp only[ia];cases hl:y.2.Lo l with
  |true=>
   rw[hl]at h;simp only[oI]at h;by_cases hs:s=y.1
   ·simp[hs]at h
   ·simp only[hs,tm]at h;rw[ar (nx hs)];exact ih h
  |false=>
   rw[hl]at h;simp only[ia]at h;by_cases hs:y.1=s
   ·simp only[hs,AM]at h⊢;cases h;exact⟨rfl,hl⟩
   ·simp only[hs,tm]at h⊢;exact ih h

theorem zi(inv:Inv c b st T wa)(l ty:Nat)(cells:List Value):
  Inv c (fun m=>if m=l then wa.heap.size else b m) (pJ st l ty cells) T (wa.alloc (.cells cells.toArray ty)):=by
 have hx:=inv.vL;have d:∀m x,bO st.boxes m=some x->b m<wa.heap.size:=fun m x hm=>by
  have:=(inv.box.at_ m x hm).2;exact(bU.1 this).1
 refine⟨inv.size,fun s x hs=> ?_,⟨fun m x hm=> ?_,fun m n x y hm hn g=> ?_⟩,inv.lo,?_,fun m x hm hn=> ?_,inv.base.alloc (ga inv.lo hx.below.size) _⟩
 ·obtain⟨h1,h2⟩:=sd hs;rw[inv.env s x h1];cases x<;>simp only[SV.den];rename_i k off;have:k≠l:=beq_false h2;simp[this]
 ·simp only[pJ,da,dH]at hm;by_cases e:l=m
  ·subst e;simp only[AM]at hm;cases hm;simp only[AM];refine⟨ga inv.lo hx.below.size,?_⟩;show(wa.heap.push _)[wa.heap.size]? =_;simp
  ·simp only[e,tm,nx e]at hm;have:=inv.box.at_ m x hm;simp only[nx e,tm];refine⟨this.1,?_⟩;rw[<-this.2];exact Below.heap_alloc wa _ _ (d m x hm)
 ·simp only[pJ,da,dH]at hm hn;by_cases e:l=m
  ·subst e;by_cases a:l=n
   ·exact absurd a g
   ·simp only[a,tm,nx a]at hn;have:=d n y hn;simp only[AM,nx a,tm];omega
  ·simp only[e,tm,nx e]at hm;have h1:=d m x hm;by_cases a:l=n
   ·subst a;simp only[nx e,tm,AM];omega
   ·simp only[a,tm,nx a]at hn;simp only[nx e,nx a,tm];exact inv.box.ne m n x y hm hn g
 ·simp only[pJ];refine⟨hx.below.alloc (ga inv.lo hx.below.size) _,fun k h=> ?_⟩;have i:k<wa.heap.size:=jK h hx.below.size;rw[Below.heap_alloc wa _ _ i];exact hx.other k h
 ·simp only[pJ,da,dH]at hm;simp only[pJ];by_cases e:l=m
  ·subst e;simp only[AM];exact hx.below.size
  ·simp only[e,tm,nx e]at hm;simp only[nx e,tm];exact inv.new m x hm hn

theorem xL{l:Nat}(d:o.dst=some l)(g:rF o=true)(ty:Nat)(cells:List Value)(h:Obj):
  Kept o b st wa (fun m=>if m=l then wa.heap.size else b m) (pJ st l ty cells) (wa.alloc h):=by
 refine⟨sm,fun k i=>Below.heap_alloc _ _ _ i,fun m hm=> ?_⟩;have a:m≠l:=fun e=>hm g (by rw[d,e])
 refine⟨ar a,fun x hx=> ?_⟩;simp only[pJ,da,dH,ar a,ar (nx a)]at hx;exact⟨x,hx,rfl,rfl⟩

theorem qY{x:Option SV}{Q:Value->Prop}(h:vD x Q):∃a v,x=some a/\a.val=some v/\Q v:=by
 cases x with
 |none=>exact h.elim
 |some a=>
  unfold vD at h;simp only at h;cases hv:a.val with
  |none=>simp[hv]at h
  |some v=>simp only[hv]at h;exact⟨a,v,rfl,hv,h⟩

theorem zj{P:Program}{n ty:Nat}:∀(vs:List Value)(w:World)(cells:List Value)(off i:Nat),w.heap[n]? =some (.cells cells.toArray ty (0,0))->
  off+i+vs.length<=cells.length->(∀v∈vs,dA v=true)->
  ∃w',(storeCells ⟨n,off,none⟩ vs i).run P w= .ok () w'/\dd w w' n ty (setCells cells (off+i) vs):=by
 intro vs;induction vs with
 |nil=>
  intro w cells off i h _ _;exact⟨w,by simp[storeCells],⟨h,fun _ _=>rfl,rfl,rfl,rfl,rfl⟩⟩
 |cons v r ih=>
  intro w cells off i h hl hv;have h1:w.cell? ((⟨n,off,none⟩:Addr).add i)=some (cells[off+i]'(by simp at hl;omega)):=by
   rw[xd h,af (show off+i<cells.length by simp at hl;omega)]
  have h2:w.frozen? ((⟨n,off,none⟩:Addr).add i)=false:=by
   rw[ib];simp[World.frozen?,h]
  have hw:(w.setCell ((⟨n,off,none⟩:Addr).add i) v).heap[n]? =some (.cells (cells.set (off+i) v).toArray ty (0,0)):=by
   rw[ib];simp only[World.setCell,Nq,AM,h];simp
  obtain⟨w',e,a⟩:=ih (w.setCell ((⟨n,off,none⟩:Addr).add i) v) (cells.set (off+i) v) off (i+1) hw (by simp at hl⊢;omega) (fun u hu=>hv u (by simp[hu]));have g:(store ((⟨n,off,none⟩:Addr).add i) v).run P w= .ok () (w.setCell ((⟨n,off,none⟩:Addr).add i) v):=by
   have h3:=hv v sm;cases v<;>first|(simp[dA]at h3;done)|simp[store,Sem.run,h1,h2]
  refine⟨w',by simp[storeCells,Sem.run_bind,g,e],⟨?_,fun k d=> ?_,?_,a.os,a.tape,a.output⟩⟩
  ·have:=a.at_;simpa[setCells,HW]using this
  ·rw[a.rest k d];rw[ib];simp only[World.setCell,Nq];rw[ar (nx d)]
  ·rw[a.size];simp[World.setCell]

theorem dd.ext{B ty n:Nat}{w w':World}{cells a:List Value}{ts:List Nat}(h:dd w w' n ty a)(hB:B<=n)(h0:w.heap[n]? =some (.cells cells.toArray ty (0,0)))(d:ty∈ts):Ext B ts w w':=
 ⟨⟨h.os,h.tape,h.output,by rw[h.size];exact hM _,fun k g=>h.rest k om⟩,fun k g=>by
  by_cases e:k=n
  ·subst e;exact .inr ⟨ty,d,_,_,_,h0,h.at_⟩
  ·exact .inl (h.rest k e)⟩

theorem Ext.trans'{B:Nat}{ts:List Nat}{w w1 a:World}(h:Ext B ts w w1)(k:Ext B ts w1 a):Ext B ts w a:=
 ⟨h.below.trans k.below,fun i hi=>by
  rcases k.other i (jK hi h.below.size)with e|⟨t,d,c1,c2,fr,g,j⟩
  ·rw[e];exact h.other i hi
  ·rcases h.other i hi with l|⟨n,q,d1,d2,m,f1,f2⟩
   ·exact .inr ⟨t,d,c1,c2,fr,by rw[<-l];exact g,j⟩
   ·rw[g]at f2;cases f2;exact .inr ⟨t,d,d1,c2,fr,f1,j⟩⟩

theorem Ht{P:Program}{t:TypeId}{n:Nat}(h:P.cellsOf t=n)(a:known P t=true)(w:World):(sizeOf t).run P w= .ok n w:=by
 obtain⟨d,e⟩:=mA a;rw[run_sizeOf e,h]

theorem Dk:∀{l:List Value},qh l=true->∀v∈l,dA v=true:=by
 intro l;induction l with
 |nil=>intro _ v hv;cases hv
 |cons x r ih=>
  intro h v hv;simp only[qh,eb]at h;rcases fi.1 hv with rfl|hv
  ·exact h.1
  ·exact ih h.2 v hv

theorem vN{P:Program}{t:TypeId}{n ty:Nat}{v:Value}{w:World}{cells:List Value}{off:Nat}(a:known P t=true)(hs:v.cells.toList.length=P.cellsOf t)(d:qh v.cells.toList=true)
  (h:w.heap[n]? =some (.cells cells.toArray ty (0,0))) (hl:off+v.cells.toList.length<=cells.length):
  ∃w',(storeVar t ⟨n,off,none⟩ v).run P w= .ok () w'/\dd w w' n ty (setCells cells off v.cells.toList):=by
 obtain⟨w',h1,h2⟩:=zj (P:=P) (n:=n) (ty:=ty) v.cells.toList w cells off 0 h om (Dk d);refine⟨w',?_,h2⟩;simp only[storeVar,Sem.run_bind,Ht rfl a,Result.andThen_ok];rw[ar (by simpa using hs)];exact h1

theorem mB{a:List qO}{l:Nat}{x:qO}(h:bO a l=some x):x.Om=l:=by
 induction a with
 |nil=>simp[bO]at h
 |cons y r ih=>
  rw[da]at h;split at h
  ·rename_i e;cases h;exact e
  ·exact ih h

theorem Hu{a:List qO}{l:Nat}{x:qO}(h:bO a l=some x):hasType x.ty a=true:=by
 induction a with
 |nil=>simp[bO]at h
 |cons y r ih=>
  rw[da]at h;simp only[hasType];split at h
  ·cases h;simp
  ·cases hb:Nat.beq y.ty x.ty with
   |true=>rfl
   |false=>exact ih h

theorem Dl{dyn q:Bool}(hq:q=true->qQ o=false)(inv:Inv c b st T wa)(h:effect c dyn o st K):By c q b st T o wa K:=by
 unfold effect at h;cases E:o.op<;>simp only[E]at h<;>try exact h.elim
 case alloc t=>
  cases C:o.dst with
  |none=>simp[C]at h
  |some l=>
   cases F:zeroCells c.P t with
   |none=>simp[C,F]at h
   |some cells=>
    simp only[C,F]at h;unfold zeroCells at F;obtain⟨z,R,rfl⟩:=k7.1 F;obtain⟨i,hi,S⟩:=uz.1 R;intro next Q hn
    unfold Oper.wp;have G:(execOp (act T).eval o).run c.P wa= .ok (.value (.pointer (some ⟨wa.heap.size,0,none⟩))) (wa.alloc (.cells z.cells t)):=by
     simp[execOp,E,Instr.alloc,zeroValue,typeInfo,program,Sem.run_bind,Sem.run,hi,S,newVar,newRow,newObj]
    rw[G];refine hn _ _ ⟨_,_,_,h,?_,zi inv l t z.cells.toList,fun _=>xL C (by simp[rF,E]) _ _ _⟩;simp[SV.den]
 case box t x=>
  cases C:o.dst with
  |none=>simp[C]at h
  |some l=>
   simp only[C]at h;obtain⟨sv,v,hv,M,H⟩:=qY h;intro next Q hn
   unfold Oper.wp;have e:=dm inv.env hv;rw[qT M b]at e;have G:(execOp (act T).eval o).run c.P wa= .ok (.value (.pointer (some ⟨wa.heap.size,0,none⟩))) (wa.alloc (.cells v.cells t)):=by
    simp[execOp,E,Instr.box,Sem.run_bind,Sem.run,newVar,newRow,newObj,e]
   rw[G];refine hn _ _ ⟨_,_,_,H,?_,zi inv l t v.cells.toList,fun _=>xL C (by simp[rF,E]) _ _ _⟩;simp[SV.den]
 case store t x y=>
  cases hx:ev st x with
  |none=>simp[hx]at h
  |some sx=>
   have ex:=dm inv.env hx;rw[hx]at h;cases sx with
   |loc l off=>
    simp only at h;cases hb:bO st.boxes l with
    |none=>simp[hb]at h
    |some D=>
     rw[hb]at h;simp only at h;obtain⟨sv,v,hv,M,h⟩:=qY h;have N:=dm inv.env hv;rw[qT M b]at N;split at h
     ·exact h.elim
     ·rename_i A;simp only[eb]at A;obtain⟨⟨⟨c1,c2⟩,c3⟩,c4⟩:=A;have c1:=beq_true c1;have c4:=HX c4;have I:=inv.box.at_ l D hb;obtain⟨w',G,a⟩:=vN (P:=c.P) (t:=t) (v:=v) c2 c1 c3 I.2 c4;intro next Q hn
      unfold Oper.wp;have O:(execOp (act T).eval o).run c.P wa= .ok .skip w':=by
       simp[execOp,E,Instr.storeAt,Instr.sureAddr,Sem.run_bind,ex,N,SV.den,G]
      rw[O];refine hn _ _ ⟨b,.u,_,h,rfl,?_,fun e=>absurd (hq e) (by simp[qQ,E])⟩;have U:=inv.vL;refine⟨inv.size,inv.env,⟨fun m x hm=> ?_,fun m n x y hm GR J=> ?_⟩,inv.lo,?_,fun m x hm L=> ?_,inv.base.trans (a.ext (ts:=[D.ty]) I.1 I.2 sm).below⟩
      ·simp only[da,dH]at hm;by_cases e:l=m
       ·subst e;rw[cc (mB hb)]at hm;cases hm;exact⟨I.1,a.at_⟩
       ·rw[ar (by rw[mB hb];exact e),ar (nx e)]at hm;have:=inv.box.at_ m x hm;exact⟨this.1,by rw[a.rest _ (inv.box.ne m l x D hm hb (nx e))];exact this.2⟩
      ·simp only[da,dH]at hm GR;have hex:∀k z,(if D.Om=k then some {D with cells:=setCells D.cells off v.cells.toList}else if k=l then none else bO st.boxes k)=some z->∃z',bO st.boxes k=some z':=fun k z F=>by
        by_cases e:l=k
        ·subst e;exact⟨D,hb⟩
        ·rw[ar (by rw[mB hb];exact e),ar (nx e)]at F;exact⟨z,F⟩
       obtain⟨x',Cg⟩:=hex m x hm;obtain⟨y',JC⟩:=hex n y GR;exact inv.box.ne m n x' y' Cg JC J
      ·have hB:c.B<=b l:=I.1;cases V:D.new with
       |true=>
        have XN:=inv.new l D hb V;refine⟨U.below.trans (a.ext (ts:=[D.ty]) hB I.2 sm).below,fun k W=> ?_⟩;have W:k<st.w.heap.size:=W;rw[a.rest k om];exact U.other k W
       |false=>
        exact(U.mono fun t ht=>Jb.2 (.inr ht)).trans' (a.ext hB I.2 (Jb.2 (.inl rfl)))
      ·simp only[da,dH]at hm;by_cases e:l=m
       ·subst e;rw[cc (mB hb)]at hm;cases hm;exact inv.new _ D hb L
       ·rw[ar (by rw[mB hb];exact e),ar (nx e)]at hm;exact inv.new m x hm L
   |v u=>
    cases u<;>try exact h.elim
    rename_i q;cases q<;>try exact h.elim
    rename_i ad;simp only at h;obtain⟨sv,v,hv,M,h⟩:=qY h;have N:=dm inv.env hv;rw[qT M b]at N;split at h
    ·exact h.elim
    ·rename_i A;simp only[eb]at A;obtain⟨⟨c1,c2⟩,c3⟩:=A;have c1:=beq_true c1;obtain⟨X,h,r,hw,C,Dm,_⟩:=dJ inv h;obtain⟨cs,ty,hB,Y,h0,hl,Z,H⟩:=h;obtain⟨n,off,sp⟩:=ad;cases Y;rw[hw]at h0;obtain⟨w',G,a⟩:=vN (P:=c.P) (t:=t) (v:=v) c2 c1 c3 h0 hl;intro next Q hn
     unfold Oper.wp;have O:(execOp (act T).eval o).run c.P wa= .ok .skip w':=by
      simp[execOp,E,Instr.storeAt,Instr.sureAddr,Sem.run_bind,ex,N,SV.den,G]
     rw[O];refine hn _ _ ⟨b,.u,_,H w' (by rw[hw];exact a),rfl,?_,fun e=>absurd (hq e) (by simp[qQ,E])⟩;have J:∀m x,bO X.boxes m=some x->b m≠n:=fun m x hm e=>by
      have:=(r.box.at_ m x hm).2;rw[e,h0]at this;cases this;exact absurd (Hu hm) (by rw[Z];simp)
     refine⟨r.size,r.env,⟨fun m x hm=> ?_,r.box.ne⟩,?_,?_,fun m x hm L=> ?_,r.base.trans (a.ext (ts:=[ty]) hB h0 sm).below⟩
     ·have:=r.box.at_ m x hm;exact⟨this.1,by rw[a.rest _ (J m x hm)];exact this.2⟩
     ·show c.B<=w'.heap.size;rw[a.size];exact hw▸r.lo
     ·simp only[C]
     ·exfalso;have h1:=r.new m x hm L;have h2:=(bU.1 (r.box.at_ m x hm).2).1;rw[hw]at h1;omega
   |_=>exact h.elim
 case call cl=>
  cases EP:cl.callee with
  |value x=>
   simp only[EP]at h;split at h
   ·rename_i g first cap vs hx UR
    have ex:=dm inv.env hx;have ER:=yC inv.env UR;have eR:bc c.P g=true/\iA c.B st fun st=>Pure c.P g (first.toList++vs++cap.toList).toArray st.w fun v w1=>
      OM (sh c.P o.type) fun x=>v=x/\K (.v x) {env:=st.env,boxes:=yT st.boxes,w:=w1,d:=none}:=by
     unfold yy at h;cases dyn with
     |true=>exact h
     |false=>
      simp only at h;cases A:bc c.P g with
      |false=>rw[A]at h;exact h.elim
      |true=>rw[A]at h;exact⟨rfl,h⟩
    obtain⟨A,h⟩:=eR;obtain⟨X,h,r,hw,C,Dm,oJ⟩:=dJ inv h;intro next Q hn
    unfold Oper.wp;have O:(execOp (act T).eval o).run c.P wa= .ok (.enter g (first.toList++vs++cap.toList).toArray) wa:=by
     have e1:(first++cl.args.map (act T).eval)++cap=(first.toList++vs++cap.toList).toArray:=by
      apply Md;simp[<-ER]
     unfold bc at A;cases hf:c.P.funcs[g]? with
     |none=>simp[hf]at A
     |some fn=>
      cases hb:fn.body with
      |none=>simp[hf,hb]at A
      |some bd=>
       simp only[hf,hb]at A
       have hn : fn.name ≠ "runtime.NumGoroutine" := by
        intro e;simp[e]at A
       simp only[execOp,E,Sem.run_bind,resolve,EP,ex,SV.den,Deferred.ofValue,Sem.run_pure,Result.andThen_ok,invoke,e1];simp[callFunc,program,Sem.run_bind,Sem.run,hf,hb,hn]
    rw[O,Oper.upon_enter];rw[hw]at h;refine Calls.mono h fun e w'' he=> ?_
    obtain⟨v,rfl,j,H⟩:=he;obtain⟨y,rfl,H⟩:=xf H;refine hn _ _ ⟨b,_,_,H,rfl,?_,fun _=>(oJ.yT).kept _ _ _ _ j.size j.block⟩;have vO:=r.lo;rw[hw]at vO;refine⟨r.size,r.env,rX.yT (st:={X with w:=w''}) ⟨fun m x hm=> ?_,r.box.ne⟩,ga vO j.size,rfl,fun m x hm L=> ?_,r.base.trans (j.mono vO)⟩
    ·have:=r.box.at_ m x hm;refine⟨this.1,?_⟩;rw[j.block _ (bU.1 this.2).1];exact this.2
    ·rw[tu hm]at L;cases L
   ·exact h.elim
  |_=>simp[EP]at h
end
section
variable {c:Cx} {b:Nat->Nat} {st:St} {T:Array Value} {wa:World} {o:Oper} {K:SV->St->Prop}

theorem fk{x:Operand}{v:Value}(he:po b st.env T)(h:(ev st x).bind SV.val=some v):(act T).eval x=v:=by
 obtain⟨a,h1,h2⟩:=uz.1 h;rw[dm he h1,qT h2 b]

theorem Hv(he:po b st.env T):∀{l:List (Nat×Operand)} {vs:List (Nat×Value)},parts st l=some vs->l.map (fun p=>(p.1,(act T).eval p.2))=vs:=by
 intro l;induction l with
 |nil=>intro vs h;simp only[parts]at h;cases h;rfl
 |cons p r ih=>
  intro vs h;obtain⟨i,x⟩:=p;simp only[parts]at h;cases hx:(ev st x).bind SV.val with
  |none=>simp[hx]at h
  |some v=>
   cases a:parts st r with
   |none=>simp[hx,a]at h
   |some ws=>
    simp only[hx,a]at h;cases h;simp[ih a,fk he hx]

theorem xM(he:po b st.env T){s:Sem Value}(h:qi st o=some s):execOp (act T).eval o=(do pure (.value (<-s))):=by
 unfold qi at h;cases j:o.op<;>simp only[j]at h<;>try (cases h;done)
 case call cl=>
  cases q:cl.callee with
  |builtin bi=>
   cases hv:On st cl.args.toList with
   |none=>cases bi<;>simp[q,hv]at h
   |some vs=>
    have e:=yC he hv;have w:cl.args.map (act T).eval=vs.toArray:=by apply Md;simp[e]
    cases bi<;>simp only[q,hv]at h<;>try (cases h;done)
    ·cases h;simp[execOp,j,resolve,q,w,invoke,builtin]
    ·cases h;simp[execOp,j,resolve,q,w,invoke,builtin]
    ·cases h;simp[execOp,j,resolve,q,w,invoke,builtin]
  |_=>simp[q]at h
 case buildSlice t n ps=>
  cases hp:parts st ps.toList with
  |none=>simp[hp]at h
  |some l=>
   rw[hp]at h;cases h;have e:=Hv he hp;have w:(ps.map fun(i,x)=>(i,(act T).eval x))=l.toArray:=by apply Md;simp[<-e]
   simp[execOp,j,w]
 case makeSlice t l k=>
  cases hl:(ev st l).bind SV.val with
  |none=>simp[hl]at h
  |some a=>
   cases g:(ev st k).bind SV.val with
   |none=>simp[hl,g]at h
   |some d=>
    simp only[hl,g]at h;cases h;simp[execOp,j,fk he hl,fk he g]
 case convert src dst x=>
  cases hx:(ev st x).bind SV.val with
  |none=>simp[hx]at h
  |some a=>simp only[hx]at h;cases h;simp[execOp,j,fk he hx]
 case index t l k=>
  cases hl:(ev st l).bind SV.val with
  |none=>simp[hl]at h
  |some a=>
   cases g:(ev st k).bind SV.val with
   |none=>simp[hl,g]at h
   |some d=>
    simp only[hl,g]at h;cases h;simp[execOp,j,fk he hl,fk he g]
 case lookup t l k ok=>
  cases hl:(ev st l).bind SV.val with
  |none=>simp[hl]at h
  |some a=>
   cases g:(ev st k).bind SV.val with
   |none=>simp[hl,g]at h
   |some d=>
    simp only[hl,g]at h;cases h;simp[execOp,j,fk he hl,fk he g]
 case slice t x lo hi mx=>
  cases lo with
  |none=>simp at h
  |some l=>
   cases hi with
   |none=>simp at h
   |some k=>
    cases mx with
    |none=>simp at h
    |some m=>
     simp only at h;cases hx:(ev st x).bind SV.val with
     |none=>simp[hx]at h
     |some a=>
      cases hl:(ev st l).bind SV.val with
      |none=>simp[hx,hl]at h
      |some b1=>
       cases g:(ev st k).bind SV.val with
       |none=>simp[hx,hl,g]at h
       |some d=>
        cases hm:(ev st m).bind SV.val with
        |none=>simp[hx,hl,g,hm]at h
        |some e=>
         simp only[hx,hl,g,hm]at h;cases h;simp[execOp,j,fk he hx,fk he hl,fk he g,fk he hm]
 case binOp op t l k pos=>
  cases op<;>simp only at h<;>try (cases h;done)
  cases hl:(ev st l).bind SV.val with
  |none=>simp[hl]at h
  |some a=>
   cases g:(ev st k).bind SV.val with
   |none=>simp[hl,g]at h
   |some d=>
    simp only[hl,g]at h;cases h;simp[execOp,j,fk he hl,fk he g,eqGuard]
 case makeMap t r=>
  cases r with
  |none=>simp only at h;cases h;simp[execOp,j]
  |some x=>
   simp only at h;cases hx:(ev st x).bind SV.val with
   |none=>simp[hx]at h
   |some a=>simp only[hx]at h;cases h;simp[execOp,j,fk he hx]

theorem qZ{a:List qO}{l:Nat}{x:qO}(h:bO a l=some x):x.ty∈oG a:=by
 induction a with
 |nil=>simp[bO]at h
 |cons y r ih=>
  rw[da]at h;simp only[oG];split at h
  ·cases h;simp
  ·simp[ih h]

theorem xg{j a:St}{v:Value}{w1:World}(d:Inv c b a T wa)(hw:a.w=wa)
  (g:Below c.B a.w w1) (k9:a.w.heap.size<=w1.heap.size)
  (l:∀(k ty:Nat)(cs:Array Value),ty∈oG a.boxes->a.w.heap[k]? =some (.cells cs ty (0,0))->w1.heap[k]? =a.w.heap[k]?)
  (h:behind c.P o.type a K v w1):LA c false o b j wa T K v w1:=by
 obtain⟨y,rfl,h⟩:=xf h;refine⟨b,_,_,h,rfl,?_,fun e=>by cases e⟩;refine⟨d.size,d.env,rX.yT (st:={a with w:=w1}) ⟨fun m x hm=> ?_,d.box.ne⟩,ga d.lo k9,rfl,fun m x hm i=> ?_,d.base.trans (hw▸g)⟩
 ·have:=d.box.at_ m x hm;refine⟨this.1,?_⟩;rw[<-hw]at this;rw[l _ _ _ (qZ hm) this.2];exact this.2
 ·rw[tu hm]at i;cases i

theorem uc{t:TypeId}{m k x:Operand}(g:o.op= .mapUpdate t m k x∨o.op= .insert t m k x)(inv:Inv c b st T wa)(h:yz c t m k x st K):By c false b st T o wa K:=by
 unfold yz at h;intro next Q hn
 split at h
 ·rename_i z A B ha j he;obtain⟨l,h,a,hw,C,D,_⟩:=dJ inv h;obtain⟨w1,n,d,k9,q,r⟩:=h;unfold Oper.wp;have y:(execOp (act T).eval o).run c.P wa= .ok .skip w1:=by
   rw[<-hw];rcases g with g|g<;>simp[execOp,g,fk inv.env ha,fk inv.env j,fk inv.env he,Sem.run_bind,n]
  rw[y];refine hn _ _ ⟨b,.u,_,r,rfl,?_,fun e=>by cases e⟩;refine⟨a.size,a.env,rX.yT (st:={l with w:=w1}) ⟨fun m x hm=> ?_,a.box.ne⟩,ga a.lo k9,rfl,fun m x hm i=> ?_,a.base.trans (hw▸d)⟩
  ·have:=a.box.at_ m x hm;refine⟨this.1,?_⟩;rw[<-hw]at this;rw[q _ _ _ (qZ hm) this.2];exact this.2
  ·rw[tu hm]at i;cases i
 ·exact h.elim

theorem xN{s:Sem Value}(j:execOp (act T).eval o=(do pure (.value (<-s))))(inv:Inv c b st T wa)(h:newAt c s st K):By c false b st T o wa K:=by
 unfold newAt at h;intro next Q hn
 obtain⟨k,h,d,hw,y,z,_⟩:=dJ inv h;obtain⟨v,w1,l,g,k9,n,a,rfl,q⟩:=h;unfold Oper.wp;have r:(execOp (act T).eval o).run c.P wa= .ok (.value (.pointer (some a))) w1:=by
  rw[j,<-hw];simp[Sem.run_bind,l]
 rw[r];refine hn _ _ ⟨b,_,_,q,rfl,?_,fun e=>by cases e⟩;refine⟨d.size,d.env,rX.yT (st:={k with w:=w1}) ⟨fun m x hm=> ?_,d.box.ne⟩,ga d.lo k9,rfl,fun m x hm i=> ?_,d.base.trans (hw▸g)⟩
 ·have:=d.box.at_ m x hm;refine⟨this.1,?_⟩;rw[<-hw]at this;rw[n _ _ _ (qZ hm) this.2];exact this.2
 ·rw[tu hm]at i;cases i

theorem ES(inv:Inv c b st T wa)(h:Lr c o st K):By c false b st T o wa K:=by
 unfold Lr at h;intro next Q hn
 cases hs:qi st o with
 |some s=>
  rw[hs]at h;obtain⟨w,h,i,hw,y,z,_⟩:=dJ inv h;obtain⟨v,w1,j,d,k9,l,n⟩:=h;unfold Oper.wp;have q:(execOp (act T).eval o).run c.P wa= .ok (.value v) w1:=by
   rw[xM inv.env hs,<-hw];simp[Sem.run_bind,j]
  rw[q];exact hn _ _ (xg i hw d k9 l n)
 |none=>
  rw[hs]at h;cases e:o.op<;>simp only[e]at h<;>try exact h.elim
  case mapUpdate t m k x=>exact uc (.inl e) inv h next Q hn
  case insert t m k x=>exact uc (.inr e) inv h next Q hn
  case alloc t=>exact xN (by simp[execOp,e]) inv h next Q hn
  case box t x=>
   cases hx:(ev st x).bind SV.val with
   |none=>simp[hx]at h
   |some a=>rw[hx]at h;exact xN (by simp[execOp,e,fk inv.env hx]) inv h next Q hn
  rename_i cl;cases r:cl.callee with
  |value x=>
   simp only[r]at h;split at h
   ·rename_i g first cap vs hx A
    have ex:=dm inv.env hx;have B:=yC inv.env A;obtain⟨w,h,i,hw,y,z,_⟩:=dJ inv h;obtain⟨v,w1,j,d,k9,l,n⟩:=h;unfold Oper.wp;have C:(first++cl.args.map (act T).eval)++cap=(first.toList++vs++cap.toList).toArray:=by
     apply Md;simp[<-B]
    have q:(execOp (act T).eval o).run c.P wa= .ok (.value v) w1:=by
     rw[<-hw];simp only[execOp,e,Sem.run_bind,resolve,r,ex,SV.den,Deferred.ofValue,Sem.run_pure,Result.andThen_ok,invoke,C,j]
    rw[q];exact hn _ _ (xg i hw d k9 l n)
   ·exact h.elim
  |_=>simp[r]at h

theorem Dn{q:Bool}(inv:Inv c b st T wa)(h:Hl c o st K):By c q b st T o wa K:=by
 unfold Hl at h;intro next Q hn
 cases hs:qi st o with
 |none=>rw[hs]at h;exact h.elim
 |some s=>
  rw[hs]at h;obtain⟨g,h,d,hw,r,z,j⟩:=dJ inv h;obtain⟨v,w1,k,a,k9,l,e⟩:=h;unfold Oper.wp;have n:(execOp (act T).eval o).run c.P wa= .ok (.value v) w1:=by
   rw[xM inv.env hs,<-hw];simp[Sem.run_bind,k]
  rw[n];have hb:Below c.B g.w w1:=a.mono d.lo;obtain⟨y,hv,e⟩:=xf e;subst hv;refine hn _ _ ⟨b,_,_,e,rfl,?_,fun _=> ?_⟩
  ·refine⟨d.size,d.env,rX.yT (st:={g with w:=w1}) ⟨fun m x hm=> ?_,d.box.ne⟩,ga d.lo k9,rfl,fun m x hm i=> ?_,d.base.trans (hw▸hb)⟩
   ·have:=d.box.at_ m x hm;refine⟨this.1,?_⟩;rw[<-hw]at this;rw[l _ _ _ (qZ hm) this.2];exact this.2
   ·rw[tu hm]at i;cases i
  ·rw[hw]at a;exact(j.yT).kept _ _ _ _ a.size a.block

theorem vQ{dyn:Bool}(inv:Inv c b st T wa)(h:qP dyn c o st K):By c false b st T o wa K:=by
 unfold qP at h;intro next Q hn
 cases j:o.op<;>simp only[j]at h<;>try exact h.elim
 rename_i cl;cases i:cl.callee with
 |value x=>
  simp only[i]at h;split at h
  ·rename_i g first cap vs hx l
   have ex:=dm inv.env hx;have m:=yC inv.env l;have eR:bc c.P g=true/\iA c.B st fun st=>dZ c.P g (first.toList++vs++cap.toList).toArray c.B st.w fun v w1=>
     (∀(k ty:Nat)(cs:Array Value),ty∈oG st.boxes->st.w.heap[k]? =some (.cells cs ty (0,0))->w1.heap[k]? =st.w.heap[k]?)/\behind c.P o.type st K v w1:=by
    unfold yy at h;cases dyn with
    |true=>exact h
    |false=>
     simp only at h;cases a:bc c.P g with
     |false=>rw[a]at h;exact h.elim
     |true=>rw[a]at h;exact⟨rfl,h⟩
   obtain⟨a,h⟩:=eR
   ·obtain⟨C,h,n,hw,D,E,_⟩:=dJ inv h;unfold Oper.wp;have q:(execOp (act T).eval o).run c.P wa= .ok (.enter g (first.toList++vs++cap.toList).toArray) wa:=by
     have r:(first++cl.args.map (act T).eval)++cap=(first.toList++vs++cap.toList).toArray:=by
      apply Md;simp[<-m]
     unfold bc at a;cases hf:c.P.funcs[g]? with
     |none=>simp[hf]at a
     |some fn=>
      cases hb:fn.body with
      |none=>simp[hf,hb]at a
      |some F=>
       simp only[hf,hb]at a
       have hn : fn.name ≠ "runtime.NumGoroutine" := by
        intro e;simp[e]at a
       simp only[execOp,j,Sem.run_bind,resolve,i,ex,SV.den,Deferred.ofValue,Sem.run_pure,Result.andThen_ok,invoke,r];simp[callFunc,program,Sem.run_bind,Sem.run,hf,hb,hn]
    rw[q,Oper.upon_enter];rw[hw]at h;refine Calls.mono h fun e y he=> ?_
    obtain⟨v,rfl,d,z,A⟩:=he;exact hn _ _ (xg n hw (by rw[hw];exact d) (by rw[hw];exact d.size) (by rw[hw];exact z) A)
  ·exact h.elim
 |_=>simp[i]at h

theorem pL{m:Nat}{q:Bool}(d:q=true->qQ o=false)(hs:∀cs q,o.op≠ .select cs q)(inv:Inv c b st T wa)(h:vG c m o st K):By c q b st T o wa K:=by
 unfold vG at h;cases he:EK o.op with
 |true=>rw[he]at h;exact Dl d inv h
 |false=>
  rw[he]at h;simp only at h;have gen:∀{raw},value c raw none none o st (fun x=>K x st)->By c q b st T o wa K:=fun hv=>
   ub inv (Same.refl _) (yY.LB (lw:=none) inv (fun v hv=>by cases hv)) (pv (fun _ _ h=>h) inv.env hs hv)
  split at h
  ·split at h
   ·obtain⟨e,h,a,hw,_,_,g⟩:=dJ inv h;exact ub a g (yY.LB (lw:=some e.w) a (fun v hv=>by cases hv;exact hw)) (pv (fun _ _ h=>h) a.env hs h)
   ·exact gen h
  ·exact gen h

theorem xO{D i:Nat}(hs:∀cs q,o.op≠ .select cs q)(inv:Inv c b st T wa)(h:Ls c D i o st K):By c (iJ (fj c.mode D i) o) b st T o wa K:=by
 unfold Ls at h;unfold iJ;split at h
 ·rename_i e;rw[e];exact ES inv h
 ·rename_i e;rw[e];exact vQ inv h
 ·rename_i e;rw[e];exact vQ inv h
 ·rename_i e;rw[e];obtain⟨E,h,g,j⟩:=Bx _ _ inv h;intro next Q hn
  refine pL (q:= !qQ o) (fun e=>by simpa using e) hs g h next Q fun v w' ⟨k,x,m,h1,h2,h3,h4⟩=>hn v w' ⟨k,x,m,h1,h2,h3,fun e=> ?_⟩
  obtain⟨n,r,a⟩:=h4 e;exact⟨n,r,fun l hl=>⟨(a l hl).1,fun w A=>by
   obtain⟨y,hy,B,d⟩:=(a l hl).2 w A;obtain⟨z,C,f1,f2⟩:=j l y hy;exact⟨z,C,f1.trans B,f2.trans d⟩⟩⟩
 ·rename_i e;rw[e];obtain⟨E,h,g,j⟩:=zh _ _ inv h;intro next Q hn
  refine pL (q:= !qQ o) (fun e=>by simpa using e) hs g h next Q fun v w' ⟨k,x,m,h1,h2,h3,h4⟩=>hn v w' ⟨k,x,m,h1,h2,h3,fun e=> ?_⟩
  obtain⟨n,r,a⟩:=h4 e;exact⟨n,r,fun l hl=>⟨(a l hl).1,fun w A=>by
   obtain⟨y,hy,B,d⟩:=(a l hl).2 w A;obtain⟨z,C,f1,f2⟩:=j l y hy;exact⟨z,C,f1.trans B,f2.trans d⟩⟩⟩
 ·exact Dn inv h
 ·rename_i d F G I H J;split
  ·rename_i e;exact absurd e d
  ·rename_i e;exact absurd e F
  ·rename_i e;exact absurd e G
  ·exact pL (fun e=>by simpa using e) hs inv h

theorem lj{dst:Option Tmp}{x:SV}{v:Value}{K:St->Prop}(inv:Inv c b st T wa)(hv:v=x.den b)(h:put c.N st dst x K):
  ∃a,K a/\Inv c b a ((act T).put dst v).tmps wa/\(act T).put dst v=act ((act T).put dst v).tmps/\a.boxes=st.boxes:=by
 unfold put at h;cases dst with
 |none=>exact⟨st,h,inv,rfl,rfl⟩
 |some s=>
  simp only at h;cases hl:Nat.blt s c.N with
  |false=>rw[hl]at h;exact h.elim
  |true=>
   rw[hl]at h;have d:s<c.N:=by simpa[QH]using hl
   refine⟨_,h,⟨?_,fun t y hy=> ?_,inv.box,inv.lo,inv.ext,inv.new,inv.base⟩,rfl,rfl⟩
   ·simp[Act.put,act,inv.size]
   ·simp only[ia,oI]at hy;simp only[Act.put,act];have g:=inv.size;by_cases e:s=t
    ·subst e;simp only[AM]at hy;cases hy;rw[Jc (Nat.lt_of_lt_of_eq d g.symm),hv]
    ·rw[ar e,ar (nx e)]at hy;rw[ym e];exact inv.env t y hy

theorem Hw(he:po b st.env T){ops:Array Oper}{j s:Nat}{x:SV}(hj:(ops.toList[j]?).bind (·.dst)=some s)(hx:get st.env s=some x):
  yielded ops T j=match x.den b with| .bool t=>some t|_=>none:=by
 have e:(ops[j]?).bind (·.dst)=some s:=by simpa using hj
 unfold yielded;rw[e];simp[he s x hx];cases x.den b<;>rfl

theorem ET{s:Nat}{x:SV}{t:Bool}(inv:Inv c b st T wa)(hx:get st.env s=some x)(a:x.den b= .bool t):Inv c b (yB st s t) T wa:=by
 refine⟨inv.size,fun m y hy=> ?_,inv.box,inv.lo,inv.ext,inv.new,inv.base⟩;simp only[yB,ia,oI]at hy;by_cases e:s=m
 ·subst e;simp only[AM]at hy;cases hy;rw[inv.env s x hx,a];cases t<;>rfl
 ·rw[ar e,ar (nx e)]at hy;exact inv.env m y hy

theorem nr{ops:Array Oper}{K:Bool->St->Prop}(inv:Inv c b st T wa)(h:guarded ops o st K):
  ∃a,K (Region.wanted o (yielded ops T)) a/\Inv c b a T wa/\a.boxes=st.boxes:=by
 unfold guarded at h;unfold Region.wanted;cases d:o.guard with
 |none=>rw[d]at h;exact⟨st,h,inv,rfl⟩
 |some g=>
  obtain⟨j,want⟩:=g;rw[d]at h;simp only at h⊢;cases hj:(ops.toList[j]?).bind (·.dst)with
  |none=>rw[hj]at h;exact h.elim
  |some s=>
   rw[hj]at h;simp only at h;cases hx:get st.env s with
   |none=>rw[hx]at h;exact h.elim
   |some x=>
    rw[hx]at h;have hy:=Hw inv.env hj hx;have gen:(xb x fun t=>K (Cb t want) (yB st s t))->∃a,K (yielded ops T j==some want) a/\Inv c b a T wa/\a.boxes=st.boxes:=fun h=>by
     obtain⟨t,e,h⟩:=qU (b:=b) h;rw[e]at hy;refine⟨_,?_,ET inv hx e,rfl⟩;rw[hy];cases t<;>cases want<;>exact h
    cases x with
    |u=>
     simp only at h;refine⟨st,?_,inv,rfl⟩;rw[hy];cases want<;>exact h
    |_=>exact gen h

theorem Hy{q:Bool}{b0:Nat->Nat}{a:St}{d:Act->World->Prop}{K:St->Prop}{v:Value}{w':World}
  (h:LA c q o b0 a wa T (fun x st=>put c.N st o.dst x K) v w') (hn:∀b st g w',K st->Inv c b st g w'->(q=true->Kept o b0 a wa b st w')->d (act g) w'):d ((act T).put o.dst v) w':=by
 obtain⟨z,x,A,hp,hv,i,j⟩:=h;obtain⟨B,k,m,e,hb⟩:=lj i hv hp;rw[e];exact hn _ _ _ _ k m fun n=>by
  obtain⟨r,w,y⟩:=j n;exact⟨r,w,fun l hl=>by rw[hb];exact y l hl⟩

theorem se{k i:Nat}{ops:Array Oper}{Q:Exit->Act->World->Prop}{m:Act->World->Prop}{K:St->Prop}(hs:∀cs q,o.op≠ .select cs q)(inv:Inv c b st T wa)(h:xI c k ops i o st K)
  (hi:ops[i]? =some o) (hn:∀a d g w',K d->Inv c a d g w'->(iJ (fj c.mode k i) o=true->Kept o b st wa a d w')->m (act g) w'):wpOp c.P ops Q i m (act T) wa:=by
 unfold xI at h;obtain⟨d,h,n,r⟩:=nr inv h;unfold wpOp;simp only[hi];have y:yielded ops (act T).tmps=yielded ops T:=rfl;rw[y];cases hw:Region.wanted o (yielded ops T)with
 |true=>
  rw[hw]at h;simp only[AM];exact .inl (xO hs n h _ _ fun v w' ha=>Hy ha fun a w g j h1 h2 h3=>hn a w g j h1 h2 fun z=>by
   obtain⟨A,B,C⟩:=h3 z;exact⟨A,B,fun l hl=>by rw[<-r];exact C l hl⟩)
 |false=>
  rw[hw]at h;simp only[zy,tm];obtain⟨w,D,E,e,hb⟩:=lj n (v:=undef) rfl h;rw[e];exact hn _ _ _ _ D E fun _=>Same.kept (fun l x hx=>by rw[hb,r]at hx;exact⟨x,hx,rfl,rfl⟩) _ _ _ _ lf fun _ _=>rfl

theorem Dp{d:Nat}{ops:Array Oper}{Q:Exit->Act->World->Prop}{K:St->Prop}(e:∀b st a w',K st->Inv c b st a w'->Q .normal (act a) w')(g:∀(j:Nat) o cs q,ops[j]? =some o->o.op≠ .select cs q):
  ∀(l:List Oper)(i:Nat),(∀k,l[k]? =ops[i+k]?)->∀(b:Nat->Nat)(st:St)(T:Array Value)(wa:World),Inv c b st T wa->De c d ops i l st K->wpOps c.P ops Q (List.range' i l.length) (act T) wa:=by
 intro l;induction l with
 |nil=>
  intro i _ b st T wa inv h;simp only[ot,List.range'_zero,wpOps];exact e _ _ _ _ h inv
 |cons o r ih=>
  intro i hl b st T wa inv h;simp only[De]at h;have hi:ops[i]? =some o:=by simpa using(hl 0).symm
  simp only[gw,List.range'_succ];rw[wpOps_cons];exact se (fun cs q=>g i o cs q hi) inv h hi fun b st a w' m n _=>
   ih (i+1) (fun k=>by have:=hl (k+1);simpa[HW,M3 1 k]using this) b st a w' n m
end
end Go.Proofs.YtgfkeadgjkfomaaGreatDoor.Vc
