/- Part 1 of the proofs that: The state of a record that was written and recovered is that of its events. -/
import Derived.WalkKit
import Derived.OrdersHeld
import Derived.Below
import Derived.Laws.Entries
set_option linter.unusedVariables false
set_option linter.unusedSimpArgs false
namespace Go.Proofs.YtmdphpnaipbfjaaGreatDoor
open Go Go.RowKit
theorem om{p:Prop}(h:p:=by omega):p:=h
theorem dc{p:Prop}(h:p:=by decide):p:=h
theorem sm{p:Prop}(h:p:=by simp):p:=h
theorem kF{p:Prop}(h:p:=by kernel_rfl):p:=h
theorem gD{p:Prop}(h:p:=by grind):p:=h
theorem lf{n:Nat}:n<=n:=Nat.le_refl n
theorem sc(n:Nat):(n:Int)+1=((n+1:Nat):Int):=by omega
abbrev af:= @List.getElem?_eq_getElem
abbrev aq:= @if_neg
abbrev ax:= @Array.getElem?_eq_some_iff
abbrev bm:= @if_pos
abbrev bx:= @List.getElem_mem
abbrev bB:= @Decidable.byContradiction
abbrev ca:= @congrArg
abbrev cb:= @List.mem_cons
abbrev cc:= @List.take_of_length_le
abbrev cd:= @Int.toNat_natCast
abbrev cy:= @List.drop_eq_getElem_cons
abbrev cz:= @List.getD_eq_getElem?_getD
abbrev dd:= @List.drop_eq_nil_of_le
abbrev de:= @Bool.and_eq_true
abbrev dp:= @List.length_append
abbrev dT:= @Decidable.not_not
abbrev eb:= @List.mem_singleton
abbrev ec:= @Nat.le_trans
abbrev eh:= @List.map_append
abbrev ek:= @List.getElem?_eq_some_iff
abbrev en:= @List.length_map
abbrev ep:= @List.length_take
abbrev ew:= @List.length_cons
abbrev eH:= @List.not_mem_nil
abbrev eL:= @decide_eq_false
abbrev eR:= @List.eq_nil_of_length_eq_zero
abbrev eU:= @ByteArray.size_append
abbrev fi:= @List.append_assoc
abbrev fs:= @of_decide_eq_true
abbrev fJ:= @List.mem_append
abbrev ga:= @Nat.le_refl
abbrev gb:= @Nat.pow_le_pow_right
abbrev gr:= @List.mem_of_getElem?
abbrev gu:= @List.all_eq_true
abbrev gv:= @List.take_add_one
abbrev hJ:= @Nat.mul_le_mul_right
abbrev hM:= @decide_eq_true
abbrev hN:= @List.getElem?_append_left
abbrev hP:= @List.take_succ_eq_append_getElem
abbrev iu:= @List.mem_map
abbrev iv:= @List.take_append_drop
abbrev iw:= @List.getElem?_eq_none
abbrev iB:= @List.getElem?_append_right
abbrev jv:= @Nat.min_eq_left
abbrev kc:= @Nat.mul_le_mul_left
abbrev kh:= @of_decide_eq_false
abbrev kl:= @decide_eq_true_eq
abbrev ky:= @decide_eq_decide
abbrev k7:= @List.getElem?_take
abbrev mC:= @Nat.zero_add
abbrev ob:= @Nat.pow_succ
abbrev oe:= @List.mem_of_mem_take
abbrev oi:= @Nat.mul_le_mul
abbrev oj:= @List.getElem?_drop
abbrev ow:= @List.getElem?_map
abbrev oP:= @or_false
abbrev pe:= @List.length_singleton
abbrev pP:= @Nat.mul_add
abbrev qh:= @Nat.add_mul
abbrev ri:= @Array.length_toList
abbrev tu:= @List.findIdx?_eq_some_iff_getElem
abbrev ub:= @Ne.symm
abbrev uv:= @List.any_eq_true
abbrev uB:= @Nat.lt_of_lt_of_le
abbrev uQ:= @Nat.lt_of_le_of_lt
abbrev u0:= @List.nil_append
abbrev u1:= @List.flatten_append
abbrev u6:= @List.length_eq_one_iff
abbrev va:= @Option.map_eq_some_iff
abbrev vd:= @forall_eq_or_imp
abbrev ve:= @Bool.not_eq_false
abbrev vi:= @List.take_append_of_le_length
abbrev vu:= @List.getLast?_eq_getElem?
abbrev vv:= @List.cons_append
abbrev vB:= @List.append_nil
abbrev wo:= @List.length_drop
abbrev wR:= @List.flatten_cons
abbrev wV:= @Int.natAbs_natCast
abbrev xt:= @Option.bind_eq_some_iff
abbrev xJ:= @List.flatMap_cons
abbrev xK:= @Nat.add_zero
abbrev xO:= @Array.getElem?_eq_none
abbrev ya:= @Bool.eq_iff_iff
abbrev za:= @List.length_nil
abbrev zi:= @Bool.true_and
abbrev zk:= @List.length_pos_iff
abbrev zI:= @List.any_eq_false
abbrev Ao:= @Nat.le_mul_of_pos_right
abbrev AY:= @List.drop_zero
abbrev Be:= @List.mem_of_mem_drop
abbrev BA:= @List.mem_iff_getElem
abbrev BC:= @List.sum_cons
abbrev BD:= @List.length_set
abbrev B2:= @List.getElem?_set_self
abbrev B4:= @List.set_append_right
abbrev B5:= @if_false
abbrev B6:= @List.all_cons
abbrev CM:= @List.dropLast_concat_getLast
abbrev Dv:= @List.length_eq_zero_iff
abbrev DM:= @List.map_cons
abbrev DO:= @List.map_take
abbrev DS:= @Nat.mul_comm
abbrev Es:= @List.ext_getElem?
abbrev Eu:= @List.size_toArray
abbrev EL:= @Int.natAbs_mul
abbrev FI:= @List.take_zero
abbrev FL:= @Option.ne_none_iff_exists'
abbrev GR:= @List.mem_filter
abbrev GX:= @List.range_succ
abbrev Hc:= @Option.some.inj
abbrev Hm:= @Array.getElem?_setIfInBounds_ne
abbrev Ib:= @List.eq_nil_iff_forall_not_mem
abbrev IE:= @List.pairwise_cons
abbrev IK:= @List.map_set
abbrev Jb:= @List.eq_of_mem_replicate
abbrev Jm:= @Nat.mul_one
abbrev Jr:= @List.drop_append_of_le_length
abbrev Js:= @List.mem_cons_of_mem
abbrev JK:= @List.mem_range
abbrev JS:= @if_true
abbrev JT:= @Option.some.injEq
abbrev KI:= @forall_eq
abbrev KJ:= @List.nodup_cons
abbrev KM:= @Nat.div_add_mod
abbrev KO:= @Nat.mod_eq_of_lt
abbrev KT:= @List.take_length
abbrev Ll:= @Bool.false_eq_true
abbrev Lu:= @Bool.false_and
abbrev Lx:= @Option.toList_some
abbrev LA:= @Array.mem_of_getElem?
abbrev LY:= @List.mem_or_eq_of_mem_set
abbrev Mf:= @List.findIdx?_eq_none_iff
abbrev My:= @Bool.or_eq_true
abbrev Mz:= @Nat.div_le_self
abbrev MA:= @Bool.not_eq_true'
abbrev MB:= @Nat.lt_or_ge
abbrev MC:= @Bool.eq_false_iff
abbrev MD:= @Option.isSome_iff_exists
abbrev ME:= @Nat.add_assoc
abbrev MF:= @Bool.false_or
abbrev MH:= @List.getLast?_eq_some_getLast
abbrev M9:= @Nat.add_comm
abbrev NB:= @Nat.mod_lt
abbrev NW:= @Nat.sub_self
abbrev NZ:= @List.set_cons_zero
abbrev Oa:= @List.filter_append
abbrev Od:= @Array.getElem?_setIfInBounds
abbrev Ow:= @List.length_zip
abbrev Ox:= @Nat.le_of_ble_eq_true
abbrev Oz:= @Array.getElem?_setIfInBounds_self_of_lt
abbrev OC:= @Int.tdiv_eq_ediv_of_nonneg
abbrev Pl:= @Int.tmod_eq_emod_of_nonneg
abbrev Pv:= @Array.getElem?_append_left
abbrev PR:= @Array.size_replicate
abbrev Qu:= @List.getElem?_set_ne
abbrev Qw:= @Int.sign_eq_neg_one_of_neg
abbrev Qx:= @List.pairwise_append
abbrev Qy:= @List.flatMap_nil
abbrev QB:= @List.map_nil
abbrev QE:= @Option.bind_some
abbrev QF:= @List.mem_flatten
abbrev QH:= @List.replicate_succ
abbrev QJ:= @Int.toNat_of_nonneg
abbrev QK:= @List.flatMap_append
abbrev QL:= @List.mem_map_of_mem
abbrev QY:= @Nat.pow_lt_pow_iff_right
abbrev Rq:= @Array.ext'
abbrev RB:= @List.mem_cons_self
abbrev RQ:= @Int.eq_ofNat_of_zero_le
abbrev R0:= @List.getElem?_replicate
abbrev Sp:= @Nat.pow_pos
abbrev SB:= @List.filter_cons_of_neg
abbrev SI:= @List.drop_drop
abbrev SJ:= @List.take_take
abbrev SS:= @Nat.gcd_comm
abbrev Tm:= @Int.sign_eq_one_of_pos
abbrev Tr:= @Nat.eq_zero_of_gcd_eq_zero_right
abbrev TE:= @Array.getElem?_modify
abbrev TI:= @Nat.div_lt_iff_lt_mul
abbrev TJ:= @ByteArray.data_append
abbrev TQ:= @List.countP_le_length
abbrev TT:= @List.length_replicate
abbrev Ug:= @List.singleton_append
abbrev Uu:= @List.zipIdx_cons
abbrev Uv:= @List.mem_flatMap
abbrev UH:= @Bool.not_eq_true
abbrev UI:= @List.getElem_map
abbrev UN:= @List.drop_length
abbrev UQ:= @Array.replicate_succ
abbrev UT:= @Array.replicate_zero
abbrev U0:= @List.replicate_succ'
abbrev Vf:= @Int.ediv_emod_unique
abbrev Vg:= @List.count_le_length
abbrev Vi:= @BitVec.ofInt_natCast
abbrev Vx:= @List.append_toArray
abbrev VF:= @List.filter_eq_self
abbrev VG:= @Array.getD_eq_getD_getElem?
abbrev VM:= @List.all_nil
abbrev VQ:= @Nat.zero_mul
abbrev VT:= @Bool.not_false
abbrev Wh:= @Nat.add_sub_cancel
abbrev WD:= @Nat.gcd_zero_right
abbrev W6:= @UInt8.toNat_ofNat'
abbrev Xg:= @Rat.sub_eq_add_neg
abbrev Xh:= @Rat.not_lt
abbrev Xj:= @Bool.and_assoc
abbrev Xk:= @BitVec.toNat_ofNat
abbrev Xl:= @Nat.zero_le
abbrev Xn:= @not_true_eq_false
abbrev Xo:= @Int.le_refl
abbrev Yc:= @List.push_toArray
abbrev Yd:= @List.getLast?_map
abbrev Yi:= @List.drop_set
abbrev Yq:= @Bool.and_true
abbrev Ys:= @Nat.div_eq_of_lt
abbrev Yx:= @Nat.gcd_dvd_left
abbrev YA:= @Nat.mul_lt_mul''
abbrev YF:= @List.countP_cons
abbrev YG:= @Nat.blt_eq
abbrev YN:= @Nat.mul_zero
abbrev YP:= @Int.le_of_lt
abbrev YV:= @Nat.succ_mul
abbrev YW:= @Eq.symm
abbrev YZ:= @List.foldl_cons
abbrev Zb:= @Int.natCast_mul
abbrev Zm:= @List.all_append
abbrev Zn:= @Option.map_some
abbrev Zx:= @Nat.add_one_mul
abbrev Zy:= @List.nodup_nil
abbrev Zz:= @Nat.pow_add
abbrev ZA:= @Int.natAbs_neg
abbrev ZB:= @Nat.min_def
abbrev ZD:= @Prod.mk.inj
abbrev ZF:= @Int.not_lt
abbrev ZK:= @not_or
end Go.Proofs.YtmdphpnaipbfjaaGreatDoor

namespace Go.Proofs.YtmdphpnaipbfjaaGreatDoor.Vc
open Go Go.RowKit

inductive SV where
 |v (x:Value)
 |t
 |f
 |p (q:Prop) (h:Decidable q)
 |loc (l off:Nat)
 |u

def SV.val:SV->Option Value
 | .v x=>some x
 | .t=>some (.bool true)
 | .f=>some (.bool false)
 | .p q h=>some (.bool (@decide q h))
 | .loc _ _=>none
 | .u=>none

def SV.den(b:Nat->Nat):SV->Value
 | .v x=>x
 | .t=> .bool true
 | .f=> .bool false
 | .p q h=> .bool (@decide q h)
 | .loc l off=> .pointer (some ⟨b l,off,none⟩)
 | .u=>undef

abbrev Env:=List (Nat×SV)

def get:Env->Nat->Option SV
 |[],_=>none
 |x::r,s=>match Nat.beq x.1 s with
  |true=>some x.2
  |false=>get r s

def drop:Env->Nat->Env
 |[],_=>[]
 |x::r,s=>match Nat.beq x.1 s with
  |true=>drop r s
  |false=>x::drop r s

def SV.QM(l:Nat):SV->Bool
 | .loc k _=>Nat.beq k l
 |_=>false

def qX:Env->Nat->Env
 |[],_=>[]
 |x::r,l=>match x.2.QM l with
  |true=>drop (qX r l) x.1
  |false=>x::qX r l

structure tt where
 UC:Nat
 new:Bool
 ty:Nat
 cells:List Value

def bC:List tt->Nat->Option tt
 |[],_=>none
 |x::r,l=>match Nat.beq x.UC l with
  |true=>some x
  |false=>bC r l

def lx:List tt->Nat->List tt
 |[],_=>[]
 |x::r,l=>match Nat.beq x.UC l with
  |true=>lx r l
  |false=>x::lx r l

structure St where
 env:Env
 boxes:List tt
 w:World
 d:Option (List Nat)

structure Ext (B:Nat) (ts:List Nat) (w w':World):Prop where
 below:Below B w w'
 other:∀k,k<w.heap.size->w'.heap[k]? =w.heap[k]?∨∃t∈ts,∃c c' fr,w.heap[k]? =some (.cells c t fr)/\w'.heap[k]? =some (.cells c' t fr)

def aa(w:World)(a:Addr)(vs:List Value):Prop:=∀i,(h:i<vs.length)->w.cell? (a.add i)=some vs[i]

def Pure(P:Program)(f:FuncId)(args:Array Value)(w:World)(R:Value->World->Prop):Prop:=
 Calls P f args w fun e w'=>∃v,e= .returned v/\Below w.heap.size w w'/\R v w'

def ba(P:Program)(f:FuncId)(args:Array Value)(B:Nat)(w:World)(R:Value->World->Prop):Prop:=
 Calls P f args w fun e w'=>∃v,e= .returned v/\Below B w w'/\R v w'

def Pt(P:Program)(f:FuncId)(todo:List Item)(T:Array Value)(w:World)(R:Ending->World->Prop):Prop:=
 ∀cs,∃e w' fr,R e w'/\Comes P (lone (({(default:Frame)with fn:=f,kind:= .normal}:Frame).at ⟨T,[]⟩ todo) cs w) (lone fr cs w') e/\fr.fn=f/\fr.leaving P w' e

def qY(b:Nat->Nat)(env:Env)(T:Array Value):Prop:=∀s x,get env s=some x->T[s]? =some (x.den b)

structure uw (b:Nat->Nat) (B:Nat) (boxes:List tt) (w:World):Prop where
 at_:∀l x,bC boxes l=some x->B<=b l/\w.heap[b l]? =some (.cells x.cells.toArray x.ty (0,0))
 ne:∀l m x y,bC boxes l=some x->bC boxes m=some y->l≠m->b l≠b m

def Out(B:Nat)(w:World)(R:Value->World->Prop):Ending->World->Prop:=fun e w'=>∃v,e= .returned v/\Below B w w'/\R v w'

def At(P:Program)(f:FuncId)(N:Nat)(todo:List Item)(env:Env)(boxes:List tt)(B:Nat)(w:World)(R:Value->World->Prop):Prop:=
 ∀b T,T.size=N->qY b env T->uw b B boxes w->B<=w.heap.size->Pt P f todo T w (Out B w R)

inductive Lf where
 |int (k:IntKind)|bool|str|slice|func|map|ptr|any
inductive S1 where
 |one (l:Lf)|agg (ls:List Lf)
inductive Sh where
 |s (x:S1)|tup (l:List S1)

def QN:Lf->(Value->Prop)->Prop
 | .int k,K=>∃n:Int,K (.int k n)
 | .bool,K=>∃b:Bool,K (.bool b)
 | .str,K=>∃s:ByteArray,K (.string s)
 | .slice,K=>∃(A:Option Addr)(n c:Nat),K (.slice A n c)
 | .func,K=>∃(f:Nat)(a c:Array Value),K (.func (.func f) a c)
 | .map,K=>∃r:Option Nat,K (.map r)
 | .ptr,K=>∃a:Option Addr,K (.pointer a)
 | .any,K=>∃v,K v
def Nq:List Lf->(List Value->Prop)->Prop
 |[],K=>K []
 |l::r,K=>QN l fun v=>Nq r fun vs=>K (v::vs)
def ZR:S1->(Value->Prop)->Prop
 | .one l,K=>QN l K
 | .agg ls,K=>Nq ls fun vs=>K (.agg vs.toArray)
def QO:List S1->(List Value->Prop)->Prop
 |[],K=>K []
 |l::r,K=>ZR l fun v=>QO r fun vs=>K (v::vs)
def U8:Sh->(Value->Prop)->Prop
 | .s x,K=>ZR x K
 | .tup l,K=>QO l fun vs=>K (.tuple vs.toArray)

def Io(P:Program):Nat->TypeId->List Lf
 |0,_=>[.any]
 |n+1,t=>match P.underlying t with
  |some (.int k)=>[.int k]
  |some .bool=>[.bool]
  |some .string=>[.str]
  |some (.slice _)=>[.slice]
  |some (.func _ _ _)=>[.func]
  |some (.map _ _)=>[.map]
  |some (.pointer _)=>[.ptr]
  |some (.struct a)=>a.toList.flatMap fun f=>Io P n f.type
  |some (.array m e)=>(List.replicate m (Io P n e)).flatten
  |_=>[.any]
def gh(P:Program)(t:TypeId):Bool:=match P.underlying t with
 |some (.struct _)=>true
 |some (.array _ _)=>true
 |_=>false
def s1(P:Program)(t:TypeId):S1:=match gh P t with
 |true=> .agg (Io P 8 t)
 |false=>match Io P 8 t with
  |l::_=> .one l
  |[]=> .one .any
def adC:Lf->Lf
 | .func=> .any
 |l=>l
def s1A(P:Program)(t:TypeId):S1:=match s1 P t with
 | .one l=> .one (adC l)
 | .agg ls=> .agg (ls.map adC)
def sh(P:Program)(t:TypeId):Sh:=match P.underlying t with
 |some (.tuple ts)=> .tup (ts.toList.map (s1A P))
 |_=> .s (s1 P t)

structure Cx where
 P:Program
 f:FuncId
 N:Nat
 res:List ResultVar
 ZS:List ((Bool×Nat)×List Nat×List Nat)
 mode:List (Nat×Nat×Nat)
 w0:World
 B:Nat
 R:Value->World->Prop

def gi:List (Nat×Nat×Nat)->Nat->Nat->Nat
 |[],_,_=>0
 |(r,i,m)::l,a,b=>match Nat.beq r a&&Nat.beq i b with
  |true=>m
  |false=>gi l a b

def Nr:List ((Bool×Nat)×List Nat×List Nat)->Bool->Nat->Option (List Nat×List Nat)
 |[],_,_=>none
 |((b,n),x)::l,a,n'=>match (match b,a with|true,true=>true|false,false=>true|_,_=>false)&&Nat.beq n n' with
  |true=>some x
  |false=>Nr l a n'

def ins(t:Nat):List Nat->List Nat
 |[]=>[t]
 |x::r=>match Nat.beq x t with
  |true=>x::r
  |false=>x::ins t r

def St.wZ(st:St):St:={st with d:=some (st.d.getD [])}
def St.wrote(st:St)(t:Nat):St:={st with d:=some (ins t (st.d.getD []))}

def Ay:List tt->List tt
 |[]=>[]
 |x::r=>{x with new:=false}::Ay r

def iA(B:Nat)(st:St)(K:St->Prop):Prop:=
 match st.d with
 |none=>K st
 |some ts=>∀w1,Ext B ts st.w w1->K {env:=st.env,boxes:=Ay st.boxes,w:=w1,d:=none}

def put(N:Nat)(st:St)(dst:Option Tmp)(x:SV)(K:St->Prop):Prop:=
 match dst with
 |none=>K st
 |some s=>match Nat.blt s N with
  |true=>K {st with env:=(s,x)::drop st.env s}
  |false=>False

def ev(st:St):Operand->Option SV
 | .tmp t=>get st.env t
 | .const (.bool true)=>some .t
 | .const (.bool false)=>some .f
 | .const v=>some (.v v)
 | .global g=>some (.v (.pointer (some ⟨g,0,none⟩)))
 | .func f=>some (.v (.func (.func f) #[] #[]))

def Az(o:Option SV)(K:SV->Prop):Prop:=match o with
 |some x=>K x
 |none=>False

def yl(o:Option SV)(K:Value->Prop):Prop:=match o with
 |some x=>match x.val with
  |some v=>K v
  |none=>False
 |none=>False

def pJ(st:St):List Operand->Option (List Value)
 |[]=>some []
 |x::r=>match (ev st x).bind SV.val,pJ st r with
  |some v,some vs=>some (v::vs)
  |_,_=>none

def zu(x:SV)(K:Bool->Prop):Prop:=match x with
 | .t=>K true
 | .f=>K false
 | .p q _=>(q->K true)/\(¬q->K false)
 | .v (.bool b)=>(b=true->K true)/\(b=false->K false)
 |_=>False

def aN:IntKind->Int->Prop
 | .i8,n=> -128<=n/\n<=127
 | .i16,n=> -32768<=n/\n<=32767
 | .i32,n=> -2147483648<=n/\n<=2147483647
 | .i64,n=> -9223372036854775808<=n/\n<=9223372036854775807
 | .u8,n=>0<=n/\n<=255
 | .u16,n=>0<=n/\n<=65535
 | .u32,n=>0<=n/\n<=4294967295
 | .u64,n=>0<=n/\n<=18446744073709551615
theorem ir{k:IntKind}{n:Int}(h:aN k n:=by simp only[aN];omega):aN k n:=h

def num(raw:Bool)(k:IntKind)(n:Int)(K:SV->Prop):Prop:=match raw with
 |true=>K (.v (.int k (k.wrap n)))
 |false=>aN k n/\K (.v (.int k n))

def bt(s:ByteArray)(i:Int):Int:=((s.data.toList.getD i.toNat 0).toNat:Int)

def xB:IntKind->IntKind->Bool
 | .i8,.i8=>true| .i16,.i16=>true| .i32,.i32=>true| .i64,.i64=>true
 | .u8,.u8=>true| .u16,.u16=>true| .u32,.u32=>true| .u64,.u64=>true
 |_,_=>false

def KZ(op:BinOp)(x y:Int)(K:SV->Prop):Prop:=match op with
 | .eql=>K (.p (x=y) inferInstance)
 | .neq=>K (.p (x≠y) inferInstance)
 | .lss=>K (.p (x<y) inferInstance)
 | .leq=>K (.p (x<=y) inferInstance)
 | .gtr=>K (.p (x>y) inferInstance)
 | .geq=>K (.p (x≥y) inferInstance)
 |_=>False

def qP(k:IntKind)(y:Int):Prop:=0<=y/\y<=(k.bits:Int)
def qd(k:IntKind)(x y:Int):Int:=k.wrap (x*2^y.toNat)
def ny(x y:Int):Int:=x / 2^y.toNat
def FU(raw:Bool)(op:BinOp)(k:IntKind)(x y:Int)(K:SV->Prop):Prop:=match op with
 | .shl=>qP k y/\K (.v (.int k (qd k x y)))
 | .shr=>qP k y/\K (.v (.int k (ny x y)))
 | .and=>K (.v (.int k (bits .and k x y)))
 | .or=>K (.v (.int k (bits .or k x y)))
 | .xor=>K (.v (.int k (bits .xor k x y)))
 | .andNot=>K (.v (.int k (bits .andNot k x y)))
 | .add=>num raw k (x+y) K
 | .sub=>num raw k (x - y) K
 | .mul=>num raw k (x*y) K
 | .quo=>match raw with
  |true=>y≠0/\K (.v (.int k (k.wrap (x.tdiv y))))
  |false=>(0<=x/\0<y/\aN k x)/\K (.v (.int k (x / y)))
 | .rem=>match raw with
  |true=>y≠0/\K (.v (.int k (x.tmod y)))
  |false=>(0<=x/\0<y)/\K (.v (.int k (x % y)))
 |_=>KZ op x y K

def La(op:BinOp)(a b:ByteArray)(K:SV->Prop):Prop:=match op with
 | .eql=>K (.p (a=b) inferInstance)
 | .neq=>K (.p (a≠b) inferInstance)
 | .add=>a.size+b.size<=9223372036854775807/\K (.v (.string (a++b)))
 |_=>False

structure DP where
 q:Prop
 h:Decidable q

def fL:List Lf->List Value->List Value->Option DP
 |[],[],[]=>some ⟨True,inferInstance⟩
 | .int _::ls,.int k x::r,.int l y::s=>match xB k l,fL ls r s with
  |true,some ⟨q,_⟩=>some ⟨x=y/\q,inferInstance⟩
  |_,_=>none
 | .str::ls,.string x::r,.string y::s=>match fL ls r s with
  |some ⟨q,_⟩=>some ⟨x=y/\q,inferInstance⟩
  |none=>none
 | .bool::ls,.bool x::r,.bool y::s=>match fL ls r s with
  |some ⟨q,_⟩=>some ⟨x=y/\q,inferInstance⟩
  |none=>none
 |_,_,_=>none

def tiled(P:Program):Nat->List Field->Nat->Bool
 |off,[],n=>Nat.beq off n
 |off,f::r,n=>Nat.beq f.offset off&&tiled P (off+P.cellsOf f.type) r n

def uH(P:Program):Nat->TypeId->Bool
 |0,_=>false
 |n+1,t=>match P.underlying t with
  |some (.int _)=>Nat.beq (P.cellsOf t) 1
  |some .bool=>Nat.beq (P.cellsOf t) 1
  |some .string=>Nat.beq (P.cellsOf t) 1
  | some (.struct a) => !(P.stoodInHeld t) && tiled P 0 a.toList (P.cellsOf t) && a.toList.all fun f => f.name != "_" && uH P n f.type
  |_=>false

def Cf:SV->Option Bool
 | .t=>some true
 | .f=>some false
 | .p q h=>some (@decide q h)
 | .v (.bool b)=>some b
 |_=>none

def xC{α:Type}(P:Program):Sem α->Option α
 | .pure a=>some a
 | .program k=>xC P (k P)
 |_=>none

def rho(st:St)(x:Operand):Value:=((ev st x).bind SV.val).getD undef

def Cg(st:St):List Operand->Bool
 |[]=>true
 |x::r=>match ((ev st x).bind SV.val).isSome with
  |true=>Cg st r
  |false=>false

def qZ(c:Cx)(o:Oper)(st:St)(K:SV->Prop):Prop:=
 match Cg st o.op.operands.toList with
 |false=>False
 |true=>match xC c.P (execOp (rho st) o)with
  |some (.value v)=>K (.v v)
  |_=>False

def known(P:Program)(t:TypeId):Bool:=match P.underlying t with
 |some _=>true
 |none=>false

def uR(P:Program)(t:TypeId):Bool:=match P.underlying t with
 |some (.struct _)=>true
 |_=>false

def ym(P:Program)(t:TypeId)(f:Nat):Option Field:=match P.underlying t with
 |some (.struct a)=>a.toList[f]?
 |_=>none

def yn(cells:List Value)(off n:Nat):List Value:=(cells.drop off).take n

def wu (P : Program) (boxes : List tt) (t : TypeId) (l off : Nat) : Option Value :=
  match bC boxes l with
  | none => none
  | some x => match P.underlying t with
   | none => none
   | some _ => match gh P t with
    | true => match Nat.ble (off + P.cellsOf t) x.cells.length with
      | true => some (.agg (yn x.cells off (P.cellsOf t)).toArray)
      | false => none
    | false => x.cells[off]?

def BQ(P:Program)(w:World)(a:Addr)(t:TypeId)(K:SV->Prop):Prop:=match P.underlying t with
 |none=>False
 |some _=>match gh P t with
  |true=>match Nat.beq (Io P 8 t).length (P.cellsOf t)with
   |true=>Nq (Io P 8 t) fun vs=>aa w a vs/\K (.v (.agg vs.toArray))
   |false=>False
  |false=>match Io P 8 t with
   |l::_=>QN l fun v=>aa w a [v]/\K (.v v)
   |[]=>False

def bound(st:St)(o:Option Operand)(K:Option Int->Prop):Prop:=match o with
 |none=>K none
 |some x=>match ev st x with
  |some (.v (.int _ n))=>K (some n)
  |_=>False

def cT(A:Option Addr)(l cap size:Nat):Option Addr:=if cap=l then A else A.map (·.add (l*size))

def Lb (P : Program) (t : TypeId) (x : SV) (lo hi : Option Int) (K : SV → Prop) : Prop :=
  match P.underlying t, x with
  | some .string, .v (.string s) => match lo, hi with
    | none, none => K (.v (.string s))
    | none, some h => (0 ≤ h ∧ h ≤ s.size) ∧ K (.v (.string (s.extract 0 h.toNat)))
    | some l, none => (0 ≤ l ∧ l ≤ s.size) ∧ K (.v (.string (s.extract l.toNat s.size)))
    | some l, some h => (0 ≤ l ∧ l ≤ h ∧ h ≤ s.size) ∧ K (.v (.string (s.extract l.toNat h.toNat)))
  | some (.slice e), .v (.slice A n cap) => match known P e with
   | false => False
   | true => match lo, hi with
    | none, none => K (.v (.slice A n cap))
    | none, some h => (0 ≤ h ∧ h ≤ cap) ∧ K (.v (.slice A h.toNat cap))
    | some l, none => (0 ≤ l ∧ l ≤ n ∧ n ≤ cap) ∧ K (.v (.slice (cT A l.toNat cap (P.cellsOf e)) (n - l.toNat) (cap - l.toNat)))
    | some l, some h => (0 ≤ l ∧ l ≤ h ∧ h ≤ cap) ∧ K (.v (.slice (cT A l.toNat cap (P.cellsOf e)) (h.toNat - l.toNat) (cap - l.toNat)))
  | _, _ => False

def mv(n:Nat):List Nat->Bool
 |[]=>false
 |x::r=>match Nat.beq x n with
  |true=>true
  |false=>mv n r
def FV(hold:Option (List Nat))(l:Nat):Bool:=match hold with
 |none=>true
 |some ls=>mv l ls

def each(j:Int):Nat->(Nat->Prop)->Prop
 |0,_=>True
 |n+1,Q=>each j n Q/\(j=(n:Int)->Q n)

def value(c:Cx)(raw:Bool)(lw:Option World)(hold:Option (List Nat))(o:Oper)(st:St)(K:SV->Prop):Prop:=
 match o.op with
 | .move x=>Az (ev st x) K
 | .assign x=>Az (ev st x) K
 | .pick m a b=>Az (ev st m) fun x=>zu x fun t=>match t with
  |true=>Az (ev st a) K
  |false=>Az (ev st b) K
 | .binOp op d x y _=>match ev st x,ev st y with
  |some (.v (.int k a)),some (.v (.int r b))=>match xB k r with
   |true=>FU raw op k a b K
   |false=>match op with
    | .shl=>qP k b/\K (.v (.int k (qd k a b)))
    | .shr=>qP k b/\K (.v (.int k (ny a b)))
    |_=>qZ c o st K
  |some (.v (.string a)),some (.v (.string b))=>La op a b K
  |some (.v (.agg xs)),some (.v (.agg ys))=>match uR c.P d&&uH c.P 6 d&&Nat.beq xs.toList.length (c.P.cellsOf d)&&Nat.beq ys.toList.length (c.P.cellsOf d),fL (Io c.P 6 d) xs.toList ys.toList with
   |true,some ⟨q,h⟩=>match op with
    | .eql=>K (.p q h)
    | .neq=>K (.p (¬q) (@instDecidableNot q h))
    |_=>False
   |_,_=>False
  |some (.v (.slice A _ _)),some (.v (.slice none 0 0))=>match c.P.underlying d with
   |some (.slice _)=>match op with
    | .eql=>K (.p (A=none) inferInstance)
    | .neq=>K (.p (¬A=none) inferInstance)
    |_=>False
   |_=>False
  |some a,some b=>match c.P.underlying d,Cf a,Cf b with
   |some .bool,some x,some y=>match op with
    | .eql=>K (.p (x=y) inferInstance)
    | .neq=>K (.p (¬x=y) inferInstance)
    |_=>False
   |_,_,_=>qZ c o st K
  |_,_=>False
 | .unOp .neg _ x=>match ev st x with
  |some (.v (.int k a))=>num raw k (-a) K
  |_=>False
 | .unOp .xor _ x=>match ev st x with
  |some (.v (.int k a))=>K (.v (.int k (bits .xor k (if k.signed then -1 else k.max) a)))
  |_=>False
 | .unOp .not _ x=>match ev st x with
  |some .t=>K .f
  |some .f=>K .t
  |some (.p q h)=>K (.p (¬q) (@instDecidableNot q h))
  |some (.v (.bool b))=>K (.p (b=false) inferInstance)
  |_=>False
 | .convert src dst x=>match c.P.underlying dst,ev st x with
  |some (.int k),some (.v (.int _ n))=>match known c.P src with
   |true=>num raw k n K
   |false=>False
  |_,_=>qZ c o st K
 | .nilCheck x=>match ev st x with
  |some (.loc l off)=>K (.loc l off)
  |some (.v (.pointer (some a)))=>K (.v (.pointer (some a)))
  |some (.v (.func (.func g) a b))=>K (.v (.func (.func g) a b))
  |_=>False
 | .fieldAddr s x f=>match ym c.P s f with
  |none=>False
  |some fd=>match Nat.beq (c.P.cellsOf fd.type) 0 with
   |true=>False
   |false=>match ev st x with
    |some (.loc l off)=>K (.loc l (off+fd.offset))
    |some (.v (.pointer (some a)))=>K (.v (.pointer (some (a.add fd.offset))))
    |_=>False
 | .indexAddr t x i=>match c.P.underlying t,ev st x,ev st i with
  |some (.slice e),some (.v (.slice A n _)),some (.v (.int _ j))=>match known c.P e with
   |true=>(0<=j/\j<n)/\∃a,A=some a/\K (.v (.pointer (some (a.add (j.toNat*c.P.cellsOf e)))))
   |false=>False
  |some (.array n e),some (.v (.pointer (some a))),some (.v (.int _ i))=>match known c.P e with
   |true=>(0<=i/\i<n)/\K (.v (.pointer (some (a.add (i.toNat*c.P.cellsOf e)))))
   |false=>False
  |some (.array n e),some (.loc l off),some (.v (.int _ i))=>match raw with
   |true=>match known c.P e with
    |true=>(0<=i/\i<n)/\each i n fun j=>K (.loc l (off+j*c.P.cellsOf e))
    |false=>False
   |false=>match i with
    | .ofNat j=>match Nat.blt j n&&known c.P e with
     |true=>K (.loc l (off+j*c.P.cellsOf e))
     |false=>False
    |_=>False
  |_,_,_=>False
 | .index t x i=>match c.P.underlying t,ev st x,ev st i with
  |some .string,some (.v (.string s)),some (.v (.int _ j))=>(0<=j/\j<s.size)/\K (.v (.int .u8 (bt s j)))
  |_,_,_=>qZ c o st K
 | .slice t x lo hi none=>Az (ev st x) fun a=>bound st lo fun l=>bound st hi fun h=>Lb c.P t a l h K
 | .load t x=>match ev st x with
  |some (.loc l off)=>match FV hold l,wu c.P st.boxes t l off with
   |true,some v=>K (.v v)
   |_,_=>False
  |some (.v (.pointer (some a)))=>match lw with
   |none=>False
   |some w=>BQ c.P w a t K
  |_=>False
 |_=>qZ c o st K

def av(P:Program)(g:FuncId):Bool:=match P.funcs[g]? with
 |some fn=>match fn.body with
  | some _ => match fn.name == "runtime.NumGoroutine" with
   |true=>false
   |false=>true
  |none=>false
 |none=>false

def rp(st:St)(l ty:Nat)(cells:List Value):St:=
 {env:=qX st.env l,boxes:=⟨l,true,ty,cells⟩::lx st.boxes l,w:=st.w,d:=some (st.d.getD [])}

def setCells:List Value->Nat->List Value->List Value
 |cells,_,[]=>cells
 |cells,off,v::r=>setCells (cells.set off v) (off+1) r

def hasType(t:Nat):List tt->Bool
 |[]=>false
 |x::r=>match Nat.beq x.ty t with
  |true=>true
  |false=>hasType t r

def BR(dyn:Bool)(P:Program)(g:FuncId)(q:Prop):Prop:=match dyn with
 |true=>av P g=true/\q
 |false=>match av P g with
  |true=>q
  |false=>False

structure aG (w w':World) (b:Nat) (ty:Nat) (cells:List Value):Prop where
 at_:w'.heap[b]? =some (.cells cells.toArray ty (0,0))
 rest:∀k,k≠b->w'.heap[k]? =w.heap[k]?
 size:w'.heap.size=w.heap.size
 os:w'.os=w.os
 tape:w'.tape=w.tape
 output:w'.output=w.output

def zeroCells(P:Program)(t:TypeId):Option (List Value):=((P.info? t).bind (·.zero)).map fun v=>v.cells.toList

def bk:Value->Bool
 | .agg _=>false
 | .tuple _=>false
 |_=>true
def qe:List Value->Bool
 |[]=>true
 |v::r=>bk v&&qe r
def Lc(v:Value)(Q:Prop):Prop:=match v with
 | .agg _=>False
 | .tuple _=>False
 |_=>Q
def BS:List Value->Prop->Prop
 |[],Q=>Q
 |v::r,Q=>Lc v (BS r Q)

def effect (c : Cx) (dyn : Bool) (o : Oper) (st : St) (K : SV → St → Prop) : Prop :=
  match o.op with
  | .alloc t => match o.dst, zeroCells c.P t with
    | some l, some cells => K (.loc l 0) (rp st l t cells)
    | _, _ => False
  | .box t x => match o.dst with
    | none => False
    | some l => yl (ev st x) fun v => K (.loc l 0) (rp st l t v.cells.toList)
  | .store t x y => match ev st x with
    | some (.loc l off) => match bC st.boxes l with
      | none => False
      | some b => yl (ev st y) fun v => match Nat.beq v.cells.toList.length (c.P.cellsOf t) && known c.P t && Nat.ble (off + v.cells.toList.length) b.cells.length with
        | false => False
        | true => BS v.cells.toList <| K .u { env := st.env, boxes := { b with cells := setCells b.cells off v.cells.toList } :: lx st.boxes l, w := st.w, d := match b.new with
            | true => some (st.d.getD [])
            | false => some (ins b.ty (st.d.getD [])) }
    | some (.v (.pointer (some a))) => yl (ev st y) fun v => match Nat.beq v.cells.toList.length (c.P.cellsOf t) && known c.P t && qe v.cells.toList with
      | false => False
      | true => iA c.B st fun st => ∃ (cs : List Value) (ty : Nat), c.B ≤ a.block ∧ a.spot = none ∧ st.w.heap[a.block]? = some (.cells cs.toArray ty (0, 0)) ∧ a.off + v.cells.toList.length ≤ cs.length ∧
          hasType ty st.boxes = false ∧ ∀ w1, aG st.w w1 a.block ty (setCells cs a.off v.cells.toList) → K .u { st with w := w1 }
    | _ => False
  | .call cl => match cl.callee with
    | .value x => match ev st x, pJ st cl.args.toList with
      | some (.v (.func (.func g) first cap)), some vs => BR dyn c.P g <| iA c.B st fun st => Pure c.P g (first.toList ++ vs ++ cap.toList).toArray st.w fun v w1 =>
            U8 (sh c.P o.type) fun x => v = x ∧ K (.v x) { env := st.env, boxes := Ay st.boxes, w := w1, d := none }
      | _, _ => False
    | _ => False
  | _ => False

def pj:List tt->List Nat
 |[]=>[]
 |x::r=>x.ty::pj r

def ae(P:Program)(s:Sem Value)(B:Nat)(tys:List Nat)(w:World)(K:Value->World->Prop):Prop:=
 ∃v w1,s.run P w= .ok v w1/\Below B w w1/\w.heap.size<=w1.heap.size/\
  (∀(k ty:Nat)(cs:Array Value),ty∈tys->w.heap[k]? =some (.cells cs ty (0,0))->w1.heap[k]? =w.heap[k]?)/\K v w1
def QP(P:Program)(s:Sem Next)(B:Nat)(tys:List Nat)(w:World)(K:Value->World->Prop):Prop:=
 ∃v w1,s.run P w= .ok (.value v) w1/\Below B w w1/\w.heap.size<=w1.heap.size/\
  (∀(k ty:Nat)(cs:Array Value),ty∈tys->w.heap[k]? =some (.cells cs ty (0,0))->w1.heap[k]? =w.heap[k]?)/\K v w1

def parts(st:St):List (Nat×Operand)->Option (List (Nat×Value))
 |[]=>some []
 |(i,x)::r=>match (ev st x).bind SV.val,parts st r with
  |some v,some vs=>some ((i,v)::vs)
  |_,_=>none

def sD(st:St)(o:Oper):Option (Sem Value):=match o.op with
 | .call cl=>match cl.callee,pJ st cl.args.toList with
  | .builtin .append,some vs=>some (Builtin.append_ cl.argTypes o.type vs.toArray)
  | .builtin .copy,some vs=>some (Builtin.copy_ cl.argTypes o.type vs.toArray)
  | .builtin .clear,some vs=>some (Builtin.clear_ cl.argTypes o.type vs.toArray)
  |_,_=>none
 | .makeSlice t l k=>match (ev st l).bind SV.val,(ev st k).bind SV.val with
  |some a,some b=>some (Instr.makeSlice t a b)
  |_,_=>none
 | .buildSlice t n ps=>match parts st ps.toList with
  |some l=>some (Instr.buildSlice t n l.toArray)
  |none=>none
 | .convert src dst x=>match (ev st x).bind SV.val with
  |some a=>some (convert src dst a)
  |none=>none
 | .index t x i=>match (ev st x).bind SV.val,(ev st i).bind SV.val with
  |some a,some b=>some (Instr.index t a b)
  |_,_=>none
 | .makeMap t r=>match r with
  |none=>some (Instr.makeMap t none)
  |some x=>match (ev st x).bind SV.val with
   |some a=>some (Instr.makeMap t (some a))
   |none=>none
 | .lookup t x i ok=>match (ev st x).bind SV.val,(ev st i).bind SV.val with
  |some a,some b=>some (Instr.lookup t a b ok)
  |_,_=>none
 | .slice t x none none none=>match (ev st x).bind SV.val with
  |some a=>some (Instr.sliceAt t a none none none)
  |none=>none
 | .slice t x (some l) (some h) (some m)=>match (ev st x).bind SV.val,(ev st l).bind SV.val,(ev st h).bind SV.val,(ev st m).bind SV.val with
  |some a,some b,some d,some e=>some (Instr.sliceAt t a (some b) (some d) (some e))
  |_,_,_,_=>none
 | .binOp .shr t x i _=>match (ev st x).bind SV.val,(ev st i).bind SV.val with
  |some a,some b=>some (binOp .shr t a b)
  |_,_=>none
 |_=>none

def behind(P:Program)(t:TypeId)(st:St)(K:SV->St->Prop)(v:Value)(w1:World):Prop:=
 U8 (sh P t) fun x=>v=x/\K (.v x) {env:=st.env,boxes:=Ay st.boxes,w:=w1,d:=none}

def eM(P:Program)(s:Sem Unit)(B:Nat)(tys:List Nat)(w:World)(K:World->Prop):Prop:=
 ∃w1,s.run P w= .ok () w1/\Below B w w1/\w.heap.size<=w1.heap.size/\
  (∀(k ty:Nat)(cs:Array Value),ty∈tys->w.heap[k]? =some (.cells cs ty (0,0))->w1.heap[k]? =w.heap[k]?)/\K w1
def BU(c:Cx)(t:TypeId)(m k x:Operand)(st:St)(K:SV->St->Prop):Prop:=
 match (ev st m).bind SV.val,(ev st k).bind SV.val,(ev st x).bind SV.val with
 |some a,some d,some e=>iA c.B st fun st=>eM c.P (Instr.mapUpdate t a d e) c.B (pj st.boxes) st.w fun w1=>K .u {env:=st.env,boxes:=Ay st.boxes,w:=w1,d:=none}
 |_,_,_=>False

def newAt(c:Cx)(s:Sem Value)(st:St)(K:SV->St->Prop):Prop:=
 iA c.B st fun st=>ae c.P s c.B (pj st.boxes) st.w fun v w1=>∃a:Addr,v= .pointer (some a)/\K (.v (.pointer (some a))) {env:=st.env,boxes:=Ay st.boxes,w:=w1,d:=none}

def QQ(c:Cx)(o:Oper)(st:St)(K:SV->St->Prop):Prop:=
 match sD st o with
 |some s=>iA c.B st fun st=>ae c.P s c.B (pj st.boxes) st.w (behind c.P o.type st K)
 |none=>match o.op with
  | .call cl=>match cl.callee with
   | .value x=>match ev st x,pJ st cl.args.toList with
    |some (.v (.func (.func g) first cap)),some vs=>iA c.B st fun st=>QP c.P (callFunc g (first.toList++vs++cap.toList).toArray) c.B (pj st.boxes) st.w (behind c.P o.type st K)
    |_,_=>False
   |_=>False
  | .mapUpdate t m k x=>BU c t m k x st K
  | .insert t m k x=>BU c t m k x st K
  | .alloc t=>newAt c (Instr.alloc t true (.tuple #[])) st K
  | .box t x=>match (ev st x).bind SV.val with
   |some a=>newAt c (Instr.box t a) st K
   |none=>False
  |_=>False

def ZT(c:Cx)(s:Sem Value)(st:St)(K:SV->St->Prop):Prop:=
 iA c.B st fun st=>ae c.P s st.w.heap.size (pj st.boxes) st.w fun v w1=>∃a:Addr,v= .pointer (some a)/\K (.v (.pointer (some a))) {env:=st.env,boxes:=Ay st.boxes,w:=w1,d:=none}
def Ld(c:Cx)(o:Oper)(st:St)(K:SV->St->Prop):Prop:=match sD st o with
 |some s=>iA c.B st fun st=>ae c.P s st.w.heap.size (pj st.boxes) st.w (behind c.P o.type st K)
 |none=>match o.op with
  | .alloc t=>ZT c (Instr.alloc t true (.tuple #[])) st K
  |_=>False

def tx(dyn:Bool)(c:Cx)(o:Oper)(st:St)(K:SV->St->Prop):Prop:=match o.op with
 | .call cl=>match cl.callee with
  | .value x=>match ev st x,pJ st cl.args.toList with
   |some (.v (.func (.func g) first cap)),some vs=>BR dyn c.P g<|iA c.B st fun st=>ba c.P g (first.toList++vs++cap.toList).toArray c.B st.w fun v w1=>
     (∀(k ty:Nat)(cs:Array Value),ty∈pj st.boxes->st.w.heap[k]? =some (.cells cs ty (0,0))->w1.heap[k]? =st.w.heap[k]?)/\behind c.P o.type st K v w1
   |_,_=>False
  |_=>False
 |_=>False

def U9(st:St):List Operand->List Nat
 |[]=>[]
 |x::r=>match ev st x with
  |some (.loc l _)=>ins l (U9 st r)
  |_=>U9 st r
def jG(l a:Nat):Env->Env
 |[]=>[]
 |(s,.loc k off)::r=>match Nat.beq k l with
  |true=>(s,.v (.pointer (some ⟨a,off,none⟩)))::jG l a r
  |false=>(s,.loc k off)::jG l a r
 |x::r=>x::jG l a r
def yo(c:Cx):List Nat->St->(St->Prop)->Prop
 |[],st,K=>K st
 |l::r,st,K=>iA c.B st fun st=>match bC st.boxes l with
  |none=>False
  |some b=>∀a:Nat,c.B<=a->st.w.heap[a]? =some (.cells b.cells.toArray b.ty (0,0))->
    yo c r {env:=jG l a st.env,boxes:=lx st.boxes l,w:=st.w,d:=st.d} K

def Ci(c:Cx)(ls:List Nat)(st:St)(K:St->Prop):Prop:=match ls with
 |[l]=>match bC st.boxes l with
  |none=>False
  |some b0=>match b0.new with
   |false=>False
   |true=>iA c.B st fun b=>match bC b.boxes l with
    |none=>False
    |some e=>∀a:Nat,c.B<=a->st.w.heap.size<=a->b.w.heap[a]? =some (.cells e.cells.toArray e.ty (0,0))->
      K {env:=jG l a b.env,boxes:=lx b.boxes l,w:=b.w,d:=b.d}
 |_=>False

def jM(o:Oper):Bool:=match o.op with
 | .load _ _=>true
 |_=>false

def ux(o:Oper):Bool:=match o.op with
 | .alloc _=>true
 | .box _ _=>true
 |_=>false

def Ip:Op->Bool
 | .alloc _=>true
 | .box _ _=>true
 | .store _ _ _=>true
 | .call cl=>match cl.callee with
  | .value _=>true
  |_=>false
 |_=>false

def wx(c:Cx)(m:Nat)(o:Oper)(st:St)(K:SV->St->Prop):Prop:=
 match Ip o.op with
 |true=>effect c (Nat.beq m 4) o st K
 |false=>match o.op with
  | .load _ x=>match ev st x with
   |some (.v _)=>iA c.B st fun st=>value c false (some st.w) none o st fun x=>K x st
   |_=>value c false none none o st fun x=>K x st
  |_=>value c (Nat.beq m 1) none none o st fun x=>K x st

def zw:List tt->List Nat
 |[]=>[]
 |x::r=>x.UC::zw r

def QS(c:Cx)(a i:Nat)(o:Oper)(st:St)(K:SV->St->Prop):Prop:=
 match gi c.mode a i with
 |2=>QQ c o st K
 |6=>tx false c o st K
 |10=>tx true c o st K
 |5=>yo c (U9 st o.op.operands.toList) st fun st=>wx c 0 o st K
 |11=>Ci c (U9 st o.op.operands.toList) st fun st=>wx c 0 o st K
 |12=>yo c (zw st.boxes) st fun st=>wx c 0 o st K
 |7=>Ld c o st K
 |m=>wx c m o st K

def BV(st:St)(s:Nat)(b:Bool):St:={st with env:=(s,match b with|true=> .t|false=> .f)::drop st.env s}

def EZ:Bool->Bool->Bool
 |true,true=>true
 |false,false=>true
 |_,_=>false

def guarded(ops:Array Oper)(o:Oper)(st:St)(K:Bool->St->Prop):Prop:=
 match o.guard with
 |none=>K true st
 |some (j,want)=>match (ops.toList[j]?).bind (·.dst)with
  |none=>False
  |some s=>match get st.env s with
   |some .u=>K false st
   |some x=>zu x fun b=>K (EZ b want) (BV st s b)
   |none=>False

def AA(c:Cx)(a:Nat)(ops:Array Oper)(i:Nat)(o:Oper)(st:St)(K:St->Prop):Prop:=
 guarded ops o st fun run st=>match run with
  |true=>QS c a i o st fun x st=>put c.N st o.dst x K
  |false=>put c.N st o.dst .u K

def FW(c:Cx)(a:Nat)(ops:Array Oper):Nat->List Oper->St->(St->Prop)->Prop
 |_,[],st,K=>K st
 |i,o::r,st,K=>AA c a ops i o st fun st=>FW c a ops (i+1) r st K

def norm:SV->SV
 | .t=> .v (.bool true)
 | .f=> .v (.bool false)
 | .p q h=> .v (.bool (@decide q h))
 |y=>y

def restrict(env:Env):List Nat->Option Env
 |[]=>some []
 |s::r=>match get env s,restrict env r with
  |some x,some l=>some ((s,norm x)::l)
  |_,_=>none

def nF(boxes:List tt):List Nat->Option (List tt)
 |[]=>some []
 |s::r=>match bC boxes s,nF boxes r with
  |some x,some l=>some (⟨x.UC,false,x.ty,x.cells⟩::l)
  |_,_=>none

def results(c:Cx)(st:St):List ResultVar->Option (List Value)
 |[]=>some []
 | .tmp t::r=>match (get st.env t).bind SV.val,results c st r with
  |some v,some vs=>some (v::vs)
  |_,_=>none
 | .cell t ty::r=>match get st.env t,results c st r with
  |some (.loc l off),some vs=>match wu c.P st.boxes ty l off with
   |some v=>some (v::vs)
   |none=>none
  |_,_=>none

def FX:List Value->Value
 |[v]=>v
 |vs=> .tuple vs.toArray

def xD(c:Cx)(st:St):List ResultVar->(List Value->Prop)->Prop
 |[],K=>K []
 | .tmp t::r,K=>match (get st.env t).bind SV.val with
  |some v=>xD c st r fun vs=>K (v::vs)
  |none=>False
 | .cell t ty::r,K=>match get st.env t with
  |some (.v (.pointer (some a)))=>BQ c.P st.w a ty fun x=>match x with
   | .v v=>xD c st r fun vs=>K (v::vs)
   |_=>False
  |_=>False

def leave(c:Cx)(st:St):Prop:=match results c st c.res with
 |some vs=>iA c.B st fun st=>c.R (FX vs) st.w
 |none=>iA c.B st fun st=>xD c st c.res fun vs=>c.R (FX vs) st.w

def iU:Code->Nat
 | .region id _ _=>id
 | .seq a _=>iU a
 | .block _ b=>iU b
 | .loop b=>iU b
 | .cond _ a _=>iU a
 | .scope b=>iU b
 |_=>0

def cutAt(c:Cx)(todo:List Item)(st:St)(live:List Nat×List Nat):Prop:=
 match restrict st.env live.1,nF st.boxes live.2 with
 |some env,some boxes=>iA c.B st fun st=>At c.P c.f c.N todo env boxes c.B st.w c.R
 |_,_=>False

def early(o:Oper):Bool:=match o.op with
 | .alloc _=>false
 | .box _ _=>false
 | .store _ _ _=>false
 | .call cl=>match cl.callee with
  | .builtin .len=>true
  | .builtin .cap=>true
  |_=>false
 | .buildSlice _ _ _=>false
 | .makeSlice _ _ _=>false
 | .makeMap _ _=>false
 | .insert _ _ _ _=>false
 | .mapUpdate _ _ _ _=>false
 | .lookup _ _ _ _=>false
 | .panic _=>false
 | .select _ _=>false
 | .binOp .add _ _ _ _=>true
 |_=>true
def rb(o:Oper):Bool:=match o.op with
 | .store _ _ _=>true
 |_=>false

def sE(listed:List Nat)(i:Nat):Nat->List Oper->List Nat->List Nat
 |_,[],acc=>acc
 |j,o::r,acc=>match !mv j listed&&o.after.toList.any fun e=>Region.binds .any e&&(Nat.beq e.on i||mv e.on acc)with
  |true=>sE listed i (j+1) r (j::acc)
  |false=>sE listed i (j+1) r acc

def gF(listed:List Nat):Nat->List Oper->List Nat
 |_,[]=>[]
 |i,o::r=>match mv i listed|| !(o.after.toList.all fun e=> !Region.binds .any e||mv e.on listed)with
  |true=>gF listed (i+1) r
  |false=>i::gF listed (i+1) r

def jH(m:Nat)(o:Oper):Bool:=match m with
 |2=>false
 |6=>false
 |10=>false
 |_=> !rb o

def sF(c:Cx)(b:Nat)(ops:Array Oper)(listed:List Nat)(i:Nat)(a:Oper)(late:List Nat):Nat->List Oper->Bool
 |_,[]=>true
 |j,o::r=>(Nat.beq j i||(match jM a&& !jH (gi c.mode b j) o with
  |true=> !mv j listed&&mv j late
  |false=>mv j listed||mv j late||a.apart ops o))&&sF c b ops listed i a late (j+1) r

def lY(c:Cx)(a:Nat)(ops:Array Oper)(listed:List Nat):List Nat->Option Nat
 |[]=>none
 |i::r=>match ops.toList[i]? with
  |none=>none
  |some o=>match early o&&sF c a ops listed i o (sE listed i 0 ops.toList []) 0 ops.toList with
   |true=>some i
   |false=>lY c a ops listed r

def Fa:List Nat->Prop->(Nat->Prop)->Prop
 |[],z,_=>z
 |[i],_,K=>K i
 |i::r,z,K=>K i/\Fa r z K

def re(c:Cx)(a:Nat)(ops:Array Oper)(lw:Option World)(hold:List Nat):Nat->List Nat->St->(St->Prop)->Prop
 |0,listed,st,K=>match gF listed 0 ops.toList with
  |[]=>K st
  |_=>False
 |n+1,listed,st,K=>match lY c a ops listed (gF listed 0 ops.toList)with
  |some i=>match ops.toList[i]? with
   |none=>False
   |some o=>guarded ops o st fun run st=>match run with
    |true=>value c (Nat.beq (gi c.mode a i) 1) lw (some hold) o st fun x=>put c.N st o.dst x fun st=>re c a ops lw hold n (i::listed) st K
    |false=>put c.N st o.dst .u fun st=>re c a ops lw hold n (i::listed) st K
  |none=>Fa (gF listed 0 ops.toList) (K st) fun i=>match ops.toList[i]? with
   |none=>False
   |some o=>AA c a ops i o st fun st=>re c a ops lw hold n (i::listed) st K

def pZ:List Oper->List Nat
 |[]=>[]
 |o::r=>match o.op,o.dst with
  | .alloc _,some d=>d::pZ r
  | .box _ _,some d=>d::pZ r
  |_,_=>pZ r

def xE(st:St)(ops:Array Oper):List Nat:=(zw st.boxes).filter fun l=> !mv l (pZ ops.toList)

def yp(n:Nat):List Oper->Bool
 |[]=>true
 |o::r=>(o.after.toList.all fun e=> !Region.binds .any e||Nat.blt e.on n)&&yp n r

def nG:List Oper->Bool
 |[]=>true
 |o::r=>match o.op with
  | .select _ _=>false
  |_=>nG r

def Iq(b:Bool)(B:Nat)(st:St)(K:St->Prop):Prop:=match b with
 |true=>iA B st K
 |false=>K st

def my(o:Oper)(f:Nat):Bool:=o.after.toList.any fun e=>Region.binds .any e&&Nat.beq e.on f
def yq(l f:Nat):Nat->List Oper->Bool
 |_,[]=>true
 |j,o::r=>(Nat.beq j f|| !(match o.dst with|some d=>Nat.beq d l|none=>false))&&yq l f (j+1) r
def QU(c:Cx)(a:Nat)(ops:Array Oper)(f:Nat):Bool:=match ops.toList[f]? with
 |some o=>(match o.op,o.dst,o.guard with
  | .alloc t,some l,none=>(match zeroCells c.P t with|some _=>true|none=>false)&&Nat.blt l c.N&&yq l f 0 ops.toList
  |_,_,_=>false)&&Nat.beq (gi c.mode a f) 0&&o.after.toList.all fun e=> !Region.binds .any e
 |none=>false
def zx(c:Cx)(a:Nat)(ops:Array Oper)(fl:List Nat):List Nat->Option Nat
 |[]=>none
 |f::r=>match !mv f fl&&QU c a ops f with
  |true=>some f
  |false=>zx c a ops fl r
def eY(ops:Array Oper)(f:Nat):Nat:=match (ops.toList[f]?).bind (·.dst)with
 |some l=>l
 |none=>0
def clean(ops:Array Oper):List Nat->St->St
 |[],st=>st
 |f::r,st=>clean ops r {st with env:=drop st.env (eY ops f)}
def tidy(ops:Array Oper)(fl:List Nat)(st:St):St:=match fl with
 |[]=>st
 |f::r=>(clean ops (f::r) st).wZ
def ru(st:St)(l ty:Nat)(cells:List Value):St:=
 {env:=(l,.loc l 0)::drop (qX st.env l) l,boxes:=⟨l,false,ty,cells⟩::lx st.boxes l,w:=st.w,d:=st.d}
def tz(c:Cx)(ops:Array Oper):List Nat->St->(St->Prop)->Prop
 |[],st,K=>K st
 |f::r,st,K=>match ops.toList[f]? with
  |some o=>match o.op,o.dst with
   | .alloc t,some l=>match zeroCells c.P t with
    |some cells=>tz c ops r (ru st l t cells) K
    |none=>False
   |_,_=>False
  |none=>False
def waited(o:Oper)(b:Bool):List Nat->List Nat
 |[]=>[]
 |f::r=>match EZ (my o f) b with
  |true=>f::waited o b r
  |false=>waited o b r
def pK:List Nat->List Nat->List Nat
 |[],l=>l
 |x::r,l=>x::pK r l
def jN(c:Cx)(a:Nat)(ops:Array Oper)(lw:Option World)(hold:List Nat):Nat->List Nat->List Nat->St->(St->Prop)->Prop
 |0,listed,fl,st,K=>match gF (pK fl listed) 0 ops.toList with
  |[]=>tz c ops fl st K
  |_=>False
 |n+1,listed,fl,st,K=>match zx c a ops fl (gF listed 0 ops.toList)with
  |some f=>jN c a ops lw hold n listed (f::fl) (tidy ops (f::fl) st) K
  |none=>match lY c a ops listed (gF listed 0 ops.toList)with
   |some i=>match ops.toList[i]? with
    |none=>False
    |some o=>guarded ops o st fun run st=>match run with
     |true=>value c (Nat.beq (gi c.mode a i) 1) lw (some hold) o st fun x=>put c.N st o.dst x fun st=>jN c a ops lw hold n (i::listed) fl (tidy ops fl st) K
     |false=>put c.N st o.dst .u fun st=>jN c a ops lw hold n (i::listed) fl (tidy ops fl st) K
   |none=>Fa (gF (pK fl listed) 0 ops.toList) (tz c ops fl st K) fun i=>match ops.toList[i]? with
    |none=>False
    |some o=>tz c ops (waited o true fl) st fun st=>match waited o false fl with
     |[]=>AA c a ops i o st fun st=>jN c a ops lw hold n (i::pK (waited o true fl) listed) [] st K
     |g::r=>match jH (gi c.mode a i) o&& !ux o with
      |true=>AA c a ops i o st fun st=>jN c a ops lw hold n (i::pK (waited o true fl) listed) (g::r) (tidy ops (g::r) st) K
      |false=>False

def region(c:Cx)(a:Nat)(ops:Array Oper)(draw:Bool)(st:St)(K:St->Prop):Prop:=match draw with
 |false=>match nG ops.toList with
  |true=>FW c a ops 0 ops.toList st K
  |false=>False
 |true=>match nG ops.toList&&yp ops.toList.length ops.toList with
  |true=>Iq (Nat.beq (gi c.mode a 9999) 3) c.B st fun st=>
    match Nat.beq (gi c.mode a 9998) 8 with
    |true=>jN c a ops (match st.d with|none=>some st.w|some _=>none) (xE st ops) ops.toList.length [] [] st.wZ K
    |false=>re c a ops (match st.d with|none=>some st.w|some _=>none) (xE st ops) ops.toList.length [] st.wZ K
  |false=>False

def run(c:Cx):Nat->Bool->List Item->St->Prop
 |0,_,_,_=>False
 |n+1,first,todo,st=>match todo with
  |[]=>leave c st
  | .code d::k=>match d with
   | .ret=>leave c st
   | .skip=>run c n false k st
   | .seq a b=>run c n first (.code a:: .code b::k) st
   | .cond x a b=>Az (ev st x) fun v=>zu v fun t=>match t with
    |true=>run c n false (.code a::k) st
    |false=>run c n false (.code b::k) st
   | .block id b=>run c n first (.code b:: .inBlock id::k) st
   | .loop b=>match Nr c.ZS true (iU b)with
    |some live=>cutAt c (.code (.loop b)::k) st live
    |none=>run c n false (.code b:: .inLoop b::k) st
   | .exit id=>match exitTo id k with
    |some e=>run c n false e st
    |none=>False
   | .region id ops draw=>match first,Nr c.ZS false id with
    |false,some live=>cutAt c (.code (.region id ops draw)::k) st live
    |_,_=>region c id ops draw st fun st=>run c n false k st
   |_=>False
  | .inBlock _::k=>run c n false k st
  | .inLoop b::k=>match Nr c.ZS true (iU b)with
   |some live=>cutAt c (.code (.loop b)::k) st live
   |none=>run c n false (.code b:: .inLoop b::k) st
  |_=>False

def qf(key:Nat):Code->List Item->Option (List Item)
 | .seq a b,k=>match qf key a (.code b::k)with
  |some x=>some x
  |none=>qf key b k
 | .cond _ a b,k=>match qf key a k with
  |some x=>some x
  |none=>qf key b k
 | .block id b,k=>qf key b (.inBlock id::k)
 | .loop b,k=>match Nat.beq (iU b) key with
  |true=>some (.code (.loop b)::k)
  |false=>qf key b (.inLoop b::k)
 |_,_=>none

def lG(key:Nat):Code->List Item->Option (List Item)
 | .seq a b,k=>match lG key a (.code b::k)with
  |some x=>some x
  |none=>lG key b k
 | .cond _ a b,k=>match lG key a k with
  |some x=>some x
  |none=>lG key b k
 | .block id b,k=>lG key b (.inBlock id::k)
 | .loop b,k=>lG key b (.inLoop b::k)
 | .region id ops d,k=>match Nat.beq id key with
  |true=>some (.code (.region id ops d)::k)
  |false=>none
 |_,_=>none

def Le(f:Func)(key:Nat):List Item:=match f.body with
 |some b=>(qf key b []).getD []
 |none=>[]
def Cj(f:Func)(key:Nat):List Item:=match f.body with
 |some b=>(lG key b []).getD []
 |none=>[]
def inside:List Item->List Item
 | .code (.loop b)::k=> .code b:: .inLoop b::k
 |k=>k

def uS:Nat->List Value->Env
 |_,[]=>[]
 |i,v::r=>(i,.v v)::uS (i+1) r

theorem beq_true{a b:Nat}:Nat.beq a b=true->a=b:=Nat.eq_of_beq_eq_true
theorem beq_false{a b:Nat}:Nat.beq a b=false->a≠b:=Nat.ne_of_beq_eq_false

theorem jo{x:Nat×SV}{r:Env}{s:Nat}:get (x::r) s=if x.1=s then some x.2 else get r s:=by
 simp only[get];cases h:Nat.beq x.1 s with
 |true=>simp[beq_true h]
 |false=>simp[beq_false h]

theorem qg{r:Env}{s t:Nat}:get (drop r s) t=if t=s then none else get r t:=by
 induction r with
 |nil=>simp[drop,get]
 |cons x r ih=>
  simp only[drop];cases h:Nat.beq x.1 s with
  |true=>
   simp only[ih,jo];have:=beq_true h;by_cases e:t=s
   ·simp[e]
   ·simp only[aq e];rw[aq om]
  |false=>
   simp only[jo,ih];have:=beq_false h;by_cases e:x.1=t
   ·simp[e];omega
   ·simp[e]

theorem cN{x:tt}{r:List tt}{s:Nat}:bC (x::r) s=if x.UC=s then some x else bC r s:=by
 simp only[bC];cases h:Nat.beq x.UC s with
 |true=>simp[beq_true h]
 |false=>simp[beq_false h]

theorem dE{r:List tt}{s t:Nat}:bC (lx r s) t=if t=s then none else bC r t:=by
 induction r with
 |nil=>simp[lx,bC]
 |cons x r ih=>
  simp only[lx];cases h:Nat.beq x.UC s with
  |true=>
   simp only[ih,cN];have:=beq_true h;by_cases e:t=s
   ·simp[e]
   ·simp only[aq e];rw[aq om]
  |false=>
   simp only[cN,ih];have:=beq_false h;by_cases e:x.UC=t
   ·simp[e];omega
   ·simp[e]

theorem rf{x:SV}{v:Value}(h:x.val=some v)(b:Nat->Nat):x.den b=v:=by
 cases x<;>simp_all [SV.val,SV.den]

def act(T:Array Value):Act:=⟨T,[]⟩

section ops
variable {c:Cx} {b:Nat->Nat} {st:St} {T:Array Value}

theorem cQ(he:qY b st.env T){x:Operand}{v:SV}(h:ev st x=some v):(act T).eval x=v.den b:=by
 cases x with
 |tmp t=>
  have:=he t v h;simp[act,Act.eval,this]
 |const w=>
  cases w<;>simp only[ev]at h<;>(try (cases h;rfl))
  rename_i q;cases q<;>simp only[ev]at h<;>(cases h;rfl)
 |global g=>simp only[ev]at h;cases h;rfl
 |func f=>simp only[ev]at h;cases h;rfl

theorem BW(he:qY b st.env T):∀{l:List Operand} {vs:List Value},pJ st l=some vs->l.map (act T).eval=vs:=by
 intro l;induction l with
 |nil=>intro vs h;simp only[pJ]at h;cases h;rfl
 |cons x r ih=>
  intro vs h;simp only[pJ]at h;cases hx:(ev st x).bind SV.val with
  |none=>simp[hx]at h
  |some v=>
   cases a:pJ st r with
   |none=>simp[hx,a]at h
   |some ws=>
    simp only[hx,a]at h;cases h;obtain⟨sv,h1,d⟩:=xt.1 hx;simp[ih a,cQ he h1,rf d b]

theorem ZU(he:qY b st.env T){x:Operand}(h:((ev st x).bind SV.val).isSome=true):rho st x=(act T).eval x:=by
 obtain⟨v,a⟩:=MD.1 h;obtain⟨sv,h1,d⟩:=xt.1 a;simp[rho,a,cQ he h1,rf d b]

theorem Lg{l:List Operand}(h:Cg st l=true):∀x∈l,((ev st x).bind SV.val).isSome=true:=by
 induction l with
 |nil=>simp
 |cons y r ih=>
  simp only[Cg]at h;cases hy:((ev st y).bind SV.val).isSome with
  |false=>simp[hy]at h
  |true=>
   simp only[hy]at h;intro x hx;rcases cb.1 hx with rfl|hx
   ·exact hy
   ·exact ih h x hx

theorem Lh{α:Type}{P:Program}{s:Sem α}{a:α}(h:xC P s=some a)(w:World):s.run P w= .ok a w:=by
 induction s with
 |pure x=>simp only[xC]at h;cases h;rfl
 |program k ih=>simp only[xC]at h;exact ih P h
 |_=>simp[xC]at h

theorem Ir{k:IntKind}{n:Int}(h:aN k n):k.wrap n=n:=by
 cases k<;>simp only[aN]at h<;>simp only[IntKind.wrap,IntKind.bits,IntKind.signed]<;>simp<;>omega

def Ns(c:Cx)(b:Nat->Nat)(T:Array Value)(o:Oper)(Ok:World->Prop)(K:SV->Prop):Prop:=
 ∃x:SV,K x/\∀w,Ok w->(execOp (act T).eval o).run c.P w= .ok (.value (x.den b)) w

variable {o:Oper} {Ok:World->Prop} {K:SV->Prop}

theorem bY(he:qY b st.env T)(hs:∀cs q,o.op≠ .select cs q)(h:qZ c o st K):Ns c b T o Ok K:=by
 unfold qZ at h;cases a:Cg st o.op.operands.toList with
 |false=>simp[a]at h
 |true=>
  simp only[a]at h;have d:execOp (act T).eval o=execOp (rho st) o:=execOp_congr o hs fun x hx=>(ZU he (Lg a x (by simpa using hx))).symm
  cases hp:xC c.P (execOp (rho st) o)with
  |none=>simp[hp]at h
  |some n=>
   cases n with
   |value v=>
    simp only[hp]at h;exact⟨.v v,h,fun w _=>by rw[d];exact Lh hp w⟩
   |_=>simp[hp]at h

theorem sG{raw:Bool}{k:IntKind}{n:Int}(h:num raw k n K):∃m,K (.v (.int k m))/\k.wrap n=m:=by
 cases raw
 ·exact⟨n,h.2,Ir h.1⟩
 ·exact⟨_,h,rfl⟩

theorem tA{x:SV}{B:Bool->Prop}(h:zu x B):∃t,x.den b= .bool t/\B t:=by
 cases x with
 |t=>exact⟨true,rfl,h⟩
 |f=>exact⟨false,rfl,h⟩
 |p q d=>
  by_cases a:q
  ·exact⟨true,by simp[SV.den,a],h.1 a⟩
  ·exact⟨false,by simp[SV.den,a],h.2 a⟩
 |v w=>
  cases w<;>simp only[zu]at h;rename_i t;cases t
  ·exact⟨false,rfl,h.2 rfl⟩
  ·exact⟨true,rfl,h.1 rfl⟩
 |_=>exact h.elim

theorem Fb{k l:IntKind}(h:xB k l=true):k=l:=by cases k<;>cases l<;>simp_all [xB]

theorem Om{op:BinOp}{k:IntKind}{x y:Int}(h:KZ op x y K):∃s:SV,K s/\∀P w,(Op.intCmp op x y).run P w= .ok (s.den b) w:=by
 cases op<;>simp only[KZ]at h<;>first|exact h.elim|skip
 ·have e:(x==y)=decide (x=y):=by rw[ya];simp
  exact⟨_,h,fun P w=>by simp[Op.intCmp,SV.den,e]⟩
 ·have e:(x !=y)=decide (x≠y):=by rw[ya];simp
  exact⟨_,h,fun P w=>by simp[Op.intCmp,SV.den,e]⟩
 ·exact⟨_,h,fun P w=>by simp[Op.intCmp,SV.den]⟩
 ·exact⟨_,h,fun P w=>by simp[Op.intCmp,SV.den]⟩
 ·exact⟨_,h,fun P w=>by simp[Op.intCmp,SV.den]⟩
 ·exact⟨_,h,fun P w=>by simp[Op.intCmp,SV.den]⟩

theorem FY{raw:Bool}{op:BinOp}{k:IntKind}{x y:Int}{t:TypeId}(h:FU raw op k x y K):
  ∃s:SV,K s/\∀P w,(binOp op t (.int k x) (.int k y)).run P w= .ok (s.den b) w:=by
 have go:∀m,(∀P w,(binOp op t (.int k x) (.int k y)).run P w= .ok (.int k m) w)->K (.v (.int k m))->∃s:SV,K s/\∀P w,(binOp op t (.int k x) (.int k y)).run P w= .ok (s.den b) w:=fun m h1 d=>⟨_,d,h1⟩
 cases op<;>simp only[FU]at h
 case shl=>exact go _ (fun P w=>by simp[binOp,shift_shl k k x y h.1.1 h.1.2,qd]) h.2
 case shr=>exact go _ (fun P w=>by simp[binOp,shift_shr k k x y h.1.1 h.1.2,ny]) h.2
 case and=>exact go _ (fun P w=>by simp[binOp,intBits_and]) h
 case or=>exact go _ (fun P w=>by simp[binOp,intBits_or]) h
 case xor=>exact go _ (fun P w=>by simp[binOp,intBits_xor]) h
 case andNot=>exact go _ (fun P w=>by simp[binOp,intBits_andNot]) h
 case add=>obtain⟨m,h1,d⟩:=sG h;exact go m (fun P w=>by simp[binOp,Op.intArith,d]) h1
 case sub=>obtain⟨m,h1,d⟩:=sG h;exact go m (fun P w=>by simp[binOp,Op.intArith,d]) h1
 case mul=>obtain⟨m,h1,d⟩:=sG h;exact go m (fun P w=>by simp[binOp,Op.intArith,d]) h1
 case quo=>
  cases raw
  ·obtain⟨⟨g,h1,d⟩,i⟩:=h;have e:x.tdiv y=x / y:=OC g;have j:aN k (x / y):=by
    have a:0<=x / y:=Int.ediv_nonneg g om;have a2:x / y<=x:=Int.ediv_le_self y g;cases k<;>simp only[aN]at d⊢<;>omega
   exact go _ (fun P w=>by simp[binOp,Op.intDiv,show y≠0 by omega,e,Ir j]) i
  ·exact go _ (fun P w=>by simp[binOp,Op.intDiv,h.1]) h.2
 case rem=>
  cases raw
  ·obtain⟨⟨g,h1⟩,i⟩:=h;exact go _ (fun P w=>by simp[binOp,Op.intDiv,show y≠0 by omega,Pl g]) i
  ·exact go _ (fun P w=>by simp[binOp,Op.intDiv,h.1]) h.2
 all_goals
  obtain⟨s,h1,d⟩:=Om (b:=b) (k:=k) h;exact⟨s,h1,fun P w=>by simpa[binOp]using d P w⟩

theorem beq_toList(a b:ByteArray):(a.toList==b.toList)=decide (a=b):=by
 rw[<-beq_toListBytes,ya];obtain⟨x⟩:=a;obtain⟨y⟩:=b;show(x==y)=true↔_;simp

theorem FZ{op:BinOp}{x y:ByteArray}{t:TypeId}(h:La op x y K):
  ∃s:SV,K s/\∀P w,(binOp op t (.string x) (.string y)).run P w= .ok (s.den b) w:=by
 cases op<;>simp only[La]at h<;>first|exact h.elim|skip
 case add=>exact⟨_,h.2,fun P w=>by simp[binOp,Op.stringOp,SV.den,IntKind.max,IntKind.signed,IntKind.bits];omega⟩
 case eql=>exact⟨_,h,fun P w=>by simp[binOp,Op.stringOp,SV.den,beq_toList]⟩
 case neq=>exact⟨_,h,fun P w=>by simp[binOp,Op.stringOp,SV.den,beq_toList]⟩

structure Ck (b:Nat->Nat) (st:St) (lw:Option World) (hold:Option (List Nat)) (w:World):Prop where
 box:∀l x,FV hold l=true->bC st.boxes l=some x->w.heap[b l]? =some (.cells x.cells.toArray x.ty (0,0))
 cell:∀v,lw=some v->∀a u,v.cell? a=some u->w.cell? a=some u

theorem wy{P:Program}{t:TypeId}{d:TypeDesc}(h:P.underlying t=some d)(w:World):(isAgg t).run P w= .ok (gh P t) w:=by
 simp only[isAgg,gh,Sem.run_bind,run_underlying h,Result.andThen_ok,h];cases d<;>rfl

theorem run_loadCellsFrom{P:Program}(w:World)(a:Addr):∀(vs:List Value)(i:Nat)(acc:Array Value),(∀j,(h:j<vs.length)->w.cell? (a.add (i+j))=some vs[j])->
  (loadCellsFrom a i vs.length acc).run P w= .ok (acc++vs.toArray) w:=by
 intro vs;induction vs with
 |nil=>intro i acc _;simp[loadCellsFrom]
 |cons v r ih=>
  intro i acc h;have d:=h 0 sm;simp only[xK,List.getElem_cons_zero]at d;have e:=ih (i+1) (acc.push v) (fun j hj=>by have:=h (j+1) (by simpa using hj);simpa[ME,M9 1 j]using this);simp only[ew,loadCellsFrom,Sem.run_bind];have hl:(load (a.add i)).run P w= .ok v w:=by simp[load,Sem.run,d]
  rw[hl];simp only[Result.andThen_ok,e]
  congr 1
  simp

theorem AB{P:Program}{t:TypeId}{d:TypeDesc}(h:P.underlying t=some d)(w:World)(a:Addr)(v:Value)
  (g:aa w a v.cells.toList) (e:match gh P t with
   |true=>∃cs:Array Value,v= .agg cs/\cs.size=P.cellsOf t
   |false=>v.cells= #[v]):(loadVar t a).run P w= .ok v w:=by
 simp only[loadVar,Sem.run_bind,wy h,Result.andThen_ok];cases hg:gh P t with
 |true=>
  simp only[hg]at e;obtain⟨cs,rfl,hn⟩:=e;simp only[Value.cells]at g;have hi:∃i,P.info? t=some i:=by
   cases l:P.info? t with
   |none=>simp[Program.underlying,l]at h
   |some i=>exact⟨i,rfl⟩
  obtain⟨i,hi⟩:=hi;have hs:(sizeOf t).run P w= .ok (P.cellsOf t) w:=by simp[sizeOf,typeInfo,program,Sem.run_bind,Sem.run,hi,Program.cellsOf]
  have:=run_loadCellsFrom (P:=P) w a cs.toList 0 #[] (fun j hj=>by simpa using g j hj);simp only[ri,hn]at this;simp[hs,loadCells,this]
 |false=>
  simp only[hg]at e;have k:=g 0 (by simp[e]);simp only[e]at k;have h1:w.cell? a=some v:=by simpa[Addr.add]using k
  simp[load,Sem.run,h1]

theorem zy{w:World}{n:Nat}{cells:List Value}{ty:Nat}{fr:Nat×Nat}(h:w.heap[n]? =some (.cells cells.toArray ty fr))(off i:Nat):
  w.cell? ((⟨n,off,none⟩:Addr).add i)=cells[off+i]? :=by
 by_cases hi:i=0
 ·subst hi;simp[Addr.add,World.cell?,h]
 ·simp[Addr.add,hi,World.cell?,h]

theorem zA{l:Lf}{Q:Value->Prop}(h:QN l Q):∃v,Q v/\(l≠ .any->v.cells= #[v]):=by
 cases l<;>simp only[QN]at h
 ·obtain⟨n,h⟩:=h;exact⟨_,h,fun _=>rfl⟩
 ·obtain⟨n,h⟩:=h;exact⟨_,h,fun _=>rfl⟩
 ·obtain⟨n,h⟩:=h;exact⟨_,h,fun _=>rfl⟩
 ·obtain⟨A,n,k,h⟩:=h;exact⟨_,h,fun _=>rfl⟩
 ·obtain⟨A,n,k,h⟩:=h;exact⟨_,h,fun _=>rfl⟩
 ·obtain⟨n,h⟩:=h;exact⟨_,h,fun _=>rfl⟩
 ·obtain⟨n,h⟩:=h;exact⟨_,h,fun _=>rfl⟩
 ·obtain⟨v,h⟩:=h;exact⟨v,h,fun e=>absurd rfl e⟩

theorem Cn:∀{l:List Lf} {Q:List Value->Prop},Nq l Q->∃vs,vs.length=l.length/\Q vs:=by
 intro l;induction l with
 |nil=>intro Q h;exact⟨[],rfl,h⟩
 |cons x r ih=>
  intro Q h;obtain⟨v,h,_⟩:=zA h;obtain⟨vs,hl,h⟩:=ih h;exact⟨v::vs,by simp[hl],h⟩

theorem Fc{s:S1}{Q:Value->Prop}(h:ZR s Q):∃v,Q v:=by
 cases s with
 |one l=>obtain⟨v,h,_⟩:=zA h;exact⟨v,h⟩
 |agg ls=>obtain⟨vs,_,h⟩:=Cn h;exact⟨_,h⟩
theorem Li:∀{l:List S1} {Q:List Value->Prop},QO l Q->∃vs,Q vs:=by
 intro l;induction l with
 |nil=>intro Q h;exact⟨[],h⟩
 |cons x r ih=>intro Q h;obtain⟨v,h⟩:=Fc h;obtain⟨vs,h⟩:=ih h;exact⟨_,h⟩
theorem zB{s:Sh}{Q:Value->Prop}(h:U8 s Q):∃v,Q v:=by
 cases s with
 |s x=>exact Fc h
 |tup l=>obtain⟨vs,h⟩:=Li h;exact⟨_,h⟩

theorem xa{P:Program}{t:TypeId}{l off:Nat}{v:Value}{w:World}(h:wu P st.boxes t l off=some v)
  (hb:∀x,bC st.boxes l=some x->w.heap[b l]? =some (.cells x.cells.toArray x.ty (0,0))):(loadVar t ⟨b l,off,none⟩).run P w= .ok v w:=by
 unfold wu at h;cases hx:bC st.boxes l with
 |none=>simp[hx]at h
 |some x=>
  have e:=hb x hx;cases a:P.underlying t with
  |none=>simp[hx,a]at h
  |some d=>
   simp only[hx,a]at h;cases hg:gh P t with
   |true=>
    simp only[hg]at h;cases hle:Nat.ble (off+P.cellsOf t) x.cells.length with
    |false=>simp[hle]at h
    |true=>
     simp only[hle]at h;cases h;have hle:=Ox hle;have hlen:(yn x.cells off (P.cellsOf t)).length=P.cellsOf t:=by simp[yn];omega
     refine AB a w _ _ ?_ (by simp only[hg];exact⟨_,rfl,by simp[hlen]⟩);intro i hi;rw[zy e];simp only[Value.cells]at hi⊢;have:i<P.cellsOf t:=by simpa[hlen]using hi
     simp[yn,af (show off+i<x.cells.length by omega)]
   |false=>
    simp only[hg]at h;have g:w.cell? ⟨b l,off,none⟩=some v:=by simpa[Addr.add]using(zy e off 0).trans h
    simp only[loadVar,Sem.run_bind,wy a,Result.andThen_ok,hg];simp[load,Sem.run,g]

theorem xb{P:Program}{t:TypeId}{a:Addr}{v:World}(h:BQ P v a t K):
  ∃u,K (.v u)/\∀w,(∀k m,v.cell? k=some m->w.cell? k=some m)->(loadVar t a).run P w= .ok u w:=by
 unfold BQ at h;cases e:P.underlying t with
 |none=>simp[e]at h
 |some d=>
  simp only[e]at h;cases hg:gh P t with
  |true=>
   simp only[hg]at h;cases hle:Nat.beq (Io P 8 t).length (P.cellsOf t)with
   |false=>simp[hle]at h
   |true=>
    simp only[hle]at h;obtain⟨vs,hl,g,j⟩:=Cn h;refine⟨_,j,fun w hw=>AB e w a _ (fun i hi=>hw _ _ (g i (by simpa[Value.cells]using hi))) ?_⟩;simp only[hg];exact⟨_,rfl,by simp[hl,beq_true hle]⟩
  |false=>
   simp only[hg]at h;cases hl:Io P 8 t with
   |nil=>simp[hl]at h
   |cons l r=>
    simp only[hl]at h;obtain⟨u,⟨g,j⟩,hu⟩:=zA h;refine⟨u,j,fun w hw=> ?_⟩;have n:=hw _ _ (g 0 sm);have h1:w.cell? a=some u:=by simpa[Addr.add]using n
    simp only[loadVar,Sem.run_bind,wy e,Result.andThen_ok,hg];simp[load,Sem.run,h1]

theorem lH{x:Option SV}{Q:SV->Prop}(h:Az x Q):∃v,x=some v/\Q v:=by
 cases x with
 |none=>exact h.elim
 |some v=>exact⟨v,rfl,h⟩

def Bd(v:Option Value)(n:Option Int):Prop:=match v,n with
 |none,none=>True
 |some y,some m=>∃k,y= .int k m
 |_,_=>False

theorem Co{x:Option Operand}{Q:Option Int->Prop}(he:qY b st.env T)(h:bound st x Q):
  ∃n:Option Int,Q n/\Bd (x.map (act T).eval) n:=by
 cases x with
 |none=>exact⟨none,h,trivial⟩
 |some y=>
  unfold bound at h;simp only at h;cases hy:ev st y with
  |none=>simp[hy]at h
  |some v=>
   cases v with
   |v u=>
    cases u with
    |int k n=>simp only[hy]at h;exact⟨some n,h,k,cQ he hy⟩
    |_=>simp[hy]at h
   |_=>simp[hy]at h

theorem run_sliceBound{P:Program}{k:IntKind}{n:Int}{y:Nat}{code:BoundsCode}(w:World)(h:0<=n/\n<=y):(Instr.sliceBound (.int k n) y code).run P w= .ok n.toNat w:=by
 simp[Instr.sliceBound,asIntOf,h]

theorem run_sizeOf{P:Program}{t:TypeId}{d:TypeDesc}(a:P.underlying t=some d)(w:World):(sizeOf t).run P w= .ok (P.cellsOf t) w:=by
 have hi:∃i,P.info? t=some i:=by
  cases e:P.info? t with
  |none=>simp[Program.underlying,e]at a
  |some i=>exact⟨i,rfl⟩
 obtain⟨i,hi⟩:=hi;simp[sizeOf,typeInfo,program,Sem.run_bind,Sem.run,hi,Program.cellsOf]
end ops
section
variable {c:Cx} {b:Nat->Nat} {st:St} {T:Array Value} {o:Oper} {K:SV->Prop}

theorem lI{P:Program}{t:TypeId}(h:known P t=true):∃d,P.underlying t=some d:=by
 unfold known at h;cases a:P.underlying t with
 |none=>simp[a]at h
 |some d=>exact⟨d,rfl⟩

theorem F0{P:Program}{t:TypeId}{x:SV}{lo hi:Option Int}{lv j:Option Value}(h:Lb P t x lo hi K)
  (hl:Bd lv lo) (i:Bd j hi):
  ∃s:SV,K s/\∀w,(Instr.sliceAt t (x.den b) lv j none).run P w= .ok (s.den b) w:=by
 unfold Lb at h
 revert h
 generalize g:P.underlying t=l;intro h;cases l with
 |none=>exact h.elim
 |some d=>
  cases x with
  |v u=>
   cases d<;>cases u<;>first|exact h.elim|skip
   ·-- a string
    rename_i s;cases lo<;>cases hi<;>cases lv<;>cases j<;>first|exact hl.elim|exact i.elim|skip
    all_goals (simp only[Bd]at hl i;simp only at h;(try obtain⟨m,rfl⟩:=hl);(try obtain⟨q,rfl⟩:=i))
    ·refine⟨_,h,fun w=> ?_⟩;simp[Instr.sliceAt,Instr.slice,Instr.sliceBounds,Sem.run_bind,run_underlying g,SV.den]
    ·refine⟨_,h.2,fun w=> ?_⟩;simp[Instr.sliceAt,Instr.slice,Instr.sliceBounds,Sem.run_bind,run_underlying g,SV.den,run_sliceBound w h.1]
    ·refine⟨_,h.2,fun w=> ?_⟩;simp[Instr.sliceAt,Instr.slice,Instr.sliceBounds,Sem.run_bind,run_underlying g,SV.den,run_sliceBound w h.1]
    ·have h1:0<=(‹Int›:Int):=om;refine⟨_,h.2,fun w=> ?_⟩;have r:=h.1;rw[Instr.sliceAt];simp only[Sem.run_bind,run_underlying g,Result.andThen_ok,SV.den];simp only[Instr.slice,Instr.sliceBounds,Sem.run_bind,run_underlying g,Result.andThen_ok,Option.isSome_none,Ll,B5,Sem.run_pure];rw[run_sliceBound w om];simp only[Result.andThen_ok];rw[run_sliceBound w om];simp
   ·-- a slice
    rename_i e A n cap;simp only at h;cases k:known P e with
    |false=>rw[k]at h;exact h.elim
    |true=>
    rw[k]at h;obtain⟨y,he⟩:=lI k;cases lo<;>cases hi<;>cases lv<;>cases j<;>first|exact hl.elim|exact i.elim|skip
    all_goals (simp only[Bd]at hl i;simp only at h;(try obtain⟨m,rfl⟩:=hl);(try obtain⟨q,rfl⟩:=i))
    ·refine⟨_,h,fun w=> ?_⟩;simp[Instr.sliceAt,Instr.slice,Instr.sliceBounds,Sem.run_bind,run_underlying g,SV.den,run_sizeOf he];intro _;cases A<;>simp[Addr.add]
    ·refine⟨_,h.2,fun w=> ?_⟩;simp[Instr.sliceAt,Instr.slice,Instr.sliceBounds,Sem.run_bind,run_underlying g,SV.den,run_sizeOf he,run_sliceBound w h.1];intro _;cases A<;>simp[Addr.add]
    ·refine⟨_,h.2,fun w=> ?_⟩;simp[Instr.sliceAt,Instr.slice,Instr.sliceBounds,Sem.run_bind,run_underlying g,SV.den,run_sizeOf he,run_sliceBound w ⟨h.1.1,h.1.2.1⟩,cT]
    ·refine⟨_,h.2,fun w=> ?_⟩;have r:=h.1;rw[Instr.sliceAt];simp only[Sem.run_bind,run_underlying g,Result.andThen_ok,SV.den];simp only[Instr.slice,Instr.sliceBounds,Sem.run_bind,run_underlying g,Result.andThen_ok,Option.isSome_none,Ll,B5,Sem.run_pure,JS];rw[run_sliceBound w om];simp only[Result.andThen_ok];rw[run_sliceBound w om];simp[run_sizeOf he,cT]
  |_=>cases d<;>exact h.elim

theorem adE{s:ByteArray}{j:Int}(h:0<=j/\j<s.size):∃x:UInt8,s[j.toNat]? =some x/\(x.toNat:Int)=bt s j:=by
 have a:j.toNat<s.size:=om;refine⟨s[j.toNat],by simp[a],?_⟩;obtain⟨⟨d⟩⟩:=s;simp only[bt]
 congr 2
 have e:j.toNat<d.length:=a;show d[j.toNat]=d.getD j.toNat 0;simp[cz,af e]

theorem F1{P:Program}{t:TypeId}{f:Nat}{fd:Field}(h:ym P t f=some fd):∃a,P.underlying t=some (.struct a)/\a[f]? =some fd:=by
 unfold ym at h;cases e:P.underlying t with
 |none=>simp[e]at h
 |some d=>
  cases d<;>simp[e]at h;exact⟨_,rfl,h⟩

theorem AD{P:Program}{t:TypeId}{f:Nat}{fd:Field}(h:ym P t f=some fd)(hz:Nat.beq (P.cellsOf fd.type) 0=false)(a:Addr)(w:World):
  (Instr.fieldAt t (.pointer (some a)) f).run P w= .ok (.pointer (some (a.add fd.offset))) w:=by
 obtain⟨j,h1,e⟩:=F1 h;have d:=beq_false hz;have hi:∃i,P.info? fd.type=some i:=by
  cases g:P.info? fd.type with
  |none=>simp[Program.cellsOf,g]at d
  |some i=>exact⟨i,rfl⟩
 obtain⟨i,hi⟩:=hi;have hs:(sizeOf fd.type).run P w= .ok (P.cellsOf fd.type) w:=by simp[sizeOf,typeInfo,program,Sem.run_bind,Sem.run,hi,Program.cellsOf]
 simp[Instr.fieldAt,Sem.run_bind,run_underlying h1,e,Instr.sureAddr,fieldPlace,hs,d]

theorem jO(n off k:Nat):(⟨n,off,none⟩:Addr).add k=⟨n,off+k,none⟩:=by
 unfold Addr.add;split<;>simp_all
end
section
variable {c:Cx} {b:Nat->Nat} {st:St} {T:Array Value} {o:Oper} {K:SV->Prop}

theorem Cp:∀{l1 e:List Lf} {a b r s:List Value} {g:DP},a.length=l1.length->b.length=l1.length->fL (l1++e) (a++r) (b++s)=some g->
  ∃d1 d2,fL l1 a b=some d1/\fL e r s=some d2/\(g.q↔d1.q/\d2.q):=by
 intro l1;induction l1 with
 |nil=>
  intro e a b r s g ha hb h;have ea:a=[]:=eR ha;have n:b=[]:=eR hb;subst ea;subst n;exact⟨⟨True,inferInstance⟩,g,rfl,h,sm⟩
 |cons x l1 ih=>
  intro e a b r s g ha hb h;cases a with
  |nil=>simp at ha
  |cons u a=>
   cases b with
   |nil=>simp at hb
   |cons v b=>
    simp only[ew,Nat.add_right_cancel_iff]at ha hb;simp only[vv]at h;cases x<;>cases u<;>cases v<;>simp only[fL]at h<;>try (cases h;done)
    ·rename_i k0 k x l y;cases m:xB k l with
     |false=>rw[m]at h;simp at h
     |true=>
      cases he:fL (l1++e) (a++r) (b++s)with
      |none=>rw[he]at h;simp at h
      |some d=>
       rw[m,he]at h;simp only at h;cases h;obtain⟨d1,d2,h1,i,j⟩:=ih ha hb he;exact⟨⟨x=y/\d1.q,by have:=d1.h;exact inferInstance⟩,d2,by simp only[fL,m,h1],i,by simp[j,and_assoc]⟩
    ·rename_i x y;cases he:fL (l1++e) (a++r) (b++s)with
     |none=>rw[he]at h;simp at h
     |some d=>
      rw[he]at h;simp only at h;cases h;obtain⟨d1,d2,h1,i,j⟩:=ih ha hb he;exact⟨⟨x=y/\d1.q,by have:=d1.h;exact inferInstance⟩,d2,by simp only[fL,h1],i,by simp[j,and_assoc]⟩
    ·rename_i x y;cases he:fL (l1++e) (a++r) (b++s)with
     |none=>rw[he]at h;simp at h
     |some d=>
      rw[he]at h;simp only at h;cases h;obtain⟨d1,d2,h1,i,j⟩:=ih ha hb he;exact⟨⟨x=y/\d1.q,by have:=d1.h;exact inferInstance⟩,d2,by simp only[fL,h1],i,by simp[j,and_assoc]⟩

theorem Ek{p q:Prop}{hp:Decidable p}{a:Decidable q}(h:p↔q): @decide p hp= @decide q a:=by
 by_cases e:p
 ·simp[e,h.1 e]
 ·have:¬q:=fun k=>e (h.2 k)
  simp[e,this]

def tB(P:Program)(t:TypeId)(cs:List Value):Value:=match gh P t with
 |true=> .agg cs.toArray
 |false=>cs.headD undef

theorem QV{P:Program}:∀(n:Nat) {t:TypeId},uH P n t=true->(Io P n t).length=P.cellsOf t/\∃d,P.underlying t=some d:=by
 intro n;induction n with
 |zero=>intro t h;simp[uH]at h
 |succ n ih=>
  intro t h;simp only[uH]at h;simp only[Io];cases a:P.underlying t with
  |none=>simp[a]at h
  |some d=>
   rw[a]at h;refine⟨?_,d,rfl⟩;cases d<;>simp only at h⊢<;>try (simp at h;done)
   case int k=>simpa using(beq_true h).symm
   case bool=>simpa using(beq_true h).symm
   case string=>simpa using(beq_true h).symm
   case struct j=>
    simp only[de,gu]at h;obtain⟨⟨_,i⟩,q⟩:=h;have gen:∀(l:List Field)(off m:Nat),(∀f∈l,uH P n f.type=true)->tiled P off l m=true->(l.flatMap fun f=>Io P n f.type).length+off=m:=by
     intro l;induction l with
     |nil=>intro off m _ a;simp only[tiled]at a;simpa using beq_true a
     |cons f r e=>
      intro off m hf a;simp only[tiled,de]at a;have h1:=(ih (hf f sm)).1;have i:=e _ _ (fun g hg=>hf g (by simp[hg])) a.2;simp only[xJ,dp,h1];omega
    have:=gen j.toList 0 (P.cellsOf t) (fun f hf=>(q f hf).2) i;simpa using this

theorem Is{P:Program}{t:TypeId}{d:TypeDesc}(g:P.underlying t=some d){cs:List Value}{off:Nat}(h:off+P.cellsOf t<=cs.length)(h1:gh P t=false->P.cellsOf t=1)(w:World):
  (part t cs.toArray off).run P w= .ok (tB P t ((cs.drop off).take (P.cellsOf t))) w:=by
 simp only[part,Sem.run_bind,wy g,Result.andThen_ok,tB];cases hg:gh P t with
 |true=>
  simp only[JS,Sem.run_bind,run_sizeOf g,Result.andThen_ok,Sem.run_pure]
  congr 2
  apply Rq;simp[List.take_drop,M9]
 |false=>
  have hs:=h1 hg;rw[hs]at h⊢;have a:off<cs.length:=om;simp only[Ll,B5];have e:cs.toArray[off]? =some cs[off]:=by simp[a]
  rw[e];simp only[Sem.run_pure]
  congr 1
  rw[cy a];rfl

theorem Lj{P:Program}:∀(n:Nat) {t:TypeId} (d:Nat),uH P n t=true->n<=d->∀(cs i:List Value)(D:DP),cs.length=P.cellsOf t->i.length=P.cellsOf t->fL (Io P n t) cs i=some D->
  ∀w,(Op.equalIn d t (tB P t cs) (tB P t i)).run P w= .ok (@decide D.q D.h) w:=by
 intro n;induction n with
 |zero=>intro t d h;simp[uH]at h
 |succ n ih=>
  intro t d h hd cs i D B a he w;obtain⟨d,rfl⟩:∃m,d=m+1:=⟨d - 1,om⟩
  have h0:=h;simp only[uH]at h;simp only[Io]at he;cases j:P.underlying t with
  |none=>simp[j]at h
  |some O=>
   rw[j]at h he;cases O<;>simp only at h he<;>try (simp at h;done)
   case int k0=>
    have h1:=beq_true h;have hg:gh P t=false:=by simp[gh,j]
    rw[h1]at B a;obtain⟨x,rfl⟩:=u6.1 B;obtain⟨y,rfl⟩:=u6.1 a;cases x<;>cases y<;>simp only[fL]at he<;>try (simp at he;done)
    rename_i k x l y;cases G:xB k l with
    |false=>rw[G]at he;simp at he
    |true=>
     rw[G]at he;simp only[JT]at he;subst he;have Q:=Fb G;have e:(x==y)=decide (x=y):=by rw[ya];simp
     rw[Op.equalIn];simp[tB,hg,Sem.run_bind,run_underlying j,Q,e]
   case bool=>
    have h1:=beq_true h;have hg:gh P t=false:=by simp[gh,j]
    rw[h1]at B a;obtain⟨x,rfl⟩:=u6.1 B;obtain⟨y,rfl⟩:=u6.1 a;cases x<;>cases y<;>simp only[fL]at he<;>try (simp at he;done)
    rename_i x y;simp only[JT]at he;subst he;have e:(x==y)=decide (x=y):=by cases x<;>cases y<;>rfl
    rw[Op.equalIn];simp[tB,hg,Sem.run_bind,run_underlying j,e]
   case string=>
    have h1:=beq_true h;have hg:gh P t=false:=by simp[gh,j]
    rw[h1]at B a;obtain⟨x,rfl⟩:=u6.1 B;obtain⟨y,rfl⟩:=u6.1 a;cases x<;>cases y<;>simp only[fL]at he<;>try (simp at he;done)
    rename_i x y;simp only[JT]at he;subst he;have e:(x==y)=decide (x=y):=by
     rw[ya];obtain⟨x⟩:=x;obtain⟨y⟩:=y;show(x==y)=true↔_;simp
    rw[Op.equalIn];simp[tB,hg,Sem.run_bind,run_underlying j,e]
   case struct M=>
    have hg:gh P t=true:=by simp[gh,j]
    simp only[de,gu,MA]at h;obtain⟨⟨H,z⟩,I⟩:=h;have E:P.fieldsOf t=M:=by simp[Program.fieldsOf,j]
    simp only[tB,hg];rw[run_equalIn_struct w d t _ _ (by rw[E];exact j) H,E]
    have gen : ∀ (l : List Field) (off : Nat) (C : DP) (w : World), (∀ f ∈ l, f.name ≠ "_" ∧ uH P n f.type = true) → tiled P off l (P.cellsOf t) = true →
      fL (l.flatMap fun f=>Io P n f.type) (cs.drop off) (i.drop off)=some C->(Op.eqFields d cs.toArray i.toArray l).run P w= .ok (@decide C.q C.h) w:=by
     intro l;induction l with
     |nil=>
      intro off C w _ z he;simp only[tiled]at z;have:=beq_true z;have R:cs.drop off=[]:=dd om;have S:i.drop off=[]:=dd om;rw[R,S]at he;simp only[Qy,fL,JT]at he;subst he;simp[Op.eqFields]
     |cons f r J=>
      intro off C w hf z he;simp only[tiled,de]at z;have L:=beq_true z.1;obtain⟨hn,fk⟩:=hf f sm;obtain⟨hlen,fd,A⟩:=QV n fk;have hbound:off+P.cellsOf f.type<=P.cellsOf t:=by
       have:∀(l:List Field)(o m:Nat),tiled P o l m=true->o<=m:=by
        intro l;induction l with
        |nil=>intro o m h;simp only[tiled]at h;have:=beq_true h;omega
        |cons f r ih=>intro o m h;simp only[tiled,de]at h;have:=ih _ _ h.2;omega
       exact this r _ _ z.2
      have U:cs.drop off=(cs.drop off).take (P.cellsOf f.type)++cs.drop (off+P.cellsOf f.type):=by rw[<-SI];exact(iv _ _).symm
      have V:i.drop off=(i.drop off).take (P.cellsOf f.type)++i.drop (off+P.cellsOf f.type):=by rw[<-SI];exact(iv _ _).symm
      rw[U,V,xJ]at he;have lc:((cs.drop off).take (P.cellsOf f.type)).length=P.cellsOf f.type:=by simp;omega
      have ld:((i.drop off).take (P.cellsOf f.type)).length=P.cellsOf f.type:=by simp;omega
      obtain⟨d1,d2,h1,W,N⟩:=Cp (by rw[lc,hlen]) (by rw[ld,hlen]) he;have F:gh P f.type=false->P.cellsOf f.type=1:=fun hg=>by
       cases n with
       |zero=>simp[uH]at fk
       |succ n=>
        simp only[uH,A]at fk;simp only[gh,A]at hg;cases fd<;>simp only at fk hg<;>first|exact beq_true fk|(simp at fk;done)|(simp at hg;done)
      have X:=ih d fk om _ _ d1 lc ld h1 w;have Y:=J _ d2 w (fun g hg=>hf g (by simp[hg])) z.2 W;simp only[Op.eqFields,hn,ne_eq,not_false_eq_true,JS,Sem.run_bind,L,Is A (cs:=cs) (off:=off) om F,Is A (cs:=i) (off:=off) om F,Result.andThen_ok,X];have Z:=d1.h;by_cases c1:d1.q
      ·simp only[c1,decide_true,Bool.not_true,Ll,B5,Y]
       congr 1
       exact Ek (by rw[N];simp[c1])
      ·simp only[c1,decide_false,VT,JS,Sem.run_pure]
       congr 1
       have:¬C.q:=fun k=>c1 (N.1 k).1
       simp[this]
    exact gen M.toList 0 D w (fun f hf=>by have:=I f hf;simpa using this) z (by simpa using he)

theorem Cq{P:Program}{t:TypeId}{xs ys:Array Value}{q:Prop}{a:Decidable q}(h1:(uR P t&&uH P 6 t)=true)(d:fL (Io P 6 t) xs.toList ys.toList=some ⟨q,a⟩)(hx:xs.size=P.cellsOf t)(hy:ys.size=P.cellsOf t)
  (w:World):(Op.equal t (.agg xs) (.agg ys)).run P w= .ok (@decide q a) w:=by
 simp only[de]at h1;have hg:gh P t=true:=by
  have:=h1.1;unfold uR at this;unfold gh;split at this<;>simp_all
 have:=Lj 6 10000 h1.2 dc xs.toList ys.toList ⟨q,a⟩ (by simpa using hx) (by simpa using hy) d w;simp only[tB,hg]at this;exact this

theorem eB{P:Program}{op:BinOp}{t:TypeId}{x y:Operand}{u v:Value}(w:World)(h1:∀q,u≠ .agg q)(a:u≠ .nilIface):(eqGuard op t x y u v).run P w= .ok () w:=by
 unfold eqGuard;cases op<;>cases u<;>simp_all

theorem It{P:Program}{t e:TypeId}{A:Option Addr}{n m:Nat}(d:Nat)(a:P.underlying t=some (.slice e))(w:World):
  (Op.equalIn (d+1) t (.slice A n m) (.slice none 0 0)).run P w= .ok (decide (A=none)) w:=by
 rw[Op.equalIn];cases A<;>simp[Sem.run_bind,run_underlying a]
theorem F2{P:Program}{t:TypeId}{x y:Bool}(d:Nat)(a:P.underlying t=some .bool)(w:World):
  (Op.equalIn (d+1) t (.bool x) (.bool y)).run P w= .ok (decide (x=y)) w:=by
 have e:(x==y)=decide (x=y):=by cases x<;>cases y<;>rfl
 rw[Op.equalIn];simp[Sem.run_bind,run_underlying a,e]

theorem yr{P:Program}{op:BinOp}{t:TypeId}{x y:Operand}{xs ys:Array Value}(h:(uR P t&&uH P 6 t)=true)(w:World):
  (eqGuard op t x y (.agg xs) (.agg ys)).run P w= .ok () w:=by
 have a:∀(n:Nat)(d:Nat)(t:TypeId),uH P n t=true->n<=d->P.eqGuardType d t=false:=by
  intro n;induction n with
  |zero=>intro d t h;simp[uH]at h
  |succ n ih=>
   intro d t h j;obtain⟨d,rfl⟩:∃m,d=m+1:=⟨d - 1,om⟩
   simp only[uH]at h;simp only[Program.eqGuardType];cases e:P.underlying t with
   |none=>rfl
   |some g=>
    rw[e]at h;cases g<;>simp only at h⊢<;>try (simp at h;done)
    rename_i k;simp only[de,gu]at h;rw[<-Array.any_toList];rw[zI];intro f hf;have:=h.2 f hf;simp only[de];rw[ih d f.type this.2 om];simp
 simp only[de]at h;have i:6<=P.depth:=by
  unfold Program.depth;have:Made.depth≥2:=dc;omega
 have:=a 6 P.depth t h.2 i;unfold eqGuard;cases op<;>simp[Sem.run_bind,program,Sem.run,this]

theorem Cr{x:SV}{t:Bool}(h:Cf x=some t):x.den b= .bool t:=by
 cases x with
 |v u=>cases u<;>simp_all [Cf,SV.den]
 |_=>simp_all [Cf,SV.den]

set_option maxHeartbeats 1000000 in
theorem Vb{j:Int}{n:Nat}{Q:Nat->Prop}(h:each j n Q){k:Nat}(d:k<n)(e:j=(k:Int)):Q k:=by
 induction n with
 |zero=>omega
 |succ n ih=>
  simp only[each]at h;by_cases a:k=n
  ·subst a;exact h.2 e
  ·exact ih h.1 om

theorem rh{raw:Bool}{lw:Option World}{hold:Option (List Nat)}{Ok:World->Prop}(R:jM o=true->∀w,Ok w->Ck b st lw hold w)(he:qY b st.env T)(hs:∀cs q,o.op≠ .select cs q)(h:value c raw lw hold o st K):
  Ns c b T o Ok K:=by
 unfold value at h;cases g:o.op<;>simp only[g]at h<;>try exact bY he hs h
 case move x=>
  obtain⟨v,I,z⟩:=lH h;exact⟨v,z,fun w _=>by simp[execOp,g,cQ he I]⟩
 case assign x=>
  obtain⟨v,I,z⟩:=lH h;exact⟨v,z,fun w _=>by simp[execOp,g,cQ he I]⟩
 case pick cnd x y=>
  obtain⟨v,I,hB⟩:=lH h;obtain⟨t,B,h⟩:=tA (b:=b) hB;cases t
  ·obtain⟨V,hu,z⟩:=lH h;exact⟨V,z,fun w _=>by simp[execOp,g,cQ he I,B,asBool,cQ he hu]⟩
  ·obtain⟨V,hu,z⟩:=lH h;exact⟨V,z,fun w _=>by simp[execOp,g,cQ he I,B,asBool,cQ he hu]⟩
 case unOp u t x=>
  cases u<;>simp only at h<;>try exact bY he hs h
  case xor=>
   cases hx:ev st x with
   |none=>simp[hx]at h
   |some v=>
    rw[hx]at h;cases v with
    |v a=>
     cases a<;>try exact h.elim
     exact⟨_,h,fun w _=>by simp[execOp,g,cQ he hx,SV.den,Op.unary,intBits_xor]⟩
    |_=>exact h.elim
  ·cases hx:ev st x with
   |none=>simp[hx]at h
   |some v=>
    rw[hx]at h;cases v with
    |v a=>
     cases a<;>try exact h.elim
     rename_i k n;obtain⟨m,h1,J⟩:=sG h;exact⟨_,h1,fun w _=>by simp[execOp,g,cQ he hx,SV.den,Op.unary,Op.intArith,<-J]⟩
    |_=>exact h.elim
  ·cases hx:ev st x with
   |none=>simp[hx]at h
   |some v=>
    rw[hx]at h;cases v with
    |v a=>
     cases a<;>try exact h.elim
     rename_i t;exact⟨_,h,fun w _=>by cases t<;>simp[execOp,g,cQ he hx,SV.den,Op.unary]⟩
    |t=>exact⟨_,h,fun w _=>by simp[execOp,g,cQ he hx,SV.den,Op.unary]⟩
    |f=>exact⟨_,h,fun w _=>by simp[execOp,g,cQ he hx,SV.den,Op.unary]⟩
    |p q hq=>exact⟨_,h,fun w _=>by by_cases hc:q<;>simp[execOp,g,cQ he hx,SV.den,Op.unary,hc]⟩
    |_=>exact h.elim
 case convert src dst x=>
  cases W:c.P.underlying dst with
  |none=>rw[W]at h;exact bY he hs h
  |some d=>
   cases hx:ev st x with
   |none=>rw[W,hx]at h;cases d<;>exact bY he hs h
   |some v=>
    rw[W,hx]at h;cases d<;>try exact bY he hs h
    cases v<;>try exact bY he hs h
    rename_i k a;cases a<;>try exact bY he hs h
    rename_i Q n;simp only at h;cases r:known c.P src with
    |false=>rw[r]at h;exact h.elim
    |true=>
     rw[r]at h;obtain⟨ds,QW⟩:=lI r;obtain⟨m,h1,J⟩:=sG h;exact⟨_,h1,fun w _=>by simp[execOp,g,cQ he hx,SV.den,Go.convert,Sem.run_bind,run_underlying QW,run_underlying W,Conv.intToInt,J]⟩
 case nilCheck x=>
  cases hx:ev st x with
  |none=>simp[hx]at h
  |some v=>
   rw[hx]at h;cases v with
   |loc l off=>exact⟨_,h,fun w _=>by simp[execOp,g,cQ he hx,SV.den]⟩
   |v a=>
    cases a<;>try exact h.elim
    ·rename_i q;cases q<;>try exact h.elim
     exact⟨_,h,fun w _=>by simp[execOp,g,cQ he hx,SV.den]⟩
    ·rename_i q _ _;cases q<;>try exact h.elim
     exact⟨_,h,fun w _=>by simp[execOp,g,cQ he hx,SV.den]⟩
   |_=>exact h.elim
 case fieldAddr s x f=>
  cases hf:ym c.P s f with
  |none=>simp[hf]at h
  |some fd=>
   rw[hf]at h;simp only at h;cases hz:Nat.beq (c.P.cellsOf fd.type) 0 with
   |true=>simp[hz]at h
   |false=>
    rw[hz]at h;simp only at h;cases hx:ev st x with
    |none=>simp[hx]at h
    |some v=>
     rw[hx]at h;cases v with
     |loc l off=>exact⟨_,h,fun w _=>by simp[execOp,g,cQ he hx,SV.den,AD hf hz,jO]⟩
     |v a=>
      cases a<;>try exact h.elim
      rename_i q;cases q<;>try exact h.elim
      exact⟨_,h,fun w _=>by simp[execOp,g,cQ he hx,SV.den,AD hf hz]⟩
     |_=>exact h.elim
 case slice t x lo hi mx=>
  cases mx with
  |some m=>simp only at h;exact bY he hs h
  |none=>
   simp only at h;obtain⟨v,I,h⟩:=lH h;obtain⟨l,h,hl⟩:=Co he h;obtain⟨u,h,hu⟩:=Co he h;obtain⟨s,z,L⟩:=F0 (b:=b) h hl hu;exact⟨s,z,fun w _=>by simp[execOp,g,cQ he I,L]⟩
 case load t x=>
  cases hx:ev st x with
  |none=>simp[hx]at h
  |some v=>
   rw[hx]at h;cases v with
   |loc l off=>
    simp only at h;cases hm:FV hold l with
    |false=>simp[hm]at h
    |true=>
     cases hl:wu c.P st.boxes t l off with
     |none=>simp[hm,hl]at h
     |some u=>
      simp only[hm,hl]at h;exact⟨_,h,fun w hw=>by simp[execOp,g,cQ he hx,SV.den,Instr.loadAt,Instr.sureAddr,xa (b:=b) hl (fun y hy=>(R (by simp[jM,g]) w hw).box l y hm hy)]⟩
   |v a=>
    cases a<;>try exact h.elim
    rename_i q;cases q<;>try exact h.elim
    rename_i ad;cases hw:lw with
    |none=>simp[hw]at h
    |some w0=>
     simp only[hw]at h;obtain⟨u,z,L⟩:=xb h;refine⟨_,z,fun w hr=> ?_⟩;simp[execOp,g,cQ he hx,SV.den,Instr.loadAt,Instr.sureAddr,L w (fun a' u' h'=>(R (by simp[jM,g]) w hr).cell w0 hw a' u' h')]
   |_=>exact h.elim
 case indexAddr t x i=>
  cases B:c.P.underlying t with
  |none=>simp[B]at h
  |some d=>
   cases hx:ev st x with
   |none=>cases d<;>simp[B,hx]at h
   |some v=>
    cases hi:ev st i with
    |none=>cases d<;>cases v<;>simp[B,hx,hi]at h
    |some S=>
     rw[B,hx,hi]at h;cases d<;>try exact h.elim
     ·rename_i e;cases v<;>try exact h.elim
      rename_i M;cases M<;>try exact h.elim
      rename_i A n cp;cases S<;>try exact h.elim
      rename_i N;cases N<;>try exact h.elim
      rename_i k j;simp only at h;cases r:known c.P e with
      |false=>rw[r]at h;exact h.elim
      |true=>
       rw[r]at h;obtain⟨X,O⟩:=lI r;obtain⟨hj,a,rfl,z⟩:=h;refine⟨_,z,fun w _=> ?_⟩;simp[execOp,g,cQ he hx,cQ he hi,SV.den,Instr.indexAt,asIntOf,Sem.run_bind,run_underlying B,run_sizeOf O,hj]
     ·rename_i n e;cases v<;>try exact h.elim
      ·rename_i M;cases M<;>try exact h.elim
       rename_i q;cases q<;>try exact h.elim
       rename_i a;cases S<;>try exact h.elim
       rename_i N;cases N<;>try exact h.elim
       rename_i k i;simp only at h;cases r:known c.P e with
       |false=>rw[r]at h;exact h.elim
       |true=>
        rw[r]at h;obtain⟨X,O⟩:=lI r;obtain⟨hj,z⟩:=h;refine⟨_,z,fun w _=> ?_⟩;simp[execOp,g,cQ he hx,cQ he hi,SV.den,Instr.indexAt,asIntOf,Sem.run_bind,run_underlying B,run_sizeOf O,Instr.sureAddr,hj]
      rename_i l off;cases S<;>try exact h.elim
      rename_i N;cases N<;>try exact h.elim
      rename_i k i;simp only at h;cases raw with
      |true=>
       simp only at h;cases r:known c.P e with
       |false=>rw[r]at h;exact h.elim
       |true=>
        rw[r]at h;obtain⟨⟨h0,h1⟩,h⟩:=h;obtain⟨X,O⟩:=lI r;obtain⟨m,rfl⟩:=RQ h0;have D:m<n:=om;have z:=Vb h D rfl;refine⟨_,z,fun w _=> ?_⟩;simp[execOp,g,cQ he hx,cQ he hi,SV.den,Instr.indexAt,asIntOf,Sem.run_bind,run_underlying B,run_sizeOf O,Instr.sureAddr,D,jO]
      |false=>
      simp only at h;cases i<;>try exact h.elim
      rename_i j;simp only at h;cases r:Nat.blt j n&&known c.P e with
      |false=>rw[r]at h;exact h.elim
      |true=>
       rw[r]at h;simp only[de]at r;obtain⟨X,O⟩:=lI r.2;have D:j<n:=by simpa[YG]using r.1
       refine⟨_,h,fun w _=> ?_⟩;have J:(Int.ofNat j)<(n:Int):=by simpa using D
       simp[execOp,g,cQ he hx,cQ he hi,SV.den,Instr.indexAt,asIntOf,Sem.run_bind,run_underlying B,run_sizeOf O,Instr.sureAddr,D,jO]
 case index t x i=>
  cases B:c.P.underlying t with
  |none=>rw[B]at h;exact bY he hs h
  |some d=>
   rw[B]at h;cases hx:ev st x with
   |none=>rw[hx]at h;cases d<;>exact bY he hs h
   |some v=>
    cases hi:ev st i with
    |none=>
     rw[hx,hi]at h;cases d<;>try exact bY he hs h
     cases v<;>try exact bY he hs h
     rename_i M;cases M<;>exact bY he hs h
    |some S=>
     rw[hx,hi]at h;cases d<;>try exact bY he hs h
     cases v<;>try exact bY he hs h
     rename_i M;cases M<;>try exact bY he hs h
     rename_i s;cases S<;>try exact bY he hs h
     rename_i N;cases N<;>try exact bY he hs h
     rename_i k j;obtain⟨hj,z⟩:=h;obtain⟨x0,h1,J⟩:=adE hj;refine⟨_,z,fun w _=> ?_⟩;simp only[execOp,g,cQ he hx,cQ he hi,SV.den,Instr.index,asIntOf,Sem.run_bind,run_underlying B,Sem.run_pure,Result.andThen_ok,bm hj.1,h1,J]
 case binOp op F x y yt=>
  have pl:=fun(h:qZ c o st K)=>bY (Ok:=Ok) he hs h
  cases hx:ev st x with
  |none=>simp[hx]at h
  |some V=>
   cases hy:ev st y with
   |none=>simp[hx,hy]at h
   |some v=>
    simp only[hx,hy]at h;have ex:=cQ he hx;have C:=cQ he hy;split at h
    ·rename_i k x1 Q E G H;cases G;cases H;cases r:xB k Q with
     |false=>
      rw[r]at h;simp only[SV.den]at ex C;cases op
      case shl=>exact⟨_,h.2,fun w _=>by simp[execOp,g,ex,C,Sem.run_bind,eB w (u:= .int k x1) (v:= .int Q E) sm sm,binOp,shift_shl k Q x1 E h.1.1 h.1.2,qd,SV.den]⟩
      case shr=>exact⟨_,h.2,fun w _=>by simp[execOp,g,ex,C,Sem.run_bind,eB w (u:= .int k x1) (v:= .int Q E) sm sm,binOp,shift_shr k Q x1 E h.1.1 h.1.2,ny,SV.den]⟩
      all_goals exact pl h
     |true=>
      rw[r]at h;obtain rfl:=Fb r;have go:FU raw op k x1 E K->Ns c b T o Ok K:=fun hb=>by
       obtain⟨s,z,L⟩:=FY (b:=b) (t:=F) hb;refine⟨s,z,fun w _=> ?_⟩;simp only[SV.den]at ex C;simp[execOp,g,ex,C,Sem.run_bind,eB w (u:= .int k x1) (v:= .int k E) sm sm,L]
      exact go h
    ·rename_i x1 E G H;cases G;cases H;obtain⟨s,z,L⟩:=FZ (b:=b) (t:=F) h;refine⟨s,z,fun w _=> ?_⟩;simp only[SV.den]at ex C;simp[execOp,g,ex,C,Sem.run_bind,eB w (u:= .string x1) (v:= .string E) sm sm,L]
    ·rename_i x1 E G H;cases G;cases H;split at h
     ·rename_i q hq h1 J;simp only[de]at h1;have Y:x1.size=c.P.cellsOf F:=by simpa using beq_true h1.1.2
      have Z:E.size=c.P.cellsOf F:=by simpa using beq_true h1.2
      have hS:(uR c.P F&&uH c.P 6 F)=true:=by simp[h1.1.1]
      have heq:=fun w=>Cq hS J Y Z w
      have U:∀w,(eqGuard op F x y (.agg x1) (.agg E)).run c.P w= .ok () w:=fun w=>yr hS w
      simp only[SV.den]at ex C;cases op<;>simp only at h<;>try exact h.elim
      ·refine⟨_,h,fun w _=> ?_⟩;simp[execOp,g,ex,C,Sem.run_bind,U,binOp,heq,SV.den]
      ·refine⟨_,h,fun w _=> ?_⟩;simp[execOp,g,ex,C,Sem.run_bind,U,binOp,heq,SV.den]
     ·exact h.elim
    ·rename_i A n1 c1 G H;cases G;cases H;cases B:c.P.underlying F with
     |none=>rw[B]at h;exact h.elim
     |some d=>
      rw[B]at h;cases d<;>try exact h.elim
      simp only[SV.den]at ex C;have heq:∀w,(Op.equal F (.slice A n1 c1) (.slice none 0 0)).run c.P w= .ok (decide (A=none)) w:=fun w=>It 9999 B w
      cases op<;>simp only at h<;>try exact h.elim
      ·refine⟨_,h,fun w _=> ?_⟩;simp[execOp,g,ex,C,Sem.run_bind,eB w (u:= .slice A n1 c1) (v:= .slice none 0 0) sm sm,binOp,heq,SV.den]
      ·refine⟨_,h,fun w _=> ?_⟩;simp[execOp,g,ex,C,Sem.run_bind,eB w (u:= .slice A n1 c1) (v:= .slice none 0 0) sm sm,binOp,heq,SV.den]
    ·rename_i u' v' _ _ _ _ G H;cases G;cases H;split at h
     ·rename_i t1 t2 B hb1 hb2;have d1:=Cr (b:=b) hb1;have d2:=Cr (b:=b) hb2;rw[d1]at ex;rw[d2]at C;have heq:∀w,(Op.equal F (.bool t1) (.bool t2)).run c.P w= .ok (decide (t1=t2)) w:=fun w=>F2 9999 B w
      cases op<;>simp only at h<;>try exact h.elim
      ·refine⟨_,h,fun w _=> ?_⟩;simp[execOp,g,ex,C,Sem.run_bind,eB w (u:= .bool t1) (v:= .bool t2) sm sm,binOp,heq,SV.den]
      ·refine⟨_,h,fun w _=> ?_⟩;simp[execOp,g,ex,C,Sem.run_bind,eB w (u:= .bool t1) (v:= .bool t2) sm sm,binOp,heq,SV.den]
     ·exact pl h
    ·exact h.elim
end

structure Inv (c:Cx) (b:Nat->Nat) (st:St) (T:Array Value) (wa:World):Prop where
 size:T.size=c.N
 env:qY b st.env T
 box:uw b c.B st.boxes wa
 lo:c.B<=st.w.heap.size
 ext:match st.d with
  |none=>wa=st.w
  |some ts=>Ext c.B ts st.w wa
 new:∀l x,bC st.boxes l=some x->x.new=true->st.w.heap.size<=b l
 base:Below c.B c.w0 wa

theorem Ext.refl(B:Nat)(ts:List Nat)(w:World):Ext B ts w w:=⟨Below.refl _ _,fun k _=> .inl rfl⟩
theorem Ext.mono{B:Nat}{ts us:List Nat}{w w':World}(h:Ext B ts w w')(hs:∀t∈ts,t∈us):Ext B us w w':=
 ⟨h.below,fun k a=>(h.other k a).imp id fun⟨t,d,r⟩=>⟨t,hs t d,r⟩⟩
theorem Nt{t x:Nat}:∀{l:List Nat},x∈ins t l↔x=t∨x∈l:=by
 intro l;induction l with
 |nil=>simp[ins]
 |cons y r ih=>
  simp only[ins];cases h:Nat.beq y t with
  |true=>have:=beq_true h;subst this;simp
  |false=>simp[ih];constructor<;>rintro(h|h|h)<;>simp[h]

theorem tC{a:List tt}{l:Nat}:bC (Ay a) l=(bC a l).map fun x=>{x with new:=false}:=by
 induction a with
 |nil=>rfl
 |cons x r ih=>
  simp only[Ay,cN];split<;>simp_all

section
variable {c:Cx} {b:Nat->Nat} {st:St} {T:Array Value} {wa:World}

theorem Inv.yu(h:Inv c b st T wa):Ext c.B (st.d.getD []) st.w wa:=by
 have:=h.ext;cases a:st.d with
 |none=>rw[a]at this;subst this;exact Ext.refl _ _ _
 |some ts=>rw[a]at this;exact this

theorem uw.Ay(h:uw b c.B st.boxes wa):uw b c.B (Ay st.boxes) wa:=by
 constructor
 ·intro l x hx;rw[tC]at hx;obtain⟨y,hy,rfl⟩:=va.1 hx;exact h.at_ l y hy
 ·intro l m x y hx hy a;rw[tC]at hx hy;obtain⟨d,e,rfl⟩:=va.1 hx;obtain⟨g,i,rfl⟩:=va.1 hy;exact h.ne l m d g e i a

theorem tD{a:List tt}{l:Nat}{x:tt}(h:bC (Ay a) l=some x):x.new=false:=by
 rw[tC]at h;obtain⟨y,_,rfl⟩:=va.1 h;rfl

def Same(st d:St):Prop:=∀l a,bC d.boxes l=some a->∃x,bC st.boxes l=some x/\x.cells=a.cells/\x.ty=a.ty
theorem Same.refl(st:St):Same st st:=fun l x h=>⟨x,h,rfl,rfl⟩
theorem Same.trans{st a d:St}(h:Same st a)(k:Same a d):Same st d:=fun l x hx=>by
 obtain⟨y,hy,e,g⟩:=k l x hx;obtain⟨z,hz,f1,f2⟩:=h l y hy;exact⟨z,hz,f1.trans e,f2.trans g⟩
theorem Same.Ay{st a:St}(h:Same st a){env w d}:Same st ⟨env,Ay a.boxes,w,d⟩:=fun l x hx=>by
 rw[tC]at hx;obtain⟨y,hy,rfl⟩:=va.1 hx;obtain⟨z,hz,f1,f2⟩:=h l y hy;exact⟨z,hz,f1,f2⟩
theorem dh{K:St->Prop}(inv:Inv c b st T wa)(h:iA c.B st K):
  ∃a,K a/\Inv c b a T wa/\a.w=wa/\a.d=none/\a.env=st.env/\Same st a:=by
 unfold iA at h;have hx:=inv.ext;cases e:st.d with
 |none=>rw[e]at h hx;exact⟨st,h,inv,hx.symm,e,rfl,Same.refl _⟩
 |some ts=>
  rw[e]at h hx;refine⟨_,h wa hx,⟨inv.size,inv.env,inv.box.Ay,ec inv.lo hx.below.size,rfl,fun l x hl hn=> ?_,inv.base⟩,rfl,rfl,rfl,(Same.refl st).Ay⟩;rw[tD hl]at hn;cases hn

theorem QX{l a:Nat}{env:Env}{s:Nat}{x:SV}(h:get (jG l a env) s=some x):
  get env s=some x∨∃off,get env s=some (.loc l off)/\x= .v (.pointer (some ⟨a,off,none⟩)):=by
 induction env with
 |nil=>simp[jG,get]at h
 |cons y r ih=>
  obtain⟨s0,v⟩:=y;have gen:∀d,(jG l a ((s0,v)::r)=(s0,d)::jG l a r)->(d=v∨∃off,v= .loc l off/\d= .v (.pointer (some ⟨a,off,none⟩)))->
    get ((s0,v)::r) s=some x∨∃off,get ((s0,v)::r) s=some (.loc l off)/\x= .v (.pointer (some ⟨a,off,none⟩)):=by
   intro d e i;rw[e,jo]at h;rw[jo];by_cases hs:s0=s
   ·simp only[hs,JS]at h⊢;cases h;rcases i with rfl|⟨off,rfl,rfl⟩
    ·exact .inl rfl
    ·exact .inr ⟨off,rfl,rfl⟩
   ·simp only[hs,B5]at h⊢;exact ih h
  cases v with
  |loc k off=>
   cases g:Nat.beq k l with
   |true=>have:=beq_true g;subst this;exact gen _ (by simp[jG]) (.inr ⟨off,rfl,rfl⟩)
   |false=>exact gen _ (by simp[jG,g]) (.inl rfl)
  |_=>exact gen _ (by simp[jG]) (.inl rfl)

theorem Cs{a:St}{l:Nat}(e:Inv c b a T wa):Inv c b {env:=jG l (b l) a.env,boxes:=lx a.boxes l,w:=a.w,d:=a.d} T wa/\Same a {env:=jG l (b l) a.env,boxes:=lx a.boxes l,w:=a.w,d:=a.d}:=by
 refine⟨⟨e.size,fun s x hs=> ?_,⟨fun m x hm=> ?_,fun m n x y hm hn g=> ?_⟩,e.lo,e.ext,fun m x hm hn=> ?_,e.base⟩,fun m x hm=> ?_⟩
 ·rcases QX hs with h1|⟨off,h1,rfl⟩
  ·exact e.env s x h1
  ·exact e.env s (.loc l off) h1
 ·rw[dE]at hm;split at hm
  ·cases hm
  ·exact e.box.at_ m x hm
 ·rw[dE]at hm hn;split at hm
  ·cases hm
  ·split at hn
   ·cases hn
   ·exact e.box.ne m n x y hm hn g
 ·simp only[dE]at hm;split at hm
  ·cases hm
  ·exact e.new m x hm hn
 ·rw[dE]at hm;split at hm
  ·cases hm
  ·exact⟨x,hm,rfl,rfl⟩
theorem xc{K:St->Prop}:∀(d:List Nat)(st:St),Inv c b st T wa->yo c d st K->∃a,K a/\Inv c b a T wa/\Same st a:=by
 intro d;induction d with
 |nil=>intro st inv h;exact⟨st,h,inv,Same.refl _⟩
 |cons l r ih=>
  intro st inv h;simp only[yo]at h;obtain⟨a,h,e,hw,w,_,i⟩:=dh inv h;cases hb:bC a.boxes l with
  |none=>simp[hb]at h
  |some j=>
   simp only[hb]at h;have g:=e.box.at_ l j hb;obtain⟨inv2,k⟩:=Cs (l:=l) e;obtain⟨m,h1,n,q⟩:=ih _ inv2 (h (b l) g.1 (by rw[hw];exact g.2));exact⟨m,h1,n,(i.trans k).trans q⟩
theorem Ct{K:St->Prop}(g:List Nat)(st:St)(inv:Inv c b st T wa)(h:Ci c g st K):∃a,K a/\Inv c b a T wa/\Same st a:=by
 unfold Ci at h;split at h
 ·rename_i l;split at h
  ·cases h
  ·rename_i b0 i;split at h
   ·cases h
   ·rename_i hn;obtain⟨a,h,d,hw,n,_,j⟩:=dh inv h;cases hb:bC a.boxes l with
    |none=>simp[hb]at h
    |some k=>
     simp only[hb]at h;have e:=d.box.at_ l k hb;obtain⟨inv2,m⟩:=Cs (l:=l) d;exact⟨_,h (b l) e.1 (inv.new l b0 i hn) (by rw[hw];exact e.2),inv2,j.trans m⟩
 ·cases h

def Kept(o:Oper)(b:Nat->Nat)(st:St)(wa:World)(d:Nat->Nat)(e:St)(w':World):Prop:=
 wa.heap.size<=w'.heap.size/\(∀k,k<wa.heap.size->w'.heap[k]? =wa.heap[k]?)/\∀l,(ux o=true->o.dst≠some l)->d l=b l/\∀a,bC e.boxes l=some a->∃x,bC st.boxes l=some x/\x.cells=a.cells/\x.ty=a.ty

def QZ(c:Cx)(q:Bool)(o:Oper)(b:Nat->Nat)(st:St)(wa:World)(T:Array Value)(K:SV->St->Prop)(v:Value)(w':World):Prop:=
 ∃a x d,K x d/\v=x.den a/\Inv c a d T w'/\(q=true->Kept o b st wa a d w')

variable {o:Oper} {K:SV->St->Prop}

def Cu(c:Cx)(q:Bool)(b:Nat->Nat)(st:St)(T:Array Value)(o:Oper)(wa:World)(K:SV->St->Prop):Prop:=
 ∀next Q,(∀v w',QZ c q o b st wa T K v w'->next ((act T).put o.dst v) w')->o.wp c.P (act T) wa next Q

theorem Same.kept{st a:St}(h:Same st a)(o:Oper)(b:Nat->Nat)(w w':World)(hs:w.heap.size<=w'.heap.size)(d:∀k,k<w.heap.size->w'.heap[k]? =w.heap[k]?):Kept o b st w b a w':=
 ⟨hs,d,fun l _=>⟨rfl,h l⟩⟩

theorem xd{q:Bool}{Ok:World->Prop}{a:St}(inv:Inv c b a T wa)(d:Same st a)(fk:Ok wa)(h:Ns c b T o Ok fun x=>K x a):Cu c q b st T o wa K:=by
 obtain⟨x,e,g⟩:=h;intro next Q hn
 unfold Oper.wp;rw[g wa fk];exact hn _ _ ⟨b,x,a,e,rfl,inv,fun _=>d.kept _ _ _ _ lf fun _ _=>rfl⟩

theorem Ck.Ra{lw:Option World}(inv:Inv c b st T wa)(hw:∀v,lw=some v->v=wa):Ck b st lw none wa:=
 ⟨fun l x _ hx=>(inv.box.at_ l x hx).2,fun v d a u hu=>by rw[<-hw v d];exact hu⟩

theorem uT{env:Env}{l s:Nat}{x:SV}(h:get (qX env l) s=some x):get env s=some x/\x.QM l=false:=by
 induction env with
 |nil=>simp[qX,get]at h
 |cons y r ih=>
  simp only[qX]at h;simp only[jo];cases hl:y.2.QM l with
  |true=>
   rw[hl]at h;simp only[qg]at h;by_cases hs:s=y.1
   ·simp[hs]at h
   ·simp only[hs,B5]at h;rw[aq (ub hs)];exact ih h
  |false=>
   rw[hl]at h;simp only[jo]at h;by_cases hs:y.1=s
   ·simp only[hs,JS]at h⊢;cases h;exact⟨rfl,hl⟩
   ·simp only[hs,B5]at h⊢;exact ih h

theorem Cv(inv:Inv c b st T wa)(l ty:Nat)(cells:List Value):
  Inv c (fun m=>if m=l then wa.heap.size else b m) (rp st l ty cells) T (wa.alloc (.cells cells.toArray ty)):=by
 have hx:=inv.yu;have d:∀m x,bC st.boxes m=some x->b m<wa.heap.size:=fun m x hm=>by
  have:=(inv.box.at_ m x hm).2;exact(ax.1 this).1
 refine⟨inv.size,fun s x hs=> ?_,⟨fun m x hm=> ?_,fun m n x y hm hn g=> ?_⟩,inv.lo,?_,fun m x hm hn=> ?_,inv.base.alloc (ec inv.lo hx.below.size) _⟩
 ·obtain⟨h1,i⟩:=uT hs;rw[inv.env s x h1];cases x<;>simp only[SV.den];rename_i k off;have:k≠l:=beq_false i;simp[this]
 ·simp only[rp,cN,dE]at hm;by_cases e:l=m
  ·subst e;simp only[JS]at hm;cases hm;simp only[JS];refine⟨ec inv.lo hx.below.size,?_⟩;show(wa.heap.push _)[wa.heap.size]? =_;simp
  ·simp only[e,B5,ub e]at hm;have:=inv.box.at_ m x hm;simp only[ub e,B5];refine⟨this.1,?_⟩;rw[<-this.2];exact Below.heap_alloc wa _ _ (d m x hm)
 ·simp only[rp,cN,dE]at hm hn;by_cases e:l=m
  ·subst e;by_cases a:l=n
   ·exact absurd a g
   ·simp only[a,B5,ub a]at hn;have:=d n y hn;simp only[JS,ub a,B5];omega
  ·simp only[e,B5,ub e]at hm;have h1:=d m x hm;by_cases a:l=n
   ·subst a;simp only[ub e,B5,JS];omega
   ·simp only[a,B5,ub a]at hn;simp only[ub e,ub a,B5];exact inv.box.ne m n x y hm hn g
 ·simp only[rp];refine⟨hx.below.alloc (ec inv.lo hx.below.size) _,fun k h=> ?_⟩;have j:k<wa.heap.size:=uB h hx.below.size;rw[Below.heap_alloc wa _ _ j];exact hx.other k h
 ·simp only[rp,cN,dE]at hm;simp only[rp];by_cases e:l=m
  ·subst e;simp only[JS];exact hx.below.size
  ·simp only[e,B5,ub e]at hm;simp only[ub e,B5];exact inv.new m x hm hn

theorem AE{l:Nat}(d:o.dst=some l)(g:ux o=true)(ty:Nat)(cells:List Value)(h:Obj):
  Kept o b st wa (fun m=>if m=l then wa.heap.size else b m) (rp st l ty cells) (wa.alloc h):=by
 refine⟨sm,fun k i=>Below.heap_alloc _ _ _ i,fun m hm=> ?_⟩;have a:m≠l:=fun e=>hm g (by rw[d,e])
 refine⟨aq a,fun x hx=> ?_⟩;simp only[rp,cN,dE,aq a,aq (ub a)]at hx;exact⟨x,hx,rfl,rfl⟩

theorem tE{x:Option SV}{Q:Value->Prop}(h:yl x Q):∃sv v,x=some sv/\sv.val=some v/\Q v:=by
 cases x with
 |none=>exact h.elim
 |some sv=>
  unfold yl at h;simp only at h;cases a:sv.val with
  |none=>simp[a]at h
  |some v=>simp only[a]at h;exact⟨sv,v,rfl,a,h⟩

theorem Cy{P:Program}{n ty:Nat}:∀(vs:List Value)(w:World)(cells:List Value)(off i:Nat),w.heap[n]? =some (.cells cells.toArray ty (0,0))->
  off+i+vs.length<=cells.length->(∀v∈vs,bk v=true)->
  ∃w',(storeCells ⟨n,off,none⟩ vs i).run P w= .ok () w'/\aG w w' n ty (setCells cells (off+i) vs):=by
 intro vs;induction vs with
 |nil=>
  intro w cells off i h _ _;exact⟨w,by simp[storeCells],⟨h,fun _ _=>rfl,rfl,rfl,rfl,rfl⟩⟩
 |cons v r ih=>
  intro w cells off i h hl d;have h1:w.cell? ((⟨n,off,none⟩:Addr).add i)=some (cells[off+i]'(by simp at hl;omega)):=by
   rw[zy h,af (show off+i<cells.length by simp at hl;omega)]
  have g:w.frozen? ((⟨n,off,none⟩:Addr).add i)=false:=by
   rw[jO];simp[World.frozen?,h]
  have hw:(w.setCell ((⟨n,off,none⟩:Addr).add i) v).heap[n]? =some (.cells (cells.set (off+i) v).toArray ty (0,0)):=by
   rw[jO];simp only[World.setCell,TE,JS,h];simp
  obtain⟨w',j,a⟩:=ih (w.setCell ((⟨n,off,none⟩:Addr).add i) v) (cells.set (off+i) v) off (i+1) hw (by simp at hl⊢;omega) (fun u hu=>d u (by simp[hu]));have l:(store ((⟨n,off,none⟩:Addr).add i) v).run P w= .ok () (w.setCell ((⟨n,off,none⟩:Addr).add i) v):=by
   have m:=d v sm;cases v<;>first|(simp[bk]at m;done)|simp[store,Sem.run,h1,g]
  refine⟨w',by simp[storeCells,Sem.run_bind,l,j],⟨?_,fun k e=> ?_,?_,a.os,a.tape,a.output⟩⟩
  ·have:=a.at_;simpa[setCells,ME]using this
  ·rw[a.rest k e];rw[jO];simp only[World.setCell,TE];rw[aq (ub e)]
  ·rw[a.size];simp[World.setCell]

theorem aG.ext{B ty n:Nat}{w w':World}{cells a:List Value}{ts:List Nat}(h:aG w w' n ty a)(hB:B<=n)(d:w.heap[n]? =some (.cells cells.toArray ty (0,0)))(g:ty∈ts):Ext B ts w w':=
 ⟨⟨h.os,h.tape,h.output,by rw[h.size];exact ga _,fun k i=>h.rest k om⟩,fun k i=>by
  by_cases e:k=n
  ·subst e;exact .inr ⟨ty,g,_,_,_,d,h.at_⟩
  ·exact .inl (h.rest k e)⟩

theorem Ext.trans'{B:Nat}{ts:List Nat}{w w1 a:World}(h:Ext B ts w w1)(k:Ext B ts w1 a):Ext B ts w a:=
 ⟨h.below.trans k.below,fun i hi=>by
  rcases k.other i (uB hi h.below.size)with e|⟨t,d,c1,c2,fr,g,j⟩
  ·rw[e];exact h.other i hi
  ·rcases h.other i hi with l|⟨t',m,d1,d2,n,f1,f2⟩
   ·exact .inr ⟨t,d,c1,c2,fr,by rw[<-l];exact g,j⟩
   ·rw[g]at f2;cases f2;exact .inr ⟨t,d,d1,c2,fr,f1,j⟩⟩

theorem Lm{P:Program}{t:TypeId}{n:Nat}(h:P.cellsOf t=n)(a:known P t=true)(w:World):(sizeOf t).run P w= .ok n w:=by
 obtain⟨d,e⟩:=lI a;rw[run_sizeOf e,h]

theorem F4{Q:Prop}:∀{l:List Value},BS l Q->qe l=true/\Q:=by
 intro l;induction l with
 |nil=>intro h;exact⟨rfl,h⟩
 |cons v r ih=>
  intro h;unfold BS Lc at h;cases v<;>first
   |exact h.elim
   |(obtain⟨h1,a⟩:=ih h;exact⟨by simp[qe,bk,h1],a⟩)
theorem F5:∀{l:List Value},qe l=true->∀v∈l,bk v=true:=by
 intro l;induction l with
 |nil=>intro _ v a;cases a
 |cons x r ih=>
  intro h v a;simp only[qe,de]at h;rcases cb.1 a with rfl|a
  ·exact h.1
  ·exact ih h.2 v a

theorem yv{P:Program}{t:TypeId}{n ty:Nat}{v:Value}{w:World}{cells:List Value}{off:Nat}(a:known P t=true)(hs:v.cells.toList.length=P.cellsOf t)(d:qe v.cells.toList=true)
  (h:w.heap[n]? =some (.cells cells.toArray ty (0,0))) (hl:off+v.cells.toList.length<=cells.length):
  ∃w',(storeVar t ⟨n,off,none⟩ v).run P w= .ok () w'/\aG w w' n ty (setCells cells off v.cells.toList):=by
 obtain⟨w',h1,e⟩:=Cy (P:=P) (n:=n) (ty:=ty) v.cells.toList w cells off 0 h om (F5 d);refine⟨w',?_,e⟩;simp only[storeVar,Sem.run_bind,Lm rfl a,Result.andThen_ok];rw[aq (by simpa using hs)];exact h1

theorem nH{a:List tt}{l:Nat}{x:tt}(h:bC a l=some x):x.UC=l:=by
 induction a with
 |nil=>simp[bC]at h
 |cons y r ih=>
  rw[cN]at h;split at h
  ·rename_i e;cases h;exact e
  ·exact ih h

theorem Ln{a:List tt}{l:Nat}{x:tt}(h:bC a l=some x):hasType x.ty a=true:=by
 induction a with
 |nil=>simp[bC]at h
 |cons y r ih=>
  rw[cN]at h;simp only[hasType];split at h
  ·cases h;simp
  ·cases hb:Nat.beq y.ty x.ty with
   |true=>rfl
   |false=>exact ih h

theorem F6{dyn q:Bool}(hq:q=true->rb o=false)(inv:Inv c b st T wa)(h:effect c dyn o st K):Cu c q b st T o wa K:=by
 unfold effect at h;cases E:o.op<;>simp only[E]at h<;>try exact h.elim
 case alloc t=>
  cases C:o.dst with
  |none=>simp[C]at h
  |some l=>
   cases hz:zeroCells c.P t with
   |none=>simp[C,hz]at h
   |some cells=>
    simp only[C,hz]at h;unfold zeroCells at hz;obtain⟨z,V,rfl⟩:=va.1 hz;obtain⟨i,hi,W⟩:=xt.1 V;intro next Q hn
    unfold Oper.wp;have F:(execOp (act T).eval o).run c.P wa= .ok (.value (.pointer (some ⟨wa.heap.size,0,none⟩))) (wa.alloc (.cells z.cells t)):=by
     simp[execOp,E,Instr.alloc,zeroValue,typeInfo,program,Sem.run_bind,Sem.run,hi,W,newVar,newRow,newObj]
    rw[F];refine hn _ _ ⟨_,_,_,h,?_,Cv inv l t z.cells.toList,fun _=>AE C (by simp[ux,E]) _ _ _⟩;simp[SV.den]
 case box t x=>
  cases C:o.dst with
  |none=>simp[C]at h
  |some l=>
   simp only[C]at h;obtain⟨sv,v,M,N,G⟩:=tE h;intro next Q hn
   unfold Oper.wp;have e:=cQ inv.env M;rw[rf N b]at e;have F:(execOp (act T).eval o).run c.P wa= .ok (.value (.pointer (some ⟨wa.heap.size,0,none⟩))) (wa.alloc (.cells v.cells t)):=by
    simp[execOp,E,Instr.box,Sem.run_bind,Sem.run,newVar,newRow,newObj,e]
   rw[F];refine hn _ _ ⟨_,_,_,G,?_,Cv inv l t v.cells.toList,fun _=>AE C (by simp[ux,E]) _ _ _⟩;simp[SV.den]
 case store t x y=>
  cases hx:ev st x with
  |none=>simp[hx]at h
  |some sx=>
   have ex:=cQ inv.env hx;rw[hx]at h;cases sx with
   |loc l off=>
    simp only at h;cases hb:bC st.boxes l with
    |none=>simp[hb]at h
    |some D=>
     rw[hb]at h;simp only at h;obtain⟨sv,v,M,N,h⟩:=tE h;have O:=cQ inv.env M;rw[rf N b]at O;split at h
     ·exact h.elim
     ·rename_i A;simp only[de]at A;obtain⟨⟨c1,c2⟩,c4⟩:=A;obtain⟨c3,h⟩:=F4 h;have c1:=beq_true c1;have c4:=Ox c4;have H:=inv.box.at_ l D hb;obtain⟨w',F,a⟩:=yv (P:=c.P) (t:=t) (v:=v) c2 c1 c3 H.2 c4;intro next Q hn
      unfold Oper.wp;have R:(execOp (act T).eval o).run c.P wa= .ok .skip w':=by
       simp[execOp,E,Instr.storeAt,Instr.sureAddr,Sem.run_bind,ex,O,SV.den,F]
      rw[R];refine hn _ _ ⟨b,.u,_,h,rfl,?_,fun e=>absurd (hq e) (by simp[rb,E])⟩;have I:=inv.yu;refine⟨inv.size,inv.env,⟨fun m x hm=> ?_,fun m n x y hm S J=> ?_⟩,inv.lo,?_,fun m x hm L=> ?_,inv.base.trans (a.ext (ts:=[D.ty]) H.1 H.2 sm).below⟩
      ·simp only[cN,dE]at hm;by_cases e:l=m
       ·subst e;rw[bm (nH hb)]at hm;cases hm;exact⟨H.1,a.at_⟩
       ·rw[aq (by rw[nH hb];exact e),aq (ub e)]at hm;have:=inv.box.at_ m x hm;exact⟨this.1,by rw[a.rest _ (inv.box.ne m l x D hm hb (ub e))];exact this.2⟩
      ·simp only[cN,dE]at hm S;have hex:∀k z,(if D.UC=k then some {D with cells:=setCells D.cells off v.cells.toList}else if k=l then none else bC st.boxes k)=some z->∃z',bC st.boxes k=some z':=fun k z hz=>by
        by_cases e:l=k
        ·subst e;exact⟨D,hb⟩
        ·rw[aq (by rw[nH hb];exact e),aq (ub e)]at hz;exact⟨z,hz⟩
       obtain⟨x',Fe⟩:=hex m x hm;obtain⟨y',F3⟩:=hex n y S;exact inv.box.ne m n x' y' Fe F3 J
      ·have hB:c.B<=b l:=H.1;cases X:D.new with
       |true=>
        have hge:=inv.new l D hb X;refine⟨I.below.trans (a.ext (ts:=[D.ty]) hB H.2 sm).below,fun k Y=> ?_⟩;have Y:k<st.w.heap.size:=Y;rw[a.rest k om];exact I.other k Y
       |false=>
        exact(I.mono fun t ht=>Nt.2 (.inr ht)).trans' (a.ext hB H.2 (Nt.2 (.inl rfl)))
      ·simp only[cN,dE]at hm;by_cases e:l=m
       ·subst e;rw[bm (nH hb)]at hm;cases hm;exact inv.new _ D hb L
       ·rw[aq (by rw[nH hb];exact e),aq (ub e)]at hm;exact inv.new m x hm L
   |v u=>
    cases u<;>try exact h.elim
    rename_i q;cases q<;>try exact h.elim
    rename_i ad;simp only at h;obtain⟨sv,v,M,N,h⟩:=tE h;have O:=cQ inv.env M;rw[rf N b]at O;split at h
    ·exact h.elim
    ·rename_i A;simp only[de]at A;obtain⟨⟨c1,c2⟩,c3⟩:=A;have c1:=beq_true c1;obtain⟨Z,h,r,hw,C,Eo,_⟩:=dh inv h;obtain⟨cs,ty,hB,hsp,U,hl,hty,G⟩:=h;obtain⟨n,off,sp⟩:=ad;cases hsp;rw[hw]at U;obtain⟨w',F,a⟩:=yv (P:=c.P) (t:=t) (v:=v) c2 c1 c3 U hl;intro next Q hn
     unfold Oper.wp;have R:(execOp (act T).eval o).run c.P wa= .ok .skip w':=by
      simp[execOp,E,Instr.storeAt,Instr.sureAddr,Sem.run_bind,ex,O,SV.den,F]
     rw[R];refine hn _ _ ⟨b,.u,_,G w' (by rw[hw];exact a),rfl,?_,fun e=>absurd (hq e) (by simp[rb,E])⟩;have J:∀m x,bC Z.boxes m=some x->b m≠n:=fun m x hm e=>by
      have:=(r.box.at_ m x hm).2;rw[e,U]at this;cases this;exact absurd (Ln hm) (by rw[hty];simp)
     refine⟨r.size,r.env,⟨fun m x hm=> ?_,r.box.ne⟩,?_,?_,fun m x hm L=> ?_,r.base.trans (a.ext (ts:=[ty]) hB U sm).below⟩
     ·have:=r.box.at_ m x hm;exact⟨this.1,by rw[a.rest _ (J m x hm)];exact this.2⟩
     ·show c.B<=w'.heap.size;rw[a.size];exact hw▸r.lo
     ·simp only[C]
     ·exfalso;have h1:=r.new m x hm L;have h2:=(ax.1 (r.box.at_ m x hm).2).1;rw[hw]at h1;omega
   |_=>exact h.elim
 case call cl=>
  cases Ef:cl.callee with
  |value x=>
   simp only[Ef]at h;split at h
   ·rename_i g first cap vs hx ZX
    have ex:=cQ inv.env hx;have Iu:=BW inv.env ZX;have bU:av c.P g=true/\iA c.B st fun st=>Pure c.P g (first.toList++vs++cap.toList).toArray st.w fun v w1=>
      U8 (sh c.P o.type) fun x=>v=x/\K (.v x) {env:=st.env,boxes:=Ay st.boxes,w:=w1,d:=none}:=by
     unfold BR at h;cases dyn with
     |true=>exact h
     |false=>
      simp only at h;cases A:av c.P g with
      |false=>rw[A]at h;exact h.elim
      |true=>rw[A]at h;exact⟨rfl,h⟩
    obtain⟨A,h⟩:=bU;obtain⟨Z,h,r,hw,C,Eo,mz⟩:=dh inv h;intro next Q hn
    unfold Oper.wp;have R:(execOp (act T).eval o).run c.P wa= .ok (.enter g (first.toList++vs++cap.toList).toArray) wa:=by
     have e1:(first++cl.args.map (act T).eval)++cap=(first.toList++vs++cap.toList).toArray:=by
      apply Rq;simp[<-Iu]
     unfold av at A;cases hf:c.P.funcs[g]? with
     |none=>simp[hf]at A
     |some fn=>
      cases hb:fn.body with
      |none=>simp[hf,hb]at A
      |some bd=>
       simp only[hf,hb]at A
       have hn : fn.name ≠ "runtime.NumGoroutine" := by
        intro e;simp[e]at A
       simp only[execOp,E,Sem.run_bind,resolve,Ef,ex,SV.den,Deferred.ofValue,Sem.run_pure,Result.andThen_ok,invoke,e1];simp[callFunc,program,Sem.run_bind,Sem.run,hf,hb,hn]
    rw[R,Oper.upon_enter];rw[hw]at h;refine Calls.mono h fun e w'' he=> ?_
    obtain⟨v,rfl,j,G⟩:=he;obtain⟨y,rfl,G⟩:=zB G;refine hn _ _ ⟨b,_,_,G,rfl,?_,fun _=>(mz.Ay).kept _ _ _ _ j.size j.block⟩;have Iv:=r.lo;rw[hw]at Iv;refine⟨r.size,r.env,uw.Ay (st:={Z with w:=w''}) ⟨fun m x hm=> ?_,r.box.ne⟩,ec Iv j.size,rfl,fun m x hm L=> ?_,r.base.trans (j.mono Iv)⟩
    ·have:=r.box.at_ m x hm;refine⟨this.1,?_⟩;rw[j.block _ (ax.1 this.2).1];exact this.2
    ·rw[tD hm]at L;cases L
   ·exact h.elim
  |_=>simp[Ef]at h
end
end Go.Proofs.YtmdphpnaipbfjaaGreatDoor.Vc
