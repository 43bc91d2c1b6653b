/- Part 1 of the proofs that: What is stowed keeps the problem; lamps change by samples and by seeing alone. -/
import Derived.WalkKit
import Derived.OrdersHeld
import Derived.Below
import Derived.Laws.Entries
set_option linter.unusedVariables false
set_option linter.unusedSimpArgs false
namespace Go.Proofs.YtbcojgcjjpggnaaGreatDoor
open Go Go.RowKit
theorem om{p:Prop}(h:p:=by omega):p:=h
theorem dc{p:Prop}(h:p:=by decide):p:=h
theorem sm{p:Prop}(h:p:=by simp):p:=h
theorem kF{p:Prop}(h:p:=by kernel_rfl):p:=h
theorem gD{p:Prop}(h:p:=by grind):p:=h
theorem lf{n:Nat}:n<=n:=Nat.le_refl n
theorem sc(n:Nat):(n:Int)+1=((n+1:Nat):Int):=by omega
abbrev af:= @List.getElem?_eq_getElem
abbrev aq:= @if_neg
abbrev ax:= @Array.getElem?_eq_some_iff
abbrev bm:= @if_pos
abbrev bx:= @Decidable.byContradiction
abbrev bA:= @List.getElem_mem
abbrev ca:= @congrArg
abbrev cb:= @List.getD_eq_getElem?_getD
abbrev cc:= @Int.toNat_natCast
abbrev cd:= @List.take_of_length_le
abbrev cy:= @List.mem_cons
abbrev cz:= @Bool.and_eq_true
abbrev de:= @List.drop_eq_nil_of_le
abbrev dp:= @List.drop_eq_getElem_cons
abbrev dT:= @Nat.le_trans
abbrev eb:= @List.length_map
abbrev ec:= @List.mem_singleton
abbrev eh:= @List.getElem?_eq_some_iff
abbrev ek:= @Decidable.not_not
abbrev en:= @List.length_append
abbrev ep:= @decide_eq_false
abbrev ew:= @List.eq_nil_of_length_eq_zero
abbrev eH:= @List.length_take
abbrev eL:= @List.map_append
abbrev eR:= @List.length_cons
abbrev eU:= @List.take_add_one
abbrev fi:= @decide_eq_true
abbrev fk:= @of_decide_eq_true
abbrev fs:= @Nat.le_refl
abbrev ft:= @Nat.pow_le_pow_right
abbrev fX:= @List.not_mem_nil
abbrev ga:= @List.mem_append
abbrev gb:= @List.mem_of_getElem?
abbrev gr:= @Nat.mul_le_mul_right
abbrev gu:= @List.all_eq_true
abbrev gv:= @List.getElem?_append_left
abbrev gX:= @List.mem_map
abbrev hJ:= @List.getElem?_eq_none
abbrev hM:= @List.getElem?_map
abbrev hN:= @List.getElem?_append_right
abbrev hO:= @Nat.mul_le_mul_left
abbrev hP:= @of_decide_eq_false
abbrev iv:= @decide_eq_true_eq
abbrev iD:= @ByteArray.size_append
abbrev jv:= @List.getElem?_take
abbrev jx:= @Nat.zero_add
abbrev kc:= @Nat.pow_succ
abbrev kh:= @decide_eq_decide
abbrev kl:= @List.take_append_drop
abbrev kp:= @List.getElem?_drop
abbrev ky:= @List.append_assoc
abbrev k7:= @List.mem_of_mem_take
abbrev lO:= @Nat.min_eq_left
abbrev nG:= @Nat.add_mul
abbrev nW:= @Array.length_toList
abbrev ob:= @Option.map_eq_some_iff
abbrev oe:= @Nat.mul_add
abbrev oi:= @Ne.symm
abbrev oj:= @Nat.lt_of_le_of_lt
abbrev ow:= @List.flatten_append
abbrev ox:= @List.length_eq_one_iff
abbrev pe:= @List.any_eq_true
abbrev ph:= @Bool.not_eq_false
abbrev qc:= @Nat.lt_of_lt_of_le
abbrev rr:= @List.findIdx?_eq_some_iff_getElem
abbrev rT:= @List.nil_append
abbrev sH:= @List.length_drop
abbrev sY:= @List.flatten_cons
abbrev sZ:= @Int.natAbs_natCast
abbrev tm:= @Option.bind_eq_some_iff
abbrev tu:= @or_false
abbrev tJ:= @List.flatMap_cons
abbrev tT:= @Nat.add_zero
abbrev ui:= @Array.getElem?_eq_none
abbrev uk:= @Bool.eq_iff_iff
abbrev u0:= @Nat.mul_le_mul
abbrev u1:= @List.append_nil
abbrev va:= @List.length_set
abbrev vd:= @Bool.true_and
abbrev ve:= @List.length_pos_iff
abbrev vi:= @Nat.le_mul_of_pos_right
abbrev vn:= @List.mem_of_mem_drop
abbrev vu:= @List.length_nil
abbrev vv:= @List.sum_cons
abbrev wo:= @List.cons_append
abbrev wI:= @List.getElem?_set_self
abbrev wJ:= @List.any_eq_false
abbrev wM:= @List.length_singleton
abbrev wV:= @List.set_append_right
abbrev xt:= @if_false
abbrev yc:= @List.all_cons
abbrev yd:= @List.dropLast_concat_getLast
abbrev yq:= @List.map_cons
abbrev zy:= @List.ext_getElem?
abbrev zI:= @List.size_toArray
abbrev zK:= @Int.natAbs_mul
abbrev zY:= @Option.ne_none_iff_exists'
abbrev Ao:= @List.mem_filter
abbrev AG:= @List.range_succ
abbrev Bx:= @Array.getElem?_setIfInBounds_ne
abbrev By:= @List.mem_or_eq_of_mem_set
abbrev B4:= @Array.mem_of_getElem?
abbrev B5:= @List.eq_nil_iff_forall_not_mem
abbrev B6:= @List.pairwise_cons
abbrev Cb:= @Nat.mul_comm
abbrev Cd:= @List.map_set
abbrev Cf:= @List.eq_of_mem_replicate
abbrev Cy:= @Nat.mul_one
abbrev CA:= @List.mem_range
abbrev CL:= @List.take_append_of_le_length
abbrev CM:= @if_true
abbrev CY:= @Option.some.injEq
abbrev Da:= @List.nodup_cons
abbrev Db:= @Nat.div_add_mod
abbrev En:= @List.map_take
abbrev Ep:= @Bool.false_eq_true
abbrev Fc:= @Bool.false_and
abbrev FL:= @Option.toList_some
abbrev FP:= @List.getLast?_eq_getElem?
abbrev FV:= @List.findIdx?_eq_none_iff
abbrev F7:= @Nat.div_le_self
abbrev Gq:= @Option.some.inj
abbrev GK:= @Bool.not_eq_true'
abbrev Hm:= @Nat.lt_or_ge
abbrev Hu:= @Bool.eq_false_iff
abbrev HU:= @Option.isSome_iff_exists
abbrev Ij:= @Nat.add_assoc
abbrev Ip:= @Bool.false_or
abbrev Iq:= @List.mem_map_of_mem
abbrev IE:= @List.getLast?_eq_some_getLast
abbrev IQ:= @Nat.mod_lt
abbrev IS:= @Nat.sub_self
abbrev IW:= @List.set_cons_zero
abbrev Ja:= @List.filter_append
abbrev Jl:= @Bool.or_eq_true
abbrev Jm:= @Array.getElem?_setIfInBounds
abbrev Jo:= @List.length_zip
abbrev Jq:= @Nat.le_of_ble_eq_true
abbrev Jw:= @Array.getElem?_setIfInBounds_self_of_lt
abbrev JN:= @Int.tdiv_eq_ediv_of_nonneg
abbrev JX:= @Int.tmod_eq_emod_of_nonneg
abbrev Ka:= @Array.getElem?_append_left
abbrev Kz:= @Array.size_replicate
abbrev KJ:= @List.getElem?_set_ne
abbrev Lb:= @List.drop_zero
abbrev LC:= @Int.sign_eq_neg_one_of_neg
abbrev LN:= @List.pairwise_append
abbrev LO:= @List.take_zero
abbrev LP:= @Nat.add_comm
abbrev LQ:= @List.flatMap_nil
abbrev LR:= @List.map_nil
abbrev LS:= @Option.bind_some
abbrev LU:= @List.mem_flatten
abbrev LV:= @forall_eq_or_imp
abbrev MC:= @List.replicate_succ
abbrev ME:= @List.flatMap_append
abbrev MH:= @Nat.pow_lt_pow_iff_right
abbrev MY:= @Array.ext'
abbrev MZ:= @Int.eq_ofNat_of_zero_le
abbrev M0:= @List.getElem?_replicate
abbrev M1:= @Nat.pow_pos
abbrev M5:= @List.filter_cons_of_neg
abbrev M7:= @List.length_eq_zero_iff
abbrev NZ:= @List.drop_drop
abbrev OE:= @Nat.gcd_comm
abbrev OP:= @Int.sign_eq_one_of_pos
abbrev OQ:= @Nat.eq_zero_of_gcd_eq_zero_right
abbrev OS:= @Array.getElem?_modify
abbrev OT:= @Nat.div_lt_iff_lt_mul
abbrev OU:= @List.countP_le_length
abbrev Pb:= @List.zipIdx_cons
abbrev Pf:= @List.mem_flatMap
abbrev Pg:= @Bool.not_eq_true
abbrev Pl:= @Array.replicate_succ
abbrev Pw:= @Array.replicate_zero
abbrev PI:= @List.drop_append_of_le_length
abbrev P5:= @List.replicate_succ'
abbrev Qw:= @Int.ediv_emod_unique
abbrev QF:= @List.count_le_length
abbrev QM:= @List.append_toArray
abbrev QO:= @List.filter_eq_self
abbrev QX:= @Array.getD_eq_getD_getElem?
abbrev Rw:= @List.all_nil
abbrev RN:= @Nat.zero_mul
abbrev RQ:= @Bool.not_false
abbrev RR:= @List.take_take
abbrev RU:= @Nat.gcd_zero_right
abbrev RX:= @UInt8.toNat_ofNat'
abbrev R0:= @Rat.sub_eq_add_neg
abbrev Sc:= @Rat.not_lt
abbrev Sx:= @Bool.and_assoc
abbrev Sy:= @Nat.zero_le
abbrev SB:= @not_true_eq_false
abbrev SI:= @Int.le_refl
abbrev SJ:= @List.push_toArray
abbrev SK:= @List.drop_set
abbrev SS:= @Bool.and_true
abbrev SU:= @Prod.mk.injEq
abbrev SW:= @Nat.div_eq_of_lt
abbrev SX:= @Nat.mod_eq_of_lt
abbrev Tc:= @Nat.gcd_dvd_left
abbrev Te:= @Nat.mul_lt_mul''
abbrev Th:= @List.countP_cons
abbrev Tn:= @forall_eq
abbrev Tz:= @Nat.blt_eq
abbrev TA:= @Nat.mul_zero
abbrev TC:= @Int.le_of_lt
abbrev TF:= @Nat.succ_mul
abbrev TS:= @Eq.symm
abbrev Ub:= @List.foldl_cons
abbrev Uc:= @Int.natCast_mul
abbrev Ui:= @List.all_append
abbrev Um:= @Option.map_some
abbrev Up:= @List.nodup_nil
abbrev Uz:= @Int.natAbs_neg
abbrev UE:= @Nat.min_def
abbrev UU:= @Int.not_lt
end Go.Proofs.YtbcojgcjjpggnaaGreatDoor

namespace Go.Proofs.YtbcojgcjjpggnaaGreatDoor.Vc
open Go Go.RowKit

inductive SV where
 |v (x:Value)
 |t
 |f
 |p (q:Prop) (h:Decidable q)
 |loc (l off:Nat)
 |u

def SV.val:SV->Option Value
 | .v x=>some x
 | .t=>some (.bool true)
 | .f=>some (.bool false)
 | .p q h=>some (.bool (@decide q h))
 | .loc _ _=>none
 | .u=>none

def SV.den(b:Nat->Nat):SV->Value
 | .v x=>x
 | .t=> .bool true
 | .f=> .bool false
 | .p q h=> .bool (@decide q h)
 | .loc l off=> .pointer (some ⟨b l,off,none⟩)
 | .u=>undef

abbrev Env:=List (Nat×SV)

def get:Env->Nat->Option SV
 |[],_=>none
 |x::r,s=>match Nat.beq x.1 s with
  |true=>some x.2
  |false=>get r s

def drop:Env->Nat->Env
 |[],_=>[]
 |x::r,s=>match Nat.beq x.1 s with
  |true=>drop r s
  |false=>x::drop r s

def SV.Ph(l:Nat):SV->Bool
 | .loc k _=>Nat.beq k l
 |_=>false

def pV:Env->Nat->Env
 |[],_=>[]
 |x::r,l=>match x.2.Ph l with
  |true=>drop (pV r l) x.1
  |false=>x::pV r l

structure rJ where
 SM:Nat
 new:Bool
 ty:Nat
 cells:List Value

def bB:List rJ->Nat->Option rJ
 |[],_=>none
 |x::r,l=>match Nat.beq x.SM l with
  |true=>some x
  |false=>bB r l

def kC:List rJ->Nat->List rJ
 |[],_=>[]
 |x::r,l=>match Nat.beq x.SM l with
  |true=>kC r l
  |false=>x::kC r l

structure St where
 env:Env
 boxes:List rJ
 w:World
 d:Option (List Nat)

structure Ext (B:Nat) (ts:List Nat) (w w':World):Prop where
 below:Below B w w'
 other:∀k,k<w.heap.size->w'.heap[k]? =w.heap[k]?∨∃t∈ts,∃c c' fr,w.heap[k]? =some (.cells c t fr)/\w'.heap[k]? =some (.cells c' t fr)

def aa(w:World)(a:Addr)(vs:List Value):Prop:=∀i,(h:i<vs.length)->w.cell? (a.add i)=some vs[i]

def Pure(P:Program)(f:FuncId)(args:Array Value)(w:World)(R:Value->World->Prop):Prop:=
 Calls P f args w fun e w'=>∃v,e= .returned v/\Below w.heap.size w w'/\R v w'

def cI(P:Program)(f:FuncId)(args:Array Value)(B:Nat)(w:World)(R:Value->World->Prop):Prop:=
 Calls P f args w fun e w'=>∃v,e= .returned v/\Below B w w'/\R v w'

def Pt(P:Program)(f:FuncId)(todo:List Item)(T:Array Value)(w:World)(R:Ending->World->Prop):Prop:=
 ∀cs,∃e w' fr,R e w'/\Comes P (lone (({(default:Frame)with fn:=f,kind:= .normal}:Frame).at ⟨T,[]⟩ todo) cs w) (lone fr cs w') e/\fr.fn=f/\fr.leaving P w' e

def pW(b:Nat->Nat)(env:Env)(T:Array Value):Prop:=∀s x,get env s=some x->T[s]? =some (x.den b)

structure tf (b:Nat->Nat) (B:Nat) (boxes:List rJ) (w:World):Prop where
 at_:∀l x,bB boxes l=some x->B<=b l/\w.heap[b l]? =some (.cells x.cells.toArray x.ty (0,0))
 ne:∀l m x y,bB boxes l=some x->bB boxes m=some y->l≠m->b l≠b m

def Out(B:Nat)(w:World)(R:Value->World->Prop):Ending->World->Prop:=fun e w'=>∃v,e= .returned v/\Below B w w'/\R v w'

def At(P:Program)(f:FuncId)(N:Nat)(todo:List Item)(env:Env)(boxes:List rJ)(B:Nat)(w:World)(R:Value->World->Prop):Prop:=
 ∀b T,T.size=N->pW b env T->tf b B boxes w->B<=w.heap.size->Pt P f todo T w (Out B w R)

inductive Lf where
 |int (k:IntKind)|bool|str|slice|func|map|ptr|any
inductive S1 where
 |one (l:Lf)|agg (ls:List Lf)
inductive Sh where
 |s (x:S1)|tup (l:List S1)

def Pj:Lf->(Value->Prop)->Prop
 | .int k,K=>∃n:Int,K (.int k n)
 | .bool,K=>∃b:Bool,K (.bool b)
 | .str,K=>∃s:ByteArray,K (.string s)
 | .slice,K=>∃(A:Option Addr)(n c:Nat),K (.slice A n c)
 | .func,K=>∃(f:Nat)(a c:Array Value),K (.func (.func f) a c)
 | .map,K=>∃r:Option Nat,K (.map r)
 | .ptr,K=>∃a:Option Addr,K (.pointer a)
 | .any,K=>∃v,K v
def L0:List Lf->(List Value->Prop)->Prop
 |[],K=>K []
 |l::r,K=>Pj l fun v=>L0 r fun vs=>K (v::vs)
def XS:S1->(Value->Prop)->Prop
 | .one l,K=>Pj l K
 | .agg ls,K=>L0 ls fun vs=>K (.agg vs.toArray)
def Pk:List S1->(List Value->Prop)->Prop
 |[],K=>K []
 |l::r,K=>XS l fun v=>Pk r fun vs=>K (v::vs)
def Tu:Sh->(Value->Prop)->Prop
 | .s x,K=>XS x K
 | .tup l,K=>Pk l fun vs=>K (.tuple vs.toArray)

def GX(P:Program):Nat->TypeId->List Lf
 |0,_=>[.any]
 |n+1,t=>match P.underlying t with
  |some (.int k)=>[.int k]
  |some .bool=>[.bool]
  |some .string=>[.str]
  |some (.slice _)=>[.slice]
  |some (.func _ _ _)=>[.func]
  |some (.map _ _)=>[.map]
  |some (.pointer _)=>[.ptr]
  |some (.struct a)=>a.toList.flatMap fun f=>GX P n f.type
  |some (.array m e)=>(List.replicate m (GX P n e)).flatten
  |_=>[.any]
def fM(P:Program)(t:TypeId):Bool:=match P.underlying t with
 |some (.struct _)=>true
 |some (.array _ _)=>true
 |_=>false
def s1(P:Program)(t:TypeId):S1:=match fM P t with
 |true=> .agg (GX P 8 t)
 |false=>match GX P 8 t with
  |l::_=> .one l
  |[]=> .one .any
def abV:Lf->Lf
 | .func=> .any
 |l=>l
def s1A(P:Program)(t:TypeId):S1:=match s1 P t with
 | .one l=> .one (abV l)
 | .agg ls=> .agg (ls.map abV)
def sh(P:Program)(t:TypeId):Sh:=match P.underlying t with
 |some (.tuple ts)=> .tup (ts.toList.map (s1A P))
 |_=> .s (s1 P t)

structure Cx where
 P:Program
 f:FuncId
 N:Nat
 res:List ResultVar
 XT:List ((Bool×Nat)×List Nat×List Nat)
 mode:List (Nat×Nat×Nat)
 w0:World
 B:Nat
 R:Value->World->Prop

def fN:List (Nat×Nat×Nat)->Nat->Nat->Nat
 |[],_,_=>0
 |(r,i,m)::l,a,b=>match Nat.beq r a&&Nat.beq i b with
  |true=>m
  |false=>fN l a b

def Ma:List ((Bool×Nat)×List Nat×List Nat)->Bool->Nat->Option (List Nat×List Nat)
 |[],_,_=>none
 |((b,n),x)::l,a,n'=>match (match b,a with|true,true=>true|false,false=>true|_,_=>false)&&Nat.beq n n' with
  |true=>some x
  |false=>Ma l a n'

def ins(t:Nat):List Nat->List Nat
 |[]=>[t]
 |x::r=>match Nat.beq x t with
  |true=>x::r
  |false=>x::ins t r

def St.vA(st:St):St:={st with d:=some (st.d.getD [])}
def St.wrote(st:St)(t:Nat):St:={st with d:=some (ins t (st.d.getD []))}

def yR:List rJ->List rJ
 |[]=>[]
 |x::r=>{x with new:=false}::yR r

def gZ(B:Nat)(st:St)(K:St->Prop):Prop:=
 match st.d with
 |none=>K st
 |some ts=>∀w1,Ext B ts st.w w1->K {env:=st.env,boxes:=yR st.boxes,w:=w1,d:=none}

def put(N:Nat)(st:St)(dst:Option Tmp)(x:SV)(K:St->Prop):Prop:=
 match dst with
 |none=>K st
 |some s=>match Nat.blt s N with
  |true=>K {st with env:=(s,x)::drop st.env s}
  |false=>False

def ev(st:St):Operand->Option SV
 | .tmp t=>get st.env t
 | .const (.bool true)=>some .t
 | .const (.bool false)=>some .f
 | .const v=>some (.v v)
 | .global g=>some (.v (.pointer (some ⟨g,0,none⟩)))
 | .func f=>some (.v (.func (.func f) #[] #[]))

def yS(o:Option SV)(K:SV->Prop):Prop:=match o with
 |some x=>K x
 |none=>False

def xh(o:Option SV)(K:Value->Prop):Prop:=match o with
 |some x=>match x.val with
  |some v=>K v
  |none=>False
 |none=>False

def oV(st:St):List Operand->Option (List Value)
 |[]=>some []
 |x::r=>match (ev st x).bind SV.val,oV st r with
  |some v,some vs=>some (v::vs)
  |_,_=>none

def yf(x:SV)(K:Bool->Prop):Prop:=match x with
 | .t=>K true
 | .f=>K false
 | .p q _=>(q->K true)/\(¬q->K false)
 | .v (.bool b)=>(b=true->K true)/\(b=false->K false)
 |_=>False

def aS:IntKind->Int->Prop
 | .i8,n=> -128<=n/\n<=127
 | .i16,n=> -32768<=n/\n<=32767
 | .i32,n=> -2147483648<=n/\n<=2147483647
 | .i64,n=> -9223372036854775808<=n/\n<=9223372036854775807
 | .u8,n=>0<=n/\n<=255
 | .u16,n=>0<=n/\n<=65535
 | .u32,n=>0<=n/\n<=4294967295
 | .u64,n=>0<=n/\n<=18446744073709551615
theorem ir{k:IntKind}{n:Int}(h:aS k n:=by simp only[aS];omega):aS k n:=h

def num(raw:Bool)(k:IntKind)(n:Int)(K:SV->Prop):Prop:=match raw with
 |true=>K (.v (.int k (k.wrap n)))
 |false=>aS k n/\K (.v (.int k n))

def bt(s:ByteArray)(i:Int):Int:=((s.data.toList.getD i.toNat 0).toNat:Int)

def wz:IntKind->IntKind->Bool
 | .i8,.i8=>true| .i16,.i16=>true| .i32,.i32=>true| .i64,.i64=>true
 | .u8,.u8=>true| .u16,.u16=>true| .u32,.u32=>true| .u64,.u64=>true
 |_,_=>false

def JC(op:BinOp)(x y:Int)(K:SV->Prop):Prop:=match op with
 | .eql=>K (.p (x=y) inferInstance)
 | .neq=>K (.p (x≠y) inferInstance)
 | .lss=>K (.p (x<y) inferInstance)
 | .leq=>K (.p (x<=y) inferInstance)
 | .gtr=>K (.p (x>y) inferInstance)
 | .geq=>K (.p (x≥y) inferInstance)
 |_=>False

def qY(k:IntKind)(y:Int):Prop:=0<=y/\y<=(k.bits:Int)
def wA(k:IntKind)(x y:Int):Int:=k.wrap (x*2^y.toNat)
def nB(x y:Int):Int:=x / 2^y.toNat
def ED(raw:Bool)(op:BinOp)(k:IntKind)(x y:Int)(K:SV->Prop):Prop:=match op with
 | .shl=>qY k y/\K (.v (.int k (wA k x y)))
 | .shr=>qY k y/\K (.v (.int k (nB x y)))
 | .and=>K (.v (.int k (bits .and k x y)))
 | .or=>K (.v (.int k (bits .or k x y)))
 | .xor=>K (.v (.int k (bits .xor k x y)))
 | .andNot=>K (.v (.int k (bits .andNot k x y)))
 | .add=>num raw k (x+y) K
 | .sub=>num raw k (x - y) K
 | .mul=>num raw k (x*y) K
 | .quo=>match raw with
  |true=>y≠0/\K (.v (.int k (k.wrap (x.tdiv y))))
  |false=>(0<=x/\0<y/\aS k x)/\K (.v (.int k (x / y)))
 | .rem=>match raw with
  |true=>y≠0/\K (.v (.int k (x.tmod y)))
  |false=>(0<=x/\0<y)/\K (.v (.int k (x % y)))
 |_=>JC op x y K

def JD(op:BinOp)(a b:ByteArray)(K:SV->Prop):Prop:=match op with
 | .eql=>K (.p (a=b) inferInstance)
 | .neq=>K (.p (a≠b) inferInstance)
 | .add=>a.size+b.size<=9223372036854775807/\K (.v (.string (a++b)))
 |_=>False

structure DP where
 q:Prop
 h:Decidable q

def fo:List Lf->List Value->List Value->Option DP
 |[],[],[]=>some ⟨True,inferInstance⟩
 | .int _::ls,.int k x::r,.int l y::s=>match wz k l,fo ls r s with
  |true,some ⟨q,_⟩=>some ⟨x=y/\q,inferInstance⟩
  |_,_=>none
 | .str::ls,.string x::r,.string y::s=>match fo ls r s with
  |some ⟨q,_⟩=>some ⟨x=y/\q,inferInstance⟩
  |none=>none
 | .bool::ls,.bool x::r,.bool y::s=>match fo ls r s with
  |some ⟨q,_⟩=>some ⟨x=y/\q,inferInstance⟩
  |none=>none
 |_,_,_=>none

def tiled(P:Program):Nat->List Field->Nat->Bool
 |off,[],n=>Nat.beq off n
 |off,f::r,n=>Nat.beq f.offset off&&tiled P (off+P.cellsOf f.type) r n

def tt(P:Program):Nat->TypeId->Bool
 |0,_=>false
 |n+1,t=>match P.underlying t with
  |some (.int _)=>Nat.beq (P.cellsOf t) 1
  |some .bool=>Nat.beq (P.cellsOf t) 1
  |some .string=>Nat.beq (P.cellsOf t) 1
  | some (.struct a) => !(P.stoodInHeld t) && tiled P 0 a.toList (P.cellsOf t) && a.toList.all fun f => f.name != "_" && tt P n f.type
  |_=>false

def AK:SV->Option Bool
 | .t=>some true
 | .f=>some false
 | .p q h=>some (@decide q h)
 | .v (.bool b)=>some b
 |_=>none

def wB{α:Type}(P:Program):Sem α->Option α
 | .pure a=>some a
 | .program k=>wB P (k P)
 |_=>none

def rho(st:St)(x:Operand):Value:=((ev st x).bind SV.val).getD undef

def AL(st:St):List Operand->Bool
 |[]=>true
 |x::r=>match ((ev st x).bind SV.val).isSome with
  |true=>AL st r
  |false=>false

def pX(c:Cx)(o:Oper)(st:St)(K:SV->Prop):Prop:=
 match AL st o.op.operands.toList with
 |false=>False
 |true=>match wB c.P (execOp (rho st) o)with
  |some (.value v)=>K (.v v)
  |_=>False

def known(P:Program)(t:TypeId):Bool:=match P.underlying t with
 |some _=>true
 |none=>false

def tK(P:Program)(t:TypeId):Bool:=match P.underlying t with
 |some (.struct _)=>true
 |_=>false

def xi(P:Program)(t:TypeId)(f:Nat):Option Field:=match P.underlying t with
 |some (.struct a)=>a.toList[f]?
 |_=>none

def xj(cells:List Value)(off n:Nat):List Value:=(cells.drop off).take n

def uM (P : Program) (boxes : List rJ) (t : TypeId) (l off : Nat) : Option Value :=
  match bB boxes l with
  | none => none
  | some x => match P.underlying t with
   | none => none
   | some _ => match fM P t with
    | true => match Nat.ble (off + P.cellsOf t) x.cells.length with
      | true => some (.agg (xj x.cells off (P.cellsOf t)).toArray)
      | false => none
    | false => x.cells[off]?

def Ad(P:Program)(w:World)(a:Addr)(t:TypeId)(K:SV->Prop):Prop:=match P.underlying t with
 |none=>False
 |some _=>match fM P t with
  |true=>match Nat.beq (GX P 8 t).length (P.cellsOf t)with
   |true=>L0 (GX P 8 t) fun vs=>aa w a vs/\K (.v (.agg vs.toArray))
   |false=>False
  |false=>match GX P 8 t with
   |l::_=>Pj l fun v=>aa w a [v]/\K (.v v)
   |[]=>False

def bound(st:St)(o:Option Operand)(K:Option Int->Prop):Prop:=match o with
 |none=>K none
 |some x=>match ev st x with
  |some (.v (.int _ n))=>K (some n)
  |_=>False

def cC(A:Option Addr)(l cap size:Nat):Option Addr:=if cap=l then A else A.map (·.add (l*size))

def JE (P : Program) (t : TypeId) (x : SV) (lo hi : Option Int) (K : SV → Prop) : Prop :=
  match P.underlying t, x with
  | some .string, .v (.string s) => match lo, hi with
    | none, none => K (.v (.string s))
    | none, some h => (0 ≤ h ∧ h ≤ s.size) ∧ K (.v (.string (s.extract 0 h.toNat)))
    | some l, none => (0 ≤ l ∧ l ≤ s.size) ∧ K (.v (.string (s.extract l.toNat s.size)))
    | some l, some h => (0 ≤ l ∧ l ≤ h ∧ h ≤ s.size) ∧ K (.v (.string (s.extract l.toNat h.toNat)))
  | some (.slice e), .v (.slice A n cap) => match known P e with
   | false => False
   | true => match lo, hi with
    | none, none => K (.v (.slice A n cap))
    | none, some h => (0 ≤ h ∧ h ≤ cap) ∧ K (.v (.slice A h.toNat cap))
    | some l, none => (0 ≤ l ∧ l ≤ n ∧ n ≤ cap) ∧ K (.v (.slice (cC A l.toNat cap (P.cellsOf e)) (n - l.toNat) (cap - l.toNat)))
    | some l, some h => (0 ≤ l ∧ l ≤ h ∧ h ≤ cap) ∧ K (.v (.slice (cC A l.toNat cap (P.cellsOf e)) (h.toNat - l.toNat) (cap - l.toNat)))
  | _, _ => False

def lI(n:Nat):List Nat->Bool
 |[]=>false
 |x::r=>match Nat.beq x n with
  |true=>true
  |false=>lI n r
def EE(hold:Option (List Nat))(l:Nat):Bool:=match hold with
 |none=>true
 |some ls=>lI l ls

def each(j:Int):Nat->(Nat->Prop)->Prop
 |0,_=>True
 |n+1,Q=>each j n Q/\(j=(n:Int)->Q n)

def value(c:Cx)(raw:Bool)(lw:Option World)(hold:Option (List Nat))(o:Oper)(st:St)(K:SV->Prop):Prop:=
 match o.op with
 | .move x=>yS (ev st x) K
 | .assign x=>yS (ev st x) K
 | .pick m a b=>yS (ev st m) fun x=>yf x fun t=>match t with
  |true=>yS (ev st a) K
  |false=>yS (ev st b) K
 | .binOp op d x y _=>match ev st x,ev st y with
  |some (.v (.int k a)),some (.v (.int r b))=>match wz k r with
   |true=>ED raw op k a b K
   |false=>match op with
    | .shl=>qY k b/\K (.v (.int k (wA k a b)))
    | .shr=>qY k b/\K (.v (.int k (nB a b)))
    |_=>pX c o st K
  |some (.v (.string a)),some (.v (.string b))=>JD op a b K
  |some (.v (.agg xs)),some (.v (.agg ys))=>match tK c.P d&&tt c.P 6 d&&Nat.beq xs.toList.length (c.P.cellsOf d)&&Nat.beq ys.toList.length (c.P.cellsOf d),fo (GX c.P 6 d) xs.toList ys.toList with
   |true,some ⟨q,h⟩=>match op with
    | .eql=>K (.p q h)
    | .neq=>K (.p (¬q) (@instDecidableNot q h))
    |_=>False
   |_,_=>False
  |some (.v (.slice A _ _)),some (.v (.slice none 0 0))=>match c.P.underlying d with
   |some (.slice _)=>match op with
    | .eql=>K (.p (A=none) inferInstance)
    | .neq=>K (.p (¬A=none) inferInstance)
    |_=>False
   |_=>False
  |some a,some b=>match c.P.underlying d,AK a,AK b with
   |some .bool,some x,some y=>match op with
    | .eql=>K (.p (x=y) inferInstance)
    | .neq=>K (.p (¬x=y) inferInstance)
    |_=>False
   |_,_,_=>pX c o st K
  |_,_=>False
 | .unOp .neg _ x=>match ev st x with
  |some (.v (.int k a))=>num raw k (-a) K
  |_=>False
 | .unOp .xor _ x=>match ev st x with
  |some (.v (.int k a))=>K (.v (.int k (bits .xor k (if k.signed then -1 else k.max) a)))
  |_=>False
 | .unOp .not _ x=>match ev st x with
  |some .t=>K .f
  |some .f=>K .t
  |some (.p q h)=>K (.p (¬q) (@instDecidableNot q h))
  |some (.v (.bool b))=>K (.p (b=false) inferInstance)
  |_=>False
 | .convert src dst x=>match c.P.underlying dst,ev st x with
  |some (.int k),some (.v (.int _ n))=>match known c.P src with
   |true=>num raw k n K
   |false=>False
  |_,_=>pX c o st K
 | .nilCheck x=>match ev st x with
  |some (.loc l off)=>K (.loc l off)
  |some (.v (.pointer (some a)))=>K (.v (.pointer (some a)))
  |some (.v (.func (.func g) a b))=>K (.v (.func (.func g) a b))
  |_=>False
 | .fieldAddr s x f=>match xi c.P s f with
  |none=>False
  |some fd=>match Nat.beq (c.P.cellsOf fd.type) 0 with
   |true=>False
   |false=>match ev st x with
    |some (.loc l off)=>K (.loc l (off+fd.offset))
    |some (.v (.pointer (some a)))=>K (.v (.pointer (some (a.add fd.offset))))
    |_=>False
 | .indexAddr t x i=>match c.P.underlying t,ev st x,ev st i with
  |some (.slice e),some (.v (.slice A n _)),some (.v (.int _ j))=>match known c.P e with
   |true=>(0<=j/\j<n)/\∃a,A=some a/\K (.v (.pointer (some (a.add (j.toNat*c.P.cellsOf e)))))
   |false=>False
  |some (.array n e),some (.v (.pointer (some a))),some (.v (.int _ i))=>match known c.P e with
   |true=>(0<=i/\i<n)/\K (.v (.pointer (some (a.add (i.toNat*c.P.cellsOf e)))))
   |false=>False
  |some (.array n e),some (.loc l off),some (.v (.int _ i))=>match raw with
   |true=>match known c.P e with
    |true=>(0<=i/\i<n)/\each i n fun j=>K (.loc l (off+j*c.P.cellsOf e))
    |false=>False
   |false=>match i with
    | .ofNat j=>match Nat.blt j n&&known c.P e with
     |true=>K (.loc l (off+j*c.P.cellsOf e))
     |false=>False
    |_=>False
  |_,_,_=>False
 | .index t x i=>match c.P.underlying t,ev st x,ev st i with
  |some .string,some (.v (.string s)),some (.v (.int _ j))=>(0<=j/\j<s.size)/\K (.v (.int .u8 (bt s j)))
  |_,_,_=>pX c o st K
 | .slice t x lo hi none=>yS (ev st x) fun a=>bound st lo fun l=>bound st hi fun h=>JE c.P t a l h K
 | .load t x=>match ev st x with
  |some (.loc l off)=>match EE hold l,uM c.P st.boxes t l off with
   |true,some v=>K (.v v)
   |_,_=>False
  |some (.v (.pointer (some a)))=>match lw with
   |none=>False
   |some w=>Ad c.P w a t K
  |_=>False
 |_=>pX c o st K

def az(P:Program)(g:FuncId):Bool:=match P.funcs[g]? with
 |some fn=>match fn.body with
  | some _ => match fn.name == "runtime.NumGoroutine" with
   |true=>false
   |false=>true
  |none=>false
 |none=>false

def qi(st:St)(l ty:Nat)(cells:List Value):St:=
 {env:=pV st.env l,boxes:=⟨l,true,ty,cells⟩::kC st.boxes l,w:=st.w,d:=some (st.d.getD [])}

def setCells:List Value->Nat->List Value->List Value
 |cells,_,[]=>cells
 |cells,off,v::r=>setCells (cells.set off v) (off+1) r

def hasType(t:Nat):List rJ->Bool
 |[]=>false
 |x::r=>match Nat.beq x.ty t with
  |true=>true
  |false=>hasType t r

def Ae(dyn:Bool)(P:Program)(g:FuncId)(q:Prop):Prop:=match dyn with
 |true=>az P g=true/\q
 |false=>match az P g with
  |true=>q
  |false=>False

structure aC (w w':World) (b:Nat) (ty:Nat) (cells:List Value):Prop where
 at_:w'.heap[b]? =some (.cells cells.toArray ty (0,0))
 rest:∀k,k≠b->w'.heap[k]? =w.heap[k]?
 size:w'.heap.size=w.heap.size
 os:w'.os=w.os
 tape:w'.tape=w.tape
 output:w'.output=w.output

def zeroCells(P:Program)(t:TypeId):Option (List Value):=((P.info? t).bind (·.zero)).map fun v=>v.cells.toList

def bo:Value->Bool
 | .agg _=>false
 | .tuple _=>false
 |_=>true
def oZ:List Value->Bool
 |[]=>true
 |v::r=>bo v&&oZ r
def JF(v:Value)(Q:Prop):Prop:=match v with
 | .agg _=>False
 | .tuple _=>False
 |_=>Q
def Ah:List Value->Prop->Prop
 |[],Q=>Q
 |v::r,Q=>JF v (Ah r Q)

def effect (c : Cx) (dyn : Bool) (o : Oper) (st : St) (K : SV → St → Prop) : Prop :=
  match o.op with
  | .alloc t => match o.dst, zeroCells c.P t with
    | some l, some cells => K (.loc l 0) (qi st l t cells)
    | _, _ => False
  | .box t x => match o.dst with
    | none => False
    | some l => xh (ev st x) fun v => K (.loc l 0) (qi st l t v.cells.toList)
  | .store t x y => match ev st x with
    | some (.loc l off) => match bB st.boxes l with
      | none => False
      | some b => xh (ev st y) fun v => match Nat.beq v.cells.toList.length (c.P.cellsOf t) && known c.P t && Nat.ble (off + v.cells.toList.length) b.cells.length with
        | false => False
        | true => Ah v.cells.toList <| K .u { env := st.env, boxes := { b with cells := setCells b.cells off v.cells.toList } :: kC st.boxes l, w := st.w, d := match b.new with
            | true => some (st.d.getD [])
            | false => some (ins b.ty (st.d.getD [])) }
    | some (.v (.pointer (some a))) => xh (ev st y) fun v => match Nat.beq v.cells.toList.length (c.P.cellsOf t) && known c.P t && oZ v.cells.toList with
      | false => False
      | true => gZ c.B st fun st => ∃ (cs : List Value) (ty : Nat), c.B ≤ a.block ∧ a.spot = none ∧ st.w.heap[a.block]? = some (.cells cs.toArray ty (0, 0)) ∧ a.off + v.cells.toList.length ≤ cs.length ∧
          hasType ty st.boxes = false ∧ ∀ w1, aC st.w w1 a.block ty (setCells cs a.off v.cells.toList) → K .u { st with w := w1 }
    | _ => False
  | .call cl => match cl.callee with
    | .value x => match ev st x, oV st cl.args.toList with
      | some (.v (.func (.func g) first cap)), some vs => Ae dyn c.P g <| gZ c.B st fun st => Pure c.P g (first.toList ++ vs ++ cap.toList).toArray st.w fun v w1 =>
            Tu (sh c.P o.type) fun x => v = x ∧ K (.v x) { env := st.env, boxes := yR st.boxes, w := w1, d := none }
      | _, _ => False
    | _ => False
  | _ => False

def nU:List rJ->List Nat
 |[]=>[]
 |x::r=>x.ty::nU r

def ae(P:Program)(s:Sem Value)(B:Nat)(tys:List Nat)(w:World)(K:Value->World->Prop):Prop:=
 ∃v w1,s.run P w= .ok v w1/\Below B w w1/\w.heap.size<=w1.heap.size/\
  (∀(k ty:Nat)(cs:Array Value),ty∈tys->w.heap[k]? =some (.cells cs ty (0,0))->w1.heap[k]? =w.heap[k]?)/\K v w1
def Pn(P:Program)(s:Sem Next)(B:Nat)(tys:List Nat)(w:World)(K:Value->World->Prop):Prop:=
 ∃v w1,s.run P w= .ok (.value v) w1/\Below B w w1/\w.heap.size<=w1.heap.size/\
  (∀(k ty:Nat)(cs:Array Value),ty∈tys->w.heap[k]? =some (.cells cs ty (0,0))->w1.heap[k]? =w.heap[k]?)/\K v w1

def parts(st:St):List (Nat×Operand)->Option (List (Nat×Value))
 |[]=>some []
 |(i,x)::r=>match (ev st x).bind SV.val,parts st r with
  |some v,some vs=>some ((i,v)::vs)
  |_,_=>none

def qZ(st:St)(o:Oper):Option (Sem Value):=match o.op with
 | .call cl=>match cl.callee,oV st cl.args.toList with
  | .builtin .append,some vs=>some (Builtin.append_ cl.argTypes o.type vs.toArray)
  | .builtin .copy,some vs=>some (Builtin.copy_ cl.argTypes o.type vs.toArray)
  | .builtin .clear,some vs=>some (Builtin.clear_ cl.argTypes o.type vs.toArray)
  |_,_=>none
 | .makeSlice t l k=>match (ev st l).bind SV.val,(ev st k).bind SV.val with
  |some a,some b=>some (Instr.makeSlice t a b)
  |_,_=>none
 | .buildSlice t n ps=>match parts st ps.toList with
  |some l=>some (Instr.buildSlice t n l.toArray)
  |none=>none
 | .convert src dst x=>match (ev st x).bind SV.val with
  |some a=>some (convert src dst a)
  |none=>none
 | .index t x i=>match (ev st x).bind SV.val,(ev st i).bind SV.val with
  |some a,some b=>some (Instr.index t a b)
  |_,_=>none
 | .makeMap t r=>match r with
  |none=>some (Instr.makeMap t none)
  |some x=>match (ev st x).bind SV.val with
   |some a=>some (Instr.makeMap t (some a))
   |none=>none
 | .lookup t x i ok=>match (ev st x).bind SV.val,(ev st i).bind SV.val with
  |some a,some b=>some (Instr.lookup t a b ok)
  |_,_=>none
 | .slice t x none none none=>match (ev st x).bind SV.val with
  |some a=>some (Instr.sliceAt t a none none none)
  |none=>none
 | .slice t x (some l) (some h) (some m)=>match (ev st x).bind SV.val,(ev st l).bind SV.val,(ev st h).bind SV.val,(ev st m).bind SV.val with
  |some a,some b,some d,some e=>some (Instr.sliceAt t a (some b) (some d) (some e))
  |_,_,_,_=>none
 | .binOp .shr t x i _=>match (ev st x).bind SV.val,(ev st i).bind SV.val with
  |some a,some b=>some (binOp .shr t a b)
  |_,_=>none
 |_=>none

def behind(P:Program)(t:TypeId)(st:St)(K:SV->St->Prop)(v:Value)(w1:World):Prop:=
 Tu (sh P t) fun x=>v=x/\K (.v x) {env:=st.env,boxes:=yR st.boxes,w:=w1,d:=none}

def dY(P:Program)(s:Sem Unit)(B:Nat)(tys:List Nat)(w:World)(K:World->Prop):Prop:=
 ∃w1,s.run P w= .ok () w1/\Below B w w1/\w.heap.size<=w1.heap.size/\
  (∀(k ty:Nat)(cs:Array Value),ty∈tys->w.heap[k]? =some (.cells cs ty (0,0))->w1.heap[k]? =w.heap[k]?)/\K w1
def Ai(c:Cx)(t:TypeId)(m k x:Operand)(st:St)(K:SV->St->Prop):Prop:=
 match (ev st m).bind SV.val,(ev st k).bind SV.val,(ev st x).bind SV.val with
 |some a,some d,some e=>gZ c.B st fun st=>dY c.P (Instr.mapUpdate t a d e) c.B (nU st.boxes) st.w fun w1=>K .u {env:=st.env,boxes:=yR st.boxes,w:=w1,d:=none}
 |_,_,_=>False

def newAt(c:Cx)(s:Sem Value)(st:St)(K:SV->St->Prop):Prop:=
 gZ c.B st fun st=>ae c.P s c.B (nU st.boxes) st.w fun v w1=>∃a:Addr,v= .pointer (some a)/\K (.v (.pointer (some a))) {env:=st.env,boxes:=yR st.boxes,w:=w1,d:=none}

def Po(c:Cx)(o:Oper)(st:St)(K:SV->St->Prop):Prop:=
 match qZ st o with
 |some s=>gZ c.B st fun st=>ae c.P s c.B (nU st.boxes) st.w (behind c.P o.type st K)
 |none=>match o.op with
  | .call cl=>match cl.callee with
   | .value x=>match ev st x,oV st cl.args.toList with
    |some (.v (.func (.func g) first cap)),some vs=>gZ c.B st fun st=>Pn c.P (callFunc g (first.toList++vs++cap.toList).toArray) c.B (nU st.boxes) st.w (behind c.P o.type st K)
    |_,_=>False
   |_=>False
  | .mapUpdate t m k x=>Ai c t m k x st K
  | .insert t m k x=>Ai c t m k x st K
  | .alloc t=>newAt c (Instr.alloc t true (.tuple #[])) st K
  | .box t x=>match (ev st x).bind SV.val with
   |some a=>newAt c (Instr.box t a) st K
   |none=>False
  |_=>False

def XU(c:Cx)(s:Sem Value)(st:St)(K:SV->St->Prop):Prop:=
 gZ c.B st fun st=>ae c.P s st.w.heap.size (nU st.boxes) st.w fun v w1=>∃a:Addr,v= .pointer (some a)/\K (.v (.pointer (some a))) {env:=st.env,boxes:=yR st.boxes,w:=w1,d:=none}
def JG(c:Cx)(o:Oper)(st:St)(K:SV->St->Prop):Prop:=match qZ st o with
 |some s=>gZ c.B st fun st=>ae c.P s st.w.heap.size (nU st.boxes) st.w (behind c.P o.type st K)
 |none=>match o.op with
  | .alloc t=>XU c (Instr.alloc t true (.tuple #[])) st K
  |_=>False

def rK(dyn:Bool)(c:Cx)(o:Oper)(st:St)(K:SV->St->Prop):Prop:=match o.op with
 | .call cl=>match cl.callee with
  | .value x=>match ev st x,oV st cl.args.toList with
   |some (.v (.func (.func g) first cap)),some vs=>Ae dyn c.P g<|gZ c.B st fun st=>cI c.P g (first.toList++vs++cap.toList).toArray c.B st.w fun v w1=>
     (∀(k ty:Nat)(cs:Array Value),ty∈nU st.boxes->st.w.heap[k]? =some (.cells cs ty (0,0))->w1.heap[k]? =st.w.heap[k]?)/\behind c.P o.type st K v w1
   |_,_=>False
  |_=>False
 |_=>False

def Tv(st:St):List Operand->List Nat
 |[]=>[]
 |x::r=>match ev st x with
  |some (.loc l _)=>ins l (Tv st r)
  |_=>Tv st r
def jl(l a:Nat):Env->Env
 |[]=>[]
 |(s,.loc k off)::r=>match Nat.beq k l with
  |true=>(s,.v (.pointer (some ⟨a,off,none⟩)))::jl l a r
  |false=>(s,.loc k off)::jl l a r
 |x::r=>x::jl l a r
def xk(c:Cx):List Nat->St->(St->Prop)->Prop
 |[],st,K=>K st
 |l::r,st,K=>gZ c.B st fun st=>match bB st.boxes l with
  |none=>False
  |some b=>∀a:Nat,c.B<=a->st.w.heap[a]? =some (.cells b.cells.toArray b.ty (0,0))->
    xk c r {env:=jl l a st.env,boxes:=kC st.boxes l,w:=st.w,d:=st.d} K

def AM(c:Cx)(ls:List Nat)(st:St)(K:St->Prop):Prop:=match ls with
 |[l]=>match bB st.boxes l with
  |none=>False
  |some b0=>match b0.new with
   |false=>False
   |true=>gZ c.B st fun b=>match bB b.boxes l with
    |none=>False
    |some e=>∀a:Nat,c.B<=a->st.w.heap.size<=a->b.w.heap[a]? =some (.cells e.cells.toArray e.ty (0,0))->
      K {env:=jl l a b.env,boxes:=kC b.boxes l,w:=b.w,d:=b.d}
 |_=>False

def jt(o:Oper):Bool:=match o.op with
 | .load _ _=>true
 |_=>false

def th(o:Oper):Bool:=match o.op with
 | .alloc _=>true
 | .box _ _=>true
 |_=>false

def GY:Op->Bool
 | .alloc _=>true
 | .box _ _=>true
 | .store _ _ _=>true
 | .call cl=>match cl.callee with
  | .value _=>true
  |_=>false
 |_=>false

def uN(c:Cx)(m:Nat)(o:Oper)(st:St)(K:SV->St->Prop):Prop:=
 match GY o.op with
 |true=>effect c (Nat.beq m 4) o st K
 |false=>match o.op with
  | .load _ x=>match ev st x with
   |some (.v _)=>gZ c.B st fun st=>value c false (some st.w) none o st fun x=>K x st
   |_=>value c false none none o st fun x=>K x st
  |_=>value c (Nat.beq m 1) none none o st fun x=>K x st

def yg:List rJ->List Nat
 |[]=>[]
 |x::r=>x.SM::yg r

def Pp(c:Cx)(a i:Nat)(o:Oper)(st:St)(K:SV->St->Prop):Prop:=
 match fN c.mode a i with
 |2=>Po c o st K
 |6=>rK false c o st K
 |10=>rK true c o st K
 |5=>xk c (Tv st o.op.operands.toList) st fun st=>uN c 0 o st K
 |11=>AM c (Tv st o.op.operands.toList) st fun st=>uN c 0 o st K
 |12=>xk c (yg st.boxes) st fun st=>uN c 0 o st K
 |7=>JG c o st K
 |m=>uN c m o st K

def Aj(st:St)(s:Nat)(b:Bool):St:={st with env:=(s,match b with|true=> .t|false=> .f)::drop st.env s}

def Dz:Bool->Bool->Bool
 |true,true=>true
 |false,false=>true
 |_,_=>false

def guarded(ops:Array Oper)(o:Oper)(st:St)(K:Bool->St->Prop):Prop:=
 match o.guard with
 |none=>K true st
 |some (j,want)=>match (ops.toList[j]?).bind (·.dst)with
  |none=>False
  |some s=>match get st.env s with
   |some .u=>K false st
   |some x=>yf x fun b=>K (Dz b want) (Aj st s b)
   |none=>False

def yT(c:Cx)(a:Nat)(ops:Array Oper)(i:Nat)(o:Oper)(st:St)(K:St->Prop):Prop:=
 guarded ops o st fun run st=>match run with
  |true=>Pp c a i o st fun x st=>put c.N st o.dst x K
  |false=>put c.N st o.dst .u K

def EF(c:Cx)(a:Nat)(ops:Array Oper):Nat->List Oper->St->(St->Prop)->Prop
 |_,[],st,K=>K st
 |i,o::r,st,K=>yT c a ops i o st fun st=>EF c a ops (i+1) r st K

def norm:SV->SV
 | .t=> .v (.bool true)
 | .f=> .v (.bool false)
 | .p q h=> .v (.bool (@decide q h))
 |y=>y

def restrict(env:Env):List Nat->Option Env
 |[]=>some []
 |s::r=>match get env s,restrict env r with
  |some x,some l=>some ((s,norm x)::l)
  |_,_=>none

def mA(boxes:List rJ):List Nat->Option (List rJ)
 |[]=>some []
 |s::r=>match bB boxes s,mA boxes r with
  |some x,some l=>some (⟨x.SM,false,x.ty,x.cells⟩::l)
  |_,_=>none

def results(c:Cx)(st:St):List ResultVar->Option (List Value)
 |[]=>some []
 | .tmp t::r=>match (get st.env t).bind SV.val,results c st r with
  |some v,some vs=>some (v::vs)
  |_,_=>none
 | .cell t ty::r=>match get st.env t,results c st r with
  |some (.loc l off),some vs=>match uM c.P st.boxes ty l off with
   |some v=>some (v::vs)
   |none=>none
  |_,_=>none

def EG:List Value->Value
 |[v]=>v
 |vs=> .tuple vs.toArray

def wC(c:Cx)(st:St):List ResultVar->(List Value->Prop)->Prop
 |[],K=>K []
 | .tmp t::r,K=>match (get st.env t).bind SV.val with
  |some v=>wC c st r fun vs=>K (v::vs)
  |none=>False
 | .cell t ty::r,K=>match get st.env t with
  |some (.v (.pointer (some a)))=>Ad c.P st.w a ty fun x=>match x with
   | .v v=>wC c st r fun vs=>K (v::vs)
   |_=>False
  |_=>False

def leave(c:Cx)(st:St):Prop:=match results c st c.res with
 |some vs=>gZ c.B st fun st=>c.R (EG vs) st.w
 |none=>gZ c.B st fun st=>wC c st c.res fun vs=>c.R (EG vs) st.w

def iA:Code->Nat
 | .region id _ _=>id
 | .seq a _=>iA a
 | .block _ b=>iA b
 | .loop b=>iA b
 | .cond _ a _=>iA a
 | .scope b=>iA b
 |_=>0

def cutAt(c:Cx)(todo:List Item)(st:St)(live:List Nat×List Nat):Prop:=
 match restrict st.env live.1,mA st.boxes live.2 with
 |some env,some boxes=>gZ c.B st fun st=>At c.P c.f c.N todo env boxes c.B st.w c.R
 |_,_=>False

def early(o:Oper):Bool:=match o.op with
 | .alloc _=>false
 | .box _ _=>false
 | .store _ _ _=>false
 | .call cl=>match cl.callee with
  | .builtin .len=>true
  | .builtin .cap=>true
  |_=>false
 | .buildSlice _ _ _=>false
 | .makeSlice _ _ _=>false
 | .makeMap _ _=>false
 | .insert _ _ _ _=>false
 | .mapUpdate _ _ _ _=>false
 | .lookup _ _ _ _=>false
 | .panic _=>false
 | .select _ _=>false
 | .binOp .add _ _ _ _=>true
 |_=>true
def pY(o:Oper):Bool:=match o.op with
 | .store _ _ _=>true
 |_=>false

def rb(listed:List Nat)(i:Nat):Nat->List Oper->List Nat->List Nat
 |_,[],acc=>acc
 |j,o::r,acc=>match !lI j listed&&o.after.toList.any fun e=>Region.binds .any e&&(Nat.beq e.on i||lI e.on acc)with
  |true=>rb listed i (j+1) r (j::acc)
  |false=>rb listed i (j+1) r acc

def fZ(listed:List Nat):Nat->List Oper->List Nat
 |_,[]=>[]
 |i,o::r=>match lI i listed|| !(o.after.toList.all fun e=> !Region.binds .any e||lI e.on listed)with
  |true=>fZ listed (i+1) r
  |false=>i::fZ listed (i+1) r

def jm(m:Nat)(o:Oper):Bool:=match m with
 |2=>false
 |6=>false
 |10=>false
 |_=> !pY o

def re(c:Cx)(b:Nat)(ops:Array Oper)(listed:List Nat)(i:Nat)(a:Oper)(late:List Nat):Nat->List Oper->Bool
 |_,[]=>true
 |j,o::r=>(Nat.beq j i||(match jt a&& !jm (fN c.mode b j) o with
  |true=> !lI j listed&&lI j late
  |false=>lI j listed||lI j late||a.apart ops o))&&re c b ops listed i a late (j+1) r

def lk(c:Cx)(a:Nat)(ops:Array Oper)(listed:List Nat):List Nat->Option Nat
 |[]=>none
 |i::r=>match ops.toList[i]? with
  |none=>none
  |some o=>match early o&&re c a ops listed i o (rb listed i 0 ops.toList []) 0 ops.toList with
   |true=>some i
   |false=>lk c a ops listed r

def DA:List Nat->Prop->(Nat->Prop)->Prop
 |[],z,_=>z
 |[i],_,K=>K i
 |i::r,z,K=>K i/\DA r z K

def pZ(c:Cx)(a:Nat)(ops:Array Oper)(lw:Option World)(hold:List Nat):Nat->List Nat->St->(St->Prop)->Prop
 |0,listed,st,K=>match fZ listed 0 ops.toList with
  |[]=>K st
  |_=>False
 |n+1,listed,st,K=>match lk c a ops listed (fZ listed 0 ops.toList)with
  |some i=>match ops.toList[i]? with
   |none=>False
   |some o=>guarded ops o st fun run st=>match run with
    |true=>value c (Nat.beq (fN c.mode a i) 1) lw (some hold) o st fun x=>put c.N st o.dst x fun st=>pZ c a ops lw hold n (i::listed) st K
    |false=>put c.N st o.dst .u fun st=>pZ c a ops lw hold n (i::listed) st K
  |none=>DA (fZ listed 0 ops.toList) (K st) fun i=>match ops.toList[i]? with
   |none=>False
   |some o=>yT c a ops i o st fun st=>pZ c a ops lw hold n (i::listed) st K

def oW:List Oper->List Nat
 |[]=>[]
 |o::r=>match o.op,o.dst with
  | .alloc _,some d=>d::oW r
  | .box _ _,some d=>d::oW r
  |_,_=>oW r

def wD(st:St)(ops:Array Oper):List Nat:=(yg st.boxes).filter fun l=> !lI l (oW ops.toList)

def xl(n:Nat):List Oper->Bool
 |[]=>true
 |o::r=>(o.after.toList.all fun e=> !Region.binds .any e||Nat.blt e.on n)&&xl n r

def mB:List Oper->Bool
 |[]=>true
 |o::r=>match o.op with
  | .select _ _=>false
  |_=>mB r

def GZ(b:Bool)(B:Nat)(st:St)(K:St->Prop):Prop:=match b with
 |true=>gZ B st K
 |false=>K st

def lK(o:Oper)(f:Nat):Bool:=o.after.toList.any fun e=>Region.binds .any e&&Nat.beq e.on f
def xm(l f:Nat):Nat->List Oper->Bool
 |_,[]=>true
 |j,o::r=>(Nat.beq j f|| !(match o.dst with|some d=>Nat.beq d l|none=>false))&&xm l f (j+1) r
def Pq(c:Cx)(a:Nat)(ops:Array Oper)(f:Nat):Bool:=match ops.toList[f]? with
 |some o=>(match o.op,o.dst,o.guard with
  | .alloc t,some l,none=>(match zeroCells c.P t with|some _=>true|none=>false)&&Nat.blt l c.N&&xm l f 0 ops.toList
  |_,_,_=>false)&&Nat.beq (fN c.mode a f) 0&&o.after.toList.all fun e=> !Region.binds .any e
 |none=>false
def yh(c:Cx)(a:Nat)(ops:Array Oper)(fl:List Nat):List Nat->Option Nat
 |[]=>none
 |f::r=>match !lI f fl&&Pq c a ops f with
  |true=>some f
  |false=>yh c a ops fl r
def eF(ops:Array Oper)(f:Nat):Nat:=match (ops.toList[f]?).bind (·.dst)with
 |some l=>l
 |none=>0
def clean(ops:Array Oper):List Nat->St->St
 |[],st=>st
 |f::r,st=>clean ops r {st with env:=drop st.env (eF ops f)}
def tidy(ops:Array Oper)(fl:List Nat)(st:St):St:=match fl with
 |[]=>st
 |f::r=>(clean ops (f::r) st).vA
def qj(st:St)(l ty:Nat)(cells:List Value):St:=
 {env:=(l,.loc l 0)::drop (pV st.env l) l,boxes:=⟨l,false,ty,cells⟩::kC st.boxes l,w:=st.w,d:=st.d}
def rL(c:Cx)(ops:Array Oper):List Nat->St->(St->Prop)->Prop
 |[],st,K=>K st
 |f::r,st,K=>match ops.toList[f]? with
  |some o=>match o.op,o.dst with
   | .alloc t,some l=>match zeroCells c.P t with
    |some cells=>rL c ops r (qj st l t cells) K
    |none=>False
   |_,_=>False
  |none=>False
def waited(o:Oper)(b:Bool):List Nat->List Nat
 |[]=>[]
 |f::r=>match Dz (lK o f) b with
  |true=>f::waited o b r
  |false=>waited o b r
def oM:List Nat->List Nat->List Nat
 |[],l=>l
 |x::r,l=>x::oM r l
def ju(c:Cx)(a:Nat)(ops:Array Oper)(lw:Option World)(hold:List Nat):Nat->List Nat->List Nat->St->(St->Prop)->Prop
 |0,listed,fl,st,K=>match fZ (oM fl listed) 0 ops.toList with
  |[]=>rL c ops fl st K
  |_=>False
 |n+1,listed,fl,st,K=>match yh c a ops fl (fZ listed 0 ops.toList)with
  |some f=>ju c a ops lw hold n listed (f::fl) (tidy ops (f::fl) st) K
  |none=>match lk c a ops listed (fZ listed 0 ops.toList)with
   |some i=>match ops.toList[i]? with
    |none=>False
    |some o=>guarded ops o st fun run st=>match run with
     |true=>value c (Nat.beq (fN c.mode a i) 1) lw (some hold) o st fun x=>put c.N st o.dst x fun st=>ju c a ops lw hold n (i::listed) fl (tidy ops fl st) K
     |false=>put c.N st o.dst .u fun st=>ju c a ops lw hold n (i::listed) fl (tidy ops fl st) K
   |none=>DA (fZ (oM fl listed) 0 ops.toList) (rL c ops fl st K) fun i=>match ops.toList[i]? with
    |none=>False
    |some o=>rL c ops (waited o true fl) st fun st=>match waited o false fl with
     |[]=>yT c a ops i o st fun st=>ju c a ops lw hold n (i::oM (waited o true fl) listed) [] st K
     |g::r=>match jm (fN c.mode a i) o&& !th o with
      |true=>yT c a ops i o st fun st=>ju c a ops lw hold n (i::oM (waited o true fl) listed) (g::r) (tidy ops (g::r) st) K
      |false=>False

def region(c:Cx)(a:Nat)(ops:Array Oper)(draw:Bool)(st:St)(K:St->Prop):Prop:=match draw with
 |false=>match mB ops.toList with
  |true=>EF c a ops 0 ops.toList st K
  |false=>False
 |true=>match mB ops.toList&&xl ops.toList.length ops.toList with
  |true=>GZ (Nat.beq (fN c.mode a 9999) 3) c.B st fun st=>
    match Nat.beq (fN c.mode a 9998) 8 with
    |true=>ju c a ops (match st.d with|none=>some st.w|some _=>none) (wD st ops) ops.toList.length [] [] st.vA K
    |false=>pZ c a ops (match st.d with|none=>some st.w|some _=>none) (wD st ops) ops.toList.length [] st.vA K
  |false=>False

def run(c:Cx):Nat->Bool->List Item->St->Prop
 |0,_,_,_=>False
 |n+1,first,todo,st=>match todo with
  |[]=>leave c st
  | .code d::k=>match d with
   | .ret=>leave c st
   | .skip=>run c n false k st
   | .seq a b=>run c n first (.code a:: .code b::k) st
   | .cond x a b=>yS (ev st x) fun v=>yf v fun t=>match t with
    |true=>run c n false (.code a::k) st
    |false=>run c n false (.code b::k) st
   | .block id b=>run c n first (.code b:: .inBlock id::k) st
   | .loop b=>match Ma c.XT true (iA b)with
    |some live=>cutAt c (.code (.loop b)::k) st live
    |none=>run c n false (.code b:: .inLoop b::k) st
   | .exit id=>match exitTo id k with
    |some e=>run c n false e st
    |none=>False
   | .region id ops draw=>match first,Ma c.XT false id with
    |false,some live=>cutAt c (.code (.region id ops draw)::k) st live
    |_,_=>region c id ops draw st fun st=>run c n false k st
   |_=>False
  | .inBlock _::k=>run c n false k st
  | .inLoop b::k=>match Ma c.XT true (iA b)with
   |some live=>cutAt c (.code (.loop b)::k) st live
   |none=>run c n false (.code b:: .inLoop b::k) st
  |_=>False

def pd(key:Nat):Code->List Item->Option (List Item)
 | .seq a b,k=>match pd key a (.code b::k)with
  |some x=>some x
  |none=>pd key b k
 | .cond _ a b,k=>match pd key a k with
  |some x=>some x
  |none=>pd key b k
 | .block id b,k=>pd key b (.inBlock id::k)
 | .loop b,k=>match Nat.beq (iA b) key with
  |true=>some (.code (.loop b)::k)
  |false=>pd key b (.inLoop b::k)
 |_,_=>none

def kJ(key:Nat):Code->List Item->Option (List Item)
 | .seq a b,k=>match kJ key a (.code b::k)with
  |some x=>some x
  |none=>kJ key b k
 | .cond _ a b,k=>match kJ key a k with
  |some x=>some x
  |none=>kJ key b k
 | .block id b,k=>kJ key b (.inBlock id::k)
 | .loop b,k=>kJ key b (.inLoop b::k)
 | .region id ops d,k=>match Nat.beq id key with
  |true=>some (.code (.region id ops d)::k)
  |false=>none
 |_,_=>none

def JH(f:Func)(key:Nat):List Item:=match f.body with
 |some b=>(pd key b []).getD []
 |none=>[]
def AN(f:Func)(key:Nat):List Item:=match f.body with
 |some b=>(kJ key b []).getD []
 |none=>[]
def inside:List Item->List Item
 | .code (.loop b)::k=> .code b:: .inLoop b::k
 |k=>k

def tL:Nat->List Value->Env
 |_,[]=>[]
 |i,v::r=>(i,.v v)::tL (i+1) r

theorem beq_true{a b:Nat}:Nat.beq a b=true->a=b:=Nat.eq_of_beq_eq_true
theorem beq_false{a b:Nat}:Nat.beq a b=false->a≠b:=Nat.ne_of_beq_eq_false

theorem iR{x:Nat×SV}{r:Env}{s:Nat}:get (x::r) s=if x.1=s then some x.2 else get r s:=by
 simp only[get];cases h:Nat.beq x.1 s with
 |true=>simp[beq_true h]
 |false=>simp[beq_false h]

theorem pg{r:Env}{s t:Nat}:get (drop r s) t=if t=s then none else get r t:=by
 induction r with
 |nil=>simp[drop,get]
 |cons x r ih=>
  simp only[drop];cases h:Nat.beq x.1 s with
  |true=>
   simp only[ih,iR];have:=beq_true h;by_cases e:t=s
   ·simp[e]
   ·simp only[aq e];rw[aq om]
  |false=>
   simp only[iR,ih];have:=beq_false h;by_cases e:x.1=t
   ·simp[e];omega
   ·simp[e]

theorem cD{x:rJ}{r:List rJ}{s:Nat}:bB (x::r) s=if x.SM=s then some x else bB r s:=by
 simp only[bB];cases h:Nat.beq x.SM s with
 |true=>simp[beq_true h]
 |false=>simp[beq_false h]

theorem dr{r:List rJ}{s t:Nat}:bB (kC r s) t=if t=s then none else bB r t:=by
 induction r with
 |nil=>simp[kC,bB]
 |cons x r ih=>
  simp only[kC];cases h:Nat.beq x.SM s with
  |true=>
   simp only[ih,cD];have:=beq_true h;by_cases e:t=s
   ·simp[e]
   ·simp only[aq e];rw[aq om]
  |false=>
   simp only[cD,ih];have:=beq_false h;by_cases e:x.SM=t
   ·simp[e];omega
   ·simp[e]

theorem qa{x:SV}{v:Value}(h:x.val=some v)(b:Nat->Nat):x.den b=v:=by
 cases x<;>simp_all [SV.val,SV.den]

def act(T:Array Value):Act:=⟨T,[]⟩

section ops
variable {c:Cx} {b:Nat->Nat} {st:St} {T:Array Value}

theorem cG(he:pW b st.env T){x:Operand}{v:SV}(h:ev st x=some v):(act T).eval x=v.den b:=by
 cases x with
 |tmp t=>
  have:=he t v h;simp[act,Act.eval,this]
 |const w=>
  cases w<;>simp only[ev]at h<;>(try (cases h;rfl))
  rename_i q;cases q<;>simp only[ev]at h<;>(cases h;rfl)
 |global g=>simp only[ev]at h;cases h;rfl
 |func f=>simp only[ev]at h;cases h;rfl

theorem Ak(he:pW b st.env T):∀{l:List Operand} {vs:List Value},oV st l=some vs->l.map (act T).eval=vs:=by
 intro l;induction l with
 |nil=>intro vs h;simp only[oV]at h;cases h;rfl
 |cons x r ih=>
  intro vs h;simp only[oV]at h;cases hx:(ev st x).bind SV.val with
  |none=>simp[hx]at h
  |some v=>
   cases a:oV st r with
   |none=>simp[hx,a]at h
   |some ws=>
    simp only[hx,a]at h;cases h;obtain⟨sv,h1,d⟩:=tm.1 hx;simp[ih a,cG he h1,qa d b]

theorem XV(he:pW b st.env T){x:Operand}(h:((ev st x).bind SV.val).isSome=true):rho st x=(act T).eval x:=by
 obtain⟨v,a⟩:=HU.1 h;obtain⟨sv,h1,d⟩:=tm.1 a;simp[rho,a,cG he h1,qa d b]

theorem JI{l:List Operand}(h:AL st l=true):∀x∈l,((ev st x).bind SV.val).isSome=true:=by
 induction l with
 |nil=>simp
 |cons y r ih=>
  simp only[AL]at h;cases hy:((ev st y).bind SV.val).isSome with
  |false=>simp[hy]at h
  |true=>
   simp only[hy]at h;intro x hx;rcases cy.1 hx with rfl|hx
   ·exact hy
   ·exact ih h x hx

theorem JJ{α:Type}{P:Program}{s:Sem α}{a:α}(h:wB P s=some a)(w:World):s.run P w= .ok a w:=by
 induction s with
 |pure x=>simp only[wB]at h;cases h;rfl
 |program k ih=>simp only[wB]at h;exact ih P h
 |_=>simp[wB]at h

theorem Ha{k:IntKind}{n:Int}(h:aS k n):k.wrap n=n:=by
 cases k<;>simp only[aS]at h<;>simp only[IntKind.wrap,IntKind.bits,IntKind.signed]<;>simp<;>omega

def Mb(c:Cx)(b:Nat->Nat)(T:Array Value)(o:Oper)(Ok:World->Prop)(K:SV->Prop):Prop:=
 ∃x:SV,K x/\∀w,Ok w->(execOp (act T).eval o).run c.P w= .ok (.value (x.den b)) w

variable {o:Oper} {Ok:World->Prop} {K:SV->Prop}

theorem bP(he:pW b st.env T)(hs:∀cs q,o.op≠ .select cs q)(h:pX c o st K):Mb c b T o Ok K:=by
 unfold pX at h;cases a:AL st o.op.operands.toList with
 |false=>simp[a]at h
 |true=>
  simp only[a]at h;have d:execOp (act T).eval o=execOp (rho st) o:=execOp_congr o hs fun x hx=>(XV he (JI a x (by simpa using hx))).symm
  cases hp:wB c.P (execOp (rho st) o)with
  |none=>simp[hp]at h
  |some n=>
   cases n with
   |value v=>
    simp only[hp]at h;exact⟨.v v,h,fun w _=>by rw[d];exact JJ hp w⟩
   |_=>simp[hp]at h

theorem rf{raw:Bool}{k:IntKind}{n:Int}(h:num raw k n K):∃m,K (.v (.int k m))/\k.wrap n=m:=by
 cases raw
 ·exact⟨n,h.2,Ha h.1⟩
 ·exact⟨_,h,rfl⟩

theorem rM{x:SV}{B:Bool->Prop}(h:yf x B):∃t,x.den b= .bool t/\B t:=by
 cases x with
 |t=>exact⟨true,rfl,h⟩
 |f=>exact⟨false,rfl,h⟩
 |p q d=>
  by_cases a:q
  ·exact⟨true,by simp[SV.den,a],h.1 a⟩
  ·exact⟨false,by simp[SV.den,a],h.2 a⟩
 |v w=>
  cases w<;>simp only[yf]at h;rename_i t;cases t
  ·exact⟨false,rfl,h.2 rfl⟩
  ·exact⟨true,rfl,h.1 rfl⟩
 |_=>exact h.elim

theorem DB{k l:IntKind}(h:wz k l=true):k=l:=by cases k<;>cases l<;>simp_all [wz]

theorem MR{op:BinOp}{k:IntKind}{x y:Int}(h:JC op x y K):∃s:SV,K s/\∀P w,(Op.intCmp op x y).run P w= .ok (s.den b) w:=by
 cases op<;>simp only[JC]at h<;>first|exact h.elim|skip
 ·have e:(x==y)=decide (x=y):=by rw[uk];simp
  exact⟨_,h,fun P w=>by simp[Op.intCmp,SV.den,e]⟩
 ·have e:(x !=y)=decide (x≠y):=by rw[uk];simp
  exact⟨_,h,fun P w=>by simp[Op.intCmp,SV.den,e]⟩
 ·exact⟨_,h,fun P w=>by simp[Op.intCmp,SV.den]⟩
 ·exact⟨_,h,fun P w=>by simp[Op.intCmp,SV.den]⟩
 ·exact⟨_,h,fun P w=>by simp[Op.intCmp,SV.den]⟩
 ·exact⟨_,h,fun P w=>by simp[Op.intCmp,SV.den]⟩

theorem EH{raw:Bool}{op:BinOp}{k:IntKind}{x y:Int}{t:TypeId}(h:ED raw op k x y K):
  ∃s:SV,K s/\∀P w,(binOp op t (.int k x) (.int k y)).run P w= .ok (s.den b) w:=by
 have go:∀m,(∀P w,(binOp op t (.int k x) (.int k y)).run P w= .ok (.int k m) w)->K (.v (.int k m))->∃s:SV,K s/\∀P w,(binOp op t (.int k x) (.int k y)).run P w= .ok (s.den b) w:=fun m h1 d=>⟨_,d,h1⟩
 cases op<;>simp only[ED]at h
 case shl=>exact go _ (fun P w=>by simp[binOp,shift_shl k k x y h.1.1 h.1.2,wA]) h.2
 case shr=>exact go _ (fun P w=>by simp[binOp,shift_shr k k x y h.1.1 h.1.2,nB]) h.2
 case and=>exact go _ (fun P w=>by simp[binOp,intBits_and]) h
 case or=>exact go _ (fun P w=>by simp[binOp,intBits_or]) h
 case xor=>exact go _ (fun P w=>by simp[binOp,intBits_xor]) h
 case andNot=>exact go _ (fun P w=>by simp[binOp,intBits_andNot]) h
 case add=>obtain⟨m,h1,d⟩:=rf h;exact go m (fun P w=>by simp[binOp,Op.intArith,d]) h1
 case sub=>obtain⟨m,h1,d⟩:=rf h;exact go m (fun P w=>by simp[binOp,Op.intArith,d]) h1
 case mul=>obtain⟨m,h1,d⟩:=rf h;exact go m (fun P w=>by simp[binOp,Op.intArith,d]) h1
 case quo=>
  cases raw
  ·obtain⟨⟨g,h1,d⟩,i⟩:=h;have e:x.tdiv y=x / y:=JN g;have j:aS k (x / y):=by
    have a:0<=x / y:=Int.ediv_nonneg g om;have a2:x / y<=x:=Int.ediv_le_self y g;cases k<;>simp only[aS]at d⊢<;>omega
   exact go _ (fun P w=>by simp[binOp,Op.intDiv,show y≠0 by omega,e,Ha j]) i
  ·exact go _ (fun P w=>by simp[binOp,Op.intDiv,h.1]) h.2
 case rem=>
  cases raw
  ·obtain⟨⟨g,h1⟩,i⟩:=h;exact go _ (fun P w=>by simp[binOp,Op.intDiv,show y≠0 by omega,JX g]) i
  ·exact go _ (fun P w=>by simp[binOp,Op.intDiv,h.1]) h.2
 all_goals
  obtain⟨s,h1,d⟩:=MR (b:=b) (k:=k) h;exact⟨s,h1,fun P w=>by simpa[binOp]using d P w⟩

theorem beq_toList(a b:ByteArray):(a.toList==b.toList)=decide (a=b):=by
 rw[<-beq_toListBytes,uk];obtain⟨x⟩:=a;obtain⟨y⟩:=b;show(x==y)=true↔_;simp

theorem EI{op:BinOp}{x y:ByteArray}{t:TypeId}(h:JD op x y K):
  ∃s:SV,K s/\∀P w,(binOp op t (.string x) (.string y)).run P w= .ok (s.den b) w:=by
 cases op<;>simp only[JD]at h<;>first|exact h.elim|skip
 case add=>exact⟨_,h.2,fun P w=>by simp[binOp,Op.stringOp,SV.den,IntKind.max,IntKind.signed,IntKind.bits];omega⟩
 case eql=>exact⟨_,h,fun P w=>by simp[binOp,Op.stringOp,SV.den,beq_toList]⟩
 case neq=>exact⟨_,h,fun P w=>by simp[binOp,Op.stringOp,SV.den,beq_toList]⟩

structure AO (b:Nat->Nat) (st:St) (lw:Option World) (hold:Option (List Nat)) (w:World):Prop where
 box:∀l x,EE hold l=true->bB st.boxes l=some x->w.heap[b l]? =some (.cells x.cells.toArray x.ty (0,0))
 cell:∀v,lw=some v->∀a u,v.cell? a=some u->w.cell? a=some u

theorem uO{P:Program}{t:TypeId}{d:TypeDesc}(h:P.underlying t=some d)(w:World):(isAgg t).run P w= .ok (fM P t) w:=by
 simp only[isAgg,fM,Sem.run_bind,run_underlying h,Result.andThen_ok,h];cases d<;>rfl

theorem run_loadCellsFrom{P:Program}(w:World)(a:Addr):∀(vs:List Value)(i:Nat)(acc:Array Value),(∀j,(h:j<vs.length)->w.cell? (a.add (i+j))=some vs[j])->
  (loadCellsFrom a i vs.length acc).run P w= .ok (acc++vs.toArray) w:=by
 intro vs;induction vs with
 |nil=>intro i acc _;simp[loadCellsFrom]
 |cons v r ih=>
  intro i acc h;have d:=h 0 sm;simp only[tT,List.getElem_cons_zero]at d;have e:=ih (i+1) (acc.push v) (fun j hj=>by have:=h (j+1) (by simpa using hj);simpa[Ij,LP 1 j]using this);simp only[eR,loadCellsFrom,Sem.run_bind];have hl:(load (a.add i)).run P w= .ok v w:=by simp[load,Sem.run,d]
  rw[hl];simp only[Result.andThen_ok,e]
  congr 1
  simp

theorem yU{P:Program}{t:TypeId}{d:TypeDesc}(h:P.underlying t=some d)(w:World)(a:Addr)(v:Value)
  (g:aa w a v.cells.toList) (e:match fM P t with
   |true=>∃cs:Array Value,v= .agg cs/\cs.size=P.cellsOf t
   |false=>v.cells= #[v]):(loadVar t a).run P w= .ok v w:=by
 simp only[loadVar,Sem.run_bind,uO h,Result.andThen_ok];cases hg:fM P t with
 |true=>
  simp only[hg]at e;obtain⟨cs,rfl,hn⟩:=e;simp only[Value.cells]at g;have hi:∃i,P.info? t=some i:=by
   cases l:P.info? t with
   |none=>simp[Program.underlying,l]at h
   |some i=>exact⟨i,rfl⟩
  obtain⟨i,hi⟩:=hi;have hs:(sizeOf t).run P w= .ok (P.cellsOf t) w:=by simp[sizeOf,typeInfo,program,Sem.run_bind,Sem.run,hi,Program.cellsOf]
  have:=run_loadCellsFrom (P:=P) w a cs.toList 0 #[] (fun j hj=>by simpa using g j hj);simp only[nW,hn]at this;simp[hs,loadCells,this]
 |false=>
  simp only[hg]at e;have k:=g 0 (by simp[e]);simp only[e]at k;have h1:w.cell? a=some v:=by simpa[Addr.add]using k
  simp[load,Sem.run,h1]

theorem yi{w:World}{n:Nat}{cells:List Value}{ty:Nat}{fr:Nat×Nat}(h:w.heap[n]? =some (.cells cells.toArray ty fr))(off i:Nat):
  w.cell? ((⟨n,off,none⟩:Addr).add i)=cells[off+i]? :=by
 by_cases hi:i=0
 ·subst hi;simp[Addr.add,World.cell?,h]
 ·simp[Addr.add,hi,World.cell?,h]

theorem yj{l:Lf}{Q:Value->Prop}(h:Pj l Q):∃v,Q v/\(l≠ .any->v.cells= #[v]):=by
 cases l<;>simp only[Pj]at h
 ·obtain⟨n,h⟩:=h;exact⟨_,h,fun _=>rfl⟩
 ·obtain⟨n,h⟩:=h;exact⟨_,h,fun _=>rfl⟩
 ·obtain⟨n,h⟩:=h;exact⟨_,h,fun _=>rfl⟩
 ·obtain⟨A,n,k,h⟩:=h;exact⟨_,h,fun _=>rfl⟩
 ·obtain⟨A,n,k,h⟩:=h;exact⟨_,h,fun _=>rfl⟩
 ·obtain⟨n,h⟩:=h;exact⟨_,h,fun _=>rfl⟩
 ·obtain⟨n,h⟩:=h;exact⟨_,h,fun _=>rfl⟩
 ·obtain⟨v,h⟩:=h;exact⟨v,h,fun e=>absurd rfl e⟩

theorem AP:∀{l:List Lf} {Q:List Value->Prop},L0 l Q->∃vs,vs.length=l.length/\Q vs:=by
 intro l;induction l with
 |nil=>intro Q h;exact⟨[],rfl,h⟩
 |cons x r ih=>
  intro Q h;obtain⟨v,h,_⟩:=yj h;obtain⟨vs,hl,h⟩:=ih h;exact⟨v::vs,by simp[hl],h⟩

theorem DC{s:S1}{Q:Value->Prop}(h:XS s Q):∃v,Q v:=by
 cases s with
 |one l=>obtain⟨v,h,_⟩:=yj h;exact⟨v,h⟩
 |agg ls=>obtain⟨vs,_,h⟩:=AP h;exact⟨_,h⟩
theorem JK:∀{l:List S1} {Q:List Value->Prop},Pk l Q->∃vs,Q vs:=by
 intro l;induction l with
 |nil=>intro Q h;exact⟨[],h⟩
 |cons x r ih=>intro Q h;obtain⟨v,h⟩:=DC h;obtain⟨vs,h⟩:=ih h;exact⟨_,h⟩
theorem yk{s:Sh}{Q:Value->Prop}(h:Tu s Q):∃v,Q v:=by
 cases s with
 |s x=>exact DC h
 |tup l=>obtain⟨vs,h⟩:=JK h;exact⟨_,h⟩

theorem vB{P:Program}{t:TypeId}{l off:Nat}{v:Value}{w:World}(h:uM P st.boxes t l off=some v)
  (hb:∀x,bB st.boxes l=some x->w.heap[b l]? =some (.cells x.cells.toArray x.ty (0,0))):(loadVar t ⟨b l,off,none⟩).run P w= .ok v w:=by
 unfold uM at h;cases hx:bB st.boxes l with
 |none=>simp[hx]at h
 |some x=>
  have e:=hb x hx;cases a:P.underlying t with
  |none=>simp[hx,a]at h
  |some d=>
   simp only[hx,a]at h;cases hg:fM P t with
   |true=>
    simp only[hg]at h;cases hle:Nat.ble (off+P.cellsOf t) x.cells.length with
    |false=>simp[hle]at h
    |true=>
     simp only[hle]at h;cases h;have hle:=Jq hle;have hlen:(xj x.cells off (P.cellsOf t)).length=P.cellsOf t:=by simp[xj];omega
     refine yU a w _ _ ?_ (by simp only[hg];exact⟨_,rfl,by simp[hlen]⟩);intro i hi;rw[yi e];simp only[Value.cells]at hi⊢;have:i<P.cellsOf t:=by simpa[hlen]using hi
     simp[xj,af (show off+i<x.cells.length by omega)]
   |false=>
    simp only[hg]at h;have g:w.cell? ⟨b l,off,none⟩=some v:=by simpa[Addr.add]using(yi e off 0).trans h
    simp only[loadVar,Sem.run_bind,uO a,Result.andThen_ok,hg];simp[load,Sem.run,g]

theorem vC{P:Program}{t:TypeId}{a:Addr}{v:World}(h:Ad P v a t K):
  ∃u,K (.v u)/\∀w,(∀k m,v.cell? k=some m->w.cell? k=some m)->(loadVar t a).run P w= .ok u w:=by
 unfold Ad at h;cases e:P.underlying t with
 |none=>simp[e]at h
 |some d=>
  simp only[e]at h;cases hg:fM P t with
  |true=>
   simp only[hg]at h;cases hle:Nat.beq (GX P 8 t).length (P.cellsOf t)with
   |false=>simp[hle]at h
   |true=>
    simp only[hle]at h;obtain⟨vs,hl,g,j⟩:=AP h;refine⟨_,j,fun w hw=>yU e w a _ (fun i hi=>hw _ _ (g i (by simpa[Value.cells]using hi))) ?_⟩;simp only[hg];exact⟨_,rfl,by simp[hl,beq_true hle]⟩
  |false=>
   simp only[hg]at h;cases hl:GX P 8 t with
   |nil=>simp[hl]at h
   |cons l r=>
    simp only[hl]at h;obtain⟨u,⟨g,j⟩,hu⟩:=yj h;refine⟨u,j,fun w hw=> ?_⟩;have n:=hw _ _ (g 0 sm);have h1:w.cell? a=some u:=by simpa[Addr.add]using n
    simp only[loadVar,Sem.run_bind,uO e,Result.andThen_ok,hg];simp[load,Sem.run,h1]

theorem kK{x:Option SV}{Q:SV->Prop}(h:yS x Q):∃v,x=some v/\Q v:=by
 cases x with
 |none=>exact h.elim
 |some v=>exact⟨v,rfl,h⟩

def Bd(v:Option Value)(n:Option Int):Prop:=match v,n with
 |none,none=>True
 |some y,some m=>∃k,y= .int k m
 |_,_=>False

theorem AQ{x:Option Operand}{Q:Option Int->Prop}(he:pW b st.env T)(h:bound st x Q):
  ∃n:Option Int,Q n/\Bd (x.map (act T).eval) n:=by
 cases x with
 |none=>exact⟨none,h,trivial⟩
 |some y=>
  unfold bound at h;simp only at h;cases hy:ev st y with
  |none=>simp[hy]at h
  |some v=>
   cases v with
   |v u=>
    cases u with
    |int k n=>simp only[hy]at h;exact⟨some n,h,k,cG he hy⟩
    |_=>simp[hy]at h
   |_=>simp[hy]at h

theorem run_sliceBound{P:Program}{k:IntKind}{n:Int}{y:Nat}{code:BoundsCode}(w:World)(h:0<=n/\n<=y):(Instr.sliceBound (.int k n) y code).run P w= .ok n.toNat w:=by
 simp[Instr.sliceBound,asIntOf,h]

theorem run_sizeOf{P:Program}{t:TypeId}{d:TypeDesc}(a:P.underlying t=some d)(w:World):(sizeOf t).run P w= .ok (P.cellsOf t) w:=by
 have hi:∃i,P.info? t=some i:=by
  cases e:P.info? t with
  |none=>simp[Program.underlying,e]at a
  |some i=>exact⟨i,rfl⟩
 obtain⟨i,hi⟩:=hi;simp[sizeOf,typeInfo,program,Sem.run_bind,Sem.run,hi,Program.cellsOf]
end ops
section
variable {c:Cx} {b:Nat->Nat} {st:St} {T:Array Value} {o:Oper} {K:SV->Prop}

theorem kL{P:Program}{t:TypeId}(h:known P t=true):∃d,P.underlying t=some d:=by
 unfold known at h;cases a:P.underlying t with
 |none=>simp[a]at h
 |some d=>exact⟨d,rfl⟩

theorem EJ{P:Program}{t:TypeId}{x:SV}{lo hi:Option Int}{lv j:Option Value}(h:JE P t x lo hi K)
  (hl:Bd lv lo) (i:Bd j hi):
  ∃s:SV,K s/\∀w,(Instr.sliceAt t (x.den b) lv j none).run P w= .ok (s.den b) w:=by
 unfold JE at h
 revert h
 generalize g:P.underlying t=l;intro h;cases l with
 |none=>exact h.elim
 |some d=>
  cases x with
  |v u=>
   cases d<;>cases u<;>first|exact h.elim|skip
   ·-- a string
    rename_i s;cases lo<;>cases hi<;>cases lv<;>cases j<;>first|exact hl.elim|exact i.elim|skip
    all_goals (simp only[Bd]at hl i;simp only at h;(try obtain⟨m,rfl⟩:=hl);(try obtain⟨q,rfl⟩:=i))
    ·refine⟨_,h,fun w=> ?_⟩;simp[Instr.sliceAt,Instr.slice,Instr.sliceBounds,Sem.run_bind,run_underlying g,SV.den]
    ·refine⟨_,h.2,fun w=> ?_⟩;simp[Instr.sliceAt,Instr.slice,Instr.sliceBounds,Sem.run_bind,run_underlying g,SV.den,run_sliceBound w h.1]
    ·refine⟨_,h.2,fun w=> ?_⟩;simp[Instr.sliceAt,Instr.slice,Instr.sliceBounds,Sem.run_bind,run_underlying g,SV.den,run_sliceBound w h.1]
    ·have h1:0<=(‹Int›:Int):=om;refine⟨_,h.2,fun w=> ?_⟩;have r:=h.1;rw[Instr.sliceAt];simp only[Sem.run_bind,run_underlying g,Result.andThen_ok,SV.den];simp only[Instr.slice,Instr.sliceBounds,Sem.run_bind,run_underlying g,Result.andThen_ok,Option.isSome_none,Ep,xt,Sem.run_pure];rw[run_sliceBound w om];simp only[Result.andThen_ok];rw[run_sliceBound w om];simp
   ·-- a slice
    rename_i e A n cap;simp only at h;cases k:known P e with
    |false=>rw[k]at h;exact h.elim
    |true=>
    rw[k]at h;obtain⟨y,he⟩:=kL k;cases lo<;>cases hi<;>cases lv<;>cases j<;>first|exact hl.elim|exact i.elim|skip
    all_goals (simp only[Bd]at hl i;simp only at h;(try obtain⟨m,rfl⟩:=hl);(try obtain⟨q,rfl⟩:=i))
    ·refine⟨_,h,fun w=> ?_⟩;simp[Instr.sliceAt,Instr.slice,Instr.sliceBounds,Sem.run_bind,run_underlying g,SV.den,run_sizeOf he];intro _;cases A<;>simp[Addr.add]
    ·refine⟨_,h.2,fun w=> ?_⟩;simp[Instr.sliceAt,Instr.slice,Instr.sliceBounds,Sem.run_bind,run_underlying g,SV.den,run_sizeOf he,run_sliceBound w h.1];intro _;cases A<;>simp[Addr.add]
    ·refine⟨_,h.2,fun w=> ?_⟩;simp[Instr.sliceAt,Instr.slice,Instr.sliceBounds,Sem.run_bind,run_underlying g,SV.den,run_sizeOf he,run_sliceBound w ⟨h.1.1,h.1.2.1⟩,cC]
    ·refine⟨_,h.2,fun w=> ?_⟩;have r:=h.1;rw[Instr.sliceAt];simp only[Sem.run_bind,run_underlying g,Result.andThen_ok,SV.den];simp only[Instr.slice,Instr.sliceBounds,Sem.run_bind,run_underlying g,Result.andThen_ok,Option.isSome_none,Ep,xt,Sem.run_pure,CM];rw[run_sliceBound w om];simp only[Result.andThen_ok];rw[run_sliceBound w om];simp[run_sizeOf he,cC]
  |_=>cases d<;>exact h.elim

theorem abX{s:ByteArray}{j:Int}(h:0<=j/\j<s.size):∃x:UInt8,s[j.toNat]? =some x/\(x.toNat:Int)=bt s j:=by
 have a:j.toNat<s.size:=om;refine⟨s[j.toNat],by simp[a],?_⟩;obtain⟨⟨d⟩⟩:=s;simp only[bt]
 congr 2
 have e:j.toNat<d.length:=a;show d[j.toNat]=d.getD j.toNat 0;simp[cb,af e]

theorem EK{P:Program}{t:TypeId}{f:Nat}{fd:Field}(h:xi P t f=some fd):∃a,P.underlying t=some (.struct a)/\a[f]? =some fd:=by
 unfold xi at h;cases e:P.underlying t with
 |none=>simp[e]at h
 |some d=>
  cases d<;>simp[e]at h;exact⟨_,rfl,h⟩

theorem yV{P:Program}{t:TypeId}{f:Nat}{fd:Field}(h:xi P t f=some fd)(hz:Nat.beq (P.cellsOf fd.type) 0=false)(a:Addr)(w:World):
  (Instr.fieldAt t (.pointer (some a)) f).run P w= .ok (.pointer (some (a.add fd.offset))) w:=by
 obtain⟨j,h1,e⟩:=EK h;have d:=beq_false hz;have hi:∃i,P.info? fd.type=some i:=by
  cases g:P.info? fd.type with
  |none=>simp[Program.cellsOf,g]at d
  |some i=>exact⟨i,rfl⟩
 obtain⟨i,hi⟩:=hi;have hs:(sizeOf fd.type).run P w= .ok (P.cellsOf fd.type) w:=by simp[sizeOf,typeInfo,program,Sem.run_bind,Sem.run,hi,Program.cellsOf]
 simp[Instr.fieldAt,Sem.run_bind,run_underlying h1,e,Instr.sureAddr,fieldPlace,hs,d]

theorem jw(n off k:Nat):(⟨n,off,none⟩:Addr).add k=⟨n,off+k,none⟩:=by
 unfold Addr.add;split<;>simp_all
end
section
variable {c:Cx} {b:Nat->Nat} {st:St} {T:Array Value} {o:Oper} {K:SV->Prop}

theorem AR:∀{l1 e:List Lf} {a b r s:List Value} {g:DP},a.length=l1.length->b.length=l1.length->fo (l1++e) (a++r) (b++s)=some g->
  ∃d1 d2,fo l1 a b=some d1/\fo e r s=some d2/\(g.q↔d1.q/\d2.q):=by
 intro l1;induction l1 with
 |nil=>
  intro e a b r s g ha hb h;have ea:a=[]:=ew ha;have n:b=[]:=ew hb;subst ea;subst n;exact⟨⟨True,inferInstance⟩,g,rfl,h,sm⟩
 |cons x l1 ih=>
  intro e a b r s g ha hb h;cases a with
  |nil=>simp at ha
  |cons u a=>
   cases b with
   |nil=>simp at hb
   |cons v b=>
    simp only[eR,Nat.add_right_cancel_iff]at ha hb;simp only[wo]at h;cases x<;>cases u<;>cases v<;>simp only[fo]at h<;>try (cases h;done)
    ·rename_i k0 k x l y;cases m:wz k l with
     |false=>rw[m]at h;simp at h
     |true=>
      cases he:fo (l1++e) (a++r) (b++s)with
      |none=>rw[he]at h;simp at h
      |some d=>
       rw[m,he]at h;simp only at h;cases h;obtain⟨d1,d2,h1,i,j⟩:=ih ha hb he;exact⟨⟨x=y/\d1.q,by have:=d1.h;exact inferInstance⟩,d2,by simp only[fo,m,h1],i,by simp[j,and_assoc]⟩
    ·rename_i x y;cases he:fo (l1++e) (a++r) (b++s)with
     |none=>rw[he]at h;simp at h
     |some d=>
      rw[he]at h;simp only at h;cases h;obtain⟨d1,d2,h1,i,j⟩:=ih ha hb he;exact⟨⟨x=y/\d1.q,by have:=d1.h;exact inferInstance⟩,d2,by simp only[fo,h1],i,by simp[j,and_assoc]⟩
    ·rename_i x y;cases he:fo (l1++e) (a++r) (b++s)with
     |none=>rw[he]at h;simp at h
     |some d=>
      rw[he]at h;simp only at h;cases h;obtain⟨d1,d2,h1,i,j⟩:=ih ha hb he;exact⟨⟨x=y/\d1.q,by have:=d1.h;exact inferInstance⟩,d2,by simp only[fo,h1],i,by simp[j,and_assoc]⟩

theorem CU{p q:Prop}{hp:Decidable p}{a:Decidable q}(h:p↔q): @decide p hp= @decide q a:=by
 by_cases e:p
 ·simp[e,h.1 e]
 ·have:¬q:=fun k=>e (h.2 k)
  simp[e,this]

def rN(P:Program)(t:TypeId)(cs:List Value):Value:=match fM P t with
 |true=> .agg cs.toArray
 |false=>cs.headD undef

theorem Pr{P:Program}:∀(n:Nat) {t:TypeId},tt P n t=true->(GX P n t).length=P.cellsOf t/\∃d,P.underlying t=some d:=by
 intro n;induction n with
 |zero=>intro t h;simp[tt]at h
 |succ n ih=>
  intro t h;simp only[tt]at h;simp only[GX];cases a:P.underlying t with
  |none=>simp[a]at h
  |some d=>
   rw[a]at h;refine⟨?_,d,rfl⟩;cases d<;>simp only at h⊢<;>try (simp at h;done)
   case int k=>simpa using(beq_true h).symm
   case bool=>simpa using(beq_true h).symm
   case string=>simpa using(beq_true h).symm
   case struct j=>
    simp only[cz,gu]at h;obtain⟨⟨_,i⟩,q⟩:=h;have gen:∀(l:List Field)(off m:Nat),(∀f∈l,tt P n f.type=true)->tiled P off l m=true->(l.flatMap fun f=>GX P n f.type).length+off=m:=by
     intro l;induction l with
     |nil=>intro off m _ a;simp only[tiled]at a;simpa using beq_true a
     |cons f r e=>
      intro off m hf a;simp only[tiled,cz]at a;have h1:=(ih (hf f sm)).1;have i:=e _ _ (fun g hg=>hf g (by simp[hg])) a.2;simp only[tJ,en,h1];omega
    have:=gen j.toList 0 (P.cellsOf t) (fun f hf=>(q f hf).2) i;simpa using this

theorem Hb{P:Program}{t:TypeId}{d:TypeDesc}(g:P.underlying t=some d){cs:List Value}{off:Nat}(h:off+P.cellsOf t<=cs.length)(h1:fM P t=false->P.cellsOf t=1)(w:World):
  (part t cs.toArray off).run P w= .ok (rN P t ((cs.drop off).take (P.cellsOf t))) w:=by
 simp only[part,Sem.run_bind,uO g,Result.andThen_ok,rN];cases hg:fM P t with
 |true=>
  simp only[CM,Sem.run_bind,run_sizeOf g,Result.andThen_ok,Sem.run_pure]
  congr 2
  apply MY;simp[List.take_drop,LP]
 |false=>
  have hs:=h1 hg;rw[hs]at h⊢;have a:off<cs.length:=om;simp only[Ep,xt];have e:cs.toArray[off]? =some cs[off]:=by simp[a]
  rw[e];simp only[Sem.run_pure]
  congr 1
  rw[dp a];rfl

theorem JL{P:Program}:∀(n:Nat) {t:TypeId} (d:Nat),tt P n t=true->n<=d->∀(cs i:List Value)(D:DP),cs.length=P.cellsOf t->i.length=P.cellsOf t->fo (GX P n t) cs i=some D->
  ∀w,(Op.equalIn d t (rN P t cs) (rN P t i)).run P w= .ok (@decide D.q D.h) w:=by
 intro n;induction n with
 |zero=>intro t d h;simp[tt]at h
 |succ n ih=>
  intro t d h hd cs i D B a he w;obtain⟨d,rfl⟩:∃m,d=m+1:=⟨d - 1,om⟩
  have h0:=h;simp only[tt]at h;simp only[GX]at he;cases j:P.underlying t with
  |none=>simp[j]at h
  |some O=>
   rw[j]at h he;cases O<;>simp only at h he<;>try (simp at h;done)
   case int k0=>
    have h1:=beq_true h;have hg:fM P t=false:=by simp[fM,j]
    rw[h1]at B a;obtain⟨x,rfl⟩:=ox.1 B;obtain⟨y,rfl⟩:=ox.1 a;cases x<;>cases y<;>simp only[fo]at he<;>try (simp at he;done)
    rename_i k x l y;cases G:wz k l with
    |false=>rw[G]at he;simp at he
    |true=>
     rw[G]at he;simp only[CY]at he;subst he;have Q:=DB G;have e:(x==y)=decide (x=y):=by rw[uk];simp
     rw[Op.equalIn];simp[rN,hg,Sem.run_bind,run_underlying j,Q,e]
   case bool=>
    have h1:=beq_true h;have hg:fM P t=false:=by simp[fM,j]
    rw[h1]at B a;obtain⟨x,rfl⟩:=ox.1 B;obtain⟨y,rfl⟩:=ox.1 a;cases x<;>cases y<;>simp only[fo]at he<;>try (simp at he;done)
    rename_i x y;simp only[CY]at he;subst he;have e:(x==y)=decide (x=y):=by cases x<;>cases y<;>rfl
    rw[Op.equalIn];simp[rN,hg,Sem.run_bind,run_underlying j,e]
   case string=>
    have h1:=beq_true h;have hg:fM P t=false:=by simp[fM,j]
    rw[h1]at B a;obtain⟨x,rfl⟩:=ox.1 B;obtain⟨y,rfl⟩:=ox.1 a;cases x<;>cases y<;>simp only[fo]at he<;>try (simp at he;done)
    rename_i x y;simp only[CY]at he;subst he;have e:(x==y)=decide (x=y):=by
     rw[uk];obtain⟨x⟩:=x;obtain⟨y⟩:=y;show(x==y)=true↔_;simp
    rw[Op.equalIn];simp[rN,hg,Sem.run_bind,run_underlying j,e]
   case struct M=>
    have hg:fM P t=true:=by simp[fM,j]
    simp only[cz,gu,GK]at h;obtain⟨⟨H,z⟩,I⟩:=h;have E:P.fieldsOf t=M:=by simp[Program.fieldsOf,j]
    simp only[rN,hg];rw[run_equalIn_struct w d t _ _ (by rw[E];exact j) H,E]
    have gen : ∀ (l : List Field) (off : Nat) (C : DP) (w : World), (∀ f ∈ l, f.name ≠ "_" ∧ tt P n f.type = true) → tiled P off l (P.cellsOf t) = true →
      fo (l.flatMap fun f=>GX P n f.type) (cs.drop off) (i.drop off)=some C->(Op.eqFields d cs.toArray i.toArray l).run P w= .ok (@decide C.q C.h) w:=by
     intro l;induction l with
     |nil=>
      intro off C w _ z he;simp only[tiled]at z;have:=beq_true z;have R:cs.drop off=[]:=de om;have S:i.drop off=[]:=de om;rw[R,S]at he;simp only[LQ,fo,CY]at he;subst he;simp[Op.eqFields]
     |cons f r J=>
      intro off C w hf z he;simp only[tiled,cz]at z;have L:=beq_true z.1;obtain⟨hn,gW⟩:=hf f sm;obtain⟨hlen,fd,A⟩:=Pr n gW;have hbound:off+P.cellsOf f.type<=P.cellsOf t:=by
       have:∀(l:List Field)(o m:Nat),tiled P o l m=true->o<=m:=by
        intro l;induction l with
        |nil=>intro o m h;simp only[tiled]at h;have:=beq_true h;omega
        |cons f r ih=>intro o m h;simp only[tiled,cz]at h;have:=ih _ _ h.2;omega
       exact this r _ _ z.2
      have U:cs.drop off=(cs.drop off).take (P.cellsOf f.type)++cs.drop (off+P.cellsOf f.type):=by rw[<-NZ];exact(kl _ _).symm
      have V:i.drop off=(i.drop off).take (P.cellsOf f.type)++i.drop (off+P.cellsOf f.type):=by rw[<-NZ];exact(kl _ _).symm
      rw[U,V,tJ]at he;have lc:((cs.drop off).take (P.cellsOf f.type)).length=P.cellsOf f.type:=by simp;omega
      have ld:((i.drop off).take (P.cellsOf f.type)).length=P.cellsOf f.type:=by simp;omega
      obtain⟨d1,d2,h1,W,N⟩:=AR (by rw[lc,hlen]) (by rw[ld,hlen]) he;have F:fM P f.type=false->P.cellsOf f.type=1:=fun hg=>by
       cases n with
       |zero=>simp[tt]at gW
       |succ n=>
        simp only[tt,A]at gW;simp only[fM,A]at hg;cases fd<;>simp only at gW hg<;>first|exact beq_true gW|(simp at gW;done)|(simp at hg;done)
      have X:=ih d gW om _ _ d1 lc ld h1 w;have Y:=J _ d2 w (fun g hg=>hf g (by simp[hg])) z.2 W;simp only[Op.eqFields,hn,ne_eq,not_false_eq_true,CM,Sem.run_bind,L,Hb A (cs:=cs) (off:=off) om F,Hb A (cs:=i) (off:=off) om F,Result.andThen_ok,X];have Z:=d1.h;by_cases c1:d1.q
      ·simp only[c1,decide_true,Bool.not_true,Ep,xt,Y]
       congr 1
       exact CU (by rw[N];simp[c1])
      ·simp only[c1,decide_false,RQ,CM,Sem.run_pure]
       congr 1
       have:¬C.q:=fun k=>c1 (N.1 k).1
       simp[this]
    exact gen M.toList 0 D w (fun f hf=>by have:=I f hf;simpa using this) z (by simpa using he)

theorem AS{P:Program}{t:TypeId}{xs ys:Array Value}{q:Prop}{a:Decidable q}(h1:(tK P t&&tt P 6 t)=true)(d:fo (GX P 6 t) xs.toList ys.toList=some ⟨q,a⟩)(hx:xs.size=P.cellsOf t)(hy:ys.size=P.cellsOf t)
  (w:World):(Op.equal t (.agg xs) (.agg ys)).run P w= .ok (@decide q a) w:=by
 simp only[cz]at h1;have hg:fM P t=true:=by
  have:=h1.1;unfold tK at this;unfold fM;split at this<;>simp_all
 have:=JL 6 10000 h1.2 dc xs.toList ys.toList ⟨q,a⟩ (by simpa using hx) (by simpa using hy) d w;simp only[rN,hg]at this;exact this

theorem dS{P:Program}{op:BinOp}{t:TypeId}{x y:Operand}{u v:Value}(w:World)(h1:∀q,u≠ .agg q)(a:u≠ .nilIface):(eqGuard op t x y u v).run P w= .ok () w:=by
 unfold eqGuard;cases op<;>cases u<;>simp_all

theorem Hc{P:Program}{t e:TypeId}{A:Option Addr}{n m:Nat}(d:Nat)(a:P.underlying t=some (.slice e))(w:World):
  (Op.equalIn (d+1) t (.slice A n m) (.slice none 0 0)).run P w= .ok (decide (A=none)) w:=by
 rw[Op.equalIn];cases A<;>simp[Sem.run_bind,run_underlying a]
theorem EL{P:Program}{t:TypeId}{x y:Bool}(d:Nat)(a:P.underlying t=some .bool)(w:World):
  (Op.equalIn (d+1) t (.bool x) (.bool y)).run P w= .ok (decide (x=y)) w:=by
 have e:(x==y)=decide (x=y):=by cases x<;>cases y<;>rfl
 rw[Op.equalIn];simp[Sem.run_bind,run_underlying a,e]

theorem xn{P:Program}{op:BinOp}{t:TypeId}{x y:Operand}{xs ys:Array Value}(h:(tK P t&&tt P 6 t)=true)(w:World):
  (eqGuard op t x y (.agg xs) (.agg ys)).run P w= .ok () w:=by
 have a:∀(n:Nat)(d:Nat)(t:TypeId),tt P n t=true->n<=d->P.eqGuardType d t=false:=by
  intro n;induction n with
  |zero=>intro d t h;simp[tt]at h
  |succ n ih=>
   intro d t h j;obtain⟨d,rfl⟩:∃m,d=m+1:=⟨d - 1,om⟩
   simp only[tt]at h;simp only[Program.eqGuardType];cases e:P.underlying t with
   |none=>rfl
   |some g=>
    rw[e]at h;cases g<;>simp only at h⊢<;>try (simp at h;done)
    rename_i k;simp only[cz,gu]at h;rw[<-Array.any_toList];rw[wJ];intro f hf;have:=h.2 f hf;simp only[cz];rw[ih d f.type this.2 om];simp
 simp only[cz]at h;have i:6<=P.depth:=by
  unfold Program.depth;have:Made.depth≥2:=dc;omega
 have:=a 6 P.depth t h.2 i;unfold eqGuard;cases op<;>simp[Sem.run_bind,program,Sem.run,this]

theorem AT{x:SV}{t:Bool}(h:AK x=some t):x.den b= .bool t:=by
 cases x with
 |v u=>cases u<;>simp_all [AK,SV.den]
 |_=>simp_all [AK,SV.den]

set_option maxHeartbeats 1000000 in
theorem Tw{j:Int}{n:Nat}{Q:Nat->Prop}(h:each j n Q){k:Nat}(d:k<n)(e:j=(k:Int)):Q k:=by
 induction n with
 |zero=>omega
 |succ n ih=>
  simp only[each]at h;by_cases a:k=n
  ·subst a;exact h.2 e
  ·exact ih h.1 om

theorem qb{raw:Bool}{lw:Option World}{hold:Option (List Nat)}{Ok:World->Prop}(S:jt o=true->∀w,Ok w->AO b st lw hold w)(he:pW b st.env T)(hs:∀cs q,o.op≠ .select cs q)(h:value c raw lw hold o st K):
  Mb c b T o Ok K:=by
 unfold value at h;cases g:o.op<;>simp only[g]at h<;>try exact bP he hs h
 case move x=>
  obtain⟨v,J,z⟩:=kK h;exact⟨v,z,fun w _=>by simp[execOp,g,cG he J]⟩
 case assign x=>
  obtain⟨v,J,z⟩:=kK h;exact⟨v,z,fun w _=>by simp[execOp,g,cG he J]⟩
 case pick cnd x y=>
  obtain⟨v,J,hB⟩:=kK h;obtain⟨t,B,h⟩:=rM (b:=b) hB;cases t
  ·obtain⟨W,hu,z⟩:=kK h;exact⟨W,z,fun w _=>by simp[execOp,g,cG he J,B,asBool,cG he hu]⟩
  ·obtain⟨W,hu,z⟩:=kK h;exact⟨W,z,fun w _=>by simp[execOp,g,cG he J,B,asBool,cG he hu]⟩
 case unOp u t x=>
  cases u<;>simp only at h<;>try exact bP he hs h
  case xor=>
   cases hx:ev st x with
   |none=>simp[hx]at h
   |some v=>
    rw[hx]at h;cases v with
    |v a=>
     cases a<;>try exact h.elim
     exact⟨_,h,fun w _=>by simp[execOp,g,cG he hx,SV.den,Op.unary,intBits_xor]⟩
    |_=>exact h.elim
  ·cases hx:ev st x with
   |none=>simp[hx]at h
   |some v=>
    rw[hx]at h;cases v with
    |v a=>
     cases a<;>try exact h.elim
     rename_i k n;obtain⟨m,h1,L⟩:=rf h;exact⟨_,h1,fun w _=>by simp[execOp,g,cG he hx,SV.den,Op.unary,Op.intArith,<-L]⟩
    |_=>exact h.elim
  ·cases hx:ev st x with
   |none=>simp[hx]at h
   |some v=>
    rw[hx]at h;cases v with
    |v a=>
     cases a<;>try exact h.elim
     rename_i t;exact⟨_,h,fun w _=>by cases t<;>simp[execOp,g,cG he hx,SV.den,Op.unary]⟩
    |t=>exact⟨_,h,fun w _=>by simp[execOp,g,cG he hx,SV.den,Op.unary]⟩
    |f=>exact⟨_,h,fun w _=>by simp[execOp,g,cG he hx,SV.den,Op.unary]⟩
    |p q hq=>exact⟨_,h,fun w _=>by by_cases hc:q<;>simp[execOp,g,cG he hx,SV.den,Op.unary,hc]⟩
    |_=>exact h.elim
 case convert src dst x=>
  cases X:c.P.underlying dst with
  |none=>rw[X]at h;exact bP he hs h
  |some d=>
   cases hx:ev st x with
   |none=>rw[X,hx]at h;cases d<;>exact bP he hs h
   |some v=>
    rw[X,hx]at h;cases d<;>try exact bP he hs h
    cases v<;>try exact bP he hs h
    rename_i k a;cases a<;>try exact bP he hs h
    rename_i R n;simp only at h;cases r:known c.P src with
    |false=>rw[r]at h;exact h.elim
    |true=>
     rw[r]at h;obtain⟨ds,Ps⟩:=kL r;obtain⟨m,h1,L⟩:=rf h;exact⟨_,h1,fun w _=>by simp[execOp,g,cG he hx,SV.den,Go.convert,Sem.run_bind,run_underlying Ps,run_underlying X,Conv.intToInt,L]⟩
 case nilCheck x=>
  cases hx:ev st x with
  |none=>simp[hx]at h
  |some v=>
   rw[hx]at h;cases v with
   |loc l off=>exact⟨_,h,fun w _=>by simp[execOp,g,cG he hx,SV.den]⟩
   |v a=>
    cases a<;>try exact h.elim
    ·rename_i q;cases q<;>try exact h.elim
     exact⟨_,h,fun w _=>by simp[execOp,g,cG he hx,SV.den]⟩
    ·rename_i q _ _;cases q<;>try exact h.elim
     exact⟨_,h,fun w _=>by simp[execOp,g,cG he hx,SV.den]⟩
   |_=>exact h.elim
 case fieldAddr s x f=>
  cases hf:xi c.P s f with
  |none=>simp[hf]at h
  |some fd=>
   rw[hf]at h;simp only at h;cases hz:Nat.beq (c.P.cellsOf fd.type) 0 with
   |true=>simp[hz]at h
   |false=>
    rw[hz]at h;simp only at h;cases hx:ev st x with
    |none=>simp[hx]at h
    |some v=>
     rw[hx]at h;cases v with
     |loc l off=>exact⟨_,h,fun w _=>by simp[execOp,g,cG he hx,SV.den,yV hf hz,jw]⟩
     |v a=>
      cases a<;>try exact h.elim
      rename_i q;cases q<;>try exact h.elim
      exact⟨_,h,fun w _=>by simp[execOp,g,cG he hx,SV.den,yV hf hz]⟩
     |_=>exact h.elim
 case slice t x lo hi mx=>
  cases mx with
  |some m=>simp only at h;exact bP he hs h
  |none=>
   simp only at h;obtain⟨v,J,h⟩:=kK h;obtain⟨l,h,hl⟩:=AQ he h;obtain⟨u,h,hu⟩:=AQ he h;obtain⟨s,z,M⟩:=EJ (b:=b) h hl hu;exact⟨s,z,fun w _=>by simp[execOp,g,cG he J,M]⟩
 case load t x=>
  cases hx:ev st x with
  |none=>simp[hx]at h
  |some v=>
   rw[hx]at h;cases v with
   |loc l off=>
    simp only at h;cases hm:EE hold l with
    |false=>simp[hm]at h
    |true=>
     cases hl:uM c.P st.boxes t l off with
     |none=>simp[hm,hl]at h
     |some u=>
      simp only[hm,hl]at h;exact⟨_,h,fun w hw=>by simp[execOp,g,cG he hx,SV.den,Instr.loadAt,Instr.sureAddr,vB (b:=b) hl (fun y hy=>(S (by simp[jt,g]) w hw).box l y hm hy)]⟩
   |v a=>
    cases a<;>try exact h.elim
    rename_i q;cases q<;>try exact h.elim
    rename_i ad;cases hw:lw with
    |none=>simp[hw]at h
    |some w0=>
     simp only[hw]at h;obtain⟨u,z,M⟩:=vC h;refine⟨_,z,fun w hr=> ?_⟩;simp[execOp,g,cG he hx,SV.den,Instr.loadAt,Instr.sureAddr,M w (fun a' u' h'=>(S (by simp[jt,g]) w hr).cell w0 hw a' u' h')]
   |_=>exact h.elim
 case indexAddr t x i=>
  cases B:c.P.underlying t with
  |none=>simp[B]at h
  |some d=>
   cases hx:ev st x with
   |none=>cases d<;>simp[B,hx]at h
   |some v=>
    cases hi:ev st i with
    |none=>cases d<;>cases v<;>simp[B,hx,hi]at h
    |some U=>
     rw[B,hx,hi]at h;cases d<;>try exact h.elim
     ·rename_i e;cases v<;>try exact h.elim
      rename_i N;cases N<;>try exact h.elim
      rename_i A n cp;cases U<;>try exact h.elim
      rename_i O;cases O<;>try exact h.elim
      rename_i k j;simp only at h;cases r:known c.P e with
      |false=>rw[r]at h;exact h.elim
      |true=>
       rw[r]at h;obtain⟨Y,Q⟩:=kL r;obtain⟨hj,a,rfl,z⟩:=h;refine⟨_,z,fun w _=> ?_⟩;simp[execOp,g,cG he hx,cG he hi,SV.den,Instr.indexAt,asIntOf,Sem.run_bind,run_underlying B,run_sizeOf Q,hj]
     ·rename_i n e;cases v<;>try exact h.elim
      ·rename_i N;cases N<;>try exact h.elim
       rename_i q;cases q<;>try exact h.elim
       rename_i a;cases U<;>try exact h.elim
       rename_i O;cases O<;>try exact h.elim
       rename_i k i;simp only at h;cases r:known c.P e with
       |false=>rw[r]at h;exact h.elim
       |true=>
        rw[r]at h;obtain⟨Y,Q⟩:=kL r;obtain⟨hj,z⟩:=h;refine⟨_,z,fun w _=> ?_⟩;simp[execOp,g,cG he hx,cG he hi,SV.den,Instr.indexAt,asIntOf,Sem.run_bind,run_underlying B,run_sizeOf Q,Instr.sureAddr,hj]
      rename_i l off;cases U<;>try exact h.elim
      rename_i O;cases O<;>try exact h.elim
      rename_i k i;simp only at h;cases raw with
      |true=>
       simp only at h;cases r:known c.P e with
       |false=>rw[r]at h;exact h.elim
       |true=>
        rw[r]at h;obtain⟨⟨h0,h1⟩,h⟩:=h;obtain⟨Y,Q⟩:=kL r;obtain⟨m,rfl⟩:=MZ h0;have D:m<n:=om;have z:=Tw h D rfl;refine⟨_,z,fun w _=> ?_⟩;simp[execOp,g,cG he hx,cG he hi,SV.den,Instr.indexAt,asIntOf,Sem.run_bind,run_underlying B,run_sizeOf Q,Instr.sureAddr,D,jw]
      |false=>
      simp only at h;cases i<;>try exact h.elim
      rename_i j;simp only at h;cases r:Nat.blt j n&&known c.P e with
      |false=>rw[r]at h;exact h.elim
      |true=>
       rw[r]at h;simp only[cz]at r;obtain⟨Y,Q⟩:=kL r.2;have D:j<n:=by simpa[Tz]using r.1
       refine⟨_,h,fun w _=> ?_⟩;have L:(Int.ofNat j)<(n:Int):=by simpa using D
       simp[execOp,g,cG he hx,cG he hi,SV.den,Instr.indexAt,asIntOf,Sem.run_bind,run_underlying B,run_sizeOf Q,Instr.sureAddr,D,jw]
 case index t x i=>
  cases B:c.P.underlying t with
  |none=>rw[B]at h;exact bP he hs h
  |some d=>
   rw[B]at h;cases hx:ev st x with
   |none=>rw[hx]at h;cases d<;>exact bP he hs h
   |some v=>
    cases hi:ev st i with
    |none=>
     rw[hx,hi]at h;cases d<;>try exact bP he hs h
     cases v<;>try exact bP he hs h
     rename_i N;cases N<;>exact bP he hs h
    |some U=>
     rw[hx,hi]at h;cases d<;>try exact bP he hs h
     cases v<;>try exact bP he hs h
     rename_i N;cases N<;>try exact bP he hs h
     rename_i s;cases U<;>try exact bP he hs h
     rename_i O;cases O<;>try exact bP he hs h
     rename_i k j;obtain⟨hj,z⟩:=h;obtain⟨x0,h1,L⟩:=abX hj;refine⟨_,z,fun w _=> ?_⟩;simp only[execOp,g,cG he hx,cG he hi,SV.den,Instr.index,asIntOf,Sem.run_bind,run_underlying B,Sem.run_pure,Result.andThen_ok,bm hj.1,h1,L]
 case binOp op G x y yt=>
  have pl:=fun(h:pX c o st K)=>bP (Ok:=Ok) he hs h
  cases hx:ev st x with
  |none=>simp[hx]at h
  |some W=>
   cases hy:ev st y with
   |none=>simp[hx,hy]at h
   |some v=>
    simp only[hx,hy]at h;have ex:=cG he hx;have C:=cG he hy;split at h
    ·rename_i k E R F H I;cases H;cases I;cases r:wz k R with
     |false=>
      rw[r]at h;simp only[SV.den]at ex C;cases op
      case shl=>exact⟨_,h.2,fun w _=>by simp[execOp,g,ex,C,Sem.run_bind,dS w (u:= .int k E) (v:= .int R F) sm sm,binOp,shift_shl k R E F h.1.1 h.1.2,wA,SV.den]⟩
      case shr=>exact⟨_,h.2,fun w _=>by simp[execOp,g,ex,C,Sem.run_bind,dS w (u:= .int k E) (v:= .int R F) sm sm,binOp,shift_shr k R E F h.1.1 h.1.2,nB,SV.den]⟩
      all_goals exact pl h
     |true=>
      rw[r]at h;obtain rfl:=DB r;have go:ED raw op k E F K->Mb c b T o Ok K:=fun hb=>by
       obtain⟨s,z,M⟩:=EH (b:=b) (t:=G) hb;refine⟨s,z,fun w _=> ?_⟩;simp only[SV.den]at ex C;simp[execOp,g,ex,C,Sem.run_bind,dS w (u:= .int k E) (v:= .int k F) sm sm,M]
      exact go h
    ·rename_i E F H I;cases H;cases I;obtain⟨s,z,M⟩:=EI (b:=b) (t:=G) h;refine⟨s,z,fun w _=> ?_⟩;simp only[SV.den]at ex C;simp[execOp,g,ex,C,Sem.run_bind,dS w (u:= .string E) (v:= .string F) sm sm,M]
    ·rename_i E F H I;cases H;cases I;split at h
     ·rename_i q hq h1 L;simp only[cz]at h1;have Z:E.size=c.P.cellsOf G:=by simpa using beq_true h1.1.2
      have hsy:F.size=c.P.cellsOf G:=by simpa using beq_true h1.2
      have hS:(tK c.P G&&tt c.P 6 G)=true:=by simp[h1.1.1]
      have heq:=fun w=>AS hS L Z hsy w
      have V:∀w,(eqGuard op G x y (.agg E) (.agg F)).run c.P w= .ok () w:=fun w=>xn hS w
      simp only[SV.den]at ex C;cases op<;>simp only at h<;>try exact h.elim
      ·refine⟨_,h,fun w _=> ?_⟩;simp[execOp,g,ex,C,Sem.run_bind,V,binOp,heq,SV.den]
      ·refine⟨_,h,fun w _=> ?_⟩;simp[execOp,g,ex,C,Sem.run_bind,V,binOp,heq,SV.den]
     ·exact h.elim
    ·rename_i A n1 c1 H I;cases H;cases I;cases B:c.P.underlying G with
     |none=>rw[B]at h;exact h.elim
     |some d=>
      rw[B]at h;cases d<;>try exact h.elim
      simp only[SV.den]at ex C;have heq:∀w,(Op.equal G (.slice A n1 c1) (.slice none 0 0)).run c.P w= .ok (decide (A=none)) w:=fun w=>Hc 9999 B w
      cases op<;>simp only at h<;>try exact h.elim
      ·refine⟨_,h,fun w _=> ?_⟩;simp[execOp,g,ex,C,Sem.run_bind,dS w (u:= .slice A n1 c1) (v:= .slice none 0 0) sm sm,binOp,heq,SV.den]
      ·refine⟨_,h,fun w _=> ?_⟩;simp[execOp,g,ex,C,Sem.run_bind,dS w (u:= .slice A n1 c1) (v:= .slice none 0 0) sm sm,binOp,heq,SV.den]
    ·rename_i u' v' _ _ _ _ H I;cases H;cases I;split at h
     ·rename_i t1 t2 B hb1 hb2;have d1:=AT (b:=b) hb1;have d2:=AT (b:=b) hb2;rw[d1]at ex;rw[d2]at C;have heq:∀w,(Op.equal G (.bool t1) (.bool t2)).run c.P w= .ok (decide (t1=t2)) w:=fun w=>EL 9999 B w
      cases op<;>simp only at h<;>try exact h.elim
      ·refine⟨_,h,fun w _=> ?_⟩;simp[execOp,g,ex,C,Sem.run_bind,dS w (u:= .bool t1) (v:= .bool t2) sm sm,binOp,heq,SV.den]
      ·refine⟨_,h,fun w _=> ?_⟩;simp[execOp,g,ex,C,Sem.run_bind,dS w (u:= .bool t1) (v:= .bool t2) sm sm,binOp,heq,SV.den]
     ·exact pl h
    ·exact h.elim
end

structure Inv (c:Cx) (b:Nat->Nat) (st:St) (T:Array Value) (wa:World):Prop where
 size:T.size=c.N
 env:pW b st.env T
 box:tf b c.B st.boxes wa
 lo:c.B<=st.w.heap.size
 ext:match st.d with
  |none=>wa=st.w
  |some ts=>Ext c.B ts st.w wa
 new:∀l x,bB st.boxes l=some x->x.new=true->st.w.heap.size<=b l
 base:Below c.B c.w0 wa

theorem Ext.refl(B:Nat)(ts:List Nat)(w:World):Ext B ts w w:=⟨Below.refl _ _,fun k _=> .inl rfl⟩
theorem Ext.mono{B:Nat}{ts us:List Nat}{w w':World}(h:Ext B ts w w')(hs:∀t∈ts,t∈us):Ext B us w w':=
 ⟨h.below,fun k a=>(h.other k a).imp id fun⟨t,d,r⟩=>⟨t,hs t d,r⟩⟩
theorem Mc{t x:Nat}:∀{l:List Nat},x∈ins t l↔x=t∨x∈l:=by
 intro l;induction l with
 |nil=>simp[ins]
 |cons y r ih=>
  simp only[ins];cases h:Nat.beq y t with
  |true=>have:=beq_true h;subst this;simp
  |false=>simp[ih];constructor<;>rintro(h|h|h)<;>simp[h]

theorem rO{a:List rJ}{l:Nat}:bB (yR a) l=(bB a l).map fun x=>{x with new:=false}:=by
 induction a with
 |nil=>rfl
 |cons x r ih=>
  simp only[yR,cD];split<;>simp_all

section
variable {c:Cx} {b:Nat->Nat} {st:St} {T:Array Value} {wa:World}

theorem Inv.xo(h:Inv c b st T wa):Ext c.B (st.d.getD []) st.w wa:=by
 have:=h.ext;cases a:st.d with
 |none=>rw[a]at this;subst this;exact Ext.refl _ _ _
 |some ts=>rw[a]at this;exact this

theorem tf.yR(h:tf b c.B st.boxes wa):tf b c.B (yR st.boxes) wa:=by
 constructor
 ·intro l x hx;rw[rO]at hx;obtain⟨y,hy,rfl⟩:=ob.1 hx;exact h.at_ l y hy
 ·intro l m x y hx hy a;rw[rO]at hx hy;obtain⟨d,e,rfl⟩:=ob.1 hx;obtain⟨g,i,rfl⟩:=ob.1 hy;exact h.ne l m d g e i a

theorem rP{a:List rJ}{l:Nat}{x:rJ}(h:bB (yR a) l=some x):x.new=false:=by
 rw[rO]at h;obtain⟨y,_,rfl⟩:=ob.1 h;rfl

def Same(st d:St):Prop:=∀l a,bB d.boxes l=some a->∃x,bB st.boxes l=some x/\x.cells=a.cells/\x.ty=a.ty
theorem Same.refl(st:St):Same st st:=fun l x h=>⟨x,h,rfl,rfl⟩
theorem Same.trans{st a d:St}(h:Same st a)(k:Same a d):Same st d:=fun l x hx=>by
 obtain⟨y,hy,e,g⟩:=k l x hx;obtain⟨z,hz,f1,f2⟩:=h l y hy;exact⟨z,hz,f1.trans e,f2.trans g⟩
theorem Same.yR{st a:St}(h:Same st a){env w d}:Same st ⟨env,yR a.boxes,w,d⟩:=fun l x hx=>by
 rw[rO]at hx;obtain⟨y,hy,rfl⟩:=ob.1 hx;obtain⟨z,hz,f1,f2⟩:=h l y hy;exact⟨z,hz,f1,f2⟩
theorem cW{K:St->Prop}(inv:Inv c b st T wa)(h:gZ c.B st K):
  ∃a,K a/\Inv c b a T wa/\a.w=wa/\a.d=none/\a.env=st.env/\Same st a:=by
 unfold gZ at h;have hx:=inv.ext;cases e:st.d with
 |none=>rw[e]at h hx;exact⟨st,h,inv,hx.symm,e,rfl,Same.refl _⟩
 |some ts=>
  rw[e]at h hx;refine⟨_,h wa hx,⟨inv.size,inv.env,inv.box.yR,dT inv.lo hx.below.size,rfl,fun l x hl hn=> ?_,inv.base⟩,rfl,rfl,rfl,(Same.refl st).yR⟩;rw[rP hl]at hn;cases hn

theorem Pv{l a:Nat}{env:Env}{s:Nat}{x:SV}(h:get (jl l a env) s=some x):
  get env s=some x∨∃off,get env s=some (.loc l off)/\x= .v (.pointer (some ⟨a,off,none⟩)):=by
 induction env with
 |nil=>simp[jl,get]at h
 |cons y r ih=>
  obtain⟨s0,v⟩:=y;have gen:∀d,(jl l a ((s0,v)::r)=(s0,d)::jl l a r)->(d=v∨∃off,v= .loc l off/\d= .v (.pointer (some ⟨a,off,none⟩)))->
    get ((s0,v)::r) s=some x∨∃off,get ((s0,v)::r) s=some (.loc l off)/\x= .v (.pointer (some ⟨a,off,none⟩)):=by
   intro d e i;rw[e,iR]at h;rw[iR];by_cases hs:s0=s
   ·simp only[hs,CM]at h⊢;cases h;rcases i with rfl|⟨off,rfl,rfl⟩
    ·exact .inl rfl
    ·exact .inr ⟨off,rfl,rfl⟩
   ·simp only[hs,xt]at h⊢;exact ih h
  cases v with
  |loc k off=>
   cases g:Nat.beq k l with
   |true=>have:=beq_true g;subst this;exact gen _ (by simp[jl]) (.inr ⟨off,rfl,rfl⟩)
   |false=>exact gen _ (by simp[jl,g]) (.inl rfl)
  |_=>exact gen _ (by simp[jl]) (.inl rfl)

theorem AU{a:St}{l:Nat}(e:Inv c b a T wa):Inv c b {env:=jl l (b l) a.env,boxes:=kC a.boxes l,w:=a.w,d:=a.d} T wa/\Same a {env:=jl l (b l) a.env,boxes:=kC a.boxes l,w:=a.w,d:=a.d}:=by
 refine⟨⟨e.size,fun s x hs=> ?_,⟨fun m x hm=> ?_,fun m n x y hm hn g=> ?_⟩,e.lo,e.ext,fun m x hm hn=> ?_,e.base⟩,fun m x hm=> ?_⟩
 ·rcases Pv hs with h1|⟨off,h1,rfl⟩
  ·exact e.env s x h1
  ·exact e.env s (.loc l off) h1
 ·rw[dr]at hm;split at hm
  ·cases hm
  ·exact e.box.at_ m x hm
 ·rw[dr]at hm hn;split at hm
  ·cases hm
  ·split at hn
   ·cases hn
   ·exact e.box.ne m n x y hm hn g
 ·simp only[dr]at hm;split at hm
  ·cases hm
  ·exact e.new m x hm hn
 ·rw[dr]at hm;split at hm
  ·cases hm
  ·exact⟨x,hm,rfl,rfl⟩
theorem vD{K:St->Prop}:∀(d:List Nat)(st:St),Inv c b st T wa->xk c d st K->∃a,K a/\Inv c b a T wa/\Same st a:=by
 intro d;induction d with
 |nil=>intro st inv h;exact⟨st,h,inv,Same.refl _⟩
 |cons l r ih=>
  intro st inv h;simp only[xk]at h;obtain⟨a,h,e,hw,w,_,i⟩:=cW inv h;cases hb:bB a.boxes l with
  |none=>simp[hb]at h
  |some j=>
   simp only[hb]at h;have g:=e.box.at_ l j hb;obtain⟨inv2,k⟩:=AU (l:=l) e;obtain⟨m,h1,n,q⟩:=ih _ inv2 (h (b l) g.1 (by rw[hw];exact g.2));exact⟨m,h1,n,(i.trans k).trans q⟩
theorem AV{K:St->Prop}(g:List Nat)(st:St)(inv:Inv c b st T wa)(h:AM c g st K):∃a,K a/\Inv c b a T wa/\Same st a:=by
 unfold AM at h;split at h
 ·rename_i l;split at h
  ·cases h
  ·rename_i b0 i;split at h
   ·cases h
   ·rename_i hn;obtain⟨a,h,d,hw,n,_,j⟩:=cW inv h;cases hb:bB a.boxes l with
    |none=>simp[hb]at h
    |some k=>
     simp only[hb]at h;have e:=d.box.at_ l k hb;obtain⟨inv2,m⟩:=AU (l:=l) d;exact⟨_,h (b l) e.1 (inv.new l b0 i hn) (by rw[hw];exact e.2),inv2,j.trans m⟩
 ·cases h

def Kept(o:Oper)(b:Nat->Nat)(st:St)(wa:World)(d:Nat->Nat)(e:St)(w':World):Prop:=
 wa.heap.size<=w'.heap.size/\(∀k,k<wa.heap.size->w'.heap[k]? =wa.heap[k]?)/\∀l,(th o=true->o.dst≠some l)->d l=b l/\∀a,bB e.boxes l=some a->∃x,bB st.boxes l=some x/\x.cells=a.cells/\x.ty=a.ty

def Px(c:Cx)(q:Bool)(o:Oper)(b:Nat->Nat)(st:St)(wa:World)(T:Array Value)(K:SV->St->Prop)(v:Value)(w':World):Prop:=
 ∃a x d,K x d/\v=x.den a/\Inv c a d T w'/\(q=true->Kept o b st wa a d w')

variable {o:Oper} {K:SV->St->Prop}

def AW(c:Cx)(q:Bool)(b:Nat->Nat)(st:St)(T:Array Value)(o:Oper)(wa:World)(K:SV->St->Prop):Prop:=
 ∀next Q,(∀v w',Px c q o b st wa T K v w'->next ((act T).put o.dst v) w')->o.wp c.P (act T) wa next Q

theorem Same.kept{st a:St}(h:Same st a)(o:Oper)(b:Nat->Nat)(w w':World)(hs:w.heap.size<=w'.heap.size)(d:∀k,k<w.heap.size->w'.heap[k]? =w.heap[k]?):Kept o b st w b a w':=
 ⟨hs,d,fun l _=>⟨rfl,h l⟩⟩

theorem vF{q:Bool}{Ok:World->Prop}{a:St}(inv:Inv c b a T wa)(d:Same st a)(gW:Ok wa)(h:Mb c b T o Ok fun x=>K x a):AW c q b st T o wa K:=by
 obtain⟨x,e,g⟩:=h;intro next Q hn
 unfold Oper.wp;rw[g wa gW];exact hn _ _ ⟨b,x,a,e,rfl,inv,fun _=>d.kept _ _ _ _ lf fun _ _=>rfl⟩

theorem AO.Py{lw:Option World}(inv:Inv c b st T wa)(hw:∀v,lw=some v->v=wa):AO b st lw none wa:=
 ⟨fun l x _ hx=>(inv.box.at_ l x hx).2,fun v d a u hu=>by rw[<-hw v d];exact hu⟩

theorem tM{env:Env}{l s:Nat}{x:SV}(h:get (pV env l) s=some x):get env s=some x/\x.Ph l=false:=by
 induction env with
 |nil=>simp[pV,get]at h
 |cons y r ih=>
  simp only[pV]at h;simp only[iR];cases hl:y.2.Ph l with
  |true=>
   rw[hl]at h;simp only[pg]at h;by_cases hs:s=y.1
   ·simp[hs]at h
   ·simp only[hs,xt]at h;rw[aq (oi hs)];exact ih h
  |false=>
   rw[hl]at h;simp only[iR]at h;by_cases hs:y.1=s
   ·simp only[hs,CM]at h⊢;cases h;exact⟨rfl,hl⟩
   ·simp only[hs,xt]at h⊢;exact ih h

theorem AX(inv:Inv c b st T wa)(l ty:Nat)(cells:List Value):
  Inv c (fun m=>if m=l then wa.heap.size else b m) (qi st l ty cells) T (wa.alloc (.cells cells.toArray ty)):=by
 have hx:=inv.xo;have d:∀m x,bB st.boxes m=some x->b m<wa.heap.size:=fun m x hm=>by
  have:=(inv.box.at_ m x hm).2;exact(ax.1 this).1
 refine⟨inv.size,fun s x hs=> ?_,⟨fun m x hm=> ?_,fun m n x y hm hn g=> ?_⟩,inv.lo,?_,fun m x hm hn=> ?_,inv.base.alloc (dT inv.lo hx.below.size) _⟩
 ·obtain⟨h1,i⟩:=tM hs;rw[inv.env s x h1];cases x<;>simp only[SV.den];rename_i k off;have:k≠l:=beq_false i;simp[this]
 ·simp only[qi,cD,dr]at hm;by_cases e:l=m
  ·subst e;simp only[CM]at hm;cases hm;simp only[CM];refine⟨dT inv.lo hx.below.size,?_⟩;show(wa.heap.push _)[wa.heap.size]? =_;simp
  ·simp only[e,xt,oi e]at hm;have:=inv.box.at_ m x hm;simp only[oi e,xt];refine⟨this.1,?_⟩;rw[<-this.2];exact Below.heap_alloc wa _ _ (d m x hm)
 ·simp only[qi,cD,dr]at hm hn;by_cases e:l=m
  ·subst e;by_cases a:l=n
   ·exact absurd a g
   ·simp only[a,xt,oi a]at hn;have:=d n y hn;simp only[CM,oi a,xt];omega
  ·simp only[e,xt,oi e]at hm;have h1:=d m x hm;by_cases a:l=n
   ·subst a;simp only[oi e,xt,CM];omega
   ·simp only[a,xt,oi a]at hn;simp only[oi e,oi a,xt];exact inv.box.ne m n x y hm hn g
 ·simp only[qi];refine⟨hx.below.alloc (dT inv.lo hx.below.size) _,fun k h=> ?_⟩;have j:k<wa.heap.size:=qc h hx.below.size;rw[Below.heap_alloc wa _ _ j];exact hx.other k h
 ·simp only[qi,cD,dr]at hm;simp only[qi];by_cases e:l=m
  ·subst e;simp only[CM];exact hx.below.size
  ·simp only[e,xt,oi e]at hm;simp only[oi e,xt];exact inv.new m x hm hn

theorem yW{l:Nat}(d:o.dst=some l)(g:th o=true)(ty:Nat)(cells:List Value)(h:Obj):
  Kept o b st wa (fun m=>if m=l then wa.heap.size else b m) (qi st l ty cells) (wa.alloc h):=by
 refine⟨sm,fun k i=>Below.heap_alloc _ _ _ i,fun m hm=> ?_⟩;have a:m≠l:=fun e=>hm g (by rw[d,e])
 refine⟨aq a,fun x hx=> ?_⟩;simp only[qi,cD,dr,aq a,aq (oi a)]at hx;exact⟨x,hx,rfl,rfl⟩

theorem rQ{x:Option SV}{Q:Value->Prop}(h:xh x Q):∃sv v,x=some sv/\sv.val=some v/\Q v:=by
 cases x with
 |none=>exact h.elim
 |some sv=>
  unfold xh at h;simp only at h;cases a:sv.val with
  |none=>simp[a]at h
  |some v=>simp only[a]at h;exact⟨sv,v,rfl,a,h⟩

theorem AY{P:Program}{n ty:Nat}:∀(vs:List Value)(w:World)(cells:List Value)(off i:Nat),w.heap[n]? =some (.cells cells.toArray ty (0,0))->
  off+i+vs.length<=cells.length->(∀v∈vs,bo v=true)->
  ∃w',(storeCells ⟨n,off,none⟩ vs i).run P w= .ok () w'/\aC w w' n ty (setCells cells (off+i) vs):=by
 intro vs;induction vs with
 |nil=>
  intro w cells off i h _ _;exact⟨w,by simp[storeCells],⟨h,fun _ _=>rfl,rfl,rfl,rfl,rfl⟩⟩
 |cons v r ih=>
  intro w cells off i h hl d;have h1:w.cell? ((⟨n,off,none⟩:Addr).add i)=some (cells[off+i]'(by simp at hl;omega)):=by
   rw[yi h,af (show off+i<cells.length by simp at hl;omega)]
  have g:w.frozen? ((⟨n,off,none⟩:Addr).add i)=false:=by
   rw[jw];simp[World.frozen?,h]
  have hw:(w.setCell ((⟨n,off,none⟩:Addr).add i) v).heap[n]? =some (.cells (cells.set (off+i) v).toArray ty (0,0)):=by
   rw[jw];simp only[World.setCell,OS,CM,h];simp
  obtain⟨w',j,a⟩:=ih (w.setCell ((⟨n,off,none⟩:Addr).add i) v) (cells.set (off+i) v) off (i+1) hw (by simp at hl⊢;omega) (fun u hu=>d u (by simp[hu]));have l:(store ((⟨n,off,none⟩:Addr).add i) v).run P w= .ok () (w.setCell ((⟨n,off,none⟩:Addr).add i) v):=by
   have m:=d v sm;cases v<;>first|(simp[bo]at m;done)|simp[store,Sem.run,h1,g]
  refine⟨w',by simp[storeCells,Sem.run_bind,l,j],⟨?_,fun k e=> ?_,?_,a.os,a.tape,a.output⟩⟩
  ·have:=a.at_;simpa[setCells,Ij]using this
  ·rw[a.rest k e];rw[jw];simp only[World.setCell,OS];rw[aq (oi e)]
  ·rw[a.size];simp[World.setCell]

theorem aC.ext{B ty n:Nat}{w w':World}{cells a:List Value}{ts:List Nat}(h:aC w w' n ty a)(hB:B<=n)(d:w.heap[n]? =some (.cells cells.toArray ty (0,0)))(g:ty∈ts):Ext B ts w w':=
 ⟨⟨h.os,h.tape,h.output,by rw[h.size];exact fs _,fun k i=>h.rest k om⟩,fun k i=>by
  by_cases e:k=n
  ·subst e;exact .inr ⟨ty,g,_,_,_,d,h.at_⟩
  ·exact .inl (h.rest k e)⟩

theorem Ext.trans'{B:Nat}{ts:List Nat}{w w1 a:World}(h:Ext B ts w w1)(k:Ext B ts w1 a):Ext B ts w a:=
 ⟨h.below.trans k.below,fun i hi=>by
  rcases k.other i (qc hi h.below.size)with e|⟨t,d,c1,c2,fr,g,j⟩
  ·rw[e];exact h.other i hi
  ·rcases h.other i hi with l|⟨q,m,d1,d2,n,f1,f2⟩
   ·exact .inr ⟨t,d,c1,c2,fr,by rw[<-l];exact g,j⟩
   ·rw[g]at f2;cases f2;exact .inr ⟨t,d,d1,c2,fr,f1,j⟩⟩

theorem JP{P:Program}{t:TypeId}{n:Nat}(h:P.cellsOf t=n)(a:known P t=true)(w:World):(sizeOf t).run P w= .ok n w:=by
 obtain⟨d,e⟩:=kL a;rw[run_sizeOf e,h]

theorem EN{Q:Prop}:∀{l:List Value},Ah l Q->oZ l=true/\Q:=by
 intro l;induction l with
 |nil=>intro h;exact⟨rfl,h⟩
 |cons v r ih=>
  intro h;unfold Ah JF at h;cases v<;>first
   |exact h.elim
   |(obtain⟨h1,a⟩:=ih h;exact⟨by simp[oZ,bo,h1],a⟩)
theorem EO:∀{l:List Value},oZ l=true->∀v∈l,bo v=true:=by
 intro l;induction l with
 |nil=>intro _ v a;cases a
 |cons x r ih=>
  intro h v a;simp only[oZ,cz]at h;rcases cy.1 a with rfl|a
  ·exact h.1
  ·exact ih h.2 v a

theorem xp{P:Program}{t:TypeId}{n ty:Nat}{v:Value}{w:World}{cells:List Value}{off:Nat}(a:known P t=true)(hs:v.cells.toList.length=P.cellsOf t)(d:oZ v.cells.toList=true)
  (h:w.heap[n]? =some (.cells cells.toArray ty (0,0))) (hl:off+v.cells.toList.length<=cells.length):
  ∃w',(storeVar t ⟨n,off,none⟩ v).run P w= .ok () w'/\aC w w' n ty (setCells cells off v.cells.toList):=by
 obtain⟨w',h1,e⟩:=AY (P:=P) (n:=n) (ty:=ty) v.cells.toList w cells off 0 h om (EO d);refine⟨w',?_,e⟩;simp only[storeVar,Sem.run_bind,JP rfl a,Result.andThen_ok];rw[aq (by simpa using hs)];exact h1

theorem mC{a:List rJ}{l:Nat}{x:rJ}(h:bB a l=some x):x.SM=l:=by
 induction a with
 |nil=>simp[bB]at h
 |cons y r ih=>
  rw[cD]at h;split at h
  ·rename_i e;cases h;exact e
  ·exact ih h

theorem JQ{a:List rJ}{l:Nat}{x:rJ}(h:bB a l=some x):hasType x.ty a=true:=by
 induction a with
 |nil=>simp[bB]at h
 |cons y r ih=>
  rw[cD]at h;simp only[hasType];split at h
  ·cases h;simp
  ·cases hb:Nat.beq y.ty x.ty with
   |true=>rfl
   |false=>exact ih h

theorem EP{dyn q:Bool}(hq:q=true->pY o=false)(inv:Inv c b st T wa)(h:effect c dyn o st K):AW c q b st T o wa K:=by
 unfold effect at h;cases E:o.op<;>simp only[E]at h<;>try exact h.elim
 case alloc t=>
  cases C:o.dst with
  |none=>simp[C]at h
  |some l=>
   cases hz:zeroCells c.P t with
   |none=>simp[C,hz]at h
   |some cells=>
    simp only[C,hz]at h;unfold zeroCells at hz;obtain⟨z,V,rfl⟩:=ob.1 hz;obtain⟨i,hi,W⟩:=tm.1 V;intro next Q hn
    unfold Oper.wp;have F:(execOp (act T).eval o).run c.P wa= .ok (.value (.pointer (some ⟨wa.heap.size,0,none⟩))) (wa.alloc (.cells z.cells t)):=by
     simp[execOp,E,Instr.alloc,zeroValue,typeInfo,program,Sem.run_bind,Sem.run,hi,W,newVar,newRow,newObj]
    rw[F];refine hn _ _ ⟨_,_,_,h,?_,AX inv l t z.cells.toList,fun _=>yW C (by simp[th,E]) _ _ _⟩;simp[SV.den]
 case box t x=>
  cases C:o.dst with
  |none=>simp[C]at h
  |some l=>
   simp only[C]at h;obtain⟨sv,v,M,N,G⟩:=rQ h;intro next Q hn
   unfold Oper.wp;have e:=cG inv.env M;rw[qa N b]at e;have F:(execOp (act T).eval o).run c.P wa= .ok (.value (.pointer (some ⟨wa.heap.size,0,none⟩))) (wa.alloc (.cells v.cells t)):=by
    simp[execOp,E,Instr.box,Sem.run_bind,Sem.run,newVar,newRow,newObj,e]
   rw[F];refine hn _ _ ⟨_,_,_,G,?_,AX inv l t v.cells.toList,fun _=>yW C (by simp[th,E]) _ _ _⟩;simp[SV.den]
 case store t x y=>
  cases hx:ev st x with
  |none=>simp[hx]at h
  |some sx=>
   have ex:=cG inv.env hx;rw[hx]at h;cases sx with
   |loc l off=>
    simp only at h;cases hb:bB st.boxes l with
    |none=>simp[hb]at h
    |some D=>
     rw[hb]at h;simp only at h;obtain⟨sv,v,M,N,h⟩:=rQ h;have O:=cG inv.env M;rw[qa N b]at O;split at h
     ·exact h.elim
     ·rename_i A;simp only[cz]at A;obtain⟨⟨c1,c2⟩,c4⟩:=A;obtain⟨c3,h⟩:=EN h;have c1:=beq_true c1;have c4:=Jq c4;have H:=inv.box.at_ l D hb;obtain⟨w',F,a⟩:=xp (P:=c.P) (t:=t) (v:=v) c2 c1 c3 H.2 c4;intro next Q hn
      unfold Oper.wp;have R:(execOp (act T).eval o).run c.P wa= .ok .skip w':=by
       simp[execOp,E,Instr.storeAt,Instr.sureAddr,Sem.run_bind,ex,O,SV.den,F]
      rw[R];refine hn _ _ ⟨b,.u,_,h,rfl,?_,fun e=>absurd (hq e) (by simp[pY,E])⟩;have I:=inv.xo;refine⟨inv.size,inv.env,⟨fun m x hm=> ?_,fun m n x y hm S J=> ?_⟩,inv.lo,?_,fun m x hm L=> ?_,inv.base.trans (a.ext (ts:=[D.ty]) H.1 H.2 sm).below⟩
      ·simp only[cD,dr]at hm;by_cases e:l=m
       ·subst e;rw[bm (mC hb)]at hm;cases hm;exact⟨H.1,a.at_⟩
       ·rw[aq (by rw[mC hb];exact e),aq (oi e)]at hm;have:=inv.box.at_ m x hm;exact⟨this.1,by rw[a.rest _ (inv.box.ne m l x D hm hb (oi e))];exact this.2⟩
      ·simp only[cD,dr]at hm S;have hex:∀k z,(if D.SM=k then some {D with cells:=setCells D.cells off v.cells.toList}else if k=l then none else bB st.boxes k)=some z->∃z',bB st.boxes k=some z':=fun k z hz=>by
        by_cases e:l=k
        ·subst e;exact⟨D,hb⟩
        ·rw[aq (by rw[mC hb];exact e),aq (oi e)]at hz;exact⟨z,hz⟩
       obtain⟨x',DD⟩:=hex m x hm;obtain⟨y',EM⟩:=hex n y S;exact inv.box.ne m n x' y' DD EM J
      ·have hB:c.B<=b l:=H.1;cases X:D.new with
       |true=>
        have hge:=inv.new l D hb X;refine⟨I.below.trans (a.ext (ts:=[D.ty]) hB H.2 sm).below,fun k Y=> ?_⟩;have Y:k<st.w.heap.size:=Y;rw[a.rest k om];exact I.other k Y
       |false=>
        exact(I.mono fun t ht=>Mc.2 (.inr ht)).trans' (a.ext hB H.2 (Mc.2 (.inl rfl)))
      ·simp only[cD,dr]at hm;by_cases e:l=m
       ·subst e;rw[bm (mC hb)]at hm;cases hm;exact inv.new _ D hb L
       ·rw[aq (by rw[mC hb];exact e),aq (oi e)]at hm;exact inv.new m x hm L
   |v u=>
    cases u<;>try exact h.elim
    rename_i q;cases q<;>try exact h.elim
    rename_i ad;simp only at h;obtain⟨sv,v,M,N,h⟩:=rQ h;have O:=cG inv.env M;rw[qa N b]at O;split at h
    ·exact h.elim
    ·rename_i A;simp only[cz]at A;obtain⟨⟨c1,c2⟩,c3⟩:=A;have c1:=beq_true c1;obtain⟨Z,h,r,hw,C,CV,_⟩:=cW inv h;obtain⟨cs,ty,hB,hsp,U,hl,hty,G⟩:=h;obtain⟨n,off,sp⟩:=ad;cases hsp;rw[hw]at U;obtain⟨w',F,a⟩:=xp (P:=c.P) (t:=t) (v:=v) c2 c1 c3 U hl;intro next Q hn
     unfold Oper.wp;have R:(execOp (act T).eval o).run c.P wa= .ok .skip w':=by
      simp[execOp,E,Instr.storeAt,Instr.sureAddr,Sem.run_bind,ex,O,SV.den,F]
     rw[R];refine hn _ _ ⟨b,.u,_,G w' (by rw[hw];exact a),rfl,?_,fun e=>absurd (hq e) (by simp[pY,E])⟩;have J:∀m x,bB Z.boxes m=some x->b m≠n:=fun m x hm e=>by
      have:=(r.box.at_ m x hm).2;rw[e,U]at this;cases this;exact absurd (JQ hm) (by rw[hty];simp)
     refine⟨r.size,r.env,⟨fun m x hm=> ?_,r.box.ne⟩,?_,?_,fun m x hm L=> ?_,r.base.trans (a.ext (ts:=[ty]) hB U sm).below⟩
     ·have:=r.box.at_ m x hm;exact⟨this.1,by rw[a.rest _ (J m x hm)];exact this.2⟩
     ·show c.B<=w'.heap.size;rw[a.size];exact hw▸r.lo
     ·simp only[C]
     ·exfalso;have h1:=r.new m x hm L;have h2:=(ax.1 (r.box.at_ m x hm).2).1;rw[hw]at h1;omega
   |_=>exact h.elim
 case call cl=>
  cases CP:cl.callee with
  |value x=>
   simp only[CP]at h;split at h
   ·rename_i g first cap vs hx XY
    have ex:=cG inv.env hx;have Hd:=Ak inv.env XY;have cB:az c.P g=true/\gZ c.B st fun st=>Pure c.P g (first.toList++vs++cap.toList).toArray st.w fun v w1=>
      Tu (sh c.P o.type) fun x=>v=x/\K (.v x) {env:=st.env,boxes:=yR st.boxes,w:=w1,d:=none}:=by
     unfold Ae at h;cases dyn with
     |true=>exact h
     |false=>
      simp only at h;cases A:az c.P g with
      |false=>rw[A]at h;exact h.elim
      |true=>rw[A]at h;exact⟨rfl,h⟩
    obtain⟨A,h⟩:=cB;obtain⟨Z,h,r,hw,C,CV,lL⟩:=cW inv h;intro next Q hn
    unfold Oper.wp;have R:(execOp (act T).eval o).run c.P wa= .ok (.enter g (first.toList++vs++cap.toList).toArray) wa:=by
     have e1:(first++cl.args.map (act T).eval)++cap=(first.toList++vs++cap.toList).toArray:=by
      apply MY;simp[<-Hd]
     unfold az at A;cases hf:c.P.funcs[g]? with
     |none=>simp[hf]at A
     |some fn=>
      cases hb:fn.body with
      |none=>simp[hf,hb]at A
      |some bd=>
       simp only[hf,hb]at A
       have hn : fn.name ≠ "runtime.NumGoroutine" := by
        intro e;simp[e]at A
       simp only[execOp,E,Sem.run_bind,resolve,CP,ex,SV.den,Deferred.ofValue,Sem.run_pure,Result.andThen_ok,invoke,e1];simp[callFunc,program,Sem.run_bind,Sem.run,hf,hb,hn]
    rw[R,Oper.upon_enter];rw[hw]at h;refine Calls.mono h fun e w'' he=> ?_
    obtain⟨v,rfl,j,G⟩:=he;obtain⟨y,rfl,G⟩:=yk G;refine hn _ _ ⟨b,_,_,G,rfl,?_,fun _=>(lL.yR).kept _ _ _ _ j.size j.block⟩;have He:=r.lo;rw[hw]at He;refine⟨r.size,r.env,tf.yR (st:={Z with w:=w''}) ⟨fun m x hm=> ?_,r.box.ne⟩,dT He j.size,rfl,fun m x hm L=> ?_,r.base.trans (j.mono He)⟩
    ·have:=r.box.at_ m x hm;refine⟨this.1,?_⟩;rw[j.block _ (ax.1 this.2).1];exact this.2
    ·rw[rP hm]at L;cases L
   ·exact h.elim
  |_=>simp[CP]at h
end
end Go.Proofs.YtbcojgcjjpggnaaGreatDoor.Vc
